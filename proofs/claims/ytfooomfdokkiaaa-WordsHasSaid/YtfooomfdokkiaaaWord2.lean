/-
  What words.split does with each of its three closures: the words of the text are handed on, one by one. Conditions: texts are shorter than 2^40.
-/
import Derived.Test.YtfooomfdokkiaaaWord
import Derived.StillTailTactics
namespace Go.Proofs.Ytfooomfdokkiaaa
open Go.RowKit
set_option linter.unusedVariables false
theorem Col.below_ {B ho : Nat} {w w' : World} {ws : List (List UInt8)} (h : Col B w ho ws) {g : Nat} (hg : w.grownBy w' (some g)) (hne : ho ≠ g) (hown : ∀ v, w.heap[ho]? = some (.cells #[v] 24 (0, 0)) → v.ownBlock ≠ some g) : Col B w' ho ws := by
  obtain ⟨v, h1, h2⟩ := h
  exact ⟨v, h1.grown hg (by intro e; injection e with e; exact hne e), h2.kept hg (.inr (hown v h1))⟩
/-- a store into a block of another element type leaves the collected texts -/
theorem Col.set_ {B ho : Nat} {w : World} {ws : List (List UInt8)} (h : Col B w ho ws) {g : Nat} {t : TypeId} {cs : Array Value} (hb : Blk w g t cs) (h1 : t ≠ 24) (h2 : t ≠ 9) (u : Value) : Col B (w.setCell ⟨g, 0, none⟩ u) ho ws := by
  obtain ⟨v, k1, k2⟩ := h
  refine ⟨v, k1.far (fun e => ?_) _, ownsRow_setCell_other k2 (own_ne_blk k2 hb (Ne.symm h2)) u⟩
  have e' : ho = g := e
  subst e'
  have := k1.symm.trans hb
  simp at this
  exact h1 this.2.symm
theorem row_set {B hr : Nat} {w : World} {v v' : Value} {row : List UInt8} (hb : Blk w hr 28 #[v]) (hown : w.ownsRow B 5 1 v' row.length (bv row)) : RowOf B (w.setCell ⟨hr, 0, none⟩ v') hr row := by
  have hne := own_ne_blk hown hb (by decide)
  exact ⟨v', hb.set_ 0 v', ownsRow_setCell_other hown (a := ⟨hr, 0, none⟩) hne v'⟩
theorem HC_blk {B ho : Nat} {w : World} {ws : List (List UInt8)} (h : Col B w ho ws) : Blk w ho 24 #[Classical.choose h] := (Classical.choose_spec h).1
/-- a row cut to nothing owns nothing -/
theorem own_cut0 {w : World} {B n : Nat} {A : Option Addr} {c : Nat} {e : TypeId} {xs : List Value} (h : w.ownsRow B e 1 (.slice A n c) n xs) : w.ownsRow B e 1 (.slice A 0 c) 0 [] := by
  rcases h.2 with ⟨h1, rfl⟩ | ⟨g, cap, cur, h1, h2, h3, h4, h5, h6, h7⟩
  · simp only [Value.slice.injEq] at h1
    obtain ⟨rfl, _, rfl⟩ := h1
    exact World.ownsRow_nil _ _ _ _
  · simp only [Value.slice.injEq] at h1
    obtain ⟨rfl, _, rfl⟩ := h1
    exact ⟨rfl, .inr ⟨g, c, cur, rfl, h2, h3, Nat.zero_le _, h5, h6, by simp⟩⟩


set_option maxRecDepth 100000 in
set_option maxHeartbeats 1600000 in
theorem w_tell (w : World) (B ho hr hw : Nat) (ws : List (List UInt8)) (row : List UInt8) (hC : Col B w ho ws) (hR : RowOf B w hr row) (hW : Blk w hw 44 #[.func (.func 23) #[] #[.pointer (some ⟨ho, 0, none⟩)]]) (hB : B ≤ ho) (hBr : B ≤ hr) (hB2 : B ≤ w.heap.size) (hws : ws.length + 1 ≤ 1099511627776) (hrow : row.length ≤ 1099511627776) :
    Calls Try.prog 30 #[.pointer (some ⟨hr, 0, none⟩), .pointer (some ⟨hw, 0, none⟩)] w fun e w' => e = .returned (.tuple #[]) ∧ RowOf B w' hr [] ∧ Blk w' hw 44 #[.func (.func 23) #[] #[.pointer (some ⟨ho, 0, none⟩)]] ∧ Col B w' ho (ws ++ (emit row).map (fun t => t)) ∧ Below B w w' := by
  obtain ⟨v, hb, hown⟩ := hR
  have hrd := Rd.of_own hown
  obtain ⟨A, c, rfl, hcap⟩ := hrd.form
  have h0 := hb.cell 0
  have h1 := hW.cell 0
  simp at h0 h1
  have hfz := hb.frozen 0
  rcases row with _ | ⟨x, r⟩
  · have HB := Lib.hid hb; have HO := Lib.hid (own_cut0 hown); have HW := Lib.hid hW; have HC := Lib.hid hC
    clear hb hown hrd hW hC
    go_enter Try.func30, Try.ntmps30
    go_wp2_with fail
    go_end0
    refine ⟨rfl, row_set HB.out HO.out, HW.out.far (fun e => ?_) _, ?_, (Below.refl _ _).setCell hBr _⟩
    · have e' : hw = hr := e
      subst e'
      have := HB.out.symm.trans HW.out
      simp at this
    · have e0 : ws ++ (emit []).map (fun t => t) = ws := by simp [emit]
      rw [e0]
      exact HC.out.set_ HB.out (by decide) (by decide) _
  · have hl : (0 : Int) < (x :: r).length := by simp only [List.length_cons]; omega
    obtain ⟨row, hrw⟩ : ∃ row, row = x :: r := ⟨_, rfl⟩
    rw [← hrw] at hl hrow hb hown hrd hcap h0 ⊢
    have hem : emit row = [row.take 24] := by unfold emit; rw [if_neg (by rw [hrw]; simp)]
    have hsplit : ∃ m : Nat, m ≤ row.length ∧ m ≤ 24 ∧ row.take 24 = row.take m ∧ (if (24 : Int) < (row.length : Int) then (24 : Int) else (row.length : Int)) = (m : Int) := by
      rcases Nat.lt_or_ge 24 row.length with h | h
      · exact ⟨24, by omega, by omega, rfl, if_pos (by omega)⟩
      · exact ⟨row.length, by omega, by omega, by rw [List.take_of_length_le h, List.take_length], if_neg (by omega)⟩
    obtain ⟨m, hml, hm24, htk, hm⟩ := hsplit
    obtain ⟨T, hT⟩ : ∃ T, T = row.take m := ⟨_, rfl⟩
    have hTl : T.length ≤ 24 := by rw [hT]; simp; omega
    have hhd := hrd.head_ hml
    rw [Nat.mul_one, bv_take, ← hT] at hhd
    have hcv := run_bstr Try.underlying28 Try.underlying5 Try.underlying9 (w := w.drew) hhd
    rw [htk, ← hT] at hem
    have hm0 : (0 : Int) ≤ m := by omega
    have hmc : (m : Int) ≤ c := by omega
    have HB := Lib.hid hb; have HO := Lib.hid (own_cut0 hown); have HW := Lib.hid hW; have HC := Lib.hid hC; have HOW := Lib.hid hown
    have HEM := Lib.hid hem; have HM := Lib.hid hm; have HML := Lib.hid hml; have HT := Lib.hid hT
    have hne1 : hr ≠ ho := by
      intro e
      subst e
      obtain ⟨v, k1, _⟩ := hC
      have := k1.symm.trans hb
      simp at this
    have hne2 : hw ≠ ho := by
      intro e
      subst e
      obtain ⟨v, k1, _⟩ := hC
      have := k1.symm.trans hW
      simp at this
    have hne3 : hw ≠ hr := by
      intro e
      subst e
      have := hb.symm.trans hW
      simp at this
    clear hb hown hrd hW hC hhd hem htk hrw hml hm24 hm hT
    go_enter Try.func30, Try.ntmps30
    go_wp2_with fail
    go_region_held3 (fun w' => w'.cell? ⟨hr, 0, none⟩ = some (.slice A row.length c) ∧ w'.cell? ⟨hw, 0, none⟩ = some (.func (.func 23) #[] #[.pointer (some ⟨ho, 0, none⟩)]) ∧ (convert 28 9 (.slice A m c)).run Try.prog w' = .ok (.string ⟨T.toArray⟩) w') (first | go_keep | (go_split_ands; refine ⟨?_, ?_, ?_⟩ <;> assumption))
      ((first | (rw [if_pos (by rfl)]; go_simp; rw [HM.out]) | (go_at_call 23; refine (w_word w.drew B ho ws T HC.out hB hB2 hws hTl).mono ?_; rintro e w2 ⟨rfl, hC2, hK2⟩; have hb2 := hK2.blk HB.out hne1 (by decide); have hw2 := hK2.blk HW.out hne2 (by decide); have hq0 := hb2.cell 0; have hq1 := hw2.cell 0; simp at hq0 hq1; have hq2 := hb2.frozen 0; have hd2 := (Rd.of_own (hK2.own HOW.out (own_ne_blk HOW.out (HC_blk HC.out) (by decide)))).head_ HML.out; rw [Nat.mul_one, bv_take, ← HT.out] at hd2; have hcv2 := run_bstr Try.underlying28 Try.underlying5 Try.underlying9 hd2; have HC2 := Lib.hid hC2; have HK2 := Lib.hid hK2; have HB2 := Lib.hid hb2; have HW2 := Lib.hid hw2; clear hC2 hK2 hb2 hw2 hd2)))
    go_wp2_with fail
    go_end0
    have hrow2 : w2.ownsRow B 5 1 (.slice A 0 c) 0 [] := HK2.out.own HO.out (by
      have := own_ne_blk HO.out (HC_blk HC.out) (by decide)
      exact this)
    refine ⟨rfl, row_set HB2.out hrow2, HW2.out.far (fun e => hne3 e) _, ?_, ((Below.refl B w).drew.trans HK2.out.1).setCell hBr _⟩
    rw [HEM.out]
    exact HC2.out.set_ HB2.out (by decide) (by decide) _

set_option maxRecDepth 100000 in
set_option maxHeartbeats 1600000 in
theorem t_tell (w : World) (B ho hr hw : Nat) (ws : List (List UInt8)) (row : List UInt8) (hC : Col B w ho ws) (hR : RowOf B w hr row) (hW : Blk w hw 44 #[.func (.func 25) #[] #[.pointer (some ⟨ho, 0, none⟩)]]) (hB : B ≤ ho) (hBr : B ≤ hr) (hB2 : B ≤ w.heap.size) (hws : ws.length + 1 ≤ 1099511627776) (hrow : row.length ≤ 1099511627776) :
    Calls Try.prog 30 #[.pointer (some ⟨hr, 0, none⟩), .pointer (some ⟨hw, 0, none⟩)] w fun e w' => e = .returned (.tuple #[]) ∧ RowOf B w' hr [] ∧ Blk w' hw 44 #[.func (.func 25) #[] #[.pointer (some ⟨ho, 0, none⟩)]] ∧ Col B w' ho (ws ++ (emit row).map (fun t => t)) ∧ Below B w w' := by
  obtain ⟨v, hb, hown⟩ := hR
  have hrd := Rd.of_own hown
  obtain ⟨A, c, rfl, hcap⟩ := hrd.form
  have h0 := hb.cell 0
  have h1 := hW.cell 0
  simp at h0 h1
  have hfz := hb.frozen 0
  rcases row with _ | ⟨x, r⟩
  · have HB := Lib.hid hb; have HO := Lib.hid (own_cut0 hown); have HW := Lib.hid hW; have HC := Lib.hid hC
    clear hb hown hrd hW hC
    go_enter Try.func30, Try.ntmps30
    go_wp2_with fail
    go_end0
    refine ⟨rfl, row_set HB.out HO.out, HW.out.far (fun e => ?_) _, ?_, (Below.refl _ _).setCell hBr _⟩
    · have e' : hw = hr := e
      subst e'
      have := HB.out.symm.trans HW.out
      simp at this
    · have e0 : ws ++ (emit []).map (fun t => t) = ws := by simp [emit]
      rw [e0]
      exact HC.out.set_ HB.out (by decide) (by decide) _
  · have hl : (0 : Int) < (x :: r).length := by simp only [List.length_cons]; omega
    obtain ⟨row, hrw⟩ : ∃ row, row = x :: r := ⟨_, rfl⟩
    rw [← hrw] at hl hrow hb hown hrd hcap h0 ⊢
    have hem : emit row = [row.take 24] := by unfold emit; rw [if_neg (by rw [hrw]; simp)]
    have hsplit : ∃ m : Nat, m ≤ row.length ∧ m ≤ 24 ∧ row.take 24 = row.take m ∧ (if (24 : Int) < (row.length : Int) then (24 : Int) else (row.length : Int)) = (m : Int) := by
      rcases Nat.lt_or_ge 24 row.length with h | h
      · exact ⟨24, by omega, by omega, rfl, if_pos (by omega)⟩
      · exact ⟨row.length, by omega, by omega, by rw [List.take_of_length_le h, List.take_length], if_neg (by omega)⟩
    obtain ⟨m, hml, hm24, htk, hm⟩ := hsplit
    obtain ⟨T, hT⟩ : ∃ T, T = row.take m := ⟨_, rfl⟩
    have hTl : T.length ≤ 24 := by rw [hT]; simp; omega
    have hhd := hrd.head_ hml
    rw [Nat.mul_one, bv_take, ← hT] at hhd
    have hcv := run_bstr Try.underlying28 Try.underlying5 Try.underlying9 (w := w.drew) hhd
    rw [htk, ← hT] at hem
    have hm0 : (0 : Int) ≤ m := by omega
    have hmc : (m : Int) ≤ c := by omega
    have HB := Lib.hid hb; have HO := Lib.hid (own_cut0 hown); have HW := Lib.hid hW; have HC := Lib.hid hC; have HOW := Lib.hid hown
    have HEM := Lib.hid hem; have HM := Lib.hid hm; have HML := Lib.hid hml; have HT := Lib.hid hT
    have hne1 : hr ≠ ho := by
      intro e
      subst e
      obtain ⟨v, k1, _⟩ := hC
      have := k1.symm.trans hb
      simp at this
    have hne2 : hw ≠ ho := by
      intro e
      subst e
      obtain ⟨v, k1, _⟩ := hC
      have := k1.symm.trans hW
      simp at this
    have hne3 : hw ≠ hr := by
      intro e
      subst e
      have := hb.symm.trans hW
      simp at this
    clear hb hown hrd hW hC hhd hem htk hrw hml hm24 hm hT
    go_enter Try.func30, Try.ntmps30
    go_wp2_with fail
    go_region_held3 (fun w' => w'.cell? ⟨hr, 0, none⟩ = some (.slice A row.length c) ∧ w'.cell? ⟨hw, 0, none⟩ = some (.func (.func 25) #[] #[.pointer (some ⟨ho, 0, none⟩)]) ∧ (convert 28 9 (.slice A m c)).run Try.prog w' = .ok (.string ⟨T.toArray⟩) w') (first | go_keep | (go_split_ands; refine ⟨?_, ?_, ?_⟩ <;> assumption))
      ((first | (rw [if_pos (by rfl)]; go_simp; rw [HM.out]) | (go_at_call 25; refine (t_word w.drew B ho ws T HC.out hB hB2 hws hTl).mono ?_; rintro e w2 ⟨rfl, hC2, hK2⟩; have hb2 := hK2.blk HB.out hne1 (by decide); have hw2 := hK2.blk HW.out hne2 (by decide); have hq0 := hb2.cell 0; have hq1 := hw2.cell 0; simp at hq0 hq1; have hq2 := hb2.frozen 0; have hd2 := (Rd.of_own (hK2.own HOW.out (own_ne_blk HOW.out (HC_blk HC.out) (by decide)))).head_ HML.out; rw [Nat.mul_one, bv_take, ← HT.out] at hd2; have hcv2 := run_bstr Try.underlying28 Try.underlying5 Try.underlying9 hd2; have HC2 := Lib.hid hC2; have HK2 := Lib.hid hK2; have HB2 := Lib.hid hb2; have HW2 := Lib.hid hw2; clear hC2 hK2 hb2 hw2 hd2)))
    go_wp2_with fail
    go_end0
    have hrow2 : w2.ownsRow B 5 1 (.slice A 0 c) 0 [] := HK2.out.own HO.out (by
      have := own_ne_blk HO.out (HC_blk HC.out) (by decide)
      exact this)
    refine ⟨rfl, row_set HB2.out hrow2, HW2.out.far (fun e => hne3 e) _, ?_, ((Below.refl B w).drew.trans HK2.out.1).setCell hBr _⟩
    rw [HEM.out]
    exact HC2.out.set_ HB2.out (by decide) (by decide) _

set_option maxRecDepth 100000 in
set_option maxHeartbeats 1600000 in
theorem s_tell (w : World) (B ho hr hw : Nat) (ws : List (List UInt8)) (row : List UInt8) (hC : Col B w ho ws) (hR : RowOf B w hr row) (hW : Blk w hw 44 #[.func (.func 26) #[] #[.pointer (some ⟨ho, 0, none⟩)]]) (hB : B ≤ ho) (hBr : B ≤ hr) (hB2 : B ≤ w.heap.size) (hws : ws.length + 1 ≤ 1099511627776) (hrow : row.length ≤ 1099511627776) :
    Calls Try.prog 30 #[.pointer (some ⟨hr, 0, none⟩), .pointer (some ⟨hw, 0, none⟩)] w fun e w' => e = .returned (.tuple #[]) ∧ RowOf B w' hr [] ∧ Blk w' hw 44 #[.func (.func 26) #[] #[.pointer (some ⟨ho, 0, none⟩)]] ∧ Col B w' ho (ws ++ (emit row).map (fun t => 64 :: t)) ∧ Below B w w' := by
  obtain ⟨v, hb, hown⟩ := hR
  have hrd := Rd.of_own hown
  obtain ⟨A, c, rfl, hcap⟩ := hrd.form
  have h0 := hb.cell 0
  have h1 := hW.cell 0
  simp at h0 h1
  have hfz := hb.frozen 0
  rcases row with _ | ⟨x, r⟩
  · have HB := Lib.hid hb; have HO := Lib.hid (own_cut0 hown); have HW := Lib.hid hW; have HC := Lib.hid hC
    clear hb hown hrd hW hC
    go_enter Try.func30, Try.ntmps30
    go_wp2_with fail
    go_end0
    refine ⟨rfl, row_set HB.out HO.out, HW.out.far (fun e => ?_) _, ?_, (Below.refl _ _).setCell hBr _⟩
    · have e' : hw = hr := e
      subst e'
      have := HB.out.symm.trans HW.out
      simp at this
    · have e0 : ws ++ (emit []).map (fun t => 64 :: t) = ws := by simp [emit]
      rw [e0]
      exact HC.out.set_ HB.out (by decide) (by decide) _
  · have hl : (0 : Int) < (x :: r).length := by simp only [List.length_cons]; omega
    obtain ⟨row, hrw⟩ : ∃ row, row = x :: r := ⟨_, rfl⟩
    rw [← hrw] at hl hrow hb hown hrd hcap h0 ⊢
    have hem : emit row = [row.take 24] := by unfold emit; rw [if_neg (by rw [hrw]; simp)]
    have hsplit : ∃ m : Nat, m ≤ row.length ∧ m ≤ 24 ∧ row.take 24 = row.take m ∧ (if (24 : Int) < (row.length : Int) then (24 : Int) else (row.length : Int)) = (m : Int) := by
      rcases Nat.lt_or_ge 24 row.length with h | h
      · exact ⟨24, by omega, by omega, rfl, if_pos (by omega)⟩
      · exact ⟨row.length, by omega, by omega, by rw [List.take_of_length_le h, List.take_length], if_neg (by omega)⟩
    obtain ⟨m, hml, hm24, htk, hm⟩ := hsplit
    obtain ⟨T, hT⟩ : ∃ T, T = row.take m := ⟨_, rfl⟩
    have hTl : T.length ≤ 24 := by rw [hT]; simp; omega
    have hhd := hrd.head_ hml
    rw [Nat.mul_one, bv_take, ← hT] at hhd
    have hcv := run_bstr Try.underlying28 Try.underlying5 Try.underlying9 (w := w.drew) hhd
    rw [htk, ← hT] at hem
    have hm0 : (0 : Int) ≤ m := by omega
    have hmc : (m : Int) ≤ c := by omega
    have HB := Lib.hid hb; have HO := Lib.hid (own_cut0 hown); have HW := Lib.hid hW; have HC := Lib.hid hC; have HOW := Lib.hid hown
    have HEM := Lib.hid hem; have HM := Lib.hid hm; have HML := Lib.hid hml; have HT := Lib.hid hT
    have hne1 : hr ≠ ho := by
      intro e
      subst e
      obtain ⟨v, k1, _⟩ := hC
      have := k1.symm.trans hb
      simp at this
    have hne2 : hw ≠ ho := by
      intro e
      subst e
      obtain ⟨v, k1, _⟩ := hC
      have := k1.symm.trans hW
      simp at this
    have hne3 : hw ≠ hr := by
      intro e
      subst e
      have := hb.symm.trans hW
      simp at this
    clear hb hown hrd hW hC hhd hem htk hrw hml hm24 hm hT
    go_enter Try.func30, Try.ntmps30
    go_wp2_with fail
    go_region_held3 (fun w' => w'.cell? ⟨hr, 0, none⟩ = some (.slice A row.length c) ∧ w'.cell? ⟨hw, 0, none⟩ = some (.func (.func 26) #[] #[.pointer (some ⟨ho, 0, none⟩)]) ∧ (convert 28 9 (.slice A m c)).run Try.prog w' = .ok (.string ⟨T.toArray⟩) w') (first | go_keep | (go_split_ands; refine ⟨?_, ?_, ?_⟩ <;> assumption))
      ((first | (rw [if_pos (by rfl)]; go_simp; rw [HM.out]) | (go_at_call 26; refine (s_word w.drew B ho ws T HC.out hB hB2 hws hTl).mono ?_; rintro e w2 ⟨rfl, hC2, hK2⟩; have hb2 := hK2.blk HB.out hne1 (by decide); have hw2 := hK2.blk HW.out hne2 (by decide); have hq0 := hb2.cell 0; have hq1 := hw2.cell 0; simp at hq0 hq1; have hq2 := hb2.frozen 0; have hd2 := (Rd.of_own (hK2.own HOW.out (own_ne_blk HOW.out (HC_blk HC.out) (by decide)))).head_ HML.out; rw [Nat.mul_one, bv_take, ← HT.out] at hd2; have hcv2 := run_bstr Try.underlying28 Try.underlying5 Try.underlying9 hd2; have HC2 := Lib.hid hC2; have HK2 := Lib.hid hK2; have HB2 := Lib.hid hb2; have HW2 := Lib.hid hw2; clear hC2 hK2 hb2 hw2 hd2)))
    go_wp2_with fail
    go_end0
    have hrow2 : w2.ownsRow B 5 1 (.slice A 0 c) 0 [] := HK2.out.own HO.out (by
      have := own_ne_blk HO.out (HC_blk HC.out) (by decide)
      exact this)
    refine ⟨rfl, row_set HB2.out hrow2, HW2.out.far (fun e => hne3 e) _, ?_, ((Below.refl B w).drew.trans HK2.out.1).setCell hBr _⟩
    rw [HEM.out]
    exact HC2.out.set_ HB2.out (by decide) (by decide) _
end Go.Proofs.Ytfooomfdokkiaaa

/-
  What words.letter, words.split with its closures, and words.Words compute. Conditions: texts are shorter than 2^40.
-/
import Derived.Test.YtfooomfdokkiaaaRows
import Derived.Test.YtfooomfdokkiaaaWordPure
import Derived.Test.YtfooomfdokkiaaaEngE
import Derived.Test.YtfooomfdokkiaaaBits
import Derived.Laws.EntriesVeiled
import Derived.Deep.QuietTactic
import Derived.BigQuiet
import Derived.Deep.RegionHeld3
namespace Go.Proofs.Ytfooomfdokkiaaa
open Go.RowKit
set_option linter.unusedVariables false
theorem sl_u8 : SlT Try.prog 28 5 1 1 (.int .u8 0) := slT_of Try.underlying28 (by kernel_rfl) rfl (by omega)
theorem sl_str : SlT Try.prog 24 9 1 16 (.string ⟨#[]⟩) := slT_of Try.underlying24 (by kernel_rfl) rfl (by omega)
theorem small_up (c : UInt8) (h1 : 65 ≤ c.toNat) (h2 : c.toNat ≤ 90) : ((small c).toNat : Int) = (c.toNat : Int) + 32 ∧ small c ≠ 0 := by
  have e : small c = c + 32 := if_pos ⟨h1, h2⟩
  have e2 : (c + 32).toNat = c.toNat + 32 := by
    rw [UInt8.toNat_add]
    show (c.toNat + 32) % 256 = _
    omega
  rw [e]
  refine ⟨by rw [e2]; omega, fun h => ?_⟩
  have := congrArg UInt8.toNat h
  rw [e2] at this
  simp at this
theorem small_lo (c : UInt8) (h : 97 ≤ c.toNat ∧ c.toNat ≤ 122 ∨ 48 ≤ c.toNat ∧ c.toNat ≤ 57) : small c = c ∧ small c ≠ 0 := by
  have e : small c = c := by unfold small; rw [if_neg (by omega), if_pos h]
  refine ⟨e, fun h0 => ?_⟩
  rw [e] at h0
  subst h0
  simp at h
theorem small_no (c : UInt8) (h1 : ¬ (65 ≤ c.toNat ∧ c.toNat ≤ 90)) (h2 : ¬ (97 ≤ c.toNat ∧ c.toNat ≤ 122 ∨ 48 ≤ c.toNat ∧ c.toNat ≤ 57)) : small c = 0 := by
  unfold small; rw [if_neg h1, if_neg h2]
set_option maxHeartbeats 800000 in
theorem letter_c (w : World) (c : UInt8) :
    Calls Try.prog 24 #[.int .u8 c.toNat] w fun e w' => e = .returned (.tuple #[.int .u8 (small c).toNat, .bool (decide (small c ≠ 0))]) ∧ w = w' := by
  have hc := c.toNat_lt
  obtain ⟨n, hn⟩ : ∃ n, n = c.toNat := ⟨_, rfl⟩
  by_cases h1 : 65 ≤ n ∧ n ≤ 90
  · have hs := small_up c (by omega) (by omega)
    rw [← hn] at hs hc ⊢
    have HS := Lib.hid hs
    clear hs hn
    obtain ⟨h2, h3⟩ := h1
    go_enter Try.func24, Try.ntmps24
    go_wp2
    go_ret2
    rw [HS.out.1, decide_eq_true HS.out.2]
    exact ⟨rfl, rfl⟩
  · by_cases h2 : 97 ≤ n ∧ n ≤ 122 ∨ 48 ≤ n ∧ n ≤ 57
    · have hs := small_lo c (by rw [← hn]; exact h2)
      rw [decide_eq_true hs.2, hs.1, ← hn]
      rw [← hn] at hc
      clear hs hn
      have h3 : (48 : Int) ≤ n := by omega
      by_cases h5 : 97 ≤ n
      · have h6 : n ≤ 122 := by omega
        have h7 : ¬ (n ≤ 90) := by omega
        clear h1 h2
        go_enter Try.func24, Try.ntmps24
        go_wp2
        go_ret2
        exact ⟨rfl, rfl⟩
      · have h6 : n ≤ 57 := by omega
        have h7 : ¬ (65 ≤ n) := by omega
        clear h1 h2
        go_enter Try.func24, Try.ntmps24
        go_wp2
        go_ret2
        exact ⟨rfl, rfl⟩
    · have hs := small_no c (by rw [← hn]; exact h1) (by rw [← hn]; exact h2)
      rw [hs, ← hn]
      rw [← hn] at hc
      clear hs hn
      have fin : decide ((0 : UInt8) ≠ 0) = false := by decide
      rw [fin]
      clear fin
      have hcases : n < 48 ∨ 57 < n ∧ n < 65 ∨ 90 < n ∧ n < 97 ∨ 122 < n := by omega
      clear h1 h2
      rcases hcases with h | ⟨h, h'⟩ | ⟨h, h'⟩ | h
      all_goals
        go_enter Try.func24, Try.ntmps24
        go_wp2
        go_ret2
        exact ⟨rfl, rfl⟩
/-- below B nothing has turned; of what lies above, rows of texts and block ho alone may have turned -/
def Keeps (B ho : Nat) (w w' : World) : Prop :=
  Below B w w' ∧ ∀ k cs t fr, k ≠ ho → t ≠ 9 → w.heap[k]? = some (.cells cs t fr) → w'.heap[k]? = w.heap[k]?
theorem Keeps.refl (B ho : Nat) (w : World) : Keeps B ho w w := ⟨Below.refl _ _, fun _ _ _ _ _ _ _ => rfl⟩
theorem Keeps.trans {B ho : Nat} {a b c : World} (h : Keeps B ho a b) (k : Keeps B ho b c) : Keeps B ho a c :=
  ⟨h.1.trans k.1, fun i cs t fr h1 h2 h3 => by
    have e := h.2 i cs t fr h1 h2 h3
    exact (k.2 i cs t fr h1 h2 (e.trans h3)).trans e⟩
theorem Keeps.blk {B ho : Nat} {w w' : World} (h : Keeps B ho w w') {g : Nat} {t : TypeId} {cs : Array Value} (hb : Blk w g t cs) (hne : g ≠ ho) (ht : t ≠ 9) : Blk w' g t cs :=
  (h.2 g cs t (0, 0) hne ht hb).trans hb
theorem Keeps.own {B ho base n : Nat} {w w' : World} {v : Value} {xs : List Value} (h : Keeps B ho w w') (hown : w.ownsRow base 5 1 v n xs) (hne : v.ownBlock ≠ some ho) : w'.ownsRow base 5 1 v n xs := by
  refine ⟨hown.1, ?_⟩
  rcases hown.2 with h0 | ⟨g, cap, cur, rfl, h1, h2, h3⟩
  · exact .inl h0
  · refine .inr ⟨g, cap, cur, rfl, h1, ?_, h3⟩
    exact (h.2 g cur _ _ (fun e => hne (by rw [e]; rfl)) (by decide) h2).trans h2
/-- the collecting variable: block ho holds a slice that owns the texts so far -/
def Col (B : Nat) (w : World) (ho : Nat) (ws : List (List UInt8)) : Prop :=
  ∃ v, Blk w ho 24 #[v] ∧ w.ownsRow B 9 1 v ws.length (strs ws)
/-- the row of letters: block hr holds a slice that owns them -/
def RowOf (B : Nat) (w : World) (hr : Nat) (row : List UInt8) : Prop :=
  ∃ v, Blk w hr 28 #[v] ∧ w.ownsRow B 5 1 v row.length (bv row)
theorem own_ne_blk {w : World} {B g n : Nat} {e t : TypeId} {v : Value} {xs : List Value} {cs : Array Value} (h : w.ownsRow B e 1 v n xs) (hb : Blk w g t cs) (hne : e ≠ t) : v.ownBlock ≠ some g := by
  rcases h.2 with ⟨rfl, _⟩ | ⟨g', cap, cur, rfl, _, hh, _⟩
  · simp [Value.ownBlock]
  · intro he
    have : g' = g := by simpa [Value.ownBlock] using he
    subst this
    unfold Blk at hb
    rw [hh] at hb
    injection hb with hb
    injection hb with _ ht
    exact hne ht
theorem row_keeps {B ho : Nat} {w w' : World} (h : Keeps B ho w w') {hr : Nat} {row : List UInt8} (hR : RowOf B w hr row) (hne : hr ≠ ho) (hO : ∃ cs, Blk w ho 24 cs) : RowOf B w' hr row := by
  obtain ⟨v, h1, h2⟩ := hR
  obtain ⟨cs, hcs⟩ := hO
  exact ⟨v, h.blk h1 hne (by decide), h.own h2 (own_ne_blk h2 hcs (by decide))⟩
/-- a text is put behind the collected ones -/
theorem col_push {B ho : Nat} {w w1 : World} {ws : List (List UInt8)} {t : List UInt8} {v v' : Value} (hb : Blk w ho 24 #[v]) (hown : w.ownsRow B 9 1 v ws.length (strs ws))
    (h1 : w1.ownsRow B 9 1 v' (ws.length + 1) (strs ws ++ [.string ⟨t.toArray⟩])) (hbel : Below B w w1) (hg : w.grownBy w1 v.ownBlock) (hB : B ≤ ho) :
    Col B (w1.setCell ⟨ho, 0, none⟩ v') ho (ws ++ [t]) ∧ Keeps B ho w (w1.setCell ⟨ho, 0, none⟩ v') := by
  have hne : v.ownBlock ≠ some ho := own_ne_blk hown hb (by decide)
  have hb1 : Blk w1 ho 24 #[v] := hb.grown hg (Ne.symm hne)
  have hne1 : v'.ownBlock ≠ some ho := own_ne_blk h1 hb1 (by decide)
  refine ⟨⟨v', hb1.set_ 0 v', ?_⟩, hbel.setCell hB _, fun k cs t' fr hk ht hh => ?_⟩
  · exact own_to (ownsRow_setCell_other h1 (a := ⟨ho, 0, none⟩) hne1 v') (by simp) (by simp [strs])
  · have hk1 : some k ≠ v.ownBlock := by
      intro e
      rcases hown.2 with ⟨rfl, _⟩ | ⟨g', cap, cur, rfl, _, hh', _⟩
      · simp [Value.ownBlock] at e
      · have : k = g' := by simpa [Value.ownBlock] using e
        subst this
        rw [hh'] at hh
        injection hh with hh
        injection hh with _ h2
        exact ht h2.symm
    rw [Below.heap_setCell _ _ _ _ hk]
    exact hg.block k (lt_of_block hh) hk1


set_option maxHeartbeats 800000 in
theorem w_word (w : World) (B ho : Nat) (ws : List (List UInt8)) (t : List UInt8) (hC : Col B w ho ws) (hB : B ≤ ho) (hB2 : B ≤ w.heap.size) (hws : ws.length + 1 ≤ 1099511627776) (ht : t.length ≤ 24) :
    Calls Try.prog 23 #[.string ⟨t.toArray⟩, .pointer (some ⟨ho, 0, none⟩)] w fun e w' => e = .returned (.tuple #[]) ∧ Col B w' ho (ws ++ [(fun t => t) t]) ∧ Keeps B ho w w' := by
  obtain ⟨v, hb, hown⟩ := hC
  obtain ⟨A, c, rfl, hc⟩ := (Rd.of_own hown).form
  have h0 := hb.cell 0
  simp at h0
  have hfz := hb.frozen 0
  have HB := Lib.hid hb
  go_enter Try.func23, Try.ntmps23
  go_wp2_with (at_builtin; refine wp_push sl_str rfl (.tmp 3) (.tmp 5) rfl rfl hown rfl rfl (Below.refl _ _) (Nat.le_refl _) hB2 (by omega) (by omega) ?_; intro v1 w1 hown1 hb1 hs1 hg1; obtain ⟨A1, c1, rfl, hc1⟩ := (Rd.of_own hown1).form; have hbk := hb.grown hg1 (Ne.symm (own_ne_blk hown hb (by decide))); have hq := hbk.cell 0; simp at hq; have hqf := hbk.frozen 0)
  go_end0
  exact ⟨rfl, col_push hb hown hown1 hb1 hg1 hB⟩

set_option maxHeartbeats 800000 in
theorem t_word (w : World) (B ho : Nat) (ws : List (List UInt8)) (t : List UInt8) (hC : Col B w ho ws) (hB : B ≤ ho) (hB2 : B ≤ w.heap.size) (hws : ws.length + 1 ≤ 1099511627776) (ht : t.length ≤ 24) :
    Calls Try.prog 25 #[.string ⟨t.toArray⟩, .pointer (some ⟨ho, 0, none⟩)] w fun e w' => e = .returned (.tuple #[]) ∧ Col B w' ho (ws ++ [(fun t => t) t]) ∧ Keeps B ho w w' := by
  obtain ⟨v, hb, hown⟩ := hC
  obtain ⟨A, c, rfl, hc⟩ := (Rd.of_own hown).form
  have h0 := hb.cell 0
  simp at h0
  have hfz := hb.frozen 0
  have HB := Lib.hid hb
  go_enter Try.func25, Try.ntmps25
  go_wp2_with (at_builtin; refine wp_push sl_str rfl (.tmp 3) (.tmp 5) rfl rfl hown rfl rfl (Below.refl _ _) (Nat.le_refl _) hB2 (by omega) (by omega) ?_; intro v1 w1 hown1 hb1 hs1 hg1; obtain ⟨A1, c1, rfl, hc1⟩ := (Rd.of_own hown1).form; have hbk := hb.grown hg1 (Ne.symm (own_ne_blk hown hb (by decide))); have hq := hbk.cell 0; simp at hq; have hqf := hbk.frozen 0)
  go_end0
  exact ⟨rfl, col_push hb hown hown1 hb1 hg1 hB⟩

set_option maxHeartbeats 800000 in
theorem s_word (w : World) (B ho : Nat) (ws : List (List UInt8)) (t : List UInt8) (hC : Col B w ho ws) (hB : B ≤ ho) (hB2 : B ≤ w.heap.size) (hws : ws.length + 1 ≤ 1099511627776) (ht : t.length ≤ 24) :
    Calls Try.prog 26 #[.string ⟨t.toArray⟩, .pointer (some ⟨ho, 0, none⟩)] w fun e w' => e = .returned (.tuple #[]) ∧ Col B w' ho (ws ++ [(fun t => 64 :: t) t]) ∧ Keeps B ho w w' := by
  obtain ⟨v, hb, hown⟩ := hC
  obtain ⟨A, c, rfl, hc⟩ := (Rd.of_own hown).form
  have h0 := hb.cell 0
  simp at h0
  have hfz := hb.frozen 0
  have hat : (Op.stringOp .add ⟨#[64]⟩ ⟨t.toArray⟩).run Try.prog w = .ok (.string ⟨(64 :: t).toArray⟩) w := by
    have := run_string_add_lists (P := Try.prog) (w := w) [64] t (by simp) (by omega)
    exact this
  have HB := Lib.hid hb
  go_enter Try.func26, Try.ntmps26
  go_wp2_with (at_builtin; refine wp_push sl_str rfl (.tmp 3) (.tmp 6) rfl rfl hown rfl rfl (Below.refl _ _) (Nat.le_refl _) hB2 (by omega) (by omega) ?_; intro v1 w1 hown1 hb1 hs1 hg1; obtain ⟨A1, c1, rfl, hc1⟩ := (Rd.of_own hown1).form; have hbk := hb.grown hg1 (Ne.symm (own_ne_blk hown hb (by decide))); have hq := hbk.cell 0; simp at hq; have hqf := hbk.frozen 0)
  go_end0
  exact ⟨rfl, col_push hb hown hown1 hb1 hg1 hB⟩
end Go.Proofs.Ytfooomfdokkiaaa

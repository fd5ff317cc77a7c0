/-
  What nums.Fixed and the reference's compute: a fixed number's bytes, or the error. Conditions: numbers fit 64 bits.
-/
import Derived.Test.YtejibnkgenonfaaNum
namespace Go.Proofs.Ytejibnkgenonfaa
open Go.RowKit
set_option linter.unusedVariables false
theorem fixed_out (x : Nat) (n : Int) (w : World) (h : n < 1 ∨ 8 < n) :
    Calls Try.prog 16 #[.int .u64 x, .int .i64 n] w fun e w' => e = .returned (.tuple #[.slice none 0 0, .int .i64 13]) ∧ w = w' := by
  rcases h with h | h
  · go_enter Try.func16, Try.ntmps16
    go_wp2
    go_ret2
    exact ⟨rfl, rfl⟩
  · have h1 : ¬ n < 1 := by omega
    go_enter Try.func16, Try.ntmps16
    go_wp2
    go_ret2
    exact ⟨rfl, rfl⟩
theorem fixed_big (x : Nat) (n : Nat) (w : World) (h : 1 ≤ n) (h8 : n < 8) (hx : ((x : Int) / 2 ^ (8 * n) != 0) = true) :
    Calls Try.prog 16 #[.int .u64 x, .int .i64 n] w fun e w' => e = .returned (.tuple #[.slice none 0 0, .int .i64 13]) ∧ w = w' := by
  have h1 : ¬ (n : Int) < 1 := by omega
  have h2 : ¬ (8 : Int) < n := by omega
  have h3 : (n : Int) < 8 := by omega
  go_enter Try.func16, Try.ntmps16
  go_wp2
  go_ret2
  exact ⟨rfl, rfl⟩
def Tup (w0 w' : World) (e : Ending) (l : List UInt8) : Prop := ∃ v, e = .returned (.tuple #[v, .int .i64 0]) ∧ w'.ownsRow w0.heap.size 5 1 v l.length (bv l)
theorem wrap_fix (x k : Nat) : IntKind.u8.wrap ((x : Int) / 2 ^ (8 * k)) = ((x / 2 ^ (8 * k) % 256 : Nat) : Int) := by
  rw [int_div_pow]; show ((x / 2 ^ (8 * k) : Nat) : Int) % 256 = _; omega
set_option maxRecDepth 100000 in
set_option maxHeartbeats 400000 in
theorem fixed_ok (x : Nat) (n : Nat) (w : World) (h : 1 ≤ n) (h8 : n ≤ 8) (hx : n < 8 → ((x : Int) / 2 ^ (8 * n) != 0) = false) :
    Calls Try.prog 16 #[.int .u64 x, .int .i64 n] w fun e w' => Tup w w' e (fixL x n) ∧ Below w.heap.size w w' := by
  have h1 : ¬ (n : Int) < 1 := by omega
  have h2 : ¬ (8 : Int) < n := by omega
  by_cases h3 : n < 8
  all_goals
    have hx3 := fun h => Lib.hid (hx h)
    clear hx
    try have hx4 := (hx3 h3).out
    clear hx3
    go_enter Try.func16, Try.ntmps16
    go_wp2_with (at_make; refine wp_make sl_u8 rfl rfl (.tmp 25) (.tmp 25) rfl n rfl rfl rfl rfl (Below.refl _ _) (Nat.le_refl _) (by omega) (by omega) ?_; intro g w1 hgw hown hb hgr)
    go_loopw [7, 29] (fun v i wr => ∃ k : Nat, k ≤ n ∧ i = .int .i64 k ∧ wr.ownsRow w.heap.size 5 1 (.slice (some ⟨g, 0, none⟩) n n) n (bv (fixL x k) ++ List.replicate (n - k) (.int .u8 0)) ∧ Below w.heap.size w wr)
      (fun _ i _ => n - (intOf i).toNat)
    case atStart => exact ⟨0, Nat.zero_le _, rfl, own_lower hown hgw, hb⟩
    case round =>
      obtain ⟨k, hk, rfl, hownr, hbr⟩ := hrel
      try clear hx4
      clear hown hb hgr
      by_cases hlt : k < n
      · have hcell : wr.cell? ⟨g, k, none⟩ = some (.int .u8 0) := by
          rw [hownr.cellAt k (by omega), rep_mid _ hlt, List.getElem?_append_right (by simp)]
          simp
        have hfr := hownr.frozenAt k
        have hst := (hownr.stored k (.int .u8 (IntKind.u8.wrap ((x : Int) / 2 ^ (8 * k))))).1
        rw [fix_set hlt _ (congrArg _ (wrap_fix x k))] at hst
        have hbs := hbr.setCell (p := ⟨g, k, none⟩) hgw (.int .u8 (IntKind.u8.wrap ((x : Int) / 2 ^ (8 * k))))
        have HS := Lib.hid hst; have HB := Lib.hid hbs
        clear hst hbs hownr hbr
        go_wp2
        go_roundw
        case rel => exact ⟨k + 1, by omega, by go_num, HS.out, HB.out⟩
        case measure => simp [intOf]; omega
      · have hkn : k = n := by omega
        have HK := Lib.hid hkn; clear hkn
        go_wp2
        go_ret2
        refine ⟨⟨_, rfl, ?_⟩, hbr⟩
        have hE := HK.out
        subst hE
        simp only [Nat.sub_self, List.replicate_zero, List.append_nil] at hownr
        rw [fixL_length]
        exact hownr
theorem rfixed_out (x : Nat) (n : Int) (w : World) (h : n < 1 ∨ 8 < n) :
    Calls Try.prog 17 #[.int .u64 x, .int .i64 n] w fun e w' => e = .returned (.tuple #[.slice none 0 0, .int .i64 13]) ∧ w = w' := by
  rcases h with h | h
  · go_enter Try.func17, Try.ntmps17
    go_wp2
    go_ret2
    exact ⟨rfl, rfl⟩
  · have h1 : ¬ n < 1 := by omega
    go_enter Try.func17, Try.ntmps17
    go_wp2
    go_ret2
    exact ⟨rfl, rfl⟩
/-- the answer: the bytes, or the error, by what is left over -/
def Fits (w0 w' : World) (e : Ending) (x n : Nat) : Prop :=
  if x / 2 ^ (8 * n) = 0 then Tup w0 w' e (fixL x n) else e = .returned (.tuple #[.slice none 0 0, .int .i64 13])
theorem byte_step (x k : Nat) : bv (fixL x k) ++ [.int .u8 (((x / 2 ^ (8 * k) : Nat) : Int) % 256)] = bv (fixL x (k + 1)) := by
  rw [fixL, bv_append, bv_one1 _ (Nat.mod_lt _ (by omega))]; rfl
set_option maxRecDepth 100000 in
set_option maxHeartbeats 400000 in
theorem rfixed_in (x : Nat) (hx : x < 18446744073709551616) (n : Nat) (w : World) (h : 1 ≤ n) (h8 : n ≤ 8) :
    Calls Try.prog 17 #[.int .u64 x, .int .i64 n] w fun e w' => Fits w w' e x n ∧ Below w.heap.size w w' := by
  have h1 : ¬ (n : Int) < 1 := by omega
  have h2 : ¬ (8 : Int) < n := by omega
  go_enter Try.func17, Try.ntmps17
  go_wp2
  go_loopw [0, 6, 7] (fun xv v i wr => ∃ (k y : Nat), k ≤ n ∧ i = .int .i64 k ∧ xv = .int .u64 y ∧ y ≤ x ∧ Hid (y = x / 2 ^ (8 * k)) ∧ wr.ownsRow w.heap.size 5 1 v k (bv (fixL x k)) ∧ Below w.heap.size w wr)
    (fun _ _ i _ => n - (intOf i).toNat)
  case atStart => exact ⟨0, x, Nat.zero_le _, rfl, rfl, Nat.le_refl _, by simp [Hid], World.ownsRow_nil _ _ _ _, Below.refl _ _⟩
  case round =>
    obtain ⟨k, y, hk, rfl, rfl, hyx, HY, hown, hb⟩ := hrel
    have hB := hb.size
    by_cases hlt : k < n
    · go_wp2_with (first | (at_builtin; refine wp_push sl_u8 rfl (.tmp 19) (.tmp 23) rfl rfl hown rfl rfl hb (Nat.le_refl _) hB (by omega) (by omega) ?_; intro v1 w1 hown1 hb1 hs1 hg1))
      go_roundw
      case rel =>
        refine ⟨k + 1, y / 256, by omega, by go_num, by go_num, by omega, by unfold Hid; rw [HY.out]; exact div_step x k, ?_, hb1⟩
        rw [← byte_step, ← HY.out]
        exact hown1
      case measure => simp [intOf]; omega
    · have hkn : k = n := by omega
      have HK := Lib.hid hkn; clear hkn
      by_cases hy : y = 0
      · have hy' : ((y : Int) != 0) = false := by rw [hy]; rfl
        have HZ := Lib.hid hy; clear hy
        go_wp2
        go_ret2
        refine ⟨?_, hb⟩
        have e1 := HY.out
        rw [HK.out, HZ.out] at e1
        unfold Fits
        rw [if_pos e1.symm]
        rw [HK.out] at hown
        exact ⟨_, rfl, by rw [fixL_length]; exact hown⟩
      · have hy' : ((y : Int) != 0) = true := by simp; exact hy
        have HZ := Lib.hid hy; clear hy
        go_wp2
        go_ret2
        refine ⟨?_, hb⟩
        unfold Fits
        rw [if_neg (by rw [← HK.out, ← HY.out]; exact HZ.out)]
        exact rfl
theorem fixed_in (x : Nat) (hx : x < 18446744073709551616) (n : Nat) (w : World) (h : 1 ≤ n) (h8 : n ≤ 8) :
    Calls Try.prog 16 #[.int .u64 x, .int .i64 n] w fun e w' => Fits w w' e x n ∧ Below w.heap.size w w' := by
  unfold Fits
  by_cases hz : x / 2 ^ (8 * n) = 0
  · simp only [if_pos hz]
    refine fixed_ok x n w h h8 fun _ => ?_
    rw [int_div_pow, hz]; rfl
  · simp only [if_neg hz]
    have hn : n < 8 := by
      rcases Nat.lt_or_ge n 8 with h' | h'
      · exact h'
      · exfalso
        have : n = 8 := by omega
        subst this
        exact hz (Nat.div_eq_of_lt hx)
    refine (fixed_big x n w h hn (by rw [int_div_pow]; simp only [bne_iff_ne, ne_eq]; omega)).mono fun e w' ⟨h1, h2⟩ => ⟨h1, ?_⟩
    subst h2; exact Below.refl _ _
/-- the bytes of a fixed number, or none -/
def fixOf (x : Nat) (n : Int) : List UInt8 := if 1 ≤ n ∧ n ≤ 8 ∧ x / 2 ^ (8 * n.toNat) = 0 then fixL x n.toNat else []
/-- .. and the error -/
def fixErr (x : Nat) (n : Int) : Int := if 1 ≤ n ∧ n ≤ 8 ∧ x / 2 ^ (8 * n.toNat) = 0 then 0 else 13
def FixP (x : Nat) (n : Int) (e : Ending) (w' : World) : Prop :=
  ∃ v, e = .returned (.tuple #[v, .int .i64 (fixErr x n)]) ∧ Rd w' w'.heap.size 1 v (fixOf x n).length (bv (fixOf x n))
theorem fixP_out {x : Nat} {n : Int} (h : n < 1 ∨ 8 < n) {e : Ending} {w' : World} (he : e = .returned (.tuple #[.slice none 0 0, .int .i64 13])) : FixP x n e w' := by
  unfold FixP fixErr fixOf
  rw [if_neg (by omega), if_neg (by omega)]
  exact ⟨_, he, Rd.nil_⟩
theorem fixP_in {x n : Nat} (h : 1 ≤ n) (h8 : n ≤ 8) {e : Ending} {w w' : World} (he : Fits w w' e x n) : FixP x n e w' := by
  unfold Fits at he
  unfold FixP fixErr fixOf
  rw [Int.toNat_natCast]
  by_cases hz : x / 2 ^ (8 * n) = 0
  · rw [if_pos hz] at he
    rw [if_pos (by omega), if_pos (by omega)]
    obtain ⟨v, h1, h2⟩ := he
    exact ⟨v, h1, Rd.of_own h2⟩
  · rw [if_neg hz] at he
    rw [if_neg (by omega), if_neg (by omega)]
    exact ⟨_, he, Rd.nil_⟩
theorem fixed_c (x : Nat) (hx : x < 18446744073709551616) (n : Int) (w : World) :
    Calls Try.prog 16 #[.int .u64 x, .int .i64 n] w fun e w' => FixP x n e w' ∧ Below w.heap.size w w' := by
  by_cases h : n < 1 ∨ 8 < n
  · refine (fixed_out x n w h).mono fun e w' ⟨h1, h2⟩ => ⟨fixP_out h h1, ?_⟩
    subst h2; exact Below.refl _ _
  · obtain ⟨m, rfl⟩ := Int.eq_ofNat_of_zero_le (show 0 ≤ n by omega)
    exact (fixed_in x hx m w (by omega) (by omega)).mono fun e w' ⟨h1, h2⟩ => ⟨fixP_in (by omega) (by omega) h1, h2⟩
theorem rfixed_c (x : Nat) (hx : x < 18446744073709551616) (n : Int) (w : World) :
    Calls Try.prog 17 #[.int .u64 x, .int .i64 n] w fun e w' => FixP x n e w' ∧ Below w.heap.size w w' := by
  by_cases h : n < 1 ∨ 8 < n
  · refine (rfixed_out x n w h).mono fun e w' ⟨h1, h2⟩ => ⟨fixP_out h h1, ?_⟩
    subst h2; exact Below.refl _ _
  · obtain ⟨m, rfl⟩ := Int.eq_ofNat_of_zero_le (show 0 ≤ n by omega)
    exact (rfixed_in x hx m w (by omega) (by omega)).mono fun e w' ⟨h1, h2⟩ => ⟨fixP_in (by omega) (by omega) h1, h2⟩
end Go.Proofs.Ytejibnkgenonfaa

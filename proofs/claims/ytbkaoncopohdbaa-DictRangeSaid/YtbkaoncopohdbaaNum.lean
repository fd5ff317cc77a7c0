/-
  What nums.Num, nums.Text and the reference's compute: the bytes of numbers and texts. Conditions: numbers fit 64 bits; texts shorter than 2^40.
-/
import Derived.Test.YtbkaoncopohdbaaRows
import Derived.Test.YtbkaoncopohdbaaNumPure
import Derived.Lib.AppendStr
namespace Go.Proofs.Ytbkaoncopohdbaa
open Go.RowKit
set_option linter.unusedVariables false
theorem sl_u8 : SlT Try.prog 25 5 1 1 (.int .u8 0) := slT_of Try.underlying25 (by kernel_rfl) rfl (by omega)

theorem num_more {x k : Nat} {pre : List UInt8} (h : encN x = pre ++ encN k) (hk : 128 ≤ k) : encN x = (pre ++ [UInt8.ofNat (128 + k % 128)]) ++ encN (k / 128) := by
  rw [h, encN_ge hk]; simp
theorem or_byte (k : Nat) : bits .or .u8 ((k : Int) % 256) 128 = ((128 + k % 128 : Nat) : Int) := by
  have h := u8_or (k % 256) 128 (by omega) (by omega)
  rw [or_128 _ (by omega)] at h
  rw [show ((k : Int) % 256) = ((k % 256 : Nat) : Int) from by omega]
  refine h.trans ?_
  omega
/-- what the loops keep: so much is out, so much is left -/
def NumAt (x k : Nat) (pre : List UInt8) : Prop := encN x = pre ++ encN k ∧ k ≤ x
theorem NumAt.pre_le {x k : Nat} {pre : List UInt8} (h : NumAt x k pre) (hx : x < 18446744073709551616) : pre.length ≤ 10 := by
  have h1 := congrArg List.length h.1
  have h2 := encN_len10 hx
  simp at h1; omega
theorem NumAt.more {x k : Nat} {pre : List UInt8} (h : NumAt x k pre) (hk : 128 ≤ k) : NumAt x (k / 128) (pre ++ [UInt8.ofNat (128 + k % 128)]) :=
  ⟨num_more h.1 hk, by have := h.2; omega⟩
theorem own_to {w : World} {base : Nat} {e : TypeId} {v : Value} {n m : Nat} {xs ys : List Value} (h : w.ownsRow base e 1 v n xs) (hn : n = m) (hx : xs = ys) : w.ownsRow base e 1 v m ys := by subst hn; subst hx; exact h

set_option maxRecDepth 100000 in
set_option maxHeartbeats 400000 in
theorem num_c (x : Nat) (hx : x < 18446744073709551616) (w : World) :
    Calls Try.prog 26 #[.int .u64 x] w fun e w' => ∃ v, e = .returned v ∧ w'.ownsRow w.heap.size 5 1 v (encN x).length (bv (encN x)) ∧ Below w.heap.size w w' := by
  go_enter Try.func26, Try.ntmps26
  go_wp2
  go_loopw [0, 3] (fun xv v wr => ∃ (k : Nat) (pre : List UInt8), xv = .int .u64 k ∧ NumAt x k pre ∧ wr.ownsRow w.heap.size 5 1 v pre.length (bv pre) ∧ Below w.heap.size w wr)
    (fun xv _ _ => (intOf xv).toNat)
  case atStart => exact ⟨x, [], rfl, ⟨rfl, Nat.le_refl _⟩, World.ownsRow_nil _ _ _ _, Below.refl _ _⟩
  case round =>
    obtain ⟨k, pre, rfl, hat, hown, hb⟩ := hrel
    have hlen := hat.pre_le hx
    have hkx : k ≤ x := hat.2
    have hB := hb.size
    have hob := or_byte k
    by_cases h128 : 128 ≤ k
    · go_wp2_with (first | (at_builtin; refine wp_push sl_u8 rfl (.tmp 6) (.tmp 10) rfl rfl hown rfl rfl hb (Nat.le_refl _) hB (by omega) (by omega) ?_; intro v1 w1 hown1 hb1 hs1 hg1))
      go_roundw
      case rel => exact ⟨k / 128, pre ++ [UInt8.ofNat (128 + k % 128)], by go_num, hat.more h128, own_to hown1 (by simp) (by rw [bv_append, bv_one1 _ (by omega)]; congr 2), hb1⟩
      case measure => simp [intOf]; omega
    · go_wp2_with (first | (at_builtin; refine wp_push sl_u8 rfl (.tmp 14) (.tmp 17) rfl rfl hown rfl rfl hb (Nat.le_refl _) hB (by omega) (by omega) ?_; intro v1 w1 hown1 hb1 hs1 hg1))
      go_ret
      have e := hat.1
      rw [encN_lt (by omega : k < 128)] at e
      refine ⟨v1, rfl, own_to hown1 (by rw [e]; simp) ?_, hb1⟩
      rw [e, bv_append, bv_one1 _ (by omega)]

set_option maxRecDepth 100000 in
set_option maxHeartbeats 400000 in
theorem rnum_c (x : Nat) (hx : x < 18446744073709551616) (w : World) :
    Calls Try.prog 30 #[.int .u64 x] w fun e w' => ∃ v, e = .returned v ∧ w'.ownsRow w.heap.size 5 1 v (encN x).length (bv (encN x)) ∧ Below w.heap.size w w' := by
  go_enter Try.func30, Try.ntmps30
  go_wp2
  go_loopw [0, 3] (fun xv v wr => ∃ (k : Nat) (pre : List UInt8), xv = .int .u64 k ∧ NumAt x k pre ∧ wr.ownsRow w.heap.size 5 1 v pre.length (bv pre) ∧ Below w.heap.size w wr)
    (fun xv _ _ => (intOf xv).toNat)
  case atStart => exact ⟨x, [], rfl, ⟨rfl, Nat.le_refl _⟩, World.ownsRow_nil _ _ _ _, Below.refl _ _⟩
  case round =>
    obtain ⟨k, pre, rfl, hat, hown, hb⟩ := hrel
    have hlen := hat.pre_le hx
    have hkx : k ≤ x := hat.2
    have hB := hb.size
    by_cases h128 : 128 ≤ k
    · go_wp2_with (first | (at_builtin; refine wp_push sl_u8 rfl (.tmp 6) (.tmp 11) rfl rfl hown rfl rfl hb (Nat.le_refl _) hB (by omega) (by omega) ?_; intro v1 w1 hown1 hb1 hs1 hg1))
      go_roundw
      case rel => exact ⟨k / 128, pre ++ [UInt8.ofNat (128 + k % 128)], by go_num, hat.more h128, own_to hown1 (by simp) (by rw [bv_append, bv_one1 _ (by omega)]; congr 2), hb1⟩
      case measure => simp [intOf]; omega
    · go_wp2_with (first | (at_builtin; refine wp_push sl_u8 rfl (.tmp 15) (.tmp 18) rfl rfl hown rfl rfl hb (Nat.le_refl _) hB (by omega) (by omega) ?_; intro v1 w1 hown1 hb1 hs1 hg1))
      go_ret
      have e := hat.1
      rw [encN_lt (by omega : k < 128)] at e
      refine ⟨v1, rfl, own_to hown1 (by rw [e]; simp) ?_, hb1⟩
      rw [e, bv_append, bv_one1 _ (by omega)]
theorem u8_info : ∃ i, Try.prog.info? 5 = some i ∧ i.zero = some (.int .u8 0) ∧ i.size = 1 ∧ i.bytes = 1 := sl_u8.hi

set_option maxRecDepth 100000 in
set_option maxHeartbeats 400000 in
theorem text_c (s : ByteArray) (hs : s.size ≤ 1099511627776) (w : World) :
    Calls Try.prog 44 #[.string s] w fun e w' => ∃ v, e = .returned v ∧ w'.ownsRow w.heap.size 5 1 v (encT s.data.toList).length (bv (encT s.data.toList)) ∧ Below w.heap.size w w' := by
  obtain ⟨i0, hi, hz0, hz1, hz2⟩ := u8_info
  have hsz : s.data.toList.length = s.size := Array.length_toList
  have Hsz := Lib.hid hsz; clear hsz
  have hl : (encN s.size).length ≤ 10 := encN_len10 (by omega)
  go_enter Try.func44, Try.ntmps44
  go_wp2_with (first | (go_at_call 26; refine (num_c _ (by omega) _).mono ?_; rintro e w1 ⟨v1, rfl, hown, hb⟩) | (at_builtin; refine Lib.wpList_append_own_string _ rfl (.tmp 6) (.tmp 7) 25 9 rfl w.heap.size 5 i0 Try.underlying25 Try.underlying9 hi hz0 hz1 hz2 _ _ _ rfl hown s rfl (by unfold maxLen; omega) (by omega) hb.size ?_; intro v2 w2 hown2 hg2 _))
  go_ret
  refine ⟨v2, rfl, own_to hown2 (by rw [encT, List.length_append, Hsz.out]) (by rw [encT, bv_append, Hsz.out]; rfl), hb.grown hg2 hb.size fun k hk => (hown.lt k hk).1⟩
set_option maxRecDepth 100000 in
set_option maxHeartbeats 400000 in
theorem rtext_c (s : ByteArray) (hs : s.size ≤ 1099511627776) (w : World) :
    Calls Try.prog 31 #[.string s] w fun e w' => ∃ v, e = .returned v ∧ w'.ownsRow w.heap.size 5 1 v (encT s.data.toList).length (bv (encT s.data.toList)) ∧ Below w.heap.size w w' := by
  obtain ⟨i0, hi, hz0, hz1, hz2⟩ := u8_info
  have hsz : s.data.toList.length = s.size := Array.length_toList
  have Hsz := Lib.hid hsz; clear hsz
  have hl : (encN s.size).length ≤ 10 := encN_len10 (by omega)
  go_enter Try.func31, Try.ntmps31
  go_wp2_with (first | (go_at_call 30; refine (rnum_c _ (by omega) _).mono ?_; rintro e w1 ⟨v1, rfl, hown, hb⟩) | (at_builtin; refine Lib.wpList_append_own_string _ rfl (.tmp 6) (.tmp 7) 25 9 rfl w.heap.size 5 i0 Try.underlying25 Try.underlying9 hi hz0 hz1 hz2 _ _ _ rfl hown s rfl (by unfold maxLen; omega) (by omega) hb.size ?_; intro v2 w2 hown2 hg2 _))
  go_ret
  refine ⟨v2, rfl, own_to hown2 (by rw [encT, List.length_append, Hsz.out]) (by rw [encT, bv_append, Hsz.out]; rfl), hb.grown hg2 hb.size fun k hk => (hown.lt k hk).1⟩
end Go.Proofs.Ytbkaoncopohdbaa

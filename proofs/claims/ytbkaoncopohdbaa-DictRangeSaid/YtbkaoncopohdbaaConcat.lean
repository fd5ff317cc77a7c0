/-
  What slices.Grow (of nil), slices.Concat and nums.All compute: all parts, one behind the other. Conditions: the parts read as lists of bytes, together shorter than 2^40.
-/
import Derived.Test.YtbkaoncopohdbaaNum
import Derived.Lib.AppendZeros
namespace Go.Proofs.Ytbkaoncopohdbaa
open Go.RowKit
set_option linter.unusedVariables false
theorem grow_zero (w : World) :
    Calls Try.prog 57 #[.slice none 0 0, .int .i64 0] w fun e w' => e = .returned (.slice none 0 0) ∧ w = w' := by
  go_enter Try.func57, Try.ntmps57
  go_wp2
  go_ret
  exact ⟨rfl, rfl⟩
def GrowP (w : World) (e : Ending) (w' : World) : Prop := ∃ v, e = .returned v ∧ w'.ownsRow w.heap.size 5 1 v 0 []
theorem own_none {w : World} {base : Nat} {e : TypeId} {g cap : Nat} {cur : Array Value} (h : w.heap[g]? = some (.cells cur e (0, 0))) (hb : base ≤ g) (hm : cap ≤ maxLen) (hc : cur.size = cap) :
    w.ownsRow base e 1 (.slice (some ⟨g, 0, none⟩) 0 cap) 0 [] :=
  ⟨rfl, .inr ⟨g, cap, cur, rfl, hb, h, Nat.zero_le _, hm, by simpa using hc, by simp⟩⟩
set_option maxRecDepth 100000 in
theorem grow_pos (n : Nat) (h : 0 < n) (hn : n ≤ 1099511627776) (w : World) :
    Calls Try.prog 57 #[.slice none 0 0, .int .i64 n] w fun e w' => GrowP w e w' ∧ Below w.heap.size w w' := by
  obtain ⟨i, hi, hz, hs, hby⟩ := u8_info
  have hrun := Lib.run_append_nil_zeros (P := Try.prog) w 25 3 25 5 i (.int .u8 0) .i64 .i64 Try.underlying25 Try.underlying3 hi hz n h (by omega) (by omega) (by rw [hby]; omega)
  have hge := grownCap_ge w n 0 5
  have hle := grownCap_le_maxLen w n 0 5 (by unfold maxLen; omega)
  generalize hG : grownCap w n 0 5 = G at *
  have h1 : ¬ ((n : Int) < 0) := by omega
  have h2 : (0 : Int) < n := by omega
  have HR := Lib.hid hrun; have HG := Lib.hid hG
  clear hrun hG hi hz hs hby
  go_enter Try.func57, Try.ntmps57
  go_wp2_with (at_builtin; refine Lib.wpList_append_run _ rfl _ _ _ _ rfl _ _ rfl rfl _ _ HR.out ?_)
  go_ret
  refine ⟨⟨_, rfl, own_none (heap_alloc_new _ _) (Nat.le_refl _) hle ?_⟩, ((Below.refl _ _).alloc (Nat.le_refl _) _).drew⟩
  simp [size_zeroCells]; omega
theorem grow_c (n : Nat) (hn : n ≤ 1099511627776) (w : World) :
    Calls Try.prog 57 #[.slice none 0 0, .int .i64 n] w fun e w' => GrowP w e w' ∧ Below w.heap.size w w' := by
  rcases Nat.eq_zero_or_pos n with h | h
  · subst h
    refine (grow_zero w).mono fun e w' ⟨h1, h2⟩ => ?_
    subst h2
    exact ⟨⟨_, h1, World.ownsRow_nil _ _ _ _⟩, Below.refl _ _⟩
  · exact grow_pos n h hn w
/-- parts: each a slice value and the bytes that it reads as -/
abbrev Parts := List (Value × List UInt8)
def Parts.vals (P : Parts) : List Value := P.map (·.1)
def Parts.all (P : Parts) : List UInt8 := P.flatMap (·.2)
def Parts.ok (P : Parts) (w : World) (B : Nat) : Prop := ∀ x ∈ P, Rd w B 1 x.1 x.2.length (bv x.2)
theorem Parts.ok_below {P : Parts} {w w' : World} {B : Nat} (h : P.ok w B) (hb : Below B w w') : P.ok w' B := fun x hx => (h x hx).below hb
theorem Parts.all_take_succ (P : Parts) {k : Nat} {x : Value × List UInt8} (h : P[k]? = some x) : Parts.all (P.take (k + 1)) = Parts.all (P.take k) ++ x.2 := by
  have hk := (List.getElem?_eq_some_iff.1 h).1
  have hx := (List.getElem?_eq_some_iff.1 h).2
  unfold Parts.all
  rw [List.take_succ_eq_append_getElem hk, List.flatMap_append, hx]
  simp
theorem Parts.all_take_le (P : Parts) (k : Nat) : (Parts.all (P.take k)).length ≤ (Parts.all P).length := by
  unfold Parts.all
  conv => rhs; rw [← List.take_append_drop k P, List.flatMap_append]
  simp
/-- a part at a place: its cell, and what it reads as -/
theorem Parts.at_ {P : Parts} {w : World} {B : Nat} {A : Option Addr} {n : Nat} (hr : 0 < n → ∃ ad, A = some ad ∧ ad.block < B ∧ ∀ j u, P.vals[j]? = some u → w.cell? (ad.add j) = some u)
    (hP : P.ok w B) (hn : n = P.length) {k : Nat} (hk : k < n) : ∃ ad A' c' x, A = some ad ∧ ad.block < B ∧ P[k]? = some x ∧ w.cell? (ad.add k) = some (.slice A' x.2.length c') ∧ Rd w B 1 (.slice A' x.2.length c') x.2.length (bv x.2) := by
  obtain ⟨ad, rfl, hb, hc⟩ := hr (by omega)
  have hx : P[k]? = some (P[k]'(by omega)) := List.getElem?_eq_getElem (by omega)
  have hrd := hP _ (List.mem_of_getElem? hx)
  have hcell := hc k (P[k]'(by omega)).1 (by simp [Parts.vals, hx])
  obtain ⟨A', c', hv, h4, h5, h6⟩ := hrd
  rw [hv] at hcell
  exact ⟨ad, A', c', _, rfl, hb, hx, hcell, A', c', rfl, h4, h5, h6⟩
set_option maxRecDepth 100000 in
set_option maxHeartbeats 800000 in
theorem concat_c {B n : Nat} {v : Value} {P : Parts} (w : World) (hn : n = P.length) (h : Rd w B 1 v n P.vals) (hP : P.ok w B) (hB : B ≤ w.heap.size) (hlen : P.all.length ≤ 1099511627776) (hPl : P.length ≤ 1099511627776) :
    Calls Try.prog 46 #[v] w fun e w' => ∃ v', e = .returned v' ∧ w'.ownsRow w.heap.size 5 1 v' P.all.length (bv P.all) ∧ Below w.heap.size w w' := by
  obtain ⟨A, c, rfl, hc, hl, hr⟩ := h
  rw [← hn] at hPl
  have Hr := Lib.hid hr; have HP := Lib.hid hP; have Hn := Lib.hid hn; have Hl := Lib.hid hlen
  clear hr hP hn hlen hl
  go_enter Try.func46, Try.ntmps46
  go_wp2
  go_loop [3, 5, 11] (fun z s i => ∃ k m : Nat, k ≤ n ∧ i = .int .i64 k ∧ z = .int .i64 m ∧ m ≤ 1099511627776 ∧ Hid (m = (Parts.all (P.take k)).length)) (fun _ _ i => n - (intOf i).toNat)
  case atStart => exact ⟨0, 0, Nat.zero_le _, rfl, rfl, Nat.zero_le _, by simp [Hid, Parts.all]⟩
  case round =>
    obtain ⟨k, m, hk, rfl, rfl, hm, HM⟩ := hrel
    by_cases hlt : k < n
    · obtain ⟨ad, A', c', x, rfl, hab, hx, hcell, hrd⟩ := Parts.at_ Hr.out HP.out Hn.out hlt
      have e1 := Parts.all_take_succ P hx
      have e2 := Parts.all_take_le P (k + 1)
      have hml : m + x.2.length = (Parts.all (P.take (k + 1))).length := by rw [e1, List.length_append, HM.out]
      have hm2 : m + x.2.length ≤ 1099511627776 := by rw [hml]; exact Nat.le_trans e2 Hl.out
      have HM2 := Lib.hid hml
      clear hml e1 e2 hrd hx
      go_wp2
      go_round
      case rel => exact ⟨k + 1, m + x.2.length, by omega, by go_num, by go_num, hm2, HM2⟩
      case measure => simp [intOf]; omega
    · have hkn : k = n := by omega
      have hml : m = P.all.length := by rw [HM.out, hkn, Hn.out, List.take_length]
      have HM2 := Lib.hid hml; clear hml hkn
      go_wp2_with (go_at_call 57; refine (grow_c m (by omega) _).mono ?_; rintro e w1 ⟨⟨v1, rfl, hown1⟩, hb1⟩)
      have hwB := hb1.mono hB
      go_loopw [6, 8, 27] (fun o s i wr => ∃ k : Nat, k ≤ n ∧ i = .int .i64 k ∧ wr.ownsRow w.heap.size 5 1 o (Parts.all (P.take k)).length (bv (Parts.all (P.take k))) ∧ Below w.heap.size w wr) (fun _ _ i _ => n - (intOf i).toNat)
      case atStart => exact ⟨0, Nat.zero_le _, rfl, by simpa [Parts.all] using hown1, hb1⟩
      case round =>
        obtain ⟨k, hk, rfl, hown, hb⟩ := hrel
        by_cases hlt : k < n
        · obtain ⟨ad, A', c', x, rfl, hab, hx, hcell0, hrd0⟩ := Parts.at_ Hr.out HP.out Hn.out hlt
          have hcell := (hb.cell (p := ad.add k) (by rw [block_of_add]; omega)).trans hcell0
          have hrd := hrd0.below (hb.mono hB)
          have e1 := Lib.hid (Parts.all_take_succ P hx)
          have e2 := Parts.all_take_le P (k + 1)
          have e3 : (Parts.all (P.take k)).length + x.2.length ≤ 1099511627776 := by
            rw [e1.out, List.length_append] at e2
            exact Nat.le_trans e2 Hl.out
          have hsz := hb.size
          clear e2 hrd0 hcell0 hx
          go_wp2_with (at_builtin; refine wp_app sl_u8 rfl (.tmp 31) (.tmp 32) rfl rfl hown rfl hrd (bv_one _) hb (Nat.le_refl _) hsz (by omega) (by omega) ?_; intro v2 w2 hown2 hb2 hg2)
          go_roundw
          case rel => exact ⟨k + 1, by omega, by go_num, by rw [e1.out, List.length_append, bv_append]; exact hown2, hb2⟩
          case measure => simp [intOf]; omega
        · have hkn : P.take k = P := List.take_of_length_le (by have := Hn.out; omega)
          have HK := Lib.hid hkn; clear hkn
          go_wp2
          go_ret
          rw [HK.out] at hown
          exact ⟨_, rfl, hown, hb⟩
theorem all_c {B n : Nat} {v : Value} {P : Parts} (w : World) (hn : n = P.length) (h : Rd w B 1 v n P.vals) (hP : P.ok w B) (hB : B ≤ w.heap.size) (hlen : P.all.length ≤ 1099511627776) (hPl : P.length ≤ 1099511627776) :
    Calls Try.prog 29 #[v] w fun e w' => ∃ v', e = .returned v' ∧ w'.ownsRow w.heap.size 5 1 v' P.all.length (bv P.all) ∧ Below w.heap.size w w' := by
  have h' := h
  obtain ⟨A, c, rfl, hc, hl, hr⟩ := h
  have Hn := Lib.hid hn
  clear hr hl hc hn
  go_enter Try.func29, Try.ntmps29
  go_wp2_with (go_at_call 46; refine (concat_c _ Hn.out h' hP hB hlen hPl).mono ?_; rintro e w1 ⟨v1, rfl, hown1, hb1⟩)
  go_ret
  exact ⟨_, rfl, hown1, hb1⟩
theorem flat_single {α : Type} (P : List (Value × α)) : (P.flatMap fun x => [x.1]) = P.map (·.1) := by
  induction P with
  | nil => rfl
  | cons x P ih => simp only [List.flatMap_cons, List.map_cons, ih]; rfl
end Go.Proofs.Ytbkaoncopohdbaa

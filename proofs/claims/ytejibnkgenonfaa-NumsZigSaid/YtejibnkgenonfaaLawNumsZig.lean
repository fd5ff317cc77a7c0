/-
  'NumsZig': for every number the two ways to turn it are the document's, they undo one another, and near numbers are small. No condition.
-/
import Derived.Test.YtejibnkgenonfaaZig
import Derived.Test.YtejibnkgenonfaaOpen
namespace Go.Proofs.Ytejibnkgenonfaa.lawNumsZig
open Go.ChangeShapes Go.WideShapes Go.ChangeAt Go.RowKit
open Go.ChangeMaps (open_string shut_string)
set_option linter.unusedVariables false
set_option maxRecDepth 100000 in
set_option maxHeartbeats 1000000 in
theorem walk (w : World) (x : Nat) (hx : x < 18446744073709551616) (k : Nat) (hk : k < 65536) :
    Calls Try.prog 3 #[.int .u64 x, .int .u16 k] w fun e w' => e = .returned (.bool true) ∧ Below w.heap.size w w' := by
  have h1 := zig_lt hx
  have h2 := zag_lt hx
  have h3 := zag_zig hx
  have h4 := zig_zag hx
  have h5 := zig_small k hk
  have h6 := negk_wrap k hk
  have h7 : negk k < 18446744073709551616 := negk_lt
  have h8 := zig_neg k hk
  have H1 := Lib.hid hx; have H2 := Lib.hid h1; have H3 := Lib.hid h2; have H7 := Lib.hid h7
  clear hx h1 h2 h7
  go_enter Try.func3, Try.ntmps3
  go_wp2_with (first
    | (go_at_call 11; refine (alive_c _).mono ?_; rintro e w1 ⟨rfl, hb⟩)
    | (go_at_call 12; refine (zig_c _ (by first | exact H1.out | exact H3.out | exact H7.out | omega) _).mono ?_; rintro e w' ⟨rfl, rfl⟩)
    | (go_at_call 14; refine (zag_c _ (by first | exact H1.out | exact H2.out) _).mono ?_; rintro e w' ⟨rfl, rfl⟩)
    | (go_at_call 13; refine (rzig_c _ H1.out _).mono ?_; rintro e w' ⟨rfl, rfl⟩)
    | (go_at_call 15; refine (rzag_c _ H1.out _).mono ?_; rintro e w' ⟨rfl, rfl⟩))
  go_ret
  exact ⟨ret_bool (decide_eq_true (by omega)), hb⟩
theorem own : ownKnob Try.prog.godebug = none := by kernel_rfl
theorem laidOut : laidOutB Try.prog = true := by kernel_rfl
set_option maxRecDepth 100000 in
theorem lifted (os : Os) (started : os.Started) (H : Type) (enc : TypeId × Value → H) :
    ReturnsInHanded {} Try.checked os 3 .any (Rows.numsZigSpec.pre6 enc Try.prog Try.f3 Rows.numsZigRow.domain false) (Rows.numsZigSpec.post enc Try.prog Try.f3 false true false false) := by
  refine returnsInHanded_of_change (C := Try.checked) own started (by kernel_rfl) Try.func3
    (ChangeSpec.witness6 (enc := enc) (C := Try.checked) false ⟨#[], #[.int .u64 0, .int .u16 0], []⟩ 8 (by kernel_rfl) (by kernel_rfl) (by kernel_rfl) (by kernel_rfl)) ?_
  intro W base args ds gs before hval0 hW hcnd _
  have hval : ∀ (j : Nat) t v, Try.f3.params[j]? = some t → args[j]? = some v → Value.okWide Try.prog W .any base t v := hval0
  have hW' := hW
  obtain ⟨p, q, hA0, hV, rfl, hfz, hnd⟩ := hW
  have hA : DataW.TrodAll enc Try.prog W 0 (fun _ => true) true Try.f3.params.toList args.toList ds p := hA0
  rw [Try.params3] at hA hval
  obtain ⟨v0', vs0, d0, ds0, p0, q0, hargs, rfl, rfl, h0', r0⟩ := trodAll_cons hA
  obtain ⟨v1', vs1, d1, ds1, p1, q1, rfl, rfl, rfl, h1', r1⟩ := trodAll_cons r0
  obtain ⟨rfl, rfl, rfl⟩ := trodAll_nil r1
  obtain rfl : args = #[v0', v1'] := by cases args; simp_all
  obtain ⟨rfl, rfl⟩ := trodVars_none hV
  have k0 := h0'
  have lt0 : ∀ x ∈ p0, x.block < W.heap.size := by obtain ⟨m, hm⟩ := k0; exact DataW.trod_lt m _ _ _ hm
  obtain ⟨a0, rfl, hd0, hp0, w0⟩ := open_int Try.underlying22 (hval 0 22 v0' rfl rfl) h0'
  have bd0 := bounds_u64 w0
  obtain ⟨n0, rfl⟩ := Int.eq_ofNat_of_zero_le bd0.1
  have k1 := h1'
  have lt1 : ∀ x ∈ p1, x.block < W.heap.size := by obtain ⟨m, hm⟩ := k1; exact DataW.trod_lt m _ _ _ hm
  obtain ⟨a1, rfl, hd1, hp1, w1⟩ := open_int Try.underlying23 (hval 1 23 v1' rfl rfl) h1'
  have bd1 := bounds_u16 w1
  obtain ⟨n1, rfl⟩ := Int.eq_ofNat_of_zero_le bd1.1
  clear hA0 hval0
  refine (walk W n0 (by omega) n1 (by omega)).mono fun e W' ⟨he, bel⟩ => ?_
  subst he
  exact ⟨_, rfl, _, _, _, [], _, [], hW', trodAll_mk1 (shut_bool Try.underlying4 _), (trodAll_cons_mk (Below.trod laidOut (by kernel_rfl) (of_decide_eq_true (by kernel_rfl)) k0 bel lt0) (trodAll_cons_mk (Below.trod laidOut (by kernel_rfl) (of_decide_eq_true (by kernel_rfl)) k1 bel lt1) trodAll_mk0)), rfl, bel.frame _, fun h => by cases h⟩

theorem over : Rows.numsZigRow.holds Try.pinned (OpenSpec.ofChange Rows.numsZigSpec) :=
  OpenClaim.holds_of_wide 3 Try.f3 rfl rfl rfl rfl rfl rfl rfl ⟨rfl, rfl, rfl, rfl, rfl⟩ rfl rfl rfl rfl rfl (by kernel_rfl) Try.func3 (by kernel_rfl)
    (of_decide_eq_true (by kernel_rfl)) (by unfold Func.isWrapper; first | (rw [if_pos (by decide +kernel)]; kernel_rfl) | (rw [if_neg (by decide +kernel)]; exact ⟨rfl, rfl⟩))
    (fun os started H enc _ => lifted os started H enc)

theorem proved : Rows.NumsZigSaid := over
#print axioms proved
end Go.Proofs.Ytejibnkgenonfaa.lawNumsZig

/-
  'NumsNone': no cursor tells nothing, whatever is asked of it. No condition.
-/
import Derived.Test.YtejibnkgenonfaaCurNil
import Derived.Test.YtejibnkgenonfaaOpen
namespace Go.Proofs.Ytejibnkgenonfaa.lawNumsNone
open Go.ChangeShapes Go.WideShapes Go.ChangeAt Go.RowKit
open Go.ChangeMaps (open_string shut_string)
set_option linter.unusedVariables false
set_option maxRecDepth 100000 in
set_option maxHeartbeats 2000000 in
theorem walk (w : World) (n : Int) (hn : -9223372036854775808 ≤ n ∧ n ≤ 9223372036854775807) (er : Int) (her : -9223372036854775808 ≤ er ∧ er ≤ 9223372036854775807) :
    Calls Try.prog 7 #[.int .i64 n, .int .i64 er] w fun e w' => e = .returned (.bool true) ∧ Below w.heap.size w w' := by
  clear hn her
  go_enter Try.func7, Try.ntmps7
  go_wp2_with (first
    | (go_at_call 11; refine (alive_c _).mono ?_; rintro e w1 ⟨rfl, hb1⟩)
    | (go_at_call 27; refine (nil_fail _ _).mono ?_; rintro e w' ⟨rfl, rfl⟩)
    | (go_at_call 25; refine (nil_num _).mono ?_; rintro e w2 ⟨rfl, hb2⟩)
    | (go_at_call 28; refine (nil_int _ _).mono ?_; rintro e w3 ⟨rfl, hb3⟩)
    | (go_at_call 29; refine (nil_byte _).mono ?_; rintro e w4 ⟨rfl, hb4⟩)
    | (go_at_call 30; refine (nil_fixed _ _).mono ?_; rintro e w5 ⟨rfl, hb5⟩)
    | (go_at_call 31; refine (nil_take _ _).mono ?_; rintro e w6 ⟨rfl, hb6⟩)
    | (go_at_call 32; refine (nil_text _ _).mono ?_; rintro e w7 ⟨rfl, hb7⟩)
    | (go_at_call 26; refine (nil_end _).mono ?_; rintro e w' ⟨rfl, rfl⟩)
    | (go_at_call 33; refine (nil_err _).mono ?_; rintro e w' ⟨rfl, rfl⟩)
    | (go_at_call 34; refine (nil_at _).mono ?_; rintro e w' ⟨rfl, rfl⟩)
    | (go_at_call 35; refine (nil_left _).mono ?_; rintro e w' ⟨rfl, rfl⟩))
  go_ret
  have b2 := hb1.trans (hb2.mono hb1.size)
  have b3 := b2.trans (hb3.mono b2.size)
  have b4 := b3.trans (hb4.mono b3.size)
  have b5 := b4.trans (hb5.mono b4.size)
  have b6 := b5.trans (hb6.mono b5.size)
  exact ⟨rfl, b6.trans (hb7.mono b6.size)⟩
theorem own : ownKnob Try.prog.godebug = none := by kernel_rfl
theorem laidOut : laidOutB Try.prog = true := by kernel_rfl
set_option maxRecDepth 100000 in
theorem lifted (os : Os) (started : os.Started) (H : Type) (enc : TypeId × Value → H) :
    ReturnsInHanded {} Try.checked os 7 .any (Rows.numsNoneSpec.pre6 enc Try.prog Try.f7 Rows.numsNoneRow.domain false) (Rows.numsNoneSpec.post enc Try.prog Try.f7 false true false false) := by
  refine returnsInHanded_of_change (C := Try.checked) own started (by kernel_rfl) Try.func7
    (ChangeSpec.witness6 (enc := enc) (C := Try.checked) false ⟨#[], #[.int .i64 0, .int .i64 0], []⟩ 8 (by kernel_rfl) (by kernel_rfl) (by kernel_rfl) (by kernel_rfl)) ?_
  intro W base args ds gs before hval0 hW hcnd _
  have hval : ∀ (j : Nat) t v, Try.f7.params[j]? = some t → args[j]? = some v → Value.okWide Try.prog W .any base t v := hval0
  have hW' := hW
  obtain ⟨p, q, hA0, hV, rfl, hfz, hnd⟩ := hW
  have hA : DataW.TrodAll enc Try.prog W 0 (fun _ => true) true Try.f7.params.toList args.toList ds p := hA0
  rw [Try.params7] at hA hval
  obtain ⟨v0', vs0, d0, ds0, p0, q0, hargs, rfl, rfl, h0', r0⟩ := trodAll_cons hA
  obtain ⟨v1', vs1, d1, ds1, p1, q1, rfl, rfl, rfl, h1', r1⟩ := trodAll_cons r0
  obtain ⟨rfl, rfl, rfl⟩ := trodAll_nil r1
  obtain rfl : args = #[v0', v1'] := by cases args; simp_all
  obtain ⟨rfl, rfl⟩ := trodVars_none hV
  have k0 := h0'
  have lt0 : ∀ x ∈ p0, x.block < W.heap.size := by obtain ⟨m, hm⟩ := k0; exact DataW.trod_lt m _ _ _ hm
  obtain ⟨a0, rfl, hd0, hp0, w0⟩ := open_int Try.underlying3 (hval 0 3 v0' rfl rfl) h0'
  have k1 := h1'
  have lt1 : ∀ x ∈ p1, x.block < W.heap.size := by obtain ⟨m, hm⟩ := k1; exact DataW.trod_lt m _ _ _ hm
  obtain ⟨a1, rfl, hd1, hp1, w1⟩ := open_int Try.underlying28 (hval 1 28 v1' rfl rfl) h1'
  clear hA0 hval0
  refine (walk W a0 (bounds_i64 w0) a1 (bounds_i64 w1)).mono fun e W' ⟨he, bel⟩ => ?_
  subst he
  exact ⟨_, rfl, _, _, _, [], _, [], hW', trodAll_mk1 (shut_bool Try.underlying4 _), (trodAll_cons_mk (Below.trod laidOut (by kernel_rfl) (of_decide_eq_true (by kernel_rfl)) k0 bel lt0) (trodAll_cons_mk (Below.trod laidOut (by kernel_rfl) (of_decide_eq_true (by kernel_rfl)) k1 bel lt1) trodAll_mk0)), rfl, bel.frame _, fun h => by cases h⟩

theorem over : Rows.numsNoneRow.holds Try.pinned (OpenSpec.ofChange Rows.numsNoneSpec) :=
  OpenClaim.holds_of_wide 7 Try.f7 rfl rfl rfl rfl rfl rfl rfl ⟨rfl, rfl, rfl, rfl, rfl⟩ rfl rfl rfl rfl rfl (by kernel_rfl) Try.func7 (by kernel_rfl)
    (of_decide_eq_true (by kernel_rfl)) (by unfold Func.isWrapper; first | (rw [if_pos (by decide +kernel)]; kernel_rfl) | (rw [if_neg (by decide +kernel)]; exact ⟨rfl, rfl⟩))
    (fun os started H enc _ => lifted os started H enc)

theorem proved : Rows.NumsNoneSaid := over
#print axioms proved
end Go.Proofs.Ytejibnkgenonfaa.lawNumsNone

/-
  'NumsOne': whatever bytes: if they are read as a number, with none left, they are that number's bytes. No condition.
-/
import Derived.Test.YtejibnkgenonfaaZig
import Derived.Test.YtejibnkgenonfaaCurLaws
import Derived.Test.YtejibnkgenonfaaSame
import Derived.Test.YtejibnkgenonfaaOpen
namespace Go.Proofs.Ytejibnkgenonfaa.lawNumsOne
open Go.ChangeShapes Go.WideShapes Go.ChangeAt Go.RowKit
open Go.ChangeMaps (open_string shut_string)
set_option linter.unusedVariables false
theorem num_lt (s : Cs) : s.num < 18446744073709551616 := by
  unfold Cs.num; split
  · omega
  · exact (scanS_facts _).1
set_option maxRecDepth 100000 in
set_option maxHeartbeats 1000000 in
theorem walk (w : World) (v : Value) (L : List UInt8) (hr : Rd w w.heap.size 1 v L.length (bv L)) (hm : L.length ≤ maxLen) :
    Calls Try.prog 6 #[v] w fun e w' => e = .returned (.bool true) ∧ Below w.heap.size w w' := by
  have h' := Lib.hid hr
  obtain ⟨A, c, rfl, _⟩ := hr
  clear hm
  by_cases h40 : 40 < L.length
  · go_enter Try.func6, Try.ntmps6
    go_wp2_with (go_at_call 11; refine (alive_c _).mono ?_; rintro e w1 ⟨rfl, hb1⟩)
    go_ret
    exact ⟨rfl, hb1⟩
  · have hlaw := one_law L
    obtain ⟨er, her⟩ : ∃ er, er = (Cs.end' (Cs.num' ⟨L, 0, 0⟩)).e := ⟨_, rfl⟩
    obtain ⟨x, hx⟩ : ∃ x, x = Cs.num ⟨L, 0, 0⟩ := ⟨_, rfl⟩
    have hxl := num_lt ⟨L, 0, 0⟩
    rw [← her, ← hx] at hlaw
    rw [← hx] at hxl
    have HE := Lib.hid her; have HX := Lib.hid hx; have HL := Lib.hid hxl
    clear her hx hxl
    by_cases he : er = 0
    · have hlx := Lib.hid (hlaw he)
      have hb : (er != 0) = false := by simp [he]
      clear hlaw he
      go_enter Try.func6, Try.ntmps6
      go_wp2_with (first
        | (go_at_call 11; refine (alive_c _).mono ?_; rintro e w1 ⟨rfl, hb1⟩)
        | (go_at_call 24; refine (new_c _ (h'.out.below hb1) (by omega)).mono ?_; rintro e w2 ⟨⟨g, rfl, hC, hg⟩, hb2⟩)
        | (go_at_call 25; refine (cnum_c _ g _ hC).mono ?_; rintro e w3 ⟨rfl, hC3, hg3⟩; rw [← HX.out])
        | (go_at_call 26; refine (end_c _ g _ hC3).mono ?_; rintro e w4 ⟨rfl, hC4, hg4⟩; rw [← HE.out])
        | (go_at_call 19; refine (num_c x HL.out _).mono ?_; rintro e w5 ⟨v5, rfl, hown5, hb5⟩))
      have b1 := hb1.size
      have b2 := hb2.size
      have bb2 := hb1.trans (hb2.mono b1)
      have bb3 := Below.only bb2 hg3 (by omega) (by omega)
      have bb4 := Below.only bb3 hg4 (by omega) bb3.size
      have bb5 := bb4.trans (hb5.mono bb4.size)
      refine (same_c _ (Rd.of_own hown5) (h'.out.below bb5)).mono ?_
      rintro e w' ⟨rfl, rfl⟩
      rw [hlx.out]
      go_wp2_with fail
      go_ret
      exact ⟨rfl, bb5⟩
    · have hb : (er != 0) = true := by rw [bne_iff_ne]; exact he
      clear hlaw he
      go_enter Try.func6, Try.ntmps6
      go_wp2_with (first
        | (go_at_call 11; refine (alive_c _).mono ?_; rintro e w1 ⟨rfl, hb1⟩)
        | (go_at_call 24; refine (new_c _ (h'.out.below hb1) (by omega)).mono ?_; rintro e w2 ⟨⟨g, rfl, hC, hg⟩, hb2⟩)
        | (go_at_call 25; refine (cnum_c _ g _ hC).mono ?_; rintro e w3 ⟨rfl, hC3, hg3⟩; rw [← HX.out])
        | (go_at_call 26; refine (end_c _ g _ hC3).mono ?_; rintro e w4 ⟨rfl, hC4, hg4⟩; rw [← HE.out]))
      have b1 := hb1.size
      have b2 := hb2.size
      have bb2 := hb1.trans (hb2.mono b1)
      have bb3 := Below.only bb2 hg3 (by omega) (by omega)
      have bb4 := Below.only bb3 hg4 (by omega) bb3.size
      go_ret
      exact ⟨rfl, bb4⟩
theorem own : ownKnob Try.prog.godebug = none := by kernel_rfl
theorem laidOut : laidOutB Try.prog = true := by kernel_rfl
set_option maxRecDepth 100000 in
theorem lifted (os : Os) (started : os.Started) (H : Type) (enc : TypeId × Value → H) :
    ReturnsInHanded {} Try.checked os 6 .any (Rows.numsOneSpec.pre6 enc Try.prog Try.f6 Rows.numsOneRow.domain false) (Rows.numsOneSpec.post enc Try.prog Try.f6 false true false false) := by
  refine returnsInHanded_of_change (C := Try.checked) own started (by kernel_rfl) Try.func6
    (ChangeSpec.witness6 (enc := enc) (C := Try.checked) false ⟨#[], #[.slice none 0 0], []⟩ 8 (by kernel_rfl) (by kernel_rfl) (by kernel_rfl) (by kernel_rfl)) ?_
  intro W base args ds gs before hval0 hW hcnd _
  have hval : ∀ (j : Nat) t v, Try.f6.params[j]? = some t → args[j]? = some v → Value.okWide Try.prog W .any base t v := hval0
  have hW' := hW
  obtain ⟨p, q, hA0, hV, rfl, hfz, hnd⟩ := hW
  have hA : DataW.TrodAll enc Try.prog W 0 (fun _ => true) true Try.f6.params.toList args.toList ds p := hA0
  rw [Try.params6] at hA hval
  obtain ⟨v0', vs0, d0, ds0, p0, q0, hargs, rfl, rfl, h0', r0⟩ := trodAll_cons hA
  obtain ⟨rfl, rfl, rfl⟩ := trodAll_nil r0
  obtain rfl : args = #[v0'] := by cases args; simp_all
  obtain ⟨rfl, rfl⟩ := trodVars_none hV
  have k0 := h0'
  have lt0 : ∀ x ∈ p0, x.block < W.heap.size := by obtain ⟨m, hm⟩ := k0; exact DataW.trod_lt m _ _ _ hm
  obtain ⟨A0, n0, c0, rfl⟩ := okWide_slice Try.underlying27 (hval 0 27 v0' rfl rfl)
  obtain ⟨⟨u0, L0⟩, e0, hr0, ho0, hm0⟩ := DecT.arg (dec_slice Try.underlying27 (by kernel_rfl : Try.prog.cellsOf 5 = 1) (by omega) (fun _ => rfl) (dec_u8 (w := W) Try.underlying5)) k0
  obtain rfl := cells_slice A0 n0 c0 rfl e0
  rw [flatMap_bv] at hr0
  clear hA0 hval0
  refine (walk W _ L0 hr0 hm0).mono fun e W' ⟨he, bel⟩ => ?_
  subst he
  exact ⟨_, rfl, _, _, _, [], _, [], hW', trodAll_mk1 (shut_bool Try.underlying4 _), (trodAll_cons_mk (Below.trod laidOut (by kernel_rfl) (of_decide_eq_true (by kernel_rfl)) k0 bel lt0) trodAll_mk0), rfl, bel.frame _, fun h => by cases h⟩

theorem over : Rows.numsOneRow.holds Try.pinned (OpenSpec.ofChange Rows.numsOneSpec) :=
  OpenClaim.holds_of_wide 6 Try.f6 rfl rfl rfl rfl rfl rfl rfl ⟨rfl, rfl, rfl, rfl, rfl⟩ rfl rfl rfl rfl rfl (by kernel_rfl) Try.func6 (by kernel_rfl)
    (of_decide_eq_true (by kernel_rfl)) (by unfold Func.isWrapper; first | (rw [if_pos (by decide +kernel)]; kernel_rfl) | (rw [if_neg (by decide +kernel)]; exact ⟨rfl, rfl⟩))
    (fun os started H enc _ => lifted os started H enc)

theorem proved : Rows.NumsOneSaid := over
#print axioms proved
end Go.Proofs.Ytejibnkgenonfaa.lawNumsOne

/-
  'NumsStill': a cursor that has an error stands still, whatever is asked of it. No condition.
-/
import Derived.Test.YtejibnkgenonfaaZig
import Derived.Test.YtejibnkgenonfaaCursor5
import Derived.Test.YtejibnkgenonfaaNumOps
namespace Go.Proofs.Ytejibnkgenonfaa.lawNumsStill
open Go.ChangeShapes Go.WideShapes Go.ChangeAt Go.RowKit
open Go.ChangeMaps (open_string shut_string)
set_option linter.unusedVariables false
theorem below_cur {B g : Nat} {a w w' : World} {s : Cs} (h : Below B a w) (hC : CurP w g s w') (hB : B ≤ g) (hBs : B ≤ w.heap.size) : Below B a w' := Below.only h hC.2 hB hBs
theorem cur_eq {w w' : World} {g : Nat} {s t : Cs} (h : CurP w g s w') (e : s = t) : CurP w g t w' := by subst e; exact h
set_option maxRecDepth 100000 in
set_option maxHeartbeats 2000000 in
theorem walk (w : World) (v : Value) (b : List UInt8) (hr : Rd w w.heap.size 1 v b.length (bv b)) (hm : b.length ≤ maxLen) (er : Int) (her : -9223372036854775808 ≤ er ∧ er ≤ 9223372036854775807)
    (u : Value) (L : List NOp) (hru : Rd w w.heap.size 3 u L.length (L.flatMap NOp.cells)) (hok : ∀ x ∈ L, NOp.ok x) (hmu : L.length ≤ maxLen) :
    Calls Try.prog 9 #[v, .int .i64 er, u] w fun e w' => e = .returned (.bool true) ∧ Below w.heap.size w w' := by
  have H1 := Lib.hid hr; have H2 := Lib.hid hru; have H3 := Lib.hid hok
  obtain ⟨A, c, rfl, _⟩ := hr
  obtain ⟨A2, c2, rfl, _⟩ := hru
  clear hm hmu hok her
  by_cases h1 : (2000 : Int) < b.length
  · go_enter Try.func9, Try.ntmps9
    go_wp2_with (go_at_call 11; refine (alive_c _).mono ?_; rintro e w1 ⟨rfl, hb1⟩)
    go_ret
    exact ⟨rfl, hb1⟩
  · by_cases h2 : (60 : Int) < L.length
    · go_enter Try.func9, Try.ntmps9
      go_wp2_with (go_at_call 11; refine (alive_c _).mono ?_; rintro e w1 ⟨rfl, hb1⟩)
      go_ret
      exact ⟨rfl, hb1⟩
    · by_cases h3 : er = 0
      · have h3' : (er == 0) = true := by simp [h3]
        have H := Lib.hid h3; clear h3
        go_enter Try.func9, Try.ntmps9
        go_wp2_with (go_at_call 11; refine (alive_c _).mono ?_; rintro e w1 ⟨rfl, hb1⟩)
        go_ret
        exact ⟨rfl, hb1⟩
      · have h3' : (er == 0) = false := by simp [h3]
        obtain ⟨s, hs⟩ : ∃ s : Cs, s = ⟨b, 0, er⟩ := ⟨_, rfl⟩
        have hse : s.e = er := by rw [hs]
        have hst := fun n e => still (s := s) (by rw [hse]; exact h3) n e
        have hf0 : Cs.failed ⟨b, 0, 0⟩ er = s := by rw [hs]; rfl
        have HS := Lib.hid hst; have HE := Lib.hid hse; have H0 := Lib.hid hf0; have HH := Lib.hid hs
        clear hst hse hf0 hs h3
        go_enter Try.func9, Try.ntmps9
        go_wp2_with (first
          | (go_at_call 11; refine (alive_c _).mono ?_; rintro e w1 ⟨rfl, hb1⟩)
          | (go_at_call 24; refine (new_c _ (H1.out.below hb1) (by omega)).mono ?_; rintro e w2 ⟨⟨g, rfl, hC, hg⟩, hb2⟩)
          | (go_at_call 27; refine (fail_c _ g _ hC er).mono ?_; rintro e w3 ⟨rfl, hC3⟩; rw [H0.out] at hC3))
        have hgw : w.heap.size ≤ g := Nat.le_trans hb1.size hg
        have hb12 := hb1.trans (hb2.mono hb1.size)
        have hb3 := below_cur hb12 hC3 hgw hb12.size
        have HC3 := Lib.hid hC3.1
        clear hC hC3 hb1 hb2 hb12 hg
        go_loopw [8, 9] (fun i n9 wr => ∃ k : Nat, k ≤ L.length ∧ i = .int .i64 k ∧ Hid (Cur wr g s) ∧ Hid (Below w.heap.size w wr)) (fun i _ _ => L.length - (intOf i).toNat)
        case atStart => exact ⟨0, Nat.zero_le _, rfl, HC3, hb3⟩
        case round =>
          obtain ⟨k, hk, rfl, HC, HB⟩ := hrel
          have HBs := HB.out.size
          by_cases hlt : k < L.length
          · obtain ⟨bb, off, x, rfl, hbb, hx, hc0, hc1, hc2⟩ := nops_at H2.out hlt
            have hxo := H3.out x (List.mem_of_getElem? hx)
            have hxi := Lib.hid hxo.2.1
            have hd1 := (HB.out.cell (p := ⟨bb, off + k * 3 + 1, none⟩) hbb).trans hc1
            have hd2 := (HB.out.cell (p := ⟨bb, off + k * 3 + 2, none⟩) hbb).trans hc2
            clear hc0 hc1 hc2 hx hxo
            go_wp2_with (first
              | (go_at_call 27; refine (fail_c _ g s HC.out x.2.2).mono ?_; rintro e w4 ⟨rfl, hC4⟩; replace hC4 := Lib.hid (cur_eq hC4 (HS.out 0 x.2.2).1); have hb4 := Lib.hid (below_cur HB.out hC4.out hgw HBs))
              | (go_at_call 25; refine (cnum_c _ g s hC4.out.1).mono ?_; rintro e w5 ⟨rfl, hC5⟩; rw [(HS.out 0 0).2.1]; replace hC5 := Lib.hid (cur_eq hC5 (HS.out 0 0).2.2.1); have hb5 := Lib.hid (below_cur hb4.out hC5.out hgw hb4.out.size))
              | (go_at_call 28; refine (cint_c _ g s hC5.out.1 x.2.1 hxi.out).mono ?_; rintro e w6 ⟨rfl, hC6⟩; rw [(HS.out x.2.1 0).2.2.2.1]; replace hC6 := Lib.hid (cur_eq hC6 (HS.out x.2.1 0).2.2.2.2.1); have hb6 := Lib.hid (below_cur hb5.out hC6.out hgw hb5.out.size))
              | (go_at_call 29; refine (cbyte_c _ g s hC6.out.1).mono ?_; rintro e w7 ⟨rfl, hC7⟩; rw [(HS.out 0 0).2.2.2.2.2.2.2.1]; replace hC7 := Lib.hid (cur_eq hC7 (HS.out 0 0).2.2.2.2.2.2.2.2.1); have hb7 := Lib.hid (below_cur hb6.out hC7.out hgw hb6.out.size))
              | (go_at_call 30; refine (cfixed_c _ g s hC7.out.1 x.2.1).mono ?_; rintro e w8 ⟨rfl, hC8⟩; rw [(HS.out x.2.1 0).2.2.2.2.2.2.2.2.2.1]; replace hC8 := Lib.hid (cur_eq hC8 (HS.out x.2.1 0).2.2.2.2.2.2.2.2.2.2.1); have hb8 := Lib.hid (below_cur hb7.out hC8.out hgw hb7.out.size))
              | (go_at_call 31; refine (ctake_c _ g s hC8.out.1 x.2.1).mono ?_; rintro e w9 ⟨⟨v9, rfl, ho9⟩, hC9⟩; rw [(HS.out x.2.1 0).2.2.2.2.2.1] at ho9; obtain ⟨A9, c9, rfl, hcc9⟩ := (Rd.of_own ho9).form; clear ho9; replace hC9 := Lib.hid (cur_eq hC9 (HS.out x.2.1 0).2.2.2.2.2.2.1); have hb9 := Lib.hid (below_cur hb8.out hC9.out hgw hb8.out.size))
              | (go_at_call 32; refine (ctext_c _ g s hC9.out.1 x.2.1 hxi.out).mono ?_; rintro e w10 ⟨rfl, hC10⟩; rw [(HS.out x.2.1 0).2.2.2.2.2.2.2.2.2.2.2.1]; replace hC10 := Lib.hid (cur_eq hC10 (HS.out x.2.1 0).2.2.2.2.2.2.2.2.2.2.2.2.1); have hb10 := Lib.hid (below_cur hb9.out hC10.out hgw hb9.out.size))
              | (go_at_call 26; refine (end_c _ g s hC10.out.1).mono ?_; rintro e w11 ⟨rfl, hC11⟩; rw [(HS.out 0 0).2.2.2.2.2.2.2.2.2.2.2.2.2, HE.out]; replace hC11 := Lib.hid (cur_eq hC11 (HS.out 0 0).2.2.2.2.2.2.2.2.2.2.2.2.2); have hb11 := Lib.hid (below_cur hb10.out hC11.out hgw hb10.out.size)))
            go_roundw
            case rel => exact ⟨k + 1, by omega, by go_num, hC11.out.1, hb11⟩
            case measure => simp [intOf]; omega
          · have hat0 : s.at_ = 0 := by rw [HH.out]
            have hlf : s.left = b.length := by rw [HH.out]; simp [Cs.left]
            go_wp2_with (first
              | (go_at_call 34; refine (at_c _ g s HC.out).mono ?_; rintro e w4 ⟨rfl, rfl⟩)
              | (go_at_call 35; refine (left_c _ g s HC.out).mono ?_; rintro e w5 ⟨rfl, hsh⟩)
              | (go_at_call 33; refine (err_c _ g s (hsh.cur HC.out)).mono ?_; rintro e w6 ⟨rfl, rfl⟩; rw [HE.out]))
            go_ret
            exact ⟨rfl, HB.out.trans (hsh.below _)⟩
theorem own : ownKnob Try.prog.godebug = none := by kernel_rfl
theorem laidOut : laidOutB Try.prog = true := by kernel_rfl
set_option maxRecDepth 100000 in
theorem lifted (os : Os) (started : os.Started) (H : Type) (enc : TypeId × Value → H) :
    ReturnsInHanded {} Try.checked os 9 .any (Rows.numsStillSpec.pre6 enc Try.prog Try.f9 Rows.numsStillRow.domain false) (Rows.numsStillSpec.post enc Try.prog Try.f9 false true false false) := by
  refine returnsInHanded_of_change (C := Try.checked) own started (by kernel_rfl) Try.func9
    (ChangeSpec.witness6 (enc := enc) (C := Try.checked) false ⟨#[], #[.slice none 0 0, .int .i64 0, .slice none 0 0], []⟩ 8 (by kernel_rfl) (by kernel_rfl) (by kernel_rfl) (by kernel_rfl)) ?_
  intro W base args ds gs before hval0 hW hcnd _
  have hval : ∀ (j : Nat) t v, Try.f9.params[j]? = some t → args[j]? = some v → Value.okWide Try.prog W .any base t v := hval0
  have hW' := hW
  obtain ⟨p, q, hA0, hV, rfl, hfz, hnd⟩ := hW
  have hA : DataW.TrodAll enc Try.prog W 0 (fun _ => true) true Try.f9.params.toList args.toList ds p := hA0
  rw [Try.params9] at hA hval
  obtain ⟨v0', vs0, d0, ds0, p0, q0, hargs, rfl, rfl, h0', r0⟩ := trodAll_cons hA
  obtain ⟨v1', vs1, d1, ds1, p1, q1, rfl, rfl, rfl, h1', r1⟩ := trodAll_cons r0
  obtain ⟨v2', vs2, d2, ds2, p2, q2, rfl, rfl, rfl, h2', r2⟩ := trodAll_cons r1
  obtain ⟨rfl, rfl, rfl⟩ := trodAll_nil r2
  obtain rfl : args = #[v0', v1', v2'] := by cases args; simp_all
  obtain ⟨rfl, rfl⟩ := trodVars_none hV
  have k0 := h0'
  have lt0 : ∀ x ∈ p0, x.block < W.heap.size := by obtain ⟨m, hm⟩ := k0; exact DataW.trod_lt m _ _ _ hm
  obtain ⟨A0, n0, c0, rfl⟩ := okWide_slice Try.underlying27 (hval 0 27 v0' rfl rfl)
  obtain ⟨⟨u0, L0⟩, e0, hr0, ho0, hm0⟩ := DecT.arg (dec_slice Try.underlying27 (by kernel_rfl : Try.prog.cellsOf 5 = 1) (by omega) (fun _ => rfl) (dec_u8 (w := W) Try.underlying5)) k0
  obtain rfl := cells_slice A0 n0 c0 rfl e0
  rw [flatMap_bv] at hr0
  have k1 := h1'
  have lt1 : ∀ x ∈ p1, x.block < W.heap.size := by obtain ⟨m, hm⟩ := k1; exact DataW.trod_lt m _ _ _ hm
  obtain ⟨a1, rfl, hd1, hp1, w1⟩ := open_int Try.underlying28 (hval 1 28 v1' rfl rfl) h1'
  have k2 := h2'
  have lt2 : ∀ x ∈ p2, x.block < W.heap.size := by obtain ⟨m, hm⟩ := k2; exact DataW.trod_lt m _ _ _ hm
  obtain ⟨A2, n2, c2, rfl⟩ := okWide_slice Try.underlying51 (hval 2 51 v2' rfl rfl)
  obtain ⟨⟨u2, L2⟩, e2, hr2, ho2, hm2⟩ := DecT.arg (dec_slice Try.underlying51 (by kernel_rfl : Try.prog.cellsOf 55 = 3) (by omega) (fun _ => rfl) (dec_nop W)) k2
  obtain rfl := cells_slice A2 n2 c2 rfl e2
  clear hA0 hval0
  refine (walk W _ L0 hr0 hm0 a1 (bounds_i64 w1) _ L2 hr2 ho2 hm2).mono fun e W' ⟨he, bel⟩ => ?_
  subst he
  exact ⟨_, rfl, _, _, _, [], _, [], hW', trodAll_mk1 (shut_bool Try.underlying4 _), (trodAll_cons_mk (Below.trod laidOut (by kernel_rfl) (of_decide_eq_true (by kernel_rfl)) k0 bel lt0) (trodAll_cons_mk (Below.trod laidOut (by kernel_rfl) (of_decide_eq_true (by kernel_rfl)) k1 bel lt1) (trodAll_cons_mk (Below.trod laidOut (by kernel_rfl) (of_decide_eq_true (by kernel_rfl)) k2 bel lt2) trodAll_mk0))), rfl, bel.frame _, fun h => by cases h⟩

theorem over : Rows.numsStillRow.holds Try.pinned (OpenSpec.ofChange Rows.numsStillSpec) :=
  OpenClaim.holds_of_wide 9 Try.f9 rfl rfl rfl rfl rfl rfl rfl ⟨rfl, rfl, rfl, rfl, rfl⟩ rfl rfl rfl rfl rfl (by kernel_rfl) Try.func9 (by kernel_rfl)
    (of_decide_eq_true (by kernel_rfl)) (by unfold Func.isWrapper; first | (rw [if_pos (by decide +kernel)]; kernel_rfl) | (rw [if_neg (by decide +kernel)]; exact ⟨rfl, rfl⟩))
    (fun os started H enc _ => lifted os started H enc)

theorem proved : Rows.NumsStillSaid := over
#print axioms proved
end Go.Proofs.Ytejibnkgenonfaa.lawNumsStill

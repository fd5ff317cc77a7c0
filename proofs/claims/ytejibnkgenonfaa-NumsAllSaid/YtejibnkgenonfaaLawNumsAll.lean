/-
  'NumsAll': whatever parts: they are put one behind the other. No condition.
-/
import Derived.Test.YtejibnkgenonfaaZig
import Derived.Test.YtejibnkgenonfaaConcat
import Derived.Test.YtejibnkgenonfaaSame
import Derived.Test.YtejibnkgenonfaaOpen
namespace Go.Proofs.Ytejibnkgenonfaa.lawNumsAll
open Go.ChangeShapes Go.WideShapes Go.ChangeAt Go.RowKit
open Go.ChangeMaps (open_string shut_string)
set_option linter.unusedVariables false
theorem parts_rd {w : World} {v : Value} {P : Parts} (h : Rd w w.heap.size 1 v P.length (P.flatMap fun x => [x.1])) : Rd w w.heap.size 1 v P.length P.vals := by
  rw [flat_single] at h; exact h
theorem parts_ok {w : World} {P : Parts} (h : ∀ y ∈ P, Rd w w.heap.size 1 y.1 y.2.length (y.2.flatMap fun b : UInt8 => [Value.int .u8 (b.toNat : Int)]) ∧ (∀ z ∈ y.2, True) ∧ y.2.length ≤ maxLen) : P.ok w w.heap.size := by
  intro x hx
  have := (h x hx).1
  rw [flatMap_bv] at this
  exact this
theorem short_all (P : Parts) (h : ∀ x ∈ P, x.2.length ≤ 500) : P.all.length ≤ 500 * P.length := by
  unfold Parts.all
  induction P with
  | nil => simp
  | cons x P ih =>
    have h1 := h x (by simp)
    have h2 := ih fun y hy => h y (by simp [hy])
    simp only [List.flatMap_cons, List.length_append, List.length_cons]
    omega
set_option maxRecDepth 100000 in
set_option maxHeartbeats 1000000 in
theorem walk (w : World) (v : Value) (P : Parts) (hr : Rd w w.heap.size 1 v P.length P.vals) (hP : P.ok w w.heap.size) (hm : P.length ≤ maxLen) :
    Calls Try.prog 5 #[v] w fun e w' => e = .returned (.bool true) ∧ Below w.heap.size w w' := by
  have h' := hr
  obtain ⟨A, c, rfl, hc, hl, hr⟩ := hr
  obtain ⟨n, hn⟩ : ∃ n, n = P.length := ⟨_, rfl⟩
  rw [← hn] at hr h' ⊢
  have H' := Lib.hid h'; have Hr := Lib.hid hr; have HP := Lib.hid hP; have Hn := Lib.hid hn; have Hm := Lib.hid hm
  clear h' hr hP hn hl hm hc
  by_cases h100 : 100 < n
  · go_enter Try.func5, Try.ntmps5
    go_wp2_with (go_at_call 11; refine (alive_c _).mono ?_; rintro e w1 ⟨rfl, hb1⟩)
    go_ret
    exact ⟨rfl, hb1⟩
  · go_enter Try.func5, Try.ntmps5
    go_wp2_with (go_at_call 11; refine (alive_c _).mono ?_; rintro e w1 ⟨rfl, hb1⟩)
    go_loopw [2, 3, 4] (fun z o i wr => z = .bool false ∧ ∃ k : Nat, k ≤ n ∧ i = .int .i64 k ∧ wr.ownsRow w.heap.size 5 1 o (Parts.all (P.take k)).length (bv (Parts.all (P.take k))) ∧ Below w.heap.size w wr ∧ Hid (∀ x ∈ P.take k, x.2.length ≤ 500)) (fun _ _ i _ => n - (intOf i).toNat)
    case atStart => exact ⟨rfl, 0, Nat.zero_le _, rfl, by simpa [Parts.all] using World.ownsRow_nil _ _ _ _, hb1, by simp [Hid]⟩
    case round =>
      obtain ⟨rfl, k, hk, rfl, hown, hb, HS⟩ := hrel
      by_cases hlt : k < n
      · obtain ⟨ad, A', c', x, rfl, hab, hx, hcell0, hrd0⟩ := Parts.at_ Hr.out HP.out Hn.out hlt
        have hcell := (hb.cell (p := ad.add k) (by rw [block_of_add]; omega)).trans hcell0
        have hrd := hrd0.below hb
        have hsz := hb.size
        by_cases h500 : x.2.length ≤ 500
        · have e1 := Lib.hid (Parts.all_take_succ P hx)
          have hs1 := short_all _ HS.out
          rw [List.length_take] at hs1
          have HS1 : Hid (∀ y ∈ P.take (k + 1), y.2.length ≤ 500) := by
            unfold Hid
            intro y hy
            rw [List.take_succ_eq_append_getElem (by have := Hn.out; omega)] at hy
            rcases List.mem_append.1 hy with hy | hy
            · exact HS.out y hy
            · have hxe := (List.getElem?_eq_some_iff.1 hx).2
              simp [hxe] at hy; subst hy; exact h500
          have e3 : (Parts.all (P.take k)).length + x.2.length ≤ 1099511627776 := by omega
          clear hrd0 hcell0 hx hs1
          go_wp2_with (at_builtin; refine wp_app sl_u8 rfl (.tmp 22) (.tmp 26) rfl rfl hown rfl hrd (bv_one _) hb (Nat.le_refl _) hsz (by omega) (by omega) ?_; intro v2 w2 hown2 hb2 hg2)
          go_roundw
          case rel => exact ⟨rfl, k + 1, by omega, by go_num, by rw [e1.out, List.length_append, bv_append]; exact hown2, hb2, HS1⟩
          case measure => simp [intOf]; omega
        · clear hrd0 hcell0 hx hrd
          go_wp2_with fail
          go_ret
          exact ⟨rfl, hb⟩
      · have hkn : P.take k = P := List.take_of_length_le (by have := Hn.out; omega)
        have hs1 := HS.out
        rw [hkn] at hown hs1
        have hs2 := short_all _ hs1
        have HS2 := Lib.hid hs2
        clear hkn hs1 hs2
        go_wp2_with (go_at_call 23; refine (all_c _ Hn.out (H'.out.below hb) (Parts.ok_below HP.out hb) hb.size (by have := HS2.out; have := Hn.out; omega) (by have := Hn.out; omega)).mono ?_; rintro e w2 ⟨v2, rfl, hown2, hb2⟩)
        refine (same_c _ (Rd.of_own hown2) ((Rd.of_own hown).below hb2)).mono ?_
        rintro e w' ⟨rfl, rfl⟩
        go_wp2_with fail
        go_ret
        exact ⟨rfl, hb.trans (hb2.mono hb.size)⟩
theorem own : ownKnob Try.prog.godebug = none := by kernel_rfl
theorem laidOut : laidOutB Try.prog = true := by kernel_rfl
set_option maxRecDepth 100000 in
theorem lifted (os : Os) (started : os.Started) (H : Type) (enc : TypeId × Value → H) :
    ReturnsInHanded {} Try.checked os 5 .any (Rows.numsAllSpec.pre6 enc Try.prog Try.f5 Rows.numsAllRow.domain false) (Rows.numsAllSpec.post enc Try.prog Try.f5 false true false false) := by
  refine returnsInHanded_of_change (C := Try.checked) own started (by kernel_rfl) Try.func5
    (ChangeSpec.witness6 (enc := enc) (C := Try.checked) false ⟨#[], #[.slice none 0 0], []⟩ 8 (by kernel_rfl) (by kernel_rfl) (by kernel_rfl) (by kernel_rfl)) ?_
  intro W base args ds gs before hval0 hW hcnd _
  have hval : ∀ (j : Nat) t v, Try.f5.params[j]? = some t → args[j]? = some v → Value.okWide Try.prog W .any base t v := hval0
  have hW' := hW
  obtain ⟨p, q, hA0, hV, rfl, hfz, hnd⟩ := hW
  have hA : DataW.TrodAll enc Try.prog W 0 (fun _ => true) true Try.f5.params.toList args.toList ds p := hA0
  rw [Try.params5] at hA hval
  obtain ⟨v0', vs0, d0, ds0, p0, q0, hargs, rfl, rfl, h0', r0⟩ := trodAll_cons hA
  obtain ⟨rfl, rfl, rfl⟩ := trodAll_nil r0
  obtain rfl : args = #[v0'] := by cases args; simp_all
  obtain ⟨rfl, rfl⟩ := trodVars_none hV
  have k0 := h0'
  have lt0 : ∀ x ∈ p0, x.block < W.heap.size := by obtain ⟨m, hm⟩ := k0; exact DataW.trod_lt m _ _ _ hm
  obtain ⟨A0, n0, c0, rfl⟩ := okWide_slice Try.underlying35 (hval 0 35 v0' rfl rfl)
  obtain ⟨⟨u0, L0⟩, e0, hr0, ho0, hm0⟩ := DecT.arg (dec_slice Try.underlying35 (by kernel_rfl : Try.prog.cellsOf 27 = 1) (by omega) (fun _ => rfl) (dec_slice Try.underlying27 (by kernel_rfl : Try.prog.cellsOf 5 = 1) (by omega) (fun _ => rfl) (dec_u8 (w := W) Try.underlying5))) k0
  obtain rfl := cells_slice A0 n0 c0 rfl e0
  clear hA0 hval0
  refine (walk W _ L0 (parts_rd hr0) (parts_ok ho0) hm0).mono fun e W' ⟨he, bel⟩ => ?_
  subst he
  exact ⟨_, rfl, _, _, _, [], _, [], hW', trodAll_mk1 (shut_bool Try.underlying4 _), (trodAll_cons_mk (Below.trod laidOut (by kernel_rfl) (of_decide_eq_true (by kernel_rfl)) k0 bel lt0) trodAll_mk0), rfl, bel.frame _, fun h => by cases h⟩

theorem over : Rows.numsAllRow.holds Try.pinned (OpenSpec.ofChange Rows.numsAllSpec) :=
  OpenClaim.holds_of_wide 5 Try.f5 rfl rfl rfl rfl rfl rfl rfl ⟨rfl, rfl, rfl, rfl, rfl⟩ rfl rfl rfl rfl rfl (by kernel_rfl) Try.func5 (by kernel_rfl)
    (of_decide_eq_true (by kernel_rfl)) (by unfold Func.isWrapper; first | (rw [if_pos (by decide +kernel)]; kernel_rfl) | (rw [if_neg (by decide +kernel)]; exact ⟨rfl, rfl⟩))
    (fun os started H enc _ => lifted os started H enc)

theorem proved : Rows.NumsAllSaid := over
#print axioms proved
end Go.Proofs.Ytejibnkgenonfaa.lawNumsAll

/-
  'NumsBack': numbers, texts and fixed numbers that were written are read, one behind the other. No condition.
-/
import Derived.Test.YtejibnkgenonfaaZig
import Derived.Test.YtejibnkgenonfaaFixed
import Derived.Test.YtejibnkgenonfaaConcat
import Derived.Test.YtejibnkgenonfaaCursor5
import Derived.Test.YtejibnkgenonfaaCurLaws
import Derived.Test.YtejibnkgenonfaaOpen
namespace Go.Proofs.Ytejibnkgenonfaa.lawNumsBack
open Go.ChangeShapes Go.WideShapes Go.ChangeAt Go.RowKit
open Go.ChangeMaps (open_string shut_string)
set_option linter.unusedVariables false
theorem rd_three (w : World) (e : TypeId) (u0 u1 u2 : Value) : Rd (w.alloc (.cells #[u0, u1, u2] e)) (w.heap.size + 1) 1 (.slice (some ⟨w.heap.size, 0, none⟩) 3 3) 3 [u0, u1, u2] :=
  ⟨_, 3, rfl, Nat.le_refl _, rfl, fun _ => ⟨_, rfl, Nat.lt_succ_self _, fun j x hx => by
    rw [Addr.add_lit, Nat.zero_add, (Blk.new w e #[u0, u1, u2]).cell j]
    simpa using hx⟩⟩
/-- what is written, and what is read of it, step by step -/
structure Story (x : Nat) (t f : List UInt8) (y : Nat) (k : Int) (ok : Bool) (s0 s1 s2 s3 : Cs) : Prop where
  num : s0.num = x
  num' : s0.num' = s1
  text : s1.text 2000 = t
  text' : s1.text' 2000 = s2
  fixed : ok = true → s2.fixed k = y
  fixed' : ok = true → s2.fixed' k = s3
  done : ok = true → s3.end'.e = 0
  done' : ok = false → s2.end'.e = 0
theorem story (x : Nat) (hx : x < 18446744073709551616) (t : List UInt8) (ht : t.length ≤ 2000) (y : Nat) (hy : y < 18446744073709551616) (k : Nat) (hk1 : 1 ≤ k) (hk8 : k ≤ 8) :
    ∃ s1 s2 s3, Story x t (fixOf y k) y k (fixErr y k == 0) ⟨encN x ++ (encT t ++ (fixOf y k ++ [])), 0, 0⟩ s1 s2 s3 := by
  obtain ⟨h1, h2⟩ := Cs.num_at (s := ⟨encN x ++ (encT t ++ (fixOf y k ++ [])), 0, 0⟩) rfl hx rfl
  have hr1 := Cs.rest_move (s := ⟨encN x ++ (encT t ++ (fixOf y k ++ [])), 0, 0⟩) (a := encN x) rfl rfl
  obtain ⟨h3, h4⟩ := Cs.text_at (most := 2000) (by exact rfl) (by omega) (by omega) hr1
  have hr2 := Cs.rest_move hr1 (n := (encT t).length) rfl
  by_cases hz : y / 2 ^ (8 * k) = 0
  · have e1 : fixOf y k = fixL y k := by unfold fixOf; rw [if_pos (by rw [Int.toNat_natCast]; omega), Int.toNat_natCast]
    have e2 : fixErr y k = 0 := by unfold fixErr; rw [if_pos (by rw [Int.toNat_natCast]; omega)]
    obtain ⟨h5, h6⟩ := Cs.take_at (n := k) (by exact rfl) (by rw [e1, fixL_length]) hr2
    have hr3 := Cs.rest_move hr2 (n := (fixOf y k).length) rfl
    refine ⟨_, _, _, ⟨h1, h2, h3, h4, fun _ => ?_, fun _ => ?_, fun _ => Cs.end_at (by exact rfl) hr3, fun h => by rw [e2] at h; simp at h⟩⟩
    · unfold Cs.fixed
      rw [if_neg (by omega), h5, e1, leVal_fixL]
      exact Nat.mod_eq_of_lt ((Nat.div_eq_zero_iff.1 hz).resolve_left (by have := Nat.two_pow_pos (8 * k); omega))
    · unfold Cs.fixed'
      rw [if_neg (by omega)]
      exact h6
  · have e1 : fixOf y k = [] := by unfold fixOf; rw [if_neg (by rw [Int.toNat_natCast]; omega)]
    have e2 : fixErr y k = 13 := by unfold fixErr; rw [if_neg (by rw [Int.toNat_natCast]; omega)]
    refine ⟨_, _, ⟨[], 0, 0⟩, ⟨h1, h2, h3, h4, fun h => by rw [e2] at h; simp at h, fun h => by rw [e2] at h; simp at h, fun h => by rw [e2] at h; simp at h, fun _ => Cs.end_at (by exact rfl) (hr2.trans (by rw [e1]; rfl))⟩⟩
theorem mk_data (t : ByteArray) : ByteArray.mk t.data.toList.toArray = t := by simp
theorem parts3 {w2 w3 w4 : World} {l1 l2 l3 : List UInt8} {A1 A2 A3 : Option Addr} {c1 c2 c3 : Nat} {b1 b2 : Nat}
    (h1 : w3.ownsRow b1 5 1 (.slice A1 l1.length c1) l1.length (bv l1)) (hb4 : Below w3.heap.size w3 w4) (h2 : w4.ownsRow b2 5 1 (.slice A2 l2.length c2) l2.length (bv l2))
    (h3 : Rd w2 w2.heap.size 1 (.slice A3 l3.length c3) l3.length (bv l3)) (hb3 : Below w2.heap.size w2 w3) :
    Rd (w4.alloc (.cells #[.slice A1 l1.length c1, .slice A2 l2.length c2, .slice A3 l3.length c3] 27)) (w4.heap.size + 1) 1 (.slice (some ⟨w4.heap.size, 0, none⟩) 3 3) 3 (Parts.vals [(.slice A1 l1.length c1, l1), (.slice A2 l2.length c2, l2), (.slice A3 l3.length c3, l3)]) ∧
      Parts.ok [(.slice A1 l1.length c1, l1), (.slice A2 l2.length c2, l2), (.slice A3 l3.length c3, l3)] (w4.alloc (.cells #[.slice A1 l1.length c1, .slice A2 l2.length c2, .slice A3 l3.length c3] 27)) (w4.heap.size + 1) := by
  refine ⟨rd_three w4 _ _ _ _, ?_⟩
  have hal : ∀ o, Below w4.heap.size w4 (w4.alloc o) := fun o => (Below.refl _ _).alloc (Nat.le_refl _) o
  have hs3 := hb3.size
  have hs4 := hb4.size
  intro z hz
  simp only [List.mem_cons, List.not_mem_nil, or_false] at hz
  rcases hz with rfl | rfl | rfl
  · exact ((((Rd.of_own h1).below hb4).more hs4).below (hal _)).more (by omega)
  · exact ((Rd.of_own h2).below (hal _)).more (by omega)
  · exact ((((h3.below hb3).more hs3).below hb4).more hs4 |>.below (hal _)).more (by omega)
set_option maxRecDepth 100000 in
set_option maxHeartbeats 2000000 in
theorem walk (w : World) (x : Nat) (hx : x < 18446744073709551616) (t : ByteArray) (ht : t.size ≤ maxLen) (y : Nat) (hy : y < 18446744073709551616) (n : Nat) (hn : n < 256) :
    Calls Try.prog 10 #[.int .u64 x, .string t, .int .u64 y, .int .u8 n] w fun e w' => e = .returned (.bool true) ∧ Below w.heap.size w w' := by
  have HX := Lib.hid hx; have HY := Lib.hid hy
  clear hx hy ht
  by_cases h1 : (2000 : Int) < t.size
  · go_enter Try.func10, Try.ntmps10
    go_wp2_with (go_at_call 11; refine (alive_c _).mono ?_; rintro e w1 ⟨rfl, hb1⟩)
    go_ret
    exact ⟨rfl, hb1⟩
  · have hts : t.data.toList.length = t.size := Array.length_toList
    obtain ⟨k, hk⟩ : ∃ k : Nat, k = 1 + n % 8 := ⟨_, rfl⟩
    obtain ⟨s1, s2, s3, hst⟩ := story x HX.out t.data.toList (by omega) y HY.out k (by omega) (by omega)
    obtain ⟨F, hF⟩ : ∃ F, F = fixOf y k := ⟨_, rfl⟩
    obtain ⟨er, her⟩ : ∃ er, er = fixErr y k := ⟨_, rfl⟩
    have hkk : (1 : Int) + (n : Int) % 8 = (k : Int) := by omega
    have hfl : F.length ≤ 8 := by rw [hF]; unfold fixOf; split <;> simp; omega
    rw [← hF, ← her] at hst
    have hxl := encN_len10 HX.out
    have htl : (encT t.data.toList).length ≤ 2010 := by
      have := encN_len10 (x := t.size) (by omega)
      unfold encT; rw [List.length_append, hts]; omega
    have HST := Lib.hid hst; have HF := Lib.hid hF; have HE := Lib.hid her; have HK := Lib.hid hkk; have HTS := Lib.hid hts
    have Hxl := Lib.hid hxl; have Htl := Lib.hid htl; have Hfl := Lib.hid hfl
    have hts2 : t.size ≤ 2000 := by omega
    clear hst hF her hkk hk hts hxl htl hfl
    have hkk := HK.out
    by_cases hok : (er == 0) = true
    · go_enter Try.func10, Try.ntmps10
      go_wp2_with (first
        | (go_at_call 11; refine (alive_c _).mono ?_; rintro e w1 ⟨rfl, hb1⟩)
        | (go_at_call 16; refine (fixed_c y HY.out (k : Int) _).mono ?_; rintro e w2 ⟨⟨v2, rfl, hr2⟩, hb2⟩; rw [← HE.out]; rw [← HF.out] at hr2; obtain ⟨A2, c2, rfl, hcc2⟩ := hr2.form; have HR2 := Lib.hid hr2; clear hr2 hcc2)
        | (go_at_call 19; refine (num_c x HX.out _).mono ?_; rintro e w3 ⟨v3, rfl, ho3, hb3⟩; obtain ⟨A3, c3, rfl, hcc3⟩ := (Rd.of_own ho3).form; have HO3 := Lib.hid ho3; clear ho3 hcc3)
        | (go_at_call 21; refine (text_c t (by omega) _).mono ?_; rintro e w4 ⟨v4, rfl, ho4, hb4⟩; obtain ⟨A4, c4, rfl, hcc4⟩ := (Rd.of_own ho4).form; have HO4 := Lib.hid ho4; clear ho4 hcc4)
        | (go_at_call 23; have hal := Lib.hid (parts3 HO3.out hb4 HO4.out HR2.out hb3); refine (all_c (B := w4.heap.size + 1) (n := 3) (P := [(_, encN x), (_, encT t.data.toList), (_, F)]) _ rfl hal.out.1 hal.out.2 (by simp) (by have h1 := Hxl.out; have h2 := Htl.out; have h3 := Hfl.out; simp [Parts.all]; omega) (by simp)).mono ?_; rintro e w5 ⟨v5, rfl, ho5, hb5⟩)
        | (go_at_call 24; refine (new_c _ (Rd.of_own ho5) (by have h1 := Hxl.out; have h2 := Htl.out; have h3 := Hfl.out; simp [Parts.all]; omega)).mono ?_; rintro e w6 ⟨⟨g, rfl, hC, hg⟩, hb6⟩)
        | (go_at_call 25; refine (cnum_c _ g ⟨encN x ++ (encT t.data.toList ++ (F ++ [])), 0, 0⟩ hC).mono ?_; rintro e w7 ⟨rfl, hC7, hg7⟩; rw [HST.out.num]; rw [HST.out.num'] at hC7)
        | (go_at_call 32; refine (ctext_c _ g _ hC7 2000 (by omega)).mono ?_; rintro e w8 ⟨rfl, hC8, hg8⟩; rw [HST.out.text, mk_data]; rw [HST.out.text'] at hC8)
        | (go_at_call 30; refine (cfixed_c _ g _ hC8 (k : Int)).mono ?_; rintro e w9 ⟨rfl, hC9, hg9⟩; rw [HST.out.fixed hok]; rw [HST.out.fixed' hok] at hC9)
        | (go_at_call 26; refine (end_c _ g _ hC9).mono ?_; rintro e w10 ⟨rfl, hC10, hg10⟩; rw [HST.out.done hok]))
      go_ret
      have b2 := hb1.trans (hb2.mono hb1.size)
      have b3 := b2.trans (hb3.mono b2.size)
      have b4 := b3.trans (hb4.mono b3.size)
      have b4' := b4.alloc b4.size (.cells #[.slice A3 (encN x).length c3, .slice A4 (encT t.data.toList).length c4, .slice A2 F.length c2] 27)
      have b5 := b4'.trans (hb5.mono b4'.size)
      have b6 := b5.trans (hb6.mono b5.size)
      have hgw := Nat.le_trans b5.size hg
      have b7 := Below.only b6 hg7 hgw b6.size
      have b8 := Below.only b7 hg8 hgw b7.size
      have b9 := Below.only b8 hg9 hgw b8.size
      exact ⟨rfl, Below.only b9 hg10 hgw b9.size⟩
    · replace hok : (er == 0) = false := by simpa using hok
      go_enter Try.func10, Try.ntmps10
      go_wp2_with (first
        | (go_at_call 11; refine (alive_c _).mono ?_; rintro e w1 ⟨rfl, hb1⟩)
        | (go_at_call 16; refine (fixed_c y HY.out (k : Int) _).mono ?_; rintro e w2 ⟨⟨v2, rfl, hr2⟩, hb2⟩; rw [← HE.out]; rw [← HF.out] at hr2; obtain ⟨A2, c2, rfl, hcc2⟩ := hr2.form; have HR2 := Lib.hid hr2; clear hr2 hcc2)
        | (go_at_call 19; refine (num_c x HX.out _).mono ?_; rintro e w3 ⟨v3, rfl, ho3, hb3⟩; obtain ⟨A3, c3, rfl, hcc3⟩ := (Rd.of_own ho3).form; have HO3 := Lib.hid ho3; clear ho3 hcc3)
        | (go_at_call 21; refine (text_c t (by omega) _).mono ?_; rintro e w4 ⟨v4, rfl, ho4, hb4⟩; obtain ⟨A4, c4, rfl, hcc4⟩ := (Rd.of_own ho4).form; have HO4 := Lib.hid ho4; clear ho4 hcc4)
        | (go_at_call 23; have hal := Lib.hid (parts3 HO3.out hb4 HO4.out HR2.out hb3); refine (all_c (B := w4.heap.size + 1) (n := 3) (P := [(_, encN x), (_, encT t.data.toList), (_, F)]) _ rfl hal.out.1 hal.out.2 (by simp) (by have h1 := Hxl.out; have h2 := Htl.out; have h3 := Hfl.out; simp [Parts.all]; omega) (by simp)).mono ?_; rintro e w5 ⟨v5, rfl, ho5, hb5⟩)
        | (go_at_call 24; refine (new_c _ (Rd.of_own ho5) (by have h1 := Hxl.out; have h2 := Htl.out; have h3 := Hfl.out; simp [Parts.all]; omega)).mono ?_; rintro e w6 ⟨⟨g, rfl, hC, hg⟩, hb6⟩)
        | (go_at_call 25; refine (cnum_c _ g ⟨encN x ++ (encT t.data.toList ++ (F ++ [])), 0, 0⟩ hC).mono ?_; rintro e w7 ⟨rfl, hC7, hg7⟩; rw [HST.out.num]; rw [HST.out.num'] at hC7)
        | (go_at_call 32; refine (ctext_c _ g _ hC7 2000 (by omega)).mono ?_; rintro e w8 ⟨rfl, hC8, hg8⟩; rw [HST.out.text, mk_data]; rw [HST.out.text'] at hC8)
        | (go_at_call 26; refine (end_c _ g _ hC8).mono ?_; rintro e w10 ⟨rfl, hC10, hg10⟩; rw [HST.out.done' hok]))
      go_ret
      have b2 := hb1.trans (hb2.mono hb1.size)
      have b3 := b2.trans (hb3.mono b2.size)
      have b4 := b3.trans (hb4.mono b3.size)
      have b4' := b4.alloc b4.size (.cells #[.slice A3 (encN x).length c3, .slice A4 (encT t.data.toList).length c4, .slice A2 F.length c2] 27)
      have b5 := b4'.trans (hb5.mono b4'.size)
      have b6 := b5.trans (hb6.mono b5.size)
      have hgw := Nat.le_trans b5.size hg
      have b7 := Below.only b6 hg7 hgw b6.size
      have b8 := Below.only b7 hg8 hgw b7.size
      exact ⟨rfl, Below.only b8 hg10 hgw b8.size⟩
theorem own : ownKnob Try.prog.godebug = none := by kernel_rfl
theorem laidOut : laidOutB Try.prog = true := by kernel_rfl
set_option maxRecDepth 100000 in
theorem lifted (os : Os) (started : os.Started) (H : Type) (enc : TypeId × Value → H) :
    ReturnsInHanded {} Try.checked os 10 .any (Rows.numsBackSpec.pre6 enc Try.prog Try.f10 Rows.numsBackRow.domain false) (Rows.numsBackSpec.post enc Try.prog Try.f10 false true false false) := by
  refine returnsInHanded_of_change (C := Try.checked) own started (by kernel_rfl) Try.func10
    (ChangeSpec.witness6 (enc := enc) (C := Try.checked) false ⟨#[], #[.int .u64 0, .string ByteArray.empty, .int .u64 0, .int .u8 0], []⟩ 8 (by kernel_rfl) (by kernel_rfl) (by kernel_rfl) (by kernel_rfl)) ?_
  intro W base args ds gs before hval0 hW hcnd _
  have hval : ∀ (j : Nat) t v, Try.f10.params[j]? = some t → args[j]? = some v → Value.okWide Try.prog W .any base t v := hval0
  have hW' := hW
  obtain ⟨p, q, hA0, hV, rfl, hfz, hnd⟩ := hW
  have hA : DataW.TrodAll enc Try.prog W 0 (fun _ => true) true Try.f10.params.toList args.toList ds p := hA0
  rw [Try.params10] at hA hval
  obtain ⟨v0', vs0, d0, ds0, p0, q0, hargs, rfl, rfl, h0', r0⟩ := trodAll_cons hA
  obtain ⟨v1', vs1, d1, ds1, p1, q1, rfl, rfl, rfl, h1', r1⟩ := trodAll_cons r0
  obtain ⟨v2', vs2, d2, ds2, p2, q2, rfl, rfl, rfl, h2', r2⟩ := trodAll_cons r1
  obtain ⟨v3', vs3, d3, ds3, p3, q3, rfl, rfl, rfl, h3', r3⟩ := trodAll_cons r2
  obtain ⟨rfl, rfl, rfl⟩ := trodAll_nil r3
  obtain rfl : args = #[v0', v1', v2', v3'] := by cases args; simp_all
  obtain ⟨rfl, rfl⟩ := trodVars_none hV
  have k0 := h0'
  have lt0 : ∀ x ∈ p0, x.block < W.heap.size := by obtain ⟨m, hm⟩ := k0; exact DataW.trod_lt m _ _ _ hm
  obtain ⟨a0, rfl, hd0, hp0, w0⟩ := open_int Try.underlying22 (hval 0 22 v0' rfl rfl) h0'
  have bd0 := bounds_u64 w0
  obtain ⟨n0, rfl⟩ := Int.eq_ofNat_of_zero_le bd0.1
  have k1 := h1'
  have lt1 : ∀ x ∈ p1, x.block < W.heap.size := by obtain ⟨m, hm⟩ := k1; exact DataW.trod_lt m _ _ _ hm
  obtain ⟨a1, rfl, hd1, hp1, w1⟩ := open_string Try.underlying9 (hval 1 9 v1' rfl rfl) h1'
  have k2 := h2'
  have lt2 : ∀ x ∈ p2, x.block < W.heap.size := by obtain ⟨m, hm⟩ := k2; exact DataW.trod_lt m _ _ _ hm
  obtain ⟨a2, rfl, hd2, hp2, w2⟩ := open_int Try.underlying22 (hval 2 22 v2' rfl rfl) h2'
  have bd2 := bounds_u64 w2
  obtain ⟨n2, rfl⟩ := Int.eq_ofNat_of_zero_le bd2.1
  have k3 := h3'
  have lt3 : ∀ x ∈ p3, x.block < W.heap.size := by obtain ⟨m, hm⟩ := k3; exact DataW.trod_lt m _ _ _ hm
  obtain ⟨a3, rfl, hd3, hp3, w3⟩ := open_int Try.underlying5 (hval 3 5 v3' rfl rfl) h3'
  have bd3 := bounds_u8 w3
  obtain ⟨n3, rfl⟩ := Int.eq_ofNat_of_zero_le bd3.1
  clear hA0 hval0
  refine (walk W n0 (by omega) a1 w1 n2 (by omega) n3 (by omega)).mono fun e W' ⟨he, bel⟩ => ?_
  subst he
  exact ⟨_, rfl, _, _, _, [], _, [], hW', trodAll_mk1 (shut_bool Try.underlying4 _), (trodAll_cons_mk (Below.trod laidOut (by kernel_rfl) (of_decide_eq_true (by kernel_rfl)) k0 bel lt0) (trodAll_cons_mk (Below.trod laidOut (by kernel_rfl) (of_decide_eq_true (by kernel_rfl)) k1 bel lt1) (trodAll_cons_mk (Below.trod laidOut (by kernel_rfl) (of_decide_eq_true (by kernel_rfl)) k2 bel lt2) (trodAll_cons_mk (Below.trod laidOut (by kernel_rfl) (of_decide_eq_true (by kernel_rfl)) k3 bel lt3) trodAll_mk0)))), rfl, bel.frame _, fun h => by cases h⟩

theorem over : Rows.numsBackRow.holds Try.pinned (OpenSpec.ofChange Rows.numsBackSpec) :=
  OpenClaim.holds_of_wide 10 Try.f10 rfl rfl rfl rfl rfl rfl rfl ⟨rfl, rfl, rfl, rfl, rfl⟩ rfl rfl rfl rfl rfl (by kernel_rfl) Try.func10 (by kernel_rfl)
    (of_decide_eq_true (by kernel_rfl)) (by unfold Func.isWrapper; first | (rw [if_pos (by decide +kernel)]; kernel_rfl) | (rw [if_neg (by decide +kernel)]; exact ⟨rfl, rfl⟩))
    (fun os started H enc _ => lifted os started H enc)

theorem proved : Rows.NumsBackSaid := over
#print axioms proved
end Go.Proofs.Ytejibnkgenonfaa.lawNumsBack

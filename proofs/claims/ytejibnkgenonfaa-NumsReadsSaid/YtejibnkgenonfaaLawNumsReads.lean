/-
  'NumsReads': whatever is read of any bytes, each call's answer, the place, what is left and the error are the document's. No condition.
-/
import Derived.Test.YtejibnkgenonfaaZig
import Derived.Test.YtejibnkgenonfaaSame
import Derived.Test.YtejibnkgenonfaaRCur4
import Derived.Test.YtejibnkgenonfaaNumOps
namespace Go.Proofs.Ytejibnkgenonfaa.lawNumsReads
open Go.ChangeShapes Go.WideShapes Go.ChangeAt Go.RowKit
open Go.ChangeMaps (open_string shut_string)
set_option linter.unusedVariables false
theorem keep_bytes {w w' : World} {B n g : Nat} {v : Value} {l : List UInt8} {t : TypeId} {A : Option Addr} {m c : Nat} {a e : Int} (h : Rd w B 1 v n (bv l)) (hb : Blk w g t #[.slice A m c, .int .i64 a, .int .i64 e]) (hg : w.grownBy w' (some g)) : Rd w' B 1 v n (bv l) := by
  obtain ⟨A', c', rfl, hc, hl, hr⟩ := h
  refine ⟨A', c', rfl, hc, hl, fun hn => ?_⟩
  obtain ⟨ad, e', hB, hcell⟩ := hr hn
  refine ⟨ad, e', hB, fun j u hu => ?_⟩
  have h1 := hcell j u hu
  refine hg.cell h1 ?_
  rw [block_of_add]
  intro heq
  injection heq with heq
  obtain ⟨b, _, rfl⟩ := List.mem_map.1 (List.mem_of_getElem? hu)
  have hb' : w.heap[(ad.add j).block]? = some (.cells #[.slice A m c, .int .i64 a, .int .i64 e] t (0, 0)) := by rw [block_of_add, heq]; exact hb
  unfold World.cell? at h1
  rw [hb'] at h1
  simp only at h1
  split at h1
  · cases h1
  · rcases hoff : (ad.add j).off with _ | _ | _ | q <;> rw [hoff] at h1 <;> simp at h1
theorem cur_far {w w' : World} {g g2 : Nat} {s t : Cs} (h : Cur w g s) (hr : RCur w g2 t) (hg : w.grownBy w' (some g2)) (hne : g ≠ g2) : Cur w' g s := by
  obtain ⟨A, c, h1, h2, h3, h4⟩ := h
  obtain ⟨A2, c2, k1, k2, k3, k4⟩ := hr
  exact ⟨A, c, h1.grown hg (by intro e; injection e with e; omega), keep_bytes h2 k1 hg, h3, h4⟩
theorem rcur_far {w w' : World} {g g2 : Nat} {s t : Cs} (h : RCur w g2 t) (hr : Cur w g s) (hg : w.grownBy w' (some g)) (hne : g ≠ g2) : RCur w' g2 t := by
  obtain ⟨A, c, h1, h2, h3, h4⟩ := h
  obtain ⟨A2, c2, k1, k2, k3, k4⟩ := hr
  exact ⟨A, c, h1.grown hg (by intro e; injection e with e; omega), keep_bytes h2 k1 hg, h3, h4⟩
theorem quiet_any {P : Program} {f : FuncId} {args : Array Value} {w : World} {n : Nat} {v : Value}
    (h : Calls P f args (w.drewN n) fun e w' => e = .returned v ∧ SameHeap (w.drewN n) w') : Calls P f args (w.drewN n) fun e w'' => e = .returned v ∧ ∃ m, w'' = w.drewN m :=
  h.mono fun _ _ ⟨he, k, hk⟩ => ⟨he, n + k, by rw [← hk, World.drewN_drewN]⟩
theorem quiet_same {P : Program} {f : FuncId} {args : Array Value} {w : World} {n : Nat} {v : Value}
    (h : Calls P f args (w.drewN n) fun e w' => e = .returned v ∧ w.drewN n = w') : Calls P f args (w.drewN n) fun e w'' => e = .returned v ∧ ∃ m, w'' = w.drewN m :=
  h.mono fun _ _ ⟨he, hk⟩ => ⟨he, n, hk.symm⟩

theorem keep_own {w w' : World} {base g : Nat} {e : TypeId} {v : Value} {n : Nat} {l : List UInt8} {t : Cs} (h : w.ownsRow base e 1 v n (bv l)) (hr : RCur w g t) (hg : w.grownBy w' (some g)) : Rd w' w.heap.size 1 v n (bv l) := by
  obtain ⟨A2, c2, k1, k2, k3, k4⟩ := hr
  exact keep_bytes (Rd.of_own h) k1 hg
/-- the place, what is left and the error are the same: the test behind each call -/
def Both (w wr : World) (g g2 : Nat) (s : Cs) : Prop := Hid (Cur wr g s) ∧ Hid (RCur wr g2 s) ∧ Hid (Below w.heap.size w wr)
set_option maxRecDepth 100000 in
set_option maxHeartbeats 8000000 in
theorem walk (w : World) (v : Value) (b : List UInt8) (hr : Rd w w.heap.size 1 v b.length (bv b)) (hm : b.length ≤ maxLen)
    (u : Value) (L : List NOp) (hru : Rd w w.heap.size 3 u L.length (L.flatMap NOp.cells)) (hok : ∀ x ∈ L, NOp.ok x) (hmu : L.length ≤ maxLen) :
    Calls Try.prog 8 #[v, u] w fun e w' => e = .returned (.bool true) ∧ Below w.heap.size w w' := by
  have H1 := Lib.hid hr; have H2 := Lib.hid hru; have H3 := Lib.hid hok
  obtain ⟨A, c, rfl, _⟩ := hr
  obtain ⟨A2, c2, rfl, _⟩ := hru
  clear hm hmu hok
  by_cases h1 : (2000 : Int) < b.length
  · go_enter Try.func8, Try.ntmps8
    go_wp2_with (go_at_call 11; refine (alive_c _).mono ?_; rintro e w1 ⟨rfl, hb1⟩)
    go_ret
    exact ⟨rfl, hb1⟩
  · by_cases h2 : (60 : Int) < L.length
    · go_enter Try.func8, Try.ntmps8
      go_wp2_with (go_at_call 11; refine (alive_c _).mono ?_; rintro e w1 ⟨rfl, hb1⟩)
      go_ret
      exact ⟨rfl, hb1⟩
    · go_enter Try.func8, Try.ntmps8
      go_wp2_with (first
        | (go_at_call 11; refine (alive_c _).mono ?_; rintro e w1 ⟨rfl, hb1⟩)
        | (go_at_call 24; refine (new_c _ (H1.out.below hb1) (by omega)).mono ?_; rintro e w2 ⟨⟨g, rfl, hC, hg⟩, hb2⟩)
        | (go_at_call 36; refine (rnew_c _ ((H1.out.below hb1).below (hb2.mono hb1.size)) (by omega)).mono ?_; rintro e w3 ⟨⟨g2, rfl, hR, hg2⟩, hb3⟩))
      have hgw : w.heap.size ≤ g := Nat.le_trans hb1.size hg
      have hgg : g < g2 := Nat.lt_of_lt_of_le hC.lt hg2
      have hgw2 : w.heap.size ≤ g2 := by omega
      have hne : g ≠ g2 := by omega
      have hbA := hb1.trans (hb2.mono hb1.size)
      have hbB := Lib.hid (hbA.trans (hb3.mono hbA.size))
      have HC0 := Lib.hid (hC.below hb3 hC.lt)
      have HR0 := Lib.hid hR
      clear hC hR hb1 hb2 hb3 hbA hg hg2
      go_loopw [7, 8, 9] (fun i n8 s9 wr => ∃ k : Nat, ∃ s : Cs, k ≤ L.length ∧ i = .int .i64 k ∧ Both w wr g g2 s) (fun i _ _ _ => L.length - (intOf i).toNat)
      case atStart => exact ⟨0, ⟨b, 0, 0⟩, Nat.zero_le _, rfl, HC0, HR0, hbB⟩
      case round =>
        obtain ⟨k, s, hk, rfl, HC, HR, HB⟩ := hrel
        have HBs := HB.out.size
        by_cases hlt : k < L.length
        · obtain ⟨bb, off, x, rfl, hbb, hx, hc0, hc1, hc2⟩ := nops_at H2.out hlt
          have hxo := H3.out x (List.mem_of_getElem? hx)
          have hxi := Lib.hid hxo.2.1
          have hd0 := (HB.out.cell (p := ⟨bb, off + k * 3, none⟩) hbb).trans hc0
          have hd1 := (HB.out.cell (p := ⟨bb, off + k * 3 + 1, none⟩) hbb).trans hc1
          have hd2 := (HB.out.cell (p := ⟨bb, off + k * 3 + 2, none⟩) hbb).trans hc2
          have hE2 : ∀ W, Below w.heap.size w W → W.cell? ⟨bb, off + k * 3 + 2, none⟩ = some (.int .i64 x.2.2) := fun W hW => (hW.cell (p := ⟨bb, off + k * 3 + 2, none⟩) hbb).trans hc2
          have HE2 := fun W hW => Lib.hid (hE2 W hW)
          clear hc0 hc1 hc2 hx hxo hE2
          have hkind : x.1.toNat % 8 = 0 ∨ x.1.toNat % 8 = 1 ∨ x.1.toNat % 8 = 2 ∨ x.1.toNat % 8 = 3 ∨ x.1.toNat % 8 = 4 ∨ x.1.toNat % 8 = 5 ∨ x.1.toNat % 8 = 6 ∨ x.1.toNat % 8 = 7 := by omega
          rcases hkind with hkd | hkd | hkd | hkd | hkd | hkd | hkd | hkd
          · obtain ⟨s', hs'⟩ : ∃ s' : Cs, s' = s.num' := ⟨_, rfl⟩
            have HS := Lib.hid hs'; clear hs'
            have hkd' : (x.1.toNat : Int) % 8 = 0 := by omega
            clear hkd
            go_wp2_with (first
              | (go_at_call 25; refine (cnum_c _ g s HC.out).mono ?_; rintro e w4 ⟨rfl, hC4, hg4⟩; rw [← HS.out] at hC4; have HC4 := Lib.hid hC4; have HR4 := Lib.hid (rcur_far HR.out HC.out hg4 hne); have HB4 := Lib.hid (Below.only HB.out hg4 hgw HBs); clear hC4 hg4)
              | (go_at_call 37; refine (rnumc_c _ g2 s HR4.out).mono ?_; rintro e w5 ⟨rfl, hR5, hg5⟩; rw [← HS.out] at hR5; have HR5 := Lib.hid hR5; have HC5 := Lib.hid (cur_far HC4.out HR4.out hg5 hne); have HB5 := Lib.hid (Below.only HB4.out hg5 hgw2 HB4.out.size); obtain ⟨hq1, hq2, _, _⟩ := hR5.cells; clear hR5; clear hg5))
            go_quiet ((first
              | (go_at_call 34; exact quiet_same (at_c _ g s' (HC5.out.drewN _)))
              | (go_at_call 35; exact quiet_any (left_c _ g s' (HC5.out.drewN _)))
              | (go_at_call 45; exact quiet_any (rleft_c _ g2 s' (RCur.drewN HR5.out _)))
              | (go_at_call 33; exact quiet_same (err_c _ g s' (HC5.out.drewN _)))))
            go_wp2_with fail
            go_roundw
            case rel => exact ⟨k + 1, s', by omega, by go_num, HC5.out, HR5.out, below_drewN HB5.out _⟩
            case measure => simp [intOf]; omega
          · obtain ⟨s', hs'⟩ : ∃ s' : Cs, s' = s.int' x.2.1 := ⟨_, rfl⟩
            have HS := Lib.hid hs'; clear hs'
            have hkd' : (x.1.toNat : Int) % 8 = 1 := by omega
            clear hkd
            go_wp2_with (first
              | (go_at_call 28; refine (cint_c _ g s HC.out x.2.1 hxi.out).mono ?_; rintro e w4 ⟨rfl, hC4, hg4⟩; rw [← HS.out] at hC4; have HC4 := Lib.hid hC4; have HR4 := Lib.hid (rcur_far HR.out HC.out hg4 hne); have HB4 := Lib.hid (Below.only HB.out hg4 hgw HBs); clear hC4 hg4)
              | (go_at_call 38; refine (rint_c _ g2 s HR4.out x.2.1 hxi.out).mono ?_; rintro e w5 ⟨rfl, hR5, hg5⟩; rw [← HS.out] at hR5; have HR5 := Lib.hid hR5; have HC5 := Lib.hid (cur_far HC4.out HR4.out hg5 hne); have HB5 := Lib.hid (Below.only HB4.out hg5 hgw2 HB4.out.size); obtain ⟨hq1, hq2, _, _⟩ := hR5.cells; clear hR5; clear hg5))
            go_quiet ((first
              | (go_at_call 34; exact quiet_same (at_c _ g s' (HC5.out.drewN _)))
              | (go_at_call 35; exact quiet_any (left_c _ g s' (HC5.out.drewN _)))
              | (go_at_call 45; exact quiet_any (rleft_c _ g2 s' (RCur.drewN HR5.out _)))
              | (go_at_call 33; exact quiet_same (err_c _ g s' (HC5.out.drewN _)))))
            go_wp2_with fail
            go_roundw
            case rel => exact ⟨k + 1, s', by omega, by go_num, HC5.out, HR5.out, below_drewN HB5.out _⟩
            case measure => simp [intOf]; omega
          · obtain ⟨s', hs'⟩ : ∃ s' : Cs, s' = s.byte' := ⟨_, rfl⟩
            have HS := Lib.hid hs'; clear hs'
            have hkd' : (x.1.toNat : Int) % 8 = 2 := by omega
            clear hkd
            go_wp2_with (first
              | (go_at_call 29; refine (cbyte_c _ g s HC.out).mono ?_; rintro e w4 ⟨rfl, hC4, hg4⟩; rw [← HS.out] at hC4; have HC4 := Lib.hid hC4; have HR4 := Lib.hid (rcur_far HR.out HC.out hg4 hne); have HB4 := Lib.hid (Below.only HB.out hg4 hgw HBs); clear hC4 hg4)
              | (go_at_call 39; refine (rbyte_c _ g2 s HR4.out).mono ?_; rintro e w5 ⟨rfl, hR5, hg5⟩; rw [← HS.out] at hR5; have HR5 := Lib.hid hR5; have HC5 := Lib.hid (cur_far HC4.out HR4.out hg5 hne); have HB5 := Lib.hid (Below.only HB4.out hg5 hgw2 HB4.out.size); obtain ⟨hq1, hq2, _, _⟩ := hR5.cells; clear hR5; clear hg5))
            go_quiet ((first
              | (go_at_call 34; exact quiet_same (at_c _ g s' (HC5.out.drewN _)))
              | (go_at_call 35; exact quiet_any (left_c _ g s' (HC5.out.drewN _)))
              | (go_at_call 45; exact quiet_any (rleft_c _ g2 s' (RCur.drewN HR5.out _)))
              | (go_at_call 33; exact quiet_same (err_c _ g s' (HC5.out.drewN _)))))
            go_wp2_with fail
            go_roundw
            case rel => exact ⟨k + 1, s', by omega, by go_num, HC5.out, HR5.out, below_drewN HB5.out _⟩
            case measure => simp [intOf]; omega
          · obtain ⟨s', hs'⟩ : ∃ s' : Cs, s' = s.fixed' x.2.1 := ⟨_, rfl⟩
            have HS := Lib.hid hs'; clear hs'
            have hkd' : (x.1.toNat : Int) % 8 = 3 := by omega
            clear hkd
            go_wp2_with (first
              | (go_at_call 30; refine (cfixed_c _ g s HC.out x.2.1).mono ?_; rintro e w4 ⟨rfl, hC4, hg4⟩; rw [← HS.out] at hC4; have HC4 := Lib.hid hC4; have HR4 := Lib.hid (rcur_far HR.out HC.out hg4 hne); have HB4 := Lib.hid (Below.only HB.out hg4 hgw HBs); clear hC4 hg4)
              | (go_at_call 40; refine (rfixedc_c _ g2 s HR4.out x.2.1).mono ?_; rintro e w5 ⟨rfl, hR5, hg5⟩; rw [← HS.out] at hR5; have HR5 := Lib.hid hR5; have HC5 := Lib.hid (cur_far HC4.out HR4.out hg5 hne); have HB5 := Lib.hid (Below.only HB4.out hg5 hgw2 HB4.out.size); obtain ⟨hq1, hq2, _, _⟩ := hR5.cells; clear hR5; clear hg5))
            go_quiet ((first
              | (go_at_call 34; exact quiet_same (at_c _ g s' (HC5.out.drewN _)))
              | (go_at_call 35; exact quiet_any (left_c _ g s' (HC5.out.drewN _)))
              | (go_at_call 45; exact quiet_any (rleft_c _ g2 s' (RCur.drewN HR5.out _)))
              | (go_at_call 33; exact quiet_same (err_c _ g s' (HC5.out.drewN _)))))
            go_wp2_with fail
            go_roundw
            case rel => exact ⟨k + 1, s', by omega, by go_num, HC5.out, HR5.out, below_drewN HB5.out _⟩
            case measure => simp [intOf]; omega
          · obtain ⟨s', hs'⟩ : ∃ s' : Cs, s' = s.take' x.2.1 := ⟨_, rfl⟩
            have HS := Lib.hid hs'; clear hs'
            have hkd' : (x.1.toNat : Int) % 8 = 4 := by omega
            clear hkd
            go_wp2_with (first
              | (go_at_call 31; refine (ctake_c _ g s HC.out x.2.1).mono ?_; rintro e w4 ⟨⟨v4, rfl, ho4⟩, hC4, hg4⟩; rw [← HS.out] at hC4; have HC4 := Lib.hid hC4; have HR4 := Lib.hid (rcur_far HR.out HC.out hg4 hne); have HB4 := Lib.hid (Below.only HB.out hg4 hgw HBs); clear hC4 hg4; have HO4 := Lib.hid ho4; clear ho4)
              | (go_at_call 41; refine (rtake_c _ g2 s HR4.out x.2.1).mono ?_; rintro e w5 ⟨⟨v5, rfl, ho5⟩, hR5, hg5⟩; rw [← HS.out] at hR5; have HR5 := Lib.hid hR5; have HC5 := Lib.hid (cur_far HC4.out HR4.out hg5 hne); have HB5 := Lib.hid (Below.only HB4.out hg5 hgw2 HB4.out.size); obtain ⟨hq1, hq2, _, _⟩ := hR5.cells; clear hR5; have HO5 := Lib.hid ho5; have HR4b := Lib.hid (keep_own HO4.out HR4.out hg5); clear ho5 hg5))
            refine (same_c _ HR4b.out (Rd.of_own HO5.out)).mono ?_
            rintro e w6 ⟨rfl, rfl⟩
            go_wp2_with fail
            go_quiet ((first
              | (go_at_call 34; exact quiet_same (at_c _ g s' (HC5.out.drewN _)))
              | (go_at_call 35; exact quiet_any (left_c _ g s' (HC5.out.drewN _)))
              | (go_at_call 45; exact quiet_any (rleft_c _ g2 s' (RCur.drewN HR5.out _)))
              | (go_at_call 33; exact quiet_same (err_c _ g s' (HC5.out.drewN _)))))
            go_wp2_with fail
            go_roundw
            case rel => exact ⟨k + 1, s', by omega, by go_num, HC5.out, HR5.out, below_drewN HB5.out _⟩
            case measure => simp [intOf]; omega
          · obtain ⟨s', hs'⟩ : ∃ s' : Cs, s' = s.text' x.2.1 := ⟨_, rfl⟩
            have HS := Lib.hid hs'; clear hs'
            have hkd' : (x.1.toNat : Int) % 8 = 5 := by omega
            clear hkd
            go_wp2_with (first
              | (go_at_call 32; refine (ctext_c _ g s HC.out x.2.1 hxi.out).mono ?_; rintro e w4 ⟨rfl, hC4, hg4⟩; rw [← HS.out] at hC4; have HC4 := Lib.hid hC4; have HR4 := Lib.hid (rcur_far HR.out HC.out hg4 hne); have HB4 := Lib.hid (Below.only HB.out hg4 hgw HBs); clear hC4 hg4)
              | (go_at_call 42; refine (rtextc_c _ g2 s HR4.out x.2.1 hxi.out).mono ?_; rintro e w5 ⟨rfl, hR5, hg5⟩; rw [← HS.out] at hR5; have HR5 := Lib.hid hR5; have HC5 := Lib.hid (cur_far HC4.out HR4.out hg5 hne); have HB5 := Lib.hid (Below.only HB4.out hg5 hgw2 HB4.out.size); obtain ⟨hq1, hq2, _, _⟩ := hR5.cells; clear hR5; clear hg5))
            go_quiet ((first
              | (go_at_call 34; exact quiet_same (at_c _ g s' (HC5.out.drewN _)))
              | (go_at_call 35; exact quiet_any (left_c _ g s' (HC5.out.drewN _)))
              | (go_at_call 45; exact quiet_any (rleft_c _ g2 s' (RCur.drewN HR5.out _)))
              | (go_at_call 33; exact quiet_same (err_c _ g s' (HC5.out.drewN _)))))
            go_wp2_with fail
            go_roundw
            case rel => exact ⟨k + 1, s', by omega, by go_num, HC5.out, HR5.out, below_drewN HB5.out _⟩
            case measure => simp [intOf]; omega
          · obtain ⟨s', hs'⟩ : ∃ s' : Cs, s' = s.failed x.2.2 := ⟨_, rfl⟩
            have HS := Lib.hid hs'; clear hs'
            have hkd' : (x.1.toNat : Int) % 8 = 6 := by omega
            clear hkd
            go_wp2_with (first
              | (go_at_call 27; refine (fail_c _ g s HC.out x.2.2).mono ?_; rintro e w4 ⟨rfl, hC4, hg4⟩; rw [← HS.out] at hC4; have HC4 := Lib.hid hC4; have HR4 := Lib.hid (rcur_far HR.out HC.out hg4 hne); have HB4 := Lib.hid (Below.only HB.out hg4 hgw HBs); clear hC4 hg4; have hE4 := (HE2 w4 HB4.out).out)
              | (go_at_call 43; refine (rfail_c _ g2 s HR4.out x.2.2).mono ?_; rintro e w5 ⟨rfl, hR5, hg5⟩; rw [← HS.out] at hR5; have HR5 := Lib.hid hR5; have HC5 := Lib.hid (cur_far HC4.out HR4.out hg5 hne); have HB5 := Lib.hid (Below.only HB4.out hg5 hgw2 HB4.out.size); obtain ⟨hq1, hq2, _, _⟩ := hR5.cells; clear hR5; clear hg5))
            go_quiet ((first
              | (go_at_call 34; exact quiet_same (at_c _ g s' (HC5.out.drewN _)))
              | (go_at_call 35; exact quiet_any (left_c _ g s' (HC5.out.drewN _)))
              | (go_at_call 45; exact quiet_any (rleft_c _ g2 s' (RCur.drewN HR5.out _)))
              | (go_at_call 33; exact quiet_same (err_c _ g s' (HC5.out.drewN _)))))
            go_wp2_with fail
            go_roundw
            case rel => exact ⟨k + 1, s', by omega, by go_num, HC5.out, HR5.out, below_drewN HB5.out _⟩
            case measure => simp [intOf]; omega
          · obtain ⟨s', hs'⟩ : ∃ s' : Cs, s' = s.end' := ⟨_, rfl⟩
            have HS := Lib.hid hs'; clear hs'
            have hkd' : (x.1.toNat : Int) % 8 = 7 := by omega
            clear hkd
            go_wp2_with (first
              | (go_at_call 26; refine (end_c _ g s HC.out).mono ?_; rintro e w4 ⟨rfl, hC4, hg4⟩; rw [← HS.out] at hC4; have HC4 := Lib.hid hC4; have HR4 := Lib.hid (rcur_far HR.out HC.out hg4 hne); have HB4 := Lib.hid (Below.only HB.out hg4 hgw HBs); clear hC4 hg4)
              | (go_at_call 44; refine (rend_c _ g2 s HR4.out).mono ?_; rintro e w5 ⟨rfl, hR5, hg5⟩; rw [← HS.out] at hR5; have HR5 := Lib.hid hR5; have HC5 := Lib.hid (cur_far HC4.out HR4.out hg5 hne); have HB5 := Lib.hid (Below.only HB4.out hg5 hgw2 HB4.out.size); obtain ⟨hq1, hq2, _, _⟩ := hR5.cells; clear hR5; clear hg5))
            go_quiet ((first
              | (go_at_call 34; exact quiet_same (at_c _ g s' (HC5.out.drewN _)))
              | (go_at_call 35; exact quiet_any (left_c _ g s' (HC5.out.drewN _)))
              | (go_at_call 45; exact quiet_any (rleft_c _ g2 s' (RCur.drewN HR5.out _)))
              | (go_at_call 33; exact quiet_same (err_c _ g s' (HC5.out.drewN _)))))
            go_wp2_with fail
            go_roundw
            case rel => exact ⟨k + 1, s', by omega, by go_num, HC5.out, HR5.out, below_drewN HB5.out _⟩
            case measure => simp [intOf]; omega
        · go_wp2_with fail
          go_ret
          exact ⟨rfl, HB.out⟩
theorem own : ownKnob Try.prog.godebug = none := by kernel_rfl
theorem laidOut : laidOutB Try.prog = true := by kernel_rfl
set_option maxRecDepth 100000 in
theorem lifted (os : Os) (started : os.Started) (H : Type) (enc : TypeId × Value → H) :
    ReturnsInHanded {} Try.checked os 8 .any (Rows.numsReadsSpec.pre6 enc Try.prog Try.f8 Rows.numsReadsRow.domain false) (Rows.numsReadsSpec.post enc Try.prog Try.f8 false true false false) := by
  refine returnsInHanded_of_change (C := Try.checked) own started (by kernel_rfl) Try.func8
    (ChangeSpec.witness6 (enc := enc) (C := Try.checked) false ⟨#[], #[.slice none 0 0, .slice none 0 0], []⟩ 8 (by kernel_rfl) (by kernel_rfl) (by kernel_rfl) (by kernel_rfl)) ?_
  intro W base args ds gs before hval0 hW hcnd _
  have hval : ∀ (j : Nat) t v, Try.f8.params[j]? = some t → args[j]? = some v → Value.okWide Try.prog W .any base t v := hval0
  have hW' := hW
  obtain ⟨p, q, hA0, hV, rfl, hfz, hnd⟩ := hW
  have hA : DataW.TrodAll enc Try.prog W 0 (fun _ => true) true Try.f8.params.toList args.toList ds p := hA0
  rw [Try.params8] at hA hval
  obtain ⟨v0', vs0, d0, ds0, p0, q0, hargs, rfl, rfl, h0', r0⟩ := trodAll_cons hA
  obtain ⟨v1', vs1, d1, ds1, p1, q1, rfl, rfl, rfl, h1', r1⟩ := trodAll_cons r0
  obtain ⟨rfl, rfl, rfl⟩ := trodAll_nil r1
  obtain rfl : args = #[v0', v1'] := by cases args; simp_all
  obtain ⟨rfl, rfl⟩ := trodVars_none hV
  have k0 := h0'
  have lt0 : ∀ x ∈ p0, x.block < W.heap.size := by obtain ⟨m, hm⟩ := k0; exact DataW.trod_lt m _ _ _ hm
  obtain ⟨A0, n0, c0, rfl⟩ := okWide_slice Try.underlying27 (hval 0 27 v0' rfl rfl)
  obtain ⟨⟨u0, L0⟩, e0, hr0, ho0, hm0⟩ := DecT.arg (dec_slice Try.underlying27 (by kernel_rfl : Try.prog.cellsOf 5 = 1) (by omega) (fun _ => rfl) (dec_u8 (w := W) Try.underlying5)) k0
  obtain rfl := cells_slice A0 n0 c0 rfl e0
  rw [flatMap_bv] at hr0
  have k1 := h1'
  have lt1 : ∀ x ∈ p1, x.block < W.heap.size := by obtain ⟨m, hm⟩ := k1; exact DataW.trod_lt m _ _ _ hm
  obtain ⟨A1, n1, c1, rfl⟩ := okWide_slice Try.underlying51 (hval 1 51 v1' rfl rfl)
  obtain ⟨⟨u1, L1⟩, e1, hr1, ho1, hm1⟩ := DecT.arg (dec_slice Try.underlying51 (by kernel_rfl : Try.prog.cellsOf 55 = 3) (by omega) (fun _ => rfl) (dec_nop W)) k1
  obtain rfl := cells_slice A1 n1 c1 rfl e1
  clear hA0 hval0
  refine (walk W _ L0 hr0 hm0 _ L1 hr1 ho1 hm1).mono fun e W' ⟨he, bel⟩ => ?_
  subst he
  exact ⟨_, rfl, _, _, _, [], _, [], hW', trodAll_mk1 (shut_bool Try.underlying4 _), (trodAll_cons_mk (Below.trod laidOut (by kernel_rfl) (of_decide_eq_true (by kernel_rfl)) k0 bel lt0) (trodAll_cons_mk (Below.trod laidOut (by kernel_rfl) (of_decide_eq_true (by kernel_rfl)) k1 bel lt1) trodAll_mk0)), rfl, bel.frame _, fun h => by cases h⟩

theorem over : Rows.numsReadsRow.holds Try.pinned (OpenSpec.ofChange Rows.numsReadsSpec) :=
  OpenClaim.holds_of_wide 8 Try.f8 rfl rfl rfl rfl rfl rfl rfl ⟨rfl, rfl, rfl, rfl, rfl⟩ rfl rfl rfl rfl rfl (by kernel_rfl) Try.func8 (by kernel_rfl)
    (of_decide_eq_true (by kernel_rfl)) (by unfold Func.isWrapper; first | (rw [if_pos (by decide +kernel)]; kernel_rfl) | (rw [if_neg (by decide +kernel)]; exact ⟨rfl, rfl⟩))
    (fun os started H enc _ => lifted os started H enc)

theorem proved : Rows.NumsReadsSaid := over
#print axioms proved
end Go.Proofs.Ytejibnkgenonfaa.lawNumsReads

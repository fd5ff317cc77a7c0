/-
  What words.split does with each of its three closures, and words.Words. Conditions: texts are no longer than 2^40.
-/
import Derived.Test.YtfooomfdokkiaaaWord2
namespace Go.Proofs.Ytfooomfdokkiaaa
open Go.RowKit
set_option linter.unusedVariables false
theorem wst_le (l : List UInt8) (k : Nat) (n : Nat) (hn : l.length ≤ n) : (wst (l.take k)).1.length ≤ n ∧ (wst (l.take k)).2.length ≤ n := by
  have h1 := wst_len (l.take k)
  have h2 : (l.take k).length ≤ l.length := by simp; omega
  omega
theorem RowOf.new (B : Nat) (w : World) (h : B ≤ w.heap.size) : RowOf B (w.alloc (.cells #[.slice none 0 0] 28)) w.heap.size [] := ⟨_, Blk.new _ _ _, World.ownsRow_nil _ _ _ _⟩
theorem Col.alloc {B : Nat} {w : World} {ho : Nat} {ws : List (List UInt8)} (h : Col B w ho ws) (o : Obj) : Col B (w.alloc o) ho ws := by
  obtain ⟨v, h1, h2⟩ := h
  exact ⟨v, h1.alloc _, h2.alloc _⟩
/-- a letter is put into the row -/
theorem row_push {B hr ho hw : Nat} {w w1 : World} {t : TypeId} {cs : Array Value} {ws : List (List UInt8)} {row : List UInt8} {c : UInt8} {v v' : Value} (hb : Blk w hr 28 #[v]) (hown : w.ownsRow B 5 1 v row.length (bv row))
    (h1 : w1.ownsRow B 5 1 v' (row.length + 1) (bv row ++ [.int .u8 c.toNat])) (hg : w.grownBy w1 v.ownBlock) (hB : B ≤ hr) (hC : Col B w ho ws) (hW : Blk w hw t cs) (ht : t ≠ 5) (ht2 : t ≠ 28) (hbel : Below B w w1) :
    RowOf B (w1.setCell ⟨hr, 0, none⟩ v') hr (row ++ [c]) ∧ Col B (w1.setCell ⟨hr, 0, none⟩ v') ho ws ∧ Blk (w1.setCell ⟨hr, 0, none⟩ v') hw t cs ∧ Below B w (w1.setCell ⟨hr, 0, none⟩ v') := by
  have hne : v.ownBlock ≠ some hr := own_ne_blk hown hb (by decide)
  have hb1 : Blk w1 hr 28 #[v] := hb.grown hg (Ne.symm hne)
  have hw1 : Blk w1 hw t cs := hW.grown hg (Ne.symm (own_ne_blk hown hW (Ne.symm ht)))
  have hC1 : Col B w1 ho ws := by
    obtain ⟨u, k1, k2⟩ := hC
    have hbo : w1.ownsRow B 9 1 u ws.length (strs ws) := by
      rcases k2.2 with ⟨h0, h0'⟩ | ⟨g, cap, cur, rfl, m1, m2, m3⟩
      · exact ⟨k2.1, .inl ⟨h0, h0'⟩⟩
      · refine ⟨k2.1, .inr ⟨g, cap, cur, rfl, m1, ?_, m3⟩⟩
        refine (hg.block g (lt_of_block m2) ?_).trans m2
        intro e
        exact own_ne_blk (cs := cur) hown m2 (by decide) e.symm
    exact ⟨u, k1.grown hg (Ne.symm (own_ne_blk hown k1 (by decide))), hbo⟩
  refine ⟨row_set hb1 (own_to h1 (by simp) (by rw [bv_append]; congr 1)), hC1.set_ hb1 (by decide) (by decide) _, ?_, hbel.setCell hB _⟩
  refine hw1.far (fun e => ?_) _
  have e' : hw = hr := e
  subst e'
  have := hb1.symm.trans hw1
  simp at this
  exact ht2 this.2.symm


set_option maxRecDepth 100000 in
set_option maxHeartbeats 1600000 in
theorem w_split (w : World) (B ho : Nat) (ws : List (List UInt8)) (l : List UInt8) (hC : Col B w ho ws) (hB : B ≤ ho) (hB2 : B ≤ w.heap.size) (hws : ws.length ≤ 274877906944) (hll : l.length ≤ 274877906944) (f : List UInt8 → List UInt8) (hf : Hid (f = fun t => t)) :
    Calls Try.prog 22 #[.string ⟨l.toArray⟩, .func (.func 23) #[] #[.pointer (some ⟨ho, 0, none⟩)]] w fun e w' => e = .returned (.tuple #[]) ∧ Col B w' ho (ws ++ (wordsL l).map f) ∧ Below B w w' := by
  have hhw : B ≤ w.heap.size := hB2
  have hhr : B ≤ w.heap.size + 1 := by omega
  have HC := Lib.hid hC
  clear hC
  go_enter Try.func22, Try.ntmps22
  go_wp2_with fail
  go_loopw [6, 7, 8, 12] (fun _ _ _ i wr => ∃ k : Nat, k ≤ l.length ∧ i = .int .i64 k ∧ Hid (RowOf B wr (w.heap.size + 1) (wst (l.take k)).2) ∧ Hid (Blk wr w.heap.size 44 #[.func (.func 23) #[] #[.pointer (some ⟨ho, 0, none⟩)]]) ∧ Hid (Col B wr ho (ws ++ ((wst (l.take k)).1).map f)) ∧ Hid (Below B w wr)) (fun _ _ _ i _ => l.length - (intOf i).toNat)
  case atStart =>
    refine ⟨0, Nat.zero_le _, rfl, Lib.hid ?_, Lib.hid ?_, Lib.hid ?_, Lib.hid ?_⟩
    · have := RowOf.new B (w.alloc (.cells #[.func (.func 23) #[] #[.pointer (some ⟨ho, 0, none⟩)]] 44)) (by simp; omega)
      simpa [wst] using this
    · exact (Blk.new w _ _).alloc _
    · have := (HC.out.alloc (.cells #[.func (.func 23) #[] #[.pointer (some ⟨ho, 0, none⟩)]] 44)).alloc (.cells #[.slice none 0 0] 28)
      simpa [wst] using this
    · exact ((Below.refl B w).alloc hB2 _).alloc (by simp; omega) _
  case round =>
    obtain ⟨k, hk, rfl, HR, HW, HCC, HBB⟩ := hrel
    have hsl := wst_le l k _ hll
    have hsl2 := wst_len (l.take k)
    have hstk : (l.take k).length ≤ l.length := by simp; omega
    obtain ⟨st, hst⟩ : ∃ st, st = wst (l.take k) := ⟨_, rfl⟩
    rw [← hst] at HR HCC hsl hsl2
    obtain ⟨W, R⟩ := st
    dsimp only at HR HCC hsl hsl2
    obtain ⟨hsl1, hsl2'⟩ := hsl
    have hcl : (ws ++ W.map f).length ≤ 549755813888 := by simp; omega
    obtain ⟨CL, hCL⟩ : ∃ CL, CL = ws ++ W.map f := ⟨_, rfl⟩
    rw [← hCL] at HCC hcl
    have HST := Lib.hid hst; have HCL := Lib.hid hCL
    clear hst hCL hsl2 hstk
    have hBw := HBB.out.size
    obtain ⟨v, hb, hown⟩ := HR.out
    obtain ⟨A, c, rfl, hcap⟩ := (Rd.of_own hown).form
    have h0 := hb.cell 0
    simp at h0
    have hfz := hb.frozen 0
    rcases Nat.lt_or_ge k l.length with hlt | hge
    · obtain ⟨x, hx⟩ : ∃ x, x = l[k] := ⟨_, rfl⟩
      have hgx : ∀ h : k < (⟨l.toArray⟩ : ByteArray).size, (⟨l.toArray⟩ : ByteArray)[k]'h = x := fun h => by rw [hx]; rfl
      have htk : l.take (k + 1) = l.take k ++ [x] := by rw [hx, List.take_append_getElem]
      have hnext : wst (l.take (k + 1)) = wstep (W, R) x := by rw [htk, wst_snoc, ← HST.out]
      have HN := Lib.hid hnext
      have HRO := Lib.hid hown; have HRB := Lib.hid hb
      clear hx hnext htk
      by_cases hs : small x ≠ 0
      · have hd : decide (small x ≠ 0) = true := decide_eq_true hs
        have hw1 : wstep (W, R) x = (W, R ++ [small x]) := by unfold wstep; rw [if_pos hs]
        rw [hw1] at HN
        have HL : Hid (∀ w0 : World, Calls Try.prog 24 #[.int .u8 x.toNat] w0 fun e w' => e = .returned (.tuple #[.int .u8 (small x).toNat, .bool true]) ∧ w0 = w') := Lib.hid fun w0 => by rw [← hd]; exact letter_c w0 x
        obtain ⟨y, hy⟩ : ∃ y, y = small x := ⟨_, rfl⟩
        rw [← hy] at HN HL
        have hyl := y.toNat_lt
        clear hs hd hw1 hy
        go_wp2_with (first | (go_at_call 24; refine (HL.out _).mono ?_; rintro e w2 ⟨rfl, rfl⟩) | (at_builtin; refine wp_push (u := .int .u8 y.toNat) sl_u8 rfl (.tmp 23) (.tmp 25) rfl rfl HRO.out rfl rfl (Below.refl _ _) (Nat.le_refl _) (by omega) (by omega) (by omega) ?_; intro v1 w1 hown1 hb1 hs1 hg1; obtain ⟨A1, c1, rfl, hc1⟩ := (Rd.of_own hown1).form; have hbk := HRB.out.grown hg1 (Ne.symm (own_ne_blk HRO.out HRB.out (by decide))); have hq := hbk.cell 0; simp at hq; have hqf := hbk.frozen 0))
        go_roundw
        case rel =>
          obtain ⟨n1, n2, n3, n4⟩ := row_push HRB.out HRO.out hown1 hg1 hhr HCC.out HW.out (by decide) (by decide) hb1
          refine ⟨k + 1, hlt, by go_num, Lib.hid ?_, Lib.hid n3, Lib.hid ?_, Lib.hid (HBB.out.trans n4)⟩
          · rw [HN.out]; exact n1
          · rw [HN.out, ← HCL.out]; exact n2
        case measure => simp [intOf]; omega
      · have hd : decide (small x ≠ 0) = false := decide_eq_false hs
        have hw1 : wstep (W, R) x = (W ++ emit R, []) := by unfold wstep; rw [if_neg hs]
        rw [hw1] at HN
        have HL : Hid (∀ w0 : World, Calls Try.prog 24 #[.int .u8 x.toNat] w0 fun e w' => e = .returned (.tuple #[.int .u8 (small x).toNat, .bool false]) ∧ w0 = w') := Lib.hid fun w0 => by rw [← hd]; exact letter_c w0 x
        obtain ⟨y, hy⟩ : ∃ y, y = small x := ⟨_, rfl⟩
        rw [← hy] at HL
        have hyl := y.toNat_lt
        clear hs hd hw1 hy
        go_wp2_with (first | (go_at_call 24; refine (HL.out _).mono ?_; rintro e w2 ⟨rfl, rfl⟩) | (go_at_call 30; refine (w_tell _ B ho _ _ CL R HCC.out HR.out HW.out hB hhr (by omega) (by omega) (by omega)).mono ?_; rintro e w2 ⟨rfl, n1, n3, n2, n4⟩))
        go_roundw
        case rel =>
          refine ⟨k + 1, hlt, by go_num, Lib.hid ?_, Lib.hid n3, Lib.hid ?_, Lib.hid (HBB.out.trans n4)⟩
          · rw [HN.out]; exact n1
          · rw [HN.out, List.map_append, ← List.append_assoc, ← HCL.out, hf.out]; exact n2
        case measure => simp [intOf]; omega
    · have hkl : k = l.length := by omega
      subst hkl
      rw [List.take_length] at HST
      clear hown hb h0 hfz
      go_wp2_with (go_at_call 30; refine (w_tell _ B ho _ _ CL R HCC.out HR.out HW.out hB hhr (by omega) (by omega) (by omega)).mono ?_; rintro e w2 ⟨rfl, n1, n3, n2, n4⟩)
      go_end0
      refine ⟨rfl, ?_, HBB.out.trans n4⟩
      have e1 : wordsL l = W ++ emit R := by unfold wordsL; rw [← HST.out]
      rw [e1, List.map_append, ← List.append_assoc, ← HCL.out, hf.out]
      exact n2

set_option maxRecDepth 100000 in
set_option maxHeartbeats 1600000 in
theorem t_split (w : World) (B ho : Nat) (ws : List (List UInt8)) (l : List UInt8) (hC : Col B w ho ws) (hB : B ≤ ho) (hB2 : B ≤ w.heap.size) (hws : ws.length ≤ 274877906944) (hll : l.length ≤ 274877906944) (f : List UInt8 → List UInt8) (hf : Hid (f = fun t => t)) :
    Calls Try.prog 22 #[.string ⟨l.toArray⟩, .func (.func 25) #[] #[.pointer (some ⟨ho, 0, none⟩)]] w fun e w' => e = .returned (.tuple #[]) ∧ Col B w' ho (ws ++ (wordsL l).map f) ∧ Below B w w' := by
  have hhw : B ≤ w.heap.size := hB2
  have hhr : B ≤ w.heap.size + 1 := by omega
  have HC := Lib.hid hC
  clear hC
  go_enter Try.func22, Try.ntmps22
  go_wp2_with fail
  go_loopw [6, 7, 8, 12] (fun _ _ _ i wr => ∃ k : Nat, k ≤ l.length ∧ i = .int .i64 k ∧ Hid (RowOf B wr (w.heap.size + 1) (wst (l.take k)).2) ∧ Hid (Blk wr w.heap.size 44 #[.func (.func 25) #[] #[.pointer (some ⟨ho, 0, none⟩)]]) ∧ Hid (Col B wr ho (ws ++ ((wst (l.take k)).1).map f)) ∧ Hid (Below B w wr)) (fun _ _ _ i _ => l.length - (intOf i).toNat)
  case atStart =>
    refine ⟨0, Nat.zero_le _, rfl, Lib.hid ?_, Lib.hid ?_, Lib.hid ?_, Lib.hid ?_⟩
    · have := RowOf.new B (w.alloc (.cells #[.func (.func 25) #[] #[.pointer (some ⟨ho, 0, none⟩)]] 44)) (by simp; omega)
      simpa [wst] using this
    · exact (Blk.new w _ _).alloc _
    · have := (HC.out.alloc (.cells #[.func (.func 25) #[] #[.pointer (some ⟨ho, 0, none⟩)]] 44)).alloc (.cells #[.slice none 0 0] 28)
      simpa [wst] using this
    · exact ((Below.refl B w).alloc hB2 _).alloc (by simp; omega) _
  case round =>
    obtain ⟨k, hk, rfl, HR, HW, HCC, HBB⟩ := hrel
    have hsl := wst_le l k _ hll
    have hsl2 := wst_len (l.take k)
    have hstk : (l.take k).length ≤ l.length := by simp; omega
    obtain ⟨st, hst⟩ : ∃ st, st = wst (l.take k) := ⟨_, rfl⟩
    rw [← hst] at HR HCC hsl hsl2
    obtain ⟨W, R⟩ := st
    dsimp only at HR HCC hsl hsl2
    obtain ⟨hsl1, hsl2'⟩ := hsl
    have hcl : (ws ++ W.map f).length ≤ 549755813888 := by simp; omega
    obtain ⟨CL, hCL⟩ : ∃ CL, CL = ws ++ W.map f := ⟨_, rfl⟩
    rw [← hCL] at HCC hcl
    have HST := Lib.hid hst; have HCL := Lib.hid hCL
    clear hst hCL hsl2 hstk
    have hBw := HBB.out.size
    obtain ⟨v, hb, hown⟩ := HR.out
    obtain ⟨A, c, rfl, hcap⟩ := (Rd.of_own hown).form
    have h0 := hb.cell 0
    simp at h0
    have hfz := hb.frozen 0
    rcases Nat.lt_or_ge k l.length with hlt | hge
    · obtain ⟨x, hx⟩ : ∃ x, x = l[k] := ⟨_, rfl⟩
      have hgx : ∀ h : k < (⟨l.toArray⟩ : ByteArray).size, (⟨l.toArray⟩ : ByteArray)[k]'h = x := fun h => by rw [hx]; rfl
      have htk : l.take (k + 1) = l.take k ++ [x] := by rw [hx, List.take_append_getElem]
      have hnext : wst (l.take (k + 1)) = wstep (W, R) x := by rw [htk, wst_snoc, ← HST.out]
      have HN := Lib.hid hnext
      have HRO := Lib.hid hown; have HRB := Lib.hid hb
      clear hx hnext htk
      by_cases hs : small x ≠ 0
      · have hd : decide (small x ≠ 0) = true := decide_eq_true hs
        have hw1 : wstep (W, R) x = (W, R ++ [small x]) := by unfold wstep; rw [if_pos hs]
        rw [hw1] at HN
        have HL : Hid (∀ w0 : World, Calls Try.prog 24 #[.int .u8 x.toNat] w0 fun e w' => e = .returned (.tuple #[.int .u8 (small x).toNat, .bool true]) ∧ w0 = w') := Lib.hid fun w0 => by rw [← hd]; exact letter_c w0 x
        obtain ⟨y, hy⟩ : ∃ y, y = small x := ⟨_, rfl⟩
        rw [← hy] at HN HL
        have hyl := y.toNat_lt
        clear hs hd hw1 hy
        go_wp2_with (first | (go_at_call 24; refine (HL.out _).mono ?_; rintro e w2 ⟨rfl, rfl⟩) | (at_builtin; refine wp_push (u := .int .u8 y.toNat) sl_u8 rfl (.tmp 23) (.tmp 25) rfl rfl HRO.out rfl rfl (Below.refl _ _) (Nat.le_refl _) (by omega) (by omega) (by omega) ?_; intro v1 w1 hown1 hb1 hs1 hg1; obtain ⟨A1, c1, rfl, hc1⟩ := (Rd.of_own hown1).form; have hbk := HRB.out.grown hg1 (Ne.symm (own_ne_blk HRO.out HRB.out (by decide))); have hq := hbk.cell 0; simp at hq; have hqf := hbk.frozen 0))
        go_roundw
        case rel =>
          obtain ⟨n1, n2, n3, n4⟩ := row_push HRB.out HRO.out hown1 hg1 hhr HCC.out HW.out (by decide) (by decide) hb1
          refine ⟨k + 1, hlt, by go_num, Lib.hid ?_, Lib.hid n3, Lib.hid ?_, Lib.hid (HBB.out.trans n4)⟩
          · rw [HN.out]; exact n1
          · rw [HN.out, ← HCL.out]; exact n2
        case measure => simp [intOf]; omega
      · have hd : decide (small x ≠ 0) = false := decide_eq_false hs
        have hw1 : wstep (W, R) x = (W ++ emit R, []) := by unfold wstep; rw [if_neg hs]
        rw [hw1] at HN
        have HL : Hid (∀ w0 : World, Calls Try.prog 24 #[.int .u8 x.toNat] w0 fun e w' => e = .returned (.tuple #[.int .u8 (small x).toNat, .bool false]) ∧ w0 = w') := Lib.hid fun w0 => by rw [← hd]; exact letter_c w0 x
        obtain ⟨y, hy⟩ : ∃ y, y = small x := ⟨_, rfl⟩
        rw [← hy] at HL
        have hyl := y.toNat_lt
        clear hs hd hw1 hy
        go_wp2_with (first | (go_at_call 24; refine (HL.out _).mono ?_; rintro e w2 ⟨rfl, rfl⟩) | (go_at_call 30; refine (t_tell _ B ho _ _ CL R HCC.out HR.out HW.out hB hhr (by omega) (by omega) (by omega)).mono ?_; rintro e w2 ⟨rfl, n1, n3, n2, n4⟩))
        go_roundw
        case rel =>
          refine ⟨k + 1, hlt, by go_num, Lib.hid ?_, Lib.hid n3, Lib.hid ?_, Lib.hid (HBB.out.trans n4)⟩
          · rw [HN.out]; exact n1
          · rw [HN.out, List.map_append, ← List.append_assoc, ← HCL.out, hf.out]; exact n2
        case measure => simp [intOf]; omega
    · have hkl : k = l.length := by omega
      subst hkl
      rw [List.take_length] at HST
      clear hown hb h0 hfz
      go_wp2_with (go_at_call 30; refine (t_tell _ B ho _ _ CL R HCC.out HR.out HW.out hB hhr (by omega) (by omega) (by omega)).mono ?_; rintro e w2 ⟨rfl, n1, n3, n2, n4⟩)
      go_end0
      refine ⟨rfl, ?_, HBB.out.trans n4⟩
      have e1 : wordsL l = W ++ emit R := by unfold wordsL; rw [← HST.out]
      rw [e1, List.map_append, ← List.append_assoc, ← HCL.out, hf.out]
      exact n2

set_option maxRecDepth 100000 in
set_option maxHeartbeats 1600000 in
theorem s_split (w : World) (B ho : Nat) (ws : List (List UInt8)) (l : List UInt8) (hC : Col B w ho ws) (hB : B ≤ ho) (hB2 : B ≤ w.heap.size) (hws : ws.length ≤ 274877906944) (hll : l.length ≤ 274877906944) (f : List UInt8 → List UInt8) (hf : Hid (f = fun t => 64 :: t)) :
    Calls Try.prog 22 #[.string ⟨l.toArray⟩, .func (.func 26) #[] #[.pointer (some ⟨ho, 0, none⟩)]] w fun e w' => e = .returned (.tuple #[]) ∧ Col B w' ho (ws ++ (wordsL l).map f) ∧ Below B w w' := by
  have hhw : B ≤ w.heap.size := hB2
  have hhr : B ≤ w.heap.size + 1 := by omega
  have HC := Lib.hid hC
  clear hC
  go_enter Try.func22, Try.ntmps22
  go_wp2_with fail
  go_loopw [6, 7, 8, 12] (fun _ _ _ i wr => ∃ k : Nat, k ≤ l.length ∧ i = .int .i64 k ∧ Hid (RowOf B wr (w.heap.size + 1) (wst (l.take k)).2) ∧ Hid (Blk wr w.heap.size 44 #[.func (.func 26) #[] #[.pointer (some ⟨ho, 0, none⟩)]]) ∧ Hid (Col B wr ho (ws ++ ((wst (l.take k)).1).map f)) ∧ Hid (Below B w wr)) (fun _ _ _ i _ => l.length - (intOf i).toNat)
  case atStart =>
    refine ⟨0, Nat.zero_le _, rfl, Lib.hid ?_, Lib.hid ?_, Lib.hid ?_, Lib.hid ?_⟩
    · have := RowOf.new B (w.alloc (.cells #[.func (.func 26) #[] #[.pointer (some ⟨ho, 0, none⟩)]] 44)) (by simp; omega)
      simpa [wst] using this
    · exact (Blk.new w _ _).alloc _
    · have := (HC.out.alloc (.cells #[.func (.func 26) #[] #[.pointer (some ⟨ho, 0, none⟩)]] 44)).alloc (.cells #[.slice none 0 0] 28)
      simpa [wst] using this
    · exact ((Below.refl B w).alloc hB2 _).alloc (by simp; omega) _
  case round =>
    obtain ⟨k, hk, rfl, HR, HW, HCC, HBB⟩ := hrel
    have hsl := wst_le l k _ hll
    have hsl2 := wst_len (l.take k)
    have hstk : (l.take k).length ≤ l.length := by simp; omega
    obtain ⟨st, hst⟩ : ∃ st, st = wst (l.take k) := ⟨_, rfl⟩
    rw [← hst] at HR HCC hsl hsl2
    obtain ⟨W, R⟩ := st
    dsimp only at HR HCC hsl hsl2
    obtain ⟨hsl1, hsl2'⟩ := hsl
    have hcl : (ws ++ W.map f).length ≤ 549755813888 := by simp; omega
    obtain ⟨CL, hCL⟩ : ∃ CL, CL = ws ++ W.map f := ⟨_, rfl⟩
    rw [← hCL] at HCC hcl
    have HST := Lib.hid hst; have HCL := Lib.hid hCL
    clear hst hCL hsl2 hstk
    have hBw := HBB.out.size
    obtain ⟨v, hb, hown⟩ := HR.out
    obtain ⟨A, c, rfl, hcap⟩ := (Rd.of_own hown).form
    have h0 := hb.cell 0
    simp at h0
    have hfz := hb.frozen 0
    rcases Nat.lt_or_ge k l.length with hlt | hge
    · obtain ⟨x, hx⟩ : ∃ x, x = l[k] := ⟨_, rfl⟩
      have hgx : ∀ h : k < (⟨l.toArray⟩ : ByteArray).size, (⟨l.toArray⟩ : ByteArray)[k]'h = x := fun h => by rw [hx]; rfl
      have htk : l.take (k + 1) = l.take k ++ [x] := by rw [hx, List.take_append_getElem]
      have hnext : wst (l.take (k + 1)) = wstep (W, R) x := by rw [htk, wst_snoc, ← HST.out]
      have HN := Lib.hid hnext
      have HRO := Lib.hid hown; have HRB := Lib.hid hb
      clear hx hnext htk
      by_cases hs : small x ≠ 0
      · have hd : decide (small x ≠ 0) = true := decide_eq_true hs
        have hw1 : wstep (W, R) x = (W, R ++ [small x]) := by unfold wstep; rw [if_pos hs]
        rw [hw1] at HN
        have HL : Hid (∀ w0 : World, Calls Try.prog 24 #[.int .u8 x.toNat] w0 fun e w' => e = .returned (.tuple #[.int .u8 (small x).toNat, .bool true]) ∧ w0 = w') := Lib.hid fun w0 => by rw [← hd]; exact letter_c w0 x
        obtain ⟨y, hy⟩ : ∃ y, y = small x := ⟨_, rfl⟩
        rw [← hy] at HN HL
        have hyl := y.toNat_lt
        clear hs hd hw1 hy
        go_wp2_with (first | (go_at_call 24; refine (HL.out _).mono ?_; rintro e w2 ⟨rfl, rfl⟩) | (at_builtin; refine wp_push (u := .int .u8 y.toNat) sl_u8 rfl (.tmp 23) (.tmp 25) rfl rfl HRO.out rfl rfl (Below.refl _ _) (Nat.le_refl _) (by omega) (by omega) (by omega) ?_; intro v1 w1 hown1 hb1 hs1 hg1; obtain ⟨A1, c1, rfl, hc1⟩ := (Rd.of_own hown1).form; have hbk := HRB.out.grown hg1 (Ne.symm (own_ne_blk HRO.out HRB.out (by decide))); have hq := hbk.cell 0; simp at hq; have hqf := hbk.frozen 0))
        go_roundw
        case rel =>
          obtain ⟨n1, n2, n3, n4⟩ := row_push HRB.out HRO.out hown1 hg1 hhr HCC.out HW.out (by decide) (by decide) hb1
          refine ⟨k + 1, hlt, by go_num, Lib.hid ?_, Lib.hid n3, Lib.hid ?_, Lib.hid (HBB.out.trans n4)⟩
          · rw [HN.out]; exact n1
          · rw [HN.out, ← HCL.out]; exact n2
        case measure => simp [intOf]; omega
      · have hd : decide (small x ≠ 0) = false := decide_eq_false hs
        have hw1 : wstep (W, R) x = (W ++ emit R, []) := by unfold wstep; rw [if_neg hs]
        rw [hw1] at HN
        have HL : Hid (∀ w0 : World, Calls Try.prog 24 #[.int .u8 x.toNat] w0 fun e w' => e = .returned (.tuple #[.int .u8 (small x).toNat, .bool false]) ∧ w0 = w') := Lib.hid fun w0 => by rw [← hd]; exact letter_c w0 x
        obtain ⟨y, hy⟩ : ∃ y, y = small x := ⟨_, rfl⟩
        rw [← hy] at HL
        have hyl := y.toNat_lt
        clear hs hd hw1 hy
        go_wp2_with (first | (go_at_call 24; refine (HL.out _).mono ?_; rintro e w2 ⟨rfl, rfl⟩) | (go_at_call 30; refine (s_tell _ B ho _ _ CL R HCC.out HR.out HW.out hB hhr (by omega) (by omega) (by omega)).mono ?_; rintro e w2 ⟨rfl, n1, n3, n2, n4⟩))
        go_roundw
        case rel =>
          refine ⟨k + 1, hlt, by go_num, Lib.hid ?_, Lib.hid n3, Lib.hid ?_, Lib.hid (HBB.out.trans n4)⟩
          · rw [HN.out]; exact n1
          · rw [HN.out, List.map_append, ← List.append_assoc, ← HCL.out, hf.out]; exact n2
        case measure => simp [intOf]; omega
    · have hkl : k = l.length := by omega
      subst hkl
      rw [List.take_length] at HST
      clear hown hb h0 hfz
      go_wp2_with (go_at_call 30; refine (s_tell _ B ho _ _ CL R HCC.out HR.out HW.out hB hhr (by omega) (by omega) (by omega)).mono ?_; rintro e w2 ⟨rfl, n1, n3, n2, n4⟩)
      go_end0
      refine ⟨rfl, ?_, HBB.out.trans n4⟩
      have e1 : wordsL l = W ++ emit R := by unfold wordsL; rw [← HST.out]
      rw [e1, List.map_append, ← List.append_assoc, ← HCL.out, hf.out]
      exact n2
end Go.Proofs.Ytfooomfdokkiaaa

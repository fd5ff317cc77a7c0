/-
  'PostHas': a record is in a term's list just if the term is one of its terms; the index may be for as_ many records. No condition.
-/
import Derived.Test.YtpamjobiohbibaaMp14
import Derived.Test.YtpamjobiohbibaaRows
namespace Go.Proofs.Ytpamjobiohbibaa.lawPostHas
open Go.ChangeShapes Go.WideShapes Go.ChangeAt Go.RowKit
open Go.ChangeMaps (open_string shut_string)
set_option linter.unusedVariables false
set_option maxRecDepth 20000
theorem cast_mem {l : List Nat} {q : Nat} : (q : Int) ∈ l.map (fun (n : Nat) => (n : Int)) ↔ q ∈ l := by
  rw [List.mem_map]
  exact ⟨fun ⟨a, ha, e⟩ => by rwa [show q = a by omega], fun h => ⟨q, h, rfl⟩⟩
theorem ids_le {LL : List Lst} {Q : List (List Nat)} {n m : Nat} (h : LL.map (·.2.2) = Q) (hQ : ∀ x ∈ Q, x.length ≤ n) (hnm : n ≤ m) : ∀ e ∈ toI LL, e.2.2.length ≤ m := fun e he => by
  unfold toI at he
  obtain ⟨a, ha, rfl⟩ := List.mem_map.1 he
  have : a.2.2 ∈ Q := h ▸ List.mem_map_of_mem ha
  have := hQ _ this
  simp; omega
theorem walk (w : World) (v : Value) (l : List RecC) (hr : Rd w w.heap.size 4 v l.length (recs l)) (ho : ∀ x ∈ l, RecC.ok x) (hm : l.length ≤ maxLen) (s0 : ByteArray) (hs : s0.size ≤ maxLen) (i : Nat) (hi : i < 65536) :
    Calls Try.prog 6 #[v, .string s0, .int .u16 i] w fun e w' => e = .returned (.bool true) ∧ Below w.heap.size w w' := by
  obtain ⟨s, rfl⟩ : ∃ t : List UInt8, s0 = ⟨t.toArray⟩ := ⟨s0.data.toList, by simp⟩
  obtain ⟨A0, c0, rfl, hc0⟩ := hr.form
  have hbo : Bor w.heap.size w [] 4 (.slice A0 l.length c0) l.length (recs l) := Bor.in_ hr
  simp only [maxLen] at hm
  have hbT : (bldT (tmF l) l.length).length ≤ wsum l := by
    have h1 := setT_len ((List.range l.length).flatMap (tmF l))
    have h2 := bldT_len l l.length (Nat.le_refl _)
    rw [List.take_length] at h2
    unfold bldT; omega
  have hmay := fun h1 h2 => @bld_may l h1 h2
  have hget := fun LL h k hk => @bld_get l LL h k hk
  have hTn : (bldT (tmF l) l.length).Nodup := StT.nd (setT_st _)
  have hTm : ∀ t, t ∈ bldT (tmF l) l.length ↔ ∃ q, q < l.length ∧ t ∈ tmF l q := fun t => bldT_mem
  have hlL : (bldL (tmF l) l.length).length = (bldT (tmF l) l.length).length := by simp [bldL]
  have hbL : ∀ x ∈ bldL (tmF l) l.length, x.length ≤ l.length := fun x hx => by
    obtain ⟨s, _, rfl⟩ := List.mem_map.1 hx
    unfold lsF; exact Nat.le_trans (List.length_filter_le _ _) (by simp)
  have hpb := fun F hb hw => @build_d w.heap.size w F A0 c0 l hb hw
  obtain ⟨T, hT⟩ : ∃ T, T = bldT (tmF l) l.length := ⟨_, rfl⟩
  rw [← hT] at hbT hmay hget hTn hTm hlL hpb
  clear hT
  refine Does.law (args := [.slice A0 l.length c0, .string ⟨s.toArray⟩, .int .u16 i]) ?_
  refine fn_walk Try.func6 69 rfl rfl rfl [(0, .slice A0 l.length c0), (1, .string ⟨s.toArray⟩), (2, .int .u16 i)] ⟨⟨rfl, rfl⟩, ⟨rfl, rfl⟩, ⟨rfl, rfl⟩, trivial⟩ ?_
  refine vc_seq ?_
  refine vc_region ?_
  refine vl_det (det_assign rfl) rfl ?_
  refine vl_end [(0, _), (1, _), (2, _)] ⟨rfl, rfl, rfl, trivial⟩ ?_
  refine then_next ?_
  refine vc_seq ?_
  refine vc_seq ?_
  refine vc_region ?_
  refine vl_call co9 rfl (alive_d) rfl ?_
  rintro _ _ ⟨rfl, hLL⟩
  obtain rfl := hLL.symm
  refine vl_det (det_not_t rfl) rfl ?_
  refine vl_end [(0, _), (1, _), (2, _), (12, _)] ⟨rfl, rfl, rfl, rfl, trivial⟩ ?_
  refine then_next ?_
  refine vc_cond_f rfl ?_
  refine vc_skip ?_
  refine then_next ?_
  refine vc_seq ?_
  refine vc_seq ?_
  refine vc_region ?_
  refine vl_det (det_move rfl) rfl ?_
  refine vl_call co10 rfl (great_d l (by first | (exact Bor.own (by repeat (first | exact List.Mem.head _ | apply List.Mem.tail))) | (repeat (first | assumption | apply Bor.cons))) 60 4000 (by omega) (by omega)) rfl ?_
  rintro _ _ ⟨bg, rfl, hLL, hbg⟩
  obtain rfl := hLL.symm
  refine vl_det (det_move rfl) rfl ?_
  refine vl_guard rfl rfl rfl (fun h15 => ?_) (fun h15 => ?_)
  · skip
    refine vl_det (det_move rfl) rfl ?_
    refine vl_guard_t rfl rfl ?_
    refine vl_det (det_len_sl Try.underlying22 rfl) rfl ?_
    refine vl_guard_t rfl rfl ?_
    refine vl_det (det_eql rfl rfl) rfl ?_
    refine vl_det (det_pick_f rfl rfl) rfl ?_
    refine vl_end [(0, _), (1, _), (2, _), (19, _)] ⟨rfl, rfl, rfl, rfl, trivial⟩ ?_
    refine then_next ?_
    refine vc_decideU rfl (fun h19 => ?_) (fun h19 => ?_)
    · skip
      refine vc_seq ?_
      refine vc_region ?_
      refine vl_det (det_assign rfl) rfl ?_
      refine vl_end [(6, _)] ⟨rfl, trivial⟩ ?_
      refine then_next ?_
      refine vc_ret ?_
      refine then_ret ?_
      refine ret1 rfl rfl ?_
      rfl
    · skip
      have hn0 : 0 < l.length := by omega
      obtain ⟨hb60, hbw⟩ := hbg (by simpa using h15)
      have hq := Nat.mod_lt i hn0
      obtain ⟨q, hqe⟩ : ∃ q, q = i % l.length := ⟨_, rfl⟩
      rw [← hqe] at hq
      refine vc_skip ?_
      refine then_next ?_
      refine vc_seq ?_
      refine vc_region ?_
      refine vl_det (det_move rfl) rfl ?_
      refine vl_det (det_conv Try.underlying47 Try.underlying3 rfl (r := (i : Int)) (w_i64 (by omega) (by omega))) rfl ?_
      refine vl_det (det_move rfl) rfl ?_
      refine vl_det (det_len_sl Try.underlying22 rfl) rfl ?_
      refine vl_det (det_rem rfl rfl (by omega) (modP.trans (by rw [← hqe]))) rfl ?_
      refine vl_det (det_assign rfl) rfl ?_
      refine vl_end [(0, _), (1, _), (7, _)] ⟨rfl, rfl, rfl, trivial⟩ ?_
      refine then_next ?_
      refine vc_seq ?_
      refine vc_region ?_
      refine vl_det (det_move rfl) rfl ?_
      refine vl_call co12 rfl (hpb _ (by first | (exact Bor.own (by repeat (first | exact List.Mem.head _ | apply List.Mem.tail))) | (repeat (first | assumption | apply Bor.cons))) (by omega)) rfl ?_
      rintro _ _ ⟨A1, c1, A2, c2, LL, rfl, hLL, hids⟩
      obtain rfl := hLL.symm
      have hLn : LL.length = T.length := by have := congrArg List.length hids; rw [hlL] at this; simpa using this
      have hq1 : Bor w.heap.size w (.own 9 1 A1 T.length c1 (strs T) :: .own 37 1 A2 T.length c2 (LL.map lVal) :: (LL.map lRow ++ [])) 1 (.slice A1 T.length c1) T.length (strs T) := Bor.own (List.Mem.head _)
      have hq2 : Bor w.heap.size w (.own 9 1 A1 T.length c1 (strs T) :: .own 37 1 A2 T.length c2 (LL.map lVal) :: (LL.map lRow ++ [])) 1 (.slice A2 T.length c2) T.length ((toI LL).map iVal) := by rw [toI_val]; exact Bor.own (List.Mem.tail _ (List.Mem.head _))
      have hq3 : LsBor w.heap.size w (.own 9 1 A1 T.length c1 (strs T) :: .own 37 1 A2 T.length c2 (LL.map lVal) :: (LL.map lRow ++ [])) (toI LL) := toI_bor fun e he => List.mem_cons_of_mem _ (List.mem_cons_of_mem _ (List.mem_append_left _ (List.mem_map_of_mem he)))
      have hmy : idxOk l.length T (idsI (toI LL)) := by rw [toI_ids, hids]; exact hmay (by omega) (by omega)
      have hg := hget LL hids
      have hle3 := ids_le hids hbL (Nat.le_refl _)
      obtain ⟨LI, hLI⟩ : ∃ LI, LI = toI LL := ⟨_, rfl⟩
      have hLIn : LI.length = T.length := by rw [hLI, toI_len, hLn]
      rw [← hLI] at hq2 hq3 hmy hg hle3
      refine vl_eff (eff_alloc_z (zv := (.agg #[.slice none 0 0, .slice none 0 0])) (by kernel_rfl) rfl) rfl ?_
      rintro _ _ ⟨g8, rfl, rfl⟩
      refine vl_eff0 (eff_store_whole 2 (by kernel_rfl) rfl rfl (by first | exact bv_one _ | exact strs_one _ | exact ints_one _ _ | (simp; done) | (simp [Value.oneCell']; done) | assumption) (by repeat (first | exact .hd | apply Sel.tl)) (by first | rfl | (simp; omega) | (simp [*]; done)) (by first | rfl | (simp; omega) | (simp [*]; done))) ?_
      rintro _ _ rfl
      refine vl_end [(0, _), (1, _), (7, _), (8, _)] ⟨rfl, rfl, rfl, rfl, trivial⟩ ?_
      refine then_next ?_
      refine vc_seq ?_
      refine vc_seq ?_
      refine vc_region ?_
      refine vl_det (det_move rfl) rfl ?_
      refine vl_det (det_len_sl Try.underlying22 rfl) rfl ?_
      refine vl_det (det_load_whole 2 (by kernel_rfl) rfl (by repeat (first | exact .hd | apply Sel.tl)) (by first | rfl | (simp; omega) | (simp [*]; done))) rfl ?_
      refine vl_call co20 rfl (rmay18_n (LL := LI) hLIn (by first | (exact Bor.own (by repeat (first | exact List.Mem.head _ | apply List.Mem.tail))) | (repeat (first | assumption | apply Bor.cons))) (by first | (exact Bor.own (by repeat (first | exact List.Mem.head _ | apply List.Mem.tail))) | (repeat (first | assumption | apply Bor.cons))) hq3.cons (fun e he => Nat.le_trans (hle3 e he) (by omega)) (by omega) hmy) rfl ?_
      rintro _ _ ⟨rfl, hLL⟩
      obtain rfl := hLL.symm
      refine vl_det (det_not_t rfl) rfl ?_
      refine vl_det (det_move rfl) rfl ?_
      refine vl_guard_t rfl rfl ?_
      refine vl_det (det_move rfl) rfl ?_
      refine vl_guard_t rfl rfl ?_
      refine vl_det (det_len_sl Try.underlying22 rfl) rfl ?_
      refine vl_guard_t rfl rfl ?_
      refine vl_det (det_load_whole 2 (by kernel_rfl) rfl (by repeat (first | exact .hd | apply Sel.tl)) (by first | rfl | (simp; omega) | (simp [*]; done))) rfl ?_
      refine vl_guard_t rfl rfl ?_
      refine vl_call co21 rfl (pmay_n (LL := LI) hLIn (by first | (exact Bor.own (by repeat (first | exact List.Mem.head _ | apply List.Mem.tail))) | (repeat (first | assumption | apply Bor.cons))) (by first | (exact Bor.own (by repeat (first | exact List.Mem.head _ | apply List.Mem.tail))) | (repeat (first | assumption | apply Bor.cons))) hq3.cons (fun e he => Nat.le_trans (hle3 e he) (by omega)) (by omega) hmy) rfl ?_
      rintro _ _ ⟨rfl, hLL⟩
      obtain rfl := hLL.symm
      refine vl_guard_t rfl rfl ?_
      refine vl_det (det_not_t rfl) rfl ?_
      refine vl_det (det_pick_f rfl rfl) rfl ?_
      refine vl_end [(0, _), (1, _), (7, _), (8, _), (38, _)] ⟨rfl, rfl, rfl, rfl, rfl, trivial⟩ ?_
      refine then_next ?_
      refine vc_cond_f rfl ?_
      refine vc_skip ?_
      refine then_next ?_
      refine vc_seq ?_
      refine vc_region ?_
      refine vl_det (det_assign rfl) rfl ?_
      refine vl_end [(0, _), (1, _), (7, _), (8, _), (9, _)] ⟨rfl, rfl, rfl, rfl, rfl, trivial⟩ ?_
      refine then_next ?_
      refine vc_seq ?_
      refine vc_seq ?_
      refine vc_region ?_
      refine vl_det (det_assign rfl) rfl ?_
      refine vl_end [(0, _), (1, _), (7, _), (8, _), (9, _), (10, _)] ⟨rfl, rfl, rfl, rfl, rfl, rfl, trivial⟩ ?_
      refine then_next ?_
      refine vc_block ?_
      refine vc_loopJ (fun zf zL zm => ∃ (k : Nat) (b : Bool), (k ≤ T.length ∧ b = decide (s ∈ T.take k ∧ q ∈ lsF (tmF l) l.length s)) ∧ T.length - k = zm ∧ Sub zf [(0, .slice A0 l.length c0), (1, .string ⟨s.toArray⟩), (7, .int .i64 q), (8, .pointer (some ⟨g8, 0, none⟩)), (9, .bool b), (10, .int .i64 k)] ∧ Wk zL (.blk g8 29 [.slice A1 T.length c1, .slice A2 T.length c2] :: .own 9 1 A1 T.length c1 (strs T) :: .own 37 1 A2 T.length c2 (LL.map lVal) :: (LL.map lRow ++ []))) _ ⟨0, false, ⟨Nat.zero_le _, by simp⟩, rfl, ⟨(by first | rfl | exact int_to (by omega) | exact sl_to (by omega)), (by first | rfl | exact int_to (by omega) | exact sl_to (by omega)), (by first | rfl | exact int_to (by omega) | exact sl_to (by omega)), (by first | rfl | exact int_to (by omega) | exact sl_to (by omega)), (by first | rfl | exact int_to (by omega) | exact sl_to (by omega)), (by first | rfl | exact int_to (by omega) | exact sl_to (by omega)), trivial⟩, .refl _⟩ ?_
      rintro _ _ _ ⟨k, b, ⟨hk, hb⟩, rfl, hs, hp⟩
      refine vc_weaken _ hs (vc_wk hp ?_)
      clear hs hp
      refine vc_seq ?_
      refine vc_seq ?_
      refine vc_region ?_
      refine vl_det (det_move rfl) rfl ?_
      refine vl_det (det_fieldAddr_ Try.underlying29 rfl (by kernel_rfl) rfl rfl) rfl ?_
      refine vl_det (det_load_blk (by kernel_rfl) rfl (by repeat (first | exact .hd | apply Sel.tl)) rfl) rfl ?_
      refine vl_det (det_len_sl Try.underlying26 rfl) rfl ?_
      refine vl_det (det_lss rfl rfl) rfl ?_
      refine vl_end [(0, _), (1, _), (7, _), (8, _), (9, _), (10, _), (43, _)] ⟨rfl, rfl, rfl, rfl, rfl, rfl, rfl, trivial⟩ ?_
      refine then_next ?_
      refine vc_decideU rfl (fun h43 => ?_) (fun h43 => ?_)
      · skip
        have hkT : k < T.length := by omega
        have hgk := hg k hkT
        have hie := (hq3.get (k := k) (by omega)).cons (c := .blk g8 29 [.slice A1 T.length c1, .slice A2 T.length c2])
        have hxl := hle3 _ (getD_mem (l := LI) (k := k) (by omega) iNil)
        refine vc_skip ?_
        refine then_next ?_
        refine vc_seq ?_
        refine vc_block ?_
        refine vc_seq ?_
        refine vc_region ?_
        refine vl_det (det_fieldAddr_ Try.underlying29 rfl (by kernel_rfl) rfl rfl) rfl ?_
        refine vl_det (det_load_blk (by kernel_rfl) rfl (by repeat (first | exact .hd | apply Sel.tl)) rfl) rfl ?_
        refine vl_det (det_move rfl) rfl ?_
        refine vl_det (det_indexAddr (size := 1) Try.underlying26 (by kernel_rfl) rfl rfl rfl (by omega) (by first | (exact Bor.own (by repeat (first | exact List.Mem.head _ | apply List.Mem.tail))) | (repeat (first | assumption | apply Bor.cons)))) rfl ?_
        refine vl_det (det_load_str (by kernel_rfl) rfl (by first | (exact Bor.own (by repeat (first | exact List.Mem.head _ | apply List.Mem.tail))) | (repeat (first | assumption | apply Bor.cons))) (by omega)) rfl ?_
        refine vl_det (det_move rfl) rfl ?_
        refine vl_det (det_s_eql rfl rfl) rfl ?_
        refine vl_end [(0, _), (1, _), (7, _), (8, _), (9, _), (10, _), (52, _)] ⟨rfl, rfl, rfl, rfl, rfl, rfl, rfl, trivial⟩ ?_
        refine then_next ?_
        refine vc_decideU rfl (fun h52 => ?_) (fun h52 => ?_)
        · skip
          refine vc_region ?_
          refine vl_det (det_fieldAddr_ Try.underlying29 rfl (by kernel_rfl) rfl rfl) rfl ?_
          refine vl_det (det_load_blk (by kernel_rfl) rfl (by repeat (first | exact .hd | apply Sel.tl)) rfl) rfl ?_
          refine vl_det (det_move rfl) rfl ?_
          refine vl_det (det_indexAddr (size := 1) Try.underlying27 (by kernel_rfl) rfl rfl rfl (by omega) (by first | (exact Bor.own (by repeat (first | exact List.Mem.head _ | apply List.Mem.tail))) | (repeat (first | assumption | apply Bor.cons)))) rfl ?_
          refine vl_det (det_load_row (by kernel_rfl) rfl (by first | (exact Bor.own (by repeat (first | exact List.Mem.head _ | apply List.Mem.tail))) | (repeat (first | assumption | apply Bor.cons))) (by omega) (iget (LL := LI) (k := k) (by omega))) rfl ?_
          refine vl_det (det_move rfl) rfl ?_
          refine vl_call co22 rfl (has14_d (q : Int) (by first | (exact Bor.own (by repeat (first | exact List.Mem.head _ | apply List.Mem.tail))) | (repeat (first | assumption | apply Bor.cons))) (by omega)) rfl ?_
          rintro _ _ ⟨rfl, hLL⟩
          obtain rfl := hLL.symm
          refine vl_det (det_assign rfl) rfl ?_
          refine vl_end [(0, _), (1, _), (7, _), (8, _), (9, _), (10, _)] ⟨rfl, rfl, rfl, rfl, rfl, rfl, trivial⟩ ?_
          refine in_normal ?_
          refine then_next ?_
          refine vc_region ?_
          refine vl_det (det_move rfl) rfl ?_
          refine vl_det (det_add rfl rfl (w_i64 (by omega) (by omega))) rfl ?_
          refine vl_det (det_assign rfl) rfl ?_
          refine vl_end [(0, _), (1, _), (7, _), (8, _), (9, _), (10, _)] ⟨rfl, rfl, rfl, rfl, rfl, rfl, trivial⟩ ?_
          refine in_loop_ ⟨_, by omega, k + 1, decide ((q : Int) ∈ (LI.getD k iNil).2.2), ⟨by omega, by
            have e : T.getD k [] = s := h52
            rw [hgk, e]
            refine decide_eq_decide.2 ?_
            rw [cast_mem, take_getD hkT [], e, List.mem_append]
            exact ⟨fun z => ⟨.inr (by simp), z⟩, fun z => z.2⟩⟩, rfl, ⟨(by first | rfl | exact int_to (by omega) | exact sl_to (by omega)), (by first | rfl | exact int_to (by omega) | exact sl_to (by omega)), (by first | rfl | exact int_to (by omega) | exact sl_to (by omega)), (by first | rfl | exact int_to (by omega) | exact sl_to (by omega)), (by first | rfl | exact int_to (by omega) | exact sl_to (by omega)), (by first | rfl | exact int_to (by omega) | exact sl_to (by omega)), trivial⟩, .refl _⟩
        · skip
          refine vc_skip ?_
          refine in_normal ?_
          refine then_next ?_
          refine vc_region ?_
          refine vl_det (det_move rfl) rfl ?_
          refine vl_det (det_add rfl rfl (w_i64 (by omega) (by omega))) rfl ?_
          refine vl_det (det_assign rfl) rfl ?_
          refine vl_end [(0, _), (1, _), (7, _), (8, _), (9, _), (10, _)] ⟨rfl, rfl, rfl, rfl, rfl, rfl, trivial⟩ ?_
          refine in_loop_ ⟨_, by omega, k + 1, b, ⟨by omega, by
            rw [hb]
            refine decide_eq_decide.2 ?_
            rw [take_getD hkT [], List.mem_append, List.mem_singleton]
            exact ⟨fun z => ⟨.inl z.1, z.2⟩, fun z => ⟨z.1.elim id fun y => absurd y.symm h52, z.2⟩⟩⟩, rfl, ⟨(by first | rfl | exact int_to (by omega) | exact sl_to (by omega)), (by first | rfl | exact int_to (by omega) | exact sl_to (by omega)), (by first | rfl | exact int_to (by omega) | exact sl_to (by omega)), (by first | rfl | exact int_to (by omega) | exact sl_to (by omega)), (by first | rfl | exact int_to (by omega) | exact sl_to (by omega)), (by first | rfl | exact int_to (by omega) | exact sl_to (by omega)), trivial⟩, .refl _⟩
      · skip
        obtain rfl : k = T.length := by omega
        have hrc := rec_cells (L := l) (k := q) hq
        have hwq := wle (L := l) (i := q) hq
        have hb0 : Bor w.heap.size w (.blk g8 29 [.slice A1 T.length c1, .slice A2 T.length c2] :: .own 9 1 A1 T.length c1 (strs T) :: .own 37 1 A2 T.length c2 (LL.map lVal) :: (LL.map lRow ++ [])) 4 (.slice A0 l.length c0) l.length (recs l) := hbo.mono (List.nil_sublist _)
        refine vc_exit ?_
        refine then_exit ?_
        refine loop_exit ?_
        refine in_eq ?_
        refine then_next ?_
        refine vc_seq ?_
        refine vc_region ?_
        refine vl_det (det_move rfl) rfl ?_
        refine vl_det (det_move rfl) rfl ?_
        refine vl_det (det_move rfl) rfl ?_
        refine vl_det (det_indexAddr (size := 4) Try.underlying22 (by kernel_rfl) rfl rfl rfl (by omega) (by first | (exact Bor.own (by repeat (first | exact List.Mem.head _ | apply List.Mem.tail))) | (repeat (first | assumption | apply Bor.cons)))) rfl ?_
        refine vl_det (det_load_rowa 4 (by kernel_rfl) rfl (by first | (exact Bor.own (by repeat (first | exact List.Mem.head _ | apply List.Mem.tail))) | (repeat (first | assumption | apply Bor.cons))) (by omega) (RecC.cells (recAt l q)) hrc rfl) rfl ?_
        refine vl_call co14 rfl (ptrm_d (x := recAt l q) (by omega)) rfl ?_
        rintro _ _ ⟨A65, c65, rfl, hLL⟩
        obtain rfl := hLL.symm
        refine vl_det (det_move rfl) rfl ?_
        refine vl_call co15 rfl (has15_d s (by first | (exact Bor.own (by repeat (first | exact List.Mem.head _ | apply List.Mem.tail))) | (repeat (first | assumption | apply Bor.cons))) (by have := trm_len (recAt l q); omega)) rfl ?_
        rintro _ _ ⟨rfl, hLL⟩
        obtain rfl := hLL.symm
        refine vl_det (det_bool_eql Try.underlying4 rfl rfl) rfl ?_
        refine vl_det (det_assign rfl) rfl ?_
        refine vl_end [(6, _)] ⟨rfl, trivial⟩ ?_
        refine then_next ?_
        refine vc_ret ?_
        refine ret_wk (L' := []) (.skip (.skip (.skip (.skip (wk_rows (.refl _) _))))) ?_
        refine ret1 rfl rfl ?_
        rw [hb, List.take_length]
        have hE : (s ∈ T ∧ q ∈ lsF (tmF l) l.length s) ↔ s ∈ trm (recAt l q) := ⟨fun z => (lsF_mem.1 z.2).2, fun z => ⟨(hTm s).2 ⟨q, hq, z⟩, lsF_mem.2 ⟨hq, z⟩⟩⟩
        rw [decide_eq_decide.2 hE, decide_eq_true rfl]
  · skip
    refine vl_guard_f rfl rfl rfl rfl ?_
    refine vl_guard_f rfl rfl rfl rfl ?_
    refine vl_det (det_pick_t rfl rfl) rfl ?_
    refine vl_end [(0, _), (1, _), (2, _), (19, _)] ⟨rfl, rfl, rfl, rfl, trivial⟩ ?_
    refine then_next ?_
    refine vc_cond_t rfl ?_
    refine vc_seq ?_
    refine vc_region ?_
    refine vl_det (det_assign rfl) rfl ?_
    refine vl_end [(6, _)] ⟨rfl, trivial⟩ ?_
    refine then_next ?_
    refine vc_ret ?_
    refine then_ret ?_
    refine ret1 rfl rfl ?_
    rfl
theorem own : ownKnob Try.prog.godebug = none := by kernel_rfl
theorem laidOut : laidOutB Try.prog = true := by kernel_rfl
set_option maxRecDepth 100000 in
theorem lifted (os : Os) (started : os.Started) (H : Type) (enc : TypeId × Value → H) :
    ReturnsInHanded {} Try.checked os 6 .any (Rows.postHasSpec.pre6 enc Try.prog Try.f6 Rows.postHasRow.domain false) (Rows.postHasSpec.post enc Try.prog Try.f6 false true false false) := by
  refine returnsInHanded_of_change (C := Try.checked) own started (by kernel_rfl) Try.func6
    (ChangeSpec.witness6 (enc := enc) (C := Try.checked) false ⟨#[], #[.slice none 0 0, .string ByteArray.empty, .int .u16 0], []⟩ 8 (by kernel_rfl) (by kernel_rfl) (by kernel_rfl) (by kernel_rfl)) ?_
  intro W base args ds gs before hval0 hW hcnd _
  have hval : ∀ (j : Nat) t v, Try.f6.params[j]? = some t → args[j]? = some v → Value.okWide Try.prog W .any base t v := hval0
  have hW' := hW
  obtain ⟨p, q, hA0, hV, rfl, hfz, hnd⟩ := hW
  have hA : DataW.TrodAll enc Try.prog W 0 (fun _ => true) true Try.f6.params.toList args.toList ds p := hA0
  rw [Try.params6] at hA hval
  obtain ⟨v0', vs0, d0, ds0, p0, q0, hargs, rfl, rfl, h0', r0⟩ := trodAll_cons hA
  obtain ⟨v1', vs1, d1, ds1, p1, q1, rfl, rfl, rfl, h1', r1⟩ := trodAll_cons r0
  obtain ⟨v2', vs2, d2, ds2, p2, q2, rfl, rfl, rfl, h2', r2⟩ := trodAll_cons r1
  obtain ⟨rfl, rfl, rfl⟩ := trodAll_nil r2
  obtain rfl : args = #[v0', v1', v2'] := by cases args; simp_all
  obtain ⟨rfl, rfl⟩ := trodVars_none hV
  have k0 := h0'
  have lt0 : ∀ x ∈ p0, x.block < W.heap.size := by obtain ⟨m, hm⟩ := k0; exact DataW.trod_lt m _ _ _ hm
  obtain ⟨A0, n0, c0, rfl⟩ := okWide_slice Try.underlying22 (hval 0 22 v0' rfl rfl)
  obtain ⟨⟨u0, L0⟩, e0, hr0, ho0, hm0⟩ := DecT.arg (dec_slice Try.underlying22 (by kernel_rfl : Try.prog.cellsOf 35 = 4) (by omega) (fun _ => rfl) (dec_rec W)) k0
  obtain rfl := cells_slice A0 n0 c0 rfl e0
  have k1 := h1'
  have lt1 : ∀ x ∈ p1, x.block < W.heap.size := by obtain ⟨m, hm⟩ := k1; exact DataW.trod_lt m _ _ _ hm
  obtain ⟨a1, rfl, hd1, hp1, w1⟩ := open_string Try.underlying9 (hval 1 9 v1' rfl rfl) h1'
  have k2 := h2'
  have lt2 : ∀ x ∈ p2, x.block < W.heap.size := by obtain ⟨m, hm⟩ := k2; exact DataW.trod_lt m _ _ _ hm
  obtain ⟨a2, rfl, hd2, hp2, w2⟩ := open_int Try.underlying47 (hval 2 47 v2' rfl rfl) h2'
  have bd2 := bounds_u16 w2
  obtain ⟨n2, rfl⟩ := Int.eq_ofNat_of_zero_le bd2.1
  clear hA0 hval0
  refine (walk W _ L0 hr0 ho0 hm0 a1 w1 n2 (by omega)).mono fun e W' ⟨he, bel⟩ => ?_
  subst he
  exact ⟨_, rfl, _, _, _, [], _, [], hW', trodAll_mk1 (shut_bool Try.underlying4 _), (trodAll_cons_mk (Below.trod laidOut (by kernel_rfl) (of_decide_eq_true (by kernel_rfl)) k0 bel lt0) (trodAll_cons_mk (Below.trod laidOut (by kernel_rfl) (of_decide_eq_true (by kernel_rfl)) k1 bel lt1) (trodAll_cons_mk (Below.trod laidOut (by kernel_rfl) (of_decide_eq_true (by kernel_rfl)) k2 bel lt2) trodAll_mk0))), rfl, bel.frame _, fun h => by cases h⟩

theorem over : Rows.postHasRow.holds Try.pinned (OpenSpec.ofChange Rows.postHasSpec) :=
  OpenClaim.holds_of_wide 6 Try.f6 rfl rfl rfl rfl rfl rfl rfl ⟨rfl, rfl, rfl, rfl, rfl⟩ rfl rfl rfl rfl rfl (by kernel_rfl) Try.func6 (by kernel_rfl)
    (of_decide_eq_true (by kernel_rfl)) (by unfold Func.isWrapper; first | (rw [if_pos (by decide +kernel)]; kernel_rfl) | (rw [if_neg (by decide +kernel)]; exact ⟨rfl, rfl⟩))
    (fun os started H enc _ => lifted os started H enc)

theorem proved : Rows.PostHasSaid := over
#print axioms proved
end Go.Proofs.Ytpamjobiohbibaa.lawPostHas

/-
  slices.Chunk of texts: its parts, its contract as an iterator. Condition: parts of 1 to 1000 texts, at most 10^15 texts.
-/
import Derived.Test.YtbkaoncopohdbaaEngT
import Derived.Test.YtbkaoncopohdbaaTypes
namespace Go.Proofs.Ytbkaoncopohdbaa
open Go.RowKit
set_option linter.unusedVariables false
set_option maxRecDepth 20000
section
variable {C : Cx} {fr : Fr} {L : List Ch} {x y z u : Operand} {t ty e : TypeId} {m n q : Int} {k : IntKind}
theorem det_slice_max {A : Option Addr} {nn c i j size : Nat} {k' k2 : IntKind} (ht : C.P.underlying t = some (.slice e)) (hz : (C.P.info? e).map (·.size) = some size) (he : ev fr x = some (.slice A nn c)) (hy : ev fr y = some (.int k m)) (hm : m = (i : Int)) (hz2 : ev fr z = some (.int k' n)) (hn : n = (j : Int)) (hu : ev fr u = some (.int k2 q)) (hq : q = (j : Int)) (hij : i < j) (hj : j ≤ c) :
    Det C fr L (.slice t x (some y) (some z) (some u)) ty (.slice (A.map (·.add (i * size))) (j - i) (j - i)) := fun a w ha hw d pos af gg => by
  subst hm
  subst hn
  subst hq
  have h1 : ¬ j = i := by omega
  have h2 : i ≤ j := by omega
  simp [execOp, Instr.sliceAt, Instr.slice, Instr.sliceBounds, Instr.sliceBound, asIntOf, run_underlying ht, ha.tmp he, ha.tmp hy, ha.tmp hz2, ha.tmp hu, h1, h2, hj, isSz hz]
end
def chE (sz n i : Nat) : Nat := min sz (n - i * sz)
def chV (A : Option Addr) (sz n i : Nat) : Value := .slice (A.map (·.add (i * sz))) (chE sz n i) (chE sz n i)
def chN (sz n : Nat) : Nat := (n + (sz - 1)) / sz
theorem chN_lt {sz n i : Nat} (h : 1 ≤ sz) : i < chN sz n ↔ i * sz < n := by
  unfold chN
  rw [Nat.lt_iff_add_one_le, Nat.le_div_iff_mul_le (by omega), Nat.succ_mul]
  omega
theorem agr_ini {N : Nat} {args : List Value} {fr0 : Fr} (hl : args.length ≤ N) (hi : Ini N args fr0) : Agr N fr0 { tmps := args.toArray ++ Array.replicate (N - args.toArray.size) undef, defers := [] } := by
  refine ⟨rfl, by simp; omega, fun t v ht => ?_⟩
  obtain ⟨h1, h2⟩ := hi.look t v ht
  simp only [List.size_toArray]
  by_cases hlt : t < args.length
  · rw [Array.getElem?_append_left (by simpa using hlt)]
    simp [hlt] at h2
    simp [hlt, h2]
  · rw [Array.getElem?_append_right (by simpa using hlt)]
    have h3 : args[t]? = none := List.getElem?_eq_none (by omega)
    simp [h3] at h2
    subst h2
    simp
    rw [Array.getElem?_replicate, if_pos (by omega)]
/-- what the iterator says at its end -/
def TE (A B : World → Prop) : Exit → Fr → World → Prop
  | .normal, _, w | .ret, _, w => A w ∨ B w
  | _, _, _ => False
theorem chunk_stops {B g2 g3 : Nat} {A : Option Addr} {n c sz : Nat} (hsz : 1 ≤ sz) (hs2 : sz ≤ 1000) (hn : n ≤ 1000000000000000) (hnc : n ≤ c) (hg : g2 ≠ g3) (w : World)
    (h2 : (Ch.blk g2 22 [.slice A n c]).holds B w) (h3 : (Ch.blk g3 3 [.int .i64 sz]).holds B w) :
    SeqStopsK Fence.wide 7 Try.prog 43 [.pointer (some ⟨g2, 0, none⟩), .pointer (some ⟨g3, 0, none⟩)].toArray (fun x : Fin (chN sz n) => #[chV A sz n x.val])
      (KpOf B [.blk g2 22 [.slice A n c], .blk g3 3 [.int .i64 sz]]) (fun xs => xs.map (·.val) = List.range (chN sz n)) (fun _ => True) (chN sz n) w := by
  intro l J Jx W hW hJ hJx hY h0
  have hsl : ∀ w : World, (∀ q ∈ [Ch.blk g2 22 [.slice A n c], .blk g3 3 [.int .i64 sz]], q.holds B w) → SL 0 w [Ch.blk g2 22 [.slice A n c], .blk g3 3 [.int .i64 sz]] w := fun w h => by
    refine ⟨Below.refl _ _, Nat.zero_le _, fun c hc => ?_, List.pairwise_cons.2 ⟨fun d hd => ?_, List.pairwise_cons.2 ⟨fun _ h => (by cases h), List.Pairwise.nil⟩⟩⟩
    · have := h c hc
      simp only [List.mem_cons, List.not_mem_nil, or_false] at hc
      rcases hc with rfl | rfl <;> exact ⟨Nat.zero_le _, this.2⟩
    · rw [List.mem_singleton.1 hd]
      exact .inr fun e => hg (Option.some.inj e)
  have hlt2 := (h2.lt rfl).2
  have hlt3 := (h3.lt rfl).2
  have hW0 : ∀ q ∈ [Ch.blk g2 22 [.slice A n c], .blk g3 3 [.int .i64 sz]], q.holds B W := by
    intro c hc
    simp only [List.mem_cons, List.not_mem_nil, or_false] at hc
    rcases hc with rfl | rfl
    · exact h2.keep fun g hg => by cases hg; exact hW.block _ hlt2
    · exact h3.keep fun g hg => by cases hg; exact hW.block _ hlt3
  have hdr : ∀ pre (w : World) k, J pre w → J pre (w.drewN k) := fun pre w k h => hJ pre w _ none h (grownBy_drewN w k) (fun r e => by cases e)
  generalize hLk : [Ch.blk g2 22 [.slice A n c], .blk g3 3 [.int .i64 sz]] = Lk at *
  refine callsIn_of_wp Try.func43 rfl trivial (wpIn_mono (Q := tpost 31 (TE (fun w => ∃ xs : List (Fin (chN sz n)), xs.map (·.val) = List.range (chN sz n) ∧ J xs w) (fun w => ∃ pre, True ∧ Jx pre w))) ?_ ?_) rfl
  · have ha := agr_ini (N := 31) (args := [.func (.yield l) #[] #[], .pointer (some ⟨g2, 0, none⟩), .pointer (some ⟨g3, 0, none⟩)]) (fr0 := [(0, .func (.yield l) #[] #[]), (1, .pointer (some ⟨g2, 0, none⟩)), (2, .pointer (some ⟨g3, 0, none⟩))]) (by simp) ⟨⟨rfl, rfl⟩, ⟨rfl, rfl⟩, ⟨rfl, rfl⟩, trivial⟩
    refine (?_ : VT Try.prog 31 _ _ _ W) _ ha
    refine vt_seq (vt_region ?_)
    refine vtl_det (hsl W hW0) (det_assign rfl) rfl rfl ?_
    refine vtl_end [(0, _), (1, _), (2, _), (4, _)] ⟨rfl, rfl, rfl, rfl, trivial⟩ ?_
    refine tt_next (vt_block ?_)
    refine vt_loop (fun i w => i ≤ chN sz n ∧ (∀ c ∈ Lk, c.holds B w) ∧ ∃ pre : List (Fin (chN sz n)), pre.map (·.val) = List.range i ∧ J pre w) (fun i => [(0, .func (.yield l) #[] #[]), (1, .pointer (some ⟨g2, 0, none⟩)), (2, .pointer (some ⟨g3, 0, none⟩)), (4, .int .i64 ((i * sz : Nat) : Int))]) 4 (n + sz) (fun i => i * sz) (fun i => rfl) 0 ⟨Nat.zero_le _, hW0, [], rfl, h0⟩ ⟨rfl, rfl, rfl, by rw [Nat.zero_mul]; rfl, trivial⟩ ?_
    rintro i w ⟨hi, hh, pre, hpre, hJp⟩
    have hs := hsl w hh
    rw [← hLk] at hs
    refine vt_seq (vt_seq (vt_region ?_))
    refine vtl_det hs (det_move rfl) rfl rfl ?_
    refine vtl_det hs (det_load_blk (by kernel_rfl) rfl (by repeat (first | exact .hd | apply Sel.tl)) rfl) rfl rfl ?_
    refine vtl_det hs (det_len_sl Try.underlying22 rfl) rfl rfl ?_
    refine vtl_det hs (det_lss rfl rfl) rfl rfl ?_
    refine vtl_end [(0, _), (1, _), (2, _), (4, _), (9, _)] ⟨rfl, rfl, rfl, rfl, rfl, trivial⟩ ?_
    refine tt_next (vt_decide rfl (fun hlt => ?_) (fun hlt => ?_))
    · refine vt_skip ?_
      have hin : i * sz < n := by omega
      have hiN := (chN_lt hsz).2 hin
      have hlen : pre.length < chN sz n := by
        have := congrArg List.length hpre
        simp at this
        omega
      have hE1 : 1 ≤ chE sz n i := by unfold chE; omega
      have hE2 : chE sz n i ≤ sz := by unfold chE; omega
      have hE3 : i * sz + chE sz n i ≤ n := by unfold chE; omega
      have hss : (i + 1) * sz = i * sz + sz := Nat.succ_mul i sz
      refine tt_next (vt_seq (vt_block (vt_seq (vtq_region (by kernel_rfl) (by kernel_rfl) ?_))))
      refine vtq_det hs (det_load_blk (by kernel_rfl) rfl (by repeat (first | exact .hd | apply Sel.tl)) rfl) rfl ?_
      refine vtq_det hs (det_load_blk (by kernel_rfl) rfl (by repeat (first | exact .hd | apply Sel.tl)) rfl) rfl ?_
      refine vtq_det hs (det_move rfl) rfl ?_
      refine vtq_det hs (det_slice_lo (i := i * sz) (size := 1) Try.underlying22 (by kernel_rfl) rfl rfl rfl (by omega)) rfl ?_
      refine vtq_det hs (det_len_sl Try.underlying22 rfl) rfl ?_
      refine vtq_det hs (det_min rfl rfl) rfl ?_
      refine vtq_det hs (det_assign rfl) rfl ?_
      rw [show min (sz : Int) ((n - i * sz : Nat) : Int) = ((chE sz n i : Nat) : Int) by unfold chE; omega]
      refine vtq_end [(0, _), (1, _), (2, _), (4, _), (5, _)] ⟨rfl, rfl, rfl, rfl, rfl, trivial⟩ ?_
      intro kd
      have hJd := hdr pre w kd hJp
      have hhd : ∀ c ∈ Lk, c.holds B (w.drewN kd) := fun c hc => (hh c hc).keep fun g hg => rfl
      clear hh hJp hs
      generalize w.drewN kd = w at *
      have hs := hsl w hhd
      rw [← hLk] at hs
      refine tt_next (vt_seq (vt_region ?_))
      refine vtl_det hs (det_move rfl) rfl rfl ?_
      refine vtl_det hs (det_load_blk (by kernel_rfl) rfl (by repeat (first | exact .hd | apply Sel.tl)) rfl) rfl rfl ?_
      refine vtl_det hs (det_move rfl) rfl rfl ?_
      refine vtl_det hs (det_move rfl) rfl rfl ?_
      refine vtl_det hs (det_move rfl) rfl rfl ?_
      refine vtl_det hs (det_add rfl rfl (w_i64 (by omega) (by omega))) rfl rfl ?_
      refine vtl_det hs (det_move rfl) rfl rfl ?_
      refine vtl_det hs (det_move rfl) rfl rfl ?_
      refine vtl_det hs (det_add rfl rfl (w_i64 (by omega) (by omega))) rfl rfl ?_
      refine vtl_det hs (det_slice_max (i := i * sz) (j := i * sz + chE sz n i) (size := 1) Try.underlying22 (by kernel_rfl) rfl rfl rfl rfl (by omega) rfl (by omega) (by omega) (by omega)) rfl rfl ?_
      rw [Nat.mul_one, Nat.add_sub_cancel_left]
      refine vtl_yield (u := chV A sz n i) rfl rfl (hY pre ⟨i, hiN⟩ w hJd hlen) rfl ?_ ?_
      · rintro w' ⟨hJ', hK⟩
        have hh' : ∀ c ∈ Lk, c.holds B w' := fun c hc => hK c hc (hhd c hc)
        have hs := hsl w' hh'
        rw [← hLk] at hs
        refine vtl_det hs (det_not_t rfl) rfl rfl ?_
        refine vtl_end [(0, _), (1, _), (2, _), (4, _), (30, _)] ⟨rfl, rfl, rfl, rfl, rfl, trivial⟩ ?_
        refine tt_next (vt_condf rfl (vt_skip ?_))
        refine tt_next (vt_region ?_)
        refine vtl_det hs (det_move rfl) rfl rfl ?_
        refine vtl_det hs (det_load_blk (by kernel_rfl) rfl (by repeat (first | exact .hd | apply Sel.tl)) rfl) rfl rfl ?_
        refine vtl_det hs (det_add rfl rfl (r := (((i + 1) * sz : Nat) : Int)) ((w_i64 (by omega) (by omega)).trans (by omega))) rfl rfl ?_
        refine vtl_det hs (det_assign rfl) rfl rfl ?_
        refine vtl_end [(0, _), (1, _), (2, _), (4, _)] ⟨rfl, rfl, rfl, rfl, trivial⟩ ?_
        exact ⟨i + 1, ⟨hiN, hh', pre ++ [⟨i, hiN⟩], by rw [List.map_append, hpre, List.range_succ]; rfl, hJ'⟩, by omega, rfl, rfl, rfl, rfl, trivial⟩
      · intro w' hJ'
        have hs0 : SL w'.heap.size w' [] w' := SL.nil_ w'
        refine vtl_det hs0 (det_not_f rfl) rfl rfl ?_
        refine vtl_end [(30, _)] ⟨rfl, trivial⟩ ?_
        refine tt_next (vt_condt rfl (vt_ret ?_))
        exact .inr ⟨_, trivial, hJ'⟩
    · refine vt_exit ?_
      refine tt_exit ?_
      show TB 0 _ (Exit.exit 0) _ _
      refine tb_exit ?_
      have hge : ¬ i < chN sz n := fun h => hlt (by have := (chN_lt hsz).1 h; omega)
      obtain rfl : i = chN sz n := by omega
      exact .inl ⟨pre, hpre, hJp⟩
  · rintro e a w ⟨fr, ha, hq⟩
    cases e <;> first
      | exact hq.elim
      | exact ⟨ha.defers, _, results_none rfl _ _ _, ⟨_, rfl⟩, hq⟩
end Go.Proofs.Ytbkaoncopohdbaa

/-
  Texts of one proof, joined: part 4. No condition.
-/
import Derived.Test.YtpamjobiohbibaaRd3
import Derived.Test.YtpamjobiohbibaaRows
import Derived.Lib.AppendStr
import Derived.Lib.AppendZeros
namespace Go.Proofs.Ytpamjobiohbibaa
open Go.RowKit
set_option linter.unusedVariables false
set_option maxRecDepth 20000
variable {B : Nat} {w0 : World} {F : List Ch} {A A1 A2 B1 B2 : Option Addr} {n c c1 c2 b1 b2 g : Nat}
def tDisk : Txt := [100, 105, 115, 107]
def tFull : Txt := [102, 117, 108, 108]
def alL : List RecC := [(0, 0, [], tDisk ++ [32] ++ tFull), (0, 0, [], tFull)]
theorem alW : wordsL (tDisk ++ [32] ++ tFull) = [tDisk, tFull] ∧ wordsL tFull = [tFull] ∧ wordsL [] = [] := by decide
theorem alT : bldT (tmF alL) 2 = [tDisk, tFull] := by
  refine setT_uniq (by simp only [StT, List.pairwise_cons, List.not_mem_nil, false_implies, implies_true, List.mem_singleton, forall_eq, and_true, List.Pairwise.nil]; decide) fun x => ?_
  have h0 : ∀ x, x ∈ tmF alL 0 ↔ x ∈ [tDisk, tFull] := fun x => by
    show x ∈ termsL (tDisk ++ [32] ++ tFull) [] ↔ _
    rw [termsL, setT_mem, rawT, alW.1, alW.2.2]; simp
  have h1 : ∀ x, x ∈ tmF alL 1 ↔ x ∈ [tFull] := fun x => by
    show x ∈ termsL tFull [] ↔ _
    rw [termsL, setT_mem, rawT, alW.2.1, alW.2.2]; simp
  rw [List.mem_flatMap]
  constructor
  · intro h
    exact ⟨0, by simp, (h0 x).2 h⟩
  · rintro ⟨q, hq, h⟩
    have hq := List.mem_range.1 hq
    rcases q with _ | _ | q
    · exact (h0 x).1 h
    · have := (h1 x).1 h; simp at this; simp [this]
    · omega
theorem alB : bldL (tmF alL) 2 = [[0], [0, 1]] := by
  have h0 : ∀ x, x ∈ tmF alL 0 ↔ x ∈ [tDisk, tFull] := fun x => by
    show x ∈ termsL (tDisk ++ [32] ++ tFull) [] ↔ _
    rw [termsL, setT_mem, rawT, alW.1, alW.2.2]; simp
  have h1 : ∀ x, x ∈ tmF alL 1 ↔ x ∈ [tFull] := fun x => by
    show x ∈ termsL tFull [] ↔ _
    rw [termsL, setT_mem, rawT, alW.2.1, alW.2.2]; simp
  rw [bldL, alT]
  have hl : ∀ s, lsF (tmF alL) 2 s = (if s ∈ tmF alL 0 then [0] else []) ++ (if s ∈ tmF alL 1 then [1] else []) := fun s => by
    rw [lsF_succ, lsF_succ]; simp [lsF]
  simp only [List.map_cons, List.map_nil, hl]
  rw [if_pos ((h0 tDisk).2 (by simp)), if_pos ((h0 tFull).2 (by simp)), if_pos ((h1 tFull).2 (by simp)), if_neg (fun h => absurd ((h1 tDisk).1 h) (by decide))]
  rfl
theorem alWs : wsum alL ≤ 1000000 := by decide
def toI (LL : List Lst) : List LsI := LL.map fun e => (e.1, e.2.1, e.2.2.map (fun (n : Nat) => (n : Int)))
theorem toI_val (LL : List Lst) : (toI LL).map iVal = LL.map lVal := by
  unfold toI
  rw [List.map_map]
  apply List.map_congr_left
  intro e _
  simp [iVal, lVal]
theorem toI_len (LL : List Lst) : (toI LL).length = LL.length := by simp [toI]
theorem toI_ids (LL : List Lst) : idsI (toI LL) = (LL.map (·.2.2)).map fun l => l.map (fun (n : Nat) => (n : Int)) := by
  simp [idsI, toI]
theorem toI_bor {LL : List Lst} {L : List Ch} (h : ∀ e ∈ LL, lRow e ∈ L) : LsBor B w0 L (toI LL) := fun e he => by
  obtain ⟨a, ha, rfl⟩ := List.mem_map.1 he
  have := Bor.own (B := B) (w0 := w0) (h a ha)
  simpa [natv, ints, List.map_map, Function.comp_def] using this
theorem al3 {LL : List Lst} (h : LL.map (·.2.2) = [[0], [0, 1]]) : ∀ e ∈ toI LL, e.2.2.length ≤ 9223372036854775807 := fun e he => by
  have : e.2.2 ∈ idsI (toI LL) := List.mem_map_of_mem he
  rw [toI_ids, h] at this
  simp at this
  rcases this with h | h <;> rw [h] <;> simp
theorem al4 {LL : List Lst} {A8 A9 : Option Addr} (h : LL.map (·.2.2) = [[0], [0, 1]]) : [tDisk, tFull] = [tDisk, tFull] ∧ idsI (toI LL) = idsI [(A8, 1, [0]), (A9, 2, [0, 1])] := ⟨rfl, by rw [toI_ids, h]; rfl⟩
theorem alive_d : Does Try.prog B w0 9 [] F (fun r L => r = .bool true ∧ L = F) := by
  refine fn_walk Try.func9 13 rfl rfl rfl [] trivial ?_
  refine vc_seq ?_
  refine vc_region ?_
  refine vl_det (det_assign rfl) rfl ?_
  refine vl_end [] trivial ?_
  refine then_next ?_
  refine vc_seq ?_
  refine vc_region ?_
  refine vl_det (det_buildp [(3, _)] [.int .u64 0, .int .u8 0, .string ⟨#[]⟩, .string ⟨#[]⟩] [3] [_, _, _, _] rfl rfl (by kernel_rfl)) rfl ?_
  refine vl_det (det_buildp [(3, _)] [.int .u64 0, .int .u8 0, .string ⟨#[]⟩, .string ⟨#[]⟩] [3] [_, _, _, _] rfl rfl (by kernel_rfl)) rfl ?_
  refine vl_eff (eff_buildSlice (kk := 2) (size := 4) (parts := [(0, .tmp 2), (1, .tmp 3)]) (us := [(0, .agg (RecC.cells (recAt alL 0)).toArray), (1, .agg (RecC.cells (recAt alL 1)).toArray)]) (cs := recs alL) (zv := .agg #[.int .u64 0, .int .u8 0, .string ⟨#[]⟩, .string ⟨#[]⟩]) Try.underlying22 (by kernel_rfl) (by omega) (by omega) (by omega) (by kernel_rfl) rfl (by kernel_rfl) rfl) rfl ?_
  rintro _ _ ⟨A4, rfl, rfl⟩
  refine vl_call co12 rfl (build_d (L := alL) (by first | (exact Bor.own (by repeat (first | exact List.Mem.head _ | apply List.Mem.tail))) | (repeat (first | assumption | apply Bor.cons))) alWs) rfl ?_
  rintro _ _ ⟨A1, c1, A2, c2, LL, rfl, hLL, hids⟩
  obtain rfl := hLL.symm
  have hT : bldT (tmF alL) alL.length = [tDisk, tFull] := alT
  have hI : LL.map (·.2.2) = [[0], [0, 1]] := hids.trans alB
  have hLn : LL.length = 2 := by have := congrArg List.length hI; simpa using this
  have h3 := al3 hI
  rw [hT]
  refine vl_eff (eff_alloc_z (zv := (.agg #[.slice none 0 0, .slice none 0 0])) (by kernel_rfl) rfl) rfl ?_
  rintro _ _ ⟨g1, rfl, rfl⟩
  refine vl_eff0 (eff_store_whole 2 (by kernel_rfl) rfl rfl (by first | exact bv_one _ | exact strs_one _ | exact ints_one _ _ | (simp; done) | (simp [Value.oneCell']; done) | assumption) (by repeat (first | exact .hd | apply Sel.tl)) (by first | rfl | (simp; omega) | (simp [*]; done)) (by first | rfl | (simp; omega) | (simp [*]; done))) ?_
  rintro _ _ rfl
  refine vl_end [(1, _)] ⟨rfl, trivial⟩ ?_
  refine then_next ?_
  refine vc_seq ?_
  refine vc_region ?_
  refine vl_det (det_load_whole 2 (by kernel_rfl) rfl (by repeat (first | exact .hd | apply Sel.tl)) (by first | rfl | (simp; omega) | (simp [*]; done))) rfl ?_
  refine vl_eff (eff_build_lit slT26 [_, _] rfl rfl (by first | exact bv_one _ | exact strs_one _ | exact ints_one _ _ | (simp; done) | (simp [Value.oneCell']; done) | assumption) (by omega) (by omega)) rfl ?_
  rintro _ _ ⟨A7, rfl, rfl⟩
  refine vl_eff (eff_build_lit slT37 [_] rfl rfl (by first | exact bv_one _ | exact strs_one _ | exact ints_one _ _ | (simp; done) | (simp [Value.oneCell']; done) | assumption) (by omega) (by omega)) rfl ?_
  rintro _ _ ⟨A8, rfl, rfl⟩
  refine vl_eff (eff_build_lit slT37 [_, _] rfl rfl (by first | exact bv_one _ | exact strs_one _ | exact ints_one _ _ | (simp; done) | (simp [Value.oneCell']; done) | assumption) (by omega) (by omega)) rfl ?_
  rintro _ _ ⟨A9, rfl, rfl⟩
  refine vl_eff (eff_build_lit slT27 [_, _] rfl rfl (by first | exact bv_one _ | exact strs_one _ | exact ints_one _ _ | (simp; done) | (simp [Value.oneCell']; done) | assumption) (by omega) (by omega)) rfl ?_
  rintro _ _ ⟨A10, rfl, rfl⟩
  refine vl_det (det_build [(0, _), (1, _)] [_, _] rfl rfl (by kernel_rfl)) rfl ?_
  refine vl_call co11 rfl (rsame18_n (T1 := [tDisk, tFull]) (T2 := [tDisk, tFull]) (L1 := toI LL) (L2 := [(A8, 1, [0]), (A9, 2, [0, 1])]) ((toI_len LL).trans hLn) rfl (by first | (exact Bor.own (by repeat (first | exact List.Mem.head _ | apply List.Mem.tail))) | (repeat (first | assumption | apply Bor.cons))) (by rw [toI_val]; exact (by first | (exact Bor.own (by repeat (first | exact List.Mem.head _ | apply List.Mem.tail))) | (repeat (first | assumption | apply Bor.cons)))) (toI_bor fun e he => by repeat (first | exact List.mem_append_left _ (List.mem_map_of_mem he) | apply List.mem_cons_of_mem)) (by first | (exact Bor.own (by repeat (first | exact List.Mem.head _ | apply List.Mem.tail))) | (repeat (first | assumption | apply Bor.cons))) (by first | (exact Bor.own (by repeat (first | exact List.Mem.head _ | apply List.Mem.tail))) | (repeat (first | assumption | apply Bor.cons))) (by intro e he; simp only [List.mem_cons, List.not_mem_nil, or_false] at he; rcases he with rfl | rfl <;> exact (by first | (exact Bor.own (by repeat (first | exact List.Mem.head _ | apply List.Mem.tail))) | (repeat (first | assumption | apply Bor.cons)))) (by simp) (by simp) h3) rfl ?_
  rintro _ _ ⟨rfl, hLL⟩
  obtain rfl := hLL.symm
  refine vl_det (det_assign rfl) rfl ?_
  refine vl_end [(0, _)] ⟨rfl, trivial⟩ ?_
  refine then_next ?_
  refine vc_ret ?_
  refine ret_wk (L' := F) (.skip (.skip (.skip (.skip (.skip (.skip (.skip (wk_rows (.skip (.refl _)) _)))))))) ?_
  refine ret1 rfl rfl ?_
  exact ⟨by rw [decide_eq_true (al4 hI)], rfl⟩
end Go.Proofs.Ytpamjobiohbibaa
namespace Go.Proofs.Ytpamjobiohbibaa
open Go.RowKit
set_option linter.unusedVariables false
set_option maxRecDepth 20000
def Ch.isObj : Ch → Bool
  | .obj _ _ => true
  | _ => false
section
variable {B : Nat} {w0 w w' : World} {L M : List Ch} {c d : Ch}
/-- a piece that is no mere object lies in cells -/
theorem Ch.holds.cells (h : c.holds B w) (hc : c.isObj = false) {g : Nat} (hg : c.fp = some g) : ∃ o, w.heap[g]? = some o ∧ o.isCells = true := by
  cases c with
  | own e size A n cc xs =>
    obtain ⟨_, _, h⟩ := h
    simp only [Ch.fp] at hg
    by_cases hc0 : cc = 0
    · rw [if_pos hc0] at hg; cases hg
    · rw [if_neg hc0] at hg
      obtain ⟨g', cur, rfl, h1, h2, _⟩ := h.resolve_left hc0
      simp at hg
      subst hg
      exact ⟨_, h2, rfl⟩
  | blk g' t cs =>
    simp only [Ch.fp, Option.some.injEq] at hg
    subst hg
    exact ⟨_, h.2, rfl⟩
  | obj g' o => cases hc
/-- all else that lies above the base -/
def rest (B : Nat) (M : List Ch) (w : World) : List Ch := ((List.range w.heap.size).filter fun k => decide (B ≤ k) && M.all fun c => decide (c.fp ≠ some k)).filterMap fun k => (w.heap[k]?).map (Ch.obj k)
end
/-- what an iterator relies on -/
def KpOf (B : Nat) (Lk : List Ch) (W W' : World) : Prop := ∀ c ∈ Lk, c.holds B W → c.holds B W'
section
variable {C : Cx} {QQ : Exit → Act → World → Prop} {fr : Fr} {L : List Ch} {y body : Code} {α σ : Type}
end
end Go.Proofs.Ytpamjobiohbibaa
namespace Go.Proofs.Ytpamjobiohbibaa
open Go.RowKit
set_option linter.unusedVariables false
set_option maxRecDepth 20000
def tpost (N : Nat) (QQ : Exit → Fr → World → Prop) : Exit → Act → World → Prop := fun e a w => ∃ fr, Agr N fr a ∧ QQ e fr w
def VT (P : Program) (N : Nat) (c : Code) (QQ : Exit → Fr → World → Prop) (fr : Fr) (w : World) : Prop := ∀ a, Agr N fr a → c.wpIn Fence.wide 7 P (tpost N QQ) a w
def VTL (P : Program) (N : Nat) (ops : Array Oper) (QQ : Exit → Fr → World → Prop) (l : List Oper) (fr : Fr) (w : World) : Prop := ∀ a, Agr N fr a → wpListIn Fence.wide 7 P ops (tpost N QQ) l a w
def TT (P : Program) (N : Nat) (y : Code) (QQ : Exit → Fr → World → Prop) : Exit → Fr → World → Prop
  | .normal, fr, w => VT P N y QQ fr w
  | e, fr, w => QQ e fr w
def TB (id : Nat) (QQ : Exit → Fr → World → Prop) : Exit → Fr → World → Prop
  | .exit i, fr, w => if i = id then QQ .normal fr w else QQ (.exit i) fr w
  | e, fr, w => QQ e fr w
def VTQ (P : Program) (N : Nat) (w : World) (ops : Array Oper) (QF : Fr → Prop) (l : List Oper) (fr : Fr) : Prop := ∀ a, Agr N fr a → wpQuiet P ops (fun w' => ∃ n, w' = w.drewN n) (fun a' => ∃ fr', Agr N fr' a' ∧ QF fr') l a
section
variable {P : Program} {N : Nat} {QQ : Exit → Fr → World → Prop} {QF : Fr → Prop} {fr fr' : Fr} {w : World} {x y : Code} {ops : Array Oper} {l : List Oper} {op : Op} {ty : TypeId} {pos : String} {af : Array Edge} {d : Nat} {v : Value} {B : Nat} {w0 : World} {L : List Ch}
def slotN (t : Nat) (a : Act) : Nat := match a.tmps[t]? with
  | some (.int _ z) => z.toNat
  | _ => 0
end
end Go.Proofs.Ytpamjobiohbibaa
namespace Go.Proofs.Ytpamjobiohbibaa
open Go.RowKit
set_option linter.unusedVariables false
set_option maxRecDepth 20000
section
variable {C : Cx} {fr : Fr} {L : List Ch} {x y z u : Operand} {t ty e : TypeId} {m n q : Int} {k : IntKind}
end
def chE (sz n i : Nat) : Nat := min sz (n - i * sz)
def chV (A : Option Addr) (sz n i : Nat) : Value := .slice (A.map (·.add (i * sz))) (chE sz n i) (chE sz n i)
def chN (sz n : Nat) : Nat := (n + (sz - 1)) / sz
theorem chN_lt {sz n i : Nat} (h : 1 ≤ sz) : i < chN sz n ↔ i * sz < n := by
  unfold chN
  rw [Nat.lt_iff_add_one_le, Nat.le_div_iff_mul_le (by omega), Nat.succ_mul]
  omega
/-- what the iterator says at its end -/
def TE (A B : World → Prop) : Exit → Fr → World → Prop
  | .normal, _, w | .ret, _, w => A w ∨ B w
  | _, _, _ => False
end Go.Proofs.Ytpamjobiohbibaa
namespace Go.Proofs.Ytpamjobiohbibaa
open Go.RowKit
set_option linter.unusedVariables false
set_option maxRecDepth 20000
variable {B : Nat} {w0 : World} {F : List Ch} {A A1 A2 : Option Addr} {n c c1 c2 g : Nat}
theorem dmay_d (was s : Txt) : Does Try.prog B w0 110 [.string ⟨was.toArray⟩, .string ⟨s.toArray⟩] F (fun r L => r = .bool (decide (mayT was s)) ∧ L = F) := by
  refine fn_walk Try.func110 17 rfl rfl rfl [(0, .string ⟨was.toArray⟩), (1, .string ⟨s.toArray⟩)] ⟨⟨rfl, rfl⟩, ⟨rfl, rfl⟩, trivial⟩ ?_
  refine vc_seq ?_
  refine vc_region ?_
  refine vl_det (det_assign rfl) rfl ?_
  refine vl_end [(0, _), (1, _)] ⟨rfl, rfl, trivial⟩ ?_
  refine then_next ?_
  refine vc_seq ?_
  refine vc_region ?_
  refine vl_cut 12 16 [] (mayT was s) trivial ?_ ?_
  · skip
    refine vl_det (det_move rfl) rfl ?_
    refine vl_det (det_s_neq (r := []) rfl rfl) rfl ?_
    refine vl_det (det_move rfl) rfl ?_
    refine vl_guardp rfl rfl rfl (fun h7 => ?_) (fun h7 => ?_)
    · skip
      refine vl_det (det_move rfl) rfl ?_
      refine vl_guard_t rfl rfl ?_
      refine vl_det (det_len_s Try.underlying9 rfl) rfl ?_
      refine vl_guard_t rfl rfl ?_
      refine vl_det (det_leq rfl rfl) rfl ?_
      refine vl_det (det_pick_t rfl rfl) rfl ?_
      refine vl_det (det_move rfl) rfl ?_
      refine vl_guardp rfl rfl rfl (fun h12 => ?_) (fun h12 => ?_)
      · skip
        refine vl_det (det_move rfl) rfl ?_
        refine vl_guard_t rfl rfl ?_
        refine vl_det (det_move rfl) rfl ?_
        refine vl_guard_t rfl rfl ?_
        refine vl_det (det_s_gtrD rfl rfl) rfl ?_
        refine vl_det (det_pick_t rfl rfl) rfl ?_
        exact vl_cut_end trivial (by first | rfl | exact bool_to_t (by first | exact fun h => absurd h.1 (by assumption) | exact fun h => absurd h.2.1 (by omega) | exact ⟨fun h => ⟨by assumption, by omega, h⟩, fun h => h.2.2⟩) | exact bool_to_f (by first | exact fun h => absurd h.1 (by assumption) | exact fun h => absurd h.2.1 (by omega) | exact ⟨fun h => ⟨by assumption, by omega, h⟩, fun h => h.2.2⟩) | exact bool_to (by first | exact fun h => absurd h.1 (by assumption) | exact fun h => absurd h.2.1 (by omega) | exact ⟨fun h => ⟨by assumption, by omega, h⟩, fun h => h.2.2⟩) | exact bool_to_b (by first | exact fun h => absurd h.1 (by assumption) | exact fun h => absurd h.2.1 (by omega) | exact ⟨fun h => ⟨by assumption, by omega, h⟩, fun h => h.2.2⟩))
      · skip
        refine vl_guard_f rfl rfl rfl rfl ?_
        refine vl_guard_f rfl rfl rfl rfl ?_
        refine vl_det (det_pick_f rfl rfl) rfl ?_
        exact vl_cut_end trivial (by first | rfl | exact bool_to_t (by first | exact fun h => absurd h.1 (by assumption) | exact fun h => absurd h.2.1 (by omega) | exact ⟨fun h => ⟨by assumption, by omega, h⟩, fun h => h.2.2⟩) | exact bool_to_f (by first | exact fun h => absurd h.1 (by assumption) | exact fun h => absurd h.2.1 (by omega) | exact ⟨fun h => ⟨by assumption, by omega, h⟩, fun h => h.2.2⟩) | exact bool_to (by first | exact fun h => absurd h.1 (by assumption) | exact fun h => absurd h.2.1 (by omega) | exact ⟨fun h => ⟨by assumption, by omega, h⟩, fun h => h.2.2⟩) | exact bool_to_b (by first | exact fun h => absurd h.1 (by assumption) | exact fun h => absurd h.2.1 (by omega) | exact ⟨fun h => ⟨by assumption, by omega, h⟩, fun h => h.2.2⟩))
    · skip
      refine vl_guard_f rfl rfl rfl rfl ?_
      refine vl_guard_f rfl rfl rfl rfl ?_
      refine vl_det (det_pick_f rfl rfl) rfl ?_
      refine vl_det (det_move rfl) rfl ?_
      refine vl_guard_f rfl rfl rfl rfl ?_
      refine vl_guard_f rfl rfl rfl rfl ?_
      refine vl_guard_f rfl rfl rfl rfl ?_
      refine vl_det (det_pick_f rfl rfl) rfl ?_
      exact vl_cut_end trivial (by first | rfl | exact bool_to_t (by first | exact fun h => absurd h.1 (by assumption) | exact fun h => absurd h.2.1 (by omega) | exact ⟨fun h => ⟨by assumption, by omega, h⟩, fun h => h.2.2⟩) | exact bool_to_f (by first | exact fun h => absurd h.1 (by assumption) | exact fun h => absurd h.2.1 (by omega) | exact ⟨fun h => ⟨by assumption, by omega, h⟩, fun h => h.2.2⟩) | exact bool_to (by first | exact fun h => absurd h.1 (by assumption) | exact fun h => absurd h.2.1 (by omega) | exact ⟨fun h => ⟨by assumption, by omega, h⟩, fun h => h.2.2⟩) | exact bool_to_b (by first | exact fun h => absurd h.1 (by assumption) | exact fun h => absurd h.2.1 (by omega) | exact ⟨fun h => ⟨by assumption, by omega, h⟩, fun h => h.2.2⟩))
  · skip
    refine vl_det (det_assign rfl) rfl ?_
    refine vl_end [(4, _)] ⟨rfl, trivial⟩ ?_
    refine then_next ?_
    refine vc_ret ?_
    refine ret1 rfl rfl ?_
    exact ⟨rfl, rfl⟩
theorem dsame_d (s r : Txt) (hs : s.length ≤ 1000000000000000) : Does Try.prog B w0 113 [.string ⟨s.toArray⟩, .string ⟨r.toArray⟩] F (fun v L => v = .int .i64 (lcp s r) ∧ L = F) := by
  have hle := (lcp_le s r).1
  refine fn_walk Try.func113 28 rfl rfl rfl [(0, .string ⟨s.toArray⟩), (1, .string ⟨r.toArray⟩)] ⟨⟨rfl, rfl⟩, ⟨rfl, rfl⟩, trivial⟩ ?_
  refine vc_seq ?_
  refine vc_region ?_
  refine vl_det (det_assign rfl) rfl ?_
  refine vl_end [(0, _), (1, _)] ⟨rfl, rfl, trivial⟩ ?_
  refine then_next ?_
  refine vc_seq ?_
  refine vc_region ?_
  refine vl_det (det_assign rfl) rfl ?_
  refine vl_end [(0, _), (1, _), (5, _)] ⟨rfl, rfl, rfl, trivial⟩ ?_
  refine then_next ?_
  refine vc_seq ?_
  refine vc_block ?_
  refine vc_loopJ (fun zf zL zm => ∃ (k : Nat), (k ≤ lcp s r) ∧ lcp s r - k = zm ∧ Sub zf [(0, .string ⟨s.toArray⟩), (1, .string ⟨r.toArray⟩), (5, .int .i64 k)] ∧ Wk zL (F)) _ ⟨0, Nat.zero_le _, rfl, ⟨(by first | rfl | exact int_to (by omega) | exact sl_to (by omega)), (by first | rfl | exact int_to (by omega) | exact sl_to (by omega)), (by first | rfl | exact int_to (by omega) | exact sl_to (by omega)), trivial⟩, .refl _⟩ ?_
  rintro _ _ _ ⟨k, hk, rfl, hs, hp⟩
  refine vc_weaken _ hs (vc_wk hp ?_)
  clear hs hp
  refine vc_seq ?_
  refine vc_seq ?_
  refine vq_region (by kernel_rfl) (by kernel_rfl) ?_
  refine vq_cut 19 24 [(0, _), (1, _), (5, _)] (k < lcp s r) ⟨rfl, rfl, rfl, trivial⟩ ?_ ?_
  · skip
    refine vq_det (det_move rfl) rfl ?_
    refine vq_det (det_move rfl) rfl ?_
    refine vq_det (det_len_s Try.underlying9 rfl) rfl ?_
    refine vq_det (det_lss rfl rfl) rfl ?_
    refine vq_det (det_move rfl) rfl ?_
    refine vq_guardp rfl rfl rfl (fun h10 => ?_) (fun h10 => ?_)
    · skip
      refine vq_det (det_move rfl) rfl ?_
      refine vq_guard_t rfl rfl ?_
      refine vq_det (det_move rfl) rfl ?_
      refine vq_guard_t rfl rfl ?_
      refine vq_det (det_len_s Try.underlying9 rfl) rfl ?_
      refine vq_guard_t rfl rfl ?_
      refine vq_det (det_lss rfl rfl) rfl ?_
      refine vq_det (det_pick_t rfl rfl) rfl ?_
      refine vq_det (det_move rfl) rfl ?_
      refine vq_guardp rfl rfl rfl (fun h16 => ?_) (fun h16 => ?_)
      · skip
        refine vq_det (det_move rfl) rfl ?_
        refine vq_guard_t rfl rfl ?_
        refine vq_det (det_move rfl) rfl ?_
        refine vq_guard_t rfl rfl ?_
        refine vq_det (det_at_str Try.underlying9 rfl rfl rfl (by omega)) rfl ?_
        refine vq_guard_t rfl rfl ?_
        refine vq_det (det_move rfl) rfl ?_
        refine vq_guard_t rfl rfl ?_
        refine vq_det (det_move rfl) rfl ?_
        refine vq_guard_t rfl rfl ?_
        refine vq_det (det_at_str Try.underlying9 rfl rfl rfl (by omega)) rfl ?_
        refine vq_guard_t rfl rfl ?_
        refine vq_det (det_eql rfl rfl) rfl ?_
        refine vq_det (det_pick_t rfl rfl) rfl ?_
        exact vq_cut_end ⟨rfl, rfl, rfl, trivial⟩ (by first | rfl | exact bool_to_t (by first | exact fun h => absurd ((lcp_step s r k hk).1 h).1.1 (by omega) | exact fun h => absurd ((lcp_step s r k hk).1 h).1.2 (by omega) | exact ⟨fun h => (lcp_step s r k hk).2 ⟨⟨by omega, by omega⟩, UInt8.toNat_inj.1 (by omega)⟩, fun h => by rw [((lcp_step s r k hk).1 h).2]⟩) | exact bool_to_f (by first | exact fun h => absurd ((lcp_step s r k hk).1 h).1.1 (by omega) | exact fun h => absurd ((lcp_step s r k hk).1 h).1.2 (by omega) | exact ⟨fun h => (lcp_step s r k hk).2 ⟨⟨by omega, by omega⟩, UInt8.toNat_inj.1 (by omega)⟩, fun h => by rw [((lcp_step s r k hk).1 h).2]⟩) | exact bool_to (by first | exact fun h => absurd ((lcp_step s r k hk).1 h).1.1 (by omega) | exact fun h => absurd ((lcp_step s r k hk).1 h).1.2 (by omega) | exact ⟨fun h => (lcp_step s r k hk).2 ⟨⟨by omega, by omega⟩, UInt8.toNat_inj.1 (by omega)⟩, fun h => by rw [((lcp_step s r k hk).1 h).2]⟩) | exact bool_to_b (by first | exact fun h => absurd ((lcp_step s r k hk).1 h).1.1 (by omega) | exact fun h => absurd ((lcp_step s r k hk).1 h).1.2 (by omega) | exact ⟨fun h => (lcp_step s r k hk).2 ⟨⟨by omega, by omega⟩, UInt8.toNat_inj.1 (by omega)⟩, fun h => by rw [((lcp_step s r k hk).1 h).2]⟩))
      · skip
        refine vq_guard_f rfl rfl rfl rfl ?_
        refine vq_guard_f rfl rfl rfl rfl ?_
        refine vq_guard_f rfl rfl rfl rfl ?_
        refine vq_guard_f rfl rfl rfl rfl ?_
        refine vq_guard_f rfl rfl rfl rfl ?_
        refine vq_guard_f rfl rfl rfl rfl ?_
        refine vq_det (det_pick_f rfl rfl) rfl ?_
        exact vq_cut_end ⟨rfl, rfl, rfl, trivial⟩ (by first | rfl | exact bool_to_t (by first | exact fun h => absurd ((lcp_step s r k hk).1 h).1.1 (by omega) | exact fun h => absurd ((lcp_step s r k hk).1 h).1.2 (by omega) | exact ⟨fun h => (lcp_step s r k hk).2 ⟨⟨by omega, by omega⟩, UInt8.toNat_inj.1 (by omega)⟩, fun h => by rw [((lcp_step s r k hk).1 h).2]⟩) | exact bool_to_f (by first | exact fun h => absurd ((lcp_step s r k hk).1 h).1.1 (by omega) | exact fun h => absurd ((lcp_step s r k hk).1 h).1.2 (by omega) | exact ⟨fun h => (lcp_step s r k hk).2 ⟨⟨by omega, by omega⟩, UInt8.toNat_inj.1 (by omega)⟩, fun h => by rw [((lcp_step s r k hk).1 h).2]⟩) | exact bool_to (by first | exact fun h => absurd ((lcp_step s r k hk).1 h).1.1 (by omega) | exact fun h => absurd ((lcp_step s r k hk).1 h).1.2 (by omega) | exact ⟨fun h => (lcp_step s r k hk).2 ⟨⟨by omega, by omega⟩, UInt8.toNat_inj.1 (by omega)⟩, fun h => by rw [((lcp_step s r k hk).1 h).2]⟩) | exact bool_to_b (by first | exact fun h => absurd ((lcp_step s r k hk).1 h).1.1 (by omega) | exact fun h => absurd ((lcp_step s r k hk).1 h).1.2 (by omega) | exact ⟨fun h => (lcp_step s r k hk).2 ⟨⟨by omega, by omega⟩, UInt8.toNat_inj.1 (by omega)⟩, fun h => by rw [((lcp_step s r k hk).1 h).2]⟩))
    · skip
      refine vq_guard_f rfl rfl rfl rfl ?_
      refine vq_guard_f rfl rfl rfl rfl ?_
      refine vq_guard_f rfl rfl rfl rfl ?_
      refine vq_det (det_pick_f rfl rfl) rfl ?_
      refine vq_det (det_move rfl) rfl ?_
      refine vq_guard_f rfl rfl rfl rfl ?_
      refine vq_guard_f rfl rfl rfl rfl ?_
      refine vq_guard_f rfl rfl rfl rfl ?_
      refine vq_guard_f rfl rfl rfl rfl ?_
      refine vq_guard_f rfl rfl rfl rfl ?_
      refine vq_guard_f rfl rfl rfl rfl ?_
      refine vq_guard_f rfl rfl rfl rfl ?_
      refine vq_det (det_pick_f rfl rfl) rfl ?_
      exact vq_cut_end ⟨rfl, rfl, rfl, trivial⟩ (by first | rfl | exact bool_to_t (by first | exact fun h => absurd ((lcp_step s r k hk).1 h).1.1 (by omega) | exact fun h => absurd ((lcp_step s r k hk).1 h).1.2 (by omega) | exact ⟨fun h => (lcp_step s r k hk).2 ⟨⟨by omega, by omega⟩, UInt8.toNat_inj.1 (by omega)⟩, fun h => by rw [((lcp_step s r k hk).1 h).2]⟩) | exact bool_to_f (by first | exact fun h => absurd ((lcp_step s r k hk).1 h).1.1 (by omega) | exact fun h => absurd ((lcp_step s r k hk).1 h).1.2 (by omega) | exact ⟨fun h => (lcp_step s r k hk).2 ⟨⟨by omega, by omega⟩, UInt8.toNat_inj.1 (by omega)⟩, fun h => by rw [((lcp_step s r k hk).1 h).2]⟩) | exact bool_to (by first | exact fun h => absurd ((lcp_step s r k hk).1 h).1.1 (by omega) | exact fun h => absurd ((lcp_step s r k hk).1 h).1.2 (by omega) | exact ⟨fun h => (lcp_step s r k hk).2 ⟨⟨by omega, by omega⟩, UInt8.toNat_inj.1 (by omega)⟩, fun h => by rw [((lcp_step s r k hk).1 h).2]⟩) | exact bool_to_b (by first | exact fun h => absurd ((lcp_step s r k hk).1 h).1.1 (by omega) | exact fun h => absurd ((lcp_step s r k hk).1 h).1.2 (by omega) | exact ⟨fun h => (lcp_step s r k hk).2 ⟨⟨by omega, by omega⟩, UInt8.toNat_inj.1 (by omega)⟩, fun h => by rw [((lcp_step s r k hk).1 h).2]⟩))
  · skip
    refine vq_end [(0, _), (1, _), (5, _), (24, _)] ⟨rfl, rfl, rfl, rfl, trivial⟩ ?_
    refine then_next ?_
    refine vc_decideU rfl (fun h24 => ?_) (fun h24 => ?_)
    · skip
      refine vc_skip ?_
      refine then_next ?_
      refine vc_block ?_
      refine vc_region ?_
      refine vl_det (det_move rfl) rfl ?_
      refine vl_det (det_add rfl rfl (w_i64 (by omega) (by omega))) rfl ?_
      refine vl_det (det_assign rfl) rfl ?_
      refine vl_end [(0, _), (1, _), (5, _)] ⟨rfl, rfl, rfl, trivial⟩ ?_
      refine in_normal ?_
      refine in_loop_ ⟨_, by omega, k + 1, by omega, rfl, ⟨(by first | rfl | exact int_to (by omega) | exact sl_to (by omega)), (by first | rfl | exact int_to (by omega) | exact sl_to (by omega)), (by first | rfl | exact int_to (by omega) | exact sl_to (by omega)), trivial⟩, .refl _⟩
    · skip
      refine vc_exit ?_
      refine then_exit ?_
      refine loop_exit ?_
      refine in_eq ?_
      refine then_next ?_
      refine vc_seq ?_
      refine vc_region ?_
      refine vl_det (det_move rfl) rfl ?_
      refine vl_det (det_assign rfl) rfl ?_
      refine vl_end [(4, _)] ⟨rfl, trivial⟩ ?_
      refine then_next ?_
      refine vc_ret ?_
      refine ret1 rfl rfl ?_
      exact ⟨by rw [show k = lcp s r by omega], rfl⟩
end Go.Proofs.Ytpamjobiohbibaa
namespace Go.Proofs.Ytpamjobiohbibaa
open Go.RowKit
set_option linter.unusedVariables false
theorem num_more {x k : Nat} {pre : List UInt8} (h : encN x = pre ++ encN k) (hk : 128 ≤ k) : encN x = (pre ++ [UInt8.ofNat (128 + k % 128)]) ++ encN (k / 128) := by
  rw [h, encN_ge hk]; simp
/-- what the loops keep: so much is out, so much is left -/
def NumAt (x k : Nat) (pre : List UInt8) : Prop := encN x = pre ++ encN k ∧ k ≤ x
theorem NumAt.more {x k : Nat} {pre : List UInt8} (h : NumAt x k pre) (hk : 128 ≤ k) : NumAt x (k / 128) (pre ++ [UInt8.ofNat (128 + k % 128)]) :=
  ⟨num_more h.1 hk, by have := h.2; omega⟩
end Go.Proofs.Ytpamjobiohbibaa
namespace Go.Proofs.Ytpamjobiohbibaa
open Go.RowKit
set_option linter.unusedVariables false
variable {B : Nat} {w0 : World} {F : List Ch}
end Go.Proofs.Ytpamjobiohbibaa
namespace Go.Proofs.Ytpamjobiohbibaa
open Go.RowKit
set_option linter.unusedVariables false
set_option maxRecDepth 20000
variable {B : Nat} {w0 : World} {F : List Ch}
end Go.Proofs.Ytpamjobiohbibaa
namespace Go.Proofs.Ytpamjobiohbibaa
open Go.RowKit
set_option linter.unusedVariables false
def GrowP (w : World) (e : Ending) (w' : World) : Prop := ∃ v, e = .returned v ∧ w'.ownsRow w.heap.size 5 1 v 0 []
/-- parts: each a slice value and the bytes that it reads as_ -/
abbrev Parts := List (Value × List UInt8)
def Parts.vals (P : Parts) : List Value := P.map (·.1)
def Parts.all (P : Parts) : List UInt8 := P.flatMap (·.2)
def Parts.ok (P : Parts) (w : World) (B : Nat) : Prop := ∀ x ∈ P, Rd w B 1 x.1 x.2.length (bv x.2)
/-- a part at a place: its cell, and what it reads as_ -/
theorem Parts.at_ {P : Parts} {w : World} {B : Nat} {A : Option Addr} {n : Nat} (hr : 0 < n → ∃ ad, A = some ad ∧ ad.block < B ∧ ∀ j u, P.vals[j]? = some u → w.cell? (ad.add j) = some u)
    (hP : P.ok w B) (hn : n = P.length) {k : Nat} (hk : k < n) : ∃ ad A' c' x, A = some ad ∧ ad.block < B ∧ P[k]? = some x ∧ w.cell? (ad.add k) = some (.slice A' x.2.length c') ∧ Rd w B 1 (.slice A' x.2.length c') x.2.length (bv x.2) := by
  obtain ⟨ad, rfl, hb, hc⟩ := hr (by omega)
  have hx : P[k]? = some (P[k]'(by omega)) := List.getElem?_eq_getElem (by omega)
  have hrd := hP _ (List.mem_of_getElem? hx)
  have hcell := hc k (P[k]'(by omega)).1 (by simp [Parts.vals, hx])
  obtain ⟨A', c', hv, h4, h5, h6⟩ := hrd
  rw [hv] at hcell
  exact ⟨ad, A', c', _, rfl, hb, hx, hcell, A', c', rfl, h4, h5, h6⟩
end Go.Proofs.Ytpamjobiohbibaa
namespace Go.Proofs.Ytpamjobiohbibaa
open Go.RowKit
set_option linter.unusedVariables false
set_option maxRecDepth 20000
variable {B : Nat} {w0 : World} {F : List Ch} {A : Option Addr} {n c : Nat}
end Go.Proofs.Ytpamjobiohbibaa
namespace Go.Proofs.Ytpamjobiohbibaa
open Go.RowKit
set_option linter.unusedVariables false
set_option maxRecDepth 20000
variable {B : Nat} {w0 : World} {F : List Ch} {A A1 A2 : Option Addr} {n c c1 c2 g : Nat}
end Go.Proofs.Ytpamjobiohbibaa
namespace Go.Proofs.Ytpamjobiohbibaa
open Go.RowKit
set_option linter.unusedVariables false
set_option maxRecDepth 20000
variable {B : Nat} {w0 : World} {F : List Ch} {A A1 A2 : Option Addr} {n c c1 c2 g : Nat}
def ck (l : List Txt) (sz i : Nat) : List Txt := (l.drop (i * sz)).take sz
def headT (l : List Txt) (sz : Nat) (ks : List Nat) : List UInt8 := ks.flatMap fun i => encN (bucketT (ck l sz i)).length
def bodyT (l : List Txt) (sz : Nat) (ks : List Nat) : List UInt8 := ks.flatMap fun i => bucketT (ck l sz i)
def dictB (sz : Nat) (l : List Txt) : List UInt8 := (encN l.length ++ headT l sz (List.range (chN sz l.length))) ++ bodyT l sz (List.range (chN sz l.length))
def dictW (size : Int) (l : List Txt) : List UInt8 × Int := if size < 1 ∨ 64 < size ∨ ¬ RisT l then ([], 13) else (dictB size.toNat l, 0)
theorem RisT.le {l : List Txt} (h : RisT l) : ∀ s ∈ l, s.length ≤ 25 := fun s hs => by
  obtain ⟨i, hi, rfl⟩ := List.getElem_of_mem hs
  have := (h.1 i hi).2.1
  rwa [List.getD_eq_getElem?_getD, List.getElem?_eq_getElem hi] at this
end Go.Proofs.Ytpamjobiohbibaa
namespace Go.Proofs.Ytpamjobiohbibaa
open Go.RowKit
set_option linter.unusedVariables false
set_option maxRecDepth 20000
variable {B : Nat} {w0 : World} {F : List Ch} {A A2 : Option Addr} {n n2 c c2 : Nat}
end Go.Proofs.Ytpamjobiohbibaa
namespace Go.Proofs.Ytpamjobiohbibaa
open Go.RowKit
set_option linter.unusedVariables false
set_option maxRecDepth 20000
section
variable {C : Cx} {fr : Fr} {L : List Ch} {f : Ch → List Ch} {x : Operand} {t ty e : TypeId} {A : Option Addr} {n c : Nat} {xs : List Value}
theorem Bor.obj {B : Nat} {w0 : World} {g : Nat} {cur : Array Value} {k : Nat × Nat} (h : Ch.obj g (.cells cur e k) ∈ L) (h2 : n ≤ c) (hx : cur.toList.take n = xs) (hl : xs.length = n) : Bor B w0 L 1 (.slice (some ⟨g, 0, none⟩) n c) n xs := fun w hs => by
  have hh := (hs.all _ h).2
  refine ⟨_, _, rfl, h2, by omega, fun _ => ⟨_, rfl, (Array.getElem?_eq_some_iff.1 hh).1, fun j u hu => ?_⟩⟩
  rw [Addr.add_lit, Nat.zero_add, cell_of_row w g j cur e k hh]
  rw [← hx, List.getElem?_take] at hu
  split at hu
  · simpa using hu
  · cases hu
end
end Go.Proofs.Ytpamjobiohbibaa
namespace Go.Proofs.Ytpamjobiohbibaa
open Go.RowKit
set_option linter.unusedVariables false
set_option maxRecDepth 20000
variable {B : Nat} {w0 : World} {F : List Ch} {A A1 A2 : Option Addr} {n c c1 c2 g : Nat}
/-! nil dictionaries -/
end Go.Proofs.Ytpamjobiohbibaa
namespace Go.Proofs.Ytpamjobiohbibaa
open Go.RowKit
set_option linter.unusedVariables false
set_option maxRecDepth 20000
variable {B : Nat} {w0 : World} {F : List Ch}
end Go.Proofs.Ytpamjobiohbibaa
namespace Go.Proofs.Ytpamjobiohbibaa
open Go.RowKit
set_option linter.unusedVariables false
set_option maxRecDepth 20000
variable {B : Nat} {w0 : World} {F : List Ch} {A A1 A2 : Option Addr} {n c c1 c2 g : Nat}
theorem rlike_d (s r : Txt) (hs : s.length ≤ 1000000000000000) : Does Try.prog B w0 74 [.string ⟨s.toArray⟩, .string ⟨r.toArray⟩] F (fun v L => v = .int .i64 (lcp s r) ∧ L = F) := by
  have hle := (lcp_le s r).1
  refine fn_walk Try.func74 28 rfl rfl rfl [(0, .string ⟨s.toArray⟩), (1, .string ⟨r.toArray⟩)] ⟨⟨rfl, rfl⟩, ⟨rfl, rfl⟩, trivial⟩ ?_
  refine vc_seq ?_
  refine vc_region ?_
  refine vl_det (det_assign rfl) rfl ?_
  refine vl_end [(0, _), (1, _)] ⟨rfl, rfl, trivial⟩ ?_
  refine then_next ?_
  refine vc_seq ?_
  refine vc_seq ?_
  refine vc_region ?_
  refine vl_det (det_assign rfl) rfl ?_
  refine vl_end [(0, _), (1, _), (5, _)] ⟨rfl, rfl, rfl, trivial⟩ ?_
  refine then_next ?_
  refine vc_block ?_
  refine vc_loopJ (fun zf zL zm => ∃ (k : Nat), (k ≤ lcp s r) ∧ s.length - k = zm ∧ Sub zf [(0, .string ⟨s.toArray⟩), (1, .string ⟨r.toArray⟩), (5, .int .i64 k)] ∧ Wk zL (F)) _ ⟨0, Nat.zero_le _, rfl, ⟨(by first | rfl | exact int_to (by omega) | exact sl_to (by omega)), (by first | rfl | exact int_to (by omega) | exact sl_to (by omega)), (by first | rfl | exact int_to (by omega) | exact sl_to (by omega)), trivial⟩, .refl _⟩ ?_
  rintro _ _ _ ⟨k, hk, rfl, hs, hp⟩
  refine vc_weaken _ hs (vc_wk hp ?_)
  clear hs hp
  refine vc_seq ?_
  refine vc_seq ?_
  refine vc_region ?_
  refine vl_det (det_move rfl) rfl ?_
  refine vl_det (det_move rfl) rfl ?_
  refine vl_det (det_len_s Try.underlying9 rfl) rfl ?_
  refine vl_det (det_lss rfl rfl) rfl ?_
  refine vl_end [(0, _), (1, _), (5, _), (9, _)] ⟨rfl, rfl, rfl, rfl, trivial⟩ ?_
  refine then_next ?_
  refine vc_decideU rfl (fun h9 => ?_) (fun h9 => ?_)
  · skip
    refine vc_skip ?_
    refine then_next ?_
    refine vc_seq ?_
    refine vc_block ?_
    refine vc_seq ?_
    refine vq_region (by kernel_rfl) (by kernel_rfl) ?_
    refine vq_cut 13 24 [(0, _), (1, _), (5, _)] (k = lcp s r) ⟨rfl, rfl, rfl, trivial⟩ ?_ ?_
    · skip
      refine vq_det (det_move rfl) rfl ?_
      refine vq_det (det_move rfl) rfl ?_
      refine vq_det (det_len_s Try.underlying9 rfl) rfl ?_
      refine vq_det (det_geq rfl rfl) rfl ?_
      refine vq_det (det_move rfl) rfl ?_
      refine vq_guardn rfl rfl rfl (fun h16 => ?_) (fun h16 => ?_)
      · skip
        refine vq_det (det_move rfl) rfl ?_
        refine vq_guard_t rfl rfl ?_
        refine vq_det (det_move rfl) rfl ?_
        refine vq_guard_t rfl rfl ?_
        refine vq_det (det_at_str Try.underlying9 rfl rfl rfl (by omega)) rfl ?_
        refine vq_guard_t rfl rfl ?_
        refine vq_det (det_move rfl) rfl ?_
        refine vq_guard_t rfl rfl ?_
        refine vq_det (det_move rfl) rfl ?_
        refine vq_guard_t rfl rfl ?_
        refine vq_det (det_at_str Try.underlying9 rfl rfl rfl (by omega)) rfl ?_
        refine vq_guard_t rfl rfl ?_
        refine vq_det (det_neq rfl rfl) rfl ?_
        refine vq_det (det_pick_f rfl rfl) rfl ?_
        exact vq_cut_end ⟨rfl, rfl, rfl, trivial⟩ (by first | rfl | exact bool_to_t (by first | exact Nat.le_antisymm hk (Nat.le_of_not_lt fun h => absurd ((lcp_step s r k hk).1 h).1.2 (by omega)) | exact ⟨fun h => Nat.le_antisymm hk (Nat.le_of_not_lt fun h2 => h (by rw [((lcp_step s r k hk).1 h2).2])), fun h h2 => absurd ((lcp_step s r k hk).2 ⟨⟨by omega, by omega⟩, UInt8.toNat_inj.1 (by omega)⟩) (by omega)⟩) | exact bool_to_f (by first | exact Nat.le_antisymm hk (Nat.le_of_not_lt fun h => absurd ((lcp_step s r k hk).1 h).1.2 (by omega)) | exact ⟨fun h => Nat.le_antisymm hk (Nat.le_of_not_lt fun h2 => h (by rw [((lcp_step s r k hk).1 h2).2])), fun h h2 => absurd ((lcp_step s r k hk).2 ⟨⟨by omega, by omega⟩, UInt8.toNat_inj.1 (by omega)⟩) (by omega)⟩) | exact bool_to (by first | exact Nat.le_antisymm hk (Nat.le_of_not_lt fun h => absurd ((lcp_step s r k hk).1 h).1.2 (by omega)) | exact ⟨fun h => Nat.le_antisymm hk (Nat.le_of_not_lt fun h2 => h (by rw [((lcp_step s r k hk).1 h2).2])), fun h h2 => absurd ((lcp_step s r k hk).2 ⟨⟨by omega, by omega⟩, UInt8.toNat_inj.1 (by omega)⟩) (by omega)⟩) | exact bool_to_b (by first | exact Nat.le_antisymm hk (Nat.le_of_not_lt fun h => absurd ((lcp_step s r k hk).1 h).1.2 (by omega)) | exact ⟨fun h => Nat.le_antisymm hk (Nat.le_of_not_lt fun h2 => h (by rw [((lcp_step s r k hk).1 h2).2])), fun h h2 => absurd ((lcp_step s r k hk).2 ⟨⟨by omega, by omega⟩, UInt8.toNat_inj.1 (by omega)⟩) (by omega)⟩))
      · skip
        refine vq_guard_f rfl rfl rfl rfl ?_
        refine vq_guard_f rfl rfl rfl rfl ?_
        refine vq_guard_f rfl rfl rfl rfl ?_
        refine vq_guard_f rfl rfl rfl rfl ?_
        refine vq_guard_f rfl rfl rfl rfl ?_
        refine vq_guard_f rfl rfl rfl rfl ?_
        refine vq_det (det_pick_t rfl rfl) rfl ?_
        exact vq_cut_end ⟨rfl, rfl, rfl, trivial⟩ (by first | rfl | exact bool_to_t (by first | exact Nat.le_antisymm hk (Nat.le_of_not_lt fun h => absurd ((lcp_step s r k hk).1 h).1.2 (by omega)) | exact ⟨fun h => Nat.le_antisymm hk (Nat.le_of_not_lt fun h2 => h (by rw [((lcp_step s r k hk).1 h2).2])), fun h h2 => absurd ((lcp_step s r k hk).2 ⟨⟨by omega, by omega⟩, UInt8.toNat_inj.1 (by omega)⟩) (by omega)⟩) | exact bool_to_f (by first | exact Nat.le_antisymm hk (Nat.le_of_not_lt fun h => absurd ((lcp_step s r k hk).1 h).1.2 (by omega)) | exact ⟨fun h => Nat.le_antisymm hk (Nat.le_of_not_lt fun h2 => h (by rw [((lcp_step s r k hk).1 h2).2])), fun h h2 => absurd ((lcp_step s r k hk).2 ⟨⟨by omega, by omega⟩, UInt8.toNat_inj.1 (by omega)⟩) (by omega)⟩) | exact bool_to (by first | exact Nat.le_antisymm hk (Nat.le_of_not_lt fun h => absurd ((lcp_step s r k hk).1 h).1.2 (by omega)) | exact ⟨fun h => Nat.le_antisymm hk (Nat.le_of_not_lt fun h2 => h (by rw [((lcp_step s r k hk).1 h2).2])), fun h h2 => absurd ((lcp_step s r k hk).2 ⟨⟨by omega, by omega⟩, UInt8.toNat_inj.1 (by omega)⟩) (by omega)⟩) | exact bool_to_b (by first | exact Nat.le_antisymm hk (Nat.le_of_not_lt fun h => absurd ((lcp_step s r k hk).1 h).1.2 (by omega)) | exact ⟨fun h => Nat.le_antisymm hk (Nat.le_of_not_lt fun h2 => h (by rw [((lcp_step s r k hk).1 h2).2])), fun h h2 => absurd ((lcp_step s r k hk).2 ⟨⟨by omega, by omega⟩, UInt8.toNat_inj.1 (by omega)⟩) (by omega)⟩))
    · skip
      refine vq_end [(0, _), (1, _), (5, _), (24, _)] ⟨rfl, rfl, rfl, rfl, trivial⟩ ?_
      refine then_next ?_
      refine vc_decideU rfl (fun h24 => ?_) (fun h24 => ?_)
      · skip
        refine vc_seq ?_
        refine vc_region ?_
        refine vl_det (det_move rfl) rfl ?_
        refine vl_det (det_assign rfl) rfl ?_
        refine vl_end [(4, _)] ⟨rfl, trivial⟩ ?_
        refine then_next ?_
        refine vc_ret ?_
        refine in_ret ?_
        refine then_ret ?_
        refine loop_ret ?_
        refine in_ret ?_
        refine then_ret ?_
        refine ret1 rfl rfl ?_
        exact ⟨by rw [h24], rfl⟩
      · skip
        refine vc_skip ?_
        refine in_normal ?_
        refine then_next ?_
        refine vc_region ?_
        refine vl_det (det_move rfl) rfl ?_
        refine vl_det (det_add rfl rfl (w_i64 (by omega) (by omega))) rfl ?_
        refine vl_det (det_assign rfl) rfl ?_
        refine vl_end [(0, _), (1, _), (5, _)] ⟨rfl, rfl, rfl, trivial⟩ ?_
        refine in_loop_ ⟨_, by omega, k + 1, by omega, rfl, ⟨(by first | rfl | exact int_to (by omega) | exact sl_to (by omega)), (by first | rfl | exact int_to (by omega) | exact sl_to (by omega)), (by first | rfl | exact int_to (by omega) | exact sl_to (by omega)), trivial⟩, .refl _⟩
  · skip
    refine vc_exit ?_
    refine then_exit ?_
    refine loop_exit ?_
    refine in_eq ?_
    refine then_next ?_
    refine vc_seq ?_
    refine vc_region ?_
    refine vl_det (det_move rfl) rfl ?_
    refine vl_det (det_len_s Try.underlying9 rfl) rfl ?_
    refine vl_det (det_assign rfl) rfl ?_
    refine vl_end [(4, _)] ⟨rfl, trivial⟩ ?_
    refine then_next ?_
    refine vc_ret ?_
    refine ret1 rfl rfl ?_
    exact ⟨by rw [show s.length = lcp s r by omega], rfl⟩
/-- texts are too many or too long -/
def grT (l : List Txt) : Prop := 300 < l.length ∨ ∃ i, i < l.length ∧ 60 < (l.getD i []).length
instance (l : List Txt) : Decidable (grT l) := inferInstanceAs (Decidable (_ ∨ _))
end Go.Proofs.Ytpamjobiohbibaa
namespace Go.Proofs.Ytpamjobiohbibaa
open Go.RowKit
set_option linter.unusedVariables false
set_option maxRecDepth 20000
variable {B : Nat} {w0 : World} {F : List Ch} {A A1 A2 : Option Addr} {n c c1 c2 g : Nat}
end Go.Proofs.Ytpamjobiohbibaa
namespace Go.Proofs.Ytpamjobiohbibaa
def bitn (q : List Bool) (i : Nat) : Nat := (q.getD i false).toNat
theorem bitn_le (q : List Bool) (i : Nat) : bitn q i ≤ 1 := Bool.toNat_le _
/-- the number that 'm' bits from place 'i' on are, bits 0 behind the end -/
def part (q : List Bool) (i : Nat) : Nat → Nat
  | 0 => 0
  | m + 1 => 2 * part q i m + bitn q (i + m)
theorem part_lt (q : List Bool) (i : Nat) : ∀ m, part q i m < 2 ^ m
  | 0 => by simp [part]
  | m + 1 => by have := part_lt q i m; have := bitn_le q (i + m); simp only [part, Nat.pow_succ]; omega
def octet (q : List Bool) (k : Nat) : UInt8 := UInt8.ofNat (part q (8 * k) 8)
theorem octet_nat (q : List Bool) (k : Nat) : (octet q k).toNat = part q (8 * k) 8 := by
  have := part_lt q (8 * k) 8
  rw [octet, UInt8.toNat_ofNat']
  exact Nat.mod_eq_of_lt this
def octets (q : List Bool) (k : Nat) : List UInt8 := (List.range k).map (octet q)
theorem octets_length (q : List Bool) (k : Nat) : (octets q k).length = k := by simp [octets]
def packed (q : List Bool) : List UInt8 := octets q ((q.length + 7) / 8)
theorem packed_length (q : List Bool) : (packed q).length = (q.length + 7) / 8 := octets_length _ _
theorem octets_get (q : List Bool) {n k : Nat} (h : k < n) : (octets q n).getD k 0 = octet q k := by
  simp [octets, List.getD_eq_getElem?_getD, h]
theorem bitn_out (q : List Bool) {i : Nat} (h : q.length ≤ i) : bitn q i = 0 := by
  simp [bitn, List.getD_eq_getElem?_getD, h]
/-- the row of bytes with room for one more bit -/
def room (q : List Bool) : List UInt8 := octets q (q.length / 8 + 1)
theorem and_u64 {a b : Nat} (ha : a < 18446744073709551616) (hb : b < 18446744073709551616) : IntKind.u64.wrap ((BitVec.ofInt IntKind.u64.bits (a : Int) &&& BitVec.ofInt IntKind.u64.bits (b : Int)).toNat : Int) = ((a &&& b : Nat) : Int) := u64_and a b ha hb
theorem or_u64 {a b : Nat} (ha : a < 18446744073709551616) (hb : b < 18446744073709551616) : IntKind.u64.wrap ((BitVec.ofInt IntKind.u64.bits (a : Int) ||| BitVec.ofInt IntKind.u64.bits (b : Int)).toNat : Int) = ((a ||| b : Nat) : Int) := u64_or a b ha hb
theorem tmod8 (n : Nat) : (n : Int).tmod 8 = ((n % 8 : Nat) : Int) := by rw [Int.tmod_eq_emod_of_nonneg (by omega)]; omega
theorem quo8 {n : Nat} (h : n ≤ 9000000000000000000) : IntKind.i64.wrap ((n : Int).tdiv 8) = ((n / 8 : Nat) : Int) := by
  have : (n : Int).tdiv 8 = ((n / 8 : Nat) : Int) := (Int.ofNat_tdiv n 8).symm
  rw [this]; exact w_i64 (by omega) (by omega)
theorem part_shift (q : List Bool) (i m : Nat) : ∀ j, part q i (m + j) / 2 ^ j = part q i m
  | 0 => by simp
  | j + 1 => by
    have := bitn_le q (i + (m + j))
    rw [← Nat.add_assoc, part, Nat.pow_succ, Nat.mul_comm (2 ^ j), ← Nat.div_div_eq_div_mul, show (2 * part q i (m + j) + bitn q (i + (m + j))) / 2 = part q i (m + j) by omega]
    exact part_shift q i m j
theorem packed_get (q : List Bool) {i : Nat} (h : i < q.length) : ((packed q).getD (i / 8) 0).toNat = part q (8 * (i / 8)) 8 := by
  rw [packed, octets_get q (by omega), octet_nat]
theorem shr_u8 {x m : Nat} (hm : m < 8) : (x : Int).fdiv (2 ^ min (7 - (m : Int)).toNat IntKind.u8.bits) = ((x / 2 ^ (7 - m) : Nat) : Int) := by
  have e : min (7 - (m : Int)).toNat IntKind.u8.bits = 7 - m := by
    show min _ 8 = _
    omega
  rw [e, Int.fdiv_eq_ediv_of_nonneg _ (Int.le_of_lt (Int.pow_pos (by omega)))]
  rw [Int.natCast_ediv, Int.natCast_pow]; rfl
theorem shr_lt (l : List UInt8) (i j : Nat) : (l.getD i 0).toNat / 2 ^ j < 18446744073709551616 := Nat.lt_of_le_of_lt (Nat.div_le_self _ _) (Nat.lt_of_lt_of_le (UInt8.toNat_lt _) (by omega))
theorem bit_now (q : List Bool) {i : Nat} (h : i < q.length) : IntKind.u64.wrap ((BitVec.ofInt IntKind.u64.bits ((((packed q).getD (i / 8) 0).toNat / 2 ^ (7 - i % 8) : Nat) : Int) &&& BitVec.ofInt IntKind.u64.bits 1).toNat : Int) = (bitn q i : Int) := by
  have hl : ((packed q).getD (i / 8) 0).toNat / 2 ^ (7 - i % 8) < 18446744073709551616 := Nat.lt_of_le_of_lt (Nat.div_le_self _ _) (Nat.lt_of_lt_of_le (UInt8.toNat_lt _) (by omega))
  have := and_u64 (b := 1) hl (by omega)
  rw [show ((1 : Nat) : Int) = 1 from rfl] at this
  rw [this, packed_get q h, Nat.and_one_is_mod]
  have e := part_shift q (8 * (i / 8)) (i % 8 + 1) (7 - i % 8)
  rw [show i % 8 + 1 + (7 - i % 8) = 8 by omega] at e
  rw [e, part, show 8 * (i / 8) + i % 8 = i by omega]
  have := bitn_le q i
  omega
theorem dbl_u64 {x m : Nat} (hx : x < 2 ^ m) (hm : m < 64) : IntKind.u64.wrap ((x : Int) * 2 ^ min (1 : Int).toNat IntKind.u64.bits) = ((2 * x : Nat) : Int) := by
  have h : x < 2 ^ 63 := Nat.lt_of_lt_of_le hx (Nat.pow_le_pow_right (by omega) (by omega))
  have e : min (1 : Int).toNat IntKind.u64.bits = 1 := by decide
  rw [e, w_u64 (by omega) (by omega)]
  omega
theorem or_bit {x m b : Nat} (hx : x < 2 ^ m) (hm : m < 64) (hb : b ≤ 1) : IntKind.u64.wrap ((BitVec.ofInt IntKind.u64.bits ((2 * x : Nat) : Int) ||| BitVec.ofInt IntKind.u64.bits (b : Int)).toNat : Int) = ((2 * x + b : Nat) : Int) := by
  have h : x < 2 ^ 63 := Nat.lt_of_lt_of_le hx (Nat.pow_le_pow_right (by omega) (by omega))
  rw [or_u64 (by omega) (by omega)]
  have := Nat.two_pow_add_eq_or_of_lt (i := 1) (b := b) (by omega) x
  rw [Nat.pow_one] at this
  rw [← this]
/-- the first m of the n bits of v -/
def hi (v n m : Nat) : List Bool := (List.range m).map fun j => v.testBit (n - 1 - j)
theorem hi_length (v n m : Nat) : (hi v n m).length = m := by simp [hi]
theorem bit_of (v i : Nat) : v / 2 ^ i % 2 = (v.testBit i).toNat := by rw [Nat.toNat_testBit]
/-- may v be put as_ n bits -/
def Puts (v : Nat) (n : Int) : Prop := 0 ≤ n ∧ n ≤ 64 ∧ v < 2 ^ n.toNat
instance (v : Nat) (n : Int) : Decidable (Puts v n) := inferInstanceAs (Decidable (_ ∧ _))
def ref (q : List Bool) : List UInt8 := q.map fun b => if b then 1 else 0
theorem ref_length (q : List Bool) : (ref q).length = q.length := by simp [ref]
theorem ref_get (q : List Bool) {i : Nat} (h : i < q.length) : ((ref q).getD i 0).toNat = bitn q i := by
  simp only [ref, List.getD_eq_getElem?_getD, List.getElem?_map, List.getElem?_eq_getElem h, Option.map_some, Option.getD_some, bitn]
  cases q[i] <;> rfl
theorem ref_app (q r : List Bool) : ref (q ++ r) = ref q ++ ref r := by simp [ref]
theorem ref_bit (b : Bool) : bv (ref [b]) = [.int .u8 b.toNat] := by cases b <;> rfl
def un (n : Nat) : List Bool := List.replicate n false ++ [true]
/-- the low m bits of v, the lowest first -/
def lo (v m : Nat) : List Bool := (List.range m).map v.testBit
theorem bv_add (l m : List UInt8) : bv (l ++ m) = bv l ++ bv m := by simp [bv]
theorem tmod2 (n : Nat) : (n : Int).tmod 2 = ((n % 2 : Nat) : Int) := by rw [Int.tmod_eq_emod_of_nonneg (by omega)]; omega
end Go.Proofs.Ytpamjobiohbibaa
namespace Go.Proofs.Ytpamjobiohbibaa
open Go.RowKit
set_option linter.unusedVariables false
set_option maxRecDepth 20000
variable {B : Nat} {w0 : World} {F : List Ch} {A : Option Addr} {n c g : Nat} {bt : TypeId} {f : Ch → List Ch}
theorem bit_d (q : List Bool) (i : Nat) (hi : i < q.length) (hq : q.length ≤ 8000000000) (rest : List Value) (l : List UInt8) (hl : packed q = l) (hn : n = l.length) (hs : Sel (.blk g bt (.slice A n c :: rest)) F f) (hb : Bor B w0 F 1 (.slice A n c) n (bv l)) :
    Does Try.prog B w0 147 [.pointer (some ⟨g, 0, none⟩), .int .i64 i] F
      (fun r L => r = .int .u64 (bitn q i) ∧ L = F) := by
  subst hn
  subst hl
  have hpl := packed_length q
  refine fn_walk Try.func147 19 rfl rfl rfl [(0, .pointer (some ⟨g, 0, none⟩)), (1, .int .i64 i)] ⟨⟨rfl, rfl⟩, ⟨rfl, rfl⟩, trivial⟩ ?_
  refine vc_seq ?_
  refine vc_region ?_
  refine vl_det (det_assign rfl) rfl ?_
  refine vl_end [(0, _), (1, _)] ⟨rfl, rfl, trivial⟩ ?_
  refine then_next ?_
  refine vc_seq ?_
  refine vc_region ?_
  refine vl_det (det_move rfl) rfl ?_
  refine vl_det (det_nilCheck rfl) rfl ?_
  refine vl_det (det_fieldAddr_ Try.underlying106 rfl (by kernel_rfl) rfl rfl) rfl ?_
  refine vl_det (det_load_blk (by kernel_rfl) rfl hs rfl) rfl ?_
  refine vl_det (det_move rfl) rfl ?_
  refine vl_det (det_quo rfl rfl (by omega) (quo8 (by omega))) rfl ?_
  refine vl_det (det_indexAddr (i := i / 8) Try.underlying41 (by kernel_rfl) rfl rfl rfl (by omega) (by first | (exact Bor.own (by repeat (first | exact List.Mem.head _ | apply List.Mem.tail))) | (repeat (first | assumption | apply Bor.cons)))) rfl ?_
  refine vl_det (det_load_u8 (by kernel_rfl) rfl (by first | (exact Bor.own (by repeat (first | exact List.Mem.head _ | apply List.Mem.tail))) | (repeat (first | assumption | apply Bor.cons))) (by omega)) rfl ?_
  refine vl_det (det_move rfl) rfl ?_
  refine vl_det (det_rem rfl rfl (by omega) (tmod8 _)) rfl ?_
  refine vl_det (det_sub rfl rfl (w_i64 (by omega) (by omega))) rfl ?_
  refine vl_det (det_shr rfl rfl (by omega) (shr_u8 (by omega))) rfl ?_
  refine vl_det (det_conv Try.underlying5 Try.underlying33 rfl (wrap_u64 _ (shr_lt _ _ _))) rfl ?_
  refine vl_det (det_and rfl rfl (bit_now q hi)) rfl ?_
  refine vl_det (det_assign rfl) rfl ?_
  refine vl_end [(4, _)] ⟨rfl, trivial⟩ ?_
  refine then_next ?_
  refine vc_ret ?_
  refine ret1 rfl rfl ?_
  exact ⟨rfl, rfl⟩
theorem number_d (q : List Bool) (p m : Nat) (hp : p ≤ q.length) (hm : m ≤ 64) (hq : q.length ≤ 8000000000) (rest : List Value) (l : List UInt8) (hl : packed q = l) (hn : n = l.length) (hs : Sel (.blk g bt (.slice A n c :: .int .i64 q.length :: rest)) F f) (hb : Bor B w0 F 1 (.slice A n c) n (bv l)) :
    Does Try.prog B w0 148 [.pointer (some ⟨g, 0, none⟩), .int .i64 p, .int .i64 m] F
      (fun r L => r = .int .u64 (part q p m) ∧ L = F) := by
  refine fn_walk Try.func148 31 rfl rfl rfl [(0, .pointer (some ⟨g, 0, none⟩)), (1, .int .i64 p), (2, .int .i64 m)] ⟨⟨rfl, rfl⟩, ⟨rfl, rfl⟩, ⟨rfl, rfl⟩, trivial⟩ ?_
  refine vc_seq ?_
  refine vc_region ?_
  refine vl_det (det_assign rfl) rfl ?_
  refine vl_end [(0, _), (1, _), (2, _)] ⟨rfl, rfl, rfl, trivial⟩ ?_
  refine then_next ?_
  refine vc_seq ?_
  refine vc_region ?_
  refine vl_det (det_assign rfl) rfl ?_
  refine vl_end [(0, _), (1, _), (2, _), (7, _)] ⟨rfl, rfl, rfl, rfl, trivial⟩ ?_
  refine then_next ?_
  refine vc_seq ?_
  refine vc_seq ?_
  refine vc_region ?_
  refine vl_det (det_move rfl) rfl ?_
  refine vl_det (det_assign rfl) rfl ?_
  refine vl_end [(0, _), (1, _), (2, _), (7, _), (8, _)] ⟨rfl, rfl, rfl, rfl, rfl, trivial⟩ ?_
  refine then_next ?_
  refine vc_block ?_
  refine vc_loopJ (fun zf zL zm => ∃ (k : Nat), (k ≤ m) ∧ m - k = zm ∧ Sub zf [(0, .pointer (some ⟨g, 0, none⟩)), (1, .int .i64 p), (2, .int .i64 m), (7, .int .u64 (part q p k)), (8, .int .i64 (p + k : Nat))] ∧ Wk zL (F)) _ ⟨0, Nat.zero_le _, rfl, ⟨(by first | rfl | exact int_to (by omega) | exact sl_to (by omega)), (by first | rfl | exact int_to (by omega) | exact sl_to (by omega)), (by first | rfl | exact int_to (by omega) | exact sl_to (by omega)), (by first | rfl | exact int_to (by omega) | exact sl_to (by omega)), (by first | rfl | exact int_to (by omega) | exact sl_to (by omega)), trivial⟩, .refl _⟩ ?_
  rintro _ _ _ ⟨k, hk, rfl, hs, hp⟩
  refine vc_weaken _ hs (vc_wk hp ?_)
  clear hs hp
  have hlt := part_lt q p k
  have hble := bitn_le q (p + k)
  have hps : part q p (k + 1) = 2 * part q p k + bitn q (p + k) := rfl
  refine vc_seq ?_
  refine vc_seq ?_
  refine vc_region ?_
  refine vl_det (det_move rfl) rfl ?_
  refine vl_det (det_move rfl) rfl ?_
  refine vl_det (det_move rfl) rfl ?_
  refine vl_det (det_add rfl rfl (w_i64 (by omega) (by omega))) rfl ?_
  refine vl_det (det_lss rfl rfl) rfl ?_
  refine vl_end [(0, _), (1, _), (2, _), (7, _), (8, _), (14, _)] ⟨rfl, rfl, rfl, rfl, rfl, rfl, trivial⟩ ?_
  refine then_next ?_
  refine vc_decideU rfl (fun h14 => ?_) (fun h14 => ?_)
  · skip
    refine vc_skip ?_
    refine then_next ?_
    refine vc_seq ?_
    refine vc_block ?_
    refine vc_seq ?_
    refine vc_region ?_
    refine vl_det (det_move rfl) rfl ?_
    refine vl_det (det_shl rfl rfl (by omega) (dbl_u64 hlt (by omega))) rfl ?_
    refine vl_det (det_assign rfl) rfl ?_
    refine vl_end [(0, _), (1, _), (2, _), (7, _), (8, _)] ⟨rfl, rfl, rfl, rfl, rfl, trivial⟩ ?_
    refine then_next ?_
    refine vc_seq ?_
    refine vc_region ?_
    refine vl_det (det_move rfl) rfl ?_
    refine vl_det (det_move rfl) rfl ?_
    refine vl_det (det_nilCheck rfl) rfl ?_
    refine vl_det (det_fieldAddr_ Try.underlying106 rfl (by kernel_rfl) rfl rfl) rfl ?_
    refine vl_det (det_load_blk (by kernel_rfl) rfl hs rfl) rfl ?_
    refine vl_det (det_lss (m := (p + k : Nat)) rfl rfl) rfl ?_
    refine vl_end [(0, _), (1, _), (2, _), (7, _), (8, _), (24, _)] ⟨rfl, rfl, rfl, rfl, rfl, rfl, trivial⟩ ?_
    refine then_next ?_
    refine vc_decideU rfl (fun h24 => ?_) (fun h24 => ?_)
    · skip
      refine vc_region ?_
      refine vl_det (det_move rfl) rfl ?_
      refine vl_det (det_move rfl) rfl ?_
      refine vl_det (det_move rfl) rfl ?_
      refine vl_call co147 rfl (bit_d q (p + k) (by omega) hq _ l hl hn hs hb) rfl ?_
      rintro _ _ ⟨rfl, hLL⟩
      obtain rfl := hLL.symm
      refine vl_det (det_or rfl rfl (or_bit hlt (by omega) hble)) rfl ?_
      refine vl_det (det_assign rfl) rfl ?_
      refine vl_end [(0, _), (1, _), (2, _), (7, _), (8, _)] ⟨rfl, rfl, rfl, rfl, rfl, trivial⟩ ?_
      refine in_normal ?_
      refine then_next ?_
      refine vc_region ?_
      refine vl_det (det_move rfl) rfl ?_
      refine vl_det (det_add rfl rfl (w_i64 (by omega) (by omega))) rfl ?_
      refine vl_det (det_assign rfl) rfl ?_
      refine vl_end [(0, _), (1, _), (2, _), (7, _), (8, _)] ⟨rfl, rfl, rfl, rfl, rfl, trivial⟩ ?_
      refine in_loop_ ⟨_, by omega, k + 1, by omega, rfl, ⟨(by first | rfl | exact int_to (by omega) | exact sl_to (by omega)), (by first | rfl | exact int_to (by omega) | exact sl_to (by omega)), (by first | rfl | exact int_to (by omega) | exact sl_to (by omega)), (by first | rfl | exact int_to (by omega) | exact sl_to (by omega)), (by first | rfl | exact int_to (by omega) | exact sl_to (by omega)), trivial⟩, .refl _⟩
    · skip
      have h0 := bitn_out q (i := p + k) (by omega)
      refine vc_skip ?_
      refine in_normal ?_
      refine then_next ?_
      refine vc_region ?_
      refine vl_det (det_move rfl) rfl ?_
      refine vl_det (det_add rfl rfl (w_i64 (by omega) (by omega))) rfl ?_
      refine vl_det (det_assign rfl) rfl ?_
      refine vl_end [(0, _), (1, _), (2, _), (7, _), (8, _)] ⟨rfl, rfl, rfl, rfl, rfl, trivial⟩ ?_
      refine in_loop_ ⟨_, by omega, k + 1, by omega, rfl, ⟨(by first | rfl | exact int_to (by omega) | exact sl_to (by omega)), (by first | rfl | exact int_to (by omega) | exact sl_to (by omega)), (by first | rfl | exact int_to (by omega) | exact sl_to (by omega)), (by first | rfl | exact int_to (by omega) | exact sl_to (by omega)), (by first | rfl | exact int_to (by omega) | exact sl_to (by omega)), trivial⟩, .refl _⟩
  · skip
    refine vc_exit ?_
    refine then_exit ?_
    refine loop_exit ?_
    refine in_eq ?_
    refine then_next ?_
    refine vc_seq ?_
    refine vc_region ?_
    refine vl_det (det_move rfl) rfl ?_
    refine vl_det (det_assign rfl) rfl ?_
    refine vl_end [(6, _)] ⟨rfl, trivial⟩ ?_
    refine then_next ?_
    refine vc_ret ?_
    refine ret1 rfl rfl ?_
    have hk' : k = m := by omega
    subst hk'
    exact ⟨rfl, rfl⟩
end Go.Proofs.Ytpamjobiohbibaa
namespace Go.Proofs.Ytpamjobiohbibaa
open Go.RowKit
set_option linter.unusedVariables false
set_option maxRecDepth 20000
set_option maxHeartbeats 1000000 in
/-- slices.Clone of bytes -/
theorem clone_c {B : Nat} {v : Value} {n : Nat} {l : List UInt8} (w : World) (h : Rd w B 1 v n (bv l)) (hn : n ≤ 1099511627776) :
    Calls Try.prog 115 #[v] w fun e w' => ∃ v', e = .returned v' ∧ w'.ownsRow w.heap.size 5 1 v' n (bv l) ∧ Below w.heap.size w w' := by
  have h' := h
  obtain ⟨A, c, rfl, hc, hl, hr⟩ := h
  have hnil := fun w => Lib.run_eql_slice_nil (P := Try.prog) w 41 5 A n c 0 0 Try.underlying41
  rcases A with _ | ad
  · have h0 : n = 0 := by
      rcases Nat.eq_zero_or_pos n with h0 | h0
      · exact h0
      · obtain ⟨ad, h, _⟩ := hr h0; cases h
    subst h0
    have hl0 : l = [] := List.eq_nil_of_length_eq_zero (by simpa using hl)
    subst hl0
    clear hr hl h'
    go_enter Try.func115, Try.ntmps115
    go_wp2
    go_ret
    exact ⟨_, rfl, World.ownsRow_nil _ _ _ _, Below.refl _ _⟩
  · have hcap : n ≤ c := hc
    have hown : (w.alloc (.cells #[] 5)).ownsRow w.heap.size 5 1 (.slice (some ⟨w.heap.size, 0, none⟩) 0 0) 0 [] := ⟨rfl, .inr ⟨_, 0, #[], rfl, Nat.le_refl _, heap_alloc_new w _, Nat.le_refl _, by unfold maxLen; omega, rfl, rfl⟩⟩
    have hr' : Rd (w.alloc (.cells #[] 5)) B 1 (.slice (some ad) n c) n (bv l) := by
      obtain ⟨A, c', hv, h2, h3, h4⟩ := h'
      refine ⟨A, c', hv, h2, h3, fun hn => ?_⟩
      obtain ⟨ad', e, hb, hcell⟩ := h4 hn
      refine ⟨ad', e, hb, fun j u hu => ?_⟩
      have := hcell j u hu
      rw [World.cell?_alloc_lt w _ _ (World.block_lt_of_cell? w _ this)]
      exact this
    have H1 := Lib.hid hown; have H2 := Lib.hid hr'
    clear hr hl h' hown hr'
    go_enter Try.func115, Try.ntmps115
    have hb0 : Below w.heap.size w (w.alloc (.cells #[] 5)) := (Below.refl _ _).alloc (Nat.le_refl _) _
    have hs0 : w.heap.size ≤ (w.alloc (.cells #[] 5)).heap.size := hb0.size
    have H3 := Lib.hid hb0; have H4 := Lib.hid hs0
    clear hb0 hs0
    go_wp2_with (at_builtin; refine wp_app slT41 rfl (.tmp 5) (.tmp 6) rfl rfl H1.out rfl H2.out (bv_one _) H3.out (Nat.le_refl _) H4.out (by omega) (by omega) ?_; intro v2 w2 hown2 hb2 hg2)
    go_ret
    have e0 : 0 + n = n := by omega
    rw [e0, List.nil_append] at hown2
    exact ⟨v2, rfl, hown2, hb2⟩
theorem clone_d {B : Nat} {w0 : World} {F : List Ch} {A : Option Addr} {n c : Nat} (l : List UInt8) (hb : Bor B w0 F 1 (.slice A n c) n (bv l)) (hn : n ≤ 1099511627776) :
    Does Try.prog B w0 115 [.slice A n c] F (fun r L => ∃ A' c', r = .slice A' n c' ∧ L = .own 5 1 A' n c' (bv l) :: F) :=
  Does.of_own fun w hw => clone_c w (hb w hw) hn
end Go.Proofs.Ytpamjobiohbibaa
namespace Go.Proofs.Ytpamjobiohbibaa
open Go.RowKit
set_option linter.unusedVariables false
set_option maxRecDepth 20000
variable {B : Nat} {w0 : World} {F : List Ch} {A : Option Addr} {n c g : Nat} {bt : TypeId} {f : Ch → List Ch}
/-- a writer's memory -/
abbrev Wr (g : Nat) (bt : TypeId) (A : Option Addr) (c : Nat) (q : List Bool) (F : List Ch) : List Ch := .blk g bt [.slice A (packed q).length c, .int .i64 q.length] :: .own 5 1 A (packed q).length c (bv (packed q)) :: F
end Go.Proofs.Ytpamjobiohbibaa
namespace Go.Proofs.Ytpamjobiohbibaa
open Go.RowKit
set_option linter.unusedVariables false
set_option maxRecDepth 20000
def u16v (l : List Nat) : List Value := l.map fun (n : Nat) => Value.int .u16 (n : Int)
@[simp] theorem u16v_append (l k : List Nat) : u16v (l ++ k) = u16v l ++ u16v k := by simp [u16v]
@[simp] theorem u16v_length (l : List Nat) : (u16v l).length = l.length := by simp [u16v]
theorem u16v_get {l : List Nat} {k : Nat} (h : k < l.length) : (u16v l)[k * 1]? = some (.int .u16 (l.getD k 0 : Nat)) := by
  simp [u16v, List.getD, List.getElem?_eq_getElem h]
/-- numbers rise below a bound -/
def risC (bound : Int) (ids : List Int) (i : Nat) : Prop := 0 ≤ ids.getD i 0 ∧ ids.getD i 0 < bound ∧ (0 < i → ids.getD (i - 1) 0 < ids.getD i 0)
def Ris (bound : Int) (ids : List Int) : Prop := ∀ i, i < ids.length → risC bound ids i
instance (bound : Int) (ids : List Int) (i : Nat) : Decidable (risC bound ids i) := inferInstanceAs (Decidable (_ ∧ _ ∧ _))
instance (bound : Int) (ids : List Int) : Decidable (Ris bound ids) := inferInstanceAs (Decidable (∀ i, i < ids.length → _))
/-- .. as_ numbers that are not below 0 -/
def RisN (bound : Nat) (xs : List Nat) : Prop := ∀ i, i < xs.length → xs.getD i 0 < bound ∧ (0 < i → xs.getD (i - 1) 0 < xs.getD i 0)
theorem RisN.ge {bound : Nat} {xs : List Nat} (h : RisN bound xs) : ∀ i, i < xs.length → i ≤ xs.getD i 0
  | 0, _ => Nat.zero_le _
  | i + 1, hi => by
    have h1 := RisN.ge h i (by omega)
    have h2 := (h (i + 1) hi).2 (by omega)
    rw [Nat.add_sub_cancel] at h2
    omega
theorem RisN.len {bound : Nat} {xs : List Nat} (h : RisN bound xs) : xs.length ≤ bound := by
  rcases Nat.eq_zero_or_pos xs.length with h0 | h0
  · omega
  · have h1 := h.ge (xs.length - 1) (by omega)
    have h2 := (h (xs.length - 1) (by omega)).1
    omega
/-- low bits, and how many -/
def wid (bound n : Nat) : Nat := Nat.log2 (bound / n)
theorem wid_le {bound n : Nat} (h : bound ≤ 20000) : wid bound n ≤ 14 := by
  unfold wid
  by_cases h0 : bound / n = 0
  · rw [h0]; decide
  · have : bound / n < 2 ^ 15 := by have := Nat.div_le_self bound n; omega
    have := (Nat.log2_lt h0).2 this
    omega
theorem pow_le14 {w : Nat} (h : w ≤ 14) : 2 ^ w ≤ 16384 := Nat.pow_le_pow_right (by omega) h
def unS (p was : Nat) : List Nat → List Bool
  | [] => []
  | x :: xs => un (x / p - was) ++ unS p (x / p) xs
def loS (p w : Nat) (xs : List Nat) : List Bool := xs.flatMap fun x => hi (x % p) w w
def efQ (p w : Nat) (xs : List Nat) : List Bool := loS p w xs ++ unS p 0 xs
def efB (bound : Nat) (xs : List Nat) : List UInt8 := encN xs.length ++ (if xs.length = 0 then [] else packed (efQ (2 ^ wid bound xs.length) (wid bound xs.length) xs))
def efW (bound : Int) (ids : List Int) : List UInt8 × Int := if bound < 0 ∨ 20000 < bound ∨ ¬ Ris bound ids then ([], 13) else (efB bound.toNat (ids.map Int.toNat), 0)
def lastP (p was : Nat) (xs : List Nat) : Nat := xs.foldl (fun _ x => x / p) was
end Go.Proofs.Ytpamjobiohbibaa
namespace Go.Proofs.Ytpamjobiohbibaa
open Go.RowKit
set_option linter.unusedVariables false
set_option maxRecDepth 20000
variable {B : Nat} {w0 : World} {F : List Ch} {A : Option Addr} {n c g : Nat} {bt : TypeId} {f : Ch → List Ch}
abbrev Wf (g : Nat) (bt : TypeId) (A : Option Addr) (c : Nat) (q : List Bool) (F : List Ch) : List Ch := .blk g bt [.slice A q.length c] :: .own 5 1 A q.length c (bv (ref q)) :: F
end Go.Proofs.Ytpamjobiohbibaa
namespace Go.Proofs.Ytpamjobiohbibaa
open Go.RowKit
set_option linter.unusedVariables false
set_option maxRecDepth 20000
variable {B : Nat} {w0 : World} {F : List Ch} {A A1 A2 : Option Addr} {n c c1 c2 g : Nat}
/-! width -/
def blN (x : Nat) : Nat := if x = 0 then 0 else Nat.log2 x + 1
def lenTab : List UInt8 := (List.range 256).map fun i => UInt8.ofNat (blN i)
theorem tab_get (y : Nat) (h : y < 256) : (lenTab.getD y 0).toNat = blN y := by
  have : ∀ i : Fin 256, (lenTab.getD i.val 0).toNat = blN i.val := by decide +kernel
  exact this ⟨y, h⟩
theorem blN_256 {x : Nat} (h : 256 ≤ x) : blN x = 8 + blN (x / 256) := by
  unfold blN
  rw [if_neg (by omega), if_neg (by omega)]
  have h0 : x / 256 ≠ 0 := by omega
  have e : Nat.log2 x = 8 + Nat.log2 (x / 256) := by
    apply Nat.le_antisymm
    · have h1 := Nat.lt_log2_self (n := x / 256)
      have h2 : x < 2 ^ (8 + Nat.log2 (x / 256) + 1) := by
        rw [show 8 + Nat.log2 (x / 256) + 1 = 8 + (Nat.log2 (x / 256) + 1) by omega, Nat.pow_add]
        omega
      have := (Nat.log2_lt (by omega)).2 h2
      omega
    · refine (Nat.le_log2 (by omega)).2 ?_
      have := Nat.log2_self_le h0
      rw [Nat.pow_add]
      omega
  omega
theorem det_at_const {C : Cx} {fr : Fr} {L : List Ch} {x y : Operand} {t ty : TypeId} {k : IntKind} {m : Int} {s s' : List UInt8} {i : Nat} (ht : C.P.underlying t = some .string) (h : ev fr x = some (.string ⟨s.toArray⟩)) (hs : s = s') (h2 : ev fr y = some (.int k m)) (hm : m = (i : Int)) (hi : i < s'.length) : Det C fr L (.index t x y) ty (.int .u8 ((s'.getD i 0).toNat : Int)) := by
  subst hs; exact det_at_str ht h h2 hm hi
theorem shr8 (y : Nat) : (y : Int).fdiv (2 ^ min (8 : Int).toNat IntKind.u64.bits) = ((y / 256 : Nat) : Int) := by
  have e : min (8 : Int).toNat IntKind.u64.bits = 8 := by decide
  rw [e, Int.fdiv_eq_ediv_of_nonneg _ (by decide)]
  rfl
theorem len64_d (x : Nat) (hx : x < 65536) : Does Try.prog B w0 109 [.int .u64 x] F (fun r L => r = .int .i64 (blN x) ∧ L = F) := by
  refine fn_walk Try.func109 25 rfl rfl rfl [(0, .int .u64 x)] ⟨⟨rfl, rfl⟩, trivial⟩ ?_
  refine vc_seq ?_
  refine vc_region ?_
  refine vl_det (det_assign rfl) rfl ?_
  refine vl_end [(0, _), (2, _)] ⟨rfl, rfl, trivial⟩ ?_
  refine then_next ?_
  refine vc_seq ?_
  refine vc_seq ?_
  refine vc_region ?_
  refine vl_det (det_move rfl) rfl ?_
  refine vl_det (det_geq rfl rfl) rfl ?_
  refine vl_end [(0, _), (2, _), (4, _)] ⟨rfl, rfl, rfl, trivial⟩ ?_
  refine then_next ?_
  refine vc_decideU rfl (fun h4 => ?_) (fun h4 => ?_)
  · skip
    exfalso; omega
  · skip
    refine vc_skip ?_
    refine then_next ?_
    refine vc_seq ?_
    refine vc_seq ?_
    refine vc_region ?_
    refine vl_det (det_move rfl) rfl ?_
    refine vl_det (det_geq rfl rfl) rfl ?_
    refine vl_end [(0, _), (2, _), (8, _)] ⟨rfl, rfl, rfl, trivial⟩ ?_
    refine then_next ?_
    refine vc_decideU rfl (fun h8 => ?_) (fun h8 => ?_)
    · skip
      exfalso; omega
    · skip
      refine vc_skip ?_
      refine then_next ?_
      refine vc_seqJ (fun zf zL => ∃ (y m : Nat), (y < 256 ∧ m ≤ 8 ∧ blN x = m + blN y) ∧ Sub zf [(0, .int .u64 y), (2, .int .i64 m)] ∧ Wk zL (F)) ?_ ?_
      · skip
        refine vc_seq ?_
        refine vc_region ?_
        refine vl_det (det_move rfl) rfl ?_
        refine vl_det (det_geq rfl rfl) rfl ?_
        refine vl_end [(0, _), (2, _), (14, _)] ⟨rfl, rfl, rfl, trivial⟩ ?_
        refine then_next ?_
        refine vc_decideU rfl (fun h14 => ?_) (fun h14 => ?_)
        · skip
          refine vc_seq ?_
          refine vc_region ?_
          refine vl_det (det_move rfl) rfl ?_
          refine vl_det (det_shr rfl rfl (by omega) (shr8 x)) rfl ?_
          refine vl_det (det_assign rfl) rfl ?_
          refine vl_end [(0, _), (2, _)] ⟨rfl, rfl, trivial⟩ ?_
          refine then_next ?_
          refine vc_region ?_
          refine vl_det (det_move rfl) rfl ?_
          refine vl_det (det_add rfl rfl (w_i64 (by omega) (by omega))) rfl ?_
          refine vl_det (det_assign rfl) rfl ?_
          refine vl_end [(0, _), (2, _)] ⟨rfl, rfl, trivial⟩ ?_
          exact in_join ⟨x / 256, 8, ⟨by omega, by omega, blN_256 (by omega)⟩, ⟨(by first | rfl | exact int_to (by omega) | exact sl_to (by omega)), (by first | rfl | exact int_to (by omega) | exact sl_to (by omega)), trivial⟩, .refl _⟩
        · skip
          refine vc_skip ?_
          exact in_join ⟨x, 0, ⟨by omega, by omega, by omega⟩, ⟨(by first | rfl | exact int_to (by omega) | exact sl_to (by omega)), (by first | rfl | exact int_to (by omega) | exact sl_to (by omega)), trivial⟩, .refl _⟩
      · rintro _ _ ⟨y, m, ⟨hy, hm, hbl⟩, hs, hp⟩
        refine vc_weaken _ hs (vc_wk hp ?_)
        clear hs hp
        refine vc_seq ?_
        refine vc_region ?_
        refine vl_det (det_move rfl) rfl ?_
        refine vl_det (det_move rfl) rfl ?_
        refine vl_det (det_conv Try.underlying33 Try.underlying5 rfl (w_u8 (by omega) (by omega))) rfl ?_
        refine vl_det (det_at_const (s' := lenTab) Try.underlying9 rfl (by decide +kernel) rfl rfl (by simp [lenTab]; omega)) rfl ?_
        rw [tab_get y hy]
        have hb9 : blN y ≤ 8 := by
          have : ∀ i : Fin 256, blN i.val ≤ 8 := by decide +kernel
          exact this ⟨y, hy⟩
        refine vl_det (det_conv Try.underlying5 Try.underlying3 rfl (w_i64 (by omega) (by omega))) rfl ?_
        refine vl_det (det_add rfl rfl (w_i64 (by omega) (by omega))) rfl ?_
        refine vl_det (det_assign rfl) rfl ?_
        refine vl_end [(2, _)] ⟨rfl, trivial⟩ ?_
        refine then_next ?_
        refine vc_ret ?_
        refine ret1 rfl rfl ?_
        exact ⟨congrArg (fun (z : Int) => Value.int .i64 z) (by omega), rfl⟩
theorem len_d (x : Nat) (hx : x < 65536) : Does Try.prog B w0 60 [.int .u64 x] F (fun r L => r = .int .i64 (blN x) ∧ L = F) := by
  refine fn_walk Try.func60 8 rfl rfl rfl [(0, .int .u64 x)] ⟨⟨rfl, rfl⟩, trivial⟩ ?_
  refine vc_seq ?_
  refine vc_region ?_
  refine vl_det (det_assign rfl) rfl ?_
  refine vl_end [(0, _)] ⟨rfl, trivial⟩ ?_
  refine then_next ?_
  refine vc_seq ?_
  refine vc_cond_f rfl ?_
  refine vc_skip ?_
  refine then_next ?_
  refine vc_seq ?_
  refine vc_region ?_
  refine vl_det (det_move rfl) rfl ?_
  refine vl_call co109 rfl (len64_d x hx) rfl ?_
  rintro _ _ ⟨rfl, hLL⟩
  obtain rfl := hLL.symm
  refine vl_det (det_assign rfl) rfl ?_
  refine vl_end [(2, _)] ⟨rfl, trivial⟩ ?_
  refine then_next ?_
  refine vc_ret ?_
  refine ret1 rfl rfl ?_
  exact ⟨rfl, rfl⟩
theorem width_d (b m : Nat) (hb : b ≤ 20000) (hm : 1 ≤ m) (hmb : m ≤ b) : Does Try.prog B w0 66 [.int .i64 b, .int .i64 m] F (fun r L => r = .int .i64 (wid b m) ∧ L = F) := by
  have hq : b / m ≤ 20000 := Nat.le_trans (Nat.div_le_self _ _) hb
  have hq1 : 1 ≤ b / m := (Nat.le_div_iff_mul_le (by omega)).2 (by omega)
  have hw : (wid b m : Int) = (blN (b / m) : Int) - 1 := by unfold wid blN; rw [if_neg (by omega)]; omega
  have hqq : IntKind.i64.wrap ((b : Int).tdiv (m : Int)) = ((b / m : Nat) : Int) := by
    have e : (b : Int).tdiv (m : Int) = ((b / m : Nat) : Int) := (Int.ofNat_tdiv b m).symm
    rw [e]
    generalize b / m = x at hq
    exact wrap_i64 _ (by omega) (by omega)
  generalize hz : b / m = q at *
  refine fn_walk Try.func66 11 rfl rfl rfl [(0, .int .i64 b), (1, .int .i64 m)] ⟨⟨rfl, rfl⟩, ⟨rfl, rfl⟩, trivial⟩ ?_
  refine vc_seq ?_
  refine vc_region ?_
  refine vl_det (det_assign rfl) rfl ?_
  refine vl_end [(0, _), (1, _)] ⟨rfl, rfl, trivial⟩ ?_
  refine then_next ?_
  refine vc_seq ?_
  refine vc_region ?_
  refine vl_det (det_move rfl) rfl ?_
  refine vl_det (det_move rfl) rfl ?_
  refine vl_det (det_quo rfl rfl (by omega) hqq) rfl ?_
  refine vl_det (det_conv Try.underlying3 Try.underlying94 rfl (w_u64 (by omega) (by omega))) rfl ?_
  refine vl_call co60 rfl (len_d q (by omega)) rfl ?_
  rintro _ _ ⟨rfl, hLL⟩
  obtain rfl := hLL.symm
  have hbl : blN q ≤ 17 := by
    unfold blN
    split
    · omega
    · have := (Nat.log2_lt (n := q) (k := 16) (by omega)).2 (by omega)
      omega
  refine vl_det (det_sub rfl rfl (w_i64 (by omega) (by omega))) rfl ?_
  refine vl_det (det_assign rfl) rfl ?_
  refine vl_end [(4, _)] ⟨rfl, trivial⟩ ?_
  refine then_next ?_
  refine vc_ret ?_
  refine ret1 rfl rfl ?_
  exact ⟨by rw [hw], rfl⟩
theorem rwidth_d (q : Nat) (hq1 : 1 ≤ q) (hq : q ≤ 20000) : Does Try.prog B w0 75 [.int .i64 q] F (fun r L => r = .tuple #[.int .i64 (Nat.log2 q), .int .i64 (2 ^ Nat.log2 q : Nat)] ∧ L = F) := by
  refine fn_walk Try.func75 16 rfl rfl rfl [(0, .int .i64 q)] ⟨⟨rfl, rfl⟩, trivial⟩ ?_
  refine vc_seq ?_
  refine vc_region ?_
  refine vl_det (det_assign rfl) rfl ?_
  refine vl_det (det_assign rfl) rfl ?_
  refine vl_end [(0, _)] ⟨rfl, trivial⟩ ?_
  refine then_next ?_
  refine vc_seq ?_
  refine vc_region ?_
  refine vl_det (det_assign rfl) rfl ?_
  refine vl_det (det_assign rfl) rfl ?_
  refine vl_end [(0, _), (4, _), (5, _)] ⟨rfl, rfl, rfl, trivial⟩ ?_
  refine then_next ?_
  refine vc_seq ?_
  refine vc_block ?_
  refine vc_loopJ (fun zf zL zm => ∃ (w p : Nat), (p = 2 ^ w ∧ p ≤ q ∧ w ≤ p) ∧ q - p = zm ∧ Sub zf [(0, .int .i64 q), (4, .int .i64 w), (5, .int .i64 p)] ∧ Wk zL (F)) _ ⟨0, 1, ⟨rfl, hq1, Nat.zero_le _⟩, rfl, ⟨(by first | rfl | exact int_to (by omega) | exact sl_to (by omega)), (by first | rfl | exact int_to (by omega) | exact sl_to (by omega)), (by first | rfl | exact int_to (by omega) | exact sl_to (by omega)), trivial⟩, .refl _⟩ ?_
  rintro _ _ _ ⟨w, p, ⟨hp, hpq, hwp⟩, rfl, hs, hp⟩
  refine vc_weaken _ hs (vc_wk hp ?_)
  clear hs hp
  have hpp : 1 ≤ p := by rw [hp]; exact Nat.one_le_two_pow
  refine vc_seq ?_
  refine vc_seq ?_
  refine vc_region ?_
  refine vl_det (det_move rfl) rfl ?_
  refine vl_det (det_mul rfl rfl (w_i64 (by omega) (by omega))) rfl ?_
  refine vl_det (det_move rfl) rfl ?_
  refine vl_det (det_leq rfl rfl) rfl ?_
  refine vl_end [(0, _), (4, _), (5, _), (9, _)] ⟨rfl, rfl, rfl, rfl, trivial⟩ ?_
  refine then_next ?_
  refine vc_decideU rfl (fun h9 => ?_) (fun h9 => ?_)
  · skip
    refine vc_skip ?_
    refine then_next ?_
    refine vc_block ?_
    refine vc_seq ?_
    refine vc_region ?_
    refine vl_det (det_move rfl) rfl ?_
    refine vl_det (det_mul rfl rfl (w_i64 (by omega) (by omega))) rfl ?_
    refine vl_det (det_assign rfl) rfl ?_
    refine vl_end [(0, _), (4, _), (5, _)] ⟨rfl, rfl, rfl, trivial⟩ ?_
    refine then_next ?_
    refine vc_region ?_
    refine vl_det (det_move rfl) rfl ?_
    refine vl_det (det_add rfl rfl (w_i64 (by omega) (by omega))) rfl ?_
    refine vl_det (det_assign rfl) rfl ?_
    refine vl_end [(0, _), (4, _), (5, _)] ⟨rfl, rfl, rfl, trivial⟩ ?_
    refine in_normal ?_
    refine in_loop_ ⟨_, by omega, w + 1, 2 * p, ⟨by rw [hp, Nat.pow_succ]; omega, by omega, by omega⟩, rfl, ⟨(by first | rfl | exact int_to (by omega) | exact sl_to (by omega)), (by first | rfl | exact int_to (by omega) | exact sl_to (by omega)), (by first | rfl | exact int_to (by omega) | exact sl_to (by omega)), trivial⟩, .refl _⟩
  · skip
    refine vc_exit ?_
    refine then_exit ?_
    refine loop_exit ?_
    refine in_eq ?_
    refine then_next ?_
    refine vc_seq ?_
    refine vc_region ?_
    refine vl_det (det_move rfl) rfl ?_
    refine vl_det (det_move rfl) rfl ?_
    refine vl_det (det_assign rfl) rfl ?_
    refine vl_det (det_assign rfl) rfl ?_
    refine vl_end [(2, _), (3, _)] ⟨rfl, rfl, trivial⟩ ?_
    refine then_next ?_
    refine vc_ret ?_
    refine ret2 rfl rfl rfl ?_
    have hl : Nat.log2 q = w := by
      apply Nat.le_antisymm
      · have := (Nat.log2_lt (n := q) (k := w + 1) (by omega)).2 (by rw [Nat.pow_succ, ← hp]; omega)
        omega
      · exact (Nat.le_log2 (by omega)).2 (by rw [← hp]; exact hpq)
    rw [hl, ← hp]
    exact ⟨rfl, rfl⟩
/-! parts -/
abbrev Pt (g : Nat) (bt : TypeId) (w p : Nat) (A1 : Option Addr) (c1 : Nat) (A2 : Option Addr) (c2 : Nat) (xs : List Nat) (F : List Ch) : List Ch := .blk g bt [.int .i64 w, .slice A1 xs.length c1, .slice A2 xs.length c2] :: .own 3 1 A1 xs.length c1 (natv (xs.map (· / p))) :: .own 47 1 A2 xs.length c2 (u16v (xs.map (· % p))) :: F
theorem shrP {x w p : Nat} (hp : p = 2 ^ w) (hw : w ≤ 14) : (x : Int).fdiv (2 ^ min (w : Int).toNat IntKind.i64.bits) = ((x / p : Nat) : Int) := by
  have e : min (w : Int).toNat IntKind.i64.bits = w := by
    rw [Int.toNat_natCast]; exact Nat.min_eq_left (show w ≤ 64 by omega)
  rw [e, hp, Int.fdiv_eq_ediv_of_nonneg _ (Int.le_of_lt (Int.pow_pos (by decide))), Int.natCast_ediv]
  congr 1
theorem shlP {x w p : Nat} (hp : p = 2 ^ w) (hw : w ≤ 14) (hx : x * p ≤ 4611686018427387904) : IntKind.i64.wrap ((x : Int) * 2 ^ min (w : Int).toNat IntKind.i64.bits) = ((x * p : Nat) : Int) := by
  have e : min (w : Int).toNat IntKind.i64.bits = w := by
    rw [Int.toNat_natCast]; exact Nat.min_eq_left (show w ≤ 64 by omega)
  have e2 : (x : Int) * 2 ^ w = ((x * p : Nat) : Int) := by rw [hp, Int.natCast_mul]; congr 1
  rw [e, e2]
  exact w_i64 (by omega) (by omega)
theorem andP {x w p : Nat} (hp : p = 2 ^ w) (hx : x < 9223372036854775808) (hpb : p ≤ 16384) : IntKind.i64.wrap ((BitVec.ofInt IntKind.i64.bits (x : Int) &&& BitVec.ofInt IntKind.i64.bits ((p - 1 : Nat) : Int)).toNat : Int) = ((x % p : Nat) : Int) := by
  have h := i64_and x (p - 1) hx (by omega)
  rw [hp, Nat.and_two_pow_sub_one_eq_mod, ← hp] at h
  exact h
theorem orP {x w p : Nat} (hp : p = 2 ^ w) (hx : x < 9223372036854775808) : IntKind.i64.wrap ((BitVec.ofInt IntKind.i64.bits ((x / p * p : Nat) : Int) ||| BitVec.ofInt IntKind.i64.bits ((x % p : Nat) : Int)).toNat : Int) = (x : Int) := by
  have h1 : x / p * p ≤ x := Nat.div_mul_le_self x p
  have h2 : x % p ≤ x := Nat.mod_le x p
  have h := i64_or (x / p * p) (x % p) (by omega) (by omega)
  have e : x / p * p ||| x % p = x := by
    have hlt : x % p < 2 ^ w := by rw [← hp]; exact Nat.mod_lt _ (by rw [hp]; exact Nat.two_pow_pos w)
    rw [hp] at hlt ⊢
    rw [Nat.mul_comm, ← Nat.two_pow_add_eq_or_of_lt hlt]
    exact Nat.div_add_mod x (2 ^ w)
  rw [e] at h
  exact h
theorem padd_d (bt : TypeId) {w p : Nat} (hp : p = 2 ^ w) (hw : w ≤ 14) (xs : List Nat) (x : Nat) (hx : x ≤ 1000000) (hl : xs.length ≤ 1000000) :
    Does Try.prog B w0 67 [.pointer (some ⟨g, 0, none⟩), .int .i64 x] (Pt g bt w p A1 c1 A2 c2 xs F) (fun r L => r = .tuple #[] ∧ ∃ A1' c1' A2' c2', L = Pt g bt w p A1' c1' A2' c2' (xs ++ [x]) F) := by
  have hpb : p ≤ 16384 := by rw [hp]; exact pow_le14 hw
  have hp0 : 1 ≤ p := by rw [hp]; exact Nat.one_le_two_pow
  have hmod : x % p < p := Nat.mod_lt _ hp0
  refine fn_walk Try.func67 37 rfl rfl rfl [(0, .pointer (some ⟨g, 0, none⟩)), (1, .int .i64 x)] ⟨⟨rfl, rfl⟩, ⟨rfl, rfl⟩, trivial⟩ ?_
  refine vc_seqJ (fun zf zL => ∃ (A3 : Option Addr) (c3 : Nat), Sub zf [(0, .pointer (some ⟨g, 0, none⟩)), (1, .int .i64 x)] ∧ Wk zL (.blk g bt [.int .i64 w, .slice A3 (xs.length + 1) c3, .slice A2 xs.length c2] :: .own 3 1 A3 (xs.length + 1) c3 (natv ((xs ++ [x]).map (· / p))) :: .own 47 1 A2 xs.length c2 (u16v (xs.map (· % p))) :: F)) ?_ ?_
  · skip
    refine vh_region (S := .own 47 1 A2 xs.length c2 (u16v (xs.map (· % p))) :: F) (by kernel_rfl) (by repeat (first | exact List.Sublist.refl _ | exact List.nil_sublist _ | exact List.sublist_append_right _ _ | apply List.Sublist.cons_cons | apply List.Sublist.cons)) ?_
    refine vh_take 0 rfl (by kernel_rfl) (by kernel_rfl) (by kernel_rfl) (det_move rfl) rfl ?_
    refine vh_take 1 rfl (by kernel_rfl) (by kernel_rfl) (by kernel_rfl) (det_move rfl) rfl ?_
    refine vh_take 2 rfl (by kernel_rfl) (by kernel_rfl) (by kernel_rfl) (det_nilCheck rfl) rfl ?_
    refine vh_take 3 rfl (by kernel_rfl) (by kernel_rfl) (by kernel_rfl) (det_fieldAddr_ Try.underlying103 rfl (by kernel_rfl) rfl rfl) rfl ?_
    refine vh_take 5 rfl (by kernel_rfl) (by kernel_rfl) (by kernel_rfl) (det_move rfl) rfl ?_
    refine vh_take 6 rfl (by kernel_rfl) (by kernel_rfl) (by kernel_rfl) (det_move rfl) rfl ?_
    refine vh_take 7 rfl (by kernel_rfl) (by kernel_rfl) (by kernel_rfl) (det_nilCheck rfl) rfl ?_
    refine vh_take 8 rfl (by kernel_rfl) (by kernel_rfl) (by kernel_rfl) (det_fieldAddr_ Try.underlying103 rfl (by kernel_rfl) rfl rfl) rfl ?_
    refine vh_two 4 9 (by kernel_rfl) ?_ ?_
    · skip
      refine st_det rfl .no (det_load_blk (by kernel_rfl) rfl (by repeat (first | exact .hd | apply Sel.tl)) rfl) rfl (by repeat (first | exact List.Sublist.refl _ | exact List.nil_sublist _ | exact List.sublist_append_right _ _ | apply List.Sublist.cons_cons | apply List.Sublist.cons)) ?_
      refine vh_one 9 (by kernel_rfl) ?_
      refine st_det rfl .no (det_load_blk (by kernel_rfl) rfl (by repeat (first | exact .hd | apply Sel.tl)) rfl) rfl (by repeat (first | exact List.Sublist.refl _ | exact List.nil_sublist _ | exact List.sublist_append_right _ _ | apply List.Sublist.cons_cons | apply List.Sublist.cons)) ?_
      refine vh_take 10 rfl (by kernel_rfl) (by kernel_rfl) (by kernel_rfl) (det_shr rfl rfl (by omega) (shrP hp hw)) rfl ?_
      refine vh_one 11 (by kernel_rfl) ?_
      refine st_eff rfl .no (eff_build_lit slT37 [_] rfl rfl (by first | exact bv_one _ | exact strs_one _ | exact ints_one _ _ | (simp; done) | (simp [Value.oneCell']; done) | assumption) (by omega) (by omega)) rfl (by rintro _ _ ⟨A15, rfl, rfl⟩; exact (by repeat (first | exact List.Sublist.refl _ | exact List.nil_sublist _ | exact List.sublist_append_right _ _ | apply List.Sublist.cons_cons | apply List.Sublist.cons))) ?_
      rintro _ _ ⟨A15, rfl, rfl⟩
      refine vh_one 12 (by kernel_rfl) ?_
      refine st_eff rfl .no (eff_app slT37 rfl (by repeat (first | exact .hd | apply Sel.tl)) rfl (by first | (exact Bor.own (by repeat (first | exact List.Mem.head _ | apply List.Mem.tail))) | (repeat (first | assumption | apply Bor.cons))) (by first | exact bv_one _ | exact strs_one _ | exact ints_one _ _ | (simp; done) | (simp [Value.oneCell']; done) | assumption) (by omega) (by omega)) rfl (by rintro _ _ ⟨A16, c16, rfl, rfl⟩; exact (by repeat (first | exact List.Sublist.refl _ | exact List.nil_sublist _ | exact List.sublist_append_right _ _ | apply List.Sublist.cons_cons | apply List.Sublist.cons))) ?_
      rintro _ _ ⟨A16, c16, rfl, rfl⟩
      refine vh_take 13 rfl (by kernel_rfl) (by kernel_rfl) (by kernel_rfl) (det_nilCheck rfl) rfl ?_
      refine vh_take 14 rfl (by kernel_rfl) (by kernel_rfl) (by kernel_rfl) (det_fieldAddr_ Try.underlying103 rfl (by kernel_rfl) rfl rfl) rfl ?_
      refine vh_one 15 (by kernel_rfl) ?_
      refine st_eff0 rfl .no (eff_store (by kernel_rfl) rfl rfl rfl (by repeat (first | exact .hd | apply Sel.tl)) (by simp)) (by rintro _ _ rfl; exact (by repeat (first | exact List.Sublist.refl _ | exact List.nil_sublist _ | exact List.sublist_append_right _ _ | apply List.Sublist.cons_cons | apply List.Sublist.cons))) ?_
      rintro _ _ rfl
      refine vh_done [(0, _), (1, _)] ⟨rfl, rfl, trivial⟩ (by kernel_rfl) ?_
      exact in_join ⟨A16, c16, ⟨(by first | rfl | exact int_to (by omega) | exact sl_to (by omega)), (by first | rfl | exact int_to (by omega) | exact sl_to (by omega)), trivial⟩, .skip (wk_blk rfl (wk_own rfl (by simp [natv]) (.refl _)))⟩
    · skip
      refine st_det rfl .no (det_load_blk (by kernel_rfl) rfl (by repeat (first | exact .hd | apply Sel.tl)) rfl) rfl (by repeat (first | exact List.Sublist.refl _ | exact List.nil_sublist _ | exact List.sublist_append_right _ _ | apply List.Sublist.cons_cons | apply List.Sublist.cons)) ?_
      refine vh_take 10 rfl (by kernel_rfl) (by kernel_rfl) (by kernel_rfl) (det_shr rfl rfl (by omega) (shrP hp hw)) rfl ?_
      refine vh_two 4 11 (by kernel_rfl) ?_ ?_
      · skip
        refine st_det rfl .no (det_load_blk (by kernel_rfl) rfl (by repeat (first | exact .hd | apply Sel.tl)) rfl) rfl (by repeat (first | exact List.Sublist.refl _ | exact List.nil_sublist _ | exact List.sublist_append_right _ _ | apply List.Sublist.cons_cons | apply List.Sublist.cons)) ?_
        refine vh_one 11 (by kernel_rfl) ?_
        refine st_eff rfl .no (eff_build_lit slT37 [_] rfl rfl (by first | exact bv_one _ | exact strs_one _ | exact ints_one _ _ | (simp; done) | (simp [Value.oneCell']; done) | assumption) (by omega) (by omega)) rfl (by rintro _ _ ⟨A15, rfl, rfl⟩; exact (by repeat (first | exact List.Sublist.refl _ | exact List.nil_sublist _ | exact List.sublist_append_right _ _ | apply List.Sublist.cons_cons | apply List.Sublist.cons))) ?_
        rintro _ _ ⟨A15, rfl, rfl⟩
        refine vh_one 12 (by kernel_rfl) ?_
        refine st_eff rfl .no (eff_app slT37 rfl (by repeat (first | exact .hd | apply Sel.tl)) rfl (by first | (exact Bor.own (by repeat (first | exact List.Mem.head _ | apply List.Mem.tail))) | (repeat (first | assumption | apply Bor.cons))) (by first | exact bv_one _ | exact strs_one _ | exact ints_one _ _ | (simp; done) | (simp [Value.oneCell']; done) | assumption) (by omega) (by omega)) rfl (by rintro _ _ ⟨A16, c16, rfl, rfl⟩; exact (by repeat (first | exact List.Sublist.refl _ | exact List.nil_sublist _ | exact List.sublist_append_right _ _ | apply List.Sublist.cons_cons | apply List.Sublist.cons))) ?_
        rintro _ _ ⟨A16, c16, rfl, rfl⟩
        refine vh_take 13 rfl (by kernel_rfl) (by kernel_rfl) (by kernel_rfl) (det_nilCheck rfl) rfl ?_
        refine vh_take 14 rfl (by kernel_rfl) (by kernel_rfl) (by kernel_rfl) (det_fieldAddr_ Try.underlying103 rfl (by kernel_rfl) rfl rfl) rfl ?_
        refine vh_one 15 (by kernel_rfl) ?_
        refine st_eff0 rfl .no (eff_store (by kernel_rfl) rfl rfl rfl (by repeat (first | exact .hd | apply Sel.tl)) (by simp)) (by rintro _ _ rfl; exact (by repeat (first | exact List.Sublist.refl _ | exact List.nil_sublist _ | exact List.sublist_append_right _ _ | apply List.Sublist.cons_cons | apply List.Sublist.cons))) ?_
        rintro _ _ rfl
        refine vh_done [(0, _), (1, _)] ⟨rfl, rfl, trivial⟩ (by kernel_rfl) ?_
        exact in_join ⟨A16, c16, ⟨(by first | rfl | exact int_to (by omega) | exact sl_to (by omega)), (by first | rfl | exact int_to (by omega) | exact sl_to (by omega)), trivial⟩, .skip (wk_blk rfl (wk_own rfl (by simp [natv]) (.refl _)))⟩
      · skip
        refine st_eff rfl .no (eff_build_lit slT37 [_] rfl rfl (by first | exact bv_one _ | exact strs_one _ | exact ints_one _ _ | (simp; done) | (simp [Value.oneCell']; done) | assumption) (by omega) (by omega)) rfl (by rintro _ _ ⟨A15, rfl, rfl⟩; exact (by repeat (first | exact List.Sublist.refl _ | exact List.nil_sublist _ | exact List.sublist_append_right _ _ | apply List.Sublist.cons_cons | apply List.Sublist.cons))) ?_
        rintro _ _ ⟨A15, rfl, rfl⟩
        refine vh_one 4 (by kernel_rfl) ?_
        refine st_det rfl .no (det_load_blk (by kernel_rfl) rfl (by repeat (first | exact .hd | apply Sel.tl)) rfl) rfl (by repeat (first | exact List.Sublist.refl _ | exact List.nil_sublist _ | exact List.sublist_append_right _ _ | apply List.Sublist.cons_cons | apply List.Sublist.cons)) ?_
        refine vh_one 12 (by kernel_rfl) ?_
        refine st_eff rfl .no (eff_app slT37 rfl (by repeat (first | exact .hd | apply Sel.tl)) rfl (by first | (exact Bor.own (by repeat (first | exact List.Mem.head _ | apply List.Mem.tail))) | (repeat (first | assumption | apply Bor.cons))) (by first | exact bv_one _ | exact strs_one _ | exact ints_one _ _ | (simp; done) | (simp [Value.oneCell']; done) | assumption) (by omega) (by omega)) rfl (by rintro _ _ ⟨A16, c16, rfl, rfl⟩; exact (by repeat (first | exact List.Sublist.refl _ | exact List.nil_sublist _ | exact List.sublist_append_right _ _ | apply List.Sublist.cons_cons | apply List.Sublist.cons))) ?_
        rintro _ _ ⟨A16, c16, rfl, rfl⟩
        refine vh_take 13 rfl (by kernel_rfl) (by kernel_rfl) (by kernel_rfl) (det_nilCheck rfl) rfl ?_
        refine vh_take 14 rfl (by kernel_rfl) (by kernel_rfl) (by kernel_rfl) (det_fieldAddr_ Try.underlying103 rfl (by kernel_rfl) rfl rfl) rfl ?_
        refine vh_one 15 (by kernel_rfl) ?_
        refine st_eff0 rfl .no (eff_store (by kernel_rfl) rfl rfl rfl (by repeat (first | exact .hd | apply Sel.tl)) (by simp)) (by rintro _ _ rfl; exact (by repeat (first | exact List.Sublist.refl _ | exact List.nil_sublist _ | exact List.sublist_append_right _ _ | apply List.Sublist.cons_cons | apply List.Sublist.cons))) ?_
        rintro _ _ rfl
        refine vh_done [(0, _), (1, _)] ⟨rfl, rfl, trivial⟩ (by kernel_rfl) ?_
        exact in_join ⟨A16, c16, ⟨(by first | rfl | exact int_to (by omega) | exact sl_to (by omega)), (by first | rfl | exact int_to (by omega) | exact sl_to (by omega)), trivial⟩, .skip (wk_blk rfl (wk_own rfl (by simp [natv]) (.refl _)))⟩
  · rintro _ _ ⟨A3, c3, hs, hp⟩
    refine vc_weaken _ hs (vc_wk hp ?_)
    clear hs hp
    refine vh_region (S := .own 3 1 A3 (xs.length + 1) c3 (natv ((xs ++ [x]).map (· / p))) :: F) (by kernel_rfl) (by repeat (first | exact List.Sublist.refl _ | exact List.nil_sublist _ | exact List.sublist_append_right _ _ | apply List.Sublist.cons_cons | apply List.Sublist.cons)) ?_
    refine vh_take 0 rfl (by kernel_rfl) (by kernel_rfl) (by kernel_rfl) (det_move rfl) rfl ?_
    refine vh_take 1 rfl (by kernel_rfl) (by kernel_rfl) (by kernel_rfl) (det_move rfl) rfl ?_
    refine vh_take 2 rfl (by kernel_rfl) (by kernel_rfl) (by kernel_rfl) (det_nilCheck rfl) rfl ?_
    refine vh_take 3 rfl (by kernel_rfl) (by kernel_rfl) (by kernel_rfl) (det_fieldAddr_ Try.underlying103 rfl (by kernel_rfl) rfl rfl) rfl ?_
    refine vh_take 5 rfl (by kernel_rfl) (by kernel_rfl) (by kernel_rfl) (det_move rfl) rfl ?_
    refine vh_take 6 rfl (by kernel_rfl) (by kernel_rfl) (by kernel_rfl) (det_move rfl) rfl ?_
    refine vh_take 7 rfl (by kernel_rfl) (by kernel_rfl) (by kernel_rfl) (det_nilCheck rfl) rfl ?_
    refine vh_take 8 rfl (by kernel_rfl) (by kernel_rfl) (by kernel_rfl) (det_fieldAddr_ Try.underlying103 rfl (by kernel_rfl) rfl rfl) rfl ?_
    refine vh_two 4 9 (by kernel_rfl) ?_ ?_
    · skip
      refine st_det rfl .no (det_load_blk (by kernel_rfl) rfl (by repeat (first | exact .hd | apply Sel.tl)) rfl) rfl (by repeat (first | exact List.Sublist.refl _ | exact List.nil_sublist _ | exact List.sublist_append_right _ _ | apply List.Sublist.cons_cons | apply List.Sublist.cons)) ?_
      refine vh_one 9 (by kernel_rfl) ?_
      refine st_det rfl .no (det_load_blk (by kernel_rfl) rfl (by repeat (first | exact .hd | apply Sel.tl)) rfl) rfl (by repeat (first | exact List.Sublist.refl _ | exact List.nil_sublist _ | exact List.sublist_append_right _ _ | apply List.Sublist.cons_cons | apply List.Sublist.cons)) ?_
      refine vh_take 10 rfl (by kernel_rfl) (by kernel_rfl) (by kernel_rfl) (det_shl rfl rfl (by omega) ((shlP (x := 1) hp hw (by omega)).trans (by rw [Nat.one_mul]))) rfl ?_
      refine vh_take 11 rfl (by kernel_rfl) (by kernel_rfl) (by kernel_rfl) (det_sub rfl rfl (r := ((p - 1 : Nat) : Int)) ((w_i64 (by omega) (by omega)).trans (by omega))) rfl ?_
      refine vh_take 12 rfl (by kernel_rfl) (by kernel_rfl) (by kernel_rfl) (det_and rfl rfl (andP hp (by omega) hpb)) rfl ?_
      refine vh_take 13 rfl (by kernel_rfl) (by kernel_rfl) (by kernel_rfl) (det_conv Try.underlying3 Try.underlying47 rfl (w_u16 (by omega) (by omega))) rfl ?_
      refine vh_one 14 (by kernel_rfl) ?_
      refine st_eff rfl .no (eff_build_lit slT101 [_] rfl rfl (by first | exact bv_one _ | exact strs_one _ | exact ints_one _ _ | (simp; done) | (simp [Value.oneCell']; done) | assumption) (by omega) (by omega)) rfl (by rintro _ _ ⟨A33, rfl, rfl⟩; exact (by repeat (first | exact List.Sublist.refl _ | exact List.nil_sublist _ | exact List.sublist_append_right _ _ | apply List.Sublist.cons_cons | apply List.Sublist.cons))) ?_
      rintro _ _ ⟨A33, rfl, rfl⟩
      refine vh_one 15 (by kernel_rfl) ?_
      refine st_eff rfl .no (eff_app slT101 rfl (by repeat (first | exact .hd | apply Sel.tl)) rfl (by first | (exact Bor.own (by repeat (first | exact List.Mem.head _ | apply List.Mem.tail))) | (repeat (first | assumption | apply Bor.cons))) (by first | exact bv_one _ | exact strs_one _ | exact ints_one _ _ | (simp; done) | (simp [Value.oneCell']; done) | assumption) (by omega) (by omega)) rfl (by rintro _ _ ⟨A34, c34, rfl, rfl⟩; exact (by repeat (first | exact List.Sublist.refl _ | exact List.nil_sublist _ | exact List.sublist_append_right _ _ | apply List.Sublist.cons_cons | apply List.Sublist.cons))) ?_
      rintro _ _ ⟨A34, c34, rfl, rfl⟩
      refine vh_take 16 rfl (by kernel_rfl) (by kernel_rfl) (by kernel_rfl) (det_nilCheck rfl) rfl ?_
      refine vh_take 17 rfl (by kernel_rfl) (by kernel_rfl) (by kernel_rfl) (det_fieldAddr_ Try.underlying103 rfl (by kernel_rfl) rfl rfl) rfl ?_
      refine vh_one 18 (by kernel_rfl) ?_
      refine st_eff0 rfl .no (eff_store (by kernel_rfl) rfl rfl rfl (by repeat (first | exact .hd | apply Sel.tl)) (by simp)) (by rintro _ _ rfl; exact (by repeat (first | exact List.Sublist.refl _ | exact List.nil_sublist _ | exact List.sublist_append_right _ _ | apply List.Sublist.cons_cons | apply List.Sublist.cons))) ?_
      rintro _ _ rfl
      refine vh_done [] trivial (by kernel_rfl) ?_
      refine ret_n ?_
      have el : xs.length + 1 = (xs ++ [x]).length := by simp
      rw [el]
      refine ret_wk (L' := Pt g bt w p A3 c3 A34 c34 (xs ++ [x]) F) (.skip (.cons (.cons (wk_own rfl (by simp [u16v]) (.refl _))))) ?_
      refine ret0 rfl ?_
      exact ⟨rfl, A3, c3, A34, c34, rfl⟩
    · skip
      refine st_det rfl .no (det_load_blk (by kernel_rfl) rfl (by repeat (first | exact .hd | apply Sel.tl)) rfl) rfl (by repeat (first | exact List.Sublist.refl _ | exact List.nil_sublist _ | exact List.sublist_append_right _ _ | apply List.Sublist.cons_cons | apply List.Sublist.cons)) ?_
      refine vh_take 10 rfl (by kernel_rfl) (by kernel_rfl) (by kernel_rfl) (det_shl rfl rfl (by omega) ((shlP (x := 1) hp hw (by omega)).trans (by rw [Nat.one_mul]))) rfl ?_
      refine vh_take 11 rfl (by kernel_rfl) (by kernel_rfl) (by kernel_rfl) (det_sub rfl rfl (r := ((p - 1 : Nat) : Int)) ((w_i64 (by omega) (by omega)).trans (by omega))) rfl ?_
      refine vh_take 12 rfl (by kernel_rfl) (by kernel_rfl) (by kernel_rfl) (det_and rfl rfl (andP hp (by omega) hpb)) rfl ?_
      refine vh_take 13 rfl (by kernel_rfl) (by kernel_rfl) (by kernel_rfl) (det_conv Try.underlying3 Try.underlying47 rfl (w_u16 (by omega) (by omega))) rfl ?_
      refine vh_two 4 14 (by kernel_rfl) ?_ ?_
      · skip
        refine st_det rfl .no (det_load_blk (by kernel_rfl) rfl (by repeat (first | exact .hd | apply Sel.tl)) rfl) rfl (by repeat (first | exact List.Sublist.refl _ | exact List.nil_sublist _ | exact List.sublist_append_right _ _ | apply List.Sublist.cons_cons | apply List.Sublist.cons)) ?_
        refine vh_one 14 (by kernel_rfl) ?_
        refine st_eff rfl .no (eff_build_lit slT101 [_] rfl rfl (by first | exact bv_one _ | exact strs_one _ | exact ints_one _ _ | (simp; done) | (simp [Value.oneCell']; done) | assumption) (by omega) (by omega)) rfl (by rintro _ _ ⟨A33, rfl, rfl⟩; exact (by repeat (first | exact List.Sublist.refl _ | exact List.nil_sublist _ | exact List.sublist_append_right _ _ | apply List.Sublist.cons_cons | apply List.Sublist.cons))) ?_
        rintro _ _ ⟨A33, rfl, rfl⟩
        refine vh_one 15 (by kernel_rfl) ?_
        refine st_eff rfl .no (eff_app slT101 rfl (by repeat (first | exact .hd | apply Sel.tl)) rfl (by first | (exact Bor.own (by repeat (first | exact List.Mem.head _ | apply List.Mem.tail))) | (repeat (first | assumption | apply Bor.cons))) (by first | exact bv_one _ | exact strs_one _ | exact ints_one _ _ | (simp; done) | (simp [Value.oneCell']; done) | assumption) (by omega) (by omega)) rfl (by rintro _ _ ⟨A34, c34, rfl, rfl⟩; exact (by repeat (first | exact List.Sublist.refl _ | exact List.nil_sublist _ | exact List.sublist_append_right _ _ | apply List.Sublist.cons_cons | apply List.Sublist.cons))) ?_
        rintro _ _ ⟨A34, c34, rfl, rfl⟩
        refine vh_take 16 rfl (by kernel_rfl) (by kernel_rfl) (by kernel_rfl) (det_nilCheck rfl) rfl ?_
        refine vh_take 17 rfl (by kernel_rfl) (by kernel_rfl) (by kernel_rfl) (det_fieldAddr_ Try.underlying103 rfl (by kernel_rfl) rfl rfl) rfl ?_
        refine vh_one 18 (by kernel_rfl) ?_
        refine st_eff0 rfl .no (eff_store (by kernel_rfl) rfl rfl rfl (by repeat (first | exact .hd | apply Sel.tl)) (by simp)) (by rintro _ _ rfl; exact (by repeat (first | exact List.Sublist.refl _ | exact List.nil_sublist _ | exact List.sublist_append_right _ _ | apply List.Sublist.cons_cons | apply List.Sublist.cons))) ?_
        rintro _ _ rfl
        refine vh_done [] trivial (by kernel_rfl) ?_
        refine ret_n ?_
        have el : xs.length + 1 = (xs ++ [x]).length := by simp
        rw [el]
        refine ret_wk (L' := Pt g bt w p A3 c3 A34 c34 (xs ++ [x]) F) (.skip (.cons (.cons (wk_own rfl (by simp [u16v]) (.refl _))))) ?_
        refine ret0 rfl ?_
        exact ⟨rfl, A3, c3, A34, c34, rfl⟩
      · skip
        refine st_eff rfl .no (eff_build_lit slT101 [_] rfl rfl (by first | exact bv_one _ | exact strs_one _ | exact ints_one _ _ | (simp; done) | (simp [Value.oneCell']; done) | assumption) (by omega) (by omega)) rfl (by rintro _ _ ⟨A33, rfl, rfl⟩; exact (by repeat (first | exact List.Sublist.refl _ | exact List.nil_sublist _ | exact List.sublist_append_right _ _ | apply List.Sublist.cons_cons | apply List.Sublist.cons))) ?_
        rintro _ _ ⟨A33, rfl, rfl⟩
        refine vh_one 4 (by kernel_rfl) ?_
        refine st_det rfl .no (det_load_blk (by kernel_rfl) rfl (by repeat (first | exact .hd | apply Sel.tl)) rfl) rfl (by repeat (first | exact List.Sublist.refl _ | exact List.nil_sublist _ | exact List.sublist_append_right _ _ | apply List.Sublist.cons_cons | apply List.Sublist.cons)) ?_
        refine vh_one 15 (by kernel_rfl) ?_
        refine st_eff rfl .no (eff_app slT101 rfl (by repeat (first | exact .hd | apply Sel.tl)) rfl (by first | (exact Bor.own (by repeat (first | exact List.Mem.head _ | apply List.Mem.tail))) | (repeat (first | assumption | apply Bor.cons))) (by first | exact bv_one _ | exact strs_one _ | exact ints_one _ _ | (simp; done) | (simp [Value.oneCell']; done) | assumption) (by omega) (by omega)) rfl (by rintro _ _ ⟨A34, c34, rfl, rfl⟩; exact (by repeat (first | exact List.Sublist.refl _ | exact List.nil_sublist _ | exact List.sublist_append_right _ _ | apply List.Sublist.cons_cons | apply List.Sublist.cons))) ?_
        rintro _ _ ⟨A34, c34, rfl, rfl⟩
        refine vh_take 16 rfl (by kernel_rfl) (by kernel_rfl) (by kernel_rfl) (det_nilCheck rfl) rfl ?_
        refine vh_take 17 rfl (by kernel_rfl) (by kernel_rfl) (by kernel_rfl) (det_fieldAddr_ Try.underlying103 rfl (by kernel_rfl) rfl rfl) rfl ?_
        refine vh_one 18 (by kernel_rfl) ?_
        refine st_eff0 rfl .no (eff_store (by kernel_rfl) rfl rfl rfl (by repeat (first | exact .hd | apply Sel.tl)) (by simp)) (by rintro _ _ rfl; exact (by repeat (first | exact List.Sublist.refl _ | exact List.nil_sublist _ | exact List.sublist_append_right _ _ | apply List.Sublist.cons_cons | apply List.Sublist.cons))) ?_
        rintro _ _ rfl
        refine vh_done [] trivial (by kernel_rfl) ?_
        refine ret_n ?_
        have el : xs.length + 1 = (xs ++ [x]).length := by simp
        rw [el]
        refine ret_wk (L' := Pt g bt w p A3 c3 A34 c34 (xs ++ [x]) F) (.skip (.cons (.cons (wk_own rfl (by simp [u16v]) (.refl _))))) ?_
        refine ret0 rfl ?_
        exact ⟨rfl, A3, c3, A34, c34, rfl⟩
theorem num_d' (bt : TypeId) {w p : Nat} (hp : p = 2 ^ w) (hw : w ≤ 14) (xs : List Nat) (i : Nat) (hi : i < xs.length) (hx : xs.getD i 0 ≤ 1000000) :
    Does Try.prog B w0 124 [.pointer (some ⟨g, 0, none⟩), .int .i64 i] (Pt g bt w p A1 c1 A2 c2 xs F) (fun r L => r = .int .i64 (xs.getD i 0 : Nat) ∧ L = Pt g bt w p A1 c1 A2 c2 xs F) := by
  have hH : (natv (xs.map (· / p)))[i * 1]? = some (.int .i64 (xs.getD i 0 / p : Nat)) := by simp [natv, List.getD, List.getElem?_eq_getElem hi]
  have hL : (u16v (xs.map (· % p)))[i * 1]? = some (.int .u16 (xs.getD i 0 % p : Nat)) := by simp [u16v, List.getD, List.getElem?_eq_getElem hi]
  have hpb : p ≤ 16384 := by rw [hp]; exact pow_le14 hw
  have hp0 : 1 ≤ p := by rw [hp]; exact Nat.one_le_two_pow
  have hmod : xs.getD i 0 % p < p := Nat.mod_lt _ hp0
  have hdm := Nat.div_mul_le_self (xs.getD i 0) p
  refine fn_walk Try.func124 26 rfl rfl rfl [(0, .pointer (some ⟨g, 0, none⟩)), (1, .int .i64 i)] ⟨⟨rfl, rfl⟩, ⟨rfl, rfl⟩, trivial⟩ ?_
  refine vc_seq ?_
  refine vc_region ?_
  refine vl_det (det_assign rfl) rfl ?_
  refine vl_end [(0, _), (1, _)] ⟨rfl, rfl, trivial⟩ ?_
  refine then_next ?_
  refine vc_seq ?_
  refine vq_region (by kernel_rfl) (by kernel_rfl) ?_
  refine vq_det (det_move rfl) rfl ?_
  refine vq_det (det_nilCheck rfl) rfl ?_
  refine vq_det (det_fieldAddr_ Try.underlying103 rfl (by kernel_rfl) rfl rfl) rfl ?_
  refine vq_det (det_load_blk (by kernel_rfl) rfl (by repeat (first | exact .hd | apply Sel.tl)) rfl) rfl ?_
  refine vq_det (det_move rfl) rfl ?_
  refine vq_det (det_indexAddr (size := 1) Try.underlying37 (by kernel_rfl) rfl rfl rfl (by omega) (by first | (exact Bor.own (by repeat (first | exact List.Mem.head _ | apply List.Mem.tail))) | (repeat (first | assumption | apply Bor.cons)))) rfl ?_
  refine vq_det (det_load_row (by kernel_rfl) rfl (by first | (exact Bor.own (by repeat (first | exact List.Mem.head _ | apply List.Mem.tail))) | (repeat (first | assumption | apply Bor.cons))) (by omega) hH) rfl ?_
  refine vq_det (det_move rfl) rfl ?_
  refine vq_det (det_nilCheck rfl) rfl ?_
  refine vq_det (det_fieldAddr_ Try.underlying103 rfl (by kernel_rfl) rfl rfl) rfl ?_
  refine vq_det (det_load_blk (by kernel_rfl) rfl (by repeat (first | exact .hd | apply Sel.tl)) rfl) rfl ?_
  refine vq_det (det_shl rfl rfl (by omega) (shlP hp hw (by omega))) rfl ?_
  refine vq_det (det_move rfl) rfl ?_
  refine vq_det (det_nilCheck rfl) rfl ?_
  refine vq_det (det_fieldAddr_ Try.underlying103 rfl (by kernel_rfl) rfl rfl) rfl ?_
  refine vq_det (det_load_blk (by kernel_rfl) rfl (by repeat (first | exact .hd | apply Sel.tl)) rfl) rfl ?_
  refine vq_det (det_move rfl) rfl ?_
  refine vq_det (det_indexAddr (size := 1) Try.underlying101 (by kernel_rfl) rfl rfl rfl (by omega) (by first | (exact Bor.own (by repeat (first | exact List.Mem.head _ | apply List.Mem.tail))) | (repeat (first | assumption | apply Bor.cons)))) rfl ?_
  refine vq_det (det_load_row (by kernel_rfl) rfl (by first | (exact Bor.own (by repeat (first | exact List.Mem.head _ | apply List.Mem.tail))) | (repeat (first | assumption | apply Bor.cons))) (by omega) hL) rfl ?_
  refine vq_det (det_conv Try.underlying47 Try.underlying3 rfl (w_i64 (by omega) (by omega))) rfl ?_
  refine vq_det (det_or rfl rfl (orP hp (by omega))) rfl ?_
  refine vq_det (det_assign rfl) rfl ?_
  refine vq_end [(4, _)] ⟨rfl, trivial⟩ ?_
  refine then_next ?_
  refine vc_ret ?_
  refine ret1 rfl rfl ?_
  exact ⟨rfl, rfl⟩
end Go.Proofs.Ytpamjobiohbibaa

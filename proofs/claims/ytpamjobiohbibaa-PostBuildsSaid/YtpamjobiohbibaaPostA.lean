/-
  The chapter's example. No condition.
-/
import Derived.Test.YtpamjobiohbibaaPostR
namespace Go.Proofs.Ytpamjobiohbibaa
open Go.RowKit
set_option linter.unusedVariables false
set_option maxRecDepth 20000
variable {B : Nat} {w0 : World} {F : List Ch} {A A1 A2 B1 B2 : Option Addr} {n c c1 c2 b1 b2 g : Nat}
def tDisk : Txt := [100, 105, 115, 107]
def tFull : Txt := [102, 117, 108, 108]
def alL : List RecC := [(0, 0, [], tDisk ++ [32] ++ tFull), (0, 0, [], tFull)]
theorem alW : wordsL (tDisk ++ [32] ++ tFull) = [tDisk, tFull] ∧ wordsL tFull = [tFull] ∧ wordsL [] = [] := by decide
theorem alT : bldT (tmF alL) 2 = [tDisk, tFull] := by
  refine setT_uniq (by simp only [StT, List.pairwise_cons, List.not_mem_nil, false_implies, implies_true, List.mem_singleton, forall_eq, and_true, List.Pairwise.nil]; decide) fun x => ?_
  have h0 : ∀ x, x ∈ tmF alL 0 ↔ x ∈ [tDisk, tFull] := fun x => by
    show x ∈ termsL (tDisk ++ [32] ++ tFull) [] ↔ _
    rw [termsL, setT_mem, rawT, alW.1, alW.2.2]; simp
  have h1 : ∀ x, x ∈ tmF alL 1 ↔ x ∈ [tFull] := fun x => by
    show x ∈ termsL tFull [] ↔ _
    rw [termsL, setT_mem, rawT, alW.2.1, alW.2.2]; simp
  rw [List.mem_flatMap]
  constructor
  · intro h
    exact ⟨0, by simp, (h0 x).2 h⟩
  · rintro ⟨q, hq, h⟩
    have hq := List.mem_range.1 hq
    rcases q with _ | _ | q
    · exact (h0 x).1 h
    · have := (h1 x).1 h; simp at this; simp [this]
    · omega
theorem alB : bldL (tmF alL) 2 = [[0], [0, 1]] := by
  have h0 : ∀ x, x ∈ tmF alL 0 ↔ x ∈ [tDisk, tFull] := fun x => by
    show x ∈ termsL (tDisk ++ [32] ++ tFull) [] ↔ _
    rw [termsL, setT_mem, rawT, alW.1, alW.2.2]; simp
  have h1 : ∀ x, x ∈ tmF alL 1 ↔ x ∈ [tFull] := fun x => by
    show x ∈ termsL tFull [] ↔ _
    rw [termsL, setT_mem, rawT, alW.2.1, alW.2.2]; simp
  rw [bldL, alT]
  have hl : ∀ s, lsF (tmF alL) 2 s = (if s ∈ tmF alL 0 then [0] else []) ++ (if s ∈ tmF alL 1 then [1] else []) := fun s => by
    rw [lsF_succ, lsF_succ]; simp [lsF]
  simp only [List.map_cons, List.map_nil, hl]
  rw [if_pos ((h0 tDisk).2 (by simp)), if_pos ((h0 tFull).2 (by simp)), if_pos ((h1 tFull).2 (by simp)), if_neg (fun h => absurd ((h1 tDisk).1 h) (by decide))]
  rfl
theorem alWs : wsum alL ≤ 1000000 := by decide
def toI (LL : List Lst) : List LsI := LL.map fun e => (e.1, e.2.1, e.2.2.map (fun (n : Nat) => (n : Int)))
theorem toI_val (LL : List Lst) : (toI LL).map iVal = LL.map lVal := by
  unfold toI
  rw [List.map_map]
  apply List.map_congr_left
  intro e _
  simp [iVal, lVal]
theorem toI_len (LL : List Lst) : (toI LL).length = LL.length := by simp [toI]
theorem toI_ids (LL : List Lst) : idsI (toI LL) = (LL.map (·.2.2)).map fun l => l.map (fun (n : Nat) => (n : Int)) := by
  simp [idsI, toI]
theorem toI_bor {LL : List Lst} {L : List Ch} (h : ∀ e ∈ LL, lRow e ∈ L) : LsBor B w0 L (toI LL) := fun e he => by
  obtain ⟨a, ha, rfl⟩ := List.mem_map.1 he
  have := Bor.own (B := B) (w0 := w0) (h a ha)
  simpa [natv, ints, List.map_map, Function.comp_def] using this
theorem al3 {LL : List Lst} (h : LL.map (·.2.2) = [[0], [0, 1]]) : ∀ e ∈ toI LL, e.2.2.length ≤ 9223372036854775807 := fun e he => by
  have : e.2.2 ∈ idsI (toI LL) := List.mem_map_of_mem he
  rw [toI_ids, h] at this
  simp at this
  rcases this with h | h <;> rw [h] <;> simp
theorem al4 {LL : List Lst} {A8 A9 : Option Addr} (h : LL.map (·.2.2) = [[0], [0, 1]]) : [tDisk, tFull] = [tDisk, tFull] ∧ idsI (toI LL) = idsI [(A8, 1, [0]), (A9, 2, [0, 1])] := ⟨rfl, by rw [toI_ids, h]; rfl⟩
theorem alive_d : Does Try.prog B w0 9 [] F (fun r L => r = .bool true ∧ L = F) := by
  refine fn_walk Try.func9 13 rfl rfl rfl [] trivial ?_
  refine vc_seq ?_
  refine vc_region ?_
  refine vl_det (det_assign rfl) rfl ?_
  refine vl_end [] trivial ?_
  refine then_next ?_
  refine vc_seq ?_
  refine vc_region ?_
  refine vl_det (det_buildp [(3, _)] [.int .u64 0, .int .u8 0, .string ⟨#[]⟩, .string ⟨#[]⟩] [3] [_, _, _, _] rfl rfl (by kernel_rfl)) rfl ?_
  refine vl_det (det_buildp [(3, _)] [.int .u64 0, .int .u8 0, .string ⟨#[]⟩, .string ⟨#[]⟩] [3] [_, _, _, _] rfl rfl (by kernel_rfl)) rfl ?_
  refine vl_eff (eff_buildSlice (kk := 2) (size := 4) (parts := [(0, .tmp 2), (1, .tmp 3)]) (us := [(0, .agg (RecC.cells (recAt alL 0)).toArray), (1, .agg (RecC.cells (recAt alL 1)).toArray)]) (cs := recs alL) (zv := .agg #[.int .u64 0, .int .u8 0, .string ⟨#[]⟩, .string ⟨#[]⟩]) Try.underlying22 (by kernel_rfl) (by omega) (by omega) (by omega) (by kernel_rfl) rfl (by kernel_rfl) rfl) rfl ?_
  rintro _ _ ⟨A4, rfl, rfl⟩
  refine vl_call co12 rfl (build_d (L := alL) (by first | (exact Bor.own (by repeat (first | exact List.Mem.head _ | apply List.Mem.tail))) | (repeat (first | assumption | apply Bor.cons))) alWs) rfl ?_
  rintro _ _ ⟨A1, c1, A2, c2, LL, rfl, hLL, hids⟩
  obtain rfl := hLL.symm
  have hT : bldT (tmF alL) alL.length = [tDisk, tFull] := alT
  have hI : LL.map (·.2.2) = [[0], [0, 1]] := hids.trans alB
  have hLn : LL.length = 2 := by have := congrArg List.length hI; simpa using this
  have h3 := al3 hI
  rw [hT]
  refine vl_eff (eff_alloc_z (zv := (.agg #[.slice none 0 0, .slice none 0 0])) (by kernel_rfl) rfl) rfl ?_
  rintro _ _ ⟨g1, rfl, rfl⟩
  refine vl_eff0 (eff_store_whole 2 (by kernel_rfl) rfl rfl (by first | exact bv_one _ | exact strs_one _ | exact ints_one _ _ | (simp; done) | (simp [Value.oneCell']; done) | assumption) (by repeat (first | exact .hd | apply Sel.tl)) (by first | rfl | (simp; omega) | (simp [*]; done)) (by first | rfl | (simp; omega) | (simp [*]; done))) ?_
  rintro _ _ rfl
  refine vl_end [(1, _)] ⟨rfl, trivial⟩ ?_
  refine then_next ?_
  refine vc_seq ?_
  refine vc_region ?_
  refine vl_det (det_load_whole 2 (by kernel_rfl) rfl (by repeat (first | exact .hd | apply Sel.tl)) (by first | rfl | (simp; omega) | (simp [*]; done))) rfl ?_
  refine vl_eff (eff_build_lit slT26 [_, _] rfl rfl (by first | exact bv_one _ | exact strs_one _ | exact ints_one _ _ | (simp; done) | (simp [Value.oneCell']; done) | assumption) (by omega) (by omega)) rfl ?_
  rintro _ _ ⟨A7, rfl, rfl⟩
  refine vl_eff (eff_build_lit slT37 [_] rfl rfl (by first | exact bv_one _ | exact strs_one _ | exact ints_one _ _ | (simp; done) | (simp [Value.oneCell']; done) | assumption) (by omega) (by omega)) rfl ?_
  rintro _ _ ⟨A8, rfl, rfl⟩
  refine vl_eff (eff_build_lit slT37 [_, _] rfl rfl (by first | exact bv_one _ | exact strs_one _ | exact ints_one _ _ | (simp; done) | (simp [Value.oneCell']; done) | assumption) (by omega) (by omega)) rfl ?_
  rintro _ _ ⟨A9, rfl, rfl⟩
  refine vl_eff (eff_build_lit slT27 [_, _] rfl rfl (by first | exact bv_one _ | exact strs_one _ | exact ints_one _ _ | (simp; done) | (simp [Value.oneCell']; done) | assumption) (by omega) (by omega)) rfl ?_
  rintro _ _ ⟨A10, rfl, rfl⟩
  refine vl_det (det_build [(0, _), (1, _)] [_, _] rfl rfl (by kernel_rfl)) rfl ?_
  refine vl_call co11 rfl (rsame18_n (T1 := [tDisk, tFull]) (T2 := [tDisk, tFull]) (L1 := toI LL) (L2 := [(A8, 1, [0]), (A9, 2, [0, 1])]) ((toI_len LL).trans hLn) rfl (by first | (exact Bor.own (by repeat (first | exact List.Mem.head _ | apply List.Mem.tail))) | (repeat (first | assumption | apply Bor.cons))) (by rw [toI_val]; exact (by first | (exact Bor.own (by repeat (first | exact List.Mem.head _ | apply List.Mem.tail))) | (repeat (first | assumption | apply Bor.cons)))) (toI_bor fun e he => by repeat (first | exact List.mem_append_left _ (List.mem_map_of_mem he) | apply List.mem_cons_of_mem)) (by first | (exact Bor.own (by repeat (first | exact List.Mem.head _ | apply List.Mem.tail))) | (repeat (first | assumption | apply Bor.cons))) (by first | (exact Bor.own (by repeat (first | exact List.Mem.head _ | apply List.Mem.tail))) | (repeat (first | assumption | apply Bor.cons))) (by intro e he; simp only [List.mem_cons, List.not_mem_nil, or_false] at he; rcases he with rfl | rfl <;> exact (by first | (exact Bor.own (by repeat (first | exact List.Mem.head _ | apply List.Mem.tail))) | (repeat (first | assumption | apply Bor.cons)))) (by simp) (by simp) h3) rfl ?_
  rintro _ _ ⟨rfl, hLL⟩
  obtain rfl := hLL.symm
  refine vl_det (det_assign rfl) rfl ?_
  refine vl_end [(0, _)] ⟨rfl, trivial⟩ ?_
  refine then_next ?_
  refine vc_ret ?_
  refine ret_wk (L' := F) (.skip (.skip (.skip (.skip (.skip (.skip (.skip (wk_rows (.skip (.refl _)) _)))))))) ?_
  refine ret1 rfl rfl ?_
  exact ⟨by rw [decide_eq_true (al4 hI)], rfl⟩
end Go.Proofs.Ytpamjobiohbibaa

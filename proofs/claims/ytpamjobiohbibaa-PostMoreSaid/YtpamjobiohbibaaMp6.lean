/-
  Texts of one proof, joined: part 6. No condition.
-/
import Derived.Test.YtpamjobiohbibaaMp5
import Derived.Test.YtpamjobiohbibaaRows
import Derived.Lib.AppendStr
import Derived.Lib.AppendZeros
namespace Go.Proofs.Ytpamjobiohbibaa
open Go.RowKit
set_option linter.unusedVariables false
set_option maxRecDepth 20000
variable {B : Nat} {w0 : World} {F : List Ch} {A A1 A2 B1 B2 : Option Addr} {n c c1 c2 b1 b2 g : Nat}
def tDisk : Txt := [100, 105, 115, 107]
def tFull : Txt := [102, 117, 108, 108]
def alL : List RecC := [(0, 0, [], tDisk ++ [32] ++ tFull), (0, 0, [], tFull)]
theorem alW : wordsL (tDisk ++ [32] ++ tFull) = [tDisk, tFull] ∧ wordsL tFull = [tFull] ∧ wordsL [] = [] := by decide
theorem alT : bldT (tmF alL) 2 = [tDisk, tFull] := by
  refine setT_uniq (by simp only [StT, List.pairwise_cons, List.not_mem_nil, false_implies, implies_true, List.mem_singleton, forall_eq, and_true, List.Pairwise.nil]; decide) fun x => ?_
  have h0 : ∀ x, x ∈ tmF alL 0 ↔ x ∈ [tDisk, tFull] := fun x => by
    show x ∈ termsL (tDisk ++ [32] ++ tFull) [] ↔ _
    rw [termsL, setT_mem, rawT, alW.1, alW.2.2]; simp
  have h1 : ∀ x, x ∈ tmF alL 1 ↔ x ∈ [tFull] := fun x => by
    show x ∈ termsL tFull [] ↔ _
    rw [termsL, setT_mem, rawT, alW.2.1, alW.2.2]; simp
  rw [List.mem_flatMap]
  constructor
  · intro h
    exact ⟨0, by simp, (h0 x).2 h⟩
  · rintro ⟨q, hq, h⟩
    have hq := List.mem_range.1 hq
    rcases q with _ | _ | q
    · exact (h0 x).1 h
    · have := (h1 x).1 h; simp at this; simp [this]
    · omega
theorem alB : bldL (tmF alL) 2 = [[0], [0, 1]] := by
  have h0 : ∀ x, x ∈ tmF alL 0 ↔ x ∈ [tDisk, tFull] := fun x => by
    show x ∈ termsL (tDisk ++ [32] ++ tFull) [] ↔ _
    rw [termsL, setT_mem, rawT, alW.1, alW.2.2]; simp
  have h1 : ∀ x, x ∈ tmF alL 1 ↔ x ∈ [tFull] := fun x => by
    show x ∈ termsL tFull [] ↔ _
    rw [termsL, setT_mem, rawT, alW.2.1, alW.2.2]; simp
  rw [bldL, alT]
  have hl : ∀ s, lsF (tmF alL) 2 s = (if s ∈ tmF alL 0 then [0] else []) ++ (if s ∈ tmF alL 1 then [1] else []) := fun s => by
    rw [lsF_succ, lsF_succ]; simp [lsF]
  simp only [List.map_cons, List.map_nil, hl]
  rw [if_pos ((h0 tDisk).2 (by simp)), if_pos ((h0 tFull).2 (by simp)), if_pos ((h1 tFull).2 (by simp)), if_neg (fun h => absurd ((h1 tDisk).1 h) (by decide))]
  rfl
theorem alWs : wsum alL ≤ 1000000 := by decide
def toI (LL : List Lst) : List LsI := LL.map fun e => (e.1, e.2.1, e.2.2.map (fun (n : Nat) => (n : Int)))
theorem toI_val (LL : List Lst) : (toI LL).map iVal = LL.map lVal := by
  unfold toI
  rw [List.map_map]
  apply List.map_congr_left
  intro e _
  simp [iVal, lVal]
theorem toI_len (LL : List Lst) : (toI LL).length = LL.length := by simp [toI]
theorem toI_ids (LL : List Lst) : idsI (toI LL) = (LL.map (·.2.2)).map fun l => l.map (fun (n : Nat) => (n : Int)) := by
  simp [idsI, toI]
theorem toI_bor {LL : List Lst} {L : List Ch} (h : ∀ e ∈ LL, lRow e ∈ L) : LsBor B w0 L (toI LL) := fun e he => by
  obtain ⟨a, ha, rfl⟩ := List.mem_map.1 he
  have := Bor.own (B := B) (w0 := w0) (h a ha)
  simpa [natv, ints, List.map_map, Function.comp_def] using this
theorem al3 {LL : List Lst} (h : LL.map (·.2.2) = [[0], [0, 1]]) : ∀ e ∈ toI LL, e.2.2.length ≤ 9223372036854775807 := fun e he => by
  have : e.2.2 ∈ idsI (toI LL) := List.mem_map_of_mem he
  rw [toI_ids, h] at this
  simp at this
  rcases this with h | h <;> rw [h] <;> simp
theorem al4 {LL : List Lst} {A8 A9 : Option Addr} (h : LL.map (·.2.2) = [[0], [0, 1]]) : [tDisk, tFull] = [tDisk, tFull] ∧ idsI (toI LL) = idsI [(A8, 1, [0]), (A9, 2, [0, 1])] := ⟨rfl, by rw [toI_ids, h]; rfl⟩
theorem alive_d : Does Try.prog B w0 9 [] F (fun r L => r = .bool true ∧ L = F) := by
  refine fn_walk Try.func9 13 rfl rfl rfl [] trivial ?_
  refine vc_seq ?_
  refine vc_region ?_
  refine vl_det (det_assign rfl) rfl ?_
  refine vl_end [] trivial ?_
  refine then_next ?_
  refine vc_seq ?_
  refine vc_region ?_
  refine vl_det (det_buildp [(3, _)] [.int .u64 0, .int .u8 0, .string ⟨#[]⟩, .string ⟨#[]⟩] [3] [_, _, _, _] rfl rfl (by kernel_rfl)) rfl ?_
  refine vl_det (det_buildp [(3, _)] [.int .u64 0, .int .u8 0, .string ⟨#[]⟩, .string ⟨#[]⟩] [3] [_, _, _, _] rfl rfl (by kernel_rfl)) rfl ?_
  refine vl_eff (eff_buildSlice (kk := 2) (size := 4) (parts := [(0, .tmp 2), (1, .tmp 3)]) (us := [(0, .agg (RecC.cells (recAt alL 0)).toArray), (1, .agg (RecC.cells (recAt alL 1)).toArray)]) (cs := recs alL) (zv := .agg #[.int .u64 0, .int .u8 0, .string ⟨#[]⟩, .string ⟨#[]⟩]) Try.underlying22 (by kernel_rfl) (by omega) (by omega) (by omega) (by kernel_rfl) rfl (by kernel_rfl) rfl) rfl ?_
  rintro _ _ ⟨A4, rfl, rfl⟩
  refine vl_call co12 rfl (build_d (L := alL) (by first | (exact Bor.own (by repeat (first | exact List.Mem.head _ | apply List.Mem.tail))) | (repeat (first | assumption | apply Bor.cons))) alWs) rfl ?_
  rintro _ _ ⟨A1, c1, A2, c2, LL, rfl, hLL, hids⟩
  obtain rfl := hLL.symm
  have hT : bldT (tmF alL) alL.length = [tDisk, tFull] := alT
  have hI : LL.map (·.2.2) = [[0], [0, 1]] := hids.trans alB
  have hLn : LL.length = 2 := by have := congrArg List.length hI; simpa using this
  have h3 := al3 hI
  rw [hT]
  refine vl_eff (eff_alloc_z (zv := (.agg #[.slice none 0 0, .slice none 0 0])) (by kernel_rfl) rfl) rfl ?_
  rintro _ _ ⟨g1, rfl, rfl⟩
  refine vl_eff0 (eff_store_whole 2 (by kernel_rfl) rfl rfl (by first | exact bv_one _ | exact strs_one _ | exact ints_one _ _ | (simp; done) | (simp [Value.oneCell']; done) | assumption) (by repeat (first | exact .hd | apply Sel.tl)) (by first | rfl | (simp; omega) | (simp [*]; done)) (by first | rfl | (simp; omega) | (simp [*]; done))) ?_
  rintro _ _ rfl
  refine vl_end [(1, _)] ⟨rfl, trivial⟩ ?_
  refine then_next ?_
  refine vc_seq ?_
  refine vc_region ?_
  refine vl_det (det_load_whole 2 (by kernel_rfl) rfl (by repeat (first | exact .hd | apply Sel.tl)) (by first | rfl | (simp; omega) | (simp [*]; done))) rfl ?_
  refine vl_eff (eff_build_lit slT26 [_, _] rfl rfl (by first | exact bv_one _ | exact strs_one _ | exact ints_one _ _ | (simp; done) | (simp [Value.oneCell']; done) | assumption) (by omega) (by omega)) rfl ?_
  rintro _ _ ⟨A7, rfl, rfl⟩
  refine vl_eff (eff_build_lit slT37 [_] rfl rfl (by first | exact bv_one _ | exact strs_one _ | exact ints_one _ _ | (simp; done) | (simp [Value.oneCell']; done) | assumption) (by omega) (by omega)) rfl ?_
  rintro _ _ ⟨A8, rfl, rfl⟩
  refine vl_eff (eff_build_lit slT37 [_, _] rfl rfl (by first | exact bv_one _ | exact strs_one _ | exact ints_one _ _ | (simp; done) | (simp [Value.oneCell']; done) | assumption) (by omega) (by omega)) rfl ?_
  rintro _ _ ⟨A9, rfl, rfl⟩
  refine vl_eff (eff_build_lit slT27 [_, _] rfl rfl (by first | exact bv_one _ | exact strs_one _ | exact ints_one _ _ | (simp; done) | (simp [Value.oneCell']; done) | assumption) (by omega) (by omega)) rfl ?_
  rintro _ _ ⟨A10, rfl, rfl⟩
  refine vl_det (det_build [(0, _), (1, _)] [_, _] rfl rfl (by kernel_rfl)) rfl ?_
  refine vl_call co11 rfl (rsame18_n (T1 := [tDisk, tFull]) (T2 := [tDisk, tFull]) (L1 := toI LL) (L2 := [(A8, 1, [0]), (A9, 2, [0, 1])]) ((toI_len LL).trans hLn) rfl (by first | (exact Bor.own (by repeat (first | exact List.Mem.head _ | apply List.Mem.tail))) | (repeat (first | assumption | apply Bor.cons))) (by rw [toI_val]; exact (by first | (exact Bor.own (by repeat (first | exact List.Mem.head _ | apply List.Mem.tail))) | (repeat (first | assumption | apply Bor.cons)))) (toI_bor fun e he => by repeat (first | exact List.mem_append_left _ (List.mem_map_of_mem he) | apply List.mem_cons_of_mem)) (by first | (exact Bor.own (by repeat (first | exact List.Mem.head _ | apply List.Mem.tail))) | (repeat (first | assumption | apply Bor.cons))) (by first | (exact Bor.own (by repeat (first | exact List.Mem.head _ | apply List.Mem.tail))) | (repeat (first | assumption | apply Bor.cons))) (by intro e he; simp only [List.mem_cons, List.not_mem_nil, or_false] at he; rcases he with rfl | rfl <;> exact (by first | (exact Bor.own (by repeat (first | exact List.Mem.head _ | apply List.Mem.tail))) | (repeat (first | assumption | apply Bor.cons)))) (by simp) (by simp) h3) rfl ?_
  rintro _ _ ⟨rfl, hLL⟩
  obtain rfl := hLL.symm
  refine vl_det (det_assign rfl) rfl ?_
  refine vl_end [(0, _)] ⟨rfl, trivial⟩ ?_
  refine then_next ?_
  refine vc_ret ?_
  refine ret_wk (L' := F) (.skip (.skip (.skip (.skip (.skip (.skip (.skip (wk_rows (.skip (.refl _)) _)))))))) ?_
  refine ret1 rfl rfl ?_
  exact ⟨by rw [decide_eq_true (al4 hI)], rfl⟩
end Go.Proofs.Ytpamjobiohbibaa
namespace Go.Proofs.Ytpamjobiohbibaa
open Go.RowKit
set_option linter.unusedVariables false
set_option maxRecDepth 20000
def Ch.isObj : Ch → Bool
  | .obj _ _ => true
  | _ => false
section
variable {B : Nat} {w0 w w' : World} {L M : List Ch} {c d : Ch}
/-- a piece that is no mere object lies in cells -/
theorem Ch.holds.cells (h : c.holds B w) (hc : c.isObj = false) {g : Nat} (hg : c.fp = some g) : ∃ o, w.heap[g]? = some o ∧ o.isCells = true := by
  cases c with
  | own e size A n cc xs =>
    obtain ⟨_, _, h⟩ := h
    simp only [Ch.fp] at hg
    by_cases hc0 : cc = 0
    · rw [if_pos hc0] at hg; cases hg
    · rw [if_neg hc0] at hg
      obtain ⟨g', cur, rfl, h1, h2, _⟩ := h.resolve_left hc0
      simp at hg
      subst hg
      exact ⟨_, h2, rfl⟩
  | blk g' t cs =>
    simp only [Ch.fp, Option.some.injEq] at hg
    subst hg
    exact ⟨_, h.2, rfl⟩
  | obj g' o => cases hc
/-- pieces abide the turn of a block that is no cells and lies beyond -/
theorem SL.abide (h : SL B w0 M w) {row : Option Nat} (hg : w.grownBy w' row) {K : Nat} (hK : B ≤ K) (hr : ∀ r, row = some r → K ≤ r ∧ ∃ o : Obj, w.heap[r]? = some o ∧ o.isCells = false) (ho : ∀ c ∈ M, c.isObj = true → ∀ g, c.fp = some g → g < K) : SL B w0 M w' := by
  refine ⟨h.below.grown hg h.base (fun k hk => Nat.le_trans hK (hr k hk).1), Nat.le_trans h.base hg.size, fun c hc => (h.all c hc).keep fun g hgc => ?_, h.apart⟩
  refine hg.block g ((h.all c hc).lt hgc).2 fun e => ?_
  obtain ⟨h1, o, h2, h3⟩ := hr g e.symm
  cases hco : c.isObj with
  | true => exact absurd (ho c hc hco g hgc) (by omega)
  | false =>
    obtain ⟨o', h4, h5⟩ := (h.all c hc).cells hco hgc
    rw [h2] at h4
    cases h4
    rw [h3] at h5
    cases h5
/-- .. told of a later world -/
theorem SL.rebase (h : SL B w0 M w) {w1 : World} (hb : SL B w1 L w) : SL B w1 M w := ⟨hb.below, h.base, h.all, h.apart⟩
theorem Bor.later {size n : Nat} {v : Value} {xs : List Value} {w1 : World} (h : Bor B w0 L size v n xs) (hb : Below B w0 w1) : Bor B w1 L size v n xs := fun w hs => h w ⟨hb.trans hs.below, hs.base, hs.all, hs.apart⟩
/-- all else that lies above the base -/
def rest (B : Nat) (M : List Ch) (w : World) : List Ch := ((List.range w.heap.size).filter fun k => decide (B ≤ k) && M.all fun c => decide (c.fp ≠ some k)).filterMap fun k => (w.heap[k]?).map (Ch.obj k)
theorem rest_mem : c ∈ rest B M w ↔ ∃ k o, B ≤ k ∧ w.heap[k]? = some o ∧ (∀ d ∈ M, d.fp ≠ some k) ∧ c = .obj k o := by
  unfold rest
  simp only [List.mem_filterMap, List.mem_filter, List.mem_range, Bool.and_eq_true, decide_eq_true_eq, List.all_eq_true, Option.map_eq_some_iff]
  constructor
  · rintro ⟨k, ⟨h1, h2, h3⟩, o, h4, rfl⟩
    exact ⟨k, o, h2, h4, h3, rfl⟩
  · rintro ⟨k, o, h2, h4, h3, rfl⟩
    exact ⟨k, ⟨(Array.getElem?_eq_some_iff.1 h4).1, h2, h3⟩, o, h4, rfl⟩
theorem rest_apart (B : Nat) (M : List Ch) (w : World) : (rest B M w).Pairwise Ch.apart := by
  unfold rest
  have h : ((List.range w.heap.size).filter fun k => decide (B ≤ k) && M.all fun c => decide (c.fp ≠ some k)).Pairwise (· ≠ ·) := (List.nodup_range).filter _
  generalize ((List.range w.heap.size).filter fun k => decide (B ≤ k) && M.all fun c => decide (c.fp ≠ some k)) = ks at h ⊢
  induction ks with
  | nil => exact List.Pairwise.nil
  | cons k ks ih =>
    have h' := List.pairwise_cons.1 h
    rw [List.filterMap_cons]
    cases hk : (w.heap[k]?).map (Ch.obj k) with
    | none => exact ih h'.2
    | some c =>
      refine List.pairwise_cons.2 ⟨fun d hd => ?_, ih h'.2⟩
      obtain ⟨k', hk', hd'⟩ := List.mem_filterMap.1 hd
      obtain ⟨o, ho, rfl⟩ := Option.map_eq_some_iff.1 hk
      obtain ⟨o', ho', rfl⟩ := Option.map_eq_some_iff.1 hd'
      exact .inr fun e => h'.1 k' hk' (Option.some.inj e)
theorem SL.full (h : SL B w0 M w) : SL B w (M ++ rest B M w) w := by
  refine ⟨Below.refl _ _, h.base, fun c hc => ?_, List.pairwise_append.2 ⟨h.apart, rest_apart B M w, fun c hc d hd => ?_⟩⟩
  · rcases List.mem_append.1 hc with hc | hc
    · exact h.all c hc
    · obtain ⟨k, o, h1, h2, h3, rfl⟩ := rest_mem.1 hc
      exact ⟨h1, h2⟩
  · obtain ⟨k, o, h1, h2, h3, rfl⟩ := rest_mem.1 hd
    exact .inr (h3 c hc)
/-- what is kept beside the pieces -/
theorem keeps_of_full {M' : List Ch} (h : SL B w0 M w) (h' : SL B w (M' ++ rest B M w) w') (ho : ∀ c ∈ M, c.isObj = true → c ∈ M') : KeepsOthers w w' := by
  refine ⟨h'.below.size, fun k o hk hc => ?_⟩
  by_cases hB : k < B
  · rw [h'.below.block k hB]; exact hk
  · by_cases hm : ∀ d ∈ M, d.fp ≠ some k
    · exact (h'.all _ (List.mem_append_right _ (rest_mem.2 ⟨k, o, by omega, hk, hm, rfl⟩))).2
    · obtain ⟨d, hdm, hf⟩ : ∃ d, d ∈ M ∧ d.fp = some k := by
        refine Classical.byContradiction fun hn => hm fun d h1 h2 => hn ⟨d, h1, h2⟩
      cases hdo : d.isObj with
      | false =>
        obtain ⟨o', h4, h5⟩ := (h.all d hdm).cells hdo hf
        rw [hk] at h4
        cases h4
        rw [hc] at h5
        cases h5
      | true =>
        cases d with
        | obj g o' =>
          have e : g = k := Option.some.inj hf
          subst e
          have h1 : w.heap[g]? = some o' := (h.all (.obj g o') hdm).2
          rw [hk] at h1
          cases h1
          exact (h'.all _ (List.mem_append_left _ (ho _ hdm hdo))).2
        | _ => cases hdo
theorem SL.cons_obj (h : SL B w0 M w) {D : Nat} {o : Obj} (hB : B ≤ D) (hD : w.heap[D]? = some o) (ho : o.isCells = false) (hm : ∀ c ∈ M, c.isObj = true → ∀ g, c.fp = some g → g < D) : SL B w0 (.obj D o :: M) w := by
  refine ⟨h.below, h.base, fun c hc => ?_, List.pairwise_cons.2 ⟨fun d hd => .inr fun e => ?_, h.apart⟩⟩
  · rcases List.mem_cons.1 hc with rfl | hc
    · exact ⟨hB, hD⟩
    · exact h.all c hc
  · have e : d.fp = some D := e.symm
    cases hdo : d.isObj with
    | true => exact absurd (hm d hd hdo D e) (Nat.lt_irrefl _)
    | false =>
      obtain ⟨o', h4, h5⟩ := (h.all d hd).cells hdo e
      rw [hD] at h4
      cases h4
      rw [ho] at h5
      cases h5
end
theorem vg_seq2 {C : Cx} {QQ : Exit → Act → World → Prop} {fr : Fr} {L : List Ch} {x b y : Code} (h : VC C x (TG C b (Exit.then (y.wp C.P QQ) QQ)) fr L) : VG C (.seq (.seq x b) y) QQ fr L := fun a w ha hs =>
  wp_seq (wp_seq (wp_mono (h a w ha hs) fun e a w ⟨fr, L, ha, hs, hq⟩ => by
    cases e <;> exact hq a w ha hs))
/-- what an iterator relies on -/
def KpOf (B : Nat) (Lk : List Ch) (W W' : World) : Prop := ∀ c ∈ Lk, c.holds B W → c.holds B W'
section
variable {C : Cx} {QQ : Exit → Act → World → Prop} {fr : Fr} {L : List Ch} {y body : Code} {α σ : Type}
theorem vg_range {id r0 p d gf N : Nat} {g : Operand} {lb : List Value} {ty : TypeId} {pos : String} {af : Array Edge} (hc : Callable C.P gf) (hg : ev fr g = some (.func (.func gf) #[] lb.toArray)) (hp : Nat.blt p C.N = true) (hd : Nat.blt d C.N = true)
    (enc : α → Value) (S Sp : List α → Prop) (Lk : List Ch) (hseq : ∀ w, SL C.B C.w0 L w → SeqStopsK Fence.wide 7 C.P gf lb.toArray (fun x => #[enc x]) (KpOf C.B Lk) S Sp N w)
    (ok : List α → σ → Prop) (G : List α → σ → List Ch) (hGo : ∀ pre s c, c.isObj = true → (c ∈ G pre s ↔ c ∈ L)) (hLk : ∀ c ∈ Lk, c.isObj = false ∧ ∀ pre s, c ∈ G pre s)
    (s0 : σ) (h0 : ok [] s0) (hg0 : Wk L (G [] s0))
    (hbody : ∀ l pre x s w1, ok pre s → pre.length < N → Below C.B C.w0 w1 → ∀ F', VR ⟨C.P, C.N, C.B, w1⟩ l 6 body (fun fr' L' => ∃ s', ok (pre ++ [x]) s' ∧ Wk L' (G (pre ++ [x]) s' ++ F')) ((d, enc x) :: (p, enc x) :: fr) (G pre s ++ F'))
    (hdone : ∀ D xs s, S xs → ok xs s → VM C D y QQ fr (.obj D (.deferred (some [])) :: G xs s)) :
    VG C (.block id (.rangeFunc g #[p] (.region r0 [(⟨some d, .assign (.tmp p), ty, pos, af, none⟩ : Oper)].toArray false) body)) (Exit.then (y.wp C.P QQ) QQ) fr L := fun a w ha hs => by
  have hsl0 := hg0.sl hs
  have hobj : ∀ pre s, ∀ c ∈ G pre s, c.isObj = true → ∀ g, c.fp = some g → g < w.heap.size := fun pre s c hc ho g hg => ((hs.all c ((hGo pre s c ho).1 hc)).lt hg).2
  have eg : ∀ args w, (callFunc gf args).run C.P w = .ok (.enter gf args) w := fun args w => by
    obtain ⟨fn, cc, h1, h2, h3⟩ := hc
    have h2' : ¬ fn.name = "runtime.NumGoroutine" := by simpa using h2
    simp [callFunc, h1, h2', h3]
  refine wp_block (wpIn_wide.1 (wpIn_rangeFunc_ownF (n := 8) rfl (by decide) (ha.tmp hg) trivial eg (hseq w hs) (fun h k c hc hh => k c hc (h c hc hh)) ?kb (Below.refl _ _) (fun _ => rfl)
    (fun pre W => ∃ s, ok pre s ∧ SL C.B C.w0 (G pre s) W) (fun _ _ _ => False) ?own (fun _ _ _ _ _ h _ _ => h) ⟨s0, h0, hsl0⟩ (fun x => ((a.put (some p) (enc x)).put (some d) (enc x))) ?assign ?body ?done ?stop))
  case kb =>
    intro W l o o' hl hW ho _ c hc hh
    refine hh.keep fun g hgc => ?_
    refine World.putObj_heap_other fun e => ?_
    subst e
    obtain ⟨o2, h4, h5⟩ := hh.cells (hLk c hc).1 hgc
    rw [hW] at h4
    cases h4
    rw [ho] at h5
    cases h5
  case own =>
    rintro pre W W' row ⟨s, hok, hsl⟩ hgr hr
    exact ⟨s, hok, hsl.abide hgr hs.base hr (hobj pre s)⟩
  case assign =>
    intro l x W K hK
    refine wpIn_region_lit (wpListIn_plain rfl fun K' hK' => ?_)
    refine ⟨fun _ _ => trivial, ?_⟩
    rw [Oper.semAt_eq _ _ _ (fun c e => by cases e)]
    have e0 : ({ tmps := (#[p].zip #[enc x]).foldl (fun t (p, v) => t.setIfInBounds p v) a.tmps, defers := [] } : Act) = a.put (some p) (enc x) := by
      have := ha.defers
      cases a
      simp_all [Act.put]
    rw [e0]
    have hev : (a.put (some p) (enc x)).eval (.tmp p) = enc x := (ha.put hp (enc x)).tmp (by simp [ev, look])
    simp only [execOp, hev, Sem.run_pure, Oper.uponIn]
    exact hK' _ _ hK
  case body =>
    rintro l pre x W ⟨s, hok, hsl⟩ hlt
    refine wpIn_mono (hbody l pre x s W hok hlt hsl.below (rest C.B (G pre s) W) _ W ((ha.put hp (enc x)).put hd (enc x)) hsl.full) fun e a' W' hq => ?_
    cases e with
    | normal =>
      obtain ⟨fr', L', ha', hs', s', hok', hwk⟩ := hq
      have hs2 := hwk.sl hs'
      have hs3 : SL C.B C.w0 (G (pre ++ [x]) s') W' := ⟨hsl.below.trans hs2.below, hs2.base, fun c hc => hs2.all c (List.mem_append_left _ hc), (List.pairwise_append.1 hs2.apart).1⟩
      exact ⟨keeps_of_full hsl hs2 (fun c hc ho => (hGo _ _ c ho).2 ((hGo _ _ c ho).1 hc)), fun c hc _ => hs3.all c ((hLk c hc).2 _ _), s', hok', hs3⟩
    | _ => exact hq.elim
  case done =>
    rintro D xs W hD hS ⟨s, hok, hsl⟩ hK
    refine hdone D xs s hS hok _ W (by rw [ha.defers]; rfl) ?_ (hsl.cons_obj (Nat.le_trans hs.base hD) hK rfl (fun c hc ho g hg => Nat.lt_of_lt_of_le (hobj xs s c hc ho g hg) hD))
    have : ({ ({ a with defers := { target := .collected D, args := #[] } :: a.defers } : Act) with defers := [] } : Act) = a := by have := ha.defers; cases a; simp_all
    rw [this]; exact ha
  case stop =>
    rintro D c pre W _ _ h _
    exact h.elim
end
end Go.Proofs.Ytpamjobiohbibaa
namespace Go.Proofs.Ytpamjobiohbibaa
open Go.RowKit
set_option linter.unusedVariables false
set_option maxRecDepth 20000
def tpost (N : Nat) (QQ : Exit → Fr → World → Prop) : Exit → Act → World → Prop := fun e a w => ∃ fr, Agr N fr a ∧ QQ e fr w
def VT (P : Program) (N : Nat) (c : Code) (QQ : Exit → Fr → World → Prop) (fr : Fr) (w : World) : Prop := ∀ a, Agr N fr a → c.wpIn Fence.wide 7 P (tpost N QQ) a w
def VTL (P : Program) (N : Nat) (ops : Array Oper) (QQ : Exit → Fr → World → Prop) (l : List Oper) (fr : Fr) (w : World) : Prop := ∀ a, Agr N fr a → wpListIn Fence.wide 7 P ops (tpost N QQ) l a w
def TT (P : Program) (N : Nat) (y : Code) (QQ : Exit → Fr → World → Prop) : Exit → Fr → World → Prop
  | .normal, fr, w => VT P N y QQ fr w
  | e, fr, w => QQ e fr w
def TB (id : Nat) (QQ : Exit → Fr → World → Prop) : Exit → Fr → World → Prop
  | .exit i, fr, w => if i = id then QQ .normal fr w else QQ (.exit i) fr w
  | e, fr, w => QQ e fr w
def VTQ (P : Program) (N : Nat) (w : World) (ops : Array Oper) (QF : Fr → Prop) (l : List Oper) (fr : Fr) : Prop := ∀ a, Agr N fr a → wpQuiet P ops (fun w' => ∃ n, w' = w.drewN n) (fun a' => ∃ fr', Agr N fr' a' ∧ QF fr') l a
section
variable {P : Program} {N : Nat} {QQ : Exit → Fr → World → Prop} {QF : Fr → Prop} {fr fr' : Fr} {w : World} {x y : Code} {ops : Array Oper} {l : List Oper} {op : Op} {ty : TypeId} {pos : String} {af : Array Edge} {d : Nat} {v : Value} {B : Nat} {w0 : World} {L : List Ch}
theorem vt_seq (h : VT P N x (TT P N y QQ) fr w) : VT P N (.seq x y) QQ fr w := fun a ha =>
  wpIn_seq (wpIn_mono (h a ha) fun e a w ⟨fr, ha, hq⟩ => by cases e <;> first | exact hq a ha | exact ⟨fr, ha, hq⟩)
theorem vt_block {id : Nat} (h : VT P N x (TB id QQ) fr w) : VT P N (.block id x) QQ fr w := fun a ha =>
  wpIn_block (wpIn_mono (h a ha) fun e a w ⟨fr, ha, hq⟩ => by
    cases e with
    | exit i =>
      unfold Exit.inBlock
      unfold TB at hq
      simp only at hq ⊢
      split
      · rename_i hi; rw [if_pos hi] at hq; exact ⟨fr, ha, hq⟩
      · rename_i hi; rw [if_neg hi] at hq; exact ⟨fr, ha, hq⟩
    | _ => exact ⟨fr, ha, hq⟩)
theorem vt_skip (h : QQ .normal fr w) : VT P N .skip QQ fr w := fun a ha => wpIn_skip ⟨fr, ha, h⟩
theorem vt_exit {id : Nat} (h : QQ (.exit id) fr w) : VT P N (.exit id) QQ fr w := fun a ha => wpIn_exit ⟨fr, ha, h⟩
theorem vt_ret (h : QQ .ret fr w) : VT P N .ret QQ fr w := fun a ha => wpIn_ret ⟨fr, ha, h⟩
theorem vt_condt {c : Operand} (hc : ev fr c = some (.bool true)) (h : VT P N x QQ fr w) : VT P N (.cond c x y) QQ fr w := fun a ha => wpIn_cond_true (ha.tmp hc) (h a ha)
theorem vt_condf {c : Operand} (hc : ev fr c = some (.bool false)) (h : VT P N y QQ fr w) : VT P N (.cond c x y) QQ fr w := fun a ha => wpIn_cond_false (ha.tmp hc) (h a ha)
theorem vt_decide {c : Operand} {p : Prop} [Decidable p] (hc : ev fr c = some (.bool (decide p))) (ht : p → VT P N x QQ fr w) (hf : ¬ p → VT P N y QQ fr w) : VT P N (.cond c x y) QQ fr w := by
  by_cases hp : p
  · exact vt_condt (by rw [hc, decide_eq_true hp]) (ht hp)
  · exact vt_condf (by rw [hc, decide_eq_false hp]) (hf hp)
theorem tt_next (h : VT P N y QQ fr w) : TT P N y QQ .normal fr w := h
theorem tt_exit {i : Nat} (h : QQ (.exit i) fr w) : TT P N y QQ (.exit i) fr w := h
theorem tb_exit {id : Nat} (h : QQ .normal fr w) : TB id QQ (.exit id) fr w := by unfold TB; simp only [if_true]; exact h
theorem vt_region {id : Nat} {lst : List Oper} (h : VTL P N lst.toArray QQ lst fr w) : VT P N (.region id lst.toArray false) QQ fr w := fun a ha => wpIn_region_lit (h a ha)
theorem vtl_end (fr' : Fr) (hs : Sub fr fr') (h : QQ .normal fr' w) : VTL P N ops QQ [] fr w := fun a ha => wpListIn_nil ⟨fr', ha.sub hs, h⟩
theorem vtl_det (hs : SL B w0 L w) (h : Det ⟨P, N, B, w0⟩ fr L op ty v) (hn : noDefB ⟨some d, op, ty, pos, af, none⟩ = true) (hd : Nat.blt d N = true) (k : VTL P N ops QQ l ((d, v) :: fr) w) : VTL P N ops QQ (⟨some d, op, ty, pos, af, none⟩ :: l) fr w := fun a ha =>
  wpListIn_plain rfl fun K hK => by
    refine ⟨fun _ _ => trivial, ?_⟩
    rw [Oper.semAt_eq _ _ _ (noDef_of hn), h a w ha hs]
    exact hK _ _ (k _ (ha.put hd v))
/-- a call of yield -/
theorem vtl_yield {g x : Operand} {ats : Array TypeId} {yl : Nat} {u : Value} {T F : World → Prop} (hg : ev fr g = some (.func (.yield yl) #[] #[])) (hx : ev fr x = some u)
    (hy : YieldAt Fence.wide 6 P yl #[u] w fun e w' => (e = .returned (.bool true) ∧ T w') ∨ (e = .returned (.bool false) ∧ F w')) (hd : Nat.blt d N = true)
    (kt : ∀ w', T w' → VTL P N ops QQ l ((d, .bool true) :: fr) w') (kf : ∀ w', F w' → VTL P N ops QQ l ((d, .bool false) :: fr) w') :
    VTL P N ops QQ (⟨some d, .call { callee := .value g, args := #[x], argTypes := ats }, ty, pos, af, none⟩ :: l) fr w := fun a ha =>
  wpListIn_plain rfl fun K hK => by
    obtain ⟨fn, tmps, assign, body, h1, h2⟩ := hy
    refine ⟨fun _ _ => trivial, ?_⟩
    rw [Oper.semAt_eq _ _ _ (fun c e => by cases e)]
    have he : (execOp a.eval ⟨some d, .call { callee := .value g, args := #[x], argTypes := ats }, ty, pos, af, none⟩).run P w = .ok (.round yl fn tmps assign body) w := by
      have hg' := ha.tmp hg
      have hx' := ha.tmp hx
      simp [execOp, resolve, hg', hx', Deferred.ofValue, invoke, h1]
    rw [he]
    refine ⟨fun h => by simp [Fence.wide] at h, h2.mono fun e w' hh => ?_⟩
    rcases hh with ⟨rfl, hT⟩ | ⟨rfl, hF⟩
    · exact hK _ _ (kt w' hT _ (ha.put hd _))
    · exact hK _ _ (kf w' hF _ (ha.put hd _))
theorem vtq_region {id : Nat} {lst : List Oper} (hm : P.follows .mixedOrders = true) (hB : Region.lexB .any lst.toArray = true) (h : VTQ P N w lst.toArray (fun fr' => ∀ n, QQ .normal fr' (w.drewN n)) lst fr) : VT P N (.region id lst.toArray true) QQ fr w := fun a ha => by
  refine wpIn_wide.2 (wp_region_quiet_lit hm hB ?_)
  have hmono : ∀ (l : List Oper) (a : Act) {ops : Array Oper} {Q Q' : Act → Prop}, (∀ a, Q a → Q' a) → wpQuiet P ops (fun w' => ∃ n, w' = w.drewN n) Q l a → wpQuiet P ops (fun w' => ∃ n, w' = w.drewN n) Q' l a := by
    intro l
    induction l with
    | nil => intro a ops Q Q' hq h; exact hq _ h
    | cons o l ih =>
      intro a ops Q Q' hq h
      unfold wpQuiet at h ⊢
      split
      · rename_i hw; rw [if_pos hw] at h; exact Oper.quiet_mono (fun a h => ih a hq h) h
      · rename_i hw; rw [if_neg hw] at h; exact ih _ hq h
  exact hmono lst a (fun a' ⟨fr', h1, h2⟩ w' ⟨n, hn⟩ => ⟨fr', h1, hn ▸ h2 n⟩) (h a ha)
theorem vtq_end (fr' : Fr) (hs : Sub fr fr') (h : QF fr') : VTQ P N w ops QF [] fr := fun a ha => wpQuiet_nil ⟨fr', ha.sub hs, h⟩
theorem vtq_det (hs : SL B w0 L w) (h : Det ⟨P, N, B, w0⟩ fr L op ty v) (hd : Nat.blt d N = true) (k : VTQ P N w ops QF l ((d, v) :: fr)) : VTQ P N w ops QF (⟨some d, op, ty, pos, af, none⟩ :: l) fr := fun a ha =>
  wpQuiet_step fun K hK => by
    rw [if_pos (by rfl)]
    refine ⟨v, fun w' hw' => ?_, hK _ (k _ (ha.put hd v))⟩
    obtain ⟨n, rfl⟩ := hw'
    unfold Oper.quietAt
    rw [h a _ ha (hs.drewN n)]
    exact ⟨rfl, rfl⟩
def slotN (t : Nat) (a : Act) : Nat := match a.tmps[t]? with
  | some (.int _ z) => z.toNat
  | _ => 0
theorem vt_loop (ok : Nat → World → Prop) (F : Nat → Fr) (t M : Nat) (pos : Nat → Nat) (hpos : ∀ i, look t (F i) = some (.int .i64 (pos i : Nat))) (i0 : Nat) (h0 : ok i0 w) (hf : Sub fr (F i0))
    (round : ∀ i w, ok i w → VT P N x (fun e fr w => match e with | .normal => ∃ i', ok i' w ∧ M - pos i' < M - pos i ∧ Sub fr (F i') | e => QQ e fr w) (F i) w) : VT P N (.loop x) QQ fr w := fun a ha => by
  have hm : ∀ i a, Agr N (F i) a → slotN t a = pos i := fun i a ha => by
    unfold slotN
    rw [ha.at_ _ _ (hpos i)]
    simp
  refine wpIn_loop (fun a w => ∃ i, ok i w ∧ Agr N (F i) a) (fun a w => M - slotN t a) ⟨i0, h0, ha.sub hf⟩ ?_
  rintro a w ⟨i, e2, e3⟩
  refine wpIn_mono (round i w e2 a e3) fun e a' w' ⟨fr', ha', hq⟩ => ?_
  cases e with
  | normal =>
    obtain ⟨i', k1, k2, k3⟩ := hq
    refine ⟨⟨i', k1, ha'.sub k3⟩, ?_⟩
    rw [hm i a e3, hm i' a' (ha'.sub k3)]
    exact k2
  | _ => exact ⟨fr', ha', hq⟩
end
end Go.Proofs.Ytpamjobiohbibaa
namespace Go.Proofs.Ytpamjobiohbibaa
open Go.RowKit
set_option linter.unusedVariables false
set_option maxRecDepth 20000
section
variable {C : Cx} {fr : Fr} {L : List Ch} {x y z u : Operand} {t ty e : TypeId} {m n q : Int} {k : IntKind}
theorem det_slice_max {A : Option Addr} {nn c i j size : Nat} {k' k2 : IntKind} (ht : C.P.underlying t = some (.slice e)) (hz : (C.P.info? e).map (·.size) = some size) (he : ev fr x = some (.slice A nn c)) (hy : ev fr y = some (.int k m)) (hm : m = (i : Int)) (hz2 : ev fr z = some (.int k' n)) (hn : n = (j : Int)) (hu : ev fr u = some (.int k2 q)) (hq : q = (j : Int)) (hij : i < j) (hj : j ≤ c) :
    Det C fr L (.slice t x (some y) (some z) (some u)) ty (.slice (A.map (·.add (i * size))) (j - i) (j - i)) := fun a w ha hw d pos af gg => by
  subst hm
  subst hn
  subst hq
  have h1 : ¬ j = i := by omega
  have h2 : i ≤ j := by omega
  simp [execOp, Instr.sliceAt, Instr.slice, Instr.sliceBounds, Instr.sliceBound, asIntOf, run_underlying ht, ha.tmp he, ha.tmp hy, ha.tmp hz2, ha.tmp hu, h1, h2, hj, isSz hz]
end
def chE (sz n i : Nat) : Nat := min sz (n - i * sz)
def chV (A : Option Addr) (sz n i : Nat) : Value := .slice (A.map (·.add (i * sz))) (chE sz n i) (chE sz n i)
def chN (sz n : Nat) : Nat := (n + (sz - 1)) / sz
theorem chN_lt {sz n i : Nat} (h : 1 ≤ sz) : i < chN sz n ↔ i * sz < n := by
  unfold chN
  rw [Nat.lt_iff_add_one_le, Nat.le_div_iff_mul_le (by omega), Nat.succ_mul]
  omega
theorem agr_ini {N : Nat} {args : List Value} {fr0 : Fr} (hl : args.length ≤ N) (hi : Ini N args fr0) : Agr N fr0 { tmps := args.toArray ++ Array.replicate (N - args.toArray.size) undef, defers := [] } := by
  refine ⟨rfl, by simp; omega, fun t v ht => ?_⟩
  obtain ⟨h1, h2⟩ := hi.look t v ht
  simp only [List.size_toArray]
  by_cases hlt : t < args.length
  · rw [Array.getElem?_append_left (by simpa using hlt)]
    simp [hlt] at h2
    simp [hlt, h2]
  · rw [Array.getElem?_append_right (by simpa using hlt)]
    have h3 : args[t]? = none := List.getElem?_eq_none (by omega)
    simp [h3] at h2
    subst h2
    simp
    rw [Array.getElem?_replicate, if_pos (by omega)]
/-- what the iterator says at its end -/
def TE (A B : World → Prop) : Exit → Fr → World → Prop
  | .normal, _, w | .ret, _, w => A w ∨ B w
  | _, _, _ => False
theorem chunk_stops {B g2 g3 : Nat} {A : Option Addr} {n c sz : Nat} (hsz : 1 ≤ sz) (hs2 : sz ≤ 1000) (hn : n ≤ 1000000000000000) (hnc : n ≤ c) (hg : g2 ≠ g3) (w : World)
    (h2 : (Ch.blk g2 26 [.slice A n c]).holds B w) (h3 : (Ch.blk g3 3 [.int .i64 sz]).holds B w) :
    SeqStopsK Fence.wide 7 Try.prog 111 [.pointer (some ⟨g2, 0, none⟩), .pointer (some ⟨g3, 0, none⟩)].toArray (fun x : Fin (chN sz n) => #[chV A sz n x.val])
      (KpOf B [.blk g2 26 [.slice A n c], .blk g3 3 [.int .i64 sz]]) (fun xs => xs.map (·.val) = List.range (chN sz n)) (fun _ => True) (chN sz n) w := by
  intro l J Jx W hW hJ hJx hY h0
  have hsl : ∀ w : World, (∀ q ∈ [Ch.blk g2 26 [.slice A n c], .blk g3 3 [.int .i64 sz]], q.holds B w) → SL 0 w [Ch.blk g2 26 [.slice A n c], .blk g3 3 [.int .i64 sz]] w := fun w h => by
    refine ⟨Below.refl _ _, Nat.zero_le _, fun c hc => ?_, List.pairwise_cons.2 ⟨fun d hd => ?_, List.pairwise_cons.2 ⟨fun _ h => (by cases h), List.Pairwise.nil⟩⟩⟩
    · have := h c hc
      simp only [List.mem_cons, List.not_mem_nil, or_false] at hc
      rcases hc with rfl | rfl <;> exact ⟨Nat.zero_le _, this.2⟩
    · rw [List.mem_singleton.1 hd]
      exact .inr fun e => hg (Option.some.inj e)
  have hlt2 := (h2.lt rfl).2
  have hlt3 := (h3.lt rfl).2
  have hW0 : ∀ q ∈ [Ch.blk g2 26 [.slice A n c], .blk g3 3 [.int .i64 sz]], q.holds B W := by
    intro c hc
    simp only [List.mem_cons, List.not_mem_nil, or_false] at hc
    rcases hc with rfl | rfl
    · exact h2.keep fun g hg => by cases hg; exact hW.block _ hlt2
    · exact h3.keep fun g hg => by cases hg; exact hW.block _ hlt3
  have hdr : ∀ pre (w : World) k, J pre w → J pre (w.drewN k) := fun pre w k h => hJ pre w _ none h (grownBy_drewN w k) (fun r e => by cases e)
  generalize hLk : [Ch.blk g2 26 [.slice A n c], .blk g3 3 [.int .i64 sz]] = Lk at *
  refine callsIn_of_wp Try.func111 rfl trivial (wpIn_mono (Q := tpost 31 (TE (fun w => ∃ xs : List (Fin (chN sz n)), xs.map (·.val) = List.range (chN sz n) ∧ J xs w) (fun w => ∃ pre, True ∧ Jx pre w))) ?_ ?_) rfl
  · have ha := agr_ini (N := 31) (args := [.func (.yield l) #[] #[], .pointer (some ⟨g2, 0, none⟩), .pointer (some ⟨g3, 0, none⟩)]) (fr0 := [(0, .func (.yield l) #[] #[]), (1, .pointer (some ⟨g2, 0, none⟩)), (2, .pointer (some ⟨g3, 0, none⟩))]) (by simp) ⟨⟨rfl, rfl⟩, ⟨rfl, rfl⟩, ⟨rfl, rfl⟩, trivial⟩
    refine (?_ : VT Try.prog 31 _ _ _ W) _ ha
    refine vt_seq (vt_region ?_)
    refine vtl_det (hsl W hW0) (det_assign rfl) rfl rfl ?_
    refine vtl_end [(0, _), (1, _), (2, _), (4, _)] ⟨rfl, rfl, rfl, rfl, trivial⟩ ?_
    refine tt_next (vt_block ?_)
    refine vt_loop (fun i w => i ≤ chN sz n ∧ (∀ c ∈ Lk, c.holds B w) ∧ ∃ pre : List (Fin (chN sz n)), pre.map (·.val) = List.range i ∧ J pre w) (fun i => [(0, .func (.yield l) #[] #[]), (1, .pointer (some ⟨g2, 0, none⟩)), (2, .pointer (some ⟨g3, 0, none⟩)), (4, .int .i64 ((i * sz : Nat) : Int))]) 4 (n + sz) (fun i => i * sz) (fun i => rfl) 0 ⟨Nat.zero_le _, hW0, [], rfl, h0⟩ ⟨rfl, rfl, rfl, by rw [Nat.zero_mul]; rfl, trivial⟩ ?_
    rintro i w ⟨hi, hh, pre, hpre, hJp⟩
    have hs := hsl w hh
    rw [← hLk] at hs
    refine vt_seq (vt_seq (vt_region ?_))
    refine vtl_det hs (det_move rfl) rfl rfl ?_
    refine vtl_det hs (det_load_blk (by kernel_rfl) rfl (by repeat (first | exact .hd | apply Sel.tl)) rfl) rfl rfl ?_
    refine vtl_det hs (det_len_sl Try.underlying26 rfl) rfl rfl ?_
    refine vtl_det hs (det_lss rfl rfl) rfl rfl ?_
    refine vtl_end [(0, _), (1, _), (2, _), (4, _), (9, _)] ⟨rfl, rfl, rfl, rfl, rfl, trivial⟩ ?_
    refine tt_next (vt_decide rfl (fun hlt => ?_) (fun hlt => ?_))
    · refine vt_skip ?_
      have hin : i * sz < n := by omega
      have hiN := (chN_lt hsz).2 hin
      have hlen : pre.length < chN sz n := by
        have := congrArg List.length hpre
        simp at this
        omega
      have hE1 : 1 ≤ chE sz n i := by unfold chE; omega
      have hE2 : chE sz n i ≤ sz := by unfold chE; omega
      have hE3 : i * sz + chE sz n i ≤ n := by unfold chE; omega
      have hss : (i + 1) * sz = i * sz + sz := Nat.succ_mul i sz
      refine tt_next (vt_seq (vt_block (vt_seq (vtq_region (by kernel_rfl) (by kernel_rfl) ?_))))
      refine vtq_det hs (det_load_blk (by kernel_rfl) rfl (by repeat (first | exact .hd | apply Sel.tl)) rfl) rfl ?_
      refine vtq_det hs (det_load_blk (by kernel_rfl) rfl (by repeat (first | exact .hd | apply Sel.tl)) rfl) rfl ?_
      refine vtq_det hs (det_move rfl) rfl ?_
      refine vtq_det hs (det_slice_lo (i := i * sz) (size := 1) Try.underlying26 (by kernel_rfl) rfl rfl rfl (by omega)) rfl ?_
      refine vtq_det hs (det_len_sl Try.underlying26 rfl) rfl ?_
      refine vtq_det hs (det_min rfl rfl) rfl ?_
      refine vtq_det hs (det_assign rfl) rfl ?_
      rw [show min (sz : Int) ((n - i * sz : Nat) : Int) = ((chE sz n i : Nat) : Int) by unfold chE; omega]
      refine vtq_end [(0, _), (1, _), (2, _), (4, _), (5, _)] ⟨rfl, rfl, rfl, rfl, rfl, trivial⟩ ?_
      intro kd
      have hJd := hdr pre w kd hJp
      have hhd : ∀ c ∈ Lk, c.holds B (w.drewN kd) := fun c hc => (hh c hc).keep fun g hg => rfl
      clear hh hJp hs
      generalize w.drewN kd = w at *
      have hs := hsl w hhd
      rw [← hLk] at hs
      refine tt_next (vt_seq (vt_region ?_))
      refine vtl_det hs (det_move rfl) rfl rfl ?_
      refine vtl_det hs (det_load_blk (by kernel_rfl) rfl (by repeat (first | exact .hd | apply Sel.tl)) rfl) rfl rfl ?_
      refine vtl_det hs (det_move rfl) rfl rfl ?_
      refine vtl_det hs (det_move rfl) rfl rfl ?_
      refine vtl_det hs (det_move rfl) rfl rfl ?_
      refine vtl_det hs (det_add rfl rfl (w_i64 (by omega) (by omega))) rfl rfl ?_
      refine vtl_det hs (det_move rfl) rfl rfl ?_
      refine vtl_det hs (det_move rfl) rfl rfl ?_
      refine vtl_det hs (det_add rfl rfl (w_i64 (by omega) (by omega))) rfl rfl ?_
      refine vtl_det hs (det_slice_max (i := i * sz) (j := i * sz + chE sz n i) (size := 1) Try.underlying26 (by kernel_rfl) rfl rfl rfl rfl (by omega) rfl (by omega) (by omega) (by omega)) rfl rfl ?_
      rw [Nat.mul_one, Nat.add_sub_cancel_left]
      refine vtl_yield (u := chV A sz n i) rfl rfl (hY pre ⟨i, hiN⟩ w hJd hlen) rfl ?_ ?_
      · rintro w' ⟨hJ', hK⟩
        have hh' : ∀ c ∈ Lk, c.holds B w' := fun c hc => hK c hc (hhd c hc)
        have hs := hsl w' hh'
        rw [← hLk] at hs
        refine vtl_det hs (det_not_t rfl) rfl rfl ?_
        refine vtl_end [(0, _), (1, _), (2, _), (4, _), (30, _)] ⟨rfl, rfl, rfl, rfl, rfl, trivial⟩ ?_
        refine tt_next (vt_condf rfl (vt_skip ?_))
        refine tt_next (vt_region ?_)
        refine vtl_det hs (det_move rfl) rfl rfl ?_
        refine vtl_det hs (det_load_blk (by kernel_rfl) rfl (by repeat (first | exact .hd | apply Sel.tl)) rfl) rfl rfl ?_
        refine vtl_det hs (det_add rfl rfl (r := (((i + 1) * sz : Nat) : Int)) ((w_i64 (by omega) (by omega)).trans (by omega))) rfl rfl ?_
        refine vtl_det hs (det_assign rfl) rfl rfl ?_
        refine vtl_end [(0, _), (1, _), (2, _), (4, _)] ⟨rfl, rfl, rfl, rfl, trivial⟩ ?_
        exact ⟨i + 1, ⟨hiN, hh', pre ++ [⟨i, hiN⟩], by rw [List.map_append, hpre, List.range_succ]; rfl, hJ'⟩, by omega, rfl, rfl, rfl, rfl, trivial⟩
      · intro w' hJ'
        have hs0 : SL w'.heap.size w' [] w' := SL.nil_ w'
        refine vtl_det hs0 (det_not_f rfl) rfl rfl ?_
        refine vtl_end [(30, _)] ⟨rfl, trivial⟩ ?_
        refine tt_next (vt_condt rfl (vt_ret ?_))
        exact .inr ⟨_, trivial, hJ'⟩
    · refine vt_exit ?_
      refine tt_exit ?_
      show TB 0 _ (Exit.exit 0) _ _
      refine tb_exit ?_
      have hge : ¬ i < chN sz n := fun h => hlt (by have := (chN_lt hsz).1 h; omega)
      obtain rfl : i = chN sz n := by omega
      exact .inl ⟨pre, hpre, hJp⟩
  · rintro e a w ⟨fr, ha, hq⟩
    cases e <;> first
      | exact hq.elim
      | exact ⟨ha.defers, _, results_none rfl _ _ _, ⟨_, rfl⟩, hq⟩
end Go.Proofs.Ytpamjobiohbibaa
namespace Go.Proofs.Ytpamjobiohbibaa
open Go.RowKit
set_option linter.unusedVariables false
set_option maxRecDepth 20000
variable {B : Nat} {w0 : World} {F : List Ch} {A A1 A2 : Option Addr} {n c c1 c2 g : Nat}
theorem dmay_d (was s : Txt) : Does Try.prog B w0 110 [.string ⟨was.toArray⟩, .string ⟨s.toArray⟩] F (fun r L => r = .bool (decide (mayT was s)) ∧ L = F) := by
  refine fn_walk Try.func110 17 rfl rfl rfl [(0, .string ⟨was.toArray⟩), (1, .string ⟨s.toArray⟩)] ⟨⟨rfl, rfl⟩, ⟨rfl, rfl⟩, trivial⟩ ?_
  refine vc_seq ?_
  refine vc_region ?_
  refine vl_det (det_assign rfl) rfl ?_
  refine vl_end [(0, _), (1, _)] ⟨rfl, rfl, trivial⟩ ?_
  refine then_next ?_
  refine vc_seq ?_
  refine vc_region ?_
  refine vl_cut 12 16 [] (mayT was s) trivial ?_ ?_
  · skip
    refine vl_det (det_move rfl) rfl ?_
    refine vl_det (det_s_neq (r := []) rfl rfl) rfl ?_
    refine vl_det (det_move rfl) rfl ?_
    refine vl_guardp rfl rfl rfl (fun h7 => ?_) (fun h7 => ?_)
    · skip
      refine vl_det (det_move rfl) rfl ?_
      refine vl_guard_t rfl rfl ?_
      refine vl_det (det_len_s Try.underlying9 rfl) rfl ?_
      refine vl_guard_t rfl rfl ?_
      refine vl_det (det_leq rfl rfl) rfl ?_
      refine vl_det (det_pick_t rfl rfl) rfl ?_
      refine vl_det (det_move rfl) rfl ?_
      refine vl_guardp rfl rfl rfl (fun h12 => ?_) (fun h12 => ?_)
      · skip
        refine vl_det (det_move rfl) rfl ?_
        refine vl_guard_t rfl rfl ?_
        refine vl_det (det_move rfl) rfl ?_
        refine vl_guard_t rfl rfl ?_
        refine vl_det (det_s_gtrD rfl rfl) rfl ?_
        refine vl_det (det_pick_t rfl rfl) rfl ?_
        exact vl_cut_end trivial (by first | rfl | exact bool_to_t (by first | exact fun h => absurd h.1 (by assumption) | exact fun h => absurd h.2.1 (by omega) | exact ⟨fun h => ⟨by assumption, by omega, h⟩, fun h => h.2.2⟩) | exact bool_to_f (by first | exact fun h => absurd h.1 (by assumption) | exact fun h => absurd h.2.1 (by omega) | exact ⟨fun h => ⟨by assumption, by omega, h⟩, fun h => h.2.2⟩) | exact bool_to (by first | exact fun h => absurd h.1 (by assumption) | exact fun h => absurd h.2.1 (by omega) | exact ⟨fun h => ⟨by assumption, by omega, h⟩, fun h => h.2.2⟩) | exact bool_to_b (by first | exact fun h => absurd h.1 (by assumption) | exact fun h => absurd h.2.1 (by omega) | exact ⟨fun h => ⟨by assumption, by omega, h⟩, fun h => h.2.2⟩))
      · skip
        refine vl_guard_f rfl rfl rfl rfl ?_
        refine vl_guard_f rfl rfl rfl rfl ?_
        refine vl_det (det_pick_f rfl rfl) rfl ?_
        exact vl_cut_end trivial (by first | rfl | exact bool_to_t (by first | exact fun h => absurd h.1 (by assumption) | exact fun h => absurd h.2.1 (by omega) | exact ⟨fun h => ⟨by assumption, by omega, h⟩, fun h => h.2.2⟩) | exact bool_to_f (by first | exact fun h => absurd h.1 (by assumption) | exact fun h => absurd h.2.1 (by omega) | exact ⟨fun h => ⟨by assumption, by omega, h⟩, fun h => h.2.2⟩) | exact bool_to (by first | exact fun h => absurd h.1 (by assumption) | exact fun h => absurd h.2.1 (by omega) | exact ⟨fun h => ⟨by assumption, by omega, h⟩, fun h => h.2.2⟩) | exact bool_to_b (by first | exact fun h => absurd h.1 (by assumption) | exact fun h => absurd h.2.1 (by omega) | exact ⟨fun h => ⟨by assumption, by omega, h⟩, fun h => h.2.2⟩))
    · skip
      refine vl_guard_f rfl rfl rfl rfl ?_
      refine vl_guard_f rfl rfl rfl rfl ?_
      refine vl_det (det_pick_f rfl rfl) rfl ?_
      refine vl_det (det_move rfl) rfl ?_
      refine vl_guard_f rfl rfl rfl rfl ?_
      refine vl_guard_f rfl rfl rfl rfl ?_
      refine vl_guard_f rfl rfl rfl rfl ?_
      refine vl_det (det_pick_f rfl rfl) rfl ?_
      exact vl_cut_end trivial (by first | rfl | exact bool_to_t (by first | exact fun h => absurd h.1 (by assumption) | exact fun h => absurd h.2.1 (by omega) | exact ⟨fun h => ⟨by assumption, by omega, h⟩, fun h => h.2.2⟩) | exact bool_to_f (by first | exact fun h => absurd h.1 (by assumption) | exact fun h => absurd h.2.1 (by omega) | exact ⟨fun h => ⟨by assumption, by omega, h⟩, fun h => h.2.2⟩) | exact bool_to (by first | exact fun h => absurd h.1 (by assumption) | exact fun h => absurd h.2.1 (by omega) | exact ⟨fun h => ⟨by assumption, by omega, h⟩, fun h => h.2.2⟩) | exact bool_to_b (by first | exact fun h => absurd h.1 (by assumption) | exact fun h => absurd h.2.1 (by omega) | exact ⟨fun h => ⟨by assumption, by omega, h⟩, fun h => h.2.2⟩))
  · skip
    refine vl_det (det_assign rfl) rfl ?_
    refine vl_end [(4, _)] ⟨rfl, trivial⟩ ?_
    refine then_next ?_
    refine vc_ret ?_
    refine ret1 rfl rfl ?_
    exact ⟨rfl, rfl⟩
theorem dsame_d (s r : Txt) (hs : s.length ≤ 1000000000000000) : Does Try.prog B w0 113 [.string ⟨s.toArray⟩, .string ⟨r.toArray⟩] F (fun v L => v = .int .i64 (lcp s r) ∧ L = F) := by
  have hle := (lcp_le s r).1
  refine fn_walk Try.func113 28 rfl rfl rfl [(0, .string ⟨s.toArray⟩), (1, .string ⟨r.toArray⟩)] ⟨⟨rfl, rfl⟩, ⟨rfl, rfl⟩, trivial⟩ ?_
  refine vc_seq ?_
  refine vc_region ?_
  refine vl_det (det_assign rfl) rfl ?_
  refine vl_end [(0, _), (1, _)] ⟨rfl, rfl, trivial⟩ ?_
  refine then_next ?_
  refine vc_seq ?_
  refine vc_region ?_
  refine vl_det (det_assign rfl) rfl ?_
  refine vl_end [(0, _), (1, _), (5, _)] ⟨rfl, rfl, rfl, trivial⟩ ?_
  refine then_next ?_
  refine vc_seq ?_
  refine vc_block ?_
  refine vc_loopJ (fun zf zL zm => ∃ (k : Nat), (k ≤ lcp s r) ∧ lcp s r - k = zm ∧ Sub zf [(0, .string ⟨s.toArray⟩), (1, .string ⟨r.toArray⟩), (5, .int .i64 k)] ∧ Wk zL (F)) _ ⟨0, Nat.zero_le _, rfl, ⟨(by first | rfl | exact int_to (by omega) | exact sl_to (by omega)), (by first | rfl | exact int_to (by omega) | exact sl_to (by omega)), (by first | rfl | exact int_to (by omega) | exact sl_to (by omega)), trivial⟩, .refl _⟩ ?_
  rintro _ _ _ ⟨k, hk, rfl, hs, hp⟩
  refine vc_weaken _ hs (vc_wk hp ?_)
  clear hs hp
  refine vc_seq ?_
  refine vc_seq ?_
  refine vq_region (by kernel_rfl) (by kernel_rfl) ?_
  refine vq_cut 19 24 [(0, _), (1, _), (5, _)] (k < lcp s r) ⟨rfl, rfl, rfl, trivial⟩ ?_ ?_
  · skip
    refine vq_det (det_move rfl) rfl ?_
    refine vq_det (det_move rfl) rfl ?_
    refine vq_det (det_len_s Try.underlying9 rfl) rfl ?_
    refine vq_det (det_lss rfl rfl) rfl ?_
    refine vq_det (det_move rfl) rfl ?_
    refine vq_guardp rfl rfl rfl (fun h10 => ?_) (fun h10 => ?_)
    · skip
      refine vq_det (det_move rfl) rfl ?_
      refine vq_guard_t rfl rfl ?_
      refine vq_det (det_move rfl) rfl ?_
      refine vq_guard_t rfl rfl ?_
      refine vq_det (det_len_s Try.underlying9 rfl) rfl ?_
      refine vq_guard_t rfl rfl ?_
      refine vq_det (det_lss rfl rfl) rfl ?_
      refine vq_det (det_pick_t rfl rfl) rfl ?_
      refine vq_det (det_move rfl) rfl ?_
      refine vq_guardp rfl rfl rfl (fun h16 => ?_) (fun h16 => ?_)
      · skip
        refine vq_det (det_move rfl) rfl ?_
        refine vq_guard_t rfl rfl ?_
        refine vq_det (det_move rfl) rfl ?_
        refine vq_guard_t rfl rfl ?_
        refine vq_det (det_at_str Try.underlying9 rfl rfl rfl (by omega)) rfl ?_
        refine vq_guard_t rfl rfl ?_
        refine vq_det (det_move rfl) rfl ?_
        refine vq_guard_t rfl rfl ?_
        refine vq_det (det_move rfl) rfl ?_
        refine vq_guard_t rfl rfl ?_
        refine vq_det (det_at_str Try.underlying9 rfl rfl rfl (by omega)) rfl ?_
        refine vq_guard_t rfl rfl ?_
        refine vq_det (det_eql rfl rfl) rfl ?_
        refine vq_det (det_pick_t rfl rfl) rfl ?_
        exact vq_cut_end ⟨rfl, rfl, rfl, trivial⟩ (by first | rfl | exact bool_to_t (by first | exact fun h => absurd ((lcp_step s r k hk).1 h).1.1 (by omega) | exact fun h => absurd ((lcp_step s r k hk).1 h).1.2 (by omega) | exact ⟨fun h => (lcp_step s r k hk).2 ⟨⟨by omega, by omega⟩, UInt8.toNat_inj.1 (by omega)⟩, fun h => by rw [((lcp_step s r k hk).1 h).2]⟩) | exact bool_to_f (by first | exact fun h => absurd ((lcp_step s r k hk).1 h).1.1 (by omega) | exact fun h => absurd ((lcp_step s r k hk).1 h).1.2 (by omega) | exact ⟨fun h => (lcp_step s r k hk).2 ⟨⟨by omega, by omega⟩, UInt8.toNat_inj.1 (by omega)⟩, fun h => by rw [((lcp_step s r k hk).1 h).2]⟩) | exact bool_to (by first | exact fun h => absurd ((lcp_step s r k hk).1 h).1.1 (by omega) | exact fun h => absurd ((lcp_step s r k hk).1 h).1.2 (by omega) | exact ⟨fun h => (lcp_step s r k hk).2 ⟨⟨by omega, by omega⟩, UInt8.toNat_inj.1 (by omega)⟩, fun h => by rw [((lcp_step s r k hk).1 h).2]⟩) | exact bool_to_b (by first | exact fun h => absurd ((lcp_step s r k hk).1 h).1.1 (by omega) | exact fun h => absurd ((lcp_step s r k hk).1 h).1.2 (by omega) | exact ⟨fun h => (lcp_step s r k hk).2 ⟨⟨by omega, by omega⟩, UInt8.toNat_inj.1 (by omega)⟩, fun h => by rw [((lcp_step s r k hk).1 h).2]⟩))
      · skip
        refine vq_guard_f rfl rfl rfl rfl ?_
        refine vq_guard_f rfl rfl rfl rfl ?_
        refine vq_guard_f rfl rfl rfl rfl ?_
        refine vq_guard_f rfl rfl rfl rfl ?_
        refine vq_guard_f rfl rfl rfl rfl ?_
        refine vq_guard_f rfl rfl rfl rfl ?_
        refine vq_det (det_pick_f rfl rfl) rfl ?_
        exact vq_cut_end ⟨rfl, rfl, rfl, trivial⟩ (by first | rfl | exact bool_to_t (by first | exact fun h => absurd ((lcp_step s r k hk).1 h).1.1 (by omega) | exact fun h => absurd ((lcp_step s r k hk).1 h).1.2 (by omega) | exact ⟨fun h => (lcp_step s r k hk).2 ⟨⟨by omega, by omega⟩, UInt8.toNat_inj.1 (by omega)⟩, fun h => by rw [((lcp_step s r k hk).1 h).2]⟩) | exact bool_to_f (by first | exact fun h => absurd ((lcp_step s r k hk).1 h).1.1 (by omega) | exact fun h => absurd ((lcp_step s r k hk).1 h).1.2 (by omega) | exact ⟨fun h => (lcp_step s r k hk).2 ⟨⟨by omega, by omega⟩, UInt8.toNat_inj.1 (by omega)⟩, fun h => by rw [((lcp_step s r k hk).1 h).2]⟩) | exact bool_to (by first | exact fun h => absurd ((lcp_step s r k hk).1 h).1.1 (by omega) | exact fun h => absurd ((lcp_step s r k hk).1 h).1.2 (by omega) | exact ⟨fun h => (lcp_step s r k hk).2 ⟨⟨by omega, by omega⟩, UInt8.toNat_inj.1 (by omega)⟩, fun h => by rw [((lcp_step s r k hk).1 h).2]⟩) | exact bool_to_b (by first | exact fun h => absurd ((lcp_step s r k hk).1 h).1.1 (by omega) | exact fun h => absurd ((lcp_step s r k hk).1 h).1.2 (by omega) | exact ⟨fun h => (lcp_step s r k hk).2 ⟨⟨by omega, by omega⟩, UInt8.toNat_inj.1 (by omega)⟩, fun h => by rw [((lcp_step s r k hk).1 h).2]⟩))
    · skip
      refine vq_guard_f rfl rfl rfl rfl ?_
      refine vq_guard_f rfl rfl rfl rfl ?_
      refine vq_guard_f rfl rfl rfl rfl ?_
      refine vq_det (det_pick_f rfl rfl) rfl ?_
      refine vq_det (det_move rfl) rfl ?_
      refine vq_guard_f rfl rfl rfl rfl ?_
      refine vq_guard_f rfl rfl rfl rfl ?_
      refine vq_guard_f rfl rfl rfl rfl ?_
      refine vq_guard_f rfl rfl rfl rfl ?_
      refine vq_guard_f rfl rfl rfl rfl ?_
      refine vq_guard_f rfl rfl rfl rfl ?_
      refine vq_guard_f rfl rfl rfl rfl ?_
      refine vq_det (det_pick_f rfl rfl) rfl ?_
      exact vq_cut_end ⟨rfl, rfl, rfl, trivial⟩ (by first | rfl | exact bool_to_t (by first | exact fun h => absurd ((lcp_step s r k hk).1 h).1.1 (by omega) | exact fun h => absurd ((lcp_step s r k hk).1 h).1.2 (by omega) | exact ⟨fun h => (lcp_step s r k hk).2 ⟨⟨by omega, by omega⟩, UInt8.toNat_inj.1 (by omega)⟩, fun h => by rw [((lcp_step s r k hk).1 h).2]⟩) | exact bool_to_f (by first | exact fun h => absurd ((lcp_step s r k hk).1 h).1.1 (by omega) | exact fun h => absurd ((lcp_step s r k hk).1 h).1.2 (by omega) | exact ⟨fun h => (lcp_step s r k hk).2 ⟨⟨by omega, by omega⟩, UInt8.toNat_inj.1 (by omega)⟩, fun h => by rw [((lcp_step s r k hk).1 h).2]⟩) | exact bool_to (by first | exact fun h => absurd ((lcp_step s r k hk).1 h).1.1 (by omega) | exact fun h => absurd ((lcp_step s r k hk).1 h).1.2 (by omega) | exact ⟨fun h => (lcp_step s r k hk).2 ⟨⟨by omega, by omega⟩, UInt8.toNat_inj.1 (by omega)⟩, fun h => by rw [((lcp_step s r k hk).1 h).2]⟩) | exact bool_to_b (by first | exact fun h => absurd ((lcp_step s r k hk).1 h).1.1 (by omega) | exact fun h => absurd ((lcp_step s r k hk).1 h).1.2 (by omega) | exact ⟨fun h => (lcp_step s r k hk).2 ⟨⟨by omega, by omega⟩, UInt8.toNat_inj.1 (by omega)⟩, fun h => by rw [((lcp_step s r k hk).1 h).2]⟩))
  · skip
    refine vq_end [(0, _), (1, _), (5, _), (24, _)] ⟨rfl, rfl, rfl, rfl, trivial⟩ ?_
    refine then_next ?_
    refine vc_decideU rfl (fun h24 => ?_) (fun h24 => ?_)
    · skip
      refine vc_skip ?_
      refine then_next ?_
      refine vc_block ?_
      refine vc_region ?_
      refine vl_det (det_move rfl) rfl ?_
      refine vl_det (det_add rfl rfl (w_i64 (by omega) (by omega))) rfl ?_
      refine vl_det (det_assign rfl) rfl ?_
      refine vl_end [(0, _), (1, _), (5, _)] ⟨rfl, rfl, rfl, trivial⟩ ?_
      refine in_normal ?_
      refine in_loop_ ⟨_, by omega, k + 1, by omega, rfl, ⟨(by first | rfl | exact int_to (by omega) | exact sl_to (by omega)), (by first | rfl | exact int_to (by omega) | exact sl_to (by omega)), (by first | rfl | exact int_to (by omega) | exact sl_to (by omega)), trivial⟩, .refl _⟩
    · skip
      refine vc_exit ?_
      refine then_exit ?_
      refine loop_exit ?_
      refine in_eq ?_
      refine then_next ?_
      refine vc_seq ?_
      refine vc_region ?_
      refine vl_det (det_move rfl) rfl ?_
      refine vl_det (det_assign rfl) rfl ?_
      refine vl_end [(4, _)] ⟨rfl, trivial⟩ ?_
      refine then_next ?_
      refine vc_ret ?_
      refine ret1 rfl rfl ?_
      exact ⟨by rw [show k = lcp s r by omega], rfl⟩
theorem chunk_d {sz : Nat} (hsz : 1 ≤ sz) : Does Try.prog B w0 63 [.slice A n c, .int .i64 sz] F (fun v L => ∃ g2 g3, v = .func (.func 111) #[] #[.pointer (some ⟨g2, 0, none⟩), .pointer (some ⟨g3, 0, none⟩)] ∧ L = .blk g3 3 [.int .i64 sz] :: .blk g2 26 [.slice A n c] :: F) := by
  refine fn_walk Try.func63 9 rfl rfl rfl [(0, .slice A n c), (1, .int .i64 sz)] ⟨⟨rfl, rfl⟩, ⟨rfl, rfl⟩, trivial⟩ ?_
  refine vc_seq ?_
  refine vc_region ?_
  refine vl_eff (eff_box rfl rfl) rfl ?_
  rintro _ _ ⟨g2, rfl, rfl⟩
  refine vl_eff (eff_box rfl rfl) rfl ?_
  rintro _ _ ⟨g3, rfl, rfl⟩
  refine vl_det (det_assign rfl) rfl ?_
  refine vl_end [(2, _), (3, _)] ⟨rfl, rfl, trivial⟩ ?_
  refine then_next ?_
  refine vc_seq ?_
  refine vc_seq ?_
  refine vc_region ?_
  refine vl_det (det_load_blk (by kernel_rfl) rfl (by repeat (first | exact .hd | apply Sel.tl)) rfl) rfl ?_
  refine vl_det (det_lss rfl rfl) rfl ?_
  refine vl_end [(2, _), (3, _), (6, _)] ⟨rfl, rfl, rfl, trivial⟩ ?_
  refine then_next ?_
  refine vc_decideU rfl (fun h6 => ?_) (fun h6 => ?_)
  · skip
    exfalso; omega
  · skip
    refine vc_skip ?_
    refine then_next ?_
    refine vc_seq ?_
    refine vc_region ?_
    refine vl_det (det_makeFunc rfl rfl) rfl ?_
    refine vl_det (det_assign rfl) rfl ?_
    refine vl_end [(4, _)] ⟨rfl, trivial⟩ ?_
    refine then_next ?_
    refine vc_ret ?_
    refine ret1 rfl rfl ?_
    exact ⟨_, _, rfl, rfl⟩
end Go.Proofs.Ytpamjobiohbibaa
namespace Go.Proofs.Ytpamjobiohbibaa
open Go.RowKit
set_option linter.unusedVariables false
theorem sl_u8 : SlT Try.prog 41 5 1 1 (.int .u8 0) := slT_of Try.underlying41 (by kernel_rfl) rfl (by omega)

theorem num_more {x k : Nat} {pre : List UInt8} (h : encN x = pre ++ encN k) (hk : 128 ≤ k) : encN x = (pre ++ [UInt8.ofNat (128 + k % 128)]) ++ encN (k / 128) := by
  rw [h, encN_ge hk]; simp
theorem or_byte (k : Nat) : bits .or .u8 ((k : Int) % 256) 128 = ((128 + k % 128 : Nat) : Int) := by
  have h := u8_or (k % 256) 128 (by omega) (by omega)
  rw [or_128 _ (by omega)] at h
  rw [show ((k : Int) % 256) = ((k % 256 : Nat) : Int) from by omega]
  refine h.trans ?_
  omega
/-- what the loops keep: so much is out, so much is left -/
def NumAt (x k : Nat) (pre : List UInt8) : Prop := encN x = pre ++ encN k ∧ k ≤ x
theorem NumAt.pre_le {x k : Nat} {pre : List UInt8} (h : NumAt x k pre) (hx : x < 18446744073709551616) : pre.length ≤ 10 := by
  have h1 := congrArg List.length h.1
  have h2 := encN_len10 hx
  simp at h1; omega
theorem NumAt.more {x k : Nat} {pre : List UInt8} (h : NumAt x k pre) (hk : 128 ≤ k) : NumAt x (k / 128) (pre ++ [UInt8.ofNat (128 + k % 128)]) :=
  ⟨num_more h.1 hk, by have := h.2; omega⟩

set_option maxRecDepth 100000 in
set_option maxHeartbeats 400000 in
theorem num_c (x : Nat) (hx : x < 18446744073709551616) (w : World) :
    Calls Try.prog 62 #[.int .u64 x] w fun e w' => ∃ v, e = .returned v ∧ w'.ownsRow w.heap.size 5 1 v (encN x).length (bv (encN x)) ∧ Below w.heap.size w w' := by
  go_enter Try.func62, Try.ntmps62
  go_wp2
  go_loopw [0, 3] (fun xv v wr => ∃ (k : Nat) (pre : List UInt8), xv = .int .u64 k ∧ NumAt x k pre ∧ wr.ownsRow w.heap.size 5 1 v pre.length (bv pre) ∧ Below w.heap.size w wr)
    (fun xv _ _ => (intOf xv).toNat)
  case atStart => exact ⟨x, [], rfl, ⟨rfl, Nat.le_refl _⟩, World.ownsRow_nil _ _ _ _, Below.refl _ _⟩
  case round =>
    obtain ⟨k, pre, rfl, hat, hown, hb⟩ := hrel
    have hlen := hat.pre_le hx
    have hkx : k ≤ x := hat.2
    have hB := hb.size
    have hob := or_byte k
    by_cases h128 : 128 ≤ k
    · go_wp2_with (first | (at_builtin; refine wp_push sl_u8 rfl (.tmp 6) (.tmp 10) rfl rfl hown rfl rfl hb (Nat.le_refl _) hB (by omega) (by omega) ?_; intro v1 w1 hown1 hb1 hs1 hg1))
      go_roundw
      case rel => exact ⟨k / 128, pre ++ [UInt8.ofNat (128 + k % 128)], by go_num, hat.more h128, own_to hown1 (by simp) (by rw [bv_append, bv_one1 _ (by omega)]; congr 2), hb1⟩
      case measure => simp [intOf]; omega
    · go_wp2_with (first | (at_builtin; refine wp_push sl_u8 rfl (.tmp 14) (.tmp 17) rfl rfl hown rfl rfl hb (Nat.le_refl _) hB (by omega) (by omega) ?_; intro v1 w1 hown1 hb1 hs1 hg1))
      go_ret
      have e := hat.1
      rw [encN_lt (by omega : k < 128)] at e
      refine ⟨v1, rfl, own_to hown1 (by rw [e]; simp) ?_, hb1⟩
      rw [e, bv_append, bv_one1 _ (by omega)]

set_option maxRecDepth 100000 in
set_option maxHeartbeats 400000 in
theorem rnum_c (x : Nat) (hx : x < 18446744073709551616) (w : World) :
    Calls Try.prog 72 #[.int .u64 x] w fun e w' => ∃ v, e = .returned v ∧ w'.ownsRow w.heap.size 5 1 v (encN x).length (bv (encN x)) ∧ Below w.heap.size w w' := by
  go_enter Try.func72, Try.ntmps72
  go_wp2
  go_loopw [0, 3] (fun xv v wr => ∃ (k : Nat) (pre : List UInt8), xv = .int .u64 k ∧ NumAt x k pre ∧ wr.ownsRow w.heap.size 5 1 v pre.length (bv pre) ∧ Below w.heap.size w wr)
    (fun xv _ _ => (intOf xv).toNat)
  case atStart => exact ⟨x, [], rfl, ⟨rfl, Nat.le_refl _⟩, World.ownsRow_nil _ _ _ _, Below.refl _ _⟩
  case round =>
    obtain ⟨k, pre, rfl, hat, hown, hb⟩ := hrel
    have hlen := hat.pre_le hx
    have hkx : k ≤ x := hat.2
    have hB := hb.size
    by_cases h128 : 128 ≤ k
    · go_wp2_with (first | (at_builtin; refine wp_push sl_u8 rfl (.tmp 6) (.tmp 11) rfl rfl hown rfl rfl hb (Nat.le_refl _) hB (by omega) (by omega) ?_; intro v1 w1 hown1 hb1 hs1 hg1))
      go_roundw
      case rel => exact ⟨k / 128, pre ++ [UInt8.ofNat (128 + k % 128)], by go_num, hat.more h128, own_to hown1 (by simp) (by rw [bv_append, bv_one1 _ (by omega)]; congr 2), hb1⟩
      case measure => simp [intOf]; omega
    · go_wp2_with (first | (at_builtin; refine wp_push sl_u8 rfl (.tmp 15) (.tmp 18) rfl rfl hown rfl rfl hb (Nat.le_refl _) hB (by omega) (by omega) ?_; intro v1 w1 hown1 hb1 hs1 hg1))
      go_ret
      have e := hat.1
      rw [encN_lt (by omega : k < 128)] at e
      refine ⟨v1, rfl, own_to hown1 (by rw [e]; simp) ?_, hb1⟩
      rw [e, bv_append, bv_one1 _ (by omega)]
theorem u8_info : ∃ i, Try.prog.info? 5 = some i ∧ i.zero = some (.int .u8 0) ∧ i.size = 1 ∧ i.bytes = 1 := sl_u8.hi

set_option maxRecDepth 100000 in
set_option maxHeartbeats 400000 in
theorem text_c (s : ByteArray) (hs : s.size ≤ 1099511627776) (w : World) :
    Calls Try.prog 112 #[.string s] w fun e w' => ∃ v, e = .returned v ∧ w'.ownsRow w.heap.size 5 1 v (encT s.data.toList).length (bv (encT s.data.toList)) ∧ Below w.heap.size w w' := by
  obtain ⟨i0, hi, hz0, hz1, hz2⟩ := u8_info
  have hsz : s.data.toList.length = s.size := Array.length_toList
  have Hsz := Lib.hid hsz; clear hsz
  have hl : (encN s.size).length ≤ 10 := encN_len10 (by omega)
  go_enter Try.func112, Try.ntmps112
  go_wp2_with (first | (go_at_call 62; refine (num_c _ (by omega) _).mono ?_; rintro e w1 ⟨v1, rfl, hown, hb⟩) | (at_builtin; refine Lib.wpList_append_own_string _ rfl (.tmp 6) (.tmp 7) 41 9 rfl w.heap.size 5 i0 Try.underlying41 Try.underlying9 hi hz0 hz1 hz2 _ _ _ rfl hown s rfl (by unfold maxLen; omega) (by omega) hb.size ?_; intro v2 w2 hown2 hg2 _))
  go_ret
  refine ⟨v2, rfl, own_to hown2 (by rw [encT, List.length_append, Hsz.out]) (by rw [encT, bv_append, Hsz.out]; rfl), hb.grown hg2 hb.size fun k hk => (hown.lt k hk).1⟩
set_option maxRecDepth 100000 in
set_option maxHeartbeats 400000 in
theorem rtext_c (s : ByteArray) (hs : s.size ≤ 1099511627776) (w : World) :
    Calls Try.prog 73 #[.string s] w fun e w' => ∃ v, e = .returned v ∧ w'.ownsRow w.heap.size 5 1 v (encT s.data.toList).length (bv (encT s.data.toList)) ∧ Below w.heap.size w w' := by
  obtain ⟨i0, hi, hz0, hz1, hz2⟩ := u8_info
  have hsz : s.data.toList.length = s.size := Array.length_toList
  have Hsz := Lib.hid hsz; clear hsz
  have hl : (encN s.size).length ≤ 10 := encN_len10 (by omega)
  go_enter Try.func73, Try.ntmps73
  go_wp2_with (first | (go_at_call 72; refine (rnum_c _ (by omega) _).mono ?_; rintro e w1 ⟨v1, rfl, hown, hb⟩) | (at_builtin; refine Lib.wpList_append_own_string _ rfl (.tmp 6) (.tmp 7) 41 9 rfl w.heap.size 5 i0 Try.underlying41 Try.underlying9 hi hz0 hz1 hz2 _ _ _ rfl hown s rfl (by unfold maxLen; omega) (by omega) hb.size ?_; intro v2 w2 hown2 hg2 _))
  go_ret
  refine ⟨v2, rfl, own_to hown2 (by rw [encT, List.length_append, Hsz.out]) (by rw [encT, bv_append, Hsz.out]; rfl), hb.grown hg2 hb.size fun k hk => (hown.lt k hk).1⟩
end Go.Proofs.Ytpamjobiohbibaa
namespace Go.Proofs.Ytpamjobiohbibaa
open Go.RowKit
set_option linter.unusedVariables false
variable {B : Nat} {w0 : World} {F : List Ch}
theorem text_d (s : List UInt8) (hs : s.length ≤ 1099511627776) : Does Try.prog B w0 112 [.string ⟨s.toArray⟩] F (fun r L => ∃ A c, r = .slice A (encT s).length c ∧ L = .own 5 1 A (encT s).length c (bv (encT s)) :: F) := by
  have h := fun w => text_c (⟨s.toArray⟩ : ByteArray) (by simpa [ByteArray.size] using hs) w
  exact Does.of_own fun w _ => h w
theorem rtext_d (s : List UInt8) (hs : s.length ≤ 1099511627776) : Does Try.prog B w0 73 [.string ⟨s.toArray⟩] F (fun r L => ∃ A c, r = .slice A (encT s).length c ∧ L = .own 5 1 A (encT s).length c (bv (encT s)) :: F) := by
  have h := fun w => rtext_c (⟨s.toArray⟩ : ByteArray) (by simpa [ByteArray.size] using hs) w
  exact Does.of_own fun w _ => h w
end Go.Proofs.Ytpamjobiohbibaa
namespace Go.Proofs.Ytpamjobiohbibaa
open Go.RowKit
set_option linter.unusedVariables false
set_option maxRecDepth 20000
variable {B : Nat} {w0 : World} {F : List Ch}
theorem enc_more {x k : Nat} {pre : List UInt8} (h : encN x = pre ++ encN k) (hk : 128 ≤ k) : encN x = (pre ++ [UInt8.ofNat (128 + k % 128)]) ++ encN (k / 128) := by
  rw [h, encN_ge hk]; simp
theorem enc_last {x k : Nat} {pre : List UInt8} (h : encN x = pre ++ encN k) (hk : k < 128) : encN x = pre ++ [UInt8.ofNat k] := by
  rw [h, encN_lt hk]
theorem enc_pre {x k : Nat} {pre : List UInt8} (h : encN x = pre ++ encN k) (hx : x < 18446744073709551616) : pre.length ≤ 10 := by
  have h1 := congrArg List.length h
  have h2 := encN_len10 hx
  rw [List.length_append] at h1
  omega
theorem bv_pushN {v : Nat} (hv : v < 256) (l : List UInt8) : bv l ++ [Value.int .u8 (v : Int)] = bv (l ++ [UInt8.ofNat v]) := by
  have : (UInt8.ofNat v).toNat = v := by rw [UInt8.toNat_ofNat']; exact Nat.mod_eq_of_lt hv
  simp [bv, this]
theorem low8 (k : Nat) : IntKind.u8.wrap (k : Int) = ((k % 256 : Nat) : Int) := by show (k : Int) % 256 = _; omega
theorem or128 (k : Nat) : IntKind.u8.wrap ((BitVec.ofInt IntKind.u8.bits ((k % 256 : Nat) : Int) ||| BitVec.ofInt IntKind.u8.bits 128).toNat : Int) = ((128 + k % 128 : Nat) : Int) := by
  have h := u8_or (k % 256) 128 (by omega) (by omega)
  rw [show ((128 : Nat) : Int) = 128 from rfl] at h
  have e := or_128 (k % 256) (by omega)
  refine (Eq.trans h ?_)
  rw [e]; omega
theorem shr7 (k : Nat) : (k : Int).fdiv (2 ^ min (7 : Int).toNat IntKind.u64.bits) = ((k / 128 : Nat) : Int) := by
  have e : min (7 : Int).toNat IntKind.u64.bits = 7 := by decide
  rw [e, Int.fdiv_eq_ediv_of_nonneg _ (by decide)]
  rfl
set_option maxRecDepth 20000 in
theorem num_d (x : Nat) (hx : x < 18446744073709551616) : Does Try.prog B w0 62 [.int .u64 x] F (fun r L => ∃ A c, r = .slice A (encN x).length c ∧ L = .own 5 1 A (encN x).length c (bv (encN x)) :: F) := by
  refine fn_walk Try.func62 19 rfl rfl rfl [(0, .int .u64 x)] ⟨⟨rfl, rfl⟩, trivial⟩ ?_
  refine vc_seq ?_
  refine vc_region ?_
  refine vl_det (det_assign rfl) rfl ?_
  refine vl_end [(0, _)] ⟨rfl, trivial⟩ ?_
  refine then_next ?_
  refine vc_seq ?_
  refine vc_nil_row 5 1 none ?_
  refine vc_region ?_
  refine vl_det (det_assign rfl) rfl ?_
  refine vl_end [(0, _), (3, _)] ⟨rfl, rfl, trivial⟩ ?_
  refine then_next ?_
  refine vc_seq ?_
  refine vc_block ?_
  refine vc_loopJ (fun zf zL zm => ∃ (k : Nat) (pre : List UInt8) (A3 : Option Addr) (c3 : Nat), (k ≤ x ∧ encN x = pre ++ encN k) ∧ k = zm ∧ Sub zf [(0, .int .u64 k), (3, .slice A3 pre.length c3)] ∧ Wk zL (.own 5 1 A3 pre.length c3 (bv pre) :: F)) _ ⟨x, [], none, 0, ⟨Nat.le_refl _, by simp⟩, rfl, ⟨(by first | rfl | exact int_to (by omega) | exact sl_to (by omega)), (by first | rfl | exact int_to (by omega) | exact sl_to (by omega)), trivial⟩, wk_own rfl rfl (.refl _)⟩ ?_
  rintro _ _ _ ⟨k, pre, A3, c3, ⟨hk, he⟩, rfl, hs, hp⟩
  refine vc_weaken _ hs (vc_wk hp ?_)
  clear hs hp
  have hpl := enc_pre he hx
  refine vc_seq ?_
  refine vc_seq ?_
  refine vc_region ?_
  refine vl_det (det_move rfl) rfl ?_
  refine vl_det (det_geq rfl rfl) rfl ?_
  refine vl_end [(0, _), (3, _), (5, _)] ⟨rfl, rfl, rfl, trivial⟩ ?_
  refine then_next ?_
  refine vc_decideU rfl (fun h5 => ?_) (fun h5 => ?_)
  · skip
    have hl := (show (pre ++ [UInt8.ofNat (128 + k % 128)]).length = pre.length + 1 by simp)
    refine vc_skip ?_
    refine then_next ?_
    refine vc_block ?_
    refine vc_seq ?_
    refine vc_region ?_
    refine vl_det (det_move rfl) rfl ?_
    refine vl_det (det_move rfl) rfl ?_
    refine vl_det (det_conv Try.underlying33 Try.underlying5 rfl (low8 k)) rfl ?_
    refine vl_det (det_or rfl rfl (or128 k)) rfl ?_
    refine vl_push slT41 rfl rfl rfl rfl rfl (fun _ => rfl) (by repeat (first | exact .hd | apply Sel.tl)) (by omega) (by omega) ?_
    intro _ A11 c11
    rw [← hl]
    refine vl_det (det_assign rfl) rfl ?_
    refine vl_end [(0, _), (3, _)] ⟨rfl, rfl, trivial⟩ ?_
    refine then_next ?_
    refine vc_region ?_
    refine vl_det (det_move rfl) rfl ?_
    refine vl_det (det_shr rfl rfl (by omega) (shr7 k)) rfl ?_
    refine vl_det (det_assign rfl) rfl ?_
    refine vl_end [(0, _), (3, _)] ⟨rfl, rfl, trivial⟩ ?_
    refine in_normal ?_
    refine in_loop_ ⟨_, by omega, k / 128, pre ++ [UInt8.ofNat (128 + k % 128)], A11, c11, ⟨by omega, enc_more he (by omega)⟩, rfl, ⟨(by first | rfl | exact int_to (by omega) | exact sl_to (by omega)), (by first | rfl | exact int_to (by omega) | exact sl_to (by omega)), trivial⟩, wk_own rfl (bv_pushN (by omega) pre) (.refl _)⟩
  · skip
    have hl := (show (pre ++ [UInt8.ofNat k]).length = pre.length + 1 by simp)
    refine vc_exit ?_
    refine then_exit ?_
    refine loop_exit ?_
    refine in_eq ?_
    refine then_next ?_
    refine vc_seq ?_
    refine vc_region ?_
    refine vl_det (det_move rfl) rfl ?_
    refine vl_det (det_move rfl) rfl ?_
    refine vl_det (det_conv Try.underlying33 Try.underlying5 rfl (w_u8 (by omega) (by omega))) rfl ?_
    refine vl_push slT41 rfl rfl rfl rfl rfl (fun _ => rfl) (by repeat (first | exact .hd | apply Sel.tl)) (by omega) (by omega) ?_
    intro _ A18 c18
    rw [← hl]
    refine vl_det (det_assign rfl) rfl ?_
    refine vl_end [(2, _)] ⟨rfl, trivial⟩ ?_
    refine then_next ?_
    refine vc_ret ?_
    have hel := enc_last he (by omega)
    rw [hel]
    refine ret_wk (wk_own rfl (bv_pushN (by omega) pre) (.refl _)) ?_
    refine ret1 rfl rfl ?_
    exact ⟨A18, c18, rfl, rfl⟩
end Go.Proofs.Ytpamjobiohbibaa
namespace Go.Proofs.Ytpamjobiohbibaa
open Go.RowKit
set_option linter.unusedVariables false
theorem grow_zero (w : World) :
    Calls Try.prog 116 #[.slice none 0 0, .int .i64 0] w fun e w' => e = .returned (.slice none 0 0) ∧ w = w' := by
  go_enter Try.func116, Try.ntmps116
  go_wp2
  go_ret
  exact ⟨rfl, rfl⟩
def GrowP (w : World) (e : Ending) (w' : World) : Prop := ∃ v, e = .returned v ∧ w'.ownsRow w.heap.size 5 1 v 0 []
theorem own_none {w : World} {base : Nat} {e : TypeId} {g cap : Nat} {cur : Array Value} (h : w.heap[g]? = some (.cells cur e (0, 0))) (hb : base ≤ g) (hm : cap ≤ maxLen) (hc : cur.size = cap) :
    w.ownsRow base e 1 (.slice (some ⟨g, 0, none⟩) 0 cap) 0 [] :=
  ⟨rfl, .inr ⟨g, cap, cur, rfl, hb, h, Nat.zero_le _, hm, by simpa using hc, by simp⟩⟩
set_option maxRecDepth 100000 in
theorem grow_pos (n : Nat) (h : 0 < n) (hn : n ≤ 1099511627776) (w : World) :
    Calls Try.prog 116 #[.slice none 0 0, .int .i64 n] w fun e w' => GrowP w e w' ∧ Below w.heap.size w w' := by
  obtain ⟨i, hi, hz, hs, hby⟩ := u8_info
  have hrun := Lib.run_append_nil_zeros (P := Try.prog) w 41 3 41 5 i (.int .u8 0) .i64 .i64 Try.underlying41 Try.underlying3 hi hz n h (by omega) (by omega) (by rw [hby]; omega)
  have hge := grownCap_ge w n 0 5
  have hle := grownCap_le_maxLen w n 0 5 (by unfold maxLen; omega)
  generalize hG : grownCap w n 0 5 = G at *
  have h1 : ¬ ((n : Int) < 0) := by omega
  have h2 : (0 : Int) < n := by omega
  have HR := Lib.hid hrun; have HG := Lib.hid hG
  clear hrun hG hi hz hs hby
  go_enter Try.func116, Try.ntmps116
  go_wp2_with (at_builtin; refine Lib.wpList_append_run _ rfl _ _ _ _ rfl _ _ rfl rfl _ _ HR.out ?_)
  go_ret
  refine ⟨⟨_, rfl, own_none (heap_alloc_new _ _) (Nat.le_refl _) hle ?_⟩, ((Below.refl _ _).alloc (Nat.le_refl _) _).drew⟩
  simp [size_zeroCells]; omega
theorem grow_c (n : Nat) (hn : n ≤ 1099511627776) (w : World) :
    Calls Try.prog 116 #[.slice none 0 0, .int .i64 n] w fun e w' => GrowP w e w' ∧ Below w.heap.size w w' := by
  rcases Nat.eq_zero_or_pos n with h | h
  · subst h
    refine (grow_zero w).mono fun e w' ⟨h1, h2⟩ => ?_
    subst h2
    exact ⟨⟨_, h1, World.ownsRow_nil _ _ _ _⟩, Below.refl _ _⟩
  · exact grow_pos n h hn w
/-- parts: each a slice value and the bytes that it reads as_ -/
abbrev Parts := List (Value × List UInt8)
def Parts.vals (P : Parts) : List Value := P.map (·.1)
def Parts.all (P : Parts) : List UInt8 := P.flatMap (·.2)
def Parts.ok (P : Parts) (w : World) (B : Nat) : Prop := ∀ x ∈ P, Rd w B 1 x.1 x.2.length (bv x.2)
theorem Parts.ok_below {P : Parts} {w w' : World} {B : Nat} (h : P.ok w B) (hb : Below B w w') : P.ok w' B := fun x hx => (h x hx).below hb
theorem Parts.all_take_succ (P : Parts) {k : Nat} {x : Value × List UInt8} (h : P[k]? = some x) : Parts.all (P.take (k + 1)) = Parts.all (P.take k) ++ x.2 := by
  have hk := (List.getElem?_eq_some_iff.1 h).1
  have hx := (List.getElem?_eq_some_iff.1 h).2
  unfold Parts.all
  rw [List.take_succ_eq_append_getElem hk, List.flatMap_append, hx]
  simp
theorem Parts.all_take_le (P : Parts) (k : Nat) : (Parts.all (P.take k)).length ≤ (Parts.all P).length := by
  unfold Parts.all
  conv => rhs; rw [← List.take_append_drop k P, List.flatMap_append]
  simp
/-- a part at a place: its cell, and what it reads as_ -/
theorem Parts.at_ {P : Parts} {w : World} {B : Nat} {A : Option Addr} {n : Nat} (hr : 0 < n → ∃ ad, A = some ad ∧ ad.block < B ∧ ∀ j u, P.vals[j]? = some u → w.cell? (ad.add j) = some u)
    (hP : P.ok w B) (hn : n = P.length) {k : Nat} (hk : k < n) : ∃ ad A' c' x, A = some ad ∧ ad.block < B ∧ P[k]? = some x ∧ w.cell? (ad.add k) = some (.slice A' x.2.length c') ∧ Rd w B 1 (.slice A' x.2.length c') x.2.length (bv x.2) := by
  obtain ⟨ad, rfl, hb, hc⟩ := hr (by omega)
  have hx : P[k]? = some (P[k]'(by omega)) := List.getElem?_eq_getElem (by omega)
  have hrd := hP _ (List.mem_of_getElem? hx)
  have hcell := hc k (P[k]'(by omega)).1 (by simp [Parts.vals, hx])
  obtain ⟨A', c', hv, h4, h5, h6⟩ := hrd
  rw [hv] at hcell
  exact ⟨ad, A', c', _, rfl, hb, hx, hcell, A', c', rfl, h4, h5, h6⟩
set_option maxRecDepth 100000 in
set_option maxHeartbeats 800000 in
theorem concat_c {B n : Nat} {v : Value} {P : Parts} (w : World) (hn : n = P.length) (h : Rd w B 1 v n P.vals) (hP : P.ok w B) (hB : B ≤ w.heap.size) (hlen : P.all.length ≤ 1099511627776) (hPl : P.length ≤ 1099511627776) :
    Calls Try.prog 71 #[v] w fun e w' => ∃ v', e = .returned v' ∧ w'.ownsRow w.heap.size 5 1 v' P.all.length (bv P.all) ∧ Below w.heap.size w w' := by
  obtain ⟨A, c, rfl, hc, hl, hr⟩ := h
  rw [← hn] at hPl
  have Hr := Lib.hid hr; have HP := Lib.hid hP; have Hn := Lib.hid hn; have Hl := Lib.hid hlen
  clear hr hP hn hlen hl
  go_enter Try.func71, Try.ntmps71
  go_wp2
  go_loop [3, 5, 11] (fun z s i => ∃ k m : Nat, k ≤ n ∧ i = .int .i64 k ∧ z = .int .i64 m ∧ m ≤ 1099511627776 ∧ Hid (m = (Parts.all (P.take k)).length)) (fun _ _ i => n - (intOf i).toNat)
  case atStart => exact ⟨0, 0, Nat.zero_le _, rfl, rfl, Nat.zero_le _, by simp [Hid, Parts.all]⟩
  case round =>
    obtain ⟨k, m, hk, rfl, rfl, hm, HM⟩ := hrel
    by_cases hlt : k < n
    · obtain ⟨ad, A', c', x, rfl, hab, hx, hcell, hrd⟩ := Parts.at_ Hr.out HP.out Hn.out hlt
      have e1 := Parts.all_take_succ P hx
      have e2 := Parts.all_take_le P (k + 1)
      have hml : m + x.2.length = (Parts.all (P.take (k + 1))).length := by rw [e1, List.length_append, HM.out]
      have hm2 : m + x.2.length ≤ 1099511627776 := by rw [hml]; exact Nat.le_trans e2 Hl.out
      have HM2 := Lib.hid hml
      clear hml e1 e2 hrd hx
      go_wp2
      go_round
      case rel => exact ⟨k + 1, m + x.2.length, by omega, by go_num, by go_num, hm2, HM2⟩
      case measure => simp [intOf]; omega
    · have hkn : k = n := by omega
      have hml : m = P.all.length := by rw [HM.out, hkn, Hn.out, List.take_length]
      have HM2 := Lib.hid hml; clear hml hkn
      go_wp2_with (go_at_call 116; refine (grow_c m (by omega) _).mono ?_; rintro e w1 ⟨⟨v1, rfl, hown1⟩, hb1⟩)
      have hwB := hb1.mono hB
      go_loopw [6, 8, 27] (fun o s i wr => ∃ k : Nat, k ≤ n ∧ i = .int .i64 k ∧ wr.ownsRow w.heap.size 5 1 o (Parts.all (P.take k)).length (bv (Parts.all (P.take k))) ∧ Below w.heap.size w wr) (fun _ _ i _ => n - (intOf i).toNat)
      case atStart => exact ⟨0, Nat.zero_le _, rfl, by simpa [Parts.all] using hown1, hb1⟩
      case round =>
        obtain ⟨k, hk, rfl, hown, hb⟩ := hrel
        by_cases hlt : k < n
        · obtain ⟨ad, A', c', x, rfl, hab, hx, hcell0, hrd0⟩ := Parts.at_ Hr.out HP.out Hn.out hlt
          have hcell := (hb.cell (p := ad.add k) (by rw [block_of_add]; omega)).trans hcell0
          have hrd := hrd0.below (hb.mono hB)
          have e1 := Lib.hid (Parts.all_take_succ P hx)
          have e2 := Parts.all_take_le P (k + 1)
          have e3 : (Parts.all (P.take k)).length + x.2.length ≤ 1099511627776 := by
            rw [e1.out, List.length_append] at e2
            exact Nat.le_trans e2 Hl.out
          have hsz := hb.size
          clear e2 hrd0 hcell0 hx
          go_wp2_with (at_builtin; refine wp_app sl_u8 rfl (.tmp 31) (.tmp 32) rfl rfl hown rfl hrd (bv_one _) hb (Nat.le_refl _) hsz (by omega) (by omega) ?_; intro v2 w2 hown2 hb2 hg2)
          go_roundw
          case rel => exact ⟨k + 1, by omega, by go_num, by rw [e1.out, List.length_append, bv_append]; exact hown2, hb2⟩
          case measure => simp [intOf]; omega
        · have hkn : P.take k = P := List.take_of_length_le (by have := Hn.out; omega)
          have HK := Lib.hid hkn; clear hkn
          go_wp2
          go_ret
          rw [HK.out] at hown
          exact ⟨_, rfl, hown, hb⟩
theorem all_c {B n : Nat} {v : Value} {P : Parts} (w : World) (hn : n = P.length) (h : Rd w B 1 v n P.vals) (hP : P.ok w B) (hB : B ≤ w.heap.size) (hlen : P.all.length ≤ 1099511627776) (hPl : P.length ≤ 1099511627776) :
    Calls Try.prog 40 #[v] w fun e w' => ∃ v', e = .returned v' ∧ w'.ownsRow w.heap.size 5 1 v' P.all.length (bv P.all) ∧ Below w.heap.size w w' := by
  have h' := h
  obtain ⟨A, c, rfl, hc, hl, hr⟩ := h
  have Hn := Lib.hid hn
  clear hr hl hc hn
  go_enter Try.func40, Try.ntmps40
  go_wp2_with (go_at_call 71; refine (concat_c _ Hn.out h' hP hB hlen hPl).mono ?_; rintro e w1 ⟨v1, rfl, hown1, hb1⟩)
  go_ret
  exact ⟨_, rfl, hown1, hb1⟩
theorem flat_single {α : Type} (P : List (Value × α)) : (P.flatMap fun x => [x.1]) = P.map (·.1) := by
  induction P with
  | nil => rfl
  | cons x P ih => simp only [List.flatMap_cons, List.map_cons, ih]; rfl
end Go.Proofs.Ytpamjobiohbibaa
namespace Go.Proofs.Ytpamjobiohbibaa
open Go.RowKit
set_option linter.unusedVariables false
set_option maxRecDepth 20000
variable {B : Nat} {w0 : World} {F : List Ch} {A : Option Addr} {n c : Nat}
theorem all_d {P : Parts} {l : List UInt8} (hb : Bor B w0 F 1 (.slice A n c) n P.vals) (hP : ∀ x ∈ P, Bor B w0 F 1 x.1 x.2.length (bv x.2)) (hn : n = P.length) (hall : P.all = l) (hlen : l.length ≤ 1099511627776) (hPl : P.length ≤ 1099511627776) :
    Does Try.prog B w0 40 [.slice A n c] F (fun r L => ∃ A' c', r = .slice A' l.length c' ∧ L = .own 5 1 A' l.length c' (bv l) :: F) := by
  subst hall
  exact Does.of_own fun w hw => all_c (B := w.heap.size) w hn (hb w hw) (fun x hx => hP x hx w hw) (Nat.le_refl _) hlen hPl
end Go.Proofs.Ytpamjobiohbibaa
namespace Go.Proofs.Ytpamjobiohbibaa
open Go.RowKit
set_option linter.unusedVariables false
set_option maxRecDepth 20000
variable {B : Nat} {w0 : World} {F : List Ch} {A A1 A2 : Option Addr} {n c c1 c2 g : Nat}
theorem drises_d {l : List Txt} (hb : Bor B w0 F 1 (.slice A l.length c) l.length (strs l)) (hl : l.length ≤ 1000000000000000) :
    Does Try.prog B w0 61 [.slice A l.length c] F (fun r L => r = .bool (decide (RisT l)) ∧ L = F) := by
  refine fn_walk Try.func61 21 rfl rfl rfl [(0, .slice A l.length c)] ⟨⟨rfl, rfl⟩, trivial⟩ ?_
  refine vc_seq ?_
  refine vc_region ?_
  refine vl_det (det_assign rfl) rfl ?_
  refine vl_end [(0, _)] ⟨rfl, trivial⟩ ?_
  refine then_next ?_
  refine vc_seq ?_
  refine vc_region ?_
  refine vl_det (det_assign rfl) rfl ?_
  refine vl_end [(0, _), (3, _)] ⟨rfl, rfl, trivial⟩ ?_
  refine then_next ?_
  refine vc_seq ?_
  refine vc_seq ?_
  refine vc_region ?_
  refine vl_det (det_move rfl) rfl ?_
  refine vl_det (det_len_sl Try.underlying26 rfl) rfl ?_
  refine vl_det (det_move rfl) rfl ?_
  refine vl_end [(0, _), (3, _), (6, _), (7, _), (8, _)] ⟨rfl, rfl, rfl, rfl, rfl, trivial⟩ ?_
  refine then_next ?_
  refine vc_block ?_
  refine vc_loopJ (fun zf zL zm => ∃ (k : Nat), (k ≤ l.length ∧ ∀ i, i < k → mayT (prvT l i) (l.getD i [])) ∧ l.length - k = zm ∧ Sub zf [(0, .slice A l.length c), (3, .string ⟨(prvT l k).toArray⟩), (6, .slice A l.length c), (7, .int .i64 l.length), (8, .int .i64 k)] ∧ Wk zL (F)) _ ⟨0, ⟨Nat.zero_le _, fun i h => absurd h (by omega)⟩, rfl, ⟨(by first | rfl | exact int_to (by omega) | exact sl_to (by omega)), (by first | rfl | exact int_to (by omega) | exact sl_to (by omega)), (by first | rfl | exact int_to (by omega) | exact sl_to (by omega)), (by first | rfl | exact int_to (by omega) | exact sl_to (by omega)), (by first | rfl | exact int_to (by omega) | exact sl_to (by omega)), trivial⟩, .refl _⟩ ?_
  rintro _ _ _ ⟨k, ⟨hk, hm⟩, rfl, hs, hp⟩
  refine vc_weaken _ hs (vc_wk hp ?_)
  clear hs hp
  refine vc_seq ?_
  refine vc_region ?_
  refine vl_det (det_lss rfl rfl) rfl ?_
  refine vl_end [(0, _), (3, _), (6, _), (7, _), (8, _), (9, _)] ⟨rfl, rfl, rfl, rfl, rfl, rfl, trivial⟩ ?_
  refine then_next ?_
  refine vc_seq ?_
  refine vc_decideU rfl (fun h9 => ?_) (fun h9 => ?_)
  · skip
    refine vc_skip ?_
    refine then_next ?_
    refine vc_seq ?_
    refine vc_block ?_
    refine vc_seq ?_
    refine vc_region ?_
    refine vl_det (det_indexAddr (size := 1) Try.underlying26 (by kernel_rfl) rfl rfl rfl (by omega) (by first | (exact Bor.own (by repeat (first | exact List.Mem.head _ | apply List.Mem.tail))) | (repeat (first | assumption | apply Bor.cons)))) rfl ?_
    refine vl_det (det_load_str (by kernel_rfl) rfl (by first | (exact Bor.own (by repeat (first | exact List.Mem.head _ | apply List.Mem.tail))) | (repeat (first | assumption | apply Bor.cons))) (by omega)) rfl ?_
    refine vl_det (det_assign rfl) rfl ?_
    refine vl_end [(0, _), (3, _), (5, _), (6, _), (7, _), (8, _)] ⟨rfl, rfl, rfl, rfl, rfl, rfl, trivial⟩ ?_
    refine then_next ?_
    refine vc_seq ?_
    refine vc_seq ?_
    refine vc_region ?_
    refine vl_det (det_move rfl) rfl ?_
    refine vl_det (det_move rfl) rfl ?_
    refine vl_call co110 rfl (dmay_d (prvT l k) (l.getD k [])) rfl ?_
    rintro _ _ ⟨rfl, hLL⟩
    obtain rfl := hLL.symm
    refine vl_det (det_notd rfl) rfl ?_
    refine vl_end [(0, _), (5, _), (6, _), (7, _), (8, _), (15, _)] ⟨rfl, rfl, rfl, rfl, rfl, rfl, trivial⟩ ?_
    refine then_next ?_
    refine vc_decideU rfl (fun h15 => ?_) (fun h15 => ?_)
    · skip
      refine vc_seq ?_
      refine vc_region ?_
      refine vl_det (det_assign rfl) rfl ?_
      refine vl_end [(2, _)] ⟨rfl, trivial⟩ ?_
      refine then_next ?_
      refine vc_ret ?_
      refine then_ret ?_
      refine in_ret ?_
      refine then_ret ?_
      refine loop_ret ?_
      refine in_ret ?_
      refine then_ret ?_
      refine ret1 rfl rfl ?_
      exact ⟨by rw [decide_eq_false (fun h => h15 (h.1 k (by omega)))], rfl⟩
    · skip
      have hmk : mayT (prvT l k) (l.getD k []) := Classical.not_not.1 h15
      refine vc_skip ?_
      refine then_next ?_
      refine vc_region ?_
      refine vl_det (det_move rfl) rfl ?_
      refine vl_det (det_assign rfl) rfl ?_
      refine vl_end [(0, _), (3, _), (6, _), (7, _), (8, _)] ⟨rfl, rfl, rfl, rfl, rfl, trivial⟩ ?_
      refine in_normal ?_
      refine then_next ?_
      refine vc_region ?_
      refine vl_det (det_add rfl rfl (w_i64 (by omega) (by omega))) rfl ?_
      refine vl_det (det_move rfl) rfl ?_
      refine vl_end [(0, _), (3, _), (6, _), (7, _), (8, _)] ⟨rfl, rfl, rfl, rfl, rfl, trivial⟩ ?_
      rw [← prvT_succ]
      refine in_loop_ ⟨_, by omega, k + 1, ⟨by omega, fun i hi => by
        by_cases e : i = k
        · rw [e]; exact hmk
        · exact hm i (by omega)⟩, rfl, ⟨(by first | rfl | exact int_to (by omega) | exact sl_to (by omega)), (by first | rfl | exact int_to (by omega) | exact sl_to (by omega)), (by first | rfl | exact int_to (by omega) | exact sl_to (by omega)), (by first | rfl | exact int_to (by omega) | exact sl_to (by omega)), (by first | rfl | exact int_to (by omega) | exact sl_to (by omega)), trivial⟩, .refl _⟩
  · skip
    refine vc_exit ?_
    refine then_exit ?_
    refine loop_exit ?_
    refine in_eq ?_
    refine then_next ?_
    refine vc_seq ?_
    refine vc_region ?_
    refine vl_det (det_move rfl) rfl ?_
    refine vl_det (det_len_sl Try.underlying26 rfl) rfl ?_
    refine vl_det (det_leq rfl rfl) rfl ?_
    refine vl_det (det_assign rfl) rfl ?_
    refine vl_end [(2, _)] ⟨rfl, trivial⟩ ?_
    refine then_next ?_
    refine vc_ret ?_
    refine ret1 rfl rfl ?_
    have e : k = l.length := by omega
    subst e
    exact ⟨by rw [decide_eq_decide.2 (show ((l.length : Int) ≤ 1048576) ↔ RisT l from ⟨fun h => ⟨hm, by omega⟩, fun h => by have := h.2; omega⟩)], rfl⟩
theorem encT_len {s : Txt} (h : s.length ≤ 1000000) : (encT s).length ≤ s.length + 10 := by
  have := encN_len10 (x := s.length) (by omega)
  unfold encT
  rw [List.length_append]
  omega
theorem tailT_len : ∀ (was : Txt) (r : List Txt), (∀ s ∈ r, s.length ≤ 25) → (tailT was r).length ≤ r.length * 45
  | _, [], _ => by simp [tailT]
  | was, s :: r, h => by
    have h1 := tailT_len s r (fun x hx => h x (by simp [hx]))
    have h2 := h s (by simp)
    have h3 : (encT (s.drop (lcp was s))).length ≤ 35 := by
      have := encT_len (s := s.drop (lcp was s)) (by rw [List.length_drop]; omega)
      rw [List.length_drop] at this
      omega
    have h4 : (encN (lcp was s)).length ≤ 10 := encN_len10 (by have := (lcp_le was s).2; omega)
    rw [tailT, List.length_append, List.length_append, List.length_cons, Nat.succ_mul]
    omega
theorem tailT_take : ∀ (t : Txt) (r : List Txt) (k : Nat), k < r.length → tailT t (r.take (k + 1)) = tailT t (r.take k) ++ (encN (lcp ((t :: r).getD k []) (r.getD k [])) ++ encT ((r.getD k []).drop (lcp ((t :: r).getD k []) (r.getD k []))))
  | _, [], _, h => absurd h (by simp)
  | t, s :: r, 0, _ => by simp [tailT]
  | t, s :: r, k + 1, h => by
    have := tailT_take s r k (by simpa using h)
    rw [List.take_succ_cons, tailT, this, List.take_succ_cons, tailT]
    simp only [List.getD_cons_succ, List.append_assoc]
theorem bucket_d {t : Txt} {r : List Txt} (hb : Bor B w0 F 1 (.slice A (r.length + 1) c) (r.length + 1) (strs (t :: r))) (hl : r.length ≤ 1000) (h25 : ∀ s ∈ t :: r, s.length ≤ 25) :
    Does Try.prog B w0 64 [.slice A (r.length + 1) c] F (fun v L => ∃ A' c', v = .slice A' (bucketT (t :: r)).length c' ∧ L = .own 5 1 A' (bucketT (t :: r)).length c' (bv (bucketT (t :: r))) :: F) := by
  have ht := h25 t (by simp)
  have hcut := hb.cut (k := 1) (by omega)
  rw [Nat.add_sub_cancel, show (strs (t :: r)).drop (1 * 1) = strs r from rfl] at hcut
  obtain ⟨A9, hA9⟩ : ∃ A9, A9 = (if c = 1 then A else A.map (·.add (1 * 1))) := ⟨_, rfl⟩
  obtain ⟨c9, hc9⟩ : ∃ c9, c9 = c - 1 := ⟨_, rfl⟩
  rw [← hA9, ← hc9] at hcut
  have e0 : (encT t ++ tailT t (r.take 0)).length = (encT t).length := by simp [tailT]
  refine fn_walk Try.func64 37 rfl rfl rfl [(0, .slice A (r.length + 1) c)] ⟨⟨rfl, rfl⟩, trivial⟩ ?_
  refine vc_seq ?_
  refine vc_region ?_
  refine vl_det (det_assign rfl) rfl ?_
  refine vl_end [(0, _)] ⟨rfl, trivial⟩ ?_
  refine then_next ?_
  refine vc_seq ?_
  refine vc_region ?_
  refine vl_det (det_move rfl) rfl ?_
  refine vl_det (det_indexAddr (i := 0) (size := 1) Try.underlying26 (by kernel_rfl) rfl rfl rfl (by omega) (by first | (exact Bor.own (by repeat (first | exact List.Mem.head _ | apply List.Mem.tail))) | (repeat (first | assumption | apply Bor.cons)))) rfl ?_
  refine vl_det (det_load_str (b := t :: r) (by kernel_rfl) rfl (by first | (exact Bor.own (by repeat (first | exact List.Mem.head _ | apply List.Mem.tail))) | (repeat (first | assumption | apply Bor.cons))) (by omega)) rfl ?_
  refine vl_call co112 rfl (text_d t (by omega)) rfl ?_
  rintro _ _ ⟨A10, c10, rfl, hLL⟩
  obtain rfl := hLL.symm
  refine vl_det (det_assign rfl) rfl ?_
  refine vl_end [(0, _), (3, _)] ⟨rfl, rfl, trivial⟩ ?_
  refine then_next ?_
  refine vc_seq ?_
  refine vc_seq ?_
  refine vc_region ?_
  refine vl_det (det_move rfl) rfl ?_
  refine vl_det (det_slice_lo (i := 1) (size := 1) Try.underlying26 (by kernel_rfl) rfl rfl rfl (by omega)) rfl ?_
  rw [Nat.add_sub_cancel, ← hA9, ← hc9]
  refine vl_det (det_len_sl Try.underlying26 rfl) rfl ?_
  refine vl_det (det_move rfl) rfl ?_
  refine vl_end [(0, _), (3, _), (12, _), (13, _), (14, _)] ⟨rfl, rfl, rfl, rfl, rfl, trivial⟩ ?_
  refine then_next ?_
  refine vc_block ?_
  refine vc_loopJ (fun zf zL zm => ∃ (k : Nat) (A3 : Option Addr) (c3 : Nat), (k ≤ r.length) ∧ r.length - k = zm ∧ Sub zf [(0, .slice A (r.length + 1) c), (3, .slice A3 (encT t ++ tailT t (r.take k)).length c3), (12, .slice A9 r.length c9), (13, .int .i64 r.length), (14, .int .i64 k)] ∧ Wk zL (.own 5 1 A3 (encT t ++ tailT t (r.take k)).length c3 (bv (encT t ++ tailT t (r.take k))) :: F)) _ ⟨0, A10, c10, Nat.zero_le _, rfl, ⟨(by first | rfl | exact int_to (by omega) | exact sl_to (by omega)), (by first | rfl | exact int_to (by omega) | exact sl_to (by omega)), (by first | rfl | exact int_to (by omega) | exact sl_to (by omega)), (by first | rfl | exact int_to (by omega) | exact sl_to (by omega)), (by first | rfl | exact int_to (by omega) | exact sl_to (by omega)), trivial⟩, wk_own (by simp [tailT]) (by simp [tailT]) (.refl _)⟩ ?_
  rintro _ _ _ ⟨k, A3, c3, hk, rfl, hs, hp⟩
  refine vc_weaken _ hs (vc_wk hp ?_)
  clear hs hp
  refine vc_seq ?_
  refine vc_region ?_
  refine vl_det (det_lss rfl rfl) rfl ?_
  refine vl_end [(0, _), (3, _), (12, _), (13, _), (14, _), (15, _)] ⟨rfl, rfl, rfl, rfl, rfl, rfl, trivial⟩ ?_
  refine then_next ?_
  refine vc_seq ?_
  refine vc_decideU rfl (fun h15 => ?_) (fun h15 => ?_)
  · skip
    have hpk : ((t :: r).getD k []).length ≤ 25 := h25 _ (by rw [List.getD_eq_getElem?_getD, List.getElem?_eq_getElem (show k < (t :: r).length by simp; omega)]; exact List.getElem_mem _)
    have hsk : (r.getD k []).length ≤ 25 := h25 _ (by simp [List.getD_eq_getElem?_getD, List.getElem?_eq_getElem (show k < r.length by omega)])
    have hlt := tailT_len t (r.take k) (fun s hs => h25 s (List.mem_cons_of_mem _ (List.mem_of_mem_take hs)))
    rw [List.length_take, Nat.min_eq_left (by omega)] at hlt
    have hle := lcp_le ((t :: r).getD k []) (r.getD k [])
    have hk45 : k * 45 ≤ 1000 * 45 := Nat.mul_le_mul_right _ (by omega)
    have htl := encT_len (s := t) (by omega)
    refine vc_skip ?_
    refine then_next ?_
    refine vc_seq ?_
    refine vc_block ?_
    refine vc_seq ?_
    refine vc_region ?_
    refine vl_det (det_move rfl) rfl ?_
    refine vl_det (det_indexAddr (size := 1) Try.underlying26 (by kernel_rfl) rfl rfl rfl (by omega) (by first | (exact Bor.own (by repeat (first | exact List.Mem.head _ | apply List.Mem.tail))) | (repeat (first | assumption | apply Bor.cons)))) rfl ?_
    refine vl_det (det_load_str (b := r) (by kernel_rfl) rfl (by first | (exact Bor.own (by repeat (first | exact List.Mem.head _ | apply List.Mem.tail))) | (repeat (first | assumption | apply Bor.cons))) (by omega)) rfl ?_
    refine vl_det (det_assign rfl) rfl ?_
    refine vl_det (det_assign rfl) rfl ?_
    refine vl_end [(0, _), (3, _), (4, _), (5, _), (12, _), (13, _), (14, _)] ⟨rfl, rfl, rfl, rfl, rfl, rfl, rfl, trivial⟩ ?_
    refine then_next ?_
    refine vc_seq ?_
    refine vc_region ?_
    refine vl_det (det_move rfl) rfl ?_
    refine vl_det (det_move rfl) rfl ?_
    refine vl_det (det_indexAddr (i := k) (size := 1) Try.underlying26 (by kernel_rfl) rfl rfl rfl (by omega) (by first | (exact Bor.own (by repeat (first | exact List.Mem.head _ | apply List.Mem.tail))) | (repeat (first | assumption | apply Bor.cons)))) rfl ?_
    refine vl_det (det_load_str (b := t :: r) (by kernel_rfl) rfl (by first | (exact Bor.own (by repeat (first | exact List.Mem.head _ | apply List.Mem.tail))) | (repeat (first | assumption | apply Bor.cons))) (by omega)) rfl ?_
    refine vl_det (det_move rfl) rfl ?_
    refine vl_call co113 rfl (dsame_d ((t :: r).getD k []) (r.getD k []) (by omega)) rfl ?_
    rintro _ _ ⟨rfl, hLL⟩
    obtain rfl := hLL.symm
    refine vl_det (det_assign rfl) rfl ?_
    refine vl_end [(0, _), (3, _), (5, _), (6, _), (12, _), (13, _), (14, _)] ⟨rfl, rfl, rfl, rfl, rfl, rfl, rfl, trivial⟩ ?_
    refine then_next ?_
    refine vh_region (S := .own 5 1 A3 (encT t ++ tailT t (r.take k)).length c3 (bv (encT t ++ tailT t (r.take k))) :: F) (by kernel_rfl) (by repeat (first | exact List.Sublist.refl _ | exact List.nil_sublist _ | apply List.Sublist.cons_cons | apply List.Sublist.cons)) ?_
    refine vh_take 0 rfl (by kernel_rfl) (by kernel_rfl) (by kernel_rfl) (det_move rfl) rfl ?_
    refine vh_take 1 rfl (by kernel_rfl) (by kernel_rfl) (by kernel_rfl) (det_move rfl) rfl ?_
    refine vh_take 2 rfl (by kernel_rfl) (by kernel_rfl) (by kernel_rfl) (det_conv Try.underlying3 Try.underlying33 rfl (w_u64 (by omega) (by omega))) rfl ?_
    refine vh_take 4 rfl (by kernel_rfl) (by kernel_rfl) (by kernel_rfl) (det_move rfl) rfl ?_
    refine vh_take 5 rfl (by kernel_rfl) (by kernel_rfl) (by kernel_rfl) (det_move rfl) rfl ?_
    refine vh_take 6 rfl (by kernel_rfl) (by kernel_rfl) (by kernel_rfl) (det_str_lo Try.underlying9 rfl rfl rfl (by omega)) rfl ?_
    refine vh_one 3 (by kernel_rfl) ?_
    refine st_call rfl .no co62 rfl (num_d (lcp ((t :: r).getD k []) (r.getD k [])) (by omega)) rfl (by rintro _ _ ⟨A28, c28, rfl, rfl⟩; exact (by repeat (first | exact List.Sublist.refl _ | exact List.nil_sublist _ | apply List.Sublist.cons_cons | apply List.Sublist.cons))) ?_
    rintro _ _ ⟨A28, c28, rfl, hLL⟩
    obtain rfl := hLL.symm
    refine vh_one 7 (by kernel_rfl) ?_
    refine st_call rfl .no co112 rfl (text_d ((r.getD k []).drop (lcp ((t :: r).getD k []) (r.getD k []))) (by rw [List.length_drop]; omega)) rfl (by rintro _ _ ⟨A32, c32, rfl, rfl⟩; exact (by repeat (first | exact List.Sublist.refl _ | exact List.nil_sublist _ | apply List.Sublist.cons_cons | apply List.Sublist.cons))) ?_
    rintro _ _ ⟨A32, c32, rfl, hLL⟩
    obtain rfl := hLL.symm
    refine vh_one 8 (by kernel_rfl) ?_
    refine st_eff rfl .no (eff_build_lit slT69 [_, _, _] rfl rfl (by first | exact bv_one _ | exact strs_one _ | exact ints_one _ _ | (simp; done) | (simp [Value.oneCell']; done) | assumption) (by omega) (by omega)) rfl (by rintro _ _ ⟨A33, rfl, rfl⟩; exact (by repeat (first | exact List.Sublist.refl _ | exact List.nil_sublist _ | apply List.Sublist.cons_cons | apply List.Sublist.cons))) ?_
    rintro _ _ ⟨A33, rfl, rfl⟩
    refine vh_one 9 (by kernel_rfl) ?_
    refine st_call rfl .no co40 rfl (all_d (l := encT t ++ tailT t (r.take (k + 1))) (P := [(.slice A3 (encT t ++ tailT t (r.take k)).length c3, encT t ++ tailT t (r.take k)), (.slice A28 (encN (lcp ((t :: r).getD k []) (r.getD k []))).length c28, encN (lcp ((t :: r).getD k []) (r.getD k []))), (.slice A32 (encT ((r.getD k []).drop (lcp ((t :: r).getD k []) (r.getD k [])))).length c32, encT ((r.getD k []).drop (lcp ((t :: r).getD k []) (r.getD k []))))]) (by first | (exact Bor.own (by repeat (first | exact List.Mem.head _ | apply List.Mem.tail))) | (repeat (first | assumption | apply Bor.cons))) (by intro y hy; simp only [List.mem_cons, List.not_mem_nil, or_false] at hy; rcases hy with rfl | rfl | rfl <;> exact (by first | (exact Bor.own (by repeat (first | exact List.Mem.head _ | apply List.Mem.tail))) | (repeat (first | assumption | apply Bor.cons)))) rfl (by rw [tailT_take t r k (by omega)]; simp [Parts.all, List.append_assoc]) (by rw [List.length_append]; have := tailT_len t (r.take (k + 1)) (fun s hs => h25 s (List.mem_cons_of_mem _ (List.mem_of_mem_take hs))); rw [List.length_take] at this; omega) (by simp)) rfl (by rintro _ _ ⟨A34, c34, rfl, rfl⟩; exact (by repeat (first | exact List.Sublist.refl _ | exact List.nil_sublist _ | apply List.Sublist.cons_cons | apply List.Sublist.cons))) ?_
    rintro _ _ ⟨A34, c34, rfl, hLL⟩
    obtain rfl := hLL.symm
    refine vh_take 10 rfl (by kernel_rfl) (by kernel_rfl) (by kernel_rfl) (det_assign rfl) rfl ?_
    refine vh_done [(0, _), (3, _), (12, _), (13, _), (14, _)] ⟨rfl, rfl, rfl, rfl, rfl, trivial⟩ (by kernel_rfl) ?_
    refine in_normal ?_
    refine then_next ?_
    refine vc_region ?_
    refine vl_det (det_add rfl rfl (w_i64 (by omega) (by omega))) rfl ?_
    refine vl_det (det_move rfl) rfl ?_
    refine vl_end [(0, _), (3, _), (12, _), (13, _), (14, _)] ⟨rfl, rfl, rfl, rfl, rfl, trivial⟩ ?_
    refine in_loop_ ⟨_, by omega, k + 1, A34, c34, by omega, rfl, ⟨(by first | rfl | exact int_to (by omega) | exact sl_to (by omega)), (by first | rfl | exact int_to (by omega) | exact sl_to (by omega)), (by first | rfl | exact int_to (by omega) | exact sl_to (by omega)), (by first | rfl | exact int_to (by omega) | exact sl_to (by omega)), (by first | rfl | exact int_to (by omega) | exact sl_to (by omega)), trivial⟩, .cons (.skip (.skip (.skip (.skip (.refl _)))))⟩
  · skip
    refine vc_exit ?_
    refine then_exit ?_
    refine loop_exit ?_
    refine in_eq ?_
    refine then_next ?_
    refine vc_seq ?_
    refine vc_region ?_
    refine vl_det (det_move rfl) rfl ?_
    refine vl_det (det_assign rfl) rfl ?_
    refine vl_end [(2, _)] ⟨rfl, trivial⟩ ?_
    refine then_next ?_
    refine vc_ret ?_
    obtain rfl : k = r.length := by omega
    rw [List.take_length]
    refine ret1 rfl rfl ?_
    exact ⟨A3, c3, rfl, rfl⟩
end Go.Proofs.Ytpamjobiohbibaa

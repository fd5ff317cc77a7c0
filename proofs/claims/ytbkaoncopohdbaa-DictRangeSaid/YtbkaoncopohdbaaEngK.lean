/-
  A walk by frames and pieces of memory: the law of a range over a function. No condition.
-/
import Derived.Test.YtbkaoncopohdbaaEngJ
namespace Go.Proofs.Ytbkaoncopohdbaa
open Go.RowKit
set_option linter.unusedVariables false
set_option maxRecDepth 20000
def Ch.isObj : Ch → Bool
  | .obj _ _ => true
  | _ => false
section
variable {B : Nat} {w0 w w' : World} {L M : List Ch} {c d : Ch}
/-- a piece that is no mere object lies in cells -/
theorem Ch.holds.cells (h : c.holds B w) (hc : c.isObj = false) {g : Nat} (hg : c.fp = some g) : ∃ o, w.heap[g]? = some o ∧ o.isCells = true := by
  cases c with
  | own e size A n cc xs =>
    obtain ⟨_, _, h⟩ := h
    simp only [Ch.fp] at hg
    by_cases hc0 : cc = 0
    · rw [if_pos hc0] at hg; cases hg
    · rw [if_neg hc0] at hg
      obtain ⟨g', cur, rfl, h1, h2, _⟩ := h.resolve_left hc0
      simp at hg
      subst hg
      exact ⟨_, h2, rfl⟩
  | blk g' t cs =>
    simp only [Ch.fp, Option.some.injEq] at hg
    subst hg
    exact ⟨_, h.2, rfl⟩
  | obj g' o => cases hc
/-- pieces abide the turn of a block that is no cells and lies beyond -/
theorem SL.abide (h : SL B w0 M w) {row : Option Nat} (hg : w.grownBy w' row) {K : Nat} (hK : B ≤ K) (hr : ∀ r, row = some r → K ≤ r ∧ ∃ o : Obj, w.heap[r]? = some o ∧ o.isCells = false) (ho : ∀ c ∈ M, c.isObj = true → ∀ g, c.fp = some g → g < K) : SL B w0 M w' := by
  refine ⟨h.below.grown hg h.base (fun k hk => Nat.le_trans hK (hr k hk).1), Nat.le_trans h.base hg.size, fun c hc => (h.all c hc).keep fun g hgc => ?_, h.apart⟩
  refine hg.block g ((h.all c hc).lt hgc).2 fun e => ?_
  obtain ⟨h1, o, h2, h3⟩ := hr g e.symm
  cases hco : c.isObj with
  | true => exact absurd (ho c hc hco g hgc) (by omega)
  | false =>
    obtain ⟨o', h4, h5⟩ := (h.all c hc).cells hco hgc
    rw [h2] at h4
    cases h4
    rw [h3] at h5
    cases h5
/-- .. told of a later world -/
theorem SL.rebase (h : SL B w0 M w) {w1 : World} (hb : SL B w1 L w) : SL B w1 M w := ⟨hb.below, h.base, h.all, h.apart⟩
theorem Bor.later {size n : Nat} {v : Value} {xs : List Value} {w1 : World} (h : Bor B w0 L size v n xs) (hb : Below B w0 w1) : Bor B w1 L size v n xs := fun w hs => h w ⟨hb.trans hs.below, hs.base, hs.all, hs.apart⟩
/-- all else that lies above the base -/
def rest (B : Nat) (M : List Ch) (w : World) : List Ch := ((List.range w.heap.size).filter fun k => decide (B ≤ k) && M.all fun c => decide (c.fp ≠ some k)).filterMap fun k => (w.heap[k]?).map (Ch.obj k)
theorem rest_mem : c ∈ rest B M w ↔ ∃ k o, B ≤ k ∧ w.heap[k]? = some o ∧ (∀ d ∈ M, d.fp ≠ some k) ∧ c = .obj k o := by
  unfold rest
  simp only [List.mem_filterMap, List.mem_filter, List.mem_range, Bool.and_eq_true, decide_eq_true_eq, List.all_eq_true, Option.map_eq_some_iff]
  constructor
  · rintro ⟨k, ⟨h1, h2, h3⟩, o, h4, rfl⟩
    exact ⟨k, o, h2, h4, h3, rfl⟩
  · rintro ⟨k, o, h2, h4, h3, rfl⟩
    exact ⟨k, ⟨(Array.getElem?_eq_some_iff.1 h4).1, h2, h3⟩, o, h4, rfl⟩
theorem rest_apart (B : Nat) (M : List Ch) (w : World) : (rest B M w).Pairwise Ch.apart := by
  unfold rest
  have h : ((List.range w.heap.size).filter fun k => decide (B ≤ k) && M.all fun c => decide (c.fp ≠ some k)).Pairwise (· ≠ ·) := (List.nodup_range).filter _
  generalize ((List.range w.heap.size).filter fun k => decide (B ≤ k) && M.all fun c => decide (c.fp ≠ some k)) = ks at h ⊢
  induction ks with
  | nil => exact List.Pairwise.nil
  | cons k ks ih =>
    have h' := List.pairwise_cons.1 h
    rw [List.filterMap_cons]
    cases hk : (w.heap[k]?).map (Ch.obj k) with
    | none => exact ih h'.2
    | some c =>
      refine List.pairwise_cons.2 ⟨fun d hd => ?_, ih h'.2⟩
      obtain ⟨k', hk', hd'⟩ := List.mem_filterMap.1 hd
      obtain ⟨o, ho, rfl⟩ := Option.map_eq_some_iff.1 hk
      obtain ⟨o', ho', rfl⟩ := Option.map_eq_some_iff.1 hd'
      exact .inr fun e => h'.1 k' hk' (Option.some.inj e)
theorem SL.full (h : SL B w0 M w) : SL B w (M ++ rest B M w) w := by
  refine ⟨Below.refl _ _, h.base, fun c hc => ?_, List.pairwise_append.2 ⟨h.apart, rest_apart B M w, fun c hc d hd => ?_⟩⟩
  · rcases List.mem_append.1 hc with hc | hc
    · exact h.all c hc
    · obtain ⟨k, o, h1, h2, h3, rfl⟩ := rest_mem.1 hc
      exact ⟨h1, h2⟩
  · obtain ⟨k, o, h1, h2, h3, rfl⟩ := rest_mem.1 hd
    exact .inr (h3 c hc)
/-- what is kept beside the pieces -/
theorem keeps_of_full {M' : List Ch} (h : SL B w0 M w) (h' : SL B w (M' ++ rest B M w) w') (ho : ∀ c ∈ M, c.isObj = true → c ∈ M') : KeepsOthers w w' := by
  refine ⟨h'.below.size, fun k o hk hc => ?_⟩
  by_cases hB : k < B
  · rw [h'.below.block k hB]; exact hk
  · by_cases hm : ∀ d ∈ M, d.fp ≠ some k
    · exact (h'.all _ (List.mem_append_right _ (rest_mem.2 ⟨k, o, by omega, hk, hm, rfl⟩))).2
    · obtain ⟨d, hdm, hf⟩ : ∃ d, d ∈ M ∧ d.fp = some k := by
        refine Classical.byContradiction fun hn => hm fun d h1 h2 => hn ⟨d, h1, h2⟩
      cases hdo : d.isObj with
      | false =>
        obtain ⟨o', h4, h5⟩ := (h.all d hdm).cells hdo hf
        rw [hk] at h4
        cases h4
        rw [hc] at h5
        cases h5
      | true =>
        cases d with
        | obj g o' =>
          have e : g = k := Option.some.inj hf
          subst e
          have h1 : w.heap[g]? = some o' := (h.all (.obj g o') hdm).2
          rw [hk] at h1
          cases h1
          exact (h'.all _ (List.mem_append_left _ (ho _ hdm hdo))).2
        | _ => cases hdo
theorem SL.cons_obj (h : SL B w0 M w) {D : Nat} {o : Obj} (hB : B ≤ D) (hD : w.heap[D]? = some o) (ho : o.isCells = false) (hm : ∀ c ∈ M, c.isObj = true → ∀ g, c.fp = some g → g < D) : SL B w0 (.obj D o :: M) w := by
  refine ⟨h.below, h.base, fun c hc => ?_, List.pairwise_cons.2 ⟨fun d hd => .inr fun e => ?_, h.apart⟩⟩
  · rcases List.mem_cons.1 hc with rfl | hc
    · exact ⟨hB, hD⟩
    · exact h.all c hc
  · have e : d.fp = some D := e.symm
    cases hdo : d.isObj with
    | true => exact absurd (hm d hd hdo D e) (Nat.lt_irrefl _)
    | false =>
      obtain ⟨o', h4, h5⟩ := (h.all d hd).cells hdo e
      rw [hD] at h4
      cases h4
      rw [ho] at h5
      cases h5
end
theorem vg_seq2 {C : Cx} {QQ : Exit → Act → World → Prop} {fr : Fr} {L : List Ch} {x b y : Code} (h : VC C x (TG C b (Exit.then (y.wp C.P QQ) QQ)) fr L) : VG C (.seq (.seq x b) y) QQ fr L := fun a w ha hs =>
  wp_seq (wp_seq (wp_mono (h a w ha hs) fun e a w ⟨fr, L, ha, hs, hq⟩ => by
    cases e <;> exact hq a w ha hs))
/-- what an iterator relies on -/
def KpOf (B : Nat) (Lk : List Ch) (W W' : World) : Prop := ∀ c ∈ Lk, c.holds B W → c.holds B W'
section
variable {C : Cx} {QQ : Exit → Act → World → Prop} {fr : Fr} {L : List Ch} {y body : Code} {α σ : Type}
theorem vg_range {id r0 p d gf N : Nat} {g : Operand} {lb : List Value} {ty : TypeId} {pos : String} {af : Array Edge} (hc : Callable C.P gf) (hg : ev fr g = some (.func (.func gf) #[] lb.toArray)) (hp : Nat.blt p C.N = true) (hd : Nat.blt d C.N = true)
    (enc : α → Value) (S Sp : List α → Prop) (Lk : List Ch) (hseq : ∀ w, SL C.B C.w0 L w → SeqStopsK Fence.wide 7 C.P gf lb.toArray (fun x => #[enc x]) (KpOf C.B Lk) S Sp N w)
    (ok : List α → σ → Prop) (G : List α → σ → List Ch) (hGo : ∀ pre s c, c.isObj = true → (c ∈ G pre s ↔ c ∈ L)) (hLk : ∀ c ∈ Lk, c.isObj = false ∧ ∀ pre s, c ∈ G pre s)
    (s0 : σ) (h0 : ok [] s0) (hg0 : Wk L (G [] s0))
    (hbody : ∀ l pre x s w1, ok pre s → pre.length < N → Below C.B C.w0 w1 → ∀ F', VR ⟨C.P, C.N, C.B, w1⟩ l 6 body (fun fr' L' => ∃ s', ok (pre ++ [x]) s' ∧ Wk L' (G (pre ++ [x]) s' ++ F')) ((d, enc x) :: (p, enc x) :: fr) (G pre s ++ F'))
    (hdone : ∀ D xs s, S xs → ok xs s → VM C D y QQ fr (.obj D (.deferred (some [])) :: G xs s)) :
    VG C (.block id (.rangeFunc g #[p] (.region r0 [(⟨some d, .assign (.tmp p), ty, pos, af, none⟩ : Oper)].toArray false) body)) (Exit.then (y.wp C.P QQ) QQ) fr L := fun a w ha hs => by
  have hsl0 := hg0.sl hs
  have hobj : ∀ pre s, ∀ c ∈ G pre s, c.isObj = true → ∀ g, c.fp = some g → g < w.heap.size := fun pre s c hc ho g hg => ((hs.all c ((hGo pre s c ho).1 hc)).lt hg).2
  have eg : ∀ args w, (callFunc gf args).run C.P w = .ok (.enter gf args) w := fun args w => by
    obtain ⟨fn, cc, h1, h2, h3⟩ := hc
    have h2' : ¬ fn.name = "runtime.NumGoroutine" := by simpa using h2
    simp [callFunc, h1, h2', h3]
  refine wp_block (wpIn_wide.1 (wpIn_rangeFunc_ownF (n := 8) rfl (by decide) (ha.tmp hg) trivial eg (hseq w hs) (fun h k c hc hh => k c hc (h c hc hh)) ?kb (Below.refl _ _) (fun _ => rfl)
    (fun pre W => ∃ s, ok pre s ∧ SL C.B C.w0 (G pre s) W) (fun _ _ _ => False) ?own (fun _ _ _ _ _ h _ _ => h) ⟨s0, h0, hsl0⟩ (fun x => ((a.put (some p) (enc x)).put (some d) (enc x))) ?assign ?body ?done ?stop))
  case kb =>
    intro W l o o' hl hW ho _ c hc hh
    refine hh.keep fun g hgc => ?_
    refine World.putObj_heap_other fun e => ?_
    subst e
    obtain ⟨o2, h4, h5⟩ := hh.cells (hLk c hc).1 hgc
    rw [hW] at h4
    cases h4
    rw [ho] at h5
    cases h5
  case own =>
    rintro pre W W' row ⟨s, hok, hsl⟩ hgr hr
    exact ⟨s, hok, hsl.abide hgr hs.base hr (hobj pre s)⟩
  case assign =>
    intro l x W K hK
    refine wpIn_region_lit (wpListIn_plain rfl fun K' hK' => ?_)
    refine ⟨fun _ _ => trivial, ?_⟩
    rw [Oper.semAt_eq _ _ _ (fun c e => by cases e)]
    have e0 : ({ tmps := (#[p].zip #[enc x]).foldl (fun t (p, v) => t.setIfInBounds p v) a.tmps, defers := [] } : Act) = a.put (some p) (enc x) := by
      have := ha.defers
      cases a
      simp_all [Act.put]
    rw [e0]
    have hev : (a.put (some p) (enc x)).eval (.tmp p) = enc x := (ha.put hp (enc x)).tmp (by simp [ev, look])
    simp only [execOp, hev, Sem.run_pure, Oper.uponIn]
    exact hK' _ _ hK
  case body =>
    rintro l pre x W ⟨s, hok, hsl⟩ hlt
    refine wpIn_mono (hbody l pre x s W hok hlt hsl.below (rest C.B (G pre s) W) _ W ((ha.put hp (enc x)).put hd (enc x)) hsl.full) fun e a' W' hq => ?_
    cases e with
    | normal =>
      obtain ⟨fr', L', ha', hs', s', hok', hwk⟩ := hq
      have hs2 := hwk.sl hs'
      have hs3 : SL C.B C.w0 (G (pre ++ [x]) s') W' := ⟨hsl.below.trans hs2.below, hs2.base, fun c hc => hs2.all c (List.mem_append_left _ hc), (List.pairwise_append.1 hs2.apart).1⟩
      exact ⟨keeps_of_full hsl hs2 (fun c hc ho => (hGo _ _ c ho).2 ((hGo _ _ c ho).1 hc)), fun c hc _ => hs3.all c ((hLk c hc).2 _ _), s', hok', hs3⟩
    | _ => exact hq.elim
  case done =>
    rintro D xs W hD hS ⟨s, hok, hsl⟩ hK
    refine hdone D xs s hS hok _ W (by rw [ha.defers]; rfl) ?_ (hsl.cons_obj (Nat.le_trans hs.base hD) hK rfl (fun c hc ho g hg => Nat.lt_of_lt_of_le (hobj xs s c hc ho g hg) hD))
    have : ({ ({ a with defers := { target := .collected D, args := #[] } :: a.defers } : Act) with defers := [] } : Act) = a := by have := ha.defers; cases a; simp_all
    rw [this]; exact ha
  case stop =>
    rintro D c pre W _ _ h _
    exact h.elim
end
end Go.Proofs.Ytbkaoncopohdbaa

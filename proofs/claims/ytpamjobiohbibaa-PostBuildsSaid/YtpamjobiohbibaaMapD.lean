/-
  Maps whose keys are texts, by frames: made, looked up, put into. No condition.
-/
import Derived.Test.YtpamjobiohbibaaTypes
import Derived.Test.YtpamjobiohbibaaEngG
import Derived.MapKept
import Derived.WideMake
namespace Go.Proofs.Ytpamjobiohbibaa
open Go.RowKit
set_option linter.unusedVariables false
/-- a map's entries, in the order in which they came -/
def entsF : Nat → List (List UInt8 × Value) → List MapEntry
  | _, [] => []
  | i, p :: r => ⟨.string ⟨p.1.toArray⟩, p.2, i⟩ :: entsF (i + 1) r
def mpO (D : List (List UInt8 × Value)) : Obj := .map (entsF 0 D).toArray D.length
def fndM (t : List UInt8) : List (List UInt8 × Value) → Nat → Option (Nat × Value)
  | [], _ => none
  | p :: r, i => if t = p.1 then some (i, p.2) else fndM t r (i + 1)
/-- the map with one more entry, or another element -/
def putM (D : List (List UInt8 × Value)) (t : List UInt8) (v : Value) : List (List UInt8 × Value) :=
  match fndM t D 0 with
  | some (i, _) => D.set i (t, v)
  | none => D ++ [(t, v)]
theorem entsF_length : ∀ (D : List (List UInt8 × Value)) (i : Nat), (entsF i D).length = D.length
  | [], _ => rfl
  | _ :: r, i => by simp [entsF, entsF_length r]
theorem entsF_get : ∀ (D : List (List UInt8 × Value)) (i k : Nat) (h : k < D.length), (entsF i D)[k]? = some ⟨.string ⟨(D[k]'h).1.toArray⟩, (D[k]'h).2, i + k⟩
  | _ :: r, i, 0, h => rfl
  | _ :: r, i, k + 1, h => by
    have := entsF_get r (i + 1) k (by simpa using h)
    simp only [entsF, List.getElem?_cons_succ, List.getElem_cons_succ]
    rw [this]
    congr 2
    omega
theorem entsF_snoc : ∀ (D : List (List UInt8 × Value)) (i : Nat) (p : List UInt8 × Value), entsF i (D ++ [p]) = entsF i D ++ [⟨.string ⟨p.1.toArray⟩, p.2, i + D.length⟩]
  | [], i, p => rfl
  | q :: r, i, p => by
    simp only [List.cons_append, entsF, entsF_snoc r (i + 1) p, List.length_cons]
    rw [show i + 1 + r.length = i + (r.length + 1) by omega]
theorem str_beq (t k : List UInt8) : ((⟨t.toArray⟩ : ByteArray) == (⟨k.toArray⟩ : ByteArray)) = decide (t = k) := by
  rw [Bool.eq_iff_iff, MapKept.bytes_beq, decide_eq_true_iff]
  exact ⟨fun e => by simpa using congrArg (fun b : ByteArray => b.data.toList) e, fun e => by rw [e]⟩
theorem findNow_ents (t : List UInt8) : ∀ (D : List (List UInt8 × Value)) (j i : Nat), Instr.findNow .string (.string ⟨t.toArray⟩) (entsF j D) i = some (fndM t D i)
  | [], _, _ => rfl
  | p :: r, j, i => by
    simp only [entsF, Instr.findNow, Instr.sameNow, str_beq, fndM]
    by_cases h : t = p.1
    · rw [decide_eq_true h, if_pos h]
    · rw [decide_eq_false h, if_neg h]
      exact findNow_ents t r (j + 1) (i + 1)
theorem fndM_some {t : List UInt8} : ∀ {D : List (List UInt8 × Value)} {i j : Nat} {v : Value}, fndM t D i = some (j, v) → ∃ k, j = i + k ∧ ∃ h : k < D.length, D[k] = (t, v)
  | p :: r, i, j, v, h => by
    unfold fndM at h
    split at h
    · rename_i e
      simp only [Option.some.injEq, Prod.mk.injEq] at h
      exact ⟨0, by omega, by simp, by simp [← h.2, e]⟩
    · obtain ⟨k, h1, h2, h3⟩ := fndM_some h
      exact ⟨k + 1, by omega, by simpa using h2, by simpa using h3⟩
theorem fndM_none {t : List UInt8} : ∀ {D : List (List UInt8 × Value)} {i : Nat}, fndM t D i = none → ∀ p ∈ D, p.1 ≠ t
  | p :: r, i, h, q, hq => by
    unfold fndM at h
    split at h
    · cases h
    · rename_i e
      rcases List.mem_cons.1 hq with rfl | hq
      · exact fun e2 => e e2.symm
      · exact fndM_none h q hq
section
variable {C : Cx} {fr : Fr} {L : List Ch} {x y z : Operand} {f : Ch → List Ch} {t k e ty : TypeId} {g : Nat} {D : List (List UInt8 × Value)} {s : List UInt8} {v zv : Value}
theorem eff_makeMap : Eff C fr L (.makeMap t none) ty (fun p L' => ∃ g, p = .map (some g) ∧ L' = .obj g (mpO []) :: L) := fun a w ha hw d pos af gg =>
  ⟨.map (some w.heap.size), w.alloc (.map #[] 0), .obj w.heap.size (mpO []) :: L, .inl (by simp [execOp, run_makeMap_plain]), ⟨w.heap.size, rfl, rfl⟩,
    hw.cons_new (World.grownBy_alloc w _ none) ⟨hw.base, (MapKept.heap_alloc w (.map #[] 0)).1⟩ (.inr ⟨_, rfl, Nat.le_refl _⟩)⟩
theorem det_lookup (ht : C.P.underlying t = some (.map k e)) (hk : C.P.underlying k = some .string) (hz : ∀ w, (zeroValue e).run C.P w = .ok zv w) (hm : ev fr x = some (.map (some g))) (hx : ev fr y = some (.string ⟨s.toArray⟩)) (hs : Sel (.obj g (mpO D)) L f) :
    Det C fr L (.lookup t x y false) ty (((fndM s D 0).map (·.2)).getD zv) := fun a w ha hw d pos af gg => by
  have hb : w.heap[g]? = some (.map (entsF 0 D).toArray D.length) := (hw.all _ hs.mem).2
  have hc : ∀ em, (Instr.checkKey em 10000 k (.string ⟨s.toArray⟩)).run C.P w = .ok () w := fun em => MapKept.run_checkKey (k := .string ⟨s.toArray⟩) hk (by simp [MapKept.IsKey]) em 9999
  have hf := MapKept.run_findKey (P := C.P) (w := w) hk (findNow_ents s D 0 0)
  cases hfd : fndM s D 0 with
  | none =>
    rw [hfd] at hf
    simp [execOp, ha.tmp hm, ha.tmp hx, Instr.lookup, run_underlying ht, MapKept.run_getObj_map hb, hc, hf, hz, Result.andThen]
  | some q =>
    rw [hfd] at hf
    obtain ⟨j, u⟩ := q
    simp [execOp, ha.tmp hm, ha.tmp hx, Instr.lookup, run_underlying ht, MapKept.run_getObj_map hb, hc, hf, Result.andThen]
theorem entsF_set : ∀ (D : List (List UInt8 × Value)) (i j : Nat) (p : List UInt8 × Value), j < D.length → entsF i (D.set j p) = (entsF i D).modify j fun e => { e with key := .string ⟨p.1.toArray⟩, val := p.2 }
  | q :: r, i, 0, p, _ => by simp [entsF]
  | q :: r, i, j + 1, p, h => by
    simp only [List.set_cons_succ, entsF, List.modify_succ_cons]
    rw [entsF_set r (i + 1) j p (by simpa using h)]
theorem eff_mapUpdate (ht : C.P.underlying t = some (.map k e)) (hk : C.P.underlying k = some .string) (hm : ev fr x = some (.map (some g))) (hx : ev fr y = some (.string ⟨s.toArray⟩)) (hv : ev fr z = some v) (hs : Sel (.obj g (mpO D)) L f) :
    Eff C fr L (.mapUpdate t x y z) ty (fun p L' => L' = f (.obj g (mpO (putM D s v)))) := fun a w ha hw d pos af gg => by
  have hb : w.heap[g]? = some (.map (entsF 0 D).toArray D.length) := (hw.all _ hs.mem).2
  have hc : ∀ em, (Instr.checkKey em 10000 k (.string ⟨s.toArray⟩)).run C.P w = .ok () w := fun em => MapKept.run_checkKey (k := .string ⟨s.toArray⟩) hk (by simp [MapKept.IsKey]) em 9999
  have hf := MapKept.run_findKey (P := C.P) (w := w) hk (findNow_ents s D 0 0)
  have hlt := (Array.getElem?_eq_some_iff.1 hb).1
  have hsl : ∀ o, SL C.B C.w0 (f (.obj g o)) { w with heap := w.heap.setIfInBounds g o } := fun o =>
    hw.sel hs ⟨rfl, rfl, rfl, by simp, fun j _ hj => by
      have : g ≠ j := fun e => hj (by rw [e]; rfl)
      simp [this]⟩ (fun h => ⟨h.1, by simp [hlt]⟩) (.inr (.inl rfl))
  cases hfd : fndM s D 0 with
  | none =>
    rw [hfd] at hf
    have e1 : mpO (putM D s v) = .map ((entsF 0 D).toArray.push ⟨.string ⟨s.toArray⟩, v, D.length⟩) (D.length + 1) := by
      unfold putM mpO; rw [hfd]; simp [entsF_snoc]
    refine ⟨undef, _, _, .inr ⟨?_, rfl⟩, rfl, by rw [e1]; exact hsl _⟩
    simp [execOp, ha.tmp hm, ha.tmp hx, ha.tmp hv, Instr.mapUpdate, run_underlying ht, MapKept.run_getObj_map hb, hc, hf, MapKept.run_setObj_map _ hb, Result.andThen]
  | some q =>
    rw [hfd] at hf
    obtain ⟨j, u⟩ := q
    obtain ⟨j', hj, hjl, hje⟩ := fndM_some hfd
    obtain rfl : j = j' := by omega
    have hg := entsF_get D 0 j hjl
    have e1 : mpO (putM D s v) = .map ((entsF 0 D).toArray.modify j fun e => { e with key := .string ⟨s.toArray⟩, val := v }) D.length := by
      unfold putM mpO; rw [hfd]; simp [entsF_set D 0 j (s, v) hjl]
    have hky : (Instr.keyThatStays (.string ⟨s.toArray⟩) (.string ⟨s.toArray⟩)).run C.P w = .ok (.string ⟨s.toArray⟩) w := MapKept.run_keyThatStays (d := .string) (by simp [MapKept.IsKey])
    have hkk : (((entsF 0 D).toArray[j]?).map (·.key)).getD (.string ⟨s.toArray⟩) = .string ⟨s.toArray⟩ := by
      rw [List.getElem?_toArray, hg, hje]; rfl
    refine ⟨undef, _, _, .inr ⟨?_, rfl⟩, rfl, by rw [e1]; exact hsl _⟩
    simp only [execOp, ha.tmp hm, ha.tmp hx, ha.tmp hv, Instr.mapUpdate]
    simp [run_underlying ht, MapKept.run_getObj_map hb, hc, hf, Result.andThen]
    simp at hkk
    simp [hkk, hky, MapKept.run_setObj_map _ hb]
end
end Go.Proofs.Ytpamjobiohbibaa

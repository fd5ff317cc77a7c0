/-
  Texts of one proof, joined: part 3. No condition.
-/
import Derived.Test.YtpamjobiohbibaaMp2
import Derived.MapKept
import Derived.WideMake
import Derived.WalkKit
import Derived.Laws.BitsAllLaws
import Derived.Laws.BitsLemmas
import Derived.Test.YtpamjobiohbibaaProg
import Derived.Shelf.SortM.Plain
import Derived.Shelf.SortM.SortNone
import Derived.Shelf.SlicesG.CompactS
import Derived.Ground.SlgmProg
import Derived.Ground.SlgnProg
import Derived.Sort.OwnSorted
import Derived.Lib.OwnBridge
import Derived.Sort.Walk0
import Derived.Shelf.SlIter.Nil
import Derived.Ground.GgzProg
namespace Go.Proofs.Ytpamjobiohbibaa
open Go.RowKit
set_option linter.unusedVariables false
/-- a map's entries, in the order in which they came -/
def entsF : Nat → List (List UInt8 × Value) → List MapEntry
  | _, [] => []
  | i, p :: r => ⟨.string ⟨p.1.toArray⟩, p.2, i⟩ :: entsF (i + 1) r
def mpO (D : List (List UInt8 × Value)) : Obj := .map (entsF 0 D).toArray D.length
def fndM (t : List UInt8) : List (List UInt8 × Value) → Nat → Option (Nat × Value)
  | [], _ => none
  | p :: r, i => if t = p.1 then some (i, p.2) else fndM t r (i + 1)
/-- the map with one more entry, or another element -/
def putM (D : List (List UInt8 × Value)) (t : List UInt8) (v : Value) : List (List UInt8 × Value) :=
  match fndM t D 0 with
  | some (i, _) => D.set i (t, v)
  | none => D ++ [(t, v)]
theorem entsF_length : ∀ (D : List (List UInt8 × Value)) (i : Nat), (entsF i D).length = D.length
  | [], _ => rfl
  | _ :: r, i => by simp [entsF, entsF_length r]
theorem entsF_get : ∀ (D : List (List UInt8 × Value)) (i k : Nat) (h : k < D.length), (entsF i D)[k]? = some ⟨.string ⟨(D[k]'h).1.toArray⟩, (D[k]'h).2, i + k⟩
  | _ :: r, i, 0, h => rfl
  | _ :: r, i, k + 1, h => by
    have := entsF_get r (i + 1) k (by simpa using h)
    simp only [entsF, List.getElem?_cons_succ, List.getElem_cons_succ]
    rw [this]
    congr 2
    omega
theorem entsF_snoc : ∀ (D : List (List UInt8 × Value)) (i : Nat) (p : List UInt8 × Value), entsF i (D ++ [p]) = entsF i D ++ [⟨.string ⟨p.1.toArray⟩, p.2, i + D.length⟩]
  | [], i, p => rfl
  | q :: r, i, p => by
    simp only [List.cons_append, entsF, entsF_snoc r (i + 1) p, List.length_cons]
    rw [show i + 1 + r.length = i + (r.length + 1) by omega]
theorem str_beq (t k : List UInt8) : ((⟨t.toArray⟩ : ByteArray) == (⟨k.toArray⟩ : ByteArray)) = decide (t = k) := by
  rw [Bool.eq_iff_iff, MapKept.bytes_beq, decide_eq_true_iff]
  exact ⟨fun e => by simpa using congrArg (fun b : ByteArray => b.data.toList) e, fun e => by rw [e]⟩
theorem findNow_ents (t : List UInt8) : ∀ (D : List (List UInt8 × Value)) (j i : Nat), Instr.findNow .string (.string ⟨t.toArray⟩) (entsF j D) i = some (fndM t D i)
  | [], _, _ => rfl
  | p :: r, j, i => by
    simp only [entsF, Instr.findNow, Instr.sameNow, str_beq, fndM]
    by_cases h : t = p.1
    · rw [decide_eq_true h, if_pos h]
    · rw [decide_eq_false h, if_neg h]
      exact findNow_ents t r (j + 1) (i + 1)
theorem fndM_some {t : List UInt8} : ∀ {D : List (List UInt8 × Value)} {i j : Nat} {v : Value}, fndM t D i = some (j, v) → ∃ k, j = i + k ∧ ∃ h : k < D.length, D[k] = (t, v)
  | p :: r, i, j, v, h => by
    unfold fndM at h
    split at h
    · rename_i e
      simp only [Option.some.injEq, Prod.mk.injEq] at h
      exact ⟨0, by omega, by simp, by simp [← h.2, e]⟩
    · obtain ⟨k, h1, h2, h3⟩ := fndM_some h
      exact ⟨k + 1, by omega, by simpa using h2, by simpa using h3⟩
theorem fndM_none {t : List UInt8} : ∀ {D : List (List UInt8 × Value)} {i : Nat}, fndM t D i = none → ∀ p ∈ D, p.1 ≠ t
  | p :: r, i, h, q, hq => by
    unfold fndM at h
    split at h
    · cases h
    · rename_i e
      rcases List.mem_cons.1 hq with rfl | hq
      · exact fun e2 => e e2.symm
      · exact fndM_none h q hq
section
variable {C : Cx} {fr : Fr} {L : List Ch} {x y z : Operand} {f : Ch → List Ch} {t k e ty : TypeId} {g : Nat} {D : List (List UInt8 × Value)} {s : List UInt8} {v zv : Value}
theorem eff_makeMap : Eff C fr L (.makeMap t none) ty (fun p L' => ∃ g, p = .map (some g) ∧ L' = .obj g (mpO []) :: L) := fun a w ha hw d pos af gg =>
  ⟨.map (some w.heap.size), w.alloc (.map #[] 0), .obj w.heap.size (mpO []) :: L, .inl (by simp [execOp, run_makeMap_plain]), ⟨w.heap.size, rfl, rfl⟩,
    hw.cons_new (World.grownBy_alloc w _ none) ⟨hw.base, (MapKept.heap_alloc w (.map #[] 0)).1⟩ (.inr ⟨_, rfl, Nat.le_refl _⟩)⟩
theorem det_lookup (ht : C.P.underlying t = some (.map k e)) (hk : C.P.underlying k = some .string) (hz : ∀ w, (zeroValue e).run C.P w = .ok zv w) (hm : ev fr x = some (.map (some g))) (hx : ev fr y = some (.string ⟨s.toArray⟩)) (hs : Sel (.obj g (mpO D)) L f) :
    Det C fr L (.lookup t x y false) ty (((fndM s D 0).map (·.2)).getD zv) := fun a w ha hw d pos af gg => by
  have hb : w.heap[g]? = some (.map (entsF 0 D).toArray D.length) := (hw.all _ hs.mem).2
  have hc : ∀ em, (Instr.checkKey em 10000 k (.string ⟨s.toArray⟩)).run C.P w = .ok () w := fun em => MapKept.run_checkKey (k := .string ⟨s.toArray⟩) hk (by simp [MapKept.IsKey]) em 9999
  have hf := MapKept.run_findKey (P := C.P) (w := w) hk (findNow_ents s D 0 0)
  cases hfd : fndM s D 0 with
  | none =>
    rw [hfd] at hf
    simp [execOp, ha.tmp hm, ha.tmp hx, Instr.lookup, run_underlying ht, MapKept.run_getObj_map hb, hc, hf, hz, Result.andThen]
  | some q =>
    rw [hfd] at hf
    obtain ⟨j, u⟩ := q
    simp [execOp, ha.tmp hm, ha.tmp hx, Instr.lookup, run_underlying ht, MapKept.run_getObj_map hb, hc, hf, Result.andThen]
theorem entsF_set : ∀ (D : List (List UInt8 × Value)) (i j : Nat) (p : List UInt8 × Value), j < D.length → entsF i (D.set j p) = (entsF i D).modify j fun e => { e with key := .string ⟨p.1.toArray⟩, val := p.2 }
  | q :: r, i, 0, p, _ => by simp [entsF]
  | q :: r, i, j + 1, p, h => by
    simp only [List.set_cons_succ, entsF, List.modify_succ_cons]
    rw [entsF_set r (i + 1) j p (by simpa using h)]
theorem eff_mapUpdate (ht : C.P.underlying t = some (.map k e)) (hk : C.P.underlying k = some .string) (hm : ev fr x = some (.map (some g))) (hx : ev fr y = some (.string ⟨s.toArray⟩)) (hv : ev fr z = some v) (hs : Sel (.obj g (mpO D)) L f) :
    Eff C fr L (.mapUpdate t x y z) ty (fun p L' => L' = f (.obj g (mpO (putM D s v)))) := fun a w ha hw d pos af gg => by
  have hb : w.heap[g]? = some (.map (entsF 0 D).toArray D.length) := (hw.all _ hs.mem).2
  have hc : ∀ em, (Instr.checkKey em 10000 k (.string ⟨s.toArray⟩)).run C.P w = .ok () w := fun em => MapKept.run_checkKey (k := .string ⟨s.toArray⟩) hk (by simp [MapKept.IsKey]) em 9999
  have hf := MapKept.run_findKey (P := C.P) (w := w) hk (findNow_ents s D 0 0)
  have hlt := (Array.getElem?_eq_some_iff.1 hb).1
  have hsl : ∀ o, SL C.B C.w0 (f (.obj g o)) { w with heap := w.heap.setIfInBounds g o } := fun o =>
    hw.sel hs ⟨rfl, rfl, rfl, by simp, fun j _ hj => by
      have : g ≠ j := fun e => hj (by rw [e]; rfl)
      simp [this]⟩ (fun h => ⟨h.1, by simp [hlt]⟩) (.inr (.inl rfl))
  cases hfd : fndM s D 0 with
  | none =>
    rw [hfd] at hf
    have e1 : mpO (putM D s v) = .map ((entsF 0 D).toArray.push ⟨.string ⟨s.toArray⟩, v, D.length⟩) (D.length + 1) := by
      unfold putM mpO; rw [hfd]; simp [entsF_snoc]
    refine ⟨undef, _, _, .inr ⟨?_, rfl⟩, rfl, by rw [e1]; exact hsl _⟩
    simp [execOp, ha.tmp hm, ha.tmp hx, ha.tmp hv, Instr.mapUpdate, run_underlying ht, MapKept.run_getObj_map hb, hc, hf, MapKept.run_setObj_map _ hb, Result.andThen]
  | some q =>
    rw [hfd] at hf
    obtain ⟨j, u⟩ := q
    obtain ⟨j', hj, hjl, hje⟩ := fndM_some hfd
    obtain rfl : j = j' := by omega
    have hg := entsF_get D 0 j hjl
    have e1 : mpO (putM D s v) = .map ((entsF 0 D).toArray.modify j fun e => { e with key := .string ⟨s.toArray⟩, val := v }) D.length := by
      unfold putM mpO; rw [hfd]; simp [entsF_set D 0 j (s, v) hjl]
    have hky : (Instr.keyThatStays (.string ⟨s.toArray⟩) (.string ⟨s.toArray⟩)).run C.P w = .ok (.string ⟨s.toArray⟩) w := MapKept.run_keyThatStays (d := .string) (by simp [MapKept.IsKey])
    have hkk : (((entsF 0 D).toArray[j]?).map (·.key)).getD (.string ⟨s.toArray⟩) = .string ⟨s.toArray⟩ := by
      rw [List.getElem?_toArray, hg, hje]; rfl
    refine ⟨undef, _, _, .inr ⟨?_, rfl⟩, rfl, by rw [e1]; exact hsl _⟩
    simp only [execOp, ha.tmp hm, ha.tmp hx, ha.tmp hv, Instr.mapUpdate]
    simp [run_underlying ht, MapKept.run_getObj_map hb, hc, hf, Result.andThen]
    simp at hkk
    simp [hkk, hky, MapKept.run_setObj_map _ hb]
end
end Go.Proofs.Ytpamjobiohbibaa
namespace Go.Proofs.Ytpamjobiohbibaa
open Go.RowKit
set_option linter.unusedVariables false
def natv (l : List Nat) : List Value := l.map fun (n : Nat) => Value.int .i64 (n : Int)
@[simp] theorem natv_append (l k : List Nat) : natv (l ++ k) = natv l ++ natv k := by simp [natv]
@[simp] theorem natv_length (l : List Nat) : (natv l).length = l.length := by simp [natv]
theorem natv_one (l : List Nat) : ∀ u ∈ natv l, u.oneCell' = true := by
  intro u hu; obtain ⟨b, _, rfl⟩ := List.mem_map.1 hu; rfl
theorem natv_get {l : List Nat} {k : Nat} (h : k < l.length) : (natv l)[k * 1]? = some (.int .i64 (l.getD k 0 : Nat)) := by
  simp [natv, List.getD, List.getElem?_eq_getElem h]
end Go.Proofs.Ytpamjobiohbibaa
namespace Go.Proofs.Ytpamjobiohbibaa
open Go.RowKit
set_option linter.unusedVariables false
set_option maxRecDepth 20000
/-- an entry: its key, where its row lies, the row's room, the numbers -/
abbrev Grp := List UInt8 × Option Addr × Nat × List Nat
def gVal (e : Grp) : Value := .slice e.2.1 e.2.2.2.length e.2.2.1
def gVals (D : List Grp) : List (List UInt8 × Value) := D.map fun e => (e.1, gVal e)
def gRow (e : Grp) : Ch := .own 3 1 e.2.1 e.2.2.2.length e.2.2.1 (natv e.2.2.2)
/-- a key's numbers -/
def gsT (t : List UInt8) : List Grp → List Nat
  | [] => []
  | e :: r => if t = e.1 then e.2.2.2 else gsT t r
/-- one more number at a key -/
def upG (t : List UInt8) (A : Option Addr) (c i : Nat) : List Grp → List Grp
  | [] => [(t, A, c, [i])]
  | e :: r => if t = e.1 then (t, A, c, e.2.2.2 ++ [i]) :: r else e :: upG t A c i r
theorem fndM_succ (t : List UInt8) : ∀ (D : List (List UInt8 × Value)) (i : Nat), fndM t D (i + 1) = (fndM t D i).map fun q => (q.1 + 1, q.2)
  | [], _ => rfl
  | p :: r, i => by
    unfold fndM
    split
    · rfl
    · exact fndM_succ t r (i + 1)
theorem putM_cons (t : List UInt8) (v : Value) (p : List UInt8 × Value) (r : List (List UInt8 × Value)) : putM (p :: r) t v = if t = p.1 then (t, v) :: r else p :: putM r t v := by
  unfold putM
  have e : fndM t (p :: r) 0 = if t = p.1 then some (0, p.2) else fndM t r (0 + 1) := rfl
  by_cases h : t = p.1
  · rw [e, if_pos h, if_pos h]; rfl
  · rw [e, if_neg h, if_neg h, fndM_succ]
    cases fndM t r 0 with
    | none => rfl
    | some q => rfl
theorem putM_up (t : List UInt8) (A : Option Addr) (c i : Nat) : ∀ (D : List Grp), putM (gVals D) t (.slice A ((gsT t D).length + 1) c) = gVals (upG t A c i D)
  | [] => by simp [putM, gVals, fndM, gsT, upG, gVal]
  | e :: r => by
    have ih := putM_up t A c i r
    show putM ((e.1, gVal e) :: gVals r) t _ = _
    rw [putM_cons]
    unfold gsT upG
    by_cases h : t = e.1
    · rw [if_pos h, if_pos h, if_pos h]
      simp [gVals, gVal]
    · rw [if_neg h, if_neg h, if_neg h, ih]
      rfl
/-- the entry at a key, or a nil row; and the entries behind one more number -/
theorem grp_get (t : List UInt8) : ∀ (D : List Grp), ∃ (A : Option Addr) (c : Nat) (R : List Ch),
    (((fndM t (gVals D) 0).map (·.2)).getD (.slice none 0 0) = .slice A (gsT t D).length c) ∧
    ((D.map gRow).Perm (.own 3 1 A (gsT t D).length c (natv (gsT t D)) :: R) ∨ (A = none ∧ c = 0 ∧ gsT t D = [] ∧ R = D.map gRow)) ∧
    (∀ A' c' i, ((upG t A' c' i D).map gRow).Perm (.own 3 1 A' ((gsT t D).length + 1) c' (natv (gsT t D ++ [i])) :: R))
  | [] => ⟨none, 0, [], rfl, .inr ⟨rfl, rfl, rfl, rfl⟩, fun A' c' i => .refl _⟩
  | e :: r => by
    by_cases h : t = e.1
    · refine ⟨e.2.1, e.2.2.1, r.map gRow, ?_, .inl ?_, fun A' c' i => ?_⟩
      · show ((fndM t ((e.1, gVal e) :: gVals r) 0).map (·.2)).getD _ = _
        unfold fndM gsT
        rw [if_pos h, if_pos h]
        rfl
      · unfold gsT
        rw [if_pos h]
        exact .refl _
      · unfold gsT upG
        rw [if_pos h, if_pos h]
        simp only [List.map_cons, gRow, List.length_append, List.length_singleton]
        exact .refl _
    · obtain ⟨A, c, R, h1, h2, h3⟩ := grp_get t r
      refine ⟨A, c, gRow e :: R, ?_, ?_, fun A' c' i => ?_⟩
      · show ((fndM t ((e.1, gVal e) :: gVals r) 0).map (·.2)).getD _ = _
        unfold fndM gsT
        rw [if_neg h, if_neg h, fndM_succ, ← h1]
        cases fndM t (gVals r) 0 <;> rfl
      · unfold gsT
        rw [if_neg h]
        rcases h2 with h2 | ⟨h2, h4, h5, h6⟩
        · exact .inl ((h2.cons _).trans (.swap _ _ _))
        · exact .inr ⟨h2, h4, h5, by rw [h6]; rfl⟩
      · unfold gsT upG
        rw [if_neg h, if_neg h]
        exact ((h3 A' c' i).cons _).trans (.swap _ _ _)
theorem gsT_up (t s : List UInt8) (A : Option Addr) (c i : Nat) : ∀ (D : List Grp), gsT s (upG t A c i D) = if s = t then gsT s D ++ [i] else gsT s D
  | [] => by
    unfold upG gsT
    split <;> simp [gsT]
  | e :: r => by
    unfold upG
    by_cases h : t = e.1
    · rw [if_pos h]
      unfold gsT
      by_cases h2 : s = t
      · subst h2; simp [h]
      · rw [if_neg h2, if_neg h2, if_neg (fun q => h2 (q.trans h.symm))]
    · rw [if_neg h]
      unfold gsT
      by_cases h2 : s = e.1
      · rw [if_pos h2, if_pos h2, if_neg (fun q => h (q.symm.trans h2))]
      · rw [if_neg h2, if_neg h2]
        exact gsT_up t s A c i r
theorem keys_up (t s : List UInt8) (A : Option Addr) (c i : Nat) : ∀ (D : List Grp), s ∈ (upG t A c i D).map (·.1) ↔ s = t ∨ s ∈ D.map (·.1)
  | [] => by simp [upG]
  | e :: r => by
    unfold upG
    by_cases h : t = e.1
    · rw [if_pos h]; simp [h]
    · rw [if_neg h, List.map_cons, List.mem_cons, keys_up t s A c i r, List.map_cons, List.mem_cons]
      exact ⟨fun h => h.elim (fun h => .inr (.inl h)) (fun h => h.elim .inl fun h => .inr (.inr h)), fun h => h.elim (fun h => .inr (.inl h)) (fun h => h.elim .inl fun h => .inr (.inr h))⟩
theorem nodup_up (t : List UInt8) (A : Option Addr) (c i : Nat) : ∀ (D : List Grp), (D.map (·.1)).Nodup → ((upG t A c i D).map (·.1)).Nodup
  | [], _ => by simp [upG]
  | e :: r, h => by
    rw [List.map_cons, List.nodup_cons] at h
    unfold upG
    by_cases ht : t = e.1
    · rw [if_pos ht, List.map_cons, List.nodup_cons]
      exact ⟨by rw [ht]; exact h.1, h.2⟩
    · rw [if_neg ht, List.map_cons, List.nodup_cons, keys_up]
      exact ⟨fun q => q.elim (fun q => ht q.symm) h.1, nodup_up t A c i r h.2⟩
theorem up_len (t : List UInt8) (A : Option Addr) (c i : Nat) : ∀ (D : List Grp), (upG t A c i D).length ≤ D.length + 1
  | [] => by simp [upG]
  | e :: r => by
    unfold upG
    split
    · simp
    · have := up_len t A c i r; simp; omega
theorem zero_of {P : Program} {e : TypeId} {zv : Value} (h : (P.info? e).bind (·.zero) = some zv) (w : World) : (zeroValue e).run P w = .ok zv w := by
  cases hi : P.info? e with
  | none => rw [hi] at h; simp at h
  | some i => rw [hi] at h; simp at h; simp [zeroValue, typeInfo, hi, h]
/-- memory seen another way -/
theorem vc_sl {C : Cx} {c : Code} {Q : Exit → Fr → List Ch → Prop} {fr : Fr} {L M : List Ch} (h : ∀ w, SL C.B C.w0 L w → SL C.B C.w0 M w) (k : VC C c Q fr M) : VC C c Q fr L := fun a w ha hw => k a w ha (h w hw)
theorem sl_grp {B : Nat} {w0 : World} {w : World} {D : List Grp} {A : Option Addr} {xs : List Nat} {c g : Nat} {o : Obj} {R F : List Ch} (h : (D.map gRow).Perm (.own 3 1 A xs.length c (natv xs) :: R) ∨ (A = none ∧ c = 0 ∧ xs = [] ∧ R = D.map gRow))
    (hw : SL B w0 (.obj g o :: (D.map gRow ++ F)) w) : SL B w0 (.own 3 1 A xs.length c (natv xs) :: .obj g o :: (R ++ F)) w := by
  rcases h with h | ⟨rfl, rfl, rfl, rfl⟩
  · exact hw.perm (((h.append_right F).cons _).trans (.swap _ _ _))
  · exact hw.nil_row 3 1 none
end Go.Proofs.Ytpamjobiohbibaa
namespace Go.Proofs.Ytpamjobiohbibaa

theorem ofInt_nat (n a : Nat) (ha : a < 2 ^ n) : (BitVec.ofInt n (a : Int)).toNat = a := by
  rw [BitVec.ofInt_natCast, BitVec.toNat_ofNat]; exact Nat.mod_eq_of_lt ha
theorem wrap_u8 (a : Nat) (h : a < 256) : IntKind.u8.wrap (a : Int) = (a : Int) := by
  show (a : Int) % 256 = a; omega
theorem wrap_u16 (a : Nat) (h : a < 65536) : IntKind.u16.wrap (a : Int) = (a : Int) := by
  show (a : Int) % 65536 = a; omega
theorem wrap_u64 (a : Nat) (h : a < 18446744073709551616) : IntKind.u64.wrap (a : Int) = (a : Int) := by
  show (a : Int) % 18446744073709551616 = a; omega
theorem wrap_i64 (a : Int) (h1 : -9223372036854775808 ≤ a) (h2 : a < 9223372036854775808) : IntKind.i64.wrap a = a := by
  rw [IntKind.wrap_i64]; omega
section
variable (a b : Nat)
theorem u8_and (ha : a < 256) (hb : b < 256) : bits .and .u8 (a : Int) (b : Int) = ((a &&& b : Nat) : Int) := by
  have hx : a &&& b < 256 := Nat.lt_of_le_of_lt Nat.and_le_left ha
  show IntKind.u8.wrap ((BitVec.ofInt 8 (a : Int) &&& BitVec.ofInt 8 (b : Int)).toNat : Int) = _
  rw [BitVec.toNat_and, ofInt_nat 8 a ha, ofInt_nat 8 b hb, wrap_u8 _ hx]
theorem u8_or (ha : a < 256) (hb : b < 256) : bits .or .u8 (a : Int) (b : Int) = ((a ||| b : Nat) : Int) := by
  have hx : a ||| b < 2 ^ 8 := Nat.or_lt_two_pow ha hb
  show IntKind.u8.wrap ((BitVec.ofInt 8 (a : Int) ||| BitVec.ofInt 8 (b : Int)).toNat : Int) = _
  rw [BitVec.toNat_or, ofInt_nat 8 a ha, ofInt_nat 8 b hb, wrap_u8 _ hx]
theorem u64_and (ha : a < 18446744073709551616) (hb : b < 18446744073709551616) : bits .and .u64 (a : Int) (b : Int) = ((a &&& b : Nat) : Int) := by
  have hx : a &&& b < 18446744073709551616 := Nat.lt_of_le_of_lt Nat.and_le_left ha
  show IntKind.u64.wrap ((BitVec.ofInt 64 (a : Int) &&& BitVec.ofInt 64 (b : Int)).toNat : Int) = _
  rw [BitVec.toNat_and, ofInt_nat 64 a ha, ofInt_nat 64 b hb, wrap_u64 _ hx]
theorem u64_or (ha : a < 18446744073709551616) (hb : b < 18446744073709551616) : bits .or .u64 (a : Int) (b : Int) = ((a ||| b : Nat) : Int) := by
  have hx : a ||| b < 2 ^ 64 := Nat.or_lt_two_pow ha hb
  show IntKind.u64.wrap ((BitVec.ofInt 64 (a : Int) ||| BitVec.ofInt 64 (b : Int)).toNat : Int) = _
  rw [BitVec.toNat_or, ofInt_nat 64 a ha, ofInt_nat 64 b hb, wrap_u64 _ hx]
theorem u64_xor (ha : a < 18446744073709551616) (hb : b < 18446744073709551616) : bits .xor .u64 (a : Int) (b : Int) = ((a ^^^ b : Nat) : Int) := by
  have hx : a ^^^ b < 2 ^ 64 := Nat.xor_lt_two_pow ha hb
  show IntKind.u64.wrap ((BitVec.ofInt 64 (a : Int) ^^^ BitVec.ofInt 64 (b : Int)).toNat : Int) = _
  rw [BitVec.toNat_xor, ofInt_nat 64 a ha, ofInt_nat 64 b hb, wrap_u64 _ hx]
theorem i64_and (ha : a < 9223372036854775808) (hb : b < 9223372036854775808) : bits .and .i64 (a : Int) (b : Int) = ((a &&& b : Nat) : Int) := by
  have hx : a &&& b < 2 ^ 63 := Nat.and_lt_two_pow _ (by omega)
  show IntKind.i64.wrap ((BitVec.ofInt 64 (a : Int) &&& BitVec.ofInt 64 (b : Int)).toNat : Int) = _
  rw [BitVec.toNat_and, ofInt_nat 64 a (by omega), ofInt_nat 64 b (by omega), wrap_i64] <;> omega
theorem i64_or (ha : a < 9223372036854775808) (hb : b < 9223372036854775808) : bits .or .i64 (a : Int) (b : Int) = ((a ||| b : Nat) : Int) := by
  have hx : a ||| b < 2 ^ 63 := Nat.or_lt_two_pow (by omega) (by omega)
  show IntKind.i64.wrap ((BitVec.ofInt 64 (a : Int) ||| BitVec.ofInt 64 (b : Int)).toNat : Int) = _
  rw [BitVec.toNat_or, ofInt_nat 64 a (by omega), ofInt_nat 64 b (by omega), wrap_i64] <;> omega
end
/-- setting the bit 128 of a byte -/
theorem or_128 (a : Nat) (h : a < 256) : a ||| 128 = 128 + a % 128 := by
  have : ∀ x : Fin 256, x.val ||| 128 = 128 + x.val % 128 := by decide +kernel
  exact this ⟨a, h⟩
end Go.Proofs.Ytpamjobiohbibaa
namespace Go.Proofs.Ytpamjobiohbibaa
/-- a number's bytes -/
def encN : Nat → List UInt8
  | x => if h : 128 ≤ x then UInt8.ofNat (128 + x % 128) :: encN (x / 128) else [UInt8.ofNat x]
  termination_by x => x
  decreasing_by omega
theorem encN_lt {x : Nat} (h : x < 128) : encN x = [UInt8.ofNat x] := by
  rw [encN]; simp; omega
theorem encN_ge {x : Nat} (h : 128 ≤ x) : encN x = UInt8.ofNat (128 + x % 128) :: encN (x / 128) := by
  rw [encN]; simp [h]
theorem encN_len (k : Nat) : ∀ x, x < 128 ^ (k + 1) → (encN x).length ≤ k + 1 := by
  induction k with
  | zero => intro x h; rw [encN_lt (by simpa using h)]; simp
  | succ k ih =>
    intro x h
    by_cases hx : 128 ≤ x
    · rw [encN_ge hx]
      have := ih (x / 128) (by rw [Nat.pow_succ] at h; omega)
      simp; omega
    · rw [encN_lt (by omega)]; simp
theorem encN_len10 {x : Nat} (h : x < 18446744073709551616) : (encN x).length ≤ 10 := by
  exact encN_len 9 x (by have : (128 : Nat) ^ 10 = 1180591620717411303424 := by decide +kernel
                         omega)
theorem u8n (x : Nat) (h : x < 256) : (UInt8.ofNat x).toNat = x := by simp; omega
theorem bv_one1 (x : Nat) (h : x < 256) : bv [UInt8.ofNat x] = [.int .u8 (x : Int)] := by simp only [bv, List.map_cons, List.map_nil, u8n x h]
/-- a text's bytes -/
def encT (l : List UInt8) : List UInt8 := encN l.length ++ l
/-- a fixed number's bytes -/
def fixL (x : Nat) : Nat → List UInt8
  | 0 => []
  | k + 1 => fixL x k ++ [UInt8.ofNat (x / 2 ^ (8 * k) % 256)]
@[simp] theorem fixL_length (x k : Nat) : (fixL x k).length = k := by induction k with
  | zero => rfl
  | succ k ih => simp [fixL, ih]
theorem div_step (x k : Nat) : x / 2 ^ (8 * k) / 256 = x / 2 ^ (8 * (k + 1)) := by
  rw [Nat.div_div_eq_div_mul, show 8 * (k + 1) = 8 * k + 8 by omega, Nat.pow_add]
theorem int_div_pow (x k : Nat) : (x : Int) / 2 ^ k = ((x / 2 ^ k : Nat) : Int) := by
  rw [Int.natCast_ediv]; congr 1
theorem fix_set {x n k : Nat} (h : k < n) (u : Value) (hu : u = .int .u8 ((x / 2 ^ (8 * k) % 256 : Nat) : Int)) :
    (bv (fixL x k) ++ List.replicate (n - k) (Value.int .u8 0)).set k u = bv (fixL x (k + 1)) ++ List.replicate (n - (k + 1)) (Value.int .u8 0) := by
  rw [rep_mid _ h, set_mid _ _ _ _ (by simp), hu, fixL, bv_append, bv_one1 _ (Nat.mod_lt _ (by omega))]
  simp
end Go.Proofs.Ytpamjobiohbibaa
namespace Go.Proofs.Ytpamjobiohbibaa
open Go.RowKit
set_option linter.unusedVariables false
set_option maxRecDepth 20000
abbrev Txt := List UInt8
/-- no text behind the other -/
def leT (s r : Txt) : Prop := Op.bytesLess s r = true ∨ s = r
instance (s r : Txt) : Decidable (leT s r) := inferInstanceAs (Decidable (_ ∨ _))
theorem leT_iff (s r : Txt) : (Op.bytesLess s r || decide (s = r)) = decide (leT s r) := by
  by_cases hp : leT s r
  · rw [decide_eq_true hp]
    rcases hp with h | h <;> simp [h]
  · rw [decide_eq_false hp]
    unfold leT at hp
    have h1 : ¬ Op.bytesLess s r = true := fun h => hp (.inl h)
    have h2 : ¬ s = r := fun h => hp (.inr h)
    simp [h1, h2]
section
variable {C : Cx} {fr : Fr} {L : List Ch} {x y : Operand} {s r : List UInt8} {xt yt ty : TypeId}
theorem det_s_gtrD (h1 : ev fr x = some (.string ⟨s.toArray⟩)) (h2 : ev fr y = some (.string ⟨r.toArray⟩)) : Det C fr L (.binOp .gtr xt x y yt) ty (.bool (decide (¬ leT s r))) := by
  have h := det_s_gtr (C := C) (L := L) (xt := xt) (yt := yt) (ty := ty) h1 h2
  rw [leT_iff, ← decide_not] at h
  exact h
theorem det_s_leqD (h1 : ev fr x = some (.string ⟨s.toArray⟩)) (h2 : ev fr y = some (.string ⟨r.toArray⟩)) : Det C fr L (.binOp .leq xt x y yt) ty (.bool (decide (leT s r))) := by
  have h := det_s_leq (C := C) (L := L) (xt := xt) (yt := yt) (ty := ty) h1 h2
  rw [leT_iff] at h
  exact h
theorem det_s_lssD (h1 : ev fr x = some (.string ⟨s.toArray⟩)) (h2 : ev fr y = some (.string ⟨r.toArray⟩)) : Det C fr L (.binOp .lss xt x y yt) ty (.bool (decide (Op.bytesLess s r = true))) := by
  have h := det_s_lss (C := C) (L := L) (xt := xt) (yt := yt) (ty := ty) h1 h2
  rwa [show Op.bytesLess s r = decide (Op.bytesLess s r = true) by cases Op.bytesLess s r <;> rfl] at h
end
/-- a text may stand behind another one -/
def mayT (was s : Txt) : Prop := s ≠ [] ∧ s.length ≤ 25 ∧ ¬ leT s was
instance (was s : Txt) : Decidable (mayT was s) := inferInstanceAs (Decidable (_ ∧ _ ∧ _))
def prvT (l : List Txt) (i : Nat) : Txt := if i = 0 then [] else l.getD (i - 1) []
def RisT (l : List Txt) : Prop := (∀ i, i < l.length → mayT (prvT l i) (l.getD i [])) ∧ l.length ≤ 1048576
instance (l : List Txt) : Decidable (RisT l) := inferInstanceAs (Decidable ((∀ i, i < l.length → _) ∧ _))
theorem prvT_succ (l : List Txt) (i : Nat) : prvT l (i + 1) = l.getD i [] := by simp [prvT]
theorem not_leT_nil {s : Txt} (h : s ≠ []) : ¬ leT s [] := by
  rintro (h1 | h1)
  · cases s <;> simp [Op.bytesLess] at h1
  · exact h h1
/-- how many bytes two texts begin with alike -/
def lcp : Txt → Txt → Nat
  | x :: a, y :: b => if x = y then lcp a b + 1 else 0
  | _, _ => 0
theorem lcp_le : ∀ a b : Txt, lcp a b ≤ a.length ∧ lcp a b ≤ b.length
  | [], _ => by simp [lcp]
  | _ :: _, [] => by simp [lcp]
  | x :: a, y :: b => by
    unfold lcp
    have := lcp_le a b
    split <;> simp only [List.length_cons] <;> omega
theorem lcp_step : ∀ (a b : Txt) (n : Nat), n ≤ lcp a b → (n < lcp a b ↔ (n < a.length ∧ n < b.length) ∧ a.getD n 0 = b.getD n 0)
  | [], _, n, h => by simp [lcp]
  | _ :: _, [], n, h => by simp [lcp]
  | x :: a, y :: b, n, h => by
    unfold lcp at h ⊢
    split at h
    · rename_i he
      rw [if_pos he]
      cases n with
      | zero => simp [he]
      | succ n =>
        have := lcp_step a b n (by omega)
        simp only [List.length_cons, List.getD_cons_succ]
        exact ⟨fun h => by obtain ⟨⟨h1, h2⟩, h3⟩ := this.1 (by omega); exact ⟨⟨by omega, by omega⟩, h3⟩, fun h => by have := this.2 ⟨⟨by omega, by omega⟩, h.2⟩; omega⟩
    · rename_i he
      rw [if_neg he]
      have : n = 0 := by omega
      subst this
      simp [he]
/-- a bucket's bytes -/
def tailT : Txt → List Txt → List UInt8
  | _, [] => []
  | was, s :: r => encN (lcp was s) ++ encT (s.drop (lcp was s)) ++ tailT s r
def bucketT : List Txt → List UInt8
  | [] => []
  | t :: r => encT t ++ tailT t r
end Go.Proofs.Ytpamjobiohbibaa
namespace Go.Proofs.Ytpamjobiohbibaa
open Go.RowKit
set_option linter.unusedVariables false
set_option maxRecDepth 20000
def ltT (a b : Txt) : Prop := Op.bytesLess a b = true
instance (a b : Txt) : Decidable (ltT a b) := inferInstanceAs (Decidable (_ = _))
theorem not_ltT_nil (a : Txt) : ¬ ltT a [] := by cases a <;> simp [ltT, Op.bytesLess]
theorem ltT_nil_cons (b : UInt8) (y : Txt) : ltT [] (b :: y) := rfl
theorem ltT_cons {a b : UInt8} {x y : Txt} : ltT (a :: x) (b :: y) ↔ a < b ∨ a = b ∧ ltT x y := by simp [ltT, Op.bytesLess]
theorem u8_lt {a b : UInt8} : a < b ↔ a.toNat < b.toNat := UInt8.lt_iff_toNat_lt
theorem u8_eq {a b : UInt8} : a = b ↔ a.toNat = b.toNat := UInt8.toNat_inj.symm
theorem ltT_irrefl : ∀ a : Txt, ¬ ltT a a
  | [] => not_ltT_nil _
  | a :: x => by
    rw [ltT_cons, u8_lt]
    have := ltT_irrefl x
    rintro (h | ⟨_, h⟩)
    · omega
    · exact this h
theorem ltT_trans : ∀ {a b c : Txt}, ltT a b → ltT b c → ltT a c
  | _, _, [], _, h => absurd h (not_ltT_nil _)
  | _, [], _ :: _, h, _ => absurd h (not_ltT_nil _)
  | [], _ :: _, c :: z, _, _ => ltT_nil_cons c z
  | a :: x, b :: y, c :: z, h1, h2 => by
    rw [ltT_cons, u8_lt] at *
    rw [u8_eq] at *
    rcases h1 with h1 | ⟨h1, h1'⟩ <;> rcases h2 with h2 | ⟨h2, h2'⟩
    · left; omega
    · left; omega
    · left; omega
    · exact .inr ⟨by omega, ltT_trans h1' h2'⟩
theorem ltT_total : ∀ a b : Txt, ltT a b ∨ a = b ∨ ltT b a
  | [], [] => .inr (.inl rfl)
  | [], b :: y => .inl (ltT_nil_cons b y)
  | a :: x, [] => .inr (.inr (ltT_nil_cons a x))
  | a :: x, b :: y => by
    rw [ltT_cons, ltT_cons, u8_lt, u8_lt, List.cons.injEq, u8_eq, u8_eq]
    rcases Nat.lt_trichotomy a.toNat b.toNat with h | h | h
    · exact .inl (.inl h)
    · rcases ltT_total x y with h1 | h1 | h1
      · exact .inl (.inr ⟨h, h1⟩)
      · exact .inr (.inl ⟨h, h1⟩)
      · exact .inr (.inr (.inr ⟨h.symm, h1⟩))
    · exact .inr (.inr (.inl h))
theorem leT_lt {s r : Txt} : leT s r ↔ ltT s r ∨ s = r := Iff.rfl
theorem not_leT {s r : Txt} : ¬ leT s r ↔ ltT r s := by
  rw [leT_lt]
  constructor
  · intro h
    rcases ltT_total s r with h1 | h1 | h1
    · exact absurd (.inl h1) h
    · exact absurd (.inr h1) h
    · exact h1
  · rintro h (h1 | h1)
    · exact ltT_irrefl _ (ltT_trans h h1)
    · subst h1; exact ltT_irrefl _ h
theorem not_ltT {s r : Txt} : ¬ ltT s r ↔ leT r s := by rw [← not_leT, Classical.not_not]
theorem leT_ltT {a b c : Txt} (h : leT a b) (k : ltT b c) : ltT a c := h.elim (fun h => ltT_trans h k) (fun h => h ▸ k)
theorem ltT_leT {a b c : Txt} (h : ltT a b) (k : leT b c) : ltT a c := k.elim (fun k => ltT_trans h k) (fun k => k ▸ h)
theorem leT_refl (a : Txt) : leT a a := .inr rfl
theorem RisT.lt {l : List Txt} (h : RisT l) : ∀ (j i : Nat), i < j → j < l.length → ltT (l.getD i []) (l.getD j [])
  | 0, i, hij, _ => absurd hij (by omega)
  | j + 1, i, hij, hj => by
    have h1 := (h.1 (j + 1) hj).2.2
    rw [prvT_succ, not_leT] at h1
    by_cases e : i = j
    · rw [e]; exact h1
    · exact ltT_trans (RisT.lt h j i (by omega) (by omega)) h1
theorem RisT.le' {l : List Txt} (h : RisT l) {i j : Nat} (hij : i ≤ j) (hj : j < l.length) : leT (l.getD i []) (l.getD j []) := by
  rcases Nat.lt_or_ge i j with h1 | h1
  · exact .inl (h.lt j i h1 hj)
  · rw [show i = j by omega]; exact leT_refl _
theorem RisT.inj {l : List Txt} (h : RisT l) {i j : Nat} (hi : i < l.length) (hj : j < l.length) (he : l.getD i [] = l.getD j []) : i = j := by
  rcases Nat.lt_trichotomy i j with h1 | h1 | h1
  · exact absurd (he ▸ h.lt j i h1 hj) (ltT_irrefl _)
  · exact h1
  · exact absurd (he ▸ h.lt i j h1 hi) (ltT_irrefl _)
/-- the place of the first text that isn't below s -/
def plK (l : List Txt) (s : Txt) (k : Nat) : Prop := k ≤ l.length ∧ (∀ i, i < k → ltT (l.getD i []) s) ∧ (∀ i, k ≤ i → i < l.length → ¬ ltT (l.getD i []) s)
/-- a text begins with another one -/
def bgT (x s : Txt) : Prop := s.length ≤ x.length ∧ x.take s.length = s
instance (x s : Txt) : Decidable (bgT x s) := inferInstanceAs (Decidable (_ ∧ _))
theorem bgT_nil (x : Txt) : bgT x [] := ⟨Nat.zero_le _, rfl⟩
theorem bgT_cons {a b : UInt8} {x s : Txt} : bgT (a :: x) (b :: s) ↔ a = b ∧ bgT x s := by
  unfold bgT
  simp only [List.length_cons, List.take_succ_cons, List.cons.injEq, Nat.add_le_add_iff_right]
  exact ⟨fun h => ⟨h.2.1, h.1, h.2.2⟩, fun h => ⟨h.2.1, h.1, h.2.2⟩⟩
theorem not_bgT_nil {b : UInt8} {s : Txt} : ¬ bgT [] (b :: s) := fun h => absurd h.1 (by simp)
theorem bgT_ge : ∀ {x s : Txt}, bgT x s → ¬ ltT x s
  | x, [], _ => not_ltT_nil x
  | [], b :: s, h => absurd h not_bgT_nil
  | a :: x, b :: s, h => by
    obtain ⟨h1, h2⟩ := bgT_cons.1 h
    rw [ltT_cons, u8_lt, u8_eq]
    have := bgT_ge h2
    rw [u8_eq] at h1
    rintro (h | ⟨_, h⟩)
    · omega
    · exact this h
theorem bgT_past : ∀ {s x y : Txt}, leT s x → ¬ bgT x s → ltT x y → ¬ bgT y s
  | [], x, y, _, h, _ => absurd (bgT_nil x) h
  | c :: s, [], y, h, _, _ => absurd h (by rw [leT_lt]; rintro (h | h); exact not_ltT_nil _ h; simp at h)
  | c :: s, d :: x, [], _, _, h => absurd h (not_ltT_nil _)
  | c :: s, d :: x, e :: y, h1, h2, h3 => by
    rw [leT_lt, ltT_cons, List.cons.injEq, u8_lt, u8_eq] at h1
    rw [bgT_cons, u8_eq] at h2
    rw [ltT_cons, u8_lt, u8_eq] at h3
    rw [bgT_cons, u8_eq]
    rintro ⟨h4, h5⟩
    by_cases hcd : c.toNat = d.toNat
    · have hle : leT s x := by
        rcases h1 with (h1 | ⟨_, h1⟩) | ⟨_, h1⟩
        · omega
        · exact .inl h1
        · exact .inr h1
      have hn : ¬ bgT x s := fun h => h2 ⟨hcd.symm, h⟩
      rcases h3 with h3 | ⟨_, h3⟩
      · omega
      · exact bgT_past hle hn h3 h5
    · rcases h1 with (h1 | ⟨h1, _⟩) | ⟨h1, _⟩
      · rcases h3 with h3 | ⟨h3, _⟩ <;> omega
      · exact hcd h1
      · exact hcd h1
/-- the places of those that begin with s -/
def rgK (l : List Txt) (s : Txt) (a b : Nat) : Prop := b ≤ l.length ∧ (∀ i, i < l.length → (bgT (l.getD i []) s ↔ a ≤ i ∧ i < b)) ∧ (a < b ∨ a = 0 ∧ b = 0)
theorem rgK.uniq {l : List Txt} {s : Txt} {a b a' b' : Nat} (h : rgK l s a b) (k : rgK l s a' b') : a = a' ∧ b = b' := by
  obtain ⟨h1, h2, h3⟩ := h
  obtain ⟨k1, k2, k3⟩ := k
  have e : ∀ i, i < l.length → ((a ≤ i ∧ i < b) ↔ (a' ≤ i ∧ i < b')) := fun i hi => (h2 i hi).symm.trans (k2 i hi)
  rcases h3 with h3 | ⟨rfl, rfl⟩
  · have e1 := (e a (by omega)).1 ⟨by omega, by omega⟩
    have e2 := (e (b - 1) (by omega)).1 ⟨by omega, by omega⟩
    have e3 := (e a' (by omega)).2 ⟨by omega, by omega⟩
    have e4 := (e (b' - 1) (by omega)).2 ⟨by omega, by omega⟩
    omega
  · rcases k3 with k3 | ⟨rfl, rfl⟩
    · have e3 := (e a' (by omega)).2 ⟨by omega, by omega⟩
      omega
    · exact ⟨rfl, rfl⟩
end Go.Proofs.Ytpamjobiohbibaa
namespace Go.Proofs
open Go.RowKit Go.Maps Go.Sort Go.Shelf
def Try.sortS_ren : Go.Shelf.Ren := ⟨fun | 6 => 36 | 8 => 60 | 9 => 59 | 19 => 108 | 20 => 109 | 21 => 99 | 22 => 100 | 23 => 101 | 24 => 102 | 25 => 103 | 26 => 104 | 27 => 105 | 28 => 106 | 29 => 107 | 36 => 128 | 31 => 129 | 32 => 130 | 37 => 131 | 38 => 132 | 39 => 133 | 41 => 145 | n => n, fun | 27 => 26 | 29 => 9 | 3 => 3 | 32 => 94 | 26 => 26 | 0 => 0 | 44 => 157 | 46 => 33 | 4 => 4 | 36 => 149 | 35 => 148 | 41 => 154 | 5 => 5 | 9 => 9 | 53 => 180 | 57 => 183 | 63 => 194 | 64 => 114 | n => n, fun | n => n⟩
theorem Try.sortS : Go.Proofs.SlLaysM.n6 Try.prog Try.sortS_ren := {
  mixed := by kernel_rfl
  f6 := ⟨Try.f36.name, by decide, Try.func36.trans (congrArg some (by kernel_rfl))⟩
  f8 := Try.func60.trans (congrArg some (by kernel_rfl))
  f9 := ⟨Try.f59.name, by decide, Try.func59.trans (congrArg some (by kernel_rfl))⟩
  f19 := Try.func108.trans (congrArg some (by kernel_rfl))
  f20 := Try.func109.trans (congrArg some (by kernel_rfl))
  f21 := ⟨Try.f99.name, by decide, Try.func99.trans (congrArg some (by kernel_rfl))⟩
  f22 := ⟨Try.f100.name, by decide, Try.func100.trans (congrArg some (by kernel_rfl))⟩
  f23 := ⟨Try.f101.name, by decide, Try.func101.trans (congrArg some (by kernel_rfl))⟩
  f24 := ⟨Try.f102.name, by decide, Try.func102.trans (congrArg some (by kernel_rfl))⟩
  f25 := ⟨Try.f103.name, by decide, Try.func103.trans (congrArg some (by kernel_rfl))⟩
  f26 := ⟨Try.f104.name, by decide, Try.func104.trans (congrArg some (by kernel_rfl))⟩
  f27 := ⟨Try.f105.name, by decide, Try.func105.trans (congrArg some (by kernel_rfl))⟩
  f28 := ⟨Try.f106.name, by decide, Try.func106.trans (congrArg some (by kernel_rfl))⟩
  f29 := ⟨Try.f107.name, by decide, Try.func107.trans (congrArg some (by kernel_rfl))⟩
  f31 := Try.func129.trans (congrArg some (by kernel_rfl))
  f32 := Try.func130.trans (congrArg some (by kernel_rfl))
  f36 := ⟨Try.f128.name, by decide, Try.func128.trans (congrArg some (by kernel_rfl))⟩
  f37 := ⟨Try.f131.name, by decide, Try.func131.trans (congrArg some (by kernel_rfl))⟩
  f38 := ⟨Try.f132.name, by decide, Try.func132.trans (congrArg some (by kernel_rfl))⟩
  f39 := ⟨Try.f133.name, by decide, Try.func133.trans (congrArg some (by kernel_rfl))⟩
  f41 := ⟨Try.f145.name, by decide, Try.func145.trans (congrArg some (by kernel_rfl))⟩
  t0 := Try.underlying0
  a0 := Try.isAgg0
  z0 := Try.sizeOf0
  v0 := Try.zeroValue0
  t3 := Try.underlying3
  a3 := Try.isAgg3
  z3 := Try.sizeOf3
  v3 := Try.zeroValue3
  t4 := Try.underlying4
  a4 := Try.isAgg4
  z4 := Try.sizeOf4
  v4 := Try.zeroValue4
  t5 := Try.underlying5
  a5 := Try.isAgg5
  z5 := Try.sizeOf5
  v5 := Try.zeroValue5
  t9 := Try.underlying9
  a9 := Try.isAgg9
  z9 := Try.sizeOf9
  v9 := Try.zeroValue9
  t26 := Try.underlying26
  a26 := Try.isAgg26
  z26 := Try.sizeOf26
  v26 := Try.zeroValue26
  t27 := Try.underlying26
  a27 := Try.isAgg26
  z27 := Try.sizeOf26
  v27 := Try.zeroValue26
  t29 := Try.underlying9
  a29 := Try.isAgg9
  z29 := Try.sizeOf9
  v29 := Try.zeroValue9
  t32 := Try.underlying94
  a32 := Try.isAgg94
  z32 := Try.sizeOf94
  v32 := Try.zeroValue94
  t35 := Try.underlying148
  a35 := Try.isAgg148
  z35 := Try.sizeOf148
  v35 := Try.zeroValue148
  t36 := Try.underlying149
  a36 := Try.isAgg149
  z36 := Try.sizeOf149
  v36 := Try.zeroValue149
  t41 := Try.underlying154
  a41 := Try.isAgg154
  z41 := Try.sizeOf154
  v41 := Try.zeroValue154
  t44 := Try.underlying157
  a44 := Try.isAgg157
  z44 := Try.sizeOf157
  v44 := Try.zeroValue157
  t46 := Try.underlying33
  a46 := Try.isAgg33
  z46 := Try.sizeOf33
  v46 := Try.zeroValue33
  t53 := Try.underlying180
  a53 := Try.isAgg180
  z53 := Try.sizeOf180
  v53 := Try.zeroValue180
  t57 := Try.underlying183
  a57 := Try.isAgg183
  z57 := Try.sizeOf183
  v57 := Try.zeroValue183
  t63 := Try.underlying194
  a63 := Try.isAgg194
  z63 := Try.sizeOf194
  v63 := Try.zeroValue194
  t64 := Try.underlying114
  a64 := Try.isAgg114
  z64 := Try.sizeOf114
  v64 := Try.zeroValue114 }
def Try.compS_ren : Go.Shelf.Ren := ⟨fun | 44 => 37 | n => n, fun | 25 => 26 | 26 => 9 | 3 => 3 | 4 => 4 | 0 => 0 | n => n, fun | n => n⟩
theorem Try.compS : Go.Proofs.SlLaysN.n44 Try.prog Try.compS_ren := {
  mixed := by kernel_rfl
  f44 := ⟨Try.f37.name, by decide, Try.func37.trans (congrArg some (by kernel_rfl))⟩
  t0 := Try.underlying0
  a0 := Try.isAgg0
  z0 := Try.sizeOf0
  v0 := Try.zeroValue0
  t3 := Try.underlying3
  a3 := Try.isAgg3
  z3 := Try.sizeOf3
  v3 := Try.zeroValue3
  t4 := Try.underlying4
  a4 := Try.isAgg4
  z4 := Try.sizeOf4
  v4 := Try.zeroValue4
  t25 := Try.underlying26
  a25 := Try.isAgg26
  z25 := Try.sizeOf26
  v25 := Try.zeroValue26
  t26 := Try.underlying9
  a26 := Try.isAgg9
  z26 := Try.sizeOf9
  v26 := Try.zeroValue9
  i26 := by kernel_rfl }
namespace Ytpamjobiohbibaa
set_option linter.unusedVariables false
variable {B : Nat} {w0 : World} {F : List Ch} {A : Option Addr} {c : Nat}
def leS (x y : List UInt8) : Bool := decide (x ≤ y)
theorem sort_d {l : List (List UInt8)} (hl : l.length < 4611686018427387904) :
    Does Try.prog B w0 36 [.slice A l.length c] (.own 9 1 A l.length c (strs l) :: F) (fun r L => r = .tuple #[] ∧ L = .own 9 1 A l.length c (strs (l.mergeSort leS)) :: F) := by
  intro w hw
  obtain ⟨k1, k2, k3⟩ := hw.head
  by_cases h0 : l.length = 0
  · have hl0 : l = [] := List.eq_nil_of_length_eq_zero h0
    subst hl0
    refine (AnyM.slices_Sort_string_none Try.sortS A c w).mono fun e w' ⟨he, hw'⟩ => ?_
    subst hw'
    exact ⟨_, _, he, ⟨rfl, by simp⟩, hw⟩
  · have hc0 : ¬ c = 0 := by omega
    obtain ⟨g, cur, rfl, hbg, hg, hm, hs, ht⟩ := k3.resolve_left hc0
    rw [Nat.mul_one] at ht
    refine (AnyM.slices_Sort_string Try.sortS g 0 c l w (holds_of_block hg ht) ((Array.getElem?_eq_some_iff.1 hg).1) hl).mono fun e w' ⟨he, n, os, hw'⟩ => ?_
    have hlen : (l.mergeSort fun x y => decide (x ≤ y)).length = l.length := List.length_mergeSort _
    have hfp : (Ch.own 9 1 (some ⟨g, 0, none⟩) l.length c (strs l)).fp = some g := by simp [Ch.fp, hc0]
    have hg2 := grownBy_sorted (w := w) (g := g) (n := n) (os := os) (l.mergeSort fun x y => decide (x ≤ y)).toArray
    rw [← hw'] at hg2
    refine ⟨_, _, he, ⟨rfl, rfl⟩, hw.turn (by rw [hfp]; exact hg2) ⟨?_, k2, .inr ⟨g, _, rfl, hbg, by rw [hw']; exact heap_sorted _ hg, hm, by simpa [putCells] using hs, ?_⟩⟩ (.inr (.inl (by simp [Ch.fp])))⟩
    · simp
    · rw [Nat.mul_one, ← hlen]
      exact take_putCells cur _ (by rw [hlen]; omega)
theorem compact_le (zs : List (List UInt8)) : (Lib.compact zs).length ≤ zs.length := by
  unfold Lib.compact Lib.compactUpTo
  rw [List.length_map]
  exact Nat.le_trans (List.length_filter_le _ _) (by simp)
theorem compact_d {l : List (List UInt8)} (hl : l.length < 4611686018427387904) :
    Does Try.prog B w0 37 [.slice A l.length c] (.own 9 1 A l.length c (strs l) :: F) (fun r L => r = .slice A (Lib.compact l).length c ∧ L = .own 9 1 A (Lib.compact l).length c (strs (Lib.compact l)) :: F) := by
  intro w hw
  obtain ⟨k1, k2, k3⟩ := hw.head
  have hle := compact_le l
  by_cases h0 : l.length = 0
  · have hl0 : l = [] := List.eq_nil_of_length_eq_zero h0
    subst hl0
    refine (AnyG.slices_Compact_string_empty Try.compS A c w).mono fun e w' ⟨he, hw'⟩ => ?_
    subst hw'
    exact ⟨_, _, he, ⟨rfl, by simp [Lib.compact, Lib.compactUpTo, strs]⟩, hw⟩
  · have hc0 : ¬ c = 0 := by omega
    obtain ⟨g, cur, rfl, hbg, hg, hm, hs, ht⟩ := k3.resolve_left hc0
    rw [Nat.mul_one] at ht
    refine (AnyG.slices_Compact_string Try.compS g 0 c l w (holds_of_block hg ht) (by omega) k2).mono fun e w' ⟨he, q, hw'⟩ => ?_
    obtain ⟨ys, hys⟩ : ∃ ys, ys = Lib.compact l ++ List.replicate (l.length - (Lib.compact l).length) [] := ⟨_, rfl⟩
    have hyl : ys.length = l.length := by rw [hys]; simp; omega
    rw [← hys] at hw'
    have hfp : (Ch.own 9 1 (some ⟨g, 0, none⟩) l.length c (strs l)).fp = some g := by simp [Ch.fp, hc0]
    have hg2 := grownBy_sorted (w := w) (g := g) (n := q) (os := #[]) ys.toArray
    have hh := heap_sorted (n := q) (os := #[]) ys.toArray hg
    rw [grow_empty, ← hw'] at hg2 hh
    refine ⟨_, _, he, ⟨rfl, rfl⟩, hw.turn (by rw [hfp]; exact hg2) ⟨by simp, by omega, .inr ⟨g, _, rfl, hbg, hh, hm, by simpa [putCells] using hs, ?_⟩⟩ (.inr (.inl (by simp [Ch.fp])))⟩
    have ht2 := take_putCells cur ys (by rw [hyl]; omega)
    have := congrArg (List.take (Lib.compact l).length) ht2
    rw [List.take_take, hyl, Nat.min_eq_left hle] at this
    rw [Nat.mul_one, this, ← List.map_take, hys, List.take_left]
    rfl
end Ytpamjobiohbibaa
end Go.Proofs
namespace Go.Proofs.Ytpamjobiohbibaa
/-- a byte made small, or 0 -/
def small (c : UInt8) : UInt8 := if 65 ≤ c.toNat ∧ c.toNat ≤ 90 then c + 32 else if 97 ≤ c.toNat ∧ c.toNat ≤ 122 ∨ 48 ≤ c.toNat ∧ c.toNat ≤ 57 then c else 0
def emit (row : List UInt8) : List (List UInt8) := if row = [] then [] else [row.take 24]
def wstep (st : List (List UInt8) × List UInt8) (c : UInt8) : List (List UInt8) × List UInt8 :=
  if small c ≠ 0 then (st.1, st.2 ++ [small c]) else (st.1 ++ emit st.2, [])
theorem wstep_yes {ws : List (List UInt8)} {row : List UInt8} {c : UInt8} (h : small c ≠ 0) : wstep (ws, row) c = (ws, row ++ [small c]) := if_pos h
theorem wstep_no {ws : List (List UInt8)} {row : List UInt8} {c : UInt8} (h : small c = 0) : wstep (ws, row) c = (ws ++ emit row, []) := if_neg (by simpa using h)
def wst (l : List UInt8) : List (List UInt8) × List UInt8 := l.foldl wstep ([], [])
/-- the words of a text -/
def wordsL (l : List UInt8) : List (List UInt8) := (wst l).1 ++ emit (wst l).2
theorem wst_snoc (l : List UInt8) (c : UInt8) : wst (l ++ [c]) = wstep (wst l) c := by simp [wst]
theorem emit_len (row : List UInt8) : (emit row).length ≤ row.length := by
  unfold emit; split
  · simp
  · rename_i h
    have : 0 < row.length := by rcases row with _ | ⟨x, r⟩; exact absurd rfl h; simp
    simp; omega
theorem wst_len (l : List UInt8) : (wst l).1.length + (wst l).2.length ≤ l.length := by
  have : ∀ l : List UInt8, ∀ st : List (List UInt8) × List UInt8, (l.foldl wstep st).1.length + (l.foldl wstep st).2.length ≤ st.1.length + st.2.length + l.length := by
    intro l
    induction l with
    | nil => intro st; simp
    | cons c r ih =>
      intro st
      have h := ih (wstep st c)
      have hs : (wstep st c).1.length + (wstep st c).2.length ≤ st.1.length + st.2.length + 1 := by
        unfold wstep
        split
        · simp; omega
        · have := emit_len st.2
          simp; omega
      simp only [List.foldl_cons, List.length_cons]
      omega
  simpa [wst] using this l ([], [])
theorem wordsL_len (l : List UInt8) : (wordsL l).length ≤ l.length := by
  have h1 := wst_len l
  have h2 := emit_len (wst l).2
  unfold wordsL
  simp; omega
/-- the document's: a word begins at a letter behind none -/
def wordAt (l : List UInt8) : List UInt8 := ((l.takeWhile fun c => small c ≠ 0).map small).take 24
def refW : Bool → List UInt8 → List (List UInt8)
  | _, [] => []
  | prev, c :: r => if small c = 0 ∨ prev = true then refW (decide (small c ≠ 0)) r else wordAt (c :: r) :: refW true r
theorem takeWhile_append_stop {α : Type} (p : α → Bool) (a : List α) (c : α) (r : List α) (ha : ∀ x ∈ a, p x = true) (hc : p c = false) : (a ++ c :: r).takeWhile p = a := by
  induction a with
  | nil => simp [hc]
  | cons x a ih =>
    simp only [List.cons_append, List.takeWhile_cons, ha x (by simp), if_true]
    rw [ih fun y hy => ha y (by simp [hy])]
theorem takeWhile_all {α : Type} (p : α → Bool) (a : List α) (ha : ∀ x ∈ a, p x = true) : a.takeWhile p = a := by
  induction a with
  | nil => rfl
  | cons x a ih =>
    simp only [List.takeWhile_cons, ha x (by simp), if_true]
    rw [ih fun y hy => ha y (by simp [hy])]
/-- inside a word the document waits for its end -/
theorem refW_in (a : List UInt8) (ha : ∀ x ∈ a, small x ≠ 0) (r : List UInt8) : refW true (a ++ r) = refW true r := by
  induction a with
  | nil => rfl
  | cons x a ih =>
    have hx := ha x (by simp)
    simp only [List.cons_append, refW, or_true, if_true, decide_eq_true hx]
    exact ih fun y hy => ha y (by simp [hy])
theorem refW_true_stop (c : UInt8) (r : List UInt8) (hc : small c = 0) (b : Bool) : refW b (c :: r) = refW false r := by
  simp [refW, hc]
/-- the program's state, carried through what is left, comes to the document's words -/
theorem fold_ref : ∀ (l : List UInt8) (ws : List (List UInt8)) (a : List UInt8), (∀ x ∈ a, small x ≠ 0) →
    (l.foldl wstep (ws, a.map small)).1 ++ emit (l.foldl wstep (ws, a.map small)).2 =
      ws ++ (if a = [] then refW false l else wordAt (a ++ l) :: refW true l) := by
  intro l
  induction l with
  | nil =>
    intro ws a ha
    rcases a with _ | ⟨x, a⟩
    · simp [emit, refW]
    · simp only [List.foldl_nil, emit, List.map_cons, refW, List.append_nil]
      rw [if_neg (by simp), if_neg (by simp)]
      unfold wordAt
      rw [takeWhile_all _ _ fun y hy => by simpa using ha y hy]
      rfl
  | cons c r ih =>
    intro ws a ha
    rw [List.foldl_cons]
    by_cases hc : small c = 0
    · have e : wstep (ws, a.map small) c = (ws ++ emit (a.map small), []) := by unfold wstep; rw [if_neg (by simpa using hc)]
      rw [e]
      have := ih (ws ++ emit (a.map small)) [] (by simp)
      simp only [List.map_nil, if_true] at this
      rw [this, List.append_assoc]
      congr 1
      rcases a with _ | ⟨x, a⟩
      · simp [emit, refW, hc]
      · rw [if_neg (by simp)]
        unfold emit
        rw [if_neg (by simp), refW_true_stop c r hc]
        unfold wordAt
        rw [takeWhile_append_stop _ _ c r (fun y hy => by simpa using ha y hy) (by simpa using hc)]
        rfl
    · have e : wstep (ws, a.map small) c = (ws, (a ++ [c]).map small) := by unfold wstep; rw [if_pos (by simpa using hc)]; simp
      rw [e]
      have := ih ws (a ++ [c]) (by intro y hy; rcases List.mem_append.1 hy with h | h; exact ha y h; simp at h; subst h; exact hc)
      rw [this, if_neg (by simp)]
      congr 1
      rcases a with _ | ⟨x, a⟩
      · simp [refW, hc]
      · rw [if_neg (by simp), List.append_assoc]
        simp [refW, hc]
/-- both are the same -/
theorem words_ref (l : List UInt8) : wordsL l = refW false l := by
  have := fold_ref l [] [] (by simp)
  simpa [wordsL, wst] using this
end Go.Proofs.Ytpamjobiohbibaa
namespace Go.Proofs.Ytpamjobiohbibaa
open Go.RowKit
set_option linter.unusedVariables false
set_option maxRecDepth 20000
theorem ltT_iff (a b : Txt) : ltT a b ↔ a < b := by
  unfold ltT
  rw [bytesLess_eq]
  simp
/-- each text is below the next ones -/
def StT (l : List Txt) : Prop := l.Pairwise ltT
theorem StT.nil : StT [] := List.Pairwise.nil
theorem StT.ext : ∀ {a b : List Txt}, StT a → StT b → (∀ x, x ∈ a ↔ x ∈ b) → a = b
  | [], [], _, _, _ => rfl
  | [], y :: b, _, _, h => absurd ((h y).2 (by simp)) (by simp)
  | x :: a, [], _, _, h => absurd ((h x).1 (by simp)) (by simp)
  | x :: a, y :: b, ha, hb, h => by
    obtain ⟨ha1, ha2⟩ := List.pairwise_cons.1 ha
    obtain ⟨hb1, hb2⟩ := List.pairwise_cons.1 hb
    have hxy : x = y := by
      rcases List.mem_cons.1 ((h x).1 (by simp)) with e | e
      · exact e
      · rcases List.mem_cons.1 ((h y).2 (by simp)) with e2 | e2
        · exact e2.symm
        · exact absurd (ltT_trans (ha1 y e2) (hb1 x e)) (ltT_irrefl _)
    subst hxy
    congr 1
    refine StT.ext ha2 hb2 fun z => ⟨fun hz => ?_, fun hz => ?_⟩
    · rcases List.mem_cons.1 ((h z).1 (List.mem_cons_of_mem _ hz)) with e | e
      · subst e; exact absurd (ha1 _ hz) (ltT_irrefl _)
      · exact e
    · rcases List.mem_cons.1 ((h z).2 (List.mem_cons_of_mem _ hz)) with e | e
      · subst e; exact absurd (hb1 _ hz) (ltT_irrefl _)
      · exact e
/-! sorted, and runs made single -/
theorem leS_iff (a b : Txt) : leS a b = true ↔ ¬ ltT b a := by
  unfold leS
  rw [decide_eq_true_iff, ltT_iff]
  exact List.not_lt.symm
theorem sort_pw (l : List Txt) : (l.mergeSort leS).Pairwise (fun a b => ¬ ltT b a) := by
  have h := List.pairwise_mergeSort (le := leS) (fun a b c h1 h2 => by
    rw [leS_iff, not_ltT] at *
    exact h1.elim (fun h1 => .inl (ltT_leT h1 h2)) (fun h1 => h1 ▸ h2)) (fun a b => by
    rcases ltT_total a b with h | h | h
    · simp [(leS_iff a b).2 (fun k => ltT_irrefl _ (ltT_trans h k))]
    · subst h; simp [(leS_iff a a).2 (ltT_irrefl _)]
    · simp [(leS_iff b a).2 (fun k => ltT_irrefl _ (ltT_trans h k))]) l
  exact h.imp fun h => (leS_iff _ _).1 h
theorem comp_inv {l : List Txt} (hp : l.Pairwise (fun a b => ¬ ltT b a)) : ∀ m, m ≤ l.length → StT (Lib.compactUpTo l.toArray m) ∧ (∀ x, x ∈ Lib.compactUpTo l.toArray m ↔ x ∈ l.take m)
  | 0, _ => ⟨by simp [StT, Lib.compactUpTo], by simp [Lib.compactUpTo]⟩
  | m + 1, hm => by
    obtain ⟨h1, h2⟩ := comp_inv hp m (by omega)
    rw [Lib.compactUpTo_succ]
    have hlm : m < l.length := by omega
    have hg : l.toArray[m]! = l[m] := by simp [getElem!_pos, hlm]
    have htk : l.take (m + 1) = l.take m ++ [l[m]] := by rw [List.take_add_one, List.getElem?_eq_getElem hlm]; rfl
    by_cases hk : Lib.keeps l.toArray m = true
    · rw [if_pos hk, hg]
      have hkk : m = 0 ∨ l.toArray[m]! ≠ l.toArray[m - 1]! := by simpa [Lib.keeps] using hk
      refine ⟨?_, fun x => ?_⟩
      · refine List.pairwise_append.2 ⟨h1, List.pairwise_singleton _ _, fun a ha b hb => ?_⟩
        rw [List.mem_singleton] at hb
        subst hb
        have ha' := (h2 a).1 ha
        obtain ⟨i, hi, rfl⟩ := List.getElem_of_mem ha'
        rw [List.length_take] at hi
        rw [List.getElem_take]
        have hle : ∀ i j (hi : i < l.length) (hj : j < l.length), i < j → ¬ ltT l[j] l[i] := fun i j hi hj hij => List.pairwise_iff_getElem.1 hp i j hi hj hij
        have hm0 : m ≠ 0 := by omega
        have hne : l[m] ≠ l[m - 1]'(by omega) := by
          have := hkk.resolve_left hm0
          rw [hg] at this
          simpa [getElem!_pos, show m - 1 < l.length by omega] using this
        have hlt : ltT (l[m - 1]'(by omega)) l[m] := by
          rcases ltT_total (l[m - 1]'(by omega)) l[m] with h | h | h
          · exact h
          · exact absurd h.symm hne
          · exact absurd h (hle (m - 1) m (by omega) hlm (by omega))
        by_cases him : i = m - 1
        · subst him; exact hlt
        · exact leT_ltT (not_ltT.1 (hle i (m - 1) (by omega) (by omega) (by omega))) hlt
      · rw [htk, List.mem_append, List.mem_append, h2]
    · rw [if_neg hk, List.append_nil]
      refine ⟨h1, fun x => ?_⟩
      rw [htk, List.mem_append, h2, List.mem_singleton]
      refine ⟨.inl, fun h => h.elim id fun h => ?_⟩
      have hkk : ¬ (m = 0 ∨ l.toArray[m]! ≠ l.toArray[m - 1]!) := by simpa [Lib.keeps] using hk
      have hm0 : m ≠ 0 := fun h => hkk (.inl h)
      have he : l.toArray[m]! = l.toArray[m - 1]! := Classical.not_not.1 fun h => hkk (.inr h)
      rw [hg] at he
      have hg1 : l.toArray[m - 1]! = l[m - 1]'(by omega) := by simp [getElem!_pos, show m - 1 < l.length by omega]
      rw [hg1] at he
      rw [h, he]
      exact List.mem_take_iff_getElem.2 ⟨m - 1, by omega, rfl⟩
/-- a list's texts, each once, rising -/
def setT (l : List Txt) : List Txt := Lib.compact (l.mergeSort leS)
theorem setT_st (l : List Txt) : StT (setT l) := by
  have := (comp_inv (sort_pw l) (l.mergeSort leS).length (Nat.le_refl _)).1
  exact this
theorem setT_mem (l : List Txt) (x : Txt) : x ∈ setT l ↔ x ∈ l := by
  have := (comp_inv (sort_pw l) (l.mergeSort leS).length (Nat.le_refl _)).2 x
  rw [List.take_length, List.mem_mergeSort] at this
  exact this
theorem setT_len (l : List Txt) : (setT l).length ≤ l.length := by
  have := compact_le (l.mergeSort leS)
  rwa [List.length_mergeSort] at this
theorem setT_uniq {l r : List Txt} (h : StT r) (hm : ∀ x, x ∈ r ↔ x ∈ l) : setT l = r := StT.ext (setT_st l) h fun x => (setT_mem l x).trans (hm x).symm
/-- the document's: a text put into a rising list -/
def putL (l : List Txt) (s : Txt) : List Txt := setT (l ++ [s])
theorem putL_fold (l : List Txt) : ∀ o, (l.foldl putL (setT o)) = setT (o ++ l) := by
  induction l with
  | nil => intro o; simp
  | cons x l ih =>
    intro o
    have e : putL (setT o) x = setT (o ++ [x]) := (setT_uniq (setT_st _) fun y => by simp [setT_mem])
    rw [List.foldl_cons, e, ih, List.append_assoc]
    rfl
theorem StT.put {l : List Txt} (h : StT l) {s : Txt} {k : Nat} (hk : k ≤ l.length) (hlo : ∀ i, i < k → ltT (l.getD i []) s) (hhi : k < l.length → ¬ ltT (l.getD k []) s) :
    putL l s = if k < l.length ∧ l.getD k [] = s then l else l.take k ++ [s] ++ l.drop k := by
  have hgd : ∀ i (hi : i < l.length), l.getD i [] = l[i] := fun i hi => by simp [List.getD, List.getElem?_eq_getElem hi]
  split
  · rename_i he
    refine setT_uniq h fun x => ?_
    rw [List.mem_append, List.mem_singleton]
    refine ⟨.inl, fun hx => hx.elim id fun hx => ?_⟩
    rw [hx, ← he.2, hgd k he.1]
    exact List.getElem_mem _
  · rename_i hne
    refine setT_uniq ?_ fun x => ?_
    · have hlt : k < l.length → ltT s (l.getD k []) := fun hkl => by
        rcases ltT_total s (l.getD k []) with h | h | h
        · exact h
        · exact absurd ⟨hkl, h.symm⟩ hne
        · exact absurd h (hhi hkl)
      have hpw := List.pairwise_iff_getElem.1 h
      refine List.pairwise_append.2 ⟨List.pairwise_append.2 ⟨h.sublist (List.take_sublist _ _), List.pairwise_singleton _ _, fun a ha b hb => ?_⟩, h.sublist (List.drop_sublist _ _), fun a ha b hb => ?_⟩
      · rw [List.mem_singleton] at hb
        subst hb
        obtain ⟨i, hi, rfl⟩ := List.getElem_of_mem ha
        rw [List.length_take] at hi
        rw [List.getElem_take, ← hgd i (by omega)]
        exact hlo i (by omega)
      · obtain ⟨j, hj, rfl⟩ := List.getElem_of_mem hb
        rw [List.length_drop] at hj
        rw [List.getElem_drop]
        have hs : ltT s l[k + j] := by
          have h1 := hlt (by omega)
          rw [hgd k (by omega)] at h1
          rcases Nat.eq_zero_or_pos j with h0 | h0
          · subst h0; exact h1
          · exact ltT_trans h1 (hpw k (k + j) (by omega) (by omega) (by omega))
        rcases List.mem_append.1 ha with ha | ha
        · obtain ⟨i, hi, rfl⟩ := List.getElem_of_mem ha
          rw [List.length_take] at hi
          rw [List.getElem_take, ]
          exact hpw i (k + j) (by omega) (by omega) (by omega)
        · rw [List.mem_singleton] at ha
          subst ha; exact hs
    · rw [List.mem_append, List.mem_append, List.mem_append, List.mem_singleton]
      conv => rhs; rw [← List.take_append_drop k l, List.mem_append]
      constructor
      · rintro ((h | h) | h)
        · exact .inl (.inl h)
        · exact .inr h
        · exact .inl (.inr h)
      · rintro ((h | h) | h)
        · exact .inl (.inl h)
        · exact .inr h
        · exact .inl (.inr h)
/-- the texts whose set a record's terms are: of its text, of its source -/
def rawT (txt src : List UInt8) : List Txt := wordsL txt ++ (wordsL src).map (64 :: ·)
def termsL (txt src : List UInt8) : List Txt := setT (rawT txt src)
theorem rawT_len (txt src : List UInt8) : (rawT txt src).length ≤ txt.length + src.length := by
  have h1 := wordsL_len txt
  have h2 := wordsL_len src
  simp [rawT]; omega
end Go.Proofs.Ytpamjobiohbibaa
namespace Go.Proofs
open Go.RowKit Go.Maps Go.Sort Go.Shelf
def Try.keysA_ren : Go.Shelf.Ren := ⟨fun | 7 => 30 | 10 => 55 | n => n, fun | 23 => 58 | 26 => 9 | 3 => 37 | 28 => 61 | 0 => 0 | 27 => 60 | 33 => 88 | 4 => 4 | n => n, fun | n => n⟩
theorem Try.keysA : Go.Proofs.SlLaysZ.n7 Try.prog Try.keysA_ren := {
  mixed := by kernel_rfl
  f7 := ⟨Try.f30.name, by decide, Try.func30.trans (congrArg some (by kernel_rfl))⟩
  f10 := ⟨Try.f55.name, by decide, Try.func55.trans (congrArg some (by kernel_rfl))⟩
  t0 := Try.underlying0
  a0 := Try.isAgg0
  z0 := Try.sizeOf0
  v0 := Try.zeroValue0
  t4 := Try.underlying4
  a4 := Try.isAgg4
  z4 := Try.sizeOf4
  v4 := Try.zeroValue4
  t23 := Try.underlying58
  a23 := Try.isAgg58
  z23 := Try.sizeOf58
  v23 := Try.zeroValue58
  t26 := Try.underlying9
  a26 := Try.isAgg9
  z26 := Try.sizeOf9
  v26 := Try.zeroValue9
  t27 := Try.underlying60
  a27 := Try.isAgg60
  z27 := Try.sizeOf60
  v27 := Try.zeroValue60
  t28 := Try.underlying61
  a28 := Try.isAgg61
  z28 := Try.sizeOf61
  v28 := Try.zeroValue61
  t33 := Try.underlying88
  a33 := Try.isAgg88
  z33 := Try.sizeOf88
  v33 := Try.zeroValue88 }
def Try.sortedA_ren : Go.Shelf.Ren := ⟨fun | 6 => 29 | 8 => 54 | 9 => 36 | 11 => 97 | 13 => 60 | 12 => 59 | 23 => 108 | 24 => 109 | 14 => 99 | 15 => 100 | 16 => 101 | 17 => 102 | 18 => 103 | 19 => 104 | 20 => 105 | 21 => 106 | 22 => 107 | 25 => 128 | 26 => 129 | 27 => 130 | 28 => 131 | 29 => 132 | 30 => 133 | 31 => 145 | n => n, fun | 26 => 9 | 28 => 61 | 24 => 26 | 0 => 0 | 3 => 3 | 37 => 94 | 48 => 157 | 50 => 33 | 4 => 4 | 40 => 149 | 39 => 148 | 45 => 154 | 5 => 5 | 9 => 9 | 51 => 180 | 55 => 183 | 57 => 194 | 58 => 114 | 33 => 88 | n => n, fun | n => n⟩
theorem Try.sortedA : Go.Proofs.SlLaysZ.n6 Try.prog Try.sortedA_ren := {
  mixed := by kernel_rfl
  f6 := ⟨Try.f29.name, by decide, Try.func29.trans (congrArg some (by kernel_rfl))⟩
  f8 := ⟨Try.f54.name, by decide, Try.func54.trans (congrArg some (by kernel_rfl))⟩
  f11 := ⟨Try.f97.name, by decide, Try.func97.trans (congrArg some (by kernel_rfl))⟩
  t0 := Try.underlying0
  a0 := Try.isAgg0
  z0 := Try.sizeOf0
  v0 := Try.zeroValue0
  t24 := Try.underlying26
  a24 := Try.isAgg26
  z24 := Try.sizeOf26
  v24 := Try.zeroValue26
  t26 := Try.underlying9
  a26 := Try.isAgg9
  z26 := Try.sizeOf9
  v26 := Try.zeroValue9
  t28 := Try.underlying61
  a28 := Try.isAgg61
  z28 := Try.sizeOf61
  v28 := Try.zeroValue61
  i26 := by kernel_rfl }
theorem Try.sortsA (m : Nat) : AnyZ.SortsIn Try.prog Try.sortedA_ren Fence.wide m :=
  ⟨fun blk off cap ss W hH hblk hsz => callsIn_wide.2 (AnyM.slices_Sort_string Try.sortS blk off cap ss W hH hblk hsz),
   fun p cap W => callsIn_wide.2 (AnyM.slices_Sort_string_none Try.sortS p cap W)⟩
namespace Ytpamjobiohbibaa
set_option linter.unusedVariables false
set_option maxRecDepth 20000
variable {B : Nat} {w0 : World} {F L : List Ch} {A : Option Addr} {c : Nat}
theorem keys_d (b : Nat) : Does Try.prog B w0 30 [.map (some b)] L (fun r L' => ∃ g, r = .func (.func 55) #[] [.pointer (some ⟨g, 0, none⟩)].toArray ∧ L' = .blk g 58 [.map (some b)] :: L) := fun w hw => by
  have h : CallsIn Fence.wide 5 Try.prog 30 #[.map (some b)] w fun e w' => e = .returned (.func (.func 55) #[] #[.pointer (some ⟨w.heap.size, 0, none⟩)]) ∧ w' = w.alloc (.cells #[.map (some b)] 58) := AnyZ.keys_in Try.keysA Fence.wide 5 trivial rfl (some b) w
  refine (callsIn_wide.1 h).mono fun e w' ⟨he, hw'⟩ => ?_
  subst hw'
  exact ⟨_, _, he, ⟨w.heap.size, rfl, rfl⟩, hw.new_blk 58 [.map (some b)]⟩
theorem stamped_ents (D : List (List UInt8 × Value)) (hn : (D.map (·.1)).Nodup) : MapKept.Stamped (entsF 0 D).toArray D.length := by
  have hb : ∀ (D : List (List UInt8 × Value)) (i : Nat), (entsF i D).map (·.born) = List.range' i D.length := by
    intro D
    induction D with
    | nil => intro i; rfl
    | cons p r ih => intro i; simp [entsF, ih, List.range'_succ]
  have hk : ∀ (D : List (List UInt8 × Value)) (i : Nat), (entsF i D).map (·.key) = (D.map (·.1)).map fun t => Value.string ⟨t.toArray⟩ := by
    intro D
    induction D with
    | nil => intro i; rfl
    | cons p r ih => intro i; simp [entsF, ih]
  refine ⟨fun x hx => ?_, ?_, ?_⟩
  · have : x.born ∈ (entsF 0 D).map (·.born) := List.mem_map.2 ⟨x, by simpa using hx, rfl⟩
    rw [hb] at this
    have := List.mem_range'.1 this
    omega
  · rw [List.toList_toArray, hb]; exact List.nodup_range' (step := 1)
  · rw [List.toList_toArray, hk]
    exact List.Pairwise.map _ (fun a b h e => h (by simpa using e)) hn
theorem ents_key : ∀ (D : List (List UInt8 × Value)) (i : Nat) (x : MapEntry), x ∈ entsF i D → ∃ p ∈ D, x.key = .string ⟨p.1.toArray⟩
  | [], _, _, h => by simp [entsF] at h
  | p :: r, i, x, h => by
    rcases List.mem_cons.1 h with rfl | h
    · exact ⟨p, List.mem_cons_self, rfl⟩
    · obtain ⟨q, hq, e⟩ := ents_key r (i + 1) x h
      exact ⟨q, List.mem_cons_of_mem _ hq, e⟩
theorem sorted_nd {ss : List (List UInt8)} (h : ss.Nodup) : StT (ss.mergeSort leS) := by
  have h1 := sort_pw ss
  have h2 : (ss.mergeSort leS).Nodup := (List.mergeSort_perm ss leS).nodup_iff.2 h
  refine (h1.and h2).imp fun {x y} h => ?_
  rcases ltT_total x y with q | q | q
  · exact q
  · exact absurd q h.2
  · exact absurd q h.1
theorem sorted_d {D : List (List UInt8 × Value)} {g b : Nat} (hn : (D.map (·.1)).Nodup) (hl : D.length ≤ 1000000) (hk : ∀ p ∈ D, p.1.length ≤ 1000000000) :
    Does Try.prog B w0 29 [.func (.func 55) #[] [.pointer (some ⟨g, 0, none⟩)].toArray] (.blk g 58 [.map (some b)] :: .obj b (mpO D) :: F)
      (fun r L' => ∃ A c, r = .slice A (setT (D.map (·.1))).length c ∧ L' = .own 9 1 A (setT (D.map (·.1))).length c (strs (setT (D.map (·.1)))) :: .blk g 58 [.map (some b)] :: .obj b (mpO D) :: F) := by
  intro w hw
  have hg := hw.head.2
  have hb : w.heap[b]? = some (.map (entsF 0 D).toArray D.length) := hw.tail.head.2
  have hkey : ∀ p ∈ D, keyOf Try.prog 9 (.string ⟨p.1.toArray⟩) = some (.string p.1) := fun p hp => by
    unfold keyOf mapKey
    rw [Try.underlying9]
    simp only
    rw [if_pos (show (⟨p.1.toArray⟩ : ByteArray).size ≤ maxLen by have := hk p hp; simp only [maxLen, ByteArray.size, List.size_toArray]; omega)]
  have hrd : ∀ x ∈ entsF 0 D, ∃ p ∈ D, WideElems.rd (H := Unit) Try.prog 9 (fun _ => some (.nil, [])) x = some (.string p.1, .nil) := fun x hx => by
    obtain ⟨p, hp, e⟩ := ents_key D 0 x hx
    refine ⟨p, hp, ?_⟩
    unfold WideElems.rd
    rw [e, hkey p hp]; rfl
  have Ft : WideElems.Fit (H := Unit) Try.prog 9 (fun _ => some (.nil, [])) (entsF 0 D).toArray D.length :=
    ⟨by have := entsF_length D 0; simp only [List.size_toArray, maxLen]; omega, stamped_ents D hn, fun x hx => by
      obtain ⟨p, _, e⟩ := hrd x (by simpa using hx)
      exact ⟨_, e⟩⟩
  have hown : w.ownsMap Try.prog 9 (fun _ => some (DataW.nil (H := Unit), [])) b D.length (.map (((entsF 0 D).toArray.toList.map (WideElems.rg Try.prog 9 fun _ => some (.nil, []))).foldr DataW.insert [])) :=
    ⟨_, _, hb, Ft, by have := entsF_length D 0; simp only [List.size_toArray]; omega, rfl⟩
  have hkeys : ∀ (E : List (List UInt8 × Value)) (i : Nat), (∀ p ∈ E, p ∈ D) → (((entsF i E).map (WideElems.rg (H := Unit) Try.prog 9 fun _ => some (.nil, []))).map fun p => strOf p.1) = E.map (·.1) := by
    intro E
    induction E with
    | nil => intro i _; rfl
    | cons p r ih =>
      intro i hE
      simp only [entsF, List.map_cons]
      rw [ih (i + 1) (fun q hq => hE q (List.mem_cons_of_mem _ hq))]
      congr 1
      unfold WideElems.rg WideElems.rd
      rw [hkey p (hE p List.mem_cons_self)]
      rfl
  have hperm : (strKeys (.map (((entsF 0 D).toArray.toList.map (WideElems.rg (H := Unit) Try.prog 9 fun _ => some (.nil, []))).foldr DataW.insert []))).Perm (D.map (·.1)) := by
    show (List.map _ _).Perm _
    refine ((WideShapes.sorted_perm _).map _).trans ?_
    rw [List.toList_toArray, hkeys D 0 (fun p hp => hp)]
  have hsize : Maps.size (DataW.map (((entsF 0 D).toArray.toList.map (WideElems.rg (H := Unit) Try.prog 9 fun _ => some (.nil, []))).foldr DataW.insert [])) = D.length := by
    unfold Maps.size
    simp only []
    rw [length_sorted]
    simp [entsF_length]
  have hseq : SeqGives Fence.wide 2 Try.prog 55 #[.pointer (some ⟨g, 0, none⟩)] encStr _ _ w :=
    AnyZ.keys_gives (ρ := Try.keysA_ren) { Try.keysA with } Fence.wide _ trivial rfl (by omega) g b D.length _ w hg.lt (by
      have := hg.cell 0
      simpa using this) hown
  have cS := AnyZ.sorted_in Try.sortedA Fence.wide 5 trivial trivial trivial trivial rfl (by omega) (Try.sortsA _) (enters_of Try.func36 (by kernel_rfl) rfl) 55 #[.pointer (some ⟨g, 0, none⟩)] trivial (enters_of Try.func55 (by kernel_rfl) rfl) _ _ (by rw [hsize]; unfold maxLen; omega) (by rw [hsize]; omega) w hseq
  change CallsIn _ _ Try.prog 29 _ _ _ at cS
  refine (callsIn_wide.1 cS).mono fun e w' ⟨v, ss, he, hS, ho, _, hbl⟩ => ?_
  have hp2 := hS.trans hperm
  have hT : ss.mergeSort (fun x y => decide (x ≤ y)) = setT (D.map (·.1)) :=
    (setT_uniq (sorted_nd (hp2.nodup_iff.2 hn)) fun x => by rw [List.mem_mergeSort]; exact hp2.mem_iff).symm
  rw [hT] at ho
  have hsl : ss.length = (setT (D.map (·.1))).length := by rw [← hT, List.length_mergeSort]
  rw [hsl] at ho
  have hgr : w.grownBy w' none := ⟨hbl.os, hbl.tape, hbl.output, hbl.size, fun k hk _ => hbl.block k hk⟩
  rcases ho.2 with ⟨rfl, h0⟩ | ⟨q, cap, cur, rfl, h1, h2, h3, h4, h5, h6⟩
  · have e0 : setT (D.map (·.1)) = [] := List.eq_nil_of_length_eq_zero (by omega)
    refine ⟨_, _, he, ⟨none, 0, by rw [e0]; rfl, rfl⟩, hw.cons_new hgr ⟨by rw [e0]; rfl, by rw [e0]; exact Nat.le_refl _, .inl rfl⟩ (.inl rfl)⟩
  · refine ⟨_, _, he, ⟨_, _, rfl, rfl⟩, hw.cons_new hgr ⟨ho.1, h3, .inr ⟨q, cur, rfl, Nat.le_trans hw.base h1, h2, h4, h5, h6⟩⟩ ?_⟩
    by_cases hc : cap = 0
    · left; simp [Ch.fp, hc]
    · right; exact ⟨q, by simp [Ch.fp, hc], h1⟩
end Ytpamjobiohbibaa
end Go.Proofs
namespace Go.Proofs.Ytpamjobiohbibaa
open Go.RowKit
set_option linter.unusedVariables false
variable {B : Nat} {w0 : World} {F : List Ch}
theorem small_cases (c : UInt8) : (97 ≤ (c.toNat : Int) ∧ (c.toNat : Int) ≤ 122 ∨ 48 ≤ (c.toNat : Int) ∧ (c.toNat : Int) ≤ 57) ∧ ((small c).toNat : Int) = (c.toNat : Int) ∧ small c ≠ 0 ∨
    (65 ≤ (c.toNat : Int) ∧ (c.toNat : Int) ≤ 90) ∧ ((small c).toNat : Int) = (c.toNat : Int) + 32 ∧ small c ≠ 0 ∨
    (¬ (97 ≤ (c.toNat : Int) ∧ (c.toNat : Int) ≤ 122 ∨ 48 ≤ (c.toNat : Int) ∧ (c.toNat : Int) ≤ 57) ∧ ¬ (65 ≤ (c.toNat : Int) ∧ (c.toNat : Int) ≤ 90)) ∧ small c = 0 := by
  by_cases h1 : 65 ≤ c.toNat ∧ c.toNat ≤ 90
  · have e : small c = c + 32 := if_pos h1
    have e2 : (c + 32).toNat = c.toNat + 32 := by
      rw [UInt8.toNat_add]
      show (c.toNat + 32) % 256 = _
      omega
    refine .inr (.inl ⟨by omega, by rw [e, e2]; omega, fun h => ?_⟩)
    rw [e] at h
    have := congrArg UInt8.toNat h
    rw [e2] at this
    simp at this
  · by_cases h2 : 97 ≤ c.toNat ∧ c.toNat ≤ 122 ∨ 48 ≤ c.toNat ∧ c.toNat ≤ 57
    · have e : small c = c := by unfold small; rw [if_neg h1, if_pos h2]
      refine .inl ⟨by omega, by rw [e], fun h => ?_⟩
      rw [e] at h
      rw [h] at h2
      simp at h2
    · have e : small c = 0 := by unfold small; rw [if_neg h1, if_neg h2]
      exact .inr (.inr ⟨by omega, e⟩)
theorem rsmall_d (c : UInt8) : Does Try.prog B w0 98 [.int .u8 c.toNat] F (fun r L => r = .int .u8 (small c).toNat ∧ L = F) := by
  have hs := small_cases c
  have hc := c.toNat_lt
  refine fn_walk Try.func98 26 rfl rfl rfl [(0, .int .u8 c.toNat)] ⟨⟨rfl, rfl⟩, trivial⟩ ?_
  refine vc_seq ?_
  refine vc_region ?_
  refine vl_det (det_assign rfl) rfl ?_
  refine vl_end [(0, _)] ⟨rfl, trivial⟩ ?_
  refine then_next ?_
  refine vc_seq ?_
  refine vc_seq ?_
  refine vc_region ?_
  refine vl_cut 14 16 [(0, _)] (97 ≤ (c.toNat : Int) ∧ (c.toNat : Int) ≤ 122 ∨ 48 ≤ (c.toNat : Int) ∧ (c.toNat : Int) ≤ 57) ⟨rfl, trivial⟩ ?_ ?_
  · skip
    refine vl_det (det_move rfl) rfl ?_
    refine vl_det (det_geq rfl rfl) rfl ?_
    refine vl_det (det_move rfl) rfl ?_
    refine vl_guardp rfl rfl rfl (fun h5 => ?_) (fun h5 => ?_)
    · skip
      refine vl_det (det_move rfl) rfl ?_
      refine vl_guard_t rfl rfl ?_
      refine vl_det (det_leq rfl rfl) rfl ?_
      refine vl_det (det_pick_t rfl rfl) rfl ?_
      refine vl_det (det_move rfl) rfl ?_
      refine vl_guardn rfl rfl rfl (fun h9 => ?_) (fun h9 => ?_)
      · skip
        refine vl_det (det_move rfl) rfl ?_
        refine vl_guard_t rfl rfl ?_
        refine vl_det (det_geq rfl rfl) rfl ?_
        refine vl_guard_t rfl rfl ?_
        refine vl_det (det_move rfl) rfl ?_
        refine vl_guardp rfl rfl rfl (fun h12 => ?_) (fun h12 => ?_)
        · skip
          refine vl_det (det_move rfl) rfl ?_
          refine vl_guard_t rfl rfl ?_
          refine vl_det (det_leq rfl rfl) rfl ?_
          refine vl_guard_t rfl rfl ?_
          refine vl_det (det_pick_t rfl rfl) rfl ?_
          refine vl_det (det_pick_f rfl rfl) rfl ?_
          exact vl_cut_end ⟨rfl, trivial⟩ (by first | rfl | exact bool_to_t (by first | omega | simp_all) | exact bool_to_f (by first | omega | simp_all) | exact bool_to (by first | omega | simp_all) | exact bool_to_b (by first | omega | simp_all))
        · skip
          refine vl_guard_f rfl rfl rfl rfl ?_
          refine vl_guard_t rfl rfl ?_
          refine vl_det (det_pick_f rfl rfl) rfl ?_
          refine vl_det (det_pick_f rfl rfl) rfl ?_
          exact vl_cut_end ⟨rfl, trivial⟩ (by first | rfl | exact bool_to_t (by first | omega | simp_all) | exact bool_to_f (by first | omega | simp_all) | exact bool_to (by first | omega | simp_all) | exact bool_to_b (by first | omega | simp_all))
      · skip
        refine vl_guard_f rfl rfl rfl rfl ?_
        refine vl_guard_f rfl rfl rfl rfl ?_
        refine vl_guard_u rfl rfl rfl ?_
        refine vl_guard_u rfl rfl rfl ?_
        refine vl_guard_f rfl rfl rfl rfl ?_
        refine vl_det (det_pick_t rfl rfl) rfl ?_
        exact vl_cut_end ⟨rfl, trivial⟩ (by first | rfl | exact bool_to_t (by first | omega | simp_all) | exact bool_to_f (by first | omega | simp_all) | exact bool_to (by first | omega | simp_all) | exact bool_to_b (by first | omega | simp_all))
    · skip
      refine vl_guard_f rfl rfl rfl rfl ?_
      refine vl_det (det_pick_f rfl rfl) rfl ?_
      refine vl_det (det_move rfl) rfl ?_
      refine vl_guard_t rfl rfl ?_
      refine vl_det (det_move rfl) rfl ?_
      refine vl_guard_t rfl rfl ?_
      refine vl_det (det_geq rfl rfl) rfl ?_
      refine vl_guard_t rfl rfl ?_
      refine vl_det (det_move rfl) rfl ?_
      refine vl_guardp rfl rfl rfl (fun h12 => ?_) (fun h12 => ?_)
      · skip
        refine vl_det (det_move rfl) rfl ?_
        refine vl_guard_t rfl rfl ?_
        refine vl_det (det_leq rfl rfl) rfl ?_
        refine vl_guard_t rfl rfl ?_
        refine vl_det (det_pick_t rfl rfl) rfl ?_
        refine vl_det (det_pick_f rfl rfl) rfl ?_
        exact vl_cut_end ⟨rfl, trivial⟩ (by first | rfl | exact bool_to_t (by first | omega | simp_all) | exact bool_to_f (by first | omega | simp_all) | exact bool_to (by first | omega | simp_all) | exact bool_to_b (by first | omega | simp_all))
      · skip
        refine vl_guard_f rfl rfl rfl rfl ?_
        refine vl_guard_t rfl rfl ?_
        refine vl_det (det_pick_f rfl rfl) rfl ?_
        refine vl_det (det_pick_f rfl rfl) rfl ?_
        exact vl_cut_end ⟨rfl, trivial⟩ (by first | rfl | exact bool_to_t (by first | omega | simp_all) | exact bool_to_f (by first | omega | simp_all) | exact bool_to (by first | omega | simp_all) | exact bool_to_b (by first | omega | simp_all))
  · skip
    refine vl_end [(0, _), (16, _)] ⟨rfl, rfl, trivial⟩ ?_
    refine then_next ?_
    refine vc_decideU rfl (fun h16 => ?_) (fun h16 => ?_)
    · skip
      refine vc_seq ?_
      refine vc_region ?_
      refine vl_det (det_move rfl) rfl ?_
      refine vl_det (det_assign rfl) rfl ?_
      refine vl_end [(2, _)] ⟨rfl, trivial⟩ ?_
      refine then_next ?_
      refine vc_ret ?_
      refine then_ret ?_
      refine ret1 rfl rfl ?_
      have e : ((small c).toNat : Int) = (c.toNat : Int) := by omega
      rw [e]; exact ⟨rfl, rfl⟩
    · skip
      refine vc_skip ?_
      refine then_next ?_
      refine vc_seq ?_
      refine vc_seq ?_
      refine vc_region ?_
      refine vl_cut 6 23 [(0, _)] (65 ≤ (c.toNat : Int) ∧ (c.toNat : Int) ≤ 90) ⟨rfl, trivial⟩ ?_ ?_
      · skip
        refine vl_det (det_move rfl) rfl ?_
        refine vl_det (det_geq rfl rfl) rfl ?_
        refine vl_det (det_move rfl) rfl ?_
        refine vl_guardp rfl rfl rfl (fun h20 => ?_) (fun h20 => ?_)
        · skip
          refine vl_det (det_move rfl) rfl ?_
          refine vl_guard_t rfl rfl ?_
          refine vl_det (det_leq rfl rfl) rfl ?_
          refine vl_det (det_pick_t rfl rfl) rfl ?_
          exact vl_cut_end ⟨rfl, trivial⟩ (by first | rfl | exact bool_to_t (by first | omega | simp_all) | exact bool_to_f (by first | omega | simp_all) | exact bool_to (by first | omega | simp_all) | exact bool_to_b (by first | omega | simp_all))
        · skip
          refine vl_guard_f rfl rfl rfl rfl ?_
          refine vl_det (det_pick_f rfl rfl) rfl ?_
          exact vl_cut_end ⟨rfl, trivial⟩ (by first | rfl | exact bool_to_t (by first | omega | simp_all) | exact bool_to_f (by first | omega | simp_all) | exact bool_to (by first | omega | simp_all) | exact bool_to_b (by first | omega | simp_all))
      · skip
        refine vl_end [(0, _), (23, _)] ⟨rfl, rfl, trivial⟩ ?_
        refine then_next ?_
        refine vc_decideU rfl (fun h23 => ?_) (fun h23 => ?_)
        · skip
          refine vc_seq ?_
          refine vc_region ?_
          refine vl_det (det_move rfl) rfl ?_
          refine vl_det (det_add rfl rfl (w_u8 (by omega) (by omega))) rfl ?_
          refine vl_det (det_assign rfl) rfl ?_
          refine vl_end [(2, _)] ⟨rfl, trivial⟩ ?_
          refine then_next ?_
          refine vc_ret ?_
          refine then_ret ?_
          refine ret1 rfl rfl ?_
          have e : ((small c).toNat : Int) = (c.toNat : Int) + 32 := by omega
          rw [e]; exact ⟨rfl, rfl⟩
        · skip
          refine vc_skip ?_
          refine then_next ?_
          refine vc_seq ?_
          refine vc_region ?_
          refine vl_det (det_assign rfl) rfl ?_
          refine vl_end [(2, _)] ⟨rfl, trivial⟩ ?_
          refine then_next ?_
          refine vc_ret ?_
          refine ret1 rfl rfl ?_
          have e : small c = 0 := by rcases hs with h | h | h <;> first | exact h.2 | (exfalso; omega)
          rw [e]; exact ⟨rfl, rfl⟩
theorem ret_letter {n : Int} {b b' : Bool} {c : UInt8} (h : n = ((small c).toNat : Int)) (hb : b = b') : Value.tuple #[.int .u8 n, .bool b] = .tuple #[.int .u8 (small c).toNat, .bool b'] := by rw [h, hb]
theorem letter_d (c : UInt8) : Does Try.prog B w0 58 [.int .u8 c.toNat] F (fun r L => r = .tuple #[.int .u8 (small c).toNat, .bool (decide (small c ≠ 0))] ∧ L = F) := by
  have hs := small_cases c
  have hc := c.toNat_lt
  refine fn_walk Try.func58 27 rfl rfl rfl [(0, .int .u8 c.toNat)] ⟨⟨rfl, rfl⟩, trivial⟩ ?_
  refine vc_seq ?_
  refine vc_region ?_
  refine vl_det (det_assign rfl) rfl ?_
  refine vl_det (det_assign rfl) rfl ?_
  refine vl_end [(0, _)] ⟨rfl, trivial⟩ ?_
  refine then_next ?_
  refine vc_seq ?_
  refine vc_block ?_
  refine vc_seq ?_
  refine vc_block ?_
  refine vc_seq ?_
  refine vc_block ?_
  refine vc_seq ?_
  refine vc_seq ?_
  refine vc_seq ?_
  refine vc_region ?_
  refine vl_cut 6 10 [(0, _)] (65 ≤ (c.toNat : Int) ∧ (c.toNat : Int) ≤ 90) ⟨rfl, trivial⟩ ?_ ?_
  · skip
    refine vl_det (det_move rfl) rfl ?_
    refine vl_det (det_geq rfl rfl) rfl ?_
    refine vl_det (det_move rfl) rfl ?_
    refine vl_guardp rfl rfl rfl (fun h7 => ?_) (fun h7 => ?_)
    · skip
      refine vl_det (det_move rfl) rfl ?_
      refine vl_guard_t rfl rfl ?_
      refine vl_det (det_leq rfl rfl) rfl ?_
      refine vl_det (det_pick_t rfl rfl) rfl ?_
      exact vl_cut_end ⟨rfl, trivial⟩ (by first | rfl | exact bool_to_t (by first | omega | simp_all) | exact bool_to_f (by first | omega | simp_all) | exact bool_to (by first | omega | simp_all) | exact bool_to_b (by first | omega | simp_all))
    · skip
      refine vl_guard_f rfl rfl rfl rfl ?_
      refine vl_det (det_pick_f rfl rfl) rfl ?_
      exact vl_cut_end ⟨rfl, trivial⟩ (by first | rfl | exact bool_to_t (by first | omega | simp_all) | exact bool_to_f (by first | omega | simp_all) | exact bool_to (by first | omega | simp_all) | exact bool_to_b (by first | omega | simp_all))
  · skip
    refine vl_det (det_assign rfl) rfl ?_
    refine vl_end [(0, _), (4, _)] ⟨rfl, rfl, trivial⟩ ?_
    refine then_next ?_
    refine vc_decideU rfl (fun h4 => ?_) (fun h4 => ?_)
    · skip
      refine vc_exit ?_
      refine then_exit ?_
      refine then_exit ?_
      refine in_eq ?_
      refine then_next ?_
      refine vc_region ?_
      refine vl_det (det_move rfl) rfl ?_
      refine vl_det (det_add rfl rfl (w_u8 (by omega) (by omega))) rfl ?_
      refine vl_det (det_assign rfl) rfl ?_
      refine vl_end [(0, _)] ⟨rfl, trivial⟩ ?_
      refine in_normal ?_
      refine then_next ?_
      refine vc_seq ?_
      refine vc_seq ?_
      refine vc_region ?_
      refine vl_det (det_move rfl) rfl ?_
      refine vl_det (det_assign rfl) rfl ?_
      refine vl_det (det_assign rfl) rfl ?_
      refine vl_end [(2, _), (3, _)] ⟨rfl, rfl, trivial⟩ ?_
      refine then_next ?_
      refine vc_ret ?_
      refine then_ret ?_
      refine in_ret ?_
      refine then_ret ?_
      refine ret2 rfl rfl rfl ?_
      have e : small c ≠ 0 := by rcases hs with h | h | h <;> first | exact h.2.2 | (exfalso; omega)
      exact ⟨ret_letter (by omega) (decide_eq_true e).symm, rfl⟩
    · skip
      refine vc_skip ?_
      refine then_next ?_
      refine vc_seq ?_
      refine vc_seq ?_
      refine vc_region ?_
      refine vl_cut 6 17 [(0, _)] (97 ≤ (c.toNat : Int) ∧ (c.toNat : Int) ≤ 122) ⟨rfl, trivial⟩ ?_ ?_
      · skip
        refine vl_det (det_move rfl) rfl ?_
        refine vl_det (det_geq rfl rfl) rfl ?_
        refine vl_det (det_move rfl) rfl ?_
        refine vl_guardp rfl rfl rfl (fun h14 => ?_) (fun h14 => ?_)
        · skip
          refine vl_det (det_move rfl) rfl ?_
          refine vl_guard_t rfl rfl ?_
          refine vl_det (det_leq rfl rfl) rfl ?_
          refine vl_det (det_pick_t rfl rfl) rfl ?_
          exact vl_cut_end ⟨rfl, trivial⟩ (by first | rfl | exact bool_to_t (by first | omega | simp_all) | exact bool_to_f (by first | omega | simp_all) | exact bool_to (by first | omega | simp_all) | exact bool_to_b (by first | omega | simp_all))
        · skip
          refine vl_guard_f rfl rfl rfl rfl ?_
          refine vl_det (det_pick_f rfl rfl) rfl ?_
          exact vl_cut_end ⟨rfl, trivial⟩ (by first | rfl | exact bool_to_t (by first | omega | simp_all) | exact bool_to_f (by first | omega | simp_all) | exact bool_to (by first | omega | simp_all) | exact bool_to_b (by first | omega | simp_all))
      · skip
        refine vl_det (det_assign rfl) rfl ?_
        refine vl_end [(0, _), (11, _)] ⟨rfl, rfl, trivial⟩ ?_
        refine then_next ?_
        refine vc_decideU rfl (fun h11 => ?_) (fun h11 => ?_)
        · skip
          refine vc_skip ?_
          refine then_next ?_
          refine vc_cond_t rfl ?_
          refine vc_exit ?_
          refine then_exit ?_
          refine in_exit rfl ?_
          refine then_exit ?_
          refine in_eq ?_
          refine then_next ?_
          refine vc_seq ?_
          refine vc_seq ?_
          refine vc_region ?_
          refine vl_det (det_move rfl) rfl ?_
          refine vl_det (det_assign rfl) rfl ?_
          refine vl_det (det_assign rfl) rfl ?_
          refine vl_end [(2, _), (3, _)] ⟨rfl, rfl, trivial⟩ ?_
          refine then_next ?_
          refine vc_ret ?_
          refine then_ret ?_
          refine in_ret ?_
          refine then_ret ?_
          refine ret2 rfl rfl rfl ?_
          have e : small c ≠ 0 := by rcases hs with h | h | h <;> first | exact h.2.2 | (exfalso; omega)
          exact ⟨ret_letter (by omega) (decide_eq_true e).symm, rfl⟩
        · skip
          refine vc_region ?_
          refine vl_cut 6 23 [(0, _)] (48 ≤ (c.toNat : Int) ∧ (c.toNat : Int) ≤ 57) ⟨rfl, trivial⟩ ?_ ?_
          · skip
            refine vl_det (det_move rfl) rfl ?_
            refine vl_det (det_geq rfl rfl) rfl ?_
            refine vl_det (det_move rfl) rfl ?_
            refine vl_guardp rfl rfl rfl (fun h20 => ?_) (fun h20 => ?_)
            · skip
              refine vl_det (det_move rfl) rfl ?_
              refine vl_guard_t rfl rfl ?_
              refine vl_det (det_leq rfl rfl) rfl ?_
              refine vl_det (det_pick_t rfl rfl) rfl ?_
              exact vl_cut_end ⟨rfl, trivial⟩ (by first | rfl | exact bool_to_t (by first | omega | simp_all) | exact bool_to_f (by first | omega | simp_all) | exact bool_to (by first | omega | simp_all) | exact bool_to_b (by first | omega | simp_all))
            · skip
              refine vl_guard_f rfl rfl rfl rfl ?_
              refine vl_det (det_pick_f rfl rfl) rfl ?_
              exact vl_cut_end ⟨rfl, trivial⟩ (by first | rfl | exact bool_to_t (by first | omega | simp_all) | exact bool_to_f (by first | omega | simp_all) | exact bool_to (by first | omega | simp_all) | exact bool_to_b (by first | omega | simp_all))
          · skip
            refine vl_det (det_assign rfl) rfl ?_
            refine vl_end [(0, _), (11, _)] ⟨rfl, rfl, trivial⟩ ?_
            refine then_next ?_
            refine vc_decideU rfl (fun h11 => ?_) (fun h11 => ?_)
            · skip
              refine vc_exit ?_
              refine then_exit ?_
              refine in_exit rfl ?_
              refine then_exit ?_
              refine in_eq ?_
              refine then_next ?_
              refine vc_seq ?_
              refine vc_seq ?_
              refine vc_region ?_
              refine vl_det (det_move rfl) rfl ?_
              refine vl_det (det_assign rfl) rfl ?_
              refine vl_det (det_assign rfl) rfl ?_
              refine vl_end [(2, _), (3, _)] ⟨rfl, rfl, trivial⟩ ?_
              refine then_next ?_
              refine vc_ret ?_
              refine then_ret ?_
              refine in_ret ?_
              refine then_ret ?_
              refine ret2 rfl rfl rfl ?_
              have e : small c ≠ 0 := by rcases hs with h | h | h <;> first | exact h.2.2 | (exfalso; omega)
              exact ⟨ret_letter (by omega) (decide_eq_true e).symm, rfl⟩
            · skip
              refine vc_skip ?_
              refine then_next ?_
              refine vc_exit ?_
              refine in_exit rfl ?_
              refine then_exit ?_
              refine in_exit rfl ?_
              refine then_exit ?_
              refine in_eq ?_
              refine then_next ?_
              refine vc_seq ?_
              refine vc_region ?_
              refine vl_det (det_assign rfl) rfl ?_
              refine vl_det (det_assign rfl) rfl ?_
              refine vl_end [(2, _), (3, _)] ⟨rfl, rfl, trivial⟩ ?_
              refine then_next ?_
              refine vc_ret ?_
              refine ret2 rfl rfl rfl ?_
              have e : small c = 0 := by rcases hs with h | h | h <;> first | exact h.2 | (exfalso; omega)
              rw [e]; exact ⟨rfl, rfl⟩
/-- all are letters -/
def AllS (l : List UInt8) : Prop := ∀ c ∈ l, small c ≠ 0
instance (l : List UInt8) : Decidable (AllS l) := inferInstanceAs (Decidable (∀ c ∈ l, small c ≠ 0))
theorem AllS.nil_ : AllS [] := by intro c h; cases h
theorem AllS.take {l : List UInt8} (h : AllS l) (k : Nat) : AllS (l.take k) := fun c hc => h c (List.mem_of_mem_take hc)
theorem AllS.step {l : List UInt8} {k : Nat} (h : AllS (l.take k)) (hk : k < l.length) (hs : small (l.getD k 0) ≠ 0) : AllS (l.take (k + 1)) := by
  rw [take_getD hk 0]
  intro c hc
  rcases List.mem_append.1 hc with hc | hc
  · exact h c hc
  · simp only [List.mem_singleton] at hc; rw [hc]; exact hs
theorem AllS.all {l : List UInt8} {k : Nat} (h : AllS (l.take k)) (hk : ¬ k < l.length) : AllS l := by rwa [List.take_of_length_le (by omega)] at h
theorem smalls_step {l : List UInt8} {k : Nat} (hk : k < l.length) : bv ((l.take k).map small) ++ [Value.int .u8 ((small (l.getD k 0)).toNat : Int)] = bv ((l.take (k + 1)).map small) := by
  rw [take_getD hk 0]; simp [bv]
/-- a text by itself -/
def oneL (s : List UInt8) : List UInt8 × Bool := if (1 ≤ s.length ∧ s.length ≤ 24) ∧ AllS s then (s.map small, true) else ([], false)
theorem oneL_yes {s : List UInt8} (h1 : 1 ≤ s.length ∧ s.length ≤ 24) (h2 : AllS s) : oneL s = (s.map small, true) := if_pos ⟨h1, h2⟩
theorem oneL_no {s : List UInt8} (h : ¬ ((1 ≤ s.length ∧ s.length ≤ 24) ∧ AllS s)) : oneL s = ([], false) := if_neg h
theorem u8_zero {x : UInt8} (h : (x.toNat : Int) = 0) : x = 0 := UInt8.toNat_inj.1 (by simp; omega)
theorem u8_some {x : UInt8} (h : ¬ (x.toNat : Int) = 0) : x ≠ 0 := fun e => h (by rw [e]; rfl)
/-- what stands behind an @ ahead -/
def bare (s : List UInt8) : List UInt8 := if s.head? = some 64 then s.drop 1 else s
def termL (s : List UInt8) : Bool := (oneL (bare s)).2 && decide ((oneL (bare s)).1 = bare s)
theorem bare_at {s : List UInt8} (h1 : 0 < s.length) (h2 : s.getD 0 0 = 64) : bare s = s.drop 1 := by
  rcases s with _ | ⟨c, r⟩
  · simp at h1
  · simp at h2; subst h2; rfl
theorem bare_not {s : List UInt8} (h : ¬ (0 < s.length ∧ s.getD 0 0 = 64)) : bare s = s := by
  rcases s with _ | ⟨c, r⟩
  · rfl
  · unfold bare
    rw [if_neg]
    simp at h ⊢
    exact h
end Go.Proofs.Ytpamjobiohbibaa
namespace Go.Proofs.Ytpamjobiohbibaa
open Go.RowKit
set_option linter.unusedVariables false
set_option maxRecDepth 20000
variable {B : Nat} {w0 : World} {F : List Ch} {A A1 A2 : Option Addr} {n c c1 c2 g : Nat}
theorem SL.own_cut {w : World} {L : List Ch} {e : TypeId} {size k : Nat} {xs : List Value} (h : SL B w0 (.own e size A n c xs :: L) w) (hk : k ≤ n) : SL B w0 (.own e size A k c (xs.take (k * size)) :: L) w := by
  refine ⟨h.below, h.base, fun d hd => ?_, List.pairwise_cons.2 ⟨fun d hd => ?_, (List.pairwise_cons.1 h.apart).2⟩⟩
  · rcases List.mem_cons.1 hd with rfl | hd
    · obtain ⟨k1, k2, k3⟩ := h.head
      have hks : k * size ≤ n * size := Nat.mul_le_mul_right _ hk
      refine ⟨by rw [List.length_take, k1]; omega, by omega, k3.imp id fun ⟨g, cur, q1, q2, q3, q4, q5, q6⟩ => ⟨g, cur, q1, q2, q3, q4, q5, by rw [← q6, List.take_take, Nat.min_eq_left hks]⟩⟩
    · exact h.tail.all d hd
  · exact (List.pairwise_cons.1 h.apart).1 d hd
theorem ret_own_cut {P : Program} {fn : Func} {R : Value → List Ch → Prop} {ee : Exit} {fr : Fr} {L : List Ch} {e : TypeId} {size : Nat} {xs : List Value} (k : Nat) (hk : k ≤ n) (h : Ret P fn R ee fr (.own e size A k c (xs.take (k * size)) :: L)) : Ret P fn R ee fr (.own e size A n c xs :: L) := by
  cases ee <;> first
    | exact h
    | (intro B w0 a w ha hw; exact h B w0 a w ha (hw.own_cut hk))
/-- the collecting variable -/
abbrev ColP (ho : Nat) (A : Option Addr) (c : Nat) (ws : List Txt) (F : List Ch) : List Ch := .blk ho 26 [.slice A ws.length c] :: .own 9 1 A ws.length c (strs ws) :: F
/-- what a function does with each word that it is handed: it stands behind the others, turned -/
def Collects (B : Nat) (w0 : World) (ff : FuncId) (ho : Nat) (f : Txt → Txt) : Prop :=
  ∀ (F : List Ch) (t : Txt) (ws : List Txt) (A : Option Addr) (c : Nat), t.length ≤ 24 → ws.length ≤ 1000000000000 →
    Does Try.prog B w0 ff [.string ⟨t.toArray⟩, .pointer (some ⟨ho, 0, none⟩)] (ColP ho A c ws F) (fun r L => r = .tuple #[] ∧ ∃ A' c', L = ColP ho A' c' (ws ++ [f t]) F)
/-- the row of letters -/
abbrev RowP (hr : Nat) (A : Option Addr) (c : Nat) (row : List UInt8) (F : List Ch) : List Ch := .blk hr 41 [.slice A row.length c] :: .own 5 1 A row.length c (bv row) :: F
theorem tell_d {ff : FuncId} {ho hr hw : Nat} {f : Txt → Txt} (hcal : Callable Try.prog ff) (hword : Collects B w0 ff ho f) {row : List UInt8} {ws : List Txt} (hws : ws.length ≤ 1000000000000) (hrow : row.length ≤ 1000000000000) :
    Does Try.prog B w0 57 [.pointer (some ⟨hr, 0, none⟩), .pointer (some ⟨hw, 0, none⟩)] (RowP hr A1 c1 row (.blk hw 65 [.func (.func ff) #[] [.pointer (some ⟨ho, 0, none⟩)].toArray] :: ColP ho A2 c2 ws F))
      (fun r L => r = .tuple #[] ∧ ∃ A2' c2', L = RowP hr A1 c1 [] (.blk hw 65 [.func (.func ff) #[] [.pointer (some ⟨ho, 0, none⟩)].toArray] :: ColP ho A2' c2' (ws ++ (emit row).map f) F)) := by
  refine fn_walk Try.func57 15 rfl rfl rfl [(0, .pointer (some ⟨hr, 0, none⟩)), (1, .pointer (some ⟨hw, 0, none⟩))] ⟨⟨rfl, rfl⟩, ⟨rfl, rfl⟩, trivial⟩ ?_
  refine vc_seq ?_
  refine vc_seq ?_
  refine vc_region ?_
  refine vl_det (det_load_blk (by kernel_rfl) rfl (by repeat (first | exact .hd | apply Sel.tl)) rfl) rfl ?_
  refine vl_det (det_len_sl Try.underlying41 rfl) rfl ?_
  refine vl_det (det_gtr rfl rfl) rfl ?_
  refine vl_end [(0, _), (1, _), (4, _)] ⟨rfl, rfl, rfl, trivial⟩ ?_
  refine then_next ?_
  refine vc_decideU rfl (fun h4 => ?_) (fun h4 => ?_)
  · skip
    refine vc_bor (A := A1) (nn := row.length) (c := c1) (size := 1) (xs := bv row) (by first | (exact Bor.own (by repeat (first | exact List.Mem.head _ | apply List.Mem.tail))) | (repeat (first | assumption | apply Bor.cons))) fun hcap _ => ?_
    obtain ⟨M, hM⟩ : ∃ M, M = min row.length 24 := ⟨_, rfl⟩
    have htl : (row.take 24).length = M := by rw [List.length_take, hM, Nat.min_comm]
    have he : emit row = [row.take 24] := if_neg (fun e => by rw [e] at h4; simp at h4)
    have hMm : min (row.length : Int) 24 = (M : Int) := by omega
    have htk : (bv row).take (M * 1) = bv (row.take 24) := by
      rw [Nat.mul_one, bv_take]
      congr 1
      rcases Nat.lt_or_ge row.length 24 with h | h
      · rw [List.take_of_length_le (by omega), List.take_of_length_le (by omega)]
      · rw [show M = 24 by omega]
    refine vh_region (S := .blk hr 41 [.slice A1 row.length c1] :: .own 5 1 A1 row.length c1 (bv row) :: .blk hw 65 [.func (.func ff) #[] [.pointer (some ⟨ho, 0, none⟩)].toArray] :: []) (by kernel_rfl) (by repeat (first | exact List.Sublist.refl _ | exact List.nil_sublist _ | apply List.Sublist.cons_cons | apply List.Sublist.cons)) ?_
    refine vh_take 0 rfl (by kernel_rfl) (by kernel_rfl) (by kernel_rfl) (det_load_blk (by kernel_rfl) rfl (by repeat (first | exact .hd | apply Sel.tl)) rfl) rfl ?_
    refine vh_take 1 rfl (by kernel_rfl) (by kernel_rfl) (by kernel_rfl) (det_load_blk (by kernel_rfl) rfl (by repeat (first | exact .hd | apply Sel.tl)) rfl) rfl ?_
    refine vh_take 2 rfl (by kernel_rfl) (by kernel_rfl) (by kernel_rfl) (det_load_blk (by kernel_rfl) rfl (by repeat (first | exact .hd | apply Sel.tl)) rfl) rfl ?_
    refine vh_take 3 rfl (by kernel_rfl) (by kernel_rfl) (by kernel_rfl) (det_len_sl Try.underlying41 rfl) rfl ?_
    refine vh_take 4 rfl (by kernel_rfl) (by kernel_rfl) (by kernel_rfl) (det_min rfl rfl) rfl ?_
    rw [hMm]
    refine vh_take 5 rfl (by kernel_rfl) (by kernel_rfl) (by kernel_rfl) (det_slice_hi (i := M) (size := 1) Try.underlying41 (by kernel_rfl) rfl rfl rfl (by omega)) rfl ?_
    refine vh_take 6 rfl (by kernel_rfl) (by kernel_rfl) (by kernel_rfl) (det_bstr (b := row.take 24) Try.underlying41 Try.underlying5 Try.underlying9 rfl (htk ▸ ((by first | (exact Bor.own (by repeat (first | exact List.Mem.head _ | apply List.Mem.tail))) | (repeat (first | assumption | apply Bor.cons))) : Bor _ _ _ 1 (.slice A1 row.length c1) row.length (bv row)).head_ (k := M) (by omega))) rfl ?_
    refine vh_one 7 (by kernel_rfl) ?_
    refine st_callv rfl .no hcal rfl rfl ((hword _ (row.take 24) ws _ _ (by omega) (by omega)).perm ((pu3 (pu3 (pu0 (pu0 (pu0 (.refl _)))))))) rfl (by rintro _ _ ⟨rfl, A12, c12, rfl⟩; exact (by repeat (first | exact List.Sublist.refl _ | exact List.nil_sublist _ | apply List.Sublist.cons_cons | apply List.Sublist.cons))) ?_
    rintro _ _ ⟨rfl, A12, c12, hLL⟩
    obtain rfl := hLL.symm
    refine vh_done [(0, _)] ⟨rfl, trivial⟩ (by kernel_rfl) ?_
    refine then_next ?_
    refine vc_region ?_
    refine vl_det (det_load_blk (by kernel_rfl) rfl (by repeat (first | exact .hd | apply Sel.tl)) rfl) rfl ?_
    refine vl_det (det_slice_hi (i := 0) (size := 1) Try.underlying41 (by kernel_rfl) rfl rfl rfl (by omega)) rfl ?_
    refine vl_eff0 (eff_store (by kernel_rfl) rfl rfl rfl (by repeat (first | exact .hd | apply Sel.tl)) (by simp)) ?_
    rintro _ _ rfl
    refine vl_end [] trivial ?_
    refine ret_n ?_
    refine ret_wk (L' := .own 5 1 A1 row.length c1 (bv row) :: .blk hr 41 [.slice A1 0 c1] :: .blk hw 65 [.func (.func ff) #[] [.pointer (some ⟨ho, 0, none⟩)].toArray] :: ColP ho A12 c12 (ws ++ [f (row.take 24)]) F) ((wu3 (wu2 (wu2 (wu0 (wu0 (.refl _))))))) ?_
    refine ret_own_cut 0 (Nat.zero_le _) ?_
    refine ret_wk (L' := RowP hr A1 c1 [] (.blk hw 65 [.func (.func ff) #[] [.pointer (some ⟨ho, 0, none⟩)].toArray] :: ColP ho A12 c12 (ws ++ [f (row.take 24)]) F)) (.swap (.cons (wk_own rfl (by rw [Nat.zero_mul]; rfl) (.refl _)))) ?_
    refine ret0 rfl ?_
    exact ⟨rfl, A12, c12, by rw [he]; rfl⟩
  · skip
    obtain rfl : row = [] := List.eq_nil_of_length_eq_zero (by omega)
    refine vc_skip ?_
    refine then_next ?_
    refine vc_region ?_
    refine vl_det (det_load_blk (by kernel_rfl) rfl (by repeat (first | exact .hd | apply Sel.tl)) rfl) rfl ?_
    refine vl_det (det_slice_hi (i := 0) (size := 1) Try.underlying41 (by kernel_rfl) rfl rfl rfl (by omega)) rfl ?_
    refine vl_eff0 (eff_store (by kernel_rfl) rfl rfl rfl (by repeat (first | exact .hd | apply Sel.tl)) (by simp)) ?_
    rintro _ _ rfl
    refine vl_end [] trivial ?_
    refine ret_n ?_
    refine ret0 rfl ?_
    exact ⟨rfl, A2, c2, by simp [emit]⟩
theorem split_d {ff : FuncId} {ho : Nat} {f : Txt → Txt} (hcal : Callable Try.prog ff) (hword : Collects B w0 ff ho f) (l : List UInt8) {ws : List Txt} (hws : ws.length ≤ 274877906944) (hl : l.length ≤ 274877906944) :
    Does Try.prog B w0 33 [.string ⟨l.toArray⟩, .func (.func ff) #[] [.pointer (some ⟨ho, 0, none⟩)].toArray] (ColP ho A2 c2 ws F)
      (fun r L => r = .tuple #[] ∧ ∃ A2' c2', L = ColP ho A2' c2' (ws ++ (wordsL l).map f) F) := by
  refine fn_walk Try.func33 32 rfl rfl rfl [(0, .string ⟨l.toArray⟩), (1, .func (.func ff) #[] [.pointer (some ⟨ho, 0, none⟩)].toArray)] ⟨⟨rfl, rfl⟩, ⟨rfl, rfl⟩, trivial⟩ ?_
  refine vc_seq ?_
  refine vc_region ?_
  refine vl_eff (eff_box rfl rfl) rfl ?_
  rintro _ _ ⟨g3, rfl, rfl⟩
  refine vl_end [(0, _), (3, _)] ⟨rfl, rfl, trivial⟩ ?_
  refine then_next ?_
  refine vc_seq ?_
  refine vc_region ?_
  refine vl_eff (eff_alloc_z (zv := (.slice none 0 0)) (by kernel_rfl) rfl) rfl ?_
  rintro _ _ ⟨g4, rfl, rfl⟩
  refine vl_end [(0, _), (3, _), (4, _)] ⟨rfl, rfl, rfl, trivial⟩ ?_
  refine then_next ?_
  refine vc_seq ?_
  refine vc_region ?_
  refine vl_det (det_makeFunc rfl rfl) rfl ?_
  refine vl_det (det_assign rfl) rfl ?_
  refine vl_end [(0, _), (4, _), (5, _)] ⟨rfl, rfl, rfl, trivial⟩ ?_
  refine then_next ?_
  refine vc_seq ?_
  refine vc_seq ?_
  refine vc_nil_row 5 1 none ?_
  refine vc_region ?_
  refine vl_det (det_move rfl) rfl ?_
  refine vl_det (det_len_s Try.underlying9 rfl) rfl ?_
  refine vl_det (det_move rfl) rfl ?_
  refine vl_end [(0, _), (4, _), (5, _), (11, _), (12, _)] ⟨rfl, rfl, rfl, rfl, rfl, trivial⟩ ?_
  refine then_next ?_
  refine vc_block ?_
  refine vc_loopJ (fun zf zL zm => ∃ (k : Nat) (W : List Txt) (R : List UInt8) (A : Option Addr) (c : Nat) (A3 : Option Addr) (c3 : Nat), (k ≤ l.length ∧ wst (l.take k) = (W, R)) ∧ l.length - k = zm ∧ Sub zf [(0, .string ⟨l.toArray⟩), (4, .pointer (some ⟨g4, 0, none⟩)), (5, .func (.func 57) #[] [.pointer (some ⟨g4, 0, none⟩), .pointer (some ⟨g3, 0, none⟩)].toArray), (11, .int .i64 l.length), (12, .int .i64 k)] ∧ Wk zL (RowP g4 A c R (.blk g3 65 [.func (.func ff) #[] [.pointer (some ⟨ho, 0, none⟩)].toArray] :: ColP ho A3 c3 (ws ++ W.map f) F))) _ ⟨0, [], [], none, 0, A2, c2, ⟨Nat.zero_le _, rfl⟩, rfl, ⟨(by first | rfl | exact int_to (by omega) | exact sl_to (by omega)), (by first | rfl | exact int_to (by omega) | exact sl_to (by omega)), (by first | rfl | exact int_to (by omega) | exact sl_to (by omega)), (by first | rfl | exact int_to (by omega) | exact sl_to (by omega)), (by first | rfl | exact int_to (by omega) | exact sl_to (by omega)), trivial⟩, .swap (.cons (.cons (.cons (wk_blk (by simp) (wk_own (by simp) (by simp) (.refl _))))))⟩ ?_
  rintro _ _ _ ⟨k, W, R, A, c, A3, c3, ⟨hk, hW⟩, rfl, hs, hp⟩
  refine vc_weaken _ hs (vc_wk hp ?_)
  clear hs hp
  refine vc_seq ?_
  refine vc_region ?_
  refine vl_det (det_lss rfl rfl) rfl ?_
  refine vl_end [(0, _), (4, _), (5, _), (11, _), (12, _), (13, _)] ⟨rfl, rfl, rfl, rfl, rfl, rfl, trivial⟩ ?_
  refine then_next ?_
  refine vc_seq ?_
  refine vc_decideU rfl (fun h13 => ?_) (fun h13 => ?_)
  · skip
    have hwl := wst_len (l.take k)
    rw [hW, List.length_take] at hwl
    simp only at hwl
    have hel := emit_len R
    have hsn : wst (l.take (k + 1)) = wstep (W, R) (l.getD k 0) := by
      rw [List.take_add_one, List.getElem?_eq_getElem (show k < l.length by omega), ← hW, ← wst_snoc]
      simp [List.getD, List.getElem?_eq_getElem (show k < l.length by omega)]
    refine vc_skip ?_
    refine then_next ?_
    refine vc_seq ?_
    refine vc_block ?_
    refine vc_seq ?_
    refine vc_region ?_
    refine vl_det (det_move rfl) rfl ?_
    refine vl_det (det_assign rfl) rfl ?_
    refine vl_end [(0, _), (4, _), (5, _), (6, _), (11, _), (12, _)] ⟨rfl, rfl, rfl, rfl, rfl, rfl, trivial⟩ ?_
    refine then_next ?_
    refine vc_seq ?_
    refine vc_seq ?_
    refine vc_region ?_
    refine vl_det (det_move rfl) rfl ?_
    refine vl_det (det_move rfl) rfl ?_
    refine vl_det (det_at_str Try.underlying9 rfl rfl rfl (by omega)) rfl ?_
    refine vl_call co58 rfl (letter_d (l.getD k 0)) rfl ?_
    rintro _ _ ⟨rfl, hLL⟩
    obtain rfl := hLL.symm
    refine vl_det (det_move rfl) rfl ?_
    refine vl_det (det_extract rfl rfl) rfl ?_
    refine vl_det (det_extract rfl rfl) rfl ?_
    refine vl_det (det_assign rfl) rfl ?_
    refine vl_det (det_assign rfl) rfl ?_
    refine vl_end [(0, _), (4, _), (5, _), (7, _), (8, _), (11, _), (12, _)] ⟨rfl, rfl, rfl, rfl, rfl, rfl, rfl, trivial⟩ ?_
    refine then_next ?_
    refine vc_seq ?_
    refine vc_region ?_
    refine vl_det (det_move rfl) rfl ?_
    refine vl_end [(0, _), (4, _), (5, _), (7, _), (11, _), (12, _), (22, _)] ⟨rfl, rfl, rfl, rfl, rfl, rfl, rfl, trivial⟩ ?_
    refine then_next ?_
    refine vc_decideU rfl (fun h22 => ?_) (fun h22 => ?_)
    · skip
      refine vc_seq ?_
      refine vc_region ?_
      refine vl_det (det_load_blk (by kernel_rfl) rfl (by repeat (first | exact .hd | apply Sel.tl)) rfl) rfl ?_
      refine vl_det (det_move rfl) rfl ?_
      refine vl_push slT41 rfl rfl rfl rfl rfl (fun _ => rfl) (by repeat (first | exact .hd | apply Sel.tl)) (by omega) (by omega) ?_
      intro _ A26 c26
      refine vl_eff0 (eff_store (by kernel_rfl) rfl rfl rfl (by repeat (first | exact .hd | apply Sel.tl)) (by simp)) ?_
      rintro _ _ rfl
      refine vl_end [(0, _), (4, _), (5, _), (11, _), (12, _)] ⟨rfl, rfl, rfl, rfl, rfl, trivial⟩ ?_
      refine then_next ?_
      refine vc_exit ?_
      refine then_exit ?_
      refine in_eq ?_
      refine then_next ?_
      refine vc_region ?_
      refine vl_det (det_add rfl rfl (w_i64 (by omega) (by omega))) rfl ?_
      refine vl_det (det_move rfl) rfl ?_
      refine vl_end [(0, _), (4, _), (5, _), (11, _), (12, _)] ⟨rfl, rfl, rfl, rfl, rfl, trivial⟩ ?_
      have hel2 : R.length + 1 = (R ++ [small (l.getD k 0)]).length := by simp
      refine in_loop_ ⟨_, by omega, k + 1, W, R ++ [small (l.getD k 0)], A26, c26, A3, c3, ⟨by omega, by rw [hsn, wstep_yes h22]⟩, rfl, ⟨(by first | rfl | exact int_to (by omega) | exact sl_to (by omega)), (by first | rfl | exact int_to (by omega) | exact sl_to (by omega)), (by first | rfl | exact int_to (by omega) | exact sl_to (by omega)), (by first | rfl | exact int_to (by omega) | exact sl_to (by omega)), (by first | rfl | exact int_to (by omega) | exact sl_to (by omega)), trivial⟩, wk_blk (by rw [hel2]; rfl) (wk_own hel2 (by simp [bv]) (.refl _))⟩
    · skip
      refine vc_skip ?_
      refine then_next ?_
      refine vc_region ?_
      refine vl_det (det_move rfl) rfl ?_
      refine vl_callv co57 rfl rfl (tell_d hcal hword (by simp; omega) (by omega)) rfl ?_
      rintro _ _ ⟨rfl, A28, c28, hLL⟩
      obtain rfl := hLL.symm
      refine vl_end [(0, _), (4, _), (5, _), (11, _), (12, _)] ⟨rfl, rfl, rfl, rfl, rfl, trivial⟩ ?_
      refine in_normal ?_
      refine then_next ?_
      refine vc_region ?_
      refine vl_det (det_add rfl rfl (w_i64 (by omega) (by omega))) rfl ?_
      refine vl_det (det_move rfl) rfl ?_
      refine vl_end [(0, _), (4, _), (5, _), (11, _), (12, _)] ⟨rfl, rfl, rfl, rfl, rfl, trivial⟩ ?_
      refine in_loop_ ⟨_, by omega, k + 1, W ++ emit R, [], A, c, A28, c28, ⟨by omega, by rw [hsn, wstep_no (Classical.not_not.1 h22)]⟩, rfl, ⟨(by first | rfl | exact int_to (by omega) | exact sl_to (by omega)), (by first | rfl | exact int_to (by omega) | exact sl_to (by omega)), (by first | rfl | exact int_to (by omega) | exact sl_to (by omega)), (by first | rfl | exact int_to (by omega) | exact sl_to (by omega)), (by first | rfl | exact int_to (by omega) | exact sl_to (by omega)), trivial⟩, .cons (.cons (.cons (wk_blk (by simp) (wk_own (by simp) (by simp) (.refl _)))))⟩
  · skip
    obtain rfl : k = l.length := by omega
    rw [List.take_length] at hW
    have hwl := wst_len l
    rw [hW] at hwl
    simp only at hwl
    have hwd : wordsL l = W ++ emit R := by unfold wordsL; rw [hW]
    refine vc_exit ?_
    refine then_exit ?_
    refine loop_exit ?_
    refine in_eq ?_
    refine then_next ?_
    refine vc_region ?_
    refine vl_det (det_move rfl) rfl ?_
    refine vl_callv co57 rfl rfl (tell_d hcal hword (by simp; omega) (by omega)) rfl ?_
    rintro _ _ ⟨rfl, A31, c31, hLL⟩
    obtain rfl := hLL.symm
    refine vl_end [] trivial ?_
    refine ret_n ?_
    refine ret_wk (L' := ColP ho A31 c31 (ws ++ W.map f ++ (emit R).map f) F) (.skip (.skip (.skip (.refl _)))) ?_
    refine ret0 rfl ?_
    exact ⟨rfl, A31, c31, by rw [hwd]; simp⟩
theorem collects1 {ho : Nat} : Collects B w0 34 ho (fun t => t) := by
  intro F t ws A c ht hws
  refine fn_walk Try.func34 7 rfl rfl rfl [(0, .string ⟨t.toArray⟩), (1, .pointer (some ⟨ho, 0, none⟩))] ⟨⟨rfl, rfl⟩, ⟨rfl, rfl⟩, trivial⟩ ?_
  refine vc_region ?_
  refine vl_det (det_load_blk (by kernel_rfl) rfl (by repeat (first | exact .hd | apply Sel.tl)) rfl) rfl ?_
  refine vl_det (det_move rfl) rfl ?_
  refine vl_push slT26 rfl rfl rfl rfl rfl (fun _ => rfl) (by repeat (first | exact .hd | apply Sel.tl)) (by omega) (by omega) ?_
  intro _ A6 c6
  refine vl_eff0 (eff_store (by kernel_rfl) rfl rfl rfl (by repeat (first | exact .hd | apply Sel.tl)) (by simp)) ?_
  rintro _ _ rfl
  refine vl_end [] trivial ?_
  refine ret_n ?_
  have hel : ws.length + 1 = (ws ++ [t]).length := by simp
  refine ret_wk (L' := ColP ho A6 c6 (ws ++ [t]) F) (wk_blk (by rw [hel]; rfl) (wk_own hel (by simp [strs]) (.refl _))) ?_
  refine ret0 rfl ?_
  exact ⟨rfl, A6, c6, rfl⟩
theorem collects2 {ho : Nat} : Collects B w0 35 ho (fun t => 64 :: t) := by
  intro F t ws A c ht hws
  refine fn_walk Try.func35 8 rfl rfl rfl [(0, .string ⟨t.toArray⟩), (1, .pointer (some ⟨ho, 0, none⟩))] ⟨⟨rfl, rfl⟩, ⟨rfl, rfl⟩, trivial⟩ ?_
  refine vc_region ?_
  refine vl_det (det_load_blk (by kernel_rfl) rfl (by repeat (first | exact .hd | apply Sel.tl)) rfl) rfl ?_
  refine vl_det (det_move rfl) rfl ?_
  refine vl_det (det_s_add (s := [64]) (r := t) rfl rfl (by simp only [List.length_cons, List.length_nil]; omega)) rfl ?_
  refine vl_push slT26 rfl rfl rfl rfl rfl (fun _ => rfl) (by repeat (first | exact .hd | apply Sel.tl)) (by omega) (by omega) ?_
  intro _ A7 c7
  refine vl_eff0 (eff_store (by kernel_rfl) rfl rfl rfl (by repeat (first | exact .hd | apply Sel.tl)) (by simp)) ?_
  rintro _ _ rfl
  refine vl_end [] trivial ?_
  refine ret_n ?_
  have hel : ws.length + 1 = (ws ++ [64 :: t]).length := by simp
  refine ret_wk (L' := ColP ho A7 c7 (ws ++ [64 :: t]) F) (wk_blk (by rw [hel]; rfl) (wk_own hel (by simp [strs]) (.refl _))) ?_
  refine ret0 rfl ?_
  exact ⟨rfl, A7, c7, rfl⟩
theorem terms_d {a b : Value} (txt src : List UInt8) (h1 : txt.length ≤ 100000000000) (h2 : src.length ≤ 100000000000) :
    Does Try.prog B w0 14 [.agg #[a, b, .string ⟨src.toArray⟩, .string ⟨txt.toArray⟩]] F (fun r L => ∃ A c, r = .slice A (termsL txt src).length c ∧ L = .own 9 1 A (termsL txt src).length c (strs (termsL txt src)) :: F) := by
  have hrl := rawT_len txt src
  have hw1 := wordsL_len txt
  refine fn_walk Try.func14 16 rfl rfl rfl [(0, .agg #[a, b, .string ⟨src.toArray⟩, .string ⟨txt.toArray⟩])] ⟨⟨rfl, rfl⟩, trivial⟩ ?_
  refine vc_seq ?_
  refine vc_region ?_
  refine vl_eff (eff_box rfl rfl) rfl ?_
  rintro _ _ ⟨g1, rfl, rfl⟩
  refine vl_det (det_assign rfl) rfl ?_
  refine vl_end [(1, _)] ⟨rfl, trivial⟩ ?_
  refine then_next ?_
  refine vc_seq ?_
  refine vc_region ?_
  refine vl_eff (eff_alloc_z (zv := (.slice none 0 0)) (by kernel_rfl) rfl) rfl ?_
  rintro _ _ ⟨g3, rfl, rfl⟩
  refine vl_end [(1, _), (3, _)] ⟨rfl, rfl, trivial⟩ ?_
  refine then_next ?_
  refine vc_seq ?_
  refine vc_nil_row 9 1 none ?_
  refine vc_region ?_
  refine vl_det (det_fieldAddr_ Try.underlying35 rfl (by kernel_rfl) rfl rfl) rfl ?_
  refine vl_det (det_load_blk (by kernel_rfl) rfl (by repeat (first | exact .hd | apply Sel.tl)) rfl) rfl ?_
  refine vl_det (det_makeFunc rfl rfl) rfl ?_
  refine vl_call co33 rfl ((split_d co34 collects1 txt (ws := []) (by simp) (by omega)).perm ((pu1 (pu0 (pu0 (.refl _)))))) rfl ?_
  rintro _ _ ⟨rfl, A7, c7, hLL⟩
  obtain rfl := hLL.symm
  refine vl_end [(1, _), (3, _)] ⟨rfl, rfl, trivial⟩ ?_
  refine then_next ?_
  refine vc_seq ?_
  refine vc_region ?_
  refine vl_det (det_fieldAddr_ Try.underlying35 rfl (by kernel_rfl) rfl rfl) rfl ?_
  refine vl_det (det_load_blk (by kernel_rfl) rfl (by repeat (first | exact .hd | apply Sel.tl)) rfl) rfl ?_
  refine vl_det (det_makeFunc rfl rfl) rfl ?_
  refine vl_call co33 rfl (split_d co35 collects2 src (by simp; omega) (by omega)) rfl ?_
  rintro _ _ ⟨rfl, A11, c11, hLL⟩
  obtain rfl := hLL.symm
  have e : ([] ++ List.map (fun t => t) (wordsL txt)) ++ List.map (fun t => 64 :: t) (wordsL src) = rawT txt src := by simp [rawT]
  rw [e]
  refine vl_end [(3, _)] ⟨rfl, trivial⟩ ?_
  refine then_next ?_
  refine vc_seq ?_
  refine vc_region ?_
  refine vl_det (det_load_blk (by kernel_rfl) rfl (by repeat (first | exact .hd | apply Sel.tl)) rfl) rfl ?_
  refine vl_call co36 rfl ((sort_d (l := rawT txt src) (by omega)).perm ((pu1 (pu0 (pu0 (.refl _)))))) rfl ?_
  rintro _ _ ⟨rfl, hLL⟩
  obtain rfl := hLL.symm
  rw [show (rawT txt src).length = ((rawT txt src).mergeSort leS).length from (List.length_mergeSort _).symm]
  refine vl_end [(3, _)] ⟨rfl, trivial⟩ ?_
  refine then_next ?_
  refine vc_seq ?_
  refine vc_region ?_
  refine vl_det (det_load_blk (by kernel_rfl) rfl (by repeat (first | exact .hd | apply Sel.tl)) rfl) rfl ?_
  refine vl_call co37 rfl (compact_d (l := (rawT txt src).mergeSort leS) (by rw [List.length_mergeSort]; omega)) rfl ?_
  rintro _ _ ⟨rfl, hLL⟩
  obtain rfl := hLL.symm
  refine vl_det (det_assign rfl) rfl ?_
  refine vl_end [(2, _)] ⟨rfl, trivial⟩ ?_
  refine then_next ?_
  refine vc_ret ?_
  refine ret_wk (L' := .own 9 1 A11 (termsL txt src).length c11 (strs (termsL txt src)) :: F) (.cons (.skip (.skip (.refl _)))) ?_
  refine ret1 rfl rfl ?_
  exact ⟨A11, c11, rfl, rfl⟩
end Go.Proofs.Ytpamjobiohbibaa

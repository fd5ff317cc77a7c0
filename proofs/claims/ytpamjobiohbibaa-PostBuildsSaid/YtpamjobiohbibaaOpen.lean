/-
  How arguments that can be read as data are opened into plain lists and numbers. No condition.
-/
import Derived.Test.YtpamjobiohbibaaBase
import Derived.ProofKit
import Derived.OpenShut
import Derived.ShutString
import Derived.ChangeOld
import Derived.Deep.Slices
namespace Go.Proofs.Ytpamjobiohbibaa
open Go.RowKit Go.ChangeShapes Go.WideShapes Go.ChangeAt

/-- whatever reads at type t is 'F x' for some x that is fine -/
def DecT (P : Program) (w : World) (t : TypeId) {α : Type} (F : α → List Value) (Ok : α → Prop) : Prop :=
  ∀ (H : Type) (enc : TypeId × Value → H) (n : Nat) (cs : List Value) (y : DataW H × List MemPlace),
    DataW.trod enc P w 0 (fun _ => true) true n t cs = some y → ∃ x, cs = F x ∧ Ok x

section
variable {P : Program} {w : World} {t : TypeId}
theorem dec_u8 (ht : P.underlying t = some (.int .u8)) : DecT P w t (fun b : UInt8 => [.int .u8 (b.toNat : Int)]) (fun _ => True) := by
  intro H enc n cs y h
  obtain ⟨m, rfl, _, hw⟩ := DataW.trod_int ht h
  have hb := bounds_u8 hw
  refine ⟨UInt8.ofNat m.toNat, ?_, trivial⟩
  have e : (UInt8.ofNat m.toNat).toNat = m.toNat := by simp; omega
  dsimp only; rw [e, Int.toNat_of_nonneg hb.1]
theorem dec_u16 (ht : P.underlying t = some (.int .u16)) : DecT P w t (fun x : Nat => [.int .u16 (x : Int)]) (fun x => x < 65536) := by
  intro H enc n cs y h
  obtain ⟨m, rfl, _, hw⟩ := DataW.trod_int ht h
  have hb := bounds_u16 hw
  exact ⟨m.toNat, by dsimp only; rw [Int.toNat_of_nonneg hb.1], by omega⟩
theorem dec_u64 (ht : P.underlying t = some (.int .u64)) : DecT P w t (fun x : Nat => [.int .u64 (x : Int)]) (fun x => x < 18446744073709551616) := by
  intro H enc n cs y h
  obtain ⟨m, rfl, _, hw⟩ := DataW.trod_int ht h
  have hb := bounds_u64 hw
  exact ⟨m.toNat, by dsimp only; rw [Int.toNat_of_nonneg hb.1], by omega⟩
theorem dec_int (ht : P.underlying t = some (.int .i64)) : DecT P w t (fun x : Int => [.int .i64 x]) (fun x => -9223372036854775808 ≤ x ∧ x ≤ 9223372036854775807) := by
  intro H enc n cs y h
  obtain ⟨m, rfl, _, hw⟩ := DataW.trod_int ht h
  exact ⟨m, rfl, bounds_i64 hw⟩
theorem dec_bool (ht : P.underlying t = some .bool) : DecT P w t (fun b : Bool => [.bool b]) (fun _ => True) := by
  intro H enc n cs y h
  obtain ⟨b, rfl, _⟩ := DataW.trod_bool ht h
  exact ⟨b, rfl, trivial⟩
theorem dec_string (ht : P.underlying t = some .string) : DecT P w t (fun s : ByteArray => [.string s]) (fun s => s.size ≤ maxLen) := by
  intro H enc n cs y h
  obtain ⟨s, rfl, _, hs⟩ := DataW.trod_string ht h
  exact ⟨s, rfl, hs⟩
theorem flatMap_get {α : Type} {F : α → List Value} {size : Nat} (hF : ∀ x, (F x).length = size) : ∀ (L : List α) (i j : Nat), j < size → (L.flatMap F)[i * size + j]? = (L[i]?).bind fun x => (F x)[j]? := by
  intro L
  induction L with
  | nil => intro i j _; simp
  | cons x L ih =>
    intro i j hj
    rw [List.flatMap_cons]
    rcases i with _ | i
    · rw [List.getElem?_append_left (by rw [hF]; omega)]; simp
    · rw [List.getElem?_append_right (by rw [hF, Nat.succ_mul]; omega), hF, show (i + 1) * size + j - size = i * size + j by rw [Nat.succ_mul]; omega, ih i j hj]
      simp
/-- a slice whose elements are opened by 'he' -/
theorem dec_slice {e : TypeId} {α : Type} {F : α → List Value} {Ok : α → Prop} {size : Nat} (ht : P.underlying t = some (.slice e)) (hc : P.cellsOf e = size) (hs : 0 < size) (hF : ∀ x, (F x).length = size) (he : DecT P w e F Ok) :
    DecT P w t (fun x : Value × List α => [x.1]) (fun x => Rd w w.heap.size size x.1 x.2.length (x.2.flatMap F) ∧ (∀ y ∈ x.2, Ok y) ∧ x.2.length ≤ maxLen) := by
  intro H enc n cs y h
  rcases Deep.open_slice ht h with ⟨rfl, _⟩ | ⟨a, len, cap, m, n', D, Pl, rfl, _, hl, hm, hmm, _, hel⟩
  · exact ⟨(.slice none 0 0, []), rfl, Rd.nil_, by simp, by simp⟩
  · simp only [if_true] at hmm
    have hex : ∀ i, i < len → ∃ x, w.cells? 0 (a.add (i * P.cellsOf e)) (P.cellsOf e) = some (F x) ∧ Ok x := by
      intro i hi
      obtain ⟨cs', h1, h2⟩ := hel i (by omega)
      obtain ⟨x, rfl, ho⟩ := he H enc _ _ _ h2
      exact ⟨x, h1, ho⟩
    have hlist : ∀ k, k ≤ len → ∃ L : List α, L.length = k ∧ ∀ i x, L[i]? = some x → w.cells? 0 (a.add (i * P.cellsOf e)) (P.cellsOf e) = some (F x) ∧ Ok x := by
      intro k
      induction k with
      | zero => intro _; exact ⟨[], rfl, by simp⟩
      | succ k ih =>
        intro hk
        obtain ⟨L, hL, hLi⟩ := ih (by omega)
        obtain ⟨x, hx⟩ := hex k (by omega)
        refine ⟨L ++ [x], by simp [hL], fun i z hz => ?_⟩
        rw [List.getElem?_append] at hz
        split at hz
        · exact hLi i z hz
        · rename_i hlt
          have : i = k := by
            have := (List.getElem?_eq_some_iff.1 hz).1
            simp at this; omega
          subst this
          simp [hL] at hz; subst hz; exact hx
    obtain ⟨L, hL, hLi⟩ := hlist len (Nat.le_refl _)
    refine ⟨(.slice (some a) len cap, L), rfl, ⟨some a, cap, by rw [hL], by rw [hL]; exact hl, ?_, fun hn => ⟨a, rfl, ?_, ?_⟩⟩, ?_, by show L.length ≤ maxLen; omega⟩
    · show (L.flatMap F).length = L.length * size
      clear hL hLi
      induction L with
      | nil => simp
      | cons x L ih => simp [ih, hF, Nat.succ_mul, Nat.add_comm]
    · obtain ⟨x, hx⟩ : ∃ x, L[0]? = some x := by
        rcases L with _ | ⟨x, L⟩
        · simp at hn
        · exact ⟨x, rfl⟩
      have := (hLi 0 x hx).1
      rw [hc] at this
      have := (World.cells?_some this).2.2 0 hs
      simp [Addr.add] at this
      rcases Nat.lt_or_ge a.block w.heap.size with hlt | hge
      · exact hlt
      · rw [World.cell?, Array.getElem?_eq_none hge] at this
        have h0 := hF x
        have : (F x)[0]? = none := by simpa using this.symm
        have := List.getElem?_eq_none_iff.1 this
        omega
    · intro j u hu
      have hj : j = j / size * size + j % size := by have := Nat.div_add_mod j size; rw [Nat.mul_comm] at this; omega
      rw [hj, flatMap_get hF L _ _ (Nat.mod_lt _ hs)] at hu
      obtain ⟨x, hx, hu⟩ := Option.bind_eq_some_iff.1 hu
      have hcx := (hLi _ x hx).1
      rw [hc] at hcx
      have := (World.cells?_some hcx).2.2 (j % size) (Nat.mod_lt _ hs)
      rw [add_of_add, ← hj] at this
      rw [this, hu]
    · intro y hy
      obtain ⟨i, hi⟩ := List.getElem?_of_mem hy
      exact (hLi i y hi).2
theorem flatMap_bv (l : List UInt8) : l.flatMap (fun b : UInt8 => [Value.int .u8 (b.toNat : Int)]) = bv l := by
  induction l with
  | nil => rfl
  | cons x l ih => simp [bv] at ih ⊢; exact ih
end

section
variable {P : Program} {w : World} {t : TypeId}
/-- an argument that is opened -/
theorem DecT.arg {α : Type} {F : α → List Value} {Ok : α → Prop} (hd : DecT P w t F Ok) {H : Type} {enc : TypeId × Value → H} {v : Value} {d : DataW H} {ps : List MemPlace}
    (h : DataW.Trod enc P w 0 (fun _ => true) true t v d ps) : ∃ x, v.cells.toList = F x ∧ Ok x := by
  obtain ⟨n, h⟩ := h
  exact hd H enc n _ _ h
theorem cells_slice {v : Value} {x : Value} (a : Option Addr) (n c : Nat) (hv : v = .slice a n c) (h : v.cells.toList = [x]) : x = v := by
  subst hv; simp [Value.cells] at h; exact h.symm
end

section
variable {P : Program} {w : World} {t : TypeId}
/-- a struct of three fields of one cell each -/
theorem dec_struct3 {α β γ : Type} {f0 f1 f2 : Field} {F0 : α → Value} {F1 : β → Value} {F2 : γ → Value} {O0 : α → Prop} {O1 : β → Prop} {O2 : γ → Prop}
    (ht : P.underlying t = some (.struct #[f0, f1, f2])) (hc : P.cellsOf t = 3) (h0 : f0.offset = 0 ∧ P.cellsOf f0.type = 1) (h1 : f1.offset = 1 ∧ P.cellsOf f1.type = 1) (h2 : f2.offset = 2 ∧ P.cellsOf f2.type = 1)
    (d0 : DecT P w f0.type (fun x => [F0 x]) O0) (d1 : DecT P w f1.type (fun x => [F1 x]) O1) (d2 : DecT P w f2.type (fun x => [F2 x]) O2) :
    DecT P w t (fun x : α × β × γ => [F0 x.1, F1 x.2.1, F2 x.2.2]) (fun x => O0 x.1 ∧ O1 x.2.1 ∧ O2 x.2.2) := by
  intro H enc n cs y h
  obtain ⟨xs, n', _, _, hl, hx, hf⟩ := DataW.trod_struct ht h
  rw [hc] at hl
  obtain ⟨c0, c1, c2, rfl⟩ : ∃ c0 c1 c2, cs = [c0, c1, c2] := by
    match cs, hl with
    | [c0, c1, c2], _ => exact ⟨c0, c1, c2, rfl⟩
  obtain ⟨y0, y1, y2, rfl⟩ : ∃ y0 y1 y2, xs = [y0, y1, y2] := by
    match xs, hx with
    | [y0, y1, y2], _ => exact ⟨y0, y1, y2, rfl⟩
  have g0 := hf 0 f0 rfl
  have g1 := hf 1 f1 rfl
  have g2 := hf 2 f2 rfl
  rw [h0.1, h0.2] at g0
  rw [h1.1, h1.2] at g1
  rw [h2.1, h2.2] at g2
  obtain ⟨a, ea, oa⟩ := d0 H enc _ _ _ g0
  obtain ⟨b, eb, ob⟩ := d1 H enc _ _ _ g1
  obtain ⟨c, ec, oc⟩ := d2 H enc _ _ _ g2
  simp at ea eb ec
  exact ⟨(a, b, c), by simp [ea, eb, ec], oa, ob, oc⟩
/-- a struct of four fields of one cell each -/
theorem dec_struct4 {α β γ δ : Type} {f0 f1 f2 f3 : Field} {F0 : α → Value} {F1 : β → Value} {F2 : γ → Value} {F3 : δ → Value} {O0 : α → Prop} {O1 : β → Prop} {O2 : γ → Prop} {O3 : δ → Prop}
    (ht : P.underlying t = some (.struct #[f0, f1, f2, f3])) (hc : P.cellsOf t = 4) (h0 : f0.offset = 0 ∧ P.cellsOf f0.type = 1) (h1 : f1.offset = 1 ∧ P.cellsOf f1.type = 1) (h2 : f2.offset = 2 ∧ P.cellsOf f2.type = 1) (h3 : f3.offset = 3 ∧ P.cellsOf f3.type = 1)
    (d0 : DecT P w f0.type (fun x => [F0 x]) O0) (d1 : DecT P w f1.type (fun x => [F1 x]) O1) (d2 : DecT P w f2.type (fun x => [F2 x]) O2) (d3 : DecT P w f3.type (fun x => [F3 x]) O3) :
    DecT P w t (fun x : α × β × γ × δ => [F0 x.1, F1 x.2.1, F2 x.2.2.1, F3 x.2.2.2]) (fun x => O0 x.1 ∧ O1 x.2.1 ∧ O2 x.2.2.1 ∧ O3 x.2.2.2) := by
  intro H enc n cs y h
  obtain ⟨xs, n', _, _, hl, hx, hf⟩ := DataW.trod_struct ht h
  rw [hc] at hl
  obtain ⟨c0, c1, c2, c3, rfl⟩ : ∃ c0 c1 c2 c3, cs = [c0, c1, c2, c3] := by
    match cs, hl with
    | [c0, c1, c2, c3], _ => exact ⟨c0, c1, c2, c3, rfl⟩
  obtain ⟨y0, y1, y2, y3, rfl⟩ : ∃ y0 y1 y2 y3, xs = [y0, y1, y2, y3] := by
    match xs, hx with
    | [y0, y1, y2, y3], _ => exact ⟨y0, y1, y2, y3, rfl⟩
  have g0 := hf 0 f0 rfl
  have g1 := hf 1 f1 rfl
  have g2 := hf 2 f2 rfl
  have g3 := hf 3 f3 rfl
  rw [h0.1, h0.2] at g0
  rw [h1.1, h1.2] at g1
  rw [h2.1, h2.2] at g2
  rw [h3.1, h3.2] at g3
  obtain ⟨a, ea, oa⟩ := d0 H enc _ _ _ g0
  obtain ⟨b, eb, ob⟩ := d1 H enc _ _ _ g1
  obtain ⟨c, ec, oc⟩ := d2 H enc _ _ _ g2
  obtain ⟨d, ed, od⟩ := d3 H enc _ _ _ g3
  simp at ea eb ec ed
  exact ⟨(a, b, c, d), by simp [ea, eb, ec, ed], oa, ob, oc, od⟩
end
end Go.Proofs.Ytpamjobiohbibaa

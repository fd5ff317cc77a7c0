/-
  Texts of one proof, joined: part 1. No condition.
-/
import Derived.WalkKit
import Derived.WalkLawsBesides
import Derived.WalkSpells
import Derived.Below
import Derived.Laws.OwnMore
import Derived.Deep.AppendLies
import Derived.Deep.Draws
import Derived.Maps.AppendAt
import Derived.Lib.Hide
import Derived.Laws.BytesArg
import Derived.Deep.QuietTactic
import Derived.BigQuiet
import Derived.Deep.LoopGhost
namespace Go.Proofs.Ytakokckokchacaa
open Go.RowKit

/-- bytes as_ values -/
def bv (l : List UInt8) : List Value := l.map fun b => .int .u8 (b.toNat : Int)
@[simp] theorem bv_nil : bv [] = [] := rfl
@[simp] theorem bv_append (l k : List UInt8) : bv (l ++ k) = bv l ++ bv k := by simp [bv]
@[simp] theorem bv_length (l : List UInt8) : (bv l).length = l.length := by simp [bv]
theorem bv_one (l : List UInt8) : ∀ u ∈ bv l, u.oneCell' = true := by
  intro u hu; obtain ⟨b, _, rfl⟩ := List.mem_map.1 hu; rfl

theorem block_of_add (a : Addr) (n : Nat) : (a.add n).block = a.block := by unfold Addr.add; split <;> rfl
theorem add_of_add (a : Addr) (i j : Nat) : (a.add i).add j = a.add (i + j) := by
  unfold Addr.add
  by_cases hi : i = 0 <;> by_cases hj : j = 0 <;> simp [hi, hj, Nat.add_assoc]

/-- slice value v has n elements, of 'size' cells each, whose cells are xs, in blocks below B -/
def Rd (w : World) (B size : Nat) (v : Value) (n : Nat) (xs : List Value) : Prop :=
  ∃ A c, v = .slice A n c ∧ n ≤ c ∧ xs.length = n * size ∧ (0 < n → ∃ ad, A = some ad ∧ ad.block < B ∧ ∀ j u, xs[j]? = some u → w.cell? (ad.add j) = some u)

section
variable {w w' : World} {B B' size n : Nat} {v : Value} {xs : List Value}
theorem Rd.nil_ : Rd w B size (.slice none 0 0) 0 [] := ⟨none, 0, rfl, Nat.le_refl _, by simp, fun h => absurd h (by omega)⟩
theorem Rd.keep (h : Rd w B size v n xs) (hk : ∀ p : Addr, p.block < B → w'.cell? p = w.cell? p) : Rd w' B size v n xs := by
  obtain ⟨A, c, rfl, hc, hl, hr⟩ := h
  refine ⟨A, c, rfl, hc, hl, fun hn => ?_⟩
  obtain ⟨ad, e, hb, hcell⟩ := hr hn
  exact ⟨ad, e, hb, fun j u hu => (hk _ (by rw [block_of_add]; exact hb)).trans (hcell j u hu)⟩
theorem Rd.more (h : Rd w B size v n xs) (hB : B ≤ B') : Rd w B' size v n xs := by
  obtain ⟨A, c, rfl, hc, hl, hr⟩ := h
  refine ⟨A, c, rfl, hc, hl, fun hn => ?_⟩
  obtain ⟨ad, e, hb, hcell⟩ := hr hn
  exact ⟨ad, e, by omega, hcell⟩
theorem Rd.below (h : Rd w B size v n xs) (hb : Below B w w') : Rd w' B size v n xs := h.keep fun _ hp => hb.cell hp
end

theorem Rd.form {w : World} {B n size : Nat} {v : Value} {xs : List Value} (h : Rd w B size v n xs) : ∃ A c, v = .slice A n c ∧ n ≤ c := by
  obtain ⟨A, c, hv, hc, _⟩ := h
  exact ⟨A, c, hv, hc⟩
/-- 's[k:]' -/
theorem Rd.cut {w : World} {B n c k size : Nat} {A : Option Addr} {xs : List Value} (h : Rd w B size (.slice A n c) n xs) (hk : k ≤ n) :
    Rd w B size (.slice (if c = k then A else A.map (·.add (k * size))) (n - k) (c - k)) (n - k) (xs.drop (k * size)) := by
  obtain ⟨A', c', hv, hc, hl, hr⟩ := h
  simp only [Value.slice.injEq] at hv
  obtain ⟨rfl, _, rfl⟩ := hv
  refine ⟨_, _, rfl, by omega, by rw [List.length_drop, hl, Nat.sub_mul], fun hn => ?_⟩
  obtain ⟨ad, rfl, hb, hcell⟩ := hr (by omega)
  rw [if_neg (by omega)]
  refine ⟨ad.add (k * size), rfl, by rw [block_of_add]; exact hb, fun j u hu => ?_⟩
  rw [add_of_add]
  exact hcell _ u (by rw [← hu, List.getElem?_drop])
/-- 's[:k]' -/
theorem Rd.head_ {w : World} {B n c k size : Nat} {A : Option Addr} {xs : List Value} (h : Rd w B size (.slice A n c) n xs) (hk : k ≤ n) :
    Rd w B size (.slice A k c) k (xs.take (k * size)) := by
  obtain ⟨A', c', hv, hc, hl, hr⟩ := h
  simp only [Value.slice.injEq] at hv
  obtain ⟨rfl, _, rfl⟩ := hv
  refine ⟨_, _, rfl, by omega, by rw [List.length_take, hl]; exact Nat.min_eq_left (Nat.mul_le_mul_right _ hk), fun hn => ?_⟩
  obtain ⟨ad, rfl, hb, hcell⟩ := hr (by omega)
  refine ⟨ad, rfl, hb, fun j u hu => hcell j u ?_⟩
  rw [List.getElem?_take] at hu
  split at hu
  · exact hu
  · cases hu
@[simp] theorem bv_drop (l : List UInt8) (k : Nat) : (bv l).drop k = bv (l.drop k) := by simp [bv]
@[simp] theorem bv_take (l : List UInt8) (k : Nat) : (bv l).take k = bv (l.take k) := by simp [bv]

/-- what the program's table says of a slice type and its elements -/
structure SlT (P : Program) (t e : TypeId) (size bytes : Nat) (z : Value) : Prop where
  ht : P.underlying t = some (.slice e)
  hi : ∃ i, P.info? e = some i ∧ i.zero = some z ∧ i.size = size ∧ i.bytes = bytes
  hz : z.cells.size = size
  hs : 0 < size
theorem slT_of {P : Program} {t e : TypeId} {size bytes : Nat} {z : Value} (ht : P.underlying t = some (.slice e))
    (h : (P.info? e).map (fun i => (i.zero, i.size, i.bytes)) = some (some z, size, bytes)) (hz : z.cells.size = size) (hs : 0 < size) : SlT P t e size bytes z :=
  ⟨ht, info_parts h, hz, hs⟩

/-- one new cell, just laid, reads as_ the list of its value -/
theorem Rd.box (w : World) (e : TypeId) (u : Value) : Rd (w.alloc (.cells #[u] e)) (w.heap.size + 1) 1 (.slice (some ⟨w.heap.size, 0, none⟩) 1 1) 1 [u] :=
  ⟨_, 1, rfl, Nat.le_refl _, rfl, fun _ => ⟨_, rfl, Nat.lt_succ_self _, fun j x hx => by
    rcases j with _ | j
    · simp at hx; subst hx; simp [Addr.add]
    · simp at hx⟩⟩

/-- bytes made a text -/
theorem run_bstr {P : Program} {src dst e : TypeId} (hs : P.underlying src = some (.slice e)) (he : P.underlying e = some (.int .u8)) (hd : P.underlying dst = some .string)
    {w : World} {B : Nat} {v : Value} {n : Nat} {l : List UInt8} (h : Rd w B 1 v n (bv l)) : (convert src dst v).run P w = .ok (.string (ByteArray.mk l.toArray)) w := by
  obtain ⟨A, c, rfl, hc, hl, hr⟩ := h
  simp at hl
  rcases Nat.eq_zero_or_pos n with h0 | h0
  · have hle : l = [] := List.eq_nil_of_length_eq_zero (by omega)
    subst hle
    subst h0
    rcases A with _ | ad
    · rw [run_convert_bytes_nil w src e hs he 0 c dst hd]; rfl
    · rw [run_convert_bytes_string w src dst e _ 0 c hs he hd, run_bytesToString w ad 0 c [] (by simpa using run_loadCells_list (P := P) w ad [] (by simp))]; rfl
  · obtain ⟨ad, rfl, _, hcell⟩ := hr h0
    have hb : bv l = (l.map fun b => (b.toNat : Int)).map (Value.int .u8) := by simp [bv]
    have hlo := run_loadCells_list (P := P) w ad (bv l) hcell
    rw [bv_length, hl, hb] at hlo
    rw [run_convert_bytes_string w src dst e _ n c hs he hd, run_bytesToString w ad n c _ hlo, foldl_push_bytes]
    congr 2
    have : (List.map (fun n => UInt8.ofNat n.toNat) (List.map (fun b : UInt8 => (b.toNat : Int)) l)) = l := by
      rw [List.map_map]
      conv => rhs; rw [← List.map_id l]
      refine List.map_congr_left fun b _ => ?_
      simp
    rw [this]
    simp [ByteArray.empty, ByteArray.emptyWithCapacity]
    rfl
/-- block g is just the cells cs of element type t, none of them frozen -/
def Blk (w : World) (g : Nat) (t : TypeId) (cs : Array Value) : Prop := w.heap[g]? = some (.cells cs t (0, 0))
section
variable {w w' : World} {g : Nat} {t : TypeId} {cs : Array Value}
theorem Blk.lt (h : Blk w g t cs) : g < w.heap.size := by
  rcases Nat.lt_or_ge g w.heap.size with hlt | hge
  · exact hlt
  · unfold Blk at h; rw [Array.getElem?_eq_none hge] at h; cases h
theorem Blk.cell (h : Blk w g t cs) (i : Nat) : w.cell? ⟨g, i, none⟩ = cs[i]? := cell_of_row w g i cs t (0, 0) h
theorem Blk.frozen (h : Blk w g t cs) (i : Nat) : w.frozen? ⟨g, i, none⟩ = false := by
  unfold Blk at h
  simp [World.frozen?, h]
theorem Blk.new (w : World) (t : TypeId) (cs : Array Value) : Blk (w.alloc (.cells cs t)) w.heap.size t cs := heap_alloc_new w _
theorem Blk.drew (h : Blk w g t cs) : Blk w.drew g t cs := h
theorem Blk.drewN (h : Blk w g t cs) (n : Nat) : Blk (w.drewN n) g t cs := h
theorem Blk.alloc (h : Blk w g t cs) (o : Obj) : Blk (w.alloc o) g t cs := (Below.heap_alloc w o g h.lt).trans h
theorem Blk.set_ (h : Blk w g t cs) (i : Nat) (u : Value) : Blk (w.setCell ⟨g, i, none⟩ u) g t (cs.setIfInBounds i u) := by
  unfold Blk at h ⊢
  simp [World.setCell, Array.getElem?_modify, h]
theorem Blk.below {B : Nat} (h : Blk w g t cs) (hb : Below B w w') (hg : g < B) : Blk w' g t cs := (hb.block g hg).trans h
theorem Blk.grown {row : Option Nat} (h : Blk w g t cs) (hb : w.grownBy w' row) (hg : some g ≠ row) : Blk w' g t cs := (hb.block g h.lt hg).trans h
end
theorem only_setCell {a w : World} {g : Nat} (h : a.grownBy w (some g)) {p : Addr} (hp : p.block = g ∨ a.heap.size ≤ p.block) (u : Value) : a.grownBy (w.setCell p u) (some g) :=
  ⟨h.os, h.tape, h.output, by simpa [World.setCell] using h.size, fun i hi hne => (Below.heap_setCell w p u i (by
    rintro rfl
    rcases hp with hp | hp
    · exact hne (by rw [hp])
    · omega)).trans (h.block i hi hne)⟩
theorem Below.only {B g : Nat} {a w w' : World} (h : Below B a w) (hg : w.grownBy w' (some g)) (hB : B ≤ g) (hBs : B ≤ w.heap.size) : Below B a w' := h.grown hg hBs fun k hk => by injection hk with hk; omega
theorem Rd.grown {B size n g : Nat} {w w' : World} {v : Value} {xs : List Value} (h : Rd w B size v n xs) (hg : w.grownBy w' (some g)) (hB : B ≤ g) (hs : B ≤ w.heap.size) : Rd w' B size v n xs :=
  h.keep fun p hp => World.cell?_of_block (hg.block p.block (by omega) (fun e => by injection e with e; omega))
end Go.Proofs.Ytakokckokchacaa
namespace Go.Proofs.Ytakokckokchacaa
open Go.RowKit
set_option linter.unusedVariables false

/-! ## Frames -/
abbrev Fr := List (Nat × Value)
def look (t : Nat) : Fr → Option Value
  | [] => none
  | (s, v) :: r => bif Nat.beq s t then some v else look t r
def ev (fr : Fr) : Operand → Option Value
  | .tmp t => look t fr
  | .const v => some v
  | .global g => some (.pointer (some ⟨g, 0, none⟩))
  | .func f => some (.func (.func f) #[] #[])
def evs (fr : Fr) : List Operand → Option (List Value)
  | [] => some []
  | x :: r => match ev fr x, evs fr r with
    | some v, some vs => some (v :: vs)
    | _, _ => none
/-- what is known of the slots -/
structure Agr (N : Nat) (fr : Fr) (a : Act) : Prop where
  defers : a.defers = []
  size : a.tmps.size = N
  at_ : ∀ t v, look t fr = some v → a.tmps[t]? = some v
theorem Agr.tmp {N : Nat} {fr : Fr} {a : Act} (h : Agr N fr a) {x : Operand} {v : Value} (he : ev fr x = some v) : a.eval x = v := by
  cases x with
  | tmp t =>
    have := h.at_ t v he
    unfold Act.eval
    simp only [Array.getD_eq_getD_getElem?, this, Option.getD_some]
  | const u => exact Option.some.inj he
  | global g => exact Option.some.inj he
  | func f => exact Option.some.inj he
theorem Agr.evs {N : Nat} {fr : Fr} {a : Act} (h : Agr N fr a) : ∀ {xs : List Operand} {vs : List Value}, evs fr xs = some vs → xs.map a.eval = vs
  | [], _, he => by simpa [Proofs.Ytakokckokchacaa.evs] using he
  | x :: r, vs, he => by
    unfold Proofs.Ytakokckokchacaa.evs at he
    split at he
    · rename_i v vs' h1 h2
      injection he with he
      subst he
      simp [h.tmp h1, h.evs h2]
    · cases he
theorem Agr.put {N : Nat} {fr : Fr} {a : Act} (h : Agr N fr a) {d : Nat} (hd : Nat.blt d N = true) (v : Value) : Agr N ((d, v) :: fr) (a.put (some d) v) := by
  refine ⟨h.defers, by simp [Act.put, h.size], fun t u ht => ?_⟩
  have hdn : d < N := by simpa using hd
  unfold look at ht
  by_cases e : d = t
  · subst e
    simp at ht
    subst ht
    simp [Act.put, h.size, hdn]
  · have : Nat.beq d t = false := by
      cases hb : Nat.beq d t with
      | false => rfl
      | true => exact absurd (Nat.eq_of_beq_eq_true hb) e
    rw [this] at ht
    simp only [cond_false] at ht
    have := h.at_ t u ht
    simp [Act.put, e, this]
def Sub (fr : Fr) : Fr → Prop
  | [] => True
  | (t, v) :: r => look t fr = some v ∧ Sub fr r
theorem Sub.look {fr : Fr} : ∀ {fr' : Fr}, Sub fr fr' → ∀ t v, look t fr' = some v → look t fr = some v
  | [], _, t, v, h => by cases h
  | (s, u) :: r, hs, t, v, h => by
    unfold Proofs.Ytakokckokchacaa.look at h
    cases hb : Nat.beq s t with
    | true =>
      rw [hb] at h
      simp only [cond_true, Option.some.injEq] at h
      have := Nat.eq_of_beq_eq_true hb
      subst this; subst h
      exact hs.1
    | false =>
      rw [hb] at h
      exact hs.2.look t v h
theorem Agr.sub {N : Nat} {fr fr' : Fr} {a : Act} (h : Agr N fr a) (hs : Sub fr fr') : Agr N fr' a := ⟨h.defers, h.size, fun t v ht => h.at_ t v (hs.look t v ht)⟩

/-! ## Pieces of memory -/
inductive Ch where
  | own (e : TypeId) (size : Nat) (A : Option Addr) (n c : Nat) (xs : List Value)
  | blk (g : Nat) (t : TypeId) (cs : List Value)
  | obj (g : Nat) (o : Obj)
def Ch.fp : Ch → Option Nat
  | .own _ _ A _ c _ => if c = 0 then none else A.map (·.block)
  | .blk g _ _ => some g
  | .obj g _ => some g
def OwnR (w : World) (B : Nat) (e : TypeId) (size : Nat) (A : Option Addr) (n c : Nat) (xs : List Value) : Prop :=
  xs.length = n * size ∧ n ≤ c ∧ (c = 0 ∨ ∃ g cur, A = some ⟨g, 0, none⟩ ∧ B ≤ g ∧ w.heap[g]? = some (.cells cur e (0, 0)) ∧ c ≤ maxLen ∧ cur.size = c * size ∧ cur.toList.take (n * size) = xs)
def Ch.holds (B : Nat) (w : World) : Ch → Prop
  | .own e size A n c xs => OwnR w B e size A n c xs
  | .blk g t cs => B ≤ g ∧ Blk w g t cs.toArray
  | .obj g o => B ≤ g ∧ w.heap[g]? = some o
def Ch.apart (c d : Ch) : Prop := c.fp = none ∨ c.fp ≠ d.fp
structure Cx where
  P : Program
  N : Nat
  B : Nat
  w0 : World
/-- the pieces are there, apart from each other, above B; below B nothing has turned -/
structure SL (B : Nat) (w0 : World) (L : List Ch) (w : World) : Prop where
  below : Below B w0 w
  base : B ≤ w.heap.size
  all : ∀ c ∈ L, c.holds B w
  apart : L.Pairwise Ch.apart
theorem Ch.apart.symm {c d : Ch} (h : c.apart d) : d.apart c := by
  rcases h with h | h
  · by_cases hd : d.fp = none
    · exact .inl hd
    · exact .inr (by rw [h]; exact hd)
  · by_cases hd : d.fp = none
    · exact .inl hd
    · exact .inr (Ne.symm h)
theorem Ch.holds.lt {B : Nat} {w : World} {c : Ch} (h : c.holds B w) {g : Nat} (hg : c.fp = some g) : B ≤ g ∧ g < w.heap.size := by
  cases c with
  | own e size A n c xs =>
    obtain ⟨_, _, h⟩ := h
    simp only [Ch.fp] at hg
    by_cases hc : c = 0
    · rw [if_pos hc] at hg; cases hg
    · rw [if_neg hc] at hg
      obtain ⟨g', cur, rfl, h1, h2, _⟩ := h.resolve_left hc
      simp at hg
      subst hg
      exact ⟨h1, (Array.getElem?_eq_some_iff.1 h2).1⟩
  | blk g' t cs =>
    simp only [Ch.fp, Option.some.injEq] at hg
    subst hg
    exact ⟨h.1, h.2.lt⟩
  | obj g' o =>
    simp only [Ch.fp, Option.some.injEq] at hg
    subst hg
    exact ⟨h.1, (Array.getElem?_eq_some_iff.1 h.2).1⟩
/-- a piece stays if its block stays -/
theorem Ch.holds.keep {B : Nat} {w w' : World} {c : Ch} (h : c.holds B w) (hk : ∀ g, c.fp = some g → w'.heap[g]? = w.heap[g]?) : c.holds B w' := by
  cases c with
  | own e size A n c xs =>
    obtain ⟨h1, h2, h3⟩ := h
    refine ⟨h1, h2, ?_⟩
    by_cases hc : c = 0
    · exact .inl hc
    · obtain ⟨g, cur, rfl, k1, k2, k3⟩ := h3.resolve_left hc
      refine .inr ⟨g, cur, rfl, k1, ?_, k3⟩
      rw [hk g (by simp [Ch.fp, hc])]; exact k2
  | blk g t cs =>
    refine ⟨h.1, ?_⟩
    unfold Blk
    rw [hk g rfl]; exact h.2
  | obj g o => exact ⟨h.1, by rw [hk g rfl]; exact h.2⟩
theorem Below.le_trans {B : Nat} {w0 w w' : World} {row : Option Nat} (h : Below B w0 w) (hg : w.grownBy w' row) (hb : B ≤ w.heap.size) (hr : ∀ g, row = some g → B ≤ g) : Below B w0 w' := h.grown hg hb hr
section
variable {B : Nat} {w0 w w' : World} {L L' : List Ch} {c c' d : Ch}
theorem SL.perm (h : SL B w0 L w) (hp : L.Perm L') : SL B w0 L' w :=
  ⟨h.below, h.base, fun c hc => h.all c (hp.mem_iff.2 hc), (hp.pairwise_iff (fun h => Ch.apart.symm h)).1 h.apart⟩
theorem SL.tail (h : SL B w0 (c :: L) w) : SL B w0 L w := ⟨h.below, h.base, fun d hd => h.all d (List.mem_cons_of_mem _ hd), h.apart.tail⟩
theorem SL.sub (h : SL B w0 L w) (hs : L'.Sublist L) : SL B w0 L' w := ⟨h.below, h.base, fun d hd => h.all d (hs.subset hd), h.apart.sublist hs⟩
theorem SL.head (h : SL B w0 (c :: L) w) : c.holds B w := h.all c List.mem_cons_self
/-- the first piece turns, the others stay -/
theorem SL.turn (h : SL B w0 (c :: L) w) (hg : w.grownBy w' c.fp) (hc : c'.holds B w') (hf : c'.fp = none ∨ c'.fp = c.fp ∨ ∃ g, c'.fp = some g ∧ w.heap.size ≤ g) : SL B w0 (c' :: L) w' := by
  have hap := List.pairwise_cons.1 h.apart
  refine ⟨h.below.grown hg h.base (fun k hk => (h.head.lt hk).1), Nat.le_trans h.base hg.size, fun d hd => ?_, List.pairwise_cons.2 ⟨fun d hd => ?_, hap.2⟩⟩
  · rcases List.mem_cons.1 hd with rfl | hd
    · exact hc
    · refine (h.tail.all d hd).keep fun g hg' => hg.block g ((h.tail.all d hd).lt hg').2 fun e => ?_
      rcases hap.1 d hd with h0 | h0
      · rw [h0] at e; cases e
      · exact h0 (e.symm.trans hg'.symm)
  · rcases hf with hf | hf | ⟨g, hf, hge⟩
    · exact .inl hf
    · rcases hap.1 d hd with h0 | h0
      · exact .inl (hf.trans h0)
      · exact .inr (hf ▸ h0)
    · refine .inr fun e => ?_
      have := ((h.tail.all d hd).lt (e.symm.trans hf)).2
      omega
/-- nothing that is there turns -/
theorem SL.grow (h : SL B w0 L w) (hg : w.grownBy w' none) : SL B w0 L w' :=
  ⟨h.below.grown hg h.base (fun k hk => by cases hk), Nat.le_trans h.base hg.size, fun d hd => (h.all d hd).keep fun g hg' => hg.block g ((h.all d hd).lt hg').2 (by simp), h.apart⟩
/-- a new piece, in a block that was not there -/
theorem SL.cons_new (h : SL B w0 L w) (hg : w.grownBy w' none) (hc : c'.holds B w') (hf : c'.fp = none ∨ ∃ g, c'.fp = some g ∧ w.heap.size ≤ g) : SL B w0 (c' :: L) w' := by
  have h' := h.grow hg
  refine ⟨h'.below, h'.base, fun d hd => ?_, List.pairwise_cons.2 ⟨fun d hd => ?_, h.apart⟩⟩
  · rcases List.mem_cons.1 hd with rfl | hd
    · exact hc
    · exact h'.all d hd
  · rcases hf with hf | ⟨g, hf, hge⟩
    · exact .inl hf
    · refine .inr fun e => ?_
      have := ((h.all d hd).lt (e.symm.trans hf)).2
      omega
theorem grownBy_drewN (w : World) (n : Nat) : w.grownBy (w.drewN n) none := ⟨rfl, rfl, rfl, Nat.le_refl _, fun _ _ _ => rfl⟩
theorem SL.drewN (h : SL B w0 L w) (n : Nat) : SL B w0 L (w.drewN n) := h.grow (grownBy_drewN w n)
theorem SL.drew (h : SL B w0 L w) : SL B w0 L w.drew := h.grow ⟨rfl, rfl, rfl, Nat.le_refl _, fun _ _ _ => rfl⟩
theorem SL.nil_ (w : World) : SL w.heap.size w [] w := ⟨Below.refl _ _, Nat.le_refl _, by simp, List.Pairwise.nil⟩
end
/-- where a piece lies in a list, and the list with another one in its place -/
inductive Sel : Ch → List Ch → (Ch → List Ch) → Prop where
  | hd {c : Ch} {L : List Ch} : Sel c (c :: L) (fun d => d :: L)
  | tl {b c : Ch} {L : List Ch} {f : Ch → List Ch} (h : Sel c L f) : Sel c (b :: L) (fun d => b :: f d)
theorem Sel.perm {c : Ch} {L : List Ch} {f : Ch → List Ch} (h : Sel c L f) : ∃ R, L.Perm (c :: R) ∧ ∀ d, (f d).Perm (d :: R) := by
  induction h with
  | @hd c L => exact ⟨L, .refl _, fun _ => .refl _⟩
  | @tl b c L f h ih =>
    obtain ⟨R, h1, h2⟩ := ih
    exact ⟨b :: R, (h1.cons b).trans (.swap ..), fun d => ((h2 d).cons b).trans (.swap ..)⟩
theorem Sel.mem {c : Ch} {L : List Ch} {f : Ch → List Ch} (h : Sel c L f) : c ∈ L := by
  obtain ⟨R, h1, _⟩ := h.perm
  exact h1.mem_iff.2 List.mem_cons_self
/-- a slice value reads as_ the list, whatever the world, while the pieces stay -/
def Bor (B : Nat) (w0 : World) (L : List Ch) (size : Nat) (v : Value) (n : Nat) (xs : List Value) : Prop := ∀ w, SL B w0 L w → Rd w w.heap.size size v n xs
section
variable {B : Nat} {w0 w w' : World} {L L' : List Ch} {c c' d : Ch} {size n k m : Nat} {v : Value} {xs : List Value}
theorem OwnR.rd {e : TypeId} {A : Option Addr} {c : Nat} (h : OwnR w B e size A n c xs) : Rd w w.heap.size size (.slice A n c) n xs := by
  obtain ⟨h1, h2, h3⟩ := h
  refine ⟨A, c, rfl, h2, h1, fun hn => ?_⟩
  obtain ⟨g, cur, rfl, k1, k2, k3, k4, k5⟩ := h3.resolve_left (by omega)
  refine ⟨_, rfl, (Array.getElem?_eq_some_iff.1 k2).1, fun j u hu => ?_⟩
  rw [Addr.add_lit, Nat.zero_add, cell_of_row w g j cur e (0, 0) k2]
  rw [← k5, List.getElem?_take] at hu
  split at hu
  · simpa using hu
  · cases hu
theorem Bor.in_ (h : Rd w0 B size v n xs) : Bor B w0 L size v n xs := fun w hs => (h.below hs.below).more hs.base
theorem Bor.own {e : TypeId} {A : Option Addr} {c : Nat} (h : Ch.own e size A n c xs ∈ L) : Bor B w0 L size (.slice A n c) n xs := fun w hs => OwnR.rd (hs.all _ h)
theorem Bor.cons (h : Bor B w0 L size v n xs) : Bor B w0 (c :: L) size v n xs := fun w hs => h w hs.tail
theorem Bor.mono (h : Bor B w0 L size v n xs) (hs : L.Sublist L') : Bor B w0 L' size v n xs := fun w h' => h w (h'.sub hs)
theorem Bor.perm (h : Bor B w0 L size v n xs) (hp : L.Perm L') : Bor B w0 L' size v n xs := fun w h' => h w (h'.perm hp.symm)
theorem Bor.nil_ {A : Option Addr} {c : Nat} : Bor B w0 L size (.slice A 0 c) 0 [] := fun w _ => ⟨A, c, rfl, Nat.zero_le _, by simp, fun h => absurd h (by omega)⟩
theorem Bor.cut {A : Option Addr} {c : Nat} (h : Bor B w0 L size (.slice A n c) n xs) (hk : k ≤ n) : Bor B w0 L size (.slice (if c = k then A else A.map (·.add (k * size))) (n - k) (c - k)) (n - k) (xs.drop (k * size)) := fun w hs => (h w hs).cut hk
theorem Bor.head_ {A : Option Addr} {c : Nat} (h : Bor B w0 L size (.slice A n c) n xs) (hk : k ≤ n) : Bor B w0 L size (.slice A k c) k (xs.take (k * size)) := fun w hs => (h w hs).head_ hk
end

/-! ## Code -/
def lift (C : Cx) (Q : Exit → Fr → List Ch → Prop) : Exit → Act → World → Prop := fun e a w => ∃ fr L, Agr C.N fr a ∧ SL C.B C.w0 L w ∧ Q e fr L
def VC (C : Cx) (c : Code) (Q : Exit → Fr → List Ch → Prop) (fr : Fr) (L : List Ch) : Prop := ∀ a w, Agr C.N fr a → SL C.B C.w0 L w → c.wp C.P (lift C Q) a w
def VL (C : Cx) (ops : Array Oper) (Q : Exit → Fr → List Ch → Prop) (l : List Oper) (fr : Fr) (L : List Ch) : Prop :=
  ∀ a w, Agr C.N fr a → SL C.B C.w0 L w → wpList C.P ops (lift C Q) l a w
def Then (C : Cx) (y : Code) (Q : Exit → Fr → List Ch → Prop) : Exit → Fr → List Ch → Prop
  | .normal, fr, L => VC C y Q fr L
  | e, fr, L => Q e fr L
def InB (id : Nat) (Q : Exit → Fr → List Ch → Prop) : Exit → Fr → List Ch → Prop
  | .exit i, fr, L => if i = id then Q .normal fr L else Q (.exit i) fr L
  | e, fr, L => Q e fr L
section
variable {C : Cx} {Q : Exit → Fr → List Ch → Prop} {fr fr' : Fr} {L L' : List Ch} {x y : Code} {ops : Array Oper} {l : List Oper}
theorem vc_seq (h : VC C x (Then C y Q) fr L) : VC C (.seq x y) Q fr L := fun a w ha hs => by
  refine wp_seq (wp_mono (h a w ha hs) fun e a w ⟨fr, L, ha, hs, hq⟩ => ?_)
  cases e <;> first | exact hq a w ha hs | exact ⟨fr, L, ha, hs, hq⟩
theorem vc_block {id : Nat} (h : VC C x (InB id Q) fr L) : VC C (.block id x) Q fr L := fun a w ha hs => by
  refine wp_block (wp_mono (h a w ha hs) fun e a w ⟨fr, L, ha, hs, hq⟩ => ?_)
  cases e with
  | exit i =>
    unfold Exit.inBlock InB at *
    simp only at hq ⊢
    split
    · rename_i hi; rw [if_pos hi] at hq; exact ⟨fr, L, ha, hs, hq⟩
    · rename_i hi; rw [if_neg hi] at hq; exact ⟨fr, L, ha, hs, hq⟩
  | _ => exact ⟨fr, L, ha, hs, hq⟩
theorem vc_skip (h : Q .normal fr L) : VC C .skip Q fr L := fun a w ha hs => wp_skip ⟨fr, L, ha, hs, h⟩
theorem vc_exit {id : Nat} (h : Q (.exit id) fr L) : VC C (.exit id) Q fr L := fun a w ha hs => wp_exit ⟨fr, L, ha, hs, h⟩
theorem vc_ret (h : Q .ret fr L) : VC C .ret Q fr L := fun a w ha hs => wp_ret ⟨fr, L, ha, hs, h⟩
theorem vc_cond_t {c : Operand} (hc : ev fr c = some (.bool true)) (h : VC C x Q fr L) : VC C (.cond c x y) Q fr L := fun a w ha hs => wp_cond_true (ha.tmp hc) (h a w ha hs)
theorem vc_cond_f {c : Operand} (hc : ev fr c = some (.bool false)) (h : VC C y Q fr L) : VC C (.cond c x y) Q fr L := fun a w ha hs => wp_cond_false (ha.tmp hc) (h a w ha hs)
theorem vc_cond {c : Operand} {b : Bool} (hc : ev fr c = some (.bool b)) (ht : b = true → VC C x Q fr L) (hf : b = false → VC C y Q fr L) : VC C (.cond c x y) Q fr L :=
  fun a w ha hs => wp_cond_split (ha.tmp hc) (fun h => ht h a w ha hs) (fun h => hf h a w ha hs)
theorem vc_decide {c : Operand} {p : Prop} [Decidable p] (hc : ev fr c = some (.bool (decide p))) (ht : p → VC C x Q fr L) (hf : ¬ p → VC C y Q fr L) : VC C (.cond c x y) Q fr L :=
  vc_cond hc (fun h => ht (of_decide_eq_true h)) (fun h => hf (of_decide_eq_false h))
theorem vc_region {id : Nat} {l : List Oper} (h : VL C l.toArray Q l fr L) : VC C (.region id l.toArray false) Q fr L := fun a w ha hs => wp_region_lit (h a w ha hs)
/-- from here on less is remembered -/
theorem vc_weaken (fr' : Fr) (hs : Sub fr fr') (h : VC C x Q fr' L) : VC C x Q fr L := fun a w ha hw => h a w (ha.sub hs) hw
theorem vc_perm (hs : L.Perm L') (h : VC C x Q fr L') : VC C x Q fr L := fun a w ha hw => h a w ha (hw.perm hs)
/-- the end of a region: the slots that are remembered -/
theorem vl_end (fr' : Fr) (hs : Sub fr fr') (h : Q .normal fr' L) : VL C ops Q [] fr L := fun a w ha hw => wpList_nil ⟨fr', L, ha.sub hs, hw, h⟩
theorem then_next (h : VC C y Q fr L) : Then C y Q .normal fr L := h
theorem in_eq {id : Nat} (h : Q .normal fr L) : InB id Q (.exit id) fr L := by unfold InB; simp only [if_true]; exact h
theorem in_ne {i id : Nat} (hi : Nat.beq i id = false) (h : Q (.exit i) fr L) : InB id Q (.exit i) fr L := by
  unfold InB
  simp only
  rw [if_neg (by intro e; subst e; simp at hi)]
  exact h
theorem in_ret {id : Nat} (h : Q .ret fr L) : InB id Q .ret fr L := h
theorem in_normal {id : Nat} (h : Q .normal fr L) : InB id Q .normal fr L := h
/-- a loop: its state is told by s; 'm s' falls in each round -/
def InL {σ : Type} (F : σ → Fr) (G : σ → List Ch) (ok : σ → Prop) (m : σ → Nat) (s : σ) (Q : Exit → Fr → List Ch → Prop) : Exit → Fr → List Ch → Prop
  | .normal, fr, L => ∃ s', ok s' ∧ m s' < m s ∧ Sub fr (F s') ∧ L.Perm (G s')
  | e, fr, L => Q e fr L
end
end Go.Proofs.Ytakokckokchacaa
namespace Go.Proofs.Ytakokckokchacaa
open Go.RowKit
set_option linter.unusedVariables false
section
variable {C : Cx} {Q : Exit → Fr → List Ch → Prop} {fr fr' : Fr} {L L' : List Ch} {ops : Array Oper} {l : List Oper} {op : Op} {ty : TypeId} {pos : String} {af : Array Edge} {d : Nat} {v : Value}
/-- the operation yields v, memory stays -/
def Det (C : Cx) (fr : Fr) (L : List Ch) (op : Op) (ty : TypeId) (v : Value) : Prop :=
  ∀ a w, Agr C.N fr a → SL C.B C.w0 L w → ∀ (d : Option Tmp) (pos : String) (af : Array Edge) (g : Option (Nat × Bool)), (execOp a.eval ⟨d, op, ty, pos, af, g⟩).run C.P w = .ok (.value v) w
/-- the operation yields a value and leaves pieces as_ R says -/
def Eff (C : Cx) (fr : Fr) (L : List Ch) (op : Op) (ty : TypeId) (R : Value → List Ch → Prop) : Prop :=
  ∀ a w, Agr C.N fr a → SL C.B C.w0 L w → ∀ (d : Option Tmp) (pos : String) (af : Array Edge) (g : Option (Nat × Bool)), ∃ v w' L',
    ((execOp a.eval ⟨d, op, ty, pos, af, g⟩).run C.P w = .ok (.value v) w' ∨ (execOp a.eval ⟨d, op, ty, pos, af, g⟩).run C.P w = .ok .skip w' ∧ v = undef) ∧ R v L' ∧ SL C.B C.w0 L' w'
theorem vl_det (h : Det C fr L op ty v) (hd : Nat.blt d C.N = true) (k : VL C ops Q l ((d, v) :: fr) L) : VL C ops Q (⟨some d, op, ty, pos, af, none⟩ :: l) fr L := fun a w ha hw =>
  wpList_plain rfl fun K hK => by unfold Oper.wp; rw [h a w ha hw]; exact hK _ _ (k _ _ (ha.put hd v) hw)
theorem vl_eff {R : Value → List Ch → Prop} (h : Eff C fr L op ty R) (hd : Nat.blt d C.N = true) (k : ∀ v L', R v L' → VL C ops Q l ((d, v) :: fr) L') : VL C ops Q (⟨some d, op, ty, pos, af, none⟩ :: l) fr L := fun a w ha hw =>
  wpList_plain rfl fun K hK => by
    obtain ⟨v, w', L', hr, hR, hs⟩ := h a w ha hw (some d) pos af none
    unfold Oper.wp
    rcases hr with hr | ⟨hr, rfl⟩ <;> rw [hr] <;> exact hK _ _ (k _ _ hR _ _ (ha.put hd _) hs)
theorem vl_eff0 {R : Value → List Ch → Prop} (h : Eff C fr L op ty R) (k : ∀ v L', R v L' → VL C ops Q l fr L') : VL C ops Q (⟨none, op, ty, pos, af, none⟩ :: l) fr L := fun a w ha hw =>
  wpList_plain rfl fun K hK => by
    obtain ⟨v, w', L', hr, hR, hs⟩ := h a w ha hw none pos af none
    unfold Oper.wp
    rcases hr with hr | ⟨hr, rfl⟩ <;> rw [hr] <;> exact hK _ _ (k _ _ hR _ _ ha hs)
theorem wanted_iff {op : Op} {ty : TypeId} {pos : String} {af : Array Edge} {dd : Option Tmp} {j t : Nat} {want b : Bool} {a : Act} (hj : (ops[j]?).bind (·.dst) = some t) (ha : a.tmps[t]? = some (.bool b)) :
    Region.wanted ⟨dd, op, ty, pos, af, some (j, want)⟩ (yielded ops a.tmps) = (b == want) := by
  simp [Region.wanted, yielded, hj, ha]
theorem wanted_undef {op : Op} {ty : TypeId} {pos : String} {af : Array Edge} {dd : Option Tmp} {j t : Nat} {want : Bool} {a : Act} (hj : (ops[j]?).bind (·.dst) = some t) (ha : a.tmps[t]? = some undef) :
    Region.wanted ⟨dd, op, ty, pos, af, some (j, want)⟩ (yielded ops a.tmps) = false := by
  simp [Region.wanted, yielded, hj, ha, undef]
theorem wpl_unguard {P : Program} {QQ : Exit → Act → World → Prop} {dd : Option Tmp} {g : Nat × Bool} {a : Act} {w : World} (hw : Region.wanted ⟨dd, op, ty, pos, af, some g⟩ (yielded ops a.tmps) = true) (h : wpList P ops QQ (⟨dd, op, ty, pos, af, none⟩ :: l) a w) :
    wpList P ops QQ (⟨dd, op, ty, pos, af, some g⟩ :: l) a w := by
  unfold wpList at h ⊢
  rw [if_pos (by rfl)] at h
  rw [if_pos hw]
  exact h
theorem wpl_skip {P : Program} {QQ : Exit → Act → World → Prop} {dd : Option Tmp} {g : Nat × Bool} {a : Act} {w : World} (hw : Region.wanted ⟨dd, op, ty, pos, af, some g⟩ (yielded ops a.tmps) = false) (h : wpList P ops QQ l (a.put dd undef) w) :
    wpList P ops QQ (⟨dd, op, ty, pos, af, some g⟩ :: l) a w := by
  unfold wpList
  rw [if_neg (by rw [hw]; exact Bool.false_ne_true)]
  exact h
theorem Agr.bool {N : Nat} {a : Act} {t : Nat} {b c : Bool} (ha : Agr N fr a) (ht : look t fr = some (.bool b)) (hb : b = c) : Agr N ((t, .bool c) :: fr) a := by
  subst hb
  refine ⟨ha.defers, ha.size, fun s u hs => ?_⟩
  unfold look at hs
  cases hbe : Nat.beq t s with
  | true =>
    have := Nat.eq_of_beq_eq_true hbe
    subst this
    rw [hbe] at hs
    simp only [cond_true, Option.some.injEq] at hs
    subst hs
    exact ha.at_ _ _ ht
  | false =>
    rw [hbe] at hs
    exact ha.at_ _ _ hs
theorem vl_guard_t {dd : Option Tmp} {j t : Nat} {want : Bool} (hj : (ops[j]?).bind (·.dst) = some t) (ht : look t fr = some (.bool want)) (k : VL C ops Q (⟨dd, op, ty, pos, af, none⟩ :: l) fr L) :
    VL C ops Q (⟨dd, op, ty, pos, af, some (j, want)⟩ :: l) fr L := fun a w ha hw =>
  wpl_unguard (by rw [wanted_iff hj (ha.at_ _ _ ht)]; simp) (k a w ha hw)
theorem vl_guard_f {j t : Nat} {want b : Bool} (hj : (ops[j]?).bind (·.dst) = some t) (ht : look t fr = some (.bool b)) (hb : (b == want) = false) (hd : Nat.blt d C.N = true) (k : VL C ops Q l ((d, undef) :: fr) L) :
    VL C ops Q (⟨some d, op, ty, pos, af, some (j, want)⟩ :: l) fr L := fun a w ha hw =>
  wpl_skip (by rw [wanted_iff hj (ha.at_ _ _ ht)]; exact hb) (k _ _ (ha.put hd _) hw)
theorem vl_guard_u {j t : Nat} {want : Bool} (hj : (ops[j]?).bind (·.dst) = some t) (ht : look t fr = some undef) (hd : Nat.blt d C.N = true) (k : VL C ops Q l ((d, undef) :: fr) L) :
    VL C ops Q (⟨some d, op, ty, pos, af, some (j, want)⟩ :: l) fr L := fun a w ha hw =>
  wpl_skip (wanted_undef hj (ha.at_ _ _ ht)) (k _ _ (ha.put hd _) hw)
theorem vl_guard {j t : Nat} {want b : Bool} (hj : (ops[j]?).bind (·.dst) = some t) (ht : look t fr = some (.bool b)) (hd : Nat.blt d C.N = true)
    (k1 : b = want → VL C ops Q (⟨some d, op, ty, pos, af, none⟩ :: l) ((t, .bool want) :: fr) L) (k2 : b = !want → VL C ops Q l ((d, undef) :: (t, .bool !want) :: fr) L) :
    VL C ops Q (⟨some d, op, ty, pos, af, some (j, want)⟩ :: l) fr L := fun a w ha hw => by
  by_cases hb : b = want
  · exact wpl_unguard (by rw [wanted_iff hj (ha.at_ _ _ ht)]; simpa using hb) (k1 hb a w (ha.bool ht hb) hw)
  · have hb' : b = !want := by cases b <;> cases want <;> simp_all
    exact wpl_skip (by rw [wanted_iff hj (ha.at_ _ _ ht)]; simpa using hb) (k2 hb' _ _ ((ha.bool ht hb').put hd _) hw)
/-- a guard on a decided proposition -/
theorem vl_guardp {j t : Nat} {p : Prop} [Decidable p] (hj : (ops[j]?).bind (·.dst) = some t) (ht : look t fr = some (.bool (decide p))) (hd : Nat.blt d C.N = true)
    (k1 : p → VL C ops Q (⟨some d, op, ty, pos, af, none⟩ :: l) ((t, .bool true) :: fr) L) (k2 : ¬ p → VL C ops Q l ((d, undef) :: (t, .bool false) :: fr) L) :
    VL C ops Q (⟨some d, op, ty, pos, af, some (j, true)⟩ :: l) fr L :=
  vl_guard hj ht hd (fun h => k1 (of_decide_eq_true h)) (fun h => k2 (of_decide_eq_false h))
theorem vl_guardn {j t : Nat} {p : Prop} [Decidable p] (hj : (ops[j]?).bind (·.dst) = some t) (ht : look t fr = some (.bool (decide p))) (hd : Nat.blt d C.N = true)
    (k1 : ¬ p → VL C ops Q (⟨some d, op, ty, pos, af, none⟩ :: l) ((t, .bool false) :: fr) L) (k2 : p → VL C ops Q l ((d, undef) :: (t, .bool true) :: fr) L) :
    VL C ops Q (⟨some d, op, ty, pos, af, some (j, false)⟩ :: l) fr L :=
  vl_guard hj ht hd (fun h => k1 (of_decide_eq_false h)) (fun h => k2 (of_decide_eq_true h))

/-! ### Functions -/
def Callable (P : Program) (f : FuncId) : Prop := ∃ fn c, P.funcs[f]? = some fn ∧ (fn.name == "runtime.NumGoroutine") = false ∧ fn.body = some c
/-- what a call yields, and the pieces behind it -/
def Does (P : Program) (B : Nat) (w0 : World) (f : FuncId) (args : List Value) (L : List Ch) (R : Value → List Ch → Prop) : Prop :=
  ∀ w, SL B w0 L w → Calls P f args.toArray w fun e w' => ∃ v L', e = .returned v ∧ R v L' ∧ SL B w0 L' w'
theorem Does.mono {P : Program} {B : Nat} {w0 : World} {f : FuncId} {args : List Value} {R R' : Value → List Ch → Prop} (h : Does P B w0 f args L R) (hr : ∀ v L', R v L' → R' v L') : Does P B w0 f args L R' :=
  fun w hw => (h w hw).mono fun _ _ ⟨v, L', e, hR, hs⟩ => ⟨v, L', e, hr _ _ hR, hs⟩
theorem Does.perm {P : Program} {B : Nat} {w0 : World} {f : FuncId} {args : List Value} {R : Value → List Ch → Prop} (h : Does P B w0 f args L' R) (hp : L.Perm L') : Does P B w0 f args L R :=
  fun w hw => h w (hw.perm hp)
theorem execOp_callv {ρ : Operand → Value} {P : Program} {w : World} {f : FuncId} {g : Operand} {as_ : List Operand} {ats : Array TypeId} {fst cap : Array Value} {dd : Option Tmp} {gu : Option (Nat × Bool)} (hc : Callable P f) (hg : ρ g = .func (.func f) fst cap) :
    (execOp ρ ⟨dd, .call { callee := .value g, args := as_.toArray, argTypes := ats }, ty, pos, af, gu⟩).run P w = .ok (.enter f (fst ++ (as_.map ρ).toArray ++ cap)) w := by
  obtain ⟨fn, c, h1, h2, h3⟩ := hc
  have h2' : ¬ fn.name = "runtime.NumGoroutine" := by simpa using h2
  simp [execOp, resolve, hg, Deferred.ofValue, invoke, callFunc, h1, h2', h3]
theorem vl_call {f : FuncId} {as_ : List Operand} {ats : Array TypeId} {vs : List Value} {R : Value → List Ch → Prop} (hc : Callable C.P f) (he : evs fr as_ = some vs) (h : Does C.P C.B C.w0 f vs L R) (hd : Nat.blt d C.N = true)
    (k : ∀ v L', R v L' → VL C ops Q l ((d, v) :: fr) L') : VL C ops Q (⟨some d, .call { callee := .value (.func f), args := as_.toArray, argTypes := ats }, ty, pos, af, none⟩ :: l) fr L := fun a w ha hw =>
  wpList_plain rfl fun K hK => by
    unfold Oper.wp
    rw [execOp_callv hc (fst := #[]) (cap := #[]) rfl, ha.evs he]
    rw [Array.append_empty, Array.empty_append]
    refine Calls.mono (h w hw) fun e w' ⟨v, L', he, hR, hs⟩ => ?_
    subst he
    exact hK _ _ (k _ _ hR _ _ (ha.put hd _) hs)
/-- a call of a function value -/
theorem vl_callv {f : FuncId} {g : Operand} {as_ : List Operand} {ats : Array TypeId} {vs fst cap : List Value} {R : Value → List Ch → Prop} (hc : Callable C.P f) (hg : ev fr g = some (.func (.func f) fst.toArray cap.toArray)) (he : evs fr as_ = some vs) (h : Does C.P C.B C.w0 f (fst ++ vs ++ cap) L R) (hd : Nat.blt d C.N = true)
    (k : ∀ v L', R v L' → VL C ops Q l ((d, v) :: fr) L') : VL C ops Q (⟨some d, .call { callee := .value g, args := as_.toArray, argTypes := ats }, ty, pos, af, none⟩ :: l) fr L := fun a w ha hw =>
  wpList_plain rfl fun K hK => by
    unfold Oper.wp
    rw [execOp_callv hc (ha.tmp hg), ha.evs he]
    simp only [List.append_toArray]
    refine Calls.mono (h w hw) fun e w' ⟨v, L', he, hR, hs⟩ => ?_
    subst he
    exact hK _ _ (k _ _ hR _ _ (ha.put hd _) hs)
def Ini (N : Nat) (args : List Value) : Fr → Prop
  | [] => True
  | (t, v) :: r => (Nat.blt t N = true ∧ args.getD t undef = v) ∧ Ini N args r
theorem Ini.look {N : Nat} {args : List Value} : ∀ {fr : Fr}, Ini N args fr → ∀ t v, look t fr = some v → t < N ∧ args.getD t undef = v
  | [], _, t, v, h => by cases h
  | (s, u) :: r, hs, t, v, h => by
    unfold Proofs.Ytakokckokchacaa.look at h
    cases hb : Nat.beq s t with
    | true =>
      rw [hb] at h
      simp only [cond_true, Option.some.injEq] at h
      have := Nat.eq_of_beq_eq_true hb
      subst this; subst h
      exact ⟨by simpa using hs.1.1, hs.1.2⟩
    | false =>
      rw [hb] at h
      exact hs.2.look t v h
def Ret (P : Program) (fn : Func) (R : Value → List Ch → Prop) : Exit → Fr → List Ch → Prop
  | .ret, fr, L | .normal, fr, L => ∀ (B : Nat) (w0 : World) a w, Agr fn.ntmps fr a → SL B w0 L w → ∃ v L', (results fn a.tmps).run P w = .ok v w ∧ R v L' ∧ SL B w0 L' w
  | _, _, _ => False
theorem fn_of {P : Program} {B : Nat} {w0 : World} {f : FuncId} {fn : Func} {c : Code} {args : List Value} {R : Value → List Ch → Prop} (hf : P.funcs[f]? = some fn) (hb : fn.body = some c) (hl : args.length ≤ fn.ntmps) (fr0 : Fr) (hi : Ini fn.ntmps args fr0)
    (h : VC ⟨P, fn.ntmps, B, w0⟩ c (Ret P fn R) fr0 L) : Does P B w0 f args L R := fun w hw => by
  refine calls_of_wp hf hb (wp_mono (h _ w ⟨rfl, ?_, fun t v ht => ?_⟩ hw) fun e a w ⟨fr, L, ha, hs, hq⟩ => ?_)
  · simp; omega
  · obtain ⟨h1, h2⟩ := hi.look t v ht
    simp only [List.size_toArray]
    by_cases hlt : t < args.length
    · rw [Array.getElem?_append_left (by simpa using hlt)]
      simp [hlt] at h2
      simp [hlt, h2]
    · rw [Array.getElem?_append_right (by simpa using hlt)]
      have h3 : args[t]? = none := List.getElem?_eq_none (by omega)
      simp [h3] at h2
      subst h2
      simp
      rw [Array.getElem?_replicate, if_pos (by omega)]
  · cases e <;> first
      | exact hq.elim
      | (obtain ⟨v, L', h1, h2, h3⟩ := hq B w0 a w ha hs; exact ⟨ha.defers, v, h1, v, L', rfl, h2, h3⟩)
theorem ret1 {P : Program} {fn : Func} {R : Value → List Ch → Prop} {t : Nat} (hr : fn.results = #[.tmp t]) {v : Value} (hl : look t fr = some v) (h : R v L) : Ret P fn R .ret fr L := fun B w0 a w ha hs => by
  refine ⟨v, L, ?_, h, hs⟩
  rw [results_tmp hr]
  simp [ha.at_ _ _ hl]
theorem ret0 {P : Program} {fn : Func} {R : Value → List Ch → Prop} (hr : fn.results = #[]) (h : R (.tuple #[]) L) : Ret P fn R .ret fr L := fun B w0 a w ha hs => ⟨_, L, results_none hr _ _ _, h, hs⟩
theorem ret2 {P : Program} {fn : Func} {R : Value → List Ch → Prop} {t u : Nat} (hr : fn.results = #[.tmp t, .tmp u]) {v x : Value} (hl : look t fr = some v) (hl2 : look u fr = some x) (h : R (.tuple #[v, x]) L) : Ret P fn R .ret fr L := fun B w0 a w ha hs => by
  refine ⟨_, L, ?_, h, hs⟩
  rw [results_tmp2 hr]
  simp [ha.at_ _ _ hl, ha.at_ _ _ hl2]
theorem ret3_ {P : Program} {fn : Func} {R : Value → List Ch → Prop} {t u s : Nat} (hr : fn.results = #[.tmp t, .tmp u, .tmp s]) {v x y : Value} (hl : look t fr = some v) (hl2 : look u fr = some x) (hl3 : look s fr = some y) (h : R (.tuple #[v, x, y]) L) : Ret P fn R .ret fr L := fun B w0 a w ha hs => by
  refine ⟨_, L, ?_, h, hs⟩
  simp [results, hr, ha.at_ _ _ hl, ha.at_ _ _ hl2, ha.at_ _ _ hl3]
theorem ret_n {P : Program} {fn : Func} {R : Value → List Ch → Prop} (h : Ret P fn R .ret fr L) : Ret P fn R .normal fr L := h
/-! ### Operations that leave memory alone -/
section
variable {x y z : Operand} {u t : Value} {k : IntKind} {m n : Int}
theorem det_move (h : ev fr x = some v) : Det C fr L (.move x) ty v := fun a w ha hw d pos af g => by simp [execOp, ha.tmp h]
theorem det_assign (h : ev fr x = some v) : Det C fr L (.assign x) ty v := fun a w ha hw d pos af g => by simp [execOp, ha.tmp h]
theorem det_pick_t (h : ev fr x = some (.bool true)) (h1 : ev fr y = some v) : Det C fr L (.pick x y z) ty v := fun a w ha hw d pos af g => by simp [execOp, ha.tmp h, ha.tmp h1, asBool]
theorem det_pick_f (h : ev fr x = some (.bool false)) (h1 : ev fr z = some v) : Det C fr L (.pick x y z) ty v := fun a w ha hw d pos af g => by simp [execOp, ha.tmp h, ha.tmp h1, asBool]
theorem run_binInt {op : BinOp} {xt : TypeId} {P : Program} {w : World} (a : Act) (d : Option Tmp) (pos : String) (af : Array Edge) (g : Option (Nat × Bool)) {yt : TypeId} (h1 : a.eval x = .int k m) (h2 : a.eval y = .int k n) (hs : op ≠ .shl ∧ op ≠ .shr) :
    (execOp a.eval ⟨d, .binOp op xt x y yt, ty, pos, af, g⟩).run P w = ((match op with
    | .add | .sub | .mul => Op.intArith op k m n
    | .quo | .rem => Op.intDiv op k m n
    | .and | .or | .xor | .andNot => Op.intBits op k m n
    | _ => Op.intCmp op m n).run P w).andThen fun v w => .ok (.value v) w := by
  have he : (eqGuard op xt x y (.int k m) (.int k n)).run P w = .ok () w := by cases op <;> simp [eqGuard]
  obtain ⟨hs1, hs2⟩ := hs
  cases op <;> simp_all [execOp, binOp]
theorem det_add {xt yt : TypeId} (h1 : ev fr x = some (.int k m)) (h2 : ev fr y = some (.int k n)) {r : Int} (hr : k.wrap (m + n) = r) : Det C fr L (.binOp .add xt x y yt) ty (.int k r) := fun a w ha hw d pos af g => by
  rw [run_binInt a d pos af g (ha.tmp h1) (ha.tmp h2) ⟨by decide, by decide⟩]; simp [Op.intArith, hr]
theorem det_sub {xt yt : TypeId} (h1 : ev fr x = some (.int k m)) (h2 : ev fr y = some (.int k n)) {r : Int} (hr : k.wrap (m - n) = r) : Det C fr L (.binOp .sub xt x y yt) ty (.int k r) := fun a w ha hw d pos af g => by
  rw [run_binInt a d pos af g (ha.tmp h1) (ha.tmp h2) ⟨by decide, by decide⟩]; simp [Op.intArith, hr]
theorem det_eql {xt yt : TypeId} (h1 : ev fr x = some (.int k m)) (h2 : ev fr y = some (.int k n)) : Det C fr L (.binOp .eql xt x y yt) ty (.bool (decide (m = n))) := fun a w ha hw d pos af g => by
  rw [run_binInt a d pos af g (ha.tmp h1) (ha.tmp h2) ⟨by decide, by decide⟩]; simp [Op.intCmp]; rfl
theorem det_neq {xt yt : TypeId} (h1 : ev fr x = some (.int k m)) (h2 : ev fr y = some (.int k n)) : Det C fr L (.binOp .neq xt x y yt) ty (.bool (decide (¬ m = n))) := fun a w ha hw d pos af g => by
  rw [run_binInt a d pos af g (ha.tmp h1) (ha.tmp h2) ⟨by decide, by decide⟩]; simp [Op.intCmp, bne]; rfl
theorem det_lss {xt yt : TypeId} (h1 : ev fr x = some (.int k m)) (h2 : ev fr y = some (.int k n)) : Det C fr L (.binOp .lss xt x y yt) ty (.bool (decide (m < n))) := fun a w ha hw d pos af g => by
  rw [run_binInt a d pos af g (ha.tmp h1) (ha.tmp h2) ⟨by decide, by decide⟩]; simp [Op.intCmp]
theorem det_leq {xt yt : TypeId} (h1 : ev fr x = some (.int k m)) (h2 : ev fr y = some (.int k n)) : Det C fr L (.binOp .leq xt x y yt) ty (.bool (decide (m ≤ n))) := fun a w ha hw d pos af g => by
  rw [run_binInt a d pos af g (ha.tmp h1) (ha.tmp h2) ⟨by decide, by decide⟩]; simp [Op.intCmp]
theorem det_gtr {xt yt : TypeId} (h1 : ev fr x = some (.int k m)) (h2 : ev fr y = some (.int k n)) : Det C fr L (.binOp .gtr xt x y yt) ty (.bool (decide (n < m))) := fun a w ha hw d pos af g => by
  rw [run_binInt a d pos af g (ha.tmp h1) (ha.tmp h2) ⟨by decide, by decide⟩]; simp [Op.intCmp]
theorem det_geq {xt yt : TypeId} (h1 : ev fr x = some (.int k m)) (h2 : ev fr y = some (.int k n)) : Det C fr L (.binOp .geq xt x y yt) ty (.bool (decide (n ≤ m))) := fun a w ha hw d pos af g => by
  rw [run_binInt a d pos af g (ha.tmp h1) (ha.tmp h2) ⟨by decide, by decide⟩]; simp [Op.intCmp]
theorem det_not {b : Bool} (h : ev fr x = some (.bool b)) {xt : TypeId} : Det C fr L (.unOp .not xt x) ty (.bool !b) := fun a w ha hw d pos af g => by simp [execOp, ha.tmp h, Op.unary]
/-- a number made a number of another kind -/
theorem det_conv {s t : TypeId} {k' : IntKind} (hs : C.P.underlying s = some (.int k)) (ht : C.P.underlying t = some (.int k')) (h : ev fr x = some (.int k m)) {r : Int} (hr : k'.wrap m = r) : Det C fr L (.convert s t x) ty (.int k' r) := fun a w ha hw d pos af g => by
  rw [← hr]; simp [execOp, ha.tmp h, convert, run_underlying hs, run_underlying ht, Conv.intToInt]
theorem det_extract {vs : List Value} {i : Nat} (h : ev fr x = some (.tuple vs.toArray)) (hi : vs[i]? = some v) : Det C fr L (.extract x i) ty v := fun a w ha hw d pos af g => by simp [execOp, ha.tmp h, Instr.extract, hi]
theorem det_makeFunc {fn : Go.Fn} {as_ bs : List Operand} {us vs : List Value} (h1 : evs fr as_ = some us) (h2 : evs fr bs = some vs) : Det C fr L (.makeFunc fn as_.toArray bs.toArray) ty (.func fn us.toArray vs.toArray) := fun a w ha hw d pos af g => by
  simp [execOp, Instr.makeFunc, ha.evs h1, ha.evs h2]
theorem det_nilCheck {p : Addr} (h : ev fr x = some (.pointer (some p))) : Det C fr L (.nilCheck x) ty (.pointer (some p)) := fun a w ha hw d pos af g => by simp [execOp, ha.tmp h]
/-- texts -/
theorem det_len_str {t : TypeId} {s : ByteArray} (ht : C.P.underlying t = some .string) (h : ev fr x = some (.string s)) : Det C fr L (.call { callee := .builtin .len, args := #[x], argTypes := #[t] }) ty (.int .i64 (s.size : Int)) := fun a w ha hw d pos af g => by
  simp [execOp, resolve, invoke, builtin, Builtin.len_, ha.tmp h, run_underlying ht, goInt]
theorem det_len_sl {t e : TypeId} {A : Option Addr} {n c : Nat} (ht : C.P.underlying t = some (.slice e)) (h : ev fr x = some (.slice A n c)) : Det C fr L (.call { callee := .builtin .len, args := #[x], argTypes := #[t] }) ty (.int .i64 (n : Int)) := fun a w ha hw d pos af g => by
  simp [execOp, resolve, invoke, builtin, Builtin.len_, ha.tmp h, run_underlying ht, goInt]
theorem det_min {ats : Array TypeId} (h1 : ev fr x = some (.int k m)) (h2 : ev fr y = some (.int k n)) : Det C fr L (.call { callee := .builtin .min, args := #[x, y], argTypes := ats }) ty (.int k (min m n)) := fun a w ha hw d pos af g => by
  have : (if n < m then n else m) = min m n := by rw [Int.min_def]; split <;> split <;> omega
  simp [execOp, resolve, invoke, builtin, Builtin.min_, Builtin.min2, ha.tmp h1, ha.tmp h2, this]
theorem det_max {ats : Array TypeId} (h1 : ev fr x = some (.int k m)) (h2 : ev fr y = some (.int k n)) : Det C fr L (.call { callee := .builtin .max, args := #[x, y], argTypes := ats }) ty (.int k (max m n)) := fun a w ha hw d pos af g => by
  have : (if m < n then n else m) = max m n := by rw [Int.max_def]; split <;> split <;> omega
  simp [execOp, resolve, invoke, builtin, Builtin.max_, Builtin.max2, ha.tmp h1, ha.tmp h2, this]
theorem det_index_str {t : TypeId} {s : List UInt8} {i : Nat} (ht : C.P.underlying t = some .string) (h : ev fr x = some (.string ⟨s.toArray⟩)) (h2 : ev fr y = some (.int k m)) (hm : m = (i : Int)) {b : UInt8} (hb : s[i]? = some b) : Det C fr L (.index t x y) ty (.int .u8 (b.toNat : Int)) := fun a w ha hw d pos af g => by
  subst hm
  obtain ⟨hi, hb⟩ := List.getElem?_eq_some_iff.1 hb
  have h3 : (⟨s.toArray⟩ : ByteArray)[i]? = some b := by
    have hsz : i < (⟨s.toArray⟩ : ByteArray).size := by show i < s.toArray.size; simpa using hi
    rw [getElem?_pos (⟨s.toArray⟩ : ByteArray) i hsz]
    show some (s.toArray[i]'_) = _
    simp [hb]
  simp [execOp, Instr.index, asIntOf, ha.tmp h, ha.tmp h2, run_underlying ht, h3]
theorem bytes_eq (s t : List UInt8) : ((⟨s.toArray⟩ : ByteArray).toList == (⟨t.toArray⟩ : ByteArray).toList) = decide (s = t) := by
  rw [ByteArray.toList_mk, ByteArray.toList_mk, Bool.eq_iff_iff]
  simp
end
end
end Go.Proofs.Ytakokckokchacaa
namespace Go.Proofs.Ytakokckokchacaa
open Go.RowKit
set_option linter.unusedVariables false
/-- a type whose values are one cell -/
def isSc (P : Program) (t : TypeId) : Bool := (match P.underlying t with | none => false | some (.struct _) => false | some (.array _ _) => false | some _ => true) && ((P.info? t).map (·.size) == some 1)
theorem isSc_agg {P : Program} {t : TypeId} (h : isSc P t = true) (w : World) : (isAgg t).run P w = .ok false w := by
  unfold isSc at h
  unfold isAgg
  cases hd : P.underlying t with
  | none => simp [hd] at h
  | some d => cases d <;> simp [run_underlying hd] <;> simp [hd] at h
theorem isSc_size {P : Program} {t : TypeId} (h : isSc P t = true) (w : World) : (sizeOf t).run P w = .ok 1 w := by
  unfold isSc at h
  rw [Bool.and_eq_true] at h
  have h2 := h.2
  cases hi : P.info? t with
  | none => rw [hi] at h2; simp at h2
  | some i => rw [hi] at h2; simp at h2; simp [sizeOf, typeInfo, hi, h2]
def isAg (P : Program) (t : TypeId) (k : Nat) : Bool := (match P.underlying t with | some (.struct _) => true | some (.array _ _) => true | _ => false) && ((P.info? t).map (·.size) == some k)
theorem isAg_agg {P : Program} {t : TypeId} {k : Nat} (h : isAg P t k = true) (w : World) : (isAgg t).run P w = .ok true w := by
  unfold isAg at h
  unfold isAgg
  cases hd : P.underlying t with
  | none => simp [hd] at h
  | some d => cases d <;> simp [run_underlying hd] <;> simp [hd] at h
theorem isAg_size {P : Program} {t : TypeId} {k : Nat} (h : isAg P t k = true) (w : World) : (sizeOf t).run P w = .ok k w := by
  unfold isAg at h
  rw [Bool.and_eq_true] at h
  have h2 := h.2
  cases hi : P.info? t with
  | none => rw [hi] at h2; simp at h2
  | some i => rw [hi] at h2; simp at h2; simp [sizeOf, typeInfo, hi, h2]
theorem isSz {P : Program} {t : TypeId} {k : Nat} (h : (P.info? t).map (·.size) = some k) (w : World) : (sizeOf t).run P w = .ok k w := by
  cases hi : P.info? t with
  | none => rw [hi] at h; simp at h
  | some i => rw [hi] at h; simp at h; simp [sizeOf, typeInfo, hi, h]
theorem sl_cell {B : Nat} {w0 w : World} {L : List Ch} {g o : Nat} {bt : TypeId} {cs : List Value} {f : Ch → List Ch} {v : Value} (hw : SL B w0 L w) (hm : Sel (.blk g bt cs) L f) (hv : cs[o]? = some v) : w.cell? ⟨g, o, none⟩ = some v := by
  have h := (hw.all _ hm.mem).2.cell o
  rw [h]; simpa using hv
section
variable {C : Cx} {Q : Exit → Fr → List Ch → Prop} {fr fr' : Fr} {L L' : List Ch} {ops : Array Oper} {l : List Oper} {op : Op} {ty : TypeId} {pos : String} {af : Array Edge} {d : Nat} {v : Value}
variable {x y z : Operand} {k : IntKind} {m n : Int} {f : Ch → List Ch} {g o : Nat} {bt t e : TypeId} {cs : List Value}
theorem det_load_blk (hs : isSc C.P t = true) (he : ev fr x = some (.pointer (some ⟨g, o, none⟩))) (hm : Sel (.blk g bt cs) L f) (hv : cs[o]? = some v) : Det C fr L (.load t x) ty v := fun a w ha hw d pos af gg => by
  simp [execOp, Instr.loadAt, Instr.sureAddr, ha.tmp he, loadVar, isSc_agg hs, sl_cell hw hm hv]
theorem run_loadAgg {P : Program} {w : World} {p : Addr} {t : TypeId} {cs : List Value} (hs : isAg P t cs.length = true) (h : ∀ j u, cs[j]? = some u → w.cell? (p.add j) = some u) : (loadVar t p).run P w = .ok (.agg cs.toArray) w := by
  simp [loadVar, isAg_agg hs, isAg_size hs, run_loadCells_list w p cs h]
theorem det_load_agg (k : Nat) (hs : isAg C.P t k = true) (he : ev fr x = some (.pointer (some ⟨g, o, none⟩))) (hm : Sel (.blk g bt cs) L f) (us : List Value) (hu : (cs.drop o).take k = us) (hk : us.length = k) : Det C fr L (.load t x) ty (.agg us.toArray) := fun a w ha hw d pos af gg => by
  subst hk
  have := run_loadAgg (P := C.P) (w := w) (p := ⟨g, o, none⟩) hs (fun j u hj => by
    rw [Addr.add_lit]
    refine sl_cell hw hm ?_
    rw [← hu, List.getElem?_take] at hj
    split at hj
    · rwa [List.getElem?_drop] at hj
    · cases hj)
  simp [execOp, Instr.loadAt, Instr.sureAddr, ha.tmp he, this]
/-- a cell of a slice that reads as_ a list -/
theorem bor_cell {B : Nat} {w0 w : World} {size nn c j : Nat} {A : Option Addr} {xs : List Value} {u : Value} (hb : Bor B w0 L size (.slice A nn c) nn xs) (hw : SL B w0 L w) (hu : xs[j]? = some u) (hs : 0 < nn) : ∃ ad, A = some ad ∧ w.cell? (ad.add j) = some u := by
  obtain ⟨A', c', hv, hc, hl, hr⟩ := hb w hw
  injection hv with q1 q2 q3
  subst q1
  obtain ⟨ad, h, _, hcell⟩ := hr hs
  exact ⟨ad, h, hcell j u hu⟩
theorem det_indexAddr {size nn c i : Nat} {A : Option Addr} {xs : List Value} (ht : C.P.underlying t = some (.slice e)) (hz : (C.P.info? e).map (·.size) = some size) (he : ev fr x = some (.slice A nn c)) (h2 : ev fr y = some (.int k m)) (hm : m = (i : Int)) (hi : i < nn) (hb : Bor C.B C.w0 L size (.slice A nn c) nn xs) :
    Det C fr L (.indexAddr t x y) ty (.pointer (A.map (·.add (i * size)))) := fun a w ha hw d pos af gg => by
  subst hm
  obtain ⟨A', c', hv, hc, hl, hr⟩ := hb w hw
  injection hv with q1 q2 q3
  subst q1
  obtain ⟨ad, h, _, hcell⟩ := hr (by omega)
  subst h
  simp [execOp, Instr.indexAt, asIntOf, ha.tmp he, ha.tmp h2, run_underlying ht, hi, isSz hz]
theorem det_load_row {size nn c j : Nat} {A : Option Addr} {xs : List Value} (hs : isSc C.P t = true) (he : ev fr x = some (.pointer (A.map (·.add j)))) (hb : Bor C.B C.w0 L size (.slice A nn c) nn xs) (hn : 0 < nn) (hv : xs[j]? = some v) : Det C fr L (.load t x) ty v := fun a w ha hw d pos af gg => by
  obtain ⟨ad, rfl, hc⟩ := bor_cell hb hw hv hn
  simp [execOp, Instr.loadAt, Instr.sureAddr, ha.tmp he, loadVar, isSc_agg hs, hc]
/-- a whole element -/
theorem det_load_rowa {size nn c j : Nat} {A : Option Addr} {xs : List Value} (k : Nat) (hs : isAg C.P t k = true) (he : ev fr x = some (.pointer (A.map (·.add j)))) (hb : Bor C.B C.w0 L size (.slice A nn c) nn xs) (hn : 0 < nn) (us : List Value) (hu : ∀ q u, us[q]? = some u → xs[j + q]? = some u) (hk : us.length = k) : Det C fr L (.load t x) ty (.agg us.toArray) := fun a w ha hw d pos af gg => by
  subst hk
  obtain ⟨A', c', hv, hc, hl, hr⟩ := hb w hw
  injection hv with q1 q2 q3
  subst q1
  obtain ⟨ad, h, _, hcell⟩ := hr hn
  subst h
  have := run_loadAgg (P := C.P) (w := w) (p := ad.add j) hs (fun q u hq => by rw [add_of_add]; exact hcell _ _ (hu q u hq))
  simp [execOp, Instr.loadAt, Instr.sureAddr, ha.tmp he, this]
theorem det_fieldAddr {fs : Array Field} {i : Nat} {fd : Field} {sz : Nat} (ht : C.P.underlying t = some (.struct fs)) (hf : fs[i]? = some fd) (hz : (C.P.info? fd.type).map (·.size) = some (sz + 1)) (he : ev fr x = some (.pointer (some ⟨g, o, none⟩))) {q : Nat} (hq : o + fd.offset = q) :
    Det C fr L (.fieldAddr t x i) ty (.pointer (some ⟨g, q, none⟩)) := fun a w ha hw d pos af gg => by
  subst hq
  have h0 : ¬ (sz + 1 = 0) := by omega
  simp [execOp, Instr.fieldAt, Instr.sureAddr, fieldPlace, ha.tmp he, run_underlying ht, hf, isSz hz, Addr.add_lit]
theorem run_box (P : Program) (w : World) (e : TypeId) (v : Value) : (Instr.box e v).run P w = .ok (.pointer (some ⟨w.heap.size, 0, none⟩)) (w.alloc (.cells v.cells e)) := by
  simp [Instr.box, newVar, newRow]
theorem SL.new_blk {B : Nat} {w0 w : World} {L : List Ch} (h : SL B w0 L w) (e : TypeId) (cs : List Value) : SL B w0 (.blk w.heap.size e cs :: L) (w.alloc (.cells cs.toArray e)) :=
  h.cons_new (World.grownBy_alloc w _ none) ⟨h.base, Blk.new w e cs.toArray⟩ (.inr ⟨_, rfl, Nat.le_refl _⟩)
theorem eff_box (he : ev fr x = some v) (hc : v.cells = cs.toArray) : Eff C fr L (.box e x) ty (fun p L' => ∃ g, p = .pointer (some ⟨g, 0, none⟩) ∧ L' = .blk g e cs :: L) := fun a w ha hw d pos af gg =>
  ⟨.pointer (some ⟨w.heap.size, 0, none⟩), w.alloc (.cells v.cells e), _, .inl (by simp [execOp, ha.tmp he, run_box]), ⟨w.heap.size, rfl, rfl⟩, by rw [hc]; exact hw.new_blk e cs⟩
theorem eff_alloc {i : TypeInfo} {zv : Value} (hi : C.P.info? e = some i) (hz : i.zero = some zv) (hc : zv.cells = cs.toArray) : Eff C fr L (.alloc e) ty (fun p L' => ∃ g, p = .pointer (some ⟨g, 0, none⟩) ∧ L' = .blk g e cs :: L) := fun a w ha hw d pos af gg =>
  ⟨.pointer (some ⟨w.heap.size, 0, none⟩), w.alloc (.cells zv.cells e), .blk w.heap.size e cs :: L, .inl (by simp [execOp, Instr.alloc, zeroValue, typeInfo, hi, hz, newVar, newRow]), ⟨w.heap.size, rfl, rfl⟩, by rw [hc]; exact hw.new_blk e cs⟩
theorem SL.sel {B : Nat} {w0 w w' : World} {L : List Ch} {c c' : Ch} {f : Ch → List Ch} (h : SL B w0 L w) (hs : Sel c L f) (hg : w.grownBy w' c.fp) (hc : c.holds B w → c'.holds B w') (hf : c'.fp = none ∨ c'.fp = c.fp ∨ ∃ g, c'.fp = some g ∧ w.heap.size ≤ g) : SL B w0 (f c') w' := by
  obtain ⟨R, h1, h2⟩ := hs.perm
  have hp := h.perm h1
  exact (hp.turn hg (hc hp.head) hf).perm (h2 c').symm
theorem SL.store {B : Nat} {w0 w : World} {L : List Ch} {f : Ch → List Ch} {g o : Nat} {bt : TypeId} {cs : List Value} (h : SL B w0 L w) (hm : Sel (.blk g bt cs) L f) (u : Value) : SL B w0 (f (.blk g bt (cs.set o u))) (w.setCell ⟨g, o, none⟩ u) :=
  h.sel hm (only_setCell (World.grownBy.refl w _) (.inl rfl) u) (fun ⟨h1, h2⟩ => ⟨h1, by have := h2.set_ o u; simpa using this⟩) (.inr (.inl rfl))
theorem run_storeSc {P : Program} {w : World} {p : Addr} {v u : Value} (hs : isSc P t = true) (h1 : v.oneCell' = true) (hc : w.cell? p = some u) (hf : w.frozen? p = false) : (storeVar t p v).run P w = .ok () (w.setCell p v) := by
  have hcs : v.cells = #[v] := by cases v <;> simp_all [Value.cells, Value.oneCell']
  simp [storeVar, isSc_size hs, hcs, storeCells, Addr.add, run_store P w p v _ h1, hc, hf]
theorem eff_store (hs : isSc C.P t = true) (he : ev fr x = some (.pointer (some ⟨g, o, none⟩))) (hv : ev fr y = some v) (h1 : v.oneCell' = true) (hm : Sel (.blk g bt cs) L f) (ho : o < cs.length) :
    Eff C fr L (.store t x y) ty (fun p L' => L' = f (.blk g bt (cs.set o v))) := fun a w ha hw d pos af gg => by
  have hc := sl_cell hw hm (List.getElem?_eq_getElem ho)
  have hf := (hw.all _ hm.mem).2.frozen o
  exact ⟨undef, _, _, .inr ⟨by simp [execOp, Instr.storeAt, Instr.sureAddr, ha.tmp he, ha.tmp hv, run_storeSc hs h1 hc hf], rfl⟩, rfl, hw.store hm v⟩

/-! ### Rows -/
theorem OwnR.append {P : Program} {t e : TypeId} {size bytes : Nat} {z : Value} (T : SlT P t e size bytes z) (ty : TypeId) {w : World} {B : Nat} {A : Option Addr} {n c : Nat} {xs : List Value} (hown : OwnR w B e size A n c xs)
    {B2 : Nat} {x : Value} {m : Nat} {news : List Value} (hr : Rd w B2 size x m news) (h1 : ∀ u ∈ news, u.oneCell' = true) (hbytes : (n + m) * bytes ≤ 140737488355328) (h63 : n + m ≤ 140737488355328) (hbase : B ≤ w.heap.size) :
    ∃ A' c' w', (Builtin.append_ #[t, t] ty #[.slice A n c, x]).run P w = .ok (.slice A' (n + m) c') w' ∧ OwnR w' B e size A' (n + m) c' (xs ++ news) ∧ w.grownBy w' (Ch.own e size A n c xs).fp ∧
      ((Ch.own e size A' (n + m) c' (xs ++ news)).fp = none ∨ (Ch.own e size A' (n + m) c' (xs ++ news)).fp = (Ch.own e size A n c xs).fp ∨ ∃ g, (Ch.own e size A' (n + m) c' (xs ++ news)).fp = some g ∧ w.heap.size ≤ g) := by
  obtain ⟨i, hi, hz, hsz, hby⟩ := T.hi
  subst hsz hby
  obtain ⟨X, cx, rfl, hmc, hl, hrd⟩ := hr
  obtain ⟨k1, k2, k3⟩ := hown
  have hmax : n + m ≤ maxLen := by unfold maxLen; omega
  have hlen : (xs ++ news).length = (n + m) * i.size := by rw [List.length_append, k1, hl, Nat.add_mul]
  have big : ∀ old, old < n + m → OwnR (w.drew.alloc (.cells (xs.toArray ++ news.toArray ++ Builtin.zeroCells z.cells (grownCap w (n + m) old e - (n + m))) e)) B e i.size (some ⟨w.heap.size, 0, none⟩) (n + m) (grownCap w (n + m) old e) (xs ++ news) := by
    intro old ho
    have hge := grownCap_ge w (n + m) old e
    refine ⟨hlen, hge, .inr ⟨w.heap.size, _, rfl, hbase, heap_alloc_new w.drew _, grownCap_le_maxLen w (n + m) old e hmax, ?_, ?_⟩⟩
    · simp only [Array.size_append, List.size_toArray, size_zeroCells, T.hz, k1, hl, ← Nat.add_mul]
      congr 1
      omega
    · simp only [Array.toList_append, List.append_assoc]
      rw [← List.append_assoc, ← hlen]
      exact List.take_left
  have hgrow : ∀ (o : Obj) (row : Option Nat), w.grownBy (w.drew.alloc o) row := fun o row => ⟨rfl, rfl, rfl, by simp, fun k hk _ => heap_alloc_old w.drew o hk⟩
  have hfp : ∀ c', 0 < c' → (Ch.own e i.size (some ⟨w.heap.size, 0, none⟩) (n + m) c' (xs ++ news)).fp = some w.heap.size := fun c' h => by simp [Ch.fp, Nat.pos_iff_ne_zero.1 h]
  rcases X with _ | ad
  · have hm : m = 0 := by
      rcases Nat.eq_zero_or_pos m with h0 | h0
      · exact h0
      · obtain ⟨ad, h, _⟩ := hrd h0; cases h
    subst hm
    have hn : news = [] := List.eq_nil_of_length_eq_zero (by simpa using hl)
    subst hn
    refine ⟨A, c, w, ?_, ⟨by simpa using k1, by simpa using k2, by simpa using k3⟩, World.grownBy.refl w _, .inr (.inl rfl)⟩
    rcases A with _ | a0
    · simp [Builtin.append_, run_underlying T.ht, sizeOf, typeInfo, hi, Builtin.lenOf, Builtin.firstCells, k2]
    · simp [Builtin.append_, run_underlying T.ht, sizeOf, typeInfo, hi, Builtin.lenOf, Builtin.firstCells, k2, storeCells]
  · have hnews : ∀ j u, news[j]? = some u → w.cell? (ad.add j) = some u := by
      intro j u hu
      rcases Nat.eq_zero_or_pos m with h0 | h0
      · subst h0
        have hn : news = [] := List.eq_nil_of_length_eq_zero (by simpa using hl)
        subst hn
        simp at hu
      · obtain ⟨ad', h, _, hc⟩ := hrd h0
        injection h with h
        subst h
        exact hc j u hu
    by_cases hroom : n + m ≤ c
    · by_cases hc0 : c = 0
      · have hn0 : n = 0 := by omega
        have hm0 : m = 0 := by omega
        subst hn0 hm0 hc0
        have hn : news = [] := List.eq_nil_of_length_eq_zero (by simpa using hl)
        have hx : xs = [] := List.eq_nil_of_length_eq_zero (by simpa using k1)
        subst hn hx
        refine ⟨A, 0, w, ?_, ⟨by simp, by simp, .inl rfl⟩, World.grownBy.refl w _, .inl rfl⟩
        rcases A with _ | a0
        · simp [Builtin.append_, run_underlying T.ht, sizeOf, typeInfo, hi, Builtin.lenOf, Builtin.firstCells, loadCells, loadCellsFrom]
        · simp [Builtin.append_, run_underlying T.ht, sizeOf, typeInfo, hi, Builtin.lenOf, Builtin.firstCells, loadCells, loadCellsFrom, storeCells]
      · obtain ⟨g, cur, rfl, hbg, hg, hcm, hcs, htake⟩ := k3.resolve_left hc0
        have hfit : n * i.size + news.length ≤ cur.size := by rw [hl, hcs, ← Nat.add_mul]; exact Nat.mul_le_mul_right _ hroom
        have hr := run_append_room (P := P) w t ty e i T.ht hi g n c cur hg ad m cx news hl hnews h1 hroom hfit
        refine ⟨_, _, _, hr, ⟨hlen, hroom, .inr ⟨g, _, rfl, hbg, setRow_heap w g cur _ e _ hg, hcm, ?_, ?_⟩⟩, ?_, .inr (.inl (by simp [Ch.fp, hc0]))⟩
        · simp only [List.size_toArray, List.length_append, List.length_take, List.length_drop, Array.length_toList]
          omega
        · rw [htake, ← hlen]
          exact List.take_left
        · rw [show (Ch.own e i.size (some ⟨g, 0, none⟩) n c xs).fp = some g by simp [Ch.fp, hc0]]
          exact ⟨rfl, rfl, rfl, by simp, fun k _ hk => setRow_other w g k _ (fun e => hk (by rw [e]))⟩
    · rcases A with _ | a0
      · have hc0 : c = 0 := by
          rcases k3 with h | ⟨g, _, h, _⟩
          · exact h
          · cases h
        have hn0 : n = 0 := by omega
        subst hn0 hc0
        have hx : xs = [] := List.eq_nil_of_length_eq_zero (by simpa using k1)
        subst hx
        have hr := run_append_nil (P := P) w t ty e i z T.ht hi hz ad m cx news hl hnews (by omega) (by omega) (by simp only [Nat.zero_add] at hbytes; omega)
        have hb := big 0 (by omega)
        simp only [Nat.zero_add, List.nil_append, Array.empty_append] at hb ⊢
        simp only [Nat.zero_add, List.nil_append] at hfp
        exact ⟨_, _, _, hr, hb, hgrow _ _, .inr (.inr ⟨_, hfp _ (by have := hb.2.1; omega), Nat.le_refl _⟩)⟩
      · have holds : ∀ j u, xs[j]? = some u → w.cell? (a0.add j) = some u := by
          intro j u hu
          rcases k3 with h | ⟨g, cur, h, _, hg, _, hcs, htake⟩
          · have hn0 : n = 0 := by omega
            subst hn0
            have hx : xs = [] := List.eq_nil_of_length_eq_zero (by simpa using k1)
            subst hx
            simp at hu
          · injection h with h
            subst h
            rw [Addr.add_lit, Nat.zero_add, cell_of_row w g j cur e (0, 0) hg]
            rw [← htake, List.getElem?_take] at hu
            split at hu
            · simpa using hu
            · cases hu
        have hr := run_append_grow (P := P) w t ty e i z T.ht hi hz a0 n c xs k1 holds ad m cx news hl hnews (by omega) (by omega) (growslice_fits (by omega) hbytes)
        have hb := big c (by omega)
        exact ⟨_, _, _, hr, hb, hgrow _ _, .inr (.inr ⟨_, hfp _ (by have := hb.2.1; omega), Nat.le_refl _⟩)⟩
theorem eff_app {size bytes : Nat} {zv : Value} (T : SlT C.P t e size bytes zv) {A : Option Addr} {n c : Nat} {xs : List Value} (he : ev fr x = some (.slice A n c)) (hs : Sel (.own e size A n c xs) L f) {yv : Value} {m : Nat} {news : List Value} (hy : ev fr y = some yv) (hb : Bor C.B C.w0 L size yv m news)
    (h1 : ∀ u ∈ news, u.oneCell' = true) (hbytes : (n + m) * bytes ≤ 140737488355328) (h63 : n + m ≤ 140737488355328) :
    Eff C fr L (.call { callee := .builtin .append, args := #[x, y], argTypes := #[t, t] }) ty (fun p L' => ∃ A' c', p = .slice A' (n + m) c' ∧ L' = f (.own e size A' (n + m) c' (xs ++ news))) := fun a w ha hw d pos af gg => by
  obtain ⟨A', c', w', hr, h2, h3, h4⟩ := OwnR.append T ty (hw.all _ hs.mem) (hb w hw) h1 hbytes h63 hw.base
  refine ⟨_, w', _, .inl ?_, ⟨A', c', rfl, rfl⟩, hw.sel hs h3 (fun _ => h2) h4⟩
  simp [execOp, resolve, invoke, builtin, ha.tmp he, ha.tmp hy, hr]
/-- an empty row is owned by whoever names it -/
theorem SL.nil_row {B : Nat} {w0 w : World} {L : List Ch} (h : SL B w0 L w) (e : TypeId) (size : Nat) (A : Option Addr) : SL B w0 (.own e size A 0 0 [] :: L) w := h.cons_new (World.grownBy.refl w _) ⟨by simp, Nat.le_refl _, .inl rfl⟩ (.inl rfl)
theorem vc_nil_row {cd : Code} (e : TypeId) (size : Nat) (A : Option Addr) (h : VC C cd Q fr (.own e size A 0 0 [] :: L)) : VC C cd Q fr L := fun a w ha hw => h a w ha (hw.nil_row e size A)
/-- 's[:k]' of an owned row is owned -/
theorem SL.cut_row {B : Nat} {w0 w : World} {L : List Ch} {e : TypeId} {size n c k : Nat} {A : Option Addr} {xs : List Value} {f : Ch → List Ch} (h : SL B w0 L w) (hs : Sel (.own e size A n c xs) L f) (hk : k ≤ n) : SL B w0 (f (.own e size A k c (xs.take (k * size)))) w := by
  refine h.sel hs (World.grownBy.refl w _) (fun ⟨h1, h2, h3⟩ => ⟨by rw [List.length_take, h1]; exact Nat.min_eq_left (Nat.mul_le_mul_right _ hk), by omega, ?_⟩) (.inr (.inl rfl))
  refine h3.imp id fun ⟨g, cur, k1, k2, k3, k4, k5, k6⟩ => ⟨g, cur, k1, k2, k3, k4, k5, ?_⟩
  rw [← k6, List.take_take, Nat.min_eq_left (Nat.mul_le_mul_right _ hk)]
theorem vl_cut_row {e : TypeId} {size n c : Nat} (k : Nat) {A : Option Addr} {xs : List Value} (hs : Sel (.own e size A n c xs) L f) (hk : k ≤ n) (h : VL C ops Q l fr (f (.own e size A k c (xs.take (k * size))))) : VL C ops Q l fr L := fun a w ha hw => h a w ha (hw.cut_row hs hk)
/-- a new row of what is laid into it -/
theorem eff_buildSlice {size kk : Nat} {parts : List (Nat × Operand)} (ht : C.P.underlying t = some (.slice e)) (hz : (C.P.info? e).map (·.size) = some size) (h0 : 0 < size) (hpos : 0 < kk) (hk : kk * size ≤ 1048576) {zv : Value} (hzero : (C.P.info? e).bind (·.zero) = some zv) {us : List (Nat × Value)} (hp : parts.map (fun p => (p.1, ev fr p.2)) = us.map (fun p => (p.1, some p.2)))
    (hfill : Instr.fill (fun i => some (i * size, size)) ((Array.range (kk * size)).map (zv.cells[· % zv.cells.size]!)) us = some cs.toArray) (hl : cs.length = kk * size) :
    Eff C fr L (.buildSlice t kk parts.toArray) ty (fun p L' => ∃ A, p = .slice A kk kk ∧ L' = .own e size A kk kk cs :: L) := fun a w ha hw d pos af gg => by
  have hps : parts.map (fun p => (p.1, a.eval p.2)) = us := by
    clear hfill
    induction parts generalizing us with
    | nil => cases us with | nil => rfl | cons _ _ => cases hp
    | cons p ps ih =>
      cases us with
      | nil => cases hp
      | cons u us =>
        simp only [List.map_cons, List.cons.injEq, Prod.mk.injEq] at hp
        obtain ⟨⟨h1, h2⟩, h3⟩ := hp
        simp only [List.map_cons, ha.tmp h2, h1, ih h3]
  cases hi : C.P.info? e with
  | none => rw [hi] at hz; cases hz
  | some i =>
    rw [hi] at hz hzero
    simp at hz hzero
    subst hz
    have hkk : ¬ (16777216 < kk * i.size) := by omega
    refine ⟨_, w.alloc (.cells cs.toArray e), _, .inl ?_, ⟨some ⟨w.heap.size, 0, none⟩, rfl, rfl⟩, hw.cons_new (World.grownBy_alloc w _ none) ⟨hl, Nat.le_refl _, ?_⟩ ?_⟩
    · have hk0 : ¬ kk * i.size = 0 := Nat.ne_of_gt (Nat.mul_pos hpos h0)
      simp [execOp, Instr.buildSlice, run_underlying ht, sizeOf, typeInfo, zeroValue, hi, hzero, hkk, hk0, hps, hfill, newRow]
    · by_cases hk0 : kk = 0
      · exact .inl hk0
      · exact .inr ⟨_, _, rfl, hw.base, heap_alloc_new w _, by unfold maxLen; have := Nat.le_mul_of_pos_right kk h0; omega, by simpa using hl, by simp [← hl]⟩
    · by_cases hk0 : kk = 0
      · left; simp [Ch.fp, hk0]
      · right; exact ⟨w.heap.size, by simp [Ch.fp, hk0], Nat.le_refl _⟩
end
end Go.Proofs.Ytakokckokchacaa
namespace Go.Proofs.Ytakokckokchacaa
open Go.RowKit
set_option linter.unusedVariables false
section
variable {C : Cx} {Q : Exit → Fr → List Ch → Prop} {fr fr' : Fr} {L L' : List Ch} {ops : Array Oper} {l : List Oper} {op : Op} {ty : TypeId} {pos : String} {af : Array Edge} {d : Nat} {v : Value}
variable {x y z : Operand} {k : IntKind} {m n : Int} {f : Ch → List Ch} {g o : Nat} {bt t e : TypeId} {cs : List Value}
theorem opt_add0 (A : Option Addr) : A.map (·.add 0) = A := by cases A <;> rfl
theorem det_slice_lo {A : Option Addr} {nn c i size : Nat} (ht : C.P.underlying t = some (.slice e)) (hz : (C.P.info? e).map (·.size) = some size) (he : ev fr x = some (.slice A nn c)) (hy : ev fr y = some (.int k m)) (hm : m = (i : Int)) (hi : i ≤ nn) :
    Det C fr L (.slice t x (some y) none none) ty (.slice (if c = i then A else A.map (·.add (i * size))) (nn - i) (c - i)) := fun a w ha hw d pos af gg => by
  subst hm
  simp [execOp, Instr.sliceAt, Instr.slice, Instr.sliceBounds, Instr.sliceBound, asIntOf, run_underlying ht, ha.tmp he, ha.tmp hy, hi, isSz hz]
theorem det_slice_hi {A : Option Addr} {nn c i size : Nat} (ht : C.P.underlying t = some (.slice e)) (hz : (C.P.info? e).map (·.size) = some size) (he : ev fr x = some (.slice A nn c)) (hy : ev fr y = some (.int k m)) (hm : m = (i : Int)) (hi : i ≤ c) :
    Det C fr L (.slice t x none (some y) none) ty (.slice A i c) := fun a w ha hw d pos af gg => by
  subst hm
  simp [execOp, Instr.sliceAt, Instr.slice, Instr.sliceBounds, Instr.sliceBound, asIntOf, run_underlying ht, ha.tmp he, ha.tmp hy, hi, isSz hz, opt_add0]
theorem extract_mk (s : List UInt8) (i j : Nat) : (⟨s.toArray⟩ : ByteArray).extract i j = ⟨((s.take j).drop i).toArray⟩ := by
  apply ByteArray.ext
  rw [ByteArray.data_extract]
  simp [List.extract_eq_take_drop, List.drop_take]
theorem size_mk (s : List UInt8) : (⟨s.toArray⟩ : ByteArray).size = s.length := by simp [ByteArray.size]
theorem det_str_lo {s : List UInt8} {i : Nat} (ht : C.P.underlying t = some .string) (he : ev fr x = some (.string ⟨s.toArray⟩)) (hy : ev fr y = some (.int k m)) (hm : m = (i : Int)) (hi : i ≤ s.length) :
    Det C fr L (.slice t x (some y) none none) ty (.string ⟨(s.drop i).toArray⟩) := fun a w ha hw d pos af gg => by
  subst hm
  have h1 : s.take s.length = s := List.take_length
  simp [execOp, Instr.sliceAt, Instr.slice, Instr.sliceBounds, Instr.sliceBound, asIntOf, run_underlying ht, ha.tmp he, ha.tmp hy, size_mk, hi, extract_mk]
theorem det_str_hi {s : List UInt8} {i : Nat} (ht : C.P.underlying t = some .string) (he : ev fr x = some (.string ⟨s.toArray⟩)) (hy : ev fr y = some (.int k m)) (hm : m = (i : Int)) (hi : i ≤ s.length) :
    Det C fr L (.slice t x none (some y) none) ty (.string ⟨(s.take i).toArray⟩) := fun a w ha hw d pos af gg => by
  subst hm
  simp [execOp, Instr.sliceAt, Instr.slice, Instr.sliceBounds, Instr.sliceBound, asIntOf, run_underlying ht, ha.tmp he, ha.tmp hy, size_mk, hi, extract_mk]
theorem det_str_both {s : List UInt8} {i j : Nat} {k' : IntKind} (ht : C.P.underlying t = some .string) (he : ev fr x = some (.string ⟨s.toArray⟩)) (hy : ev fr y = some (.int k m)) (hm : m = (i : Int)) (hz : ev fr z = some (.int k' n)) (hn : n = (j : Int)) (hij : i ≤ j) (hj : j ≤ s.length) :
    Det C fr L (.slice t x (some y) (some z) none) ty (.string ⟨((s.take j).drop i).toArray⟩) := fun a w ha hw d pos af gg => by
  subst hm
  subst hn
  simp [execOp, Instr.sliceAt, Instr.slice, Instr.sliceBounds, Instr.sliceBound, asIntOf, run_underlying ht, ha.tmp he, ha.tmp hy, ha.tmp hz, size_mk, hij, hj, extract_mk]
theorem run_binStr {P : Program} {w : World} {op : BinOp} {xt : TypeId} (a : Act) (d : Option Tmp) (pos : String) (af : Array Edge) (gg : Option (Nat × Bool)) {yt : TypeId} {s r : ByteArray} (h1 : a.eval x = .string s) (h2 : a.eval y = .string r) (hs : op ≠ .shl ∧ op ≠ .shr) :
    (execOp a.eval ⟨d, .binOp op xt x y yt, ty, pos, af, gg⟩).run P w = ((Op.stringOp op s r).run P w).andThen fun v w => .ok (.value v) w := by
  have he : (eqGuard op xt x y (.string s) (.string r)).run P w = .ok () w := by cases op <;> simp [eqGuard]
  obtain ⟨hs1, hs2⟩ := hs
  cases op <;> simp_all [execOp, binOp]
theorem beq_dec (s r : List UInt8) : (s == r) = decide (s = r) := by rw [Bool.eq_iff_iff]; simp
section
variable {s r : List UInt8} {xt yt : TypeId}
theorem det_s_eql (h1 : ev fr x = some (.string ⟨s.toArray⟩)) (h2 : ev fr y = some (.string ⟨r.toArray⟩)) : Det C fr L (.binOp .eql xt x y yt) ty (.bool (decide (s = r))) := fun a w ha hw d pos af gg => by
  rw [run_binStr a d pos af gg (ha.tmp h1) (ha.tmp h2) ⟨by decide, by decide⟩]; simp [Op.stringOp, beq_dec]
theorem det_s_neq (h1 : ev fr x = some (.string ⟨s.toArray⟩)) (h2 : ev fr y = some (.string ⟨r.toArray⟩)) : Det C fr L (.binOp .neq xt x y yt) ty (.bool (decide (¬ s = r))) := fun a w ha hw d pos af gg => by
  rw [run_binStr a d pos af gg (ha.tmp h1) (ha.tmp h2) ⟨by decide, by decide⟩]; simp [Op.stringOp, beq_dec]
theorem det_s_add (h1 : ev fr x = some (.string ⟨s.toArray⟩)) (h2 : ev fr y = some (.string ⟨r.toArray⟩)) (hl : s.length + r.length ≤ 9223372036854775807) : Det C fr L (.binOp .add xt x y yt) ty (.string ⟨(s ++ r).toArray⟩) := fun a w ha hw d pos af gg => by
  rw [run_binStr a d pos af gg (ha.tmp h1) (ha.tmp h2) ⟨by decide, by decide⟩]
  have h3 : ((⟨s.toArray⟩ : ByteArray) ++ (⟨r.toArray⟩ : ByteArray)) = ⟨(s ++ r).toArray⟩ := ByteArray.mk_append_mk s r
  have h4 : (s.length : Int) + (r.length : Int) ≤ 9223372036854775807 := by omega
  simp [Op.stringOp, size_mk, h4, h3]
end
/-- bytes made a text -/
theorem det_bstr {s : TypeId} {nn : Nat} {b : List UInt8} (h1 : C.P.underlying s = some (.slice e)) (h2 : C.P.underlying e = some (.int .u8)) (h3 : C.P.underlying t = some .string) (he : ev fr x = some v) (hb : Bor C.B C.w0 L 1 v nn (bv b)) : Det C fr L (.convert s t x) ty (.string ⟨b.toArray⟩) := fun a w ha hw d pos af gg => by
  simp [execOp, ha.tmp he, run_bstr h1 h2 h3 (hb w hw)]
theorem det_bool_eql {b b' : Bool} {xt yt : TypeId} (ht : C.P.underlying xt = some .bool) (h1 : ev fr x = some (.bool b)) (h2 : ev fr y = some (.bool b')) : Det C fr L (.binOp .eql xt x y yt) ty (.bool (decide (b = b'))) := fun a w ha hw d pos af gg => by
  have he : (eqGuard .eql xt x y (.bool b) (.bool b')).run C.P w = .ok () w := by simp [eqGuard]
  have e1 : (binOp .eql xt (.bool b) (.bool b')).run C.P w = .ok (.bool (decide (b = b'))) w := by
    simp only [binOp]
    simp [run_equal_bool w xt b b' ht]
    rfl
  simp only [execOp, ha.tmp h1, ha.tmp h2, Sem.run_bind, he, e1, Result.andThen_ok, Sem.run_pure]
theorem det_bool_neq {b b' : Bool} {xt yt : TypeId} (ht : C.P.underlying xt = some .bool) (h1 : ev fr x = some (.bool b)) (h2 : ev fr y = some (.bool b')) : Det C fr L (.binOp .neq xt x y yt) ty (.bool (decide (¬ b = b'))) := fun a w ha hw d pos af gg => by
  have he : (eqGuard .neq xt x y (.bool b) (.bool b')).run C.P w = .ok () w := by simp [eqGuard]
  have e1 : (binOp .neq xt (.bool b) (.bool b')).run C.P w = .ok (.bool (decide (¬ b = b'))) w := by
    simp only [binOp]
    simp [run_equal_bool w xt b b' ht]
    cases b <;> cases b' <;> rfl
  simp only [execOp, ha.tmp h1, ha.tmp h2, Sem.run_bind, he, e1, Result.andThen_ok, Sem.run_pure]
theorem OwnR.set_ {w : World} {B : Nat} {e : TypeId} {size nn c j : Nat} {A : Option Addr} {xs : List Value} (h : OwnR w B e size A nn c xs) (hj : j < xs.length) (u : Value) : ∃ ad, A = some ad ∧ (Ch.own e size A nn c xs).fp = some ad.block ∧ (∃ u, w.cell? (ad.add j) = some u) ∧ w.frozen? (ad.add j) = false ∧
    w.grownBy (w.setCell (ad.add j) u) (some ad.block) ∧ OwnR (w.setCell (ad.add j) u) B e size A nn c (xs.set j u) := by
  obtain ⟨h1, h2, h3⟩ := h
  have hc0 : ¬ c = 0 := fun h0 => by
    have : nn = 0 := by omega
    subst this
    simp at h1
    simp [h1] at hj
  obtain ⟨g, cur, rfl, k1, k2, k3, k4, k5⟩ := h3.resolve_left hc0
  have hadd : (⟨g, 0, none⟩ : Addr).add j = ⟨g, j, none⟩ := by rw [Addr.add_lit, Nat.zero_add]
  have hjc : j < cur.size := by
    have := congrArg List.length k5
    simp at this
    omega
  have hblk : Blk w g e cur := k2
  refine ⟨_, rfl, by simp [Ch.fp, hc0], ⟨cur[j], ?_⟩, ?_, only_setCell (World.grownBy.refl w _) (.inl (by rw [hadd])) u, by simpa using h1, h2, .inr ⟨g, cur.setIfInBounds j u, rfl, k1, ?_, k3, by simpa using k4, ?_⟩⟩
  · rw [hadd, hblk.cell j, Array.getElem?_eq_getElem hjc]
  · rw [hadd]; exact hblk.frozen j
  · rw [hadd]; exact hblk.set_ j u
  · rw [Array.toList_setIfInBounds, List.take_set, k5]
theorem eff_store_row {size nn c j : Nat} {A : Option Addr} {xs : List Value} (hs : isSc C.P t = true) (he : ev fr x = some (.pointer (A.map (·.add j)))) (hv : ev fr y = some v) (h1 : v.oneCell' = true) (hm : Sel (.own e size A nn c xs) L f) (hj : j < xs.length) :
    Eff C fr L (.store t x y) ty (fun p L' => L' = f (.own e size A nn c (xs.set j v))) := fun a w ha hw d pos af gg => by
  obtain ⟨ad, rfl, hfp, ⟨u, hu⟩, hfz, hg, ho⟩ := OwnR.set_ (hw.all _ hm.mem) hj v
  exact ⟨undef, _, _, .inr ⟨by simp [execOp, Instr.storeAt, Instr.sureAddr, ha.tmp he, ha.tmp hv, run_storeSc hs h1 hu hfz], rfl⟩, rfl, hw.sel hm (by rw [hfp]; exact hg) (fun _ => ho) (.inr (.inl rfl))⟩
/-! ### Regions that draw their order -/
def VQ (C : Cx) (ops : Array Oper) (L : List Ch) (Q : Fr → Prop) (l : List Oper) (fr : Fr) : Prop := ∀ a, Agr C.N fr a → wpQuiet C.P ops (SL C.B C.w0 L) (fun a' => ∃ fr', Agr C.N fr' a' ∧ Q fr') l a
theorem vq_region {id : Nat} {l : List Oper} (hm : C.P.follows .mixedOrders = true) (hB : Region.lexB .any l.toArray = true) (h : VQ C l.toArray L (fun fr' => Q .normal fr' L) l fr) : VC C (.region id l.toArray true) Q fr L := fun a w ha hw => by
  refine wp_region_quiet (C := SL C.B C.w0 L) hm hB (hw.drewN 1) ?_
  have := h a ha
  have hmono : ∀ (l : List Oper) (a : Act) {ops : Array Oper} {QQ QQ' : Act → Prop}, (∀ a, QQ a → QQ' a) → wpQuiet C.P ops (SL C.B C.w0 L) QQ l a → wpQuiet C.P ops (SL C.B C.w0 L) QQ' l a := by
    intro l
    induction l with
    | nil => intro a ops QQ QQ' hq h; exact hq _ h
    | cons o l ih =>
      intro a ops QQ QQ' hq h
      unfold wpQuiet at h ⊢
      split
      · rename_i hw; rw [if_pos hw] at h; exact Oper.quiet_mono (fun a h => ih a hq h) h
      · rename_i hw; rw [if_neg hw] at h; exact ih _ hq h
  simpa using hmono l a (fun a' ⟨fr', h1, h2⟩ w' hw' => ⟨fr', L, h1, hw', h2⟩) this
section
variable {QF : Fr → Prop}
theorem vq_end (fr' : Fr) (hs : Sub fr fr') (h : QF fr') : VQ C ops L QF [] fr := fun a ha => wpQuiet_nil ⟨fr', ha.sub hs, h⟩
theorem vq_det (h : Det C fr L op ty v) (hd : Nat.blt d C.N = true) (k : VQ C ops L QF l ((d, v) :: fr)) : VQ C ops L QF (⟨some d, op, ty, pos, af, none⟩ :: l) fr := fun a ha =>
  wpQuiet_step fun K hK => by
    rw [if_pos (by rfl)]
    exact ⟨v, fun w hw => by unfold Oper.quietAt; rw [h a w ha hw]; exact ⟨rfl, rfl⟩, hK _ (k _ (ha.put hd v))⟩
theorem vq_call {f : FuncId} {as_ : List Operand} {ats : Array TypeId} {vs : List Value} {R : Value → List Ch → Prop} (hc : Callable C.P f) (he : evs fr as_ = some vs) (h : Does C.P C.B C.w0 f vs L R) (hR : ∀ r L', R r L' → r = v ∧ L.Sublist L') (hd : Nat.blt d C.N = true)
    (k : VQ C ops L QF l ((d, v) :: fr)) : VQ C ops L QF (⟨some d, .call { callee := .value (.func f), args := as_.toArray, argTypes := ats }, ty, pos, af, none⟩ :: l) fr := fun a ha =>
  wpQuiet_step fun K hK => by
    rw [if_pos (by rfl)]
    refine ⟨v, fun w hw => ?_, hK _ (k _ (ha.put hd v))⟩
    unfold Oper.quietAt
    rw [execOp_callv hc (fst := #[]) (cap := #[]) rfl, ha.evs he, Array.append_empty, Array.empty_append]
    exact ⟨rfl, (h w hw).mono fun e w' ⟨r, L', he, hr, hs⟩ => by obtain ⟨rfl, h2⟩ := hR r L' hr; exact ⟨he, hs.sub h2⟩⟩
theorem vq_unguard {dd : Option Tmp} {gu : Nat × Bool} {QQ : Act → Prop} {a : Act} (hw : Region.wanted ⟨dd, op, ty, pos, af, some gu⟩ (yielded ops a.tmps) = true) (h : wpQuiet C.P ops (SL C.B C.w0 L) QQ (⟨dd, op, ty, pos, af, none⟩ :: l) a) :
    wpQuiet C.P ops (SL C.B C.w0 L) QQ (⟨dd, op, ty, pos, af, some gu⟩ :: l) a := by
  unfold wpQuiet at h ⊢
  rw [if_pos (by rfl)] at h
  rw [if_pos hw]
  exact h
theorem vq_skip_ {dd : Option Tmp} {gu : Nat × Bool} {QQ : Act → Prop} {a : Act} (hw : Region.wanted ⟨dd, op, ty, pos, af, some gu⟩ (yielded ops a.tmps) = false) (h : wpQuiet C.P ops (SL C.B C.w0 L) QQ l (a.put dd undef)) :
    wpQuiet C.P ops (SL C.B C.w0 L) QQ (⟨dd, op, ty, pos, af, some gu⟩ :: l) a := by
  unfold wpQuiet
  rw [if_neg (by rw [hw]; exact Bool.false_ne_true)]
  exact h
theorem vq_guard_t {dd : Option Tmp} {j t : Nat} {want : Bool} (hj : (ops[j]?).bind (·.dst) = some t) (ht : look t fr = some (.bool want)) (k : VQ C ops L QF (⟨dd, op, ty, pos, af, none⟩ :: l) fr) :
    VQ C ops L QF (⟨dd, op, ty, pos, af, some (j, want)⟩ :: l) fr := fun a ha =>
  vq_unguard (by rw [wanted_iff hj (ha.at_ _ _ ht)]; simp) (k a ha)
theorem vq_guard_f {j t : Nat} {want b : Bool} (hj : (ops[j]?).bind (·.dst) = some t) (ht : look t fr = some (.bool b)) (hb : (b == want) = false) (hd : Nat.blt d C.N = true) (k : VQ C ops L QF l ((d, undef) :: fr)) :
    VQ C ops L QF (⟨some d, op, ty, pos, af, some (j, want)⟩ :: l) fr := fun a ha =>
  vq_skip_ (by rw [wanted_iff hj (ha.at_ _ _ ht)]; exact hb) (k _ (ha.put hd _))
theorem vq_guard {j t : Nat} {want b : Bool} (hj : (ops[j]?).bind (·.dst) = some t) (ht : look t fr = some (.bool b)) (hd : Nat.blt d C.N = true)
    (k1 : b = want → VQ C ops L QF (⟨some d, op, ty, pos, af, none⟩ :: l) ((t, .bool want) :: fr)) (k2 : b = !want → VQ C ops L QF l ((d, undef) :: (t, .bool !want) :: fr)) :
    VQ C ops L QF (⟨some d, op, ty, pos, af, some (j, want)⟩ :: l) fr := fun a ha => by
  by_cases hb : b = want
  · exact vq_unguard (by rw [wanted_iff hj (ha.at_ _ _ ht)]; simpa using hb) (k1 hb a (ha.bool ht hb))
  · have hb' : b = !want := by cases b <;> cases want <;> simp_all
    exact vq_skip_ (by rw [wanted_iff hj (ha.at_ _ _ ht)]; simpa using hb) (k2 hb' _ ((ha.bool ht hb').put hd _))
end
theorem vq_guardp {QF : Fr → Prop} {j t : Nat} {p : Prop} [Decidable p] (hj : (ops[j]?).bind (·.dst) = some t) (ht : look t fr = some (.bool (decide p))) (hd : Nat.blt d C.N = true)
    (k1 : p → VQ C ops L QF (⟨some d, op, ty, pos, af, none⟩ :: l) ((t, .bool true) :: fr)) (k2 : ¬ p → VQ C ops L QF l ((d, undef) :: (t, .bool false) :: fr)) :
    VQ C ops L QF (⟨some d, op, ty, pos, af, some (j, true)⟩ :: l) fr :=
  vq_guard hj ht hd (fun h => k1 (of_decide_eq_true h)) (fun h => k2 (of_decide_eq_false h))
end
end Go.Proofs.Ytakokckokchacaa
namespace Go.Proofs.Ytakokckokchacaa
open Go.RowKit
set_option linter.unusedVariables false
/-- texts as_ values -/
def strs (l : List (List UInt8)) : List Value := l.map fun t => .string ⟨t.toArray⟩
@[simp] theorem strs_append (l k : List (List UInt8)) : strs (l ++ k) = strs l ++ strs k := by simp [strs]
@[simp] theorem strs_length (l : List (List UInt8)) : (strs l).length = l.length := by simp [strs]
theorem strs_one (l : List (List UInt8)) : ∀ u ∈ strs l, u.oneCell' = true := by
  intro u hu; obtain ⟨b, _, rfl⟩ := List.mem_map.1 hu; rfl
/-- numbers as_ values -/
def ints (k : IntKind) (l : List Int) : List Value := l.map (.int k)
@[simp] theorem ints_append (k : IntKind) (l r : List Int) : ints k (l ++ r) = ints k l ++ ints k r := by simp [ints]
@[simp] theorem ints_length (k : IntKind) (l : List Int) : (ints k l).length = l.length := by simp [ints]
theorem ints_one (k : IntKind) (l : List Int) : ∀ u ∈ ints k l, u.oneCell' = true := by
  intro u hu; obtain ⟨b, _, rfl⟩ := List.mem_map.1 hu; rfl
theorem w_i64 {x : Int} (h1 : -9223372036854775808 ≤ x) (h2 : x ≤ 9223372036854775807) : IntKind.i64.wrap x = x := by rw [IntKind.wrap_i64]; omega
theorem w_u64 {x : Int} (h1 : 0 ≤ x) (h2 : x < 18446744073709551616) : IntKind.u64.wrap x = x := by
  show x % 2 ^ 64 = x
  exact Int.emod_eq_of_lt h1 h2
theorem w_u8 {x : Int} (h1 : 0 ≤ x) (h2 : x < 256) : IntKind.u8.wrap x = x := by
  show x % 2 ^ 8 = x
  exact Int.emod_eq_of_lt h1 h2
theorem int_to {k : IntKind} {a b : Int} (h : a = b) : some (Value.int k a) = some (.int k b) := by rw [h]
section
variable {C : Cx} {Q : Exit → Fr → List Ch → Prop} {fr fr' : Fr} {L L' : List Ch} {cd cd' : Code} {ops : Array Oper} {l : List Oper} {op : Op} {ty : TypeId} {pos : String} {af : Array Edge} {d : Nat} {v : Value}
variable {x y z : Operand} {k : IntKind} {m n : Int} {f : Ch → List Ch} {g o : Nat} {bt t e : TypeId} {cs : List Value}
def InJ (J : Fr → List Ch → Nat → Prop) (n : Nat) (Q : Exit → Fr → List Ch → Prop) : Exit → Fr → List Ch → Prop
  | .normal, fr, L => ∃ n', n' < n ∧ J fr L n'
  | e, fr, L => Q e fr L
theorem vc_loopJ (J : Fr → List Ch → Nat → Prop) (n0 : Nat) (h0 : J fr L n0) (round : ∀ n fr L, J fr L n → VC C cd (InJ J n Q) fr L) : VC C (.loop cd) Q fr L := fun a w ha hw => by
  refine wp_loop_ghost (fun n a w => ∃ fr L, J fr L n ∧ Agr C.N fr a ∧ SL C.B C.w0 L w) n0 ⟨fr, L, h0, ha, hw⟩ ?_
  rintro n a w ⟨fr, L, hJ, ha, hw⟩
  refine wp_mono (round n fr L hJ a w ha hw) fun e a w ⟨fr, L, ha, hs, hq⟩ => ?_
  cases e with
  | normal =>
    obtain ⟨n', k1, k2⟩ := hq
    exact ⟨n', k1, fr, L, k2, ha, hs⟩
  | _ => exact ⟨fr, L, ha, hs, hq⟩
theorem in_loop_ {J : Fr → List Ch → Nat → Prop} {n : Nat} (h : ∃ n', n' < n ∧ J fr L n') : InJ J n Q .normal fr L := h
theorem loop_exit {J : Fr → List Ch → Nat → Prop} {n i : Nat} (h : Q (.exit i) fr L) : InJ J n Q (.exit i) fr L := h
theorem loop_ret {J : Fr → List Ch → Nat → Prop} {n : Nat} (h : Q .ret fr L) : InJ J n Q .ret fr L := h
theorem then_exit {i : Nat} (h : Q (.exit i) fr L) : Then C cd Q (.exit i) fr L := h
theorem then_ret (h : Q .ret fr L) : Then C cd Q .ret fr L := h
def InM (J : Fr → List Ch → Prop) (Q : Exit → Fr → List Ch → Prop) : Exit → Fr → List Ch → Prop
  | .normal, fr, L => J fr L
  | e, fr, L => Q e fr L
/-- ways that meet: what holds of them all -/
theorem vc_seqJ (J : Fr → List Ch → Prop) (h1 : VC C cd (InM J Q) fr L) (h2 : ∀ fr L, J fr L → VC C cd' Q fr L) : VC C (.seq cd cd') Q fr L :=
  vc_seq fun a w ha hw => wp_mono (h1 a w ha hw) fun e a w ⟨fr, L, ha, hs, hq⟩ => by
    cases e with
    | normal => exact ⟨fr, L, ha, hs, h2 _ _ hq⟩
    | _ => exact ⟨fr, L, ha, hs, hq⟩
theorem in_join {J : Fr → List Ch → Prop} (h : J fr L) : InM J Q .normal fr L := h
theorem in_exit {i id : Nat} (hi : Nat.beq i id = false) (h : Q (.exit i) fr L) : InB id Q (.exit i) fr L := in_ne hi h
theorem ret_drop {P : Program} {fn : Func} {R : Value → List Ch → Prop} {e : Exit} (hs : L'.Sublist L) (h : Ret P fn R e fr L') : Ret P fn R e fr L := by
  cases e <;> first
    | exact h
    | (intro B w0 a w ha hw; exact h B w0 a w ha (hw.sub hs))
theorem fn_walk {P : Program} {B : Nat} {w0 : World} {f : FuncId} {fn : Func} {c : Code} {args : List Value} {R : Value → List Ch → Prop} (hf : P.funcs[f]? = some fn) (N : Nat) (hN : fn.ntmps = N) (hb : fn.body = some c) (hl : Nat.ble args.length N = true) (fr0 : Fr) (hi : Ini N args fr0)
    (h : VC ⟨P, N, B, w0⟩ c (Ret P fn R) fr0 L) : Does P B w0 f args L R := by
  subst hN
  exact fn_of hf hb (Nat.le_of_ble_eq_true hl) fr0 hi h
theorem callable {P : Program} {f : FuncId} {fn : Func} (hf : P.funcs[f]? = some fn) (hn : (fn.name == "runtime.NumGoroutine") = false) (hb : fn.body.isSome = true) : Callable P f := by
  obtain ⟨c, hc⟩ := Option.isSome_iff_exists.1 hb
  exact ⟨fn, c, hf, hn, hc⟩
/-- a letter of a text -/
theorem det_at_str {s : List UInt8} {i : Nat} (ht : C.P.underlying t = some .string) (h : ev fr x = some (.string ⟨s.toArray⟩)) (h2 : ev fr y = some (.int k m)) (hm : m = (i : Int)) (hi : i < s.length) : Det C fr L (.index t x y) ty (.int .u8 ((s.getD i 0).toNat : Int)) :=
  det_index_str ht h h2 hm (by rw [List.getElem?_eq_getElem hi]; simp [List.getD, List.getElem?_eq_getElem hi])
section
variable {nn c j : Nat} {A : Option Addr}
theorem Bor.len {B : Nat} {w0 w : World} {L : List Ch} {size n : Nat} {v : Value} {xs : List Value} (h : Bor B w0 L size v n xs) (hw : SL B w0 L w) : xs.length = n * size := by
  obtain ⟨_, _, _, _, hl, _⟩ := h w hw
  exact hl
theorem det_load_str {b : List (List UInt8)} (hs : isSc C.P t = true) (he : ev fr x = some (.pointer (A.map (·.add (j * 1))))) (hb : Bor C.B C.w0 L 1 (.slice A nn c) nn (strs b)) (hj : j < nn) : Det C fr L (.load t x) ty (.string ⟨(b.getD j []).toArray⟩) := fun a w ha hw => by
  have hl := hb.len hw
  simp at hl
  rw [Nat.mul_one] at he
  refine det_load_row hs he hb (by omega) ?_ a w ha hw
  simp [strs, List.getD, List.getElem?_eq_getElem (show j < b.length by omega)]
end
/-- 'append(s, v)' of one element of one cell -/
theorem eff_build1 {zv : Value} {bytes : Nat} (T : SlT C.P t e 1 bytes zv) (he : ev fr x = some v) (h1 : v.oneCell' = true) : Eff C fr L (.buildSlice t 1 #[(0, x)]) ty (fun p L' => ∃ A, p = .slice A 1 1 ∧ L' = .own e 1 A 1 1 [v] :: L) := fun a w ha hw d pos af gg => by
  obtain ⟨i, hi, hz, hsz, hby⟩ := T.hi
  have hv : v.cells = #[v] := by cases v <;> simp_all [Value.cells, Value.oneCell']
  have hzs := T.hz
  refine ⟨_, w.alloc (.cells #[v] e), _, .inl ?_, ⟨some ⟨w.heap.size, 0, none⟩, rfl, rfl⟩, hw.cons_new (World.grownBy_alloc w _ none) ⟨rfl, Nat.le_refl _, .inr ⟨_, _, rfl, hw.base, heap_alloc_new w _, by decide, rfl, rfl⟩⟩ (.inr ⟨w.heap.size, rfl, Nat.le_refl _⟩)⟩
  simp [execOp, Instr.buildSlice, run_underlying T.ht, sizeOf, typeInfo, zeroValue, hi, hz, hsz, ha.tmp he, Instr.fill, hv, hzs, newRow]
  simp [Array.range_succ, Array.range_zero']
theorem vl_push {zv : Value} {bytes d1 d2 : Nat} {ty1 ty2 : TypeId} {pos1 pos2 : String} {af1 af2 : Array Edge} {s : Operand} {A : Option Addr} {n c : Nat} {xs : List Value} (T : SlT C.P t e 1 bytes zv) (he : ev fr x = some v) (h1 : v.oneCell' = true) (hd1 : Nat.blt d1 C.N = true) (hd2 : Nat.blt d2 C.N = true)
    (hs : ev ((d1, .slice none 0 0) :: fr) s = some (.slice A n c)) (hsn : ∀ u, ev ((d1, u) :: fr) s = ev ((d1, .slice none 0 0) :: fr) s) (hl : Sel (.own e 1 A n c xs) L f) (hbytes : (n + 1) * bytes ≤ 140737488355328) (h63 : n + 1 ≤ 140737488355328)
    (kk : ∀ A1 A' c', VL C ops Q l ((d2, .slice A' (n + 1) c') :: (d1, .slice A1 1 1) :: fr) (f (.own e 1 A' (n + 1) c' (xs ++ [v])))) :
    VL C ops Q (⟨some d1, .buildSlice t 1 #[(0, x)], ty1, pos1, af1, none⟩ :: ⟨some d2, .call { callee := .builtin .append, args := #[s, .tmp d1], argTypes := #[t, t] }, ty2, pos2, af2, none⟩ :: l) fr L := by
  refine vl_eff (eff_build1 T he h1) hd1 ?_
  rintro _ _ ⟨A1, rfl, rfl⟩
  refine vl_eff (eff_app (m := 1) (news := [v]) T ((hsn _).trans hs) (.tl hl) (yv := .slice A1 1 1) (by simp [ev, look]) (Bor.own (List.Mem.head _)) (by simp [h1]) hbytes h63) hd2 ?_
  rintro _ _ ⟨A2, c2, rfl, rfl⟩
  intro a w ha hw
  exact kk A1 A2 c2 a w ha hw.tail
theorem bool_to {p q : Prop} [Decidable p] [Decidable q] (h : p ↔ q) : some (Value.bool (decide p)) = some (.bool (decide q)) := by rw [decide_eq_decide.2 h]
theorem bool_to_t {q : Prop} [Decidable q] (h : q) : some (Value.bool true) = some (.bool (decide q)) := by rw [decide_eq_true h]
theorem bool_to_f {q : Prop} [Decidable q] (h : ¬ q) : some (Value.bool false) = some (.bool (decide q)) := by rw [decide_eq_false h]
theorem bool_to_b {b : Bool} {q : Prop} [Decidable q] (h : b = true ↔ q) : some (Value.bool b) = some (.bool (decide q)) := by
  cases b
  · rw [decide_eq_false (by simpa using h)]
  · rw [decide_eq_true (by simpa using h)]
/-- ways within a region that meet at a test -/
theorem vl_cut (n d : Nat) (base : Fr) (p : Prop) [Decidable p] (hs : Sub fr base) (h1 : VL C ops (fun e fr L' => e = .normal ∧ L' = L ∧ Sub fr base ∧ look d fr = some (.bool (decide p))) (l.take n) fr L) (h2 : VL C ops Q (l.drop n) ((d, .bool (decide p)) :: base) L) : VL C ops Q l fr L := fun a w ha hw => by
  have hcat : ∀ (l1 l2 : List Oper) (a : Act) (w : World), wpList C.P ops (fun e a w => e = .normal ∧ wpList C.P ops (lift C Q) l2 a w) l1 a w → wpList C.P ops (lift C Q) (l1 ++ l2) a w := by
    intro l1 l2
    induction l1 with
    | nil => intro a w h; exact h.2
    | cons o l1 ih =>
      intro a w h
      rw [List.cons_append]
      unfold wpList at h ⊢
      split
      · rename_i hwt
        rw [if_pos hwt] at h
        rcases h with h | ⟨_, _, _, h, _⟩
        · refine .inl ?_
          unfold Oper.wp at h ⊢
          revert h
          generalize (execOp a.eval o).run C.P w = r
          intro h
          unfold Oper.upon at h ⊢
          split <;> simp only at h
          · exact ih _ _ h
          · exact ih _ _ h
          · exact ih _ _ h
          · refine Calls.mono h fun e w' he => ?_
            cases e with
            | returned v => exact ih _ _ he
            | panicked ch => cases he.1
            | outgrown => obtain ⟨_, _, h, _⟩ := he; cases h
          · exact Rows.mono h fun v w' he => ih _ _ he
          · cases h.1
        · cases h
      · rename_i hwt
        rw [if_neg hwt] at h
        exact ih _ _ h
  have := hcat (l.take n) (l.drop n) a w ?_
  · rwa [List.take_append_drop] at this
  · have hm : ∀ (l1 : List Oper) (a : Act) (w : World) {QQ QQ' : Exit → Act → World → Prop}, (∀ e a w, QQ e a w → QQ' e a w) → wpList C.P ops QQ l1 a w → wpList C.P ops QQ' l1 a w := by
      intro l1
      induction l1 with
      | nil => intro a w QQ QQ' hq h; exact hq _ _ _ h
      | cons o l1 ih =>
        intro a w QQ QQ' hq h
        unfold wpList at h ⊢
        split
        · rename_i hwt
          rw [if_pos hwt] at h
          rcases h with h | ⟨h1, a0, w0', h2⟩
          · refine .inl ?_
            unfold Oper.wp at h ⊢
            revert h
            generalize (execOp a.eval o).run C.P w = r
            intro h
            unfold Oper.upon at h ⊢
            split <;> simp only at h
            · exact ih _ _ hq h
            · exact ih _ _ hq h
            · exact ih _ _ hq h
            · refine Calls.mono h fun e w' he => ?_
              cases e with
              | returned v => exact ih _ _ hq he
              | panicked ch => exact hq _ _ _ he
              | outgrown => obtain ⟨a1, w1, h⟩ := he; exact ⟨a1, w1, hq _ _ _ h⟩
            · exact Rows.mono h fun v w' he => ih _ _ hq he
            · exact hq _ _ _ h
          · exact .inr ⟨h1, a0, w0', hq _ _ _ h2⟩
        · rename_i hwt
          rw [if_neg hwt] at h
          exact ih _ _ hq h
    refine hm _ _ _ ?_ (h1 a w ha hw)
    rintro e a w ⟨fr', L', ha', hw', rfl, rfl, hb, hd⟩
    refine ⟨rfl, h2 a w ⟨ha'.defers, ha'.size, fun t v ht => ?_⟩ hw'⟩
    unfold look at ht
    cases hbe : Nat.beq d t with
    | true =>
      have := Nat.eq_of_beq_eq_true hbe
      subst this
      rw [hbe] at ht
      simp only [cond_true, Option.some.injEq] at ht
      subst ht
      exact ha'.at_ _ _ hd
    | false =>
      rw [hbe] at ht
      exact ha'.at_ _ _ (hb.look _ _ ht)
theorem vl_cut_end {base : Fr} {d : Nat} {u : Value} (hb : Sub fr base) (hd : look d fr = some u) : VL C ops (fun e fr L' => e = .normal ∧ L' = L ∧ Sub fr base ∧ look d fr = some u) [] fr L := fun a w ha hw => wpList_nil ⟨fr, L, ha, hw, rfl, rfl, hb, hd⟩
theorem vq_cut {QF : Fr → Prop} (n d : Nat) (base : Fr) (p : Prop) [Decidable p] (hs : Sub fr base) (h1 : VQ C ops L (fun fr => Sub fr base ∧ look d fr = some (.bool (decide p))) (l.take n) fr) (h2 : VQ C ops L QF (l.drop n) ((d, .bool (decide p)) :: base)) : VQ C ops L QF l fr := fun a ha => by
  have hcat : ∀ (l1 l2 : List Oper) (a : Act) {QQ : Act → Prop}, wpQuiet C.P ops (SL C.B C.w0 L) (fun a => wpQuiet C.P ops (SL C.B C.w0 L) QQ l2 a) l1 a → wpQuiet C.P ops (SL C.B C.w0 L) QQ (l1 ++ l2) a := by
    intro l1 l2
    induction l1 with
    | nil => intro a QQ h; exact h
    | cons o l1 ih =>
      intro a QQ h
      rw [List.cons_append]
      unfold wpQuiet at h ⊢
      split
      · rename_i hw; rw [if_pos hw] at h; exact Oper.quiet_mono (fun a h => ih a h) h
      · rename_i hw; rw [if_neg hw] at h; exact ih _ h
  have hmono : ∀ (l : List Oper) (a : Act) {QQ QQ' : Act → Prop}, (∀ a, QQ a → QQ' a) → wpQuiet C.P ops (SL C.B C.w0 L) QQ l a → wpQuiet C.P ops (SL C.B C.w0 L) QQ' l a := by
    intro l
    induction l with
    | nil => intro a QQ QQ' hq h; exact hq _ h
    | cons o l ih =>
      intro a QQ QQ' hq h
      unfold wpQuiet at h ⊢
      split
      · rename_i hw; rw [if_pos hw] at h; exact Oper.quiet_mono (fun a h => ih a hq h) h
      · rename_i hw; rw [if_neg hw] at h; exact ih _ hq h
  have := hcat (l.take n) (l.drop n) a (QQ := fun a' => ∃ fr', Agr C.N fr' a' ∧ QF fr') (hmono _ _ (fun a h => ?_) (h1 a ha))
  · rwa [List.take_append_drop] at this
  · obtain ⟨fr', ha', hb, hd⟩ := h
    refine h2 a ⟨ha'.defers, ha'.size, fun t v ht => ?_⟩
    unfold look at ht
    cases hbe : Nat.beq d t with
    | true =>
      have := Nat.eq_of_beq_eq_true hbe
      subst this
      rw [hbe] at ht
      simp only [cond_true, Option.some.injEq] at ht
      subst ht
      exact ha'.at_ _ _ hd
    | false =>
      rw [hbe] at ht
      exact ha'.at_ _ _ (hb.look _ _ ht)
theorem vq_cut_end {base : Fr} {d : Nat} {u : Value} (hb : Sub fr base) (hd : look d fr = some u) : VQ C ops L (fun fr => Sub fr base ∧ look d fr = some u) [] fr := fun a ha => wpQuiet_nil ⟨fr, ha, hb, hd⟩
theorem det_notd {p : Prop} [Decidable p] {xt : TypeId} (h : ev fr x = some (.bool (decide p))) : Det C fr L (.unOp .not xt x) ty (.bool (decide (¬ p))) := fun a w ha hw d pos af g => by
  have e : (!decide p) = decide (¬ p) := by by_cases hp : p <;> simp [hp]
  rw [← e]
  exact det_not h a w ha hw d pos af g
theorem eff_alloc_z {zv : Value} (hz : (C.P.info? e).bind (·.zero) = some zv) (hc : zv.cells = cs.toArray) : Eff C fr L (.alloc e) ty (fun p L' => ∃ g, p = .pointer (some ⟨g, 0, none⟩) ∧ L' = .blk g e cs :: L) := by
  cases hi : C.P.info? e with
  | none => rw [hi] at hz; cases hz
  | some i =>
    rw [hi] at hz
    exact eff_alloc hi hz hc
theorem det_len_s {t : TypeId} {s : List UInt8} (ht : C.P.underlying t = some .string) (h : ev fr x = some (.string ⟨s.toArray⟩)) : Det C fr L (.call { callee := .builtin .len, args := #[x], argTypes := #[t] }) ty (.int .i64 (s.length : Int)) := by
  have := det_len_str (L := L) (ty := ty) ht h
  rwa [size_mk] at this
theorem take_getD {α : Type} {l : List α} {k : Nat} (h : k < l.length) (d : α) : l.take (k + 1) = l.take k ++ [l.getD k d] := by
  rw [List.take_succ_eq_append_getElem h]; simp [List.getD, List.getElem?_eq_getElem h]
theorem drop_getD {α : Type} {l : List α} {k : Nat} (h : k < l.length) (d : α) : l.drop k = l.getD k d :: l.drop (k + 1) := by
  rw [List.drop_eq_getElem_cons h]; simp [List.getD, List.getElem?_eq_getElem h]
theorem getD_mem {α : Type} {l : List α} {k : Nat} (h : k < l.length) (d : α) : l.getD k d ∈ l := by
  simp [List.getD, List.getElem?_eq_getElem h]
theorem vc_decideU {tt : Nat} {p : Prop} [Decidable p] (hc : look tt fr = some (.bool (decide p))) (ht : p → VC C cd Q ((tt, .bool true) :: fr) L) (hf : ¬ p → VC C cd' Q ((tt, .bool false) :: fr) L) : VC C (.cond (.tmp tt) cd cd') Q fr L := fun a w ha hw =>
  vc_decide (C := C) (Q := Q) (fr := fr) (c := .tmp tt) hc (fun h a w ha hw => ht h a w (ha.bool hc (decide_eq_true h)) hw) (fun h a w ha hw => hf h a w (ha.bool hc (decide_eq_false h)) hw) a w ha hw
theorem vc_condU {tt : Nat} {b : Bool} (hc : look tt fr = some (.bool b)) (ht : b = true → VC C cd Q ((tt, .bool true) :: fr) L) (hf : b = false → VC C cd' Q ((tt, .bool false) :: fr) L) : VC C (.cond (.tmp tt) cd cd') Q fr L := fun a w ha hw =>
  vc_cond (C := C) (Q := Q) (fr := fr) (c := .tmp tt) hc (fun h a w ha hw => ht h a w (ha.bool hc h) hw) (fun h a w ha hw => hf h a w (ha.bool hc h) hw) a w ha hw
/-- what is owned holds what is named, and more -/
def Wk (L L' : List Ch) : Prop := ∃ M, L.Perm (L' ++ M)
theorem Wk.refl (L : List Ch) : Wk L L := ⟨[], by rw [List.append_nil]⟩
theorem Wk.of_perm (h : L.Perm L') : Wk L L' := ⟨[], by rwa [List.append_nil]⟩
theorem Wk.skip {c : Ch} (h : Wk L L') : Wk (c :: L) L' := by
  obtain ⟨M, h⟩ := h
  exact ⟨c :: M, (h.cons c).trans (List.perm_middle.symm)⟩
theorem Wk.cons {c : Ch} (h : Wk L L') : Wk (c :: L) (c :: L') := by
  obtain ⟨M, h⟩ := h
  exact ⟨M, h.cons c⟩
theorem Wk.swap {a b : Ch} (h : Wk (b :: a :: L) L') : Wk (a :: b :: L) L' := by
  obtain ⟨M, h⟩ := h
  exact ⟨M, (List.Perm.swap b a L).trans h⟩
theorem Wk.trans {L'' : List Ch} (h : Wk L L') (k : Wk L' L'') : Wk L L'' := by
  obtain ⟨M, h⟩ := h
  obtain ⟨N, k⟩ := k
  exact ⟨N ++ M, h.trans ((k.append_right M).trans (by rw [List.append_assoc]))⟩
theorem Wk.sl {B : Nat} {w0 w : World} (h : Wk L L') (hs : SL B w0 L w) : SL B w0 L' w := by
  obtain ⟨M, h⟩ := h
  exact (hs.perm h).sub (List.sublist_append_left _ _)
theorem vc_wk (h : Wk L L') (k : VC C cd Q fr L') : VC C cd Q fr L := fun a w ha hw => k a w ha (h.sl hw)
theorem vl_wk (h : Wk L L') (k : VL C ops Q l fr L') : VL C ops Q l fr L := fun a w ha hw => k a w ha (h.sl hw)
theorem wk_own {e : TypeId} {size n n' c : Nat} {A : Option Addr} {xs ys : List Value} (hn : n = n') (h : xs = ys) (t : Wk L L') : Wk (Ch.own e size A n c xs :: L) (Ch.own e size A n' c ys :: L') := by subst hn; subst h; exact t.cons
theorem wk_blk {g : Nat} {t : TypeId} {xs ys : List Value} (h : xs = ys) (k : Wk L L') : Wk (Ch.blk g t xs :: L) (Ch.blk g t ys :: L') := by subst h; exact k.cons
theorem ret_wk {P : Program} {fn : Func} {R : Value → List Ch → Prop} {ee : Exit} (hs : Wk L L') (h : Ret P fn R ee fr L') : Ret P fn R ee fr L := by
  cases ee <;> first
    | exact h
    | (intro B w0 a w ha hw; exact h B w0 a w ha (hs.sl hw))
end
end Go.Proofs.Ytakokckokchacaa

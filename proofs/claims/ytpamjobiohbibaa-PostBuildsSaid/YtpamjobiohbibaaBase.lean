/-
  Plain laws on slices that this seat's walks use: what a slice value reads as, and how append changes it. No condition.
-/
import Derived.WalkKit
import Derived.WalkLawsBesides
import Derived.WalkSpells
import Derived.Below
import Derived.Laws.OwnMore
import Derived.Deep.AppendLies
import Derived.Deep.Draws
import Derived.Maps.AppendAt
import Derived.Lib.Hide
import Derived.Laws.BytesArg
namespace Go.Proofs.Ytpamjobiohbibaa
open Go.RowKit

/-- bytes as values -/
def bv (l : List UInt8) : List Value := l.map fun b => .int .u8 (b.toNat : Int)
@[simp] theorem bv_nil : bv [] = [] := rfl
@[simp] theorem bv_append (l k : List UInt8) : bv (l ++ k) = bv l ++ bv k := by simp [bv]
@[simp] theorem bv_length (l : List UInt8) : (bv l).length = l.length := by simp [bv]
theorem bv_one (l : List UInt8) : ∀ u ∈ bv l, u.oneCell' = true := by
  intro u hu; obtain ⟨b, _, rfl⟩ := List.mem_map.1 hu; rfl

theorem block_of_add (a : Addr) (n : Nat) : (a.add n).block = a.block := by unfold Addr.add; split <;> rfl
theorem add_of_add (a : Addr) (i j : Nat) : (a.add i).add j = a.add (i + j) := by
  unfold Addr.add
  by_cases hi : i = 0 <;> by_cases hj : j = 0 <;> simp [hi, hj, Nat.add_assoc]

/-- slice value v has n elements, of 'size' cells each, whose cells are xs, in blocks below B -/
def Rd (w : World) (B size : Nat) (v : Value) (n : Nat) (xs : List Value) : Prop :=
  ∃ A c, v = .slice A n c ∧ n ≤ c ∧ xs.length = n * size ∧ (0 < n → ∃ ad, A = some ad ∧ ad.block < B ∧ ∀ j u, xs[j]? = some u → w.cell? (ad.add j) = some u)

section
variable {w w' : World} {B B' size n : Nat} {v : Value} {xs : List Value}
theorem Rd.nil_ : Rd w B size (.slice none 0 0) 0 [] := ⟨none, 0, rfl, Nat.le_refl _, by simp, fun h => absurd h (by omega)⟩
theorem Rd.keep (h : Rd w B size v n xs) (hk : ∀ p : Addr, p.block < B → w'.cell? p = w.cell? p) : Rd w' B size v n xs := by
  obtain ⟨A, c, rfl, hc, hl, hr⟩ := h
  refine ⟨A, c, rfl, hc, hl, fun hn => ?_⟩
  obtain ⟨ad, e, hb, hcell⟩ := hr hn
  exact ⟨ad, e, hb, fun j u hu => (hk _ (by rw [block_of_add]; exact hb)).trans (hcell j u hu)⟩
theorem Rd.more (h : Rd w B size v n xs) (hB : B ≤ B') : Rd w B' size v n xs := by
  obtain ⟨A, c, rfl, hc, hl, hr⟩ := h
  refine ⟨A, c, rfl, hc, hl, fun hn => ?_⟩
  obtain ⟨ad, e, hb, hcell⟩ := hr hn
  exact ⟨ad, e, by omega, hcell⟩
theorem Rd.below (h : Rd w B size v n xs) (hb : Below B w w') : Rd w' B size v n xs := h.keep fun _ hp => hb.cell hp
theorem Rd.of_own {base : Nat} {e : TypeId} (h : w.ownsRow base e size v n xs) : Rd w w.heap.size size v n xs := by
  rcases h.2 with ⟨rfl, rfl⟩ | ⟨g, cap, cur, rfl, hb, hg, hnc, hm, hs, ht⟩
  · exact ⟨none, 0, rfl, Nat.le_refl _, h.1, fun h => absurd h (by omega)⟩
  · refine ⟨_, cap, rfl, hnc, h.1, fun hn => ⟨_, rfl, ?_, h.cells (g := g) rfl⟩⟩
    exact (Array.getElem?_eq_some_iff.1 hg).1
end

/-- a byte of a slice of bytes: its cell -/
theorem Rd.byte_at {w : World} {B n c : Nat} {A : Option Addr} {l : List UInt8} (h : Rd w B 1 (.slice A n c) n (bv l)) {k : Nat} (hk : k < n) :
    ∃ ad u, A = some ad ∧ ad.block < B ∧ l[k]? = some u ∧ w.cell? (ad.add k) = some (.int .u8 ((u : UInt8).toNat : Int)) := by
  obtain ⟨A', c', hv, hc, hl, hr⟩ := h
  simp only [Value.slice.injEq] at hv
  obtain ⟨rfl, _, rfl⟩ := hv
  obtain ⟨ad, rfl, hb, hcell⟩ := hr (by omega)
  simp at hl
  have hx : l[k]? = some (l[k]'(by omega)) := List.getElem?_eq_getElem (by omega)
  exact ⟨ad, _, rfl, hb, hx, hcell k _ (by simp [bv, hx])⟩
theorem Rd.len_eq {w : World} {B n : Nat} {v : Value} {l : List UInt8} (h : Rd w B 1 v n (bv l)) : l.length = n := by
  obtain ⟨_, _, _, _, hl, _⟩ := h
  simpa using hl
theorem Rd.form {w : World} {B n size : Nat} {v : Value} {xs : List Value} (h : Rd w B size v n xs) : ∃ A c, v = .slice A n c ∧ n ≤ c := by
  obtain ⟨A, c, hv, hc, _⟩ := h
  exact ⟨A, c, hv, hc⟩
theorem Rd.cap_ge {w : World} {B n m c size : Nat} {A : Option Addr} {xs : List Value} (h : Rd w B size (.slice A n c) m xs) : n = m ∧ n ≤ c := by
  obtain ⟨A', c', hv, hc, _⟩ := h
  simp only [Value.slice.injEq] at hv
  obtain ⟨_, rfl, rfl⟩ := hv
  exact ⟨rfl, hc⟩
/-- 's[k:]' -/
theorem Rd.cut {w : World} {B n c k size : Nat} {A : Option Addr} {xs : List Value} (h : Rd w B size (.slice A n c) n xs) (hk : k ≤ n) :
    Rd w B size (.slice (if c = k then A else A.map (·.add (k * size))) (n - k) (c - k)) (n - k) (xs.drop (k * size)) := by
  obtain ⟨A', c', hv, hc, hl, hr⟩ := h
  simp only [Value.slice.injEq] at hv
  obtain ⟨rfl, _, rfl⟩ := hv
  refine ⟨_, _, rfl, by omega, by rw [List.length_drop, hl, Nat.sub_mul], fun hn => ?_⟩
  obtain ⟨ad, rfl, hb, hcell⟩ := hr (by omega)
  rw [if_neg (by omega)]
  refine ⟨ad.add (k * size), rfl, by rw [block_of_add]; exact hb, fun j u hu => ?_⟩
  rw [add_of_add]
  exact hcell _ u (by rw [← hu, List.getElem?_drop])
/-- 's[:k]' -/
theorem Rd.head_ {w : World} {B n c k size : Nat} {A : Option Addr} {xs : List Value} (h : Rd w B size (.slice A n c) n xs) (hk : k ≤ n) :
    Rd w B size (.slice A k c) k (xs.take (k * size)) := by
  obtain ⟨A', c', hv, hc, hl, hr⟩ := h
  simp only [Value.slice.injEq] at hv
  obtain ⟨rfl, _, rfl⟩ := hv
  refine ⟨_, _, rfl, by omega, by rw [List.length_take, hl]; exact Nat.min_eq_left (Nat.mul_le_mul_right _ hk), fun hn => ?_⟩
  obtain ⟨ad, rfl, hb, hcell⟩ := hr (by omega)
  refine ⟨ad, rfl, hb, fun j u hu => hcell j u ?_⟩
  rw [List.getElem?_take] at hu
  split at hu
  · exact hu
  · cases hu
@[simp] theorem bv_drop (l : List UInt8) (k : Nat) : (bv l).drop k = bv (l.drop k) := by simp [bv]
@[simp] theorem bv_take (l : List UInt8) (k : Nat) : (bv l).take k = bv (l.take k) := by simp [bv]

/-- where there are elements the address is a plain one -/
theorem Rd.lit {w : World} {B n c size : Nat} {A : Option Addr} {xs : List Value} (h : Rd w B size (.slice A n c) n xs) (hs : 0 < size) (hn : 0 < n) :
    ∃ b off, A = some ⟨b, off, none⟩ ∧ b < B ∧ ∀ j u, xs[j]? = some u → w.cell? ⟨b, off + j, none⟩ = some u := by
  obtain ⟨A', c', hv, hc, hl, hr⟩ := h
  simp only [Value.slice.injEq] at hv
  obtain ⟨rfl, _, rfl⟩ := hv
  obtain ⟨ad, rfl, hb, hcell⟩ := hr hn
  have hx : 0 < xs.length := by rw [hl]; exact Nat.mul_pos hn hs
  have h0 := hcell 0 xs[0] (List.getElem?_eq_getElem hx)
  obtain ⟨b, off, spot⟩ := ad
  have hsp : spot = none := by
    rcases spot with _ | k
    · rfl
    · exfalso
      simp [Addr.add, World.cell?] at h0
      split at h0 <;> simp at h0
  subst hsp
  exact ⟨b, off, rfl, hb, fun j u hu => by rw [← Addr.add_lit]; exact hcell j u hu⟩

/-- what the program's table says of a slice type and its elements -/
structure SlT (P : Program) (t e : TypeId) (size bytes : Nat) (z : Value) : Prop where
  ht : P.underlying t = some (.slice e)
  hi : ∃ i, P.info? e = some i ∧ i.zero = some z ∧ i.size = size ∧ i.bytes = bytes
  hz : z.cells.size = size
  hs : 0 < size
theorem slT_of {P : Program} {t e : TypeId} {size bytes : Nat} {z : Value} (ht : P.underlying t = some (.slice e))
    (h : (P.info? e).map (fun i => (i.zero, i.size, i.bytes)) = some (some z, size, bytes)) (hz : z.cells.size = size) (hs : 0 < size) : SlT P t e size bytes z :=
  ⟨ht, info_parts h, hz, hs⟩

/-- appending the elements of a slice that reads as 'news' to one that the call owns -/
theorem run_app {P : Program} {t e : TypeId} {size bytes : Nat} {z : Value} (T : SlT P t e size bytes z) (ty : TypeId) (w : World) {base : Nat}
    {v : Value} {n : Nat} {xs : List Value} (hown : w.ownsRow base e size v n xs)
    {B : Nat} {x : Value} {m : Nat} {news : List Value} (hr : Rd w B size x m news) (h1 : ∀ u ∈ news, u.oneCell' = true)
    (hbytes : (n + m) * bytes ≤ 140737488355328) (h63 : n + m ≤ 140737488355328) (hbase : base ≤ w.heap.size) :
    ∃ v' w', (Builtin.append_ #[t, t] ty #[v, x]).run P w = .ok v' w' ∧ w'.ownsRow base e size v' (n + m) (xs ++ news) ∧ w.grownBy w' v.ownBlock := by
  obtain ⟨i, hi, hz, hsz, hby⟩ := T.hi
  obtain ⟨A, c, rfl, hmc, hl, hr⟩ := hr
  rcases A with _ | ad
  · have hm : m = 0 := by
      rcases Nat.eq_zero_or_pos m with h0 | h0
      · exact h0
      · obtain ⟨ad, h, _⟩ := hr h0; cases h
    subst hm
    have hn : news = [] := List.eq_nil_of_length_eq_zero (by simpa using hl)
    subst hn
    refine ⟨v, w, ?_, by simpa using hown, World.grownBy.refl w _⟩
    rcases hown.2 with ⟨rfl, rfl⟩ | ⟨g, cap, cur, rfl, _, _, hnc, _⟩
    · simp [Builtin.append_, run_underlying T.ht, sizeOf, typeInfo, hi, Builtin.lenOf, Builtin.firstCells]
    · simp [Builtin.append_, run_underlying T.ht, sizeOf, typeInfo, hi, Builtin.lenOf, Builtin.firstCells, hnc, storeCells]
  · have hcells : ∀ j u, news[j]? = some u → w.cell? (ad.add j) = some u := by
      intro j u hu
      rcases Nat.eq_zero_or_pos m with h0 | h0
      · subst h0
        have hn : news = [] := List.eq_nil_of_length_eq_zero (by simpa using hl)
        subst hn
        simp at hu
      · obtain ⟨ad', h, _, hc⟩ := hr h0
        injection h with h
        subst h
        exact hc j u hu
    obtain ⟨v', w', hrun, h2, h3, _⟩ := run_append_own (P := P) w base t ty e i z size bytes T.ht hi hz hsz hby T.hz T.hs v n xs hown ad m c news hl hcells h1 (by unfold maxLen; omega) hbytes hbase
    exact ⟨v', w', hrun, h2, h3⟩

/-- the append operation: the walk goes on with whatever slice owns the longer row -/
theorem wp_app {P : Program} {t e : TypeId} {size bytes : Nat} {z : Value} (T : SlT P t e size bytes z)
    {ops : Array Oper} {rest : List Oper} {o : Oper} {a : Act} {Q : Exit → Act → World → Prop} {w : World} (hgd : o.guard = none) (s x : Operand)
    (ho : o.op = .call { callee := .builtin .append, args := #[s, x], argTypes := #[t, t] })
    {base : Nat} {v : Value} {n : Nat} {xs : List Value} (hs : a.eval s = v) (hown : w.ownsRow base e size v n xs)
    {B : Nat} {y : Value} {m : Nat} {news : List Value} (hx : a.eval x = y) (hr : Rd w B size y m news) (h1 : ∀ u ∈ news, u.oneCell' = true)
    {B0 : Nat} {w0 : World} (hb : Below B0 w0 w) (hB : B0 ≤ base) (hbase : base ≤ w.heap.size)
    (hbytes : (n + m) * bytes ≤ 140737488355328) (h63 : n + m ≤ 140737488355328)
    (h : ∀ v' w', w'.ownsRow base e size v' (n + m) (xs ++ news) → Below B0 w0 w' → w.grownBy w' v.ownBlock → wpList P ops Q rest (a.put o.dst v') w') :
    wpList P ops Q (o :: rest) a w := by
  obtain ⟨v', w', hrun, h2, h3⟩ := run_app T o.type w hown hr h1 hbytes h63 hbase
  refine wpList_plain hgd fun K hK => ?_
  unfold Oper.wp execOp
  simp only [ho, resolve, invoke, builtin, Sem.run_bind, Sem.run_pure, Result.andThen_ok, List.map_toArray, List.map_cons, List.map_nil, hs, hx, hrun]
  exact hK _ _ (h v' w' h2 (hb.grown h3 (Nat.le_trans hB hbase) fun k hk => Nat.le_trans hB (hown.lt k hk).1) h3)

/-- the same inside a region that draws its order -/
theorem step_app {P : Program} {t e : TypeId} {size bytes : Nat} {z : Value} (T : SlT P t e size bytes z)
    {ops : Array Oper} {o : Oper} {a : Act} {K : Act → World → Prop} {Q : Exit → Act → World → Prop} {E : Prop} {w : World} (hgd : o.guard = none) (s x : Operand)
    (ho : o.op = .call { callee := .builtin .append, args := #[s, x], argTypes := #[t, t] })
    {base : Nat} {v : Value} {n : Nat} {xs : List Value} (hs : a.eval s = v) (hown : w.ownsRow base e size v n xs)
    {B : Nat} {y : Value} {m : Nat} {news : List Value} (hx : a.eval x = y) (hr : Rd w B size y m news) (h1 : ∀ u ∈ news, u.oneCell' = true)
    (hbase : base ≤ w.heap.size) (hbytes : (n + m) * bytes ≤ 140737488355328) (h63 : n + m ≤ 140737488355328)
    (h : ∀ v' w', w'.ownsRow base e size v' (n + m) (xs ++ news) → w.grownBy w' v.ownBlock → K (a.put o.dst v') w') :
    if Region.wanted o (yielded ops a.tmps) = true then Oper.wp P o a w K Q else E := by
  have hw : Region.wanted o (yielded ops a.tmps) = true := by simp [Region.wanted, hgd]
  rw [if_pos hw]
  obtain ⟨v', w', hrun, h2, h3⟩ := run_app T o.type w hown hr h1 hbytes h63 hbase
  unfold Oper.wp execOp
  simp only [ho, resolve, invoke, builtin, Sem.run_bind, Sem.run_pure, Result.andThen_ok, List.map_toArray, List.map_cons, List.map_nil, hs, hx, hrun]
  exact h v' w' h2 h3
/-- one new cell, just laid, reads as the list of its value -/
theorem Rd.box (w : World) (e : TypeId) (u : Value) : Rd (w.alloc (.cells #[u] e)) (w.heap.size + 1) 1 (.slice (some ⟨w.heap.size, 0, none⟩) 1 1) 1 [u] :=
  ⟨_, 1, rfl, Nat.le_refl _, rfl, fun _ => ⟨_, rfl, Nat.lt_succ_self _, fun j x hx => by
    rcases j with _ | j
    · simp at hx; subst hx; simp [Addr.add]
    · simp at hx⟩⟩

/-- 'append(v, u)' of one element of one cell -/
theorem wp_push {P : Program} {t e : TypeId} {bytes : Nat} {z : Value} (T : SlT P t e 1 bytes z)
    {ops : Array Oper} {rest : List Oper} {o : Oper} {a : Act} {Q : Exit → Act → World → Prop} {w : World} {u : Value} (hgd : o.guard = none) (s x : Operand)
    (ho : o.op = .call { callee := .builtin .append, args := #[s, x], argTypes := #[t, t] })
    {base : Nat} {v : Value} {n : Nat} {xs : List Value} (hs : a.eval s = v) (hown : w.ownsRow base e 1 v n xs)
    (hx : a.eval x = .slice (some ⟨w.heap.size, 0, none⟩) 1 1) (h1 : u.oneCell' = true)
    {B0 : Nat} {w0 : World} (hb : Below B0 w0 w) (hB : B0 ≤ base) (hbase : base ≤ w.heap.size)
    (hbytes : (n + 1) * bytes ≤ 140737488355328) (h63 : n + 1 ≤ 140737488355328)
    (h : ∀ v' w', w'.ownsRow base e 1 v' (n + 1) (xs ++ [u]) → Below B0 w0 w' → w.heap.size < w'.heap.size → w.grownBy w' v.ownBlock → wpList P ops Q rest (a.put o.dst v') w') :
    wpList P ops Q (o :: rest) a (w.alloc (.cells #[u] e)) := by
  refine wp_app T hgd s x ho hs (hown.alloc _) hx (Rd.box w e u) (by simp [h1]) (hb.alloc (Nat.le_trans hB hbase) _) hB (by simp; omega) hbytes h63 fun v' w' h2 h3 h4 => ?_
  refine h v' w' h2 h3 (by have := h4.size; simp at this; omega) ⟨h4.os, h4.tape, h4.output, by have := h4.size; simp at this; omega, fun k hk hne => (h4.block k (by simp; omega) hne).trans (Below.heap_alloc w _ k hk)⟩

/-- 'make([]T, n)' of elements of one cell -/
theorem wp_make {P : Program} {t e : TypeId} {bytes : Nat} {z : Value} (T : SlT P t e 1 bytes z) (hz1 : z.cells = #[z])
    {ops : Array Oper} {rest : List Oper} {o : Oper} {a : Act} {Q : Exit → Act → World → Prop} {w : World} (hgd : o.guard = none) (l c : Operand) (hop : o.op = Op.makeSlice t l c)
    {kl kc : IntKind} {L C : Int} (n : Nat) (hl : a.eval l = .int kl L) (hc : a.eval c = .int kc C) (hL : L = (n : Int)) (hC : C = (n : Int))
    {B0 : Nat} {w0 : World} (hb : Below B0 w0 w) (hB : B0 ≤ w.heap.size) (hbytes : bytes * n ≤ 281474976710656) (h63 : n ≤ 281474976710656)
    (h : ∀ g w', w.heap.size ≤ g → w'.ownsRow g e 1 (.slice (some ⟨g, 0, none⟩) n n) n (List.replicate n z) → Below B0 w0 w' → w.grownBy w' none → wpList P ops Q rest (a.put o.dst (.slice (some ⟨g, 0, none⟩) n n)) w') :
    wpList P ops Q (o :: rest) a w := by
  obtain ⟨i, hi, hz, hsz, hby⟩ := T.hi
  refine wpList_make_full w hgd l c t hop w.heap.size e i z 1 T.ht hi hz hsz kl kc L C n hl hc hL hC (by rw [hby]; exact hbytes) (by unfold maxLen; omega) (Nat.le_refl _) fun w' h1 h2 => ?_
  rw [Nat.mul_one, hz1, toList_madeCells_one] at h1
  exact h _ w' (Nat.le_refl _) h1 (hb.grown h2 hB (by simp)) h2
theorem set_mid {α : Type} (A R : List α) (x y : α) {k : Nat} (h : A.length = k) : (A ++ x :: R).set k y = A ++ y :: R := by
  subst h; simp
theorem rep_mid {α : Type} (z : α) {n k : Nat} (h : k < n) : List.replicate (n - k) z = z :: List.replicate (n - (k + 1)) z := by
  rw [show n - k = (n - (k + 1)) + 1 by omega, List.replicate_succ]
/-- what is owned may be said to begin lower -/
theorem own_lower {w : World} {base base' : Nat} {e : TypeId} {size : Nat} {v : Value} {n : Nat} {xs : List Value} (h : w.ownsRow base e size v n xs) (hb : base' ≤ base) : w.ownsRow base' e size v n xs := by
  refine ⟨h.1, ?_⟩
  rcases h.2 with hn | ⟨g, cap, cur, h1, h2, h3⟩
  · exact .inl hn
  · exact .inr ⟨g, cap, cur, h1, Nat.le_trans hb h2, h3⟩
/-- bytes made a text -/
theorem run_bstr {P : Program} {src dst e : TypeId} (hs : P.underlying src = some (.slice e)) (he : P.underlying e = some (.int .u8)) (hd : P.underlying dst = some .string)
    {w : World} {B : Nat} {v : Value} {n : Nat} {l : List UInt8} (h : Rd w B 1 v n (bv l)) : (convert src dst v).run P w = .ok (.string (ByteArray.mk l.toArray)) w := by
  obtain ⟨A, c, rfl, hc, hl, hr⟩ := h
  simp at hl
  rcases Nat.eq_zero_or_pos n with h0 | h0
  · have hle : l = [] := List.eq_nil_of_length_eq_zero (by omega)
    subst hle
    subst h0
    rcases A with _ | ad
    · rw [run_convert_bytes_nil w src e hs he 0 c dst hd]; rfl
    · rw [run_convert_bytes_string w src dst e _ 0 c hs he hd, run_bytesToString w ad 0 c [] (by simpa using run_loadCells_list (P := P) w ad [] (by simp))]; rfl
  · obtain ⟨ad, rfl, _, hcell⟩ := hr h0
    have hb : bv l = (l.map fun b => (b.toNat : Int)).map (Value.int .u8) := by simp [bv]
    have hlo := run_loadCells_list (P := P) w ad (bv l) hcell
    rw [bv_length, hl, hb] at hlo
    rw [run_convert_bytes_string w src dst e _ n c hs he hd, run_bytesToString w ad n c _ hlo, foldl_push_bytes]
    congr 2
    have : (List.map (fun n => UInt8.ofNat n.toNat) (List.map (fun b : UInt8 => (b.toNat : Int)) l)) = l := by
      rw [List.map_map]
      conv => rhs; rw [← List.map_id l]
      refine List.map_congr_left fun b _ => ?_
      simp
    rw [this]
    simp [ByteArray.empty, ByteArray.emptyWithCapacity]
    rfl
/-- block g is just the cells cs of element type t, none of them frozen -/
def Blk (w : World) (g : Nat) (t : TypeId) (cs : Array Value) : Prop := w.heap[g]? = some (.cells cs t (0, 0))
section
variable {w w' : World} {g : Nat} {t : TypeId} {cs : Array Value}
theorem Blk.lt (h : Blk w g t cs) : g < w.heap.size := by
  rcases Nat.lt_or_ge g w.heap.size with hlt | hge
  · exact hlt
  · unfold Blk at h; rw [Array.getElem?_eq_none hge] at h; cases h
theorem Blk.cell (h : Blk w g t cs) (i : Nat) : w.cell? ⟨g, i, none⟩ = cs[i]? := cell_of_row w g i cs t (0, 0) h
theorem Blk.frozen (h : Blk w g t cs) (i : Nat) : w.frozen? ⟨g, i, none⟩ = false := by
  unfold Blk at h
  simp [World.frozen?, h]
theorem Blk.new (w : World) (t : TypeId) (cs : Array Value) : Blk (w.alloc (.cells cs t)) w.heap.size t cs := heap_alloc_new w _
theorem Blk.drew (h : Blk w g t cs) : Blk w.drew g t cs := h
theorem Blk.drewN (h : Blk w g t cs) (n : Nat) : Blk (w.drewN n) g t cs := h
theorem Blk.alloc (h : Blk w g t cs) (o : Obj) : Blk (w.alloc o) g t cs := (Below.heap_alloc w o g h.lt).trans h
theorem Blk.set_ (h : Blk w g t cs) (i : Nat) (u : Value) : Blk (w.setCell ⟨g, i, none⟩ u) g t (cs.setIfInBounds i u) := by
  unfold Blk at h ⊢
  simp [World.setCell, Array.getElem?_modify, h]
theorem Blk.far (h : Blk w g t cs) {p : Addr} (hp : g ≠ p.block) (u : Value) : Blk (w.setCell p u) g t cs := (Below.heap_setCell w p u g hp).trans h
theorem Blk.below {B : Nat} (h : Blk w g t cs) (hb : Below B w w') (hg : g < B) : Blk w' g t cs := (hb.block g hg).trans h
theorem Blk.grown {row : Option Nat} (h : Blk w g t cs) (hb : w.grownBy w' row) (hg : some g ≠ row) : Blk w' g t cs := (hb.block g h.lt hg).trans h
end
/-- only block g, and what is new, may have turned -/
theorem only_alloc {a w : World} {row : Option Nat} (h : a.grownBy w row) (o : Obj) : a.grownBy (w.alloc o) row :=
  ⟨h.os, h.tape, h.output, Nat.le_trans h.size (by simp), fun i hi hne => (Below.heap_alloc w o i (Nat.lt_of_lt_of_le hi h.size)).trans (h.block i hi hne)⟩
theorem only_drewN {a w : World} {row : Option Nat} (h : a.grownBy w row) (n : Nat) : a.grownBy (w.drewN n) row := ⟨h.os, h.tape, h.output, h.size, h.block⟩
theorem only_setCell {a w : World} {g : Nat} (h : a.grownBy w (some g)) {p : Addr} (hp : p.block = g ∨ a.heap.size ≤ p.block) (u : Value) : a.grownBy (w.setCell p u) (some g) :=
  ⟨h.os, h.tape, h.output, by simpa [World.setCell] using h.size, fun i hi hne => (Below.heap_setCell w p u i (by
    rintro rfl
    rcases hp with hp | hp
    · exact hne (by rw [hp])
    · omega)).trans (h.block i hi hne)⟩
theorem only_below {a w w' : World} {row : Option Nat} (h : a.grownBy w row) {B : Nat} (hb : Below B w w') (hB : a.heap.size ≤ B) : a.grownBy w' row :=
  ⟨hb.os.trans h.os, hb.tape.trans h.tape, hb.output.trans h.output, Nat.le_trans h.size hb.size, fun i hi hne => (hb.block i (Nat.lt_of_lt_of_le hi hB)).trans (h.block i hi hne)⟩
theorem only_trans {a w w' : World} {row : Option Nat} (h : a.grownBy w row) (k : w.grownBy w' row) : a.grownBy w' row :=
  ⟨k.os.trans h.os, k.tape.trans h.tape, k.output.trans h.output, Nat.le_trans h.size k.size, fun i hi hne => (k.block i (Nat.lt_of_lt_of_le hi h.size) hne).trans (h.block i hi hne)⟩
theorem only_of_below' {a w : World} (h : Below a.heap.size a w) (row : Option Nat) : a.grownBy w row := ⟨h.os, h.tape, h.output, h.size, fun i hi _ => h.block i hi⟩
theorem below_drewN {B : Nat} {a w : World} (h : Below B a w) (n : Nat) : Below B a (w.drewN n) := ⟨h.os, h.tape, h.output, h.size, h.block⟩
theorem Below.only {B g : Nat} {a w w' : World} (h : Below B a w) (hg : w.grownBy w' (some g)) (hB : B ≤ g) (hBs : B ≤ w.heap.size) : Below B a w' := h.grown hg hBs fun k hk => by injection hk with hk; omega
theorem Rd.grown {B size n g : Nat} {w w' : World} {v : Value} {xs : List Value} (h : Rd w B size v n xs) (hg : w.grownBy w' (some g)) (hB : B ≤ g) (hs : B ≤ w.heap.size) : Rd w' B size v n xs :=
  h.keep fun p hp => World.cell?_of_block (hg.block p.block (by omega) (fun e => by injection e with e; omega))
/-- .. where the block that turned holds no cell of it, and lies anywhere -/
theorem Rd.grown' {B size n g : Nat} {w w' : World} {v : Value} {xs : List Value} (h : Rd w B size v n xs) (hg : w.grownBy w' (some g)) (hB : B ≤ g) : Rd w' B size v n xs := by
  obtain ⟨A, c, rfl, hc, hl, hr⟩ := h
  refine ⟨A, c, rfl, hc, hl, fun hn => ?_⟩
  obtain ⟨ad, e, hb, hcell⟩ := hr hn
  refine ⟨ad, e, hb, fun j u hu => ?_⟩
  have h1 := hcell j u hu
  exact hg.cell h1 (by rw [block_of_add]; intro e; injection e with e; omega)
end Go.Proofs.Ytpamjobiohbibaa

/-
  Plain laws on slices that this seat's walks use: what a slice value reads as, and how append changes it. No condition.
-/
import Derived.WalkKit
import Derived.WalkLawsBesides
import Derived.WalkSpells
import Derived.Below
import Derived.Laws.OwnMore
import Derived.Deep.AppendLies
import Derived.Deep.Draws
import Derived.Maps.AppendAt
import Derived.Lib.Hide
import Derived.Laws.BytesArg
namespace Go.Proofs.Ytejibnkgenonfaa
open Go.RowKit

/-- bytes as values -/
def bv (l : List UInt8) : List Value := l.map fun b => .int .u8 (b.toNat : Int)
@[simp] theorem bv_nil : bv [] = [] := rfl
@[simp] theorem bv_append (l k : List UInt8) : bv (l ++ k) = bv l ++ bv k := by simp [bv]
@[simp] theorem bv_length (l : List UInt8) : (bv l).length = l.length := by simp [bv]
theorem bv_one (l : List UInt8) : ∀ u ∈ bv l, u.oneCell' = true := by
  intro u hu; obtain ⟨b, _, rfl⟩ := List.mem_map.1 hu; rfl

theorem block_of_add (a : Addr) (n : Nat) : (a.add n).block = a.block := by unfold Addr.add; split <;> rfl
theorem add_of_add (a : Addr) (i j : Nat) : (a.add i).add j = a.add (i + j) := by
  unfold Addr.add
  by_cases hi : i = 0 <;> by_cases hj : j = 0 <;> simp [hi, hj, Nat.add_assoc]

/-- slice value v has n elements, of 'size' cells each, whose cells are xs, in blocks below B -/
def Rd (w : World) (B size : Nat) (v : Value) (n : Nat) (xs : List Value) : Prop :=
  ∃ A c, v = .slice A n c ∧ n ≤ c ∧ xs.length = n * size ∧ (0 < n → ∃ ad, A = some ad ∧ ad.block < B ∧ ∀ j u, xs[j]? = some u → w.cell? (ad.add j) = some u)

section
variable {w w' : World} {B B' size n : Nat} {v : Value} {xs : List Value}
theorem Rd.nil_ : Rd w B size (.slice none 0 0) 0 [] := ⟨none, 0, rfl, Nat.le_refl _, by simp, fun h => absurd h (by omega)⟩
theorem Rd.keep (h : Rd w B size v n xs) (hk : ∀ p : Addr, p.block < B → w'.cell? p = w.cell? p) : Rd w' B size v n xs := by
  obtain ⟨A, c, rfl, hc, hl, hr⟩ := h
  refine ⟨A, c, rfl, hc, hl, fun hn => ?_⟩
  obtain ⟨ad, e, hb, hcell⟩ := hr hn
  exact ⟨ad, e, hb, fun j u hu => (hk _ (by rw [block_of_add]; exact hb)).trans (hcell j u hu)⟩
theorem Rd.more (h : Rd w B size v n xs) (hB : B ≤ B') : Rd w B' size v n xs := by
  obtain ⟨A, c, rfl, hc, hl, hr⟩ := h
  refine ⟨A, c, rfl, hc, hl, fun hn => ?_⟩
  obtain ⟨ad, e, hb, hcell⟩ := hr hn
  exact ⟨ad, e, by omega, hcell⟩
theorem Rd.below (h : Rd w B size v n xs) (hb : Below B w w') : Rd w' B size v n xs := h.keep fun _ hp => hb.cell hp
theorem Rd.of_own {base : Nat} {e : TypeId} (h : w.ownsRow base e size v n xs) : Rd w w.heap.size size v n xs := by
  rcases h.2 with ⟨rfl, rfl⟩ | ⟨g, cap, cur, rfl, hb, hg, hnc, hm, hs, ht⟩
  · exact ⟨none, 0, rfl, Nat.le_refl _, h.1, fun h => absurd h (by omega)⟩
  · refine ⟨_, cap, rfl, hnc, h.1, fun hn => ⟨_, rfl, ?_, h.cells (g := g) rfl⟩⟩
    exact (Array.getElem?_eq_some_iff.1 hg).1
end

/-- what the program's table says of a slice type and its elements -/
structure SlT (P : Program) (t e : TypeId) (size bytes : Nat) (z : Value) : Prop where
  ht : P.underlying t = some (.slice e)
  hi : ∃ i, P.info? e = some i ∧ i.zero = some z ∧ i.size = size ∧ i.bytes = bytes
  hz : z.cells.size = size
  hs : 0 < size
theorem slT_of {P : Program} {t e : TypeId} {size bytes : Nat} {z : Value} (ht : P.underlying t = some (.slice e))
    (h : (P.info? e).map (fun i => (i.zero, i.size, i.bytes)) = some (some z, size, bytes)) (hz : z.cells.size = size) (hs : 0 < size) : SlT P t e size bytes z :=
  ⟨ht, info_parts h, hz, hs⟩

/-- appending the elements of a slice that reads as 'news' to one that the call owns -/
theorem run_app {P : Program} {t e : TypeId} {size bytes : Nat} {z : Value} (T : SlT P t e size bytes z) (ty : TypeId) (w : World) {base : Nat}
    {v : Value} {n : Nat} {xs : List Value} (hown : w.ownsRow base e size v n xs)
    {B : Nat} {x : Value} {m : Nat} {news : List Value} (hr : Rd w B size x m news) (h1 : ∀ u ∈ news, u.oneCell' = true)
    (hbytes : (n + m) * bytes ≤ 140737488355328) (h63 : n + m ≤ 140737488355328) (hbase : base ≤ w.heap.size) :
    ∃ v' w', (Builtin.append_ #[t, t] ty #[v, x]).run P w = .ok v' w' ∧ w'.ownsRow base e size v' (n + m) (xs ++ news) ∧ w.grownBy w' v.ownBlock := by
  obtain ⟨i, hi, hz, hsz, hby⟩ := T.hi
  obtain ⟨A, c, rfl, hmc, hl, hr⟩ := hr
  rcases A with _ | ad
  · have hm : m = 0 := by
      rcases Nat.eq_zero_or_pos m with h0 | h0
      · exact h0
      · obtain ⟨ad, h, _⟩ := hr h0; cases h
    subst hm
    have hn : news = [] := List.eq_nil_of_length_eq_zero (by simpa using hl)
    subst hn
    refine ⟨v, w, ?_, by simpa using hown, World.grownBy.refl w _⟩
    rcases hown.2 with ⟨rfl, rfl⟩ | ⟨g, cap, cur, rfl, _, _, hnc, _⟩
    · simp [Builtin.append_, run_underlying T.ht, sizeOf, typeInfo, hi, Builtin.lenOf, Builtin.firstCells]
    · simp [Builtin.append_, run_underlying T.ht, sizeOf, typeInfo, hi, Builtin.lenOf, Builtin.firstCells, hnc, storeCells]
  · have hcells : ∀ j u, news[j]? = some u → w.cell? (ad.add j) = some u := by
      intro j u hu
      rcases Nat.eq_zero_or_pos m with h0 | h0
      · subst h0
        have hn : news = [] := List.eq_nil_of_length_eq_zero (by simpa using hl)
        subst hn
        simp at hu
      · obtain ⟨ad', h, _, hc⟩ := hr h0
        injection h with h
        subst h
        exact hc j u hu
    obtain ⟨v', w', hrun, h2, h3, _⟩ := run_append_own (P := P) w base t ty e i z size bytes T.ht hi hz hsz hby T.hz T.hs v n xs hown ad m c news hl hcells h1 (by unfold maxLen; omega) hbytes hbase
    exact ⟨v', w', hrun, h2, h3⟩

/-- the append operation: the walk goes on with whatever slice owns the longer row -/
theorem wp_app {P : Program} {t e : TypeId} {size bytes : Nat} {z : Value} (T : SlT P t e size bytes z)
    {ops : Array Oper} {rest : List Oper} {o : Oper} {a : Act} {Q : Exit → Act → World → Prop} {w : World} (hgd : o.guard = none) (s x : Operand)
    (ho : o.op = .call { callee := .builtin .append, args := #[s, x], argTypes := #[t, t] })
    {base : Nat} {v : Value} {n : Nat} {xs : List Value} (hs : a.eval s = v) (hown : w.ownsRow base e size v n xs)
    {B : Nat} {y : Value} {m : Nat} {news : List Value} (hx : a.eval x = y) (hr : Rd w B size y m news) (h1 : ∀ u ∈ news, u.oneCell' = true)
    {B0 : Nat} {w0 : World} (hb : Below B0 w0 w) (hB : B0 ≤ base) (hbase : base ≤ w.heap.size)
    (hbytes : (n + m) * bytes ≤ 140737488355328) (h63 : n + m ≤ 140737488355328)
    (h : ∀ v' w', w'.ownsRow base e size v' (n + m) (xs ++ news) → Below B0 w0 w' → w.grownBy w' v.ownBlock → wpList P ops Q rest (a.put o.dst v') w') :
    wpList P ops Q (o :: rest) a w := by
  obtain ⟨v', w', hrun, h2, h3⟩ := run_app T o.type w hown hr h1 hbytes h63 hbase
  refine wpList_plain hgd fun K hK => ?_
  unfold Oper.wp execOp
  simp only [ho, resolve, invoke, builtin, Sem.run_bind, Sem.run_pure, Result.andThen_ok, List.map_toArray, List.map_cons, List.map_nil, hs, hx, hrun]
  exact hK _ _ (h v' w' h2 (hb.grown h3 (Nat.le_trans hB hbase) fun k hk => Nat.le_trans hB (hown.lt k hk).1) h3)

/-- one new cell, just laid, reads as the list of its value -/
theorem Rd.box (w : World) (e : TypeId) (u : Value) : Rd (w.alloc (.cells #[u] e)) (w.heap.size + 1) 1 (.slice (some ⟨w.heap.size, 0, none⟩) 1 1) 1 [u] :=
  ⟨_, 1, rfl, Nat.le_refl _, rfl, fun _ => ⟨_, rfl, Nat.lt_succ_self _, fun j x hx => by
    rcases j with _ | j
    · simp at hx; subst hx; simp [Addr.add]
    · simp at hx⟩⟩

/-- 'append(v, u)' of one element of one cell -/
theorem wp_push {P : Program} {t e : TypeId} {bytes : Nat} {z : Value} (T : SlT P t e 1 bytes z)
    {ops : Array Oper} {rest : List Oper} {o : Oper} {a : Act} {Q : Exit → Act → World → Prop} {w : World} {u : Value} (hgd : o.guard = none) (s x : Operand)
    (ho : o.op = .call { callee := .builtin .append, args := #[s, x], argTypes := #[t, t] })
    {base : Nat} {v : Value} {n : Nat} {xs : List Value} (hs : a.eval s = v) (hown : w.ownsRow base e 1 v n xs)
    (hx : a.eval x = .slice (some ⟨w.heap.size, 0, none⟩) 1 1) (h1 : u.oneCell' = true)
    {B0 : Nat} {w0 : World} (hb : Below B0 w0 w) (hB : B0 ≤ base) (hbase : base ≤ w.heap.size)
    (hbytes : (n + 1) * bytes ≤ 140737488355328) (h63 : n + 1 ≤ 140737488355328)
    (h : ∀ v' w', w'.ownsRow base e 1 v' (n + 1) (xs ++ [u]) → Below B0 w0 w' → w.heap.size < w'.heap.size → w.grownBy w' v.ownBlock → wpList P ops Q rest (a.put o.dst v') w') :
    wpList P ops Q (o :: rest) a (w.alloc (.cells #[u] e)) := by
  refine wp_app T hgd s x ho hs (hown.alloc _) hx (Rd.box w e u) (by simp [h1]) (hb.alloc (Nat.le_trans hB hbase) _) hB (by simp; omega) hbytes h63 fun v' w' h2 h3 h4 => ?_
  refine h v' w' h2 h3 (by have := h4.size; simp at this; omega) ⟨h4.os, h4.tape, h4.output, by have := h4.size; simp at this; omega, fun k hk hne => (h4.block k (by simp; omega) hne).trans (Below.heap_alloc w _ k hk)⟩

/-- 'make([]T, n)' of elements of one cell -/
theorem wp_make {P : Program} {t e : TypeId} {bytes : Nat} {z : Value} (T : SlT P t e 1 bytes z) (hz1 : z.cells = #[z])
    {ops : Array Oper} {rest : List Oper} {o : Oper} {a : Act} {Q : Exit → Act → World → Prop} {w : World} (hgd : o.guard = none) (l c : Operand) (hop : o.op = Op.makeSlice t l c)
    {kl kc : IntKind} {L C : Int} (n : Nat) (hl : a.eval l = .int kl L) (hc : a.eval c = .int kc C) (hL : L = (n : Int)) (hC : C = (n : Int))
    {B0 : Nat} {w0 : World} (hb : Below B0 w0 w) (hB : B0 ≤ w.heap.size) (hbytes : bytes * n ≤ 281474976710656) (h63 : n ≤ 281474976710656)
    (h : ∀ g w', w.heap.size ≤ g → w'.ownsRow g e 1 (.slice (some ⟨g, 0, none⟩) n n) n (List.replicate n z) → Below B0 w0 w' → w.grownBy w' none → wpList P ops Q rest (a.put o.dst (.slice (some ⟨g, 0, none⟩) n n)) w') :
    wpList P ops Q (o :: rest) a w := by
  obtain ⟨i, hi, hz, hsz, hby⟩ := T.hi
  refine wpList_make_full w hgd l c t hop w.heap.size e i z 1 T.ht hi hz hsz kl kc L C n hl hc hL hC (by rw [hby]; exact hbytes) (by unfold maxLen; omega) (Nat.le_refl _) fun w' h1 h2 => ?_
  rw [Nat.mul_one, hz1, toList_madeCells_one] at h1
  exact h _ w' (Nat.le_refl _) h1 (hb.grown h2 hB (by simp)) h2
theorem set_mid {α : Type} (A R : List α) (x y : α) {k : Nat} (h : A.length = k) : (A ++ x :: R).set k y = A ++ y :: R := by
  subst h; simp
theorem rep_mid {α : Type} (z : α) {n k : Nat} (h : k < n) : List.replicate (n - k) z = z :: List.replicate (n - (k + 1)) z := by
  rw [show n - k = (n - (k + 1)) + 1 by omega, List.replicate_succ]
/-- what is owned may be said to begin lower -/
theorem own_lower {w : World} {base base' : Nat} {e : TypeId} {size : Nat} {v : Value} {n : Nat} {xs : List Value} (h : w.ownsRow base e size v n xs) (hb : base' ≤ base) : w.ownsRow base' e size v n xs := by
  refine ⟨h.1, ?_⟩
  rcases h.2 with hn | ⟨g, cap, cur, h1, h2, h3⟩
  · exact .inl hn
  · exact .inr ⟨g, cap, cur, h1, Nat.le_trans hb h2, h3⟩
/-- bytes made a text -/
theorem run_bstr {P : Program} {src dst e : TypeId} (hs : P.underlying src = some (.slice e)) (he : P.underlying e = some (.int .u8)) (hd : P.underlying dst = some .string)
    {w : World} {B : Nat} {v : Value} {n : Nat} {l : List UInt8} (h : Rd w B 1 v n (bv l)) : (convert src dst v).run P w = .ok (.string (ByteArray.mk l.toArray)) w := by
  obtain ⟨A, c, rfl, hc, hl, hr⟩ := h
  simp at hl
  rcases Nat.eq_zero_or_pos n with h0 | h0
  · have hle : l = [] := List.eq_nil_of_length_eq_zero (by omega)
    subst hle
    subst h0
    rcases A with _ | ad
    · rw [run_convert_bytes_nil w src e hs he 0 c dst hd]; rfl
    · rw [run_convert_bytes_string w src dst e _ 0 c hs he hd, run_bytesToString w ad 0 c [] (by simpa using run_loadCells_list (P := P) w ad [] (by simp))]; rfl
  · obtain ⟨ad, rfl, _, hcell⟩ := hr h0
    have hb : bv l = (l.map fun b => (b.toNat : Int)).map (Value.int .u8) := by simp [bv]
    have hlo := run_loadCells_list (P := P) w ad (bv l) hcell
    rw [bv_length, hl, hb] at hlo
    rw [run_convert_bytes_string w src dst e _ n c hs he hd, run_bytesToString w ad n c _ hlo, foldl_push_bytes]
    congr 2
    have : (List.map (fun n => UInt8.ofNat n.toNat) (List.map (fun b : UInt8 => (b.toNat : Int)) l)) = l := by
      rw [List.map_map]
      conv => rhs; rw [← List.map_id l]
      refine List.map_congr_left fun b _ => ?_
      simp
    rw [this]
    simp [ByteArray.empty, ByteArray.emptyWithCapacity]
    rfl
end Go.Proofs.Ytejibnkgenonfaa

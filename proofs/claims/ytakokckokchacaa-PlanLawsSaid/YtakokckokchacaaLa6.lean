/-
  Texts of one proof, joined: part 6. No condition.
-/
import Derived.Test.YtakokckokchacaaLa5
import Derived.Test.YtakokckokchacaaProg
import Derived.Shelf.SortM.Plain
import Derived.Shelf.SortM.SortNone
import Derived.Shelf.SlicesG.CompactS
import Derived.Ground.SlgmProg
import Derived.Ground.SlgnProg
import Derived.Sort.OwnSorted
import Derived.Lib.OwnBridge
import Derived.Sort.Walk0
namespace Go.Proofs
open Go.RowKit Go.Maps Go.Sort Go.Shelf
def Try.sortS_ren : Go.Shelf.Ren := ⟨fun | 6 => 33 | 8 => 49 | 9 => 48 | 19 => 68 | 20 => 69 | 21 => 59 | 22 => 60 | 23 => 61 | 24 => 62 | 25 => 63 | 26 => 64 | 27 => 65 | 28 => 66 | 29 => 67 | 36 => 78 | 31 => 79 | 32 => 80 | 37 => 81 | 38 => 82 | 39 => 83 | 41 => 85 | n => n, fun | 27 => 39 | 29 => 9 | 3 => 3 | 32 => 91 | 26 => 39 | 0 => 0 | 44 => 106 | 46 => 36 | 4 => 4 | 36 => 99 | 35 => 98 | 41 => 103 | 5 => 5 | 9 => 9 | 53 => 116 | 57 => 120 | 63 => 123 | 64 => 124 | n => n, fun | n => n⟩
theorem Try.sortS : Go.Proofs.SlLaysM.n6 Try.prog Try.sortS_ren := {
  mixed := by kernel_rfl
  f6 := ⟨Try.f33.name, by decide, Try.func33.trans (congrArg some (by kernel_rfl))⟩
  f8 := Try.func49.trans (congrArg some (by kernel_rfl))
  f9 := ⟨Try.f48.name, by decide, Try.func48.trans (congrArg some (by kernel_rfl))⟩
  f19 := Try.func68.trans (congrArg some (by kernel_rfl))
  f20 := Try.func69.trans (congrArg some (by kernel_rfl))
  f21 := ⟨Try.f59.name, by decide, Try.func59.trans (congrArg some (by kernel_rfl))⟩
  f22 := ⟨Try.f60.name, by decide, Try.func60.trans (congrArg some (by kernel_rfl))⟩
  f23 := ⟨Try.f61.name, by decide, Try.func61.trans (congrArg some (by kernel_rfl))⟩
  f24 := ⟨Try.f62.name, by decide, Try.func62.trans (congrArg some (by kernel_rfl))⟩
  f25 := ⟨Try.f63.name, by decide, Try.func63.trans (congrArg some (by kernel_rfl))⟩
  f26 := ⟨Try.f64.name, by decide, Try.func64.trans (congrArg some (by kernel_rfl))⟩
  f27 := ⟨Try.f65.name, by decide, Try.func65.trans (congrArg some (by kernel_rfl))⟩
  f28 := ⟨Try.f66.name, by decide, Try.func66.trans (congrArg some (by kernel_rfl))⟩
  f29 := ⟨Try.f67.name, by decide, Try.func67.trans (congrArg some (by kernel_rfl))⟩
  f31 := Try.func79.trans (congrArg some (by kernel_rfl))
  f32 := Try.func80.trans (congrArg some (by kernel_rfl))
  f36 := ⟨Try.f78.name, by decide, Try.func78.trans (congrArg some (by kernel_rfl))⟩
  f37 := ⟨Try.f81.name, by decide, Try.func81.trans (congrArg some (by kernel_rfl))⟩
  f38 := ⟨Try.f82.name, by decide, Try.func82.trans (congrArg some (by kernel_rfl))⟩
  f39 := ⟨Try.f83.name, by decide, Try.func83.trans (congrArg some (by kernel_rfl))⟩
  f41 := ⟨Try.f85.name, by decide, Try.func85.trans (congrArg some (by kernel_rfl))⟩
  t0 := Try.underlying0
  a0 := Try.isAgg0
  z0 := Try.sizeOf0
  v0 := Try.zeroValue0
  t3 := Try.underlying3
  a3 := Try.isAgg3
  z3 := Try.sizeOf3
  v3 := Try.zeroValue3
  t4 := Try.underlying4
  a4 := Try.isAgg4
  z4 := Try.sizeOf4
  v4 := Try.zeroValue4
  t5 := Try.underlying5
  a5 := Try.isAgg5
  z5 := Try.sizeOf5
  v5 := Try.zeroValue5
  t9 := Try.underlying9
  a9 := Try.isAgg9
  z9 := Try.sizeOf9
  v9 := Try.zeroValue9
  t26 := Try.underlying39
  a26 := Try.isAgg39
  z26 := Try.sizeOf39
  v26 := Try.zeroValue39
  t27 := Try.underlying39
  a27 := Try.isAgg39
  z27 := Try.sizeOf39
  v27 := Try.zeroValue39
  t29 := Try.underlying9
  a29 := Try.isAgg9
  z29 := Try.sizeOf9
  v29 := Try.zeroValue9
  t32 := Try.underlying91
  a32 := Try.isAgg91
  z32 := Try.sizeOf91
  v32 := Try.zeroValue91
  t35 := Try.underlying98
  a35 := Try.isAgg98
  z35 := Try.sizeOf98
  v35 := Try.zeroValue98
  t36 := Try.underlying99
  a36 := Try.isAgg99
  z36 := Try.sizeOf99
  v36 := Try.zeroValue99
  t41 := Try.underlying103
  a41 := Try.isAgg103
  z41 := Try.sizeOf103
  v41 := Try.zeroValue103
  t44 := Try.underlying106
  a44 := Try.isAgg106
  z44 := Try.sizeOf106
  v44 := Try.zeroValue106
  t46 := Try.underlying36
  a46 := Try.isAgg36
  z46 := Try.sizeOf36
  v46 := Try.zeroValue36
  t53 := Try.underlying116
  a53 := Try.isAgg116
  z53 := Try.sizeOf116
  v53 := Try.zeroValue116
  t57 := Try.underlying120
  a57 := Try.isAgg120
  z57 := Try.sizeOf120
  v57 := Try.zeroValue120
  t63 := Try.underlying123
  a63 := Try.isAgg123
  z63 := Try.sizeOf123
  v63 := Try.zeroValue123
  t64 := Try.underlying124
  a64 := Try.isAgg124
  z64 := Try.sizeOf124
  v64 := Try.zeroValue124 }
def Try.compS_ren : Go.Shelf.Ren := ⟨fun | 44 => 34 | n => n, fun | 25 => 39 | 26 => 9 | 3 => 3 | 4 => 4 | 0 => 0 | n => n, fun | n => n⟩
theorem Try.compS : Go.Proofs.SlLaysN.n44 Try.prog Try.compS_ren := {
  mixed := by kernel_rfl
  f44 := ⟨Try.f34.name, by decide, Try.func34.trans (congrArg some (by kernel_rfl))⟩
  t0 := Try.underlying0
  a0 := Try.isAgg0
  z0 := Try.sizeOf0
  v0 := Try.zeroValue0
  t3 := Try.underlying3
  a3 := Try.isAgg3
  z3 := Try.sizeOf3
  v3 := Try.zeroValue3
  t4 := Try.underlying4
  a4 := Try.isAgg4
  z4 := Try.sizeOf4
  v4 := Try.zeroValue4
  t25 := Try.underlying39
  a25 := Try.isAgg39
  z25 := Try.sizeOf39
  v25 := Try.zeroValue39
  t26 := Try.underlying9
  a26 := Try.isAgg9
  z26 := Try.sizeOf9
  v26 := Try.zeroValue9
  i26 := by kernel_rfl }
namespace Ytakokckokchacaa
set_option linter.unusedVariables false
variable {B : Nat} {w0 : World} {F : List Ch} {A : Option Addr} {c : Nat}
def leS (x y : List UInt8) : Bool := decide (x ≤ y)
theorem sort_d {l : List (List UInt8)} (hl : l.length < 4611686018427387904) :
    Does Try.prog B w0 33 [.slice A l.length c] (.own 9 1 A l.length c (strs l) :: F) (fun r L => r = .tuple #[] ∧ L = .own 9 1 A l.length c (strs (l.mergeSort leS)) :: F) := by
  intro w hw
  obtain ⟨k1, k2, k3⟩ := hw.head
  by_cases h0 : l.length = 0
  · have hl0 : l = [] := List.eq_nil_of_length_eq_zero h0
    subst hl0
    refine (AnyM.slices_Sort_string_none Try.sortS A c w).mono fun e w' ⟨he, hw'⟩ => ?_
    subst hw'
    exact ⟨_, _, he, ⟨rfl, by simp⟩, hw⟩
  · have hc0 : ¬ c = 0 := by omega
    obtain ⟨g, cur, rfl, hbg, hg, hm, hs, ht⟩ := k3.resolve_left hc0
    rw [Nat.mul_one] at ht
    refine (AnyM.slices_Sort_string Try.sortS g 0 c l w (holds_of_block hg ht) ((Array.getElem?_eq_some_iff.1 hg).1) hl).mono fun e w' ⟨he, n, os, hw'⟩ => ?_
    have hlen : (l.mergeSort fun x y => decide (x ≤ y)).length = l.length := List.length_mergeSort _
    have hfp : (Ch.own 9 1 (some ⟨g, 0, none⟩) l.length c (strs l)).fp = some g := by simp [Ch.fp, hc0]
    have hg2 := grownBy_sorted (w := w) (g := g) (n := n) (os := os) (l.mergeSort fun x y => decide (x ≤ y)).toArray
    rw [← hw'] at hg2
    refine ⟨_, _, he, ⟨rfl, rfl⟩, hw.turn (by rw [hfp]; exact hg2) ⟨?_, k2, .inr ⟨g, _, rfl, hbg, by rw [hw']; exact heap_sorted _ hg, hm, by simpa [putCells] using hs, ?_⟩⟩ (.inr (.inl (by simp [Ch.fp])))⟩
    · simp
    · rw [Nat.mul_one, ← hlen]
      exact take_putCells cur _ (by rw [hlen]; omega)
theorem compact_le (zs : List (List UInt8)) : (Lib.compact zs).length ≤ zs.length := by
  unfold Lib.compact Lib.compactUpTo
  rw [List.length_map]
  exact Nat.le_trans (List.length_filter_le _ _) (by simp)
theorem compact_d {l : List (List UInt8)} (hl : l.length < 4611686018427387904) :
    Does Try.prog B w0 34 [.slice A l.length c] (.own 9 1 A l.length c (strs l) :: F) (fun r L => r = .slice A (Lib.compact l).length c ∧ L = .own 9 1 A (Lib.compact l).length c (strs (Lib.compact l)) :: F) := by
  intro w hw
  obtain ⟨k1, k2, k3⟩ := hw.head
  have hle := compact_le l
  by_cases h0 : l.length = 0
  · have hl0 : l = [] := List.eq_nil_of_length_eq_zero h0
    subst hl0
    refine (AnyG.slices_Compact_string_empty Try.compS A c w).mono fun e w' ⟨he, hw'⟩ => ?_
    subst hw'
    exact ⟨_, _, he, ⟨rfl, by simp [Lib.compact, Lib.compactUpTo, strs]⟩, hw⟩
  · have hc0 : ¬ c = 0 := by omega
    obtain ⟨g, cur, rfl, hbg, hg, hm, hs, ht⟩ := k3.resolve_left hc0
    rw [Nat.mul_one] at ht
    refine (AnyG.slices_Compact_string Try.compS g 0 c l w (holds_of_block hg ht) (by omega) k2).mono fun e w' ⟨he, q, hw'⟩ => ?_
    obtain ⟨ys, hys⟩ : ∃ ys, ys = Lib.compact l ++ List.replicate (l.length - (Lib.compact l).length) [] := ⟨_, rfl⟩
    have hyl : ys.length = l.length := by rw [hys]; simp; omega
    rw [← hys] at hw'
    have hfp : (Ch.own 9 1 (some ⟨g, 0, none⟩) l.length c (strs l)).fp = some g := by simp [Ch.fp, hc0]
    have hg2 := grownBy_sorted (w := w) (g := g) (n := q) (os := #[]) ys.toArray
    have hh := heap_sorted (n := q) (os := #[]) ys.toArray hg
    rw [grow_empty, ← hw'] at hg2 hh
    refine ⟨_, _, he, ⟨rfl, rfl⟩, hw.turn (by rw [hfp]; exact hg2) ⟨by simp, by omega, .inr ⟨g, _, rfl, hbg, hh, hm, by simpa [putCells] using hs, ?_⟩⟩ (.inr (.inl (by simp [Ch.fp])))⟩
    have ht2 := take_putCells cur ys (by rw [hyl]; omega)
    have := congrArg (List.take (Lib.compact l).length) ht2
    rw [List.take_take, hyl, Nat.min_eq_left hle] at this
    rw [Nat.mul_one, this, ← List.map_take, hys, List.take_left]
    rfl
end Ytakokckokchacaa
end Go.Proofs
namespace Go.Proofs.Ytakokckokchacaa
open Go.RowKit
set_option linter.unusedVariables false
set_option maxRecDepth 20000
theorem ltT_iff (a b : Txt) : ltT a b ↔ a < b := by
  unfold ltT
  rw [bytesLess_eq]
  simp
/-- each text is below the next ones -/
def StT (l : List Txt) : Prop := l.Pairwise ltT
theorem StT.nil : StT [] := List.Pairwise.nil
theorem StT.ext : ∀ {a b : List Txt}, StT a → StT b → (∀ x, x ∈ a ↔ x ∈ b) → a = b
  | [], [], _, _, _ => rfl
  | [], y :: b, _, _, h => absurd ((h y).2 (by simp)) (by simp)
  | x :: a, [], _, _, h => absurd ((h x).1 (by simp)) (by simp)
  | x :: a, y :: b, ha, hb, h => by
    obtain ⟨ha1, ha2⟩ := List.pairwise_cons.1 ha
    obtain ⟨hb1, hb2⟩ := List.pairwise_cons.1 hb
    have hxy : x = y := by
      rcases List.mem_cons.1 ((h x).1 (by simp)) with e | e
      · exact e
      · rcases List.mem_cons.1 ((h y).2 (by simp)) with e2 | e2
        · exact e2.symm
        · exact absurd (ltT_trans (ha1 y e2) (hb1 x e)) (ltT_irrefl _)
    subst hxy
    congr 1
    refine StT.ext ha2 hb2 fun z => ⟨fun hz => ?_, fun hz => ?_⟩
    · rcases List.mem_cons.1 ((h z).1 (List.mem_cons_of_mem _ hz)) with e | e
      · subst e; exact absurd (ha1 _ hz) (ltT_irrefl _)
      · exact e
    · rcases List.mem_cons.1 ((h z).2 (List.mem_cons_of_mem _ hz)) with e | e
      · subst e; exact absurd (hb1 _ hz) (ltT_irrefl _)
      · exact e
/-! sorted, and runs made single -/
theorem leS_iff (a b : Txt) : leS a b = true ↔ ¬ ltT b a := by
  unfold leS
  rw [decide_eq_true_iff, ltT_iff]
  exact List.not_lt.symm
theorem sort_pw (l : List Txt) : (l.mergeSort leS).Pairwise (fun a b => ¬ ltT b a) := by
  have h := List.pairwise_mergeSort (le := leS) (fun a b c h1 h2 => by
    rw [leS_iff, not_ltT] at *
    exact h1.elim (fun h1 => .inl (ltT_leT h1 h2)) (fun h1 => h1 ▸ h2)) (fun a b => by
    rcases ltT_total a b with h | h | h
    · simp [(leS_iff a b).2 (fun k => ltT_irrefl _ (ltT_trans h k))]
    · subst h; simp [(leS_iff a a).2 (ltT_irrefl _)]
    · simp [(leS_iff b a).2 (fun k => ltT_irrefl _ (ltT_trans h k))]) l
  exact h.imp fun h => (leS_iff _ _).1 h
theorem comp_inv {l : List Txt} (hp : l.Pairwise (fun a b => ¬ ltT b a)) : ∀ m, m ≤ l.length → StT (Lib.compactUpTo l.toArray m) ∧ (∀ x, x ∈ Lib.compactUpTo l.toArray m ↔ x ∈ l.take m)
  | 0, _ => ⟨by simp [StT, Lib.compactUpTo], by simp [Lib.compactUpTo]⟩
  | m + 1, hm => by
    obtain ⟨h1, h2⟩ := comp_inv hp m (by omega)
    rw [Lib.compactUpTo_succ]
    have hlm : m < l.length := by omega
    have hg : l.toArray[m]! = l[m] := by simp [getElem!_pos, hlm]
    have htk : l.take (m + 1) = l.take m ++ [l[m]] := by rw [List.take_add_one, List.getElem?_eq_getElem hlm]; rfl
    by_cases hk : Lib.keeps l.toArray m = true
    · rw [if_pos hk, hg]
      have hkk : m = 0 ∨ l.toArray[m]! ≠ l.toArray[m - 1]! := by simpa [Lib.keeps] using hk
      refine ⟨?_, fun x => ?_⟩
      · refine List.pairwise_append.2 ⟨h1, List.pairwise_singleton _ _, fun a ha b hb => ?_⟩
        rw [List.mem_singleton] at hb
        subst hb
        have ha' := (h2 a).1 ha
        obtain ⟨i, hi, rfl⟩ := List.getElem_of_mem ha'
        rw [List.length_take] at hi
        rw [List.getElem_take]
        have hle : ∀ i j (hi : i < l.length) (hj : j < l.length), i < j → ¬ ltT l[j] l[i] := fun i j hi hj hij => List.pairwise_iff_getElem.1 hp i j hi hj hij
        have hm0 : m ≠ 0 := by omega
        have hne : l[m] ≠ l[m - 1]'(by omega) := by
          have := hkk.resolve_left hm0
          rw [hg] at this
          simpa [getElem!_pos, show m - 1 < l.length by omega] using this
        have hlt : ltT (l[m - 1]'(by omega)) l[m] := by
          rcases ltT_total (l[m - 1]'(by omega)) l[m] with h | h | h
          · exact h
          · exact absurd h.symm hne
          · exact absurd h (hle (m - 1) m (by omega) hlm (by omega))
        by_cases him : i = m - 1
        · subst him; exact hlt
        · exact leT_ltT (not_ltT.1 (hle i (m - 1) (by omega) (by omega) (by omega))) hlt
      · rw [htk, List.mem_append, List.mem_append, h2]
    · rw [if_neg hk, List.append_nil]
      refine ⟨h1, fun x => ?_⟩
      rw [htk, List.mem_append, h2, List.mem_singleton]
      refine ⟨.inl, fun h => h.elim id fun h => ?_⟩
      have hkk : ¬ (m = 0 ∨ l.toArray[m]! ≠ l.toArray[m - 1]!) := by simpa [Lib.keeps] using hk
      have hm0 : m ≠ 0 := fun h => hkk (.inl h)
      have he : l.toArray[m]! = l.toArray[m - 1]! := Classical.not_not.1 fun h => hkk (.inr h)
      rw [hg] at he
      have hg1 : l.toArray[m - 1]! = l[m - 1]'(by omega) := by simp [getElem!_pos, show m - 1 < l.length by omega]
      rw [hg1] at he
      rw [h, he]
      exact List.mem_take_iff_getElem.2 ⟨m - 1, by omega, rfl⟩
/-- a list's texts, each once, rising -/
def setT (l : List Txt) : List Txt := Lib.compact (l.mergeSort leS)
theorem setT_st (l : List Txt) : StT (setT l) := by
  have := (comp_inv (sort_pw l) (l.mergeSort leS).length (Nat.le_refl _)).1
  exact this
theorem setT_mem (l : List Txt) (x : Txt) : x ∈ setT l ↔ x ∈ l := by
  have := (comp_inv (sort_pw l) (l.mergeSort leS).length (Nat.le_refl _)).2 x
  rw [List.take_length, List.mem_mergeSort] at this
  exact this
theorem setT_len (l : List Txt) : (setT l).length ≤ l.length := by
  have := compact_le (l.mergeSort leS)
  rwa [List.length_mergeSort] at this
theorem setT_uniq {l r : List Txt} (h : StT r) (hm : ∀ x, x ∈ r ↔ x ∈ l) : setT l = r := StT.ext (setT_st l) h fun x => (setT_mem l x).trans (hm x).symm
/-- the document's: a text put into a rising list -/
def putL (l : List Txt) (s : Txt) : List Txt := setT (l ++ [s])
theorem StT.put {l : List Txt} (h : StT l) {s : Txt} {k : Nat} (hk : k ≤ l.length) (hlo : ∀ i, i < k → ltT (l.getD i []) s) (hhi : k < l.length → ¬ ltT (l.getD k []) s) :
    putL l s = if k < l.length ∧ l.getD k [] = s then l else l.take k ++ [s] ++ l.drop k := by
  have hgd : ∀ i (hi : i < l.length), l.getD i [] = l[i] := fun i hi => by simp [List.getD, List.getElem?_eq_getElem hi]
  split
  · rename_i he
    refine setT_uniq h fun x => ?_
    rw [List.mem_append, List.mem_singleton]
    refine ⟨.inl, fun hx => hx.elim id fun hx => ?_⟩
    rw [hx, ← he.2, hgd k he.1]
    exact List.getElem_mem _
  · rename_i hne
    refine setT_uniq ?_ fun x => ?_
    · have hlt : k < l.length → ltT s (l.getD k []) := fun hkl => by
        rcases ltT_total s (l.getD k []) with h | h | h
        · exact h
        · exact absurd ⟨hkl, h.symm⟩ hne
        · exact absurd h (hhi hkl)
      have hpw := List.pairwise_iff_getElem.1 h
      refine List.pairwise_append.2 ⟨List.pairwise_append.2 ⟨h.sublist (List.take_sublist _ _), List.pairwise_singleton _ _, fun a ha b hb => ?_⟩, h.sublist (List.drop_sublist _ _), fun a ha b hb => ?_⟩
      · rw [List.mem_singleton] at hb
        subst hb
        obtain ⟨i, hi, rfl⟩ := List.getElem_of_mem ha
        rw [List.length_take] at hi
        rw [List.getElem_take, ← hgd i (by omega)]
        exact hlo i (by omega)
      · obtain ⟨j, hj, rfl⟩ := List.getElem_of_mem hb
        rw [List.length_drop] at hj
        rw [List.getElem_drop]
        have hs : ltT s l[k + j] := by
          have h1 := hlt (by omega)
          rw [hgd k (by omega)] at h1
          rcases Nat.eq_zero_or_pos j with h0 | h0
          · subst h0; exact h1
          · exact ltT_trans h1 (hpw k (k + j) (by omega) (by omega) (by omega))
        rcases List.mem_append.1 ha with ha | ha
        · obtain ⟨i, hi, rfl⟩ := List.getElem_of_mem ha
          rw [List.length_take] at hi
          rw [List.getElem_take, ]
          exact hpw i (k + j) (by omega) (by omega) (by omega)
        · rw [List.mem_singleton] at ha
          subst ha; exact hs
    · rw [List.mem_append, List.mem_append, List.mem_append, List.mem_singleton]
      conv => rhs; rw [← List.take_append_drop k l, List.mem_append]
      constructor
      · rintro ((h | h) | h)
        · exact .inl (.inl h)
        · exact .inr h
        · exact .inl (.inr h)
      · rintro ((h | h) | h)
        · exact .inl (.inl h)
        · exact .inr h
        · exact .inl (.inr h)
/-- the texts whose set a record's terms are: of its text, of its source -/
def rawT (txt src : List UInt8) : List Txt := wordsL txt ++ (wordsL src).map (64 :: ·)
def termsL (txt src : List UInt8) : List Txt := setT (rawT txt src)
theorem rawT_len (txt src : List UInt8) : (rawT txt src).length ≤ txt.length + src.length := by
  have h1 := wordsL_len txt
  have h2 := wordsL_len src
  simp [rawT]; omega
end Go.Proofs.Ytakokckokchacaa
namespace Go.Proofs.Ytakokckokchacaa
open Go.RowKit
set_option linter.unusedVariables false
set_option maxRecDepth 20000
variable {B : Nat} {w0 : World} {F : List Ch} {A A1 A2 : Option Addr} {n c c1 c2 g : Nat}
end Go.Proofs.Ytakokckokchacaa
namespace Go.Proofs.Ytakokckokchacaa
open Go.RowKit
set_option linter.unusedVariables false
set_option maxRecDepth 20000
variable {B : Nat} {w0 : World} {F R L M : List Ch} {A A2 AT : Option Addr} {n c c2 cT g : Nat} {x : RecC} {T : List Txt} {s : StepC} {t : Qt}
/-! plain -/
def leafM (x : RecC) (T : List Txt) (s : StepC) : Bool :=
  if s.1 = 1 then decide (s.2.2.1 ∈ T) else if s.1 = 2 then T.any (fun y => decide (bgT y s.2.2.1)) else if s.1 = 3 then decide (s.2.2.2.1 ≤ x.1 ∧ x.1 ≤ s.2.2.2.2) else decide (s.2.2.2.1 ≤ x.2.1.toNat ∧ x.2.1.toNat ≤ s.2.2.2.2)
def mm (x : RecC) (T : List Txt) : Qt → Bool × Bool × Bool
  | .leaf s => (leafM x T s, true, false)
  | .not k => (!(mm x T k).1, true, false)
  | .group op ks => (if op = 6 then (mm x T ks).2.1 else (mm x T ks).2.2, true, false)
  | .nil => (true, true, false)
  | .cons k r => (true, (mm x T k).1 && (mm x T r).2.1, (mm x T k).1 || (mm x T r).2.2)
def meansT (x : RecC) (T : List Txt) (t : Qt) : Bool := (mm x T t).1
theorem mm_all : ∀ l : List Qt, (mm x T (ofL l)).2.1 = l.all (meansT x T)
  | [] => rfl
  | k :: r => by simp [ofL, mm, mm_all r, meansT]
theorem mm_any : ∀ l : List Qt, (mm x T (ofL l)).2.2 = l.any (meansT x T)
  | [] => rfl
  | k :: r => by simp [ofL, mm, mm_any r, meansT]
theorem means_grp (op : Int) (l : List Qt) : meansT x T (.group op (ofL l)) = if op = 6 then l.all (meansT x T) else l.any (meansT x T) := by
  show (if op = 6 then _ else _) = _
  rw [mm_all, mm_any]
/-! texts in a list -/
theorem hasp0m_d (x t : Txt) : Does Try.prog B w0 124 [.string ⟨x.toArray⟩, .string ⟨t.toArray⟩] F (fun r L => r = .bool (decide (bgT x t)) ∧ L = F) := by
  refine fn_walk Try.func124 18 rfl rfl rfl [(0, .string ⟨x.toArray⟩), (1, .string ⟨t.toArray⟩)] ⟨⟨rfl, rfl⟩, ⟨rfl, rfl⟩, trivial⟩ ?_
  refine vc_seq ?_
  refine vc_region ?_
  refine vl_det (det_assign rfl) rfl ?_
  refine vl_end [(0, _), (1, _)] ⟨rfl, rfl, trivial⟩ ?_
  refine then_next ?_
  refine vc_seq ?_
  refine vc_region ?_
  refine vl_cut 13 17 [] (bgT x t) trivial ?_ ?_
  · skip
    refine vl_det (det_move rfl) rfl ?_
    refine vl_det (det_len_s Try.underlying9 rfl) rfl ?_
    refine vl_det (det_move rfl) rfl ?_
    refine vl_det (det_len_s Try.underlying9 rfl) rfl ?_
    refine vl_det (det_geq rfl rfl) rfl ?_
    refine vl_det (det_move rfl) rfl ?_
    refine vl_guardp rfl rfl rfl (fun h10 => ?_) (fun h10 => ?_)
    · skip
      refine vl_det (det_move rfl) rfl ?_
      refine vl_guard_t rfl rfl ?_
      refine vl_det (det_move rfl) rfl ?_
      refine vl_guard_t rfl rfl ?_
      refine vl_det (det_len_s Try.underlying9 rfl) rfl ?_
      refine vl_guard_t rfl rfl ?_
      refine vl_det (det_str_hi Try.underlying9 rfl rfl rfl (by omega)) rfl ?_
      refine vl_guard_t rfl rfl ?_
      refine vl_det (det_move rfl) rfl ?_
      refine vl_guard_t rfl rfl ?_
      refine vl_det (det_s_eql rfl rfl) rfl ?_
      refine vl_det (det_pick_t rfl rfl) rfl ?_
      exact vl_cut_end trivial (by first | rfl | exact bool_to_t (by first | exact fun h => absurd h.1 (by omega) | exact ⟨fun h => ⟨by omega, h⟩, fun h => h.2⟩) | exact bool_to_f (by first | exact fun h => absurd h.1 (by omega) | exact ⟨fun h => ⟨by omega, h⟩, fun h => h.2⟩) | exact bool_to (by first | exact fun h => absurd h.1 (by omega) | exact ⟨fun h => ⟨by omega, h⟩, fun h => h.2⟩) | exact bool_to_b (by first | exact fun h => absurd h.1 (by omega) | exact ⟨fun h => ⟨by omega, h⟩, fun h => h.2⟩))
    · skip
      refine vl_guard_f rfl rfl rfl rfl ?_
      refine vl_guard_f rfl rfl rfl rfl ?_
      refine vl_guard_f rfl rfl rfl rfl ?_
      refine vl_guard_f rfl rfl rfl rfl ?_
      refine vl_guard_f rfl rfl rfl rfl ?_
      refine vl_det (det_pick_f rfl rfl) rfl ?_
      exact vl_cut_end trivial (by first | rfl | exact bool_to_t (by first | exact fun h => absurd h.1 (by omega) | exact ⟨fun h => ⟨by omega, h⟩, fun h => h.2⟩) | exact bool_to_f (by first | exact fun h => absurd h.1 (by omega) | exact ⟨fun h => ⟨by omega, h⟩, fun h => h.2⟩) | exact bool_to (by first | exact fun h => absurd h.1 (by omega) | exact ⟨fun h => ⟨by omega, h⟩, fun h => h.2⟩) | exact bool_to_b (by first | exact fun h => absurd h.1 (by omega) | exact ⟨fun h => ⟨by omega, h⟩, fun h => h.2⟩))
  · skip
    refine vl_det (det_assign rfl) rfl ?_
    refine vl_end [(4, _)] ⟨rfl, trivial⟩ ?_
    refine then_next ?_
    refine vc_ret ?_
    refine ret1 rfl rfl ?_
    exact ⟨rfl, rfl⟩
theorem haspm_d (x t : Txt) : Does Try.prog B w0 120 [.string ⟨x.toArray⟩, .string ⟨t.toArray⟩] F (fun r L => r = .bool (decide (bgT x t)) ∧ L = F) := by
  refine fn_walk Try.func120 8 rfl rfl rfl [(0, .string ⟨x.toArray⟩), (1, .string ⟨t.toArray⟩)] ⟨⟨rfl, rfl⟩, ⟨rfl, rfl⟩, trivial⟩ ?_
  refine vc_seq ?_
  refine vc_region ?_
  refine vl_det (det_assign rfl) rfl ?_
  refine vl_end [(0, _), (1, _)] ⟨rfl, rfl, trivial⟩ ?_
  refine then_next ?_
  refine vc_seq ?_
  refine vc_region ?_
  refine vl_det (det_move rfl) rfl ?_
  refine vl_det (det_move rfl) rfl ?_
  refine vl_call co124 rfl (hasp0m_d x t) rfl ?_
  rintro _ _ ⟨rfl, hLL⟩
  obtain rfl := hLL.symm
  refine vl_det (det_assign rfl) rfl ?_
  refine vl_end [(4, _)] ⟨rfl, trivial⟩ ?_
  refine then_next ?_
  refine vc_ret ?_
  refine ret1 rfl rfl ?_
  exact ⟨rfl, rfl⟩
theorem idxs_d (t : Txt) (hb : Bor B w0 F 1 (.slice A T.length c) T.length (strs T)) (hl : T.length ≤ 1000000000) :
    Does Try.prog B w0 122 [.slice A T.length c, .string ⟨t.toArray⟩] F (fun r L => (∃ k : Int, r = .int .i64 k ∧ (0 ≤ k ↔ t ∈ T)) ∧ L = F) := by
  refine fn_walk Try.func122 19 rfl rfl rfl [(0, .slice A T.length c), (1, .string ⟨t.toArray⟩)] ⟨⟨rfl, rfl⟩, ⟨rfl, rfl⟩, trivial⟩ ?_
  refine vc_seq ?_
  refine vc_region ?_
  refine vl_det (det_assign rfl) rfl ?_
  refine vl_end [(0, _), (1, _)] ⟨rfl, rfl, trivial⟩ ?_
  refine then_next ?_
  refine vc_seq ?_
  refine vc_seq ?_
  refine vc_region ?_
  refine vl_det (det_move rfl) rfl ?_
  refine vl_det (det_len_sl Try.underlying39 rfl) rfl ?_
  refine vl_det (det_move rfl) rfl ?_
  refine vl_end [(0, _), (1, _), (7, _), (8, _)] ⟨rfl, rfl, rfl, rfl, trivial⟩ ?_
  refine then_next ?_
  refine vc_block ?_
  refine vc_loopJ (fun zf zL zm => ∃ (k : Nat), (k ≤ T.length ∧ t ∉ T.take k) ∧ T.length - k = zm ∧ Sub zf [(0, .slice A T.length c), (1, .string ⟨t.toArray⟩), (7, .int .i64 T.length), (8, .int .i64 k)] ∧ Wk zL (F)) _ ⟨0, ⟨Nat.zero_le _, by simp⟩, rfl, ⟨(by first | rfl | exact int_to (by omega) | exact sl_to (by omega)), (by first | rfl | exact int_to (by omega) | exact sl_to (by omega)), (by first | rfl | exact int_to (by omega) | exact sl_to (by omega)), (by first | rfl | exact int_to (by omega) | exact sl_to (by omega)), trivial⟩, .refl _⟩ ?_
  rintro _ _ _ ⟨k, ⟨hk, hS⟩, rfl, hs, hp⟩
  refine vc_weaken _ hs (vc_wk hp ?_)
  clear hs hp
  refine vc_seq ?_
  refine vc_region ?_
  refine vl_det (det_lss rfl rfl) rfl ?_
  refine vl_end [(0, _), (1, _), (7, _), (8, _), (9, _)] ⟨rfl, rfl, rfl, rfl, rfl, trivial⟩ ?_
  refine then_next ?_
  refine vc_seq ?_
  refine vc_decideU rfl (fun h9 => ?_) (fun h9 => ?_)
  · skip
    refine vc_skip ?_
    refine then_next ?_
    refine vc_seq ?_
    refine vc_block ?_
    refine vc_seq ?_
    refine vc_region ?_
    refine vl_det (det_move rfl) rfl ?_
    refine vl_det (det_assign rfl) rfl ?_
    refine vl_end [(0, _), (1, _), (5, _), (7, _), (8, _)] ⟨rfl, rfl, rfl, rfl, rfl, trivial⟩ ?_
    refine then_next ?_
    refine vc_seq ?_
    refine vc_region ?_
    refine vl_det (det_move rfl) rfl ?_
    refine vl_det (det_move rfl) rfl ?_
    refine vl_det (det_move rfl) rfl ?_
    refine vl_det (det_indexAddr (size := 1) Try.underlying39 (by kernel_rfl) rfl rfl rfl (by omega) (by first | (exact Bor.own (by repeat (first | exact List.Mem.head _ | apply List.Mem.tail))) | (repeat (first | assumption | apply Bor.cons)))) rfl ?_
    refine vl_det (det_load_str (by kernel_rfl) rfl (by first | (exact Bor.own (by repeat (first | exact List.Mem.head _ | apply List.Mem.tail))) | (repeat (first | assumption | apply Bor.cons))) (by omega)) rfl ?_
    refine vl_det (det_s_eql rfl rfl) rfl ?_
    refine vl_end [(0, _), (1, _), (5, _), (7, _), (8, _), (16, _)] ⟨rfl, rfl, rfl, rfl, rfl, rfl, trivial⟩ ?_
    refine then_next ?_
    refine vc_decideU rfl (fun h16 => ?_) (fun h16 => ?_)
    · skip
      refine vc_seq ?_
      refine vc_region ?_
      refine vl_det (det_move rfl) rfl ?_
      refine vl_det (det_assign rfl) rfl ?_
      refine vl_end [(4, _)] ⟨rfl, trivial⟩ ?_
      refine then_next ?_
      refine vc_ret ?_
      refine in_ret ?_
      refine then_ret ?_
      refine loop_ret ?_
      refine in_ret ?_
      refine then_ret ?_
      refine ret1 rfl rfl ?_
      have hm := getD_mem (show k < T.length by omega) ([] : Txt)
      have e : t = T.getD k [] := by simpa using h16
      exact ⟨⟨k, rfl, ⟨fun _ => e ▸ hm, fun _ => by omega⟩⟩, rfl⟩
    · skip
      refine vc_skip ?_
      refine in_normal ?_
      refine then_next ?_
      refine vc_region ?_
      refine vl_det (det_add rfl rfl (w_i64 (by omega) (by omega))) rfl ?_
      refine vl_det (det_move rfl) rfl ?_
      refine vl_end [(0, _), (1, _), (7, _), (8, _)] ⟨rfl, rfl, rfl, rfl, trivial⟩ ?_
      refine in_loop_ ⟨_, by omega, k + 1, ⟨by omega, by rw [take_getD (by omega) []]; simp [hS]; exact fun e => h16 (by simpa using e)⟩, rfl, ⟨(by first | rfl | exact int_to (by omega) | exact sl_to (by omega)), (by first | rfl | exact int_to (by omega) | exact sl_to (by omega)), (by first | rfl | exact int_to (by omega) | exact sl_to (by omega)), (by first | rfl | exact int_to (by omega) | exact sl_to (by omega)), trivial⟩, .refl _⟩
  · skip
    refine vc_exit ?_
    refine then_exit ?_
    refine loop_exit ?_
    refine in_eq ?_
    refine then_next ?_
    refine vc_seq ?_
    refine vc_region ?_
    refine vl_det (det_assign rfl) rfl ?_
    refine vl_end [(4, _)] ⟨rfl, trivial⟩ ?_
    refine then_next ?_
    refine vc_ret ?_
    refine ret1 rfl rfl ?_
    rw [List.take_of_length_le (by omega)] at hS
    exact ⟨⟨-1, rfl, ⟨fun h => absurd h (by decide), fun h => absurd h hS⟩⟩, rfl⟩
theorem cons_d (t : Txt) (hb : Bor B w0 F 1 (.slice A T.length c) T.length (strs T)) (hl : T.length ≤ 1000000000) :
    Does Try.prog B w0 117 [.slice A T.length c, .string ⟨t.toArray⟩] F (fun r L => r = .bool (decide (t ∈ T)) ∧ L = F) := by
  refine fn_walk Try.func117 9 rfl rfl rfl [(0, .slice A T.length c), (1, .string ⟨t.toArray⟩)] ⟨⟨rfl, rfl⟩, ⟨rfl, rfl⟩, trivial⟩ ?_
  refine vc_seq ?_
  refine vc_region ?_
  refine vl_det (det_assign rfl) rfl ?_
  refine vl_end [(0, _), (1, _)] ⟨rfl, rfl, trivial⟩ ?_
  refine then_next ?_
  refine vc_seq ?_
  refine vc_region ?_
  refine vl_det (det_move rfl) rfl ?_
  refine vl_det (det_move rfl) rfl ?_
  refine vl_call co122 rfl (idxs_d t (by first | (exact Bor.own (by repeat (first | exact List.Mem.head _ | apply List.Mem.tail))) | (repeat (first | assumption | apply Bor.cons))) hl) rfl ?_
  rintro _ _ ⟨⟨k7, rfl, hk7⟩, hLL⟩
  obtain rfl := hLL.symm
  refine vl_det (det_geq rfl rfl) rfl ?_
  refine vl_det (det_assign rfl) rfl ?_
  refine vl_end [(4, _)] ⟨rfl, trivial⟩ ?_
  refine then_next ?_
  refine vc_ret ?_
  refine ret1 rfl rfl ?_
  exact ⟨by rw [decide_eq_decide.2 hk7], rfl⟩
theorem lmf_d (y : Txt) {op nn : Int} {wd : Txt} {fr to : Nat} : Does Try.prog B w0 119 [.string ⟨y.toArray⟩, .pointer (some ⟨g, 0, none⟩)] (.blk g 88 [.int .i64 op, .int .i64 nn, .string ⟨wd.toArray⟩, .int .u64 (fr : Int), .int .u64 (to : Int)] :: F) (fun r L => r = .bool (decide (bgT y wd)) ∧ L = .blk g 88 [.int .i64 op, .int .i64 nn, .string ⟨wd.toArray⟩, .int .u64 (fr : Int), .int .u64 (to : Int)] :: F) := by
  refine fn_walk Try.func119 9 rfl rfl rfl [(0, .string ⟨y.toArray⟩), (1, .pointer (some ⟨g, 0, none⟩))] ⟨⟨rfl, rfl⟩, ⟨rfl, rfl⟩, trivial⟩ ?_
  refine vc_seq ?_
  refine vc_region ?_
  refine vl_det (det_assign rfl) rfl ?_
  refine vl_end [(0, _), (1, _)] ⟨rfl, rfl, trivial⟩ ?_
  refine then_next ?_
  refine vc_seq ?_
  refine vc_region ?_
  refine vl_det (det_move rfl) rfl ?_
  refine vl_det (det_fieldAddr_ Try.underlying88 rfl (by kernel_rfl) rfl rfl) rfl ?_
  refine vl_det (det_fieldAddr_ Try.underlying38 rfl (by kernel_rfl) rfl rfl) rfl ?_
  refine vl_det (det_load_blk (by kernel_rfl) rfl (by repeat (first | exact .hd | apply Sel.tl)) rfl) rfl ?_
  refine vl_call co120 rfl (haspm_d y wd) rfl ?_
  rintro _ _ ⟨rfl, hLL⟩
  obtain rfl := hLL.symm
  refine vl_det (det_assign rfl) rfl ?_
  refine vl_end [(3, _)] ⟨rfl, trivial⟩ ?_
  refine then_next ?_
  refine vc_ret ?_
  refine ret1 rfl rfl ?_
  exact ⟨rfl, rfl⟩
theorem idxf_d {op nn : Int} {wd : Txt} {fr to : Nat} (hb : Bor B w0 F 1 (.slice A T.length c) T.length (strs T)) (hl : T.length ≤ 1000000000) :
    Does Try.prog B w0 123 [.slice A T.length c, .func (.func 119) #[] #[.pointer (some ⟨g, 0, none⟩)]] (.blk g 88 [.int .i64 op, .int .i64 nn, .string ⟨wd.toArray⟩, .int .u64 (fr : Int), .int .u64 (to : Int)] :: F) (fun r L => (∃ k : Int, r = .int .i64 k ∧ (0 ≤ k ↔ T.any (fun y => decide (bgT y wd)) = true)) ∧ L = .blk g 88 [.int .i64 op, .int .i64 nn, .string ⟨wd.toArray⟩, .int .u64 (fr : Int), .int .u64 (to : Int)] :: F) := by
  refine fn_walk Try.func123 19 rfl rfl rfl [(0, .slice A T.length c), (1, .func (.func 119) #[] #[.pointer (some ⟨g, 0, none⟩)])] ⟨⟨rfl, rfl⟩, ⟨rfl, rfl⟩, trivial⟩ ?_
  refine vc_seq ?_
  refine vc_region ?_
  refine vl_det (det_assign rfl) rfl ?_
  refine vl_end [(0, _), (1, _)] ⟨rfl, rfl, trivial⟩ ?_
  refine then_next ?_
  refine vc_seq ?_
  refine vc_seq ?_
  refine vc_region ?_
  refine vl_det (det_move rfl) rfl ?_
  refine vl_det (det_len_sl Try.underlying39 rfl) rfl ?_
  refine vl_det (det_move rfl) rfl ?_
  refine vl_end [(0, _), (1, _), (7, _), (8, _)] ⟨rfl, rfl, rfl, rfl, trivial⟩ ?_
  refine then_next ?_
  refine vc_block ?_
  refine vc_loopJ (fun zf zL zm => ∃ (k : Nat), (k ≤ T.length ∧ (T.take k).any (fun y => decide (bgT y wd)) = false) ∧ T.length - k = zm ∧ Sub zf [(0, .slice A T.length c), (1, .func (.func 119) #[] #[.pointer (some ⟨g, 0, none⟩)]), (7, .int .i64 T.length), (8, .int .i64 k)] ∧ Wk zL (.blk g 88 [.int .i64 op, .int .i64 nn, .string ⟨wd.toArray⟩, .int .u64 (fr : Int), .int .u64 (to : Int)] :: F)) _ ⟨0, ⟨Nat.zero_le _, rfl⟩, rfl, ⟨(by first | rfl | exact int_to (by omega) | exact sl_to (by omega)), (by first | rfl | exact int_to (by omega) | exact sl_to (by omega)), (by first | rfl | exact int_to (by omega) | exact sl_to (by omega)), (by first | rfl | exact int_to (by omega) | exact sl_to (by omega)), trivial⟩, .refl _⟩ ?_
  rintro _ _ _ ⟨k, ⟨hk, ha⟩, rfl, hs, hp⟩
  refine vc_weaken _ hs (vc_wk hp ?_)
  clear hs hp
  refine vc_seq ?_
  refine vc_region ?_
  refine vl_det (det_lss rfl rfl) rfl ?_
  refine vl_end [(0, _), (1, _), (7, _), (8, _), (9, _)] ⟨rfl, rfl, rfl, rfl, rfl, trivial⟩ ?_
  refine then_next ?_
  refine vc_seq ?_
  refine vc_decideU rfl (fun h9 => ?_) (fun h9 => ?_)
  · skip
    have hmem := getD_mem (show k < T.length by omega) ([] : Txt)
    have htk := take_getD (show k < T.length by omega) ([] : Txt)
    refine vc_skip ?_
    refine then_next ?_
    refine vc_seq ?_
    refine vc_block ?_
    refine vc_seq ?_
    refine vc_region ?_
    refine vl_det (det_move rfl) rfl ?_
    refine vl_det (det_assign rfl) rfl ?_
    refine vl_end [(0, _), (1, _), (5, _), (7, _), (8, _)] ⟨rfl, rfl, rfl, rfl, rfl, trivial⟩ ?_
    refine then_next ?_
    refine vc_seq ?_
    refine vc_region ?_
    refine vl_det (det_move rfl) rfl ?_
    refine vl_det (det_move rfl) rfl ?_
    refine vl_det (det_move rfl) rfl ?_
    refine vl_det (det_indexAddr (size := 1) Try.underlying39 (by kernel_rfl) rfl rfl rfl (by omega) (by first | (exact Bor.own (by repeat (first | exact List.Mem.head _ | apply List.Mem.tail))) | (repeat (first | assumption | apply Bor.cons)))) rfl ?_
    refine vl_det (det_load_str (b := T) (j := k) (by kernel_rfl) rfl (by first | (exact Bor.own (by repeat (first | exact List.Mem.head _ | apply List.Mem.tail))) | (repeat (first | assumption | apply Bor.cons))) (by omega)) rfl ?_
    refine vl_callv (callable Try.func119 rfl rfl) rfl rfl (lmf_d (T.getD k [])) rfl ?_
    rintro _ _ ⟨rfl, hLL⟩
    obtain rfl := hLL.symm
    refine vl_end [(0, _), (1, _), (5, _), (7, _), (8, _), (16, _)] ⟨rfl, rfl, rfl, rfl, rfl, rfl, trivial⟩ ?_
    refine then_next ?_
    refine vc_decideU rfl (fun h16 => ?_) (fun h16 => ?_)
    · skip
      refine vc_seq ?_
      refine vc_region ?_
      refine vl_det (det_move rfl) rfl ?_
      refine vl_det (det_assign rfl) rfl ?_
      refine vl_end [(4, _)] ⟨rfl, trivial⟩ ?_
      refine then_next ?_
      refine vc_ret ?_
      refine in_ret ?_
      refine then_ret ?_
      refine loop_ret ?_
      refine in_ret ?_
      refine then_ret ?_
      refine ret1 rfl rfl ?_
      exact ⟨⟨k, rfl, ⟨fun _ => List.any_eq_true.2 ⟨_, hmem, decide_eq_true h16⟩, fun _ => by omega⟩⟩, rfl⟩
    · skip
      refine vc_skip ?_
      refine in_normal ?_
      refine then_next ?_
      refine vc_region ?_
      refine vl_det (det_add rfl rfl (w_i64 (by omega) (by omega))) rfl ?_
      refine vl_det (det_move rfl) rfl ?_
      refine vl_end [(0, _), (1, _), (7, _), (8, _)] ⟨rfl, rfl, rfl, rfl, trivial⟩ ?_
      refine in_loop_ ⟨_, by omega, k + 1, ⟨by omega, by rw [htk, List.any_append, ha]; simp only [List.any_cons, List.any_nil, Bool.false_or, Bool.or_false]; exact decide_eq_false h16⟩, rfl, ⟨(by first | rfl | exact int_to (by omega) | exact sl_to (by omega)), (by first | rfl | exact int_to (by omega) | exact sl_to (by omega)), (by first | rfl | exact int_to (by omega) | exact sl_to (by omega)), (by first | rfl | exact int_to (by omega) | exact sl_to (by omega)), trivial⟩, .refl _⟩
  · skip
    refine vc_exit ?_
    refine then_exit ?_
    refine loop_exit ?_
    refine in_eq ?_
    refine then_next ?_
    refine vc_seq ?_
    refine vc_region ?_
    refine vl_det (det_assign rfl) rfl ?_
    refine vl_end [(4, _)] ⟨rfl, trivial⟩ ?_
    refine then_next ?_
    refine vc_ret ?_
    refine ret1 rfl rfl ?_
    have e : T.any (fun y => decide (bgT y wd)) = false := by
      have := ha
      rwa [List.take_of_length_le (by omega)] at this
    exact ⟨⟨-1, rfl, by rw [e]; simp⟩, rfl⟩
theorem conf_d {op nn : Int} {wd : Txt} {fr to : Nat} (hb : Bor B w0 F 1 (.slice A T.length c) T.length (strs T)) (hl : T.length ≤ 1000000000) :
    Does Try.prog B w0 118 [.slice A T.length c, .func (.func 119) #[] #[.pointer (some ⟨g, 0, none⟩)]] (.blk g 88 [.int .i64 op, .int .i64 nn, .string ⟨wd.toArray⟩, .int .u64 (fr : Int), .int .u64 (to : Int)] :: F) (fun r L => r = .bool (T.any (fun y => decide (bgT y wd))) ∧ L = .blk g 88 [.int .i64 op, .int .i64 nn, .string ⟨wd.toArray⟩, .int .u64 (fr : Int), .int .u64 (to : Int)] :: F) := by
  refine fn_walk Try.func118 9 rfl rfl rfl [(0, .slice A T.length c), (1, .func (.func 119) #[] #[.pointer (some ⟨g, 0, none⟩)])] ⟨⟨rfl, rfl⟩, ⟨rfl, rfl⟩, trivial⟩ ?_
  refine vc_seq ?_
  refine vc_region ?_
  refine vl_det (det_assign rfl) rfl ?_
  refine vl_end [(0, _), (1, _)] ⟨rfl, rfl, trivial⟩ ?_
  refine then_next ?_
  refine vc_seq ?_
  refine vc_region ?_
  refine vl_det (det_move rfl) rfl ?_
  refine vl_det (det_move rfl) rfl ?_
  refine vl_call co123 rfl (idxf_d hb hl) rfl ?_
  rintro _ _ ⟨⟨k7, rfl, hk7⟩, hLL⟩
  obtain rfl := hLL.symm
  refine vl_det (det_geq rfl rfl) rfl ?_
  refine vl_det (det_assign rfl) rfl ?_
  refine vl_end [(4, _)] ⟨rfl, trivial⟩ ?_
  refine then_next ?_
  refine vc_ret ?_
  refine ret1 rfl rfl ?_
  exact ⟨congrArg Value.bool (by rw [Bool.eq_iff_iff, decide_eq_true_iff]; exact hk7), rfl⟩
theorem within_d (y : Nat) {op nn : Int} {wd : Txt} {fr to : Nat} : Does Try.prog B w0 121 [.int .u64 (y : Int), .agg #[.int .i64 op, .int .i64 nn, .string ⟨wd.toArray⟩, .int .u64 (fr : Int), .int .u64 (to : Int)]] F (fun r L => r = .bool (decide (fr ≤ y ∧ y ≤ to)) ∧ L = F) := by
  refine fn_walk Try.func121 15 rfl rfl rfl [(0, .int .u64 (y : Int)), (1, .agg #[.int .i64 op, .int .i64 nn, .string ⟨wd.toArray⟩, .int .u64 (fr : Int), .int .u64 (to : Int)])] ⟨⟨rfl, rfl⟩, ⟨rfl, rfl⟩, trivial⟩ ?_
  refine vc_seq ?_
  refine vc_region ?_
  refine vl_eff (eff_box rfl rfl) rfl ?_
  rintro _ _ ⟨g3, rfl, rfl⟩
  refine vl_det (det_assign rfl) rfl ?_
  refine vl_end [(0, _), (3, _)] ⟨rfl, rfl, trivial⟩ ?_
  refine then_next ?_
  refine vc_seq ?_
  refine vc_region ?_
  refine vl_cut 10 14 [] (fr ≤ y ∧ y ≤ to) trivial ?_ ?_
  · skip
    refine vl_det (det_fieldAddr_ Try.underlying38 rfl (by kernel_rfl) rfl rfl) rfl ?_
    refine vl_det (det_load_blk (by kernel_rfl) rfl (by repeat (first | exact .hd | apply Sel.tl)) rfl) rfl ?_
    refine vl_det (det_move rfl) rfl ?_
    refine vl_det (det_leq rfl rfl) rfl ?_
    refine vl_det (det_move rfl) rfl ?_
    refine vl_guardp rfl rfl rfl (fun h9 => ?_) (fun h9 => ?_)
    · skip
      refine vl_det (det_move rfl) rfl ?_
      refine vl_guard_t rfl rfl ?_
      refine vl_det (det_fieldAddr_ Try.underlying38 rfl (by kernel_rfl) rfl rfl) rfl ?_
      refine vl_guard_t rfl rfl ?_
      refine vl_det (det_load_blk (by kernel_rfl) rfl (by repeat (first | exact .hd | apply Sel.tl)) rfl) rfl ?_
      refine vl_guard_t rfl rfl ?_
      refine vl_det (det_leq rfl rfl) rfl ?_
      refine vl_det (det_pick_t rfl rfl) rfl ?_
      exact vl_cut_end trivial (by first | rfl | exact bool_to_t (by first | omega | simp_all) | exact bool_to_f (by first | omega | simp_all) | exact bool_to (by first | omega | simp_all) | exact bool_to_b (by first | omega | simp_all))
    · skip
      refine vl_guard_f rfl rfl rfl rfl ?_
      refine vl_guard_f rfl rfl rfl rfl ?_
      refine vl_guard_f rfl rfl rfl rfl ?_
      refine vl_det (det_pick_f rfl rfl) rfl ?_
      exact vl_cut_end trivial (by first | rfl | exact bool_to_t (by first | omega | simp_all) | exact bool_to_f (by first | omega | simp_all) | exact bool_to (by first | omega | simp_all) | exact bool_to_b (by first | omega | simp_all))
  · skip
    refine vl_det (det_assign rfl) rfl ?_
    refine vl_end [(4, _)] ⟨rfl, trivial⟩ ?_
    refine then_next ?_
    refine vc_ret ?_
    refine ret_wk (L' := F) (.skip (.refl _)) ?_
    refine ret1 rfl rfl ?_
    exact ⟨rfl, rfl⟩
end Go.Proofs.Ytakokckokchacaa
namespace Go.Proofs.Ytakokckokchacaa
open Go.RowKit
set_option linter.unusedVariables false
set_option maxRecDepth 20000
variable {B : Nat} {w0 : World} {F R L M : List Ch} {A A2 AT : Option Addr} {n c c2 cT g : Nat} {x : RecC} {T : List Txt} {s : StepC} {t : Qt}
theorem DoesM.reperm {P : Program} {B : Nat} {w0 : World} {u : Value} {name : String} {args : List Value} {L M : List Ch} {v : Value} (h : DoesM P B w0 u name args M (fun r K => r = v ∧ K = M)) (hp : L.Perm M) : DoesM P B w0 u name args L (fun r K => r = v ∧ K = L) := by
  obtain ⟨t, w, f, r, h1, h2, h3, h4⟩ := h
  exact ⟨t, w, f, r, h1, h2, h3, fun w hw => (h4 w (hw.perm hp)).mono fun e w' ⟨r, K, he, ⟨hr, hK⟩, hs⟩ => by subst hK; exact ⟨r, L, he, ⟨hr, rfl⟩, hs.perm hp.symm⟩⟩
abbrev fcs (x : RecC) (AT : Option Addr) (n cT : Nat) : List Value := [.int .u64 (x.1 : Int), .int .u8 (x.2.1.toNat : Int), .string ⟨x.2.2.1.toArray⟩, .string ⟨x.2.2.2.toArray⟩, .slice AT n cT]
theorem swpR {a b : Ch} {R : List Ch} : (a :: b :: R).Perm (b :: a :: R) := List.Perm.swap b a R
theorem means_leaf (hb : Bor B w0 F 1 (.slice AT T.length cT) T.length (strs T)) (hl : T.length ≤ 1000000000) (s : StepC) :
    Does Try.prog B w0 115 [.agg (StepC.cells s).toArray, .pointer (some ⟨g, 0, none⟩)] (.blk g 76 (fcs x AT T.length cT) :: F) (fun r L => r = .bool (leafM x T s) ∧ L = .blk g 76 (fcs x AT T.length cT) :: F) := by
  obtain ⟨op, nn, wd, fr, to⟩ := s
  obtain ⟨tm, lv, src, txt⟩ := x
  have hlv := lv.toNat_lt
  have hq1 : op = 1 → leafM (tm, lv, src, txt) T (op, nn, wd, fr, to) = decide (wd ∈ T) := fun h => if_pos h
  have hq2 : op = 2 → leafM (tm, lv, src, txt) T (op, nn, wd, fr, to) = T.any (fun y => decide (bgT y wd)) := fun h => by unfold leafM; simp only; rw [if_neg (by omega), if_pos h]
  have hq3 : op = 3 → leafM (tm, lv, src, txt) T (op, nn, wd, fr, to) = decide (fr ≤ tm ∧ tm ≤ to) := fun h => by unfold leafM; simp only; rw [if_neg (by omega), if_neg (by omega), if_pos h]
  have hq4 : ¬ op = 1 → ¬ op = 2 → ¬ op = 3 → leafM (tm, lv, src, txt) T (op, nn, wd, fr, to) = decide (fr ≤ lv.toNat ∧ lv.toNat ≤ to) := fun h1 h2 h3 => by unfold leafM; simp only; rw [if_neg h1, if_neg h2, if_neg h3]
  show Does Try.prog B w0 115 [.agg #[.int .i64 op, .int .i64 nn, .string ⟨wd.toArray⟩, .int .u64 (fr : Int), .int .u64 (to : Int)], .pointer (some ⟨g, 0, none⟩)] (.blk g 76 [.int .u64 (tm : Int), .int .u8 (lv.toNat : Int), .string ⟨src.toArray⟩, .string ⟨txt.toArray⟩, .slice AT T.length cT] :: F) (fun r L => r = .bool (leafM (tm, lv, src, txt) T (op, nn, wd, fr, to)) ∧ L = .blk g 76 [.int .u64 (tm : Int), .int .u8 (lv.toNat : Int), .string ⟨src.toArray⟩, .string ⟨txt.toArray⟩, .slice AT T.length cT] :: F)
  refine fn_walk Try.func115 45 rfl rfl rfl [(0, .agg #[.int .i64 op, .int .i64 nn, .string ⟨wd.toArray⟩, .int .u64 (fr : Int), .int .u64 (to : Int)]), (1, .pointer (some ⟨g, 0, none⟩))] ⟨⟨rfl, rfl⟩, ⟨rfl, rfl⟩, trivial⟩ ?_
  refine vc_seq ?_
  refine vc_region ?_
  refine vl_eff (eff_box rfl rfl) rfl ?_
  rintro _ _ ⟨g2, rfl, rfl⟩
  refine vl_det (det_assign rfl) rfl ?_
  refine vl_end [(1, _), (2, _)] ⟨rfl, rfl, trivial⟩ ?_
  refine then_next ?_
  refine vc_seq ?_
  refine vc_seq ?_
  refine vc_region ?_
  refine vl_det (det_fieldAddr_ Try.underlying88 rfl (by kernel_rfl) rfl rfl) rfl ?_
  refine vl_det (det_fieldAddr_ Try.underlying38 rfl (by kernel_rfl) rfl rfl) rfl ?_
  refine vl_det (det_load_blk (by kernel_rfl) rfl (by repeat (first | exact .hd | apply Sel.tl)) rfl) rfl ?_
  refine vl_end [(1, _), (2, _), (7, _)] ⟨rfl, rfl, rfl, trivial⟩ ?_
  refine then_next ?_
  refine vc_block ?_
  refine vc_seq ?_
  refine vc_region ?_
  refine vl_det (det_eql rfl rfl) rfl ?_
  refine vl_det (det_assign rfl) rfl ?_
  refine vl_end [(1, _), (2, _), (7, _), (8, _)] ⟨rfl, rfl, rfl, rfl, trivial⟩ ?_
  refine then_next ?_
  refine vc_decideU rfl (fun h8 => ?_) (fun h8 => ?_)
  · skip
    refine vc_seq ?_
    refine vq_region (by kernel_rfl) (by kernel_rfl) ?_
    refine vq_det (det_move rfl) rfl ?_
    refine vq_det (det_nilCheck rfl) rfl ?_
    refine vq_det (det_fieldAddr_ Try.underlying76 rfl (by kernel_rfl) rfl rfl) rfl ?_
    refine vq_det (det_load_blk (by kernel_rfl) rfl (by repeat (first | exact .hd | apply Sel.tl)) rfl) rfl ?_
    refine vq_det (det_fieldAddr_ Try.underlying88 rfl (by kernel_rfl) rfl rfl) rfl ?_
    refine vq_det (det_fieldAddr_ Try.underlying38 rfl (by kernel_rfl) rfl rfl) rfl ?_
    refine vq_det (det_load_blk (by kernel_rfl) rfl (by repeat (first | exact .hd | apply Sel.tl)) rfl) rfl ?_
    refine vq_call co117 rfl (cons_d wd (by first | (exact Bor.own (by repeat (first | exact List.Mem.head _ | apply List.Mem.tail))) | (repeat (first | assumption | apply Bor.cons))) hl) (by rintro _ _ ⟨rfl, rfl⟩; exact ⟨rfl, List.Sublist.refl _⟩) rfl ?_
    refine vq_det (det_assign rfl) rfl ?_
    refine vq_end [(4, _)] ⟨rfl, trivial⟩ ?_
    refine then_next ?_
    refine vc_ret ?_
    refine in_ret ?_
    refine then_ret ?_
    refine ret_wk (L' := .blk g 76 [.int .u64 (tm : Int), .int .u8 (lv.toNat : Int), .string ⟨src.toArray⟩, .string ⟨txt.toArray⟩, .slice AT T.length cT] :: F) (.skip (.refl _)) ?_
    refine ret1 rfl rfl ?_
    exact ⟨by rw [hq1 (by assumption)], rfl⟩
  · skip
    refine vc_seq ?_
    refine vc_region ?_
    refine vl_det (det_eql rfl rfl) rfl ?_
    refine vl_det (det_assign rfl) rfl ?_
    refine vl_end [(1, _), (2, _), (7, _), (18, _)] ⟨rfl, rfl, rfl, rfl, trivial⟩ ?_
    refine then_next ?_
    refine vc_decideU rfl (fun h18 => ?_) (fun h18 => ?_)
    · skip
      refine vc_seq ?_
      refine vc_region ?_
      refine vl_det (det_move rfl) rfl ?_
      refine vl_det (det_nilCheck rfl) rfl ?_
      refine vl_det (det_fieldAddr_ Try.underlying76 rfl (by kernel_rfl) rfl rfl) rfl ?_
      refine vl_det (det_load_blk (by kernel_rfl) rfl (by repeat (first | exact .hd | apply Sel.tl)) rfl) rfl ?_
      refine vl_det (det_makeFunc rfl rfl) rfl ?_
      refine vl_call co118 rfl (conf_d (by first | (exact Bor.own (by repeat (first | exact List.Mem.head _ | apply List.Mem.tail))) | (repeat (first | assumption | apply Bor.cons))) hl) rfl ?_
      rintro _ _ ⟨rfl, hLL⟩
      obtain rfl := hLL.symm
      refine vl_det (det_assign rfl) rfl ?_
      refine vl_end [(4, _)] ⟨rfl, trivial⟩ ?_
      refine then_next ?_
      refine vc_ret ?_
      refine in_ret ?_
      refine then_ret ?_
      refine ret_wk (L' := .blk g 76 [.int .u64 (tm : Int), .int .u8 (lv.toNat : Int), .string ⟨src.toArray⟩, .string ⟨txt.toArray⟩, .slice AT T.length cT] :: F) (.skip (.refl _)) ?_
      refine ret1 rfl rfl ?_
      exact ⟨by rw [hq2 (by assumption)], rfl⟩
    · skip
      refine vc_seq ?_
      refine vc_region ?_
      refine vl_det (det_eql rfl rfl) rfl ?_
      refine vl_det (det_assign rfl) rfl ?_
      refine vl_end [(1, _), (2, _), (26, _)] ⟨rfl, rfl, rfl, trivial⟩ ?_
      refine then_next ?_
      refine vc_decideU rfl (fun h26 => ?_) (fun h26 => ?_)
      · skip
        refine vc_seq ?_
        refine vq_region (by kernel_rfl) (by kernel_rfl) ?_
        refine vq_det (det_move rfl) rfl ?_
        refine vq_det (det_nilCheck rfl) rfl ?_
        refine vq_det (det_fieldAddr_ Try.underlying76 rfl (by kernel_rfl) rfl rfl) rfl ?_
        refine vq_det (det_fieldAddr_ Try.underlying45 rfl (by kernel_rfl) rfl rfl) rfl ?_
        refine vq_det (det_load_blk (by kernel_rfl) rfl (by repeat (first | exact .hd | apply Sel.tl)) rfl) rfl ?_
        refine vq_det (det_fieldAddr_ Try.underlying88 rfl (by kernel_rfl) rfl rfl) rfl ?_
        refine vq_det (det_load_whole 5 (by kernel_rfl) rfl (by repeat (first | exact .hd | apply Sel.tl)) (by first | rfl | (simp; omega) | (simp [*]; done))) rfl ?_
        refine vq_call co121 rfl (within_d tm) (by rintro _ _ ⟨rfl, rfl⟩; exact ⟨rfl, List.Sublist.refl _⟩) rfl ?_
        refine vq_det (det_assign rfl) rfl ?_
        refine vq_end [(4, _)] ⟨rfl, trivial⟩ ?_
        refine then_next ?_
        refine vc_ret ?_
        refine in_ret ?_
        refine then_ret ?_
        refine ret_wk (L' := .blk g 76 [.int .u64 (tm : Int), .int .u8 (lv.toNat : Int), .string ⟨src.toArray⟩, .string ⟨txt.toArray⟩, .slice AT T.length cT] :: F) (.skip (.refl _)) ?_
        refine ret1 rfl rfl ?_
        exact ⟨by rw [hq3 (by assumption)], rfl⟩
      · skip
        refine vc_skip ?_
        refine in_normal ?_
        refine then_next ?_
        refine vc_seq ?_
        refine vq_region (by kernel_rfl) (by kernel_rfl) ?_
        refine vq_det (det_move rfl) rfl ?_
        refine vq_det (det_nilCheck rfl) rfl ?_
        refine vq_det (det_fieldAddr_ Try.underlying76 rfl (by kernel_rfl) rfl rfl) rfl ?_
        refine vq_det (det_fieldAddr_ Try.underlying45 rfl (by kernel_rfl) rfl rfl) rfl ?_
        refine vq_det (det_load_blk (by kernel_rfl) rfl (by repeat (first | exact .hd | apply Sel.tl)) rfl) rfl ?_
        refine vq_det (det_conv Try.underlying5 Try.underlying36 rfl (w_u64 (by omega) (by omega))) rfl ?_
        refine vq_det (det_fieldAddr_ Try.underlying88 rfl (by kernel_rfl) rfl rfl) rfl ?_
        refine vq_det (det_load_whole 5 (by kernel_rfl) rfl (by repeat (first | exact .hd | apply Sel.tl)) (by first | rfl | (simp; omega) | (simp [*]; done))) rfl ?_
        refine vq_call co121 rfl (within_d lv.toNat) (by rintro _ _ ⟨rfl, rfl⟩; exact ⟨rfl, List.Sublist.refl _⟩) rfl ?_
        refine vq_det (det_assign rfl) rfl ?_
        refine vq_end [(4, _)] ⟨rfl, trivial⟩ ?_
        refine then_next ?_
        refine vc_ret ?_
        refine ret_wk (L' := .blk g 76 [.int .u64 (tm : Int), .int .u8 (lv.toNat : Int), .string ⟨src.toArray⟩, .string ⟨txt.toArray⟩, .slice AT T.length cT] :: F) (.skip (.refl _)) ?_
        refine ret1 rfl rfl ?_
        exact ⟨by rw [hq4 (by assumption) (by assumption) (by assumption)], rfl⟩
def MeQ (B : Nat) (w0 : World) (x : RecC) (T : List Txt) (g : Nat) (AT : Option Addr) (cT : Nat) (t : Qt) : Prop := ∀ (R : List Ch) (u : Value), NV B w0 R t [u] → Bor B w0 R 1 (.slice AT T.length cT) T.length (strs T) →
  DoesM Try.prog B w0 u nmMeans [.pointer (some ⟨g, 0, none⟩)] (.blk g 76 (fcs x AT T.length cT) :: R) (fun r L' => r = .bool (meansT x T t) ∧ L' = .blk g 76 (fcs x AT T.length cT) :: R)
theorem means_not {k : Qt} {u : Value} (hk : NV B w0 F k [u]) (hb : Bor B w0 F 1 (.slice AT T.length cT) T.length (strs T)) (hn : k.isN) (ih : MeQ B w0 x T g AT cT k) :
    Does Try.prog B w0 104 [.agg #[u], .pointer (some ⟨g, 0, none⟩)] (.blk g 76 (fcs x AT T.length cT) :: F) (fun r L => r = .bool (!meansT x T k) ∧ L = .blk g 76 (fcs x AT T.length cT) :: F) := by
  obtain ⟨uy, uv, rfl⟩ := nv_iface hk hn
  refine fn_walk Try.func104 10 rfl rfl rfl [(0, .agg #[.iface uy uv]), (1, .pointer (some ⟨g, 0, none⟩))] ⟨⟨rfl, rfl⟩, ⟨rfl, rfl⟩, trivial⟩ ?_
  refine vc_seq ?_
  refine vc_region ?_
  refine vl_eff (eff_box rfl rfl) rfl ?_
  rintro _ _ ⟨g2, rfl, rfl⟩
  refine vl_det (det_assign rfl) rfl ?_
  refine vl_end [(1, _), (2, _)] ⟨rfl, rfl, trivial⟩ ?_
  refine then_next ?_
  refine vc_seq ?_
  refine vc_region ?_
  refine vl_det (det_fieldAddr_ Try.underlying64 rfl (by kernel_rfl) rfl rfl) rfl ?_
  refine vl_det (det_load_blk (by kernel_rfl) rfl (by repeat (first | exact .hd | apply Sel.tl)) rfl) rfl ?_
  refine vl_det (det_move rfl) rfl ?_
  refine vl_invoke (by kernel_rfl) rfl rfl ((ih _ _ hk.cons_ hb.cons).reperm swpR) rfl ?_
  rintro _ _ ⟨rfl, hLL⟩
  obtain rfl := hLL.symm
  refine vl_det (det_not rfl) rfl ?_
  refine vl_det (det_assign rfl) rfl ?_
  refine vl_end [(4, _)] ⟨rfl, trivial⟩ ?_
  refine then_next ?_
  refine vc_ret ?_
  refine ret_wk (L' := .blk g 76 (fcs x AT T.length cT) :: F) (.skip (.refl _)) ?_
  refine ret1 rfl rfl ?_
  exact ⟨rfl, rfl⟩
theorem means_group {op : Int} {l : List Qt} {vs : List Value} (h67 : op = 6 ∨ op = 7) (hv : Bor B w0 F 1 (.slice A l.length c) l.length vs) (hl : NVs B w0 F l vs) (hb : Bor B w0 F 1 (.slice AT T.length cT) T.length (strs T)) (hn : l.length ≤ 1000000) (ih : ∀ t ∈ l, MeQ B w0 x T g AT cT t) :
    Does Try.prog B w0 107 [.agg #[.int .i64 op, .slice A l.length c], .pointer (some ⟨g, 0, none⟩)] (.blk g 76 (fcs x AT T.length cT) :: F) (fun r L => r = .bool (meansT x T (.group op (ofL l))) ∧ L = .blk g 76 (fcs x AT T.length cT) :: F) := by
  rw [means_grp]
  refine fn_walk Try.func107 27 rfl rfl rfl [(0, .agg #[.int .i64 op, .slice A l.length c]), (1, .pointer (some ⟨g, 0, none⟩))] ⟨⟨rfl, rfl⟩, ⟨rfl, rfl⟩, trivial⟩ ?_
  refine vc_seq ?_
  refine vc_region ?_
  refine vl_eff (eff_box rfl rfl) rfl ?_
  rintro _ _ ⟨g2, rfl, rfl⟩
  refine vl_det (det_assign rfl) rfl ?_
  refine vl_end [(1, _), (2, _)] ⟨rfl, rfl, trivial⟩ ?_
  refine then_next ?_
  refine vc_seq ?_
  refine vc_region ?_
  refine vl_det (det_fieldAddr_ Try.underlying67 rfl (by kernel_rfl) rfl rfl) rfl ?_
  refine vl_det (det_load_blk (by kernel_rfl) rfl (by repeat (first | exact .hd | apply Sel.tl)) rfl) rfl ?_
  refine vl_det (det_eql rfl rfl) rfl ?_
  refine vl_det (det_assign rfl) rfl ?_
  refine vl_end [(1, _), (2, _), (5, _)] ⟨rfl, rfl, rfl, trivial⟩ ?_
  refine then_next ?_
  refine vc_seq ?_
  refine vc_seq ?_
  refine vc_region ?_
  refine vl_det (det_fieldAddr_ Try.underlying67 rfl (by kernel_rfl) rfl rfl) rfl ?_
  refine vl_det (det_load_blk (by kernel_rfl) rfl (by repeat (first | exact .hd | apply Sel.tl)) rfl) rfl ?_
  refine vl_det (det_len_sl Try.underlying65 rfl) rfl ?_
  refine vl_det (det_move rfl) rfl ?_
  refine vl_end [(1, _), (5, _), (12, _), (13, _), (14, _)] ⟨rfl, rfl, rfl, rfl, rfl, trivial⟩ ?_
  refine then_next ?_
  refine vc_block ?_
  refine vc_loopJ (fun zf zL zm => ∃ (i : Nat), (i ≤ l.length ∧ ∀ t ∈ l.take i, meansT x T t = decide (op = 6)) ∧ l.length - i = zm ∧ Sub zf [(1, .pointer (some ⟨g, 0, none⟩)), (5, .bool (decide (op = 6))), (12, .slice A l.length c), (13, .int .i64 l.length), (14, .int .i64 i)] ∧ Wk zL (.blk g 76 (fcs x AT T.length cT) :: F)) _ ⟨0, ⟨Nat.zero_le _, fun t h => absurd h (by simp)⟩, rfl, ⟨(by first | rfl | exact int_to (by omega) | exact sl_to (by omega)), (by first | rfl | exact int_to (by omega) | exact sl_to (by omega)), (by first | rfl | exact int_to (by omega) | exact sl_to (by omega)), (by first | rfl | exact int_to (by omega) | exact sl_to (by omega)), (by first | rfl | exact int_to (by omega) | exact sl_to (by omega)), trivial⟩, .skip (.refl _)⟩ ?_
  rintro _ _ _ ⟨i, ⟨hi, ha⟩, rfl, hs, hp⟩
  refine vc_weaken _ hs (vc_wk hp ?_)
  clear hs hp
  refine vc_seq ?_
  refine vc_region ?_
  refine vl_det (det_lss rfl rfl) rfl ?_
  refine vl_end [(1, _), (5, _), (12, _), (13, _), (14, _), (15, _)] ⟨rfl, rfl, rfl, rfl, rfl, rfl, trivial⟩ ?_
  refine then_next ?_
  refine vc_seq ?_
  refine vc_decideU rfl (fun h15 => ?_) (fun h15 => ?_)
  · skip
    have hil : i < l.length := by omega
    obtain ⟨u, hu, hku⟩ := hl.get hil
    have hmem := getD_mem hil Qt.nil
    have hih := ih _ hmem
    have htk := take_getD hil Qt.nil
    obtain ⟨k, hk⟩ : ∃ k, k = l.getD i .nil := ⟨_, rfl⟩
    rw [← hk] at hku hih hmem htk
    have hu1 : vs[i * 1]? = some u := by rw [Nat.mul_one]; exact hu
    refine vc_skip ?_
    refine then_next ?_
    refine vc_seq ?_
    refine vc_block ?_
    refine vc_seq ?_
    refine vc_region ?_
    refine vl_det (det_indexAddr (size := 1) Try.underlying65 (by kernel_rfl) rfl rfl rfl (by omega) (by first | (exact Bor.own (by repeat (first | exact List.Mem.head _ | apply List.Mem.tail))) | (repeat (first | assumption | apply Bor.cons)))) rfl ?_
    refine vl_det (det_load_row (by kernel_rfl) rfl (by first | (exact Bor.own (by repeat (first | exact List.Mem.head _ | apply List.Mem.tail))) | (repeat (first | assumption | apply Bor.cons))) (by omega) hu1) rfl ?_
    refine vl_det (det_assign rfl) rfl ?_
    refine vl_end [(1, _), (5, _), (7, _), (12, _), (13, _), (14, _)] ⟨rfl, rfl, rfl, rfl, rfl, rfl, trivial⟩ ?_
    refine then_next ?_
    refine vc_seq ?_
    refine vc_region ?_
    refine vl_det (det_move rfl) rfl ?_
    refine vl_det (det_move rfl) rfl ?_
    refine vl_invoke (by kernel_rfl) rfl rfl (hih _ u hku hb) rfl ?_
    rintro _ _ ⟨rfl, hLL⟩
    obtain rfl := hLL.symm
    refine vl_det (det_move rfl) rfl ?_
    refine vl_det (det_bool_neq Try.underlying4 rfl rfl) rfl ?_
    refine vl_end [(1, _), (5, _), (12, _), (13, _), (14, _), (22, _)] ⟨rfl, rfl, rfl, rfl, rfl, rfl, trivial⟩ ?_
    refine then_next ?_
    refine vc_decideU rfl (fun h22 => ?_) (fun h22 => ?_)
    · skip
      refine vc_seq ?_
      refine vc_region ?_
      refine vl_det (det_move rfl) rfl ?_
      refine vl_det (det_notd rfl) rfl ?_
      refine vl_det (det_assign rfl) rfl ?_
      refine vl_end [(4, _)] ⟨rfl, trivial⟩ ?_
      refine then_next ?_
      refine vc_ret ?_
      refine in_ret ?_
      refine then_ret ?_
      refine loop_ret ?_
      refine in_ret ?_
      refine then_ret ?_
      refine ret1 rfl rfl ?_
      refine ⟨congrArg Value.bool ?_, rfl⟩
      by_cases h6 : op = 6
      · rw [if_pos h6, decide_eq_false (fun h => h h6)]
        rw [decide_eq_true h6] at h22
        exact (Bool.eq_false_iff.2 fun h => h22 (List.all_eq_true.1 h k hmem)).symm
      · rw [if_neg h6, decide_eq_true h6]
        rw [decide_eq_false h6, Bool.not_eq_false] at h22
        exact (List.any_eq_true.2 ⟨k, hmem, h22⟩).symm
    · skip
      refine vc_skip ?_
      refine in_normal ?_
      refine then_next ?_
      refine vc_region ?_
      refine vl_det (det_add rfl rfl (w_i64 (by omega) (by omega))) rfl ?_
      refine vl_det (det_move rfl) rfl ?_
      refine vl_end [(1, _), (5, _), (12, _), (13, _), (14, _)] ⟨rfl, rfl, rfl, rfl, rfl, trivial⟩ ?_
      refine in_loop_ ⟨_, by omega, i + 1, ⟨by omega, fun t ht => by
  rw [htk] at ht
  rcases List.mem_append.1 ht with h | h
  · exact ha t h
  · rw [List.mem_singleton.1 h]; exact Classical.not_not.1 h22⟩, rfl, ⟨(by first | rfl | exact int_to (by omega) | exact sl_to (by omega)), (by first | rfl | exact int_to (by omega) | exact sl_to (by omega)), (by first | rfl | exact int_to (by omega) | exact sl_to (by omega)), (by first | rfl | exact int_to (by omega) | exact sl_to (by omega)), (by first | rfl | exact int_to (by omega) | exact sl_to (by omega)), trivial⟩, .refl _⟩
  · skip
    refine vc_exit ?_
    refine then_exit ?_
    refine loop_exit ?_
    refine in_eq ?_
    refine then_next ?_
    refine vc_seq ?_
    refine vc_region ?_
    refine vl_det (det_move rfl) rfl ?_
    refine vl_det (det_assign rfl) rfl ?_
    refine vl_end [(4, _)] ⟨rfl, trivial⟩ ?_
    refine then_next ?_
    refine vc_ret ?_
    refine ret1 rfl rfl ?_
    rw [List.take_of_length_le (by omega)] at ha
    refine ⟨congrArg Value.bool ?_, rfl⟩
    by_cases h6 : op = 6
    · rw [if_pos h6, decide_eq_true h6]
      rw [decide_eq_true h6] at ha
      exact (List.all_eq_true.2 fun t ht => ha t ht).symm
    · rw [if_neg h6, decide_eq_false h6]
      rw [decide_eq_false h6] at ha
      exact (Bool.eq_false_iff.2 fun h => by
        obtain ⟨t, ht, h⟩ := List.any_eq_true.1 h
        rw [ha t ht] at h; cases h).symm
theorem means_m (hlT : T.length ≤ 1000000000) {t : Qt} (h1 : t.isN) (h2 : t.wf) (hl : t.st.length ≤ 1000000) : MeQ B w0 x T g AT cT t := by
  refine (Qt.ind (P := fun t => t.st.length ≤ 1000000 → MeQ B w0 x T g AT cT t) (fun s h1 h2 => ?_) (fun k h1 h2 ih => ?_) (fun op l h1 h2 h3 ih => ?_) t h2).1 h1 hl
  · intro hl R u hu hb
    obtain rfl : u = _ := by simpa using (show [u] = _ from hu)
    exact ⟨_, _, _, _, rfl, fun w => by kernel_rfl, co115, means_leaf hb hlT s⟩
  · intro hl R u hu hb
    obtain ⟨x, hx, hk⟩ := hu
    obtain rfl : u = _ := by simpa using hx
    have hl' : k.st.length ≤ 1000000 := by simp [Qt.st] at hl; omega
    exact ⟨_, _, _, _, rfl, fun w => by kernel_rfl, co104, means_not hk hb h1 (ih hl')⟩
  · intro hl R u hu hb
    obtain ⟨A, c, vs, rfl, hv, hvs⟩ := nv_group hu
    have hS : (Qt.group op (ofL l)).st = l.flatMap Qt.st ++ [(op, (l.length : Int), [], 0, 0)] := by show (ofL l).st ++ _ = _; rw [ofL_st, ofL_len]
    have hl' : (l.flatMap Qt.st).length + 1 ≤ 1000000 := by rw [hS] at hl; simpa using hl
    have hn := flat_len h3
    exact ⟨_, _, _, _, rfl, fun w => by kernel_rfl, co107, means_group h1 hv hvs hb (by omega) fun t ht => ih t ht (by have : t.st.length ≤ _ := mem_flat_len ht; omega)⟩
end Go.Proofs.Ytakokckokchacaa

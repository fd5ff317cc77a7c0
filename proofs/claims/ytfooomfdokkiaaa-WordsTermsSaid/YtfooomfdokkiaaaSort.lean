/-
  slices.Sort and slices.Compact of texts, by frames, over the shelf's contracts. Condition: fewer than 2^62 texts.
-/
import Derived.Test.YtfooomfdokkiaaaTypes
import Derived.Test.YtfooomfdokkiaaaProg
import Derived.Shelf.SortM.Plain
import Derived.Shelf.SortM.SortNone
import Derived.Shelf.SlicesG.CompactS
import Derived.Ground.SlgmProg
import Derived.Ground.SlgnProg
import Derived.Sort.OwnSorted
import Derived.Lib.OwnBridge
namespace Go.Proofs
open Go.RowKit Go.Maps Go.Sort Go.Shelf
def Try.sortS_ren : Go.Shelf.Ren := ⟨fun | 6 => 27 | 8 => 32 | 9 => 31 | 19 => 42 | 20 => 43 | 21 => 33 | 22 => 34 | 23 => 35 | 24 => 36 | 25 => 37 | 26 => 38 | 27 => 39 | 28 => 40 | 29 => 41 | 36 => 44 | 31 => 45 | 32 => 46 | 37 => 47 | 38 => 48 | 39 => 49 | 41 => 50 | n => n, fun | 27 => 24 | 29 => 9 | 3 => 3 | 32 => 52 | 26 => 24 | 0 => 0 | 44 => 63 | 46 => 36 | 4 => 4 | 36 => 55 | 35 => 54 | 41 => 60 | 5 => 5 | 9 => 9 | 53 => 65 | 57 => 69 | 63 => 71 | 64 => 72 | n => n, fun | n => n⟩
theorem Try.sortS : Go.Proofs.SlLaysM.n6 Try.prog Try.sortS_ren := {
  mixed := by kernel_rfl
  f6 := ⟨Try.f27.name, by decide, Try.func27.trans (congrArg some (by kernel_rfl))⟩
  f8 := Try.func32.trans (congrArg some (by kernel_rfl))
  f9 := ⟨Try.f31.name, by decide, Try.func31.trans (congrArg some (by kernel_rfl))⟩
  f19 := Try.func42.trans (congrArg some (by kernel_rfl))
  f20 := Try.func43.trans (congrArg some (by kernel_rfl))
  f21 := ⟨Try.f33.name, by decide, Try.func33.trans (congrArg some (by kernel_rfl))⟩
  f22 := ⟨Try.f34.name, by decide, Try.func34.trans (congrArg some (by kernel_rfl))⟩
  f23 := ⟨Try.f35.name, by decide, Try.func35.trans (congrArg some (by kernel_rfl))⟩
  f24 := ⟨Try.f36.name, by decide, Try.func36.trans (congrArg some (by kernel_rfl))⟩
  f25 := ⟨Try.f37.name, by decide, Try.func37.trans (congrArg some (by kernel_rfl))⟩
  f26 := ⟨Try.f38.name, by decide, Try.func38.trans (congrArg some (by kernel_rfl))⟩
  f27 := ⟨Try.f39.name, by decide, Try.func39.trans (congrArg some (by kernel_rfl))⟩
  f28 := ⟨Try.f40.name, by decide, Try.func40.trans (congrArg some (by kernel_rfl))⟩
  f29 := ⟨Try.f41.name, by decide, Try.func41.trans (congrArg some (by kernel_rfl))⟩
  f31 := Try.func45.trans (congrArg some (by kernel_rfl))
  f32 := Try.func46.trans (congrArg some (by kernel_rfl))
  f36 := ⟨Try.f44.name, by decide, Try.func44.trans (congrArg some (by kernel_rfl))⟩
  f37 := ⟨Try.f47.name, by decide, Try.func47.trans (congrArg some (by kernel_rfl))⟩
  f38 := ⟨Try.f48.name, by decide, Try.func48.trans (congrArg some (by kernel_rfl))⟩
  f39 := ⟨Try.f49.name, by decide, Try.func49.trans (congrArg some (by kernel_rfl))⟩
  f41 := ⟨Try.f50.name, by decide, Try.func50.trans (congrArg some (by kernel_rfl))⟩
  t0 := Try.underlying0
  a0 := Try.isAgg0
  z0 := Try.sizeOf0
  v0 := Try.zeroValue0
  t3 := Try.underlying3
  a3 := Try.isAgg3
  z3 := Try.sizeOf3
  v3 := Try.zeroValue3
  t4 := Try.underlying4
  a4 := Try.isAgg4
  z4 := Try.sizeOf4
  v4 := Try.zeroValue4
  t5 := Try.underlying5
  a5 := Try.isAgg5
  z5 := Try.sizeOf5
  v5 := Try.zeroValue5
  t9 := Try.underlying9
  a9 := Try.isAgg9
  z9 := Try.sizeOf9
  v9 := Try.zeroValue9
  t26 := Try.underlying24
  a26 := Try.isAgg24
  z26 := Try.sizeOf24
  v26 := Try.zeroValue24
  t27 := Try.underlying24
  a27 := Try.isAgg24
  z27 := Try.sizeOf24
  v27 := Try.zeroValue24
  t29 := Try.underlying9
  a29 := Try.isAgg9
  z29 := Try.sizeOf9
  v29 := Try.zeroValue9
  t32 := Try.underlying52
  a32 := Try.isAgg52
  z32 := Try.sizeOf52
  v32 := Try.zeroValue52
  t35 := Try.underlying54
  a35 := Try.isAgg54
  z35 := Try.sizeOf54
  v35 := Try.zeroValue54
  t36 := Try.underlying55
  a36 := Try.isAgg55
  z36 := Try.sizeOf55
  v36 := Try.zeroValue55
  t41 := Try.underlying60
  a41 := Try.isAgg60
  z41 := Try.sizeOf60
  v41 := Try.zeroValue60
  t44 := Try.underlying63
  a44 := Try.isAgg63
  z44 := Try.sizeOf63
  v44 := Try.zeroValue63
  t46 := Try.underlying36
  a46 := Try.isAgg36
  z46 := Try.sizeOf36
  v46 := Try.zeroValue36
  t53 := Try.underlying65
  a53 := Try.isAgg65
  z53 := Try.sizeOf65
  v53 := Try.zeroValue65
  t57 := Try.underlying69
  a57 := Try.isAgg69
  z57 := Try.sizeOf69
  v57 := Try.zeroValue69
  t63 := Try.underlying71
  a63 := Try.isAgg71
  z63 := Try.sizeOf71
  v63 := Try.zeroValue71
  t64 := Try.underlying72
  a64 := Try.isAgg72
  z64 := Try.sizeOf72
  v64 := Try.zeroValue72 }
def Try.compS_ren : Go.Shelf.Ren := ⟨fun | 44 => 28 | n => n, fun | 25 => 24 | 26 => 9 | 3 => 3 | 4 => 4 | 0 => 0 | n => n, fun | n => n⟩
theorem Try.compS : Go.Proofs.SlLaysN.n44 Try.prog Try.compS_ren := {
  mixed := by kernel_rfl
  f44 := ⟨Try.f28.name, by decide, Try.func28.trans (congrArg some (by kernel_rfl))⟩
  t0 := Try.underlying0
  a0 := Try.isAgg0
  z0 := Try.sizeOf0
  v0 := Try.zeroValue0
  t3 := Try.underlying3
  a3 := Try.isAgg3
  z3 := Try.sizeOf3
  v3 := Try.zeroValue3
  t4 := Try.underlying4
  a4 := Try.isAgg4
  z4 := Try.sizeOf4
  v4 := Try.zeroValue4
  t25 := Try.underlying24
  a25 := Try.isAgg24
  z25 := Try.sizeOf24
  v25 := Try.zeroValue24
  t26 := Try.underlying9
  a26 := Try.isAgg9
  z26 := Try.sizeOf9
  v26 := Try.zeroValue9
  i26 := by kernel_rfl }
namespace Ytfooomfdokkiaaa
set_option linter.unusedVariables false
variable {B : Nat} {w0 : World} {F : List Ch} {A : Option Addr} {c : Nat}
def leS (x y : List UInt8) : Bool := decide (x ≤ y)
theorem sort_d {l : List (List UInt8)} (hl : l.length < 4611686018427387904) :
    Does Try.prog B w0 27 [.slice A l.length c] (.own 9 1 A l.length c (strs l) :: F) (fun r L => r = .tuple #[] ∧ L = .own 9 1 A l.length c (strs (l.mergeSort leS)) :: F) := by
  intro w hw
  obtain ⟨k1, k2, k3⟩ := hw.head
  by_cases h0 : l.length = 0
  · have hl0 : l = [] := List.eq_nil_of_length_eq_zero h0
    subst hl0
    refine (AnyM.slices_Sort_string_none Try.sortS A c w).mono fun e w' ⟨he, hw'⟩ => ?_
    subst hw'
    exact ⟨_, _, he, ⟨rfl, by simp⟩, hw⟩
  · have hc0 : ¬ c = 0 := by omega
    obtain ⟨g, cur, rfl, hbg, hg, hm, hs, ht⟩ := k3.resolve_left hc0
    rw [Nat.mul_one] at ht
    refine (AnyM.slices_Sort_string Try.sortS g 0 c l w (holds_of_block hg ht) ((Array.getElem?_eq_some_iff.1 hg).1) hl).mono fun e w' ⟨he, n, os, hw'⟩ => ?_
    have hlen : (l.mergeSort fun x y => decide (x ≤ y)).length = l.length := List.length_mergeSort _
    have hfp : (Ch.own 9 1 (some ⟨g, 0, none⟩) l.length c (strs l)).fp = some g := by simp [Ch.fp, hc0]
    have hg2 := grownBy_sorted (w := w) (g := g) (n := n) (os := os) (l.mergeSort fun x y => decide (x ≤ y)).toArray
    rw [← hw'] at hg2
    refine ⟨_, _, he, ⟨rfl, rfl⟩, hw.turn (by rw [hfp]; exact hg2) ⟨?_, k2, .inr ⟨g, _, rfl, hbg, by rw [hw']; exact heap_sorted _ hg, hm, by simpa [putCells] using hs, ?_⟩⟩ (.inr (.inl (by simp [Ch.fp])))⟩
    · simp
    · rw [Nat.mul_one, ← hlen]
      exact take_putCells cur _ (by rw [hlen]; omega)
theorem compact_le (zs : List (List UInt8)) : (Lib.compact zs).length ≤ zs.length := by
  unfold Lib.compact Lib.compactUpTo
  rw [List.length_map]
  exact Nat.le_trans (List.length_filter_le _ _) (by simp)
theorem compact_d {l : List (List UInt8)} (hl : l.length < 4611686018427387904) :
    Does Try.prog B w0 28 [.slice A l.length c] (.own 9 1 A l.length c (strs l) :: F) (fun r L => r = .slice A (Lib.compact l).length c ∧ L = .own 9 1 A (Lib.compact l).length c (strs (Lib.compact l)) :: F) := by
  intro w hw
  obtain ⟨k1, k2, k3⟩ := hw.head
  have hle := compact_le l
  by_cases h0 : l.length = 0
  · have hl0 : l = [] := List.eq_nil_of_length_eq_zero h0
    subst hl0
    refine (AnyG.slices_Compact_string_empty Try.compS A c w).mono fun e w' ⟨he, hw'⟩ => ?_
    subst hw'
    exact ⟨_, _, he, ⟨rfl, by simp [Lib.compact, Lib.compactUpTo, strs]⟩, hw⟩
  · have hc0 : ¬ c = 0 := by omega
    obtain ⟨g, cur, rfl, hbg, hg, hm, hs, ht⟩ := k3.resolve_left hc0
    rw [Nat.mul_one] at ht
    refine (AnyG.slices_Compact_string Try.compS g 0 c l w (holds_of_block hg ht) (by omega) k2).mono fun e w' ⟨he, q, hw'⟩ => ?_
    obtain ⟨ys, hys⟩ : ∃ ys, ys = Lib.compact l ++ List.replicate (l.length - (Lib.compact l).length) [] := ⟨_, rfl⟩
    have hyl : ys.length = l.length := by rw [hys]; simp; omega
    rw [← hys] at hw'
    have hfp : (Ch.own 9 1 (some ⟨g, 0, none⟩) l.length c (strs l)).fp = some g := by simp [Ch.fp, hc0]
    have hg2 := grownBy_sorted (w := w) (g := g) (n := q) (os := #[]) ys.toArray
    have hh := heap_sorted (n := q) (os := #[]) ys.toArray hg
    rw [grow_empty, ← hw'] at hg2 hh
    refine ⟨_, _, he, ⟨rfl, rfl⟩, hw.turn (by rw [hfp]; exact hg2) ⟨by simp, by omega, .inr ⟨g, _, rfl, hbg, hh, hm, by simpa [putCells] using hs, ?_⟩⟩ (.inr (.inl (by simp [Ch.fp])))⟩
    have ht2 := take_putCells cur ys (by rw [hyl]; omega)
    have := congrArg (List.take (Lib.compact l).length) ht2
    rw [List.take_take, hyl, Nat.min_eq_left hle] at this
    rw [Nat.mul_one, this, ← List.map_take, hys, List.take_left]
    rfl
end Ytfooomfdokkiaaa
end Go.Proofs

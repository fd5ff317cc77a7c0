/-
  maps.Keys and slices.Sorted of a map with text keys, by frames, over the shelf's contracts. Conditions: at most 10^6 keys, to 10^9 bytes.
-/
import Derived.Test.YtpamjobiohbibaaGrp
import Derived.Test.YtpamjobiohbibaaTermP
import Derived.Shelf.SlIter.Nil
import Derived.Ground.GgzProg
namespace Go.Proofs
open Go.RowKit Go.Maps Go.Sort Go.Shelf
def Try.keysA_ren : Go.Shelf.Ren := ⟨fun | 7 => 30 | 10 => 55 | n => n, fun | 23 => 58 | 26 => 9 | 3 => 37 | 28 => 61 | 0 => 0 | 27 => 60 | 33 => 88 | 4 => 4 | n => n, fun | n => n⟩
theorem Try.keysA : Go.Proofs.SlLaysZ.n7 Try.prog Try.keysA_ren := {
  mixed := by kernel_rfl
  f7 := ⟨Try.f30.name, by decide, Try.func30.trans (congrArg some (by kernel_rfl))⟩
  f10 := ⟨Try.f55.name, by decide, Try.func55.trans (congrArg some (by kernel_rfl))⟩
  t0 := Try.underlying0
  a0 := Try.isAgg0
  z0 := Try.sizeOf0
  v0 := Try.zeroValue0
  t4 := Try.underlying4
  a4 := Try.isAgg4
  z4 := Try.sizeOf4
  v4 := Try.zeroValue4
  t23 := Try.underlying58
  a23 := Try.isAgg58
  z23 := Try.sizeOf58
  v23 := Try.zeroValue58
  t26 := Try.underlying9
  a26 := Try.isAgg9
  z26 := Try.sizeOf9
  v26 := Try.zeroValue9
  t27 := Try.underlying60
  a27 := Try.isAgg60
  z27 := Try.sizeOf60
  v27 := Try.zeroValue60
  t28 := Try.underlying61
  a28 := Try.isAgg61
  z28 := Try.sizeOf61
  v28 := Try.zeroValue61
  t33 := Try.underlying88
  a33 := Try.isAgg88
  z33 := Try.sizeOf88
  v33 := Try.zeroValue88 }
def Try.sortedA_ren : Go.Shelf.Ren := ⟨fun | 6 => 29 | 8 => 54 | 9 => 36 | 11 => 97 | 13 => 60 | 12 => 59 | 23 => 108 | 24 => 109 | 14 => 99 | 15 => 100 | 16 => 101 | 17 => 102 | 18 => 103 | 19 => 104 | 20 => 105 | 21 => 106 | 22 => 107 | 25 => 128 | 26 => 129 | 27 => 130 | 28 => 131 | 29 => 132 | 30 => 133 | 31 => 145 | n => n, fun | 26 => 9 | 28 => 61 | 24 => 26 | 0 => 0 | 3 => 3 | 37 => 94 | 48 => 157 | 50 => 33 | 4 => 4 | 40 => 149 | 39 => 148 | 45 => 154 | 5 => 5 | 9 => 9 | 51 => 180 | 55 => 183 | 57 => 194 | 58 => 114 | 33 => 88 | n => n, fun | n => n⟩
theorem Try.sortedA : Go.Proofs.SlLaysZ.n6 Try.prog Try.sortedA_ren := {
  mixed := by kernel_rfl
  f6 := ⟨Try.f29.name, by decide, Try.func29.trans (congrArg some (by kernel_rfl))⟩
  f8 := ⟨Try.f54.name, by decide, Try.func54.trans (congrArg some (by kernel_rfl))⟩
  f11 := ⟨Try.f97.name, by decide, Try.func97.trans (congrArg some (by kernel_rfl))⟩
  t0 := Try.underlying0
  a0 := Try.isAgg0
  z0 := Try.sizeOf0
  v0 := Try.zeroValue0
  t24 := Try.underlying26
  a24 := Try.isAgg26
  z24 := Try.sizeOf26
  v24 := Try.zeroValue26
  t26 := Try.underlying9
  a26 := Try.isAgg9
  z26 := Try.sizeOf9
  v26 := Try.zeroValue9
  t28 := Try.underlying61
  a28 := Try.isAgg61
  z28 := Try.sizeOf61
  v28 := Try.zeroValue61
  i26 := by kernel_rfl }
theorem Try.sortsA (m : Nat) : AnyZ.SortsIn Try.prog Try.sortedA_ren Fence.wide m :=
  ⟨fun blk off cap ss W hH hblk hsz => callsIn_wide.2 (AnyM.slices_Sort_string Try.sortS blk off cap ss W hH hblk hsz),
   fun p cap W => callsIn_wide.2 (AnyM.slices_Sort_string_none Try.sortS p cap W)⟩
namespace Ytpamjobiohbibaa
set_option linter.unusedVariables false
set_option maxRecDepth 20000
variable {B : Nat} {w0 : World} {F L : List Ch} {A : Option Addr} {c : Nat}
theorem keys_d (b : Nat) : Does Try.prog B w0 30 [.map (some b)] L (fun r L' => ∃ g, r = .func (.func 55) #[] [.pointer (some ⟨g, 0, none⟩)].toArray ∧ L' = .blk g 58 [.map (some b)] :: L) := fun w hw => by
  have h : CallsIn Fence.wide 5 Try.prog 30 #[.map (some b)] w fun e w' => e = .returned (.func (.func 55) #[] #[.pointer (some ⟨w.heap.size, 0, none⟩)]) ∧ w' = w.alloc (.cells #[.map (some b)] 58) := AnyZ.keys_in Try.keysA Fence.wide 5 trivial rfl (some b) w
  refine (callsIn_wide.1 h).mono fun e w' ⟨he, hw'⟩ => ?_
  subst hw'
  exact ⟨_, _, he, ⟨w.heap.size, rfl, rfl⟩, hw.new_blk 58 [.map (some b)]⟩
theorem stamped_ents (D : List (List UInt8 × Value)) (hn : (D.map (·.1)).Nodup) : MapKept.Stamped (entsF 0 D).toArray D.length := by
  have hb : ∀ (D : List (List UInt8 × Value)) (i : Nat), (entsF i D).map (·.born) = List.range' i D.length := by
    intro D
    induction D with
    | nil => intro i; rfl
    | cons p r ih => intro i; simp [entsF, ih, List.range'_succ]
  have hk : ∀ (D : List (List UInt8 × Value)) (i : Nat), (entsF i D).map (·.key) = (D.map (·.1)).map fun t => Value.string ⟨t.toArray⟩ := by
    intro D
    induction D with
    | nil => intro i; rfl
    | cons p r ih => intro i; simp [entsF, ih]
  refine ⟨fun x hx => ?_, ?_, ?_⟩
  · have : x.born ∈ (entsF 0 D).map (·.born) := List.mem_map.2 ⟨x, by simpa using hx, rfl⟩
    rw [hb] at this
    have := List.mem_range'.1 this
    omega
  · rw [List.toList_toArray, hb]; exact List.nodup_range' (step := 1)
  · rw [List.toList_toArray, hk]
    exact List.Pairwise.map _ (fun a b h e => h (by simpa using e)) hn
theorem ents_key : ∀ (D : List (List UInt8 × Value)) (i : Nat) (x : MapEntry), x ∈ entsF i D → ∃ p ∈ D, x.key = .string ⟨p.1.toArray⟩
  | [], _, _, h => by simp [entsF] at h
  | p :: r, i, x, h => by
    rcases List.mem_cons.1 h with rfl | h
    · exact ⟨p, List.mem_cons_self, rfl⟩
    · obtain ⟨q, hq, e⟩ := ents_key r (i + 1) x h
      exact ⟨q, List.mem_cons_of_mem _ hq, e⟩
theorem sorted_nd {ss : List (List UInt8)} (h : ss.Nodup) : StT (ss.mergeSort leS) := by
  have h1 := sort_pw ss
  have h2 : (ss.mergeSort leS).Nodup := (List.mergeSort_perm ss leS).nodup_iff.2 h
  refine (h1.and h2).imp fun {x y} h => ?_
  rcases ltT_total x y with q | q | q
  · exact q
  · exact absurd q h.2
  · exact absurd q h.1
theorem sorted_d {D : List (List UInt8 × Value)} {g b : Nat} (hn : (D.map (·.1)).Nodup) (hl : D.length ≤ 1000000) (hk : ∀ p ∈ D, p.1.length ≤ 1000000000) :
    Does Try.prog B w0 29 [.func (.func 55) #[] [.pointer (some ⟨g, 0, none⟩)].toArray] (.blk g 58 [.map (some b)] :: .obj b (mpO D) :: F)
      (fun r L' => ∃ A c, r = .slice A (setT (D.map (·.1))).length c ∧ L' = .own 9 1 A (setT (D.map (·.1))).length c (strs (setT (D.map (·.1)))) :: .blk g 58 [.map (some b)] :: .obj b (mpO D) :: F) := by
  intro w hw
  have hg := hw.head.2
  have hb : w.heap[b]? = some (.map (entsF 0 D).toArray D.length) := hw.tail.head.2
  have hkey : ∀ p ∈ D, keyOf Try.prog 9 (.string ⟨p.1.toArray⟩) = some (.string p.1) := fun p hp => by
    unfold keyOf mapKey
    rw [Try.underlying9]
    simp only
    rw [if_pos (show (⟨p.1.toArray⟩ : ByteArray).size ≤ maxLen by have := hk p hp; simp only [maxLen, ByteArray.size, List.size_toArray]; omega)]
  have hrd : ∀ x ∈ entsF 0 D, ∃ p ∈ D, WideElems.rd (H := Unit) Try.prog 9 (fun _ => some (.nil, [])) x = some (.string p.1, .nil) := fun x hx => by
    obtain ⟨p, hp, e⟩ := ents_key D 0 x hx
    refine ⟨p, hp, ?_⟩
    unfold WideElems.rd
    rw [e, hkey p hp]; rfl
  have Ft : WideElems.Fit (H := Unit) Try.prog 9 (fun _ => some (.nil, [])) (entsF 0 D).toArray D.length :=
    ⟨by have := entsF_length D 0; simp only [List.size_toArray, maxLen]; omega, stamped_ents D hn, fun x hx => by
      obtain ⟨p, _, e⟩ := hrd x (by simpa using hx)
      exact ⟨_, e⟩⟩
  have hown : w.ownsMap Try.prog 9 (fun _ => some (DataW.nil (H := Unit), [])) b D.length (.map (((entsF 0 D).toArray.toList.map (WideElems.rg Try.prog 9 fun _ => some (.nil, []))).foldr DataW.insert [])) :=
    ⟨_, _, hb, Ft, by have := entsF_length D 0; simp only [List.size_toArray]; omega, rfl⟩
  have hkeys : ∀ (E : List (List UInt8 × Value)) (i : Nat), (∀ p ∈ E, p ∈ D) → (((entsF i E).map (WideElems.rg (H := Unit) Try.prog 9 fun _ => some (.nil, []))).map fun p => strOf p.1) = E.map (·.1) := by
    intro E
    induction E with
    | nil => intro i _; rfl
    | cons p r ih =>
      intro i hE
      simp only [entsF, List.map_cons]
      rw [ih (i + 1) (fun q hq => hE q (List.mem_cons_of_mem _ hq))]
      congr 1
      unfold WideElems.rg WideElems.rd
      rw [hkey p (hE p List.mem_cons_self)]
      rfl
  have hperm : (strKeys (.map (((entsF 0 D).toArray.toList.map (WideElems.rg (H := Unit) Try.prog 9 fun _ => some (.nil, []))).foldr DataW.insert []))).Perm (D.map (·.1)) := by
    show (List.map _ _).Perm _
    refine ((WideShapes.sorted_perm _).map _).trans ?_
    rw [List.toList_toArray, hkeys D 0 (fun p hp => hp)]
  have hsize : Maps.size (DataW.map (((entsF 0 D).toArray.toList.map (WideElems.rg (H := Unit) Try.prog 9 fun _ => some (.nil, []))).foldr DataW.insert [])) = D.length := by
    unfold Maps.size
    simp only []
    rw [length_sorted]
    simp [entsF_length]
  have hseq : SeqGives Fence.wide 2 Try.prog 55 #[.pointer (some ⟨g, 0, none⟩)] encStr _ _ w :=
    AnyZ.keys_gives (ρ := Try.keysA_ren) { Try.keysA with } Fence.wide _ trivial rfl (by omega) g b D.length _ w hg.lt (by
      have := hg.cell 0
      simpa using this) hown
  have cS := AnyZ.sorted_in Try.sortedA Fence.wide 5 trivial trivial trivial trivial rfl (by omega) (Try.sortsA _) (enters_of Try.func36 (by kernel_rfl) rfl) 55 #[.pointer (some ⟨g, 0, none⟩)] trivial (enters_of Try.func55 (by kernel_rfl) rfl) _ _ (by rw [hsize]; unfold maxLen; omega) (by rw [hsize]; omega) w hseq
  change CallsIn _ _ Try.prog 29 _ _ _ at cS
  refine (callsIn_wide.1 cS).mono fun e w' ⟨v, ss, he, hS, ho, _, hbl⟩ => ?_
  have hp2 := hS.trans hperm
  have hT : ss.mergeSort (fun x y => decide (x ≤ y)) = setT (D.map (·.1)) :=
    (setT_uniq (sorted_nd (hp2.nodup_iff.2 hn)) fun x => by rw [List.mem_mergeSort]; exact hp2.mem_iff).symm
  rw [hT] at ho
  have hsl : ss.length = (setT (D.map (·.1))).length := by rw [← hT, List.length_mergeSort]
  rw [hsl] at ho
  have hgr : w.grownBy w' none := ⟨hbl.os, hbl.tape, hbl.output, hbl.size, fun k hk _ => hbl.block k hk⟩
  rcases ho.2 with ⟨rfl, h0⟩ | ⟨q, cap, cur, rfl, h1, h2, h3, h4, h5, h6⟩
  · have e0 : setT (D.map (·.1)) = [] := List.eq_nil_of_length_eq_zero (by omega)
    refine ⟨_, _, he, ⟨none, 0, by rw [e0]; rfl, rfl⟩, hw.cons_new hgr ⟨by rw [e0]; rfl, by rw [e0]; exact Nat.le_refl _, .inl rfl⟩ (.inl rfl)⟩
  · refine ⟨_, _, he, ⟨_, _, rfl, rfl⟩, hw.cons_new hgr ⟨ho.1, h3, .inr ⟨q, cur, rfl, Nat.le_trans hw.base h1, h2, h4, h5, h6⟩⟩ ?_⟩
    by_cases hc : cap = 0
    · left; simp [Ch.fp, hc]
    · right; exact ⟨q, by simp [Ch.fp, hc], h1⟩
end Ytpamjobiohbibaa
end Go.Proofs

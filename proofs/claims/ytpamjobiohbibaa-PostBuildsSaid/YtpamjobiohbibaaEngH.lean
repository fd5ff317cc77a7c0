/-
  A walk by frames and pieces of memory: copy into a row of ours; parts of structs compared. No condition.
-/
import Derived.Test.YtpamjobiohbibaaEngG
import Derived.Laws.CopyRow
import Derived.Laws.IdiomCopy
import Derived.Laws.StructEq
namespace Go.Proofs.Ytpamjobiohbibaa
open Go.RowKit
set_option linter.unusedVariables false
theorem run_part_sc {P : Program} {t : TypeId} {xs : Array Value} {off : Nat} {v : Value} (hs : isSc P t = true) (hx : xs[off]? = some v) (w : World) : (part t xs off).run P w = .ok v w := by
  simp [part, isSc_agg hs, hx]
section
variable {C : Cx} {fr : Fr} {L : List Ch} {x y : Operand} {f : Ch → List Ch} {t t2 e ty : TypeId}
/-- 'copy(s[i:], r)', s a row of ours; r may be a part of it -/
theorem eff_copy {bytes : Nat} {zv : Value} (T : SlT C.P t e 1 bytes zv) {A : Option Addr} {n c i : Nat} {xs : List Value} (hs : Sel (.own e 1 A n c xs) L f) (he : ev fr x = some (.slice (if c = i then A else A.map (·.add (i * 1))) (n - i) (c - i))) (hi : i ≤ n) {yv : Value} {m : Nat} {news : List Value} (hy : ev fr y = some yv) (hb : Bor C.B C.w0 L 1 yv m news) (h1 : ∀ u ∈ news, u.oneCell' = true) :
    Eff C fr L (.call { callee := .builtin .copy, args := #[x, y], argTypes := #[t, t2] }) ty (fun p L' => p = .int .i64 (min m (n - i) : Nat) ∧ L' = f (.own e 1 A n c (xs.take i ++ news.take (min m (n - i)) ++ xs.drop (i + min m (n - i))))) := fun a w ha hw d pos af gg => by
  obtain ⟨ii, hii, hz, hsz, hby⟩ := T.hi
  have hsz1 : (C.P.info? e).map (·.size) = some 1 := by rw [hii]; simp [hsz]
  obtain ⟨X, cx, rfl, hmc, hl, hrd⟩ := hb w hw
  have hmin : Nat.min m (n - i) = min m (n - i) := rfl
  obtain ⟨k1, k2, k3⟩ := hw.all _ hs.mem
  rw [Nat.mul_one] at k1 hl
  by_cases h0 : min m (n - i) = 0
  · have hr := run_copy_none (P := C.P) w t t2 ty e (if c = i then A else A.map (·.add (i * 1))) X (n - i) (c - i) m cx T.ht hsz1 h0
    refine ⟨_, w, _, .inl ?_, ⟨rfl, rfl⟩, ?_⟩
    · simp [execOp, resolve, invoke, builtin, ha.tmp he, ha.tmp hy]
      have := hr
      simp at this
      rw [this]
      simp [goInt, h0]
    · rw [h0, List.take_zero, List.append_nil, Nat.add_zero, List.take_append_drop]
      refine hw.sel hs (World.grownBy.refl w _) (fun h => h) (.inr (.inl rfl))
  · have hc0 : ¬ c = 0 := by omega
    have hci : ¬ c = i := by omega
    obtain ⟨g, cur, rfl, hbg, hg, hcm, hcs, htake⟩ := k3.resolve_left hc0
    clear k3
    rw [Nat.mul_one] at hcs htake
    obtain ⟨ad, rfl, _, hcell⟩ := hrd (by omega)
    clear hrd hmin
    obtain ⟨k, hk⟩ : ∃ k, k = min m (n - i) := ⟨_, rfl⟩
    have hkm : k ≤ m := by omega
    have hkn : i + k ≤ n := by omega
    have hkmin : k = Nat.min m (n - i) := hk
    rw [← hk] at h0 ⊢
    clear hk
    have hsrc : ∀ j v, (news.take k)[j]? = some v → w.cell? (ad.add j) = some v := fun j v hv => by
      rw [List.getElem?_take] at hv
      split at hv
      · exact hcell j v hv
      · cases hv
    have hlen : (news.take k).length = k := by rw [List.length_take, hl]; omega
    have hadd : (⟨g, 0, none⟩ : Addr).add (i * 1) = ⟨g, i, none⟩ := by rw [Addr.add_lit, Nat.zero_add, Nat.mul_one]
    have hfit : i + (news.take k).length ≤ cur.size := by rw [hlen, hcs]; omega
    have hr := run_copy_row (P := C.P) w t t2 ty e g i (n - i) (c - i) ad m cx cur e (news.take k) T.ht hsz1 hg (by rw [hlen]; exact hkmin) hsrc hfit (fun v hv => h1 v (List.mem_of_mem_take hv))
    clear hkmin
    have hcl : cur.toList.length = c := by simpa using hcs
    have e1 : (xs.take i ++ news.take k ++ xs.drop (i + k)).length = n * 1 := by
      simp only [List.length_append, List.length_take, List.length_drop, hl, k1]; omega
    have e2 : (cur.toList.take i ++ news.take k ++ cur.toList.drop (i + (news.take k).length)).length = c := by
      simp only [List.length_append, List.length_take, List.length_drop, hl, hcl]; omega
    have e3 : (cur.toList.take i ++ news.take k ++ cur.toList.drop (i + (news.take k).length)).take n = xs.take i ++ news.take k ++ xs.drop (i + k) := by
      have hx : xs = cur.toList.take n := htake.symm
      rw [hlen, List.take_append, List.take_of_length_le (by rw [List.length_append, List.length_take, hlen]; omega), hx, List.take_take, List.drop_take, Nat.min_eq_left (by omega)]
      congr 2
      rw [List.length_append, List.length_take, hlen, hcl, Nat.min_eq_left (by omega)]
    refine ⟨_, _, _, .inl ?_, ⟨rfl, rfl⟩, hw.sel hs (w' := w.setRow g (cur.toList.take i ++ news.take k ++ cur.toList.drop (i + (news.take k).length)).toArray) ?_ (fun _ => ⟨e1, k2, .inr ⟨g, _, rfl, hbg, setRow_heap w g cur _ e _ hg, hcm, by rw [List.size_toArray, e2, Nat.mul_one], by rw [Nat.mul_one]; exact e3⟩⟩) (.inr (.inl rfl))⟩
    · simp only [execOp, resolve, invoke, builtin, ha.tmp he, ha.tmp hy, if_neg hci, Option.map_some, hadd, Sem.run_bind, Sem.run_pure, Result.andThen_ok, List.map_toArray, List.map_cons, List.map_nil, hr]
      simp [goInt, hlen]
    · rw [show (Ch.own e 1 (some ⟨g, 0, none⟩) n c xs).fp = some g by simp [Ch.fp, hc0]]
      exact ⟨rfl, rfl, rfl, by simp, fun k _ hk => setRow_other w g k _ (fun e => hk (by rw [e]))⟩
/-- .. from the head on -/
theorem eff_copy0 {bytes : Nat} {zv : Value} (T : SlT C.P t e 1 bytes zv) {A : Option Addr} {n c : Nat} {xs : List Value} (hs : Sel (.own e 1 A n c xs) L f) (he : ev fr x = some (.slice A n c)) {yv : Value} {m : Nat} {news : List Value} (hy : ev fr y = some yv) (hb : Bor C.B C.w0 L 1 yv m news) (h1 : ∀ u ∈ news, u.oneCell' = true) :
    Eff C fr L (.call { callee := .builtin .copy, args := #[x, y], argTypes := #[t, t2] }) ty (fun p L' => p = .int .i64 (min m n : Nat) ∧ L' = f (.own e 1 A n c (news.take (min m n) ++ xs.drop (min m n)))) := by
  have h := eff_copy (ty := ty) (t2 := t2) T hs (i := 0) (n := n) (c := c) (by rw [he]; congr 2; rw [Nat.zero_mul]; split <;> simp [opt_add0]) (Nat.zero_le _) hy hb h1
  rw [List.take_zero, List.nil_append, Nat.zero_add, Nat.sub_zero] at h
  exact h
end
end Go.Proofs.Ytpamjobiohbibaa

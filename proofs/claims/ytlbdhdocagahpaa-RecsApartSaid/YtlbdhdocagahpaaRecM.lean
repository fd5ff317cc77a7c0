/-
  Columns that were written are read: plain laws. Conditions: numbers fit 64 bits.
-/
import Derived.Test.YtlbdhdocagahpaaRecL
namespace Go.Proofs.Ytlbdhdocagahpaa
set_option linter.unusedVariables false
theorem addU_dlt {a b : Nat} (ha : a < 18446744073709551616) (hb : b < 18446744073709551616) : addU b (dlt a b) = a := by
  unfold addU dlt; omega
theorem tm_back : ∀ (L : List RecC) (was : Nat) (s : Cs) (r : List UInt8), was < 18446744073709551616 → s.e = 0 → (∀ x ∈ L, x.1 < 18446744073709551616) → s.rest = colT was L ++ r → (tmG L.length was s).1 = L.map (·.1) ∧ Rds s (tmG L.length was s).2 (colT was L)
  | [], was, s, r, _, h0, _, _ => ⟨rfl, Rds.nil h0⟩
  | x :: L, was, s, r, hw, h0, hx, hr => by
    have hx1 := hx x (by simp)
    rw [colT, List.append_assoc] at hr
    obtain ⟨n1, d1⟩ := Cs.num_at' h0 (zig_lt (dlt_lt x.1 was)) hr
    have hz : addU was (zag s.num) = x.1 := by rw [n1, zag_zig (dlt_lt _ _), addU_dlt hx1 hw]
    obtain ⟨i1, i2⟩ := tm_back L x.1 s.num' r hx1 d1.e1 (fun y hy => hx y (by simp [hy])) (d1.rest_eq hr)
    rw [List.length_cons, tmG, if_pos h0, hz]
    exact ⟨by simp [i1], d1.trans i2⟩
theorem run_take (x : UInt8) : ∀ (l : List UInt8), l.take (run x l) = List.replicate (run x l) x
  | [] => rfl
  | y :: l => by
    unfold run
    split
    · rename_i h
      rw [List.take_succ_cons, run_take x l, List.replicate_succ, h]
    · rfl
theorem run_max (x : UInt8) : ∀ (l : List UInt8) (y : UInt8), (l.drop (run x l)).head? = some y → y ≠ x
  | [], y, h => by simp [run] at h
  | z :: l, y, h => by
    unfold run at h
    split at h
    · rw [List.drop_succ_cons] at h; exact run_max x l y h
    · rename_i hz
      simp at h
      exact fun e => hz (h.trans e)
theorem last_rep (o : List UInt8) (x : UInt8) (q : Nat) : (o ++ List.replicate (1 + q) x).getD ((o ++ List.replicate (1 + q) x).length - 1) 0 = x := by
  have : (o ++ List.replicate (1 + q) x).length - 1 = o.length + q := by simp; omega
  rw [this]
  simp [List.getD]
theorem lv_back (n : Nat) (hn : n ≤ 1000000000) : ∀ (f : Nat) (l o : List UInt8) (s : Cs) (r : List UInt8), s.e = 0 → n = o.length + l.length → (∀ x, l.head? = some x → 0 < o.length → o.getD (o.length - 1) 0 ≠ x) → s.rest = colR none l ++ r → l.length < f → (lvF f n s o).1 = o ++ l ∧ Rds s (lvF f n s o).2 (colR none l)
  | 0, l, o, s, r, _, _, _, _, hf => absurd hf (by omega)
  | f + 1, [], o, s, r, h0, hln, _, hr, hf => by
    simp at hln
    rw [lvF_end (fun h => by omega)]
    exact ⟨by simp, Rds.nil h0⟩
  | f + 1, x :: l, o, s, r, h0, hln, hne, hr, hf => by
    have hq := run_le x l
    simp only [List.length_cons] at hln hf
    have hc : colR none (x :: l) = [x] ++ (encN (1 + run x l) ++ colR none (l.drop (run x l))) := by
      rw [colR, if_neg (by simp), colR_run]; rfl
    rw [hc] at hr ⊢
    have hr1 : s.rest = x :: (encN (1 + run x l) ++ (colR none (l.drop (run x l)) ++ r)) := by rw [hr]; simp
    obtain ⟨b1, db⟩ := Cs.byte_at' h0 hr1
    have hr2 := db.rest_eq (p := [x]) hr1
    obtain ⟨k1, dk⟩ := Cs.int_at' (m := (n : Int) - o.length) (x := 1 + run x l) db.e1 (by omega) (by omega) hr2
    have hr3 := dk.rest_eq hr2
    have hK : lvK n s o = 1 + run x l := k1
    have hX : lvX s = x := b1
    have hS : (lvS n s o).e = 0 := dk.e1
    have hbad : ¬ lvBad n s o := by
      rintro ⟨_, h | ⟨h1, h2⟩⟩
      · omega
      · exact hne x rfl h1 (h2.trans hX)
    have hT : lvT n s o = lvS n s o := if_neg hbad
    rw [lvF_go ⟨by omega, h0⟩, hT, hK, hX]
    obtain ⟨i1, i2⟩ := lv_back n hn f (l.drop (run x l)) (o ++ List.replicate (1 + run x l) x) (lvS n s o) r hS (by simp; omega) (fun y hy _ => by rw [last_rep]; exact fun e => run_max x l y hy e.symm) hr3 (by rw [List.length_drop]; omega)
    refine ⟨?_, (db.trans (dk.trans i2))⟩
    rw [i1, List.append_assoc]
    congr 1
    rw [Nat.add_comm 1, List.replicate_succ, ← run_take x l, List.cons_append, List.take_append_drop]
theorem cols_back {L : List RecC} (hx : ∀ x ∈ L, x.1 < 18446744073709551616) (hl : L.length ≤ 20000) (r : List UInt8) : rcR L.length (colB L ++ r) = (L.map (·.1), lv L, (colB L).length, 0) := by
  obtain ⟨t1, t2⟩ := tm_back L 0 ⟨colB L ++ r, 0, 0⟩ (colR none (lv L) ++ r) (by omega) rfl hx (by simp [Cs.rest, colB])
  have hr2 := t2.rest_eq (r := colR none (lv L) ++ r) (by simp [Cs.rest, colB])
  change (rcT L.length (colB L ++ r)).1 = _ at t1
  change Rds _ (rcT L.length (colB L ++ r)).2 _ at t2
  change (rcT L.length (colB L ++ r)).2.rest = _ at hr2
  obtain ⟨v1, v2⟩ := lv_back L.length (by omega) (L.length + 1) (lv L) [] (rcT L.length (colB L ++ r)).2 r t2.e1 (by simp [lv_length]) (fun _ _ h => absurd h (by simp)) hr2 (by rw [lv_length]; omega)
  change (rcV L.length (colB L ++ r)).1 = _ at v1
  change Rds _ (rcV L.length (colB L ++ r)).2 _ at v2
  rw [rcR_ok (by omega) v2.e1, t1, v1]
  have he := (t2.trans v2).eq
  rw [he]
  simp [colB]
end Go.Proofs.Ytlbdhdocagahpaa

/-
  Texts of one proof, joined: part 15. No condition.
-/
import Derived.Test.YtpamjobiohbibaaMp14
namespace Go.Proofs.Ytpamjobiohbibaa
open Go.RowKit
set_option linter.unusedVariables false
set_option maxRecDepth 20000
theorem recAt_lt {l : List RecC} {r : RecC} {q : Nat} (h : q < l.length) : recAt (l ++ [r]) q = recAt l q := by
  unfold recAt; rw [List.getD_eq_getElem?_getD, List.getD_eq_getElem?_getD, List.getElem?_append_left h]
theorem recAt_at {l : List RecC} {r : RecC} : recAt (l ++ [r]) l.length = r := by
  unfold recAt; rw [List.getD_eq_getElem?_getD]; simp
theorem recs_app (l : List RecC) (r : RecC) : recs (l ++ [r]) = recs l ++ RecC.cells r := by
  unfold recs; rw [List.flatMap_append]; simp
theorem recs_one (l : List RecC) : ∀ u ∈ recs l, u.oneCell' = true := fun u hu => by
  obtain ⟨x, _, hx⟩ := List.mem_flatMap.1 hu
  unfold RecC.cells at hx
  simp only [List.mem_cons, List.not_mem_nil, or_false] at hx
  rcases hx with rfl | rfl | rfl | rfl <;> rfl
theorem wsum_app (l : List RecC) (r : RecC) : wsum (l ++ [r]) = wsum l + r.w := by
  unfold wsum; simp
theorem lsF_congr {f f' : Nat → List Txt} {n : Nat} (h : ∀ q, q < n → f' q = f q) (s : Txt) : lsF f' n s = lsF f n s := by
  unfold lsF
  refine List.filter_congr fun q hq => ?_
  rw [h q (List.mem_range.1 hq)]
theorem lsF_more (l : List RecC) (r : RecC) (s : Txt) : lsF (tmF (l ++ [r])) (l.length + 1) s = lsF (tmF l) l.length s ++ (if s ∈ trm r then [l.length] else []) := by
  have e : tmF (l ++ [r]) l.length = trm r := by unfold tmF; rw [recAt_at]
  rw [lsF_succ, e, lsF_congr (f := tmF l) fun q hq => by unfold tmF; rw [recAt_lt hq]]
theorem bldT_more (l : List RecC) (r : RecC) : bldT (tmF l) l.length = (bldT (tmF (l ++ [r])) (l.length + 1)).filter (fun s => decide (lsF (tmF l) l.length s ≠ [])) := by
  refine setT_uniq (List.Pairwise.filter _ (setT_st _)) fun x => ?_
  rw [List.mem_filter, bldT_mem, List.mem_flatMap]
  simp only [decide_eq_true_eq, List.mem_range]
  rw [lsF_ne]
  refine ⟨fun h => h.2, fun h => ⟨?_, h⟩⟩
  obtain ⟨q, hq, hx⟩ := h
  exact ⟨q, by omega, by unfold tmF at hx ⊢; rwa [recAt_lt hq]⟩
theorem fil_get {P : Txt → Bool} {Y : List Txt} {k : Nat} (hk : k < Y.length) (hp : P (Y.getD k []) = true) : ((Y.take k).filter P).length < (Y.filter P).length ∧ (Y.filter P).getD ((Y.take k).filter P).length [] = Y.getD k [] ∧ ((Y.take (k + 1)).filter P).length = ((Y.take k).filter P).length + 1 := by
  have hg : Y.getD k [] = Y[k] := by simp [List.getD, List.getElem?_eq_getElem hk]
  rw [hg] at hp ⊢
  have e : Y = Y.take k ++ Y[k] :: Y.drop (k + 1) := by
    rw [List.getElem_cons_drop, List.take_append_drop]
  have e2 : Y.filter P = (Y.take k).filter P ++ Y[k] :: (Y.drop (k + 1)).filter P := by
    conv => lhs; rw [e]
    rw [List.filter_append, List.filter_cons_of_pos hp]
  refine ⟨by rw [e2]; simp, ?_, ?_⟩
  · rw [e2, List.getD_eq_getElem?_getD, List.getElem?_append_right (Nat.le_refl _)]; simp
  · rw [List.take_add_one, List.getElem?_eq_getElem hk, List.filter_append]
    simp [hp]
theorem fil_skip {P : Txt → Bool} {Y : List Txt} {k : Nat} (hk : k < Y.length) (hp : P (Y.getD k []) = false) : ((Y.take (k + 1)).filter P).length = ((Y.take k).filter P).length := by
  have hg : Y.getD k [] = Y[k] := by simp [List.getD, List.getElem?_eq_getElem hk]
  rw [hg] at hp
  rw [List.take_add_one, List.getElem?_eq_getElem hk, List.filter_append]
  simp [hp]
theorem cast_take {l : List Nat} (n : Nat) : ((l ++ [n]).map (fun (n : Nat) => (n : Int))).take l.length = l.map (fun (n : Nat) => (n : Int)) := by
  rw [List.map_append, List.take_append_of_le_length (by simp), List.take_of_length_le (by simp)]
theorem cast_last {l : List Nat} (n : Nat) : ((l ++ [n]).map (fun (n : Nat) => (n : Int))).getD l.length 0 = n := by
  rw [List.map_append, List.getD_eq_getElem?_getD, List.getElem?_append_right (by simp)]; simp
theorem wk_drop : ∀ M : List Ch, Wk M []
  | [] => .refl _
  | _ :: R => .skip (wk_drop R)
variable {B : Nat} {w0 : World}
theorem bld_two (X Y : List Txt) (A1 A2 A3 A4 : Option Addr) (c1 c2 c3 c4 : Nat) (LX LY : List Lst) (a b : Ch) : ∃ M : List Ch, (.own 9 1 A3 Y.length c3 (strs Y) :: .own 37 1 A4 Y.length c4 (LY.map lVal) :: (LY.map lRow ++ (.own 9 1 A1 X.length c1 (strs X) :: .own 37 1 A2 X.length c2 (LX.map lVal) :: (LX.map lRow ++ [a, b]))) : List Ch) = M ++ [b] ∧
    Bor B w0 M 1 (.slice A3 Y.length c3) Y.length (strs Y) ∧ Bor B w0 M 1 (.slice A4 Y.length c4) Y.length ((toI LY).map iVal) ∧ LsBor B w0 M (toI LY) ∧
    Bor B w0 M 1 (.slice A1 X.length c1) X.length (strs X) ∧ Bor B w0 M 1 (.slice A2 X.length c2) X.length ((toI LX).map iVal) ∧ LsBor B w0 M (toI LX) := by
  refine ⟨.own 9 1 A3 Y.length c3 (strs Y) :: .own 37 1 A4 Y.length c4 (LY.map lVal) :: (LY.map lRow ++ (.own 9 1 A1 X.length c1 (strs X) :: .own 37 1 A2 X.length c2 (LX.map lVal) :: (LX.map lRow ++ [a]))), by simp, Bor.own (.head _), ?_, ?_, ?_, ?_, ?_⟩
  · rw [toI_val]; exact Bor.own (.tail _ (.head _))
  · exact toI_bor fun e he => List.mem_cons_of_mem _ (List.mem_cons_of_mem _ (List.mem_append_left _ (List.mem_map_of_mem he)))
  · exact Bor.own (List.mem_cons_of_mem _ (List.mem_cons_of_mem _ (List.mem_append_right _ (.head _))))
  · rw [toI_val]; exact Bor.own (List.mem_cons_of_mem _ (List.mem_cons_of_mem _ (List.mem_append_right _ (.tail _ (.head _)))))
  · exact toI_bor fun e he => List.mem_cons_of_mem _ (List.mem_cons_of_mem _ (List.mem_append_right _ (List.mem_cons_of_mem _ (List.mem_cons_of_mem _ (List.mem_append_left _ (List.mem_map_of_mem he))))))
theorem back2 (p q b : Ch) (M : List Ch) : (p :: q :: (M ++ [b])).Perm (b :: p :: q :: M) := by
  have := (List.perm_append_singleton b (p :: q :: M))
  simpa using this
theorem same_one {F : List Ch} {A1 A2 : Option Addr} {x z : LsI} (h1 : Bor B w0 F 1 (.slice A1 1 1) 1 [iVal x]) (h2 : Bor B w0 F 1 (.slice A2 1 1) 1 [iVal z]) (hx : Bor B w0 F 1 (.slice x.1 x.2.2.length x.2.1) x.2.2.length (ints .i64 x.2.2)) (hz : Bor B w0 F 1 (.slice z.1 z.2.2.length z.2.1) z.2.2.length (ints .i64 z.2.2)) (hl : x.2.2.length ≤ 9223372036854775807) (e : x.2.2 = z.2.2) :
    Does Try.prog B w0 11 [.agg [.slice none 0 0, .slice A1 1 1].toArray, .agg [.slice none 0 0, .slice A2 1 1].toArray] F (fun r L => r = .bool true ∧ L = F) := by
  refine may_true (rsame18_d (T1 := []) (T2 := []) (L1 := [x]) (L2 := [z]) Bor.nil_ h1 ?_ Bor.nil_ h2 ?_ (by simp) (by simp) ?_) ⟨rfl, by simp [idsI, e]⟩
  · intro e he; rw [List.mem_singleton] at he; subst he; exact hx
  · intro e he; rw [List.mem_singleton] at he; subst he; exact hz
  · intro e he; rw [List.mem_singleton] at he; subst he; exact hl
end Go.Proofs.Ytpamjobiohbibaa

/-
  Texts of one proof, joined: part 3. No condition.
-/
import Derived.Test.YtpamjobiohbibaaGreatGb2
import Derived.ProofKit
import Derived.OpenShut
import Derived.ShutString
import Derived.ChangeOld
import Derived.Deep.Slices
import Derived.RangeFuncFrom
import Derived.RangeFuncLeaves
import Derived.RangeFuncCalls
import Derived.OrdersIn
namespace Go.Proofs.YtpamjobiohbibaaGreat
open Go.RowKit
set_option linter.unusedVariables false
variable {B : Nat} {w0 : World} {F : List Ch}
theorem small_cases (c : UInt8) : (97 ≤ (c.toNat : Int) ∧ (c.toNat : Int) ≤ 122 ∨ 48 ≤ (c.toNat : Int) ∧ (c.toNat : Int) ≤ 57) ∧ ((small c).toNat : Int) = (c.toNat : Int) ∧ small c ≠ 0 ∨
    (65 ≤ (c.toNat : Int) ∧ (c.toNat : Int) ≤ 90) ∧ ((small c).toNat : Int) = (c.toNat : Int) + 32 ∧ small c ≠ 0 ∨
    (¬ (97 ≤ (c.toNat : Int) ∧ (c.toNat : Int) ≤ 122 ∨ 48 ≤ (c.toNat : Int) ∧ (c.toNat : Int) ≤ 57) ∧ ¬ (65 ≤ (c.toNat : Int) ∧ (c.toNat : Int) ≤ 90)) ∧ small c = 0 := by
  by_cases h1 : 65 ≤ c.toNat ∧ c.toNat ≤ 90
  · have e : small c = c + 32 := if_pos h1
    have e2 : (c + 32).toNat = c.toNat + 32 := by
      rw [UInt8.toNat_add]
      show (c.toNat + 32) % 256 = _
      omega
    refine .inr (.inl ⟨by omega, by rw [e, e2]; omega, fun h => ?_⟩)
    rw [e] at h
    have := congrArg UInt8.toNat h
    rw [e2] at this
    simp at this
  · by_cases h2 : 97 ≤ c.toNat ∧ c.toNat ≤ 122 ∨ 48 ≤ c.toNat ∧ c.toNat ≤ 57
    · have e : small c = c := by unfold small; rw [if_neg h1, if_pos h2]
      refine .inl ⟨by omega, by rw [e], fun h => ?_⟩
      rw [e] at h
      rw [h] at h2
      simp at h2
    · have e : small c = 0 := by unfold small; rw [if_neg h1, if_neg h2]
      exact .inr (.inr ⟨by omega, e⟩)
theorem ret_letter {n : Int} {b b' : Bool} {c : UInt8} (h : n = ((small c).toNat : Int)) (hb : b = b') : Value.tuple #[.int .u8 n, .bool b] = .tuple #[.int .u8 (small c).toNat, .bool b'] := by rw [h, hb]
theorem letter_d (c : UInt8) : Does Tryz.prog B w0 71 [.int .u8 c.toNat] F (fun r L => r = .tuple #[.int .u8 (small c).toNat, .bool (decide (small c ≠ 0))] ∧ L = F) := by
  have hs := small_cases c
  have hc := c.toNat_lt
  refine fn_walk Tryz.func71 27 rfl rfl rfl [(0, .int .u8 c.toNat)] ⟨⟨rfl, rfl⟩, trivial⟩ ?_
  refine vc_seq ?_
  refine vc_region ?_
  refine vl_det (det_assign rfl) rfl ?_
  refine vl_det (det_assign rfl) rfl ?_
  refine vl_end [(0, _)] ⟨rfl, trivial⟩ ?_
  refine then_next ?_
  refine vc_seq ?_
  refine vc_block ?_
  refine vc_seq ?_
  refine vc_block ?_
  refine vc_seq ?_
  refine vc_block ?_
  refine vc_seq ?_
  refine vc_seq ?_
  refine vc_seq ?_
  refine vc_region ?_
  refine vl_cut 6 10 [(0, _)] (65 ≤ (c.toNat : Int) ∧ (c.toNat : Int) ≤ 90) ⟨rfl, trivial⟩ ?_ ?_
  · skip
    refine vl_det (det_move rfl) rfl ?_
    refine vl_det (det_geq rfl rfl) rfl ?_
    refine vl_det (det_move rfl) rfl ?_
    refine vl_guardp rfl rfl rfl (fun h7 => ?_) (fun h7 => ?_)
    · skip
      refine vl_det (det_move rfl) rfl ?_
      refine vl_guard_t rfl rfl ?_
      refine vl_det (det_leq rfl rfl) rfl ?_
      refine vl_det (det_pick_t rfl rfl) rfl ?_
      exact vl_cut_end ⟨rfl, trivial⟩ (by first | rfl | exact bool_to_t (by first | omega | simp_all) | exact bool_to_f (by first | omega | simp_all) | exact bool_to (by first | omega | simp_all) | exact bool_to_b (by first | omega | simp_all))
    · skip
      refine vl_guard_f rfl rfl rfl rfl ?_
      refine vl_det (det_pick_f rfl rfl) rfl ?_
      exact vl_cut_end ⟨rfl, trivial⟩ (by first | rfl | exact bool_to_t (by first | omega | simp_all) | exact bool_to_f (by first | omega | simp_all) | exact bool_to (by first | omega | simp_all) | exact bool_to_b (by first | omega | simp_all))
  · skip
    refine vl_det (det_assign rfl) rfl ?_
    refine vl_end [(0, _), (4, _)] ⟨rfl, rfl, trivial⟩ ?_
    refine then_next ?_
    refine vc_decideU rfl (fun h4 => ?_) (fun h4 => ?_)
    · skip
      refine vc_exit ?_
      refine then_exit ?_
      refine then_exit ?_
      refine in_eq ?_
      refine then_next ?_
      refine vc_region ?_
      refine vl_det (det_move rfl) rfl ?_
      refine vl_det (det_add rfl rfl (w_u8 (by omega) (by omega))) rfl ?_
      refine vl_det (det_assign rfl) rfl ?_
      refine vl_end [(0, _)] ⟨rfl, trivial⟩ ?_
      refine in_normal ?_
      refine then_next ?_
      refine vc_seq ?_
      refine vc_seq ?_
      refine vc_region ?_
      refine vl_det (det_move rfl) rfl ?_
      refine vl_det (det_assign rfl) rfl ?_
      refine vl_det (det_assign rfl) rfl ?_
      refine vl_end [(2, _), (3, _)] ⟨rfl, rfl, trivial⟩ ?_
      refine then_next ?_
      refine vc_ret ?_
      refine then_ret ?_
      refine in_ret ?_
      refine then_ret ?_
      refine ret2 rfl rfl rfl ?_
      have e : small c ≠ 0 := by rcases hs with h | h | h <;> first | exact h.2.2 | (exfalso; omega)
      exact ⟨ret_letter (by omega) (decide_eq_true e).symm, rfl⟩
    · skip
      refine vc_skip ?_
      refine then_next ?_
      refine vc_seq ?_
      refine vc_seq ?_
      refine vc_region ?_
      refine vl_cut 6 17 [(0, _)] (97 ≤ (c.toNat : Int) ∧ (c.toNat : Int) ≤ 122) ⟨rfl, trivial⟩ ?_ ?_
      · skip
        refine vl_det (det_move rfl) rfl ?_
        refine vl_det (det_geq rfl rfl) rfl ?_
        refine vl_det (det_move rfl) rfl ?_
        refine vl_guardp rfl rfl rfl (fun h14 => ?_) (fun h14 => ?_)
        · skip
          refine vl_det (det_move rfl) rfl ?_
          refine vl_guard_t rfl rfl ?_
          refine vl_det (det_leq rfl rfl) rfl ?_
          refine vl_det (det_pick_t rfl rfl) rfl ?_
          exact vl_cut_end ⟨rfl, trivial⟩ (by first | rfl | exact bool_to_t (by first | omega | simp_all) | exact bool_to_f (by first | omega | simp_all) | exact bool_to (by first | omega | simp_all) | exact bool_to_b (by first | omega | simp_all))
        · skip
          refine vl_guard_f rfl rfl rfl rfl ?_
          refine vl_det (det_pick_f rfl rfl) rfl ?_
          exact vl_cut_end ⟨rfl, trivial⟩ (by first | rfl | exact bool_to_t (by first | omega | simp_all) | exact bool_to_f (by first | omega | simp_all) | exact bool_to (by first | omega | simp_all) | exact bool_to_b (by first | omega | simp_all))
      · skip
        refine vl_det (det_assign rfl) rfl ?_
        refine vl_end [(0, _), (11, _)] ⟨rfl, rfl, trivial⟩ ?_
        refine then_next ?_
        refine vc_decideU rfl (fun h11 => ?_) (fun h11 => ?_)
        · skip
          refine vc_skip ?_
          refine then_next ?_
          refine vc_cond_t rfl ?_
          refine vc_exit ?_
          refine then_exit ?_
          refine in_exit rfl ?_
          refine then_exit ?_
          refine in_eq ?_
          refine then_next ?_
          refine vc_seq ?_
          refine vc_seq ?_
          refine vc_region ?_
          refine vl_det (det_move rfl) rfl ?_
          refine vl_det (det_assign rfl) rfl ?_
          refine vl_det (det_assign rfl) rfl ?_
          refine vl_end [(2, _), (3, _)] ⟨rfl, rfl, trivial⟩ ?_
          refine then_next ?_
          refine vc_ret ?_
          refine then_ret ?_
          refine in_ret ?_
          refine then_ret ?_
          refine ret2 rfl rfl rfl ?_
          have e : small c ≠ 0 := by rcases hs with h | h | h <;> first | exact h.2.2 | (exfalso; omega)
          exact ⟨ret_letter (by omega) (decide_eq_true e).symm, rfl⟩
        · skip
          refine vc_region ?_
          refine vl_cut 6 23 [(0, _)] (48 ≤ (c.toNat : Int) ∧ (c.toNat : Int) ≤ 57) ⟨rfl, trivial⟩ ?_ ?_
          · skip
            refine vl_det (det_move rfl) rfl ?_
            refine vl_det (det_geq rfl rfl) rfl ?_
            refine vl_det (det_move rfl) rfl ?_
            refine vl_guardp rfl rfl rfl (fun h20 => ?_) (fun h20 => ?_)
            · skip
              refine vl_det (det_move rfl) rfl ?_
              refine vl_guard_t rfl rfl ?_
              refine vl_det (det_leq rfl rfl) rfl ?_
              refine vl_det (det_pick_t rfl rfl) rfl ?_
              exact vl_cut_end ⟨rfl, trivial⟩ (by first | rfl | exact bool_to_t (by first | omega | simp_all) | exact bool_to_f (by first | omega | simp_all) | exact bool_to (by first | omega | simp_all) | exact bool_to_b (by first | omega | simp_all))
            · skip
              refine vl_guard_f rfl rfl rfl rfl ?_
              refine vl_det (det_pick_f rfl rfl) rfl ?_
              exact vl_cut_end ⟨rfl, trivial⟩ (by first | rfl | exact bool_to_t (by first | omega | simp_all) | exact bool_to_f (by first | omega | simp_all) | exact bool_to (by first | omega | simp_all) | exact bool_to_b (by first | omega | simp_all))
          · skip
            refine vl_det (det_assign rfl) rfl ?_
            refine vl_end [(0, _), (11, _)] ⟨rfl, rfl, trivial⟩ ?_
            refine then_next ?_
            refine vc_decideU rfl (fun h11 => ?_) (fun h11 => ?_)
            · skip
              refine vc_exit ?_
              refine then_exit ?_
              refine in_exit rfl ?_
              refine then_exit ?_
              refine in_eq ?_
              refine then_next ?_
              refine vc_seq ?_
              refine vc_seq ?_
              refine vc_region ?_
              refine vl_det (det_move rfl) rfl ?_
              refine vl_det (det_assign rfl) rfl ?_
              refine vl_det (det_assign rfl) rfl ?_
              refine vl_end [(2, _), (3, _)] ⟨rfl, rfl, trivial⟩ ?_
              refine then_next ?_
              refine vc_ret ?_
              refine then_ret ?_
              refine in_ret ?_
              refine then_ret ?_
              refine ret2 rfl rfl rfl ?_
              have e : small c ≠ 0 := by rcases hs with h | h | h <;> first | exact h.2.2 | (exfalso; omega)
              exact ⟨ret_letter (by omega) (decide_eq_true e).symm, rfl⟩
            · skip
              refine vc_skip ?_
              refine then_next ?_
              refine vc_exit ?_
              refine in_exit rfl ?_
              refine then_exit ?_
              refine in_exit rfl ?_
              refine then_exit ?_
              refine in_eq ?_
              refine then_next ?_
              refine vc_seq ?_
              refine vc_region ?_
              refine vl_det (det_assign rfl) rfl ?_
              refine vl_det (det_assign rfl) rfl ?_
              refine vl_end [(2, _), (3, _)] ⟨rfl, rfl, trivial⟩ ?_
              refine then_next ?_
              refine vc_ret ?_
              refine ret2 rfl rfl rfl ?_
              have e : small c = 0 := by rcases hs with h | h | h <;> first | exact h.2 | (exfalso; omega)
              rw [e]; exact ⟨rfl, rfl⟩
/-- all are letters -/
def AllS (l : List UInt8) : Prop := ∀ c ∈ l, small c ≠ 0
instance (l : List UInt8) : Decidable (AllS l) := inferInstanceAs (Decidable (∀ c ∈ l, small c ≠ 0))
theorem AllS.nil_ : AllS [] := by intro c h; cases h
theorem AllS.take {l : List UInt8} (h : AllS l) (k : Nat) : AllS (l.take k) := fun c hc => h c (List.mem_of_mem_take hc)
theorem AllS.step {l : List UInt8} {k : Nat} (h : AllS (l.take k)) (hk : k < l.length) (hs : small (l.getD k 0) ≠ 0) : AllS (l.take (k + 1)) := by
  rw [take_getD hk 0]
  intro c hc
  rcases List.mem_append.1 hc with hc | hc
  · exact h c hc
  · simp only [List.mem_singleton] at hc; rw [hc]; exact hs
theorem AllS.all {l : List UInt8} {k : Nat} (h : AllS (l.take k)) (hk : ¬ k < l.length) : AllS l := by rwa [List.take_of_length_le (by omega)] at h
/-- a text by itself -/
def oneL (s : List UInt8) : List UInt8 × Bool := if (1 ≤ s.length ∧ s.length ≤ 24) ∧ AllS s then (s.map small, true) else ([], false)
/-- what stands behind an @ ahead -/
def bare (s : List UInt8) : List UInt8 := if s.head? = some 64 then s.drop 1 else s
def termL (s : List UInt8) : Bool := (oneL (bare s)).2 && decide ((oneL (bare s)).1 = bare s)
end Go.Proofs.YtpamjobiohbibaaGreat
namespace Go.Proofs.YtpamjobiohbibaaGreat
open Go.RowKit
set_option linter.unusedVariables false
set_option maxRecDepth 20000
variable {B : Nat} {w0 : World} {F : List Ch} {A A1 A2 : Option Addr} {n c c1 c2 g : Nat}
theorem SL.own_cut {w : World} {L : List Ch} {e : TypeId} {size k : Nat} {xs : List Value} (h : SL B w0 (.own e size A n c xs :: L) w) (hk : k ≤ n) : SL B w0 (.own e size A k c (xs.take (k * size)) :: L) w := by
  refine ⟨h.below, h.base, fun d hd => ?_, List.pairwise_cons.2 ⟨fun d hd => ?_, (List.pairwise_cons.1 h.apart).2⟩⟩
  · rcases List.mem_cons.1 hd with rfl | hd
    · obtain ⟨k1, k2, k3⟩ := h.head
      have hks : k * size ≤ n * size := Nat.mul_le_mul_right _ hk
      refine ⟨by rw [List.length_take, k1]; omega, by omega, k3.imp id fun ⟨g, cur, q1, q2, q3, q4, q5, q6⟩ => ⟨g, cur, q1, q2, q3, q4, q5, by rw [← q6, List.take_take, Nat.min_eq_left hks]⟩⟩
    · exact h.tail.all d hd
  · exact (List.pairwise_cons.1 h.apart).1 d hd
theorem ret_own_cut {P : Program} {fn : Func} {R : Value → List Ch → Prop} {ee : Exit} {fr : Fr} {L : List Ch} {e : TypeId} {size : Nat} {xs : List Value} (k : Nat) (hk : k ≤ n) (h : Ret P fn R ee fr (.own e size A k c (xs.take (k * size)) :: L)) : Ret P fn R ee fr (.own e size A n c xs :: L) := by
  cases ee <;> first
    | exact h
    | (intro B w0 a w ha hw; exact h B w0 a w ha (hw.own_cut hk))
/-- the collecting variable -/
abbrev ColP (ho : Nat) (A : Option Addr) (c : Nat) (ws : List Txt) (F : List Ch) : List Ch := .blk ho 22 [.slice A ws.length c] :: .own 9 1 A ws.length c (strs ws) :: F
/-- what a function does with each word that it is handed: it stands behind the others, turned -/
def Collects (B : Nat) (w0 : World) (ff : FuncId) (ho : Nat) (f : Txt → Txt) : Prop :=
  ∀ (F : List Ch) (t : Txt) (ws : List Txt) (A : Option Addr) (c : Nat), t.length ≤ 24 → ws.length ≤ 1000000000000 →
    Does Tryz.prog B w0 ff [.string ⟨t.toArray⟩, .pointer (some ⟨ho, 0, none⟩)] (ColP ho A c ws F) (fun r L => r = .tuple #[] ∧ ∃ A' c', L = ColP ho A' c' (ws ++ [f t]) F)
/-- the row of letters -/
abbrev RowP (hr : Nat) (A : Option Addr) (c : Nat) (row : List UInt8) (F : List Ch) : List Ch := .blk hr 26 [.slice A row.length c] :: .own 5 1 A row.length c (bv row) :: F
theorem tell_d {ff : FuncId} {ho hr hw : Nat} {f : Txt → Txt} (hcal : Callable Tryz.prog ff) (hword : Collects B w0 ff ho f) {row : List UInt8} {ws : List Txt} (hws : ws.length ≤ 1000000000000) (hrow : row.length ≤ 1000000000000) :
    Does Tryz.prog B w0 70 [.pointer (some ⟨hr, 0, none⟩), .pointer (some ⟨hw, 0, none⟩)] (RowP hr A1 c1 row (.blk hw 99 [.func (.func ff) #[] [.pointer (some ⟨ho, 0, none⟩)].toArray] :: ColP ho A2 c2 ws F))
      (fun r L => r = .tuple #[] ∧ ∃ A2' c2', L = RowP hr A1 c1 [] (.blk hw 99 [.func (.func ff) #[] [.pointer (some ⟨ho, 0, none⟩)].toArray] :: ColP ho A2' c2' (ws ++ (emit row).map f) F)) := by
  refine fn_walk Tryz.func70 15 rfl rfl rfl [(0, .pointer (some ⟨hr, 0, none⟩)), (1, .pointer (some ⟨hw, 0, none⟩))] ⟨⟨rfl, rfl⟩, ⟨rfl, rfl⟩, trivial⟩ ?_
  refine vc_seq ?_
  refine vc_seq ?_
  refine vc_region ?_
  refine vl_det (det_load_blk (by kernel_rfl) rfl (by repeat (first | exact .hd | apply Sel.tl)) rfl) rfl ?_
  refine vl_det (det_len_sl Tryz.underlying26 rfl) rfl ?_
  refine vl_det (det_gtr rfl rfl) rfl ?_
  refine vl_end [(0, _), (1, _), (4, _)] ⟨rfl, rfl, rfl, trivial⟩ ?_
  refine then_next ?_
  refine vc_decideU rfl (fun h4 => ?_) (fun h4 => ?_)
  · skip
    refine vc_bor (A := A1) (nn := row.length) (c := c1) (size := 1) (xs := bv row) (by first | (exact Bor.own (by repeat (first | exact List.Mem.head _ | apply List.Mem.tail))) | (repeat (first | assumption | apply Bor.cons))) fun hcap _ => ?_
    obtain ⟨M, hM⟩ : ∃ M, M = min row.length 24 := ⟨_, rfl⟩
    have htl : (row.take 24).length = M := by rw [List.length_take, hM, Nat.min_comm]
    have he : emit row = [row.take 24] := if_neg (fun e => by rw [e] at h4; simp at h4)
    have hMm : min (row.length : Int) 24 = (M : Int) := by omega
    have htk : (bv row).take (M * 1) = bv (row.take 24) := by
      rw [Nat.mul_one, bv_take]
      congr 1
      rcases Nat.lt_or_ge row.length 24 with h | h
      · rw [List.take_of_length_le (by omega), List.take_of_length_le (by omega)]
      · rw [show M = 24 by omega]
    refine vh_region (S := .blk hr 26 [.slice A1 row.length c1] :: .own 5 1 A1 row.length c1 (bv row) :: .blk hw 99 [.func (.func ff) #[] [.pointer (some ⟨ho, 0, none⟩)].toArray] :: []) (by kernel_rfl) (by repeat (first | exact List.Sublist.refl _ | exact List.nil_sublist _ | exact List.sublist_append_right _ _ | apply List.Sublist.cons_cons | apply List.Sublist.cons)) ?_
    refine vh_take 0 rfl (by kernel_rfl) (by kernel_rfl) (by kernel_rfl) (det_load_blk (by kernel_rfl) rfl (by repeat (first | exact .hd | apply Sel.tl)) rfl) rfl ?_
    refine vh_take 1 rfl (by kernel_rfl) (by kernel_rfl) (by kernel_rfl) (det_load_blk (by kernel_rfl) rfl (by repeat (first | exact .hd | apply Sel.tl)) rfl) rfl ?_
    refine vh_take 2 rfl (by kernel_rfl) (by kernel_rfl) (by kernel_rfl) (det_load_blk (by kernel_rfl) rfl (by repeat (first | exact .hd | apply Sel.tl)) rfl) rfl ?_
    refine vh_take 3 rfl (by kernel_rfl) (by kernel_rfl) (by kernel_rfl) (det_len_sl Tryz.underlying26 rfl) rfl ?_
    refine vh_take 4 rfl (by kernel_rfl) (by kernel_rfl) (by kernel_rfl) (det_min rfl rfl) rfl ?_
    rw [hMm]
    refine vh_take 5 rfl (by kernel_rfl) (by kernel_rfl) (by kernel_rfl) (det_slice_hi (i := M) (size := 1) Tryz.underlying26 (by kernel_rfl) rfl rfl rfl (by omega)) rfl ?_
    refine vh_take 6 rfl (by kernel_rfl) (by kernel_rfl) (by kernel_rfl) (det_bstr (b := row.take 24) Tryz.underlying26 Tryz.underlying5 Tryz.underlying9 rfl (htk ▸ ((by first | (exact Bor.own (by repeat (first | exact List.Mem.head _ | apply List.Mem.tail))) | (repeat (first | assumption | apply Bor.cons))) : Bor _ _ _ 1 (.slice A1 row.length c1) row.length (bv row)).head_ (k := M) (by omega))) rfl ?_
    refine vh_one 7 (by kernel_rfl) ?_
    refine st_callv rfl .no hcal rfl rfl ((hword _ (row.take 24) ws _ _ (by omega) (by omega)).perm ((pu3 (pu3 (pu0 (pu0 (pu0 (.refl _)))))))) rfl (by rintro _ _ ⟨rfl, A12, c12, rfl⟩; exact (by repeat (first | exact List.Sublist.refl _ | exact List.nil_sublist _ | exact List.sublist_append_right _ _ | apply List.Sublist.cons_cons | apply List.Sublist.cons))) ?_
    rintro _ _ ⟨rfl, A12, c12, hLL⟩
    obtain rfl := hLL.symm
    refine vh_done [(0, _)] ⟨rfl, trivial⟩ (by kernel_rfl) ?_
    refine then_next ?_
    refine vc_region ?_
    refine vl_det (det_load_blk (by kernel_rfl) rfl (by repeat (first | exact .hd | apply Sel.tl)) rfl) rfl ?_
    refine vl_det (det_slice_hi (i := 0) (size := 1) Tryz.underlying26 (by kernel_rfl) rfl rfl rfl (by omega)) rfl ?_
    refine vl_eff0 (eff_store (by kernel_rfl) rfl rfl rfl (by repeat (first | exact .hd | apply Sel.tl)) (by simp)) ?_
    rintro _ _ rfl
    refine vl_end [] trivial ?_
    refine ret_n ?_
    refine ret_wk (L' := .own 5 1 A1 row.length c1 (bv row) :: .blk hr 26 [.slice A1 0 c1] :: .blk hw 99 [.func (.func ff) #[] [.pointer (some ⟨ho, 0, none⟩)].toArray] :: ColP ho A12 c12 (ws ++ [f (row.take 24)]) F) ((wu3 (wu2 (wu2 (wu0 (wu0 (.refl _))))))) ?_
    refine ret_own_cut 0 (Nat.zero_le _) ?_
    refine ret_wk (L' := RowP hr A1 c1 [] (.blk hw 99 [.func (.func ff) #[] [.pointer (some ⟨ho, 0, none⟩)].toArray] :: ColP ho A12 c12 (ws ++ [f (row.take 24)]) F)) (.swap (.cons (wk_own rfl (by rw [Nat.zero_mul]; rfl) (.refl _)))) ?_
    refine ret0 rfl ?_
    exact ⟨rfl, A12, c12, by rw [he]; rfl⟩
  · skip
    obtain rfl : row = [] := List.eq_nil_of_length_eq_zero (by omega)
    refine vc_skip ?_
    refine then_next ?_
    refine vc_region ?_
    refine vl_det (det_load_blk (by kernel_rfl) rfl (by repeat (first | exact .hd | apply Sel.tl)) rfl) rfl ?_
    refine vl_det (det_slice_hi (i := 0) (size := 1) Tryz.underlying26 (by kernel_rfl) rfl rfl rfl (by omega)) rfl ?_
    refine vl_eff0 (eff_store (by kernel_rfl) rfl rfl rfl (by repeat (first | exact .hd | apply Sel.tl)) (by simp)) ?_
    rintro _ _ rfl
    refine vl_end [] trivial ?_
    refine ret_n ?_
    refine ret0 rfl ?_
    exact ⟨rfl, A2, c2, by simp [emit]⟩
theorem split_d {ff : FuncId} {ho : Nat} {f : Txt → Txt} (hcal : Callable Tryz.prog ff) (hword : Collects B w0 ff ho f) (l : List UInt8) {ws : List Txt} (hws : ws.length ≤ 274877906944) (hl : l.length ≤ 274877906944) :
    Does Tryz.prog B w0 47 [.string ⟨l.toArray⟩, .func (.func ff) #[] [.pointer (some ⟨ho, 0, none⟩)].toArray] (ColP ho A2 c2 ws F)
      (fun r L => r = .tuple #[] ∧ ∃ A2' c2', L = ColP ho A2' c2' (ws ++ (wordsL l).map f) F) := by
  refine fn_walk Tryz.func47 32 rfl rfl rfl [(0, .string ⟨l.toArray⟩), (1, .func (.func ff) #[] [.pointer (some ⟨ho, 0, none⟩)].toArray)] ⟨⟨rfl, rfl⟩, ⟨rfl, rfl⟩, trivial⟩ ?_
  refine vc_seq ?_
  refine vc_region ?_
  refine vl_eff (eff_box rfl rfl) rfl ?_
  rintro _ _ ⟨g3, rfl, rfl⟩
  refine vl_end [(0, _), (3, _)] ⟨rfl, rfl, trivial⟩ ?_
  refine then_next ?_
  refine vc_seq ?_
  refine vc_region ?_
  refine vl_eff (eff_alloc_z (zv := (.slice none 0 0)) (by kernel_rfl) rfl) rfl ?_
  rintro _ _ ⟨g4, rfl, rfl⟩
  refine vl_end [(0, _), (3, _), (4, _)] ⟨rfl, rfl, rfl, trivial⟩ ?_
  refine then_next ?_
  refine vc_seq ?_
  refine vc_region ?_
  refine vl_det (det_makeFunc rfl rfl) rfl ?_
  refine vl_det (det_assign rfl) rfl ?_
  refine vl_end [(0, _), (4, _), (5, _)] ⟨rfl, rfl, rfl, trivial⟩ ?_
  refine then_next ?_
  refine vc_seq ?_
  refine vc_seq ?_
  refine vc_nil_row 5 1 none ?_
  refine vc_region ?_
  refine vl_det (det_move rfl) rfl ?_
  refine vl_det (det_len_s Tryz.underlying9 rfl) rfl ?_
  refine vl_det (det_move rfl) rfl ?_
  refine vl_end [(0, _), (4, _), (5, _), (11, _), (12, _)] ⟨rfl, rfl, rfl, rfl, rfl, trivial⟩ ?_
  refine then_next ?_
  refine vc_block ?_
  refine vc_loopJ (fun zf zL zm => ∃ (k : Nat) (W : List Txt) (R : List UInt8) (A : Option Addr) (c : Nat) (A3 : Option Addr) (c3 : Nat), (k ≤ l.length ∧ wst (l.take k) = (W, R)) ∧ l.length - k = zm ∧ Sub zf [(0, .string ⟨l.toArray⟩), (4, .pointer (some ⟨g4, 0, none⟩)), (5, .func (.func 70) #[] [.pointer (some ⟨g4, 0, none⟩), .pointer (some ⟨g3, 0, none⟩)].toArray), (11, .int .i64 l.length), (12, .int .i64 k)] ∧ Wk zL (RowP g4 A c R (.blk g3 99 [.func (.func ff) #[] [.pointer (some ⟨ho, 0, none⟩)].toArray] :: ColP ho A3 c3 (ws ++ W.map f) F))) _ ⟨0, [], [], none, 0, A2, c2, ⟨Nat.zero_le _, rfl⟩, rfl, ⟨(by first | rfl | exact int_to (by omega) | exact sl_to (by omega)), (by first | rfl | exact int_to (by omega) | exact sl_to (by omega)), (by first | rfl | exact int_to (by omega) | exact sl_to (by omega)), (by first | rfl | exact int_to (by omega) | exact sl_to (by omega)), (by first | rfl | exact int_to (by omega) | exact sl_to (by omega)), trivial⟩, .swap (.cons (.cons (.cons (wk_blk (by simp) (wk_own (by simp) (by simp) (.refl _))))))⟩ ?_
  rintro _ _ _ ⟨k, W, R, A, c, A3, c3, ⟨hk, hW⟩, rfl, hs, hp⟩
  refine vc_weaken _ hs (vc_wk hp ?_)
  clear hs hp
  refine vc_seq ?_
  refine vc_region ?_
  refine vl_det (det_lss rfl rfl) rfl ?_
  refine vl_end [(0, _), (4, _), (5, _), (11, _), (12, _), (13, _)] ⟨rfl, rfl, rfl, rfl, rfl, rfl, trivial⟩ ?_
  refine then_next ?_
  refine vc_seq ?_
  refine vc_decideU rfl (fun h13 => ?_) (fun h13 => ?_)
  · skip
    have hwl := wst_len (l.take k)
    rw [hW, List.length_take] at hwl
    simp only at hwl
    have hel := emit_len R
    have hsn : wst (l.take (k + 1)) = wstep (W, R) (l.getD k 0) := by
      rw [List.take_add_one, List.getElem?_eq_getElem (show k < l.length by omega), ← hW, ← wst_snoc]
      simp [List.getD, List.getElem?_eq_getElem (show k < l.length by omega)]
    refine vc_skip ?_
    refine then_next ?_
    refine vc_seq ?_
    refine vc_block ?_
    refine vc_seq ?_
    refine vc_region ?_
    refine vl_det (det_move rfl) rfl ?_
    refine vl_det (det_assign rfl) rfl ?_
    refine vl_end [(0, _), (4, _), (5, _), (6, _), (11, _), (12, _)] ⟨rfl, rfl, rfl, rfl, rfl, rfl, trivial⟩ ?_
    refine then_next ?_
    refine vc_seq ?_
    refine vc_seq ?_
    refine vc_region ?_
    refine vl_det (det_move rfl) rfl ?_
    refine vl_det (det_move rfl) rfl ?_
    refine vl_det (det_at_str Tryz.underlying9 rfl rfl rfl (by omega)) rfl ?_
    refine vl_call co71 rfl (letter_d (l.getD k 0)) rfl ?_
    rintro _ _ ⟨rfl, hLL⟩
    obtain rfl := hLL.symm
    refine vl_det (det_move rfl) rfl ?_
    refine vl_det (det_extract rfl rfl) rfl ?_
    refine vl_det (det_extract rfl rfl) rfl ?_
    refine vl_det (det_assign rfl) rfl ?_
    refine vl_det (det_assign rfl) rfl ?_
    refine vl_end [(0, _), (4, _), (5, _), (7, _), (8, _), (11, _), (12, _)] ⟨rfl, rfl, rfl, rfl, rfl, rfl, rfl, trivial⟩ ?_
    refine then_next ?_
    refine vc_seq ?_
    refine vc_region ?_
    refine vl_det (det_move rfl) rfl ?_
    refine vl_end [(0, _), (4, _), (5, _), (7, _), (11, _), (12, _), (22, _)] ⟨rfl, rfl, rfl, rfl, rfl, rfl, rfl, trivial⟩ ?_
    refine then_next ?_
    refine vc_decideU rfl (fun h22 => ?_) (fun h22 => ?_)
    · skip
      refine vc_seq ?_
      refine vc_region ?_
      refine vl_det (det_load_blk (by kernel_rfl) rfl (by repeat (first | exact .hd | apply Sel.tl)) rfl) rfl ?_
      refine vl_det (det_move rfl) rfl ?_
      refine vl_push slT26 rfl rfl rfl rfl rfl (fun _ => rfl) (by repeat (first | exact .hd | apply Sel.tl)) (by omega) (by omega) ?_
      intro _ A26 c26
      refine vl_eff0 (eff_store (by kernel_rfl) rfl rfl rfl (by repeat (first | exact .hd | apply Sel.tl)) (by simp)) ?_
      rintro _ _ rfl
      refine vl_end [(0, _), (4, _), (5, _), (11, _), (12, _)] ⟨rfl, rfl, rfl, rfl, rfl, trivial⟩ ?_
      refine then_next ?_
      refine vc_exit ?_
      refine then_exit ?_
      refine in_eq ?_
      refine then_next ?_
      refine vc_region ?_
      refine vl_det (det_add rfl rfl (w_i64 (by omega) (by omega))) rfl ?_
      refine vl_det (det_move rfl) rfl ?_
      refine vl_end [(0, _), (4, _), (5, _), (11, _), (12, _)] ⟨rfl, rfl, rfl, rfl, rfl, trivial⟩ ?_
      have hel2 : R.length + 1 = (R ++ [small (l.getD k 0)]).length := by simp
      refine in_loop_ ⟨_, by omega, k + 1, W, R ++ [small (l.getD k 0)], A26, c26, A3, c3, ⟨by omega, by rw [hsn, wstep_yes h22]⟩, rfl, ⟨(by first | rfl | exact int_to (by omega) | exact sl_to (by omega)), (by first | rfl | exact int_to (by omega) | exact sl_to (by omega)), (by first | rfl | exact int_to (by omega) | exact sl_to (by omega)), (by first | rfl | exact int_to (by omega) | exact sl_to (by omega)), (by first | rfl | exact int_to (by omega) | exact sl_to (by omega)), trivial⟩, wk_blk (by rw [hel2]; rfl) (wk_own hel2 (by simp [bv]) (.refl _))⟩
    · skip
      refine vc_skip ?_
      refine then_next ?_
      refine vc_region ?_
      refine vl_det (det_move rfl) rfl ?_
      refine vl_callv co70 rfl rfl (tell_d hcal hword (by simp; omega) (by omega)) rfl ?_
      rintro _ _ ⟨rfl, A28, c28, hLL⟩
      obtain rfl := hLL.symm
      refine vl_end [(0, _), (4, _), (5, _), (11, _), (12, _)] ⟨rfl, rfl, rfl, rfl, rfl, trivial⟩ ?_
      refine in_normal ?_
      refine then_next ?_
      refine vc_region ?_
      refine vl_det (det_add rfl rfl (w_i64 (by omega) (by omega))) rfl ?_
      refine vl_det (det_move rfl) rfl ?_
      refine vl_end [(0, _), (4, _), (5, _), (11, _), (12, _)] ⟨rfl, rfl, rfl, rfl, rfl, trivial⟩ ?_
      refine in_loop_ ⟨_, by omega, k + 1, W ++ emit R, [], A, c, A28, c28, ⟨by omega, by rw [hsn, wstep_no (Classical.not_not.1 h22)]⟩, rfl, ⟨(by first | rfl | exact int_to (by omega) | exact sl_to (by omega)), (by first | rfl | exact int_to (by omega) | exact sl_to (by omega)), (by first | rfl | exact int_to (by omega) | exact sl_to (by omega)), (by first | rfl | exact int_to (by omega) | exact sl_to (by omega)), (by first | rfl | exact int_to (by omega) | exact sl_to (by omega)), trivial⟩, .cons (.cons (.cons (wk_blk (by simp) (wk_own (by simp) (by simp) (.refl _)))))⟩
  · skip
    obtain rfl : k = l.length := by omega
    rw [List.take_length] at hW
    have hwl := wst_len l
    rw [hW] at hwl
    simp only at hwl
    have hwd : wordsL l = W ++ emit R := by unfold wordsL; rw [hW]
    refine vc_exit ?_
    refine then_exit ?_
    refine loop_exit ?_
    refine in_eq ?_
    refine then_next ?_
    refine vc_region ?_
    refine vl_det (det_move rfl) rfl ?_
    refine vl_callv co70 rfl rfl (tell_d hcal hword (by simp; omega) (by omega)) rfl ?_
    rintro _ _ ⟨rfl, A31, c31, hLL⟩
    obtain rfl := hLL.symm
    refine vl_end [] trivial ?_
    refine ret_n ?_
    refine ret_wk (L' := ColP ho A31 c31 (ws ++ W.map f ++ (emit R).map f) F) (.skip (.skip (.skip (.refl _)))) ?_
    refine ret0 rfl ?_
    exact ⟨rfl, A31, c31, by rw [hwd]; simp⟩
theorem collects1 {ho : Nat} : Collects B w0 48 ho (fun t => t) := by
  intro F t ws A c ht hws
  refine fn_walk Tryz.func48 7 rfl rfl rfl [(0, .string ⟨t.toArray⟩), (1, .pointer (some ⟨ho, 0, none⟩))] ⟨⟨rfl, rfl⟩, ⟨rfl, rfl⟩, trivial⟩ ?_
  refine vc_region ?_
  refine vl_det (det_load_blk (by kernel_rfl) rfl (by repeat (first | exact .hd | apply Sel.tl)) rfl) rfl ?_
  refine vl_det (det_move rfl) rfl ?_
  refine vl_push slT22 rfl rfl rfl rfl rfl (fun _ => rfl) (by repeat (first | exact .hd | apply Sel.tl)) (by omega) (by omega) ?_
  intro _ A6 c6
  refine vl_eff0 (eff_store (by kernel_rfl) rfl rfl rfl (by repeat (first | exact .hd | apply Sel.tl)) (by simp)) ?_
  rintro _ _ rfl
  refine vl_end [] trivial ?_
  refine ret_n ?_
  have hel : ws.length + 1 = (ws ++ [t]).length := by simp
  refine ret_wk (L' := ColP ho A6 c6 (ws ++ [t]) F) (wk_blk (by rw [hel]; rfl) (wk_own hel (by simp [strs]) (.refl _))) ?_
  refine ret0 rfl ?_
  exact ⟨rfl, A6, c6, rfl⟩
theorem collects2 {ho : Nat} : Collects B w0 49 ho (fun t => 64 :: t) := by
  intro F t ws A c ht hws
  refine fn_walk Tryz.func49 8 rfl rfl rfl [(0, .string ⟨t.toArray⟩), (1, .pointer (some ⟨ho, 0, none⟩))] ⟨⟨rfl, rfl⟩, ⟨rfl, rfl⟩, trivial⟩ ?_
  refine vc_region ?_
  refine vl_det (det_load_blk (by kernel_rfl) rfl (by repeat (first | exact .hd | apply Sel.tl)) rfl) rfl ?_
  refine vl_det (det_move rfl) rfl ?_
  refine vl_det (det_s_add (s := [64]) (r := t) rfl rfl (by simp only [List.length_cons, List.length_nil]; omega)) rfl ?_
  refine vl_push slT22 rfl rfl rfl rfl rfl (fun _ => rfl) (by repeat (first | exact .hd | apply Sel.tl)) (by omega) (by omega) ?_
  intro _ A7 c7
  refine vl_eff0 (eff_store (by kernel_rfl) rfl rfl rfl (by repeat (first | exact .hd | apply Sel.tl)) (by simp)) ?_
  rintro _ _ rfl
  refine vl_end [] trivial ?_
  refine ret_n ?_
  have hel : ws.length + 1 = (ws ++ [64 :: t]).length := by simp
  refine ret_wk (L' := ColP ho A7 c7 (ws ++ [64 :: t]) F) (wk_blk (by rw [hel]; rfl) (wk_own hel (by simp [strs]) (.refl _))) ?_
  refine ret0 rfl ?_
  exact ⟨rfl, A7, c7, rfl⟩
theorem terms_d {a b : Value} (txt src : List UInt8) (h1 : txt.length ≤ 100000000000) (h2 : src.length ≤ 100000000000) :
    Does Tryz.prog B w0 23 [.agg #[a, b, .string ⟨src.toArray⟩, .string ⟨txt.toArray⟩]] F (fun r L => ∃ A c, r = .slice A (termsL txt src).length c ∧ L = .own 9 1 A (termsL txt src).length c (strs (termsL txt src)) :: F) := by
  have hrl := rawT_len txt src
  have hw1 := wordsL_len txt
  refine fn_walk Tryz.func23 16 rfl rfl rfl [(0, .agg #[a, b, .string ⟨src.toArray⟩, .string ⟨txt.toArray⟩])] ⟨⟨rfl, rfl⟩, trivial⟩ ?_
  refine vc_seq ?_
  refine vc_region ?_
  refine vl_eff (eff_box rfl rfl) rfl ?_
  rintro _ _ ⟨g1, rfl, rfl⟩
  refine vl_det (det_assign rfl) rfl ?_
  refine vl_end [(1, _)] ⟨rfl, trivial⟩ ?_
  refine then_next ?_
  refine vc_seq ?_
  refine vc_region ?_
  refine vl_eff (eff_alloc_z (zv := (.slice none 0 0)) (by kernel_rfl) rfl) rfl ?_
  rintro _ _ ⟨g3, rfl, rfl⟩
  refine vl_end [(1, _), (3, _)] ⟨rfl, rfl, trivial⟩ ?_
  refine then_next ?_
  refine vc_seq ?_
  refine vc_nil_row 9 1 none ?_
  refine vc_region ?_
  refine vl_det (det_fieldAddr_ Tryz.underlying41 rfl (by kernel_rfl) rfl rfl) rfl ?_
  refine vl_det (det_load_blk (by kernel_rfl) rfl (by repeat (first | exact .hd | apply Sel.tl)) rfl) rfl ?_
  refine vl_det (det_makeFunc rfl rfl) rfl ?_
  refine vl_call co47 rfl ((split_d co48 collects1 txt (ws := []) (by simp) (by omega)).perm ((pu1 (pu0 (pu0 (.refl _)))))) rfl ?_
  rintro _ _ ⟨rfl, A7, c7, hLL⟩
  obtain rfl := hLL.symm
  refine vl_end [(1, _), (3, _)] ⟨rfl, rfl, trivial⟩ ?_
  refine then_next ?_
  refine vc_seq ?_
  refine vc_region ?_
  refine vl_det (det_fieldAddr_ Tryz.underlying41 rfl (by kernel_rfl) rfl rfl) rfl ?_
  refine vl_det (det_load_blk (by kernel_rfl) rfl (by repeat (first | exact .hd | apply Sel.tl)) rfl) rfl ?_
  refine vl_det (det_makeFunc rfl rfl) rfl ?_
  refine vl_call co47 rfl (split_d co49 collects2 src (by simp; omega) (by omega)) rfl ?_
  rintro _ _ ⟨rfl, A11, c11, hLL⟩
  obtain rfl := hLL.symm
  have e : ([] ++ List.map (fun t => t) (wordsL txt)) ++ List.map (fun t => 64 :: t) (wordsL src) = rawT txt src := by simp [rawT]
  rw [e]
  refine vl_end [(3, _)] ⟨rfl, trivial⟩ ?_
  refine then_next ?_
  refine vc_seq ?_
  refine vc_region ?_
  refine vl_det (det_load_blk (by kernel_rfl) rfl (by repeat (first | exact .hd | apply Sel.tl)) rfl) rfl ?_
  refine vl_call co50 rfl ((sort_d (l := rawT txt src) (by omega)).perm ((pu1 (pu0 (pu0 (.refl _)))))) rfl ?_
  rintro _ _ ⟨rfl, hLL⟩
  obtain rfl := hLL.symm
  rw [show (rawT txt src).length = ((rawT txt src).mergeSort leS).length from (List.length_mergeSort _).symm]
  refine vl_end [(3, _)] ⟨rfl, trivial⟩ ?_
  refine then_next ?_
  refine vc_seq ?_
  refine vc_region ?_
  refine vl_det (det_load_blk (by kernel_rfl) rfl (by repeat (first | exact .hd | apply Sel.tl)) rfl) rfl ?_
  refine vl_call co51 rfl (compact_d (l := (rawT txt src).mergeSort leS) (by rw [List.length_mergeSort]; omega)) rfl ?_
  rintro _ _ ⟨rfl, hLL⟩
  obtain rfl := hLL.symm
  refine vl_det (det_assign rfl) rfl ?_
  refine vl_end [(2, _)] ⟨rfl, trivial⟩ ?_
  refine then_next ?_
  refine vc_ret ?_
  refine ret_wk (L' := .own 9 1 A11 (termsL txt src).length c11 (strs (termsL txt src)) :: F) (.cons (.skip (.skip (.refl _)))) ?_
  refine ret1 rfl rfl ?_
  exact ⟨A11, c11, rfl, rfl⟩
end Go.Proofs.YtpamjobiohbibaaGreat
namespace Go.Proofs.YtpamjobiohbibaaGreat
open Go.RowKit
set_option linter.unusedVariables false
variable {B : Nat} {w0 : World} {F : List Ch}
theorem wordAt_stop (T : List UInt8) (m : Nat) (hm : m ≤ 24) (hp : ∀ x ∈ T.take m, small x ≠ 0) (hs : m = T.length ∨ (∃ c, T[m]? = some c ∧ small c = 0) ∨ m = 24) : wordAt T = (T.take m).map small := by
  have e : T = T.take m ++ T.drop m := (List.take_append_drop m T).symm
  have hp' : ∀ x ∈ T.take m, (fun c : UInt8 => decide (small c ≠ 0)) x = true := fun x hx => decide_eq_true (hp x hx)
  have key : T.takeWhile (fun c => decide (small c ≠ 0)) = T.take m ++ (T.drop m).takeWhile (fun c => decide (small c ≠ 0)) := by
    conv => lhs; rw [e]
    rw [List.takeWhile_append_of_pos hp']
  unfold wordAt
  rw [key, List.map_append]
  have hml : ((T.take m).map small).length ≤ 24 := by simp; omega
  rcases hs with h | ⟨c, h, h0⟩ | h
  · have : T.drop m = [] := by rw [h]; exact List.drop_length
    rw [this, List.takeWhile_nil, List.map_nil, List.append_nil]
    exact List.take_of_length_le hml
  · have hd : T.drop m = c :: T.drop (m + 1) := by
      obtain ⟨hlt, rfl⟩ := List.getElem?_eq_some_iff.1 h
      exact List.drop_eq_getElem_cons hlt
    rw [hd, List.takeWhile_cons, if_neg (by simp [h0]), List.map_nil, List.append_nil]
    exact List.take_of_length_le hml
  · subst h
    rcases Nat.lt_or_ge T.length 24 with h | h
    · have : T.drop 24 = [] := List.drop_eq_nil_of_le (by omega)
      rw [this, List.takeWhile_nil, List.map_nil, List.append_nil]
      exact List.take_of_length_le hml
    · have hl : ((T.take 24).map small).length = 24 := by simp; omega
      rw [List.take_append_of_le_length (by omega), List.take_of_length_le (by omega)]
/-- the document's place: what was found, and whether a letter stands before -/
def RefAt (l : List UInt8) (i : Nat) (OUT : List (List UInt8)) (prev : Bool) : Prop :=
  OUT ++ refW prev (l.drop i) = refW false l ∧ (i = 0 → prev = false) ∧ (∀ c, 0 < i → l[i - 1]? = some c → prev = decide (small c ≠ 0)) ∧ OUT.length ≤ i
theorem RefAt.start (l : List UInt8) : RefAt l 0 [] false := ⟨rfl, fun _ => rfl, fun _ h => absurd h (by omega), Nat.le_refl _⟩
theorem RefAt.skip {l : List UInt8} {i : Nat} {OUT : List (List UInt8)} {prev : Bool} {c : UInt8} (h : RefAt l i OUT prev) (hc : l[i]? = some c) (hs : small c = 0 ∨ prev = true) : RefAt l (i + 1) OUT (decide (small c ≠ 0)) := by
  obtain ⟨hlt, rfl⟩ := List.getElem?_eq_some_iff.1 hc
  refine ⟨?_, fun h => by omega, fun c' _ hc' => ?_, by have := h.2.2.2; omega⟩
  · have := h.1
    rw [List.drop_eq_getElem_cons hlt, refW, if_pos hs] at this
    exact this
  · rw [Nat.add_sub_cancel, hc] at hc'
    injection hc' with hc'
    rw [hc']
theorem RefAt.put {l : List UInt8} {i : Nat} {OUT : List (List UInt8)} {prev : Bool} {c : UInt8} (h : RefAt l i OUT prev) (hc : l[i]? = some c) (hs : small c ≠ 0) (hp : prev = false) : RefAt l (i + 1) (OUT ++ [wordAt (l.drop i)]) (decide (small c ≠ 0)) := by
  obtain ⟨hlt, rfl⟩ := List.getElem?_eq_some_iff.1 hc
  refine ⟨?_, fun h => by omega, fun c' _ hc' => ?_, by have := h.2.2.2; simp; omega⟩
  · have := h.1
    rw [List.drop_eq_getElem_cons hlt, refW, if_neg (by simp [hs, hp])] at this
    rw [← this, List.append_assoc, decide_eq_true hs, List.drop_eq_getElem_cons hlt]
    rfl
  · rw [Nat.add_sub_cancel, hc] at hc'
    injection hc' with hc'
    rw [hc']
theorem RefAt.done {l : List UInt8} {OUT : List (List UInt8)} {prev : Bool} (h : RefAt l l.length OUT prev) : OUT = wordsL l := by
  have := h.1
  rw [List.drop_length] at this
  rw [words_ref, ← this]
  simp [refW]
/-- inside: the letters taken from place i on -/
def TakenAt (l : List UInt8) (i m : Nat) (R : List UInt8) : Prop := R = ((l.drop i).take m).map small ∧ ∀ x ∈ (l.drop i).take m, small x ≠ 0
theorem TakenAt.more {l : List UInt8} {i m : Nat} {R : List UInt8} {c : UInt8} (h : TakenAt l i m R) (hc : l[i + m]? = some c) (hs : small c ≠ 0) : TakenAt l i (m + 1) (R ++ [small c]) := by
  have e : (l.drop i).take (m + 1) = (l.drop i).take m ++ [c] := by
    rw [List.take_add_one, List.getElem?_drop, hc]; rfl
  refine ⟨by rw [e, List.map_append, ← h.1]; rfl, fun x hx => ?_⟩
  rw [e] at hx
  rcases List.mem_append.1 hx with hx | hx
  · exact h.2 x hx
  · simp at hx; subst hx; exact hs
theorem TakenAt.len {l : List UInt8} {i m : Nat} {R : List UInt8} (h : TakenAt l i m R) (hm : i + m ≤ l.length) : R.length = m := by
  rw [h.1]; simp; omega
theorem TakenAt.stop {l : List UInt8} {i m : Nat} {R : List UInt8} (h : TakenAt l i m R) (hm : m ≤ 24) (hi : i + m ≤ l.length) (hs : i + m = l.length ∨ (∃ c, l[i + m]? = some c ∧ small c = 0) ∨ m = 24) : R = wordAt (l.drop i) := by
  rw [h.1, wordAt_stop _ m hm h.2]
  rcases hs with h | ⟨c, h1, h2⟩ | h
  · left; simp; omega
  · right; left; exact ⟨c, by rw [List.getElem?_drop]; exact h1, h2⟩
  · right; right; exact h

theorem RefAt.test {l : List UInt8} {k : Nat} {OUT : List (List UInt8)} {prev : Bool} (h : RefAt l k OUT prev) (hk : k ≤ l.length) : prev = decide (0 < k ∧ small (l.getD (k - 1) 0) ≠ 0) := by
  rcases Nat.eq_zero_or_pos k with h0 | h0
  · rw [h.2.1 h0, decide_eq_false (by omega)]
  · have hlt : k - 1 < l.length := by omega
    rw [h.2.2.1 (l.getD (k - 1) 0) h0 (by rw [List.getElem?_eq_getElem hlt]; simp [List.getD, List.getElem?_eq_getElem hlt])]
    simp [h0]
end Go.Proofs.YtpamjobiohbibaaGreat
namespace Go.Proofs.YtpamjobiohbibaaGreat
set_option linter.unusedVariables false
/-- a word of a text -/
theorem small_small : ∀ c : UInt8, small (small c) = small c := by
  have : ∀ x : Fin 256, small (small (UInt8.ofNat x.val)) = small (UInt8.ofNat x.val) := by decide +kernel
  intro c
  have := this ⟨c.toNat, c.toNat_lt⟩
  simpa using this
def RowOk (t : List UInt8) : Prop := ∀ c ∈ t, small c ≠ 0 ∧ small c = c
def WordOk (t : List UInt8) : Prop := 1 ≤ t.length ∧ t.length ≤ 24 ∧ RowOk t
theorem emit_ok {row : List UInt8} (h : RowOk row) : ∀ t ∈ emit row, WordOk t := by
  intro t ht
  unfold emit at ht
  split at ht
  · cases ht
  · rename_i hne
    simp at ht; subst ht
    have := List.length_pos_iff.2 hne
    exact ⟨by simp; omega, by simp; omega, fun c hc => h c (List.mem_of_mem_take hc)⟩
theorem wst_ok : ∀ (l : List UInt8) (ws : List (List UInt8)) (row : List UInt8), (∀ t ∈ ws, WordOk t) → RowOk row → (∀ t ∈ (l.foldl wstep (ws, row)).1, WordOk t) ∧ RowOk (l.foldl wstep (ws, row)).2
  | [], ws, row, h1, h2 => ⟨h1, h2⟩
  | c :: r, ws, row, h1, h2 => by
    rw [List.foldl_cons]
    by_cases hc : small c = 0
    case neg =>
      rw [wstep_yes hc]
      refine wst_ok r ws _ h1 fun x hx => ?_
      rcases List.mem_append.1 hx with hx | hx
      · exact h2 x hx
      · simp only [List.mem_singleton] at hx
        subst hx
        rw [small_small]; exact ⟨hc, rfl⟩
    case pos =>
      rw [wstep_no hc]
      refine wst_ok r _ [] (fun t ht => ?_) (fun x hx => by cases hx)
      rcases List.mem_append.1 ht with ht | ht
      · exact h1 t ht
      · exact emit_ok h2 t ht
theorem word_ok {l t : List UInt8} (h : t ∈ wordsL l) : WordOk t := by
  have := wst_ok l [] [] (by simp) (fun x hx => by cases hx)
  rcases List.mem_append.1 h with h | h
  · exact this.1 t h
  · exact emit_ok this.2 t h
end Go.Proofs.YtpamjobiohbibaaGreat
namespace Go.Proofs.YtpamjobiohbibaaGreat
open Go.RowKit
set_option linter.unusedVariables false
set_option maxRecDepth 20000
variable {B : Nat} {w0 : World} {F : List Ch} {A A1 A2 : Option Addr} {n c c1 c2 g : Nat}
end Go.Proofs.YtpamjobiohbibaaGreat
namespace Go.Proofs.YtpamjobiohbibaaGreat
open Go.RowKit Go.ChangeShapes Go.WideShapes Go.ChangeAt

/-- whatever reads at type t is 'F x' for some x that is fine -/
def DecT (P : Program) (w : World) (t : TypeId) {α : Type} (F : α → List Value) (Ok : α → Prop) : Prop :=
  ∀ (H : Type) (enc : TypeId × Value → H) (n : Nat) (cs : List Value) (y : DataW H × List MemPlace),
    DataW.trod enc P w 0 (fun _ => true) true n t cs = some y → ∃ x, cs = F x ∧ Ok x

section
variable {P : Program} {w : World} {t : TypeId}
theorem dec_u8 (ht : P.underlying t = some (.int .u8)) : DecT P w t (fun b : UInt8 => [.int .u8 (b.toNat : Int)]) (fun _ => True) := by
  intro H enc n cs y h
  obtain ⟨m, rfl, _, hw⟩ := DataW.trod_int ht h
  have hb := bounds_u8 hw
  refine ⟨UInt8.ofNat m.toNat, ?_, trivial⟩
  have e : (UInt8.ofNat m.toNat).toNat = m.toNat := by simp; omega
  dsimp only; rw [e, Int.toNat_of_nonneg hb.1]
theorem dec_int (ht : P.underlying t = some (.int .i64)) : DecT P w t (fun x : Int => [.int .i64 x]) (fun x => -9223372036854775808 ≤ x ∧ x ≤ 9223372036854775807) := by
  intro H enc n cs y h
  obtain ⟨m, rfl, _, hw⟩ := DataW.trod_int ht h
  exact ⟨m, rfl, bounds_i64 hw⟩
theorem dec_string (ht : P.underlying t = some .string) : DecT P w t (fun s : ByteArray => [.string s]) (fun s => s.size ≤ maxLen) := by
  intro H enc n cs y h
  obtain ⟨s, rfl, _, hs⟩ := DataW.trod_string ht h
  exact ⟨s, rfl, hs⟩
theorem flatMap_get {α : Type} {F : α → List Value} {size : Nat} (hF : ∀ x, (F x).length = size) : ∀ (L : List α) (i j : Nat), j < size → (L.flatMap F)[i * size + j]? = (L[i]?).bind fun x => (F x)[j]? := by
  intro L
  induction L with
  | nil => intro i j _; simp
  | cons x L ih =>
    intro i j hj
    rw [List.flatMap_cons]
    rcases i with _ | i
    · rw [List.getElem?_append_left (by rw [hF]; omega)]; simp
    · rw [List.getElem?_append_right (by rw [hF, Nat.succ_mul]; omega), hF, show (i + 1) * size + j - size = i * size + j by rw [Nat.succ_mul]; omega, ih i j hj]
      simp
/-- a slice whose elements are opened by 'he' -/
theorem dec_slice {e : TypeId} {α : Type} {F : α → List Value} {Ok : α → Prop} {size : Nat} (ht : P.underlying t = some (.slice e)) (hc : P.cellsOf e = size) (hs : 0 < size) (hF : ∀ x, (F x).length = size) (he : DecT P w e F Ok) :
    DecT P w t (fun x : Value × List α => [x.1]) (fun x => Rd w w.heap.size size x.1 x.2.length (x.2.flatMap F) ∧ (∀ y ∈ x.2, Ok y) ∧ x.2.length ≤ maxLen) := by
  intro H enc n cs y h
  rcases Deep.open_slice ht h with ⟨rfl, _⟩ | ⟨a, len, cap, m, n', D, Pl, rfl, _, hl, hm, hmm, _, hel⟩
  · exact ⟨(.slice none 0 0, []), rfl, Rd.nil_, by simp, by simp⟩
  · simp only [if_true] at hmm
    have hex : ∀ i, i < len → ∃ x, w.cells? 0 (a.add (i * P.cellsOf e)) (P.cellsOf e) = some (F x) ∧ Ok x := by
      intro i hi
      obtain ⟨cs', h1, h2⟩ := hel i (by omega)
      obtain ⟨x, rfl, ho⟩ := he H enc _ _ _ h2
      exact ⟨x, h1, ho⟩
    have hlist : ∀ k, k ≤ len → ∃ L : List α, L.length = k ∧ ∀ i x, L[i]? = some x → w.cells? 0 (a.add (i * P.cellsOf e)) (P.cellsOf e) = some (F x) ∧ Ok x := by
      intro k
      induction k with
      | zero => intro _; exact ⟨[], rfl, by simp⟩
      | succ k ih =>
        intro hk
        obtain ⟨L, hL, hLi⟩ := ih (by omega)
        obtain ⟨x, hx⟩ := hex k (by omega)
        refine ⟨L ++ [x], by simp [hL], fun i z hz => ?_⟩
        rw [List.getElem?_append] at hz
        split at hz
        · exact hLi i z hz
        · rename_i hlt
          have : i = k := by
            have := (List.getElem?_eq_some_iff.1 hz).1
            simp at this; omega
          subst this
          simp [hL] at hz; subst hz; exact hx
    obtain ⟨L, hL, hLi⟩ := hlist len (Nat.le_refl _)
    refine ⟨(.slice (some a) len cap, L), rfl, ⟨some a, cap, by rw [hL], by rw [hL]; exact hl, ?_, fun hn => ⟨a, rfl, ?_, ?_⟩⟩, ?_, by show L.length ≤ maxLen; omega⟩
    · show (L.flatMap F).length = L.length * size
      clear hL hLi
      induction L with
      | nil => simp
      | cons x L ih => simp [ih, hF, Nat.succ_mul, Nat.add_comm]
    · obtain ⟨x, hx⟩ : ∃ x, L[0]? = some x := by
        rcases L with _ | ⟨x, L⟩
        · simp at hn
        · exact ⟨x, rfl⟩
      have := (hLi 0 x hx).1
      rw [hc] at this
      have := (World.cells?_some this).2.2 0 hs
      simp [Addr.add] at this
      rcases Nat.lt_or_ge a.block w.heap.size with hlt | hge
      · exact hlt
      · rw [World.cell?, Array.getElem?_eq_none hge] at this
        have h0 := hF x
        have : (F x)[0]? = none := by simpa using this.symm
        have := List.getElem?_eq_none_iff.1 this
        omega
    · intro j u hu
      have hj : j = j / size * size + j % size := by have := Nat.div_add_mod j size; rw [Nat.mul_comm] at this; omega
      rw [hj, flatMap_get hF L _ _ (Nat.mod_lt _ hs)] at hu
      obtain ⟨x, hx, hu⟩ := Option.bind_eq_some_iff.1 hu
      have hcx := (hLi _ x hx).1
      rw [hc] at hcx
      have := (World.cells?_some hcx).2.2 (j % size) (Nat.mod_lt _ hs)
      rw [add_of_add, ← hj] at this
      rw [this, hu]
    · intro y hy
      obtain ⟨i, hi⟩ := List.getElem?_of_mem hy
      exact (hLi i y hi).2
theorem flatMap_bv (l : List UInt8) : l.flatMap (fun b : UInt8 => [Value.int .u8 (b.toNat : Int)]) = bv l := by
  induction l with
  | nil => rfl
  | cons x l ih => simp [bv] at ih ⊢; exact ih
end

section
variable {P : Program} {w : World} {t : TypeId}
/-- an argument that is opened -/
theorem DecT.arg {α : Type} {F : α → List Value} {Ok : α → Prop} (hd : DecT P w t F Ok) {H : Type} {enc : TypeId × Value → H} {v : Value} {d : DataW H} {ps : List MemPlace}
    (h : DataW.Trod enc P w 0 (fun _ => true) true t v d ps) : ∃ x, v.cells.toList = F x ∧ Ok x := by
  obtain ⟨n, h⟩ := h
  exact hd H enc n _ _ h
theorem cells_slice {v : Value} {x : Value} (a : Option Addr) (n c : Nat) (hv : v = .slice a n c) (h : v.cells.toList = [x]) : x = v := by
  subst hv; simp [Value.cells] at h; exact h.symm
end

section
variable {P : Program} {w : World} {t : TypeId}
end
end Go.Proofs.YtpamjobiohbibaaGreat
namespace Go.Proofs.YtpamjobiohbibaaGreat
open Go.RowKit
set_option linter.unusedVariables false
/-- a record: its time, its level, its source, its text -/
abbrev RecC := Nat × UInt8 × List UInt8 × List UInt8
def RecC.cells (x : RecC) : List Value := [.int .u64 x.1, .int .u8 (x.2.1.toNat : Int), .string ⟨x.2.2.1.toArray⟩, .string ⟨x.2.2.2.toArray⟩]
def RecC.ok (x : RecC) : Prop := x.1 < 18446744073709551616 ∧ True ∧ x.2.2.1.length ≤ maxLen ∧ x.2.2.2.length ≤ maxLen
theorem dec_strL {P : Program} {w : World} {t : TypeId} (ht : P.underlying t = some .string) : DecT P w t (fun s : List UInt8 => [.string ⟨s.toArray⟩]) (fun s => s.length ≤ maxLen) := by
  intro H enc n cs y h
  obtain ⟨s, h1, h2⟩ := dec_string ht H enc n cs y h
  refine ⟨s.data.toList, ?_, ?_⟩
  · rw [h1]
  · have e : s.data.toList.length = s.size := by rw [Array.length_toList]; rfl
    show s.data.toList.length ≤ maxLen
    rw [e]; exact h2
def recs (L : List RecC) : List Value := L.flatMap RecC.cells
def recAt (L : List RecC) (k : Nat) : RecC := L.getD k (0, 0, [], [])
theorem rec_get {L : List RecC} {k : Nat} (hk : k < L.length) {j : Nat} (hj : j < 4) : (recs L)[k * 4 + j]? = (RecC.cells (recAt L k))[j]? := by
  rw [recs, flatMap_get (size := 4) (fun _ => rfl) L k j hj, recAt, List.getD_eq_getElem?_getD, List.getElem?_eq_getElem hk]
  rfl
end Go.Proofs.YtpamjobiohbibaaGreat
namespace Go.Proofs.YtpamjobiohbibaaGreat
open Go.RowKit
set_option linter.unusedVariables false
variable {B : Nat} {w0 : World} {F : List Ch} {A : Option Addr} {c : Nat}
def RecC.w (x : RecC) : Nat := 16 + x.2.2.1.length + x.2.2.2.length
def wsum (L : List RecC) : Nat := (L.map RecC.w).sum
theorem wsum_snoc (L : List RecC) (x : RecC) : wsum (L ++ [x]) = wsum L + x.w := by simp [wsum]
theorem wsum_take {L : List RecC} {k : Nat} (h : k < L.length) : wsum (L.take (k + 1)) = wsum (L.take k) + (recAt L k).w := by
  rw [take_getD h (0, 0, [], []), wsum_snoc]; rfl
theorem wsum_le (L : List RecC) (k : Nat) : wsum (L.take k) ≤ wsum L := by
  have h : wsum L = wsum (L.take k) + wsum (L.drop k) := by
    rw [wsum, wsum, wsum, ← List.sum_append, ← List.map_append, List.take_append_drop]
  omega
theorem rec_cells {L : List RecC} {k : Nat} (hk : k < L.length) : ∀ (q : Nat) (u : Value), (RecC.cells (recAt L k))[q]? = some u → (recs L)[k * 4 + q]? = some u := fun q u h => by
  have hq : q < 4 := by
    have := (List.getElem?_eq_some_iff.1 h).1
    simpa [RecC.cells] using this
  rw [rec_get hk hq]; exact h
end Go.Proofs.YtpamjobiohbibaaGreat
namespace Go.Proofs.YtpamjobiohbibaaGreat
open Go.RowKit
set_option linter.unusedVariables false
set_option maxRecDepth 20000
/-! ### What is carried out plainly is carried out so in a round -/
abbrev FR (l : Nat) : Fence := Fence.wide.inRound l
def NoDef (o : Oper) : Prop := ∀ c, o.op ≠ .defer c
def noDefB (o : Oper) : Bool := match o.op with | .defer _ => false | _ => true
theorem noDef_of {o : Oper} (h : noDefB o = true) : NoDef o := fun c e => by unfold noDefB at h; rw [e] at h; cases h
theorem noDef_all {l : List Oper} (h : l.all noDefB = true) : ∀ o ∈ l, NoDef o := fun o ho => noDef_of (List.all_eq_true.1 h o ho)
section
variable {P : Program} {l n : Nat} {Q : Exit → Act → World → Prop}
theorem rows_in {row : String} {args : Array Value} {w : World} {R : Value → World → Prop} (h : Rows P row args w R) : RowsIn (FR l) n P row args w R := fun c cs _ =>
  let ⟨v, w', r, s⟩ := h c cs
  ⟨v, w', r, (show StepsIn (Machine.fenced P Fence.wide) P _ _ from stepsIn_wide.2 s)⟩
theorem oper_in {o : Oper} {a : Act} {w : World} {K : Act → World → Prop} (hd : NoDef o) (h : o.wp P a w K Q) : o.wpIn (FR l) n P a w K Q := by
  refine ⟨fun _ _ => trivial, ?_⟩
  rw [Oper.semAt_eq _ _ _ hd]
  unfold Oper.wp at h
  generalize (execOp a.eval o).run P w = r at *
  cases r with
  | ok x w' =>
    cases x <;> simp only [Oper.upon, Oper.uponIn] at h ⊢ <;> first
      | exact h
      | exact ⟨fun h => by simp [Fence.inRound, Fence.wide] at h, CallsIn.inRound l (callsIn_wide.2 (Calls.mono h fun e w'' he => by cases e <;> exact he))⟩
      | exact ⟨fun h => by simp [Fence.inRound, Fence.wide] at h, rows_in h⟩
  | halt x w' => cases x <;> simp only [Oper.upon, Oper.uponIn] at h ⊢ <;> exact h
theorem list_in (hQ : ¬ LetsOut Q) {ops : Array Oper} : ∀ (lst : List Oper) (a : Act) (w : World), (∀ o ∈ lst, NoDef o) → wpList P ops Q lst a w → wpListIn (FR l) n P ops Q lst a w
  | [], _, _, _, h => h
  | o :: r, a, w, hd, h => by
    unfold wpList at h
    unfold wpListIn
    split at h
    · rename_i hw
      rw [if_pos hw]
      rcases h with h | h
      · exact Oper.wpIn_mono (fun a w h => list_in hQ r a w (fun o ho => hd o (List.mem_cons_of_mem _ ho)) h) (oper_in (hd o List.mem_cons_self) h)
      · exact absurd h.2 hQ
    · rename_i hw
      rw [if_neg hw]
      exact ⟨fun _ _ => trivial, list_in hQ r _ w (fun o ho => hd o (List.mem_cons_of_mem _ ho)) h⟩
theorem any_in (hQ : ¬ LetsOut Q) {ops : Array Oper} {md : Region.Mode} (hd : ∀ o ∈ ops, NoDef o) : ∀ (fuel : Nat) (li : Array Bool) (a : Act) (w : World), wpAny P md ops Q fuel li a w → wpAnyIn (FR l) n P md ops Q fuel li a w
  | 0, _, _, _, h => h
  | fuel + 1, li, a, w, h => by
    refine ⟨h.1, fun i hi => ?_⟩
    have h := h.2 i hi
    unfold wpOp at h
    unfold wpOpIn
    cases ho : ops[i]? with
    | none =>
      simp only [ho] at h ⊢
      exact any_in hQ hd fuel _ a w h
    | some o =>
      simp only [ho] at h ⊢
      have hdo : NoDef o := hd o (Array.mem_of_getElem? ho)
      by_cases hw : Region.wanted o (yielded ops a.tmps) = true
      · rw [if_pos hw] at h ⊢
        rcases h with h | h
        · exact Oper.wpIn_mono (fun a w h => any_in hQ hd fuel _ a w h) (oper_in hdo h)
        · exact absurd h.2 hQ
      · rw [if_neg hw] at h ⊢
        exact ⟨fun _ _ => trivial, any_in hQ hd fuel _ _ w h⟩
end
/-! ### A round's body -/
def NX (C : Cx) (Q : Fr → List Ch → Prop) : Exit → Act → World → Prop
  | .normal, a, w => ∃ fr L, Agr C.N fr a ∧ SL C.B C.w0 L w ∧ Q fr L
  | _, _, _ => False
def NQ (Q : Fr → List Ch → Prop) : Exit → Fr → List Ch → Prop
  | .normal, fr, L => Q fr L
  | _, _, _ => False
def VR (C : Cx) (l n : Nat) (c : Code) (Q : Fr → List Ch → Prop) (fr : Fr) (L : List Ch) : Prop := ∀ a w, Agr C.N fr a → SL C.B C.w0 L w → c.wpIn (FR l) n C.P (NX C Q) a w
section
variable {C : Cx} {l n : Nat} {Q : Fr → List Ch → Prop} {fr : Fr} {L S : List Ch} {x y : Code}
theorem lift_nq : ∀ (e : Exit) (a : Act) (w : World), lift C (NQ Q) e a w → NX C Q e a w := fun e a w ⟨fr, L, ha, hs, hq⟩ => by
  cases e <;> first | exact ⟨fr, L, ha, hs, hq⟩ | exact hq.elim
theorem not_out : ¬ LetsOut (lift C (NQ Q)) := fun ⟨_, _, _, _, _, _, h⟩ => h
theorem not_outP : ¬ LetsOut (NoPanic (lift C (NQ Q))) := fun ⟨_, _, _, _, _, _, h⟩ => h
theorem vr_seq (h : VR C l n x (fun fr L => VR C l n y Q fr L) fr L) : VR C l n (.seq x y) Q fr L := fun a w ha hs =>
  wpIn_seq (wpIn_mono (h a w ha hs) fun e a w hq => by
    cases e <;> first | exact hq.elim | (obtain ⟨fr, L, ha, hs, hq⟩ := hq; exact hq a w ha hs))
theorem vr_block {id : Nat} (h : VR C l n x Q fr L) : VR C l n (.block id x) Q fr L := fun a w ha hs =>
  wpIn_block (wpIn_mono (h a w ha hs) fun e a w hq => by
    cases e <;> first | exact hq.elim | exact hq)
theorem vr_region {id : Nat} {lst : List Oper} (hd : lst.all noDefB = true) (h : VL C lst.toArray (NQ Q) lst fr L) : VR C l n (.region id lst.toArray false) Q fr L := fun a w ha hs =>
  wpIn_mono (wpIn_region_lit (list_in not_out lst a w (noDef_all hd) (h a w ha hs))) lift_nq
theorem vr_held {id : Nat} {lst : List Oper} (hd : lst.all noDefB = true) (hm : C.P.follows .mixedOrders = true) (hS : S.Sublist L) (h : VH C lst.toArray S (NQ Q) lst.toArray.size (Array.replicate lst.toArray.size false) fr L) : VR C l n (.region id lst.toArray true) Q fr L := fun a w ha hs =>
  wpIn_mono (wpIn_region_any hm (any_in not_outP (fun o ho => noDef_all hd o (by simpa using ho)) _ _ a _ (wpAny_of_held _ _ _ _ (h a _ ha (hs.drewN 1) ((hs.drewN 1).sub hS))))) fun e a w h => lift_nq e a w (NoPanic.imp e a w h)
theorem nq (h : Q fr L) : NQ Q .normal fr L := h
end
/-! ### Acts with marks -/
def mark (D : Nat) : Deferred := { target := .collected D, args := #[] }
theorem put_defers (a : Act) (ds : List Deferred) (d : Option Tmp) (v : Value) : ({ a with defers := a.defers ++ ds } : Act).put d v = { a.put d v with defers := (a.put d v).defers ++ ds } := by cases d <;> rfl
theorem list_marks {P : Program} {ops : Array Oper} {Q : Exit → Act → World → Prop} (ds : List Deferred) : ∀ (lst : List Oper) (a : Act) (w : World), wpList P ops Q lst a w →
    wpList P ops (fun e a' w' => ∃ a0 : Act, a' = { a0 with defers := a0.defers ++ ds } ∧ Q e a0 w') lst { a with defers := a.defers ++ ds } w
  | [], a, w, h => ⟨a, rfl, h⟩
  | o :: r, a, w, h => by
    unfold wpList at h ⊢
    by_cases hw : Region.wanted o (yielded ops a.tmps) = true
    · rw [if_pos hw] at h
      rw [if_pos (show Region.wanted o (yielded ops ({ a with defers := a.defers ++ ds } : Act).tmps) = true from hw)]
      rcases h with h | ⟨h1, a1, w1, h2⟩
      · refine .inl ?_
        have he : ({ a with defers := a.defers ++ ds } : Act).eval = a.eval := rfl
        unfold Oper.wp at h ⊢
        rw [he]
        generalize (execOp a.eval o).run P w = res at *
        cases res with
        | ok x w' =>
          cases x <;> simp only [Oper.upon] at h ⊢ <;> first
            | (rw [put_defers]; exact list_marks ds r _ _ h)
            | (refine Calls.mono h fun e w'' he => ?_
               cases e <;> dsimp only at he ⊢ <;> first
                | (rw [put_defers]; exact list_marks ds r _ _ he)
                | exact ⟨_, rfl, he⟩
                | (obtain ⟨a1, w1, h2⟩ := he; exact ⟨_, w1, a1, rfl, h2⟩))
            | exact Rows.mono h fun v w'' he => by rw [put_defers]; exact list_marks ds r _ _ he
            | (have h2 := list_marks ds r _ _ h; rw [← put_defers] at h2; exact h2)
        | halt x w' => cases x <;> simp only [Oper.upon] at h ⊢ <;> first | exact ⟨_, rfl, h⟩ | exact h
      · exact .inr ⟨h1, _, w1, a1, rfl, h2⟩
    · rw [if_neg hw] at h
      rw [if_neg (show ¬ Region.wanted o (yielded ops ({ a with defers := a.defers ++ ds } : Act).tmps) = true from hw), put_defers]
      exact list_marks ds r _ _ h
def VM (C : Cx) (D : Nat) (c : Code) (QQ : Exit → Act → World → Prop) (fr : Fr) (L : List Ch) : Prop := ∀ a w, a.defers = [mark D] → Agr C.N fr { a with defers := [] } → SL C.B C.w0 L w → c.wp C.P QQ a w
section
variable {C : Cx} {D : Nat} {QQ : Exit → Act → World → Prop} {fr : Fr} {L L' : List Ch} {x y : Code}
theorem vm_seq {id : Nat} {lst : List Oper} (h : VL C lst.toArray (NQ fun fr L => VM C D y QQ fr L) lst fr L) : VM C D (.seq (.region id lst.toArray false) y) QQ fr L := fun a w hd ha hs => by
  have h1 := list_marks [mark D] lst _ w (h { a with defers := [] } w ha hs)
  rw [show ({ ({ a with defers := [] } : Act) with defers := ({ a with defers := [] } : Act).defers ++ [mark D] } : Act) = a by rw [← hd]; rfl] at h1
  refine wp_seq (wp_mono (wp_region_lit h1) fun e a' w' hq => ?_)
  obtain ⟨a0, rfl, fr', L', ha', hs', hq⟩ := hq
  cases e <;> first
    | exact hq.elim
    | (refine hq _ w' (by simp [ha'.defers]) ?_ hs'
       have e0 : ({ ({ a0 with defers := a0.defers ++ [mark D] } : Act) with defers := [] } : Act) = a0 := by rw [← ha'.defers]
       rw [e0]; exact ha')
/-! ### A function with a range over a function -/
def FG (C : Cx) (fn : Func) (R : Value → List Ch → Prop) : Exit → Act → World → Prop := bodyPostM Fence.wide 8 C.P fn fun e w' => ∃ v L', e = .returned v ∧ R v L' ∧ SL C.B C.w0 L' w'
def VG (C : Cx) (c : Code) (QQ : Exit → Act → World → Prop) (fr : Fr) (L : List Ch) : Prop := ∀ a w, Agr C.N fr a → SL C.B C.w0 L w → c.wp C.P QQ a w
def TG (C : Cx) (y : Code) (QQ : Exit → Act → World → Prop) : Exit → Fr → List Ch → Prop
  | .normal, fr, L => VG C y QQ fr L
  | e, fr, L => ∀ a w, Agr C.N fr a → SL C.B C.w0 L w → QQ e a w
theorem vg_seq (h : VC C x (TG C y QQ) fr L) : VG C (.seq x y) QQ fr L := fun a w ha hs =>
  wp_seq (wp_mono (h a w ha hs) fun e a w ⟨fr, L, ha, hs, hq⟩ => by
    cases e <;> exact hq a w ha hs)
theorem tg_next (h : VG C y QQ fr L) : TG C y QQ .normal fr L := h
theorem tg_ret {fn : Func} {R : Value → List Ch → Prop} {P : Program} {B N : Nat} {w0 : World} {y : Code} (hN : fn.ntmps = N) (h : Ret P fn R .ret fr L) : TG ⟨P, N, B, w0⟩ y (FG ⟨P, N, B, w0⟩ fn R) .ret fr L := fun a w ha hs => by
  subst hN
  obtain ⟨v, L', h1, h2, h3⟩ := h B w0 a w ha hs
  show LeavesInM _ _ _ _ _ _ a.defers _ _
  rw [ha.defers]
  exact ⟨v, h1, v, L', rfl, h2, h3⟩
theorem SL.unmark {B : Nat} {w0 w : World} (h : SL B w0 (.obj D (.deferred (some [])) :: L) w) : SL B w0 L (w.putObj D (.deferred none)) :=
  (h.turn (c' := .obj D (.deferred none)) (grownBy_putObj' w D _) ⟨h.head.1, World.putObj_heap_same (Array.getElem?_eq_some_iff.1 h.head.2).1⟩ (.inr (.inl rfl))).tail
theorem vm_ret {fn : Func} {R : Value → List Ch → Prop} {P : Program} {B N : Nat} {w0 : World} (hN : fn.ntmps = N) (hp : L.Perm (.obj D (.deferred (some [])) :: L')) (h : Ret P fn R .ret fr L') : VM ⟨P, N, B, w0⟩ D .ret (FG ⟨P, N, B, w0⟩ fn R) fr L := fun a w hd ha hs => by
  subst hN
  have hs' := hs.perm hp
  obtain ⟨v, L'', h1, h2, h3⟩ := h B w0 _ _ ha hs'.unmark
  refine wp_ret ?_
  show LeavesInM _ _ _ _ _ _ a.defers _ _
  rw [hd]
  exact ⟨by simp, .inl ⟨D, _, rfl, run_takeDeferred hs'.head.2, v, h1, v, L'', rfl, h2, h3⟩⟩
theorem fn_marks {P : Program} {B : Nat} {w0 : World} {f : FuncId} {fn : Func} {c : Code} {args : List Value} {R : Value → List Ch → Prop} (hf : P.funcs[f]? = some fn) (N : Nat) (hN : fn.ntmps = N) (hb : fn.body = some c) (hl : Nat.ble args.length N = true) (fr0 : Fr) (hi : Ini N args fr0)
    (h : VG ⟨P, N, B, w0⟩ c (FG ⟨P, N, B, w0⟩ fn R) fr0 L) : Does P B w0 f args L R := fun w hw => by
  have hl := Nat.le_of_ble_eq_true hl
  subst hN
  refine callsIn_wide.1 (callsIn_of_wp_marks (n := 8) hf hb trivial (wpIn_wide.2 (h _ w ⟨rfl, ?_, fun t v ht => ?_⟩ hw)) rfl)
  · simp; omega
  · obtain ⟨h1, h2⟩ := hi.look t v ht
    simp only [List.size_toArray]
    by_cases hlt : t < args.length
    · rw [Array.getElem?_append_left (by simpa using hlt)]
      simp [hlt] at h2
      simp [hlt, h2]
    · rw [Array.getElem?_append_right (by simpa using hlt)]
      have h3 : args[t]? = none := List.getElem?_eq_none (by omega)
      simp [h3] at h2
      subst h2
      simp
      rw [Array.getElem?_replicate, if_pos (by omega)]
end
end Go.Proofs.YtpamjobiohbibaaGreat
namespace Go.Proofs.YtpamjobiohbibaaGreat
open Go.RowKit
set_option linter.unusedVariables false
set_option maxRecDepth 20000
variable {B : Nat} {w0 : World} {F : List Ch} {A A1 A2 : Option Addr} {n c c1 c2 g : Nat}
/-- the numbers below n at which a text is among the texts -/
def lsF (f : Nat → List Txt) (n : Nat) (s : Txt) : List Nat := (List.range n).filter fun q => decide (s ∈ f q)
theorem lsF_succ (f : Nat → List Txt) (n : Nat) (s : Txt) : lsF f (n + 1) s = lsF f n s ++ (if s ∈ f n then [n] else []) := by
  unfold lsF
  rw [List.range_succ, List.filter_append]
  congr 1
  by_cases h : s ∈ f n <;> simp [h]
theorem lsF_ne {f : Nat → List Txt} {n : Nat} {s : Txt} : lsF f n s ≠ [] ↔ ∃ q, q < n ∧ s ∈ f q := by
  unfold lsF
  rw [Ne, List.filter_eq_nil_iff]
  simp only [List.mem_range, decide_eq_true_eq]
  constructor
  · intro h
    refine Classical.byContradiction fun h2 => h fun q hq hs => h2 ⟨q, hq, hs⟩
  · rintro ⟨q, h1, h2⟩ h3
    exact h3 q h1 h2
def bldT (f : Nat → List Txt) (n : Nat) : List Txt := setT ((List.range n).flatMap f)
def bldL (f : Nat → List Txt) (n : Nat) : List (List Nat) := (bldT f n).map (lsF f n)
/-- the map so far -/
structure GInv (f : Nat → List Txt) (i : Nat) (part : List Txt) (D : List Grp) : Prop where
  ids : ∀ s, gsT s D = lsF f i s ++ (if s ∈ part then [i] else [])
  keys : ∀ s, s ∈ D.map (·.1) ↔ gsT s D ≠ []
  nd : (D.map (·.1)).Nodup
theorem GInv.start (f : Nat → List Txt) : GInv f 0 [] [] := ⟨fun s => by simp [gsT, lsF], fun s => by simp [gsT], by simp⟩
theorem GInv.step {f : Nat → List Txt} {i j : Nat} {T : List Txt} {D : List Grp} (h : GInv f i (T.take j) D) (hn : T.Nodup) (hj : j < T.length) (A : Option Addr) (c : Nat) : GInv f i (T.take (j + 1)) (upG (T.getD j []) A c i D) := by
  have hg : T.getD j [] = T[j] := by simp [List.getD, List.getElem?_eq_getElem hj]
  have htk : T.take (j + 1) = T.take j ++ [T[j]] := by rw [List.take_add_one, List.getElem?_eq_getElem hj]; rfl
  have hnot : T[j] ∉ T.take j := by
    have h2 : (T.take (j + 1)).Nodup := hn.sublist (List.take_sublist _ _)
    rw [htk, List.nodup_append] at h2
    exact fun q => h2.2.2 _ q _ (by simp) rfl
  have hm : ∀ s, s ∈ T.take (j + 1) ↔ s ∈ T.take j ∨ s = T[j] := fun s => by rw [htk, List.mem_append, List.mem_singleton]
  rw [hg]
  refine ⟨fun s => ?_, fun s => ?_, nodup_up _ _ _ _ _ h.nd⟩
  · rw [gsT_up, h.ids s]
    by_cases e : s = T[j]
    · rw [if_pos e, if_neg (fun q => hnot (e ▸ q)), if_pos ((hm s).2 (.inr e)), List.append_nil]
    · rw [if_neg e]
      by_cases q : s ∈ T.take j
      · rw [if_pos q, if_pos ((hm s).2 (.inl q))]
      · rw [if_neg q, if_neg (fun k => ((hm s).1 k).elim q e)]
  · rw [keys_up, gsT_up, h.keys s]
    by_cases e : s = T[j]
    · simp [e]
    · simp [e]
theorem StT.nd {l : List Txt} (h : StT l) : l.Nodup := List.Pairwise.imp (fun {a b} (q : ltT a b) (e : a = b) => ltT_irrefl a (by rw [← e] at q; exact q)) h
theorem GInv.next {f : Nat → List Txt} {i : Nat} {D : List Grp} (h : GInv f i (f i) D) : GInv f (i + 1) [] D :=
  ⟨fun s => by rw [h.ids s, lsF_succ]; simp, h.keys, h.nd⟩
theorem GInv.done {f : Nat → List Txt} {n : Nat} {D : List Grp} (h : GInv f n [] D) : setT (D.map (·.1)) = bldT f n ∧ ∀ s, gsT s D = lsF f n s := by
  have hi : ∀ s, gsT s D = lsF f n s := fun s => by rw [h.ids s]; simp
  refine ⟨setT_uniq (setT_st _) fun x => ?_, hi⟩
  rw [bldT, setT_mem, h.keys, hi, lsF_ne, List.mem_flatMap]
  simp only [List.mem_range]
/-- a list of numbers in memory: where it lies, its room, the numbers -/
abbrev Lst := Option Addr × Nat × List Nat
abbrev lVal (e : Lst) : Value := .slice e.1 e.2.2.length e.2.1
abbrev lRow (e : Lst) : Ch := .own 3 1 e.1 e.2.2.length e.2.1 (natv e.2.2)
def geT (t : Txt) : List Grp → Lst
  | [] => (none, 0, [])
  | e :: r => if t = e.1 then e.2 else geT t r
theorem lk_get (t : Txt) : ∀ D : List Grp, ((fndM t (gVals D) 0).map (·.2)).getD (.slice none 0 0) = lVal (geT t D)
  | [] => rfl
  | e :: r => by
    show ((fndM t ((e.1, gVal e) :: gVals r) 0).map (·.2)).getD _ = _
    unfold fndM geT
    by_cases h : t = e.1
    · rw [if_pos h, if_pos h]; rfl
    · rw [if_neg h, if_neg h, fndM_succ, ← lk_get t r]
      cases fndM t (gVals r) 0 <;> rfl
theorem geT_ids (t : Txt) : ∀ D : List Grp, (geT t D).2.2 = gsT t D
  | [] => rfl
  | e :: r => by
    unfold geT gsT
    split
    · rfl
    · exact geT_ids t r
theorem rows_get : ∀ D : List Grp, (D.map (·.1)).Nodup → D.map gRow = (D.map (·.1)).map fun t => lRow (geT t D)
  | [], _ => rfl
  | e :: r, h => by
    rw [List.map_cons, List.nodup_cons] at h
    rw [List.map_cons, List.map_cons, List.map_cons]
    congr 1
    · unfold geT; rw [if_pos rfl]; rfl
    · rw [rows_get r h.2]
      apply List.map_congr_left
      intro t ht
      have hne : ¬ t = e.1 := fun q => h.1 (q ▸ ht)
      show _ = lRow (geT t (e :: r))
      rw [geT, if_neg hne]
theorem rows_perm {D : List Grp} (h : (D.map (·.1)).Nodup) : (D.map gRow).Perm (((setT (D.map (·.1))).map (geT · D)).map lRow) := by
  have hp : (D.map (·.1)).Perm (setT (D.map (·.1))) := (List.perm_ext_iff_of_nodup h (setT_st _).nd).2 fun x => (setT_mem _ x).symm
  have e : ((setT (D.map (·.1))).map (geT · D)).map lRow = (setT (D.map (·.1))).map (fun t => lRow (geT t D)) := List.map_map
  rw [rows_get D h, e]
  exact hp.map _
theorem sl_grpP {w : World} (P : List Ch) {D : List Grp} {xs : List Nat} {o : Obj} {R : List Ch} (h : (D.map gRow).Perm (.own 3 1 A xs.length c (natv xs) :: R) ∨ (A = none ∧ c = 0 ∧ xs = [] ∧ R = D.map gRow))
    (hw : SL B w0 (P ++ .obj g o :: (D.map gRow ++ F)) w) : SL B w0 (.own 3 1 A xs.length c (natv xs) :: (P ++ .obj g o :: (R ++ F))) w := by
  rcases h with h | ⟨rfl, rfl, rfl, rfl⟩
  · refine hw.perm ?_
    refine (List.Perm.append_left P ((((h.append_right F).cons (Ch.obj g o)).trans (.swap _ _ _)))).trans ?_
    exact List.perm_middle
  · exact hw.nil_row 3 1 none
theorem grp_back (P : List Ch) {D' : List Grp} {o o' : Obj} {R : List Ch} {m : Nat} {xs ys : List Value} (h : (D'.map gRow).Perm (.own 3 1 A m c ys :: R)) (hx : xs = ys) (ho : o = o') : Wk (.own 3 1 A m c xs :: (P ++ .obj g o :: (R ++ F))) (P ++ .obj g o' :: (D'.map gRow ++ F)) := by
  subst hx; subst ho
  refine .of_perm (List.Perm.symm ?_)
  refine (List.Perm.append_left P ((((h.append_right F).cons (Ch.obj g o)).trans (.swap _ _ _)))).trans ?_
  exact List.perm_middle
def trm (x : RecC) : List Txt := termsL x.2.2.2 x.2.2.1
theorem trm_25 {x : RecC} {t : Txt} (h : t ∈ trm x) : t.length ≤ 25 := by
  rcases List.mem_append.1 ((setT_mem _ _).1 h) with h | h
  · have := (word_ok h).2.1; omega
  · obtain ⟨u, hu, rfl⟩ := List.mem_map.1 h
    have := (word_ok hu).2.1; simp; omega
def tmF (L : List RecC) (i : Nat) : List Txt := trm (recAt L i)
theorem build_d {L : List RecC} (hb : Bor B w0 F 4 (.slice A L.length c) L.length (recs L)) (hw : wsum L ≤ 1000000) :
    Does Tryz.prog B w0 11 [.slice A L.length c] F (fun r K => ∃ (A1 : Option Addr) (c1 : Nat) (A2 : Option Addr) (c2 : Nat) (LL : List Lst), r = .agg [.slice A1 (bldT (tmF L) L.length).length c1, .slice A2 (bldT (tmF L) L.length).length c2].toArray ∧
      K = .own 9 1 A1 (bldT (tmF L) L.length).length c1 (strs (bldT (tmF L) L.length)) :: .own 42 1 A2 (bldT (tmF L) L.length).length c2 (LL.map lVal) :: (LL.map lRow ++ F) ∧ LL.map (·.2.2) = bldL (tmF L) L.length) := by
  have hll : L.length ≤ wsum L := by
    clear hb hw
    induction L with
    | nil => simp [wsum]
    | cons x r ih => simp only [wsum, List.map_cons, List.sum_cons, List.length_cons] at ih ⊢; unfold RecC.w at *; omega
  refine fn_walk Tryz.func11 60 rfl rfl rfl [(0, .slice A L.length c)] ⟨⟨rfl, rfl⟩, trivial⟩ ?_
  refine vc_seq ?_
  refine vc_region ?_
  refine vl_eff (eff_alloc_z (zv := (.agg #[.slice none 0 0, .slice none 0 0])) (by kernel_rfl) rfl) rfl ?_
  rintro _ _ ⟨g2, rfl, rfl⟩
  refine vl_end [(0, _), (2, _)] ⟨rfl, rfl, trivial⟩ ?_
  refine then_next ?_
  refine vc_seq ?_
  refine vc_region ?_
  refine vl_eff (eff_makeMap) rfl ?_
  rintro _ _ ⟨g11, rfl, rfl⟩
  refine vl_det (det_assign rfl) rfl ?_
  refine vl_end [(0, _), (2, _), (3, _)] ⟨rfl, rfl, rfl, trivial⟩ ?_
  refine then_next ?_
  refine vc_seq ?_
  refine vc_seq ?_
  refine vc_region ?_
  refine vl_det (det_move rfl) rfl ?_
  refine vl_det (det_len_sl Tryz.underlying58 rfl) rfl ?_
  refine vl_det (det_move rfl) rfl ?_
  refine vl_end [(2, _), (3, _), (12, _), (13, _), (14, _)] ⟨rfl, rfl, rfl, rfl, rfl, trivial⟩ ?_
  refine then_next ?_
  refine vc_block ?_
  refine vc_loopJ (fun zf zL zm => ∃ (i : Nat) (D : List Grp), (i ≤ L.length ∧ GInv (tmF L) i [] D ∧ D.length ≤ wsum (L.take i)) ∧ L.length - i = zm ∧ Sub zf [(2, .pointer (some ⟨g2, 0, none⟩)), (3, .map (some g11)), (12, .slice A L.length c), (13, .int .i64 L.length), (14, .int .i64 i)] ∧ Wk zL (.blk g2 25 [.slice none 0 0, .slice none 0 0] :: .obj g11 (mpO (gVals D)) :: (D.map gRow ++ F))) _ ⟨0, [], ⟨Nat.zero_le _, GInv.start _, by simp⟩, rfl, ⟨(by first | rfl | exact int_to (by omega) | exact sl_to (by omega)), (by first | rfl | exact int_to (by omega) | exact sl_to (by omega)), (by first | rfl | exact int_to (by omega) | exact sl_to (by omega)), (by first | rfl | exact int_to (by omega) | exact sl_to (by omega)), (by first | rfl | exact int_to (by omega) | exact sl_to (by omega)), trivial⟩, .swap (.refl _)⟩ ?_
  rintro _ _ _ ⟨i, D, ⟨hi, hG, hDl⟩, rfl, hs, hp⟩
  refine vc_weaken _ hs (vc_wk hp ?_)
  clear hs hp
  refine vc_seq ?_
  refine vc_region ?_
  refine vl_det (det_lss rfl rfl) rfl ?_
  refine vl_end [(2, _), (3, _), (12, _), (13, _), (14, _), (15, _)] ⟨rfl, rfl, rfl, rfl, rfl, rfl, trivial⟩ ?_
  refine then_next ?_
  refine vc_seq ?_
  refine vc_decideU rfl (fun h15 => ?_) (fun h15 => ?_)
  · skip
    obtain ⟨tm, lv, src, txt, hx⟩ : ∃ tm lv src txt, recAt L i = (tm, lv, src, txt) := ⟨_, _, _, _, rfl⟩
    have hb1 : Bor B w0 (D.map gRow ++ F) 4 (.slice A L.length c) L.length (recs L) := hb.mono (List.sublist_append_right _ _)
    have hrc := rec_cells (L := L) (k := i) (by omega)
    rw [hx] at hrc
    have hws := wsum_take (L := L) (k := i) (by omega)
    have hwl := wsum_le L (i + 1)
    have hrw : (recAt L i).w = 16 + src.length + txt.length := by rw [hx]; rfl
    obtain ⟨T, hT⟩ : ∃ T, T = tmF L i := ⟨_, rfl⟩
    have hTe : T = termsL txt src := by rw [hT]; unfold tmF trm; rw [hx]
    have hTl : T.length ≤ src.length + txt.length := by
      have h1 := setT_len (rawT txt src)
      have h2 := rawT_len txt src
      rw [hTe]; unfold termsL; omega
    have hTn : T.Nodup := by rw [hTe]; exact (setT_st _).nd
    have htd := fun F h1 h2 => @terms_d B w0 F (.int .u64 tm) (.int .u8 (lv.toNat : Int)) txt src h1 h2
    rw [← hTe] at htd
    refine vc_skip ?_
    refine then_next ?_
    refine vc_seq ?_
    refine vc_block ?_
    refine vc_seq ?_
    refine vc_region ?_
    refine vl_det (det_move rfl) rfl ?_
    refine vl_det (det_indexAddr (size := 4) Tryz.underlying58 (by kernel_rfl) rfl rfl rfl (by omega) (by first | (exact Bor.own (by repeat (first | exact List.Mem.head _ | apply List.Mem.tail))) | (repeat (first | assumption | apply Bor.cons)))) rfl ?_
    refine vl_det (det_load_rowa 4 (by kernel_rfl) rfl (by first | (exact Bor.own (by repeat (first | exact List.Mem.head _ | apply List.Mem.tail))) | (repeat (first | assumption | apply Bor.cons))) (by omega) [.int .u64 tm, .int .u8 (lv.toNat : Int), .string ⟨src.toArray⟩, .string ⟨txt.toArray⟩] hrc rfl) rfl ?_
    refine vl_eff (eff_alloc_z (zv := (.agg #[.int .u64 0, .int .u8 0, .string ⟨#[]⟩, .string ⟨#[]⟩])) (by kernel_rfl) rfl) rfl ?_
    rintro _ _ ⟨g5, rfl, rfl⟩
    refine vl_det (det_assign rfl) rfl ?_
    refine vl_eff0 (eff_store_whole 4 (by kernel_rfl) rfl rfl (by first | exact bv_one _ | exact strs_one _ | exact ints_one _ _ | (simp; done) | (simp [Value.oneCell']; done) | assumption) (by repeat (first | exact .hd | apply Sel.tl)) (by first | rfl | (simp; omega) | (simp [*]; done)) (by first | rfl | (simp; omega) | (simp [*]; done))) ?_
    rintro _ _ rfl
    refine vl_end [(2, _), (3, _), (4, _), (5, _), (12, _), (13, _), (14, _)] ⟨rfl, rfl, rfl, rfl, rfl, rfl, rfl, trivial⟩ ?_
    refine then_next ?_
    refine vc_seq ?_
    refine vc_region ?_
    refine vl_det (det_load_whole 4 (by kernel_rfl) rfl (by repeat (first | exact .hd | apply Sel.tl)) (by first | rfl | (simp; omega) | (simp [*]; done))) rfl ?_
    refine vl_call co23 rfl (htd _ (by omega) (by omega)) rfl ?_
    rintro _ _ ⟨A20, c20, rfl, hLL⟩
    obtain rfl := hLL.symm
    refine vl_det (det_len_sl Tryz.underlying22 rfl) rfl ?_
    refine vl_det (det_move rfl) rfl ?_
    refine vl_end [(2, _), (3, _), (4, _), (12, _), (13, _), (14, _), (20, _), (21, _), (22, _)] ⟨rfl, rfl, rfl, rfl, rfl, rfl, rfl, rfl, rfl, trivial⟩ ?_
    refine then_next ?_
    refine vc_block ?_
    refine vc_loopJ (fun zf zL zm => ∃ (j : Nat) (D2 : List Grp), (j ≤ T.length ∧ GInv (tmF L) i (T.take j) D2 ∧ D2.length ≤ wsum (L.take i) + j) ∧ T.length - j = zm ∧ Sub zf [(2, .pointer (some ⟨g2, 0, none⟩)), (3, .map (some g11)), (4, .int .i64 i), (12, .slice A L.length c), (13, .int .i64 L.length), (14, .int .i64 i), (20, .slice A20 T.length c20), (21, .int .i64 T.length), (22, .int .i64 j)] ∧ Wk zL (.own 9 1 A20 T.length c20 (strs T) :: .blk g5 41 [.int .u64 tm, .int .u8 (lv.toNat : Int), .string ⟨src.toArray⟩, .string ⟨txt.toArray⟩] :: .blk g2 25 [.slice none 0 0, .slice none 0 0] :: .obj g11 (mpO (gVals D2)) :: (D2.map gRow ++ F))) _ ⟨0, D, ⟨Nat.zero_le _, by rw [List.take_zero]; exact hG, by omega⟩, rfl, ⟨(by first | rfl | exact int_to (by omega) | exact sl_to (by omega)), (by first | rfl | exact int_to (by omega) | exact sl_to (by omega)), (by first | rfl | exact int_to (by omega) | exact sl_to (by omega)), (by first | rfl | exact int_to (by omega) | exact sl_to (by omega)), (by first | rfl | exact int_to (by omega) | exact sl_to (by omega)), (by first | rfl | exact int_to (by omega) | exact sl_to (by omega)), (by first | rfl | exact int_to (by omega) | exact sl_to (by omega)), (by first | rfl | exact int_to (by omega) | exact sl_to (by omega)), (by first | rfl | exact int_to (by omega) | exact sl_to (by omega)), trivial⟩, .refl _⟩ ?_
    rintro _ _ _ ⟨j, D2, ⟨hj, hG2, hDl2⟩, rfl, hs, hp⟩
    refine vc_weaken _ hs (vc_wk hp ?_)
    clear hs hp
    refine vc_seq ?_
    refine vc_region ?_
    refine vl_det (det_lss rfl rfl) rfl ?_
    refine vl_end [(2, _), (3, _), (4, _), (12, _), (13, _), (14, _), (20, _), (21, _), (22, _), (23, _)] ⟨rfl, rfl, rfl, rfl, rfl, rfl, rfl, rfl, rfl, rfl, trivial⟩ ?_
    refine then_next ?_
    refine vc_seq ?_
    refine vc_decideU rfl (fun h23 => ?_) (fun h23 => ?_)
    · skip
      refine vc_skip ?_
      refine then_next ?_
      refine vc_seq ?_
      refine vc_block ?_
      refine vc_seq ?_
      refine vc_region ?_
      refine vl_det (det_indexAddr (size := 1) Tryz.underlying22 (by kernel_rfl) rfl rfl rfl (by omega) (by first | (exact Bor.own (by repeat (first | exact List.Mem.head _ | apply List.Mem.tail))) | (repeat (first | assumption | apply Bor.cons)))) rfl ?_
      refine vl_det (det_load_str (b := T) (j := j) (by kernel_rfl) rfl (by first | (exact Bor.own (by repeat (first | exact List.Mem.head _ | apply List.Mem.tail))) | (repeat (first | assumption | apply Bor.cons))) (by omega)) rfl ?_
      refine vl_det (det_assign rfl) rfl ?_
      refine vl_end [(2, _), (3, _), (4, _), (7, _), (12, _), (13, _), (14, _), (20, _), (21, _), (22, _)] ⟨rfl, rfl, rfl, rfl, rfl, rfl, rfl, rfl, rfl, rfl, trivial⟩ ?_
      refine then_next ?_
      obtain ⟨AG, cG, RG, hGv, hGs, hGb⟩ := grp_get (T.getD j []) D2
      have hids := hG2.ids (T.getD j [])
      have hil : (gsT (T.getD j []) D2).length ≤ i + 1 := by
        rw [hids]
        have : (lsF (tmF L) i (T.getD j [])).length ≤ i := by unfold lsF; exact Nat.le_trans (List.length_filter_le _ _) (by simp)
        rw [List.length_append]
        split <;> simp only [List.length_cons, List.length_nil] <;> omega
      refine vc_sl (fun w hw => sl_grpP [.own 9 1 A20 T.length c20 (strs T), .blk g5 41 [.int .u64 tm, .int .u8 (lv.toNat : Int), .string ⟨src.toArray⟩, .string ⟨txt.toArray⟩], .blk g2 25 [.slice none 0 0, .slice none 0 0]] hGs hw) ?_
      refine vc_region ?_
      refine vl_det (det_move rfl) rfl ?_
      refine vl_det (det_move rfl) rfl ?_
      refine vl_det (det_move rfl) rfl ?_
      refine vl_det (det_move rfl) rfl ?_
      refine vl_det (det_lookup (zv := (.slice none 0 0)) Tryz.underlying59 Tryz.underlying9 (zero_of (by kernel_rfl)) rfl rfl (by repeat (first | exact .hd | apply Sel.tl))) rfl ?_
      rw [hGv]
      refine vl_det (det_move rfl) rfl ?_
      refine vl_push slT42 rfl rfl rfl rfl rfl (fun _ => rfl) (by repeat (first | exact .hd | apply Sel.tl)) (by omega) (by omega) ?_
      intro _ A33 c33
      refine vl_eff0 (eff_mapUpdate Tryz.underlying59 Tryz.underlying9 rfl rfl rfl (by repeat (first | exact .hd | apply Sel.tl))) ?_
      rintro _ _ rfl
      refine vl_end [(2, _), (3, _), (4, _), (12, _), (13, _), (14, _), (20, _), (21, _), (22, _)] ⟨rfl, rfl, rfl, rfl, rfl, rfl, rfl, rfl, rfl, trivial⟩ ?_
      refine in_normal ?_
      refine then_next ?_
      refine vc_region ?_
      refine vl_det (det_add rfl rfl (w_i64 (by omega) (by omega))) rfl ?_
      refine vl_det (det_move rfl) rfl ?_
      refine vl_end [(2, _), (3, _), (4, _), (12, _), (13, _), (14, _), (20, _), (21, _), (22, _)] ⟨rfl, rfl, rfl, rfl, rfl, rfl, rfl, rfl, rfl, trivial⟩ ?_
      refine in_loop_ ⟨_, by omega, j + 1, upG (T.getD j []) A33 c33 i D2, ⟨by omega, hG2.step hTn (by omega) A33 c33, by have := up_len (T.getD j []) A33 c33 i D2; omega⟩, rfl, ⟨(by first | rfl | exact int_to (by omega) | exact sl_to (by omega)), (by first | rfl | exact int_to (by omega) | exact sl_to (by omega)), (by first | rfl | exact int_to (by omega) | exact sl_to (by omega)), (by first | rfl | exact int_to (by omega) | exact sl_to (by omega)), (by first | rfl | exact int_to (by omega) | exact sl_to (by omega)), (by first | rfl | exact int_to (by omega) | exact sl_to (by omega)), (by first | rfl | exact int_to (by omega) | exact sl_to (by omega)), (by first | rfl | exact int_to (by omega) | exact sl_to (by omega)), (by first | rfl | exact int_to (by omega) | exact sl_to (by omega)), trivial⟩, grp_back [_, _, _] (hGb A33 c33 i) (by simp [natv]) (by rw [putM_up])⟩
    · skip
      obtain rfl : j = T.length := by omega
      rw [List.take_length, hT] at hG2
      have hGn := hG2.next
      refine vc_exit ?_
      refine then_exit ?_
      refine loop_exit ?_
      refine in_eq ?_
      refine in_normal ?_
      refine then_next ?_
      refine vc_region ?_
      refine vl_det (det_add rfl rfl (w_i64 (by omega) (by omega))) rfl ?_
      refine vl_det (det_move rfl) rfl ?_
      refine vl_end [(2, _), (3, _), (12, _), (13, _), (14, _)] ⟨rfl, rfl, rfl, rfl, rfl, trivial⟩ ?_
      refine in_loop_ ⟨_, by omega, i + 1, D2, ⟨by omega, hGn, by omega⟩, rfl, ⟨(by first | rfl | exact int_to (by omega) | exact sl_to (by omega)), (by first | rfl | exact int_to (by omega) | exact sl_to (by omega)), (by first | rfl | exact int_to (by omega) | exact sl_to (by omega)), (by first | rfl | exact int_to (by omega) | exact sl_to (by omega)), (by first | rfl | exact int_to (by omega) | exact sl_to (by omega)), trivial⟩, .skip (.skip (.refl _))⟩
  · skip
    obtain rfl : i = L.length := by omega
    rw [List.take_length] at hDl
    obtain ⟨hd1, hd2⟩ := hG.done
    have hk25 : ∀ p ∈ gVals D, p.1.length ≤ 1000000000 := fun p hp => by
      obtain ⟨e, he, rfl⟩ := List.mem_map.1 hp
      have h1 := (hG.keys e.1).1 (List.mem_map.2 ⟨e, he, rfl⟩)
      rw [hd2, lsF_ne] at h1
      obtain ⟨q, _, h2⟩ := h1
      have := trm_25 h2
      show e.1.length ≤ _
      omega
    have hkey : (gVals D).map (·.1) = D.map (·.1) := by simp [gVals]
    have hgl : (gVals D).length = D.length := by simp [gVals]
    have hrp := rows_perm hG.nd
    obtain ⟨T0, hT0⟩ : ∃ T0, T0 = setT (D.map (·.1)) := ⟨_, rfl⟩
    have hTl0 : T0.length ≤ D.length := by
      have := setT_len (D.map (·.1))
      rw [hT0]; simpa using this
    have hso := fun F g b => @sorted_d B w0 F (gVals D) g b (by rw [hkey]; exact hG.nd) (by omega) hk25
    rw [hkey, ← hT0] at hso
    rw [← hT0] at hrp hd1
    rw [← hd1]
    refine vc_exit ?_
    refine then_exit ?_
    refine loop_exit ?_
    refine in_eq ?_
    refine then_next ?_
    refine vc_seq ?_
    refine vc_region ?_
    refine vl_eff (eff_alloc_z (zv := (.agg #[.slice none 0 0, .slice none 0 0])) (by kernel_rfl) rfl) rfl ?_
    rintro _ _ ⟨g8, rfl, rfl⟩
    refine vl_end [(2, _), (3, _), (8, _)] ⟨rfl, rfl, rfl, trivial⟩ ?_
    refine then_next ?_
    refine vc_seq ?_
    refine vc_seq ?_
    refine vc_region ?_
    refine vl_det (det_move rfl) rfl ?_
    refine vl_call co25 rfl (keys_d g11) rfl ?_
    rintro _ _ ⟨g37, rfl, hLL⟩
    obtain rfl := hLL.symm
    refine vl_call co24 rfl ((hso _ g37 g11).perm ((pu0 (pu2 (pu0 (pu0 (.refl _))))))) rfl ?_
    rintro _ _ ⟨A38, c38, rfl, hLL⟩
    obtain rfl := hLL.symm
    refine vl_det (det_len_sl Tryz.underlying22 rfl) rfl ?_
    refine vl_det (det_move rfl) rfl ?_
    refine vl_end [(2, _), (3, _), (8, _), (38, _), (39, _), (40, _)] ⟨rfl, rfl, rfl, rfl, rfl, rfl, trivial⟩ ?_
    refine then_next ?_
    refine vc_block ?_
    refine vc_nil_row 9 1 none ?_
    refine vc_nil_row 42 1 none ?_
    refine vc_loopJ (fun zf zL zm => ∃ (k : Nat) (B1 : Option Addr) (b1 : Nat) (B2 : Option Addr) (b2 : Nat), (k ≤ T0.length) ∧ T0.length - k = zm ∧ Sub zf [(2, .pointer (some ⟨g2, 0, none⟩)), (3, .map (some g11)), (8, .pointer (some ⟨g8, 0, none⟩)), (38, .slice A38 T0.length c38), (39, .int .i64 T0.length), (40, .int .i64 k)] ∧ Wk zL (.own 9 1 B1 k b1 (strs (T0.take k)) :: .own 42 1 B2 k b2 ((T0.take k).map fun t => lVal (geT t D)) :: .blk g8 25 [.slice B1 k b1, .slice B2 k b2] :: .own 9 1 A38 T0.length c38 (strs T0) :: .blk g37 59 [.map (some g11)] :: .blk g2 25 [.slice none 0 0, .slice none 0 0] :: .obj g11 (mpO (gVals D)) :: (D.map gRow ++ F))) _ ⟨0, none, 0, none, 0, Nat.zero_le _, rfl, ⟨(by first | rfl | exact int_to (by omega) | exact sl_to (by omega)), (by first | rfl | exact int_to (by omega) | exact sl_to (by omega)), (by first | rfl | exact int_to (by omega) | exact sl_to (by omega)), (by first | rfl | exact int_to (by omega) | exact sl_to (by omega)), (by first | rfl | exact int_to (by omega) | exact sl_to (by omega)), (by first | rfl | exact int_to (by omega) | exact sl_to (by omega)), trivial⟩, (wu1 (wu0 (wu3 (wu0 (wu0 (wu1 (wu0 (.refl _))))))))⟩ ?_
    rintro _ _ _ ⟨k, B1, b1, B2, b2, hk, rfl, hs, hp⟩
    refine vc_weaken _ hs (vc_wk hp ?_)
    clear hs hp
    refine vc_seq ?_
    refine vc_region ?_
    refine vl_det (det_lss rfl rfl) rfl ?_
    refine vl_end [(2, _), (3, _), (8, _), (38, _), (39, _), (40, _), (41, _)] ⟨rfl, rfl, rfl, rfl, rfl, rfl, rfl, trivial⟩ ?_
    refine then_next ?_
    refine vc_seq ?_
    refine vc_decideU rfl (fun h41 => ?_) (fun h41 => ?_)
    · skip
      have htk : T0.take (k + 1) = T0.take k ++ [T0.getD k []] := by
        rw [List.take_add_one, List.getElem?_eq_getElem (show k < T0.length by omega)]; simp [List.getD, List.getElem?_eq_getElem (show k < T0.length by omega)]
      refine vc_skip ?_
      refine then_next ?_
      refine vc_seq ?_
      refine vc_block ?_
      refine vc_seq ?_
      refine vc_region ?_
      refine vl_det (det_indexAddr (size := 1) Tryz.underlying22 (by kernel_rfl) rfl rfl rfl (by omega) (by first | (exact Bor.own (by repeat (first | exact List.Mem.head _ | apply List.Mem.tail))) | (repeat (first | assumption | apply Bor.cons)))) rfl ?_
      refine vl_det (det_load_str (b := T0) (j := k) (by kernel_rfl) rfl (by first | (exact Bor.own (by repeat (first | exact List.Mem.head _ | apply List.Mem.tail))) | (repeat (first | assumption | apply Bor.cons))) (by omega)) rfl ?_
      refine vl_det (det_assign rfl) rfl ?_
      refine vl_end [(2, _), (3, _), (8, _), (10, _), (38, _), (39, _), (40, _)] ⟨rfl, rfl, rfl, rfl, rfl, rfl, rfl, trivial⟩ ?_
      refine then_next ?_
      refine vc_seq ?_
      refine vc_region ?_
      refine vl_det (det_fieldAddr_ Tryz.underlying25 rfl (by kernel_rfl) rfl rfl) rfl ?_
      refine vl_det (det_load_blk (by kernel_rfl) rfl (by repeat (first | exact .hd | apply Sel.tl)) rfl) rfl ?_
      refine vl_det (det_move rfl) rfl ?_
      refine vl_push slT22 rfl rfl rfl rfl rfl (fun _ => rfl) (by repeat (first | exact .hd | apply Sel.tl)) (by omega) (by omega) ?_
      intro _ A48 c48
      refine vl_det (det_fieldAddr_ Tryz.underlying25 rfl (by kernel_rfl) rfl rfl) rfl ?_
      refine vl_eff0 (eff_store (by kernel_rfl) rfl rfl rfl (by repeat (first | exact .hd | apply Sel.tl)) (by simp)) ?_
      rintro _ _ rfl
      refine vl_end [(2, _), (3, _), (8, _), (10, _), (38, _), (39, _), (40, _)] ⟨rfl, rfl, rfl, rfl, rfl, rfl, rfl, trivial⟩ ?_
      refine then_next ?_
      refine vc_region ?_
      refine vl_det (det_fieldAddr_ Tryz.underlying25 rfl (by kernel_rfl) rfl rfl) rfl ?_
      refine vl_det (det_load_blk (by kernel_rfl) rfl (by repeat (first | exact .hd | apply Sel.tl)) rfl) rfl ?_
      refine vl_det (det_move rfl) rfl ?_
      refine vl_det (det_move rfl) rfl ?_
      refine vl_det (det_lookup (zv := (.slice none 0 0)) Tryz.underlying59 Tryz.underlying9 (zero_of (by kernel_rfl)) rfl rfl (by repeat (first | exact .hd | apply Sel.tl))) rfl ?_
      rw [lk_get]
      refine vl_push slT23 rfl rfl rfl rfl rfl (fun _ => rfl) (by repeat (first | exact .hd | apply Sel.tl)) (by omega) (by omega) ?_
      intro _ A56 c56
      refine vl_det (det_fieldAddr_ Tryz.underlying25 rfl (by kernel_rfl) rfl rfl) rfl ?_
      refine vl_eff0 (eff_store (by kernel_rfl) rfl rfl rfl (by repeat (first | exact .hd | apply Sel.tl)) (by simp)) ?_
      rintro _ _ rfl
      refine vl_end [(2, _), (3, _), (8, _), (38, _), (39, _), (40, _)] ⟨rfl, rfl, rfl, rfl, rfl, rfl, trivial⟩ ?_
      refine in_normal ?_
      refine then_next ?_
      refine vc_region ?_
      refine vl_det (det_add rfl rfl (w_i64 (by omega) (by omega))) rfl ?_
      refine vl_det (det_move rfl) rfl ?_
      refine vl_end [(2, _), (3, _), (8, _), (38, _), (39, _), (40, _)] ⟨rfl, rfl, rfl, rfl, rfl, rfl, trivial⟩ ?_
      refine in_loop_ ⟨_, by omega, k + 1, A48, c48, A56, c56, by omega, rfl, ⟨(by first | rfl | exact int_to (by omega) | exact sl_to (by omega)), (by first | rfl | exact int_to (by omega) | exact sl_to (by omega)), (by first | rfl | exact int_to (by omega) | exact sl_to (by omega)), (by first | rfl | exact int_to (by omega) | exact sl_to (by omega)), (by first | rfl | exact int_to (by omega) | exact sl_to (by omega)), (by first | rfl | exact int_to (by omega) | exact sl_to (by omega)), trivial⟩, wk_own rfl (by rw [htk]; simp [strs]) (wk_own rfl (by rw [htk]; simp) (.refl _))⟩
    · skip
      obtain rfl : k = T0.length := by omega
      rw [List.take_length]
      refine vc_exit ?_
      refine then_exit ?_
      refine loop_exit ?_
      refine in_eq ?_
      refine then_next ?_
      refine vc_seq ?_
      refine vc_region ?_
      refine vl_det (det_load_whole 2 (by kernel_rfl) rfl (by repeat (first | exact .hd | apply Sel.tl)) (by first | rfl | (simp; omega) | (simp [*]; done))) rfl ?_
      refine vl_eff0 (eff_store_whole 2 (by kernel_rfl) rfl rfl (by first | exact bv_one _ | exact strs_one _ | exact ints_one _ _ | (simp; done) | (simp [Value.oneCell']; done) | assumption) (by repeat (first | exact .hd | apply Sel.tl)) (by first | rfl | (simp; omega) | (simp [*]; done)) (by first | rfl | (simp; omega) | (simp [*]; done))) ?_
      rintro _ _ rfl
      refine vl_end [(2, _)] ⟨rfl, trivial⟩ ?_
      refine then_next ?_
      refine vc_ret ?_
      refine ret_c rfl rfl (by kernel_rfl) (by repeat (first | exact .hd | apply Sel.tl)) (by first | rfl | (simp; omega) | (simp [*]; done)) (.cons (.cons (.skip (.skip (.skip (.skip (.skip (.of_perm (hrp.append_right F))))))))) ?_
      exact ⟨B1, b1, B2, b2, T0.map (geT · D), rfl, by rw [show (T0.map (geT · D)).map lVal = T0.map (fun t => lVal (geT t D)) from List.map_map], by rw [List.map_map, bldL, ← hd1]; exact List.map_congr_left fun t _ => (geT_ids t D).trans (hd2 t)⟩
end Go.Proofs.YtpamjobiohbibaaGreat
namespace Go.Proofs.YtpamjobiohbibaaGreat
open Go.RowKit
set_option linter.unusedVariables false
set_option maxRecDepth 20000
variable {B : Nat} {w0 : World} {F : List Ch} {A A1 A2 : Option Addr} {n c c1 c2 g : Nat}
def SameT (l1 l2 : List Txt) (k : Nat) : Prop := l1.take k = l2.take k
theorem SameT.step {l1 l2 : List Txt} {k : Nat} (h : SameT l1 l2 k) (h1 : k < l1.length) (h2 : k < l2.length) (he : l1.getD k [] = l2.getD k []) : SameT l1 l2 (k + 1) := by
  unfold SameT at *
  rw [List.take_add_one, List.take_add_one, h]
  congr 1
  rw [List.getElem?_eq_getElem h1, List.getElem?_eq_getElem h2]
  simp [List.getD, List.getElem?_eq_getElem h1, List.getElem?_eq_getElem h2] at he
  rw [he]
theorem SameT.all {l1 l2 : List Txt} {k : Nat} (h : SameT l1 l2 k) (h1 : ¬ k < l1.length) (h2 : l1.length = l2.length) : l1 = l2 := by
  unfold SameT at h
  rwa [List.take_of_length_le (by omega), List.take_of_length_le (by omega)] at h
theorem same15_d {l1 l2 : List Txt} (h1 : Bor B w0 F 1 (.slice A1 l1.length c1) l1.length (strs l1)) (h2 : Bor B w0 F 1 (.slice A2 l2.length c2) l2.length (strs l2)) (hn1 : l1.length ≤ 1000000000000000) :
    Does Tryz.prog B w0 19 [.slice A1 l1.length c1, .slice A2 l2.length c2] F (fun r L => r = .bool (decide (l1 = l2)) ∧ L = F) := by
  refine fn_walk Tryz.func19 26 rfl rfl rfl [(0, .slice A1 l1.length c1), (1, .slice A2 l2.length c2)] ⟨⟨rfl, rfl⟩, ⟨rfl, rfl⟩, trivial⟩ ?_
  refine vc_seq ?_
  refine vc_region ?_
  refine vl_det (det_assign rfl) rfl ?_
  refine vl_end [(0, _), (1, _)] ⟨rfl, rfl, trivial⟩ ?_
  refine then_next ?_
  refine vc_seq ?_
  refine vc_seq ?_
  refine vc_region ?_
  refine vl_det (det_move rfl) rfl ?_
  refine vl_det (det_len_sl Tryz.underlying22 rfl) rfl ?_
  refine vl_det (det_move rfl) rfl ?_
  refine vl_det (det_len_sl Tryz.underlying22 rfl) rfl ?_
  refine vl_det (det_neq rfl rfl) rfl ?_
  refine vl_end [(0, _), (1, _), (10, _)] ⟨rfl, rfl, rfl, trivial⟩ ?_
  refine then_next ?_
  refine vc_decideU rfl (fun h10 => ?_) (fun h10 => ?_)
  · skip
    refine vc_seq ?_
    refine vc_region ?_
    refine vl_det (det_assign rfl) rfl ?_
    refine vl_end [(4, _)] ⟨rfl, trivial⟩ ?_
    refine then_next ?_
    refine vc_ret ?_
    refine then_ret ?_
    refine ret1 rfl rfl ?_
    rw [decide_eq_false (fun e => h10 (by rw [e]))]; exact ⟨rfl, rfl⟩
  · skip
    refine vc_skip ?_
    refine then_next ?_
    refine vc_seq ?_
    refine vc_seq ?_
    refine vc_region ?_
    refine vl_det (det_assign rfl) rfl ?_
    refine vl_end [(0, _), (1, _), (5, _)] ⟨rfl, rfl, rfl, trivial⟩ ?_
    refine then_next ?_
    refine vc_block ?_
    refine vc_loopJ (fun zf zL zm => ∃ (k : Nat), (k ≤ l1.length ∧ SameT l1 l2 k) ∧ l1.length - k = zm ∧ Sub zf [(0, .slice A1 l1.length c1), (1, .slice A2 l2.length c2), (5, .int .i64 k)] ∧ Wk zL (F)) _ ⟨0, ⟨Nat.zero_le _, rfl⟩, rfl, ⟨(by first | rfl | exact int_to (by omega) | exact sl_to (by omega)), (by first | rfl | exact int_to (by omega) | exact sl_to (by omega)), (by first | rfl | exact int_to (by omega) | exact sl_to (by omega)), trivial⟩, .refl _⟩ ?_
    rintro _ _ _ ⟨k, ⟨hk, hS⟩, rfl, hs, hp⟩
    refine vc_weaken _ hs (vc_wk hp ?_)
    clear hs hp
    refine vc_seq ?_
    refine vc_seq ?_
    refine vc_region ?_
    refine vl_det (det_move rfl) rfl ?_
    refine vl_det (det_move rfl) rfl ?_
    refine vl_det (det_len_sl Tryz.underlying22 rfl) rfl ?_
    refine vl_det (det_lss rfl rfl) rfl ?_
    refine vl_end [(0, _), (1, _), (5, _), (14, _)] ⟨rfl, rfl, rfl, rfl, trivial⟩ ?_
    refine then_next ?_
    refine vc_decideU rfl (fun h14 => ?_) (fun h14 => ?_)
    · skip
      refine vc_skip ?_
      refine then_next ?_
      refine vc_seq ?_
      refine vc_block ?_
      refine vc_seq ?_
      refine vq_region (by kernel_rfl) (by kernel_rfl) ?_
      refine vq_det (det_move rfl) rfl ?_
      refine vq_det (det_move rfl) rfl ?_
      refine vq_det (det_indexAddr (size := 1) Tryz.underlying22 (by kernel_rfl) rfl rfl rfl (by omega) (by first | (exact Bor.own (by repeat (first | exact List.Mem.head _ | apply List.Mem.tail))) | (repeat (first | assumption | apply Bor.cons)))) rfl ?_
      refine vq_det (det_load_str (by kernel_rfl) rfl (by first | (exact Bor.own (by repeat (first | exact List.Mem.head _ | apply List.Mem.tail))) | (repeat (first | assumption | apply Bor.cons))) (by omega)) rfl ?_
      refine vq_det (det_move rfl) rfl ?_
      refine vq_det (det_move rfl) rfl ?_
      refine vq_det (det_indexAddr (size := 1) Tryz.underlying22 (by kernel_rfl) rfl rfl rfl (by omega) (by first | (exact Bor.own (by repeat (first | exact List.Mem.head _ | apply List.Mem.tail))) | (repeat (first | assumption | apply Bor.cons)))) rfl ?_
      refine vq_det (det_load_str (by kernel_rfl) rfl (by first | (exact Bor.own (by repeat (first | exact List.Mem.head _ | apply List.Mem.tail))) | (repeat (first | assumption | apply Bor.cons))) (by omega)) rfl ?_
      refine vq_det (det_s_neq rfl rfl) rfl ?_
      refine vq_end [(0, _), (1, _), (5, _), (25, _)] ⟨rfl, rfl, rfl, rfl, trivial⟩ ?_
      refine then_next ?_
      refine vc_decideU rfl (fun h25 => ?_) (fun h25 => ?_)
      · skip
        refine vc_seq ?_
        refine vc_region ?_
        refine vl_det (det_assign rfl) rfl ?_
        refine vl_end [(4, _)] ⟨rfl, trivial⟩ ?_
        refine then_next ?_
        refine vc_ret ?_
        refine in_ret ?_
        refine then_ret ?_
        refine loop_ret ?_
        refine in_ret ?_
        refine then_ret ?_
        refine ret1 rfl rfl ?_
        rw [decide_eq_false (fun e => h25 (by rw [e]))]; exact ⟨rfl, rfl⟩
      · skip
        refine vc_skip ?_
        refine in_normal ?_
        refine then_next ?_
        refine vc_region ?_
        refine vl_det (det_move rfl) rfl ?_
        refine vl_det (det_add rfl rfl (w_i64 (by omega) (by omega))) rfl ?_
        refine vl_det (det_assign rfl) rfl ?_
        refine vl_end [(0, _), (1, _), (5, _)] ⟨rfl, rfl, rfl, trivial⟩ ?_
        refine in_loop_ ⟨_, by omega, k + 1, ⟨by omega, hS.step (by omega) (by omega) (by simpa using h25)⟩, rfl, ⟨(by first | rfl | exact int_to (by omega) | exact sl_to (by omega)), (by first | rfl | exact int_to (by omega) | exact sl_to (by omega)), (by first | rfl | exact int_to (by omega) | exact sl_to (by omega)), trivial⟩, .refl _⟩
    · skip
      refine vc_exit ?_
      refine then_exit ?_
      refine loop_exit ?_
      refine in_eq ?_
      refine then_next ?_
      refine vc_seq ?_
      refine vc_region ?_
      refine vl_det (det_assign rfl) rfl ?_
      refine vl_end [(4, _)] ⟨rfl, trivial⟩ ?_
      refine then_next ?_
      refine vc_ret ?_
      refine ret1 rfl rfl ?_
      rw [decide_eq_true (hS.all (by omega) (by omega))]; exact ⟨rfl, rfl⟩
end Go.Proofs.YtpamjobiohbibaaGreat

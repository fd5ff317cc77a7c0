/-
  The document's Same, by frames. No condition.
-/
import Derived.Test.YtpdnohllbijonaaBitWp
import Derived.Test.YtpdnohllbijonaaBitRefp
namespace Go.Proofs.Ytpdnohllbijonaa
open Go.RowKit
set_option linter.unusedVariables false
variable {B : Nat} {w0 : World} {F : List Ch} {A A2 : Option Addr} {n n2 c c2 : Nat}
theorem same_d {l l2 : List UInt8} (h1 : Bor B w0 F 1 (.slice A n c) n (bv l)) (h2 : Bor B w0 F 1 (.slice A2 n2 c2) n2 (bv l2)) :
    Does Try.prog B w0 20 [.slice A n c, .slice A2 n2 c2] F (fun r L => r = .bool (decide (l = l2)) ∧ L = F) := by
  refine fn_walk Try.func20 10 rfl rfl rfl [(0, .slice A n c), (1, .slice A2 n2 c2)] ⟨⟨rfl, rfl⟩, ⟨rfl, rfl⟩, trivial⟩ ?_
  refine vc_seq ?_
  refine vc_region ?_
  refine vl_det (det_assign rfl) rfl ?_
  refine vl_end [(0, _), (1, _)] ⟨rfl, rfl, trivial⟩ ?_
  refine then_next ?_
  refine vc_seq ?_
  refine vc_region ?_
  refine vl_det (det_move rfl) rfl ?_
  refine vl_det (det_bstr Try.underlying22 Try.underlying5 Try.underlying9 rfl h1) rfl ?_
  refine vl_det (det_move rfl) rfl ?_
  refine vl_det (det_bstr Try.underlying22 Try.underlying5 Try.underlying9 rfl h2) rfl ?_
  refine vl_det (det_s_eql rfl rfl) rfl ?_
  refine vl_det (det_assign rfl) rfl ?_
  refine vl_end [(4, _)] ⟨rfl, trivial⟩ ?_
  refine then_next ?_
  refine vc_ret ?_
  refine ret1 rfl rfl ?_
  exact ⟨rfl, rfl⟩
theorem packed_empty : packed [] = [] := rfl
/-- a row after a try to put -/
def putQ (q : List Bool) (v : Nat) (n : Int) : List Bool := if Puts v n then q ++ hi v n.toNat n.toNat else q
def putE (v : Nat) (n : Int) : Int := if Puts v n then 0 else 13
def unQ (q : List Bool) (n : Int) : List Bool := if 0 ≤ n ∧ n ≤ 100000 then q ++ un n.toNat else q
def unE (n : Int) : Int := if 0 ≤ n ∧ n ≤ 100000 then 0 else 13
theorem putQ_le (q : List Bool) (v : Nat) (n : Int) : (putQ q v n).length ≤ q.length + 64 := by
  unfold putQ
  split
  · rename_i h
    rw [List.length_append, hi_length]
    have := h.2.1
    omega
  · omega
theorem unQ_le (q : List Bool) (n : Int) : (unQ q n).length ≤ q.length + 100001 := by
  unfold unQ
  split
  · rw [List.length_append, un_length]; omega
  · omega
variable {g : Nat} {bt : TypeId}
theorem put_c (q : List Bool) (v : Nat) (hv : v < 18446744073709551616) (n : Int) (h1 : -9223372036854775808 ≤ n) (h2 : n ≤ 9223372036854775807) (hq : q.length ≤ 7000000) :
    Does Try.prog B w0 15 [.pointer (some ⟨g, 0, none⟩), .int .u64 v, .int .i64 n] (Wr g bt A c q F)
      (fun r L => r = .int .i64 (putE v n) ∧ ∃ A' c', L = Wr g bt A' c' (putQ q v n) F) := by
  unfold putE putQ
  split
  · rename_i hp
    obtain ⟨m, rfl⟩ := Int.eq_ofNat_of_zero_le hp.1
    exact put_d q v hv m (by have := hp.2.1; omega) hp.2.2 hq
  · rename_i hp
    exact (putbad_d q v hv n h1 (by omega) hp).mono fun r L ⟨hr, hL⟩ => ⟨hr, A, c, hL⟩
theorem rput_c (q : List Bool) (v : Nat) (hv : v < 18446744073709551616) (n : Int) (h1 : -9223372036854775808 ≤ n) (h2 : n ≤ 9223372036854775807) (hq : q.length ≤ 7000000) :
    Does Try.prog B w0 16 [.pointer (some ⟨g, 0, none⟩), .int .u64 v, .int .i64 n] (Wf g bt A c q F)
      (fun r L => r = .int .i64 (putE v n) ∧ ∃ A' c', L = Wf g bt A' c' (putQ q v n) F) := by
  unfold putE putQ
  split
  · rename_i hp
    obtain ⟨m, rfl⟩ := Int.eq_ofNat_of_zero_le hp.1
    exact rput_d q v hv m (by have := hp.2.1; omega) hp.2.2 hq
  · rename_i hp
    exact (rputbad_d q v hv n h1 (by omega) hp).mono fun r L ⟨hr, hL⟩ => ⟨hr, A, c, hL⟩
theorem perm4 (a b x y : Ch) : [x, y, a, b].Perm [a, b, x, y] := List.perm_append_comm (l₁ := [x, y]) (l₂ := [a, b])
theorem swp22 (a b x y : Ch) (F : List Ch) : (a :: b :: x :: y :: F).Perm (x :: y :: a :: b :: F) := List.perm_append_comm_assoc [a, b] [x, y] F
theorem swp32 (a b d x y : Ch) (F : List Ch) : (a :: b :: d :: x :: y :: F).Perm (x :: y :: a :: b :: d :: F) := List.perm_append_comm_assoc [a, b, d] [x, y] F
end Go.Proofs.Ytpdnohllbijonaa

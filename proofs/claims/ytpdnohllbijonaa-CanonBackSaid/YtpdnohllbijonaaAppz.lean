/-
  append of zeros to a row of bytes that has room for them. No condition.
-/
import Derived.Test.YtpdnohllbijonaaTypes
namespace Go.Proofs.Ytpdnohllbijonaa
open Go.RowKit
set_option linter.unusedVariables false
theorem zero_list (z : Value) (m : Nat) : (Builtin.zeroCells #[z] m).toList = List.replicate m z := by
  apply List.ext_getElem
  · simp [Builtin.zeroCells]
  · intro k h1 h2
    simp [Builtin.zeroCells, Nat.mod_one]
theorem run_appz {P : Program} {t xt e : TypeId} {bytes : Nat} (T : SlT P t e 1 bytes (.int .u8 0)) (hx : P.underlying xt = some (.int .u64)) (ty : TypeId) {w : World} {g n c m : Nat} {cur : Array Value} (hg : w.heap[g]? = some (.cells cur e (0, 0))) (hm : 0 < m) (hroom : n + m ≤ c) (hfit : n + m ≤ cur.size) (hb : m * bytes ≤ 281474976710656) (h63 : m ≤ 281474976710656) :
    (Builtin.append_ #[t, xt] ty #[.slice (some ⟨g, 0, none⟩) n c, .int .u64 m]).run P w = .ok (.slice (some ⟨g, 0, none⟩) (n + m) c) (w.setRow g (cur.toList.take n ++ List.replicate m (Value.int .u8 0) ++ cur.toList.drop (n + m)).toArray) := by
  obtain ⟨i, hi, hz, hsz, hby⟩ := T.hi
  have hst := run_storeCells_at P g n e (List.replicate m (Value.int .u8 0)) 0 cur w hg (by simpa using hfit) (by intro v hv; rw [(List.mem_replicate.1 hv).2]; rfl)
  simp only [Nat.add_zero, List.length_replicate] at hst
  have hw : IntKind.i64.wrap (m : Int) = m := w_i64 (by omega) (by omega)
  have hneg : ¬ (m : Int) < 0 := by omega
  have hbig : ¬ (281474976710656 : Int) < (m : Int) * (bytes : Int) := by
    rw [← Int.natCast_mul]
    generalize m * bytes = y at hb ⊢
    omega
  have hm0 : ¬ m = 0 := by omega
  have hzc : (Value.int IntKind.u8 0).cells = #[Value.int IntKind.u8 0] := rfl
  simp [Builtin.append_, run_underlying T.ht, run_underlying hx, asInt, asIntOf, sizeOf, typeInfo, zeroValue, hi, hz, hsz, hby, hw, hneg, hbig, hm0, hroom, Addr.add_lit, hzc, zero_list, hst]
theorem eff_appz {C : Cx} {fr : Fr} {L : List Ch} {x y : Operand} {ty t xt e : TypeId} {f : Ch → List Ch} {bytes : Nat} (T : SlT C.P t e 1 bytes (.int .u8 0)) (hx : C.P.underlying xt = some (.int .u64)) {A : Option Addr} {n c m : Nat} {k : Int} {xs : List Value} (he : ev fr x = some (.slice A n c)) (hs : Sel (.own e 1 A n c xs) L f) (hy : ev fr y = some (.int .u64 k)) (hk : k = (m : Int)) (hm : 0 < m) (hroom : n + m ≤ c) (hb : m * bytes ≤ 281474976710656) (h63 : m ≤ 281474976710656) :
    Eff C fr L (.call { callee := .builtin .append, args := #[x, y], argTypes := #[t, xt] }) ty (fun p L' => p = .slice A (n + m) c ∧ L' = f (.own e 1 A (n + m) c (xs ++ List.replicate m (Value.int .u8 0)))) := fun a w ha hw d pos af gg => by
  subst hk
  have hown := hw.all _ hs.mem
  obtain ⟨k1, k2, k3⟩ := hown
  have hc0 : ¬ c = 0 := by omega
  obtain ⟨g, cur, rfl, hbg, hg, hcm, hcs, htake⟩ := k3.resolve_left hc0
  have hr := run_appz (P := C.P) T hx ty hg hm hroom (by omega) hb h63
  simp only [Nat.mul_one] at k1 hcs htake
  refine ⟨_, _, _, .inl ?_, ⟨rfl, rfl⟩, hw.sel hs (w' := w.setRow g (cur.toList.take n ++ List.replicate m (Value.int .u8 0) ++ cur.toList.drop (n + m)).toArray) ?_ (fun _ => ⟨by simp [k1], hroom, .inr ⟨g, _, rfl, hbg, setRow_heap w g cur _ e _ hg, hcm, ?_, ?_⟩⟩) (.inr (.inl (by simp [Ch.fp, hc0])))⟩
  · simp [execOp, resolve, invoke, builtin, ha.tmp he, ha.tmp hy, hr]
  · rw [show (Ch.own e 1 (some ⟨g, 0, none⟩) n c xs).fp = some g by simp [Ch.fp, hc0]]
    exact ⟨rfl, rfl, rfl, by simp, fun k _ hk => setRow_other w g k _ (fun e => hk (by rw [e]))⟩
  · simp only [List.size_toArray, List.length_append, List.length_take, List.length_drop, Array.length_toList, List.length_replicate]
    omega
  · rw [htake]
    have hlen : (xs ++ List.replicate m (Value.int .u8 0)).length = n + m := by simp [k1]
    simp only [Nat.mul_one]
    rw [← hlen]
    exact List.take_left
/-- append of a row to one that has room for it -/
theorem eff_app_room {C : Cx} {fr : Fr} {L : List Ch} {x y : Operand} {ty t e : TypeId} {f : Ch → List Ch} {bytes : Nat} {z : Value} (T : SlT C.P t e 1 bytes z) {A : Option Addr} {n c m : Nat} {xs : List Value} (he : ev fr x = some (.slice A n c)) (hs : Sel (.own e 1 A n c xs) L f) {yv : Value} {news : List Value} (hy : ev fr y = some yv) (hb : Bor C.B C.w0 L 1 yv m news) (h1 : ∀ u ∈ news, u.oneCell' = true) (hm : 0 < m) (hroom : n + m ≤ c) :
    Eff C fr L (.call { callee := .builtin .append, args := #[x, y], argTypes := #[t, t] }) ty (fun p L' => p = .slice A (n + m) c ∧ L' = f (.own e 1 A (n + m) c (xs ++ news))) := fun a w ha hw d pos af gg => by
  obtain ⟨i, hi, hz, hsz, hby⟩ := T.hi
  obtain ⟨X, cx, rfl, hmc, hl, hrd⟩ := hb w hw
  obtain ⟨ad, rfl, _, hnews⟩ := hrd hm
  have hown := hw.all _ hs.mem
  obtain ⟨k1, k2, k3⟩ := hown
  have hc0 : ¬ c = 0 := by omega
  obtain ⟨g, cur, rfl, hbg, hg, hcm, hcs, htake⟩ := k3.resolve_left hc0
  simp only [Nat.mul_one] at k1 hcs htake hl
  have hr := run_append_room (P := C.P) w t ty e i T.ht hi g n c cur hg ad m cx news (by rw [hl, hsz, Nat.mul_one]) hnews h1 hroom (by rw [hsz, Nat.mul_one, hl, hcs]; exact hroom)
  rw [hsz, Nat.mul_one, hl] at hr
  refine ⟨_, _, _, .inl ?_, ⟨rfl, rfl⟩, hw.sel hs (w' := w.setRow g (cur.toList.take n ++ news ++ cur.toList.drop (n + m)).toArray) ?_ (fun _ => ⟨by simp [k1, hl], hroom, .inr ⟨g, _, rfl, hbg, setRow_heap w g cur _ e _ hg, hcm, ?_, ?_⟩⟩) (.inr (.inl (by simp [Ch.fp, hc0])))⟩
  · simp [execOp, resolve, invoke, builtin, ha.tmp he, ha.tmp hy, hr]
  · rw [show (Ch.own e 1 (some ⟨g, 0, none⟩) n c xs).fp = some g by simp [Ch.fp, hc0]]
    exact ⟨rfl, rfl, rfl, by simp, fun k _ hk => setRow_other w g k _ (fun e => hk (by rw [e]))⟩
  · simp only [List.size_toArray, List.length_append, List.length_take, List.length_drop, Array.length_toList]
    omega
  · rw [htake]
    have hlen : (xs ++ news).length = n + m := by simp [k1, hl]
    simp only [Nat.mul_one]
    rw [← hlen]
    exact List.take_left
end Go.Proofs.Ytpdnohllbijonaa

/-
  A walk by frames and pieces of memory: functions, calls, guards, and the operations that leave memory alone. No condition.
-/
import Derived.Test.YtpamjobiohbibaaEngA
namespace Go.Proofs.Ytpamjobiohbibaa
open Go.RowKit
set_option linter.unusedVariables false
section
variable {C : Cx} {Q : Exit → Fr → List Ch → Prop} {fr fr' : Fr} {L L' : List Ch} {ops : Array Oper} {l : List Oper} {op : Op} {ty : TypeId} {pos : String} {af : Array Edge} {d : Nat} {v : Value}
/-- the operation yields v, memory stays -/
def Det (C : Cx) (fr : Fr) (L : List Ch) (op : Op) (ty : TypeId) (v : Value) : Prop :=
  ∀ a w, Agr C.N fr a → SL C.B C.w0 L w → ∀ (d : Option Tmp) (pos : String) (af : Array Edge) (g : Option (Nat × Bool)), (execOp a.eval ⟨d, op, ty, pos, af, g⟩).run C.P w = .ok (.value v) w
/-- the operation yields a value and leaves pieces as R says -/
def Eff (C : Cx) (fr : Fr) (L : List Ch) (op : Op) (ty : TypeId) (R : Value → List Ch → Prop) : Prop :=
  ∀ a w, Agr C.N fr a → SL C.B C.w0 L w → ∀ (d : Option Tmp) (pos : String) (af : Array Edge) (g : Option (Nat × Bool)), ∃ v w' L',
    ((execOp a.eval ⟨d, op, ty, pos, af, g⟩).run C.P w = .ok (.value v) w' ∨ (execOp a.eval ⟨d, op, ty, pos, af, g⟩).run C.P w = .ok .skip w' ∧ v = undef) ∧ R v L' ∧ SL C.B C.w0 L' w'
theorem vl_det (h : Det C fr L op ty v) (hd : Nat.blt d C.N = true) (k : VL C ops Q l ((d, v) :: fr) L) : VL C ops Q (⟨some d, op, ty, pos, af, none⟩ :: l) fr L := fun a w ha hw =>
  wpList_plain rfl fun K hK => by unfold Oper.wp; rw [h a w ha hw]; exact hK _ _ (k _ _ (ha.put hd v) hw)
theorem vl_eff {R : Value → List Ch → Prop} (h : Eff C fr L op ty R) (hd : Nat.blt d C.N = true) (k : ∀ v L', R v L' → VL C ops Q l ((d, v) :: fr) L') : VL C ops Q (⟨some d, op, ty, pos, af, none⟩ :: l) fr L := fun a w ha hw =>
  wpList_plain rfl fun K hK => by
    obtain ⟨v, w', L', hr, hR, hs⟩ := h a w ha hw (some d) pos af none
    unfold Oper.wp
    rcases hr with hr | ⟨hr, rfl⟩ <;> rw [hr] <;> exact hK _ _ (k _ _ hR _ _ (ha.put hd _) hs)
theorem vl_eff0 {R : Value → List Ch → Prop} (h : Eff C fr L op ty R) (k : ∀ v L', R v L' → VL C ops Q l fr L') : VL C ops Q (⟨none, op, ty, pos, af, none⟩ :: l) fr L := fun a w ha hw =>
  wpList_plain rfl fun K hK => by
    obtain ⟨v, w', L', hr, hR, hs⟩ := h a w ha hw none pos af none
    unfold Oper.wp
    rcases hr with hr | ⟨hr, rfl⟩ <;> rw [hr] <;> exact hK _ _ (k _ _ hR _ _ ha hs)
theorem wanted_iff {op : Op} {ty : TypeId} {pos : String} {af : Array Edge} {dd : Option Tmp} {j t : Nat} {want b : Bool} {a : Act} (hj : (ops[j]?).bind (·.dst) = some t) (ha : a.tmps[t]? = some (.bool b)) :
    Region.wanted ⟨dd, op, ty, pos, af, some (j, want)⟩ (yielded ops a.tmps) = (b == want) := by
  simp [Region.wanted, yielded, hj, ha]
theorem wanted_undef {op : Op} {ty : TypeId} {pos : String} {af : Array Edge} {dd : Option Tmp} {j t : Nat} {want : Bool} {a : Act} (hj : (ops[j]?).bind (·.dst) = some t) (ha : a.tmps[t]? = some undef) :
    Region.wanted ⟨dd, op, ty, pos, af, some (j, want)⟩ (yielded ops a.tmps) = false := by
  simp [Region.wanted, yielded, hj, ha, undef]
theorem wpl_unguard {P : Program} {QQ : Exit → Act → World → Prop} {dd : Option Tmp} {g : Nat × Bool} {a : Act} {w : World} (hw : Region.wanted ⟨dd, op, ty, pos, af, some g⟩ (yielded ops a.tmps) = true) (h : wpList P ops QQ (⟨dd, op, ty, pos, af, none⟩ :: l) a w) :
    wpList P ops QQ (⟨dd, op, ty, pos, af, some g⟩ :: l) a w := by
  unfold wpList at h ⊢
  rw [if_pos (by rfl)] at h
  rw [if_pos hw]
  exact h
theorem wpl_skip {P : Program} {QQ : Exit → Act → World → Prop} {dd : Option Tmp} {g : Nat × Bool} {a : Act} {w : World} (hw : Region.wanted ⟨dd, op, ty, pos, af, some g⟩ (yielded ops a.tmps) = false) (h : wpList P ops QQ l (a.put dd undef) w) :
    wpList P ops QQ (⟨dd, op, ty, pos, af, some g⟩ :: l) a w := by
  unfold wpList
  rw [if_neg (by rw [hw]; exact Bool.false_ne_true)]
  exact h
theorem Agr.bool {N : Nat} {a : Act} {t : Nat} {b c : Bool} (ha : Agr N fr a) (ht : look t fr = some (.bool b)) (hb : b = c) : Agr N ((t, .bool c) :: fr) a := by
  subst hb
  refine ⟨ha.defers, ha.size, fun s u hs => ?_⟩
  unfold look at hs
  cases hbe : Nat.beq t s with
  | true =>
    have := Nat.eq_of_beq_eq_true hbe
    subst this
    rw [hbe] at hs
    simp only [cond_true, Option.some.injEq] at hs
    subst hs
    exact ha.at_ _ _ ht
  | false =>
    rw [hbe] at hs
    exact ha.at_ _ _ hs
theorem vl_guard_t {dd : Option Tmp} {j t : Nat} {want : Bool} (hj : (ops[j]?).bind (·.dst) = some t) (ht : look t fr = some (.bool want)) (k : VL C ops Q (⟨dd, op, ty, pos, af, none⟩ :: l) fr L) :
    VL C ops Q (⟨dd, op, ty, pos, af, some (j, want)⟩ :: l) fr L := fun a w ha hw =>
  wpl_unguard (by rw [wanted_iff hj (ha.at_ _ _ ht)]; simp) (k a w ha hw)
theorem vl_guard_f {j t : Nat} {want b : Bool} (hj : (ops[j]?).bind (·.dst) = some t) (ht : look t fr = some (.bool b)) (hb : (b == want) = false) (hd : Nat.blt d C.N = true) (k : VL C ops Q l ((d, undef) :: fr) L) :
    VL C ops Q (⟨some d, op, ty, pos, af, some (j, want)⟩ :: l) fr L := fun a w ha hw =>
  wpl_skip (by rw [wanted_iff hj (ha.at_ _ _ ht)]; exact hb) (k _ _ (ha.put hd _) hw)
theorem vl_guard_u {j t : Nat} {want : Bool} (hj : (ops[j]?).bind (·.dst) = some t) (ht : look t fr = some undef) (hd : Nat.blt d C.N = true) (k : VL C ops Q l ((d, undef) :: fr) L) :
    VL C ops Q (⟨some d, op, ty, pos, af, some (j, want)⟩ :: l) fr L := fun a w ha hw =>
  wpl_skip (wanted_undef hj (ha.at_ _ _ ht)) (k _ _ (ha.put hd _) hw)
theorem vl_guard {j t : Nat} {want b : Bool} (hj : (ops[j]?).bind (·.dst) = some t) (ht : look t fr = some (.bool b)) (hd : Nat.blt d C.N = true)
    (k1 : b = want → VL C ops Q (⟨some d, op, ty, pos, af, none⟩ :: l) ((t, .bool want) :: fr) L) (k2 : b = !want → VL C ops Q l ((d, undef) :: (t, .bool !want) :: fr) L) :
    VL C ops Q (⟨some d, op, ty, pos, af, some (j, want)⟩ :: l) fr L := fun a w ha hw => by
  by_cases hb : b = want
  · exact wpl_unguard (by rw [wanted_iff hj (ha.at_ _ _ ht)]; simpa using hb) (k1 hb a w (ha.bool ht hb) hw)
  · have hb' : b = !want := by cases b <;> cases want <;> simp_all
    exact wpl_skip (by rw [wanted_iff hj (ha.at_ _ _ ht)]; simpa using hb) (k2 hb' _ _ ((ha.bool ht hb').put hd _) hw)
/-- a guard on a decided proposition -/
theorem vl_guardp {j t : Nat} {p : Prop} [Decidable p] (hj : (ops[j]?).bind (·.dst) = some t) (ht : look t fr = some (.bool (decide p))) (hd : Nat.blt d C.N = true)
    (k1 : p → VL C ops Q (⟨some d, op, ty, pos, af, none⟩ :: l) ((t, .bool true) :: fr) L) (k2 : ¬ p → VL C ops Q l ((d, undef) :: (t, .bool false) :: fr) L) :
    VL C ops Q (⟨some d, op, ty, pos, af, some (j, true)⟩ :: l) fr L :=
  vl_guard hj ht hd (fun h => k1 (of_decide_eq_true h)) (fun h => k2 (of_decide_eq_false h))
theorem vl_guardn {j t : Nat} {p : Prop} [Decidable p] (hj : (ops[j]?).bind (·.dst) = some t) (ht : look t fr = some (.bool (decide p))) (hd : Nat.blt d C.N = true)
    (k1 : ¬ p → VL C ops Q (⟨some d, op, ty, pos, af, none⟩ :: l) ((t, .bool false) :: fr) L) (k2 : p → VL C ops Q l ((d, undef) :: (t, .bool true) :: fr) L) :
    VL C ops Q (⟨some d, op, ty, pos, af, some (j, false)⟩ :: l) fr L :=
  vl_guard hj ht hd (fun h => k1 (of_decide_eq_false h)) (fun h => k2 (of_decide_eq_true h))

/-! ### Functions -/
def Callable (P : Program) (f : FuncId) : Prop := ∃ fn c, P.funcs[f]? = some fn ∧ (fn.name == "runtime.NumGoroutine") = false ∧ fn.body = some c
/-- what a call yields, and the pieces behind it -/
def Does (P : Program) (B : Nat) (w0 : World) (f : FuncId) (args : List Value) (L : List Ch) (R : Value → List Ch → Prop) : Prop :=
  ∀ w, SL B w0 L w → Calls P f args.toArray w fun e w' => ∃ v L', e = .returned v ∧ R v L' ∧ SL B w0 L' w'
theorem Does.mono {P : Program} {B : Nat} {w0 : World} {f : FuncId} {args : List Value} {R R' : Value → List Ch → Prop} (h : Does P B w0 f args L R) (hr : ∀ v L', R v L' → R' v L') : Does P B w0 f args L R' :=
  fun w hw => (h w hw).mono fun _ _ ⟨v, L', e, hR, hs⟩ => ⟨v, L', e, hr _ _ hR, hs⟩
theorem Does.perm {P : Program} {B : Nat} {w0 : World} {f : FuncId} {args : List Value} {R : Value → List Ch → Prop} (h : Does P B w0 f args L' R) (hp : L.Perm L') : Does P B w0 f args L R :=
  fun w hw => h w (hw.perm hp)
theorem execOp_callv {ρ : Operand → Value} {P : Program} {w : World} {f : FuncId} {g : Operand} {as : List Operand} {ats : Array TypeId} {fst cap : Array Value} {dd : Option Tmp} {gu : Option (Nat × Bool)} (hc : Callable P f) (hg : ρ g = .func (.func f) fst cap) :
    (execOp ρ ⟨dd, .call { callee := .value g, args := as.toArray, argTypes := ats }, ty, pos, af, gu⟩).run P w = .ok (.enter f (fst ++ (as.map ρ).toArray ++ cap)) w := by
  obtain ⟨fn, c, h1, h2, h3⟩ := hc
  have h2' : ¬ fn.name = "runtime.NumGoroutine" := by simpa using h2
  simp [execOp, resolve, hg, Deferred.ofValue, invoke, callFunc, h1, h2', h3]
theorem vl_call {f : FuncId} {as : List Operand} {ats : Array TypeId} {vs : List Value} {R : Value → List Ch → Prop} (hc : Callable C.P f) (he : evs fr as = some vs) (h : Does C.P C.B C.w0 f vs L R) (hd : Nat.blt d C.N = true)
    (k : ∀ v L', R v L' → VL C ops Q l ((d, v) :: fr) L') : VL C ops Q (⟨some d, .call { callee := .value (.func f), args := as.toArray, argTypes := ats }, ty, pos, af, none⟩ :: l) fr L := fun a w ha hw =>
  wpList_plain rfl fun K hK => by
    unfold Oper.wp
    rw [execOp_callv hc (fst := #[]) (cap := #[]) rfl, ha.evs he]
    rw [Array.append_empty, Array.empty_append]
    refine Calls.mono (h w hw) fun e w' ⟨v, L', he, hR, hs⟩ => ?_
    subst he
    exact hK _ _ (k _ _ hR _ _ (ha.put hd _) hs)
theorem vl_call0 {f : FuncId} {as : List Operand} {ats : Array TypeId} {vs : List Value} {R : Value → List Ch → Prop} (hc : Callable C.P f) (he : evs fr as = some vs) (h : Does C.P C.B C.w0 f vs L R)
    (k : ∀ v L', R v L' → VL C ops Q l fr L') : VL C ops Q (⟨none, .call { callee := .value (.func f), args := as.toArray, argTypes := ats }, ty, pos, af, none⟩ :: l) fr L := fun a w ha hw =>
  wpList_plain rfl fun K hK => by
    unfold Oper.wp
    rw [execOp_callv hc (fst := #[]) (cap := #[]) rfl, ha.evs he]
    rw [Array.append_empty, Array.empty_append]
    refine Calls.mono (h w hw) fun e w' ⟨v, L', he, hR, hs⟩ => ?_
    subst he
    exact hK _ _ (k _ _ hR _ _ ha hs)
/-- a call of a function value -/
theorem vl_callv {f : FuncId} {g : Operand} {as : List Operand} {ats : Array TypeId} {vs fst cap : List Value} {R : Value → List Ch → Prop} (hc : Callable C.P f) (hg : ev fr g = some (.func (.func f) fst.toArray cap.toArray)) (he : evs fr as = some vs) (h : Does C.P C.B C.w0 f (fst ++ vs ++ cap) L R) (hd : Nat.blt d C.N = true)
    (k : ∀ v L', R v L' → VL C ops Q l ((d, v) :: fr) L') : VL C ops Q (⟨some d, .call { callee := .value g, args := as.toArray, argTypes := ats }, ty, pos, af, none⟩ :: l) fr L := fun a w ha hw =>
  wpList_plain rfl fun K hK => by
    unfold Oper.wp
    rw [execOp_callv hc (ha.tmp hg), ha.evs he]
    simp only [List.append_toArray]
    refine Calls.mono (h w hw) fun e w' ⟨v, L', he, hR, hs⟩ => ?_
    subst he
    exact hK _ _ (k _ _ hR _ _ (ha.put hd _) hs)
def Ini (N : Nat) (args : List Value) : Fr → Prop
  | [] => True
  | (t, v) :: r => (Nat.blt t N = true ∧ args.getD t undef = v) ∧ Ini N args r
theorem Ini.look {N : Nat} {args : List Value} : ∀ {fr : Fr}, Ini N args fr → ∀ t v, look t fr = some v → t < N ∧ args.getD t undef = v
  | [], _, t, v, h => by cases h
  | (s, u) :: r, hs, t, v, h => by
    unfold Proofs.Ytpamjobiohbibaa.look at h
    cases hb : Nat.beq s t with
    | true =>
      rw [hb] at h
      simp only [cond_true, Option.some.injEq] at h
      have := Nat.eq_of_beq_eq_true hb
      subst this; subst h
      exact ⟨by simpa using hs.1.1, hs.1.2⟩
    | false =>
      rw [hb] at h
      exact hs.2.look t v h
def Ret (P : Program) (fn : Func) (R : Value → List Ch → Prop) : Exit → Fr → List Ch → Prop
  | .ret, fr, L | .normal, fr, L => ∀ (B : Nat) (w0 : World) a w, Agr fn.ntmps fr a → SL B w0 L w → ∃ v L', (results fn a.tmps).run P w = .ok v w ∧ R v L' ∧ SL B w0 L' w
  | _, _, _ => False
theorem fn_of {P : Program} {B : Nat} {w0 : World} {f : FuncId} {fn : Func} {c : Code} {args : List Value} {R : Value → List Ch → Prop} (hf : P.funcs[f]? = some fn) (hb : fn.body = some c) (hl : args.length ≤ fn.ntmps) (fr0 : Fr) (hi : Ini fn.ntmps args fr0)
    (h : VC ⟨P, fn.ntmps, B, w0⟩ c (Ret P fn R) fr0 L) : Does P B w0 f args L R := fun w hw => by
  refine calls_of_wp hf hb (wp_mono (h _ w ⟨rfl, ?_, fun t v ht => ?_⟩ hw) fun e a w ⟨fr, L, ha, hs, hq⟩ => ?_)
  · simp; omega
  · obtain ⟨h1, h2⟩ := hi.look t v ht
    simp only [List.size_toArray]
    by_cases hlt : t < args.length
    · rw [Array.getElem?_append_left (by simpa using hlt)]
      simp [hlt] at h2
      simp [hlt, h2]
    · rw [Array.getElem?_append_right (by simpa using hlt)]
      have h3 : args[t]? = none := List.getElem?_eq_none (by omega)
      simp [h3] at h2
      subst h2
      simp
      rw [Array.getElem?_replicate, if_pos (by omega)]
  · cases e <;> first
      | exact hq.elim
      | (obtain ⟨v, L', h1, h2, h3⟩ := hq B w0 a w ha hs; exact ⟨ha.defers, v, h1, v, L', rfl, h2, h3⟩)
theorem ret1 {P : Program} {fn : Func} {R : Value → List Ch → Prop} {t : Nat} (hr : fn.results = #[.tmp t]) {v : Value} (hl : look t fr = some v) (h : R v L) : Ret P fn R .ret fr L := fun B w0 a w ha hs => by
  refine ⟨v, L, ?_, h, hs⟩
  rw [results_tmp hr]
  simp [ha.at_ _ _ hl]
theorem ret0 {P : Program} {fn : Func} {R : Value → List Ch → Prop} (hr : fn.results = #[]) (h : R (.tuple #[]) L) : Ret P fn R .ret fr L := fun B w0 a w ha hs => ⟨_, L, results_none hr _ _ _, h, hs⟩
theorem ret2 {P : Program} {fn : Func} {R : Value → List Ch → Prop} {t u : Nat} (hr : fn.results = #[.tmp t, .tmp u]) {v x : Value} (hl : look t fr = some v) (hl2 : look u fr = some x) (h : R (.tuple #[v, x]) L) : Ret P fn R .ret fr L := fun B w0 a w ha hs => by
  refine ⟨_, L, ?_, h, hs⟩
  rw [results_tmp2 hr]
  simp [ha.at_ _ _ hl, ha.at_ _ _ hl2]
theorem ret3_ {P : Program} {fn : Func} {R : Value → List Ch → Prop} {t u s : Nat} (hr : fn.results = #[.tmp t, .tmp u, .tmp s]) {v x y : Value} (hl : look t fr = some v) (hl2 : look u fr = some x) (hl3 : look s fr = some y) (h : R (.tuple #[v, x, y]) L) : Ret P fn R .ret fr L := fun B w0 a w ha hs => by
  refine ⟨_, L, ?_, h, hs⟩
  simp [results, hr, ha.at_ _ _ hl, ha.at_ _ _ hl2, ha.at_ _ _ hl3]
theorem ret4_ {P : Program} {fn : Func} {R : Value → List Ch → Prop} {t u s q : Nat} (hr : fn.results = #[.tmp t, .tmp u, .tmp s, .tmp q]) {v x y z : Value} (hl : look t fr = some v) (hl2 : look u fr = some x) (hl3 : look s fr = some y) (hl4 : look q fr = some z) (h : R (.tuple #[v, x, y, z]) L) : Ret P fn R .ret fr L := fun B w0 a w ha hs => by
  refine ⟨_, L, ?_, h, hs⟩
  simp [results, hr, ha.at_ _ _ hl, ha.at_ _ _ hl2, ha.at_ _ _ hl3, ha.at_ _ _ hl4]
theorem ret_n {P : Program} {fn : Func} {R : Value → List Ch → Prop} (h : Ret P fn R .ret fr L) : Ret P fn R .normal fr L := h
/-- from a contract of the elder kind: it makes memory, and turns nothing that is there -/
theorem Does.of_calls {P : Program} {B : Nat} {w0 : World} {f : FuncId} {args : List Value} {R : Value → List Ch → Prop}
    (h : ∀ w, SL B w0 L w → Calls P f args.toArray w fun e w' => ∃ v L', e = .returned v ∧ R v L' ∧ SL B w0 L' w') : Does P B w0 f args L R := h

/-! ### Operations that leave memory alone -/
section
variable {x y z : Operand} {u t : Value} {k : IntKind} {m n : Int}
theorem det_move (h : ev fr x = some v) : Det C fr L (.move x) ty v := fun a w ha hw d pos af g => by simp [execOp, ha.tmp h]
theorem det_assign (h : ev fr x = some v) : Det C fr L (.assign x) ty v := fun a w ha hw d pos af g => by simp [execOp, ha.tmp h]
theorem det_pick_t (h : ev fr x = some (.bool true)) (h1 : ev fr y = some v) : Det C fr L (.pick x y z) ty v := fun a w ha hw d pos af g => by simp [execOp, ha.tmp h, ha.tmp h1, asBool]
theorem det_pick_f (h : ev fr x = some (.bool false)) (h1 : ev fr z = some v) : Det C fr L (.pick x y z) ty v := fun a w ha hw d pos af g => by simp [execOp, ha.tmp h, ha.tmp h1, asBool]
theorem run_binInt {op : BinOp} {xt : TypeId} {P : Program} {w : World} (a : Act) (d : Option Tmp) (pos : String) (af : Array Edge) (g : Option (Nat × Bool)) {yt : TypeId} (h1 : a.eval x = .int k m) (h2 : a.eval y = .int k n) (hs : op ≠ .shl ∧ op ≠ .shr) :
    (execOp a.eval ⟨d, .binOp op xt x y yt, ty, pos, af, g⟩).run P w = ((match op with
    | .add | .sub | .mul => Op.intArith op k m n
    | .quo | .rem => Op.intDiv op k m n
    | .and | .or | .xor | .andNot => Op.intBits op k m n
    | _ => Op.intCmp op m n).run P w).andThen fun v w => .ok (.value v) w := by
  have he : (eqGuard op xt x y (.int k m) (.int k n)).run P w = .ok () w := by cases op <;> simp [eqGuard]
  obtain ⟨hs1, hs2⟩ := hs
  cases op <;> simp_all [execOp, binOp]
theorem det_add {xt yt : TypeId} (h1 : ev fr x = some (.int k m)) (h2 : ev fr y = some (.int k n)) {r : Int} (hr : k.wrap (m + n) = r) : Det C fr L (.binOp .add xt x y yt) ty (.int k r) := fun a w ha hw d pos af g => by
  rw [run_binInt a d pos af g (ha.tmp h1) (ha.tmp h2) ⟨by decide, by decide⟩]; simp [Op.intArith, hr]
theorem det_sub {xt yt : TypeId} (h1 : ev fr x = some (.int k m)) (h2 : ev fr y = some (.int k n)) {r : Int} (hr : k.wrap (m - n) = r) : Det C fr L (.binOp .sub xt x y yt) ty (.int k r) := fun a w ha hw d pos af g => by
  rw [run_binInt a d pos af g (ha.tmp h1) (ha.tmp h2) ⟨by decide, by decide⟩]; simp [Op.intArith, hr]
theorem det_mul {xt yt : TypeId} (h1 : ev fr x = some (.int k m)) (h2 : ev fr y = some (.int k n)) {r : Int} (hr : k.wrap (m * n) = r) : Det C fr L (.binOp .mul xt x y yt) ty (.int k r) := fun a w ha hw d pos af g => by
  rw [run_binInt a d pos af g (ha.tmp h1) (ha.tmp h2) ⟨by decide, by decide⟩]; simp [Op.intArith, hr]
theorem det_quo {xt yt : TypeId} (h1 : ev fr x = some (.int k m)) (h2 : ev fr y = some (.int k n)) (h0 : n ≠ 0) {r : Int} (hr : k.wrap (m.tdiv n) = r) : Det C fr L (.binOp .quo xt x y yt) ty (.int k r) := fun a w ha hw d pos af g => by
  rw [run_binInt a d pos af g (ha.tmp h1) (ha.tmp h2) ⟨by decide, by decide⟩]; simp [Op.intDiv, h0, hr]
theorem det_rem {xt yt : TypeId} (h1 : ev fr x = some (.int k m)) (h2 : ev fr y = some (.int k n)) (h0 : n ≠ 0) {r : Int} (hr : m.tmod n = r) : Det C fr L (.binOp .rem xt x y yt) ty (.int k r) := fun a w ha hw d pos af g => by
  rw [run_binInt a d pos af g (ha.tmp h1) (ha.tmp h2) ⟨by decide, by decide⟩]; simp [Op.intDiv, h0, hr]
theorem det_and {xt yt : TypeId} (h1 : ev fr x = some (.int k m)) (h2 : ev fr y = some (.int k n)) {r : Int} (hr : k.wrap ((BitVec.ofInt k.bits m &&& BitVec.ofInt k.bits n).toNat : Int) = r) : Det C fr L (.binOp .and xt x y yt) ty (.int k r) := fun a w ha hw d pos af g => by
  rw [run_binInt a d pos af g (ha.tmp h1) (ha.tmp h2) ⟨by decide, by decide⟩, ← hr]; simp [Op.intBits]
theorem det_or {xt yt : TypeId} (h1 : ev fr x = some (.int k m)) (h2 : ev fr y = some (.int k n)) {r : Int} (hr : k.wrap ((BitVec.ofInt k.bits m ||| BitVec.ofInt k.bits n).toNat : Int) = r) : Det C fr L (.binOp .or xt x y yt) ty (.int k r) := fun a w ha hw d pos af g => by
  rw [run_binInt a d pos af g (ha.tmp h1) (ha.tmp h2) ⟨by decide, by decide⟩, ← hr]; simp [Op.intBits]
theorem det_xor {xt yt : TypeId} (h1 : ev fr x = some (.int k m)) (h2 : ev fr y = some (.int k n)) {r : Int} (hr : k.wrap ((BitVec.ofInt k.bits m ^^^ BitVec.ofInt k.bits n).toNat : Int) = r) : Det C fr L (.binOp .xor xt x y yt) ty (.int k r) := fun a w ha hw d pos af g => by
  rw [run_binInt a d pos af g (ha.tmp h1) (ha.tmp h2) ⟨by decide, by decide⟩, ← hr]; simp [Op.intBits]
theorem det_shl {xt yt : TypeId} {k' : IntKind} (h1 : ev fr x = some (.int k m)) (h2 : ev fr y = some (.int k' n)) (h0 : 0 ≤ n) {r : Int} (hr : k.wrap (m * 2 ^ min n.toNat k.bits) = r) : Det C fr L (.binOp .shl xt x y yt) ty (.int k r) := fun a w ha hw d pos af g => by
  have hn : ¬ n < 0 := by omega
  rw [← hr]
  simp [execOp, ha.tmp h1, ha.tmp h2, binOp, Op.shift, eqGuard, hn]
theorem det_shr {xt yt : TypeId} {k' : IntKind} (h1 : ev fr x = some (.int k m)) (h2 : ev fr y = some (.int k' n)) (h0 : 0 ≤ n) {r : Int} (hr : m.fdiv (2 ^ min n.toNat k.bits) = r) : Det C fr L (.binOp .shr xt x y yt) ty (.int k r) := fun a w ha hw d pos af g => by
  have hn : ¬ n < 0 := by omega
  rw [← hr]
  simp [execOp, ha.tmp h1, ha.tmp h2, binOp, Op.shift, eqGuard, hn]
theorem det_eql {xt yt : TypeId} (h1 : ev fr x = some (.int k m)) (h2 : ev fr y = some (.int k n)) : Det C fr L (.binOp .eql xt x y yt) ty (.bool (decide (m = n))) := fun a w ha hw d pos af g => by
  rw [run_binInt a d pos af g (ha.tmp h1) (ha.tmp h2) ⟨by decide, by decide⟩]; simp [Op.intCmp]; rfl
theorem det_neq {xt yt : TypeId} (h1 : ev fr x = some (.int k m)) (h2 : ev fr y = some (.int k n)) : Det C fr L (.binOp .neq xt x y yt) ty (.bool (decide (¬ m = n))) := fun a w ha hw d pos af g => by
  rw [run_binInt a d pos af g (ha.tmp h1) (ha.tmp h2) ⟨by decide, by decide⟩]; simp [Op.intCmp, bne]; rfl
theorem det_lss {xt yt : TypeId} (h1 : ev fr x = some (.int k m)) (h2 : ev fr y = some (.int k n)) : Det C fr L (.binOp .lss xt x y yt) ty (.bool (decide (m < n))) := fun a w ha hw d pos af g => by
  rw [run_binInt a d pos af g (ha.tmp h1) (ha.tmp h2) ⟨by decide, by decide⟩]; simp [Op.intCmp]
theorem det_leq {xt yt : TypeId} (h1 : ev fr x = some (.int k m)) (h2 : ev fr y = some (.int k n)) : Det C fr L (.binOp .leq xt x y yt) ty (.bool (decide (m ≤ n))) := fun a w ha hw d pos af g => by
  rw [run_binInt a d pos af g (ha.tmp h1) (ha.tmp h2) ⟨by decide, by decide⟩]; simp [Op.intCmp]
theorem det_gtr {xt yt : TypeId} (h1 : ev fr x = some (.int k m)) (h2 : ev fr y = some (.int k n)) : Det C fr L (.binOp .gtr xt x y yt) ty (.bool (decide (n < m))) := fun a w ha hw d pos af g => by
  rw [run_binInt a d pos af g (ha.tmp h1) (ha.tmp h2) ⟨by decide, by decide⟩]; simp [Op.intCmp]
theorem det_geq {xt yt : TypeId} (h1 : ev fr x = some (.int k m)) (h2 : ev fr y = some (.int k n)) : Det C fr L (.binOp .geq xt x y yt) ty (.bool (decide (n ≤ m))) := fun a w ha hw d pos af g => by
  rw [run_binInt a d pos af g (ha.tmp h1) (ha.tmp h2) ⟨by decide, by decide⟩]; simp [Op.intCmp]
theorem det_not {b : Bool} (h : ev fr x = some (.bool b)) {xt : TypeId} : Det C fr L (.unOp .not xt x) ty (.bool !b) := fun a w ha hw d pos af g => by simp [execOp, ha.tmp h, Op.unary]
theorem det_neg (h : ev fr x = some (.int k m)) {xt : TypeId} {r : Int} (hr : k.wrap (0 - m) = r) : Det C fr L (.unOp .neg xt x) ty (.int k r) := fun a w ha hw d pos af g => by rw [← hr]; simp [execOp, ha.tmp h, Op.unary, Op.intArith]
/-- a number made a number of another kind -/
theorem det_conv {s t : TypeId} {k' : IntKind} (hs : C.P.underlying s = some (.int k)) (ht : C.P.underlying t = some (.int k')) (h : ev fr x = some (.int k m)) {r : Int} (hr : k'.wrap m = r) : Det C fr L (.convert s t x) ty (.int k' r) := fun a w ha hw d pos af g => by
  rw [← hr]; simp [execOp, ha.tmp h, convert, run_underlying hs, run_underlying ht, Conv.intToInt]
theorem det_extract {vs : List Value} {i : Nat} (h : ev fr x = some (.tuple vs.toArray)) (hi : vs[i]? = some v) : Det C fr L (.extract x i) ty v := fun a w ha hw d pos af g => by simp [execOp, ha.tmp h, Instr.extract, hi]
theorem det_makeFunc {fn : Go.Fn} {as bs : List Operand} {us vs : List Value} (h1 : evs fr as = some us) (h2 : evs fr bs = some vs) : Det C fr L (.makeFunc fn as.toArray bs.toArray) ty (.func fn us.toArray vs.toArray) := fun a w ha hw d pos af g => by
  simp [execOp, Instr.makeFunc, ha.evs h1, ha.evs h2]
theorem det_nilCheck {p : Addr} (h : ev fr x = some (.pointer (some p))) : Det C fr L (.nilCheck x) ty (.pointer (some p)) := fun a w ha hw d pos af g => by simp [execOp, ha.tmp h]
/-- texts -/
theorem det_len_str {t : TypeId} {s : ByteArray} (ht : C.P.underlying t = some .string) (h : ev fr x = some (.string s)) : Det C fr L (.call { callee := .builtin .len, args := #[x], argTypes := #[t] }) ty (.int .i64 (s.size : Int)) := fun a w ha hw d pos af g => by
  simp [execOp, resolve, invoke, builtin, Builtin.len_, ha.tmp h, run_underlying ht, goInt]
theorem det_len_sl {t e : TypeId} {A : Option Addr} {n c : Nat} (ht : C.P.underlying t = some (.slice e)) (h : ev fr x = some (.slice A n c)) : Det C fr L (.call { callee := .builtin .len, args := #[x], argTypes := #[t] }) ty (.int .i64 (n : Int)) := fun a w ha hw d pos af g => by
  simp [execOp, resolve, invoke, builtin, Builtin.len_, ha.tmp h, run_underlying ht, goInt]
theorem det_len_arr {t e : TypeId} {n : Nat} (ht : C.P.underlying t = some (.array n e)) (h : ev fr x = some v) : Det C fr L (.call { callee := .builtin .len, args := #[x], argTypes := #[t] }) ty (.int .i64 (n : Int)) := fun a w ha hw d pos af g => by
  simp [execOp, resolve, invoke, builtin, Builtin.len_, ha.tmp h, run_underlying ht, goInt]
theorem det_min {ats : Array TypeId} (h1 : ev fr x = some (.int k m)) (h2 : ev fr y = some (.int k n)) : Det C fr L (.call { callee := .builtin .min, args := #[x, y], argTypes := ats }) ty (.int k (min m n)) := fun a w ha hw d pos af g => by
  have : (if n < m then n else m) = min m n := by rw [Int.min_def]; split <;> split <;> omega
  simp [execOp, resolve, invoke, builtin, Builtin.min_, Builtin.min2, ha.tmp h1, ha.tmp h2, this]
theorem det_max {ats : Array TypeId} (h1 : ev fr x = some (.int k m)) (h2 : ev fr y = some (.int k n)) : Det C fr L (.call { callee := .builtin .max, args := #[x, y], argTypes := ats }) ty (.int k (max m n)) := fun a w ha hw d pos af g => by
  have : (if m < n then n else m) = max m n := by rw [Int.max_def]; split <;> split <;> omega
  simp [execOp, resolve, invoke, builtin, Builtin.max_, Builtin.max2, ha.tmp h1, ha.tmp h2, this]
theorem det_index_str {t : TypeId} {s : List UInt8} {i : Nat} (ht : C.P.underlying t = some .string) (h : ev fr x = some (.string ⟨s.toArray⟩)) (h2 : ev fr y = some (.int k m)) (hm : m = (i : Int)) {b : UInt8} (hb : s[i]? = some b) : Det C fr L (.index t x y) ty (.int .u8 (b.toNat : Int)) := fun a w ha hw d pos af g => by
  subst hm
  obtain ⟨hi, hb⟩ := List.getElem?_eq_some_iff.1 hb
  have h3 : (⟨s.toArray⟩ : ByteArray)[i]? = some b := by
    have hsz : i < (⟨s.toArray⟩ : ByteArray).size := by show i < s.toArray.size; simpa using hi
    rw [getElem?_pos (⟨s.toArray⟩ : ByteArray) i hsz]
    show some (s.toArray[i]'_) = _
    simp [hb]
  simp [execOp, Instr.index, asIntOf, ha.tmp h, ha.tmp h2, run_underlying ht, h3]
theorem bytes_eq (s t : List UInt8) : ((⟨s.toArray⟩ : ByteArray).toList == (⟨t.toArray⟩ : ByteArray).toList) = decide (s = t) := by
  rw [ByteArray.toList_mk, ByteArray.toList_mk, Bool.eq_iff_iff]
  simp
end
end
end Go.Proofs.Ytpamjobiohbibaa

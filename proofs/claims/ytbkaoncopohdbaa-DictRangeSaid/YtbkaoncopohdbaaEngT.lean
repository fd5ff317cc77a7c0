/-
  A walk by frames with the world in sight: iterators that read only. No condition.
-/
import Derived.Test.YtbkaoncopohdbaaEngK
namespace Go.Proofs.Ytbkaoncopohdbaa
open Go.RowKit
set_option linter.unusedVariables false
set_option maxRecDepth 20000
def tpost (N : Nat) (QQ : Exit → Fr → World → Prop) : Exit → Act → World → Prop := fun e a w => ∃ fr, Agr N fr a ∧ QQ e fr w
def VT (P : Program) (N : Nat) (c : Code) (QQ : Exit → Fr → World → Prop) (fr : Fr) (w : World) : Prop := ∀ a, Agr N fr a → c.wpIn Fence.wide 7 P (tpost N QQ) a w
def VTL (P : Program) (N : Nat) (ops : Array Oper) (QQ : Exit → Fr → World → Prop) (l : List Oper) (fr : Fr) (w : World) : Prop := ∀ a, Agr N fr a → wpListIn Fence.wide 7 P ops (tpost N QQ) l a w
def TT (P : Program) (N : Nat) (y : Code) (QQ : Exit → Fr → World → Prop) : Exit → Fr → World → Prop
  | .normal, fr, w => VT P N y QQ fr w
  | e, fr, w => QQ e fr w
def TB (id : Nat) (QQ : Exit → Fr → World → Prop) : Exit → Fr → World → Prop
  | .exit i, fr, w => if i = id then QQ .normal fr w else QQ (.exit i) fr w
  | e, fr, w => QQ e fr w
def VTQ (P : Program) (N : Nat) (w : World) (ops : Array Oper) (QF : Fr → Prop) (l : List Oper) (fr : Fr) : Prop := ∀ a, Agr N fr a → wpQuiet P ops (fun w' => ∃ n, w' = w.drewN n) (fun a' => ∃ fr', Agr N fr' a' ∧ QF fr') l a
section
variable {P : Program} {N : Nat} {QQ : Exit → Fr → World → Prop} {QF : Fr → Prop} {fr fr' : Fr} {w : World} {x y : Code} {ops : Array Oper} {l : List Oper} {op : Op} {ty : TypeId} {pos : String} {af : Array Edge} {d : Nat} {v : Value} {B : Nat} {w0 : World} {L : List Ch}
theorem vt_seq (h : VT P N x (TT P N y QQ) fr w) : VT P N (.seq x y) QQ fr w := fun a ha =>
  wpIn_seq (wpIn_mono (h a ha) fun e a w ⟨fr, ha, hq⟩ => by cases e <;> first | exact hq a ha | exact ⟨fr, ha, hq⟩)
theorem vt_block {id : Nat} (h : VT P N x (TB id QQ) fr w) : VT P N (.block id x) QQ fr w := fun a ha =>
  wpIn_block (wpIn_mono (h a ha) fun e a w ⟨fr, ha, hq⟩ => by
    cases e with
    | exit i =>
      unfold Exit.inBlock
      unfold TB at hq
      simp only at hq ⊢
      split
      · rename_i hi; rw [if_pos hi] at hq; exact ⟨fr, ha, hq⟩
      · rename_i hi; rw [if_neg hi] at hq; exact ⟨fr, ha, hq⟩
    | _ => exact ⟨fr, ha, hq⟩)
theorem vt_skip (h : QQ .normal fr w) : VT P N .skip QQ fr w := fun a ha => wpIn_skip ⟨fr, ha, h⟩
theorem vt_exit {id : Nat} (h : QQ (.exit id) fr w) : VT P N (.exit id) QQ fr w := fun a ha => wpIn_exit ⟨fr, ha, h⟩
theorem vt_ret (h : QQ .ret fr w) : VT P N .ret QQ fr w := fun a ha => wpIn_ret ⟨fr, ha, h⟩
theorem vt_condt {c : Operand} (hc : ev fr c = some (.bool true)) (h : VT P N x QQ fr w) : VT P N (.cond c x y) QQ fr w := fun a ha => wpIn_cond_true (ha.tmp hc) (h a ha)
theorem vt_condf {c : Operand} (hc : ev fr c = some (.bool false)) (h : VT P N y QQ fr w) : VT P N (.cond c x y) QQ fr w := fun a ha => wpIn_cond_false (ha.tmp hc) (h a ha)
theorem vt_decide {c : Operand} {p : Prop} [Decidable p] (hc : ev fr c = some (.bool (decide p))) (ht : p → VT P N x QQ fr w) (hf : ¬ p → VT P N y QQ fr w) : VT P N (.cond c x y) QQ fr w := by
  by_cases hp : p
  · exact vt_condt (by rw [hc, decide_eq_true hp]) (ht hp)
  · exact vt_condf (by rw [hc, decide_eq_false hp]) (hf hp)
theorem tt_next (h : VT P N y QQ fr w) : TT P N y QQ .normal fr w := h
theorem tt_exit {i : Nat} (h : QQ (.exit i) fr w) : TT P N y QQ (.exit i) fr w := h
theorem tb_exit {id : Nat} (h : QQ .normal fr w) : TB id QQ (.exit id) fr w := by unfold TB; simp only [if_true]; exact h
theorem vt_region {id : Nat} {lst : List Oper} (h : VTL P N lst.toArray QQ lst fr w) : VT P N (.region id lst.toArray false) QQ fr w := fun a ha => wpIn_region_lit (h a ha)
theorem vtl_end (fr' : Fr) (hs : Sub fr fr') (h : QQ .normal fr' w) : VTL P N ops QQ [] fr w := fun a ha => wpListIn_nil ⟨fr', ha.sub hs, h⟩
theorem vtl_det (hs : SL B w0 L w) (h : Det ⟨P, N, B, w0⟩ fr L op ty v) (hn : noDefB ⟨some d, op, ty, pos, af, none⟩ = true) (hd : Nat.blt d N = true) (k : VTL P N ops QQ l ((d, v) :: fr) w) : VTL P N ops QQ (⟨some d, op, ty, pos, af, none⟩ :: l) fr w := fun a ha =>
  wpListIn_plain rfl fun K hK => by
    refine ⟨fun _ _ => trivial, ?_⟩
    rw [Oper.semAt_eq _ _ _ (noDef_of hn), h a w ha hs]
    exact hK _ _ (k _ (ha.put hd v))
/-- a call of yield -/
theorem vtl_yield {g x : Operand} {ats : Array TypeId} {yl : Nat} {u : Value} {T F : World → Prop} (hg : ev fr g = some (.func (.yield yl) #[] #[])) (hx : ev fr x = some u)
    (hy : YieldAt Fence.wide 6 P yl #[u] w fun e w' => (e = .returned (.bool true) ∧ T w') ∨ (e = .returned (.bool false) ∧ F w')) (hd : Nat.blt d N = true)
    (kt : ∀ w', T w' → VTL P N ops QQ l ((d, .bool true) :: fr) w') (kf : ∀ w', F w' → VTL P N ops QQ l ((d, .bool false) :: fr) w') :
    VTL P N ops QQ (⟨some d, .call { callee := .value g, args := #[x], argTypes := ats }, ty, pos, af, none⟩ :: l) fr w := fun a ha =>
  wpListIn_plain rfl fun K hK => by
    obtain ⟨fn, tmps, assign, body, h1, h2⟩ := hy
    refine ⟨fun _ _ => trivial, ?_⟩
    rw [Oper.semAt_eq _ _ _ (fun c e => by cases e)]
    have he : (execOp a.eval ⟨some d, .call { callee := .value g, args := #[x], argTypes := ats }, ty, pos, af, none⟩).run P w = .ok (.round yl fn tmps assign body) w := by
      have hg' := ha.tmp hg
      have hx' := ha.tmp hx
      simp [execOp, resolve, hg', hx', Deferred.ofValue, invoke, h1]
    rw [he]
    refine ⟨fun h => by simp [Fence.wide] at h, h2.mono fun e w' hh => ?_⟩
    rcases hh with ⟨rfl, hT⟩ | ⟨rfl, hF⟩
    · exact hK _ _ (kt w' hT _ (ha.put hd _))
    · exact hK _ _ (kf w' hF _ (ha.put hd _))
theorem vtq_region {id : Nat} {lst : List Oper} (hm : P.follows .mixedOrders = true) (hB : Region.lexB .any lst.toArray = true) (h : VTQ P N w lst.toArray (fun fr' => ∀ n, QQ .normal fr' (w.drewN n)) lst fr) : VT P N (.region id lst.toArray true) QQ fr w := fun a ha => by
  refine wpIn_wide.2 (wp_region_quiet_lit hm hB ?_)
  have hmono : ∀ (l : List Oper) (a : Act) {ops : Array Oper} {Q Q' : Act → Prop}, (∀ a, Q a → Q' a) → wpQuiet P ops (fun w' => ∃ n, w' = w.drewN n) Q l a → wpQuiet P ops (fun w' => ∃ n, w' = w.drewN n) Q' l a := by
    intro l
    induction l with
    | nil => intro a ops Q Q' hq h; exact hq _ h
    | cons o l ih =>
      intro a ops Q Q' hq h
      unfold wpQuiet at h ⊢
      split
      · rename_i hw; rw [if_pos hw] at h; exact Oper.quiet_mono (fun a h => ih a hq h) h
      · rename_i hw; rw [if_neg hw] at h; exact ih _ hq h
  exact hmono lst a (fun a' ⟨fr', h1, h2⟩ w' ⟨n, hn⟩ => ⟨fr', h1, hn ▸ h2 n⟩) (h a ha)
theorem vtq_end (fr' : Fr) (hs : Sub fr fr') (h : QF fr') : VTQ P N w ops QF [] fr := fun a ha => wpQuiet_nil ⟨fr', ha.sub hs, h⟩
theorem vtq_det (hs : SL B w0 L w) (h : Det ⟨P, N, B, w0⟩ fr L op ty v) (hd : Nat.blt d N = true) (k : VTQ P N w ops QF l ((d, v) :: fr)) : VTQ P N w ops QF (⟨some d, op, ty, pos, af, none⟩ :: l) fr := fun a ha =>
  wpQuiet_step fun K hK => by
    rw [if_pos (by rfl)]
    refine ⟨v, fun w' hw' => ?_, hK _ (k _ (ha.put hd v))⟩
    obtain ⟨n, rfl⟩ := hw'
    unfold Oper.quietAt
    rw [h a _ ha (hs.drewN n)]
    exact ⟨rfl, rfl⟩
def slotN (t : Nat) (a : Act) : Nat := match a.tmps[t]? with
  | some (.int _ z) => z.toNat
  | _ => 0
theorem vt_loop (ok : Nat → World → Prop) (F : Nat → Fr) (t M : Nat) (pos : Nat → Nat) (hpos : ∀ i, look t (F i) = some (.int .i64 (pos i : Nat))) (i0 : Nat) (h0 : ok i0 w) (hf : Sub fr (F i0))
    (round : ∀ i w, ok i w → VT P N x (fun e fr w => match e with | .normal => ∃ i', ok i' w ∧ M - pos i' < M - pos i ∧ Sub fr (F i') | e => QQ e fr w) (F i) w) : VT P N (.loop x) QQ fr w := fun a ha => by
  have hm : ∀ i a, Agr N (F i) a → slotN t a = pos i := fun i a ha => by
    unfold slotN
    rw [ha.at_ _ _ (hpos i)]
    simp
  refine wpIn_loop (fun a w => ∃ i, ok i w ∧ Agr N (F i) a) (fun a w => M - slotN t a) ⟨i0, h0, ha.sub hf⟩ ?_
  rintro a w ⟨i, e2, e3⟩
  refine wpIn_mono (round i w e2 a e3) fun e a' w' ⟨fr', ha', hq⟩ => ?_
  cases e with
  | normal =>
    obtain ⟨i', k1, k2, k3⟩ := hq
    refine ⟨⟨i', k1, ha'.sub k3⟩, ?_⟩
    rw [hm i a e3, hm i' a' (ha'.sub k3)]
    exact k2
  | _ => exact ⟨fr', ha', hq⟩
end
end Go.Proofs.Ytbkaoncopohdbaa

/-
  A walk by frames and pieces of memory: a range over a function. No condition.
-/
import Derived.Test.YtpamjobiohbibaaEngI
import Derived.RangeFuncFrom
import Derived.RangeFuncLeaves
import Derived.RangeFuncCalls
import Derived.OrdersIn
namespace Go.Proofs.Ytpamjobiohbibaa
open Go.RowKit
set_option linter.unusedVariables false
set_option maxRecDepth 20000
/-! ### What is carried out plainly is carried out so in a round -/
abbrev FR (l : Nat) : Fence := Fence.wide.inRound l
def NoDef (o : Oper) : Prop := ∀ c, o.op ≠ .defer c
def noDefB (o : Oper) : Bool := match o.op with | .defer _ => false | _ => true
theorem noDef_of {o : Oper} (h : noDefB o = true) : NoDef o := fun c e => by unfold noDefB at h; rw [e] at h; cases h
theorem noDef_all {l : List Oper} (h : l.all noDefB = true) : ∀ o ∈ l, NoDef o := fun o ho => noDef_of (List.all_eq_true.1 h o ho)
section
variable {P : Program} {l n : Nat} {Q : Exit → Act → World → Prop}
theorem rows_in {row : String} {args : Array Value} {w : World} {R : Value → World → Prop} (h : Rows P row args w R) : RowsIn (FR l) n P row args w R := fun c cs _ =>
  let ⟨v, w', r, s⟩ := h c cs
  ⟨v, w', r, (show StepsIn (Machine.fenced P Fence.wide) P _ _ from stepsIn_wide.2 s)⟩
theorem oper_in {o : Oper} {a : Act} {w : World} {K : Act → World → Prop} (hd : NoDef o) (h : o.wp P a w K Q) : o.wpIn (FR l) n P a w K Q := by
  refine ⟨fun _ _ => trivial, ?_⟩
  rw [Oper.semAt_eq _ _ _ hd]
  unfold Oper.wp at h
  generalize (execOp a.eval o).run P w = r at *
  cases r with
  | ok x w' =>
    cases x <;> simp only [Oper.upon, Oper.uponIn] at h ⊢ <;> first
      | exact h
      | exact ⟨fun h => by simp [Fence.inRound, Fence.wide] at h, CallsIn.inRound l (callsIn_wide.2 (Calls.mono h fun e w'' he => by cases e <;> exact he))⟩
      | exact ⟨fun h => by simp [Fence.inRound, Fence.wide] at h, rows_in h⟩
  | halt x w' => cases x <;> simp only [Oper.upon, Oper.uponIn] at h ⊢ <;> exact h
theorem list_in (hQ : ¬ LetsOut Q) {ops : Array Oper} : ∀ (lst : List Oper) (a : Act) (w : World), (∀ o ∈ lst, NoDef o) → wpList P ops Q lst a w → wpListIn (FR l) n P ops Q lst a w
  | [], _, _, _, h => h
  | o :: r, a, w, hd, h => by
    unfold wpList at h
    unfold wpListIn
    split at h
    · rename_i hw
      rw [if_pos hw]
      rcases h with h | h
      · exact Oper.wpIn_mono (fun a w h => list_in hQ r a w (fun o ho => hd o (List.mem_cons_of_mem _ ho)) h) (oper_in (hd o List.mem_cons_self) h)
      · exact absurd h.2 hQ
    · rename_i hw
      rw [if_neg hw]
      exact ⟨fun _ _ => trivial, list_in hQ r _ w (fun o ho => hd o (List.mem_cons_of_mem _ ho)) h⟩
theorem any_in (hQ : ¬ LetsOut Q) {ops : Array Oper} {md : Region.Mode} (hd : ∀ o ∈ ops, NoDef o) : ∀ (fuel : Nat) (li : Array Bool) (a : Act) (w : World), wpAny P md ops Q fuel li a w → wpAnyIn (FR l) n P md ops Q fuel li a w
  | 0, _, _, _, h => h
  | fuel + 1, li, a, w, h => by
    refine ⟨h.1, fun i hi => ?_⟩
    have h := h.2 i hi
    unfold wpOp at h
    unfold wpOpIn
    cases ho : ops[i]? with
    | none =>
      simp only [ho] at h ⊢
      exact any_in hQ hd fuel _ a w h
    | some o =>
      simp only [ho] at h ⊢
      have hdo : NoDef o := hd o (Array.mem_of_getElem? ho)
      by_cases hw : Region.wanted o (yielded ops a.tmps) = true
      · rw [if_pos hw] at h ⊢
        rcases h with h | h
        · exact Oper.wpIn_mono (fun a w h => any_in hQ hd fuel _ a w h) (oper_in hdo h)
        · exact absurd h.2 hQ
      · rw [if_neg hw] at h ⊢
        exact ⟨fun _ _ => trivial, any_in hQ hd fuel _ _ w h⟩
end
/-! ### A round's body -/
def NX (C : Cx) (Q : Fr → List Ch → Prop) : Exit → Act → World → Prop
  | .normal, a, w => ∃ fr L, Agr C.N fr a ∧ SL C.B C.w0 L w ∧ Q fr L
  | _, _, _ => False
def NQ (Q : Fr → List Ch → Prop) : Exit → Fr → List Ch → Prop
  | .normal, fr, L => Q fr L
  | _, _, _ => False
def VR (C : Cx) (l n : Nat) (c : Code) (Q : Fr → List Ch → Prop) (fr : Fr) (L : List Ch) : Prop := ∀ a w, Agr C.N fr a → SL C.B C.w0 L w → c.wpIn (FR l) n C.P (NX C Q) a w
section
variable {C : Cx} {l n : Nat} {Q : Fr → List Ch → Prop} {fr : Fr} {L S : List Ch} {x y : Code}
theorem lift_nq : ∀ (e : Exit) (a : Act) (w : World), lift C (NQ Q) e a w → NX C Q e a w := fun e a w ⟨fr, L, ha, hs, hq⟩ => by
  cases e <;> first | exact ⟨fr, L, ha, hs, hq⟩ | exact hq.elim
theorem not_out : ¬ LetsOut (lift C (NQ Q)) := fun ⟨_, _, _, _, _, _, h⟩ => h
theorem not_outP : ¬ LetsOut (NoPanic (lift C (NQ Q))) := fun ⟨_, _, _, _, _, _, h⟩ => h
theorem vr_seq (h : VR C l n x (fun fr L => VR C l n y Q fr L) fr L) : VR C l n (.seq x y) Q fr L := fun a w ha hs =>
  wpIn_seq (wpIn_mono (h a w ha hs) fun e a w hq => by
    cases e <;> first | exact hq.elim | (obtain ⟨fr, L, ha, hs, hq⟩ := hq; exact hq a w ha hs))
theorem vr_block {id : Nat} (h : VR C l n x Q fr L) : VR C l n (.block id x) Q fr L := fun a w ha hs =>
  wpIn_block (wpIn_mono (h a w ha hs) fun e a w hq => by
    cases e <;> first | exact hq.elim | exact hq)
theorem vr_region {id : Nat} {lst : List Oper} (hd : lst.all noDefB = true) (h : VL C lst.toArray (NQ Q) lst fr L) : VR C l n (.region id lst.toArray false) Q fr L := fun a w ha hs =>
  wpIn_mono (wpIn_region_lit (list_in not_out lst a w (noDef_all hd) (h a w ha hs))) lift_nq
theorem vr_held {id : Nat} {lst : List Oper} (hd : lst.all noDefB = true) (hm : C.P.follows .mixedOrders = true) (hS : S.Sublist L) (h : VH C lst.toArray S (NQ Q) lst.toArray.size (Array.replicate lst.toArray.size false) fr L) : VR C l n (.region id lst.toArray true) Q fr L := fun a w ha hs =>
  wpIn_mono (wpIn_region_any hm (any_in not_outP (fun o ho => noDef_all hd o (by simpa using ho)) _ _ a _ (wpAny_of_held _ _ _ _ (h a _ ha (hs.drewN 1) ((hs.drewN 1).sub hS))))) fun e a w h => lift_nq e a w (NoPanic.imp e a w h)
theorem nq (h : Q fr L) : NQ Q .normal fr L := h
end
/-! ### Acts with marks -/
def mark (D : Nat) : Deferred := { target := .collected D, args := #[] }
theorem put_defers (a : Act) (ds : List Deferred) (d : Option Tmp) (v : Value) : ({ a with defers := a.defers ++ ds } : Act).put d v = { a.put d v with defers := (a.put d v).defers ++ ds } := by cases d <;> rfl
theorem list_marks {P : Program} {ops : Array Oper} {Q : Exit → Act → World → Prop} (ds : List Deferred) : ∀ (lst : List Oper) (a : Act) (w : World), wpList P ops Q lst a w →
    wpList P ops (fun e a' w' => ∃ a0 : Act, a' = { a0 with defers := a0.defers ++ ds } ∧ Q e a0 w') lst { a with defers := a.defers ++ ds } w
  | [], a, w, h => ⟨a, rfl, h⟩
  | o :: r, a, w, h => by
    unfold wpList at h ⊢
    by_cases hw : Region.wanted o (yielded ops a.tmps) = true
    · rw [if_pos hw] at h
      rw [if_pos (show Region.wanted o (yielded ops ({ a with defers := a.defers ++ ds } : Act).tmps) = true from hw)]
      rcases h with h | ⟨h1, a1, w1, h2⟩
      · refine .inl ?_
        have he : ({ a with defers := a.defers ++ ds } : Act).eval = a.eval := rfl
        unfold Oper.wp at h ⊢
        rw [he]
        generalize (execOp a.eval o).run P w = res at *
        cases res with
        | ok x w' =>
          cases x <;> simp only [Oper.upon] at h ⊢ <;> first
            | (rw [put_defers]; exact list_marks ds r _ _ h)
            | (refine Calls.mono h fun e w'' he => ?_
               cases e <;> dsimp only at he ⊢ <;> first
                | (rw [put_defers]; exact list_marks ds r _ _ he)
                | exact ⟨_, rfl, he⟩
                | (obtain ⟨a1, w1, h2⟩ := he; exact ⟨_, w1, a1, rfl, h2⟩))
            | exact Rows.mono h fun v w'' he => by rw [put_defers]; exact list_marks ds r _ _ he
            | (have h2 := list_marks ds r _ _ h; rw [← put_defers] at h2; exact h2)
        | halt x w' => cases x <;> simp only [Oper.upon] at h ⊢ <;> first | exact ⟨_, rfl, h⟩ | exact h
      · exact .inr ⟨h1, _, w1, a1, rfl, h2⟩
    · rw [if_neg hw] at h
      rw [if_neg (show ¬ Region.wanted o (yielded ops ({ a with defers := a.defers ++ ds } : Act).tmps) = true from hw), put_defers]
      exact list_marks ds r _ _ h
def VM (C : Cx) (D : Nat) (c : Code) (QQ : Exit → Act → World → Prop) (fr : Fr) (L : List Ch) : Prop := ∀ a w, a.defers = [mark D] → Agr C.N fr { a with defers := [] } → SL C.B C.w0 L w → c.wp C.P QQ a w
section
variable {C : Cx} {D : Nat} {QQ : Exit → Act → World → Prop} {fr : Fr} {L L' : List Ch} {x y : Code}
theorem vm_seq {id : Nat} {lst : List Oper} (h : VL C lst.toArray (NQ fun fr L => VM C D y QQ fr L) lst fr L) : VM C D (.seq (.region id lst.toArray false) y) QQ fr L := fun a w hd ha hs => by
  have h1 := list_marks [mark D] lst _ w (h { a with defers := [] } w ha hs)
  rw [show ({ ({ a with defers := [] } : Act) with defers := ({ a with defers := [] } : Act).defers ++ [mark D] } : Act) = a by rw [← hd]; rfl] at h1
  refine wp_seq (wp_mono (wp_region_lit h1) fun e a' w' hq => ?_)
  obtain ⟨a0, rfl, fr', L', ha', hs', hq⟩ := hq
  cases e <;> first
    | exact hq.elim
    | (refine hq _ w' (by simp [ha'.defers]) ?_ hs'
       have e0 : ({ ({ a0 with defers := a0.defers ++ [mark D] } : Act) with defers := [] } : Act) = a0 := by rw [← ha'.defers]
       rw [e0]; exact ha')
/-! ### A function with a range over a function -/
def FG (C : Cx) (fn : Func) (R : Value → List Ch → Prop) : Exit → Act → World → Prop := bodyPostM Fence.wide 8 C.P fn fun e w' => ∃ v L', e = .returned v ∧ R v L' ∧ SL C.B C.w0 L' w'
def VG (C : Cx) (c : Code) (QQ : Exit → Act → World → Prop) (fr : Fr) (L : List Ch) : Prop := ∀ a w, Agr C.N fr a → SL C.B C.w0 L w → c.wp C.P QQ a w
def TG (C : Cx) (y : Code) (QQ : Exit → Act → World → Prop) : Exit → Fr → List Ch → Prop
  | .normal, fr, L => VG C y QQ fr L
  | e, fr, L => ∀ a w, Agr C.N fr a → SL C.B C.w0 L w → QQ e a w
theorem vg_seq (h : VC C x (TG C y QQ) fr L) : VG C (.seq x y) QQ fr L := fun a w ha hs =>
  wp_seq (wp_mono (h a w ha hs) fun e a w ⟨fr, L, ha, hs, hq⟩ => by
    cases e <;> exact hq a w ha hs)
theorem tg_next (h : VG C y QQ fr L) : TG C y QQ .normal fr L := h
theorem tg_ret {fn : Func} {R : Value → List Ch → Prop} {P : Program} {B N : Nat} {w0 : World} {y : Code} (hN : fn.ntmps = N) (h : Ret P fn R .ret fr L) : TG ⟨P, N, B, w0⟩ y (FG ⟨P, N, B, w0⟩ fn R) .ret fr L := fun a w ha hs => by
  subst hN
  obtain ⟨v, L', h1, h2, h3⟩ := h B w0 a w ha hs
  show LeavesInM _ _ _ _ _ _ a.defers _ _
  rw [ha.defers]
  exact ⟨v, h1, v, L', rfl, h2, h3⟩
theorem SL.unmark {B : Nat} {w0 w : World} (h : SL B w0 (.obj D (.deferred (some [])) :: L) w) : SL B w0 L (w.putObj D (.deferred none)) :=
  (h.turn (c' := .obj D (.deferred none)) (grownBy_putObj' w D _) ⟨h.head.1, World.putObj_heap_same (Array.getElem?_eq_some_iff.1 h.head.2).1⟩ (.inr (.inl rfl))).tail
theorem vm_ret {fn : Func} {R : Value → List Ch → Prop} {P : Program} {B N : Nat} {w0 : World} (hN : fn.ntmps = N) (hp : L.Perm (.obj D (.deferred (some [])) :: L')) (h : Ret P fn R .ret fr L') : VM ⟨P, N, B, w0⟩ D .ret (FG ⟨P, N, B, w0⟩ fn R) fr L := fun a w hd ha hs => by
  subst hN
  have hs' := hs.perm hp
  obtain ⟨v, L'', h1, h2, h3⟩ := h B w0 _ _ ha hs'.unmark
  refine wp_ret ?_
  show LeavesInM _ _ _ _ _ _ a.defers _ _
  rw [hd]
  exact ⟨by simp, .inl ⟨D, _, rfl, run_takeDeferred hs'.head.2, v, h1, v, L'', rfl, h2, h3⟩⟩
theorem fn_marks {P : Program} {B : Nat} {w0 : World} {f : FuncId} {fn : Func} {c : Code} {args : List Value} {R : Value → List Ch → Prop} (hf : P.funcs[f]? = some fn) (N : Nat) (hN : fn.ntmps = N) (hb : fn.body = some c) (hl : Nat.ble args.length N = true) (fr0 : Fr) (hi : Ini N args fr0)
    (h : VG ⟨P, N, B, w0⟩ c (FG ⟨P, N, B, w0⟩ fn R) fr0 L) : Does P B w0 f args L R := fun w hw => by
  have hl := Nat.le_of_ble_eq_true hl
  subst hN
  refine callsIn_wide.1 (callsIn_of_wp_marks (n := 8) hf hb trivial (wpIn_wide.2 (h _ w ⟨rfl, ?_, fun t v ht => ?_⟩ hw)) rfl)
  · simp; omega
  · obtain ⟨h1, h2⟩ := hi.look t v ht
    simp only [List.size_toArray]
    by_cases hlt : t < args.length
    · rw [Array.getElem?_append_left (by simpa using hlt)]
      simp [hlt] at h2
      simp [hlt, h2]
    · rw [Array.getElem?_append_right (by simpa using hlt)]
      have h3 : args[t]? = none := List.getElem?_eq_none (by omega)
      simp [h3] at h2
      subst h2
      simp
      rw [Array.getElem?_replicate, if_pos (by omega)]
end
end Go.Proofs.Ytpamjobiohbibaa

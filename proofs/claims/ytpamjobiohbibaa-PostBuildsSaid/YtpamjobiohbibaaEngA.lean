/-
  A walk by frames and pieces of memory: what is known of the slots, what is owned of the heap; code, loops, exits. No condition.
-/
import Derived.Test.YtpamjobiohbibaaBase
import Derived.Deep.QuietTactic
import Derived.BigQuiet
import Derived.Deep.LoopGhost
namespace Go.Proofs.Ytpamjobiohbibaa
open Go.RowKit
set_option linter.unusedVariables false

/-! ## Frames -/
abbrev Fr := List (Nat × Value)
def look (t : Nat) : Fr → Option Value
  | [] => none
  | (s, v) :: r => bif Nat.beq s t then some v else look t r
def ev (fr : Fr) : Operand → Option Value
  | .tmp t => look t fr
  | .const v => some v
  | .global g => some (.pointer (some ⟨g, 0, none⟩))
  | .func f => some (.func (.func f) #[] #[])
def evs (fr : Fr) : List Operand → Option (List Value)
  | [] => some []
  | x :: r => match ev fr x, evs fr r with
    | some v, some vs => some (v :: vs)
    | _, _ => none
/-- what is known of the slots -/
structure Agr (N : Nat) (fr : Fr) (a : Act) : Prop where
  defers : a.defers = []
  size : a.tmps.size = N
  at_ : ∀ t v, look t fr = some v → a.tmps[t]? = some v
theorem Agr.tmp {N : Nat} {fr : Fr} {a : Act} (h : Agr N fr a) {x : Operand} {v : Value} (he : ev fr x = some v) : a.eval x = v := by
  cases x with
  | tmp t =>
    have := h.at_ t v he
    unfold Act.eval
    simp only [Array.getD_eq_getD_getElem?, this, Option.getD_some]
  | const u => exact Option.some.inj he
  | global g => exact Option.some.inj he
  | func f => exact Option.some.inj he
theorem Agr.evs {N : Nat} {fr : Fr} {a : Act} (h : Agr N fr a) : ∀ {xs : List Operand} {vs : List Value}, evs fr xs = some vs → xs.map a.eval = vs
  | [], _, he => by simpa [Proofs.Ytpamjobiohbibaa.evs] using he
  | x :: r, vs, he => by
    unfold Proofs.Ytpamjobiohbibaa.evs at he
    split at he
    · rename_i v vs' h1 h2
      injection he with he
      subst he
      simp [h.tmp h1, h.evs h2]
    · cases he
theorem Agr.put {N : Nat} {fr : Fr} {a : Act} (h : Agr N fr a) {d : Nat} (hd : Nat.blt d N = true) (v : Value) : Agr N ((d, v) :: fr) (a.put (some d) v) := by
  refine ⟨h.defers, by simp [Act.put, h.size], fun t u ht => ?_⟩
  have hdn : d < N := by simpa using hd
  unfold look at ht
  by_cases e : d = t
  · subst e
    simp at ht
    subst ht
    simp [Act.put, h.size, hdn]
  · have : Nat.beq d t = false := by
      cases hb : Nat.beq d t with
      | false => rfl
      | true => exact absurd (Nat.eq_of_beq_eq_true hb) e
    rw [this] at ht
    simp only [cond_false] at ht
    have := h.at_ t u ht
    simp [Act.put, e, this]
def Sub (fr : Fr) : Fr → Prop
  | [] => True
  | (t, v) :: r => look t fr = some v ∧ Sub fr r
theorem Sub.look {fr : Fr} : ∀ {fr' : Fr}, Sub fr fr' → ∀ t v, look t fr' = some v → look t fr = some v
  | [], _, t, v, h => by cases h
  | (s, u) :: r, hs, t, v, h => by
    unfold Proofs.Ytpamjobiohbibaa.look at h
    cases hb : Nat.beq s t with
    | true =>
      rw [hb] at h
      simp only [cond_true, Option.some.injEq] at h
      have := Nat.eq_of_beq_eq_true hb
      subst this; subst h
      exact hs.1
    | false =>
      rw [hb] at h
      exact hs.2.look t v h
theorem Agr.sub {N : Nat} {fr fr' : Fr} {a : Act} (h : Agr N fr a) (hs : Sub fr fr') : Agr N fr' a := ⟨h.defers, h.size, fun t v ht => h.at_ t v (hs.look t v ht)⟩

/-! ## Pieces of memory -/
inductive Ch where
  | own (e : TypeId) (size : Nat) (A : Option Addr) (n c : Nat) (xs : List Value)
  | blk (g : Nat) (t : TypeId) (cs : List Value)
  | obj (g : Nat) (o : Obj)
def Ch.fp : Ch → Option Nat
  | .own _ _ A _ c _ => if c = 0 then none else A.map (·.block)
  | .blk g _ _ => some g
  | .obj g _ => some g
def OwnR (w : World) (B : Nat) (e : TypeId) (size : Nat) (A : Option Addr) (n c : Nat) (xs : List Value) : Prop :=
  xs.length = n * size ∧ n ≤ c ∧ (c = 0 ∨ ∃ g cur, A = some ⟨g, 0, none⟩ ∧ B ≤ g ∧ w.heap[g]? = some (.cells cur e (0, 0)) ∧ c ≤ maxLen ∧ cur.size = c * size ∧ cur.toList.take (n * size) = xs)
def Ch.holds (B : Nat) (w : World) : Ch → Prop
  | .own e size A n c xs => OwnR w B e size A n c xs
  | .blk g t cs => B ≤ g ∧ Blk w g t cs.toArray
  | .obj g o => B ≤ g ∧ w.heap[g]? = some o
def Ch.apart (c d : Ch) : Prop := c.fp = none ∨ c.fp ≠ d.fp
structure Cx where
  P : Program
  N : Nat
  B : Nat
  w0 : World
/-- the pieces are there, apart from each other, above B; below B nothing has turned -/
structure SL (B : Nat) (w0 : World) (L : List Ch) (w : World) : Prop where
  below : Below B w0 w
  base : B ≤ w.heap.size
  all : ∀ c ∈ L, c.holds B w
  apart : L.Pairwise Ch.apart
theorem Ch.apart.symm {c d : Ch} (h : c.apart d) : d.apart c := by
  rcases h with h | h
  · by_cases hd : d.fp = none
    · exact .inl hd
    · exact .inr (by rw [h]; exact hd)
  · by_cases hd : d.fp = none
    · exact .inl hd
    · exact .inr (Ne.symm h)
theorem Ch.holds.lt {B : Nat} {w : World} {c : Ch} (h : c.holds B w) {g : Nat} (hg : c.fp = some g) : B ≤ g ∧ g < w.heap.size := by
  cases c with
  | own e size A n c xs =>
    obtain ⟨_, _, h⟩ := h
    simp only [Ch.fp] at hg
    by_cases hc : c = 0
    · rw [if_pos hc] at hg; cases hg
    · rw [if_neg hc] at hg
      obtain ⟨g', cur, rfl, h1, h2, _⟩ := h.resolve_left hc
      simp at hg
      subst hg
      exact ⟨h1, (Array.getElem?_eq_some_iff.1 h2).1⟩
  | blk g' t cs =>
    simp only [Ch.fp, Option.some.injEq] at hg
    subst hg
    exact ⟨h.1, h.2.lt⟩
  | obj g' o =>
    simp only [Ch.fp, Option.some.injEq] at hg
    subst hg
    exact ⟨h.1, (Array.getElem?_eq_some_iff.1 h.2).1⟩
/-- a piece stays if its block stays -/
theorem Ch.holds.keep {B : Nat} {w w' : World} {c : Ch} (h : c.holds B w) (hk : ∀ g, c.fp = some g → w'.heap[g]? = w.heap[g]?) : c.holds B w' := by
  cases c with
  | own e size A n c xs =>
    obtain ⟨h1, h2, h3⟩ := h
    refine ⟨h1, h2, ?_⟩
    by_cases hc : c = 0
    · exact .inl hc
    · obtain ⟨g, cur, rfl, k1, k2, k3⟩ := h3.resolve_left hc
      refine .inr ⟨g, cur, rfl, k1, ?_, k3⟩
      rw [hk g (by simp [Ch.fp, hc])]; exact k2
  | blk g t cs =>
    refine ⟨h.1, ?_⟩
    unfold Blk
    rw [hk g rfl]; exact h.2
  | obj g o => exact ⟨h.1, by rw [hk g rfl]; exact h.2⟩
theorem Below.le_trans {B : Nat} {w0 w w' : World} {row : Option Nat} (h : Below B w0 w) (hg : w.grownBy w' row) (hb : B ≤ w.heap.size) (hr : ∀ g, row = some g → B ≤ g) : Below B w0 w' := h.grown hg hb hr
section
variable {B : Nat} {w0 w w' : World} {L L' : List Ch} {c c' d : Ch}
theorem SL.perm (h : SL B w0 L w) (hp : L.Perm L') : SL B w0 L' w :=
  ⟨h.below, h.base, fun c hc => h.all c (hp.mem_iff.2 hc), (hp.pairwise_iff (fun h => Ch.apart.symm h)).1 h.apart⟩
theorem SL.tail (h : SL B w0 (c :: L) w) : SL B w0 L w := ⟨h.below, h.base, fun d hd => h.all d (List.mem_cons_of_mem _ hd), h.apart.tail⟩
theorem SL.sub (h : SL B w0 L w) (hs : L'.Sublist L) : SL B w0 L' w := ⟨h.below, h.base, fun d hd => h.all d (hs.subset hd), h.apart.sublist hs⟩
theorem SL.head (h : SL B w0 (c :: L) w) : c.holds B w := h.all c List.mem_cons_self
/-- the first piece turns, the others stay -/
theorem SL.turn (h : SL B w0 (c :: L) w) (hg : w.grownBy w' c.fp) (hc : c'.holds B w') (hf : c'.fp = none ∨ c'.fp = c.fp ∨ ∃ g, c'.fp = some g ∧ w.heap.size ≤ g) : SL B w0 (c' :: L) w' := by
  have hap := List.pairwise_cons.1 h.apart
  refine ⟨h.below.grown hg h.base (fun k hk => (h.head.lt hk).1), Nat.le_trans h.base hg.size, fun d hd => ?_, List.pairwise_cons.2 ⟨fun d hd => ?_, hap.2⟩⟩
  · rcases List.mem_cons.1 hd with rfl | hd
    · exact hc
    · refine (h.tail.all d hd).keep fun g hg' => hg.block g ((h.tail.all d hd).lt hg').2 fun e => ?_
      rcases hap.1 d hd with h0 | h0
      · rw [h0] at e; cases e
      · exact h0 (e.symm.trans hg'.symm)
  · rcases hf with hf | hf | ⟨g, hf, hge⟩
    · exact .inl hf
    · rcases hap.1 d hd with h0 | h0
      · exact .inl (hf.trans h0)
      · exact .inr (hf ▸ h0)
    · refine .inr fun e => ?_
      have := ((h.tail.all d hd).lt (e.symm.trans hf)).2
      omega
/-- nothing that is there turns -/
theorem SL.grow (h : SL B w0 L w) (hg : w.grownBy w' none) : SL B w0 L w' :=
  ⟨h.below.grown hg h.base (fun k hk => by cases hk), Nat.le_trans h.base hg.size, fun d hd => (h.all d hd).keep fun g hg' => hg.block g ((h.all d hd).lt hg').2 (by simp), h.apart⟩
/-- a new piece, in a block that was not there -/
theorem SL.cons_new (h : SL B w0 L w) (hg : w.grownBy w' none) (hc : c'.holds B w') (hf : c'.fp = none ∨ ∃ g, c'.fp = some g ∧ w.heap.size ≤ g) : SL B w0 (c' :: L) w' := by
  have h' := h.grow hg
  refine ⟨h'.below, h'.base, fun d hd => ?_, List.pairwise_cons.2 ⟨fun d hd => ?_, h.apart⟩⟩
  · rcases List.mem_cons.1 hd with rfl | hd
    · exact hc
    · exact h'.all d hd
  · rcases hf with hf | ⟨g, hf, hge⟩
    · exact .inl hf
    · refine .inr fun e => ?_
      have := ((h.all d hd).lt (e.symm.trans hf)).2
      omega
theorem grownBy_drewN (w : World) (n : Nat) : w.grownBy (w.drewN n) none := ⟨rfl, rfl, rfl, Nat.le_refl _, fun _ _ _ => rfl⟩
theorem SL.drewN (h : SL B w0 L w) (n : Nat) : SL B w0 L (w.drewN n) := h.grow (grownBy_drewN w n)
theorem SL.drew (h : SL B w0 L w) : SL B w0 L w.drew := h.grow ⟨rfl, rfl, rfl, Nat.le_refl _, fun _ _ _ => rfl⟩
/-- of what a callee says of the world that it got -/
theorem SL.pure_call (h : SL B w0 L w) (hb : Below w.heap.size w w') : SL B w0 L w' :=
  h.grow ⟨hb.os, hb.tape, hb.output, hb.size, fun k hk _ => hb.block k hk⟩
theorem SL.nil_ (w : World) : SL w.heap.size w [] w := ⟨Below.refl _ _, Nat.le_refl _, by simp, List.Pairwise.nil⟩
end
/-- where a piece lies in a list, and the list with another one in its place -/
inductive Sel : Ch → List Ch → (Ch → List Ch) → Prop where
  | hd {c : Ch} {L : List Ch} : Sel c (c :: L) (fun d => d :: L)
  | tl {b c : Ch} {L : List Ch} {f : Ch → List Ch} (h : Sel c L f) : Sel c (b :: L) (fun d => b :: f d)
theorem Sel.perm {c : Ch} {L : List Ch} {f : Ch → List Ch} (h : Sel c L f) : ∃ R, L.Perm (c :: R) ∧ ∀ d, (f d).Perm (d :: R) := by
  induction h with
  | @hd c L => exact ⟨L, .refl _, fun _ => .refl _⟩
  | @tl b c L f h ih =>
    obtain ⟨R, h1, h2⟩ := ih
    exact ⟨b :: R, (h1.cons b).trans (.swap ..), fun d => ((h2 d).cons b).trans (.swap ..)⟩
theorem Sel.mem {c : Ch} {L : List Ch} {f : Ch → List Ch} (h : Sel c L f) : c ∈ L := by
  obtain ⟨R, h1, _⟩ := h.perm
  exact h1.mem_iff.2 List.mem_cons_self
/-- a slice value reads as the list, whatever the world, while the pieces stay -/
def Bor (B : Nat) (w0 : World) (L : List Ch) (size : Nat) (v : Value) (n : Nat) (xs : List Value) : Prop := ∀ w, SL B w0 L w → Rd w w.heap.size size v n xs
section
variable {B : Nat} {w0 w w' : World} {L L' : List Ch} {c c' d : Ch} {size n k m : Nat} {v : Value} {xs : List Value}
theorem OwnR.rd {e : TypeId} {A : Option Addr} {c : Nat} (h : OwnR w B e size A n c xs) : Rd w w.heap.size size (.slice A n c) n xs := by
  obtain ⟨h1, h2, h3⟩ := h
  refine ⟨A, c, rfl, h2, h1, fun hn => ?_⟩
  obtain ⟨g, cur, rfl, k1, k2, k3, k4, k5⟩ := h3.resolve_left (by omega)
  refine ⟨_, rfl, (Array.getElem?_eq_some_iff.1 k2).1, fun j u hu => ?_⟩
  rw [Addr.add_lit, Nat.zero_add, cell_of_row w g j cur e (0, 0) k2]
  rw [← k5, List.getElem?_take] at hu
  split at hu
  · simpa using hu
  · cases hu
theorem Bor.in_ (h : Rd w0 B size v n xs) : Bor B w0 L size v n xs := fun w hs => (h.below hs.below).more hs.base
theorem Bor.own {e : TypeId} {A : Option Addr} {c : Nat} (h : Ch.own e size A n c xs ∈ L) : Bor B w0 L size (.slice A n c) n xs := fun w hs => OwnR.rd (hs.all _ h)
theorem Bor.cons (h : Bor B w0 L size v n xs) : Bor B w0 (c :: L) size v n xs := fun w hs => h w hs.tail
theorem Bor.mono (h : Bor B w0 L size v n xs) (hs : L.Sublist L') : Bor B w0 L' size v n xs := fun w h' => h w (h'.sub hs)
theorem Bor.perm (h : Bor B w0 L size v n xs) (hp : L.Perm L') : Bor B w0 L' size v n xs := fun w h' => h w (h'.perm hp.symm)
theorem Bor.nil_ {A : Option Addr} {c : Nat} : Bor B w0 L size (.slice A 0 c) 0 [] := fun w _ => ⟨A, c, rfl, Nat.zero_le _, by simp, fun h => absurd h (by omega)⟩
theorem Bor.cut {A : Option Addr} {c : Nat} (h : Bor B w0 L size (.slice A n c) n xs) (hk : k ≤ n) : Bor B w0 L size (.slice (if c = k then A else A.map (·.add (k * size))) (n - k) (c - k)) (n - k) (xs.drop (k * size)) := fun w hs => (h w hs).cut hk
theorem Bor.head_ {A : Option Addr} {c : Nat} (h : Bor B w0 L size (.slice A n c) n xs) (hk : k ≤ n) : Bor B w0 L size (.slice A k c) k (xs.take (k * size)) := fun w hs => (h w hs).head_ hk
end

/-! ## Code -/
def lift (C : Cx) (Q : Exit → Fr → List Ch → Prop) : Exit → Act → World → Prop := fun e a w => ∃ fr L, Agr C.N fr a ∧ SL C.B C.w0 L w ∧ Q e fr L
def VC (C : Cx) (c : Code) (Q : Exit → Fr → List Ch → Prop) (fr : Fr) (L : List Ch) : Prop := ∀ a w, Agr C.N fr a → SL C.B C.w0 L w → c.wp C.P (lift C Q) a w
def VL (C : Cx) (ops : Array Oper) (Q : Exit → Fr → List Ch → Prop) (l : List Oper) (fr : Fr) (L : List Ch) : Prop :=
  ∀ a w, Agr C.N fr a → SL C.B C.w0 L w → wpList C.P ops (lift C Q) l a w
def Then (C : Cx) (y : Code) (Q : Exit → Fr → List Ch → Prop) : Exit → Fr → List Ch → Prop
  | .normal, fr, L => VC C y Q fr L
  | e, fr, L => Q e fr L
def InB (id : Nat) (Q : Exit → Fr → List Ch → Prop) : Exit → Fr → List Ch → Prop
  | .exit i, fr, L => if i = id then Q .normal fr L else Q (.exit i) fr L
  | e, fr, L => Q e fr L
section
variable {C : Cx} {Q : Exit → Fr → List Ch → Prop} {fr fr' : Fr} {L L' : List Ch} {x y : Code} {ops : Array Oper} {l : List Oper}
theorem vc_seq (h : VC C x (Then C y Q) fr L) : VC C (.seq x y) Q fr L := fun a w ha hs => by
  refine wp_seq (wp_mono (h a w ha hs) fun e a w ⟨fr, L, ha, hs, hq⟩ => ?_)
  cases e <;> first | exact hq a w ha hs | exact ⟨fr, L, ha, hs, hq⟩
theorem vc_block {id : Nat} (h : VC C x (InB id Q) fr L) : VC C (.block id x) Q fr L := fun a w ha hs => by
  refine wp_block (wp_mono (h a w ha hs) fun e a w ⟨fr, L, ha, hs, hq⟩ => ?_)
  cases e with
  | exit i =>
    unfold Exit.inBlock InB at *
    simp only at hq ⊢
    split
    · rename_i hi; rw [if_pos hi] at hq; exact ⟨fr, L, ha, hs, hq⟩
    · rename_i hi; rw [if_neg hi] at hq; exact ⟨fr, L, ha, hs, hq⟩
  | _ => exact ⟨fr, L, ha, hs, hq⟩
theorem vc_skip (h : Q .normal fr L) : VC C .skip Q fr L := fun a w ha hs => wp_skip ⟨fr, L, ha, hs, h⟩
theorem vc_exit {id : Nat} (h : Q (.exit id) fr L) : VC C (.exit id) Q fr L := fun a w ha hs => wp_exit ⟨fr, L, ha, hs, h⟩
theorem vc_ret (h : Q .ret fr L) : VC C .ret Q fr L := fun a w ha hs => wp_ret ⟨fr, L, ha, hs, h⟩
theorem vc_cond_t {c : Operand} (hc : ev fr c = some (.bool true)) (h : VC C x Q fr L) : VC C (.cond c x y) Q fr L := fun a w ha hs => wp_cond_true (ha.tmp hc) (h a w ha hs)
theorem vc_cond_f {c : Operand} (hc : ev fr c = some (.bool false)) (h : VC C y Q fr L) : VC C (.cond c x y) Q fr L := fun a w ha hs => wp_cond_false (ha.tmp hc) (h a w ha hs)
theorem vc_cond {c : Operand} {b : Bool} (hc : ev fr c = some (.bool b)) (ht : b = true → VC C x Q fr L) (hf : b = false → VC C y Q fr L) : VC C (.cond c x y) Q fr L :=
  fun a w ha hs => wp_cond_split (ha.tmp hc) (fun h => ht h a w ha hs) (fun h => hf h a w ha hs)
theorem vc_decide {c : Operand} {p : Prop} [Decidable p] (hc : ev fr c = some (.bool (decide p))) (ht : p → VC C x Q fr L) (hf : ¬ p → VC C y Q fr L) : VC C (.cond c x y) Q fr L :=
  vc_cond hc (fun h => ht (of_decide_eq_true h)) (fun h => hf (of_decide_eq_false h))
theorem vc_region {id : Nat} {l : List Oper} (h : VL C l.toArray Q l fr L) : VC C (.region id l.toArray false) Q fr L := fun a w ha hs => wp_region_lit (h a w ha hs)
/-- from here on less is remembered -/
theorem vc_weaken (fr' : Fr) (hs : Sub fr fr') (h : VC C x Q fr' L) : VC C x Q fr L := fun a w ha hw => h a w (ha.sub hs) hw
theorem vc_drop (hs : L'.Sublist L) (h : VC C x Q fr L') : VC C x Q fr L := fun a w ha hw => h a w ha (hw.sub hs)
theorem vc_perm (hs : L.Perm L') (h : VC C x Q fr L') : VC C x Q fr L := fun a w ha hw => h a w ha (hw.perm hs)
theorem vl_drop (hs : L'.Sublist L) (h : VL C ops Q l fr L') : VL C ops Q l fr L := fun a w ha hw => h a w ha (hw.sub hs)
theorem vl_perm (hs : L.Perm L') (h : VL C ops Q l fr L') : VL C ops Q l fr L := fun a w ha hw => h a w ha (hw.perm hs)
/-- the end of a region: the slots that are remembered -/
theorem vl_end (fr' : Fr) (hs : Sub fr fr') (h : Q .normal fr' L) : VL C ops Q [] fr L := fun a w ha hw => wpList_nil ⟨fr', L, ha.sub hs, hw, h⟩
theorem then_next (h : VC C y Q fr L) : Then C y Q .normal fr L := h
theorem then_out {e : Exit} (he : ∀ (x : Unit), e ≠ .normal) (h : Q e fr L) : Then C y Q e fr L := by
  cases e <;> first | exact absurd rfl (he ()) | exact h
theorem in_eq {id : Nat} (h : Q .normal fr L) : InB id Q (.exit id) fr L := by unfold InB; simp only [if_true]; exact h
theorem in_ne {i id : Nat} (hi : Nat.beq i id = false) (h : Q (.exit i) fr L) : InB id Q (.exit i) fr L := by
  unfold InB
  simp only
  rw [if_neg (by intro e; subst e; simp at hi)]
  exact h
theorem in_ret {id : Nat} (h : Q .ret fr L) : InB id Q .ret fr L := h
theorem in_normal {id : Nat} (h : Q .normal fr L) : InB id Q .normal fr L := h
/-- a loop: its state is told by s; 'm s' falls in each round -/
def InL {σ : Type} (F : σ → Fr) (G : σ → List Ch) (ok : σ → Prop) (m : σ → Nat) (s : σ) (Q : Exit → Fr → List Ch → Prop) : Exit → Fr → List Ch → Prop
  | .normal, fr, L => ∃ s', ok s' ∧ m s' < m s ∧ Sub fr (F s') ∧ L.Perm (G s')
  | e, fr, L => Q e fr L
theorem vc_loop {σ : Type} (F : σ → Fr) (G : σ → List Ch) (ok : σ → Prop) (m : σ → Nat) (s0 : σ) (h0 : ok s0) (hf : Sub fr (F s0)) (hg : L.Perm (G s0))
    (round : ∀ s, ok s → VC C x (InL F G ok m s Q) (F s) (G s)) : VC C (.loop x) Q fr L := fun a w ha hw => by
  refine wp_loop_ghost (fun n a w => ∃ s, m s = n ∧ ok s ∧ Agr C.N (F s) a ∧ SL C.B C.w0 (G s) w) (m s0) ⟨s0, rfl, h0, ha.sub hf, hw.perm hg⟩ ?_
  rintro n a w ⟨s, rfl, hok, ha, hw⟩
  refine wp_mono (round s hok a w ha hw) fun e a w ⟨fr, L, ha, hs, hq⟩ => ?_
  cases e with
  | normal =>
    obtain ⟨s', k1, k2, k3, k4⟩ := hq
    exact ⟨_, k2, s', rfl, k1, ha.sub k3, hs.perm k4⟩
  | _ => exact ⟨fr, L, ha, hs, hq⟩
theorem in_loop {σ : Type} {F : σ → Fr} {G : σ → List Ch} {ok : σ → Prop} {m : σ → Nat} {s : σ} (s' : σ) (h1 : ok s') (h2 : m s' < m s) (h3 : Sub fr (F s')) (h4 : L.Perm (G s')) : InL F G ok m s Q .normal fr L := ⟨s', h1, h2, h3, h4⟩
theorem in_loop_out {σ : Type} {F : σ → Fr} {G : σ → List Ch} {ok : σ → Prop} {m : σ → Nat} {s : σ} {e : Exit} (he : ∀ (x : Unit), e ≠ .normal) (h : Q e fr L) : InL F G ok m s Q e fr L := by
  cases e <;> first | exact absurd rfl (he ()) | exact h
end
end Go.Proofs.Ytpamjobiohbibaa

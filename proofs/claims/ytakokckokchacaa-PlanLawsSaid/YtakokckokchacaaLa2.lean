/-
  Texts of one proof, joined: part 2. No condition.
-/
import Derived.Test.YtakokckokchacaaLa1
import Derived.OrdersHeld
import Derived.Deep.RegionHeld3
import Derived.Lib.SliceRun
import Derived.Laws.CopyRow
import Derived.Laws.IdiomCopy
import Derived.Laws.StructEq
import Derived.Test.YtakokckokchacaaProg
import Derived.WalkKit
import Derived.Laws.BitsAllLaws
import Derived.Laws.BitsLemmas
namespace Go.Proofs.Ytakokckokchacaa
open Go.RowKit
set_option linter.unusedVariables false
section
variable {C : Cx} {Q : Exit → Fr → List Ch → Prop} {fr fr' : Fr} {L L' S : List Ch} {ops : Array Oper} {op : Op} {ty : TypeId} {pos : String} {af : Array Edge} {d : Nat} {v : Value} {fuel : Nat} {li : Array Bool}
def VH (C : Cx) (ops : Array Oper) (S : List Ch) (Q : Exit → Fr → List Ch → Prop) (fuel : Nat) (li : Array Bool) (fr : Fr) (L : List Ch) : Prop :=
  ∀ a w, Agr C.N fr a → SL C.B C.w0 L w → SL C.B C.w0 S w → wpAnyH C.P .any ops (NoPanic (lift C Q)) (SL C.B C.w0 S) fuel li a w
theorem vh_region {id : Nat} {l : List Oper} (hm : C.P.follows .mixedOrders = true) (hS : S.Sublist L) (h : VH C l.toArray S Q l.toArray.size (Array.replicate l.toArray.size false) fr L) : VC C (.region id l.toArray true) Q fr L := fun a w ha hw =>
  wp_region_noPanic (wp_region_held hm (h a _ ha (hw.drewN 1) ((hw.drewN 1).sub hS)))
theorem vh_take (i : Nat) (ho : ops[i]? = some ⟨some d, op, ty, pos, af, none⟩) (hs : Region.noSelect ops = true) (hf : Region.free .any ops li i = true) (hr : (Region.ready .any ops li).contains i = true) (h : Det C fr S op ty v) (hd : Nat.blt d C.N = true)
    (k : VH C ops S Q fuel (li.setIfInBounds i true) ((d, v) :: fr) L) : VH C ops S Q (fuel + 1) li fr L := fun a w ha hw hS =>
  wpAnyH_take ho hs hf hr (fun _ _ _ h => h) (.inl ⟨rfl, fun w hw => h a w ha hw _ _ _ _⟩) hS (k _ w (ha.put hd v) hw hS)
/-- one operation that is carried out -/
def Step (C : Cx) (ops : Array Oper) (S : List Ch) (Q : Exit → Fr → List Ch → Prop) (fuel : Nat) (li : Array Bool) (fr : Fr) (L : List Ch) (i : Nat) : Prop :=
  ∀ a w, Agr C.N fr a → SL C.B C.w0 L w → SL C.B C.w0 S w → wpOp C.P ops (NoPanic (lift C Q)) i (fun a' w' => SL C.B C.w0 S w' ∧ wpAnyH C.P .any ops (NoPanic (lift C Q)) (SL C.B C.w0 S) fuel (li.setIfInBounds i true) a' w') a w
theorem vh_one (i : Nat) (hr : Region.ready .any ops li = [i]) (h : Step C ops S Q fuel li fr L i) : VH C ops S Q (fuel + 1) li fr L := fun a w ha hw hS =>
  wpAnyH_all hr (by simp) fun j hj => by rw [List.mem_singleton.1 hj]; exact h a w ha hw hS
theorem vh_two (i j : Nat) (hr : Region.ready .any ops li = [i, j]) (h1 : Step C ops S Q fuel li fr L i) (h2 : Step C ops S Q fuel li fr L j) : VH C ops S Q (fuel + 1) li fr L := fun a w ha hw hS =>
  wpAnyH_all hr (by simp) fun k hk => by
    rcases List.mem_cons.1 hk with rfl | hk
    · exact h1 a w ha hw hS
    · rw [List.mem_singleton.1 hk]; exact h2 a w ha hw hS
/-- a guard that lets the operation be carried out -/
inductive Gd (ops : Array Oper) (fr : Fr) : Option (Nat × Bool) → Prop where
  | no : Gd ops fr none
  | yes {j t : Nat} {want : Bool} (hj : (ops[j]?).bind (·.dst) = some t) (ht : look t fr = some (.bool want)) : Gd ops fr (some (j, want))
theorem Gd.wanted {g : Option (Nat × Bool)} {dd : Option Tmp} {a : Act} {N : Nat} (h : Gd ops fr g) (ha : Agr N fr a) : Region.wanted ⟨dd, op, ty, pos, af, g⟩ (yielded ops a.tmps) = true := by
  cases h with
  | no => rfl
  | yes hj ht => rw [wanted_iff hj (ha.at_ _ _ ht)]; simp
theorem st_eff {i : Nat} {R : Value → List Ch → Prop} {g : Option (Nat × Bool)} (ho : ops[i]? = some ⟨some d, op, ty, pos, af, g⟩) (hg : Gd ops fr g) (h : Eff C fr L op ty R) (hd : Nat.blt d C.N = true) (hS : ∀ v L', R v L' → S.Sublist L')
    (k : ∀ v L', R v L' → VH C ops S Q fuel (li.setIfInBounds i true) ((d, v) :: fr) L') : Step C ops S Q fuel li fr L i := fun a w ha hw _ => by
  obtain ⟨v, w', L', hr, hR, hs⟩ := h a w ha hw (some d) pos af g
  unfold wpOp
  simp only [ho]
  rw [if_pos (hg.wanted ha)]
  refine .inl ?_
  unfold Oper.wp
  have hs2 := hs.sub (hS v L' hR)
  rcases hr with hr | ⟨hr, rfl⟩ <;> rw [hr] <;> exact ⟨hs2, k _ _ hR _ _ (ha.put hd _) hs hs2⟩
theorem st_eff0 {i : Nat} {R : Value → List Ch → Prop} {g : Option (Nat × Bool)} (ho : ops[i]? = some ⟨none, op, ty, pos, af, g⟩) (hg : Gd ops fr g) (h : Eff C fr L op ty R) (hS : ∀ v L', R v L' → S.Sublist L')
    (k : ∀ v L', R v L' → VH C ops S Q fuel (li.setIfInBounds i true) fr L') : Step C ops S Q fuel li fr L i := fun a w ha hw _ => by
  obtain ⟨v, w', L', hr, hR, hs⟩ := h a w ha hw none pos af g
  unfold wpOp
  simp only [ho]
  rw [if_pos (hg.wanted ha)]
  refine .inl ?_
  unfold Oper.wp
  have hs2 := hs.sub (hS v L' hR)
  rcases hr with hr | ⟨hr, rfl⟩ <;> rw [hr] <;> exact ⟨hs2, k _ _ hR _ _ ha hs hs2⟩
theorem st_call {i : Nat} {ff : FuncId} {as_ : List Operand} {ats : Array TypeId} {vs : List Value} {R : Value → List Ch → Prop} {g : Option (Nat × Bool)} (ho : ops[i]? = some ⟨some d, .call { callee := .value (.func ff), args := as_.toArray, argTypes := ats }, ty, pos, af, g⟩) (hg : Gd ops fr g) (hc : Callable C.P ff) (he : evs fr as_ = some vs) (h : Does C.P C.B C.w0 ff vs L R) (hd : Nat.blt d C.N = true) (hS : ∀ v L', R v L' → S.Sublist L')
    (k : ∀ v L', R v L' → VH C ops S Q fuel (li.setIfInBounds i true) ((d, v) :: fr) L') : Step C ops S Q fuel li fr L i := fun a w ha hw _ => by
  unfold wpOp
  simp only [ho]
  rw [if_pos (hg.wanted ha)]
  refine .inl ?_
  unfold Oper.wp
  rw [execOp_callv hc (fst := #[]) (cap := #[]) rfl, ha.evs he, Array.append_empty, Array.empty_append]
  refine Calls.mono (h w hw) fun e w' ⟨v, L', he, hR, hs⟩ => ?_
  subst he
  have hs2 := hs.sub (hS v L' hR)
  exact ⟨hs2, k _ _ hR _ _ (ha.put hd _) hs hs2⟩
theorem vh_done (base : Fr) (hs : Sub fr base) (hr : Region.ready .any ops li = []) (h : Q .normal base L) : VH C ops S Q fuel li fr L := fun a w ha hw _ => wpAnyH_done hr (show NoPanic (lift C Q) .normal a w from ⟨base, L, ha.sub hs, hw, h⟩) _
/-! ### Rows that are laid out -/
def evp (fr : Fr) : Nat → List (Nat × Operand) → Option (List Value)
  | _, [] => some []
  | k, (i, x) :: r => bif Nat.beq i k then (match ev fr x, evp fr (k + 1) r with
    | some v, some vs => some (v :: vs)
    | _, _ => none) else none
theorem fill_seq {a : Act} {N : Nat} (ha : Agr N fr a) : ∀ (parts : List (Nat × Operand)) (k : Nat) (vs : List Value) (cells : Array Value), evp fr k parts = some vs → (∀ u ∈ vs, u.oneCell' = true) → k + vs.length ≤ cells.size →
    ∃ out, Instr.fill (fun i => some (i * 1, 1)) cells (parts.map fun p => (p.1, a.eval p.2)) = some out ∧ out.size = cells.size ∧ (∀ j, j < k → out[j]? = cells[j]?) ∧ (∀ j, j < vs.length → out[k + j]? = vs[j]?)
  | [], k, vs, cells, h, _, _ => by
    simp [evp] at h
    subst h
    exact ⟨cells, rfl, rfl, fun _ _ => rfl, fun j hj => absurd hj (by simp)⟩
  | (i, x) :: r, k, vs, cells, h, h1, hl => by
    unfold evp at h
    cases hb : Nat.beq i k with
    | false => rw [hb] at h; cases h
    | true =>
      rw [hb] at h
      have hik := Nat.eq_of_beq_eq_true hb
      subst hik
      simp only [cond_true] at h
      split at h
      · rename_i v vs' e1 e2
        injection h with h
        subst h
        have hv1 := h1 v (by simp)
        have hv : v.cells = #[v] := by cases v <;> simp_all [Value.cells, Value.oneCell']
        simp only [List.length_cons] at hl
        obtain ⟨out, q1, q2, q3, q4⟩ := fill_seq ha r (i + 1) vs' (cells.setIfInBounds i v) e2 (fun u hu => h1 u (by simp [hu])) (by simp; omega)
        refine ⟨out, ?_, by simpa using q2, fun j hj => ?_, fun j hj => ?_⟩
        · simp only [List.map_cons, ha.tmp e1, Instr.fill, hv]
          have : ¬ (cells.size < i + 1) := by omega
          simp only [Nat.mul_one] at q1
          simp [this, q1]
        · rw [q3 j (by omega)]
          simp [show ¬ i = j by omega]
        · rcases j with _ | j
          · rw [Nat.add_zero, q3 i (by omega)]
            simp [show i < cells.size by omega]
          · have := q4 j (by simpa using hj)
            rw [show i + (j + 1) = i + 1 + j by omega, this]
            simp
      · cases h
theorem eff_build_lit {t e : TypeId} {kk bytes : Nat} {zv : Value} {parts : List (Nat × Operand)} (T : SlT C.P t e 1 bytes zv) (vs : List Value) (hp : evp fr 0 parts = some vs) (hk : vs.length = kk) (h1 : ∀ u ∈ vs, u.oneCell' = true) (hpos : 0 < kk) (hsm : kk ≤ 1048576) :
    Eff C fr L (.buildSlice t kk parts.toArray) ty (fun p L' => ∃ A, p = .slice A kk kk ∧ L' = .own e 1 A kk kk vs :: L) := fun a w ha hw d pos af gg => by
  obtain ⟨i, hi, hz, hsz, hby⟩ := T.hi
  obtain ⟨out, q1, q2, q3, q4⟩ := fill_seq ha parts 0 vs ((Array.range (kk * 1)).map (zv.cells[· % zv.cells.size]!)) hp h1 (by simp; omega)
  have hout : out = vs.toArray := by
    apply Array.ext
    · simp at q2; simp [q2, hk]
    · intro j h1 h2
      have := q4 j (by simpa using h2)
      rw [Nat.zero_add, Array.getElem?_eq_getElem h1] at this
      simp at h2
      rw [List.getElem?_eq_getElem h2] at this
      simpa using this
  rw [hout] at q1
  have hkk : ¬ (16777216 < kk) := by omega
  have hk0 : ¬ kk = 0 := by omega
  refine ⟨_, w.alloc (.cells vs.toArray e), _, .inl ?_, ⟨some ⟨w.heap.size, 0, none⟩, rfl, rfl⟩, hw.cons_new (World.grownBy_alloc w _ none) ⟨by rw [hk, Nat.mul_one], Nat.le_refl _, .inr ⟨_, _, rfl, hw.base, heap_alloc_new w _, by unfold maxLen; omega, by simp [hk], by simp [← hk]⟩⟩ (.inr ⟨w.heap.size, by simp [Ch.fp, hk0], Nat.le_refl _⟩)⟩
  simp only [Nat.mul_one] at q1
  simp [execOp, Instr.buildSlice, run_underlying T.ht, sizeOf, typeInfo, zeroValue, hi, hz, hsz, hkk, hk0, newRow, q1]
/-! ### Arrays in variables; results that lie in memory -/
section
variable {x y : Operand} {k : IntKind} {m : Int} {f : Ch → List Ch} {g o i : Nat} {bt t e : TypeId} {cs : List Value}
theorem det_load_whole (kk : Nat) (hs : isAg C.P t kk = true) (he : ev fr x = some (.pointer (some ⟨g, 0, none⟩))) (hm : Sel (.blk g bt cs) L f) (hk : cs.length = kk) : Det C fr L (.load t x) ty (.agg cs.toArray) :=
  det_load_agg kk hs he hm cs (by rw [List.drop_zero, ← hk, List.take_length]) hk
theorem eff_store_whole {us : List Value} (kk : Nat) (hs : isAg C.P t kk = true) (he : ev fr x = some (.pointer (some ⟨g, 0, none⟩))) (hv : ev fr y = some (.agg us.toArray)) (h1 : ∀ u ∈ us, u.oneCell' = true) (hm : Sel (.blk g bt cs) L f) (hk : cs.length = kk) (hu : us.length = kk) :
    Eff C fr L (.store t x y) ty (fun p L' => L' = f (.blk g bt us)) := fun a w ha hw d pos af gg => by
  have hb := (hw.all _ hm.mem).2
  have hi : (C.P.info? t).map (·.size) = some us.toArray.size := by
    have h := hs
    unfold isAg at h
    rw [Bool.and_eq_true] at h
    have h2 := h.2
    rw [beq_iff_eq] at h2
    rw [h2, ← hu]; simp
  have hr := run_storeVar_row (P := C.P) w g bt t cs.toArray us.toArray hb hi (by simp [hk, hu]) (by rw [Array.all_eq_true_iff_forall_mem]; simpa using h1)
  refine ⟨undef, w.setRow g us.toArray, f (.blk g bt us), .inr ⟨by simp [execOp, Instr.storeAt, Instr.sureAddr, ha.tmp he, ha.tmp hv, hr], rfl⟩, rfl, ?_⟩
  refine hw.sel hm ?_ (fun ⟨q1, q2⟩ => ⟨q1, ?_⟩) (.inr (.inl rfl))
  · exact ⟨rfl, rfl, rfl, by simp, fun k _ hk => setRow_other w g k _ (fun e => hk (by rw [e]; rfl))⟩
  · exact setRow_heap w g cs.toArray _ bt _ q2
end
/-- the law's end -/
theorem Does.law {P : Program} {ff : FuncId} {args : List Value} {w : World} (h : Does P w.heap.size w ff args [] (fun r L => r = .bool true)) : Calls P ff args.toArray w fun e w' => e = .returned (.bool true) ∧ Below w.heap.size w w' :=
  (h w (SL.nil_ w)).mono fun e w' ⟨v, M, he, hR, hs⟩ => by subst hR; exact ⟨he, hs.below⟩
theorem det_not_t {x : Operand} {xt : TypeId} (h : ev fr x = some (.bool true)) : Det C fr L (.unOp .not xt x) ty (.bool false) := det_not h
def bools (l : List Bool) : List Value := l.map .bool
end
/-- has a type's value cells at all -/
def hasSz (P : Program) (t : TypeId) : Bool := match P.info? t with | some i => Nat.blt 0 i.size | none => false
theorem det_fieldAddr_ {C : Cx} {fr : Fr} {L : List Ch} {x : Operand} {ty t : TypeId} {g o : Nat} {fs : Array Field} {i : Nat} {fd : Field} (ht : C.P.underlying t = some (.struct fs)) (hf : fs[i]? = some fd) (hz : hasSz C.P fd.type = true) (he : ev fr x = some (.pointer (some ⟨g, o, none⟩))) {q : Nat} (hq : o + fd.offset = q) :
    Det C fr L (.fieldAddr t x i) ty (.pointer (some ⟨g, q, none⟩)) := by
  unfold hasSz at hz
  cases hi : C.P.info? fd.type with
  | none => rw [hi] at hz; cases hz
  | some f =>
    rw [hi] at hz
    have : 0 < f.size := by simpa [Nat.blt_eq] using hz
    exact det_fieldAddr (sz := f.size - 1) ht hf (by rw [hi]; simp; omega) he hq
/-- a struct by value of parts that cover it, in order -/
theorem det_buildx {C : Cx} {fr : Fr} {L : List Ch} {ty t : TypeId} {parts : List (Nat × Operand)} (us : List (Nat × Value)) (cs : List Value) (hp : parts.map (fun p => (p.1, ev fr p.2)) = us.map (fun p => (p.1, some p.2))) (hb : C.P.built t us = some cs.toArray) :
    Det C fr L (.build t parts.toArray) ty (.agg cs.toArray) := fun a w ha hw d pos af gg => by
  have hps : parts.map (fun p => (p.1, a.eval p.2)) = us := by
    clear hb
    induction parts generalizing us with
    | nil => cases us with | nil => rfl | cons _ _ => cases hp
    | cons p ps ih =>
      cases us with
      | nil => cases hp
      | cons u us =>
        simp only [List.map_cons, List.cons.injEq, Prod.mk.injEq] at hp
        obtain ⟨⟨h1, h2⟩, h3⟩ := hp
        simp only [List.map_cons, ha.tmp h2, h1, ih us h3]
  have := run_build (P := C.P) w t us.toArray cs.toArray (by simpa using hb)
  subst hps
  simp only [List.toArray] at this
  simp [execOp] at this ⊢
  rw [this]
  rfl
theorem det_build {C : Cx} {fr : Fr} {L : List Ch} {ty t : TypeId} {parts : List (Nat × Operand)} (us : List (Nat × Value)) (cs : List Value) (hp : parts.map (fun p => (p.1, ev fr p.2)) = us.map (fun p => (p.1, some p.2))) (hcs : us.flatMap (fun p => p.2.cells.toList) = cs) (hb : C.P.built t us = some cs.toArray) :
    Det C fr L (.build t parts.toArray) ty (.agg cs.toArray) := det_buildx us cs hp hb
end Go.Proofs.Ytakokckokchacaa
namespace Go.Proofs.Ytakokckokchacaa
open Go.RowKit
set_option linter.unusedVariables false
section
variable {C : Cx} {Q : Exit → Fr → List Ch → Prop} {fr fr' : Fr} {L L' : List Ch} {cd : Code} {ops : Array Oper} {l : List Oper} {op : Op} {ty : TypeId} {pos : String} {af : Array Edge} {d : Nat} {v : Value}
variable {x y z : Operand} {k : IntKind} {m n : Int} {f : Ch → List Ch} {g o : Nat} {bt t e : TypeId} {cs : List Value}
/-- '[]T{}' -/
theorem eff_build_empty {size bytes : Nat} {zv : Value} (T : SlT C.P t e size bytes zv) : Eff C fr L (.buildSlice t 0 #[]) ty (fun p L' => ∃ A, p = .slice A 0 0 ∧ L' = .own e size A 0 0 [] :: L) := fun a w ha hw d pos af gg => by
  obtain ⟨i, hi, hz, hsz, hby⟩ := T.hi
  subst hsz
  refine ⟨.slice (some ⟨w.heap.size, 0, none⟩) 0 0, w.alloc (.cells #[] e), _, .inl ?_, ⟨some ⟨w.heap.size, 0, none⟩, rfl, rfl⟩, hw.cons_new (World.grownBy_alloc w _ none) ⟨by simp, Nat.le_refl _, .inl rfl⟩ (.inl rfl)⟩
  simp [execOp, Instr.buildSlice, run_underlying T.ht, sizeOf, typeInfo, hi, Instr.fill, newRow]
  rw [show Array.range 0 = #[] from by simp [Array.range], Array.map_empty]
theorem fold_set : ∀ (us pre : List Value) (cells : Array Value), pre.length + us.length = cells.size → (∀ j, j < pre.length → cells[j]? = pre[j]?) → (us.zipIdx pre.length).foldl (fun cs (c, j) => cs.setIfInBounds j c) cells = (pre ++ us).toArray
  | [], pre, cells, h, hp => by
    simp only [List.zipIdx_nil, List.foldl_nil, List.append_nil]
    simp at h
    apply Array.ext
    · simp [h]
    · intro j h1 h2
      have := hp j (by simpa using h2)
      rw [Array.getElem?_eq_getElem h1] at this
      simp at h2
      rw [List.getElem?_eq_getElem h2] at this
      simpa using this
  | u :: us, pre, cells, h, hp => by
    rw [List.zipIdx_cons, List.foldl_cons]
    simp only [List.length_cons] at h
    have := fold_set us (pre ++ [u]) (cells.setIfInBounds pre.length u) (by simp; omega) (fun j hj => by
      simp at hj
      rw [Array.getElem?_setIfInBounds]
      by_cases hjp : pre.length = j
      · subst hjp
        simp
        omega
      · rw [if_neg hjp, hp j (by omega), List.getElem?_append_left (by omega)])
    simpa using this
theorem fill_one {size : Nat} {v : Value} {us : List Value} (hv : v.cells = us.toArray) (hl : us.length = size) (Z : Array Value) (hZ : Z.size = size) : Instr.fill (fun i => some (i * size, size)) Z [(0, v)] = some us.toArray := by
  have h := fold_set us [] Z (by simpa [hZ] using hl) (by simp)
  simp only [List.length_nil, List.nil_append] at h
  simp only [Instr.fill, hv, Nat.zero_mul, Nat.zero_add, List.size_toArray, hl]
  simp [hZ]
  exact h
/-- a new row of one element of several cells -/
theorem eff_build1s {size bytes : Nat} {zv : Value} {us : List Value} (T : SlT C.P t e size bytes zv) (he : ev fr x = some v) (hv : v.cells = us.toArray) (hl : us.length = size) (hsm : size ≤ 1000) : Eff C fr L (.buildSlice t 1 #[(0, x)]) ty (fun p L' => ∃ A, p = .slice A 1 1 ∧ L' = .own e size A 1 1 us :: L) := by
  obtain ⟨i, hi, hz, hsz, hby⟩ := T.hi
  exact eff_buildSlice (parts := [(0, x)]) (us := [(0, v)]) (zv := zv) T.ht (by rw [hi]; simp [hsz]) T.hs (by omega) (by omega) (by rw [hi]; simpa using hz) (by simp [he]) (fill_one hv hl _ (by simp)) (by omega)
theorem vl_pushs {size bytes d1 d2 : Nat} {zv : Value} {ty1 ty2 : TypeId} {pos1 pos2 : String} {af1 af2 : Array Edge} {s : Operand} {A : Option Addr} {n c : Nat} {xs us : List Value} (T : SlT C.P t e size bytes zv) (he : ev fr x = some v) (hv : v.cells = us.toArray) (hul : us.length = size) (hsm : size ≤ 1000) (h1 : ∀ u ∈ us, u.oneCell' = true) (hd1 : Nat.blt d1 C.N = true) (hd2 : Nat.blt d2 C.N = true)
    (hs : ev ((d1, .slice none 0 0) :: fr) s = some (.slice A n c)) (hsn : ∀ u, ev ((d1, u) :: fr) s = ev ((d1, .slice none 0 0) :: fr) s) (hl : Sel (.own e size A n c xs) L f) (hbytes : (n + 1) * bytes ≤ 140737488355328) (h63 : n + 1 ≤ 140737488355328)
    (kk : ∀ A1 A' c', VL C ops Q l ((d2, .slice A' (n + 1) c') :: (d1, .slice A1 1 1) :: fr) (f (.own e size A' (n + 1) c' (xs ++ us)))) :
    VL C ops Q (⟨some d1, .buildSlice t 1 #[(0, x)], ty1, pos1, af1, none⟩ :: ⟨some d2, .call { callee := .builtin .append, args := #[s, .tmp d1], argTypes := #[t, t] }, ty2, pos2, af2, none⟩ :: l) fr L := by
  refine vl_eff (eff_build1s T he hv hul hsm) hd1 ?_
  rintro _ _ ⟨A1, rfl, rfl⟩
  refine vl_eff (eff_app (m := 1) (news := us) T ((hsn _).trans hs) (.tl hl) (yv := .slice A1 1 1) (by simp [ev, look]) (Bor.own (List.Mem.head _)) h1 hbytes h63) hd2 ?_
  rintro _ _ ⟨A2, c2, rfl, rfl⟩
  intro a w ha hw
  exact kk A1 A2 c2 a w ha hw.tail
/-- what a borrowed row tells of its numbers -/
theorem vc_bor {size nn c : Nat} {A : Option Addr} {xs : List Value} (hb : Bor C.B C.w0 L size (.slice A nn c) nn xs) (h : nn ≤ c → xs.length = nn * size → VC C cd Q fr L) : VC C cd Q fr L := fun a w ha hw => by
  obtain ⟨A', c', hv, hc, hl, _⟩ := hb w hw
  injection hv with _ _ h3
  subst h3
  exact h hc hl a w ha hw
theorem Does.bor {P : Program} {B : Nat} {w0 : World} {ff : FuncId} {args : List Value} {R : Value → List Ch → Prop} {size nn c : Nat} {A : Option Addr} {xs : List Value} (hb : Bor B w0 L size (.slice A nn c) nn xs) (h : nn ≤ c → xs.length = nn * size → Does P B w0 ff args L R) : Does P B w0 ff args L R := fun w hw => by
  obtain ⟨A', c', hv, hc, hl, _⟩ := hb w hw
  injection hv with _ _ h3
  subst h3
  exact h hc hl w hw
theorem det_sl_nil {A : Option Addr} {nn c : Nat} {xt yt : TypeId} (ht : C.P.underlying xt = some (.slice e)) (h1 : ev fr x = some (.slice A nn c)) (h2 : ev fr y = some (.slice none 0 0)) : Det C fr L (.binOp .eql xt x y yt) ty (.bool A.isNone) := fun a w ha hw d pos af g => by
  have he : (eqGuard .eql xt x y (.slice A nn c) (.slice none 0 0)).run C.P w = .ok () w := by simp [eqGuard]
  simp only [execOp, ha.tmp h1, ha.tmp h2, Sem.run_bind, he, Lib.run_eql_slice_nil w xt e A nn c 0 0 ht, Result.andThen_ok, Sem.run_pure]
end
def layz (zs : List Value) : List (Nat × Value) → List Value
  | [] => zs
  | (o, v) :: r => layz (zs.take o ++ (v.cells.toList ++ zs.drop (o + v.cells.size))) r
/-- a struct by value of parts that don't cover it -/
theorem det_buildp {C : Cx} {fr : Fr} {L : List Ch} {ty t : TypeId} {parts : List (Nat × Operand)} (us : List (Nat × Value)) (zs : List Value) (os : List Nat) (cs : List Value) (hp : parts.map (fun p => (p.1, ev fr p.2)) = us.map (fun p => (p.1, some p.2))) (hcs : layz zs (os.zip (us.map (·.2))) = cs) (hb : C.P.built t us = some cs.toArray) :
    Det C fr L (.build t parts.toArray) ty (.agg cs.toArray) := det_buildx us cs hp hb
theorem ret_nil_row {P : Program} {fn : Func} {R : Value → List Ch → Prop} {ee : Exit} {fr : Fr} {L : List Ch} (e : TypeId) (size : Nat) (A : Option Addr) (h : Ret P fn R ee fr (.own e size A 0 0 [] :: L)) : Ret P fn R ee fr L := by
  cases ee <;> first
    | exact h
    | (intro B w0 a w ha hw; exact h B w0 a w ha (hw.nil_row e size A))
theorem sl_to {A : Option Addr} {n m c : Nat} (h : n = m) : some (Value.slice A n c) = some (.slice A m c) := by rw [h]
/-- a contract whose first two pieces change places -/
theorem swp {a b : Ch} {L : List Ch} : (a :: b :: L).Perm (b :: a :: L) := .swap b a L
theorem st_callv {C : Cx} {ops : Array Oper} {S : List Ch} {Q : Exit → Fr → List Ch → Prop} {fuel : Nat} {li : Array Bool} {fr : Fr} {L : List Ch} {d : Nat} {ty : TypeId} {pos : String} {af : Array Edge} {i : Nat} {ff : FuncId} {gg : Operand} {as_ : List Operand} {ats : Array TypeId} {vs fst cap : List Value} {R : Value → List Ch → Prop} {g : Option (Nat × Bool)} (ho : ops[i]? = some ⟨some d, .call { callee := .value gg, args := as_.toArray, argTypes := ats }, ty, pos, af, g⟩) (hg : Gd ops fr g) (hc : Callable C.P ff) (hgg : ev fr gg = some (.func (.func ff) fst.toArray cap.toArray)) (he : evs fr as_ = some vs) (h : Does C.P C.B C.w0 ff (fst ++ vs ++ cap) L R) (hd : Nat.blt d C.N = true) (hS : ∀ v L', R v L' → S.Sublist L')
    (k : ∀ v L', R v L' → VH C ops S Q fuel (li.setIfInBounds i true) ((d, v) :: fr) L') : Step C ops S Q fuel li fr L i := fun a w ha hw _ => by
  unfold wpOp
  simp only [ho]
  rw [if_pos (hg.wanted ha)]
  refine .inl ?_
  unfold Oper.wp
  rw [execOp_callv hc (ha.tmp hgg), ha.evs he]
  simp only [List.append_toArray]
  refine Calls.mono (h w hw) fun e w' ⟨v, L', he, hR, hs⟩ => ?_
  subst he
  have hs2 := hs.sub (hS v L' hR)
  exact ⟨hs2, k _ _ hR _ _ (ha.put hd _) hs hs2⟩
end Go.Proofs.Ytakokckokchacaa
namespace Go.Proofs.Ytakokckokchacaa
open Go.RowKit
set_option linter.unusedVariables false
theorem run_part_sc {P : Program} {t : TypeId} {xs : Array Value} {off : Nat} {v : Value} (hs : isSc P t = true) (hx : xs[off]? = some v) (w : World) : (part t xs off).run P w = .ok v w := by
  simp [part, isSc_agg hs, hx]
section
variable {C : Cx} {fr : Fr} {L : List Ch} {x y : Operand} {f : Ch → List Ch} {t t2 e ty : TypeId}
end
end Go.Proofs.Ytakokckokchacaa
namespace Go.Proofs.Ytakokckokchacaa
open Go.RowKit
set_option linter.unusedVariables false
theorem pu0 {a : Ch} {L L' : List Ch} (h : L.Perm L') : (a :: L).Perm (a :: L') := h.cons a
theorem wu0 {a : Ch} {L L' : List Ch} (h : Wk L L') : Wk (a :: L) (a :: L') := h.cons
theorem pu1 {a0 x : Ch} {L L' : List Ch} (h : (a0 :: L).Perm L') : (a0 :: x :: L).Perm (x :: L') := ((pu0 (.refl _)).cons a0).trans ((List.Perm.swap x a0 _).trans (h.cons x))
theorem wu1 {a0 x : Ch} {L L' : List Ch} (h : Wk (a0 :: L) L') : Wk (a0 :: x :: L) (x :: L') := (Wk.of_perm (pu1 (.refl _))).trans h.cons
theorem pu2 {a0 a1 x : Ch} {L L' : List Ch} (h : (a0 :: a1 :: L).Perm L') : (a0 :: a1 :: x :: L).Perm (x :: L') := ((pu1 (.refl _)).cons a0).trans ((List.Perm.swap x a0 _).trans (h.cons x))
theorem wu2 {a0 a1 x : Ch} {L L' : List Ch} (h : Wk (a0 :: a1 :: L) L') : Wk (a0 :: a1 :: x :: L) (x :: L') := (Wk.of_perm (pu2 (.refl _))).trans h.cons
theorem pu3 {a0 a1 a2 x : Ch} {L L' : List Ch} (h : (a0 :: a1 :: a2 :: L).Perm L') : (a0 :: a1 :: a2 :: x :: L).Perm (x :: L') := ((pu2 (.refl _)).cons a0).trans ((List.Perm.swap x a0 _).trans (h.cons x))
theorem wu3 {a0 a1 a2 x : Ch} {L L' : List Ch} (h : Wk (a0 :: a1 :: a2 :: L) L') : Wk (a0 :: a1 :: a2 :: x :: L) (x :: L') := (Wk.of_perm (pu3 (.refl _))).trans h.cons
end Go.Proofs.Ytakokckokchacaa
namespace Go.Proofs.Ytakokckokchacaa
open Go.RowKit
set_option linter.unusedVariables false
set_option maxRecDepth 20000
/-- a type that is no interface -/
def isCon (P : Program) (t : TypeId) : Bool := match P.underlying t with | some (.interface _) => false | none => false | some _ => true
/-- what a method's name leads to, at a value of a type -/
def Meth (P : Program) (t : TypeId) (v : Value) (name : String) (f : FuncId) (r : Value) : Prop := ∀ w, (method (P.types.size + Made.depth) t v name).run P w = .ok (f, r) w
theorem execOp_invoke {ρ : Operand → Value} {P : Program} {w : World} {f : FuncId} {g : Operand} {as_ : List Operand} {ats : Array TypeId} {dd : Option Tmp} {gu : Option (Nat × Bool)} {ty : TypeId} {pos : String} {af : Array Edge} {t : TypeId} {v r : Value} {name : String}
    (hc : Callable P f) (hm : Meth P t v name f r) (hg : ρ g = .iface t v) :
    (execOp ρ ⟨dd, .call { callee := .invoke g name, args := as_.toArray, argTypes := ats }, ty, pos, af, gu⟩).run P w = .ok (.enter f (r :: as_.map ρ).toArray) w := by
  obtain ⟨fn, c, h1, h2, h3⟩ := hc
  have h2' : ¬ fn.name = "runtime.NumGoroutine" := by simpa using h2
  have he : ((#[ρ g] ++ (as_.map ρ).toArray).extract 1 (#[ρ g] ++ (as_.map ρ).toArray).size) = (as_.map ρ).toArray := by
    apply Array.ext'
    simp [List.take_of_length_le]
  have hm' := hm w
  have hg0 : (#[ρ g] ++ (as_.map ρ).toArray)[0]? = some (Value.iface t v) := by rw [hg]; simp
  simp only [execOp, resolve, Sem.run_bind, Sem.run_pure, Result.andThen_ok, invoke, List.map_toArray, hg0, he, callMethod, run_program, hm']
  simp [callFunc, h1, h2', h3]
/-- a method's call through an interface value -/
def DoesM (P : Program) (B : Nat) (w0 : World) (u : Value) (name : String) (args : List Value) (L : List Ch) (R : Value → List Ch → Prop) : Prop :=
  ∃ t v f r, u = .iface t v ∧ Meth P t v name f r ∧ Callable P f ∧ Does P B w0 f (r :: args) L R
theorem DoesM.mono {P : Program} {B : Nat} {w0 : World} {u : Value} {name : String} {args : List Value} {L : List Ch} {R R' : Value → List Ch → Prop} (h : DoesM P B w0 u name args L R) (hr : ∀ v L', R v L' → R' v L') : DoesM P B w0 u name args L R' := by
  obtain ⟨t, v, f, r, h1, h2, h3, h4⟩ := h
  exact ⟨t, v, f, r, h1, h2, h3, h4.mono hr⟩
section
variable {C : Cx} {Q : Exit → Fr → List Ch → Prop} {fr fr' : Fr} {L L' S : List Ch} {ops : Array Oper} {l : List Oper} {op : Op} {ty : TypeId} {pos : String} {af : Array Edge} {d : Nat} {v u : Value}
variable {x y z : Operand} {t xt : TypeId} {fuel : Nat} {li : Array Bool}
theorem vl_invoke {g : Operand} {name name2 : String} (hn : name2 = name) {as_ : List Operand} {ats : Array TypeId} {vs : List Value} {R : Value → List Ch → Prop} (hg : ev fr g = some u) (he : evs fr as_ = some vs) (h : DoesM C.P C.B C.w0 u name vs L R) (hd : Nat.blt d C.N = true)
    (k : ∀ v L', R v L' → VL C ops Q l ((d, v) :: fr) L') : VL C ops Q (⟨some d, .call { callee := .invoke g name2, args := as_.toArray, argTypes := ats }, ty, pos, af, none⟩ :: l) fr L := fun a w ha hw =>
  wpList_plain rfl fun K hK => by
    subst hn
    obtain ⟨t, v, f, r, rfl, h2, h3, h4⟩ := h
    unfold Oper.wp
    rw [execOp_invoke h3 h2 (ha.tmp hg), ha.evs he]
    refine Calls.mono (h4 w hw) fun e w' ⟨v, L', he, hR, hs⟩ => ?_
    subst he
    exact hK _ _ (k _ _ hR _ _ (ha.put hd _) hs)
theorem st_invoke {i : Nat} {g : Operand} {name name2 : String} (hn : name2 = name) {as_ : List Operand} {ats : Array TypeId} {vs : List Value} {R : Value → List Ch → Prop} {gu : Option (Nat × Bool)} (ho : ops[i]? = some ⟨some d, .call { callee := .invoke g name2, args := as_.toArray, argTypes := ats }, ty, pos, af, gu⟩) (hgu : Gd ops fr gu) (hg : ev fr g = some u) (he : evs fr as_ = some vs) (h : DoesM C.P C.B C.w0 u name vs L R) (hd : Nat.blt d C.N = true) (hS : ∀ v L', R v L' → S.Sublist L')
    (k : ∀ v L', R v L' → VH C ops S Q fuel (li.setIfInBounds i true) ((d, v) :: fr) L') : Step C ops S Q fuel li fr L i := fun a w ha hw _ => by
  subst hn
  obtain ⟨t, v, f, r, rfl, h2, h3, h4⟩ := h
  unfold wpOp
  simp only [ho]
  rw [if_pos (hgu.wanted ha)]
  refine .inl ?_
  unfold Oper.wp
  rw [execOp_invoke h3 h2 (ha.tmp hg), ha.evs he]
  refine Calls.mono (h4 w hw) fun e w' ⟨v, L', he, hR, hs⟩ => ?_
  subst he
  have hs2 := hs.sub (hS v L' hR)
  exact ⟨hs2, k _ _ hR _ _ (ha.put hd _) hs hs2⟩
theorem det_makeIface (hc : isCon C.P t = true) (h : ev fr x = some v) : Det C fr L (.makeInterface t x) ty (.iface t v) := fun a w ha hw d pos af g => by
  unfold isCon at hc
  cases hd : C.P.underlying t with
  | none => simp [hd] at hc
  | some q => cases q <;> simp [hd] at hc <;> simp [execOp, Instr.makeInterface, ha.tmp h, run_underlying hd]
theorem det_assert_ok (hc : isCon C.P t = true) (h : ev fr x = some (.iface t v)) : Det C fr L (.typeAssert x xt t true) ty (.tuple #[v, .bool true]) := fun a w ha hw d pos af g => by
  unfold isCon at hc
  cases hd : C.P.underlying t with
  | none => simp [hd] at hc
  | some q => cases q <;> simp [hd] at hc <;> simp [execOp, Instr.typeAssert, ha.tmp h, run_underlying hd]
theorem det_assert_no {u : TypeId} {zv : Value} (hc : isCon C.P t = true) (hz : (C.P.info? t).bind (·.zero) = some zv) (hne : Nat.beq u t = false) (h : ev fr x = some (.iface u v)) : Det C fr L (.typeAssert x xt t true) ty (.tuple #[zv, .bool false]) := fun a w ha hw d pos af g => by
  unfold isCon at hc
  have hn : ¬ u = t := fun e => by subst e; simp at hne
  cases hi : C.P.info? t with
  | none => rw [hi] at hz; cases hz
  | some i =>
    rw [hi] at hz
    simp at hz
    cases hd : C.P.underlying t with
    | none => simp [hd] at hc
    | some q => cases q <;> simp [hd] at hc <;> simp [execOp, Instr.typeAssert, ha.tmp h, run_underlying hd, hn, zeroValue, typeInfo, hi, hz]
theorem vc_cut_row {C : Cx} {Q : Exit → Fr → List Ch → Prop} {fr : Fr} {L : List Ch} {f : Ch → List Ch} {cd : Code} {e : TypeId} {size n c : Nat} (k : Nat) {A : Option Addr} {xs : List Value} (hs : Sel (.own e size A n c xs) L f) (hk : k ≤ n) (h : VC C cd Q fr (f (.own e size A k c (xs.take (k * size))))) : VC C cd Q fr L := fun a w ha hw => h a w ha (hw.cut_row hs hk)
end
end Go.Proofs.Ytakokckokchacaa
namespace Go.Proofs.Ytakokckokchacaa
open Go.RowKit
set_option linter.unusedVariables false
theorem slT22 : SlT Try.prog 22 38 5 48 (.agg #[.int .i64 0, .int .i64 0, .string ⟨#[]⟩, .int .u64 0, .int .u64 0]) := slT_of Try.underlying22 (by kernel_rfl) rfl (by omega)
theorem slT31 : SlT Try.prog 31 22 1 24 (.slice none 0 0) := slT_of Try.underlying31 (by kernel_rfl) rfl (by omega)
theorem slT39 : SlT Try.prog 39 9 1 16 (.string ⟨#[]⟩) := slT_of Try.underlying39 (by kernel_rfl) rfl (by omega)
theorem slT65 : SlT Try.prog 65 58 1 16 (.nilIface) := slT_of Try.underlying65 (by kernel_rfl) rfl (by omega)
theorem slT79 : SlT Try.prog 79 3 1 8 (.int .i64 0) := slT_of Try.underlying79 (by kernel_rfl) rfl (by omega)
theorem slT108 : SlT Try.prog 108 5 1 1 (.int .u8 0) := slT_of Try.underlying108 (by kernel_rfl) rfl (by omega)
theorem co9 : Callable Try.prog 9 := callable Try.func9 (by decide) rfl
theorem co10 : Callable Try.prog 10 := callable Try.func10 (by decide) rfl
theorem co11 : Callable Try.prog 11 := callable Try.func11 (by decide) rfl
theorem co12 : Callable Try.prog 12 := callable Try.func12 (by decide) rfl
theorem co16 : Callable Try.prog 16 := callable Try.func16 (by decide) rfl
theorem co20 : Callable Try.prog 20 := callable Try.func20 (by decide) rfl
theorem co21 : Callable Try.prog 21 := callable Try.func21 (by decide) rfl
theorem co23 : Callable Try.prog 23 := callable Try.func23 (by decide) rfl
theorem co24 : Callable Try.prog 24 := callable Try.func24 (by decide) rfl
theorem co25 : Callable Try.prog 25 := callable Try.func25 (by decide) rfl
theorem co26 : Callable Try.prog 26 := callable Try.func26 (by decide) rfl
theorem co27 : Callable Try.prog 27 := callable Try.func27 (by decide) rfl
theorem co28 : Callable Try.prog 28 := callable Try.func28 (by decide) rfl
theorem co29 : Callable Try.prog 29 := callable Try.func29 (by decide) rfl
theorem co30 : Callable Try.prog 30 := callable Try.func30 (by decide) rfl
theorem co32 : Callable Try.prog 32 := callable Try.func32 (by decide) rfl
theorem co33 : Callable Try.prog 33 := callable Try.func33 (by decide) rfl
theorem co34 : Callable Try.prog 34 := callable Try.func34 (by decide) rfl
theorem co36 : Callable Try.prog 36 := callable Try.func36 (by decide) rfl
theorem co40 : Callable Try.prog 40 := callable Try.func40 (by decide) rfl
theorem co41 : Callable Try.prog 41 := callable Try.func41 (by decide) rfl
theorem co42 : Callable Try.prog 42 := callable Try.func42 (by decide) rfl
theorem co43 : Callable Try.prog 43 := callable Try.func43 (by decide) rfl
theorem co44 : Callable Try.prog 44 := callable Try.func44 (by decide) rfl
theorem co45 : Callable Try.prog 45 := callable Try.func45 (by decide) rfl
theorem co46 : Callable Try.prog 46 := callable Try.func46 (by decide) rfl
theorem co47 : Callable Try.prog 47 := callable Try.func47 (by decide) rfl
theorem co50 : Callable Try.prog 50 := callable Try.func50 (by decide) rfl
theorem co51 : Callable Try.prog 51 := callable Try.func51 (by decide) rfl
theorem co52 : Callable Try.prog 52 := callable Try.func52 (by decide) rfl
theorem co54 : Callable Try.prog 54 := callable Try.func54 (by decide) rfl
theorem co55 : Callable Try.prog 55 := callable Try.func55 (by decide) rfl
theorem co56 : Callable Try.prog 56 := callable Try.func56 (by decide) rfl
theorem co57 : Callable Try.prog 57 := callable Try.func57 (by decide) rfl
theorem co58 : Callable Try.prog 58 := callable Try.func58 (by decide) rfl
theorem co70 : Callable Try.prog 70 := callable Try.func70 (by decide) rfl
theorem co71 : Callable Try.prog 71 := callable Try.func71 (by decide) rfl
theorem co72 : Callable Try.prog 72 := callable Try.func72 (by decide) rfl
theorem co73 : Callable Try.prog 73 := callable Try.func73 (by decide) rfl
theorem co74 : Callable Try.prog 74 := callable Try.func74 (by decide) rfl
theorem co76 : Callable Try.prog 76 := callable Try.func76 (by decide) rfl
theorem co77 : Callable Try.prog 77 := callable Try.func77 (by decide) rfl
theorem co103 : Callable Try.prog 103 := callable Try.func103 (by decide) rfl
theorem co104 : Callable Try.prog 104 := callable Try.func104 (by decide) rfl
theorem co105 : Callable Try.prog 105 := callable Try.func105 (by decide) rfl
theorem co106 : Callable Try.prog 106 := callable Try.func106 (by decide) rfl
theorem co107 : Callable Try.prog 107 := callable Try.func107 (by decide) rfl
theorem co108 : Callable Try.prog 108 := callable Try.func108 (by decide) rfl
theorem co109 : Callable Try.prog 109 := callable Try.func109 (by decide) rfl
theorem co110 : Callable Try.prog 110 := callable Try.func110 (by decide) rfl
theorem co112 : Callable Try.prog 112 := callable Try.func112 (by decide) rfl
theorem co113 : Callable Try.prog 113 := callable Try.func113 (by decide) rfl
theorem co114 : Callable Try.prog 114 := callable Try.func114 (by decide) rfl
theorem co115 : Callable Try.prog 115 := callable Try.func115 (by decide) rfl
theorem co116 : Callable Try.prog 116 := callable Try.func116 (by decide) rfl
theorem co117 : Callable Try.prog 117 := callable Try.func117 (by decide) rfl
theorem co118 : Callable Try.prog 118 := callable Try.func118 (by decide) rfl
theorem co120 : Callable Try.prog 120 := callable Try.func120 (by decide) rfl
theorem co121 : Callable Try.prog 121 := callable Try.func121 (by decide) rfl
theorem co122 : Callable Try.prog 122 := callable Try.func122 (by decide) rfl
theorem co123 : Callable Try.prog 123 := callable Try.func123 (by decide) rfl
theorem co124 : Callable Try.prog 124 := callable Try.func124 (by decide) rfl
end Go.Proofs.Ytakokckokchacaa
namespace Go.Proofs.Ytakokckokchacaa
/-- a byte made small, or 0 -/
def small (c : UInt8) : UInt8 := if 65 ≤ c.toNat ∧ c.toNat ≤ 90 then c + 32 else if 97 ≤ c.toNat ∧ c.toNat ≤ 122 ∨ 48 ≤ c.toNat ∧ c.toNat ≤ 57 then c else 0
def emit (row : List UInt8) : List (List UInt8) := if row = [] then [] else [row.take 24]
def wstep (st : List (List UInt8) × List UInt8) (c : UInt8) : List (List UInt8) × List UInt8 :=
  if small c ≠ 0 then (st.1, st.2 ++ [small c]) else (st.1 ++ emit st.2, [])
theorem wstep_yes {ws : List (List UInt8)} {row : List UInt8} {c : UInt8} (h : small c ≠ 0) : wstep (ws, row) c = (ws, row ++ [small c]) := if_pos h
theorem wstep_no {ws : List (List UInt8)} {row : List UInt8} {c : UInt8} (h : small c = 0) : wstep (ws, row) c = (ws ++ emit row, []) := if_neg (by simpa using h)
def wst (l : List UInt8) : List (List UInt8) × List UInt8 := l.foldl wstep ([], [])
/-- the words of a text -/
def wordsL (l : List UInt8) : List (List UInt8) := (wst l).1 ++ emit (wst l).2
theorem wst_snoc (l : List UInt8) (c : UInt8) : wst (l ++ [c]) = wstep (wst l) c := by simp [wst]
theorem emit_len (row : List UInt8) : (emit row).length ≤ row.length := by
  unfold emit; split
  · simp
  · rename_i h
    have : 0 < row.length := by rcases row with _ | ⟨x, r⟩; exact absurd rfl h; simp
    simp; omega
theorem wst_len (l : List UInt8) : (wst l).1.length + (wst l).2.length ≤ l.length := by
  have : ∀ l : List UInt8, ∀ st : List (List UInt8) × List UInt8, (l.foldl wstep st).1.length + (l.foldl wstep st).2.length ≤ st.1.length + st.2.length + l.length := by
    intro l
    induction l with
    | nil => intro st; simp
    | cons c r ih =>
      intro st
      have h := ih (wstep st c)
      have hs : (wstep st c).1.length + (wstep st c).2.length ≤ st.1.length + st.2.length + 1 := by
        unfold wstep
        split
        · simp; omega
        · have := emit_len st.2
          simp; omega
      simp only [List.foldl_cons, List.length_cons]
      omega
  simpa [wst] using this l ([], [])
theorem wordsL_len (l : List UInt8) : (wordsL l).length ≤ l.length := by
  have h1 := wst_len l
  have h2 := emit_len (wst l).2
  unfold wordsL
  simp; omega
/-- the document's: a word begins at a letter behind none -/
def wordAt (l : List UInt8) : List UInt8 := ((l.takeWhile fun c => small c ≠ 0).map small).take 24
def refW : Bool → List UInt8 → List (List UInt8)
  | _, [] => []
  | prev, c :: r => if small c = 0 ∨ prev = true then refW (decide (small c ≠ 0)) r else wordAt (c :: r) :: refW true r
theorem takeWhile_append_stop {α : Type} (p : α → Bool) (a : List α) (c : α) (r : List α) (ha : ∀ x ∈ a, p x = true) (hc : p c = false) : (a ++ c :: r).takeWhile p = a := by
  induction a with
  | nil => simp [hc]
  | cons x a ih =>
    simp only [List.cons_append, List.takeWhile_cons, ha x (by simp), if_true]
    rw [ih fun y hy => ha y (by simp [hy])]
theorem takeWhile_all {α : Type} (p : α → Bool) (a : List α) (ha : ∀ x ∈ a, p x = true) : a.takeWhile p = a := by
  induction a with
  | nil => rfl
  | cons x a ih =>
    simp only [List.takeWhile_cons, ha x (by simp), if_true]
    rw [ih fun y hy => ha y (by simp [hy])]
theorem refW_true_stop (c : UInt8) (r : List UInt8) (hc : small c = 0) (b : Bool) : refW b (c :: r) = refW false r := by
  simp [refW, hc]
/-- the program's state, carried through what is left, comes to the document's words -/
theorem fold_ref : ∀ (l : List UInt8) (ws : List (List UInt8)) (a : List UInt8), (∀ x ∈ a, small x ≠ 0) →
    (l.foldl wstep (ws, a.map small)).1 ++ emit (l.foldl wstep (ws, a.map small)).2 =
      ws ++ (if a = [] then refW false l else wordAt (a ++ l) :: refW true l) := by
  intro l
  induction l with
  | nil =>
    intro ws a ha
    rcases a with _ | ⟨x, a⟩
    · simp [emit, refW]
    · simp only [List.foldl_nil, emit, List.map_cons, refW, List.append_nil]
      rw [if_neg (by simp), if_neg (by simp)]
      unfold wordAt
      rw [takeWhile_all _ _ fun y hy => by simpa using ha y hy]
      rfl
  | cons c r ih =>
    intro ws a ha
    rw [List.foldl_cons]
    by_cases hc : small c = 0
    · have e : wstep (ws, a.map small) c = (ws ++ emit (a.map small), []) := by unfold wstep; rw [if_neg (by simpa using hc)]
      rw [e]
      have := ih (ws ++ emit (a.map small)) [] (by simp)
      simp only [List.map_nil, if_true] at this
      rw [this, List.append_assoc]
      congr 1
      rcases a with _ | ⟨x, a⟩
      · simp [emit, refW, hc]
      · rw [if_neg (by simp)]
        unfold emit
        rw [if_neg (by simp), refW_true_stop c r hc]
        unfold wordAt
        rw [takeWhile_append_stop _ _ c r (fun y hy => by simpa using ha y hy) (by simpa using hc)]
        rfl
    · have e : wstep (ws, a.map small) c = (ws, (a ++ [c]).map small) := by unfold wstep; rw [if_pos (by simpa using hc)]; simp
      rw [e]
      have := ih ws (a ++ [c]) (by intro y hy; rcases List.mem_append.1 hy with h | h; exact ha y h; simp at h; subst h; exact hc)
      rw [this, if_neg (by simp)]
      congr 1
      rcases a with _ | ⟨x, a⟩
      · simp [refW, hc]
      · rw [if_neg (by simp), List.append_assoc]
        simp [refW, hc]
/-- both are the same -/
theorem words_ref (l : List UInt8) : wordsL l = refW false l := by
  have := fold_ref l [] [] (by simp)
  simpa [wordsL, wst] using this
end Go.Proofs.Ytakokckokchacaa
namespace Go.Proofs.Ytakokckokchacaa
open Go.RowKit
set_option linter.unusedVariables false
variable {B : Nat} {w0 : World} {F : List Ch}
theorem small_cases (c : UInt8) : (97 ≤ (c.toNat : Int) ∧ (c.toNat : Int) ≤ 122 ∨ 48 ≤ (c.toNat : Int) ∧ (c.toNat : Int) ≤ 57) ∧ ((small c).toNat : Int) = (c.toNat : Int) ∧ small c ≠ 0 ∨
    (65 ≤ (c.toNat : Int) ∧ (c.toNat : Int) ≤ 90) ∧ ((small c).toNat : Int) = (c.toNat : Int) + 32 ∧ small c ≠ 0 ∨
    (¬ (97 ≤ (c.toNat : Int) ∧ (c.toNat : Int) ≤ 122 ∨ 48 ≤ (c.toNat : Int) ∧ (c.toNat : Int) ≤ 57) ∧ ¬ (65 ≤ (c.toNat : Int) ∧ (c.toNat : Int) ≤ 90)) ∧ small c = 0 := by
  by_cases h1 : 65 ≤ c.toNat ∧ c.toNat ≤ 90
  · have e : small c = c + 32 := if_pos h1
    have e2 : (c + 32).toNat = c.toNat + 32 := by
      rw [UInt8.toNat_add]
      show (c.toNat + 32) % 256 = _
      omega
    refine .inr (.inl ⟨by omega, by rw [e, e2]; omega, fun h => ?_⟩)
    rw [e] at h
    have := congrArg UInt8.toNat h
    rw [e2] at this
    simp at this
  · by_cases h2 : 97 ≤ c.toNat ∧ c.toNat ≤ 122 ∨ 48 ≤ c.toNat ∧ c.toNat ≤ 57
    · have e : small c = c := by unfold small; rw [if_neg h1, if_pos h2]
      refine .inl ⟨by omega, by rw [e], fun h => ?_⟩
      rw [e] at h
      rw [h] at h2
      simp at h2
    · have e : small c = 0 := by unfold small; rw [if_neg h1, if_neg h2]
      exact .inr (.inr ⟨by omega, e⟩)
theorem rsmall_d (c : UInt8) : Does Try.prog B w0 72 [.int .u8 c.toNat] F (fun r L => r = .int .u8 (small c).toNat ∧ L = F) := by
  have hs := small_cases c
  have hc := c.toNat_lt
  refine fn_walk Try.func72 26 rfl rfl rfl [(0, .int .u8 c.toNat)] ⟨⟨rfl, rfl⟩, trivial⟩ ?_
  refine vc_seq ?_
  refine vc_region ?_
  refine vl_det (det_assign rfl) rfl ?_
  refine vl_end [(0, _)] ⟨rfl, trivial⟩ ?_
  refine then_next ?_
  refine vc_seq ?_
  refine vc_seq ?_
  refine vc_region ?_
  refine vl_cut 14 16 [(0, _)] (97 ≤ (c.toNat : Int) ∧ (c.toNat : Int) ≤ 122 ∨ 48 ≤ (c.toNat : Int) ∧ (c.toNat : Int) ≤ 57) ⟨rfl, trivial⟩ ?_ ?_
  · skip
    refine vl_det (det_move rfl) rfl ?_
    refine vl_det (det_geq rfl rfl) rfl ?_
    refine vl_det (det_move rfl) rfl ?_
    refine vl_guardp rfl rfl rfl (fun h5 => ?_) (fun h5 => ?_)
    · skip
      refine vl_det (det_move rfl) rfl ?_
      refine vl_guard_t rfl rfl ?_
      refine vl_det (det_leq rfl rfl) rfl ?_
      refine vl_det (det_pick_t rfl rfl) rfl ?_
      refine vl_det (det_move rfl) rfl ?_
      refine vl_guardn rfl rfl rfl (fun h9 => ?_) (fun h9 => ?_)
      · skip
        refine vl_det (det_move rfl) rfl ?_
        refine vl_guard_t rfl rfl ?_
        refine vl_det (det_geq rfl rfl) rfl ?_
        refine vl_guard_t rfl rfl ?_
        refine vl_det (det_move rfl) rfl ?_
        refine vl_guardp rfl rfl rfl (fun h12 => ?_) (fun h12 => ?_)
        · skip
          refine vl_det (det_move rfl) rfl ?_
          refine vl_guard_t rfl rfl ?_
          refine vl_det (det_leq rfl rfl) rfl ?_
          refine vl_guard_t rfl rfl ?_
          refine vl_det (det_pick_t rfl rfl) rfl ?_
          refine vl_det (det_pick_f rfl rfl) rfl ?_
          exact vl_cut_end ⟨rfl, trivial⟩ (by first | rfl | exact bool_to_t (by first | omega | simp_all) | exact bool_to_f (by first | omega | simp_all) | exact bool_to (by first | omega | simp_all) | exact bool_to_b (by first | omega | simp_all))
        · skip
          refine vl_guard_f rfl rfl rfl rfl ?_
          refine vl_guard_t rfl rfl ?_
          refine vl_det (det_pick_f rfl rfl) rfl ?_
          refine vl_det (det_pick_f rfl rfl) rfl ?_
          exact vl_cut_end ⟨rfl, trivial⟩ (by first | rfl | exact bool_to_t (by first | omega | simp_all) | exact bool_to_f (by first | omega | simp_all) | exact bool_to (by first | omega | simp_all) | exact bool_to_b (by first | omega | simp_all))
      · skip
        refine vl_guard_f rfl rfl rfl rfl ?_
        refine vl_guard_f rfl rfl rfl rfl ?_
        refine vl_guard_u rfl rfl rfl ?_
        refine vl_guard_u rfl rfl rfl ?_
        refine vl_guard_f rfl rfl rfl rfl ?_
        refine vl_det (det_pick_t rfl rfl) rfl ?_
        exact vl_cut_end ⟨rfl, trivial⟩ (by first | rfl | exact bool_to_t (by first | omega | simp_all) | exact bool_to_f (by first | omega | simp_all) | exact bool_to (by first | omega | simp_all) | exact bool_to_b (by first | omega | simp_all))
    · skip
      refine vl_guard_f rfl rfl rfl rfl ?_
      refine vl_det (det_pick_f rfl rfl) rfl ?_
      refine vl_det (det_move rfl) rfl ?_
      refine vl_guard_t rfl rfl ?_
      refine vl_det (det_move rfl) rfl ?_
      refine vl_guard_t rfl rfl ?_
      refine vl_det (det_geq rfl rfl) rfl ?_
      refine vl_guard_t rfl rfl ?_
      refine vl_det (det_move rfl) rfl ?_
      refine vl_guardp rfl rfl rfl (fun h12 => ?_) (fun h12 => ?_)
      · skip
        refine vl_det (det_move rfl) rfl ?_
        refine vl_guard_t rfl rfl ?_
        refine vl_det (det_leq rfl rfl) rfl ?_
        refine vl_guard_t rfl rfl ?_
        refine vl_det (det_pick_t rfl rfl) rfl ?_
        refine vl_det (det_pick_f rfl rfl) rfl ?_
        exact vl_cut_end ⟨rfl, trivial⟩ (by first | rfl | exact bool_to_t (by first | omega | simp_all) | exact bool_to_f (by first | omega | simp_all) | exact bool_to (by first | omega | simp_all) | exact bool_to_b (by first | omega | simp_all))
      · skip
        refine vl_guard_f rfl rfl rfl rfl ?_
        refine vl_guard_t rfl rfl ?_
        refine vl_det (det_pick_f rfl rfl) rfl ?_
        refine vl_det (det_pick_f rfl rfl) rfl ?_
        exact vl_cut_end ⟨rfl, trivial⟩ (by first | rfl | exact bool_to_t (by first | omega | simp_all) | exact bool_to_f (by first | omega | simp_all) | exact bool_to (by first | omega | simp_all) | exact bool_to_b (by first | omega | simp_all))
  · skip
    refine vl_end [(0, _), (16, _)] ⟨rfl, rfl, trivial⟩ ?_
    refine then_next ?_
    refine vc_decideU rfl (fun h16 => ?_) (fun h16 => ?_)
    · skip
      refine vc_seq ?_
      refine vc_region ?_
      refine vl_det (det_move rfl) rfl ?_
      refine vl_det (det_assign rfl) rfl ?_
      refine vl_end [(2, _)] ⟨rfl, trivial⟩ ?_
      refine then_next ?_
      refine vc_ret ?_
      refine then_ret ?_
      refine ret1 rfl rfl ?_
      have e : ((small c).toNat : Int) = (c.toNat : Int) := by omega
      rw [e]; exact ⟨rfl, rfl⟩
    · skip
      refine vc_skip ?_
      refine then_next ?_
      refine vc_seq ?_
      refine vc_seq ?_
      refine vc_region ?_
      refine vl_cut 6 23 [(0, _)] (65 ≤ (c.toNat : Int) ∧ (c.toNat : Int) ≤ 90) ⟨rfl, trivial⟩ ?_ ?_
      · skip
        refine vl_det (det_move rfl) rfl ?_
        refine vl_det (det_geq rfl rfl) rfl ?_
        refine vl_det (det_move rfl) rfl ?_
        refine vl_guardp rfl rfl rfl (fun h20 => ?_) (fun h20 => ?_)
        · skip
          refine vl_det (det_move rfl) rfl ?_
          refine vl_guard_t rfl rfl ?_
          refine vl_det (det_leq rfl rfl) rfl ?_
          refine vl_det (det_pick_t rfl rfl) rfl ?_
          exact vl_cut_end ⟨rfl, trivial⟩ (by first | rfl | exact bool_to_t (by first | omega | simp_all) | exact bool_to_f (by first | omega | simp_all) | exact bool_to (by first | omega | simp_all) | exact bool_to_b (by first | omega | simp_all))
        · skip
          refine vl_guard_f rfl rfl rfl rfl ?_
          refine vl_det (det_pick_f rfl rfl) rfl ?_
          exact vl_cut_end ⟨rfl, trivial⟩ (by first | rfl | exact bool_to_t (by first | omega | simp_all) | exact bool_to_f (by first | omega | simp_all) | exact bool_to (by first | omega | simp_all) | exact bool_to_b (by first | omega | simp_all))
      · skip
        refine vl_end [(0, _), (23, _)] ⟨rfl, rfl, trivial⟩ ?_
        refine then_next ?_
        refine vc_decideU rfl (fun h23 => ?_) (fun h23 => ?_)
        · skip
          refine vc_seq ?_
          refine vc_region ?_
          refine vl_det (det_move rfl) rfl ?_
          refine vl_det (det_add rfl rfl (w_u8 (by omega) (by omega))) rfl ?_
          refine vl_det (det_assign rfl) rfl ?_
          refine vl_end [(2, _)] ⟨rfl, trivial⟩ ?_
          refine then_next ?_
          refine vc_ret ?_
          refine then_ret ?_
          refine ret1 rfl rfl ?_
          have e : ((small c).toNat : Int) = (c.toNat : Int) + 32 := by omega
          rw [e]; exact ⟨rfl, rfl⟩
        · skip
          refine vc_skip ?_
          refine then_next ?_
          refine vc_seq ?_
          refine vc_region ?_
          refine vl_det (det_assign rfl) rfl ?_
          refine vl_end [(2, _)] ⟨rfl, trivial⟩ ?_
          refine then_next ?_
          refine vc_ret ?_
          refine ret1 rfl rfl ?_
          have e : small c = 0 := by rcases hs with h | h | h <;> first | exact h.2 | (exfalso; omega)
          rw [e]; exact ⟨rfl, rfl⟩
theorem ret_letter {n : Int} {b b' : Bool} {c : UInt8} (h : n = ((small c).toNat : Int)) (hb : b = b') : Value.tuple #[.int .u8 n, .bool b] = .tuple #[.int .u8 (small c).toNat, .bool b'] := by rw [h, hb]
theorem letter_d (c : UInt8) : Does Try.prog B w0 71 [.int .u8 c.toNat] F (fun r L => r = .tuple #[.int .u8 (small c).toNat, .bool (decide (small c ≠ 0))] ∧ L = F) := by
  have hs := small_cases c
  have hc := c.toNat_lt
  refine fn_walk Try.func71 27 rfl rfl rfl [(0, .int .u8 c.toNat)] ⟨⟨rfl, rfl⟩, trivial⟩ ?_
  refine vc_seq ?_
  refine vc_region ?_
  refine vl_det (det_assign rfl) rfl ?_
  refine vl_det (det_assign rfl) rfl ?_
  refine vl_end [(0, _)] ⟨rfl, trivial⟩ ?_
  refine then_next ?_
  refine vc_seq ?_
  refine vc_block ?_
  refine vc_seq ?_
  refine vc_block ?_
  refine vc_seq ?_
  refine vc_block ?_
  refine vc_seq ?_
  refine vc_seq ?_
  refine vc_seq ?_
  refine vc_region ?_
  refine vl_cut 6 10 [(0, _)] (65 ≤ (c.toNat : Int) ∧ (c.toNat : Int) ≤ 90) ⟨rfl, trivial⟩ ?_ ?_
  · skip
    refine vl_det (det_move rfl) rfl ?_
    refine vl_det (det_geq rfl rfl) rfl ?_
    refine vl_det (det_move rfl) rfl ?_
    refine vl_guardp rfl rfl rfl (fun h7 => ?_) (fun h7 => ?_)
    · skip
      refine vl_det (det_move rfl) rfl ?_
      refine vl_guard_t rfl rfl ?_
      refine vl_det (det_leq rfl rfl) rfl ?_
      refine vl_det (det_pick_t rfl rfl) rfl ?_
      exact vl_cut_end ⟨rfl, trivial⟩ (by first | rfl | exact bool_to_t (by first | omega | simp_all) | exact bool_to_f (by first | omega | simp_all) | exact bool_to (by first | omega | simp_all) | exact bool_to_b (by first | omega | simp_all))
    · skip
      refine vl_guard_f rfl rfl rfl rfl ?_
      refine vl_det (det_pick_f rfl rfl) rfl ?_
      exact vl_cut_end ⟨rfl, trivial⟩ (by first | rfl | exact bool_to_t (by first | omega | simp_all) | exact bool_to_f (by first | omega | simp_all) | exact bool_to (by first | omega | simp_all) | exact bool_to_b (by first | omega | simp_all))
  · skip
    refine vl_det (det_assign rfl) rfl ?_
    refine vl_end [(0, _), (4, _)] ⟨rfl, rfl, trivial⟩ ?_
    refine then_next ?_
    refine vc_decideU rfl (fun h4 => ?_) (fun h4 => ?_)
    · skip
      refine vc_exit ?_
      refine then_exit ?_
      refine then_exit ?_
      refine in_eq ?_
      refine then_next ?_
      refine vc_region ?_
      refine vl_det (det_move rfl) rfl ?_
      refine vl_det (det_add rfl rfl (w_u8 (by omega) (by omega))) rfl ?_
      refine vl_det (det_assign rfl) rfl ?_
      refine vl_end [(0, _)] ⟨rfl, trivial⟩ ?_
      refine in_normal ?_
      refine then_next ?_
      refine vc_seq ?_
      refine vc_seq ?_
      refine vc_region ?_
      refine vl_det (det_move rfl) rfl ?_
      refine vl_det (det_assign rfl) rfl ?_
      refine vl_det (det_assign rfl) rfl ?_
      refine vl_end [(2, _), (3, _)] ⟨rfl, rfl, trivial⟩ ?_
      refine then_next ?_
      refine vc_ret ?_
      refine then_ret ?_
      refine in_ret ?_
      refine then_ret ?_
      refine ret2 rfl rfl rfl ?_
      have e : small c ≠ 0 := by rcases hs with h | h | h <;> first | exact h.2.2 | (exfalso; omega)
      exact ⟨ret_letter (by omega) (decide_eq_true e).symm, rfl⟩
    · skip
      refine vc_skip ?_
      refine then_next ?_
      refine vc_seq ?_
      refine vc_seq ?_
      refine vc_region ?_
      refine vl_cut 6 17 [(0, _)] (97 ≤ (c.toNat : Int) ∧ (c.toNat : Int) ≤ 122) ⟨rfl, trivial⟩ ?_ ?_
      · skip
        refine vl_det (det_move rfl) rfl ?_
        refine vl_det (det_geq rfl rfl) rfl ?_
        refine vl_det (det_move rfl) rfl ?_
        refine vl_guardp rfl rfl rfl (fun h14 => ?_) (fun h14 => ?_)
        · skip
          refine vl_det (det_move rfl) rfl ?_
          refine vl_guard_t rfl rfl ?_
          refine vl_det (det_leq rfl rfl) rfl ?_
          refine vl_det (det_pick_t rfl rfl) rfl ?_
          exact vl_cut_end ⟨rfl, trivial⟩ (by first | rfl | exact bool_to_t (by first | omega | simp_all) | exact bool_to_f (by first | omega | simp_all) | exact bool_to (by first | omega | simp_all) | exact bool_to_b (by first | omega | simp_all))
        · skip
          refine vl_guard_f rfl rfl rfl rfl ?_
          refine vl_det (det_pick_f rfl rfl) rfl ?_
          exact vl_cut_end ⟨rfl, trivial⟩ (by first | rfl | exact bool_to_t (by first | omega | simp_all) | exact bool_to_f (by first | omega | simp_all) | exact bool_to (by first | omega | simp_all) | exact bool_to_b (by first | omega | simp_all))
      · skip
        refine vl_det (det_assign rfl) rfl ?_
        refine vl_end [(0, _), (11, _)] ⟨rfl, rfl, trivial⟩ ?_
        refine then_next ?_
        refine vc_decideU rfl (fun h11 => ?_) (fun h11 => ?_)
        · skip
          refine vc_skip ?_
          refine then_next ?_
          refine vc_cond_t rfl ?_
          refine vc_exit ?_
          refine then_exit ?_
          refine in_exit rfl ?_
          refine then_exit ?_
          refine in_eq ?_
          refine then_next ?_
          refine vc_seq ?_
          refine vc_seq ?_
          refine vc_region ?_
          refine vl_det (det_move rfl) rfl ?_
          refine vl_det (det_assign rfl) rfl ?_
          refine vl_det (det_assign rfl) rfl ?_
          refine vl_end [(2, _), (3, _)] ⟨rfl, rfl, trivial⟩ ?_
          refine then_next ?_
          refine vc_ret ?_
          refine then_ret ?_
          refine in_ret ?_
          refine then_ret ?_
          refine ret2 rfl rfl rfl ?_
          have e : small c ≠ 0 := by rcases hs with h | h | h <;> first | exact h.2.2 | (exfalso; omega)
          exact ⟨ret_letter (by omega) (decide_eq_true e).symm, rfl⟩
        · skip
          refine vc_region ?_
          refine vl_cut 6 23 [(0, _)] (48 ≤ (c.toNat : Int) ∧ (c.toNat : Int) ≤ 57) ⟨rfl, trivial⟩ ?_ ?_
          · skip
            refine vl_det (det_move rfl) rfl ?_
            refine vl_det (det_geq rfl rfl) rfl ?_
            refine vl_det (det_move rfl) rfl ?_
            refine vl_guardp rfl rfl rfl (fun h20 => ?_) (fun h20 => ?_)
            · skip
              refine vl_det (det_move rfl) rfl ?_
              refine vl_guard_t rfl rfl ?_
              refine vl_det (det_leq rfl rfl) rfl ?_
              refine vl_det (det_pick_t rfl rfl) rfl ?_
              exact vl_cut_end ⟨rfl, trivial⟩ (by first | rfl | exact bool_to_t (by first | omega | simp_all) | exact bool_to_f (by first | omega | simp_all) | exact bool_to (by first | omega | simp_all) | exact bool_to_b (by first | omega | simp_all))
            · skip
              refine vl_guard_f rfl rfl rfl rfl ?_
              refine vl_det (det_pick_f rfl rfl) rfl ?_
              exact vl_cut_end ⟨rfl, trivial⟩ (by first | rfl | exact bool_to_t (by first | omega | simp_all) | exact bool_to_f (by first | omega | simp_all) | exact bool_to (by first | omega | simp_all) | exact bool_to_b (by first | omega | simp_all))
          · skip
            refine vl_det (det_assign rfl) rfl ?_
            refine vl_end [(0, _), (11, _)] ⟨rfl, rfl, trivial⟩ ?_
            refine then_next ?_
            refine vc_decideU rfl (fun h11 => ?_) (fun h11 => ?_)
            · skip
              refine vc_exit ?_
              refine then_exit ?_
              refine in_exit rfl ?_
              refine then_exit ?_
              refine in_eq ?_
              refine then_next ?_
              refine vc_seq ?_
              refine vc_seq ?_
              refine vc_region ?_
              refine vl_det (det_move rfl) rfl ?_
              refine vl_det (det_assign rfl) rfl ?_
              refine vl_det (det_assign rfl) rfl ?_
              refine vl_end [(2, _), (3, _)] ⟨rfl, rfl, trivial⟩ ?_
              refine then_next ?_
              refine vc_ret ?_
              refine then_ret ?_
              refine in_ret ?_
              refine then_ret ?_
              refine ret2 rfl rfl rfl ?_
              have e : small c ≠ 0 := by rcases hs with h | h | h <;> first | exact h.2.2 | (exfalso; omega)
              exact ⟨ret_letter (by omega) (decide_eq_true e).symm, rfl⟩
            · skip
              refine vc_skip ?_
              refine then_next ?_
              refine vc_exit ?_
              refine in_exit rfl ?_
              refine then_exit ?_
              refine in_exit rfl ?_
              refine then_exit ?_
              refine in_eq ?_
              refine then_next ?_
              refine vc_seq ?_
              refine vc_region ?_
              refine vl_det (det_assign rfl) rfl ?_
              refine vl_det (det_assign rfl) rfl ?_
              refine vl_end [(2, _), (3, _)] ⟨rfl, rfl, trivial⟩ ?_
              refine then_next ?_
              refine vc_ret ?_
              refine ret2 rfl rfl rfl ?_
              have e : small c = 0 := by rcases hs with h | h | h <;> first | exact h.2 | (exfalso; omega)
              rw [e]; exact ⟨rfl, rfl⟩
/-- all are letters -/
def AllS (l : List UInt8) : Prop := ∀ c ∈ l, small c ≠ 0
instance (l : List UInt8) : Decidable (AllS l) := inferInstanceAs (Decidable (∀ c ∈ l, small c ≠ 0))
theorem AllS.nil_ : AllS [] := by intro c h; cases h
theorem AllS.take {l : List UInt8} (h : AllS l) (k : Nat) : AllS (l.take k) := fun c hc => h c (List.mem_of_mem_take hc)
theorem AllS.step {l : List UInt8} {k : Nat} (h : AllS (l.take k)) (hk : k < l.length) (hs : small (l.getD k 0) ≠ 0) : AllS (l.take (k + 1)) := by
  rw [take_getD hk 0]
  intro c hc
  rcases List.mem_append.1 hc with hc | hc
  · exact h c hc
  · simp only [List.mem_singleton] at hc; rw [hc]; exact hs
theorem AllS.all {l : List UInt8} {k : Nat} (h : AllS (l.take k)) (hk : ¬ k < l.length) : AllS l := by rwa [List.take_of_length_le (by omega)] at h
theorem smalls_step {l : List UInt8} {k : Nat} (hk : k < l.length) : bv ((l.take k).map small) ++ [Value.int .u8 ((small (l.getD k 0)).toNat : Int)] = bv ((l.take (k + 1)).map small) := by
  rw [take_getD hk 0]; simp [bv]
/-- a text by itself -/
def oneL (s : List UInt8) : List UInt8 × Bool := if (1 ≤ s.length ∧ s.length ≤ 24) ∧ AllS s then (s.map small, true) else ([], false)
theorem oneL_yes {s : List UInt8} (h1 : 1 ≤ s.length ∧ s.length ≤ 24) (h2 : AllS s) : oneL s = (s.map small, true) := if_pos ⟨h1, h2⟩
theorem oneL_no {s : List UInt8} (h : ¬ ((1 ≤ s.length ∧ s.length ≤ 24) ∧ AllS s)) : oneL s = ([], false) := if_neg h
theorem u8_zero {x : UInt8} (h : (x.toNat : Int) = 0) : x = 0 := UInt8.toNat_inj.1 (by simp; omega)
theorem u8_some {x : UInt8} (h : ¬ (x.toNat : Int) = 0) : x ≠ 0 := fun e => h (by rw [e]; rfl)
theorem one_d (s : List UInt8) : Does Try.prog B w0 73 [.string ⟨s.toArray⟩] F (fun r L => r = .tuple #[.string ⟨(oneL s).1.toArray⟩, .bool (oneL s).2] ∧ L = F) := by
  refine fn_walk Try.func73 36 rfl rfl rfl [(0, .string ⟨s.toArray⟩)] ⟨⟨rfl, rfl⟩, trivial⟩ ?_
  refine vc_seq ?_
  refine vc_region ?_
  refine vl_det (det_assign rfl) rfl ?_
  refine vl_det (det_assign rfl) rfl ?_
  refine vl_end [(0, _)] ⟨rfl, trivial⟩ ?_
  refine then_next ?_
  refine vc_seq ?_
  refine vc_seq ?_
  refine vc_region ?_
  refine vl_cut 7 14 [(0, _)] (¬ (1 ≤ s.length ∧ s.length ≤ 24)) ⟨rfl, trivial⟩ ?_ ?_
  · skip
    refine vl_det (det_move rfl) rfl ?_
    refine vl_det (det_s_eql rfl rfl) rfl ?_
    refine vl_det (det_move rfl) rfl ?_
    refine vl_guardn rfl rfl rfl (fun h10 => ?_) (fun h10 => ?_)
    · skip
      refine vl_det (det_move rfl) rfl ?_
      refine vl_guard_t rfl rfl ?_
      refine vl_det (det_len_s Try.underlying9 rfl) rfl ?_
      refine vl_guard_t rfl rfl ?_
      refine vl_det (det_gtr rfl rfl) rfl ?_
      refine vl_det (det_pick_f rfl rfl) rfl ?_
      exact vl_cut_end ⟨rfl, trivial⟩ (by first | rfl | exact bool_to_t (by first | omega | (subst h10; simp) | (have := List.length_pos_iff.2 h10; omega)) | exact bool_to_f (by first | omega | (subst h10; simp) | (have := List.length_pos_iff.2 h10; omega)) | exact bool_to (by first | omega | (subst h10; simp) | (have := List.length_pos_iff.2 h10; omega)) | exact bool_to_b (by first | omega | (subst h10; simp) | (have := List.length_pos_iff.2 h10; omega)))
    · skip
      refine vl_guard_f rfl rfl rfl rfl ?_
      refine vl_guard_f rfl rfl rfl rfl ?_
      refine vl_det (det_pick_t rfl rfl) rfl ?_
      exact vl_cut_end ⟨rfl, trivial⟩ (by first | rfl | exact bool_to_t (by first | omega | (subst h10; simp) | (have := List.length_pos_iff.2 h10; omega)) | exact bool_to_f (by first | omega | (subst h10; simp) | (have := List.length_pos_iff.2 h10; omega)) | exact bool_to (by first | omega | (subst h10; simp) | (have := List.length_pos_iff.2 h10; omega)) | exact bool_to_b (by first | omega | (subst h10; simp) | (have := List.length_pos_iff.2 h10; omega)))
  · skip
    refine vl_end [(0, _), (14, _)] ⟨rfl, rfl, trivial⟩ ?_
    refine then_next ?_
    refine vc_decideU rfl (fun h14 => ?_) (fun h14 => ?_)
    · skip
      refine vc_seq ?_
      refine vc_region ?_
      refine vl_det (det_assign rfl) rfl ?_
      refine vl_det (det_assign rfl) rfl ?_
      refine vl_end [(2, _), (3, _)] ⟨rfl, rfl, trivial⟩ ?_
      refine then_next ?_
      refine vc_ret ?_
      refine then_ret ?_
      refine ret2 rfl rfl rfl ?_
      rw [oneL_no (fun h => h14 h.1)]; exact ⟨rfl, rfl⟩
    · skip
      refine vc_skip ?_
      refine then_next ?_
      refine vc_seq ?_
      refine vc_region ?_
      refine vl_det (det_assign rfl) rfl ?_
      refine vl_end [(0, _), (4, _)] ⟨rfl, rfl, trivial⟩ ?_
      refine then_next ?_
      refine vc_seq ?_
      refine vc_seq ?_
      refine vc_region ?_
      refine vl_det (det_move rfl) rfl ?_
      refine vl_det (det_len_s Try.underlying9 rfl) rfl ?_
      refine vl_det (det_move rfl) rfl ?_
      refine vl_end [(0, _), (4, _), (16, _), (17, _)] ⟨rfl, rfl, rfl, rfl, trivial⟩ ?_
      refine then_next ?_
      refine vc_block ?_
      refine vc_nil_row 5 1 none ?_
      refine vc_loopJ (fun zf zL zm => ∃ (k : Nat) (A : Option Addr) (c : Nat), (k ≤ s.length ∧ AllS (s.take k)) ∧ s.length - k = zm ∧ Sub zf [(0, .string ⟨s.toArray⟩), (4, .slice A k c), (16, .int .i64 s.length), (17, .int .i64 k)] ∧ Wk zL (.own 5 1 A k c (bv ((s.take k).map small)) :: F)) _ ⟨0, none, 0, ⟨Nat.zero_le _, AllS.nil_⟩, rfl, ⟨(by first | rfl | exact int_to (by omega) | exact sl_to (by omega)), (by first | rfl | exact int_to (by omega) | exact sl_to (by omega)), (by first | rfl | exact int_to (by omega) | exact sl_to (by omega)), (by first | rfl | exact int_to (by omega) | exact sl_to (by omega)), trivial⟩, .refl _⟩ ?_
      rintro _ _ _ ⟨k, A, c, ⟨hk, hA⟩, rfl, hs, hp⟩
      refine vc_weaken _ hs (vc_wk hp ?_)
      clear hs hp
      refine vc_seq ?_
      refine vc_region ?_
      refine vl_det (det_lss rfl rfl) rfl ?_
      refine vl_end [(0, _), (4, _), (16, _), (17, _), (18, _)] ⟨rfl, rfl, rfl, rfl, rfl, trivial⟩ ?_
      refine then_next ?_
      refine vc_seq ?_
      refine vc_decideU rfl (fun h18 => ?_) (fun h18 => ?_)
      · skip
        refine vc_skip ?_
        refine then_next ?_
        refine vc_seq ?_
        refine vc_block ?_
        refine vc_seq ?_
        refine vc_region ?_
        refine vl_det (det_move rfl) rfl ?_
        refine vl_det (det_assign rfl) rfl ?_
        refine vl_end [(0, _), (4, _), (5, _), (16, _), (17, _)] ⟨rfl, rfl, rfl, rfl, rfl, trivial⟩ ?_
        refine then_next ?_
        refine vc_seq ?_
        refine vc_region ?_
        refine vl_det (det_move rfl) rfl ?_
        refine vl_det (det_move rfl) rfl ?_
        refine vl_det (det_at_str Try.underlying9 rfl rfl rfl (by omega)) rfl ?_
        refine vl_call co71 rfl (letter_d _) rfl ?_
        rintro _ _ ⟨rfl, hLL⟩
        obtain rfl := hLL.symm
        refine vl_det (det_move rfl) rfl ?_
        refine vl_det (det_extract rfl rfl) rfl ?_
        refine vl_det (det_extract rfl rfl) rfl ?_
        refine vl_det (det_assign rfl) rfl ?_
        refine vl_det (det_assign rfl) rfl ?_
        refine vl_end [(0, _), (4, _), (6, _), (7, _), (16, _), (17, _)] ⟨rfl, rfl, rfl, rfl, rfl, rfl, trivial⟩ ?_
        refine then_next ?_
        refine vc_seq ?_
        refine vc_seq ?_
        refine vc_region ?_
        refine vl_det (det_move rfl) rfl ?_
        refine vl_det (det_not rfl) rfl ?_
        refine vl_end [(0, _), (4, _), (6, _), (16, _), (17, _), (28, _)] ⟨rfl, rfl, rfl, rfl, rfl, rfl, trivial⟩ ?_
        refine then_next ?_
        refine vc_condU rfl (fun h28 => ?_) (fun h28 => ?_)
        · skip
          refine vc_seq ?_
          refine vc_region ?_
          refine vl_det (det_assign rfl) rfl ?_
          refine vl_det (det_assign rfl) rfl ?_
          refine vl_end [(2, _), (3, _)] ⟨rfl, rfl, trivial⟩ ?_
          refine then_next ?_
          refine vc_ret ?_
          refine then_ret ?_
          refine in_ret ?_
          refine then_ret ?_
          refine loop_ret ?_
          refine in_ret ?_
          refine then_ret ?_
          refine ret_drop (.cons _ (.refl _)) ?_
          refine ret2 rfl rfl rfl ?_
          rw [oneL_no (fun h => h.2 _ (getD_mem (k := k) (by omega) 0) (by simpa using h28))]; exact ⟨rfl, rfl⟩
        · skip
          refine vc_skip ?_
          refine then_next ?_
          refine vc_region ?_
          refine vl_det (det_move rfl) rfl ?_
          refine vl_det (det_move rfl) rfl ?_
          refine vl_push slT108 rfl rfl rfl rfl rfl (fun _ => rfl) (by repeat (first | exact .hd | apply Sel.tl)) (by omega) (by omega) ?_
          intro _ A32 c32
          refine vl_det (det_assign rfl) rfl ?_
          refine vl_end [(0, _), (4, _), (16, _), (17, _)] ⟨rfl, rfl, rfl, rfl, trivial⟩ ?_
          refine in_normal ?_
          refine then_next ?_
          refine vc_region ?_
          refine vl_det (det_add rfl rfl (w_i64 (by omega) (by omega))) rfl ?_
          refine vl_det (det_move rfl) rfl ?_
          refine vl_end [(0, _), (4, _), (16, _), (17, _)] ⟨rfl, rfl, rfl, rfl, trivial⟩ ?_
          refine in_loop_ ⟨_, by omega, k + 1, A32, c32, ⟨by omega, hA.step (by omega) (by simpa using h28)⟩, rfl, ⟨(by first | rfl | exact int_to (by omega) | exact sl_to (by omega)), (by first | rfl | exact int_to (by omega) | exact sl_to (by omega)), (by first | rfl | exact int_to (by omega) | exact sl_to (by omega)), (by first | rfl | exact int_to (by omega) | exact sl_to (by omega)), trivial⟩, wk_own rfl (smalls_step (by omega)) (.refl _)⟩
      · skip
        refine vc_exit ?_
        refine then_exit ?_
        refine loop_exit ?_
        refine in_eq ?_
        refine then_next ?_
        refine vc_seq ?_
        refine vc_region ?_
        refine vl_det (det_move rfl) rfl ?_
        refine vl_det (det_bstr Try.underlying108 Try.underlying5 Try.underlying9 rfl (by first | (exact Bor.own (by repeat (first | exact List.Mem.head _ | apply List.Mem.tail))) | (repeat (first | assumption | apply Bor.cons)))) rfl ?_
        refine vl_det (det_assign rfl) rfl ?_
        refine vl_det (det_assign rfl) rfl ?_
        refine vl_end [(2, _), (3, _)] ⟨rfl, rfl, trivial⟩ ?_
        refine then_next ?_
        refine vc_ret ?_
        refine ret_drop (.cons _ (.refl _)) ?_
        refine ret2 rfl rfl rfl ?_
        rw [oneL_yes (by omega) (hA.all (by omega)), List.take_of_length_le (by omega)]; exact ⟨rfl, rfl⟩
theorem rone_d (s : List UInt8) : Does Try.prog B w0 77 [.string ⟨s.toArray⟩] F (fun r L => r = .tuple #[.string ⟨(oneL s).1.toArray⟩, .bool (oneL s).2] ∧ L = F) := by
  refine fn_walk Try.func77 34 rfl rfl rfl [(0, .string ⟨s.toArray⟩)] ⟨⟨rfl, rfl⟩, trivial⟩ ?_
  refine vc_seq ?_
  refine vc_region ?_
  refine vl_det (det_assign rfl) rfl ?_
  refine vl_det (det_assign rfl) rfl ?_
  refine vl_end [(0, _)] ⟨rfl, trivial⟩ ?_
  refine then_next ?_
  refine vc_seq ?_
  refine vc_seq ?_
  refine vc_region ?_
  refine vl_cut 8 13 [(0, _)] (¬ (1 ≤ s.length ∧ s.length ≤ 24)) ⟨rfl, trivial⟩ ?_ ?_
  · skip
    refine vl_det (det_move rfl) rfl ?_
    refine vl_det (det_len_s Try.underlying9 rfl) rfl ?_
    refine vl_det (det_lss rfl rfl) rfl ?_
    refine vl_det (det_move rfl) rfl ?_
    refine vl_guardn rfl rfl rfl (fun h9 => ?_) (fun h9 => ?_)
    · skip
      refine vl_det (det_move rfl) rfl ?_
      refine vl_guard_t rfl rfl ?_
      refine vl_det (det_len_s Try.underlying9 rfl) rfl ?_
      refine vl_guard_t rfl rfl ?_
      refine vl_det (det_gtr rfl rfl) rfl ?_
      refine vl_det (det_pick_f rfl rfl) rfl ?_
      exact vl_cut_end ⟨rfl, trivial⟩ (by first | rfl | exact bool_to_t (by first | omega | simp_all) | exact bool_to_f (by first | omega | simp_all) | exact bool_to (by first | omega | simp_all) | exact bool_to_b (by first | omega | simp_all))
    · skip
      refine vl_guard_f rfl rfl rfl rfl ?_
      refine vl_guard_f rfl rfl rfl rfl ?_
      refine vl_det (det_pick_t rfl rfl) rfl ?_
      exact vl_cut_end ⟨rfl, trivial⟩ (by first | rfl | exact bool_to_t (by first | omega | simp_all) | exact bool_to_f (by first | omega | simp_all) | exact bool_to (by first | omega | simp_all) | exact bool_to_b (by first | omega | simp_all))
  · skip
    refine vl_end [(0, _), (13, _)] ⟨rfl, rfl, trivial⟩ ?_
    refine then_next ?_
    refine vc_decideU rfl (fun h13 => ?_) (fun h13 => ?_)
    · skip
      refine vc_seq ?_
      refine vc_region ?_
      refine vl_det (det_assign rfl) rfl ?_
      refine vl_det (det_assign rfl) rfl ?_
      refine vl_end [(2, _), (3, _)] ⟨rfl, rfl, trivial⟩ ?_
      refine then_next ?_
      refine vc_ret ?_
      refine then_ret ?_
      refine ret2 rfl rfl rfl ?_
      rw [oneL_no (fun h => h13 h.1)]; exact ⟨rfl, rfl⟩
    · skip
      refine vc_skip ?_
      refine then_next ?_
      refine vc_seq ?_
      refine vc_region ?_
      refine vl_det (det_assign rfl) rfl ?_
      refine vl_end [(0, _), (4, _)] ⟨rfl, rfl, trivial⟩ ?_
      refine then_next ?_
      refine vc_seq ?_
      refine vc_seq ?_
      refine vc_region ?_
      refine vl_det (det_assign rfl) rfl ?_
      refine vl_end [(0, _), (4, _), (5, _)] ⟨rfl, rfl, rfl, trivial⟩ ?_
      refine then_next ?_
      refine vc_block ?_
      refine vc_nil_row 5 1 none ?_
      refine vc_loopJ (fun zf zL zm => ∃ (k : Nat) (A : Option Addr) (c : Nat), (k ≤ s.length ∧ AllS (s.take k)) ∧ s.length - k = zm ∧ Sub zf [(0, .string ⟨s.toArray⟩), (4, .slice A k c), (5, .int .i64 k)] ∧ Wk zL (.own 5 1 A k c (bv ((s.take k).map small)) :: F)) _ ⟨0, none, 0, ⟨Nat.zero_le _, AllS.nil_⟩, rfl, ⟨(by first | rfl | exact int_to (by omega) | exact sl_to (by omega)), (by first | rfl | exact int_to (by omega) | exact sl_to (by omega)), (by first | rfl | exact int_to (by omega) | exact sl_to (by omega)), trivial⟩, .refl _⟩ ?_
      rintro _ _ _ ⟨k, A, c, ⟨hk, hA⟩, rfl, hs, hp⟩
      refine vc_weaken _ hs (vc_wk hp ?_)
      clear hs hp
      refine vc_seq ?_
      refine vc_seq ?_
      refine vc_region ?_
      refine vl_det (det_move rfl) rfl ?_
      refine vl_det (det_move rfl) rfl ?_
      refine vl_det (det_len_s Try.underlying9 rfl) rfl ?_
      refine vl_det (det_lss rfl rfl) rfl ?_
      refine vl_end [(0, _), (4, _), (5, _), (17, _)] ⟨rfl, rfl, rfl, rfl, trivial⟩ ?_
      refine then_next ?_
      refine vc_decideU rfl (fun h17 => ?_) (fun h17 => ?_)
      · skip
        refine vc_skip ?_
        refine then_next ?_
        refine vc_seq ?_
        refine vc_block ?_
        refine vc_seq ?_
        refine vc_seq ?_
        refine vc_region ?_
        refine vl_det (det_move rfl) rfl ?_
        refine vl_det (det_move rfl) rfl ?_
        refine vl_det (det_at_str Try.underlying9 rfl rfl rfl (by omega)) rfl ?_
        refine vl_call co72 rfl (rsmall_d _) rfl ?_
        rintro _ _ ⟨rfl, hLL⟩
        obtain rfl := hLL.symm
        refine vl_det (det_eql rfl rfl) rfl ?_
        refine vl_end [(0, _), (4, _), (5, _), (24, _)] ⟨rfl, rfl, rfl, rfl, trivial⟩ ?_
        refine then_next ?_
        refine vc_decideU rfl (fun h24 => ?_) (fun h24 => ?_)
        · skip
          refine vc_seq ?_
          refine vc_region ?_
          refine vl_det (det_assign rfl) rfl ?_
          refine vl_det (det_assign rfl) rfl ?_
          refine vl_end [(2, _), (3, _)] ⟨rfl, rfl, trivial⟩ ?_
          refine then_next ?_
          refine vc_ret ?_
          refine then_ret ?_
          refine in_ret ?_
          refine then_ret ?_
          refine loop_ret ?_
          refine in_ret ?_
          refine then_ret ?_
          refine ret_drop (.cons _ (.refl _)) ?_
          refine ret2 rfl rfl rfl ?_
          rw [oneL_no (fun h => h.2 _ (getD_mem (k := k) (by omega) 0) (u8_zero h24))]; exact ⟨rfl, rfl⟩
        · skip
          refine vc_skip ?_
          refine then_next ?_
          refine vc_region ?_
          refine vl_det (det_move rfl) rfl ?_
          refine vl_det (det_move rfl) rfl ?_
          refine vl_det (det_move rfl) rfl ?_
          refine vl_det (det_at_str Try.underlying9 rfl rfl rfl (by omega)) rfl ?_
          refine vl_call co72 rfl (rsmall_d _) rfl ?_
          rintro _ _ ⟨rfl, hLL⟩
          obtain rfl := hLL.symm
          refine vl_push slT108 rfl rfl rfl rfl rfl (fun _ => rfl) (by repeat (first | exact .hd | apply Sel.tl)) (by omega) (by omega) ?_
          intro _ A31 c31
          refine vl_det (det_assign rfl) rfl ?_
          refine vl_end [(0, _), (4, _), (5, _)] ⟨rfl, rfl, rfl, trivial⟩ ?_
          refine in_normal ?_
          refine then_next ?_
          refine vc_region ?_
          refine vl_det (det_move rfl) rfl ?_
          refine vl_det (det_add rfl rfl (w_i64 (by omega) (by omega))) rfl ?_
          refine vl_det (det_assign rfl) rfl ?_
          refine vl_end [(0, _), (4, _), (5, _)] ⟨rfl, rfl, rfl, trivial⟩ ?_
          refine in_loop_ ⟨_, by omega, k + 1, A31, c31, ⟨by omega, hA.step (by omega) (u8_some h24)⟩, rfl, ⟨(by first | rfl | exact int_to (by omega) | exact sl_to (by omega)), (by first | rfl | exact int_to (by omega) | exact sl_to (by omega)), (by first | rfl | exact int_to (by omega) | exact sl_to (by omega)), trivial⟩, wk_own rfl (smalls_step (by omega)) (.refl _)⟩
      · skip
        refine vc_exit ?_
        refine then_exit ?_
        refine loop_exit ?_
        refine in_eq ?_
        refine then_next ?_
        refine vc_seq ?_
        refine vc_region ?_
        refine vl_det (det_move rfl) rfl ?_
        refine vl_det (det_bstr Try.underlying108 Try.underlying5 Try.underlying9 rfl (by first | (exact Bor.own (by repeat (first | exact List.Mem.head _ | apply List.Mem.tail))) | (repeat (first | assumption | apply Bor.cons)))) rfl ?_
        refine vl_det (det_assign rfl) rfl ?_
        refine vl_det (det_assign rfl) rfl ?_
        refine vl_end [(2, _), (3, _)] ⟨rfl, rfl, trivial⟩ ?_
        refine then_next ?_
        refine vc_ret ?_
        refine ret_drop (.cons _ (.refl _)) ?_
        refine ret2 rfl rfl rfl ?_
        rw [oneL_yes (by omega) (hA.all (by omega)), List.take_of_length_le (by omega)]; exact ⟨rfl, rfl⟩
/-- what stands behind an @ ahead -/
def bare (s : List UInt8) : List UInt8 := if s.head? = some 64 then s.drop 1 else s
def termL (s : List UInt8) : Bool := (oneL (bare s)).2 && decide ((oneL (bare s)).1 = bare s)
theorem bare_at {s : List UInt8} (h1 : 0 < s.length) (h2 : s.getD 0 0 = 64) : bare s = s.drop 1 := by
  rcases s with _ | ⟨c, r⟩
  · simp at h1
  · simp at h2; subst h2; rfl
theorem bare_not {s : List UInt8} (h : ¬ (0 < s.length ∧ s.getD 0 0 = 64)) : bare s = s := by
  rcases s with _ | ⟨c, r⟩
  · rfl
  · unfold bare
    rw [if_neg]
    simp at h ⊢
    exact h
theorem rterm_d (s : List UInt8) : Does Try.prog B w0 58 [.string ⟨s.toArray⟩] F (fun r L => r = .bool (termL s) ∧ L = F) := by
  refine fn_walk Try.func58 28 rfl rfl rfl [(0, .string ⟨s.toArray⟩)] ⟨⟨rfl, rfl⟩, trivial⟩ ?_
  refine vc_seq ?_
  refine vc_region ?_
  refine vl_det (det_assign rfl) rfl ?_
  refine vl_end [(0, _)] ⟨rfl, trivial⟩ ?_
  refine then_next ?_
  refine vc_seq ?_
  refine vc_region ?_
  refine vl_det (det_move rfl) rfl ?_
  refine vl_det (det_assign rfl) rfl ?_
  refine vl_end [(0, _), (3, _)] ⟨rfl, rfl, trivial⟩ ?_
  refine then_next ?_
  refine vc_seqJ (fun zf zL => Sub zf [(3, .string ⟨(bare s).toArray⟩)] ∧ Wk zL (F)) ?_ ?_
  · skip
    refine vc_seq ?_
    refine vc_region ?_
    refine vl_cut 8 14 [(0, _), (3, _)] (0 < s.length ∧ s.getD 0 0 = 64) ⟨rfl, rfl, trivial⟩ ?_ ?_
    · skip
      refine vl_det (det_move rfl) rfl ?_
      refine vl_det (det_len_s Try.underlying9 rfl) rfl ?_
      refine vl_det (det_gtr rfl rfl) rfl ?_
      refine vl_det (det_move rfl) rfl ?_
      refine vl_guardp rfl rfl rfl (fun h10 => ?_) (fun h10 => ?_)
      · skip
        refine vl_det (det_move rfl) rfl ?_
        refine vl_guard_t rfl rfl ?_
        refine vl_det (det_at_str (i := 0) Try.underlying9 rfl rfl rfl (by omega)) rfl ?_
        refine vl_guard_t rfl rfl ?_
        refine vl_det (det_eql rfl rfl) rfl ?_
        refine vl_det (det_pick_t rfl rfl) rfl ?_
        exact vl_cut_end ⟨rfl, rfl, trivial⟩ (by first | rfl | exact bool_to_t (by first | omega | (rw [← UInt8.toNat_inj]; simp; omega)) | exact bool_to_f (by first | omega | (rw [← UInt8.toNat_inj]; simp; omega)) | exact bool_to (by first | omega | (rw [← UInt8.toNat_inj]; simp; omega)) | exact bool_to_b (by first | omega | (rw [← UInt8.toNat_inj]; simp; omega)))
      · skip
        refine vl_guard_f rfl rfl rfl rfl ?_
        refine vl_guard_f rfl rfl rfl rfl ?_
        refine vl_det (det_pick_f rfl rfl) rfl ?_
        exact vl_cut_end ⟨rfl, rfl, trivial⟩ (by first | rfl | exact bool_to_t (by first | omega | (rw [← UInt8.toNat_inj]; simp; omega)) | exact bool_to_f (by first | omega | (rw [← UInt8.toNat_inj]; simp; omega)) | exact bool_to (by first | omega | (rw [← UInt8.toNat_inj]; simp; omega)) | exact bool_to_b (by first | omega | (rw [← UInt8.toNat_inj]; simp; omega)))
    · skip
      refine vl_end [(0, _), (3, _), (14, _)] ⟨rfl, rfl, rfl, trivial⟩ ?_
      refine then_next ?_
      refine vc_decideU rfl (fun h14 => ?_) (fun h14 => ?_)
      · skip
        refine vc_region ?_
        refine vl_det (det_move rfl) rfl ?_
        refine vl_det (det_str_lo (i := 1) Try.underlying9 rfl rfl rfl (by omega)) rfl ?_
        refine vl_det (det_assign rfl) rfl ?_
        refine vl_end [(3, _)] ⟨rfl, trivial⟩ ?_
        rw [← bare_at h14.1 h14.2]
        exact in_join ⟨⟨(by first | rfl | exact int_to (by omega) | exact sl_to (by omega)), trivial⟩, .refl _⟩
      · skip
        refine vc_skip ?_
        rw [bare_not h14]
        exact in_join ⟨⟨(by first | rfl | exact int_to (by omega) | exact sl_to (by omega)), trivial⟩, .refl _⟩
  · rintro _ _ ⟨hs, hp⟩
    refine vc_weaken _ hs (vc_wk hp ?_)
    clear hs hp
    refine vc_seq ?_
    refine vc_region ?_
    refine vl_det (det_move rfl) rfl ?_
    refine vl_call co77 rfl (rone_d _) rfl ?_
    rintro _ _ ⟨rfl, hLL⟩
    obtain rfl := hLL.symm
    refine vl_det (det_move rfl) rfl ?_
    refine vl_det (det_extract rfl rfl) rfl ?_
    refine vl_det (det_extract rfl rfl) rfl ?_
    refine vl_det (det_assign rfl) rfl ?_
    refine vl_det (det_assign rfl) rfl ?_
    refine vl_end [(3, _), (4, _), (5, _)] ⟨rfl, rfl, rfl, trivial⟩ ?_
    refine then_next ?_
    refine vc_seq ?_
    refine vc_region ?_
    refine vl_det (det_move rfl) rfl ?_
    refine vl_det (det_move rfl) rfl ?_
    refine vl_guard rfl rfl rfl (fun h23 => ?_) (fun h23 => ?_)
    · skip
      refine vl_det (det_move rfl) rfl ?_
      refine vl_guard_t rfl rfl ?_
      refine vl_det (det_move rfl) rfl ?_
      refine vl_guard_t rfl rfl ?_
      refine vl_det (det_s_eql rfl rfl) rfl ?_
      refine vl_det (det_pick_t rfl rfl) rfl ?_
      refine vl_det (det_assign rfl) rfl ?_
      refine vl_end [(2, _)] ⟨rfl, trivial⟩ ?_
      refine then_next ?_
      refine vc_ret ?_
      refine ret1 rfl rfl ?_
      unfold termL; simp_all
    · skip
      refine vl_guard_f rfl rfl rfl rfl ?_
      refine vl_guard_f rfl rfl rfl rfl ?_
      refine vl_det (det_pick_f rfl rfl) rfl ?_
      refine vl_det (det_assign rfl) rfl ?_
      refine vl_end [(2, _)] ⟨rfl, trivial⟩ ?_
      refine then_next ?_
      refine vc_ret ?_
      refine ret1 rfl rfl ?_
      unfold termL; simp_all
theorem term_d (s : List UInt8) : Does Try.prog B w0 54 [.string ⟨s.toArray⟩] F (fun r L => r = .bool (termL s) ∧ L = F) := by
  refine fn_walk Try.func54 25 rfl rfl rfl [(0, .string ⟨s.toArray⟩)] ⟨⟨rfl, rfl⟩, trivial⟩ ?_
  refine vc_seq ?_
  refine vc_region ?_
  refine vl_det (det_assign rfl) rfl ?_
  refine vl_end [(0, _)] ⟨rfl, trivial⟩ ?_
  refine then_next ?_
  refine vc_seqJ (fun zf zL => Sub zf [(0, .string ⟨(bare s).toArray⟩)] ∧ Wk zL (F)) ?_ ?_
  · skip
    refine vc_seq ?_
    refine vc_region ?_
    refine vl_cut 7 11 [(0, _)] (0 < s.length ∧ s.getD 0 0 = 64) ⟨rfl, trivial⟩ ?_ ?_
    · skip
      refine vl_det (det_move rfl) rfl ?_
      refine vl_det (det_s_neq rfl rfl) rfl ?_
      refine vl_det (det_move rfl) rfl ?_
      refine vl_guardp rfl rfl rfl (fun h7 => ?_) (fun h7 => ?_)
      · skip
        refine vl_det (det_move rfl) rfl ?_
        refine vl_guard_t rfl rfl ?_
        have hl := List.length_pos_iff.2 h7
        refine vl_det (det_str_hi (i := 1) Try.underlying9 rfl rfl rfl (by omega)) rfl ?_
        refine vl_guard_t rfl rfl ?_
        refine vl_det (det_s_eql rfl rfl) rfl ?_
        refine vl_det (det_pick_t rfl rfl) rfl ?_
        exact vl_cut_end ⟨rfl, trivial⟩ (by first | rfl | exact bool_to_t (by first | omega | (simp at h7; subst h7; simp; done) | (have := List.length_pos_iff.2 h7; rcases s with _ | ⟨c, r⟩ <;> simp_all)) | exact bool_to_f (by first | omega | (simp at h7; subst h7; simp; done) | (have := List.length_pos_iff.2 h7; rcases s with _ | ⟨c, r⟩ <;> simp_all)) | exact bool_to (by first | omega | (simp at h7; subst h7; simp; done) | (have := List.length_pos_iff.2 h7; rcases s with _ | ⟨c, r⟩ <;> simp_all)) | exact bool_to_b (by first | omega | (simp at h7; subst h7; simp; done) | (have := List.length_pos_iff.2 h7; rcases s with _ | ⟨c, r⟩ <;> simp_all)))
      · skip
        refine vl_guard_f rfl rfl rfl rfl ?_
        refine vl_guard_f rfl rfl rfl rfl ?_
        refine vl_det (det_pick_f rfl rfl) rfl ?_
        exact vl_cut_end ⟨rfl, trivial⟩ (by first | rfl | exact bool_to_t (by first | omega | (simp at h7; subst h7; simp; done) | (have := List.length_pos_iff.2 h7; rcases s with _ | ⟨c, r⟩ <;> simp_all)) | exact bool_to_f (by first | omega | (simp at h7; subst h7; simp; done) | (have := List.length_pos_iff.2 h7; rcases s with _ | ⟨c, r⟩ <;> simp_all)) | exact bool_to (by first | omega | (simp at h7; subst h7; simp; done) | (have := List.length_pos_iff.2 h7; rcases s with _ | ⟨c, r⟩ <;> simp_all)) | exact bool_to_b (by first | omega | (simp at h7; subst h7; simp; done) | (have := List.length_pos_iff.2 h7; rcases s with _ | ⟨c, r⟩ <;> simp_all)))
    · skip
      refine vl_end [(0, _), (11, _)] ⟨rfl, rfl, trivial⟩ ?_
      refine then_next ?_
      refine vc_decideU rfl (fun h11 => ?_) (fun h11 => ?_)
      · skip
        refine vc_region ?_
        refine vl_det (det_move rfl) rfl ?_
        refine vl_det (det_str_lo (i := 1) Try.underlying9 rfl rfl rfl (by omega)) rfl ?_
        refine vl_det (det_assign rfl) rfl ?_
        refine vl_end [(0, _)] ⟨rfl, trivial⟩ ?_
        rw [← bare_at h11.1 h11.2]
        exact in_join ⟨⟨(by first | rfl | exact int_to (by omega) | exact sl_to (by omega)), trivial⟩, .refl _⟩
      · skip
        refine vc_skip ?_
        rw [bare_not h11]
        exact in_join ⟨⟨(by first | rfl | exact int_to (by omega) | exact sl_to (by omega)), trivial⟩, .refl _⟩
  · rintro _ _ ⟨hs, hp⟩
    refine vc_weaken _ hs (vc_wk hp ?_)
    clear hs hp
    refine vc_seq ?_
    refine vc_region ?_
    refine vl_det (det_move rfl) rfl ?_
    refine vl_call co73 rfl (one_d _) rfl ?_
    rintro _ _ ⟨rfl, hLL⟩
    obtain rfl := hLL.symm
    refine vl_det (det_move rfl) rfl ?_
    refine vl_det (det_extract rfl rfl) rfl ?_
    refine vl_det (det_extract rfl rfl) rfl ?_
    refine vl_det (det_assign rfl) rfl ?_
    refine vl_det (det_assign rfl) rfl ?_
    refine vl_end [(0, _), (3, _), (4, _)] ⟨rfl, rfl, rfl, trivial⟩ ?_
    refine then_next ?_
    refine vc_seq ?_
    refine vc_region ?_
    refine vl_det (det_move rfl) rfl ?_
    refine vl_det (det_move rfl) rfl ?_
    refine vl_guard rfl rfl rfl (fun h20 => ?_) (fun h20 => ?_)
    · skip
      refine vl_det (det_move rfl) rfl ?_
      refine vl_guard_t rfl rfl ?_
      refine vl_det (det_move rfl) rfl ?_
      refine vl_guard_t rfl rfl ?_
      refine vl_det (det_s_eql rfl rfl) rfl ?_
      refine vl_det (det_pick_t rfl rfl) rfl ?_
      refine vl_det (det_assign rfl) rfl ?_
      refine vl_end [(2, _)] ⟨rfl, trivial⟩ ?_
      refine then_next ?_
      refine vc_ret ?_
      refine ret1 rfl rfl ?_
      unfold termL; simp_all
    · skip
      refine vl_guard_f rfl rfl rfl rfl ?_
      refine vl_guard_f rfl rfl rfl rfl ?_
      refine vl_det (det_pick_f rfl rfl) rfl ?_
      refine vl_det (det_assign rfl) rfl ?_
      refine vl_end [(2, _)] ⟨rfl, trivial⟩ ?_
      refine then_next ?_
      refine vc_ret ?_
      refine ret1 rfl rfl ?_
      unfold termL; simp_all
end Go.Proofs.Ytakokckokchacaa
namespace Go.Proofs.Ytakokckokchacaa

theorem wrap_i64 (a : Int) (h1 : -9223372036854775808 ≤ a) (h2 : a < 9223372036854775808) : IntKind.i64.wrap a = a := by
  rw [IntKind.wrap_i64]; omega
section
variable (a b : Nat)
end
end Go.Proofs.Ytakokckokchacaa
namespace Go.Proofs.Ytakokckokchacaa
/-- a number's bytes -/
def encN : Nat → List UInt8
  | x => if h : 128 ≤ x then UInt8.ofNat (128 + x % 128) :: encN (x / 128) else [UInt8.ofNat x]
  termination_by x => x
  decreasing_by omega
/-- a text's bytes -/
def encT (l : List UInt8) : List UInt8 := encN l.length ++ l
/-- a fixed number's bytes -/
def fixL (x : Nat) : Nat → List UInt8
  | 0 => []
  | k + 1 => fixL x k ++ [UInt8.ofNat (x / 2 ^ (8 * k) % 256)]
@[simp] theorem fixL_length (x k : Nat) : (fixL x k).length = k := by induction k with
  | zero => rfl
  | succ k ih => simp [fixL, ih]
end Go.Proofs.Ytakokckokchacaa
namespace Go.Proofs.Ytakokckokchacaa
open Go.RowKit
set_option linter.unusedVariables false
set_option maxRecDepth 20000
abbrev Txt := List UInt8
/-- no text behind the other -/
def leT (s r : Txt) : Prop := Op.bytesLess s r = true ∨ s = r
instance (s r : Txt) : Decidable (leT s r) := inferInstanceAs (Decidable (_ ∨ _))
section
variable {C : Cx} {fr : Fr} {L : List Ch} {x y : Operand} {s r : List UInt8} {xt yt ty : TypeId}
end
/-- a text may stand behind another one -/
def mayT (was s : Txt) : Prop := s ≠ [] ∧ s.length ≤ 25 ∧ ¬ leT s was
instance (was s : Txt) : Decidable (mayT was s) := inferInstanceAs (Decidable (_ ∧ _ ∧ _))
def prvT (l : List Txt) (i : Nat) : Txt := if i = 0 then [] else l.getD (i - 1) []
def RisT (l : List Txt) : Prop := (∀ i, i < l.length → mayT (prvT l i) (l.getD i [])) ∧ l.length ≤ 1048576
instance (l : List Txt) : Decidable (RisT l) := inferInstanceAs (Decidable ((∀ i, i < l.length → _) ∧ _))
theorem prvT_succ (l : List Txt) (i : Nat) : prvT l (i + 1) = l.getD i [] := by simp [prvT]
/-- how many bytes two texts begin with alike -/
def lcp : Txt → Txt → Nat
  | x :: a, y :: b => if x = y then lcp a b + 1 else 0
  | _, _ => 0
/-- a bucket's bytes -/
def tailT : Txt → List Txt → List UInt8
  | _, [] => []
  | was, s :: r => encN (lcp was s) ++ encT (s.drop (lcp was s)) ++ tailT s r
def bucketT : List Txt → List UInt8
  | [] => []
  | t :: r => encT t ++ tailT t r
end Go.Proofs.Ytakokckokchacaa
namespace Go.Proofs.Ytakokckokchacaa
open Go.RowKit
set_option linter.unusedVariables false
set_option maxRecDepth 20000
def ltT (a b : Txt) : Prop := Op.bytesLess a b = true
instance (a b : Txt) : Decidable (ltT a b) := inferInstanceAs (Decidable (_ = _))
theorem not_ltT_nil (a : Txt) : ¬ ltT a [] := by cases a <;> simp [ltT, Op.bytesLess]
theorem ltT_nil_cons (b : UInt8) (y : Txt) : ltT [] (b :: y) := rfl
theorem ltT_cons {a b : UInt8} {x y : Txt} : ltT (a :: x) (b :: y) ↔ a < b ∨ a = b ∧ ltT x y := by simp [ltT, Op.bytesLess]
theorem u8_lt {a b : UInt8} : a < b ↔ a.toNat < b.toNat := UInt8.lt_iff_toNat_lt
theorem u8_eq {a b : UInt8} : a = b ↔ a.toNat = b.toNat := UInt8.toNat_inj.symm
theorem ltT_irrefl : ∀ a : Txt, ¬ ltT a a
  | [] => not_ltT_nil _
  | a :: x => by
    rw [ltT_cons, u8_lt]
    have := ltT_irrefl x
    rintro (h | ⟨_, h⟩)
    · omega
    · exact this h
theorem ltT_trans : ∀ {a b c : Txt}, ltT a b → ltT b c → ltT a c
  | _, _, [], _, h => absurd h (not_ltT_nil _)
  | _, [], _ :: _, h, _ => absurd h (not_ltT_nil _)
  | [], _ :: _, c :: z, _, _ => ltT_nil_cons c z
  | a :: x, b :: y, c :: z, h1, h2 => by
    rw [ltT_cons, u8_lt] at *
    rw [u8_eq] at *
    rcases h1 with h1 | ⟨h1, h1'⟩ <;> rcases h2 with h2 | ⟨h2, h2'⟩
    · left; omega
    · left; omega
    · left; omega
    · exact .inr ⟨by omega, ltT_trans h1' h2'⟩
theorem ltT_total : ∀ a b : Txt, ltT a b ∨ a = b ∨ ltT b a
  | [], [] => .inr (.inl rfl)
  | [], b :: y => .inl (ltT_nil_cons b y)
  | a :: x, [] => .inr (.inr (ltT_nil_cons a x))
  | a :: x, b :: y => by
    rw [ltT_cons, ltT_cons, u8_lt, u8_lt, List.cons.injEq, u8_eq, u8_eq]
    rcases Nat.lt_trichotomy a.toNat b.toNat with h | h | h
    · exact .inl (.inl h)
    · rcases ltT_total x y with h1 | h1 | h1
      · exact .inl (.inr ⟨h, h1⟩)
      · exact .inr (.inl ⟨h, h1⟩)
      · exact .inr (.inr (.inr ⟨h.symm, h1⟩))
    · exact .inr (.inr (.inl h))
theorem leT_lt {s r : Txt} : leT s r ↔ ltT s r ∨ s = r := Iff.rfl
theorem not_leT {s r : Txt} : ¬ leT s r ↔ ltT r s := by
  rw [leT_lt]
  constructor
  · intro h
    rcases ltT_total s r with h1 | h1 | h1
    · exact absurd (.inl h1) h
    · exact absurd (.inr h1) h
    · exact h1
  · rintro h (h1 | h1)
    · exact ltT_irrefl _ (ltT_trans h h1)
    · subst h1; exact ltT_irrefl _ h
theorem not_ltT {s r : Txt} : ¬ ltT s r ↔ leT r s := by rw [← not_leT, Classical.not_not]
theorem leT_ltT {a b c : Txt} (h : leT a b) (k : ltT b c) : ltT a c := h.elim (fun h => ltT_trans h k) (fun h => h ▸ k)
theorem ltT_leT {a b c : Txt} (h : ltT a b) (k : leT b c) : ltT a c := k.elim (fun k => ltT_trans h k) (fun k => k ▸ h)
theorem RisT.lt {l : List Txt} (h : RisT l) : ∀ (j i : Nat), i < j → j < l.length → ltT (l.getD i []) (l.getD j [])
  | 0, i, hij, _ => absurd hij (by omega)
  | j + 1, i, hij, hj => by
    have h1 := (h.1 (j + 1) hj).2.2
    rw [prvT_succ, not_leT] at h1
    by_cases e : i = j
    · rw [e]; exact h1
    · exact ltT_trans (RisT.lt h j i (by omega) (by omega)) h1
theorem RisT.inj {l : List Txt} (h : RisT l) {i j : Nat} (hi : i < l.length) (hj : j < l.length) (he : l.getD i [] = l.getD j []) : i = j := by
  rcases Nat.lt_trichotomy i j with h1 | h1 | h1
  · exact absurd (he ▸ h.lt j i h1 hj) (ltT_irrefl _)
  · exact h1
  · exact absurd (he ▸ h.lt i j h1 hi) (ltT_irrefl _)
/-- the place of the first text that isn't below s -/
def plK (l : List Txt) (s : Txt) (k : Nat) : Prop := k ≤ l.length ∧ (∀ i, i < k → ltT (l.getD i []) s) ∧ (∀ i, k ≤ i → i < l.length → ¬ ltT (l.getD i []) s)
/-- a text begins with another one -/
def bgT (x s : Txt) : Prop := s.length ≤ x.length ∧ x.take s.length = s
instance (x s : Txt) : Decidable (bgT x s) := inferInstanceAs (Decidable (_ ∧ _))
/-- the places of those that begin with s -/
def rgK (l : List Txt) (s : Txt) (a b : Nat) : Prop := b ≤ l.length ∧ (∀ i, i < l.length → (bgT (l.getD i []) s ↔ a ≤ i ∧ i < b)) ∧ (a < b ∨ a = 0 ∧ b = 0)
end Go.Proofs.Ytakokckokchacaa

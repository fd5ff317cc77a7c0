/-
  A walk by frames and pieces of memory: regions that draw their order and make memory. No condition.
-/
import Derived.Test.YtpamjobiohbibaaEngE
import Derived.OrdersHeld
import Derived.Deep.RegionHeld3
namespace Go.Proofs.Ytpamjobiohbibaa
open Go.RowKit
set_option linter.unusedVariables false
section
variable {C : Cx} {Q : Exit → Fr → List Ch → Prop} {fr fr' : Fr} {L L' S : List Ch} {ops : Array Oper} {op : Op} {ty : TypeId} {pos : String} {af : Array Edge} {d : Nat} {v : Value} {fuel : Nat} {li : Array Bool}
def VH (C : Cx) (ops : Array Oper) (S : List Ch) (Q : Exit → Fr → List Ch → Prop) (fuel : Nat) (li : Array Bool) (fr : Fr) (L : List Ch) : Prop :=
  ∀ a w, Agr C.N fr a → SL C.B C.w0 L w → SL C.B C.w0 S w → wpAnyH C.P .any ops (NoPanic (lift C Q)) (SL C.B C.w0 S) fuel li a w
theorem vh_region {id : Nat} {l : List Oper} (hm : C.P.follows .mixedOrders = true) (hS : S.Sublist L) (h : VH C l.toArray S Q l.toArray.size (Array.replicate l.toArray.size false) fr L) : VC C (.region id l.toArray true) Q fr L := fun a w ha hw =>
  wp_region_noPanic (wp_region_held hm (h a _ ha (hw.drewN 1) ((hw.drewN 1).sub hS)))
theorem vh_take (i : Nat) (ho : ops[i]? = some ⟨some d, op, ty, pos, af, none⟩) (hs : Region.noSelect ops = true) (hf : Region.free .any ops li i = true) (hr : (Region.ready .any ops li).contains i = true) (h : Det C fr S op ty v) (hd : Nat.blt d C.N = true)
    (k : VH C ops S Q fuel (li.setIfInBounds i true) ((d, v) :: fr) L) : VH C ops S Q (fuel + 1) li fr L := fun a w ha hw hS =>
  wpAnyH_take ho hs hf hr (fun _ _ _ h => h) (.inl ⟨rfl, fun w hw => h a w ha hw _ _ _ _⟩) hS (k _ w (ha.put hd v) hw hS)
theorem vh_take_g (i : Nat) {j t : Nat} {want : Bool} (ho : ops[i]? = some ⟨some d, op, ty, pos, af, some (j, want)⟩) (hs : Region.noSelect ops = true) (hf : Region.free .any ops li i = true) (hr : (Region.ready .any ops li).contains i = true) (hj : (ops[j]?).bind (·.dst) = some t) (ht : look t fr = some (.bool want))
    (h : Det C fr S op ty v) (hd : Nat.blt d C.N = true) (k : VH C ops S Q fuel (li.setIfInBounds i true) ((d, v) :: fr) L) : VH C ops S Q (fuel + 1) li fr L := fun a w ha hw hS =>
  wpAnyH_take ho hs hf hr (fun _ _ _ h => h) (.inl ⟨by rw [wanted_iff hj (ha.at_ _ _ ht)]; simp, fun w hw => h a w ha hw _ _ _ _⟩) hS (k _ w (ha.put hd v) hw hS)
theorem vh_take_f (i : Nat) {j t : Nat} {want b : Bool} (ho : ops[i]? = some ⟨some d, op, ty, pos, af, some (j, want)⟩) (hs : Region.noSelect ops = true) (hf : Region.free .any ops li i = true) (hr : (Region.ready .any ops li).contains i = true) (hj : (ops[j]?).bind (·.dst) = some t) (ht : look t fr = some (.bool b)) (hb : (b == want) = false)
    (hd : Nat.blt d C.N = true) (k : VH C ops S Q fuel (li.setIfInBounds i true) ((d, undef) :: fr) L) : VH C ops S Q (fuel + 1) li fr L := fun a w ha hw hS =>
  wpAnyH_take ho hs hf hr (fun _ _ _ h => h) (.inr ⟨by rw [wanted_iff hj (ha.at_ _ _ ht)]; exact hb, rfl⟩) hS (k _ w (ha.put hd _) hw hS)
theorem vh_take_u (i : Nat) {j t : Nat} {want : Bool} (ho : ops[i]? = some ⟨some d, op, ty, pos, af, some (j, want)⟩) (hs : Region.noSelect ops = true) (hf : Region.free .any ops li i = true) (hr : (Region.ready .any ops li).contains i = true) (hj : (ops[j]?).bind (·.dst) = some t) (ht : look t fr = some undef)
    (hd : Nat.blt d C.N = true) (k : VH C ops S Q fuel (li.setIfInBounds i true) ((d, undef) :: fr) L) : VH C ops S Q (fuel + 1) li fr L := fun a w ha hw hS =>
  wpAnyH_take ho hs hf hr (fun _ _ _ h => h) (.inr ⟨wanted_undef hj (ha.at_ _ _ ht), rfl⟩) hS (k _ w (ha.put hd _) hw hS)
/-- a test in a slot is decided -/
theorem vh_split (t : Nat) {p : Prop} [Decidable p] (ht : look t fr = some (.bool (decide p))) (k1 : p → VH C ops S Q fuel li ((t, .bool true) :: fr) L) (k2 : ¬ p → VH C ops S Q fuel li ((t, .bool false) :: fr) L) : VH C ops S Q fuel li fr L := fun a w ha hw hS => by
  by_cases hp : p
  · exact k1 hp a w (ha.bool ht (decide_eq_true hp)) hw hS
  · exact k2 hp a w (ha.bool ht (decide_eq_false hp)) hw hS
theorem vh_splitb (t : Nat) {b : Bool} (ht : look t fr = some (.bool b)) (k1 : b = true → VH C ops S Q fuel li ((t, .bool true) :: fr) L) (k2 : b = false → VH C ops S Q fuel li ((t, .bool false) :: fr) L) : VH C ops S Q fuel li fr L := fun a w ha hw hS => by
  cases hb : b
  · exact k2 hb a w (ha.bool ht hb) hw hS
  · exact k1 hb a w (ha.bool ht hb) hw hS
/-- one operation that is carried out -/
def Step (C : Cx) (ops : Array Oper) (S : List Ch) (Q : Exit → Fr → List Ch → Prop) (fuel : Nat) (li : Array Bool) (fr : Fr) (L : List Ch) (i : Nat) : Prop :=
  ∀ a w, Agr C.N fr a → SL C.B C.w0 L w → SL C.B C.w0 S w → wpOp C.P ops (NoPanic (lift C Q)) i (fun a' w' => SL C.B C.w0 S w' ∧ wpAnyH C.P .any ops (NoPanic (lift C Q)) (SL C.B C.w0 S) fuel (li.setIfInBounds i true) a' w') a w
theorem vh_one (i : Nat) (hr : Region.ready .any ops li = [i]) (h : Step C ops S Q fuel li fr L i) : VH C ops S Q (fuel + 1) li fr L := fun a w ha hw hS =>
  wpAnyH_all hr (by simp) fun j hj => by rw [List.mem_singleton.1 hj]; exact h a w ha hw hS
theorem vh_two (i j : Nat) (hr : Region.ready .any ops li = [i, j]) (h1 : Step C ops S Q fuel li fr L i) (h2 : Step C ops S Q fuel li fr L j) : VH C ops S Q (fuel + 1) li fr L := fun a w ha hw hS =>
  wpAnyH_all hr (by simp) fun k hk => by
    rcases List.mem_cons.1 hk with rfl | hk
    · exact h1 a w ha hw hS
    · rw [List.mem_singleton.1 hk]; exact h2 a w ha hw hS
theorem vh_three (i j k : Nat) (hr : Region.ready .any ops li = [i, j, k]) (h1 : Step C ops S Q fuel li fr L i) (h2 : Step C ops S Q fuel li fr L j) (h3 : Step C ops S Q fuel li fr L k) : VH C ops S Q (fuel + 1) li fr L := fun a w ha hw hS =>
  wpAnyH_all hr (by simp) fun q hq => by
    rcases List.mem_cons.1 hq with rfl | hq
    · exact h1 a w ha hw hS
    · rcases List.mem_cons.1 hq with rfl | hq
      · exact h2 a w ha hw hS
      · rw [List.mem_singleton.1 hq]; exact h3 a w ha hw hS
/-- a guard that lets the operation be carried out -/
inductive Gd (ops : Array Oper) (fr : Fr) : Option (Nat × Bool) → Prop where
  | no : Gd ops fr none
  | yes {j t : Nat} {want : Bool} (hj : (ops[j]?).bind (·.dst) = some t) (ht : look t fr = some (.bool want)) : Gd ops fr (some (j, want))
theorem Gd.wanted {g : Option (Nat × Bool)} {dd : Option Tmp} {a : Act} {N : Nat} (h : Gd ops fr g) (ha : Agr N fr a) : Region.wanted ⟨dd, op, ty, pos, af, g⟩ (yielded ops a.tmps) = true := by
  cases h with
  | no => rfl
  | yes hj ht => rw [wanted_iff hj (ha.at_ _ _ ht)]; simp
theorem st_eff {i : Nat} {R : Value → List Ch → Prop} {g : Option (Nat × Bool)} (ho : ops[i]? = some ⟨some d, op, ty, pos, af, g⟩) (hg : Gd ops fr g) (h : Eff C fr L op ty R) (hd : Nat.blt d C.N = true) (hS : ∀ v L', R v L' → S.Sublist L')
    (k : ∀ v L', R v L' → VH C ops S Q fuel (li.setIfInBounds i true) ((d, v) :: fr) L') : Step C ops S Q fuel li fr L i := fun a w ha hw _ => by
  obtain ⟨v, w', L', hr, hR, hs⟩ := h a w ha hw (some d) pos af g
  unfold wpOp
  simp only [ho]
  rw [if_pos (hg.wanted ha)]
  refine .inl ?_
  unfold Oper.wp
  have hs2 := hs.sub (hS v L' hR)
  rcases hr with hr | ⟨hr, rfl⟩ <;> rw [hr] <;> exact ⟨hs2, k _ _ hR _ _ (ha.put hd _) hs hs2⟩
theorem st_eff0 {i : Nat} {R : Value → List Ch → Prop} {g : Option (Nat × Bool)} (ho : ops[i]? = some ⟨none, op, ty, pos, af, g⟩) (hg : Gd ops fr g) (h : Eff C fr L op ty R) (hS : ∀ v L', R v L' → S.Sublist L')
    (k : ∀ v L', R v L' → VH C ops S Q fuel (li.setIfInBounds i true) fr L') : Step C ops S Q fuel li fr L i := fun a w ha hw _ => by
  obtain ⟨v, w', L', hr, hR, hs⟩ := h a w ha hw none pos af g
  unfold wpOp
  simp only [ho]
  rw [if_pos (hg.wanted ha)]
  refine .inl ?_
  unfold Oper.wp
  have hs2 := hs.sub (hS v L' hR)
  rcases hr with hr | ⟨hr, rfl⟩ <;> rw [hr] <;> exact ⟨hs2, k _ _ hR _ _ ha hs hs2⟩
theorem st_call {i : Nat} {ff : FuncId} {as : List Operand} {ats : Array TypeId} {vs : List Value} {R : Value → List Ch → Prop} {g : Option (Nat × Bool)} (ho : ops[i]? = some ⟨some d, .call { callee := .value (.func ff), args := as.toArray, argTypes := ats }, ty, pos, af, g⟩) (hg : Gd ops fr g) (hc : Callable C.P ff) (he : evs fr as = some vs) (h : Does C.P C.B C.w0 ff vs L R) (hd : Nat.blt d C.N = true) (hS : ∀ v L', R v L' → S.Sublist L')
    (k : ∀ v L', R v L' → VH C ops S Q fuel (li.setIfInBounds i true) ((d, v) :: fr) L') : Step C ops S Q fuel li fr L i := fun a w ha hw _ => by
  unfold wpOp
  simp only [ho]
  rw [if_pos (hg.wanted ha)]
  refine .inl ?_
  unfold Oper.wp
  rw [execOp_callv hc (fst := #[]) (cap := #[]) rfl, ha.evs he, Array.append_empty, Array.empty_append]
  refine Calls.mono (h w hw) fun e w' ⟨v, L', he, hR, hs⟩ => ?_
  subst he
  have hs2 := hs.sub (hS v L' hR)
  exact ⟨hs2, k _ _ hR _ _ (ha.put hd _) hs hs2⟩
theorem st_det {i : Nat} {g : Option (Nat × Bool)} (ho : ops[i]? = some ⟨some d, op, ty, pos, af, g⟩) (hg : Gd ops fr g) (h : Det C fr L op ty v) (hd : Nat.blt d C.N = true) (hS : S.Sublist L)
    (k : VH C ops S Q fuel (li.setIfInBounds i true) ((d, v) :: fr) L) : Step C ops S Q fuel li fr L i := fun a w ha hw _ => by
  unfold wpOp
  simp only [ho]
  rw [if_pos (hg.wanted ha)]
  refine .inl ?_
  unfold Oper.wp
  rw [h a w ha hw]
  exact ⟨hw.sub hS, k _ _ (ha.put hd _) hw (hw.sub hS)⟩
theorem vh_done (base : Fr) (hs : Sub fr base) (hr : Region.ready .any ops li = []) (h : Q .normal base L) : VH C ops S Q fuel li fr L := fun a w ha hw _ => wpAnyH_done hr (show NoPanic (lift C Q) .normal a w from ⟨base, L, ha.sub hs, hw, h⟩) _
/-! ### Rows that are laid out -/
def evp (fr : Fr) : Nat → List (Nat × Operand) → Option (List Value)
  | _, [] => some []
  | k, (i, x) :: r => bif Nat.beq i k then (match ev fr x, evp fr (k + 1) r with
    | some v, some vs => some (v :: vs)
    | _, _ => none) else none
theorem fill_seq {a : Act} {N : Nat} (ha : Agr N fr a) : ∀ (parts : List (Nat × Operand)) (k : Nat) (vs : List Value) (cells : Array Value), evp fr k parts = some vs → (∀ u ∈ vs, u.oneCell' = true) → k + vs.length ≤ cells.size →
    ∃ out, Instr.fill (fun i => some (i * 1, 1)) cells (parts.map fun p => (p.1, a.eval p.2)) = some out ∧ out.size = cells.size ∧ (∀ j, j < k → out[j]? = cells[j]?) ∧ (∀ j, j < vs.length → out[k + j]? = vs[j]?)
  | [], k, vs, cells, h, _, _ => by
    simp [evp] at h
    subst h
    exact ⟨cells, rfl, rfl, fun _ _ => rfl, fun j hj => absurd hj (by simp)⟩
  | (i, x) :: r, k, vs, cells, h, h1, hl => by
    unfold evp at h
    cases hb : Nat.beq i k with
    | false => rw [hb] at h; cases h
    | true =>
      rw [hb] at h
      have hik := Nat.eq_of_beq_eq_true hb
      subst hik
      simp only [cond_true] at h
      split at h
      · rename_i v vs' e1 e2
        injection h with h
        subst h
        have hv1 := h1 v (by simp)
        have hv : v.cells = #[v] := by cases v <;> simp_all [Value.cells, Value.oneCell']
        simp only [List.length_cons] at hl
        obtain ⟨out, q1, q2, q3, q4⟩ := fill_seq ha r (i + 1) vs' (cells.setIfInBounds i v) e2 (fun u hu => h1 u (by simp [hu])) (by simp; omega)
        refine ⟨out, ?_, by simpa using q2, fun j hj => ?_, fun j hj => ?_⟩
        · simp only [List.map_cons, ha.tmp e1, Instr.fill, hv]
          have : ¬ (cells.size < i + 1) := by omega
          simp only [Nat.mul_one] at q1
          simp [this, q1]
        · rw [q3 j (by omega)]
          simp [show ¬ i = j by omega]
        · rcases j with _ | j
          · rw [Nat.add_zero, q3 i (by omega)]
            simp [show i < cells.size by omega]
          · have := q4 j (by simpa using hj)
            rw [show i + (j + 1) = i + 1 + j by omega, this]
            simp
      · cases h
theorem eff_build_lit {t e : TypeId} {kk bytes : Nat} {zv : Value} {parts : List (Nat × Operand)} (T : SlT C.P t e 1 bytes zv) (vs : List Value) (hp : evp fr 0 parts = some vs) (hk : vs.length = kk) (h1 : ∀ u ∈ vs, u.oneCell' = true) (hpos : 0 < kk) (hsm : kk ≤ 1048576) :
    Eff C fr L (.buildSlice t kk parts.toArray) ty (fun p L' => ∃ A, p = .slice A kk kk ∧ L' = .own e 1 A kk kk vs :: L) := fun a w ha hw d pos af gg => by
  obtain ⟨i, hi, hz, hsz, hby⟩ := T.hi
  obtain ⟨out, q1, q2, q3, q4⟩ := fill_seq ha parts 0 vs ((Array.range (kk * 1)).map (zv.cells[· % zv.cells.size]!)) hp h1 (by simp; omega)
  have hout : out = vs.toArray := by
    apply Array.ext
    · simp at q2; simp [q2, hk]
    · intro j h1 h2
      have := q4 j (by simpa using h2)
      rw [Nat.zero_add, Array.getElem?_eq_getElem h1] at this
      simp at h2
      rw [List.getElem?_eq_getElem h2] at this
      simpa using this
  rw [hout] at q1
  have hkk : ¬ (16777216 < kk) := by omega
  have hk0 : ¬ kk = 0 := by omega
  refine ⟨_, w.alloc (.cells vs.toArray e), _, .inl ?_, ⟨some ⟨w.heap.size, 0, none⟩, rfl, rfl⟩, hw.cons_new (World.grownBy_alloc w _ none) ⟨by rw [hk, Nat.mul_one], Nat.le_refl _, .inr ⟨_, _, rfl, hw.base, heap_alloc_new w _, by unfold maxLen; omega, by simp [hk], by simp [← hk]⟩⟩ (.inr ⟨w.heap.size, by simp [Ch.fp, hk0], Nat.le_refl _⟩)⟩
  simp only [Nat.mul_one] at q1
  simp [execOp, Instr.buildSlice, run_underlying T.ht, sizeOf, typeInfo, zeroValue, hi, hz, hsz, hkk, hk0, newRow, q1]
/-! ### Arrays in variables; results that lie in memory -/
section
variable {x y : Operand} {k : IntKind} {m : Int} {f : Ch → List Ch} {g o i : Nat} {bt t e : TypeId} {cs : List Value}
theorem det_indexAddr_arr {nn : Nat} (ht : C.P.underlying t = some (.array nn e)) (hz : (C.P.info? e).map (·.size) = some 1) (he : ev fr x = some (.pointer (some ⟨g, o, none⟩))) (h2 : ev fr y = some (.int k m)) (hm : m = (i : Int)) (hi : i < nn) :
    Det C fr L (.indexAddr t x y) ty (.pointer (some ⟨g, o + i, none⟩)) := fun a w ha hw d pos af gg => by
  subst hm
  simp [execOp, Instr.indexAt, Instr.sureAddr, asIntOf, ha.tmp he, ha.tmp h2, run_underlying ht, hi, isSz hz, Addr.add_lit]
theorem det_load_arr {b : List Int} {kk : IntKind} (hs : isSc C.P t = true) (he : ev fr x = some (.pointer (some ⟨g, 0 + i, none⟩))) (hm : Sel (.blk g bt (ints kk b)) L f) (hi : i < b.length) : Det C fr L (.load t x) ty (.int kk (b.getD i 0)) :=
  det_load_blk hs he hm (by simp [ints, List.getD, List.getElem?_eq_getElem hi])
theorem eff_store_arr {b : List Int} {kk : IntKind} {n : Int} (hs : isSc C.P t = true) (he : ev fr x = some (.pointer (some ⟨g, 0 + i, none⟩))) (hv : ev fr y = some (.int kk n)) (hm : Sel (.blk g bt (ints kk b)) L f) (hi : i < b.length) :
    Eff C fr L (.store t x y) ty (fun p L' => L' = f (.blk g bt (ints kk (b.set i n)))) := fun a w ha hw d pos af gg => by
  obtain ⟨v, w', L', h1, h2, h3⟩ := eff_store (ty := ty) hs he hv rfl hm (by simp; omega) a w ha hw d pos af gg
  refine ⟨v, w', L', h1, ?_, h3⟩
  rw [h2]
  congr 2
  simp [ints, List.map_set]
theorem det_load_whole (kk : Nat) (hs : isAg C.P t kk = true) (he : ev fr x = some (.pointer (some ⟨g, 0, none⟩))) (hm : Sel (.blk g bt cs) L f) (hk : cs.length = kk) : Det C fr L (.load t x) ty (.agg cs.toArray) :=
  det_load_agg kk hs he hm cs (by rw [List.drop_zero, ← hk, List.take_length]) hk
theorem eff_store_whole {us : List Value} (kk : Nat) (hs : isAg C.P t kk = true) (he : ev fr x = some (.pointer (some ⟨g, 0, none⟩))) (hv : ev fr y = some (.agg us.toArray)) (h1 : ∀ u ∈ us, u.oneCell' = true) (hm : Sel (.blk g bt cs) L f) (hk : cs.length = kk) (hu : us.length = kk) :
    Eff C fr L (.store t x y) ty (fun p L' => L' = f (.blk g bt us)) := fun a w ha hw d pos af gg => by
  have hb := (hw.all _ hm.mem).2
  have hi : (C.P.info? t).map (·.size) = some us.toArray.size := by
    have h := hs
    unfold isAg at h
    rw [Bool.and_eq_true] at h
    have h2 := h.2
    rw [beq_iff_eq] at h2
    rw [h2, ← hu]; simp
  have hr := run_storeVar_row (P := C.P) w g bt t cs.toArray us.toArray hb hi (by simp [hk, hu]) (by rw [Array.all_eq_true_iff_forall_mem]; simpa using h1)
  refine ⟨undef, w.setRow g us.toArray, f (.blk g bt us), .inr ⟨by simp [execOp, Instr.storeAt, Instr.sureAddr, ha.tmp he, ha.tmp hv, hr], rfl⟩, rfl, ?_⟩
  refine hw.sel hm ?_ (fun ⟨q1, q2⟩ => ⟨q1, ?_⟩) (.inr (.inl rfl))
  · exact ⟨rfl, rfl, rfl, by simp, fun k _ hk => setRow_other w g k _ (fun e => hk (by rw [e]; rfl))⟩
  · exact setRow_heap w g cs.toArray _ bt _ q2
theorem ret_ct {P : Program} {fn : Func} {R : Value → List Ch → Prop} {q u kk : Nat} {ty : TypeId} (hr : fn.results = #[.cell q ty, .tmp u]) (hq : look q fr = some (.pointer (some ⟨g, 0, none⟩))) (hs : isAg P ty kk = true) (hm : Sel (.blk g bt cs) L f) (hk : cs.length = kk) {v : Value} (hu : look u fr = some v) (hwk : Wk L L')
    (h : R (.tuple #[.agg cs.toArray, v]) L') : Ret P fn R .ret fr L := fun B w0 a w ha hw => by
  subst hk
  refine ⟨_, L', ?_, h, hwk.sl hw⟩
  have hl := run_loadAgg (P := P) (w := w) (p := ⟨g, 0, none⟩) hs (fun j u hj => by rw [Addr.add_lit, Nat.zero_add]; exact sl_cell hw hm hj)
  rw [results_cell_tmp hr]
  simp [ha.at_ _ _ hq, ha.at_ _ _ hu, asAddr, hl]
theorem ret_c {P : Program} {fn : Func} {R : Value → List Ch → Prop} {q kk : Nat} {ty : TypeId} (hr : fn.results = #[.cell q ty]) (hq : look q fr = some (.pointer (some ⟨g, 0, none⟩))) (hs : isAg P ty kk = true) (hm : Sel (.blk g bt cs) L f) (hk : cs.length = kk) (hwk : Wk L L')
    (h : R (.agg cs.toArray) L') : Ret P fn R .ret fr L := fun B w0 a w ha hw => by
  subst hk
  refine ⟨_, L', ?_, h, hwk.sl hw⟩
  have hl := run_loadAgg (P := P) (w := w) (p := ⟨g, 0, none⟩) hs (fun j u hj => by rw [Addr.add_lit, Nat.zero_add]; exact sl_cell hw hm hj)
  simp [results, hr, ha.at_ _ _ hq, asAddr, hl]
end
/-- the law's end -/
theorem Does.law {P : Program} {ff : FuncId} {args : List Value} {w : World} (h : Does P w.heap.size w ff args [] (fun r L => r = .bool true)) : Calls P ff args.toArray w fun e w' => e = .returned (.bool true) ∧ Below w.heap.size w w' :=
  (h w (SL.nil_ w)).mono fun e w' ⟨v, M, he, hR, hs⟩ => by subst hR; exact ⟨he, hs.below⟩
theorem det_not_t {x : Operand} {xt : TypeId} (h : ev fr x = some (.bool true)) : Det C fr L (.unOp .not xt x) ty (.bool false) := det_not h
theorem det_not_f {x : Operand} {xt : TypeId} (h : ev fr x = some (.bool false)) : Det C fr L (.unOp .not xt x) ty (.bool true) := det_not h
def bools (l : List Bool) : List Value := l.map .bool
theorem flatMap_one {α : Type} (l : List α) (f : α → Value) : l.flatMap (fun b => [f b]) = l.map f := by
  induction l with
  | nil => rfl
  | cons x l ih => simp [ih]
theorem det_load_bool {x : Operand} {t : TypeId} {A : Option Addr} {nn c j : Nat} {b : List Bool} (hs : isSc C.P t = true) (he : ev fr x = some (.pointer (A.map (·.add (j * 1))))) (hb : Bor C.B C.w0 L 1 (.slice A nn c) nn (bools b)) (hj : j < nn) : Det C fr L (.load t x) ty (.bool (b.getD j false)) := fun a w ha hw => by
  have hl := hb.len hw
  simp [bools] at hl
  rw [Nat.mul_one] at he
  refine det_load_row hs he hb (by omega) ?_ a w ha hw
  simp [bools, List.getD, List.getElem?_eq_getElem (show j < b.length by omega)]
end
/-- has a type's value cells at all -/
def hasSz (P : Program) (t : TypeId) : Bool := match P.info? t with | some i => Nat.blt 0 i.size | none => false
theorem det_fieldAddr_ {C : Cx} {fr : Fr} {L : List Ch} {x : Operand} {ty t : TypeId} {g o : Nat} {fs : Array Field} {i : Nat} {fd : Field} (ht : C.P.underlying t = some (.struct fs)) (hf : fs[i]? = some fd) (hz : hasSz C.P fd.type = true) (he : ev fr x = some (.pointer (some ⟨g, o, none⟩))) {q : Nat} (hq : o + fd.offset = q) :
    Det C fr L (.fieldAddr t x i) ty (.pointer (some ⟨g, q, none⟩)) := by
  unfold hasSz at hz
  cases hi : C.P.info? fd.type with
  | none => rw [hi] at hz; cases hz
  | some f =>
    rw [hi] at hz
    have : 0 < f.size := by simpa [Nat.blt_eq] using hz
    exact det_fieldAddr (sz := f.size - 1) ht hf (by rw [hi]; simp; omega) he hq
/-- a row that has elements has a place -/
theorem vc_own_some {C : Cx} {cd : Code} {Q : Exit → Fr → List Ch → Prop} {fr : Fr} {L : List Ch} {e : TypeId} {size n c : Nat} {A : Option Addr} {xs : List Value} (hm : Ch.own e size A n c xs ∈ L) (hn : 0 < n) (h : ∀ ad, A = some ad → VC C cd Q fr L) : VC C cd Q fr L := fun a w ha hw => by
  rcases (hw.all _ hm).2.2 with h0 | ⟨g, cur, rfl, _⟩
  · have : n ≤ c := (hw.all _ hm).2.1
    omega
  · exact h _ rfl a w ha hw
theorem det_indexAddr_some {C : Cx} {fr : Fr} {L : List Ch} {x y : Operand} {ty t e : TypeId} {k : IntKind} {m : Int} {size nn c i : Nat} {ad : Addr} (ht : C.P.underlying t = some (.slice e)) (hz : (C.P.info? e).map (·.size) = some size) (he : ev fr x = some (.slice (some ad) nn c)) (h2 : ev fr y = some (.int k m)) (hm : m = (i : Int)) (hi : i < nn) :
    Det C fr L (.indexAddr t x y) ty (.pointer ((some ad).map (·.add (i * size)))) := fun a w ha hw d pos af gg => by
  subst hm
  simp [execOp, Instr.indexAt, asIntOf, ha.tmp he, ha.tmp h2, run_underlying ht, hi, isSz hz]
theorem det_fieldAddr_row_ {C : Cx} {fr : Fr} {L : List Ch} {x : Operand} {ty t : TypeId} {fs : Array Field} {i j : Nat} {fd : Field} {size nn c : Nat} {A : Option Addr} {xs : List Value} (ht : C.P.underlying t = some (.struct fs)) (hf : fs[i]? = some fd) (hz : hasSz C.P fd.type = true) (he : ev fr x = some (.pointer (A.map (·.add j))))
    (hb : Bor C.B C.w0 L size (.slice A nn c) nn xs) (hn : 0 < nn) {q : Nat} (hq : fd.offset = q) :
    Det C fr L (.fieldAddr t x i) ty (.pointer (A.map (fun ad => (ad.add j).add q))) := by
  unfold hasSz at hz
  cases hi : C.P.info? fd.type with
  | none => rw [hi] at hz; cases hz
  | some f =>
    rw [hi] at hz
    have : 0 < f.size := by simpa [Nat.blt_eq] using hz
    exact det_fieldAddr_row (sz := f.size - 1) ht hf (by rw [hi]; simp; omega) he hb hn hq
/-- a struct by value of parts that cover it, in order -/
theorem det_buildx {C : Cx} {fr : Fr} {L : List Ch} {ty t : TypeId} {parts : List (Nat × Operand)} (us : List (Nat × Value)) (cs : List Value) (hp : parts.map (fun p => (p.1, ev fr p.2)) = us.map (fun p => (p.1, some p.2))) (hb : C.P.built t us = some cs.toArray) :
    Det C fr L (.build t parts.toArray) ty (.agg cs.toArray) := fun a w ha hw d pos af gg => by
  have hps : parts.map (fun p => (p.1, a.eval p.2)) = us := by
    clear hb
    induction parts generalizing us with
    | nil => cases us with | nil => rfl | cons _ _ => cases hp
    | cons p ps ih =>
      cases us with
      | nil => cases hp
      | cons u us =>
        simp only [List.map_cons, List.cons.injEq, Prod.mk.injEq] at hp
        obtain ⟨⟨h1, h2⟩, h3⟩ := hp
        simp only [List.map_cons, ha.tmp h2, h1, ih us h3]
  have := run_build (P := C.P) w t us.toArray cs.toArray (by simpa using hb)
  subst hps
  simp only [List.toArray] at this
  simp [execOp] at this ⊢
  rw [this]
  rfl
theorem det_build0 {C : Cx} {fr : Fr} {L : List Ch} {ty t : TypeId} (cs : List Value) (hb : C.P.built t [] = some cs.toArray) : Det C fr L (.build t #[]) ty (.agg cs.toArray) := fun a w ha hw d pos af gg => by
  have := run_build (P := C.P) w t #[] cs.toArray (by simpa using hb)
  simp [execOp, this]
theorem det_build {C : Cx} {fr : Fr} {L : List Ch} {ty t : TypeId} {parts : List (Nat × Operand)} (us : List (Nat × Value)) (cs : List Value) (hp : parts.map (fun p => (p.1, ev fr p.2)) = us.map (fun p => (p.1, some p.2))) (hcs : us.flatMap (fun p => p.2.cells.toList) = cs) (hb : C.P.built t us = some cs.toArray) :
    Det C fr L (.build t parts.toArray) ty (.agg cs.toArray) := det_buildx us cs hp hb
end Go.Proofs.Ytpamjobiohbibaa

/-
  Texts of one proof, joined: part 2. No condition.
-/
import Derived.Test.YtpamjobiohbibaaGreatGb1
import Derived.OrdersHeld
import Derived.Deep.RegionHeld3
import Derived.Lib.SliceRun
import Derived.Laws.CopyRow
import Derived.Laws.IdiomCopy
import Derived.Laws.StructEq
import Derived.Test.YtpamjobiohbibaaGreatProg
import Derived.MapKept
import Derived.WideMake
import Derived.WalkKit
import Derived.Laws.BitsAllLaws
import Derived.Laws.BitsLemmas
import Derived.Shelf.SortM.Plain
import Derived.Shelf.SortM.SortNone
import Derived.Shelf.SlicesG.CompactS
import Derived.Ground.SlgmProg
import Derived.Ground.SlgnProg
import Derived.Sort.OwnSorted
import Derived.Lib.OwnBridge
import Derived.Sort.Walk0
import Derived.Shelf.SlIter.Nil
import Derived.Ground.GgzProg
namespace Go.Proofs.YtpamjobiohbibaaGreat
open Go.RowKit
set_option linter.unusedVariables false
theorem own_to {w : World} {base : Nat} {e : TypeId} {v : Value} {n m : Nat} {xs ys : List Value} (h : w.ownsRow base e 1 v n xs) (hn : n = m) (hx : xs = ys) : w.ownsRow base e 1 v m ys := by subst hn; subst hx; exact h
/-- texts as_ values -/
def strs (l : List (List UInt8)) : List Value := l.map fun t => .string ⟨t.toArray⟩
@[simp] theorem strs_append (l k : List (List UInt8)) : strs (l ++ k) = strs l ++ strs k := by simp [strs]
@[simp] theorem strs_length (l : List (List UInt8)) : (strs l).length = l.length := by simp [strs]
theorem strs_one (l : List (List UInt8)) : ∀ u ∈ strs l, u.oneCell' = true := by
  intro u hu; obtain ⟨b, _, rfl⟩ := List.mem_map.1 hu; rfl
/-- numbers as_ values -/
def ints (k : IntKind) (l : List Int) : List Value := l.map (.int k)
@[simp] theorem ints_append (k : IntKind) (l r : List Int) : ints k (l ++ r) = ints k l ++ ints k r := by simp [ints]
@[simp] theorem ints_length (k : IntKind) (l : List Int) : (ints k l).length = l.length := by simp [ints]
theorem ints_one (k : IntKind) (l : List Int) : ∀ u ∈ ints k l, u.oneCell' = true := by
  intro u hu; obtain ⟨b, _, rfl⟩ := List.mem_map.1 hu; rfl
theorem w_i64 {x : Int} (h1 : -9223372036854775808 ≤ x) (h2 : x ≤ 9223372036854775807) : IntKind.i64.wrap x = x := by rw [IntKind.wrap_i64]; omega
theorem w_u64 {x : Int} (h1 : 0 ≤ x) (h2 : x < 18446744073709551616) : IntKind.u64.wrap x = x := by
  show x % 2 ^ 64 = x
  exact Int.emod_eq_of_lt h1 h2
theorem w_u8 {x : Int} (h1 : 0 ≤ x) (h2 : x < 256) : IntKind.u8.wrap x = x := by
  show x % 2 ^ 8 = x
  exact Int.emod_eq_of_lt h1 h2
theorem w_u16 {x : Int} (h1 : 0 ≤ x) (h2 : x < 65536) : IntKind.u16.wrap x = x := by
  show x % 2 ^ 16 = x
  exact Int.emod_eq_of_lt h1 h2
theorem int_to {k : IntKind} {a b : Int} (h : a = b) : some (Value.int k a) = some (.int k b) := by rw [h]
section
variable {C : Cx} {Q : Exit → Fr → List Ch → Prop} {fr fr' : Fr} {L L' : List Ch} {cd cd' : Code} {ops : Array Oper} {l : List Oper} {op : Op} {ty : TypeId} {pos : String} {af : Array Edge} {d : Nat} {v : Value}
variable {x y z : Operand} {k : IntKind} {m n : Int} {f : Ch → List Ch} {g o : Nat} {bt t e : TypeId} {cs : List Value}
def InJ (J : Fr → List Ch → Nat → Prop) (n : Nat) (Q : Exit → Fr → List Ch → Prop) : Exit → Fr → List Ch → Prop
  | .normal, fr, L => ∃ n', n' < n ∧ J fr L n'
  | e, fr, L => Q e fr L
theorem vc_loopJ (J : Fr → List Ch → Nat → Prop) (n0 : Nat) (h0 : J fr L n0) (round : ∀ n fr L, J fr L n → VC C cd (InJ J n Q) fr L) : VC C (.loop cd) Q fr L := fun a w ha hw => by
  refine wp_loop_ghost (fun n a w => ∃ fr L, J fr L n ∧ Agr C.N fr a ∧ SL C.B C.w0 L w) n0 ⟨fr, L, h0, ha, hw⟩ ?_
  rintro n a w ⟨fr, L, hJ, ha, hw⟩
  refine wp_mono (round n fr L hJ a w ha hw) fun e a w ⟨fr, L, ha, hs, hq⟩ => ?_
  cases e with
  | normal =>
    obtain ⟨n', k1, k2⟩ := hq
    exact ⟨n', k1, fr, L, k2, ha, hs⟩
  | _ => exact ⟨fr, L, ha, hs, hq⟩
theorem in_loop_ {J : Fr → List Ch → Nat → Prop} {n : Nat} (h : ∃ n', n' < n ∧ J fr L n') : InJ J n Q .normal fr L := h
theorem loop_exit {J : Fr → List Ch → Nat → Prop} {n i : Nat} (h : Q (.exit i) fr L) : InJ J n Q (.exit i) fr L := h
theorem loop_ret {J : Fr → List Ch → Nat → Prop} {n : Nat} (h : Q .ret fr L) : InJ J n Q .ret fr L := h
theorem then_exit {i : Nat} (h : Q (.exit i) fr L) : Then C cd Q (.exit i) fr L := h
theorem then_ret (h : Q .ret fr L) : Then C cd Q .ret fr L := h
def InM (J : Fr → List Ch → Prop) (Q : Exit → Fr → List Ch → Prop) : Exit → Fr → List Ch → Prop
  | .normal, fr, L => J fr L
  | e, fr, L => Q e fr L
/-- ways that meet: what holds of them all -/
theorem vc_seqJ (J : Fr → List Ch → Prop) (h1 : VC C cd (InM J Q) fr L) (h2 : ∀ fr L, J fr L → VC C cd' Q fr L) : VC C (.seq cd cd') Q fr L :=
  vc_seq fun a w ha hw => wp_mono (h1 a w ha hw) fun e a w ⟨fr, L, ha, hs, hq⟩ => by
    cases e with
    | normal => exact ⟨fr, L, ha, hs, h2 _ _ hq⟩
    | _ => exact ⟨fr, L, ha, hs, hq⟩
theorem in_join {J : Fr → List Ch → Prop} (h : J fr L) : InM J Q .normal fr L := h
theorem join_ret {J : Fr → List Ch → Prop} (h : Q .ret fr L) : InM J Q .ret fr L := h
theorem in_exit {i id : Nat} (hi : Nat.beq i id = false) (h : Q (.exit i) fr L) : InB id Q (.exit i) fr L := in_ne hi h
theorem fn_walk {P : Program} {B : Nat} {w0 : World} {f : FuncId} {fn : Func} {c : Code} {args : List Value} {R : Value → List Ch → Prop} (hf : P.funcs[f]? = some fn) (N : Nat) (hN : fn.ntmps = N) (hb : fn.body = some c) (hl : Nat.ble args.length N = true) (fr0 : Fr) (hi : Ini N args fr0)
    (h : VC ⟨P, N, B, w0⟩ c (Ret P fn R) fr0 L) : Does P B w0 f args L R := by
  subst hN
  exact fn_of hf hb (Nat.le_of_ble_eq_true hl) fr0 hi h
theorem callable {P : Program} {f : FuncId} {fn : Func} (hf : P.funcs[f]? = some fn) (hn : (fn.name == "runtime.NumGoroutine") = false) (hb : fn.body.isSome = true) : Callable P f := by
  obtain ⟨c, hc⟩ := Option.isSome_iff_exists.1 hb
  exact ⟨fn, c, hf, hn, hc⟩
/-- a letter of a text -/
theorem det_at_str {s : List UInt8} {i : Nat} (ht : C.P.underlying t = some .string) (h : ev fr x = some (.string ⟨s.toArray⟩)) (h2 : ev fr y = some (.int k m)) (hm : m = (i : Int)) (hi : i < s.length) : Det C fr L (.index t x y) ty (.int .u8 ((s.getD i 0).toNat : Int)) :=
  det_index_str ht h h2 hm (by rw [List.getElem?_eq_getElem hi]; simp [List.getD, List.getElem?_eq_getElem hi])
section
variable {nn c j : Nat} {A : Option Addr}
theorem Bor.len {B : Nat} {w0 w : World} {L : List Ch} {size n : Nat} {v : Value} {xs : List Value} (h : Bor B w0 L size v n xs) (hw : SL B w0 L w) : xs.length = n * size := by
  obtain ⟨_, _, _, _, hl, _⟩ := h w hw
  exact hl
theorem det_load_u8 {b : List UInt8} (hs : isSc C.P t = true) (he : ev fr x = some (.pointer (A.map (·.add (j * 1))))) (hb : Bor C.B C.w0 L 1 (.slice A nn c) nn (bv b)) (hj : j < nn) : Det C fr L (.load t x) ty (.int .u8 ((b.getD j 0).toNat : Int)) := fun a w ha hw => by
  have hl := hb.len hw
  simp at hl
  rw [Nat.mul_one] at he
  refine det_load_row hs he hb (by omega) ?_ a w ha hw
  simp [bv, List.getD, List.getElem?_eq_getElem (show j < b.length by omega)]
theorem det_load_str {b : List (List UInt8)} (hs : isSc C.P t = true) (he : ev fr x = some (.pointer (A.map (·.add (j * 1))))) (hb : Bor C.B C.w0 L 1 (.slice A nn c) nn (strs b)) (hj : j < nn) : Det C fr L (.load t x) ty (.string ⟨(b.getD j []).toArray⟩) := fun a w ha hw => by
  have hl := hb.len hw
  simp at hl
  rw [Nat.mul_one] at he
  refine det_load_row hs he hb (by omega) ?_ a w ha hw
  simp [strs, List.getD, List.getElem?_eq_getElem (show j < b.length by omega)]
theorem det_load_int {b : List Int} {kk : IntKind} (hs : isSc C.P t = true) (he : ev fr x = some (.pointer (A.map (·.add (j * 1))))) (hb : Bor C.B C.w0 L 1 (.slice A nn c) nn (ints kk b)) (hj : j < nn) : Det C fr L (.load t x) ty (.int kk (b.getD j 0)) := fun a w ha hw => by
  have hl := hb.len hw
  simp at hl
  rw [Nat.mul_one] at he
  refine det_load_row hs he hb (by omega) ?_ a w ha hw
  simp [ints, List.getD, List.getElem?_eq_getElem (show j < b.length by omega)]
end
/-- 'append(s, v)' of one element of one cell -/
theorem eff_build1 {zv : Value} {bytes : Nat} (T : SlT C.P t e 1 bytes zv) (he : ev fr x = some v) (h1 : v.oneCell' = true) : Eff C fr L (.buildSlice t 1 #[(0, x)]) ty (fun p L' => ∃ A, p = .slice A 1 1 ∧ L' = .own e 1 A 1 1 [v] :: L) := fun a w ha hw d pos af gg => by
  obtain ⟨i, hi, hz, hsz, hby⟩ := T.hi
  have hv : v.cells = #[v] := by cases v <;> simp_all [Value.cells, Value.oneCell']
  have hzs := T.hz
  refine ⟨_, w.alloc (.cells #[v] e), _, .inl ?_, ⟨some ⟨w.heap.size, 0, none⟩, rfl, rfl⟩, hw.cons_new (World.grownBy_alloc w _ none) ⟨rfl, Nat.le_refl _, .inr ⟨_, _, rfl, hw.base, heap_alloc_new w _, by decide, rfl, rfl⟩⟩ (.inr ⟨w.heap.size, rfl, Nat.le_refl _⟩)⟩
  simp [execOp, Instr.buildSlice, run_underlying T.ht, sizeOf, typeInfo, zeroValue, hi, hz, hsz, ha.tmp he, Instr.fill, hv, hzs, newRow]
  simp [Array.range_succ, Array.range_zero']
theorem vl_push {zv : Value} {bytes d1 d2 : Nat} {ty1 ty2 : TypeId} {pos1 pos2 : String} {af1 af2 : Array Edge} {s : Operand} {A : Option Addr} {n c : Nat} {xs : List Value} (T : SlT C.P t e 1 bytes zv) (he : ev fr x = some v) (h1 : v.oneCell' = true) (hd1 : Nat.blt d1 C.N = true) (hd2 : Nat.blt d2 C.N = true)
    (hs : ev ((d1, .slice none 0 0) :: fr) s = some (.slice A n c)) (hsn : ∀ u, ev ((d1, u) :: fr) s = ev ((d1, .slice none 0 0) :: fr) s) (hl : Sel (.own e 1 A n c xs) L f) (hbytes : (n + 1) * bytes ≤ 140737488355328) (h63 : n + 1 ≤ 140737488355328)
    (kk : ∀ A1 A' c', VL C ops Q l ((d2, .slice A' (n + 1) c') :: (d1, .slice A1 1 1) :: fr) (f (.own e 1 A' (n + 1) c' (xs ++ [v])))) :
    VL C ops Q (⟨some d1, .buildSlice t 1 #[(0, x)], ty1, pos1, af1, none⟩ :: ⟨some d2, .call { callee := .builtin .append, args := #[s, .tmp d1], argTypes := #[t, t] }, ty2, pos2, af2, none⟩ :: l) fr L := by
  refine vl_eff (eff_build1 T he h1) hd1 ?_
  rintro _ _ ⟨A1, rfl, rfl⟩
  refine vl_eff (eff_app (m := 1) (news := [v]) T ((hsn _).trans hs) (.tl hl) (yv := .slice A1 1 1) (by simp [ev, look]) (Bor.own (List.Mem.head _)) (by simp [h1]) hbytes h63) hd2 ?_
  rintro _ _ ⟨A2, c2, rfl, rfl⟩
  intro a w ha hw
  exact kk A1 A2 c2 a w ha hw.tail
theorem bool_to {p q : Prop} [Decidable p] [Decidable q] (h : p ↔ q) : some (Value.bool (decide p)) = some (.bool (decide q)) := by rw [decide_eq_decide.2 h]
theorem bool_to_t {q : Prop} [Decidable q] (h : q) : some (Value.bool true) = some (.bool (decide q)) := by rw [decide_eq_true h]
theorem bool_to_f {q : Prop} [Decidable q] (h : ¬ q) : some (Value.bool false) = some (.bool (decide q)) := by rw [decide_eq_false h]
theorem bool_to_b {b : Bool} {q : Prop} [Decidable q] (h : b = true ↔ q) : some (Value.bool b) = some (.bool (decide q)) := by
  cases b
  · rw [decide_eq_false (by simpa using h)]
  · rw [decide_eq_true (by simpa using h)]
/-- ways within a region that meet at a test -/
theorem vl_cut (n d : Nat) (base : Fr) (p : Prop) [Decidable p] (hs : Sub fr base) (h1 : VL C ops (fun e fr L' => e = .normal ∧ L' = L ∧ Sub fr base ∧ look d fr = some (.bool (decide p))) (l.take n) fr L) (h2 : VL C ops Q (l.drop n) ((d, .bool (decide p)) :: base) L) : VL C ops Q l fr L := fun a w ha hw => by
  have hcat : ∀ (l1 l2 : List Oper) (a : Act) (w : World), wpList C.P ops (fun e a w => e = .normal ∧ wpList C.P ops (lift C Q) l2 a w) l1 a w → wpList C.P ops (lift C Q) (l1 ++ l2) a w := by
    intro l1 l2
    induction l1 with
    | nil => intro a w h; exact h.2
    | cons o l1 ih =>
      intro a w h
      rw [List.cons_append]
      unfold wpList at h ⊢
      split
      · rename_i hwt
        rw [if_pos hwt] at h
        rcases h with h | ⟨_, _, _, h, _⟩
        · refine .inl ?_
          unfold Oper.wp at h ⊢
          revert h
          generalize (execOp a.eval o).run C.P w = r
          intro h
          unfold Oper.upon at h ⊢
          split <;> simp only at h
          · exact ih _ _ h
          · exact ih _ _ h
          · exact ih _ _ h
          · refine Calls.mono h fun e w' he => ?_
            cases e with
            | returned v => exact ih _ _ he
            | panicked ch => cases he.1
            | outgrown => obtain ⟨_, _, h, _⟩ := he; cases h
          · exact Rows.mono h fun v w' he => ih _ _ he
          · cases h.1
        · cases h
      · rename_i hwt
        rw [if_neg hwt] at h
        exact ih _ _ h
  have := hcat (l.take n) (l.drop n) a w ?_
  · rwa [List.take_append_drop] at this
  · have hm : ∀ (l1 : List Oper) (a : Act) (w : World) {QQ QQ' : Exit → Act → World → Prop}, (∀ e a w, QQ e a w → QQ' e a w) → wpList C.P ops QQ l1 a w → wpList C.P ops QQ' l1 a w := by
      intro l1
      induction l1 with
      | nil => intro a w QQ QQ' hq h; exact hq _ _ _ h
      | cons o l1 ih =>
        intro a w QQ QQ' hq h
        unfold wpList at h ⊢
        split
        · rename_i hwt
          rw [if_pos hwt] at h
          rcases h with h | ⟨h1, a0, w0', h2⟩
          · refine .inl ?_
            unfold Oper.wp at h ⊢
            revert h
            generalize (execOp a.eval o).run C.P w = r
            intro h
            unfold Oper.upon at h ⊢
            split <;> simp only at h
            · exact ih _ _ hq h
            · exact ih _ _ hq h
            · exact ih _ _ hq h
            · refine Calls.mono h fun e w' he => ?_
              cases e with
              | returned v => exact ih _ _ hq he
              | panicked ch => exact hq _ _ _ he
              | outgrown => obtain ⟨a1, w1, h⟩ := he; exact ⟨a1, w1, hq _ _ _ h⟩
            · exact Rows.mono h fun v w' he => ih _ _ hq he
            · exact hq _ _ _ h
          · exact .inr ⟨h1, a0, w0', hq _ _ _ h2⟩
        · rename_i hwt
          rw [if_neg hwt] at h
          exact ih _ _ hq h
    refine hm _ _ _ ?_ (h1 a w ha hw)
    rintro e a w ⟨fr', L', ha', hw', rfl, rfl, hb, hd⟩
    refine ⟨rfl, h2 a w ⟨ha'.defers, ha'.size, fun t v ht => ?_⟩ hw'⟩
    unfold look at ht
    cases hbe : Nat.beq d t with
    | true =>
      have := Nat.eq_of_beq_eq_true hbe
      subst this
      rw [hbe] at ht
      simp only [cond_true, Option.some.injEq] at ht
      subst ht
      exact ha'.at_ _ _ hd
    | false =>
      rw [hbe] at ht
      exact ha'.at_ _ _ (hb.look _ _ ht)
theorem vl_cut_end {base : Fr} {d : Nat} {u : Value} (hb : Sub fr base) (hd : look d fr = some u) : VL C ops (fun e fr L' => e = .normal ∧ L' = L ∧ Sub fr base ∧ look d fr = some u) [] fr L := fun a w ha hw => wpList_nil ⟨fr, L, ha, hw, rfl, rfl, hb, hd⟩
theorem vq_cut {QF : Fr → Prop} (n d : Nat) (base : Fr) (p : Prop) [Decidable p] (hs : Sub fr base) (h1 : VQ C ops L (fun fr => Sub fr base ∧ look d fr = some (.bool (decide p))) (l.take n) fr) (h2 : VQ C ops L QF (l.drop n) ((d, .bool (decide p)) :: base)) : VQ C ops L QF l fr := fun a ha => by
  have hcat : ∀ (l1 l2 : List Oper) (a : Act) {QQ : Act → Prop}, wpQuiet C.P ops (SL C.B C.w0 L) (fun a => wpQuiet C.P ops (SL C.B C.w0 L) QQ l2 a) l1 a → wpQuiet C.P ops (SL C.B C.w0 L) QQ (l1 ++ l2) a := by
    intro l1 l2
    induction l1 with
    | nil => intro a QQ h; exact h
    | cons o l1 ih =>
      intro a QQ h
      rw [List.cons_append]
      unfold wpQuiet at h ⊢
      split
      · rename_i hw; rw [if_pos hw] at h; exact Oper.quiet_mono (fun a h => ih a h) h
      · rename_i hw; rw [if_neg hw] at h; exact ih _ h
  have hmono : ∀ (l : List Oper) (a : Act) {QQ QQ' : Act → Prop}, (∀ a, QQ a → QQ' a) → wpQuiet C.P ops (SL C.B C.w0 L) QQ l a → wpQuiet C.P ops (SL C.B C.w0 L) QQ' l a := by
    intro l
    induction l with
    | nil => intro a QQ QQ' hq h; exact hq _ h
    | cons o l ih =>
      intro a QQ QQ' hq h
      unfold wpQuiet at h ⊢
      split
      · rename_i hw; rw [if_pos hw] at h; exact Oper.quiet_mono (fun a h => ih a hq h) h
      · rename_i hw; rw [if_neg hw] at h; exact ih _ hq h
  have := hcat (l.take n) (l.drop n) a (QQ := fun a' => ∃ fr', Agr C.N fr' a' ∧ QF fr') (hmono _ _ (fun a h => ?_) (h1 a ha))
  · rwa [List.take_append_drop] at this
  · obtain ⟨fr', ha', hb, hd⟩ := h
    refine h2 a ⟨ha'.defers, ha'.size, fun t v ht => ?_⟩
    unfold look at ht
    cases hbe : Nat.beq d t with
    | true =>
      have := Nat.eq_of_beq_eq_true hbe
      subst this
      rw [hbe] at ht
      simp only [cond_true, Option.some.injEq] at ht
      subst ht
      exact ha'.at_ _ _ hd
    | false =>
      rw [hbe] at ht
      exact ha'.at_ _ _ (hb.look _ _ ht)
theorem vq_cut_end {base : Fr} {d : Nat} {u : Value} (hb : Sub fr base) (hd : look d fr = some u) : VQ C ops L (fun fr => Sub fr base ∧ look d fr = some u) [] fr := fun a ha => wpQuiet_nil ⟨fr, ha, hb, hd⟩
theorem det_notd {p : Prop} [Decidable p] {xt : TypeId} (h : ev fr x = some (.bool (decide p))) : Det C fr L (.unOp .not xt x) ty (.bool (decide (¬ p))) := fun a w ha hw d pos af g => by
  have e : (!decide p) = decide (¬ p) := by by_cases hp : p <;> simp [hp]
  rw [← e]
  exact det_not h a w ha hw d pos af g
theorem eff_alloc_z {zv : Value} (hz : (C.P.info? e).bind (·.zero) = some zv) (hc : zv.cells = cs.toArray) : Eff C fr L (.alloc e) ty (fun p L' => ∃ g, p = .pointer (some ⟨g, 0, none⟩) ∧ L' = .blk g e cs :: L) := by
  cases hi : C.P.info? e with
  | none => rw [hi] at hz; cases hz
  | some i =>
    rw [hi] at hz
    exact eff_alloc hi hz hc
theorem det_len_s {t : TypeId} {s : List UInt8} (ht : C.P.underlying t = some .string) (h : ev fr x = some (.string ⟨s.toArray⟩)) : Det C fr L (.call { callee := .builtin .len, args := #[x], argTypes := #[t] }) ty (.int .i64 (s.length : Int)) := by
  have := det_len_str (L := L) (ty := ty) ht h
  rwa [size_mk] at this
theorem take_getD {α : Type} {l : List α} {k : Nat} (h : k < l.length) (d : α) : l.take (k + 1) = l.take k ++ [l.getD k d] := by
  rw [List.take_succ_eq_append_getElem h]; simp [List.getD, List.getElem?_eq_getElem h]
theorem drop_getD {α : Type} {l : List α} {k : Nat} (h : k < l.length) (d : α) : l.drop k = l.getD k d :: l.drop (k + 1) := by
  rw [List.drop_eq_getElem_cons h]; simp [List.getD, List.getElem?_eq_getElem h]
theorem getD_mem {α : Type} {l : List α} {k : Nat} (h : k < l.length) (d : α) : l.getD k d ∈ l := by
  simp [List.getD, List.getElem?_eq_getElem h]
theorem Does.of_own {P : Program} {B : Nat} {w0 : World} {ff : FuncId} {args : List Value} {size n : Nat} {xs : List Value} (h : ∀ w, SL B w0 L w → Calls P ff args.toArray w fun e' w' => ∃ v, e' = .returned v ∧ w'.ownsRow w.heap.size e size v n xs ∧ Below w.heap.size w w') :
    Does P B w0 ff args L (fun r L' => ∃ A c, r = .slice A n c ∧ L' = .own e size A n c xs :: L) := fun w hw => (h w hw).mono fun e' w' ⟨v, he, ho, hb⟩ => by
  have hg : w.grownBy w' none := ⟨hb.os, hb.tape, hb.output, hb.size, fun k hk _ => hb.block k hk⟩
  rcases ho.2 with ⟨rfl, rfl⟩ | ⟨g, cap, cur, rfl, h1, h2, h3, h4, h5, h6⟩
  · exact ⟨_, _, he, ⟨none, 0, rfl, rfl⟩, hw.cons_new hg ⟨ho.1, Nat.le_refl _, .inl rfl⟩ (.inl rfl)⟩
  · refine ⟨_, _, he, ⟨_, _, rfl, rfl⟩, hw.cons_new hg ⟨ho.1, h3, .inr ⟨g, cur, rfl, Nat.le_trans hw.base h1, h2, h4, h5, h6⟩⟩ ?_⟩
    by_cases hc : cap = 0
    · left; simp [Ch.fp, hc]
    · right; exact ⟨g, by simp [Ch.fp, hc], h1⟩
theorem vc_decideU {tt : Nat} {p : Prop} [Decidable p] (hc : look tt fr = some (.bool (decide p))) (ht : p → VC C cd Q ((tt, .bool true) :: fr) L) (hf : ¬ p → VC C cd' Q ((tt, .bool false) :: fr) L) : VC C (.cond (.tmp tt) cd cd') Q fr L := fun a w ha hw =>
  vc_decide (C := C) (Q := Q) (fr := fr) (c := .tmp tt) hc (fun h a w ha hw => ht h a w (ha.bool hc (decide_eq_true h)) hw) (fun h a w ha hw => hf h a w (ha.bool hc (decide_eq_false h)) hw) a w ha hw
/-- what is owned holds what is named, and more -/
def Wk (L L' : List Ch) : Prop := ∃ M, L.Perm (L' ++ M)
theorem Wk.refl (L : List Ch) : Wk L L := ⟨[], by rw [List.append_nil]⟩
theorem Wk.of_perm (h : L.Perm L') : Wk L L' := ⟨[], by rwa [List.append_nil]⟩
theorem Wk.skip {c : Ch} (h : Wk L L') : Wk (c :: L) L' := by
  obtain ⟨M, h⟩ := h
  exact ⟨c :: M, (h.cons c).trans (List.perm_middle.symm)⟩
theorem Wk.cons {c : Ch} (h : Wk L L') : Wk (c :: L) (c :: L') := by
  obtain ⟨M, h⟩ := h
  exact ⟨M, h.cons c⟩
theorem Wk.swap {a b : Ch} (h : Wk (b :: a :: L) L') : Wk (a :: b :: L) L' := by
  obtain ⟨M, h⟩ := h
  exact ⟨M, (List.Perm.swap b a L).trans h⟩
theorem Wk.trans {L'' : List Ch} (h : Wk L L') (k : Wk L' L'') : Wk L L'' := by
  obtain ⟨M, h⟩ := h
  obtain ⟨N, k⟩ := k
  exact ⟨N ++ M, h.trans ((k.append_right M).trans (by rw [List.append_assoc]))⟩
theorem Wk.sl {B : Nat} {w0 w : World} (h : Wk L L') (hs : SL B w0 L w) : SL B w0 L' w := by
  obtain ⟨M, h⟩ := h
  exact (hs.perm h).sub (List.sublist_append_left _ _)
theorem vc_wk (h : Wk L L') (k : VC C cd Q fr L') : VC C cd Q fr L := fun a w ha hw => k a w ha (h.sl hw)
theorem wk_own {e : TypeId} {size n n' c : Nat} {A : Option Addr} {xs ys : List Value} (hn : n = n') (h : xs = ys) (t : Wk L L') : Wk (Ch.own e size A n c xs :: L) (Ch.own e size A n' c ys :: L') := by subst hn; subst h; exact t.cons
theorem wk_blk {g : Nat} {t : TypeId} {xs ys : List Value} (h : xs = ys) (k : Wk L L') : Wk (Ch.blk g t xs :: L) (Ch.blk g t ys :: L') := by subst h; exact k.cons
theorem ret_wk {P : Program} {fn : Func} {R : Value → List Ch → Prop} {ee : Exit} (hs : Wk L L') (h : Ret P fn R ee fr L') : Ret P fn R ee fr L := by
  cases ee <;> first
    | exact h
    | (intro B w0 a w ha hw; exact h B w0 a w ha (hs.sl hw))
end
end Go.Proofs.YtpamjobiohbibaaGreat
namespace Go.Proofs.YtpamjobiohbibaaGreat
open Go.RowKit
set_option linter.unusedVariables false
section
variable {C : Cx} {Q : Exit → Fr → List Ch → Prop} {fr fr' : Fr} {L L' S : List Ch} {ops : Array Oper} {op : Op} {ty : TypeId} {pos : String} {af : Array Edge} {d : Nat} {v : Value} {fuel : Nat} {li : Array Bool}
def VH (C : Cx) (ops : Array Oper) (S : List Ch) (Q : Exit → Fr → List Ch → Prop) (fuel : Nat) (li : Array Bool) (fr : Fr) (L : List Ch) : Prop :=
  ∀ a w, Agr C.N fr a → SL C.B C.w0 L w → SL C.B C.w0 S w → wpAnyH C.P .any ops (NoPanic (lift C Q)) (SL C.B C.w0 S) fuel li a w
theorem vh_region {id : Nat} {l : List Oper} (hm : C.P.follows .mixedOrders = true) (hS : S.Sublist L) (h : VH C l.toArray S Q l.toArray.size (Array.replicate l.toArray.size false) fr L) : VC C (.region id l.toArray true) Q fr L := fun a w ha hw =>
  wp_region_noPanic (wp_region_held hm (h a _ ha (hw.drewN 1) ((hw.drewN 1).sub hS)))
theorem vh_take (i : Nat) (ho : ops[i]? = some ⟨some d, op, ty, pos, af, none⟩) (hs : Region.noSelect ops = true) (hf : Region.free .any ops li i = true) (hr : (Region.ready .any ops li).contains i = true) (h : Det C fr S op ty v) (hd : Nat.blt d C.N = true)
    (k : VH C ops S Q fuel (li.setIfInBounds i true) ((d, v) :: fr) L) : VH C ops S Q (fuel + 1) li fr L := fun a w ha hw hS =>
  wpAnyH_take ho hs hf hr (fun _ _ _ h => h) (.inl ⟨rfl, fun w hw => h a w ha hw _ _ _ _⟩) hS (k _ w (ha.put hd v) hw hS)
/-- one operation that is carried out -/
def Step (C : Cx) (ops : Array Oper) (S : List Ch) (Q : Exit → Fr → List Ch → Prop) (fuel : Nat) (li : Array Bool) (fr : Fr) (L : List Ch) (i : Nat) : Prop :=
  ∀ a w, Agr C.N fr a → SL C.B C.w0 L w → SL C.B C.w0 S w → wpOp C.P ops (NoPanic (lift C Q)) i (fun a' w' => SL C.B C.w0 S w' ∧ wpAnyH C.P .any ops (NoPanic (lift C Q)) (SL C.B C.w0 S) fuel (li.setIfInBounds i true) a' w') a w
theorem vh_one (i : Nat) (hr : Region.ready .any ops li = [i]) (h : Step C ops S Q fuel li fr L i) : VH C ops S Q (fuel + 1) li fr L := fun a w ha hw hS =>
  wpAnyH_all hr (by simp) fun j hj => by rw [List.mem_singleton.1 hj]; exact h a w ha hw hS
theorem vh_two (i j : Nat) (hr : Region.ready .any ops li = [i, j]) (h1 : Step C ops S Q fuel li fr L i) (h2 : Step C ops S Q fuel li fr L j) : VH C ops S Q (fuel + 1) li fr L := fun a w ha hw hS =>
  wpAnyH_all hr (by simp) fun k hk => by
    rcases List.mem_cons.1 hk with rfl | hk
    · exact h1 a w ha hw hS
    · rw [List.mem_singleton.1 hk]; exact h2 a w ha hw hS
/-- a guard that lets the operation be carried out -/
inductive Gd (ops : Array Oper) (fr : Fr) : Option (Nat × Bool) → Prop where
  | no : Gd ops fr none
  | yes {j t : Nat} {want : Bool} (hj : (ops[j]?).bind (·.dst) = some t) (ht : look t fr = some (.bool want)) : Gd ops fr (some (j, want))
theorem Gd.wanted {g : Option (Nat × Bool)} {dd : Option Tmp} {a : Act} {N : Nat} (h : Gd ops fr g) (ha : Agr N fr a) : Region.wanted ⟨dd, op, ty, pos, af, g⟩ (yielded ops a.tmps) = true := by
  cases h with
  | no => rfl
  | yes hj ht => rw [wanted_iff hj (ha.at_ _ _ ht)]; simp
theorem st_eff {i : Nat} {R : Value → List Ch → Prop} {g : Option (Nat × Bool)} (ho : ops[i]? = some ⟨some d, op, ty, pos, af, g⟩) (hg : Gd ops fr g) (h : Eff C fr L op ty R) (hd : Nat.blt d C.N = true) (hS : ∀ v L', R v L' → S.Sublist L')
    (k : ∀ v L', R v L' → VH C ops S Q fuel (li.setIfInBounds i true) ((d, v) :: fr) L') : Step C ops S Q fuel li fr L i := fun a w ha hw _ => by
  obtain ⟨v, w', L', hr, hR, hs⟩ := h a w ha hw (some d) pos af g
  unfold wpOp
  simp only [ho]
  rw [if_pos (hg.wanted ha)]
  refine .inl ?_
  unfold Oper.wp
  have hs2 := hs.sub (hS v L' hR)
  rcases hr with hr | ⟨hr, rfl⟩ <;> rw [hr] <;> exact ⟨hs2, k _ _ hR _ _ (ha.put hd _) hs hs2⟩
theorem st_eff0 {i : Nat} {R : Value → List Ch → Prop} {g : Option (Nat × Bool)} (ho : ops[i]? = some ⟨none, op, ty, pos, af, g⟩) (hg : Gd ops fr g) (h : Eff C fr L op ty R) (hS : ∀ v L', R v L' → S.Sublist L')
    (k : ∀ v L', R v L' → VH C ops S Q fuel (li.setIfInBounds i true) fr L') : Step C ops S Q fuel li fr L i := fun a w ha hw _ => by
  obtain ⟨v, w', L', hr, hR, hs⟩ := h a w ha hw none pos af g
  unfold wpOp
  simp only [ho]
  rw [if_pos (hg.wanted ha)]
  refine .inl ?_
  unfold Oper.wp
  have hs2 := hs.sub (hS v L' hR)
  rcases hr with hr | ⟨hr, rfl⟩ <;> rw [hr] <;> exact ⟨hs2, k _ _ hR _ _ ha hs hs2⟩
theorem st_call {i : Nat} {ff : FuncId} {as_ : List Operand} {ats : Array TypeId} {vs : List Value} {R : Value → List Ch → Prop} {g : Option (Nat × Bool)} (ho : ops[i]? = some ⟨some d, .call { callee := .value (.func ff), args := as_.toArray, argTypes := ats }, ty, pos, af, g⟩) (hg : Gd ops fr g) (hc : Callable C.P ff) (he : evs fr as_ = some vs) (h : Does C.P C.B C.w0 ff vs L R) (hd : Nat.blt d C.N = true) (hS : ∀ v L', R v L' → S.Sublist L')
    (k : ∀ v L', R v L' → VH C ops S Q fuel (li.setIfInBounds i true) ((d, v) :: fr) L') : Step C ops S Q fuel li fr L i := fun a w ha hw _ => by
  unfold wpOp
  simp only [ho]
  rw [if_pos (hg.wanted ha)]
  refine .inl ?_
  unfold Oper.wp
  rw [execOp_callv hc (fst := #[]) (cap := #[]) rfl, ha.evs he, Array.append_empty, Array.empty_append]
  refine Calls.mono (h w hw) fun e w' ⟨v, L', he, hR, hs⟩ => ?_
  subst he
  have hs2 := hs.sub (hS v L' hR)
  exact ⟨hs2, k _ _ hR _ _ (ha.put hd _) hs hs2⟩
theorem st_det {i : Nat} {g : Option (Nat × Bool)} (ho : ops[i]? = some ⟨some d, op, ty, pos, af, g⟩) (hg : Gd ops fr g) (h : Det C fr L op ty v) (hd : Nat.blt d C.N = true) (hS : S.Sublist L)
    (k : VH C ops S Q fuel (li.setIfInBounds i true) ((d, v) :: fr) L) : Step C ops S Q fuel li fr L i := fun a w ha hw _ => by
  unfold wpOp
  simp only [ho]
  rw [if_pos (hg.wanted ha)]
  refine .inl ?_
  unfold Oper.wp
  rw [h a w ha hw]
  exact ⟨hw.sub hS, k _ _ (ha.put hd _) hw (hw.sub hS)⟩
theorem vh_done (base : Fr) (hs : Sub fr base) (hr : Region.ready .any ops li = []) (h : Q .normal base L) : VH C ops S Q fuel li fr L := fun a w ha hw _ => wpAnyH_done hr (show NoPanic (lift C Q) .normal a w from ⟨base, L, ha.sub hs, hw, h⟩) _
/-! ### Rows that are laid out -/
def evp (fr : Fr) : Nat → List (Nat × Operand) → Option (List Value)
  | _, [] => some []
  | k, (i, x) :: r => bif Nat.beq i k then (match ev fr x, evp fr (k + 1) r with
    | some v, some vs => some (v :: vs)
    | _, _ => none) else none
theorem fill_seq {a : Act} {N : Nat} (ha : Agr N fr a) : ∀ (parts : List (Nat × Operand)) (k : Nat) (vs : List Value) (cells : Array Value), evp fr k parts = some vs → (∀ u ∈ vs, u.oneCell' = true) → k + vs.length ≤ cells.size →
    ∃ out, Instr.fill (fun i => some (i * 1, 1)) cells (parts.map fun p => (p.1, a.eval p.2)) = some out ∧ out.size = cells.size ∧ (∀ j, j < k → out[j]? = cells[j]?) ∧ (∀ j, j < vs.length → out[k + j]? = vs[j]?)
  | [], k, vs, cells, h, _, _ => by
    simp [evp] at h
    subst h
    exact ⟨cells, rfl, rfl, fun _ _ => rfl, fun j hj => absurd hj (by simp)⟩
  | (i, x) :: r, k, vs, cells, h, h1, hl => by
    unfold evp at h
    cases hb : Nat.beq i k with
    | false => rw [hb] at h; cases h
    | true =>
      rw [hb] at h
      have hik := Nat.eq_of_beq_eq_true hb
      subst hik
      simp only [cond_true] at h
      split at h
      · rename_i v vs' e1 e2
        injection h with h
        subst h
        have hv1 := h1 v (by simp)
        have hv : v.cells = #[v] := by cases v <;> simp_all [Value.cells, Value.oneCell']
        simp only [List.length_cons] at hl
        obtain ⟨out, q1, q2, q3, q4⟩ := fill_seq ha r (i + 1) vs' (cells.setIfInBounds i v) e2 (fun u hu => h1 u (by simp [hu])) (by simp; omega)
        refine ⟨out, ?_, by simpa using q2, fun j hj => ?_, fun j hj => ?_⟩
        · simp only [List.map_cons, ha.tmp e1, Instr.fill, hv]
          have : ¬ (cells.size < i + 1) := by omega
          simp only [Nat.mul_one] at q1
          simp [this, q1]
        · rw [q3 j (by omega)]
          simp [show ¬ i = j by omega]
        · rcases j with _ | j
          · rw [Nat.add_zero, q3 i (by omega)]
            simp [show i < cells.size by omega]
          · have := q4 j (by simpa using hj)
            rw [show i + (j + 1) = i + 1 + j by omega, this]
            simp
      · cases h
theorem eff_build_lit {t e : TypeId} {kk bytes : Nat} {zv : Value} {parts : List (Nat × Operand)} (T : SlT C.P t e 1 bytes zv) (vs : List Value) (hp : evp fr 0 parts = some vs) (hk : vs.length = kk) (h1 : ∀ u ∈ vs, u.oneCell' = true) (hpos : 0 < kk) (hsm : kk ≤ 1048576) :
    Eff C fr L (.buildSlice t kk parts.toArray) ty (fun p L' => ∃ A, p = .slice A kk kk ∧ L' = .own e 1 A kk kk vs :: L) := fun a w ha hw d pos af gg => by
  obtain ⟨i, hi, hz, hsz, hby⟩ := T.hi
  obtain ⟨out, q1, q2, q3, q4⟩ := fill_seq ha parts 0 vs ((Array.range (kk * 1)).map (zv.cells[· % zv.cells.size]!)) hp h1 (by simp; omega)
  have hout : out = vs.toArray := by
    apply Array.ext
    · simp at q2; simp [q2, hk]
    · intro j h1 h2
      have := q4 j (by simpa using h2)
      rw [Nat.zero_add, Array.getElem?_eq_getElem h1] at this
      simp at h2
      rw [List.getElem?_eq_getElem h2] at this
      simpa using this
  rw [hout] at q1
  have hkk : ¬ (16777216 < kk) := by omega
  have hk0 : ¬ kk = 0 := by omega
  refine ⟨_, w.alloc (.cells vs.toArray e), _, .inl ?_, ⟨some ⟨w.heap.size, 0, none⟩, rfl, rfl⟩, hw.cons_new (World.grownBy_alloc w _ none) ⟨by rw [hk, Nat.mul_one], Nat.le_refl _, .inr ⟨_, _, rfl, hw.base, heap_alloc_new w _, by unfold maxLen; omega, by simp [hk], by simp [← hk]⟩⟩ (.inr ⟨w.heap.size, by simp [Ch.fp, hk0], Nat.le_refl _⟩)⟩
  simp only [Nat.mul_one] at q1
  simp [execOp, Instr.buildSlice, run_underlying T.ht, sizeOf, typeInfo, zeroValue, hi, hz, hsz, hkk, hk0, newRow, q1]
/-! ### Arrays in variables; results that lie in memory -/
section
variable {x y : Operand} {k : IntKind} {m : Int} {f : Ch → List Ch} {g o i : Nat} {bt t e : TypeId} {cs : List Value}
theorem det_load_whole (kk : Nat) (hs : isAg C.P t kk = true) (he : ev fr x = some (.pointer (some ⟨g, 0, none⟩))) (hm : Sel (.blk g bt cs) L f) (hk : cs.length = kk) : Det C fr L (.load t x) ty (.agg cs.toArray) :=
  det_load_agg kk hs he hm cs (by rw [List.drop_zero, ← hk, List.take_length]) hk
theorem eff_store_whole {us : List Value} (kk : Nat) (hs : isAg C.P t kk = true) (he : ev fr x = some (.pointer (some ⟨g, 0, none⟩))) (hv : ev fr y = some (.agg us.toArray)) (h1 : ∀ u ∈ us, u.oneCell' = true) (hm : Sel (.blk g bt cs) L f) (hk : cs.length = kk) (hu : us.length = kk) :
    Eff C fr L (.store t x y) ty (fun p L' => L' = f (.blk g bt us)) := fun a w ha hw d pos af gg => by
  have hb := (hw.all _ hm.mem).2
  have hi : (C.P.info? t).map (·.size) = some us.toArray.size := by
    have h := hs
    unfold isAg at h
    rw [Bool.and_eq_true] at h
    have h2 := h.2
    rw [beq_iff_eq] at h2
    rw [h2, ← hu]; simp
  have hr := run_storeVar_row (P := C.P) w g bt t cs.toArray us.toArray hb hi (by simp [hk, hu]) (by rw [Array.all_eq_true_iff_forall_mem]; simpa using h1)
  refine ⟨undef, w.setRow g us.toArray, f (.blk g bt us), .inr ⟨by simp [execOp, Instr.storeAt, Instr.sureAddr, ha.tmp he, ha.tmp hv, hr], rfl⟩, rfl, ?_⟩
  refine hw.sel hm ?_ (fun ⟨q1, q2⟩ => ⟨q1, ?_⟩) (.inr (.inl rfl))
  · exact ⟨rfl, rfl, rfl, by simp, fun k _ hk => setRow_other w g k _ (fun e => hk (by rw [e]; rfl))⟩
  · exact setRow_heap w g cs.toArray _ bt _ q2
theorem ret_ct {P : Program} {fn : Func} {R : Value → List Ch → Prop} {q u kk : Nat} {ty : TypeId} (hr : fn.results = #[.cell q ty, .tmp u]) (hq : look q fr = some (.pointer (some ⟨g, 0, none⟩))) (hs : isAg P ty kk = true) (hm : Sel (.blk g bt cs) L f) (hk : cs.length = kk) {v : Value} (hu : look u fr = some v) (hwk : Wk L L')
    (h : R (.tuple #[.agg cs.toArray, v]) L') : Ret P fn R .ret fr L := fun B w0 a w ha hw => by
  subst hk
  refine ⟨_, L', ?_, h, hwk.sl hw⟩
  have hl := run_loadAgg (P := P) (w := w) (p := ⟨g, 0, none⟩) hs (fun j u hj => by rw [Addr.add_lit, Nat.zero_add]; exact sl_cell hw hm hj)
  rw [results_cell_tmp hr]
  simp [ha.at_ _ _ hq, ha.at_ _ _ hu, asAddr, hl]
theorem ret_c {P : Program} {fn : Func} {R : Value → List Ch → Prop} {q kk : Nat} {ty : TypeId} (hr : fn.results = #[.cell q ty]) (hq : look q fr = some (.pointer (some ⟨g, 0, none⟩))) (hs : isAg P ty kk = true) (hm : Sel (.blk g bt cs) L f) (hk : cs.length = kk) (hwk : Wk L L')
    (h : R (.agg cs.toArray) L') : Ret P fn R .ret fr L := fun B w0 a w ha hw => by
  subst hk
  refine ⟨_, L', ?_, h, hwk.sl hw⟩
  have hl := run_loadAgg (P := P) (w := w) (p := ⟨g, 0, none⟩) hs (fun j u hj => by rw [Addr.add_lit, Nat.zero_add]; exact sl_cell hw hm hj)
  simp [results, hr, ha.at_ _ _ hq, asAddr, hl]
end
/-- the law's end -/
theorem Does.law {P : Program} {ff : FuncId} {args : List Value} {w : World} (h : Does P w.heap.size w ff args [] (fun r L => r = .bool true)) : Calls P ff args.toArray w fun e w' => e = .returned (.bool true) ∧ Below w.heap.size w w' :=
  (h w (SL.nil_ w)).mono fun e w' ⟨v, M, he, hR, hs⟩ => by subst hR; exact ⟨he, hs.below⟩
theorem det_not_t {x : Operand} {xt : TypeId} (h : ev fr x = some (.bool true)) : Det C fr L (.unOp .not xt x) ty (.bool false) := det_not h
theorem det_not_f {x : Operand} {xt : TypeId} (h : ev fr x = some (.bool false)) : Det C fr L (.unOp .not xt x) ty (.bool true) := det_not h
def bools (l : List Bool) : List Value := l.map .bool
end
/-- has a type's value cells at all -/
def hasSz (P : Program) (t : TypeId) : Bool := match P.info? t with | some i => Nat.blt 0 i.size | none => false
theorem det_fieldAddr_ {C : Cx} {fr : Fr} {L : List Ch} {x : Operand} {ty t : TypeId} {g o : Nat} {fs : Array Field} {i : Nat} {fd : Field} (ht : C.P.underlying t = some (.struct fs)) (hf : fs[i]? = some fd) (hz : hasSz C.P fd.type = true) (he : ev fr x = some (.pointer (some ⟨g, o, none⟩))) {q : Nat} (hq : o + fd.offset = q) :
    Det C fr L (.fieldAddr t x i) ty (.pointer (some ⟨g, q, none⟩)) := by
  unfold hasSz at hz
  cases hi : C.P.info? fd.type with
  | none => rw [hi] at hz; cases hz
  | some f =>
    rw [hi] at hz
    have : 0 < f.size := by simpa [Nat.blt_eq] using hz
    exact det_fieldAddr (sz := f.size - 1) ht hf (by rw [hi]; simp; omega) he hq
/-- a row that has elements has a place -/
theorem vc_own_some {C : Cx} {cd : Code} {Q : Exit → Fr → List Ch → Prop} {fr : Fr} {L : List Ch} {e : TypeId} {size n c : Nat} {A : Option Addr} {xs : List Value} (hm : Ch.own e size A n c xs ∈ L) (hn : 0 < n) (h : ∀ ad, A = some ad → VC C cd Q fr L) : VC C cd Q fr L := fun a w ha hw => by
  rcases (hw.all _ hm).2.2 with h0 | ⟨g, cur, rfl, _⟩
  · have : n ≤ c := (hw.all _ hm).2.1
    omega
  · exact h _ rfl a w ha hw
theorem det_indexAddr_some {C : Cx} {fr : Fr} {L : List Ch} {x y : Operand} {ty t e : TypeId} {k : IntKind} {m : Int} {size nn c i : Nat} {ad : Addr} (ht : C.P.underlying t = some (.slice e)) (hz : (C.P.info? e).map (·.size) = some size) (he : ev fr x = some (.slice (some ad) nn c)) (h2 : ev fr y = some (.int k m)) (hm : m = (i : Int)) (hi : i < nn) :
    Det C fr L (.indexAddr t x y) ty (.pointer ((some ad).map (·.add (i * size)))) := fun a w ha hw d pos af gg => by
  subst hm
  simp [execOp, Instr.indexAt, asIntOf, ha.tmp he, ha.tmp h2, run_underlying ht, hi, isSz hz]
/-- a struct by value of parts that cover it, in order -/
theorem det_buildx {C : Cx} {fr : Fr} {L : List Ch} {ty t : TypeId} {parts : List (Nat × Operand)} (us : List (Nat × Value)) (cs : List Value) (hp : parts.map (fun p => (p.1, ev fr p.2)) = us.map (fun p => (p.1, some p.2))) (hb : C.P.built t us = some cs.toArray) :
    Det C fr L (.build t parts.toArray) ty (.agg cs.toArray) := fun a w ha hw d pos af gg => by
  have hps : parts.map (fun p => (p.1, a.eval p.2)) = us := by
    clear hb
    induction parts generalizing us with
    | nil => cases us with | nil => rfl | cons _ _ => cases hp
    | cons p ps ih =>
      cases us with
      | nil => cases hp
      | cons u us =>
        simp only [List.map_cons, List.cons.injEq, Prod.mk.injEq] at hp
        obtain ⟨⟨h1, h2⟩, h3⟩ := hp
        simp only [List.map_cons, ha.tmp h2, h1, ih us h3]
  have := run_build (P := C.P) w t us.toArray cs.toArray (by simpa using hb)
  subst hps
  simp only [List.toArray] at this
  simp [execOp] at this ⊢
  rw [this]
  rfl
theorem det_build0 {C : Cx} {fr : Fr} {L : List Ch} {ty t : TypeId} (cs : List Value) (hb : C.P.built t [] = some cs.toArray) : Det C fr L (.build t #[]) ty (.agg cs.toArray) := fun a w ha hw d pos af gg => by
  have := run_build (P := C.P) w t #[] cs.toArray (by simpa using hb)
  simp [execOp, this]
theorem det_build {C : Cx} {fr : Fr} {L : List Ch} {ty t : TypeId} {parts : List (Nat × Operand)} (us : List (Nat × Value)) (cs : List Value) (hp : parts.map (fun p => (p.1, ev fr p.2)) = us.map (fun p => (p.1, some p.2))) (hcs : us.flatMap (fun p => p.2.cells.toList) = cs) (hb : C.P.built t us = some cs.toArray) :
    Det C fr L (.build t parts.toArray) ty (.agg cs.toArray) := det_buildx us cs hp hb
end Go.Proofs.YtpamjobiohbibaaGreat
namespace Go.Proofs.YtpamjobiohbibaaGreat
open Go.RowKit
set_option linter.unusedVariables false
section
variable {C : Cx} {Q : Exit → Fr → List Ch → Prop} {fr fr' : Fr} {L L' : List Ch} {cd : Code} {ops : Array Oper} {l : List Oper} {op : Op} {ty : TypeId} {pos : String} {af : Array Edge} {d : Nat} {v : Value}
variable {x y z : Operand} {k : IntKind} {m n : Int} {f : Ch → List Ch} {g o : Nat} {bt t e : TypeId} {cs : List Value}
/-- '[]T{}' -/
theorem eff_build_empty {size bytes : Nat} {zv : Value} (T : SlT C.P t e size bytes zv) : Eff C fr L (.buildSlice t 0 #[]) ty (fun p L' => ∃ A, p = .slice A 0 0 ∧ L' = .own e size A 0 0 [] :: L) := fun a w ha hw d pos af gg => by
  obtain ⟨i, hi, hz, hsz, hby⟩ := T.hi
  subst hsz
  refine ⟨.slice (some ⟨w.heap.size, 0, none⟩) 0 0, w.alloc (.cells #[] e), _, .inl ?_, ⟨some ⟨w.heap.size, 0, none⟩, rfl, rfl⟩, hw.cons_new (World.grownBy_alloc w _ none) ⟨by simp, Nat.le_refl _, .inl rfl⟩ (.inl rfl)⟩
  simp [execOp, Instr.buildSlice, run_underlying T.ht, sizeOf, typeInfo, hi, Instr.fill, newRow]
  rw [show Array.range 0 = #[] from by simp [Array.range], Array.map_empty]
/-- what a borrowed row tells of its numbers -/
theorem vc_bor {size nn c : Nat} {A : Option Addr} {xs : List Value} (hb : Bor C.B C.w0 L size (.slice A nn c) nn xs) (h : nn ≤ c → xs.length = nn * size → VC C cd Q fr L) : VC C cd Q fr L := fun a w ha hw => by
  obtain ⟨A', c', hv, hc, hl, _⟩ := hb w hw
  injection hv with _ _ h3
  subst h3
  exact h hc hl a w ha hw
theorem Does.bor {P : Program} {B : Nat} {w0 : World} {ff : FuncId} {args : List Value} {R : Value → List Ch → Prop} {size nn c : Nat} {A : Option Addr} {xs : List Value} (hb : Bor B w0 L size (.slice A nn c) nn xs) (h : nn ≤ c → xs.length = nn * size → Does P B w0 ff args L R) : Does P B w0 ff args L R := fun w hw => by
  obtain ⟨A', c', hv, hc, hl, _⟩ := hb w hw
  injection hv with _ _ h3
  subst h3
  exact h hc hl w hw
theorem det_sl_nil {A : Option Addr} {nn c : Nat} {xt yt : TypeId} (ht : C.P.underlying xt = some (.slice e)) (h1 : ev fr x = some (.slice A nn c)) (h2 : ev fr y = some (.slice none 0 0)) : Det C fr L (.binOp .eql xt x y yt) ty (.bool A.isNone) := fun a w ha hw d pos af g => by
  have he : (eqGuard .eql xt x y (.slice A nn c) (.slice none 0 0)).run C.P w = .ok () w := by simp [eqGuard]
  simp only [execOp, ha.tmp h1, ha.tmp h2, Sem.run_bind, he, Lib.run_eql_slice_nil w xt e A nn c 0 0 ht, Result.andThen_ok, Sem.run_pure]
end
def layz (zs : List Value) : List (Nat × Value) → List Value
  | [] => zs
  | (o, v) :: r => layz (zs.take o ++ (v.cells.toList ++ zs.drop (o + v.cells.size))) r
/-- a struct by value of parts that don't cover it -/
theorem det_buildp {C : Cx} {fr : Fr} {L : List Ch} {ty t : TypeId} {parts : List (Nat × Operand)} (us : List (Nat × Value)) (zs : List Value) (os : List Nat) (cs : List Value) (hp : parts.map (fun p => (p.1, ev fr p.2)) = us.map (fun p => (p.1, some p.2))) (hcs : layz zs (os.zip (us.map (·.2))) = cs) (hb : C.P.built t us = some cs.toArray) :
    Det C fr L (.build t parts.toArray) ty (.agg cs.toArray) := det_buildx us cs hp hb
theorem ret_nil_row {P : Program} {fn : Func} {R : Value → List Ch → Prop} {ee : Exit} {fr : Fr} {L : List Ch} (e : TypeId) (size : Nat) (A : Option Addr) (h : Ret P fn R ee fr (.own e size A 0 0 [] :: L)) : Ret P fn R ee fr L := by
  cases ee <;> first
    | exact h
    | (intro B w0 a w ha hw; exact h B w0 a w ha (hw.nil_row e size A))
theorem sl_to {A : Option Addr} {n m c : Nat} (h : n = m) : some (Value.slice A n c) = some (.slice A m c) := by rw [h]
/-- a contract whose first two pieces change places -/
theorem swp {a b : Ch} {L : List Ch} : (a :: b :: L).Perm (b :: a :: L) := .swap b a L
/-- a contract that leaves all pieces, from one over the world -/
theorem Does.of_same {P : Program} {B : Nat} {w0 : World} {ff : FuncId} {args : List Value} {L : List Ch} {v : Value} (h : ∀ w, SL B w0 L w → Calls P ff args.toArray w fun e w' => e = .returned v ∧ w = w') : Does P B w0 ff args L (fun r L' => r = v ∧ L' = L) := fun w hw =>
  (h w hw).mono fun e w' ⟨he, hw'⟩ => by subst hw'; exact ⟨v, L, he, ⟨rfl, rfl⟩, hw⟩
theorem st_callv {C : Cx} {ops : Array Oper} {S : List Ch} {Q : Exit → Fr → List Ch → Prop} {fuel : Nat} {li : Array Bool} {fr : Fr} {L : List Ch} {d : Nat} {ty : TypeId} {pos : String} {af : Array Edge} {i : Nat} {ff : FuncId} {gg : Operand} {as_ : List Operand} {ats : Array TypeId} {vs fst cap : List Value} {R : Value → List Ch → Prop} {g : Option (Nat × Bool)} (ho : ops[i]? = some ⟨some d, .call { callee := .value gg, args := as_.toArray, argTypes := ats }, ty, pos, af, g⟩) (hg : Gd ops fr g) (hc : Callable C.P ff) (hgg : ev fr gg = some (.func (.func ff) fst.toArray cap.toArray)) (he : evs fr as_ = some vs) (h : Does C.P C.B C.w0 ff (fst ++ vs ++ cap) L R) (hd : Nat.blt d C.N = true) (hS : ∀ v L', R v L' → S.Sublist L')
    (k : ∀ v L', R v L' → VH C ops S Q fuel (li.setIfInBounds i true) ((d, v) :: fr) L') : Step C ops S Q fuel li fr L i := fun a w ha hw _ => by
  unfold wpOp
  simp only [ho]
  rw [if_pos (hg.wanted ha)]
  refine .inl ?_
  unfold Oper.wp
  rw [execOp_callv hc (ha.tmp hgg), ha.evs he]
  simp only [List.append_toArray]
  refine Calls.mono (h w hw) fun e w' ⟨v, L', he, hR, hs⟩ => ?_
  subst he
  have hs2 := hs.sub (hS v L' hR)
  exact ⟨hs2, k _ _ hR _ _ (ha.put hd _) hs hs2⟩
end Go.Proofs.YtpamjobiohbibaaGreat
namespace Go.Proofs.YtpamjobiohbibaaGreat
open Go.RowKit
set_option linter.unusedVariables false
section
variable {C : Cx} {fr : Fr} {L : List Ch} {x y : Operand} {f : Ch → List Ch} {t t2 e ty : TypeId}
end
end Go.Proofs.YtpamjobiohbibaaGreat
namespace Go.Proofs.YtpamjobiohbibaaGreat
open Go.RowKit
set_option linter.unusedVariables false
theorem pu0 {a : Ch} {L L' : List Ch} (h : L.Perm L') : (a :: L).Perm (a :: L') := h.cons a
theorem wu0 {a : Ch} {L L' : List Ch} (h : Wk L L') : Wk (a :: L) (a :: L') := h.cons
theorem pu1 {a0 x : Ch} {L L' : List Ch} (h : (a0 :: L).Perm L') : (a0 :: x :: L).Perm (x :: L') := ((pu0 (.refl _)).cons a0).trans ((List.Perm.swap x a0 _).trans (h.cons x))
theorem wu1 {a0 x : Ch} {L L' : List Ch} (h : Wk (a0 :: L) L') : Wk (a0 :: x :: L) (x :: L') := (Wk.of_perm (pu1 (.refl _))).trans h.cons
theorem pu2 {a0 a1 x : Ch} {L L' : List Ch} (h : (a0 :: a1 :: L).Perm L') : (a0 :: a1 :: x :: L).Perm (x :: L') := ((pu1 (.refl _)).cons a0).trans ((List.Perm.swap x a0 _).trans (h.cons x))
theorem wu2 {a0 a1 x : Ch} {L L' : List Ch} (h : Wk (a0 :: a1 :: L) L') : Wk (a0 :: a1 :: x :: L) (x :: L') := (Wk.of_perm (pu2 (.refl _))).trans h.cons
theorem pu3 {a0 a1 a2 x : Ch} {L L' : List Ch} (h : (a0 :: a1 :: a2 :: L).Perm L') : (a0 :: a1 :: a2 :: x :: L).Perm (x :: L') := ((pu2 (.refl _)).cons a0).trans ((List.Perm.swap x a0 _).trans (h.cons x))
theorem wu3 {a0 a1 a2 x : Ch} {L L' : List Ch} (h : Wk (a0 :: a1 :: a2 :: L) L') : Wk (a0 :: a1 :: a2 :: x :: L) (x :: L') := (Wk.of_perm (pu3 (.refl _))).trans h.cons
theorem pu4 {a0 a1 a2 a3 x : Ch} {L L' : List Ch} (h : (a0 :: a1 :: a2 :: a3 :: L).Perm L') : (a0 :: a1 :: a2 :: a3 :: x :: L).Perm (x :: L') := ((pu3 (.refl _)).cons a0).trans ((List.Perm.swap x a0 _).trans (h.cons x))
theorem wu4 {a0 a1 a2 a3 x : Ch} {L L' : List Ch} (h : Wk (a0 :: a1 :: a2 :: a3 :: L) L') : Wk (a0 :: a1 :: a2 :: a3 :: x :: L) (x :: L') := (Wk.of_perm (pu4 (.refl _))).trans h.cons
end Go.Proofs.YtpamjobiohbibaaGreat
namespace Go.Proofs.YtpamjobiohbibaaGreat
open Go.RowKit
set_option linter.unusedVariables false
theorem slT22 : SlT Tryz.prog 22 9 1 16 (.string ⟨#[]⟩) := slT_of Tryz.underlying22 (by kernel_rfl) rfl (by omega)
theorem slT23 : SlT Tryz.prog 23 42 1 24 (.slice none 0 0) := slT_of Tryz.underlying23 (by kernel_rfl) rfl (by omega)
theorem slT26 : SlT Tryz.prog 26 5 1 1 (.int .u8 0) := slT_of Tryz.underlying26 (by kernel_rfl) rfl (by omega)
theorem slT42 : SlT Tryz.prog 42 3 1 8 (.int .i64 0) := slT_of Tryz.underlying42 (by kernel_rfl) rfl (by omega)
theorem slT44 : SlT Tryz.prog 44 26 1 24 (.slice none 0 0) := slT_of Tryz.underlying44 (by kernel_rfl) rfl (by omega)
theorem slT71 : SlT Tryz.prog 71 79 1 2 (.int .u16 0) := slT_of Tryz.underlying71 (by kernel_rfl) rfl (by omega)
theorem co4 : Callable Tryz.prog 4 := callable Tryz.func4 (by decide) rfl
theorem co5 : Callable Tryz.prog 5 := callable Tryz.func5 (by decide) rfl
theorem co6 : Callable Tryz.prog 6 := callable Tryz.func6 (by decide) rfl
theorem co7 : Callable Tryz.prog 7 := callable Tryz.func7 (by decide) rfl
theorem co8 : Callable Tryz.prog 8 := callable Tryz.func8 (by decide) rfl
theorem co9 : Callable Tryz.prog 9 := callable Tryz.func9 (by decide) rfl
theorem co10 : Callable Tryz.prog 10 := callable Tryz.func10 (by decide) rfl
theorem co11 : Callable Tryz.prog 11 := callable Tryz.func11 (by decide) rfl
theorem co12 : Callable Tryz.prog 12 := callable Tryz.func12 (by decide) rfl
theorem co13 : Callable Tryz.prog 13 := callable Tryz.func13 (by decide) rfl
theorem co14 : Callable Tryz.prog 14 := callable Tryz.func14 (by decide) rfl
theorem co15 : Callable Tryz.prog 15 := callable Tryz.func15 (by decide) rfl
theorem co16 : Callable Tryz.prog 16 := callable Tryz.func16 (by decide) rfl
theorem co17 : Callable Tryz.prog 17 := callable Tryz.func17 (by decide) rfl
theorem co18 : Callable Tryz.prog 18 := callable Tryz.func18 (by decide) rfl
theorem co19 : Callable Tryz.prog 19 := callable Tryz.func19 (by decide) rfl
theorem co20 : Callable Tryz.prog 20 := callable Tryz.func20 (by decide) rfl
theorem co21 : Callable Tryz.prog 21 := callable Tryz.func21 (by decide) rfl
theorem co22 : Callable Tryz.prog 22 := callable Tryz.func22 (by decide) rfl
theorem co23 : Callable Tryz.prog 23 := callable Tryz.func23 (by decide) rfl
theorem co24 : Callable Tryz.prog 24 := callable Tryz.func24 (by decide) rfl
theorem co25 : Callable Tryz.prog 25 := callable Tryz.func25 (by decide) rfl
theorem co26 : Callable Tryz.prog 26 := callable Tryz.func26 (by decide) rfl
theorem co27 : Callable Tryz.prog 27 := callable Tryz.func27 (by decide) rfl
theorem co28 : Callable Tryz.prog 28 := callable Tryz.func28 (by decide) rfl
theorem co29 : Callable Tryz.prog 29 := callable Tryz.func29 (by decide) rfl
theorem co30 : Callable Tryz.prog 30 := callable Tryz.func30 (by decide) rfl
theorem co31 : Callable Tryz.prog 31 := callable Tryz.func31 (by decide) rfl
theorem co32 : Callable Tryz.prog 32 := callable Tryz.func32 (by decide) rfl
theorem co33 : Callable Tryz.prog 33 := callable Tryz.func33 (by decide) rfl
theorem co34 : Callable Tryz.prog 34 := callable Tryz.func34 (by decide) rfl
theorem co35 : Callable Tryz.prog 35 := callable Tryz.func35 (by decide) rfl
theorem co37 : Callable Tryz.prog 37 := callable Tryz.func37 (by decide) rfl
theorem co38 : Callable Tryz.prog 38 := callable Tryz.func38 (by decide) rfl
theorem co39 : Callable Tryz.prog 39 := callable Tryz.func39 (by decide) rfl
theorem co40 : Callable Tryz.prog 40 := callable Tryz.func40 (by decide) rfl
theorem co41 : Callable Tryz.prog 41 := callable Tryz.func41 (by decide) rfl
theorem co42 : Callable Tryz.prog 42 := callable Tryz.func42 (by decide) rfl
theorem co43 : Callable Tryz.prog 43 := callable Tryz.func43 (by decide) rfl
theorem co44 : Callable Tryz.prog 44 := callable Tryz.func44 (by decide) rfl
theorem co45 : Callable Tryz.prog 45 := callable Tryz.func45 (by decide) rfl
theorem co46 : Callable Tryz.prog 46 := callable Tryz.func46 (by decide) rfl
theorem co47 : Callable Tryz.prog 47 := callable Tryz.func47 (by decide) rfl
theorem co48 : Callable Tryz.prog 48 := callable Tryz.func48 (by decide) rfl
theorem co49 : Callable Tryz.prog 49 := callable Tryz.func49 (by decide) rfl
theorem co50 : Callable Tryz.prog 50 := callable Tryz.func50 (by decide) rfl
theorem co51 : Callable Tryz.prog 51 := callable Tryz.func51 (by decide) rfl
theorem co54 : Callable Tryz.prog 54 := callable Tryz.func54 (by decide) rfl
theorem co55 : Callable Tryz.prog 55 := callable Tryz.func55 (by decide) rfl
theorem co56 : Callable Tryz.prog 56 := callable Tryz.func56 (by decide) rfl
theorem co57 : Callable Tryz.prog 57 := callable Tryz.func57 (by decide) rfl
theorem co58 : Callable Tryz.prog 58 := callable Tryz.func58 (by decide) rfl
theorem co59 : Callable Tryz.prog 59 := callable Tryz.func59 (by decide) rfl
theorem co60 : Callable Tryz.prog 60 := callable Tryz.func60 (by decide) rfl
theorem co62 : Callable Tryz.prog 62 := callable Tryz.func62 (by decide) rfl
theorem co63 : Callable Tryz.prog 63 := callable Tryz.func63 (by decide) rfl
theorem co64 : Callable Tryz.prog 64 := callable Tryz.func64 (by decide) rfl
theorem co65 : Callable Tryz.prog 65 := callable Tryz.func65 (by decide) rfl
theorem co66 : Callable Tryz.prog 66 := callable Tryz.func66 (by decide) rfl
theorem co67 : Callable Tryz.prog 67 := callable Tryz.func67 (by decide) rfl
theorem co68 : Callable Tryz.prog 68 := callable Tryz.func68 (by decide) rfl
theorem co69 : Callable Tryz.prog 69 := callable Tryz.func69 (by decide) rfl
theorem co70 : Callable Tryz.prog 70 := callable Tryz.func70 (by decide) rfl
theorem co71 : Callable Tryz.prog 71 := callable Tryz.func71 (by decide) rfl
theorem co75 : Callable Tryz.prog 75 := callable Tryz.func75 (by decide) rfl
theorem co76 : Callable Tryz.prog 76 := callable Tryz.func76 (by decide) rfl
theorem co77 : Callable Tryz.prog 77 := callable Tryz.func77 (by decide) rfl
theorem co78 : Callable Tryz.prog 78 := callable Tryz.func78 (by decide) rfl
theorem co79 : Callable Tryz.prog 79 := callable Tryz.func79 (by decide) rfl
theorem co80 : Callable Tryz.prog 80 := callable Tryz.func80 (by decide) rfl
theorem co81 : Callable Tryz.prog 81 := callable Tryz.func81 (by decide) rfl
theorem co82 : Callable Tryz.prog 82 := callable Tryz.func82 (by decide) rfl
theorem co83 : Callable Tryz.prog 83 := callable Tryz.func83 (by decide) rfl
theorem co84 : Callable Tryz.prog 84 := callable Tryz.func84 (by decide) rfl
theorem co85 : Callable Tryz.prog 85 := callable Tryz.func85 (by decide) rfl
theorem co95 : Callable Tryz.prog 95 := callable Tryz.func95 (by decide) rfl
theorem co96 : Callable Tryz.prog 96 := callable Tryz.func96 (by decide) rfl
theorem co97 : Callable Tryz.prog 97 := callable Tryz.func97 (by decide) rfl
end Go.Proofs.YtpamjobiohbibaaGreat
namespace Go.Proofs.YtpamjobiohbibaaGreat
open Go.RowKit
set_option linter.unusedVariables false
/-- a map's entries, in the order in which they came -/
def entsF : Nat → List (List UInt8 × Value) → List MapEntry
  | _, [] => []
  | i, p :: r => ⟨.string ⟨p.1.toArray⟩, p.2, i⟩ :: entsF (i + 1) r
def mpO (D : List (List UInt8 × Value)) : Obj := .map (entsF 0 D).toArray D.length
def fndM (t : List UInt8) : List (List UInt8 × Value) → Nat → Option (Nat × Value)
  | [], _ => none
  | p :: r, i => if t = p.1 then some (i, p.2) else fndM t r (i + 1)
/-- the map with one more entry, or another element -/
def putM (D : List (List UInt8 × Value)) (t : List UInt8) (v : Value) : List (List UInt8 × Value) :=
  match fndM t D 0 with
  | some (i, _) => D.set i (t, v)
  | none => D ++ [(t, v)]
theorem entsF_length : ∀ (D : List (List UInt8 × Value)) (i : Nat), (entsF i D).length = D.length
  | [], _ => rfl
  | _ :: r, i => by simp [entsF, entsF_length r]
theorem entsF_get : ∀ (D : List (List UInt8 × Value)) (i k : Nat) (h : k < D.length), (entsF i D)[k]? = some ⟨.string ⟨(D[k]'h).1.toArray⟩, (D[k]'h).2, i + k⟩
  | _ :: r, i, 0, h => rfl
  | _ :: r, i, k + 1, h => by
    have := entsF_get r (i + 1) k (by simpa using h)
    simp only [entsF, List.getElem?_cons_succ, List.getElem_cons_succ]
    rw [this]
    congr 2
    omega
theorem entsF_snoc : ∀ (D : List (List UInt8 × Value)) (i : Nat) (p : List UInt8 × Value), entsF i (D ++ [p]) = entsF i D ++ [⟨.string ⟨p.1.toArray⟩, p.2, i + D.length⟩]
  | [], i, p => rfl
  | q :: r, i, p => by
    simp only [List.cons_append, entsF, entsF_snoc r (i + 1) p, List.length_cons]
    rw [show i + 1 + r.length = i + (r.length + 1) by omega]
theorem str_beq (t k : List UInt8) : ((⟨t.toArray⟩ : ByteArray) == (⟨k.toArray⟩ : ByteArray)) = decide (t = k) := by
  rw [Bool.eq_iff_iff, MapKept.bytes_beq, decide_eq_true_iff]
  exact ⟨fun e => by simpa using congrArg (fun b : ByteArray => b.data.toList) e, fun e => by rw [e]⟩
theorem findNow_ents (t : List UInt8) : ∀ (D : List (List UInt8 × Value)) (j i : Nat), Instr.findNow .string (.string ⟨t.toArray⟩) (entsF j D) i = some (fndM t D i)
  | [], _, _ => rfl
  | p :: r, j, i => by
    simp only [entsF, Instr.findNow, Instr.sameNow, str_beq, fndM]
    by_cases h : t = p.1
    · rw [decide_eq_true h, if_pos h]
    · rw [decide_eq_false h, if_neg h]
      exact findNow_ents t r (j + 1) (i + 1)
theorem fndM_some {t : List UInt8} : ∀ {D : List (List UInt8 × Value)} {i j : Nat} {v : Value}, fndM t D i = some (j, v) → ∃ k, j = i + k ∧ ∃ h : k < D.length, D[k] = (t, v)
  | p :: r, i, j, v, h => by
    unfold fndM at h
    split at h
    · rename_i e
      simp only [Option.some.injEq, Prod.mk.injEq] at h
      exact ⟨0, by omega, by simp, by simp [← h.2, e]⟩
    · obtain ⟨k, h1, h2, h3⟩ := fndM_some h
      exact ⟨k + 1, by omega, by simpa using h2, by simpa using h3⟩
section
variable {C : Cx} {fr : Fr} {L : List Ch} {x y z : Operand} {f : Ch → List Ch} {t k e ty : TypeId} {g : Nat} {D : List (List UInt8 × Value)} {s : List UInt8} {v zv : Value}
theorem eff_makeMap : Eff C fr L (.makeMap t none) ty (fun p L' => ∃ g, p = .map (some g) ∧ L' = .obj g (mpO []) :: L) := fun a w ha hw d pos af gg =>
  ⟨.map (some w.heap.size), w.alloc (.map #[] 0), .obj w.heap.size (mpO []) :: L, .inl (by simp [execOp, run_makeMap_plain]), ⟨w.heap.size, rfl, rfl⟩,
    hw.cons_new (World.grownBy_alloc w _ none) ⟨hw.base, (MapKept.heap_alloc w (.map #[] 0)).1⟩ (.inr ⟨_, rfl, Nat.le_refl _⟩)⟩
theorem det_lookup (ht : C.P.underlying t = some (.map k e)) (hk : C.P.underlying k = some .string) (hz : ∀ w, (zeroValue e).run C.P w = .ok zv w) (hm : ev fr x = some (.map (some g))) (hx : ev fr y = some (.string ⟨s.toArray⟩)) (hs : Sel (.obj g (mpO D)) L f) :
    Det C fr L (.lookup t x y false) ty (((fndM s D 0).map (·.2)).getD zv) := fun a w ha hw d pos af gg => by
  have hb : w.heap[g]? = some (.map (entsF 0 D).toArray D.length) := (hw.all _ hs.mem).2
  have hc : ∀ em, (Instr.checkKey em 10000 k (.string ⟨s.toArray⟩)).run C.P w = .ok () w := fun em => MapKept.run_checkKey (k := .string ⟨s.toArray⟩) hk (by simp [MapKept.IsKey]) em 9999
  have hf := MapKept.run_findKey (P := C.P) (w := w) hk (findNow_ents s D 0 0)
  cases hfd : fndM s D 0 with
  | none =>
    rw [hfd] at hf
    simp [execOp, ha.tmp hm, ha.tmp hx, Instr.lookup, run_underlying ht, MapKept.run_getObj_map hb, hc, hf, hz, Result.andThen]
  | some q =>
    rw [hfd] at hf
    obtain ⟨j, u⟩ := q
    simp [execOp, ha.tmp hm, ha.tmp hx, Instr.lookup, run_underlying ht, MapKept.run_getObj_map hb, hc, hf, Result.andThen]
theorem entsF_set : ∀ (D : List (List UInt8 × Value)) (i j : Nat) (p : List UInt8 × Value), j < D.length → entsF i (D.set j p) = (entsF i D).modify j fun e => { e with key := .string ⟨p.1.toArray⟩, val := p.2 }
  | q :: r, i, 0, p, _ => by simp [entsF]
  | q :: r, i, j + 1, p, h => by
    simp only [List.set_cons_succ, entsF, List.modify_succ_cons]
    rw [entsF_set r (i + 1) j p (by simpa using h)]
theorem eff_mapUpdate (ht : C.P.underlying t = some (.map k e)) (hk : C.P.underlying k = some .string) (hm : ev fr x = some (.map (some g))) (hx : ev fr y = some (.string ⟨s.toArray⟩)) (hv : ev fr z = some v) (hs : Sel (.obj g (mpO D)) L f) :
    Eff C fr L (.mapUpdate t x y z) ty (fun p L' => L' = f (.obj g (mpO (putM D s v)))) := fun a w ha hw d pos af gg => by
  have hb : w.heap[g]? = some (.map (entsF 0 D).toArray D.length) := (hw.all _ hs.mem).2
  have hc : ∀ em, (Instr.checkKey em 10000 k (.string ⟨s.toArray⟩)).run C.P w = .ok () w := fun em => MapKept.run_checkKey (k := .string ⟨s.toArray⟩) hk (by simp [MapKept.IsKey]) em 9999
  have hf := MapKept.run_findKey (P := C.P) (w := w) hk (findNow_ents s D 0 0)
  have hlt := (Array.getElem?_eq_some_iff.1 hb).1
  have hsl : ∀ o, SL C.B C.w0 (f (.obj g o)) { w with heap := w.heap.setIfInBounds g o } := fun o =>
    hw.sel hs ⟨rfl, rfl, rfl, by simp, fun j _ hj => by
      have : g ≠ j := fun e => hj (by rw [e]; rfl)
      simp [this]⟩ (fun h => ⟨h.1, by simp [hlt]⟩) (.inr (.inl rfl))
  cases hfd : fndM s D 0 with
  | none =>
    rw [hfd] at hf
    have e1 : mpO (putM D s v) = .map ((entsF 0 D).toArray.push ⟨.string ⟨s.toArray⟩, v, D.length⟩) (D.length + 1) := by
      unfold putM mpO; rw [hfd]; simp [entsF_snoc]
    refine ⟨undef, _, _, .inr ⟨?_, rfl⟩, rfl, by rw [e1]; exact hsl _⟩
    simp [execOp, ha.tmp hm, ha.tmp hx, ha.tmp hv, Instr.mapUpdate, run_underlying ht, MapKept.run_getObj_map hb, hc, hf, MapKept.run_setObj_map _ hb, Result.andThen]
  | some q =>
    rw [hfd] at hf
    obtain ⟨j, u⟩ := q
    obtain ⟨j', hj, hjl, hje⟩ := fndM_some hfd
    obtain rfl : j = j' := by omega
    have hg := entsF_get D 0 j hjl
    have e1 : mpO (putM D s v) = .map ((entsF 0 D).toArray.modify j fun e => { e with key := .string ⟨s.toArray⟩, val := v }) D.length := by
      unfold putM mpO; rw [hfd]; simp [entsF_set D 0 j (s, v) hjl]
    have hky : (Instr.keyThatStays (.string ⟨s.toArray⟩) (.string ⟨s.toArray⟩)).run C.P w = .ok (.string ⟨s.toArray⟩) w := MapKept.run_keyThatStays (d := .string) (by simp [MapKept.IsKey])
    have hkk : (((entsF 0 D).toArray[j]?).map (·.key)).getD (.string ⟨s.toArray⟩) = .string ⟨s.toArray⟩ := by
      rw [List.getElem?_toArray, hg, hje]; rfl
    refine ⟨undef, _, _, .inr ⟨?_, rfl⟩, rfl, by rw [e1]; exact hsl _⟩
    simp only [execOp, ha.tmp hm, ha.tmp hx, ha.tmp hv, Instr.mapUpdate]
    simp [run_underlying ht, MapKept.run_getObj_map hb, hc, hf, Result.andThen]
    simp at hkk
    simp [hkk, hky, MapKept.run_setObj_map _ hb]
end
end Go.Proofs.YtpamjobiohbibaaGreat
namespace Go.Proofs.YtpamjobiohbibaaGreat
open Go.RowKit
set_option linter.unusedVariables false
def natv (l : List Nat) : List Value := l.map fun (n : Nat) => Value.int .i64 (n : Int)
@[simp] theorem natv_append (l k : List Nat) : natv (l ++ k) = natv l ++ natv k := by simp [natv]
@[simp] theorem natv_length (l : List Nat) : (natv l).length = l.length := by simp [natv]
theorem natv_get {l : List Nat} {k : Nat} (h : k < l.length) : (natv l)[k * 1]? = some (.int .i64 (l.getD k 0 : Nat)) := by
  simp [natv, List.getD, List.getElem?_eq_getElem h]
end Go.Proofs.YtpamjobiohbibaaGreat
namespace Go.Proofs.YtpamjobiohbibaaGreat
open Go.RowKit
set_option linter.unusedVariables false
set_option maxRecDepth 20000
/-- an entry: its key, where its row lies, the row's room, the numbers -/
abbrev Grp := List UInt8 × Option Addr × Nat × List Nat
def gVal (e : Grp) : Value := .slice e.2.1 e.2.2.2.length e.2.2.1
def gVals (D : List Grp) : List (List UInt8 × Value) := D.map fun e => (e.1, gVal e)
def gRow (e : Grp) : Ch := .own 3 1 e.2.1 e.2.2.2.length e.2.2.1 (natv e.2.2.2)
/-- a key's numbers -/
def gsT (t : List UInt8) : List Grp → List Nat
  | [] => []
  | e :: r => if t = e.1 then e.2.2.2 else gsT t r
/-- one more number at a key -/
def upG (t : List UInt8) (A : Option Addr) (c i : Nat) : List Grp → List Grp
  | [] => [(t, A, c, [i])]
  | e :: r => if t = e.1 then (t, A, c, e.2.2.2 ++ [i]) :: r else e :: upG t A c i r
theorem fndM_succ (t : List UInt8) : ∀ (D : List (List UInt8 × Value)) (i : Nat), fndM t D (i + 1) = (fndM t D i).map fun q => (q.1 + 1, q.2)
  | [], _ => rfl
  | p :: r, i => by
    unfold fndM
    split
    · rfl
    · exact fndM_succ t r (i + 1)
theorem putM_cons (t : List UInt8) (v : Value) (p : List UInt8 × Value) (r : List (List UInt8 × Value)) : putM (p :: r) t v = if t = p.1 then (t, v) :: r else p :: putM r t v := by
  unfold putM
  have e : fndM t (p :: r) 0 = if t = p.1 then some (0, p.2) else fndM t r (0 + 1) := rfl
  by_cases h : t = p.1
  · rw [e, if_pos h, if_pos h]; rfl
  · rw [e, if_neg h, if_neg h, fndM_succ]
    cases fndM t r 0 with
    | none => rfl
    | some q => rfl
theorem putM_up (t : List UInt8) (A : Option Addr) (c i : Nat) : ∀ (D : List Grp), putM (gVals D) t (.slice A ((gsT t D).length + 1) c) = gVals (upG t A c i D)
  | [] => by simp [putM, gVals, fndM, gsT, upG, gVal]
  | e :: r => by
    have ih := putM_up t A c i r
    show putM ((e.1, gVal e) :: gVals r) t _ = _
    rw [putM_cons]
    unfold gsT upG
    by_cases h : t = e.1
    · rw [if_pos h, if_pos h, if_pos h]
      simp [gVals, gVal]
    · rw [if_neg h, if_neg h, if_neg h, ih]
      rfl
/-- the entry at a key, or a nil row; and the entries behind one more number -/
theorem grp_get (t : List UInt8) : ∀ (D : List Grp), ∃ (A : Option Addr) (c : Nat) (R : List Ch),
    (((fndM t (gVals D) 0).map (·.2)).getD (.slice none 0 0) = .slice A (gsT t D).length c) ∧
    ((D.map gRow).Perm (.own 3 1 A (gsT t D).length c (natv (gsT t D)) :: R) ∨ (A = none ∧ c = 0 ∧ gsT t D = [] ∧ R = D.map gRow)) ∧
    (∀ A' c' i, ((upG t A' c' i D).map gRow).Perm (.own 3 1 A' ((gsT t D).length + 1) c' (natv (gsT t D ++ [i])) :: R))
  | [] => ⟨none, 0, [], rfl, .inr ⟨rfl, rfl, rfl, rfl⟩, fun A' c' i => .refl _⟩
  | e :: r => by
    by_cases h : t = e.1
    · refine ⟨e.2.1, e.2.2.1, r.map gRow, ?_, .inl ?_, fun A' c' i => ?_⟩
      · show ((fndM t ((e.1, gVal e) :: gVals r) 0).map (·.2)).getD _ = _
        unfold fndM gsT
        rw [if_pos h, if_pos h]
        rfl
      · unfold gsT
        rw [if_pos h]
        exact .refl _
      · unfold gsT upG
        rw [if_pos h, if_pos h]
        simp only [List.map_cons, gRow, List.length_append, List.length_singleton]
        exact .refl _
    · obtain ⟨A, c, R, h1, h2, h3⟩ := grp_get t r
      refine ⟨A, c, gRow e :: R, ?_, ?_, fun A' c' i => ?_⟩
      · show ((fndM t ((e.1, gVal e) :: gVals r) 0).map (·.2)).getD _ = _
        unfold fndM gsT
        rw [if_neg h, if_neg h, fndM_succ, ← h1]
        cases fndM t (gVals r) 0 <;> rfl
      · unfold gsT
        rw [if_neg h]
        rcases h2 with h2 | ⟨h2, h4, h5, h6⟩
        · exact .inl ((h2.cons _).trans (.swap _ _ _))
        · exact .inr ⟨h2, h4, h5, by rw [h6]; rfl⟩
      · unfold gsT upG
        rw [if_neg h, if_neg h]
        exact ((h3 A' c' i).cons _).trans (.swap _ _ _)
theorem gsT_up (t s : List UInt8) (A : Option Addr) (c i : Nat) : ∀ (D : List Grp), gsT s (upG t A c i D) = if s = t then gsT s D ++ [i] else gsT s D
  | [] => by
    unfold upG gsT
    split <;> simp [gsT]
  | e :: r => by
    unfold upG
    by_cases h : t = e.1
    · rw [if_pos h]
      unfold gsT
      by_cases h2 : s = t
      · subst h2; simp [h]
      · rw [if_neg h2, if_neg h2, if_neg (fun q => h2 (q.trans h.symm))]
    · rw [if_neg h]
      unfold gsT
      by_cases h2 : s = e.1
      · rw [if_pos h2, if_pos h2, if_neg (fun q => h (q.symm.trans h2))]
      · rw [if_neg h2, if_neg h2]
        exact gsT_up t s A c i r
theorem keys_up (t s : List UInt8) (A : Option Addr) (c i : Nat) : ∀ (D : List Grp), s ∈ (upG t A c i D).map (·.1) ↔ s = t ∨ s ∈ D.map (·.1)
  | [] => by simp [upG]
  | e :: r => by
    unfold upG
    by_cases h : t = e.1
    · rw [if_pos h]; simp [h]
    · rw [if_neg h, List.map_cons, List.mem_cons, keys_up t s A c i r, List.map_cons, List.mem_cons]
      exact ⟨fun h => h.elim (fun h => .inr (.inl h)) (fun h => h.elim .inl fun h => .inr (.inr h)), fun h => h.elim (fun h => .inr (.inl h)) (fun h => h.elim .inl fun h => .inr (.inr h))⟩
theorem nodup_up (t : List UInt8) (A : Option Addr) (c i : Nat) : ∀ (D : List Grp), (D.map (·.1)).Nodup → ((upG t A c i D).map (·.1)).Nodup
  | [], _ => by simp [upG]
  | e :: r, h => by
    rw [List.map_cons, List.nodup_cons] at h
    unfold upG
    by_cases ht : t = e.1
    · rw [if_pos ht, List.map_cons, List.nodup_cons]
      exact ⟨by rw [ht]; exact h.1, h.2⟩
    · rw [if_neg ht, List.map_cons, List.nodup_cons, keys_up]
      exact ⟨fun q => q.elim (fun q => ht q.symm) h.1, nodup_up t A c i r h.2⟩
theorem up_len (t : List UInt8) (A : Option Addr) (c i : Nat) : ∀ (D : List Grp), (upG t A c i D).length ≤ D.length + 1
  | [] => by simp [upG]
  | e :: r => by
    unfold upG
    split
    · simp
    · have := up_len t A c i r; simp; omega
theorem zero_of {P : Program} {e : TypeId} {zv : Value} (h : (P.info? e).bind (·.zero) = some zv) (w : World) : (zeroValue e).run P w = .ok zv w := by
  cases hi : P.info? e with
  | none => rw [hi] at h; simp at h
  | some i => rw [hi] at h; simp at h; simp [zeroValue, typeInfo, hi, h]
/-- memory seen another way -/
theorem vc_sl {C : Cx} {c : Code} {Q : Exit → Fr → List Ch → Prop} {fr : Fr} {L M : List Ch} (h : ∀ w, SL C.B C.w0 L w → SL C.B C.w0 M w) (k : VC C c Q fr M) : VC C c Q fr L := fun a w ha hw => k a w ha (h w hw)
end Go.Proofs.YtpamjobiohbibaaGreat
namespace Go.Proofs.YtpamjobiohbibaaGreat

theorem ofInt_nat (n a : Nat) (ha : a < 2 ^ n) : (BitVec.ofInt n (a : Int)).toNat = a := by
  rw [BitVec.ofInt_natCast, BitVec.toNat_ofNat]; exact Nat.mod_eq_of_lt ha
theorem wrap_u8 (a : Nat) (h : a < 256) : IntKind.u8.wrap (a : Int) = (a : Int) := by
  show (a : Int) % 256 = a; omega
theorem wrap_u64 (a : Nat) (h : a < 18446744073709551616) : IntKind.u64.wrap (a : Int) = (a : Int) := by
  show (a : Int) % 18446744073709551616 = a; omega
theorem wrap_i64 (a : Int) (h1 : -9223372036854775808 ≤ a) (h2 : a < 9223372036854775808) : IntKind.i64.wrap a = a := by
  rw [IntKind.wrap_i64]; omega
section
variable (a b : Nat)
theorem u8_or (ha : a < 256) (hb : b < 256) : bits .or .u8 (a : Int) (b : Int) = ((a ||| b : Nat) : Int) := by
  have hx : a ||| b < 2 ^ 8 := Nat.or_lt_two_pow ha hb
  show IntKind.u8.wrap ((BitVec.ofInt 8 (a : Int) ||| BitVec.ofInt 8 (b : Int)).toNat : Int) = _
  rw [BitVec.toNat_or, ofInt_nat 8 a ha, ofInt_nat 8 b hb, wrap_u8 _ hx]
theorem u64_and (ha : a < 18446744073709551616) (hb : b < 18446744073709551616) : bits .and .u64 (a : Int) (b : Int) = ((a &&& b : Nat) : Int) := by
  have hx : a &&& b < 18446744073709551616 := Nat.lt_of_le_of_lt Nat.and_le_left ha
  show IntKind.u64.wrap ((BitVec.ofInt 64 (a : Int) &&& BitVec.ofInt 64 (b : Int)).toNat : Int) = _
  rw [BitVec.toNat_and, ofInt_nat 64 a ha, ofInt_nat 64 b hb, wrap_u64 _ hx]
theorem u64_or (ha : a < 18446744073709551616) (hb : b < 18446744073709551616) : bits .or .u64 (a : Int) (b : Int) = ((a ||| b : Nat) : Int) := by
  have hx : a ||| b < 2 ^ 64 := Nat.or_lt_two_pow ha hb
  show IntKind.u64.wrap ((BitVec.ofInt 64 (a : Int) ||| BitVec.ofInt 64 (b : Int)).toNat : Int) = _
  rw [BitVec.toNat_or, ofInt_nat 64 a ha, ofInt_nat 64 b hb, wrap_u64 _ hx]
theorem i64_and (ha : a < 9223372036854775808) (hb : b < 9223372036854775808) : bits .and .i64 (a : Int) (b : Int) = ((a &&& b : Nat) : Int) := by
  have hx : a &&& b < 2 ^ 63 := Nat.and_lt_two_pow _ (by omega)
  show IntKind.i64.wrap ((BitVec.ofInt 64 (a : Int) &&& BitVec.ofInt 64 (b : Int)).toNat : Int) = _
  rw [BitVec.toNat_and, ofInt_nat 64 a (by omega), ofInt_nat 64 b (by omega), wrap_i64] <;> omega
theorem i64_or (ha : a < 9223372036854775808) (hb : b < 9223372036854775808) : bits .or .i64 (a : Int) (b : Int) = ((a ||| b : Nat) : Int) := by
  have hx : a ||| b < 2 ^ 63 := Nat.or_lt_two_pow (by omega) (by omega)
  show IntKind.i64.wrap ((BitVec.ofInt 64 (a : Int) ||| BitVec.ofInt 64 (b : Int)).toNat : Int) = _
  rw [BitVec.toNat_or, ofInt_nat 64 a (by omega), ofInt_nat 64 b (by omega), wrap_i64] <;> omega
end
/-- setting the bit 128 of a byte -/
theorem or_128 (a : Nat) (h : a < 256) : a ||| 128 = 128 + a % 128 := by
  have : ∀ x : Fin 256, x.val ||| 128 = 128 + x.val % 128 := by decide +kernel
  exact this ⟨a, h⟩
end Go.Proofs.YtpamjobiohbibaaGreat
namespace Go.Proofs.YtpamjobiohbibaaGreat
/-- a number's bytes -/
def encN : Nat → List UInt8
  | x => if h : 128 ≤ x then UInt8.ofNat (128 + x % 128) :: encN (x / 128) else [UInt8.ofNat x]
  termination_by x => x
  decreasing_by omega
theorem encN_lt {x : Nat} (h : x < 128) : encN x = [UInt8.ofNat x] := by
  rw [encN]; simp; omega
theorem encN_ge {x : Nat} (h : 128 ≤ x) : encN x = UInt8.ofNat (128 + x % 128) :: encN (x / 128) := by
  rw [encN]; simp [h]
theorem encN_len (k : Nat) : ∀ x, x < 128 ^ (k + 1) → (encN x).length ≤ k + 1 := by
  induction k with
  | zero => intro x h; rw [encN_lt (by simpa using h)]; simp
  | succ k ih =>
    intro x h
    by_cases hx : 128 ≤ x
    · rw [encN_ge hx]
      have := ih (x / 128) (by rw [Nat.pow_succ] at h; omega)
      simp; omega
    · rw [encN_lt (by omega)]; simp
theorem encN_len10 {x : Nat} (h : x < 18446744073709551616) : (encN x).length ≤ 10 := by
  exact encN_len 9 x (by have : (128 : Nat) ^ 10 = 1180591620717411303424 := by decide +kernel
                         omega)
theorem u8n (x : Nat) (h : x < 256) : (UInt8.ofNat x).toNat = x := by simp; omega
theorem bv_one1 (x : Nat) (h : x < 256) : bv [UInt8.ofNat x] = [.int .u8 (x : Int)] := by simp only [bv, List.map_cons, List.map_nil, u8n x h]
/-- a text's bytes -/
def encT (l : List UInt8) : List UInt8 := encN l.length ++ l
/-- a fixed number's bytes -/
def fixL (x : Nat) : Nat → List UInt8
  | 0 => []
  | k + 1 => fixL x k ++ [UInt8.ofNat (x / 2 ^ (8 * k) % 256)]
@[simp] theorem fixL_length (x k : Nat) : (fixL x k).length = k := by induction k with
  | zero => rfl
  | succ k ih => simp [fixL, ih]
end Go.Proofs.YtpamjobiohbibaaGreat
namespace Go.Proofs.YtpamjobiohbibaaGreat
open Go.RowKit
set_option linter.unusedVariables false
set_option maxRecDepth 20000
abbrev Txt := List UInt8
/-- no text behind the other -/
def leT (s r : Txt) : Prop := Op.bytesLess s r = true ∨ s = r
instance (s r : Txt) : Decidable (leT s r) := inferInstanceAs (Decidable (_ ∨ _))
theorem leT_iff (s r : Txt) : (Op.bytesLess s r || decide (s = r)) = decide (leT s r) := by
  by_cases hp : leT s r
  · rw [decide_eq_true hp]
    rcases hp with h | h <;> simp [h]
  · rw [decide_eq_false hp]
    unfold leT at hp
    have h1 : ¬ Op.bytesLess s r = true := fun h => hp (.inl h)
    have h2 : ¬ s = r := fun h => hp (.inr h)
    simp [h1, h2]
section
variable {C : Cx} {fr : Fr} {L : List Ch} {x y : Operand} {s r : List UInt8} {xt yt ty : TypeId}
theorem det_s_gtrD (h1 : ev fr x = some (.string ⟨s.toArray⟩)) (h2 : ev fr y = some (.string ⟨r.toArray⟩)) : Det C fr L (.binOp .gtr xt x y yt) ty (.bool (decide (¬ leT s r))) := by
  have h := det_s_gtr (C := C) (L := L) (xt := xt) (yt := yt) (ty := ty) h1 h2
  rw [leT_iff, ← decide_not] at h
  exact h
theorem det_s_leqD (h1 : ev fr x = some (.string ⟨s.toArray⟩)) (h2 : ev fr y = some (.string ⟨r.toArray⟩)) : Det C fr L (.binOp .leq xt x y yt) ty (.bool (decide (leT s r))) := by
  have h := det_s_leq (C := C) (L := L) (xt := xt) (yt := yt) (ty := ty) h1 h2
  rw [leT_iff] at h
  exact h
end
/-- a text may stand behind another one -/
def mayT (was s : Txt) : Prop := s ≠ [] ∧ s.length ≤ 25 ∧ ¬ leT s was
instance (was s : Txt) : Decidable (mayT was s) := inferInstanceAs (Decidable (_ ∧ _ ∧ _))
def prvT (l : List Txt) (i : Nat) : Txt := if i = 0 then [] else l.getD (i - 1) []
def RisT (l : List Txt) : Prop := (∀ i, i < l.length → mayT (prvT l i) (l.getD i [])) ∧ l.length ≤ 1048576
instance (l : List Txt) : Decidable (RisT l) := inferInstanceAs (Decidable ((∀ i, i < l.length → _) ∧ _))
theorem prvT_succ (l : List Txt) (i : Nat) : prvT l (i + 1) = l.getD i [] := by simp [prvT]
theorem not_leT_nil {s : Txt} (h : s ≠ []) : ¬ leT s [] := by
  rintro (h1 | h1)
  · cases s <;> simp [Op.bytesLess] at h1
  · exact h h1
/-- how many bytes two texts begin with alike -/
def lcp : Txt → Txt → Nat
  | x :: a, y :: b => if x = y then lcp a b + 1 else 0
  | _, _ => 0
theorem lcp_le : ∀ a b : Txt, lcp a b ≤ a.length ∧ lcp a b ≤ b.length
  | [], _ => by simp [lcp]
  | _ :: _, [] => by simp [lcp]
  | x :: a, y :: b => by
    unfold lcp
    have := lcp_le a b
    split <;> simp only [List.length_cons] <;> omega
theorem lcp_step : ∀ (a b : Txt) (n : Nat), n ≤ lcp a b → (n < lcp a b ↔ (n < a.length ∧ n < b.length) ∧ a.getD n 0 = b.getD n 0)
  | [], _, n, h => by simp [lcp]
  | _ :: _, [], n, h => by simp [lcp]
  | x :: a, y :: b, n, h => by
    unfold lcp at h ⊢
    split at h
    · rename_i he
      rw [if_pos he]
      cases n with
      | zero => simp [he]
      | succ n =>
        have := lcp_step a b n (by omega)
        simp only [List.length_cons, List.getD_cons_succ]
        exact ⟨fun h => by obtain ⟨⟨h1, h2⟩, h3⟩ := this.1 (by omega); exact ⟨⟨by omega, by omega⟩, h3⟩, fun h => by have := this.2 ⟨⟨by omega, by omega⟩, h.2⟩; omega⟩
    · rename_i he
      rw [if_neg he]
      have : n = 0 := by omega
      subst this
      simp [he]
/-- a bucket's bytes -/
def tailT : Txt → List Txt → List UInt8
  | _, [] => []
  | was, s :: r => encN (lcp was s) ++ encT (s.drop (lcp was s)) ++ tailT s r
def bucketT : List Txt → List UInt8
  | [] => []
  | t :: r => encT t ++ tailT t r
end Go.Proofs.YtpamjobiohbibaaGreat
namespace Go.Proofs.YtpamjobiohbibaaGreat
open Go.RowKit
set_option linter.unusedVariables false
set_option maxRecDepth 20000
def ltT (a b : Txt) : Prop := Op.bytesLess a b = true
instance (a b : Txt) : Decidable (ltT a b) := inferInstanceAs (Decidable (_ = _))
theorem not_ltT_nil (a : Txt) : ¬ ltT a [] := by cases a <;> simp [ltT, Op.bytesLess]
theorem ltT_nil_cons (b : UInt8) (y : Txt) : ltT [] (b :: y) := rfl
theorem ltT_cons {a b : UInt8} {x y : Txt} : ltT (a :: x) (b :: y) ↔ a < b ∨ a = b ∧ ltT x y := by simp [ltT, Op.bytesLess]
theorem u8_lt {a b : UInt8} : a < b ↔ a.toNat < b.toNat := UInt8.lt_iff_toNat_lt
theorem u8_eq {a b : UInt8} : a = b ↔ a.toNat = b.toNat := UInt8.toNat_inj.symm
theorem ltT_irrefl : ∀ a : Txt, ¬ ltT a a
  | [] => not_ltT_nil _
  | a :: x => by
    rw [ltT_cons, u8_lt]
    have := ltT_irrefl x
    rintro (h | ⟨_, h⟩)
    · omega
    · exact this h
theorem ltT_trans : ∀ {a b c : Txt}, ltT a b → ltT b c → ltT a c
  | _, _, [], _, h => absurd h (not_ltT_nil _)
  | _, [], _ :: _, h, _ => absurd h (not_ltT_nil _)
  | [], _ :: _, c :: z, _, _ => ltT_nil_cons c z
  | a :: x, b :: y, c :: z, h1, h2 => by
    rw [ltT_cons, u8_lt] at *
    rw [u8_eq] at *
    rcases h1 with h1 | ⟨h1, h1'⟩ <;> rcases h2 with h2 | ⟨h2, h2'⟩
    · left; omega
    · left; omega
    · left; omega
    · exact .inr ⟨by omega, ltT_trans h1' h2'⟩
theorem ltT_total : ∀ a b : Txt, ltT a b ∨ a = b ∨ ltT b a
  | [], [] => .inr (.inl rfl)
  | [], b :: y => .inl (ltT_nil_cons b y)
  | a :: x, [] => .inr (.inr (ltT_nil_cons a x))
  | a :: x, b :: y => by
    rw [ltT_cons, ltT_cons, u8_lt, u8_lt, List.cons.injEq, u8_eq, u8_eq]
    rcases Nat.lt_trichotomy a.toNat b.toNat with h | h | h
    · exact .inl (.inl h)
    · rcases ltT_total x y with h1 | h1 | h1
      · exact .inl (.inr ⟨h, h1⟩)
      · exact .inr (.inl ⟨h, h1⟩)
      · exact .inr (.inr (.inr ⟨h.symm, h1⟩))
    · exact .inr (.inr (.inl h))
theorem leT_lt {s r : Txt} : leT s r ↔ ltT s r ∨ s = r := Iff.rfl
theorem not_leT {s r : Txt} : ¬ leT s r ↔ ltT r s := by
  rw [leT_lt]
  constructor
  · intro h
    rcases ltT_total s r with h1 | h1 | h1
    · exact absurd (.inl h1) h
    · exact absurd (.inr h1) h
    · exact h1
  · rintro h (h1 | h1)
    · exact ltT_irrefl _ (ltT_trans h h1)
    · subst h1; exact ltT_irrefl _ h
theorem not_ltT {s r : Txt} : ¬ ltT s r ↔ leT r s := by rw [← not_leT, Classical.not_not]
theorem leT_ltT {a b c : Txt} (h : leT a b) (k : ltT b c) : ltT a c := h.elim (fun h => ltT_trans h k) (fun h => h ▸ k)
theorem ltT_leT {a b c : Txt} (h : ltT a b) (k : leT b c) : ltT a c := k.elim (fun k => ltT_trans h k) (fun k => k ▸ h)
theorem RisT.lt {l : List Txt} (h : RisT l) : ∀ (j i : Nat), i < j → j < l.length → ltT (l.getD i []) (l.getD j [])
  | 0, i, hij, _ => absurd hij (by omega)
  | j + 1, i, hij, hj => by
    have h1 := (h.1 (j + 1) hj).2.2
    rw [prvT_succ, not_leT] at h1
    by_cases e : i = j
    · rw [e]; exact h1
    · exact ltT_trans (RisT.lt h j i (by omega) (by omega)) h1
theorem RisT.inj {l : List Txt} (h : RisT l) {i j : Nat} (hi : i < l.length) (hj : j < l.length) (he : l.getD i [] = l.getD j []) : i = j := by
  rcases Nat.lt_trichotomy i j with h1 | h1 | h1
  · exact absurd (he ▸ h.lt j i h1 hj) (ltT_irrefl _)
  · exact h1
  · exact absurd (he ▸ h.lt i j h1 hi) (ltT_irrefl _)
/-- the place of the first text that isn't below s -/
def plK (l : List Txt) (s : Txt) (k : Nat) : Prop := k ≤ l.length ∧ (∀ i, i < k → ltT (l.getD i []) s) ∧ (∀ i, k ≤ i → i < l.length → ¬ ltT (l.getD i []) s)
/-- a text begins with another one -/
def bgT (x s : Txt) : Prop := s.length ≤ x.length ∧ x.take s.length = s
instance (x s : Txt) : Decidable (bgT x s) := inferInstanceAs (Decidable (_ ∧ _))
/-- the places of those that begin with s -/
def rgK (l : List Txt) (s : Txt) (a b : Nat) : Prop := b ≤ l.length ∧ (∀ i, i < l.length → (bgT (l.getD i []) s ↔ a ≤ i ∧ i < b)) ∧ (a < b ∨ a = 0 ∧ b = 0)
end Go.Proofs.YtpamjobiohbibaaGreat
namespace Go.Proofs
open Go.RowKit Go.Maps Go.Sort Go.Shelf
def Tryz.sortS_ren : Go.Shelf.Ren := ⟨fun | 6 => 50 | 8 => 58 | 9 => 72 | 19 => 74 | 20 => 75 | 21 => 86 | 22 => 87 | 23 => 88 | 24 => 89 | 25 => 90 | 26 => 91 | 27 => 92 | 28 => 93 | 29 => 94 | 36 => 98 | 31 => 99 | 32 => 100 | 37 => 101 | 38 => 102 | 39 => 103 | 41 => 104 | n => n, fun | 27 => 22 | 29 => 9 | 3 => 3 | 32 => 103 | 26 => 22 | 0 => 0 | 44 => 129 | 46 => 39 | 4 => 4 | 36 => 146 | 35 => 145 | 41 => 150 | 5 => 5 | 9 => 9 | 53 => 157 | 57 => 161 | 63 => 163 | 64 => 164 | n => n, fun | n => n⟩
theorem Tryz.sortS : Go.Proofs.SlLaysM.n6 Tryz.prog Tryz.sortS_ren := {
  mixed := by kernel_rfl
  f6 := ⟨Tryz.f50.name, by decide, Tryz.func50.trans (congrArg some (by kernel_rfl))⟩
  f8 := Tryz.func58.trans (congrArg some (by kernel_rfl))
  f9 := ⟨Tryz.f72.name, by decide, Tryz.func72.trans (congrArg some (by kernel_rfl))⟩
  f19 := Tryz.func74.trans (congrArg some (by kernel_rfl))
  f20 := Tryz.func75.trans (congrArg some (by kernel_rfl))
  f21 := ⟨Tryz.f86.name, by decide, Tryz.func86.trans (congrArg some (by kernel_rfl))⟩
  f22 := ⟨Tryz.f87.name, by decide, Tryz.func87.trans (congrArg some (by kernel_rfl))⟩
  f23 := ⟨Tryz.f88.name, by decide, Tryz.func88.trans (congrArg some (by kernel_rfl))⟩
  f24 := ⟨Tryz.f89.name, by decide, Tryz.func89.trans (congrArg some (by kernel_rfl))⟩
  f25 := ⟨Tryz.f90.name, by decide, Tryz.func90.trans (congrArg some (by kernel_rfl))⟩
  f26 := ⟨Tryz.f91.name, by decide, Tryz.func91.trans (congrArg some (by kernel_rfl))⟩
  f27 := ⟨Tryz.f92.name, by decide, Tryz.func92.trans (congrArg some (by kernel_rfl))⟩
  f28 := ⟨Tryz.f93.name, by decide, Tryz.func93.trans (congrArg some (by kernel_rfl))⟩
  f29 := ⟨Tryz.f94.name, by decide, Tryz.func94.trans (congrArg some (by kernel_rfl))⟩
  f31 := Tryz.func99.trans (congrArg some (by kernel_rfl))
  f32 := Tryz.func100.trans (congrArg some (by kernel_rfl))
  f36 := ⟨Tryz.f98.name, by decide, Tryz.func98.trans (congrArg some (by kernel_rfl))⟩
  f37 := ⟨Tryz.f101.name, by decide, Tryz.func101.trans (congrArg some (by kernel_rfl))⟩
  f38 := ⟨Tryz.f102.name, by decide, Tryz.func102.trans (congrArg some (by kernel_rfl))⟩
  f39 := ⟨Tryz.f103.name, by decide, Tryz.func103.trans (congrArg some (by kernel_rfl))⟩
  f41 := ⟨Tryz.f104.name, by decide, Tryz.func104.trans (congrArg some (by kernel_rfl))⟩
  t0 := Tryz.underlying0
  a0 := Tryz.isAgg0
  z0 := Tryz.sizeOf0
  v0 := Tryz.zeroValue0
  t3 := Tryz.underlying3
  a3 := Tryz.isAgg3
  z3 := Tryz.sizeOf3
  v3 := Tryz.zeroValue3
  t4 := Tryz.underlying4
  a4 := Tryz.isAgg4
  z4 := Tryz.sizeOf4
  v4 := Tryz.zeroValue4
  t5 := Tryz.underlying5
  a5 := Tryz.isAgg5
  z5 := Tryz.sizeOf5
  v5 := Tryz.zeroValue5
  t9 := Tryz.underlying9
  a9 := Tryz.isAgg9
  z9 := Tryz.sizeOf9
  v9 := Tryz.zeroValue9
  t26 := Tryz.underlying22
  a26 := Tryz.isAgg22
  z26 := Tryz.sizeOf22
  v26 := Tryz.zeroValue22
  t27 := Tryz.underlying22
  a27 := Tryz.isAgg22
  z27 := Tryz.sizeOf22
  v27 := Tryz.zeroValue22
  t29 := Tryz.underlying9
  a29 := Tryz.isAgg9
  z29 := Tryz.sizeOf9
  v29 := Tryz.zeroValue9
  t32 := Tryz.underlying103
  a32 := Tryz.isAgg103
  z32 := Tryz.sizeOf103
  v32 := Tryz.zeroValue103
  t35 := Tryz.underlying145
  a35 := Tryz.isAgg145
  z35 := Tryz.sizeOf145
  v35 := Tryz.zeroValue145
  t36 := Tryz.underlying146
  a36 := Tryz.isAgg146
  z36 := Tryz.sizeOf146
  v36 := Tryz.zeroValue146
  t41 := Tryz.underlying150
  a41 := Tryz.isAgg150
  z41 := Tryz.sizeOf150
  v41 := Tryz.zeroValue150
  t44 := Tryz.underlying129
  a44 := Tryz.isAgg129
  z44 := Tryz.sizeOf129
  v44 := Tryz.zeroValue129
  t46 := Tryz.underlying39
  a46 := Tryz.isAgg39
  z46 := Tryz.sizeOf39
  v46 := Tryz.zeroValue39
  t53 := Tryz.underlying157
  a53 := Tryz.isAgg157
  z53 := Tryz.sizeOf157
  v53 := Tryz.zeroValue157
  t57 := Tryz.underlying161
  a57 := Tryz.isAgg161
  z57 := Tryz.sizeOf161
  v57 := Tryz.zeroValue161
  t63 := Tryz.underlying163
  a63 := Tryz.isAgg163
  z63 := Tryz.sizeOf163
  v63 := Tryz.zeroValue163
  t64 := Tryz.underlying164
  a64 := Tryz.isAgg164
  z64 := Tryz.sizeOf164
  v64 := Tryz.zeroValue164 }
def Tryz.compS_ren : Go.Shelf.Ren := ⟨fun | 44 => 51 | n => n, fun | 25 => 22 | 26 => 9 | 3 => 3 | 4 => 4 | 0 => 0 | n => n, fun | n => n⟩
theorem Tryz.compS : Go.Proofs.SlLaysN.n44 Tryz.prog Tryz.compS_ren := {
  mixed := by kernel_rfl
  f44 := ⟨Tryz.f51.name, by decide, Tryz.func51.trans (congrArg some (by kernel_rfl))⟩
  t0 := Tryz.underlying0
  a0 := Tryz.isAgg0
  z0 := Tryz.sizeOf0
  v0 := Tryz.zeroValue0
  t3 := Tryz.underlying3
  a3 := Tryz.isAgg3
  z3 := Tryz.sizeOf3
  v3 := Tryz.zeroValue3
  t4 := Tryz.underlying4
  a4 := Tryz.isAgg4
  z4 := Tryz.sizeOf4
  v4 := Tryz.zeroValue4
  t25 := Tryz.underlying22
  a25 := Tryz.isAgg22
  z25 := Tryz.sizeOf22
  v25 := Tryz.zeroValue22
  t26 := Tryz.underlying9
  a26 := Tryz.isAgg9
  z26 := Tryz.sizeOf9
  v26 := Tryz.zeroValue9
  i26 := by kernel_rfl }
namespace YtpamjobiohbibaaGreat
set_option linter.unusedVariables false
variable {B : Nat} {w0 : World} {F : List Ch} {A : Option Addr} {c : Nat}
def leS (x y : List UInt8) : Bool := decide (x ≤ y)
theorem sort_d {l : List (List UInt8)} (hl : l.length < 4611686018427387904) :
    Does Tryz.prog B w0 50 [.slice A l.length c] (.own 9 1 A l.length c (strs l) :: F) (fun r L => r = .tuple #[] ∧ L = .own 9 1 A l.length c (strs (l.mergeSort leS)) :: F) := by
  intro w hw
  obtain ⟨k1, k2, k3⟩ := hw.head
  by_cases h0 : l.length = 0
  · have hl0 : l = [] := List.eq_nil_of_length_eq_zero h0
    subst hl0
    refine (AnyM.slices_Sort_string_none Tryz.sortS A c w).mono fun e w' ⟨he, hw'⟩ => ?_
    subst hw'
    exact ⟨_, _, he, ⟨rfl, by simp⟩, hw⟩
  · have hc0 : ¬ c = 0 := by omega
    obtain ⟨g, cur, rfl, hbg, hg, hm, hs, ht⟩ := k3.resolve_left hc0
    rw [Nat.mul_one] at ht
    refine (AnyM.slices_Sort_string Tryz.sortS g 0 c l w (holds_of_block hg ht) ((Array.getElem?_eq_some_iff.1 hg).1) hl).mono fun e w' ⟨he, n, os, hw'⟩ => ?_
    have hlen : (l.mergeSort fun x y => decide (x ≤ y)).length = l.length := List.length_mergeSort _
    have hfp : (Ch.own 9 1 (some ⟨g, 0, none⟩) l.length c (strs l)).fp = some g := by simp [Ch.fp, hc0]
    have hg2 := grownBy_sorted (w := w) (g := g) (n := n) (os := os) (l.mergeSort fun x y => decide (x ≤ y)).toArray
    rw [← hw'] at hg2
    refine ⟨_, _, he, ⟨rfl, rfl⟩, hw.turn (by rw [hfp]; exact hg2) ⟨?_, k2, .inr ⟨g, _, rfl, hbg, by rw [hw']; exact heap_sorted _ hg, hm, by simpa [putCells] using hs, ?_⟩⟩ (.inr (.inl (by simp [Ch.fp])))⟩
    · simp
    · rw [Nat.mul_one, ← hlen]
      exact take_putCells cur _ (by rw [hlen]; omega)
theorem compact_le (zs : List (List UInt8)) : (Lib.compact zs).length ≤ zs.length := by
  unfold Lib.compact Lib.compactUpTo
  rw [List.length_map]
  exact Nat.le_trans (List.length_filter_le _ _) (by simp)
theorem compact_d {l : List (List UInt8)} (hl : l.length < 4611686018427387904) :
    Does Tryz.prog B w0 51 [.slice A l.length c] (.own 9 1 A l.length c (strs l) :: F) (fun r L => r = .slice A (Lib.compact l).length c ∧ L = .own 9 1 A (Lib.compact l).length c (strs (Lib.compact l)) :: F) := by
  intro w hw
  obtain ⟨k1, k2, k3⟩ := hw.head
  have hle := compact_le l
  by_cases h0 : l.length = 0
  · have hl0 : l = [] := List.eq_nil_of_length_eq_zero h0
    subst hl0
    refine (AnyG.slices_Compact_string_empty Tryz.compS A c w).mono fun e w' ⟨he, hw'⟩ => ?_
    subst hw'
    exact ⟨_, _, he, ⟨rfl, by simp [Lib.compact, Lib.compactUpTo, strs]⟩, hw⟩
  · have hc0 : ¬ c = 0 := by omega
    obtain ⟨g, cur, rfl, hbg, hg, hm, hs, ht⟩ := k3.resolve_left hc0
    rw [Nat.mul_one] at ht
    refine (AnyG.slices_Compact_string Tryz.compS g 0 c l w (holds_of_block hg ht) (by omega) k2).mono fun e w' ⟨he, q, hw'⟩ => ?_
    obtain ⟨ys, hys⟩ : ∃ ys, ys = Lib.compact l ++ List.replicate (l.length - (Lib.compact l).length) [] := ⟨_, rfl⟩
    have hyl : ys.length = l.length := by rw [hys]; simp; omega
    rw [← hys] at hw'
    have hfp : (Ch.own 9 1 (some ⟨g, 0, none⟩) l.length c (strs l)).fp = some g := by simp [Ch.fp, hc0]
    have hg2 := grownBy_sorted (w := w) (g := g) (n := q) (os := #[]) ys.toArray
    have hh := heap_sorted (n := q) (os := #[]) ys.toArray hg
    rw [grow_empty, ← hw'] at hg2 hh
    refine ⟨_, _, he, ⟨rfl, rfl⟩, hw.turn (by rw [hfp]; exact hg2) ⟨by simp, by omega, .inr ⟨g, _, rfl, hbg, hh, hm, by simpa [putCells] using hs, ?_⟩⟩ (.inr (.inl (by simp [Ch.fp])))⟩
    have ht2 := take_putCells cur ys (by rw [hyl]; omega)
    have := congrArg (List.take (Lib.compact l).length) ht2
    rw [List.take_take, hyl, Nat.min_eq_left hle] at this
    rw [Nat.mul_one, this, ← List.map_take, hys, List.take_left]
    rfl
end YtpamjobiohbibaaGreat
end Go.Proofs
namespace Go.Proofs.YtpamjobiohbibaaGreat
/-- a byte made small, or 0 -/
def small (c : UInt8) : UInt8 := if 65 ≤ c.toNat ∧ c.toNat ≤ 90 then c + 32 else if 97 ≤ c.toNat ∧ c.toNat ≤ 122 ∨ 48 ≤ c.toNat ∧ c.toNat ≤ 57 then c else 0
def emit (row : List UInt8) : List (List UInt8) := if row = [] then [] else [row.take 24]
def wstep (st : List (List UInt8) × List UInt8) (c : UInt8) : List (List UInt8) × List UInt8 :=
  if small c ≠ 0 then (st.1, st.2 ++ [small c]) else (st.1 ++ emit st.2, [])
theorem wstep_yes {ws : List (List UInt8)} {row : List UInt8} {c : UInt8} (h : small c ≠ 0) : wstep (ws, row) c = (ws, row ++ [small c]) := if_pos h
theorem wstep_no {ws : List (List UInt8)} {row : List UInt8} {c : UInt8} (h : small c = 0) : wstep (ws, row) c = (ws ++ emit row, []) := if_neg (by simpa using h)
def wst (l : List UInt8) : List (List UInt8) × List UInt8 := l.foldl wstep ([], [])
/-- the words of a text -/
def wordsL (l : List UInt8) : List (List UInt8) := (wst l).1 ++ emit (wst l).2
theorem wst_snoc (l : List UInt8) (c : UInt8) : wst (l ++ [c]) = wstep (wst l) c := by simp [wst]
theorem emit_len (row : List UInt8) : (emit row).length ≤ row.length := by
  unfold emit; split
  · simp
  · rename_i h
    have : 0 < row.length := by rcases row with _ | ⟨x, r⟩; exact absurd rfl h; simp
    simp; omega
theorem wst_len (l : List UInt8) : (wst l).1.length + (wst l).2.length ≤ l.length := by
  have : ∀ l : List UInt8, ∀ st : List (List UInt8) × List UInt8, (l.foldl wstep st).1.length + (l.foldl wstep st).2.length ≤ st.1.length + st.2.length + l.length := by
    intro l
    induction l with
    | nil => intro st; simp
    | cons c r ih =>
      intro st
      have h := ih (wstep st c)
      have hs : (wstep st c).1.length + (wstep st c).2.length ≤ st.1.length + st.2.length + 1 := by
        unfold wstep
        split
        · simp; omega
        · have := emit_len st.2
          simp; omega
      simp only [List.foldl_cons, List.length_cons]
      omega
  simpa [wst] using this l ([], [])
theorem wordsL_len (l : List UInt8) : (wordsL l).length ≤ l.length := by
  have h1 := wst_len l
  have h2 := emit_len (wst l).2
  unfold wordsL
  simp; omega
/-- the document's: a word begins at a letter behind none -/
def wordAt (l : List UInt8) : List UInt8 := ((l.takeWhile fun c => small c ≠ 0).map small).take 24
def refW : Bool → List UInt8 → List (List UInt8)
  | _, [] => []
  | prev, c :: r => if small c = 0 ∨ prev = true then refW (decide (small c ≠ 0)) r else wordAt (c :: r) :: refW true r
theorem takeWhile_append_stop {α : Type} (p : α → Bool) (a : List α) (c : α) (r : List α) (ha : ∀ x ∈ a, p x = true) (hc : p c = false) : (a ++ c :: r).takeWhile p = a := by
  induction a with
  | nil => simp [hc]
  | cons x a ih =>
    simp only [List.cons_append, List.takeWhile_cons, ha x (by simp), if_true]
    rw [ih fun y hy => ha y (by simp [hy])]
theorem takeWhile_all {α : Type} (p : α → Bool) (a : List α) (ha : ∀ x ∈ a, p x = true) : a.takeWhile p = a := by
  induction a with
  | nil => rfl
  | cons x a ih =>
    simp only [List.takeWhile_cons, ha x (by simp), if_true]
    rw [ih fun y hy => ha y (by simp [hy])]
theorem refW_true_stop (c : UInt8) (r : List UInt8) (hc : small c = 0) (b : Bool) : refW b (c :: r) = refW false r := by
  simp [refW, hc]
/-- the program's state, carried through what is left, comes to the document's words -/
theorem fold_ref : ∀ (l : List UInt8) (ws : List (List UInt8)) (a : List UInt8), (∀ x ∈ a, small x ≠ 0) →
    (l.foldl wstep (ws, a.map small)).1 ++ emit (l.foldl wstep (ws, a.map small)).2 =
      ws ++ (if a = [] then refW false l else wordAt (a ++ l) :: refW true l) := by
  intro l
  induction l with
  | nil =>
    intro ws a ha
    rcases a with _ | ⟨x, a⟩
    · simp [emit, refW]
    · simp only [List.foldl_nil, emit, List.map_cons, refW, List.append_nil]
      rw [if_neg (by simp), if_neg (by simp)]
      unfold wordAt
      rw [takeWhile_all _ _ fun y hy => by simpa using ha y hy]
      rfl
  | cons c r ih =>
    intro ws a ha
    rw [List.foldl_cons]
    by_cases hc : small c = 0
    · have e : wstep (ws, a.map small) c = (ws ++ emit (a.map small), []) := by unfold wstep; rw [if_neg (by simpa using hc)]
      rw [e]
      have := ih (ws ++ emit (a.map small)) [] (by simp)
      simp only [List.map_nil, if_true] at this
      rw [this, List.append_assoc]
      congr 1
      rcases a with _ | ⟨x, a⟩
      · simp [emit, refW, hc]
      · rw [if_neg (by simp)]
        unfold emit
        rw [if_neg (by simp), refW_true_stop c r hc]
        unfold wordAt
        rw [takeWhile_append_stop _ _ c r (fun y hy => by simpa using ha y hy) (by simpa using hc)]
        rfl
    · have e : wstep (ws, a.map small) c = (ws, (a ++ [c]).map small) := by unfold wstep; rw [if_pos (by simpa using hc)]; simp
      rw [e]
      have := ih ws (a ++ [c]) (by intro y hy; rcases List.mem_append.1 hy with h | h; exact ha y h; simp at h; subst h; exact hc)
      rw [this, if_neg (by simp)]
      congr 1
      rcases a with _ | ⟨x, a⟩
      · simp [refW, hc]
      · rw [if_neg (by simp), List.append_assoc]
        simp [refW, hc]
/-- both are the same -/
theorem words_ref (l : List UInt8) : wordsL l = refW false l := by
  have := fold_ref l [] [] (by simp)
  simpa [wordsL, wst] using this
end Go.Proofs.YtpamjobiohbibaaGreat
namespace Go.Proofs.YtpamjobiohbibaaGreat
open Go.RowKit
set_option linter.unusedVariables false
set_option maxRecDepth 20000
theorem ltT_iff (a b : Txt) : ltT a b ↔ a < b := by
  unfold ltT
  rw [bytesLess_eq]
  simp
/-- each text is below the next ones -/
def StT (l : List Txt) : Prop := l.Pairwise ltT
theorem StT.nil : StT [] := List.Pairwise.nil
theorem StT.ext : ∀ {a b : List Txt}, StT a → StT b → (∀ x, x ∈ a ↔ x ∈ b) → a = b
  | [], [], _, _, _ => rfl
  | [], y :: b, _, _, h => absurd ((h y).2 (by simp)) (by simp)
  | x :: a, [], _, _, h => absurd ((h x).1 (by simp)) (by simp)
  | x :: a, y :: b, ha, hb, h => by
    obtain ⟨ha1, ha2⟩ := List.pairwise_cons.1 ha
    obtain ⟨hb1, hb2⟩ := List.pairwise_cons.1 hb
    have hxy : x = y := by
      rcases List.mem_cons.1 ((h x).1 (by simp)) with e | e
      · exact e
      · rcases List.mem_cons.1 ((h y).2 (by simp)) with e2 | e2
        · exact e2.symm
        · exact absurd (ltT_trans (ha1 y e2) (hb1 x e)) (ltT_irrefl _)
    subst hxy
    congr 1
    refine StT.ext ha2 hb2 fun z => ⟨fun hz => ?_, fun hz => ?_⟩
    · rcases List.mem_cons.1 ((h z).1 (List.mem_cons_of_mem _ hz)) with e | e
      · subst e; exact absurd (ha1 _ hz) (ltT_irrefl _)
      · exact e
    · rcases List.mem_cons.1 ((h z).2 (List.mem_cons_of_mem _ hz)) with e | e
      · subst e; exact absurd (hb1 _ hz) (ltT_irrefl _)
      · exact e
/-! sorted, and runs made single -/
theorem leS_iff (a b : Txt) : leS a b = true ↔ ¬ ltT b a := by
  unfold leS
  rw [decide_eq_true_iff, ltT_iff]
  exact List.not_lt.symm
theorem sort_pw (l : List Txt) : (l.mergeSort leS).Pairwise (fun a b => ¬ ltT b a) := by
  have h := List.pairwise_mergeSort (le := leS) (fun a b c h1 h2 => by
    rw [leS_iff, not_ltT] at *
    exact h1.elim (fun h1 => .inl (ltT_leT h1 h2)) (fun h1 => h1 ▸ h2)) (fun a b => by
    rcases ltT_total a b with h | h | h
    · simp [(leS_iff a b).2 (fun k => ltT_irrefl _ (ltT_trans h k))]
    · subst h; simp [(leS_iff a a).2 (ltT_irrefl _)]
    · simp [(leS_iff b a).2 (fun k => ltT_irrefl _ (ltT_trans h k))]) l
  exact h.imp fun h => (leS_iff _ _).1 h
theorem comp_inv {l : List Txt} (hp : l.Pairwise (fun a b => ¬ ltT b a)) : ∀ m, m ≤ l.length → StT (Lib.compactUpTo l.toArray m) ∧ (∀ x, x ∈ Lib.compactUpTo l.toArray m ↔ x ∈ l.take m)
  | 0, _ => ⟨by simp [StT, Lib.compactUpTo], by simp [Lib.compactUpTo]⟩
  | m + 1, hm => by
    obtain ⟨h1, h2⟩ := comp_inv hp m (by omega)
    rw [Lib.compactUpTo_succ]
    have hlm : m < l.length := by omega
    have hg : l.toArray[m]! = l[m] := by simp [getElem!_pos, hlm]
    have htk : l.take (m + 1) = l.take m ++ [l[m]] := by rw [List.take_add_one, List.getElem?_eq_getElem hlm]; rfl
    by_cases hk : Lib.keeps l.toArray m = true
    · rw [if_pos hk, hg]
      have hkk : m = 0 ∨ l.toArray[m]! ≠ l.toArray[m - 1]! := by simpa [Lib.keeps] using hk
      refine ⟨?_, fun x => ?_⟩
      · refine List.pairwise_append.2 ⟨h1, List.pairwise_singleton _ _, fun a ha b hb => ?_⟩
        rw [List.mem_singleton] at hb
        subst hb
        have ha' := (h2 a).1 ha
        obtain ⟨i, hi, rfl⟩ := List.getElem_of_mem ha'
        rw [List.length_take] at hi
        rw [List.getElem_take]
        have hle : ∀ i j (hi : i < l.length) (hj : j < l.length), i < j → ¬ ltT l[j] l[i] := fun i j hi hj hij => List.pairwise_iff_getElem.1 hp i j hi hj hij
        have hm0 : m ≠ 0 := by omega
        have hne : l[m] ≠ l[m - 1]'(by omega) := by
          have := hkk.resolve_left hm0
          rw [hg] at this
          simpa [getElem!_pos, show m - 1 < l.length by omega] using this
        have hlt : ltT (l[m - 1]'(by omega)) l[m] := by
          rcases ltT_total (l[m - 1]'(by omega)) l[m] with h | h | h
          · exact h
          · exact absurd h.symm hne
          · exact absurd h (hle (m - 1) m (by omega) hlm (by omega))
        by_cases him : i = m - 1
        · subst him; exact hlt
        · exact leT_ltT (not_ltT.1 (hle i (m - 1) (by omega) (by omega) (by omega))) hlt
      · rw [htk, List.mem_append, List.mem_append, h2]
    · rw [if_neg hk, List.append_nil]
      refine ⟨h1, fun x => ?_⟩
      rw [htk, List.mem_append, h2, List.mem_singleton]
      refine ⟨.inl, fun h => h.elim id fun h => ?_⟩
      have hkk : ¬ (m = 0 ∨ l.toArray[m]! ≠ l.toArray[m - 1]!) := by simpa [Lib.keeps] using hk
      have hm0 : m ≠ 0 := fun h => hkk (.inl h)
      have he : l.toArray[m]! = l.toArray[m - 1]! := Classical.not_not.1 fun h => hkk (.inr h)
      rw [hg] at he
      have hg1 : l.toArray[m - 1]! = l[m - 1]'(by omega) := by simp [getElem!_pos, show m - 1 < l.length by omega]
      rw [hg1] at he
      rw [h, he]
      exact List.mem_take_iff_getElem.2 ⟨m - 1, by omega, rfl⟩
/-- a list's texts, each once, rising -/
def setT (l : List Txt) : List Txt := Lib.compact (l.mergeSort leS)
theorem setT_st (l : List Txt) : StT (setT l) := by
  have := (comp_inv (sort_pw l) (l.mergeSort leS).length (Nat.le_refl _)).1
  exact this
theorem setT_mem (l : List Txt) (x : Txt) : x ∈ setT l ↔ x ∈ l := by
  have := (comp_inv (sort_pw l) (l.mergeSort leS).length (Nat.le_refl _)).2 x
  rw [List.take_length, List.mem_mergeSort] at this
  exact this
theorem setT_len (l : List Txt) : (setT l).length ≤ l.length := by
  have := compact_le (l.mergeSort leS)
  rwa [List.length_mergeSort] at this
theorem setT_uniq {l r : List Txt} (h : StT r) (hm : ∀ x, x ∈ r ↔ x ∈ l) : setT l = r := StT.ext (setT_st l) h fun x => (setT_mem l x).trans (hm x).symm
/-- the document's: a text put into a rising list -/
def putL (l : List Txt) (s : Txt) : List Txt := setT (l ++ [s])
theorem StT.put {l : List Txt} (h : StT l) {s : Txt} {k : Nat} (hk : k ≤ l.length) (hlo : ∀ i, i < k → ltT (l.getD i []) s) (hhi : k < l.length → ¬ ltT (l.getD k []) s) :
    putL l s = if k < l.length ∧ l.getD k [] = s then l else l.take k ++ [s] ++ l.drop k := by
  have hgd : ∀ i (hi : i < l.length), l.getD i [] = l[i] := fun i hi => by simp [List.getD, List.getElem?_eq_getElem hi]
  split
  · rename_i he
    refine setT_uniq h fun x => ?_
    rw [List.mem_append, List.mem_singleton]
    refine ⟨.inl, fun hx => hx.elim id fun hx => ?_⟩
    rw [hx, ← he.2, hgd k he.1]
    exact List.getElem_mem _
  · rename_i hne
    refine setT_uniq ?_ fun x => ?_
    · have hlt : k < l.length → ltT s (l.getD k []) := fun hkl => by
        rcases ltT_total s (l.getD k []) with h | h | h
        · exact h
        · exact absurd ⟨hkl, h.symm⟩ hne
        · exact absurd h (hhi hkl)
      have hpw := List.pairwise_iff_getElem.1 h
      refine List.pairwise_append.2 ⟨List.pairwise_append.2 ⟨h.sublist (List.take_sublist _ _), List.pairwise_singleton _ _, fun a ha b hb => ?_⟩, h.sublist (List.drop_sublist _ _), fun a ha b hb => ?_⟩
      · rw [List.mem_singleton] at hb
        subst hb
        obtain ⟨i, hi, rfl⟩ := List.getElem_of_mem ha
        rw [List.length_take] at hi
        rw [List.getElem_take, ← hgd i (by omega)]
        exact hlo i (by omega)
      · obtain ⟨j, hj, rfl⟩ := List.getElem_of_mem hb
        rw [List.length_drop] at hj
        rw [List.getElem_drop]
        have hs : ltT s l[k + j] := by
          have h1 := hlt (by omega)
          rw [hgd k (by omega)] at h1
          rcases Nat.eq_zero_or_pos j with h0 | h0
          · subst h0; exact h1
          · exact ltT_trans h1 (hpw k (k + j) (by omega) (by omega) (by omega))
        rcases List.mem_append.1 ha with ha | ha
        · obtain ⟨i, hi, rfl⟩ := List.getElem_of_mem ha
          rw [List.length_take] at hi
          rw [List.getElem_take, ]
          exact hpw i (k + j) (by omega) (by omega) (by omega)
        · rw [List.mem_singleton] at ha
          subst ha; exact hs
    · rw [List.mem_append, List.mem_append, List.mem_append, List.mem_singleton]
      conv => rhs; rw [← List.take_append_drop k l, List.mem_append]
      constructor
      · rintro ((h | h) | h)
        · exact .inl (.inl h)
        · exact .inr h
        · exact .inl (.inr h)
      · rintro ((h | h) | h)
        · exact .inl (.inl h)
        · exact .inr h
        · exact .inl (.inr h)
/-- the texts whose set a record's terms are: of its text, of its source -/
def rawT (txt src : List UInt8) : List Txt := wordsL txt ++ (wordsL src).map (64 :: ·)
def termsL (txt src : List UInt8) : List Txt := setT (rawT txt src)
theorem rawT_len (txt src : List UInt8) : (rawT txt src).length ≤ txt.length + src.length := by
  have h1 := wordsL_len txt
  have h2 := wordsL_len src
  simp [rawT]; omega
end Go.Proofs.YtpamjobiohbibaaGreat
namespace Go.Proofs
open Go.RowKit Go.Maps Go.Sort Go.Shelf
def Tryz.keysA_ren : Go.Shelf.Ren := ⟨fun | 7 => 25 | 10 => 53 | n => n, fun | 23 => 59 | 26 => 9 | 3 => 42 | 28 => 63 | 0 => 0 | 27 => 62 | 33 => 101 | 4 => 4 | n => n, fun | n => n⟩
theorem Tryz.keysA : Go.Proofs.SlLaysZ.n7 Tryz.prog Tryz.keysA_ren := {
  mixed := by kernel_rfl
  f7 := ⟨Tryz.f25.name, by decide, Tryz.func25.trans (congrArg some (by kernel_rfl))⟩
  f10 := ⟨Tryz.f53.name, by decide, Tryz.func53.trans (congrArg some (by kernel_rfl))⟩
  t0 := Tryz.underlying0
  a0 := Tryz.isAgg0
  z0 := Tryz.sizeOf0
  v0 := Tryz.zeroValue0
  t4 := Tryz.underlying4
  a4 := Tryz.isAgg4
  z4 := Tryz.sizeOf4
  v4 := Tryz.zeroValue4
  t23 := Tryz.underlying59
  a23 := Tryz.isAgg59
  z23 := Tryz.sizeOf59
  v23 := Tryz.zeroValue59
  t26 := Tryz.underlying9
  a26 := Tryz.isAgg9
  z26 := Tryz.sizeOf9
  v26 := Tryz.zeroValue9
  t27 := Tryz.underlying62
  a27 := Tryz.isAgg62
  z27 := Tryz.sizeOf62
  v27 := Tryz.zeroValue62
  t28 := Tryz.underlying63
  a28 := Tryz.isAgg63
  z28 := Tryz.sizeOf63
  v28 := Tryz.zeroValue63
  t33 := Tryz.underlying101
  a33 := Tryz.isAgg101
  z33 := Tryz.sizeOf101
  v33 := Tryz.zeroValue101 }
def Tryz.sortedA_ren : Go.Shelf.Ren := ⟨fun | 6 => 24 | 8 => 52 | 9 => 50 | 11 => 73 | 13 => 58 | 12 => 72 | 23 => 74 | 24 => 75 | 14 => 86 | 15 => 87 | 16 => 88 | 17 => 89 | 18 => 90 | 19 => 91 | 20 => 92 | 21 => 93 | 22 => 94 | 25 => 98 | 26 => 99 | 27 => 100 | 28 => 101 | 29 => 102 | 30 => 103 | 31 => 104 | n => n, fun | 26 => 9 | 28 => 63 | 24 => 22 | 0 => 0 | 3 => 3 | 37 => 103 | 48 => 129 | 50 => 39 | 4 => 4 | 40 => 146 | 39 => 145 | 45 => 150 | 5 => 5 | 9 => 9 | 51 => 157 | 55 => 161 | 57 => 163 | 58 => 164 | 33 => 101 | n => n, fun | n => n⟩
theorem Tryz.sortedA : Go.Proofs.SlLaysZ.n6 Tryz.prog Tryz.sortedA_ren := {
  mixed := by kernel_rfl
  f6 := ⟨Tryz.f24.name, by decide, Tryz.func24.trans (congrArg some (by kernel_rfl))⟩
  f8 := ⟨Tryz.f52.name, by decide, Tryz.func52.trans (congrArg some (by kernel_rfl))⟩
  f11 := ⟨Tryz.f73.name, by decide, Tryz.func73.trans (congrArg some (by kernel_rfl))⟩
  t0 := Tryz.underlying0
  a0 := Tryz.isAgg0
  z0 := Tryz.sizeOf0
  v0 := Tryz.zeroValue0
  t24 := Tryz.underlying22
  a24 := Tryz.isAgg22
  z24 := Tryz.sizeOf22
  v24 := Tryz.zeroValue22
  t26 := Tryz.underlying9
  a26 := Tryz.isAgg9
  z26 := Tryz.sizeOf9
  v26 := Tryz.zeroValue9
  t28 := Tryz.underlying63
  a28 := Tryz.isAgg63
  z28 := Tryz.sizeOf63
  v28 := Tryz.zeroValue63
  i26 := by kernel_rfl }
theorem Tryz.sortsA (m : Nat) : AnyZ.SortsIn Tryz.prog Tryz.sortedA_ren Fence.wide m :=
  ⟨fun blk off cap ss W hH hblk hsz => callsIn_wide.2 (AnyM.slices_Sort_string Tryz.sortS blk off cap ss W hH hblk hsz),
   fun p cap W => callsIn_wide.2 (AnyM.slices_Sort_string_none Tryz.sortS p cap W)⟩
namespace YtpamjobiohbibaaGreat
set_option linter.unusedVariables false
set_option maxRecDepth 20000
variable {B : Nat} {w0 : World} {F L : List Ch} {A : Option Addr} {c : Nat}
theorem keys_d (b : Nat) : Does Tryz.prog B w0 25 [.map (some b)] L (fun r L' => ∃ g, r = .func (.func 53) #[] [.pointer (some ⟨g, 0, none⟩)].toArray ∧ L' = .blk g 59 [.map (some b)] :: L) := fun w hw => by
  have h : CallsIn Fence.wide 5 Tryz.prog 25 #[.map (some b)] w fun e w' => e = .returned (.func (.func 53) #[] #[.pointer (some ⟨w.heap.size, 0, none⟩)]) ∧ w' = w.alloc (.cells #[.map (some b)] 59) := AnyZ.keys_in Tryz.keysA Fence.wide 5 trivial rfl (some b) w
  refine (callsIn_wide.1 h).mono fun e w' ⟨he, hw'⟩ => ?_
  subst hw'
  exact ⟨_, _, he, ⟨w.heap.size, rfl, rfl⟩, hw.new_blk 59 [.map (some b)]⟩
theorem stamped_ents (D : List (List UInt8 × Value)) (hn : (D.map (·.1)).Nodup) : MapKept.Stamped (entsF 0 D).toArray D.length := by
  have hb : ∀ (D : List (List UInt8 × Value)) (i : Nat), (entsF i D).map (·.born) = List.range' i D.length := by
    intro D
    induction D with
    | nil => intro i; rfl
    | cons p r ih => intro i; simp [entsF, ih, List.range'_succ]
  have hk : ∀ (D : List (List UInt8 × Value)) (i : Nat), (entsF i D).map (·.key) = (D.map (·.1)).map fun t => Value.string ⟨t.toArray⟩ := by
    intro D
    induction D with
    | nil => intro i; rfl
    | cons p r ih => intro i; simp [entsF, ih]
  refine ⟨fun x hx => ?_, ?_, ?_⟩
  · have : x.born ∈ (entsF 0 D).map (·.born) := List.mem_map.2 ⟨x, by simpa using hx, rfl⟩
    rw [hb] at this
    have := List.mem_range'.1 this
    omega
  · rw [List.toList_toArray, hb]; exact List.nodup_range' (step := 1)
  · rw [List.toList_toArray, hk]
    exact List.Pairwise.map _ (fun a b h e => h (by simpa using e)) hn
theorem ents_key : ∀ (D : List (List UInt8 × Value)) (i : Nat) (x : MapEntry), x ∈ entsF i D → ∃ p ∈ D, x.key = .string ⟨p.1.toArray⟩
  | [], _, _, h => by simp [entsF] at h
  | p :: r, i, x, h => by
    rcases List.mem_cons.1 h with rfl | h
    · exact ⟨p, List.mem_cons_self, rfl⟩
    · obtain ⟨q, hq, e⟩ := ents_key r (i + 1) x h
      exact ⟨q, List.mem_cons_of_mem _ hq, e⟩
theorem sorted_nd {ss : List (List UInt8)} (h : ss.Nodup) : StT (ss.mergeSort leS) := by
  have h1 := sort_pw ss
  have h2 : (ss.mergeSort leS).Nodup := (List.mergeSort_perm ss leS).nodup_iff.2 h
  refine (h1.and h2).imp fun {x y} h => ?_
  rcases ltT_total x y with q | q | q
  · exact q
  · exact absurd q h.2
  · exact absurd q h.1
theorem sorted_d {D : List (List UInt8 × Value)} {g b : Nat} (hn : (D.map (·.1)).Nodup) (hl : D.length ≤ 1000000) (hk : ∀ p ∈ D, p.1.length ≤ 1000000000) :
    Does Tryz.prog B w0 24 [.func (.func 53) #[] [.pointer (some ⟨g, 0, none⟩)].toArray] (.blk g 59 [.map (some b)] :: .obj b (mpO D) :: F)
      (fun r L' => ∃ A c, r = .slice A (setT (D.map (·.1))).length c ∧ L' = .own 9 1 A (setT (D.map (·.1))).length c (strs (setT (D.map (·.1)))) :: .blk g 59 [.map (some b)] :: .obj b (mpO D) :: F) := by
  intro w hw
  have hg := hw.head.2
  have hb : w.heap[b]? = some (.map (entsF 0 D).toArray D.length) := hw.tail.head.2
  have hkey : ∀ p ∈ D, keyOf Tryz.prog 9 (.string ⟨p.1.toArray⟩) = some (.string p.1) := fun p hp => by
    unfold keyOf mapKey
    rw [Tryz.underlying9]
    simp only
    rw [if_pos (show (⟨p.1.toArray⟩ : ByteArray).size ≤ maxLen by have := hk p hp; simp only [maxLen, ByteArray.size, List.size_toArray]; omega)]
  have hrd : ∀ x ∈ entsF 0 D, ∃ p ∈ D, WideElems.rd (H := Unit) Tryz.prog 9 (fun _ => some (.nil, [])) x = some (.string p.1, .nil) := fun x hx => by
    obtain ⟨p, hp, e⟩ := ents_key D 0 x hx
    refine ⟨p, hp, ?_⟩
    unfold WideElems.rd
    rw [e, hkey p hp]; rfl
  have Ft : WideElems.Fit (H := Unit) Tryz.prog 9 (fun _ => some (.nil, [])) (entsF 0 D).toArray D.length :=
    ⟨by have := entsF_length D 0; simp only [List.size_toArray, maxLen]; omega, stamped_ents D hn, fun x hx => by
      obtain ⟨p, _, e⟩ := hrd x (by simpa using hx)
      exact ⟨_, e⟩⟩
  have hown : w.ownsMap Tryz.prog 9 (fun _ => some (DataW.nil (H := Unit), [])) b D.length (.map (((entsF 0 D).toArray.toList.map (WideElems.rg Tryz.prog 9 fun _ => some (.nil, []))).foldr DataW.insert [])) :=
    ⟨_, _, hb, Ft, by have := entsF_length D 0; simp only [List.size_toArray]; omega, rfl⟩
  have hkeys : ∀ (E : List (List UInt8 × Value)) (i : Nat), (∀ p ∈ E, p ∈ D) → (((entsF i E).map (WideElems.rg (H := Unit) Tryz.prog 9 fun _ => some (.nil, []))).map fun p => strOf p.1) = E.map (·.1) := by
    intro E
    induction E with
    | nil => intro i _; rfl
    | cons p r ih =>
      intro i hE
      simp only [entsF, List.map_cons]
      rw [ih (i + 1) (fun q hq => hE q (List.mem_cons_of_mem _ hq))]
      congr 1
      unfold WideElems.rg WideElems.rd
      rw [hkey p (hE p List.mem_cons_self)]
      rfl
  have hperm : (strKeys (.map (((entsF 0 D).toArray.toList.map (WideElems.rg (H := Unit) Tryz.prog 9 fun _ => some (.nil, []))).foldr DataW.insert []))).Perm (D.map (·.1)) := by
    show (List.map _ _).Perm _
    refine ((WideShapes.sorted_perm _).map _).trans ?_
    rw [List.toList_toArray, hkeys D 0 (fun p hp => hp)]
  have hsize : Maps.size (DataW.map (((entsF 0 D).toArray.toList.map (WideElems.rg (H := Unit) Tryz.prog 9 fun _ => some (.nil, []))).foldr DataW.insert [])) = D.length := by
    unfold Maps.size
    simp only []
    rw [length_sorted]
    simp [entsF_length]
  have hseq : SeqGives Fence.wide 2 Tryz.prog 53 #[.pointer (some ⟨g, 0, none⟩)] encStr _ _ w :=
    AnyZ.keys_gives (ρ := Tryz.keysA_ren) { Tryz.keysA with } Fence.wide _ trivial rfl (by omega) g b D.length _ w hg.lt (by
      have := hg.cell 0
      simpa using this) hown
  have cS := AnyZ.sorted_in Tryz.sortedA Fence.wide 5 trivial trivial trivial trivial rfl (by omega) (Tryz.sortsA _) (enters_of Tryz.func50 (by kernel_rfl) rfl) 53 #[.pointer (some ⟨g, 0, none⟩)] trivial (enters_of Tryz.func53 (by kernel_rfl) rfl) _ _ (by rw [hsize]; unfold maxLen; omega) (by rw [hsize]; omega) w hseq
  change CallsIn _ _ Tryz.prog 24 _ _ _ at cS
  refine (callsIn_wide.1 cS).mono fun e w' ⟨v, ss, he, hS, ho, _, hbl⟩ => ?_
  have hp2 := hS.trans hperm
  have hT : ss.mergeSort (fun x y => decide (x ≤ y)) = setT (D.map (·.1)) :=
    (setT_uniq (sorted_nd (hp2.nodup_iff.2 hn)) fun x => by rw [List.mem_mergeSort]; exact hp2.mem_iff).symm
  rw [hT] at ho
  have hsl : ss.length = (setT (D.map (·.1))).length := by rw [← hT, List.length_mergeSort]
  rw [hsl] at ho
  have hgr : w.grownBy w' none := ⟨hbl.os, hbl.tape, hbl.output, hbl.size, fun k hk _ => hbl.block k hk⟩
  rcases ho.2 with ⟨rfl, h0⟩ | ⟨q, cap, cur, rfl, h1, h2, h3, h4, h5, h6⟩
  · have e0 : setT (D.map (·.1)) = [] := List.eq_nil_of_length_eq_zero (by omega)
    refine ⟨_, _, he, ⟨none, 0, by rw [e0]; rfl, rfl⟩, hw.cons_new hgr ⟨by rw [e0]; rfl, by rw [e0]; exact Nat.le_refl _, .inl rfl⟩ (.inl rfl)⟩
  · refine ⟨_, _, he, ⟨_, _, rfl, rfl⟩, hw.cons_new hgr ⟨ho.1, h3, .inr ⟨q, cur, rfl, Nat.le_trans hw.base h1, h2, h4, h5, h6⟩⟩ ?_⟩
    by_cases hc : cap = 0
    · left; simp [Ch.fp, hc]
    · right; exact ⟨q, by simp [Ch.fp, hc], h1⟩
end YtpamjobiohbibaaGreat
end Go.Proofs

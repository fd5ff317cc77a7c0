/-
  A walk by frames and pieces of memory: what the printed walks name. No condition.
-/
import Derived.Test.YtpamjobiohbibaaEngD
namespace Go.Proofs.Ytpamjobiohbibaa
open Go.RowKit
set_option linter.unusedVariables false
theorem own_to {w : World} {base : Nat} {e : TypeId} {v : Value} {n m : Nat} {xs ys : List Value} (h : w.ownsRow base e 1 v n xs) (hn : n = m) (hx : xs = ys) : w.ownsRow base e 1 v m ys := by subst hn; subst hx; exact h
/-- texts as values -/
def strs (l : List (List UInt8)) : List Value := l.map fun t => .string ⟨t.toArray⟩
@[simp] theorem strs_append (l k : List (List UInt8)) : strs (l ++ k) = strs l ++ strs k := by simp [strs]
@[simp] theorem strs_length (l : List (List UInt8)) : (strs l).length = l.length := by simp [strs]
theorem strs_one (l : List (List UInt8)) : ∀ u ∈ strs l, u.oneCell' = true := by
  intro u hu; obtain ⟨b, _, rfl⟩ := List.mem_map.1 hu; rfl
/-- numbers as values -/
def ints (k : IntKind) (l : List Int) : List Value := l.map (.int k)
@[simp] theorem ints_append (k : IntKind) (l r : List Int) : ints k (l ++ r) = ints k l ++ ints k r := by simp [ints]
@[simp] theorem ints_length (k : IntKind) (l : List Int) : (ints k l).length = l.length := by simp [ints]
theorem ints_one (k : IntKind) (l : List Int) : ∀ u ∈ ints k l, u.oneCell' = true := by
  intro u hu; obtain ⟨b, _, rfl⟩ := List.mem_map.1 hu; rfl
theorem w_i64 {x : Int} (h1 : -9223372036854775808 ≤ x) (h2 : x ≤ 9223372036854775807) : IntKind.i64.wrap x = x := by rw [IntKind.wrap_i64]; omega
theorem w_u64 {x : Int} (h1 : 0 ≤ x) (h2 : x < 18446744073709551616) : IntKind.u64.wrap x = x := by
  show x % 2 ^ 64 = x
  exact Int.emod_eq_of_lt h1 h2
theorem w_u8 {x : Int} (h1 : 0 ≤ x) (h2 : x < 256) : IntKind.u8.wrap x = x := by
  show x % 2 ^ 8 = x
  exact Int.emod_eq_of_lt h1 h2
theorem w_u16 {x : Int} (h1 : 0 ≤ x) (h2 : x < 65536) : IntKind.u16.wrap x = x := by
  show x % 2 ^ 16 = x
  exact Int.emod_eq_of_lt h1 h2
theorem int_to {k : IntKind} {a b : Int} (h : a = b) : some (Value.int k a) = some (.int k b) := by rw [h]
section
variable {C : Cx} {Q : Exit → Fr → List Ch → Prop} {fr fr' : Fr} {L L' : List Ch} {cd cd' : Code} {ops : Array Oper} {l : List Oper} {op : Op} {ty : TypeId} {pos : String} {af : Array Edge} {d : Nat} {v : Value}
variable {x y z : Operand} {k : IntKind} {m n : Int} {f : Ch → List Ch} {g o : Nat} {bt t e : TypeId} {cs : List Value}
def InJ (J : Fr → List Ch → Nat → Prop) (n : Nat) (Q : Exit → Fr → List Ch → Prop) : Exit → Fr → List Ch → Prop
  | .normal, fr, L => ∃ n', n' < n ∧ J fr L n'
  | e, fr, L => Q e fr L
theorem vc_loopJ (J : Fr → List Ch → Nat → Prop) (n0 : Nat) (h0 : J fr L n0) (round : ∀ n fr L, J fr L n → VC C cd (InJ J n Q) fr L) : VC C (.loop cd) Q fr L := fun a w ha hw => by
  refine wp_loop_ghost (fun n a w => ∃ fr L, J fr L n ∧ Agr C.N fr a ∧ SL C.B C.w0 L w) n0 ⟨fr, L, h0, ha, hw⟩ ?_
  rintro n a w ⟨fr, L, hJ, ha, hw⟩
  refine wp_mono (round n fr L hJ a w ha hw) fun e a w ⟨fr, L, ha, hs, hq⟩ => ?_
  cases e with
  | normal =>
    obtain ⟨n', k1, k2⟩ := hq
    exact ⟨n', k1, fr, L, k2, ha, hs⟩
  | _ => exact ⟨fr, L, ha, hs, hq⟩
theorem in_loop_ {J : Fr → List Ch → Nat → Prop} {n : Nat} (h : ∃ n', n' < n ∧ J fr L n') : InJ J n Q .normal fr L := h
theorem loop_exit {J : Fr → List Ch → Nat → Prop} {n i : Nat} (h : Q (.exit i) fr L) : InJ J n Q (.exit i) fr L := h
theorem loop_ret {J : Fr → List Ch → Nat → Prop} {n : Nat} (h : Q .ret fr L) : InJ J n Q .ret fr L := h
theorem then_exit {i : Nat} (h : Q (.exit i) fr L) : Then C cd Q (.exit i) fr L := h
theorem then_ret (h : Q .ret fr L) : Then C cd Q .ret fr L := h
def InM (J : Fr → List Ch → Prop) (Q : Exit → Fr → List Ch → Prop) : Exit → Fr → List Ch → Prop
  | .normal, fr, L => J fr L
  | e, fr, L => Q e fr L
/-- ways that meet: what holds of them all -/
theorem vc_seqJ (J : Fr → List Ch → Prop) (h1 : VC C cd (InM J Q) fr L) (h2 : ∀ fr L, J fr L → VC C cd' Q fr L) : VC C (.seq cd cd') Q fr L :=
  vc_seq fun a w ha hw => wp_mono (h1 a w ha hw) fun e a w ⟨fr, L, ha, hs, hq⟩ => by
    cases e with
    | normal => exact ⟨fr, L, ha, hs, h2 _ _ hq⟩
    | _ => exact ⟨fr, L, ha, hs, hq⟩
theorem in_join {J : Fr → List Ch → Prop} (h : J fr L) : InM J Q .normal fr L := h
theorem join_exit {J : Fr → List Ch → Prop} {i : Nat} (h : Q (.exit i) fr L) : InM J Q (.exit i) fr L := h
theorem join_ret {J : Fr → List Ch → Prop} (h : Q .ret fr L) : InM J Q .ret fr L := h
theorem in_exit {i id : Nat} (hi : Nat.beq i id = false) (h : Q (.exit i) fr L) : InB id Q (.exit i) fr L := in_ne hi h
theorem ret_drop {P : Program} {fn : Func} {R : Value → List Ch → Prop} {e : Exit} (hs : L'.Sublist L) (h : Ret P fn R e fr L') : Ret P fn R e fr L := by
  cases e <;> first
    | exact h
    | (intro B w0 a w ha hw; exact h B w0 a w ha (hw.sub hs))
theorem fn_walk {P : Program} {B : Nat} {w0 : World} {f : FuncId} {fn : Func} {c : Code} {args : List Value} {R : Value → List Ch → Prop} (hf : P.funcs[f]? = some fn) (N : Nat) (hN : fn.ntmps = N) (hb : fn.body = some c) (hl : Nat.ble args.length N = true) (fr0 : Fr) (hi : Ini N args fr0)
    (h : VC ⟨P, N, B, w0⟩ c (Ret P fn R) fr0 L) : Does P B w0 f args L R := by
  subst hN
  exact fn_of hf hb (Nat.le_of_ble_eq_true hl) fr0 hi h
theorem callable {P : Program} {f : FuncId} {fn : Func} (hf : P.funcs[f]? = some fn) (hn : (fn.name == "runtime.NumGoroutine") = false) (hb : fn.body.isSome = true) : Callable P f := by
  obtain ⟨c, hc⟩ := Option.isSome_iff_exists.1 hb
  exact ⟨fn, c, hf, hn, hc⟩
theorem bring1 {a b : Ch} (h : VL C ops Q l fr (b :: a :: L)) : VL C ops Q l fr (a :: b :: L) := vl_perm (.swap ..) h
theorem bring2 {a b c : Ch} (h : VL C ops Q l fr (c :: a :: b :: L)) : VL C ops Q l fr (a :: b :: c :: L) := vl_perm (((List.Perm.swap c b L).cons a).trans (.swap c a _)) h
theorem bring3 {a b c d : Ch} (h : VL C ops Q l fr (d :: a :: b :: c :: L)) : VL C ops Q l fr (a :: b :: c :: d :: L) := vl_perm ((((List.Perm.swap d c L).cons b).cons a).trans (((List.Perm.swap d b _).cons a).trans (.swap d a _))) h
theorem vc_bring1 {a b : Ch} (h : VC C cd Q fr (b :: a :: L)) : VC C cd Q fr (a :: b :: L) := vc_perm (.swap ..) h
theorem vc_bring2 {a b c : Ch} (h : VC C cd Q fr (c :: a :: b :: L)) : VC C cd Q fr (a :: b :: c :: L) := vc_perm (((List.Perm.swap c b L).cons a).trans (.swap c a _)) h
/-- a letter of a text -/
theorem det_at_str {s : List UInt8} {i : Nat} (ht : C.P.underlying t = some .string) (h : ev fr x = some (.string ⟨s.toArray⟩)) (h2 : ev fr y = some (.int k m)) (hm : m = (i : Int)) (hi : i < s.length) : Det C fr L (.index t x y) ty (.int .u8 ((s.getD i 0).toNat : Int)) :=
  det_index_str ht h h2 hm (by rw [List.getElem?_eq_getElem hi]; simp [List.getD, List.getElem?_eq_getElem hi])
section
variable {nn c j : Nat} {A : Option Addr}
theorem Bor.len {B : Nat} {w0 w : World} {L : List Ch} {size n : Nat} {v : Value} {xs : List Value} (h : Bor B w0 L size v n xs) (hw : SL B w0 L w) : xs.length = n * size := by
  obtain ⟨_, _, _, _, hl, _⟩ := h w hw
  exact hl
theorem det_load_u8 {b : List UInt8} (hs : isSc C.P t = true) (he : ev fr x = some (.pointer (A.map (·.add (j * 1))))) (hb : Bor C.B C.w0 L 1 (.slice A nn c) nn (bv b)) (hj : j < nn) : Det C fr L (.load t x) ty (.int .u8 ((b.getD j 0).toNat : Int)) := fun a w ha hw => by
  have hl := hb.len hw
  simp at hl
  rw [Nat.mul_one] at he
  refine det_load_row hs he hb (by omega) ?_ a w ha hw
  simp [bv, List.getD, List.getElem?_eq_getElem (show j < b.length by omega)]
theorem det_load_str {b : List (List UInt8)} (hs : isSc C.P t = true) (he : ev fr x = some (.pointer (A.map (·.add (j * 1))))) (hb : Bor C.B C.w0 L 1 (.slice A nn c) nn (strs b)) (hj : j < nn) : Det C fr L (.load t x) ty (.string ⟨(b.getD j []).toArray⟩) := fun a w ha hw => by
  have hl := hb.len hw
  simp at hl
  rw [Nat.mul_one] at he
  refine det_load_row hs he hb (by omega) ?_ a w ha hw
  simp [strs, List.getD, List.getElem?_eq_getElem (show j < b.length by omega)]
theorem det_load_int {b : List Int} {kk : IntKind} (hs : isSc C.P t = true) (he : ev fr x = some (.pointer (A.map (·.add (j * 1))))) (hb : Bor C.B C.w0 L 1 (.slice A nn c) nn (ints kk b)) (hj : j < nn) : Det C fr L (.load t x) ty (.int kk (b.getD j 0)) := fun a w ha hw => by
  have hl := hb.len hw
  simp at hl
  rw [Nat.mul_one] at he
  refine det_load_row hs he hb (by omega) ?_ a w ha hw
  simp [ints, List.getD, List.getElem?_eq_getElem (show j < b.length by omega)]
end
/-- 'append(s, v)' of one element of one cell -/
theorem eff_build1 {zv : Value} {bytes : Nat} (T : SlT C.P t e 1 bytes zv) (he : ev fr x = some v) (h1 : v.oneCell' = true) : Eff C fr L (.buildSlice t 1 #[(0, x)]) ty (fun p L' => ∃ A, p = .slice A 1 1 ∧ L' = .own e 1 A 1 1 [v] :: L) := fun a w ha hw d pos af gg => by
  obtain ⟨i, hi, hz, hsz, hby⟩ := T.hi
  have hv : v.cells = #[v] := by cases v <;> simp_all [Value.cells, Value.oneCell']
  have hzs := T.hz
  refine ⟨_, w.alloc (.cells #[v] e), _, .inl ?_, ⟨some ⟨w.heap.size, 0, none⟩, rfl, rfl⟩, hw.cons_new (World.grownBy_alloc w _ none) ⟨rfl, Nat.le_refl _, .inr ⟨_, _, rfl, hw.base, heap_alloc_new w _, by decide, rfl, rfl⟩⟩ (.inr ⟨w.heap.size, rfl, Nat.le_refl _⟩)⟩
  simp [execOp, Instr.buildSlice, run_underlying T.ht, sizeOf, typeInfo, zeroValue, hi, hz, hsz, ha.tmp he, Instr.fill, hv, hzs, newRow]
  simp [Array.range_succ, Array.range_zero']
theorem vl_push {zv : Value} {bytes d1 d2 : Nat} {ty1 ty2 : TypeId} {pos1 pos2 : String} {af1 af2 : Array Edge} {s : Operand} {A : Option Addr} {n c : Nat} {xs : List Value} (T : SlT C.P t e 1 bytes zv) (he : ev fr x = some v) (h1 : v.oneCell' = true) (hd1 : Nat.blt d1 C.N = true) (hd2 : Nat.blt d2 C.N = true)
    (hs : ev ((d1, .slice none 0 0) :: fr) s = some (.slice A n c)) (hsn : ∀ u, ev ((d1, u) :: fr) s = ev ((d1, .slice none 0 0) :: fr) s) (hl : Sel (.own e 1 A n c xs) L f) (hbytes : (n + 1) * bytes ≤ 140737488355328) (h63 : n + 1 ≤ 140737488355328)
    (kk : ∀ A1 A' c', VL C ops Q l ((d2, .slice A' (n + 1) c') :: (d1, .slice A1 1 1) :: fr) (f (.own e 1 A' (n + 1) c' (xs ++ [v])))) :
    VL C ops Q (⟨some d1, .buildSlice t 1 #[(0, x)], ty1, pos1, af1, none⟩ :: ⟨some d2, .call { callee := .builtin .append, args := #[s, .tmp d1], argTypes := #[t, t] }, ty2, pos2, af2, none⟩ :: l) fr L := by
  refine vl_eff (eff_build1 T he h1) hd1 ?_
  rintro _ _ ⟨A1, rfl, rfl⟩
  refine vl_eff (eff_app (m := 1) (news := [v]) T ((hsn _).trans hs) (.tl hl) (yv := .slice A1 1 1) (by simp [ev, look]) (Bor.own (List.Mem.head _)) (by simp [h1]) hbytes h63) hd2 ?_
  rintro _ _ ⟨A2, c2, rfl, rfl⟩
  intro a w ha hw
  exact kk A1 A2 c2 a w ha hw.tail
theorem bool_to {p q : Prop} [Decidable p] [Decidable q] (h : p ↔ q) : some (Value.bool (decide p)) = some (.bool (decide q)) := by rw [decide_eq_decide.2 h]
theorem bool_to_t {q : Prop} [Decidable q] (h : q) : some (Value.bool true) = some (.bool (decide q)) := by rw [decide_eq_true h]
theorem bool_to_f {q : Prop} [Decidable q] (h : ¬ q) : some (Value.bool false) = some (.bool (decide q)) := by rw [decide_eq_false h]
theorem bool_to_b {b : Bool} {q : Prop} [Decidable q] (h : b = true ↔ q) : some (Value.bool b) = some (.bool (decide q)) := by
  cases b
  · rw [decide_eq_false (by simpa using h)]
  · rw [decide_eq_true (by simpa using h)]
/-- ways within a region that meet at a test -/
theorem vl_cut (n d : Nat) (base : Fr) (p : Prop) [Decidable p] (hs : Sub fr base) (h1 : VL C ops (fun e fr L' => e = .normal ∧ L' = L ∧ Sub fr base ∧ look d fr = some (.bool (decide p))) (l.take n) fr L) (h2 : VL C ops Q (l.drop n) ((d, .bool (decide p)) :: base) L) : VL C ops Q l fr L := fun a w ha hw => by
  have hcat : ∀ (l1 l2 : List Oper) (a : Act) (w : World), wpList C.P ops (fun e a w => e = .normal ∧ wpList C.P ops (lift C Q) l2 a w) l1 a w → wpList C.P ops (lift C Q) (l1 ++ l2) a w := by
    intro l1 l2
    induction l1 with
    | nil => intro a w h; exact h.2
    | cons o l1 ih =>
      intro a w h
      rw [List.cons_append]
      unfold wpList at h ⊢
      split
      · rename_i hwt
        rw [if_pos hwt] at h
        rcases h with h | ⟨_, _, _, h, _⟩
        · refine .inl ?_
          unfold Oper.wp at h ⊢
          revert h
          generalize (execOp a.eval o).run C.P w = r
          intro h
          unfold Oper.upon at h ⊢
          split <;> simp only at h
          · exact ih _ _ h
          · exact ih _ _ h
          · exact ih _ _ h
          · refine Calls.mono h fun e w' he => ?_
            cases e with
            | returned v => exact ih _ _ he
            | panicked ch => cases he.1
            | outgrown => obtain ⟨_, _, h, _⟩ := he; cases h
          · exact Rows.mono h fun v w' he => ih _ _ he
          · cases h.1
        · cases h
      · rename_i hwt
        rw [if_neg hwt] at h
        exact ih _ _ h
  have := hcat (l.take n) (l.drop n) a w ?_
  · rwa [List.take_append_drop] at this
  · have hm : ∀ (l1 : List Oper) (a : Act) (w : World) {QQ QQ' : Exit → Act → World → Prop}, (∀ e a w, QQ e a w → QQ' e a w) → wpList C.P ops QQ l1 a w → wpList C.P ops QQ' l1 a w := by
      intro l1
      induction l1 with
      | nil => intro a w QQ QQ' hq h; exact hq _ _ _ h
      | cons o l1 ih =>
        intro a w QQ QQ' hq h
        unfold wpList at h ⊢
        split
        · rename_i hwt
          rw [if_pos hwt] at h
          rcases h with h | ⟨h1, a0, w0', h2⟩
          · refine .inl ?_
            unfold Oper.wp at h ⊢
            revert h
            generalize (execOp a.eval o).run C.P w = r
            intro h
            unfold Oper.upon at h ⊢
            split <;> simp only at h
            · exact ih _ _ hq h
            · exact ih _ _ hq h
            · exact ih _ _ hq h
            · refine Calls.mono h fun e w' he => ?_
              cases e with
              | returned v => exact ih _ _ hq he
              | panicked ch => exact hq _ _ _ he
              | outgrown => obtain ⟨a1, w1, h⟩ := he; exact ⟨a1, w1, hq _ _ _ h⟩
            · exact Rows.mono h fun v w' he => ih _ _ hq he
            · exact hq _ _ _ h
          · exact .inr ⟨h1, a0, w0', hq _ _ _ h2⟩
        · rename_i hwt
          rw [if_neg hwt] at h
          exact ih _ _ hq h
    refine hm _ _ _ ?_ (h1 a w ha hw)
    rintro e a w ⟨fr', L', ha', hw', rfl, rfl, hb, hd⟩
    refine ⟨rfl, h2 a w ⟨ha'.defers, ha'.size, fun t v ht => ?_⟩ hw'⟩
    unfold look at ht
    cases hbe : Nat.beq d t with
    | true =>
      have := Nat.eq_of_beq_eq_true hbe
      subst this
      rw [hbe] at ht
      simp only [cond_true, Option.some.injEq] at ht
      subst ht
      exact ha'.at_ _ _ hd
    | false =>
      rw [hbe] at ht
      exact ha'.at_ _ _ (hb.look _ _ ht)
theorem vl_cut_end {base : Fr} {d : Nat} {u : Value} (hb : Sub fr base) (hd : look d fr = some u) : VL C ops (fun e fr L' => e = .normal ∧ L' = L ∧ Sub fr base ∧ look d fr = some u) [] fr L := fun a w ha hw => wpList_nil ⟨fr, L, ha, hw, rfl, rfl, hb, hd⟩
theorem vq_cut {QF : Fr → Prop} (n d : Nat) (base : Fr) (p : Prop) [Decidable p] (hs : Sub fr base) (h1 : VQ C ops L (fun fr => Sub fr base ∧ look d fr = some (.bool (decide p))) (l.take n) fr) (h2 : VQ C ops L QF (l.drop n) ((d, .bool (decide p)) :: base)) : VQ C ops L QF l fr := fun a ha => by
  have hcat : ∀ (l1 l2 : List Oper) (a : Act) {QQ : Act → Prop}, wpQuiet C.P ops (SL C.B C.w0 L) (fun a => wpQuiet C.P ops (SL C.B C.w0 L) QQ l2 a) l1 a → wpQuiet C.P ops (SL C.B C.w0 L) QQ (l1 ++ l2) a := by
    intro l1 l2
    induction l1 with
    | nil => intro a QQ h; exact h
    | cons o l1 ih =>
      intro a QQ h
      rw [List.cons_append]
      unfold wpQuiet at h ⊢
      split
      · rename_i hw; rw [if_pos hw] at h; exact Oper.quiet_mono (fun a h => ih a h) h
      · rename_i hw; rw [if_neg hw] at h; exact ih _ h
  have hmono : ∀ (l : List Oper) (a : Act) {QQ QQ' : Act → Prop}, (∀ a, QQ a → QQ' a) → wpQuiet C.P ops (SL C.B C.w0 L) QQ l a → wpQuiet C.P ops (SL C.B C.w0 L) QQ' l a := by
    intro l
    induction l with
    | nil => intro a QQ QQ' hq h; exact hq _ h
    | cons o l ih =>
      intro a QQ QQ' hq h
      unfold wpQuiet at h ⊢
      split
      · rename_i hw; rw [if_pos hw] at h; exact Oper.quiet_mono (fun a h => ih a hq h) h
      · rename_i hw; rw [if_neg hw] at h; exact ih _ hq h
  have := hcat (l.take n) (l.drop n) a (QQ := fun a' => ∃ fr', Agr C.N fr' a' ∧ QF fr') (hmono _ _ (fun a h => ?_) (h1 a ha))
  · rwa [List.take_append_drop] at this
  · obtain ⟨fr', ha', hb, hd⟩ := h
    refine h2 a ⟨ha'.defers, ha'.size, fun t v ht => ?_⟩
    unfold look at ht
    cases hbe : Nat.beq d t with
    | true =>
      have := Nat.eq_of_beq_eq_true hbe
      subst this
      rw [hbe] at ht
      simp only [cond_true, Option.some.injEq] at ht
      subst ht
      exact ha'.at_ _ _ hd
    | false =>
      rw [hbe] at ht
      exact ha'.at_ _ _ (hb.look _ _ ht)
theorem vq_cut_end {base : Fr} {d : Nat} {u : Value} (hb : Sub fr base) (hd : look d fr = some u) : VQ C ops L (fun fr => Sub fr base ∧ look d fr = some u) [] fr := fun a ha => wpQuiet_nil ⟨fr, ha, hb, hd⟩
theorem det_notd {p : Prop} [Decidable p] {xt : TypeId} (h : ev fr x = some (.bool (decide p))) : Det C fr L (.unOp .not xt x) ty (.bool (decide (¬ p))) := fun a w ha hw d pos af g => by
  have e : (!decide p) = decide (¬ p) := by by_cases hp : p <;> simp [hp]
  rw [← e]
  exact det_not h a w ha hw d pos af g
theorem det_conv_str {s t : TypeId} {b : ByteArray} (hs : C.P.underlying s = some .string) (ht : C.P.underlying t = some .string) (h : ev fr x = some (.string b)) : Det C fr L (.convert s t x) ty (.string b) := fun a w ha hw d pos af g => by
  simp [execOp, ha.tmp h, convert, run_underlying hs, run_underlying ht]
theorem eff_alloc_z {zv : Value} (hz : (C.P.info? e).bind (·.zero) = some zv) (hc : zv.cells = cs.toArray) : Eff C fr L (.alloc e) ty (fun p L' => ∃ g, p = .pointer (some ⟨g, 0, none⟩) ∧ L' = .blk g e cs :: L) := by
  cases hi : C.P.info? e with
  | none => rw [hi] at hz; cases hz
  | some i =>
    rw [hi] at hz
    exact eff_alloc hi hz hc
theorem vl_push_nil {zv : Value} {bytes d1 d2 : Nat} {ty1 ty2 : TypeId} {pos1 pos2 : String} {af1 af2 : Array Edge} {s : Operand} {A : Option Addr} (T : SlT C.P t e 1 bytes zv) (he : ev fr x = some v) (h1 : v.oneCell' = true) (hd1 : Nat.blt d1 C.N = true) (hd2 : Nat.blt d2 C.N = true)
    (hs : ev ((d1, .slice none 0 0) :: fr) s = some (.slice A 0 0)) (hsn : ∀ u, ev ((d1, u) :: fr) s = ev ((d1, .slice none 0 0) :: fr) s) (hbytes : 1 * bytes ≤ 140737488355328)
    (kk : ∀ A1 A' c', VL C ops Q l ((d2, .slice A' 1 c') :: (d1, .slice A1 1 1) :: fr) (.own e 1 A' 1 c' [v] :: L)) :
    VL C ops Q (⟨some d1, .buildSlice t 1 #[(0, x)], ty1, pos1, af1, none⟩ :: ⟨some d2, .call { callee := .builtin .append, args := #[s, .tmp d1], argTypes := #[t, t] }, ty2, pos2, af2, none⟩ :: l) fr L := by
  refine vl_eff (eff_build1 T he h1) hd1 ?_
  rintro _ _ ⟨A1, rfl, rfl⟩
  refine vl_eff (eff_app_nil (m := 1) (news := [v]) T ((hsn _).trans hs) (yv := .slice A1 1 1) (by simp [ev, look]) (Bor.own (List.Mem.head _)) (by simp [h1]) hbytes (by omega)) hd2 ?_
  rintro _ _ ⟨A2, c2, rfl, rfl⟩
  intro a w ha hw
  exact kk A1 A2 c2 a w ha (hw.sub (.cons_cons _ (.cons _ (.refl _))))
theorem det_len_s {t : TypeId} {s : List UInt8} (ht : C.P.underlying t = some .string) (h : ev fr x = some (.string ⟨s.toArray⟩)) : Det C fr L (.call { callee := .builtin .len, args := #[x], argTypes := #[t] }) ty (.int .i64 (s.length : Int)) := by
  have := det_len_str (L := L) (ty := ty) ht h
  rwa [size_mk] at this
theorem perm_own {e : TypeId} {size n n' c : Nat} {A : Option Addr} {xs ys : List Value} (hn : n = n') (h : xs = ys) : (Ch.own e size A n c xs :: L).Perm (Ch.own e size A n' c ys :: L) := by subst hn; subst h; exact .refl _
theorem take_getD {α : Type} {l : List α} {k : Nat} (h : k < l.length) (d : α) : l.take (k + 1) = l.take k ++ [l.getD k d] := by
  rw [List.take_succ_eq_append_getElem h]; simp [List.getD, List.getElem?_eq_getElem h]
theorem drop_getD {α : Type} {l : List α} {k : Nat} (h : k < l.length) (d : α) : l.drop k = l.getD k d :: l.drop (k + 1) := by
  rw [List.drop_eq_getElem_cons h]; simp [List.getD, List.getElem?_eq_getElem h]
theorem getD_mem {α : Type} {l : List α} {k : Nat} (h : k < l.length) (d : α) : l.getD k d ∈ l := by
  simp [List.getD, List.getElem?_eq_getElem h]
theorem Does.of_own {P : Program} {B : Nat} {w0 : World} {ff : FuncId} {args : List Value} {size n : Nat} {xs : List Value} (h : ∀ w, SL B w0 L w → Calls P ff args.toArray w fun e' w' => ∃ v, e' = .returned v ∧ w'.ownsRow w.heap.size e size v n xs ∧ Below w.heap.size w w') :
    Does P B w0 ff args L (fun r L' => ∃ A c, r = .slice A n c ∧ L' = .own e size A n c xs :: L) := fun w hw => (h w hw).mono fun e' w' ⟨v, he, ho, hb⟩ => by
  have hg : w.grownBy w' none := ⟨hb.os, hb.tape, hb.output, hb.size, fun k hk _ => hb.block k hk⟩
  rcases ho.2 with ⟨rfl, rfl⟩ | ⟨g, cap, cur, rfl, h1, h2, h3, h4, h5, h6⟩
  · exact ⟨_, _, he, ⟨none, 0, rfl, rfl⟩, hw.cons_new hg ⟨ho.1, Nat.le_refl _, .inl rfl⟩ (.inl rfl)⟩
  · refine ⟨_, _, he, ⟨_, _, rfl, rfl⟩, hw.cons_new hg ⟨ho.1, h3, .inr ⟨g, cur, rfl, Nat.le_trans hw.base h1, h2, h4, h5, h6⟩⟩ ?_⟩
    by_cases hc : cap = 0
    · left; simp [Ch.fp, hc]
    · right; exact ⟨g, by simp [Ch.fp, hc], h1⟩
/-- a callee that turns nothing that is there is walked from its own world on -/
theorem Does.pure {P : Program} {B : Nat} {w0 : World} {ff : FuncId} {args : List Value} {R : Value → List Ch → Prop} (h : ∀ w, SL B w0 L w → Does P w.heap.size w ff args [] R) : Does P B w0 ff args L (fun r L' => ∃ M, R r M ∧ L' = M ++ L) := fun w hw =>
  (h w hw w (SL.nil_ w)).mono fun e w' ⟨v, M, he, hR, hs⟩ => by
    have hw' := hw.pure_call hs.below
    refine ⟨v, _, he, ⟨M, hR, rfl⟩, hw'.below, hw'.base, fun c hc => ?_, List.pairwise_append.2 ⟨hs.apart, hw'.apart, fun c hc d hd => ?_⟩⟩
    · rcases List.mem_append.1 hc with hc | hc
      · have := hs.all c hc
        cases c with
        | own e size A n cc xs =>
          obtain ⟨k1, k2, k3⟩ := this
          exact ⟨k1, k2, k3.imp id fun ⟨g, cur, q1, q2, q3⟩ => ⟨g, cur, q1, Nat.le_trans hw.base q2, q3⟩⟩
        | blk g t cs => exact ⟨Nat.le_trans hw.base this.1, this.2⟩
        | obj g o => exact ⟨Nat.le_trans hw.base this.1, this.2⟩
      · exact hw'.all c hc
    · by_cases hn : c.fp = none
      · exact .inl hn
      · refine .inr fun e => ?_
        obtain ⟨g, hg⟩ := Option.ne_none_iff_exists'.1 hn
        have h1 := ((hs.all c hc).lt hg).1
        have h2 := ((hw.all d hd).lt (e.symm.trans hg)).2
        omega
theorem vc_decideU {tt : Nat} {p : Prop} [Decidable p] (hc : look tt fr = some (.bool (decide p))) (ht : p → VC C cd Q ((tt, .bool true) :: fr) L) (hf : ¬ p → VC C cd' Q ((tt, .bool false) :: fr) L) : VC C (.cond (.tmp tt) cd cd') Q fr L := fun a w ha hw =>
  vc_decide (C := C) (Q := Q) (fr := fr) (c := .tmp tt) hc (fun h a w ha hw => ht h a w (ha.bool hc (decide_eq_true h)) hw) (fun h a w ha hw => hf h a w (ha.bool hc (decide_eq_false h)) hw) a w ha hw
theorem vc_condU {tt : Nat} {b : Bool} (hc : look tt fr = some (.bool b)) (ht : b = true → VC C cd Q ((tt, .bool true) :: fr) L) (hf : b = false → VC C cd' Q ((tt, .bool false) :: fr) L) : VC C (.cond (.tmp tt) cd cd') Q fr L := fun a w ha hw =>
  vc_cond (C := C) (Q := Q) (fr := fr) (c := .tmp tt) hc (fun h a w ha hw => ht h a w (ha.bool hc h) hw) (fun h a w ha hw => hf h a w (ha.bool hc h) hw) a w ha hw
/-- what is owned holds what is named, and more -/
def Wk (L L' : List Ch) : Prop := ∃ M, L.Perm (L' ++ M)
theorem Wk.refl (L : List Ch) : Wk L L := ⟨[], by rw [List.append_nil]⟩
theorem Wk.of_perm (h : L.Perm L') : Wk L L' := ⟨[], by rwa [List.append_nil]⟩
theorem Wk.skip {c : Ch} (h : Wk L L') : Wk (c :: L) L' := by
  obtain ⟨M, h⟩ := h
  exact ⟨c :: M, (h.cons c).trans (List.perm_middle.symm)⟩
theorem Wk.cons {c : Ch} (h : Wk L L') : Wk (c :: L) (c :: L') := by
  obtain ⟨M, h⟩ := h
  exact ⟨M, h.cons c⟩
theorem Wk.swap {a b : Ch} (h : Wk (b :: a :: L) L') : Wk (a :: b :: L) L' := by
  obtain ⟨M, h⟩ := h
  exact ⟨M, (List.Perm.swap b a L).trans h⟩
theorem Wk.trans {L'' : List Ch} (h : Wk L L') (k : Wk L' L'') : Wk L L'' := by
  obtain ⟨M, h⟩ := h
  obtain ⟨N, k⟩ := k
  exact ⟨N ++ M, h.trans ((k.append_right M).trans (by rw [List.append_assoc]))⟩
theorem Wk.sl {B : Nat} {w0 w : World} (h : Wk L L') (hs : SL B w0 L w) : SL B w0 L' w := by
  obtain ⟨M, h⟩ := h
  exact (hs.perm h).sub (List.sublist_append_left _ _)
theorem vc_wk (h : Wk L L') (k : VC C cd Q fr L') : VC C cd Q fr L := fun a w ha hw => k a w ha (h.sl hw)
theorem vl_wk (h : Wk L L') (k : VL C ops Q l fr L') : VL C ops Q l fr L := fun a w ha hw => k a w ha (h.sl hw)
theorem wk_own {e : TypeId} {size n n' c : Nat} {A : Option Addr} {xs ys : List Value} (hn : n = n') (h : xs = ys) (t : Wk L L') : Wk (Ch.own e size A n c xs :: L) (Ch.own e size A n' c ys :: L') := by subst hn; subst h; exact t.cons
theorem wk_blk {g : Nat} {t : TypeId} {xs ys : List Value} (h : xs = ys) (k : Wk L L') : Wk (Ch.blk g t xs :: L) (Ch.blk g t ys :: L') := by subst h; exact k.cons
theorem ret_wk {P : Program} {fn : Func} {R : Value → List Ch → Prop} {ee : Exit} (hs : Wk L L') (h : Ret P fn R ee fr L') : Ret P fn R ee fr L := by
  cases ee <;> first
    | exact h
    | (intro B w0 a w ha hw; exact h B w0 a w ha (hs.sl hw))
end
end Go.Proofs.Ytpamjobiohbibaa

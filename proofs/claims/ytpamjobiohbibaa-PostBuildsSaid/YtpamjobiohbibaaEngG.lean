/-
  A walk by frames and pieces of memory: empty literals, elements of several cells, calls of values, what a borrowed row tells. No condition.
-/
import Derived.Test.YtpamjobiohbibaaEngF
import Derived.Lib.SliceRun
namespace Go.Proofs.Ytpamjobiohbibaa
open Go.RowKit
set_option linter.unusedVariables false
section
variable {C : Cx} {Q : Exit → Fr → List Ch → Prop} {fr fr' : Fr} {L L' : List Ch} {cd : Code} {ops : Array Oper} {l : List Oper} {op : Op} {ty : TypeId} {pos : String} {af : Array Edge} {d : Nat} {v : Value}
variable {x y z : Operand} {k : IntKind} {m n : Int} {f : Ch → List Ch} {g o : Nat} {bt t e : TypeId} {cs : List Value}
/-- '[]T{}' -/
theorem eff_build_empty {size bytes : Nat} {zv : Value} (T : SlT C.P t e size bytes zv) : Eff C fr L (.buildSlice t 0 #[]) ty (fun p L' => ∃ A, p = .slice A 0 0 ∧ L' = .own e size A 0 0 [] :: L) := fun a w ha hw d pos af gg => by
  obtain ⟨i, hi, hz, hsz, hby⟩ := T.hi
  subst hsz
  refine ⟨.slice (some ⟨w.heap.size, 0, none⟩) 0 0, w.alloc (.cells #[] e), _, .inl ?_, ⟨some ⟨w.heap.size, 0, none⟩, rfl, rfl⟩, hw.cons_new (World.grownBy_alloc w _ none) ⟨by simp, Nat.le_refl _, .inl rfl⟩ (.inl rfl)⟩
  simp [execOp, Instr.buildSlice, run_underlying T.ht, sizeOf, typeInfo, hi, Instr.fill, newRow]
  rw [show Array.range 0 = #[] from by simp [Array.range], Array.map_empty]
theorem fold_set : ∀ (us pre : List Value) (cells : Array Value), pre.length + us.length = cells.size → (∀ j, j < pre.length → cells[j]? = pre[j]?) → (us.zipIdx pre.length).foldl (fun cs (c, j) => cs.setIfInBounds j c) cells = (pre ++ us).toArray
  | [], pre, cells, h, hp => by
    simp only [List.zipIdx_nil, List.foldl_nil, List.append_nil]
    simp at h
    apply Array.ext
    · simp [h]
    · intro j h1 h2
      have := hp j (by simpa using h2)
      rw [Array.getElem?_eq_getElem h1] at this
      simp at h2
      rw [List.getElem?_eq_getElem h2] at this
      simpa using this
  | u :: us, pre, cells, h, hp => by
    rw [List.zipIdx_cons, List.foldl_cons]
    simp only [List.length_cons] at h
    have := fold_set us (pre ++ [u]) (cells.setIfInBounds pre.length u) (by simp; omega) (fun j hj => by
      simp at hj
      rw [Array.getElem?_setIfInBounds]
      by_cases hjp : pre.length = j
      · subst hjp
        simp
        omega
      · rw [if_neg hjp, hp j (by omega), List.getElem?_append_left (by omega)])
    simpa using this
theorem fill_one {size : Nat} {v : Value} {us : List Value} (hv : v.cells = us.toArray) (hl : us.length = size) (Z : Array Value) (hZ : Z.size = size) : Instr.fill (fun i => some (i * size, size)) Z [(0, v)] = some us.toArray := by
  have h := fold_set us [] Z (by simpa [hZ] using hl) (by simp)
  simp only [List.length_nil, List.nil_append] at h
  simp only [Instr.fill, hv, Nat.zero_mul, Nat.zero_add, List.size_toArray, hl]
  simp [hZ]
  exact h
/-- a new row of one element of several cells -/
theorem eff_build1s {size bytes : Nat} {zv : Value} {us : List Value} (T : SlT C.P t e size bytes zv) (he : ev fr x = some v) (hv : v.cells = us.toArray) (hl : us.length = size) (hsm : size ≤ 1000) : Eff C fr L (.buildSlice t 1 #[(0, x)]) ty (fun p L' => ∃ A, p = .slice A 1 1 ∧ L' = .own e size A 1 1 us :: L) := by
  obtain ⟨i, hi, hz, hsz, hby⟩ := T.hi
  exact eff_buildSlice (parts := [(0, x)]) (us := [(0, v)]) (zv := zv) T.ht (by rw [hi]; simp [hsz]) T.hs (by omega) (by omega) (by rw [hi]; simpa using hz) (by simp [he]) (fill_one hv hl _ (by simp)) (by omega)
theorem vl_pushs {size bytes d1 d2 : Nat} {zv : Value} {ty1 ty2 : TypeId} {pos1 pos2 : String} {af1 af2 : Array Edge} {s : Operand} {A : Option Addr} {n c : Nat} {xs us : List Value} (T : SlT C.P t e size bytes zv) (he : ev fr x = some v) (hv : v.cells = us.toArray) (hul : us.length = size) (hsm : size ≤ 1000) (h1 : ∀ u ∈ us, u.oneCell' = true) (hd1 : Nat.blt d1 C.N = true) (hd2 : Nat.blt d2 C.N = true)
    (hs : ev ((d1, .slice none 0 0) :: fr) s = some (.slice A n c)) (hsn : ∀ u, ev ((d1, u) :: fr) s = ev ((d1, .slice none 0 0) :: fr) s) (hl : Sel (.own e size A n c xs) L f) (hbytes : (n + 1) * bytes ≤ 140737488355328) (h63 : n + 1 ≤ 140737488355328)
    (kk : ∀ A1 A' c', VL C ops Q l ((d2, .slice A' (n + 1) c') :: (d1, .slice A1 1 1) :: fr) (f (.own e size A' (n + 1) c' (xs ++ us)))) :
    VL C ops Q (⟨some d1, .buildSlice t 1 #[(0, x)], ty1, pos1, af1, none⟩ :: ⟨some d2, .call { callee := .builtin .append, args := #[s, .tmp d1], argTypes := #[t, t] }, ty2, pos2, af2, none⟩ :: l) fr L := by
  refine vl_eff (eff_build1s T he hv hul hsm) hd1 ?_
  rintro _ _ ⟨A1, rfl, rfl⟩
  refine vl_eff (eff_app (m := 1) (news := us) T ((hsn _).trans hs) (.tl hl) (yv := .slice A1 1 1) (by simp [ev, look]) (Bor.own (List.Mem.head _)) h1 hbytes h63) hd2 ?_
  rintro _ _ ⟨A2, c2, rfl, rfl⟩
  intro a w ha hw
  exact kk A1 A2 c2 a w ha hw.tail
/-- what a borrowed row tells of its numbers -/
theorem vc_bor {size nn c : Nat} {A : Option Addr} {xs : List Value} (hb : Bor C.B C.w0 L size (.slice A nn c) nn xs) (h : nn ≤ c → xs.length = nn * size → VC C cd Q fr L) : VC C cd Q fr L := fun a w ha hw => by
  obtain ⟨A', c', hv, hc, hl, _⟩ := hb w hw
  injection hv with _ _ h3
  subst h3
  exact h hc hl a w ha hw
theorem vl_bor {size nn c : Nat} {A : Option Addr} {xs : List Value} (hb : Bor C.B C.w0 L size (.slice A nn c) nn xs) (h : nn ≤ c → xs.length = nn * size → VL C ops Q l fr L) : VL C ops Q l fr L := fun a w ha hw => by
  obtain ⟨A', c', hv, hc, hl, _⟩ := hb w hw
  injection hv with _ _ h3
  subst h3
  exact h hc hl a w ha hw
theorem Does.bor {P : Program} {B : Nat} {w0 : World} {ff : FuncId} {args : List Value} {R : Value → List Ch → Prop} {size nn c : Nat} {A : Option Addr} {xs : List Value} (hb : Bor B w0 L size (.slice A nn c) nn xs) (h : nn ≤ c → xs.length = nn * size → Does P B w0 ff args L R) : Does P B w0 ff args L R := fun w hw => by
  obtain ⟨A', c', hv, hc, hl, _⟩ := hb w hw
  injection hv with _ _ h3
  subst h3
  exact h hc hl w hw
theorem vl_callv0 {ff : FuncId} {gg : Operand} {as : List Operand} {ats : Array TypeId} {vs fst cap : List Value} {R : Value → List Ch → Prop} (hc : Callable C.P ff) (hg : ev fr gg = some (.func (.func ff) fst.toArray cap.toArray)) (he : evs fr as = some vs) (h : Does C.P C.B C.w0 ff (fst ++ vs ++ cap) L R)
    (k : ∀ v L', R v L' → VL C ops Q l fr L') : VL C ops Q (⟨none, .call { callee := .value gg, args := as.toArray, argTypes := ats }, ty, pos, af, none⟩ :: l) fr L := fun a w ha hw =>
  wpList_plain rfl fun K hK => by
    unfold Oper.wp
    rw [execOp_callv hc (ha.tmp hg), ha.evs he]
    simp only [List.append_toArray]
    refine Calls.mono (h w hw) fun e w' ⟨v, L', he, hR, hs⟩ => ?_
    subst he
    exact hK _ _ (k _ _ hR _ _ ha hs)
theorem det_sl_nil {A : Option Addr} {nn c : Nat} {xt yt : TypeId} (ht : C.P.underlying xt = some (.slice e)) (h1 : ev fr x = some (.slice A nn c)) (h2 : ev fr y = some (.slice none 0 0)) : Det C fr L (.binOp .eql xt x y yt) ty (.bool A.isNone) := fun a w ha hw d pos af g => by
  have he : (eqGuard .eql xt x y (.slice A nn c) (.slice none 0 0)).run C.P w = .ok () w := by simp [eqGuard]
  simp only [execOp, ha.tmp h1, ha.tmp h2, Sem.run_bind, he, Lib.run_eql_slice_nil w xt e A nn c 0 0 ht, Result.andThen_ok, Sem.run_pure]
end
def layz (zs : List Value) : List (Nat × Value) → List Value
  | [] => zs
  | (o, v) :: r => layz (zs.take o ++ (v.cells.toList ++ zs.drop (o + v.cells.size))) r
/-- a struct by value of parts that don't cover it -/
theorem det_buildp {C : Cx} {fr : Fr} {L : List Ch} {ty t : TypeId} {parts : List (Nat × Operand)} (us : List (Nat × Value)) (zs : List Value) (os : List Nat) (cs : List Value) (hp : parts.map (fun p => (p.1, ev fr p.2)) = us.map (fun p => (p.1, some p.2))) (hcs : layz zs (os.zip (us.map (·.2))) = cs) (hb : C.P.built t us = some cs.toArray) :
    Det C fr L (.build t parts.toArray) ty (.agg cs.toArray) := det_buildx us cs hp hb
theorem ret_nil_row {P : Program} {fn : Func} {R : Value → List Ch → Prop} {ee : Exit} {fr : Fr} {L : List Ch} (e : TypeId) (size : Nat) (A : Option Addr) (h : Ret P fn R ee fr (.own e size A 0 0 [] :: L)) : Ret P fn R ee fr L := by
  cases ee <;> first
    | exact h
    | (intro B w0 a w ha hw; exact h B w0 a w ha (hw.nil_row e size A))
theorem sl_to {A : Option Addr} {n m c : Nat} (h : n = m) : some (Value.slice A n c) = some (.slice A m c) := by rw [h]
/-- a contract whose first two pieces change places -/
theorem swp {a b : Ch} {L : List Ch} : (a :: b :: L).Perm (b :: a :: L) := .swap b a L
theorem Does.frame_drop {P : Program} {B : Nat} {w0 : World} {ff : FuncId} {args : List Value} {L M : List Ch} {R : Value → List Ch → Prop} (hs : M.Sublist L) (h : Does P B w0 ff args M R) : Does P B w0 ff args L R := fun w hw => h w (hw.sub hs)
/-- a contract that leaves all pieces, from one over the world -/
theorem Does.of_same {P : Program} {B : Nat} {w0 : World} {ff : FuncId} {args : List Value} {L : List Ch} {v : Value} (h : ∀ w, SL B w0 L w → Calls P ff args.toArray w fun e w' => e = .returned v ∧ w = w') : Does P B w0 ff args L (fun r L' => r = v ∧ L' = L) := fun w hw =>
  (h w hw).mono fun e w' ⟨he, hw'⟩ => by subst hw'; exact ⟨v, L, he, ⟨rfl, rfl⟩, hw⟩
theorem st_callv {C : Cx} {ops : Array Oper} {S : List Ch} {Q : Exit → Fr → List Ch → Prop} {fuel : Nat} {li : Array Bool} {fr : Fr} {L : List Ch} {d : Nat} {ty : TypeId} {pos : String} {af : Array Edge} {i : Nat} {ff : FuncId} {gg : Operand} {as : List Operand} {ats : Array TypeId} {vs fst cap : List Value} {R : Value → List Ch → Prop} {g : Option (Nat × Bool)} (ho : ops[i]? = some ⟨some d, .call { callee := .value gg, args := as.toArray, argTypes := ats }, ty, pos, af, g⟩) (hg : Gd ops fr g) (hc : Callable C.P ff) (hgg : ev fr gg = some (.func (.func ff) fst.toArray cap.toArray)) (he : evs fr as = some vs) (h : Does C.P C.B C.w0 ff (fst ++ vs ++ cap) L R) (hd : Nat.blt d C.N = true) (hS : ∀ v L', R v L' → S.Sublist L')
    (k : ∀ v L', R v L' → VH C ops S Q fuel (li.setIfInBounds i true) ((d, v) :: fr) L') : Step C ops S Q fuel li fr L i := fun a w ha hw _ => by
  unfold wpOp
  simp only [ho]
  rw [if_pos (hg.wanted ha)]
  refine .inl ?_
  unfold Oper.wp
  rw [execOp_callv hc (ha.tmp hgg), ha.evs he]
  simp only [List.append_toArray]
  refine Calls.mono (h w hw) fun e w' ⟨v, L', he, hR, hs⟩ => ?_
  subst he
  have hs2 := hs.sub (hS v L' hR)
  exact ⟨hs2, k _ _ hR _ _ (ha.put hd _) hs hs2⟩
end Go.Proofs.Ytpamjobiohbibaa

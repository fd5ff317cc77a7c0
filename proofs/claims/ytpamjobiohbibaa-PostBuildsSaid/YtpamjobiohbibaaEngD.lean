/-
  A walk by frames and pieces of memory: slices of slices and of texts, texts compared and joined, make, stores into rows; regions that draw their order. No condition.
-/
import Derived.Test.YtpamjobiohbibaaEngC
namespace Go.Proofs.Ytpamjobiohbibaa
open Go.RowKit
set_option linter.unusedVariables false
section
variable {C : Cx} {Q : Exit → Fr → List Ch → Prop} {fr fr' : Fr} {L L' : List Ch} {ops : Array Oper} {l : List Oper} {op : Op} {ty : TypeId} {pos : String} {af : Array Edge} {d : Nat} {v : Value}
variable {x y z : Operand} {k : IntKind} {m n : Int} {f : Ch → List Ch} {g o : Nat} {bt t e : TypeId} {cs : List Value}
theorem opt_add0 (A : Option Addr) : A.map (·.add 0) = A := by cases A <;> rfl
theorem det_slice_lo {A : Option Addr} {nn c i size : Nat} (ht : C.P.underlying t = some (.slice e)) (hz : (C.P.info? e).map (·.size) = some size) (he : ev fr x = some (.slice A nn c)) (hy : ev fr y = some (.int k m)) (hm : m = (i : Int)) (hi : i ≤ nn) :
    Det C fr L (.slice t x (some y) none none) ty (.slice (if c = i then A else A.map (·.add (i * size))) (nn - i) (c - i)) := fun a w ha hw d pos af gg => by
  subst hm
  simp [execOp, Instr.sliceAt, Instr.slice, Instr.sliceBounds, Instr.sliceBound, asIntOf, run_underlying ht, ha.tmp he, ha.tmp hy, hi, isSz hz]
theorem det_slice_hi {A : Option Addr} {nn c i size : Nat} (ht : C.P.underlying t = some (.slice e)) (hz : (C.P.info? e).map (·.size) = some size) (he : ev fr x = some (.slice A nn c)) (hy : ev fr y = some (.int k m)) (hm : m = (i : Int)) (hi : i ≤ c) :
    Det C fr L (.slice t x none (some y) none) ty (.slice A i c) := fun a w ha hw d pos af gg => by
  subst hm
  simp [execOp, Instr.sliceAt, Instr.slice, Instr.sliceBounds, Instr.sliceBound, asIntOf, run_underlying ht, ha.tmp he, ha.tmp hy, hi, isSz hz, opt_add0]
theorem det_slice_both {A : Option Addr} {nn c i j size : Nat} {k' : IntKind} (ht : C.P.underlying t = some (.slice e)) (hz : (C.P.info? e).map (·.size) = some size) (he : ev fr x = some (.slice A nn c)) (hy : ev fr y = some (.int k m)) (hm : m = (i : Int)) (hz2 : ev fr z = some (.int k' n)) (hn : n = (j : Int)) (hij : i ≤ j) (hj : j ≤ c) :
    Det C fr L (.slice t x (some y) (some z) none) ty (.slice (if c = i then A else A.map (·.add (i * size))) (j - i) (c - i)) := fun a w ha hw d pos af gg => by
  subst hm
  subst hn
  simp [execOp, Instr.sliceAt, Instr.slice, Instr.sliceBounds, Instr.sliceBound, asIntOf, run_underlying ht, ha.tmp he, ha.tmp hy, ha.tmp hz2, hij, hj, isSz hz]
/-- 's[:0:0]' -/
theorem det_slice_00 {A : Option Addr} {nn c size : Nat} {k' : IntKind} (ht : C.P.underlying t = some (.slice e)) (hz : (C.P.info? e).map (·.size) = some size) (he : ev fr x = some (.slice A nn c)) (hy : ev fr y = some (.int k 0)) (hz2 : ev fr z = some (.int k' 0)) :
    Det C fr L (.slice t x none (some y) (some z)) ty (.slice A 0 0) := fun a w ha hw d pos af gg => by
  simp [execOp, Instr.sliceAt, Instr.slice, Instr.sliceBounds, Instr.sliceBound, asIntOf, run_underlying ht, ha.tmp he, ha.tmp hy, ha.tmp hz2, isSz hz]
theorem extract_mk (s : List UInt8) (i j : Nat) : (⟨s.toArray⟩ : ByteArray).extract i j = ⟨((s.take j).drop i).toArray⟩ := by
  apply ByteArray.ext
  rw [ByteArray.data_extract]
  simp [List.extract_eq_take_drop, List.drop_take]
theorem size_mk (s : List UInt8) : (⟨s.toArray⟩ : ByteArray).size = s.length := by simp [ByteArray.size]
theorem det_str_lo {s : List UInt8} {i : Nat} (ht : C.P.underlying t = some .string) (he : ev fr x = some (.string ⟨s.toArray⟩)) (hy : ev fr y = some (.int k m)) (hm : m = (i : Int)) (hi : i ≤ s.length) :
    Det C fr L (.slice t x (some y) none none) ty (.string ⟨(s.drop i).toArray⟩) := fun a w ha hw d pos af gg => by
  subst hm
  have h1 : s.take s.length = s := List.take_length
  simp [execOp, Instr.sliceAt, Instr.slice, Instr.sliceBounds, Instr.sliceBound, asIntOf, run_underlying ht, ha.tmp he, ha.tmp hy, size_mk, hi, extract_mk]
theorem det_str_hi {s : List UInt8} {i : Nat} (ht : C.P.underlying t = some .string) (he : ev fr x = some (.string ⟨s.toArray⟩)) (hy : ev fr y = some (.int k m)) (hm : m = (i : Int)) (hi : i ≤ s.length) :
    Det C fr L (.slice t x none (some y) none) ty (.string ⟨(s.take i).toArray⟩) := fun a w ha hw d pos af gg => by
  subst hm
  simp [execOp, Instr.sliceAt, Instr.slice, Instr.sliceBounds, Instr.sliceBound, asIntOf, run_underlying ht, ha.tmp he, ha.tmp hy, size_mk, hi, extract_mk]
theorem det_str_both {s : List UInt8} {i j : Nat} {k' : IntKind} (ht : C.P.underlying t = some .string) (he : ev fr x = some (.string ⟨s.toArray⟩)) (hy : ev fr y = some (.int k m)) (hm : m = (i : Int)) (hz : ev fr z = some (.int k' n)) (hn : n = (j : Int)) (hij : i ≤ j) (hj : j ≤ s.length) :
    Det C fr L (.slice t x (some y) (some z) none) ty (.string ⟨((s.take j).drop i).toArray⟩) := fun a w ha hw d pos af gg => by
  subst hm
  subst hn
  simp [execOp, Instr.sliceAt, Instr.slice, Instr.sliceBounds, Instr.sliceBound, asIntOf, run_underlying ht, ha.tmp he, ha.tmp hy, ha.tmp hz, size_mk, hij, hj, extract_mk]
theorem run_binStr {P : Program} {w : World} {op : BinOp} {xt : TypeId} (a : Act) (d : Option Tmp) (pos : String) (af : Array Edge) (gg : Option (Nat × Bool)) {yt : TypeId} {s r : ByteArray} (h1 : a.eval x = .string s) (h2 : a.eval y = .string r) (hs : op ≠ .shl ∧ op ≠ .shr) :
    (execOp a.eval ⟨d, .binOp op xt x y yt, ty, pos, af, gg⟩).run P w = ((Op.stringOp op s r).run P w).andThen fun v w => .ok (.value v) w := by
  have he : (eqGuard op xt x y (.string s) (.string r)).run P w = .ok () w := by cases op <;> simp [eqGuard]
  obtain ⟨hs1, hs2⟩ := hs
  cases op <;> simp_all [execOp, binOp]
theorem beq_dec (s r : List UInt8) : (s == r) = decide (s = r) := by rw [Bool.eq_iff_iff]; simp
section
variable {s r : List UInt8} {xt yt : TypeId}
theorem det_s_eql (h1 : ev fr x = some (.string ⟨s.toArray⟩)) (h2 : ev fr y = some (.string ⟨r.toArray⟩)) : Det C fr L (.binOp .eql xt x y yt) ty (.bool (decide (s = r))) := fun a w ha hw d pos af gg => by
  rw [run_binStr a d pos af gg (ha.tmp h1) (ha.tmp h2) ⟨by decide, by decide⟩]; simp [Op.stringOp, beq_dec]
theorem det_s_neq (h1 : ev fr x = some (.string ⟨s.toArray⟩)) (h2 : ev fr y = some (.string ⟨r.toArray⟩)) : Det C fr L (.binOp .neq xt x y yt) ty (.bool (decide (¬ s = r))) := fun a w ha hw d pos af gg => by
  rw [run_binStr a d pos af gg (ha.tmp h1) (ha.tmp h2) ⟨by decide, by decide⟩]; simp [Op.stringOp, beq_dec]
theorem bytes_lt (s t : List UInt8) : Op.bytesLess (⟨s.toArray⟩ : ByteArray).toList (⟨t.toArray⟩ : ByteArray).toList = Op.bytesLess s t := by
  rw [ByteArray.toList_mk, ByteArray.toList_mk]
theorem det_s_lss (h1 : ev fr x = some (.string ⟨s.toArray⟩)) (h2 : ev fr y = some (.string ⟨r.toArray⟩)) : Det C fr L (.binOp .lss xt x y yt) ty (.bool (Op.bytesLess s r)) := fun a w ha hw d pos af gg => by
  rw [run_binStr a d pos af gg (ha.tmp h1) (ha.tmp h2) ⟨by decide, by decide⟩]; simp [Op.stringOp]
theorem det_s_leq (h1 : ev fr x = some (.string ⟨s.toArray⟩)) (h2 : ev fr y = some (.string ⟨r.toArray⟩)) : Det C fr L (.binOp .leq xt x y yt) ty (.bool (Op.bytesLess s r || decide (s = r))) := fun a w ha hw d pos af gg => by
  rw [run_binStr a d pos af gg (ha.tmp h1) (ha.tmp h2) ⟨by decide, by decide⟩]; simp [Op.stringOp, beq_dec]
theorem det_s_gtr (h1 : ev fr x = some (.string ⟨s.toArray⟩)) (h2 : ev fr y = some (.string ⟨r.toArray⟩)) : Det C fr L (.binOp .gtr xt x y yt) ty (.bool (!(Op.bytesLess s r || decide (s = r)))) := fun a w ha hw d pos af gg => by
  rw [run_binStr a d pos af gg (ha.tmp h1) (ha.tmp h2) ⟨by decide, by decide⟩]; simp [Op.stringOp, beq_dec]
theorem det_s_geq (h1 : ev fr x = some (.string ⟨s.toArray⟩)) (h2 : ev fr y = some (.string ⟨r.toArray⟩)) : Det C fr L (.binOp .geq xt x y yt) ty (.bool (!Op.bytesLess s r)) := fun a w ha hw d pos af gg => by
  rw [run_binStr a d pos af gg (ha.tmp h1) (ha.tmp h2) ⟨by decide, by decide⟩]; simp [Op.stringOp]
theorem det_s_add (h1 : ev fr x = some (.string ⟨s.toArray⟩)) (h2 : ev fr y = some (.string ⟨r.toArray⟩)) (hl : s.length + r.length ≤ 9223372036854775807) : Det C fr L (.binOp .add xt x y yt) ty (.string ⟨(s ++ r).toArray⟩) := fun a w ha hw d pos af gg => by
  rw [run_binStr a d pos af gg (ha.tmp h1) (ha.tmp h2) ⟨by decide, by decide⟩]
  have h3 : ((⟨s.toArray⟩ : ByteArray) ++ (⟨r.toArray⟩ : ByteArray)) = ⟨(s ++ r).toArray⟩ := ByteArray.mk_append_mk s r
  have h4 : (s.length : Int) + (r.length : Int) ≤ 9223372036854775807 := by omega
  simp [Op.stringOp, size_mk, h4, h3]
end
/-- bytes made a text -/
theorem det_bstr {s : TypeId} {nn : Nat} {b : List UInt8} (h1 : C.P.underlying s = some (.slice e)) (h2 : C.P.underlying e = some (.int .u8)) (h3 : C.P.underlying t = some .string) (he : ev fr x = some v) (hb : Bor C.B C.w0 L 1 v nn (bv b)) : Det C fr L (.convert s t x) ty (.string ⟨b.toArray⟩) := fun a w ha hw d pos af gg => by
  simp [execOp, ha.tmp he, run_bstr h1 h2 h3 (hb w hw)]
theorem det_bool_eql {b b' : Bool} {xt yt : TypeId} (ht : C.P.underlying xt = some .bool) (h1 : ev fr x = some (.bool b)) (h2 : ev fr y = some (.bool b')) : Det C fr L (.binOp .eql xt x y yt) ty (.bool (decide (b = b'))) := fun a w ha hw d pos af gg => by
  have he : (eqGuard .eql xt x y (.bool b) (.bool b')).run C.P w = .ok () w := by simp [eqGuard]
  have e1 : (binOp .eql xt (.bool b) (.bool b')).run C.P w = .ok (.bool (decide (b = b'))) w := by
    simp only [binOp]
    simp [run_equal_bool w xt b b' ht]
    rfl
  simp only [execOp, ha.tmp h1, ha.tmp h2, Sem.run_bind, he, e1, Result.andThen_ok, Sem.run_pure]
theorem det_bool_neq {b b' : Bool} {xt yt : TypeId} (ht : C.P.underlying xt = some .bool) (h1 : ev fr x = some (.bool b)) (h2 : ev fr y = some (.bool b')) : Det C fr L (.binOp .neq xt x y yt) ty (.bool (decide (¬ b = b'))) := fun a w ha hw d pos af gg => by
  have he : (eqGuard .neq xt x y (.bool b) (.bool b')).run C.P w = .ok () w := by simp [eqGuard]
  have e1 : (binOp .neq xt (.bool b) (.bool b')).run C.P w = .ok (.bool (decide (¬ b = b'))) w := by
    simp only [binOp]
    simp [run_equal_bool w xt b b' ht]
    cases b <;> cases b' <;> rfl
  simp only [execOp, ha.tmp h1, ha.tmp h2, Sem.run_bind, he, e1, Result.andThen_ok, Sem.run_pure]
theorem det_ptr_nil {p : Option Addr} {xt yt : TypeId} (ht : C.P.underlying xt = some (.pointer (C.P.pointee xt))) (h1 : ev fr x = some (.pointer p)) (h2 : ev fr y = some (.pointer none)) : Det C fr L (.binOp .eql xt x y yt) ty (.bool p.isNone) := fun a w ha hw d pos af gg => by
  have he : (eqGuard .eql xt x y (.pointer p) (.pointer none)).run C.P w = .ok () w := by simp [eqGuard]
  simp only [execOp, ha.tmp h1, ha.tmp h2, Sem.run_bind, he, run_eql_pointer_nil w xt p ht, Result.andThen_ok, Sem.run_pure]
theorem det_ptr_nnil {p : Option Addr} {xt yt : TypeId} (ht : C.P.underlying xt = some (.pointer (C.P.pointee xt))) (h1 : ev fr x = some (.pointer p)) (h2 : ev fr y = some (.pointer none)) : Det C fr L (.binOp .neq xt x y yt) ty (.bool (!p.isNone)) := fun a w ha hw d pos af gg => by
  have he : (eqGuard .neq xt x y (.pointer p) (.pointer none)).run C.P w = .ok () w := by simp [eqGuard]
  simp only [execOp, ha.tmp h1, ha.tmp h2, Sem.run_bind, he, run_neq_pointer_nil w xt p ht, Result.andThen_ok, Sem.run_pure]

/-- 'make([]T, n)', 'make([]T, 0, n)' of elements of one cell -/
theorem eff_make {bytes : Nat} {zv : Value} (T : SlT C.P t e 1 bytes zv) (hz1 : zv.cells = #[zv]) {k' : IntKind} {nn cc : Nat} (he : ev fr x = some (.int k m)) (hm : m = (nn : Int)) (hy : ev fr y = some (.int k' n)) (hn : n = (cc : Int)) (hle : nn ≤ cc) (hbytes : bytes * cc ≤ 281474976710656) (h63 : cc ≤ 281474976710656) :
    Eff C fr L (.makeSlice t x y) ty (fun p L' => ∃ A, p = .slice A nn cc ∧ L' = .own e 1 A nn cc (List.replicate nn zv) :: L) := fun a w ha hw d pos af gg => by
  subst hm
  subst hn
  obtain ⟨i, hi, hz, hsz, hby⟩ := T.hi
  have hr := run_make (P := C.P) w t e i zv T.ht hi hz k k' (nn : Int) (cc : Int) (by omega) (by omega) (by rw [hby, ← Int.natCast_mul]; omega) (by omega)
  simp only [Int.toNat_natCast, hsz, Nat.mul_one] at hr
  refine ⟨.slice (some ⟨w.heap.size, 0, none⟩) nn cc, w.alloc (.cells (madeCells zv.cells cc) e), _, .inl (by simp [execOp, ha.tmp he, ha.tmp hy, hr]), ⟨some ⟨w.heap.size, 0, none⟩, rfl, rfl⟩, hw.cons_new (World.grownBy_alloc w _ none) ⟨by simp, hle, ?_⟩ ?_⟩
  · by_cases hc0 : cc = 0
    · exact .inl hc0
    · refine .inr ⟨_, _, rfl, hw.base, heap_alloc_new w _, by unfold maxLen; omega, by rw [hz1]; simp [madeCells], ?_⟩
      rw [hz1, toList_madeCells_one, Nat.mul_one, List.take_replicate, Nat.min_eq_left hle]
  · by_cases hc0 : cc = 0
    · left; simp [Ch.fp, hc0]
    · right; exact ⟨w.heap.size, by simp [Ch.fp, hc0], Nat.le_refl _⟩
theorem OwnR.set_ {w : World} {B : Nat} {e : TypeId} {size nn c j : Nat} {A : Option Addr} {xs : List Value} (h : OwnR w B e size A nn c xs) (hj : j < xs.length) (u : Value) : ∃ ad, A = some ad ∧ (Ch.own e size A nn c xs).fp = some ad.block ∧ (∃ u, w.cell? (ad.add j) = some u) ∧ w.frozen? (ad.add j) = false ∧
    w.grownBy (w.setCell (ad.add j) u) (some ad.block) ∧ OwnR (w.setCell (ad.add j) u) B e size A nn c (xs.set j u) := by
  obtain ⟨h1, h2, h3⟩ := h
  have hc0 : ¬ c = 0 := fun h0 => by
    have : nn = 0 := by omega
    subst this
    simp at h1
    simp [h1] at hj
  obtain ⟨g, cur, rfl, k1, k2, k3, k4, k5⟩ := h3.resolve_left hc0
  have hadd : (⟨g, 0, none⟩ : Addr).add j = ⟨g, j, none⟩ := by rw [Addr.add_lit, Nat.zero_add]
  have hjc : j < cur.size := by
    have := congrArg List.length k5
    simp at this
    omega
  have hblk : Blk w g e cur := k2
  refine ⟨_, rfl, by simp [Ch.fp, hc0], ⟨cur[j], ?_⟩, ?_, only_setCell (World.grownBy.refl w _) (.inl (by rw [hadd])) u, by simpa using h1, h2, .inr ⟨g, cur.setIfInBounds j u, rfl, k1, ?_, k3, by simpa using k4, ?_⟩⟩
  · rw [hadd, hblk.cell j, Array.getElem?_eq_getElem hjc]
  · rw [hadd]; exact hblk.frozen j
  · rw [hadd]; exact hblk.set_ j u
  · rw [Array.toList_setIfInBounds, List.take_set, k5]
theorem eff_store_row {size nn c j : Nat} {A : Option Addr} {xs : List Value} (hs : isSc C.P t = true) (he : ev fr x = some (.pointer (A.map (·.add j)))) (hv : ev fr y = some v) (h1 : v.oneCell' = true) (hm : Sel (.own e size A nn c xs) L f) (hj : j < xs.length) :
    Eff C fr L (.store t x y) ty (fun p L' => L' = f (.own e size A nn c (xs.set j v))) := fun a w ha hw d pos af gg => by
  obtain ⟨ad, rfl, hfp, ⟨u, hu⟩, hfz, hg, ho⟩ := OwnR.set_ (hw.all _ hm.mem) hj v
  exact ⟨undef, _, _, .inr ⟨by simp [execOp, Instr.storeAt, Instr.sureAddr, ha.tmp he, ha.tmp hv, run_storeSc hs h1 hu hfz], rfl⟩, rfl, hw.sel hm (by rw [hfp]; exact hg) (fun _ => ho) (.inr (.inl rfl))⟩
theorem eff_store_rowf {size nn c j q : Nat} {A : Option Addr} {xs : List Value} (hs : isSc C.P t = true) (he : ev fr x = some (.pointer (A.map (fun ad => (ad.add j).add q)))) (hv : ev fr y = some v) (h1 : v.oneCell' = true) (hm : Sel (.own e size A nn c xs) L f) (hj : j + q < xs.length) :
    Eff C fr L (.store t x y) ty (fun p L' => L' = f (.own e size A nn c (xs.set (j + q) v))) := fun a w ha hw d pos af gg => by
  obtain ⟨ad, rfl, hfp, ⟨u, hu⟩, hfz, hg, ho⟩ := OwnR.set_ (hw.all _ hm.mem) hj v
  refine ⟨undef, _, _, .inr ⟨?_, rfl⟩, rfl, hw.sel hm (by rw [hfp]; exact hg) (fun _ => ho) (.inr (.inl rfl))⟩
  rw [← add_of_add] at hu hfz ⊢
  simp [execOp, Instr.storeAt, Instr.sureAddr, ha.tmp he, ha.tmp hv, run_storeSc hs h1 hu hfz]

/-! ### Regions that draw their order -/
def VQ (C : Cx) (ops : Array Oper) (L : List Ch) (Q : Fr → Prop) (l : List Oper) (fr : Fr) : Prop := ∀ a, Agr C.N fr a → wpQuiet C.P ops (SL C.B C.w0 L) (fun a' => ∃ fr', Agr C.N fr' a' ∧ Q fr') l a
theorem vq_region {id : Nat} {l : List Oper} (hm : C.P.follows .mixedOrders = true) (hB : Region.lexB .any l.toArray = true) (h : VQ C l.toArray L (fun fr' => Q .normal fr' L) l fr) : VC C (.region id l.toArray true) Q fr L := fun a w ha hw => by
  refine wp_region_quiet (C := SL C.B C.w0 L) hm hB (hw.drewN 1) ?_
  have := h a ha
  have hmono : ∀ (l : List Oper) (a : Act) {ops : Array Oper} {QQ QQ' : Act → Prop}, (∀ a, QQ a → QQ' a) → wpQuiet C.P ops (SL C.B C.w0 L) QQ l a → wpQuiet C.P ops (SL C.B C.w0 L) QQ' l a := by
    intro l
    induction l with
    | nil => intro a ops QQ QQ' hq h; exact hq _ h
    | cons o l ih =>
      intro a ops QQ QQ' hq h
      unfold wpQuiet at h ⊢
      split
      · rename_i hw; rw [if_pos hw] at h; exact Oper.quiet_mono (fun a h => ih a hq h) h
      · rename_i hw; rw [if_neg hw] at h; exact ih _ hq h
  simpa using hmono l a (fun a' ⟨fr', h1, h2⟩ w' hw' => ⟨fr', L, h1, hw', h2⟩) this
section
variable {QF : Fr → Prop}
theorem vq_end (fr' : Fr) (hs : Sub fr fr') (h : QF fr') : VQ C ops L QF [] fr := fun a ha => wpQuiet_nil ⟨fr', ha.sub hs, h⟩
theorem vq_det (h : Det C fr L op ty v) (hd : Nat.blt d C.N = true) (k : VQ C ops L QF l ((d, v) :: fr)) : VQ C ops L QF (⟨some d, op, ty, pos, af, none⟩ :: l) fr := fun a ha =>
  wpQuiet_step fun K hK => by
    rw [if_pos (by rfl)]
    exact ⟨v, fun w hw => by unfold Oper.quietAt; rw [h a w ha hw]; exact ⟨rfl, rfl⟩, hK _ (k _ (ha.put hd v))⟩
theorem vq_call {f : FuncId} {as : List Operand} {ats : Array TypeId} {vs : List Value} {R : Value → List Ch → Prop} (hc : Callable C.P f) (he : evs fr as = some vs) (h : Does C.P C.B C.w0 f vs L R) (hR : ∀ r L', R r L' → r = v ∧ L.Sublist L') (hd : Nat.blt d C.N = true)
    (k : VQ C ops L QF l ((d, v) :: fr)) : VQ C ops L QF (⟨some d, .call { callee := .value (.func f), args := as.toArray, argTypes := ats }, ty, pos, af, none⟩ :: l) fr := fun a ha =>
  wpQuiet_step fun K hK => by
    rw [if_pos (by rfl)]
    refine ⟨v, fun w hw => ?_, hK _ (k _ (ha.put hd v))⟩
    unfold Oper.quietAt
    rw [execOp_callv hc (fst := #[]) (cap := #[]) rfl, ha.evs he, Array.append_empty, Array.empty_append]
    exact ⟨rfl, (h w hw).mono fun e w' ⟨r, L', he, hr, hs⟩ => by obtain ⟨rfl, h2⟩ := hR r L' hr; exact ⟨he, hs.sub h2⟩⟩
theorem vq_unguard {dd : Option Tmp} {gu : Nat × Bool} {QQ : Act → Prop} {a : Act} (hw : Region.wanted ⟨dd, op, ty, pos, af, some gu⟩ (yielded ops a.tmps) = true) (h : wpQuiet C.P ops (SL C.B C.w0 L) QQ (⟨dd, op, ty, pos, af, none⟩ :: l) a) :
    wpQuiet C.P ops (SL C.B C.w0 L) QQ (⟨dd, op, ty, pos, af, some gu⟩ :: l) a := by
  unfold wpQuiet at h ⊢
  rw [if_pos (by rfl)] at h
  rw [if_pos hw]
  exact h
theorem vq_skip_ {dd : Option Tmp} {gu : Nat × Bool} {QQ : Act → Prop} {a : Act} (hw : Region.wanted ⟨dd, op, ty, pos, af, some gu⟩ (yielded ops a.tmps) = false) (h : wpQuiet C.P ops (SL C.B C.w0 L) QQ l (a.put dd undef)) :
    wpQuiet C.P ops (SL C.B C.w0 L) QQ (⟨dd, op, ty, pos, af, some gu⟩ :: l) a := by
  unfold wpQuiet
  rw [if_neg (by rw [hw]; exact Bool.false_ne_true)]
  exact h
theorem vq_guard_t {dd : Option Tmp} {j t : Nat} {want : Bool} (hj : (ops[j]?).bind (·.dst) = some t) (ht : look t fr = some (.bool want)) (k : VQ C ops L QF (⟨dd, op, ty, pos, af, none⟩ :: l) fr) :
    VQ C ops L QF (⟨dd, op, ty, pos, af, some (j, want)⟩ :: l) fr := fun a ha =>
  vq_unguard (by rw [wanted_iff hj (ha.at_ _ _ ht)]; simp) (k a ha)
theorem vq_guard_f {j t : Nat} {want b : Bool} (hj : (ops[j]?).bind (·.dst) = some t) (ht : look t fr = some (.bool b)) (hb : (b == want) = false) (hd : Nat.blt d C.N = true) (k : VQ C ops L QF l ((d, undef) :: fr)) :
    VQ C ops L QF (⟨some d, op, ty, pos, af, some (j, want)⟩ :: l) fr := fun a ha =>
  vq_skip_ (by rw [wanted_iff hj (ha.at_ _ _ ht)]; exact hb) (k _ (ha.put hd _))
theorem vq_guard_u {j t : Nat} {want : Bool} (hj : (ops[j]?).bind (·.dst) = some t) (ht : look t fr = some undef) (hd : Nat.blt d C.N = true) (k : VQ C ops L QF l ((d, undef) :: fr)) :
    VQ C ops L QF (⟨some d, op, ty, pos, af, some (j, want)⟩ :: l) fr := fun a ha =>
  vq_skip_ (wanted_undef hj (ha.at_ _ _ ht)) (k _ (ha.put hd _))
theorem vq_guard {j t : Nat} {want b : Bool} (hj : (ops[j]?).bind (·.dst) = some t) (ht : look t fr = some (.bool b)) (hd : Nat.blt d C.N = true)
    (k1 : b = want → VQ C ops L QF (⟨some d, op, ty, pos, af, none⟩ :: l) ((t, .bool want) :: fr)) (k2 : b = !want → VQ C ops L QF l ((d, undef) :: (t, .bool !want) :: fr)) :
    VQ C ops L QF (⟨some d, op, ty, pos, af, some (j, want)⟩ :: l) fr := fun a ha => by
  by_cases hb : b = want
  · exact vq_unguard (by rw [wanted_iff hj (ha.at_ _ _ ht)]; simpa using hb) (k1 hb a (ha.bool ht hb))
  · have hb' : b = !want := by cases b <;> cases want <;> simp_all
    exact vq_skip_ (by rw [wanted_iff hj (ha.at_ _ _ ht)]; simpa using hb) (k2 hb' _ ((ha.bool ht hb').put hd _))
end
theorem vq_guardp {QF : Fr → Prop} {j t : Nat} {p : Prop} [Decidable p] (hj : (ops[j]?).bind (·.dst) = some t) (ht : look t fr = some (.bool (decide p))) (hd : Nat.blt d C.N = true)
    (k1 : p → VQ C ops L QF (⟨some d, op, ty, pos, af, none⟩ :: l) ((t, .bool true) :: fr)) (k2 : ¬ p → VQ C ops L QF l ((d, undef) :: (t, .bool false) :: fr)) :
    VQ C ops L QF (⟨some d, op, ty, pos, af, some (j, true)⟩ :: l) fr :=
  vq_guard hj ht hd (fun h => k1 (of_decide_eq_true h)) (fun h => k2 (of_decide_eq_false h))
theorem vq_guardn {QF : Fr → Prop} {j t : Nat} {p : Prop} [Decidable p] (hj : (ops[j]?).bind (·.dst) = some t) (ht : look t fr = some (.bool (decide p))) (hd : Nat.blt d C.N = true)
    (k1 : ¬ p → VQ C ops L QF (⟨some d, op, ty, pos, af, none⟩ :: l) ((t, .bool false) :: fr)) (k2 : p → VQ C ops L QF l ((d, undef) :: (t, .bool true) :: fr)) :
    VQ C ops L QF (⟨some d, op, ty, pos, af, some (j, false)⟩ :: l) fr :=
  vq_guard hj ht hd (fun h => k1 (of_decide_eq_false h)) (fun h => k2 (of_decide_eq_true h))
end
end Go.Proofs.Ytpamjobiohbibaa

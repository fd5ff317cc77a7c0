/-
  Texts of one proof, joined: part 2. No condition.
-/
import Derived.Test.YtpamjobiohbibaaMp1
import Derived.OrdersHeld
import Derived.Deep.RegionHeld3
import Derived.Lib.SliceRun
import Derived.Laws.CopyRow
import Derived.Laws.IdiomCopy
import Derived.Laws.StructEq
import Derived.Test.YtpamjobiohbibaaProg
namespace Go.Proofs.Ytpamjobiohbibaa
open Go.RowKit
set_option linter.unusedVariables false
section
variable {C : Cx} {Q : Exit → Fr → List Ch → Prop} {fr fr' : Fr} {L L' : List Ch} {ops : Array Oper} {l : List Oper} {op : Op} {ty : TypeId} {pos : String} {af : Array Edge} {d : Nat} {v : Value}
variable {x y z : Operand} {k : IntKind} {m n : Int} {f : Ch → List Ch} {g o : Nat} {bt t e : TypeId} {cs : List Value}
theorem opt_add0 (A : Option Addr) : A.map (·.add 0) = A := by cases A <;> rfl
theorem det_slice_lo {A : Option Addr} {nn c i size : Nat} (ht : C.P.underlying t = some (.slice e)) (hz : (C.P.info? e).map (·.size) = some size) (he : ev fr x = some (.slice A nn c)) (hy : ev fr y = some (.int k m)) (hm : m = (i : Int)) (hi : i ≤ nn) :
    Det C fr L (.slice t x (some y) none none) ty (.slice (if c = i then A else A.map (·.add (i * size))) (nn - i) (c - i)) := fun a w ha hw d pos af gg => by
  subst hm
  simp [execOp, Instr.sliceAt, Instr.slice, Instr.sliceBounds, Instr.sliceBound, asIntOf, run_underlying ht, ha.tmp he, ha.tmp hy, hi, isSz hz]
theorem det_slice_hi {A : Option Addr} {nn c i size : Nat} (ht : C.P.underlying t = some (.slice e)) (hz : (C.P.info? e).map (·.size) = some size) (he : ev fr x = some (.slice A nn c)) (hy : ev fr y = some (.int k m)) (hm : m = (i : Int)) (hi : i ≤ c) :
    Det C fr L (.slice t x none (some y) none) ty (.slice A i c) := fun a w ha hw d pos af gg => by
  subst hm
  simp [execOp, Instr.sliceAt, Instr.slice, Instr.sliceBounds, Instr.sliceBound, asIntOf, run_underlying ht, ha.tmp he, ha.tmp hy, hi, isSz hz, opt_add0]
theorem det_slice_both {A : Option Addr} {nn c i j size : Nat} {k' : IntKind} (ht : C.P.underlying t = some (.slice e)) (hz : (C.P.info? e).map (·.size) = some size) (he : ev fr x = some (.slice A nn c)) (hy : ev fr y = some (.int k m)) (hm : m = (i : Int)) (hz2 : ev fr z = some (.int k' n)) (hn : n = (j : Int)) (hij : i ≤ j) (hj : j ≤ c) :
    Det C fr L (.slice t x (some y) (some z) none) ty (.slice (if c = i then A else A.map (·.add (i * size))) (j - i) (c - i)) := fun a w ha hw d pos af gg => by
  subst hm
  subst hn
  simp [execOp, Instr.sliceAt, Instr.slice, Instr.sliceBounds, Instr.sliceBound, asIntOf, run_underlying ht, ha.tmp he, ha.tmp hy, ha.tmp hz2, hij, hj, isSz hz]
/-- 's[:0:0]' -/
theorem det_slice_00 {A : Option Addr} {nn c size : Nat} {k' : IntKind} (ht : C.P.underlying t = some (.slice e)) (hz : (C.P.info? e).map (·.size) = some size) (he : ev fr x = some (.slice A nn c)) (hy : ev fr y = some (.int k 0)) (hz2 : ev fr z = some (.int k' 0)) :
    Det C fr L (.slice t x none (some y) (some z)) ty (.slice A 0 0) := fun a w ha hw d pos af gg => by
  simp [execOp, Instr.sliceAt, Instr.slice, Instr.sliceBounds, Instr.sliceBound, asIntOf, run_underlying ht, ha.tmp he, ha.tmp hy, ha.tmp hz2, isSz hz]
theorem extract_mk (s : List UInt8) (i j : Nat) : (⟨s.toArray⟩ : ByteArray).extract i j = ⟨((s.take j).drop i).toArray⟩ := by
  apply ByteArray.ext
  rw [ByteArray.data_extract]
  simp [List.extract_eq_take_drop, List.drop_take]
theorem size_mk (s : List UInt8) : (⟨s.toArray⟩ : ByteArray).size = s.length := by simp [ByteArray.size]
theorem det_str_lo {s : List UInt8} {i : Nat} (ht : C.P.underlying t = some .string) (he : ev fr x = some (.string ⟨s.toArray⟩)) (hy : ev fr y = some (.int k m)) (hm : m = (i : Int)) (hi : i ≤ s.length) :
    Det C fr L (.slice t x (some y) none none) ty (.string ⟨(s.drop i).toArray⟩) := fun a w ha hw d pos af gg => by
  subst hm
  have h1 : s.take s.length = s := List.take_length
  simp [execOp, Instr.sliceAt, Instr.slice, Instr.sliceBounds, Instr.sliceBound, asIntOf, run_underlying ht, ha.tmp he, ha.tmp hy, size_mk, hi, extract_mk]
theorem det_str_hi {s : List UInt8} {i : Nat} (ht : C.P.underlying t = some .string) (he : ev fr x = some (.string ⟨s.toArray⟩)) (hy : ev fr y = some (.int k m)) (hm : m = (i : Int)) (hi : i ≤ s.length) :
    Det C fr L (.slice t x none (some y) none) ty (.string ⟨(s.take i).toArray⟩) := fun a w ha hw d pos af gg => by
  subst hm
  simp [execOp, Instr.sliceAt, Instr.slice, Instr.sliceBounds, Instr.sliceBound, asIntOf, run_underlying ht, ha.tmp he, ha.tmp hy, size_mk, hi, extract_mk]
theorem det_str_both {s : List UInt8} {i j : Nat} {k' : IntKind} (ht : C.P.underlying t = some .string) (he : ev fr x = some (.string ⟨s.toArray⟩)) (hy : ev fr y = some (.int k m)) (hm : m = (i : Int)) (hz : ev fr z = some (.int k' n)) (hn : n = (j : Int)) (hij : i ≤ j) (hj : j ≤ s.length) :
    Det C fr L (.slice t x (some y) (some z) none) ty (.string ⟨((s.take j).drop i).toArray⟩) := fun a w ha hw d pos af gg => by
  subst hm
  subst hn
  simp [execOp, Instr.sliceAt, Instr.slice, Instr.sliceBounds, Instr.sliceBound, asIntOf, run_underlying ht, ha.tmp he, ha.tmp hy, ha.tmp hz, size_mk, hij, hj, extract_mk]
theorem run_binStr {P : Program} {w : World} {op : BinOp} {xt : TypeId} (a : Act) (d : Option Tmp) (pos : String) (af : Array Edge) (gg : Option (Nat × Bool)) {yt : TypeId} {s r : ByteArray} (h1 : a.eval x = .string s) (h2 : a.eval y = .string r) (hs : op ≠ .shl ∧ op ≠ .shr) :
    (execOp a.eval ⟨d, .binOp op xt x y yt, ty, pos, af, gg⟩).run P w = ((Op.stringOp op s r).run P w).andThen fun v w => .ok (.value v) w := by
  have he : (eqGuard op xt x y (.string s) (.string r)).run P w = .ok () w := by cases op <;> simp [eqGuard]
  obtain ⟨hs1, hs2⟩ := hs
  cases op <;> simp_all [execOp, binOp]
theorem beq_dec (s r : List UInt8) : (s == r) = decide (s = r) := by rw [Bool.eq_iff_iff]; simp
section
variable {s r : List UInt8} {xt yt : TypeId}
theorem det_s_eql (h1 : ev fr x = some (.string ⟨s.toArray⟩)) (h2 : ev fr y = some (.string ⟨r.toArray⟩)) : Det C fr L (.binOp .eql xt x y yt) ty (.bool (decide (s = r))) := fun a w ha hw d pos af gg => by
  rw [run_binStr a d pos af gg (ha.tmp h1) (ha.tmp h2) ⟨by decide, by decide⟩]; simp [Op.stringOp, beq_dec]
theorem det_s_neq (h1 : ev fr x = some (.string ⟨s.toArray⟩)) (h2 : ev fr y = some (.string ⟨r.toArray⟩)) : Det C fr L (.binOp .neq xt x y yt) ty (.bool (decide (¬ s = r))) := fun a w ha hw d pos af gg => by
  rw [run_binStr a d pos af gg (ha.tmp h1) (ha.tmp h2) ⟨by decide, by decide⟩]; simp [Op.stringOp, beq_dec]
theorem bytes_lt (s t : List UInt8) : Op.bytesLess (⟨s.toArray⟩ : ByteArray).toList (⟨t.toArray⟩ : ByteArray).toList = Op.bytesLess s t := by
  rw [ByteArray.toList_mk, ByteArray.toList_mk]
theorem det_s_lss (h1 : ev fr x = some (.string ⟨s.toArray⟩)) (h2 : ev fr y = some (.string ⟨r.toArray⟩)) : Det C fr L (.binOp .lss xt x y yt) ty (.bool (Op.bytesLess s r)) := fun a w ha hw d pos af gg => by
  rw [run_binStr a d pos af gg (ha.tmp h1) (ha.tmp h2) ⟨by decide, by decide⟩]; simp [Op.stringOp]
theorem det_s_leq (h1 : ev fr x = some (.string ⟨s.toArray⟩)) (h2 : ev fr y = some (.string ⟨r.toArray⟩)) : Det C fr L (.binOp .leq xt x y yt) ty (.bool (Op.bytesLess s r || decide (s = r))) := fun a w ha hw d pos af gg => by
  rw [run_binStr a d pos af gg (ha.tmp h1) (ha.tmp h2) ⟨by decide, by decide⟩]; simp [Op.stringOp, beq_dec]
theorem det_s_gtr (h1 : ev fr x = some (.string ⟨s.toArray⟩)) (h2 : ev fr y = some (.string ⟨r.toArray⟩)) : Det C fr L (.binOp .gtr xt x y yt) ty (.bool (!(Op.bytesLess s r || decide (s = r)))) := fun a w ha hw d pos af gg => by
  rw [run_binStr a d pos af gg (ha.tmp h1) (ha.tmp h2) ⟨by decide, by decide⟩]; simp [Op.stringOp, beq_dec]
theorem det_s_geq (h1 : ev fr x = some (.string ⟨s.toArray⟩)) (h2 : ev fr y = some (.string ⟨r.toArray⟩)) : Det C fr L (.binOp .geq xt x y yt) ty (.bool (!Op.bytesLess s r)) := fun a w ha hw d pos af gg => by
  rw [run_binStr a d pos af gg (ha.tmp h1) (ha.tmp h2) ⟨by decide, by decide⟩]; simp [Op.stringOp]
theorem det_s_add (h1 : ev fr x = some (.string ⟨s.toArray⟩)) (h2 : ev fr y = some (.string ⟨r.toArray⟩)) (hl : s.length + r.length ≤ 9223372036854775807) : Det C fr L (.binOp .add xt x y yt) ty (.string ⟨(s ++ r).toArray⟩) := fun a w ha hw d pos af gg => by
  rw [run_binStr a d pos af gg (ha.tmp h1) (ha.tmp h2) ⟨by decide, by decide⟩]
  have h3 : ((⟨s.toArray⟩ : ByteArray) ++ (⟨r.toArray⟩ : ByteArray)) = ⟨(s ++ r).toArray⟩ := ByteArray.mk_append_mk s r
  have h4 : (s.length : Int) + (r.length : Int) ≤ 9223372036854775807 := by omega
  simp [Op.stringOp, size_mk, h4, h3]
end
/-- bytes made a text -/
theorem det_bstr {s : TypeId} {nn : Nat} {b : List UInt8} (h1 : C.P.underlying s = some (.slice e)) (h2 : C.P.underlying e = some (.int .u8)) (h3 : C.P.underlying t = some .string) (he : ev fr x = some v) (hb : Bor C.B C.w0 L 1 v nn (bv b)) : Det C fr L (.convert s t x) ty (.string ⟨b.toArray⟩) := fun a w ha hw d pos af gg => by
  simp [execOp, ha.tmp he, run_bstr h1 h2 h3 (hb w hw)]
theorem det_bool_eql {b b' : Bool} {xt yt : TypeId} (ht : C.P.underlying xt = some .bool) (h1 : ev fr x = some (.bool b)) (h2 : ev fr y = some (.bool b')) : Det C fr L (.binOp .eql xt x y yt) ty (.bool (decide (b = b'))) := fun a w ha hw d pos af gg => by
  have he : (eqGuard .eql xt x y (.bool b) (.bool b')).run C.P w = .ok () w := by simp [eqGuard]
  have e1 : (binOp .eql xt (.bool b) (.bool b')).run C.P w = .ok (.bool (decide (b = b'))) w := by
    simp only [binOp]
    simp [run_equal_bool w xt b b' ht]
    rfl
  simp only [execOp, ha.tmp h1, ha.tmp h2, Sem.run_bind, he, e1, Result.andThen_ok, Sem.run_pure]
theorem det_bool_neq {b b' : Bool} {xt yt : TypeId} (ht : C.P.underlying xt = some .bool) (h1 : ev fr x = some (.bool b)) (h2 : ev fr y = some (.bool b')) : Det C fr L (.binOp .neq xt x y yt) ty (.bool (decide (¬ b = b'))) := fun a w ha hw d pos af gg => by
  have he : (eqGuard .neq xt x y (.bool b) (.bool b')).run C.P w = .ok () w := by simp [eqGuard]
  have e1 : (binOp .neq xt (.bool b) (.bool b')).run C.P w = .ok (.bool (decide (¬ b = b'))) w := by
    simp only [binOp]
    simp [run_equal_bool w xt b b' ht]
    cases b <;> cases b' <;> rfl
  simp only [execOp, ha.tmp h1, ha.tmp h2, Sem.run_bind, he, e1, Result.andThen_ok, Sem.run_pure]
theorem det_ptr_nil {p : Option Addr} {xt yt : TypeId} (ht : C.P.underlying xt = some (.pointer (C.P.pointee xt))) (h1 : ev fr x = some (.pointer p)) (h2 : ev fr y = some (.pointer none)) : Det C fr L (.binOp .eql xt x y yt) ty (.bool p.isNone) := fun a w ha hw d pos af gg => by
  have he : (eqGuard .eql xt x y (.pointer p) (.pointer none)).run C.P w = .ok () w := by simp [eqGuard]
  simp only [execOp, ha.tmp h1, ha.tmp h2, Sem.run_bind, he, run_eql_pointer_nil w xt p ht, Result.andThen_ok, Sem.run_pure]
theorem det_ptr_nnil {p : Option Addr} {xt yt : TypeId} (ht : C.P.underlying xt = some (.pointer (C.P.pointee xt))) (h1 : ev fr x = some (.pointer p)) (h2 : ev fr y = some (.pointer none)) : Det C fr L (.binOp .neq xt x y yt) ty (.bool (!p.isNone)) := fun a w ha hw d pos af gg => by
  have he : (eqGuard .neq xt x y (.pointer p) (.pointer none)).run C.P w = .ok () w := by simp [eqGuard]
  simp only [execOp, ha.tmp h1, ha.tmp h2, Sem.run_bind, he, run_neq_pointer_nil w xt p ht, Result.andThen_ok, Sem.run_pure]

/-- 'make([]T, n)', 'make([]T, 0, n)' of elements of one cell -/
theorem eff_make {bytes : Nat} {zv : Value} (T : SlT C.P t e 1 bytes zv) (hz1 : zv.cells = #[zv]) {k' : IntKind} {nn cc : Nat} (he : ev fr x = some (.int k m)) (hm : m = (nn : Int)) (hy : ev fr y = some (.int k' n)) (hn : n = (cc : Int)) (hle : nn ≤ cc) (hbytes : bytes * cc ≤ 281474976710656) (h63 : cc ≤ 281474976710656) :
    Eff C fr L (.makeSlice t x y) ty (fun p L' => ∃ A, p = .slice A nn cc ∧ L' = .own e 1 A nn cc (List.replicate nn zv) :: L) := fun a w ha hw d pos af gg => by
  subst hm
  subst hn
  obtain ⟨i, hi, hz, hsz, hby⟩ := T.hi
  have hr := run_make (P := C.P) w t e i zv T.ht hi hz k k' (nn : Int) (cc : Int) (by omega) (by omega) (by rw [hby, ← Int.natCast_mul]; omega) (by omega)
  simp only [Int.toNat_natCast, hsz, Nat.mul_one] at hr
  refine ⟨.slice (some ⟨w.heap.size, 0, none⟩) nn cc, w.alloc (.cells (madeCells zv.cells cc) e), _, .inl (by simp [execOp, ha.tmp he, ha.tmp hy, hr]), ⟨some ⟨w.heap.size, 0, none⟩, rfl, rfl⟩, hw.cons_new (World.grownBy_alloc w _ none) ⟨by simp, hle, ?_⟩ ?_⟩
  · by_cases hc0 : cc = 0
    · exact .inl hc0
    · refine .inr ⟨_, _, rfl, hw.base, heap_alloc_new w _, by unfold maxLen; omega, by rw [hz1]; simp [madeCells], ?_⟩
      rw [hz1, toList_madeCells_one, Nat.mul_one, List.take_replicate, Nat.min_eq_left hle]
  · by_cases hc0 : cc = 0
    · left; simp [Ch.fp, hc0]
    · right; exact ⟨w.heap.size, by simp [Ch.fp, hc0], Nat.le_refl _⟩
theorem OwnR.set_ {w : World} {B : Nat} {e : TypeId} {size nn c j : Nat} {A : Option Addr} {xs : List Value} (h : OwnR w B e size A nn c xs) (hj : j < xs.length) (u : Value) : ∃ ad, A = some ad ∧ (Ch.own e size A nn c xs).fp = some ad.block ∧ (∃ u, w.cell? (ad.add j) = some u) ∧ w.frozen? (ad.add j) = false ∧
    w.grownBy (w.setCell (ad.add j) u) (some ad.block) ∧ OwnR (w.setCell (ad.add j) u) B e size A nn c (xs.set j u) := by
  obtain ⟨h1, h2, h3⟩ := h
  have hc0 : ¬ c = 0 := fun h0 => by
    have : nn = 0 := by omega
    subst this
    simp at h1
    simp [h1] at hj
  obtain ⟨g, cur, rfl, k1, k2, k3, k4, k5⟩ := h3.resolve_left hc0
  have hadd : (⟨g, 0, none⟩ : Addr).add j = ⟨g, j, none⟩ := by rw [Addr.add_lit, Nat.zero_add]
  have hjc : j < cur.size := by
    have := congrArg List.length k5
    simp at this
    omega
  have hblk : Blk w g e cur := k2
  refine ⟨_, rfl, by simp [Ch.fp, hc0], ⟨cur[j], ?_⟩, ?_, only_setCell (World.grownBy.refl w _) (.inl (by rw [hadd])) u, by simpa using h1, h2, .inr ⟨g, cur.setIfInBounds j u, rfl, k1, ?_, k3, by simpa using k4, ?_⟩⟩
  · rw [hadd, hblk.cell j, Array.getElem?_eq_getElem hjc]
  · rw [hadd]; exact hblk.frozen j
  · rw [hadd]; exact hblk.set_ j u
  · rw [Array.toList_setIfInBounds, List.take_set, k5]
theorem eff_store_row {size nn c j : Nat} {A : Option Addr} {xs : List Value} (hs : isSc C.P t = true) (he : ev fr x = some (.pointer (A.map (·.add j)))) (hv : ev fr y = some v) (h1 : v.oneCell' = true) (hm : Sel (.own e size A nn c xs) L f) (hj : j < xs.length) :
    Eff C fr L (.store t x y) ty (fun p L' => L' = f (.own e size A nn c (xs.set j v))) := fun a w ha hw d pos af gg => by
  obtain ⟨ad, rfl, hfp, ⟨u, hu⟩, hfz, hg, ho⟩ := OwnR.set_ (hw.all _ hm.mem) hj v
  exact ⟨undef, _, _, .inr ⟨by simp [execOp, Instr.storeAt, Instr.sureAddr, ha.tmp he, ha.tmp hv, run_storeSc hs h1 hu hfz], rfl⟩, rfl, hw.sel hm (by rw [hfp]; exact hg) (fun _ => ho) (.inr (.inl rfl))⟩
theorem eff_store_rowf {size nn c j q : Nat} {A : Option Addr} {xs : List Value} (hs : isSc C.P t = true) (he : ev fr x = some (.pointer (A.map (fun ad => (ad.add j).add q)))) (hv : ev fr y = some v) (h1 : v.oneCell' = true) (hm : Sel (.own e size A nn c xs) L f) (hj : j + q < xs.length) :
    Eff C fr L (.store t x y) ty (fun p L' => L' = f (.own e size A nn c (xs.set (j + q) v))) := fun a w ha hw d pos af gg => by
  obtain ⟨ad, rfl, hfp, ⟨u, hu⟩, hfz, hg, ho⟩ := OwnR.set_ (hw.all _ hm.mem) hj v
  refine ⟨undef, _, _, .inr ⟨?_, rfl⟩, rfl, hw.sel hm (by rw [hfp]; exact hg) (fun _ => ho) (.inr (.inl rfl))⟩
  rw [← add_of_add] at hu hfz ⊢
  simp [execOp, Instr.storeAt, Instr.sureAddr, ha.tmp he, ha.tmp hv, run_storeSc hs h1 hu hfz]

/-! ### Regions that draw their order -/
def VQ (C : Cx) (ops : Array Oper) (L : List Ch) (Q : Fr → Prop) (l : List Oper) (fr : Fr) : Prop := ∀ a, Agr C.N fr a → wpQuiet C.P ops (SL C.B C.w0 L) (fun a' => ∃ fr', Agr C.N fr' a' ∧ Q fr') l a
theorem vq_region {id : Nat} {l : List Oper} (hm : C.P.follows .mixedOrders = true) (hB : Region.lexB .any l.toArray = true) (h : VQ C l.toArray L (fun fr' => Q .normal fr' L) l fr) : VC C (.region id l.toArray true) Q fr L := fun a w ha hw => by
  refine wp_region_quiet (C := SL C.B C.w0 L) hm hB (hw.drewN 1) ?_
  have := h a ha
  have hmono : ∀ (l : List Oper) (a : Act) {ops : Array Oper} {QQ QQ' : Act → Prop}, (∀ a, QQ a → QQ' a) → wpQuiet C.P ops (SL C.B C.w0 L) QQ l a → wpQuiet C.P ops (SL C.B C.w0 L) QQ' l a := by
    intro l
    induction l with
    | nil => intro a ops QQ QQ' hq h; exact hq _ h
    | cons o l ih =>
      intro a ops QQ QQ' hq h
      unfold wpQuiet at h ⊢
      split
      · rename_i hw; rw [if_pos hw] at h; exact Oper.quiet_mono (fun a h => ih a hq h) h
      · rename_i hw; rw [if_neg hw] at h; exact ih _ hq h
  simpa using hmono l a (fun a' ⟨fr', h1, h2⟩ w' hw' => ⟨fr', L, h1, hw', h2⟩) this
section
variable {QF : Fr → Prop}
theorem vq_end (fr' : Fr) (hs : Sub fr fr') (h : QF fr') : VQ C ops L QF [] fr := fun a ha => wpQuiet_nil ⟨fr', ha.sub hs, h⟩
theorem vq_det (h : Det C fr L op ty v) (hd : Nat.blt d C.N = true) (k : VQ C ops L QF l ((d, v) :: fr)) : VQ C ops L QF (⟨some d, op, ty, pos, af, none⟩ :: l) fr := fun a ha =>
  wpQuiet_step fun K hK => by
    rw [if_pos (by rfl)]
    exact ⟨v, fun w hw => by unfold Oper.quietAt; rw [h a w ha hw]; exact ⟨rfl, rfl⟩, hK _ (k _ (ha.put hd v))⟩
theorem vq_call {f : FuncId} {as_ : List Operand} {ats : Array TypeId} {vs : List Value} {R : Value → List Ch → Prop} (hc : Callable C.P f) (he : evs fr as_ = some vs) (h : Does C.P C.B C.w0 f vs L R) (hR : ∀ r L', R r L' → r = v ∧ L.Sublist L') (hd : Nat.blt d C.N = true)
    (k : VQ C ops L QF l ((d, v) :: fr)) : VQ C ops L QF (⟨some d, .call { callee := .value (.func f), args := as_.toArray, argTypes := ats }, ty, pos, af, none⟩ :: l) fr := fun a ha =>
  wpQuiet_step fun K hK => by
    rw [if_pos (by rfl)]
    refine ⟨v, fun w hw => ?_, hK _ (k _ (ha.put hd v))⟩
    unfold Oper.quietAt
    rw [execOp_callv hc (fst := #[]) (cap := #[]) rfl, ha.evs he, Array.append_empty, Array.empty_append]
    exact ⟨rfl, (h w hw).mono fun e w' ⟨r, L', he, hr, hs⟩ => by obtain ⟨rfl, h2⟩ := hR r L' hr; exact ⟨he, hs.sub h2⟩⟩
theorem vq_unguard {dd : Option Tmp} {gu : Nat × Bool} {QQ : Act → Prop} {a : Act} (hw : Region.wanted ⟨dd, op, ty, pos, af, some gu⟩ (yielded ops a.tmps) = true) (h : wpQuiet C.P ops (SL C.B C.w0 L) QQ (⟨dd, op, ty, pos, af, none⟩ :: l) a) :
    wpQuiet C.P ops (SL C.B C.w0 L) QQ (⟨dd, op, ty, pos, af, some gu⟩ :: l) a := by
  unfold wpQuiet at h ⊢
  rw [if_pos (by rfl)] at h
  rw [if_pos hw]
  exact h
theorem vq_skip_ {dd : Option Tmp} {gu : Nat × Bool} {QQ : Act → Prop} {a : Act} (hw : Region.wanted ⟨dd, op, ty, pos, af, some gu⟩ (yielded ops a.tmps) = false) (h : wpQuiet C.P ops (SL C.B C.w0 L) QQ l (a.put dd undef)) :
    wpQuiet C.P ops (SL C.B C.w0 L) QQ (⟨dd, op, ty, pos, af, some gu⟩ :: l) a := by
  unfold wpQuiet
  rw [if_neg (by rw [hw]; exact Bool.false_ne_true)]
  exact h
theorem vq_guard_t {dd : Option Tmp} {j t : Nat} {want : Bool} (hj : (ops[j]?).bind (·.dst) = some t) (ht : look t fr = some (.bool want)) (k : VQ C ops L QF (⟨dd, op, ty, pos, af, none⟩ :: l) fr) :
    VQ C ops L QF (⟨dd, op, ty, pos, af, some (j, want)⟩ :: l) fr := fun a ha =>
  vq_unguard (by rw [wanted_iff hj (ha.at_ _ _ ht)]; simp) (k a ha)
theorem vq_guard_f {j t : Nat} {want b : Bool} (hj : (ops[j]?).bind (·.dst) = some t) (ht : look t fr = some (.bool b)) (hb : (b == want) = false) (hd : Nat.blt d C.N = true) (k : VQ C ops L QF l ((d, undef) :: fr)) :
    VQ C ops L QF (⟨some d, op, ty, pos, af, some (j, want)⟩ :: l) fr := fun a ha =>
  vq_skip_ (by rw [wanted_iff hj (ha.at_ _ _ ht)]; exact hb) (k _ (ha.put hd _))
theorem vq_guard_u {j t : Nat} {want : Bool} (hj : (ops[j]?).bind (·.dst) = some t) (ht : look t fr = some undef) (hd : Nat.blt d C.N = true) (k : VQ C ops L QF l ((d, undef) :: fr)) :
    VQ C ops L QF (⟨some d, op, ty, pos, af, some (j, want)⟩ :: l) fr := fun a ha =>
  vq_skip_ (wanted_undef hj (ha.at_ _ _ ht)) (k _ (ha.put hd _))
theorem vq_guard {j t : Nat} {want b : Bool} (hj : (ops[j]?).bind (·.dst) = some t) (ht : look t fr = some (.bool b)) (hd : Nat.blt d C.N = true)
    (k1 : b = want → VQ C ops L QF (⟨some d, op, ty, pos, af, none⟩ :: l) ((t, .bool want) :: fr)) (k2 : b = !want → VQ C ops L QF l ((d, undef) :: (t, .bool !want) :: fr)) :
    VQ C ops L QF (⟨some d, op, ty, pos, af, some (j, want)⟩ :: l) fr := fun a ha => by
  by_cases hb : b = want
  · exact vq_unguard (by rw [wanted_iff hj (ha.at_ _ _ ht)]; simpa using hb) (k1 hb a (ha.bool ht hb))
  · have hb' : b = !want := by cases b <;> cases want <;> simp_all
    exact vq_skip_ (by rw [wanted_iff hj (ha.at_ _ _ ht)]; simpa using hb) (k2 hb' _ ((ha.bool ht hb').put hd _))
end
theorem vq_guardp {QF : Fr → Prop} {j t : Nat} {p : Prop} [Decidable p] (hj : (ops[j]?).bind (·.dst) = some t) (ht : look t fr = some (.bool (decide p))) (hd : Nat.blt d C.N = true)
    (k1 : p → VQ C ops L QF (⟨some d, op, ty, pos, af, none⟩ :: l) ((t, .bool true) :: fr)) (k2 : ¬ p → VQ C ops L QF l ((d, undef) :: (t, .bool false) :: fr)) :
    VQ C ops L QF (⟨some d, op, ty, pos, af, some (j, true)⟩ :: l) fr :=
  vq_guard hj ht hd (fun h => k1 (of_decide_eq_true h)) (fun h => k2 (of_decide_eq_false h))
theorem vq_guardn {QF : Fr → Prop} {j t : Nat} {p : Prop} [Decidable p] (hj : (ops[j]?).bind (·.dst) = some t) (ht : look t fr = some (.bool (decide p))) (hd : Nat.blt d C.N = true)
    (k1 : ¬ p → VQ C ops L QF (⟨some d, op, ty, pos, af, none⟩ :: l) ((t, .bool false) :: fr)) (k2 : p → VQ C ops L QF l ((d, undef) :: (t, .bool true) :: fr)) :
    VQ C ops L QF (⟨some d, op, ty, pos, af, some (j, false)⟩ :: l) fr :=
  vq_guard hj ht hd (fun h => k1 (of_decide_eq_false h)) (fun h => k2 (of_decide_eq_true h))
end
end Go.Proofs.Ytpamjobiohbibaa
namespace Go.Proofs.Ytpamjobiohbibaa
open Go.RowKit
set_option linter.unusedVariables false
theorem own_to {w : World} {base : Nat} {e : TypeId} {v : Value} {n m : Nat} {xs ys : List Value} (h : w.ownsRow base e 1 v n xs) (hn : n = m) (hx : xs = ys) : w.ownsRow base e 1 v m ys := by subst hn; subst hx; exact h
/-- texts as_ values -/
def strs (l : List (List UInt8)) : List Value := l.map fun t => .string ⟨t.toArray⟩
@[simp] theorem strs_append (l k : List (List UInt8)) : strs (l ++ k) = strs l ++ strs k := by simp [strs]
@[simp] theorem strs_length (l : List (List UInt8)) : (strs l).length = l.length := by simp [strs]
theorem strs_one (l : List (List UInt8)) : ∀ u ∈ strs l, u.oneCell' = true := by
  intro u hu; obtain ⟨b, _, rfl⟩ := List.mem_map.1 hu; rfl
/-- numbers as_ values -/
def ints (k : IntKind) (l : List Int) : List Value := l.map (.int k)
@[simp] theorem ints_append (k : IntKind) (l r : List Int) : ints k (l ++ r) = ints k l ++ ints k r := by simp [ints]
@[simp] theorem ints_length (k : IntKind) (l : List Int) : (ints k l).length = l.length := by simp [ints]
theorem ints_one (k : IntKind) (l : List Int) : ∀ u ∈ ints k l, u.oneCell' = true := by
  intro u hu; obtain ⟨b, _, rfl⟩ := List.mem_map.1 hu; rfl
theorem w_i64 {x : Int} (h1 : -9223372036854775808 ≤ x) (h2 : x ≤ 9223372036854775807) : IntKind.i64.wrap x = x := by rw [IntKind.wrap_i64]; omega
theorem w_u64 {x : Int} (h1 : 0 ≤ x) (h2 : x < 18446744073709551616) : IntKind.u64.wrap x = x := by
  show x % 2 ^ 64 = x
  exact Int.emod_eq_of_lt h1 h2
theorem w_u8 {x : Int} (h1 : 0 ≤ x) (h2 : x < 256) : IntKind.u8.wrap x = x := by
  show x % 2 ^ 8 = x
  exact Int.emod_eq_of_lt h1 h2
theorem w_u16 {x : Int} (h1 : 0 ≤ x) (h2 : x < 65536) : IntKind.u16.wrap x = x := by
  show x % 2 ^ 16 = x
  exact Int.emod_eq_of_lt h1 h2
theorem int_to {k : IntKind} {a b : Int} (h : a = b) : some (Value.int k a) = some (.int k b) := by rw [h]
section
variable {C : Cx} {Q : Exit → Fr → List Ch → Prop} {fr fr' : Fr} {L L' : List Ch} {cd cd' : Code} {ops : Array Oper} {l : List Oper} {op : Op} {ty : TypeId} {pos : String} {af : Array Edge} {d : Nat} {v : Value}
variable {x y z : Operand} {k : IntKind} {m n : Int} {f : Ch → List Ch} {g o : Nat} {bt t e : TypeId} {cs : List Value}
def InJ (J : Fr → List Ch → Nat → Prop) (n : Nat) (Q : Exit → Fr → List Ch → Prop) : Exit → Fr → List Ch → Prop
  | .normal, fr, L => ∃ n', n' < n ∧ J fr L n'
  | e, fr, L => Q e fr L
theorem vc_loopJ (J : Fr → List Ch → Nat → Prop) (n0 : Nat) (h0 : J fr L n0) (round : ∀ n fr L, J fr L n → VC C cd (InJ J n Q) fr L) : VC C (.loop cd) Q fr L := fun a w ha hw => by
  refine wp_loop_ghost (fun n a w => ∃ fr L, J fr L n ∧ Agr C.N fr a ∧ SL C.B C.w0 L w) n0 ⟨fr, L, h0, ha, hw⟩ ?_
  rintro n a w ⟨fr, L, hJ, ha, hw⟩
  refine wp_mono (round n fr L hJ a w ha hw) fun e a w ⟨fr, L, ha, hs, hq⟩ => ?_
  cases e with
  | normal =>
    obtain ⟨n', k1, k2⟩ := hq
    exact ⟨n', k1, fr, L, k2, ha, hs⟩
  | _ => exact ⟨fr, L, ha, hs, hq⟩
theorem in_loop_ {J : Fr → List Ch → Nat → Prop} {n : Nat} (h : ∃ n', n' < n ∧ J fr L n') : InJ J n Q .normal fr L := h
theorem loop_exit {J : Fr → List Ch → Nat → Prop} {n i : Nat} (h : Q (.exit i) fr L) : InJ J n Q (.exit i) fr L := h
theorem loop_ret {J : Fr → List Ch → Nat → Prop} {n : Nat} (h : Q .ret fr L) : InJ J n Q .ret fr L := h
theorem then_exit {i : Nat} (h : Q (.exit i) fr L) : Then C cd Q (.exit i) fr L := h
theorem then_ret (h : Q .ret fr L) : Then C cd Q .ret fr L := h
def InM (J : Fr → List Ch → Prop) (Q : Exit → Fr → List Ch → Prop) : Exit → Fr → List Ch → Prop
  | .normal, fr, L => J fr L
  | e, fr, L => Q e fr L
/-- ways that meet: what holds of them all -/
theorem vc_seqJ (J : Fr → List Ch → Prop) (h1 : VC C cd (InM J Q) fr L) (h2 : ∀ fr L, J fr L → VC C cd' Q fr L) : VC C (.seq cd cd') Q fr L :=
  vc_seq fun a w ha hw => wp_mono (h1 a w ha hw) fun e a w ⟨fr, L, ha, hs, hq⟩ => by
    cases e with
    | normal => exact ⟨fr, L, ha, hs, h2 _ _ hq⟩
    | _ => exact ⟨fr, L, ha, hs, hq⟩
theorem in_join {J : Fr → List Ch → Prop} (h : J fr L) : InM J Q .normal fr L := h
theorem join_exit {J : Fr → List Ch → Prop} {i : Nat} (h : Q (.exit i) fr L) : InM J Q (.exit i) fr L := h
theorem join_ret {J : Fr → List Ch → Prop} (h : Q .ret fr L) : InM J Q .ret fr L := h
theorem in_exit {i id : Nat} (hi : Nat.beq i id = false) (h : Q (.exit i) fr L) : InB id Q (.exit i) fr L := in_ne hi h
theorem ret_drop {P : Program} {fn : Func} {R : Value → List Ch → Prop} {e : Exit} (hs : L'.Sublist L) (h : Ret P fn R e fr L') : Ret P fn R e fr L := by
  cases e <;> first
    | exact h
    | (intro B w0 a w ha hw; exact h B w0 a w ha (hw.sub hs))
theorem fn_walk {P : Program} {B : Nat} {w0 : World} {f : FuncId} {fn : Func} {c : Code} {args : List Value} {R : Value → List Ch → Prop} (hf : P.funcs[f]? = some fn) (N : Nat) (hN : fn.ntmps = N) (hb : fn.body = some c) (hl : Nat.ble args.length N = true) (fr0 : Fr) (hi : Ini N args fr0)
    (h : VC ⟨P, N, B, w0⟩ c (Ret P fn R) fr0 L) : Does P B w0 f args L R := by
  subst hN
  exact fn_of hf hb (Nat.le_of_ble_eq_true hl) fr0 hi h
theorem callable {P : Program} {f : FuncId} {fn : Func} (hf : P.funcs[f]? = some fn) (hn : (fn.name == "runtime.NumGoroutine") = false) (hb : fn.body.isSome = true) : Callable P f := by
  obtain ⟨c, hc⟩ := Option.isSome_iff_exists.1 hb
  exact ⟨fn, c, hf, hn, hc⟩
theorem bring1 {a b : Ch} (h : VL C ops Q l fr (b :: a :: L)) : VL C ops Q l fr (a :: b :: L) := vl_perm (.swap ..) h
theorem bring2 {a b c : Ch} (h : VL C ops Q l fr (c :: a :: b :: L)) : VL C ops Q l fr (a :: b :: c :: L) := vl_perm (((List.Perm.swap c b L).cons a).trans (.swap c a _)) h
theorem bring3 {a b c d : Ch} (h : VL C ops Q l fr (d :: a :: b :: c :: L)) : VL C ops Q l fr (a :: b :: c :: d :: L) := vl_perm ((((List.Perm.swap d c L).cons b).cons a).trans (((List.Perm.swap d b _).cons a).trans (.swap d a _))) h
theorem vc_bring1 {a b : Ch} (h : VC C cd Q fr (b :: a :: L)) : VC C cd Q fr (a :: b :: L) := vc_perm (.swap ..) h
theorem vc_bring2 {a b c : Ch} (h : VC C cd Q fr (c :: a :: b :: L)) : VC C cd Q fr (a :: b :: c :: L) := vc_perm (((List.Perm.swap c b L).cons a).trans (.swap c a _)) h
/-- a letter of a text -/
theorem det_at_str {s : List UInt8} {i : Nat} (ht : C.P.underlying t = some .string) (h : ev fr x = some (.string ⟨s.toArray⟩)) (h2 : ev fr y = some (.int k m)) (hm : m = (i : Int)) (hi : i < s.length) : Det C fr L (.index t x y) ty (.int .u8 ((s.getD i 0).toNat : Int)) :=
  det_index_str ht h h2 hm (by rw [List.getElem?_eq_getElem hi]; simp [List.getD, List.getElem?_eq_getElem hi])
section
variable {nn c j : Nat} {A : Option Addr}
theorem Bor.len {B : Nat} {w0 w : World} {L : List Ch} {size n : Nat} {v : Value} {xs : List Value} (h : Bor B w0 L size v n xs) (hw : SL B w0 L w) : xs.length = n * size := by
  obtain ⟨_, _, _, _, hl, _⟩ := h w hw
  exact hl
theorem det_load_u8 {b : List UInt8} (hs : isSc C.P t = true) (he : ev fr x = some (.pointer (A.map (·.add (j * 1))))) (hb : Bor C.B C.w0 L 1 (.slice A nn c) nn (bv b)) (hj : j < nn) : Det C fr L (.load t x) ty (.int .u8 ((b.getD j 0).toNat : Int)) := fun a w ha hw => by
  have hl := hb.len hw
  simp at hl
  rw [Nat.mul_one] at he
  refine det_load_row hs he hb (by omega) ?_ a w ha hw
  simp [bv, List.getD, List.getElem?_eq_getElem (show j < b.length by omega)]
theorem det_load_str {b : List (List UInt8)} (hs : isSc C.P t = true) (he : ev fr x = some (.pointer (A.map (·.add (j * 1))))) (hb : Bor C.B C.w0 L 1 (.slice A nn c) nn (strs b)) (hj : j < nn) : Det C fr L (.load t x) ty (.string ⟨(b.getD j []).toArray⟩) := fun a w ha hw => by
  have hl := hb.len hw
  simp at hl
  rw [Nat.mul_one] at he
  refine det_load_row hs he hb (by omega) ?_ a w ha hw
  simp [strs, List.getD, List.getElem?_eq_getElem (show j < b.length by omega)]
theorem det_load_int {b : List Int} {kk : IntKind} (hs : isSc C.P t = true) (he : ev fr x = some (.pointer (A.map (·.add (j * 1))))) (hb : Bor C.B C.w0 L 1 (.slice A nn c) nn (ints kk b)) (hj : j < nn) : Det C fr L (.load t x) ty (.int kk (b.getD j 0)) := fun a w ha hw => by
  have hl := hb.len hw
  simp at hl
  rw [Nat.mul_one] at he
  refine det_load_row hs he hb (by omega) ?_ a w ha hw
  simp [ints, List.getD, List.getElem?_eq_getElem (show j < b.length by omega)]
end
/-- 'append(s, v)' of one element of one cell -/
theorem eff_build1 {zv : Value} {bytes : Nat} (T : SlT C.P t e 1 bytes zv) (he : ev fr x = some v) (h1 : v.oneCell' = true) : Eff C fr L (.buildSlice t 1 #[(0, x)]) ty (fun p L' => ∃ A, p = .slice A 1 1 ∧ L' = .own e 1 A 1 1 [v] :: L) := fun a w ha hw d pos af gg => by
  obtain ⟨i, hi, hz, hsz, hby⟩ := T.hi
  have hv : v.cells = #[v] := by cases v <;> simp_all [Value.cells, Value.oneCell']
  have hzs := T.hz
  refine ⟨_, w.alloc (.cells #[v] e), _, .inl ?_, ⟨some ⟨w.heap.size, 0, none⟩, rfl, rfl⟩, hw.cons_new (World.grownBy_alloc w _ none) ⟨rfl, Nat.le_refl _, .inr ⟨_, _, rfl, hw.base, heap_alloc_new w _, by decide, rfl, rfl⟩⟩ (.inr ⟨w.heap.size, rfl, Nat.le_refl _⟩)⟩
  simp [execOp, Instr.buildSlice, run_underlying T.ht, sizeOf, typeInfo, zeroValue, hi, hz, hsz, ha.tmp he, Instr.fill, hv, hzs, newRow]
  simp [Array.range_succ, Array.range_zero']
theorem vl_push {zv : Value} {bytes d1 d2 : Nat} {ty1 ty2 : TypeId} {pos1 pos2 : String} {af1 af2 : Array Edge} {s : Operand} {A : Option Addr} {n c : Nat} {xs : List Value} (T : SlT C.P t e 1 bytes zv) (he : ev fr x = some v) (h1 : v.oneCell' = true) (hd1 : Nat.blt d1 C.N = true) (hd2 : Nat.blt d2 C.N = true)
    (hs : ev ((d1, .slice none 0 0) :: fr) s = some (.slice A n c)) (hsn : ∀ u, ev ((d1, u) :: fr) s = ev ((d1, .slice none 0 0) :: fr) s) (hl : Sel (.own e 1 A n c xs) L f) (hbytes : (n + 1) * bytes ≤ 140737488355328) (h63 : n + 1 ≤ 140737488355328)
    (kk : ∀ A1 A' c', VL C ops Q l ((d2, .slice A' (n + 1) c') :: (d1, .slice A1 1 1) :: fr) (f (.own e 1 A' (n + 1) c' (xs ++ [v])))) :
    VL C ops Q (⟨some d1, .buildSlice t 1 #[(0, x)], ty1, pos1, af1, none⟩ :: ⟨some d2, .call { callee := .builtin .append, args := #[s, .tmp d1], argTypes := #[t, t] }, ty2, pos2, af2, none⟩ :: l) fr L := by
  refine vl_eff (eff_build1 T he h1) hd1 ?_
  rintro _ _ ⟨A1, rfl, rfl⟩
  refine vl_eff (eff_app (m := 1) (news := [v]) T ((hsn _).trans hs) (.tl hl) (yv := .slice A1 1 1) (by simp [ev, look]) (Bor.own (List.Mem.head _)) (by simp [h1]) hbytes h63) hd2 ?_
  rintro _ _ ⟨A2, c2, rfl, rfl⟩
  intro a w ha hw
  exact kk A1 A2 c2 a w ha hw.tail
theorem bool_to {p q : Prop} [Decidable p] [Decidable q] (h : p ↔ q) : some (Value.bool (decide p)) = some (.bool (decide q)) := by rw [decide_eq_decide.2 h]
theorem bool_to_t {q : Prop} [Decidable q] (h : q) : some (Value.bool true) = some (.bool (decide q)) := by rw [decide_eq_true h]
theorem bool_to_f {q : Prop} [Decidable q] (h : ¬ q) : some (Value.bool false) = some (.bool (decide q)) := by rw [decide_eq_false h]
theorem bool_to_b {b : Bool} {q : Prop} [Decidable q] (h : b = true ↔ q) : some (Value.bool b) = some (.bool (decide q)) := by
  cases b
  · rw [decide_eq_false (by simpa using h)]
  · rw [decide_eq_true (by simpa using h)]
/-- ways within a region that meet at a test -/
theorem vl_cut (n d : Nat) (base : Fr) (p : Prop) [Decidable p] (hs : Sub fr base) (h1 : VL C ops (fun e fr L' => e = .normal ∧ L' = L ∧ Sub fr base ∧ look d fr = some (.bool (decide p))) (l.take n) fr L) (h2 : VL C ops Q (l.drop n) ((d, .bool (decide p)) :: base) L) : VL C ops Q l fr L := fun a w ha hw => by
  have hcat : ∀ (l1 l2 : List Oper) (a : Act) (w : World), wpList C.P ops (fun e a w => e = .normal ∧ wpList C.P ops (lift C Q) l2 a w) l1 a w → wpList C.P ops (lift C Q) (l1 ++ l2) a w := by
    intro l1 l2
    induction l1 with
    | nil => intro a w h; exact h.2
    | cons o l1 ih =>
      intro a w h
      rw [List.cons_append]
      unfold wpList at h ⊢
      split
      · rename_i hwt
        rw [if_pos hwt] at h
        rcases h with h | ⟨_, _, _, h, _⟩
        · refine .inl ?_
          unfold Oper.wp at h ⊢
          revert h
          generalize (execOp a.eval o).run C.P w = r
          intro h
          unfold Oper.upon at h ⊢
          split <;> simp only at h
          · exact ih _ _ h
          · exact ih _ _ h
          · exact ih _ _ h
          · refine Calls.mono h fun e w' he => ?_
            cases e with
            | returned v => exact ih _ _ he
            | panicked ch => cases he.1
            | outgrown => obtain ⟨_, _, h, _⟩ := he; cases h
          · exact Rows.mono h fun v w' he => ih _ _ he
          · cases h.1
        · cases h
      · rename_i hwt
        rw [if_neg hwt] at h
        exact ih _ _ h
  have := hcat (l.take n) (l.drop n) a w ?_
  · rwa [List.take_append_drop] at this
  · have hm : ∀ (l1 : List Oper) (a : Act) (w : World) {QQ QQ' : Exit → Act → World → Prop}, (∀ e a w, QQ e a w → QQ' e a w) → wpList C.P ops QQ l1 a w → wpList C.P ops QQ' l1 a w := by
      intro l1
      induction l1 with
      | nil => intro a w QQ QQ' hq h; exact hq _ _ _ h
      | cons o l1 ih =>
        intro a w QQ QQ' hq h
        unfold wpList at h ⊢
        split
        · rename_i hwt
          rw [if_pos hwt] at h
          rcases h with h | ⟨h1, a0, w0', h2⟩
          · refine .inl ?_
            unfold Oper.wp at h ⊢
            revert h
            generalize (execOp a.eval o).run C.P w = r
            intro h
            unfold Oper.upon at h ⊢
            split <;> simp only at h
            · exact ih _ _ hq h
            · exact ih _ _ hq h
            · exact ih _ _ hq h
            · refine Calls.mono h fun e w' he => ?_
              cases e with
              | returned v => exact ih _ _ hq he
              | panicked ch => exact hq _ _ _ he
              | outgrown => obtain ⟨a1, w1, h⟩ := he; exact ⟨a1, w1, hq _ _ _ h⟩
            · exact Rows.mono h fun v w' he => ih _ _ hq he
            · exact hq _ _ _ h
          · exact .inr ⟨h1, a0, w0', hq _ _ _ h2⟩
        · rename_i hwt
          rw [if_neg hwt] at h
          exact ih _ _ hq h
    refine hm _ _ _ ?_ (h1 a w ha hw)
    rintro e a w ⟨fr', L', ha', hw', rfl, rfl, hb, hd⟩
    refine ⟨rfl, h2 a w ⟨ha'.defers, ha'.size, fun t v ht => ?_⟩ hw'⟩
    unfold look at ht
    cases hbe : Nat.beq d t with
    | true =>
      have := Nat.eq_of_beq_eq_true hbe
      subst this
      rw [hbe] at ht
      simp only [cond_true, Option.some.injEq] at ht
      subst ht
      exact ha'.at_ _ _ hd
    | false =>
      rw [hbe] at ht
      exact ha'.at_ _ _ (hb.look _ _ ht)
theorem vl_cut_end {base : Fr} {d : Nat} {u : Value} (hb : Sub fr base) (hd : look d fr = some u) : VL C ops (fun e fr L' => e = .normal ∧ L' = L ∧ Sub fr base ∧ look d fr = some u) [] fr L := fun a w ha hw => wpList_nil ⟨fr, L, ha, hw, rfl, rfl, hb, hd⟩
theorem vq_cut {QF : Fr → Prop} (n d : Nat) (base : Fr) (p : Prop) [Decidable p] (hs : Sub fr base) (h1 : VQ C ops L (fun fr => Sub fr base ∧ look d fr = some (.bool (decide p))) (l.take n) fr) (h2 : VQ C ops L QF (l.drop n) ((d, .bool (decide p)) :: base)) : VQ C ops L QF l fr := fun a ha => by
  have hcat : ∀ (l1 l2 : List Oper) (a : Act) {QQ : Act → Prop}, wpQuiet C.P ops (SL C.B C.w0 L) (fun a => wpQuiet C.P ops (SL C.B C.w0 L) QQ l2 a) l1 a → wpQuiet C.P ops (SL C.B C.w0 L) QQ (l1 ++ l2) a := by
    intro l1 l2
    induction l1 with
    | nil => intro a QQ h; exact h
    | cons o l1 ih =>
      intro a QQ h
      rw [List.cons_append]
      unfold wpQuiet at h ⊢
      split
      · rename_i hw; rw [if_pos hw] at h; exact Oper.quiet_mono (fun a h => ih a h) h
      · rename_i hw; rw [if_neg hw] at h; exact ih _ h
  have hmono : ∀ (l : List Oper) (a : Act) {QQ QQ' : Act → Prop}, (∀ a, QQ a → QQ' a) → wpQuiet C.P ops (SL C.B C.w0 L) QQ l a → wpQuiet C.P ops (SL C.B C.w0 L) QQ' l a := by
    intro l
    induction l with
    | nil => intro a QQ QQ' hq h; exact hq _ h
    | cons o l ih =>
      intro a QQ QQ' hq h
      unfold wpQuiet at h ⊢
      split
      · rename_i hw; rw [if_pos hw] at h; exact Oper.quiet_mono (fun a h => ih a hq h) h
      · rename_i hw; rw [if_neg hw] at h; exact ih _ hq h
  have := hcat (l.take n) (l.drop n) a (QQ := fun a' => ∃ fr', Agr C.N fr' a' ∧ QF fr') (hmono _ _ (fun a h => ?_) (h1 a ha))
  · rwa [List.take_append_drop] at this
  · obtain ⟨fr', ha', hb, hd⟩ := h
    refine h2 a ⟨ha'.defers, ha'.size, fun t v ht => ?_⟩
    unfold look at ht
    cases hbe : Nat.beq d t with
    | true =>
      have := Nat.eq_of_beq_eq_true hbe
      subst this
      rw [hbe] at ht
      simp only [cond_true, Option.some.injEq] at ht
      subst ht
      exact ha'.at_ _ _ hd
    | false =>
      rw [hbe] at ht
      exact ha'.at_ _ _ (hb.look _ _ ht)
theorem vq_cut_end {base : Fr} {d : Nat} {u : Value} (hb : Sub fr base) (hd : look d fr = some u) : VQ C ops L (fun fr => Sub fr base ∧ look d fr = some u) [] fr := fun a ha => wpQuiet_nil ⟨fr, ha, hb, hd⟩
theorem det_notd {p : Prop} [Decidable p] {xt : TypeId} (h : ev fr x = some (.bool (decide p))) : Det C fr L (.unOp .not xt x) ty (.bool (decide (¬ p))) := fun a w ha hw d pos af g => by
  have e : (!decide p) = decide (¬ p) := by by_cases hp : p <;> simp [hp]
  rw [← e]
  exact det_not h a w ha hw d pos af g
theorem det_conv_str {s t : TypeId} {b : ByteArray} (hs : C.P.underlying s = some .string) (ht : C.P.underlying t = some .string) (h : ev fr x = some (.string b)) : Det C fr L (.convert s t x) ty (.string b) := fun a w ha hw d pos af g => by
  simp [execOp, ha.tmp h, convert, run_underlying hs, run_underlying ht]
theorem eff_alloc_z {zv : Value} (hz : (C.P.info? e).bind (·.zero) = some zv) (hc : zv.cells = cs.toArray) : Eff C fr L (.alloc e) ty (fun p L' => ∃ g, p = .pointer (some ⟨g, 0, none⟩) ∧ L' = .blk g e cs :: L) := by
  cases hi : C.P.info? e with
  | none => rw [hi] at hz; cases hz
  | some i =>
    rw [hi] at hz
    exact eff_alloc hi hz hc
theorem vl_push_nil {zv : Value} {bytes d1 d2 : Nat} {ty1 ty2 : TypeId} {pos1 pos2 : String} {af1 af2 : Array Edge} {s : Operand} {A : Option Addr} (T : SlT C.P t e 1 bytes zv) (he : ev fr x = some v) (h1 : v.oneCell' = true) (hd1 : Nat.blt d1 C.N = true) (hd2 : Nat.blt d2 C.N = true)
    (hs : ev ((d1, .slice none 0 0) :: fr) s = some (.slice A 0 0)) (hsn : ∀ u, ev ((d1, u) :: fr) s = ev ((d1, .slice none 0 0) :: fr) s) (hbytes : 1 * bytes ≤ 140737488355328)
    (kk : ∀ A1 A' c', VL C ops Q l ((d2, .slice A' 1 c') :: (d1, .slice A1 1 1) :: fr) (.own e 1 A' 1 c' [v] :: L)) :
    VL C ops Q (⟨some d1, .buildSlice t 1 #[(0, x)], ty1, pos1, af1, none⟩ :: ⟨some d2, .call { callee := .builtin .append, args := #[s, .tmp d1], argTypes := #[t, t] }, ty2, pos2, af2, none⟩ :: l) fr L := by
  refine vl_eff (eff_build1 T he h1) hd1 ?_
  rintro _ _ ⟨A1, rfl, rfl⟩
  refine vl_eff (eff_app_nil (m := 1) (news := [v]) T ((hsn _).trans hs) (yv := .slice A1 1 1) (by simp [ev, look]) (Bor.own (List.Mem.head _)) (by simp [h1]) hbytes (by omega)) hd2 ?_
  rintro _ _ ⟨A2, c2, rfl, rfl⟩
  intro a w ha hw
  exact kk A1 A2 c2 a w ha (hw.sub (.cons_cons _ (.cons _ (.refl _))))
theorem det_len_s {t : TypeId} {s : List UInt8} (ht : C.P.underlying t = some .string) (h : ev fr x = some (.string ⟨s.toArray⟩)) : Det C fr L (.call { callee := .builtin .len, args := #[x], argTypes := #[t] }) ty (.int .i64 (s.length : Int)) := by
  have := det_len_str (L := L) (ty := ty) ht h
  rwa [size_mk] at this
theorem perm_own {e : TypeId} {size n n' c : Nat} {A : Option Addr} {xs ys : List Value} (hn : n = n') (h : xs = ys) : (Ch.own e size A n c xs :: L).Perm (Ch.own e size A n' c ys :: L) := by subst hn; subst h; exact .refl _
theorem take_getD {α : Type} {l : List α} {k : Nat} (h : k < l.length) (d : α) : l.take (k + 1) = l.take k ++ [l.getD k d] := by
  rw [List.take_succ_eq_append_getElem h]; simp [List.getD, List.getElem?_eq_getElem h]
theorem drop_getD {α : Type} {l : List α} {k : Nat} (h : k < l.length) (d : α) : l.drop k = l.getD k d :: l.drop (k + 1) := by
  rw [List.drop_eq_getElem_cons h]; simp [List.getD, List.getElem?_eq_getElem h]
theorem getD_mem {α : Type} {l : List α} {k : Nat} (h : k < l.length) (d : α) : l.getD k d ∈ l := by
  simp [List.getD, List.getElem?_eq_getElem h]
theorem Does.of_own {P : Program} {B : Nat} {w0 : World} {ff : FuncId} {args : List Value} {size n : Nat} {xs : List Value} (h : ∀ w, SL B w0 L w → Calls P ff args.toArray w fun e' w' => ∃ v, e' = .returned v ∧ w'.ownsRow w.heap.size e size v n xs ∧ Below w.heap.size w w') :
    Does P B w0 ff args L (fun r L' => ∃ A c, r = .slice A n c ∧ L' = .own e size A n c xs :: L) := fun w hw => (h w hw).mono fun e' w' ⟨v, he, ho, hb⟩ => by
  have hg : w.grownBy w' none := ⟨hb.os, hb.tape, hb.output, hb.size, fun k hk _ => hb.block k hk⟩
  rcases ho.2 with ⟨rfl, rfl⟩ | ⟨g, cap, cur, rfl, h1, h2, h3, h4, h5, h6⟩
  · exact ⟨_, _, he, ⟨none, 0, rfl, rfl⟩, hw.cons_new hg ⟨ho.1, Nat.le_refl _, .inl rfl⟩ (.inl rfl)⟩
  · refine ⟨_, _, he, ⟨_, _, rfl, rfl⟩, hw.cons_new hg ⟨ho.1, h3, .inr ⟨g, cur, rfl, Nat.le_trans hw.base h1, h2, h4, h5, h6⟩⟩ ?_⟩
    by_cases hc : cap = 0
    · left; simp [Ch.fp, hc]
    · right; exact ⟨g, by simp [Ch.fp, hc], h1⟩
/-- a callee that turns nothing that is there is walked from its own world on -/
theorem Does.pure {P : Program} {B : Nat} {w0 : World} {ff : FuncId} {args : List Value} {R : Value → List Ch → Prop} (h : ∀ w, SL B w0 L w → Does P w.heap.size w ff args [] R) : Does P B w0 ff args L (fun r L' => ∃ M, R r M ∧ L' = M ++ L) := fun w hw =>
  (h w hw w (SL.nil_ w)).mono fun e w' ⟨v, M, he, hR, hs⟩ => by
    have hw' := hw.pure_call hs.below
    refine ⟨v, _, he, ⟨M, hR, rfl⟩, hw'.below, hw'.base, fun c hc => ?_, List.pairwise_append.2 ⟨hs.apart, hw'.apart, fun c hc d hd => ?_⟩⟩
    · rcases List.mem_append.1 hc with hc | hc
      · have := hs.all c hc
        cases c with
        | own e size A n cc xs =>
          obtain ⟨k1, k2, k3⟩ := this
          exact ⟨k1, k2, k3.imp id fun ⟨g, cur, q1, q2, q3⟩ => ⟨g, cur, q1, Nat.le_trans hw.base q2, q3⟩⟩
        | blk g t cs => exact ⟨Nat.le_trans hw.base this.1, this.2⟩
        | obj g o => exact ⟨Nat.le_trans hw.base this.1, this.2⟩
      · exact hw'.all c hc
    · by_cases hn : c.fp = none
      · exact .inl hn
      · refine .inr fun e => ?_
        obtain ⟨g, hg⟩ := Option.ne_none_iff_exists'.1 hn
        have h1 := ((hs.all c hc).lt hg).1
        have h2 := ((hw.all d hd).lt (e.symm.trans hg)).2
        omega
theorem vc_decideU {tt : Nat} {p : Prop} [Decidable p] (hc : look tt fr = some (.bool (decide p))) (ht : p → VC C cd Q ((tt, .bool true) :: fr) L) (hf : ¬ p → VC C cd' Q ((tt, .bool false) :: fr) L) : VC C (.cond (.tmp tt) cd cd') Q fr L := fun a w ha hw =>
  vc_decide (C := C) (Q := Q) (fr := fr) (c := .tmp tt) hc (fun h a w ha hw => ht h a w (ha.bool hc (decide_eq_true h)) hw) (fun h a w ha hw => hf h a w (ha.bool hc (decide_eq_false h)) hw) a w ha hw
theorem vc_condU {tt : Nat} {b : Bool} (hc : look tt fr = some (.bool b)) (ht : b = true → VC C cd Q ((tt, .bool true) :: fr) L) (hf : b = false → VC C cd' Q ((tt, .bool false) :: fr) L) : VC C (.cond (.tmp tt) cd cd') Q fr L := fun a w ha hw =>
  vc_cond (C := C) (Q := Q) (fr := fr) (c := .tmp tt) hc (fun h a w ha hw => ht h a w (ha.bool hc h) hw) (fun h a w ha hw => hf h a w (ha.bool hc h) hw) a w ha hw
/-- what is owned holds what is named, and more -/
def Wk (L L' : List Ch) : Prop := ∃ M, L.Perm (L' ++ M)
theorem Wk.refl (L : List Ch) : Wk L L := ⟨[], by rw [List.append_nil]⟩
theorem Wk.of_perm (h : L.Perm L') : Wk L L' := ⟨[], by rwa [List.append_nil]⟩
theorem Wk.skip {c : Ch} (h : Wk L L') : Wk (c :: L) L' := by
  obtain ⟨M, h⟩ := h
  exact ⟨c :: M, (h.cons c).trans (List.perm_middle.symm)⟩
theorem Wk.cons {c : Ch} (h : Wk L L') : Wk (c :: L) (c :: L') := by
  obtain ⟨M, h⟩ := h
  exact ⟨M, h.cons c⟩
theorem Wk.swap {a b : Ch} (h : Wk (b :: a :: L) L') : Wk (a :: b :: L) L' := by
  obtain ⟨M, h⟩ := h
  exact ⟨M, (List.Perm.swap b a L).trans h⟩
theorem Wk.trans {L'' : List Ch} (h : Wk L L') (k : Wk L' L'') : Wk L L'' := by
  obtain ⟨M, h⟩ := h
  obtain ⟨N, k⟩ := k
  exact ⟨N ++ M, h.trans ((k.append_right M).trans (by rw [List.append_assoc]))⟩
theorem Wk.sl {B : Nat} {w0 w : World} (h : Wk L L') (hs : SL B w0 L w) : SL B w0 L' w := by
  obtain ⟨M, h⟩ := h
  exact (hs.perm h).sub (List.sublist_append_left _ _)
theorem vc_wk (h : Wk L L') (k : VC C cd Q fr L') : VC C cd Q fr L := fun a w ha hw => k a w ha (h.sl hw)
theorem vl_wk (h : Wk L L') (k : VL C ops Q l fr L') : VL C ops Q l fr L := fun a w ha hw => k a w ha (h.sl hw)
theorem wk_own {e : TypeId} {size n n' c : Nat} {A : Option Addr} {xs ys : List Value} (hn : n = n') (h : xs = ys) (t : Wk L L') : Wk (Ch.own e size A n c xs :: L) (Ch.own e size A n' c ys :: L') := by subst hn; subst h; exact t.cons
theorem wk_blk {g : Nat} {t : TypeId} {xs ys : List Value} (h : xs = ys) (k : Wk L L') : Wk (Ch.blk g t xs :: L) (Ch.blk g t ys :: L') := by subst h; exact k.cons
theorem ret_wk {P : Program} {fn : Func} {R : Value → List Ch → Prop} {ee : Exit} (hs : Wk L L') (h : Ret P fn R ee fr L') : Ret P fn R ee fr L := by
  cases ee <;> first
    | exact h
    | (intro B w0 a w ha hw; exact h B w0 a w ha (hs.sl hw))
end
end Go.Proofs.Ytpamjobiohbibaa
namespace Go.Proofs.Ytpamjobiohbibaa
open Go.RowKit
set_option linter.unusedVariables false
section
variable {C : Cx} {Q : Exit → Fr → List Ch → Prop} {fr fr' : Fr} {L L' S : List Ch} {ops : Array Oper} {op : Op} {ty : TypeId} {pos : String} {af : Array Edge} {d : Nat} {v : Value} {fuel : Nat} {li : Array Bool}
def VH (C : Cx) (ops : Array Oper) (S : List Ch) (Q : Exit → Fr → List Ch → Prop) (fuel : Nat) (li : Array Bool) (fr : Fr) (L : List Ch) : Prop :=
  ∀ a w, Agr C.N fr a → SL C.B C.w0 L w → SL C.B C.w0 S w → wpAnyH C.P .any ops (NoPanic (lift C Q)) (SL C.B C.w0 S) fuel li a w
theorem vh_region {id : Nat} {l : List Oper} (hm : C.P.follows .mixedOrders = true) (hS : S.Sublist L) (h : VH C l.toArray S Q l.toArray.size (Array.replicate l.toArray.size false) fr L) : VC C (.region id l.toArray true) Q fr L := fun a w ha hw =>
  wp_region_noPanic (wp_region_held hm (h a _ ha (hw.drewN 1) ((hw.drewN 1).sub hS)))
theorem vh_take (i : Nat) (ho : ops[i]? = some ⟨some d, op, ty, pos, af, none⟩) (hs : Region.noSelect ops = true) (hf : Region.free .any ops li i = true) (hr : (Region.ready .any ops li).contains i = true) (h : Det C fr S op ty v) (hd : Nat.blt d C.N = true)
    (k : VH C ops S Q fuel (li.setIfInBounds i true) ((d, v) :: fr) L) : VH C ops S Q (fuel + 1) li fr L := fun a w ha hw hS =>
  wpAnyH_take ho hs hf hr (fun _ _ _ h => h) (.inl ⟨rfl, fun w hw => h a w ha hw _ _ _ _⟩) hS (k _ w (ha.put hd v) hw hS)
theorem vh_take_g (i : Nat) {j t : Nat} {want : Bool} (ho : ops[i]? = some ⟨some d, op, ty, pos, af, some (j, want)⟩) (hs : Region.noSelect ops = true) (hf : Region.free .any ops li i = true) (hr : (Region.ready .any ops li).contains i = true) (hj : (ops[j]?).bind (·.dst) = some t) (ht : look t fr = some (.bool want))
    (h : Det C fr S op ty v) (hd : Nat.blt d C.N = true) (k : VH C ops S Q fuel (li.setIfInBounds i true) ((d, v) :: fr) L) : VH C ops S Q (fuel + 1) li fr L := fun a w ha hw hS =>
  wpAnyH_take ho hs hf hr (fun _ _ _ h => h) (.inl ⟨by rw [wanted_iff hj (ha.at_ _ _ ht)]; simp, fun w hw => h a w ha hw _ _ _ _⟩) hS (k _ w (ha.put hd v) hw hS)
theorem vh_take_f (i : Nat) {j t : Nat} {want b : Bool} (ho : ops[i]? = some ⟨some d, op, ty, pos, af, some (j, want)⟩) (hs : Region.noSelect ops = true) (hf : Region.free .any ops li i = true) (hr : (Region.ready .any ops li).contains i = true) (hj : (ops[j]?).bind (·.dst) = some t) (ht : look t fr = some (.bool b)) (hb : (b == want) = false)
    (hd : Nat.blt d C.N = true) (k : VH C ops S Q fuel (li.setIfInBounds i true) ((d, undef) :: fr) L) : VH C ops S Q (fuel + 1) li fr L := fun a w ha hw hS =>
  wpAnyH_take ho hs hf hr (fun _ _ _ h => h) (.inr ⟨by rw [wanted_iff hj (ha.at_ _ _ ht)]; exact hb, rfl⟩) hS (k _ w (ha.put hd _) hw hS)
theorem vh_take_u (i : Nat) {j t : Nat} {want : Bool} (ho : ops[i]? = some ⟨some d, op, ty, pos, af, some (j, want)⟩) (hs : Region.noSelect ops = true) (hf : Region.free .any ops li i = true) (hr : (Region.ready .any ops li).contains i = true) (hj : (ops[j]?).bind (·.dst) = some t) (ht : look t fr = some undef)
    (hd : Nat.blt d C.N = true) (k : VH C ops S Q fuel (li.setIfInBounds i true) ((d, undef) :: fr) L) : VH C ops S Q (fuel + 1) li fr L := fun a w ha hw hS =>
  wpAnyH_take ho hs hf hr (fun _ _ _ h => h) (.inr ⟨wanted_undef hj (ha.at_ _ _ ht), rfl⟩) hS (k _ w (ha.put hd _) hw hS)
/-- a test in a slot is decided -/
theorem vh_split (t : Nat) {p : Prop} [Decidable p] (ht : look t fr = some (.bool (decide p))) (k1 : p → VH C ops S Q fuel li ((t, .bool true) :: fr) L) (k2 : ¬ p → VH C ops S Q fuel li ((t, .bool false) :: fr) L) : VH C ops S Q fuel li fr L := fun a w ha hw hS => by
  by_cases hp : p
  · exact k1 hp a w (ha.bool ht (decide_eq_true hp)) hw hS
  · exact k2 hp a w (ha.bool ht (decide_eq_false hp)) hw hS
theorem vh_splitb (t : Nat) {b : Bool} (ht : look t fr = some (.bool b)) (k1 : b = true → VH C ops S Q fuel li ((t, .bool true) :: fr) L) (k2 : b = false → VH C ops S Q fuel li ((t, .bool false) :: fr) L) : VH C ops S Q fuel li fr L := fun a w ha hw hS => by
  cases hb : b
  · exact k2 hb a w (ha.bool ht hb) hw hS
  · exact k1 hb a w (ha.bool ht hb) hw hS
/-- one operation that is carried out -/
def Step (C : Cx) (ops : Array Oper) (S : List Ch) (Q : Exit → Fr → List Ch → Prop) (fuel : Nat) (li : Array Bool) (fr : Fr) (L : List Ch) (i : Nat) : Prop :=
  ∀ a w, Agr C.N fr a → SL C.B C.w0 L w → SL C.B C.w0 S w → wpOp C.P ops (NoPanic (lift C Q)) i (fun a' w' => SL C.B C.w0 S w' ∧ wpAnyH C.P .any ops (NoPanic (lift C Q)) (SL C.B C.w0 S) fuel (li.setIfInBounds i true) a' w') a w
theorem vh_one (i : Nat) (hr : Region.ready .any ops li = [i]) (h : Step C ops S Q fuel li fr L i) : VH C ops S Q (fuel + 1) li fr L := fun a w ha hw hS =>
  wpAnyH_all hr (by simp) fun j hj => by rw [List.mem_singleton.1 hj]; exact h a w ha hw hS
theorem vh_two (i j : Nat) (hr : Region.ready .any ops li = [i, j]) (h1 : Step C ops S Q fuel li fr L i) (h2 : Step C ops S Q fuel li fr L j) : VH C ops S Q (fuel + 1) li fr L := fun a w ha hw hS =>
  wpAnyH_all hr (by simp) fun k hk => by
    rcases List.mem_cons.1 hk with rfl | hk
    · exact h1 a w ha hw hS
    · rw [List.mem_singleton.1 hk]; exact h2 a w ha hw hS
theorem vh_three (i j k : Nat) (hr : Region.ready .any ops li = [i, j, k]) (h1 : Step C ops S Q fuel li fr L i) (h2 : Step C ops S Q fuel li fr L j) (h3 : Step C ops S Q fuel li fr L k) : VH C ops S Q (fuel + 1) li fr L := fun a w ha hw hS =>
  wpAnyH_all hr (by simp) fun q hq => by
    rcases List.mem_cons.1 hq with rfl | hq
    · exact h1 a w ha hw hS
    · rcases List.mem_cons.1 hq with rfl | hq
      · exact h2 a w ha hw hS
      · rw [List.mem_singleton.1 hq]; exact h3 a w ha hw hS
/-- a guard that lets the operation be carried out -/
inductive Gd (ops : Array Oper) (fr : Fr) : Option (Nat × Bool) → Prop where
  | no : Gd ops fr none
  | yes {j t : Nat} {want : Bool} (hj : (ops[j]?).bind (·.dst) = some t) (ht : look t fr = some (.bool want)) : Gd ops fr (some (j, want))
theorem Gd.wanted {g : Option (Nat × Bool)} {dd : Option Tmp} {a : Act} {N : Nat} (h : Gd ops fr g) (ha : Agr N fr a) : Region.wanted ⟨dd, op, ty, pos, af, g⟩ (yielded ops a.tmps) = true := by
  cases h with
  | no => rfl
  | yes hj ht => rw [wanted_iff hj (ha.at_ _ _ ht)]; simp
theorem st_eff {i : Nat} {R : Value → List Ch → Prop} {g : Option (Nat × Bool)} (ho : ops[i]? = some ⟨some d, op, ty, pos, af, g⟩) (hg : Gd ops fr g) (h : Eff C fr L op ty R) (hd : Nat.blt d C.N = true) (hS : ∀ v L', R v L' → S.Sublist L')
    (k : ∀ v L', R v L' → VH C ops S Q fuel (li.setIfInBounds i true) ((d, v) :: fr) L') : Step C ops S Q fuel li fr L i := fun a w ha hw _ => by
  obtain ⟨v, w', L', hr, hR, hs⟩ := h a w ha hw (some d) pos af g
  unfold wpOp
  simp only [ho]
  rw [if_pos (hg.wanted ha)]
  refine .inl ?_
  unfold Oper.wp
  have hs2 := hs.sub (hS v L' hR)
  rcases hr with hr | ⟨hr, rfl⟩ <;> rw [hr] <;> exact ⟨hs2, k _ _ hR _ _ (ha.put hd _) hs hs2⟩
theorem st_eff0 {i : Nat} {R : Value → List Ch → Prop} {g : Option (Nat × Bool)} (ho : ops[i]? = some ⟨none, op, ty, pos, af, g⟩) (hg : Gd ops fr g) (h : Eff C fr L op ty R) (hS : ∀ v L', R v L' → S.Sublist L')
    (k : ∀ v L', R v L' → VH C ops S Q fuel (li.setIfInBounds i true) fr L') : Step C ops S Q fuel li fr L i := fun a w ha hw _ => by
  obtain ⟨v, w', L', hr, hR, hs⟩ := h a w ha hw none pos af g
  unfold wpOp
  simp only [ho]
  rw [if_pos (hg.wanted ha)]
  refine .inl ?_
  unfold Oper.wp
  have hs2 := hs.sub (hS v L' hR)
  rcases hr with hr | ⟨hr, rfl⟩ <;> rw [hr] <;> exact ⟨hs2, k _ _ hR _ _ ha hs hs2⟩
theorem st_call {i : Nat} {ff : FuncId} {as_ : List Operand} {ats : Array TypeId} {vs : List Value} {R : Value → List Ch → Prop} {g : Option (Nat × Bool)} (ho : ops[i]? = some ⟨some d, .call { callee := .value (.func ff), args := as_.toArray, argTypes := ats }, ty, pos, af, g⟩) (hg : Gd ops fr g) (hc : Callable C.P ff) (he : evs fr as_ = some vs) (h : Does C.P C.B C.w0 ff vs L R) (hd : Nat.blt d C.N = true) (hS : ∀ v L', R v L' → S.Sublist L')
    (k : ∀ v L', R v L' → VH C ops S Q fuel (li.setIfInBounds i true) ((d, v) :: fr) L') : Step C ops S Q fuel li fr L i := fun a w ha hw _ => by
  unfold wpOp
  simp only [ho]
  rw [if_pos (hg.wanted ha)]
  refine .inl ?_
  unfold Oper.wp
  rw [execOp_callv hc (fst := #[]) (cap := #[]) rfl, ha.evs he, Array.append_empty, Array.empty_append]
  refine Calls.mono (h w hw) fun e w' ⟨v, L', he, hR, hs⟩ => ?_
  subst he
  have hs2 := hs.sub (hS v L' hR)
  exact ⟨hs2, k _ _ hR _ _ (ha.put hd _) hs hs2⟩
theorem st_det {i : Nat} {g : Option (Nat × Bool)} (ho : ops[i]? = some ⟨some d, op, ty, pos, af, g⟩) (hg : Gd ops fr g) (h : Det C fr L op ty v) (hd : Nat.blt d C.N = true) (hS : S.Sublist L)
    (k : VH C ops S Q fuel (li.setIfInBounds i true) ((d, v) :: fr) L) : Step C ops S Q fuel li fr L i := fun a w ha hw _ => by
  unfold wpOp
  simp only [ho]
  rw [if_pos (hg.wanted ha)]
  refine .inl ?_
  unfold Oper.wp
  rw [h a w ha hw]
  exact ⟨hw.sub hS, k _ _ (ha.put hd _) hw (hw.sub hS)⟩
theorem vh_done (base : Fr) (hs : Sub fr base) (hr : Region.ready .any ops li = []) (h : Q .normal base L) : VH C ops S Q fuel li fr L := fun a w ha hw _ => wpAnyH_done hr (show NoPanic (lift C Q) .normal a w from ⟨base, L, ha.sub hs, hw, h⟩) _
/-! ### Rows that are laid out -/
def evp (fr : Fr) : Nat → List (Nat × Operand) → Option (List Value)
  | _, [] => some []
  | k, (i, x) :: r => bif Nat.beq i k then (match ev fr x, evp fr (k + 1) r with
    | some v, some vs => some (v :: vs)
    | _, _ => none) else none
theorem fill_seq {a : Act} {N : Nat} (ha : Agr N fr a) : ∀ (parts : List (Nat × Operand)) (k : Nat) (vs : List Value) (cells : Array Value), evp fr k parts = some vs → (∀ u ∈ vs, u.oneCell' = true) → k + vs.length ≤ cells.size →
    ∃ out, Instr.fill (fun i => some (i * 1, 1)) cells (parts.map fun p => (p.1, a.eval p.2)) = some out ∧ out.size = cells.size ∧ (∀ j, j < k → out[j]? = cells[j]?) ∧ (∀ j, j < vs.length → out[k + j]? = vs[j]?)
  | [], k, vs, cells, h, _, _ => by
    simp [evp] at h
    subst h
    exact ⟨cells, rfl, rfl, fun _ _ => rfl, fun j hj => absurd hj (by simp)⟩
  | (i, x) :: r, k, vs, cells, h, h1, hl => by
    unfold evp at h
    cases hb : Nat.beq i k with
    | false => rw [hb] at h; cases h
    | true =>
      rw [hb] at h
      have hik := Nat.eq_of_beq_eq_true hb
      subst hik
      simp only [cond_true] at h
      split at h
      · rename_i v vs' e1 e2
        injection h with h
        subst h
        have hv1 := h1 v (by simp)
        have hv : v.cells = #[v] := by cases v <;> simp_all [Value.cells, Value.oneCell']
        simp only [List.length_cons] at hl
        obtain ⟨out, q1, q2, q3, q4⟩ := fill_seq ha r (i + 1) vs' (cells.setIfInBounds i v) e2 (fun u hu => h1 u (by simp [hu])) (by simp; omega)
        refine ⟨out, ?_, by simpa using q2, fun j hj => ?_, fun j hj => ?_⟩
        · simp only [List.map_cons, ha.tmp e1, Instr.fill, hv]
          have : ¬ (cells.size < i + 1) := by omega
          simp only [Nat.mul_one] at q1
          simp [this, q1]
        · rw [q3 j (by omega)]
          simp [show ¬ i = j by omega]
        · rcases j with _ | j
          · rw [Nat.add_zero, q3 i (by omega)]
            simp [show i < cells.size by omega]
          · have := q4 j (by simpa using hj)
            rw [show i + (j + 1) = i + 1 + j by omega, this]
            simp
      · cases h
theorem eff_build_lit {t e : TypeId} {kk bytes : Nat} {zv : Value} {parts : List (Nat × Operand)} (T : SlT C.P t e 1 bytes zv) (vs : List Value) (hp : evp fr 0 parts = some vs) (hk : vs.length = kk) (h1 : ∀ u ∈ vs, u.oneCell' = true) (hpos : 0 < kk) (hsm : kk ≤ 1048576) :
    Eff C fr L (.buildSlice t kk parts.toArray) ty (fun p L' => ∃ A, p = .slice A kk kk ∧ L' = .own e 1 A kk kk vs :: L) := fun a w ha hw d pos af gg => by
  obtain ⟨i, hi, hz, hsz, hby⟩ := T.hi
  obtain ⟨out, q1, q2, q3, q4⟩ := fill_seq ha parts 0 vs ((Array.range (kk * 1)).map (zv.cells[· % zv.cells.size]!)) hp h1 (by simp; omega)
  have hout : out = vs.toArray := by
    apply Array.ext
    · simp at q2; simp [q2, hk]
    · intro j h1 h2
      have := q4 j (by simpa using h2)
      rw [Nat.zero_add, Array.getElem?_eq_getElem h1] at this
      simp at h2
      rw [List.getElem?_eq_getElem h2] at this
      simpa using this
  rw [hout] at q1
  have hkk : ¬ (16777216 < kk) := by omega
  have hk0 : ¬ kk = 0 := by omega
  refine ⟨_, w.alloc (.cells vs.toArray e), _, .inl ?_, ⟨some ⟨w.heap.size, 0, none⟩, rfl, rfl⟩, hw.cons_new (World.grownBy_alloc w _ none) ⟨by rw [hk, Nat.mul_one], Nat.le_refl _, .inr ⟨_, _, rfl, hw.base, heap_alloc_new w _, by unfold maxLen; omega, by simp [hk], by simp [← hk]⟩⟩ (.inr ⟨w.heap.size, by simp [Ch.fp, hk0], Nat.le_refl _⟩)⟩
  simp only [Nat.mul_one] at q1
  simp [execOp, Instr.buildSlice, run_underlying T.ht, sizeOf, typeInfo, zeroValue, hi, hz, hsz, hkk, hk0, newRow, q1]
/-! ### Arrays in variables; results that lie in memory -/
section
variable {x y : Operand} {k : IntKind} {m : Int} {f : Ch → List Ch} {g o i : Nat} {bt t e : TypeId} {cs : List Value}
theorem det_indexAddr_arr {nn : Nat} (ht : C.P.underlying t = some (.array nn e)) (hz : (C.P.info? e).map (·.size) = some 1) (he : ev fr x = some (.pointer (some ⟨g, o, none⟩))) (h2 : ev fr y = some (.int k m)) (hm : m = (i : Int)) (hi : i < nn) :
    Det C fr L (.indexAddr t x y) ty (.pointer (some ⟨g, o + i, none⟩)) := fun a w ha hw d pos af gg => by
  subst hm
  simp [execOp, Instr.indexAt, Instr.sureAddr, asIntOf, ha.tmp he, ha.tmp h2, run_underlying ht, hi, isSz hz, Addr.add_lit]
theorem det_load_arr {b : List Int} {kk : IntKind} (hs : isSc C.P t = true) (he : ev fr x = some (.pointer (some ⟨g, 0 + i, none⟩))) (hm : Sel (.blk g bt (ints kk b)) L f) (hi : i < b.length) : Det C fr L (.load t x) ty (.int kk (b.getD i 0)) :=
  det_load_blk hs he hm (by simp [ints, List.getD, List.getElem?_eq_getElem hi])
theorem eff_store_arr {b : List Int} {kk : IntKind} {n : Int} (hs : isSc C.P t = true) (he : ev fr x = some (.pointer (some ⟨g, 0 + i, none⟩))) (hv : ev fr y = some (.int kk n)) (hm : Sel (.blk g bt (ints kk b)) L f) (hi : i < b.length) :
    Eff C fr L (.store t x y) ty (fun p L' => L' = f (.blk g bt (ints kk (b.set i n)))) := fun a w ha hw d pos af gg => by
  obtain ⟨v, w', L', h1, h2, h3⟩ := eff_store (ty := ty) hs he hv rfl hm (by simp; omega) a w ha hw d pos af gg
  refine ⟨v, w', L', h1, ?_, h3⟩
  rw [h2]
  congr 2
  simp [ints, List.map_set]
theorem det_load_whole (kk : Nat) (hs : isAg C.P t kk = true) (he : ev fr x = some (.pointer (some ⟨g, 0, none⟩))) (hm : Sel (.blk g bt cs) L f) (hk : cs.length = kk) : Det C fr L (.load t x) ty (.agg cs.toArray) :=
  det_load_agg kk hs he hm cs (by rw [List.drop_zero, ← hk, List.take_length]) hk
theorem eff_store_whole {us : List Value} (kk : Nat) (hs : isAg C.P t kk = true) (he : ev fr x = some (.pointer (some ⟨g, 0, none⟩))) (hv : ev fr y = some (.agg us.toArray)) (h1 : ∀ u ∈ us, u.oneCell' = true) (hm : Sel (.blk g bt cs) L f) (hk : cs.length = kk) (hu : us.length = kk) :
    Eff C fr L (.store t x y) ty (fun p L' => L' = f (.blk g bt us)) := fun a w ha hw d pos af gg => by
  have hb := (hw.all _ hm.mem).2
  have hi : (C.P.info? t).map (·.size) = some us.toArray.size := by
    have h := hs
    unfold isAg at h
    rw [Bool.and_eq_true] at h
    have h2 := h.2
    rw [beq_iff_eq] at h2
    rw [h2, ← hu]; simp
  have hr := run_storeVar_row (P := C.P) w g bt t cs.toArray us.toArray hb hi (by simp [hk, hu]) (by rw [Array.all_eq_true_iff_forall_mem]; simpa using h1)
  refine ⟨undef, w.setRow g us.toArray, f (.blk g bt us), .inr ⟨by simp [execOp, Instr.storeAt, Instr.sureAddr, ha.tmp he, ha.tmp hv, hr], rfl⟩, rfl, ?_⟩
  refine hw.sel hm ?_ (fun ⟨q1, q2⟩ => ⟨q1, ?_⟩) (.inr (.inl rfl))
  · exact ⟨rfl, rfl, rfl, by simp, fun k _ hk => setRow_other w g k _ (fun e => hk (by rw [e]; rfl))⟩
  · exact setRow_heap w g cs.toArray _ bt _ q2
theorem ret_ct {P : Program} {fn : Func} {R : Value → List Ch → Prop} {q u kk : Nat} {ty : TypeId} (hr : fn.results = #[.cell q ty, .tmp u]) (hq : look q fr = some (.pointer (some ⟨g, 0, none⟩))) (hs : isAg P ty kk = true) (hm : Sel (.blk g bt cs) L f) (hk : cs.length = kk) {v : Value} (hu : look u fr = some v) (hwk : Wk L L')
    (h : R (.tuple #[.agg cs.toArray, v]) L') : Ret P fn R .ret fr L := fun B w0 a w ha hw => by
  subst hk
  refine ⟨_, L', ?_, h, hwk.sl hw⟩
  have hl := run_loadAgg (P := P) (w := w) (p := ⟨g, 0, none⟩) hs (fun j u hj => by rw [Addr.add_lit, Nat.zero_add]; exact sl_cell hw hm hj)
  rw [results_cell_tmp hr]
  simp [ha.at_ _ _ hq, ha.at_ _ _ hu, asAddr, hl]
theorem ret_c {P : Program} {fn : Func} {R : Value → List Ch → Prop} {q kk : Nat} {ty : TypeId} (hr : fn.results = #[.cell q ty]) (hq : look q fr = some (.pointer (some ⟨g, 0, none⟩))) (hs : isAg P ty kk = true) (hm : Sel (.blk g bt cs) L f) (hk : cs.length = kk) (hwk : Wk L L')
    (h : R (.agg cs.toArray) L') : Ret P fn R .ret fr L := fun B w0 a w ha hw => by
  subst hk
  refine ⟨_, L', ?_, h, hwk.sl hw⟩
  have hl := run_loadAgg (P := P) (w := w) (p := ⟨g, 0, none⟩) hs (fun j u hj => by rw [Addr.add_lit, Nat.zero_add]; exact sl_cell hw hm hj)
  simp [results, hr, ha.at_ _ _ hq, asAddr, hl]
end
/-- the law's end -/
theorem Does.law {P : Program} {ff : FuncId} {args : List Value} {w : World} (h : Does P w.heap.size w ff args [] (fun r L => r = .bool true)) : Calls P ff args.toArray w fun e w' => e = .returned (.bool true) ∧ Below w.heap.size w w' :=
  (h w (SL.nil_ w)).mono fun e w' ⟨v, M, he, hR, hs⟩ => by subst hR; exact ⟨he, hs.below⟩
theorem det_not_t {x : Operand} {xt : TypeId} (h : ev fr x = some (.bool true)) : Det C fr L (.unOp .not xt x) ty (.bool false) := det_not h
theorem det_not_f {x : Operand} {xt : TypeId} (h : ev fr x = some (.bool false)) : Det C fr L (.unOp .not xt x) ty (.bool true) := det_not h
def bools (l : List Bool) : List Value := l.map .bool
theorem flatMap_one {α : Type} (l : List α) (f : α → Value) : l.flatMap (fun b => [f b]) = l.map f := by
  induction l with
  | nil => rfl
  | cons x l ih => simp [ih]
theorem det_load_bool {x : Operand} {t : TypeId} {A : Option Addr} {nn c j : Nat} {b : List Bool} (hs : isSc C.P t = true) (he : ev fr x = some (.pointer (A.map (·.add (j * 1))))) (hb : Bor C.B C.w0 L 1 (.slice A nn c) nn (bools b)) (hj : j < nn) : Det C fr L (.load t x) ty (.bool (b.getD j false)) := fun a w ha hw => by
  have hl := hb.len hw
  simp [bools] at hl
  rw [Nat.mul_one] at he
  refine det_load_row hs he hb (by omega) ?_ a w ha hw
  simp [bools, List.getD, List.getElem?_eq_getElem (show j < b.length by omega)]
end
/-- has a type's value cells at all -/
def hasSz (P : Program) (t : TypeId) : Bool := match P.info? t with | some i => Nat.blt 0 i.size | none => false
theorem det_fieldAddr_ {C : Cx} {fr : Fr} {L : List Ch} {x : Operand} {ty t : TypeId} {g o : Nat} {fs : Array Field} {i : Nat} {fd : Field} (ht : C.P.underlying t = some (.struct fs)) (hf : fs[i]? = some fd) (hz : hasSz C.P fd.type = true) (he : ev fr x = some (.pointer (some ⟨g, o, none⟩))) {q : Nat} (hq : o + fd.offset = q) :
    Det C fr L (.fieldAddr t x i) ty (.pointer (some ⟨g, q, none⟩)) := by
  unfold hasSz at hz
  cases hi : C.P.info? fd.type with
  | none => rw [hi] at hz; cases hz
  | some f =>
    rw [hi] at hz
    have : 0 < f.size := by simpa [Nat.blt_eq] using hz
    exact det_fieldAddr (sz := f.size - 1) ht hf (by rw [hi]; simp; omega) he hq
/-- a row that has elements has a place -/
theorem vc_own_some {C : Cx} {cd : Code} {Q : Exit → Fr → List Ch → Prop} {fr : Fr} {L : List Ch} {e : TypeId} {size n c : Nat} {A : Option Addr} {xs : List Value} (hm : Ch.own e size A n c xs ∈ L) (hn : 0 < n) (h : ∀ ad, A = some ad → VC C cd Q fr L) : VC C cd Q fr L := fun a w ha hw => by
  rcases (hw.all _ hm).2.2 with h0 | ⟨g, cur, rfl, _⟩
  · have : n ≤ c := (hw.all _ hm).2.1
    omega
  · exact h _ rfl a w ha hw
theorem det_indexAddr_some {C : Cx} {fr : Fr} {L : List Ch} {x y : Operand} {ty t e : TypeId} {k : IntKind} {m : Int} {size nn c i : Nat} {ad : Addr} (ht : C.P.underlying t = some (.slice e)) (hz : (C.P.info? e).map (·.size) = some size) (he : ev fr x = some (.slice (some ad) nn c)) (h2 : ev fr y = some (.int k m)) (hm : m = (i : Int)) (hi : i < nn) :
    Det C fr L (.indexAddr t x y) ty (.pointer ((some ad).map (·.add (i * size)))) := fun a w ha hw d pos af gg => by
  subst hm
  simp [execOp, Instr.indexAt, asIntOf, ha.tmp he, ha.tmp h2, run_underlying ht, hi, isSz hz]
theorem det_fieldAddr_row_ {C : Cx} {fr : Fr} {L : List Ch} {x : Operand} {ty t : TypeId} {fs : Array Field} {i j : Nat} {fd : Field} {size nn c : Nat} {A : Option Addr} {xs : List Value} (ht : C.P.underlying t = some (.struct fs)) (hf : fs[i]? = some fd) (hz : hasSz C.P fd.type = true) (he : ev fr x = some (.pointer (A.map (·.add j))))
    (hb : Bor C.B C.w0 L size (.slice A nn c) nn xs) (hn : 0 < nn) {q : Nat} (hq : fd.offset = q) :
    Det C fr L (.fieldAddr t x i) ty (.pointer (A.map (fun ad => (ad.add j).add q))) := by
  unfold hasSz at hz
  cases hi : C.P.info? fd.type with
  | none => rw [hi] at hz; cases hz
  | some f =>
    rw [hi] at hz
    have : 0 < f.size := by simpa [Nat.blt_eq] using hz
    exact det_fieldAddr_row (sz := f.size - 1) ht hf (by rw [hi]; simp; omega) he hb hn hq
/-- a struct by value of parts that cover it, in order -/
theorem det_buildx {C : Cx} {fr : Fr} {L : List Ch} {ty t : TypeId} {parts : List (Nat × Operand)} (us : List (Nat × Value)) (cs : List Value) (hp : parts.map (fun p => (p.1, ev fr p.2)) = us.map (fun p => (p.1, some p.2))) (hb : C.P.built t us = some cs.toArray) :
    Det C fr L (.build t parts.toArray) ty (.agg cs.toArray) := fun a w ha hw d pos af gg => by
  have hps : parts.map (fun p => (p.1, a.eval p.2)) = us := by
    clear hb
    induction parts generalizing us with
    | nil => cases us with | nil => rfl | cons _ _ => cases hp
    | cons p ps ih =>
      cases us with
      | nil => cases hp
      | cons u us =>
        simp only [List.map_cons, List.cons.injEq, Prod.mk.injEq] at hp
        obtain ⟨⟨h1, h2⟩, h3⟩ := hp
        simp only [List.map_cons, ha.tmp h2, h1, ih us h3]
  have := run_build (P := C.P) w t us.toArray cs.toArray (by simpa using hb)
  subst hps
  simp only [List.toArray] at this
  simp [execOp] at this ⊢
  rw [this]
  rfl
theorem det_build0 {C : Cx} {fr : Fr} {L : List Ch} {ty t : TypeId} (cs : List Value) (hb : C.P.built t [] = some cs.toArray) : Det C fr L (.build t #[]) ty (.agg cs.toArray) := fun a w ha hw d pos af gg => by
  have := run_build (P := C.P) w t #[] cs.toArray (by simpa using hb)
  simp [execOp, this]
theorem det_build {C : Cx} {fr : Fr} {L : List Ch} {ty t : TypeId} {parts : List (Nat × Operand)} (us : List (Nat × Value)) (cs : List Value) (hp : parts.map (fun p => (p.1, ev fr p.2)) = us.map (fun p => (p.1, some p.2))) (hcs : us.flatMap (fun p => p.2.cells.toList) = cs) (hb : C.P.built t us = some cs.toArray) :
    Det C fr L (.build t parts.toArray) ty (.agg cs.toArray) := det_buildx us cs hp hb
end Go.Proofs.Ytpamjobiohbibaa
namespace Go.Proofs.Ytpamjobiohbibaa
open Go.RowKit
set_option linter.unusedVariables false
section
variable {C : Cx} {Q : Exit → Fr → List Ch → Prop} {fr fr' : Fr} {L L' : List Ch} {cd : Code} {ops : Array Oper} {l : List Oper} {op : Op} {ty : TypeId} {pos : String} {af : Array Edge} {d : Nat} {v : Value}
variable {x y z : Operand} {k : IntKind} {m n : Int} {f : Ch → List Ch} {g o : Nat} {bt t e : TypeId} {cs : List Value}
/-- '[]T{}' -/
theorem eff_build_empty {size bytes : Nat} {zv : Value} (T : SlT C.P t e size bytes zv) : Eff C fr L (.buildSlice t 0 #[]) ty (fun p L' => ∃ A, p = .slice A 0 0 ∧ L' = .own e size A 0 0 [] :: L) := fun a w ha hw d pos af gg => by
  obtain ⟨i, hi, hz, hsz, hby⟩ := T.hi
  subst hsz
  refine ⟨.slice (some ⟨w.heap.size, 0, none⟩) 0 0, w.alloc (.cells #[] e), _, .inl ?_, ⟨some ⟨w.heap.size, 0, none⟩, rfl, rfl⟩, hw.cons_new (World.grownBy_alloc w _ none) ⟨by simp, Nat.le_refl _, .inl rfl⟩ (.inl rfl)⟩
  simp [execOp, Instr.buildSlice, run_underlying T.ht, sizeOf, typeInfo, hi, Instr.fill, newRow]
  rw [show Array.range 0 = #[] from by simp [Array.range], Array.map_empty]
theorem fold_set : ∀ (us pre : List Value) (cells : Array Value), pre.length + us.length = cells.size → (∀ j, j < pre.length → cells[j]? = pre[j]?) → (us.zipIdx pre.length).foldl (fun cs (c, j) => cs.setIfInBounds j c) cells = (pre ++ us).toArray
  | [], pre, cells, h, hp => by
    simp only [List.zipIdx_nil, List.foldl_nil, List.append_nil]
    simp at h
    apply Array.ext
    · simp [h]
    · intro j h1 h2
      have := hp j (by simpa using h2)
      rw [Array.getElem?_eq_getElem h1] at this
      simp at h2
      rw [List.getElem?_eq_getElem h2] at this
      simpa using this
  | u :: us, pre, cells, h, hp => by
    rw [List.zipIdx_cons, List.foldl_cons]
    simp only [List.length_cons] at h
    have := fold_set us (pre ++ [u]) (cells.setIfInBounds pre.length u) (by simp; omega) (fun j hj => by
      simp at hj
      rw [Array.getElem?_setIfInBounds]
      by_cases hjp : pre.length = j
      · subst hjp
        simp
        omega
      · rw [if_neg hjp, hp j (by omega), List.getElem?_append_left (by omega)])
    simpa using this
theorem fill_one {size : Nat} {v : Value} {us : List Value} (hv : v.cells = us.toArray) (hl : us.length = size) (Z : Array Value) (hZ : Z.size = size) : Instr.fill (fun i => some (i * size, size)) Z [(0, v)] = some us.toArray := by
  have h := fold_set us [] Z (by simpa [hZ] using hl) (by simp)
  simp only [List.length_nil, List.nil_append] at h
  simp only [Instr.fill, hv, Nat.zero_mul, Nat.zero_add, List.size_toArray, hl]
  simp [hZ]
  exact h
/-- a new row of one element of several cells -/
theorem eff_build1s {size bytes : Nat} {zv : Value} {us : List Value} (T : SlT C.P t e size bytes zv) (he : ev fr x = some v) (hv : v.cells = us.toArray) (hl : us.length = size) (hsm : size ≤ 1000) : Eff C fr L (.buildSlice t 1 #[(0, x)]) ty (fun p L' => ∃ A, p = .slice A 1 1 ∧ L' = .own e size A 1 1 us :: L) := by
  obtain ⟨i, hi, hz, hsz, hby⟩ := T.hi
  exact eff_buildSlice (parts := [(0, x)]) (us := [(0, v)]) (zv := zv) T.ht (by rw [hi]; simp [hsz]) T.hs (by omega) (by omega) (by rw [hi]; simpa using hz) (by simp [he]) (fill_one hv hl _ (by simp)) (by omega)
theorem vl_pushs {size bytes d1 d2 : Nat} {zv : Value} {ty1 ty2 : TypeId} {pos1 pos2 : String} {af1 af2 : Array Edge} {s : Operand} {A : Option Addr} {n c : Nat} {xs us : List Value} (T : SlT C.P t e size bytes zv) (he : ev fr x = some v) (hv : v.cells = us.toArray) (hul : us.length = size) (hsm : size ≤ 1000) (h1 : ∀ u ∈ us, u.oneCell' = true) (hd1 : Nat.blt d1 C.N = true) (hd2 : Nat.blt d2 C.N = true)
    (hs : ev ((d1, .slice none 0 0) :: fr) s = some (.slice A n c)) (hsn : ∀ u, ev ((d1, u) :: fr) s = ev ((d1, .slice none 0 0) :: fr) s) (hl : Sel (.own e size A n c xs) L f) (hbytes : (n + 1) * bytes ≤ 140737488355328) (h63 : n + 1 ≤ 140737488355328)
    (kk : ∀ A1 A' c', VL C ops Q l ((d2, .slice A' (n + 1) c') :: (d1, .slice A1 1 1) :: fr) (f (.own e size A' (n + 1) c' (xs ++ us)))) :
    VL C ops Q (⟨some d1, .buildSlice t 1 #[(0, x)], ty1, pos1, af1, none⟩ :: ⟨some d2, .call { callee := .builtin .append, args := #[s, .tmp d1], argTypes := #[t, t] }, ty2, pos2, af2, none⟩ :: l) fr L := by
  refine vl_eff (eff_build1s T he hv hul hsm) hd1 ?_
  rintro _ _ ⟨A1, rfl, rfl⟩
  refine vl_eff (eff_app (m := 1) (news := us) T ((hsn _).trans hs) (.tl hl) (yv := .slice A1 1 1) (by simp [ev, look]) (Bor.own (List.Mem.head _)) h1 hbytes h63) hd2 ?_
  rintro _ _ ⟨A2, c2, rfl, rfl⟩
  intro a w ha hw
  exact kk A1 A2 c2 a w ha hw.tail
/-- what a borrowed row tells of its numbers -/
theorem vc_bor {size nn c : Nat} {A : Option Addr} {xs : List Value} (hb : Bor C.B C.w0 L size (.slice A nn c) nn xs) (h : nn ≤ c → xs.length = nn * size → VC C cd Q fr L) : VC C cd Q fr L := fun a w ha hw => by
  obtain ⟨A', c', hv, hc, hl, _⟩ := hb w hw
  injection hv with _ _ h3
  subst h3
  exact h hc hl a w ha hw
theorem vl_bor {size nn c : Nat} {A : Option Addr} {xs : List Value} (hb : Bor C.B C.w0 L size (.slice A nn c) nn xs) (h : nn ≤ c → xs.length = nn * size → VL C ops Q l fr L) : VL C ops Q l fr L := fun a w ha hw => by
  obtain ⟨A', c', hv, hc, hl, _⟩ := hb w hw
  injection hv with _ _ h3
  subst h3
  exact h hc hl a w ha hw
theorem Does.bor {P : Program} {B : Nat} {w0 : World} {ff : FuncId} {args : List Value} {R : Value → List Ch → Prop} {size nn c : Nat} {A : Option Addr} {xs : List Value} (hb : Bor B w0 L size (.slice A nn c) nn xs) (h : nn ≤ c → xs.length = nn * size → Does P B w0 ff args L R) : Does P B w0 ff args L R := fun w hw => by
  obtain ⟨A', c', hv, hc, hl, _⟩ := hb w hw
  injection hv with _ _ h3
  subst h3
  exact h hc hl w hw
theorem vl_callv0 {ff : FuncId} {gg : Operand} {as_ : List Operand} {ats : Array TypeId} {vs fst cap : List Value} {R : Value → List Ch → Prop} (hc : Callable C.P ff) (hg : ev fr gg = some (.func (.func ff) fst.toArray cap.toArray)) (he : evs fr as_ = some vs) (h : Does C.P C.B C.w0 ff (fst ++ vs ++ cap) L R)
    (k : ∀ v L', R v L' → VL C ops Q l fr L') : VL C ops Q (⟨none, .call { callee := .value gg, args := as_.toArray, argTypes := ats }, ty, pos, af, none⟩ :: l) fr L := fun a w ha hw =>
  wpList_plain rfl fun K hK => by
    unfold Oper.wp
    rw [execOp_callv hc (ha.tmp hg), ha.evs he]
    simp only [List.append_toArray]
    refine Calls.mono (h w hw) fun e w' ⟨v, L', he, hR, hs⟩ => ?_
    subst he
    exact hK _ _ (k _ _ hR _ _ ha hs)
theorem det_sl_nil {A : Option Addr} {nn c : Nat} {xt yt : TypeId} (ht : C.P.underlying xt = some (.slice e)) (h1 : ev fr x = some (.slice A nn c)) (h2 : ev fr y = some (.slice none 0 0)) : Det C fr L (.binOp .eql xt x y yt) ty (.bool A.isNone) := fun a w ha hw d pos af g => by
  have he : (eqGuard .eql xt x y (.slice A nn c) (.slice none 0 0)).run C.P w = .ok () w := by simp [eqGuard]
  simp only [execOp, ha.tmp h1, ha.tmp h2, Sem.run_bind, he, Lib.run_eql_slice_nil w xt e A nn c 0 0 ht, Result.andThen_ok, Sem.run_pure]
end
def layz (zs : List Value) : List (Nat × Value) → List Value
  | [] => zs
  | (o, v) :: r => layz (zs.take o ++ (v.cells.toList ++ zs.drop (o + v.cells.size))) r
/-- a struct by value of parts that don't cover it -/
theorem det_buildp {C : Cx} {fr : Fr} {L : List Ch} {ty t : TypeId} {parts : List (Nat × Operand)} (us : List (Nat × Value)) (zs : List Value) (os : List Nat) (cs : List Value) (hp : parts.map (fun p => (p.1, ev fr p.2)) = us.map (fun p => (p.1, some p.2))) (hcs : layz zs (os.zip (us.map (·.2))) = cs) (hb : C.P.built t us = some cs.toArray) :
    Det C fr L (.build t parts.toArray) ty (.agg cs.toArray) := det_buildx us cs hp hb
theorem ret_nil_row {P : Program} {fn : Func} {R : Value → List Ch → Prop} {ee : Exit} {fr : Fr} {L : List Ch} (e : TypeId) (size : Nat) (A : Option Addr) (h : Ret P fn R ee fr (.own e size A 0 0 [] :: L)) : Ret P fn R ee fr L := by
  cases ee <;> first
    | exact h
    | (intro B w0 a w ha hw; exact h B w0 a w ha (hw.nil_row e size A))
theorem sl_to {A : Option Addr} {n m c : Nat} (h : n = m) : some (Value.slice A n c) = some (.slice A m c) := by rw [h]
/-- a contract whose first two pieces change places -/
theorem swp {a b : Ch} {L : List Ch} : (a :: b :: L).Perm (b :: a :: L) := .swap b a L
theorem Does.frame_drop {P : Program} {B : Nat} {w0 : World} {ff : FuncId} {args : List Value} {L M : List Ch} {R : Value → List Ch → Prop} (hs : M.Sublist L) (h : Does P B w0 ff args M R) : Does P B w0 ff args L R := fun w hw => h w (hw.sub hs)
/-- a contract that leaves all pieces, from one over the world -/
theorem Does.of_same {P : Program} {B : Nat} {w0 : World} {ff : FuncId} {args : List Value} {L : List Ch} {v : Value} (h : ∀ w, SL B w0 L w → Calls P ff args.toArray w fun e w' => e = .returned v ∧ w = w') : Does P B w0 ff args L (fun r L' => r = v ∧ L' = L) := fun w hw =>
  (h w hw).mono fun e w' ⟨he, hw'⟩ => by subst hw'; exact ⟨v, L, he, ⟨rfl, rfl⟩, hw⟩
theorem st_callv {C : Cx} {ops : Array Oper} {S : List Ch} {Q : Exit → Fr → List Ch → Prop} {fuel : Nat} {li : Array Bool} {fr : Fr} {L : List Ch} {d : Nat} {ty : TypeId} {pos : String} {af : Array Edge} {i : Nat} {ff : FuncId} {gg : Operand} {as_ : List Operand} {ats : Array TypeId} {vs fst cap : List Value} {R : Value → List Ch → Prop} {g : Option (Nat × Bool)} (ho : ops[i]? = some ⟨some d, .call { callee := .value gg, args := as_.toArray, argTypes := ats }, ty, pos, af, g⟩) (hg : Gd ops fr g) (hc : Callable C.P ff) (hgg : ev fr gg = some (.func (.func ff) fst.toArray cap.toArray)) (he : evs fr as_ = some vs) (h : Does C.P C.B C.w0 ff (fst ++ vs ++ cap) L R) (hd : Nat.blt d C.N = true) (hS : ∀ v L', R v L' → S.Sublist L')
    (k : ∀ v L', R v L' → VH C ops S Q fuel (li.setIfInBounds i true) ((d, v) :: fr) L') : Step C ops S Q fuel li fr L i := fun a w ha hw _ => by
  unfold wpOp
  simp only [ho]
  rw [if_pos (hg.wanted ha)]
  refine .inl ?_
  unfold Oper.wp
  rw [execOp_callv hc (ha.tmp hgg), ha.evs he]
  simp only [List.append_toArray]
  refine Calls.mono (h w hw) fun e w' ⟨v, L', he, hR, hs⟩ => ?_
  subst he
  have hs2 := hs.sub (hS v L' hR)
  exact ⟨hs2, k _ _ hR _ _ (ha.put hd _) hs hs2⟩
end Go.Proofs.Ytpamjobiohbibaa
namespace Go.Proofs.Ytpamjobiohbibaa
open Go.RowKit
set_option linter.unusedVariables false
theorem run_part_sc {P : Program} {t : TypeId} {xs : Array Value} {off : Nat} {v : Value} (hs : isSc P t = true) (hx : xs[off]? = some v) (w : World) : (part t xs off).run P w = .ok v w := by
  simp [part, isSc_agg hs, hx]
section
variable {C : Cx} {fr : Fr} {L : List Ch} {x y : Operand} {f : Ch → List Ch} {t t2 e ty : TypeId}
/-- 'copy(s[i:], r)', s a row of ours; r may be a part of it -/
theorem eff_copy {bytes : Nat} {zv : Value} (T : SlT C.P t e 1 bytes zv) {A : Option Addr} {n c i : Nat} {xs : List Value} (hs : Sel (.own e 1 A n c xs) L f) (he : ev fr x = some (.slice (if c = i then A else A.map (·.add (i * 1))) (n - i) (c - i))) (hi : i ≤ n) {yv : Value} {m : Nat} {news : List Value} (hy : ev fr y = some yv) (hb : Bor C.B C.w0 L 1 yv m news) (h1 : ∀ u ∈ news, u.oneCell' = true) :
    Eff C fr L (.call { callee := .builtin .copy, args := #[x, y], argTypes := #[t, t2] }) ty (fun p L' => p = .int .i64 (min m (n - i) : Nat) ∧ L' = f (.own e 1 A n c (xs.take i ++ news.take (min m (n - i)) ++ xs.drop (i + min m (n - i))))) := fun a w ha hw d pos af gg => by
  obtain ⟨ii, hii, hz, hsz, hby⟩ := T.hi
  have hsz1 : (C.P.info? e).map (·.size) = some 1 := by rw [hii]; simp [hsz]
  obtain ⟨X, cx, rfl, hmc, hl, hrd⟩ := hb w hw
  have hmin : Nat.min m (n - i) = min m (n - i) := rfl
  obtain ⟨k1, k2, k3⟩ := hw.all _ hs.mem
  rw [Nat.mul_one] at k1 hl
  by_cases h0 : min m (n - i) = 0
  · have hr := run_copy_none (P := C.P) w t t2 ty e (if c = i then A else A.map (·.add (i * 1))) X (n - i) (c - i) m cx T.ht hsz1 h0
    refine ⟨_, w, _, .inl ?_, ⟨rfl, rfl⟩, ?_⟩
    · simp [execOp, resolve, invoke, builtin, ha.tmp he, ha.tmp hy]
      have := hr
      simp at this
      rw [this]
      simp [goInt, h0]
    · rw [h0, List.take_zero, List.append_nil, Nat.add_zero, List.take_append_drop]
      refine hw.sel hs (World.grownBy.refl w _) (fun h => h) (.inr (.inl rfl))
  · have hc0 : ¬ c = 0 := by omega
    have hci : ¬ c = i := by omega
    obtain ⟨g, cur, rfl, hbg, hg, hcm, hcs, htake⟩ := k3.resolve_left hc0
    clear k3
    rw [Nat.mul_one] at hcs htake
    obtain ⟨ad, rfl, _, hcell⟩ := hrd (by omega)
    clear hrd hmin
    obtain ⟨k, hk⟩ : ∃ k, k = min m (n - i) := ⟨_, rfl⟩
    have hkm : k ≤ m := by omega
    have hkn : i + k ≤ n := by omega
    have hkmin : k = Nat.min m (n - i) := hk
    rw [← hk] at h0 ⊢
    clear hk
    have hsrc : ∀ j v, (news.take k)[j]? = some v → w.cell? (ad.add j) = some v := fun j v hv => by
      rw [List.getElem?_take] at hv
      split at hv
      · exact hcell j v hv
      · cases hv
    have hlen : (news.take k).length = k := by rw [List.length_take, hl]; omega
    have hadd : (⟨g, 0, none⟩ : Addr).add (i * 1) = ⟨g, i, none⟩ := by rw [Addr.add_lit, Nat.zero_add, Nat.mul_one]
    have hfit : i + (news.take k).length ≤ cur.size := by rw [hlen, hcs]; omega
    have hr := run_copy_row (P := C.P) w t t2 ty e g i (n - i) (c - i) ad m cx cur e (news.take k) T.ht hsz1 hg (by rw [hlen]; exact hkmin) hsrc hfit (fun v hv => h1 v (List.mem_of_mem_take hv))
    clear hkmin
    have hcl : cur.toList.length = c := by simpa using hcs
    have e1 : (xs.take i ++ news.take k ++ xs.drop (i + k)).length = n * 1 := by
      simp only [List.length_append, List.length_take, List.length_drop, hl, k1]; omega
    have e2 : (cur.toList.take i ++ news.take k ++ cur.toList.drop (i + (news.take k).length)).length = c := by
      simp only [List.length_append, List.length_take, List.length_drop, hl, hcl]; omega
    have e3 : (cur.toList.take i ++ news.take k ++ cur.toList.drop (i + (news.take k).length)).take n = xs.take i ++ news.take k ++ xs.drop (i + k) := by
      have hx : xs = cur.toList.take n := htake.symm
      rw [hlen, List.take_append, List.take_of_length_le (by rw [List.length_append, List.length_take, hlen]; omega), hx, List.take_take, List.drop_take, Nat.min_eq_left (by omega)]
      congr 2
      rw [List.length_append, List.length_take, hlen, hcl, Nat.min_eq_left (by omega)]
    refine ⟨_, _, _, .inl ?_, ⟨rfl, rfl⟩, hw.sel hs (w' := w.setRow g (cur.toList.take i ++ news.take k ++ cur.toList.drop (i + (news.take k).length)).toArray) ?_ (fun _ => ⟨e1, k2, .inr ⟨g, _, rfl, hbg, setRow_heap w g cur _ e _ hg, hcm, by rw [List.size_toArray, e2, Nat.mul_one], by rw [Nat.mul_one]; exact e3⟩⟩) (.inr (.inl rfl))⟩
    · simp only [execOp, resolve, invoke, builtin, ha.tmp he, ha.tmp hy, if_neg hci, Option.map_some, hadd, Sem.run_bind, Sem.run_pure, Result.andThen_ok, List.map_toArray, List.map_cons, List.map_nil, hr]
      simp [goInt, hlen]
    · rw [show (Ch.own e 1 (some ⟨g, 0, none⟩) n c xs).fp = some g by simp [Ch.fp, hc0]]
      exact ⟨rfl, rfl, rfl, by simp, fun k _ hk => setRow_other w g k _ (fun e => hk (by rw [e]))⟩
/-- .. from the head on -/
theorem eff_copy0 {bytes : Nat} {zv : Value} (T : SlT C.P t e 1 bytes zv) {A : Option Addr} {n c : Nat} {xs : List Value} (hs : Sel (.own e 1 A n c xs) L f) (he : ev fr x = some (.slice A n c)) {yv : Value} {m : Nat} {news : List Value} (hy : ev fr y = some yv) (hb : Bor C.B C.w0 L 1 yv m news) (h1 : ∀ u ∈ news, u.oneCell' = true) :
    Eff C fr L (.call { callee := .builtin .copy, args := #[x, y], argTypes := #[t, t2] }) ty (fun p L' => p = .int .i64 (min m n : Nat) ∧ L' = f (.own e 1 A n c (news.take (min m n) ++ xs.drop (min m n)))) := by
  have h := eff_copy (ty := ty) (t2 := t2) T hs (i := 0) (n := n) (c := c) (by rw [he]; congr 2; rw [Nat.zero_mul]; split <;> simp [opt_add0]) (Nat.zero_le _) hy hb h1
  rw [List.take_zero, List.nil_append, Nat.zero_add, Nat.sub_zero] at h
  exact h
end
end Go.Proofs.Ytpamjobiohbibaa
namespace Go.Proofs.Ytpamjobiohbibaa
open Go.RowKit
set_option linter.unusedVariables false
theorem pu0 {a : Ch} {L L' : List Ch} (h : L.Perm L') : (a :: L).Perm (a :: L') := h.cons a
theorem wu0 {a : Ch} {L L' : List Ch} (h : Wk L L') : Wk (a :: L) (a :: L') := h.cons
theorem pu1 {a0 x : Ch} {L L' : List Ch} (h : (a0 :: L).Perm L') : (a0 :: x :: L).Perm (x :: L') := ((pu0 (.refl _)).cons a0).trans ((List.Perm.swap x a0 _).trans (h.cons x))
theorem wu1 {a0 x : Ch} {L L' : List Ch} (h : Wk (a0 :: L) L') : Wk (a0 :: x :: L) (x :: L') := (Wk.of_perm (pu1 (.refl _))).trans h.cons
theorem pu2 {a0 a1 x : Ch} {L L' : List Ch} (h : (a0 :: a1 :: L).Perm L') : (a0 :: a1 :: x :: L).Perm (x :: L') := ((pu1 (.refl _)).cons a0).trans ((List.Perm.swap x a0 _).trans (h.cons x))
theorem wu2 {a0 a1 x : Ch} {L L' : List Ch} (h : Wk (a0 :: a1 :: L) L') : Wk (a0 :: a1 :: x :: L) (x :: L') := (Wk.of_perm (pu2 (.refl _))).trans h.cons
theorem pu3 {a0 a1 a2 x : Ch} {L L' : List Ch} (h : (a0 :: a1 :: a2 :: L).Perm L') : (a0 :: a1 :: a2 :: x :: L).Perm (x :: L') := ((pu2 (.refl _)).cons a0).trans ((List.Perm.swap x a0 _).trans (h.cons x))
theorem wu3 {a0 a1 a2 x : Ch} {L L' : List Ch} (h : Wk (a0 :: a1 :: a2 :: L) L') : Wk (a0 :: a1 :: a2 :: x :: L) (x :: L') := (Wk.of_perm (pu3 (.refl _))).trans h.cons
theorem pu4 {a0 a1 a2 a3 x : Ch} {L L' : List Ch} (h : (a0 :: a1 :: a2 :: a3 :: L).Perm L') : (a0 :: a1 :: a2 :: a3 :: x :: L).Perm (x :: L') := ((pu3 (.refl _)).cons a0).trans ((List.Perm.swap x a0 _).trans (h.cons x))
theorem wu4 {a0 a1 a2 a3 x : Ch} {L L' : List Ch} (h : Wk (a0 :: a1 :: a2 :: a3 :: L) L') : Wk (a0 :: a1 :: a2 :: a3 :: x :: L) (x :: L') := (Wk.of_perm (pu4 (.refl _))).trans h.cons
theorem pu5 {a0 a1 a2 a3 a4 x : Ch} {L L' : List Ch} (h : (a0 :: a1 :: a2 :: a3 :: a4 :: L).Perm L') : (a0 :: a1 :: a2 :: a3 :: a4 :: x :: L).Perm (x :: L') := ((pu4 (.refl _)).cons a0).trans ((List.Perm.swap x a0 _).trans (h.cons x))
theorem wu5 {a0 a1 a2 a3 a4 x : Ch} {L L' : List Ch} (h : Wk (a0 :: a1 :: a2 :: a3 :: a4 :: L) L') : Wk (a0 :: a1 :: a2 :: a3 :: a4 :: x :: L) (x :: L') := (Wk.of_perm (pu5 (.refl _))).trans h.cons
theorem pu6 {a0 a1 a2 a3 a4 a5 x : Ch} {L L' : List Ch} (h : (a0 :: a1 :: a2 :: a3 :: a4 :: a5 :: L).Perm L') : (a0 :: a1 :: a2 :: a3 :: a4 :: a5 :: x :: L).Perm (x :: L') := ((pu5 (.refl _)).cons a0).trans ((List.Perm.swap x a0 _).trans (h.cons x))
theorem wu6 {a0 a1 a2 a3 a4 a5 x : Ch} {L L' : List Ch} (h : Wk (a0 :: a1 :: a2 :: a3 :: a4 :: a5 :: L) L') : Wk (a0 :: a1 :: a2 :: a3 :: a4 :: a5 :: x :: L) (x :: L') := (Wk.of_perm (pu6 (.refl _))).trans h.cons
theorem pu7 {a0 a1 a2 a3 a4 a5 a6 x : Ch} {L L' : List Ch} (h : (a0 :: a1 :: a2 :: a3 :: a4 :: a5 :: a6 :: L).Perm L') : (a0 :: a1 :: a2 :: a3 :: a4 :: a5 :: a6 :: x :: L).Perm (x :: L') := ((pu6 (.refl _)).cons a0).trans ((List.Perm.swap x a0 _).trans (h.cons x))
theorem wu7 {a0 a1 a2 a3 a4 a5 a6 x : Ch} {L L' : List Ch} (h : Wk (a0 :: a1 :: a2 :: a3 :: a4 :: a5 :: a6 :: L) L') : Wk (a0 :: a1 :: a2 :: a3 :: a4 :: a5 :: a6 :: x :: L) (x :: L') := (Wk.of_perm (pu7 (.refl _))).trans h.cons
theorem pu8 {a0 a1 a2 a3 a4 a5 a6 a7 x : Ch} {L L' : List Ch} (h : (a0 :: a1 :: a2 :: a3 :: a4 :: a5 :: a6 :: a7 :: L).Perm L') : (a0 :: a1 :: a2 :: a3 :: a4 :: a5 :: a6 :: a7 :: x :: L).Perm (x :: L') := ((pu7 (.refl _)).cons a0).trans ((List.Perm.swap x a0 _).trans (h.cons x))
theorem wu8 {a0 a1 a2 a3 a4 a5 a6 a7 x : Ch} {L L' : List Ch} (h : Wk (a0 :: a1 :: a2 :: a3 :: a4 :: a5 :: a6 :: a7 :: L) L') : Wk (a0 :: a1 :: a2 :: a3 :: a4 :: a5 :: a6 :: a7 :: x :: L) (x :: L') := (Wk.of_perm (pu8 (.refl _))).trans h.cons
theorem pu9 {a0 a1 a2 a3 a4 a5 a6 a7 a8 x : Ch} {L L' : List Ch} (h : (a0 :: a1 :: a2 :: a3 :: a4 :: a5 :: a6 :: a7 :: a8 :: L).Perm L') : (a0 :: a1 :: a2 :: a3 :: a4 :: a5 :: a6 :: a7 :: a8 :: x :: L).Perm (x :: L') := ((pu8 (.refl _)).cons a0).trans ((List.Perm.swap x a0 _).trans (h.cons x))
theorem wu9 {a0 a1 a2 a3 a4 a5 a6 a7 a8 x : Ch} {L L' : List Ch} (h : Wk (a0 :: a1 :: a2 :: a3 :: a4 :: a5 :: a6 :: a7 :: a8 :: L) L') : Wk (a0 :: a1 :: a2 :: a3 :: a4 :: a5 :: a6 :: a7 :: a8 :: x :: L) (x :: L') := (Wk.of_perm (pu9 (.refl _))).trans h.cons
end Go.Proofs.Ytpamjobiohbibaa
namespace Go.Proofs.Ytpamjobiohbibaa
open Go.RowKit
set_option linter.unusedVariables false
theorem slT22 : SlT Try.prog 22 35 4 48 (.agg #[.int .u64 0, .int .u8 0, .string ⟨#[]⟩, .string ⟨#[]⟩]) := slT_of Try.underlying22 (by kernel_rfl) rfl (by omega)
theorem slT26 : SlT Try.prog 26 9 1 16 (.string ⟨#[]⟩) := slT_of Try.underlying26 (by kernel_rfl) rfl (by omega)
theorem slT27 : SlT Try.prog 27 37 1 24 (.slice none 0 0) := slT_of Try.underlying27 (by kernel_rfl) rfl (by omega)
theorem slT37 : SlT Try.prog 37 3 1 8 (.int .i64 0) := slT_of Try.underlying37 (by kernel_rfl) rfl (by omega)
theorem slT41 : SlT Try.prog 41 5 1 1 (.int .u8 0) := slT_of Try.underlying41 (by kernel_rfl) rfl (by omega)
theorem slT69 : SlT Try.prog 69 41 1 24 (.slice none 0 0) := slT_of Try.underlying69 (by kernel_rfl) rfl (by omega)
theorem slT101 : SlT Try.prog 101 47 1 2 (.int .u16 0) := slT_of Try.underlying101 (by kernel_rfl) rfl (by omega)
theorem co2 : Callable Try.prog 2 := callable Try.func2 (by decide) rfl
theorem co3 : Callable Try.prog 3 := callable Try.func3 (by decide) rfl
theorem co4 : Callable Try.prog 4 := callable Try.func4 (by decide) rfl
theorem co5 : Callable Try.prog 5 := callable Try.func5 (by decide) rfl
theorem co6 : Callable Try.prog 6 := callable Try.func6 (by decide) rfl
theorem co7 : Callable Try.prog 7 := callable Try.func7 (by decide) rfl
theorem co8 : Callable Try.prog 8 := callable Try.func8 (by decide) rfl
theorem co9 : Callable Try.prog 9 := callable Try.func9 (by decide) rfl
theorem co10 : Callable Try.prog 10 := callable Try.func10 (by decide) rfl
theorem co11 : Callable Try.prog 11 := callable Try.func11 (by decide) rfl
theorem co12 : Callable Try.prog 12 := callable Try.func12 (by decide) rfl
theorem co13 : Callable Try.prog 13 := callable Try.func13 (by decide) rfl
theorem co14 : Callable Try.prog 14 := callable Try.func14 (by decide) rfl
theorem co15 : Callable Try.prog 15 := callable Try.func15 (by decide) rfl
theorem co16 : Callable Try.prog 16 := callable Try.func16 (by decide) rfl
theorem co17 : Callable Try.prog 17 := callable Try.func17 (by decide) rfl
theorem co18 : Callable Try.prog 18 := callable Try.func18 (by decide) rfl
theorem co19 : Callable Try.prog 19 := callable Try.func19 (by decide) rfl
theorem co20 : Callable Try.prog 20 := callable Try.func20 (by decide) rfl
theorem co21 : Callable Try.prog 21 := callable Try.func21 (by decide) rfl
theorem co22 : Callable Try.prog 22 := callable Try.func22 (by decide) rfl
theorem co23 : Callable Try.prog 23 := callable Try.func23 (by decide) rfl
theorem co24 : Callable Try.prog 24 := callable Try.func24 (by decide) rfl
theorem co25 : Callable Try.prog 25 := callable Try.func25 (by decide) rfl
theorem co26 : Callable Try.prog 26 := callable Try.func26 (by decide) rfl
theorem co27 : Callable Try.prog 27 := callable Try.func27 (by decide) rfl
theorem co28 : Callable Try.prog 28 := callable Try.func28 (by decide) rfl
theorem co29 : Callable Try.prog 29 := callable Try.func29 (by decide) rfl
theorem co30 : Callable Try.prog 30 := callable Try.func30 (by decide) rfl
theorem co31 : Callable Try.prog 31 := callable Try.func31 (by decide) rfl
theorem co32 : Callable Try.prog 32 := callable Try.func32 (by decide) rfl
theorem co33 : Callable Try.prog 33 := callable Try.func33 (by decide) rfl
theorem co34 : Callable Try.prog 34 := callable Try.func34 (by decide) rfl
theorem co35 : Callable Try.prog 35 := callable Try.func35 (by decide) rfl
theorem co36 : Callable Try.prog 36 := callable Try.func36 (by decide) rfl
theorem co37 : Callable Try.prog 37 := callable Try.func37 (by decide) rfl
theorem co38 : Callable Try.prog 38 := callable Try.func38 (by decide) rfl
theorem co39 : Callable Try.prog 39 := callable Try.func39 (by decide) rfl
theorem co40 : Callable Try.prog 40 := callable Try.func40 (by decide) rfl
theorem co41 : Callable Try.prog 41 := callable Try.func41 (by decide) rfl
theorem co42 : Callable Try.prog 42 := callable Try.func42 (by decide) rfl
theorem co43 : Callable Try.prog 43 := callable Try.func43 (by decide) rfl
theorem co44 : Callable Try.prog 44 := callable Try.func44 (by decide) rfl
theorem co45 : Callable Try.prog 45 := callable Try.func45 (by decide) rfl
theorem co46 : Callable Try.prog 46 := callable Try.func46 (by decide) rfl
theorem co47 : Callable Try.prog 47 := callable Try.func47 (by decide) rfl
theorem co48 : Callable Try.prog 48 := callable Try.func48 (by decide) rfl
theorem co49 : Callable Try.prog 49 := callable Try.func49 (by decide) rfl
theorem co50 : Callable Try.prog 50 := callable Try.func50 (by decide) rfl
theorem co51 : Callable Try.prog 51 := callable Try.func51 (by decide) rfl
theorem co52 : Callable Try.prog 52 := callable Try.func52 (by decide) rfl
theorem co53 : Callable Try.prog 53 := callable Try.func53 (by decide) rfl
theorem co54 : Callable Try.prog 54 := callable Try.func54 (by decide) rfl
theorem co55 : Callable Try.prog 55 := callable Try.func55 (by decide) rfl
theorem co56 : Callable Try.prog 56 := callable Try.func56 (by decide) rfl
theorem co57 : Callable Try.prog 57 := callable Try.func57 (by decide) rfl
theorem co58 : Callable Try.prog 58 := callable Try.func58 (by decide) rfl
theorem co59 : Callable Try.prog 59 := callable Try.func59 (by decide) rfl
theorem co60 : Callable Try.prog 60 := callable Try.func60 (by decide) rfl
theorem co61 : Callable Try.prog 61 := callable Try.func61 (by decide) rfl
theorem co62 : Callable Try.prog 62 := callable Try.func62 (by decide) rfl
theorem co63 : Callable Try.prog 63 := callable Try.func63 (by decide) rfl
theorem co64 : Callable Try.prog 64 := callable Try.func64 (by decide) rfl
theorem co65 : Callable Try.prog 65 := callable Try.func65 (by decide) rfl
theorem co66 : Callable Try.prog 66 := callable Try.func66 (by decide) rfl
theorem co67 : Callable Try.prog 67 := callable Try.func67 (by decide) rfl
theorem co68 : Callable Try.prog 68 := callable Try.func68 (by decide) rfl
theorem co69 : Callable Try.prog 69 := callable Try.func69 (by decide) rfl
theorem co70 : Callable Try.prog 70 := callable Try.func70 (by decide) rfl
theorem co71 : Callable Try.prog 71 := callable Try.func71 (by decide) rfl
theorem co72 : Callable Try.prog 72 := callable Try.func72 (by decide) rfl
theorem co73 : Callable Try.prog 73 := callable Try.func73 (by decide) rfl
theorem co74 : Callable Try.prog 74 := callable Try.func74 (by decide) rfl
theorem co75 : Callable Try.prog 75 := callable Try.func75 (by decide) rfl
theorem co76 : Callable Try.prog 76 := callable Try.func76 (by decide) rfl
theorem co77 : Callable Try.prog 77 := callable Try.func77 (by decide) rfl
theorem co78 : Callable Try.prog 78 := callable Try.func78 (by decide) rfl
theorem co79 : Callable Try.prog 79 := callable Try.func79 (by decide) rfl
theorem co80 : Callable Try.prog 80 := callable Try.func80 (by decide) rfl
theorem co81 : Callable Try.prog 81 := callable Try.func81 (by decide) rfl
theorem co82 : Callable Try.prog 82 := callable Try.func82 (by decide) rfl
theorem co83 : Callable Try.prog 83 := callable Try.func83 (by decide) rfl
theorem co84 : Callable Try.prog 84 := callable Try.func84 (by decide) rfl
theorem co85 : Callable Try.prog 85 := callable Try.func85 (by decide) rfl
theorem co86 : Callable Try.prog 86 := callable Try.func86 (by decide) rfl
theorem co87 : Callable Try.prog 87 := callable Try.func87 (by decide) rfl
theorem co88 : Callable Try.prog 88 := callable Try.func88 (by decide) rfl
theorem co89 : Callable Try.prog 89 := callable Try.func89 (by decide) rfl
theorem co90 : Callable Try.prog 90 := callable Try.func90 (by decide) rfl
theorem co91 : Callable Try.prog 91 := callable Try.func91 (by decide) rfl
theorem co92 : Callable Try.prog 92 := callable Try.func92 (by decide) rfl
theorem co93 : Callable Try.prog 93 := callable Try.func93 (by decide) rfl
theorem co94 : Callable Try.prog 94 := callable Try.func94 (by decide) rfl
theorem co95 : Callable Try.prog 95 := callable Try.func95 (by decide) rfl
theorem co96 : Callable Try.prog 96 := callable Try.func96 (by decide) rfl
theorem co97 : Callable Try.prog 97 := callable Try.func97 (by decide) rfl
theorem co98 : Callable Try.prog 98 := callable Try.func98 (by decide) rfl
theorem co99 : Callable Try.prog 99 := callable Try.func99 (by decide) rfl
theorem co100 : Callable Try.prog 100 := callable Try.func100 (by decide) rfl
theorem co101 : Callable Try.prog 101 := callable Try.func101 (by decide) rfl
theorem co102 : Callable Try.prog 102 := callable Try.func102 (by decide) rfl
theorem co103 : Callable Try.prog 103 := callable Try.func103 (by decide) rfl
theorem co104 : Callable Try.prog 104 := callable Try.func104 (by decide) rfl
theorem co105 : Callable Try.prog 105 := callable Try.func105 (by decide) rfl
theorem co106 : Callable Try.prog 106 := callable Try.func106 (by decide) rfl
theorem co107 : Callable Try.prog 107 := callable Try.func107 (by decide) rfl
theorem co108 : Callable Try.prog 108 := callable Try.func108 (by decide) rfl
theorem co109 : Callable Try.prog 109 := callable Try.func109 (by decide) rfl
theorem co110 : Callable Try.prog 110 := callable Try.func110 (by decide) rfl
theorem co111 : Callable Try.prog 111 := callable Try.func111 (by decide) rfl
theorem co112 : Callable Try.prog 112 := callable Try.func112 (by decide) rfl
theorem co113 : Callable Try.prog 113 := callable Try.func113 (by decide) rfl
theorem co114 : Callable Try.prog 114 := callable Try.func114 (by decide) rfl
theorem co115 : Callable Try.prog 115 := callable Try.func115 (by decide) rfl
theorem co116 : Callable Try.prog 116 := callable Try.func116 (by decide) rfl
theorem co117 : Callable Try.prog 117 := callable Try.func117 (by decide) rfl
theorem co118 : Callable Try.prog 118 := callable Try.func118 (by decide) rfl
theorem co119 : Callable Try.prog 119 := callable Try.func119 (by decide) rfl
theorem co120 : Callable Try.prog 120 := callable Try.func120 (by decide) rfl
theorem co121 : Callable Try.prog 121 := callable Try.func121 (by decide) rfl
theorem co122 : Callable Try.prog 122 := callable Try.func122 (by decide) rfl
theorem co123 : Callable Try.prog 123 := callable Try.func123 (by decide) rfl
theorem co124 : Callable Try.prog 124 := callable Try.func124 (by decide) rfl
theorem co125 : Callable Try.prog 125 := callable Try.func125 (by decide) rfl
theorem co126 : Callable Try.prog 126 := callable Try.func126 (by decide) rfl
theorem co127 : Callable Try.prog 127 := callable Try.func127 (by decide) rfl
theorem co128 : Callable Try.prog 128 := callable Try.func128 (by decide) rfl
theorem co129 : Callable Try.prog 129 := callable Try.func129 (by decide) rfl
theorem co130 : Callable Try.prog 130 := callable Try.func130 (by decide) rfl
theorem co131 : Callable Try.prog 131 := callable Try.func131 (by decide) rfl
theorem co132 : Callable Try.prog 132 := callable Try.func132 (by decide) rfl
theorem co133 : Callable Try.prog 133 := callable Try.func133 (by decide) rfl
theorem co134 : Callable Try.prog 134 := callable Try.func134 (by decide) rfl
theorem co135 : Callable Try.prog 135 := callable Try.func135 (by decide) rfl
theorem co136 : Callable Try.prog 136 := callable Try.func136 (by decide) rfl
theorem co137 : Callable Try.prog 137 := callable Try.func137 (by decide) rfl
theorem co138 : Callable Try.prog 138 := callable Try.func138 (by decide) rfl
theorem co139 : Callable Try.prog 139 := callable Try.func139 (by decide) rfl
theorem co140 : Callable Try.prog 140 := callable Try.func140 (by decide) rfl
theorem co141 : Callable Try.prog 141 := callable Try.func141 (by decide) rfl
theorem co142 : Callable Try.prog 142 := callable Try.func142 (by decide) rfl
theorem co143 : Callable Try.prog 143 := callable Try.func143 (by decide) rfl
theorem co144 : Callable Try.prog 144 := callable Try.func144 (by decide) rfl
theorem co145 : Callable Try.prog 145 := callable Try.func145 (by decide) rfl
theorem co146 : Callable Try.prog 146 := callable Try.func146 (by decide) rfl
theorem co147 : Callable Try.prog 147 := callable Try.func147 (by decide) rfl
theorem co148 : Callable Try.prog 148 := callable Try.func148 (by decide) rfl
end Go.Proofs.Ytpamjobiohbibaa

/-
  A walk by frames and pieces of memory: the operations on memory, slices and texts; regions that draw their order. No condition.
-/
import Derived.Test.YtpamjobiohbibaaEngB
namespace Go.Proofs.Ytpamjobiohbibaa
open Go.RowKit
set_option linter.unusedVariables false
/-- a type whose values are one cell -/
def isSc (P : Program) (t : TypeId) : Bool := (match P.underlying t with | none => false | some (.struct _) => false | some (.array _ _) => false | some _ => true) && ((P.info? t).map (·.size) == some 1)
theorem isSc_agg {P : Program} {t : TypeId} (h : isSc P t = true) (w : World) : (isAgg t).run P w = .ok false w := by
  unfold isSc at h
  unfold isAgg
  cases hd : P.underlying t with
  | none => simp [hd] at h
  | some d => cases d <;> simp [run_underlying hd] <;> simp [hd] at h
theorem isSc_size {P : Program} {t : TypeId} (h : isSc P t = true) (w : World) : (sizeOf t).run P w = .ok 1 w := by
  unfold isSc at h
  rw [Bool.and_eq_true] at h
  have h2 := h.2
  cases hi : P.info? t with
  | none => rw [hi] at h2; simp at h2
  | some i => rw [hi] at h2; simp at h2; simp [sizeOf, typeInfo, hi, h2]
def isAg (P : Program) (t : TypeId) (k : Nat) : Bool := (match P.underlying t with | some (.struct _) => true | some (.array _ _) => true | _ => false) && ((P.info? t).map (·.size) == some k)
theorem isAg_agg {P : Program} {t : TypeId} {k : Nat} (h : isAg P t k = true) (w : World) : (isAgg t).run P w = .ok true w := by
  unfold isAg at h
  unfold isAgg
  cases hd : P.underlying t with
  | none => simp [hd] at h
  | some d => cases d <;> simp [run_underlying hd] <;> simp [hd] at h
theorem isAg_size {P : Program} {t : TypeId} {k : Nat} (h : isAg P t k = true) (w : World) : (sizeOf t).run P w = .ok k w := by
  unfold isAg at h
  rw [Bool.and_eq_true] at h
  have h2 := h.2
  cases hi : P.info? t with
  | none => rw [hi] at h2; simp at h2
  | some i => rw [hi] at h2; simp at h2; simp [sizeOf, typeInfo, hi, h2]
theorem isSz {P : Program} {t : TypeId} {k : Nat} (h : (P.info? t).map (·.size) = some k) (w : World) : (sizeOf t).run P w = .ok k w := by
  cases hi : P.info? t with
  | none => rw [hi] at h; simp at h
  | some i => rw [hi] at h; simp at h; simp [sizeOf, typeInfo, hi, h]
theorem run_load_ {P : Program} {w : World} {p : Addr} {v : Value} (h : w.cell? p = some v) (m : Mode) : (load p m).run P w = .ok v w := by simp [h]
theorem sl_cell {B : Nat} {w0 w : World} {L : List Ch} {g o : Nat} {bt : TypeId} {cs : List Value} {f : Ch → List Ch} {v : Value} (hw : SL B w0 L w) (hm : Sel (.blk g bt cs) L f) (hv : cs[o]? = some v) : w.cell? ⟨g, o, none⟩ = some v := by
  have h := (hw.all _ hm.mem).2.cell o
  rw [h]; simpa using hv
section
variable {C : Cx} {Q : Exit → Fr → List Ch → Prop} {fr fr' : Fr} {L L' : List Ch} {ops : Array Oper} {l : List Oper} {op : Op} {ty : TypeId} {pos : String} {af : Array Edge} {d : Nat} {v : Value}
variable {x y z : Operand} {k : IntKind} {m n : Int} {f : Ch → List Ch} {g o : Nat} {bt t e : TypeId} {cs : List Value}
theorem det_load_blk (hs : isSc C.P t = true) (he : ev fr x = some (.pointer (some ⟨g, o, none⟩))) (hm : Sel (.blk g bt cs) L f) (hv : cs[o]? = some v) : Det C fr L (.load t x) ty v := fun a w ha hw d pos af gg => by
  simp [execOp, Instr.loadAt, Instr.sureAddr, ha.tmp he, loadVar, isSc_agg hs, sl_cell hw hm hv]
theorem run_loadAgg {P : Program} {w : World} {p : Addr} {t : TypeId} {cs : List Value} (hs : isAg P t cs.length = true) (h : ∀ j u, cs[j]? = some u → w.cell? (p.add j) = some u) : (loadVar t p).run P w = .ok (.agg cs.toArray) w := by
  simp [loadVar, isAg_agg hs, isAg_size hs, run_loadCells_list w p cs h]
theorem det_load_agg (k : Nat) (hs : isAg C.P t k = true) (he : ev fr x = some (.pointer (some ⟨g, o, none⟩))) (hm : Sel (.blk g bt cs) L f) (us : List Value) (hu : (cs.drop o).take k = us) (hk : us.length = k) : Det C fr L (.load t x) ty (.agg us.toArray) := fun a w ha hw d pos af gg => by
  subst hk
  have := run_loadAgg (P := C.P) (w := w) (p := ⟨g, o, none⟩) hs (fun j u hj => by
    rw [Addr.add_lit]
    refine sl_cell hw hm ?_
    rw [← hu, List.getElem?_take] at hj
    split at hj
    · rwa [List.getElem?_drop] at hj
    · cases hj)
  simp [execOp, Instr.loadAt, Instr.sureAddr, ha.tmp he, this]
/-- a cell of a slice that reads as a list -/
theorem bor_cell {B : Nat} {w0 w : World} {size nn c j : Nat} {A : Option Addr} {xs : List Value} {u : Value} (hb : Bor B w0 L size (.slice A nn c) nn xs) (hw : SL B w0 L w) (hu : xs[j]? = some u) (hs : 0 < nn) : ∃ ad, A = some ad ∧ w.cell? (ad.add j) = some u := by
  obtain ⟨A', c', hv, hc, hl, hr⟩ := hb w hw
  injection hv with q1 q2 q3
  subst q1
  obtain ⟨ad, h, _, hcell⟩ := hr hs
  exact ⟨ad, h, hcell j u hu⟩
theorem det_indexAddr {size nn c i : Nat} {A : Option Addr} {xs : List Value} (ht : C.P.underlying t = some (.slice e)) (hz : (C.P.info? e).map (·.size) = some size) (he : ev fr x = some (.slice A nn c)) (h2 : ev fr y = some (.int k m)) (hm : m = (i : Int)) (hi : i < nn) (hb : Bor C.B C.w0 L size (.slice A nn c) nn xs) :
    Det C fr L (.indexAddr t x y) ty (.pointer (A.map (·.add (i * size)))) := fun a w ha hw d pos af gg => by
  subst hm
  obtain ⟨A', c', hv, hc, hl, hr⟩ := hb w hw
  injection hv with q1 q2 q3
  subst q1
  obtain ⟨ad, h, _, hcell⟩ := hr (by omega)
  subst h
  simp [execOp, Instr.indexAt, asIntOf, ha.tmp he, ha.tmp h2, run_underlying ht, hi, isSz hz]
theorem det_load_row {size nn c j : Nat} {A : Option Addr} {xs : List Value} (hs : isSc C.P t = true) (he : ev fr x = some (.pointer (A.map (·.add j)))) (hb : Bor C.B C.w0 L size (.slice A nn c) nn xs) (hn : 0 < nn) (hv : xs[j]? = some v) : Det C fr L (.load t x) ty v := fun a w ha hw d pos af gg => by
  obtain ⟨ad, rfl, hc⟩ := bor_cell hb hw hv hn
  simp [execOp, Instr.loadAt, Instr.sureAddr, ha.tmp he, loadVar, isSc_agg hs, hc]
/-- a field's cell of an element -/
theorem det_load_rowf {size nn c j q : Nat} {A : Option Addr} {xs : List Value} (hs : isSc C.P t = true) (he : ev fr x = some (.pointer (A.map (fun ad => (ad.add j).add q)))) (hb : Bor C.B C.w0 L size (.slice A nn c) nn xs) (hn : 0 < nn) (hv : xs[j + q]? = some v) : Det C fr L (.load t x) ty v := fun a w ha hw d pos af gg => by
  obtain ⟨ad, rfl, hc⟩ := bor_cell hb hw hv hn
  rw [← add_of_add] at hc
  simp [execOp, Instr.loadAt, Instr.sureAddr, ha.tmp he, loadVar, isSc_agg hs, hc]
/-- a whole element -/
theorem det_load_rowa {size nn c j : Nat} {A : Option Addr} {xs : List Value} (k : Nat) (hs : isAg C.P t k = true) (he : ev fr x = some (.pointer (A.map (·.add j)))) (hb : Bor C.B C.w0 L size (.slice A nn c) nn xs) (hn : 0 < nn) (us : List Value) (hu : ∀ q u, us[q]? = some u → xs[j + q]? = some u) (hk : us.length = k) : Det C fr L (.load t x) ty (.agg us.toArray) := fun a w ha hw d pos af gg => by
  subst hk
  obtain ⟨A', c', hv, hc, hl, hr⟩ := hb w hw
  injection hv with q1 q2 q3
  subst q1
  obtain ⟨ad, h, _, hcell⟩ := hr hn
  subst h
  have := run_loadAgg (P := C.P) (w := w) (p := ad.add j) hs (fun q u hq => by rw [add_of_add]; exact hcell _ _ (hu q u hq))
  simp [execOp, Instr.loadAt, Instr.sureAddr, ha.tmp he, this]
theorem det_fieldAddr {fs : Array Field} {i : Nat} {fd : Field} {sz : Nat} (ht : C.P.underlying t = some (.struct fs)) (hf : fs[i]? = some fd) (hz : (C.P.info? fd.type).map (·.size) = some (sz + 1)) (he : ev fr x = some (.pointer (some ⟨g, o, none⟩))) {q : Nat} (hq : o + fd.offset = q) :
    Det C fr L (.fieldAddr t x i) ty (.pointer (some ⟨g, q, none⟩)) := fun a w ha hw d pos af gg => by
  subst hq
  have h0 : ¬ (sz + 1 = 0) := by omega
  simp [execOp, Instr.fieldAt, Instr.sureAddr, fieldPlace, ha.tmp he, run_underlying ht, hf, isSz hz, Addr.add_lit]
theorem det_fieldAddr_row {fs : Array Field} {i j : Nat} {fd : Field} {sz size nn c : Nat} {A : Option Addr} {xs : List Value} (ht : C.P.underlying t = some (.struct fs)) (hf : fs[i]? = some fd) (hz : (C.P.info? fd.type).map (·.size) = some (sz + 1)) (he : ev fr x = some (.pointer (A.map (·.add j))))
    (hb : Bor C.B C.w0 L size (.slice A nn c) nn xs) (hn : 0 < nn) {q : Nat} (hq : fd.offset = q) :
    Det C fr L (.fieldAddr t x i) ty (.pointer (A.map (fun ad => (ad.add j).add q))) := fun a w ha hw d pos af gg => by
  subst hq
  obtain ⟨A', c', hv, hc, hl, hr⟩ := hb w hw
  injection hv with q1 q2 q3
  subst q1
  obtain ⟨ad, h, _, hcell⟩ := hr hn
  subst h
  simp [execOp, Instr.fieldAt, Instr.sureAddr, fieldPlace, ha.tmp he, run_underlying ht, hf, isSz hz]
/-- a field of a struct by value -/
theorem det_field {fs : Array Field} {i : Nat} {fd : Field} (ht : C.P.underlying t = some (.struct fs)) (hf : fs[i]? = some fd) (hs : isSc C.P fd.type = true) (he : ev fr x = some (.agg cs.toArray)) (hv : cs[fd.offset]? = some v) : Det C fr L (.field t x i) ty v := fun a w ha hw d pos af gg => by
  simp [execOp, Instr.field, part, asAgg, ha.tmp he, run_underlying ht, hf, isSc_agg hs, hv]
/-- an element of an array by value -/
theorem det_index_arr {nn i : Nat} (ht : C.P.underlying t = some (.array nn e)) (hs : isSc C.P e = true) (he : ev fr x = some (.agg cs.toArray)) (h2 : ev fr y = some (.int k m)) (hm : m = (i : Int)) (hi : i < nn) (hv : cs[i]? = some v) : Det C fr L (.index t x y) ty v := fun a w ha hw d pos af gg => by
  subst hm
  simp [execOp, Instr.index, part, asIntOf, ha.tmp he, ha.tmp h2, run_underlying ht, isSc_agg hs, isSc_size hs, hv, hi]

theorem run_box (P : Program) (w : World) (e : TypeId) (v : Value) : (Instr.box e v).run P w = .ok (.pointer (some ⟨w.heap.size, 0, none⟩)) (w.alloc (.cells v.cells e)) := by
  simp [Instr.box, newVar, newRow]
theorem SL.new_blk {B : Nat} {w0 w : World} {L : List Ch} (h : SL B w0 L w) (e : TypeId) (cs : List Value) : SL B w0 (.blk w.heap.size e cs :: L) (w.alloc (.cells cs.toArray e)) :=
  h.cons_new (World.grownBy_alloc w _ none) ⟨h.base, Blk.new w e cs.toArray⟩ (.inr ⟨_, rfl, Nat.le_refl _⟩)
theorem eff_box (he : ev fr x = some v) (hc : v.cells = cs.toArray) : Eff C fr L (.box e x) ty (fun p L' => ∃ g, p = .pointer (some ⟨g, 0, none⟩) ∧ L' = .blk g e cs :: L) := fun a w ha hw d pos af gg =>
  ⟨.pointer (some ⟨w.heap.size, 0, none⟩), w.alloc (.cells v.cells e), _, .inl (by simp [execOp, ha.tmp he, run_box]), ⟨w.heap.size, rfl, rfl⟩, by rw [hc]; exact hw.new_blk e cs⟩
theorem eff_alloc {i : TypeInfo} {zv : Value} (hi : C.P.info? e = some i) (hz : i.zero = some zv) (hc : zv.cells = cs.toArray) : Eff C fr L (.alloc e) ty (fun p L' => ∃ g, p = .pointer (some ⟨g, 0, none⟩) ∧ L' = .blk g e cs :: L) := fun a w ha hw d pos af gg =>
  ⟨.pointer (some ⟨w.heap.size, 0, none⟩), w.alloc (.cells zv.cells e), .blk w.heap.size e cs :: L, .inl (by simp [execOp, Instr.alloc, zeroValue, typeInfo, hi, hz, newVar, newRow]), ⟨w.heap.size, rfl, rfl⟩, by rw [hc]; exact hw.new_blk e cs⟩
theorem SL.sel {B : Nat} {w0 w w' : World} {L : List Ch} {c c' : Ch} {f : Ch → List Ch} (h : SL B w0 L w) (hs : Sel c L f) (hg : w.grownBy w' c.fp) (hc : c.holds B w → c'.holds B w') (hf : c'.fp = none ∨ c'.fp = c.fp ∨ ∃ g, c'.fp = some g ∧ w.heap.size ≤ g) : SL B w0 (f c') w' := by
  obtain ⟨R, h1, h2⟩ := hs.perm
  have hp := h.perm h1
  exact (hp.turn hg (hc hp.head) hf).perm (h2 c').symm
theorem SL.store {B : Nat} {w0 w : World} {L : List Ch} {f : Ch → List Ch} {g o : Nat} {bt : TypeId} {cs : List Value} (h : SL B w0 L w) (hm : Sel (.blk g bt cs) L f) (u : Value) : SL B w0 (f (.blk g bt (cs.set o u))) (w.setCell ⟨g, o, none⟩ u) :=
  h.sel hm (only_setCell (World.grownBy.refl w _) (.inl rfl) u) (fun ⟨h1, h2⟩ => ⟨h1, by have := h2.set_ o u; simpa using this⟩) (.inr (.inl rfl))
theorem run_storeSc {P : Program} {w : World} {p : Addr} {v u : Value} (hs : isSc P t = true) (h1 : v.oneCell' = true) (hc : w.cell? p = some u) (hf : w.frozen? p = false) : (storeVar t p v).run P w = .ok () (w.setCell p v) := by
  have hcs : v.cells = #[v] := by cases v <;> simp_all [Value.cells, Value.oneCell']
  simp [storeVar, isSc_size hs, hcs, storeCells, Addr.add, run_store P w p v _ h1, hc, hf]
theorem eff_store (hs : isSc C.P t = true) (he : ev fr x = some (.pointer (some ⟨g, o, none⟩))) (hv : ev fr y = some v) (h1 : v.oneCell' = true) (hm : Sel (.blk g bt cs) L f) (ho : o < cs.length) :
    Eff C fr L (.store t x y) ty (fun p L' => L' = f (.blk g bt (cs.set o v))) := fun a w ha hw d pos af gg => by
  have hc := sl_cell hw hm (List.getElem?_eq_getElem ho)
  have hf := (hw.all _ hm.mem).2.frozen o
  exact ⟨undef, _, _, .inr ⟨by simp [execOp, Instr.storeAt, Instr.sureAddr, ha.tmp he, ha.tmp hv, run_storeSc hs h1 hc hf], rfl⟩, rfl, hw.store hm v⟩

/-! ### Rows -/
theorem OwnR.append {P : Program} {t e : TypeId} {size bytes : Nat} {z : Value} (T : SlT P t e size bytes z) (ty : TypeId) {w : World} {B : Nat} {A : Option Addr} {n c : Nat} {xs : List Value} (hown : OwnR w B e size A n c xs)
    {B2 : Nat} {x : Value} {m : Nat} {news : List Value} (hr : Rd w B2 size x m news) (h1 : ∀ u ∈ news, u.oneCell' = true) (hbytes : (n + m) * bytes ≤ 140737488355328) (h63 : n + m ≤ 140737488355328) (hbase : B ≤ w.heap.size) :
    ∃ A' c' w', (Builtin.append_ #[t, t] ty #[.slice A n c, x]).run P w = .ok (.slice A' (n + m) c') w' ∧ OwnR w' B e size A' (n + m) c' (xs ++ news) ∧ w.grownBy w' (Ch.own e size A n c xs).fp ∧
      ((Ch.own e size A' (n + m) c' (xs ++ news)).fp = none ∨ (Ch.own e size A' (n + m) c' (xs ++ news)).fp = (Ch.own e size A n c xs).fp ∨ ∃ g, (Ch.own e size A' (n + m) c' (xs ++ news)).fp = some g ∧ w.heap.size ≤ g) := by
  obtain ⟨i, hi, hz, hsz, hby⟩ := T.hi
  subst hsz hby
  obtain ⟨X, cx, rfl, hmc, hl, hrd⟩ := hr
  obtain ⟨k1, k2, k3⟩ := hown
  have hmax : n + m ≤ maxLen := by unfold maxLen; omega
  have hlen : (xs ++ news).length = (n + m) * i.size := by rw [List.length_append, k1, hl, Nat.add_mul]
  have big : ∀ old, old < n + m → OwnR (w.drew.alloc (.cells (xs.toArray ++ news.toArray ++ Builtin.zeroCells z.cells (grownCap w (n + m) old e - (n + m))) e)) B e i.size (some ⟨w.heap.size, 0, none⟩) (n + m) (grownCap w (n + m) old e) (xs ++ news) := by
    intro old ho
    have hge := grownCap_ge w (n + m) old e
    refine ⟨hlen, hge, .inr ⟨w.heap.size, _, rfl, hbase, heap_alloc_new w.drew _, grownCap_le_maxLen w (n + m) old e hmax, ?_, ?_⟩⟩
    · simp only [Array.size_append, List.size_toArray, size_zeroCells, T.hz, k1, hl, ← Nat.add_mul]
      congr 1
      omega
    · simp only [Array.toList_append, List.append_assoc]
      rw [← List.append_assoc, ← hlen]
      exact List.take_left
  have hgrow : ∀ (o : Obj) (row : Option Nat), w.grownBy (w.drew.alloc o) row := fun o row => ⟨rfl, rfl, rfl, by simp, fun k hk _ => heap_alloc_old w.drew o hk⟩
  have hfp : ∀ c', 0 < c' → (Ch.own e i.size (some ⟨w.heap.size, 0, none⟩) (n + m) c' (xs ++ news)).fp = some w.heap.size := fun c' h => by simp [Ch.fp, Nat.pos_iff_ne_zero.1 h]
  rcases X with _ | ad
  · have hm : m = 0 := by
      rcases Nat.eq_zero_or_pos m with h0 | h0
      · exact h0
      · obtain ⟨ad, h, _⟩ := hrd h0; cases h
    subst hm
    have hn : news = [] := List.eq_nil_of_length_eq_zero (by simpa using hl)
    subst hn
    refine ⟨A, c, w, ?_, ⟨by simpa using k1, by simpa using k2, by simpa using k3⟩, World.grownBy.refl w _, .inr (.inl rfl)⟩
    rcases A with _ | a0
    · simp [Builtin.append_, run_underlying T.ht, sizeOf, typeInfo, hi, Builtin.lenOf, Builtin.firstCells, k2]
    · simp [Builtin.append_, run_underlying T.ht, sizeOf, typeInfo, hi, Builtin.lenOf, Builtin.firstCells, k2, storeCells]
  · have hnews : ∀ j u, news[j]? = some u → w.cell? (ad.add j) = some u := by
      intro j u hu
      rcases Nat.eq_zero_or_pos m with h0 | h0
      · subst h0
        have hn : news = [] := List.eq_nil_of_length_eq_zero (by simpa using hl)
        subst hn
        simp at hu
      · obtain ⟨ad', h, _, hc⟩ := hrd h0
        injection h with h
        subst h
        exact hc j u hu
    by_cases hroom : n + m ≤ c
    · by_cases hc0 : c = 0
      · have hn0 : n = 0 := by omega
        have hm0 : m = 0 := by omega
        subst hn0 hm0 hc0
        have hn : news = [] := List.eq_nil_of_length_eq_zero (by simpa using hl)
        have hx : xs = [] := List.eq_nil_of_length_eq_zero (by simpa using k1)
        subst hn hx
        refine ⟨A, 0, w, ?_, ⟨by simp, by simp, .inl rfl⟩, World.grownBy.refl w _, .inl rfl⟩
        rcases A with _ | a0
        · simp [Builtin.append_, run_underlying T.ht, sizeOf, typeInfo, hi, Builtin.lenOf, Builtin.firstCells, loadCells, loadCellsFrom]
        · simp [Builtin.append_, run_underlying T.ht, sizeOf, typeInfo, hi, Builtin.lenOf, Builtin.firstCells, loadCells, loadCellsFrom, storeCells]
      · obtain ⟨g, cur, rfl, hbg, hg, hcm, hcs, htake⟩ := k3.resolve_left hc0
        have hfit : n * i.size + news.length ≤ cur.size := by rw [hl, hcs, ← Nat.add_mul]; exact Nat.mul_le_mul_right _ hroom
        have hr := run_append_room (P := P) w t ty e i T.ht hi g n c cur hg ad m cx news hl hnews h1 hroom hfit
        refine ⟨_, _, _, hr, ⟨hlen, hroom, .inr ⟨g, _, rfl, hbg, setRow_heap w g cur _ e _ hg, hcm, ?_, ?_⟩⟩, ?_, .inr (.inl (by simp [Ch.fp, hc0]))⟩
        · simp only [List.size_toArray, List.length_append, List.length_take, List.length_drop, Array.length_toList]
          omega
        · rw [htake, ← hlen]
          exact List.take_left
        · rw [show (Ch.own e i.size (some ⟨g, 0, none⟩) n c xs).fp = some g by simp [Ch.fp, hc0]]
          exact ⟨rfl, rfl, rfl, by simp, fun k _ hk => setRow_other w g k _ (fun e => hk (by rw [e]))⟩
    · rcases A with _ | a0
      · have hc0 : c = 0 := by
          rcases k3 with h | ⟨g, _, h, _⟩
          · exact h
          · cases h
        have hn0 : n = 0 := by omega
        subst hn0 hc0
        have hx : xs = [] := List.eq_nil_of_length_eq_zero (by simpa using k1)
        subst hx
        have hr := run_append_nil (P := P) w t ty e i z T.ht hi hz ad m cx news hl hnews (by omega) (by omega) (by simp only [Nat.zero_add] at hbytes; omega)
        have hb := big 0 (by omega)
        simp only [Nat.zero_add, List.nil_append, Array.empty_append] at hb ⊢
        simp only [Nat.zero_add, List.nil_append] at hfp
        exact ⟨_, _, _, hr, hb, hgrow _ _, .inr (.inr ⟨_, hfp _ (by have := hb.2.1; omega), Nat.le_refl _⟩)⟩
      · have holds : ∀ j u, xs[j]? = some u → w.cell? (a0.add j) = some u := by
          intro j u hu
          rcases k3 with h | ⟨g, cur, h, _, hg, _, hcs, htake⟩
          · have hn0 : n = 0 := by omega
            subst hn0
            have hx : xs = [] := List.eq_nil_of_length_eq_zero (by simpa using k1)
            subst hx
            simp at hu
          · injection h with h
            subst h
            rw [Addr.add_lit, Nat.zero_add, cell_of_row w g j cur e (0, 0) hg]
            rw [← htake, List.getElem?_take] at hu
            split at hu
            · simpa using hu
            · cases hu
        have hr := run_append_grow (P := P) w t ty e i z T.ht hi hz a0 n c xs k1 holds ad m cx news hl hnews (by omega) (by omega) (growslice_fits (by omega) hbytes)
        have hb := big c (by omega)
        exact ⟨_, _, _, hr, hb, hgrow _ _, .inr (.inr ⟨_, hfp _ (by have := hb.2.1; omega), Nat.le_refl _⟩)⟩
theorem eff_app {size bytes : Nat} {zv : Value} (T : SlT C.P t e size bytes zv) {A : Option Addr} {n c : Nat} {xs : List Value} (he : ev fr x = some (.slice A n c)) (hs : Sel (.own e size A n c xs) L f) {yv : Value} {m : Nat} {news : List Value} (hy : ev fr y = some yv) (hb : Bor C.B C.w0 L size yv m news)
    (h1 : ∀ u ∈ news, u.oneCell' = true) (hbytes : (n + m) * bytes ≤ 140737488355328) (h63 : n + m ≤ 140737488355328) :
    Eff C fr L (.call { callee := .builtin .append, args := #[x, y], argTypes := #[t, t] }) ty (fun p L' => ∃ A' c', p = .slice A' (n + m) c' ∧ L' = f (.own e size A' (n + m) c' (xs ++ news))) := fun a w ha hw d pos af gg => by
  obtain ⟨A', c', w', hr, h2, h3, h4⟩ := OwnR.append T ty (hw.all _ hs.mem) (hb w hw) h1 hbytes h63 hw.base
  refine ⟨_, w', _, .inl ?_, ⟨A', c', rfl, rfl⟩, hw.sel hs h3 (fun _ => h2) h4⟩
  simp [execOp, resolve, invoke, builtin, ha.tmp he, ha.tmp hy, hr]
/-- append to a nil slice, or to one without room -/
theorem eff_app_nil {size bytes : Nat} {zv : Value} (T : SlT C.P t e size bytes zv) {A : Option Addr} (he : ev fr x = some (.slice A 0 0)) {yv : Value} {m : Nat} {news : List Value} (hy : ev fr y = some yv) (hb : Bor C.B C.w0 L size yv m news)
    (h1 : ∀ u ∈ news, u.oneCell' = true) (hbytes : m * bytes ≤ 140737488355328) (h63 : m ≤ 140737488355328) :
    Eff C fr L (.call { callee := .builtin .append, args := #[x, y], argTypes := #[t, t] }) ty (fun p L' => ∃ A' c', p = .slice A' m c' ∧ L' = .own e size A' m c' news :: L) := fun a w ha hw d pos af gg => by
  have hw2 : SL C.B C.w0 (.own e size A 0 0 [] :: L) w := hw.cons_new (World.grownBy.refl w _) ⟨by simp, Nat.le_refl _, .inl rfl⟩ (.inl rfl)
  obtain ⟨A', c', w', hr, h2, h3, h4⟩ := OwnR.append T ty hw2.head (hb w hw) h1 (by simpa using hbytes) (by simpa using h63) hw.base
  simp only [Nat.zero_add, List.nil_append] at hr h2 h3 h4
  refine ⟨_, w', _, .inl ?_, ⟨A', c', rfl, rfl⟩, hw2.sel .hd h3 (fun _ => h2) h4⟩
  simp [execOp, resolve, invoke, builtin, ha.tmp he, ha.tmp hy, hr]
/-- an empty row is owned by whoever names it -/
theorem SL.nil_row {B : Nat} {w0 w : World} {L : List Ch} (h : SL B w0 L w) (e : TypeId) (size : Nat) (A : Option Addr) : SL B w0 (.own e size A 0 0 [] :: L) w := h.cons_new (World.grownBy.refl w _) ⟨by simp, Nat.le_refl _, .inl rfl⟩ (.inl rfl)
theorem vc_nil_row {cd : Code} (e : TypeId) (size : Nat) (A : Option Addr) (h : VC C cd Q fr (.own e size A 0 0 [] :: L)) : VC C cd Q fr L := fun a w ha hw => h a w ha (hw.nil_row e size A)
theorem vl_nil_row (e : TypeId) (size : Nat) (A : Option Addr) (h : VL C ops Q l fr (.own e size A 0 0 [] :: L)) : VL C ops Q l fr L := fun a w ha hw => h a w ha (hw.nil_row e size A)
/-- 's[:k]' of an owned row is owned -/
theorem SL.cut_row {B : Nat} {w0 w : World} {L : List Ch} {e : TypeId} {size n c k : Nat} {A : Option Addr} {xs : List Value} {f : Ch → List Ch} (h : SL B w0 L w) (hs : Sel (.own e size A n c xs) L f) (hk : k ≤ n) : SL B w0 (f (.own e size A k c (xs.take (k * size)))) w := by
  refine h.sel hs (World.grownBy.refl w _) (fun ⟨h1, h2, h3⟩ => ⟨by rw [List.length_take, h1]; exact Nat.min_eq_left (Nat.mul_le_mul_right _ hk), by omega, ?_⟩) (.inr (.inl rfl))
  refine h3.imp id fun ⟨g, cur, k1, k2, k3, k4, k5, k6⟩ => ⟨g, cur, k1, k2, k3, k4, k5, ?_⟩
  rw [← k6, List.take_take, Nat.min_eq_left (Nat.mul_le_mul_right _ hk)]
theorem vl_cut_row {e : TypeId} {size n c : Nat} (k : Nat) {A : Option Addr} {xs : List Value} (hs : Sel (.own e size A n c xs) L f) (hk : k ≤ n) (h : VL C ops Q l fr (f (.own e size A k c (xs.take (k * size))))) : VL C ops Q l fr L := fun a w ha hw => h a w ha (hw.cut_row hs hk)
/-- a new row of what is laid into it -/
theorem eff_buildSlice {size kk : Nat} {parts : List (Nat × Operand)} (ht : C.P.underlying t = some (.slice e)) (hz : (C.P.info? e).map (·.size) = some size) (h0 : 0 < size) (hpos : 0 < kk) (hk : kk * size ≤ 1048576) {zv : Value} (hzero : (C.P.info? e).bind (·.zero) = some zv) {us : List (Nat × Value)} (hp : parts.map (fun p => (p.1, ev fr p.2)) = us.map (fun p => (p.1, some p.2)))
    (hfill : Instr.fill (fun i => some (i * size, size)) ((Array.range (kk * size)).map (zv.cells[· % zv.cells.size]!)) us = some cs.toArray) (hl : cs.length = kk * size) :
    Eff C fr L (.buildSlice t kk parts.toArray) ty (fun p L' => ∃ A, p = .slice A kk kk ∧ L' = .own e size A kk kk cs :: L) := fun a w ha hw d pos af gg => by
  have hps : parts.map (fun p => (p.1, a.eval p.2)) = us := by
    clear hfill
    induction parts generalizing us with
    | nil => cases us with | nil => rfl | cons _ _ => cases hp
    | cons p ps ih =>
      cases us with
      | nil => cases hp
      | cons u us =>
        simp only [List.map_cons, List.cons.injEq, Prod.mk.injEq] at hp
        obtain ⟨⟨h1, h2⟩, h3⟩ := hp
        simp only [List.map_cons, ha.tmp h2, h1, ih h3]
  cases hi : C.P.info? e with
  | none => rw [hi] at hz; cases hz
  | some i =>
    rw [hi] at hz hzero
    simp at hz hzero
    subst hz
    have hkk : ¬ (16777216 < kk * i.size) := by omega
    refine ⟨_, w.alloc (.cells cs.toArray e), _, .inl ?_, ⟨some ⟨w.heap.size, 0, none⟩, rfl, rfl⟩, hw.cons_new (World.grownBy_alloc w _ none) ⟨hl, Nat.le_refl _, ?_⟩ ?_⟩
    · have hk0 : ¬ kk * i.size = 0 := Nat.ne_of_gt (Nat.mul_pos hpos h0)
      simp [execOp, Instr.buildSlice, run_underlying ht, sizeOf, typeInfo, zeroValue, hi, hzero, hkk, hk0, hps, hfill, newRow]
    · by_cases hk0 : kk = 0
      · exact .inl hk0
      · exact .inr ⟨_, _, rfl, hw.base, heap_alloc_new w _, by unfold maxLen; have := Nat.le_mul_of_pos_right kk h0; omega, by simpa using hl, by simp [← hl]⟩
    · by_cases hk0 : kk = 0
      · left; simp [Ch.fp, hk0]
      · right; exact ⟨w.heap.size, by simp [Ch.fp, hk0], Nat.le_refl _⟩
end
end Go.Proofs.Ytpamjobiohbibaa

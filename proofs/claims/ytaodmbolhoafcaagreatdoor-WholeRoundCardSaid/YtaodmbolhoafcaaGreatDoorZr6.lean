/-
  Texts of one proof, joined: part 6. No condition.
-/
import Derived.Test.YtaodmbolhoafcaaGreatDoorZr5
open Go.RowKit Go.Proofs.Tryz
namespace Go.Proofs.YtaodmbolhoafcaaGreatDoor
set_option linter.unusedVariables false
set_option linter.unusedSimpArgs false
set_option maxRecDepth 20000
variable{B:Nat}{w0:World}{F:aR}{A A1 A2:bj}{n c c1 c2 g:Nat}{bt:TypeId}{f:Ch→aR}{s:Cs}
section
theorem nB:type_of% @List.mem_append_right:= @List.mem_append_right
theorem j_:type_of% @List.mem_append_left:= @List.mem_append_left
def Ch.isObj:Ch→Bool
 | .obj _ _=>true
 |_=>false
section
variable{B:Nat}{w0 w w':World}{L M:aR}{c d:Ch}
theorem Ch.holds.cells(h:c.holds B w)(hc:c.isObj=false){g:Nat}(hg:c.fp=some g):∃o,w.heap[g]? =some o∧o.isCells=true:=by
 cases c with
 |own e size A n cc xs=>
  obtain⟨_,_,h⟩:=h;simp only[Ch.fp]at hg;by_cases qO:cc=0
  ·rw[aq qO]at hg;cases hg
  ·rw[aw qO]at hg;obtain⟨g',cur,rfl,h1,h2,_⟩:=h.resolve_left qO;simp at hg;subst hg;exact⟨_,h2,rfl⟩
 |bE g' t cs=>
  simp only[Ch.fp,Et]at hg;subst hg;exact⟨_,h.2,rfl⟩
 |obj g' o=>cases hc
theorem SL.an_(h:SL B w0 M w){row:Option Nat}(hg:w.grownBy w' row){K:Nat}(hK:B≤K)(hr:∀r,row=some r→K≤r∧∃o:Obj,w.heap[r]? =some o∧o.isCells=false)(ho:∀c∈M,c.isObj=true→∀g,c.fp=some g→g<K):SL B w0 M w':=by
 refine⟨h.below.grown hg h.base (fun k hk=>jf hK (hr k hk).1),jf h.base hg.size,fun c hc=>(h.all c hc).keep fun g hgc=>?_,h.apart⟩;refine hg.block g ((h.all c hc).lt hgc).2 fun e=>?_;obtain⟨h1,o,h2,h3⟩:=hr g e.symm;cases x9:c.isObj with
 |true=>exact absurd (ho c hc x9 g hgc) aa
 |false=>
  obtain⟨o',h4,h5⟩:=(h.all c hc).cells x9 hgc;rw[h2]at h4;cases h4
  rw[h3]at h5;cases h5
theorem aL.later{size n:Nat}{v:Value}{xs:cV}{w1:World}(h:aL B w0 L size v n xs)(hb:Below B w0 w1):aL B w1 L size v n xs:=fun w hs=>h w ⟨hb.trans hs.below,hs.base,hs.all,hs.apart⟩
def rest(B:Nat)(M:aR)(w:World):aR:=((List.range w.heap.size).filter fun k=>decide (B≤k)&&M.all fun c=>decide (c.fp≠some k)).filterMap fun k=>(w.heap[k]?).map (Ch.obj k)
theorem Fe:c∈rest B M w↔∃k o,B≤k∧w.heap[k]? =some o∧(∀d∈M,d.fp≠some k)∧c= .obj k o:=by
 unfold rest;simp only[List.mem_filterMap,BE,ky,z7,N6,ye,Option.map_eq_some_iff];constructor
 ·rintro⟨k,⟨h1,h2,h3⟩,o,h4,rfl⟩;exact⟨k,o,h2,h4,h3,rfl⟩
 ·rintro⟨k,o,h2,h4,h3,rfl⟩;exact⟨k,⟨(k_3.1 h4).1,h2,h3⟩,o,h4,rfl⟩
theorem S0(B:Nat)(M:aR)(w:World):(rest B M w).Pairwise Ch.apart:=by
 unfold rest;have h:((List.range w.heap.size).filter fun k=>decide (B≤k)&&M.all fun c=>decide (c.fp≠some k)).Pairwise (· ≠ ·):=(List.nodup_range).filter _;generalize ((List.range w.heap.size).filter fun k=>decide (B≤k)&&M.all fun c=>decide (c.fp≠some k))=ks at h⊢;induction ks with
 |nil=>exact List.Pairwise.nil
 |cons k ks ih=>
  have h':=kB.1 h;rw[List.filterMap_cons];cases hk:(w.heap[k]?).map (Ch.obj k)with
  |none=>exact ih h'.2
  |some c=>
   refine kB.2 ⟨fun d hd=>?_,ih h'.2⟩;obtain⟨k',hk',hd'⟩:=List.mem_filterMap.1 hd;obtain⟨o,ho,rfl⟩:=Option.map_eq_some_iff.1 hk;obtain⟨o',ho',rfl⟩:=Option.map_eq_some_iff.1 hd';exact .inr fun e=>h'.1 k' hk' (N8 e)
theorem SL.full(h:SL B w0 M w):SL B w (M++rest B M w) w:=by
 refine⟨G3 _ _,h.base,fun c hc=>?_,sW.2 ⟨h.apart,S0 B M w,fun c hc d hd=>?_⟩⟩
 ·rcases dy.1 hc with hc|hc
  ·exact h.all c hc
  ·obtain⟨k,o,h1,h2,h3,rfl⟩:=Fe.1 hc;exact⟨h1,h2⟩
 ·obtain⟨k,o,h1,h2,h3,rfl⟩:=Fe.1 hd;exact .inr (h3 c hc)
theorem G5{M':aR}(h:SL B w0 M w)(h':SL B w (M'++rest B M w) w')(ho:∀c∈M,c.isObj=true→c∈M'):KeepsOthers w w':=by
 refine⟨h'.below.size,fun k o hk hc=>?_⟩;by_cases hB:k<B
 ·rw[h'.below.block k hB];exact hk
 ·by_cases hm:∀d∈M,d.fp≠some k
  ·exact(h'.all _ (nB _ (Fe.2 ⟨k,o,aa,hk,hm,rfl⟩))).2
  ·obtain⟨d,hdm,hf⟩:∃d,d∈M∧d.fp=some k:=by
    refine bF fun hn=>hm fun d h1 h2=>hn ⟨d,h1,h2⟩
   cases hdo:d.isObj with
   |false=>
    obtain⟨o',h4,h5⟩:=(h.all d hdm).cells hdo hf;rw[hk]at h4;cases h4
    rw[hc]at h5;cases h5
   |true=>
    cases d with
    |obj g o'=>
     have e:g=k:=N8 hf;subst e;have h1:w.heap[g]? =some o':=(h.all (.obj g o') hdm).2;rw[hk]at h1;cases h1
     exact(h'.all _ (j_ _ (ho _ hdm hdo))).2
    |_=>cases hdo
theorem SL.abG(h:SL B w0 M w){D:Nat}{o:Obj}(hB:B≤D)(hD:w.heap[D]? =some o)(ho:o.isCells=false)(hm:∀c∈M,c.isObj=true→∀g,c.fp=some g→g<D):SL B w0 (.obj D o::M) w:=by
 refine⟨h.below,h.base,fun c hc=>?_,kB.2 ⟨fun d hd=>.inr fun e=>?_,h.apart⟩⟩
 ·rcases fm.1 hc with rfl|hc
  ·exact⟨hB,hD⟩
  ·exact h.all c hc
 ·have e:d.fp=some D:=e.symm;cases hdo:d.isObj with
  |true=>exact absurd (hm d hd hdo D e) (Nat.lt_irrefl _)
  |false=>
   obtain⟨o',h4,h5⟩:=(h.all d hd).cells hdo e;rw[hD]at h4;cases h4
   rw[ho]at h5;cases h5
end
theorem Lh{C:Cx}{QQ:Exit→Act→World→Prop}{fr:Fr}{L:aR}{x b y:Code}(h:VC C x (TG C b (Exit.then (y.wp C.P QQ) QQ)) fr L):VG C (.seq (.seq x b) y) QQ fr L:=fun a w ha hs=>
 wp_seq (wp_seq (ym (h a w ha hs) fun e a w ⟨fr,L,ha,hs,hq⟩=>by
  cases e<;>exact hq a w ha hs))
def ak6(B:Nat)(Lk:aR)(W W':World):Prop:=∀c∈Lk,c.holds B W→c.holds B W'
section
variable{C:Cx}{QQ:Exit→Act→World→Prop}{fr:Fr}{L:aR}{y body:Code}{α σ:Type}
theorem FU{id r0 p d gf N:Nat}{g:Operand}{lb:cV}{ty:TypeId}{pos:String}{af:Array Edge}(hc:aJ C.P gf)(hg:ev fr g=some (.func (.func gf) #[] lb.toArray))(hp:Nat.blt p C.N=true)(hd:Nat.blt d C.N=true)(enc:α→Value)(S Sp:List α→Prop)(Lk:aR)(amq:∀w,SL C.B C.w0 L w→SeqStopsK Fence.wide 7 C.P gf lb.toArray (fun x=> #[enc x]) (ak6 C.B Lk) S Sp N w)(ok:List α→σ→Prop)(G:List α→σ→aR)(hGo:∀pre s c,c.isObj=true→(c∈G pre s↔c∈L))(hLk:∀c∈Lk,c.isObj=false∧∀pre s,c∈G pre s)(s0:σ)(h0:ok [] s0)(hg0:Wk L (G [] s0))(ap6:∀l pre x s w1,ok pre s→pre.length<N→Below C.B C.w0 w1→∀F',VR ⟨C.P,C.N,C.B,w1⟩ l 6 body (fun jH L'=>∃s',ok (pre++[x]) s'∧Wk L' (G (pre++[x]) s'++F')) ((d,enc x)::(p,enc x)::fr) (G pre s++F'))(ap':∀D xs s,S xs→ok xs s→VM C D y QQ fr (.obj D (.deferred (some []))::G xs s)):
  VG C (.block id (.rangeFunc g #[p] (.region r0 [(⟨some d,.assign (.tmp p),ty,pos,af,none⟩:Oper)].toArray false) body)) (Exit.then (y.wp C.P QQ) QQ) fr L:=fun a w ha hs=>by
 have asR:=hg0.sl hs;have aqm:∀pre s,∀c∈G pre s,c.isObj=true→∀g,c.fp=some g→g<w.heap.size:=fun pre s c hc ho g hg=>((hs.all c ((hGo pre s c ho).1 hc)).lt hg).2;have eg:∀args w,(callFunc gf args).run C.P w= .ok (.enter gf args) w:=fun args w=>by
  obtain⟨fn,cc,h1,h2,h3⟩:=hc;have h2':¬fn.name= "runtime.NumGoroutine" :=by simpa using h2
  simp[callFunc,h1,h2',h3]
 refine wp_block (wpIn_wide.1 (wpIn_rangeFunc_ownF (n:=8) rfl aA (ha.tmp hg) trivial eg (amq w hs) (fun h k c hc hh=>k c hc (h c hc hh)) ?kb (G3 _ _) (fun _=>rfl)
  (fun pre W=>∃s,ok pre s∧SL C.B C.w0 (G pre s) W) (fun _ _ _=>False) ?own (fun _ _ _ _ _ h _ _=>h) ⟨s0,h0,asR⟩ (fun x=>((a.put (some p) (enc x)).put (some d) (enc x))) ?assign ?body ?done ?stop))
 case kb=>
  intro W l o o' hl hW ho _ c hc hh;refine hh.keep fun g hgc=>?_;refine World.putObj_heap_other fun e=>?_;subst e;obtain⟨o2,h4,h5⟩:=hh.cells (hLk c hc).1 hgc;rw[hW]at h4;cases h4
  rw[ho]at h5;cases h5
 case own=>
  rintro pre W W' row ⟨s,kT,nP⟩ wP hr;exact⟨s,kT,nP.an_ wP hs.base hr (aqm pre s)⟩
 case assign=>
  intro l x W K hK;refine wpIn_region_lit (wpListIn_plain rfl fun K' hK'=>?_);refine⟨fun _ _=>trivial,?_⟩;rw[Oper.semAt_eq _ _ _ (fun c e=>by cases e)];have e0:({tmps:=(#[p].zip #[enc x]).foldl (fun t (p,v)=>t.setIfInBounds p v) a.tmps,defers:=[]}:Act)=a.put (some p) (enc x):=by
   have:=ha.defers;cases a
   simp_all[Act.put]
  rw[e0];have hev:(a.put (some p) (enc x)).eval (.tmp p)=enc x:=(ha.put hp (enc x)).tmp (by simp[ev,look]);simp only[execOp,hev,Kt,Oper.uponIn];exact hK' _ _ hK
 case body=>
  rintro l pre x W ⟨s,kT,nP⟩ fP;refine wk (ap6 l pre x s W kT fP nP.below (rest C.B (G pre s) W) _ W ((ha.put hp (enc x)).put hd (enc x)) nP.full) fun e a' W' hq=>?_;cases e with
  |normal=>
   obtain⟨jH,L',zO,Bz,s',asK,RZ⟩:=hq;have jK:=RZ.sl Bz;have wS:SL C.B C.w0 (G (pre++[x]) s') W':=⟨nP.below.trans jK.below,jK.base,fun c hc=>jK.all c (j_ _ hc),(sW.1 jK.apart).1⟩
   exact⟨G5 nP jK (fun c hc ho=>(hGo _ _ c ho).2 ((hGo _ _ c ho).1 hc)),fun c hc _=>wS.all c ((hLk c hc).2 _ _),s',asK,wS⟩
  |_=>exact hq.elim
 case done=>
  rintro D xs W hD hS ⟨s,kT,nP⟩ hK;refine ap' D xs s hS kT _ W (by rw[ha.defers];rfl) ?_ (nP.abG (jf hs.base hD) hK rfl (fun c hc ho g hg=>wh (aqm xs s c hc ho g hg) hD));have:({({a with defers:={target:=.collected D,args:= #[]}::a.defers}:Act)with defers:=[]}:Act)=a:=by have:=ha.defers;cases a;simp_all
  rw[this];exact ha
 case stop=>
  rintro D c pre W _ _ h _;exact h.elim
end
end
section
def W4(N:Nat)(QQ:Exit→Fr→World→Prop):Exit→Act→World→Prop:=fun e a w=>∃fr,pT N fr a∧QQ e fr w
def VT(P:Program)(N:Nat)(c:Code)(QQ:Exit→Fr→World→Prop)(fr:Fr)(w:World):Prop:=∀a,pT N fr a→c.wpIn Fence.wide 7 P (W4 N QQ) a w
def VTL(P:Program)(N:Nat)(ops:Array Oper)(QQ:Exit→Fr→World→Prop)(l:sD)(fr:Fr)(w:World):Prop:=∀a,pT N fr a→wpListIn Fence.wide 7 P ops (W4 N QQ) l a w
def TT(P:Program)(N:Nat)(y:Code)(QQ:Exit→Fr→World→Prop):Exit→Fr→World→Prop
 | .normal,fr,w=>VT P N y QQ fr w
 |e,fr,w=>QQ e fr w
def TB(id:Nat)(QQ:Exit→Fr→World→Prop):Exit→Fr→World→Prop
 | .exit i,fr,w=>if i=id then QQ .normal fr w else QQ (.exit i) fr w
 |e,fr,w=>QQ e fr w
def VTQ(P:Program)(N:Nat)(w:World)(ops:Array Oper)(QF:Fr→Prop)(l:sD)(fr:Fr):Prop:=∀a,pT N fr a→wpQuiet P ops (fun w'=>∃n,w'=w.drewN n) (fun a'=>∃jH,pT N jH a'∧QF jH) l a
section
variable{P:Program}{N:Nat}{QQ:Exit→Fr→World→Prop}{QF:Fr→Prop}{fr jH:Fr}{w:World}{x y:Code}{ops:Array Oper}{l:sD}{op:Op}{ty:TypeId}{pos:String}{af:Array Edge}{d:Nat}{v:Value}{B:Nat}{w0:World}{L:aR}
theorem n_(h:VT P N x (TT P N y QQ) fr w):VT P N (.seq x y) QQ fr w:=fun a ha=>
 wpIn_seq (wk (h a ha) fun e a w ⟨fr,ha,hq⟩=>by cases e<;>first|exact hq a ha|exact⟨fr,ha,hq⟩)
theorem y7{id:Nat}(h:VT P N x (TB id QQ) fr w):VT P N (.block id x) QQ fr w:=fun a ha=>
 wpIn_block (wk (h a ha) fun e a w ⟨fr,ha,hq⟩=>by
  cases e with
  |exit i=>
   unfold Exit.inBlock;unfold TB at hq;simp only at hq⊢;split
   ·rename_i hi;rw[aq hi]at hq;exact⟨fr,ha,hq⟩
   ·rename_i hi;rw[aw hi]at hq;exact⟨fr,ha,hq⟩
  |_=>exact⟨fr,ha,hq⟩)
theorem CQ(h:QQ .normal fr w):VT P N .skip QQ fr w:=fun a ha=>wpIn_skip ⟨fr,ha,h⟩
theorem W_{id:Nat}(h:QQ (.exit id) fr w):VT P N (.exit id) QQ fr w:=fun a ha=>wpIn_exit ⟨fr,ha,h⟩
theorem af'(h:QQ .ret fr w):VT P N .ret QQ fr w:=fun a ha=>wpIn_ret ⟨fr,ha,h⟩
theorem FZ{c:Operand}(hc:ev fr c=some (.bool true))(h:VT P N x QQ fr w):VT P N (.cond c x y) QQ fr w:=fun a ha=>wpIn_cond_true (ha.tmp hc) (h a ha)
theorem FY{c:Operand}(hc:ev fr c=some (.bool false))(h:VT P N y QQ fr w):VT P N (.cond c x y) QQ fr w:=fun a ha=>wpIn_cond_false (ha.tmp hc) (h a ha)
theorem Jn{c:Operand}{p:Prop}[Decidable p](hc:ev fr c=some (.bool (decide p)))(ht:p→VT P N x QQ fr w)(hf:¬p→VT P N y QQ fr w):VT P N (.cond c x y) QQ fr w:=by
 by_cases hp:p
 ·exact FZ (by rw[hc,lD hp]) (ht hp)
 ·exact FY (by rw[hc,nD hp]) (hf hp)
theorem ka(h:VT P N y QQ fr w):TT P N y QQ .normal fr w:=h
theorem W5{i:Nat}(h:QQ (.exit i) fr w):TT P N y QQ (.exit i) fr w:=h
theorem WS{id:Nat}(h:QQ .normal fr w):TB id QQ (.exit id) fr w:=by unfold TB;simp only[if_true];exact h
theorem lT{id:Nat}{sZ:sD}(h:VTL P N sZ.toArray QQ sZ fr w):VT P N (.region id sZ.toArray false) QQ fr w:=fun a ha=>wpIn_region_lit (h a ha)
theorem nm(jH:Fr)(hs:Sub fr jH)(h:QQ .normal jH w):VTL P N ops QQ [] fr w:=fun a ha=>wpListIn_nil ⟨jH,ha.sub hs,h⟩
theorem cI(hs:SL B w0 L w)(h:gI ⟨P,N,B,w0⟩ fr L op ty v)(hn:AF ⟨some d,op,ty,pos,af,none⟩=true)(hd:Nat.blt d N=true)(k:VTL P N ops QQ l ((d,v)::fr) w):VTL P N ops QQ (⟨some d,op,ty,pos,af,none⟩::l) fr w:=fun a ha=>
 wpListIn_plain rfl fun K hK=>by
  refine⟨fun _ _=>trivial,?_⟩;rw[Oper.semAt_eq _ _ _ (OC hn),h a w ha hs];exact hK _ _ (k _ (ha.put hd v))
theorem Jo{g x:Operand}{Co:Array TypeId}{yl:Nat}{u:Value}{T F:World→Prop}(hg:ev fr g=some (.func (.yield yl) #[] #[]))(hx:ev fr x=some u)(hy:YieldAt Fence.wide 6 P yl #[u] w fun e w'=>(e= .returned (.bool true)∧T w')∨(e= .returned (.bool false)∧F w'))(hd:Nat.blt d N=true)(kt:∀w',T w'→VTL P N ops QQ l ((d,.bool true)::fr) w')(kf:∀w',F w'→VTL P N ops QQ l ((d,.bool false)::fr) w'):
  VTL P N ops QQ (⟨some d,.call {callee:=.value g,args:= #[x],argTypes:=Co},ty,pos,af,none⟩::l) fr w:=fun a ha=>
 wpListIn_plain rfl fun K hK=>by
  obtain⟨fn,tmps,assign,body,h1,h2⟩:=hy;refine⟨fun _ _=>trivial,?_⟩;rw[Oper.semAt_eq _ _ _ (fun c e=>by cases e)];have he:(execOp a.eval ⟨some d,.call {callee:=.value g,args:= #[x],argTypes:=Co},ty,pos,af,none⟩).run P w= .ok (.round yl fn tmps assign body) w:=by
   have hg':=ha.tmp hg;have hx':=ha.tmp hx;simp[execOp,resolve,hg',hx',Deferred.ofValue,invoke,h1]
  rw[he];refine⟨fun h=>by simp[Fence.wide]at h,h2.mono fun e w' hh=>?_⟩;rcases hh with⟨rfl,hT⟩|⟨rfl,hF⟩
  ·exact hK _ _ (kt w' hT _ (ha.put hd _))
  ·exact hK _ _ (kf w' hF _ (ha.put hd _))
theorem F6{id:Nat}{sZ:sD}(hm:P.follows .mixedOrders=true)(hB:Region.lexB .any sZ.toArray=true)(h:VTQ P N w sZ.toArray (fun jH=>∀n,QQ .normal jH (w.drewN n)) sZ fr):VT P N (.region id sZ.toArray true) QQ fr w:=fun a ha=>by
 refine wpIn_wide.2 (wp_region_quiet_lit hm hB ?_);have NK:∀(l:sD) (a:Act) {ops:Array Oper} {Q Q':Act→Prop},(∀a,Q a→Q' a)→wpQuiet P ops (fun w'=>∃n,w'=w.drewN n) Q l a→wpQuiet P ops (fun w'=>∃n,w'=w.drewN n) Q' l a:=by
  intro l;induction l with
  |nil=>intro a ops Q Q' hq h;exact hq _ h
  |cons o l ih=>
   intro a ops Q Q' hq h;unfold wpQuiet at h⊢;split
   ·rename_i hw;rw[aq hw]at h;exact Oper.quiet_mono (fun a h=>ih a hq h) h
   ·rename_i hw;rw[aw hw]at h;exact ih _ hq h
 exact NK sZ a (fun a' ⟨jH,h1,h2⟩ w' ⟨n,hn⟩=>⟨jH,h1,hn▸h2 n⟩) (h a ha)
theorem Xb(jH:Fr)(hs:Sub fr jH)(h:QF jH):VTQ P N w ops QF [] fr:=fun a ha=>wpQuiet_nil ⟨jH,ha.sub hs,h⟩
theorem ke(hs:SL B w0 L w)(h:gI ⟨P,N,B,w0⟩ fr L op ty v)(hd:Nat.blt d N=true)(k:VTQ P N w ops QF l ((d,v)::fr)):VTQ P N w ops QF (⟨some d,op,ty,pos,af,none⟩::l) fr:=fun a ha=>
 wpQuiet_step fun K hK=>by
  rw[aq (by rfl)];refine⟨v,fun w' GX=>?_,hK _ (k _ (ha.put hd v))⟩;obtain⟨n,rfl⟩:=GX;unfold Oper.quietAt;rw[h a _ ha (hs.drewN n)];exact⟨rfl,rfl⟩
def aeU(t:Nat)(a:Act):Nat:=match a.tmps[t]? with
 |some (.int _ z)=>z.toNat
 |_=>0
theorem Xa(ok:Nat→World→Prop)(F:Nat→Fr)(t M:Nat)(pos:Nat→Nat)(tX:∀i,look t (F i)=some (ah (pos i:Nat)))(i0:Nat)(h0:ok i0 w)(hf:Sub fr (F i0))(round:∀i w,ok i w→VT P N x (fun e fr w=>match e with| .normal=>∃i',ok i' w∧M-pos i'<M-pos i∧Sub fr (F i')|e=>QQ e fr w) (F i) w):VT P N (.loop x) QQ fr w:=fun a ha=>by
 have hm:∀i a,pT N (F i) a→aeU t a=pos i:=fun i a ha=>by
  unfold aeU;rw[ha.at_ _ _ (tX i)];simp
 refine wpIn_loop (fun a w=>∃i,ok i w∧pT N (F i) a) (fun a w=>M-aeU t a) ⟨i0,h0,ha.sub hf⟩ ?_;rintro a w ⟨i,e2,e3⟩;refine wk (round i w e2 a e3) fun e a' w' ⟨jH,zO,hq⟩=>?_;cases e with
 |normal=>
  obtain⟨i',k1,k2,k3⟩:=hq;refine⟨⟨i',k1,zO.sub k3⟩,?_⟩;rw[hm i a e3,hm i' a' (zO.sub k3)];exact k2
 |_=>exact⟨jH,zO,hq⟩
end
end
section
section
variable{C:Cx}{fr:Fr}{L:aR}{x y z u:Operand}{t ty e:TypeId}{m n q:Int}{k:IntKind}
theorem Gx{P:Prop}(h:P:=by(repeat (first|exact .hd|apply mx.tl))):P:=h
theorem vT{A:bj}{nn c i j size:Nat}{k' k2:IntKind}(ht:C.P.underlying t=some (.slice e))(hz:(C.P.info? e).map (·.size)=some size)(he:ev fr x=some (.slice A nn c))(hy:ev fr y=some (.int k m))(hm:m=(i:Int))(vD:ev fr z=some (.int k' n))(hn:n=(j:Int))(hu:ev fr u=some (.int k2 q))(hq:q=(j:Int))(Iv:i<j)(hj:j≤c):
  gI C fr L (.slice t x (some y) (some z) (some u)) ty (.slice (A.map (·.add (i*size))) (j-i) (j-i)):=fun a w ha hw d pos af gg=>by
 subst hm;subst hn;subst hq;have h1:¬j=i:=by omega
 have h2:i≤j:=by omega
 simp[execOp,Instr.sliceAt,Instr.slice,Instr.sliceBounds,Instr.sliceBound,asIntOf,iQ ht,ha.tmp he,ha.tmp hy,ha.tmp vD,ha.tmp hu,h1,h2,hj,GZ hz]
end
def xm(sz n i:Nat):Nat:=min sz (n-i*sz)
def GA(A:bj)(sz n i:Nat):Value:=.slice (A.map (·.add (i*sz))) (xm sz n i) (xm sz n i)
def gT(sz n:Nat):Nat:=(n+(sz-1))/sz
theorem nR{sz n i:Nat}(h:1≤sz):i<gT sz n↔i*sz<n:=by
 unfold gT;rw[Nat.lt_iff_add_one_le,Nat.le_div_iff_mul_le aa,j9];omega
theorem T9{N:Nat}{args:cV}{fr0:Fr}(hl:args.length≤N)(hi:Ini N args fr0):pT N fr0 {tmps:=args.toArray++Array.replicate (N-args.toArray.size) undef,defers:=[]}:=by
 refine⟨rfl,bO,fun t v ht=>?_⟩;obtain⟨h1,h2⟩:=hi.look t v ht;simp only[wW];by_cases fP:t<args.length
 ·rw[Array.getElem?_append_left Hw];simp[fP]at h2;simp[fP,h2]
 ·rw[Array.getElem?_append_right Hw];have h3:args[t]? =none:=zZ aa;simp[h3]at h2;subst h2;simp;rw[Array.getElem?_replicate,aq aa]
def TE(A B:World→Prop):Exit→Fr→World→Prop
 | .normal,_,w| .ret,_,w=>A w∨B w
 |_,_,_=>False
theorem MF{B g2 g3:Nat}{A:bj}{n c sz:Nat}(jb:1≤sz)(jK:sz≤1000)(hn:n≤1000000000000000)(hnc:n≤c)(hg:g2≠g3)(w:World)(h2:(Ch.bE g2 87 [.slice A n c]).holds B w)(h3:(Ch.bE g3 3 [ah sz]).holds B w):
  SeqStopsK Fence.wide 7 Tryz.prog 209 [bq g2,bq g3].toArray (fun x:Fin (gT sz n)=> #[GA A sz n x.val])
   (ak6 B [.bE g2 87 [.slice A n c],.bE g3 3 [ah sz]]) (fun xs=>xs.map (·.val)=List.range (gT sz n)) (fun _=>True) (gT sz n) w:=by
 intro l J Jx W hW hJ hJx hY h0;have nP:∀w:World,(∀q∈[Ch.bE g2 87 [.slice A n c],.bE g3 3 [ah sz]],q.holds B w)→SL 0 w [Ch.bE g2 87 [.slice A n c],.bE g3 3 [ah sz]] w:=fun w h=>by
  refine⟨G3 _ _,bS _,fun c hc=>?_,kB.2 ⟨fun d hd=>?_,kB.2 ⟨fun _ h=>jY,List.Pairwise.nil⟩⟩⟩
  ·have:=h c hc;simp only[fm,ml,oj]at hc;rcases hc with rfl|rfl<;>exact⟨bS _,this.2⟩
  ·rw[lE.1 hd];exact .inr fun e=>hg (N8 e)
 have amg:=(h2.lt rfl).2;have amh:=(h3.lt rfl).2;have hW0:∀q∈[Ch.bE g2 87 [.slice A n c],.bE g3 3 [ah sz]],q.holds B W:=by
  intro c hc;simp only[fm,ml,oj]at hc;rcases hc with rfl|rfl
  ·exact h2.keep fun g hg=>by cases hg;exact hW.block _ amg
  ·exact h3.keep fun g hg=>by cases hg;exact hW.block _ amh
 have YA:∀pre (w:World) k,J pre w→J pre (w.drewN k):=fun pre w k h=>hJ pre w _ none h (qE w k) (fun r e=>by cases e);generalize hLk:[Ch.bE g2 87 [.slice A n c],.bE g3 3 [ah sz]]=Lk at*;refine callsIn_of_wp func209 rfl trivial (wk (Q:=W4 31 (TE (fun w=>∃xs:List (Fin (gT sz n)),xs.map (·.val)=List.range (gT sz n)∧J xs w) (fun w=>∃pre,True∧Jx pre w))) ?_ ?_) rfl
 ·have ha:=T9 (N:=31) (args:=[.func (.yield l) #[] #[],bq g2,bq g3]) (fr0:=[(0,.func (.yield l) #[] #[]),(1,bq g2),(2,bq g3)]) ak ⟨⟨rfl,rfl⟩,⟨rfl,rfl⟩,⟨rfl,rfl⟩,trivial⟩;refine(?_ :VT Tryz.prog 31 _ _ _ W) _ ha;refine n_ (lT ?_);refine cI (nP W hW0) (lB rfl) rfl rfl ?_;refine nm [(0,_),(1,_),(2,_),(4,_)] ⟨rfl,rfl,rfl,rfl,trivial⟩ ?_;refine ka (y7 ?_);refine Xa (fun i w=>i≤gT sz n∧(∀c∈Lk,c.holds B w)∧∃pre:List (Fin (gT sz n)),pre.map (·.val)=List.range i∧J pre w) (fun i=>[(0,.func (.yield l) #[] #[]),(1,bq g2),(2,bq g3),(4,ah ((i*sz:Nat):Int))]) 4 (n+sz) (fun i=>i*sz) (fun i=>rfl) 0 ⟨bS _,hW0,[],rfl,h0⟩ ⟨rfl,rfl,rfl,by rw[sc];rfl,trivial⟩ ?_;rintro i w ⟨hi,hh,pre,Eb,hJp⟩;have hs:=nP w hh;rw[←hLk]at hs;refine n_ (n_ (lT ?_));refine cI hs (dV rfl) rfl rfl ?_;refine cI hs (bL ag rfl Gx rfl) rfl rfl ?_;refine cI hs (pj underlying87 rfl) rfl rfl ?_;refine cI hs (xP rfl rfl) rfl rfl ?_;refine nm [(0,_),(1,_),(2,_),(4,_),(9,_)] ⟨rfl,rfl,rfl,rfl,rfl,trivial⟩ ?_;refine ka (Jn rfl (fun fP=>?_) (fun fP=>?_))
  ·refine CQ ?_;have YF:i*sz<n:=by omega
   have hiN:=(nR jb).2 YF;have hlen:pre.length<gT sz n:=by
    have:=dC List.length Eb;simp at this;omega
   have hE1:1≤xm sz n i:=by unfold xm;omega
   have hE2:xm sz n i≤sz:=by unfold xm;omega
   have hE3:i*sz+xm sz n i≤n:=by unfold xm;omega
   have hss:(i+1)*sz=i*sz+sz:=j9 i sz;refine ka (n_ (y7 (n_ (F6 ag ag ?_))));refine ke hs (bL ag rfl Gx rfl) rfl ?_;refine ke hs (bL ag rfl Gx rfl) rfl ?_;refine ke hs (dV rfl) rfl ?_;refine ke hs (bT (i:=i*sz) (size:=1) underlying87 ag rfl rfl rfl aa) rfl ?_;refine ke hs (pj underlying87 rfl) rfl ?_;refine ke hs (xQ rfl rfl) rfl ?_;refine ke hs (lB rfl) rfl ?_;rw[show min (sz:Int) ((n-i*sz:Nat):Int)=((xm sz n i:Nat):Int) by unfold xm;omega];refine Xb [(0,_),(1,_),(2,_),(4,_),(5,_)] ⟨rfl,rfl,rfl,rfl,rfl,trivial⟩ ?_;intro kd;have hJd:=YA pre w kd hJp;have zb:∀c∈Lk,c.holds B (w.drewN kd):=fun c hc=>(hh c hc).keep fun g hg=>rfl;clear hh hJp hs;generalize w.drewN kd=w at*;have hs:=nP w zb;rw[←hLk]at hs;refine ka (n_ (lT ?_));refine cI hs (dV rfl) rfl rfl ?_;refine cI hs (bL ag rfl Gx rfl) rfl rfl ?_;refine cI hs (dV rfl) rfl rfl ?_;refine cI hs (dV rfl) rfl rfl ?_;refine cI hs (dV rfl) rfl rfl ?_;refine cI hs (bY rfl rfl (bG aa aa)) rfl rfl ?_;refine cI hs (dV rfl) rfl rfl ?_;refine cI hs (dV rfl) rfl rfl ?_;refine cI hs (bY rfl rfl (bG aa aa)) rfl rfl ?_;refine cI hs (vT (i:=i*sz) (j:=i*sz+xm sz n i) (size:=1) underlying87 ag rfl rfl rfl rfl aa rfl aa aa aa) rfl rfl ?_;rw[cE,yi];refine Jo (u:=GA A sz n i) rfl rfl (hY pre ⟨i,hiN⟩ w hJd hlen) rfl ?_ ?_
   ·rintro w' ⟨hJ',hK⟩;have hh':∀c∈Lk,c.holds B w':=fun c hc=>hK c hc (zb c hc);have hs:=nP w' hh';rw[←hLk]at hs;refine cI hs (zx rfl) rfl rfl ?_;refine nm [(0,_),(1,_),(2,_),(4,_),(30,_)] ⟨rfl,rfl,rfl,rfl,rfl,trivial⟩ ?_;refine ka (FY rfl (CQ ?_));refine ka (lT ?_);refine cI hs (dV rfl) rfl rfl ?_;refine cI hs (bL ag rfl Gx rfl) rfl rfl ?_;refine cI hs (bY rfl rfl (r:=(((i+1)*sz:Nat):Int)) ((bG aa aa).trans aa)) rfl rfl ?_;refine cI hs (lB rfl) rfl rfl ?_;refine nm [(0,_),(1,_),(2,_),(4,_)] ⟨rfl,rfl,rfl,rfl,trivial⟩ ?_;exact⟨i+1,⟨hiN,hh',pre++[⟨i,hiN⟩],by rw[jd,Eb,lk];rfl,hJ'⟩,aa,rfl,rfl,rfl,rfl,trivial⟩
   ·intro w' hJ';have CB:SL w'.heap.size w' [] w':=SL.AE w';refine cI CB (zw rfl) rfl rfl ?_;refine nm [(30,_)] ⟨rfl,trivial⟩ ?_;refine ka (FZ rfl (af' ?_));exact .inr ⟨_,trivial,hJ'⟩
  ·refine W_ ?_;refine W5 ?_;show TB 0 _ (Exit.exit 0) _ _;refine WS ?_;have wN:¬i<gT sz n:=fun h=>fP (by have:=(nR jb).1 h;omega);obtain rfl:i=gT sz n:=by omega
   exact .inl ⟨pre,Eb,hJp⟩
 ·rintro e a w ⟨fr,ha,hq⟩;cases e<;>first
   |exact hq.elim
   |exact⟨ha.defers,_,results_none rfl _ _ _,⟨_,rfl⟩,hq⟩
end
theorem aoe{P:Prop}(h:P:=by(exact eT (by first|exact fun h=>absurd h.1 (by assumption)|exact fun h=>absurd h.2.1 (by omega)|exact⟨fun h=>⟨by assumption,by omega,h⟩,fun h=>h.2.2⟩))):P:=h
theorem b_5{P:Prop}(h:P:=by(exact eT (by first|exact fun h=>absurd ((mm s r k hk).1 h).1.1 (by omega)|exact fun h=>absurd ((mm s r k hk).1 h).1.2 (by omega)|exact⟨fun h=>(mm s r k hk).2 ⟨⟨by omega,by omega⟩,qh.1 (by omega)⟩,fun h=>by rw[((mm s r k hk).1 h).2]⟩))):P:=h
theorem Q6(was s:cj):a_ B w0 208 [.string ⟨was.toArray⟩,.string ⟨s.toArray⟩] F (fun r L=>r= .bool (decide (ur was s))∧L=F):=by
 refine fw func208 17 [0,1] ?_;refine bD ?_;refine bR 12 16 [] (ur was s) ?_ ?_
 ·refine aE ?_;refine ae (H7 (r:=[]) rfl rfl) rfl ?_;refine aE ?_;refine ct (fun h7=>?_) fun h7=>?_
  ·refine bD ?_;refine ct (fun mF=>?_) fun mF=>?_
   ·refine b8 ?_;refine ae (Q2 rfl rfl) rfl ?_;refine aE ?_;exact aM (by exact dU (by first|exact fun h=>absurd h.1 (by assumption)|exact fun h=>absurd h.2.1 (by omega)|exact⟨fun h=>⟨by assumption,by omega,h⟩,fun h=>h.2.2⟩))
   ·refine bH ?_;exact aM aoe
  ·refine bM ?_;exact aM aoe
 ·refine bI ?_;exact⟨rfl,rfl⟩
theorem UN(s r:cj)(hs:s.length≤1000000000000000):a_ B w0 210 [.string ⟨s.toArray⟩,.string ⟨r.toArray⟩] F (fun v L=>v=ah (qm s r)∧L=F):=by
 have hle:=(Aj s r).1;refine fw func210 28 [0,1] ?_;refine cD ?_;refine aD (fun zf zL zm=>∃(k:Nat),(k≤qm s r)∧qm s r-k=zm∧Sub zf [(0,.string ⟨s.toArray⟩),(1,.string ⟨r.toArray⟩),(5,ah k)]∧Wk zL (F)) _ ⟨0,bS _,rfl,bm,.refl _⟩ ?_;rintro _ _ _ ⟨k,hk,rfl,hs,hp⟩;refine aU hs hp ?_;clear hs hp;refine bH ?_;refine Cw 19 24 [0,1,5] (k<qm s r) ?_ ?_
 ·refine bI ?_;refine m_ rfl rfl rfl (fun jB=>?_) (fun jB=>?_)
  ·refine bP ?_;refine m_ rfl rfl rfl (fun kH=>?_) (fun kH=>?_)
   ·refine b8 ?_;refine bU (rZ underlying9 rfl rfl rfl aa) rfl ?_;refine bI ?_;refine bU (rZ underlying9 rfl rfl rfl aa) rfl ?_;refine bH ?_;exact qD (by exact dU (by first|exact fun h=>absurd ((mm s r k hk).1 h).1.1 (by omega)|exact fun h=>absurd ((mm s r k hk).1 h).1.2 (by omega)|exact⟨fun h=>(mm s r k hk).2 ⟨⟨by omega,by omega⟩,qh.1 (by omega)⟩,fun h=>by rw[((mm s r k hk).1 h).2]⟩))
   ·refine bD ?_;exact qD b_5
  ·refine c_ ?_;exact qD b_5
 ·refine be ?_;refine aj (fun oh=>?_) fun oh=>?_
  ·refine bP ?_;refine av ⟨_,aa,k+1,aa,rfl,bm,.refl _⟩
  ·refine c_ ?_;exact⟨by rw[show k=qm s r by omega],rfl⟩
theorem agZ{sz:Nat}(jb:1≤sz):a_ B w0 148 [.slice A n c,ah sz] F (fun v L=>∃g2 g3,v= .func (.func 209) #[] #[bq g2,bq g3]∧L= .bE g3 3 [ah sz]:: .bE g2 87 [.slice A n c]::F):=by
 refine fw func148 9 [0,1] ?_;refine be ?_;refine bf fun g2=>?_;refine bf fun g3=>?_;refine bz ?_;refine dj fun h6=>?_;refine bz ?_;exact⟨_,_,rfl,rfl⟩
theorem xu{P:ei}{l:al}(hb:aL B w0 F 1 (.slice A n c) n P.Cm)(hP:∀x∈P,aL B w0 F 1 x.1 x.2.length (bv x.2))(hn:n=P.length)(mA:P.all=l)(hlen:l.length≤1099511627776)(D6:P.length≤1099511627776):
  a_ B w0 52 [.slice A n c] F (fun r L=>∃A' c',r= .slice A' l.length c'∧L= .own 5 1 A' l.length c' (bv l)::F):=by
 subst mA;exact dP.AH fun w hw=>ajO (B:=w.heap.size) w hn (hb w hw) (fun x hx=>hP x hx w hw) (gj _) hlen D6
theorem M0{l:List cj}(hb:aL B w0 F 1 (.slice A l.length c) l.length (strs l))(hl:l.length≤1000000000000000):
  a_ B w0 147 [.slice A l.length c] F (fun r L=>r= .bool (decide (kX l))∧L=F):=by
 refine fw func147 21 [0] ?_;refine zM ?_;refine aD (fun zf zL zm=>∃(k:Nat),(k≤l.length∧∀i,i<k→ur (fy l i) (l.getD i []))∧l.length-k=zm∧Sub zf [(0,.slice A l.length c),(3,.string ⟨(fy l k).toArray⟩),(6,.slice A l.length c),(7,ah l.length),(8,ah k)]∧Wk zL (F)) _ ⟨0,⟨bS _,fun i h=>absurd h aa⟩,rfl,bm,.refl _⟩ ?_;rintro _ _ _ ⟨k,⟨hk,hm⟩,rfl,hs,hp⟩;refine aU hs hp ?_;clear hs hp;refine bB ?_;refine aj (fun h9=>?_) fun h9=>?_
 ·refine jU ?_;refine ai rfl (Q6 (fy l k) (l.getD k [])) ?_;refine bH ?_;refine aj (fun kS=>?_) fun kS=>?_
  ·refine c_ ?_;exact⟨by rw[nD (fun h=>kS (h.1 k aa))],rfl⟩
  ·have hmk:ur (fy l k) (l.getD k []):=j0.1 kS;refine cD ?_;rw[←I3];refine av ⟨_,aa,k+1,⟨aa,fun i hi=>by
    by_cases e:i=k
    ·rw[e];exact hmk
    ·exact hm i aa⟩,rfl,bm,.refl _⟩
 ·refine i_ ?_;have e:k=l.length:=by omega
  subst e;exact⟨by rw[z_.2 (show((l.length:Int)≤1048576)↔kX l from⟨fun h=>⟨hm,aa⟩,fun h=>(by have:=h.2;omega)⟩)],rfl⟩
theorem xU{s:cj}(h:s.length≤1000000):(ft s).length≤s.length+10:=by
 have:=aT (x:=s.length) aa;unfold ft;rw[aX];omega
theorem rF:∀(was:cj) (r:List cj),(∀s∈r,s.length≤25)→(iG was r).length≤r.length*45
 |_,[],_=>by simp[iG]
 |was,s::r,h=>by
  have h1:=rF s r (fun x hx=>h x oe);have h2:=h s ak;have h3:(ft (s.drop (qm was s))).length≤35:=by
   have:=xU (s:=s.drop (qm was s)) kR;rw[iN]at this;omega
  have h4:(aS (qm was s)).length≤10:=aT (by have:=(Aj was s).2;omega);rw[iG,aX,aX,eh,j9];omega
theorem FD:∀(t:cj) (r:List cj) (k:Nat),k<r.length→iG t (r.take (k+1))=iG t (r.take k)++(aS (qm ((t::r).getD k []) (r.getD k []))++ft ((r.getD k []).drop (qm ((t::r).getD k []) (r.getD k []))))
 |_,[],_,h=>absurd h ak
 |t,s::r,0,_=>by simp[iG]
 |t,s::r,k+1,h=>by
  have:=FD s r k nu;rw[ri,iG,this,ri,iG];simp only[BF,bV]
theorem abg{t:cj}{r:List cj}(hb:aL B w0 F 1 (.slice A (r.length+1) c) (r.length+1) (strs (t::r)))(hl:r.length≤1000)(vW:∀s∈t::r,s.length≤25):
  a_ B w0 149 [.slice A (r.length+1) c] F (fun v L=>∃A' c',v= .slice A' (dB (t::r)).length c'∧L= .own 5 1 A' (dB (t::r)).length c' (bv (dB (t::r)))::F):=by
 have ht:=vW t ak;have hcut:=hb.cut (k:=1) aa;rw[wi,show(strs (t::r)).drop (1*1)=strs r from rfl]at hcut;obtain⟨A9,hA9⟩:=cR ((if c=1 then A else A.map (·.add (1*1))));obtain⟨c9,hc9⟩:=cR (c-1);rw[←hA9,←hc9]at hcut;have e0:(ft t++iG t (r.take 0)).length=(ft t).length:=by simp[iG]
 refine fw func149 37 [0] ?_;refine bM ?_;refine ae (aG (i:=0) (size:=1) underlying87 ag rfl rfl rfl aa aB) rfl ?_;refine ae (gQ (b:=t::r) ag rfl aB aa) rfl ?_;refine ay rfl (K_ t aa) fun xq HI=>?_;refine bD ?_;refine ae (bT (i:=1) (size:=1) underlying87 ag rfl rfl rfl aa) rfl ?_;rw[wi,←hA9,←hc9];refine bI ?_;refine aD (fun zf zL zm=>∃(k:Nat) (A3:bj) (c3:Nat),(k≤r.length)∧r.length-k=zm∧Sub zf [(0,.slice A (r.length+1) c),(3,.slice A3 (ft t++iG t (r.take k)).length c3),(12,.slice A9 r.length c9),(13,ah r.length),(14,ah k)]∧Wk zL (.own 5 1 A3 (ft t++iG t (r.take k)).length c3 (bv (ft t++iG t (r.take k)))::F)) _ ⟨0,xq,HI,bS _,rfl,bm,ax (by simp[iG]) (by simp[iG]) (.refl _)⟩ ?_;rintro _ _ _ ⟨k,A3,c3,hk,rfl,hs,hp⟩;refine aU hs hp ?_;clear hs hp;refine bB ?_;refine aj (fun kS=>?_) fun kS=>?_
 ·have x':((t::r).getD k []).length≤25:=vW _ (by rw[bk,fo (show k<(t::r).length by simp;omega)];exact t_ _);have LJ:(r.getD k []).length≤25:=vW _ (by simp[bk,fo (show k<r.length by omega)]);have fP:=rF t (r.take k) (fun s hs=>vW s (ll _ (lW hs)));rw[eV,zd aa]at fP;have hle:=Aj ((t::r).getD k []) (r.getD k []);have aqe:k*45≤1000*45:=oC _ aa;have Cc:=xU (s:=t) aa;refine bM ?_;refine ae (gQ (b:=r) ag rfl aB aa) rfl ?_;refine bM ?_;refine ae (aG (i:=k) (size:=1) underlying87 ag rfl rfl rfl aa aB) rfl ?_;refine ae (gQ (b:=t::r) ag rfl aB aa) rfl ?_;refine aE ?_;refine ai rfl (UN ((t::r).getD k []) (r.getD k []) aa) ?_;refine bH ?_;refine cC (.own 5 1 A3 (ft t++iG t (r.take k)).length c3 (bv (ft t++iG t (r.take k)))::F) ?_;refine ab 0 ?_;refine ab 1 ?_;refine ab 2 ?_;refine ab 4 ?_;refine ab 5 ?_;refine aW 6 rfl (Q3 underlying9 rfl rfl rfl aa) ?_;refine az 3 ?_;refine b7 rfl rfl (iP (qm ((t::r).getD k []) (r.getD k [])) aa) fun Bi Bq=>?_;refine az 7 ?_;refine b7 rfl rfl (K_ ((r.getD k []).drop (qm ((t::r).getD k []) (r.getD k []))) kR) fun LS Mx=>?_;refine az 8 ?_;refine cQ rfl (aF fH [_,_,_] rfl rfl cA aa aa) fun P6=>?_;refine az 9 ?_;refine b7 rfl rfl (xu (l:=ft t++iG t (r.take (k+1))) (P:=[(.slice A3 (ft t++iG t (r.take k)).length c3,ft t++iG t (r.take k)),(.slice Bi (aS (qm ((t::r).getD k []) (r.getD k []))).length Bq,aS (qm ((t::r).getD k []) (r.getD k []))),(.slice LS (ft ((r.getD k []).drop (qm ((t::r).getD k []) (r.getD k [])))).length Mx,ft ((r.getD k []).drop (qm ((t::r).getD k []) (r.getD k []))))]) aB aoo rfl (by rw[FD t r k aa];simp[ei.all,bV]) (by rw[aX];have:=rF t (r.take (k+1)) (fun s hs=>vW s (ll _ (lW hs)));rw[eV]at this;omega) ak) fun vM wE=>?_;refine ab 10 ?_;refine cP [0,3,12,13,14] ?_;refine bB ?_;refine av ⟨_,aa,k+1,vM,wE,aa,rfl,bm,.cons (.skip (.skip (.skip (.skip (.refl _)))))⟩
 ·refine cD ?_;obtain rfl:k=r.length:=by omega
  rw[jN];refine aE ?_;exact⟨A3,c3,rfl,rfl⟩
theorem aoA{P:Prop}(h:P:=by(show(ad.add (i*sz)).block<_;unfold Addr.add;split<;>exact h4)):P:=h
theorem b_2{P:Prop}(h:P:=by(first|rfl|exact eU (by first|exact .inl (by omega)|exact .inr (.inl (by omega))|exact⟨fun h=>.inr (.inr h),fun h=>by rcases h with h|h|h<;>first|omega|exact h⟩)|exact eT (by first|exact .inl (by omega)|exact .inr (.inl (by omega))|exact⟨fun h=>.inr (.inr h),fun h=>by rcases h with h|h|h<;>first|omega|exact h⟩)|exact dU (by first|exact .inl (by omega)|exact .inr (.inl (by omega))|exact⟨fun h=>.inr (.inr h),fun h=>by rcases h with h|h|h<;>first|omega|exact h⟩)|exact oG (by first|exact .inl (by omega)|exact .inr (.inl (by omega))|exact⟨fun h=>.inr (.inr h),fun h=>by rcases h with h|h|h<;>first|omega|exact h⟩))):P:=h
theorem aos{P:Prop}(h:P:=by(have:=(kB.1 hw.apart).1 _ rp;subst e;rcases this with h|h<;>simp[Ch.fp]at h)):P:=h
theorem aot{P:Prop}(h:P:=by(intro y hy;simp only[fm,ml,oj]at hy;rcases hy with rfl|rfl<;>exact aB)):P:=h
theorem wm:type_of% @List.length_range:= @List.length_range
def ck(l:List cj)(sz i:Nat):List cj:=(l.drop (i*sz)).take sz
def lj(l:List cj)(sz:Nat)(ks:bc):al:=ks.flatMap fun i=>aS (dB (ck l sz i)).length
def iY(l:List cj)(sz:Nat)(ks:bc):al:=ks.flatMap fun i=>dB (ck l sz i)
def fS(sz:Nat)(l:List cj):al:=(aS l.length++lj l sz (List.range (gT sz l.length)))++iY l sz (List.range (gT sz l.length))
theorem QR(l:List cj)(sz i:Nat):(ck l sz i).length=xm sz l.length i:=by simp[ck,xm]
theorem kX.le{l:List cj}(h:kX l):∀s∈l,s.length≤25:=fun s hs=>by
 obtain⟨i,hi,rfl⟩:=j8 hs;have:=(h.1 i hi).2.1
 rwa [bk,fo hi]at this
theorem zo{l:List cj}{sz i:Nat}{s:cj}(h:s∈ck l sz i):s∈l:=rl (lW h)
theorem tI{l:List cj}(hl:l.length≤64)(h:∀s∈l,s.length≤25):(dB l).length≤3000:=by
 cases l with
 |nil=>simp[dB]
 |cons t r=>
  have h1:=rF t r (fun s hs=>h s (by simp[hs]));have h2:=xU (s:=t) (by have:=h t ak;omega);have h3:=h t ak;have:r.length*45≤64*45:=oC _ (by simp at hl;omega);rw[dB,aX];omega
theorem uQ{l:List cj}{sz:Nat}(jb:sz≤64)(h:∀s∈l,s.length≤25):∀ks:bc,(iY l sz ks).length≤ks.length*3000
 |[]=>by simp[iY]
 |k::ks=>by
  have h1:=uQ jb h ks;have h2:=tI (l:=ck l sz k) (by rw[QR];unfold xm;omega) (fun s hs=>h s (zo hs));simp only[iY,jM,aX,eh,j9]at h1⊢;omega
theorem q_{l:List cj}{sz:Nat}(jb:sz≤64)(h:∀s∈l,s.length≤25):∀ks:bc,(lj l sz ks).length≤ks.length*10
 |[]=>by simp[lj]
 |k::ks=>by
  have h1:=q_ jb h ks;have h2:=tI (l:=ck l sz k) (by rw[QR];unfold xm;omega) (fun s hs=>h s (zo hs));have h3:(aS (dB (ck l sz k)).length).length≤10:=aT aa;simp only[lj,jM,aX,eh,j9]at h1⊢;omega
theorem C9(l:List cj)(sz:Nat)(ks:bc)(k:Nat):iY l sz (ks++[k])=iY l sz ks++dB (ck l sz k):=by simp[iY]
theorem RH(l:List cj)(sz:Nat)(ks:bc)(k:Nat):lj l sz (ks++[k])=lj l sz ks++aS (dB (ck l sz k)).length:=by simp[lj]
theorem KO{q:Ch}{e:TypeId}{size n c:Nat}{A:bj}{xs:cV}{L:aR}(h:q.isObj=true):q∈Ch.own e size A n c xs::L↔q∈L:=
 ⟨fun hm=>(fm.1 hm).resolve_left fun e=>(by rw[e]at h;cases h),fun hm=>ll _ hm⟩
theorem KN{q:Ch}{g:Nat}{t:TypeId}{xs:cV}{L:aR}(h:q.isObj=true):q∈Ch.bE g t xs::L↔q∈L:=
 ⟨fun hm=>(fm.1 hm).resolve_left fun e=>(by rw[e]at h;cases h),fun hm=>ll _ hm⟩
theorem XE{X:List cj}{c:Nat}(r':X≠[])(hb:aL B w0 F 1 (.slice A X.length c) X.length (strs X))(hl:X.length≤64)(vW:∀s∈X,s.length≤25):
  a_ B w0 149 [.slice A X.length c] F (fun v L=>∃A' c',v= .slice A' (dB X).length c'∧L= .own 5 1 A' (dB X).length c' (bv (dB X))::F):=by
 cases X with
 |nil=>exact absurd rfl r'
 |cons t r=>exact abg hb (by simp at hl;omega) vW
theorem alu{l:List cj}(hb:aL B w0 F 1 (.slice A l.length c) l.length (strs l)){sz i:Nat}(hi:i*sz<l.length):aL B w0 F 1 (.slice (A.map (·.add (i*sz))) (ck l sz i).length (ck l sz i).length) (ck l sz i).length (strs (ck l sz i)):=fun w hs=>by
 obtain⟨A',c',e,h1,h2,h3⟩:=hb w hs;obtain⟨rfl,_,rfl⟩:A=A'∧True∧c=c':=by injection e with a b d;exact⟨a,trivial,d⟩
 obtain⟨ad,rfl,h4,h5⟩:=h3 aa;refine⟨_,_,rfl,gj _,ak,fun _=>⟨_,rfl,aoA,fun j u hu=>?_⟩⟩;have hu':(strs l)[i*sz+j]? =some u:=by
  unfold ck strs at hu;unfold strs;rw[jt]at hu⊢;rw[G0]at hu;split at hu
  ·rw[k_7]at hu;exact hu
  ·cases hu
 have:=h5 _ _ hu';show w.cell? ((ad.add (i*sz)).add j)=some u;rw[lA];exact this
theorem Q8{size:Int}{l:List cj}(hb:aL B w0 F 1 (.slice A l.length c) l.length (strs l))(hl:l.length≤1000000000000000)(hE:size<1∨64<size∨¬kX l):
  a_ B w0 87 [ah size,.slice A l.length c] F (fun r L=>∃A' c',r= .tuple #[.slice A' 0 c',ah 13]∧L= .own 5 1 A' 0 c' []::F):=by
 refine xZ func87 44 rfl rfl rfl [(0,ah size),(1,.slice A l.length c)] ⟨⟨rfl,rfl⟩,⟨rfl,rfl⟩,trivial⟩ ?_;refine qN ?_;refine b8 ?_;refine lz ?_;refine qN ?_;refine be ?_;refine bR 11 20 [0,1] (size<1∨64<size∨¬kX l) ?_ ?_
 ·refine bH ?_;refine aI rfl rfl rfl (fun mF=>?_) (fun mF=>?_)
  ·refine bI ?_;refine aI rfl rfl rfl (fun kH=>?_) (fun kH=>?_)
   ·refine be ?_;refine ai rfl (M0 hb hl) ?_;refine bH ?_;exact aM b_2
   ·refine bH ?_;exact aM b_2
  ·refine bD ?_;exact aM b_2
 ·refine be ?_;refine aj (fun ja=>?_) fun ja=>?_
  ·refine bD ?_;refine anI rfl ?_;refine aC 5 1 none ?_;refine aE ?_;exact⟨none,0,rfl,rfl⟩
  ·exfalso;exact ja hE
theorem X2{sz:Nat}{l:List cj}(hb:aL B w0 F 1 (.slice A l.length c) l.length (strs l))(hlc:l.length≤c)(k9:1≤sz)(jK:sz≤64)(hR:kX l):
  a_ B w0 87 [ah sz,.slice A l.length c] F (fun r L=>∃A' c',r= .tuple #[.slice A' (fS sz l).length c',ah 0]∧L= .own 5 1 A' (fS sz l).length c' (bv (fS sz l))::F):=by
 have hlen:=hR.2;have vW:=hR.le;have hNl:gT sz l.length≤1048639:=by
  unfold gT;exact jf (rj _ _) aa
 have Vn:(aS l.length).length≤10:=aT aa;refine xZ func87 44 rfl rfl rfl [(0,ah sz),(1,.slice A l.length c)] ⟨⟨rfl,rfl⟩,⟨rfl,rfl⟩,trivial⟩ ?_;refine qN ?_;refine b8 ?_;refine lz ?_;refine qN ?_;refine be ?_;refine bR 11 20 [0,1] ((sz:Int)<1∨64<(sz:Int)∨¬kX l) ?_ ?_
 ·refine bH ?_;refine aI rfl rfl rfl (fun mF=>?_) (fun mF=>?_)
  ·refine bI ?_;refine aI rfl rfl rfl (fun kH=>?_) (fun kH=>?_)
   ·refine be ?_;refine ai rfl (M0 hb aa) ?_;refine bH ?_;exact aM b_2
   ·refine bH ?_;exact aM b_2
  ·refine bD ?_;exact aM b_2
 ·refine be ?_;refine aj (fun ja=>?_) fun ja=>?_
  ·exfalso;rcases ja with h|h|h<;>first|omega|exact h hR
  ·refine aE ?_;refine lz ?_;refine qN ?_;refine b8 ?_;refine ay rfl (iP l.length aa) fun Bh Dc=>?_;refine bg fun g6=>?_;refine be ?_;refine lz ?_;refine qN ?_;refine aY 5 1 none ?_;refine aE ?_;refine bg fun g7=>?_;refine aE ?_;refine lz ?_;refine Lh ?_;refine bH ?_;refine ay rfl (agZ k9) fun g2 g3=>?_;refine aE ?_;refine lz ?_;refine FU (N:=gT sz l.length) ao5 rfl rfl rfl (fun i:Fin (gT sz l.length)=>GA A sz l.length i.val) (fun xs=>xs.map (·.val)=List.range (gT sz l.length)) (fun _=>True) [.bE g2 87 [.slice A l.length c],.bE g3 3 [ah sz]]
    (fun w hw=>MF k9 aa aa hlc (fun e=>aos) w (hw.all _ (ll _ rp)) (hw.all _ rp))
    (fun(_:List (Fin (gT sz l.length))) (_:bj×Nat×bj×Nat)=>True) (fun pre s=>.bE g3 3 [ah sz]:: .bE g2 87 [.slice A l.length c]:: .bE g7 27 [.slice s.1 (iY l sz (pre.map (·.val))).length s.2.1]:: .own 5 1 s.1 (iY l sz (pre.map (·.val))).length s.2.1 (bv (iY l sz (pre.map (·.val)))):: .bE g6 27 [.slice s.2.2.1 (aS l.length++lj l sz (pre.map (·.val))).length s.2.2.2]:: .own 5 1 s.2.2.1 (aS l.length++lj l sz (pre.map (·.val))).length s.2.2.2 (bv (aS l.length++lj l sz (pre.map (·.val))))::F)
    (fun pre s q hq=>by simp only[KO hq,KN hq]) (fun q hq=>by
     simp only[fm,ml,oj]at hq;rcases hq with rfl|rfl
     ·exact⟨rfl,fun pre s=>ll _ rp⟩
     ·exact⟨rfl,fun pre s=>rp⟩)
    (none,0,Bh,Dc) trivial (.cons (.cons (bp (by simp[iY]) (ax (by simp[iY]) (by simp[iY]) (bp (by simp[lj]) (ax (by simp[lj]) (by simp[lj]) (.refl _))))))) ?_ ?_
   ·rintro l' pre x ⟨A7,c7,A6,c6⟩ w1 _ mG acG F';have hxn:x.val*sz<l.length:=(nR k9).1 x.isLt;have hbx:=((alu hb hxn).later acG).mono (vH F F');have hX:=QR l sz x.val;have hXE:xm sz l.length x.val≤64:=by unfold xm;omega
    have hX1:1≤xm sz l.length x.val:=by unfold xm;omega
    have hvX:GA A sz l.length x.val= .slice (A.map (·.add (x.val*sz))) (ck l sz x.val).length (ck l sz x.val).length:=by unfold GA;rw[hX]
    have hB1:=uQ jK vW (pre.map (·.val));have hH1:=q_ jK vW (pre.map (·.val));rw[eM]at hB1 hH1;have dh:=tI (l:=ck l sz x.val) aa (fun s hs=>vW s (zo hs));have hsB:=C9 l sz (pre.map (·.val)) x.val;have hsH:=RH l sz (pre.map (·.val)) x.val;have hmp:(pre++[x]).map (·.val)=pre.map (·.val)++[x.val]:=by simp
    simp only[nE,hvX,hmp,hsB,hsH];have asG:ck l sz x.val≠[]:=fun e=>by rw[e]at hX;simp at hX;omega
    have ar':∀s∈ck l sz x.val,s.length≤25:=fun s hs=>vW s (zo hs);generalize ck l sz x.val=X at*;generalize A.map (·.add (x.val*sz))=A8 at*;generalize iY l sz (pre.map (·.val))=bd at*;generalize lj l sz (pre.map (·.val))=hd at*;have Ix:(aS l.length++hd).length=(aS l.length).length+hd.length:=aX;have hbn:(aS (dB X).length).length≤10:=aT aa;refine FX ?_;refine Li ?_;refine na ag ?_;refine aE ?_;refine ay rfl (XE asG aB aa ar') fun Qp c30=>?_;refine be ?_;refine nq ?_;refine Li ?_;refine ajG (S:=F++F') ag ag gF ?_;refine ab 1 ?_;refine ab 2 ?_;refine ab 3 ?_;refine gU 0 4 ?_ ?_
    ·refine aE ?_;refine az 4 ?_;refine b7 rfl rfl (iP (dB X).length aa) fun Lt c35=>?_;refine az 5 ?_;refine eW rfl (bW cN rfl aV rfl aB cA aa aa) fun A36 c36=>?_;refine az 6 ?_;refine aE ?_;refine cP [7,9] ?_;refine nq ?_;refine na ag ?_;refine be ?_;refine gw (bW cN rfl aV rfl aB cA aa aa) fun A39 c39=>?_;refine be ?_;refine nq ?_;exact⟨(A39,c39,A36,c36),trivial,.skip (.skip (.cons (.cons (bp ak (ax ak ak (bp (by simp[NU]) (ax (by simp[NU]) ak (.refl _))))))))⟩
    ·refine b7 rfl rfl (iP (dB X).length aa) fun Lt c35=>?_;refine az 0 ?_;refine aE ?_;refine az 5 ?_;refine eW rfl (bW cN rfl aV rfl aB cA aa aa) fun A36 c36=>?_;refine az 6 ?_;refine aE ?_;refine cP [7,9] ?_;refine nq ?_;refine na ag ?_;refine be ?_;refine gw (bW cN rfl aV rfl aB cA aa aa) fun A39 c39=>?_;refine be ?_;refine nq ?_;exact⟨(A39,c39,A36,c36),trivial,.skip (.skip (.cons (.cons (bp ak (ax ak ak (bp (by simp[NU]) (ax (by simp[NU]) ak (.refl _))))))))⟩
   ·rintro D xs ⟨A7,c7,A6,c6⟩ hS _;have hB1:=uQ jK vW (xs.map (·.val));have hH1:=q_ jK vW (xs.map (·.val));rw[hS]at hB1 hH1;rw[wm]at hB1 hH1;simp only[hS];have hBl:(fS sz l).length≤10000000000:=by
     have:=oC 3000 hNl;have:=oC 10 hNl;unfold fS;rw[aX,aX];omega
    refine af8 ?_;refine be ?_;refine cH (aF fH [_,_] rfl rfl cA aa aa) fun A42=>?_;refine ay rfl (xu (l:=fS sz l) (P:=[(.slice A6 (aS l.length++lj l sz (List.range (gT sz l.length))).length c6,aS l.length++lj l sz (List.range (gT sz l.length))),(.slice A7 (iY l sz (List.range (gT sz l.length))).length c7,iY l sz (List.range (gT sz l.length)))]) aB aot rfl (by simp[ei.all,fS]) aa ak) fun Lu c43=>?_;refine bH ?_;refine nq ?_;refine af7 rfl ((BN (fT (fT (.refl _))))) ?_;refine ao (L':=.own 5 1 Lu (fS sz l).length c43 (bv (fS sz l))::F) (.cons (.skip (.skip (.skip (.skip (.skip (.skip (.skip (.refl _))))))))) ?_;refine aE ?_;exact⟨Lu,c43,rfl,rfl⟩
section
section
variable{C:Cx}{fr:Fr}{L:aR}{f:Ch→aR}{x:Operand}{t ty e:TypeId}{A:bj}{n c:Nat}{xs:cV}
theorem J5(ht:C.P.underlying t=some (.slice e))(hu:C.P.underlying e=some (.int .u8))(he:ev fr x=some (.slice A n c))(hm:mx (.own e 1 A n c xs) L f)(hc:1≤n):
  qz C fr L (.convert t t x) ty (fun v L'=>∃g cur k,v= .slice A n c∧A=some ⟨g,0,none⟩∧n≤c∧cur.toList.take n=xs∧xs.length=n∧L'=f (.obj g (.cells cur e k))):=fun a w ha hw d pos af gg=>by
 obtain⟨h1,h2,h3⟩:=hw.all _ hm.mem;obtain⟨g,cur,rfl,k1,k2,k3,k4,k5⟩:=h3.resolve_left aa;have hsh:w.shape? g=some (e,cur.size):=by unfold World.shape?;rw[k2]
 have fP:g<w.heap.size:=(k_3.1 k2).1;have tc:(convert t t (.slice (some ⟨g,0,none⟩) n c)).run C.P w= .ok (.slice (some ⟨g,0,none⟩) n c) (w.freeze ⟨g,cur.size,none⟩ 1):=by
  simp[convert,iQ ht,iQ hu,markStringish,hsh]
 have It:(w.freeze ⟨g,cur.size,none⟩ 1).heap[g]? =some (.cells cur e (cur.size,cur.size+1)):=by
  unfold World.freeze;rw[aw aA];show(w.heap.modify g _)[g]? =_;rw[Array.getElem?_modify,aq rfl,k2];rfl
 have wP:w.grownBy (w.freeze ⟨g,cur.size,none⟩ 1) (some g):=by
  unfold World.freeze;rw[aw aA];refine⟨rfl,rfl,rfl,ak,fun k hk r'=>?_⟩;show(w.heap.modify g _)[k]? =_;rw[Array.getElem?_modify,aw (fun e=>r' xA)]
 have Qf:(Ch.own e 1 (some ⟨g,0,none⟩) n c xs).fp=some g:=by simp[Ch.fp,show¬c=0 by omega]
 refine⟨_,w.freeze ⟨g,cur.size,none⟩ 1,_,.inl ?_,⟨g,cur,(cur.size,cur.size+1),rfl,rfl,h2,by rw[cE]at k5;exact k5,aa,rfl⟩,hw.Qn hm (by rw[Qf];exact wP) (fun _=>⟨k1,It⟩) (.inr (.inl Qf.symm))⟩;simp[execOp,ha.tmp he,tc]
theorem aL.obj{B:Nat}{w0:World}{g:Nat}{cur:Array Value}{k:Nat×Nat}(h:Ch.obj g (.cells cur e k)∈L)(h2:n≤c)(hx:cur.toList.take n=xs)(hl:xs.length=n):aL B w0 L 1 (.slice (some ⟨g,0,none⟩) n c) n xs:=fun w hs=>by
 have hh:=(hs.all _ h).2;refine⟨_,_,rfl,h2,aa,fun _=>⟨_,rfl,(k_3.1 hh).1,fun j u hu=>?_⟩⟩;rw[zY,mC,cell_of_row w g j cur e k hh];rw[←hx,G0]at hu;split at hu
 ·simpa using hu
 ·cases hu
end
end
def grT(l:List cj):Prop:=300<l.length∨∃i,i<l.length∧60<(l.getD i []).length
instance (l:List cj):Decidable (grT l):=inferInstanceAs (Decidable (_∨_))
theorem aou{P:Prop}(h:P:=by(first|(exact⟨fun h=>absurd h (by omega),False.elim⟩)|omega|(simp at h7;done))):P:=h
abbrev Wr(g:Nat)(bt:TypeId)(A:bj)(c:Nat)(q:List Bool)(F:aR):aR:=.bE g bt [.slice A (packed q).length c,ah q.length]:: .own 5 1 A (packed q).length c (bv (packed q))::F
theorem aqV(q:List Bool)(v:Nat)(hv:v<18446744073709551616)(n:Nat)(hn:n≤64)(hp:v<2^n)(hq:q.length≤7000000):
  a_ B w0 153 [bq g,.int .u64 v,ah n] (Wr g bt A c q F)
   (fun r L=>r=ah 0∧∃A' c',L=Wr g bt A' c' (q++hi v n n) F):=by
 refine fw func153 42 [0,1,2] ?_;refine bM ?_;refine bR 20 27 [0,1,2] (False) ?_ ?_
 ·refine bP ?_;refine aI rfl rfl rfl (fun jC=>?_) (fun jC=>?_)
  ·refine bI ?_;refine aI rfl rfl rfl (fun iU=>?_) (fun iU=>?_)
   ·refine bI ?_;refine ct (fun lV=>?_) fun lV=>?_
    ·refine b8 ?_;refine ae (di rfl rfl aa (Fo v (e:=n) rfl aa)) rfl ?_;refine bI ?_;exact aM aom
    ·refine bB ?_;exact aM (by rfl)
   ·refine bM ?_;exact aM agB
  ·refine cD ?_;exact aM agB
 ·refine be ?_;refine dj fun ku=>?_;refine dm ?_;refine aD (fun zf zL zm=>∃(m:Nat) (A':bj) (c':Nat),(m≤n)∧n-m=zm∧Sub zf [(0,bq g),(1,.int .u64 v),(7,ah ((n:Int)-m-1))]∧Wk zL (Wr g bt A' c' (q++hi v n m) F)) _ ⟨0,A,c,bS _,rfl,bm,bp Ht (ax Ht Ht (.refl _))⟩ ?_;rintro _ _ _ ⟨m,A',c',hm,rfl,hs,hp⟩;refine aU hs hp ?_;clear hs hp;have wR:(q++hi v n m).length=q.length+m:=by rw[aX,dM]
  refine bD ?_;refine aj (fun D4=>?_) fun D4=>?_
  ·refine b8 ?_;refine cC F ?_;refine ab 0 ?_;refine ab 1 ?_;refine ab 2 ?_;refine ab 3 ?_;refine ab 4 ?_;refine aW 5 rfl (di rfl rfl aa (Fo v (e:=n-1-m) aa aa)) ?_;refine aW 6 rfl (jZ rfl rfl (WB v _ hv)) ?_;refine az 7 ?_;refine gC rfl .no UC rfl (aaT (q++hi v n m) (v.testBit (n-1-m)) aa) rfl aoL ?_;rintro _ _ ⟨rfl,T5,c41,cJ⟩;obtain rfl:=cJ.symm;refine bM ?_;refine av ⟨_,aa,m+1,T5,c41,aa,rfl,bm,bp Hu (ax Hu Hu (.refl _))⟩
  ·refine cD ?_;have hm':m=n:=by omega
   subst hm';exact⟨rfl,A',c',rfl⟩
theorem ajA(q:List Bool)(n:Nat)(hn:n≤100000)(hq:q.length≤7000000):
  a_ B w0 154 [bq g,ah n] (Wr g bt A c q F)
   (fun r L=>r=ah 0∧∃A' c',L=Wr g bt A' c' (q++un n) F):=by
 refine fw func154 27 [0,1] ?_;refine bM ?_;refine bR 10 14 [0,1] (False) ?_ ?_
 ·refine bP ?_;refine aI rfl rfl rfl (fun pq=>?_) (fun pq=>?_)
  ·refine b8 ?_;exact aM (by exact dU aou)
  ·refine be ?_;exact aM (by exact eU aou)
 ·refine be ?_;refine dj fun jC=>?_;refine bz ?_;refine aD (fun zf zL zm=>∃(m:Nat) (A':bj) (c':Nat),(m≤n)∧n-m=zm∧Sub zf [(0,bq g),(15,ah n),(16,ah m)]∧Wk zL (Wr g bt A' c' (q++List.replicate m false) F)) _ ⟨0,A,c,bS _,rfl,bm,bp (by rw[N4,gk]) (ax (by rw[N4,gk]) (by rw[N4,gk]) (.refl _))⟩ ?_;rintro _ _ _ ⟨m,A',c',hm,rfl,hs,hp⟩;refine aU hs hp ?_;clear hs hp;have wR:(q++List.replicate m false).length=q.length+m:=by rw[aX,yf]
  refine bB ?_;refine aj (fun iy=>?_) fun iy=>?_
  ·refine bM ?_;refine ba UC rfl (aaT (q++List.replicate m false) false aa) rfl ?_;rintro _ _ ⟨rfl,A21,c21,cJ⟩;obtain rfl:=cJ.symm;refine bD ?_;refine av ⟨_,aa,m+1,A21,c21,aa,rfl,bm,bp (by rw[Fc,bV]) (ax (by rw[Fc,bV]) (by rw[Fc,bV]) (.refl _))⟩
  ·refine bz ?_;refine ba UC rfl (aaT (q++List.replicate m false) true aa) rfl ?_;rintro _ _ ⟨rfl,s_,Bp,cJ⟩;obtain rfl:=cJ.symm;refine bP ?_;have hm':m=n:=by omega
   subst hm';exact⟨rfl,s_,Bp,by rw[bV];rfl⟩
theorem agU(q:List Bool)(hq:q.length≤8000000):a_ B w0 155 [bq g] (Wr g bt A c q F) (fun r L=>∃A' c',r= .slice A' (packed q).length c'∧L= .own 5 1 A' (packed q).length c' (bv (packed q))::Wr g bt A c q F):=by
 have mG:=dJ q;refine fw func155 11 [0] ?_;refine D3 ?_;refine ay rfl (l9 (packed q) aB aa) fun xq HI=>?_;refine bI ?_;exact⟨xq,HI,rfl,rfl⟩
theorem gN:type_of% @Nat.mul_le_mul:= @Nat.mul_le_mul
def nY(l:bc):cV:=l.map fun(n:Nat)=>Value.int .u16 (n:Int)
@[simp] theorem akU(l k:bc):nY (l++k)=nY l++nY k:=by simp[nY]
@[simp] theorem akV(l:bc):(nY l).length=l.length:=by simp[nY]
theorem afR{l:bc}{k:Nat}(h:k<l.length):(nY l)[k*1]? =some (.int .u16 (l.getD k 0:Nat)):=by
 simp[nY,List.getD,fo h]
def O_(bound:Int)(ids:List Int)(i:Nat):Prop:=0≤ids.getD i 0∧ids.getD i 0<bound∧(0<i→ids.getD (i-1) 0<ids.getD i 0)
def Hm(bound:Int)(ids:List Int):Prop:=∀i,i<ids.length→O_ bound ids i
instance (bound:Int)(ids:List Int)(i:Nat):Decidable (O_ bound ids i):=inferInstanceAs (Decidable (_∧_∧_))
instance (bound:Int)(ids:List Int):Decidable (Hm bound ids):=inferInstanceAs (Decidable (∀i,i<ids.length→_))
def kW(bound:Nat)(xs:bc):Prop:=∀i,i<xs.length→xs.getD i 0<bound∧(0<i→xs.getD (i-1) 0<xs.getD i 0)
theorem Hm.adM{bound:Int}{ids:List Int}(h:Hm bound ids):∃xs:bc,ids=xs.map (fun(n:Nat)=>(n:Int)):=by
 refine⟨ids.map Int.toNat,?_⟩;apply p6
 ·simp
 ·intro i h1 h2;have:=(h i h1).1;rw[bk,fo h1]at this;simp at this⊢;omega
theorem XF(xs:bc)(i:Nat):(xs.map (fun(n:Nat)=>(n:Int))).getD i 0=((xs.getD i 0:Nat):Int):=by
 simp only[bk,jt];cases xs[i]? <;>rfl
theorem sk(bound:Nat)(xs:bc):Hm bound (xs.map (fun(n:Nat)=>(n:Int)))↔kW bound xs:=by
 unfold Hm kW O_;simp only[XF,eM];exact⟨fun h i hi=>by have:=h i hi;omega,fun h i hi=>by have:=h i hi;omega⟩
theorem NT(xs:bc):ints .i64 (xs.map (fun(n:Nat)=>(n:Int)))=bx xs:=by simp[ints,bx]
theorem kW.ge{bound:Nat}{xs:bc}(h:kW bound xs):∀i,i<xs.length→i≤xs.getD i 0
 |0,_=>bS _
 |i+1,hi=>by
  have h1:=kW.ge h i aa;have h2:=(h (i+1) hi).2 aa;rw[wi]at h2;omega
theorem kW.len{bound:Nat}{xs:bc}(h:kW bound xs):xs.length≤bound:=by
 rcases wV xs.length with h0|h0
 ·omega
 ·have h1:=h.ge (xs.length-1) aa;have h2:=(h (xs.length-1) aa).1;omega
def wid(bound n:Nat):Nat:=Nat.log2 (bound/n)
theorem xg{bound n:Nat}(h:bound≤20000):wid bound n≤14:=by
 unfold wid;by_cases h0:bound/n=0
 ·rw[h0];decide
 ·have:bound/n<2^15:=by have:=rj bound n;omega
  have:=(Nat.log2_lt h0).2 this;omega
theorem uB{w:Nat}(h:w≤14):2^w≤16384:=k_ aa h
def Ba(p was:Nat):bc→List Bool
 |[]=>[]
 |x::xs=>un (x/p-was)++Ba p (x/p) xs
def BM(p w:Nat)(xs:bc):List Bool:=xs.flatMap fun x=>hi (x%p) w w
def LB(p w:Nat)(xs:bc):List Bool:=BM p w xs++Ba p 0 xs
def rM(bound:Nat)(xs:bc):al:=aS xs.length++(if xs.length=0 then [] else packed (LB (2^wid bound xs.length) (wid bound xs.length) xs))
def P_(bound:Int)(ids:List Int):al×Int:=if bound<0∨20000<bound∨¬Hm bound ids then ([],13) else (rM bound.toNat (ids.map Int.toNat),0)
theorem J1{bound:Int}{ids:List Int}(h:bound<0∨20000<bound∨¬Hm bound ids):P_ bound ids=([],13):=aq h
theorem J2{bound:Nat}{xs:bc}(h:¬((bound:Int)<0∨(20000:Int)<bound∨¬Hm bound (xs.map (fun(n:Nat)=>(n:Int))))):P_ bound (xs.map (fun(n:Nat)=>(n:Int)))=(rM bound xs,0):=by
 have e:(xs.map (fun(n:Nat)=>(n:Int))).map Int.toNat=xs:=by simp[Function.comp_def]
 unfold P_;rw[aw h,nC,e]
theorem ady(p w:Nat)(xs:bc)(x:Nat):BM p w (xs++[x])=BM p w xs++hi (x%p) w w:=by simp[BM]
theorem mW(p w:Nat)(xs:bc):(BM p w xs).length=xs.length*w:=by
 induction xs with
 |nil=>simp[BM]
 |cons x xs ih=>simp only[BM,jM,aX,dM,eh,j9]at ih⊢;omega
def pA(p was:Nat)(xs:bc):Nat:=xs.foldl (fun _ x=>x/p) was
theorem Sc(p was:Nat)(xs:bc)(x:Nat):pA p was (xs++[x])=x/p:=by simp[pA]
theorem FQ(p:Nat)(x:Nat):∀(xs:bc) (was:Nat),Ba p was (xs++[x])=Ba p was xs++un (x/p-pA p was xs)
 |[],was=>by simp[Ba,pA]
 |y::xs,was=>by
  rw[nE,Ba,Ba,FQ p x xs (y/p),bV];rfl
theorem pB{p:Nat}{xs:bc}{k:Nat}(h:k<xs.length):pA p 0 (xs.take (k+1))=xs.getD k 0/p:=by
 rw[aZ h 0,Sc]
theorem Og{bound p:Nat}{xs:bc}(h:kW bound xs){k:Nat}(hk:k<xs.length):pA p 0 (xs.take k)≤xs.getD k 0/p:=by
 rcases k with _|k
 ·simp[pA]
 ·rw[pB aa];have:=(h (k+1) hk).2 aa;rw[wi]at this;exact Nat.div_le_div_right (Nat.le_of_lt this)
theorem sw{bound p:Nat}{xs:bc}(h:kW bound xs):∀k,k≤xs.length→(Ba p 0 (xs.take k)).length=k+pA p 0 (xs.take k)
 |0,_=>by simp[Ba,pA]
 |k+1,hk=>by
  have h1:=sw h (p:=p) k aa;have h2:=Og (p:=p) h (k:=k) aa;rw[pB aa,aZ aa 0,FQ,aX,oT,h1];omega
theorem Of{bound p:Nat}{xs:bc}(h:kW bound xs)(k:Nat)(hk:k≤xs.length):pA p 0 (xs.take k)≤bound:=by
 rcases k with _|k
 ·simp[pA]
 ·rw[pB aa];have:=(h k aa).1;have:=rj (xs.getD k 0) p;omega
theorem UP{bound p w:Nat}{xs:bc}(h:kW bound xs)(hb:bound≤20000)(hw:w≤14):(LB p w xs).length≤400000:=by
 have h1:=mW p w xs;have h2:=sw (p:=p) h xs.length (gj _);have h3:=Of (p:=p) h xs.length (gj _);have h4:=h.len;rw[jN]at h2 h3;have h5:xs.length*w≤20000*14:=gN aa hw;unfold LB;rw[aX];omega
theorem rm:type_of% @Nat.one_mul:= @Nat.one_mul
def Lw(x:Nat):Nat:=if x=0 then 0 else Nat.log2 x+1
def KB:al:=(List.range 256).map fun i=>UInt8.ofNat (Lw i)
theorem aja(y:Nat)(h:y<256):(KB.getD y 0).toNat=Lw y:=by
 have:∀i:Fin 256,(KB.getD i.val 0).toNat=Lw i.val:=by decide+kernel
 exact this ⟨y,h⟩
theorem agH{x:Nat}(h:256≤x):Lw x=8+Lw (x/256):=by
 unfold Lw;rw[aw aa,aw aa];have h0:x/256≠0:=by omega
 have e:Nat.log2 x=8+Nat.log2 (x/256):=by
  apply Nat.le_antisymm
  ·have h1:=Nat.lt_log2_self (n:=x/256);have h2:x<2^(8+Nat.log2 (x/256)+1):=by
    rw[show 8+Nat.log2 (x/256)+1=8+(Nat.log2 (x/256)+1) by omega,Nat.pow_add];omega
   have:=(Nat.log2_lt aa).2 h2;omega
  ·refine(Nat.le_log2 aa).2 ?_;have:=Nat.log2_self_le h0;rw[Nat.pow_add];omega
 omega
theorem JT{C:Cx}{fr:Fr}{L:aR}{x y:Operand}{t ty:TypeId}{k:IntKind}{m:Int}{s s':al}{i:Nat}(ht:C.P.underlying t=some .string)(h:ev fr x=some (.string ⟨s.toArray⟩))(hs:s=s')(h2:ev fr y=some (.int k m))(hm:m=(i:Int))(hi:i<s'.length):gI C fr L (.index t x y) ty (.int .u8 ((s'.getD i 0).toNat:Int)):=by
 subst hs;exact rZ ht h h2 hm hi
theorem att(y:Nat):(y:Int).fdiv (2^min (8:Int).toNat IntKind.u64.bits)=((y/256:Nat):Int):=by
 have e:min (8:Int).toNat IntKind.u64.bits=8:=by decide
 rw[e,wg _ aA];rfl
theorem ah4(x:Nat)(hx:x<65536):a_ B w0 253 [.int .u64 x] F (fun r L=>r=ah (Lw x)∧L=F):=by
 refine fw func253 25 [0] ?_;refine cD ?_;refine dj fun h4=>?_;refine bP ?_;refine dj fun h8=>?_;refine be ?_;refine d_ (fun zf zL=>∃(y m:Nat),(y<256∧m≤8∧Lw x=m+Lw y)∧Sub zf [(0,.int .u64 y),(2,ah m)]∧Wk zL (F)) ?_ ?_
 ·refine bB ?_;refine aj (fun jC=>?_) fun jC=>?_
  ·refine bH ?_;refine ae (di rfl rfl aa (att x)) rfl ?_;refine bM ?_;exact bC ⟨x/256,8,⟨aa,aa,agH aa⟩,bm,.refl _⟩
  ·refine aE ?_;exact bC ⟨x,0,⟨aa,aa,aa⟩,bm,.refl _⟩
 ·rintro _ _ ⟨y,m,⟨hy,hm,dh⟩,hs,hp⟩;refine aU hs hp ?_;clear hs hp;refine bI ?_;refine ae (JT (s':=KB) underlying9 rfl oX rfl rfl (by simp[KB];omega)) rfl ?_;rw[aja y hy];have hb9:Lw y≤8:=by
   have:∀i:Fin 256,Lw i.val≤8:=by decide+kernel
   exact this ⟨y,hy⟩
  refine bD ?_;exact⟨dC (fun(z:Int)=>Value.int .i64 z) aa,rfl⟩
theorem akr(x:Nat)(hx:x<65536):a_ B w0 211 [.int .u64 x] F (fun r L=>r=ah (Lw x)∧L=F):=by
 refine fw func211 8 [0] ?_;refine cD ?_;refine ai rfl (ah4 x hx) ?_;refine bI ?_;exact⟨rfl,rfl⟩
theorem Lj(b m:Nat)(hb:b≤20000)(hm:1≤m)(hmb:m≤b):a_ B w0 151 [ah b,ah m] F (fun r L=>r=ah (wid b m)∧L=F):=by
 have hq:b/m≤20000:=jf (rj _ _) hb;have hq1:1≤b/m:=(Nat.le_div_iff_mul_le aa).2 aa;have hw:(wid b m:Int)=(Lw (b/m):Int)-1:=by unfold wid Lw;rw[aw aa];omega
 have hqq:IntKind.i64.wrap ((b:Int).tdiv (m:Int))=((b/m:Nat):Int):=by
  have e:(b:Int).tdiv (m:Int)=((b/m:Nat):Int):=(Int.ofNat_tdiv b m).symm;rw[e];generalize b/m=x at hq;exact wrap_i64 _ aa aa
 generalize hz:b/m=q at*;refine fw func151 11 [0,1] ?_;refine bP ?_;refine ae (qc rfl rfl aa hqq) rfl ?_;refine aE ?_;refine ai rfl (akr q aa) ?_;have dh:Lw q≤17:=by
  unfold Lw;split
  ·omega
  ·have:=(Nat.log2_lt (n:=q) (k:=16) aa).2 aa;omega
 refine bB ?_;exact⟨by rw[hw],rfl⟩
theorem aex{bound:Int}{ids:List Int}{k:Nat}{was:Int}(hw:was=if k=0 then-1 else ids.getD (k-1) 0)(hp:∀i,i<k→O_ bound ids i):O_ bound ids k↔was<ids.getD k 0∧ids.getD k 0<bound:=by
 by_cases h0:k=0
 ·subst h0;rw[aq rfl]at hw;subst hw;unfold O_;exact⟨fun h=>⟨aa,h.2.1⟩,fun h=>⟨aa,h.2,fun h=>absurd h aa⟩⟩
 ·rw[aw h0]at hw;subst hw;have:=(hp (k-1) aa).1;unfold O_;exact⟨fun h=>⟨h.2.2 aa,h.2.1⟩,fun h=>⟨aa,h.2,fun _=>h.1⟩⟩
theorem Wp(bound:Int)(ids:List Int)(hb:aL B w0 F 1 (.slice A ids.length c) ids.length (ints .i64 ids))(hl:ids.length≤9000000000000000000):
  a_ B w0 150 [ah bound,.slice A ids.length c] F (fun r L=>r= .bool (decide (Hm bound ids))∧L=F):=by
 refine fw func150 24 [0,1] ?_;refine zM ?_;refine aD (fun zf zL zm=>∃(k:Nat) (was:Int),(k≤ids.length∧was=(if k=0 then-1 else ids.getD (k-1) 0)∧∀i,i<k→O_ bound ids i)∧ids.length-k=zm∧Sub zf [(0,ah bound),(5,ah was),(8,.slice A ids.length c),(9,ah ids.length),(10,ah k)]∧Wk zL (F)) _ ⟨0,-1,⟨bS _,rfl,fun i h=>absurd h aa⟩,rfl,bm,.refl _⟩ ?_;rintro _ _ _ ⟨k,was,⟨hk,asY,mA⟩,rfl,hs,hp⟩;refine aU hs hp ?_;clear hs hp;have hcw:=aex asY mA;refine bB ?_;refine aj (fun pq=>?_) fun pq=>?_
 ·refine dX ?_;refine bR 8 21 [0,7,8,9,10] (ids.getD k 0≤was∨bound≤ids.getD k 0) ?_ ?_
  ·refine b8 ?_;refine aI rfl rfl rfl (fun iy=>?_) (fun iy=>?_)
   ·refine bB ?_;exact aM b_8
   ·refine bH ?_;exact aM b_8
  ·refine be ?_;refine aj (fun lV=>?_) fun lV=>?_
   ·refine c_ ?_;exact⟨by rw[nD (fun h=>by have:=hcw.1 (h k aa);omega)],rfl⟩
   ·refine cD ?_;refine av ⟨_,aa,k+1,ids.getD k 0,⟨aa,by rw[aw aa,wi],fun i h=>by rcases Nat.lt_succ_iff_lt_or_eq.1 h with h|h;exact mA i h;subst h;exact hcw.2 aa⟩,rfl,bm,.refl _⟩
 ·refine cD ?_;exact⟨by rw[lD (show Hm bound ids from fun i hi=>mA i aa)],rfl⟩
abbrev Pt(g:Nat)(bt:TypeId)(w p:Nat)(A1:bj)(c1:Nat)(A2:bj)(c2:Nat)(xs:bc)(F:aR):aR:=.bE g bt [ah w,.slice A1 xs.length c1,.slice A2 xs.length c2]:: .own 3 1 A1 xs.length c1 (bx (xs.map (· /p))):: .own 57 1 A2 xs.length c2 (nY (xs.map (· %p)))::F
theorem aq6{x w p:Nat}(hp:p=2^w)(hw:w≤14):(x:Int).fdiv (2^min (w:Int).toNat IntKind.i64.bits)=((x/p:Nat):Int):=by
 have e:min (w:Int).toNat IntKind.i64.bits=w:=by
  rw[nC];exact zd (show w≤64 by omega)
 rw[e,hp,wg _ (Int.le_of_lt (Int.pow_pos aA)),Int.natCast_ediv];congr 1
theorem ai0{x w p:Nat}(hp:p=2^w)(hw:w≤14)(hx:x*p≤4611686018427387904):IntKind.i64.wrap ((x:Int)*2^min (w:Int).toNat IntKind.i64.bits)=((x*p:Nat):Int):=by
 have e:min (w:Int).toNat IntKind.i64.bits=w:=by
  rw[nC];exact zd (show w≤64 by omega)
 have e2:(x:Int)*2^w=((x*p:Nat):Int):=by rw[hp,z8];congr 1
 rw[e,e2];exact bG aa aa
theorem aoc{x w p:Nat}(hp:p=2^w)(hx:x<9223372036854775808)(LH:p≤16384):IntKind.i64.wrap ((BitVec.ofInt IntKind.i64.bits (x:Int) &&& BitVec.ofInt IntKind.i64.bits ((p-1:Nat):Int)).toNat:Int)=((x%p:Nat):Int):=by
 have h:=ahR x (p-1) hx aa;rw[hp,Nat.and_two_pow_sub_one_eq_mod,←hp]at h;exact h
theorem orP{x w p:Nat}(hp:p=2^w)(hx:x<9223372036854775808):IntKind.i64.wrap ((BitVec.ofInt IntKind.i64.bits ((x/p*p:Nat):Int) ||| BitVec.ofInt IntKind.i64.bits ((x%p:Nat):Int)).toNat:Int)=(x:Int):=by
 have h1:x/p*p≤x:=Nat.div_mul_le_self x p;have h2:x%p≤x:=Nat.mod_le x p;have h:=ac9 (x/p*p) (x%p) aa aa;have e:x/p*p ||| x%p=x:=by
  have fP:x%p<2^w:=by rw[←hp];exact sS _ (by rw[hp];exact we w)
  rw[hp]at fP⊢;rw[nG,←NZ fP];exact Nat.div_add_mod x (2^w)
 rw[e]at h;exact h
theorem ad_(bt:TypeId){w p:Nat}(hp:p=2^w)(hw:w≤14)(xs:bc)(x:Nat)(hx:x≤1000000)(hl:xs.length≤1000000):
  a_ B w0 152 [bq g,ah x] (Pt g bt w p A1 c1 A2 c2 xs F) (fun r L=>r= .tuple #[]∧∃A1' c1' A2' c2',L=Pt g bt w p A1' c1' A2' c2' (xs++[x]) F):=by
 have LH:p≤16384:=by rw[hp];exact uB hw
 have RS:1≤p:=by rw[hp];exact Nat.one_le_two_pow
 have amk:x%p<p:=sS _ RS;refine fw func152 37 [0,1] ?_;refine d_ (fun zf zL=>∃(A3:bj) (c3:Nat),Sub zf [(0,bq g),(1,ah x)]∧Wk zL (.bE g bt [ah w,.slice A3 (xs.length+1) c3,.slice A2 xs.length c2]:: .own 3 1 A3 (xs.length+1) c3 (bx ((xs++[x]).map (· /p))):: .own 57 1 A2 xs.length c2 (nY (xs.map (· %p)))::F)) ?_ ?_
 ·refine cC (.own 57 1 A2 xs.length c2 (nY (xs.map (· %p)))::F) ?_;refine ab 0 ?_;refine ab 1 ?_;refine ab 2 ?_;refine ab 3 ?_;refine ab 5 ?_;refine ab 6 ?_;refine ab 7 ?_;refine ab 8 ?_;refine gU 4 9 ?_ ?_
  ·refine aE ?_;refine az 9 ?_;refine aE ?_;refine aW 10 rfl (di rfl rfl aa (aq6 hp hw)) ?_;refine az 11 ?_;refine cQ rfl (aF fM [_] rfl rfl cA aa aa) fun Bg=>?_;refine az 12 ?_;refine eW rfl (bW fM rfl aV rfl aB cA aa aa) fun A16 c16=>?_;refine ab 13 ?_;refine ab 14 ?_;refine az 15 ?_;refine be ?_;exact bC ⟨A16,c16,bm,.skip (bp rfl (ax rfl sG (.refl _)))⟩
  ·refine aE ?_;refine aW 10 rfl (di rfl rfl aa (aq6 hp hw)) ?_;refine gU 4 11 ?_ ?_
   ·refine aE ?_;refine az 11 ?_;refine cQ rfl (aF fM [_] rfl rfl cA aa aa) fun Bg=>?_;refine az 12 ?_;refine eW rfl (bW fM rfl aV rfl aB cA aa aa) fun A16 c16=>?_;refine ab 13 ?_;refine ab 14 ?_;refine az 15 ?_;refine be ?_;exact bC ⟨A16,c16,bm,.skip (bp rfl (ax rfl sG (.refl _)))⟩
   ·refine cQ rfl (aF fM [_] rfl rfl cA aa aa) fun Bg=>?_;refine az 4 ?_;refine aE ?_;refine az 12 ?_;refine eW rfl (bW fM rfl aV rfl aB cA aa aa) fun A16 c16=>?_;refine ab 13 ?_;refine ab 14 ?_;refine az 15 ?_;refine be ?_;exact bC ⟨A16,c16,bm,.skip (bp rfl (ax rfl sG (.refl _)))⟩
 ·rintro _ _ ⟨A3,c3,hs,hp⟩;refine aU hs hp ?_;clear hs hp;refine cC (.own 3 1 A3 (xs.length+1) c3 (bx ((xs++[x]).map (· /p)))::F) ?_;refine ab 0 ?_;refine ab 1 ?_;refine ab 2 ?_;refine ab 3 ?_;refine ab 5 ?_;refine ab 6 ?_;refine ab 7 ?_;refine ab 8 ?_;refine gU 4 9 ?_ ?_
  ·refine aE ?_;refine az 9 ?_;refine aE ?_;refine aW 10 rfl (gb rfl rfl aa ((ai0 (x:=1) hp hw aa).trans (by rw[rm]))) ?_;refine aW 11 rfl (dQ rfl rfl (r:=((p-1:Nat):Int)) ((bG aa aa).trans aa)) ?_;refine aW 12 rfl (jZ rfl rfl (aoc hp aa LH)) ?_;refine ab 13 ?_;refine az 14 ?_;refine cQ rfl (aF uF [_] rfl rfl cA aa aa) fun P6=>?_;refine az 15 ?_;refine eW rfl (bW uF rfl aV rfl aB cA aa aa) fun vM wE=>?_;refine ab 16 ?_;refine ab 17 ?_;refine az 18 ?_;refine aE ?_;refine cP [] ?_;refine aE ?_;have el:xs.length+1=(xs++[x]).length:=by simp
   rw[el];refine ao (L':=Pt g bt w p A3 c3 vM wE (xs++[x]) F) (.skip (.cons (.cons (ax rfl (by simp[nY]) (.refl _))))) ?_;refine aE ?_;exact⟨rfl,A3,c3,vM,wE,rfl⟩
  ·refine aE ?_;refine aW 10 rfl (gb rfl rfl aa ((ai0 (x:=1) hp hw aa).trans (by rw[rm]))) ?_;refine aW 11 rfl (dQ rfl rfl (r:=((p-1:Nat):Int)) ((bG aa aa).trans aa)) ?_;refine aW 12 rfl (jZ rfl rfl (aoc hp aa LH)) ?_;refine ab 13 ?_;refine gU 4 14 ?_ ?_
   ·refine aE ?_;refine az 14 ?_;refine cQ rfl (aF uF [_] rfl rfl cA aa aa) fun P6=>?_;refine az 15 ?_;refine eW rfl (bW uF rfl aV rfl aB cA aa aa) fun vM wE=>?_;refine ab 16 ?_;refine ab 17 ?_;refine az 18 ?_;refine aE ?_;refine cP [] ?_;refine aE ?_;have el:xs.length+1=(xs++[x]).length:=by simp
    rw[el];refine ao (L':=Pt g bt w p A3 c3 vM wE (xs++[x]) F) (.skip (.cons (.cons (ax rfl (by simp[nY]) (.refl _))))) ?_;refine aE ?_;exact⟨rfl,A3,c3,vM,wE,rfl⟩
   ·refine cQ rfl (aF uF [_] rfl rfl cA aa aa) fun P6=>?_;refine az 4 ?_;refine aE ?_;refine az 15 ?_;refine eW rfl (bW uF rfl aV rfl aB cA aa aa) fun vM wE=>?_;refine ab 16 ?_;refine ab 17 ?_;refine az 18 ?_;refine aE ?_;refine cP [] ?_;refine aE ?_;have el:xs.length+1=(xs++[x]).length:=by simp
    rw[el];refine ao (L':=Pt g bt w p A3 c3 vM wE (xs++[x]) F) (.skip (.cons (.cons (ax rfl (by simp[nY]) (.refl _))))) ?_;refine aE ?_;exact⟨rfl,A3,c3,vM,wE,rfl⟩
theorem amT(bt:TypeId){w p:Nat}(hp:p=2^w)(hw:w≤14)(xs:bc)(i:Nat)(hi:i<xs.length)(hx:xs.getD i 0≤1000000):
  a_ B w0 300 [bq g,ah i] (Pt g bt w p A1 c1 A2 c2 xs F) (fun r L=>r=ah (xs.getD i 0:Nat)∧L=Pt g bt w p A1 c1 A2 c2 xs F):=by
 have hH:(bx (xs.map (· /p)))[i*1]? =some (ah (xs.getD i 0/p:Nat)):=by simp[bx,List.getD,fo hi]
 have hL:(nY (xs.map (· %p)))[i*1]? =some (.int .u16 (xs.getD i 0%p:Nat)):=by simp[nY,List.getD,fo hi]
 have LH:p≤16384:=by rw[hp];exact uB hw
 have RS:1≤p:=by rw[hp];exact Nat.one_le_two_pow
 have amk:xs.getD i 0%p<p:=sS _ RS;have hdm:=Nat.div_mul_le_self (xs.getD i 0) p;refine fw func300 26 [0,1] ?_;refine c_ ?_;refine bU (au ag rfl aB aa hH) rfl ?_;refine b8 ?_;refine bU (gb rfl rfl aa (ai0 hp hw aa)) rfl ?_;refine bB ?_;refine bU (au ag rfl aB aa hL) rfl ?_;refine aE ?_;refine bU (tL rfl rfl (orP hp aa)) rfl ?_;refine aE ?_;refine mu [(4,_)] ⟨rfl,trivial⟩ ?_;refine bH ?_;exact⟨rfl,rfl⟩
theorem tG{P:Prop}(h:P:=by(rw[aX];omega)):P:=h
theorem Na{n:Nat}(h:n≤20000):(aS n).length≤10:=aT aa
theorem M_{bound:Int}{ids:List Int}(hb:aL B w0 F 1 (.slice A ids.length c) ids.length (ints .i64 ids))(hl:ids.length≤9000000000000000000)(hE:bound<0∨20000<bound∨¬Hm bound ids):
  a_ B w0 88 [ah bound,.slice A ids.length c] F (fun r L=>∃A' c',r= .tuple #[.slice A' 0 c',ah 13]∧L= .own 5 1 A' 0 c' []::F):=by
 refine fw func88 80 [0,1] ?_;refine bP ?_;refine bR 12 27 [0,1] (bound<0∨20000<bound∨¬Hm bound ids) ?_ ?_
 ·refine bH ?_;refine aI rfl rfl rfl (fun iU=>?_) (fun iU=>?_)
  ·refine bI ?_;refine aI rfl rfl rfl (fun pX=>?_) (fun pX=>?_)
   ·refine b8 ?_;refine ai rfl (Wp bound ids hb hl) ?_;refine bH ?_;exact aM b_2
   ·refine b8 ?_;exact aM b_2
  ·refine bM ?_;exact aM b_2
 ·refine be ?_;refine aj (fun ku=>?_) fun ku=>?_
  ·refine bM ?_;refine aC 5 1 none ?_;refine aE ?_;exact⟨none,0,rfl,rfl⟩
  ·exfalso;exact ku hE
theorem Ra{b:Nat}{xs:bc}(hb:aL B w0 F 1 (.slice A xs.length c) xs.length (bx xs))(oP:b≤20000)(hR:kW b xs):
  a_ B w0 88 [ah b,.slice A xs.length c] F (fun r L=>∃A' c',r= .tuple #[.slice A' (rM b xs).length c',ah 0]∧L= .own 5 1 A' (rM b xs).length c' (bv (rM b xs))::F):=by
 have hlen:=hR.len;have hi:Hm b (xs.map (fun(n:Nat)=>(n:Int))):=(sk b xs).2 hR;have hr:=Wp (B:=B) (w0:=w0) (F:=F) (A:=A) (c:=c) (b:Int) (xs.map (fun(n:Nat)=>(n:Int))) (by rw[NT,eM];exact hb) (by rw[eM];omega);rw[eM]at hr;have CC:=xg (n:=xs.length) oP;obtain⟨w,hw⟩:=cR (wid b xs.length);rw[←hw]at CC;obtain⟨p,hp⟩:=cR (2^w);have RS:1≤p:=by rw[hp];exact Nat.one_le_two_pow
 have D8:=Na (n:=xs.length) aa;have asr:xs.length=0→rM b xs=aS xs.length:=fun h=>by unfold rM;rw[aq h];simp
 have aqa:¬xs.length=0→rM b xs=aS xs.length++packed (BM p w xs++Ba p 0 xs):=fun h=>by unfold rM LB;rw[aw h,←hw,←hp]
 have hql:=UP (p:=p) (w:=w) hR oP CC;unfold LB at hql;have mG:=dJ (BM p w xs++Ba p 0 xs);refine fw func88 80 [0,1] ?_;refine cD ?_;refine aI rfl rfl rfl (fun iU=>?_) (fun iU=>?_)
 ·refine bI ?_;refine aI rfl rfl rfl (fun pX=>?_) (fun pX=>?_)
  ·refine b8 ?_;refine ai rfl (hr) ?_;refine bI ?_;refine aj (fun ku=>?_) fun ku=>?_
   ·exfalso;exact ku hi
   ·refine bD ?_;refine ay rfl (iP xs.length aa) fun Qq c31=>?_;refine aE ?_;refine ve [0,1,6] ?_;refine bP ?_;refine aj (fun GM=>?_) fun GM=>?_
    ·refine bP ?_;rw[asr aa];refine aE ?_;exact⟨Qq,c31,rfl,rfl⟩
    ·refine bD ?_;refine ai rfl (Lj b xs.length oP aa hlen) ?_;rw[←hw];refine ae (br [(0,_)] [ah 0,.slice none 0 0,.slice none 0 0] [0] [_,_,_] rfl rfl ag) rfl ?_;refine bg fun g7=>?_;refine bI ?_;refine aY 57 1 none ?_;refine aY 3 1 none ?_;refine bD ?_;refine aD (fun zf zL zm=>∃(k:Nat) (P1:bj) (p1:Nat) (P2:bj) (p2:Nat),(k≤xs.length)∧xs.length-k=zm∧Sub zf [(6,.slice Qq (aS xs.length).length c31),(7,bq g7),(41,.slice A xs.length c),(42,ah xs.length),(43,ah k)]∧Wk zL (Pt g7 235 w p P1 p1 P2 p2 (xs.take k) (.own 5 1 Qq (aS xs.length).length c31 (bv (aS xs.length))::F))) _ ⟨0,none,0,none,0,bS _,rfl,bm,.dE Cj⟩ ?_;rintro _ _ _ ⟨k,P1,p1,P2,p2,hk,rfl,hs,hp⟩;refine aU hs hp ?_;clear hs hp;refine bB ?_;refine aj (fun tS=>?_) fun tS=>?_
     ·have YM:=(hR k aa).1;have Cc:=List.length_take_le k xs;refine bD ?_;refine ae (au ag rfl aB aa (fE aa)) rfl ?_;refine bI ?_;refine ba ajU rfl (ad_ 235 hp CC (xs.take k) (xs.getD k 0) aa aa) rfl ?_;rintro _ _ ⟨rfl,P48,p48,Q48,q48,cJ⟩;obtain rfl:=cJ.symm;refine bD ?_;refine av ⟨_,aa,k+1,P48,p48,Q48,q48,aa,rfl,bm,by rw[aZ (show k<xs.length by omega) 0];exact .refl _⟩
     ·obtain rfl:k=xs.length:=by omega
      rw[jN];refine bD ?_;refine bg fun g10=>?_;refine b8 ?_;refine aY 5 1 none ?_;refine bM ?_;refine aD (fun zf zL zm=>∃(k:Nat) (A8:bj) (c8:Nat),(k≤xs.length)∧xs.length-k=zm∧Sub zf [(6,.slice Qq (aS xs.length).length c31),(7,bq g7),(10,bq g10),(51,.slice P2 xs.length p2),(52,ah xs.length),(53,ah k)]∧Wk zL (Wr g10 239 A8 c8 (BM p w (xs.take k)) (Pt g7 235 w p P1 p1 P2 p2 xs (.own 5 1 Qq (aS xs.length).length c31 (bv (aS xs.length))::F)))) _ ⟨0,none,0,bS _,rfl,bm,by rw[show BM p w (xs.take 0)=[] from rfl];exact .dE swp⟩ ?_;rintro _ _ _ ⟨k,A8,c8,Iw,rfl,hs,hp⟩;refine aU hs hp ?_;clear hs hp;refine aE ?_
      skip
      refine bI ?_;refine aj (fun h54=>?_) fun h54=>?_
      ·have YM:=(hR k aa).1;have amk:xs.getD k 0%p<p:=sS _ RS;have LH:p≤16384:=by rw[hp];exact uB CC
       have hLo:(nY (xs.map (· %p)))[k*1]? =some (.int .u16 (xs.getD k 0%p:Nat)):=by simp[nY,List.getD,fo (show k<xs.length by omega)]
       have wR:=mW p w (xs.take k);have hlm:(xs.take k).length*w≤20000*14:=gN nt CC;refine bD ?_;refine ae (au ag rfl aB aa hLo) rfl ?_;refine bM ?_;refine ba Dk rfl (aqV (BM p w (xs.take k)) (xs.getD k 0%p) aa w aa (by rw[←hp];exact amk) aa) rfl ?_;rintro _ _ ⟨rfl,A61,c61,cJ⟩;obtain rfl:=cJ.symm;refine bD ?_;refine av ⟨_,aa,k+1,A61,c61,aa,rfl,bm,by rw[aZ (show k<xs.length by omega) 0,ady];exact .refl _⟩
      ·obtain rfl:k=xs.length:=by omega
       rw[jN];refine alY ?_;refine aD (fun zf zL zm=>∃(k:Nat) (A9:bj) (c9:Nat),(k≤xs.length)∧xs.length-k=zm∧Sub zf [(6,.slice Qq (aS xs.length).length c31),(10,bq g10),(13,ah (pA p 0 (xs.take k))),(64,.slice P1 xs.length p1),(65,ah xs.length),(66,ah k)]∧Wk zL (Wr g10 239 A9 c9 (BM p w xs++Ba p 0 (xs.take k)) (Pt g7 235 w p P1 p1 P2 p2 xs (.own 5 1 Qq (aS xs.length).length c31 (bv (aS xs.length))::F)))) _ ⟨0,A8,c8,bS _,rfl,bm,by rw[Ah];simp only[Ba,gk];exact .refl _⟩ ?_;rintro _ _ _ ⟨k,A9,c9,hk3,rfl,hs,hp⟩;refine aU hs hp ?_;clear hs hp;refine bB ?_;refine aj (fun Vf=>?_) fun Vf=>?_
       ·have YM:=(hR k aa).1;have hdv:=rj (xs.getD k 0) p;have hlp:=Og (p:=p) hR (k:=k) aa;have hHi:(bx (xs.map (· /p)))[k*1]? =some (ah (xs.getD k 0/p:Nat)):=by simp[bx,List.getD,fo (show k<xs.length by omega)]
        have zc:=sw (p:=p) hR k aa;have hlb:=Of (p:=p) hR k aa;have wR:=mW p w xs;have hlm:xs.length*w≤20000*14:=gN aa CC;have fP:=pB (p:=p) (xs:=xs) (k:=k) aa;refine bD ?_;refine ae (au ag rfl aB aa hHi) rfl ?_;refine bD ?_;refine ae (dQ rfl rfl (r:=((xs.getD k 0/p-pA p 0 (xs.take k):Nat):Int)) ((bG aa aa).trans aa)) rfl ?_;refine ba aoW rfl (ajA (BM p w xs++Ba p 0 (xs.take k)) (xs.getD k 0/p-pA p 0 (xs.take k)) aa tG) rfl ?_;rintro _ _ ⟨rfl,A73,c73,cJ⟩;obtain rfl:=cJ.symm;refine cD ?_;refine av ⟨_,aa,k+1,A73,c73,aa,rfl,bm,by rw[aZ (show k<xs.length by omega) 0,FQ,←bV];exact .refl _⟩
       ·obtain rfl:k=xs.length:=by omega
        rw[jN];refine bM ?_;refine ay rfl (agU _ aa) fun A77 c77=>?_;refine cH (aF fH [_,_] rfl rfl cA aa aa) fun A78=>?_;refine ay rfl (xu (l:=rM b xs) (P:=[(.slice Qq (aS xs.length).length c31,aS xs.length),(.slice A77 (packed (BM p w xs++Ba p 0 xs)).length c77,packed (BM p w xs++Ba p 0 xs))]) aB aot rfl (by rw[aqa aa];simp[ei.all]) (by rw[aqa aa,aX];omega) ak) fun A79 c79=>?_;refine bI ?_;refine ao (L':=.own 5 1 A79 (rM b xs).length c79 (bv (rM b xs))::F) (.cons (.skip (.skip (.skip (.skip (.skip (.skip (.skip (.skip (.refl _)))))))))) ?_;refine aE ?_;exact⟨A79,c79,rfl,rfl⟩
  ·exfalso;omega
 ·exfalso;omega
theorem X7{bound:Int}{ids:List Int}(hb:aL B w0 F 1 (.slice A ids.length c) ids.length (ints .i64 ids))(hl:ids.length≤9000000000000000000):
  a_ B w0 88 [ah bound,.slice A ids.length c] F (fun r L=>∃A' c',r= .tuple #[.slice A' (P_ bound ids).1.length c',ah (P_ bound ids).2]∧L= .own 5 1 A' (P_ bound ids).1.length c' (bv (P_ bound ids).1)::F):=by
 by_cases hE:bound<0∨20000<bound∨¬Hm bound ids
 ·rw[J1 hE];exact M_ hb hl hE
 ·have hR:Hm bound ids:=bF fun h=>hE (.inr (.inr h));obtain⟨xs,rfl⟩:=hR.adM;obtain⟨b,rfl⟩:=gM (show 0≤bound by omega);rw[J2 hE];rw[NT,eM]at hb;rw[eM];exact Ra hb aa ((sk b xs).1 hR)
theorem kQ{P:Prop}(h:P:=by(first|rfl|trivial)):P:=h
theorem wA{P:Prop}(h:P:=by(rintro _ _ ⟨rfl,rfl⟩;exact⟨rfl,akp _⟩)):P:=h
theorem aow{P:Prop}(h:P:=by(first|omega|(exact⟨fun h=>by omega,fun h=>by omega⟩)|(simp at h8;done))):P:=h
abbrev Rr(g:Nat)(A:bj)(c:Nat)(q:List Bool)(p:Nat)(F:aR):aR:=.bE g 451 [.slice A (packed q).length c,ah q.length,ah p]:: .own 5 1 A (packed q).length c (bv (packed q))::F
theorem aeE(a b:Value){x y:Int}(h:x=y):[a,b,Value.int .i64 x]=[a,b,Value.int .i64 y]:=by rw[h]
theorem EM{l:al}(hb:fq B w0 F A c l)(hl:l.length≤1000000):
  a_ B w0 322 [.slice A l.length c] F (fun r L=>∃g A' c',r=bq g∧L=Rr g A' c' (gi l) 0 F):=by
 have zc:=dN l;refine fw func322 11 [0] ?_;refine bM ?_;refine ay rfl (l9 l hb aa) fun A4 c4=>?_;refine bH ?_;refine ae (eG [(0,_),(1,_)] [_,_] rfl rfl ag) rfl ?_;refine ae (wJ [(0,_)] [.slice A4 l.length c4,ah (8*(l.length:Int)),ah 0] rfl ag) rfl ?_;refine bf fun g10=>?_;refine b8 ?_;refine ao (L':=Rr g10 A4 c4 (gi l) 0 F) (bp (by rw[pP,zc];simp) (ax (by rw[pP]) (by rw[pP]) (.refl _))) ?_;refine aE ?_;exact⟨g10,A4,c4,rfl,rfl⟩
theorem ui(q:List Bool)(p:Nat)(hp:p≤q.length)(hq:q.length≤8000000):a_ B w0 325 [bq g] (Rr g A c q p F) (fun r L=>r=ah ((q.length:Int)-p)∧L=Rr g A c q p F):=by
 refine fw func325 15 [0] ?_;refine apV ?_;exact⟨rfl,rfl⟩
theorem anx(q:List Bool)(p:Nat)(hp:p≤q.length)(hq:q.length≤8000000)(n:Int)(h1:-9223372036854775808≤n)(h2:n≤9223372036854775807):
  a_ B w0 352 [bq g,ah n] (Rr g A c q p F) (fun r L=>r=ah (skE q p n)∧L=Rr g A c q (skP q p n) F):=by
 refine fw func352 25 [0,1] ?_;refine dX ?_;refine aj (fun h5=>?_) fun h5=>?_
 ·refine bP ?_;simp only[skE,skP,aq h5];exact⟨kQ,kQ⟩
 ·refine be ?_;refine bR 8 16 [0,1] ((q.length:Int)<p+n) ?_ ?_
  ·refine bM ?_;refine ai rfl (ui q p hp hq) ?_;refine bH ?_;exact aM (by exact dU (by first|omega|(exact⟨fun h=>by omega,fun h=>aa⟩)|(simp at pq;done)))
  ·refine bH ?_;refine aj (fun h8=>?_) fun h8=>?_
   ·refine bP ?_;simp only[skE,skP,aw h5,aq h8];exact⟨kQ,kQ⟩
   ·refine D3 ?_;refine ao (L':=Rr g A c q (skP q p n) F) (bp (by simp only[skP,aw h5,aw h8];refine aeE _ _ (?_ :_=_);omega) (.refl _)) ?_;refine aE ?_;simp only[skE,aw h5,aw h8];exact⟨kQ,kQ⟩
theorem Ip(q:List Bool)(p:Nat)(hp:p≤q.length)(hq:q.length≤8000000)(n:Int)(h1:-9223372036854775808≤n)(h2:n≤9223372036854775807):
  a_ B w0 326 [bq g,ah n] (Rr g A c q p F) (fun r L=>r= .tuple #[.int .u64 (oM q p n),ah (r_ q p n)]∧L=Rr g A c q (iH q p n) F):=by
 refine fw func326 41 [0,1] ?_;refine bz ?_;refine bR 6 13 [0,1] (n<0∨64<n) ?_ ?_
 ·refine bH ?_;refine aI rfl rfl rfl (fun jB=>?_) (fun jB=>?_)
  ·refine b8 ?_;exact aM Xx
  ·refine be ?_;exact aM Xw
 ·refine bH ?_;refine aj (fun h7=>?_) fun h7=>?_
  ·refine bz ?_;simp only[oM,r_,iH,aq h7];exact⟨kQ,kQ⟩
  ·refine be ?_;refine bR 8 22 [0,1] ((q.length:Int)<p+n) ?_ ?_
   ·refine bM ?_;refine ai rfl (ui q p hp hq) ?_;refine bH ?_;exact aM (by exact dU (by first|omega|(exact⟨fun h=>by omega,fun h=>aa⟩)|(simp at iy;done)))
   ·refine bH ?_;refine aj (fun jC=>?_) fun jC=>?_
    ·refine bz ?_;simp only[oM,r_,iH,aw h7,aq jC];exact⟨kQ,kQ⟩
    ·obtain⟨m,rfl⟩:=gM (show 0≤n by omega);refine c_ ?_;refine jE abE rfl (ER q p m hp aa aa _ (packed q) rfl rfl aV aB) wA rfl ?_;refine dX ?_;refine ve [6] ?_;refine bP ?_;refine ao (L':=Rr g A c q (iH q p m) F) (bp (by simp only[iH,aw h7,aw jC];refine aeE _ _ (?_ :_=_);omega) (.refl _)) ?_;refine aE ?_;simp only[oM,r_,aw h7,aw jC];exact⟨kQ,kQ⟩
theorem anh(q:List Bool)(p:Nat)(hp:p≤q.length)(hq:q.length≤8000000)(n:Int)(h1:-9223372036854775808≤n)(h2:n≤9223372036854775807):
  a_ B w0 350 [bq g,ah n] (Rr g A c q p F) (fun r L=>r= .tuple #[.int .u64 (pkV q p n),ah (pkN q p n)]∧L=Rr g A c q p F):=by
 refine fw func350 29 [0,1] ?_;refine bP ?_;refine bR 10 15 [0,1] (n<0∨64<n) ?_ ?_
 ·refine bP ?_;refine aI rfl rfl rfl (fun mF=>?_) (fun mF=>?_)
  ·refine b8 ?_;exact aM (by exact dU aow)
  ·refine be ?_;exact aM (by exact eU aow)
 ·refine be ?_;refine aj (fun kS=>?_) fun kS=>?_
  ·refine bP ?_;simp only[pkV,pkN,aq kS];exact⟨kQ,kQ⟩
  ·obtain⟨m,rfl⟩:=gM (show 0≤n by omega);refine cD ?_;refine jE abE rfl (ER q p m hp aa aa _ (packed q) rfl rfl aV aB) wA rfl ?_;refine be ?_;refine jE apr rfl (ui q p hp hq) wA rfl ?_;refine bU (xQ rfl rfl) rfl ?_;refine bB ?_;simp only[pkV,pkN,aw kS];exact⟨kQ,kQ⟩
theorem afT(q:List Bool)(p:Nat)(hp:p≤q.length)(hq:q.length≤8000000):
  a_ B w0 324 [bq g] (Rr g A c q p F) (fun r L=>r= .tuple #[ah (unV q p),ah (unR q p)]∧L=Rr g A c q (unP q p) F):=by
 refine fw func324 39 [0] ?_;refine acv ?_;refine aD (fun zf zL zm=>∃(k:Nat),(k≤q.length∧Z q p=Z q k)∧q.length-k=zm∧Sub zf [(0,bq g),(4,ah k)]∧Wk zL (Rr g A c q p F)) _ ⟨p,⟨hp,rfl⟩,rfl,bm,.refl _⟩ ?_;rintro _ _ _ ⟨k,⟨hk,hz⟩,rfl,hs,hp⟩;refine aU hs hp ?_;clear hs hp;refine cD ?_;refine aj (fun iU=>?_) fun iU=>?_
 ·refine bz ?_;refine ai rfl (ajP q k aa aa _ (packed q) rfl rfl aV aB) ?_;refine bH ?_;refine aj (fun qG=>?_) fun qG=>?_
  ·have qf:gZ q k=1:=by omega
   have hzk:=agi qf aa;have hzg:=ak3 q p;have hzl:Z q p<q.length:=by omega
   refine bP ?_;refine ve [0,4,5] ?_;refine acu ?_;refine ao (L':=Rr g A c q (unP q p) F) (bp (by simp only[unP,aq hzl];refine aeE _ _ (?_ :_=_);omega) (.refl _)) ?_;refine aE ?_;simp only[unV,unR,aq hzl];exact⟨dC (fun x=>Value.tuple #[ah x,ah 0]) aa,trivial⟩
  ·refine bM ?_;refine av ⟨_,aa,k+1,⟨aa,by rw[hz];exact Lq aa aa⟩,rfl,bm,.refl _⟩
 ·refine c_ ?_;have hzl:¬Z q p<q.length:=by have:=Xh (q:=q) (k:=k) aa;omega
  simp only[unV,unR,unP,aw hzl];exact⟨kQ,kQ⟩
theorem aqS(q:List Bool)(p:Nat)(hp:p≤q.length)(hq:q.length≤8000000):
  a_ B w0 343 [bq g] (Rr g A c q p F) (fun r L=>r=ah (paE q p)∧L=Rr g A c q p F):=by
 have hpi:=aiA q hp;refine fw func343 22 [0] ?_;refine zM ?_;refine ai rfl (ui q p hp hq) ?_;refine bI ?_;refine Cw 14 21 [] (¬((q.length:Int)-p<8∧Z q p=q.length)) ?_ ?_
 ·refine bH ?_;refine Bc rfl rfl rfl (fun jB=>?_) (fun jB=>?_)
  ·refine cD ?_;have hle:q.length-p≤7:=by omega
   refine b8 ?_;refine jE abE rfl ((by rw[show(q.length:Int)-p=((q.length-p:Nat):Int) by omega];exact ER q p (q.length-p) hp aa aa _ (packed q) rfl rfl aV aB)) wA rfl ?_;refine bH ?_;exact qD Xx
  ·refine bz ?_;exact qD Xw
 ·refine be ?_;refine aj (fun lV=>?_) fun lV=>?_
  ·refine bM ?_;simp only[paE,aw lV];exact⟨kQ,kQ⟩
  ·refine bP ?_;simp only[paE,aq (Decidable.not_not.1 lV)];exact⟨kQ,kQ⟩
theorem Ug{P:Prop}(h:P:=by(rw[hz];decide)):P:=h
theorem og{P:Prop}(h:P:=by(rw[hz])):P:=h
def ze(q:List Bool)(w n:Nat):bc:=(List.range n).map fun i=>part q (i*w) w
theorem se(q:List Bool)(w n:Nat):(ze q w n).length=n:=by simp[ze]
theorem Oo(q:List Bool)(w n:Nat):ze q w (n+1)=ze q w n++[part q (n*w) w]:=by simp[ze,lk]
def KW(bound p:Nat)(q:List Bool):bc→Nat→Nat→Int→bc→bc×Nat×Int
 |[],pos,_,_,out=>(out,pos,0)
 |x::ls,pos,high,was,out=>
  if¬Z q pos<q.length then ([],0,1)
  else if (((high+(Z q pos-pos))*p+x:Nat):Int)≤was then ([],0,2)
  else if bound≤(high+(Z q pos-pos))*p+x then ([],0,8)
  else KW bound p q ls (Z q pos+1) (high+(Z q pos-pos)) ((high+(Z q pos-pos))*p+x:Nat) (out++[(high+(Z q pos-pos))*p+x])
def B8(bound n:Nat)(b:al):bc×Nat×Int:=KW bound (2^wid bound n) (gi b) (ze (gi b) (wid bound n) n) (n*wid bound n) 0 (-1) []
def kY(bound n:Nat)(b:al):Nat:=((gi b).length-(B8 bound n b).2.1)%8
def jG(bound n:Nat)(b:al):bc×Nat×Int:=
 if (gi b).length<n*wid bound n then ([],0,1)
 else if (B8 bound n b).2.2≠0 then ([],0,(B8 bound n b).2.2)
 else if part (gi b) (B8 bound n b).2.1 (kY bound n b)≠0 then ([],0,2)
 else ((B8 bound n b).1,b.length-((gi b).length-((B8 bound n b).2.1+kY bound n b))/8,0)
theorem adB(q:List Bool){m w:Nat}(hm:m≤20000)(hw:w≤14)(hq:q.length≤8000000)(hE:q.length<m*w):
  a_ B w0 323 [bq g,ah m,ah w] (Rr g A c q 0 F) (fun r L=>r= .tuple #[.slice none 0 0,ah 1]∧L=Rr g A c q 0 F):=by
 have hmw:m*w≤20000*14:=gN hm hw;have hmul:IntKind.i64.wrap ((m:Int)*(w:Int))=((m*w:Nat):Int):=by
  rw[←z8];generalize m*w=z at*;exact bG aa aa
 refine fw func323 38 [0,1,2] ?_;refine dm ?_;refine ae (e_ rfl rfl hmul) rfl ?_;refine aE ?_;refine ai rfl (ui q 0 (bS _) hq) ?_;refine bH ?_;refine zJ fun iy=>?_;refine bP ?_;exact⟨rfl,rfl⟩
theorem ah9(q:List Bool){m w:Nat}(hm:m≤20000)(hw:w≤14)(hq:q.length≤8000000)(hE:m*w≤q.length):
  a_ B w0 323 [bq g,ah m,ah w] (Rr g A c q 0 F) (fun r L=>∃A' c',r= .tuple #[.slice A' m c',ah 0]∧L=Rr g A c q (m*w) (.own 57 1 A' m c' (nY (ze q w m))::F)):=by
 have hmw:m*w≤20000*14:=gN hm hw;have hmul:IntKind.i64.wrap ((m:Int)*(w:Int))=((m*w:Nat):Int):=by
  rw[←z8];generalize m*w=z at*;exact bG aa aa
 refine fw func323 38 [0,1,2] ?_;refine dm ?_;refine ae (e_ rfl rfl hmul) rfl ?_;refine aE ?_;refine ai rfl (ui q 0 (bS _) hq) ?_;refine bH ?_;refine dj fun iy=>?_;refine bI ?_;refine cH (fc uF rfl rfl rfl rfl rfl aa aa aa) fun Lr=>?_;refine cD ?_;refine aD (fun zf zL zm=>∃(k:Nat),(k≤m)∧m-k=zm∧Sub zf [(0,bq g),(2,ah w),(8,.slice Lr m m),(21,ah m),(22,ah k)]∧Wk zL (Rr g A c q (k*w) (.own 57 1 Lr m m (nY (ze q w k)++List.replicate (m-k) (.int .u16 0))::F))) _ ⟨0,bS _,rfl,bm,by rw[sc];exact(gl (gl (ef (.refl _))))⟩ ?_;rintro _ _ _ ⟨k,hk,rfl,hs,hp⟩;refine aU hs hp ?_;clear hs hp;refine bB ?_;refine aj (fun oO=>?_) fun oO=>?_
 ·have hkw:(k+1)*w≤m*w:=oC w aa;have RN:(k+1)*w=k*w+w:=j9 k w;have mG:=qt q (k*w) w;have hpw:=uB hw;have hlr:=se q w k;have hgv:oM q (k*w) w=part q (k*w) w:=by unfold oM;rw[aw aa,aw aa,nC]
  have RK:iH q (k*w) w=(k+1)*w:=by unfold iH;rw[aw aa,aw aa,nC,RN]
  refine dX ?_;refine ai rfl (Ip q (k*w) aa hq w aa aa) ?_;rw[hgv,RK];refine alY ?_;refine ve [0,2,8,21,22] ?_;refine av ⟨_,aa,k+1,aa,rfl,bm,.cons (.cons (ax rfl (by rw[cE,Wo _ (show k<m by omega),KZ _ _ _ _ (by simp[se]),Oo];simp[nY]) (.refl _)))⟩
 ·refine c_ ?_;obtain rfl:k=m:=by omega
  refine ao (L':=Rr g A c q (k*w) (.own 57 1 Lr k k (nY (ze q w k))::F)) (.cons (.cons (ax rfl (by rw[nA,N4,gk]) (.refl _)))) ?_;refine aE ?_;exact⟨Lr,k,rfl,rfl⟩
theorem DH{bound m:Nat}{b:al}(h:(gi b).length<m*wid bound m):jG bound m b=([],0,1):=aq h
theorem UQ{bound m:Nat}{b:al}(h:¬(gi b).length<m*wid bound m)(he:(B8 bound m b).2.2≠0):jG bound m b=([],0,(B8 bound m b).2.2):=by unfold jG;rw[aw h,aq he]
theorem UR{bound m:Nat}{b:al}(h:¬(gi b).length<m*wid bound m)(he:¬(B8 bound m b).2.2≠0)(hp:part (gi b) (B8 bound m b).2.1 (kY bound m b)≠0):jG bound m b=([],0,2):=by unfold jG;rw[aw h,aw he,aq hp]
theorem M3{bound m:Nat}{b:al}(h:¬(gi b).length<m*wid bound m)(he:¬(B8 bound m b).2.2≠0)(hp:¬part (gi b) (B8 bound m b).2.1 (kY bound m b)≠0):jG bound m b=((B8 bound m b).1,b.length-((gi b).length-((B8 bound m b).2.1+kY bound m b))/8,0):=by unfold jG;rw[aw h,aw he,aw hp]
theorem orQ{h x w p:Nat}(hp:p=2^w)(hx:x<p)(hb:h*p≤4611686018427387904)(LH:p≤16384):IntKind.i64.wrap ((BitVec.ofInt IntKind.i64.bits ((h*p:Nat):Int) ||| BitVec.ofInt IntKind.i64.bits (x:Int)).toNat:Int)=((h*p+x:Nat):Int):=by
 have hh:=ac9 (h*p) x aa aa;have e:h*p ||| x=h*p+x:=by
  rw[hp]at hx⊢;rw[nG,←NZ hx]
 rw[e]at hh;exact hh
theorem ah7{q:List Bool}{w m k:Nat}(h:k<m):(ze q w m).getD k 0=part q (k*w) w:=by simp[ze,List.getD,h]
def agn(bound m:Nat)(b:al)(F:aR)(r:Value)(L:aR):Prop:=
 ((jG bound m b).2.2≠0∧r= .tuple #[.pointer none,ah 0,ah (jG bound m b).2.2]∧L=F)∨
 ((jG bound m b).2.2=0∧∃g A1 c1 A2 c2,r= .tuple #[bq g,ah (jG bound m b).2.1,ah 0]∧L=Pt g 405 (wid bound m) (2^wid bound m) A1 c1 A2 c2 (jG bound m b).1 F)
theorem aiS{bound m:Nat}{b:al}(hb:fq B w0 F A c b)(dh:b.length≤1000000)(oP:bound≤20000)(hm:1≤m)(hmb:m≤bound)(hE:(gi b).length<m*wid bound m):
  a_ B w0 299 [ah bound,ah m,.slice A b.length c] F (agn bound m b F):=by
 have zc:=dN b;have CC:=xg (n:=m) oP;refine fw func299 107 [0,1,2] ?_;refine bz ?_;refine eK rfl (EM hb aa) fun g24 Bh Dc=>?_;refine bD ?_;refine ai rfl (Lj bound m oP hm hmb) ?_;refine ae (br [(0,_)] [ah 0,.slice none 0 0,.slice none 0 0] [0] [_,_,_] rfl rfl ag) rfl ?_;refine ae (eG [(0,_)] [_,_,_] rfl rfl ag) rfl ?_;refine bf fun g30=>?_;refine cD ?_;refine ai rfl ((adB (gi b) (m:=m) (w:=wid bound m) aa CC aa hE).perm ((l0 (l0 (fT (.refl _)))))) ?_;refine bI ?_;refine ve [0,2,9,10,11,12] ?_;refine bM ?_;refine aj (fun Yn=>?_) fun Yn=>?_
 ·refine bz ?_;refine ao (L':=F) (.skip (.skip (.skip (.refl _)))) ?_;refine aE ?_;exact .inl ⟨by rw[DH hE];decide,by rw[DH hE],rfl⟩
 ·exfalso;exact Yn aA
theorem ano{bound m:Nat}{b:al}(hb:fq B w0 F A c b)(dh:b.length≤1000000)(oP:bound≤20000)(hm:1≤m)(hmb:m≤bound)(hE:¬(gi b).length<m*wid bound m):
  a_ B w0 299 [ah bound,ah m,.slice A b.length c] F (agn bound m b F):=by
 have zc:=dN b;have CC:=xg (n:=m) oP;have hF0:B8 bound m b=KW bound (2^wid bound m) (gi b) (ze (gi b) (wid bound m) m) (m*wid bound m) 0 (-1) []:=rfl;have Nx:kY bound m b=((gi b).length-(B8 bound m b).2.1)%8:=rfl;unfold agn;have Qi:jG bound m b=jG bound m b:=rfl;obtain⟨q,hq⟩:=cR (gi b);have hEe:= @UQ bound m b hE;have hEp:= @UR bound m b hE;have hEo:= @M3 bound m b hE;rw[←hq]at hE zc hF0 Nx hEp hEo;obtain⟨w,hw⟩:=cR (wid bound m);rw[←hw]at hE CC hF0⊢;obtain⟨p,hp⟩:=cR (2^w);rw[←hp]at hF0⊢;have RS:1≤p:=by rw[hp];exact Nat.one_le_two_pow
 have LH:p≤16384:=by rw[hp];exact uB CC
 have atW:=se q w m;refine fw func299 107 [0,1,2] ?_;refine bz ?_;refine eK rfl (EM hb aa) fun g24 Bh Dc=>?_;rw[←hq];refine bD ?_;refine ai rfl (Lj bound m oP hm hmb) ?_;rw[←hw];refine ae (br [(0,_)] [ah 0,.slice none 0 0,.slice none 0 0] [0] [_,_,_] rfl rfl ag) rfl ?_;refine ae (eG [(0,_)] [_,_,_] rfl rfl ag) rfl ?_;refine bf fun g30=>?_;refine cD ?_;refine ay rfl ((ah9 q (m:=m) (w:=w) aa CC aa aa).perm ((l0 (l0 (fT (.refl _)))))) fun A39 c39=>?_;refine bI ?_;refine ve [0,2,9,10,11,12] ?_;refine bM ?_;refine aj (fun Yn=>?_) fun Yn=>?_
 ·exfalso;exact Yn aA
 ·refine bH ?_;refine aY 57 1 none ?_;refine aY 3 1 none ?_;refine dX ?_;refine aD (fun zf zL zm=>∃(k pos high:Nat) (was:Int) (out:bc) (P1:bj) (p1:Nat) (P2:bj) (p2:Nat),(k≤m∧pos≤q.length∧high≤20000∧out.length=k∧KW bound p q ((ze q w m).drop k) pos high was out=B8 bound m b)∧m-k=zm∧Sub zf [(0,ah bound),(2,.slice A b.length c),(9,bq g24),(10,bq g30),(13,ah high),(14,ah was),(45,.slice A39 m c39),(46,ah m),(47,ah k)]∧Wk zL (Rr g24 Bh Dc q pos (Pt g30 405 w p P1 p1 P2 p2 out (.own 57 1 A39 m c39 (nY (ze q w m))::F)))) _ ⟨0,m*w,0,-1,[],none,0,none,0,⟨bS _,aa,bS _,rfl,hF0.symm⟩,rfl,bm,(rP (rP (tD (ef (ef (ef (.refl _)))))))⟩ ?_;rintro _ _ _ ⟨k,pos,high,was,out,P1,p1,P2,p2,⟨hk,tX,hhi,Kl,hG⟩,rfl,hs,hp⟩;refine aU hs hp ?_;clear hs hp;refine bB ?_;refine aj (fun Rt=>?_) fun Rt=>?_
  ·have hx:=ah7 (q:=q) (w:=w) (m:=m) (k:=k) aa;have Ql:=qt q (k*w) w;have hd:=dw (l:=ze q w m) (k:=k) aa 0;obtain⟨x,hxx⟩:=cR ((ze q w m).getD k 0);have Gk:(nY (ze q w m))[k*1]? =some (.int .u16 (x:Int)):=by rw[hxx];exact afR aa
   rw[←hx,←hxx,←hp]at Ql;rw[hd,←hxx,KW]at hG;have hzg:=ak3 q pos;have hzl:=art q tX;refine bD ?_;refine ae (au ag rfl aB aa Gk) rfl ?_;refine bB ?_;refine ai rfl (afT q pos tX aa) ?_;refine dX ?_;refine aj (fun h57=>?_) fun h57=>?_
   ·have hnz:¬Z q pos<q.length:=fun h=>h57 (by unfold unR;rw[aq h]);have u5:unR q pos=1:=by unfold unR;rw[aw hnz]
    rw[aq hnz]at hG;have hz:=hEe (by rw[←hG];decide);rw[←hG]at hz;refine bB ?_;refine ve [6,7,8] ?_;refine bM ?_;refine ao (L':=F) (.skip (.skip (.skip (.skip (.skip (.skip (.refl _))))))) ?_;refine aE ?_;exact .inl ⟨Ug,by rw[hz,u5],rfl⟩
   ·have hnz:Z q pos<q.length:=bF fun h=>h57 (by unfold unR;rw[aw h];decide);have hv:unV q pos=((Z q pos-pos:Nat):Int):=by unfold unV;rw[aq hnz];omega
    have hu:unP q pos=Z q pos+1:=by unfold unP;rw[aq hnz]
    rw[hv,hu];rw[aw (by simpa using hnz)]at hG;obtain⟨h2,hh2⟩:=cR (high+(Z q pos-pos));rw[←hh2]at hG;have hmul:h2*p≤10000000*16384:=gN aa LH;obtain⟨id,hid⟩:=cR (h2*p+x);rw[←hid]at hG;refine bB ?_;refine ae (bY rfl rfl (r:=(h2:Int)) ((bG aa aa).trans aa)) rfl ?_;refine dm ?_;refine ae (gb rfl rfl aa (ai0 hp CC aa)) rfl ?_;refine be ?_;refine ae (tL rfl rfl (r:=(id:Int)) ((orQ hp Ql aa LH).trans (by rw[hid]))) rfl ?_;refine aE ?_;refine ve [0,2,9,10,13,14,19,45,46,47] ?_;refine dm ?_;refine aj (fun Yr=>?_) fun Yr=>?_
    ·rw[aq aa]at hG;have hz:=hEe (by rw[←hG];decide);rw[←hG]at hz;refine i_ ?_;refine ao (L':=F) (.skip (.skip (.skip (.skip (.skip (.skip (.refl _))))))) ?_;refine aE ?_;exact .inl ⟨Ug,og,rfl⟩
    ·rw[aw aa]at hG;refine bM ?_;refine aj (fun h76=>?_) fun h76=>?_
     ·rw[aq aa]at hG;have hz:=hEe (by rw[←hG];decide);rw[←hG]at hz;refine bI ?_;refine ve [6,7,8] ?_;refine bP ?_;refine ao (L':=F) (.skip (.skip (.skip (.skip (.skip (.skip (.refl _))))))) ?_;refine aE ?_;exact .inl ⟨Ug,og,rfl⟩
     ·rw[aw aa]at hG;have atO:h2≤h2*p:=ah1 h2 RS;refine dX ?_;refine ba ajU rfl ((ad_ 405 hp CC out id aa aa).perm ((BN (BN (BN (fT (fT (.refl _)))))))) rfl ?_;rintro _ _ ⟨rfl,P85,p85,Q85,q85,cJ⟩;obtain rfl:=cJ.symm;refine bB ?_;refine ve [0,2,9,10,13,14,45,46,47] ?_;refine av ⟨_,aa,k+1,Z q pos+1,h2,(id:Int),out++[id],P85,p85,Q85,q85,⟨aa,aa,aa,bO,hG⟩,rfl,bm,(tD (tD (ef (ef (ef (.refl _))))))⟩
  ·obtain rfl:k=m:=by omega
   rw[mj aa,KW]at hG;rw[←hG]at hEp hEo Nx;simp only at Nx;obtain⟨rest,NM⟩:=cR (kY bound k b);rw[←NM]at Nx hEp hEo;have hrm:((q.length:Int)-pos).tmod 8=(rest:Int):=by
    rw[show(q.length:Int)-pos=((q.length-pos:Nat):Int) by omega,Nx];exact(Int.ofNat_tmod _ 8).symm
   have hrl:rest<8:=by omega
   refine bI ?_;refine d_ (fun zf zL=>(part q pos rest=0)∧Sub zf [(2,.slice A b.length c),(9,bq g24),(10,bq g30)]∧Wk zL (Rr g24 Bh Dc q (pos+rest) (Pt g30 405 w p P1 p1 P2 p2 out (.own 57 1 A39 k c39 (nY (ze q w k))::F)))) ?_ ?_
   ·refine bH ?_;refine ai rfl (ui q pos tX aa) ?_;refine ae (qd rfl rfl aa hrm) rfl ?_;refine bP ?_;refine aj (fun h91=>?_) fun h91=>?_
    ·have hgv:oM q pos rest=part q pos rest:=by unfold oM;rw[aw aa,aw aa,nC]
     have RK:iH q pos rest=pos+rest:=by unfold iH;rw[aw aa,aw aa,nC]
     refine b8 ?_;refine ai rfl (Ip q pos tX aa rest aa aa) ?_;rw[hgv,RK];refine bI ?_;refine ve [2,9,10,21] ?_;refine bD ?_;refine aj (fun h99=>?_) fun h99=>?_
     ·have hz:=hEp ak (show part q pos rest≠0 by omega);refine bP ?_;refine ao (L':=F) (.skip (.skip (.skip (.skip (.skip (.skip (.refl _))))))) ?_;refine aE ?_;exact .inl ⟨Ug,og,rfl⟩
     ·refine aE ?_;exact bC ⟨aa,bm,.refl _⟩
    ·refine aE ?_;have hr0:rest=0:=by omega
     exact bC ⟨by rw[hr0];rfl,bm,by rw[hr0,tf];exact .refl _⟩
   ·rintro _ _ ⟨hpz,hs,hp⟩;refine aU hs hp ?_;clear hs hp;refine bB ?_;refine ai rfl (ui q (pos+rest) aa aa) ?_;refine ae (qc rfl rfl aa (r:=(((q.length-(pos+rest))/8:Nat):Int)) (by rw[show(q.length:Int)-((pos+rest:Nat):Int)=((q.length-(pos+rest):Nat):Int) by omega];exact aiJ aa)) rfl ?_;refine ae (dQ rfl rfl (r:=((b.length-(q.length-(pos+rest))/8:Nat):Int)) ((bG aa aa).trans aa)) rfl ?_;refine bB ?_;have hz:=hEo ak (by simpa using hpz);refine ao (L':=Pt g30 405 w p P1 p1 P2 p2 out F) ((rP (rP (rP (.skip (.skip (.skip (.refl _)))))))) ?_;refine aE ?_;exact .inr ⟨og,g30,P1,p1,P2,p2,og,og⟩
theorem dP.jj{P:Program}{B:Nat}{w0:World}{f:FuncId}{args:cV}{L M:aR}{v:Value}(h:dP P B w0 f args M (fun r K=>r=v∧K=M))(hp:L.Perm M):dP P B w0 f args L (fun r K=>r=v∧K=L):=fun w hw=>
 (h w (hw.perm hp)).mono fun e w' ⟨r,K,he,⟨hr,hK⟩,hs⟩=>by subst hK;exact⟨r,L,he,⟨hr,rfl⟩,hs.perm hp.symm⟩
theorem Kj(a:Nat):((a:Int)).fdiv (2^min (1:Int).toNat IntKind.u64.bits)=((a/2:Nat):Int):=by
 have e:min (1:Int).toNat IntKind.u64.bits=1:=by decide
 rw[e,wg _ aA];rfl
abbrev Rl(g w p:Nat)(A1:bj)(c1:Nat)(A2:bj)(c2:Nat)(xs:bc)(F:aR):aR:=Pt g 405 w p A1 c1 A2 c2 xs F
theorem adw{w p:Nat}{xs:bc}:a_ B w0 269 [bq g] (Rl g w p A1 c1 A2 c2 xs F) (fun r L=>r=ah xs.length∧L=Rl g w p A1 c1 A2 c2 xs F):=by
 refine fw func269 11 [0] ?_;refine apT ?_;exact⟨rfl,rfl⟩
theorem kW.mono{bound:Nat}{xs:bc}(h:kW bound xs):∀j i,i≤j→j<xs.length→xs.getD i 0≤xs.getD j 0
 |0,i,Iv,_=>by rw[Nat.le_zero.1 Iv];exact gj _
 |j+1,i,Iv,hj=>by
  by_cases e:i=j+1
  ·rw[e];exact gj _
  ·have h1:=kW.mono h j i aa aa;have h2:=(h (j+1) hj).2 aa;rw[wi]at h2;omega
theorem amC{w p:Nat}(hp:p=2^w)(hw:w≤14){xs:bc}(hx:∀i,i<xs.length→xs.getD i 0≤1000000)(hl:xs.length≤1000000):
  a_ B w0 270 [bq g] (Rl g w p A1 c1 A2 c2 xs F) (fun r L=>∃A' c',r= .slice A' xs.length c'∧L=Rl g w p A1 c1 A2 c2 xs (.own 3 1 A' xs.length c' (bx xs)::F)):=by
 refine fw func270 20 [0] ?_;refine bB ?_;refine aY 3 1 none ?_;refine bM ?_;refine ai rfl ((adw (w:=w) (p:=p) (xs:=xs)).jj ((l0 (l0 (l0 (fT (.refl _))))))) ?_;refine b8 ?_;refine aD (fun zf zL zm=>∃(k:Nat) (A5:bj) (c5:Nat),(k≤xs.length)∧xs.length-k=zm∧Sub zf [(0,bq g),(3,.slice A5 k c5),(6,ah xs.length),(7,ah k)]∧Wk zL (Rl g w p A1 c1 A2 c2 xs (.own 3 1 A5 k c5 (bx (xs.take k))::F))) _ ⟨0,none,0,bS _,rfl,bm,(gl (gl (gl (ef (.refl _)))))⟩ ?_;rintro _ _ _ ⟨k,A5,c5,hk,rfl,hs,hp⟩;refine aU hs hp ?_;clear hs hp;refine bB ?_;refine aj (fun h8=>?_) fun h8=>?_
 ·refine jU ?_;refine ai rfl (amT 405 hp hw xs k aa (hx k aa)) ?_;refine dK fM rfl rfl rfl rfl rfl (fun _=>rfl) aV aa aa ?_;intro _ T4 c17;refine bM ?_;refine av ⟨_,aa,k+1,T4,c17,aa,rfl,bm,.cons (.cons (.cons (ax rfl (by rw[aZ (show k<xs.length by omega) 0];simp[bx]) (.refl _))))⟩
 ·refine cD ?_;obtain rfl:k=xs.length:=by omega
  rw[jN];refine aE ?_;exact⟨A5,c5,rfl,rfl⟩
theorem My:a_ B w0 177 [bq g] (Cv g A c s::F) (fun r L=>r=ah s.at_∧L=Cv g A c s::F):=by
 refine fw func177 10 [0] ?_;refine acv ?_;exact⟨rfl,rfl⟩
def s7(bound:Int)(b:al):Cs:=Cs.bX ⟨b,0,0⟩ bound
def Cg(bound:Int)(b:al):Nat:=Cs.int ⟨b,0,0⟩ bound
def Gm(bound:Int)(b:al):bc×Nat×Int:=jG bound.toNat (Cg bound b) (b.drop (s7 bound b).at_)
def iK(bound:Int)(b:al):bc×Nat×Int:=
 if bound<0∨20000<bound then ([],0,13)
 else if (s7 bound b).e≠0 then ([],0,(s7 bound b).e)
 else if Cg bound b=0 then ([],(s7 bound b).at_,0)
 else if (Gm bound b).2.2≠0 then ([],0,(Gm bound b).2.2)
 else ((Gm bound b).1,(s7 bound b).at_+(Gm bound b).2.1,0)
theorem DF{bound:Int}{b:al}(h:bound<0∨20000<bound):iK bound b=([],0,13):=aq h
theorem DG{bound:Int}{b:al}(h:¬(bound<0∨20000<bound))(h1:(s7 bound b).e≠0):iK bound b=([],0,(s7 bound b).e):=by unfold iK;rw[aw h,aq h1]
theorem J0{bound:Int}{b:al}(h:¬(bound<0∨20000<bound))(h1:¬(s7 bound b).e≠0)(h2:Cg bound b=0):iK bound b=([],(s7 bound b).at_,0):=by unfold iK;rw[aw h,aw h1,aq h2]
theorem abQ{bound:Int}{b:al}(h:¬(bound<0∨20000<bound))(h1:¬(s7 bound b).e≠0)(h2:¬Cg bound b=0)(h3:(Gm bound b).2.2≠0):iK bound b=([],0,(Gm bound b).2.2):=by unfold iK;rw[aw h,aw h1,aw h2,aq h3]
theorem Q9{bound:Int}{b:al}(h:¬(bound<0∨20000<bound))(h1:¬(s7 bound b).e≠0)(h2:¬Cg bound b=0)(h3:¬(Gm bound b).2.2≠0):iK bound b=((Gm bound b).1,(s7 bound b).at_+(Gm bound b).2.1,0):=by unfold iK;rw[aw h,aw h1,aw h2,aw h3]
def an8(bound:Int)(b:al)(F:aR)(r:Value)(L:aR):Prop:=
 ((iK bound b).2.2≠0∧r= .tuple #[.pointer none,ah 0,ah (iK bound b).2.2]∧L=F)∨
 ((iK bound b).2.2=0∧∃w p g A1 c1 A2 c2,p=2^w∧w≤14∧r= .tuple #[bq g,ah (iK bound b).2.1,ah 0]∧L=Rl g w p A1 c1 A2 c2 (iK bound b).1 F)
theorem H'(bound m:Nat)(b:al):(jG bound m b).2.1≤b.length:=by
 unfold jG;split
 ·exact bS _
 ·split
  ·exact bS _
  ·split
   ·exact bS _
   ·exact Nat.sub_le ..
theorem akE{bound m:Nat}{b:al}(hb:fq B w0 F A c b)(dh:b.length≤1000000)(oP:bound≤20000)(hm:1≤m)(hmb:m≤bound):
  a_ B w0 299 [ah bound,ah m,.slice A b.length c] F (agn bound m b F):=by
 by_cases hE:(gi b).length<m*wid bound m
 ·exact aiS hb dh oP hm hmb hE
 ·exact ano hb dh oP hm hmb hE
theorem abT{bound:Int}{b:al}(hb:fq B w0 F A c b)(dh:b.length≤1000000)(acC:-9223372036854775808≤bound)(Ny:bound≤9223372036854775807):
  a_ B w0 268 [ah bound,.slice A b.length c] F (an8 bound b F):=by
 have ho0:cu ⟨b,0,0⟩:=⟨bS _,cZ⟩
 have ho1:cu (s7 bound b):=ho0.bX Ny;have hrb:(s7 bound b).b=b:=Cs.cK _ _ _;have GQ:(s7 bound b).at_≤b.length:=by have:=ho1.at_;rw[hrb]at this;exact this
 have hnb:0≤bound→(Cg bound b:Int)≤bound:=fun h=>by
  unfold Cg Cs.int;rw[aw ak];by_cases he:(eu (Cs.rest ⟨b,0,0⟩) bound).2.2=0
  ·exact(jD _ bound Ny).2.2.2 he
  ·rw[(pC he).1];exact h
 have hcut:=hb.cut GQ;have hrl:(Gm bound b).2.1≤b.length:=by
  have:=H' bound.toNat (Cg bound b) (b.drop (s7 bound b).at_);rw[iN]at this;unfold Gm;omega
 have arO:(bv b).drop ((s7 bound b).at_*1)=bv (b.drop (s7 bound b).at_):=by rw[cE,jv]
 rw[arO,show b.length-(s7 bound b).at_=(b.drop (s7 bound b).at_).length from(iN ..).symm]at hcut;have hint:∀{g:Nat} {A':bj} {c':Nat} {F':aR},aL B w0 F' 1 (.slice A' b.length c') b.length (bv b)→a_ B w0 172 [bq g,ah bound] (Cv g A' c' ⟨b,0,0⟩::F') (fun r L=>r=ah (Cg bound b)∧L=Cv g A' c' (s7 bound b)::F'):=fun Qc=>iI ho0 Qc acC Ny;by_cases hRw:(Gm bound b).2.2=0
 ·refine fw func268 54 [0,1] ?_;refine bz ?_;refine bR 6 18 [0,1] (bound<0∨20000<bound) ?_ ?_
  ·refine bH ?_;refine aI rfl rfl rfl (fun kS=>?_) (fun kS=>?_)
   ·refine b8 ?_;exact aM oY
   ·refine be ?_;exact aM vy
  ·refine be ?_;refine aj (fun iU=>?_) fun iU=>?_
   ·refine bz ?_;exact .inl ⟨by rw[DF iU];decide,by rw[DF iU],rfl⟩
   ·obtain⟨bn,rfl⟩:=gM (show 0≤bound by omega);have asE:=hnb aa;refine bI ?_;refine eK rfl (mT hb aa) fun g20 Ls Mw=>?_;refine bD ?_;refine ai rfl (hint aB) ?_;refine bD ?_;refine ai rfl (gO) ?_;refine bP ?_;refine aj (fun ku=>?_) fun ku=>?_
    ·refine bz ?_;refine ao (L':=F) (.skip (.skip (.refl _))) ?_;refine aE ?_;exact .inl ⟨by rw[DG iU ku];exact ku,by rw[DG iU ku],rfl⟩
    ·refine bP ?_;refine aj (fun y'=>?_) fun y'=>?_
     ·refine aE ?_;refine aY 57 1 none ?_;refine aY 3 1 none ?_;refine fR ((BN (BN (fT (fT (.refl _)))))) ?_;refine aE ?_;refine ae (cv [ah 0,.slice none 0 0,.slice none 0 0] ag) rfl ?_;refine bf fun g32=>?_;refine aE ?_;refine ai rfl ((My).jj ((l0 (fT (.refl _))))) ?_;refine bH ?_;refine ve [4,5,6] ?_;refine bH ?_;have hz:=J0 (b:=b) iU ku (show Cg bn b=0 by omega);refine ao (L':=Rl g32 0 1 none 0 none 0 [] F) ((ef (rP (rP (.skip (.skip (.refl _))))))) ?_;refine aE ?_;exact .inr ⟨og,0,1,g32,none,0,none,0,rfl,aa,og,og⟩
     ·refine bM ?_;refine ai rfl (My) ?_;refine ae (bT (i:=(s7 bn b).at_) (size:=1) underlying27 ag rfl rfl rfl GQ) rfl ?_;rw[show b.length-(s7 bn b).at_=(b.drop (s7 bn b).at_).length from(iN ..).symm];refine ba apj rfl ((akE (bound:=bn) (m:=Cg bn b) (b:=b.drop (s7 bn b).at_) (.cons (.cons hcut)) kR aa aa aa).mono (R':=fun r L=>∃g A1 c1 A2 c2,r= .tuple #[bq g,ah (Gm bn b).2.1,ah 0]∧L=Rl g (wid bn (Cg bn b)) (2^wid bn (Cg bn b)) A1 c1 A2 c2 (Gm bn b).1 (Cv g20 Ls Mw (s7 bn b):: .own 5 1 Ls b.length Mw (bv b)::F)) (fun r L h=>by rcases h with⟨h1,_⟩|⟨_,h⟩;exact absurd hRw h1;exact h)) rfl ?_;rintro _ _ ⟨g42,P42,p42,Q42,q42,rfl,cJ⟩;obtain rfl:=cJ.symm;refine bD ?_;refine ve [7,10,11,12] ?_;refine bM ?_;refine aj (fun LD=>?_) fun LD=>?_
      ·exfalso;exact LD rfl
      ·refine bB ?_;refine ai rfl ((My).jj ((pu3 (fT (fT (fT (.refl _))))))) ?_;refine aE ?_;refine ae (bY rfl rfl (r:=(((s7 bn b).at_+(Gm bn b).2.1:Nat):Int)) ((bG aa aa).trans aa)) rfl ?_;refine bB ?_;have hz:=Q9 (b:=b) iU ku (show¬Cg bn b=0 by omega) (by simpa using hRw);refine ao (L':=Rl g42 (wid bn (Cg bn b)) (2^wid bn (Cg bn b)) P42 p42 Q42 q42 (Gm bn b).1 F) ((ef (ef (ef (.skip (.skip (.refl _))))))) ?_;refine aE ?_;exact .inr ⟨og,wid bn (Cg bn b),_,g42,P42,p42,Q42,q42,rfl,xg aa,og,og⟩
 ·refine fw func268 54 [0,1] ?_;refine bz ?_;refine bR 6 18 [0,1] (bound<0∨20000<bound) ?_ ?_
  ·refine bH ?_;refine aI rfl rfl rfl (fun kS=>?_) (fun kS=>?_)
   ·refine b8 ?_;exact aM oY
   ·refine be ?_;exact aM vy
  ·refine be ?_;refine aj (fun iU=>?_) fun iU=>?_
   ·refine bz ?_;exact .inl ⟨by rw[DF iU];decide,by rw[DF iU],rfl⟩
   ·obtain⟨bn,rfl⟩:=gM (show 0≤bound by omega);have asE:=hnb aa;refine bI ?_;refine eK rfl (mT hb aa) fun g20 Ls Mw=>?_;refine bD ?_;refine ai rfl (hint aB) ?_;refine bD ?_;refine ai rfl (gO) ?_;refine bP ?_;refine aj (fun ku=>?_) fun ku=>?_
    ·refine bz ?_;refine ao (L':=F) (.skip (.skip (.refl _))) ?_;refine aE ?_;exact .inl ⟨by rw[DG iU ku];exact ku,by rw[DG iU ku],rfl⟩
    ·refine bP ?_;refine aj (fun y'=>?_) fun y'=>?_
     ·refine aE ?_;refine aY 57 1 none ?_;refine aY 3 1 none ?_;refine fR ((BN (BN (fT (fT (.refl _)))))) ?_;refine aE ?_;refine ae (cv [ah 0,.slice none 0 0,.slice none 0 0] ag) rfl ?_;refine bf fun g32=>?_;refine aE ?_;refine ai rfl ((My).jj ((l0 (fT (.refl _))))) ?_;refine bH ?_;refine ve [4,5,6] ?_;refine bH ?_;have hz:=J0 (b:=b) iU ku (show Cg bn b=0 by omega);refine ao (L':=Rl g32 0 1 none 0 none 0 [] F) ((ef (rP (rP (.skip (.skip (.refl _))))))) ?_;refine aE ?_;exact .inr ⟨og,0,1,g32,none,0,none,0,rfl,aa,og,og⟩
     ·refine bM ?_;refine ai rfl (My) ?_;refine ae (bT (i:=(s7 bn b).at_) (size:=1) underlying27 ag rfl rfl rfl GQ) rfl ?_;rw[show b.length-(s7 bn b).at_=(b.drop (s7 bn b).at_).length from(iN ..).symm];refine ai rfl ((akE (bound:=bn) (m:=Cg bn b) (b:=b.drop (s7 bn b).at_) (.cons (.cons hcut)) kR aa aa aa).mono (R':=fun r L=>r= .tuple #[.pointer none,ah 0,ah (Gm bn b).2.2]∧L=Cv g20 Ls Mw (s7 bn b):: .own 5 1 Ls b.length Mw (bv b)::F) (fun r L h=>by rcases h with⟨_,h⟩|⟨h1,_⟩;exact h;exact absurd h1 hRw)) ?_;refine bD ?_;refine ve [7,10,11,12] ?_;refine bM ?_;refine aj (fun LD=>?_) fun LD=>?_
      ·refine bz ?_;have hz:=abQ (b:=b) iU ku (show¬Cg bn b=0 by omega) hRw;refine ao (L':=F) (.skip (.skip (.refl _))) ?_;refine aE ?_;exact .inl ⟨by rw[hz];exact hRw,og,rfl⟩
      ·exfalso;exact LD hRw
end Go.Proofs.YtaodmbolhoafcaaGreatDoor

/-
  Texts of one proof, joined: part 6. No condition.
-/
import Derived.Test.YtaodmbolhoafcaaGreatDoorZo5
open Go.RowKit Go.Proofs.Tryz
namespace Go.Proofs.YtaodmbolhoafcaaGreatDoor
set_option linter.unusedVariables false
set_option linter.unusedSimpArgs false
set_option maxRecDepth 20000
variable{B:Nat}{w0:World}{F:aQ}{A A1 A2:bj}{n c c1 c2 g:Nat}{bt:TypeId}{f:Ch→aQ}{s:Cs}
section
theorem nF:type_of% @List.mem_append_right:= @List.mem_append_right
theorem j9:type_of% @List.mem_append_left:= @List.mem_append_left
def Ch.isObj:Ch→Bool
 | .obj _ _=>true
 |_=>false
section
variable{B:Nat}{w0 w w':World}{L M:aQ}{c d:Ch}
theorem Ch.holds.cells(h:c.holds B w)(hc:c.isObj=false){g:Nat}(hg:c.fp=some g):∃o,w.heap[g]? =some o∧o.isCells=true:=by
 cases c with
 |own e size A n cc xs=>
  obtain⟨_,_,h⟩:=h;simp only[Ch.fp]at hg;by_cases qM:cc=0
  ·rw[ao qM]at hg;cases hg
  ·rw[aw qM]at hg;obtain⟨g',cur,rfl,h1,h2,_⟩:=h.resolve_left qM;simp at hg;subst hg;exact⟨_,h2,rfl⟩
 |bE g' t cs=>
  simp only[Ch.fp,Ew]at hg;subst hg;exact⟨_,h.2,rfl⟩
 |obj g' o=>cases hc
theorem SL.aoe(h:SL B w0 M w){row:Option Nat}(hg:w.grownBy w' row){K:Nat}(hK:B≤K)(hr:∀r,row=some r→K≤r∧∃o:Obj,w.heap[r]? =some o∧o.isCells=false)(ho:∀c∈M,c.isObj=true→∀g,c.fp=some g→g<K):SL B w0 M w':=by
 refine⟨h.below.grown hg h.base (fun k hk=>jc hK (hr k hk).1),jc h.base hg.size,fun c hc=>(h.all c hc).keep fun g hgc=>?_,h.apart⟩;refine hg.block g ((h.all c hc).lt hgc).2 fun e=>?_;obtain⟨h1,o,h2,h3⟩:=hr g e.symm;cases x7:c.isObj with
 |true=>exact absurd (ho c hc x7 g hgc) aa
 |false=>
  obtain⟨o',h4,h5⟩:=(h.all c hc).cells x7 hgc;rw[h2]at h4;cases h4
  rw[h3]at h5;cases h5
theorem aK.later{size n:Nat}{v:Value}{xs:cV}{w1:World}(h:aK B w0 L size v n xs)(hb:Below B w0 w1):aK B w1 L size v n xs:=fun w hs=>h w ⟨hb.trans hs.below,hs.base,hs.all,hs.apart⟩
def rest(B:Nat)(M:aQ)(w:World):aQ:=((List.range w.heap.size).filter fun k=>decide (B≤k)&&M.all fun c=>decide (c.fp≠some k)).filterMap fun k=>(w.heap[k]?).map (Ch.obj k)
theorem Ff:c∈rest B M w↔∃k o,B≤k∧w.heap[k]? =some o∧(∀d∈M,d.fp≠some k)∧c= .obj k o:=by
 unfold rest;simp only[List.mem_filterMap,BC,kB,zZ,NY,yc,Option.map_eq_some_iff];constructor
 ·rintro⟨k,⟨h1,h2,h3⟩,o,h4,rfl⟩;exact⟨k,o,h2,h4,h3,rfl⟩
 ·rintro⟨k,o,h2,h4,h3,rfl⟩;exact⟨k,⟨(k_3.1 h4).1,h2,h3⟩,o,h4,rfl⟩
theorem SN(B:Nat)(M:aQ)(w:World):(rest B M w).Pairwise Ch.apart:=by
 unfold rest;have h:((List.range w.heap.size).filter fun k=>decide (B≤k)&&M.all fun c=>decide (c.fp≠some k)).Pairwise (· ≠ ·):=(List.nodup_range).filter _;generalize ((List.range w.heap.size).filter fun k=>decide (B≤k)&&M.all fun c=>decide (c.fp≠some k))=ks at h⊢;induction ks with
 |nil=>exact List.Pairwise.nil
 |cons k ks ih=>
  have h':=kE.1 h;rw[List.filterMap_cons];cases hk:(w.heap[k]?).map (Ch.obj k)with
  |none=>exact ih h'.2
  |some c=>
   refine kE.2 ⟨fun d hd=>?_,ih h'.2⟩;obtain⟨k',hk',hd'⟩:=List.mem_filterMap.1 hd;obtain⟨o,ho,rfl⟩:=Option.map_eq_some_iff.1 hk;obtain⟨o',ho',rfl⟩:=Option.map_eq_some_iff.1 hd';exact .inr fun e=>h'.1 k' hk' (N0 e)
theorem SL.full(h:SL B w0 M w):SL B w (M++rest B M w) w:=by
 refine⟨GX _ _,h.base,fun c hc=>?_,sZ.2 ⟨h.apart,SN B M w,fun c hc d hd=>?_⟩⟩
 ·rcases dz.1 hc with hc|hc
  ·exact h.all c hc
  ·obtain⟨k,o,h1,h2,h3,rfl⟩:=Ff.1 hc;exact⟨h1,h2⟩
 ·obtain⟨k,o,h1,h2,h3,rfl⟩:=Ff.1 hd;exact .inr (h3 c hc)
theorem GZ{M':aQ}(h:SL B w0 M w)(h':SL B w (M'++rest B M w) w')(ho:∀c∈M,c.isObj=true→c∈M'):KeepsOthers w w':=by
 refine⟨h'.below.size,fun k o hk hc=>?_⟩;by_cases hB:k<B
 ·rw[h'.below.block k hB];exact hk
 ·by_cases hm:∀d∈M,d.fp≠some k
  ·exact(h'.all _ (nF _ (Ff.2 ⟨k,o,aa,hk,hm,rfl⟩))).2
  ·obtain⟨d,hdm,hf⟩:∃d,d∈M∧d.fp=some k:=by
    refine bH fun hn=>hm fun d h1 h2=>hn ⟨d,h1,h2⟩
   cases hdo:d.isObj with
   |false=>
    obtain⟨o',h4,h5⟩:=(h.all d hdm).cells hdo hf;rw[hk]at h4;cases h4
    rw[hc]at h5;cases h5
   |true=>
    cases d with
    |obj g o'=>
     have e:g=k:=N0 hf;subst e;have h1:w.heap[g]? =some o':=(h.all (.obj g o') hdm).2;rw[hk]at h1;cases h1
     exact(h'.all _ (j9 _ (ho _ hdm hdo))).2
    |_=>cases hdo
theorem SL.abI(h:SL B w0 M w){D:Nat}{o:Obj}(hB:B≤D)(hD:w.heap[D]? =some o)(ho:o.isCells=false)(hm:∀c∈M,c.isObj=true→∀g,c.fp=some g→g<D):SL B w0 (.obj D o::M) w:=by
 refine⟨h.below,h.base,fun c hc=>?_,kE.2 ⟨fun d hd=>.inr fun e=>?_,h.apart⟩⟩
 ·rcases fk.1 hc with rfl|hc
  ·exact⟨hB,hD⟩
  ·exact h.all c hc
 ·have e:d.fp=some D:=e.symm;cases hdo:d.isObj with
  |true=>exact absurd (hm d hd hdo D e) (Nat.lt_irrefl _)
  |false=>
   obtain⟨o',h4,h5⟩:=(h.all d hd).cells hdo e;rw[hD]at h4;cases h4
   rw[ho]at h5;cases h5
end
theorem Lf{C:Cx}{QQ:Exit→Act→World→Prop}{fr:Fr}{L:aQ}{x b y:Code}(h:VC C x (TG C b (Exit.then (y.wp C.P QQ) QQ)) fr L):VG C (.seq (.seq x b) y) QQ fr L:=fun a w ha hs=>
 wp_seq (wp_seq (yj (h a w ha hs) fun e a w ⟨fr,L,ha,hs,hq⟩=>by
  cases e<;>exact hq a w ha hs))
def ak5(B:Nat)(Lk:aQ)(W W':World):Prop:=∀c∈Lk,c.holds B W→c.holds B W'
section
variable{C:Cx}{QQ:Exit→Act→World→Prop}{fr:Fr}{L:aQ}{y body:Code}{α σ:Type}
theorem FV{id r0 p d gf N:Nat}{g:Operand}{lb:cV}{ty:TypeId}{pos:String}{af:Array Edge}(hc:aH C.P gf)(hg:ev fr g=some (.func (.func gf) #[] lb.toArray))(hp:Nat.blt p C.N=true)(hd:Nat.blt d C.N=true)(enc:α→Value)(S Sp:List α→Prop)(Lk:aQ)(amn:∀w,SL C.B C.w0 L w→SeqStopsK Fence.wide 7 C.P gf lb.toArray (fun x=> #[enc x]) (ak5 C.B Lk) S Sp N w)(ok:List α→σ→Prop)(G:List α→σ→aQ)(hGo:∀pre s c,c.isObj=true→(c∈G pre s↔c∈L))(hLk:∀c∈Lk,c.isObj=false∧∀pre s,c∈G pre s)(s0:σ)(h0:ok [] s0)(hg0:Wk L (G [] s0))(aqf:∀l pre x s w1,ok pre s→pre.length<N→Below C.B C.w0 w1→∀F',VR ⟨C.P,C.N,C.B,w1⟩ l 6 body (fun jC L'=>∃s',ok (pre++[x]) s'∧Wk L' (G (pre++[x]) s'++F')) ((d,enc x)::(p,enc x)::fr) (G pre s++F'))(aqk:∀D xs s,S xs→ok xs s→VM C D y QQ fr (.obj D (.deferred (some []))::G xs s)):
  VG C (.block id (.rangeFunc g #[p] (.region r0 [(⟨some d,.assign (.tmp p),ty,pos,af,none⟩:Oper)].toArray false) body)) (Exit.then (y.wp C.P QQ) QQ) fr L:=fun a w ha hs=>by
 have asZ:=hg0.sl hs;have aqw:∀pre s,∀c∈G pre s,c.isObj=true→∀g,c.fp=some g→g<w.heap.size:=fun pre s c hc ho g hg=>((hs.all c ((hGo pre s c ho).1 hc)).lt hg).2;have eg:∀args w,(callFunc gf args).run C.P w= .ok (.enter gf args) w:=fun args w=>by
  obtain⟨fn,cc,h1,h2,h3⟩:=hc;have h2':¬fn.name= "runtime.NumGoroutine" :=by simpa using h2
  simp[callFunc,h1,h2',h3]
 refine wp_block (wpIn_wide.1 (wpIn_rangeFunc_ownF (n:=8) rfl aB (ha.tmp hg) trivial eg (amn w hs) (fun h k c hc hh=>k c hc (h c hc hh)) ?kb (GX _ _) (fun _=>rfl)
  (fun pre W=>∃s,ok pre s∧SL C.B C.w0 (G pre s) W) (fun _ _ _=>False) ?own (fun _ _ _ _ _ h _ _=>h) ⟨s0,h0,asZ⟩ (fun x=>((a.put (some p) (enc x)).put (some d) (enc x))) ?assign ?body ?done ?stop))
 case kb=>
  intro W l o o' hl hW ho _ c hc hh;refine hh.keep fun g hgc=>?_;refine World.putObj_heap_other fun e=>?_;subst e;obtain⟨o2,h4,h5⟩:=hh.cells (hLk c hc).1 hgc;rw[hW]at h4;cases h4
  rw[ho]at h5;cases h5
 case own=>
  rintro pre W W' row ⟨s,lj,nS⟩ hgr hr;exact⟨s,lj,nS.aoe hgr hs.base hr (aqw pre s)⟩
 case assign=>
  intro l x W K hK;refine wpIn_region_lit (wpListIn_plain rfl fun K' hK'=>?_);refine⟨fun _ _=>trivial,?_⟩;rw[Oper.semAt_eq _ _ _ (fun c e=>by cases e)];have e0:({tmps:=(#[p].zip #[enc x]).foldl (fun t (p,v)=>t.setIfInBounds p v) a.tmps,defers:=[]}:Act)=a.put (some p) (enc x):=by
   have:=ha.defers;cases a
   simp_all[Act.put]
  rw[e0];have hev:(a.put (some p) (enc x)).eval (.tmp p)=enc x:=(ha.put hp (enc x)).tmp (by simp[ev,look]);simp only[execOp,hev,GU,Oper.uponIn];exact hK' _ _ hK
 case body=>
  rintro l pre x W ⟨s,lj,nS⟩ fN;refine wj (aqf l pre x s W lj fN nS.below (rest C.B (G pre s) W) _ W ((ha.put hp (enc x)).put hd (enc x)) nS.full) fun e a' W' hq=>?_;cases e with
  |normal=>
   obtain⟨jC,L',zM,Bz,s',asS,YL⟩:=hq;have jF:=YL.sl Bz;have wS:SL C.B C.w0 (G (pre++[x]) s') W':=⟨nS.below.trans jF.below,jF.base,fun c hc=>jF.all c (j9 _ hc),(sZ.1 jF.apart).1⟩
   exact⟨GZ nS jF (fun c hc ho=>(hGo _ _ c ho).2 ((hGo _ _ c ho).1 hc)),fun c hc _=>wS.all c ((hLk c hc).2 _ _),s',asS,wS⟩
  |_=>exact hq.elim
 case done=>
  rintro D xs W hD hS ⟨s,lj,nS⟩ hK;refine aqk D xs s hS lj _ W (by rw[ha.defers];rfl) ?_ (nS.abI (jc hs.base hD) hK rfl (fun c hc ho g hg=>wg (aqw xs s c hc ho g hg) hD));have:({({a with defers:={target:=.collected D,args:= #[]}::a.defers}:Act)with defers:=[]}:Act)=a:=by have:=ha.defers;cases a;simp_all
  rw[this];exact ha
 case stop=>
  rintro D c pre W _ _ h _;exact h.elim
end
end
section
def W5(N:Nat)(QQ:Exit→Fr→World→Prop):Exit→Act→World→Prop:=fun e a w=>∃fr,pR N fr a∧QQ e fr w
def VT(P:Program)(N:Nat)(c:Code)(QQ:Exit→Fr→World→Prop)(fr:Fr)(w:World):Prop:=∀a,pR N fr a→c.wpIn Fence.wide 7 P (W5 N QQ) a w
def VTL(P:Program)(N:Nat)(ops:Array Oper)(QQ:Exit→Fr→World→Prop)(l:sH)(fr:Fr)(w:World):Prop:=∀a,pR N fr a→wpListIn Fence.wide 7 P ops (W5 N QQ) l a w
def TT(P:Program)(N:Nat)(y:Code)(QQ:Exit→Fr→World→Prop):Exit→Fr→World→Prop
 | .normal,fr,w=>VT P N y QQ fr w
 |e,fr,w=>QQ e fr w
def TB(id:Nat)(QQ:Exit→Fr→World→Prop):Exit→Fr→World→Prop
 | .exit i,fr,w=>if i=id then QQ .normal fr w else QQ (.exit i) fr w
 |e,fr,w=>QQ e fr w
def VTQ(P:Program)(N:Nat)(w:World)(ops:Array Oper)(QF:Fr→Prop)(l:sH)(fr:Fr):Prop:=∀a,pR N fr a→wpQuiet P ops (fun w'=>∃n,w'=w.drewN n) (fun a'=>∃jC,pR N jC a'∧QF jC) l a
section
variable{P:Program}{N:Nat}{QQ:Exit→Fr→World→Prop}{QF:Fr→Prop}{fr jC:Fr}{w:World}{x y:Code}{ops:Array Oper}{l:sH}{op:Op}{ty:TypeId}{pos:String}{af:Array Edge}{d:Nat}{v:Value}{B:Nat}{w0:World}{L:aQ}
theorem oc(h:VT P N x (TT P N y QQ) fr w):VT P N (.seq x y) QQ fr w:=fun a ha=>
 wpIn_seq (wj (h a ha) fun e a w ⟨fr,ha,hq⟩=>by cases e<;>first|exact hq a ha|exact⟨fr,ha,hq⟩)
theorem yY{id:Nat}(h:VT P N x (TB id QQ) fr w):VT P N (.block id x) QQ fr w:=fun a ha=>
 wpIn_block (wj (h a ha) fun e a w ⟨fr,ha,hq⟩=>by
  cases e with
  |exit i=>
   unfold Exit.inBlock;unfold TB at hq;simp only at hq⊢;split
   ·rename_i hi;rw[ao hi]at hq;exact⟨fr,ha,hq⟩
   ·rename_i hi;rw[aw hi]at hq;exact⟨fr,ha,hq⟩
  |_=>exact⟨fr,ha,hq⟩)
theorem CT(h:QQ .normal fr w):VT P N .skip QQ fr w:=fun a ha=>wpIn_skip ⟨fr,ha,h⟩
theorem Xb{id:Nat}(h:QQ (.exit id) fr w):VT P N (.exit id) QQ fr w:=fun a ha=>wpIn_exit ⟨fr,ha,h⟩
theorem aga(h:QQ .ret fr w):VT P N .ret QQ fr w:=fun a ha=>wpIn_ret ⟨fr,ha,h⟩
theorem F0{c:Operand}(hc:ev fr c=some (.bool true))(h:VT P N x QQ fr w):VT P N (.cond c x y) QQ fr w:=fun a ha=>wpIn_cond_true (ha.tmp hc) (h a ha)
theorem FZ{c:Operand}(hc:ev fr c=some (.bool false))(h:VT P N y QQ fr w):VT P N (.cond c x y) QQ fr w:=fun a ha=>wpIn_cond_false (ha.tmp hc) (h a ha)
theorem Jk{c:Operand}{p:Prop}[Decidable p](hc:ev fr c=some (.bool (decide p)))(ht:p→VT P N x QQ fr w)(hf:¬p→VT P N y QQ fr w):VT P N (.cond c x y) QQ fr w:=by
 by_cases hp:p
 ·exact F0 (by rw[hc,jT hp]) (ht hp)
 ·exact FZ (by rw[hc,lu hp]) (hf hp)
theorem j_(h:VT P N y QQ fr w):TT P N y QQ .normal fr w:=h
theorem W6{i:Nat}(h:QQ (.exit i) fr w):TT P N y QQ (.exit i) fr w:=h
theorem WS{id:Nat}(h:QQ .normal fr w):TB id QQ (.exit id) fr w:=by unfold TB;simp only[if_true];exact h
theorem lY{id:Nat}{s8:sH}(h:VTL P N s8.toArray QQ s8 fr w):VT P N (.region id s8.toArray false) QQ fr w:=fun a ha=>wpIn_region_lit (h a ha)
theorem nw(jC:Fr)(hs:Sub fr jC)(h:QQ .normal jC w):VTL P N ops QQ [] fr w:=fun a ha=>wpListIn_nil ⟨jC,ha.sub hs,h⟩
theorem cJ(hs:SL B w0 L w)(h:gF ⟨P,N,B,w0⟩ fr L op ty v)(hn:AA ⟨some d,op,ty,pos,af,none⟩=true)(hd:Nat.blt d N=true)(k:VTL P N ops QQ l ((d,v)::fr) w):VTL P N ops QQ (⟨some d,op,ty,pos,af,none⟩::l) fr w:=fun a ha=>
 wpListIn_plain rfl fun K hK=>by
  refine⟨fun _ _=>trivial,?_⟩;rw[Oper.semAt_eq _ _ _ (Ou hn),h a w ha hs];exact hK _ _ (k _ (ha.put hd v))
theorem Jl{g x:Operand}{Cq:Array TypeId}{yl:Nat}{u:Value}{T F:World→Prop}(hg:ev fr g=some (.func (.yield yl) #[] #[]))(hx:ev fr x=some u)(hy:YieldAt Fence.wide 6 P yl #[u] w fun e w'=>(e= .returned (.bool true)∧T w')∨(e= .returned (.bool false)∧F w'))(hd:Nat.blt d N=true)(kt:∀w',T w'→VTL P N ops QQ l ((d,.bool true)::fr) w')(kf:∀w',F w'→VTL P N ops QQ l ((d,.bool false)::fr) w'):
  VTL P N ops QQ (⟨some d,.call {callee:=.value g,args:= #[x],argTypes:=Cq},ty,pos,af,none⟩::l) fr w:=fun a ha=>
 wpListIn_plain rfl fun K hK=>by
  obtain⟨fn,tmps,assign,body,h1,h2⟩:=hy;refine⟨fun _ _=>trivial,?_⟩;rw[Oper.semAt_eq _ _ _ (fun c e=>by cases e)];have he:(execOp a.eval ⟨some d,.call {callee:=.value g,args:= #[x],argTypes:=Cq},ty,pos,af,none⟩).run P w= .ok (.round yl fn tmps assign body) w:=by
   have hg':=ha.tmp hg;have hx':=ha.tmp hx;simp[execOp,resolve,hg',hx',Deferred.ofValue,invoke,h1]
  rw[he];refine⟨fun h=>by simp[Fence.wide]at h,h2.mono fun e w' hh=>?_⟩;rcases hh with⟨rfl,hT⟩|⟨rfl,hF⟩
  ·exact hK _ _ (kt w' hT _ (ha.put hd _))
  ·exact hK _ _ (kf w' hF _ (ha.put hd _))
theorem F2{id:Nat}{s8:sH}(hm:P.follows .mixedOrders=true)(hB:Region.lexB .any s8.toArray=true)(h:VTQ P N w s8.toArray (fun jC=>∀n,QQ .normal jC (w.drewN n)) s8 fr):VT P N (.region id s8.toArray true) QQ fr w:=fun a ha=>by
 refine wpIn_wide.2 (wp_region_quiet_lit hm hB ?_);have NC:∀(l:sH) (a:Act) {ops:Array Oper} {Q Q':Act→Prop},(∀a,Q a→Q' a)→wpQuiet P ops (fun w'=>∃n,w'=w.drewN n) Q l a→wpQuiet P ops (fun w'=>∃n,w'=w.drewN n) Q' l a:=by
  intro l;induction l with
  |nil=>intro a ops Q Q' hq h;exact hq _ h
  |cons o l ih=>
   intro a ops Q Q' hq h;unfold wpQuiet at h⊢;split
   ·rename_i hw;rw[ao hw]at h;exact Oper.quiet_mono (fun a h=>ih a hq h) h
   ·rename_i hw;rw[aw hw]at h;exact ih _ hq h
 exact NC s8 a (fun a' ⟨jC,h1,h2⟩ w' ⟨n,hn⟩=>⟨jC,h1,hn▸h2 n⟩) (h a ha)
theorem Xd(jC:Fr)(hs:Sub fr jC)(h:QF jC):VTQ P N w ops QF [] fr:=fun a ha=>wpQuiet_nil ⟨jC,ha.sub hs,h⟩
theorem ke(hs:SL B w0 L w)(h:gF ⟨P,N,B,w0⟩ fr L op ty v)(hd:Nat.blt d N=true)(k:VTQ P N w ops QF l ((d,v)::fr)):VTQ P N w ops QF (⟨some d,op,ty,pos,af,none⟩::l) fr:=fun a ha=>
 wpQuiet_step fun K hK=>by
  rw[ao (by rfl)];refine⟨v,fun w' GP=>?_,hK _ (k _ (ha.put hd v))⟩;obtain⟨n,rfl⟩:=GP;unfold Oper.quietAt;rw[h a _ ha (hs.drewN n)];exact⟨rfl,rfl⟩
def aeV(t:Nat)(a:Act):Nat:=match a.tmps[t]? with
 |some (.int _ z)=>z.toNat
 |_=>0
theorem Xc(ok:Nat→World→Prop)(F:Nat→Fr)(t M:Nat)(pos:Nat→Nat)(tZ:∀i,look t (F i)=some (ah (pos i:Nat)))(i0:Nat)(h0:ok i0 w)(hf:Sub fr (F i0))(round:∀i w,ok i w→VT P N x (fun e fr w=>match e with| .normal=>∃i',ok i' w∧M-pos i'<M-pos i∧Sub fr (F i')|e=>QQ e fr w) (F i) w):VT P N (.loop x) QQ fr w:=fun a ha=>by
 have hm:∀i a,pR N (F i) a→aeV t a=pos i:=fun i a ha=>by
  unfold aeV;rw[ha.at_ _ _ (tZ i)];simp
 refine wpIn_loop (fun a w=>∃i,ok i w∧pR N (F i) a) (fun a w=>M-aeV t a) ⟨i0,h0,ha.sub hf⟩ ?_;rintro a w ⟨i,e2,e3⟩;refine wj (round i w e2 a e3) fun e a' w' ⟨jC,zM,hq⟩=>?_;cases e with
 |normal=>
  obtain⟨i',k1,k2,k3⟩:=hq;refine⟨⟨i',k1,zM.sub k3⟩,?_⟩;rw[hm i a e3,hm i' a' (zM.sub k3)];exact k2
 |_=>exact⟨jC,zM,hq⟩
end
end
section
section
variable{C:Cx}{fr:Fr}{L:aQ}{x y z u:Operand}{t ty e:TypeId}{m n q:Int}{k:IntKind}
theorem Gr{P:Prop}(h:P:=by(repeat (first|exact .hd|apply mG.tl))):P:=h
theorem vS{A:bj}{nn c i j size:Nat}{k' k2:IntKind}(ht:C.P.underlying t=some (.slice e))(hz:(C.P.info? e).map (·.size)=some size)(he:ev fr x=some (.slice A nn c))(hy:ev fr y=some (.int k m))(hm:m=(i:Int))(vG:ev fr z=some (.int k' n))(hn:n=(j:Int))(hu:ev fr u=some (.int k2 q))(hq:q=(j:Int))(Iq:i<j)(hj:j≤c):
  gF C fr L (.slice t x (some y) (some z) (some u)) ty (.slice (A.map (·.add (i*size))) (j-i) (j-i)):=fun a w ha hw d pos af gg=>by
 subst hm;subst hn;subst hq;have h1:¬j=i:=by omega
 have h2:i≤j:=by omega
 simp[execOp,Instr.sliceAt,Instr.slice,Instr.sliceBounds,Instr.sliceBound,asIntOf,iP ht,ha.tmp he,ha.tmp hy,ha.tmp vG,ha.tmp hu,h1,h2,hj,GR hz]
end
def xn(sz n i:Nat):Nat:=min sz (n-i*sz)
def Gu(A:bj)(sz n i:Nat):Value:=.slice (A.map (·.add (i*sz))) (xn sz n i) (xn sz n i)
def gR(sz n:Nat):Nat:=(n+(sz-1))/sz
theorem nU{sz n i:Nat}(h:1≤sz):i<gR sz n↔i*sz<n:=by
 unfold gR;rw[Nat.lt_iff_add_one_le,Nat.le_div_iff_mul_le aa,j8];omega
theorem TW{N:Nat}{args:cV}{fr0:Fr}(hl:args.length≤N)(hi:Ini N args fr0):pR N fr0 {tmps:=args.toArray++Array.replicate (N-args.toArray.size) undef,defers:=[]}:=by
 refine⟨rfl,bR,fun t v ht=>?_⟩;obtain⟨h1,h2⟩:=hi.look t v ht;simp only[wW];by_cases fN:t<args.length
 ·rw[Array.getElem?_append_left Hs];simp[fN]at h2;simp[fN,h2]
 ·rw[Array.getElem?_append_right Hs];have h3:args[t]? =none:=zX aa;simp[h3]at h2;subst h2;simp;rw[Array.getElem?_replicate,ao aa]
def TE(A B:World→Prop):Exit→Fr→World→Prop
 | .normal,_,w| .ret,_,w=>A w∨B w
 |_,_,_=>False
theorem MA{B g2 g3:Nat}{A:bj}{n c sz:Nat}(iZ:1≤sz)(jF:sz≤1000)(hn:n≤1000000000000000)(hnc:n≤c)(hg:g2≠g3)(w:World)(h2:(Ch.bE g2 87 [.slice A n c]).holds B w)(h3:(Ch.bE g3 3 [ah sz]).holds B w):
  SeqStopsK Fence.wide 7 Tryz.prog 209 [br g2,br g3].toArray (fun x:Fin (gR sz n)=> #[Gu A sz n x.val])
   (ak5 B [.bE g2 87 [.slice A n c],.bE g3 3 [ah sz]]) (fun xs=>xs.map (·.val)=List.range (gR sz n)) (fun _=>True) (gR sz n) w:=by
 intro l J Jx W hW hJ hJx hY h0;have nS:∀w:World,(∀q∈[Ch.bE g2 87 [.slice A n c],.bE g3 3 [ah sz]],q.holds B w)→SL 0 w [Ch.bE g2 87 [.slice A n c],.bE g3 3 [ah sz]] w:=fun w h=>by
  refine⟨GX _ _,bS _,fun c hc=>?_,kE.2 ⟨fun d hd=>?_,kE.2 ⟨fun _ h=>kl,List.Pairwise.nil⟩⟩⟩
  ·have:=h c hc;simp only[fk,mv,oj]at hc;rcases hc with rfl|rfl<;>exact⟨bS _,this.2⟩
  ·rw[lJ.1 hd];exact .inr fun e=>hg (N0 e)
 have amd:=(h2.lt rfl).2;have ame:=(h3.lt rfl).2;have hW0:∀q∈[Ch.bE g2 87 [.slice A n c],.bE g3 3 [ah sz]],q.holds B W:=by
  intro c hc;simp only[fk,mv,oj]at hc;rcases hc with rfl|rfl
  ·exact h2.keep fun g hg=>by cases hg;exact hW.block _ amd
  ·exact h3.keep fun g hg=>by cases hg;exact hW.block _ ame
 have YA:∀pre (w:World) k,J pre w→J pre (w.drewN k):=fun pre w k h=>hJ pre w _ none h (qD w k) (fun r e=>by cases e);generalize hLk:[Ch.bE g2 87 [.slice A n c],.bE g3 3 [ah sz]]=Lk at*;refine callsIn_of_wp func209 rfl trivial (wj (Q:=W5 31 (TE (fun w=>∃xs:List (Fin (gR sz n)),xs.map (·.val)=List.range (gR sz n)∧J xs w) (fun w=>∃pre,True∧Jx pre w))) ?_ ?_) rfl
 ·have ha:=TW (N:=31) (args:=[.func (.yield l) #[] #[],br g2,br g3]) (fr0:=[(0,.func (.yield l) #[] #[]),(1,br g2),(2,br g3)]) ak ⟨⟨rfl,rfl⟩,⟨rfl,rfl⟩,⟨rfl,rfl⟩,trivial⟩;refine(?_ :VT Tryz.prog 31 _ _ _ W) _ ha;refine oc (lY ?_);refine cJ (nS W hW0) (lH rfl) rfl rfl ?_;refine nw [(0,_),(1,_),(2,_),(4,_)] ⟨rfl,rfl,rfl,rfl,trivial⟩ ?_;refine j_ (yY ?_);refine Xc (fun i w=>i≤gR sz n∧(∀c∈Lk,c.holds B w)∧∃pre:List (Fin (gR sz n)),pre.map (·.val)=List.range i∧J pre w) (fun i=>[(0,.func (.yield l) #[] #[]),(1,br g2),(2,br g3),(4,ah ((i*sz:Nat):Int))]) 4 (n+sz) (fun i=>i*sz) (fun i=>rfl) 0 ⟨bS _,hW0,[],rfl,h0⟩ ⟨rfl,rfl,rfl,by rw[se];rfl,trivial⟩ ?_;rintro i w ⟨hi,hh,pre,Ef,hJp⟩;have hs:=nS w hh;rw[←hLk]at hs;refine oc (oc (lY ?_));refine cJ hs (dV rfl) rfl rfl ?_;refine cJ hs (bM ag rfl Gr rfl) rfl rfl ?_;refine cJ hs (pg underlying87 rfl) rfl rfl ?_;refine cJ hs (xN rfl rfl) rfl rfl ?_;refine nw [(0,_),(1,_),(2,_),(4,_),(9,_)] ⟨rfl,rfl,rfl,rfl,rfl,trivial⟩ ?_;refine j_ (Jk rfl (fun fN=>?_) (fun fN=>?_))
  ·refine CT ?_;have YF:i*sz<n:=by omega
   have hiN:=(nU iZ).2 YF;have hlen:pre.length<gR sz n:=by
    have:=dB List.length Ef;simp at this;omega
   have hE1:1≤xn sz n i:=by unfold xn;omega
   have hE2:xn sz n i≤sz:=by unfold xn;omega
   have hE3:i*sz+xn sz n i≤n:=by unfold xn;omega
   have hss:(i+1)*sz=i*sz+sz:=j8 i sz;refine j_ (oc (yY (oc (F2 ag ag ?_))));refine ke hs (bM ag rfl Gr rfl) rfl ?_;refine ke hs (bM ag rfl Gr rfl) rfl ?_;refine ke hs (dV rfl) rfl ?_;refine ke hs (bQ (i:=i*sz) (size:=1) underlying87 ag rfl rfl rfl aa) rfl ?_;refine ke hs (pg underlying87 rfl) rfl ?_;refine ke hs (xO rfl rfl) rfl ?_;refine ke hs (lH rfl) rfl ?_;rw[show min (sz:Int) ((n-i*sz:Nat):Int)=((xn sz n i:Nat):Int) by unfold xn;omega];refine Xd [(0,_),(1,_),(2,_),(4,_),(5,_)] ⟨rfl,rfl,rfl,rfl,rfl,trivial⟩ ?_;intro kd;have hJd:=YA pre w kd hJp;have wP:∀c∈Lk,c.holds B (w.drewN kd):=fun c hc=>(hh c hc).keep fun g hg=>rfl;clear hh hJp hs;generalize w.drewN kd=w at*;have hs:=nS w wP;rw[←hLk]at hs;refine j_ (oc (lY ?_));refine cJ hs (dV rfl) rfl rfl ?_;refine cJ hs (bM ag rfl Gr rfl) rfl rfl ?_;refine cJ hs (dV rfl) rfl rfl ?_;refine cJ hs (dV rfl) rfl rfl ?_;refine cJ hs (dV rfl) rfl rfl ?_;refine cJ hs (bX rfl rfl (bF aa aa)) rfl rfl ?_;refine cJ hs (dV rfl) rfl rfl ?_;refine cJ hs (dV rfl) rfl rfl ?_;refine cJ hs (bX rfl rfl (bF aa aa)) rfl rfl ?_;refine cJ hs (vS (i:=i*sz) (j:=i*sz+xn sz n i) (size:=1) underlying87 ag rfl rfl rfl rfl aa rfl aa aa aa) rfl rfl ?_;rw[cE,yg];refine Jl (u:=Gu A sz n i) rfl rfl (hY pre ⟨i,hiN⟩ w hJd hlen) rfl ?_ ?_
   ·rintro w' ⟨hJ',hK⟩;have hh':∀c∈Lk,c.holds B w':=fun c hc=>hK c hc (wP c hc);have hs:=nS w' hh';rw[←hLk]at hs;refine cJ hs (zu rfl) rfl rfl ?_;refine nw [(0,_),(1,_),(2,_),(4,_),(30,_)] ⟨rfl,rfl,rfl,rfl,rfl,trivial⟩ ?_;refine j_ (FZ rfl (CT ?_));refine j_ (lY ?_);refine cJ hs (dV rfl) rfl rfl ?_;refine cJ hs (bM ag rfl Gr rfl) rfl rfl ?_;refine cJ hs (bX rfl rfl (r:=(((i+1)*sz:Nat):Int)) ((bF aa aa).trans aa)) rfl rfl ?_;refine cJ hs (lH rfl) rfl rfl ?_;refine nw [(0,_),(1,_),(2,_),(4,_)] ⟨rfl,rfl,rfl,rfl,trivial⟩ ?_;exact⟨i+1,⟨hiN,hh',pre++[⟨i,hiN⟩],by rw[ja,Ef,lq];rfl,hJ'⟩,aa,rfl,rfl,rfl,rfl,trivial⟩
   ·intro w' hJ';have CD:SL w'.heap.size w' [] w':=SL.Az w';refine cJ CD (zt rfl) rfl rfl ?_;refine nw [(30,_)] ⟨rfl,trivial⟩ ?_;refine j_ (F0 rfl (aga ?_));exact .inr ⟨_,trivial,hJ'⟩
  ·refine Xb ?_;refine W6 ?_;show TB 0 _ (Exit.exit 0) _ _;refine WS ?_;have wN:¬i<gR sz n:=fun h=>fN (by have:=(nU iZ).1 h;omega);obtain rfl:i=gR sz n:=by omega
   exact .inl ⟨pre,Ef,hJp⟩
 ·rintro e a w ⟨fr,ha,hq⟩;cases e<;>first
   |exact hq.elim
   |exact⟨ha.defers,_,results_none rfl _ _ _,⟨_,rfl⟩,hq⟩
end
theorem aok{P:Prop}(h:P:=by(exact eU (by first|exact fun h=>absurd h.1 (by assumption)|exact fun h=>absurd h.2.1 (by omega)|exact⟨fun h=>⟨by assumption,by omega,h⟩,fun h=>h.2.2⟩))):P:=h
theorem b_5{P:Prop}(h:P:=by(exact eU (by first|exact fun h=>absurd ((mx s r k hk).1 h).1.1 (by omega)|exact fun h=>absurd ((mx s r k hk).1 h).1.2 (by omega)|exact⟨fun h=>(mx s r k hk).2 ⟨⟨by omega,by omega⟩,qf.1 (by omega)⟩,fun h=>by rw[((mx s r k hk).1 h).2]⟩))):P:=h
theorem QW(was s:cj):a_ B w0 208 [.string ⟨was.toArray⟩,.string ⟨s.toArray⟩] F (fun r L=>r= .bool (decide (uw was s))∧L=F):=by
 refine fw func208 17 [0,1] ?_;refine bK ?_;refine bU 12 16 [] (uw was s) ?_ ?_
 ·refine aF ?_;refine ab (HY (r:=[]) rfl rfl) rfl ?_;refine aF ?_;refine cM (fun h7=>?_) fun h7=>?_
  ·refine bK ?_;refine cM (fun mD=>?_) fun mD=>?_
   ·refine b8 ?_;refine ab (QS rfl rfl) rfl ?_;refine aF ?_;exact aP (by exact dN (by first|exact fun h=>absurd h.1 (by assumption)|exact fun h=>absurd h.2.1 (by omega)|exact⟨fun h=>⟨by assumption,by omega,h⟩,fun h=>h.2.2⟩))
   ·refine bA ?_;exact aP aok
  ·refine bI ?_;exact aP aok
 ·refine bG ?_;exact⟨rfl,rfl⟩
theorem UI(s r:cj)(hs:s.length≤1000000000000000):a_ B w0 210 [.string ⟨s.toArray⟩,.string ⟨r.toArray⟩] F (fun v L=>v=ah (qk s r)∧L=F):=by
 have hle:=(z_ s r).1;refine fw func210 28 [0,1] ?_;refine cH ?_;refine aE (fun zf zL zm=>∃(k:Nat),(k≤qk s r)∧qk s r-k=zm∧Sub zf [(0,.string ⟨s.toArray⟩),(1,.string ⟨r.toArray⟩),(5,ah k)]∧Wk zL (F)) _ ⟨0,bS _,rfl,bp,.refl _⟩ ?_;rintro _ _ _ ⟨k,hk,rfl,hs,hp⟩;refine aU hs hp ?_;clear hs hp;refine bA ?_;refine Cy 19 24 [0,1,5] (k<qk s r) ?_ ?_
 ·refine bG ?_;refine nk rfl rfl rfl (fun jx=>?_) (fun jx=>?_)
  ·refine bO ?_;refine nk rfl rfl rfl (fun ki=>?_) (fun ki=>?_)
   ·refine b8 ?_;refine bZ (rY underlying9 rfl rfl rfl aa) rfl ?_;refine bG ?_;refine bZ (rY underlying9 rfl rfl rfl aa) rfl ?_;refine bA ?_;exact qC (by exact dN (by first|exact fun h=>absurd ((mx s r k hk).1 h).1.1 (by omega)|exact fun h=>absurd ((mx s r k hk).1 h).1.2 (by omega)|exact⟨fun h=>(mx s r k hk).2 ⟨⟨by omega,by omega⟩,qf.1 (by omega)⟩,fun h=>by rw[((mx s r k hk).1 h).2]⟩))
   ·refine bK ?_;exact qC b_5
  ·refine dc ?_;exact qC b_5
 ·refine be ?_;refine aj (fun oh=>?_) fun oh=>?_
  ·refine bO ?_;refine av ⟨_,aa,k+1,aa,rfl,bp,.refl _⟩
  ·refine dc ?_;exact⟨by rw[show k=qk s r by omega],rfl⟩
theorem agZ{sz:Nat}(iZ:1≤sz):a_ B w0 148 [.slice A n c,ah sz] F (fun v L=>∃g2 g3,v= .func (.func 209) #[] #[br g2,br g3]∧L= .bE g3 3 [ah sz]:: .bE g2 87 [.slice A n c]::F):=by
 refine fw func148 9 [0,1] ?_;refine be ?_;refine bh fun g2=>?_;refine bh fun g3=>?_;refine bB ?_;refine dm fun h6=>?_;refine bB ?_;exact⟨_,_,rfl,rfl⟩
theorem xu{P:eh}{l:al}(hb:aK B w0 F 1 (.slice A n c) n P.Co)(hP:∀x∈P,aK B w0 F 1 x.1 x.2.length (bv x.2))(hn:n=P.length)(mJ:P.all=l)(hlen:l.length≤1099511627776)(D9:P.length≤1099511627776):
  a_ B w0 52 [.slice A n c] F (fun r L=>∃A' c',r= .slice A' l.length c'∧L= .own 5 1 A' l.length c' (bv l)::F):=by
 subst mJ;exact dL.AD fun w hw=>ajJ (B:=w.heap.size) w hn (hb w hw) (fun x hx=>hP x hx w hw) (gi _) hlen D9
theorem MS{l:List cj}(hb:aK B w0 F 1 (.slice A l.length c) l.length (strs l))(hl:l.length≤1000000000000000):
  a_ B w0 147 [.slice A l.length c] F (fun r L=>r= .bool (decide (kY l))∧L=F):=by
 refine fw func147 21 [0] ?_;refine zI ?_;refine aE (fun zf zL zm=>∃(k:Nat),(k≤l.length∧∀i,i<k→uw (ft l i) (l.getD i []))∧l.length-k=zm∧Sub zf [(0,.slice A l.length c),(3,.string ⟨(ft l k).toArray⟩),(6,.slice A l.length c),(7,ah l.length),(8,ah k)]∧Wk zL (F)) _ ⟨0,⟨bS _,fun i h=>absurd h aa⟩,rfl,bp,.refl _⟩ ?_;rintro _ _ _ ⟨k,⟨hk,hm⟩,rfl,hs,hp⟩;refine aU hs hp ?_;clear hs hp;refine bz ?_;refine aj (fun h9=>?_) fun h9=>?_
 ·refine jQ ?_;refine ai rfl (QW (ft l k) (l.getD k [])) ?_;refine bA ?_;refine aj (fun kL=>?_) fun kL=>?_
  ·refine dc ?_;exact⟨by rw[lu (fun h=>kL (h.1 k aa))],rfl⟩
  ·have hmk:uw (ft l k) (l.getD k []):=jG.1 kL;refine cH ?_;rw[←IZ];refine av ⟨_,aa,k+1,⟨aa,fun i hi=>by
    by_cases e:i=k
    ·rw[e];exact hmk
    ·exact hm i aa⟩,rfl,bp,.refl _⟩
 ·refine jk ?_;have e:k=l.length:=by omega
  subst e;exact⟨by rw[sc.2 (show((l.length:Int)≤1048576)↔kY l from⟨fun h=>⟨hm,aa⟩,fun h=>(by have:=h.2;omega)⟩)],rfl⟩
theorem xS{s:cj}(h:s.length≤1000000):(fo s).length≤s.length+10:=by
 have:=aT (x:=s.length) aa;unfold fo;rw[aY];omega
theorem rE:∀(was:cj) (r:List cj),(∀s∈r,s.length≤25)→(iD was r).length≤r.length*45
 |_,[],_=>by simp[iD]
 |was,s::r,h=>by
  have h1:=rE s r (fun x hx=>h x oe);have h2:=h s ak;have h3:(fo (s.drop (qk was s))).length≤35:=by
   have:=xS (s:=s.drop (qk was s)) kU;rw[iG]at this;omega
  have h4:(aS (qk was s)).length≤10:=aT (by have:=(z_ was s).2;omega);rw[iD,aY,aY,ef,j8];omega
theorem FE:∀(t:cj) (r:List cj) (k:Nat),k<r.length→iD t (r.take (k+1))=iD t (r.take k)++(aS (qk ((t::r).getD k []) (r.getD k []))++fo ((r.getD k []).drop (qk ((t::r).getD k []) (r.getD k []))))
 |_,[],_,h=>absurd h ak
 |t,s::r,0,_=>by simp[iD]
 |t,s::r,k+1,h=>by
  have:=FE s r k ny;rw[rh,iD,this,rh,iD];simp only[BE,bV]
theorem abj{t:cj}{r:List cj}(hb:aK B w0 F 1 (.slice A (r.length+1) c) (r.length+1) (strs (t::r)))(hl:r.length≤1000)(vV:∀s∈t::r,s.length≤25):
  a_ B w0 149 [.slice A (r.length+1) c] F (fun v L=>∃A' c',v= .slice A' (dC (t::r)).length c'∧L= .own 5 1 A' (dC (t::r)).length c' (bv (dC (t::r)))::F):=by
 have ht:=vV t ak;have hcut:=hb.cut (k:=1) aa;rw[wh,show(strs (t::r)).drop (1*1)=strs r from rfl]at hcut;obtain⟨A9,hA9⟩:=cK ((if c=1 then A else A.map (·.add (1*1))));obtain⟨c9,hc9⟩:=cK (c-1);rw[←hA9,←hc9]at hcut;have e0:(fo t++iD t (r.take 0)).length=(fo t).length:=by simp[iD]
 refine fw func149 37 [0] ?_;refine bI ?_;refine ab (aC (i:=0) (size:=1) underlying87 ag rfl rfl rfl aa aA) rfl ?_;refine ab (gN (b:=t::r) ag rfl aA aa) rfl ?_;refine ay rfl (K8 t aa) fun wu F8=>?_;refine bK ?_;refine ab (bQ (i:=1) (size:=1) underlying87 ag rfl rfl rfl aa) rfl ?_;rw[wh,←hA9,←hc9];refine bG ?_;refine aE (fun zf zL zm=>∃(k:Nat) (A3:bj) (c3:Nat),(k≤r.length)∧r.length-k=zm∧Sub zf [(0,.slice A (r.length+1) c),(3,.slice A3 (fo t++iD t (r.take k)).length c3),(12,.slice A9 r.length c9),(13,ah r.length),(14,ah k)]∧Wk zL (.own 5 1 A3 (fo t++iD t (r.take k)).length c3 (bv (fo t++iD t (r.take k)))::F)) _ ⟨0,wu,F8,bS _,rfl,bp,ax (by simp[iD]) (by simp[iD]) (.refl _)⟩ ?_;rintro _ _ _ ⟨k,A3,c3,hk,rfl,hs,hp⟩;refine aU hs hp ?_;clear hs hp;refine bz ?_;refine aj (fun kL=>?_) fun kL=>?_
 ·have Cb:((t::r).getD k []).length≤25:=vV _ (by rw[bk,fm (show k<(t::r).length by simp;omega)];exact ub _);have LF:(r.getD k []).length≤25:=vV _ (by simp[bk,fm (show k<r.length by omega)]);have fN:=rE t (r.take k) (fun s hs=>vV s (lr _ (l6 hs)));rw[eS,zb aa]at fN;have hle:=z_ ((t::r).getD k []) (r.getD k []);have aqo:k*45≤1000*45:=oA _ aa;have Ce:=xS (s:=t) aa;refine bI ?_;refine ab (gN (b:=r) ag rfl aA aa) rfl ?_;refine bI ?_;refine ab (aC (i:=k) (size:=1) underlying87 ag rfl rfl rfl aa aA) rfl ?_;refine ab (gN (b:=t::r) ag rfl aA aa) rfl ?_;refine aF ?_;refine ai rfl (UI ((t::r).getD k []) (r.getD k []) aa) ?_;refine bA ?_;refine cF (.own 5 1 A3 (fo t++iD t (r.take k)).length c3 (bv (fo t++iD t (r.take k)))::F) ?_;refine ae 0 ?_;refine ae 1 ?_;refine ae 2 ?_;refine ae 4 ?_;refine ae 5 ?_;refine aW 6 rfl (QT underlying9 rfl rfl rfl aa) ?_;refine az 3 ?_;refine b7 rfl rfl (iO (qk ((t::r).getD k []) (r.getD k [])) aa) fun Bh Bp=>?_;refine az 7 ?_;refine b7 rfl rfl (K8 ((r.getD k []).drop (qk ((t::r).getD k []) (r.getD k []))) kU) fun LO Mt=>?_;refine az 8 ?_;refine cR rfl (aG fE [_,_,_] rfl rfl cw aa aa) fun PS=>?_;refine az 9 ?_;refine b7 rfl rfl (xu (l:=fo t++iD t (r.take (k+1))) (P:=[(.slice A3 (fo t++iD t (r.take k)).length c3,fo t++iD t (r.take k)),(.slice Bh (aS (qk ((t::r).getD k []) (r.getD k []))).length Bp,aS (qk ((t::r).getD k []) (r.getD k []))),(.slice LO (fo ((r.getD k []).drop (qk ((t::r).getD k []) (r.getD k [])))).length Mt,fo ((r.getD k []).drop (qk ((t::r).getD k []) (r.getD k []))))]) aA aou rfl (by rw[FE t r k aa];simp[eh.all,bV]) (by rw[aY];have:=rE t (r.take (k+1)) (fun s hs=>vV s (lr _ (l6 hs)));rw[eS]at this;omega) ak) fun wv xm=>?_;refine ae 10 ?_;refine cQ [0,3,12,13,14] ?_;refine bz ?_;refine av ⟨_,aa,k+1,wv,xm,aa,rfl,bp,.cons (.skip (.skip (.skip (.skip (.refl _)))))⟩
 ·refine cH ?_;obtain rfl:k=r.length:=by omega
  rw[jS];refine aF ?_;exact⟨A3,c3,rfl,rfl⟩
theorem aoI{P:Prop}(h:P:=by(show(ad.add (i*sz)).block<_;unfold Addr.add;split<;>exact h4)):P:=h
theorem b_2{P:Prop}(h:P:=by(first|rfl|exact ej (by first|exact .inl (by omega)|exact .inr (.inl (by omega))|exact⟨fun h=>.inr (.inr h),fun h=>by rcases h with h|h|h<;>first|omega|exact h⟩)|exact eU (by first|exact .inl (by omega)|exact .inr (.inl (by omega))|exact⟨fun h=>.inr (.inr h),fun h=>by rcases h with h|h|h<;>first|omega|exact h⟩)|exact dN (by first|exact .inl (by omega)|exact .inr (.inl (by omega))|exact⟨fun h=>.inr (.inr h),fun h=>by rcases h with h|h|h<;>first|omega|exact h⟩)|exact oE (by first|exact .inl (by omega)|exact .inr (.inl (by omega))|exact⟨fun h=>.inr (.inr h),fun h=>by rcases h with h|h|h<;>first|omega|exact h⟩))):P:=h
theorem aoy{P:Prop}(h:P:=by(have:=(kE.1 hw.apart).1 _ rn;subst e;rcases this with h|h<;>simp[Ch.fp]at h)):P:=h
theorem aoz{P:Prop}(h:P:=by(intro y hy;simp only[fk,mv,oj]at hy;rcases hy with rfl|rfl<;>exact aA)):P:=h
theorem wk:type_of% @List.length_range:= @List.length_range
def ck(l:List cj)(sz i:Nat):List cj:=(l.drop (i*sz)).take sz
def ll(l:List cj)(sz:Nat)(ks:bf):al:=ks.flatMap fun i=>aS (dC (ck l sz i)).length
def iV(l:List cj)(sz:Nat)(ks:bf):al:=ks.flatMap fun i=>dC (ck l sz i)
def fQ(sz:Nat)(l:List cj):al:=(aS l.length++ll l sz (List.range (gR sz l.length)))++iV l sz (List.range (gR sz l.length))
theorem QH(l:List cj)(sz i:Nat):(ck l sz i).length=xn sz l.length i:=by simp[ck,xn]
theorem kY.le{l:List cj}(h:kY l):∀s∈l,s.length≤25:=fun s hs=>by
 obtain⟨i,hi,rfl⟩:=j0 hs;have:=(h.1 i hi).2.1
 rwa [bk,fm hi]at this
theorem zl{l:List cj}{sz i:Nat}{s:cj}(h:s∈ck l sz i):s∈l:=rk (l6 h)
theorem tK{l:List cj}(hl:l.length≤64)(h:∀s∈l,s.length≤25):(dC l).length≤3000:=by
 cases l with
 |nil=>simp[dC]
 |cons t r=>
  have h1:=rE t r (fun s hs=>h s (by simp[hs]));have h2:=xS (s:=t) (by have:=h t ak;omega);have h3:=h t ak;have:r.length*45≤64*45:=oA _ (by simp at hl;omega);rw[dC,aY];omega
theorem uT{l:List cj}{sz:Nat}(iZ:sz≤64)(h:∀s∈l,s.length≤25):∀ks:bf,(iV l sz ks).length≤ks.length*3000
 |[]=>by simp[iV]
 |k::ks=>by
  have h1:=uT iZ h ks;have h2:=tK (l:=ck l sz k) (by rw[QH];unfold xn;omega) (fun s hs=>h s (zl hs));simp only[iV,jI,aY,ef,j8]at h1⊢;omega
theorem q8{l:List cj}{sz:Nat}(iZ:sz≤64)(h:∀s∈l,s.length≤25):∀ks:bf,(ll l sz ks).length≤ks.length*10
 |[]=>by simp[ll]
 |k::ks=>by
  have h1:=q8 iZ h ks;have h2:=tK (l:=ck l sz k) (by rw[QH];unfold xn;omega) (fun s hs=>h s (zl hs));have h3:(aS (dC (ck l sz k)).length).length≤10:=aT aa;simp only[ll,jI,aY,ef,j8]at h1⊢;omega
theorem De(l:List cj)(sz:Nat)(ks:bf)(k:Nat):iV l sz (ks++[k])=iV l sz ks++dC (ck l sz k):=by simp[iV]
theorem Rt(l:List cj)(sz:Nat)(ks:bf)(k:Nat):ll l sz (ks++[k])=ll l sz ks++aS (dC (ck l sz k)).length:=by simp[ll]
theorem KN{q:Ch}{e:TypeId}{size n c:Nat}{A:bj}{xs:cV}{L:aQ}(h:q.isObj=true):q∈Ch.own e size A n c xs::L↔q∈L:=
 ⟨fun hm=>(fk.1 hm).resolve_left fun e=>(by rw[e]at h;cases h),fun hm=>lr _ hm⟩
theorem KM{q:Ch}{g:Nat}{t:TypeId}{xs:cV}{L:aQ}(h:q.isObj=true):q∈Ch.bE g t xs::L↔q∈L:=
 ⟨fun hm=>(fk.1 hm).resolve_left fun e=>(by rw[e]at h;cases h),fun hm=>lr _ hm⟩
theorem XG{X:List cj}{c:Nat}(sa:X≠[])(hb:aK B w0 F 1 (.slice A X.length c) X.length (strs X))(hl:X.length≤64)(vV:∀s∈X,s.length≤25):
  a_ B w0 149 [.slice A X.length c] F (fun v L=>∃A' c',v= .slice A' (dC X).length c'∧L= .own 5 1 A' (dC X).length c' (bv (dC X))::F):=by
 cases X with
 |nil=>exact absurd rfl sa
 |cons t r=>exact abj hb (by simp at hl;omega) vV
theorem alq{l:List cj}(hb:aK B w0 F 1 (.slice A l.length c) l.length (strs l)){sz i:Nat}(hi:i*sz<l.length):aK B w0 F 1 (.slice (A.map (·.add (i*sz))) (ck l sz i).length (ck l sz i).length) (ck l sz i).length (strs (ck l sz i)):=fun w hs=>by
 obtain⟨A',c',e,h1,h2,h3⟩:=hb w hs;obtain⟨rfl,_,rfl⟩:A=A'∧True∧c=c':=by injection e with a b d;exact⟨a,trivial,d⟩
 obtain⟨ad,rfl,h4,h5⟩:=h3 aa;refine⟨_,_,rfl,gi _,ak,fun _=>⟨_,rfl,aoI,fun j u hu=>?_⟩⟩;have hu':(strs l)[i*sz+j]? =some u:=by
  unfold ck strs at hu;unfold strs;rw[jq]at hu⊢;rw[GS]at hu;split at hu
  ·rw[k_7]at hu;exact hu
  ·cases hu
 have:=h5 _ _ hu';show w.cell? ((ad.add (i*sz)).add j)=some u;rw[lG];exact this
theorem QY{size:Int}{l:List cj}(hb:aK B w0 F 1 (.slice A l.length c) l.length (strs l))(hl:l.length≤1000000000000000)(hE:size<1∨64<size∨¬kY l):
  a_ B w0 87 [ah size,.slice A l.length c] F (fun r L=>∃A' c',r= .tuple #[.slice A' 0 c',ah 13]∧L= .own 5 1 A' 0 c' []::F):=by
 refine xX func87 44 rfl rfl rfl [(0,ah size),(1,.slice A l.length c)] ⟨⟨rfl,rfl⟩,⟨rfl,rfl⟩,trivial⟩ ?_;refine qL ?_;refine b8 ?_;refine lF ?_;refine qL ?_;refine be ?_;refine bU 11 20 [0,1] (size<1∨64<size∨¬kY l) ?_ ?_
 ·refine bA ?_;refine aL rfl rfl rfl (fun mD=>?_) (fun mD=>?_)
  ·refine bG ?_;refine aL rfl rfl rfl (fun ki=>?_) (fun ki=>?_)
   ·refine be ?_;refine ai rfl (MS hb hl) ?_;refine bA ?_;exact aP b_2
   ·refine bA ?_;exact aP b_2
  ·refine bK ?_;exact aP b_2
 ·refine be ?_;refine aj (fun iM=>?_) fun iM=>?_
  ·refine bK ?_;refine anN rfl ?_;refine aD 5 1 none ?_;refine aF ?_;exact⟨none,0,rfl,rfl⟩
  ·exfalso;exact iM hE
theorem X3{sz:Nat}{l:List cj}(hb:aK B w0 F 1 (.slice A l.length c) l.length (strs l))(hlc:l.length≤c)(k_:1≤sz)(jF:sz≤64)(hR:kY l):
  a_ B w0 87 [ah sz,.slice A l.length c] F (fun r L=>∃A' c',r= .tuple #[.slice A' (fQ sz l).length c',ah 0]∧L= .own 5 1 A' (fQ sz l).length c' (bv (fQ sz l))::F):=by
 have hlen:=hR.2;have vV:=hR.le;have hNl:gR sz l.length≤1048639:=by
  unfold gR;exact jc (ri _ _) aa
 have Vk:(aS l.length).length≤10:=aT aa;refine xX func87 44 rfl rfl rfl [(0,ah sz),(1,.slice A l.length c)] ⟨⟨rfl,rfl⟩,⟨rfl,rfl⟩,trivial⟩ ?_;refine qL ?_;refine b8 ?_;refine lF ?_;refine qL ?_;refine be ?_;refine bU 11 20 [0,1] ((sz:Int)<1∨64<(sz:Int)∨¬kY l) ?_ ?_
 ·refine bA ?_;refine aL rfl rfl rfl (fun mD=>?_) (fun mD=>?_)
  ·refine bG ?_;refine aL rfl rfl rfl (fun ki=>?_) (fun ki=>?_)
   ·refine be ?_;refine ai rfl (MS hb aa) ?_;refine bA ?_;exact aP b_2
   ·refine bA ?_;exact aP b_2
  ·refine bK ?_;exact aP b_2
 ·refine be ?_;refine aj (fun iM=>?_) fun iM=>?_
  ·exfalso;rcases iM with h|h|h<;>first|omega|exact h hR
  ·refine aF ?_;refine lF ?_;refine qL ?_;refine b8 ?_;refine ay rfl (iO l.length aa) fun Bg Di=>?_;refine bc fun g6=>?_;refine be ?_;refine lF ?_;refine qL ?_;refine aZ 5 1 none ?_;refine aF ?_;refine bc fun g7=>?_;refine aF ?_;refine lF ?_;refine Lf ?_;refine bA ?_;refine ay rfl (agZ k_) fun g2 g3=>?_;refine aF ?_;refine lF ?_;refine FV (N:=gR sz l.length) ape rfl rfl rfl (fun i:Fin (gR sz l.length)=>Gu A sz l.length i.val) (fun xs=>xs.map (·.val)=List.range (gR sz l.length)) (fun _=>True) [.bE g2 87 [.slice A l.length c],.bE g3 3 [ah sz]]
    (fun w hw=>MA k_ aa aa hlc (fun e=>aoy) w (hw.all _ (lr _ rn)) (hw.all _ rn))
    (fun(_:List (Fin (gR sz l.length))) (_:bj×Nat×bj×Nat)=>True) (fun pre s=>.bE g3 3 [ah sz]:: .bE g2 87 [.slice A l.length c]:: .bE g7 27 [.slice s.1 (iV l sz (pre.map (·.val))).length s.2.1]:: .own 5 1 s.1 (iV l sz (pre.map (·.val))).length s.2.1 (bv (iV l sz (pre.map (·.val)))):: .bE g6 27 [.slice s.2.2.1 (aS l.length++ll l sz (pre.map (·.val))).length s.2.2.2]:: .own 5 1 s.2.2.1 (aS l.length++ll l sz (pre.map (·.val))).length s.2.2.2 (bv (aS l.length++ll l sz (pre.map (·.val))))::F)
    (fun pre s q hq=>by simp only[KN hq,KM hq]) (fun q hq=>by
     simp only[fk,mv,oj]at hq;rcases hq with rfl|rfl
     ·exact⟨rfl,fun pre s=>lr _ rn⟩
     ·exact⟨rfl,fun pre s=>rn⟩)
    (none,0,Bg,Di) trivial (.cons (.cons (bq (by simp[iV]) (ax (by simp[iV]) (by simp[iV]) (bq (by simp[ll]) (ax (by simp[ll]) (by simp[ll]) (.refl _))))))) ?_ ?_
   ·rintro l' pre x ⟨A7,c7,A6,c6⟩ w1 _ mN acI F';have hxn:x.val*sz<l.length:=(nU k_).1 x.isLt;have hbx:=((alq hb hxn).later acI).mono (vJ F F');have hX:=QH l sz x.val;have hXE:xn sz l.length x.val≤64:=by unfold xn;omega
    have hX1:1≤xn sz l.length x.val:=by unfold xn;omega
    have hvX:Gu A sz l.length x.val= .slice (A.map (·.add (x.val*sz))) (ck l sz x.val).length (ck l sz x.val).length:=by unfold Gu;rw[hX]
    have hB1:=uT jF vV (pre.map (·.val));have hH1:=q8 jF vV (pre.map (·.val));rw[eK]at hB1 hH1;have de:=tK (l:=ck l sz x.val) aa (fun s hs=>vV s (zl hs));have hsB:=De l sz (pre.map (·.val)) x.val;have hsH:=Rt l sz (pre.map (·.val)) x.val;have hmp:(pre++[x]).map (·.val)=pre.map (·.val)++[x.val]:=by simp
    simp only[nI,hvX,hmp,hsB,hsH];have asO:ck l sz x.val≠[]:=fun e=>by rw[e]at hX;simp at hX;omega
    have asg:∀s∈ck l sz x.val,s.length≤25:=fun s hs=>vV s (zl hs);generalize ck l sz x.val=X at*;generalize A.map (·.add (x.val*sz))=A8 at*;generalize iV l sz (pre.map (·.val))=bd at*;generalize ll l sz (pre.map (·.val))=hd at*;have Is:(aS l.length++hd).length=(aS l.length).length+hd.length:=aY;have hbn:(aS (dC X).length).length≤10:=aT aa;refine FY ?_;refine Lg ?_;refine nm ag ?_;refine aF ?_;refine ay rfl (XG asO aA aa asg) fun Qf c30=>?_;refine be ?_;refine nq ?_;refine Lg ?_;refine ajB (S:=F++F') ag ag gD ?_;refine ae 1 ?_;refine ae 2 ?_;refine ae 3 ?_;refine gS 0 4 ?_ ?_
    ·refine aF ?_;refine az 4 ?_;refine b7 rfl rfl (iO (dC X).length aa) fun Lq c35=>?_;refine az 5 ?_;refine eV rfl (bT cD rfl aV rfl aA cw aa aa) fun A36 c36=>?_;refine az 6 ?_;refine aF ?_;refine cQ [7,9] ?_;refine nq ?_;refine nm ag ?_;refine be ?_;refine fM (bT cD rfl aV rfl aA cw aa aa) fun A39 c39=>?_;refine be ?_;refine nq ?_;exact⟨(A39,c39,A36,c36),trivial,.skip (.skip (.cons (.cons (bq ak (ax ak ak (bq (by simp[NM]) (ax (by simp[NM]) ak (.refl _))))))))⟩
    ·refine b7 rfl rfl (iO (dC X).length aa) fun Lq c35=>?_;refine az 0 ?_;refine aF ?_;refine az 5 ?_;refine eV rfl (bT cD rfl aV rfl aA cw aa aa) fun A36 c36=>?_;refine az 6 ?_;refine aF ?_;refine cQ [7,9] ?_;refine nq ?_;refine nm ag ?_;refine be ?_;refine fM (bT cD rfl aV rfl aA cw aa aa) fun A39 c39=>?_;refine be ?_;refine nq ?_;exact⟨(A39,c39,A36,c36),trivial,.skip (.skip (.cons (.cons (bq ak (ax ak ak (bq (by simp[NM]) (ax (by simp[NM]) ak (.refl _))))))))⟩
   ·rintro D xs ⟨A7,c7,A6,c6⟩ hS _;have hB1:=uT jF vV (xs.map (·.val));have hH1:=q8 jF vV (xs.map (·.val));rw[hS]at hB1 hH1;rw[wk]at hB1 hH1;simp only[hS];have hBl:(fQ sz l).length≤10000000000:=by
     have:=oA 3000 hNl;have:=oA 10 hNl;unfold fQ;rw[aY,aY];omega
    refine af9 ?_;refine be ?_;refine cC (aG fE [_,_] rfl rfl cw aa aa) fun A42=>?_;refine ay rfl (xu (l:=fQ sz l) (P:=[(.slice A6 (aS l.length++ll l sz (List.range (gR sz l.length))).length c6,aS l.length++ll l sz (List.range (gR sz l.length))),(.slice A7 (iV l sz (List.range (gR sz l.length))).length c7,iV l sz (List.range (gR sz l.length)))]) aA aoz rfl (by simp[eh.all,fQ]) aa ak) fun Lr c43=>?_;refine bA ?_;refine nq ?_;refine af8 rfl ((BM (fR (fR (.refl _))))) ?_;refine aq (L':=.own 5 1 Lr (fQ sz l).length c43 (bv (fQ sz l))::F) (.cons (.skip (.skip (.skip (.skip (.skip (.skip (.skip (.refl _))))))))) ?_;refine aF ?_;exact⟨Lr,c43,rfl,rfl⟩
section
section
variable{C:Cx}{fr:Fr}{L:aQ}{f:Ch→aQ}{x:Operand}{t ty e:TypeId}{A:bj}{n c:Nat}{xs:cV}
theorem J5(ht:C.P.underlying t=some (.slice e))(hu:C.P.underlying e=some (.int .u8))(he:ev fr x=some (.slice A n c))(hm:mG (.own e 1 A n c xs) L f)(hc:1≤n):
  qx C fr L (.convert t t x) ty (fun v L'=>∃g cur k,v= .slice A n c∧A=some ⟨g,0,none⟩∧n≤c∧cur.toList.take n=xs∧xs.length=n∧L'=f (.obj g (.cells cur e k))):=fun a w ha hw d pos af gg=>by
 obtain⟨h1,h2,h3⟩:=hw.all _ hm.mem;obtain⟨g,cur,rfl,k1,k2,k3,k4,k5⟩:=h3.resolve_left aa;have hsh:w.shape? g=some (e,cur.size):=by unfold World.shape?;rw[k2]
 have fN:g<w.heap.size:=(k_3.1 k2).1;have th:(convert t t (.slice (some ⟨g,0,none⟩) n c)).run C.P w= .ok (.slice (some ⟨g,0,none⟩) n c) (w.freeze ⟨g,cur.size,none⟩ 1):=by
  simp[convert,iP ht,iP hu,markStringish,hsh]
 have Io:(w.freeze ⟨g,cur.size,none⟩ 1).heap[g]? =some (.cells cur e (cur.size,cur.size+1)):=by
  unfold World.freeze;rw[aw aB];show(w.heap.modify g _)[g]? =_;rw[Array.getElem?_modify,ao rfl,k2];rfl
 have hgr:w.grownBy (w.freeze ⟨g,cur.size,none⟩ 1) (some g):=by
  unfold World.freeze;rw[aw aB];refine⟨rfl,rfl,rfl,ak,fun k hk sa=>?_⟩;show(w.heap.modify g _)[k]? =_;rw[Array.getElem?_modify,aw (fun e=>sa xz)]
 have P7:(Ch.own e 1 (some ⟨g,0,none⟩) n c xs).fp=some g:=by simp[Ch.fp,show¬c=0 by omega]
 refine⟨_,w.freeze ⟨g,cur.size,none⟩ 1,_,.inl ?_,⟨g,cur,(cur.size,cur.size+1),rfl,rfl,h2,by rw[cE]at k5;exact k5,aa,rfl⟩,hw.Qe hm (by rw[P7];exact hgr) (fun _=>⟨k1,Io⟩) (.inr (.inl P7.symm))⟩;simp[execOp,ha.tmp he,th]
theorem aK.obj{B:Nat}{w0:World}{g:Nat}{cur:Array Value}{k:Nat×Nat}(h:Ch.obj g (.cells cur e k)∈L)(h2:n≤c)(hx:cur.toList.take n=xs)(hl:xs.length=n):aK B w0 L 1 (.slice (some ⟨g,0,none⟩) n c) n xs:=fun w hs=>by
 have hh:=(hs.all _ h).2;refine⟨_,_,rfl,h2,aa,fun _=>⟨_,rfl,(k_3.1 hh).1,fun j u hu=>?_⟩⟩;rw[zV,mw,cell_of_row w g j cur e k hh];rw[←hx,GS]at hu;split at hu
 ·simpa using hu
 ·cases hu
end
end
def grT(l:List cj):Prop:=300<l.length∨∃i,i<l.length∧60<(l.getD i []).length
instance (l:List cj):Decidable (grT l):=inferInstanceAs (Decidable (_∨_))
theorem aoA{P:Prop}(h:P:=by(first|(exact⟨fun h=>absurd h (by omega),False.elim⟩)|omega|(simp at h7;done))):P:=h
abbrev Wr(g:Nat)(bt:TypeId)(A:bj)(c:Nat)(q:List Bool)(F:aQ):aQ:=.bE g bt [.slice A (packed q).length c,ah q.length]:: .own 5 1 A (packed q).length c (bv (packed q))::F
theorem aq3(q:List Bool)(v:Nat)(hv:v<18446744073709551616)(n:Nat)(hn:n≤64)(hp:v<2^n)(hq:q.length≤7000000):
  a_ B w0 153 [br g,.int .u64 v,ah n] (Wr g bt A c q F)
   (fun r L=>r=ah 0∧∃A' c',L=Wr g bt A' c' (q++hi v n n) F):=by
 refine fw func153 42 [0,1,2] ?_;refine bI ?_;refine bU 20 27 [0,1,2] (False) ?_ ?_
 ·refine bO ?_;refine aL rfl rfl rfl (fun jZ=>?_) (fun jZ=>?_)
  ·refine bG ?_;refine aL rfl rfl rfl (fun jj=>?_) (fun jj=>?_)
   ·refine bG ?_;refine cM (fun l0=>?_) fun l0=>?_
    ·refine b8 ?_;refine ab (dj rfl rfl aa (Fp v (e:=n) rfl aa)) rfl ?_;refine bG ?_;exact aP aos
    ·refine bz ?_;exact aP (by rfl)
   ·refine bI ?_;exact aP agA
  ·refine cH ?_;exact aP agA
 ·refine be ?_;refine dm fun kg=>?_;refine cZ ?_;refine aE (fun zf zL zm=>∃(m:Nat) (A':bj) (c':Nat),(m≤n)∧n-m=zm∧Sub zf [(0,br g),(1,.int .u64 v),(7,ah ((n:Int)-m-1))]∧Wk zL (Wr g bt A' c' (q++hi v n m) F)) _ ⟨0,A,c,bS _,rfl,bp,bq Ho (ax Ho Ho (.refl _))⟩ ?_;rintro _ _ _ ⟨m,A',c',hm,rfl,hs,hp⟩;refine aU hs hp ?_;clear hs hp;have wR:(q++hi v n m).length=q.length+m:=by rw[aY,dM]
  refine bK ?_;refine aj (fun D8=>?_) fun D8=>?_
  ·refine b8 ?_;refine cF F ?_;refine ae 0 ?_;refine ae 1 ?_;refine ae 2 ?_;refine ae 3 ?_;refine ae 4 ?_;refine aW 5 rfl (dj rfl rfl aa (Fp v (e:=n-1-m) aa aa)) ?_;refine aW 6 rfl (jY rfl rfl (WA v _ hv)) ?_;refine az 7 ?_;refine gz rfl .no Uv rfl (aaU (q++hi v n m) (v.testBit (n-1-m)) aa) rfl aoT ?_;rintro _ _ ⟨rfl,TQ,c41,cA⟩;obtain rfl:=cA.symm;refine bI ?_;refine av ⟨_,aa,m+1,TQ,c41,aa,rfl,bp,bq Hp (ax Hp Hp (.refl _))⟩
  ·refine cH ?_;have hm':m=n:=by omega
   subst hm';exact⟨rfl,A',c',rfl⟩
theorem ajv(q:List Bool)(n:Nat)(hn:n≤100000)(hq:q.length≤7000000):
  a_ B w0 154 [br g,ah n] (Wr g bt A c q F)
   (fun r L=>r=ah 0∧∃A' c',L=Wr g bt A' c' (q++un n) F):=by
 refine fw func154 27 [0,1] ?_;refine bI ?_;refine bU 10 14 [0,1] (False) ?_ ?_
 ·refine bO ?_;refine aL rfl rfl rfl (fun pn=>?_) (fun pn=>?_)
  ·refine b8 ?_;exact aP (by exact dN aoA)
  ·refine be ?_;exact aP (by exact ej aoA)
 ·refine be ?_;refine dm fun jZ=>?_;refine bB ?_;refine aE (fun zf zL zm=>∃(m:Nat) (A':bj) (c':Nat),(m≤n)∧n-m=zm∧Sub zf [(0,br g),(15,ah n),(16,ah m)]∧Wk zL (Wr g bt A' c' (q++List.replicate m false) F)) _ ⟨0,A,c,bS _,rfl,bp,bq (by rw[NV,gj]) (ax (by rw[NV,gj]) (by rw[NV,gj]) (.refl _))⟩ ?_;rintro _ _ _ ⟨m,A',c',hm,rfl,hs,hp⟩;refine aU hs hp ?_;clear hs hp;have wR:(q++List.replicate m false).length=q.length+m:=by rw[aY,yd]
  refine bz ?_;refine aj (fun iF=>?_) fun iF=>?_
  ·refine bI ?_;refine aX Uv rfl (aaU (q++List.replicate m false) false aa) rfl ?_;rintro _ _ ⟨rfl,A21,c21,cA⟩;obtain rfl:=cA.symm;refine bK ?_;refine av ⟨_,aa,m+1,A21,c21,aa,rfl,bp,bq (by rw[Fe,bV]) (ax (by rw[Fe,bV]) (by rw[Fe,bV]) (.refl _))⟩
  ·refine bB ?_;refine aX Uv rfl (aaU (q++List.replicate m false) true aa) rfl ?_;rintro _ _ ⟨rfl,tc,Bn,cA⟩;obtain rfl:=cA.symm;refine bO ?_;have hm':m=n:=by omega
   subst hm';exact⟨rfl,tc,Bn,by rw[bV];rfl⟩
theorem agU(q:List Bool)(hq:q.length≤8000000):a_ B w0 155 [br g] (Wr g bt A c q F) (fun r L=>∃A' c',r= .slice A' (packed q).length c'∧L= .own 5 1 A' (packed q).length c' (bv (packed q))::Wr g bt A c q F):=by
 have mN:=dJ q;refine fw func155 11 [0] ?_;refine GD ?_;refine ay rfl (me (packed q) aA aa) fun wu F8=>?_;refine bG ?_;exact⟨wu,F8,rfl,rfl⟩
theorem gL:type_of% @Nat.mul_le_mul:= @Nat.mul_le_mul
def oa(l:bf):cV:=l.map fun(n:Nat)=>Value.int .u16 (n:Int)
@[simp] theorem akT(l k:bf):oa (l++k)=oa l++oa k:=by simp[oa]
@[simp] theorem akU(l:bf):(oa l).length=l.length:=by simp[oa]
theorem afS{l:bf}{k:Nat}(h:k<l.length):(oa l)[k*1]? =some (.int .u16 (l.getD k 0:Nat)):=by
 simp[oa,List.getD,fm h]
def OY(bound:Int)(ids:List Int)(i:Nat):Prop:=0≤ids.getD i 0∧ids.getD i 0<bound∧(0<i→ids.getD (i-1) 0<ids.getD i 0)
def Hh(bound:Int)(ids:List Int):Prop:=∀i,i<ids.length→OY bound ids i
instance (bound:Int)(ids:List Int)(i:Nat):Decidable (OY bound ids i):=inferInstanceAs (Decidable (_∧_∧_))
instance (bound:Int)(ids:List Int):Decidable (Hh bound ids):=inferInstanceAs (Decidable (∀i,i<ids.length→_))
def kX(bound:Nat)(xs:bf):Prop:=∀i,i<xs.length→xs.getD i 0<bound∧(0<i→xs.getD (i-1) 0<xs.getD i 0)
theorem Hh.adO{bound:Int}{ids:List Int}(h:Hh bound ids):∃xs:bf,ids=xs.map (fun(n:Nat)=>(n:Int)):=by
 refine⟨ids.map Int.toNat,?_⟩;apply pZ
 ·simp
 ·intro i h1 h2;have:=(h i h1).1;rw[bk,fm h1]at this;simp at this⊢;omega
theorem XH(xs:bf)(i:Nat):(xs.map (fun(n:Nat)=>(n:Int))).getD i 0=((xs.getD i 0:Nat):Int):=by
 simp only[bk,jq];cases xs[i]? <;>rfl
theorem so(bound:Nat)(xs:bf):Hh bound (xs.map (fun(n:Nat)=>(n:Int)))↔kX bound xs:=by
 unfold Hh kX OY;simp only[XH,eK];exact⟨fun h i hi=>by have:=h i hi;omega,fun h i hi=>by have:=h i hi;omega⟩
theorem NL(xs:bf):ints .i64 (xs.map (fun(n:Nat)=>(n:Int)))=bx xs:=by simp[ints,bx]
theorem kX.ge{bound:Nat}{xs:bf}(h:kX bound xs):∀i,i<xs.length→i≤xs.getD i 0
 |0,_=>bS _
 |i+1,hi=>by
  have h1:=kX.ge h i aa;have h2:=(h (i+1) hi).2 aa;rw[wh]at h2;omega
theorem kX.len{bound:Nat}{xs:bf}(h:kX bound xs):xs.length≤bound:=by
 rcases wV xs.length with h0|h0
 ·omega
 ·have h1:=h.ge (xs.length-1) aa;have h2:=(h (xs.length-1) aa).1;omega
def wid(bound n:Nat):Nat:=Nat.log2 (bound/n)
theorem xf{bound n:Nat}(h:bound≤20000):wid bound n≤14:=by
 unfold wid;by_cases h0:bound/n=0
 ·rw[h0];decide
 ·have:bound/n<2^15:=by have:=ri bound n;omega
  have:=(Nat.log2_lt h0).2 this;omega
theorem uE{w:Nat}(h:w≤14):2^w≤16384:=la aa h
def A_(p was:Nat):bf→List Bool
 |[]=>[]
 |x::xs=>un (x/p-was)++A_ p (x/p) xs
def BL(p w:Nat)(xs:bf):List Bool:=xs.flatMap fun x=>hi (x%p) w w
def Lx(p w:Nat)(xs:bf):List Bool:=BL p w xs++A_ p 0 xs
def rM(bound:Nat)(xs:bf):al:=aS xs.length++(if xs.length=0 then [] else packed (Lx (2^wid bound xs.length) (wid bound xs.length) xs))
def PW(bound:Int)(ids:List Int):al×Int:=if bound<0∨20000<bound∨¬Hh bound ids then ([],13) else (rM bound.toNat (ids.map Int.toNat),0)
theorem J1{bound:Int}{ids:List Int}(h:bound<0∨20000<bound∨¬Hh bound ids):PW bound ids=([],13):=ao h
theorem J2{bound:Nat}{xs:bf}(h:¬((bound:Int)<0∨(20000:Int)<bound∨¬Hh bound (xs.map (fun(n:Nat)=>(n:Int))))):PW bound (xs.map (fun(n:Nat)=>(n:Int)))=(rM bound xs,0):=by
 have e:(xs.map (fun(n:Nat)=>(n:Int))).map Int.toNat=xs:=by simp[Function.comp_def]
 unfold PW;rw[aw h,nH,e]
theorem adA(p w:Nat)(xs:bf)(x:Nat):BL p w (xs++[x])=BL p w xs++hi (x%p) w w:=by simp[BL]
theorem m9(p w:Nat)(xs:bf):(BL p w xs).length=xs.length*w:=by
 induction xs with
 |nil=>simp[BL]
 |cons x xs ih=>simp only[BL,jI,aY,dM,ef,j8]at ih⊢;omega
def pw(p was:Nat)(xs:bf):Nat:=xs.foldl (fun _ x=>x/p) was
theorem R0(p was:Nat)(xs:bf)(x:Nat):pw p was (xs++[x])=x/p:=by simp[pw]
theorem FT(p:Nat)(x:Nat):∀(xs:bf) (was:Nat),A_ p was (xs++[x])=A_ p was xs++un (x/p-pw p was xs)
 |[],was=>by simp[A_,pw]
 |y::xs,was=>by
  rw[nI,A_,A_,FT p x xs (y/p),bV];rfl
theorem pz{p:Nat}{xs:bf}{k:Nat}(h:k<xs.length):pw p 0 (xs.take (k+1))=xs.getD k 0/p:=by
 rw[ba h 0,R0]
theorem N_{bound p:Nat}{xs:bf}(h:kX bound xs){k:Nat}(hk:k<xs.length):pw p 0 (xs.take k)≤xs.getD k 0/p:=by
 rcases k with _|k
 ·simp[pw]
 ·rw[pz aa];have:=(h (k+1) hk).2 aa;rw[wh]at this;exact Nat.div_le_div_right (Nat.le_of_lt this)
theorem sD{bound p:Nat}{xs:bf}(h:kX bound xs):∀k,k≤xs.length→(A_ p 0 (xs.take k)).length=k+pw p 0 (xs.take k)
 |0,_=>by simp[A_,pw]
 |k+1,hk=>by
  have h1:=sD h (p:=p) k aa;have h2:=N_ (p:=p) h (k:=k) aa;rw[pz aa,ba aa 0,FT,aY,oQ,h1];omega
theorem N9{bound p:Nat}{xs:bf}(h:kX bound xs)(k:Nat)(hk:k≤xs.length):pw p 0 (xs.take k)≤bound:=by
 rcases k with _|k
 ·simp[pw]
 ·rw[pz aa];have:=(h k aa).1;have:=ri (xs.getD k 0) p;omega
theorem UK{bound p w:Nat}{xs:bf}(h:kX bound xs)(hb:bound≤20000)(hw:w≤14):(Lx p w xs).length≤400000:=by
 have h1:=m9 p w xs;have h2:=sD (p:=p) h xs.length (gi _);have h3:=N9 (p:=p) h xs.length (gi _);have h4:=h.len;rw[jS]at h2 h3;have h5:xs.length*w≤20000*14:=gL aa hw;unfold Lx;rw[aY];omega
theorem rl:type_of% @Nat.one_mul:= @Nat.one_mul
def Lt(x:Nat):Nat:=if x=0 then 0 else Nat.log2 x+1
def KA:al:=(List.range 256).map fun i=>UInt8.ofNat (Lt i)
theorem ai9(y:Nat)(h:y<256):(KA.getD y 0).toNat=Lt y:=by
 have:∀i:Fin 256,(KA.getD i.val 0).toNat=Lt i.val:=by decide+kernel
 exact this ⟨y,h⟩
theorem agH{x:Nat}(h:256≤x):Lt x=8+Lt (x/256):=by
 unfold Lt;rw[aw aa,aw aa];have h0:x/256≠0:=by omega
 have e:Nat.log2 x=8+Nat.log2 (x/256):=by
  apply Nat.le_antisymm
  ·have h1:=Nat.lt_log2_self (n:=x/256);have h2:x<2^(8+Nat.log2 (x/256)+1):=by
    rw[show 8+Nat.log2 (x/256)+1=8+(Nat.log2 (x/256)+1) by omega,Nat.pow_add];omega
   have:=(Nat.log2_lt aa).2 h2;omega
  ·refine(Nat.le_log2 aa).2 ?_;have:=Nat.log2_self_le h0;rw[Nat.pow_add];omega
 omega
theorem JT{C:Cx}{fr:Fr}{L:aQ}{x y:Operand}{t ty:TypeId}{k:IntKind}{m:Int}{s s':al}{i:Nat}(ht:C.P.underlying t=some .string)(h:ev fr x=some (.string ⟨s.toArray⟩))(hs:s=s')(h2:ev fr y=some (.int k m))(hm:m=(i:Int))(hi:i<s'.length):gF C fr L (.index t x y) ty (.int .u8 ((s'.getD i 0).toNat:Int)):=by
 subst hs;exact rY ht h h2 hm hi
theorem atC(y:Nat):(y:Int).fdiv (2^min (8:Int).toNat IntKind.u64.bits)=((y/256:Nat):Int):=by
 have e:min (8:Int).toNat IntKind.u64.bits=8:=by decide
 rw[e,we _ aB];rfl
theorem ahZ(x:Nat)(hx:x<65536):a_ B w0 253 [.int .u64 x] F (fun r L=>r=ah (Lt x)∧L=F):=by
 refine fw func253 25 [0] ?_;refine cH ?_;refine dm fun h4=>?_;refine bO ?_;refine dm fun h8=>?_;refine be ?_;refine d_ (fun zf zL=>∃(y m:Nat),(y<256∧m≤8∧Lt x=m+Lt y)∧Sub zf [(0,.int .u64 y),(2,ah m)]∧Wk zL (F)) ?_ ?_
 ·refine bz ?_;refine aj (fun jZ=>?_) fun jZ=>?_
  ·refine bA ?_;refine ab (dj rfl rfl aa (atC x)) rfl ?_;refine bI ?_;exact bD ⟨x/256,8,⟨aa,aa,agH aa⟩,bp,.refl _⟩
  ·refine aF ?_;exact bD ⟨x,0,⟨aa,aa,aa⟩,bp,.refl _⟩
 ·rintro _ _ ⟨y,m,⟨hy,hm,de⟩,hs,hp⟩;refine aU hs hp ?_;clear hs hp;refine bG ?_;refine ab (JT (s':=KA) underlying9 rfl oT rfl rfl (by simp[KA];omega)) rfl ?_;rw[ai9 y hy];have hb9:Lt y≤8:=by
   have:∀i:Fin 256,Lt i.val≤8:=by decide+kernel
   exact this ⟨y,hy⟩
  refine bK ?_;exact⟨dB (fun(z:Int)=>Value.int .i64 z) aa,rfl⟩
theorem akq(x:Nat)(hx:x<65536):a_ B w0 211 [.int .u64 x] F (fun r L=>r=ah (Lt x)∧L=F):=by
 refine fw func211 8 [0] ?_;refine cH ?_;refine ai rfl (ahZ x hx) ?_;refine bG ?_;exact⟨rfl,rfl⟩
theorem Lh(b m:Nat)(hb:b≤20000)(hm:1≤m)(hmb:m≤b):a_ B w0 151 [ah b,ah m] F (fun r L=>r=ah (wid b m)∧L=F):=by
 have hq:b/m≤20000:=jc (ri _ _) hb;have hq1:1≤b/m:=(Nat.le_div_iff_mul_le aa).2 aa;have hw:(wid b m:Int)=(Lt (b/m):Int)-1:=by unfold wid Lt;rw[aw aa];omega
 have hqq:IntKind.i64.wrap ((b:Int).tdiv (m:Int))=((b/m:Nat):Int):=by
  have e:(b:Int).tdiv (m:Int)=((b/m:Nat):Int):=(Int.ofNat_tdiv b m).symm;rw[e];generalize b/m=x at hq;exact wrap_i64 _ aa aa
 generalize hz:b/m=q at*;refine fw func151 11 [0,1] ?_;refine bO ?_;refine ab (mh rfl rfl aa hqq) rfl ?_;refine aF ?_;refine ai rfl (akq q aa) ?_;have de:Lt q≤17:=by
  unfold Lt;split
  ·omega
  ·have:=(Nat.log2_lt (n:=q) (k:=16) aa).2 aa;omega
 refine bz ?_;exact⟨by rw[hw],rfl⟩
theorem aez{bound:Int}{ids:List Int}{k:Nat}{was:Int}(hw:was=if k=0 then-1 else ids.getD (k-1) 0)(hp:∀i,i<k→OY bound ids i):OY bound ids k↔was<ids.getD k 0∧ids.getD k 0<bound:=by
 by_cases h0:k=0
 ·subst h0;rw[ao rfl]at hw;subst hw;unfold OY;exact⟨fun h=>⟨aa,h.2.1⟩,fun h=>⟨aa,h.2,fun h=>absurd h aa⟩⟩
 ·rw[aw h0]at hw;subst hw;have:=(hp (k-1) aa).1;unfold OY;exact⟨fun h=>⟨h.2.2 aa,h.2.1⟩,fun h=>⟨aa,h.2,fun _=>h.1⟩⟩
theorem Wo(bound:Int)(ids:List Int)(hb:aK B w0 F 1 (.slice A ids.length c) ids.length (ints .i64 ids))(hl:ids.length≤9000000000000000000):
  a_ B w0 150 [ah bound,.slice A ids.length c] F (fun r L=>r= .bool (decide (Hh bound ids))∧L=F):=by
 refine fw func150 24 [0,1] ?_;refine zI ?_;refine aE (fun zf zL zm=>∃(k:Nat) (was:Int),(k≤ids.length∧was=(if k=0 then-1 else ids.getD (k-1) 0)∧∀i,i<k→OY bound ids i)∧ids.length-k=zm∧Sub zf [(0,ah bound),(5,ah was),(8,.slice A ids.length c),(9,ah ids.length),(10,ah k)]∧Wk zL (F)) _ ⟨0,-1,⟨bS _,rfl,fun i h=>absurd h aa⟩,rfl,bp,.refl _⟩ ?_;rintro _ _ _ ⟨k,was,⟨hk,as6,mJ⟩,rfl,hs,hp⟩;refine aU hs hp ?_;clear hs hp;have hcw:=aez as6 mJ;refine bz ?_;refine aj (fun pn=>?_) fun pn=>?_
 ·refine dQ ?_;refine bU 8 21 [0,7,8,9,10] (ids.getD k 0≤was∨bound≤ids.getD k 0) ?_ ?_
  ·refine b8 ?_;refine aL rfl rfl rfl (fun iF=>?_) (fun iF=>?_)
   ·refine bz ?_;exact aP b_8
   ·refine bA ?_;exact aP b_8
  ·refine be ?_;refine aj (fun l0=>?_) fun l0=>?_
   ·refine dc ?_;exact⟨by rw[lu (fun h=>by have:=hcw.1 (h k aa);omega)],rfl⟩
   ·refine cH ?_;refine av ⟨_,aa,k+1,ids.getD k 0,⟨aa,by rw[aw aa,wh],fun i h=>by rcases Nat.lt_succ_iff_lt_or_eq.1 h with h|h;exact mJ i h;subst h;exact hcw.2 aa⟩,rfl,bp,.refl _⟩
 ·refine cH ?_;exact⟨by rw[jT (show Hh bound ids from fun i hi=>mJ i aa)],rfl⟩
abbrev Pt(g:Nat)(bt:TypeId)(w p:Nat)(A1:bj)(c1:Nat)(A2:bj)(c2:Nat)(xs:bf)(F:aQ):aQ:=.bE g bt [ah w,.slice A1 xs.length c1,.slice A2 xs.length c2]:: .own 3 1 A1 xs.length c1 (bx (xs.map (· /p))):: .own 57 1 A2 xs.length c2 (oa (xs.map (· %p)))::F
theorem arc{x w p:Nat}(hp:p=2^w)(hw:w≤14):(x:Int).fdiv (2^min (w:Int).toNat IntKind.i64.bits)=((x/p:Nat):Int):=by
 have e:min (w:Int).toNat IntKind.i64.bits=w:=by
  rw[nH];exact zb (show w≤64 by omega)
 rw[e,hp,we _ (Int.le_of_lt (Int.pow_pos aB)),Int.natCast_ediv];congr 1
theorem aiX{x w p:Nat}(hp:p=2^w)(hw:w≤14)(hx:x*p≤4611686018427387904):IntKind.i64.wrap ((x:Int)*2^min (w:Int).toNat IntKind.i64.bits)=((x*p:Nat):Int):=by
 have e:min (w:Int).toNat IntKind.i64.bits=w:=by
  rw[nH];exact zb (show w≤64 by omega)
 have e2:(x:Int)*2^w=((x*p:Nat):Int):=by rw[hp,z6];congr 1
 rw[e,e2];exact bF aa aa
theorem aoi{x w p:Nat}(hp:p=2^w)(hx:x<9223372036854775808)(LC:p≤16384):IntKind.i64.wrap ((BitVec.ofInt IntKind.i64.bits (x:Int) &&& BitVec.ofInt IntKind.i64.bits ((p-1:Nat):Int)).toNat:Int)=((x%p:Nat):Int):=by
 have h:=ahM x (p-1) hx aa;rw[hp,Nat.and_two_pow_sub_one_eq_mod,←hp]at h;exact h
theorem orP{x w p:Nat}(hp:p=2^w)(hx:x<9223372036854775808):IntKind.i64.wrap ((BitVec.ofInt IntKind.i64.bits ((x/p*p:Nat):Int) ||| BitVec.ofInt IntKind.i64.bits ((x%p:Nat):Int)).toNat:Int)=(x:Int):=by
 have h1:x/p*p≤x:=Nat.div_mul_le_self x p;have h2:x%p≤x:=Nat.mod_le x p;have h:=ac' (x/p*p) (x%p) aa aa;have e:x/p*p ||| x%p=x:=by
  have fN:x%p<2^w:=by rw[←hp];exact sX _ (by rw[hp];exact v_ w)
  rw[hp]at fN⊢;rw[nL,←NR fN];exact Nat.div_add_mod x (2^w)
 rw[e]at h;exact h
theorem aeb(bt:TypeId){w p:Nat}(hp:p=2^w)(hw:w≤14)(xs:bf)(x:Nat)(hx:x≤1000000)(hl:xs.length≤1000000):
  a_ B w0 152 [br g,ah x] (Pt g bt w p A1 c1 A2 c2 xs F) (fun r L=>r= .tuple #[]∧∃A1' c1' A2' c2',L=Pt g bt w p A1' c1' A2' c2' (xs++[x]) F):=by
 have LC:p≤16384:=by rw[hp];exact uE hw
 have Vl:1≤p:=by rw[hp];exact Nat.one_le_two_pow
 have amh:x%p<p:=sX _ Vl;refine fw func152 37 [0,1] ?_;refine d_ (fun zf zL=>∃(A3:bj) (c3:Nat),Sub zf [(0,br g),(1,ah x)]∧Wk zL (.bE g bt [ah w,.slice A3 (xs.length+1) c3,.slice A2 xs.length c2]:: .own 3 1 A3 (xs.length+1) c3 (bx ((xs++[x]).map (· /p))):: .own 57 1 A2 xs.length c2 (oa (xs.map (· %p)))::F)) ?_ ?_
 ·refine cF (.own 57 1 A2 xs.length c2 (oa (xs.map (· %p)))::F) ?_;refine ae 0 ?_;refine ae 1 ?_;refine ae 2 ?_;refine ae 3 ?_;refine ae 5 ?_;refine ae 6 ?_;refine ae 7 ?_;refine ae 8 ?_;refine gS 4 9 ?_ ?_
  ·refine aF ?_;refine az 9 ?_;refine aF ?_;refine aW 10 rfl (dj rfl rfl aa (arc hp hw)) ?_;refine az 11 ?_;refine cR rfl (aG fJ [_] rfl rfl cw aa aa) fun Bf=>?_;refine az 12 ?_;refine eV rfl (bT fJ rfl aV rfl aA cw aa aa) fun Xk c16=>?_;refine ae 13 ?_;refine ae 14 ?_;refine az 15 ?_;refine be ?_;exact bD ⟨Xk,c16,bp,.skip (bq rfl (ax rfl sL (.refl _)))⟩
  ·refine aF ?_;refine aW 10 rfl (dj rfl rfl aa (arc hp hw)) ?_;refine gS 4 11 ?_ ?_
   ·refine aF ?_;refine az 11 ?_;refine cR rfl (aG fJ [_] rfl rfl cw aa aa) fun Bf=>?_;refine az 12 ?_;refine eV rfl (bT fJ rfl aV rfl aA cw aa aa) fun Xk c16=>?_;refine ae 13 ?_;refine ae 14 ?_;refine az 15 ?_;refine be ?_;exact bD ⟨Xk,c16,bp,.skip (bq rfl (ax rfl sL (.refl _)))⟩
   ·refine cR rfl (aG fJ [_] rfl rfl cw aa aa) fun Bf=>?_;refine az 4 ?_;refine aF ?_;refine az 12 ?_;refine eV rfl (bT fJ rfl aV rfl aA cw aa aa) fun Xk c16=>?_;refine ae 13 ?_;refine ae 14 ?_;refine az 15 ?_;refine be ?_;exact bD ⟨Xk,c16,bp,.skip (bq rfl (ax rfl sL (.refl _)))⟩
 ·rintro _ _ ⟨A3,c3,hs,hp⟩;refine aU hs hp ?_;clear hs hp;refine cF (.own 3 1 A3 (xs.length+1) c3 (bx ((xs++[x]).map (· /p)))::F) ?_;refine ae 0 ?_;refine ae 1 ?_;refine ae 2 ?_;refine ae 3 ?_;refine ae 5 ?_;refine ae 6 ?_;refine ae 7 ?_;refine ae 8 ?_;refine gS 4 9 ?_ ?_
  ·refine aF ?_;refine az 9 ?_;refine aF ?_;refine aW 10 rfl (ga rfl rfl aa ((aiX (x:=1) hp hw aa).trans (by rw[rl]))) ?_;refine aW 11 rfl (dw rfl rfl (r:=((p-1:Nat):Int)) ((bF aa aa).trans aa)) ?_;refine aW 12 rfl (jY rfl rfl (aoi hp aa LC)) ?_;refine ae 13 ?_;refine az 14 ?_;refine cR rfl (aG uI [_] rfl rfl cw aa aa) fun PS=>?_;refine az 15 ?_;refine eV rfl (bT uI rfl aV rfl aA cw aa aa) fun wv xm=>?_;refine ae 16 ?_;refine ae 17 ?_;refine az 18 ?_;refine aF ?_;refine cQ [] ?_;refine aF ?_;have el:xs.length+1=(xs++[x]).length:=by simp
   rw[el];refine aq (L':=Pt g bt w p A3 c3 wv xm (xs++[x]) F) (.skip (.cons (.cons (ax rfl (by simp[oa]) (.refl _))))) ?_;refine aF ?_;exact⟨rfl,A3,c3,wv,xm,rfl⟩
  ·refine aF ?_;refine aW 10 rfl (ga rfl rfl aa ((aiX (x:=1) hp hw aa).trans (by rw[rl]))) ?_;refine aW 11 rfl (dw rfl rfl (r:=((p-1:Nat):Int)) ((bF aa aa).trans aa)) ?_;refine aW 12 rfl (jY rfl rfl (aoi hp aa LC)) ?_;refine ae 13 ?_;refine gS 4 14 ?_ ?_
   ·refine aF ?_;refine az 14 ?_;refine cR rfl (aG uI [_] rfl rfl cw aa aa) fun PS=>?_;refine az 15 ?_;refine eV rfl (bT uI rfl aV rfl aA cw aa aa) fun wv xm=>?_;refine ae 16 ?_;refine ae 17 ?_;refine az 18 ?_;refine aF ?_;refine cQ [] ?_;refine aF ?_;have el:xs.length+1=(xs++[x]).length:=by simp
    rw[el];refine aq (L':=Pt g bt w p A3 c3 wv xm (xs++[x]) F) (.skip (.cons (.cons (ax rfl (by simp[oa]) (.refl _))))) ?_;refine aF ?_;exact⟨rfl,A3,c3,wv,xm,rfl⟩
   ·refine cR rfl (aG uI [_] rfl rfl cw aa aa) fun PS=>?_;refine az 4 ?_;refine aF ?_;refine az 15 ?_;refine eV rfl (bT uI rfl aV rfl aA cw aa aa) fun wv xm=>?_;refine ae 16 ?_;refine ae 17 ?_;refine az 18 ?_;refine aF ?_;refine cQ [] ?_;refine aF ?_;have el:xs.length+1=(xs++[x]).length:=by simp
    rw[el];refine aq (L':=Pt g bt w p A3 c3 wv xm (xs++[x]) F) (.skip (.cons (.cons (ax rfl (by simp[oa]) (.refl _))))) ?_;refine aF ?_;exact⟨rfl,A3,c3,wv,xm,rfl⟩
theorem amR(bt:TypeId){w p:Nat}(hp:p=2^w)(hw:w≤14)(xs:bf)(i:Nat)(hi:i<xs.length)(hx:xs.getD i 0≤1000000):
  a_ B w0 300 [br g,ah i] (Pt g bt w p A1 c1 A2 c2 xs F) (fun r L=>r=ah (xs.getD i 0:Nat)∧L=Pt g bt w p A1 c1 A2 c2 xs F):=by
 have hH:(bx (xs.map (· /p)))[i*1]? =some (ah (xs.getD i 0/p:Nat)):=by simp[bx,List.getD,fm hi]
 have hL:(oa (xs.map (· %p)))[i*1]? =some (.int .u16 (xs.getD i 0%p:Nat)):=by simp[oa,List.getD,fm hi]
 have LC:p≤16384:=by rw[hp];exact uE hw
 have Vl:1≤p:=by rw[hp];exact Nat.one_le_two_pow
 have amh:xs.getD i 0%p<p:=sX _ Vl;have hdm:=Nat.div_mul_le_self (xs.getD i 0) p;refine fw func300 26 [0,1] ?_;refine dc ?_;refine bZ (au ag rfl aA aa hH) rfl ?_;refine b8 ?_;refine bZ (ga rfl rfl aa (aiX hp hw aa)) rfl ?_;refine bz ?_;refine bZ (au ag rfl aA aa hL) rfl ?_;refine aF ?_;refine bZ (tN rfl rfl (orP hp aa)) rfl ?_;refine aF ?_;refine nj [(4,_)] ⟨rfl,trivial⟩ ?_;refine bA ?_;exact⟨rfl,rfl⟩
theorem tJ{P:Prop}(h:P:=by(rw[aY];omega)):P:=h
theorem M3{n:Nat}(h:n≤20000):(aS n).length≤10:=aT aa
theorem M1{bound:Int}{ids:List Int}(hb:aK B w0 F 1 (.slice A ids.length c) ids.length (ints .i64 ids))(hl:ids.length≤9000000000000000000)(hE:bound<0∨20000<bound∨¬Hh bound ids):
  a_ B w0 88 [ah bound,.slice A ids.length c] F (fun r L=>∃A' c',r= .tuple #[.slice A' 0 c',ah 13]∧L= .own 5 1 A' 0 c' []::F):=by
 refine fw func88 80 [0,1] ?_;refine bO ?_;refine bU 12 27 [0,1] (bound<0∨20000<bound∨¬Hh bound ids) ?_ ?_
 ·refine bA ?_;refine aL rfl rfl rfl (fun jj=>?_) (fun jj=>?_)
  ·refine bG ?_;refine aL rfl rfl rfl (fun rN=>?_) (fun rN=>?_)
   ·refine b8 ?_;refine ai rfl (Wo bound ids hb hl) ?_;refine bA ?_;exact aP b_2
   ·refine b8 ?_;exact aP b_2
  ·refine bI ?_;exact aP b_2
 ·refine be ?_;refine aj (fun kg=>?_) fun kg=>?_
  ·refine bI ?_;refine aD 5 1 none ?_;refine aF ?_;exact⟨none,0,rfl,rfl⟩
  ·exfalso;exact kg hE
theorem Q1{b:Nat}{xs:bf}(hb:aK B w0 F 1 (.slice A xs.length c) xs.length (bx xs))(oL:b≤20000)(hR:kX b xs):
  a_ B w0 88 [ah b,.slice A xs.length c] F (fun r L=>∃A' c',r= .tuple #[.slice A' (rM b xs).length c',ah 0]∧L= .own 5 1 A' (rM b xs).length c' (bv (rM b xs))::F):=by
 have hlen:=hR.len;have hi:Hh b (xs.map (fun(n:Nat)=>(n:Int))):=(so b xs).2 hR;have hr:=Wo (B:=B) (w0:=w0) (F:=F) (A:=A) (c:=c) (b:Int) (xs.map (fun(n:Nat)=>(n:Int))) (by rw[NL,eK];exact hb) (by rw[eK];omega);rw[eK]at hr;have CE:=xf (n:=xs.length) oL;obtain⟨w,hw⟩:=cK (wid b xs.length);rw[←hw]at CE;obtain⟨p,hp⟩:=cK (2^w);have Vl:1≤p:=by rw[hp];exact Nat.one_le_two_pow
 have Eb:=M3 (n:=xs.length) aa;have asz:xs.length=0→rM b xs=aS xs.length:=fun h=>by unfold rM;rw[ao h];simp
 have aql:¬xs.length=0→rM b xs=aS xs.length++packed (BL p w xs++A_ p 0 xs):=fun h=>by unfold rM Lx;rw[aw h,←hw,←hp]
 have hql:=UK (p:=p) (w:=w) hR oL CE;unfold Lx at hql;have mN:=dJ (BL p w xs++A_ p 0 xs);refine fw func88 80 [0,1] ?_;refine cH ?_;refine aL rfl rfl rfl (fun jj=>?_) (fun jj=>?_)
 ·refine bG ?_;refine aL rfl rfl rfl (fun rN=>?_) (fun rN=>?_)
  ·refine b8 ?_;refine ai rfl (hr) ?_;refine bG ?_;refine aj (fun kg=>?_) fun kg=>?_
   ·exfalso;exact kg hi
   ·refine bK ?_;refine ay rfl (iO xs.length aa) fun Qg c31=>?_;refine aF ?_;refine ve [0,1,6] ?_;refine bO ?_;refine aj (fun GF=>?_) fun GF=>?_
    ·refine bO ?_;rw[asz aa];refine aF ?_;exact⟨Qg,c31,rfl,rfl⟩
    ·refine bK ?_;refine ai rfl (Lh b xs.length oL aa hlen) ?_;rw[←hw];refine ab (bw [(0,_)] [ah 0,.slice none 0 0,.slice none 0 0] [0] [_,_,_] rfl rfl ag) rfl ?_;refine bc fun g7=>?_;refine bG ?_;refine aZ 57 1 none ?_;refine aZ 3 1 none ?_;refine bK ?_;refine aE (fun zf zL zm=>∃(k:Nat) (P1:bj) (p1:Nat) (P2:bj) (p2:Nat),(k≤xs.length)∧xs.length-k=zm∧Sub zf [(6,.slice Qg (aS xs.length).length c31),(7,br g7),(41,.slice A xs.length c),(42,ah xs.length),(43,ah k)]∧Wk zL (Pt g7 235 w p P1 p1 P2 p2 (xs.take k) (.own 5 1 Qg (aS xs.length).length c31 (bv (aS xs.length))::F))) _ ⟨0,none,0,none,0,bS _,rfl,bp,.dE Cm⟩ ?_;rintro _ _ _ ⟨k,P1,p1,P2,p2,hk,rfl,hs,hp⟩;refine aU hs hp ?_;clear hs hp;refine bz ?_;refine aj (fun tU=>?_) fun tU=>?_
     ·have YN:=(hR k aa).1;have Ce:=List.length_take_le k xs;refine bK ?_;refine ab (au ag rfl aA aa (fB aa)) rfl ?_;refine bG ?_;refine aX ajP rfl (aeb 235 hp CE (xs.take k) (xs.getD k 0) aa aa) rfl ?_;rintro _ _ ⟨rfl,P48,p48,Q48,q48,cA⟩;obtain rfl:=cA.symm;refine bK ?_;refine av ⟨_,aa,k+1,P48,p48,Q48,q48,aa,rfl,bp,by rw[ba (show k<xs.length by omega) 0];exact .refl _⟩
     ·obtain rfl:k=xs.length:=by omega
      rw[jS];refine bK ?_;refine bc fun g10=>?_;refine b8 ?_;refine aZ 5 1 none ?_;refine bI ?_;refine aE (fun zf zL zm=>∃(k:Nat) (A8:bj) (c8:Nat),(k≤xs.length)∧xs.length-k=zm∧Sub zf [(6,.slice Qg (aS xs.length).length c31),(7,br g7),(10,br g10),(51,.slice P2 xs.length p2),(52,ah xs.length),(53,ah k)]∧Wk zL (Wr g10 239 A8 c8 (BL p w (xs.take k)) (Pt g7 235 w p P1 p1 P2 p2 xs (.own 5 1 Qg (aS xs.length).length c31 (bv (aS xs.length))::F)))) _ ⟨0,none,0,bS _,rfl,bp,by rw[show BL p w (xs.take 0)=[] from rfl];exact .dE swp⟩ ?_;rintro _ _ _ ⟨k,A8,c8,Ir,rfl,hs,hp⟩;refine aU hs hp ?_;clear hs hp;refine aF ?_
      skip
      refine bG ?_;refine aj (fun h54=>?_) fun h54=>?_
      ·have YN:=(hR k aa).1;have amh:xs.getD k 0%p<p:=sX _ Vl;have LC:p≤16384:=by rw[hp];exact uE CE
       have hLo:(oa (xs.map (· %p)))[k*1]? =some (.int .u16 (xs.getD k 0%p:Nat)):=by simp[oa,List.getD,fm (show k<xs.length by omega)]
       have wR:=m9 p w (xs.take k);have hlm:(xs.take k).length*w≤20000*14:=gL nx CE;refine bK ?_;refine ab (au ag rfl aA aa hLo) rfl ?_;refine bI ?_;refine aX Dp rfl (aq3 (BL p w (xs.take k)) (xs.getD k 0%p) aa w aa (by rw[←hp];exact amh) aa) rfl ?_;rintro _ _ ⟨rfl,A61,c61,cA⟩;obtain rfl:=cA.symm;refine bK ?_;refine av ⟨_,aa,k+1,A61,c61,aa,rfl,bp,by rw[ba (show k<xs.length by omega) 0,adA];exact .refl _⟩
      ·obtain rfl:k=xs.length:=by omega
       rw[jS];refine alV ?_;refine aE (fun zf zL zm=>∃(k:Nat) (A9:bj) (c9:Nat),(k≤xs.length)∧xs.length-k=zm∧Sub zf [(6,.slice Qg (aS xs.length).length c31),(10,br g10),(13,ah (pw p 0 (xs.take k))),(64,.slice P1 xs.length p1),(65,ah xs.length),(66,ah k)]∧Wk zL (Wr g10 239 A9 c9 (BL p w xs++A_ p 0 (xs.take k)) (Pt g7 235 w p P1 p1 P2 p2 xs (.own 5 1 Qg (aS xs.length).length c31 (bv (aS xs.length))::F)))) _ ⟨0,A8,c8,bS _,rfl,bp,by rw[z8];simp only[A_,gj];exact .refl _⟩ ?_;rintro _ _ _ ⟨k,A9,c9,hk3,rfl,hs,hp⟩;refine aU hs hp ?_;clear hs hp;refine bz ?_;refine aj (fun Vb=>?_) fun Vb=>?_
       ·have YN:=(hR k aa).1;have hdv:=ri (xs.getD k 0) p;have hlp:=N_ (p:=p) hR (k:=k) aa;have hHi:(bx (xs.map (· /p)))[k*1]? =some (ah (xs.getD k 0/p:Nat)):=by simp[bx,List.getD,fm (show k<xs.length by omega)]
        have za:=sD (p:=p) hR k aa;have hlb:=N9 (p:=p) hR k aa;have wR:=m9 p w xs;have hlm:xs.length*w≤20000*14:=gL aa CE;have fN:=pz (p:=p) (xs:=xs) (k:=k) aa;refine bK ?_;refine ab (au ag rfl aA aa hHi) rfl ?_;refine bK ?_;refine ab (dw rfl rfl (r:=((xs.getD k 0/p-pw p 0 (xs.take k):Nat):Int)) ((bF aa aa).trans aa)) rfl ?_;refine aX ao5 rfl (ajv (BL p w xs++A_ p 0 (xs.take k)) (xs.getD k 0/p-pw p 0 (xs.take k)) aa tJ) rfl ?_;rintro _ _ ⟨rfl,A73,c73,cA⟩;obtain rfl:=cA.symm;refine cH ?_;refine av ⟨_,aa,k+1,A73,c73,aa,rfl,bp,by rw[ba (show k<xs.length by omega) 0,FT,←bV];exact .refl _⟩
       ·obtain rfl:k=xs.length:=by omega
        rw[jS];refine bI ?_;refine ay rfl (agU _ aa) fun A77 c77=>?_;refine cC (aG fE [_,_] rfl rfl cw aa aa) fun A78=>?_;refine ay rfl (xu (l:=rM b xs) (P:=[(.slice Qg (aS xs.length).length c31,aS xs.length),(.slice A77 (packed (BL p w xs++A_ p 0 xs)).length c77,packed (BL p w xs++A_ p 0 xs))]) aA aoz rfl (by rw[aql aa];simp[eh.all]) (by rw[aql aa,aY];omega) ak) fun A79 c79=>?_;refine bG ?_;refine aq (L':=.own 5 1 A79 (rM b xs).length c79 (bv (rM b xs))::F) (.cons (.skip (.skip (.skip (.skip (.skip (.skip (.skip (.skip (.refl _)))))))))) ?_;refine aF ?_;exact⟨A79,c79,rfl,rfl⟩
  ·exfalso;omega
 ·exfalso;omega
theorem X8{bound:Int}{ids:List Int}(hb:aK B w0 F 1 (.slice A ids.length c) ids.length (ints .i64 ids))(hl:ids.length≤9000000000000000000):
  a_ B w0 88 [ah bound,.slice A ids.length c] F (fun r L=>∃A' c',r= .tuple #[.slice A' (PW bound ids).1.length c',ah (PW bound ids).2]∧L= .own 5 1 A' (PW bound ids).1.length c' (bv (PW bound ids).1)::F):=by
 by_cases hE:bound<0∨20000<bound∨¬Hh bound ids
 ·rw[J1 hE];exact M1 hb hl hE
 ·have hR:Hh bound ids:=bH fun h=>hE (.inr (.inr h));obtain⟨xs,rfl⟩:=hR.adO;obtain⟨b,rfl⟩:=gJ (show 0≤bound by omega);rw[J2 hE];rw[NL,eK]at hb;rw[eK];exact Q1 hb aa ((so b xs).1 hR)
theorem kT{P:Prop}(h:P:=by(first|rfl|trivial)):P:=h
theorem agB{P:Prop}(h:P:=by(exact ej (by first|omega|(exact⟨fun h=>by omega,fun h=>by omega⟩)))):P:=h
theorem wB{P:Prop}(h:P:=by(rintro _ _ ⟨rfl,rfl⟩;exact⟨rfl,ako _⟩)):P:=h
theorem aoC{P:Prop}(h:P:=by(first|omega|(exact⟨fun h=>by omega,fun h=>by omega⟩)|(simp at h8;done))):P:=h
abbrev Rr(g:Nat)(A:bj)(c:Nat)(q:List Bool)(p:Nat)(F:aQ):aQ:=.bE g 451 [.slice A (packed q).length c,ah q.length,ah p]:: .own 5 1 A (packed q).length c (bv (packed q))::F
theorem aeE(a b:Value){x y:Int}(h:x=y):[a,b,Value.int .i64 x]=[a,b,Value.int .i64 y]:=by rw[h]
theorem EO{l:al}(hb:eM B w0 F A c l)(hl:l.length≤1000000):
  a_ B w0 322 [.slice A l.length c] F (fun r L=>∃g A' c',r=br g∧L=Rr g A' c' (gh l) 0 F):=by
 have za:=dO l;refine fw func322 11 [0] ?_;refine bI ?_;refine ay rfl (me l hb aa) fun A4 c4=>?_;refine bA ?_;refine ab (eG [(0,_),(1,_)] [_,_] rfl rfl ag) rfl ?_;refine ab (wJ [(0,_)] [.slice A4 l.length c4,ah (8*(l.length:Int)),ah 0] rfl ag) rfl ?_;refine bh fun g10=>?_;refine b8 ?_;refine aq (L':=Rr g10 A4 c4 (gh l) 0 F) (bq (by rw[pN,za];simp) (ax (by rw[pN]) (by rw[pN]) (.refl _))) ?_;refine aF ?_;exact⟨g10,A4,c4,rfl,rfl⟩
theorem uo(q:List Bool)(p:Nat)(hp:p≤q.length)(hq:q.length≤8000000):a_ B w0 325 [br g] (Rr g A c q p F) (fun r L=>r=ah ((q.length:Int)-p)∧L=Rr g A c q p F):=by
 refine fw func325 15 [0] ?_;refine ap6 ?_;exact⟨rfl,rfl⟩
theorem anC(q:List Bool)(p:Nat)(hp:p≤q.length)(hq:q.length≤8000000)(n:Int)(h1:-9223372036854775808≤n)(h2:n≤9223372036854775807):
  a_ B w0 352 [br g,ah n] (Rr g A c q p F) (fun r L=>r=ah (skE q p n)∧L=Rr g A c q (skP q p n) F):=by
 refine fw func352 25 [0,1] ?_;refine dQ ?_;refine aj (fun h5=>?_) fun h5=>?_
 ·refine bO ?_;simp only[skE,skP,ao h5];exact⟨kT,kT⟩
 ·refine be ?_;refine bU 8 16 [0,1] ((q.length:Int)<p+n) ?_ ?_
  ·refine bI ?_;refine ai rfl (uo q p hp hq) ?_;refine bA ?_;exact aP (by exact dN (by first|omega|(exact⟨fun h=>by omega,fun h=>aa⟩)|(simp at pn;done)))
  ·refine bA ?_;refine aj (fun h8=>?_) fun h8=>?_
   ·refine bO ?_;simp only[skE,skP,aw h5,ao h8];exact⟨kT,kT⟩
   ·refine GD ?_;refine aq (L':=Rr g A c q (skP q p n) F) (bq (by simp only[skP,aw h5,aw h8];refine aeE _ _ (?_ :_=_);omega) (.refl _)) ?_;refine aF ?_;simp only[skE,aw h5,aw h8];exact⟨kT,kT⟩
theorem Ik(q:List Bool)(p:Nat)(hp:p≤q.length)(hq:q.length≤8000000)(n:Int)(h1:-9223372036854775808≤n)(h2:n≤9223372036854775807):
  a_ B w0 326 [br g,ah n] (Rr g A c q p F) (fun r L=>r= .tuple #[.int .u64 (oK q p n),ah (r_ q p n)]∧L=Rr g A c q (iE q p n) F):=by
 refine fw func326 41 [0,1] ?_;refine bB ?_;refine bU 6 13 [0,1] (n<0∨64<n) ?_ ?_
 ·refine bA ?_;refine aL rfl rfl rfl (fun jx=>?_) (fun jx=>?_)
  ·refine b8 ?_;exact aP aba
  ·refine be ?_;exact aP agB
 ·refine bA ?_;refine aj (fun h7=>?_) fun h7=>?_
  ·refine bB ?_;simp only[oK,r_,iE,ao h7];exact⟨kT,kT⟩
  ·refine be ?_;refine bU 8 22 [0,1] ((q.length:Int)<p+n) ?_ ?_
   ·refine bI ?_;refine ai rfl (uo q p hp hq) ?_;refine bA ?_;exact aP (by exact dN (by first|omega|(exact⟨fun h=>by omega,fun h=>aa⟩)|(simp at iF;done)))
   ·refine bA ?_;refine aj (fun jZ=>?_) fun jZ=>?_
    ·refine bB ?_;simp only[oK,r_,iE,aw h7,ao jZ];exact⟨kT,kT⟩
    ·obtain⟨m,rfl⟩:=gJ (show 0≤n by omega);refine dc ?_;refine jz abG rfl (ET q p m hp aa aa _ (packed q) rfl rfl aV aA) wB rfl ?_;refine dQ ?_;refine ve [6] ?_;refine bO ?_;refine aq (L':=Rr g A c q (iE q p m) F) (bq (by simp only[iE,aw h7,aw jZ];refine aeE _ _ (?_ :_=_);omega) (.refl _)) ?_;refine aF ?_;simp only[oK,r_,aw h7,aw jZ];exact⟨kT,kT⟩
theorem anf(q:List Bool)(p:Nat)(hp:p≤q.length)(hq:q.length≤8000000)(n:Int)(h1:-9223372036854775808≤n)(h2:n≤9223372036854775807):
  a_ B w0 350 [br g,ah n] (Rr g A c q p F) (fun r L=>r= .tuple #[.int .u64 (pkV q p n),ah (pkN q p n)]∧L=Rr g A c q p F):=by
 refine fw func350 29 [0,1] ?_;refine bO ?_;refine bU 10 15 [0,1] (n<0∨64<n) ?_ ?_
 ·refine bO ?_;refine aL rfl rfl rfl (fun mD=>?_) (fun mD=>?_)
  ·refine b8 ?_;exact aP (by exact dN aoC)
  ·refine be ?_;exact aP (by exact ej aoC)
 ·refine be ?_;refine aj (fun kL=>?_) fun kL=>?_
  ·refine bO ?_;simp only[pkV,pkN,ao kL];exact⟨kT,kT⟩
  ·obtain⟨m,rfl⟩:=gJ (show 0≤n by omega);refine cH ?_;refine jz abG rfl (ET q p m hp aa aa _ (packed q) rfl rfl aV aA) wB rfl ?_;refine be ?_;refine jz apD rfl (uo q p hp hq) wB rfl ?_;refine bZ (xO rfl rfl) rfl ?_;refine bz ?_;simp only[pkV,pkN,aw kL];exact⟨kT,kT⟩
theorem afU(q:List Bool)(p:Nat)(hp:p≤q.length)(hq:q.length≤8000000):
  a_ B w0 324 [br g] (Rr g A c q p F) (fun r L=>r= .tuple #[ah (unV q p),ah (unR q p)]∧L=Rr g A c q (unP q p) F):=by
 refine fw func324 39 [0] ?_;refine acx ?_;refine aE (fun zf zL zm=>∃(k:Nat),(k≤q.length∧Z q p=Z q k)∧q.length-k=zm∧Sub zf [(0,br g),(4,ah k)]∧Wk zL (Rr g A c q p F)) _ ⟨p,⟨hp,rfl⟩,rfl,bp,.refl _⟩ ?_;rintro _ _ _ ⟨k,⟨hk,hz⟩,rfl,hs,hp⟩;refine aU hs hp ?_;clear hs hp;refine cH ?_;refine aj (fun jj=>?_) fun jj=>?_
 ·refine bB ?_;refine ai rfl (ajK q k aa aa _ (packed q) rfl rfl aV aA) ?_;refine bA ?_;refine aj (fun qc=>?_) fun qc=>?_
  ·have qd:gX q k=1:=by omega
   have hzk:=agh qd aa;have hzg:=ak2 q p;have hzl:Z q p<q.length:=by omega
   refine bO ?_;refine ve [0,4,5] ?_;refine acw ?_;refine aq (L':=Rr g A c q (unP q p) F) (bq (by simp only[unP,ao hzl];refine aeE _ _ (?_ :_=_);omega) (.refl _)) ?_;refine aF ?_;simp only[unV,unR,ao hzl];exact⟨dB (fun x=>Value.tuple #[ah x,ah 0]) aa,trivial⟩
  ·refine bI ?_;refine av ⟨_,aa,k+1,⟨aa,by rw[hz];exact Lo aa aa⟩,rfl,bp,.refl _⟩
 ·refine dc ?_;have hzl:¬Z q p<q.length:=by have:=Xi (q:=q) (k:=k) aa;omega
  simp only[unV,unR,unP,aw hzl];exact⟨kT,kT⟩
theorem aq0(q:List Bool)(p:Nat)(hp:p≤q.length)(hq:q.length≤8000000):
  a_ B w0 343 [br g] (Rr g A c q p F) (fun r L=>r=ah (paE q p)∧L=Rr g A c q p F):=by
 have hpi:=aiw q hp;refine fw func343 22 [0] ?_;refine zI ?_;refine ai rfl (uo q p hp hq) ?_;refine bG ?_;refine Cy 14 21 [] (¬((q.length:Int)-p<8∧Z q p=q.length)) ?_ ?_
 ·refine bA ?_;refine Bb rfl rfl rfl (fun jx=>?_) (fun jx=>?_)
  ·refine cH ?_;have hle:q.length-p≤7:=by omega
   refine b8 ?_;refine jz abG rfl ((by rw[show(q.length:Int)-p=((q.length-p:Nat):Int) by omega];exact ET q p (q.length-p) hp aa aa _ (packed q) rfl rfl aV aA)) wB rfl ?_;refine bA ?_;exact qC aba
  ·refine bB ?_;exact qC agB
 ·refine be ?_;refine aj (fun l0=>?_) fun l0=>?_
  ·refine bI ?_;simp only[paE,aw l0];exact⟨kT,kT⟩
  ·refine bO ?_;simp only[paE,ao (Decidable.not_not.1 l0)];exact⟨kT,kT⟩
theorem T'{P:Prop}(h:P:=by(rw[hz];decide)):P:=h
theorem og{P:Prop}(h:P:=by(rw[hz])):P:=h
def zc(q:List Bool)(w n:Nat):bf:=(List.range n).map fun i=>part q (i*w) w
theorem sg(q:List Bool)(w n:Nat):(zc q w n).length=n:=by simp[zc]
theorem Og(q:List Bool)(w n:Nat):zc q w (n+1)=zc q w n++[part q (n*w) w]:=by simp[zc,lq]
def KU(bound p:Nat)(q:List Bool):bf→Nat→Nat→Int→bf→bf×Nat×Int
 |[],pos,_,_,out=>(out,pos,0)
 |x::ls,pos,high,was,out=>
  if¬Z q pos<q.length then ([],0,1)
  else if (((high+(Z q pos-pos))*p+x:Nat):Int)≤was then ([],0,2)
  else if bound≤(high+(Z q pos-pos))*p+x then ([],0,8)
  else KU bound p q ls (Z q pos+1) (high+(Z q pos-pos)) ((high+(Z q pos-pos))*p+x:Nat) (out++[(high+(Z q pos-pos))*p+x])
def B7(bound n:Nat)(b:al):bf×Nat×Int:=KU bound (2^wid bound n) (gh b) (zc (gh b) (wid bound n) n) (n*wid bound n) 0 (-1) []
def kZ(bound n:Nat)(b:al):Nat:=((gh b).length-(B7 bound n b).2.1)%8
def jB(bound n:Nat)(b:al):bf×Nat×Int:=
 if (gh b).length<n*wid bound n then ([],0,1)
 else if (B7 bound n b).2.2≠0 then ([],0,(B7 bound n b).2.2)
 else if part (gh b) (B7 bound n b).2.1 (kZ bound n b)≠0 then ([],0,2)
 else ((B7 bound n b).1,b.length-((gh b).length-((B7 bound n b).2.1+kZ bound n b))/8,0)
theorem adD(q:List Bool){m w:Nat}(hm:m≤20000)(hw:w≤14)(hq:q.length≤8000000)(hE:q.length<m*w):
  a_ B w0 323 [br g,ah m,ah w] (Rr g A c q 0 F) (fun r L=>r= .tuple #[.slice none 0 0,ah 1]∧L=Rr g A c q 0 F):=by
 have hmw:m*w≤20000*14:=gL hm hw;have hmul:IntKind.i64.wrap ((m:Int)*(w:Int))=((m*w:Nat):Int):=by
  rw[←z6];generalize m*w=z at*;exact bF aa aa
 refine fw func323 38 [0,1,2] ?_;refine cZ ?_;refine ab (eZ rfl rfl hmul) rfl ?_;refine aF ?_;refine ai rfl (uo q 0 (bS _) hq) ?_;refine bA ?_;refine zH fun iF=>?_;refine bO ?_;exact⟨rfl,rfl⟩
theorem ah4(q:List Bool){m w:Nat}(hm:m≤20000)(hw:w≤14)(hq:q.length≤8000000)(hE:m*w≤q.length):
  a_ B w0 323 [br g,ah m,ah w] (Rr g A c q 0 F) (fun r L=>∃A' c',r= .tuple #[.slice A' m c',ah 0]∧L=Rr g A c q (m*w) (.own 57 1 A' m c' (oa (zc q w m))::F)):=by
 have hmw:m*w≤20000*14:=gL hm hw;have hmul:IntKind.i64.wrap ((m:Int)*(w:Int))=((m*w:Nat):Int):=by
  rw[←z6];generalize m*w=z at*;exact bF aa aa
 refine fw func323 38 [0,1,2] ?_;refine cZ ?_;refine ab (eZ rfl rfl hmul) rfl ?_;refine aF ?_;refine ai rfl (uo q 0 (bS _) hq) ?_;refine bA ?_;refine dm fun iF=>?_;refine bG ?_;refine cC (fb uI rfl rfl rfl rfl rfl aa aa aa) fun Lp=>?_;refine cH ?_;refine aE (fun zf zL zm=>∃(k:Nat),(k≤m)∧m-k=zm∧Sub zf [(0,br g),(2,ah w),(8,.slice Lp m m),(21,ah m),(22,ah k)]∧Wk zL (Rr g A c q (k*w) (.own 57 1 Lp m m (oa (zc q w k)++List.replicate (m-k) (.int .u16 0))::F))) _ ⟨0,bS _,rfl,bp,by rw[se];exact(gk (gk (ed (.refl _))))⟩ ?_;rintro _ _ _ ⟨k,hk,rfl,hs,hp⟩;refine aU hs hp ?_;clear hs hp;refine bz ?_;refine aj (fun m7=>?_) fun m7=>?_
 ·have hkw:(k+1)*w≤m*w:=oA w aa;have Rx:(k+1)*w=k*w+w:=j8 k w;have mN:=qq q (k*w) w;have hpw:=uE hw;have hlr:=sg q w k;have hgv:oK q (k*w) w=part q (k*w) w:=by unfold oK;rw[aw aa,aw aa,nH]
  have Rw:iE q (k*w) w=(k+1)*w:=by unfold iE;rw[aw aa,aw aa,nH,Rx]
  refine dQ ?_;refine ai rfl (Ik q (k*w) aa hq w aa aa) ?_;rw[hgv,Rw];refine alV ?_;refine ve [0,2,8,21,22] ?_;refine av ⟨_,aa,k+1,aa,rfl,bp,.cons (.cons (ax rfl (by rw[cE,Wn _ (show k<m by omega),KX _ _ _ _ (by simp[sg]),Og];simp[oa]) (.refl _)))⟩
 ·refine dc ?_;obtain rfl:k=m:=by omega
  refine aq (L':=Rr g A c q (k*w) (.own 57 1 Lp k k (oa (zc q w k))::F)) (.cons (.cons (ax rfl (by rw[nE,NV,gj]) (.refl _)))) ?_;refine aF ?_;exact⟨Lp,k,rfl,rfl⟩
theorem DL{bound m:Nat}{b:al}(h:(gh b).length<m*wid bound m):jB bound m b=([],0,1):=ao h
theorem UL{bound m:Nat}{b:al}(h:¬(gh b).length<m*wid bound m)(he:(B7 bound m b).2.2≠0):jB bound m b=([],0,(B7 bound m b).2.2):=by unfold jB;rw[aw h,ao he]
theorem UM{bound m:Nat}{b:al}(h:¬(gh b).length<m*wid bound m)(he:¬(B7 bound m b).2.2≠0)(hp:part (gh b) (B7 bound m b).2.1 (kZ bound m b)≠0):jB bound m b=([],0,2):=by unfold jB;rw[aw h,aw he,ao hp]
theorem MU{bound m:Nat}{b:al}(h:¬(gh b).length<m*wid bound m)(he:¬(B7 bound m b).2.2≠0)(hp:¬part (gh b) (B7 bound m b).2.1 (kZ bound m b)≠0):jB bound m b=((B7 bound m b).1,b.length-((gh b).length-((B7 bound m b).2.1+kZ bound m b))/8,0):=by unfold jB;rw[aw h,aw he,aw hp]
theorem orQ{h x w p:Nat}(hp:p=2^w)(hx:x<p)(hb:h*p≤4611686018427387904)(LC:p≤16384):IntKind.i64.wrap ((BitVec.ofInt IntKind.i64.bits ((h*p:Nat):Int) ||| BitVec.ofInt IntKind.i64.bits (x:Int)).toNat:Int)=((h*p+x:Nat):Int):=by
 have hh:=ac' (h*p) x aa aa;have e:h*p ||| x=h*p+x:=by
  rw[hp]at hx⊢;rw[nL,←NR hx]
 rw[e]at hh;exact hh
theorem ah2{q:List Bool}{w m k:Nat}(h:k<m):(zc q w m).getD k 0=part q (k*w) w:=by simp[zc,List.getD,h]
def agm(bound m:Nat)(b:al)(F:aQ)(r:Value)(L:aQ):Prop:=
 ((jB bound m b).2.2≠0∧r= .tuple #[.pointer none,ah 0,ah (jB bound m b).2.2]∧L=F)∨
 ((jB bound m b).2.2=0∧∃g A1 c1 A2 c2,r= .tuple #[br g,ah (jB bound m b).2.1,ah 0]∧L=Pt g 405 (wid bound m) (2^wid bound m) A1 c1 A2 c2 (jB bound m b).1 F)
theorem aiP{bound m:Nat}{b:al}(hb:eM B w0 F A c b)(de:b.length≤1000000)(oL:bound≤20000)(hm:1≤m)(hmb:m≤bound)(hE:(gh b).length<m*wid bound m):
  a_ B w0 299 [ah bound,ah m,.slice A b.length c] F (agm bound m b F):=by
 have za:=dO b;have CE:=xf (n:=m) oL;refine fw func299 107 [0,1,2] ?_;refine bB ?_;refine dX rfl (EO hb aa) fun g24 Bg Di=>?_;refine bK ?_;refine ai rfl (Lh bound m oL hm hmb) ?_;refine ab (bw [(0,_)] [ah 0,.slice none 0 0,.slice none 0 0] [0] [_,_,_] rfl rfl ag) rfl ?_;refine ab (eG [(0,_)] [_,_,_] rfl rfl ag) rfl ?_;refine bh fun g30=>?_;refine cH ?_;refine ai rfl ((adD (gh b) (m:=m) (w:=wid bound m) aa CE aa hE).perm ((l_ (l_ (fR (.refl _)))))) ?_;refine bG ?_;refine ve [0,2,9,10,11,12] ?_;refine bI ?_;refine aj (fun Rf=>?_) fun Rf=>?_
 ·refine bB ?_;refine aq (L':=F) (.skip (.skip (.skip (.refl _)))) ?_;refine aF ?_;exact .inl ⟨by rw[DL hE];decide,by rw[DL hE],rfl⟩
 ·exfalso;exact Rf aB
theorem anr{bound m:Nat}{b:al}(hb:eM B w0 F A c b)(de:b.length≤1000000)(oL:bound≤20000)(hm:1≤m)(hmb:m≤bound)(hE:¬(gh b).length<m*wid bound m):
  a_ B w0 299 [ah bound,ah m,.slice A b.length c] F (agm bound m b F):=by
 have za:=dO b;have CE:=xf (n:=m) oL;have hF0:B7 bound m b=KU bound (2^wid bound m) (gh b) (zc (gh b) (wid bound m) m) (m*wid bound m) 0 (-1) []:=rfl;have Nq:kZ bound m b=((gh b).length-(B7 bound m b).2.1)%8:=rfl;unfold agm;have P_:jB bound m b=jB bound m b:=rfl;obtain⟨q,hq⟩:=cK (gh b);have hEe:= @UL bound m b hE;have hEp:= @UM bound m b hE;have hEo:= @MU bound m b hE;rw[←hq]at hE za hF0 Nq hEp hEo;obtain⟨w,hw⟩:=cK (wid bound m);rw[←hw]at hE CE hF0⊢;obtain⟨p,hp⟩:=cK (2^w);rw[←hp]at hF0⊢;have Vl:1≤p:=by rw[hp];exact Nat.one_le_two_pow
 have LC:p≤16384:=by rw[hp];exact uE CE
 have auc:=sg q w m;refine fw func299 107 [0,1,2] ?_;refine bB ?_;refine dX rfl (EO hb aa) fun g24 Bg Di=>?_;rw[←hq];refine bK ?_;refine ai rfl (Lh bound m oL hm hmb) ?_;rw[←hw];refine ab (bw [(0,_)] [ah 0,.slice none 0 0,.slice none 0 0] [0] [_,_,_] rfl rfl ag) rfl ?_;refine ab (eG [(0,_)] [_,_,_] rfl rfl ag) rfl ?_;refine bh fun g30=>?_;refine cH ?_;refine ay rfl ((ah4 q (m:=m) (w:=w) aa CE aa aa).perm ((l_ (l_ (fR (.refl _)))))) fun A39 c39=>?_;refine bG ?_;refine ve [0,2,9,10,11,12] ?_;refine bI ?_;refine aj (fun Rf=>?_) fun Rf=>?_
 ·exfalso;exact Rf aB
 ·refine bA ?_;refine aZ 57 1 none ?_;refine aZ 3 1 none ?_;refine dQ ?_;refine aE (fun zf zL zm=>∃(k pos high:Nat) (was:Int) (out:bf) (P1:bj) (p1:Nat) (P2:bj) (p2:Nat),(k≤m∧pos≤q.length∧high≤20000∧out.length=k∧KU bound p q ((zc q w m).drop k) pos high was out=B7 bound m b)∧m-k=zm∧Sub zf [(0,ah bound),(2,.slice A b.length c),(9,br g24),(10,br g30),(13,ah high),(14,ah was),(45,.slice A39 m c39),(46,ah m),(47,ah k)]∧Wk zL (Rr g24 Bg Di q pos (Pt g30 405 w p P1 p1 P2 p2 out (.own 57 1 A39 m c39 (oa (zc q w m))::F)))) _ ⟨0,m*w,0,-1,[],none,0,none,0,⟨bS _,aa,bS _,rfl,hF0.symm⟩,rfl,bp,(rQ (rQ (tF (ed (ed (ed (.refl _)))))))⟩ ?_;rintro _ _ _ ⟨k,pos,high,was,out,P1,p1,P2,p2,⟨hk,tZ,hhi,Kl,hG⟩,rfl,hs,hp⟩;refine aU hs hp ?_;clear hs hp;refine bz ?_;refine aj (fun Np=>?_) fun Np=>?_
  ·have hx:=ah2 (q:=q) (w:=w) (m:=m) (k:=k) aa;have Qc:=qq q (k*w) w;have hd:=dx (l:=zc q w m) (k:=k) aa 0;obtain⟨x,hxx⟩:=cK ((zc q w m).getD k 0);have Ge:(oa (zc q w m))[k*1]? =some (.int .u16 (x:Int)):=by rw[hxx];exact afS aa
   rw[←hx,←hxx,←hp]at Qc;rw[hd,←hxx,KU]at hG;have hzg:=ak2 q pos;have hzl:=arB q tZ;refine bK ?_;refine ab (au ag rfl aA aa Ge) rfl ?_;refine bz ?_;refine ai rfl (afU q pos tZ aa) ?_;refine dQ ?_;refine aj (fun h57=>?_) fun h57=>?_
   ·have hnz:¬Z q pos<q.length:=fun h=>h57 (by unfold unR;rw[ao h]);have tg:unR q pos=1:=by unfold unR;rw[aw hnz]
    rw[ao hnz]at hG;have hz:=hEe (by rw[←hG];decide);rw[←hG]at hz;refine bz ?_;refine ve [6,7,8] ?_;refine bI ?_;refine aq (L':=F) (.skip (.skip (.skip (.skip (.skip (.skip (.refl _))))))) ?_;refine aF ?_;exact .inl ⟨T',by rw[hz,tg],rfl⟩
   ·have hnz:Z q pos<q.length:=bH fun h=>h57 (by unfold unR;rw[aw h];decide);have hv:unV q pos=((Z q pos-pos:Nat):Int):=by unfold unV;rw[ao hnz];omega
    have hu:unP q pos=Z q pos+1:=by unfold unP;rw[ao hnz]
    rw[hv,hu];rw[aw (by simpa using hnz)]at hG;obtain⟨h2,hh2⟩:=cK (high+(Z q pos-pos));rw[←hh2]at hG;have hmul:h2*p≤10000000*16384:=gL aa LC;obtain⟨id,hid⟩:=cK (h2*p+x);rw[←hid]at hG;refine bz ?_;refine ab (bX rfl rfl (r:=(h2:Int)) ((bF aa aa).trans aa)) rfl ?_;refine cZ ?_;refine ab (ga rfl rfl aa (aiX hp CE aa)) rfl ?_;refine be ?_;refine ab (tN rfl rfl (r:=(id:Int)) ((orQ hp Qc aa LC).trans (by rw[hid]))) rfl ?_;refine aF ?_;refine ve [0,2,9,10,13,14,19,45,46,47] ?_;refine cZ ?_;refine aj (fun Yr=>?_) fun Yr=>?_
    ·rw[ao aa]at hG;have hz:=hEe (by rw[←hG];decide);rw[←hG]at hz;refine jk ?_;refine aq (L':=F) (.skip (.skip (.skip (.skip (.skip (.skip (.refl _))))))) ?_;refine aF ?_;exact .inl ⟨T',og,rfl⟩
    ·rw[aw aa]at hG;refine bI ?_;refine aj (fun h76=>?_) fun h76=>?_
     ·rw[ao aa]at hG;have hz:=hEe (by rw[←hG];decide);rw[←hG]at hz;refine bG ?_;refine ve [6,7,8] ?_;refine bO ?_;refine aq (L':=F) (.skip (.skip (.skip (.skip (.skip (.skip (.refl _))))))) ?_;refine aF ?_;exact .inl ⟨T',og,rfl⟩
     ·rw[aw aa]at hG;have at2:h2≤h2*p:=ahW h2 Vl;refine dQ ?_;refine aX ajP rfl ((aeb 405 hp CE out id aa aa).perm ((BM (BM (BM (fR (fR (.refl _)))))))) rfl ?_;rintro _ _ ⟨rfl,P85,p85,Q85,q85,cA⟩;obtain rfl:=cA.symm;refine bz ?_;refine ve [0,2,9,10,13,14,45,46,47] ?_;refine av ⟨_,aa,k+1,Z q pos+1,h2,(id:Int),out++[id],P85,p85,Q85,q85,⟨aa,aa,aa,bR,hG⟩,rfl,bp,(tF (tF (ed (ed (ed (.refl _))))))⟩
  ·obtain rfl:k=m:=by omega
   rw[mu aa,KU]at hG;rw[←hG]at hEp hEo Nq;simp only at Nq;obtain⟨rest,NF⟩:=cK (kZ bound k b);rw[←NF]at Nq hEp hEo;have hrm:((q.length:Int)-pos).tmod 8=(rest:Int):=by
    rw[show(q.length:Int)-pos=((q.length-pos:Nat):Int) by omega,Nq];exact(Int.ofNat_tmod _ 8).symm
   have hrl:rest<8:=by omega
   refine bG ?_;refine d_ (fun zf zL=>(part q pos rest=0)∧Sub zf [(2,.slice A b.length c),(9,br g24),(10,br g30)]∧Wk zL (Rr g24 Bg Di q (pos+rest) (Pt g30 405 w p P1 p1 P2 p2 out (.own 57 1 A39 k c39 (oa (zc q w k))::F)))) ?_ ?_
   ·refine bA ?_;refine ai rfl (uo q pos tZ aa) ?_;refine ab (nt rfl rfl aa hrm) rfl ?_;refine bO ?_;refine aj (fun h91=>?_) fun h91=>?_
    ·have hgv:oK q pos rest=part q pos rest:=by unfold oK;rw[aw aa,aw aa,nH]
     have Rw:iE q pos rest=pos+rest:=by unfold iE;rw[aw aa,aw aa,nH]
     refine b8 ?_;refine ai rfl (Ik q pos tZ aa rest aa aa) ?_;rw[hgv,Rw];refine bG ?_;refine ve [2,9,10,21] ?_;refine bK ?_;refine aj (fun h99=>?_) fun h99=>?_
     ·have hz:=hEp ak (show part q pos rest≠0 by omega);refine bO ?_;refine aq (L':=F) (.skip (.skip (.skip (.skip (.skip (.skip (.refl _))))))) ?_;refine aF ?_;exact .inl ⟨T',og,rfl⟩
     ·refine aF ?_;exact bD ⟨aa,bp,.refl _⟩
    ·refine aF ?_;have hr0:rest=0:=by omega
     exact bD ⟨by rw[hr0];rfl,bp,by rw[hr0,tk];exact .refl _⟩
   ·rintro _ _ ⟨hpz,hs,hp⟩;refine aU hs hp ?_;clear hs hp;refine bz ?_;refine ai rfl (uo q (pos+rest) aa aa) ?_;refine ab (mh rfl rfl aa (r:=(((q.length-(pos+rest))/8:Nat):Int)) (by rw[show(q.length:Int)-((pos+rest:Nat):Int)=((q.length-(pos+rest):Nat):Int) by omega];exact aiF aa)) rfl ?_;refine ab (dw rfl rfl (r:=((b.length-(q.length-(pos+rest))/8:Nat):Int)) ((bF aa aa).trans aa)) rfl ?_;refine bz ?_;have hz:=hEo ak (by simpa using hpz);refine aq (L':=Pt g30 405 w p P1 p1 P2 p2 out F) ((rQ (rQ (rQ (.skip (.skip (.skip (.refl _)))))))) ?_;refine aF ?_;exact .inr ⟨og,g30,P1,p1,P2,p2,og,og⟩
theorem dL.jf{P:Program}{B:Nat}{w0:World}{f:FuncId}{args:cV}{L M:aQ}{v:Value}(h:dL P B w0 f args M (fun r K=>r=v∧K=M))(hp:L.Perm M):dL P B w0 f args L (fun r K=>r=v∧K=L):=fun w hw=>
 (h w (hw.perm hp)).mono fun e w' ⟨r,K,he,⟨hr,hK⟩,hs⟩=>by subst hK;exact⟨r,L,he,⟨hr,rfl⟩,hs.perm hp.symm⟩
theorem Kj(a:Nat):((a:Int)).fdiv (2^min (1:Int).toNat IntKind.u64.bits)=((a/2:Nat):Int):=by
 have e:min (1:Int).toNat IntKind.u64.bits=1:=by decide
 rw[e,we _ aB];rfl
abbrev Rl(g w p:Nat)(A1:bj)(c1:Nat)(A2:bj)(c2:Nat)(xs:bf)(F:aQ):aQ:=Pt g 405 w p A1 c1 A2 c2 xs F
theorem ady{w p:Nat}{xs:bf}:a_ B w0 269 [br g] (Rl g w p A1 c1 A2 c2 xs F) (fun r L=>r=ah xs.length∧L=Rl g w p A1 c1 A2 c2 xs F):=by
 refine fw func269 11 [0] ?_;refine ap5 ?_;exact⟨rfl,rfl⟩
theorem kX.mono{bound:Nat}{xs:bf}(h:kX bound xs):∀j i,i≤j→j<xs.length→xs.getD i 0≤xs.getD j 0
 |0,i,Iq,_=>by rw[Nat.le_zero.1 Iq];exact gi _
 |j+1,i,Iq,hj=>by
  by_cases e:i=j+1
  ·rw[e];exact gi _
  ·have h1:=kX.mono h j i aa aa;have h2:=(h (j+1) hj).2 aa;rw[wh]at h2;omega
theorem amA{w p:Nat}(hp:p=2^w)(hw:w≤14){xs:bf}(hx:∀i,i<xs.length→xs.getD i 0≤1000000)(hl:xs.length≤1000000):
  a_ B w0 270 [br g] (Rl g w p A1 c1 A2 c2 xs F) (fun r L=>∃A' c',r= .slice A' xs.length c'∧L=Rl g w p A1 c1 A2 c2 xs (.own 3 1 A' xs.length c' (bx xs)::F)):=by
 refine fw func270 20 [0] ?_;refine bz ?_;refine aZ 3 1 none ?_;refine bI ?_;refine ai rfl ((ady (w:=w) (p:=p) (xs:=xs)).jf ((l_ (l_ (l_ (fR (.refl _))))))) ?_;refine b8 ?_;refine aE (fun zf zL zm=>∃(k:Nat) (A5:bj) (c5:Nat),(k≤xs.length)∧xs.length-k=zm∧Sub zf [(0,br g),(3,.slice A5 k c5),(6,ah xs.length),(7,ah k)]∧Wk zL (Rl g w p A1 c1 A2 c2 xs (.own 3 1 A5 k c5 (bx (xs.take k))::F))) _ ⟨0,none,0,bS _,rfl,bp,(gk (gk (gk (ed (.refl _)))))⟩ ?_;rintro _ _ _ ⟨k,A5,c5,hk,rfl,hs,hp⟩;refine aU hs hp ?_;clear hs hp;refine bz ?_;refine aj (fun h8=>?_) fun h8=>?_
 ·refine jQ ?_;refine ai rfl (amR 405 hp hw xs k aa (hx k aa)) ?_;refine dF fJ rfl rfl rfl rfl rfl (fun _=>rfl) aV aa aa ?_;intro _ TP c17;refine bI ?_;refine av ⟨_,aa,k+1,TP,c17,aa,rfl,bp,.cons (.cons (.cons (ax rfl (by rw[ba (show k<xs.length by omega) 0];simp[bx]) (.refl _))))⟩
 ·refine cH ?_;obtain rfl:k=xs.length:=by omega
  rw[jS];refine aF ?_;exact⟨A5,c5,rfl,rfl⟩
theorem Mu:a_ B w0 177 [br g] (Cv g A c s::F) (fun r L=>r=ah s.at_∧L=Cv g A c s::F):=by
 refine fw func177 10 [0] ?_;refine acx ?_;exact⟨rfl,rfl⟩
def ta(bound:Int)(b:al):Cs:=Cs.bW ⟨b,0,0⟩ bound
def Cj(bound:Int)(b:al):Nat:=Cs.int ⟨b,0,0⟩ bound
def Gg(bound:Int)(b:al):bf×Nat×Int:=jB bound.toNat (Cj bound b) (b.drop (ta bound b).at_)
def iI(bound:Int)(b:al):bf×Nat×Int:=
 if bound<0∨20000<bound then ([],0,13)
 else if (ta bound b).e≠0 then ([],0,(ta bound b).e)
 else if Cj bound b=0 then ([],(ta bound b).at_,0)
 else if (Gg bound b).2.2≠0 then ([],0,(Gg bound b).2.2)
 else ((Gg bound b).1,(ta bound b).at_+(Gg bound b).2.1,0)
theorem DJ{bound:Int}{b:al}(h:bound<0∨20000<bound):iI bound b=([],0,13):=ao h
theorem DK{bound:Int}{b:al}(h:¬(bound<0∨20000<bound))(h1:(ta bound b).e≠0):iI bound b=([],0,(ta bound b).e):=by unfold iI;rw[aw h,ao h1]
theorem J0{bound:Int}{b:al}(h:¬(bound<0∨20000<bound))(h1:¬(ta bound b).e≠0)(h2:Cj bound b=0):iI bound b=([],(ta bound b).at_,0):=by unfold iI;rw[aw h,aw h1,ao h2]
theorem abS{bound:Int}{b:al}(h:¬(bound<0∨20000<bound))(h1:¬(ta bound b).e≠0)(h2:¬Cj bound b=0)(h3:(Gg bound b).2.2≠0):iI bound b=([],0,(Gg bound b).2.2):=by unfold iI;rw[aw h,aw h1,aw h2,ao h3]
theorem QZ{bound:Int}{b:al}(h:¬(bound<0∨20000<bound))(h1:¬(ta bound b).e≠0)(h2:¬Cj bound b=0)(h3:¬(Gg bound b).2.2≠0):iI bound b=((Gg bound b).1,(ta bound b).at_+(Gg bound b).2.1,0):=by unfold iI;rw[aw h,aw h1,aw h2,aw h3]
def aoc(bound:Int)(b:al)(F:aQ)(r:Value)(L:aQ):Prop:=
 ((iI bound b).2.2≠0∧r= .tuple #[.pointer none,ah 0,ah (iI bound b).2.2]∧L=F)∨
 ((iI bound b).2.2=0∧∃w p g A1 c1 A2 c2,p=2^w∧w≤14∧r= .tuple #[br g,ah (iI bound b).2.1,ah 0]∧L=Rl g w p A1 c1 A2 c2 (iI bound b).1 F)
theorem H7(bound m:Nat)(b:al):(jB bound m b).2.1≤b.length:=by
 unfold jB;split
 ·exact bS _
 ·split
  ·exact bS _
  ·split
   ·exact bS _
   ·exact Nat.sub_le ..
theorem akD{bound m:Nat}{b:al}(hb:eM B w0 F A c b)(de:b.length≤1000000)(oL:bound≤20000)(hm:1≤m)(hmb:m≤bound):
  a_ B w0 299 [ah bound,ah m,.slice A b.length c] F (agm bound m b F):=by
 by_cases hE:(gh b).length<m*wid bound m
 ·exact aiP hb de oL hm hmb hE
 ·exact anr hb de oL hm hmb hE
theorem abV{bound:Int}{b:al}(hb:eM B w0 F A c b)(de:b.length≤1000000)(acE:-9223372036854775808≤bound)(Nr:bound≤9223372036854775807):
  a_ B w0 268 [ah bound,.slice A b.length c] F (aoc bound b F):=by
 have ho0:ct ⟨b,0,0⟩:=⟨bS _,cY⟩
 have ho1:ct (ta bound b):=ho0.bW Nr;have hrb:(ta bound b).b=b:=Cs.cN _ _ _;have GJ:(ta bound b).at_≤b.length:=by have:=ho1.at_;rw[hrb]at this;exact this
 have hnb:0≤bound→(Cj bound b:Int)≤bound:=fun h=>by
  unfold Cj Cs.int;rw[aw ak];by_cases he:(eu (Cs.rest ⟨b,0,0⟩) bound).2.2=0
  ·exact(jy _ bound Nr).2.2.2 he
  ·rw[(pA he).1];exact h
 have hcut:=hb.cut GJ;have hrl:(Gg bound b).2.1≤b.length:=by
  have:=H7 bound.toNat (Cj bound b) (b.drop (ta bound b).at_);rw[iG]at this;unfold Gg;omega
 have arW:(bv b).drop ((ta bound b).at_*1)=bv (b.drop (ta bound b).at_):=by rw[cE,js]
 rw[arW,show b.length-(ta bound b).at_=(b.drop (ta bound b).at_).length from(iG ..).symm]at hcut;have hint:∀{g:Nat} {A':bj} {c':Nat} {F':aQ},aK B w0 F' 1 (.slice A' b.length c') b.length (bv b)→a_ B w0 172 [br g,ah bound] (Cv g A' c' ⟨b,0,0⟩::F') (fun r L=>r=ah (Cj bound b)∧L=Cv g A' c' (ta bound b)::F'):=fun P3=>iH ho0 P3 acE Nr;by_cases hRw:(Gg bound b).2.2=0
 ·refine fw func268 54 [0,1] ?_;refine bB ?_;refine bU 6 18 [0,1] (bound<0∨20000<bound) ?_ ?_
  ·refine bA ?_;refine aL rfl rfl rfl (fun kL=>?_) (fun kL=>?_)
   ·refine b8 ?_;exact aP oV
   ·refine be ?_;exact aP vA
  ·refine be ?_;refine aj (fun jj=>?_) fun jj=>?_
   ·refine bB ?_;exact .inl ⟨by rw[DJ jj];decide,by rw[DJ jj],rfl⟩
   ·obtain⟨bn,rfl⟩:=gJ (show 0≤bound by omega);have asM:=hnb aa;refine bG ?_;refine dX rfl (mY hb aa) fun g20 G' JL=>?_;refine bK ?_;refine ai rfl (hint aA) ?_;refine bK ?_;refine ai rfl (gM) ?_;refine bO ?_;refine aj (fun kg=>?_) fun kg=>?_
    ·refine bB ?_;refine aq (L':=F) (.skip (.skip (.refl _))) ?_;refine aF ?_;exact .inl ⟨by rw[DK jj kg];exact kg,by rw[DK jj kg],rfl⟩
    ·refine bO ?_;refine aj (fun Bu=>?_) fun Bu=>?_
     ·refine aF ?_;refine aZ 57 1 none ?_;refine aZ 3 1 none ?_;refine fP ((BM (BM (fR (fR (.refl _)))))) ?_;refine aF ?_;refine ab (cu [ah 0,.slice none 0 0,.slice none 0 0] ag) rfl ?_;refine bh fun g32=>?_;refine aF ?_;refine ai rfl ((Mu).jf ((l_ (fR (.refl _))))) ?_;refine bA ?_;refine ve [4,5,6] ?_;refine bA ?_;have hz:=J0 (b:=b) jj kg (show Cj bn b=0 by omega);refine aq (L':=Rl g32 0 1 none 0 none 0 [] F) ((ed (rQ (rQ (.skip (.skip (.refl _))))))) ?_;refine aF ?_;exact .inr ⟨og,0,1,g32,none,0,none,0,rfl,aa,og,og⟩
     ·refine bI ?_;refine ai rfl (Mu) ?_;refine ab (bQ (i:=(ta bn b).at_) (size:=1) underlying27 ag rfl rfl rfl GJ) rfl ?_;rw[show b.length-(ta bn b).at_=(b.drop (ta bn b).at_).length from(iG ..).symm];refine aX apw rfl ((akD (bound:=bn) (m:=Cj bn b) (b:=b.drop (ta bn b).at_) (.cons (.cons hcut)) kU aa aa aa).mono (R':=fun r L=>∃g A1 c1 A2 c2,r= .tuple #[br g,ah (Gg bn b).2.1,ah 0]∧L=Rl g (wid bn (Cj bn b)) (2^wid bn (Cj bn b)) A1 c1 A2 c2 (Gg bn b).1 (Cv g20 G' JL (ta bn b):: .own 5 1 G' b.length JL (bv b)::F)) (fun r L h=>by rcases h with⟨h1,_⟩|⟨_,h⟩;exact absurd hRw h1;exact h)) rfl ?_;rintro _ _ ⟨g42,P42,p42,Q42,q42,rfl,cA⟩;obtain rfl:=cA.symm;refine bK ?_;refine ve [7,10,11,12] ?_;refine bI ?_;refine aj (fun Va=>?_) fun Va=>?_
      ·exfalso;exact Va rfl
      ·refine bz ?_;refine ai rfl ((Mu).jf ((pu3 (fR (fR (fR (.refl _))))))) ?_;refine aF ?_;refine ab (bX rfl rfl (r:=(((ta bn b).at_+(Gg bn b).2.1:Nat):Int)) ((bF aa aa).trans aa)) rfl ?_;refine bz ?_;have hz:=QZ (b:=b) jj kg (show¬Cj bn b=0 by omega) (by simpa using hRw);refine aq (L':=Rl g42 (wid bn (Cj bn b)) (2^wid bn (Cj bn b)) P42 p42 Q42 q42 (Gg bn b).1 F) ((ed (ed (ed (.skip (.skip (.refl _))))))) ?_;refine aF ?_;exact .inr ⟨og,wid bn (Cj bn b),_,g42,P42,p42,Q42,q42,rfl,xf aa,og,og⟩
 ·refine fw func268 54 [0,1] ?_;refine bB ?_;refine bU 6 18 [0,1] (bound<0∨20000<bound) ?_ ?_
  ·refine bA ?_;refine aL rfl rfl rfl (fun kL=>?_) (fun kL=>?_)
   ·refine b8 ?_;exact aP oV
   ·refine be ?_;exact aP vA
  ·refine be ?_;refine aj (fun jj=>?_) fun jj=>?_
   ·refine bB ?_;exact .inl ⟨by rw[DJ jj];decide,by rw[DJ jj],rfl⟩
   ·obtain⟨bn,rfl⟩:=gJ (show 0≤bound by omega);have asM:=hnb aa;refine bG ?_;refine dX rfl (mY hb aa) fun g20 G' JL=>?_;refine bK ?_;refine ai rfl (hint aA) ?_;refine bK ?_;refine ai rfl (gM) ?_;refine bO ?_;refine aj (fun kg=>?_) fun kg=>?_
    ·refine bB ?_;refine aq (L':=F) (.skip (.skip (.refl _))) ?_;refine aF ?_;exact .inl ⟨by rw[DK jj kg];exact kg,by rw[DK jj kg],rfl⟩
    ·refine bO ?_;refine aj (fun Bu=>?_) fun Bu=>?_
     ·refine aF ?_;refine aZ 57 1 none ?_;refine aZ 3 1 none ?_;refine fP ((BM (BM (fR (fR (.refl _)))))) ?_;refine aF ?_;refine ab (cu [ah 0,.slice none 0 0,.slice none 0 0] ag) rfl ?_;refine bh fun g32=>?_;refine aF ?_;refine ai rfl ((Mu).jf ((l_ (fR (.refl _))))) ?_;refine bA ?_;refine ve [4,5,6] ?_;refine bA ?_;have hz:=J0 (b:=b) jj kg (show Cj bn b=0 by omega);refine aq (L':=Rl g32 0 1 none 0 none 0 [] F) ((ed (rQ (rQ (.skip (.skip (.refl _))))))) ?_;refine aF ?_;exact .inr ⟨og,0,1,g32,none,0,none,0,rfl,aa,og,og⟩
     ·refine bI ?_;refine ai rfl (Mu) ?_;refine ab (bQ (i:=(ta bn b).at_) (size:=1) underlying27 ag rfl rfl rfl GJ) rfl ?_;rw[show b.length-(ta bn b).at_=(b.drop (ta bn b).at_).length from(iG ..).symm];refine ai rfl ((akD (bound:=bn) (m:=Cj bn b) (b:=b.drop (ta bn b).at_) (.cons (.cons hcut)) kU aa aa aa).mono (R':=fun r L=>r= .tuple #[.pointer none,ah 0,ah (Gg bn b).2.2]∧L=Cv g20 G' JL (ta bn b):: .own 5 1 G' b.length JL (bv b)::F) (fun r L h=>by rcases h with⟨_,h⟩|⟨h1,_⟩;exact h;exact absurd h1 hRw)) ?_;refine bK ?_;refine ve [7,10,11,12] ?_;refine bI ?_;refine aj (fun Va=>?_) fun Va=>?_
      ·refine bB ?_;have hz:=abS (b:=b) jj kg (show¬Cj bn b=0 by omega) hRw;refine aq (L':=F) (.skip (.skip (.refl _))) ?_;refine aF ?_;exact .inl ⟨by rw[hz];exact hRw,og,rfl⟩
      ·exfalso;exact Va hRw
end Go.Proofs.YtaodmbolhoafcaaGreatDoor

/-
  Texts of one proof, joined: part 6. No condition.
-/
import Derived.Test.YtaodmbolhoafcaaGreatDoorZc5
open Go.RowKit Go.Proofs.Tryz
namespace Go.Proofs.YtaodmbolhoafcaaGreatDoor
set_option linter.unusedVariables false
set_option linter.unusedSimpArgs false
set_option maxRecDepth 20000
variable{B:Nat}{w0:World}{F:aP}{A A1 A2:bj}{n c c1 c2 g:Nat}{bt:TypeId}{f:Ch→aP}{s:Cs}
section
theorem ny:type_of% @List.mem_append_right:= @List.mem_append_right
theorem j8:type_of% @List.mem_append_left:= @List.mem_append_left
def Ch.isObj:Ch→Bool
 | .obj _ _=>true
 |_=>false
section
variable{B:Nat}{w0 w w':World}{L M:aP}{c d:Ch}
theorem Ch.holds.cells(h:c.holds B w)(hc:c.isObj=false){g:Nat}(hg:c.fp=some g):∃o,w.heap[g]? =some o∧o.isCells=true:=by
 cases c with
 |own e size A n cc xs=>
  obtain⟨_,_,h⟩:=h;simp only[Ch.fp]at hg;by_cases qF:cc=0
  ·rw[ao qF]at hg;cases hg
  ·rw[aw qF]at hg;obtain⟨g',cur,rfl,h1,h2,_⟩:=h.resolve_left qF;simp at hg;subst hg;exact⟨_,h2,rfl⟩
 |bD g' t cs=>
  simp only[Ch.fp,Et]at hg;subst hg;exact⟨_,h.2,rfl⟩
 |obj g' o=>cases hc
theorem SL.anY(h:SL B w0 M w){row:Option Nat}(hg:w.grownBy w' row){K:Nat}(hK:B≤K)(hr:∀r,row=some r→K≤r∧∃o:Obj,w.heap[r]? =some o∧o.isCells=false)(ho:∀c∈M,c.isObj=true→∀g,c.fp=some g→g<K):SL B w0 M w':=by
 refine⟨h.below.grown hg h.base (fun k hk=>jd hK (hr k hk).1),jd h.base hg.size,fun c hc=>(h.all c hc).keep fun g hgc=>?_,h.apart⟩;refine hg.block g ((h.all c hc).lt hgc).2 fun e=>?_;obtain⟨h1,o,h2,h3⟩:=hr g e.symm;cases xX:c.isObj with
 |true=>exact absurd (ho c hc xX g hgc) aa
 |false=>
  obtain⟨o',h4,h5⟩:=(h.all c hc).cells xX hgc;rw[h2]at h4;cases h4
  rw[h3]at h5;cases h5
theorem aJ.later{size n:Nat}{v:Value}{xs:cV}{w1:World}(h:aJ B w0 L size v n xs)(hb:Below B w0 w1):aJ B w1 L size v n xs:=fun w hs=>h w ⟨hb.trans hs.below,hs.base,hs.all,hs.apart⟩
def rest(B:Nat)(M:aP)(w:World):aP:=((List.range w.heap.size).filter fun k=>decide (B≤k)&&M.all fun c=>decide (c.fp≠some k)).filterMap fun k=>(w.heap[k]?).map (Ch.obj k)
theorem Fc:c∈rest B M w↔∃k o,B≤k∧w.heap[k]? =some o∧(∀d∈M,d.fp≠some k)∧c= .obj k o:=by
 unfold rest;simp only[List.mem_filterMap,BE,kz,zZ,NW,x8,Option.map_eq_some_iff];constructor
 ·rintro⟨k,⟨h1,h2,h3⟩,o,h4,rfl⟩;exact⟨k,o,h2,h4,h3,rfl⟩
 ·rintro⟨k,o,h2,h4,h3,rfl⟩;exact⟨k,⟨(k_3.1 h4).1,h2,h3⟩,o,h4,rfl⟩
theorem SF(B:Nat)(M:aP)(w:World):(rest B M w).Pairwise Ch.apart:=by
 unfold rest;have h:((List.range w.heap.size).filter fun k=>decide (B≤k)&&M.all fun c=>decide (c.fp≠some k)).Pairwise (· ≠ ·):=(List.nodup_range).filter _;generalize ((List.range w.heap.size).filter fun k=>decide (B≤k)&&M.all fun c=>decide (c.fp≠some k))=ks at h⊢;induction ks with
 |nil=>exact List.Pairwise.nil
 |cons k ks ih=>
  have h':=kC.1 h;rw[List.filterMap_cons];cases hk:(w.heap[k]?).map (Ch.obj k)with
  |none=>exact ih h'.2
  |some c=>
   refine kC.2 ⟨fun d hd=>?_,ih h'.2⟩;obtain⟨k',hk',hd'⟩:=List.mem_filterMap.1 hd;obtain⟨o,ho,rfl⟩:=Option.map_eq_some_iff.1 hk;obtain⟨o',ho',rfl⟩:=Option.map_eq_some_iff.1 hd';exact .inr fun e=>h'.1 k' hk' (NZ e)
theorem SL.full(h:SL B w0 M w):SL B w (M++rest B M w) w:=by
 refine⟨GW _ _,h.base,fun c hc=>?_,sP.2 ⟨h.apart,SF B M w,fun c hc d hd=>?_⟩⟩
 ·rcases dz.1 hc with hc|hc
  ·exact h.all c hc
  ·obtain⟨k,o,h1,h2,h3,rfl⟩:=Fc.1 hc;exact⟨h1,h2⟩
 ·obtain⟨k,o,h1,h2,h3,rfl⟩:=Fc.1 hd;exact .inr (h3 c hc)
theorem GY{M':aP}(h:SL B w0 M w)(h':SL B w (M'++rest B M w) w')(ho:∀c∈M,c.isObj=true→c∈M'):KeepsOthers w w':=by
 refine⟨h'.below.size,fun k o hk hc=>?_⟩;by_cases hB:k<B
 ·rw[h'.below.block k hB];exact hk
 ·by_cases hm:∀d∈M,d.fp≠some k
  ·exact(h'.all _ (ny _ (Fc.2 ⟨k,o,aa,hk,hm,rfl⟩))).2
  ·obtain⟨d,hdm,hf⟩:∃d,d∈M∧d.fp=some k:=by
    refine bH fun hn=>hm fun d h1 h2=>hn ⟨d,h1,h2⟩
   cases hdo:d.isObj with
   |false=>
    obtain⟨o',h4,h5⟩:=(h.all d hdm).cells hdo hf;rw[hk]at h4;cases h4
    rw[hc]at h5;cases h5
   |true=>
    cases d with
    |obj g o'=>
     have e:g=k:=NZ hf;subst e;have h1:w.heap[g]? =some o':=(h.all (.obj g o') hdm).2;rw[hk]at h1;cases h1
     exact(h'.all _ (j8 _ (ho _ hdm hdo))).2
    |_=>cases hdo
theorem SL.abu(h:SL B w0 M w){D:Nat}{o:Obj}(hB:B≤D)(hD:w.heap[D]? =some o)(ho:o.isCells=false)(hm:∀c∈M,c.isObj=true→∀g,c.fp=some g→g<D):SL B w0 (.obj D o::M) w:=by
 refine⟨h.below,h.base,fun c hc=>?_,kC.2 ⟨fun d hd=>.inr fun e=>?_,h.apart⟩⟩
 ·rcases fk.1 hc with rfl|hc
  ·exact⟨hB,hD⟩
  ·exact h.all c hc
 ·have e:d.fp=some D:=e.symm;cases hdo:d.isObj with
  |true=>exact absurd (hm d hd hdo D e) (Nat.lt_irrefl _)
  |false=>
   obtain⟨o',h4,h5⟩:=(h.all d hd).cells hdo e;rw[hD]at h4;cases h4
   rw[ho]at h5;cases h5
end
theorem Lc{C:Cx}{QQ:Exit→Act→World→Prop}{fr:Fr}{L:aP}{x b y:Code}(h:VC C x (TG C b (Exit.then (y.wp C.P QQ) QQ)) fr L):VG C (.seq (.seq x b) y) QQ fr L:=fun a w ha hs=>
 wp_seq (wp_seq (ye (h a w ha hs) fun e a w ⟨fr,L,ha,hs,hq⟩=>by
  cases e<;>exact hq a w ha hs))
def akO(B:Nat)(Lk:aP)(W W':World):Prop:=∀c∈Lk,c.holds B W→c.holds B W'
section
variable{C:Cx}{QQ:Exit→Act→World→Prop}{fr:Fr}{L:aP}{y body:Code}{α σ:Type}
theorem FT{id r0 p d gf N:Nat}{g:Operand}{lb:cV}{ty:TypeId}{pos:String}{af:Array Edge}(hc:aH C.P gf)(hg:ev fr g=some (.func (.func gf) #[] lb.toArray))(hp:Nat.blt p C.N=true)(hd:Nat.blt d C.N=true)(enc:α→Value)(S Sp:List α→Prop)(Lk:aP)(al9:∀w,SL C.B C.w0 L w→SeqStopsK Fence.wide 7 C.P gf lb.toArray (fun x=> #[enc x]) (akO C.B Lk) S Sp N w)(ok:List α→σ→Prop)(G:List α→σ→aP)(hGo:∀pre s c,c.isObj=true→(c∈G pre s↔c∈L))(hLk:∀c∈Lk,c.isObj=false∧∀pre s,c∈G pre s)(s0:σ)(h0:ok [] s0)(hg0:Wk L (G [] s0))(ap1:∀l pre x s w1,ok pre s→pre.length<N→Below C.B C.w0 w1→∀F',VR ⟨C.P,C.N,C.B,w1⟩ l 6 body (fun jC L'=>∃s',ok (pre++[x]) s'∧Wk L' (G (pre++[x]) s'++F')) ((d,enc x)::(p,enc x)::fr) (G pre s++F'))(ap6:∀D xs s,S xs→ok xs s→VM C D y QQ fr (.obj D (.deferred (some []))::G xs s)):
  VG C (.block id (.rangeFunc g #[p] (.region r0 [(⟨some d,.assign (.tmp p),ty,pos,af,none⟩:Oper)].toArray false) body)) (Exit.then (y.wp C.P QQ) QQ) fr L:=fun a w ha hs=>by
 have asN:=hg0.sl hs;have aqh:∀pre s,∀c∈G pre s,c.isObj=true→∀g,c.fp=some g→g<w.heap.size:=fun pre s c hc ho g hg=>((hs.all c ((hGo pre s c ho).1 hc)).lt hg).2;have eg:∀args w,(callFunc gf args).run C.P w= .ok (.enter gf args) w:=fun args w=>by
  obtain⟨fn,cc,h1,h2,h3⟩:=hc;have h2':¬fn.name= "runtime.NumGoroutine" :=by simpa using h2
  simp[callFunc,h1,h2',h3]
 refine wp_block (wpIn_wide.1 (wpIn_rangeFunc_ownF (n:=8) rfl aA (ha.tmp hg) trivial eg (al9 w hs) (fun h k c hc hh=>k c hc (h c hc hh)) ?kb (GW _ _) (fun _=>rfl)
  (fun pre W=>∃s,ok pre s∧SL C.B C.w0 (G pre s) W) (fun _ _ _=>False) ?own (fun _ _ _ _ _ h _ _=>h) ⟨s0,h0,asN⟩ (fun x=>((a.put (some p) (enc x)).put (some d) (enc x))) ?assign ?body ?done ?stop))
 case kb=>
  intro W l o o' hl hW ho _ c hc hh;refine hh.keep fun g hgc=>?_;refine World.putObj_heap_other fun e=>?_;subst e;obtain⟨o2,h4,h5⟩:=hh.cells (hLk c hc).1 hgc;rw[hW]at h4;cases h4
  rw[ho]at h5;cases h5
 case own=>
  rintro pre W W' row ⟨s,lf,nN⟩ hgr hr;exact⟨s,lf,nN.anY hgr hs.base hr (aqh pre s)⟩
 case assign=>
  intro l x W K hK;refine wpIn_region_lit (wpListIn_plain rfl fun K' hK'=>?_);refine⟨fun _ _=>trivial,?_⟩;rw[Oper.semAt_eq _ _ _ (fun c e=>by cases e)];have e0:({tmps:=(#[p].zip #[enc x]).foldl (fun t (p,v)=>t.setIfInBounds p v) a.tmps,defers:=[]}:Act)=a.put (some p) (enc x):=by
   have:=ha.defers;cases a
   simp_all[Act.put]
  rw[e0];have hev:(a.put (some p) (enc x)).eval (.tmp p)=enc x:=(ha.put hp (enc x)).tmp (by simp[ev,look]);simp only[execOp,hev,GS,Oper.uponIn];exact hK' _ _ hK
 case body=>
  rintro l pre x W ⟨s,lf,nN⟩ fE;refine vX (ap1 l pre x s W lf fE nN.below (rest C.B (G pre s) W) _ W ((ha.put hp (enc x)).put hd (enc x)) nN.full) fun e a' W' hq=>?_;cases e with
  |normal=>
   obtain⟨jC,L',zN,BA,s',asG,Yy⟩:=hq;have jH:=Yy.sl BA;have wN:SL C.B C.w0 (G (pre++[x]) s') W':=⟨nN.below.trans jH.below,jH.base,fun c hc=>jH.all c (j8 _ hc),(sP.1 jH.apart).1⟩
   exact⟨GY nN jH (fun c hc ho=>(hGo _ _ c ho).2 ((hGo _ _ c ho).1 hc)),fun c hc _=>wN.all c ((hLk c hc).2 _ _),s',asG,wN⟩
  |_=>exact hq.elim
 case done=>
  rintro D xs W hD hS ⟨s,lf,nN⟩ hK;refine ap6 D xs s hS lf _ W (by rw[ha.defers];rfl) ?_ (nN.abu (jd hs.base hD) hK rfl (fun c hc ho g hg=>vU (aqh xs s c hc ho g hg) hD));have:({({a with defers:={target:=.collected D,args:= #[]}::a.defers}:Act)with defers:=[]}:Act)=a:=by have:=ha.defers;cases a;simp_all
  rw[this];exact ha
 case stop=>
  rintro D c pre W _ _ h _;exact h.elim
end
end
section
def WT(N:Nat)(QQ:Exit→Fr→World→Prop):Exit→Act→World→Prop:=fun e a w=>∃fr,pN N fr a∧QQ e fr w
def VT(P:Program)(N:Nat)(c:Code)(QQ:Exit→Fr→World→Prop)(fr:Fr)(w:World):Prop:=∀a,pN N fr a→c.wpIn Fence.wide 7 P (WT N QQ) a w
def VTL(P:Program)(N:Nat)(ops:Array Oper)(QQ:Exit→Fr→World→Prop)(l:sA)(fr:Fr)(w:World):Prop:=∀a,pN N fr a→wpListIn Fence.wide 7 P ops (WT N QQ) l a w
def TT(P:Program)(N:Nat)(y:Code)(QQ:Exit→Fr→World→Prop):Exit→Fr→World→Prop
 | .normal,fr,w=>VT P N y QQ fr w
 |e,fr,w=>QQ e fr w
def TB(id:Nat)(QQ:Exit→Fr→World→Prop):Exit→Fr→World→Prop
 | .exit i,fr,w=>if i=id then QQ .normal fr w else QQ (.exit i) fr w
 |e,fr,w=>QQ e fr w
def VTQ(P:Program)(N:Nat)(w:World)(ops:Array Oper)(QF:Fr→Prop)(l:sA)(fr:Fr):Prop:=∀a,pN N fr a→wpQuiet P ops (fun w'=>∃n,w'=w.drewN n) (fun a'=>∃jC,pN N jC a'∧QF jC) l a
section
variable{P:Program}{N:Nat}{QQ:Exit→Fr→World→Prop}{QF:Fr→Prop}{fr jC:Fr}{w:World}{x y:Code}{ops:Array Oper}{l:sA}{op:Op}{ty:TypeId}{pos:String}{af:Array Edge}{d:Nat}{v:Value}{B:Nat}{w0:World}{L:aP}
theorem n_(h:VT P N x (TT P N y QQ) fr w):VT P N (.seq x y) QQ fr w:=fun a ha=>
 wpIn_seq (vX (h a ha) fun e a w ⟨fr,ha,hq⟩=>by cases e<;>first|exact hq a ha|exact⟨fr,ha,hq⟩)
theorem yV{id:Nat}(h:VT P N x (TB id QQ) fr w):VT P N (.block id x) QQ fr w:=fun a ha=>
 wpIn_block (vX (h a ha) fun e a w ⟨fr,ha,hq⟩=>by
  cases e with
  |exit i=>
   unfold Exit.inBlock;unfold TB at hq;simp only at hq⊢;split
   ·rename_i hi;rw[ao hi]at hq;exact⟨fr,ha,hq⟩
   ·rename_i hi;rw[aw hi]at hq;exact⟨fr,ha,hq⟩
  |_=>exact⟨fr,ha,hq⟩)
theorem CS(h:QQ .normal fr w):VT P N .skip QQ fr w:=fun a ha=>wpIn_skip ⟨fr,ha,h⟩
theorem WZ{id:Nat}(h:QQ (.exit id) fr w):VT P N (.exit id) QQ fr w:=fun a ha=>wpIn_exit ⟨fr,ha,h⟩
theorem afU(h:QQ .ret fr w):VT P N .ret QQ fr w:=fun a ha=>wpIn_ret ⟨fr,ha,h⟩
theorem FY{c:Operand}(hc:ev fr c=some (.bool true))(h:VT P N x QQ fr w):VT P N (.cond c x y) QQ fr w:=fun a ha=>wpIn_cond_true (ha.tmp hc) (h a ha)
theorem FX{c:Operand}(hc:ev fr c=some (.bool false))(h:VT P N y QQ fr w):VT P N (.cond c x y) QQ fr w:=fun a ha=>wpIn_cond_false (ha.tmp hc) (h a ha)
theorem Ji{c:Operand}{p:Prop}[Decidable p](hc:ev fr c=some (.bool (decide p)))(ht:p→VT P N x QQ fr w)(hf:¬p→VT P N y QQ fr w):VT P N (.cond c x y) QQ fr w:=by
 by_cases hp:p
 ·exact FY (by rw[hc,ox hp]) (ht hp)
 ·exact FX (by rw[hc,nT hp]) (hf hp)
theorem j9(h:VT P N y QQ fr w):TT P N y QQ .normal fr w:=h
theorem WU{i:Nat}(h:QQ (.exit i) fr w):TT P N y QQ (.exit i) fr w:=h
theorem WG{id:Nat}(h:QQ .normal fr w):TB id QQ (.exit id) fr w:=by unfold TB;simp only[if_true];exact h
theorem lU{id:Nat}{sS:sA}(h:VTL P N sS.toArray QQ sS fr w):VT P N (.region id sS.toArray false) QQ fr w:=fun a ha=>wpIn_region_lit (h a ha)
theorem nm(jC:Fr)(hs:Sub fr jC)(h:QQ .normal jC w):VTL P N ops QQ [] fr w:=fun a ha=>wpListIn_nil ⟨jC,ha.sub hs,h⟩
theorem cI(hs:SL B w0 L w)(h:gI ⟨P,N,B,w0⟩ fr L op ty v)(hn:AD ⟨some d,op,ty,pos,af,none⟩=true)(hd:Nat.blt d N=true)(k:VTL P N ops QQ l ((d,v)::fr) w):VTL P N ops QQ (⟨some d,op,ty,pos,af,none⟩::l) fr w:=fun a ha=>
 wpListIn_plain rfl fun K hK=>by
  refine⟨fun _ _=>trivial,?_⟩;rw[Oper.semAt_eq _ _ _ (Ot hn),h a w ha hs];exact hK _ _ (k _ (ha.put hd v))
theorem Jj{g x:Operand}{Cq:Array TypeId}{yl:Nat}{u:Value}{T F:World→Prop}(hg:ev fr g=some (.func (.yield yl) #[] #[]))(hx:ev fr x=some u)(hy:YieldAt Fence.wide 6 P yl #[u] w fun e w'=>(e= .returned (.bool true)∧T w')∨(e= .returned (.bool false)∧F w'))(hd:Nat.blt d N=true)(kt:∀w',T w'→VTL P N ops QQ l ((d,.bool true)::fr) w')(kf:∀w',F w'→VTL P N ops QQ l ((d,.bool false)::fr) w'):
  VTL P N ops QQ (⟨some d,.call {callee:=.value g,args:= #[x],argTypes:=Cq},ty,pos,af,none⟩::l) fr w:=fun a ha=>
 wpListIn_plain rfl fun K hK=>by
  obtain⟨fn,tmps,assign,body,h1,h2⟩:=hy;refine⟨fun _ _=>trivial,?_⟩;rw[Oper.semAt_eq _ _ _ (fun c e=>by cases e)];have he:(execOp a.eval ⟨some d,.call {callee:=.value g,args:= #[x],argTypes:=Cq},ty,pos,af,none⟩).run P w= .ok (.round yl fn tmps assign body) w:=by
   have hg':=ha.tmp hg;have hx':=ha.tmp hx;simp[execOp,resolve,hg',hx',Deferred.ofValue,invoke,h1]
  rw[he];refine⟨fun h=>by simp[Fence.wide]at h,h2.mono fun e w' hh=>?_⟩;rcases hh with⟨rfl,hT⟩|⟨rfl,hF⟩
  ·exact hK _ _ (kt w' hT _ (ha.put hd _))
  ·exact hK _ _ (kf w' hF _ (ha.put hd _))
theorem FZ{id:Nat}{sS:sA}(hm:P.follows .mixedOrders=true)(hB:Region.lexB .any sS.toArray=true)(h:VTQ P N w sS.toArray (fun jC=>∀n,QQ .normal jC (w.drewN n)) sS fr):VT P N (.region id sS.toArray true) QQ fr w:=fun a ha=>by
 refine wpIn_wide.2 (wp_region_quiet_lit hm hB ?_);have NB:∀(l:sA) (a:Act) {ops:Array Oper} {Q Q':Act→Prop},(∀a,Q a→Q' a)→wpQuiet P ops (fun w'=>∃n,w'=w.drewN n) Q l a→wpQuiet P ops (fun w'=>∃n,w'=w.drewN n) Q' l a:=by
  intro l;induction l with
  |nil=>intro a ops Q Q' hq h;exact hq _ h
  |cons o l ih=>
   intro a ops Q Q' hq h;unfold wpQuiet at h⊢;split
   ·rename_i hw;rw[ao hw]at h;exact Oper.quiet_mono (fun a h=>ih a hq h) h
   ·rename_i hw;rw[aw hw]at h;exact ih _ hq h
 exact NB sS a (fun a' ⟨jC,h1,h2⟩ w' ⟨n,hn⟩=>⟨jC,h1,hn▸h2 n⟩) (h a ha)
theorem W1(jC:Fr)(hs:Sub fr jC)(h:QF jC):VTQ P N w ops QF [] fr:=fun a ha=>wpQuiet_nil ⟨jC,ha.sub hs,h⟩
theorem j_(hs:SL B w0 L w)(h:gI ⟨P,N,B,w0⟩ fr L op ty v)(hd:Nat.blt d N=true)(k:VTQ P N w ops QF l ((d,v)::fr)):VTQ P N w ops QF (⟨some d,op,ty,pos,af,none⟩::l) fr:=fun a ha=>
 wpQuiet_step fun K hK=>by
  rw[ao (by rfl)];refine⟨v,fun w' GO=>?_,hK _ (k _ (ha.put hd v))⟩;obtain⟨n,rfl⟩:=GO;unfold Oper.quietAt;rw[h a _ ha (hs.drewN n)];exact⟨rfl,rfl⟩
def aeF(t:Nat)(a:Act):Nat:=match a.tmps[t]? with
 |some (.int _ z)=>z.toNat
 |_=>0
theorem W0(ok:Nat→World→Prop)(F:Nat→Fr)(t M:Nat)(pos:Nat→Nat)(tV:∀i,look t (F i)=some (ah (pos i:Nat)))(i0:Nat)(h0:ok i0 w)(hf:Sub fr (F i0))(round:∀i w,ok i w→VT P N x (fun e fr w=>match e with| .normal=>∃i',ok i' w∧M-pos i'<M-pos i∧Sub fr (F i')|e=>QQ e fr w) (F i) w):VT P N (.loop x) QQ fr w:=fun a ha=>by
 have hm:∀i a,pN N (F i) a→aeF t a=pos i:=fun i a ha=>by
  unfold aeF;rw[ha.at_ _ _ (tV i)];simp
 refine wpIn_loop (fun a w=>∃i,ok i w∧pN N (F i) a) (fun a w=>M-aeF t a) ⟨i0,h0,ha.sub hf⟩ ?_;rintro a w ⟨i,e2,e3⟩;refine vX (round i w e2 a e3) fun e a' w' ⟨jC,zN,hq⟩=>?_;cases e with
 |normal=>
  obtain⟨i',k1,k2,k3⟩:=hq;refine⟨⟨i',k1,zN.sub k3⟩,?_⟩;rw[hm i a e3,hm i' a' (zN.sub k3)];exact k2
 |_=>exact⟨jC,zN,hq⟩
end
end
section
section
variable{C:Cx}{fr:Fr}{L:aP}{x y z u:Operand}{t ty e:TypeId}{m n q:Int}{k:IntKind}
theorem Gq{P:Prop}(h:P:=by(repeat (first|exact .hd|apply mC.tl))):P:=h
theorem vM{A:bj}{nn c i j size:Nat}{k' k2:IntKind}(ht:C.P.underlying t=some (.slice e))(hz:(C.P.info? e).map (·.size)=some size)(he:ev fr x=some (.slice A nn c))(hy:ev fr y=some (.int k m))(hm:m=(i:Int))(vz:ev fr z=some (.int k' n))(hn:n=(j:Int))(hu:ev fr u=some (.int k2 q))(hq:q=(j:Int))(Io:i<j)(hj:j≤c):
  gI C fr L (.slice t x (some y) (some z) (some u)) ty (.slice (A.map (·.add (i*size))) (j-i) (j-i)):=fun a w ha hw d pos af gg=>by
 subst hm;subst hn;subst hq;have h1:¬j=i:=by omega
 have h2:i≤j:=by omega
 simp[execOp,Instr.sliceAt,Instr.slice,Instr.sliceBounds,Instr.sliceBound,asIntOf,iO ht,ha.tmp he,ha.tmp hy,ha.tmp vz,ha.tmp hu,h1,h2,hj,GQ hz]
end
def xi(sz n i:Nat):Nat:=min sz (n-i*sz)
def Gt(A:bj)(sz n i:Nat):Value:=.slice (A.map (·.add (i*sz))) (xi sz n i) (xi sz n i)
def gU(sz n:Nat):Nat:=(n+(sz-1))/sz
theorem nP{sz n i:Nat}(h:1≤sz):i<gU sz n↔i*sz<n:=by
 unfold gU;rw[Nat.lt_iff_add_one_le,Nat.le_div_iff_mul_le aa,j0];omega
theorem TP{N:Nat}{args:cV}{fr0:Fr}(hl:args.length≤N)(hi:Ini N args fr0):pN N fr0 {tmps:=args.toArray++Array.replicate (N-args.toArray.size) undef,defers:=[]}:=by
 refine⟨rfl,bR,fun t v ht=>?_⟩;obtain⟨h1,h2⟩:=hi.look t v ht;simp only[wR];by_cases fE:t<args.length
 ·rw[Array.getElem?_append_left Hq];simp[fE]at h2;simp[fE,h2]
 ·rw[Array.getElem?_append_right Hq];have h3:args[t]? =none:=zX aa;simp[h3]at h2;subst h2;simp;rw[Array.getElem?_replicate,ao aa]
def TE(A B:World→Prop):Exit→Fr→World→Prop
 | .normal,_,w| .ret,_,w=>A w∨B w
 |_,_,_=>False
theorem Mz{B g2 g3:Nat}{A:bj}{n c sz:Nat}(i_:1≤sz)(jH:sz≤1000)(hn:n≤1000000000000000)(hnc:n≤c)(hg:g2≠g3)(w:World)(h2:(Ch.bD g2 87 [.slice A n c]).holds B w)(h3:(Ch.bD g3 3 [ah sz]).holds B w):
  SeqStopsK Fence.wide 7 Tryz.prog 209 [br g2,br g3].toArray (fun x:Fin (gU sz n)=> #[Gt A sz n x.val])
   (akO B [.bD g2 87 [.slice A n c],.bD g3 3 [ah sz]]) (fun xs=>xs.map (·.val)=List.range (gU sz n)) (fun _=>True) (gU sz n) w:=by
 intro l J Jx W hW hJ hJx hY h0;have nN:∀w:World,(∀q∈[Ch.bD g2 87 [.slice A n c],.bD g3 3 [ah sz]],q.holds B w)→SL 0 w [Ch.bD g2 87 [.slice A n c],.bD g3 3 [ah sz]] w:=fun w h=>by
  refine⟨GW _ _,bT _,fun c hc=>?_,kC.2 ⟨fun d hd=>?_,kC.2 ⟨fun _ h=>ki,List.Pairwise.nil⟩⟩⟩
  ·have:=h c hc;simp only[fk,mo,oe]at hc;rcases hc with rfl|rfl<;>exact⟨bT _,this.2⟩
  ·rw[lF.1 hd];exact .inr fun e=>hg (NZ e)
 have alZ:=(h2.lt rfl).2;have al0:=(h3.lt rfl).2;have hW0:∀q∈[Ch.bD g2 87 [.slice A n c],.bD g3 3 [ah sz]],q.holds B W:=by
  intro c hc;simp only[fk,mo,oe]at hc;rcases hc with rfl|rfl
  ·exact h2.keep fun g hg=>by cases hg;exact hW.block _ alZ
  ·exact h3.keep fun g hg=>by cases hg;exact hW.block _ al0
 have Yn:∀pre (w:World) k,J pre w→J pre (w.drewN k):=fun pre w k h=>hJ pre w _ none h (qv w k) (fun r e=>by cases e);generalize hLk:[Ch.bD g2 87 [.slice A n c],.bD g3 3 [ah sz]]=Lk at*;refine callsIn_of_wp func209 rfl trivial (vX (Q:=WT 31 (TE (fun w=>∃xs:List (Fin (gU sz n)),xs.map (·.val)=List.range (gU sz n)∧J xs w) (fun w=>∃pre,True∧Jx pre w))) ?_ ?_) rfl
 ·have ha:=TP (N:=31) (args:=[.func (.yield l) #[] #[],br g2,br g3]) (fr0:=[(0,.func (.yield l) #[] #[]),(1,br g2),(2,br g3)]) ak ⟨⟨rfl,rfl⟩,⟨rfl,rfl⟩,⟨rfl,rfl⟩,trivial⟩;refine(?_ :VT Tryz.prog 31 _ _ _ W) _ ha;refine n_ (lU ?_);refine cI (nN W hW0) (lE rfl) rfl rfl ?_;refine nm [(0,_),(1,_),(2,_),(4,_)] ⟨rfl,rfl,rfl,rfl,trivial⟩ ?_;refine j9 (yV ?_);refine W0 (fun i w=>i≤gU sz n∧(∀c∈Lk,c.holds B w)∧∃pre:List (Fin (gU sz n)),pre.map (·.val)=List.range i∧J pre w) (fun i=>[(0,.func (.yield l) #[] #[]),(1,br g2),(2,br g3),(4,ah ((i*sz:Nat):Int))]) 4 (n+sz) (fun i=>i*sz) (fun i=>rfl) 0 ⟨bT _,hW0,[],rfl,h0⟩ ⟨rfl,rfl,rfl,by rw[r'];rfl,trivial⟩ ?_;rintro i w ⟨hi,hh,pre,Ec,hJp⟩;have hs:=nN w hh;rw[←hLk]at hs;refine n_ (n_ (lU ?_));refine cI hs (dV rfl) rfl rfl ?_;refine cI hs (bM ag rfl Gq rfl) rfl rfl ?_;refine cI hs (pb underlying87 rfl) rfl rfl ?_;refine cI hs (xI rfl rfl) rfl rfl ?_;refine nm [(0,_),(1,_),(2,_),(4,_),(9,_)] ⟨rfl,rfl,rfl,rfl,rfl,trivial⟩ ?_;refine j9 (Ji rfl (fun fE=>?_) (fun fE=>?_))
  ·refine CS ?_;have Ys:i*sz<n:=by omega
   have hiN:=(nP i_).2 Ys;have hlen:pre.length<gU sz n:=by
    have:=ek List.length Ec;simp at this;omega
   have hE1:1≤xi sz n i:=by unfold xi;omega
   have hE2:xi sz n i≤sz:=by unfold xi;omega
   have hE3:i*sz+xi sz n i≤n:=by unfold xi;omega
   have hss:(i+1)*sz=i*sz+sz:=j0 i sz;refine j9 (n_ (yV (n_ (FZ ag ag ?_))));refine j_ hs (bM ag rfl Gq rfl) rfl ?_;refine j_ hs (bM ag rfl Gq rfl) rfl ?_;refine j_ hs (dV rfl) rfl ?_;refine j_ hs (bP (i:=i*sz) (size:=1) underlying87 ag rfl rfl rfl aa) rfl ?_;refine j_ hs (pb underlying87 rfl) rfl ?_;refine j_ hs (xJ rfl rfl) rfl ?_;refine j_ hs (lE rfl) rfl ?_;rw[show min (sz:Int) ((n-i*sz:Nat):Int)=((xi sz n i:Nat):Int) by unfold xi;omega];refine W1 [(0,_),(1,_),(2,_),(4,_),(5,_)] ⟨rfl,rfl,rfl,rfl,rfl,trivial⟩ ?_;intro kd;have hJd:=Yn pre w kd hJp;have wJ:∀c∈Lk,c.holds B (w.drewN kd):=fun c hc=>(hh c hc).keep fun g hg=>rfl;clear hh hJp hs;generalize w.drewN kd=w at*;have hs:=nN w wJ;rw[←hLk]at hs;refine j9 (n_ (lU ?_));refine cI hs (dV rfl) rfl rfl ?_;refine cI hs (bM ag rfl Gq rfl) rfl rfl ?_;refine cI hs (dV rfl) rfl rfl ?_;refine cI hs (dV rfl) rfl rfl ?_;refine cI hs (dV rfl) rfl rfl ?_;refine cI hs (bY rfl rfl (bE aa aa)) rfl rfl ?_;refine cI hs (dV rfl) rfl rfl ?_;refine cI hs (dV rfl) rfl rfl ?_;refine cI hs (bY rfl rfl (bE aa aa)) rfl rfl ?_;refine cI hs (vM (i:=i*sz) (j:=i*sz+xi sz n i) (size:=1) underlying87 ag rfl rfl rfl rfl aa rfl aa aa aa) rfl rfl ?_;rw[cE,yb];refine Jj (u:=Gt A sz n i) rfl rfl (hY pre ⟨i,hiN⟩ w hJd hlen) rfl ?_ ?_
   ·rintro w' ⟨hJ',hK⟩;have hh':∀c∈Lk,c.holds B w':=fun c hc=>hK c hc (wJ c hc);have hs:=nN w' hh';rw[←hLk]at hs;refine cI hs (zt rfl) rfl rfl ?_;refine nm [(0,_),(1,_),(2,_),(4,_),(30,_)] ⟨rfl,rfl,rfl,rfl,rfl,trivial⟩ ?_;refine j9 (FX rfl (CS ?_));refine j9 (lU ?_);refine cI hs (dV rfl) rfl rfl ?_;refine cI hs (bM ag rfl Gq rfl) rfl rfl ?_;refine cI hs (bY rfl rfl (r:=(((i+1)*sz:Nat):Int)) ((bE aa aa).trans aa)) rfl rfl ?_;refine cI hs (lE rfl) rfl rfl ?_;refine nm [(0,_),(1,_),(2,_),(4,_)] ⟨rfl,rfl,rfl,rfl,trivial⟩ ?_;exact⟨i+1,⟨hiN,hh',pre++[⟨i,hiN⟩],by rw[jb,Ec,lj];rfl,hJ'⟩,aa,rfl,rfl,rfl,rfl,trivial⟩
   ·intro w' hJ';have CC:SL w'.heap.size w' [] w':=SL.AA w';refine cI CC (zr rfl) rfl rfl ?_;refine nm [(30,_)] ⟨rfl,trivial⟩ ?_;refine j9 (FY rfl (afU ?_));exact .inr ⟨_,trivial,hJ'⟩
  ·refine WZ ?_;refine WU ?_;show TB 0 _ (Exit.exit 0) _ _;refine WG ?_;have wH:¬i<gU sz n:=fun h=>fE (by have:=(nP i_).1 h;omega);obtain rfl:i=gU sz n:=by omega
   exact .inl ⟨pre,Ec,hJp⟩
 ·rintro e a w ⟨fr,ha,hq⟩;cases e<;>first
   |exact hq.elim
   |exact⟨ha.defers,_,results_none rfl _ _ _,⟨_,rfl⟩,hq⟩
end
theorem an4{P:Prop}(h:P:=by(exact eU (by first|exact fun h=>absurd h.1 (by assumption)|exact fun h=>absurd h.2.1 (by omega)|exact⟨fun h=>⟨by assumption,by omega,h⟩,fun h=>h.2.2⟩))):P:=h
theorem b_5{P:Prop}(h:P:=by(exact eU (by first|exact fun h=>absurd ((mr s r k hk).1 h).1.1 (by omega)|exact fun h=>absurd ((mr s r k hk).1 h).1.2 (by omega)|exact⟨fun h=>(mr s r k hk).2 ⟨⟨by omega,by omega⟩,ra.1 (by omega)⟩,fun h=>by rw[((mr s r k hk).1 h).2]⟩))):P:=h
theorem QR(was s:cm):a_ B w0 208 [.string ⟨was.toArray⟩,.string ⟨s.toArray⟩] F (fun r L=>r= .bool (decide (uo was s))∧L=F):=by
 refine fw func208 17 [0,1] ?_;refine bL ?_;refine bW 12 16 [] (uo was s) ?_ ?_
 ·refine aF ?_;refine ab (HW (r:=[]) rfl rfl) rfl ?_;refine aF ?_;refine cP (fun h7=>?_) fun h7=>?_
  ·refine bL ?_;refine cP (fun mA=>?_) fun mA=>?_
   ·refine b8 ?_;refine ab (QM rfl rfl) rfl ?_;refine aF ?_;exact aQ (by exact dN (by first|exact fun h=>absurd h.1 (by assumption)|exact fun h=>absurd h.2.1 (by omega)|exact⟨fun h=>⟨by assumption,by omega,h⟩,fun h=>h.2.2⟩))
   ·refine bF ?_;exact aQ an4
  ·refine bJ ?_;exact aQ an4
 ·refine bG ?_;exact⟨rfl,rfl⟩
theorem UA(s r:cm)(hs:s.length≤1000000000000000):a_ B w0 210 [.string ⟨s.toArray⟩,.string ⟨r.toArray⟩] F (fun v L=>v=ah (qd s r)∧L=F):=by
 have hle:=(z' s r).1;refine fw func210 28 [0,1] ?_;refine cJ ?_;refine aE (fun zf zL zm=>∃(k:Nat),(k≤qd s r)∧qd s r-k=zm∧Sub zf [(0,.string ⟨s.toArray⟩),(1,.string ⟨r.toArray⟩),(5,ah k)]∧Wk zL (F)) _ ⟨0,bT _,rfl,bp,.refl _⟩ ?_;rintro _ _ _ ⟨k,hk,rfl,hs,hp⟩;refine aU hs hp ?_;clear hs hp;refine bF ?_;refine xW 19 24 [0,1,5] (k<qd s r) ?_ ?_
 ·refine bG ?_;refine jR rfl rfl rfl (fun jF=>?_) (fun jF=>?_)
  ·refine bQ ?_;refine jR rfl rfl rfl (fun kh=>?_) (fun kh=>?_)
   ·refine b8 ?_;refine b7 (rU underlying9 rfl rfl rfl aa) rfl ?_;refine bG ?_;refine b7 (rU underlying9 rfl rfl rfl aa) rfl ?_;refine bF ?_;exact nS (by exact dN (by first|exact fun h=>absurd ((mr s r k hk).1 h).1.1 (by omega)|exact fun h=>absurd ((mr s r k hk).1 h).1.2 (by omega)|exact⟨fun h=>(mr s r k hk).2 ⟨⟨by omega,by omega⟩,ra.1 (by omega)⟩,fun h=>by rw[((mr s r k hk).1 h).2]⟩))
   ·refine bL ?_;exact nS b_5
  ·refine de ?_;exact nS b_5
 ·refine be ?_;refine aj (fun oc=>?_) fun oc=>?_
  ·refine bQ ?_;refine av ⟨_,aa,k+1,aa,rfl,bp,.refl _⟩
  ·refine de ?_;exact⟨by rw[show k=qd s r by omega],rfl⟩
theorem agM{sz:Nat}(i_:1≤sz):a_ B w0 148 [.slice A n c,ah sz] F (fun v L=>∃g2 g3,v= .func (.func 209) #[] #[br g2,br g3]∧L= .bD g3 3 [ah sz]:: .bD g2 87 [.slice A n c]::F):=by
 refine fw func148 9 [0,1] ?_;refine be ?_;refine bh fun g2=>?_;refine bh fun g3=>?_;refine bA ?_;refine dm fun h6=>?_;refine bA ?_;exact⟨_,_,rfl,rfl⟩
theorem xo{P:eh}{l:al}(hb:aJ B w0 F 1 (.slice A n c) n P.Co)(hP:∀x∈P,aJ B w0 F 1 x.1 x.2.length (bv x.2))(hn:n=P.length)(mF:P.all=l)(hlen:l.length≤1099511627776)(D6:P.length≤1099511627776):
  a_ B w0 52 [.slice A n c] F (fun r L=>∃A' c',r= .slice A' l.length c'∧L= .own 5 1 A' l.length c' (bv l)::F):=by
 subst mF;exact dL.AE fun w hw=>ajy (B:=w.heap.size) w hn (hb w hw) (fun x hx=>hP x hx w hw) (gj _) hlen D6
theorem MR{l:List cm}(hb:aJ B w0 F 1 (.slice A l.length c) l.length (strs l))(hl:l.length≤1000000000000000):
  a_ B w0 147 [.slice A l.length c] F (fun r L=>r= .bool (decide (kV l))∧L=F):=by
 refine fw func147 21 [0] ?_;refine zH ?_;refine aE (fun zf zL zm=>∃(k:Nat),(k≤l.length∧∀i,i<k→uo (ft l i) (l.getD i []))∧l.length-k=zm∧Sub zf [(0,.slice A l.length c),(3,.string ⟨(ft l k).toArray⟩),(6,.slice A l.length c),(7,ah l.length),(8,ah k)]∧Wk zL (F)) _ ⟨0,⟨bT _,fun i h=>absurd h aa⟩,rfl,bp,.refl _⟩ ?_;rintro _ _ _ ⟨k,⟨hk,hm⟩,rfl,hs,hp⟩;refine aU hs hp ?_;clear hs hp;refine bz ?_;refine aj (fun h9=>?_) fun h9=>?_
 ·refine jS ?_;refine ai rfl (QR (ft l k) (l.getD k [])) ?_;refine bF ?_;refine aj (fun jG=>?_) fun jG=>?_
  ·refine de ?_;exact⟨by rw[nT (fun h=>jG (h.1 k aa))],rfl⟩
  ·have hmk:uo (ft l k) (l.getD k []):=kR.1 jG;refine cJ ?_;rw[←IX];refine av ⟨_,aa,k+1,⟨aa,fun i hi=>by
    by_cases e:i=k
    ·rw[e];exact hmk
    ·exact hm i aa⟩,rfl,bp,.refl _⟩
 ·refine jy ?_;have e:k=l.length:=by omega
  subst e;exact⟨by rw[z7.2 (show((l.length:Int)≤1048576)↔kV l from⟨fun h=>⟨hm,aa⟩,fun h=>(by have:=h.2;omega)⟩)],rfl⟩
theorem xN{s:cm}(h:s.length≤1000000):(fo s).length≤s.length+10:=by
 have:=aT (x:=s.length) aa;unfold fo;rw[aY];omega
theorem rA:∀(was:cm) (r:List cm),(∀s∈r,s.length≤25)→(iD was r).length≤r.length*45
 |_,[],_=>by simp[iD]
 |was,s::r,h=>by
  have h1:=rA s r (fun x hx=>h x oa);have h2:=h s ak;have h3:(fo (s.drop (qd was s))).length≤35:=by
   have:=xN (s:=s.drop (qd was s)) kQ;rw[iG]at this;omega
  have h4:(aS (qd was s)).length≤10:=aT (by have:=(z' was s).2;omega);rw[iD,aY,aY,ef,j0];omega
theorem FC:∀(t:cm) (r:List cm) (k:Nat),k<r.length→iD t (r.take (k+1))=iD t (r.take k)++(aS (qd ((t::r).getD k []) (r.getD k []))++fo ((r.getD k []).drop (qd ((t::r).getD k []) (r.getD k []))))
 |_,[],_,h=>absurd h ak
 |t,s::r,0,_=>by simp[iD]
 |t,s::r,k+1,h=>by
  have:=FC s r k nr;rw[q9,iD,this,q9,iD];simp only[BF,bV]
theorem aa7{t:cm}{r:List cm}(hb:aJ B w0 F 1 (.slice A (r.length+1) c) (r.length+1) (strs (t::r)))(hl:r.length≤1000)(zJ:∀s∈t::r,s.length≤25):
  a_ B w0 149 [.slice A (r.length+1) c] F (fun v L=>∃A' c',v= .slice A' (dB (t::r)).length c'∧L= .own 5 1 A' (dB (t::r)).length c' (bv (dB (t::r)))::F):=by
 have ht:=zJ t ak;have hcut:=hb.cut (k:=1) aa;rw[vV,show(strs (t::r)).drop (1*1)=strs r from rfl]at hcut;obtain⟨A9,hA9⟩:=cN ((if c=1 then A else A.map (·.add (1*1))));obtain⟨c9,hc9⟩:=cN (c-1);rw[←hA9,←hc9]at hcut;have e0:(fo t++iD t (r.take 0)).length=(fo t).length:=by simp[iD]
 refine fw func149 37 [0] ?_;refine bJ ?_;refine ab (aC (i:=0) (size:=1) underlying87 ag rfl rfl rfl aa aB) rfl ?_;refine ab (gQ (b:=t::r) ag rfl aB aa) rfl ?_;refine ay rfl (K6 t aa) fun wh F6=>?_;refine bL ?_;refine ab (bP (i:=1) (size:=1) underlying87 ag rfl rfl rfl aa) rfl ?_;rw[vV,←hA9,←hc9];refine bG ?_;refine aE (fun zf zL zm=>∃(k:Nat) (A3:bj) (c3:Nat),(k≤r.length)∧r.length-k=zm∧Sub zf [(0,.slice A (r.length+1) c),(3,.slice A3 (fo t++iD t (r.take k)).length c3),(12,.slice A9 r.length c9),(13,ah r.length),(14,ah k)]∧Wk zL (.own 5 1 A3 (fo t++iD t (r.take k)).length c3 (bv (fo t++iD t (r.take k)))::F)) _ ⟨0,wh,F6,bT _,rfl,bp,ax (by simp[iD]) (by simp[iD]) (.refl _)⟩ ?_;rintro _ _ _ ⟨k,A3,c3,hk,rfl,hs,hp⟩;refine aU hs hp ?_;clear hs hp;refine bz ?_;refine aj (fun jG=>?_) fun jG=>?_
 ·have y_:((t::r).getD k []).length≤25:=zJ _ (by rw[bk,fm (show k<(t::r).length by simp;omega)];exact tY _);have LC:(r.getD k []).length≤25:=zJ _ (by simp[bk,fm (show k<r.length by omega)]);have fE:=rA t (r.take k) (fun s hs=>zJ s (lk _ (lX hs)));rw[eS,za aa]at fE;have hle:=z' ((t::r).getD k []) (r.getD k []);have ap':k*45≤1000*45:=ow _ aa;have Ce:=xN (s:=t) aa;refine bJ ?_;refine ab (gQ (b:=r) ag rfl aB aa) rfl ?_;refine bJ ?_;refine ab (aC (i:=k) (size:=1) underlying87 ag rfl rfl rfl aa aB) rfl ?_;refine ab (gQ (b:=t::r) ag rfl aB aa) rfl ?_;refine aF ?_;refine ai rfl (UA ((t::r).getD k []) (r.getD k []) aa) ?_;refine bF ?_;refine cF (.own 5 1 A3 (fo t++iD t (r.take k)).length c3 (bv (fo t++iD t (r.take k)))::F) ?_;refine ae 0 ?_;refine ae 1 ?_;refine ae 2 ?_;refine ae 4 ?_;refine ae 5 ?_;refine aW 6 rfl (QN underlying9 rfl rfl rfl aa) ?_;refine az 3 ?_;refine bZ rfl rfl (iN (qd ((t::r).getD k []) (r.getD k [])) aa) fun Bj Br=>?_;refine az 7 ?_;refine bZ rfl rfl (K6 ((r.getD k []).drop (qd ((t::r).getD k []) (r.getD k []))) kQ) fun LM Mr=>?_;refine az 8 ?_;refine cR rfl (aG fD [_,_,_] rfl rfl cw aa aa) fun PO=>?_;refine az 9 ?_;refine bZ rfl rfl (xo (l:=fo t++iD t (r.take (k+1))) (P:=[(.slice A3 (fo t++iD t (r.take k)).length c3,fo t++iD t (r.take k)),(.slice Bj (aS (qd ((t::r).getD k []) (r.getD k []))).length Br,aS (qd ((t::r).getD k []) (r.getD k []))),(.slice LM (fo ((r.getD k []).drop (qd ((t::r).getD k []) (r.getD k [])))).length Mr,fo ((r.getD k []).drop (qd ((t::r).getD k []) (r.getD k []))))]) aB aod rfl (by rw[FC t r k aa];simp[eh.all,bV]) (by rw[aY];have:=rA t (r.take (k+1)) (fun s hs=>zJ s (lk _ (lX hs)));rw[eS]at this;omega) ak) fun wi xh=>?_;refine ae 10 ?_;refine cQ [0,3,12,13,14] ?_;refine bz ?_;refine av ⟨_,aa,k+1,wi,xh,aa,rfl,bp,.cons (.skip (.skip (.skip (.skip (.refl _)))))⟩
 ·refine cJ ?_;obtain rfl:k=r.length:=by omega
  rw[jU];refine aF ?_;exact⟨A3,c3,rfl,rfl⟩
theorem aor{P:Prop}(h:P:=by(show(ad.add (i*sz)).block<_;unfold Addr.add;split<;>exact h4)):P:=h
theorem b_2{P:Prop}(h:P:=by(first|rfl|exact eF (by first|exact .inl (by omega)|exact .inr (.inl (by omega))|exact⟨fun h=>.inr (.inr h),fun h=>by rcases h with h|h|h<;>first|omega|exact h⟩)|exact eU (by first|exact .inl (by omega)|exact .inr (.inl (by omega))|exact⟨fun h=>.inr (.inr h),fun h=>by rcases h with h|h|h<;>first|omega|exact h⟩)|exact dN (by first|exact .inl (by omega)|exact .inr (.inl (by omega))|exact⟨fun h=>.inr (.inr h),fun h=>by rcases h with h|h|h<;>first|omega|exact h⟩)|exact qK (by first|exact .inl (by omega)|exact .inr (.inl (by omega))|exact⟨fun h=>.inr (.inr h),fun h=>by rcases h with h|h|h<;>first|omega|exact h⟩))):P:=h
theorem aoh{P:Prop}(h:P:=by(have:=(kC.1 hw.apart).1 _ rj;subst e;rcases this with h|h<;>simp[Ch.fp]at h)):P:=h
theorem aoi{P:Prop}(h:P:=by(intro y hy;simp only[fk,mo,oe]at hy;rcases hy with rfl|rfl<;>exact aB)):P:=h
theorem vZ:type_of% @List.length_range:= @List.length_range
def ck(l:List cm)(sz i:Nat):List cm:=(l.drop (i*sz)).take sz
def lh(l:List cm)(sz:Nat)(ks:bf):al:=ks.flatMap fun i=>aS (dB (ck l sz i)).length
def iV(l:List cm)(sz:Nat)(ks:bf):al:=ks.flatMap fun i=>dB (ck l sz i)
def fQ(sz:Nat)(l:List cm):al:=(aS l.length++lh l sz (List.range (gU sz l.length)))++iV l sz (List.range (gU sz l.length))
theorem QB(l:List cm)(sz i:Nat):(ck l sz i).length=xi sz l.length i:=by simp[ck,xi]
theorem kV.le{l:List cm}(h:kV l):∀s∈l,s.length≤25:=fun s hs=>by
 obtain⟨i,hi,rfl⟩:=jZ hs;have:=(h.1 i hi).2.1
 rwa [bk,fm hi]at this
theorem zk{l:List cm}{sz i:Nat}{s:cm}(h:s∈ck l sz i):s∈l:=rf (lX h)
theorem tG{l:List cm}(hl:l.length≤64)(h:∀s∈l,s.length≤25):(dB l).length≤3000:=by
 cases l with
 |nil=>simp[dB]
 |cons t r=>
  have h1:=rA t r (fun s hs=>h s (by simp[hs]));have h2:=xN (s:=t) (by have:=h t ak;omega);have h3:=h t ak;have:r.length*45≤64*45:=ow _ (by simp at hl;omega);rw[dB,aY];omega
theorem uN{l:List cm}{sz:Nat}(i_:sz≤64)(h:∀s∈l,s.length≤25):∀ks:bf,(iV l sz ks).length≤ks.length*3000
 |[]=>by simp[iV]
 |k::ks=>by
  have h1:=uN i_ h ks;have h2:=tG (l:=ck l sz k) (by rw[QB];unfold xi;omega) (fun s hs=>h s (zk hs));simp only[iV,jJ,aY,ef,j0]at h1⊢;omega
theorem qW{l:List cm}{sz:Nat}(i_:sz≤64)(h:∀s∈l,s.length≤25):∀ks:bf,(lh l sz ks).length≤ks.length*10
 |[]=>by simp[lh]
 |k::ks=>by
  have h1:=qW i_ h ks;have h2:=tG (l:=ck l sz k) (by rw[QB];unfold xi;omega) (fun s hs=>h s (zk hs));have h3:(aS (dB (ck l sz k)).length).length≤10:=aT aa;simp only[lh,jJ,aY,ef,j0]at h1⊢;omega
theorem C'(l:List cm)(sz:Nat)(ks:bf)(k:Nat):iV l sz (ks++[k])=iV l sz ks++dB (ck l sz k):=by simp[iV]
theorem Rm(l:List cm)(sz:Nat)(ks:bf)(k:Nat):lh l sz (ks++[k])=lh l sz ks++aS (dB (ck l sz k)).length:=by simp[lh]
theorem KL{q:Ch}{e:TypeId}{size n c:Nat}{A:bj}{xs:cV}{L:aP}(h:q.isObj=true):q∈Ch.own e size A n c xs::L↔q∈L:=
 ⟨fun hm=>(fk.1 hm).resolve_left fun e=>(by rw[e]at h;cases h),fun hm=>lk _ hm⟩
theorem KK{q:Ch}{g:Nat}{t:TypeId}{xs:cV}{L:aP}(h:q.isObj=true):q∈Ch.bD g t xs::L↔q∈L:=
 ⟨fun hm=>(fk.1 hm).resolve_left fun e=>(by rw[e]at h;cases h),fun hm=>lk _ hm⟩
theorem Xr{X:List cm}{c:Nat}(r8:X≠[])(hb:aJ B w0 F 1 (.slice A X.length c) X.length (strs X))(hl:X.length≤64)(zJ:∀s∈X,s.length≤25):
  a_ B w0 149 [.slice A X.length c] F (fun v L=>∃A' c',v= .slice A' (dB X).length c'∧L= .own 5 1 A' (dB X).length c' (bv (dB X))::F):=by
 cases X with
 |nil=>exact absurd rfl r8
 |cons t r=>exact aa7 hb (by simp at hl;omega) zJ
theorem ak_{l:List cm}(hb:aJ B w0 F 1 (.slice A l.length c) l.length (strs l)){sz i:Nat}(hi:i*sz<l.length):aJ B w0 F 1 (.slice (A.map (·.add (i*sz))) (ck l sz i).length (ck l sz i).length) (ck l sz i).length (strs (ck l sz i)):=fun w hs=>by
 obtain⟨A',c',e,h1,h2,h3⟩:=hb w hs;obtain⟨rfl,_,rfl⟩:A=A'∧True∧c=c':=by injection e with a b d;exact⟨a,trivial,d⟩
 obtain⟨ad,rfl,h4,h5⟩:=h3 aa;refine⟨_,_,rfl,gj _,ak,fun _=>⟨_,rfl,aor,fun j u hu=>?_⟩⟩;have hu':(strs l)[i*sz+j]? =some u:=by
  unfold ck strs at hu;unfold strs;rw[jr]at hu⊢;rw[GR]at hu;split at hu
  ·rw[k_7]at hu;exact hu
  ·cases hu
 have:=h5 _ _ hu';show w.cell? ((ad.add (i*sz)).add j)=some u;rw[lD];exact this
theorem QT{size:Int}{l:List cm}(hb:aJ B w0 F 1 (.slice A l.length c) l.length (strs l))(hl:l.length≤1000000000000000)(hE:size<1∨64<size∨¬kV l):
  a_ B w0 87 [ah size,.slice A l.length c] F (fun r L=>∃A' c',r= .tuple #[.slice A' 0 c',ah 13]∧L= .own 5 1 A' 0 c' []::F):=by
 refine xS func87 44 rfl rfl rfl [(0,ah size),(1,.slice A l.length c)] ⟨⟨rfl,rfl⟩,⟨rfl,rfl⟩,trivial⟩ ?_;refine qE ?_;refine b8 ?_;refine lB ?_;refine qE ?_;refine be ?_;refine bW 11 20 [0,1] (size<1∨64<size∨¬kV l) ?_ ?_
 ·refine bF ?_;refine aL rfl rfl rfl (fun mA=>?_) (fun mA=>?_)
  ·refine bG ?_;refine aL rfl rfl rfl (fun kh=>?_) (fun kh=>?_)
   ·refine be ?_;refine ai rfl (MR hb hl) ?_;refine bF ?_;exact aQ b_2
   ·refine bF ?_;exact aQ b_2
  ·refine bL ?_;exact aQ b_2
 ·refine be ?_;refine aj (fun iY=>?_) fun iY=>?_
  ·refine bL ?_;refine anv rfl ?_;refine aD 5 1 none ?_;refine aF ?_;exact⟨none,0,rfl,rfl⟩
  ·exfalso;exact iY hE
theorem XO{sz:Nat}{l:List cm}(hb:aJ B w0 F 1 (.slice A l.length c) l.length (strs l))(hlc:l.length≤c)(kY:1≤sz)(jH:sz≤64)(hR:kV l):
  a_ B w0 87 [ah sz,.slice A l.length c] F (fun r L=>∃A' c',r= .tuple #[.slice A' (fQ sz l).length c',ah 0]∧L= .own 5 1 A' (fQ sz l).length c' (bv (fQ sz l))::F):=by
 have hlen:=hR.2;have zJ:=hR.le;have hNl:gU sz l.length≤1048639:=by
  unfold gU;exact jd (q_ _ _) aa
 have Va:(aS l.length).length≤10:=aT aa;refine xS func87 44 rfl rfl rfl [(0,ah sz),(1,.slice A l.length c)] ⟨⟨rfl,rfl⟩,⟨rfl,rfl⟩,trivial⟩ ?_;refine qE ?_;refine b8 ?_;refine lB ?_;refine qE ?_;refine be ?_;refine bW 11 20 [0,1] ((sz:Int)<1∨64<(sz:Int)∨¬kV l) ?_ ?_
 ·refine bF ?_;refine aL rfl rfl rfl (fun mA=>?_) (fun mA=>?_)
  ·refine bG ?_;refine aL rfl rfl rfl (fun kh=>?_) (fun kh=>?_)
   ·refine be ?_;refine ai rfl (MR hb aa) ?_;refine bF ?_;exact aQ b_2
   ·refine bF ?_;exact aQ b_2
  ·refine bL ?_;exact aQ b_2
 ·refine be ?_;refine aj (fun iY=>?_) fun iY=>?_
  ·exfalso;rcases iY with h|h|h<;>first|omega|exact h hR
  ·refine aF ?_;refine lB ?_;refine qE ?_;refine b8 ?_;refine ay rfl (iN l.length aa) fun Bi Df=>?_;refine bc fun g6=>?_;refine be ?_;refine lB ?_;refine qE ?_;refine aZ 5 1 none ?_;refine aF ?_;refine bc fun g7=>?_;refine aF ?_;refine lB ?_;refine Lc ?_;refine bF ?_;refine ay rfl (agM kY) fun g2 g3=>?_;refine aF ?_;refine lB ?_;refine FT (N:=gU sz l.length) ao0 rfl rfl rfl (fun i:Fin (gU sz l.length)=>Gt A sz l.length i.val) (fun xs=>xs.map (·.val)=List.range (gU sz l.length)) (fun _=>True) [.bD g2 87 [.slice A l.length c],.bD g3 3 [ah sz]]
    (fun w hw=>Mz kY aa aa hlc (fun e=>aoh) w (hw.all _ (lk _ rj)) (hw.all _ rj))
    (fun(_:List (Fin (gU sz l.length))) (_:bj×Nat×bj×Nat)=>True) (fun pre s=>.bD g3 3 [ah sz]:: .bD g2 87 [.slice A l.length c]:: .bD g7 27 [.slice s.1 (iV l sz (pre.map (·.val))).length s.2.1]:: .own 5 1 s.1 (iV l sz (pre.map (·.val))).length s.2.1 (bv (iV l sz (pre.map (·.val)))):: .bD g6 27 [.slice s.2.2.1 (aS l.length++lh l sz (pre.map (·.val))).length s.2.2.2]:: .own 5 1 s.2.2.1 (aS l.length++lh l sz (pre.map (·.val))).length s.2.2.2 (bv (aS l.length++lh l sz (pre.map (·.val))))::F)
    (fun pre s q hq=>by simp only[KL hq,KK hq]) (fun q hq=>by
     simp only[fk,mo,oe]at hq;rcases hq with rfl|rfl
     ·exact⟨rfl,fun pre s=>lk _ rj⟩
     ·exact⟨rfl,fun pre s=>rj⟩)
    (none,0,Bi,Df) trivial (.cons (.cons (bq (by simp[iV]) (ax (by simp[iV]) (by simp[iV]) (bq (by simp[lh]) (ax (by simp[lh]) (by simp[lh]) (.refl _))))))) ?_ ?_
   ·rintro l' pre x ⟨A7,c7,A6,c6⟩ w1 _ mJ acs F';have hxn:x.val*sz<l.length:=(nP kY).1 x.isLt;have hbx:=((ak_ hb hxn).later acs).mono (vC F F');have hX:=QB l sz x.val;have hXE:xi sz l.length x.val≤64:=by unfold xi;omega
    have hX1:1≤xi sz l.length x.val:=by unfold xi;omega
    have hvX:Gt A sz l.length x.val= .slice (A.map (·.add (x.val*sz))) (ck l sz x.val).length (ck l sz x.val).length:=by unfold Gt;rw[hX]
    have hB1:=uN jH zJ (pre.map (·.val));have hH1:=qW jH zJ (pre.map (·.val));rw[eK]at hB1 hH1;have c_:=tG (l:=ck l sz x.val) aa (fun s hs=>zJ s (zk hs));have hsB:=C' l sz (pre.map (·.val)) x.val;have hsH:=Rm l sz (pre.map (·.val)) x.val;have hmp:(pre++[x]).map (·.val)=pre.map (·.val)++[x.val]:=by simp
    simp only[nC,hvX,hmp,hsB,hsH];have asC:ck l sz x.val≠[]:=fun e=>by rw[e]at hX;simp at hX;omega
    have ar7:∀s∈ck l sz x.val,s.length≤25:=fun s hs=>zJ s (zk hs);generalize ck l sz x.val=X at*;generalize A.map (·.add (x.val*sz))=A8 at*;generalize iV l sz (pre.map (·.val))=bd at*;generalize lh l sz (pre.map (·.val))=hd at*;have Iq:(aS l.length++hd).length=(aS l.length).length+hd.length:=aY;have hbn:(aS (dB X).length).length≤10:=aT aa;refine FW ?_;refine Le ?_;refine nc ag ?_;refine aF ?_;refine ay rfl (Xr asC aB aa ar7) fun Qc c30=>?_;refine be ?_;refine nq ?_;refine Le ?_;refine ajq (S:=F++F') ag ag gF ?_;refine ae 1 ?_;refine ae 2 ?_;refine ae 3 ?_;refine gV 0 4 ?_ ?_
    ·refine aF ?_;refine az 4 ?_;refine bZ rfl rfl (iN (dB X).length aa) fun Lo c35=>?_;refine az 5 ?_;refine eV rfl (bS cD rfl aV rfl aB cw aa aa) fun A36 c36=>?_;refine az 6 ?_;refine aF ?_;refine cQ [7,9] ?_;refine nq ?_;refine nc ag ?_;refine be ?_;refine fN (bS cD rfl aV rfl aB cw aa aa) fun A39 c39=>?_;refine be ?_;refine nq ?_;exact⟨(A39,c39,A36,c36),trivial,.skip (.skip (.cons (.cons (bq ak (ax ak ak (bq (by simp[NL]) (ax (by simp[NL]) ak (.refl _))))))))⟩
    ·refine bZ rfl rfl (iN (dB X).length aa) fun Lo c35=>?_;refine az 0 ?_;refine aF ?_;refine az 5 ?_;refine eV rfl (bS cD rfl aV rfl aB cw aa aa) fun A36 c36=>?_;refine az 6 ?_;refine aF ?_;refine cQ [7,9] ?_;refine nq ?_;refine nc ag ?_;refine be ?_;refine fN (bS cD rfl aV rfl aB cw aa aa) fun A39 c39=>?_;refine be ?_;refine nq ?_;exact⟨(A39,c39,A36,c36),trivial,.skip (.skip (.cons (.cons (bq ak (ax ak ak (bq (by simp[NL]) (ax (by simp[NL]) ak (.refl _))))))))⟩
   ·rintro D xs ⟨A7,c7,A6,c6⟩ hS _;have hB1:=uN jH zJ (xs.map (·.val));have hH1:=qW jH zJ (xs.map (·.val));rw[hS]at hB1 hH1;rw[vZ]at hB1 hH1;simp only[hS];have hBl:(fQ sz l).length≤10000000000:=by
     have:=ow 3000 hNl;have:=ow 10 hNl;unfold fQ;rw[aY,aY];omega
    refine afR ?_;refine be ?_;refine cC (aG fD [_,_] rfl rfl cw aa aa) fun A42=>?_;refine ay rfl (xo (l:=fQ sz l) (P:=[(.slice A6 (aS l.length++lh l sz (List.range (gU sz l.length))).length c6,aS l.length++lh l sz (List.range (gU sz l.length))),(.slice A7 (iV l sz (List.range (gU sz l.length))).length c7,iV l sz (List.range (gU sz l.length)))]) aB aoi rfl (by simp[eh.all,fQ]) aa ak) fun Lp c43=>?_;refine bF ?_;refine nq ?_;refine afQ rfl ((BN (fR (fR (.refl _))))) ?_;refine aq (L':=.own 5 1 Lp (fQ sz l).length c43 (bv (fQ sz l))::F) (.cons (.skip (.skip (.skip (.skip (.skip (.skip (.skip (.refl _))))))))) ?_;refine aF ?_;exact⟨Lp,c43,rfl,rfl⟩
section
section
variable{C:Cx}{fr:Fr}{L:aP}{f:Ch→aP}{x:Operand}{t ty e:TypeId}{A:bj}{n c:Nat}{xs:cV}
theorem J3(ht:C.P.underlying t=some (.slice e))(hu:C.P.underlying e=some (.int .u8))(he:ev fr x=some (.slice A n c))(hm:mC (.own e 1 A n c xs) L f)(hc:1≤n):
  qp C fr L (.convert t t x) ty (fun v L'=>∃g cur k,v= .slice A n c∧A=some ⟨g,0,none⟩∧n≤c∧cur.toList.take n=xs∧xs.length=n∧L'=f (.obj g (.cells cur e k))):=fun a w ha hw d pos af gg=>by
 obtain⟨h1,h2,h3⟩:=hw.all _ hm.mem;obtain⟨g,cur,rfl,k1,k2,k3,k4,k5⟩:=h3.resolve_left aa;have hsh:w.shape? g=some (e,cur.size):=by unfold World.shape?;rw[k2]
 have fE:g<w.heap.size:=(k_3.1 k2).1;have s7:(convert t t (.slice (some ⟨g,0,none⟩) n c)).run C.P w= .ok (.slice (some ⟨g,0,none⟩) n c) (w.freeze ⟨g,cur.size,none⟩ 1):=by
  simp[convert,iO ht,iO hu,markStringish,hsh]
 have Il:(w.freeze ⟨g,cur.size,none⟩ 1).heap[g]? =some (.cells cur e (cur.size,cur.size+1)):=by
  unfold World.freeze;rw[aw aA];show(w.heap.modify g _)[g]? =_;rw[Array.getElem?_modify,ao rfl,k2];rfl
 have hgr:w.grownBy (w.freeze ⟨g,cur.size,none⟩ 1) (some g):=by
  unfold World.freeze;rw[aw aA];refine⟨rfl,rfl,rfl,ak,fun k hk r8=>?_⟩;show(w.heap.modify g _)[k]? =_;rw[Array.getElem?_modify,aw (fun e=>r8 xq)]
 have P4:(Ch.own e 1 (some ⟨g,0,none⟩) n c xs).fp=some g:=by simp[Ch.fp,show¬c=0 by omega]
 refine⟨_,w.freeze ⟨g,cur.size,none⟩ 1,_,.inl ?_,⟨g,cur,(cur.size,cur.size+1),rfl,rfl,h2,by rw[cE]at k5;exact k5,aa,rfl⟩,hw.Qb hm (by rw[P4];exact hgr) (fun _=>⟨k1,Il⟩) (.inr (.inl P4.symm))⟩;simp[execOp,ha.tmp he,s7]
theorem aJ.obj{B:Nat}{w0:World}{g:Nat}{cur:Array Value}{k:Nat×Nat}(h:Ch.obj g (.cells cur e k)∈L)(h2:n≤c)(hx:cur.toList.take n=xs)(hl:xs.length=n):aJ B w0 L 1 (.slice (some ⟨g,0,none⟩) n c) n xs:=fun w hs=>by
 have hh:=(hs.all _ h).2;refine⟨_,_,rfl,h2,aa,fun _=>⟨_,rfl,(k_3.1 hh).1,fun j u hu=>?_⟩⟩;rw[zW,mq,cell_of_row w g j cur e k hh];rw[←hx,GR]at hu;split at hu
 ·simpa using hu
 ·cases hu
end
end
def grT(l:List cm):Prop:=300<l.length∨∃i,i<l.length∧60<(l.getD i []).length
instance (l:List cm):Decidable (grT l):=inferInstanceAs (Decidable (_∨_))
theorem aoj{P:Prop}(h:P:=by(first|(exact⟨fun h=>absurd h (by omega),False.elim⟩)|omega|(simp at h7;done))):P:=h
abbrev Wr(g:Nat)(bt:TypeId)(A:bj)(c:Nat)(q:List Bool)(F:aP):aP:=.bD g bt [.slice A (packed q).length c,ah q.length]:: .own 5 1 A (packed q).length c (bv (packed q))::F
theorem aqR(q:List Bool)(v:Nat)(hv:v<18446744073709551616)(n:Nat)(hn:n≤64)(hp:v<2^n)(hq:q.length≤7000000):
  a_ B w0 153 [br g,.int .u64 v,ah n] (Wr g bt A c q F)
   (fun r L=>r=ah 0∧∃A' c',L=Wr g bt A' c' (q++hi v n n) F):=by
 refine fw func153 42 [0,1,2] ?_;refine bJ ?_;refine bW 20 27 [0,1,2] (False) ?_ ?_
 ·refine bQ ?_;refine aL rfl rfl rfl (fun kg=>?_) (fun kg=>?_)
  ·refine bG ?_;refine aL rfl rfl rfl (fun jk=>?_) (fun jk=>?_)
   ·refine bG ?_;refine cP (fun lW=>?_) fun lW=>?_
    ·refine b8 ?_;refine ab (dj rfl rfl aa (Fm v (e:=n) rfl aa)) rfl ?_;refine bG ?_;exact aQ aoa
    ·refine bz ?_;exact aQ (by rfl)
   ·refine bJ ?_;exact aQ agn
  ·refine cJ ?_;exact aQ agn
 ·refine be ?_;refine dm fun ka=>?_;refine cY ?_;refine aE (fun zf zL zm=>∃(m:Nat) (A':bj) (c':Nat),(m≤n)∧n-m=zm∧Sub zf [(0,br g),(1,.int .u64 v),(7,ah ((n:Int)-m-1))]∧Wk zL (Wr g bt A' c' (q++hi v n m) F)) _ ⟨0,A,c,bT _,rfl,bp,bq Hm (ax Hm Hm (.refl _))⟩ ?_;rintro _ _ _ ⟨m,A',c',hm,rfl,hs,hp⟩;refine aU hs hp ?_;clear hs hp;have wL:(q++hi v n m).length=q.length+m:=by rw[aY,dM]
  refine bL ?_;refine aj (fun D5=>?_) fun D5=>?_
  ·refine b8 ?_;refine cF F ?_;refine ae 0 ?_;refine ae 1 ?_;refine ae 2 ?_;refine ae 3 ?_;refine ae 4 ?_;refine aW 5 rfl (dj rfl rfl aa (Fm v (e:=n-1-m) aa aa)) ?_;refine aW 6 rfl (jY rfl rfl (Wm v _ hv)) ?_;refine az 7 ?_;refine gA rfl .no Un rfl (aaI (q++hi v n m) (v.testBit (n-1-m)) aa) rfl aoD ?_;rintro _ _ ⟨rfl,TK,c41,cA⟩;obtain rfl:=cA.symm;refine bJ ?_;refine av ⟨_,aa,m+1,TK,c41,aa,rfl,bp,bq Ho (ax Ho Ho (.refl _))⟩
  ·refine cJ ?_;have hm':m=n:=by omega
   subst hm';exact⟨rfl,A',c',rfl⟩
theorem ajk(q:List Bool)(n:Nat)(hn:n≤100000)(hq:q.length≤7000000):
  a_ B w0 154 [br g,ah n] (Wr g bt A c q F)
   (fun r L=>r=ah 0∧∃A' c',L=Wr g bt A' c' (q++un n) F):=by
 refine fw func154 27 [0,1] ?_;refine bJ ?_;refine bW 10 14 [0,1] (False) ?_ ?_
 ·refine bQ ?_;refine aL rfl rfl rfl (fun pg=>?_) (fun pg=>?_)
  ·refine b8 ?_;exact aQ (by exact dN aoj)
  ·refine be ?_;exact aQ (by exact eF aoj)
 ·refine be ?_;refine dm fun kg=>?_;refine bA ?_;refine aE (fun zf zL zm=>∃(m:Nat) (A':bj) (c':Nat),(m≤n)∧n-m=zm∧Sub zf [(0,br g),(15,ah n),(16,ah m)]∧Wk zL (Wr g bt A' c' (q++List.replicate m false) F)) _ ⟨0,A,c,bT _,rfl,bp,bq (by rw[NU,gk]) (ax (by rw[NU,gk]) (by rw[NU,gk]) (.refl _))⟩ ?_;rintro _ _ _ ⟨m,A',c',hm,rfl,hs,hp⟩;refine aU hs hp ?_;clear hs hp;have wL:(q++List.replicate m false).length=q.length+m:=by rw[aY,x_]
  refine bz ?_;refine aj (fun iF=>?_) fun iF=>?_
  ·refine bJ ?_;refine aX Un rfl (aaI (q++List.replicate m false) false aa) rfl ?_;rintro _ _ ⟨rfl,A21,c21,cA⟩;obtain rfl:=cA.symm;refine bL ?_;refine av ⟨_,aa,m+1,A21,c21,aa,rfl,bp,bq (by rw[Fa,bV]) (ax (by rw[Fa,bV]) (by rw[Fa,bV]) (.refl _))⟩
  ·refine bA ?_;refine aX Un rfl (aaI (q++List.replicate m false) true aa) rfl ?_;rintro _ _ ⟨rfl,sY,Bq,cA⟩;obtain rfl:=cA.symm;refine bQ ?_;have hm':m=n:=by omega
   subst hm';exact⟨rfl,sY,Bq,by rw[bV];rfl⟩
theorem agH(q:List Bool)(hq:q.length≤8000000):a_ B w0 155 [br g] (Wr g bt A c q F) (fun r L=>∃A' c',r= .slice A' (packed q).length c'∧L= .own 5 1 A' (packed q).length c' (bv (packed q))::Wr g bt A c q F):=by
 have mJ:=dJ q;refine fw func155 11 [0] ?_;refine GC ?_;refine ay rfl (l_ (packed q) aB aa) fun wh F6=>?_;refine bG ?_;exact⟨wh,F6,rfl,rfl⟩
theorem gN:type_of% @Nat.mul_le_mul:= @Nat.mul_le_mul
def nY(l:bf):cV:=l.map fun(n:Nat)=>Value.int .u16 (n:Int)
@[simp] theorem akC(l k:bf):nY (l++k)=nY l++nY k:=by simp[nY]
@[simp] theorem akD(l:bf):(nY l).length=l.length:=by simp[nY]
theorem afC{l:bf}{k:Nat}(h:k<l.length):(nY l)[k*1]? =some (.int .u16 (l.getD k 0:Nat)):=by
 simp[nY,List.getD,fm h]
def OW(bound:Int)(ids:List Int)(i:Nat):Prop:=0≤ids.getD i 0∧ids.getD i 0<bound∧(0<i→ids.getD (i-1) 0<ids.getD i 0)
def Hg(bound:Int)(ids:List Int):Prop:=∀i,i<ids.length→OW bound ids i
instance (bound:Int)(ids:List Int)(i:Nat):Decidable (OW bound ids i):=inferInstanceAs (Decidable (_∧_∧_))
instance (bound:Int)(ids:List Int):Decidable (Hg bound ids):=inferInstanceAs (Decidable (∀i,i<ids.length→_))
def kU(bound:Nat)(xs:bf):Prop:=∀i,i<xs.length→xs.getD i 0<bound∧(0<i→xs.getD (i-1) 0<xs.getD i 0)
theorem Hg.adz{bound:Int}{ids:List Int}(h:Hg bound ids):∃xs:bf,ids=xs.map (fun(n:Nat)=>(n:Int)):=by
 refine⟨ids.map Int.toNat,?_⟩;apply pV
 ·simp
 ·intro i h1 h2;have:=(h i h1).1;rw[bk,fm h1]at this;simp at this⊢;omega
theorem Xs(xs:bf)(i:Nat):(xs.map (fun(n:Nat)=>(n:Int))).getD i 0=((xs.getD i 0:Nat):Int):=by
 simp only[bk,jr];cases xs[i]? <;>rfl
theorem sh(bound:Nat)(xs:bf):Hg bound (xs.map (fun(n:Nat)=>(n:Int)))↔kU bound xs:=by
 unfold Hg kU OW;simp only[Xs,eK];exact⟨fun h i hi=>by have:=h i hi;omega,fun h i hi=>by have:=h i hi;omega⟩
theorem NK(xs:bf):ints .i64 (xs.map (fun(n:Nat)=>(n:Int)))=bx xs:=by simp[ints,bx]
theorem kU.ge{bound:Nat}{xs:bf}(h:kU bound xs):∀i,i<xs.length→i≤xs.getD i 0
 |0,_=>bT _
 |i+1,hi=>by
  have h1:=kU.ge h i aa;have h2:=(h (i+1) hi).2 aa;rw[vV]at h2;omega
theorem kU.len{bound:Nat}{xs:bf}(h:kU bound xs):xs.length≤bound:=by
 rcases wQ xs.length with h0|h0
 ·omega
 ·have h1:=h.ge (xs.length-1) aa;have h2:=(h (xs.length-1) aa).1;omega
def wid(bound n:Nat):Nat:=Nat.log2 (bound/n)
theorem w_{bound n:Nat}(h:bound≤20000):wid bound n≤14:=by
 unfold wid;by_cases h0:bound/n=0
 ·rw[h0];decide
 ·have:bound/n<2^15:=by have:=q_ bound n;omega
  have:=(Nat.log2_lt h0).2 this;omega
theorem uz{w:Nat}(h:w≤14):2^w≤16384:=kZ aa h
def Bb(p was:Nat):bf→List Bool
 |[]=>[]
 |x::xs=>un (x/p-was)++Bb p (x/p) xs
def BM(p w:Nat)(xs:bf):List Bool:=xs.flatMap fun x=>hi (x%p) w w
def Lv(p w:Nat)(xs:bf):List Bool:=BM p w xs++Bb p 0 xs
def rI(bound:Nat)(xs:bf):al:=aS xs.length++(if xs.length=0 then [] else packed (Lv (2^wid bound xs.length) (wid bound xs.length) xs))
def PT(bound:Int)(ids:List Int):al×Int:=if bound<0∨20000<bound∨¬Hg bound ids then ([],13) else (rI bound.toNat (ids.map Int.toNat),0)
theorem JZ{bound:Int}{ids:List Int}(h:bound<0∨20000<bound∨¬Hg bound ids):PT bound ids=([],13):=ao h
theorem J0{bound:Nat}{xs:bf}(h:¬((bound:Int)<0∨(20000:Int)<bound∨¬Hg bound (xs.map (fun(n:Nat)=>(n:Int))))):PT bound (xs.map (fun(n:Nat)=>(n:Int)))=(rI bound xs,0):=by
 have e:(xs.map (fun(n:Nat)=>(n:Int))).map Int.toNat=xs:=by simp[Function.comp_def]
 unfold PT;rw[aw h,nB,e]
theorem adl(p w:Nat)(xs:bf)(x:Nat):BM p w (xs++[x])=BM p w xs++hi (x%p) w w:=by simp[BM]
theorem mX(p w:Nat)(xs:bf):(BM p w xs).length=xs.length*w:=by
 induction xs with
 |nil=>simp[BM]
 |cons x xs ih=>simp only[BM,jJ,aY,dM,ef,j0]at ih⊢;omega
def pq(p was:Nat)(xs:bf):Nat:=xs.foldl (fun _ x=>x/p) was
theorem RT(p was:Nat)(xs:bf)(x:Nat):pq p was (xs++[x])=x/p:=by simp[pq]
theorem FP(p:Nat)(x:Nat):∀(xs:bf) (was:Nat),Bb p was (xs++[x])=Bb p was xs++un (x/p-pq p was xs)
 |[],was=>by simp[Bb,pq]
 |y::xs,was=>by
  rw[nC,Bb,Bb,FP p x xs (y/p),bV];rfl
theorem pr{p:Nat}{xs:bf}{k:Nat}(h:k<xs.length):pq p 0 (xs.take (k+1))=xs.getD k 0/p:=by
 rw[ba h 0,RT]
theorem N9{bound p:Nat}{xs:bf}(h:kU bound xs){k:Nat}(hk:k<xs.length):pq p 0 (xs.take k)≤xs.getD k 0/p:=by
 rcases k with _|k
 ·simp[pq]
 ·rw[pr aa];have:=(h (k+1) hk).2 aa;rw[vV]at this;exact Nat.div_le_div_right (Nat.le_of_lt this)
theorem sq{bound p:Nat}{xs:bf}(h:kU bound xs):∀k,k≤xs.length→(Bb p 0 (xs.take k)).length=k+pq p 0 (xs.take k)
 |0,_=>by simp[Bb,pq]
 |k+1,hk=>by
  have h1:=sq h (p:=p) k aa;have h2:=N9 (p:=p) h (k:=k) aa;rw[pr aa,ba aa 0,FP,aY,oM,h1];omega
theorem N8{bound p:Nat}{xs:bf}(h:kU bound xs)(k:Nat)(hk:k≤xs.length):pq p 0 (xs.take k)≤bound:=by
 rcases k with _|k
 ·simp[pq]
 ·rw[pr aa];have:=(h k aa).1;have:=q_ (xs.getD k 0) p;omega
theorem UC{bound p w:Nat}{xs:bf}(h:kU bound xs)(hb:bound≤20000)(hw:w≤14):(Lv p w xs).length≤400000:=by
 have h1:=mX p w xs;have h2:=sq (p:=p) h xs.length (gj _);have h3:=N8 (p:=p) h xs.length (gj _);have h4:=h.len;rw[jU]at h2 h3;have h5:xs.length*w≤20000*14:=gN aa hw;unfold Lv;rw[aY];omega
theorem rh:type_of% @Nat.one_mul:= @Nat.one_mul
def Lr(x:Nat):Nat:=if x=0 then 0 else Nat.log2 x+1
def Ky:al:=(List.range 256).map fun i=>UInt8.ofNat (Lr i)
theorem aiW(y:Nat)(h:y<256):(Ky.getD y 0).toNat=Lr y:=by
 have:∀i:Fin 256,(Ky.getD i.val 0).toNat=Lr i.val:=by decide+kernel
 exact this ⟨y,h⟩
theorem agu{x:Nat}(h:256≤x):Lr x=8+Lr (x/256):=by
 unfold Lr;rw[aw aa,aw aa];have h0:x/256≠0:=by omega
 have e:Nat.log2 x=8+Nat.log2 (x/256):=by
  apply Nat.le_antisymm
  ·have h1:=Nat.lt_log2_self (n:=x/256);have h2:x<2^(8+Nat.log2 (x/256)+1):=by
    rw[show 8+Nat.log2 (x/256)+1=8+(Nat.log2 (x/256)+1) by omega,Nat.pow_add];omega
   have:=(Nat.log2_lt aa).2 h2;omega
  ·refine(Nat.le_log2 aa).2 ?_;have:=Nat.log2_self_le h0;rw[Nat.pow_add];omega
 omega
theorem JQ{C:Cx}{fr:Fr}{L:aP}{x y:Operand}{t ty:TypeId}{k:IntKind}{m:Int}{s s':al}{i:Nat}(ht:C.P.underlying t=some .string)(h:ev fr x=some (.string ⟨s.toArray⟩))(hs:s=s')(h2:ev fr y=some (.int k m))(hm:m=(i:Int))(hi:i<s'.length):gI C fr L (.index t x y) ty (.int .u8 ((s'.getD i 0).toNat:Int)):=by
 subst hs;exact rU ht h h2 hm hi
theorem atn(y:Nat):(y:Int).fdiv (2^min (8:Int).toNat IntKind.u64.bits)=((y/256:Nat):Int):=by
 have e:min (8:Int).toNat IntKind.u64.bits=8:=by decide
 rw[e,vT _ aA];rfl
theorem ahN(x:Nat)(hx:x<65536):a_ B w0 253 [.int .u64 x] F (fun r L=>r=ah (Lr x)∧L=F):=by
 refine fw func253 25 [0] ?_;refine cJ ?_;refine dm fun h4=>?_;refine bQ ?_;refine dm fun h8=>?_;refine be ?_;refine d_ (fun zf zL=>∃(y m:Nat),(y<256∧m≤8∧Lr x=m+Lr y)∧Sub zf [(0,.int .u64 y),(2,ah m)]∧Wk zL (F)) ?_ ?_
 ·refine bz ?_;refine aj (fun kg=>?_) fun kg=>?_
  ·refine bF ?_;refine ab (dj rfl rfl aa (atn x)) rfl ?_;refine bJ ?_;exact bC ⟨x/256,8,⟨aa,aa,agu aa⟩,bp,.refl _⟩
  ·refine aF ?_;exact bC ⟨x,0,⟨aa,aa,aa⟩,bp,.refl _⟩
 ·rintro _ _ ⟨y,m,⟨hy,hm,c_⟩,hs,hp⟩;refine aU hs hp ?_;clear hs hp;refine bG ?_;refine ab (JQ (s':=Ky) underlying9 rfl oR rfl rfl (by simp[Ky];omega)) rfl ?_;rw[aiW y hy];have hb9:Lr y≤8:=by
   have:∀i:Fin 256,Lr i.val≤8:=by decide+kernel
   exact this ⟨y,hy⟩
  refine bL ?_;exact⟨ek (fun(z:Int)=>Value.int .i64 z) aa,rfl⟩
theorem aj'(x:Nat)(hx:x<65536):a_ B w0 211 [.int .u64 x] F (fun r L=>r=ah (Lr x)∧L=F):=by
 refine fw func211 8 [0] ?_;refine cJ ?_;refine ai rfl (ahN x hx) ?_;refine bG ?_;exact⟨rfl,rfl⟩
theorem Lf(b m:Nat)(hb:b≤20000)(hm:1≤m)(hmb:m≤b):a_ B w0 151 [ah b,ah m] F (fun r L=>r=ah (wid b m)∧L=F):=by
 have hq:b/m≤20000:=jd (q_ _ _) hb;have hq1:1≤b/m:=(Nat.le_div_iff_mul_le aa).2 aa;have hw:(wid b m:Int)=(Lr (b/m):Int)-1:=by unfold wid Lr;rw[aw aa];omega
 have hqq:IntKind.i64.wrap ((b:Int).tdiv (m:Int))=((b/m:Nat):Int):=by
  have e:(b:Int).tdiv (m:Int)=((b/m:Nat):Int):=(Int.ofNat_tdiv b m).symm;rw[e];generalize b/m=x at hq;exact wrap_i64 _ aa aa
 generalize hz:b/m=q at*;refine fw func151 11 [0,1] ?_;refine bQ ?_;refine ab (mc rfl rfl aa hqq) rfl ?_;refine aF ?_;refine ai rfl (aj' q aa) ?_;have c_:Lr q≤17:=by
  unfold Lr;split
  ·omega
  ·have:=(Nat.log2_lt (n:=q) (k:=16) aa).2 aa;omega
 refine bz ?_;exact⟨by rw[hw],rfl⟩
theorem aek{bound:Int}{ids:List Int}{k:Nat}{was:Int}(hw:was=if k=0 then-1 else ids.getD (k-1) 0)(hp:∀i,i<k→OW bound ids i):OW bound ids k↔was<ids.getD k 0∧ids.getD k 0<bound:=by
 by_cases h0:k=0
 ·subst h0;rw[ao rfl]at hw;subst hw;unfold OW;exact⟨fun h=>⟨aa,h.2.1⟩,fun h=>⟨aa,h.2,fun h=>absurd h aa⟩⟩
 ·rw[aw h0]at hw;subst hw;have:=(hp (k-1) aa).1;unfold OW;exact⟨fun h=>⟨h.2.2 aa,h.2.1⟩,fun h=>⟨aa,h.2,fun _=>h.1⟩⟩
theorem Wc(bound:Int)(ids:List Int)(hb:aJ B w0 F 1 (.slice A ids.length c) ids.length (ints .i64 ids))(hl:ids.length≤9000000000000000000):
  a_ B w0 150 [ah bound,.slice A ids.length c] F (fun r L=>r= .bool (decide (Hg bound ids))∧L=F):=by
 refine fw func150 24 [0,1] ?_;refine zH ?_;refine aE (fun zf zL zm=>∃(k:Nat) (was:Int),(k≤ids.length∧was=(if k=0 then-1 else ids.getD (k-1) 0)∧∀i,i<k→OW bound ids i)∧ids.length-k=zm∧Sub zf [(0,ah bound),(5,ah was),(8,.slice A ids.length c),(9,ah ids.length),(10,ah k)]∧Wk zL (F)) _ ⟨0,-1,⟨bT _,rfl,fun i h=>absurd h aa⟩,rfl,bp,.refl _⟩ ?_;rintro _ _ _ ⟨k,was,⟨hk,asU,mF⟩,rfl,hs,hp⟩;refine aU hs hp ?_;clear hs hp;have hcw:=aek asU mF;refine bz ?_;refine aj (fun pg=>?_) fun pg=>?_
 ·refine dQ ?_;refine bW 8 21 [0,7,8,9,10] (ids.getD k 0≤was∨bound≤ids.getD k 0) ?_ ?_
  ·refine b8 ?_;refine aL rfl rfl rfl (fun iF=>?_) (fun iF=>?_)
   ·refine bz ?_;exact aQ b_8
   ·refine bF ?_;exact aQ b_8
  ·refine be ?_;refine aj (fun lW=>?_) fun lW=>?_
   ·refine de ?_;exact⟨by rw[nT (fun h=>by have:=hcw.1 (h k aa);omega)],rfl⟩
   ·refine cJ ?_;refine av ⟨_,aa,k+1,ids.getD k 0,⟨aa,by rw[aw aa,vV],fun i h=>by rcases Nat.lt_succ_iff_lt_or_eq.1 h with h|h;exact mF i h;subst h;exact hcw.2 aa⟩,rfl,bp,.refl _⟩
 ·refine cJ ?_;exact⟨by rw[ox (show Hg bound ids from fun i hi=>mF i aa)],rfl⟩
abbrev Pt(g:Nat)(bt:TypeId)(w p:Nat)(A1:bj)(c1:Nat)(A2:bj)(c2:Nat)(xs:bf)(F:aP):aP:=.bD g bt [ah w,.slice A1 xs.length c1,.slice A2 xs.length c2]:: .own 3 1 A1 xs.length c1 (bx (xs.map (· /p))):: .own 57 1 A2 xs.length c2 (nY (xs.map (· %p)))::F
theorem aq2{x w p:Nat}(hp:p=2^w)(hw:w≤14):(x:Int).fdiv (2^min (w:Int).toNat IntKind.i64.bits)=((x/p:Nat):Int):=by
 have e:min (w:Int).toNat IntKind.i64.bits=w:=by
  rw[nB];exact za (show w≤64 by omega)
 rw[e,hp,vT _ (Int.le_of_lt (Int.pow_pos aA)),Int.natCast_ediv];congr 1
theorem aiK{x w p:Nat}(hp:p=2^w)(hw:w≤14)(hx:x*p≤4611686018427387904):IntKind.i64.wrap ((x:Int)*2^min (w:Int).toNat IntKind.i64.bits)=((x*p:Nat):Int):=by
 have e:min (w:Int).toNat IntKind.i64.bits=w:=by
  rw[nB];exact za (show w≤64 by omega)
 have e2:(x:Int)*2^w=((x*p:Nat):Int):=by rw[hp,z6];congr 1
 rw[e,e2];exact bE aa aa
theorem an2{x w p:Nat}(hp:p=2^w)(hx:x<9223372036854775808)(LA:p≤16384):IntKind.i64.wrap ((BitVec.ofInt IntKind.i64.bits (x:Int) &&& BitVec.ofInt IntKind.i64.bits ((p-1:Nat):Int)).toNat:Int)=((x%p:Nat):Int):=by
 have h:=ahA x (p-1) hx aa;rw[hp,Nat.and_two_pow_sub_one_eq_mod,←hp]at h;exact h
theorem orP{x w p:Nat}(hp:p=2^w)(hx:x<9223372036854775808):IntKind.i64.wrap ((BitVec.ofInt IntKind.i64.bits ((x/p*p:Nat):Int) ||| BitVec.ofInt IntKind.i64.bits ((x%p:Nat):Int)).toNat:Int)=(x:Int):=by
 have h1:x/p*p≤x:=Nat.div_mul_le_self x p;have h2:x%p≤x:=Nat.mod_le x p;have h:=acW (x/p*p) (x%p) aa aa;have e:x/p*p ||| x%p=x:=by
  have fE:x%p<2^w:=by rw[←hp];exact sN _ (by rw[hp];exact vS w)
  rw[hp]at fE⊢;rw[nE,←NP fE];exact Nat.div_add_mod x (2^w)
 rw[e]at h;exact h
theorem adX(bt:TypeId){w p:Nat}(hp:p=2^w)(hw:w≤14)(xs:bf)(x:Nat)(hx:x≤1000000)(hl:xs.length≤1000000):
  a_ B w0 152 [br g,ah x] (Pt g bt w p A1 c1 A2 c2 xs F) (fun r L=>r= .tuple #[]∧∃A1' c1' A2' c2',L=Pt g bt w p A1' c1' A2' c2' (xs++[x]) F):=by
 have LA:p≤16384:=by rw[hp];exact uz hw
 have Vb:1≤p:=by rw[hp];exact Nat.one_le_two_pow
 have al3:x%p<p:=sN _ Vb;refine fw func152 37 [0,1] ?_;refine d_ (fun zf zL=>∃(A3:bj) (c3:Nat),Sub zf [(0,br g),(1,ah x)]∧Wk zL (.bD g bt [ah w,.slice A3 (xs.length+1) c3,.slice A2 xs.length c2]:: .own 3 1 A3 (xs.length+1) c3 (bx ((xs++[x]).map (· /p))):: .own 57 1 A2 xs.length c2 (nY (xs.map (· %p)))::F)) ?_ ?_
 ·refine cF (.own 57 1 A2 xs.length c2 (nY (xs.map (· %p)))::F) ?_;refine ae 0 ?_;refine ae 1 ?_;refine ae 2 ?_;refine ae 3 ?_;refine ae 5 ?_;refine ae 6 ?_;refine ae 7 ?_;refine ae 8 ?_;refine gV 4 9 ?_ ?_
  ·refine aF ?_;refine az 9 ?_;refine aF ?_;refine aW 10 rfl (dj rfl rfl aa (aq2 hp hw)) ?_;refine az 11 ?_;refine cR rfl (aG fJ [_] rfl rfl cw aa aa) fun Bh=>?_;refine az 12 ?_;refine eV rfl (bS fJ rfl aV rfl aB cw aa aa) fun W8 c16=>?_;refine ae 13 ?_;refine ae 14 ?_;refine az 15 ?_;refine be ?_;exact bC ⟨W8,c16,bp,.skip (bq rfl (ax rfl sD (.refl _)))⟩
  ·refine aF ?_;refine aW 10 rfl (dj rfl rfl aa (aq2 hp hw)) ?_;refine gV 4 11 ?_ ?_
   ·refine aF ?_;refine az 11 ?_;refine cR rfl (aG fJ [_] rfl rfl cw aa aa) fun Bh=>?_;refine az 12 ?_;refine eV rfl (bS fJ rfl aV rfl aB cw aa aa) fun W8 c16=>?_;refine ae 13 ?_;refine ae 14 ?_;refine az 15 ?_;refine be ?_;exact bC ⟨W8,c16,bp,.skip (bq rfl (ax rfl sD (.refl _)))⟩
   ·refine cR rfl (aG fJ [_] rfl rfl cw aa aa) fun Bh=>?_;refine az 4 ?_;refine aF ?_;refine az 12 ?_;refine eV rfl (bS fJ rfl aV rfl aB cw aa aa) fun W8 c16=>?_;refine ae 13 ?_;refine ae 14 ?_;refine az 15 ?_;refine be ?_;exact bC ⟨W8,c16,bp,.skip (bq rfl (ax rfl sD (.refl _)))⟩
 ·rintro _ _ ⟨A3,c3,hs,hp⟩;refine aU hs hp ?_;clear hs hp;refine cF (.own 3 1 A3 (xs.length+1) c3 (bx ((xs++[x]).map (· /p)))::F) ?_;refine ae 0 ?_;refine ae 1 ?_;refine ae 2 ?_;refine ae 3 ?_;refine ae 5 ?_;refine ae 6 ?_;refine ae 7 ?_;refine ae 8 ?_;refine gV 4 9 ?_ ?_
  ·refine aF ?_;refine az 9 ?_;refine aF ?_;refine aW 10 rfl (ga rfl rfl aa ((aiK (x:=1) hp hw aa).trans (by rw[rh]))) ?_;refine aW 11 rfl (dw rfl rfl (r:=((p-1:Nat):Int)) ((bE aa aa).trans aa)) ?_;refine aW 12 rfl (jY rfl rfl (an2 hp aa LA)) ?_;refine ae 13 ?_;refine az 14 ?_;refine cR rfl (aG uD [_] rfl rfl cw aa aa) fun PO=>?_;refine az 15 ?_;refine eV rfl (bS uD rfl aV rfl aB cw aa aa) fun wi xh=>?_;refine ae 16 ?_;refine ae 17 ?_;refine az 18 ?_;refine aF ?_;refine cQ [] ?_;refine aF ?_;have el:xs.length+1=(xs++[x]).length:=by simp
   rw[el];refine aq (L':=Pt g bt w p A3 c3 wi xh (xs++[x]) F) (.skip (.cons (.cons (ax rfl (by simp[nY]) (.refl _))))) ?_;refine aF ?_;exact⟨rfl,A3,c3,wi,xh,rfl⟩
  ·refine aF ?_;refine aW 10 rfl (ga rfl rfl aa ((aiK (x:=1) hp hw aa).trans (by rw[rh]))) ?_;refine aW 11 rfl (dw rfl rfl (r:=((p-1:Nat):Int)) ((bE aa aa).trans aa)) ?_;refine aW 12 rfl (jY rfl rfl (an2 hp aa LA)) ?_;refine ae 13 ?_;refine gV 4 14 ?_ ?_
   ·refine aF ?_;refine az 14 ?_;refine cR rfl (aG uD [_] rfl rfl cw aa aa) fun PO=>?_;refine az 15 ?_;refine eV rfl (bS uD rfl aV rfl aB cw aa aa) fun wi xh=>?_;refine ae 16 ?_;refine ae 17 ?_;refine az 18 ?_;refine aF ?_;refine cQ [] ?_;refine aF ?_;have el:xs.length+1=(xs++[x]).length:=by simp
    rw[el];refine aq (L':=Pt g bt w p A3 c3 wi xh (xs++[x]) F) (.skip (.cons (.cons (ax rfl (by simp[nY]) (.refl _))))) ?_;refine aF ?_;exact⟨rfl,A3,c3,wi,xh,rfl⟩
   ·refine cR rfl (aG uD [_] rfl rfl cw aa aa) fun PO=>?_;refine az 4 ?_;refine aF ?_;refine az 15 ?_;refine eV rfl (bS uD rfl aV rfl aB cw aa aa) fun wi xh=>?_;refine ae 16 ?_;refine ae 17 ?_;refine az 18 ?_;refine aF ?_;refine cQ [] ?_;refine aF ?_;have el:xs.length+1=(xs++[x]).length:=by simp
    rw[el];refine aq (L':=Pt g bt w p A3 c3 wi xh (xs++[x]) F) (.skip (.cons (.cons (ax rfl (by simp[nY]) (.refl _))))) ?_;refine aF ?_;exact⟨rfl,A3,c3,wi,xh,rfl⟩
theorem amA(bt:TypeId){w p:Nat}(hp:p=2^w)(hw:w≤14)(xs:bf)(i:Nat)(hi:i<xs.length)(hx:xs.getD i 0≤1000000):
  a_ B w0 300 [br g,ah i] (Pt g bt w p A1 c1 A2 c2 xs F) (fun r L=>r=ah (xs.getD i 0:Nat)∧L=Pt g bt w p A1 c1 A2 c2 xs F):=by
 have hH:(bx (xs.map (· /p)))[i*1]? =some (ah (xs.getD i 0/p:Nat)):=by simp[bx,List.getD,fm hi]
 have hL:(nY (xs.map (· %p)))[i*1]? =some (.int .u16 (xs.getD i 0%p:Nat)):=by simp[nY,List.getD,fm hi]
 have LA:p≤16384:=by rw[hp];exact uz hw
 have Vb:1≤p:=by rw[hp];exact Nat.one_le_two_pow
 have al3:xs.getD i 0%p<p:=sN _ Vb;have hdm:=Nat.div_mul_le_self (xs.getD i 0) p;refine fw func300 26 [0,1] ?_;refine de ?_;refine b7 (au ag rfl aB aa hH) rfl ?_;refine b8 ?_;refine b7 (ga rfl rfl aa (aiK hp hw aa)) rfl ?_;refine bz ?_;refine b7 (au ag rfl aB aa hL) rfl ?_;refine aF ?_;refine b7 (tK rfl rfl (orP hp aa)) rfl ?_;refine aF ?_;refine na [(4,_)] ⟨rfl,trivial⟩ ?_;refine bF ?_;exact⟨rfl,rfl⟩
theorem tF{P:Prop}(h:P:=by(rw[aY];omega)):P:=h
theorem M1{n:Nat}(h:n≤20000):(aS n).length≤10:=aT aa
theorem M0{bound:Int}{ids:List Int}(hb:aJ B w0 F 1 (.slice A ids.length c) ids.length (ints .i64 ids))(hl:ids.length≤9000000000000000000)(hE:bound<0∨20000<bound∨¬Hg bound ids):
  a_ B w0 88 [ah bound,.slice A ids.length c] F (fun r L=>∃A' c',r= .tuple #[.slice A' 0 c',ah 13]∧L= .own 5 1 A' 0 c' []::F):=by
 refine fw func88 80 [0,1] ?_;refine bQ ?_;refine bW 12 27 [0,1] (bound<0∨20000<bound∨¬Hg bound ids) ?_ ?_
 ·refine bF ?_;refine aL rfl rfl rfl (fun jk=>?_) (fun jk=>?_)
  ·refine bG ?_;refine aL rfl rfl rfl (fun rJ=>?_) (fun rJ=>?_)
   ·refine b8 ?_;refine ai rfl (Wc bound ids hb hl) ?_;refine bF ?_;exact aQ b_2
   ·refine b8 ?_;exact aQ b_2
  ·refine bJ ?_;exact aQ b_2
 ·refine be ?_;refine aj (fun ka=>?_) fun ka=>?_
  ·refine bJ ?_;refine aD 5 1 none ?_;refine aF ?_;exact⟨none,0,rfl,rfl⟩
  ·exfalso;exact ka hE
theorem QW{b:Nat}{xs:bf}(hb:aJ B w0 F 1 (.slice A xs.length c) xs.length (bx xs))(oH:b≤20000)(hR:kU b xs):
  a_ B w0 88 [ah b,.slice A xs.length c] F (fun r L=>∃A' c',r= .tuple #[.slice A' (rI b xs).length c',ah 0]∧L= .own 5 1 A' (rI b xs).length c' (bv (rI b xs))::F):=by
 have hlen:=hR.len;have hi:Hg b (xs.map (fun(n:Nat)=>(n:Int))):=(sh b xs).2 hR;have hr:=Wc (B:=B) (w0:=w0) (F:=F) (A:=A) (c:=c) (b:Int) (xs.map (fun(n:Nat)=>(n:Int))) (by rw[NK,eK];exact hb) (by rw[eK];omega);rw[eK]at hr;have CD:=w_ (n:=xs.length) oH;obtain⟨w,hw⟩:=cN (wid b xs.length);rw[←hw]at CD;obtain⟨p,hp⟩:=cN (2^w);have Vb:1≤p:=by rw[hp];exact Nat.one_le_two_pow
 have D9:=M1 (n:=xs.length) aa;have asn:xs.length=0→rI b xs=aS xs.length:=fun h=>by unfold rI;rw[ao h];simp
 have ap7:¬xs.length=0→rI b xs=aS xs.length++packed (BM p w xs++Bb p 0 xs):=fun h=>by unfold rI Lv;rw[aw h,←hw,←hp]
 have hql:=UC (p:=p) (w:=w) hR oH CD;unfold Lv at hql;have mJ:=dJ (BM p w xs++Bb p 0 xs);refine fw func88 80 [0,1] ?_;refine cJ ?_;refine aL rfl rfl rfl (fun jk=>?_) (fun jk=>?_)
 ·refine bG ?_;refine aL rfl rfl rfl (fun rJ=>?_) (fun rJ=>?_)
  ·refine b8 ?_;refine ai rfl (hr) ?_;refine bG ?_;refine aj (fun ka=>?_) fun ka=>?_
   ·exfalso;exact ka hi
   ·refine bL ?_;refine ay rfl (iN xs.length aa) fun Qd c31=>?_;refine aF ?_;refine ve [0,1,6] ?_;refine bQ ?_;refine aj (fun GD=>?_) fun GD=>?_
    ·refine bQ ?_;rw[asn aa];refine aF ?_;exact⟨Qd,c31,rfl,rfl⟩
    ·refine bL ?_;refine ai rfl (Lf b xs.length oH aa hlen) ?_;rw[←hw];refine ab (bw [(0,_)] [ah 0,.slice none 0 0,.slice none 0 0] [0] [_,_,_] rfl rfl ag) rfl ?_;refine bc fun g7=>?_;refine bG ?_;refine aZ 57 1 none ?_;refine aZ 3 1 none ?_;refine bL ?_;refine aE (fun zf zL zm=>∃(k:Nat) (P1:bj) (p1:Nat) (P2:bj) (p2:Nat),(k≤xs.length)∧xs.length-k=zm∧Sub zf [(6,.slice Qd (aS xs.length).length c31),(7,br g7),(41,.slice A xs.length c),(42,ah xs.length),(43,ah k)]∧Wk zL (Pt g7 235 w p P1 p1 P2 p2 (xs.take k) (.own 5 1 Qd (aS xs.length).length c31 (bv (aS xs.length))::F))) _ ⟨0,none,0,none,0,bT _,rfl,bp,.dD Cm⟩ ?_;rintro _ _ _ ⟨k,P1,p1,P2,p2,hk,rfl,hs,hp⟩;refine aU hs hp ?_;clear hs hp;refine bz ?_;refine aj (fun tQ=>?_) fun tQ=>?_
     ·have YA:=(hR k aa).1;have Ce:=List.length_take_le k xs;refine bL ?_;refine ab (au ag rfl aB aa (fA aa)) rfl ?_;refine bG ?_;refine aX ajE rfl (adX 235 hp CD (xs.take k) (xs.getD k 0) aa aa) rfl ?_;rintro _ _ ⟨rfl,P48,p48,Q48,q48,cA⟩;obtain rfl:=cA.symm;refine bL ?_;refine av ⟨_,aa,k+1,P48,p48,Q48,q48,aa,rfl,bp,by rw[ba (show k<xs.length by omega) 0];exact .refl _⟩
     ·obtain rfl:k=xs.length:=by omega
      rw[jU];refine bL ?_;refine bc fun g10=>?_;refine b8 ?_;refine aZ 5 1 none ?_;refine bJ ?_;refine aE (fun zf zL zm=>∃(k:Nat) (A8:bj) (c8:Nat),(k≤xs.length)∧xs.length-k=zm∧Sub zf [(6,.slice Qd (aS xs.length).length c31),(7,br g7),(10,br g10),(51,.slice P2 xs.length p2),(52,ah xs.length),(53,ah k)]∧Wk zL (Wr g10 239 A8 c8 (BM p w (xs.take k)) (Pt g7 235 w p P1 p1 P2 p2 xs (.own 5 1 Qd (aS xs.length).length c31 (bv (aS xs.length))::F)))) _ ⟨0,none,0,bT _,rfl,bp,by rw[show BM p w (xs.take 0)=[] from rfl];exact .dD swp⟩ ?_;rintro _ _ _ ⟨k,A8,c8,Ip,rfl,hs,hp⟩;refine aU hs hp ?_;clear hs hp;refine aF ?_
      skip
      refine bG ?_;refine aj (fun h54=>?_) fun h54=>?_
      ·have YA:=(hR k aa).1;have al3:xs.getD k 0%p<p:=sN _ Vb;have LA:p≤16384:=by rw[hp];exact uz CD
       have hLo:(nY (xs.map (· %p)))[k*1]? =some (.int .u16 (xs.getD k 0%p:Nat)):=by simp[nY,List.getD,fm (show k<xs.length by omega)]
       have wL:=mX p w (xs.take k);have hlm:(xs.take k).length*w≤20000*14:=gN np CD;refine bL ?_;refine ab (au ag rfl aB aa hLo) rfl ?_;refine bJ ?_;refine aX Dm rfl (aqR (BM p w (xs.take k)) (xs.getD k 0%p) aa w aa (by rw[←hp];exact al3) aa) rfl ?_;rintro _ _ ⟨rfl,A61,c61,cA⟩;obtain rfl:=cA.symm;refine bL ?_;refine av ⟨_,aa,k+1,A61,c61,aa,rfl,bp,by rw[ba (show k<xs.length by omega) 0,adl];exact .refl _⟩
      ·obtain rfl:k=xs.length:=by omega
       rw[jU];refine alD ?_;refine aE (fun zf zL zm=>∃(k:Nat) (A9:bj) (c9:Nat),(k≤xs.length)∧xs.length-k=zm∧Sub zf [(6,.slice Qd (aS xs.length).length c31),(10,br g10),(13,ah (pq p 0 (xs.take k))),(64,.slice P1 xs.length p1),(65,ah xs.length),(66,ah k)]∧Wk zL (Wr g10 239 A9 c9 (BM p w xs++Bb p 0 (xs.take k)) (Pt g7 235 w p P1 p1 P2 p2 xs (.own 5 1 Qd (aS xs.length).length c31 (bv (aS xs.length))::F)))) _ ⟨0,A8,c8,bT _,rfl,bp,by rw[z_];simp only[Bb,gk];exact .refl _⟩ ?_;rintro _ _ _ ⟨k,A9,c9,hk3,rfl,hs,hp⟩;refine aU hs hp ?_;clear hs hp;refine bz ?_;refine aj (fun U4=>?_) fun U4=>?_
       ·have YA:=(hR k aa).1;have hdv:=q_ (xs.getD k 0) p;have hlp:=N9 (p:=p) hR (k:=k) aa;have hHi:(bx (xs.map (· /p)))[k*1]? =some (ah (xs.getD k 0/p:Nat)):=by simp[bx,List.getD,fm (show k<xs.length by omega)]
        have y':=sq (p:=p) hR k aa;have hlb:=N8 (p:=p) hR k aa;have wL:=mX p w xs;have hlm:xs.length*w≤20000*14:=gN aa CD;have fE:=pr (p:=p) (xs:=xs) (k:=k) aa;refine bL ?_;refine ab (au ag rfl aB aa hHi) rfl ?_;refine bL ?_;refine ab (dw rfl rfl (r:=((xs.getD k 0/p-pq p 0 (xs.take k):Nat):Int)) ((bE aa aa).trans aa)) rfl ?_;refine aX aoP rfl (ajk (BM p w xs++Bb p 0 (xs.take k)) (xs.getD k 0/p-pq p 0 (xs.take k)) aa tF) rfl ?_;rintro _ _ ⟨rfl,A73,c73,cA⟩;obtain rfl:=cA.symm;refine cJ ?_;refine av ⟨_,aa,k+1,A73,c73,aa,rfl,bp,by rw[ba (show k<xs.length by omega) 0,FP,←bV];exact .refl _⟩
       ·obtain rfl:k=xs.length:=by omega
        rw[jU];refine bJ ?_;refine ay rfl (agH _ aa) fun A77 c77=>?_;refine cC (aG fD [_,_] rfl rfl cw aa aa) fun A78=>?_;refine ay rfl (xo (l:=rI b xs) (P:=[(.slice Qd (aS xs.length).length c31,aS xs.length),(.slice A77 (packed (BM p w xs++Bb p 0 xs)).length c77,packed (BM p w xs++Bb p 0 xs))]) aB aoi rfl (by rw[ap7 aa];simp[eh.all]) (by rw[ap7 aa,aY];omega) ak) fun A79 c79=>?_;refine bG ?_;refine aq (L':=.own 5 1 A79 (rI b xs).length c79 (bv (rI b xs))::F) (.cons (.skip (.skip (.skip (.skip (.skip (.skip (.skip (.skip (.refl _)))))))))) ?_;refine aF ?_;exact⟨A79,c79,rfl,rfl⟩
  ·exfalso;omega
 ·exfalso;omega
theorem XT{bound:Int}{ids:List Int}(hb:aJ B w0 F 1 (.slice A ids.length c) ids.length (ints .i64 ids))(hl:ids.length≤9000000000000000000):
  a_ B w0 88 [ah bound,.slice A ids.length c] F (fun r L=>∃A' c',r= .tuple #[.slice A' (PT bound ids).1.length c',ah (PT bound ids).2]∧L= .own 5 1 A' (PT bound ids).1.length c' (bv (PT bound ids).1)::F):=by
 by_cases hE:bound<0∨20000<bound∨¬Hg bound ids
 ·rw[JZ hE];exact M0 hb hl hE
 ·have hR:Hg bound ids:=bH fun h=>hE (.inr (.inr h));obtain⟨xs,rfl⟩:=hR.adz;obtain⟨b,rfl⟩:=gM (show 0≤bound by omega);rw[J0 hE];rw[NK,eK]at hb;rw[eK];exact QW hb aa ((sh b xs).1 hR)
theorem kP{P:Prop}(h:P:=by(first|rfl|trivial)):P:=h
theorem ago{P:Prop}(h:P:=by(exact eF (by first|omega|(exact⟨fun h=>by omega,fun h=>by omega⟩)))):P:=h
theorem vv{P:Prop}(h:P:=by(rintro _ _ ⟨rfl,rfl⟩;exact⟨rfl,aj9 _⟩)):P:=h
theorem aol{P:Prop}(h:P:=by(first|omega|(exact⟨fun h=>by omega,fun h=>by omega⟩)|(simp at h8;done))):P:=h
abbrev Rr(g:Nat)(A:bj)(c:Nat)(q:List Bool)(p:Nat)(F:aP):aP:=.bD g 451 [.slice A (packed q).length c,ah q.length,ah p]:: .own 5 1 A (packed q).length c (bv (packed q))::F
theorem aep(a b:Value){x y:Int}(h:x=y):[a,b,Value.int .i64 x]=[a,b,Value.int .i64 y]:=by rw[h]
theorem EM{l:al}(hb:eM B w0 F A c l)(hl:l.length≤1000000):
  a_ B w0 322 [.slice A l.length c] F (fun r L=>∃g A' c',r=br g∧L=Rr g A' c' (gi l) 0 F):=by
 have y':=dO l;refine fw func322 11 [0] ?_;refine bJ ?_;refine ay rfl (l_ l hb aa) fun A4 c4=>?_;refine bF ?_;refine ab (eG [(0,_),(1,_)] [_,_] rfl rfl ag) rfl ?_;refine ab (wD [(0,_)] [.slice A4 l.length c4,ah (8*(l.length:Int)),ah 0] rfl ag) rfl ?_;refine bh fun g10=>?_;refine b8 ?_;refine aq (L':=Rr g10 A4 c4 (gi l) 0 F) (bq (by rw[pJ,y'];simp) (ax (by rw[pJ]) (by rw[pJ]) (.refl _))) ?_;refine aF ?_;exact⟨g10,A4,c4,rfl,rfl⟩
theorem ug(q:List Bool)(p:Nat)(hp:p≤q.length)(hq:q.length≤8000000):a_ B w0 325 [br g] (Rr g A c q p F) (fun r L=>r=ah ((q.length:Int)-p)∧L=Rr g A c q p F):=by
 refine fw func325 15 [0] ?_;refine apQ ?_;exact⟨rfl,rfl⟩
theorem ank(q:List Bool)(p:Nat)(hp:p≤q.length)(hq:q.length≤8000000)(n:Int)(h1:-9223372036854775808≤n)(h2:n≤9223372036854775807):
  a_ B w0 352 [br g,ah n] (Rr g A c q p F) (fun r L=>r=ah (skE q p n)∧L=Rr g A c q (skP q p n) F):=by
 refine fw func352 25 [0,1] ?_;refine dQ ?_;refine aj (fun h5=>?_) fun h5=>?_
 ·refine bQ ?_;simp only[skE,skP,ao h5];exact⟨kP,kP⟩
 ·refine be ?_;refine bW 8 16 [0,1] ((q.length:Int)<p+n) ?_ ?_
  ·refine bJ ?_;refine ai rfl (ug q p hp hq) ?_;refine bF ?_;exact aQ (by exact dN (by first|omega|(exact⟨fun h=>by omega,fun h=>aa⟩)|(simp at pg;done)))
  ·refine bF ?_;refine aj (fun h8=>?_) fun h8=>?_
   ·refine bQ ?_;simp only[skE,skP,aw h5,ao h8];exact⟨kP,kP⟩
   ·refine GC ?_;refine aq (L':=Rr g A c q (skP q p n) F) (bq (by simp only[skP,aw h5,aw h8];refine aep _ _ (?_ :_=_);omega) (.refl _)) ?_;refine aF ?_;simp only[skE,aw h5,aw h8];exact⟨kP,kP⟩
theorem Ii(q:List Bool)(p:Nat)(hp:p≤q.length)(hq:q.length≤8000000)(n:Int)(h1:-9223372036854775808≤n)(h2:n≤9223372036854775807):
  a_ B w0 326 [br g,ah n] (Rr g A c q p F) (fun r L=>r= .tuple #[.int .u64 (oG q p n),ah (rY q p n)]∧L=Rr g A c q (iE q p n) F):=by
 refine fw func326 41 [0,1] ?_;refine bA ?_;refine bW 6 13 [0,1] (n<0∨64<n) ?_ ?_
 ·refine bF ?_;refine aL rfl rfl rfl (fun jF=>?_) (fun jF=>?_)
  ·refine b8 ?_;exact aQ aaY
  ·refine be ?_;exact aQ ago
 ·refine bF ?_;refine aj (fun h7=>?_) fun h7=>?_
  ·refine bA ?_;simp only[oG,rY,iE,ao h7];exact⟨kP,kP⟩
  ·refine be ?_;refine bW 8 22 [0,1] ((q.length:Int)<p+n) ?_ ?_
   ·refine bJ ?_;refine ai rfl (ug q p hp hq) ?_;refine bF ?_;exact aQ (by exact dN (by first|omega|(exact⟨fun h=>by omega,fun h=>aa⟩)|(simp at iF;done)))
   ·refine bF ?_;refine aj (fun kg=>?_) fun kg=>?_
    ·refine bA ?_;simp only[oG,rY,iE,aw h7,ao kg];exact⟨kP,kP⟩
    ·obtain⟨m,rfl⟩:=gM (show 0≤n by omega);refine de ?_;refine iU abr rfl (ER q p m hp aa aa _ (packed q) rfl rfl aV aB) vv rfl ?_;refine dQ ?_;refine ve [6] ?_;refine bQ ?_;refine aq (L':=Rr g A c q (iE q p m) F) (bq (by simp only[iE,aw h7,aw kg];refine aep _ _ (?_ :_=_);omega) (.refl _)) ?_;refine aF ?_;simp only[oG,rY,aw h7,aw kg];exact⟨kP,kP⟩
theorem amZ(q:List Bool)(p:Nat)(hp:p≤q.length)(hq:q.length≤8000000)(n:Int)(h1:-9223372036854775808≤n)(h2:n≤9223372036854775807):
  a_ B w0 350 [br g,ah n] (Rr g A c q p F) (fun r L=>r= .tuple #[.int .u64 (pkV q p n),ah (pkN q p n)]∧L=Rr g A c q p F):=by
 refine fw func350 29 [0,1] ?_;refine bQ ?_;refine bW 10 15 [0,1] (n<0∨64<n) ?_ ?_
 ·refine bQ ?_;refine aL rfl rfl rfl (fun mA=>?_) (fun mA=>?_)
  ·refine b8 ?_;exact aQ (by exact dN aol)
  ·refine be ?_;exact aQ (by exact eF aol)
 ·refine be ?_;refine aj (fun jG=>?_) fun jG=>?_
  ·refine bQ ?_;simp only[pkV,pkN,ao jG];exact⟨kP,kP⟩
  ·obtain⟨m,rfl⟩:=gM (show 0≤n by omega);refine cJ ?_;refine iU abr rfl (ER q p m hp aa aa _ (packed q) rfl rfl aV aB) vv rfl ?_;refine be ?_;refine iU apm rfl (ug q p hp hq) vv rfl ?_;refine b7 (xJ rfl rfl) rfl ?_;refine bz ?_;simp only[pkV,pkN,aw jG];exact⟨kP,kP⟩
theorem afE(q:List Bool)(p:Nat)(hp:p≤q.length)(hq:q.length≤8000000):
  a_ B w0 324 [br g] (Rr g A c q p F) (fun r L=>r= .tuple #[ah (unV q p),ah (unR q p)]∧L=Rr g A c q (unP q p) F):=by
 refine fw func324 39 [0] ?_;refine acg ?_;refine aE (fun zf zL zm=>∃(k:Nat),(k≤q.length∧Z q p=Z q k)∧q.length-k=zm∧Sub zf [(0,br g),(4,ah k)]∧Wk zL (Rr g A c q p F)) _ ⟨p,⟨hp,rfl⟩,rfl,bp,.refl _⟩ ?_;rintro _ _ _ ⟨k,⟨hk,hz⟩,rfl,hs,hp⟩;refine aU hs hp ?_;clear hs hp;refine cJ ?_;refine aj (fun jk=>?_) fun jk=>?_
 ·refine bA ?_;refine ai rfl (ajz q k aa aa _ (packed q) rfl rfl aV aB) ?_;refine bF ?_;refine aj (fun qU=>?_) fun qU=>?_
  ·have p9:gZ q k=1:=by omega
   have hzk:=af5 p9 aa;have hzg:=akL q p;have hzl:Z q p<q.length:=by omega
   refine bQ ?_;refine ve [0,4,5] ?_;refine acf ?_;refine aq (L':=Rr g A c q (unP q p) F) (bq (by simp only[unP,ao hzl];refine aep _ _ (?_ :_=_);omega) (.refl _)) ?_;refine aF ?_;simp only[unV,unR,ao hzl];exact⟨ek (fun x=>Value.tuple #[ah x,ah 0]) aa,trivial⟩
  ·refine bJ ?_;refine av ⟨_,aa,k+1,⟨aa,by rw[hz];exact Lm aa aa⟩,rfl,bp,.refl _⟩
 ·refine de ?_;have hzl:¬Z q p<q.length:=by have:=W6 (q:=q) (k:=k) aa;omega
  simp only[unV,unR,unP,aw hzl];exact⟨kP,kP⟩
theorem aqO(q:List Bool)(p:Nat)(hp:p≤q.length)(hq:q.length≤8000000):
  a_ B w0 343 [br g] (Rr g A c q p F) (fun r L=>r=ah (paE q p)∧L=Rr g A c q p F):=by
 have hpi:=aij q hp;refine fw func343 22 [0] ?_;refine zH ?_;refine ai rfl (ug q p hp hq) ?_;refine bG ?_;refine xW 14 21 [] (¬((q.length:Int)-p<8∧Z q p=q.length)) ?_ ?_
 ·refine bF ?_;refine Bd rfl rfl rfl (fun jF=>?_) (fun jF=>?_)
  ·refine cJ ?_;have hle:q.length-p≤7:=by omega
   refine b8 ?_;refine iU abr rfl ((by rw[show(q.length:Int)-p=((q.length-p:Nat):Int) by omega];exact ER q p (q.length-p) hp aa aa _ (packed q) rfl rfl aV aB)) vv rfl ?_;refine bF ?_;exact nS aaY
  ·refine bA ?_;exact nS ago
 ·refine be ?_;refine aj (fun lW=>?_) fun lW=>?_
  ·refine bJ ?_;simp only[paE,aw lW];exact⟨kP,kP⟩
  ·refine bQ ?_;simp only[paE,ao (Decidable.not_not.1 lW)];exact⟨kP,kP⟩
theorem T3{P:Prop}(h:P:=by(rw[hz];decide)):P:=h
theorem ob{P:Prop}(h:P:=by(rw[hz])):P:=h
def zb(q:List Bool)(w n:Nat):bf:=(List.range n).map fun i=>part q (i*w) w
theorem sb(q:List Bool)(w n:Nat):(zb q w n).length=n:=by simp[zb]
theorem Of(q:List Bool)(w n:Nat):zb q w (n+1)=zb q w n++[part q (n*w) w]:=by simp[zb,lj]
def KS(bound p:Nat)(q:List Bool):bf→Nat→Nat→Int→bf→bf×Nat×Int
 |[],pos,_,_,out=>(out,pos,0)
 |x::ls,pos,high,was,out=>
  if¬Z q pos<q.length then ([],0,1)
  else if (((high+(Z q pos-pos))*p+x:Nat):Int)≤was then ([],0,2)
  else if bound≤(high+(Z q pos-pos))*p+x then ([],0,8)
  else KS bound p q ls (Z q pos+1) (high+(Z q pos-pos)) ((high+(Z q pos-pos))*p+x:Nat) (out++[(high+(Z q pos-pos))*p+x])
def B8(bound n:Nat)(b:al):bf×Nat×Int:=KS bound (2^wid bound n) (gi b) (zb (gi b) (wid bound n) n) (n*wid bound n) 0 (-1) []
def kW(bound n:Nat)(b:al):Nat:=((gi b).length-(B8 bound n b).2.1)%8
def jB(bound n:Nat)(b:al):bf×Nat×Int:=
 if (gi b).length<n*wid bound n then ([],0,1)
 else if (B8 bound n b).2.2≠0 then ([],0,(B8 bound n b).2.2)
 else if part (gi b) (B8 bound n b).2.1 (kW bound n b)≠0 then ([],0,2)
 else ((B8 bound n b).1,b.length-((gi b).length-((B8 bound n b).2.1+kW bound n b))/8,0)
theorem ado(q:List Bool){m w:Nat}(hm:m≤20000)(hw:w≤14)(hq:q.length≤8000000)(hE:q.length<m*w):
  a_ B w0 323 [br g,ah m,ah w] (Rr g A c q 0 F) (fun r L=>r= .tuple #[.slice none 0 0,ah 1]∧L=Rr g A c q 0 F):=by
 have hmw:m*w≤20000*14:=gN hm hw;have hmul:IntKind.i64.wrap ((m:Int)*(w:Int))=((m*w:Nat):Int):=by
  rw[←z6];generalize m*w=z at*;exact bE aa aa
 refine fw func323 38 [0,1,2] ?_;refine cY ?_;refine ab (eZ rfl rfl hmul) rfl ?_;refine aF ?_;refine ai rfl (ug q 0 (bT _) hq) ?_;refine bF ?_;refine zG fun iF=>?_;refine bQ ?_;exact⟨rfl,rfl⟩
theorem ahS(q:List Bool){m w:Nat}(hm:m≤20000)(hw:w≤14)(hq:q.length≤8000000)(hE:m*w≤q.length):
  a_ B w0 323 [br g,ah m,ah w] (Rr g A c q 0 F) (fun r L=>∃A' c',r= .tuple #[.slice A' m c',ah 0]∧L=Rr g A c q (m*w) (.own 57 1 A' m c' (nY (zb q w m))::F)):=by
 have hmw:m*w≤20000*14:=gN hm hw;have hmul:IntKind.i64.wrap ((m:Int)*(w:Int))=((m*w:Nat):Int):=by
  rw[←z6];generalize m*w=z at*;exact bE aa aa
 refine fw func323 38 [0,1,2] ?_;refine cY ?_;refine ab (eZ rfl rfl hmul) rfl ?_;refine aF ?_;refine ai rfl (ug q 0 (bT _) hq) ?_;refine bF ?_;refine dm fun iF=>?_;refine bG ?_;refine cC (fb uD rfl rfl rfl rfl rfl aa aa aa) fun Ln=>?_;refine cJ ?_;refine aE (fun zf zL zm=>∃(k:Nat),(k≤m)∧m-k=zm∧Sub zf [(0,br g),(2,ah w),(8,.slice Ln m m),(21,ah m),(22,ah k)]∧Wk zL (Rr g A c q (k*w) (.own 57 1 Ln m m (nY (zb q w k)++List.replicate (m-k) (.int .u16 0))::F))) _ ⟨0,bT _,rfl,bp,by rw[r'];exact(gl (gl (ed (.refl _))))⟩ ?_;rintro _ _ _ ⟨k,hk,rfl,hs,hp⟩;refine aU hs hp ?_;clear hs hp;refine bz ?_;refine aj (fun nM=>?_) fun nM=>?_
 ·have hkw:(k+1)*w≤m*w:=ow w aa;have Rq:(k+1)*w=k*w+w:=j0 k w;have mJ:=qj q (k*w) w;have hpw:=uz hw;have hlr:=sb q w k;have hgv:oG q (k*w) w=part q (k*w) w:=by unfold oG;rw[aw aa,aw aa,nB]
  have Rp:iE q (k*w) w=(k+1)*w:=by unfold iE;rw[aw aa,aw aa,nB,Rq]
  refine dQ ?_;refine ai rfl (Ii q (k*w) aa hq w aa aa) ?_;rw[hgv,Rp];refine alD ?_;refine ve [0,2,8,21,22] ?_;refine av ⟨_,aa,k+1,aa,rfl,bp,.cons (.cons (ax rfl (by rw[cE,Wb _ (show k<m by omega),KV _ _ _ _ (by simp[sb]),Of];simp[nY]) (.refl _)))⟩
 ·refine de ?_;obtain rfl:k=m:=by omega
  refine aq (L':=Rr g A c q (k*w) (.own 57 1 Ln k k (nY (zb q w k))::F)) (.cons (.cons (ax rfl (by rw[nx,NU,gk]) (.refl _)))) ?_;refine aF ?_;exact⟨Ln,k,rfl,rfl⟩
theorem DJ{bound m:Nat}{b:al}(h:(gi b).length<m*wid bound m):jB bound m b=([],0,1):=ao h
theorem UD{bound m:Nat}{b:al}(h:¬(gi b).length<m*wid bound m)(he:(B8 bound m b).2.2≠0):jB bound m b=([],0,(B8 bound m b).2.2):=by unfold jB;rw[aw h,ao he]
theorem UE{bound m:Nat}{b:al}(h:¬(gi b).length<m*wid bound m)(he:¬(B8 bound m b).2.2≠0)(hp:part (gi b) (B8 bound m b).2.1 (kW bound m b)≠0):jB bound m b=([],0,2):=by unfold jB;rw[aw h,aw he,ao hp]
theorem MT{bound m:Nat}{b:al}(h:¬(gi b).length<m*wid bound m)(he:¬(B8 bound m b).2.2≠0)(hp:¬part (gi b) (B8 bound m b).2.1 (kW bound m b)≠0):jB bound m b=((B8 bound m b).1,b.length-((gi b).length-((B8 bound m b).2.1+kW bound m b))/8,0):=by unfold jB;rw[aw h,aw he,aw hp]
theorem orQ{h x w p:Nat}(hp:p=2^w)(hx:x<p)(hb:h*p≤4611686018427387904)(LA:p≤16384):IntKind.i64.wrap ((BitVec.ofInt IntKind.i64.bits ((h*p:Nat):Int) ||| BitVec.ofInt IntKind.i64.bits (x:Int)).toNat:Int)=((h*p+x:Nat):Int):=by
 have hh:=acW (h*p) x aa aa;have e:h*p ||| x=h*p+x:=by
  rw[hp]at hx⊢;rw[nE,←NP hx]
 rw[e]at hh;exact hh
theorem ahQ{q:List Bool}{w m k:Nat}(h:k<m):(zb q w m).getD k 0=part q (k*w) w:=by simp[zb,List.getD,h]
def af_(bound m:Nat)(b:al)(F:aP)(r:Value)(L:aP):Prop:=
 ((jB bound m b).2.2≠0∧r= .tuple #[.pointer none,ah 0,ah (jB bound m b).2.2]∧L=F)∨
 ((jB bound m b).2.2=0∧∃g A1 c1 A2 c2,r= .tuple #[br g,ah (jB bound m b).2.1,ah 0]∧L=Pt g 405 (wid bound m) (2^wid bound m) A1 c1 A2 c2 (jB bound m b).1 F)
theorem aiC{bound m:Nat}{b:al}(hb:eM B w0 F A c b)(c_:b.length≤1000000)(oH:bound≤20000)(hm:1≤m)(hmb:m≤bound)(hE:(gi b).length<m*wid bound m):
  a_ B w0 299 [ah bound,ah m,.slice A b.length c] F (af_ bound m b F):=by
 have y':=dO b;have CD:=w_ (n:=m) oH;refine fw func299 107 [0,1,2] ?_;refine bA ?_;refine dX rfl (EM hb aa) fun g24 Bi Df=>?_;refine bL ?_;refine ai rfl (Lf bound m oH hm hmb) ?_;refine ab (bw [(0,_)] [ah 0,.slice none 0 0,.slice none 0 0] [0] [_,_,_] rfl rfl ag) rfl ?_;refine ab (eG [(0,_)] [_,_,_] rfl rfl ag) rfl ?_;refine bh fun g30=>?_;refine cJ ?_;refine ai rfl ((ado (gi b) (m:=m) (w:=wid bound m) aa CD aa hE).perm ((l6 (l6 (fR (.refl _)))))) ?_;refine bG ?_;refine ve [0,2,9,10,11,12] ?_;refine bJ ?_;refine aj (fun Yb=>?_) fun Yb=>?_
 ·refine bA ?_;refine aq (L':=F) (.skip (.skip (.skip (.refl _)))) ?_;refine aF ?_;exact .inl ⟨by rw[DJ hE];decide,by rw[DJ hE],rfl⟩
 ·exfalso;exact Yb aA
theorem am'{bound m:Nat}{b:al}(hb:eM B w0 F A c b)(c_:b.length≤1000000)(oH:bound≤20000)(hm:1≤m)(hmb:m≤bound)(hE:¬(gi b).length<m*wid bound m):
  a_ B w0 299 [ah bound,ah m,.slice A b.length c] F (af_ bound m b F):=by
 have y':=dO b;have CD:=w_ (n:=m) oH;have hF0:B8 bound m b=KS bound (2^wid bound m) (gi b) (zb (gi b) (wid bound m) m) (m*wid bound m) 0 (-1) []:=rfl;have No:kW bound m b=((gi b).length-(B8 bound m b).2.1)%8:=rfl;unfold af_;have P7:jB bound m b=jB bound m b:=rfl;obtain⟨q,hq⟩:=cN (gi b);have hEe:= @UD bound m b hE;have hEp:= @UE bound m b hE;have hEo:= @MT bound m b hE;rw[←hq]at hE y' hF0 No hEp hEo;obtain⟨w,hw⟩:=cN (wid bound m);rw[←hw]at hE CD hF0⊢;obtain⟨p,hp⟩:=cN (2^w);rw[←hp]at hF0⊢;have Vb:1≤p:=by rw[hp];exact Nat.one_le_two_pow
 have LA:p≤16384:=by rw[hp];exact uz CD
 have atQ:=sb q w m;refine fw func299 107 [0,1,2] ?_;refine bA ?_;refine dX rfl (EM hb aa) fun g24 Bi Df=>?_;rw[←hq];refine bL ?_;refine ai rfl (Lf bound m oH hm hmb) ?_;rw[←hw];refine ab (bw [(0,_)] [ah 0,.slice none 0 0,.slice none 0 0] [0] [_,_,_] rfl rfl ag) rfl ?_;refine ab (eG [(0,_)] [_,_,_] rfl rfl ag) rfl ?_;refine bh fun g30=>?_;refine cJ ?_;refine ay rfl ((ahS q (m:=m) (w:=w) aa CD aa aa).perm ((l6 (l6 (fR (.refl _)))))) fun A39 c39=>?_;refine bG ?_;refine ve [0,2,9,10,11,12] ?_;refine bJ ?_;refine aj (fun Yb=>?_) fun Yb=>?_
 ·exfalso;exact Yb aA
 ·refine bF ?_;refine aZ 57 1 none ?_;refine aZ 3 1 none ?_;refine dQ ?_;refine aE (fun zf zL zm=>∃(k pos high:Nat) (was:Int) (out:bf) (P1:bj) (p1:Nat) (P2:bj) (p2:Nat),(k≤m∧pos≤q.length∧high≤20000∧out.length=k∧KS bound p q ((zb q w m).drop k) pos high was out=B8 bound m b)∧m-k=zm∧Sub zf [(0,ah bound),(2,.slice A b.length c),(9,br g24),(10,br g30),(13,ah high),(14,ah was),(45,.slice A39 m c39),(46,ah m),(47,ah k)]∧Wk zL (Rr g24 Bi Df q pos (Pt g30 405 w p P1 p1 P2 p2 out (.own 57 1 A39 m c39 (nY (zb q w m))::F)))) _ ⟨0,m*w,0,-1,[],none,0,none,0,⟨bT _,aa,bT _,rfl,hF0.symm⟩,rfl,bp,(rM (rM (tx (ed (ed (ed (.refl _)))))))⟩ ?_;rintro _ _ _ ⟨k,pos,high,was,out,P1,p1,P2,p2,⟨hk,tV,hhi,Kj,hG⟩,rfl,hs,hp⟩;refine aU hs hp ?_;clear hs hp;refine bz ?_;refine aj (fun Q_=>?_) fun Q_=>?_
  ·have hx:=ahQ (q:=q) (w:=w) (m:=m) (k:=k) aa;have P_:=qj q (k*w) w;have hd:=dx (l:=zb q w m) (k:=k) aa 0;obtain⟨x,hxx⟩:=cN ((zb q w m).getD k 0);have Gc:(nY (zb q w m))[k*1]? =some (.int .u16 (x:Int)):=by rw[hxx];exact afC aa
   rw[←hx,←hxx,←hp]at P_;rw[hd,←hxx,KS]at hG;have hzg:=akL q pos;have hzl:=aro q tV;refine bL ?_;refine ab (au ag rfl aB aa Gc) rfl ?_;refine bz ?_;refine ai rfl (afE q pos tV aa) ?_;refine dQ ?_;refine aj (fun h57=>?_) fun h57=>?_
   ·have hnz:¬Z q pos<q.length:=fun h=>h57 (by unfold unR;rw[ao h]);have uZ:unR q pos=1:=by unfold unR;rw[aw hnz]
    rw[ao hnz]at hG;have hz:=hEe (by rw[←hG];decide);rw[←hG]at hz;refine bz ?_;refine ve [6,7,8] ?_;refine bJ ?_;refine aq (L':=F) (.skip (.skip (.skip (.skip (.skip (.skip (.refl _))))))) ?_;refine aF ?_;exact .inl ⟨T3,by rw[hz,uZ],rfl⟩
   ·have hnz:Z q pos<q.length:=bH fun h=>h57 (by unfold unR;rw[aw h];decide);have hv:unV q pos=((Z q pos-pos:Nat):Int):=by unfold unV;rw[ao hnz];omega
    have hu:unP q pos=Z q pos+1:=by unfold unP;rw[ao hnz]
    rw[hv,hu];rw[aw (by simpa using hnz)]at hG;obtain⟨h2,hh2⟩:=cN (high+(Z q pos-pos));rw[←hh2]at hG;have hmul:h2*p≤10000000*16384:=gN aa LA;obtain⟨id,hid⟩:=cN (h2*p+x);rw[←hid]at hG;refine bz ?_;refine ab (bY rfl rfl (r:=(h2:Int)) ((bE aa aa).trans aa)) rfl ?_;refine cY ?_;refine ab (ga rfl rfl aa (aiK hp CD aa)) rfl ?_;refine be ?_;refine ab (tK rfl rfl (r:=(id:Int)) ((orQ hp P_ aa LA).trans (by rw[hid]))) rfl ?_;refine aF ?_;refine ve [0,2,9,10,13,14,19,45,46,47] ?_;refine cY ?_;refine aj (fun Ye=>?_) fun Ye=>?_
    ·rw[ao aa]at hG;have hz:=hEe (by rw[←hG];decide);rw[←hG]at hz;refine jy ?_;refine aq (L':=F) (.skip (.skip (.skip (.skip (.skip (.skip (.refl _))))))) ?_;refine aF ?_;exact .inl ⟨T3,ob,rfl⟩
    ·rw[aw aa]at hG;refine bJ ?_;refine aj (fun h76=>?_) fun h76=>?_
     ·rw[ao aa]at hG;have hz:=hEe (by rw[←hG];decide);rw[←hG]at hz;refine bG ?_;refine ve [6,7,8] ?_;refine bQ ?_;refine aq (L':=F) (.skip (.skip (.skip (.skip (.skip (.skip (.refl _))))))) ?_;refine aF ?_;exact .inl ⟨T3,ob,rfl⟩
     ·rw[aw aa]at hG;have atJ:h2≤h2*p:=ahK h2 Vb;refine dQ ?_;refine aX ajE rfl ((adX 405 hp CD out id aa aa).perm ((BN (BN (BN (fR (fR (.refl _)))))))) rfl ?_;rintro _ _ ⟨rfl,P85,p85,Q85,q85,cA⟩;obtain rfl:=cA.symm;refine bz ?_;refine ve [0,2,9,10,13,14,45,46,47] ?_;refine av ⟨_,aa,k+1,Z q pos+1,h2,(id:Int),out++[id],P85,p85,Q85,q85,⟨aa,aa,aa,bR,hG⟩,rfl,bp,(tx (tx (ed (ed (ed (.refl _))))))⟩
  ·obtain rfl:k=m:=by omega
   rw[mn aa,KS]at hG;rw[←hG]at hEp hEo No;simp only at No;obtain⟨rest,ND⟩:=cN (kW bound k b);rw[←ND]at No hEp hEo;have hrm:((q.length:Int)-pos).tmod 8=(rest:Int):=by
    rw[show(q.length:Int)-pos=((q.length-pos:Nat):Int) by omega,No];exact(Int.ofNat_tmod _ 8).symm
   have hrl:rest<8:=by omega
   refine bG ?_;refine d_ (fun zf zL=>(part q pos rest=0)∧Sub zf [(2,.slice A b.length c),(9,br g24),(10,br g30)]∧Wk zL (Rr g24 Bi Df q (pos+rest) (Pt g30 405 w p P1 p1 P2 p2 out (.own 57 1 A39 k c39 (nY (zb q w k))::F)))) ?_ ?_
   ·refine bF ?_;refine ai rfl (ug q pos tV aa) ?_;refine ab (nh rfl rfl aa hrm) rfl ?_;refine bQ ?_;refine aj (fun h91=>?_) fun h91=>?_
    ·have hgv:oG q pos rest=part q pos rest:=by unfold oG;rw[aw aa,aw aa,nB]
     have Rp:iE q pos rest=pos+rest:=by unfold iE;rw[aw aa,aw aa,nB]
     refine b8 ?_;refine ai rfl (Ii q pos tV aa rest aa aa) ?_;rw[hgv,Rp];refine bG ?_;refine ve [2,9,10,21] ?_;refine bL ?_;refine aj (fun h99=>?_) fun h99=>?_
     ·have hz:=hEp ak (show part q pos rest≠0 by omega);refine bQ ?_;refine aq (L':=F) (.skip (.skip (.skip (.skip (.skip (.skip (.refl _))))))) ?_;refine aF ?_;exact .inl ⟨T3,ob,rfl⟩
     ·refine aF ?_;exact bC ⟨aa,bp,.refl _⟩
    ·refine aF ?_;have hr0:rest=0:=by omega
     exact bC ⟨by rw[hr0];rfl,bp,by rw[hr0,ta];exact .refl _⟩
   ·rintro _ _ ⟨hpz,hs,hp⟩;refine aU hs hp ?_;clear hs hp;refine bz ?_;refine ai rfl (ug q (pos+rest) aa aa) ?_;refine ab (mc rfl rfl aa (r:=(((q.length-(pos+rest))/8:Nat):Int)) (by rw[show(q.length:Int)-((pos+rest:Nat):Int)=((q.length-(pos+rest):Nat):Int) by omega];exact ais aa)) rfl ?_;refine ab (dw rfl rfl (r:=((b.length-(q.length-(pos+rest))/8:Nat):Int)) ((bE aa aa).trans aa)) rfl ?_;refine bz ?_;have hz:=hEo ak (by simpa using hpz);refine aq (L':=Pt g30 405 w p P1 p1 P2 p2 out F) ((rM (rM (rM (.skip (.skip (.skip (.refl _)))))))) ?_;refine aF ?_;exact .inr ⟨ob,g30,P1,p1,P2,p2,ob,ob⟩
theorem dL.jg{P:Program}{B:Nat}{w0:World}{f:FuncId}{args:cV}{L M:aP}{v:Value}(h:dL P B w0 f args M (fun r K=>r=v∧K=M))(hp:L.Perm M):dL P B w0 f args L (fun r K=>r=v∧K=L):=fun w hw=>
 (h w (hw.perm hp)).mono fun e w' ⟨r,K,he,⟨hr,hK⟩,hs⟩=>by subst hK;exact⟨r,L,he,⟨hr,rfl⟩,hs.perm hp.symm⟩
theorem Kh(a:Nat):((a:Int)).fdiv (2^min (1:Int).toNat IntKind.u64.bits)=((a/2:Nat):Int):=by
 have e:min (1:Int).toNat IntKind.u64.bits=1:=by decide
 rw[e,vT _ aA];rfl
abbrev Rl(g w p:Nat)(A1:bj)(c1:Nat)(A2:bj)(c2:Nat)(xs:bf)(F:aP):aP:=Pt g 405 w p A1 c1 A2 c2 xs F
theorem adj{w p:Nat}{xs:bf}:a_ B w0 269 [br g] (Rl g w p A1 c1 A2 c2 xs F) (fun r L=>r=ah xs.length∧L=Rl g w p A1 c1 A2 c2 xs F):=by
 refine fw func269 11 [0] ?_;refine apP ?_;exact⟨rfl,rfl⟩
theorem kU.mono{bound:Nat}{xs:bf}(h:kU bound xs):∀j i,i≤j→j<xs.length→xs.getD i 0≤xs.getD j 0
 |0,i,Io,_=>by rw[Nat.le_zero.1 Io];exact gj _
 |j+1,i,Io,hj=>by
  by_cases e:i=j+1
  ·rw[e];exact gj _
  ·have h1:=kU.mono h j i aa aa;have h2:=(h (j+1) hj).2 aa;rw[vV]at h2;omega
theorem amj{w p:Nat}(hp:p=2^w)(hw:w≤14){xs:bf}(hx:∀i,i<xs.length→xs.getD i 0≤1000000)(hl:xs.length≤1000000):
  a_ B w0 270 [br g] (Rl g w p A1 c1 A2 c2 xs F) (fun r L=>∃A' c',r= .slice A' xs.length c'∧L=Rl g w p A1 c1 A2 c2 xs (.own 3 1 A' xs.length c' (bx xs)::F)):=by
 refine fw func270 20 [0] ?_;refine bz ?_;refine aZ 3 1 none ?_;refine bJ ?_;refine ai rfl ((adj (w:=w) (p:=p) (xs:=xs)).jg ((l6 (l6 (l6 (fR (.refl _))))))) ?_;refine b8 ?_;refine aE (fun zf zL zm=>∃(k:Nat) (A5:bj) (c5:Nat),(k≤xs.length)∧xs.length-k=zm∧Sub zf [(0,br g),(3,.slice A5 k c5),(6,ah xs.length),(7,ah k)]∧Wk zL (Rl g w p A1 c1 A2 c2 xs (.own 3 1 A5 k c5 (bx (xs.take k))::F))) _ ⟨0,none,0,bT _,rfl,bp,(gl (gl (gl (ed (.refl _)))))⟩ ?_;rintro _ _ _ ⟨k,A5,c5,hk,rfl,hs,hp⟩;refine aU hs hp ?_;clear hs hp;refine bz ?_;refine aj (fun h8=>?_) fun h8=>?_
 ·refine jS ?_;refine ai rfl (amA 405 hp hw xs k aa (hx k aa)) ?_;refine dE fJ rfl rfl rfl rfl rfl (fun _=>rfl) aV aa aa ?_;intro _ TI c17;refine bJ ?_;refine av ⟨_,aa,k+1,TI,c17,aa,rfl,bp,.cons (.cons (.cons (ax rfl (by rw[ba (show k<xs.length by omega) 0];simp[bx]) (.refl _))))⟩
 ·refine cJ ?_;obtain rfl:k=xs.length:=by omega
  rw[jU];refine aF ?_;exact⟨A5,c5,rfl,rfl⟩
theorem Ms:a_ B w0 177 [br g] (Cv g A c s::F) (fun r L=>r=ah s.at_∧L=Cv g A c s::F):=by
 refine fw func177 10 [0] ?_;refine acg ?_;exact⟨rfl,rfl⟩
def sW(bound:Int)(b:al):Cs:=Cs.bX ⟨b,0,0⟩ bound
def Cj(bound:Int)(b:al):Nat:=Cs.int ⟨b,0,0⟩ bound
def Gf(bound:Int)(b:al):bf×Nat×Int:=jB bound.toNat (Cj bound b) (b.drop (sW bound b).at_)
def iI(bound:Int)(b:al):bf×Nat×Int:=
 if bound<0∨20000<bound then ([],0,13)
 else if (sW bound b).e≠0 then ([],0,(sW bound b).e)
 else if Cj bound b=0 then ([],(sW bound b).at_,0)
 else if (Gf bound b).2.2≠0 then ([],0,(Gf bound b).2.2)
 else ((Gf bound b).1,(sW bound b).at_+(Gf bound b).2.1,0)
theorem DH{bound:Int}{b:al}(h:bound<0∨20000<bound):iI bound b=([],0,13):=ao h
theorem DI{bound:Int}{b:al}(h:¬(bound<0∨20000<bound))(h1:(sW bound b).e≠0):iI bound b=([],0,(sW bound b).e):=by unfold iI;rw[aw h,ao h1]
theorem JY{bound:Int}{b:al}(h:¬(bound<0∨20000<bound))(h1:¬(sW bound b).e≠0)(h2:Cj bound b=0):iI bound b=([],(sW bound b).at_,0):=by unfold iI;rw[aw h,aw h1,ao h2]
theorem abD{bound:Int}{b:al}(h:¬(bound<0∨20000<bound))(h1:¬(sW bound b).e≠0)(h2:¬Cj bound b=0)(h3:(Gf bound b).2.2≠0):iI bound b=([],0,(Gf bound b).2.2):=by unfold iI;rw[aw h,aw h1,aw h2,ao h3]
theorem QU{bound:Int}{b:al}(h:¬(bound<0∨20000<bound))(h1:¬(sW bound b).e≠0)(h2:¬Cj bound b=0)(h3:¬(Gf bound b).2.2≠0):iI bound b=((Gf bound b).1,(sW bound b).at_+(Gf bound b).2.1,0):=by unfold iI;rw[aw h,aw h1,aw h2,aw h3]
def anW(bound:Int)(b:al)(F:aP)(r:Value)(L:aP):Prop:=
 ((iI bound b).2.2≠0∧r= .tuple #[.pointer none,ah 0,ah (iI bound b).2.2]∧L=F)∨
 ((iI bound b).2.2=0∧∃w p g A1 c1 A2 c2,p=2^w∧w≤14∧r= .tuple #[br g,ah (iI bound b).2.1,ah 0]∧L=Rl g w p A1 c1 A2 c2 (iI bound b).1 F)
theorem H5(bound m:Nat)(b:al):(jB bound m b).2.1≤b.length:=by
 unfold jB;split
 ·exact bT _
 ·split
  ·exact bT _
  ·split
   ·exact bT _
   ·exact Nat.sub_le ..
theorem akm{bound m:Nat}{b:al}(hb:eM B w0 F A c b)(c_:b.length≤1000000)(oH:bound≤20000)(hm:1≤m)(hmb:m≤bound):
  a_ B w0 299 [ah bound,ah m,.slice A b.length c] F (af_ bound m b F):=by
 by_cases hE:(gi b).length<m*wid bound m
 ·exact aiC hb c_ oH hm hmb hE
 ·exact am' hb c_ oH hm hmb hE
theorem abG{bound:Int}{b:al}(hb:eM B w0 F A c b)(c_:b.length≤1000000)(aco:-9223372036854775808≤bound)(Np:bound≤9223372036854775807):
  a_ B w0 268 [ah bound,.slice A b.length c] F (anW bound b F):=by
 have ho0:cu ⟨b,0,0⟩:=⟨bT _,cZ⟩
 have ho1:cu (sW bound b):=ho0.bX Np;have hrb:(sW bound b).b=b:=Cs.cK _ _ _;have GI:(sW bound b).at_≤b.length:=by have:=ho1.at_;rw[hrb]at this;exact this
 have hnb:0≤bound→(Cj bound b:Int)≤bound:=fun h=>by
  unfold Cj Cs.int;rw[aw ak];by_cases he:(et (Cs.rest ⟨b,0,0⟩) bound).2.2=0
  ·exact(jz _ bound Np).2.2.2 he
  ·rw[(pt he).1];exact h
 have hcut:=hb.cut GI;have hrl:(Gf bound b).2.1≤b.length:=by
  have:=H5 bound.toNat (Cj bound b) (b.drop (sW bound b).at_);rw[iG]at this;unfold Gf;omega
 have arL:(bv b).drop ((sW bound b).at_*1)=bv (b.drop (sW bound b).at_):=by rw[cE,jt]
 rw[arL,show b.length-(sW bound b).at_=(b.drop (sW bound b).at_).length from(iG ..).symm]at hcut;have hint:∀{g:Nat} {A':bj} {c':Nat} {F':aP},aJ B w0 F' 1 (.slice A' b.length c') b.length (bv b)→a_ B w0 172 [br g,ah bound] (Cv g A' c' ⟨b,0,0⟩::F') (fun r L=>r=ah (Cj bound b)∧L=Cv g A' c' (sW bound b)::F'):=fun PY=>iH ho0 PY aco Np;by_cases hRw:(Gf bound b).2.2=0
 ·refine fw func268 54 [0,1] ?_;refine bA ?_;refine bW 6 18 [0,1] (bound<0∨20000<bound) ?_ ?_
  ·refine bF ?_;refine aL rfl rfl rfl (fun jG=>?_) (fun jG=>?_)
   ·refine b8 ?_;exact aQ oS
   ·refine be ?_;exact aQ vu
  ·refine be ?_;refine aj (fun jk=>?_) fun jk=>?_
   ·refine bA ?_;exact .inl ⟨by rw[DH jk];decide,by rw[DH jk],rfl⟩
   ·obtain⟨bn,rfl⟩:=gM (show 0≤bound by omega);have asA:=hnb aa;refine bG ?_;refine dX rfl (mU hb aa) fun g20 G_ JI=>?_;refine bL ?_;refine ai rfl (hint aB) ?_;refine bL ?_;refine ai rfl (gO) ?_;refine bQ ?_;refine aj (fun ka=>?_) fun ka=>?_
    ·refine bA ?_;refine aq (L':=F) (.skip (.skip (.refl _))) ?_;refine aF ?_;exact .inl ⟨by rw[DI jk ka];exact ka,by rw[DI jk ka],rfl⟩
    ·refine bQ ?_;refine aj (fun Bv=>?_) fun Bv=>?_
     ·refine aF ?_;refine aZ 57 1 none ?_;refine aZ 3 1 none ?_;refine fP ((BN (BN (fR (fR (.refl _)))))) ?_;refine aF ?_;refine ab (cj [ah 0,.slice none 0 0,.slice none 0 0] ag) rfl ?_;refine bh fun g32=>?_;refine aF ?_;refine ai rfl ((Ms).jg ((l6 (fR (.refl _))))) ?_;refine bF ?_;refine ve [4,5,6] ?_;refine bF ?_;have hz:=JY (b:=b) jk ka (show Cj bn b=0 by omega);refine aq (L':=Rl g32 0 1 none 0 none 0 [] F) ((ed (rM (rM (.skip (.skip (.refl _))))))) ?_;refine aF ?_;exact .inr ⟨ob,0,1,g32,none,0,none,0,rfl,aa,ob,ob⟩
     ·refine bJ ?_;refine ai rfl (Ms) ?_;refine ab (bP (i:=(sW bn b).at_) (size:=1) underlying27 ag rfl rfl rfl GI) rfl ?_;rw[show b.length-(sW bn b).at_=(b.drop (sW bn b).at_).length from(iG ..).symm];refine aX apf rfl ((akm (bound:=bn) (m:=Cj bn b) (b:=b.drop (sW bn b).at_) (.cons (.cons hcut)) kQ aa aa aa).mono (R':=fun r L=>∃g A1 c1 A2 c2,r= .tuple #[br g,ah (Gf bn b).2.1,ah 0]∧L=Rl g (wid bn (Cj bn b)) (2^wid bn (Cj bn b)) A1 c1 A2 c2 (Gf bn b).1 (Cv g20 G_ JI (sW bn b):: .own 5 1 G_ b.length JI (bv b)::F)) (fun r L h=>by rcases h with⟨h1,_⟩|⟨_,h⟩;exact absurd hRw h1;exact h)) rfl ?_;rintro _ _ ⟨g42,P42,p42,Q42,q42,rfl,cA⟩;obtain rfl:=cA.symm;refine bL ?_;refine ve [7,10,11,12] ?_;refine bJ ?_;refine aj (fun U3=>?_) fun U3=>?_
      ·exfalso;exact U3 rfl
      ·refine bz ?_;refine ai rfl ((Ms).jg ((pu3 (fR (fR (fR (.refl _))))))) ?_;refine aF ?_;refine ab (bY rfl rfl (r:=(((sW bn b).at_+(Gf bn b).2.1:Nat):Int)) ((bE aa aa).trans aa)) rfl ?_;refine bz ?_;have hz:=QU (b:=b) jk ka (show¬Cj bn b=0 by omega) (by simpa using hRw);refine aq (L':=Rl g42 (wid bn (Cj bn b)) (2^wid bn (Cj bn b)) P42 p42 Q42 q42 (Gf bn b).1 F) ((ed (ed (ed (.skip (.skip (.refl _))))))) ?_;refine aF ?_;exact .inr ⟨ob,wid bn (Cj bn b),_,g42,P42,p42,Q42,q42,rfl,w_ aa,ob,ob⟩
 ·refine fw func268 54 [0,1] ?_;refine bA ?_;refine bW 6 18 [0,1] (bound<0∨20000<bound) ?_ ?_
  ·refine bF ?_;refine aL rfl rfl rfl (fun jG=>?_) (fun jG=>?_)
   ·refine b8 ?_;exact aQ oS
   ·refine be ?_;exact aQ vu
  ·refine be ?_;refine aj (fun jk=>?_) fun jk=>?_
   ·refine bA ?_;exact .inl ⟨by rw[DH jk];decide,by rw[DH jk],rfl⟩
   ·obtain⟨bn,rfl⟩:=gM (show 0≤bound by omega);have asA:=hnb aa;refine bG ?_;refine dX rfl (mU hb aa) fun g20 G_ JI=>?_;refine bL ?_;refine ai rfl (hint aB) ?_;refine bL ?_;refine ai rfl (gO) ?_;refine bQ ?_;refine aj (fun ka=>?_) fun ka=>?_
    ·refine bA ?_;refine aq (L':=F) (.skip (.skip (.refl _))) ?_;refine aF ?_;exact .inl ⟨by rw[DI jk ka];exact ka,by rw[DI jk ka],rfl⟩
    ·refine bQ ?_;refine aj (fun Bv=>?_) fun Bv=>?_
     ·refine aF ?_;refine aZ 57 1 none ?_;refine aZ 3 1 none ?_;refine fP ((BN (BN (fR (fR (.refl _)))))) ?_;refine aF ?_;refine ab (cj [ah 0,.slice none 0 0,.slice none 0 0] ag) rfl ?_;refine bh fun g32=>?_;refine aF ?_;refine ai rfl ((Ms).jg ((l6 (fR (.refl _))))) ?_;refine bF ?_;refine ve [4,5,6] ?_;refine bF ?_;have hz:=JY (b:=b) jk ka (show Cj bn b=0 by omega);refine aq (L':=Rl g32 0 1 none 0 none 0 [] F) ((ed (rM (rM (.skip (.skip (.refl _))))))) ?_;refine aF ?_;exact .inr ⟨ob,0,1,g32,none,0,none,0,rfl,aa,ob,ob⟩
     ·refine bJ ?_;refine ai rfl (Ms) ?_;refine ab (bP (i:=(sW bn b).at_) (size:=1) underlying27 ag rfl rfl rfl GI) rfl ?_;rw[show b.length-(sW bn b).at_=(b.drop (sW bn b).at_).length from(iG ..).symm];refine ai rfl ((akm (bound:=bn) (m:=Cj bn b) (b:=b.drop (sW bn b).at_) (.cons (.cons hcut)) kQ aa aa aa).mono (R':=fun r L=>r= .tuple #[.pointer none,ah 0,ah (Gf bn b).2.2]∧L=Cv g20 G_ JI (sW bn b):: .own 5 1 G_ b.length JI (bv b)::F) (fun r L h=>by rcases h with⟨_,h⟩|⟨h1,_⟩;exact h;exact absurd h1 hRw)) ?_;refine bL ?_;refine ve [7,10,11,12] ?_;refine bJ ?_;refine aj (fun U3=>?_) fun U3=>?_
      ·refine bA ?_;have hz:=abD (b:=b) jk ka (show¬Cj bn b=0 by omega) hRw;refine aq (L':=F) (.skip (.skip (.refl _))) ?_;refine aF ?_;exact .inl ⟨by rw[hz];exact hRw,ob,rfl⟩
      ·exfalso;exact U3 hRw
end Go.Proofs.YtaodmbolhoafcaaGreatDoor

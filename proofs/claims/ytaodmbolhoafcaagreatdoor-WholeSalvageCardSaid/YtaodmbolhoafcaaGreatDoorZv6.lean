/-
  Texts of one proof, joined: part 6. No condition.
-/
import Derived.Test.YtaodmbolhoafcaaGreatDoorZv5
open List renaming length→E
open Go.RowKit Go.Proofs.Tryz
namespace Go.Proofs.YtaodmbolhoafcaaGreatDoor
set_option linter.unusedVariables false
set_option linter.unusedSimpArgs false
set_option maxRecDepth 20000
variable{P:Prop}{p:Nat}{bound:Int}{b:aq}{m:Nat}{l:List cJ}{id i sz:Nat}{ids:List Int}{L:aN}{size B:Nat}{w0:World}{F:aN}{A A1 A2:bh}{n c c1 c2 g:Nat}{bt:TypeId}{f:Ch->aN}{s:Cs}
section
theorem mG:type_of% @List.mem_append_right:= @List.mem_append_right
theorem ku:type_of% @List.mem_append_left:= @List.mem_append_left
def Ch.isObj:Ch->Bool
 | .obj _ _=>true
 |_=>false
section
variable{B:Nat}{w0 w w':World}{L M:aN}{c d:Ch}
theorem Ch.holds.cells(h:c.holds B w)(hc:c.isObj=false)(hg:c.fp=some g):∃o,w.heap[g]? =some o/\o.isCells=true:=by
 cases c with
 |own e size A n cc xs=>
  obtain⟨_,_,h⟩:=h;simp only[Ch.fp]at hg;by_cases sG:cc=0
  ·rw[av sG]at hg;cases hg
  ·rw[aB sG]at hg;obtain⟨g',cur,rfl,h1,h2,_⟩:=h.resolve_left sG;simp at hg;subst hg;exact⟨_,h2,rfl⟩
 |bI g' t cs=>
  simp only[Ch.fp,CZ]at hg;subst hg;exact⟨_,h.2,rfl⟩
 |obj g' o=>cases hc
theorem SL.apl(h:SL B w0 M w){row:Option Nat}(hg:w.grownBy w' row){K:Nat}(hK:B<=K)(hr:∀r,row=some r->K<=r/\∃o:Obj,w.heap[r]? =some o/\o.isCells=false)(ho:∀c∈M,c.isObj=true->∀g,c.fp=some g->g<K):SL B w0 M w':=by
 refine⟨h.below.grown hg h.base (λk hk=>iY hK (hr k hk).1),iY h.base hg.size,λc hc=>(h.all c hc).keep λg hgc=>?_,h.apart⟩;refine hg.block g ((h.all c hc).lt hgc).2 λe=>?_;obtain⟨h1,o,h2,h3⟩:=hr g e.symm;cases yP:c.isObj with
 |true=>exact absurd (ho c hc yP g hgc) aa
 |false=>
  obtain⟨o',h4,h5⟩:=(h.all c hc).cells yP hgc;rw[h2]at h4;cases h4
  rw[h3]at h5;cases h5
theorem aJ.later{v:Value}{xs:cQ}{w1:World}(h:aJ B w0 L size v n xs)(hb:Below B w0 w1):aJ B w1 L size v n xs:=λw hs=>h w ⟨hb.trans hs.below,hs.base,hs.all,hs.apart⟩
def rest(B:Nat)(M:aN)(w:World):aN:=((List.range w.heap.size).filter λk=>decide (B<=k)&&M.all λc=>decide (c.fp≠some k)).filterMap λk=>(w.heap[k]?).map (Ch.obj k)
theorem FM:c∈rest B M w↔∃k o,B<=k/\w.heap[k]? =some o/\(∀d∈M,d.fp≠some k)/\c= .obj k o:=by
 unfold rest;simp only[List.mem_filterMap,I7,oD,Bg,decide_eq_true_eq,EU,Option.map_eq_some_iff];constructor
 ·rintro⟨k,⟨h1,h2,h3⟩,o,h4,rfl⟩;exact⟨k,o,h2,h4,h3,rfl⟩
 ·rintro⟨k,o,h2,h4,h3,rfl⟩;exact⟨k,⟨(Hh.1 h4).1,h2,h3⟩,o,h4,rfl⟩
theorem T8(B:Nat)(M:aN)(w:World):(rest B M w).Pairwise Ch.apart:=by
 unfold rest;have h:((List.range w.heap.size).filter λk=>decide (B<=k)&&M.all λc=>decide (c.fp≠some k)).Pairwise (· ≠ ·):=(List.nodup_range).filter _;generalize ((List.range w.heap.size).filter λk=>decide (B<=k)&&M.all λc=>decide (c.fp≠some k))=ks at h⊢;induction ks with
 |nil=>exact List.Pairwise.nil
 |cons k ks ih=>
  have h':=kG.1 h;rw[List.filterMap_cons];cases hk:(w.heap[k]?).map (Ch.obj k)with
  |none=>exact ih h'.2
  |some c=>
   refine kG.2 ⟨λd hd=>?_,ih h'.2⟩;obtain⟨k',hk',hd'⟩:=List.mem_filterMap.1 hd;obtain⟨o,ho,rfl⟩:=Option.map_eq_some_iff.1 hk;obtain⟨o',ho',rfl⟩:=Option.map_eq_some_iff.1 hd';exact .inr λe=>h'.1 k' hk' (Tf e)
theorem SL.full(h:SL B w0 M w):SL B w (M++rest B M w) w:=by
 refine⟨EZ _ _,h.base,λc hc=>?_,rI.2 ⟨h.apart,T8 B M w,λc hc d hd=>?_⟩⟩
 ·rcases dO.1 hc with hc|hc
  ·exact h.all c hc
  ·obtain⟨k,o,h1,h2,h3,rfl⟩:=FM.1 hc;exact⟨h1,h2⟩
 ·obtain⟨k,o,h1,h2,h3,rfl⟩:=FM.1 hd;exact .inr (h3 c hc)
theorem Hp{M':aN}(h:SL B w0 M w)(h':SL B w (M'++rest B M w) w')(ho:∀c∈M,c.isObj=true->c∈M'):KeepsOthers w w':=by
 refine⟨h'.below.size,λk o hk hc=>?_⟩;by_cases hB:k<B
 ·rw[h'.below.block k hB];exact hk
 ·by_cases hm:∀d∈M,d.fp≠some k
  ·exact(h'.all _ (mG _ (FM.2 ⟨k,o,aa,hk,hm,rfl⟩))).2
  ·obtain⟨d,hdm,hf⟩:∃d,d∈M/\d.fp=some k:=by
    refine b_ λhn=>hm λd h1 h2=>hn ⟨d,h1,h2⟩
   cases hdo:d.isObj with
   |false=>
    obtain⟨o',h4,h5⟩:=(h.all d hdm).cells hdo hf;rw[hk]at h4;cases h4
    rw[hc]at h5;cases h5
   |true=>
    cases d with
    |obj g o'=>
     have e:g=k:=Tf hf;subst e;have h1:w.heap[g]? =some o':=(h.all (.obj g o') hdm).2;rw[hk]at h1;cases h1
     exact(h'.all _ (ku _ (ho _ hdm hdo))).2
    |_=>cases hdo
theorem SL.acm(h:SL B w0 M w){D:Nat}{o:Obj}(hB:B<=D)(hD:w.heap[D]? =some o)(ho:o.isCells=false)(hm:∀c∈M,c.isObj=true->∀g,c.fp=some g->g<D):SL B w0 (.obj D o::M) w:=by
 refine⟨h.below,h.base,λc hc=>?_,kG.2 ⟨λd hd=>.inr λe=>?_,h.apart⟩⟩
 ·rcases fq.1 hc with rfl|hc
  ·exact⟨hB,hD⟩
  ·exact h.all c hc
 ·have e:d.fp=some D:=e.symm;cases hdo:d.isObj with
  |true=>exact absurd (hm d hd hdo D e) (Nat.lt_irrefl _)
  |false=>
   obtain⟨o',h4,h5⟩:=(h.all d hd).cells hdo e;rw[hD]at h4;cases h4
   rw[ho]at h5;cases h5
end
theorem L8{C:Cx}{QQ:Exit->Act->World->Prop}{fr:Fr}{L:aN}{x b y:Code}(h:VC C x (TG C b (Exit.then (y.wp C.P QQ) QQ)) fr L):VG C (.seq (.seq x b) y) QQ fr L:=λa w ha hs=>
 wp_seq (wp_seq (wC (h a w ha hs) λe a w ⟨fr,L,ha,hs,hq⟩=>by
  cases e<;>exact hq a w ha hs))
def ami(B:Nat)(Lk:aN)(W W':World):Prop:=∀c∈Lk,c.holds B W->c.holds B W'
section
variable{C:Cx}{QQ:Exit->Act->World->Prop}{fr:Fr}{L:aN}{y body:Code}{α σ:Type}
theorem Gn{r0 d gf N:Nat}{g:Operand}{lb:cQ}{ty:TypeId}{pos:String}{af:Array Edge}(hc:aK C.P gf)(hg:ev fr g=some (.func (.func gf) #[] lb.toArray))(hp:Nat.blt p C.N=true)(hd:Nat.blt d C.N=true)(enc:α->Value)(S Sp:List α->Prop)(Lk:aN)(anu:∀w,SL C.B C.w0 L w->SeqStopsK Fence.wide 7 C.P gf lb.toArray (λx=> #[enc x]) (ami C.B Lk) S Sp N w)(ok:List α->σ->Prop)(G:List α->σ->aN)(hGo:∀pre s c,c.isObj=true->(c∈G pre s↔c∈L))(hLk:∀c∈Lk,c.isObj=false/\∀pre s,c∈G pre s)(s0:σ)(h0:ok [] s0)(hg0:Wk L (G [] s0))(arw:∀l pre x s w1,ok pre s->E pre<N->Below C.B C.w0 w1->∀F',VR ⟨C.P,C.N,C.B,w1⟩ l 6 body (λjD L'=>∃s',ok (pre++[x]) s'/\Wk L' (G (pre++[x]) s'++F')) ((d,enc x)::(p,enc x)::fr) (G pre s++F'))(arD:∀D xs s,S xs->ok xs s->VM C D y QQ fr (.obj D (.deferred (some []))::G xs s)):
  VG C (.block id (.rangeFunc g #[p] (.region r0 [(⟨some d,.assign (.tmp p),ty,pos,af,none⟩:Oper)].toArray false) body)) (Exit.then (y.wp C.P QQ) QQ) fr L:=λa w ha hs=>by
 have avc:=hg0.sl hs;have arW:∀pre s,∀c∈G pre s,c.isObj=true->∀g,c.fp=some g->g<w.heap.size:=λpre s c hc ho g hg=>((hs.all c ((hGo pre s c ho).1 hc)).lt hg).2;have eg:∀args w,(callFunc gf args).run C.P w= .ok (.enter gf args) w:=λargs w=>by
  obtain⟨fn,cc,h1,h2,h3⟩:=hc;have h2':¬fn.name= "runtime.NumGoroutine" :=by simpa using h2
  simp[callFunc,h1,h2',h3]
 refine wp_block (wpIn_wide.1 (wpIn_rangeFunc_ownF (n:=8) rfl aE (ha.tmp hg) trivial eg (anu w hs) (λh k c hc hh=>k c hc (h c hc hh)) ?kb (EZ _ _) (λ_=>rfl)
  (λpre W=>∃s,ok pre s/\SL C.B C.w0 (G pre s) W) (λ_ _ _=>False) ?own (λ_ _ _ _ _ h _ _=>h) ⟨s0,h0,avc⟩ (λx=>((a.put (some p) (enc x)).put (some d) (enc x))) ?assign ?body ?done ?stop))
 case kb=>
  intro W l o o' hl hW ho _ c hc hh;refine hh.keep λg hgc=>?_;refine World.putObj_heap_other λe=>?_;subst e;obtain⟨o2,h4,h5⟩:=hh.cells (hLk c hc).1 hgc;rw[hW]at h4;cases h4
  rw[ho]at h5;cases h5
 case own=>
  rintro pre W W' row ⟨s,la,lB⟩ Zg hr;exact⟨s,la,lB.apl Zg hs.base hr (arW pre s)⟩
 case assign=>
  intro l x W K hK;refine wpIn_region_lit (wpListIn_plain rfl λK' hK'=>?_);refine⟨λ_ _=>trivial,?_⟩;rw[Oper.semAt_eq _ _ _ (λc e=>by cases e)];have e0:({tmps:=(#[p].zip #[enc x]).foldl (λt (p,v)=>t.setIfInBounds p v) a.tmps,defers:=[]}:Act)=a.put (some p) (enc x):=by
   have:=ha.defers;cases a
   simp_all[Act.put]
  rw[e0];have hev:(a.put (some p) (enc x)).eval (.tmp p)=enc x:=(ha.put hp (enc x)).tmp (by simp[ev,look]);simp only[execOp,hev,OT,Oper.uponIn];exact hK' _ _ hK
 case body=>
  rintro l pre x W ⟨s,la,lB⟩ gU;refine wX (arw l pre x s W la gU lB.below (rest C.B (G pre s) W) _ W ((ha.put hp (enc x)).put hd (enc x)) lB.full) λe a' W' hq=>?_;cases e with
  |normal=>
   obtain⟨jD,L',CT,Cm,s',au0,OC⟩:=hq;have jj:=OC.sl Cm;have t_:SL C.B C.w0 (G (pre++[x]) s') W':=⟨lB.below.trans jj.below,jj.base,λc hc=>jj.all c (ku _ hc),(rI.1 jj.apart).1⟩
   exact⟨Hp lB jj (λc hc ho=>(hGo _ _ c ho).2 ((hGo _ _ c ho).1 hc)),λc hc _=>t_.all c ((hLk c hc).2 _ _),s',au0,t_⟩
  |_=>exact hq.elim
 case done=>
  rintro D xs W hD hS ⟨s,la,lB⟩ hK;refine arD D xs s hS la _ W (by rw[ha.defers];rfl) ?_ (lB.acm (iY hs.base hD) hK rfl (λc hc ho g hg=>rF (arW xs s c hc ho g hg) hD));have:({({a with defers:={target:=.collected D,args:= #[]}::a.defers}:Act)with defers:=[]}:Act)=a:=by have:=ha.defers;cases a;simp_all
  rw[this];exact ha
 case stop=>
  rintro D c pre W _ _ h _;exact h.elim
end
end
section
def XS(N:Nat)(QQ:Exit->Fr->World->Prop):Exit->Act->World->Prop:=λe a w=>∃fr,pn N fr a/\QQ e fr w
def VT(P:Program)(N:Nat)(c:Code)(QQ:Exit->Fr->World->Prop)(fr:Fr)(w:World):Prop:=∀a,pn N fr a->c.wpIn Fence.wide 7 P (XS N QQ) a w
def VTL(P:Program)(N:Nat)(ops:Array Oper)(QQ:Exit->Fr->World->Prop)(l:sg)(fr:Fr)(w:World):Prop:=∀a,pn N fr a->wpListIn Fence.wide 7 P ops (XS N QQ) l a w
def TT(P:Program)(N:Nat)(y:Code)(QQ:Exit->Fr->World->Prop):Exit->Fr->World->Prop
 | .normal,fr,w=>VT P N y QQ fr w
 |e,fr,w=>QQ e fr w
def TB(id:Nat)(QQ:Exit->Fr->World->Prop):Exit->Fr->World->Prop
 | .exit i,fr,w=>if i=id then QQ .normal fr w else QQ (.exit i) fr w
 |e,fr,w=>QQ e fr w
def VTQ(P:Program)(N:Nat)(w:World)(ops:Array Oper)(QF:Fr->Prop)(l:sg)(fr:Fr):Prop:=∀a,pn N fr a->wpQuiet P ops (λw'=>∃n,w'=w.drewN n) (λa'=>∃jD,pn N jD a'/\QF jD) l a
section
variable{P:Program}{N:Nat}{QQ:Exit->Fr->World->Prop}{QF:Fr->Prop}{fr jD:Fr}{w:World}{x y:Code}{ops:Array Oper}{l:sg}{op:Op}{ty:TypeId}{pos:String}{af:Array Edge}{d:Nat}{v:Value}{B:Nat}{w0:World}{L:aN}
theorem ov(h:VT P N x (TT P N y QQ) fr w):VT P N (.seq x y) QQ fr w:=λa ha=>
 wpIn_seq (wX (h a ha) λe a w ⟨fr,ha,hq⟩=>by cases e<;>first|exact hq a ha|exact⟨fr,ha,hq⟩)
theorem zN(h:VT P N x (TB id QQ) fr w):VT P N (.block id x) QQ fr w:=λa ha=>
 wpIn_block (wX (h a ha) λe a w ⟨fr,ha,hq⟩=>by
  cases e with
  |exit i=>
   unfold Exit.inBlock;unfold TB at hq;simp only at hq⊢;split
   ·rename_i hi;rw[av hi]at hq;exact⟨fr,ha,hq⟩
   ·rename_i hi;rw[aB hi]at hq;exact⟨fr,ha,hq⟩
  |_=>exact⟨fr,ha,hq⟩)
theorem DE(h:QQ .normal fr w):VT P N .skip QQ fr w:=λa ha=>wpIn_skip ⟨fr,ha,h⟩
theorem XX(h:QQ (.exit id) fr w):VT P N (.exit id) QQ fr w:=λa ha=>wpIn_exit ⟨fr,ha,h⟩
theorem agW(h:QQ .ret fr w):VT P N .ret QQ fr w:=λa ha=>wpIn_ret ⟨fr,ha,h⟩
theorem Gu{c:Operand}(hc:ev fr c=some (.bool true))(h:VT P N x QQ fr w):VT P N (.cond c x y) QQ fr w:=λa ha=>wpIn_cond_true (ha.tmp hc) (h a ha)
theorem Gt{c:Operand}(hc:ev fr c=some (.bool false))(h:VT P N y QQ fr w):VT P N (.cond c x y) QQ fr w:=λa ha=>wpIn_cond_false (ha.tmp hc) (h a ha)
theorem JT{c:Operand}{p:Prop}[Decidable p](hc:ev fr c=some (.bool (decide p)))(ht:p->VT P N x QQ fr w)(hf:¬p->VT P N y QQ fr w):VT P N (.cond c x y) QQ fr w:=by
 by_cases hp:p
 ·exact Gu (by rw[hc,pK hp]) (ht hp)
 ·exact Gt (by rw[hc,oi hp]) (hf hp)
theorem kC(h:VT P N y QQ fr w):TT P N y QQ .normal fr w:=h
theorem XT(h:QQ (.exit i) fr w):TT P N y QQ (.exit i) fr w:=h
theorem XM(h:QQ .normal fr w):TB id QQ (.exit id) fr w:=by unfold TB;simp only[if_true];exact h
theorem mb{tD:sg}(h:VTL P N tD.toArray QQ tD fr w):VT P N (.region id tD.toArray false) QQ fr w:=λa ha=>wpIn_region_lit (h a ha)
theorem nF(jD:Fr)(hs:Sub fr jD)(h:QQ .normal jD w):VTL P N ops QQ [] fr w:=λa ha=>wpListIn_nil ⟨jD,ha.sub hs,h⟩
theorem cW(hs:SL B w0 L w)(h:gX ⟨P,N,B,w0⟩ fr L op ty v)(hn:Br ⟨some d,op,ty,pos,af,none⟩=true)(hd:Nat.blt d N=true)(k:VTL P N ops QQ l ((d,v)::fr) w):VTL P N ops QQ (⟨some d,op,ty,pos,af,none⟩::l) fr w:=λa ha=>
 wpListIn_plain rfl λK hK=>by
  refine⟨λ_ _=>trivial,?_⟩;rw[Oper.semAt_eq _ _ _ (Pq hn),h a w ha hs];exact hK _ _ (k _ (ha.put hd v))
theorem JU{g x:Operand}{Dh:Array TypeId}{yl:Nat}{u:Value}{T F:World->Prop}(hg:ev fr g=some (.func (.yield yl) #[] #[]))(hx:ev fr x=some u)(hy:YieldAt Fence.wide 6 P yl #[u] w λe w'=>(e= .returned (.bool true)/\T w')\/(e= .returned (.bool false)/\F w'))(hd:Nat.blt d N=true)(kt:∀w',T w'->VTL P N ops QQ l ((d,.bool true)::fr) w')(kf:∀w',F w'->VTL P N ops QQ l ((d,.bool false)::fr) w'):
  VTL P N ops QQ (⟨some d,.call {callee:=.value g,args:= #[x],argTypes:=Dh},ty,pos,af,none⟩::l) fr w:=λa ha=>
 wpListIn_plain rfl λK hK=>by
  obtain⟨fn,tmps,assign,body,h1,h2⟩:=hy;refine⟨λ_ _=>trivial,?_⟩;rw[Oper.semAt_eq _ _ _ (λc e=>by cases e)];have he:(execOp a.eval ⟨some d,.call {callee:=.value g,args:= #[x],argTypes:=Dh},ty,pos,af,none⟩).run P w= .ok (.round yl fn tmps assign body) w:=by
   have hg':=ha.tmp hg;have hx':=ha.tmp hx;simp[execOp,resolve,hg',hx',Deferred.ofValue,invoke,h1]
  rw[he];refine⟨λh=>by simp[Fence.wide]at h,h2.mono λe w' hh=>?_⟩;rcases hh with⟨rfl,hT⟩|⟨rfl,hF⟩
  ·exact hK _ _ (kt w' hT _ (ha.put hd _))
  ·exact hK _ _ (kf w' hF _ (ha.put hd _))
theorem Gv{tD:sg}(hm:P.follows .mixedOrders=true)(hB:Region.lexB .any tD.toArray=true)(h:VTQ P N w tD.toArray (λjD=>∀n,QQ .normal jD (w.drewN n)) tD fr):VT P N (.region id tD.toArray true) QQ fr w:=λa ha=>by
 refine wpIn_wide.2 (wp_region_quiet_lit hm hB ?_);have Ow:∀(l:sg) (a:Act) {ops:Array Oper} {Q Q':Act->Prop},(∀a,Q a->Q' a)->wpQuiet P ops (λw'=>∃n,w'=w.drewN n) Q l a->wpQuiet P ops (λw'=>∃n,w'=w.drewN n) Q' l a:=by
  intro l;induction l with
  |nil=>intro a ops Q Q' hq h;exact hq _ h
  |cons o l ih=>
   intro a ops Q Q' hq h;unfold wpQuiet at h⊢;split
   ·rename_i hw;rw[av hw]at h;exact Oper.quiet_mono (λa h=>ih a hq h) h
   ·rename_i hw;rw[aB hw]at h;exact ih _ hq h
 exact Ow tD a (λa' ⟨jD,h1,h2⟩ w' ⟨n,hn⟩=>⟨jD,h1,hn▸h2 n⟩) (h a ha)
theorem XZ(jD:Fr)(hs:Sub fr jD)(h:QF jD):VTQ P N w ops QF [] fr:=λa ha=>wpQuiet_nil ⟨jD,ha.sub hs,h⟩
theorem kD(hs:SL B w0 L w)(h:gX ⟨P,N,B,w0⟩ fr L op ty v)(hd:Nat.blt d N=true)(k:VTQ P N w ops QF l ((d,v)::fr)):VTQ P N w ops QF (⟨some d,op,ty,pos,af,none⟩::l) fr:=λa ha=>
 wpQuiet_step λK hK=>by
  rw[av oy];refine⟨v,λw' EJ=>?_,hK _ (k _ (ha.put hd v))⟩;obtain⟨n,rfl⟩:=EJ;unfold Oper.quietAt;rw[h a _ ha (hs.drewN n)];exact⟨rfl,rfl⟩
def afJ(t:Nat)(a:Act):Nat:=match a.tmps[t]? with
 |some (.int _ z)=>z.toNat
 |_=>0
theorem XY(ok:Nat->World->Prop)(F:Nat->Fr)(t M:Nat)(pos:Nat->Nat)(sH:∀i,look t (F i)=some (ah (pos i:Nat)))(i0:Nat)(h0:ok i0 w)(hf:Sub fr (F i0))(round:∀i w,ok i w->VT P N x (λe fr w=>match e with| .normal=>∃i',ok i' w/\M-pos i'<M-pos i/\Sub fr (F i')|e=>QQ e fr w) (F i) w):VT P N (.loop x) QQ fr w:=λa ha=>by
 have hm:∀i a,pn N (F i) a->afJ t a=pos i:=λi a ha=>by
  unfold afJ;rw[ha.at_ _ _ (sH i)];simp
 refine wpIn_loop (λa w=>∃i,ok i w/\pn N (F i) a) (λa w=>M-afJ t a) ⟨i0,h0,ha.sub hf⟩ ?_;rintro a w ⟨i,e2,e3⟩;refine wX (round i w e2 a e3) λe a' w' ⟨jD,CT,hq⟩=>?_;cases e with
 |normal=>
  obtain⟨i',k1,k2,k3⟩:=hq;refine⟨⟨i',k1,CT.sub k3⟩,?_⟩;rw[hm i a e3,hm i' a' (CT.sub k3)];exact k2
 |_=>exact⟨jD,CT,hq⟩
end
end
section
section
variable{C:Cx}{fr:Fr}{L:aN}{x y z u:Operand}{t ty e:TypeId}{m n q:Int}{k:IntKind}
theorem wH(h:P:=by(repeat (first|exact .hd|apply m9.tl))):P:=h
theorem wL{nn j:Nat}{k' k2:IntKind}(ht:C.P.underlying t=some (.slice e))(hz:(C.P.info? e).map (·.size)=some size)(he:ev fr x=some (.slice A nn c))(hy:ev fr y=some (.int k m))(hm:m=(i:Int))(sI:ev fr z=some (.int k' n))(hn:n=(j:Int))(hu:ev fr u=some (.int k2 q))(hq:q=(j:Int))(Ww:i<j)(hj:j<=c):
  gX C fr L (.slice t x (some y) (some z) (some u)) ty (.slice (A.map (·.add (i*size))) (j-i) (j-i)):=λa w ha hw d pos af gg=>by
 subst hm;subst hn;subst hq;have h1:¬j=i:=by omega
 have h2:i<=j:=by omega
 simp[execOp,Instr.sliceAt,Instr.slice,Instr.sliceBounds,Instr.sliceBound,asIntOf,jk ht,ha.tmp he,ha.tmp hy,ha.tmp sI,ha.tmp hu,h1,h2,hj,Hf hz]
end
def xY(sz n i:Nat):Nat:=min sz (n-i*sz)
def GU(A:bh)(sz n i:Nat):Value:=.slice (A.map (·.add (i*sz))) (xY sz n i) (xY sz n i)
def iu(sz n:Nat):Nat:=(n+(sz-1))/sz
theorem nZ{n:Nat}(h:1<=sz):i<iu sz n↔i*sz<n:=by
 unfold iu;rw[Nat.lt_iff_add_one_le,ON aa,jR];omega
theorem Dg{N:Nat}{args:cQ}{fr0:Fr}(hl:E args<=N)(hi:Ini N args fr0):pn N fr0 {tmps:=args.toArray++Array.replicate (N-args.toArray.size) undef,defers:=[]}:=by
 refine⟨rfl,bS,λt v ht=>?_⟩;obtain⟨h1,h2⟩:=hi.look t v ht;simp only[y_];by_cases gU:t<E args
 ·rw[Array.getElem?_append_left HY];simp[gU]at h2;simp[gU,h2]
 ·rw[Array.getElem?_append_right HY];have h3:args[t]? =none:=tS aa;simp[h3]at h2;subst h2;simp;rw[Array.getElem?_replicate,av aa]
def TE(A B:World->Prop):Exit->Fr->World->Prop
 | .normal,_,w| .ret,_,w=>A w\/B w
 |_,_,_=>False
theorem Nf{g2 g3:Nat}{n:Nat}(iy:1<=sz)(jj:sz<=1000)(hn:n<=1000000000000000)(hnc:n<=c)(hg:g2≠g3)(w:World)(h2:(Ch.bI g2 87 [.slice A n c]).holds B w)(h3:(Ch.bI g3 3 [ah sz]).holds B w):
  SeqStopsK Fence.wide 7 Tryz.prog 209 [bq g2,bq g3].toArray (λx:Fin (iu sz n)=> #[GU A sz n x.val])
   (ami B [.bI g2 87 [.slice A n c],.bI g3 3 [ah sz]]) (λxs=>xs.map (·.val)=List.range (iu sz n)) (λ_=>True) (iu sz n) w:=by
 intro l J Jx W hW hJ hJx hY h0;have lB:∀w:World,(∀q∈[Ch.bI g2 87 [.slice A n c],.bI g3 3 [ah sz]],q.holds B w)->SL 0 w [Ch.bI g2 87 [.slice A n c],.bI g3 3 [ah sz]] w:=λw h=>by
  refine⟨EZ _ _,bD _,λc hc=>?_,kG.2 ⟨λd hd=>?_,kG.2 ⟨λ_ h=>jB,List.Pairwise.nil⟩⟩⟩
  ·have:=h c hc;simp only[fq,kS,nL]at hc;rcases hc with rfl|rfl<;>exact⟨bD _,this.2⟩
  ·rw[kT.1 hd];exact .inr λe=>hg (Tf e)
 have anj:=(h2.lt rfl).2;have ank:=(h3.lt rfl).2;have hW0:∀q∈[Ch.bI g2 87 [.slice A n c],.bI g3 3 [ah sz]],q.holds B W:=by
  intro c hc;simp only[fq,kS,nL]at hc;rcases hc with rfl|rfl
  ·exact h2.keep λg hg=>by cases hg;exact hW.block _ anj
  ·exact h3.keep λg hg=>by cases hg;exact hW.block _ ank
 have Za:∀pre (w:World) k,J pre w->J pre (w.drewN k):=λpre w k h=>hJ pre w _ none h (qK w k) (λr e=>by cases e);generalize hLk:[Ch.bI g2 87 [.slice A n c],.bI g3 3 [ah sz]]=Lk at*;refine callsIn_of_wp func209 rfl trivial (wX (Q:=XS 31 (TE (λw=>∃xs:List (Fin (iu sz n)),xs.map (·.val)=List.range (iu sz n)/\J xs w) (λw=>∃pre,True/\Jx pre w))) ?_ ?_) rfl
 ·have ha:=Dg (N:=31) (args:=[.func (.yield l) #[] #[],bq g2,bq g3]) (fr0:=[(0,.func (.yield l) #[] #[]),(1,bq g2),(2,bq g3)]) ao ⟨⟨rfl,rfl⟩,⟨rfl,rfl⟩,⟨rfl,rfl⟩,trivial⟩;refine(?_ :VT Tryz.prog 31 _ _ _ W) _ ha;refine ov (mb ?_);refine cW (lB W hW0) (lW rfl) rfl rfl ?_;refine nF [(0,_),(1,_),(2,_),(4,_)] ⟨rfl,rfl,rfl,rfl,trivial⟩ ?_;refine kC (zN ?_);refine XY (λi w=>i<=iu sz n/\(∀c∈Lk,c.holds B w)/\∃pre:List (Fin (iu sz n)),pre.map (·.val)=List.range i/\J pre w) (λi=>[(0,.func (.yield l) #[] #[]),(1,bq g2),(2,bq g3),(4,ah ((i*sz:Nat):Int))]) 4 (n+sz) (λi=>i*sz) (λi=>rfl) 0 ⟨bD _,hW0,[],rfl,h0⟩ ⟨rfl,rfl,rfl,by rw[nJ];rfl,trivial⟩ ?_;rintro i w ⟨hi,hh,pre,EG,hJp⟩;have hs:=lB w hh;rw[<-hLk]at hs;refine ov (ov (mb ?_));refine cW hs (ek rfl) rfl rfl ?_;refine cW hs (bL ae rfl wH rfl) rfl rfl ?_;refine cW hs (pB underlying87 rfl) rfl rfl ?_;refine cW hs (yA rfl rfl) rfl rfl ?_;refine nF [(0,_),(1,_),(2,_),(4,_),(9,_)] ⟨rfl,rfl,rfl,rfl,rfl,trivial⟩ ?_;refine kC (JT rfl (λgU=>?_) (λgU=>?_))
  ·refine DE ?_;have Wy:i*sz<n:=by omega
   have hiN:=(nZ iy).2 Wy;have hlen:E pre<iu sz n:=by
    have:=eG List.length EG;simp at this;omega
   have hE1:1<=xY sz n i:=by unfold xY;omega
   have hE2:xY sz n i<=sz:=by unfold xY;omega
   have hE3:i*sz+xY sz n i<=n:=by unfold xY;omega
   have hss:(i+1)*sz=i*sz+sz:=jR i sz;refine kC (ov (zN (ov (Gv ae ae ?_))));refine kD hs (bL ae rfl wH rfl) rfl ?_;refine kD hs (bL ae rfl wH rfl) rfl ?_;refine kD hs (ek rfl) rfl ?_;refine kD hs (bV (i:=i*sz) (size:=1) underlying87 ae rfl rfl rfl aa) rfl ?_;refine kD hs (pB underlying87 rfl) rfl ?_;refine kD hs (yB rfl rfl) rfl ?_;refine kD hs (lW rfl) rfl ?_;rw[show min (sz:Int) ((n-i*sz:Nat):Int)=((xY sz n i:Nat):Int) by unfold xY;omega];refine XZ [(0,_),(1,_),(2,_),(4,_),(5,_)] ⟨rfl,rfl,rfl,rfl,rfl,trivial⟩ ?_;intro kd;have hJd:=Za pre w kd hJp;have vM:∀c∈Lk,c.holds B (w.drewN kd):=λc hc=>(hh c hc).keep λg hg=>rfl;clear hh hJp hs;generalize w.drewN kd=w at*;have hs:=lB w vM;rw[<-hLk]at hs;refine kC (ov (mb ?_));refine cW hs (ek rfl) rfl rfl ?_;refine cW hs (bL ae rfl wH rfl) rfl rfl ?_;refine cW hs (ek rfl) rfl rfl ?_;refine cW hs (ek rfl) rfl rfl ?_;refine cW hs (ek rfl) rfl rfl ?_;refine cW hs (bF rfl rfl (bj aa aa)) rfl rfl ?_;refine cW hs (ek rfl) rfl rfl ?_;refine cW hs (ek rfl) rfl rfl ?_;refine cW hs (bF rfl rfl (bj aa aa)) rfl rfl ?_;refine cW hs (wL (i:=i*sz) (j:=i*sz+xY sz n i) (size:=1) underlying87 ae rfl rfl rfl rfl aa rfl aa aa aa) rfl rfl ?_;rw[cH,uJ];refine JU (u:=GU A sz n i) rfl rfl (hY pre ⟨i,hiN⟩ w hJd hlen) rfl ?_ ?_
   ·rintro w' ⟨hJ',hK⟩;have hh':∀c∈Lk,c.holds B w':=λc hc=>hK c hc (vM c hc);have hs:=lB w' hh';rw[<-hLk]at hs;refine cW hs (AJ rfl) rfl rfl ?_;refine nF [(0,_),(1,_),(2,_),(4,_),(30,_)] ⟨rfl,rfl,rfl,rfl,rfl,trivial⟩ ?_;refine kC (Gt rfl (DE ?_));refine kC (mb ?_);refine cW hs (ek rfl) rfl rfl ?_;refine cW hs (bL ae rfl wH rfl) rfl rfl ?_;refine cW hs (bF rfl rfl (r:=(((i+1)*sz:Nat):Int)) ((bj aa aa).trans aa)) rfl rfl ?_;refine cW hs (lW rfl) rfl rfl ?_;refine nF [(0,_),(1,_),(2,_),(4,_)] ⟨rfl,rfl,rfl,rfl,trivial⟩ ?_;exact⟨i+1,⟨hiN,hh',pre++[⟨i,hiN⟩],by rw[iF,EG,mW];rfl,hJ'⟩,aa,rfl,rfl,rfl,rfl,trivial⟩
   ·intro w' hJ';have z7:SL w'.heap.size w' [] w':=SL.C4 w';refine cW z7 (AI rfl) rfl rfl ?_;refine nF [(30,_)] ⟨rfl,trivial⟩ ?_;refine kC (Gu rfl (agW ?_));exact .inr ⟨_,trivial,hJ'⟩
  ·refine XX ?_;refine XT ?_;show TB 0 _ (Exit.exit 0) _ _;refine XM ?_;have x7:¬i<iu sz n:=λh=>gU (by have:=(nZ iy).1 h;omega);obtain rfl:i=iu sz n:=by omega
   exact .inl ⟨pre,EG,hJp⟩
 ·rintro e a w ⟨fr,ha,hq⟩;cases e<;>first
   |exact hq.elim
   |exact⟨ha.defers,_,results_none rfl _ _ _,⟨_,rfl⟩,hq⟩
end
theorem apt(h:P:=by(exact dS (by first|exact λh=>absurd h.1 (by assumption)|exact λh=>absurd h.2.1 (by omega)|exact⟨λh=>⟨by assumption,by omega,h⟩,λh=>h.2.2⟩))):P:=h
theorem b_5(h:P:=by(exact dS (by first|exact λh=>absurd ((mI s r k hk).1 h).1.1 (by omega)|exact λh=>absurd ((mI s r k hk).1 h).1.2 (by omega)|exact⟨λh=>(mI s r k hk).2 ⟨⟨by omega,by omega⟩,oF.1 (by omega)⟩,λh=>by rw[((mI s r k hk).1 h).2]⟩))):P:=h
theorem Sa(was s:cJ):bg B w0 208 [.string ⟨was.toArray⟩,.string ⟨s.toArray⟩] F (λr L=>r= .bool (decide (uX was s))/\L=F):=by
 refine fw func208 17 [0,1] ?_;refine bf 7 12 16 [] (uX was s) ?_ ?_
 ·refine aX ?_;refine ab (It (r:=[]) rfl rfl) rfl (bC 1 (λh7=>?_) λh7=>?_)
  ·refine bC 7 (λjZ=>?_) λjZ=>?_
   ·refine fb ?_;exact ab (R7 rfl rfl) rfl (ax 1 (k:=(by exact dG (by first|exact λh=>absurd h.1 (by assumption)|exact λh=>absurd h.2.1 (by omega)|exact⟨λh=>⟨by assumption,by omega,h⟩,λh=>h.2.2⟩))))
   ·exact ax 3 (k:=apt)
  ·exact ax 8 (k:=apt)
 ·exact cm 5
theorem VY(s r:cJ)(hs:E s<=1000000000000000):bg B w0 210 [.string ⟨s.toArray⟩,.string ⟨r.toArray⟩] F (λv L=>v=ah (qt s r)/\L=F):=by
 have hle:=(Bh s r).1;refine ba func210 28 [0,1] 12 ?_;refine aw (λzf zL zm=>∃(k:Nat),(k<=qt s r)/\qt s r-k=zm/\Sub zf [(0,.string ⟨s.toArray⟩),(1,.string ⟨r.toArray⟩),(5,ah k)]/\Wk zL (F)) _ ⟨0,bD _,rfl,a_,.refl _⟩ ?_;rintro _ _ _ ⟨k,hk,rfl,hs,hp⟩;refine aL hs hp ?_;clear hs hp;refine fc ?_;refine sE 19 24 [0,1,5] (k<qt s r) ?_ ?_
 ·refine dx ?_;refine jy rfl rfl rfl (λig=>?_) (λig=>?_)
  ·refine dA ?_;refine jy rfl rfl rfl (λj0=>?_) (λj0=>?_)
   ·refine fb ?_;refine bJ (sB underlying9 rfl rfl rfl aa) rfl (dx ?_);refine bJ (sB underlying9 rfl rfl rfl aa) rfl (fc ?_);exact ke (by exact dG (by first|exact λh=>absurd ((mI s r k hk).1 h).1.1 (by omega)|exact λh=>absurd ((mI s r k hk).1 h).1.2 (by omega)|exact⟨λh=>(mI s r k hk).2 ⟨⟨by omega,by omega⟩,oF.1 (by omega)⟩,λh=>by rw[((mI s r k hk).1 h).2]⟩))
   ·refine dg ?_;exact ke b_5
  ·refine bK 13 ?_;exact ke b_5
 ·refine ag 2 (λkJ=>?_) λkJ=>?_
  ·refine dA ?_;refine aj ⟨_,aa,k+1,aa,rfl,a_,.refl _⟩
  ·refine bK 13 ?_;exact⟨by rw[show k=qt s r by omega],rfl⟩
theorem ahQ(iy:1<=sz):bg B w0 148 [.slice A n c,ah sz] F (λv L=>∃g2 g3,v= .func (.func 209) #[] #[bq g2,bq g3]/\L= .bI g3 3 [ah sz]:: .bI g2 87 [.slice A n c]::F):=by
 refine fw func148 9 [0,1] ?_;refine bM 2 λg2=>?_;refine fM λg3=>?_;refine bZ 10 λh6=>?_;exact bO 10
theorem yc{P:eH}{l:aq}(hb:aJ B w0 F 1 (.slice A n c) n P.Dc)(hP:∀x∈P,aJ B w0 F 1 x.1 (E x.2) (bv x.2))(hn:n=E P)(pF:P.all=l)(hlen:E l<=1099511627776)(yL:E P<=1099511627776):
  bg B w0 52 [.slice A n c] F (λr L=>∃A' c',r= .slice A' (E l) c'/\L= .own 5 1 A' (E l) c' (bv l)::F):=by
 subst pF;exact dQ.Bt λw hw=>akT (B:=w.heap.size) w hn (hb w hw) (λx hx=>hP x hx w hw) (ga _) hlen yL
theorem NA(hb:aJ B w0 F 1 (.slice A (E l) c) (E l) (strs l))(hl:E l<=1000000000000000):
  bg B w0 147 [.slice A (E l) c] F (λr L=>r= .bool (decide (m8 l))/\L=F):=by
 refine ba func147 21 [0] 19 ?_;refine aw (λzf zL zm=>∃(k:Nat),(k<=E l/\∀i,i<k->uX (fP l i) (l.getD i []))/\E l-k=zm/\Sub zf [(0,.slice A (E l) c),(3,.string ⟨(fP l k).toArray⟩),(6,.slice A (E l) c),(7,ah (E l)),(8,ah k)]/\Wk zL (F)) _ ⟨0,⟨bD _,λi h=>absurd h aa⟩,rfl,a_,.refl _⟩ ?_;rintro _ _ _ ⟨k,⟨hk,hm⟩,rfl,hs,hp⟩;refine aL hs hp (ag 6 (λh9=>?_) λh9=>?_)
 ·refine bK 16 ?_;refine ai rfl (Sa (fP l k) (l.getD k [])) (ag 3 (λmj=>?_) λmj=>?_)
  ·refine bK 13 ?_;exact⟨by rw[oi (λh=>mj (h.1 k aa))],rfl⟩
  ·have yR:uX (fP l k) (l.getD k []):=gE.1 mj;refine dM ?_;rw[<-aaj];refine aj ⟨_,aa,k+1,⟨aa,λi hi=>by
    by_cases e:i=k
    ·rw[e];exact yR
    ·exact hm i aa⟩,rfl,a_,.refl _⟩
 ·refine bK 15 ?_;have e:k=E l:=by omega
  subst e;exact⟨by rw[xz.2 (show((E l:Int)<=1048576)↔m8 l from⟨λh=>⟨hm,aa⟩,λh=>(by have:=h.2;omega)⟩)],rfl⟩
theorem yD{s:cJ}(h:E s<=1000000):E (fg s)<=E s+10:=by
 have:=aY (x:=E s) aa;unfold fg;rw[bm];omega
theorem sa:∀(was:cJ) (r:List cJ),(∀s∈r,E s<=25)->E (ja was r)<=E r*45
 |_,[],_=>by simp[ja]
 |was,s::r,h=>by
  have h1:=sa s r (λx hx=>h x th);have h2:=h s ao;have h3:E (fg (s.drop (qt was s)))<=35:=by
   have:=yD (s:=s.drop (qt was s)) l0;rw[jM]at this;omega
  have h4:E (aW (qt was s))<=10:=aY (by have:=(Bh was s).2;omega);rw[ja,bm,bm,ei,jR];omega
theorem F_:∀(t:cJ) (r:List cJ) (k:Nat),k<E r->ja t (r.take (k+1))=ja t (r.take k)++(aW (qt ((t::r).getD k []) (r.getD k []))++fg ((r.getD k []).drop (qt ((t::r).getD k []) (r.getD k []))))
 |_,[],_,h=>absurd h ao
 |t,s::r,0,_=>by simp[ja]
 |t,s::r,k+1,h=>by
  have:=F_ s r k ml;rw[nK,ja,this,nK,ja];simp only[tA,bT]
theorem ab5{t:cJ}{r:List cJ}(hb:aJ B w0 F 1 (.slice A (E r+1) c) (E r+1) (strs (t::r)))(hl:E r<=1000)(qn:∀s∈t::r,E s<=25):
  bg B w0 149 [.slice A (E r+1) c] F (λv L=>∃A' c',v= .slice A' (E (dR (t::r))) c'/\L= .own 5 1 A' (E (dR (t::r))) c' (bv (dR (t::r)))::F):=by
 have ht:=qn t ao;have hcut:=hb.cut (k:=1) aa;rw[y7,show(strs (t::r)).drop (1*1)=strs r from rfl]at hcut;obtain⟨A9,hA9⟩:=cM ((if c=1 then A else A.map (·.add (1*1))));obtain⟨c9,hc9⟩:=cM (c-1);rw[<-hA9,<-hc9]at hcut;have e0:E (fg t++ja t (r.take 0))=E (fg t):=by simp[ja]
 refine ba func149 37 [0] 8 ?_;refine ab (az (i:=0) (size:=1) underlying87 ae rfl rfl rfl aa aA) rfl ?_;refine ab (im (b:=t::r) ae rfl aA aa) rfl ?_;refine ay rfl (LR t aa) λz' RQ=>dg ?_;refine ab (bV (i:=1) (size:=1) underlying87 ae rfl rfl rfl aa) rfl ?_;rw[y7,<-hA9,<-hc9];refine dx ?_;refine aw (λzf zL zm=>∃(k:Nat) (A3:bh) (c3:Nat),(k<=E r)/\E r-k=zm/\Sub zf [(0,.slice A (E r+1) c),(3,.slice A3 (E (fg t++ja t (r.take k))) c3),(12,.slice A9 (E r) c9),(13,ah (E r)),(14,ah k)]/\Wk zL (.own 5 1 A3 (E (fg t++ja t (r.take k))) c3 (bv (fg t++ja t (r.take k)))::F)) _ ⟨0,z',RQ,bD _,rfl,a_,au (by simp[ja]) (by simp[ja]) (.refl _)⟩ ?_;rintro _ _ _ ⟨k,A3,c3,hk,rfl,hs,hp⟩;refine aL hs hp ?_;clear hs hp;refine ag 6 (λmj=>?_) λmj=>?_
 ·have vN:E ((t::r).getD k [])<=25:=qn _ (by rw[bz,fx (show k<E (t::r) by simp;omega)];exact uH _);have EI:E (r.getD k [])<=25:=qn _ (by simp[bz,fx (show k<E r by omega)]);have gU:=sa t (r.take k) (λs hs=>qn s (lj _ (ia hs)));rw[fZ,C2 aa]at gU;have hle:=Bh ((t::r).getD k []) (r.getD k []);have arM:k*45<=1000*45:=C3 _ aa;have CW:=yD (s:=t) aa;refine cY ?_;refine ab (im (b:=r) ae rfl aA aa) rfl (cY ?_);refine ab (az (i:=k) (size:=1) underlying87 ae rfl rfl rfl aa aA) rfl ?_;refine ab (im (b:=t::r) ae rfl aA aa) rfl (aX ?_);refine ai rfl (VY ((t::r).getD k []) (r.getD k []) aa) (cN 3 (.own 5 1 A3 (E (fg t++ja t (r.take k))) c3 (bv (fg t++ja t (r.take k)))::F) ?_);refine aF 0 3 ?_;refine aF 4 2 ?_;refine aS 6 rfl (R8 underlying9 rfl rfl rfl aa) (aC 3 (cj rfl rfl (ji (qt ((t::r).getD k []) (r.getD k [])) aa) λB3 Ca=>aC 7 (cj rfl rfl (LR ((r.getD k []).drop (qt ((t::r).getD k []) (r.getD k []))) l0) λMi Mo=>aC 8 (cF rfl (aG fO [_,_,_] rfl rfl bY aa aa) λMj=>aC 9 (cj rfl rfl (yc (l:=fg t++ja t (r.take (k+1))) (P:=[(.slice A3 (E (fg t++ja t (r.take k))) c3,fg t++ja t (r.take k)),(.slice B3 (E (aW (qt ((t::r).getD k []) (r.getD k [])))) Ca,aW (qt ((t::r).getD k []) (r.getD k []))),(.slice Mi (E (fg ((r.getD k []).drop (qt ((t::r).getD k []) (r.getD k []))))) Mo,fg ((r.getD k []).drop (qt ((t::r).getD k []) (r.getD k []))))]) aA apE rfl (by rw[F_ t r k aa];simp[eH.all,bT]) (by rw[bm];have:=sa t (r.take (k+1)) (λs hs=>qn s (lj _ (ia hs)));rw[fZ]at this;omega) ao) λtI tY=>?_)))));refine dI 10 ?_;refine di [0,3,12,13,14] ?_;refine dw ?_;refine aj ⟨_,aa,k+1,tI,tY,aa,rfl,a_,.cons (.s4 (.refl _))⟩
 ·refine dM ?_;obtain rfl:k=E r:=by omega
  rw[js];exact bO 1
theorem apP(h:P:=by(show(ad.add (i*sz)).block<_;unfold Addr.add;split<;>exact h4)):P:=h
theorem b_2(h:P:=by(first|rfl|exact dT (by first|exact .inl (by omega)|exact .inr (.inl (by omega))|exact⟨λh=>.inr (.inr h),λh=>by rcases h with h|h|h<;>first|omega|exact h⟩)|exact dS (by first|exact .inl (by omega)|exact .inr (.inl (by omega))|exact⟨λh=>.inr (.inr h),λh=>by rcases h with h|h|h<;>first|omega|exact h⟩)|exact dG (by first|exact .inl (by omega)|exact .inr (.inl (by omega))|exact⟨λh=>.inr (.inr h),λh=>by rcases h with h|h|h<;>first|omega|exact h⟩)|exact oW (by first|exact .inl (by omega)|exact .inr (.inl (by omega))|exact⟨λh=>.inr (.inr h),λh=>by rcases h with h|h|h<;>first|omega|exact h⟩))):P:=h
theorem apH(h:P:=by(have:=(kG.1 hw.apart).1 _ rL;subst e;rcases this with h|h<;>simp[Ch.fp]at h)):P:=h
theorem apI(h:P:=by(intro y hy;simp only[fq,kS,nL]at hy;rcases hy with rfl|rfl<;>exact aA)):P:=h
theorem EX:type_of% @List.length_range:= @List.length_range
def ck(l:List cJ)(sz i:Nat):List cJ:=(l.drop (i*sz)).take sz
def lH(l:List cJ)(sz:Nat)(ks:br):aq:=ks.flatMap λi=>aW (E (dR (ck l sz i)))
def jm(l:List cJ)(sz:Nat)(ks:br):aq:=ks.flatMap λi=>dR (ck l sz i)
def gi(sz:Nat)(l:List cJ):aq:=(aW (E l)++lH l sz (List.range (iu sz (E l))))++jm l sz (List.range (iu sz (E l)))
theorem RV(l:List cJ)(sz i:Nat):E (ck l sz i)=xY sz (E l) i:=by simp[ck,xY]
theorem m8.le(h:m8 l):∀s∈l,E s<=25:=λs hs=>by
 obtain⟨i,hi,rfl⟩:=mF hs;have:=(h.1 i hi).2.1
 rwa [bz,fx hi]at this
theorem AE{s:cJ}(h:s∈ck l sz i):s∈l:=oG (ia h)
theorem ui(hl:E l<=64)(h:∀s∈l,E s<=25):E (dR l)<=3000:=by
 cases l with
 |nil=>simp[dR]
 |cons t r=>
  have h1:=sa t r (λs hs=>h s (by simp[hs]));have h2:=yD (s:=t) (by have:=h t ao;omega);have h3:=h t ao;have:E r*45<=64*45:=C3 _ (by simp at hl;omega);rw[dR,bm];omega
theorem vA{l:List cJ}{sz:Nat}(iy:sz<=64)(h:∀s∈l,E s<=25):∀ks:br,E (jm l sz ks)<=E ks*3000
 |[]=>by simp[jm]
 |k::ks=>by
  have h1:=vA iy h ks;have h2:=ui (l:=ck l sz k) (by rw[RV];unfold xY;omega) (λs hs=>h s (AE hs));simp only[jm,iX,bm,ei,jR]at h1⊢;omega
theorem rs{l:List cJ}{sz:Nat}(iy:sz<=64)(h:∀s∈l,E s<=25):∀ks:br,E (lH l sz ks)<=E ks*10
 |[]=>by simp[lH]
 |k::ks=>by
  have h1:=rs iy h ks;have h2:=ui (l:=ck l sz k) (by rw[RV];unfold xY;omega) (λs hs=>h s (AE hs));have h3:E (aW (E (dR (ck l sz k))))<=10:=aY aa;simp only[lH,iX,bm,ei,jR]at h1⊢;omega
theorem DT(l:List cJ)(sz:Nat)(ks:br)(k:Nat):jm l sz (ks++[k])=jm l sz ks++dR (ck l sz k):=by simp[jm]
theorem SI(l:List cJ)(sz:Nat)(ks:br)(k:Nat):lH l sz (ks++[k])=lH l sz ks++aW (E (dR (ck l sz k))):=by simp[lH]
theorem Ll{q:Ch}{e:TypeId}{xs:cQ}(h:q.isObj=true):q∈Ch.own e size A n c xs::L↔q∈L:=
 ⟨λhm=>(fq.1 hm).resolve_left λe=>(by rw[e]at h;cases h),λhm=>lj _ hm⟩
theorem Lj{q:Ch}{t:TypeId}{xs:cQ}(h:q.isObj=true):q∈Ch.bI g t xs::L↔q∈L:=
 ⟨λhm=>(fq.1 hm).resolve_left λe=>(by rw[e]at h;cases h),λhm=>lj _ hm⟩
theorem Yg{X:List cJ}(tO:X≠[])(hb:aJ B w0 F 1 (.slice A (E X) c) (E X) (strs X))(hl:E X<=64)(qn:∀s∈X,E s<=25):
  bg B w0 149 [.slice A (E X) c] F (λv L=>∃A' c',v= .slice A' (E (dR X)) c'/\L= .own 5 1 A' (E (dR X)) c' (bv (dR X))::F):=by
 cases X with
 |nil=>exact absurd rfl tO
 |cons t r=>exact ab5 hb (by simp at hl;omega) qn
theorem amC(hb:aJ B w0 F 1 (.slice A (E l) c) (E l) (strs l))(hi:i*sz<E l):aJ B w0 F 1 (.slice (A.map (·.add (i*sz))) (E (ck l sz i)) (E (ck l sz i))) (E (ck l sz i)) (strs (ck l sz i)):=λw hs=>by
 obtain⟨A',c',e,h1,h2,h3⟩:=hb w hs;obtain⟨rfl,_,rfl⟩:A=A'/\True/\c=c':=by injection e with a b d;exact⟨a,trivial,d⟩
 obtain⟨ad,rfl,h4,h5⟩:=h3 aa;refine⟨_,_,rfl,ga _,ao,λ_=>⟨_,rfl,apP,λj u hu=>?_⟩⟩;have hu':(strs l)[i*sz+j]? =some u:=by
  unfold ck strs at hu;unfold strs;rw[ib]at hu⊢;rw[KT]at hu;split at hu
  ·rw[k_6]at hu;exact hu
  ·cases hu
 have:=h5 _ _ hu';show w.cell? ((ad.add (i*sz)).add j)=some u;rw[lV];exact this
theorem Sc{size:Int}(hb:aJ B w0 F 1 (.slice A (E l) c) (E l) (strs l))(hl:E l<=1000000000000000)(hE:size<1\/64<size\/¬m8 l):
  bg B w0 87 [ah size,.slice A (E l) c] F (λr L=>∃A' c',r= .tuple #[.slice A' 0 c',ah 13]/\L= .own 5 1 A' 0 c' []::F):=by
 refine yG func87 44 rfl rfl rfl [(0,ah size),(1,.slice A (E l) c)] ⟨⟨rfl,rfl⟩,⟨rfl,rfl⟩,trivial⟩ ?_;refine ot ?_;refine fb ?_;refine kA ?_;refine ot ?_;refine bf 2 11 20 [0,1] (size<1\/64<size\/¬m8 l) ?_ ?_
 ·refine bk 3 (λjZ=>?_) (λjZ=>?_)
  ·refine bk 5 (λj0=>?_) (λj0=>?_)
   ·refine ew ?_;exact ai rfl (NA hb hl) (ax 3 (k:=b_2))
   ·exact ax 3 (k:=b_2)
  ·exact ax 7 (k:=b_2)
 ·refine ag 2 (λkp=>?_) λkp=>?_
  ·refine dg ?_;refine aoG rfl ?_;exact aH 5 1 none (bO 1)
  ·exfalso;exact kp hE
theorem YM(hb:aJ B w0 F 1 (.slice A (E l) c) (E l) (strs l))(hlc:E l<=c)(j8:1<=sz)(jj:sz<=64)(hR:m8 l):
  bg B w0 87 [ah sz,.slice A (E l) c] F (λr L=>∃A' c',r= .tuple #[.slice A' (E (gi sz l)) c',ah 0]/\L= .own 5 1 A' (E (gi sz l)) c' (bv (gi sz l))::F):=by
 have hlen:=hR.2;have qn:=hR.le;have hNl:iu sz (E l)<=1048639:=by
  unfold iu;exact iY (oE _ _) aa
 have Rh:E (aW (E l))<=10:=aY aa;refine yG func87 44 rfl rfl rfl [(0,ah sz),(1,.slice A (E l) c)] ⟨⟨rfl,rfl⟩,⟨rfl,rfl⟩,trivial⟩ ?_;refine ot ?_;refine fb ?_;refine kA ?_;refine ot ?_;refine bf 2 11 20 [0,1] ((sz:Int)<1\/64<(sz:Int)\/¬m8 l) ?_ ?_
 ·refine bk 3 (λjZ=>?_) (λjZ=>?_)
  ·refine bk 5 (λj0=>?_) (λj0=>?_)
   ·refine ew ?_;exact ai rfl (NA hb aa) (ax 3 (k:=b_2))
   ·exact ax 3 (k:=b_2)
  ·exact ax 7 (k:=b_2)
 ·refine ag 2 (λkp=>?_) λkp=>?_
  ·exfalso;rcases kp with h|h|h<;>first|omega|exact h hR
  ·refine aX ?_;refine kA ?_;refine ot ?_;refine fb ?_;refine ay rfl (ji (E l) aa) λGJ Ie=>fo λg6=>?_;refine ew ?_;refine kA ?_;refine ot ?_;refine aM 5 1 none (bW 1 λg7=>?_);refine aX ?_;refine kA ?_;refine L8 ?_;refine fc ?_;refine ay rfl (ahQ j8) λg2 g3=>aX ?_;refine kA ?_;refine Gn (N:=iu sz (E l)) aqs rfl rfl rfl (λi:Fin (iu sz (E l))=>GU A sz (E l) i.val) (λxs=>xs.map (·.val)=List.range (iu sz (E l))) (λ_=>True) [.bI g2 87 [.slice A (E l) c],.bI g3 3 [ah sz]]
    (λw hw=>Nf j8 aa aa hlc (λe=>apH) w (hw.all _ (lj _ rL)) (hw.all _ rL))
    (λ(_:List (Fin (iu sz (E l)))) (_:bh×Nat×bh×Nat)=>True) (λpre s=>.bI g3 3 [ah sz]:: .bI g2 87 [.slice A (E l) c]:: .bI g7 27 [.slice s.1 (E (jm l sz (pre.map (·.val)))) s.2.1]:: .own 5 1 s.1 (E (jm l sz (pre.map (·.val)))) s.2.1 (bv (jm l sz (pre.map (·.val)))):: .bI g6 27 [.slice s.2.2.1 (E (aW (E l)++lH l sz (pre.map (·.val)))) s.2.2.2]:: .own 5 1 s.2.2.1 (E (aW (E l)++lH l sz (pre.map (·.val)))) s.2.2.2 (bv (aW (E l)++lH l sz (pre.map (·.val))))::F)
    (λpre s q hq=>by simp only[Ll hq,Lj hq]) (λq hq=>by
     simp only[fq,kS,nL]at hq;rcases hq with rfl|rfl
     ·exact⟨rfl,λpre s=>lj _ rL⟩
     ·exact⟨rfl,λpre s=>rL⟩)
    (none,0,GJ,Ie) trivial (.cons (.cons (bx (by simp[jm]) (au (by simp[jm]) (by simp[jm]) (bx (by simp[lH]) (au (by simp[lH]) (by simp[lH]) (.refl _))))))) ?_ ?_
   ·rintro l' pre x ⟨A7,c7,A6,c6⟩ w1 _ kh adt F';have hxn:x.val*sz<E l:=(nZ j8).1 x.isLt;have hbx:=((amC hb hxn).later adt).mono (sJ F F');have hX:=RV l sz x.val;have hXE:xY sz (E l) x.val<=64:=by unfold xY;omega
    have hX1:1<=xY sz (E l) x.val:=by unfold xY;omega
    have hvX:GU A sz (E l) x.val= .slice (A.map (·.add (x.val*sz))) (E (ck l sz x.val)) (E (ck l sz x.val)):=by unfold GU;rw[hX]
    have hB1:=vA jj qn (pre.map (·.val));have hH1:=rs jj qn (pre.map (·.val));rw[eZ]at hB1 hH1;have ey:=ui (l:=ck l sz x.val) aa (λs hs=>qn s (AE hs));have hsB:=DT l sz (pre.map (·.val)) x.val;have hsH:=SI l sz (pre.map (·.val)) x.val;have hmp:(pre++[x]).map (·.val)=pre.map (·.val)++[x.val]:=by simp
    simp only[nM,hvX,hmp,hsB,hsH];have auW:ck l sz x.val≠[]:=λe=>by rw[e]at hX;simp at hX;omega
    have aui:∀s∈ck l sz x.val,E s<=25:=λs hs=>qn s (AE hs);generalize ck l sz x.val=X at*;generalize A.map (·.add (x.val*sz))=A8 at*;generalize jm l sz (pre.map (·.val))=bd at*;generalize lH l sz (pre.map (·.val))=hd at*;have IY:E (aW (E l)++hd)=E (aW (E l))+E hd:=bm;have hbn:E (aW (E (dR X)))<=10:=aY aa;refine Gs ?_;refine L_ ?_;refine nx ae ?_;refine aX ?_;refine ay rfl (Yg auW aA aa aui) λRp c30=>ew ?_;refine nq ?_;refine L_ ?_;refine akD (S:=F++F') ae ae gI ?_;refine aF 1 3 ?_;refine iv 0 4 ?_ ?_
    ·refine aX ?_;refine aC 4 (cj rfl rfl (ji (E (dR X)) aa) λDe c35=>aC 5 (fh rfl (bB bP rfl aU rfl aA bY aa aa) λA36 c36=>?_));refine aC 6 (aX ?_);refine di [7,9] ?_;refine nq ?_;refine nx ae ?_;refine ew ?_;refine dB (bB bP rfl aU rfl aA bY aa aa) λMG RR=>ew ?_;refine nq ?_;exact⟨(MG,RR,A36,c36),trivial,.s2 (.cons (.cons (bx ao (au ao ao (bx (by simp[OJ]) (au (by simp[OJ]) ao (.refl _)))))))⟩
    ·refine cj rfl rfl (ji (E (dR X)) aa) λDe c35=>aC 0 (aX ?_);refine aC 5 (fh rfl (bB bP rfl aU rfl aA bY aa aa) λA36 c36=>?_);refine aC 6 (aX ?_);refine di [7,9] ?_;refine nq ?_;refine nx ae ?_;refine ew ?_;refine dB (bB bP rfl aU rfl aA bY aa aa) λMG RR=>ew ?_;refine nq ?_;exact⟨(MG,RR,A36,c36),trivial,.s2 (.cons (.cons (bx ao (au ao ao (bx (by simp[OJ]) (au (by simp[OJ]) ao (.refl _)))))))⟩
   ·rintro D xs ⟨A7,c7,A6,c6⟩ hS _;have hB1:=vA jj qn (xs.map (·.val));have hH1:=rs jj qn (xs.map (·.val));rw[hS]at hB1 hH1;rw[EX]at hB1 hH1;simp only[hS];have hBl:E (gi sz l)<=10000000000:=by
     have:=C3 3000 hNl;have:=C3 10 hNl;unfold gi;rw[bm,bm];omega
    refine agT ?_;refine ew ?_;refine cv (aG fO [_,_] rfl rfl bY aa aa) λA42=>ay rfl (yc (l:=gi sz l) (P:=[(.slice A6 (E (aW (E l)++lH l sz (List.range (iu sz (E l))))) c6,aW (E l)++lH l sz (List.range (iu sz (E l)))),(.slice A7 (E (jm l sz (List.range (iu sz (E l))))) c7,jm l sz (List.range (iu sz (E l))))]) aA apI rfl (by simp[eH.all,gi]) aa ao) λUU c43=>fc ?_;refine nq ?_;refine agS rfl ((z_ (gh (gh (.refl _))))) ?_;exact ak (L':=.own 5 1 UU (E (gi sz l)) c43 (bv (gi sz l))::F) (.cons (.s7 (.refl _))) (bO 1)
section
section
variable{C:Cx}{fr:Fr}{L:aN}{f:Ch->aN}{x:Operand}{t ty e:TypeId}{A:bh}{n c:Nat}{xs:cQ}
theorem Kt(ht:C.P.underlying t=some (.slice e))(hu:C.P.underlying e=some (.int .u8))(he:ev fr x=some (.slice A n c))(hm:m9 (.own e 1 A n c xs) L f)(hc:1<=n):
  ra C fr L (.convert t t x) ty (λv L'=>∃g cur k,v= .slice A n c/\A=some ⟨g,0,none⟩/\n<=c/\cur.toList.take n=xs/\E xs=n/\L'=f (.obj g (.cells cur e k))):=λa w ha hw d pos af gg=>by
 obtain⟨h1,h2,h3⟩:=hw.all _ hm.mem;obtain⟨g,cur,rfl,k1,k2,k3,k4,k5⟩:=h3.resolve_left aa;have hsh:w.shape? g=some (e,cur.size):=by unfold World.shape?;rw[k2]
 have gU:g<w.heap.size:=(Hh.1 k2).1;have tP:(convert t t (.slice (some ⟨g,0,none⟩) n c)).run C.P w= .ok (.slice (some ⟨g,0,none⟩) n c) (w.freeze ⟨g,cur.size,none⟩ 1):=by
  simp[convert,jk ht,jk hu,markStringish,hsh]
 have EB:(w.freeze ⟨g,cur.size,none⟩ 1).heap[g]? =some (.cells cur e (cur.size,cur.size+1)):=by
  unfold World.freeze;rw[aB aE];show(w.heap.modify g _)[g]? =_;rw[Array.getElem?_modify,av rfl,k2];rfl
 have Zg:w.grownBy (w.freeze ⟨g,cur.size,none⟩ 1) (some g):=by
  unfold World.freeze;rw[aB aE];refine⟨rfl,rfl,rfl,ao,λk hk tO=>?_⟩;show(w.heap.modify g _)[k]? =_;rw[Array.getElem?_modify,aB (λe=>tO B9)]
 have Re:(Ch.own e 1 (some ⟨g,0,none⟩) n c xs).fp=some g:=by simp[Ch.fp,show¬c=0 by omega]
 refine⟨_,w.freeze ⟨g,cur.size,none⟩ 1,_,.inl ?_,⟨g,cur,(cur.size,cur.size+1),rfl,rfl,h2,by rw[cH]at k5;exact k5,aa,rfl⟩,hw.Xx hm (by rw[Re];exact Zg) (λ_=>⟨k1,EB⟩) (.inr (.inl Re.symm))⟩;simp[execOp,ha.tmp he,tP]
theorem aJ.obj{B:Nat}{w0:World}{g:Nat}{cur:Array Value}{k:Nat×Nat}(h:Ch.obj g (.cells cur e k)∈L)(h2:n<=c)(hx:cur.toList.take n=xs)(hl:E xs=n):aJ B w0 L 1 (.slice (some ⟨g,0,none⟩) n c) n xs:=λw hs=>by
 have hh:=(hs.all _ h).2;refine⟨_,_,rfl,h2,aa,λ_=>⟨_,rfl,(Hh.1 hh).1,λj u hu=>?_⟩⟩;rw[C1,mH,cell_of_row w g j cur e k hh];rw[<-hx,KT]at hu;split at hu
 ·simpa using hu
 ·cases hu
end
end
def grT(l:List cJ):Prop:=300<E l\/∃i,i<E l/\60<E (l.getD i [])
instance (l:List cJ):Decidable (grT l):=inferInstanceAs (Decidable (_\/_))
theorem apJ(h:P:=by(first|(exact⟨λh=>absurd h (by omega),False.elim⟩)|omega|(simp at h7;done))):P:=h
abbrev Wr(g:Nat)(bt:TypeId)(A:bh)(c:Nat)(q:List Bool)(F:aN):aN:=.bI g bt [.slice A (E (packed q)) c,ah (E q)]:: .own 5 1 A (E (packed q)) c (bv (packed q))::F
theorem asG(q:List Bool)(v:Nat)(hv:v<18446744073709551616)(n:Nat)(hn:n<=64)(hp:v<2^n)(hq:E q<=7000000):
  bg B w0 153 [bq g,.int .u64 v,ah n] (Wr g bt A c q F)
   (λr L=>r=ah 0/\∃A' c',L=Wr g bt A' c' (q++hi v n n) F):=by
 refine fw func153 42 [0,1,2] ?_;refine bf 8 20 27 [0,1,2] (False) ?_ ?_
 ·refine bk 9 (λgT=>?_) (λgT=>?_)
  ·refine bk 5 (λjq=>?_) (λjq=>?_)
   ·refine bC 5 (λmQ=>?_) λmQ=>?_
    ·refine fb ?_;exact ab (dH rfl rfl aa (FW v (e:=n) rfl aa)) rfl (ax 5 (k:=apC))
    ·exact ax 6 (k:=oy)
   ·exact ax 8 (k:=ahs)
  ·exact ax 12 (k:=ahs)
 ·refine bZ 2 λkq=>?_;refine fF ?_;refine aw (λzf zL zm=>∃(m:Nat) (A':bh) (c':Nat),(m<=n)/\n-m=zm/\Sub zf [(0,bq g),(1,.int .u64 v),(7,ah ((n:Int)-m-1))]/\Wk zL (Wr g bt A' c' (q++hi v n m) F)) _ ⟨0,A,c,bD _,rfl,a_,bx ye (au ye ye (.refl _))⟩ ?_;rintro _ _ _ ⟨m,A',c',hm,rfl,hs,hp⟩;refine aL hs hp ?_;clear hs hp;have qc:E (q++hi v n m)=E q+m:=by rw[bm,dK]
  refine ag 7 (λAU=>?_) λAU=>?_
  ·refine cN 4 F ?_;refine aF 0 5 ?_;refine aS 5 rfl (dH rfl rfl aa (FW v (e:=n-1-m) aa aa)) (aS 6 rfl (kj rfl rfl (XA v _ hv)) (aC 7 (gS rfl .no VA rfl (abB (q++hi v n m) (v.testBit (n-1-m)) aa) rfl ap6 ?_)));rintro _ _ ⟨rfl,Mk,c41,cR⟩;obtain rfl:=cR.symm;refine cY ?_;refine aj ⟨_,aa,m+1,Mk,c41,aa,rfl,a_,bx B6 (au B6 B6 (.refl _))⟩
  ·refine dM ?_;have hm':m=n:=by omega
   subst hm';exact⟨rfl,A',c',rfl⟩
theorem akx(q:List Bool)(n:Nat)(hn:n<=100000)(hq:E q<=7000000):
  bg B w0 154 [bq g,ah n] (Wr g bt A c q F)
   (λr L=>r=ah 0/\∃A' c',L=Wr g bt A' c' (q++un n) F):=by
 refine fw func154 27 [0,1] ?_;refine bf 8 10 14 [0,1] (False) ?_ ?_
 ·refine bk 9 (λoA=>?_) (λoA=>?_)
  ·exact ax 4 (k:=(by exact dG apJ))
  ·exact ax 2 (k:=(by exact dT apJ))
 ·refine bZ 2 λgT=>?_;refine dh ?_;refine aw (λzf zL zm=>∃(m:Nat) (A':bh) (c':Nat),(m<=n)/\n-m=zm/\Sub zf [(0,bq g),(15,ah n),(16,ah m)]/\Wk zL (Wr g bt A' c' (q++List.replicate m false) F)) _ ⟨0,A,c,bD _,rfl,a_,bx (by rw[OV,gN]) (au (by rw[OV,gN]) (by rw[OV,gN]) (.refl _))⟩ ?_;rintro _ _ _ ⟨m,A',c',hm,rfl,hs,hp⟩;refine aL hs hp ?_;have qc:E (q++List.replicate m false)=E q+m:=by rw[bm,wT]
  refine ag 6 (λgH=>?_) λgH=>?_
  ·refine cY ?_;refine bp VA rfl (abB (q++List.replicate m false) false aa) rfl ?_;rintro _ _ ⟨rfl,A21,c21,cR⟩;obtain rfl:=cR.symm;refine dg ?_;refine aj ⟨_,aa,m+1,A21,c21,aa,rfl,a_,bx (by rw[FL,bT]) (au (by rw[FL,bT]) (by rw[FL,bT]) (.refl _))⟩
  ·refine dh ?_;refine bp VA rfl (abB (q++List.replicate m false) true aa) rfl ?_;rintro _ _ ⟨rfl,sp,zV,cR⟩;obtain rfl:=cR.symm;refine dA ?_;have hm':m=n:=by omega
   subst hm';exact⟨rfl,sp,zV,by rw[bT];rfl⟩
theorem ahK(q:List Bool)(hq:E q<=8000000):bg B w0 155 [bq g] (Wr g bt A c q F) (λr L=>∃A' c',r= .slice A' (E (packed q)) c'/\L= .own 5 1 A' (E (packed q)) c' (bv (packed q))::Wr g bt A c q F):=by
 have kh:=dz q;refine ba func155 11 [0] 22 ?_;refine ay rfl (mu (packed q) aA aa) λz' RQ=>?_;exact bO 5
theorem jG:type_of% @Nat.mul_le_mul:= @Nat.mul_le_mul
def oq(l:br):cQ:=l.map λ(n:Nat)=>Value.int .u16 (n:Int)
@[simp] theorem al7(l k:br):oq (l++k)=oq l++oq k:=by simp[oq]
@[simp] theorem al8(l:br):E (oq l)=E l:=by simp[oq]
theorem agC{l:br}{k:Nat}(h:k<E l):(oq l)[k*1]? =some (.int .u16 (l.getD k 0:Nat)):=by
 simp[oq,List.getD,fx h]
def PY(bound:Int)(ids:List Int)(i:Nat):Prop:=0<=ids.getD i 0/\ids.getD i 0<bound/\(0<i->ids.getD (i-1) 0<ids.getD i 0)
def HH(bound:Int)(ids:List Int):Prop:=∀i,i<E ids->PY bound ids i
instance (bound:Int)(ids:List Int)(i:Nat):Decidable (PY bound ids i):=inferInstanceAs (Decidable (_/\_/\_))
instance (bound:Int)(ids:List Int):Decidable (HH bound ids):=inferInstanceAs (Decidable (∀i,i<E ids->_))
def me(bound:Nat)(xs:br):Prop:=∀i,i<E xs->xs.getD i 0<bound/\(0<i->xs.getD (i-1) 0<xs.getD i 0)
theorem HH.aey(h:HH bound ids):∃xs:br,ids=xs.map (λ(n:Nat)=>(n:Int)):=by
 refine⟨ids.map Int.toNat,?_⟩;apply oQ
 ·simp
 ·intro i h1 h2;have:=(h i h1).1;rw[bz,fx h1]at this;simp at this⊢;omega
theorem Yk(xs:br)(i:Nat):(xs.map (λ(n:Nat)=>(n:Int))).getD i 0=((xs.getD i 0:Nat):Int):=by
 simp only[bz,ib];cases xs[i]? <;>rfl
theorem sT(bound:Nat)(xs:br):HH bound (xs.map (λ(n:Nat)=>(n:Int)))↔me bound xs:=by
 unfold HH me PY;simp only[Yk,eZ];exact⟨λh i hi=>by have:=h i hi;omega,λh i hi=>by have:=h i hi;omega⟩
theorem OH(xs:br):ints .i64 (xs.map (λ(n:Nat)=>(n:Int)))=bN xs:=by simp[ints,bN]
theorem me.ge{bound:Nat}{xs:br}(h:me bound xs):∀i,i<E xs->i<=xs.getD i 0
 |0,_=>bD _
 |i+1,hi=>by
  have h1:=me.ge h i aa;have h2:=(h (i+1) hi).2 aa;rw[y7]at h2;omega
theorem me.len{bound:Nat}{xs:br}(h:me bound xs):E xs<=bound:=by
 rcases Be (E xs) with h0|h0
 ·omega
 ·have h1:=h.ge (E xs-1) aa;have h2:=(h (E xs-1) aa).1;omega
def wid(bound n:Nat):Nat:=Nat.log2 (bound/n)
theorem xV{bound:Nat}(h:bound<=20000):wid bound n<=14:=by
 unfold wid;by_cases h0:bound/n=0
 ·rw[h0];decide
 ·have:bound/n<2^15:=by have:=oE bound n;omega
  have:=(Nat.log2_lt h0).2 this;omega
theorem u6{w:Nat}(h:w<=14):2^w<=16384:=gz aa h
def BS(p was:Nat):br->List Bool
 |[]=>[]
 |x::xs=>un (x/p-was)++BS p (x/p) xs
def CB(p w:Nat)(xs:br):List Bool:=xs.flatMap λx=>hi (x%p) w w
def Mr(p w:Nat)(xs:br):List Bool:=CB p w xs++BS p 0 xs
def si(bound:Nat)(xs:br):aq:=aW (E xs)++(if E xs=0 then [] else packed (Mr (2^wid bound (E xs)) (wid bound (E xs)) xs))
def Q7(bound:Int)(ids:List Int):aq×Int:=if bound<0\/20000<bound\/¬HH bound ids then ([],13) else (si bound.toNat (ids.map Int.toNat),0)
theorem Kp(h:bound<0\/20000<bound\/¬HH bound ids):Q7 bound ids=([],13):=av h
theorem Kq{bound:Nat}{xs:br}(h:¬((bound:Int)<0\/(20000:Int)<bound\/¬HH bound (xs.map (λ(n:Nat)=>(n:Int))))):Q7 bound (xs.map (λ(n:Nat)=>(n:Int)))=(si bound xs,0):=by
 have e:(xs.map (λ(n:Nat)=>(n:Int))).map Int.toNat=xs:=by simp[Function.comp_def]
 unfold Q7;rw[aB h,lJ,e]
theorem aei(p w:Nat)(xs:br)(x:Nat):CB p w (xs++[x])=CB p w xs++hi (x%p) w w:=by simp[CB]
theorem nk(p w:Nat)(xs:br):E (CB p w xs)=E xs*w:=by
 induction xs with
 |nil=>simp[CB]
 |cons x xs ih=>simp only[CB,iX,bm,dK,ei,jR]at ih⊢;omega
def pM(p was:Nat)(xs:br):Nat:=xs.foldl (λ_ x=>x/p) was
theorem Tm(p was:Nat)(xs:br)(x:Nat):pM p was (xs++[x])=x/p:=by simp[pM]
theorem Gk(p:Nat)(x:Nat):∀(xs:br) (was:Nat),BS p was (xs++[x])=BS p was xs++un (x/p-pM p was xs)
 |[],was=>by simp[BS,pM]
 |y::xs,was=>by
  rw[nM,BS,BS,Gk p x xs (y/p),bT];rfl
theorem pN{xs:br}{k:Nat}(h:k<E xs):pM p 0 (xs.take (k+1))=xs.getD k 0/p:=by
 rw[aP h 0,Tm]
theorem O'{bound:Nat}{xs:br}(h:me bound xs){k:Nat}(hk:k<E xs):pM p 0 (xs.take k)<=xs.getD k 0/p:=by
 rcases k with _|k
 ·simp[pM]
 ·rw[pN aa];have:=(h (k+1) hk).2 aa;rw[y7]at this;exact Nat.div_le_div_right (Nat.le_of_lt this)
theorem ta{bound p:Nat}{xs:br}(h:me bound xs):∀k,k<=E xs->E (BS p 0 (xs.take k))=k+pM p 0 (xs.take k)
 |0,_=>by simp[BS,pM]
 |k+1,hk=>by
  have h1:=ta h (p:=p) k aa;have h2:=O' (p:=p) h (k:=k) aa;rw[pN aa,aP aa 0,Gk,bm,pk,h1];omega
theorem O_{bound:Nat}{xs:br}(h:me bound xs)(k:Nat)(hk:k<=E xs):pM p 0 (xs.take k)<=bound:=by
 rcases k with _|k
 ·simp[pM]
 ·rw[pN aa];have:=(h k aa).1;have:=oE (xs.getD k 0) p;omega
theorem V0{bound w:Nat}{xs:br}(h:me bound xs)(hb:bound<=20000)(hw:w<=14):E (Mr p w xs)<=400000:=by
 have h1:=nk p w xs;have h2:=ta (p:=p) h (E xs) (ga _);have h3:=O_ (p:=p) h (E xs) (ga _);have h4:=h.len;rw[js]at h2 h3;have h5:E xs*w<=20000*14:=jG aa hw;unfold Mr;rw[bm];omega
theorem Vj(h:P:=by(rw[hm];simp)):P:=h
theorem apQ(h:P:=by(first|(exact⟨λh=>absurd h (by omega),False.elim⟩)|omega)):P:=h
abbrev Wf(g:Nat)(bt:TypeId)(A:bh)(c:Nat)(q:List Bool)(F:aN):aN:=.bI g bt [.slice A (E q) c]:: .own 5 1 A (E q) c (bv (ref q))::F
theorem amc{q q':List Bool}{b:Bool}{A':bh}{c':Nat}{xs:cQ}(hm:m=E q+1)(hx:xs=bv (ref q)++[.int .u8 b.toNat])(hq:q'=q++[b]):Wk (.bI g bt [.slice A' m c']:: .own 5 1 A' m c' xs::F) (Wf g bt A' c' q' F):=by
 subst hx;subst hq;exact bx Vj (au Vj (by rw[Lt,Ka,Lu]) (.refl _))
theorem FP(q:List Bool)(v:Nat)(hv:v<18446744073709551616)(n:Nat)(hn:n<=64)(hp:v<2^n)(hq:E q<=7000000):
  bg B w0 139 [bq g,.int .u64 v,ah n] (Wf g bt A c q F)
   (λr L=>r=ah 0/\∃A' c',L=Wf g bt A' c' (q++hi v n n) F):=by
 refine fw func139 50 [0,1,2] ?_;refine bf 8 6 15 [0,1,2] (False) ?_ ?_
 ·refine bk 3 (λjZ=>?_) (λjZ=>?_)
  ·exact ax 4 (k:=(by exact dG apQ))
  ·exact ax 2 (k:=(by exact dT apQ))
 ·refine bZ 2 λmj=>?_;refine dA ?_;refine aM 5 1 none (dx ?_);refine aw (λzf zL zm=>∃(m:Nat) (A7:bh) (c7:Nat),(m<=n)/\n-m=zm/\Sub zf [(0,bq g),(1,.int .u64 (v/2^m:Nat)),(2,ah n),(7,.slice A7 m c7),(8,ah m)]/\Wk zL (.own 5 1 A7 m c7 (bv (ref (lo v m)))::Wf g bt A c q F)) _ ⟨0,none,0,bD _,rfl,a_,au rfl rfl (.refl _)⟩ ?_;rintro _ _ _ ⟨m,A7,c7,hm,rfl,hs,hp⟩;refine aL hs hp ?_;clear hs hp;refine ag 8 (λjq=>?_) λjq=>?_
  ·refine cY ?_;refine ab (kl rfl rfl aa (al6 _)) rfl (ab (be underlying60 underlying5 rfl (anJ v m)) rfl (cC bP rfl rfl rfl rfl rfl (λ_=>rfl) aU aa aa ?_));intro _ sp zV;refine dx ?_;refine ab (iq rfl rfl aa (adm m hv)) rfl (dA ?_);refine aj ⟨_,aa,m+1,sp,zV,aa,rfl,a_,au rfl (by rw[ai3,Lt,Ka,Lu]) (.refl _)⟩
  ·refine ag 12 (λwv=>?_) λwv=>?_
   ·exfalso;exact wv (by rw[show m=n by omega,yY hp];rfl)
   ·refine fF ?_;have hmn:n=m:=by omega
    subst hmn;refine aw (λzf zL zm=>∃(m2:Nat) (A':bh) (c':Nat),(m2<=n)/\n-m2=zm/\Sub zf [(0,bq g),(7,.slice A7 n c7),(9,ah ((n:Int)-m2-1))]/\Wk zL (.own 5 1 A7 n c7 (bv (ref (lo v n)))::Wf g bt A' c' (q++hi v n m2) F)) _ ⟨0,A,c,bD _,rfl,a_,au rfl rfl (bx ye (au ye ye (.refl _)))⟩ ?_;rintro _ _ _ ⟨m2,A',c',oh,rfl,hs,hp⟩;refine aL hs hp ?_;clear hs hp;have qc:E (q++hi v n m2)=E q+m2:=by rw[bm,dK]
    have KL:=sS (lo v n);have SR:=ZQ v n;refine ag 7 (λCe=>?_) λCe=>?_
    ·refine cN 4 (.own 5 1 A7 n c7 (bv (ref (lo v n)))::F) ?_;refine aF 0 4 ?_;refine aF 5 2 ?_;refine aS 7 rfl (az (i:=n-1-m2) underlying27 ae rfl rfl aa aa aA) ?_;refine dI 8 ?_;rw[Du _ aa,gQ,anK v aa];refine iv 4 9 ?_ ?_
     ·refine aX ?_;refine aC 9 (cF rfl (aG bP [_] rfl rfl bY aa aa) λA46=>aC 10 (fh rfl (bB bP rfl aU rfl aA bY aa aa) λDf Dj=>?_));refine aF 11 2 ?_;refine aC 13 (aD 8 [0,7,9] 0 ?_);refine aj ⟨_,aa,m2+1,Df,Dj,aa,rfl,a_,.skip (au rfl rfl (amc (q:=q++hi v n m2) (q':=q++hi v n (m2+1)) (b:=v.testBit (n-1-m2)) rfl rfl B6))⟩
     ·refine cF rfl (aG bP [_] rfl rfl bY aa aa) λA46=>aC 4 (aX ?_);refine aC 10 (fh rfl (bB bP rfl aU rfl aA bY aa aa) λDf Dj=>?_);refine aF 11 2 ?_;refine aC 13 (aD 8 [0,7,9] 0 ?_);refine aj ⟨_,aa,m2+1,Df,Dj,aa,rfl,a_,.skip (au rfl rfl (amc (q:=q++hi v n m2) (q':=q++hi v n (m2+1)) (b:=v.testBit (n-1-m2)) rfl rfl B6))⟩
    ·refine fF ?_;refine ak (.skip (.refl _)) (aX ?_);have hm':m2=n:=by omega
     subst hm';exact⟨rfl,A',c',rfl⟩
theorem afa(q:List Bool)(hq:E q<=7000000):bg B w0 140 [bq g] (Wf g bt A c q F) (λr L=>∃A' c',r= .slice A' (E (packed q)) c'/\L= .own 5 1 A' (E (packed q)) c' (bv (packed q))::Wf g bt A c q F):=by
 refine ba func140 48 [0] 12 ?_;refine aM 5 1 none (dx ?_);refine aw (λzf zL zm=>∃(k:Nat) (A3:bh) (c3:Nat),(8*k<=E q+7)/\E q+7-8*k=zm/\Sub zf [(0,bq g),(3,.slice A3 k c3),(4,ah (8*k:Nat))]/\Wk zL (.own 5 1 A3 k c3 (bv (octets q k))::Wf g bt A c q F)) _ ⟨0,none,0,aa,rfl,a_,au rfl rfl (.refl _)⟩ ?_;rintro _ _ _ ⟨k,A3,c3,hk,rfl,hs,hp⟩;refine aL hs hp (ag 12 (λnj=>?_) λnj=>?_)
 ·refine bK 17 ?_;refine aw (λzf zL zm=>∃(j:Nat),(j<=8)/\8-j=zm/\Sub zf [(0,bq g),(3,.slice A3 k c3),(4,ah (8*k:Nat)),(5,ah (part q (8*k) j)),(6,ah (8*k+j:Nat))]/\Wk zL (.own 5 1 A3 k c3 (bv (octets q k))::Wf g bt A c q F)) _ ⟨0,aa,rfl,a_,.refl _⟩ ?_;rintro _ _ _ ⟨j,hj,rfl,hs,hp⟩;refine aL hs hp ?_;have hpt:=lT q (8*k) j;have hpu:2^j<=2^8:=gz aa hj;have Oz:part q (8*k) (j+1)=2*part q (8*k) j+gQ q (8*k+j):=rfl;have SC:=mn q (8*k+j);have KL:=sS q;refine ag 9 (λkp=>?_) λkp=>?_
  ·refine ag 22 (λAU=>?_) λAU=>?_
   ·refine dg ?_;refine ab (az (i:=8*k+j) underlying27 ae rfl rfl rfl aa aA) rfl (aX ?_);rw[Du _ aa];refine aD 3 [0,3,4,5,6] 7 ?_;refine aj ⟨_,aa,j+1,aa,rfl,a_,.refl _⟩
   ·have h0:=rf q (i:=8*k+j) aa;refine aD 7 [0,3,4,5,6] 0 ?_;refine aj ⟨_,aa,j+1,aa,rfl,a_,.refl _⟩
  ·refine cY ?_;refine ab (be underlying3 underlying5 rfl (TL q k (show j=8 by omega))) rfl (cC bP rfl rfl rfl rfl rfl (λ_=>rfl) aU aa aa ?_);intro _ A46 c46;refine dA ?_;refine aj ⟨_,aa,k+1,A46,c46,aa,rfl,a_,au rfl (by rw[qy,Ka];rfl) (.refl _)⟩
 ·refine dM ?_;refine ak (L':=.own 5 1 A3 (E (packed q)) c3 (bv (packed q))::Wf g bt A c q F) (au (by rw[dz];omega) (by rw[packed,show(E q+7)/8=k by omega]) (.refl _)) (aX ?_);have e:k=E (packed q):=by rw[dz];omega
  exact⟨A3,c3,by rw[<-e],rfl⟩
theorem OY:type_of% @Nat.one_le_two_pow:= @Nat.one_le_two_pow
theorem tC:type_of% @Nat.one_mul:= @Nat.one_mul
def Mn(x:Nat):Nat:=if x=0 then 0 else Nat.log2 x+1
def K4:aq:=(List.range 256).map λi=>UInt8.ofNat (Mn i)
theorem akc(y:Nat)(h:y<256):(K4.getD y 0).toNat=Mn y:=by
 have:∀i:Fin 256,(K4.getD i.val 0).toNat=Mn i.val:=by decide+kernel
 exact this ⟨y,h⟩
theorem ahA{x:Nat}(h:256<=x):Mn x=8+Mn (x/256):=by
 unfold Mn;rw[aB aa,aB aa];have h0:x/256≠0:=by omega
 have e:Nat.log2 x=8+Nat.log2 (x/256):=by
  apply Nat.le_antisymm
  ·have h1:=Nat.lt_log2_self (n:=x/256);have h2:x<2^(8+Nat.log2 (x/256)+1):=by
    rw[show 8+Nat.log2 (x/256)+1=8+(Nat.log2 (x/256)+1) by omega,Nat.pow_add];omega
   have:=(Nat.log2_lt aa).2 h2;omega
  ·refine(Nat.le_log2 aa).2 ?_;have:=Nat.log2_self_le h0;rw[Nat.pow_add];omega
 omega
theorem Kg{C:Cx}{fr:Fr}{x y:Operand}{t ty:TypeId}{k:IntKind}{m:Int}{s s':aq}(ht:C.P.underlying t=some .string)(h:ev fr x=some (.string ⟨s.toArray⟩))(hs:s=s')(h2:ev fr y=some (.int k m))(hm:m=(i:Int))(hi:i<E s'):gX C fr L (.index t x y) ty (.int .u8 ((s'.getD i 0).toNat:Int)):=by
 subst hs;exact sB ht h h2 hm hi
theorem avQ(y:Nat):(y:Int).fdiv (2^min (8:Int).toNat IntKind.u64.bits)=((y/256:Nat):Int):=by
 have e:min (8:Int).toNat IntKind.u64.bits=8:=by decide
 rw[e,wS _ aE];rfl
theorem aiX(x:Nat)(hx:x<65536):bg B w0 253 [.int .u64 x] F (λr L=>r=ah (Mn x)/\L=F):=by
 refine fw func253 25 [0] ?_;refine bZ 12 λh4=>?_;refine bZ 9 λh8=>?_;refine ew ?_;refine dq (λzf zL=>∃(y m:Nat),(y<256/\m<=8/\Mn x=m+Mn y)/\Sub zf [(0,.int .u64 y),(2,ah m)]/\Wk zL (F)) ?_ ?_
 ·refine ag 6 (λgT=>?_) λgT=>?_
  ·refine fc ?_;refine ab (dH rfl rfl aa (avQ x)) rfl (cY ?_);exact bo ⟨x/256,8,⟨aa,aa,ahA aa⟩,a_,.refl _⟩
  ·refine aX ?_;exact bo ⟨x,0,⟨aa,aa,aa⟩,a_,.refl _⟩
 ·rintro _ _ ⟨y,m,⟨hy,hm,ey⟩,hs,hp⟩;refine aL hs hp (dx ?_);refine ab (Kg (s':=K4) underlying9 rfl po rfl rfl (by simp[K4];omega)) rfl ?_;rw[akc y hy];have hb9:Mn y<=8:=by
   have:∀i:Fin 256,Mn i.val<=8:=by decide+kernel
   exact this ⟨y,hy⟩
  refine dg ?_;exact⟨eG (λ(z:Int)=>Value.int .i64 z) aa,rfl⟩
theorem alD(x:Nat)(hx:x<65536):bg B w0 211 [.int .u64 x] F (λr L=>r=ah (Mn x)/\L=F):=by
 refine ba func211 8 [0] 12 ?_;exact ai rfl (aiX x hx) (cm 5)
theorem Ma(b m:Nat)(hb:b<=20000)(hm:1<=m)(hmb:m<=b):bg B w0 151 [ah b,ah m] F (λr L=>r=ah (wid b m)/\L=F):=by
 have hq:b/m<=20000:=iY (oE _ _) hb;have Mx:1<=b/m:=(ON aa).2 aa;have hw:(wid b m:Int)=(Mn (b/m):Int)-1:=by unfold wid Mn;rw[aB aa];omega
 have hqq:IntKind.i64.wrap ((b:Int).tdiv (m:Int))=((b/m:Nat):Int):=by
  have e:(b:Int).tdiv (m:Int)=((b/m:Nat):Int):=(Int.ofNat_tdiv b m).symm;rw[e];generalize b/m=x at hq;exact wrap_i64 _ aa aa
 generalize hz:b/m=q at*;refine ba func151 11 [0,1] 9 ?_;refine ab (iq rfl rfl aa hqq) rfl (aX ?_);refine ai rfl (alD q aa) ?_;have ey:Mn q<=17:=by
  unfold Mn;split
  ·omega
  ·have:=(Nat.log2_lt (n:=q) (k:=16) aa).2 aa;omega
 refine dw ?_;exact⟨by rw[hw],rfl⟩
theorem afl{k:Nat}{was:Int}(hw:was=if k=0 then-1 else ids.getD (k-1) 0)(hp:∀i,i<k->PY bound ids i):PY bound ids k↔was<ids.getD k 0/\ids.getD k 0<bound:=by
 by_cases h0:k=0
 ·subst h0;rw[av rfl]at hw;subst hw;unfold PY;exact⟨λh=>⟨aa,h.2.1⟩,λh=>⟨aa,h.2,λh=>absurd h aa⟩⟩
 ·rw[aB h0]at hw;subst hw;have:=(hp (k-1) aa).1;unfold PY;exact⟨λh=>⟨h.2.2 aa,h.2.1⟩,λh=>⟨aa,h.2,λ_=>h.1⟩⟩
theorem Xo(bound:Int)(ids:List Int)(hb:aJ B w0 F 1 (.slice A (E ids) c) (E ids) (ints .i64 ids))(hl:E ids<=9000000000000000000):
  bg B w0 150 [ah bound,.slice A (E ids) c] F (λr L=>r= .bool (decide (HH bound ids))/\L=F):=by
 refine ba func150 24 [0,1] 19 ?_;refine aw (λzf zL zm=>∃(k:Nat) (was:Int),(k<=E ids/\was=(if k=0 then-1 else ids.getD (k-1) 0)/\∀i,i<k->PY bound ids i)/\E ids-k=zm/\Sub zf [(0,ah bound),(5,ah was),(8,.slice A (E ids) c),(9,ah (E ids)),(10,ah k)]/\Wk zL (F)) _ ⟨0,-1,⟨bD _,rfl,λi h=>absurd h aa⟩,rfl,a_,.refl _⟩ ?_;rintro _ _ _ ⟨k,was,⟨hk,anx,pF⟩,rfl,hs,hp⟩;refine aL hs hp ?_;have hcw:=afl anx pF;refine ag 6 (λoA=>?_) λoA=>?_
 ·refine bf 14 8 21 [0,7,8,9,10] (ids.getD k 0<=was\/bound<=ids.getD k 0) ?_ ?_
  ·refine bk 4 (λgH=>?_) (λgH=>?_)
   ·exact ax 6 (k:=Vl)
   ·exact ax 3 (k:=Vl)
  ·refine ag 2 (λmQ=>?_) λmQ=>?_
   ·refine bK 13 ?_;exact⟨by rw[oi (λh=>by have:=hcw.1 (h k aa);omega)],rfl⟩
   ·refine dM ?_;refine aj ⟨_,aa,k+1,ids.getD k 0,⟨aa,by rw[aB aa,y7],λi h=>by rcases OU.1 h with h|h;exact pF i h;subst h;exact hcw.2 aa⟩,rfl,a_,.refl _⟩
 ·refine dM ?_;exact⟨by rw[pK (show HH bound ids from λi hi=>pF i aa)],rfl⟩
abbrev Pt(g:Nat)(bt:TypeId)(w p:Nat)(A1:bh)(c1:Nat)(A2:bh)(c2:Nat)(xs:br)(F:aN):aN:=.bI g bt [ah w,.slice A1 (E xs) c1,.slice A2 (E xs) c2]:: .own 3 1 A1 (E xs) c1 (bN (xs.map (· /p))):: .own 57 1 A2 (E xs) c2 (oq (xs.map (· %p)))::F
theorem asV{x w:Nat}(hp:p=2^w)(hw:w<=14):(x:Int).fdiv (2^min (w:Int).toNat IntKind.i64.bits)=((x/p:Nat):Int):=by
 have e:min (w:Int).toNat IntKind.i64.bits=w:=by
  rw[lJ];exact C2 (show w<=64 by omega)
 rw[e,hp,wS _ (Int.le_of_lt (Int.pow_pos aE)),Int.natCast_ediv];congr 1
theorem aj3{x w:Nat}(hp:p=2^w)(hw:w<=14)(hx:x*p<=4611686018427387904):IntKind.i64.wrap ((x:Int)*2^min (w:Int).toNat IntKind.i64.bits)=((x*p:Nat):Int):=by
 have e:min (w:Int).toNat IntKind.i64.bits=w:=by
  rw[lJ];exact C2 (show w<=64 by omega)
 have e2:(x:Int)*2^w=((x*p:Nat):Int):=by rw[hp,xy];congr 1
 rw[e,e2];exact bj aa aa
theorem apq{x w:Nat}(hp:p=2^w)(hx:x<9223372036854775808)(Oy:p<=16384):IntKind.i64.wrap ((BitVec.ofInt IntKind.i64.bits (x:Int) &&& BitVec.ofInt IntKind.i64.bits ((p-1:Nat):Int)).toNat:Int)=((x%p:Nat):Int):=by
 have h:=aiL x (p-1) hx aa;rw[hp,Nat.and_two_pow_sub_one_eq_mod,<-hp]at h;exact h
theorem orP{x w:Nat}(hp:p=2^w)(hx:x<9223372036854775808):IntKind.i64.wrap ((BitVec.ofInt IntKind.i64.bits ((x/p*p:Nat):Int) ||| BitVec.ofInt IntKind.i64.bits ((x%p:Nat):Int)).toNat:Int)=(x:Int):=by
 have h1:x/p*p<=x:=Nat.div_mul_le_self x p;have h2:x%p<=x:=Nat.mod_le x p;have h:=adP (x/p*p) (x%p) aa aa;have e:x/p*p ||| x%p=x:=by
  have gU:x%p<2^w:=by rw[<-hp];exact rG _ (by rw[hp];exact zd w)
  rw[hp]at gU⊢;rw[mi,<-OL gU];exact Nat.div_add_mod x (2^w)
 rw[e]at h;exact h
theorem aeW(bt:TypeId){w:Nat}(hp:p=2^w)(hw:w<=14)(xs:br)(x:Nat)(hx:x<=1000000)(hl:E xs<=1000000):
  bg B w0 152 [bq g,ah x] (Pt g bt w p A1 c1 A2 c2 xs F) (λr L=>r= .tuple #[]/\∃A1' c1' A2' c2',L=Pt g bt w p A1' c1' A2' c2' (xs++[x]) F):=by
 have Oy:p<=16384:=by rw[hp];exact u6 hw
 have SV:1<=p:=by rw[hp];exact OY
 have ann:x%p<p:=rG _ SV;refine fw func152 37 [0,1] ?_;refine dq (λzf zL=>∃(A3:bh) (c3:Nat),Sub zf [(0,bq g),(1,ah x)]/\Wk zL (.bI g bt [ah w,.slice A3 (E xs+1) c3,.slice A2 (E xs) c2]:: .own 3 1 A3 (E xs+1) c3 (bN ((xs++[x]).map (· /p))):: .own 57 1 A2 (E xs) c2 (oq (xs.map (· %p)))::F)) ?_ ?_
 ·refine lx (.own 57 1 A2 (E xs) c2 (oq (xs.map (· %p)))::F) ?_;refine aF 0 4 ?_;refine aF 5 4 ?_;refine iv 4 9 ?_ ?_
  ·refine aX ?_;refine aC 9 (aX ?_);refine aS 10 rfl (dH rfl rfl aa (asV hp hw)) (aC 11 (cF rfl (aG gF [_] rfl rfl bY aa aa) λqh=>aC 12 (fh rfl (bB gF rfl aU rfl aA bY aa aa) λRo Vr=>?_)));refine aF 13 2 ?_;refine aC 15 (ew ?_);exact bo ⟨Ro,Vr,a_,.skip (bx rfl (au rfl qj (.refl _)))⟩
  ·refine aX ?_;refine aS 10 rfl (dH rfl rfl aa (asV hp hw)) (iv 4 11 ?_ ?_)
   ·refine aX ?_;refine aC 11 (cF rfl (aG gF [_] rfl rfl bY aa aa) λqh=>aC 12 (fh rfl (bB gF rfl aU rfl aA bY aa aa) λRo Vr=>?_));refine aF 13 2 ?_;refine aC 15 (ew ?_);exact bo ⟨Ro,Vr,a_,.skip (bx rfl (au rfl qj (.refl _)))⟩
   ·refine cF rfl (aG gF [_] rfl rfl bY aa aa) λqh=>aC 4 (aX ?_);refine aC 12 (fh rfl (bB gF rfl aU rfl aA bY aa aa) λRo Vr=>?_);refine aF 13 2 ?_;refine aC 15 (ew ?_);exact bo ⟨Ro,Vr,a_,.skip (bx rfl (au rfl qj (.refl _)))⟩
 ·rintro _ _ ⟨A3,c3,hs,hp⟩;refine aL hs hp ?_;clear hs hp;refine lx (.own 3 1 A3 (E xs+1) c3 (bN ((xs++[x]).map (· /p)))::F) ?_;refine aF 0 4 ?_;refine aF 5 4 ?_;refine iv 4 9 ?_ ?_
  ·refine aX ?_;refine aC 9 (aX ?_);refine aS 10 rfl (gG rfl rfl aa ((aj3 (x:=1) hp hw aa).trans (by rw[tC]))) (aS 11 rfl (cU rfl rfl (r:=((p-1:Nat):Int)) ((bj aa aa).trans aa)) (aS 12 rfl (kj rfl rfl (apq hp aa Oy)) (dI 13 ?_)));refine aC 14 (cF rfl (aG sY [_] rfl rfl bY aa aa) λMj=>aC 15 (fh rfl (bB sY rfl aU rfl aA bY aa aa) λtI tY=>?_));refine aF 16 2 ?_;refine aC 18 (aX ?_);refine di [] ?_;refine aX ?_;have el:E xs+1=E (xs++[x]):=by simp
   rw[el];refine ak (L':=Pt g bt w p A3 c3 tI tY (xs++[x]) F) (.skip (.cons (.cons (au rfl (by simp[oq]) (.refl _))))) (aX ?_);exact⟨rfl,A3,c3,tI,tY,rfl⟩
  ·refine aX ?_;refine aS 10 rfl (gG rfl rfl aa ((aj3 (x:=1) hp hw aa).trans (by rw[tC]))) (aS 11 rfl (cU rfl rfl (r:=((p-1:Nat):Int)) ((bj aa aa).trans aa)) (aS 12 rfl (kj rfl rfl (apq hp aa Oy)) (dI 13 ?_)));refine iv 4 14 ?_ ?_
   ·refine aX ?_;refine aC 14 (cF rfl (aG sY [_] rfl rfl bY aa aa) λMj=>aC 15 (fh rfl (bB sY rfl aU rfl aA bY aa aa) λtI tY=>?_));refine aF 16 2 ?_;refine aC 18 (aX ?_);refine di [] ?_;refine aX ?_;have el:E xs+1=E (xs++[x]):=by simp
    rw[el];refine ak (L':=Pt g bt w p A3 c3 tI tY (xs++[x]) F) (.skip (.cons (.cons (au rfl (by simp[oq]) (.refl _))))) (aX ?_);exact⟨rfl,A3,c3,tI,tY,rfl⟩
   ·refine cF rfl (aG sY [_] rfl rfl bY aa aa) λMj=>aC 4 (aX ?_);refine aC 15 (fh rfl (bB sY rfl aU rfl aA bY aa aa) λtI tY=>?_);refine aF 16 2 ?_;refine aC 18 (aX ?_);refine di [] ?_;refine aX ?_;have el:E xs+1=E (xs++[x]):=by simp
    rw[el];refine ak (L':=Pt g bt w p A3 c3 tI tY (xs++[x]) F) (.skip (.cons (.cons (au rfl (by simp[oq]) (.refl _))))) (aX ?_);exact⟨rfl,A3,c3,tI,tY,rfl⟩
theorem anW(bt:TypeId){w:Nat}(hp:p=2^w)(hw:w<=14)(xs:br)(i:Nat)(hi:i<E xs)(hx:xs.getD i 0<=1000000):
  bg B w0 300 [bq g,ah i] (Pt g bt w p A1 c1 A2 c2 xs F) (λr L=>r=ah (xs.getD i 0:Nat)/\L=Pt g bt w p A1 c1 A2 c2 xs F):=by
 have hH:(bN (xs.map (· /p)))[i*1]? =some (ah (xs.getD i 0/p:Nat)):=by simp[bN,List.getD,fx hi]
 have hL:(oq (xs.map (· %p)))[i*1]? =some (.int .u16 (xs.getD i 0%p:Nat)):=by simp[oq,List.getD,fx hi]
 have Oy:p<=16384:=by rw[hp];exact u6 hw
 have SV:1<=p:=by rw[hp];exact OY
 have ann:xs.getD i 0%p<p:=rG _ SV;have hdm:=Nat.div_mul_le_self (xs.getD i 0) p;refine ba func300 26 [0,1] 13 ?_;refine bJ (al ae rfl aA aa hH) rfl (fb ?_);refine bJ (gG rfl rfl aa (aj3 hp hw aa)) rfl (dw ?_);refine bJ (al ae rfl aA aa hL) rfl (aX ?_);refine bJ (uv rfl rfl (orP hp aa)) rfl (aX ?_);refine lD [(4,_)] ⟨rfl,trivial⟩ ?_;exact cm 3
theorem tg(h:P:=by(rw[bm];omega)):P:=h
theorem NL(h:n<=20000):E (aW n)<=10:=aY aa
theorem NK(hb:aJ B w0 F 1 (.slice A (E ids) c) (E ids) (ints .i64 ids))(hl:E ids<=9000000000000000000)(hE:bound<0\/20000<bound\/¬HH bound ids):
  bg B w0 88 [ah bound,.slice A (E ids) c] F (λr L=>∃A' c',r= .tuple #[.slice A' 0 c',ah 13]/\L= .own 5 1 A' 0 c' []::F):=by
 refine fw func88 80 [0,1] ?_;refine bf 9 12 27 [0,1] (bound<0\/20000<bound\/¬HH bound ids) ?_ ?_
 ·refine bk 3 (λjq=>?_) (λjq=>?_)
  ·refine bk 5 (λrq=>?_) (λrq=>?_)
   ·refine fb ?_;exact ai rfl (Xo bound ids hb hl) (ax 3 (k:=b_2))
   ·exact ax 4 (k:=b_2)
  ·exact ax 8 (k:=b_2)
 ·refine ag 2 (λkq=>?_) λkq=>?_
  ·refine cY ?_;exact aH 5 1 none (bO 1)
  ·exfalso;exact kq hE
theorem Sg{b:Nat}{xs:br}(hb:aJ B w0 F 1 (.slice A (E xs) c) (E xs) (bN xs))(nD:b<=20000)(hR:me b xs):
  bg B w0 88 [ah b,.slice A (E xs) c] F (λr L=>∃A' c',r= .tuple #[.slice A' (E (si b xs)) c',ah 0]/\L= .own 5 1 A' (E (si b xs)) c' (bv (si b xs))::F):=by
 have hlen:=hR.len;have hi:HH b (xs.map (λ(n:Nat)=>(n:Int))):=(sT b xs).2 hR;have hr:=Xo (B:=B) (w0:=w0) (F:=F) (A:=A) (c:=c) (b:Int) (xs.map (λ(n:Nat)=>(n:Int))) (by rw[OH,eZ];exact hb) (by rw[eZ];omega);rw[eZ]at hr;have x_:=xV (n:=E xs) nD;obtain⟨w,hw⟩:=cM (wid b (E xs));rw[<-hw]at x_;obtain⟨p,hp⟩:=cM (2^w);have SV:1<=p:=by rw[hp];exact OY
 have CV:=NL (n:=E xs) aa;have auE:E xs=0->si b xs=aW (E xs):=λh=>by unfold si;rw[av h];simp
 have arF:¬E xs=0->si b xs=aW (E xs)++packed (CB p w xs++BS p 0 xs):=λh=>by unfold si Mr;rw[aB h,<-hw,<-hp]
 have hql:=V0 (p:=p) (w:=w) hR nD x_;unfold Mr at hql;have kh:=dz (CB p w xs++BS p 0 xs);refine fw func88 80 [0,1] ?_;refine bk 12 (λjq=>?_) (λjq=>?_)
 ·refine bk 5 (λrq=>?_) (λrq=>?_)
  ·refine fb ?_;refine ai rfl (hr) (ag 5 (λkq=>?_) λkq=>?_)
   ·exfalso;exact kq hi
   ·refine dg ?_;refine ay rfl (ji (E xs) aa) λRq c31=>aD 1 [0,1,6] 0 ?_;refine ag 9 (λCe=>?_) λCe=>?_
    ·refine dA ?_;rw[auE aa];exact bO 1
    ·refine dg ?_;refine ai rfl (Ma b (E xs) nD aa hlen) ?_;rw[<-hw];refine ab (bw [(0,_)] [ah 0,.slice none 0 0,.slice none 0 0] [0] [_,_,_] rfl rfl ae) rfl (fo λg7=>?_);refine dx ?_;refine aM 57 1 none (aM 3 1 none (dg ?_));refine aw (λzf zL zm=>∃(k:Nat) (P1:bh) (p1:Nat) (P2:bh) (p2:Nat),(k<=E xs)/\E xs-k=zm/\Sub zf [(6,.slice Rq (E (aW (E xs))) c31),(7,bq g7),(41,.slice A (E xs) c),(42,ah (E xs)),(43,ah k)]/\Wk zL (Pt g7 235 w p P1 p1 P2 p2 (xs.take k) (.own 5 1 Rq (E (aW (E xs))) c31 (bv (aW (E xs)))::F))) _ ⟨0,none,0,none,0,bD _,rfl,a_,.c_ C9⟩ ?_;rintro _ _ _ ⟨k,P1,p1,P2,p2,hk,rfl,hs,hp⟩;refine aL hs hp ?_;clear hs hp;refine ag 6 (λsm=>?_) λsm=>?_
     ·have EK:=(hR k aa).1;have CW:=List.length_take_le k xs;refine dg ?_;refine ab (al ae rfl aA aa (fV aa)) rfl (dx ?_);refine bp ak5 rfl (aeW 235 hp x_ (xs.take k) (xs.getD k 0) aa aa) rfl ?_;rintro _ _ ⟨rfl,P48,p48,Q48,q48,cR⟩;obtain rfl:=cR.symm;refine dg ?_;refine aj ⟨_,aa,k+1,P48,p48,Q48,q48,aa,rfl,a_,by rw[aP (show k<E xs by omega) 0];exact .refl _⟩
     ·obtain rfl:k=E xs:=by omega
      rw[js];refine bW 7 λQ8=>?_;refine fb ?_;refine aM 5 1 none (cY ?_);refine aw (λzf zL zm=>∃(k:Nat) (A8:bh) (c8:Nat),(k<=E xs)/\E xs-k=zm/\Sub zf [(6,.slice Rq (E (aW (E xs))) c31),(7,bq g7),(10,bq Q8),(51,.slice P2 (E xs) p2),(52,ah (E xs)),(53,ah k)]/\Wk zL (Wr Q8 239 A8 c8 (CB p w (xs.take k)) (Pt g7 235 w p P1 p1 P2 p2 xs (.own 5 1 Rq (E (aW (E xs))) c31 (bv (aW (E xs)))::F)))) _ ⟨0,none,0,bD _,rfl,a_,by rw[show CB p w (xs.take 0)=[] from rfl];exact .c_ swp⟩ ?_;rintro _ _ _ ⟨k,A8,c8,zY,rfl,hs,hp⟩;refine aL hs hp ?_;clear hs hp;refine aX ?_
      skip
      refine ag 5 (λh54=>?_) λh54=>?_
      ·have EK:=(hR k aa).1;have ann:xs.getD k 0%p<p:=rG _ SV;have Oy:p<=16384:=by rw[hp];exact u6 x_
       have hLo:(oq (xs.map (· %p)))[k*1]? =some (.int .u16 (xs.getD k 0%p:Nat)):=by simp[oq,List.getD,fx (show k<E xs by omega)]
       have qc:=nk p w (xs.take k);have hlm:E (xs.take k)*w<=20000*14:=jG jA x_;refine dg ?_;refine ab (al ae rfl aA aa hLo) rfl (cY ?_);refine bp D3 rfl (asG (CB p w (xs.take k)) (xs.getD k 0%p) aa w aa (by rw[<-hp];exact ann) aa) rfl ?_;rintro _ _ ⟨rfl,A61,c61,cR⟩;obtain rfl:=cR.symm;refine dg ?_;refine aj ⟨_,aa,k+1,A61,c61,aa,rfl,a_,by rw[aP (show k<E xs by omega) 0,aei];exact .refl _⟩
      ·obtain rfl:k=E xs:=by omega
       rw[js];refine bK 20 ?_;refine aw (λzf zL zm=>∃(k:Nat) (A9:bh) (c9:Nat),(k<=E xs)/\E xs-k=zm/\Sub zf [(6,.slice Rq (E (aW (E xs))) c31),(10,bq Q8),(13,ah (pM p 0 (xs.take k))),(64,.slice P1 (E xs) p1),(65,ah (E xs)),(66,ah k)]/\Wk zL (Wr Q8 239 A9 c9 (CB p w xs++BS p 0 (xs.take k)) (Pt g7 235 w p P1 p1 P2 p2 xs (.own 5 1 Rq (E (aW (E xs))) c31 (bv (aW (E xs)))::F)))) _ ⟨0,A8,c8,bD _,rfl,a_,by rw[oC];simp only[BS,gN];exact .refl _⟩ ?_;rintro _ _ _ ⟨k,A9,c9,hk3,rfl,hs,hp⟩;refine aL hs hp ?_;clear hs hp;refine ag 6 (λWo=>?_) λWo=>?_
       ·have EK:=(hR k aa).1;have hdv:=oE (xs.getD k 0) p;have hlp:=O' (p:=p) hR (k:=k) aa;have hHi:(bN (xs.map (· /p)))[k*1]? =some (ah (xs.getD k 0/p:Nat)):=by simp[bN,List.getD,fx (show k<E xs by omega)]
        have yU:=ta (p:=p) hR k aa;have hlb:=O_ (p:=p) hR k aa;have qc:=nk p w xs;have hlm:E xs*w<=20000*14:=jG aa x_;have gU:=pN (p:=p) (xs:=xs) (k:=k) aa;refine dg ?_;refine ab (al ae rfl aA aa hHi) rfl (dg ?_);refine ab (cU rfl rfl (r:=((xs.getD k 0/p-pM p 0 (xs.take k):Nat):Int)) ((bj aa aa).trans aa)) rfl (bp aqf rfl (akx (CB p w xs++BS p 0 (xs.take k)) (xs.getD k 0/p-pM p 0 (xs.take k)) aa tg) rfl ?_);rintro _ _ ⟨rfl,A73,c73,cR⟩;obtain rfl:=cR.symm;refine dM ?_;refine aj ⟨_,aa,k+1,A73,c73,aa,rfl,a_,by rw[aP (show k<E xs by omega) 0,Gk,<-bT];exact .refl _⟩
       ·obtain rfl:k=E xs:=by omega
        rw[js];refine cY ?_;refine ay rfl (ahK _ aa) λA77 c77=>cv (aG fO [_,_] rfl rfl bY aa aa) λA78=>ay rfl (yc (l:=si b xs) (P:=[(.slice Rq (E (aW (E xs))) c31,aW (E xs)),(.slice A77 (E (packed (CB p w xs++BS p 0 xs))) c77,packed (CB p w xs++BS p 0 xs))]) aA apI rfl (by rw[arF aa];simp[eH.all]) (by rw[arF aa,bm];omega) ao) λA79 c79=>dx ?_;exact ak (L':=.own 5 1 A79 (E (si b xs)) c79 (bv (si b xs))::F) (.cons (.s8 (.refl _))) (bO 1)
  ·exfalso;omega
 ·exfalso;omega
theorem YR(hb:aJ B w0 F 1 (.slice A (E ids) c) (E ids) (ints .i64 ids))(hl:E ids<=9000000000000000000):
  bg B w0 88 [ah bound,.slice A (E ids) c] F (λr L=>∃A' c',r= .tuple #[.slice A' (E (Q7 bound ids).1) c',ah (Q7 bound ids).2]/\L= .own 5 1 A' (E (Q7 bound ids).1) c' (bv (Q7 bound ids).1)::F):=by
 by_cases hE:bound<0\/20000<bound\/¬HH bound ids
 ·rw[Kp hE];exact NK hb hl hE
 ·have hR:HH bound ids:=b_ λh=>hE (.inr (.inr h));obtain⟨xs,rfl⟩:=hR.aey;obtain⟨b,rfl⟩:=gl (show 0<=bound by omega);rw[Kq hE];rw[OH,eZ]at hb;rw[eZ];exact Sg hb aa ((sT b xs).1 hR)
theorem fD(h:P:=by(first|rfl|trivial)):P:=h
theorem tJ(h:P:=by(rintro _ _ ⟨rfl,rfl⟩;exact⟨rfl,alB _⟩)):P:=h
theorem apK(h:P:=by(first|omega|(exact⟨λh=>by omega,λh=>by omega⟩)|(simp at h8;done))):P:=h
theorem ap7(h:P:=by(rw[hz];exact Mh (by omega) (by omega))):P:=h
abbrev Rr(g:Nat)(A:bh)(c:Nat)(q:List Bool)(p:Nat)(F:aN):aN:=.bI g 451 [.slice A (E (packed q)) c,ah (E q),ah p]:: .own 5 1 A (E (packed q)) c (bv (packed q))::F
theorem afq(a b:Value){x y:Int}(h:x=y):[a,b,Value.int .i64 x]=[a,b,Value.int .i64 y]:=by rw[h]
theorem Fi{l:aq}(hb:gw B w0 F A c l)(hl:E l<=1000000):
  bg B w0 322 [.slice A (E l) c] F (λr L=>∃g A' c',r=bq g/\L=Rr g A' c' (eM l) 0 F):=by
 have yU:=dm l;refine ba func322 11 [0] 8 ?_;refine ay rfl (mu l hb aa) λA4 c4=>fc ?_;refine ab (eJ [(0,_),(1,_)] [_,_] rfl rfl ae) rfl (ab (xh [(0,_)] [.slice A4 (E l) c4,ah (8*(E l:Int)),ah 0] rfl ae) rfl (fM λQ8=>?_));refine fb ?_;exact ak (L':=Rr Q8 A4 c4 (eM l) 0 F) (bx (by rw[p_,yU];simp) (au (by rw[p_]) (by rw[p_]) (.refl _))) (nI 1)
theorem uP(q:List Bool)(p:Nat)(hp:p<=E q)(hq:E q<=8000000):bg B w0 325 [bq g] (Rr g A c q p F) (λr L=>r=ah ((E q:Int)-p)/\L=Rr g A c q p F):=by
 refine fw func325 15 [0] ?_;exact cm 32
theorem aov(q:List Bool)(p:Nat)(hp:p<=E q)(hq:E q<=8000000)(n:Int)(h1:-9223372036854775808<=n)(h2:n<=9223372036854775807):
  bg B w0 352 [bq g,ah n] (Rr g A c q p F) (λr L=>r=ah (skE q p n)/\L=Rr g A c q (skP q p n) F):=by
 refine fw func352 25 [0,1] ?_;refine ag 14 (λh5=>?_) λh5=>?_
 ·refine dA ?_;simp only[skE,skP,av h5];exact⟨fD,fD⟩
 ·refine bf 2 8 16 [0,1] ((E q:Int)<p+n) ?_ ?_
  ·refine cY ?_;exact ai rfl (uP q p hp hq) (ax 3 (k:=(by exact dG (by first|omega|(exact⟨λh=>by omega,λh=>aa⟩)|(simp at oA;done)))))
  ·refine ag 3 (λh8=>?_) λh8=>?_
   ·refine dA ?_;simp only[skE,skP,aB h5,av h8];exact⟨fD,fD⟩
   ·refine bK 22 ?_;refine ak (L':=Rr g A c q (skP q p n) F) (bx (by simp only[skP,aB h5,aB h8];refine afq _ _ (?_ :_=_);omega) (.refl _)) ?_;refine aX ?_;simp only[skE,aB h5,aB h8];exact⟨fD,fD⟩
theorem IV(q:List Bool)(p:Nat)(hp:p<=E q)(hq:E q<=8000000)(n:Int)(h1:-9223372036854775808<=n)(h2:n<=9223372036854775807):
  bg B w0 326 [bq g,ah n] (Rr g A c q p F) (λr L=>r= .tuple #[.int .u64 (jE q p n),ah (pE q p n)]/\L=Rr g A c q (fH q p n) F):=by
 refine fw func326 41 [0,1] ?_;refine bf 10 6 13 [0,1] (n<0\/64<n) ?_ ?_
 ·refine bk 3 (λig=>?_) (λig=>?_)
  ·exact ax 4 (k:=DN)
  ·exact ax 2 (k:=J5)
 ·refine ag 3 (λh7=>?_) λh7=>?_
  ·refine dh ?_;simp only[jE,pE,fH,av h7];exact⟨fD,fD⟩
  ·refine bf 2 8 22 [0,1] ((E q:Int)<p+n) ?_ ?_
   ·refine cY ?_;exact ai rfl (uP q p hp hq) (ax 3 (k:=(by exact dG (by first|omega|(exact⟨λh=>by omega,λh=>aa⟩)|(simp at gH;done)))))
   ·refine ag 3 (λgT=>?_) λgT=>?_
    ·refine dh ?_;simp only[jE,pE,fH,aB h7,av gT];exact⟨fD,fD⟩
    ·obtain⟨m,rfl⟩:=gl (show 0<=n by omega);refine bK 13 ?_;refine iL acj rfl (Fl q p m hp aa aa _ (packed q) rfl rfl aU aA) tJ rfl ?_;refine aD 14 [6] 9 ?_;refine ak (L':=Rr g A c q (fH q p m) F) (bx (by simp only[fH,aB h7,aB gT];refine afq _ _ (?_ :_=_);omega) (.refl _)) ?_;refine aX ?_;simp only[jE,pE,aB h7,aB gT];exact⟨fD,fD⟩
theorem aoi(q:List Bool)(p:Nat)(hp:p<=E q)(hq:E q<=8000000)(n:Int)(h1:-9223372036854775808<=n)(h2:n<=9223372036854775807):
  bg B w0 350 [bq g,ah n] (Rr g A c q p F) (λr L=>r= .tuple #[.int .u64 (pkV q p n),ah (pkN q p n)]/\L=Rr g A c q p F):=by
 refine fw func350 29 [0,1] ?_;refine bf 9 10 15 [0,1] (n<0\/64<n) ?_ ?_
 ·refine bk 9 (λjZ=>?_) (λjZ=>?_)
  ·exact ax 4 (k:=(by exact dG apK))
  ·exact ax 2 (k:=(by exact dT apK))
 ·refine ag 2 (λmj=>?_) λmj=>?_
  ·refine dA ?_;simp only[pkV,pkN,av mj];exact⟨fD,fD⟩
  ·obtain⟨m,rfl⟩:=gl (show 0<=n by omega);refine dM ?_;refine iL acj rfl (Fl q p m hp aa aa _ (packed q) rfl rfl aU aA) tJ rfl ?_;refine ew ?_;refine iL aqO rfl (uP q p hp hq) tJ rfl ?_;refine bJ (yB rfl rfl) rfl (dw ?_);simp only[pkV,pkN,aB mj];exact⟨fD,fD⟩
theorem agF(q:List Bool)(p:Nat)(hp:p<=E q)(hq:E q<=8000000):
  bg B w0 324 [bq g] (Rr g A c q p F) (λr L=>r= .tuple #[ah (unV q p),ah (unR q p)]/\L=Rr g A c q (unP q p) F):=by
 refine ba func324 39 [0] 27 ?_;refine aw (λzf zL zm=>∃(k:Nat),(k<=E q/\Z q p=Z q k)/\E q-k=zm/\Sub zf [(0,bq g),(4,ah k)]/\Wk zL (Rr g A c q p F)) _ ⟨p,⟨hp,rfl⟩,rfl,a_,.refl _⟩ ?_;rintro _ _ _ ⟨k,⟨hk,hz⟩,rfl,hs,hp⟩;refine aL hs hp ?_;clear hs hp;refine ag 12 (λjq=>?_) λjq=>?_
 ·refine dh ?_;refine ai rfl (akX q k aa aa _ (packed q) rfl rfl aU aA) ?_;refine ag 3 (λq7=>?_) λq7=>?_
  ·have nC:gQ q k=1:=by omega
   have hzk:=X6 nC aa;have hzg:=ame q p;have hzl:Z q p<E q:=by omega
   refine aD 9 [0,4,5] 24 ?_;refine ak (L':=Rr g A c q (unP q p) F) (bx (by simp only[unP,av hzl];refine afq _ _ (?_ :_=_);omega) (.refl _)) ?_;refine aX ?_;simp only[unV,unR,av hzl];exact⟨eG (λx=>Value.tuple #[ah x,ah 0]) aa,trivial⟩
  ·refine cY ?_;refine aj ⟨_,aa,k+1,⟨aa,ap7⟩,rfl,a_,.refl _⟩
 ·refine bK 13 ?_;have hzl:¬Z q p<E q:=by have:=Q0 (q:=q) (k:=k) aa;omega
  simp only[unV,unR,unP,aB hzl];exact⟨fD,fD⟩
theorem asB(q:List Bool)(p:Nat)(hp:p<=E q)(hq:E q<=8000000):
  bg B w0 343 [bq g] (Rr g A c q p F) (λr L=>r=ah (Rm q p)/\L=Rr g A c q p F):=by
 have hpi:=ajw q hp;refine ba func343 22 [0] 19 ?_;refine ai rfl (uP q p hp hq) (dx ?_);refine sE 14 21 [] (¬((E q:Int)-p<8/\Z q p=E q)) ?_ ?_
 ·refine fc ?_;refine wi rfl rfl rfl (λig=>?_) (λig=>?_)
  ·refine dM ?_;have hle:E q-p<=7:=by omega
   refine fb ?_;refine iL acj rfl ((by rw[show(E q:Int)-p=((E q-p:Nat):Int) by omega];exact Fl q p (E q-p) hp aa aa _ (packed q) rfl rfl aU aA)) tJ rfl ?_;refine fc ?_;exact ke DN
  ·refine dh ?_;exact ke J5
 ·refine ag 2 (λmQ=>?_) λmQ=>?_
  ·refine cY ?_;simp only[Rm,aB mQ];exact⟨fD,fD⟩
  ·refine dA ?_;simp only[Rm,av (Decidable.not_not.1 mQ)];exact⟨fD,fD⟩
theorem Vg(h:P:=by(rw[hz];decide)):P:=h
theorem ox(h:P:=by(rw[hz])):P:=h
def z8(q:List Bool)(w n:Nat):br:=(List.range n).map λi=>part q (i*w) w
theorem sL(q:List Bool)(w n:Nat):E (z8 q w n)=n:=by simp[z8]
theorem Pf(q:List Bool)(w n:Nat):z8 q w (n+1)=z8 q w n++[part q (n*w) w]:=by simp[z8,mW]
def LA(bound p:Nat)(q:List Bool):br->Nat->Nat->Int->br->br×Nat×Int
 |[],pos,_,_,out=>(out,pos,0)
 |x::ls,pos,high,was,out=>
  if¬Z q pos<E q then ([],0,1)
  else if (((high+(Z q pos-pos))*p+x:Nat):Int)<=was then ([],0,2)
  else if bound<=(high+(Z q pos-pos))*p+x then ([],0,8)
  else LA bound p q ls (Z q pos+1) (high+(Z q pos-pos)) ((high+(Z q pos-pos))*p+x:Nat) (out++[(high+(Z q pos-pos))*p+x])
def CR(bound n:Nat)(b:aq):br×Nat×Int:=LA bound (2^wid bound n) (eM b) (z8 (eM b) (wid bound n) n) (n*wid bound n) 0 (-1) []
def lz(bound n:Nat)(b:aq):Nat:=(E (eM b)-(CR bound n b).2.1)%8
def jQ(bound n:Nat)(b:aq):br×Nat×Int:=
 if E (eM b)<n*wid bound n then ([],0,1)
 else if (CR bound n b).2.2≠0 then ([],0,(CR bound n b).2.2)
 else if part (eM b) (CR bound n b).2.1 (lz bound n b)≠0 then ([],0,2)
 else ((CR bound n b).1,E b-(E (eM b)-((CR bound n b).2.1+lz bound n b))/8,0)
theorem ael(q:List Bool){w:Nat}(hm:m<=20000)(hw:w<=14)(hq:E q<=8000000)(hE:E q<m*w):
  bg B w0 323 [bq g,ah m,ah w] (Rr g A c q 0 F) (λr L=>r= .tuple #[.slice none 0 0,ah 1]/\L=Rr g A c q 0 F):=by
 have hmw:m*w<=20000*14:=jG hm hw;have hmul:IntKind.i64.wrap ((m:Int)*(w:Int))=((m*w:Nat):Int):=by
  rw[<-xy];generalize m*w=z at*;exact bj aa aa
 refine ba func323 38 [0,1,2] 11 ?_;refine ab (eo rfl rfl hmul) rfl (aX ?_);refine ai rfl (uP q 0 (bD _) hq) (sF 3 λgH=>?_);exact cm 9
theorem ai5(q:List Bool){w:Nat}(hm:m<=20000)(hw:w<=14)(hq:E q<=8000000)(hE:m*w<=E q):
  bg B w0 323 [bq g,ah m,ah w] (Rr g A c q 0 F) (λr L=>∃A' c',r= .tuple #[.slice A' m c',ah 0]/\L=Rr g A c q (m*w) (.own 57 1 A' m c' (oq (z8 q w m))::F)):=by
 have hmw:m*w<=20000*14:=jG hm hw;have hmul:IntKind.i64.wrap ((m:Int)*(w:Int))=((m*w:Nat):Int):=by
  rw[<-xy];generalize m*w=z at*;exact bj aa aa
 refine ba func323 38 [0,1,2] 11 ?_;refine ab (eo rfl rfl hmul) rfl (aX ?_);refine ai rfl (uP q 0 (bD _) hq) (bZ 3 λgH=>?_);refine dx ?_;refine cv (eY sY rfl rfl rfl rfl rfl aa aa aa) λGA=>dM ?_;refine aw (λzf zL zm=>∃(k:Nat),(k<=m)/\m-k=zm/\Sub zf [(0,bq g),(2,ah w),(8,.slice GA m m),(21,ah m),(22,ah k)]/\Wk zL (Rr g A c q (k*w) (.own 57 1 GA m m (oq (z8 q w k)++List.replicate (m-k) (.int .u16 0))::F))) _ ⟨0,bD _,rfl,a_,by rw[nJ];exact(gC (gC (dL (.refl _))))⟩ ?_;rintro _ _ _ ⟨k,hk,rfl,hs,hp⟩;refine aL hs hp (ag 6 (λpe=>?_) λpe=>?_)
 ·have hkw:(k+1)*w<=m*w:=C3 w aa;have Mv:(k+1)*w=k*w+w:=jR k w;have kh:=lT q (k*w) w;have hpw:=u6 hw;have hlr:=sL q w k;have hgv:jE q (k*w) w=part q (k*w) w:=by unfold jE;rw[aB aa,aB aa,lJ]
  have zX:fH q (k*w) w=(k+1)*w:=by unfold fH;rw[aB aa,aB aa,lJ,Mv]
  refine bK 14 ?_;refine ai rfl (IV q (k*w) aa hq w aa aa) ?_;rw[hgv,zX];refine aD 20 [0,2,8,21,22] 0 ?_;refine aj ⟨_,aa,k+1,aa,rfl,a_,.cons (.cons (au rfl (by rw[cH,Xm _ (show k<m by omega),LD _ _ _ _ (by simp[sL]),Pf];simp[oq]) (.refl _)))⟩
 ·refine bK 13 ?_;obtain rfl:k=m:=by omega
  exact ak (L':=Rr g A c q (k*w) (.own 57 1 GA k k (oq (z8 q w k))::F)) (.cons (.cons (au rfl (by rw[rE,OV,gN]) (.refl _)))) (bO 1)
theorem Ej{bound:Nat}(h:E (eM b)<m*wid bound m):jQ bound m b=([],0,1):=av h
theorem V3{bound m:Nat}{b:aq}(h:¬E (eM b)<m*wid bound m)(he:(CR bound m b).2.2≠0):jQ bound m b=([],0,(CR bound m b).2.2):=by unfold jQ;rw[aB h,av he]
theorem V4{bound m:Nat}{b:aq}(h:¬E (eM b)<m*wid bound m)(he:¬(CR bound m b).2.2≠0)(hp:part (eM b) (CR bound m b).2.1 (lz bound m b)≠0):jQ bound m b=([],0,2):=by unfold jQ;rw[aB h,aB he,av hp]
theorem NC{bound m:Nat}{b:aq}(h:¬E (eM b)<m*wid bound m)(he:¬(CR bound m b).2.2≠0)(hp:¬part (eM b) (CR bound m b).2.1 (lz bound m b)≠0):jQ bound m b=((CR bound m b).1,E b-(E (eM b)-((CR bound m b).2.1+lz bound m b))/8,0):=by unfold jQ;rw[aB h,aB he,aB hp]
theorem orQ{h x w:Nat}(hp:p=2^w)(hx:x<p)(hb:h*p<=4611686018427387904)(Oy:p<=16384):IntKind.i64.wrap ((BitVec.ofInt IntKind.i64.bits ((h*p:Nat):Int) ||| BitVec.ofInt IntKind.i64.bits (x:Int)).toNat:Int)=((h*p+x:Nat):Int):=by
 have hh:=adP (h*p) x aa aa;have e:h*p ||| x=h*p+x:=by
  rw[hp]at hx⊢;rw[mi,<-OL hx]
 rw[e]at hh;exact hh
theorem ai2{q:List Bool}{w k:Nat}(h:k<m):(z8 q w m).getD k 0=part q (k*w) w:=by simp[z8,List.getD,h]
def ahh(bound m:Nat)(b:aq)(F:aN)(r:Value)(L:aN):Prop:=
 ((jQ bound m b).2.2≠0/\r= .tuple #[.pointer none,ah 0,ah (jQ bound m b).2.2]/\L=F)\/
 ((jQ bound m b).2.2=0/\∃g A1 c1 A2 c2,r= .tuple #[bq g,ah (jQ bound m b).2.1,ah 0]/\L=Pt g 405 (wid bound m) (2^wid bound m) A1 c1 A2 c2 (jQ bound m b).1 F)
theorem ajS{bound:Nat}(hb:gw B w0 F A c b)(ey:E b<=1000000)(nD:bound<=20000)(hm:1<=m)(hmb:m<=bound)(hE:E (eM b)<m*wid bound m):
  bg B w0 299 [ah bound,ah m,.slice A (E b) c] F (ahh bound m b F):=by
 have yU:=dm b;have x_:=xV (n:=m) nD;refine ba func299 107 [0,1,2] 10 ?_;refine dV rfl (Fi hb aa) λg24 GJ Ie=>dg ?_;refine ai rfl (Ma bound m nD hm hmb) (ab (bw [(0,_)] [ah 0,.slice none 0 0,.slice none 0 0] [0] [_,_,_] rfl rfl ae) rfl (ab (eJ [(0,_)] [_,_,_] rfl rfl ae) rfl (fM λg30=>?_)));refine dM ?_;refine ai rfl ((ael (eM b) (m:=m) (w:=wid bound m) aa x_ aa hE).perm ((oI (oI (gh (.refl _)))))) (aD 5 [0,2,9,10,11,12] 0 ?_);refine ag 8 (λGC=>?_) λGC=>?_
 ·refine dh ?_;refine ak (L':=F) (.s3 (.refl _)) (aX ?_);exact .inl ⟨by rw[Ej hE];decide,by rw[Ej hE],rfl⟩
 ·exfalso;exact GC aE
theorem aon{bound:Nat}(hb:gw B w0 F A c b)(ey:E b<=1000000)(nD:bound<=20000)(hm:1<=m)(hmb:m<=bound)(hE:¬E (eM b)<m*wid bound m):
  bg B w0 299 [ah bound,ah m,.slice A (E b) c] F (ahh bound m b F):=by
 have yU:=dm b;have x_:=xV (n:=m) nD;have hF0:CR bound m b=LA bound (2^wid bound m) (eM b) (z8 (eM b) (wid bound m) m) (m*wid bound m) 0 (-1) []:=rfl;have Oh:lz bound m b=(E (eM b)-(CR bound m b).2.1)%8:=rfl;unfold ahh;have SR:jQ bound m b=jQ bound m b:=rfl;obtain⟨q,hq⟩:=cM (eM b);have hEe:= @V3 bound m b hE;have hEp:= @V4 bound m b hE;have hEo:= @NC bound m b hE;rw[<-hq]at hE yU hF0 Oh hEp hEo;obtain⟨w,hw⟩:=cM (wid bound m);rw[<-hw]at hE x_ hF0⊢;obtain⟨p,hp⟩:=cM (2^w);rw[<-hp]at hF0⊢;have SV:1<=p:=by rw[hp];exact OY
 have Oy:p<=16384:=by rw[hp];exact u6 x_
 have awy:=sL q w m;refine ba func299 107 [0,1,2] 10 ?_;refine dV rfl (Fi hb aa) λg24 GJ Ie=>?_;rw[<-hq];refine dg ?_;refine ai rfl (Ma bound m nD hm hmb) ?_;rw[<-hw];refine ab (bw [(0,_)] [ah 0,.slice none 0 0,.slice none 0 0] [0] [_,_,_] rfl rfl ae) rfl (ab (eJ [(0,_)] [_,_,_] rfl rfl ae) rfl (fM λg30=>?_));refine dM ?_;refine ay rfl ((ai5 q (m:=m) (w:=w) aa x_ aa aa).perm ((oI (oI (gh (.refl _)))))) λMG RR=>aD 5 [0,2,9,10,11,12] 0 ?_;refine ag 8 (λGC=>?_) λGC=>?_
 ·exfalso;exact GC aE
 ·refine fc ?_;refine aM 57 1 none (aM 3 1 none (bK 14 ?_));refine aw (λzf zL zm=>∃(k pos high:Nat) (was:Int) (out:br) (P1:bh) (p1:Nat) (P2:bh) (p2:Nat),(k<=m/\pos<=E q/\high<=20000/\E out=k/\LA bound p q ((z8 q w m).drop k) pos high was out=CR bound m b)/\m-k=zm/\Sub zf [(0,ah bound),(2,.slice A (E b) c),(9,bq g24),(10,bq g30),(13,ah high),(14,ah was),(45,.slice MG m RR),(46,ah m),(47,ah k)]/\Wk zL (Rr g24 GJ Ie q pos (Pt g30 405 w p P1 p1 P2 p2 out (.own 57 1 MG m RR (oq (z8 q w m))::F)))) _ ⟨0,m*w,0,-1,[],none,0,none,0,⟨bD _,aa,bD _,rfl,hF0.symm⟩,rfl,a_,(lU (lU (vu (dL (dL (dL (.refl _)))))))⟩ ?_;rintro _ _ _ ⟨k,pos,high,was,out,P1,p1,P2,p2,⟨hk,sH,hhi,G9,hG⟩,rfl,hs,hp⟩;refine aL hs hp ?_;clear hs hp;refine ag 6 (λxl=>?_) λxl=>?_
  ·have hx:=ai2 (q:=q) (w:=w) (m:=m) (k:=k) aa;have S4:=lT q (k*w) w;have hd:=cy (l:=z8 q w m) (k:=k) aa 0;obtain⟨x,S5⟩:=cM ((z8 q w m).getD k 0);have Dp:(oq (z8 q w m))[k*1]? =some (.int .u16 (x:Int)):=by rw[S5];exact agC aa
   rw[<-hx,<-S5,<-hp]at S4;rw[hd,<-S5,LA]at hG;have hzg:=ame q pos;have hzl:=atg q sH;refine dg ?_;refine ab (al ae rfl aA aa Dp) rfl (dw ?_);refine ai rfl (agF q pos sH aa) (ag 14 (λWn=>?_) λWn=>?_)
   ·have hnz:¬Z q pos<E q:=λh=>Wn (by unfold unR;rw[av h]);have uG:unR q pos=1:=by unfold unR;rw[aB hnz]
    rw[av hnz]at hG;have hz:=hEe (by rw[<-hG];decide);rw[<-hG]at hz;refine aD 6 [6,7,8] 8 ?_;refine ak (L':=F) (.s6 (.refl _)) (aX ?_);exact .inl ⟨Vg,by rw[hz,uG],rfl⟩
   ·have hnz:Z q pos<E q:=b_ λh=>Wn (by unfold unR;rw[aB h];decide);have hv:unV q pos=((Z q pos-pos:Nat):Int):=by unfold unV;rw[av hnz];omega
    have hu:unP q pos=Z q pos+1:=by unfold unP;rw[av hnz]
    rw[hv,hu];rw[aB (by simpa using hnz)]at hG;obtain⟨h2,hh2⟩:=cM (high+(Z q pos-pos));rw[<-hh2]at hG;have hmul:h2*p<=10000000*16384:=jG aa Oy;obtain⟨id,hid⟩:=cM (h2*p+x);rw[<-hid]at hG;refine dw ?_;refine ab (bF rfl rfl (r:=(h2:Int)) ((bj aa aa).trans aa)) rfl (fF ?_);refine ab (gG rfl rfl aa (aj3 hp x_ aa)) rfl (ew ?_);refine ab (uv rfl rfl (r:=(id:Int)) ((orQ hp S4 aa Oy).trans (by rw[hid]))) rfl (aD 1 [0,2,9,10,13,14,19,45,46,47] 0 ?_);refine ag 11 (λWp=>?_) λWp=>?_
    ·rw[av aa]at hG;have hz:=hEe (by rw[<-hG];decide);rw[<-hG]at hz;refine bK 15 ?_;refine ak (L':=F) (.s6 (.refl _)) (aX ?_);exact .inl ⟨Vg,ox,rfl⟩
    ·rw[aB aa]at hG;refine ag 8 (λh76=>?_) λh76=>?_
     ·rw[av aa]at hG;have hz:=hEe (by rw[<-hG];decide);rw[<-hG]at hz;refine aD 5 [6,7,8] 9 ?_;refine ak (L':=F) (.s6 (.refl _)) (aX ?_);exact .inl ⟨Vg,ox,rfl⟩
     ·rw[aB aa]at hG;have awr:h2<=h2*p:=aiT h2 SV;refine bK 14 ?_;refine bp ak5 rfl ((aeW 405 hp x_ out id aa aa).perm ((z_ (z_ (z_ (gh (gh (.refl _)))))))) rfl ?_;rintro _ _ ⟨rfl,P85,p85,Q85,q85,cR⟩;obtain rfl:=cR.symm;refine aD 6 [0,2,9,10,13,14,45,46,47] 0 ?_;refine aj ⟨_,aa,k+1,Z q pos+1,h2,(id:Int),out++[id],P85,p85,Q85,q85,⟨aa,aa,aa,bS,hG⟩,rfl,a_,(vu (vu (dL (dL (dL (.refl _))))))⟩
  ·obtain rfl:k=m:=by omega
   rw[kr aa,LA]at hG;rw[<-hG]at hEp hEo Oh;simp only at Oh;obtain⟨rest,Cl⟩:=cM (lz bound k b);rw[<-Cl]at Oh hEp hEo;have hrm:((E q:Int)-pos).tmod 8=(rest:Int):=by
    rw[show(E q:Int)-pos=((E q-pos:Nat):Int) by omega,Oh];exact(Int.ofNat_tmod _ 8).symm
   have KL:rest<8:=by omega
   refine dx ?_;refine dq (λzf zL=>(part q pos rest=0)/\Sub zf [(2,.slice A (E b) c),(9,bq g24),(10,bq g30)]/\Wk zL (Rr g24 GJ Ie q (pos+rest) (Pt g30 405 w p P1 p1 P2 p2 out (.own 57 1 MG k RR (oq (z8 q w k))::F)))) ?_ ?_
   ·refine fc ?_;refine ai rfl (uP q pos sH aa) (ab (kl rfl rfl aa hrm) rfl (ag 9 (λh91=>?_) λh91=>?_))
    ·have hgv:jE q pos rest=part q pos rest:=by unfold jE;rw[aB aa,aB aa,lJ]
     have zX:fH q pos rest=pos+rest:=by unfold fH;rw[aB aa,aB aa,lJ]
     refine fb ?_;refine ai rfl (IV q pos sH aa rest aa aa) ?_;rw[hgv,zX];refine aD 5 [2,9,10,21] 0 ?_;refine ag 7 (λh99=>?_) λh99=>?_
     ·have hz:=hEp ao (show part q pos rest≠0 by omega);refine dA ?_;refine ak (L':=F) (.s6 (.refl _)) (aX ?_);exact .inl ⟨Vg,ox,rfl⟩
     ·refine aX ?_;exact bo ⟨aa,a_,.refl _⟩
    ·refine aX ?_;have hr0:rest=0:=by omega
     exact bo ⟨by rw[hr0];rfl,a_,by rw[hr0,rM];exact .refl _⟩
   ·rintro _ _ ⟨hpz,hs,hp⟩;refine aL hs hp ?_;clear hs hp;refine dw ?_;refine ai rfl (uP q (pos+rest) aa aa) (ab (iq rfl rfl aa (r:=(((E q-(pos+rest))/8:Nat):Int)) (by rw[show(E q:Int)-((pos+rest:Nat):Int)=((E q-(pos+rest):Nat):Int) by omega];exact ajH aa)) rfl (ab (cU rfl rfl (r:=((E b-(E q-(pos+rest))/8:Nat):Int)) ((bj aa aa).trans aa)) rfl (dw ?_)));have hz:=hEo ao (by simpa using hpz);refine ak (L':=Pt g30 405 w p P1 p1 P2 p2 out F) ((lU (lU (lU (.s3 (.refl _)))))) (aX ?_);exact .inr ⟨ox,g30,P1,p1,P2,p2,ox,ox⟩
theorem dQ.pY{P:Program}{f:FuncId}{args:cQ}{M:aN}{v:Value}(h:dQ P B w0 f args M (λr K=>r=v/\K=M))(hp:L.Perm M):dQ P B w0 f args L (λr K=>r=v/\K=L):=λw hw=>
 (h w (hw.perm hp)).mono λe w' ⟨r,K,he,⟨hr,hK⟩,hs⟩=>by subst hK;exact⟨r,L,he,⟨hr,rfl⟩,hs.perm hp.symm⟩
theorem KI(a:Nat):((a:Int)).fdiv (2^min (1:Int).toNat IntKind.u64.bits)=((a/2:Nat):Int):=by
 have e:min (1:Int).toNat IntKind.u64.bits=1:=by decide
 rw[e,wS _ aE];rfl
abbrev Rl(g w p:Nat)(A1:bh)(c1:Nat)(A2:bh)(c2:Nat)(xs:br)(F:aN):aN:=Pt g 405 w p A1 c1 A2 c2 xs F
theorem aeg{w:Nat}{xs:br}:bg B w0 269 [bq g] (Rl g w p A1 c1 A2 c2 xs F) (λr L=>r=ah (E xs)/\L=Rl g w p A1 c1 A2 c2 xs F):=by
 refine fw func269 11 [0] ?_;exact cm 28
theorem anG{w:Nat}(hp:p=2^w)(hw:w<=14){xs:br}(hx:∀i,i<E xs->xs.getD i 0<=1000000)(hl:E xs<=1000000):
  bg B w0 270 [bq g] (Rl g w p A1 c1 A2 c2 xs F) (λr L=>∃A' c',r= .slice A' (E xs) c'/\L=Rl g w p A1 c1 A2 c2 xs (.own 3 1 A' (E xs) c' (bN xs)::F)):=by
 refine ba func270 20 [0] 6 ?_;refine aM 3 1 none (cY ?_);refine ai rfl ((aeg (w:=w) (p:=p) (xs:=xs)).pY ((oI (oI (oI (gh (.refl _))))))) (fb ?_);refine aw (λzf zL zm=>∃(k:Nat) (A5:bh) (c5:Nat),(k<=E xs)/\E xs-k=zm/\Sub zf [(0,bq g),(3,.slice A5 k c5),(6,ah (E xs)),(7,ah k)]/\Wk zL (Rl g w p A1 c1 A2 c2 xs (.own 3 1 A5 k c5 (bN (xs.take k))::F))) _ ⟨0,none,0,bD _,rfl,a_,(gC (gC (gC (dL (.refl _)))))⟩ ?_;rintro _ _ _ ⟨k,A5,c5,hk,rfl,hs,hp⟩;refine aL hs hp ?_;clear hs hp;refine ag 6 (λh8=>?_) λh8=>?_
 ·refine bK 16 ?_;refine ai rfl (anW 405 hp hw xs k aa (hx k aa)) (cC gF rfl rfl rfl rfl rfl (λ_=>rfl) aU aa aa ?_);intro _ US c17;refine cY ?_;refine aj ⟨_,aa,k+1,US,c17,aa,rfl,a_,.cons (.cons (.cons (au rfl (by rw[aP (show k<E xs by omega) 0];simp[bN]) (.refl _))))⟩
 ·refine dM ?_;obtain rfl:k=E xs:=by omega
  rw[js];exact bO 1
theorem Nc:bg B w0 177 [bq g] (Cv g A c s::F) (λr L=>r=ah s.at_/\L=Cv g A c s::F):=by
 refine fw func177 10 [0] ?_;exact cm 27
def tG(bound:Int)(b:aq):Cs:=Cs.bX ⟨b,0,0⟩ bound
def C8(bound:Int)(b:aq):Nat:=Cs.int ⟨b,0,0⟩ bound
def GH(bound:Int)(b:aq):br×Nat×Int:=jQ bound.toNat (C8 bound b) (b.drop (tG bound b).at_)
def jc(bound:Int)(b:aq):br×Nat×Int:=
 if bound<0\/20000<bound then ([],0,13)
 else if (tG bound b).e≠0 then ([],0,(tG bound b).e)
 else if C8 bound b=0 then ([],(tG bound b).at_,0)
 else if (GH bound b).2.2≠0 then ([],0,(GH bound b).2.2)
 else ((GH bound b).1,(tG bound b).at_+(GH bound b).2.1,0)
theorem Eh(h:bound<0\/20000<bound):jc bound b=([],0,13):=av h
theorem Ei(h:¬(bound<0\/20000<bound))(h1:(tG bound b).e≠0):jc bound b=([],0,(tG bound b).e):=by unfold jc;rw[aB h,av h1]
theorem Ko(h:¬(bound<0\/20000<bound))(h1:¬(tG bound b).e≠0)(h2:C8 bound b=0):jc bound b=([],(tG bound b).at_,0):=by unfold jc;rw[aB h,aB h1,av h2]
theorem acD(h:¬(bound<0\/20000<bound))(h1:¬(tG bound b).e≠0)(h2:¬C8 bound b=0)(h3:(GH bound b).2.2≠0):jc bound b=([],0,(GH bound b).2.2):=by unfold jc;rw[aB h,aB h1,aB h2,av h3]
theorem Sd(h:¬(bound<0\/20000<bound))(h1:¬(tG bound b).e≠0)(h2:¬C8 bound b=0)(h3:¬(GH bound b).2.2≠0):jc bound b=((GH bound b).1,(tG bound b).at_+(GH bound b).2.1,0):=by unfold jc;rw[aB h,aB h1,aB h2,aB h3]
def apj(bound:Int)(b:aq)(F:aN)(r:Value)(L:aN):Prop:=
 ((jc bound b).2.2≠0/\r= .tuple #[.pointer none,ah 0,ah (jc bound b).2.2]/\L=F)\/
 ((jc bound b).2.2=0/\∃w p g A1 c1 A2 c2,p=2^w/\w<=14/\r= .tuple #[bq g,ah (jc bound b).2.1,ah 0]/\L=Rl g w p A1 c1 A2 c2 (jc bound b).1 F)
theorem Ix(bound m:Nat)(b:aq):(jQ bound m b).2.1<=E b:=by
 unfold jQ;split
 ·exact bD _
 ·split
  ·exact bD _
  ·split
   ·exact bD _
   ·exact Nat.sub_le ..
theorem alS{bound:Nat}(hb:gw B w0 F A c b)(ey:E b<=1000000)(nD:bound<=20000)(hm:1<=m)(hmb:m<=bound):
  bg B w0 299 [ah bound,ah m,.slice A (E b) c] F (ahh bound m b F):=by
 by_cases hE:E (eM b)<m*wid bound m
 ·exact ajS hb ey nD hm hmb hE
 ·exact aon hb ey nD hm hmb hE
theorem acG(hb:gw B w0 F A c b)(ey:E b<=1000000)(adp:-9223372036854775808<=bound)(Ol:bound<=9223372036854775807):
  bg B w0 268 [ah bound,.slice A (E b) c] F (apj bound b F):=by
 have ho0:cw ⟨b,0,0⟩:=⟨bD _,cX⟩
 have ho1:cw (tG bound b):=ho0.bX Ol;have hrb:(tG bound b).b=b:=Cs.cO _ _ _;have rr:(tG bound b).at_<=E b:=by have:=ho1.at_;rw[hrb]at this;exact this
 have hnb:0<=bound->(C8 bound b:Int)<=bound:=λh=>by
  unfold C8 Cs.int;rw[aB ao];by_cases he:(eU (Cs.rest ⟨b,0,0⟩) bound).2.2=0
  ·exact(jN _ bound Ol).2.2.2 he
  ·rw[(pP he).1];exact h
 have hcut:=hb.cut rr;have KL:(GH bound b).2.1<=E b:=by
  have:=Ix bound.toNat (C8 bound b) (b.drop (tG bound b).at_);rw[jM]at this;unfold GH;omega
 have atQ:(bv b).drop ((tG bound b).at_*1)=bv (b.drop (tG bound b).at_):=by rw[cH,jJ]
 rw[atQ,show E b-(tG bound b).at_=E (b.drop (tG bound b).at_) from(jM ..).symm]at hcut;have hint:∀{g:Nat} {A':bh} {c':Nat} {F':aN},aJ B w0 F' 1 (.slice A' (E b) c') (E b) (bv b)->bg B w0 172 [bq g,ah bound] (Cv g A' c' ⟨b,0,0⟩::F') (λr L=>r=ah (C8 bound b)/\L=Cv g A' c' (tG bound b)::F'):=λIW=>jb ho0 IW adp Ol;by_cases hRw:(GH bound b).2.2=0
 ·refine fw func268 54 [0,1] ?_;refine bf 10 6 18 [0,1] (bound<0\/20000<bound) ?_ ?_
  ·refine bk 3 (λmj=>?_) (λmj=>?_)
   ·exact ax 4 (k:=oJ)
   ·exact ax 2 (k:=wm)
  ·refine ag 2 (λjq=>?_) λjq=>?_
   ·refine dh ?_;exact .inl ⟨by rw[Eh jq];decide,by rw[Eh jq],rfl⟩
   ·obtain⟨bn,rfl⟩:=gl (show 0<=bound by omega);have auU:=hnb aa;refine dx ?_;refine dV rfl (n_ hb aa) λg20 BZ CP=>dg ?_;refine ai rfl (hint aA) (dg ?_);refine ai rfl (ik) (ag 9 (λkq=>?_) λkq=>?_)
    ·refine dh ?_;refine ak (L':=F) (.s2 (.refl _)) (aX ?_);exact .inl ⟨by rw[Ei jq kq];exact kq,by rw[Ei jq kq],rfl⟩
    ·refine ag 9 (λwv=>?_) λwv=>?_
     ·refine aX ?_;refine aM 57 1 none (aM 3 1 none (jP ((z_ (z_ (gh (gh (.refl _)))))) ?_));refine aX ?_;refine ab (eW [ah 0,.slice none 0 0,.slice none 0 0] ae) rfl (fM λg32=>?_);refine aX ?_;refine ai rfl ((Nc).pY ((oI (gh (.refl _))))) (aD 3 [4,5,6] 3 ?_);have hz:=Ko (b:=b) jq kq (show C8 bn b=0 by omega);refine ak (L':=Rl g32 0 1 none 0 none 0 [] F) ((dL (lU (lU (.s2 (.refl _)))))) (aX ?_);exact .inr ⟨ox,0,1,g32,none,0,none,0,rfl,aa,ox,ox⟩
     ·refine cY ?_;refine ai rfl (Nc) (ab (bV (i:=(tG bn b).at_) (size:=1) underlying27 ae rfl rfl rfl rr) rfl ?_);rw[show E b-(tG bn b).at_=E (b.drop (tG bn b).at_) from(jM ..).symm];refine bp aqI rfl ((alS (bound:=bn) (m:=C8 bn b) (b:=b.drop (tG bn b).at_) (.cons (.cons hcut)) l0 aa aa aa).mono (R':=λr L=>∃g A1 c1 A2 c2,r= .tuple #[bq g,ah (GH bn b).2.1,ah 0]/\L=Rl g (wid bn (C8 bn b)) (2^wid bn (C8 bn b)) A1 c1 A2 c2 (GH bn b).1 (Cv g20 BZ CP (tG bn b):: .own 5 1 BZ (E b) CP (bv b)::F)) (λr L h=>by rcases h with⟨h1,_⟩|⟨_,h⟩;exact absurd hRw h1;exact h)) rfl ?_;rintro _ _ ⟨g42,P42,p42,Q42,q42,rfl,cR⟩;obtain rfl:=cR.symm;refine aD 7 [7,10,11,12] 0 ?_;refine ag 8 (λxk=>?_) λxk=>?_
      ·exfalso;exact xk rfl
      ·refine dw ?_;refine ai rfl ((Nc).pY ((pu3 (gh (gh (gh (.refl _))))))) (aX ?_);refine ab (bF rfl rfl (r:=(((tG bn b).at_+(GH bn b).2.1:Nat):Int)) ((bj aa aa).trans aa)) rfl (dw ?_);have hz:=Sd (b:=b) jq kq (show¬C8 bn b=0 by omega) (by simpa using hRw);refine ak (L':=Rl g42 (wid bn (C8 bn b)) (2^wid bn (C8 bn b)) P42 p42 Q42 q42 (GH bn b).1 F) ((dL (dL (dL (.s2 (.refl _)))))) (aX ?_);exact .inr ⟨ox,wid bn (C8 bn b),_,g42,P42,p42,Q42,q42,rfl,xV aa,ox,ox⟩
 ·refine fw func268 54 [0,1] ?_;refine bf 10 6 18 [0,1] (bound<0\/20000<bound) ?_ ?_
  ·refine bk 3 (λmj=>?_) (λmj=>?_)
   ·exact ax 4 (k:=oJ)
   ·exact ax 2 (k:=wm)
  ·refine ag 2 (λjq=>?_) λjq=>?_
   ·refine dh ?_;exact .inl ⟨by rw[Eh jq];decide,by rw[Eh jq],rfl⟩
   ·obtain⟨bn,rfl⟩:=gl (show 0<=bound by omega);have auU:=hnb aa;refine dx ?_;refine dV rfl (n_ hb aa) λg20 BZ CP=>dg ?_;refine ai rfl (hint aA) (dg ?_);refine ai rfl (ik) (ag 9 (λkq=>?_) λkq=>?_)
    ·refine dh ?_;refine ak (L':=F) (.s2 (.refl _)) (aX ?_);exact .inl ⟨by rw[Ei jq kq];exact kq,by rw[Ei jq kq],rfl⟩
    ·refine ag 9 (λwv=>?_) λwv=>?_
     ·refine aX ?_;refine aM 57 1 none (aM 3 1 none (jP ((z_ (z_ (gh (gh (.refl _)))))) ?_));refine aX ?_;refine ab (eW [ah 0,.slice none 0 0,.slice none 0 0] ae) rfl (fM λg32=>?_);refine aX ?_;refine ai rfl ((Nc).pY ((oI (gh (.refl _))))) (aD 3 [4,5,6] 3 ?_);have hz:=Ko (b:=b) jq kq (show C8 bn b=0 by omega);refine ak (L':=Rl g32 0 1 none 0 none 0 [] F) ((dL (lU (lU (.s2 (.refl _)))))) (aX ?_);exact .inr ⟨ox,0,1,g32,none,0,none,0,rfl,aa,ox,ox⟩
     ·refine cY ?_;refine ai rfl (Nc) (ab (bV (i:=(tG bn b).at_) (size:=1) underlying27 ae rfl rfl rfl rr) rfl ?_);rw[show E b-(tG bn b).at_=E (b.drop (tG bn b).at_) from(jM ..).symm];refine ai rfl ((alS (bound:=bn) (m:=C8 bn b) (b:=b.drop (tG bn b).at_) (.cons (.cons hcut)) l0 aa aa aa).mono (R':=λr L=>r= .tuple #[.pointer none,ah 0,ah (GH bn b).2.2]/\L=Cv g20 BZ CP (tG bn b):: .own 5 1 BZ (E b) CP (bv b)::F) (λr L h=>by rcases h with⟨_,h⟩|⟨h1,_⟩;exact h;exact absurd h1 hRw)) (aD 7 [7,10,11,12] 0 ?_);refine ag 8 (λxk=>?_) λxk=>?_
      ·refine dh ?_;have hz:=acD (b:=b) jq kq (show¬C8 bn b=0 by omega) hRw;refine ak (L':=F) (.s2 (.refl _)) (aX ?_);exact .inl ⟨by rw[hz];exact hRw,ox,rfl⟩
      ·exfalso;exact xk hRw
end Go.Proofs.YtaodmbolhoafcaaGreatDoor

/-
  Texts of one proof, joined: part 10. No condition.
-/
import Derived.Test.YtaodmbolhoafcaaGreatDoorZc9
open Go.RowKit Go.Proofs.Tryz
namespace Go.Proofs.YtaodmbolhoafcaaGreatDoor
set_option linter.unusedVariables false
set_option linter.unusedSimpArgs false
set_option maxRecDepth 20000
variable{B:Nat}{w0:World}{F L:aP}{A A1 A2 Ao:bj}{n c c1 c2 co g g1 g2:Nat}{fl:al}{q:List Bool}{X:cV}{bt:TypeId}{s1 s2 s3 s4 s5:Value}{l l1 l2 l3 l4 l5:al}{M:aP}{A3:bj}{c3 gr gc:Nat}{s:Cs}
section
variable{sl:al}
theorem aaR{P:Prop}(h:P:=by(simp only at k;omega)):P:=h
theorem ak6{v:Nat}(h:v≠0):Lr v=v.log2+1:=by
 unfold Lr;simp[h]
theorem Ug{v:Nat}(h1:v≠0)(h2:v<4096):a_ B w0 282 [ah v] F (fun r L=>r= .tuple #[ah (pO v),ah (JM v)]∧L=F):=by
 have hb:=JN (v:=v) (k:=11) aa h1;have he:=QD h1;have c_:=ak6 h1;have PZ:pO v=v.log2:=rfl;refine fw func282 13 [0] ?_;refine bQ ?_;refine ab (bm underlying3 underlying192 rfl (r:=(v:Int)) (f_ aa aa)) rfl ?_;refine ai rfl (aj' v aa) ?_;refine ab (dw rfl rfl (r:=((pO v:Nat):Int)) ((bE aa aa).trans aa)) rfl ?_;refine bJ ?_;refine b7 (ga rfl rfl aa (r:=((2^pO v:Nat):Int)) (by have:=O3 (x:=1) (d:=pO v) (e:=(pO v:Int)) rfl aa aa;rw[rh]at this;exact this)) rfl ?_;refine b7 (dw rfl rfl (r:=((JM v:Nat):Int)) ((bE aa aa).trans aa)) rfl ?_;refine bz ?_;exact⟨rfl,rfl⟩
def Sw(p:Qf):cV:=[ah (p.1:Int),ah (p.2.1:Int),ah (p.2.2.1:Int),ah (p.2.2.2:Int)]
theorem ZK{t:bO}(h:¬e_ t):a_ B w0 245 [.agg (bO.cells t).toArray] F (fun r L=>r= .tuple #[.agg (Sw (0,0,0,0)).toArray,ah 7]∧L=F):=by
 obtain⟨x,tn,td⟩:=t;refine ct func245 38 rfl rfl rfl [(0,.agg #[.int .u8 (x.toNat:Int),ah tn,ah td])] ⟨⟨rfl,rfl⟩,trivial⟩ ?_;refine be ?_;refine bh fun g1=>?_;refine bc fun g2=>?_;refine bL ?_;refine ai rfl (adt (x,tn,td)) ?_;refine bF ?_;refine aj (fun jF=>?_) fun jF=>?_
 ·refine be ?_;refine ab (cj [ah 0,ah 0,ah 0,ah 0] ag) rfl ?_;refine bz ?_;refine aq (.cons (.skip (.refl _))) ?_;refine gT rfl rfl ag aV gC rfl (.skip (.refl _)) ?_;exact⟨rfl,rfl⟩
 ·exfalso;exact jF h
theorem aeI{t:bO}(h:e_ t):a_ B w0 245 [.agg (bO.cells t).toArray] F (fun r L=>r= .tuple #[.agg (Sw (bK t)).toArray,ah 0]∧L=F):=by
 obtain⟨x,tn,td⟩:=t;have hx:=x.toNat_lt;have hm:=fun h0=>EG (tl:=x) (tn:=tn) (td:=td) h h0;refine ct func245 38 rfl rfl rfl [(0,.agg #[.int .u8 (x.toNat:Int),ah tn,ah td])] ⟨⟨rfl,rfl⟩,trivial⟩ ?_;refine be ?_;refine bh fun g1=>?_;refine bc fun g2=>?_;refine bL ?_;refine ai rfl (adt (x,tn,td)) ?_;refine bF ?_;refine aj (fun jF=>?_) fun jF=>?_
 ·exfalso;exact jF h
 ·refine bA ?_;refine aj (fun kg=>?_) fun kg=>?_
  ·have hp:bK (x,tn,td)=(x.toNat,0,0,0):=by unfold bK;rw[ao kg]
   rw[hp];refine b8 ?_;refine ab (bm underlying5 underlying3 rfl (r:=(x.toNat:Int)) (bE aa aa)) rfl ?_;refine ab (bw [(0,_)] [ah 0,ah 0,ah 0,ah 0] [0] [_,_,_,_] rfl rfl ag) rfl ?_;refine bz ?_;refine aq (.cons (.skip (.refl _))) ?_;refine gT rfl rfl ag aV gC rfl (.skip (.refl _)) ?_;exact⟨rfl,rfl⟩
  ·obtain⟨h1,h2,h3,h4,h5⟩:=hm kg;obtain⟨a,ha⟩:=cN ((tn-2).toNat);obtain⟨d,hd⟩:=cN (td.toNat);have hp:bK (x,tn,td)=(257+pO a,JM a,pO d,JM d):=by unfold bK;rw[aw kg,ha,hd]
   rw[hp];have hb:=JN (v:=a) (k:=7) aa aa;refine bz ?_;refine ab (dw rfl rfl (r:=(a:Int)) ((bE aa aa).trans aa)) rfl ?_;refine ai rfl (Ug (v:=a) aa aa) ?_;refine bA ?_;refine ab (bM (v:=ah (d:Int)) ag rfl aV (by show some (Value.int .i64 td)=_;congr 2;omega)) rfl ?_;refine ai rfl (Ug (v:=d) aa aa) ?_;refine bG ?_;refine ve [2,4,5,6,7] ?_;refine b8 ?_;refine ab (bY rfl rfl (r:=((257+pO a:Nat):Int)) ((bE aa aa).trans aa)) rfl ?_;refine bF ?_;refine ab (eG [(0,_),(1,_),(2,_),(3,_)] [_,_,_,_] rfl rfl ag) rfl ?_;refine bG ?_;refine aq (.cons (.skip (.refl _))) ?_;refine gT rfl rfl ag aV gC rfl (.skip (.refl _)) ?_;exact⟨rfl,rfl⟩
def cS(l:List bO)(s:Nat):Nat:=l.countP fun t=>(bK t).1==s
def yL(l:List bO):bf:=(List.range 265).map (cS l)
def pf(l:List bO):bf:=(List.range 12).map (wB l)
@[simp] theorem Fw(l:List bO):(yL l).length=265:=by simp[yL]
@[simp] theorem xP(l:List bO):(pf l).length=12:=by simp[pf]
theorem yM(l:List bO){s:Nat}(h:s<265):(yL l).getD s 0=cS l s:=by
 simp[yL,bk,h]
theorem DT(l:List bO){s:Nat}(h:s<12):(pf l).getD s 0=wB l s:=by
 simp[pf,bk,h]
theorem agI(l:List bO)(t:bO)(s:Nat):cS (l++[t]) s=cS l s+if (bK t).1=s then 1 else 0:=by
 unfold cS;rw[List.countP_append,N5,List.countP_nil];simp
theorem HJ(l:List bO)(t:bO)(s:Nat):wB (l++[t]) s=wB l s+if 256<(bK t).1∧(bK t).2.2.1=s then 1 else 0:=by
 unfold wB;rw[List.countP_append,N5,List.countP_nil];simp
theorem ZU(l:List bO){t:bO}(h:(bK t).1<265):(yL l).set (bK t).1 (cS l (bK t).1+1)=yL (l++[t]):=by
 apply pV
 ·simp
 ·intro i h1 h2;rw[N6];simp only[yL,Ev,GX,agI];by_cases e:(bK t).1=i
  ·subst e;rw[ao rfl,ao rfl]
  ·rw[aw e,aw e];rfl
theorem XV(l:List bO){t:bO}(h:256<(bK t).1)(h2:(bK t).2.2.1<12):(pf l).set (bK t).2.2.1 (wB l (bK t).2.2.1+1)=pf (l++[t]):=by
 apply pV
 ·simp
 ·intro i h3 h4;rw[N6];simp only[pf,Ev,GX,HJ];by_cases e:(bK t).2.2.1=i
  ·subst e;rw[ao rfl,ao ⟨h,rfl⟩]
  ·rw[aw e,aw (fun k=>e k.2)];rfl
theorem XU(l:List bO){t:bO}(h:¬256<(bK t).1):pf (l++[t])=pf l:=by
 unfold pf;refine r9 fun s _=>?_;rw[HJ,aw (fun k=>h k.1)];rfl
theorem abb(l:List bO)(s:Nat):cS l s≤l.length:=ac9
theorem Uj(l:List bO)(s:Nat):wB l s≤l.length:=ac9
def Cn(l:List bO):bf:=(yL l).set 256 (cS l 256+1)
@[simp] theorem Fx(l:List bO):(Cn l).length=265:=by simp[Cn]
theorem ru{t:bO}(h:e_ t):(bK t).1<265∧(bK t).1≠256∧(256<(bK t).1→(bK t).2.2.1<12):=by
 by_cases h0:t.2.1=0
 ·rw[(u7 h h0).1];have:=lQ t.1;exact⟨cZ,cZ,fun k=>aaR⟩
 ·have:=nF h h0;exact⟨aa,aa,fun _=>aa⟩
theorem aiU{l:List bO}(h:∀t∈l,e_ t):oN (Cn l)=JO l:=by
 funext s;unfold oN Cn JO;by_cases hs:s<265
 ·rw[bk,BG];by_cases e:256=s
  ·subst e;simp[cS]
  ·rw[aw e,←bk,yM l hs,aw (fun k=>e k.symm)];rfl
 ·rw[bk,zX bR,aw aa];have:l.countP (fun t=>(bK t).1==s)=0:=List.countP_eq_zero.2 fun t ht=>by
   have:=(ru (h t ht)).1;simp;omega
  rw[this];rfl
theorem ag8{l:List bO}(h:∀t∈l,e_ t):oN (pf l)=wB l:=by
 funext s;unfold oN;by_cases hs:s<12
 ·exact DT l hs
 ·rw[bk,zX bR];have:wB l s=0:=List.countP_eq_zero.2 fun t ht=>by
   have:=(ru (h t ht)).2.2;simp only[zZ,NW,beq_iff_eq,not_and];intro k;have:=this k;omega
  rw[this];rfl
def pY(L:bf):cV:=ints .u32 (L.map fun(n:Nat)=>(n:Int))
theorem FN(L:bf):(pY L).length=L.length:=by simp[pY]
theorem La{L:bf}{k v:Nat}(h:k<L.length)(hv:L.getD k 0=v):(pY L)[k*1]? =some (.int .u32 ((v:Nat):Int)):=by
 rw[←hv];exact FM h
theorem yQ(L:bf)(k v:Nat):(pY L).set (k*1) (.int .u32 (v:Int))=pY (L.set k v):=by simp[pY,ints,Ku]
theorem TA{x:Int}(h1:0≤x)(h2:x<4294967296):IntKind.u32.wrap x=x:=by
 rw[IntKind.wrap_u32];omega
def aaA(l:List bO)(F:aP)(r:Value)(L:aP):Prop:=
 ∃A1 A2,r= .tuple #[.slice A1 265 265,.slice A2 12 12,ah 0]∧L= .own 135 1 A1 265 265 (pY (Cn l)):: .own 135 1 A2 12 12 (pY (pf l))::F
def spP(t:bO):Qf:=if e_ t then bK t else (0,0,0,0)
def spE(t:bO):Int:=if e_ t then 0 else 7
theorem afv(t:bO):a_ B w0 245 [.agg (bO.cells t).toArray] F (fun r L=>r= .tuple #[.agg (Sw (spP t)).toArray,ah (spE t)]∧L=F):=by
 unfold spP spE;by_cases h:e_ t
 ·rw[ao h,ao h];exact aeI h
 ·rw[aw h,aw h];exact ZK h
theorem Pu{t:bO}{ps px pc py:Nat}(h:spP t=(ps,px,pc,py)):a_ B w0 245 [.agg (bO.cells t).toArray] F (fun r L=>r= .tuple #[.agg #[ah (ps:Int),ah (px:Int),ah (pc:Int),ah (py:Int)],ah (spE t)]∧L=F):=by
 have:=afv (B:=B) (w0:=w0) (F:=F) t;rw[h]at this;exact this
open Classical in
def CV(l:List bO)(F:aP)(r:Value)(L:aP):Prop:=if∀t∈l,e_ t then aaA l F r L else r= .tuple #[.slice none 0 0,.slice none 0 0,ah 7]∧L=F
theorem vm(n:Nat):List.replicate n (Value.int .u32 0)=pY (List.replicate n 0):=by simp[pY,ints]
theorem O':yL []=List.replicate 265 0:=by
 unfold yL cS;exact List.eq_replicate_iff.2 ⟨ak,fun b hb=>by
  obtain⟨s,_,rfl⟩:=pM.1 hb;rfl⟩
theorem M9:pf []=List.replicate 12 0:=by
 unfold pf wB;exact List.eq_replicate_iff.2 ⟨ak,fun b hb=>by
  obtain⟨s,_,rfl⟩:=pM.1 hb;rfl⟩
theorem Ut{l:List bO}(hb:aJ B w0 F 3 (.slice A l.length c) l.length (kT l))(hl:l.length≤32768):
  a_ B w0 202 [.slice A l.length c] F (CV l F):=by
 refine fw func202 52 [0] ?_;refine bL ?_;refine d_ (fun zf zL=>∃(A1 A2:bj),Sub zf [(0,.slice A l.length c),(5,.slice A1 265 265),(6,.slice A2 12 12)]∧Wk zL (.own 135 1 A1 265 265 (pY (yL [])):: .own 135 1 A2 12 12 (pY (pf []))::F)) ?_ ?_
 ·refine cF _ ?_;refine gV 0 1 ?_ ?_
  ·refine cR rfl (fb (nn:=265) (cc:=265) KW rfl rfl rfl rfl rfl aa aa aa) fun tz=>?_;refine ae 2 ?_;refine az 1 ?_;refine cR rfl (fb (nn:=12) (cc:=12) KW rfl rfl rfl rfl rfl aa aa aa) fun PN=>?_;refine ae 3 ?_;refine aF ?_;exact bC ⟨tz,PN,bp,.trans ((gl (ed (.refl _)))) (ax rfl (by rw[O',←vm]) (ax rfl (by rw[M9,←vm]) (.refl _)))⟩
  ·refine cR rfl (fb (nn:=12) (cc:=12) KW rfl rfl rfl rfl rfl aa aa aa) fun PN=>?_;refine az 0 ?_;refine cR rfl (fb (nn:=265) (cc:=265) KW rfl rfl rfl rfl rfl aa aa aa) fun tz=>?_;refine ae 2 ?_;refine ae 3 ?_;refine aF ?_;exact bC ⟨tz,PN,bp,ax rfl (by rw[O',←vm]) (ax rfl (by rw[M9,←vm]) (.refl _))⟩
 ·rintro _ _ ⟨A1,A2,hs,hp⟩;refine aU hs hp ?_;clear hs hp;refine bQ ?_;refine aE (fun zf zL zm=>∃(k:Nat),(k≤l.length∧∀t∈l.take k,e_ t)∧l.length-k=zm∧Sub zf [(5,.slice A1 265 265),(6,.slice A2 12 12),(13,.slice A l.length c),(14,ah l.length),(15,ah k)]∧Wk zL (.own 135 1 A1 265 265 (pY (yL (l.take k))):: .own 135 1 A2 12 12 (pY (pf (l.take k)))::F)) _ ⟨0,⟨bT _,fun t h=>ki⟩,rfl,bp,.refl _⟩ ?_;rintro _ _ _ ⟨k,⟨hk,hmk⟩,rfl,hs,hp⟩;refine aU hs hp ?_;clear hs hp;refine bz ?_;refine aj (fun kh=>?_) fun kh=>?_
  ·obtain⟨t,ht⟩:=cN (Jc l k);have htv:=FL (l:=l) (k:=k) aa;rw[←ht]at htv;have tX:l.take (k+1)=l.take k++[t]:=by rw[ht];exact ba aa _
   have htm:t∈l:=by rw[ht];exact bg aa _
   obtain⟨⟨ps,px,pc,py⟩,hP⟩:∃P,spP t=P:=⟨_,rfl⟩
   refine bL ?_;refine ab (dI 3 ag rfl aB aa [.int .u8 (t.1.toNat:Int),ah t.2.1,ah t.2.2] (sk htv) rfl) rfl ?_;refine bc fun g8=>?_;refine bz ?_;refine ai rfl (Pu (t:=t) hP) ?_;refine bF ?_;refine bc fun g9=>?_;refine cY ?_;refine aj (fun zJ=>?_) fun zJ=>?_
   ·have hnm:¬e_ t:=fun h=>zJ (by unfold spE;rw[ao h]);have NC:¬∀t∈l,e_ t:=fun h=>hnm (h t htm);refine bz ?_;refine ve [2,3,4] ?_;refine bJ ?_;refine aq (.skip (.skip (.skip (.skip (.refl _))))) ?_;refine aF ?_;unfold CV;rw[aw NC];exact⟨by unfold spE;rw[aw hnm],rfl⟩
   ·have fG:e_ t:=bH fun h=>zJ (by unfold spE;rw[aw h];decide);obtain⟨Cb,hp2,hp3⟩:=ru fG;have Kk:spP t=bK t:=by unfold spP;rw[ao fG]
    have tR:=abb (l.take k) (bK t).1;have hcf:=Uj (l.take k) (bK t).2.2.1;rw[eS]at tR hcf;have kY:=ZU (l.take k) Cb;have jH:=fun h=>XV (l.take k) h (hp3 h);have wN:=XU (l.take k) (t:=t);have aqf:∀u∈l.take (k+1),e_ u:=fun u hu=>by
     rw[tX]at hu;rcases dz.1 hu with hu|hu
     ·exact hmk u hu
     ·rw[lF.1 hu];exact fG
    rw[←tX]at kY jH wN;rw[Kk]at hP;rw[hP]at Cb hp2 hp3 tR hcf kY jH wN;simp only at Cb hp2 hp3 tR hcf kY jH wN;have hL1:=Fw (l.take k);have hL2:=xP (l.take k);have hg1:=yM (l.take k) Cb;have Nu:=DT (l.take k) (s:=pc);obtain⟨q1,hq1⟩:=cN (cS (l.take k) ps);obtain⟨q2,Rz⟩:=cN (wB (l.take k) pc);rw[←hq1]at tR kY hg1;rw[←Rz]at hcf jH Nu;have hlk:=FN (yL (l.take k));have Nz:=FN (pf (l.take k));refine bJ ?_;refine ab (au ag rfl aB aa (La aa hg1)) rfl ?_;refine ab (bY rfl rfl (r:=((q1+1:Nat):Int)) ((TA aa aa).trans aa)) rfl ?_;refine be ?_;refine ve [5,6,9,13,14,15] ?_;refine bJ ?_;refine aj (fun y8=>?_) fun y8=>?_
    ·have asp:=Nu (hp3 aa);have asK:=jH aa;have atY:=hp3 aa;refine bG ?_;refine ab (au ag rfl aB aa (La aa asp)) rfl ?_;refine ab (bY rfl rfl (r:=((q2+1:Nat):Int)) ((TA aa aa).trans aa)) rfl ?_;refine bQ ?_;refine av ⟨_,aa,k+1,⟨aa,aqf⟩,rfl,bp,.skip (.skip (ax rfl (by rw[yQ,kY]) (ax rfl (by rw[yQ,asK]) (.refl _))))⟩
    ·have asL:=wN aa;refine bL ?_;refine av ⟨_,aa,k+1,⟨aa,aqf⟩,rfl,bp,.skip (.skip (ax rfl (by rw[yQ,kY]) (ax rfl (by rw[asL]) (.refl _))))⟩
  ·refine bz ?_;obtain rfl:k=l.length:=by omega
   rw[jU]at*;have hL1:=Fw l;have hlk:=FN (yL l);have hg1:=yM l (s:=256) aa;have tR:=abb l 256;obtain⟨q1,hq1⟩:=cN (cS l 256);rw[←hq1]at hg1 tR;refine be ?_;refine ab (aC (i:=256) (size:=1) underlying213 ag rfl rfl rfl aa aB) rfl ?_;refine ab (au ag rfl aB aa (La aa hg1)) rfl ?_;refine ab (bY rfl rfl (r:=((q1+1:Nat):Int)) ((TA aa aa).trans aa)) rfl ?_;refine ab (aC (i:=256) (size:=1) underlying213 ag rfl rfl rfl aa aB) rfl ?_;refine dQ ?_;unfold CV;rw[ao hmk];exact⟨_,_,rfl,by rw[yQ,hq1];rfl⟩
end
theorem aax(z:Value)(m:Nat):(Builtin.zeroCells #[z] m).toList=List.replicate m z:=by
 apply pV
 ·simp[Builtin.zeroCells]
 ·intro k h1 h2;simp[Builtin.zeroCells,Nat.mod_one]
theorem aev{P:Program}{t xt e:TypeId}{bytes:Nat}(T:sC P t e 1 bytes (.int .u8 0))(hx:P.underlying xt=some (.int .u64))(ty:TypeId){w:World}{g n c m:Nat}{cur:Array Value}(hg:w.heap[g]? =some (.cells cur e (0,0)))(hm:0<m)(qZ:n+m≤c)(GK:n+m≤cur.size)(hb:m*bytes≤281474976710656)(GF:m≤281474976710656):
  (Builtin.append_ #[t,xt] ty #[.slice (some ⟨g,0,none⟩) n c,.int .u64 m]).run P w= .ok (.slice (some ⟨g,0,none⟩) (n+m) c) (w.setRow g (cur.toList.take n++List.replicate m (Value.int .u8 0)++cur.toList.drop (n+m)).toArray):=by
 obtain⟨i,hi,hz,i_,D8⟩:=T.hi;have sI:=run_storeCells_at P g n e (List.replicate m (Value.int .u8 0)) 0 cur w hg (by simpa using GK) (by intro v hv;rw[(List.mem_replicate.1 hv).2];rfl);simp only[ta,x_]at sI;have hw:IntKind.i64.wrap (m:Int)=m:=bE aa aa;have asD:¬(m:Int)<0:=by omega
 have Nq:¬(281474976710656:Int)<(m:Int)*(bytes:Int):=by
  rw[←z6];generalize m*bytes=y at hb⊢;omega
 have hm0:¬m=0:=by omega
 have hzc:(Value.int IntKind.u8 0).cells= #[Value.int IntKind.u8 0]:=rfl;simp[Builtin.append_,iO T.ht,iO hx,asInt,asIntOf,sizeOf,typeInfo,zeroValue,hi,hz,i_,D8,hw,asD,Nq,hm0,qZ,zW,hzc,aax,sI]
theorem abE{C:Cx}{fr:Fr}{L:aP}{x y:Operand}{ty t xt e:TypeId}{f:Ch→aP}{bytes:Nat}(T:sC C.P t e 1 bytes (.int .u8 0))(hx:C.P.underlying xt=some (.int .u64)){A:bj}{n c m:Nat}{k:Int}{xs:cV}(he:ev fr x=some (.slice A n c))(hs:mC (.own e 1 A n c xs) L f)(hy:ev fr y=some (.int .u64 k))(hk:k=(m:Int))(hm:0<m)(qZ:n+m≤c)(hb:m*bytes≤281474976710656)(GF:m≤281474976710656):
  qp C fr L (.call {callee:=.builtin .append,args:= #[x,y],argTypes:= #[t,xt]}) ty (fun p L'=>p= .slice A (n+m) c∧L'=f (.own e 1 A (n+m) c (xs++List.replicate m (Value.int .u8 0)))):=fun a w ha hw d pos af gg=>by
 subst hk;have mj:=hw.all _ hs.mem;obtain⟨k1,k2,k3⟩:=mj;have qF:¬c=0:=by omega
 obtain⟨g,cur,rfl,Yj,hg,hcm,tR,ph⟩:=k3.resolve_left qF;have hr:=aev (P:=C.P) T hx ty hg hm qZ aa hb GF;simp only[cE]at k1 tR ph;refine⟨_,_,_,.inl ?_,⟨rfl,rfl⟩,hw.Qb hs (w':=w.setRow g (cur.toList.take n++List.replicate m (Value.int .u8 0)++cur.toList.drop (n+m)).toArray) ?_ (fun _=>⟨by simp[k1],qZ,.inr ⟨g,_,rfl,Yj,N0 w g cur _ e _ hg,hcm,?_,?_⟩⟩) (.inr (.inl Hp))⟩
 ·simp[execOp,resolve,invoke,builtin,ha.tmp he,ha.tmp hy,hr]
 ·rw[show(Ch.own e 1 (some ⟨g,0,none⟩) n c xs).fp=some g by simp[Ch.fp,qF]];exact⟨rfl,rfl,rfl,ak,fun k _ hk=>N2 w g k _ (fun e=>hk xq)⟩
 ·simp only[wR,aY,eS,iG,N1,x_];omega
 ·rw[ph];have hlen:(xs++List.replicate m (Value.int .u8 0)).length=n+m:=by simp[k1]
  simp only[cE];rw[←hlen];exact yf
theorem J2{C:Cx}{fr:Fr}{L:aP}{x y:Operand}{ty t e:TypeId}{f:Ch→aP}{bytes:Nat}{z:Value}(T:sC C.P t e 1 bytes z){A:bj}{n c m:Nat}{xs:cV}(he:ev fr x=some (.slice A n c))(hs:mC (.own e 1 A n c xs) L f){yv:Value}{news:cV}(hy:ev fr y=some yv)(hb:aJ C.B C.w0 L 1 yv m news)(h1:∀u∈news,u.oneCell'=true)(hm:0<m)(qZ:n+m≤c):
  qp C fr L (.call {callee:=.builtin .append,args:= #[x,y],argTypes:= #[t,t]}) ty (fun p L'=>p= .slice A (n+m) c∧L'=f (.own e 1 A (n+m) c (xs++news))):=fun a w ha hw d pos af gg=>by
 obtain⟨i,hi,hz,i_,D8⟩:=T.hi;obtain⟨X,cx,rfl,hmc,hl,tW⟩:=hb w hw;obtain⟨ad,rfl,_,D_⟩:=tW hm;have mj:=hw.all _ hs.mem;obtain⟨k1,k2,k3⟩:=mj;have qF:¬c=0:=by omega
 obtain⟨g,cur,rfl,Yj,hg,hcm,tR,ph⟩:=k3.resolve_left qF;simp only[cE]at k1 tR ph hl;have hr:=run_append_room (P:=C.P) w t ty e i T.ht hi g n c cur hg ad m cx news (by rw[hl,i_,cE]) D_ h1 qZ (by rw[i_,cE,hl,tR];exact qZ);rw[i_,cE,hl]at hr;refine⟨_,_,_,.inl ?_,⟨rfl,rfl⟩,hw.Qb hs (w':=w.setRow g (cur.toList.take n++news++cur.toList.drop (n+m)).toArray) ?_ (fun _=>⟨by simp[k1,hl],qZ,.inr ⟨g,_,rfl,Yj,N0 w g cur _ e _ hg,hcm,?_,?_⟩⟩) (.inr (.inl Hp))⟩
 ·simp[execOp,resolve,invoke,builtin,ha.tmp he,ha.tmp hy,hr]
 ·rw[show(Ch.own e 1 (some ⟨g,0,none⟩) n c xs).fp=some g by simp[Ch.fp,qF]];exact⟨rfl,rfl,rfl,ak,fun k _ hk=>N2 w g k _ (fun e=>hk xq)⟩
 ·simp only[wR,aY,eS,iG,N1];omega
 ·rw[ph];have hlen:(xs++news).length=n+m:=by simp[k1,hl]
  simp only[cE];rw[←hlen];exact yf
theorem an5{P:Prop}(h:P:=by(first|(exact .inl (by simpa using Q_))|(exact⟨fun h=>.inr (by omega),fun h=>h.elim (fun h=>by simp_all) (fun h=>by omega)⟩))):P:=h
theorem og:type_of% @List.perm_append_comm_assoc:= @List.perm_append_comm_assoc
theorem WA(a b x y:Ch)(F:aP):(a::b::x::y::F).Perm (x::y::a::b::F):=og [a,b] [x,y] F
theorem Wz(x a b:Ch)(F:aP):(x::a::b::F).Perm (a::b::x::F):=og [x] [a,b] F
theorem aaa{a a':al}{b b':Int}{c c':Nat}(h:(a,b,c)=(a',b',c')):a=a'∧b=b'∧c=c':=by injection h with x y;injection y with y z;exact⟨x,y,z⟩
theorem MB(q:List Bool)(p0:Nat)(Vb:p0≤q.length)(hq:q.length≤8000000)(n:Int)(h1:-9223372036854775808≤n)(h2:n≤9223372036854775807)(Xb:al)(e':Int)(p':Nat)(hR:qG q p0 n=(Xb,e',p')):
  a_ B w0 346 [br g,ah n] (Rr g A c q p0 F) (fun r L=>∃A' c',r= .tuple #[.slice A' Xb.length c',ah e']∧L=Rr g A c q p' (.own 5 1 A' Xb.length c' (bv Xb)::F)):=by
 refine fw func346 70 [0,1] ?_;refine bJ ?_;refine aZ 5 1 none ?_;refine aF ?_;refine bW 6 17 [0,1] (n<0∨300<n) ?_ ?_
 ·refine bF ?_;refine aL rfl rfl rfl (fun kg=>?_) (fun kg=>?_)
  ·refine b8 ?_;exact aQ aaY
  ·refine be ?_;exact aQ ago
 ·refine be ?_;refine aj (fun iF=>?_) fun iF=>?_
  ·rw[qG,ao iF]at hR;obtain⟨rfl,rfl,rfl⟩:=aaa hR;refine bJ ?_;refine aq (Wk.dD (Wz _ _ _ _)) ?_;refine aF ?_;exact⟨none,0,rfl,rfl⟩
  ·obtain⟨N,rfl⟩:=gM (show 0≤n by omega);rw[qG,aw iF,nB]at hR;refine bG ?_;refine cC (fb (nn:=0) cD rfl rfl rfl rfl rfl aa aa aa) fun Ln=>?_;refine bA ?_;refine aE (fun zf zL zm=>∃(f p:Nat) (acc:al) (s:Bool) (A6:bj),(acc.length≤N∧N≤acc.length+f∧p≤q.length∧lH q N f p acc s=(Xb,e',p'))∧N-acc.length=zm∧Sub zf [(0,br g),(1,ah N),(6,.slice A6 acc.length N),(7,.bool s)]∧Wk zL (Rr g A c q p (.own 5 1 A6 acc.length N (bv acc):: .own 5 1 none 0 0 []::F))) _ ⟨N,p0,[],false,Ln,⟨bT _,ak,Vb,hR⟩,rfl,bp,Wk.dD (WA _ _ _ _ _)⟩ ?_;rintro _ _ _ ⟨f,p,acc,s,A6,⟨Ga,haf,hpq,tW⟩,rfl,hs,hp⟩;refine aU hs hp ?_;clear hs hp;refine bQ ?_;refine aj (fun nM=>?_) fun nM=>?_
   ·obtain⟨f',rfl,atD,acO⟩:=aee tW haf aa;have hv4:oG q p 4<16:=zI q p (n:=4) aa;have hv6:oG q (iE q p 4) 6<64:=zI q (iE q p 4) (n:=6) aa;have hp4:=qw (q:=q) (p:=p) 4 hpq;have hp6:=qw (q:=q) (p:=iE q p 4) 6 hp4;refine bz ?_;refine ai rfl (Ii q p hpq hq 4 aa aa) ?_;refine dQ ?_;refine aj (fun Bv=>?_) fun Bv=>?_
    ·have Yf:=aiv acO aa Bv;obtain⟨rfl,rfl,rfl⟩:=aaa Yf;refine bG ?_;refine ve [4,5] ?_;refine bL ?_;refine aq (bq rfl (ax rfl rfl (.skip (.refl _)))) ?_;refine aF ?_;exact⟨none,0,rfl,rfl⟩
    ·refine bQ ?_;refine aj (fun h33=>?_) fun h33=>?_
     ·have hrn:=V8 acO aa aa aa;have tu:(acc++[UInt8.ofNat (oG q p 4)]).length=acc.length+1:=by simp
      refine bG ?_;refine cC (DK cD rfl rfl) fun A37=>?_;refine lL (J2 cD rfl aV rfl aB L4 aa aa) rfl ?_;rintro _ _ ⟨rfl,rfl⟩;rw[←tu];refine aF ?_;refine ve [0,1,6] ?_;refine bQ ?_;refine av ⟨_,aa,f',iE q p 4,acc++[UInt8.ofNat (oG q p 4)],false,A6,⟨bR,bR,hp4,hrn⟩,rfl,bp,.skip (bq rfl (ax rfl rfl (ax rfl (aoG aa _) (.refl _))))⟩
     ·refine bG ?_;refine ai rfl (Ii q (iE q p 4) hp4 hq 6 aa aa) ?_;refine bG ?_;refine ve [0,1,6,7,9,10] ?_;refine bJ ?_;refine aj (fun h45=>?_) fun h45=>?_
      ·have Yf:=aec acO aa aa aa h45;obtain⟨rfl,rfl,rfl⟩:=aaa Yf;refine de ?_;refine aq (bq rfl (ax rfl rfl (.skip (.refl _)))) ?_;refine aF ?_;exact⟨none,0,rfl,rfl⟩
      ·refine bG ?_;refine bW 10 56 [0,1,6,10] (s=true∨N≤acc.length+oG q (iE q p 4) 6) ?_ ?_
       ·refine be ?_;refine my rfl rfl rfl (fun Q_=>?_) (fun Q_=>?_)
        ·refine dQ ?_;exact aQ (by exact dN an5)
        ·refine bL ?_;exact aQ (by exact eF an5)
       ·refine be ?_;refine aj (fun PW=>?_) fun PW=>?_
        ·have Yf:=aed acO aa aa aa aa PW;obtain⟨rfl,rfl,rfl⟩:=aaa Yf;refine cJ ?_;refine aq (bq rfl (ax rfl rfl (.skip (.refl _)))) ?_;refine aF ?_;exact⟨none,0,rfl,rfl⟩
        ·have hrn:=V9 acO aa aa aa aa PW;have rK:(acc++List.replicate (oG q (iE q p 4) 6+1) (0:UInt8)).length=acc.length+(oG q (iE q p 4) 6+1):=by simp
         have P8:acc.length+oG q (iE q p 4) 6<N:=by by_cases h:N≤acc.length+oG q (iE q p 4) 6;exact absurd (.inr h) PW;omega
         refine bz ?_;refine ab (bY rfl rfl (f_ aa aa)) rfl ?_;refine lL (abE (m:=oG q (iE q p 4) 6+1) cD underlying60 rfl aV rfl aa aa aa aa aa) rfl ?_;rintro _ _ ⟨rfl,rfl⟩;rw[←rK];refine bG ?_;refine ab (bY rfl rfl (f_ aa aa)) rfl ?_;refine b8 ?_;refine av ⟨_,aa,f',iE q (iE q p 4) 6,acc++List.replicate (oG q (iE q p 4) 6+1) 0,_,A6,⟨bR,bR,hp6,hrn⟩,rfl,bp,bq rfl (ax rfl rfl (ax rfl (aa_ _ _) (.refl _)))⟩
   ·refine bL ?_;have hre:=V7 tW aa;refine be ?_;refine ai rfl (zl acc aB) ?_;refine bQ ?_;refine aj (fun U4=>?_) fun U4=>?_
    ·have hfn:=alp (p:=p) (show¬chk acc=0 by omega);rw[hfn.1]at hre;obtain⟨rfl,rfl,rfl⟩:=aaa hre;refine bQ ?_;refine aq (bq rfl (ax rfl rfl (.skip (.refl _)))) ?_;refine aF ?_;rw[hfn.2];exact⟨none,0,rfl,rfl⟩
    ·rw[alq (show chk acc=0 by omega)]at hre;obtain⟨rfl,rfl,rfl⟩:=aaa hre;refine bA ?_;have hNe:Xb.length=N:=by omega
     refine aq (bq rfl (ax rfl rfl (ax rfl rfl (.skip (.refl _))))) ?_;refine aF ?_;exact⟨A6,N,rfl,rfl⟩
section
variable{sl:al}
theorem LZ{P:Prop}(h:P:=by(simp only[aY];omega)):P:=h
theorem ak1{P:Prop}(h:P:=by(rw[tX,Th];simp only[bV])):P:=h
theorem Hf.mono{l:bf}(H:Hf B w0 F Ao co l){M:aP}(hs:F.Sublist M):Hf B w0 M Ao co l:=⟨H.xf.mono hs,H.lt⟩
theorem af0(Y:aP)(a b d:Ch)(F:aP):Wk (Y++a::b::d::F) (a::b::(Y++F)):=
 (Wk.dD (og Y [a,b,d] F)).trans (.cons (.cons (.skip (.refl _))))
theorem Uq{l:bf}(H:Hf B w0 F Ao co l)(hl:l.length≤300)(hq:q.length≤100000):
  a_ B w0 203 [br g,.slice Ao l.length co] (Wx X g 292 A c q F)
   (fun r L=>∃g' Y A' c',r= .pointer (some ⟨g',0,none⟩)∧L=Wx X g 292 A' c' (q++ik (kS (oN l) l.length) 0) (Y++F)∧xd B w0 Y g' (kS (oN l) l.length)):=by
 have acG:Good (kS (oN l) l.length):=lR aa;have hlb:(kS (oN l) l.length).length=l.length:=gz _ _;obtain⟨ls,hls⟩:=cN (kS (oN l) l.length);have Gc:=amm (B:=B) (w0:=w0) (H:=H.mono (M:=Wx X g 292 A c q F) (.cons _ (.cons _ (.refl _)))) hl;rw[←hls]at acG hlb Gc⊢;rw[←hlb]at Gc;refine fw func203 25 [0,1] ?_;refine bJ ?_;refine ay rfl ((by rw[←hlb];exact Gc)) fun A9 c9=>?_;refine de ?_;refine aX ao' rfl (.perm (Xw ls q aB acG aa) (Wz _ _ _ _)) rfl ?_;rintro _ _ ⟨rfl,sX,uO,cA⟩;obtain rfl:=cA.symm;refine bG ?_;refine aX ajN rfl (adB (l:=ls) aB acG) rfl ?_;rintro _ _ ⟨g19,Y,rfl,cA,xX⟩;obtain rfl:=cA.symm;refine bG ?_;refine ve [7] ?_;refine bJ ?_;refine aq (af0 _ _ _ _ _) ?_;refine aF ?_;exact⟨g19,Y,sX,uO,rfl,rfl,xX⟩
theorem afw{t:bO}(hm:e_ t){ps px pc py:Nat}(h:bK t=(ps,px,pc,py)):a_ B w0 245 [.agg (bO.cells t).toArray] F (fun r L=>r= .tuple #[.agg #[ah (ps:Int),ah (px:Int),ah (pc:Int),ah (py:Int)],ah 0]∧L=F):=by
 have:=Pu (B:=B) (w0:=w0) (F:=F) (t:=t) (ps:=ps) (px:=px) (pc:=pc) (py:=py) (by unfold spP;rw[ao hm,h]);unfold spE at this;rw[ao hm]at this;exact this
def Qh(sl fl:al)(t:bO):Prop:=e_ t∧(bK t).1<sl.length∧(sl.getD (bK t).1 0).toNat≠0∧(256<(bK t).1→(bK t).2.2.1<fl.length∧(fl.getD (bK t).2.2.1 0).toNat≠0)
abbrev Wt2(g1 g2 g:Nat)(A:bj)(c:Nat)(q:List Bool)(F:aP):aP:=Wx [br g1,br g2] g 292 A c q F
theorem ai'{t:bO}(ht:Qh sl fl t)(hs:Good sl)(hf:Good fl)(h1:xd B w0 F g1 sl)(h2:xd B w0 F g2 fl)(hq:q.length≤6000000):
  a_ B w0 204 [br g,.agg (bO.cells t).toArray] (Wt2 g1 g2 g A c q F) (fun r L=>r= .tuple #[]∧∃A' c',L=Wt2 g1 g2 g A' c' (q++vF sl fl t) F):=by
 obtain⟨fG,tu,Kl,hf2⟩:=ht;have Kk:spP t=bK t:=by unfold spP;rw[ao fG]
 have GN:=nF fG;have mJ:=u7 fG;have aqm:=ru fG;obtain⟨⟨ps,px,pc,py⟩,hP⟩:∃P,bK t=P:=⟨_,rfl⟩
 have hQ:vF sl fl t=hw sl ps++if ps<256 then [] else hi px (ps-257) (ps-257)++(hw fl pc++hi py pc pc):=by unfold vF;rw[hP]
 rw[hQ];rw[hP]at Kk tu Kl hf2 GN mJ aqm;simp only at tu Kl hf2 GN mJ aqm;have Nq:256<ps→px<2^(ps-257)∧py<2^pc∧pc≤11∧ps≤264:=fun h=>by
  by_cases h0:t.2.1=0
  ·have:=(mJ h0).1;simp only[Cf]at this;have:=lQ t.1;omega
  ·have:=GN h0;exact⟨this.2.2.2.1,this.2.2.2.2.1,this.2.2.1,this.2.1⟩
 have nN:=hs.1.1;obtain⟨x,tn,td⟩:=t;refine ct func204 53 rfl rfl rfl [(0,br g),(1,.agg #[.int .u8 (x.toNat:Int),ah tn,ah td])] ⟨⟨rfl,rfl⟩,⟨rfl,rfl⟩,trivial⟩ ?_;refine be ?_;refine bh fun g3=>?_;refine bG ?_;refine ai rfl (afw (t:=(x,tn,td)) fG hP) ?_;refine bF ?_;refine bc fun g4=>?_;refine bG ?_;refine cF (.bD g4 166 [ah ps,ah px,ah pc,ah py]::F) ?_;refine ae 0 ?_;refine ae 1 ?_;refine ae 2 ?_;refine ae 4 ?_;refine ae 5 ?_;refine ae 6 ?_;refine ae 7 ?_;refine ae 8 ?_;refine az 3 ?_;refine aF ?_;refine az 9 ?_;refine gA rfl .no abq rfl (.perm (Ry hs h1.cons.cons tu Kl aa) (WA _ _ _ _ _)) rfl (by rintro _ _ ⟨rfl,G_,JI,rfl⟩;exact gF) ?_;rintro _ _ ⟨rfl,G_,JI,cA⟩;obtain rfl:=cA.symm;refine cQ [0,4] ?_;refine bQ ?_;refine aj (fun nM=>?_) fun nM=>?_
 ·rw[ao aa,gk];refine be ?_;refine aq (.cons (.cons (.skip (.skip (.refl _))))) ?_;refine aF ?_;exact⟨rfl,G_,JI,rfl⟩
 ·have hb:=Nq aa;obtain⟨l0,hfz⟩:=hf2 aa;rw[aw aa];have atZ:=mW sl ps;have arY:=hs.1.2 _ (bg tu 0);have arZ:=hf.1.2 _ (bg l0 0);have Rx:=mW fl pc;have hp7:px<256:=vU hb.1 (kZ aa (by omega:ps-257≤8));have atW:py<2048:=vU hb.2.1 (kZ aa (by omega:pc≤11));refine bF ?_;refine cF (.bD g4 166 [ah ps,ah px,ah pc,ah py]::F) ?_;refine ae 0 ?_;refine ae 1 ?_;refine ae 2 ?_;refine ae 3 ?_;refine ae 4 ?_;refine aW 5 rfl (bm underlying3 underlying60 rfl (r:=(px:Int)) (f_ aa aa)) ?_;refine ae 6 ?_;refine ae 7 ?_;refine aW 8 rfl (dw rfl rfl (r:=((ps-257:Nat):Int)) ((bE aa aa).trans aa)) ?_;refine az 9 ?_;refine gA rfl .no Dm rfl (Bf (q++hw sl ps) px aa (ps-257) aa hb.1 tF) rfl (by rintro _ _ ⟨rfl,PO,c33,rfl⟩;exact gF) ?_;rintro _ _ ⟨rfl,PO,c33,cA⟩;obtain rfl:=cA.symm;refine bF ?_;refine cF (.bD g4 166 [ah ps,ah px,ah pc,ah py]::F) ?_;refine ae 0 ?_;refine ae 1 ?_;refine ae 2 ?_;refine ae 4 ?_;refine ae 5 ?_;refine ae 6 ?_;refine ae 7 ?_;refine ae 8 ?_;refine az 3 ?_;refine aF ?_;refine az 9 ?_;refine gA rfl .no abq rfl (Ry hf h2.cons.cons l0 hfz (by rw[aY,aY,dM];omega)) rfl (by rintro _ _ ⟨rfl,Lp,c43,rfl⟩;exact gF) ?_;rintro _ _ ⟨rfl,Lp,c43,cA⟩;obtain rfl:=cA.symm;refine cQ [0,4] ?_;refine aF ?_;refine cF (.bD g4 166 [ah ps,ah px,ah pc,ah py]::F) ?_;refine ae 0 ?_;refine ae 1 ?_;refine ae 2 ?_;refine ae 3 ?_;refine ae 4 ?_;refine aW 5 rfl (bm underlying3 underlying60 rfl (r:=(py:Int)) (f_ aa aa)) ?_;refine ae 6 ?_;refine ae 7 ?_;refine az 8 ?_;refine gA rfl .no Dm rfl (Bf (q++hw sl ps++hi px (ps-257) (ps-257)++hw fl pc) py aa pc aa hb.2.1 (by rw[aY,aY,aY,dM];omega)) rfl (by rintro _ _ ⟨rfl,A52,c52,rfl⟩;exact gF) ?_;rintro _ _ ⟨rfl,A52,c52,cA⟩;obtain rfl:=cA.symm;refine be ?_;refine aq (.cons (.cons (.skip (.skip (.refl _))))) ?_;refine aF ?_;exact⟨rfl,A52,c52,by simp only[bV]⟩
theorem Qh.of{l:List bO}(hm:∀t∈l,e_ t){t:bO}(h:t∈l):Qh (fh l) (im l) t:=by
 have h1:=ru (hm t h);have h2:(fh l).length=265:=gz _ _;have h3:(im l).length=12:=gz _ _;refine⟨hm t h,aa,kK aa h1.1 (Dk h),fun k=>⟨by have:=h1.2.2 k;omega,kK aa (h1.2.2 k) (Di h k)⟩⟩
theorem afq{sl fl:al}{t:bO}(hs:Good sl)(hf:Good fl)(h:Qh sl fl t):(vF sl fl t).length≤48:=by
 obtain⟨h1,h2,h3,h4⟩:=h;have hp:=ru h1;have arY:=hs.1.2 _ (bg h2 0);unfold vF;rw[aY,mW];split
 ·rw[r_];omega
 ·have h5:=h4 aa;have arZ:=hf.1.2 _ (bg h5.1 0);have h6:=hp.2.2 aa;rw[aY,aY,mW,dM,dM];omega
theorem Je{sl fl:al}(hs:Good sl)(hf:Good fl):∀{l:List bO},(∀t∈l,Qh sl fl t)→(mL sl fl l).length≤48*l.length
 |[],_=>by simp[mL]
 |t::l,h=>by
  rw[w7,aY,ef];have h1:=afq hs hf (h t (.head _));have h2:=Je hs hf (l:=l) (fun u hu=>h u (.tail _ hu));omega
theorem Th(sl fl:al)(l:List bO)(t:bO):mL sl fl (l++[t])=mL sl fl l++vF sl fl t:=by simp[mL]
theorem aeT{l:List bO}(hl:l.length≤32768):Hf B w0 (.own 135 1 A1 265 c1 (pY (Cn l))::L) A1 c1 (Cn l):=by
 refine⟨by rw[Fx];exact aJ.own (.head _),fun k=>?_⟩;have h1:=fun s=>abb l s;unfold Cn;rw[bk,BG];split
 ·have:=h1 256;simp only[Fw];simp;omega
 ·rw[←bk];by_cases hk:k<265
  ·rw[yM l hk];have:=h1 k;omega
  ·rw[bk,zX bR];simp
theorem abO{l:List bO}(hl:l.length≤32768):Hf B w0 (.own 135 1 A2 12 c2 (pY (pf l))::L) A2 c2 (pf l):=by
 refine⟨by rw[xP];exact aJ.own (.head _),fun k=>?_⟩;by_cases hk:k<12
 ·rw[DT l hk];have:=Uj l k;omega
 ·rw[bk,zX bR];simp
theorem ZV{l:List bO}(hm:∀t∈l,e_ t)(hl:l.length≤32768)(hq:q.length≤100000):
  a_ B w0 203 [br g,.slice A1 265 c1] (Wx X g 292 A c q (.own 135 1 A1 265 c1 (pY (Cn l))::F))
   (fun r L=>∃g' Y A' c',r= .pointer (some ⟨g',0,none⟩)∧L=Wx X g 292 A' c' (q++ik (fh l) 0) (Y++(.own 135 1 A1 265 c1 (pY (Cn l))::F))∧xd B w0 Y g' (fh l)):=by
 have:=Uq (X:=X) (g:=g) (A:=A) (c:=c) (aeT (B:=B) (w0:=w0) (A1:=A1) (c1:=c1) (L:=F) hl) (by rw[Fx];omega) hq;rw[aiU hm,Fx]at this;exact this
theorem XW{l:List bO}(hm:∀t∈l,e_ t)(hl:l.length≤32768)(hq:q.length≤100000)(H:Hf B w0 F A2 c2 (pf l)):
  a_ B w0 203 [br g,.slice A2 12 c2] (Wx X g 292 A c q F)
   (fun r L=>∃g' Y A' c',r= .pointer (some ⟨g',0,none⟩)∧L=Wx X g 292 A' c' (q++ik (im l) 0) (Y++F)∧xd B w0 Y g' (im l)):=by
 have:=Uq (X:=X) (g:=g) (A:=A) (c:=c) H (by rw[xP];omega) hq;rw[ag8 hm,xP]at this;exact this
theorem Ps{l:List bO}(h:32768<l.length):lx l=([],6):=by unfold lx;rw[ao h]
theorem Z9{l:List bO}(h:¬32768<l.length)(h2:¬∀t∈l,e_ t):lx l=([],7):=by unfold lx;rw[aw h,aw h2]
theorem aft{l:List bO}(h:¬32768<l.length)(h2:∀t∈l,e_ t):lx l=(packed (qm l),0):=by unfold lx;rw[aw h,ao h2]
theorem Tn{l:List bO}(hb:aJ B w0 F 3 (.slice A l.length c) l.length (kT l))(wL:l.length<9223372036854775808)(hm:¬∀t∈l,e_ t):
  a_ B w0 144 [.slice A l.length c] F (fun r L=>∃A' c',r= .tuple #[.slice A' (lx l).1.length c',ah (lx l).2]∧L= .own 5 1 A' (lx l).1.length c' (bv (lx l).1)::F):=by
 have acx:=fun hl=>(Ut hb hl).mono (R':=fun r L=>r= .tuple #[.slice none 0 0,.slice none 0 0,ah 7]∧L=F) fun v L' h=>by unfold CV at h;rw[aw hm]at h;exact h
 refine fw func144 58 [0] ?_;refine dQ ?_;refine aj (fun mA=>?_) fun mA=>?_
 ·refine bJ ?_;refine aD 5 1 none ?_;refine aF ?_;rw[Ps aa];exact⟨none,0,rfl,rfl⟩
 ·refine bG ?_;refine ai rfl (acx aa) ?_;refine jS ?_;refine zG fun iY=>?_;refine bG ?_;refine ve [2,3] ?_;refine bF ?_;refine aD 5 1 none ?_;refine aF ?_;rw[Z9 aa hm];exact⟨none,0,rfl,rfl⟩
theorem aai{l:List bO}(hb:aJ B w0 F 3 (.slice A l.length c) l.length (kT l))(wL:l.length<9223372036854775808)(hm:∀t∈l,e_ t):
  a_ B w0 144 [.slice A l.length c] F (fun r L=>∃A' c',r= .tuple #[.slice A' (lx l).1.length c',ah (lx l).2]∧L= .own 5 1 A' (lx l).1.length c' (bv (lx l).1)::F):=by
 have acx:=fun hl=>(Ut hb hl).mono (R':=aaA l F) fun v L' h=>by unfold CV at h;rw[ao hm]at h;exact h
 refine fw func144 58 [0] ?_;refine dQ ?_;refine aj (fun mA=>?_) fun mA=>?_
 ·refine bJ ?_;refine aD 5 1 none ?_;refine aF ?_;rw[Ps aa];exact⟨none,0,rfl,rfl⟩
 ·refine bG ?_;refine ay rfl (acx aa) fun A1 A2=>?_;refine jS ?_;refine dm fun iY=>?_;refine b8 ?_;refine ab (cj [.slice none 0 0,ah 0,.pointer none,.pointer none] ag) rfl ?_;refine bh fun g23=>?_;refine b8 ?_;refine aZ 5 1 none ?_;refine wg (L':=Wx [.pointer none,.pointer none] g23 292 none 0 [] (.own 135 1 A1 265 265 (pY (Cn l)):: .own 135 1 A2 12 12 (pY (pf l))::F)) (.swap (.refl _)) ?_;refine b8 ?_;refine aX ajK rfl (ZV hm aa ak) rfl ?_;rintro _ _ ⟨g27,Y1,Ha,Mq,rfl,cA,asj⟩;obtain rfl:=cA.symm;refine bF ?_;refine ve [0,5,7] ?_;refine be ?_;have nN:(fh l).length=265:=gz _ _;have l0:(im l).length=12:=gz _ _;have hsg:Good (fh l):=lR aa;have hfg:Good (im l):=lR aa;have kY:=xM (fh l) 265 0 aa;have jH:=xM (im l) 12 0 aa;obtain⟨K1,hK1⟩:=cN (Y1++(.own 135 1 A1 265 265 (pY (Cn l)):: .own 135 1 A2 12 12 (pY (pf l))::F));have hoK:Hf B w0 K1 A2 12 (pf l):=by rw[hK1];exact(abO aa).mono (List.sublist_append_of_sublist_right (.cons _ (.refl _)))
  have hbK:aJ B w0 K1 3 (.slice A l.length c) l.length (kT l):=by rw[hK1];exact hb.mono (List.sublist_append_of_sublist_right (.cons _ (.cons _ (.refl _))))
  have hcK:xd B w0 K1 g27 (fh l):=by rw[hK1];exact asj.mono (vC _ _)
  have GP:Wk K1 F:=by rw[hK1];exact(dv _ _).trans (.skip (.skip (.refl _)))
  rw[←hK1];refine wg (L':=Wx [br g27,.pointer none] g23 292 Ha Mq (ik (fh l) 0) K1) (.refl _) ?_;refine b8 ?_;refine aX ajK rfl (XW hm aa aa hoK) rfl ?_;rintro _ _ ⟨g33,Y2,PO,c33,rfl,cA,asl⟩;obtain rfl:=cA.symm;refine bL ?_;obtain⟨K,hK⟩:=cN (Y2++K1);have oH:aJ B w0 K 3 (.slice A l.length c) l.length (kT l):=by rw[hK];exact hbK.mono (gy _ _)
  have Nr:xd B w0 K g27 (fh l):=by rw[hK];exact hcK.mono (gy _ _)
  have hc2:xd B w0 K g33 (im l):=by rw[hK];exact asl.mono (vC _ _)
  have hwF:Wk K F:=by rw[hK];exact(dv _ _).trans GP
  rw[←hK];refine wg (L':=Wt2 g27 g33 g23 PO c33 (ik (fh l) 0++ik (im l) 0) K) (.refl _) ?_;refine bL ?_;refine aE (fun zf zL zm=>∃(k:Nat) (A':bj) (c':Nat),(k≤l.length)∧l.length-k=zm∧Sub zf [(7,br g23),(36,.slice A l.length c),(37,ah l.length),(38,ah k)]∧Wk zL (Wt2 g27 g33 g23 A' c' (ik (fh l) 0++ik (im l) 0++mL (fh l) (im l) (l.take k)) K)) _ ⟨0,PO,c33,bT _,rfl,bp,bq (by simp[mL]) (ax (by simp[mL]) (by simp[mL]) (.refl _))⟩ ?_;rintro _ _ _ ⟨k,A',c',hk,rfl,hs,hp⟩;refine aU hs hp ?_;clear hs hp;have hqs:∀k,(mL (fh l) (im l) (l.take k)).length≤48*l.length:=fun k=>jd (Je hsg hfg (fun t ht=>Qh.of hm (List.take_subset _ _ ht))) np;have hqk:=hqs k;refine bz ?_;refine aj (fun Lx=>?_) fun Lx=>?_
  ·obtain⟨t,ht⟩:=cN (Jc l k);have htv:=FL (l:=l) (k:=k) aa;rw[←ht]at htv;have tX:l.take (k+1)=l.take k++[t]:=by rw[ht];exact ba aa _
   have htm:t∈l:=by rw[ht];exact bg aa _
   refine bL ?_;refine ab (dI 3 ag rfl aB aa [.int .u8 (t.1.toNat:Int),ah t.2.1,ah t.2.2] (sk htv) rfl) rfl ?_;refine bc fun g9=>?_;refine bz ?_;refine aX aoY rfl (.perm (ai' (Qh.of hm htm) hsg hfg Nr.cons hc2.cons LZ) ((l6 (l6 (fR (.refl _)))))) rfl ?_;rintro _ _ ⟨rfl,A44,c44,cA⟩;obtain rfl:=cA.symm;refine bL ?_;refine av ⟨_,aa,k+1,A44,c44,aa,rfl,bp,.trans (bq ak1 (ax ak1 ak1 (.refl _))) (.cons (.cons (.skip (.refl _))))⟩
  ·obtain rfl:k=l.length:=by omega
   rw[jU]at*;have jG:=hsg.1.2 _ (bg (by omega:256<(fh l).length) 0);refine bz ?_;refine cF K ?_;refine ae 0 ?_;refine ae 1 ?_;refine ae 2 ?_;refine ae 4 ?_;refine ae 5 ?_;refine ae 6 ?_;refine az 3 ?_;refine aF ?_;refine az 7 ?_;refine gA rfl .no abq rfl (Ry (s:=256) hsg Nr aa (kK aa aa (by unfold JO;simp)) LZ) rfl (by rintro _ _ ⟨rfl,A53,c53,rfl⟩;exact gF) ?_;rintro _ _ ⟨rfl,A53,c53,cA⟩;obtain rfl:=cA.symm;refine bL ?_;refine ay rfl (af4 _ (by simp only[aY,mW];omega)) fun A57 c57=>?_;refine be ?_;refine ve [2,3] ?_;refine be ?_;refine aq (.cons (.skip (.skip hwF))) ?_;refine aF ?_;rw[aft aa hm];have e:qm l=ik (fh l) 0++ik (im l) 0++mL (fh l) (im l) l++hw (fh l) 256:=by unfold qm;simp only[bV]
   rw[e];exact⟨A57,c57,rfl,rfl⟩
theorem afB{l:List bO}(hb:aJ B w0 F 3 (.slice A l.length c) l.length (kT l))(wL:l.length<9223372036854775808):
  a_ B w0 144 [.slice A l.length c] F (fun r L=>∃A' c',r= .tuple #[.slice A' (lx l).1.length c',ah (lx l).2]∧L= .own 5 1 A' (lx l).1.length c' (bv (lx l).1)::F):=by
 by_cases hm:∀t∈l,e_ t
 ·exact aai hb wL hm
 ·exact Tn hb wL hm
end
theorem TW{P:Prop}(h:P:=by(simp[eh.all,hl])):P:=h
abbrev Gg(l:al)(F:aP)(r:Value)(L:aP):Prop:=∃A' c',r= .slice A' l.length c'∧L= .own 5 1 A' l.length c' (bv l)::F
theorem Qj(hb:aJ B w0 F 1 (.slice A 2 c) 2 [s1,s2])(h1:aJ B w0 F 1 s1 l1.length (bv l1))(h2:aJ B w0 F 1 s2 l2.length (bv l2))(hl:l=l1++l2)(hn:l.length≤1099511627776):
  a_ B w0 52 [.slice A 2 c] F (Gg l F):=
 xo (P:=[(s1,l1),(s2,l2)]) hb (by intro y hy;simp only[fk,mo,oe]at hy;rcases hy with rfl|rfl<;>first|exact h1|exact h2) rfl TW hn ak
theorem Jq(hb:aJ B w0 F 1 (.slice A 3 c) 3 [s1,s2,s3])(h1:aJ B w0 F 1 s1 l1.length (bv l1))(h2:aJ B w0 F 1 s2 l2.length (bv l2))(h3:aJ B w0 F 1 s3 l3.length (bv l3))(hl:l=l1++(l2++l3))(hn:l.length≤1099511627776):
  a_ B w0 52 [.slice A 3 c] F (Gg l F):=
 xo (P:=[(s1,l1),(s2,l2),(s3,l3)]) hb (by intro y hy;simp only[fk,mo,oe]at hy;rcases hy with rfl|rfl|rfl<;>first|exact h1|exact h2|exact h3) rfl TW hn ak
theorem Qk(hb:aJ B w0 F 1 (.slice A 4 c) 4 [s1,s2,s3,s4])(h1:aJ B w0 F 1 s1 l1.length (bv l1))(h2:aJ B w0 F 1 s2 l2.length (bv l2))(h3:aJ B w0 F 1 s3 l3.length (bv l3))(h4:aJ B w0 F 1 s4 l4.length (bv l4))(hl:l=l1++(l2++(l3++l4)))(hn:l.length≤1099511627776):
  a_ B w0 52 [.slice A 4 c] F (Gg l F):=
 xo (P:=[(s1,l1),(s2,l2),(s3,l3),(s4,l4)]) hb (by intro y hy;simp only[fk,mo,oe]at hy;rcases hy with rfl|rfl|rfl|rfl<;>first|exact h1|exact h2|exact h3|exact h4) rfl TW hn ak
theorem Jr(hb:aJ B w0 F 1 (.slice A 5 c) 5 [s1,s2,s3,s4,s5])(h1:aJ B w0 F 1 s1 l1.length (bv l1))(h2:aJ B w0 F 1 s2 l2.length (bv l2))(h3:aJ B w0 F 1 s3 l3.length (bv l3))(h4:aJ B w0 F 1 s4 l4.length (bv l4))(h5:aJ B w0 F 1 s5 l5.length (bv l5))(hl:l=l1++(l2++(l3++(l4++l5))))(hn:l.length≤1099511627776):
  a_ B w0 52 [.slice A 5 c] F (Gg l F):=
 xo (P:=[(s1,l1),(s2,l2),(s3,l3),(s4,l4),(s5,l5)]) hb (by intro y hy;simp only[fk,mo,oe]at hy;rcases hy with rfl|rfl|rfl|rfl|rfl<;>first|exact h1|exact h2|exact h3|exact h4|exact h5) rfl TW hn ak
def aiV:cV:=yN.map fun(n:Nat)=>Value.int .u32 (n:Int)
def bI(B:Nat)(w0:World):Prop:=aJ B w0 [] 1 (.slice (some ⟨0,0,none⟩) 16 16) 16 aiV
theorem Pb{i:Nat}(h:i<16):aiV[i]? =some (.int .u32 ((yN.getD i 0:Nat):Int)):=by
 have h2:i<yN.length:=h;unfold aiV;rw[jr,fm h2,bk,fm h2];rfl
theorem HX{C:Cx}{fr:Fr}{L:aP}{x:Operand}{ty t:TypeId}{n:Nat}(h:ev fr x=some (.int .u32 (n:Int)))(hn:n<4294967296):gI C fr L (.unOp .xor t x) ty (.int .u32 ((4294967295 ^^^ n:Nat):Int)):=fun a w ha hw d pos af g=>by
 have e:=Jm (a:=4294967295) (b:=n) aA hn;have e2:(if IntKind.u32.signed=true then (-1:Int) else IntKind.u32.max)=((4294967295:Nat):Int):=rfl;rw[←e];simp[execOp,Op.unary,ha.tmp h,Op.intBits,e2]
theorem xH{C:Cx}{fr:Fr}{L:aP}{x:Operand}{ty t:TypeId}{i:Nat}(HT:bI C.B C.w0)(hs:pU C.P t=true)(he:ev fr x=some (.pointer (some ⟨0,0+i,none⟩)))(hi:i<16):gI C fr L (.load t x) ty (.int .u32 ((yN.getD i 0:Nat):Int)):=
 au (A:=some ⟨0,0,none⟩) (j:=i) (nn:=16) (c:=16) (xs:=aiV) hs (by rw[he];simp[zW]) (HT.mono (NM _)) aA (Pb hi)
theorem ah1(HT:bI B w0){s:Nat}(hs:s<4294967296)(hr:aJ B w0 F 1 (.slice A 1 c) 1 [.slice A2 l.length c2])(hb:eM B w0 F A2 c2 l)(hl:l.length≤1099511627776):
  a_ B w0 146 [.int .u32 (s:Int),.slice A 1 c] F (fun r L=>r= .int .u32 ((pP s l:Nat):Int)∧L=F):=by
 obtain⟨x0,Yz⟩:=cN (4294967295 ^^^ s);have asV:x0<4294967296:=by rw[Yz];exact vR (n:=32) aA hs
 refine fw func146 46 [0,1] ?_;refine bJ ?_;refine ab (HX (n:=s) rfl hs) rfl ?_;refine cJ ?_;refine aE (fun zf zL zm=>∃(k x:Nat),(k≤1∧x<4294967296∧(k=0→x=x0)∧(k=1→x=l.foldl QJ x0))∧1-k=zm∧Sub zf [(5,.int .u32 (x:Int)),(12,.slice A 1 c),(13,ah 1),(14,ah k)]∧Wk zL (F)) _ ⟨0,4294967295 ^^^ s,⟨bT _,by rw[←Yz];exact asV,fun _=>Yz.symm,fun h=>absurd h aA⟩,rfl,bp,.refl _⟩ ?_;rintro _ _ _ ⟨k,x,⟨hk,hx,CB,xk⟩,rfl,hs,hp⟩;refine aU hs hp ?_;clear hs hp;refine bz ?_;refine aj (fun jG=>?_) fun jG=>?_
 ·obtain rfl:k=0:=by omega
  obtain rfl:x=x0:=CB rfl;refine bL ?_;refine ab (au ag rfl aB aa (show([.slice A2 l.length c2]:cV)[0*1]? =some _ from rfl)) rfl ?_;refine cY ?_;refine aE (fun zf zL zm=>∃(j y:Nat),(j≤l.length∧y<4294967296∧y=(l.take j).foldl QJ x)∧l.length-j=zm∧Sub zf [(5,.int .u32 (y:Int)),(12,.slice A 1 c),(13,ah 1),(14,ah 0),(18,.slice A2 l.length c2),(19,ah l.length),(20,ah j)]∧Wk zL (F)) _ ⟨0,x,⟨bT _,hx,by rw[z_];rfl⟩,rfl,bp,.refl _⟩ ?_;rintro _ _ _ ⟨j,y,⟨hj,hy,hye⟩,rfl,hs,hp⟩;refine aU hs hp ?_;clear hs hp;refine bz ?_;refine aj (fun lW=>?_) fun lW=>?_
  ·have r7:=(l.getD j 0).toNat_lt;have Kl:y ^^^ (l.getD j 0).toNat<4294967296:=vR (n:=32) hy aa;have tX:=ba (show j<l.length by omega) (0:UInt8);obtain⟨d,hd⟩:=cN (l.getD j 0);obtain⟨z,hz⟩:=cN (y ^^^ d.toNat);rw[←hd]at r7 Kl tX;rw[←hz]at Kl;have vz:=JP Kl;have hzs:=SN z 4;have at7:=SN (zq z) 4;have hza:z &&& 15<16:=NO (n:=4) z aA;have aqt:zq z &&& 15<16:=NO (n:=4) (zq z) aA;refine bJ ?_;rw[←hd];refine bL ?_;refine ab (bm (r:=(d.toNat:Int)) underlying5 underlying135 rfl (yW aa aa)) rfl ?_;refine ab (ly rfl rfl (r:=(z:Int)) (by rw[hz];exact Jm hy aa)) rfl ?_;refine bz ?_;refine ab (dj rfl rfl aA (r:=((z >>> 4:Nat):Int)) (G4 z 4)) rfl ?_;refine aF ?_;refine ab (jY rfl rfl (r:=((z &&& 15:Nat):Int)) (aaJ Kl (b:=15) aA)) rfl ?_;refine ab (aM (i:=z &&& 15) underlying303 ag rfl rfl rfl hza) rfl ?_;refine ab (xH HT ag rfl hza) rfl ?_;refine ab (ly rfl rfl (r:=((zq z:Nat):Int)) (Jm aa (FA _))) rfl ?_;refine aF ?_;refine ve [5,12,13,14,18,19,20] ?_;refine bF ?_;refine ab (dj rfl rfl aA (r:=((zq z >>> 4:Nat):Int)) (G4 (zq z) 4)) rfl ?_;refine aF ?_;refine ab (jY rfl rfl (r:=((zq z &&& 15:Nat):Int)) (aaJ vz (b:=15) aA)) rfl ?_;refine ab (aM (i:=zq z &&& 15) underlying303 ag rfl rfl rfl aqt) rfl ?_;refine ab (xH HT ag rfl aqt) rfl ?_;refine ab (ly rfl rfl (r:=((QJ y d:Nat):Int)) (by rw[show QJ y d=zq (zq z) by rw[hz];rfl];exact Jm aa (FA _))) rfl ?_;refine bJ ?_;refine av ⟨_,aa,j+1,QJ y d,⟨aa,agU hy d,by rw[tX,List.foldl_append,←hye];rfl⟩,rfl,bp,.refl _⟩
  ·obtain rfl:j=l.length:=by omega
   rw[jU]at hye;refine bA ?_;refine av ⟨_,aa,1,y,⟨gj _,hy,fun h=>absurd h aA,fun _=>hye⟩,rfl,bp,.refl _⟩
 ·obtain rfl:k=1:=by omega
  have xk:=xk rfl;refine bJ ?_;refine ab (HX (n:=x) rfl hx) rfl ?_;refine bG ?_;exact⟨by rw[xk,Yz];rfl,rfl⟩
theorem akw(HT:bI B w0)(hb:eM B w0 F A c l)(hl:l.length≤1099511627776):
  a_ B w0 85 [.slice A l.length c] F (fun r L=>r= .int .u32 ((pP 0 l:Nat):Int)∧L=F):=by
 refine fw func85 6 [0] ?_;refine bJ ?_;refine cC (aG fD [_] rfl rfl cw aa aa) fun A4=>?_;refine ai rfl (ah1 (s:=0) HT aA aB aB hl) ?_;refine b8 ?_;refine aq (L':=F) (.skip (.refl _)) ?_;refine aF ?_;exact⟨rfl,rfl⟩
theorem u8w(n:Nat):IntKind.u8.wrap ((n:Nat):Int)=((UInt8.ofNat n).toNat:Int):=by
 show((n:Nat):Int)%2^8=_;rw[od];omega
theorem aeY{s:Nat}:a_ B w0 84 [.int .u32 (s:Int)] F (fun r L=>∃A',r= .slice A' 4 4∧L= .own 5 1 A' 4 4 (bv (mu s))::F):=by
 refine fw func84 15 [0] ?_;refine bJ ?_;refine ab (bm (r:=((UInt8.ofNat s).toNat:Int)) underlying135 underlying5 rfl (u8w s)) rfl ?_;refine aF ?_;refine ab (dj rfl rfl aA (r:=((s >>> 8:Nat):Int)) (G4 s 8)) rfl ?_;refine ab (bm (r:=((UInt8.ofNat (s >>> 8)).toNat:Int)) underlying135 underlying5 rfl (u8w (s >>> 8))) rfl ?_;refine aF ?_;refine ab (dj rfl rfl aA (r:=((s >>> 16:Nat):Int)) (G4 s 16)) rfl ?_;refine ab (bm (r:=((UInt8.ofNat (s >>> 16)).toNat:Int)) underlying135 underlying5 rfl (u8w (s >>> 16))) rfl ?_;refine aF ?_;refine ab (dj rfl rfl aA (r:=((s >>> 24:Nat):Int)) (G4 s 24)) rfl ?_;refine ab (bm (r:=((UInt8.ofNat (s >>> 24)).toNat:Int)) underlying135 underlying5 rfl (u8w (s >>> 24))) rfl ?_;refine cC (aG cD [_,_,_,_] rfl rfl cw aa aa) fun A14=>?_;refine bG ?_;exact⟨A14,rfl,rfl⟩
theorem qu(HT:bI B w0)(hb:eM B w0 F A c l)(hl:l.length≤1099511627776):
  a_ B w0 46 [.slice A l.length c] F (fun r L=>∃A' c',r= .slice A' (cX l).length c'∧L= .own 5 1 A' (cX l).length c' (bv (cX l))::F):=by
 rw[du];refine fw func46 9 [0] ?_;refine bJ ?_;refine ay rfl (l_ l aB hl) fun A4 c4=>?_;refine aF ?_;refine ai rfl (akw HT aB hl) ?_;refine aX apr rfl (aeY (s:=pP 0 l)) rfl ?_;rintro _ _ ⟨A7,rfl,cA⟩;obtain rfl:=cA.symm;refine fN (bS cD rfl aV rfl aB cw aa aa) fun A8 c8=>?_;refine b8 ?_;refine aq (L':=.own 5 1 A8 (l.length+4) c8 (bv l++bv (mu (pP 0 l)))::F) (.skip (.refl _)) ?_;refine aF ?_;exact⟨A8,c8,rfl,by unfold cX bv;rw[jb]⟩
theorem apu{l l2:al}(h1:eM B w0 F A c l)(h2:eM B w0 F A2 c2 l2)(hl:l.length≤1099511627776):
  a_ B w0 132 [.slice A l.length c,.slice A2 l2.length c2] F (fun r L=>r= .bool (decide (l=l2))∧L=F):=by
 refine fw func132 26 [0,1] ?_;refine jy ?_;refine aj (fun jF=>?_) fun jF=>?_
 ·refine bJ ?_;exact⟨by rw[nT (fun h=>jF (by rw[h]))],rfl⟩
 ·refine cY ?_;refine aE (fun zf zL zm=>∃(k:Nat),(k≤l.length∧l.take k=l2.take k)∧l.length-k=zm∧Sub zf [(0,.slice A l.length c),(1,.slice A2 l2.length c2),(12,ah l.length),(13,ah k)]∧Wk zL (F)) _ ⟨0,⟨bT _,rfl⟩,rfl,bp,.refl _⟩ ?_;rintro _ _ _ ⟨k,⟨hk,heq⟩,rfl,hs,hp⟩;refine aU hs hp ?_;clear hs hp;refine bz ?_;refine aj (fun kg=>?_) fun kg=>?_
  ·have ht1:=ba (show k<l.length by omega) (0:UInt8);have ht2:=ba (show k<l2.length by omega) (0:UInt8);have hv1:(bv l)[k*1]? =some (.int .u8 ((l.getD k 0).toNat:Int)):=by rw[cE];simp[bv,List.getD,fm (show k<l.length by omega)]
   have Vd:(bv l2)[k*1]? =some (.int .u8 ((l2.getD k 0).toNat:Int)):=by rw[cE];simp[bv,List.getD,fm (show k<l2.length by omega)]
   refine jy ?_;refine b7 (au ag rfl h1 aa hv1) rfl ?_;refine bF ?_;refine b7 (au ag rfl h2 aa Vd) rfl ?_;refine bF ?_;refine aj (fun oc=>?_) fun oc=>?_
   ·refine cJ ?_;exact⟨by rw[nT (fun h=>oc (by rw[h]))],rfl⟩
   ·refine bL ?_;refine av ⟨_,aa,k+1,⟨aa,by rw[ht1,ht2,heq,ra.1 (show(l.getD k 0).toNat=(l2.getD k 0).toNat by omega)]⟩,rfl,bp,.refl _⟩
  ·refine cJ ?_;have e:l=l2:=by
    have:=heq
    rwa [fL aa,fL aa]at this
   exact⟨by rw[ox e],rfl⟩
theorem abN{l l2:al}{n n2:Nat}{xs ys:cV}(e1:n=l.length)(e2:xs=bv l)(e3:n2=l2.length)(e4:ys=bv l2)(h1:aJ B w0 F 1 (.slice A n c) n xs)(h2:aJ B w0 F 1 (.slice A2 n2 c2) n2 ys)(hl:l.length≤1099511627776):
  a_ B w0 132 [.slice A n c,.slice A2 n2 c2] F (fun r L=>r= .bool (decide (l=l2))∧L=F):=by
 subst e1;subst e2;subst e3;subst e4;exact apu h1 h2 hl
theorem aq5{n:Nat}{xs:cV}(HT:bI B w0)(e1:n=l.length)(e2:xs=bv l)(hb:aJ B w0 F 1 (.slice A n c) n xs)(hl:l.length≤1099511627776):
  a_ B w0 85 [.slice A n c] F (fun r L=>r= .int .u32 ((pP 0 l:Nat):Int)∧L=F):=by
 subst e1;subst e2;exact akw HT hb hl
theorem wz(HT:bI B w0)(hb:eM B w0 F A c l)(hl:l.length≤1099511627776):
  a_ B w0 176 [.slice A l.length c] F (fun r L=>∃A' c',r= .tuple #[.slice A' (aI l).1.length c',ah (aI l).2]∧L= .own 5 1 A' (aI l).1.length c' (bv (aI l).1)::F):=by
 refine dL.xf hb fun mh _=>?_;refine fw func176 24 [0] ?_;refine Ke ?_;refine aj (fun h9=>?_) fun h9=>?_
 ·have e:aI l=([],1):=ao aa;rw[e];refine bJ ?_;refine aD 5 1 none ?_;refine aF ?_;exact⟨none,0,rfl,rfl⟩
 ·have h4:4≤l.length:=by omega
  obtain⟨m,hm⟩:=cN (l.length-4);have hmm:(l.length:Int)-4=(m:Int):=by omega
  have hcut:=hb.cut (k:=m) aa;have wJ:=hb.iZ (k:=m) aa;have hd1:(bv l).drop (m*1)=bv (l.drop m):=by rw[cE];simp[bv,yc]
  have Ym:(bv l).take (m*1)=bv (l.take m):=by rw[cE];simp[bv,pn]
  rw[hd1]at hcut;rw[Ym]at wJ;have tu:l.length-m=(l.drop m).length:=by rw[iG]
  have rK:m=(l.take m).length:=by rw[eS];omega
  have Lz:(l.take m).length≤1099511627776:=by rw[eS];omega
  have hl4:(l.drop m).length≤1099511627776:=by rw[iG];omega
  refine b8 ?_;refine cF F ?_;refine ae 0 ?_;refine ae 1 ?_;refine aW 2 rfl (bP (i:=m) (size:=1) underlying27 ag rfl rfl hmm aa) ?_;refine ae 3 ?_;refine ae 4 ?_;refine aW 5 rfl (bN (i:=m) (size:=1) underlying27 ag rfl rfl hmm aa) ?_;refine az 6 ?_;refine iW rfl rfl (aq5 (l:=l.take m) HT rK rfl wJ Lz) ?_;refine az 7 ?_;refine gA rfl .no apr rfl (aeY (s:=pP 0 (l.take m))) rfl (by rintro _ _ ⟨TI,rfl,rfl⟩;exact gF) ?_;rintro _ _ ⟨TI,rfl,cA⟩;obtain rfl:=cA.symm;refine az 8 ?_;refine iW rfl rfl (abN (l:=l.drop m) (l2:=mu (pP 0 (l.take m))) tu rfl rfl rfl hcut.cons (aJ.own (.head _)) hl4) ?_;refine ae 9 ?_;refine be ?_;refine aj (fun pR=>?_) fun pR=>?_
  ·have e:aI l=([],5):=by unfold aI;rw[aw aa,aw (by rw[←hm];exact pR)]
   rw[e];refine b8 ?_;refine ve [2,3] ?_;refine bF ?_;refine aD 5 1 none ?_;refine aq (L':=.own 5 1 none 0 0 []::F) (.cons (.skip (.refl _))) ?_;refine aF ?_;exact⟨none,0,rfl,rfl⟩
  ·have e:aI l=(l.take m,0):=by unfold aI;rw[aw aa,ao (by rw[←hm];exact kR.1 pR),←hm]
   rw[e];simp only;rw[←rK];refine bz ?_;refine ab (bN (i:=m) (size:=1) underlying27 ag rfl rfl hmm aa) rfl ?_;refine ay rfl (l_ (l.take m) wJ.cons aa) fun TJ c23=>?_;refine be ?_;refine ve [2,3] ?_;refine be ?_;refine aq (L':=.own 5 1 TJ m c23 (bv (l.take m))::F) (.cons (.skip (.refl _))) ?_;refine aF ?_;exact⟨TJ,c23,rfl,rfl⟩
theorem ZM{b:al}(hb:eM B w0 F A c b)(c_:b.length≤1000000):
  a_ B w0 83 [.slice A b.length c] F (fun r L=>∃A' c',r= .tuple #[.slice A' (LK b).1.length c',.bool (decide (ZL b))]∧L= .own 5 1 A' (LK b).1.length c' (bv (LK b).1)::F):=by
 have l0:=X1 b;refine fw func83 22 [0] ?_;refine bQ ?_;refine ay rfl (alr hb c_) fun A8 c8=>?_;refine ay rfl (afB (l:=jq b) aB aa) fun A9 c9=>?_;refine de ?_;refine cP (fun jG=>?_) fun jG=>?_
 ·have e:decide (((LK b).1.length:Int)<b.length)=decide (ZL b):=z7.2 ⟨fun h=>⟨jG,aa⟩,fun h=>(by have:=h.2;omega)⟩;refine cJ ?_;refine ve [2,3] ?_;refine be ?_;refine aq (.cons (.skip (.refl _))) ?_;refine aF ?_;exact⟨A9,c9,by rw[←e];rfl,rfl⟩
 ·have e:false=decide (ZL b):=(nT fun h=>jG h.1).symm;refine bL ?_;refine ve [2,3] ?_;refine be ?_;refine aq (.cons (.skip (.refl _))) ?_;refine aF ?_;exact⟨A9,c9,by rw[←e];rfl,rfl⟩
theorem agw{b:al}{p:Bool}(h:32768<b.length):jA b p=([],6):=by unfold jA;rw[ao h]
theorem Jy{b:al}{p:Bool}(h:¬32768<b.length):jA b p=(cX (xu b p++(kl b p).2),0):=by unfold jA;rw[aw h]
theorem Mp(HT:bI B w0){b:al}{p:Bool}(hb:eM B w0 F A c b)(c_:b.length≤1099511627776):
  a_ B w0 44 [.slice A b.length c,.bool p] F (fun r L=>∃A' c',r= .tuple #[.slice A' (jA b p).1.length c',ah (jA b p).2]∧L= .own 5 1 A' (jA b p).1.length c' (bv (jA b p).1)::F):=by
 refine fw func44 41 [0,1] ?_;refine dQ ?_;refine aj (fun lA=>?_) fun lA=>?_
 ·rw[agw aa];refine bJ ?_;refine aD 5 1 none ?_;refine aF ?_;exact⟨none,0,rfl,rfl⟩
 ·rw[Jy aa];refine bQ ?_;refine d_ (fun zf zL=>∃(M:aP) (Ab:bj) (cb:Nat) (w:UInt8) (bd:al),(kl b p=(w,bd)∧Wk M F∧aJ B w0 M 1 (.slice A b.length c) b.length (bv b)∧aJ B w0 M 1 (.slice Ab bd.length cb) bd.length (bv bd))∧Sub zf [(0,.slice A b.length c),(6,.int .u8 (w.toNat:Int)),(7,.slice Ab bd.length cb)]∧Wk zL (M)) ?_ ?_
  ·refine bF ?_;refine ab (iQ rfl) rfl ?_;refine be ?_;refine gD (fun kh=>?_) fun kh=>?_
   ·have al6:p=false:=by cases p<;>simp at kh⊢
    refine bF ?_;refine ay rfl (ZM hb aa) fun Ln c19=>?_;refine cJ ?_;refine aj (fun rJ=>?_) fun rJ=>?_
    ·refine b8 ?_;refine ve [0,6,7] ?_;exact bC ⟨.own 5 1 Ln (LK b).1.length c19 (bv (LK b).1)::F,Ln,c19,1,(LK b).1,⟨by unfold kl;rw[ao ⟨al6,rJ⟩],.skip (.refl _),hb.cons,aJ.own (.head _)⟩,bp,.refl _⟩
    ·refine aF ?_;exact bC ⟨.own 5 1 Ln (LK b).1.length c19 (bv (LK b).1)::F,A,c,0,b,⟨by unfold kl;rw[aw fun k=>rJ k.2],.skip (.refl _),hb.cons,hb.cons⟩,bp,.refl _⟩
   ·have al6:¬p=false:=by cases p<;>simp at kh⊢
    refine aF ?_;exact bC ⟨F,A,c,0,b,⟨by unfold kl;rw[aw fun k=>al6 k.1],.refl _,hb,hb⟩,bp,.refl _⟩
  ·rintro _ _ ⟨M,Ab,cb,w,bd,⟨hY,hM,hbM,hbB⟩,hs,hp⟩;refine aU hs hp ?_;clear hs hp;refine aF ?_;have PZ:bd.length≤b.length:=by have:=xx b p;rw[hY]at this;exact this
   have hBH:xu b p=[w]++(aS b.length++aS bd.length):=by unfold xu;rw[hY];rfl
   have hBB:(kl b p).2=bd:=by rw[hY]
   have hn1:=aT (x:=b.length) aa;have tU:=aT (x:=bd.length) aa;have hlH:(xu b p).length≤30:=by rw[hBH,aY,aY,p_];omega
   rw[hBB];refine be ?_;refine cC (aG cD [_] rfl rfl cw aa aa) fun G'=>?_;refine be ?_;refine ab (bm underlying3 underlying60 rfl (r:=(b.length:Int)) (f_ aa aa)) rfl ?_;refine ay rfl (iN b.length aa) fun A29 c29=>?_;refine be ?_;refine ab (bm underlying3 underlying60 rfl (r:=(bd.length:Int)) (f_ aa aa)) rfl ?_;refine ay rfl (iN bd.length aa) fun PO c33=>?_;refine cC (aG fD [_,_,_] rfl rfl cw aa aa) fun wi=>?_;refine ay rfl (Jq (l1:=[w]) (l2:=aS b.length) (l3:=aS bd.length) aB aB aB aB hBH aa) fun Lo c35=>?_;refine bL ?_;refine cC (aG fD [_,_] rfl rfl cw aa aa) fun LN=>?_;refine ay rfl (Qj (l1:=xu b p) (l2:=bd) aB aB aB rfl tF) fun A39 c39=>?_;refine ay rfl (qu HT (l:=xu b p++bd) aB tF) fun A40 c40=>?_;refine be ?_;refine ve [4,5] ?_;refine be ?_;refine aq (.cons (.skip (.skip (.skip (.skip (.skip (.skip (.skip hM)))))))) ?_;refine aF ?_;exact⟨A40,c40,rfl,rfl⟩
section
variable{sl:al}
theorem an'{P:Prop}(h:P:=by(have:=O3 (x:=1) (d:=b) (e:=(b:Int)) rfl (by omega) (by omega);rw[rh]at this;exact this)):P:=h
theorem an7{P:Prop}(h:P:=by(exact dN (by first|exact trivial|omega|(exact⟨fun _=>trivial,fun _=>by omega⟩)|(exact fun h=>h (by omega))))):P:=h
theorem agl{P:Prop}(h:P:=by(exact eU (by first|exact trivial|omega|(exact⟨fun _=>trivial,fun _=>by omega⟩)|(exact fun h=>h (by omega))))):P:=h
theorem TS{P:Prop}(h:P:=by(rw[aY,p_];omega)):P:=h
theorem abU{x b:Nat}(hb:b≤11)(hx:x<2^b):a_ B w0 356 [ah x,ah b] F (fun r L=>r= .bool true∧L=F):=by
 have hp:2^b≤2048:=kZ (n:=2) aa hb;refine fw func356 13 [0,1] ?_;refine bL ?_;refine bW 8 12 [] (True) ?_ ?_
 ·refine bF ?_;refine cP (fun h7=>?_) fun h7=>?_
  ·refine b8 ?_;refine ab (ga rfl rfl aa (r:=((2^b:Nat):Int)) an') rfl ?_;refine bF ?_;exact aQ an7
  ·refine b8 ?_;exact aQ agl
 ·refine bG ?_;exact⟨ak,rfl⟩
theorem amh{b x k y:Nat}(hb:b≤7)(hx:x<2^b)(hk:k≤11)(hy:y<2^k):a_ B w0 354 [.agg #[ah ((257+b:Nat):Int),ah x,ah k,ah y]] F
  (fun r L=>r= .tuple #[.agg #[.int .u8 0,ah ((2+2^b+x:Nat):Int),ah ((2^k+y:Nat):Int)],ah 0]∧L=F):=by
 have LA:2^b≤128:=kZ (n:=2) aa hb;have y_:2^k≤2048:=kZ (n:=2) aa hk;refine fw func354 70 [0] ?_;refine be ?_;refine bh fun g1=>?_;refine bc fun g2=>?_;refine bL ?_;refine bW 8 13 [1,2] (False) ?_ ?_
 ·refine b8 ?_;refine cP (fun h9=>?_) fun h9=>?_
  ·refine bz ?_;exact aQ (by exact dN (by first|omega|(exact⟨fun h=>by omega,False.elim⟩)|(exact fun h=>h)))
  ·refine bF ?_;exact aQ (by rfl)
 ·refine bF ?_;refine aj (fun h5=>?_) fun h5=>?_
  ·exfalso;exact h5
  ·refine be ?_;refine bW 18 41 [1,2] (True) ?_ ?_
   ·refine b8 ?_;refine cP (fun ka=>?_) fun ka=>?_
    ·refine bL ?_;refine cP (fun Bw=>?_) fun Bw=>?_
     ·refine bL ?_;refine cP (fun zK=>?_) fun zK=>?_
      ·refine bz ?_;exact aQ an7
      ·refine bF ?_;exact aQ agl
     ·refine bJ ?_;exact aQ agl
    ·refine de ?_;exact aQ agl
   ·refine bF ?_;refine aj (fun nM=>?_) fun nM=>?_
    ·refine b8 ?_;refine ab (dw rfl rfl (r:=((b:Nat):Int)) ((bE aa aa).trans aa)) rfl ?_;refine bJ ?_;refine ai rfl (abU (x:=x) (b:=b) aa hx) ?_;refine aF ?_;refine my rfl rfl rfl (fun Yc=>?_) (fun Yc=>?_)
     ·refine bJ ?_;refine ai rfl (abU (x:=y) (b:=k) aa hy) ?_;refine bF ?_;refine gD (fun Yd=>?_) fun Yd=>?_
      ·refine aF ?_;refine cF (.bD g1 166 [ah ((257+b:Nat):Int),ah x,ah k,ah y]::F) ?_;refine ae 0 ?_;refine aW 1 rfl (ga rfl rfl aa (r:=((2^b:Nat):Int)) an') ?_;refine aW 2 rfl (bY rfl rfl (r:=((2+2^b:Nat):Int)) ((bE aa aa).trans aa)) ?_;refine ae 3 ?_;refine ae 4 ?_;refine aW 5 rfl (bY rfl rfl (r:=((2+2^b+x:Nat):Int)) ((bE aa aa).trans aa)) ?_;refine ae 6 ?_;refine ae 7 ?_;refine aW 8 rfl (ga rfl rfl aa (r:=((2^k:Nat):Int)) (by have:=O3 (x:=1) (d:=k) (e:=(k:Int)) rfl aa aa;rw[rh]at this;exact this)) ?_;refine ae 9 ?_;refine ae 10 ?_;refine aW 11 rfl (bY rfl rfl (r:=((2^k+y:Nat):Int)) ((bE aa aa).trans aa)) ?_;refine aW 12 rfl (bw [(1,_),(2,_)] [.int .u8 0,ah 0,ah 0] [1,2] [_,_,_] rfl rfl ag) ?_;refine az 13 ?_;refine aF ?_;refine ae 14 ?_;refine cQ [2,3] ?_;refine b8 ?_;refine aq (.cons (.skip (.refl _))) ?_;refine gT rfl rfl ag aV gC rfl (.skip (.refl _)) ?_;exact⟨rfl,rfl⟩
      ·exfalso;cases Yd
     ·exfalso;cases Yc
    ·exfalso;exact nM trivial
theorem E7(q:List Bool)(N:Nat):∀f p acc s,(lH q N f p acc s).2.1=0→Good (lH q N f p acc s).1
 |0,p,acc,s=>fun h=>by
  unfold lH fin at h⊢;by_cases hg:Good acc
  ·rw[ao hg];exact hg
  ·rw[aw hg]at h;cases h
 |f+1,p,acc,s=>fun h=>by
  unfold lH at h⊢;split at h
  ·rename_i h1;rw[ao h1];unfold fin at h⊢;by_cases hg:Good acc
   ·rw[ao hg];exact hg
   ·rw[aw hg]at h;cases h
  ·rename_i h1;rw[aw h1];split at h
   ·rename_i h2;exact absurd h h2
   ·rename_i h2;rw[aw h2];split at h
    ·rename_i h3;rw[ao h3];exact E7 q N f _ _ _ h
    ·rename_i h3;rw[aw h3];split at h
     ·rename_i h4;exact absurd h h4
     ·rename_i h4;rw[aw h4];split at h
      ·cases h
      ·rename_i h5;rw[aw h5];exact E7 q N f _ _ _ h
theorem aeb{q:List Bool}{p:Nat}{n:Int}(h:(qG q p n).2.1=0):Good (qG q p n).1:=by
 unfold qG at h⊢;split at h
 ·cases h
 ·rename_i h1;rw[aw h1];exact E7 q _ _ _ _ _ h
abbrev Rk(v1 v2:Value)(g gr:Nat)(A:bj)(c:Nat)(q:List Bool)(p:Nat)(F:aP):aP:=.bD g 455 [br gr,v1,v2]::Rr gr A c q p F
theorem E5{p p':Nat}{k:Nat}{acc:al}{e:Int}{v1 v2:Value}(hp:p≤q.length)(hq:q.length≤8000000)(hk:k≤1000)(hR:qG q p k=(acc,e,p'))(he:¬e=0):
  a_ B w0 341 [br g,ah k] (Rk v1 v2 g gr A c q p F) (fun r L=>r= .tuple #[.pointer none,ah e]∧L=Rk v1 v2 g gr A c q p' F):=by
 refine fw func341 24 [0,1] ?_;refine de ?_;refine ay rfl (.perm (MB q p hp hq k aa aa acc e p' hR) (Wz _ _ _ _)) fun A14 c14=>?_;refine dQ ?_;refine aj (fun jk=>?_) fun jk=>?_
 ·refine bG ?_;refine ve [4,5] ?_;refine bF ?_;refine aq ((tx (ed (ed (.skip (.refl _)))))) ?_;refine aF ?_;exact⟨rfl,rfl⟩
 ·exfalso;exact jk he
theorem AN{p p':Nat}{k:Nat}{acc:al}{v1 v2:Value}(hp:p≤q.length)(hq:q.length≤8000000)(hk:k≤1000)(hR:qG q p k=(acc,0,p')):
  a_ B w0 341 [br g,ah k] (Rk v1 v2 g gr A c q p F) (fun r L=>∃g' Y,r= .tuple #[.pointer (some ⟨g',0,none⟩),ah 0]∧L=Rk v1 v2 g gr A c q p' (Y++F)∧xd B w0 Y g' acc):=by
 have hg:Good acc:=by have:=aeb (q:=q) (p:=p) (n:=k);rw[hR]at this;exact this rfl
 refine fw func341 24 [0,1] ?_;refine de ?_;refine ay rfl (.perm (MB q p hp hq k aa aa acc 0 p' hR) (Wz _ _ _ _)) fun A14 c14=>?_;refine dQ ?_;refine dm fun jk=>?_;refine bG ?_;refine aX ajN rfl (adB (l:=acc) aB hg) rfl ?_;rintro _ _ ⟨g21,Y,rfl,cA,xX⟩;obtain rfl:=cA.symm;refine b8 ?_;refine ve [4,5] ?_;refine be ?_;refine aq (L':=Rk v1 v2 g gr A c q p' (Y++F)) (.trans (.dD (og Y [_,_,_,_] F)) ((tx (ed (ed (.skip (.refl _))))))) ?_;refine aF ?_;exact⟨g21,Y,rfl,rfl,xX⟩
theorem KD{p b:Nat}:(((257+b:Nat):Int)-257)=(b:Int):=by omega
theorem R6{p b:Nat}(h:¬rY q p b=0):mY fl q p ((257+b:Nat):Int)=((0,0,0),rY q p b,iE q p b):=by
 unfold mY;rw[KD (p:=p),ao h]
theorem R7{p b p1 p2:Nat}{e k:Int}(h:rY q p b=0)(h1:iE q p b=p1)(h2:fz fl q p1=(k,e,p2))(h3:¬e=0):mY fl q p ((257+b:Nat):Int)=((0,0,0),e,p2):=by
 unfold mY;rw[KD (p:=p),aw (fun k=>k h),h1,h2,ao h3]
theorem R8{p b p1 p2:Nat}{k:Int}(h:rY q p b=0)(h1:iE q p b=p1)(h2:fz fl q p1=(k,0,p2))(h3:¬rY q p2 k=0):mY fl q p ((257+b:Nat):Int)=((0,0,0),rY q p2 k,iE q p2 k):=by
 unfold mY;rw[KD (p:=p),aw (fun k=>k h),h1,h2,aw (fun k=>k rfl),ao h3]
theorem R9{p b p1 p2 k:Nat}(h:rY q p b=0)(h1:iE q p b=p1)(h2:fz fl q p1=((k:Int),0,p2))(h3:rY q p2 k=0):mY fl q p ((257+b:Nat):Int)=((0,((2+2^b+oG q p b:Nat):Int),((2^k+oG q p2 k:Nat):Int)),0,iE q p2 k):=by
 unfold mY;rw[KD (p:=p),aw (fun k=>k h),h1,h2,aw (fun k=>k rfl),aw (fun k=>k h3)];simp
theorem acE{l:al}(xX:xd B w0 F g l)(hl:l.length≤300){p p2:Nat}{k e:Int}(hp:p≤q.length)(hq:q.length≤8000000)(hH:fz l q p=(k,e,p2)):
  a_ B w0 347 [br g,br g2] (Rr g2 A c q p F) (fun r L=>r= .tuple #[ah k,ah e]∧L=Rr g2 A c q p2 F):=by
 have:=alU (B:=B) (w0:=w0) (F:=F) (A:=A) (c:=c) (g2:=g2) (q:=q) xX hl hp hq;rw[hH]at this;exact this
theorem ah0{p b:Nat}(hb:b≤7)(hp:p≤q.length)(hq:q.length≤8000000)(xX:xd B w0 F g2 fl)(l0:fl.length=12):
  a_ B w0 348 [br g,ah ((257+b:Nat):Int)] (Rk (br g1) (br g2) g gr A c q p F)
   (fun r L=>r= .tuple #[.agg (bO.cells (mY fl q p ((257+b:Nat):Int)).1).toArray,ah (mY fl q p ((257+b:Nat):Int)).2.1]∧L=Rk (br g1) (br g2) g gr A c q (mY fl q p ((257+b:Nat):Int)).2.2 F):=by
 have hv1:=zI q p (n:=b) aa;obtain⟨p1,Cb⟩:∃x,iE q p b=x:=⟨_,rfl⟩
 have Yv:p1≤q.length:=by rw[←Cb];exact qw _ hp
 have lf:=uY fl q Yv;obtain⟨⟨k,e,p2⟩,hH⟩:∃x,fz fl q p1=x:=⟨_,rfl⟩
 rw[hH]at lf;simp only at lf;refine fw func348 63 [0,1] ?_;refine be ?_;refine bc fun g4=>?_;refine bA ?_;refine ab (dw rfl rfl (r:=((b:Nat):Int)) ((bE aa aa).trans aa)) rfl ?_;refine ai rfl (.perm (Ii q p hp hq b aa aa) (WA _ _ _ _ _)) ?_;refine dQ ?_;refine aj (fun lW=>?_) fun lW=>?_
 ·rw[R6 lW];refine be ?_;refine ab (cj [.int .u8 0,ah 0,ah 0] ag) rfl ?_;refine bF ?_;refine ve [4,5] ?_;refine bF ?_;refine aq ((rM (rM (ed (ed (.refl _)))))) ?_;refine gT rfl rfl ag aV gC rfl (.skip (.refl _)) ?_;exact⟨rfl,rfl⟩
 ·refine bF ?_;rw[Cb];refine cF (.bD g 455 [br gr,br g1,br g2]::F) ?_;refine ae 0 ?_;refine ae 1 ?_;refine ae 2 ?_;refine ae 3 ?_;refine ae 4 ?_;refine ae 5 ?_;refine ae 6 ?_;refine ae 7 ?_;refine az 8 ?_;refine iW rfl rfl (acE xX.cons.cons aa Yv hq hH) ?_;refine ae 9 ?_;refine ae 10 ?_;refine ae 11 ?_;refine ae 12 ?_;refine ae 13 ?_;refine cQ [0,1,4,6,7,8] ?_;refine bJ ?_;refine aj (fun zK=>?_) fun zK=>?_
  ·rw[R7 (bH lW) Cb hH zK];refine be ?_;refine ab (cj [.int .u8 0,ah 0,ah 0] ag) rfl ?_;refine bL ?_;refine aq ((rM (rM (ed (ed (.refl _)))))) ?_;refine gT rfl rfl ag aV gC rfl (.skip (.refl _)) ?_;exact⟨rfl,rfl⟩
  ·obtain rfl:e=0:=bH zK;obtain⟨s,rfl,hs,_⟩:=lf.2.2.1 rfl;refine bQ ?_;refine ai rfl (Ii q p2 lf.2.1 hq s aa aa) ?_;refine dQ ?_;refine aj (fun Ij=>?_) fun Ij=>?_
   ·rw[R8 (bH lW) Cb hH Ij];refine be ?_;refine ab (cj [.int .u8 0,ah 0,ah 0] ag) rfl ?_;refine bF ?_;refine ve [4,5] ?_;refine bF ?_;refine aq ((rM (rM (ed (ed (.refl _)))))) ?_;refine gT rfl rfl ag aV gC rfl (.skip (.refl _)) ?_;exact⟨rfl,rfl⟩
   ·have Vd:=zI q p2 (n:=s) aa;have LA:2^b≤128:=kZ (n:=2) aa hb;have y_:2^s≤2048:=kZ (n:=2) aa (by omega:s≤11);rw[R9 (bH lW) Cb hH (bH Ij)];obtain⟨y1,NF⟩:∃x,oG q p b=x:=⟨_,rfl⟩
    obtain⟨y2,RF⟩:∃x,oG q p2 s=x:=⟨_,rfl⟩
    rw[NF]at hv1⊢;rw[RF]at Vd⊢;refine bz ?_;refine ab (bm underlying60 underlying3 rfl (r:=(y1:Int)) (bE aa aa)) rfl ?_;refine be ?_;refine ab (bm underlying60 underlying3 rfl (r:=(y2:Int)) (bE aa aa)) rfl ?_;refine ab (eG [(0,_),(1,_),(2,_),(3,_)] [_,_,_,_] rfl rfl ag) rfl ?_;refine ai rfl (amh hb hv1 aa Vd) ?_;refine b8 ?_;refine ve [4,5] ?_;refine be ?_;refine aq ((rM (rM (ed (ed (.refl _)))))) ?_;refine gT rfl rfl ag aV gC rfl (.skip (.refl _)) ?_;exact⟨rfl,rfl⟩
theorem Te{p p1:Nat}{k e:Int}(hH:fz sl q p=(k,e,p1))(h:¬e=0∨k=256):ke sl fl q p=((0,0,0),false,e,p1):=by
 unfold ke;rw[hH,ao h]
theorem Tf{p p1 s:Nat}(hH:fz sl q p=((s:Int),0,p1))(h:s<256):ke sl fl q p=((UInt8.ofNat s,0,0),true,0,p1):=by
 unfold ke;rw[hH,aw (fun k=>k.elim (fun k=>k rfl) fun k=>aaR),ao cZ];simp
theorem Tg{p p1 b:Nat}(hH:fz sl q p=(((257+b:Nat):Int),0,p1)):ke sl fl q p=((mY fl q p1 ((257+b:Nat):Int)).1,decide ((mY fl q p1 ((257+b:Nat):Int)).2.1=0),(mY fl q p1 ((257+b:Nat):Int)).2.1,(mY fl q p1 ((257+b:Nat):Int)).2.2):=by
 unfold ke;rw[hH,aw (fun k=>k.elim (fun k=>k rfl) fun k=>aaR),aw cZ]
theorem anx{s:Nat}(h:s<256):((UInt8.ofNat s).toNat:Int)=(s:Int):=by
 rw[od];omega
theorem ai_(t:bO):∀u∈bO.cells t,u.oneCell'=true:=by simp[bO.cells,Value.oneCell']
theorem aet{p gs gf:Nat}(hp:p≤q.length)(hq:q.length≤8000000)(Nr:xd B w0 F gs sl)(hc2:xd B w0 F gf fl)(nN:sl.length=265)(l0:fl.length=12):
  a_ B w0 342 [br g] (Rk (br gs) (br gf) g gr A c q p F)
   (fun r L=>r= .tuple #[.agg (bO.cells (ke sl fl q p).1).toArray,.bool (ke sl fl q p).2.1,ah (ke sl fl q p).2.2.1]∧L=Rk (br gs) (br gf) g gr A c q (ke sl fl q p).2.2.2 F):=by
 have lf:=uY sl q hp;obtain⟨⟨k,e,p1⟩,hH⟩:∃x,fz sl q p=x:=⟨_,rfl⟩
 rw[hH]at lf;simp only at lf;refine fw func342 43 [0] ?_;refine be ?_;refine bc fun g2=>?_;refine bG ?_;refine cF (.bD g 455 [br gr,br gs,br gf]::F) ?_;refine ae 0 ?_;refine ae 1 ?_;refine ae 2 ?_;refine ae 3 ?_;refine ae 4 ?_;refine ae 5 ?_;refine ae 6 ?_;refine ae 7 ?_;refine az 8 ?_;refine iW rfl rfl (.perm (acE (g:=gs) Nr.cons.cons aa hp hq hH) (WA _ _ _ _ _)) ?_;refine ae 9 ?_;refine ae 10 ?_;refine ae 11 ?_;refine ae 12 ?_;refine ae 13 ?_;refine bz ?_;refine bW 6 24 [0,2,4,5] (¬e=0∨k=256) ?_ ?_
 ·refine bF ?_;refine aL rfl rfl rfl (fun lW=>?_) (fun lW=>?_)
  ·refine b8 ?_;exact aQ aaY
  ·refine be ?_;exact aQ ago
 ·refine bF ?_;refine aj (fun jk=>?_) fun jk=>?_
  ·rw[Te hH jk];refine cJ ?_;refine aq ((rM (rM (ed (ed (.refl _)))))) ?_;refine ql rfl rfl ag aV gC rfl rfl (.skip (.refl _)) ?_;exact⟨rfl,rfl⟩
  ·have he0:e=0:=bH fun h=>jk (.inl h);subst he0;obtain⟨s,rfl,hs,_⟩:=lf.2.2.1 rfl;refine bL ?_;refine aj (fun ka=>?_) fun ka=>?_
   ·rw[Tf hH aa];refine bF ?_;refine ab (bm underlying3 underlying5 rfl (r:=((UInt8.ofNat s).toNat:Int)) (by rw[anx aa];exact aat aa aa)) rfl ?_;refine ab (bw [(0,_)] [.int .u8 0,ah 0,ah 0] [0] [_,_,_] rfl rfl ag) rfl ?_;refine bJ ?_;refine aq ((rM (rM (ed (ed (.refl _)))))) ?_;refine ql rfl rfl ag aV gC rfl rfl (.skip (.refl _)) ?_;exact⟨rfl,rfl⟩
   ·obtain⟨b,rfl⟩:∃b,s=257+b:=⟨s-257,aa⟩
    rw[Tg hH];have qy:=ai_ (mY fl q p1 ((257+b:Nat):Int)).1;refine bL ?_;refine ai rfl (.perm (ah0 aa lf.2.1 hq hc2.cons l0) ((pu3 (fR (fR (fR (.refl _))))))) ?_;refine jS ?_;refine ve [2,3,4] ?_;refine be ?_;refine aq ((tx (ed (ed (ed (.refl _)))))) ?_;refine ql rfl rfl ag aV gC rfl rfl (.skip (.refl _)) ?_;exact⟨rfl,rfl⟩
theorem ads{p b:Nat}(hb:b≤7)(hp:p≤q.length)(l0:fl.length=12):0≤(mY fl q p ((257+b:Nat):Int)).1.2.1∧(mY fl q p ((257+b:Nat):Int)).1.2.1≤300∧(mY fl q p ((257+b:Nat):Int)).2.2≤q.length:=by
 have hv1:=zI q p (n:=b) aa;have LA:2^b≤128:=kZ (n:=2) aa hb;by_cases h1:rY q p b=0
 ·obtain⟨p1,Cb⟩:∃x,iE q p b=x:=⟨_,rfl⟩
  have Yv:p1≤q.length:=by rw[←Cb];exact qw _ hp
  have lf:=uY fl q Yv;obtain⟨⟨k,e,p2⟩,hH⟩:∃x,fz fl q p1=x:=⟨_,rfl⟩
  rw[hH]at lf;simp only at lf;by_cases h2:e=0
  ·subst h2;obtain⟨s,rfl,_⟩:=lf.2.2.1 rfl;by_cases h3:rY q p2 s=0
   ·rw[R9 h1 Cb hH h3];exact⟨cZ,cZ,qw _ lf.2.1⟩
   ·rw[R8 h1 Cb hH h3];exact⟨cZ,cZ,qw _ lf.2.1⟩
  ·rw[R7 h1 Cb hH h2];exact⟨cZ,cZ,lf.2.1⟩
 ·rw[R6 h1];exact⟨cZ,cZ,qw _ hp⟩
theorem Pr{p:Nat}(hp:p≤q.length)(nN:sl.length=265)(l0:fl.length=12):0≤(ke sl fl q p).1.2.1∧(ke sl fl q p).1.2.1≤300∧(ke sl fl q p).2.2.2≤q.length:=by
 have lf:=uY sl q hp;obtain⟨⟨k,e,p1⟩,hH⟩:∃x,fz sl q p=x:=⟨_,rfl⟩
 rw[hH]at lf;simp only at lf;by_cases h:¬e=0∨k=256
 ·rw[Te hH h];exact⟨cZ,cZ,lf.2.1⟩
 ·have he0:e=0:=bH fun k=>h (.inl k);subst he0;obtain⟨s,rfl,hs,_⟩:=lf.2.2.1 rfl;by_cases h2:s<256
  ·rw[Tf hH h2];exact⟨cZ,cZ,lf.2.1⟩
  ·obtain⟨b,rfl⟩:∃b,s=257+b:=⟨s-257,aa⟩
   rw[Tg hH];exact ads aa lf.2.1 l0
section
variable{f:Nat}{most:Int}{p p2:Nat}{acc:List bO}{R:List bO×Int}{t:bO}{ok:Bool}{e:Int}
theorem Pp(h:rD sl fl q (f+1) most p acc=R)(hT:ke sl fl q p=(t,ok,e,p2))(he:¬e=0):R=([],e):=by
 rw[←h,rD,hT,ao he]
theorem Po(h:rD sl fl q (f+1) most p acc=R)(hT:ke sl fl q p=(t,false,0,p2)):R=if paE q p2=0 then (acc,0) else ([],paE q p2):=by
 rw[←h,rD,hT,aw (fun k=>k rfl),ao rfl]
theorem Jd(h:rD sl fl q (f+1) most p acc=R)(hT:ke sl fl q p=(t,true,0,p2))(hm:most-max 1 t.2.1<0):R=([],6):=by
 rw[←h,rD,hT,aw (fun k=>k rfl),aw ak,ao hm]
theorem WO(h:rD sl fl q (f+1) most p acc=R)(hT:ke sl fl q p=(t,true,0,p2))(hm:¬most-max 1 t.2.1<0):rD sl fl q f (most-max 1 t.2.1) p2 (acc++[t])=R:=by
 rw[←h,rD,hT,aw (fun k=>k rfl),aw ak,aw hm]
end
theorem aeu{p p2 gs gf:Nat}{t:bO}{ok:Bool}{e:Int}(hp:p≤q.length)(hq:q.length≤8000000)(Nr:xd B w0 F gs sl)(hc2:xd B w0 F gf fl)(nN:sl.length=265)(l0:fl.length=12)(hT:ke sl fl q p=(t,ok,e,p2)):
  a_ B w0 342 [br g] (Rk (br gs) (br gf) g gr A c q p F)
   (fun r L=>r= .tuple #[.agg #[.int .u8 (t.1.toNat:Int),ah t.2.1,ah t.2.2],.bool ok,ah e]∧L=Rk (br gs) (br gf) g gr A c q p2 F):=by
 have:=aet (B:=B) (w0:=w0) (F:=F) (A:=A) (c:=c) (g:=g) (gr:=gr) hp hq Nr hc2 nN l0;rw[hT]at this;exact this
theorem UJ{acc:al}{p N:Nat}(hl:acc.length=N)(h:(fin acc p).2.1=0):(fin acc p).1.length=N:=by
 unfold fin at h⊢;by_cases hg:Good acc
 ·rw[ao hg];exact hl
 ·rw[aw hg]at h;cases h
theorem KP(q:List Bool)(N:Nat):∀f p acc s,acc.length≤N→N≤acc.length+f→(lH q N f p acc s).2.1=0→(lH q N f p acc s).1.length=N
 |0,p,acc,s=>fun h1 h2 h=>by
  unfold lH at h⊢;exact UJ aa h
 |f+1,p,acc,s=>fun k1 k2 h=>by
  unfold lH at h⊢;split at h
  ·rename_i h1;rw[ao h1];exact UJ aa h
  ·rename_i h1;rw[aw h1];split at h
   ·rename_i h2;exact absurd h h2
   ·rename_i h2;rw[aw h2];split at h
    ·rename_i h3;rw[ao h3];exact KP q N f _ _ _ TS TS h
    ·rename_i h3;rw[aw h3];split at h
     ·rename_i h4;exact absurd h h4
     ·rename_i h4;rw[aw h4];split at h
      ·cases h
      ·rename_i h5;rw[aw h5];have h6:¬N≤acc.length+oG q (iE q p 4) 6:=fun k=>h5 (.inr k);exact KP q N f _ _ _ (by rw[aY,x_];omega) (by rw[aY,x_];omega) h
theorem CM{q:List Bool}{p:Nat}{n:Nat}(h:(qG q p n).2.1=0):(qG q p n).1.length=n:=by
 unfold qG at h⊢;split at h
 ·cases h
 ·rename_i h1;rw[aw h1];rw[nB]at h⊢;exact KP q n _ _ _ _ ak ak h
theorem Z8{b:al}{most:Int}(h:most<0):fK b most=([],13):=by unfold fK;rw[ao h]
theorem WQ{b l:al}{most e:Int}{p:Nat}(h:¬most<0)(h1:qG (gi b) 0 265=(l,e,p))(h2:¬e=0):fK b most=([],e):=by
 unfold fK;rw[aw h,h1,ao h2]
theorem WR{b l l2:al}{most e:Int}{p p2:Nat}(h:¬most<0)(h1:qG (gi b) 0 265=(l,0,p))(h2:qG (gi b) p 12=(l2,e,p2))(h3:¬e=0):fK b most=([],e):=by
 unfold fK;rw[aw h,h1,aw (fun k=>k rfl),h2,ao h3]
theorem WS{b l l2:al}{most:Int}{p p2:Nat}(h:¬most<0)(h1:qG (gi b) 0 265=(l,0,p))(h2:qG (gi b) p 12=(l2,0,p2)):fK b most=rD l l2 (gi b) (most.toNat+1) most p2 []:=by
 unfold fK;rw[aw h,h1,aw (fun k=>k rfl),h2,aw (fun k=>k rfl)]
def aaG(R:List bO×Int)(F:aP)(r:Value)(L:aP):Prop:=∃A' c',r= .tuple #[.slice A' R.1.length c',ah R.2]∧L= .own 170 3 A' R.1.length c' (kT R.1)::F
theorem Z'{b:al}{most:Int}(hm:most<0):a_ B w0 327 [.slice A b.length c,ah most] F (aaG (fK b most) F):=by
 rw[Z8 hm];refine fw func327 70 [0,1] ?_;refine de ?_;refine aj (fun mA=>?_) fun mA=>?_
 ·refine bJ ?_;refine aD 170 3 none ?_;refine aF ?_;exact⟨none,0,rfl,rfl⟩
 ·exfalso;exact mA hm
theorem aja{b l:al}{most e:Int}{p:Nat}(hb:eM B w0 F A c b)(c_:b.length≤1000000)(hm:¬most<0)(h1:qG (gi b) 0 265=(l,e,p))(h2:¬e=0):
  a_ B w0 327 [.slice A b.length c,ah most] F (aaG (fK b most) F):=by
 have y':=dO b;rw[WQ hm h1 h2];refine fw func327 70 [0,1] ?_;refine de ?_;refine aj (fun mA=>?_) fun mA=>?_
 ·exfalso;exact hm mA
 ·refine bG ?_;refine dX rfl (EM hb c_) fun gr Ar cr=>?_;refine ab (bw [(0,_)] [.pointer none,.pointer none,.pointer none] [0] [_,_,_] rfl rfl ag) rfl ?_;refine bh fun g16=>?_;refine bJ ?_;refine ai rfl (E5 (k:=265) aa aa aa h1 h2) ?_;refine de ?_;refine ve [1,4,5,6,26] ?_;refine aF ?_;refine aj (fun qU=>?_) fun qU=>?_
  ·refine bQ ?_;refine aq (.skip (.skip (.skip (.refl _)))) (aD 170 3 none ?_);refine aF ?_;exact⟨none,0,rfl,rfl⟩
  ·exfalso;exact qU h2
theorem ajb{b l l2:al}{most e:Int}{p p2:Nat}(hb:eM B w0 F A c b)(c_:b.length≤1000000)(hm:¬most<0)(h1:qG (gi b) 0 265=(l,0,p))(h2:qG (gi b) p 12=(l2,e,p2))(h3:¬e=0):
  a_ B w0 327 [.slice A b.length c,ah most] F (aaG (fK b most) F):=by
 have y':=dO b;have mJ:p≤(gi b).length:=by have:=E6 (q:=gi b) (p:=0) 265 aa;rw[h1]at this;exact this
 rw[WR hm h1 h2 h3];refine fw func327 70 [0,1] ?_;refine de ?_;refine aj (fun mA=>?_) fun mA=>?_
 ·exfalso;exact hm mA
 ·refine bG ?_;refine dX rfl (EM hb c_) fun gr Ar cr=>?_;refine ab (bw [(0,_)] [.pointer none,.pointer none,.pointer none] [0] [_,_,_] rfl rfl ag) rfl ?_;refine bh fun g16=>?_;refine bJ ?_;refine aX abt rfl (AN (k:=265) aa aa aa h1) rfl ?_;rintro _ _ ⟨gs,Y,rfl,cA,tR⟩;obtain rfl:=cA.symm;refine de ?_;refine ve [1,4,5,6,26] ?_;refine aF ?_;refine dm fun qU=>?_;refine bL ?_;refine ai rfl (E5 (k:=12) mJ aa aa h2 h3) ?_;refine jy ?_;refine aj (fun zK=>?_) fun zK=>?_
  ·refine bG ?_;refine ve [4,5] ?_;refine bF ?_;refine aq (.skip (.skip (.skip (dv _ _)))) (aD 170 3 none ?_);refine aF ?_;exact⟨none,0,rfl,rfl⟩
  ·exfalso;exact zK h3
theorem ajc{b l l2:al}{most:Int}{p p2:Nat}(hb:eM B w0 F A c b)(c_:b.length≤1000000)(hm:¬most<0)(wM:most≤1000000)(h1:qG (gi b) 0 265=(l,0,p))(h2:qG (gi b) p 12=(l2,0,p2)):
  a_ B w0 327 [.slice A b.length c,ah most] F (aaG (fK b most) F):=by
 have y':=dO b;have mJ:p≤(gi b).length:=by have:=E6 (q:=gi b) (p:=0) 265 aa;rw[h1]at this;exact this
 have Rx:p2≤(gi b).length:=by have:=E6 (q:=gi b) (p:=p) 12 mJ;rw[h2]at this;exact this
 have tu:l.length=265:=by have:=CM (q:=gi b) (p:=0) (n:=265);rw[show(((265:Nat):Int))=265 from rfl,h1]at this;exact this rfl
 have rK:l2.length=12:=by have:=CM (q:=gi b) (p:=p) (n:=12);rw[show(((12:Nat):Int))=12 from rfl,h2]at this;exact this rfl
 obtain⟨R,hR⟩:∃R,rD l l2 (gi b) (most.toNat+1) most p2 []=R:=⟨_,rfl⟩
 rw[WS hm h1 h2,hR];obtain⟨q,hq⟩:∃q,gi b=q:=⟨_,rfl⟩
 rw[hq]at y' mJ Rx h1 h2 hR;have hnr:=EM (B:=B) (w0:=w0) hb c_;rw[hq]at hnr;refine fw func327 70 [0,1] ?_;refine de ?_;refine aj (fun mA=>?_) fun mA=>?_
 ·exfalso;exact hm mA
 ·refine bG ?_;refine dX rfl (hnr) fun gr Ar cr=>?_;refine ab (bw [(0,_)] [.pointer none,.pointer none,.pointer none] [0] [_,_,_] rfl rfl ag) rfl ?_;refine bh fun g16=>?_;refine bJ ?_;refine aX abt rfl (AN (k:=265) aa aa aa h1) rfl ?_;rintro _ _ ⟨gs,Y,rfl,cA,tR⟩;obtain rfl:=cA.symm;refine de ?_;refine ve [1,4,5,6,26] ?_;refine aF ?_;refine dm fun qU=>?_;refine bL ?_;refine aX abt rfl (AN (k:=12) mJ aa aa h2) rfl ?_;rintro _ _ ⟨gf,Y2,rfl,cA,hcf⟩;obtain rfl:=cA.symm;refine jy ?_;refine dm fun zK=>?_;obtain⟨K,hK⟩:=cN (Y2++(Y++F));have Nr:xd B w0 K gs l:=by rw[hK];exact tR.mono (.trans (vC Y F) (gy _ _))
  have hc2:xd B w0 K gf l2:=by rw[hK];exact hcf.mono (vC _ _)
  have GP:Wk K F:=by rw[hK];exact(dv _ _).trans (dv _ _)
  rw[←hK];refine aZ 170 3 none ?_;refine wg (L':=.own 170 3 none 0 0 []::Rk (br gs) (br gf) g16 gr Ar cr q p2 K) (.refl _) ?_;refine b8 ?_;refine aE (fun zf zL zm=>∃(f:Nat) (m:Int) (pp:Nat) (acc:List bO) (A':bj) (c':Nat),(0≤m∧m<f∧m≤1000000∧pp≤q.length∧rD l l2 q f m pp acc=R∧acc.length+m≤most)∧f=zm∧Sub zf [(1,ah m),(4,.slice A' acc.length c'),(6,br g16)]∧Wk zL (.own 170 3 A' acc.length c' (kT acc)::Rk (br gs) (br gf) g16 gr Ar cr q pp K)) _ ⟨most.toNat+1,most,p2,[],none,0,⟨aa,aa,aa,Rx,hR,ak⟩,rfl,bp,.refl _⟩ ?_;rintro _ _ _ ⟨f,m,pp,acc,A',c',⟨hm0,hmf,hm6,hpq,wI,Ga⟩,rfl,hs,hp⟩;refine aU hs hp ?_;clear hs hp;refine be ?_;obtain⟨f',rfl⟩:∃f',f=f'+1:=⟨f-1,aa⟩
  have ahy:=Pr (sl:=l) (fl:=l2) hpq tu rK;obtain⟨⟨t,ok,e,p3⟩,hT⟩:∃x,ke l l2 q pp=x:=⟨_,rfl⟩
  rw[hT]at ahy;simp only at ahy;refine be ?_;refine ai rfl (.perm (aeu hpq aa Nr.cons hc2.cons tu rK hT) ((l6 (l6 (l6 (fR (.refl _))))))) ?_;refine b8 ?_;refine bc fun g7=>?_;refine cJ ?_;refine aj (fun h46=>?_) fun h46=>?_
  ·have Yh:=Pp wI hT h46;subst Yh;refine de ?_;refine aq (.skip (.skip (.skip (.skip (.skip GP))))) (aD 170 3 none ?_);refine aF ?_;exact⟨none,0,rfl,rfl⟩
  ·obtain rfl:e=0:=bH h46;refine bz ?_;refine ab (iQ rfl) rfl ?_;refine be ?_;refine gD (fun Yc=>?_) fun Yc=>?_
   ·obtain rfl:ok=false:=by cases ok<;>simp at Yc⊢
    have Yh:=Po wI hT;refine de ?_;refine ai rfl (.perm (aqO q p3 ahy.2.2 aa) ((BN (BN (fR (fR (.refl _))))))) ?_;refine aF ?_;refine ve [4,10] ?_;refine bL ?_;refine aj (fun U4=>?_) fun U4=>?_
    ·rw[aw U4]at Yh;subst Yh;refine bQ ?_;refine aq (.skip (.skip (.skip (.skip (.skip GP))))) (aD 170 3 none ?_);refine aF ?_;exact⟨none,0,rfl,rfl⟩
    ·rw[ao (bH U4)]at Yh;subst Yh;refine bA ?_;refine aq (.skip (.skip (.skip (.skip (.cons GP))))) ?_;refine aF ?_;exact⟨A',c',rfl,rfl⟩
   ·obtain rfl:ok=true:=by cases ok<;>simp at Yc⊢
    refine bJ ?_;refine ab (JU rfl rfl) rfl ?_;refine be ?_;refine ve [1,4,6,7] ?_;refine bL ?_;refine aj (fun PW=>?_) fun PW=>?_
    ·have Yh:=Jd wI hT PW;subst Yh;refine cJ ?_;refine aq (.skip (.skip (.skip (.skip (.skip GP))))) (aD 170 3 none ?_);refine aF ?_;exact⟨none,0,rfl,rfl⟩
    ·have Ro:=WO wI hT PW;have wL:(acc++[t]).length=acc.length+1:=by simp
     refine bG ?_;refine rE akt rfl rfl rfl aa cw rfl rfl rfl (fun _=>rfl) aV aa aa ?_;intro _ A60 c60;refine bF ?_;refine av ⟨_,aa,f',m-max 1 t.2.1,p3,acc++[t],A60,c60,⟨aa,aa,aa,ahy.2.2,Ro,TS⟩,rfl,bp,.trans ((wu4 (gl (gl (gl (.skip (.refl _))))))) (ax ak (by rw[Jf];rfl) (.refl _))⟩
theorem ajd{b:al}{most:Int}(hb:eM B w0 F A c b)(c_:b.length≤1000000)(wM:most≤1000000):
  a_ B w0 327 [.slice A b.length c,ah most] F (aaG (fK b most) F):=by
 by_cases hm:most<0
 ·exact Z' hm
 ·obtain⟨⟨l,e,p⟩,h1⟩:∃x,qG (gi b) 0 265=x:=⟨_,rfl⟩
  by_cases he:e=0
  ·subst he;obtain⟨⟨l2,e2,p2⟩,h2⟩:∃x,qG (gi b) p 12=x:=⟨_,rfl⟩
   by_cases he2:e2=0
   ·subst he2;exact ajc hb c_ hm wM h1 h2
   ·exact ajb hb c_ hm h1 h2 he2
  ·exact aja hb c_ hm h1 he
end
section
theorem TU{P:Prop}(h:P:=by(rw[k3];exact hb.cons)):P:=h
theorem zz:a_ B w0 177 [br g] (Cv g A c s::F) (fun r L=>r=ah s.at_∧L=Cv g A c s::F):=by
 refine fw func177 10 [0] ?_;refine acg ?_;exact⟨rfl,rfl⟩
theorem Cs.gx(s:Cs){m:Int}(h0:0≤m)(hm:m≤9223372036854775807):(s.int m:Int)≤m:=by
 unfold Cs.int;split
 ·omega
 ·have h:=jz s.rest m hm;by_cases he:(et s.rest m).2.2=0
  ·exact h.2.2.2 he
  ·rw[(pt he).1];omega
theorem qP(s:Cs)(e:Int):(s.failed e).b=s.b:=by unfold Cs.failed;split<;>rfl
theorem ajX(b:al):(UO b).b=b:=by
 unfold UO;split
 ·rw[qP];exact Cs.cK _ _ _
 ·exact Cs.cK _ _ _
theorem abY(b:al):(fr2 b).b=b:=by
 unfold fr2;exact(Cs.cK _ _ _).trans (ajX b)
theorem abZ(b:al):(F_ b).b=b:=by
 unfold F_;split
 ·rw[qP];exact(Cs.cK _ _ _).trans (abY b)
 ·exact(Cs.cK _ _ _).trans (abY b)
theorem ab0(b:al):(X2 b).b=b:=by
 unfold X2;exact(Cs.cK _ _ _).trans ((Cs.cK _ _ _).trans (abZ b))
theorem apA(b:al):(xT b).b=b:=by
 unfold xT;split
 ·exact ab0 b
 ·rw[qP];exact ab0 b
theorem oY{b:al}(h:b.length≤1099511627776):cu ⟨b,0,0⟩:=⟨bT _,h⟩
theorem abX{b:al}(h:b.length≤1099511627776):cu (UO b):=by
 unfold UO;split
 ·exact(oY h).eJ.failed _
 ·exact(oY h).eJ
theorem Q5{b:al}(h:b.length≤1099511627776):cu (fr2 b):=(abX h).bX aa
theorem J9{b:al}(h:b.length≤1099511627776):cu (F_ b):=by
 unfold F_;split
 ·exact((Q5 h).bX aa).failed _
 ·exact(Q5 h).bX aa
theorem Q6{b:al}(h:b.length≤1099511627776):cu (X2 b):=(J9 h).b_.b_
theorem alv{b:al}(h:b.length≤1099511627776):cu (xT b):=by
 unfold xT;split
 ·exact Q6 h
 ·exact(Q6 h).failed _
theorem mM{s s':Cs}{L L':aP}(h:s=s')(k:Wk L L'):Wk (Cv g A c s::L) (Cv g A c s'::L'):=by subst h;exact k.cons
abbrev Fb(g gc:Nat)(w n p:Nat)(bd:Value):Ch:=.bD g 379 [br gc,ah w,ah n,ah p,bd]
theorem ag_{b:al}(hb:eM B w0 F A c b)(c_:b.length≤1099511627776):
  a_ B w0 301 [br g] (Fb g gc 0 0 0 (.slice none 0 0)::Cv gc A c ⟨b,0,0⟩::F)
   (fun r L=>r= .tuple #[]∧L=Fb g gc (Cs.byte ⟨b,0,0⟩).toNat (frN b) (zE b) (.slice none 0 0)::Cv gc A c (F_ b)::F):=by
 have hx:=lQ (Cs.byte ⟨b,0,0⟩);obtain⟨x,hxx⟩:=cN ((Cs.byte ⟨b,0,0⟩).toNat);have hN:((frN b:Nat):Int)≤32768:=Cs.gx _ aa aa;have hP:((zE b:Nat):Int)≤32768:=Cs.gx _ aa aa;have k1:=ajX b;have k2:=abY b;have k3:=abZ b;rw[←hxx]at hx⊢;refine fw func301 53 [0] ?_;refine bL ?_;refine ai rfl ((oo (g:=gc) (oY c_) (aJ.cons hb)).perm ((l6 (fR (.refl _))))) ?_;refine ab (bm underlying5 underlying3 rfl (r:=(x:Int)) (by rw[hxx];exact bE aa aa)) rfl ?_;refine bG ?_;refine d_ (fun zf zL=>Sub zf [(0,br g)]∧Wk zL (Cv gc A c (UO b)::Fb g gc x 0 0 (.slice none 0 0)::F)) ?_ ?_
 ·refine bQ ?_;refine aj (fun jG=>?_) fun jG=>?_
  ·refine bG ?_;refine ai rfl (ng 2) ?_;refine ve [0] ?_;exact bC ⟨bp,mM (by unfold UO;rw[ao aa]) (.refl _)⟩
  ·refine aF ?_;exact bC ⟨bp,mM (by unfold UO;rw[aw aa]) (.refl _)⟩
 ·rintro _ _ ⟨hs,hp⟩;refine aU hs hp ?_;clear hs hp;refine aF ?_;have e2:fr2 b=(UO b).bX 32768:=rfl;have eN:frN b=(UO b).int 32768:=rfl;have eP:zE b=(fr2 b).int 32768:=rfl;refine bz ?_;refine ai rfl (iH (s:=UO b) (abX c_) (by rw[k1];exact hb.cons) aa aa) ?_;refine bz ?_;rw[←eN,←e2];refine bz ?_;refine ai rfl (iH (s:=fr2 b) (Q5 c_) (by rw[k2];exact hb.cons) aa aa) ?_;refine bz ?_;rw[←eP];refine bQ ?_;refine b7 (eZ rfl rfl (r:=((1032*zE b:Nat):Int)) ((bE aa aa).trans aa)) rfl ?_;refine b7 (bY rfl rfl (r:=((1032*zE b+64:Nat):Int)) ((bE aa aa).trans aa)) rfl ?_;refine aF ?_;refine na [(0,_),(47,_)] ⟨rfl,rfl,trivial⟩ ?_;refine aF ?_;refine aj (fun U3=>?_) fun U3=>?_
  ·refine bG ?_;refine ai rfl (ng 6) ?_;refine be ?_;refine aq (.trans (mM (s':=F_ b) (by unfold F_;rw[ao aa]) (.refl _)) (.swap (.refl _))) ?_;refine aF ?_;exact⟨rfl,rfl⟩
  ·refine be ?_;refine aq (.trans (mM (s':=F_ b) (by unfold F_;rw[aw aa]) (.refl _)) (.swap (.refl _))) ?_;refine aF ?_;exact⟨rfl,rfl⟩
theorem Qy{l:al}{n:Nat}{xs:cV}(HT:bI B w0)(e1:n=l.length)(e2:xs=bv l)(hb:aJ B w0 F 1 (.slice A n c) n xs)(hl:l.length≤1099511627776):
  a_ B w0 176 [.slice A n c] F (fun r L=>∃A' c',r= .tuple #[.slice A' (aI l).1.length c',ah (aI l).2]∧L= .own 5 1 A' (aI l).1.length c' (bv (aI l).1)::F):=by
 subst e1;subst e2;exact wz HT hb hl
theorem ahb(HT:bI B w0){b:al}{w n:Nat}(hb:eM B w0 F A c b)(oH:eM B w0 F A2 c2 b)(c_:b.length≤1099511627776):
  a_ B w0 302 [br g,.slice A2 b.length c2] (Fb g gc w n (zE b) (.slice none 0 0)::Cv gc A c (F_ b)::F)
   (fun r L=>r= .tuple #[]∧∃A' c',L=Fb g gc w n (zE b) (.slice A' (PU b).length c')::Cv gc A c (xT b):: .own 5 1 A' (PU b).length c' (bv (PU b))::F):=by
 have hP:((zE b:Nat):Int)≤32768:=Cs.gx _ aa aa;have k3:=abZ b;have k4:=ab0 b;have o4:=Q6 c_;have o4a:=o4.at_;rw[k4]at o4a;obtain⟨s4,LB⟩:=cN ((F_ b).b_ (zE b));have o4':cu s4:=by rw[LB];exact(J9 c_).b_
 have k4':s4.b=b:=by rw[LB];exact(Cs.cK _ _ _).trans k3
 have e4:X2 b=s4.b_ 4:=by rw[LB];rfl
 have e5:PU b=(F_ b).take (zE b):=rfl;refine dL.xf oH.cons.cons fun mh _=>?_;refine fw func302 46 [0,1] ?_;refine aF ?_;refine cF F ?_;refine ae 0 ?_;refine ae 1 ?_;refine ae 2 ?_;refine ae 3 ?_;refine ae 5 ?_;refine ae 6 ?_;refine ae 7 ?_;refine gV 4 8 ?_ ?_
 ·refine aF ?_;refine az 8 ?_;refine aF ?_;refine az 9 ?_;refine bZ rfl rfl ((mb (g:=gc) (s:=F_ b) (m:=zE b) (J9 c_) TU aa aa).perm ((l6 (fR (.refl _))))) fun Bh JH=>?_;refine ae 10 ?_;refine ae 11 ?_;refine az 12 ?_;refine b8 ?_;rw[←LB,←e5];refine bG ?_;refine ay rfl (mb (g:=gc) (s:=s4) (m:=4) o4' (by rw[k4'];exact hb.cons.cons) aa aa) fun A22 c22=>?_;refine ve [0,1] ?_;refine bF ?_;rw[←e4];refine bG ?_;refine ai rfl (gO) ?_;refine bF ?_;refine aj (fun qx=>?_) fun qx=>?_
  ·refine be ?_;refine aq (.trans (mM (s':=xT b) (by unfold xT;rw[ao qx]) (.refl _)) ((tx (ed (gl (.skip (.refl _))))))) ?_;refine aF ?_;exact⟨rfl,Bh,JH,rfl⟩
  ·refine bF ?_;obtain⟨m,hm⟩:=cN ((X2 b).at_);have wJ:=oH.iZ (k:=m) aa;rw[cE]at wJ;refine bz ?_;refine ai rfl (zz) ?_;refine ab (bN (i:=m) (size:=1) underlying27 ag rfl rfl aa aa) rfl ?_;refine ay rfl (Qy (l:=b.take m) HT np (by simp[bv,pn]) wJ.cons.cons.cons.cons np) fun A37 c37=>?_;refine bG ?_;refine ve [0,5] ?_;refine bL ?_;refine ai rfl ((ng (aI (b.take m)).2).perm ((l6 (fR (.refl _))))) ?_;refine be ?_;refine aq (.trans (mM (s':=xT b) (by unfold xT;rw[aw qx,hm]) (.refl _)) ((wu4 (ed (rM (.skip (.skip (.refl _)))))))) ?_;refine aF ?_;exact⟨rfl,Bh,JH,rfl⟩
 ·refine aF ?_;refine az 4 ?_;refine aF ?_;refine az 9 ?_;refine bZ rfl rfl ((mb (g:=gc) (s:=F_ b) (m:=zE b) (J9 c_) TU aa aa).perm ((l6 (fR (.refl _))))) fun Bh JH=>?_;refine ae 10 ?_;refine ae 11 ?_;refine az 12 ?_;refine b8 ?_;rw[←LB,←e5];refine bG ?_;refine ay rfl (mb (g:=gc) (s:=s4) (m:=4) o4' (by rw[k4'];exact hb.cons.cons) aa aa) fun A22 c22=>?_;refine ve [0,1] ?_;refine bF ?_;rw[←e4];refine bG ?_;refine ai rfl (gO) ?_;refine bF ?_;refine aj (fun qx=>?_) fun qx=>?_
  ·refine be ?_;refine aq (.trans (mM (s':=xT b) (by unfold xT;rw[ao qx]) (.refl _)) ((tx (ed (gl (.skip (.refl _))))))) ?_;refine aF ?_;exact⟨rfl,Bh,JH,rfl⟩
  ·refine bF ?_;obtain⟨m,hm⟩:=cN ((X2 b).at_);have wJ:=oH.iZ (k:=m) aa;rw[cE]at wJ;refine bz ?_;refine ai rfl (zz) ?_;refine ab (bN (i:=m) (size:=1) underlying27 ag rfl rfl aa aa) rfl ?_;refine ay rfl (Qy (l:=b.take m) HT np (by simp[bv,pn]) wJ.cons.cons.cons.cons np) fun A37 c37=>?_;refine bG ?_;refine ve [0,5] ?_;refine bL ?_;refine ai rfl ((ng (aI (b.take m)).2).perm ((l6 (fR (.refl _))))) ?_;refine be ?_;refine aq (.trans (mM (s':=xT b) (by unfold xT;rw[aw qx,hm]) (.refl _)) ((wu4 (ed (rM (.skip (.skip (.refl _)))))))) ?_;refine aF ?_;exact⟨rfl,Bh,JH,rfl⟩
theorem ahZ{q:List Bool}{fl:al}{p b:Nat}(hb:b≤7)(hp:p≤q.length)(l0:fl.length=12):0≤(mY fl q p ((257+b:Nat):Int)).1.2.2∧(mY fl q p ((257+b:Nat):Int)).1.2.2≤5000:=by
 by_cases h1:rY q p b=0
 ·obtain⟨p1,Cb⟩:∃x,iE q p b=x:=⟨_,rfl⟩
  have Yv:p1≤q.length:=by rw[←Cb];exact qw _ hp
  have lf:=uY fl q Yv;obtain⟨⟨k,e,p2⟩,hH⟩:∃x,fz fl q p1=x:=⟨_,rfl⟩
  rw[hH]at lf;simp only at lf;by_cases h2:e=0
  ·subst h2;obtain⟨s,rfl,hs,_⟩:=lf.2.2.1 rfl;have Vd:=zI q p2 (n:=s) aa;have y_:2^s≤2048:=kZ (n:=2) aa (by omega:s≤11);by_cases h3:rY q p2 s=0
   ·rw[R9 h1 Cb hH h3];exact⟨cZ,cZ⟩
   ·rw[R8 h1 Cb hH h3];exact⟨cZ,cZ⟩
  ·rw[R7 h1 Cb hH h2];exact⟨cZ,cZ⟩
 ·rw[R6 h1];exact⟨cZ,cZ⟩
theorem ai9{q:List Bool}{sl fl:al}{p:Nat}(hp:p≤q.length)(nN:sl.length=265)(l0:fl.length=12):0≤(ke sl fl q p).1.2.2∧(ke sl fl q p).1.2.2≤5000:=by
 have lf:=uY sl q hp;obtain⟨⟨k,e,p1⟩,hH⟩:∃x,fz sl q p=x:=⟨_,rfl⟩
 rw[hH]at lf;simp only at lf;by_cases h:¬e=0∨k=256
 ·rw[Te hH h];exact⟨cZ,cZ⟩
 ·have he0:e=0:=bH fun k=>h (.inl k);subst he0;obtain⟨s,rfl,hs,_⟩:=lf.2.2.1 rfl;by_cases h2:s<256
  ·rw[Tf hH h2];exact⟨cZ,cZ⟩
  ·obtain⟨b,rfl⟩:∃b,s=257+b:=⟨s-257,aa⟩
   rw[Tg hH];exact ahZ aa lf.2.1 l0
theorem Pn{q:List Bool}{sl fl:al}(nN:sl.length=265)(l0:fl.length=12):∀(f:Nat) (most:Int) (p:Nat) (acc:List bO),p≤q.length→WJ acc→0≤most→
  ((rD sl fl q f most p acc).1.length:Int)≤acc.length+most∧WJ (rD sl fl q f most p acc).1
 |0,most,p,acc,hp,ha,h0=>⟨by simp[rD];omega,fun t h=>ki⟩
 |f+1,most,p,acc,hp,ha,h0=>by
  have h1:=Pr (sl:=sl) (fl:=fl) hp nN l0;have h2:=ai9 (sl:=sl) (fl:=fl) hp nN l0;obtain⟨⟨t,ok,e,p2⟩,hT⟩:∃x,ke sl fl q p=x:=⟨_,rfl⟩
  rw[hT]at h1 h2;simp only at h1 h2;by_cases he:e=0
  ·subst he;cases ok with
   |false=>
    rw[Po rfl hT];split
    ·exact⟨cZ,ha⟩
    ·exact⟨bR,fun t h=>ki⟩
   |true=>
    by_cases hm:most-max 1 t.2.1<0
    ·rw[Jd rfl hT hm];exact⟨bR,fun t h=>ki⟩
    ·rw[←WO rfl hT hm];have:=Pn nN l0 f (most-max 1 t.2.1) p2 (acc++[t]) h1.2.2 (fun u hu=>by
      rcases dz.1 hu with hu|hu
      ·exact ha u hu
      ·rw[lF.1 hu];exact⟨⟨aa,aa⟩,aa,aa⟩) aa
     rw[aY,p_]at this;exact⟨by have:=this.1;omega,this.2⟩
  ·rw[Pp rfl hT he];exact⟨bR,fun t h=>ki⟩
theorem Z7{b:al}{most:Int}(h0:0≤most):((fK b most).1.length:Int)≤most∧WJ (fK b most).1:=by
 have y':=dO b;obtain⟨⟨l,e,p⟩,h1⟩:∃x,qG (gi b) 0 265=x:=⟨_,rfl⟩
 by_cases he:e=0
 ·subst he;obtain⟨⟨l2,e2,p2⟩,h2⟩:∃x,qG (gi b) p 12=x:=⟨_,rfl⟩
  by_cases he2:e2=0
  ·subst he2;have mJ:p≤(gi b).length:=by have:=E6 (q:=gi b) (p:=0) 265 aa;rw[h1]at this;exact this
   have Rx:p2≤(gi b).length:=by have:=E6 (q:=gi b) (p:=p) 12 mJ;rw[h2]at this;exact this
   have tu:l.length=265:=by have:=CM (q:=gi b) (p:=0) (n:=265);rw[show(((265:Nat):Int))=265 from rfl,h1]at this;exact this rfl
   have rK:l2.length=12:=by have:=CM (q:=gi b) (p:=p) (n:=12);rw[show(((12:Nat):Int))=12 from rfl,h2]at this;exact this rfl
   rw[WS aa h1 h2];have:=Pn (q:=gi b) tu rK (most.toNat+1) most p2 [] Rx (fun t h=>ki) h0;simpa using this
  ·rw[WR aa h1 h2 he2];exact⟨bR,fun t h=>ki⟩
 ·rw[WQ aa h1 he];exact⟨bR,fun t h=>ki⟩
def FrA(R:al×Int)(B:Nat)(w0:World)(F:aP)(r:Value)(L:aP):Prop:=∃A' c' Y,r= .tuple #[.slice A' R.1.length c',ah R.2]∧L=Y++F∧aJ B w0 L 1 (.slice A' R.1.length c') R.1.length (bv R.1)
section
variable{w n p:Nat}{bd:al}
theorem apB(h:w=0)(h2:n≠p):Nh w n p bd=([],2):=by unfold Nh;rw[ao h,ao h2]
theorem apC(h:w=0)(h2:¬n≠p):Nh w n p bd=(bd,0):=by unfold Nh;rw[ao h,aw h2]
theorem apD(h:¬w=0)(h2:(fK bd n).2≠0):Nh w n p bd=([],(fK bd n).2):=by unfold Nh;rw[aw h,ao h2]
theorem apE(h:¬w=0)(h2:¬(fK bd n).2≠0)(h3:(kF (fK bd n).1 n).2≠0):Nh w n p bd=([],(kF (fK bd n).1 n).2):=by unfold Nh;rw[aw h,aw h2,ao h3]
theorem apF(h:¬w=0)(h2:¬(fK bd n).2≠0)(h3:¬(kF (fK bd n).1 n).2≠0)(h4:(kF (fK bd n).1 n).1.length<n):Nh w n p bd=([],2):=by unfold Nh;rw[aw h,aw h2,aw h3,ao h4]
theorem apG(h:¬w=0)(h2:¬(fK bd n).2≠0)(h3:¬(kF (fK bd n).1 n).2≠0)(h4:¬(kF (fK bd n).1 n).1.length<n):Nh w n p bd=((kF (fK bd n).1 n).1,0):=by unfold Nh;rw[aw h,aw h2,aw h3,aw h4]
end
theorem FrA.nil{R:al×Int}{r:Value}{L Y:aP}(h:R.1=[])(hr:r= .tuple #[.slice none 0 0,ah R.2])(hL:L=Y++F):FrA R B w0 F r L:=by
 obtain⟨l,e⟩:=R;simp only at h;subst h;exact⟨none,0,Y,hr,hL,aJ.AA⟩
theorem abP{w n p:Nat}{bd:al}(hb:eM B w0 F A c bd)(c_:bd.length≤1000000)(hn:n≤32768):
  a_ B w0 303 [br g] (Fb g gc w n p (.slice A bd.length c)::F) (FrA (Nh w n p bd) B w0 (Fb g gc w n p (.slice A bd.length c)::F)):=by
 have hta:=Z7 (b:=bd) (most:=n) aa;refine fw func303 62 [0] ?_;refine jS ?_;refine aj (fun pg=>?_) fun pg=>?_
 ·refine dQ ?_;refine aj (fun iY=>?_) fun iY=>?_
  ·refine b8 ?_;refine ve [2,3] ?_;refine bG ?_;rw[apB aa aa];exact FrA.nil (Y:=[]) rfl rfl rfl
  ·refine bA ?_;refine ve [2,3] ?_;refine b8 ?_;rw[apC aa aa];exact⟨A,c,[],rfl,rfl,hb.cons⟩
 ·refine bF ?_;refine cF (Fb g gc w n p (.slice A bd.length c)::F) ?_;refine ae 0 ?_;refine ae 1 ?_;refine ae 2 ?_;refine ae 3 ?_;refine ae 4 ?_;refine ae 5 ?_;refine ae 6 ?_;refine ae 7 ?_;refine az 8 ?_;refine bZ rfl rfl (ajd (b:=bd) (most:=n) hb.cons c_ aa) fun wi xh=>?_;refine ae 9 ?_;refine ae 10 ?_;refine ae 11 ?_;refine ae 12 ?_;refine ae 13 ?_;refine cQ [0,4,5] ?_;refine bJ ?_;refine aj (fun Cz=>?_) fun Cz=>?_
  ·refine bA ?_;rw[apD aa Cz];exact FrA.nil (Y:=[_]) rfl rfl rfl
  ·refine bQ ?_;refine ay rfl (am1 (l:=(fK bd n).1) (most:=n) (aJ.own (.head _)) aa aa aa hta.2) fun A46 c46=>?_;refine jS ?_;refine aj (fun Yc=>?_) fun Yc=>?_
   ·refine bG ?_;refine ve [2,3] ?_;refine bG ?_;rw[apE aa Cz Yc];exact FrA.nil (Y:=[_,_]) rfl rfl rfl
   ·refine bA ?_;refine ve [6,53] ?_;refine aF ?_;refine aj (fun h53=>?_) fun h53=>?_
    ·refine bA ?_;rw[apF aa Cz Yc aa];exact FrA.nil (Y:=[_,_]) rfl rfl rfl
    ·refine cJ ?_;rw[apG aa Cz Yc aa];exact⟨A46,c46,[_,_],rfl,rfl,aJ.own (.head _)⟩
theorem Ig(s:Cs)(n:Nat):(s.take n).length≤n:=by
 unfold Cs.take;split
 ·simp
 ·split
  ·simp
  ·rw[eS];omega
def OpA(b:al)(B:Nat)(w0:World)(F:aP)(r:Value)(L:aP):Prop:=
 if (xT b).e≠0 then r= .tuple #[.pointer none,.slice none 0 0,ah (xT b).e]∧L=F
 else∃A' c' g gc Ac cc M w n p bd,r= .tuple #[br g,.slice A' (Lw b).1.length c',ah (Lw b).2]∧L=Fb g gc w n p bd::Cv gc Ac cc (xT b)::M∧Wk M F∧aJ B w0 L 1 (.slice A' (Lw b).1.length c') (Lw b).1.length (bv (Lw b).1)
theorem UN(HT:bI B w0){b:al}(hb:eM B w0 F A c b)(c_:b.length≤1000000):
  a_ B w0 272 [.slice A b.length c] F (OpA b B w0 F):=by
 have hN:((frN b:Nat):Int)≤32768:=Cs.gx _ aa aa;have hB:(PU b).length≤1000000:=by
  have h1:=Ig (F_ b) (zE b);have h2:PU b=(F_ b).take (zE b):=rfl;have h3:((zE b:Nat):Int)≤32768:=Cs.gx _ aa aa;rw[h2];omega
 refine fw func272 34 [0] ?_;refine bA ?_;refine dX rfl (mU hb aa) fun gn An cn=>?_;refine ab (bw [(0,_)] [.pointer none,ah 0,ah 0,ah 0,.slice none 0 0] [0] [_,_,_,_,_] rfl rfl ag) rfl ?_;refine bh fun Ih=>?_;refine bz ?_;refine ai rfl (ag_ (b:=b) (aJ.own (.head _)) aa) ?_;refine bz ?_;refine aX apg rfl (ahb HT (b:=b) (aJ.own (.head _)) hb.cons aa) rfl ?_;rintro _ _ ⟨rfl,Ab,cb,cA⟩;obtain rfl:=cA.symm;refine bQ ?_;refine ai rfl ((gO).perm ((l6 (fR (.refl _))))) ?_;refine aF ?_;refine ve [5,6] ?_;refine bL ?_;refine aj (fun oc=>?_) fun oc=>?_
 ·refine bA ?_;refine aq (.skip (.skip (.skip (.skip (.refl _))))) ?_;refine aF ?_;unfold OpA;rw[ao oc];exact⟨rfl,rfl⟩
 ·refine bG ?_;refine aX aph rfl (.perm (abP (bd:=PU b) (aJ.own (.tail _ (.head _))) hB aa) ((l6 (fR (.refl _))))) rfl ?_;rintro _ _ ⟨Ar,cr,Y,rfl,cA,CA⟩;obtain rfl:=cA.symm;refine tP ?_;have GN:=og Y [Fb Ih gn (Cs.byte ⟨b,0,0⟩).toNat (frN b) (zE b) (.slice Ab (PU b).length cb),Cv gn An cn (xT b)] (.own 5 1 Ab (PU b).length cb (bv (PU b)):: .own 5 1 An b.length cn (bv b)::F);refine aq (.dD GN) ?_;refine aF ?_;unfold OpA;rw[aw oc];exact⟨Ar,cr,Ih,gn,An,cn,_,_,_,_,_,rfl,rfl,(dv Y _).trans (.skip (.skip (.refl F))),CA.perm GN⟩
theorem EX(most:Int):∀(l:List bO) (out:al),(out.length:Int)≤most→((ia most out l).1.length:Int)≤most
 |[],out,h=>by simpa[ia]using h
 |t::r,out,h=>by
  by_cases h1:e_ t
  ·by_cases h2:(out.length:Int)<t.2.2
   ·rw[IT most h1 h2];simp;omega
   ·by_cases h3:most-out.length<max 1 t.2.1
    ·rw[EY most h1 h2 h3];simp;omega
    ·by_cases h4:t.2.1=0
     ·rw[IU most h1 h2 h3 h4];exact EX most r _ TS
     ·rw[EW most h1 h2 h3 h4];exact EX most r _ (by rw[oB];omega)
  ·rw[IS most h1];simp;omega
theorem aha{w n p:Nat}{bd:al}:(Nh w n p bd).1.length≤max n bd.length:=by
 unfold Nh;split
 ·split
  ·simp
  ·simp only;omega
 ·split
  ·simp
  ·split
   ·simp
   ·split
    ·simp
    ·have h:=EX n (fK bd n).1 [] ak;unfold kF;rw[aw aa];simp only;omega
theorem UP(b:al):(Lw b).1.length≤32768:=by
 have hN:((frN b:Nat):Int)≤32768:=Cs.gx _ aa aa;have hP:((zE b:Nat):Int)≤32768:=Cs.gx _ aa aa;have h1:=Ig (F_ b) (zE b);have h2:PU b=(F_ b).take (zE b):=rfl;have h3:=aha (w:=(Cs.byte ⟨b,0,0⟩).toNat) (n:=frN b) (p:=zE b) (bd:=PU b);rw[h2]at h3;unfold Lw;rw[h2];omega
abbrev BlA(R:al×Nat×Int)(F:aP)(r:Value)(L:aP):Prop:=∃A' c',r= .tuple #[.slice A' R.1.length c',ah (R.2.1:Int),ah R.2.2]∧L= .own 5 1 A' R.1.length c' (bv R.1)::F
theorem agD(HT:bI B w0){b:al}(hb:eM B w0 F A c b)(c_:b.length≤1000000)(h:(xT b).e≠0):
  a_ B w0 230 [.slice A b.length c] F (BlA (dK b) F):=by
 have hop:=(UN HT hb c_).mono (R':=fun r L=>r= .tuple #[.pointer none,.slice none 0 0,ah (xT b).e]∧L=F) fun v L' k=>by unfold OpA at k;rw[ao h]at k;exact k
 refine fw func230 24 [0] ?_;refine bA ?_;refine ai rfl (hop) ?_;refine jS ?_;refine aj (fun jG=>?_) fun jG=>?_
 ·refine bA ?_;refine aD 5 1 none ?_;refine aF ?_;unfold dK;rw[ao h];exact⟨none,0,rfl,rfl⟩
 ·exfalso;exact jG h
def OpB(b:al)(B:Nat)(w0:World)(F:aP)(r:Value)(L:aP):Prop:=
 ∃A' c' g gc Ac cc M w n p bd,r= .tuple #[br g,.slice A' (Lw b).1.length c',ah (Lw b).2]∧L=Fb g gc w n p bd::Cv gc Ac cc (xT b)::M∧Wk M F∧aJ B w0 (Fb g gc w n p bd::Cv gc Ac cc (xT b)::M) 1 (.slice A' (Lw b).1.length c') (Lw b).1.length (bv (Lw b).1)
theorem agE(HT:bI B w0){b:al}(hb:eM B w0 F A c b)(c_:b.length≤1000000)(h:¬(xT b).e≠0):
  a_ B w0 230 [.slice A b.length c] F (BlA (dK b) F):=by
 have hop:=(UN HT hb c_).mono (R':=OpB b B w0 F) fun v L' k=>by
  unfold OpA at k;rw[aw h]at k;obtain⟨A',c',g,gc,Ac,cc,M,w,n,p,bd,h1,h2,h3,h4⟩:=k;rw[h2]at h4;exact⟨A',c',g,gc,Ac,cc,M,w,n,p,bd,h1,h2,h3,h4⟩
 refine fw func230 24 [0] ?_;refine bA ?_;refine aX ape rfl (hop) rfl ?_;rintro _ _ ⟨Ao,co,go,gc,Ac,cc,M,w,n,p,bd,rfl,cA,hM,hbo⟩;obtain rfl:=cA.symm;refine jS ?_;refine aj (fun jG=>?_) fun jG=>?_
 ·refine bA ?_;refine aq (.skip (.skip hM)) (aD 5 1 none ?_);refine aF ?_;unfold dK;rw[aw h,ao jG];exact⟨none,0,rfl,rfl⟩
 ·refine bF ?_;refine cF (Fb go gc w n p bd::Cv gc Ac cc (xT b)::M) ?_;refine ae 0 ?_;refine ae 2 ?_;refine ae 3 ?_;refine ae 4 ?_;refine ae 5 ?_;refine az 1 ?_;refine bZ rfl rfl (l_ (Lw b).1 hbo (by have:=UP b;omega)) fun sX uO=>?_;refine az 6 ?_;refine iW rfl rfl ((zz).jg ((BN (fR (fR (.refl _)))))) ?_;refine ae 7 ?_;refine ae 8 ?_;refine ae 9 ?_;refine cQ [2,3,4] ?_;refine be ?_;refine aq (.cons (.skip (.skip hM))) ?_;refine aF ?_;unfold dK;rw[aw h,aw jG];exact⟨sX,uO,rfl,rfl⟩
theorem agF(HT:bI B w0){b:al}(hb:eM B w0 F A c b)(c_:b.length≤1000000):
  a_ B w0 230 [.slice A b.length c] F (BlA (dK b) F):=by
 by_cases h:(xT b).e≠0
 ·exact agD HT hb c_ h
 ·exact agE HT hb c_ h
end
end Go.Proofs.YtaodmbolhoafcaaGreatDoor

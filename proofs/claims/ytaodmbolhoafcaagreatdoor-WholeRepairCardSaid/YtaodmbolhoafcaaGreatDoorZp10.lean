/-
  Texts of one proof, joined: part 10. No condition.
-/
import Derived.Test.YtaodmbolhoafcaaGreatDoorZp9
open List renaming length→E
open Go.RowKit Go.Proofs.Tryz
namespace Go.Proofs.YtaodmbolhoafcaaGreatDoor
set_option linter.unusedVariables false
set_option linter.unusedSimpArgs false
set_option maxRecDepth 20000
variable{B:Nat}{w0:World}{F L:aR}{A A1 A2 Ao:bk}{n c c1 c2 co g g1 g2:Nat}{fl:al}{q:List Bool}{X:cZ}{bt:TypeId}{s1:Value}{l l1 l2 l3 l4 l5:al}{M:aR}{A3:bk}{c3 gr gc:Nat}{s:Cs}{L0:aR}
section
variable{sl:al}
theorem acF{P:Prop}(h:P:=by(simp only at k;omega)):P:=h
theorem ann{v:Nat}(h:v≠0):MV v=v.log2+1:=by
 unfold MV;simp[h]
theorem We{v:Nat}(h1:v≠0)(h2:v<4096):aZ B w0 282 [ah v] F (λr L=>r= .tuple #[ah (qw v),ah (KU v)]∧L=F):=by
 have hb:=KV (v:=v) (k:=11) aa h1;have he:=Su h1;have di:=ann h1;have RK:qw v=v.log2:=rfl;refine fw func282 13 [0] ?_;refine bO ?_;refine ab (bm underlying3 underlying192 rfl (r:=(v:Int)) (gj aa aa)) rfl (ai rfl (amr v aa) (ab (dC rfl rfl (r:=((qw v:Nat):Int)) ((bq aa aa).trans aa)) rfl (bK ?_)));refine bL (gk rfl rfl aa (r:=((2^qw v:Nat):Int)) (by have:=QE (x:=1) (d:=qw v) (e:=(qw v:Int)) rfl aa aa;rw[lz]at this;exact this)) rfl (bL (dC rfl rfl (r:=((KU v:Nat):Int)) ((bq aa aa).trans aa)) rfl (bB ?_));exact⟨rfl,rfl⟩
def Ur(p:RZ):cZ:=[ah (p.1:Int),ah (p.2.1:Int),ah (p.2.2.1:Int),ah (p.2.2.2:Int)]
theorem abt{t:bS}(h:¬fm t):aZ B w0 245 [.agg (bS.cells t).toArray] F (λr L=>r= .tuple #[.agg (Ur (0,0,0,0)).toArray,ah 7]∧L=F):=by
 obtain⟨x,tn,td⟩:=t;refine b_ func245 38 rfl rfl rfl [(0,.agg #[.int .u8 (x.toNat:Int),ah tn,ah td])] ⟨⟨rfl,rfl⟩,trivial⟩ ?_;refine bc ?_;refine bg λg1=>?_;refine bh λg2=>?_;refine bI ?_;refine ai rfl (afq (x,tn,td)) (bE ?_);refine aj (λjU=>?_) λjU=>?_
 ·refine bc ?_;refine ab (cJ [ah 0,ah 0,ah 0,ah 0] ag) rfl (bB ?_);refine aq (.cons (.skip (.refl _))) (iK rfl rfl ag aW gV rfl (.skip (.refl _)) ?_);exact⟨rfl,rfl⟩
 ·exfalso;exact jU h
theorem agM{t:bS}(h:fm t):aZ B w0 245 [.agg (bS.cells t).toArray] F (λr L=>r= .tuple #[.agg (Ur (bN t)).toArray,ah 0]∧L=F):=by
 obtain⟨x,tn,td⟩:=t;have hx:=x.toNat_lt;have hm:=λh0=>FV (tl:=x) (tn:=tn) (td:=td) h h0;refine b_ func245 38 rfl rfl rfl [(0,.agg #[.int .u8 (x.toNat:Int),ah tn,ah td])] ⟨⟨rfl,rfl⟩,trivial⟩ ?_;refine bc ?_;refine bg λg1=>?_;refine bh λg2=>?_;refine bI ?_;refine ai rfl (afq (x,tn,td)) (bE ?_);refine aj (λjU=>?_) λjU=>?_
 ·exfalso;exact jU h
 ·refine bz ?_;refine aj (λku=>?_) λku=>?_
  ·have hp:bN (x,tn,td)=(x.toNat,0,0,0):=by unfold bN;rw[ao ku]
   rw[hp];refine b7 ?_;refine ab (bm underlying5 underlying3 rfl (r:=(x.toNat:Int)) (bq aa aa)) rfl (ab (bx [(0,_)] [ah 0,ah 0,ah 0,ah 0] [0] [_,_,_,_] rfl rfl ag) rfl (bB ?_));refine aq (.cons (.skip (.refl _))) (iK rfl rfl ag aW gV rfl (.skip (.refl _)) ?_);exact⟨rfl,rfl⟩
  ·obtain⟨h1,h2,h3,h4,h5⟩:=hm ku;obtain⟨a,ha⟩:=cK ((tn-2).toNat);obtain⟨d,hd⟩:=cK (td.toNat);have hp:bN (x,tn,td)=(257+qw a,KU a,qw d,KU d):=by unfold bN;rw[aw ku,ha,hd]
   rw[hp];have hb:=KV (v:=a) (k:=7) aa aa;refine bB ?_;refine ab (dC rfl rfl (r:=(a:Int)) ((bq aa aa).trans aa)) rfl (ai rfl (We (v:=a) aa aa) (bz ?_));refine ab (bQ (v:=ah (d:Int)) ag rfl aW (by show some (Value.int .i64 td)=_;congr 2;omega)) rfl ?_;refine ai rfl (We (v:=d) aa aa) (bF ?_);refine ve [2,4,5,6,7] ?_;refine b7 ?_;refine ab (bJ rfl rfl (r:=((257+qw a:Nat):Int)) ((bq aa aa).trans aa)) rfl (bE ?_);refine ab (eZ [(0,_),(1,_),(2,_),(3,_)] [_,_,_,_] rfl rfl ag) rfl (bF ?_);refine aq (.cons (.skip (.refl _))) (iK rfl rfl ag aW gV rfl (.skip (.refl _)) ?_);exact⟨rfl,rfl⟩
def cS(l:List bS)(s:Nat):Nat:=l.countP λt=>(bN t).1==s
def zO(l:List bS):bf:=(List.range 265).map (cS l)
def pY(l:List bS):bf:=(List.range 12).map (xn l)
@[simp] theorem GQ(l:List bS):E (zO l)=265:=by simp[zO]
@[simp] theorem yS(l:List bS):E (pY l)=12:=by simp[pY]
theorem zP(l:List bS){s:Nat}(h:s<265):(zO l).getD s 0=cS l s:=by
 simp[zO,ba,h]
theorem EY(l:List bS){s:Nat}(h:s<12):(pY l).getD s 0=xn l s:=by
 simp[pY,ba,h]
theorem aiK(l:List bS)(t:bS)(s:Nat):cS (l++[t]) s=cS l s+if (bN t).1=s then 1 else 0:=by
 unfold cS;rw[List.countP_append,CG,List.countP_nil];simp
theorem I1(l:List bS)(t:bS)(s:Nat):xn (l++[t]) s=xn l s+if 256<(bN t).1∧(bN t).2.2.1=s then 1 else 0:=by
 unfold xn;rw[List.countP_append,CG,List.countP_nil];simp
theorem abB(l:List bS){t:bS}(h:(bN t).1<265):(zO l).set (bN t).1 (cS l (bN t).1+1)=zO (l++[t]):=by
 apply jK
 ·simp
 ·intro i h1 h2;rw[CH];simp only[zO,qL,w5,aiK];by_cases e:(bN t).1=i
  ·subst e;rw[ao rfl,ao rfl]
  ·rw[aw e,aw e];rfl
theorem ZN(l:List bS){t:bS}(h:256<(bN t).1)(h2:(bN t).2.2.1<12):(pY l).set (bN t).2.2.1 (xn l (bN t).2.2.1+1)=pY (l++[t]):=by
 apply jK
 ·simp
 ·intro i h3 h4;rw[CH];simp only[pY,qL,w5,I1];by_cases e:(bN t).2.2.1=i
  ·subst e;rw[ao rfl,ao ⟨h,rfl⟩]
  ·rw[aw e,aw (λk=>e k.2)];rfl
theorem ZM(l:List bS){t:bS}(h:¬256<(bN t).1):pY (l++[t])=pY l:=by
 unfold pY;refine qB λs _=>?_;rw[I1,aw (λk=>h k.1)];rfl
theorem acZ(l:List bS)(s:Nat):cS l s<=E l:=Po
theorem Wh(l:List bS)(s:Nat):xn l s<=E l:=Po
def Dm(l:List bS):bf:=(zO l).set 256 (cS l 256+1)
@[simp] theorem GR(l:List bS):E (Dm l)=265:=by simp[Dm]
theorem si{t:bS}(h:fm t):(bN t).1<265∧(bN t).1≠256∧(256<(bN t).1->(bN t).2.2.1<12):=by
 by_cases h0:t.2.1=0
 ·rw[(vX h h0).1];have:=r' t.1;exact⟨dh,dh,λk=>acF⟩
 ·have:=ou h h0;exact⟨aa,aa,λ_=>aa⟩
theorem ak5{l:List bS}(h:∀t∈l,fm t):oN (Dm l)=KW l:=by
 funext s;unfold oN Dm KW;by_cases hs:s<265
 ·rw[ba,CK];by_cases e:256=s
  ·subst e;simp[cS]
  ·rw[aw e,<-ba,zP l hs,aw (λk=>e k.symm)];rfl
 ·rw[ba,Bv bT,aw aa];have:l.countP (λt=>(bN t).1==s)=0:=List.countP_eq_zero.2 λt ht=>by
   have:=(si (h t ht)).1;simp;omega
  rw[this];rfl
theorem ajd{l:List bS}(h:∀t∈l,fm t):oN (pY l)=xn l:=by
 funext s;unfold oN;by_cases hs:s<12
 ·exact EY l hs
 ·rw[ba,Bv bT];have:xn l s=0:=List.countP_eq_zero.2 λt ht=>by
   have:=(si (h t ht)).2.2;simp only[Bx,JH,beq_iff_eq,not_and];intro k;have:=this k;omega
  rw[this];rfl
def qE(L:bf):cZ:=ints .u32 (L.map λ(n:Nat)=>(n:Int))
theorem G5(L:bf):E (qE L)=E L:=by simp[qE]
theorem MD{L:bf}{k v:Nat}(h:k<E L)(hv:L.getD k 0=v):(qE L)[k*1]? =some (.int .u32 ((v:Nat):Int)):=by
 rw[<-hv];exact G4 h
theorem zU(L:bf)(k v:Nat):(qE L).set (k*1) (.int .u32 (v:Int))=qE (L.set k v):=by simp[qE,ints,LR]
theorem Vt{x:Int}(h1:0<=x)(h2:x<4294967296):IntKind.u32.wrap x=x:=by
 rw[IntKind.wrap_u32];omega
def acj(l:List bS)(F:aR)(r:Value)(L:aR):Prop:=
 ∃A1 A2,r= .tuple #[.slice A1 265 265,.slice A2 12 12,ah 0]∧L= .own 135 1 A1 265 265 (qE (Dm l)):: .own 135 1 A2 12 12 (qE (pY l))::F
def spP(t:bS):RZ:=if fm t then bN t else (0,0,0,0)
def spE(t:bS):Int:=if fm t then 0 else 7
theorem ahx(t:bS):aZ B w0 245 [.agg (bS.cells t).toArray] F (λr L=>r= .tuple #[.agg (Ur (spP t)).toArray,ah (spE t)]∧L=F):=by
 unfold spP spE;by_cases h:fm t
 ·rw[ao h,ao h];exact agM h
 ·rw[aw h,aw h];exact abt h
theorem Rb{t:bS}{ps px pc py:Nat}(h:spP t=(ps,px,pc,py)):aZ B w0 245 [.agg (bS.cells t).toArray] F (λr L=>r= .tuple #[.agg #[ah (ps:Int),ah (px:Int),ah (pc:Int),ah (py:Int)],ah (spE t)]∧L=F):=by
 have:=ahx (B:=B) (w0:=w0) (F:=F) t;rw[h]at this;exact this
open Classical in
def D1(l:List bS)(F:aR)(r:Value)(L:aR):Prop:=if∀t∈l,fm t then acj l F r L else r= .tuple #[.slice none 0 0,.slice none 0 0,ah 7]∧L=F
theorem wo(n:Nat):List.replicate n (Value.int .u32 0)=qE (List.replicate n 0):=by simp[qE,ints]
theorem QN:zO []=List.replicate 265 0:=by
 unfold zO cS;exact List.eq_replicate_iff.2 ⟨ak,λb hb=>by
  obtain⟨s,_,rfl⟩:=pC.1 hb;rfl⟩
theorem OD:pY []=List.replicate 12 0:=by
 unfold pY xn;exact List.eq_replicate_iff.2 ⟨ak,λb hb=>by
  obtain⟨s,_,rfl⟩:=pC.1 hb;rfl⟩
theorem Wq{l:List bS}(hb:aM B w0 F 3 (.slice A (E l) c) (E l) (lD l))(hl:E l<=32768):
  aZ B w0 202 [.slice A (E l) c] F (D1 l F):=by
 refine fw func202 52 [0] ?_;refine bI ?_;refine dY (λzf zL=>∃(A1 A2:bk),Sub zf [(0,.slice A (E l) c),(5,.slice A1 265 265),(6,.slice A2 12 12)]∧Wk zL (.own 135 1 A1 265 265 (qE (zO [])):: .own 135 1 A2 12 12 (qE (pY []))::F)) ?_ ?_
 ·refine cE _ ?_;refine ib 0 1 ?_ ?_
  ·refine cX rfl (ft (nn:=265) (cc:=265) Mr rfl rfl rfl rfl rfl aa aa aa) λuu=>ae 2 ?_;refine aA 1 (cX rfl (ft (nn:=12) (cc:=12) Mr rfl rfl rfl rfl rfl aa aa aa) λMN=>ae 3 ?_);refine aF ?_;exact bC ⟨uu,MN,bp,.trans ((gE (eu (.refl _)))) (az rfl (by rw[QN,<-wo]) (az rfl (by rw[OD,<-wo]) (.refl _)))⟩
  ·refine cX rfl (ft (nn:=12) (cc:=12) Mr rfl rfl rfl rfl rfl aa aa aa) λMN=>aA 0 (cX rfl (ft (nn:=265) (cc:=265) Mr rfl rfl rfl rfl rfl aa aa aa) λuu=>ae 2 ?_);refine ae 3 ?_;refine aF ?_;exact bC ⟨uu,MN,bp,az rfl (by rw[QN,<-wo]) (az rfl (by rw[OD,<-wo]) (.refl _))⟩
 ·rintro _ _ ⟨A1,A2,hs,hp⟩;refine aT hs hp (bO ?_);refine aD (λzf zL zm=>∃(k:Nat),(k<=E l∧∀t∈l.take k,fm t)∧E l-k=zm∧Sub zf [(5,.slice A1 265 265),(6,.slice A2 12 12),(13,.slice A (E l) c),(14,ah (E l)),(15,ah k)]∧Wk zL (.own 135 1 A1 265 265 (qE (zO (l.take k))):: .own 135 1 A2 12 12 (qE (pY (l.take k)))::F)) _ ⟨0,⟨bU _,λt h=>kC⟩,rfl,bp,.refl _⟩ ?_;rintro _ _ _ ⟨k,⟨hk,hmk⟩,rfl,hs,hp⟩;refine aT hs hp (bB ?_);refine aj (λlf=>?_) λlf=>?_
  ·obtain⟨t,ht⟩:=cK (Kk l k);have htv:=G3 (l:=l) (k:=k) aa;rw[<-ht]at htv;have uN:l.take (k+1)=l.take k++[t]:=by rw[ht];exact aY aa _
   have htm:t∈l:=by rw[ht];exact bj aa _
   obtain⟨⟨ps,px,pc,py⟩,hP⟩:∃P,spP t=P:=⟨_,rfl⟩
   refine bI ?_;refine ab (dq 3 ag rfl aB aa [.int .u8 (t.1.toNat:Int),ah t.2.1,ah t.2.2] (tj htv) rfl) rfl ?_;refine bh λg8=>?_;refine bB ?_;refine ai rfl (Rb (t:=t) hP) (bE ?_);refine bh λg9=>?_;refine de ?_;refine aj (λwS=>?_) λwS=>?_
   ·have hnm:¬fm t:=λh=>wS (by unfold spE;rw[ao h]);have Pb:¬∀t∈l,fm t:=λh=>hnm (h t htm);refine bB ?_;refine ve [2,3,4] ?_;refine bK ?_;refine aq (.s4 (.refl _)) (aF ?_);unfold D1;rw[aw Pb];exact⟨by unfold spE;rw[aw hnm],rfl⟩
   ·have fy:fm t:=bA λh=>wS (by unfold spE;rw[aw h];decide);obtain⟨CC,hp2,hp3⟩:=si fy;have LB:spP t=bN t:=by unfold spP;rw[ao fy]
    have ui:=acZ (l.take k) (bN t).1;have hcf:=Wh (l.take k) (bN t).2.2.1;rw[eY]at ui hcf;have lK:=abB (l.take k) CC;have j_:=λh=>ZN (l.take k) h (hp3 h);have xC:=ZM (l.take k) (t:=t);have asy:∀u∈l.take (k+1),fm u:=λu hu=>by
     rw[uN]at hu;rcases dz.1 hu with hu|hu
     ·exact hmk u hu
     ·rw[me.1 hu];exact fy
    rw[<-uN]at lK j_ xC;rw[LB]at hP;rw[hP]at CC hp2 hp3 ui hcf lK j_ xC;simp only at CC hp2 hp3 ui hcf lK j_ xC;have hL1:=GQ (l.take k);have hL2:=yS (l.take k);have hg1:=zP (l.take k) CC;have Js:=EY (l.take k) (s:=pc);obtain⟨q1,hq1⟩:=cK (cS (l.take k) ps);obtain⟨q2,Tu⟩:=cK (xn (l.take k) pc);rw[<-hq1]at ui lK hg1;rw[<-Tu]at hcf j_ Js;have hlk:=G5 (zO (l.take k));have O9:=G5 (pY (l.take k));refine bK ?_;refine ab (au ag rfl aB aa (MD aa hg1)) rfl ?_;refine ab (bJ rfl rfl (r:=((q1+1:Nat):Int)) ((Vt aa aa).trans aa)) rfl (bc ?_);refine ve [5,6,9,13,14,15] ?_;refine bK ?_;refine aj (λz'=>?_) λz'=>?_
    ·have auT:=Js (hp3 aa);have ave:=j_ aa;have awt:=hp3 aa;refine bF ?_;refine ab (au ag rfl aB aa (MD aa auT)) rfl ?_;refine ab (bJ rfl rfl (r:=((q2+1:Nat):Int)) ((Vt aa aa).trans aa)) rfl (bO ?_);refine av ⟨_,aa,k+1,⟨aa,asy⟩,rfl,bp,.s2 (az rfl (by rw[zU,lK]) (az rfl (by rw[zU,ave]) (.refl _)))⟩
    ·have avf:=xC aa;refine bI ?_;refine av ⟨_,aa,k+1,⟨aa,asy⟩,rfl,bp,.s2 (az rfl (by rw[zU,lK]) (az rfl (by rw[avf]) (.refl _)))⟩
  ·refine bB ?_;obtain rfl:k=E l:=by omega
   rw[ki]at*;have hL1:=GQ l;have hlk:=G5 (zO l);have hg1:=zP l (s:=256) aa;have ui:=acZ l 256;obtain⟨q1,hq1⟩:=cK (cS l 256);rw[<-hq1]at hg1 ui;refine bc ?_;refine ab (aE (i:=256) (size:=1) underlying213 ag rfl rfl rfl aa aB) rfl ?_;refine ab (au ag rfl aB aa (MD aa hg1)) rfl ?_;refine ab (bJ rfl rfl (r:=((q1+1:Nat):Int)) ((Vt aa aa).trans aa)) rfl (ab (aE (i:=256) (size:=1) underlying213 ag rfl rfl rfl aa aB) rfl (ei ?_));unfold D1;rw[ao hmk];exact⟨_,_,rfl,by rw[zU,hq1];rfl⟩
end
theorem acg(z:Value)(m:Nat):(Builtin.zeroCells #[z] m).toList=List.replicate m z:=by
 apply jK
 ·simp[Builtin.zeroCells]
 ·intro k h1 h2;simp[Builtin.zeroCells,Nat.mod_one]
theorem agy{P:Program}{t xt e:TypeId}{bytes:Nat}(T:tA P t e 1 bytes (.int .u8 0))(hx:P.underlying xt=some (.int .u64))(ty:TypeId){w:World}{g n c m:Nat}{cur:Array Value}(hg:w.heap[g]? =some (.cells cur e (0,0)))(hm:0<m)(rT:n+m<=c)(H9:n+m<=cur.size)(hb:m*bytes<=281474976710656)(yd:m<=281474976710656):
  (Builtin.append_ #[t,xt] ty #[.slice (some ⟨g,0,none⟩) n c,.int .u64 m]).run P w= .ok (.slice (some ⟨g,0,none⟩) (n+m) c) (w.setRow g (cur.toList.take n++List.replicate m (Value.int .u8 0)++cur.toList.drop (n+m)).toArray):=by
 obtain⟨i,hi,hz,jg,Fc⟩:=T.hi;have tH:=run_storeCells_at P g n e (List.replicate m (Value.int .u8 0)) 0 cur w hg (by simpa using H9) (by intro v hv;rw[(List.mem_replicate.1 hv).2];rfl);simp only[sX,za]at tH;have hw:IntKind.i64.wrap (m:Int)=m:=bq aa aa;have au8:¬(m:Int)<0:=by omega
 have OW:¬(281474976710656:Int)<(m:Int)*(bytes:Int):=by
  rw[<-zi];generalize m*bytes=y at hb⊢;omega
 have hm0:¬m=0:=by omega
 have hzc:(Value.int IntKind.u8 0).cells= #[Value.int IntKind.u8 0]:=rfl;simp[Builtin.append_,jk T.ht,jk hx,asInt,asIntOf,sizeOf,typeInfo,zeroValue,hi,hz,jg,Fc,hw,au8,OW,hm0,rT,Bu,hzc,acg,tH]
theorem ady{C:Cx}{fr:Fr}{L:aR}{x y:Operand}{ty t xt e:TypeId}{f:Ch->aR}{bytes:Nat}(T:tA C.P t e 1 bytes (.int .u8 0))(hx:C.P.underlying xt=some (.int .u64)){A:bk}{n c m:Nat}{k:Int}{xs:cZ}(he:ev fr x=some (.slice A n c))(hs:na (.own e 1 A n c xs) L f)(hy:ev fr y=some (.int .u64 k))(hk:k=(m:Int))(hm:0<m)(rT:n+m<=c)(hb:m*bytes<=281474976710656)(yd:m<=281474976710656):
  q8 C fr L (.call {callee:=.builtin .append,args:= #[x,y],argTypes:= #[t,xt]}) ty (λp L'=>p= .slice A (n+m) c∧L'=f (.own e 1 A (n+m) c (xs++List.replicate m (Value.int .u8 0)))):=λa w ha hw d pos af gg=>by
 subst hk;have mO:=hw.all _ hs.mem;obtain⟨k1,k2,k3⟩:=mO;have rC:¬c=0:=by omega
 obtain⟨g,cur,rfl,hbg,hg,hcm,ui,p7⟩:=k3.resolve_left rC;have hr:=agy (P:=C.P) T hx ty hg hm rT aa hb yd;simp only[cH]at k1 ui p7;refine⟨_,_,_,.inl ?_,⟨rfl,rfl⟩,hw.RV hs (w':=w.setRow g (cur.toList.take n++List.replicate m (Value.int .u8 0)++cur.toList.drop (n+m)).toArray) ?_ (λ_=>⟨by simp[k1],rT,.inr ⟨g,_,rfl,hbg,PE w g cur _ e _ hg,hcm,?_,?_⟩⟩) (.inr (.inl IL))⟩
 ·simp[execOp,resolve,invoke,builtin,ha.tmp he,ha.tmp hy,hr]
 ·rw[show(Ch.own e 1 (some ⟨g,0,none⟩) n c xs).fp=some g by simp[Ch.fp,rC]];exact⟨rfl,rfl,rfl,ak,λk _ hk=>PF w g k _ (λe=>hk yo)⟩
 ·simp only[xG,aX,eY,iG,LO,za];omega
 ·rw[p7];have hlen:E (xs++List.replicate m (Value.int .u8 0))=n+m:=by simp[k1]
  simp only[cH];rw[<-hlen];exact zh
theorem Le{C:Cx}{fr:Fr}{L:aR}{x y:Operand}{ty t e:TypeId}{f:Ch->aR}{bytes:Nat}{z:Value}(T:tA C.P t e 1 bytes z){A:bk}{n c m:Nat}{xs:cZ}(he:ev fr x=some (.slice A n c))(hs:na (.own e 1 A n c xs) L f){yv:Value}{news:cZ}(hy:ev fr y=some yv)(hb:aM C.B C.w0 L 1 yv m news)(h1:∀u∈news,u.oneCell'=true)(hm:0<m)(rT:n+m<=c):
  q8 C fr L (.call {callee:=.builtin .append,args:= #[x,y],argTypes:= #[t,t]}) ty (λp L'=>p= .slice A (n+m) c∧L'=f (.own e 1 A (n+m) c (xs++news))):=λa w ha hw d pos af gg=>by
 obtain⟨i,hi,hz,jg,Fc⟩:=T.hi;obtain⟨X,cx,rfl,hmc,hl,uM⟩:=hb w hw;obtain⟨ad,rfl,_,Fg⟩:=uM hm;have mO:=hw.all _ hs.mem;obtain⟨k1,k2,k3⟩:=mO;have rC:¬c=0:=by omega
 obtain⟨g,cur,rfl,hbg,hg,hcm,ui,p7⟩:=k3.resolve_left rC;simp only[cH]at k1 ui p7 hl;have hr:=run_append_room (P:=C.P) w t ty e i T.ht hi g n c cur hg ad m cx news (by rw[hl,jg,cH]) Fg h1 rT (by rw[jg,cH,hl,ui];exact rT);rw[jg,cH,hl]at hr;refine⟨_,_,_,.inl ?_,⟨rfl,rfl⟩,hw.RV hs (w':=w.setRow g (cur.toList.take n++news++cur.toList.drop (n+m)).toArray) ?_ (λ_=>⟨by simp[k1,hl],rT,.inr ⟨g,_,rfl,hbg,PE w g cur _ e _ hg,hcm,?_,?_⟩⟩) (.inr (.inl IL))⟩
 ·simp[execOp,resolve,invoke,builtin,ha.tmp he,ha.tmp hy,hr]
 ·rw[show(Ch.own e 1 (some ⟨g,0,none⟩) n c xs).fp=some g by simp[Ch.fp,rC]];exact⟨rfl,rfl,rfl,ak,λk _ hk=>PF w g k _ (λe=>hk yo)⟩
 ·simp only[xG,aX,eY,iG,LO];omega
 ·rw[p7];have hlen:E (xs++news)=n+m:=by simp[k1,hl]
  simp only[cH];rw[<-hlen];exact zh
theorem aqn{P:Prop}(h:P:=by(first|(exact .inl (by simpa using S5))|(exact⟨λh=>.inr (by omega),λh=>h.elim (λh=>by simp_all) (λh=>by omega)⟩))):P:=h
theorem oV:type_of% @List.perm_append_comm_assoc:= @List.perm_append_comm_assoc
theorem Yr(a b x y:Ch)(F:aR):(a::b::x::y::F).Perm (x::y::a::b::F):=oV [a,b] [x,y] F
theorem Yq(x a b:Ch)(F:aR):(x::a::b::F).Perm (a::b::x::F):=oV [x] [a,b] F
theorem abR{a a':al}{b b':Int}{c c':Nat}(h:(a,b,c)=(a',b',c')):a=a'∧b=b'∧c=c':=by injection h with x y;injection y with y z;exact⟨x,y,z⟩
theorem N0(q:List Bool)(p0:Nat)(Xg:p0<=E q)(hq:E q<=8000000)(n:Int)(h1:-9223372036854775808<=n)(h2:n<=9223372036854775807)(YZ:al)(e':Int)(p':Nat)(hR:rD q p0 n=(YZ,e',p')):
  aZ B w0 346 [br g,ah n] (Rr g A c q p0 F) (λr L=>∃A' c',r= .tuple #[.slice A' (E YZ) c',ah e']∧L=Rr g A c q p' (.own 5 1 A' (E YZ) c' (bv YZ)::F)):=by
 refine fw func346 70 [0,1] ?_;refine bK ?_;refine a_ 5 1 none (aF ?_);refine bR 6 17 [0,1] (n<0∨300<n) ?_ ?_
 ·refine bE ?_;refine aI rfl rfl rfl (λku=>?_) (λku=>?_)
  ·refine b7 ?_;exact aL Zb
  ·refine bc ?_;exact aL Za
 ·refine bc ?_;refine aj (λiI=>?_) λiI=>?_
  ·rw[rD,ao iI]at hR;obtain⟨rfl,rfl,rfl⟩:=abR hR;refine bK ?_;refine aq (Wk.dK (Yq _ _ _ _)) (aF ?_);exact⟨none,0,rfl,rfl⟩
  ·obtain⟨N,rfl⟩:=gi (show 0<=n by omega);rw[rD,aw iI,oo]at hR;refine bF ?_;refine cC (ft (nn:=0) cB rfl rfl rfl rfl rfl aa aa aa) λMO=>bz ?_;refine aD (λzf zL zm=>∃(f p:Nat) (acc:al) (s:Bool) (A6:bk),(E acc<=N∧N<=E acc+f∧p<=E q∧mh q N f p acc s=(YZ,e',p'))∧N-E acc=zm∧Sub zf [(0,br g),(1,ah N),(6,.slice A6 (E acc) N),(7,.bool s)]∧Wk zL (Rr g A c q p (.own 5 1 A6 (E acc) N (bv acc):: .own 5 1 none 0 0 []::F))) _ ⟨N,p0,[],false,MO,⟨bU _,ak,Xg,hR⟩,rfl,bp,Wk.dK (Yr _ _ _ _ _)⟩ ?_;rintro _ _ _ ⟨f,p,acc,s,A6,⟨Hu,haf,hpq,uM⟩,rfl,hs,hp⟩;refine aT hs hp (bO ?_);refine aj (λmB=>?_) λmB=>?_
   ·obtain⟨f',rfl,av_,aeK⟩:=age uM haf aa;have hv4:pA q p 4<16:=Bi q p (n:=4) aa;have hv6:pA q (i_ q p 4) 6<64:=Bi q (i_ q p 4) (n:=6) aa;have hp4:=rl (q:=q) (p:=p) 4 hpq;have hp6:=rl (q:=q) (p:=i_ q p 4) 6 hp4;refine bB ?_;refine ai rfl (Jo q p hpq hq 4 aa aa) (ei ?_);refine aj (λz_=>?_) λz_=>?_
    ·have Z8:=akF aeK aa z_;obtain⟨rfl,rfl,rfl⟩:=abR Z8;refine bF ?_;refine ve [4,5] ?_;refine bI ?_;refine aq (bw rfl (az rfl rfl (.skip (.refl _)))) (aF ?_);exact⟨none,0,rfl,rfl⟩
    ·refine bO ?_;refine aj (λZ3=>?_) λZ3=>?_
     ·have hrn:=X3 aeK aa aa aa;have tT:E (acc++[UInt8.ofNat (pA q p 4)])=E acc+1:=by simp
      refine bF ?_;refine cC (EO cB rfl rfl) λA37=>mj (Le cB rfl aW rfl aB Nq aa aa) rfl ?_;rintro _ _ ⟨rfl,rfl⟩;rw[<-tT];refine aF ?_;refine ve [0,1,6] ?_;refine bO ?_;refine av ⟨_,aa,f',i_ q p 4,acc++[UInt8.ofNat (pA q p 4)],false,A6,⟨bT,bT,hp4,hrn⟩,rfl,bp,.skip (bw rfl (az rfl rfl (az rfl (aq1 aa _) (.refl _))))⟩
     ·refine bF ?_;refine ai rfl (Jo q (i_ q p 4) hp4 hq 6 aa aa) (bF ?_);refine ve [0,1,6,7,9,10] ?_;refine bK ?_;refine aj (λh45=>?_) λh45=>?_
      ·have Z8:=agc aeK aa aa aa h45;obtain⟨rfl,rfl,rfl⟩:=abR Z8;refine cY ?_;refine aq (bw rfl (az rfl rfl (.skip (.refl _)))) (aF ?_);exact⟨none,0,rfl,rfl⟩
      ·refine bF ?_;refine bR 10 56 [0,1,6,10] (s=true∨N<=E acc+pA q (i_ q p 4) 6) ?_ ?_
       ·refine bc ?_;refine l7 rfl rfl rfl (λS5=>?_) (λS5=>?_)
        ·refine ei ?_;exact aL (by exact dG aqn)
        ·refine bI ?_;exact aL (by exact dS aqn)
       ·refine bc ?_;refine aj (λS6=>?_) λS6=>?_
        ·have Z8:=agd aeK aa aa aa aa S6;obtain⟨rfl,rfl,rfl⟩:=abR Z8;refine cF ?_;refine aq (bw rfl (az rfl rfl (.skip (.refl _)))) (aF ?_);exact⟨none,0,rfl,rfl⟩
        ·have hrn:=X4 aeK aa aa aa aa S6;have rR:E (acc++List.replicate (pA q (i_ q p 4) 6+1) (0:UInt8))=E acc+(pA q (i_ q p 4) 6+1):=by simp
         have RS:E acc+pA q (i_ q p 4) 6<N:=by by_cases h:N<=E acc+pA q (i_ q p 4) 6;exact absurd (.inr h) S6;omega
         refine bB ?_;refine ab (bJ rfl rfl (gj aa aa)) rfl (mj (ady (m:=pA q (i_ q p 4) 6+1) cB underlying60 rfl aW rfl aa aa aa aa aa) rfl ?_);rintro _ _ ⟨rfl,rfl⟩;rw[<-rR];refine bF ?_;refine ab (bJ rfl rfl (gj aa aa)) rfl (b7 ?_);refine av ⟨_,aa,f',i_ q (i_ q p 4) 6,acc++List.replicate (pA q (i_ q p 4) 6+1) 0,_,A6,⟨bT,bT,hp6,hrn⟩,rfl,bp,bw rfl (az rfl rfl (az rfl (acW _ _) (.refl _)))⟩
   ·refine bI ?_;have hre:=X2 uM aa;refine bc ?_;refine ai rfl (AQ acc aB) (bO ?_);refine aj (λOT=>?_) λOT=>?_
    ·have hfn:=anG (p:=p) (show¬chk acc=0 by omega);rw[hfn.1]at hre;obtain⟨rfl,rfl,rfl⟩:=abR hre;refine bO ?_;refine aq (bw rfl (az rfl rfl (.skip (.refl _)))) (aF ?_);rw[hfn.2];exact⟨none,0,rfl,rfl⟩
    ·rw[anH (show chk acc=0 by omega)]at hre;obtain⟨rfl,rfl,rfl⟩:=abR hre;refine bz ?_;have hNe:E YZ=N:=by omega
     refine aq (bw rfl (az rfl rfl (az rfl rfl (.skip (.refl _))))) (aF ?_);exact⟨A6,N,rfl,rfl⟩
section
variable{sl:al}
theorem No{P:Prop}(h:P:=by(simp only[aX];omega)):P:=h
theorem anj{P:Prop}(h:P:=by(rw[uN,Vb];simp only[bX])):P:=h
theorem IB.mono{l:bf}(H:IB B w0 F Ao co l){M:aR}(hs:F.Sublist M):IB B w0 M Ao co l:=⟨H.yw.mono hs,H.lt⟩
theorem ah1(Y:aR)(a b d:Ch)(F:aR):Wk (Y++a::b::d::F) (a::b::(Y++F)):=
 (Wk.dK (oV Y [a,b,d] F)).trans (.cons (.cons (.skip (.refl _))))
theorem Wp{l:bf}(H:IB B w0 F Ao co l)(hl:E l<=300)(hq:E q<=100000):
  aZ B w0 203 [br g,.slice Ao (E l) co] (Wx X g 292 A c q F)
   (λr L=>∃g' Y A' c',r= .pointer (some ⟨g',0,none⟩)∧L=Wx X g 292 A' c' (q++iA (lB (oN l) (E l)) 0) (Y++F)∧x_ B w0 Y g' (lB (oN l) (E l))):=by
 have Ju:Good (lB (oN l) (E l)):=mq aa;have hlb:E (lB (oN l) (E l))=E l:=gM _ _;obtain⟨ls,hls⟩:=cK (lB (oN l) (E l));have y8:=aoE (B:=B) (w0:=w0) (H:=H.mono (M:=Wx X g 292 A c q F) (.cons _ (.cons _ (.refl _)))) hl;rw[<-hls]at Ju hlb y8⊢;rw[<-hlb]at y8;refine fw func203 25 [0,1] ?_;refine bK ?_;refine ay rfl ((by rw[<-hlb];exact y8)) λA9 c9=>cY ?_;refine be art rfl (.perm (Zm ls q aB Ju aa) (Yq _ _ _ _)) rfl ?_;rintro _ _ ⟨rfl,tP,vH,cO⟩;obtain rfl:=cO.symm;refine bF ?_;refine be al3 rfl (afy (l:=ls) aB Ju) rfl ?_;rintro _ _ ⟨g19,Y,rfl,cO,yZ⟩;obtain rfl:=cO.symm;refine bF ?_;refine ve [7] ?_;refine bK ?_;refine aq (ah1 _ _ _ _ _) (aF ?_);exact⟨g19,Y,tP,vH,rfl,rfl,yZ⟩
theorem ahy{t:bS}(hm:fm t){ps px pc py:Nat}(h:bN t=(ps,px,pc,py)):aZ B w0 245 [.agg (bS.cells t).toArray] F (λr L=>r= .tuple #[.agg #[ah (ps:Int),ah (px:Int),ah (pc:Int),ah (py:Int)],ah 0]∧L=F):=by
 have:=Rb (B:=B) (w0:=w0) (F:=F) (t:=t) (ps:=ps) (px:=px) (pc:=pc) (py:=py) (by unfold spP;rw[ao hm,h]);unfold spE at this;rw[ao hm]at this;exact this
def R1(sl fl:al)(t:bS):Prop:=fm t∧(bN t).1<E sl∧(sl.getD (bN t).1 0).toNat≠0∧(256<(bN t).1->(bN t).2.2.1<E fl∧(fl.getD (bN t).2.2.1 0).toNat≠0)
abbrev Wt2(g1 g2 g:Nat)(A:bk)(c:Nat)(q:List Bool)(F:aR):aR:=Wx [br g1,br g2] g 292 A c q F
theorem alk{t:bS}(ht:R1 sl fl t)(hs:Good sl)(hf:Good fl)(h1:x_ B w0 F g1 sl)(h2:x_ B w0 F g2 fl)(hq:E q<=6000000):
  aZ B w0 204 [br g,.agg (bS.cells t).toArray] (Wt2 g1 g2 g A c q F) (λr L=>r= .tuple #[]∧∃A' c',L=Wt2 g1 g2 g A' c' (q++wH sl fl t) F):=by
 obtain⟨fy,tT,LD,hf2⟩:=ht;have LB:spP t=bN t:=by unfold spP;rw[ao fy]
 have Ia:=ou fy;have mP:=vX fy;have asD:=si fy;obtain⟨⟨ps,px,pc,py⟩,hP⟩:∃P,bN t=P:=⟨_,rfl⟩
 have hQ:wH sl fl t=hw sl ps++if ps<256 then [] else hi px (ps-257) (ps-257)++(hw fl pc++hi py pc pc):=by unfold wH;rw[hP]
 rw[hQ];rw[hP]at LB tT LD hf2 Ia mP asD;simp only at tT LD hf2 Ia mP asD;have OW:256<ps->px<2^(ps-257)∧py<2^pc∧pc<=11∧ps<=264:=λh=>by
  by_cases h0:t.2.1=0
  ·have:=(mP h0).1;simp only[Df]at this;have:=r' t.1;omega
  ·have:=Ia h0;exact⟨this.2.2.2.1,this.2.2.2.2.1,this.2.2.1,this.2.1⟩
 have oC:=hs.1.1;obtain⟨x,tn,td⟩:=t;refine b_ func204 53 rfl rfl rfl [(0,br g),(1,.agg #[.int .u8 (x.toNat:Int),ah tn,ah td])] ⟨⟨rfl,rfl⟩,⟨rfl,rfl⟩,trivial⟩ ?_;refine bc ?_;refine bg λg3=>?_;refine bF ?_;refine ai rfl (ahy (t:=(x,tn,td)) fy hP) (bE ?_);refine bh λg4=>?_;refine bF ?_;refine cE (.bG g4 166 [ah ps,ah px,ah pc,ah py]::F) ?_;refine ae 0 ?_;refine ae 1 ?_;refine ae 2 ?_;refine ae 4 ?_;refine ae 5 ?_;refine ae 6 ?_;refine ae 7 ?_;refine ae 8 ?_;refine aA 3 (aF ?_);refine aA 9 (gN rfl .no adf rfl (.perm (Tt hs h1.cons.cons tT LD aa) (Yr _ _ _ _ _)) rfl (by rintro _ _ ⟨rfl,DZ,HH,rfl⟩;exact gD) ?_);rintro _ _ ⟨rfl,DZ,HH,cO⟩;obtain rfl:=cO.symm;refine cP [0,4] ?_;refine bO ?_;refine aj (λmB=>?_) λmB=>?_
 ·rw[ao aa,gl];refine bc ?_;refine aq (.cons (.cons (.s2 (.refl _)))) (aF ?_);exact⟨rfl,DZ,HH,rfl⟩
 ·have hb:=OW aa;obtain⟨lg,hfz⟩:=hf2 aa;rw[aw aa];have awu:=nE sl ps;have aup:=hs.1.2 _ (bj tT 0);have auq:=hf.1.2 _ (bj lg 0);have Ts:=nE fl pc;have hp7:px<256:=uT hb.1 (gJ aa (by omega:ps-257<=8));have awr:py<2048:=uT hb.2.1 (gJ aa (by omega:pc<=11));refine bE ?_;refine cE (.bG g4 166 [ah ps,ah px,ah pc,ah py]::F) ?_;refine ae 0 ?_;refine ae 1 ?_;refine ae 2 ?_;refine ae 3 ?_;refine ae 4 ?_;refine aU 5 rfl (bm underlying3 underlying60 rfl (r:=(px:Int)) (gj aa aa)) (ae 6 ?_);refine ae 7 ?_;refine aU 8 rfl (dC rfl rfl (r:=((ps-257:Nat):Int)) ((bq aa aa).trans aa)) (aA 9 (gN rfl .no Es rfl (Cc (q++hw sl ps) px aa (ps-257) aa hb.1 rG) rfl (by rintro _ _ ⟨rfl,Rw,c33,rfl⟩;exact gD) ?_));rintro _ _ ⟨rfl,Rw,c33,cO⟩;obtain rfl:=cO.symm;refine bE ?_;refine cE (.bG g4 166 [ah ps,ah px,ah pc,ah py]::F) ?_;refine ae 0 ?_;refine ae 1 ?_;refine ae 2 ?_;refine ae 4 ?_;refine ae 5 ?_;refine ae 6 ?_;refine ae 7 ?_;refine ae 8 ?_;refine aA 3 (aF ?_);refine aA 9 (gN rfl .no adf rfl (Tt hf h2.cons.cons lg hfz (by rw[aX,aX,dT];omega)) rfl (by rintro _ _ ⟨rfl,MS,c43,rfl⟩;exact gD) ?_);rintro _ _ ⟨rfl,MS,c43,cO⟩;obtain rfl:=cO.symm;refine cP [0,4] ?_;refine aF ?_;refine cE (.bG g4 166 [ah ps,ah px,ah pc,ah py]::F) ?_;refine ae 0 ?_;refine ae 1 ?_;refine ae 2 ?_;refine ae 3 ?_;refine ae 4 ?_;refine aU 5 rfl (bm underlying3 underlying60 rfl (r:=(py:Int)) (gj aa aa)) (ae 6 ?_);refine ae 7 ?_;refine aA 8 (gN rfl .no Es rfl (Cc (q++hw sl ps++hi px (ps-257) (ps-257)++hw fl pc) py aa pc aa hb.2.1 (by rw[aX,aX,aX,dT];omega)) rfl (by rintro _ _ ⟨rfl,A52,c52,rfl⟩;exact gD) ?_);rintro _ _ ⟨rfl,A52,c52,cO⟩;obtain rfl:=cO.symm;refine bc ?_;refine aq (.cons (.cons (.s2 (.refl _)))) (aF ?_);exact⟨rfl,A52,c52,by simp only[bX]⟩
theorem R1.of{l:List bS}(hm:∀t∈l,fm t){t:bS}(h:t∈l):R1 (fA l) (iB l) t:=by
 have h1:=si (hm t h);have h2:E (fA l)=265:=gM _ _;have h3:E (iB l)=12:=gM _ _;refine⟨hm t h,aa,ll aa h1.1 (Ep h),λk=>⟨by have:=h1.2.2 k;omega,ll aa (h1.2.2 k) (En h k)⟩⟩
theorem ahs{sl fl:al}{t:bS}(hs:Good sl)(hf:Good fl)(h:R1 sl fl t):E (wH sl fl t)<=48:=by
 obtain⟨h1,h2,h3,h4⟩:=h;have hp:=si h1;have aup:=hs.1.2 _ (bj h2 0);unfold wH;rw[aX,nE];split
 ·rw[sY];omega
 ·have h5:=h4 aa;have auq:=hf.1.2 _ (bj h5.1 0);have h6:=hp.2.2 aa;rw[aX,aX,nE,dT,dT];omega
theorem Km{sl fl:al}(hs:Good sl)(hf:Good fl):∀{l:List bS},(∀t∈l,R1 sl fl t)->E (np sl fl l)<=48*E l
 |[],_=>by simp[np]
 |t::l,h=>by
  rw[xW,aX,dI];have h1:=ahs hs hf (h t (.head _));have h2:=Km hs hf (l:=l) (λu hu=>h u (.tail _ hu));omega
theorem Vb(sl fl:al)(l:List bS)(t:bS):np sl fl (l++[t])=np sl fl l++wH sl fl t:=by simp[np]
theorem agX{l:List bS}(hl:E l<=32768):IB B w0 (.own 135 1 A1 265 c1 (qE (Dm l))::L) A1 c1 (Dm l):=by
 refine⟨by rw[GR];exact aM.own (.head _),λk=>?_⟩;have h1:=λs=>acZ l s;unfold Dm;rw[ba,CK];split
 ·have:=h1 256;simp only[GQ];simp;omega
 ·rw[<-ba];by_cases hk:k<265
  ·rw[zP l hk];have:=h1 k;omega
  ·rw[ba,Bv bT];simp
theorem adI{l:List bS}(hl:E l<=32768):IB B w0 (.own 135 1 A2 12 c2 (qE (pY l))::L) A2 c2 (pY l):=by
 refine⟨by rw[yS];exact aM.own (.head _),λk=>?_⟩;by_cases hk:k<12
 ·rw[EY l hk];have:=Wh l k;omega
 ·rw[ba,Bv bT];simp
theorem abC{l:List bS}(hm:∀t∈l,fm t)(hl:E l<=32768)(hq:E q<=100000):
  aZ B w0 203 [br g,.slice A1 265 c1] (Wx X g 292 A c q (.own 135 1 A1 265 c1 (qE (Dm l))::F))
   (λr L=>∃g' Y A' c',r= .pointer (some ⟨g',0,none⟩)∧L=Wx X g 292 A' c' (q++iA (fA l) 0) (Y++(.own 135 1 A1 265 c1 (qE (Dm l))::F))∧x_ B w0 Y g' (fA l)):=by
 have:=Wp (X:=X) (g:=g) (A:=A) (c:=c) (agX (B:=B) (w0:=w0) (A1:=A1) (c1:=c1) (L:=F) hl) (by rw[GR];omega) hq;rw[ak5 hm,GR]at this;exact this
theorem ZO{l:List bS}(hm:∀t∈l,fm t)(hl:E l<=32768)(hq:E q<=100000)(H:IB B w0 F A2 c2 (pY l)):
  aZ B w0 203 [br g,.slice A2 12 c2] (Wx X g 292 A c q F)
   (λr L=>∃g' Y A' c',r= .pointer (some ⟨g',0,none⟩)∧L=Wx X g 292 A' c' (q++iA (iB l) 0) (Y++F)∧x_ B w0 Y g' (iB l)):=by
 have:=Wp (X:=X) (g:=g) (A:=A) (c:=c) H (by rw[yS];omega) hq;rw[ajd hm,yS]at this;exact this
theorem Ra{l:List bS}(h:32768<E l):l6 l=([],6):=by unfold l6;rw[ao h]
theorem abO{l:List bS}(h:¬32768<E l)(h2:¬∀t∈l,fm t):l6 l=([],7):=by unfold l6;rw[aw h,aw h2]
theorem ahv{l:List bS}(h:¬32768<E l)(h2:∀t∈l,fm t):l6 l=(packed (qZ l),0):=by unfold l6;rw[aw h,ao h2]
theorem Vh{l:List bS}(hb:aM B w0 F 3 (.slice A (E l) c) (E l) (lD l))(xB:E l<9223372036854775808)(hm:¬∀t∈l,fm t):
  aZ B w0 144 [.slice A (E l) c] F (λr L=>∃A' c',r= .tuple #[.slice A' (E (l6 l).1) c',ah (l6 l).2]∧L= .own 5 1 A' (E (l6 l).1) c' (bv (l6 l).1)::F):=by
 have Th:=λhl=>(Wq hb hl).mono (R':=λr L=>r= .tuple #[.slice none 0 0,.slice none 0 0,ah 7]∧L=F) λv L' h=>by unfold D1 at h;rw[aw hm]at h;exact h
 refine fw func144 58 [0] ?_;refine ei ?_;refine aj (λnY=>?_) λnY=>?_
 ·refine bK ?_;refine aC 5 1 none (aF ?_);rw[Ra aa];exact⟨none,0,rfl,rfl⟩
 ·refine bF ?_;refine ai rfl (Th aa) (jG ?_);refine Bf λju=>?_;refine bF ?_;refine ve [2,3] ?_;refine bE ?_;refine aC 5 1 none (aF ?_);rw[abO aa hm];exact⟨none,0,rfl,rfl⟩
theorem ab0{l:List bS}(hb:aM B w0 F 3 (.slice A (E l) c) (E l) (lD l))(xB:E l<9223372036854775808)(hm:∀t∈l,fm t):
  aZ B w0 144 [.slice A (E l) c] F (λr L=>∃A' c',r= .tuple #[.slice A' (E (l6 l).1) c',ah (l6 l).2]∧L= .own 5 1 A' (E (l6 l).1) c' (bv (l6 l).1)::F):=by
 have Th:=λhl=>(Wq hb hl).mono (R':=acj l F) λv L' h=>by unfold D1 at h;rw[ao hm]at h;exact h
 refine fw func144 58 [0] ?_;refine ei ?_;refine aj (λnY=>?_) λnY=>?_
 ·refine bK ?_;refine aC 5 1 none (aF ?_);rw[Ra aa];exact⟨none,0,rfl,rfl⟩
 ·refine bF ?_;refine ay rfl (Th aa) λA1 A2=>jG ?_;refine dw λju=>?_;refine b7 ?_;refine ab (cJ [.slice none 0 0,ah 0,.pointer none,.pointer none] ag) rfl (bg λg23=>?_);refine b7 ?_;refine a_ 5 1 none (vy (L':=Wx [.pointer none,.pointer none] g23 292 none 0 [] (.own 135 1 A1 265 265 (qE (Dm l)):: .own 135 1 A2 12 12 (qE (pY l))::F)) (.swap (.refl _)) (b7 ?_));refine be al0 rfl (abC hm aa ak) rfl ?_;rintro _ _ ⟨g27,Y1,Iy,NR,rfl,cO,auO⟩;obtain rfl:=cO.symm;refine bE ?_;refine ve [0,5,7] ?_;refine bc ?_;have oC:E (fA l)=265:=gM _ _;have lg:E (iB l)=12:=gM _ _;have hsg:Good (fA l):=mq aa;have hfg:Good (iB l):=mq aa;have lK:=yP (fA l) 265 0 aa;have j_:=yP (iB l) 12 0 aa;obtain⟨K1,hK1⟩:=cK (Y1++(.own 135 1 A1 265 265 (qE (Dm l)):: .own 135 1 A2 12 12 (qE (pY l))::F));have hoK:IB B w0 K1 A2 12 (pY l):=by rw[hK1];exact(adI aa).mono (List.sublist_append_of_sublist_right (.cons _ (.refl _)))
  have hbK:aM B w0 K1 3 (.slice A (E l) c) (E l) (lD l):=by rw[hK1];exact hb.mono (List.sublist_append_of_sublist_right (.cons _ (.cons _ (.refl _))))
  have hcK:x_ B w0 K1 g27 (fA l):=by rw[hK1];exact auO.mono (wD _ _)
  have Ic:Wk K1 F:=by rw[hK1];exact(dB _ _).trans (.s2 (.refl _))
  rw[<-hK1];refine vy (L':=Wx [br g27,.pointer none] g23 292 Iy NR (iA (fA l) 0) K1) (.refl _) (b7 ?_);refine be al0 rfl (ZO hm aa aa hoK) rfl ?_;rintro _ _ ⟨g33,Y2,Rw,c33,rfl,cO,auP⟩;obtain rfl:=cO.symm;refine bI ?_;obtain⟨K,hK⟩:=cK (Y2++K1);have pB:aM B w0 K 3 (.slice A (E l) c) (E l) (lD l):=by rw[hK];exact hbK.mono (gL _ _)
  have Ly:x_ B w0 K g27 (fA l):=by rw[hK];exact hcK.mono (gL _ _)
  have Xa:x_ B w0 K g33 (iB l):=by rw[hK];exact auP.mono (wD _ _)
  have hwF:Wk K F:=by rw[hK];exact(dB _ _).trans Ic
  rw[<-hK];refine vy (L':=Wt2 g27 g33 g23 Rw c33 (iA (fA l) 0++iA (iB l) 0) K) (.refl _) (bI ?_);refine aD (λzf zL zm=>∃(k:Nat) (A':bk) (c':Nat),(k<=E l)∧E l-k=zm∧Sub zf [(7,br g23),(36,.slice A (E l) c),(37,ah (E l)),(38,ah k)]∧Wk zL (Wt2 g27 g33 g23 A' c' (iA (fA l) 0++iA (iB l) 0++np (fA l) (iB l) (l.take k)) K)) _ ⟨0,Rw,c33,bU _,rfl,bp,bw (by simp[np]) (az (by simp[np]) (by simp[np]) (.refl _))⟩ ?_;rintro _ _ _ ⟨k,A',c',hk,rfl,hs,hp⟩;refine aT hs hp ?_;have hqs:∀k,E (np (fA l) (iB l) (l.take k))<=48*E l:=λk=>jz (Km hsg hfg (λt ht=>R1.of hm (List.take_subset _ _ ht))) nf;have hqk:=hqs k;refine bB ?_;refine aj (λW4=>?_) λW4=>?_
  ·obtain⟨t,ht⟩:=cK (Kk l k);have htv:=G3 (l:=l) (k:=k) aa;rw[<-ht]at htv;have uN:l.take (k+1)=l.take k++[t]:=by rw[ht];exact aY aa _
   have htm:t∈l:=by rw[ht];exact bj aa _
   refine bI ?_;refine ab (dq 3 ag rfl aB aa [.int .u8 (t.1.toNat:Int),ah t.2.1,ah t.2.2] (tj htv) rfl) rfl ?_;refine bh λg9=>?_;refine bB ?_;refine be are rfl (.perm (alk (R1.of hm htm) hsg hfg Ly.cons Xa.cons No) ((mC (mC (fV (.refl _)))))) rfl ?_;rintro _ _ ⟨rfl,A44,c44,cO⟩;obtain rfl:=cO.symm;refine bI ?_;refine av ⟨_,aa,k+1,A44,c44,aa,rfl,bp,.trans (bw anj (az anj anj (.refl _))) (.cons (.cons (.skip (.refl _))))⟩
  ·obtain rfl:k=E l:=by omega
   rw[ki]at*;have kF:=hsg.1.2 _ (bj (by omega:256<E (fA l)) 0);refine bB ?_;refine cE K ?_;refine ae 0 ?_;refine ae 1 ?_;refine ae 2 ?_;refine ae 4 ?_;refine ae 5 ?_;refine ae 6 ?_;refine aA 3 (aF ?_);refine aA 7 (gN rfl .no adf rfl (Tt (s:=256) hsg Ly aa (ll aa aa (by unfold KW;simp)) No) rfl (by rintro _ _ ⟨rfl,A53,c53,rfl⟩;exact gD) ?_);rintro _ _ ⟨rfl,A53,c53,cO⟩;obtain rfl:=cO.symm;refine bI ?_;refine ay rfl (ah3 _ (by simp only[aX,nE];omega)) λA57 c57=>bc ?_;refine ve [2,3] ?_;refine bc ?_;refine aq (.cons (.skip (.skip hwF))) (aF ?_);rw[ahv aa hm];have e:qZ l=iA (fA l) 0++iA (iB l) 0++np (fA l) (iB l) l++hw (fA l) 256:=by unfold qZ;simp only[bX]
   rw[e];exact⟨A57,c57,rfl,rfl⟩
theorem ahF{l:List bS}(hb:aM B w0 F 3 (.slice A (E l) c) (E l) (lD l))(xB:E l<9223372036854775808):
  aZ B w0 144 [.slice A (E l) c] F (λr L=>∃A' c',r= .tuple #[.slice A' (E (l6 l).1) c',ah (l6 l).2]∧L= .own 5 1 A' (E (l6 l).1) c' (bv (l6 l).1)::F):=by
 by_cases hm:∀t∈l,fm t
 ·exact ab0 hb xB hm
 ·exact Vh hb xB hm
end
section
variable{s2:Value}{s3:Value}{s4:Value}{s5:Value}
theorem VU{P:Prop}(h:P:=by(simp[eF.all,hl])):P:=h
abbrev Hx(l:al)(F:aR)(r:Value)(L:aR):Prop:=∃A' c',r= .slice A' (E l) c'∧L= .own 5 1 A' (E l) c' (bv l)::F
theorem R4(hb:aM B w0 F 1 (.slice A 2 c) 2 [s1,s2])(h1:aM B w0 F 1 s1 (E l1) (bv l1))(h2:aM B w0 F 1 s2 (E l2) (bv l2))(hl:l=l1++l2)(hn:E l<=1099511627776):
  aZ B w0 52 [.slice A 2 c] F (Hx l F):=
 yk (P:=[(s1,l1),(s2,l2)]) hb (by intro y hy;simp only[fj,mV,oU]at hy;rcases hy with rfl|rfl<;>first|exact h1|exact h2) rfl VU hn ak
theorem KA(hb:aM B w0 F 1 (.slice A 3 c) 3 [s1,s2,s3])(h1:aM B w0 F 1 s1 (E l1) (bv l1))(h2:aM B w0 F 1 s2 (E l2) (bv l2))(h3:aM B w0 F 1 s3 (E l3) (bv l3))(hl:l=l1++(l2++l3))(hn:E l<=1099511627776):
  aZ B w0 52 [.slice A 3 c] F (Hx l F):=
 yk (P:=[(s1,l1),(s2,l2),(s3,l3)]) hb (by intro y hy;simp only[fj,mV,oU]at hy;rcases hy with rfl|rfl|rfl<;>first|exact h1|exact h2|exact h3) rfl VU hn ak
theorem R5(hb:aM B w0 F 1 (.slice A 4 c) 4 [s1,s2,s3,s4])(h1:aM B w0 F 1 s1 (E l1) (bv l1))(h2:aM B w0 F 1 s2 (E l2) (bv l2))(h3:aM B w0 F 1 s3 (E l3) (bv l3))(h4:aM B w0 F 1 s4 (E l4) (bv l4))(hl:l=l1++(l2++(l3++l4)))(hn:E l<=1099511627776):
  aZ B w0 52 [.slice A 4 c] F (Hx l F):=
 yk (P:=[(s1,l1),(s2,l2),(s3,l3),(s4,l4)]) hb (by intro y hy;simp only[fj,mV,oU]at hy;rcases hy with rfl|rfl|rfl|rfl<;>first|exact h1|exact h2|exact h3|exact h4) rfl VU hn ak
theorem KB(hb:aM B w0 F 1 (.slice A 5 c) 5 [s1,s2,s3,s4,s5])(h1:aM B w0 F 1 s1 (E l1) (bv l1))(h2:aM B w0 F 1 s2 (E l2) (bv l2))(h3:aM B w0 F 1 s3 (E l3) (bv l3))(h4:aM B w0 F 1 s4 (E l4) (bv l4))(h5:aM B w0 F 1 s5 (E l5) (bv l5))(hl:l=l1++(l2++(l3++(l4++l5))))(hn:E l<=1099511627776):
  aZ B w0 52 [.slice A 5 c] F (Hx l F):=
 yk (P:=[(s1,l1),(s2,l2),(s3,l3),(s4,l4),(s5,l5)]) hb (by intro y hy;simp only[fj,mV,oU]at hy;rcases hy with rfl|rfl|rfl|rfl|rfl<;>first|exact h1|exact h2|exact h3|exact h4|exact h5) rfl VU hn ak
end
def ak7:cZ:=w9.map λ(n:Nat)=>Value.int .u32 (n:Int)
def bM(B:Nat)(w0:World):Prop:=aM B w0 [] 1 (.slice (some ⟨0,0,none⟩) 16 16) 16 ak7
theorem QR{i:Nat}(h:i<16):ak7[i]? =some (.int .u32 ((w9.getD i 0:Nat):Int)):=by
 have h2:i<E w9:=h;unfold ak7;rw[jw,fc h2,ba,fc h2];rfl
theorem I9{C:Cx}{fr:Fr}{L:aR}{x:Operand}{ty t:TypeId}{n:Nat}(h:ev fr x=some (.int .u32 (n:Int)))(hn:n<4294967296):gR C fr L (.unOp .xor t x) ty (.int .u32 ((4294967295 ^^^ n:Nat):Int)):=λa w ha hw d pos af g=>by
 have e:=Ku (a:=4294967295) (b:=n) ax hn;have e2:(if IntKind.u32.signed=true then (-1:Int) else IntKind.u32.max)=((4294967295:Nat):Int):=rfl;rw[<-e];simp[execOp,Op.unary,ha.tmp h,Op.intBits,e2]
theorem yK{C:Cx}{fr:Fr}{L:aR}{x:Operand}{ty t:TypeId}{i:Nat}(HT:bM C.B C.w0)(hs:qA C.P t=true)(he:ev fr x=some (.pointer (some ⟨0,0+i,none⟩)))(hi:i<16):gR C fr L (.load t x) ty (.int .u32 ((w9.getD i 0:Nat):Int)):=
 au (A:=some ⟨0,0,none⟩) (j:=i) (nn:=16) (c:=16) (xs:=ak7) hs (by rw[he];simp[Bu]) (HT.mono (Pp _)) ax (QR hi)
theorem aj'(HT:bM B w0){s:Nat}(hs:s<4294967296)(hr:aM B w0 F 1 (.slice A 1 c) 1 [.slice A2 (E l) c2])(hb:fo B w0 F A2 c2 l)(hl:E l<=1099511627776):
  aZ B w0 146 [.int .u32 (s:Int),.slice A 1 c] F (λr L=>r= .int .u32 ((ma s l:Nat):Int)∧L=F):=by
 obtain⟨x0,Xk⟩:=cK (4294967295 ^^^ s);have avp:x0<4294967296:=by rw[Xk];exact Dh (n:=32) ax hs
 refine fw func146 46 [0,1] ?_;refine bK ?_;refine ab (I9 (n:=s) rfl hs) rfl (cF ?_);refine aD (λzf zL zm=>∃(k x:Nat),(k<=1∧x<4294967296∧(k=0->x=x0)∧(k=1->x=l.foldl HO x0))∧1-k=zm∧Sub zf [(5,.int .u32 (x:Int)),(12,.slice A 1 c),(13,ah 1),(14,ah k)]∧Wk zL (F)) _ ⟨0,4294967295 ^^^ s,⟨bU _,by rw[<-Xk];exact avp,λ_=>Xk.symm,λh=>absurd h ax⟩,rfl,bp,.refl _⟩ ?_;rintro _ _ _ ⟨k,x,⟨hk,hx,DD,yf⟩,rfl,hs,hp⟩;refine aT hs hp ?_;clear hs hp;refine bB ?_;refine aj (λkF=>?_) λkF=>?_
 ·obtain rfl:k=0:=by omega
  obtain rfl:x=x0:=DD rfl;refine bI ?_;refine ab (au ag rfl aB aa (show([.slice A2 (E l) c2]:cZ)[0*1]? =some _ from rfl)) rfl (de ?_);refine aD (λzf zL zm=>∃(j y:Nat),(j<=E l∧y<4294967296∧y=(l.take j).foldl HO x)∧E l-j=zm∧Sub zf [(5,.int .u32 (y:Int)),(12,.slice A 1 c),(13,ah 1),(14,ah 0),(18,.slice A2 (E l) c2),(19,ah (E l)),(20,ah j)]∧Wk zL (F)) _ ⟨0,x,⟨bU _,hx,by rw[zl];rfl⟩,rfl,bp,.refl _⟩ ?_;rintro _ _ _ ⟨j,y,⟨hj,hy,hye⟩,rfl,hs,hp⟩;refine aT hs hp ?_;clear hs hp;refine bB ?_;refine aj (λmx=>?_) λmx=>?_
  ·have uh:=(l.getD j 0).toNat_lt;have LD:y ^^^ (l.getD j 0).toNat<4294967296:=Dh (n:=32) hy aa;have uN:=aY (show j<E l by omega) (0:UInt8);obtain⟨d,hd⟩:=cK (l.getD j 0);obtain⟨z,hz⟩:=cK (y ^^^ d.toNat);rw[<-hd]at uh LD uN;rw[<-hz]at LD;have wC:=KX LD;have hzs:=UI z 4;have awC:=UI (yF z) 4;have hza:z &&& 15<16:=Pm (n:=4) z ax;have asJ:yF z &&& 15<16:=Pm (n:=4) (yF z) ax;refine bK ?_;rw[<-hd];refine bI ?_;refine ab (bm (r:=(d.toNat:Int)) underlying5 underlying135 rfl (zZ aa aa)) rfl (ab (lh rfl rfl (r:=(z:Int)) (by rw[hz];exact Ku hy aa)) rfl (bB ?_));refine ab (dv rfl rfl ax (r:=((z >>> 4:Nat):Int)) (It z 4)) rfl (aF ?_);refine ab (kE rfl rfl (r:=((z &&& 15:Nat):Int)) (acv LD (b:=15) ax)) rfl (ab (aP (i:=z &&& 15) underlying303 ag rfl rfl rfl hza) rfl (ab (yK HT ag rfl hza) rfl (ab (lh rfl rfl (r:=((yF z:Nat):Int)) (Ku aa (GV _))) rfl (aF ?_))));refine ve [5,12,13,14,18,19,20] ?_;refine bE ?_;refine ab (dv rfl rfl ax (r:=((yF z >>> 4:Nat):Int)) (It (yF z) 4)) rfl (aF ?_);refine ab (kE rfl rfl (r:=((yF z &&& 15:Nat):Int)) (acv wC (b:=15) ax)) rfl (ab (aP (i:=yF z &&& 15) underlying303 ag rfl rfl rfl asJ) rfl (ab (yK HT ag rfl asJ) rfl (ab (lh rfl rfl (r:=((HO y d:Nat):Int)) (by rw[show HO y d=yF (yF z) by rw[hz];rfl];exact Ku aa (GV _))) rfl (bK ?_))));refine av ⟨_,aa,j+1,HO y d,⟨aa,Ws hy d,by rw[uN,List.foldl_append,<-hye];rfl⟩,rfl,bp,.refl _⟩
  ·obtain rfl:j=E l:=by omega
   rw[ki]at hye;refine bz ?_;refine av ⟨_,aa,1,y,⟨gC _,hy,λh=>absurd h ax,λ_=>hye⟩,rfl,bp,.refl _⟩
 ·obtain rfl:k=1:=by omega
  have yf:=yf rfl;refine bK ?_;refine ab (I9 (n:=x) rfl hx) rfl (bF ?_);exact⟨by rw[yf,Xk];rfl,rfl⟩
theorem amO(HT:bM B w0)(hb:fo B w0 F A c l)(hl:E l<=1099511627776):
  aZ B w0 85 [.slice A (E l) c] F (λr L=>r= .int .u32 ((ma 0 l:Nat):Int)∧L=F):=by
 refine fw func85 6 [0] ?_;refine bK ?_;refine cC (aG fQ [_] rfl rfl cw aa aa) λA4=>ai rfl (aj' (s:=0) HT ax aB aB hl) (b7 ?_);refine aq (L':=F) (.skip (.refl _)) (aF ?_);exact⟨rfl,rfl⟩
theorem u8w(n:Nat):IntKind.u8.wrap ((n:Nat):Int)=((UInt8.ofNat n).toNat:Int):=by
 show((n:Nat):Int)%2^8=_;rw[tX];omega
theorem ag2{s:Nat}:aZ B w0 84 [.int .u32 (s:Int)] F (λr L=>∃A',r= .slice A' 4 4∧L= .own 5 1 A' 4 4 (bv (jP s))::F):=by
 refine fw func84 15 [0] ?_;refine bK ?_;refine ab (bm (r:=((UInt8.ofNat s).toNat:Int)) underlying135 underlying5 rfl (u8w s)) rfl (aF ?_);refine ab (dv rfl rfl ax (r:=((s >>> 8:Nat):Int)) (It s 8)) rfl (ab (bm (r:=((UInt8.ofNat (s >>> 8)).toNat:Int)) underlying135 underlying5 rfl (u8w (s >>> 8))) rfl (aF ?_));refine ab (dv rfl rfl ax (r:=((s >>> 16:Nat):Int)) (It s 16)) rfl (ab (bm (r:=((UInt8.ofNat (s >>> 16)).toNat:Int)) underlying135 underlying5 rfl (u8w (s >>> 16))) rfl (aF ?_));refine ab (dv rfl rfl ax (r:=((s >>> 24:Nat):Int)) (It s 24)) rfl (ab (bm (r:=((UInt8.ofNat (s >>> 24)).toNat:Int)) underlying135 underlying5 rfl (u8w (s >>> 24))) rfl (cC (aG cB [_,_,_,_] rfl rfl cw aa aa) λA14=>bF ?_));exact⟨A14,rfl,rfl⟩
theorem rf(HT:bM B w0)(hb:fo B w0 F A c l)(hl:E l<=1099511627776):
  aZ B w0 46 [.slice A (E l) c] F (λr L=>∃A' c',r= .slice A' (E (cv l)) c'∧L= .own 5 1 A' (E (cv l)) c' (bv (cv l))::F):=by
 rw[dA];refine fw func46 9 [0] ?_;refine bK ?_;refine ay rfl (mG l aB hl) λA4 c4=>aF ?_;refine ai rfl (amO HT aB hl) ?_;refine be arK rfl (ag2 (s:=ma 0 l)) rfl ?_;rintro _ _ ⟨A7,rfl,cO⟩;obtain rfl:=cO.symm;refine fK (bW cB rfl aW rfl aB cw aa aa) λA8 c8=>b7 ?_;refine aq (L':=.own 5 1 A8 (E l+4) c8 (bv l++bv (jP (ma 0 l)))::F) (.skip (.refl _)) (aF ?_);exact⟨A8,c8,rfl,by unfold cv bv;rw[jx]⟩
theorem arN{l l2:al}(h1:fo B w0 F A c l)(h2:fo B w0 F A2 c2 l2)(hl:E l<=1099511627776):
  aZ B w0 132 [.slice A (E l) c,.slice A2 (E l2) c2] F (λr L=>r= .bool (decide (l=l2))∧L=F):=by
 refine fw func132 26 [0,1] ?_;refine jt ?_;refine aj (λjU=>?_) λjU=>?_
 ·refine bK ?_;exact⟨by rw[oq (λh=>jU (by rw[h]))],rfl⟩
 ·refine de ?_;refine aD (λzf zL zm=>∃(k:Nat),(k<=E l∧l.take k=l2.take k)∧E l-k=zm∧Sub zf [(0,.slice A (E l) c),(1,.slice A2 (E l2) c2),(12,ah (E l)),(13,ah k)]∧Wk zL (F)) _ ⟨0,⟨bU _,rfl⟩,rfl,bp,.refl _⟩ ?_;rintro _ _ _ ⟨k,⟨hk,heq⟩,rfl,hs,hp⟩;refine aT hs hp (bB ?_);refine aj (λku=>?_) λku=>?_
  ·have ht1:=aY (show k<E l by omega) (0:UInt8);have ht2:=aY (show k<E l2 by omega) (0:UInt8);have hv1:(bv l)[k*1]? =some (.int .u8 ((l.getD k 0).toNat:Int)):=by rw[cH];simp[bv,List.getD,fc (show k<E l by omega)]
   have Xi:(bv l2)[k*1]? =some (.int .u8 ((l2.getD k 0).toNat:Int)):=by rw[cH];simp[bv,List.getD,fc (show k<E l2 by omega)]
   refine jt ?_;refine bL (au ag rfl h1 aa hv1) rfl (bE ?_);refine bL (au ag rfl h2 aa Xi) rfl (bE ?_);refine aj (λoB=>?_) λoB=>?_
   ·refine cF ?_;exact⟨by rw[oq (λh=>oB (by rw[h]))],rfl⟩
   ·refine bI ?_;refine av ⟨_,aa,k+1,⟨aa,by rw[ht1,ht2,heq,mR.1 (show(l.getD k 0).toNat=(l2.getD k 0).toNat by omega)]⟩,rfl,bp,.refl _⟩
  ·refine cF ?_;have e:l=l2:=by
    have:=heq
    rwa [fC aa,fC aa]at this
   exact⟨by rw[oK e],rfl⟩
theorem adH{l l2:al}{n n2:Nat}{xs ys:cZ}(e1:n=E l)(e2:xs=bv l)(e3:n2=E l2)(e4:ys=bv l2)(h1:aM B w0 F 1 (.slice A n c) n xs)(h2:aM B w0 F 1 (.slice A2 n2 c2) n2 ys)(hl:E l<=1099511627776):
  aZ B w0 132 [.slice A n c,.slice A2 n2 c2] F (λr L=>r= .bool (decide (l=l2))∧L=F):=by
 subst e1;subst e2;subst e3;subst e4;exact arN h1 h2 hl
theorem atk{n:Nat}{xs:cZ}(HT:bM B w0)(e1:n=E l)(e2:xs=bv l)(hb:aM B w0 F 1 (.slice A n c) n xs)(hl:E l<=1099511627776):
  aZ B w0 85 [.slice A n c] F (λr L=>r= .int .u32 ((ma 0 l:Nat):Int)∧L=F):=by
 subst e1;subst e2;exact amO HT hb hl
theorem xl(HT:bM B w0)(hb:fo B w0 F A c l)(hl:E l<=1099511627776):
  aZ B w0 176 [.slice A (E l) c] F (λr L=>∃A' c',r= .tuple #[.slice A' (E (aH l).1) c',ah (aH l).2]∧L= .own 5 1 A' (E (aH l).1) c' (bv (aH l).1)::F):=by
 refine dU.yw hb λnZ _=>?_;refine fw func176 24 [0] ?_;refine H5 ?_;refine aj (λh9=>?_) λh9=>?_
 ·have e:aH l=([],1):=ao aa;rw[e];refine bK ?_;refine aC 5 1 none (aF ?_);exact⟨none,0,rfl,rfl⟩
 ·have h4:4<=E l:=by omega
  obtain⟨m,hm⟩:=cK (E l-4);have hmm:(E l:Int)-4=(m:Int):=by omega
  have hcut:=hb.cut (k:=m) aa;have xz:=hb.jv (k:=m) aa;have hd1:(bv l).drop (m*1)=bv (l.drop m):=by rw[cH];simp[bv,zd]
  have hd2:(bv l).take (m*1)=bv (l.take m):=by rw[cH];simp[bv,p_]
  rw[hd1]at hcut;rw[hd2]at xz;have tT:E l-m=E (l.drop m):=by rw[iG]
  have rR:m=E (l.take m):=by rw[eY];omega
  have M4:E (l.take m)<=1099511627776:=by rw[eY];omega
  have hl4:E (l.drop m)<=1099511627776:=by rw[iG];omega
  refine b7 ?_;refine cE F ?_;refine ae 0 ?_;refine ae 1 ?_;refine aU 2 rfl (bY (i:=m) (size:=1) underlying27 ag rfl rfl hmm aa) (ae 3 ?_);refine ae 4 ?_;refine aU 5 rfl (bV (i:=m) (size:=1) underlying27 ag rfl rfl hmm aa) (aA 6 (js rfl rfl (atk (l:=l.take m) HT rR rfl xz M4) (aA 7 (gN rfl .no arK rfl (ag2 (s:=ma 0 (l.take m))) rfl (by rintro _ _ ⟨Vy,rfl,rfl⟩;exact gD) ?_))));rintro _ _ ⟨Vy,rfl,cO⟩;obtain rfl:=cO.symm;refine aA 8 (js rfl rfl (adH (l:=l.drop m) (l2:=jP (ma 0 (l.take m))) tT rfl rfl rfl hcut.cons (aM.own (.head _)) hl4) (ae 9 ?_));refine bc ?_;refine aj (λoI=>?_) λoI=>?_
  ·have e:aH l=([],5):=by unfold aH;rw[aw aa,aw (by rw[<-hm];exact oI)]
   rw[e];refine b7 ?_;refine ve [2,3] ?_;refine bE ?_;refine aC 5 1 none (aq (L':=.own 5 1 none 0 0 []::F) (.cons (.skip (.refl _))) (aF ?_));exact⟨none,0,rfl,rfl⟩
  ·have e:aH l=(l.take m,0):=by unfold aH;rw[aw aa,ao (by rw[<-hm];exact jN.1 oI),<-hm]
   rw[e];simp only;rw[<-rR];refine bB ?_;refine ab (bV (i:=m) (size:=1) underlying27 ag rfl rfl hmm aa) rfl (ay rfl (mG (l.take m) xz.cons aa) λA23 c23=>bc ?_);refine ve [2,3] ?_;refine bc ?_;refine aq (L':=.own 5 1 A23 m c23 (bv (l.take m))::F) (.cons (.skip (.refl _))) (aF ?_);exact⟨A23,c23,rfl,rfl⟩
theorem abv{b:al}(hb:fo B w0 F A c b)(di:E b<=1000000):
  aZ B w0 83 [.slice A (E b) c] F (λr L=>∃A' c',r= .tuple #[.slice A' (E (Nb b).1) c',.bool (decide (abu b))]∧L= .own 5 1 A' (E (Nb b).1) c' (bv (Nb b).1)::F):=by
 have lg:=ZS b;refine fw func83 22 [0] ?_;refine bO ?_;refine ay rfl (anI hb di) λA8 c8=>ay rfl (ahF (l:=jJ b) aB aa) λA9 c9=>cY ?_;refine cD (λkF=>?_) λkF=>?_
 ·have e:decide ((E (Nb b).1:Int)<E b)=decide (abu b):=zj.2 ⟨λh=>⟨kF,aa⟩,λh=>(by have:=h.2;omega)⟩;refine cF ?_;refine ve [2,3] ?_;refine bc ?_;refine aq (.cons (.skip (.refl _))) (aF ?_);exact⟨A9,c9,by rw[<-e];rfl,rfl⟩
 ·have e:false=decide (abu b):=(oq λh=>kF h.1).symm;refine bI ?_;refine ve [2,3] ?_;refine bc ?_;refine aq (.cons (.skip (.refl _))) (aF ?_);exact⟨A9,c9,by rw[<-e];rfl,rfl⟩
theorem aiy{b:al}{p:Bool}(h:32768<E b):jY b p=([],6):=by unfold jY;rw[ao h]
theorem KH{b:al}{p:Bool}(h:¬32768<E b):jY b p=(cv (yr b p++(kP b p).2),0):=by unfold jY;rw[aw h]
theorem NO(HT:bM B w0){b:al}{p:Bool}(hb:fo B w0 F A c b)(di:E b<=1099511627776):
  aZ B w0 44 [.slice A (E b) c,.bool p] F (λr L=>∃A' c',r= .tuple #[.slice A' (E (jY b p).1) c',ah (jY b p).2]∧L= .own 5 1 A' (E (jY b p).1) c' (bv (jY b p).1)::F):=by
 refine fw func44 41 [0,1] ?_;refine ei ?_;refine aj (λnj=>?_) λnj=>?_
 ·rw[aiy aa];refine bK ?_;refine aC 5 1 none (aF ?_);exact⟨none,0,rfl,rfl⟩
 ·rw[KH aa];refine bO ?_;refine dY (λzf zL=>∃(M:aR) (Ab:bk) (cb:Nat) (w:UInt8) (bd:al),(kP b p=(w,bd)∧Wk M F∧aM B w0 M 1 (.slice A (E b) c) (E b) (bv b)∧aM B w0 M 1 (.slice Ab (E bd) cb) (E bd) (bv bd))∧Sub zf [(0,.slice A (E b) c),(6,.int .u8 (w.toNat:Int)),(7,.slice Ab (E bd) cb)]∧Wk zL (M)) ?_ ?_
  ·refine bE ?_;refine ab (jm rfl) rfl (bc ?_);refine iH (λlf=>?_) λlf=>?_
   ·have aol:p=false:=by cases p<;>simp at lf⊢
    refine bE ?_;refine ay rfl (abv hb aa) λMO c19=>cF ?_;refine aj (λrm=>?_) λrm=>?_
    ·refine b7 ?_;refine ve [0,6,7] ?_;exact bC ⟨.own 5 1 MO (E (Nb b).1) c19 (bv (Nb b).1)::F,MO,c19,1,(Nb b).1,⟨by unfold kP;rw[ao ⟨aol,rm⟩],.skip (.refl _),hb.cons,aM.own (.head _)⟩,bp,.refl _⟩
    ·refine aF ?_;exact bC ⟨.own 5 1 MO (E (Nb b).1) c19 (bv (Nb b).1)::F,A,c,0,b,⟨by unfold kP;rw[aw λk=>rm k.2],.skip (.refl _),hb.cons,hb.cons⟩,bp,.refl _⟩
   ·have aol:¬p=false:=by cases p<;>simp at lf⊢
    refine aF ?_;exact bC ⟨F,A,c,0,b,⟨by unfold kP;rw[aw λk=>aol k.1],.refl _,hb,hb⟩,bp,.refl _⟩
  ·rintro _ _ ⟨M,Ab,cb,w,bd,⟨hY,hM,hbM,hbB⟩,hs,hp⟩;refine aT hs hp (aF ?_);have RK:E bd<=E b:=by have:=yu b p;rw[hY]at this;exact this
   have hBH:yr b p=[w]++(aS (E b)++aS (E bd)):=by unfold yr;rw[hY];rfl
   have hBB:(kP b p).2=bd:=by rw[hY]
   have hn1:=aV (x:=E b) aa;have uK:=aV (x:=E bd) aa;have hlH:E (yr b p)<=30:=by rw[hBH,aX,aX,qM];omega
   rw[hBB];refine bc ?_;refine cC (aG cB [_] rfl rfl cw aa aa) λIx=>bc ?_;refine ab (bm underlying3 underlying60 rfl (r:=(E b:Int)) (gj aa aa)) rfl (ay rfl (jj (E b) aa) λA29 c29=>bc ?_);refine ab (bm underlying3 underlying60 rfl (r:=(E bd:Int)) (gj aa aa)) rfl (ay rfl (jj (E bd) aa) λRw c33=>cC (aG fQ [_,_,_] rfl rfl cw aa aa) λxc=>ay rfl (KA (l1:=[w]) (l2:=aS (E b)) (l3:=aS (E bd)) aB aB aB aB hBH aa) λCg Zh=>bI ?_);refine cC (aG fQ [_,_] rfl rfl cw aa aa) λMR=>ay rfl (R4 (l1:=yr b p) (l2:=bd) aB aB aB rfl rG) λA39 c39=>?_;refine ay rfl (rf HT (l:=yr b p++bd) aB rG) λA40 c40=>bc ?_;refine ve [4,5] ?_;refine bc ?_;refine aq (.cons (.s6 (.skip hM))) (aF ?_);exact⟨A40,c40,rfl,rfl⟩
section
variable{sl:al}
theorem aqt{P:Prop}(h:P:=by(have:=QE (x:=1) (d:=b) (e:=(b:Int)) rfl (by omega) (by omega);rw[lz]at this;exact this)):P:=h
theorem aqp{P:Prop}(h:P:=by(exact dG (by first|exact trivial|omega|(exact⟨λ_=>trivial,λ_=>by omega⟩)|(exact λh=>h (by omega))))):P:=h
theorem aio{P:Prop}(h:P:=by(exact dR (by first|exact trivial|omega|(exact⟨λ_=>trivial,λ_=>by omega⟩)|(exact λh=>h (by omega))))):P:=h
theorem VO{P:Prop}(h:P:=by(rw[aX,qM];omega)):P:=h
theorem adO{x b:Nat}(hb:b<=11)(hx:x<2^b):aZ B w0 356 [ah x,ah b] F (λr L=>r= .bool true∧L=F):=by
 have hp:2^b<=2048:=gJ (n:=2) aa hb;refine fw func356 13 [0,1] ?_;refine bI ?_;refine bR 8 12 [] (True) ?_ ?_
 ·refine bE ?_;refine cD (λh7=>?_) λh7=>?_
  ·refine b7 ?_;refine ab (gk rfl rfl aa (r:=((2^b:Nat):Int)) aqt) rfl (bE ?_);exact aL aqp
  ·refine b7 ?_;exact aL aio
 ·refine bF ?_;exact⟨ak,rfl⟩
theorem aoz{b x k y:Nat}(hb:b<=7)(hx:x<2^b)(hk:k<=11)(hy:y<2^k):aZ B w0 354 [.agg #[ah ((257+b:Nat):Int),ah x,ah k,ah y]] F
  (λr L=>r= .tuple #[.agg #[.int .u8 0,ah ((2+2^b+x:Nat):Int),ah ((2^k+y:Nat):Int)],ah 0]∧L=F):=by
 have M5:2^b<=128:=gJ (n:=2) aa hb;have Am:2^k<=2048:=gJ (n:=2) aa hk;refine fw func354 70 [0] ?_;refine bc ?_;refine bg λg1=>?_;refine bh λg2=>?_;refine bI ?_;refine bR 8 13 [1,2] (False) ?_ ?_
 ·refine b7 ?_;refine cD (λh9=>?_) λh9=>?_
  ·refine bB ?_;exact aL (by exact dG (by first|omega|(exact⟨λh=>by omega,False.elim⟩)|(exact λh=>h)))
  ·refine bE ?_;exact aL (by rfl)
 ·refine bE ?_;refine aj (λh5=>?_) λh5=>?_
  ·exfalso;exact h5
  ·refine bc ?_;refine bR 18 41 [1,2] (True) ?_ ?_
   ·refine b7 ?_;refine cD (λkG=>?_) λkG=>?_
    ·refine bI ?_;refine cD (λCw=>?_) λCw=>?_
     ·refine bI ?_;refine cD (λFa=>?_) λFa=>?_
      ·refine bB ?_;exact aL aqp
      ·refine bE ?_;exact aL aio
     ·refine bK ?_;exact aL aio
    ·refine cY ?_;exact aL aio
   ·refine bE ?_;refine aj (λmB=>?_) λmB=>?_
    ·refine b7 ?_;refine ab (dC rfl rfl (r:=((b:Nat):Int)) ((bq aa aa).trans aa)) rfl (bK ?_);refine ai rfl (adO (x:=x) (b:=b) aa hx) (aF ?_);refine l7 rfl rfl rfl (λRH=>?_) (λRH=>?_)
     ·refine bK ?_;refine ai rfl (adO (x:=y) (b:=k) aa hy) (bE ?_);refine iH (λZ6=>?_) λZ6=>?_
      ·refine aF ?_;refine cE (.bG g1 166 [ah ((257+b:Nat):Int),ah x,ah k,ah y]::F) ?_;refine ae 0 ?_;refine aU 1 rfl (gk rfl rfl aa (r:=((2^b:Nat):Int)) aqt) (aU 2 rfl (bJ rfl rfl (r:=((2+2^b:Nat):Int)) ((bq aa aa).trans aa)) (ae 3 ?_));refine ae 4 ?_;refine aU 5 rfl (bJ rfl rfl (r:=((2+2^b+x:Nat):Int)) ((bq aa aa).trans aa)) (ae 6 ?_);refine ae 7 ?_;refine aU 8 rfl (gk rfl rfl aa (r:=((2^k:Nat):Int)) (by have:=QE (x:=1) (d:=k) (e:=(k:Int)) rfl aa aa;rw[lz]at this;exact this)) (ae 9 ?_);refine ae 10 ?_;refine aU 11 rfl (bJ rfl rfl (r:=((2^k+y:Nat):Int)) ((bq aa aa).trans aa)) (aU 12 rfl (bx [(1,_),(2,_)] [.int .u8 0,ah 0,ah 0] [1,2] [_,_,_] rfl rfl ag) (aA 13 (aF ?_)));refine ae 14 ?_;refine cP [2,3] ?_;refine b7 ?_;refine aq (.cons (.skip (.refl _))) (iK rfl rfl ag aW gV rfl (.skip (.refl _)) ?_);exact⟨rfl,rfl⟩
      ·exfalso;cases Z6
     ·exfalso;cases RH
    ·exfalso;exact mB trivial
theorem Gt(q:List Bool)(N:Nat):∀f p acc s,(mh q N f p acc s).2.1=0->Good (mh q N f p acc s).1
 |0,p,acc,s=>λh=>by
  unfold mh fin at h⊢;by_cases hg:Good acc
  ·rw[ao hg];exact hg
  ·rw[aw hg]at h;cases h
 |f+1,p,acc,s=>λh=>by
  unfold mh at h⊢;split at h
  ·rename_i h1;rw[ao h1];unfold fin at h⊢;by_cases hg:Good acc
   ·rw[ao hg];exact hg
   ·rw[aw hg]at h;cases h
  ·rename_i h1;rw[aw h1];split at h
   ·rename_i h2;exact absurd h h2
   ·rename_i h2;rw[aw h2];split at h
    ·rename_i h3;rw[ao h3];exact Gt q N f _ _ _ h
    ·rename_i h3;rw[aw h3];split at h
     ·rename_i h4;exact absurd h h4
     ·rename_i h4;rw[aw h4];split at h
      ·cases h
      ·rename_i h5;rw[aw h5];exact Gt q N f _ _ _ h
theorem agb{q:List Bool}{p:Nat}{n:Int}(h:(rD q p n).2.1=0):Good (rD q p n).1:=by
 unfold rD at h⊢;split at h
 ·cases h
 ·rename_i h1;rw[aw h1];exact Gt q _ _ _ _ _ h
abbrev Rk(v1 v2:Value)(g gr:Nat)(A:bk)(c:Nat)(q:List Bool)(p:Nat)(F:aR):aR:=.bG g 455 [br gr,v1,v2]::Rr gr A c q p F
theorem Gr{p p':Nat}{k:Nat}{acc:al}{e:Int}{v1 v2:Value}(hp:p<=E q)(hq:E q<=8000000)(hk:k<=1000)(hR:rD q p k=(acc,e,p'))(he:¬e=0):
  aZ B w0 341 [br g,ah k] (Rk v1 v2 g gr A c q p F) (λr L=>r= .tuple #[.pointer none,ah e]∧L=Rk v1 v2 g gr A c q p' F):=by
 refine fw func341 24 [0,1] ?_;refine cY ?_;refine ay rfl (.perm (N0 q p hp hq k aa aa acc e p' hR) (Yq _ _ _ _)) λA14 c14=>ei ?_;refine aj (λiC=>?_) λiC=>?_
 ·refine bF ?_;refine ve [4,5] ?_;refine bE ?_;refine aq ((ur (eu (eu (.skip (.refl _)))))) (aF ?_);exact⟨rfl,rfl⟩
 ·exfalso;exact iC he
theorem BS{p p':Nat}{k:Nat}{acc:al}{v1 v2:Value}(hp:p<=E q)(hq:E q<=8000000)(hk:k<=1000)(hR:rD q p k=(acc,0,p')):
  aZ B w0 341 [br g,ah k] (Rk v1 v2 g gr A c q p F) (λr L=>∃g' Y,r= .tuple #[.pointer (some ⟨g',0,none⟩),ah 0]∧L=Rk v1 v2 g gr A c q p' (Y++F)∧x_ B w0 Y g' acc):=by
 have hg:Good acc:=by have:=agb (q:=q) (p:=p) (n:=k);rw[hR]at this;exact this rfl
 refine fw func341 24 [0,1] ?_;refine cY ?_;refine ay rfl (.perm (N0 q p hp hq k aa aa acc 0 p' hR) (Yq _ _ _ _)) λA14 c14=>ei ?_;refine dw λiC=>?_;refine bF ?_;refine be al3 rfl (afy (l:=acc) aB hg) rfl ?_;rintro _ _ ⟨g21,Y,rfl,cO,yZ⟩;obtain rfl:=cO.symm;refine b7 ?_;refine ve [4,5] ?_;refine bc ?_;refine aq (L':=Rk v1 v2 g gr A c q p' (Y++F)) (.trans (.dK (oV Y [_,_,_,_] F)) ((ur (eu (eu (.skip (.refl _))))))) (aF ?_);exact⟨g21,Y,rfl,rfl,yZ⟩
theorem L6{p b:Nat}:(((257+b:Nat):Int)-257)=(b:Int):=by omega
theorem T4{p b:Nat}(h:¬sS q p b=0):nG fl q p ((257+b:Nat):Int)=((0,0,0),sS q p b,i_ q p b):=by
 unfold nG;rw[L6 (p:=p),ao h]
theorem T5{p b p1 p2:Nat}{e k:Int}(h:sS q p b=0)(h1:i_ q p b=p1)(h2:fM fl q p1=(k,e,p2))(h3:¬e=0):nG fl q p ((257+b:Nat):Int)=((0,0,0),e,p2):=by
 unfold nG;rw[L6 (p:=p),aw (λk=>k h),h1,h2,ao h3]
theorem T6{p b p1 p2:Nat}{k:Int}(h:sS q p b=0)(h1:i_ q p b=p1)(h2:fM fl q p1=(k,0,p2))(h3:¬sS q p2 k=0):nG fl q p ((257+b:Nat):Int)=((0,0,0),sS q p2 k,i_ q p2 k):=by
 unfold nG;rw[L6 (p:=p),aw (λk=>k h),h1,h2,aw (λk=>k rfl),ao h3]
theorem T7{p b p1 p2 k:Nat}(h:sS q p b=0)(h1:i_ q p b=p1)(h2:fM fl q p1=((k:Int),0,p2))(h3:sS q p2 k=0):nG fl q p ((257+b:Nat):Int)=((0,((2+2^b+pA q p b:Nat):Int),((2^k+pA q p2 k:Nat):Int)),0,i_ q p2 k):=by
 unfold nG;rw[L6 (p:=p),aw (λk=>k h),h1,h2,aw (λk=>k rfl),aw (λk=>k h3)];simp
theorem aeB{l:al}(yZ:x_ B w0 F g l)(hl:E l<=300){p p2:Nat}{k e:Int}(hp:p<=E q)(hq:E q<=8000000)(hH:fM l q p=(k,e,p2)):
  aZ B w0 347 [br g,br g2] (Rr g2 A c q p F) (λr L=>r= .tuple #[ah k,ah e]∧L=Rr g2 A c q p2 F):=by
 have:=an' (B:=B) (w0:=w0) (F:=F) (A:=A) (c:=c) (g2:=g2) (q:=q) yZ hl hp hq;rw[hH]at this;exact this
theorem aj_{p b:Nat}(hb:b<=7)(hp:p<=E q)(hq:E q<=8000000)(yZ:x_ B w0 F g2 fl)(lg:E fl=12):
  aZ B w0 348 [br g,ah ((257+b:Nat):Int)] (Rk (br g1) (br g2) g gr A c q p F)
   (λr L=>r= .tuple #[.agg (bS.cells (nG fl q p ((257+b:Nat):Int)).1).toArray,ah (nG fl q p ((257+b:Nat):Int)).2.1]∧L=Rk (br g1) (br g2) g gr A c q (nG fl q p ((257+b:Nat):Int)).2.2 F):=by
 have hv1:=Bi q p (n:=b) aa;obtain⟨p1,CC⟩:∃x,i_ q p b=x:=⟨_,rfl⟩
 have aaj:p1<=E q:=by rw[<-CC];exact rl _ hp
 have kN:=vR fl q aaj;obtain⟨⟨k,e,p2⟩,hH⟩:∃x,fM fl q p1=x:=⟨_,rfl⟩
 rw[hH]at kN;simp only at kN;refine fw func348 63 [0,1] ?_;refine bc ?_;refine bh λg4=>?_;refine bz ?_;refine ab (dC rfl rfl (r:=((b:Nat):Int)) ((bq aa aa).trans aa)) rfl (ai rfl (.perm (Jo q p hp hq b aa aa) (Yr _ _ _ _ _)) (ei ?_));refine aj (λmx=>?_) λmx=>?_
 ·rw[T4 mx];refine bc ?_;refine ab (cJ [.int .u8 0,ah 0,ah 0] ag) rfl (bE ?_);refine ve [4,5] ?_;refine bE ?_;refine aq ((sE (sE (eu (eu (.refl _)))))) (iK rfl rfl ag aW gV rfl (.skip (.refl _)) ?_);exact⟨rfl,rfl⟩
 ·refine bE ?_;rw[CC];refine cE (.bG g 455 [br gr,br g1,br g2]::F) ?_;refine ae 0 ?_;refine ae 1 ?_;refine ae 2 ?_;refine ae 3 ?_;refine ae 4 ?_;refine ae 5 ?_;refine ae 6 ?_;refine ae 7 ?_;refine aA 8 (js rfl rfl (aeB yZ.cons.cons aa aaj hq hH) (ae 9 ?_));refine ae 10 ?_;refine ae 11 ?_;refine ae 12 ?_;refine ae 13 ?_;refine cP [0,1,4,6,7,8] ?_;refine bK ?_;refine aj (λFa=>?_) λFa=>?_
  ·rw[T5 (bA mx) CC hH Fa];refine bc ?_;refine ab (cJ [.int .u8 0,ah 0,ah 0] ag) rfl (bI ?_);refine aq ((sE (sE (eu (eu (.refl _)))))) (iK rfl rfl ag aW gV rfl (.skip (.refl _)) ?_);exact⟨rfl,rfl⟩
  ·obtain rfl:e=0:=bA Fa;obtain⟨s,rfl,hs,_⟩:=kN.2.2.1 rfl;refine bO ?_;refine ai rfl (Jo q p2 kN.2.1 hq s aa aa) (ei ?_);refine aj (λJp=>?_) λJp=>?_
   ·rw[T6 (bA mx) CC hH Jp];refine bc ?_;refine ab (cJ [.int .u8 0,ah 0,ah 0] ag) rfl (bE ?_);refine ve [4,5] ?_;refine bE ?_;refine aq ((sE (sE (eu (eu (.refl _)))))) (iK rfl rfl ag aW gV rfl (.skip (.refl _)) ?_);exact⟨rfl,rfl⟩
   ·have Xi:=Bi q p2 (n:=s) aa;have M5:2^b<=128:=gJ (n:=2) aa hb;have Am:2^s<=2048:=gJ (n:=2) aa (by omega:s<=11);rw[T7 (bA mx) CC hH (bA Jp)];obtain⟨y1,Pd⟩:∃x,pA q p b=x:=⟨_,rfl⟩
    obtain⟨y2,TA⟩:∃x,pA q p2 s=x:=⟨_,rfl⟩
    rw[Pd]at hv1⊢;rw[TA]at Xi⊢;refine bB ?_;refine ab (bm underlying60 underlying3 rfl (r:=(y1:Int)) (bq aa aa)) rfl (bc ?_);refine ab (bm underlying60 underlying3 rfl (r:=(y2:Int)) (bq aa aa)) rfl (ab (eZ [(0,_),(1,_),(2,_),(3,_)] [_,_,_,_] rfl rfl ag) rfl (ai rfl (aoz hb hv1 aa Xi) (b7 ?_)));refine ve [4,5] ?_;refine bc ?_;refine aq ((sE (sE (eu (eu (.refl _)))))) (iK rfl rfl ag aW gV rfl (.skip (.refl _)) ?_);exact⟨rfl,rfl⟩
theorem U_{p p1:Nat}{k e:Int}(hH:fM sl q p=(k,e,p1))(h:¬e=0∨k=256):kM sl fl q p=((0,0,0),false,e,p1):=by
 unfold kM;rw[hH,ao h]
theorem U'{p p1 s:Nat}(hH:fM sl q p=((s:Int),0,p1))(h:s<256):kM sl fl q p=((UInt8.ofNat s,0,0),true,0,p1):=by
 unfold kM;rw[hH,aw (λk=>k.elim (λk=>k rfl) λk=>acF),ao dh];simp
theorem Va{p p1 b:Nat}(hH:fM sl q p=(((257+b:Nat):Int),0,p1)):kM sl fl q p=((nG fl q p1 ((257+b:Nat):Int)).1,decide ((nG fl q p1 ((257+b:Nat):Int)).2.1=0),(nG fl q p1 ((257+b:Nat):Int)).2.1,(nG fl q p1 ((257+b:Nat):Int)).2.2):=by
 unfold kM;rw[hH,aw (λk=>k.elim (λk=>k rfl) λk=>acF),aw dh]
theorem apN{s:Nat}(h:s<256):((UInt8.ofNat s).toNat:Int)=(s:Int):=by
 rw[tX];omega
theorem alj(t:bS):∀u∈bS.cells t,u.oneCell'=true:=by simp[bS.cells,Value.oneCell']
theorem agw{p gs gf:Nat}(hp:p<=E q)(hq:E q<=8000000)(Ly:x_ B w0 F gs sl)(Xa:x_ B w0 F gf fl)(oC:E sl=265)(lg:E fl=12):
  aZ B w0 342 [br g] (Rk (br gs) (br gf) g gr A c q p F)
   (λr L=>r= .tuple #[.agg (bS.cells (kM sl fl q p).1).toArray,.bool (kM sl fl q p).2.1,ah (kM sl fl q p).2.2.1]∧L=Rk (br gs) (br gf) g gr A c q (kM sl fl q p).2.2.2 F):=by
 have kN:=vR sl q hp;obtain⟨⟨k,e,p1⟩,hH⟩:∃x,fM sl q p=x:=⟨_,rfl⟩
 rw[hH]at kN;simp only at kN;refine fw func342 43 [0] ?_;refine bc ?_;refine bh λg2=>?_;refine bF ?_;refine cE (.bG g 455 [br gr,br gs,br gf]::F) ?_;refine ae 0 ?_;refine ae 1 ?_;refine ae 2 ?_;refine ae 3 ?_;refine ae 4 ?_;refine ae 5 ?_;refine ae 6 ?_;refine ae 7 ?_;refine aA 8 (js rfl rfl (.perm (aeB (g:=gs) Ly.cons.cons aa hp hq hH) (Yr _ _ _ _ _)) (ae 9 ?_));refine ae 10 ?_;refine ae 11 ?_;refine ae 12 ?_;refine ae 13 ?_;refine bB ?_;refine bR 6 24 [0,2,4,5] (¬e=0∨k=256) ?_ ?_
 ·refine bE ?_;refine aI rfl rfl rfl (λmx=>?_) (λmx=>?_)
  ·refine b7 ?_;exact aL Zb
  ·refine bc ?_;exact aL Za
 ·refine bE ?_;refine aj (λiC=>?_) λiC=>?_
  ·rw[U_ hH iC];refine cF ?_;refine aq ((sE (sE (eu (eu (.refl _)))))) (qX rfl rfl ag aW gV rfl rfl (.skip (.refl _)) ?_);exact⟨rfl,rfl⟩
  ·have he0:e=0:=bA λh=>iC (.inl h);subst he0;obtain⟨s,rfl,hs,_⟩:=kN.2.2.1 rfl;refine bI ?_;refine aj (λkG=>?_) λkG=>?_
   ·rw[U' hH aa];refine bE ?_;refine ab (bm underlying3 underlying5 rfl (r:=((UInt8.ofNat s).toNat:Int)) (by rw[apN aa];exact ab' aa aa)) rfl (ab (bx [(0,_)] [.int .u8 0,ah 0,ah 0] [0] [_,_,_] rfl rfl ag) rfl (bK ?_));refine aq ((sE (sE (eu (eu (.refl _)))))) (qX rfl rfl ag aW gV rfl rfl (.skip (.refl _)) ?_);exact⟨rfl,rfl⟩
   ·obtain⟨b,rfl⟩:∃b,s=257+b:=⟨s-257,aa⟩
    rw[Va hH];have p6:=alj (nG fl q p1 ((257+b:Nat):Int)).1;refine bI ?_;refine ai rfl (.perm (aj_ aa kN.2.1 hq Xa.cons lg) ((pu3 (fV (fV (fV (.refl _))))))) (jG ?_);refine ve [2,3,4] ?_;refine bc ?_;refine aq ((ur (eu (eu (eu (.refl _)))))) (qX rfl rfl ag aW gV rfl rfl (.skip (.refl _)) ?_);exact⟨rfl,rfl⟩
theorem afp{p b:Nat}(hb:b<=7)(hp:p<=E q)(lg:E fl=12):0<=(nG fl q p ((257+b:Nat):Int)).1.2.1∧(nG fl q p ((257+b:Nat):Int)).1.2.1<=300∧(nG fl q p ((257+b:Nat):Int)).2.2<=E q:=by
 have hv1:=Bi q p (n:=b) aa;have M5:2^b<=128:=gJ (n:=2) aa hb;by_cases h1:sS q p b=0
 ·obtain⟨p1,CC⟩:∃x,i_ q p b=x:=⟨_,rfl⟩
  have aaj:p1<=E q:=by rw[<-CC];exact rl _ hp
  have kN:=vR fl q aaj;obtain⟨⟨k,e,p2⟩,hH⟩:∃x,fM fl q p1=x:=⟨_,rfl⟩
  rw[hH]at kN;simp only at kN;by_cases h2:e=0
  ·subst h2;obtain⟨s,rfl,_⟩:=kN.2.2.1 rfl;by_cases h3:sS q p2 s=0
   ·rw[T7 h1 CC hH h3];exact⟨dh,dh,rl _ kN.2.1⟩
   ·rw[T6 h1 CC hH h3];exact⟨dh,dh,rl _ kN.2.1⟩
  ·rw[T5 h1 CC hH h2];exact⟨dh,dh,kN.2.1⟩
 ·rw[T4 h1];exact⟨dh,dh,rl _ hp⟩
theorem Q_{p:Nat}(hp:p<=E q)(oC:E sl=265)(lg:E fl=12):0<=(kM sl fl q p).1.2.1∧(kM sl fl q p).1.2.1<=300∧(kM sl fl q p).2.2.2<=E q:=by
 have kN:=vR sl q hp;obtain⟨⟨k,e,p1⟩,hH⟩:∃x,fM sl q p=x:=⟨_,rfl⟩
 rw[hH]at kN;simp only at kN;by_cases h:¬e=0∨k=256
 ·rw[U_ hH h];exact⟨dh,dh,kN.2.1⟩
 ·have he0:e=0:=bA λk=>h (.inl k);subst he0;obtain⟨s,rfl,hs,_⟩:=kN.2.2.1 rfl;by_cases h2:s<256
  ·rw[U' hH h2];exact⟨dh,dh,kN.2.1⟩
  ·obtain⟨b,rfl⟩:∃b,s=257+b:=⟨s-257,aa⟩
   rw[Va hH];exact afp aa kN.2.1 lg
section
variable{f:Nat}{most:Int}{p p2:Nat}{acc:List bS}{R:List bS×Int}{t:bS}{ok:Bool}{e:Int}
theorem Q8(h:sv sl fl q (f+1) most p acc=R)(hT:kM sl fl q p=(t,ok,e,p2))(he:¬e=0):R=([],e):=by
 rw[<-h,sv,hT,ao he]
theorem Q7(h:sv sl fl q (f+1) most p acc=R)(hT:kM sl fl q p=(t,false,0,p2)):R=if paE q p2=0 then (acc,0) else ([],paE q p2):=by
 rw[<-h,sv,hT,aw (λk=>k rfl),ao rfl]
theorem Kl(h:sv sl fl q (f+1) most p acc=R)(hT:kM sl fl q p=(t,true,0,p2))(hm:most-max 1 t.2.1<0):R=([],6):=by
 rw[<-h,sv,hT,aw (λk=>k rfl),aw ak,ao hm]
theorem YD(h:sv sl fl q (f+1) most p acc=R)(hT:kM sl fl q p=(t,true,0,p2))(hm:¬most-max 1 t.2.1<0):sv sl fl q f (most-max 1 t.2.1) p2 (acc++[t])=R:=by
 rw[<-h,sv,hT,aw (λk=>k rfl),aw ak,aw hm]
end
theorem agx{p p2 gs gf:Nat}{t:bS}{ok:Bool}{e:Int}(hp:p<=E q)(hq:E q<=8000000)(Ly:x_ B w0 F gs sl)(Xa:x_ B w0 F gf fl)(oC:E sl=265)(lg:E fl=12)(hT:kM sl fl q p=(t,ok,e,p2)):
  aZ B w0 342 [br g] (Rk (br gs) (br gf) g gr A c q p F)
   (λr L=>r= .tuple #[.agg #[.int .u8 (t.1.toNat:Int),ah t.2.1,ah t.2.2],.bool ok,ah e]∧L=Rk (br gs) (br gf) g gr A c q p2 F):=by
 have:=agw (B:=B) (w0:=w0) (F:=F) (A:=A) (c:=c) (g:=g) (gr:=gr) hp hq Ly Xa oC lg;rw[hT]at this;exact this
theorem WL{acc:al}{p N:Nat}(hl:E acc=N)(h:(fin acc p).2.1=0):E (fin acc p).1=N:=by
 unfold fin at h⊢;by_cases hg:Good acc
 ·rw[ao hg];exact hl
 ·rw[aw hg]at h;cases h
theorem Mi(q:List Bool)(N:Nat):∀f p acc s,E acc<=N->N<=E acc+f->(mh q N f p acc s).2.1=0->E (mh q N f p acc s).1=N
 |0,p,acc,s=>λh1 h2 h=>by
  unfold mh at h⊢;exact WL aa h
 |f+1,p,acc,s=>λk1 k2 h=>by
  unfold mh at h⊢;split at h
  ·rename_i h1;rw[ao h1];exact WL aa h
  ·rename_i h1;rw[aw h1];split at h
   ·rename_i h2;exact absurd h h2
   ·rename_i h2;rw[aw h2];split at h
    ·rename_i h3;rw[ao h3];exact Mi q N f _ _ _ VO VO h
    ·rename_i h3;rw[aw h3];split at h
     ·rename_i h4;exact absurd h h4
     ·rename_i h4;rw[aw h4];split at h
      ·cases h
      ·rename_i h5;rw[aw h5];have h6:¬N<=E acc+pA q (i_ q p 4) 6:=λk=>h5 (.inr k);exact Mi q N f _ _ _ (by rw[aX,za];omega) (by rw[aX,za];omega) h
theorem DP{q:List Bool}{p:Nat}{n:Nat}(h:(rD q p n).2.1=0):E (rD q p n).1=n:=by
 unfold rD at h⊢;split at h
 ·cases h
 ·rename_i h1;rw[aw h1];rw[oo]at h⊢;exact Mi q n _ _ _ _ ak ak h
theorem abN{b:al}{most:Int}(h:most<0):fU b most=([],13):=by unfold fU;rw[ao h]
theorem YE{b l:al}{most e:Int}{p:Nat}(h:¬most<0)(h1:rD (gA b) 0 265=(l,e,p))(h2:¬e=0):fU b most=([],e):=by
 unfold fU;rw[aw h,h1,ao h2]
theorem YF{b l l2:al}{most e:Int}{p p2:Nat}(h:¬most<0)(h1:rD (gA b) 0 265=(l,0,p))(h2:rD (gA b) p 12=(l2,e,p2))(h3:¬e=0):fU b most=([],e):=by
 unfold fU;rw[aw h,h1,aw (λk=>k rfl),h2,ao h3]
theorem YG{b l l2:al}{most:Int}{p p2:Nat}(h:¬most<0)(h1:rD (gA b) 0 265=(l,0,p))(h2:rD (gA b) p 12=(l2,0,p2)):fU b most=sv l l2 (gA b) (most.toNat+1) most p2 []:=by
 unfold fU;rw[aw h,h1,aw (λk=>k rfl),h2,aw (λk=>k rfl)]
def acq(R:List bS×Int)(F:aR)(r:Value)(L:aR):Prop:=∃A' c',r= .tuple #[.slice A' (E R.1) c',ah R.2]∧L= .own 170 3 A' (E R.1) c' (lD R.1)::F
theorem abQ{b:al}{most:Int}(hm:most<0):aZ B w0 327 [.slice A (E b) c,ah most] F (acq (fU b most) F):=by
 rw[abN hm];refine fw func327 70 [0,1] ?_;refine cY ?_;refine aj (λnY=>?_) λnY=>?_
 ·refine bK ?_;refine aC 170 3 none (aF ?_);exact⟨none,0,rfl,rfl⟩
 ·exfalso;exact nY hm
theorem alm{b l:al}{most e:Int}{p:Nat}(hb:fo B w0 F A c b)(di:E b<=1000000)(hm:¬most<0)(h1:rD (gA b) 0 265=(l,e,p))(h2:¬e=0):
  aZ B w0 327 [.slice A (E b) c,ah most] F (acq (fU b most) F):=by
 have Av:=dW b;rw[YE hm h1 h2];refine fw func327 70 [0,1] ?_;refine cY ?_;refine aj (λnY=>?_) λnY=>?_
 ·exfalso;exact hm nY
 ·refine bF ?_;refine fh rfl (F7 hb di) λgr Ar cr=>ab (bx [(0,_)] [.pointer none,.pointer none,.pointer none] [0] [_,_,_] rfl rfl ag) rfl (bg λg16=>?_);refine bK ?_;refine ai rfl (Gr (k:=265) aa aa aa h1 h2) (cY ?_);refine ve [1,4,5,6,26] ?_;refine aF ?_;refine aj (λqy=>?_) λqy=>?_
  ·refine bO ?_;refine aq (.s3 (.refl _)) (aC 170 3 none ?_);refine aF ?_;exact⟨none,0,rfl,rfl⟩
  ·exfalso;exact qy h2
theorem aln{b l l2:al}{most e:Int}{p p2:Nat}(hb:fo B w0 F A c b)(di:E b<=1000000)(hm:¬most<0)(h1:rD (gA b) 0 265=(l,0,p))(h2:rD (gA b) p 12=(l2,e,p2))(h3:¬e=0):
  aZ B w0 327 [.slice A (E b) c,ah most] F (acq (fU b most) F):=by
 have Av:=dW b;have mP:p<=E (gA b):=by have:=Gs (q:=gA b) (p:=0) 265 aa;rw[h1]at this;exact this
 rw[YF hm h1 h2 h3];refine fw func327 70 [0,1] ?_;refine cY ?_;refine aj (λnY=>?_) λnY=>?_
 ·exfalso;exact hm nY
 ·refine bF ?_;refine fh rfl (F7 hb di) λgr Ar cr=>ab (bx [(0,_)] [.pointer none,.pointer none,.pointer none] [0] [_,_,_] rfl rfl ag) rfl (bg λg16=>?_);refine bK ?_;refine be adh rfl (BS (k:=265) aa aa aa h1) rfl ?_;rintro _ _ ⟨gs,Y,rfl,cO,ui⟩;obtain rfl:=cO.symm;refine cY ?_;refine ve [1,4,5,6,26] ?_;refine aF ?_;refine dw λqy=>?_;refine bI ?_;refine ai rfl (Gr (k:=12) mP aa aa h2 h3) (jt ?_);refine aj (λFa=>?_) λFa=>?_
  ·refine bF ?_;refine ve [4,5] ?_;refine bE ?_;refine aq (.s3 (dB _ _)) (aC 170 3 none ?_);refine aF ?_;exact⟨none,0,rfl,rfl⟩
  ·exfalso;exact Fa h3
theorem alo{b l l2:al}{most:Int}{p p2:Nat}(hb:fo B w0 F A c b)(di:E b<=1000000)(hm:¬most<0)(uj:most<=1000000)(h1:rD (gA b) 0 265=(l,0,p))(h2:rD (gA b) p 12=(l2,0,p2)):
  aZ B w0 327 [.slice A (E b) c,ah most] F (acq (fU b most) F):=by
 have Av:=dW b;have mP:p<=E (gA b):=by have:=Gs (q:=gA b) (p:=0) 265 aa;rw[h1]at this;exact this
 have Ts:p2<=E (gA b):=by have:=Gs (q:=gA b) (p:=p) 12 mP;rw[h2]at this;exact this
 have tT:E l=265:=by have:=DP (q:=gA b) (p:=0) (n:=265);rw[show(((265:Nat):Int))=265 from rfl,h1]at this;exact this rfl
 have rR:E l2=12:=by have:=DP (q:=gA b) (p:=p) (n:=12);rw[show(((12:Nat):Int))=12 from rfl,h2]at this;exact this rfl
 obtain⟨R,hR⟩:∃R,sv l l2 (gA b) (most.toNat+1) most p2 []=R:=⟨_,rfl⟩
 rw[YG hm h1 h2,hR];obtain⟨q,hq⟩:∃q,gA b=q:=⟨_,rfl⟩
 rw[hq]at Av mP Ts h1 h2 hR;have hnr:=F7 (B:=B) (w0:=w0) hb di;rw[hq]at hnr;refine fw func327 70 [0,1] ?_;refine cY ?_;refine aj (λnY=>?_) λnY=>?_
 ·exfalso;exact hm nY
 ·refine bF ?_;refine fh rfl (hnr) λgr Ar cr=>ab (bx [(0,_)] [.pointer none,.pointer none,.pointer none] [0] [_,_,_] rfl rfl ag) rfl (bg λg16=>?_);refine bK ?_;refine be adh rfl (BS (k:=265) aa aa aa h1) rfl ?_;rintro _ _ ⟨gs,Y,rfl,cO,ui⟩;obtain rfl:=cO.symm;refine cY ?_;refine ve [1,4,5,6,26] ?_;refine aF ?_;refine dw λqy=>?_;refine bI ?_;refine be adh rfl (BS (k:=12) mP aa aa h2) rfl ?_;rintro _ _ ⟨gf,Y2,rfl,cO,hcf⟩;obtain rfl:=cO.symm;refine jt ?_;refine dw λFa=>?_;obtain⟨K,hK⟩:=cK (Y2++(Y++F));have Ly:x_ B w0 K gs l:=by rw[hK];exact ui.mono (.trans (wD Y F) (gL _ _))
  have Xa:x_ B w0 K gf l2:=by rw[hK];exact hcf.mono (wD _ _)
  have Ic:Wk K F:=by rw[hK];exact(dB _ _).trans (dB _ _)
  rw[<-hK];refine a_ 170 3 none (vy (L':=.own 170 3 none 0 0 []::Rk (br gs) (br gf) g16 gr Ar cr q p2 K) (.refl _) (b7 ?_));refine aD (λzf zL zm=>∃(f:Nat) (m:Int) (pp:Nat) (acc:List bS) (A':bk) (c':Nat),(0<=m∧m<f∧m<=1000000∧pp<=E q∧sv l l2 q f m pp acc=R∧E acc+m<=most)∧f=zm∧Sub zf [(1,ah m),(4,.slice A' (E acc) c'),(6,br g16)]∧Wk zL (.own 170 3 A' (E acc) c' (lD acc)::Rk (br gs) (br gf) g16 gr Ar cr q pp K)) _ ⟨most.toNat+1,most,p2,[],none,0,⟨aa,aa,aa,Ts,hR,ak⟩,rfl,bp,.refl _⟩ ?_;rintro _ _ _ ⟨f,m,pp,acc,A',c',⟨hm0,hmf,hm6,hpq,xy,Hu⟩,rfl,hs,hp⟩;refine aT hs hp (bc ?_);obtain⟨f',rfl⟩:∃f',f=f'+1:=⟨f-1,aa⟩
  have ajI:=Q_ (sl:=l) (fl:=l2) hpq tT rR;obtain⟨⟨t,ok,e,p3⟩,hT⟩:∃x,kM l l2 q pp=x:=⟨_,rfl⟩
  rw[hT]at ajI;simp only at ajI;refine bc ?_;refine ai rfl (.perm (agx hpq aa Ly.cons Xa.cons tT rR hT) ((mC (mC (mC (fV (.refl _))))))) (b7 ?_);refine bh λg7=>?_;refine cF ?_;refine aj (λZ5=>?_) λZ5=>?_
  ·have Z_:=Q8 xy hT Z5;subst Z_;refine cY ?_;refine aq (.s4 (.skip Ic)) (aC 170 3 none ?_);refine aF ?_;exact⟨none,0,rfl,rfl⟩
  ·obtain rfl:e=0:=bA Z5;refine bB ?_;refine ab (jm rfl) rfl (bc ?_);refine iH (λRH=>?_) λRH=>?_
   ·obtain rfl:ok=false:=by cases ok<;>simp at RH⊢
    have Z_:=Q7 xy hT;refine cY ?_;refine ai rfl (.perm (as4 q p3 ajI.2.2 aa) ((BQ (BQ (fV (fV (.refl _))))))) (aF ?_);refine ve [4,10] ?_;refine bI ?_;refine aj (λOT=>?_) λOT=>?_
    ·rw[aw OT]at Z_;subst Z_;refine bO ?_;refine aq (.s4 (.skip Ic)) (aC 170 3 none ?_);refine aF ?_;exact⟨none,0,rfl,rfl⟩
    ·rw[ao (bA OT)]at Z_;subst Z_;refine bz ?_;refine aq (.s4 (.cons Ic)) (aF ?_);exact⟨A',c',rfl,rfl⟩
   ·obtain rfl:ok=true:=by cases ok<;>simp at RH⊢
    refine bK ?_;refine ab (K6 rfl rfl) rfl (bc ?_);refine ve [1,4,6,7] ?_;refine bI ?_;refine aj (λS6=>?_) λS6=>?_
    ·have Z_:=Kl xy hT S6;subst Z_;refine cF ?_;refine aq (.s4 (.skip Ic)) (aC 170 3 none ?_);refine aF ?_;exact⟨none,0,rfl,rfl⟩
    ·have Tm:=YD xy hT S6;have xB:E (acc++[t])=E acc+1:=by simp
     refine bF ?_;refine sw amL rfl rfl rfl aa cw rfl rfl rfl (λ_=>rfl) aW aa aa ?_;intro _ A60 c60;refine bE ?_;refine av ⟨_,aa,f',m-max 1 t.2.1,p3,acc++[t],A60,c60,⟨aa,aa,aa,ajI.2.2,Tm,VO⟩,rfl,bp,.trans ((wu4 (gE (gE (gE (.skip (.refl _))))))) (az ak (by rw[Kn];rfl) (.refl _))⟩
theorem alp{b:al}{most:Int}(hb:fo B w0 F A c b)(di:E b<=1000000)(uj:most<=1000000):
  aZ B w0 327 [.slice A (E b) c,ah most] F (acq (fU b most) F):=by
 by_cases hm:most<0
 ·exact abQ hm
 ·obtain⟨⟨l,e,p⟩,h1⟩:∃x,rD (gA b) 0 265=x:=⟨_,rfl⟩
  by_cases he:e=0
  ·subst he;obtain⟨⟨l2,e2,p2⟩,h2⟩:∃x,rD (gA b) p 12=x:=⟨_,rfl⟩
   by_cases he2:e2=0
   ·subst he2;exact alo hb di hm uj h1 h2
   ·exact aln hb di hm h1 h2 he2
  ·exact alm hb di hm h1 he
end
section
theorem VP{P:Prop}(h:P:=by(rw[k3];exact hb.cons)):P:=h
theorem A_:aZ B w0 177 [br g] (Cv g A c s::F) (λr L=>r=ah s.at_∧L=Cv g A c s::F):=by
 refine fw func177 10 [0] ?_;refine aed ?_;exact⟨rfl,rfl⟩
theorem Cs.gI(s:Cs){m:Int}(h0:0<=m)(hm:m<=9223372036854775807):(s.int m:Int)<=m:=by
 unfold Cs.int;split
 ·omega
 ·have h:=jV s.rest m hm;by_cases he:(eM s.rest m).2.2=0
  ·exact h.2.2.2 he
  ·rw[(qd he).1];omega
theorem rM(s:Cs)(e:Int):(s.failed e).b=s.b:=by unfold Cs.failed;split<;>rfl
theorem ame(b:al):(WR b).b=b:=by
 unfold WR;split
 ·rw[rM];exact Cs.cQ _ _ _
 ·exact Cs.cQ _ _ _
theorem adT(b:al):(fr2 b).b=b:=by
 unfold fr2;exact(Cs.cQ _ _ _).trans (ame b)
theorem adU(b:al):(Hs b).b=b:=by
 unfold Hs;split
 ·rw[rM];exact(Cs.cQ _ _ _).trans (adT b)
 ·exact(Cs.cQ _ _ _).trans (adT b)
theorem adV(b:al):(ZT b).b=b:=by
 unfold ZT;exact(Cs.cQ _ _ _).trans ((Cs.cQ _ _ _).trans (adU b))
theorem arT(b:al):(yV b).b=b:=by
 unfold yV;split
 ·exact adV b
 ·rw[rM];exact adV b
theorem pS{b:al}(h:E b<=1099511627776):cu ⟨b,0,0⟩:=⟨bU _,h⟩
theorem adS{b:al}(h:E b<=1099511627776):cu (WR b):=by
 unfold WR;split
 ·exact(pS h).e_.failed _
 ·exact(pS h).e_
theorem SV{b:al}(h:E b<=1099511627776):cu (fr2 b):=(adS h).bZ aa
theorem Lm{b:al}(h:E b<=1099511627776):cu (Hs b):=by
 unfold Hs;split
 ·exact((SV h).bZ aa).failed _
 ·exact(SV h).bZ aa
theorem SW{b:al}(h:E b<=1099511627776):cu (ZT b):=(Lm h).cj.cj
theorem anL{b:al}(h:E b<=1099511627776):cu (yV b):=by
 unfold yV;split
 ·exact SW h
 ·exact(SW h).failed _
theorem nr{s s':Cs}{L L':aR}(h:s=s')(k:Wk L L'):Wk (Cv g A c s::L) (Cv g A c s'::L'):=by subst h;exact k.cons
abbrev Fb(g gc:Nat)(w n p:Nat)(bd:Value):Ch:=.bG g 379 [br gc,ah w,ah n,ah p,bd]
theorem ajf{b:al}(hb:fo B w0 F A c b)(di:E b<=1099511627776):
  aZ B w0 301 [br g] (Fb g gc 0 0 0 (.slice none 0 0)::Cv gc A c ⟨b,0,0⟩::F)
   (λr L=>r= .tuple #[]∧L=Fb g gc (Cs.byte ⟨b,0,0⟩).toNat (frN b) (Bd b) (.slice none 0 0)::Cv gc A c (Hs b)::F):=by
 have hx:=r' (Cs.byte ⟨b,0,0⟩);obtain⟨x,hxx⟩:=cK ((Cs.byte ⟨b,0,0⟩).toNat);have hN:((frN b:Nat):Int)<=32768:=Cs.gI _ aa aa;have hP:((Bd b:Nat):Int)<=32768:=Cs.gI _ aa aa;have k1:=ame b;have k2:=adT b;have k3:=adU b;rw[<-hxx]at hx⊢;refine fw func301 53 [0] ?_;refine bI ?_;refine ai rfl ((o_ (g:=gc) (pS di) (aM.cons hb)).perm ((mC (fV (.refl _))))) (ab (bm underlying5 underlying3 rfl (r:=(x:Int)) (by rw[hxx];exact bq aa aa)) rfl (bF ?_));refine dY (λzf zL=>Sub zf [(0,br g)]∧Wk zL (Cv gc A c (WR b)::Fb g gc x 0 0 (.slice none 0 0)::F)) ?_ ?_
 ·refine bO ?_;refine aj (λkF=>?_) λkF=>?_
  ·refine bF ?_;refine ai rfl (nQ 2) (ve [0] ?_);exact bC ⟨bp,nr (by unfold WR;rw[ao aa]) (.refl _)⟩
  ·refine aF ?_;exact bC ⟨bp,nr (by unfold WR;rw[aw aa]) (.refl _)⟩
 ·rintro _ _ ⟨hs,hp⟩;refine aT hs hp (aF ?_);have e2:fr2 b=(WR b).bZ 32768:=rfl;have eN:frN b=(WR b).int 32768:=rfl;have eP:Bd b=(fr2 b).int 32768:=rfl;refine bB ?_;refine ai rfl (ja (s:=WR b) (adS di) (by rw[k1];exact hb.cons) aa aa) (bB ?_);rw[<-eN,<-e2];refine bB ?_;refine ai rfl (ja (s:=fr2 b) (SV di) (by rw[k2];exact hb.cons) aa aa) (bB ?_);rw[<-eP];refine bO ?_;refine bL (eH rfl rfl (r:=((1032*Bd b:Nat):Int)) ((bq aa aa).trans aa)) rfl (bL (bJ rfl rfl (r:=((1032*Bd b+64:Nat):Int)) ((bq aa aa).trans aa)) rfl (aF ?_));refine lO [(0,_),(47,_)] ⟨rfl,rfl,trivial⟩ ?_;refine aF ?_;refine aj (λW5=>?_) λW5=>?_
  ·refine bF ?_;refine ai rfl (nQ 6) (bc ?_);refine aq (.trans (nr (s':=Hs b) (by unfold Hs;rw[ao aa]) (.refl _)) (.swap (.refl _))) (aF ?_);exact⟨rfl,rfl⟩
  ·refine bc ?_;refine aq (.trans (nr (s':=Hs b) (by unfold Hs;rw[aw aa]) (.refl _)) (.swap (.refl _))) (aF ?_);exact⟨rfl,rfl⟩
theorem Sn{l:al}{n:Nat}{xs:cZ}(HT:bM B w0)(e1:n=E l)(e2:xs=bv l)(hb:aM B w0 F 1 (.slice A n c) n xs)(hl:E l<=1099511627776):
  aZ B w0 176 [.slice A n c] F (λr L=>∃A' c',r= .tuple #[.slice A' (E (aH l).1) c',ah (aH l).2]∧L= .own 5 1 A' (E (aH l).1) c' (bv (aH l).1)::F):=by
 subst e1;subst e2;exact xl HT hb hl
theorem ajj(HT:bM B w0){b:al}{w n:Nat}(hb:fo B w0 F A c b)(pB:fo B w0 F A2 c2 b)(di:E b<=1099511627776):
  aZ B w0 302 [br g,.slice A2 (E b) c2] (Fb g gc w n (Bd b) (.slice none 0 0)::Cv gc A c (Hs b)::F)
   (λr L=>r= .tuple #[]∧∃A' c',L=Fb g gc w n (Bd b) (.slice A' (E (RE b)) c')::Cv gc A c (yV b):: .own 5 1 A' (E (RE b)) c' (bv (RE b))::F):=by
 have hP:((Bd b:Nat):Int)<=32768:=Cs.gI _ aa aa;have k3:=adU b;have k4:=adV b;have o4:=SW di;have o4a:=o4.at_;rw[k4]at o4a;obtain⟨s4,M6⟩:=cK ((Hs b).cj (Bd b));have o4':cu s4:=by rw[M6];exact(Lm di).cj
 have k4':s4.b=b:=by rw[M6];exact(Cs.cQ _ _ _).trans k3
 have e4:ZT b=s4.cj 4:=by rw[M6];rfl
 have e5:RE b=(Hs b).take (Bd b):=rfl;refine dU.yw pB.cons.cons λnZ _=>?_;refine fw func302 46 [0,1] ?_;refine aF ?_;refine cE F ?_;refine ae 0 ?_;refine ae 1 ?_;refine ae 2 ?_;refine ae 3 ?_;refine ae 5 ?_;refine ae 6 ?_;refine ae 7 ?_;refine ib 4 8 ?_ ?_
 ·refine aF ?_;refine aA 8 (aF ?_);refine aA 9 (b8 rfl rfl ((mI (g:=gc) (s:=Hs b) (m:=Bd b) (Lm di) VP aa aa).perm ((mC (fV (.refl _))))) λCe KQ=>ae 10 ?_);refine ae 11 ?_;refine aA 12 (b7 ?_);rw[<-M6,<-e5];refine bF ?_;refine ay rfl (mI (g:=gc) (s:=s4) (m:=4) o4' (by rw[k4'];exact hb.cons.cons) aa aa) λVz Ho=>ve [0,1] ?_;refine bE ?_;rw[<-e4];refine bF ?_;refine ai rfl (gW) (bE ?_);refine aj (λrn=>?_) λrn=>?_
  ·refine bc ?_;refine aq (.trans (nr (s':=yV b) (by unfold yV;rw[ao rn]) (.refl _)) ((ur (eu (gE (.skip (.refl _))))))) (aF ?_);exact⟨rfl,Ce,KQ,rfl⟩
  ·refine bE ?_;obtain⟨m,hm⟩:=cK ((ZT b).at_);have xz:=pB.jv (k:=m) aa;rw[cH]at xz;refine bB ?_;refine ai rfl (A_) (ab (bV (i:=m) (size:=1) underlying27 ag rfl rfl aa aa) rfl (ay rfl (Sn (l:=b.take m) HT nf (by simp[bv,p_]) xz.cons.cons.cons.cons nf) λA37 c37=>bF ?_));refine ve [0,5] ?_;refine bI ?_;refine ai rfl ((nQ (aH (b.take m)).2).perm ((mC (fV (.refl _))))) (bc ?_);refine aq (.trans (nr (s':=yV b) (by unfold yV;rw[aw rn,hm]) (.refl _)) ((wu4 (eu (sE (.s2 (.refl _))))))) (aF ?_);exact⟨rfl,Ce,KQ,rfl⟩
 ·refine aF ?_;refine aA 4 (aF ?_);refine aA 9 (b8 rfl rfl ((mI (g:=gc) (s:=Hs b) (m:=Bd b) (Lm di) VP aa aa).perm ((mC (fV (.refl _))))) λCe KQ=>ae 10 ?_);refine ae 11 ?_;refine aA 12 (b7 ?_);rw[<-M6,<-e5];refine bF ?_;refine ay rfl (mI (g:=gc) (s:=s4) (m:=4) o4' (by rw[k4'];exact hb.cons.cons) aa aa) λVz Ho=>ve [0,1] ?_;refine bE ?_;rw[<-e4];refine bF ?_;refine ai rfl (gW) (bE ?_);refine aj (λrn=>?_) λrn=>?_
  ·refine bc ?_;refine aq (.trans (nr (s':=yV b) (by unfold yV;rw[ao rn]) (.refl _)) ((ur (eu (gE (.skip (.refl _))))))) (aF ?_);exact⟨rfl,Ce,KQ,rfl⟩
  ·refine bE ?_;obtain⟨m,hm⟩:=cK ((ZT b).at_);have xz:=pB.jv (k:=m) aa;rw[cH]at xz;refine bB ?_;refine ai rfl (A_) (ab (bV (i:=m) (size:=1) underlying27 ag rfl rfl aa aa) rfl (ay rfl (Sn (l:=b.take m) HT nf (by simp[bv,p_]) xz.cons.cons.cons.cons nf) λA37 c37=>bF ?_));refine ve [0,5] ?_;refine bI ?_;refine ai rfl ((nQ (aH (b.take m)).2).perm ((mC (fV (.refl _))))) (bc ?_);refine aq (.trans (nr (s':=yV b) (by unfold yV;rw[aw rn,hm]) (.refl _)) ((wu4 (eu (sE (.s2 (.refl _))))))) (aF ?_);exact⟨rfl,Ce,KQ,rfl⟩
theorem aj9{q:List Bool}{fl:al}{p b:Nat}(hb:b<=7)(hp:p<=E q)(lg:E fl=12):0<=(nG fl q p ((257+b:Nat):Int)).1.2.2∧(nG fl q p ((257+b:Nat):Int)).1.2.2<=5000:=by
 by_cases h1:sS q p b=0
 ·obtain⟨p1,CC⟩:∃x,i_ q p b=x:=⟨_,rfl⟩
  have aaj:p1<=E q:=by rw[<-CC];exact rl _ hp
  have kN:=vR fl q aaj;obtain⟨⟨k,e,p2⟩,hH⟩:∃x,fM fl q p1=x:=⟨_,rfl⟩
  rw[hH]at kN;simp only at kN;by_cases h2:e=0
  ·subst h2;obtain⟨s,rfl,hs,_⟩:=kN.2.2.1 rfl;have Xi:=Bi q p2 (n:=s) aa;have Am:2^s<=2048:=gJ (n:=2) aa (by omega:s<=11);by_cases h3:sS q p2 s=0
   ·rw[T7 h1 CC hH h3];exact⟨dh,dh⟩
   ·rw[T6 h1 CC hH h3];exact⟨dh,dh⟩
  ·rw[T5 h1 CC hH h2];exact⟨dh,dh⟩
 ·rw[T4 h1];exact⟨dh,dh⟩
theorem ali{q:List Bool}{sl fl:al}{p:Nat}(hp:p<=E q)(oC:E sl=265)(lg:E fl=12):0<=(kM sl fl q p).1.2.2∧(kM sl fl q p).1.2.2<=5000:=by
 have kN:=vR sl q hp;obtain⟨⟨k,e,p1⟩,hH⟩:∃x,fM sl q p=x:=⟨_,rfl⟩
 rw[hH]at kN;simp only at kN;by_cases h:¬e=0∨k=256
 ·rw[U_ hH h];exact⟨dh,dh⟩
 ·have he0:e=0:=bA λk=>h (.inl k);subst he0;obtain⟨s,rfl,hs,_⟩:=kN.2.2.1 rfl;by_cases h2:s<256
  ·rw[U' hH h2];exact⟨dh,dh⟩
  ·obtain⟨b,rfl⟩:∃b,s=257+b:=⟨s-257,aa⟩
   rw[Va hH];exact aj9 aa kN.2.1 lg
theorem Q6{q:List Bool}{sl fl:al}(oC:E sl=265)(lg:E fl=12):∀(f:Nat) (most:Int) (p:Nat) (acc:List bS),p<=E q->Yy acc->0<=most->
  (E (sv sl fl q f most p acc).1:Int)<=E acc+most∧Yy (sv sl fl q f most p acc).1
 |0,most,p,acc,hp,ha,h0=>⟨by simp[sv];omega,λt h=>kC⟩
 |f+1,most,p,acc,hp,ha,h0=>by
  have h1:=Q_ (sl:=sl) (fl:=fl) hp oC lg;have h2:=ali (sl:=sl) (fl:=fl) hp oC lg;obtain⟨⟨t,ok,e,p2⟩,hT⟩:∃x,kM sl fl q p=x:=⟨_,rfl⟩
  rw[hT]at h1 h2;simp only at h1 h2;by_cases he:e=0
  ·subst he;cases ok with
   |false=>
    rw[Q7 rfl hT];split
    ·exact⟨dh,ha⟩
    ·exact⟨bT,λt h=>kC⟩
   |true=>
    by_cases hm:most-max 1 t.2.1<0
    ·rw[Kl rfl hT hm];exact⟨bT,λt h=>kC⟩
    ·rw[<-YD rfl hT hm];have:=Q6 oC lg f (most-max 1 t.2.1) p2 (acc++[t]) h1.2.2 (λu hu=>by
      rcases dz.1 hu with hu|hu
      ·exact ha u hu
      ·rw[me.1 hu];exact⟨⟨aa,aa⟩,aa,aa⟩) aa
     rw[aX,qM]at this;exact⟨by have:=this.1;omega,this.2⟩
  ·rw[Q8 rfl hT he];exact⟨bT,λt h=>kC⟩
theorem abM{b:al}{most:Int}(h0:0<=most):(E (fU b most).1:Int)<=most∧Yy (fU b most).1:=by
 have Av:=dW b;obtain⟨⟨l,e,p⟩,h1⟩:∃x,rD (gA b) 0 265=x:=⟨_,rfl⟩
 by_cases he:e=0
 ·subst he;obtain⟨⟨l2,e2,p2⟩,h2⟩:∃x,rD (gA b) p 12=x:=⟨_,rfl⟩
  by_cases he2:e2=0
  ·subst he2;have mP:p<=E (gA b):=by have:=Gs (q:=gA b) (p:=0) 265 aa;rw[h1]at this;exact this
   have Ts:p2<=E (gA b):=by have:=Gs (q:=gA b) (p:=p) 12 mP;rw[h2]at this;exact this
   have tT:E l=265:=by have:=DP (q:=gA b) (p:=0) (n:=265);rw[show(((265:Nat):Int))=265 from rfl,h1]at this;exact this rfl
   have rR:E l2=12:=by have:=DP (q:=gA b) (p:=p) (n:=12);rw[show(((12:Nat):Int))=12 from rfl,h2]at this;exact this rfl
   rw[YG aa h1 h2];have:=Q6 (q:=gA b) tT rR (most.toNat+1) most p2 [] Ts (λt h=>kC) h0;simpa using this
  ·rw[YF aa h1 h2 he2];exact⟨bT,λt h=>kC⟩
 ·rw[YE aa h1 he];exact⟨bT,λt h=>kC⟩
def FrA(R:al×Int)(B:Nat)(w0:World)(F:aR)(r:Value)(L:aR):Prop:=∃A' c' Y,r= .tuple #[.slice A' (E R.1) c',ah R.2]∧L=Y++F∧aM B w0 L 1 (.slice A' (E R.1) c') (E R.1) (bv R.1)
section
variable{w n p:Nat}{bd:al}
theorem arU(h:w=0)(h2:n≠p):OL w n p bd=([],2):=by unfold OL;rw[ao h,ao h2]
theorem arV(h:w=0)(h2:¬n≠p):OL w n p bd=(bd,0):=by unfold OL;rw[ao h,aw h2]
theorem arW(h:¬w=0)(h2:(fU bd n).2≠0):OL w n p bd=([],(fU bd n).2):=by unfold OL;rw[aw h,ao h2]
theorem arX(h:¬w=0)(h2:¬(fU bd n).2≠0)(h3:(k_ (fU bd n).1 n).2≠0):OL w n p bd=([],(k_ (fU bd n).1 n).2):=by unfold OL;rw[aw h,aw h2,ao h3]
theorem arY(h:¬w=0)(h2:¬(fU bd n).2≠0)(h3:¬(k_ (fU bd n).1 n).2≠0)(h4:E (k_ (fU bd n).1 n).1<n):OL w n p bd=([],2):=by unfold OL;rw[aw h,aw h2,aw h3,ao h4]
theorem arZ(h:¬w=0)(h2:¬(fU bd n).2≠0)(h3:¬(k_ (fU bd n).1 n).2≠0)(h4:¬E (k_ (fU bd n).1 n).1<n):OL w n p bd=((k_ (fU bd n).1 n).1,0):=by unfold OL;rw[aw h,aw h2,aw h3,aw h4]
end
theorem FrA.nil{R:al×Int}{r:Value}{L Y:aR}(h:R.1=[])(hr:r= .tuple #[.slice none 0 0,ah R.2])(hL:L=Y++F):FrA R B w0 F r L:=by
 obtain⟨l,e⟩:=R;simp only at h;subst h;exact⟨none,0,Y,hr,hL,aM.BI⟩
theorem adJ{w n p:Nat}{bd:al}(hb:fo B w0 F A c bd)(di:E bd<=1000000)(hn:n<=32768):
  aZ B w0 303 [br g] (Fb g gc w n p (.slice A (E bd) c)::F) (FrA (OL w n p bd) B w0 (Fb g gc w n p (.slice A (E bd) c)::F)):=by
 have hta:=abM (b:=bd) (most:=n) aa;refine fw func303 62 [0] ?_;refine jG ?_;refine aj (λpg=>?_) λpg=>?_
 ·refine ei ?_;refine aj (λju=>?_) λju=>?_
  ·refine b7 ?_;refine ve [2,3] ?_;refine bF ?_;rw[arU aa aa];exact FrA.nil (Y:=[]) rfl rfl rfl
  ·refine bz ?_;refine ve [2,3] ?_;refine b7 ?_;rw[arV aa aa];exact⟨A,c,[],rfl,rfl,hb.cons⟩
 ·refine bE ?_;refine cE (Fb g gc w n p (.slice A (E bd) c)::F) ?_;refine ae 0 ?_;refine ae 1 ?_;refine ae 2 ?_;refine ae 3 ?_;refine ae 4 ?_;refine ae 5 ?_;refine ae 6 ?_;refine ae 7 ?_;refine aA 8 (b8 rfl rfl (alp (b:=bd) (most:=n) hb.cons di aa) λxc yb=>ae 9 ?_);refine ae 10 ?_;refine ae 11 ?_;refine ae 12 ?_;refine ae 13 ?_;refine cP [0,4,5] ?_;refine bK ?_;refine aj (λDz=>?_) λDz=>?_
  ·refine bz ?_;rw[arW aa Dz];exact FrA.nil (Y:=[_]) rfl rfl rfl
  ·refine bO ?_;refine ay rfl (api (l:=(fU bd n).1) (most:=n) (aM.own (.head _)) aa aa aa hta.2) λA46 c46=>jG ?_;refine aj (λRH=>?_) λRH=>?_
   ·refine bF ?_;refine ve [2,3] ?_;refine bF ?_;rw[arX aa Dz RH];exact FrA.nil (Y:=[_,_]) rfl rfl rfl
   ·refine bz ?_;refine ve [6,53] ?_;refine aF ?_;refine aj (λh53=>?_) λh53=>?_
    ·refine bz ?_;rw[arY aa Dz RH aa];exact FrA.nil (Y:=[_,_]) rfl rfl rfl
    ·refine cF ?_;rw[arZ aa Dz RH aa];exact⟨A46,c46,[_,_],rfl,rfl,aM.own (.head _)⟩
theorem Jm(s:Cs)(n:Nat):E (s.take n)<=n:=by
 unfold Cs.take;split
 ·simp
 ·split
  ·simp
  ·rw[eY];omega
def OpA(b:al)(B:Nat)(w0:World)(F:aR)(r:Value)(L:aR):Prop:=
 if (yV b).e≠0 then r= .tuple #[.pointer none,.slice none 0 0,ah (yV b).e]∧L=F
 else∃A' c' g gc Ac cc M w n p bd,r= .tuple #[br g,.slice A' (E (M1 b).1) c',ah (M1 b).2]∧L=Fb g gc w n p bd::Cv gc Ac cc (yV b)::M∧Wk M F∧aM B w0 L 1 (.slice A' (E (M1 b).1) c') (E (M1 b).1) (bv (M1 b).1)
theorem WQ(HT:bM B w0){b:al}(hb:fo B w0 F A c b)(di:E b<=1000000):
  aZ B w0 272 [.slice A (E b) c] F (OpA b B w0 F):=by
 have hN:((frN b:Nat):Int)<=32768:=Cs.gI _ aa aa;have hB:E (RE b)<=1000000:=by
  have h1:=Jm (Hs b) (Bd b);have h2:RE b=(Hs b).take (Bd b):=rfl;have h3:((Bd b:Nat):Int)<=32768:=Cs.gI _ aa aa;rw[h2];omega
 refine fw func272 34 [0] ?_;refine bz ?_;refine fh rfl (nC hb aa) λgn An cn=>ab (bx [(0,_)] [.pointer none,ah 0,ah 0,ah 0,.slice none 0 0] [0] [_,_,_,_,_] rfl rfl ag) rfl (bg λHt=>?_);refine bB ?_;refine ai rfl (ajf (b:=b) (aM.own (.head _)) aa) (bB ?_);refine be arB rfl (ajj HT (b:=b) (aM.own (.head _)) hb.cons aa) rfl ?_;rintro _ _ ⟨rfl,Ab,cb,cO⟩;obtain rfl:=cO.symm;refine bO ?_;refine ai rfl ((gW).perm ((mC (fV (.refl _))))) (aF ?_);refine ve [5,6] ?_;refine bI ?_;refine aj (λoB=>?_) λoB=>?_
 ·refine bz ?_;refine aq (.s4 (.refl _)) (aF ?_);unfold OpA;rw[ao oB];exact⟨rfl,rfl⟩
 ·refine bF ?_;refine be arC rfl (.perm (adJ (bd:=RE b) (aM.own (.tail _ (.head _))) hB aa) ((mC (fV (.refl _))))) rfl ?_;rintro _ _ ⟨Ar,cr,Y,rfl,cO,DA⟩;obtain rfl:=cO.symm;refine sR ?_;have Ia:=oV Y [Fb Ht gn (Cs.byte ⟨b,0,0⟩).toNat (frN b) (Bd b) (.slice Ab (E (RE b)) cb),Cv gn An cn (yV b)] (.own 5 1 Ab (E (RE b)) cb (bv (RE b)):: .own 5 1 An (E b) cn (bv b)::F);refine aq (.dK Ia) (aF ?_);unfold OpA;rw[aw oB];exact⟨Ar,cr,Ht,gn,An,cn,_,_,_,_,_,rfl,rfl,(dB Y _).trans (.s2 (.refl F)),DA.perm Ia⟩
theorem Gg(most:Int):∀(l:List bS) (out:al),(E out:Int)<=most->(E (iv most out l).1:Int)<=most
 |[],out,h=>by simpa[iv]using h
 |t::r,out,h=>by
  by_cases h1:fm t
  ·by_cases h2:(E out:Int)<t.2.2
   ·rw[JZ most h1 h2];simp;omega
   ·by_cases h3:most-E out<max 1 t.2.1
    ·rw[Gh most h1 h2 h3];simp;omega
    ·by_cases h4:t.2.1=0
     ·rw[J0 most h1 h2 h3 h4];exact Gg most r _ VO
     ·rw[Gf most h1 h2 h3 h4];exact Gg most r _ (by rw[pq];omega)
  ·rw[JY most h1];simp;omega
theorem aji{w n p:Nat}{bd:al}:E (OL w n p bd).1<=max n (E bd):=by
 unfold OL;split
 ·split
  ·simp
  ·simp only;omega
 ·split
  ·simp
  ·split
   ·simp
   ·split
    ·simp
    ·have h:=Gg n (fU bd n).1 [] ak;unfold k_;rw[aw aa];simp only;omega
theorem WS(b:al):E (M1 b).1<=32768:=by
 have hN:((frN b:Nat):Int)<=32768:=Cs.gI _ aa aa;have hP:((Bd b:Nat):Int)<=32768:=Cs.gI _ aa aa;have h1:=Jm (Hs b) (Bd b);have h2:RE b=(Hs b).take (Bd b):=rfl;have h3:=aji (w:=(Cs.byte ⟨b,0,0⟩).toNat) (n:=frN b) (p:=Bd b) (bd:=RE b);rw[h2]at h3;unfold M1;rw[h2];omega
abbrev BlA(R:al×Nat×Int)(F:aR)(r:Value)(L:aR):Prop:=∃A' c',r= .tuple #[.slice A' (E R.1) c',ah (R.2.1:Int),ah R.2.2]∧L= .own 5 1 A' (E R.1) c' (bv R.1)::F
theorem aiF(HT:bM B w0){b:al}(hb:fo B w0 F A c b)(di:E b<=1000000)(h:(yV b).e≠0):
  aZ B w0 230 [.slice A (E b) c] F (BlA (dP b) F):=by
 have hop:=(WQ HT hb di).mono (R':=λr L=>r= .tuple #[.pointer none,.slice none 0 0,ah (yV b).e]∧L=F) λv L' k=>by unfold OpA at k;rw[ao h]at k;exact k
 refine fw func230 24 [0] ?_;refine bz ?_;refine ai rfl (hop) (jG ?_);refine aj (λkF=>?_) λkF=>?_
 ·refine bz ?_;refine aC 5 1 none (aF ?_);unfold dP;rw[ao h];exact⟨none,0,rfl,rfl⟩
 ·exfalso;exact kF h
def OpB(b:al)(B:Nat)(w0:World)(F:aR)(r:Value)(L:aR):Prop:=
 ∃A' c' g gc Ac cc M w n p bd,r= .tuple #[br g,.slice A' (E (M1 b).1) c',ah (M1 b).2]∧L=Fb g gc w n p bd::Cv gc Ac cc (yV b)::M∧Wk M F∧aM B w0 (Fb g gc w n p bd::Cv gc Ac cc (yV b)::M) 1 (.slice A' (E (M1 b).1) c') (E (M1 b).1) (bv (M1 b).1)
theorem aiG(HT:bM B w0){b:al}(hb:fo B w0 F A c b)(di:E b<=1000000)(h:¬(yV b).e≠0):
  aZ B w0 230 [.slice A (E b) c] F (BlA (dP b) F):=by
 have hop:=(WQ HT hb di).mono (R':=OpB b B w0 F) λv L' k=>by
  unfold OpA at k;rw[aw h]at k;obtain⟨A',c',g,gc,Ac,cc,M,w,n,p,bd,h1,h2,h3,h4⟩:=k;rw[h2]at h4;exact⟨A',c',g,gc,Ac,cc,M,w,n,p,bd,h1,h2,h3,h4⟩
 refine fw func230 24 [0] ?_;refine bz ?_;refine be ary rfl (hop) rfl ?_;rintro _ _ ⟨Ao,co,go,gc,Ac,cc,M,w,n,p,bd,rfl,cO,hM,hbo⟩;obtain rfl:=cO.symm;refine jG ?_;refine aj (λkF=>?_) λkF=>?_
 ·refine bz ?_;refine aq (.skip (.skip hM)) (aC 5 1 none ?_);refine aF ?_;unfold dP;rw[aw h,ao kF];exact⟨none,0,rfl,rfl⟩
 ·refine bE ?_;refine cE (Fb go gc w n p bd::Cv gc Ac cc (yV b)::M) ?_;refine ae 0 ?_;refine ae 2 ?_;refine ae 3 ?_;refine ae 4 ?_;refine ae 5 ?_;refine aA 1 (b8 rfl rfl (mG (M1 b).1 hbo (by have:=WS b;omega)) λtP vH=>aA 6 (js rfl rfl ((A_).jD ((BQ (fV (fV (.refl _)))))) (ae 7 ?_)));refine ae 8 ?_;refine ae 9 ?_;refine cP [2,3,4] ?_;refine bc ?_;refine aq (.cons (.skip (.skip hM))) (aF ?_);unfold dP;rw[aw h,aw kF];exact⟨tP,vH,rfl,rfl⟩
theorem aiH(HT:bM B w0){b:al}(hb:fo B w0 F A c b)(di:E b<=1000000):
  aZ B w0 230 [.slice A (E b) c] F (BlA (dP b) F):=by
 by_cases h:(yV b).e≠0
 ·exact aiF HT hb di h
 ·exact aiG HT hb di h
end
theorem kQ{L:List aJ}(hc:cV L=0)(hx:∀x∈L,x.1<18446744073709551616):E L<=20000∧(∀x∈L,x.fits)∧dN L<=1048576:=by
 unfold cV at hc;have:¬(20000<E L∨(∃x∈L,u5 x)∨1048576<dN L):=λh=>by rw[ao h]at hc;simp at hc
 refine⟨aa,λx h=>⟨hx x h,?_,?_⟩,aa⟩
 ·exact wY λk=>this (.inr (.inl ⟨x,h,.inl k⟩))
 ·exact wY λk=>this (.inr (.inl ⟨x,h,.inr k⟩))
theorem xL{v:Int}{o:aN}(hv:v=1∨v=2∨v=3)(h:ct v o=0):jB v o:=by
 unfold ct at h;rw[ao hv]at h;exact bA λk=>by rw[aw k]at h;simp at h
structure Left(S:Nat)(b pl:Bool)(full acc:al)(L R:List aJ)(ns:bf):Prop where
 all:acc++(jS b pl ns R).flatten=full
 fit:D3 S (lens b R) ns
 sub:∀x∈R,x∈L
 w:dN R<=dN L
theorem Left.step{S:Nat}{b pl:Bool}{full acc:al}{L R:List aJ}{n:Nat}{ns:bf}(h:Left S b pl full acc L R (n::ns))(hS:S<=32768)(hL:∀x∈L,x.fits):
  1<=n∧n<=E R∧E (dm b (R.take n))<=32768∧Left S b pl full (acc++(jY (dm b (R.take n)) pl).1) L (R.drop n) ns:=by
 obtain⟨f1,f2,f3,f4,f5⟩:=h.fit;rw[eK]at f2;refine⟨f1,f2,pz hS (λx hx=>hL x (h.sub x hx)) f1 f3,⟨?_,VN,λx hx=>h.sub x (r8 hx),jz (Kt R n) h.w⟩⟩;rw[<-h.all,bX];rfl
theorem Ed{b:al}{pl:Bool}(h:E b<=32768):E (jY b pl).1<=33000∧(jY b pl).2=0:=by
 have hy:=yu b pl;have e1:=aV (x:=E b) aa;have e2:=aV (x:=E (kP b pl).2) aa;rw[KH aa];refine⟨?_,rfl⟩;rw[dA,aX];unfold yr;rw[dI,aX];omega
abbrev Nc(R:al×Int)(F:aR)(r:Value)(L:aR):Prop:=∃A' c',r= .tuple #[.slice A' (E R.1) c',ah R.2]∧L= .own 5 1 A' (E R.1) c' (bv R.1)::F
theorem aa2{o:aN}{L:List aJ}(h:ct 1 o≠0):aZ B w0 26 [.agg (aN.cells o).toArray,.slice A (E L) c] F (Nc (ua o L) F):=by
 have e:ua o L=([],ct 1 o):=by unfold ua;rw[ao h]
 rw[e];obtain⟨bl,pl,bu,da,pa,ch⟩:=o;refine b_ func26 80 rfl rfl rfl [(0,.agg #[ah bl,.bool pl,ah bu,ah da,ah pa,ah ch]),(1,.slice A (E L) c)] ⟨⟨rfl,rfl⟩,⟨rfl,rfl⟩,trivial⟩ ?_;refine bc ?_;refine bg λg2=>?_;refine bK ?_;refine ai rfl (kY 1 (bl,pl,bu,da,pa,ch)) (bO ?_);refine aj (λiC=>?_) λiC=>?_
 ·refine bO ?_;refine aq (.skip (.refl _)) (aC 5 1 none ?_);refine aF ?_;exact⟨none,0,rfl,rfl⟩
 ·exfalso;exact iC h
theorem aa3{o:aN}{L:List aJ}(h:¬ct 1 o≠0)(hc:cV L≠0)(hb:aM B w0 F 4 (.slice A (E L) c) (E L) (c_ L)):aZ B w0 26 [.agg (aN.cells o).toArray,.slice A (E L) c] F (Nc (ua o L) F):=by
 have e:ua o L=([],cV L):=by unfold ua;rw[aw h,ao hc]
 rw[e];obtain⟨bl,pl,bu,da,pa,ch⟩:=o;refine b_ func26 80 rfl rfl rfl [(0,.agg #[ah bl,.bool pl,ah bu,ah da,ah pa,ah ch]),(1,.slice A (E L) c)] ⟨⟨rfl,rfl⟩,⟨rfl,rfl⟩,trivial⟩ ?_;refine bc ?_;refine bg λg2=>?_;refine bK ?_;refine ai rfl (kY 1 (bl,pl,bu,da,pa,ch)) (bO ?_);refine aj (λiC=>?_) λiC=>?_
 ·exfalso;exact h iC
 ·refine bB ?_;refine ai rfl (pF L hb.cons) (bO ?_);refine aj (λmB=>?_) λmB=>?_
  ·refine bO ?_;refine aq (.skip (.refl _)) (aC 5 1 none ?_);refine aF ?_;exact⟨none,0,rfl,rfl⟩
  ·exfalso;exact mB hc
theorem OR{S:Nat}{b:Bool}{L:List aJ}{gs:bf}(he:jT S (lens b L)=gs)(hb:aM B w0 F 4 (.slice A (E L) c) (E L) (c_ L))(hx:∀x∈L,x.1<18446744073709551616)(hw:dN L<=1000000000)(hS:1<=S)(hS2:S<=9223372036854775807):
  aZ B w0 43 [ah (S:Int),.bool b,.slice A (E L) c] F (λr K=>∃A' c',r= .slice A' (E gs) c'∧K= .own 3 1 A' (E gs) c' (bD gs)::F):=by
 have:=ad9 (B:=B) (w0:=w0) (F:=F) (S:Int) b L hb hx hw S aa hS2;rw[he]at this;exact this
theorem akK(b:Bool){R:List aJ}{k:Nat}(hk:k<=E R)(hb:aM B w0 F 4 (.slice A (E R) c) (E R) (c_ R))(hx:∀x∈R,x.1<18446744073709551616)(hw:dN R<=1048576):
  aZ B w0 45 [.bool b,.slice A k c] F (λr K=>∃A' c',r= .slice A' (E (dm b (R.take k))) c'∧K= .own 5 1 A' (E (dm b (R.take k))) c' (bv (dm b (R.take k)))::F):=by
 have h:=hb.jv hk;rw[BX]at h;have hl:k=E (R.take k):=by rw[eY];omega
 have hd:=J4 (B:=B) (w0:=w0) (F:=F) (A:=A) (c:=c) b (R.take k) (by rw[<-hl];exact h) (λx hxx=>hx x (my hxx)) (by have:=nU R k;omega);rw[<-hl]at hd;exact hd
theorem aoN{v:Int}{l:al}(h:qR v=(l,0)):aZ B w0 62 [ah v] F (λr L=>∃A' c',r= .tuple #[.slice A' (E l) c',ah 0]∧L= .own 5 1 A' (E l) c' (bv l)::F):=by
 have:=T3 (B:=B) (w0:=w0) (F:=F) v;rw[h]at this;exact this
theorem aj8{v:Int}(h:DW v 1 3):qR v=(ef++[UInt8.ofNat v.toNat],0):=by unfold qR;rw[ao h]
theorem aa4(HT:bM B w0){o:aN}{L:List aJ}(h:¬ct 1 o≠0)(hc:¬cV L≠0)(hx:∀x∈L,x.1<18446744073709551616)(hb:aM B w0 F 4 (.slice A (E L) c) (E L) (c_ L)):aZ B w0 26 [.agg (aN.cells o).toArray,.slice A (E L) c] F (Nc (ua o L) F):=by
 have e:ua o L=(ru o L,0):=by unfold ua;rw[aw h,aw hc]
 obtain⟨tT,rR,M4⟩:=kQ (bA hc) hx;have hom:=xL (.inl rfl) (bA h);obtain⟨⟨m1,m2⟩,_⟩:=hom;have DC:E (dV o true L)<=E L:=by unfold dV;have:=nD o.1.toNat (lens true L);rwa [eK]at this
 have O9:Left o.1.toNat true o.2.1 (t_ o L++(jS true o.2.1 (dV o true L) L).flatten) (t_ o L) L L (dV o true L):=⟨rfl,kT _ _,λx hx=>hx,gC _⟩
 rw[e];refine dU.yw hb λnZ _=>?_;obtain⟨bl,pl,bu,da,pa,ch⟩:=o;simp only at m1 m2 O9;obtain⟨S,rfl⟩:=gi (show 0<=bl by omega);rw[oo]at O9;obtain⟨gs,RP⟩:=cK (dV ((S:Int),pl,bu,da,pa,ch) true L);have ajD:jT S (lens true L)=gs:=by rw[RP];rfl
 have hH:t_ ((S:Int),pl,bu,da,pa,ch) L=(ef++[1])++(aS S++([fS pl]++(aS (E L)++aS (E gs)))):=by rw[RP];rfl
 rw[<-RP]at O9 DC;have hn1:=aV (x:=S) aa;have uK:=aV (x:=E L) aa;have hn3:=aV (x:=E gs) aa;have Xd:E (t_ ((S:Int),pl,bu,da,pa,ch) L)<=60:=by rw[hH];simp only[aX,ef,dI,sY];omega
 obtain⟨full,OY⟩:=cK (t_ ((S:Int),pl,bu,da,pa,ch) L++(jS true pl gs L).flatten);have hB:ru ((S:Int),pl,bu,da,pa,ch) L=cv full:=by rw[OY,RP];rfl
 rw[hB];rw[<-OY]at O9;refine b_ func26 80 rfl rfl rfl [(0,.agg #[ah (S:Int),.bool pl,ah bu,ah da,ah pa,ah ch]),(1,.slice A (E L) c)] ⟨⟨rfl,rfl⟩,⟨rfl,rfl⟩,trivial⟩ ?_;refine bc ?_;refine bg λg2=>?_;refine bK ?_;refine ai rfl (kY 1 ((S:Int),pl,bu,da,pa,ch)) (bO ?_);refine aj (λiC=>?_) λiC=>?_
 ·exfalso;exact h iC
 ·refine bB ?_;refine ai rfl (pF L hb.cons) (bO ?_);refine aj (λmB=>?_) λmB=>?_
  ·exfalso;exact hc mB
  ·refine bI ?_;refine ay rfl (OR ajD hb.cons hx aa aa aa) λCf Cq=>aF ?_;refine ve [1,2,8] ?_;refine bE ?_;refine ay rfl (aoN (l:=ef++[1]) (aj8 D8)) λRW c30=>bI ?_;refine dY (λzf zL=>∃(A9:bk) (c9:Nat),Sub zf [(1,.slice A (E L) c),(2,br g2),(8,.slice Cf (E gs) Cq),(9,.slice A9 (E (t_ ((S:Int),pl,bu,da,pa,ch) L)) c9)]∧Wk zL (.own 5 1 A9 (E (t_ ((S:Int),pl,bu,da,pa,ch) L)) c9 (bv (t_ ((S:Int),pl,bu,da,pa,ch) L)):: .own 3 1 Cf (E gs) Cq (bD gs):: .bG g2 23 [ah (S:Int),.bool pl,ah bu,ah da,ah pa,ah ch]::F)) ?_ ?_
   ·refine cE (.own 5 1 RW (E (ef++[1]:al)) c30 (bv (ef++[1])):: .own 3 1 Cf (E gs) Cq (bD gs):: .bG g2 23 [ah (S:Int),.bool pl,ah bu,ah da,ah pa,ah ch]::F) ?_;refine ae 0 ?_;refine ae 1 ?_;refine ae 2 ?_;refine aU 3 rfl (bm underlying3 underlying60 rfl (r:=(S:Int)) (gj aa aa)) (ae 5 ?_);refine ae 6 ?_;refine ae 9 ?_;refine ae 10 ?_;refine aU 11 rfl (bm underlying3 underlying60 rfl (r:=(E L:Int)) (gj aa aa)) (ae 13 ?_);refine ae 14 ?_;refine aU 15 rfl (bm underlying3 underlying60 rfl (r:=(E gs:Int)) (gj aa aa)) (aA 4 (b8 rfl rfl (jj S aa) λA37 c37=>aA 7 (js rfl rfl (anK pl) (ib 8 12 ?_ ?_))))
    ·refine cX rfl (aG cB [_] rfl rfl cw aa aa) λVA=>aA 12 (b8 rfl rfl (jj (E L) aa) λA45 c45=>aA 16 (b8 rfl rfl (jj (E gs) aa) λRx Rz=>aA 17 (cX rfl (aG fQ [_,_,_,_,_] rfl rfl cw aa aa) λC1=>aA 18 (b8 rfl rfl (KB (l1:=ef++[1]) (l2:=aS S) (l3:=[fS pl]) (l4:=aS (E L)) (l5:=aS (E gs)) aB aB aB aB aB aB hH aa) λA51 c51=>?_))));refine ae 19 ?_;refine cP [1,2,8,9] ?_;exact bC ⟨A51,c51,bp,(eu (wu6 (wu6 (.s6 (.refl _)))))⟩
    ·refine b8 rfl rfl (jj (E L) aa) λA45 c45=>ib 8 16 ?_ ?_
     ·refine cX rfl (aG cB [_] rfl rfl cw aa aa) λVA=>aA 16 (b8 rfl rfl (jj (E gs) aa) λRx Rz=>aA 17 (cX rfl (aG fQ [_,_,_,_,_] rfl rfl cw aa aa) λC1=>aA 18 (b8 rfl rfl (KB (l1:=ef++[1]) (l2:=aS S) (l3:=[fS pl]) (l4:=aS (E L)) (l5:=aS (E gs)) aB aB aB aB aB aB hH aa) λA51 c51=>?_)));refine ae 19 ?_;refine cP [1,2,8,9] ?_;exact bC ⟨A51,c51,bp,(eu (wu6 (wu6 (.s6 (.refl _)))))⟩
     ·refine b8 rfl rfl (jj (E gs) aa) λRx Rz=>aA 8 (cX rfl (aG cB [_] rfl rfl cw aa aa) λVA=>aA 17 (cX rfl (aG fQ [_,_,_,_,_] rfl rfl cw aa aa) λC1=>aA 18 (b8 rfl rfl (KB (l1:=ef++[1]) (l2:=aS S) (l3:=[fS pl]) (l4:=aS (E L)) (l5:=aS (E gs)) aB aB aB aB aB aB hH aa) λA51 c51=>?_)));refine ae 19 ?_;refine cP [1,2,8,9] ?_;exact bC ⟨A51,c51,bp,(eu (wu6 (wu6 (.s6 (.refl _)))))⟩
   ·rintro _ _ ⟨A9,c9,hs,hp⟩;refine aT hs hp (bO ?_);refine aD (λzf zL zm=>∃(k:Nat) (acc:al) (R:List aJ) (Ar:bk) (cr:Nat) (A':bk) (c':Nat),(k<=E gs∧Left S true pl full acc L R (gs.drop k)∧E R<=cr∧aM B w0 F 4 (.slice Ar (E R) cr) (E R) (c_ R)∧E acc<=60+33000*k)∧E gs-k=zm∧Sub zf [(1,.slice Ar (E R) cr),(2,br g2),(9,.slice A' (E acc) c'),(52,.slice Cf (E gs) Cq),(53,ah (E gs)),(54,ah k)]∧Wk zL (.own 5 1 A' (E acc) c' (bv acc):: .own 3 1 Cf (E gs) Cq (bD gs):: .bG g2 23 [ah (S:Int),.bool pl,ah bu,ah da,ah pa,ah ch]::F)) _ ⟨0,t_ ((S:Int),pl,bu,da,pa,ch) L,L,A,c,A9,c9,⟨bU _,O9,nZ,hb,aa⟩,rfl,bp,.refl _⟩ ?_;rintro _ _ _ ⟨k,acc,R,Ar,cr,A',c',⟨hk,O9,Tv,DA,Hu⟩,rfl,hs,hp⟩;refine aT hs hp (bB ?_);refine aj (λZ6=>?_) λZ6=>?_
    ·obtain⟨n,hn⟩:=cK (gs.getD k 0);have hgd:gs.drop k=n::gs.drop (k+1):=by rw[hn];exact dD aa 0
     rw[hgd]at O9;obtain⟨au4,ajG,aoj,aoc⟩:=O9.step aa rR;have hbw:=Ed (b:=dm true (R.take n)) (pl:=pl) aoj;have hxR:∀x∈R,x.1<18446744073709551616:=λx h=>hx x (O9.sub x h);have hwR:=O9.w;have hcut:=DA.cut ajG;have hdl:E (R.drop n)=E R-n:=iG;have xB:E (acc++(jY (dm true (R.take n)) pl).1)=E acc+E (jY (dm true (R.take n)) pl).1:=aX;rw[wg,<-hdl]at hcut;refine bI ?_;refine ab (au ag rfl aB aa (gv (v:=n) aa hn.symm)) rfl (b7 ?_);refine cE (.own 3 1 Cf (E gs) Cq (bD gs):: .bG g2 23 [ah (S:Int),.bool pl,ah bu,ah da,ah pa,ah ch]::F) ?_;refine ae 0 ?_;refine ae 1 ?_;refine aU 2 rfl (bV (i:=n) (size:=4) underlying24 ag rfl rfl rfl aa) (ae 4 ?_);refine ae 5 ?_;refine aA 3 (b8 rfl rfl (akK (R:=R) true ajG DA.cons.cons.cons hxR aa) λA62 c62=>aA 6 (b8 rfl rfl (NO HT (b:=dm true (R.take n)) (p:=pl) aB aa) λA65 c65=>?_));refine ae 7 ?_;refine ae 8 ?_;refine ae 9 ?_;refine ae 10 ?_;refine ae 11 ?_;refine bO ?_;refine aj (λh69=>?_) λh69=>?_
     ·exfalso;exact h69 hbw.2
     ·refine bB ?_;refine fK (bW cB rfl aW rfl aB cw aa aa) λA73 c73=>aF ?_;refine ve [1,2,9,12,52,53,54] ?_;refine b7 ?_;refine ab (bY (i:=n) (size:=4) underlying24 ag rfl rfl rfl aa) rfl (bK ?_);refine av ⟨_,aa,k+1,acc++(jY (dm true (R.take n)) pl).1,R.drop n,(if cr=n then Ar else Ar.map (·.add (n*4))),cr-n,A73,c73,⟨aa,aoc,aa,hcut,aa⟩,rfl,bp,.trans ((sE (sE (sE (.s2 (.refl _)))))) (az ak Co (.refl _))⟩
    ·obtain rfl:k=E gs:=by omega
     have hr0:=O9.all;rw[CM]at hr0;have uk:acc=full:=by rw[<-hr0];simp[jS]
     subst uk;refine bK ?_;refine ay rfl (rf HT (l:=acc) aB aa) λA79 c79=>bF ?_;refine aq (.cons (.s3 (.refl _))) (aF ?_);exact⟨A79,c79,rfl,rfl⟩
theorem aa5(HT:bM B w0){o:aN}{L:List aJ}(hx:∀x∈L,x.1<18446744073709551616)(hb:aM B w0 F 4 (.slice A (E L) c) (E L) (c_ L)):aZ B w0 26 [.agg (aN.cells o).toArray,.slice A (E L) c] F (Nc (ua o L) F):=by
 by_cases h:ct 1 o≠0
 ·exact aa2 h
 ·by_cases hc:cV L≠0
  ·exact aa3 h hc hb
  ·exact aa4 HT h hc hx hb
end Go.Proofs.YtaodmbolhoafcaaGreatDoor

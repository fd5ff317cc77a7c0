/-
  Texts of one proof, joined: part 10. No condition.
-/
import Derived.Test.YtaodmbolhoafcaaGreatDoorZr9
open Go.RowKit Go.Proofs.Tryz
namespace Go.Proofs.YtaodmbolhoafcaaGreatDoor
set_option linter.unusedVariables false
set_option linter.unusedSimpArgs false
set_option maxRecDepth 20000
variable{B:Nat}{w0:World}{F L:aR}{A A1 A2 Ao:bj}{n c c1 c2 co g g1 g2:Nat}{fl:al}{q:List Bool}{X:cV}{bt:TypeId}{s1 s2 s3 s4 s5:Value}{l l1 l2 l3 l4 l5:al}{M:aR}{A3:bj}{c3 gr gc:Nat}{s:Cs}
section
variable{sl:al}
theorem aa2{P:Prop}(h:P:=by(simp only at k;omega)):P:=h
theorem alp{v:Nat}(h:v≠0):Lw v=v.log2+1:=by
 unfold Lw;simp[h]
theorem Uv{v:Nat}(h1:v≠0)(h2:v<4096):a_ B w0 282 [ah v] F (fun r L=>r= .tuple #[ah (pU v),ah (JP v)]∧L=F):=by
 have hb:=JQ (v:=v) (k:=11) aa h1;have he:=QT h1;have dh:=alp h1;have Qd:pU v=v.log2:=rfl;refine fw func282 13 [0] ?_;refine bP ?_;refine ae (bw underlying3 underlying192 rfl (r:=(v:Int)) (ga aa aa)) rfl ?_;refine ai rfl (akr v aa) ?_;refine ae (dQ rfl rfl (r:=((pU v:Nat):Int)) ((bG aa aa).trans aa)) rfl ?_;refine bM ?_;refine bU (gb rfl rfl aa (r:=((2^pU v:Nat):Int)) (by have:=Pf (x:=1) (d:=pU v) (e:=(pU v:Int)) rfl aa aa;rw[rm]at this;exact this)) rfl ?_;refine bU (dQ rfl rfl (r:=((JP v:Nat):Int)) ((bG aa aa).trans aa)) rfl ?_;refine bB ?_;exact⟨rfl,rfl⟩
def SP(p:Qs):cV:=[ah (p.1:Int),ah (p.2.1:Int),ah (p.2.2.1:Int),ah (p.2.2.2:Int)]
theorem ZW{t:bN}(h:¬fa t):a_ B w0 245 [.agg (bN.cells t).toArray] F (fun r L=>r= .tuple #[.agg (SP (0,0,0,0)).toArray,ah 7]∧L=F):=by
 obtain⟨x,tn,td⟩:=t;refine cB func245 38 rfl rfl rfl [(0,.agg #[.int .u8 (x.toNat:Int),ah tn,ah td])] ⟨⟨rfl,rfl⟩,trivial⟩ ?_;refine be ?_;refine bf fun g1=>?_;refine bg fun g2=>?_;refine bD ?_;refine ai rfl (adG (x,tn,td)) ?_;refine bH ?_;refine aj (fun jB=>?_) fun jB=>?_
 ·refine be ?_;refine ae (cv [ah 0,ah 0,ah 0,ah 0] ag) rfl ?_;refine bB ?_;refine ao (.cons (.skip (.refl _))) ?_;refine gS rfl rfl ag aV gD rfl (.skip (.refl _)) ?_;exact⟨rfl,rfl⟩
 ·exfalso;exact jB h
theorem aeX{t:bN}(h:fa t):a_ B w0 245 [.agg (bN.cells t).toArray] F (fun r L=>r= .tuple #[.agg (SP (bJ t)).toArray,ah 0]∧L=F):=by
 obtain⟨x,tn,td⟩:=t;have hx:=x.toNat_lt;have hm:=fun h0=>EG (tl:=x) (tn:=tn) (td:=td) h h0;refine cB func245 38 rfl rfl rfl [(0,.agg #[.int .u8 (x.toNat:Int),ah tn,ah td])] ⟨⟨rfl,rfl⟩,trivial⟩ ?_;refine be ?_;refine bf fun g1=>?_;refine bg fun g2=>?_;refine bD ?_;refine ai rfl (adG (x,tn,td)) ?_;refine bH ?_;refine aj (fun jB=>?_) fun jB=>?_
 ·exfalso;exact jB h
 ·refine bz ?_;refine aj (fun jC=>?_) fun jC=>?_
  ·have hp:bJ (x,tn,td)=(x.toNat,0,0,0):=by unfold bJ;rw[aq jC]
   rw[hp];refine b8 ?_;refine ae (bw underlying5 underlying3 rfl (r:=(x.toNat:Int)) (bG aa aa)) rfl ?_;refine ae (br [(0,_)] [ah 0,ah 0,ah 0,ah 0] [0] [_,_,_,_] rfl rfl ag) rfl ?_;refine bB ?_;refine ao (.cons (.skip (.refl _))) ?_;refine gS rfl rfl ag aV gD rfl (.skip (.refl _)) ?_;exact⟨rfl,rfl⟩
  ·obtain⟨h1,h2,h3,h4,h5⟩:=hm jC;obtain⟨a,ha⟩:=cR ((tn-2).toNat);obtain⟨d,hd⟩:=cR (td.toNat);have hp:bJ (x,tn,td)=(257+pU a,JP a,pU d,JP d):=by unfold bJ;rw[aw jC,ha,hd]
   rw[hp];have hb:=JQ (v:=a) (k:=7) aa aa;refine bB ?_;refine ae (dQ rfl rfl (r:=(a:Int)) ((bG aa aa).trans aa)) rfl ?_;refine ai rfl (Uv (v:=a) aa aa) ?_;refine bz ?_;refine ae (bL (v:=ah (d:Int)) ag rfl aV (by show some (Value.int .i64 td)=_;congr 2;omega)) rfl ?_;refine ai rfl (Uv (v:=d) aa aa) ?_;refine bI ?_;refine ve [2,4,5,6,7] ?_;refine b8 ?_;refine ae (bY rfl rfl (r:=((257+pU a:Nat):Int)) ((bG aa aa).trans aa)) rfl ?_;refine bH ?_;refine ae (eG [(0,_),(1,_),(2,_),(3,_)] [_,_,_,_] rfl rfl ag) rfl ?_;refine bI ?_;refine ao (.cons (.skip (.refl _))) ?_;refine gS rfl rfl ag aV gD rfl (.skip (.refl _)) ?_;exact⟨rfl,rfl⟩
def cS(l:List bN)(s:Nat):Nat:=l.countP fun t=>(bJ t).1==s
def yQ(l:List bN):bc:=(List.range 265).map (cS l)
def po(l:List bN):bc:=(List.range 12).map (wH l)
@[simp] theorem Fx(l:List bN):(yQ l).length=265:=by simp[yQ]
@[simp] theorem xW(l:List bN):(po l).length=12:=by simp[po]
theorem yR(l:List bN){s:Nat}(h:s<265):(yQ l).getD s 0=cS l s:=by
 simp[yQ,bk,h]
theorem DR(l:List bN){s:Nat}(h:s<12):(po l).getD s 0=wH l s:=by
 simp[po,bk,h]
theorem agV(l:List bN)(t:bN)(s:Nat):cS (l++[t]) s=cS l s+if (bJ t).1=s then 1 else 0:=by
 unfold cS;rw[List.countP_append,Oc,List.countP_nil];simp
theorem HW(l:List bN)(t:bN)(s:Nat):wH (l++[t]) s=wH l s+if 256<(bJ t).1∧(bJ t).2.2.1=s then 1 else 0:=by
 unfold wH;rw[List.countP_append,Oc,List.countP_nil];simp
theorem Z6(l:List bN){t:bN}(h:(bJ t).1<265):(yQ l).set (bJ t).1 (cS l (bJ t).1+1)=yQ (l++[t]):=by
 apply p6
 ·simp
 ·intro i h1 h2;rw[Od];simp only[yQ,Eu,G4,agV];by_cases e:(bJ t).1=i
  ·subst e;rw[aq rfl,aq rfl]
  ·rw[aw e,aw e];rfl
theorem X9(l:List bN){t:bN}(h:256<(bJ t).1)(h2:(bJ t).2.2.1<12):(po l).set (bJ t).2.2.1 (wH l (bJ t).2.2.1+1)=po (l++[t]):=by
 apply p6
 ·simp
 ·intro i h3 h4;rw[Od];simp only[po,Eu,G4,HW];by_cases e:(bJ t).2.2.1=i
  ·subst e;rw[aq rfl,aq ⟨h,rfl⟩]
  ·rw[aw e,aw (fun k=>e k.2)];rfl
theorem X8(l:List bN){t:bN}(h:¬256<(bJ t).1):po (l++[t])=po l:=by
 unfold po;refine sa fun s _=>?_;rw[HW,aw (fun k=>h k.1)];rfl
theorem abn(l:List bN)(s:Nat):cS l s≤l.length:=adm
theorem Uy(l:List bN)(s:Nat):wH l s≤l.length:=adm
def Cl(l:List bN):bc:=(yQ l).set 256 (cS l 256+1)
@[simp] theorem Fy(l:List bN):(Cl l).length=265:=by simp[Cl]
theorem rB{t:bN}(h:fa t):(bJ t).1<265∧(bJ t).1≠256∧(256<(bJ t).1→(bJ t).2.2.1<12):=by
 by_cases h0:t.2.1=0
 ·rw[(vd h h0).1];have:=mH t.1;exact⟨cZ,cZ,fun k=>aa2⟩
 ·have:=nH h h0;exact⟨aa,aa,fun _=>aa⟩
theorem ai_{l:List bN}(h:∀t∈l,fa t):oN (Cl l)=JR l:=by
 funext s;unfold oN Cl JR;by_cases hs:s<265
 ·rw[bk,BG];by_cases e:256=s
  ·subst e;simp[cS]
  ·rw[aw e,←bk,yR l hs,aw (fun k=>e k.symm)];rfl
 ·rw[bk,zZ bO,aw aa];have:l.countP (fun t=>(bJ t).1==s)=0:=List.countP_eq_zero.2 fun t ht=>by
   have:=(rB (h t ht)).1;simp;omega
  rw[this];rfl
theorem ahm{l:List bN}(h:∀t∈l,fa t):oN (po l)=wH l:=by
 funext s;unfold oN;by_cases hs:s<12
 ·exact DR l hs
 ·rw[bk,zZ bO];have:wH l s=0:=List.countP_eq_zero.2 fun t ht=>by
   have:=(rB (h t ht)).2.2;simp only[z7,N6,beq_iff_eq,not_and];intro k;have:=this k;omega
  rw[this];rfl
def p9(L:bc):cV:=ints .u32 (L.map fun(n:Nat)=>(n:Int))
theorem FO(L:bc):(p9 L).length=L.length:=by simp[p9]
theorem Lf{L:bc}{k v:Nat}(h:k<L.length)(hv:L.getD k 0=v):(p9 L)[k*1]? =some (.int .u32 ((v:Nat):Int)):=by
 rw[←hv];exact FN h
theorem yV(L:bc)(k v:Nat):(p9 L).set (k*1) (.int .u32 (v:Int))=p9 (L.set k v):=by simp[p9,ints,Kx]
theorem TW{x:Int}(h1:0≤x)(h2:x<4294967296):IntKind.u32.wrap x=x:=by
 rw[IntKind.wrap_u32];omega
def aaL(l:List bN)(F:aR)(r:Value)(L:aR):Prop:=
 ∃A1 A2,r= .tuple #[.slice A1 265 265,.slice A2 12 12,ah 0]∧L= .own 135 1 A1 265 265 (p9 (Cl l)):: .own 135 1 A2 12 12 (p9 (po l))::F
def spP(t:bN):Qs:=if fa t then bJ t else (0,0,0,0)
def spE(t:bN):Int:=if fa t then 0 else 7
theorem afK(t:bN):a_ B w0 245 [.agg (bN.cells t).toArray] F (fun r L=>r= .tuple #[.agg (SP (spP t)).toArray,ah (spE t)]∧L=F):=by
 unfold spP spE;by_cases h:fa t
 ·rw[aq h,aq h];exact aeX h
 ·rw[aw h,aw h];exact ZW h
theorem PL{t:bN}{ps px pc py:Nat}(h:spP t=(ps,px,pc,py)):a_ B w0 245 [.agg (bN.cells t).toArray] F (fun r L=>r= .tuple #[.agg #[ah (ps:Int),ah (px:Int),ah (pc:Int),ah (py:Int)],ah (spE t)]∧L=F):=by
 have:=afK (B:=B) (w0:=w0) (F:=F) t;rw[h]at this;exact this
open Classical in
def CT(l:List bN)(F:aR)(r:Value)(L:aR):Prop:=if∀t∈l,fa t then aaL l F r L else r= .tuple #[.slice none 0 0,.slice none 0 0,ah 7]∧L=F
theorem vr(n:Nat):List.replicate n (Value.int .u32 0)=p9 (List.replicate n 0):=by simp[p9,ints]
theorem Pp:yQ []=List.replicate 265 0:=by
 unfold yQ cS;exact List.eq_replicate_iff.2 ⟨ak,fun b hb=>by
  obtain⟨s,_,rfl⟩:=pS.1 hb;rfl⟩
theorem Ni:po []=List.replicate 12 0:=by
 unfold po wH;exact List.eq_replicate_iff.2 ⟨ak,fun b hb=>by
  obtain⟨s,_,rfl⟩:=pS.1 hb;rfl⟩
theorem UG{l:List bN}(hb:aL B w0 F 3 (.slice A l.length c) l.length (kV l))(hl:l.length≤32768):
  a_ B w0 202 [.slice A l.length c] F (CT l F):=by
 refine fw func202 52 [0] ?_;refine bD ?_;refine d_ (fun zf zL=>∃(A1 A2:bj),Sub zf [(0,.slice A l.length c),(5,.slice A1 265 265),(6,.slice A2 12 12)]∧Wk zL (.own 135 1 A1 265 265 (p9 (yQ [])):: .own 135 1 A2 12 12 (p9 (po []))::F)) ?_ ?_
 ·refine cC _ ?_;refine gU 0 1 ?_ ?_
  ·refine cQ rfl (fc (nn:=265) (cc:=265) K0 rfl rfl rfl rfl rfl aa aa aa) fun tE=>?_;refine ab 2 ?_;refine az 1 ?_;refine cQ rfl (fc (nn:=12) (cc:=12) K0 rfl rfl rfl rfl rfl aa aa aa) fun P5=>?_;refine ab 3 ?_;refine aE ?_;exact bC ⟨tE,P5,bm,.trans ((gl (ef (.refl _)))) (ax rfl (by rw[Pp,←vr]) (ax rfl (by rw[Ni,←vr]) (.refl _)))⟩
  ·refine cQ rfl (fc (nn:=12) (cc:=12) K0 rfl rfl rfl rfl rfl aa aa aa) fun P5=>?_;refine az 0 ?_;refine cQ rfl (fc (nn:=265) (cc:=265) K0 rfl rfl rfl rfl rfl aa aa aa) fun tE=>?_;refine ab 2 ?_;refine ab 3 ?_;refine aE ?_;exact bC ⟨tE,P5,bm,ax rfl (by rw[Pp,←vr]) (ax rfl (by rw[Ni,←vr]) (.refl _))⟩
 ·rintro _ _ ⟨A1,A2,hs,hp⟩;refine aU hs hp ?_;clear hs hp;refine bP ?_;refine aD (fun zf zL zm=>∃(k:Nat),(k≤l.length∧∀t∈l.take k,fa t)∧l.length-k=zm∧Sub zf [(5,.slice A1 265 265),(6,.slice A2 12 12),(13,.slice A l.length c),(14,ah l.length),(15,ah k)]∧Wk zL (.own 135 1 A1 265 265 (p9 (yQ (l.take k))):: .own 135 1 A2 12 12 (p9 (po (l.take k)))::F)) _ ⟨0,⟨bS _,fun t h=>jY⟩,rfl,bm,.refl _⟩ ?_;rintro _ _ _ ⟨k,⟨hk,hmk⟩,rfl,hs,hp⟩;refine aU hs hp ?_;clear hs hp;refine bB ?_;refine aj (fun kH=>?_) fun kH=>?_
  ·obtain⟨t,ht⟩:=cR (Jh l k);have htv:=FM (l:=l) (k:=k) aa;rw[←ht]at htv;have tZ:l.take (k+1)=l.take k++[t]:=by rw[ht];exact aZ aa _
   have htm:t∈l:=by rw[ht];exact bh aa _
   obtain⟨⟨ps,px,pc,py⟩,hP⟩:∃P,spP t=P:=⟨_,rfl⟩
   refine bD ?_;refine ae (dg 3 ag rfl aB aa [.int .u8 (t.1.toNat:Int),ah t.2.1,ah t.2.2] (so htv) rfl) rfl ?_;refine bg fun g8=>?_;refine bB ?_;refine ai rfl (PL (t:=t) hP) ?_;refine bH ?_;refine bg fun g9=>?_;refine dm ?_;refine aj (fun vW=>?_) fun vW=>?_
   ·have hnm:¬fa t:=fun h=>vW (by unfold spE;rw[aq h]);have NL:¬∀t∈l,fa t:=fun h=>hnm (h t htm);refine bB ?_;refine ve [2,3,4] ?_;refine bM ?_;refine ao (.skip (.skip (.skip (.skip (.refl _))))) ?_;refine aE ?_;unfold CT;rw[aw NL];exact⟨by unfold spE;rw[aw hnm],rfl⟩
   ·have fJ:fa t:=bF fun h=>vW (by unfold spE;rw[aw h];decide);obtain⟨B_,hp2,hp3⟩:=rB fJ;have Km:spP t=bJ t:=by unfold spP;rw[aq fJ]
    have tT:=abn (l.take k) (bJ t).1;have hcf:=Uy (l.take k) (bJ t).2.2.1;rw[eV]at tT hcf;have k9:=Z6 (l.take k) B_;have jK:=fun h=>X9 (l.take k) h (hp3 h);have wS:=X8 (l.take k) (t:=t);have aqk:∀u∈l.take (k+1),fa u:=fun u hu=>by
     rw[tZ]at hu;rcases dy.1 hu with hu|hu
     ·exact hmk u hu
     ·rw[lE.1 hu];exact fJ
    rw[←tZ]at k9 jK wS;rw[Km]at hP;rw[hP]at B_ hp2 hp3 tT hcf k9 jK wS;simp only at B_ hp2 hp3 tT hcf k9 jK wS;have hL1:=Fx (l.take k);have hL2:=xW (l.take k);have hg1:=yR (l.take k) B_;have NC:=DR (l.take k) (s:=pc);obtain⟨q1,hq1⟩:=cR (cS (l.take k) ps);obtain⟨q2,YJ⟩:=cR (wH (l.take k) pc);rw[←hq1]at tT k9 hg1;rw[←YJ]at hcf jK NC;have hlk:=FO (yQ (l.take k));have NI:=FO (po (l.take k));refine bM ?_;refine ae (au ag rfl aB aa (Lf aa hg1)) rfl ?_;refine ae (bY rfl rfl (r:=((q1+1:Nat):Int)) ((TW aa aa).trans aa)) rfl ?_;refine be ?_;refine ve [5,6,9,13,14,15] ?_;refine bM ?_;refine aj (fun za=>?_) fun za=>?_
    ·have ast:=NC (hp3 aa);have asO:=jK aa;have at3:=hp3 aa;refine bI ?_;refine ae (au ag rfl aB aa (Lf aa ast)) rfl ?_;refine ae (bY rfl rfl (r:=((q2+1:Nat):Int)) ((TW aa aa).trans aa)) rfl ?_;refine bP ?_;refine av ⟨_,aa,k+1,⟨aa,aqk⟩,rfl,bm,.skip (.skip (ax rfl (by rw[yV,k9]) (ax rfl (by rw[yV,asO]) (.refl _))))⟩
    ·have asP:=wS aa;refine bD ?_;refine av ⟨_,aa,k+1,⟨aa,aqk⟩,rfl,bm,.skip (.skip (ax rfl (by rw[yV,k9]) (ax rfl (by rw[asP]) (.refl _))))⟩
  ·refine bB ?_;obtain rfl:k=l.length:=by omega
   rw[jN]at*;have hL1:=Fx l;have hlk:=FO (yQ l);have hg1:=yR l (s:=256) aa;have tT:=abn l 256;obtain⟨q1,hq1⟩:=cR (cS l 256);rw[←hq1]at hg1 tT;refine be ?_;refine ae (aG (i:=256) (size:=1) underlying213 ag rfl rfl rfl aa aB) rfl ?_;refine ae (au ag rfl aB aa (Lf aa hg1)) rfl ?_;refine ae (bY rfl rfl (r:=((q1+1:Nat):Int)) ((TW aa aa).trans aa)) rfl ?_;refine ae (aG (i:=256) (size:=1) underlying213 ag rfl rfl rfl aa aB) rfl ?_;refine dX ?_;unfold CT;rw[aq hmk];exact⟨_,_,rfl,by rw[yV,hq1];rfl⟩
end
theorem aaI(z:Value)(m:Nat):(Builtin.zeroCells #[z] m).toList=List.replicate m z:=by
 apply p6
 ·simp[Builtin.zeroCells]
 ·intro k h1 h2;simp[Builtin.zeroCells,Nat.mod_one]
theorem aeK{P:Program}{t xt e:TypeId}{bytes:Nat}(T:sF P t e 1 bytes (.int .u8 0))(hx:P.underlying xt=some (.int .u64))(ty:TypeId){w:World}{g n c m:Nat}{cur:Array Value}(hg:w.heap[g]? =some (.cells cur e (0,0)))(hm:0<m)(re:n+m≤c)(GS:n+m≤cur.size)(hb:m*bytes≤281474976710656)(Ir:m≤281474976710656):
  (Builtin.append_ #[t,xt] ty #[.slice (some ⟨g,0,none⟩) n c,.int .u64 m]).run P w= .ok (.slice (some ⟨g,0,none⟩) (n+m) c) (w.setRow g (cur.toList.take n++List.replicate m (Value.int .u8 0)++cur.toList.drop (n+m)).toArray):=by
 obtain⟨i,hi,hz,jb,D7⟩:=T.hi;have sN:=run_storeCells_at P g n e (List.replicate m (Value.int .u8 0)) 0 cur w hg (by simpa using GS) (by intro v hv;rw[(List.mem_replicate.1 hv).2];rfl);simp only[tf,yf]at sN;have hw:IntKind.i64.wrap (m:Int)=m:=bG aa aa;have asH:¬(m:Int)<0:=by omega
 have Nz:¬(281474976710656:Int)<(m:Int)*(bytes:Int):=by
  rw[←z8];generalize m*bytes=y at hb⊢;omega
 have hm0:¬m=0:=by omega
 have hzc:(Value.int IntKind.u8 0).cells= #[Value.int IntKind.u8 0]:=rfl;simp[Builtin.append_,iQ T.ht,iQ hx,asInt,asIntOf,sizeOf,typeInfo,zeroValue,hi,hz,jb,D7,hw,asH,Nz,hm0,re,zY,hzc,aaI,sN]
theorem abR{C:Cx}{fr:Fr}{L:aR}{x y:Operand}{ty t xt e:TypeId}{f:Ch→aR}{bytes:Nat}(T:sF C.P t e 1 bytes (.int .u8 0))(hx:C.P.underlying xt=some (.int .u64)){A:bj}{n c m:Nat}{k:Int}{xs:cV}(he:ev fr x=some (.slice A n c))(hs:mx (.own e 1 A n c xs) L f)(hy:ev fr y=some (.int .u64 k))(hk:k=(m:Int))(hm:0<m)(re:n+m≤c)(hb:m*bytes≤281474976710656)(Ir:m≤281474976710656):
  qz C fr L (.call {callee:=.builtin .append,args:= #[x,y],argTypes:= #[t,xt]}) ty (fun p L'=>p= .slice A (n+m) c∧L'=f (.own e 1 A (n+m) c (xs++List.replicate m (Value.int .u8 0)))):=fun a w ha hw d pos af gg=>by
 subst hk;have mg:=hw.all _ hs.mem;obtain⟨k1,k2,k3⟩:=mg;have qO:¬c=0:=by omega
 obtain⟨g,cur,rfl,Yw,hg,hcm,tT,pr⟩:=k3.resolve_left qO;have hr:=aeK (P:=C.P) T hx ty hg hm re aa hb Ir;simp only[cE]at k1 tT pr;refine⟨_,_,_,.inl ?_,⟨rfl,rfl⟩,hw.Qn hs (w':=w.setRow g (cur.toList.take n++List.replicate m (Value.int .u8 0)++cur.toList.drop (n+m)).toArray) ?_ (fun _=>⟨by simp[k1],re,.inr ⟨g,_,rfl,Yw,N9 w g cur _ e _ hg,hcm,?_,?_⟩⟩) (.inr (.inl Hv))⟩
 ·simp[execOp,resolve,invoke,builtin,ha.tmp he,ha.tmp hy,hr]
 ·rw[show(Ch.own e 1 (some ⟨g,0,none⟩) n c xs).fp=some g by simp[Ch.fp,qO]];exact⟨rfl,rfl,rfl,ak,fun k _ hk=>N_ w g k _ (fun e=>hk xA)⟩
 ·simp only[wW,aX,eV,iN,Kw,yf];omega
 ·rw[pr];have hlen:(xs++List.replicate m (Value.int .u8 0)).length=n+m:=by simp[k1]
  simp only[cE];rw[←hlen];exact yo
theorem J4{C:Cx}{fr:Fr}{L:aR}{x y:Operand}{ty t e:TypeId}{f:Ch→aR}{bytes:Nat}{z:Value}(T:sF C.P t e 1 bytes z){A:bj}{n c m:Nat}{xs:cV}(he:ev fr x=some (.slice A n c))(hs:mx (.own e 1 A n c xs) L f){yv:Value}{news:cV}(hy:ev fr y=some yv)(hb:aL C.B C.w0 L 1 yv m news)(h1:∀u∈news,u.oneCell'=true)(hm:0<m)(re:n+m≤c):
  qz C fr L (.call {callee:=.builtin .append,args:= #[x,y],argTypes:= #[t,t]}) ty (fun p L'=>p= .slice A (n+m) c∧L'=f (.own e 1 A (n+m) c (xs++news))):=fun a w ha hw d pos af gg=>by
 obtain⟨i,hi,hz,jb,D7⟩:=T.hi;obtain⟨X,cx,rfl,hmc,hl,tY⟩:=hb w hw;obtain⟨ad,rfl,_,D9⟩:=tY hm;have mg:=hw.all _ hs.mem;obtain⟨k1,k2,k3⟩:=mg;have qO:¬c=0:=by omega
 obtain⟨g,cur,rfl,Yw,hg,hcm,tT,pr⟩:=k3.resolve_left qO;simp only[cE]at k1 tT pr hl;have hr:=run_append_room (P:=C.P) w t ty e i T.ht hi g n c cur hg ad m cx news (by rw[hl,jb,cE]) D9 h1 re (by rw[jb,cE,hl,tT];exact re);rw[jb,cE,hl]at hr;refine⟨_,_,_,.inl ?_,⟨rfl,rfl⟩,hw.Qn hs (w':=w.setRow g (cur.toList.take n++news++cur.toList.drop (n+m)).toArray) ?_ (fun _=>⟨by simp[k1,hl],re,.inr ⟨g,_,rfl,Yw,N9 w g cur _ e _ hg,hcm,?_,?_⟩⟩) (.inr (.inl Hv))⟩
 ·simp[execOp,resolve,invoke,builtin,ha.tmp he,ha.tmp hy,hr]
 ·rw[show(Ch.own e 1 (some ⟨g,0,none⟩) n c xs).fp=some g by simp[Ch.fp,qO]];exact⟨rfl,rfl,rfl,ak,fun k _ hk=>N_ w g k _ (fun e=>hk xA)⟩
 ·simp only[wW,aX,eV,iN,Kw];omega
 ·rw[pr];have hlen:(xs++news).length=n+m:=by simp[k1,hl]
  simp only[cE];rw[←hlen];exact yo
theorem aof{P:Prop}(h:P:=by(first|(exact .inl (by simpa using Rt))|(exact⟨fun h=>.inr (by omega),fun h=>h.elim (fun h=>by simp_all) (fun h=>by omega)⟩))):P:=h
theorem om:type_of% @List.perm_append_comm_assoc:= @List.perm_append_comm_assoc
theorem WN(a b x y:Ch)(F:aR):(a::b::x::y::F).Perm (x::y::a::b::F):=om [a,b] [x,y] F
theorem WM(x a b:Ch)(F:aR):(x::a::b::F).Perm (a::b::x::F):=om [x] [a,b] F
theorem aal{a a':al}{b b':Int}{c c':Nat}(h:(a,b,c)=(a',b',c')):a=a'∧b=b'∧c=c':=by injection h with x y;injection y with y z;exact⟨x,y,z⟩
theorem MH(q:List Bool)(p0:Nat)(RS:p0≤q.length)(hq:q.length≤8000000)(n:Int)(h1:-9223372036854775808≤n)(h2:n≤9223372036854775807)(Xl:al)(e':Int)(p':Nat)(hR:qP q p0 n=(Xl,e',p')):
  a_ B w0 346 [bq g,ah n] (Rr g A c q p0 F) (fun r L=>∃A' c',r= .tuple #[.slice A' Xl.length c',ah e']∧L=Rr g A c q p' (.own 5 1 A' Xl.length c' (bv Xl)::F)):=by
 refine fw func346 70 [0,1] ?_;refine bM ?_;refine aY 5 1 none ?_;refine aE ?_;refine bR 6 17 [0,1] (n<0∨300<n) ?_ ?_
 ·refine bH ?_;refine aI rfl rfl rfl (fun jC=>?_) (fun jC=>?_)
  ·refine b8 ?_;exact aM Xx
  ·refine be ?_;exact aM Xw
 ·refine be ?_;refine aj (fun iy=>?_) fun iy=>?_
  ·rw[qP,aq iy]at hR;obtain⟨rfl,rfl,rfl⟩:=aal hR;refine bM ?_;refine ao (Wk.dE (WM _ _ _ _)) ?_;refine aE ?_;exact⟨none,0,rfl,rfl⟩
  ·obtain⟨N,rfl⟩:=gM (show 0≤n by omega);rw[qP,aw iy,nC]at hR;refine bI ?_;refine cH (fc (nn:=0) cN rfl rfl rfl rfl rfl aa aa aa) fun Lr=>?_;refine bz ?_;refine aD (fun zf zL zm=>∃(f p:Nat) (acc:al) (s:Bool) (A6:bj),(acc.length≤N∧N≤acc.length+f∧p≤q.length∧lG q N f p acc s=(Xl,e',p'))∧N-acc.length=zm∧Sub zf [(0,bq g),(1,ah N),(6,.slice A6 acc.length N),(7,.bool s)]∧Wk zL (Rr g A c q p (.own 5 1 A6 acc.length N (bv acc):: .own 5 1 none 0 0 []::F))) _ ⟨N,p0,[],false,Lr,⟨bS _,ak,RS,hR⟩,rfl,bm,Wk.dE (WN _ _ _ _ _)⟩ ?_;rintro _ _ _ ⟨f,p,acc,s,A6,⟨GP,haf,hpq,tY⟩,rfl,hs,hp⟩;refine aU hs hp ?_;clear hs hp;refine bP ?_;refine aj (fun oO=>?_) fun oO=>?_
   ·obtain⟨f',rfl,atI,ac1⟩:=aer tY haf aa;have hv4:oM q p 4<16:=zN q p (n:=4) aa;have hv6:oM q (iH q p 4) 6<64:=zN q (iH q p 4) (n:=6) aa;have hp4:=qF (q:=q) (p:=p) 4 hpq;have hp6:=qF (q:=q) (p:=iH q p 4) 6 hp4;refine bB ?_;refine ai rfl (Ip q p hpq hq 4 aa aa) ?_;refine dX ?_;refine aj (fun y'=>?_) fun y'=>?_
    ·have Ys:=aiM ac1 aa y';obtain⟨rfl,rfl,rfl⟩:=aal Ys;refine bI ?_;refine ve [4,5] ?_;refine bD ?_;refine ao (bp rfl (ax rfl rfl (.skip (.refl _)))) ?_;refine aE ?_;exact⟨none,0,rfl,rfl⟩
    ·refine bP ?_;refine aj (fun h33=>?_) fun h33=>?_
     ·have hrn:=Wi ac1 aa aa aa;have tA:(acc++[UInt8.ofNat (oM q p 4)]).length=acc.length+1:=by simp
      refine bI ?_;refine cH (DI cN rfl rfl) fun A37=>?_;refine lK (J4 cN rfl aV rfl aB L9 aa aa) rfl ?_;rintro _ _ ⟨rfl,rfl⟩;rw[←tA];refine aE ?_;refine ve [0,1,6] ?_;refine bP ?_;refine av ⟨_,aa,f',iH q p 4,acc++[UInt8.ofNat (oM q p 4)],false,A6,⟨bO,bO,hp4,hrn⟩,rfl,bm,.skip (bp rfl (ax rfl rfl (ax rfl (aoO aa _) (.refl _))))⟩
     ·refine bI ?_;refine ai rfl (Ip q (iH q p 4) hp4 hq 6 aa aa) ?_;refine bI ?_;refine ve [0,1,6,7,9,10] ?_;refine bM ?_;refine aj (fun h45=>?_) fun h45=>?_
      ·have Ys:=aep ac1 aa aa aa h45;obtain⟨rfl,rfl,rfl⟩:=aal Ys;refine c_ ?_;refine ao (bp rfl (ax rfl rfl (.skip (.refl _)))) ?_;refine aE ?_;exact⟨none,0,rfl,rfl⟩
      ·refine bI ?_;refine bR 10 56 [0,1,6,10] (s=true∨N≤acc.length+oM q (iH q p 4) 6) ?_ ?_
       ·refine be ?_;refine nN rfl rfl rfl (fun Rt=>?_) (fun Rt=>?_)
        ·refine dX ?_;exact aM (by exact dU aof)
        ·refine bD ?_;exact aM (by exact eU aof)
       ·refine be ?_;refine aj (fun Ru=>?_) fun Ru=>?_
        ·have Ys:=aeq ac1 aa aa aa aa Ru;obtain⟨rfl,rfl,rfl⟩:=aal Ys;refine cD ?_;refine ao (bp rfl (ax rfl rfl (.skip (.refl _)))) ?_;refine aE ?_;exact⟨none,0,rfl,rfl⟩
        ·have hrn:=Wj ac1 aa aa aa aa Ru;have rN:(acc++List.replicate (oM q (iH q p 4) 6+1) (0:UInt8)).length=acc.length+(oM q (iH q p 4) 6+1):=by simp
         have Qj:acc.length+oM q (iH q p 4) 6<N:=by by_cases h:N≤acc.length+oM q (iH q p 4) 6;exact absurd (.inr h) Ru;omega
         refine bB ?_;refine ae (bY rfl rfl (ga aa aa)) rfl ?_;refine lK (abR (m:=oM q (iH q p 4) 6+1) cN underlying60 rfl aV rfl aa aa aa aa aa) rfl ?_;rintro _ _ ⟨rfl,rfl⟩;rw[←rN];refine bI ?_;refine ae (bY rfl rfl (ga aa aa)) rfl ?_;refine b8 ?_;refine av ⟨_,aa,f',iH q (iH q p 4) 6,acc++List.replicate (oM q (iH q p 4) 6+1) 0,_,A6,⟨bO,bO,hp6,hrn⟩,rfl,bm,bp rfl (ax rfl rfl (ax rfl (abk _ _) (.refl _)))⟩
   ·refine bD ?_;have hre:=Wh tY aa;refine be ?_;refine ai rfl (zp acc aB) ?_;refine bP ?_;refine aj (fun Vf=>?_) fun Vf=>?_
    ·have hfn:=alJ (p:=p) (show¬chk acc=0 by omega);rw[hfn.1]at hre;obtain⟨rfl,rfl,rfl⟩:=aal hre;refine bP ?_;refine ao (bp rfl (ax rfl rfl (.skip (.refl _)))) ?_;refine aE ?_;rw[hfn.2];exact⟨none,0,rfl,rfl⟩
    ·rw[alK (show chk acc=0 by omega)]at hre;obtain⟨rfl,rfl,rfl⟩:=aal hre;refine bz ?_;have hNe:Xl.length=N:=by omega
     refine ao (bp rfl (ax rfl rfl (ax rfl rfl (.skip (.refl _))))) ?_;refine aE ?_;exact⟨A6,N,rfl,rfl⟩
section
variable{sl:al}
theorem aa_{P:Prop}(h:P:=by(simp only[aX];omega)):P:=h
theorem alj{P:Prop}(h:P:=by(rw[tZ,Tz];simp only[bV])):P:=h
theorem Hk.mono{l:bc}(H:Hk B w0 F Ao co l){M:aR}(hs:F.Sublist M):Hk B w0 M Ao co l:=⟨H.zk.mono hs,H.lt⟩
theorem agd(Y:aR)(a b d:Ch)(F:aR):Wk (Y++a::b::d::F) (a::b::(Y++F)):=
 (Wk.dE (om Y [a,b,d] F)).trans (.cons (.cons (.skip (.refl _))))
theorem UF{l:bc}(H:Hk B w0 F Ao co l)(hl:l.length≤300)(hq:q.length≤100000):
  a_ B w0 203 [bq g,.slice Ao l.length co] (Wx X g 292 A c q F)
   (fun r L=>∃g' Y A' c',r= .pointer (some ⟨g',0,none⟩)∧L=Wx X g 292 A' c' (q++iq (kU (oN l) l.length) 0) (Y++F)∧xj B w0 Y g' (kU (oN l) l.length)):=by
 have acT:Good (kU (oN l) l.length):=lP aa;have hlb:(kU (oN l) l.length).length=l.length:=gA _ _;obtain⟨ls,hls⟩:=cR (kU (oN l) l.length);have Gk:=amF (B:=B) (w0:=w0) (H:=H.mono (M:=Wx X g 292 A c q F) (.cons _ (.cons _ (.refl _)))) hl;rw[←hls]at acT hlb Gk⊢;rw[←hlb]at Gk;refine fw func203 25 [0,1] ?_;refine bM ?_;refine ay rfl ((by rw[←hlb];exact Gk)) fun A9 c9=>?_;refine c_ ?_;refine ba apd rfl (.perm (XJ ls q aB acT aa) (WM _ _ _ _)) rfl ?_;rintro _ _ ⟨rfl,s8,uR,cJ⟩;obtain rfl:=cJ.symm;refine bI ?_;refine ba aj3 rfl (adO (l:=ls) aB acT) rfl ?_;rintro _ _ ⟨g19,Y,rfl,cJ,x9⟩;obtain rfl:=cJ.symm;refine bI ?_;refine ve [7] ?_;refine bM ?_;refine ao (agd _ _ _ _ _) ?_;refine aE ?_;exact⟨g19,Y,s8,uR,rfl,rfl,x9⟩
theorem afL{t:bN}(hm:fa t){ps px pc py:Nat}(h:bJ t=(ps,px,pc,py)):a_ B w0 245 [.agg (bN.cells t).toArray] F (fun r L=>r= .tuple #[.agg #[ah (ps:Int),ah (px:Int),ah (pc:Int),ah (py:Int)],ah 0]∧L=F):=by
 have:=PL (B:=B) (w0:=w0) (F:=F) (t:=t) (ps:=ps) (px:=px) (pc:=pc) (py:=py) (by unfold spP;rw[aq hm,h]);unfold spE at this;rw[aq hm]at this;exact this
def Qu(sl fl:al)(t:bN):Prop:=fa t∧(bJ t).1<sl.length∧(sl.getD (bJ t).1 0).toNat≠0∧(256<(bJ t).1→(bJ t).2.2.1<fl.length∧(fl.getD (bJ t).2.2.1 0).toNat≠0)
abbrev Wt2(g1 g2 g:Nat)(A:bj)(c:Nat)(q:List Bool)(F:aR):aR:=Wx [bq g1,bq g2] g 292 A c q F
theorem ajp{t:bN}(ht:Qu sl fl t)(hs:Good sl)(hf:Good fl)(h1:xj B w0 F g1 sl)(h2:xj B w0 F g2 fl)(hq:q.length≤6000000):
  a_ B w0 204 [bq g,.agg (bN.cells t).toArray] (Wt2 g1 g2 g A c q F) (fun r L=>r= .tuple #[]∧∃A' c',L=Wt2 g1 g2 g A' c' (q++vK sl fl t) F):=by
 obtain⟨fJ,tA,Kn,hf2⟩:=ht;have Km:spP t=bJ t:=by unfold spP;rw[aq fJ]
 have GW:=nH fJ;have mG:=vd fJ;have aqq:=rB fJ;obtain⟨⟨ps,px,pc,py⟩,hP⟩:∃P,bJ t=P:=⟨_,rfl⟩
 have hQ:vK sl fl t=hw sl ps++if ps<256 then [] else hi px (ps-257) (ps-257)++(hw fl pc++hi py pc pc):=by unfold vK;rw[hP]
 rw[hQ];rw[hP]at Km tA Kn hf2 GW mG aqq;simp only at tA Kn hf2 GW mG aqq;have Nz:256<ps→px<2^(ps-257)∧py<2^pc∧pc≤11∧ps≤264:=fun h=>by
  by_cases h0:t.2.1=0
  ·have:=(mG h0).1;simp only[Cd]at this;have:=mH t.1;omega
  ·have:=GW h0;exact⟨this.2.2.2.1,this.2.2.2.2.1,this.2.2.1,this.2.1⟩
 have nP:=hs.1.1;obtain⟨x,tn,td⟩:=t;refine cB func204 53 rfl rfl rfl [(0,bq g),(1,.agg #[.int .u8 (x.toNat:Int),ah tn,ah td])] ⟨⟨rfl,rfl⟩,⟨rfl,rfl⟩,trivial⟩ ?_;refine be ?_;refine bf fun g3=>?_;refine bI ?_;refine ai rfl (afL (t:=(x,tn,td)) fJ hP) ?_;refine bH ?_;refine bg fun g4=>?_;refine bI ?_;refine cC (.bE g4 166 [ah ps,ah px,ah pc,ah py]::F) ?_;refine ab 0 ?_;refine ab 1 ?_;refine ab 2 ?_;refine ab 4 ?_;refine ab 5 ?_;refine ab 6 ?_;refine ab 7 ?_;refine ab 8 ?_;refine az 3 ?_;refine aE ?_;refine az 9 ?_;refine gC rfl .no abD rfl (.perm (RU hs h1.cons.cons tA Kn aa) (WN _ _ _ _ _)) rfl (by rintro _ _ ⟨rfl,Ls,Mw,rfl⟩;exact gF) ?_;rintro _ _ ⟨rfl,Ls,Mw,cJ⟩;obtain rfl:=cJ.symm;refine cP [0,4] ?_;refine bP ?_;refine aj (fun oO=>?_) fun oO=>?_
 ·rw[aq aa,gk];refine be ?_;refine ao (.cons (.cons (.skip (.skip (.refl _))))) ?_;refine aE ?_;exact⟨rfl,Ls,Mw,rfl⟩
 ·have hb:=Nz aa;obtain⟨lZ,hfz⟩:=hf2 aa;rw[aw aa];have at4:=mV sl ps;have ar2:=hs.1.2 _ (bh tA 0);have ar3:=hf.1.2 _ (bh lZ 0);have RT:=mV fl pc;have hp7:px<256:=wh hb.1 (k_ aa (by omega:ps-257≤8));have at1:py<2048:=wh hb.2.1 (k_ aa (by omega:pc≤11));refine bH ?_;refine cC (.bE g4 166 [ah ps,ah px,ah pc,ah py]::F) ?_;refine ab 0 ?_;refine ab 1 ?_;refine ab 2 ?_;refine ab 3 ?_;refine ab 4 ?_;refine aW 5 rfl (bw underlying3 underlying60 rfl (r:=(px:Int)) (ga aa aa)) ?_;refine ab 6 ?_;refine ab 7 ?_;refine aW 8 rfl (dQ rfl rfl (r:=((ps-257:Nat):Int)) ((bG aa aa).trans aa)) ?_;refine az 9 ?_;refine gC rfl .no Dk rfl (Be (q++hw sl ps) px aa (ps-257) aa hb.1 tG) rfl (by rintro _ _ ⟨rfl,P6,c33,rfl⟩;exact gF) ?_;rintro _ _ ⟨rfl,P6,c33,cJ⟩;obtain rfl:=cJ.symm;refine bH ?_;refine cC (.bE g4 166 [ah ps,ah px,ah pc,ah py]::F) ?_;refine ab 0 ?_;refine ab 1 ?_;refine ab 2 ?_;refine ab 4 ?_;refine ab 5 ?_;refine ab 6 ?_;refine ab 7 ?_;refine ab 8 ?_;refine az 3 ?_;refine aE ?_;refine az 9 ?_;refine gC rfl .no abD rfl (RU hf h2.cons.cons lZ hfz (by rw[aX,aX,dM];omega)) rfl (by rintro _ _ ⟨rfl,Lu,c43,rfl⟩;exact gF) ?_;rintro _ _ ⟨rfl,Lu,c43,cJ⟩;obtain rfl:=cJ.symm;refine cP [0,4] ?_;refine aE ?_;refine cC (.bE g4 166 [ah ps,ah px,ah pc,ah py]::F) ?_;refine ab 0 ?_;refine ab 1 ?_;refine ab 2 ?_;refine ab 3 ?_;refine ab 4 ?_;refine aW 5 rfl (bw underlying3 underlying60 rfl (r:=(py:Int)) (ga aa aa)) ?_;refine ab 6 ?_;refine ab 7 ?_;refine az 8 ?_;refine gC rfl .no Dk rfl (Be (q++hw sl ps++hi px (ps-257) (ps-257)++hw fl pc) py aa pc aa hb.2.1 (by rw[aX,aX,aX,dM];omega)) rfl (by rintro _ _ ⟨rfl,A52,c52,rfl⟩;exact gF) ?_;rintro _ _ ⟨rfl,A52,c52,cJ⟩;obtain rfl:=cJ.symm;refine be ?_;refine ao (.cons (.cons (.skip (.skip (.refl _))))) ?_;refine aE ?_;exact⟨rfl,A52,c52,by simp only[bV]⟩
theorem Qu.of{l:List bN}(hm:∀t∈l,fa t){t:bN}(h:t∈l):Qu (fi l) (ir l) t:=by
 have h1:=rB (hm t h);have h2:(fi l).length=265:=gA _ _;have h3:(ir l).length=12:=gA _ _;refine⟨hm t h,aa,kL aa h1.1 (Di h),fun k=>⟨by have:=h1.2.2 k;omega,kL aa (h1.2.2 k) (Dg h k)⟩⟩
theorem afF{sl fl:al}{t:bN}(hs:Good sl)(hf:Good fl)(h:Qu sl fl t):(vK sl fl t).length≤48:=by
 obtain⟨h1,h2,h3,h4⟩:=h;have hp:=rB h1;have ar2:=hs.1.2 _ (bh h2 0);unfold vK;rw[aX,mV];split
 ·rw[sb];omega
 ·have h5:=h4 aa;have ar3:=hf.1.2 _ (bh h5.1 0);have h6:=hp.2.2 aa;rw[aX,aX,mV,dM,dM];omega
theorem Jj{sl fl:al}(hs:Good sl)(hf:Good fl):∀{l:List bN},(∀t∈l,Qu sl fl t)→(mJ sl fl l).length≤48*l.length
 |[],_=>by simp[mJ]
 |t::l,h=>by
  rw[xd,aX,eh];have h1:=afF hs hf (h t (.head _));have h2:=Jj hs hf (l:=l) (fun u hu=>h u (.tail _ hu));omega
theorem Tz(sl fl:al)(l:List bN)(t:bN):mJ sl fl (l++[t])=mJ sl fl l++vK sl fl t:=by simp[mJ]
theorem ae8{l:List bN}(hl:l.length≤32768):Hk B w0 (.own 135 1 A1 265 c1 (p9 (Cl l))::L) A1 c1 (Cl l):=by
 refine⟨by rw[Fy];exact aL.own (.head _),fun k=>?_⟩;have h1:=fun s=>abn l s;unfold Cl;rw[bk,BG];split
 ·have:=h1 256;simp only[Fx];simp;omega
 ·rw[←bk];by_cases hk:k<265
  ·rw[yR l hk];have:=h1 k;omega
  ·rw[bk,zZ bO];simp
theorem ab1{l:List bN}(hl:l.length≤32768):Hk B w0 (.own 135 1 A2 12 c2 (p9 (po l))::L) A2 c2 (po l):=by
 refine⟨by rw[xW];exact aL.own (.head _),fun k=>?_⟩;by_cases hk:k<12
 ·rw[DR l hk];have:=Uy l k;omega
 ·rw[bk,zZ bO];simp
theorem Z7{l:List bN}(hm:∀t∈l,fa t)(hl:l.length≤32768)(hq:q.length≤100000):
  a_ B w0 203 [bq g,.slice A1 265 c1] (Wx X g 292 A c q (.own 135 1 A1 265 c1 (p9 (Cl l))::F))
   (fun r L=>∃g' Y A' c',r= .pointer (some ⟨g',0,none⟩)∧L=Wx X g 292 A' c' (q++iq (fi l) 0) (Y++(.own 135 1 A1 265 c1 (p9 (Cl l))::F))∧xj B w0 Y g' (fi l)):=by
 have:=UF (X:=X) (g:=g) (A:=A) (c:=c) (ae8 (B:=B) (w0:=w0) (A1:=A1) (c1:=c1) (L:=F) hl) (by rw[Fy];omega) hq;rw[ai_ hm,Fy]at this;exact this
theorem X_{l:List bN}(hm:∀t∈l,fa t)(hl:l.length≤32768)(hq:q.length≤100000)(H:Hk B w0 F A2 c2 (po l)):
  a_ B w0 203 [bq g,.slice A2 12 c2] (Wx X g 292 A c q F)
   (fun r L=>∃g' Y A' c',r= .pointer (some ⟨g',0,none⟩)∧L=Wx X g 292 A' c' (q++iq (ir l) 0) (Y++F)∧xj B w0 Y g' (ir l)):=by
 have:=UF (X:=X) (g:=g) (A:=A) (c:=c) H (by rw[xW];omega) hq;rw[ahm hm,xW]at this;exact this
theorem PK{l:List bN}(h:32768<l.length):ly l=([],6):=by unfold ly;rw[aq h]
theorem aai{l:List bN}(h:¬32768<l.length)(h2:¬∀t∈l,fa t):ly l=([],7):=by unfold ly;rw[aw h,aw h2]
theorem afI{l:List bN}(h:¬32768<l.length)(h2:∀t∈l,fa t):ly l=(packed (qx l),0):=by unfold ly;rw[aw h,aq h2]
theorem TI{l:List bN}(hb:aL B w0 F 3 (.slice A l.length c) l.length (kV l))(wR:l.length<9223372036854775808)(hm:¬∀t∈l,fa t):
  a_ B w0 144 [.slice A l.length c] F (fun r L=>∃A' c',r= .tuple #[.slice A' (ly l).1.length c',ah (ly l).2]∧L= .own 5 1 A' (ly l).1.length c' (bv (ly l).1)::F):=by
 have acK:=fun hl=>(UG hb hl).mono (R':=fun r L=>r= .tuple #[.slice none 0 0,.slice none 0 0,ah 7]∧L=F) fun v L' h=>by unfold CT at h;rw[aw hm]at h;exact h
 refine fw func144 58 [0] ?_;refine dX ?_;refine aj (fun mF=>?_) fun mF=>?_
 ·refine bM ?_;refine aC 5 1 none ?_;refine aE ?_;rw[PK aa];exact⟨none,0,rfl,rfl⟩
 ·refine bI ?_;refine ai rfl (acK aa) ?_;refine jU ?_;refine zJ fun ja=>?_;refine bI ?_;refine ve [2,3] ?_;refine bH ?_;refine aC 5 1 none ?_;refine aE ?_;rw[aai aa hm];exact⟨none,0,rfl,rfl⟩
theorem aat{l:List bN}(hb:aL B w0 F 3 (.slice A l.length c) l.length (kV l))(wR:l.length<9223372036854775808)(hm:∀t∈l,fa t):
  a_ B w0 144 [.slice A l.length c] F (fun r L=>∃A' c',r= .tuple #[.slice A' (ly l).1.length c',ah (ly l).2]∧L= .own 5 1 A' (ly l).1.length c' (bv (ly l).1)::F):=by
 have acK:=fun hl=>(UG hb hl).mono (R':=aaL l F) fun v L' h=>by unfold CT at h;rw[aq hm]at h;exact h
 refine fw func144 58 [0] ?_;refine dX ?_;refine aj (fun mF=>?_) fun mF=>?_
 ·refine bM ?_;refine aC 5 1 none ?_;refine aE ?_;rw[PK aa];exact⟨none,0,rfl,rfl⟩
 ·refine bI ?_;refine ay rfl (acK aa) fun A1 A2=>?_;refine jU ?_;refine dj fun ja=>?_;refine b8 ?_;refine ae (cv [.slice none 0 0,ah 0,.pointer none,.pointer none] ag) rfl ?_;refine bf fun g23=>?_;refine b8 ?_;refine aY 5 1 none ?_;refine yX (L':=Wx [.pointer none,.pointer none] g23 292 none 0 [] (.own 135 1 A1 265 265 (p9 (Cl l)):: .own 135 1 A2 12 12 (p9 (po l))::F)) (.swap (.refl _)) ?_;refine b8 ?_;refine ba aj0 rfl (Z7 hm aa ak) rfl ?_;rintro _ _ ⟨g27,Y1,Gn,Ly,rfl,cJ,aso⟩;obtain rfl:=cJ.symm;refine bH ?_;refine ve [0,5,7] ?_;refine be ?_;have nP:(fi l).length=265:=gA _ _;have lZ:(ir l).length=12:=gA _ _;have hsg:Good (fi l):=lP aa;have hfg:Good (ir l):=lP aa;have k9:=xT (fi l) 265 0 aa;have jK:=xT (ir l) 12 0 aa;obtain⟨K1,hK1⟩:=cR (Y1++(.own 135 1 A1 265 265 (p9 (Cl l)):: .own 135 1 A2 12 12 (p9 (po l))::F));have hoK:Hk B w0 K1 A2 12 (po l):=by rw[hK1];exact(ab1 aa).mono (List.sublist_append_of_sublist_right (.cons _ (.refl _)))
  have hbK:aL B w0 K1 3 (.slice A l.length c) l.length (kV l):=by rw[hK1];exact hb.mono (List.sublist_append_of_sublist_right (.cons _ (.cons _ (.refl _))))
  have hcK:xj B w0 K1 g27 (fi l):=by rw[hK1];exact aso.mono (vH _ _)
  have GY:Wk K1 F:=by rw[hK1];exact(dA _ _).trans (.skip (.skip (.refl _)))
  rw[←hK1];refine yX (L':=Wx [bq g27,.pointer none] g23 292 Gn Ly (iq (fi l) 0) K1) (.refl _) ?_;refine b8 ?_;refine ba aj0 rfl (X_ hm aa aa hoK) rfl ?_;rintro _ _ ⟨g33,Y2,P6,c33,rfl,cJ,asp⟩;obtain rfl:=cJ.symm;refine bD ?_;obtain⟨K,hK⟩:=cR (Y2++K1);have oP:aL B w0 K 3 (.slice A l.length c) l.length (kV l):=by rw[hK];exact hbK.mono (gz _ _)
  have RB:xj B w0 K g27 (fi l):=by rw[hK];exact hcK.mono (gz _ _)
  have hc2:xj B w0 K g33 (ir l):=by rw[hK];exact asp.mono (vH _ _)
  have hwF:Wk K F:=by rw[hK];exact(dA _ _).trans GY
  rw[←hK];refine yX (L':=Wt2 g27 g33 g23 P6 c33 (iq (fi l) 0++iq (ir l) 0) K) (.refl _) ?_;refine bD ?_;refine aD (fun zf zL zm=>∃(k:Nat) (A':bj) (c':Nat),(k≤l.length)∧l.length-k=zm∧Sub zf [(7,bq g23),(36,.slice A l.length c),(37,ah l.length),(38,ah k)]∧Wk zL (Wt2 g27 g33 g23 A' c' (iq (fi l) 0++iq (ir l) 0++mJ (fi l) (ir l) (l.take k)) K)) _ ⟨0,P6,c33,bS _,rfl,bm,bp (by simp[mJ]) (ax (by simp[mJ]) (by simp[mJ]) (.refl _))⟩ ?_;rintro _ _ _ ⟨k,A',c',hk,rfl,hs,hp⟩;refine aU hs hp ?_;clear hs hp;have hqs:∀k,(mJ (fi l) (ir l) (l.take k)).length≤48*l.length:=fun k=>jf (Jj hsg hfg (fun t ht=>Qu.of hm (List.take_subset _ _ ht))) nt;have hqk:=hqs k;refine bB ?_;refine aj (fun Ve=>?_) fun Ve=>?_
  ·obtain⟨t,ht⟩:=cR (Jh l k);have htv:=FM (l:=l) (k:=k) aa;rw[←ht]at htv;have tZ:l.take (k+1)=l.take k++[t]:=by rw[ht];exact aZ aa _
   have htm:t∈l:=by rw[ht];exact bh aa _
   refine bD ?_;refine ae (dg 3 ag rfl aB aa [.int .u8 (t.1.toNat:Int),ah t.2.1,ah t.2.2] (so htv) rfl) rfl ?_;refine bg fun g9=>?_;refine bB ?_;refine ba ao3 rfl (.perm (ajp (Qu.of hm htm) hsg hfg RB.cons hc2.cons aa_) ((l0 (l0 (fT (.refl _)))))) rfl ?_;rintro _ _ ⟨rfl,A44,c44,cJ⟩;obtain rfl:=cJ.symm;refine bD ?_;refine av ⟨_,aa,k+1,A44,c44,aa,rfl,bm,.trans (bp alj (ax alj alj (.refl _))) (.cons (.cons (.skip (.refl _))))⟩
  ·obtain rfl:k=l.length:=by omega
   rw[jN]at*;have kS:=hsg.1.2 _ (bh (by omega:256<(fi l).length) 0);refine bB ?_;refine cC K ?_;refine ab 0 ?_;refine ab 1 ?_;refine ab 2 ?_;refine ab 4 ?_;refine ab 5 ?_;refine ab 6 ?_;refine az 3 ?_;refine aE ?_;refine az 7 ?_;refine gC rfl .no abD rfl (RU (s:=256) hsg RB aa (kL aa aa (by unfold JR;simp)) aa_) rfl (by rintro _ _ ⟨rfl,A53,c53,rfl⟩;exact gF) ?_;rintro _ _ ⟨rfl,A53,c53,cJ⟩;obtain rfl:=cJ.symm;refine bD ?_;refine ay rfl (agh _ (by simp only[aX,mV];omega)) fun A57 c57=>?_;refine be ?_;refine ve [2,3] ?_;refine be ?_;refine ao (.cons (.skip (.skip hwF))) ?_;refine aE ?_;rw[afI aa hm];have e:qx l=iq (fi l) 0++iq (ir l) 0++mJ (fi l) (ir l) l++hw (fi l) 256:=by unfold qx;simp only[bV]
   rw[e];exact⟨A57,c57,rfl,rfl⟩
theorem afQ{l:List bN}(hb:aL B w0 F 3 (.slice A l.length c) l.length (kV l))(wR:l.length<9223372036854775808):
  a_ B w0 144 [.slice A l.length c] F (fun r L=>∃A' c',r= .tuple #[.slice A' (ly l).1.length c',ah (ly l).2]∧L= .own 5 1 A' (ly l).1.length c' (bv (ly l).1)::F):=by
 by_cases hm:∀t∈l,fa t
 ·exact aat hb wR hm
 ·exact TI hb wR hm
end
theorem Uc{P:Prop}(h:P:=by(simp[ei.all,hl])):P:=h
abbrev Gp(l:al)(F:aR)(r:Value)(L:aR):Prop:=∃A' c',r= .slice A' l.length c'∧L= .own 5 1 A' l.length c' (bv l)::F
theorem Qw(hb:aL B w0 F 1 (.slice A 2 c) 2 [s1,s2])(h1:aL B w0 F 1 s1 l1.length (bv l1))(h2:aL B w0 F 1 s2 l2.length (bv l2))(hl:l=l1++l2)(hn:l.length≤1099511627776):
  a_ B w0 52 [.slice A 2 c] F (Gp l F):=
 xu (P:=[(s1,l1),(s2,l2)]) hb (by intro y hy;simp only[fm,ml,oj]at hy;rcases hy with rfl|rfl<;>first|exact h1|exact h2) rfl Uc hn ak
theorem Jv(hb:aL B w0 F 1 (.slice A 3 c) 3 [s1,s2,s3])(h1:aL B w0 F 1 s1 l1.length (bv l1))(h2:aL B w0 F 1 s2 l2.length (bv l2))(h3:aL B w0 F 1 s3 l3.length (bv l3))(hl:l=l1++(l2++l3))(hn:l.length≤1099511627776):
  a_ B w0 52 [.slice A 3 c] F (Gp l F):=
 xu (P:=[(s1,l1),(s2,l2),(s3,l3)]) hb (by intro y hy;simp only[fm,ml,oj]at hy;rcases hy with rfl|rfl|rfl<;>first|exact h1|exact h2|exact h3) rfl Uc hn ak
theorem Qx(hb:aL B w0 F 1 (.slice A 4 c) 4 [s1,s2,s3,s4])(h1:aL B w0 F 1 s1 l1.length (bv l1))(h2:aL B w0 F 1 s2 l2.length (bv l2))(h3:aL B w0 F 1 s3 l3.length (bv l3))(h4:aL B w0 F 1 s4 l4.length (bv l4))(hl:l=l1++(l2++(l3++l4)))(hn:l.length≤1099511627776):
  a_ B w0 52 [.slice A 4 c] F (Gp l F):=
 xu (P:=[(s1,l1),(s2,l2),(s3,l3),(s4,l4)]) hb (by intro y hy;simp only[fm,ml,oj]at hy;rcases hy with rfl|rfl|rfl|rfl<;>first|exact h1|exact h2|exact h3|exact h4) rfl Uc hn ak
theorem Jw(hb:aL B w0 F 1 (.slice A 5 c) 5 [s1,s2,s3,s4,s5])(h1:aL B w0 F 1 s1 l1.length (bv l1))(h2:aL B w0 F 1 s2 l2.length (bv l2))(h3:aL B w0 F 1 s3 l3.length (bv l3))(h4:aL B w0 F 1 s4 l4.length (bv l4))(h5:aL B w0 F 1 s5 l5.length (bv l5))(hl:l=l1++(l2++(l3++(l4++l5))))(hn:l.length≤1099511627776):
  a_ B w0 52 [.slice A 5 c] F (Gp l F):=
 xu (P:=[(s1,l1),(s2,l2),(s3,l3),(s4,l4),(s5,l5)]) hb (by intro y hy;simp only[fm,ml,oj]at hy;rcases hy with rfl|rfl|rfl|rfl|rfl<;>first|exact h1|exact h2|exact h3|exact h4|exact h5) rfl Uc hn ak
def ai':cV:=yS.map fun(n:Nat)=>Value.int .u32 (n:Int)
def bK(B:Nat)(w0:World):Prop:=aL B w0 [] 1 (.slice (some ⟨0,0,none⟩) 16 16) 16 ai'
theorem Pr{i:Nat}(h:i<16):ai'[i]? =some (.int .u32 ((yS.getD i 0:Nat):Int)):=by
 have h2:i<yS.length:=h;unfold ai';rw[jt,fo h2,bk,fo h2];rfl
theorem H8{C:Cx}{fr:Fr}{L:aR}{x:Operand}{ty t:TypeId}{n:Nat}(h:ev fr x=some (.int .u32 (n:Int)))(hn:n<4294967296):gI C fr L (.unOp .xor t x) ty (.int .u32 ((4294967295 ^^^ n:Nat):Int)):=fun a w ha hw d pos af g=>by
 have e:=Xf (a:=4294967295) (b:=n) aA hn;have e2:(if IntKind.u32.signed=true then (-1:Int) else IntKind.u32.max)=((4294967295:Nat):Int):=rfl;rw[←e];simp[execOp,Op.unary,ha.tmp h,Op.intBits,e2]
theorem xO{C:Cx}{fr:Fr}{L:aR}{x:Operand}{ty t:TypeId}{i:Nat}(HT:bK C.B C.w0)(hs:pZ C.P t=true)(he:ev fr x=some (.pointer (some ⟨0,0+i,none⟩)))(hi:i<16):gI C fr L (.load t x) ty (.int .u32 ((yS.getD i 0:Nat):Int)):=
 au (A:=some ⟨0,0,none⟩) (j:=i) (nn:=16) (c:=16) (xs:=ai') hs (by rw[he];simp[zY]) (HT.mono (NV _)) aA (Pr hi)
theorem aih(HT:bK B w0){s:Nat}(hs:s<4294967296)(hr:aL B w0 F 1 (.slice A 1 c) 1 [.slice A2 l.length c2])(hb:fq B w0 F A2 c2 l)(hl:l.length≤1099511627776):
  a_ B w0 146 [.int .u32 (s:Int),.slice A 1 c] F (fun r L=>r= .int .u32 ((pV s l:Nat):Int)∧L=F):=by
 obtain⟨x0,hx0⟩:=cR (4294967295 ^^^ s);have asZ:x0<4294967296:=by rw[hx0];exact BB (n:=32) aA hs
 refine fw func146 46 [0,1] ?_;refine bM ?_;refine ae (H8 (n:=s) rfl hs) rfl ?_;refine cD ?_;refine aD (fun zf zL zm=>∃(k x:Nat),(k≤1∧x<4294967296∧(k=0→x=x0)∧(k=1→x=l.foldl QY x0))∧1-k=zm∧Sub zf [(5,.int .u32 (x:Int)),(12,.slice A 1 c),(13,ah 1),(14,ah k)]∧Wk zL (F)) _ ⟨0,4294967295 ^^^ s,⟨bS _,by rw[←hx0];exact asZ,fun _=>hx0.symm,fun h=>absurd h aA⟩,rfl,bm,.refl _⟩ ?_;rintro _ _ _ ⟨k,x,⟨hk,hx,CA,xo⟩,rfl,hs,hp⟩;refine aU hs hp ?_;clear hs hp;refine bB ?_;refine aj (fun kS=>?_) fun kS=>?_
 ·obtain rfl:k=0:=by omega
  obtain rfl:x=x0:=CA rfl;refine bD ?_;refine ae (au ag rfl aB aa (show([.slice A2 l.length c2]:cV)[0*1]? =some _ from rfl)) rfl ?_;refine dm ?_;refine aD (fun zf zL zm=>∃(j y:Nat),(j≤l.length∧y<4294967296∧y=(l.take j).foldl QY x)∧l.length-j=zm∧Sub zf [(5,.int .u32 (y:Int)),(12,.slice A 1 c),(13,ah 1),(14,ah 0),(18,.slice A2 l.length c2),(19,ah l.length),(20,ah j)]∧Wk zL (F)) _ ⟨0,x,⟨bS _,hx,by rw[Ah];rfl⟩,rfl,bm,.refl _⟩ ?_;rintro _ _ _ ⟨j,y,⟨hj,hy,hye⟩,rfl,hs,hp⟩;refine aU hs hp ?_;clear hs hp;refine bB ?_;refine aj (fun lV=>?_) fun lV=>?_
  ·have tz:=(l.getD j 0).toNat_lt;have Kn:y ^^^ (l.getD j 0).toNat<4294967296:=BB (n:=32) hy aa;have tZ:=aZ (show j<l.length by omega) (0:UInt8);obtain⟨d,hd⟩:=cR (l.getD j 0);obtain⟨z,hz⟩:=cR (y ^^^ d.toNat);rw[←hd]at tz Kn tZ;rw[←hz]at Kn;have vD:=JS Kn;have hzs:=S7 z 4;have aug:=S7 (zu z) 4;have hza:z &&& 15<16:=NY (n:=4) z aA;have aqx:zu z &&& 15<16:=NY (n:=4) (zu z) aA;refine bM ?_;rw[←hd];refine bD ?_;refine ae (bw (r:=(d.toNat:Int)) underlying5 underlying135 rfl (aga aa aa)) rfl ?_;refine ae (ng rfl rfl (r:=(z:Int)) (by rw[hz];exact Xf hy aa)) rfl ?_;refine bB ?_;refine ae (di rfl rfl aA (r:=((z >>> 4:Nat):Int)) (G' z 4)) rfl ?_;refine aE ?_;refine ae (jZ rfl rfl (r:=((z &&& 15:Nat):Int)) (aaV Kn (b:=15) aA)) rfl ?_;refine ae (aN (i:=z &&& 15) underlying303 ag rfl rfl rfl hza) rfl ?_;refine ae (xO HT ag rfl hza) rfl ?_;refine ae (ng rfl rfl (r:=((zu z:Nat):Int)) (Xf aa (FC _))) rfl ?_;refine aE ?_;refine ve [5,12,13,14,18,19,20] ?_;refine bH ?_;refine ae (di rfl rfl aA (r:=((zu z >>> 4:Nat):Int)) (G' (zu z) 4)) rfl ?_;refine aE ?_;refine ae (jZ rfl rfl (r:=((zu z &&& 15:Nat):Int)) (aaV vD (b:=15) aA)) rfl ?_;refine ae (aN (i:=zu z &&& 15) underlying303 ag rfl rfl rfl aqx) rfl ?_;refine ae (xO HT ag rfl aqx) rfl ?_;refine ae (ng rfl rfl (r:=((QY y d:Nat):Int)) (by rw[show QY y d=zu (zu z) by rw[hz];rfl];exact Xf aa (FC _))) rfl ?_;refine bM ?_;refine av ⟨_,aa,j+1,QY y d,⟨aa,ag7 hy d,by rw[tZ,List.foldl_append,←hye];rfl⟩,rfl,bm,.refl _⟩
  ·obtain rfl:j=l.length:=by omega
   rw[jN]at hye;refine bz ?_;refine av ⟨_,aa,1,y,⟨gj _,hy,fun h=>absurd h aA,fun _=>hye⟩,rfl,bm,.refl _⟩
 ·obtain rfl:k=1:=by omega
  have xo:=xo rfl;refine bM ?_;refine ae (H8 (n:=x) rfl hx) rfl ?_;refine bI ?_;exact⟨by rw[xo,hx0];rfl,rfl⟩
theorem akO(HT:bK B w0)(hb:fq B w0 F A c l)(hl:l.length≤1099511627776):
  a_ B w0 85 [.slice A l.length c] F (fun r L=>r= .int .u32 ((pV 0 l:Nat):Int)∧L=F):=by
 refine fw func85 6 [0] ?_;refine bM ?_;refine cH (aF fH [_] rfl rfl cA aa aa) fun A4=>?_;refine ai rfl (aih (s:=0) HT aA aB aB hl) ?_;refine b8 ?_;refine ao (L':=F) (.skip (.refl _)) ?_;refine aE ?_;exact⟨rfl,rfl⟩
theorem u8w(n:Nat):IntKind.u8.wrap ((n:Nat):Int)=((UInt8.ofNat n).toNat:Int):=by
 show((n:Nat):Int)%2^8=_;rw[oi];omega
theorem afb{s:Nat}:a_ B w0 84 [.int .u32 (s:Int)] F (fun r L=>∃A',r= .slice A' 4 4∧L= .own 5 1 A' 4 4 (bv (mn s))::F):=by
 refine fw func84 15 [0] ?_;refine bM ?_;refine ae (bw (r:=((UInt8.ofNat s).toNat:Int)) underlying135 underlying5 rfl (u8w s)) rfl ?_;refine aE ?_;refine ae (di rfl rfl aA (r:=((s >>> 8:Nat):Int)) (G' s 8)) rfl ?_;refine ae (bw (r:=((UInt8.ofNat (s >>> 8)).toNat:Int)) underlying135 underlying5 rfl (u8w (s >>> 8))) rfl ?_;refine aE ?_;refine ae (di rfl rfl aA (r:=((s >>> 16:Nat):Int)) (G' s 16)) rfl ?_;refine ae (bw (r:=((UInt8.ofNat (s >>> 16)).toNat:Int)) underlying135 underlying5 rfl (u8w (s >>> 16))) rfl ?_;refine aE ?_;refine ae (di rfl rfl aA (r:=((s >>> 24:Nat):Int)) (G' s 24)) rfl ?_;refine ae (bw (r:=((UInt8.ofNat (s >>> 24)).toNat:Int)) underlying135 underlying5 rfl (u8w (s >>> 24))) rfl ?_;refine cH (aF cN [_,_,_,_] rfl rfl cA aa aa) fun A14=>?_;refine bI ?_;exact⟨A14,rfl,rfl⟩
theorem qC(HT:bK B w0)(hb:fq B w0 F A c l)(hl:l.length≤1099511627776):
  a_ B w0 46 [.slice A l.length c] F (fun r L=>∃A' c',r= .slice A' (cY l).length c'∧L= .own 5 1 A' (cY l).length c' (bv (cY l))::F):=by
 rw[du];refine fw func46 9 [0] ?_;refine bM ?_;refine ay rfl (l9 l aB hl) fun A4 c4=>?_;refine aE ?_;refine ai rfl (akO HT aB hl) ?_;refine ba apv rfl (afb (s:=pV 0 l)) rfl ?_;rintro _ _ ⟨A7,rfl,cJ⟩;obtain rfl:=cJ.symm;refine gw (bW cN rfl aV rfl aB cA aa aa) fun A8 c8=>?_;refine b8 ?_;refine ao (L':=.own 5 1 A8 (l.length+4) c8 (bv l++bv (mn (pV 0 l)))::F) (.skip (.refl _)) ?_;refine aE ?_;exact⟨A8,c8,rfl,by unfold cY bv;rw[jd]⟩
theorem apy{l l2:al}(h1:fq B w0 F A c l)(h2:fq B w0 F A2 c2 l2)(hl:l.length≤1099511627776):
  a_ B w0 132 [.slice A l.length c,.slice A2 l2.length c2] F (fun r L=>r= .bool (decide (l=l2))∧L=F):=by
 refine fw func132 26 [0,1] ?_;refine i_ ?_;refine aj (fun jB=>?_) fun jB=>?_
 ·refine bM ?_;exact⟨by rw[nD (fun h=>jB (by rw[h]))],rfl⟩
 ·refine dm ?_;refine aD (fun zf zL zm=>∃(k:Nat),(k≤l.length∧l.take k=l2.take k)∧l.length-k=zm∧Sub zf [(0,.slice A l.length c),(1,.slice A2 l2.length c2),(12,ah l.length),(13,ah k)]∧Wk zL (F)) _ ⟨0,⟨bS _,rfl⟩,rfl,bm,.refl _⟩ ?_;rintro _ _ _ ⟨k,⟨hk,heq⟩,rfl,hs,hp⟩;refine aU hs hp ?_;clear hs hp;refine bB ?_;refine aj (fun jC=>?_) fun jC=>?_
  ·have ht1:=aZ (show k<l.length by omega) (0:UInt8);have ht2:=aZ (show k<l2.length by omega) (0:UInt8);have hv1:(bv l)[k*1]? =some (.int .u8 ((l.getD k 0).toNat:Int)):=by rw[cE];simp[bv,List.getD,fo (show k<l.length by omega)]
   have Vp:(bv l2)[k*1]? =some (.int .u8 ((l2.getD k 0).toNat:Int)):=by rw[cE];simp[bv,List.getD,fo (show k<l2.length by omega)]
   refine i_ ?_;refine bU (au ag rfl h1 aa hv1) rfl ?_;refine bH ?_;refine bU (au ag rfl h2 aa Vp) rfl ?_;refine bH ?_;refine aj (fun oh=>?_) fun oh=>?_
   ·refine cD ?_;exact⟨by rw[nD (fun h=>oh (by rw[h]))],rfl⟩
   ·refine bD ?_;refine av ⟨_,aa,k+1,⟨aa,by rw[ht1,ht2,heq,qh.1 (show(l.getD k 0).toNat=(l2.getD k 0).toNat by omega)]⟩,rfl,bm,.refl _⟩
  ·refine cD ?_;have e:l=l2:=by
    have:=heq
    rwa [fD aa,fD aa]at this
   exact⟨by rw[lD e],rfl⟩
theorem ab0{l l2:al}{n n2:Nat}{xs ys:cV}(e1:n=l.length)(e2:xs=bv l)(e3:n2=l2.length)(e4:ys=bv l2)(h1:aL B w0 F 1 (.slice A n c) n xs)(h2:aL B w0 F 1 (.slice A2 n2 c2) n2 ys)(hl:l.length≤1099511627776):
  a_ B w0 132 [.slice A n c,.slice A2 n2 c2] F (fun r L=>r= .bool (decide (l=l2))∧L=F):=by
 subst e1;subst e2;subst e3;subst e4;exact apy h1 h2 hl
theorem aq9{n:Nat}{xs:cV}(HT:bK B w0)(e1:n=l.length)(e2:xs=bv l)(hb:aL B w0 F 1 (.slice A n c) n xs)(hl:l.length≤1099511627776):
  a_ B w0 85 [.slice A n c] F (fun r L=>r= .int .u32 ((pV 0 l:Nat):Int)∧L=F):=by
 subst e1;subst e2;exact akO HT hb hl
theorem wF(HT:bK B w0)(hb:fq B w0 F A c l)(hl:l.length≤1099511627776):
  a_ B w0 176 [.slice A l.length c] F (fun r L=>∃A' c',r= .tuple #[.slice A' (aK l).1.length c',ah (aK l).2]∧L= .own 5 1 A' (aK l).1.length c' (bv (aK l).1)::F):=by
 refine dP.zk hb fun oA _=>?_;refine fw func176 24 [0] ?_;refine GL ?_;refine aj (fun h9=>?_) fun h9=>?_
 ·have e:aK l=([],1):=aq aa;rw[e];refine bM ?_;refine aC 5 1 none ?_;refine aE ?_;exact⟨none,0,rfl,rfl⟩
 ·have h4:4≤l.length:=by omega
  obtain⟨m,hm⟩:=cR (l.length-4);have hmm:(l.length:Int)-4=(m:Int):=by omega
  have hcut:=hb.cut (k:=m) aa;have zb:=hb.js (k:=m) aa;have hd1:(bv l).drop (m*1)=bv (l.drop m):=by rw[cE];simp[bv,yj]
  have Yz:(bv l).take (m*1)=bv (l.take m):=by rw[cE];simp[bv,pw]
  rw[hd1]at hcut;rw[Yz]at zb;have tA:l.length-m=(l.drop m).length:=by rw[iN]
  have rN:m=(l.take m).length:=by rw[eV];omega
  have LG:(l.take m).length≤1099511627776:=by rw[eV];omega
  have hl4:(l.drop m).length≤1099511627776:=by rw[iN];omega
  refine b8 ?_;refine cC F ?_;refine ab 0 ?_;refine ab 1 ?_;refine aW 2 rfl (bT (i:=m) (size:=1) underlying27 ag rfl rfl hmm aa) ?_;refine ab 3 ?_;refine ab 4 ?_;refine aW 5 rfl (bZ (i:=m) (size:=1) underlying27 ag rfl rfl hmm aa) ?_;refine az 6 ?_;refine iZ rfl rfl (aq9 (l:=l.take m) HT rN rfl zb LG) ?_;refine az 7 ?_;refine gC rfl .no apv rfl (afb (s:=pV 0 (l.take m))) rfl (by rintro _ _ ⟨T4,rfl,rfl⟩;exact gF) ?_;rintro _ _ ⟨T4,rfl,cJ⟩;obtain rfl:=cJ.symm;refine az 8 ?_;refine iZ rfl rfl (ab0 (l:=l.drop m) (l2:=mn (pV 0 (l.take m))) tA rfl rfl rfl hcut.cons (aL.own (.head _)) hl4) ?_;refine ab 9 ?_;refine be ?_;refine aj (fun sL=>?_) fun sL=>?_
  ·have e:aK l=([],5):=by unfold aK;rw[aw aa,aw (by rw[←hm];exact sL)]
   rw[e];refine b8 ?_;refine ve [2,3] ?_;refine bH ?_;refine aC 5 1 none ?_;refine ao (L':=.own 5 1 none 0 0 []::F) (.cons (.skip (.refl _))) ?_;refine aE ?_;exact⟨none,0,rfl,rfl⟩
  ·have e:aK l=(l.take m,0):=by unfold aK;rw[aw aa,aq (by rw[←hm];exact j0.1 sL),←hm]
   rw[e];simp only;rw[←rN];refine bB ?_;refine ae (bZ (i:=m) (size:=1) underlying27 ag rfl rfl hmm aa) rfl ?_;refine ay rfl (l9 (l.take m) zb.cons aa) fun A23 c23=>?_;refine be ?_;refine ve [2,3] ?_;refine be ?_;refine ao (L':=.own 5 1 A23 m c23 (bv (l.take m))::F) (.cons (.skip (.refl _))) ?_;refine aE ?_;exact⟨A23,c23,rfl,rfl⟩
theorem ZY{b:al}(hb:fq B w0 F A c b)(dh:b.length≤1000000):
  a_ B w0 83 [.slice A b.length c] F (fun r L=>∃A' c',r= .tuple #[.slice A' (LR b).1.length c',.bool (decide (ZX b))]∧L= .own 5 1 A' (LR b).1.length c' (bv (LR b).1)::F):=by
 have lZ:=Yd b;refine fw func83 22 [0] ?_;refine bP ?_;refine ay rfl (alL hb dh) fun A8 c8=>?_;refine ay rfl (afQ (l:=jr b) aB aa) fun A9 c9=>?_;refine c_ ?_;refine ct (fun kS=>?_) fun kS=>?_
 ·have e:decide (((LR b).1.length:Int)<b.length)=decide (ZX b):=z_.2 ⟨fun h=>⟨kS,aa⟩,fun h=>(by have:=h.2;omega)⟩;refine cD ?_;refine ve [2,3] ?_;refine be ?_;refine ao (.cons (.skip (.refl _))) ?_;refine aE ?_;exact⟨A9,c9,by rw[←e];rfl,rfl⟩
 ·have e:false=decide (ZX b):=(nD fun h=>kS h.1).symm;refine bD ?_;refine ve [2,3] ?_;refine be ?_;refine ao (.cons (.skip (.refl _))) ?_;refine aE ?_;exact⟨A9,c9,by rw[←e];rfl,rfl⟩
theorem agJ{b:al}{p:Bool}(h:32768<b.length):jF b p=([],6):=by unfold jF;rw[aq h]
theorem JD{b:al}{p:Bool}(h:¬32768<b.length):jF b p=(cY (xC b p++(ki b p).2),0):=by unfold jF;rw[aw h]
theorem Mu(HT:bK B w0){b:al}{p:Bool}(hb:fq B w0 F A c b)(dh:b.length≤1099511627776):
  a_ B w0 44 [.slice A b.length c,.bool p] F (fun r L=>∃A' c',r= .tuple #[.slice A' (jF b p).1.length c',ah (jF b p).2]∧L= .own 5 1 A' (jF b p).1.length c' (bv (jF b p).1)::F):=by
 refine fw func44 41 [0,1] ?_;refine dX ?_;refine aj (fun nh=>?_) fun nh=>?_
 ·rw[agJ aa];refine bM ?_;refine aC 5 1 none ?_;refine aE ?_;exact⟨none,0,rfl,rfl⟩
 ·rw[JD aa];refine bP ?_;refine d_ (fun zf zL=>∃(M:aR) (Ab:bj) (cb:Nat) (w:UInt8) (bd:al),(ki b p=(w,bd)∧Wk M F∧aL B w0 M 1 (.slice A b.length c) b.length (bv b)∧aL B w0 M 1 (.slice Ab bd.length cb) bd.length (bv bd))∧Sub zf [(0,.slice A b.length c),(6,.int .u8 (w.toNat:Int)),(7,.slice Ab bd.length cb)]∧Wk zL (M)) ?_ ?_
  ·refine bH ?_;refine ae (jx rfl) rfl ?_;refine be ?_;refine h_ (fun kH=>?_) fun kH=>?_
   ·have amn:p=false:=by cases p<;>simp at kH⊢
    refine bH ?_;refine ay rfl (ZY hb aa) fun Lr c19=>?_;refine cD ?_;refine aj (fun pX=>?_) fun pX=>?_
    ·refine b8 ?_;refine ve [0,6,7] ?_;exact bC ⟨.own 5 1 Lr (LR b).1.length c19 (bv (LR b).1)::F,Lr,c19,1,(LR b).1,⟨by unfold ki;rw[aq ⟨amn,pX⟩],.skip (.refl _),hb.cons,aL.own (.head _)⟩,bm,.refl _⟩
    ·refine aE ?_;exact bC ⟨.own 5 1 Lr (LR b).1.length c19 (bv (LR b).1)::F,A,c,0,b,⟨by unfold ki;rw[aw fun k=>pX k.2],.skip (.refl _),hb.cons,hb.cons⟩,bm,.refl _⟩
   ·have amn:¬p=false:=by cases p<;>simp at kH⊢
    refine aE ?_;exact bC ⟨F,A,c,0,b,⟨by unfold ki;rw[aw fun k=>amn k.1],.refl _,hb,hb⟩,bm,.refl _⟩
  ·rintro _ _ ⟨M,Ab,cb,w,bd,⟨hY,hM,hbM,hbB⟩,hs,hp⟩;refine aU hs hp ?_;clear hs hp;refine aE ?_;have Qd:bd.length≤b.length:=by have:=xD b p;rw[hY]at this;exact this
   have hBH:xC b p=[w]++(aS b.length++aS bd.length):=by unfold xC;rw[hY];rfl
   have hBB:(ki b p).2=bd:=by rw[hY]
   have hn1:=aT (x:=b.length) aa;have tW:=aT (x:=bd.length) aa;have hlH:(xC b p).length≤30:=by rw[hBH,aX,aX,qg];omega
   rw[hBB];refine be ?_;refine cH (aF cN [_] rfl rfl cA aa aa) fun Hh=>?_;refine be ?_;refine ae (bw underlying3 underlying60 rfl (r:=(b.length:Int)) (ga aa aa)) rfl ?_;refine ay rfl (iP b.length aa) fun A29 c29=>?_;refine be ?_;refine ae (bw underlying3 underlying60 rfl (r:=(bd.length:Int)) (ga aa aa)) rfl ?_;refine ay rfl (iP bd.length aa) fun P6 c33=>?_;refine cH (aF fH [_,_,_] rfl rfl cA aa aa) fun vM=>?_;refine ay rfl (Jv (l1:=[w]) (l2:=aS b.length) (l3:=aS bd.length) aB aB aB aB hBH aa) fun Lt c35=>?_;refine bD ?_;refine cH (aF fH [_,_] rfl rfl cA aa aa) fun LU=>?_;refine ay rfl (Qw (l1:=xC b p) (l2:=bd) aB aB aB rfl tG) fun A39 c39=>?_;refine ay rfl (qC HT (l:=xC b p++bd) aB tG) fun A40 c40=>?_;refine be ?_;refine ve [4,5] ?_;refine be ?_;refine ao (.cons (.skip (.skip (.skip (.skip (.skip (.skip (.skip hM)))))))) ?_;refine aE ?_;exact⟨A40,c40,rfl,rfl⟩
section
variable{sl:al}
theorem aol{P:Prop}(h:P:=by(have:=Pf (x:=1) (d:=b) (e:=(b:Int)) rfl (by omega) (by omega);rw[rm]at this;exact this)):P:=h
theorem aoh{P:Prop}(h:P:=by(exact dU (by first|exact trivial|omega|(exact⟨fun _=>trivial,fun _=>by omega⟩)|(exact fun h=>h (by omega))))):P:=h
theorem agA{P:Prop}(h:P:=by(exact eT (by first|exact trivial|omega|(exact⟨fun _=>trivial,fun _=>by omega⟩)|(exact fun h=>h (by omega))))):P:=h
theorem T'{P:Prop}(h:P:=by(rw[aX,qg];omega)):P:=h
theorem ab7{x b:Nat}(hb:b≤11)(hx:x<2^b):a_ B w0 356 [ah x,ah b] F (fun r L=>r= .bool true∧L=F):=by
 have hp:2^b≤2048:=k_ (n:=2) aa hb;refine fw func356 13 [0,1] ?_;refine bD ?_;refine bR 8 12 [] (True) ?_ ?_
 ·refine bH ?_;refine ct (fun h7=>?_) fun h7=>?_
  ·refine b8 ?_;refine ae (gb rfl rfl aa (r:=((2^b:Nat):Int)) aol) rfl ?_;refine bH ?_;exact aM aoh
  ·refine b8 ?_;exact aM agA
 ·refine bI ?_;exact⟨ak,rfl⟩
theorem amA{b x k y:Nat}(hb:b≤7)(hx:x<2^b)(hk:k≤11)(hy:y<2^k):a_ B w0 354 [.agg #[ah ((257+b:Nat):Int),ah x,ah k,ah y]] F
  (fun r L=>r= .tuple #[.agg #[.int .u8 0,ah ((2+2^b+x:Nat):Int),ah ((2^k+y:Nat):Int)],ah 0]∧L=F):=by
 have LH:2^b≤128:=k_ (n:=2) aa hb;have x':2^k≤2048:=k_ (n:=2) aa hk;refine fw func354 70 [0] ?_;refine be ?_;refine bf fun g1=>?_;refine bg fun g2=>?_;refine bD ?_;refine bR 8 13 [1,2] (False) ?_ ?_
 ·refine b8 ?_;refine ct (fun h9=>?_) fun h9=>?_
  ·refine bB ?_;exact aM (by exact dU (by first|omega|(exact⟨fun h=>by omega,False.elim⟩)|(exact fun h=>h)))
  ·refine bH ?_;exact aM (by rfl)
 ·refine bH ?_;refine aj (fun h5=>?_) fun h5=>?_
  ·exfalso;exact h5
  ·refine be ?_;refine bR 18 41 [1,2] (True) ?_ ?_
   ·refine b8 ?_;refine ct (fun ku=>?_) fun ku=>?_
    ·refine bD ?_;refine ct (fun Bu=>?_) fun Bu=>?_
     ·refine bD ?_;refine ct (fun D5=>?_) fun D5=>?_
      ·refine bB ?_;exact aM aoh
      ·refine bH ?_;exact aM agA
     ·refine bM ?_;exact aM agA
    ·refine c_ ?_;exact aM agA
   ·refine bH ?_;refine aj (fun oO=>?_) fun oO=>?_
    ·refine b8 ?_;refine ae (dQ rfl rfl (r:=((b:Nat):Int)) ((bG aa aa).trans aa)) rfl ?_;refine bM ?_;refine ai rfl (ab7 (x:=x) (b:=b) aa hx) ?_;refine aE ?_;refine nN rfl rfl rfl (fun Yp=>?_) (fun Yp=>?_)
     ·refine bM ?_;refine ai rfl (ab7 (x:=y) (b:=k) aa hy) ?_;refine bH ?_;refine h_ (fun Yq=>?_) fun Yq=>?_
      ·refine aE ?_;refine cC (.bE g1 166 [ah ((257+b:Nat):Int),ah x,ah k,ah y]::F) ?_;refine ab 0 ?_;refine aW 1 rfl (gb rfl rfl aa (r:=((2^b:Nat):Int)) aol) ?_;refine aW 2 rfl (bY rfl rfl (r:=((2+2^b:Nat):Int)) ((bG aa aa).trans aa)) ?_;refine ab 3 ?_;refine ab 4 ?_;refine aW 5 rfl (bY rfl rfl (r:=((2+2^b+x:Nat):Int)) ((bG aa aa).trans aa)) ?_;refine ab 6 ?_;refine ab 7 ?_;refine aW 8 rfl (gb rfl rfl aa (r:=((2^k:Nat):Int)) (by have:=Pf (x:=1) (d:=k) (e:=(k:Int)) rfl aa aa;rw[rm]at this;exact this)) ?_;refine ab 9 ?_;refine ab 10 ?_;refine aW 11 rfl (bY rfl rfl (r:=((2^k+y:Nat):Int)) ((bG aa aa).trans aa)) ?_;refine aW 12 rfl (br [(1,_),(2,_)] [.int .u8 0,ah 0,ah 0] [1,2] [_,_,_] rfl rfl ag) ?_;refine az 13 ?_;refine aE ?_;refine ab 14 ?_;refine cP [2,3] ?_;refine b8 ?_;refine ao (.cons (.skip (.refl _))) ?_;refine gS rfl rfl ag aV gD rfl (.skip (.refl _)) ?_;exact⟨rfl,rfl⟩
      ·exfalso;cases Yq
     ·exfalso;cases Yp
    ·exfalso;exact oO trivial
theorem E8(q:List Bool)(N:Nat):∀f p acc s,(lG q N f p acc s).2.1=0→Good (lG q N f p acc s).1
 |0,p,acc,s=>fun h=>by
  unfold lG fin at h⊢;by_cases hg:Good acc
  ·rw[aq hg];exact hg
  ·rw[aw hg]at h;cases h
 |f+1,p,acc,s=>fun h=>by
  unfold lG at h⊢;split at h
  ·rename_i h1;rw[aq h1];unfold fin at h⊢;by_cases hg:Good acc
   ·rw[aq hg];exact hg
   ·rw[aw hg]at h;cases h
  ·rename_i h1;rw[aw h1];split at h
   ·rename_i h2;exact absurd h h2
   ·rename_i h2;rw[aw h2];split at h
    ·rename_i h3;rw[aq h3];exact E8 q N f _ _ _ h
    ·rename_i h3;rw[aw h3];split at h
     ·rename_i h4;exact absurd h h4
     ·rename_i h4;rw[aw h4];split at h
      ·cases h
      ·rename_i h5;rw[aw h5];exact E8 q N f _ _ _ h
theorem aeo{q:List Bool}{p:Nat}{n:Int}(h:(qP q p n).2.1=0):Good (qP q p n).1:=by
 unfold qP at h⊢;split at h
 ·cases h
 ·rename_i h1;rw[aw h1];exact E8 q _ _ _ _ _ h
abbrev Rk(v1 v2:Value)(g gr:Nat)(A:bj)(c:Nat)(q:List Bool)(p:Nat)(F:aR):aR:=.bE g 455 [bq gr,v1,v2]::Rr gr A c q p F
theorem E6{p p':Nat}{k:Nat}{acc:al}{e:Int}{v1 v2:Value}(hp:p≤q.length)(hq:q.length≤8000000)(hk:k≤1000)(hR:qP q p k=(acc,e,p'))(he:¬e=0):
  a_ B w0 341 [bq g,ah k] (Rk v1 v2 g gr A c q p F) (fun r L=>r= .tuple #[.pointer none,ah e]∧L=Rk v1 v2 g gr A c q p' F):=by
 refine fw func341 24 [0,1] ?_;refine c_ ?_;refine ay rfl (.perm (MH q p hp hq k aa aa acc e p' hR) (WM _ _ _ _)) fun A14 c14=>?_;refine dX ?_;refine aj (fun iU=>?_) fun iU=>?_
 ·refine bI ?_;refine ve [4,5] ?_;refine bH ?_;refine ao ((tD (ef (ef (.skip (.refl _)))))) ?_;refine aE ?_;exact⟨rfl,rfl⟩
 ·exfalso;exact iU he
theorem AO{p p':Nat}{k:Nat}{acc:al}{v1 v2:Value}(hp:p≤q.length)(hq:q.length≤8000000)(hk:k≤1000)(hR:qP q p k=(acc,0,p')):
  a_ B w0 341 [bq g,ah k] (Rk v1 v2 g gr A c q p F) (fun r L=>∃g' Y,r= .tuple #[.pointer (some ⟨g',0,none⟩),ah 0]∧L=Rk v1 v2 g gr A c q p' (Y++F)∧xj B w0 Y g' acc):=by
 have hg:Good acc:=by have:=aeo (q:=q) (p:=p) (n:=k);rw[hR]at this;exact this rfl
 refine fw func341 24 [0,1] ?_;refine c_ ?_;refine ay rfl (.perm (MH q p hp hq k aa aa acc 0 p' hR) (WM _ _ _ _)) fun A14 c14=>?_;refine dX ?_;refine dj fun iU=>?_;refine bI ?_;refine ba aj3 rfl (adO (l:=acc) aB hg) rfl ?_;rintro _ _ ⟨g21,Y,rfl,cJ,x9⟩;obtain rfl:=cJ.symm;refine b8 ?_;refine ve [4,5] ?_;refine be ?_;refine ao (L':=Rk v1 v2 g gr A c q p' (Y++F)) (.trans (.dE (om Y [_,_,_,_] F)) ((tD (ef (ef (.skip (.refl _))))))) ?_;refine aE ?_;exact⟨g21,Y,rfl,rfl,x9⟩
theorem KG{p b:Nat}:(((257+b:Nat):Int)-257)=(b:Int):=by omega
theorem Sr{p b:Nat}(h:¬r_ q p b=0):mX fl q p ((257+b:Nat):Int)=((0,0,0),r_ q p b,iH q p b):=by
 unfold mX;rw[KG (p:=p),aq h]
theorem Ss{p b p1 p2:Nat}{e k:Int}(h:r_ q p b=0)(h1:iH q p b=p1)(h2:fC fl q p1=(k,e,p2))(h3:¬e=0):mX fl q p ((257+b:Nat):Int)=((0,0,0),e,p2):=by
 unfold mX;rw[KG (p:=p),aw (fun k=>k h),h1,h2,aq h3]
theorem St{p b p1 p2:Nat}{k:Int}(h:r_ q p b=0)(h1:iH q p b=p1)(h2:fC fl q p1=(k,0,p2))(h3:¬r_ q p2 k=0):mX fl q p ((257+b:Nat):Int)=((0,0,0),r_ q p2 k,iH q p2 k):=by
 unfold mX;rw[KG (p:=p),aw (fun k=>k h),h1,h2,aw (fun k=>k rfl),aq h3]
theorem Su{p b p1 p2 k:Nat}(h:r_ q p b=0)(h1:iH q p b=p1)(h2:fC fl q p1=((k:Int),0,p2))(h3:r_ q p2 k=0):mX fl q p ((257+b:Nat):Int)=((0,((2+2^b+oM q p b:Nat):Int),((2^k+oM q p2 k:Nat):Int)),0,iH q p2 k):=by
 unfold mX;rw[KG (p:=p),aw (fun k=>k h),h1,h2,aw (fun k=>k rfl),aw (fun k=>k h3)];simp
theorem acR{l:al}(x9:xj B w0 F g l)(hl:l.length≤300){p p2:Nat}{k e:Int}(hp:p≤q.length)(hq:q.length≤8000000)(hH:fC l q p=(k,e,p2)):
  a_ B w0 347 [bq g,bq g2] (Rr g2 A c q p F) (fun r L=>r= .tuple #[ah k,ah e]∧L=Rr g2 A c q p2 F):=by
 have:=amb (B:=B) (w0:=w0) (F:=F) (A:=A) (c:=c) (g2:=g2) (q:=q) x9 hl hp hq;rw[hH]at this;exact this
theorem aif{p b:Nat}(hb:b≤7)(hp:p≤q.length)(hq:q.length≤8000000)(x9:xj B w0 F g2 fl)(lZ:fl.length=12):
  a_ B w0 348 [bq g,ah ((257+b:Nat):Int)] (Rk (bq g1) (bq g2) g gr A c q p F)
   (fun r L=>r= .tuple #[.agg (bN.cells (mX fl q p ((257+b:Nat):Int)).1).toArray,ah (mX fl q p ((257+b:Nat):Int)).2.1]∧L=Rk (bq g1) (bq g2) g gr A c q (mX fl q p ((257+b:Nat):Int)).2.2 F):=by
 have hv1:=zN q p (n:=b) aa;obtain⟨p1,B_⟩:∃x,iH q p b=x:=⟨_,rfl⟩
 have YI:p1≤q.length:=by rw[←B_];exact qF _ hp
 have kT:=u4 fl q YI;obtain⟨⟨k,e,p2⟩,hH⟩:∃x,fC fl q p1=x:=⟨_,rfl⟩
 rw[hH]at kT;simp only at kT;refine fw func348 63 [0,1] ?_;refine be ?_;refine bg fun g4=>?_;refine bz ?_;refine ae (dQ rfl rfl (r:=((b:Nat):Int)) ((bG aa aa).trans aa)) rfl ?_;refine ai rfl (.perm (Ip q p hp hq b aa aa) (WN _ _ _ _ _)) ?_;refine dX ?_;refine aj (fun lV=>?_) fun lV=>?_
 ·rw[Sr lV];refine be ?_;refine ae (cv [.int .u8 0,ah 0,ah 0] ag) rfl ?_;refine bH ?_;refine ve [4,5] ?_;refine bH ?_;refine ao ((rP (rP (ef (ef (.refl _)))))) ?_;refine gS rfl rfl ag aV gD rfl (.skip (.refl _)) ?_;exact⟨rfl,rfl⟩
 ·refine bH ?_;rw[B_];refine cC (.bE g 455 [bq gr,bq g1,bq g2]::F) ?_;refine ab 0 ?_;refine ab 1 ?_;refine ab 2 ?_;refine ab 3 ?_;refine ab 4 ?_;refine ab 5 ?_;refine ab 6 ?_;refine ab 7 ?_;refine az 8 ?_;refine iZ rfl rfl (acR x9.cons.cons aa YI hq hH) ?_;refine ab 9 ?_;refine ab 10 ?_;refine ab 11 ?_;refine ab 12 ?_;refine ab 13 ?_;refine cP [0,1,4,6,7,8] ?_;refine bM ?_;refine aj (fun D5=>?_) fun D5=>?_
  ·rw[Ss (bF lV) B_ hH D5];refine be ?_;refine ae (cv [.int .u8 0,ah 0,ah 0] ag) rfl ?_;refine bD ?_;refine ao ((rP (rP (ef (ef (.refl _)))))) ?_;refine gS rfl rfl ag aV gD rfl (.skip (.refl _)) ?_;exact⟨rfl,rfl⟩
  ·obtain rfl:e=0:=bF D5;obtain⟨s,rfl,hs,_⟩:=kT.2.2.1 rfl;refine bP ?_;refine ai rfl (Ip q p2 kT.2.1 hq s aa aa) ?_;refine dX ?_;refine aj (fun Iq=>?_) fun Iq=>?_
   ·rw[St (bF lV) B_ hH Iq];refine be ?_;refine ae (cv [.int .u8 0,ah 0,ah 0] ag) rfl ?_;refine bH ?_;refine ve [4,5] ?_;refine bH ?_;refine ao ((rP (rP (ef (ef (.refl _)))))) ?_;refine gS rfl rfl ag aV gD rfl (.skip (.refl _)) ?_;exact⟨rfl,rfl⟩
   ·have Vp:=zN q p2 (n:=s) aa;have LH:2^b≤128:=k_ (n:=2) aa hb;have x':2^s≤2048:=k_ (n:=2) aa (by omega:s≤11);rw[Su (bF lV) B_ hH (bF Iq)];obtain⟨y1,NN⟩:∃x,oM q p b=x:=⟨_,rfl⟩
    obtain⟨y2,R0⟩:∃x,oM q p2 s=x:=⟨_,rfl⟩
    rw[NN]at hv1⊢;rw[R0]at Vp⊢;refine bB ?_;refine ae (bw underlying60 underlying3 rfl (r:=(y1:Int)) (bG aa aa)) rfl ?_;refine be ?_;refine ae (bw underlying60 underlying3 rfl (r:=(y2:Int)) (bG aa aa)) rfl ?_;refine ae (eG [(0,_),(1,_),(2,_),(3,_)] [_,_,_,_] rfl rfl ag) rfl ?_;refine ai rfl (amA hb hv1 aa Vp) ?_;refine b8 ?_;refine ve [4,5] ?_;refine be ?_;refine ao ((rP (rP (ef (ef (.refl _)))))) ?_;refine gS rfl rfl ag aV gD rfl (.skip (.refl _)) ?_;exact⟨rfl,rfl⟩
theorem Tw{p p1:Nat}{k e:Int}(hH:fC sl q p=(k,e,p1))(h:¬e=0∨k=256):kg sl fl q p=((0,0,0),false,e,p1):=by
 unfold kg;rw[hH,aq h]
theorem Tx{p p1 s:Nat}(hH:fC sl q p=((s:Int),0,p1))(h:s<256):kg sl fl q p=((UInt8.ofNat s,0,0),true,0,p1):=by
 unfold kg;rw[hH,aw (fun k=>k.elim (fun k=>k rfl) fun k=>aa2),aq cZ];simp
theorem Ty{p p1 b:Nat}(hH:fC sl q p=(((257+b:Nat):Int),0,p1)):kg sl fl q p=((mX fl q p1 ((257+b:Nat):Int)).1,decide ((mX fl q p1 ((257+b:Nat):Int)).2.1=0),(mX fl q p1 ((257+b:Nat):Int)).2.1,(mX fl q p1 ((257+b:Nat):Int)).2.2):=by
 unfold kg;rw[hH,aw (fun k=>k.elim (fun k=>k rfl) fun k=>aa2),aw cZ]
theorem anK{s:Nat}(h:s<256):((UInt8.ofNat s).toNat:Int)=(s:Int):=by
 rw[oi];omega
theorem ajo(t:bN):∀u∈bN.cells t,u.oneCell'=true:=by simp[bN.cells,Value.oneCell']
theorem aeI{p gs gf:Nat}(hp:p≤q.length)(hq:q.length≤8000000)(RB:xj B w0 F gs sl)(hc2:xj B w0 F gf fl)(nP:sl.length=265)(lZ:fl.length=12):
  a_ B w0 342 [bq g] (Rk (bq gs) (bq gf) g gr A c q p F)
   (fun r L=>r= .tuple #[.agg (bN.cells (kg sl fl q p).1).toArray,.bool (kg sl fl q p).2.1,ah (kg sl fl q p).2.2.1]∧L=Rk (bq gs) (bq gf) g gr A c q (kg sl fl q p).2.2.2 F):=by
 have kT:=u4 sl q hp;obtain⟨⟨k,e,p1⟩,hH⟩:∃x,fC sl q p=x:=⟨_,rfl⟩
 rw[hH]at kT;simp only at kT;refine fw func342 43 [0] ?_;refine be ?_;refine bg fun g2=>?_;refine bI ?_;refine cC (.bE g 455 [bq gr,bq gs,bq gf]::F) ?_;refine ab 0 ?_;refine ab 1 ?_;refine ab 2 ?_;refine ab 3 ?_;refine ab 4 ?_;refine ab 5 ?_;refine ab 6 ?_;refine ab 7 ?_;refine az 8 ?_;refine iZ rfl rfl (.perm (acR (g:=gs) RB.cons.cons aa hp hq hH) (WN _ _ _ _ _)) ?_;refine ab 9 ?_;refine ab 10 ?_;refine ab 11 ?_;refine ab 12 ?_;refine ab 13 ?_;refine bB ?_;refine bR 6 24 [0,2,4,5] (¬e=0∨k=256) ?_ ?_
 ·refine bH ?_;refine aI rfl rfl rfl (fun lV=>?_) (fun lV=>?_)
  ·refine b8 ?_;exact aM Xx
  ·refine be ?_;exact aM Xw
 ·refine bH ?_;refine aj (fun iU=>?_) fun iU=>?_
  ·rw[Tw hH iU];refine cD ?_;refine ao ((rP (rP (ef (ef (.refl _)))))) ?_;refine qw rfl rfl ag aV gD rfl rfl (.skip (.refl _)) ?_;exact⟨rfl,rfl⟩
  ·have he0:e=0:=bF fun h=>iU (.inl h);subst he0;obtain⟨s,rfl,hs,_⟩:=kT.2.2.1 rfl;refine bD ?_;refine aj (fun ku=>?_) fun ku=>?_
   ·rw[Tx hH aa];refine bH ?_;refine ae (bw underlying3 underlying5 rfl (r:=((UInt8.ofNat s).toNat:Int)) (by rw[anK aa];exact aaE aa aa)) rfl ?_;refine ae (br [(0,_)] [.int .u8 0,ah 0,ah 0] [0] [_,_,_] rfl rfl ag) rfl ?_;refine bM ?_;refine ao ((rP (rP (ef (ef (.refl _)))))) ?_;refine qw rfl rfl ag aV gD rfl rfl (.skip (.refl _)) ?_;exact⟨rfl,rfl⟩
   ·obtain⟨b,rfl⟩:∃b,s=257+b:=⟨s-257,aa⟩
    rw[Ty hH];have oB:=ajo (mX fl q p1 ((257+b:Nat):Int)).1;refine bD ?_;refine ai rfl (.perm (aif aa kT.2.1 hq hc2.cons lZ) ((pu3 (fT (fT (fT (.refl _))))))) ?_;refine jU ?_;refine ve [2,3,4] ?_;refine be ?_;refine ao ((tD (ef (ef (ef (.refl _)))))) ?_;refine qw rfl rfl ag aV gD rfl rfl (.skip (.refl _)) ?_;exact⟨rfl,rfl⟩
theorem adF{p b:Nat}(hb:b≤7)(hp:p≤q.length)(lZ:fl.length=12):0≤(mX fl q p ((257+b:Nat):Int)).1.2.1∧(mX fl q p ((257+b:Nat):Int)).1.2.1≤300∧(mX fl q p ((257+b:Nat):Int)).2.2≤q.length:=by
 have hv1:=zN q p (n:=b) aa;have LH:2^b≤128:=k_ (n:=2) aa hb;by_cases h1:r_ q p b=0
 ·obtain⟨p1,B_⟩:∃x,iH q p b=x:=⟨_,rfl⟩
  have YI:p1≤q.length:=by rw[←B_];exact qF _ hp
  have kT:=u4 fl q YI;obtain⟨⟨k,e,p2⟩,hH⟩:∃x,fC fl q p1=x:=⟨_,rfl⟩
  rw[hH]at kT;simp only at kT;by_cases h2:e=0
  ·subst h2;obtain⟨s,rfl,_⟩:=kT.2.2.1 rfl;by_cases h3:r_ q p2 s=0
   ·rw[Su h1 B_ hH h3];exact⟨cZ,cZ,qF _ kT.2.1⟩
   ·rw[St h1 B_ hH h3];exact⟨cZ,cZ,qF _ kT.2.1⟩
  ·rw[Ss h1 B_ hH h2];exact⟨cZ,cZ,kT.2.1⟩
 ·rw[Sr h1];exact⟨cZ,cZ,qF _ hp⟩
theorem PJ{p:Nat}(hp:p≤q.length)(nP:sl.length=265)(lZ:fl.length=12):0≤(kg sl fl q p).1.2.1∧(kg sl fl q p).1.2.1≤300∧(kg sl fl q p).2.2.2≤q.length:=by
 have kT:=u4 sl q hp;obtain⟨⟨k,e,p1⟩,hH⟩:∃x,fC sl q p=x:=⟨_,rfl⟩
 rw[hH]at kT;simp only at kT;by_cases h:¬e=0∨k=256
 ·rw[Tw hH h];exact⟨cZ,cZ,kT.2.1⟩
 ·have he0:e=0:=bF fun k=>h (.inl k);subst he0;obtain⟨s,rfl,hs,_⟩:=kT.2.2.1 rfl;by_cases h2:s<256
  ·rw[Tx hH h2];exact⟨cZ,cZ,kT.2.1⟩
  ·obtain⟨b,rfl⟩:∃b,s=257+b:=⟨s-257,aa⟩
   rw[Ty hH];exact adF aa kT.2.1 lZ
section
variable{f:Nat}{most:Int}{p p2:Nat}{acc:List bN}{R:List bN×Int}{t:bN}{ok:Bool}{e:Int}
theorem PH(h:rI sl fl q (f+1) most p acc=R)(hT:kg sl fl q p=(t,ok,e,p2))(he:¬e=0):R=([],e):=by
 rw[←h,rI,hT,aq he]
theorem PG(h:rI sl fl q (f+1) most p acc=R)(hT:kg sl fl q p=(t,false,0,p2)):R=if paE q p2=0 then (acc,0) else ([],paE q p2):=by
 rw[←h,rI,hT,aw (fun k=>k rfl),aq rfl]
theorem Ji(h:rI sl fl q (f+1) most p acc=R)(hT:kg sl fl q p=(t,true,0,p2))(hm:most-max 1 t.2.1<0):R=([],6):=by
 rw[←h,rI,hT,aw (fun k=>k rfl),aw ak,aq hm]
theorem W0(h:rI sl fl q (f+1) most p acc=R)(hT:kg sl fl q p=(t,true,0,p2))(hm:¬most-max 1 t.2.1<0):rI sl fl q f (most-max 1 t.2.1) p2 (acc++[t])=R:=by
 rw[←h,rI,hT,aw (fun k=>k rfl),aw ak,aw hm]
end
theorem aeJ{p p2 gs gf:Nat}{t:bN}{ok:Bool}{e:Int}(hp:p≤q.length)(hq:q.length≤8000000)(RB:xj B w0 F gs sl)(hc2:xj B w0 F gf fl)(nP:sl.length=265)(lZ:fl.length=12)(hT:kg sl fl q p=(t,ok,e,p2)):
  a_ B w0 342 [bq g] (Rk (bq gs) (bq gf) g gr A c q p F)
   (fun r L=>r= .tuple #[.agg #[.int .u8 (t.1.toNat:Int),ah t.2.1,ah t.2.2],.bool ok,ah e]∧L=Rk (bq gs) (bq gf) g gr A c q p2 F):=by
 have:=aeI (B:=B) (w0:=w0) (F:=F) (A:=A) (c:=c) (g:=g) (gr:=gr) hp hq RB hc2 nP lZ;rw[hT]at this;exact this
theorem UX{acc:al}{p N:Nat}(hl:acc.length=N)(h:(fin acc p).2.1=0):(fin acc p).1.length=N:=by
 unfold fin at h⊢;by_cases hg:Good acc
 ·rw[aq hg];exact hl
 ·rw[aw hg]at h;cases h
theorem KS(q:List Bool)(N:Nat):∀f p acc s,acc.length≤N→N≤acc.length+f→(lG q N f p acc s).2.1=0→(lG q N f p acc s).1.length=N
 |0,p,acc,s=>fun h1 h2 h=>by
  unfold lG at h⊢;exact UX aa h
 |f+1,p,acc,s=>fun k1 k2 h=>by
  unfold lG at h⊢;split at h
  ·rename_i h1;rw[aq h1];exact UX aa h
  ·rename_i h1;rw[aw h1];split at h
   ·rename_i h2;exact absurd h h2
   ·rename_i h2;rw[aw h2];split at h
    ·rename_i h3;rw[aq h3];exact KS q N f _ _ _ T' T' h
    ·rename_i h3;rw[aw h3];split at h
     ·rename_i h4;exact absurd h h4
     ·rename_i h4;rw[aw h4];split at h
      ·cases h
      ·rename_i h5;rw[aw h5];have h6:¬N≤acc.length+oM q (iH q p 4) 6:=fun k=>h5 (.inr k);exact KS q N f _ _ _ (by rw[aX,yf];omega) (by rw[aX,yf];omega) h
theorem CL{q:List Bool}{p:Nat}{n:Nat}(h:(qP q p n).2.1=0):(qP q p n).1.length=n:=by
 unfold qP at h⊢;split at h
 ·cases h
 ·rename_i h1;rw[aw h1];rw[nC]at h⊢;exact KS q n _ _ _ _ ak ak h
theorem aah{b:al}{most:Int}(h:most<0):fN b most=([],13):=by unfold fN;rw[aq h]
theorem W1{b l:al}{most e:Int}{p:Nat}(h:¬most<0)(h1:qP (gi b) 0 265=(l,e,p))(h2:¬e=0):fN b most=([],e):=by
 unfold fN;rw[aw h,h1,aq h2]
theorem W2{b l l2:al}{most e:Int}{p p2:Nat}(h:¬most<0)(h1:qP (gi b) 0 265=(l,0,p))(h2:qP (gi b) p 12=(l2,e,p2))(h3:¬e=0):fN b most=([],e):=by
 unfold fN;rw[aw h,h1,aw (fun k=>k rfl),h2,aq h3]
theorem W3{b l l2:al}{most:Int}{p p2:Nat}(h:¬most<0)(h1:qP (gi b) 0 265=(l,0,p))(h2:qP (gi b) p 12=(l2,0,p2)):fN b most=rI l l2 (gi b) (most.toNat+1) most p2 []:=by
 unfold fN;rw[aw h,h1,aw (fun k=>k rfl),h2,aw (fun k=>k rfl)]
def aaR(R:List bN×Int)(F:aR)(r:Value)(L:aR):Prop:=∃A' c',r= .tuple #[.slice A' R.1.length c',ah R.2]∧L= .own 170 3 A' R.1.length c' (kV R.1)::F
theorem aak{b:al}{most:Int}(hm:most<0):a_ B w0 327 [.slice A b.length c,ah most] F (aaR (fN b most) F):=by
 rw[aah hm];refine fw func327 70 [0,1] ?_;refine c_ ?_;refine aj (fun mF=>?_) fun mF=>?_
 ·refine bM ?_;refine aC 170 3 none ?_;refine aE ?_;exact⟨none,0,rfl,rfl⟩
 ·exfalso;exact mF hm
theorem ajq{b l:al}{most e:Int}{p:Nat}(hb:fq B w0 F A c b)(dh:b.length≤1000000)(hm:¬most<0)(h1:qP (gi b) 0 265=(l,e,p))(h2:¬e=0):
  a_ B w0 327 [.slice A b.length c,ah most] F (aaR (fN b most) F):=by
 have zc:=dN b;rw[W1 hm h1 h2];refine fw func327 70 [0,1] ?_;refine c_ ?_;refine aj (fun mF=>?_) fun mF=>?_
 ·exfalso;exact hm mF
 ·refine bI ?_;refine eK rfl (EM hb dh) fun gr Ar cr=>?_;refine ae (br [(0,_)] [.pointer none,.pointer none,.pointer none] [0] [_,_,_] rfl rfl ag) rfl ?_;refine bf fun g16=>?_;refine bM ?_;refine ai rfl (E6 (k:=265) aa aa aa h1 h2) ?_;refine c_ ?_;refine ve [1,4,5,6,26] ?_;refine aE ?_;refine aj (fun qG=>?_) fun qG=>?_
  ·refine bP ?_;refine ao (.skip (.skip (.skip (.refl _)))) (aC 170 3 none ?_);refine aE ?_;exact⟨none,0,rfl,rfl⟩
  ·exfalso;exact qG h2
theorem ajr{b l l2:al}{most e:Int}{p p2:Nat}(hb:fq B w0 F A c b)(dh:b.length≤1000000)(hm:¬most<0)(h1:qP (gi b) 0 265=(l,0,p))(h2:qP (gi b) p 12=(l2,e,p2))(h3:¬e=0):
  a_ B w0 327 [.slice A b.length c,ah most] F (aaR (fN b most) F):=by
 have zc:=dN b;have mG:p≤(gi b).length:=by have:=E7 (q:=gi b) (p:=0) 265 aa;rw[h1]at this;exact this
 rw[W2 hm h1 h2 h3];refine fw func327 70 [0,1] ?_;refine c_ ?_;refine aj (fun mF=>?_) fun mF=>?_
 ·exfalso;exact hm mF
 ·refine bI ?_;refine eK rfl (EM hb dh) fun gr Ar cr=>?_;refine ae (br [(0,_)] [.pointer none,.pointer none,.pointer none] [0] [_,_,_] rfl rfl ag) rfl ?_;refine bf fun g16=>?_;refine bM ?_;refine ba abF rfl (AO (k:=265) aa aa aa h1) rfl ?_;rintro _ _ ⟨gs,Y,rfl,cJ,tT⟩;obtain rfl:=cJ.symm;refine c_ ?_;refine ve [1,4,5,6,26] ?_;refine aE ?_;refine dj fun qG=>?_;refine bD ?_;refine ai rfl (E6 (k:=12) mG aa aa h2 h3) ?_;refine i_ ?_;refine aj (fun D5=>?_) fun D5=>?_
  ·refine bI ?_;refine ve [4,5] ?_;refine bH ?_;refine ao (.skip (.skip (.skip (dA _ _)))) (aC 170 3 none ?_);refine aE ?_;exact⟨none,0,rfl,rfl⟩
  ·exfalso;exact D5 h3
theorem ajs{b l l2:al}{most:Int}{p p2:Nat}(hb:fq B w0 F A c b)(dh:b.length≤1000000)(hm:¬most<0)(vC:most≤1000000)(h1:qP (gi b) 0 265=(l,0,p))(h2:qP (gi b) p 12=(l2,0,p2)):
  a_ B w0 327 [.slice A b.length c,ah most] F (aaR (fN b most) F):=by
 have zc:=dN b;have mG:p≤(gi b).length:=by have:=E7 (q:=gi b) (p:=0) 265 aa;rw[h1]at this;exact this
 have RT:p2≤(gi b).length:=by have:=E7 (q:=gi b) (p:=p) 12 mG;rw[h2]at this;exact this
 have tA:l.length=265:=by have:=CL (q:=gi b) (p:=0) (n:=265);rw[show(((265:Nat):Int))=265 from rfl,h1]at this;exact this rfl
 have rN:l2.length=12:=by have:=CL (q:=gi b) (p:=p) (n:=12);rw[show(((12:Nat):Int))=12 from rfl,h2]at this;exact this rfl
 obtain⟨R,hR⟩:∃R,rI l l2 (gi b) (most.toNat+1) most p2 []=R:=⟨_,rfl⟩
 rw[W3 hm h1 h2,hR];obtain⟨q,hq⟩:∃q,gi b=q:=⟨_,rfl⟩
 rw[hq]at zc mG RT h1 h2 hR;have hnr:=EM (B:=B) (w0:=w0) hb dh;rw[hq]at hnr;refine fw func327 70 [0,1] ?_;refine c_ ?_;refine aj (fun mF=>?_) fun mF=>?_
 ·exfalso;exact hm mF
 ·refine bI ?_;refine eK rfl (hnr) fun gr Ar cr=>?_;refine ae (br [(0,_)] [.pointer none,.pointer none,.pointer none] [0] [_,_,_] rfl rfl ag) rfl ?_;refine bf fun g16=>?_;refine bM ?_;refine ba abF rfl (AO (k:=265) aa aa aa h1) rfl ?_;rintro _ _ ⟨gs,Y,rfl,cJ,tT⟩;obtain rfl:=cJ.symm;refine c_ ?_;refine ve [1,4,5,6,26] ?_;refine aE ?_;refine dj fun qG=>?_;refine bD ?_;refine ba abF rfl (AO (k:=12) mG aa aa h2) rfl ?_;rintro _ _ ⟨gf,Y2,rfl,cJ,hcf⟩;obtain rfl:=cJ.symm;refine i_ ?_;refine dj fun D5=>?_;obtain⟨K,hK⟩:=cR (Y2++(Y++F));have RB:xj B w0 K gs l:=by rw[hK];exact tT.mono (.trans (vH Y F) (gz _ _))
  have hc2:xj B w0 K gf l2:=by rw[hK];exact hcf.mono (vH _ _)
  have GY:Wk K F:=by rw[hK];exact(dA _ _).trans (dA _ _)
  rw[←hK];refine aY 170 3 none ?_;refine yX (L':=.own 170 3 none 0 0 []::Rk (bq gs) (bq gf) g16 gr Ar cr q p2 K) (.refl _) ?_;refine b8 ?_;refine aD (fun zf zL zm=>∃(f:Nat) (m:Int) (pp:Nat) (acc:List bN) (A':bj) (c':Nat),(0≤m∧m<f∧m≤1000000∧pp≤q.length∧rI l l2 q f m pp acc=R∧acc.length+m≤most)∧f=zm∧Sub zf [(1,ah m),(4,.slice A' acc.length c'),(6,bq g16)]∧Wk zL (.own 170 3 A' acc.length c' (kV acc)::Rk (bq gs) (bq gf) g16 gr Ar cr q pp K)) _ ⟨most.toNat+1,most,p2,[],none,0,⟨aa,aa,aa,RT,hR,ak⟩,rfl,bm,.refl _⟩ ?_;rintro _ _ _ ⟨f,m,pp,acc,A',c',⟨hm0,hmf,hm6,hpq,wO,GP⟩,rfl,hs,hp⟩;refine aU hs hp ?_;clear hs hp;refine be ?_;obtain⟨f',rfl⟩:∃f',f=f'+1:=⟨f-1,aa⟩
  have ahP:=PJ (sl:=l) (fl:=l2) hpq tA rN;obtain⟨⟨t,ok,e,p3⟩,hT⟩:∃x,kg l l2 q pp=x:=⟨_,rfl⟩
  rw[hT]at ahP;simp only at ahP;refine be ?_;refine ai rfl (.perm (aeJ hpq aa RB.cons hc2.cons tA rN hT) ((l0 (l0 (l0 (fT (.refl _))))))) ?_;refine b8 ?_;refine bg fun g7=>?_;refine cD ?_;refine aj (fun Yo=>?_) fun Yo=>?_
  ·have Yu:=PH wO hT Yo;subst Yu;refine c_ ?_;refine ao (.skip (.skip (.skip (.skip (.skip GY))))) (aC 170 3 none ?_);refine aE ?_;exact⟨none,0,rfl,rfl⟩
  ·obtain rfl:e=0:=bF Yo;refine bB ?_;refine ae (jx rfl) rfl ?_;refine be ?_;refine h_ (fun Yp=>?_) fun Yp=>?_
   ·obtain rfl:ok=false:=by cases ok<;>simp at Yp⊢
    have Yu:=PG wO hT;refine c_ ?_;refine ai rfl (.perm (aqS q p3 ahP.2.2 aa) ((BN (BN (fT (fT (.refl _))))))) ?_;refine aE ?_;refine ve [4,10] ?_;refine bD ?_;refine aj (fun Vf=>?_) fun Vf=>?_
    ·rw[aw Vf]at Yu;subst Yu;refine bP ?_;refine ao (.skip (.skip (.skip (.skip (.skip GY))))) (aC 170 3 none ?_);refine aE ?_;exact⟨none,0,rfl,rfl⟩
    ·rw[aq (bF Vf)]at Yu;subst Yu;refine bz ?_;refine ao (.skip (.skip (.skip (.skip (.cons GY))))) ?_;refine aE ?_;exact⟨A',c',rfl,rfl⟩
   ·obtain rfl:ok=true:=by cases ok<;>simp at Yp⊢
    refine bM ?_;refine ae (JW rfl rfl) rfl ?_;refine be ?_;refine ve [1,4,6,7] ?_;refine bD ?_;refine aj (fun Ru=>?_) fun Ru=>?_
    ·have Yu:=Ji wO hT Ru;subst Yu;refine cD ?_;refine ao (.skip (.skip (.skip (.skip (.skip GY))))) (aC 170 3 none ?_);refine aE ?_;exact⟨none,0,rfl,rfl⟩
    ·have RJ:=W0 wO hT Ru;have wR:(acc++[t]).length=acc.length+1:=by simp
     refine bI ?_;refine rJ akL rfl rfl rfl aa cA rfl rfl rfl (fun _=>rfl) aV aa aa ?_;intro _ A60 c60;refine bH ?_;refine av ⟨_,aa,f',m-max 1 t.2.1,p3,acc++[t],A60,c60,⟨aa,aa,aa,ahP.2.2,RJ,T'⟩,rfl,bm,.trans ((wu4 (gl (gl (gl (.skip (.refl _))))))) (ax ak (by rw[Jk];rfl) (.refl _))⟩
theorem ajt{b:al}{most:Int}(hb:fq B w0 F A c b)(dh:b.length≤1000000)(vC:most≤1000000):
  a_ B w0 327 [.slice A b.length c,ah most] F (aaR (fN b most) F):=by
 by_cases hm:most<0
 ·exact aak hm
 ·obtain⟨⟨l,e,p⟩,h1⟩:∃x,qP (gi b) 0 265=x:=⟨_,rfl⟩
  by_cases he:e=0
  ·subst he;obtain⟨⟨l2,e2,p2⟩,h2⟩:∃x,qP (gi b) p 12=x:=⟨_,rfl⟩
   by_cases he2:e2=0
   ·subst he2;exact ajs hb dh hm vC h1 h2
   ·exact ajr hb dh hm h1 h2 he2
  ·exact ajq hb dh hm h1 he
end
section
theorem Ua{P:Prop}(h:P:=by(rw[k3];exact hb.cons)):P:=h
theorem zC:a_ B w0 177 [bq g] (Cv g A c s::F) (fun r L=>r=ah s.at_∧L=Cv g A c s::F):=by
 refine fw func177 10 [0] ?_;refine acv ?_;exact⟨rfl,rfl⟩
theorem Cs.gy(s:Cs){m:Int}(h0:0≤m)(hm:m≤9223372036854775807):(s.int m:Int)≤m:=by
 unfold Cs.int;split
 ·omega
 ·have h:=jD s.rest m hm;by_cases he:(eu s.rest m).2.2=0
  ·exact h.2.2.2 he
  ·rw[(pC he).1];omega
theorem qX(s:Cs)(e:Int):(s.failed e).b=s.b:=by unfold Cs.failed;split<;>rfl
theorem akd(b:al):(U4 b).b=b:=by
 unfold U4;split
 ·rw[qX];exact Cs.cK _ _ _
 ·exact Cs.cK _ _ _
theorem ab'(b:al):(fr2 b).b=b:=by
 unfold fr2;exact(Cs.cK _ _ _).trans (akd b)
theorem aca(b:al):(Gg b).b=b:=by
 unfold Gg;split
 ·rw[qX];exact(Cs.cK _ _ _).trans (ab' b)
 ·exact(Cs.cK _ _ _).trans (ab' b)
theorem acb(b:al):(Ye b).b=b:=by
 unfold Ye;exact(Cs.cK _ _ _).trans ((Cs.cK _ _ _).trans (aca b))
theorem apE(b:al):(x6 b).b=b:=by
 unfold x6;split
 ·exact acb b
 ·rw[qX];exact acb b
theorem pf{b:al}(h:b.length≤1099511627776):cu ⟨b,0,0⟩:=⟨bS _,h⟩
theorem ab_{b:al}(h:b.length≤1099511627776):cu (U4 b):=by
 unfold U4;split
 ·exact(pf h).eJ.failed _
 ·exact(pf h).eJ
theorem Rm{b:al}(h:b.length≤1099511627776):cu (fr2 b):=(ab_ h).bX aa
theorem J'{b:al}(h:b.length≤1099511627776):cu (Gg b):=by
 unfold Gg;split
 ·exact((Rm h).bX aa).failed _
 ·exact(Rm h).bX aa
theorem Rn{b:al}(h:b.length≤1099511627776):cu (Ye b):=(J' h).b_.b_
theorem alP{b:al}(h:b.length≤1099511627776):cu (x6 b):=by
 unfold x6;split
 ·exact Rn h
 ·exact(Rn h).failed _
theorem mK{s s':Cs}{L L':aR}(h:s=s')(k:Wk L L'):Wk (Cv g A c s::L) (Cv g A c s'::L'):=by subst h;exact k.cons
abbrev Fb(g gc:Nat)(w n p:Nat)(bd:Value):Ch:=.bE g 379 [bq gc,ah w,ah n,ah p,bd]
theorem aho{b:al}(hb:fq B w0 F A c b)(dh:b.length≤1099511627776):
  a_ B w0 301 [bq g] (Fb g gc 0 0 0 (.slice none 0 0)::Cv gc A c ⟨b,0,0⟩::F)
   (fun r L=>r= .tuple #[]∧L=Fb g gc (Cs.byte ⟨b,0,0⟩).toNat (frN b) (zH b) (.slice none 0 0)::Cv gc A c (Gg b)::F):=by
 have hx:=mH (Cs.byte ⟨b,0,0⟩);obtain⟨x,hxx⟩:=cR ((Cs.byte ⟨b,0,0⟩).toNat);have hN:((frN b:Nat):Int)≤32768:=Cs.gy _ aa aa;have hP:((zH b:Nat):Int)≤32768:=Cs.gy _ aa aa;have k1:=akd b;have k2:=ab' b;have k3:=aca b;rw[←hxx]at hx⊢;refine fw func301 53 [0] ?_;refine bD ?_;refine ai rfl ((ov (g:=gc) (pf dh) (aL.cons hb)).perm ((l0 (fT (.refl _))))) ?_;refine ae (bw underlying5 underlying3 rfl (r:=(x:Int)) (by rw[hxx];exact bG aa aa)) rfl ?_;refine bI ?_;refine d_ (fun zf zL=>Sub zf [(0,bq g)]∧Wk zL (Cv gc A c (U4 b)::Fb g gc x 0 0 (.slice none 0 0)::F)) ?_ ?_
 ·refine bP ?_;refine aj (fun kS=>?_) fun kS=>?_
  ·refine bI ?_;refine ai rfl (nf 2) ?_;refine ve [0] ?_;exact bC ⟨bm,mK (by unfold U4;rw[aq aa]) (.refl _)⟩
  ·refine aE ?_;exact bC ⟨bm,mK (by unfold U4;rw[aw aa]) (.refl _)⟩
 ·rintro _ _ ⟨hs,hp⟩;refine aU hs hp ?_;clear hs hp;refine aE ?_;have e2:fr2 b=(U4 b).bX 32768:=rfl;have eN:frN b=(U4 b).int 32768:=rfl;have eP:zH b=(fr2 b).int 32768:=rfl;refine bB ?_;refine ai rfl (iI (s:=U4 b) (ab_ dh) (by rw[k1];exact hb.cons) aa aa) ?_;refine bB ?_;rw[←eN,←e2];refine bB ?_;refine ai rfl (iI (s:=fr2 b) (Rm dh) (by rw[k2];exact hb.cons) aa aa) ?_;refine bB ?_;rw[←eP];refine bP ?_;refine bU (e_ rfl rfl (r:=((1032*zH b:Nat):Int)) ((bG aa aa).trans aa)) rfl ?_;refine bU (bY rfl rfl (r:=((1032*zH b+64:Nat):Int)) ((bG aa aa).trans aa)) rfl ?_;refine aE ?_;refine mu [(0,_),(47,_)] ⟨rfl,rfl,trivial⟩ ?_;refine aE ?_;refine aj (fun LD=>?_) fun LD=>?_
  ·refine bI ?_;refine ai rfl (nf 6) ?_;refine be ?_;refine ao (.trans (mK (s':=Gg b) (by unfold Gg;rw[aq aa]) (.refl _)) (.swap (.refl _))) ?_;refine aE ?_;exact⟨rfl,rfl⟩
  ·refine be ?_;refine ao (.trans (mK (s':=Gg b) (by unfold Gg;rw[aw aa]) (.refl _)) (.swap (.refl _))) ?_;refine aE ?_;exact⟨rfl,rfl⟩
theorem QN{l:al}{n:Nat}{xs:cV}(HT:bK B w0)(e1:n=l.length)(e2:xs=bv l)(hb:aL B w0 F 1 (.slice A n c) n xs)(hl:l.length≤1099511627776):
  a_ B w0 176 [.slice A n c] F (fun r L=>∃A' c',r= .tuple #[.slice A' (aK l).1.length c',ah (aK l).2]∧L= .own 5 1 A' (aK l).1.length c' (bv (aK l).1)::F):=by
 subst e1;subst e2;exact wF HT hb hl
theorem ahr(HT:bK B w0){b:al}{w n:Nat}(hb:fq B w0 F A c b)(oP:fq B w0 F A2 c2 b)(dh:b.length≤1099511627776):
  a_ B w0 302 [bq g,.slice A2 b.length c2] (Fb g gc w n (zH b) (.slice none 0 0)::Cv gc A c (Gg b)::F)
   (fun r L=>r= .tuple #[]∧∃A' c',L=Fb g gc w n (zH b) (.slice A' (Qa b).length c')::Cv gc A c (x6 b):: .own 5 1 A' (Qa b).length c' (bv (Qa b))::F):=by
 have hP:((zH b:Nat):Int)≤32768:=Cs.gy _ aa aa;have k3:=aca b;have k4:=acb b;have o4:=Rn dh;have o4a:=o4.at_;rw[k4]at o4a;obtain⟨s4,LI⟩:=cR ((Gg b).b_ (zH b));have o4':cu s4:=by rw[LI];exact(J' dh).b_
 have k4':s4.b=b:=by rw[LI];exact(Cs.cK _ _ _).trans k3
 have e4:Ye b=s4.b_ 4:=by rw[LI];rfl
 have e5:Qa b=(Gg b).take (zH b):=rfl;refine dP.zk oP.cons.cons fun oA _=>?_;refine fw func302 46 [0,1] ?_;refine aE ?_;refine cC F ?_;refine ab 0 ?_;refine ab 1 ?_;refine ab 2 ?_;refine ab 3 ?_;refine ab 5 ?_;refine ab 6 ?_;refine ab 7 ?_;refine gU 4 8 ?_ ?_
 ·refine aE ?_;refine az 8 ?_;refine aE ?_;refine az 9 ?_;refine b7 rfl rfl ((ma (g:=gc) (s:=Gg b) (m:=zH b) (J' dh) Ua aa aa).perm ((l0 (fT (.refl _))))) fun Bg JL=>?_;refine ab 10 ?_;refine ab 11 ?_;refine az 12 ?_;refine b8 ?_;rw[←LI,←e5];refine bI ?_;refine ay rfl (ma (g:=gc) (s:=s4) (m:=4) o4' (by rw[k4'];exact hb.cons.cons) aa aa) fun A22 c22=>?_;refine ve [0,1] ?_;refine bH ?_;rw[←e4];refine bI ?_;refine ai rfl (gO) ?_;refine bH ?_;refine aj (fun q9=>?_) fun q9=>?_
  ·refine be ?_;refine ao (.trans (mK (s':=x6 b) (by unfold x6;rw[aq q9]) (.refl _)) ((tD (ef (gl (.skip (.refl _))))))) ?_;refine aE ?_;exact⟨rfl,Bg,JL,rfl⟩
  ·refine bH ?_;obtain⟨m,hm⟩:=cR ((Ye b).at_);have zb:=oP.js (k:=m) aa;rw[cE]at zb;refine bB ?_;refine ai rfl (zC) ?_;refine ae (bZ (i:=m) (size:=1) underlying27 ag rfl rfl aa aa) rfl ?_;refine ay rfl (QN (l:=b.take m) HT nt (by simp[bv,pw]) zb.cons.cons.cons.cons nt) fun A37 c37=>?_;refine bI ?_;refine ve [0,5] ?_;refine bD ?_;refine ai rfl ((nf (aK (b.take m)).2).perm ((l0 (fT (.refl _))))) ?_;refine be ?_;refine ao (.trans (mK (s':=x6 b) (by unfold x6;rw[aw q9,hm]) (.refl _)) ((wu4 (ef (rP (.skip (.skip (.refl _)))))))) ?_;refine aE ?_;exact⟨rfl,Bg,JL,rfl⟩
 ·refine aE ?_;refine az 4 ?_;refine aE ?_;refine az 9 ?_;refine b7 rfl rfl ((ma (g:=gc) (s:=Gg b) (m:=zH b) (J' dh) Ua aa aa).perm ((l0 (fT (.refl _))))) fun Bg JL=>?_;refine ab 10 ?_;refine ab 11 ?_;refine az 12 ?_;refine b8 ?_;rw[←LI,←e5];refine bI ?_;refine ay rfl (ma (g:=gc) (s:=s4) (m:=4) o4' (by rw[k4'];exact hb.cons.cons) aa aa) fun A22 c22=>?_;refine ve [0,1] ?_;refine bH ?_;rw[←e4];refine bI ?_;refine ai rfl (gO) ?_;refine bH ?_;refine aj (fun q9=>?_) fun q9=>?_
  ·refine be ?_;refine ao (.trans (mK (s':=x6 b) (by unfold x6;rw[aq q9]) (.refl _)) ((tD (ef (gl (.skip (.refl _))))))) ?_;refine aE ?_;exact⟨rfl,Bg,JL,rfl⟩
  ·refine bH ?_;obtain⟨m,hm⟩:=cR ((Ye b).at_);have zb:=oP.js (k:=m) aa;rw[cE]at zb;refine bB ?_;refine ai rfl (zC) ?_;refine ae (bZ (i:=m) (size:=1) underlying27 ag rfl rfl aa aa) rfl ?_;refine ay rfl (QN (l:=b.take m) HT nt (by simp[bv,pw]) zb.cons.cons.cons.cons nt) fun A37 c37=>?_;refine bI ?_;refine ve [0,5] ?_;refine bD ?_;refine ai rfl ((nf (aK (b.take m)).2).perm ((l0 (fT (.refl _))))) ?_;refine be ?_;refine ao (.trans (mK (s':=x6 b) (by unfold x6;rw[aw q9,hm]) (.refl _)) ((wu4 (ef (rP (.skip (.skip (.refl _)))))))) ?_;refine aE ?_;exact⟨rfl,Bg,JL,rfl⟩
theorem aie{q:List Bool}{fl:al}{p b:Nat}(hb:b≤7)(hp:p≤q.length)(lZ:fl.length=12):0≤(mX fl q p ((257+b:Nat):Int)).1.2.2∧(mX fl q p ((257+b:Nat):Int)).1.2.2≤5000:=by
 by_cases h1:r_ q p b=0
 ·obtain⟨p1,B_⟩:∃x,iH q p b=x:=⟨_,rfl⟩
  have YI:p1≤q.length:=by rw[←B_];exact qF _ hp
  have kT:=u4 fl q YI;obtain⟨⟨k,e,p2⟩,hH⟩:∃x,fC fl q p1=x:=⟨_,rfl⟩
  rw[hH]at kT;simp only at kT;by_cases h2:e=0
  ·subst h2;obtain⟨s,rfl,hs,_⟩:=kT.2.2.1 rfl;have Vp:=zN q p2 (n:=s) aa;have x':2^s≤2048:=k_ (n:=2) aa (by omega:s≤11);by_cases h3:r_ q p2 s=0
   ·rw[Su h1 B_ hH h3];exact⟨cZ,cZ⟩
   ·rw[St h1 B_ hH h3];exact⟨cZ,cZ⟩
  ·rw[Ss h1 B_ hH h2];exact⟨cZ,cZ⟩
 ·rw[Sr h1];exact⟨cZ,cZ⟩
theorem ajn{q:List Bool}{sl fl:al}{p:Nat}(hp:p≤q.length)(nP:sl.length=265)(lZ:fl.length=12):0≤(kg sl fl q p).1.2.2∧(kg sl fl q p).1.2.2≤5000:=by
 have kT:=u4 sl q hp;obtain⟨⟨k,e,p1⟩,hH⟩:∃x,fC sl q p=x:=⟨_,rfl⟩
 rw[hH]at kT;simp only at kT;by_cases h:¬e=0∨k=256
 ·rw[Tw hH h];exact⟨cZ,cZ⟩
 ·have he0:e=0:=bF fun k=>h (.inl k);subst he0;obtain⟨s,rfl,hs,_⟩:=kT.2.2.1 rfl;by_cases h2:s<256
  ·rw[Tx hH h2];exact⟨cZ,cZ⟩
  ·obtain⟨b,rfl⟩:∃b,s=257+b:=⟨s-257,aa⟩
   rw[Ty hH];exact aie aa kT.2.1 lZ
theorem PF{q:List Bool}{sl fl:al}(nP:sl.length=265)(lZ:fl.length=12):∀(f:Nat) (most:Int) (p:Nat) (acc:List bN),p≤q.length→WV acc→0≤most→
  ((rI sl fl q f most p acc).1.length:Int)≤acc.length+most∧WV (rI sl fl q f most p acc).1
 |0,most,p,acc,hp,ha,h0=>⟨by simp[rI];omega,fun t h=>jY⟩
 |f+1,most,p,acc,hp,ha,h0=>by
  have h1:=PJ (sl:=sl) (fl:=fl) hp nP lZ;have h2:=ajn (sl:=sl) (fl:=fl) hp nP lZ;obtain⟨⟨t,ok,e,p2⟩,hT⟩:∃x,kg sl fl q p=x:=⟨_,rfl⟩
  rw[hT]at h1 h2;simp only at h1 h2;by_cases he:e=0
  ·subst he;cases ok with
   |false=>
    rw[PG rfl hT];split
    ·exact⟨cZ,ha⟩
    ·exact⟨bO,fun t h=>jY⟩
   |true=>
    by_cases hm:most-max 1 t.2.1<0
    ·rw[Ji rfl hT hm];exact⟨bO,fun t h=>jY⟩
    ·rw[←W0 rfl hT hm];have:=PF nP lZ f (most-max 1 t.2.1) p2 (acc++[t]) h1.2.2 (fun u hu=>by
      rcases dy.1 hu with hu|hu
      ·exact ha u hu
      ·rw[lE.1 hu];exact⟨⟨aa,aa⟩,aa,aa⟩) aa
     rw[aX,qg]at this;exact⟨by have:=this.1;omega,this.2⟩
  ·rw[PH rfl hT he];exact⟨bO,fun t h=>jY⟩
theorem aag{b:al}{most:Int}(h0:0≤most):((fN b most).1.length:Int)≤most∧WV (fN b most).1:=by
 have zc:=dN b;obtain⟨⟨l,e,p⟩,h1⟩:∃x,qP (gi b) 0 265=x:=⟨_,rfl⟩
 by_cases he:e=0
 ·subst he;obtain⟨⟨l2,e2,p2⟩,h2⟩:∃x,qP (gi b) p 12=x:=⟨_,rfl⟩
  by_cases he2:e2=0
  ·subst he2;have mG:p≤(gi b).length:=by have:=E7 (q:=gi b) (p:=0) 265 aa;rw[h1]at this;exact this
   have RT:p2≤(gi b).length:=by have:=E7 (q:=gi b) (p:=p) 12 mG;rw[h2]at this;exact this
   have tA:l.length=265:=by have:=CL (q:=gi b) (p:=0) (n:=265);rw[show(((265:Nat):Int))=265 from rfl,h1]at this;exact this rfl
   have rN:l2.length=12:=by have:=CL (q:=gi b) (p:=p) (n:=12);rw[show(((12:Nat):Int))=12 from rfl,h2]at this;exact this rfl
   rw[W3 aa h1 h2];have:=PF (q:=gi b) tA rN (most.toNat+1) most p2 [] RT (fun t h=>jY) h0;simpa using this
  ·rw[W2 aa h1 h2 he2];exact⟨bO,fun t h=>jY⟩
 ·rw[W1 aa h1 he];exact⟨bO,fun t h=>jY⟩
def FrA(R:al×Int)(B:Nat)(w0:World)(F:aR)(r:Value)(L:aR):Prop:=∃A' c' Y,r= .tuple #[.slice A' R.1.length c',ah R.2]∧L=Y++F∧aL B w0 L 1 (.slice A' R.1.length c') R.1.length (bv R.1)
section
variable{w n p:Nat}{bd:al}
theorem apF(h:w=0)(h2:n≠p):Nq w n p bd=([],2):=by unfold Nq;rw[aq h,aq h2]
theorem apG(h:w=0)(h2:¬n≠p):Nq w n p bd=(bd,0):=by unfold Nq;rw[aq h,aw h2]
theorem apH(h:¬w=0)(h2:(fN bd n).2≠0):Nq w n p bd=([],(fN bd n).2):=by unfold Nq;rw[aw h,aq h2]
theorem apI(h:¬w=0)(h2:¬(fN bd n).2≠0)(h3:(kE (fN bd n).1 n).2≠0):Nq w n p bd=([],(kE (fN bd n).1 n).2):=by unfold Nq;rw[aw h,aw h2,aq h3]
theorem apJ(h:¬w=0)(h2:¬(fN bd n).2≠0)(h3:¬(kE (fN bd n).1 n).2≠0)(h4:(kE (fN bd n).1 n).1.length<n):Nq w n p bd=([],2):=by unfold Nq;rw[aw h,aw h2,aw h3,aq h4]
theorem apK(h:¬w=0)(h2:¬(fN bd n).2≠0)(h3:¬(kE (fN bd n).1 n).2≠0)(h4:¬(kE (fN bd n).1 n).1.length<n):Nq w n p bd=((kE (fN bd n).1 n).1,0):=by unfold Nq;rw[aw h,aw h2,aw h3,aw h4]
end
theorem FrA.nil{R:al×Int}{r:Value}{L Y:aR}(h:R.1=[])(hr:r= .tuple #[.slice none 0 0,ah R.2])(hL:L=Y++F):FrA R B w0 F r L:=by
 obtain⟨l,e⟩:=R;simp only at h;subst h;exact⟨none,0,Y,hr,hL,aL.AE⟩
theorem ab2{w n p:Nat}{bd:al}(hb:fq B w0 F A c bd)(dh:bd.length≤1000000)(hn:n≤32768):
  a_ B w0 303 [bq g] (Fb g gc w n p (.slice A bd.length c)::F) (FrA (Nq w n p bd) B w0 (Fb g gc w n p (.slice A bd.length c)::F)):=by
 have hta:=aag (b:=bd) (most:=n) aa;refine fw func303 62 [0] ?_;refine jU ?_;refine aj (fun pq=>?_) fun pq=>?_
 ·refine dX ?_;refine aj (fun ja=>?_) fun ja=>?_
  ·refine b8 ?_;refine ve [2,3] ?_;refine bI ?_;rw[apF aa aa];exact FrA.nil (Y:=[]) rfl rfl rfl
  ·refine bz ?_;refine ve [2,3] ?_;refine b8 ?_;rw[apG aa aa];exact⟨A,c,[],rfl,rfl,hb.cons⟩
 ·refine bH ?_;refine cC (Fb g gc w n p (.slice A bd.length c)::F) ?_;refine ab 0 ?_;refine ab 1 ?_;refine ab 2 ?_;refine ab 3 ?_;refine ab 4 ?_;refine ab 5 ?_;refine ab 6 ?_;refine ab 7 ?_;refine az 8 ?_;refine b7 rfl rfl (ajt (b:=bd) (most:=n) hb.cons dh aa) fun vM wE=>?_;refine ab 9 ?_;refine ab 10 ?_;refine ab 11 ?_;refine ab 12 ?_;refine ab 13 ?_;refine cP [0,4,5] ?_;refine bM ?_;refine aj (fun Gh=>?_) fun Gh=>?_
  ·refine bz ?_;rw[apH aa Gh];exact FrA.nil (Y:=[_]) rfl rfl rfl
  ·refine bP ?_;refine ay rfl (anj (l:=(fN bd n).1) (most:=n) (aL.own (.head _)) aa aa aa hta.2) fun A46 c46=>?_;refine jU ?_;refine aj (fun Yp=>?_) fun Yp=>?_
   ·refine bI ?_;refine ve [2,3] ?_;refine bI ?_;rw[apI aa Gh Yp];exact FrA.nil (Y:=[_,_]) rfl rfl rfl
   ·refine bz ?_;refine ve [6,53] ?_;refine aE ?_;refine aj (fun h53=>?_) fun h53=>?_
    ·refine bz ?_;rw[apJ aa Gh Yp aa];exact FrA.nil (Y:=[_,_]) rfl rfl rfl
    ·refine cD ?_;rw[apK aa Gh Yp aa];exact⟨A46,c46,[_,_],rfl,rfl,aL.own (.head _)⟩
theorem Im(s:Cs)(n:Nat):(s.take n).length≤n:=by
 unfold Cs.take;split
 ·simp
 ·split
  ·simp
  ·rw[eV];omega
def OpA(b:al)(B:Nat)(w0:World)(F:aR)(r:Value)(L:aR):Prop:=
 if (x6 b).e≠0 then r= .tuple #[.pointer none,.slice none 0 0,ah (x6 b).e]∧L=F
 else∃A' c' g gc Ac cc M w n p bd,r= .tuple #[bq g,.slice A' (LC b).1.length c',ah (LC b).2]∧L=Fb g gc w n p bd::Cv gc Ac cc (x6 b)::M∧Wk M F∧aL B w0 L 1 (.slice A' (LC b).1.length c') (LC b).1.length (bv (LC b).1)
theorem U3(HT:bK B w0){b:al}(hb:fq B w0 F A c b)(dh:b.length≤1000000):
  a_ B w0 272 [.slice A b.length c] F (OpA b B w0 F):=by
 have hN:((frN b:Nat):Int)≤32768:=Cs.gy _ aa aa;have hB:(Qa b).length≤1000000:=by
  have h1:=Im (Gg b) (zH b);have h2:Qa b=(Gg b).take (zH b):=rfl;have h3:((zH b:Nat):Int)≤32768:=Cs.gy _ aa aa;rw[h2];omega
 refine fw func272 34 [0] ?_;refine bz ?_;refine eK rfl (mT hb aa) fun gn An cn=>?_;refine ae (br [(0,_)] [.pointer none,ah 0,ah 0,ah 0,.slice none 0 0] [0] [_,_,_,_,_] rfl rfl ag) rfl ?_;refine bf fun Io=>?_;refine bB ?_;refine ai rfl (aho (b:=b) (aL.own (.head _)) aa) ?_;refine bB ?_;refine ba apk rfl (ahr HT (b:=b) (aL.own (.head _)) hb.cons aa) rfl ?_;rintro _ _ ⟨rfl,Ab,cb,cJ⟩;obtain rfl:=cJ.symm;refine bP ?_;refine ai rfl ((gO).perm ((l0 (fT (.refl _))))) ?_;refine aE ?_;refine ve [5,6] ?_;refine bD ?_;refine aj (fun oh=>?_) fun oh=>?_
 ·refine bz ?_;refine ao (.skip (.skip (.skip (.skip (.refl _))))) ?_;refine aE ?_;unfold OpA;rw[aq oh];exact⟨rfl,rfl⟩
 ·refine bI ?_;refine ba apl rfl (.perm (ab2 (bd:=Qa b) (aL.own (.tail _ (.head _))) hB aa) ((l0 (fT (.refl _))))) rfl ?_;rintro _ _ ⟨Ar,cr,Y,rfl,cJ,Cz⟩;obtain rfl:=cJ.symm;refine tQ ?_;have GW:=om Y [Fb Io gn (Cs.byte ⟨b,0,0⟩).toNat (frN b) (zH b) (.slice Ab (Qa b).length cb),Cv gn An cn (x6 b)] (.own 5 1 Ab (Qa b).length cb (bv (Qa b)):: .own 5 1 An b.length cn (bv b)::F);refine ao (.dE GW) ?_;refine aE ?_;unfold OpA;rw[aw oh];exact⟨Ar,cr,Io,gn,An,cn,_,_,_,_,_,rfl,rfl,(dA Y _).trans (.skip (.skip (.refl F))),Cz.perm GW⟩
theorem EX(most:Int):∀(l:List bN) (out:al),(out.length:Int)≤most→((ic most out l).1.length:Int)≤most
 |[],out,h=>by simpa[ic]using h
 |t::r,out,h=>by
  by_cases h1:fa t
  ·by_cases h2:(out.length:Int)<t.2.2
   ·rw[IZ most h1 h2];simp;omega
   ·by_cases h3:most-out.length<max 1 t.2.1
    ·rw[EY most h1 h2 h3];simp;omega
    ·by_cases h4:t.2.1=0
     ·rw[I0 most h1 h2 h3 h4];exact EX most r _ T'
     ·rw[EW most h1 h2 h3 h4];exact EX most r _ (by rw[oH];omega)
  ·rw[IY most h1];simp;omega
theorem ahq{w n p:Nat}{bd:al}:(Nq w n p bd).1.length≤max n bd.length:=by
 unfold Nq;split
 ·split
  ·simp
  ·simp only;omega
 ·split
  ·simp
  ·split
   ·simp
   ·split
    ·simp
    ·have h:=EX n (fN bd n).1 [] ak;unfold kE;rw[aw aa];simp only;omega
theorem U5(b:al):(LC b).1.length≤32768:=by
 have hN:((frN b:Nat):Int)≤32768:=Cs.gy _ aa aa;have hP:((zH b:Nat):Int)≤32768:=Cs.gy _ aa aa;have h1:=Im (Gg b) (zH b);have h2:Qa b=(Gg b).take (zH b):=rfl;have h3:=ahq (w:=(Cs.byte ⟨b,0,0⟩).toNat) (n:=frN b) (p:=zH b) (bd:=Qa b);rw[h2]at h3;unfold LC;rw[h2];omega
abbrev BlA(R:al×Nat×Int)(F:aR)(r:Value)(L:aR):Prop:=∃A' c',r= .tuple #[.slice A' R.1.length c',ah (R.2.1:Int),ah R.2.2]∧L= .own 5 1 A' R.1.length c' (bv R.1)::F
theorem agQ(HT:bK B w0){b:al}(hb:fq B w0 F A c b)(dh:b.length≤1000000)(h:(x6 b).e≠0):
  a_ B w0 230 [.slice A b.length c] F (BlA (dL b) F):=by
 have hop:=(U3 HT hb dh).mono (R':=fun r L=>r= .tuple #[.pointer none,.slice none 0 0,ah (x6 b).e]∧L=F) fun v L' k=>by unfold OpA at k;rw[aq h]at k;exact k
 refine fw func230 24 [0] ?_;refine bz ?_;refine ai rfl (hop) ?_;refine jU ?_;refine aj (fun kS=>?_) fun kS=>?_
 ·refine bz ?_;refine aC 5 1 none ?_;refine aE ?_;unfold dL;rw[aq h];exact⟨none,0,rfl,rfl⟩
 ·exfalso;exact kS h
def OpB(b:al)(B:Nat)(w0:World)(F:aR)(r:Value)(L:aR):Prop:=
 ∃A' c' g gc Ac cc M w n p bd,r= .tuple #[bq g,.slice A' (LC b).1.length c',ah (LC b).2]∧L=Fb g gc w n p bd::Cv gc Ac cc (x6 b)::M∧Wk M F∧aL B w0 (Fb g gc w n p bd::Cv gc Ac cc (x6 b)::M) 1 (.slice A' (LC b).1.length c') (LC b).1.length (bv (LC b).1)
theorem agR(HT:bK B w0){b:al}(hb:fq B w0 F A c b)(dh:b.length≤1000000)(h:¬(x6 b).e≠0):
  a_ B w0 230 [.slice A b.length c] F (BlA (dL b) F):=by
 have hop:=(U3 HT hb dh).mono (R':=OpB b B w0 F) fun v L' k=>by
  unfold OpA at k;rw[aw h]at k;obtain⟨A',c',g,gc,Ac,cc,M,w,n,p,bd,h1,h2,h3,h4⟩:=k;rw[h2]at h4;exact⟨A',c',g,gc,Ac,cc,M,w,n,p,bd,h1,h2,h3,h4⟩
 refine fw func230 24 [0] ?_;refine bz ?_;refine ba api rfl (hop) rfl ?_;rintro _ _ ⟨Ao,co,go,gc,Ac,cc,M,w,n,p,bd,rfl,cJ,hM,hbo⟩;obtain rfl:=cJ.symm;refine jU ?_;refine aj (fun kS=>?_) fun kS=>?_
 ·refine bz ?_;refine ao (.skip (.skip hM)) (aC 5 1 none ?_);refine aE ?_;unfold dL;rw[aw h,aq kS];exact⟨none,0,rfl,rfl⟩
 ·refine bH ?_;refine cC (Fb go gc w n p bd::Cv gc Ac cc (x6 b)::M) ?_;refine ab 0 ?_;refine ab 2 ?_;refine ab 3 ?_;refine ab 4 ?_;refine ab 5 ?_;refine az 1 ?_;refine b7 rfl rfl (l9 (LC b).1 hbo (by have:=U5 b;omega)) fun s8 uR=>?_;refine az 6 ?_;refine iZ rfl rfl ((zC).jj ((BN (fT (fT (.refl _)))))) ?_;refine ab 7 ?_;refine ab 8 ?_;refine ab 9 ?_;refine cP [2,3,4] ?_;refine be ?_;refine ao (.cons (.skip (.skip hM))) ?_;refine aE ?_;unfold dL;rw[aw h,aw kS];exact⟨s8,uR,rfl,rfl⟩
theorem agS(HT:bK B w0){b:al}(hb:fq B w0 F A c b)(dh:b.length≤1000000):
  a_ B w0 230 [.slice A b.length c] F (BlA (dL b) F):=by
 by_cases h:(x6 b).e≠0
 ·exact agQ HT hb dh h
 ·exact agR HT hb dh h
end
end Go.Proofs.YtaodmbolhoafcaaGreatDoor

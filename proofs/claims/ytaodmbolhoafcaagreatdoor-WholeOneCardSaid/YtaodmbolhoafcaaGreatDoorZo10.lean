/-
  Texts of one proof, joined: part 10. No condition.
-/
import Derived.Test.YtaodmbolhoafcaaGreatDoorZo9
open Go.RowKit Go.Proofs.Tryz
namespace Go.Proofs.YtaodmbolhoafcaaGreatDoor
set_option linter.unusedVariables false
set_option linter.unusedSimpArgs false
set_option maxRecDepth 20000
variable{B:Nat}{w0:World}{F L:aQ}{A A1 A2 Ao:bj}{n c c1 c2 co g g1 g2:Nat}{fl:al}{q:List Bool}{X:cV}{bt:TypeId}{s1 s2 s3 s4 s5:Value}{l l1 l2 l3 l4 l5:al}{M:aQ}{A3:bj}{c3 gr gc:Nat}{s:Cs}
section
variable{sl:al}
theorem aa5{P:Prop}(h:P:=by(simp only at k;omega)):P:=h
theorem alm{v:Nat}(h:v≠0):Lt v=v.log2+1:=by
 unfold Lt;simp[h]
theorem Uo{v:Nat}(h1:v≠0)(h2:v<4096):a_ B w0 282 [ah v] F (fun r L=>r= .tuple #[ah (pS v),ah (JP v)]∧L=F):=by
 have hb:=JQ (v:=v) (k:=11) aa h1;have he:=QJ h1;have de:=alm h1;have P4:pS v=v.log2:=rfl;refine fw func282 13 [0] ?_;refine bO ?_;refine ab (bm underlying3 underlying192 rfl (r:=(v:Int)) (f_ aa aa)) rfl ?_;refine ai rfl (akq v aa) ?_;refine ab (dw rfl rfl (r:=((pS v:Nat):Int)) ((bF aa aa).trans aa)) rfl ?_;refine bI ?_;refine bZ (ga rfl rfl aa (r:=((2^pS v:Nat):Int)) (by have:=O5 (x:=1) (d:=pS v) (e:=(pS v:Int)) rfl aa aa;rw[rl]at this;exact this)) rfl ?_;refine bZ (dw rfl rfl (r:=((JP v:Nat):Int)) ((bF aa aa).trans aa)) rfl ?_;refine bz ?_;exact⟨rfl,rfl⟩
def SD(p:Qj):cV:=[ah (p.1:Int),ah (p.2.1:Int),ah (p.2.2.1:Int),ah (p.2.2.2:Int)]
theorem ZX{t:bP}(h:¬e_ t):a_ B w0 245 [.agg (bP.cells t).toArray] F (fun r L=>r= .tuple #[.agg (SD (0,0,0,0)).toArray,ah 7]∧L=F):=by
 obtain⟨x,tn,td⟩:=t;refine cm func245 38 rfl rfl rfl [(0,.agg #[.int .u8 (x.toNat:Int),ah tn,ah td])] ⟨⟨rfl,rfl⟩,trivial⟩ ?_;refine be ?_;refine bh fun g1=>?_;refine bc fun g2=>?_;refine bK ?_;refine ai rfl (adI (x,tn,td)) ?_;refine bA ?_;refine aj (fun jx=>?_) fun jx=>?_
 ·refine be ?_;refine ab (cu [ah 0,ah 0,ah 0,ah 0] ag) rfl ?_;refine bz ?_;refine aq (.cons (.skip (.refl _))) ?_;refine gQ rfl rfl ag aV gA rfl (.skip (.refl _)) ?_;exact⟨rfl,rfl⟩
 ·exfalso;exact jx h
theorem aeY{t:bP}(h:e_ t):a_ B w0 245 [.agg (bP.cells t).toArray] F (fun r L=>r= .tuple #[.agg (SD (bJ t)).toArray,ah 0]∧L=F):=by
 obtain⟨x,tn,td⟩:=t;have hx:=x.toNat_lt;have hm:=fun h0=>EI (tl:=x) (tn:=tn) (td:=td) h h0;refine cm func245 38 rfl rfl rfl [(0,.agg #[.int .u8 (x.toNat:Int),ah tn,ah td])] ⟨⟨rfl,rfl⟩,trivial⟩ ?_;refine be ?_;refine bh fun g1=>?_;refine bc fun g2=>?_;refine bK ?_;refine ai rfl (adI (x,tn,td)) ?_;refine bA ?_;refine aj (fun jx=>?_) fun jx=>?_
 ·exfalso;exact jx h
 ·refine bB ?_;refine aj (fun jZ=>?_) fun jZ=>?_
  ·have hp:bJ (x,tn,td)=(x.toNat,0,0,0):=by unfold bJ;rw[ao jZ]
   rw[hp];refine b8 ?_;refine ab (bm underlying5 underlying3 rfl (r:=(x.toNat:Int)) (bF aa aa)) rfl ?_;refine ab (bw [(0,_)] [ah 0,ah 0,ah 0,ah 0] [0] [_,_,_,_] rfl rfl ag) rfl ?_;refine bz ?_;refine aq (.cons (.skip (.refl _))) ?_;refine gQ rfl rfl ag aV gA rfl (.skip (.refl _)) ?_;exact⟨rfl,rfl⟩
  ·obtain⟨h1,h2,h3,h4,h5⟩:=hm jZ;obtain⟨a,ha⟩:=cK ((tn-2).toNat);obtain⟨d,hd⟩:=cK (td.toNat);have hp:bJ (x,tn,td)=(257+pS a,JP a,pS d,JP d):=by unfold bJ;rw[aw jZ,ha,hd]
   rw[hp];have hb:=JQ (v:=a) (k:=7) aa aa;refine bz ?_;refine ab (dw rfl rfl (r:=(a:Int)) ((bF aa aa).trans aa)) rfl ?_;refine ai rfl (Uo (v:=a) aa aa) ?_;refine bB ?_;refine ab (bM (v:=ah (d:Int)) ag rfl aV (by show some (Value.int .i64 td)=_;congr 2;omega)) rfl ?_;refine ai rfl (Uo (v:=d) aa aa) ?_;refine bG ?_;refine ve [2,4,5,6,7] ?_;refine b8 ?_;refine ab (bX rfl rfl (r:=((257+pS a:Nat):Int)) ((bF aa aa).trans aa)) rfl ?_;refine bA ?_;refine ab (eG [(0,_),(1,_),(2,_),(3,_)] [_,_,_,_] rfl rfl ag) rfl ?_;refine bG ?_;refine aq (.cons (.skip (.refl _))) ?_;refine gQ rfl rfl ag aV gA rfl (.skip (.refl _)) ?_;exact⟨rfl,rfl⟩
def cS(l:List bP)(s:Nat):Nat:=l.countP fun t=>(bJ t).1==s
def yP(l:List bP):bf:=(List.range 265).map (cS l)
def pk(l:List bP):bf:=(List.range 12).map (wH l)
@[simp] theorem Fy(l:List bP):(yP l).length=265:=by simp[yP]
@[simp] theorem xU(l:List bP):(pk l).length=12:=by simp[pk]
theorem yQ(l:List bP){s:Nat}(h:s<265):(yP l).getD s 0=cS l s:=by
 simp[yP,bk,h]
theorem DV(l:List bP){s:Nat}(h:s<12):(pk l).getD s 0=wH l s:=by
 simp[pk,bk,h]
theorem agV(l:List bP)(t:bP)(s:Nat):cS (l++[t]) s=cS l s+if (bJ t).1=s then 1 else 0:=by
 unfold cS;rw[List.countP_append,N6,List.countP_nil];simp
theorem HN(l:List bP)(t:bP)(s:Nat):wH (l++[t]) s=wH l s+if 256<(bJ t).1∧(bJ t).2.2.1=s then 1 else 0:=by
 unfold wH;rw[List.countP_append,N6,List.countP_nil];simp
theorem Z7(l:List bP){t:bP}(h:(bJ t).1<265):(yP l).set (bJ t).1 (cS l (bJ t).1+1)=yP (l++[t]):=by
 apply pZ
 ·simp
 ·intro i h1 h2;rw[N7];simp only[yP,Ex,GY,agV];by_cases e:(bJ t).1=i
  ·subst e;rw[ao rfl,ao rfl]
  ·rw[aw e,aw e];rfl
theorem X_(l:List bP){t:bP}(h:256<(bJ t).1)(h2:(bJ t).2.2.1<12):(pk l).set (bJ t).2.2.1 (wH l (bJ t).2.2.1+1)=pk (l++[t]):=by
 apply pZ
 ·simp
 ·intro i h3 h4;rw[N7];simp only[pk,Ex,GY,HN];by_cases e:(bJ t).2.2.1=i
  ·subst e;rw[ao rfl,ao ⟨h,rfl⟩]
  ·rw[aw e,aw (fun k=>e k.2)];rfl
theorem X9(l:List bP){t:bP}(h:¬256<(bJ t).1):pk (l++[t])=pk l:=by
 unfold pk;refine sb fun s _=>?_;rw[HN,aw (fun k=>h k.1)];rfl
theorem abp(l:List bP)(s:Nat):cS l s≤l.length:=ado
theorem Ur(l:List bP)(s:Nat):wH l s≤l.length:=ado
def Cn(l:List bP):bf:=(yP l).set 256 (cS l 256+1)
@[simp] theorem Fz(l:List bP):(Cn l).length=265:=by simp[Cn]
theorem rA{t:bP}(h:e_ t):(bJ t).1<265∧(bJ t).1≠256∧(256<(bJ t).1→(bJ t).2.2.1<12):=by
 by_cases h0:t.2.1=0
 ·rw[(vg h h0).1];have:=lT t.1;exact⟨cY,cY,fun k=>aa5⟩
 ·have:=nM h h0;exact⟨aa,aa,fun _=>aa⟩
theorem ai7{l:List bP}(h:∀t∈l,e_ t):oN (Cn l)=JR l:=by
 funext s;unfold oN Cn JR;by_cases hs:s<265
 ·rw[bk,BF];by_cases e:256=s
  ·subst e;simp[cS]
  ·rw[aw e,←bk,yQ l hs,aw (fun k=>e k.symm)];rfl
 ·rw[bk,zX bR,aw aa];have:l.countP (fun t=>(bJ t).1==s)=0:=List.countP_eq_zero.2 fun t ht=>by
   have:=(rA (h t ht)).1;simp;omega
  rw[this];rfl
theorem ahj{l:List bP}(h:∀t∈l,e_ t):oN (pk l)=wH l:=by
 funext s;unfold oN;by_cases hs:s<12
 ·exact DV l hs
 ·rw[bk,zX bR];have:wH l s=0:=List.countP_eq_zero.2 fun t ht=>by
   have:=(rA (h t ht)).2.2;simp only[zZ,NY,beq_iff_eq,not_and];intro k;have:=this k;omega
  rw[this];rfl
def p8(L:bf):cV:=ints .u32 (L.map fun(n:Nat)=>(n:Int))
theorem FP(L:bf):(p8 L).length=L.length:=by simp[p8]
theorem Lc{L:bf}{k v:Nat}(h:k<L.length)(hv:L.getD k 0=v):(p8 L)[k*1]? =some (.int .u32 ((v:Nat):Int)):=by
 rw[←hv];exact FO h
theorem yU(L:bf)(k v:Nat):(p8 L).set (k*1) (.int .u32 (v:Int))=p8 (L.set k v):=by simp[p8,ints,Kw]
theorem TK{x:Int}(h1:0≤x)(h2:x<4294967296):IntKind.u32.wrap x=x:=by
 rw[IntKind.wrap_u32];omega
def aaM(l:List bP)(F:aQ)(r:Value)(L:aQ):Prop:=
 ∃A1 A2,r= .tuple #[.slice A1 265 265,.slice A2 12 12,ah 0]∧L= .own 135 1 A1 265 265 (p8 (Cn l)):: .own 135 1 A2 12 12 (p8 (pk l))::F
def spP(t:bP):Qj:=if e_ t then bJ t else (0,0,0,0)
def spE(t:bP):Int:=if e_ t then 0 else 7
theorem afL(t:bP):a_ B w0 245 [.agg (bP.cells t).toArray] F (fun r L=>r= .tuple #[.agg (SD (spP t)).toArray,ah (spE t)]∧L=F):=by
 unfold spP spE;by_cases h:e_ t
 ·rw[ao h,ao h];exact aeY h
 ·rw[aw h,aw h];exact ZX h
theorem Pw{t:bP}{ps px pc py:Nat}(h:spP t=(ps,px,pc,py)):a_ B w0 245 [.agg (bP.cells t).toArray] F (fun r L=>r= .tuple #[.agg #[ah (ps:Int),ah (px:Int),ah (pc:Int),ah (py:Int)],ah (spE t)]∧L=F):=by
 have:=afL (B:=B) (w0:=w0) (F:=F) t;rw[h]at this;exact this
open Classical in
def CW(l:List bP)(F:aQ)(r:Value)(L:aQ):Prop:=if∀t∈l,e_ t then aaM l F r L else r= .tuple #[.slice none 0 0,.slice none 0 0,ah 7]∧L=F
theorem vu(n:Nat):List.replicate n (Value.int .u32 0)=p8 (List.replicate n 0):=by simp[p8,ints]
theorem Pb:yP []=List.replicate 265 0:=by
 unfold yP cS;exact List.eq_replicate_iff.2 ⟨ak,fun b hb=>by
  obtain⟨s,_,rfl⟩:=pQ.1 hb;rfl⟩
theorem M_:pk []=List.replicate 12 0:=by
 unfold pk wH;exact List.eq_replicate_iff.2 ⟨ak,fun b hb=>by
  obtain⟨s,_,rfl⟩:=pQ.1 hb;rfl⟩
theorem UB{l:List bP}(hb:aK B w0 F 3 (.slice A l.length c) l.length (kW l))(hl:l.length≤32768):
  a_ B w0 202 [.slice A l.length c] F (CW l F):=by
 refine fw func202 52 [0] ?_;refine bK ?_;refine d_ (fun zf zL=>∃(A1 A2:bj),Sub zf [(0,.slice A l.length c),(5,.slice A1 265 265),(6,.slice A2 12 12)]∧Wk zL (.own 135 1 A1 265 265 (p8 (yP [])):: .own 135 1 A2 12 12 (p8 (pk []))::F)) ?_ ?_
 ·refine cF _ ?_;refine gS 0 1 ?_ ?_
  ·refine cR rfl (fb (nn:=265) (cc:=265) KY rfl rfl rfl rfl rfl aa aa aa) fun tG=>?_;refine ae 2 ?_;refine az 1 ?_;refine cR rfl (fb (nn:=12) (cc:=12) KY rfl rfl rfl rfl rfl aa aa aa) fun PR=>?_;refine ae 3 ?_;refine aF ?_;exact bD ⟨tG,PR,bp,.trans ((gk (ed (.refl _)))) (ax rfl (by rw[Pb,←vu]) (ax rfl (by rw[M_,←vu]) (.refl _)))⟩
  ·refine cR rfl (fb (nn:=12) (cc:=12) KY rfl rfl rfl rfl rfl aa aa aa) fun PR=>?_;refine az 0 ?_;refine cR rfl (fb (nn:=265) (cc:=265) KY rfl rfl rfl rfl rfl aa aa aa) fun tG=>?_;refine ae 2 ?_;refine ae 3 ?_;refine aF ?_;exact bD ⟨tG,PR,bp,ax rfl (by rw[Pb,←vu]) (ax rfl (by rw[M_,←vu]) (.refl _))⟩
 ·rintro _ _ ⟨A1,A2,hs,hp⟩;refine aU hs hp ?_;clear hs hp;refine bO ?_;refine aE (fun zf zL zm=>∃(k:Nat),(k≤l.length∧∀t∈l.take k,e_ t)∧l.length-k=zm∧Sub zf [(5,.slice A1 265 265),(6,.slice A2 12 12),(13,.slice A l.length c),(14,ah l.length),(15,ah k)]∧Wk zL (.own 135 1 A1 265 265 (p8 (yP (l.take k))):: .own 135 1 A2 12 12 (p8 (pk (l.take k)))::F)) _ ⟨0,⟨bS _,fun t h=>kl⟩,rfl,bp,.refl _⟩ ?_;rintro _ _ _ ⟨k,⟨hk,hmk⟩,rfl,hs,hp⟩;refine aU hs hp ?_;clear hs hp;refine bz ?_;refine aj (fun ki=>?_) fun ki=>?_
  ·obtain⟨t,ht⟩:=cK (Je l k);have htv:=FN (l:=l) (k:=k) aa;rw[←ht]at htv;have ua:l.take (k+1)=l.take k++[t]:=by rw[ht];exact ba aa _
   have htm:t∈l:=by rw[ht];exact bg aa _
   obtain⟨⟨ps,px,pc,py⟩,hP⟩:∃P,spP t=P:=⟨_,rfl⟩
   refine bK ?_;refine ab (di 3 ag rfl aA aa [.int .u8 (t.1.toNat:Int),ah t.2.1,ah t.2.2] (sr htv) rfl) rfl ?_;refine bc fun g8=>?_;refine bz ?_;refine ai rfl (Pw (t:=t) hP) ?_;refine bA ?_;refine bc fun g9=>?_;refine cZ ?_;refine aj (fun vV=>?_) fun vV=>?_
   ·have hnm:¬e_ t:=fun h=>vV (by unfold spE;rw[ao h]);have ND:¬∀t∈l,e_ t:=fun h=>hnm (h t htm);refine bz ?_;refine ve [2,3,4] ?_;refine bI ?_;refine aq (.skip (.skip (.skip (.skip (.refl _))))) ?_;refine aF ?_;unfold CW;rw[aw ND];exact⟨by unfold spE;rw[aw hnm],rfl⟩
   ·have fG:e_ t:=bH fun h=>vV (by unfold spE;rw[aw h];decide);obtain⟨Ca,hp2,hp3⟩:=rA fG;have Km:spP t=bJ t:=by unfold spP;rw[ao fG]
    have tV:=abp (l.take k) (bJ t).1;have hcf:=Ur (l.take k) (bJ t).2.2.1;rw[eS]at tV hcf;have k_:=Z7 (l.take k) Ca;have jF:=fun h=>X_ (l.take k) h (hp3 h);have wS:=X9 (l.take k) (t:=t);have aqu:∀u∈l.take (k+1),e_ u:=fun u hu=>by
     rw[ua]at hu;rcases dz.1 hu with hu|hu
     ·exact hmk u hu
     ·rw[lJ.1 hu];exact fG
    rw[←ua]at k_ jF wS;rw[Km]at hP;rw[hP]at Ca hp2 hp3 tV hcf k_ jF wS;simp only at Ca hp2 hp3 tV hcf k_ jF wS;have hL1:=Fy (l.take k);have hL2:=xU (l.take k);have hg1:=yQ (l.take k) Ca;have Nv:=DV (l.take k) (s:=pc);obtain⟨q1,hq1⟩:=cK (cS (l.take k) ps);obtain⟨q2,RI⟩:=cK (wH (l.take k) pc);rw[←hq1]at tV k_ hg1;rw[←RI]at hcf jF Nv;have hlk:=FP (yP (l.take k));have NA:=FP (pk (l.take k));refine bI ?_;refine ab (au ag rfl aA aa (Lc aa hg1)) rfl ?_;refine ab (bX rfl rfl (r:=((q1+1:Nat):Int)) ((TK aa aa).trans aa)) rfl ?_;refine be ?_;refine ve [5,6,9,13,14,15] ?_;refine bI ?_;refine aj (fun y_=>?_) fun y_=>?_
    ·have asB:=Nv (hp3 aa);have asW:=jF aa;have auj:=hp3 aa;refine bG ?_;refine ab (au ag rfl aA aa (Lc aa asB)) rfl ?_;refine ab (bX rfl rfl (r:=((q2+1:Nat):Int)) ((TK aa aa).trans aa)) rfl ?_;refine bO ?_;refine av ⟨_,aa,k+1,⟨aa,aqu⟩,rfl,bp,.skip (.skip (ax rfl (by rw[yU,k_]) (ax rfl (by rw[yU,asW]) (.refl _))))⟩
    ·have asX:=wS aa;refine bK ?_;refine av ⟨_,aa,k+1,⟨aa,aqu⟩,rfl,bp,.skip (.skip (ax rfl (by rw[yU,k_]) (ax rfl (by rw[asX]) (.refl _))))⟩
  ·refine bz ?_;obtain rfl:k=l.length:=by omega
   rw[jS]at*;have hL1:=Fy l;have hlk:=FP (yP l);have hg1:=yQ l (s:=256) aa;have tV:=abp l 256;obtain⟨q1,hq1⟩:=cK (cS l 256);rw[←hq1]at hg1 tV;refine be ?_;refine ab (aC (i:=256) (size:=1) underlying213 ag rfl rfl rfl aa aA) rfl ?_;refine ab (au ag rfl aA aa (Lc aa hg1)) rfl ?_;refine ab (bX rfl rfl (r:=((q1+1:Nat):Int)) ((TK aa aa).trans aa)) rfl ?_;refine ab (aC (i:=256) (size:=1) underlying213 ag rfl rfl rfl aa aA) rfl ?_;refine dQ ?_;unfold CW;rw[ao hmk];exact⟨_,_,rfl,by rw[yU,hq1];rfl⟩
end
theorem aaJ(z:Value)(m:Nat):(Builtin.zeroCells #[z] m).toList=List.replicate m z:=by
 apply pZ
 ·simp[Builtin.zeroCells]
 ·intro k h1 h2;simp[Builtin.zeroCells,Nat.mod_one]
theorem aeK{P:Program}{t xt e:TypeId}{bytes:Nat}(T:sJ P t e 1 bytes (.int .u8 0))(hx:P.underlying xt=some (.int .u64))(ty:TypeId){w:World}{g n c m:Nat}{cur:Array Value}(hg:w.heap[g]? =some (.cells cur e (0,0)))(hm:0<m)(rb:n+m≤c)(GL:n+m≤cur.size)(hb:m*bytes≤281474976710656)(Lz:m≤281474976710656):
  (Builtin.append_ #[t,xt] ty #[.slice (some ⟨g,0,none⟩) n c,.int .u64 m]).run P w= .ok (.slice (some ⟨g,0,none⟩) (n+m) c) (w.setRow g (cur.toList.take n++List.replicate m (Value.int .u8 0)++cur.toList.drop (n+m)).toArray):=by
 obtain⟨i,hi,hz,iZ,Ea⟩:=T.hi;have sQ:=run_storeCells_at P g n e (List.replicate m (Value.int .u8 0)) 0 cur w hg (by simpa using GL) (by intro v hv;rw[(List.mem_replicate.1 hv).2];rfl);simp only[tk,yd]at sQ;have hw:IntKind.i64.wrap (m:Int)=m:=bF aa aa;have asP:¬(m:Int)<0:=by omega
 have Ns:¬(281474976710656:Int)<(m:Int)*(bytes:Int):=by
  rw[←z6];generalize m*bytes=y at hb⊢;omega
 have hm0:¬m=0:=by omega
 have hzc:(Value.int IntKind.u8 0).cells= #[Value.int IntKind.u8 0]:=rfl;simp[Builtin.append_,iP T.ht,iP hx,asInt,asIntOf,sizeOf,typeInfo,zeroValue,hi,hz,iZ,Ea,hw,asP,Ns,hm0,rb,zV,hzc,aaJ,sQ]
theorem abT{C:Cx}{fr:Fr}{L:aQ}{x y:Operand}{ty t xt e:TypeId}{f:Ch→aQ}{bytes:Nat}(T:sJ C.P t e 1 bytes (.int .u8 0))(hx:C.P.underlying xt=some (.int .u64)){A:bj}{n c m:Nat}{k:Int}{xs:cV}(he:ev fr x=some (.slice A n c))(hs:mG (.own e 1 A n c xs) L f)(hy:ev fr y=some (.int .u64 k))(hk:k=(m:Int))(hm:0<m)(rb:n+m≤c)(hb:m*bytes≤281474976710656)(Lz:m≤281474976710656):
  qx C fr L (.call {callee:=.builtin .append,args:= #[x,y],argTypes:= #[t,xt]}) ty (fun p L'=>p= .slice A (n+m) c∧L'=f (.own e 1 A (n+m) c (xs++List.replicate m (Value.int .u8 0)))):=fun a w ha hw d pos af gg=>by
 subst hk;have mo:=hw.all _ hs.mem;obtain⟨k1,k2,k3⟩:=mo;have qM:¬c=0:=by omega
 obtain⟨g,cur,rfl,Yw,hg,hcm,tV,po⟩:=k3.resolve_left qM;have hr:=aeK (P:=C.P) T hx ty hg hm rb aa hb Lz;simp only[cE]at k1 tV po;refine⟨_,_,_,.inl ?_,⟨rfl,rfl⟩,hw.Qe hs (w':=w.setRow g (cur.toList.take n++List.replicate m (Value.int .u8 0)++cur.toList.drop (n+m)).toArray) ?_ (fun _=>⟨by simp[k1],rb,.inr ⟨g,_,rfl,Yw,N1 w g cur _ e _ hg,hcm,?_,?_⟩⟩) (.inr (.inl Hq))⟩
 ·simp[execOp,resolve,invoke,builtin,ha.tmp he,ha.tmp hy,hr]
 ·rw[show(Ch.own e 1 (some ⟨g,0,none⟩) n c xs).fp=some g by simp[Ch.fp,qM]];exact⟨rfl,rfl,rfl,ak,fun k _ hk=>N3 w g k _ (fun e=>hk xz)⟩
 ·simp only[wW,aY,eS,iG,N2,yd];omega
 ·rw[po];have hlen:(xs++List.replicate m (Value.int .u8 0)).length=n+m:=by simp[k1]
  simp only[cE];rw[←hlen];exact yk
theorem J4{C:Cx}{fr:Fr}{L:aQ}{x y:Operand}{ty t e:TypeId}{f:Ch→aQ}{bytes:Nat}{z:Value}(T:sJ C.P t e 1 bytes z){A:bj}{n c m:Nat}{xs:cV}(he:ev fr x=some (.slice A n c))(hs:mG (.own e 1 A n c xs) L f){yv:Value}{news:cV}(hy:ev fr y=some yv)(hb:aK C.B C.w0 L 1 yv m news)(h1:∀u∈news,u.oneCell'=true)(hm:0<m)(rb:n+m≤c):
  qx C fr L (.call {callee:=.builtin .append,args:= #[x,y],argTypes:= #[t,t]}) ty (fun p L'=>p= .slice A (n+m) c∧L'=f (.own e 1 A (n+m) c (xs++news))):=fun a w ha hw d pos af gg=>by
 obtain⟨i,hi,hz,iZ,Ea⟩:=T.hi;obtain⟨X,cx,rfl,hmc,hl,t_⟩:=hb w hw;obtain⟨ad,rfl,_,Ec⟩:=t_ hm;have mo:=hw.all _ hs.mem;obtain⟨k1,k2,k3⟩:=mo;have qM:¬c=0:=by omega
 obtain⟨g,cur,rfl,Yw,hg,hcm,tV,po⟩:=k3.resolve_left qM;simp only[cE]at k1 tV po hl;have hr:=run_append_room (P:=C.P) w t ty e i T.ht hi g n c cur hg ad m cx news (by rw[hl,iZ,cE]) Ec h1 rb (by rw[iZ,cE,hl,tV];exact rb);rw[iZ,cE,hl]at hr;refine⟨_,_,_,.inl ?_,⟨rfl,rfl⟩,hw.Qe hs (w':=w.setRow g (cur.toList.take n++news++cur.toList.drop (n+m)).toArray) ?_ (fun _=>⟨by simp[k1,hl],rb,.inr ⟨g,_,rfl,Yw,N1 w g cur _ e _ hg,hcm,?_,?_⟩⟩) (.inr (.inl Hq))⟩
 ·simp[execOp,resolve,invoke,builtin,ha.tmp he,ha.tmp hy,hr]
 ·rw[show(Ch.own e 1 (some ⟨g,0,none⟩) n c xs).fp=some g by simp[Ch.fp,qM]];exact⟨rfl,rfl,rfl,ak,fun k _ hk=>N3 w g k _ (fun e=>hk xz)⟩
 ·simp only[wW,aY,eS,iG,N2];omega
 ·rw[po];have hlen:(xs++news).length=n+m:=by simp[k1,hl]
  simp only[cE];rw[←hlen];exact yk
theorem aol{P:Prop}(h:P:=by(first|(exact .inl (by simpa using Np))|(exact⟨fun h=>.inr (by omega),fun h=>h.elim (fun h=>by simp_all) (fun h=>by omega)⟩))):P:=h
theorem om:type_of% @List.perm_append_comm_assoc:= @List.perm_append_comm_assoc
theorem WM(a b x y:Ch)(F:aQ):(a::b::x::y::F).Perm (x::y::a::b::F):=om [a,b] [x,y] F
theorem WL(x a b:Ch)(F:aQ):(x::a::b::F).Perm (a::b::x::F):=om [x] [a,b] F
theorem aam{a a':al}{b b':Int}{c c':Nat}(h:(a,b,c)=(a',b',c')):a=a'∧b=b'∧c=c':=by injection h with x y;injection y with y z;exact⟨x,y,z⟩
theorem MC(q:List Bool)(p0:Nat)(Vl:p0≤q.length)(hq:q.length≤8000000)(n:Int)(h1:-9223372036854775808≤n)(h2:n≤9223372036854775807)(Xn:al)(e':Int)(p':Nat)(hR:qN q p0 n=(Xn,e',p')):
  a_ B w0 346 [br g,ah n] (Rr g A c q p0 F) (fun r L=>∃A' c',r= .tuple #[.slice A' Xn.length c',ah e']∧L=Rr g A c q p' (.own 5 1 A' Xn.length c' (bv Xn)::F)):=by
 refine fw func346 70 [0,1] ?_;refine bI ?_;refine aZ 5 1 none ?_;refine aF ?_;refine bU 6 17 [0,1] (n<0∨300<n) ?_ ?_
 ·refine bA ?_;refine aL rfl rfl rfl (fun jZ=>?_) (fun jZ=>?_)
  ·refine b8 ?_;exact aP aba
  ·refine be ?_;exact aP agB
 ·refine be ?_;refine aj (fun iF=>?_) fun iF=>?_
  ·rw[qN,ao iF]at hR;obtain⟨rfl,rfl,rfl⟩:=aam hR;refine bI ?_;refine aq (Wk.dE (WL _ _ _ _)) ?_;refine aF ?_;exact⟨none,0,rfl,rfl⟩
  ·obtain⟨N,rfl⟩:=gJ (show 0≤n by omega);rw[qN,aw iF,nH]at hR;refine bG ?_;refine cC (fb (nn:=0) cD rfl rfl rfl rfl rfl aa aa aa) fun Lp=>?_;refine bB ?_;refine aE (fun zf zL zm=>∃(f p:Nat) (acc:al) (s:Bool) (A6:bj),(acc.length≤N∧N≤acc.length+f∧p≤q.length∧lL q N f p acc s=(Xn,e',p'))∧N-acc.length=zm∧Sub zf [(0,br g),(1,ah N),(6,.slice A6 acc.length N),(7,.bool s)]∧Wk zL (Rr g A c q p (.own 5 1 A6 acc.length N (bv acc):: .own 5 1 none 0 0 []::F))) _ ⟨N,p0,[],false,Lp,⟨bS _,ak,Vl,hR⟩,rfl,bp,Wk.dE (WM _ _ _ _ _)⟩ ?_;rintro _ _ _ ⟨f,p,acc,s,A6,⟨D_,haf,hpq,t_⟩,rfl,hs,hp⟩;refine aU hs hp ?_;clear hs hp;refine bO ?_;refine aj (fun m7=>?_) fun m7=>?_
   ·obtain⟨f',rfl,atW,ac3⟩:=aet t_ haf aa;have hv4:oK q p 4<16:=zJ q p (n:=4) aa;have hv6:oK q (iE q p 4) 6<64:=zJ q (iE q p 4) (n:=6) aa;have hp4:=qE (q:=q) (p:=p) 4 hpq;have hp6:=qE (q:=q) (p:=iE q p 4) 6 hp4;refine bz ?_;refine ai rfl (Ik q p hpq hq 4 aa aa) ?_;refine dQ ?_;refine aj (fun Bu=>?_) fun Bu=>?_
    ·have Ys:=aiI ac3 aa Bu;obtain⟨rfl,rfl,rfl⟩:=aam Ys;refine bG ?_;refine ve [4,5] ?_;refine bK ?_;refine aq (bq rfl (ax rfl rfl (.skip (.refl _)))) ?_;refine aF ?_;exact⟨none,0,rfl,rfl⟩
    ·refine bO ?_;refine aj (fun h33=>?_) fun h33=>?_
     ·have hrn:=Wh ac3 aa aa aa;have tC:(acc++[UInt8.ofNat (oK q p 4)]).length=acc.length+1:=by simp
      refine bG ?_;refine cC (DM cD rfl rfl) fun A37=>?_;refine lO (J4 cD rfl aV rfl aA L5 aa aa) rfl ?_;rintro _ _ ⟨rfl,rfl⟩;rw[←tC];refine aF ?_;refine ve [0,1,6] ?_;refine bO ?_;refine av ⟨_,aa,f',iE q p 4,acc++[UInt8.ofNat (oK q p 4)],false,A6,⟨bR,bR,hp4,hrn⟩,rfl,bp,.skip (bq rfl (ax rfl rfl (ax rfl (aoW aa _) (.refl _))))⟩
     ·refine bG ?_;refine ai rfl (Ik q (iE q p 4) hp4 hq 6 aa aa) ?_;refine bG ?_;refine ve [0,1,6,7,9,10] ?_;refine bI ?_;refine aj (fun h45=>?_) fun h45=>?_
      ·have Ys:=aer ac3 aa aa aa h45;obtain⟨rfl,rfl,rfl⟩:=aam Ys;refine dc ?_;refine aq (bq rfl (ax rfl rfl (.skip (.refl _)))) ?_;refine aF ?_;exact⟨none,0,rfl,rfl⟩
      ·refine bG ?_;refine bU 10 56 [0,1,6,10] (s=true∨N≤acc.length+oK q (iE q p 4) 6) ?_ ?_
       ·refine be ?_;refine kK rfl rfl rfl (fun Np=>?_) (fun Np=>?_)
        ·refine dQ ?_;exact aP (by exact dN aol)
        ·refine bK ?_;exact aP (by exact ej aol)
       ·refine be ?_;refine aj (fun Yq=>?_) fun Yq=>?_
        ·have Ys:=aes ac3 aa aa aa aa Yq;obtain⟨rfl,rfl,rfl⟩:=aam Ys;refine cH ?_;refine aq (bq rfl (ax rfl rfl (.skip (.refl _)))) ?_;refine aF ?_;exact⟨none,0,rfl,rfl⟩
        ·have hrn:=Wi ac3 aa aa aa aa Yq;have rO:(acc++List.replicate (oK q (iE q p 4) 6+1) (0:UInt8)).length=acc.length+(oK q (iE q p 4) 6+1):=by simp
         have Qa:acc.length+oK q (iE q p 4) 6<N:=by by_cases h:N≤acc.length+oK q (iE q p 4) 6;exact absurd (.inr h) Yq;omega
         refine bz ?_;refine ab (bX rfl rfl (f_ aa aa)) rfl ?_;refine lO (abT (m:=oK q (iE q p 4) 6+1) cD underlying60 rfl aV rfl aa aa aa aa aa) rfl ?_;rintro _ _ ⟨rfl,rfl⟩;rw[←rO];refine bG ?_;refine ab (bX rfl rfl (f_ aa aa)) rfl ?_;refine b8 ?_;refine av ⟨_,aa,f',iE q (iE q p 4) 6,acc++List.replicate (oK q (iE q p 4) 6+1) 0,_,A6,⟨bR,bR,hp6,hrn⟩,rfl,bp,bq rfl (ax rfl rfl (ax rfl (abm _ _) (.refl _)))⟩
   ·refine bK ?_;have hre:=Wg t_ aa;refine be ?_;refine ai rfl (zn acc aA) ?_;refine bO ?_;refine aj (fun Vb=>?_) fun Vb=>?_
    ·have hfn:=alG (p:=p) (show¬chk acc=0 by omega);rw[hfn.1]at hre;obtain⟨rfl,rfl,rfl⟩:=aam hre;refine bO ?_;refine aq (bq rfl (ax rfl rfl (.skip (.refl _)))) ?_;refine aF ?_;rw[hfn.2];exact⟨none,0,rfl,rfl⟩
    ·rw[alH (show chk acc=0 by omega)]at hre;obtain⟨rfl,rfl,rfl⟩:=aam hre;refine bB ?_;have hNe:Xn.length=N:=by omega
     refine aq (bq rfl (ax rfl rfl (ax rfl rfl (.skip (.refl _))))) ?_;refine aF ?_;exact⟨A6,N,rfl,rfl⟩
section
variable{sl:al}
theorem L3{P:Prop}(h:P:=by(simp only[aY];omega)):P:=h
theorem alh{P:Prop}(h:P:=by(rw[ua,To];simp only[bV])):P:=h
theorem Hg.mono{l:bf}(H:Hg B w0 F Ao co l){M:aQ}(hs:F.Sublist M):Hg B w0 M Ao co l:=⟨H.xk.mono hs,H.lt⟩
theorem agd(Y:aQ)(a b d:Ch)(F:aQ):Wk (Y++a::b::d::F) (a::b::(Y++F)):=
 (Wk.dE (om Y [a,b,d] F)).trans (.cons (.cons (.skip (.refl _))))
theorem Uy{l:bf}(H:Hg B w0 F Ao co l)(hl:l.length≤300)(hq:q.length≤100000):
  a_ B w0 203 [br g,.slice Ao l.length co] (Wx X g 292 A c q F)
   (fun r L=>∃g' Y A' c',r= .pointer (some ⟨g',0,none⟩)∧L=Wx X g 292 A' c' (q++ik (kV (oN l) l.length) 0) (Y++F)∧xi B w0 Y g' (kV (oN l) l.length)):=by
 have acV:Good (kV (oN l) l.length):=lU aa;have hlb:(kV (oN l) l.length).length=l.length:=gy _ _;obtain⟨ls,hls⟩:=cK (kV (oN l) l.length);have Ge:=amD (B:=B) (w0:=w0) (H:=H.mono (M:=Wx X g 292 A c q F) (.cons _ (.cons _ (.refl _)))) hl;rw[←hls]at acV hlb Ge⊢;rw[←hlb]at Ge;refine fw func203 25 [0,1] ?_;refine bI ?_;refine ay rfl ((by rw[←hlb];exact Ge)) fun A9 c9=>?_;refine dc ?_;refine aX apq rfl (.perm (XL ls q aA acV aa) (WL _ _ _ _)) rfl ?_;rintro _ _ ⟨rfl,tb,uU,cA⟩;obtain rfl:=cA.symm;refine bG ?_;refine aX ajY rfl (adQ (l:=ls) aA acV) rfl ?_;rintro _ _ ⟨g19,Y,rfl,cA,x7⟩;obtain rfl:=cA.symm;refine bG ?_;refine ve [7] ?_;refine bI ?_;refine aq (agd _ _ _ _ _) ?_;refine aF ?_;exact⟨g19,Y,tb,uU,rfl,rfl,x7⟩
theorem afM{t:bP}(hm:e_ t){ps px pc py:Nat}(h:bJ t=(ps,px,pc,py)):a_ B w0 245 [.agg (bP.cells t).toArray] F (fun r L=>r= .tuple #[.agg #[ah (ps:Int),ah (px:Int),ah (pc:Int),ah (py:Int)],ah 0]∧L=F):=by
 have:=Pw (B:=B) (w0:=w0) (F:=F) (t:=t) (ps:=ps) (px:=px) (pc:=pc) (py:=py) (by unfold spP;rw[ao hm,h]);unfold spE at this;rw[ao hm]at this;exact this
def Ql(sl fl:al)(t:bP):Prop:=e_ t∧(bJ t).1<sl.length∧(sl.getD (bJ t).1 0).toNat≠0∧(256<(bJ t).1→(bJ t).2.2.1<fl.length∧(fl.getD (bJ t).2.2.1 0).toNat≠0)
abbrev Wt2(g1 g2 g:Nat)(A:bj)(c:Nat)(q:List Bool)(F:aQ):aQ:=Wx [br g1,br g2] g 292 A c q F
theorem ajl{t:bP}(ht:Ql sl fl t)(hs:Good sl)(hf:Good fl)(h1:xi B w0 F g1 sl)(h2:xi B w0 F g2 fl)(hq:q.length≤6000000):
  a_ B w0 204 [br g,.agg (bP.cells t).toArray] (Wt2 g1 g2 g A c q F) (fun r L=>r= .tuple #[]∧∃A' c',L=Wt2 g1 g2 g A' c' (q++vM sl fl t) F):=by
 obtain⟨fG,tC,Kn,hf2⟩:=ht;have Km:spP t=bJ t:=by unfold spP;rw[ao fG]
 have GO:=nM fG;have mN:=vg fG;have aqz:=rA fG;obtain⟨⟨ps,px,pc,py⟩,hP⟩:∃P,bJ t=P:=⟨_,rfl⟩
 have hQ:vM sl fl t=hw sl ps++if ps<256 then [] else hi px (ps-257) (ps-257)++(hw fl pc++hi py pc pc):=by unfold vM;rw[hP]
 rw[hQ];rw[hP]at Km tC Kn hf2 GO mN aqz;simp only at tC Kn hf2 GO mN aqz;have Ns:256<ps→px<2^(ps-257)∧py<2^pc∧pc≤11∧ps≤264:=fun h=>by
  by_cases h0:t.2.1=0
  ·have:=(mN h0).1;simp only[Cf]at this;have:=lT t.1;omega
  ·have:=GO h0;exact⟨this.2.2.2.1,this.2.2.2.2.1,this.2.2.1,this.2.1⟩
 have nS:=hs.1.1;obtain⟨x,tn,td⟩:=t;refine cm func204 53 rfl rfl rfl [(0,br g),(1,.agg #[.int .u8 (x.toNat:Int),ah tn,ah td])] ⟨⟨rfl,rfl⟩,⟨rfl,rfl⟩,trivial⟩ ?_;refine be ?_;refine bh fun g3=>?_;refine bG ?_;refine ai rfl (afM (t:=(x,tn,td)) fG hP) ?_;refine bA ?_;refine bc fun g4=>?_;refine bG ?_;refine cF (.bE g4 166 [ah ps,ah px,ah pc,ah py]::F) ?_;refine ae 0 ?_;refine ae 1 ?_;refine ae 2 ?_;refine ae 4 ?_;refine ae 5 ?_;refine ae 6 ?_;refine ae 7 ?_;refine ae 8 ?_;refine az 3 ?_;refine aF ?_;refine az 9 ?_;refine gz rfl .no abF rfl (.perm (RH hs h1.cons.cons tC Kn aa) (WM _ _ _ _ _)) rfl (by rintro _ _ ⟨rfl,G',JL,rfl⟩;exact gD) ?_;rintro _ _ ⟨rfl,G',JL,cA⟩;obtain rfl:=cA.symm;refine cQ [0,4] ?_;refine bO ?_;refine aj (fun m7=>?_) fun m7=>?_
 ·rw[ao aa,gj];refine be ?_;refine aq (.cons (.cons (.skip (.skip (.refl _))))) ?_;refine aF ?_;exact⟨rfl,G',JL,rfl⟩
 ·have hb:=Ns aa;obtain⟨l9,hfz⟩:=hf2 aa;rw[aw aa];have auk:=m8 sl ps;have ar9:=hs.1.2 _ (bg tC 0);have ar_:=hf.1.2 _ (bg l9 0);have RF:=m8 fl pc;have hp7:px<256:=wg hb.1 (la aa (by omega:ps-257≤8));have auh:py<2048:=wg hb.2.1 (la aa (by omega:pc≤11));refine bA ?_;refine cF (.bE g4 166 [ah ps,ah px,ah pc,ah py]::F) ?_;refine ae 0 ?_;refine ae 1 ?_;refine ae 2 ?_;refine ae 3 ?_;refine ae 4 ?_;refine aW 5 rfl (bm underlying3 underlying60 rfl (r:=(px:Int)) (f_ aa aa)) ?_;refine ae 6 ?_;refine ae 7 ?_;refine aW 8 rfl (dw rfl rfl (r:=((ps-257:Nat):Int)) ((bF aa aa).trans aa)) ?_;refine az 9 ?_;refine gz rfl .no Dp rfl (Bd (q++hw sl ps) px aa (ps-257) aa hb.1 tJ) rfl (by rintro _ _ ⟨rfl,PS,c33,rfl⟩;exact gD) ?_;rintro _ _ ⟨rfl,PS,c33,cA⟩;obtain rfl:=cA.symm;refine bA ?_;refine cF (.bE g4 166 [ah ps,ah px,ah pc,ah py]::F) ?_;refine ae 0 ?_;refine ae 1 ?_;refine ae 2 ?_;refine ae 4 ?_;refine ae 5 ?_;refine ae 6 ?_;refine ae 7 ?_;refine ae 8 ?_;refine az 3 ?_;refine aF ?_;refine az 9 ?_;refine gz rfl .no abF rfl (RH hf h2.cons.cons l9 hfz (by rw[aY,aY,dM];omega)) rfl (by rintro _ _ ⟨rfl,Lr,c43,rfl⟩;exact gD) ?_;rintro _ _ ⟨rfl,Lr,c43,cA⟩;obtain rfl:=cA.symm;refine cQ [0,4] ?_;refine aF ?_;refine cF (.bE g4 166 [ah ps,ah px,ah pc,ah py]::F) ?_;refine ae 0 ?_;refine ae 1 ?_;refine ae 2 ?_;refine ae 3 ?_;refine ae 4 ?_;refine aW 5 rfl (bm underlying3 underlying60 rfl (r:=(py:Int)) (f_ aa aa)) ?_;refine ae 6 ?_;refine ae 7 ?_;refine az 8 ?_;refine gz rfl .no Dp rfl (Bd (q++hw sl ps++hi px (ps-257) (ps-257)++hw fl pc) py aa pc aa hb.2.1 (by rw[aY,aY,aY,dM];omega)) rfl (by rintro _ _ ⟨rfl,A52,c52,rfl⟩;exact gD) ?_;rintro _ _ ⟨rfl,A52,c52,cA⟩;obtain rfl:=cA.symm;refine be ?_;refine aq (.cons (.cons (.skip (.skip (.refl _))))) ?_;refine aF ?_;exact⟨rfl,A52,c52,by simp only[bV]⟩
theorem Ql.of{l:List bP}(hm:∀t∈l,e_ t){t:bP}(h:t∈l):Ql (fh l) (im l) t:=by
 have h1:=rA (hm t h);have h2:(fh l).length=265:=gy _ _;have h3:(im l).length=12:=gy _ _;refine⟨hm t h,aa,kO aa h1.1 (Dm h),fun k=>⟨by have:=h1.2.2 k;omega,kO aa (h1.2.2 k) (Dk h k)⟩⟩
theorem afG{sl fl:al}{t:bP}(hs:Good sl)(hf:Good fl)(h:Ql sl fl t):(vM sl fl t).length≤48:=by
 obtain⟨h1,h2,h3,h4⟩:=h;have hp:=rA h1;have ar9:=hs.1.2 _ (bg h2 0);unfold vM;rw[aY,m8];split
 ·rw[sd];omega
 ·have h5:=h4 aa;have ar_:=hf.1.2 _ (bg h5.1 0);have h6:=hp.2.2 aa;rw[aY,aY,m8,dM,dM];omega
theorem Jg{sl fl:al}(hs:Good sl)(hf:Good fl):∀{l:List bP},(∀t∈l,Ql sl fl t)→(mP sl fl l).length≤48*l.length
 |[],_=>by simp[mP]
 |t::l,h=>by
  rw[xc,aY,ef];have h1:=afG hs hf (h t (.head _));have h2:=Jg hs hf (l:=l) (fun u hu=>h u (.tail _ hu));omega
theorem To(sl fl:al)(l:List bP)(t:bP):mP sl fl (l++[t])=mP sl fl l++vM sl fl t:=by simp[mP]
theorem ae9{l:List bP}(hl:l.length≤32768):Hg B w0 (.own 135 1 A1 265 c1 (p8 (Cn l))::L) A1 c1 (Cn l):=by
 refine⟨by rw[Fz];exact aK.own (.head _),fun k=>?_⟩;have h1:=fun s=>abp l s;unfold Cn;rw[bk,BF];split
 ·have:=h1 256;simp only[Fy];simp;omega
 ·rw[←bk];by_cases hk:k<265
  ·rw[yQ l hk];have:=h1 k;omega
  ·rw[bk,zX bR];simp
theorem ab3{l:List bP}(hl:l.length≤32768):Hg B w0 (.own 135 1 A2 12 c2 (p8 (pk l))::L) A2 c2 (pk l):=by
 refine⟨by rw[xU];exact aK.own (.head _),fun k=>?_⟩;by_cases hk:k<12
 ·rw[DV l hk];have:=Ur l k;omega
 ·rw[bk,zX bR];simp
theorem Z8{l:List bP}(hm:∀t∈l,e_ t)(hl:l.length≤32768)(hq:q.length≤100000):
  a_ B w0 203 [br g,.slice A1 265 c1] (Wx X g 292 A c q (.own 135 1 A1 265 c1 (p8 (Cn l))::F))
   (fun r L=>∃g' Y A' c',r= .pointer (some ⟨g',0,none⟩)∧L=Wx X g 292 A' c' (q++ik (fh l) 0) (Y++(.own 135 1 A1 265 c1 (p8 (Cn l))::F))∧xi B w0 Y g' (fh l)):=by
 have:=Uy (X:=X) (g:=g) (A:=A) (c:=c) (ae9 (B:=B) (w0:=w0) (A1:=A1) (c1:=c1) (L:=F) hl) (by rw[Fz];omega) hq;rw[ai7 hm,Fz]at this;exact this
theorem Ya{l:List bP}(hm:∀t∈l,e_ t)(hl:l.length≤32768)(hq:q.length≤100000)(H:Hg B w0 F A2 c2 (pk l)):
  a_ B w0 203 [br g,.slice A2 12 c2] (Wx X g 292 A c q F)
   (fun r L=>∃g' Y A' c',r= .pointer (some ⟨g',0,none⟩)∧L=Wx X g 292 A' c' (q++ik (im l) 0) (Y++F)∧xi B w0 Y g' (im l)):=by
 have:=Uy (X:=X) (g:=g) (A:=A) (c:=c) H (by rw[xU];omega) hq;rw[ahj hm,xU]at this;exact this
theorem Pv{l:List bP}(h:32768<l.length):lB l=([],6):=by unfold lB;rw[ao h]
theorem aaj{l:List bP}(h:¬32768<l.length)(h2:¬∀t∈l,e_ t):lB l=([],7):=by unfold lB;rw[aw h,aw h2]
theorem afJ{l:List bP}(h:¬32768<l.length)(h2:∀t∈l,e_ t):lB l=(packed (qu l),0):=by unfold lB;rw[aw h,ao h2]
theorem Tu{l:List bP}(hb:aK B w0 F 3 (.slice A l.length c) l.length (kW l))(wR:l.length<9223372036854775808)(hm:¬∀t∈l,e_ t):
  a_ B w0 144 [.slice A l.length c] F (fun r L=>∃A' c',r= .tuple #[.slice A' (lB l).1.length c',ah (lB l).2]∧L= .own 5 1 A' (lB l).1.length c' (bv (lB l).1)::F):=by
 have acM:=fun hl=>(UB hb hl).mono (R':=fun r L=>r= .tuple #[.slice none 0 0,.slice none 0 0,ah 7]∧L=F) fun v L' h=>by unfold CW at h;rw[aw hm]at h;exact h
 refine fw func144 58 [0] ?_;refine dQ ?_;refine aj (fun mD=>?_) fun mD=>?_
 ·refine bI ?_;refine aD 5 1 none ?_;refine aF ?_;rw[Pv aa];exact⟨none,0,rfl,rfl⟩
 ·refine bG ?_;refine ai rfl (acM aa) ?_;refine jQ ?_;refine zH fun iM=>?_;refine bG ?_;refine ve [2,3] ?_;refine bA ?_;refine aD 5 1 none ?_;refine aF ?_;rw[aaj aa hm];exact⟨none,0,rfl,rfl⟩
theorem aau{l:List bP}(hb:aK B w0 F 3 (.slice A l.length c) l.length (kW l))(wR:l.length<9223372036854775808)(hm:∀t∈l,e_ t):
  a_ B w0 144 [.slice A l.length c] F (fun r L=>∃A' c',r= .tuple #[.slice A' (lB l).1.length c',ah (lB l).2]∧L= .own 5 1 A' (lB l).1.length c' (bv (lB l).1)::F):=by
 have acM:=fun hl=>(UB hb hl).mono (R':=aaM l F) fun v L' h=>by unfold CW at h;rw[ao hm]at h;exact h
 refine fw func144 58 [0] ?_;refine dQ ?_;refine aj (fun mD=>?_) fun mD=>?_
 ·refine bI ?_;refine aD 5 1 none ?_;refine aF ?_;rw[Pv aa];exact⟨none,0,rfl,rfl⟩
 ·refine bG ?_;refine ay rfl (acM aa) fun A1 A2=>?_;refine jQ ?_;refine dm fun iM=>?_;refine b8 ?_;refine ab (cu [.slice none 0 0,ah 0,.pointer none,.pointer none] ag) rfl ?_;refine bh fun g23=>?_;refine b8 ?_;refine aZ 5 1 none ?_;refine wq (L':=Wx [.pointer none,.pointer none] g23 292 none 0 [] (.own 135 1 A1 265 265 (p8 (Cn l)):: .own 135 1 A2 12 12 (p8 (pk l))::F)) (.swap (.refl _)) ?_;refine b8 ?_;refine aX ajV rfl (Z8 hm aa ak) rfl ?_;rintro _ _ ⟨g27,Y1,Hc,Ms,rfl,cA,asw⟩;obtain rfl:=cA.symm;refine bA ?_;refine ve [0,5,7] ?_;refine be ?_;have nS:(fh l).length=265:=gy _ _;have l9:(im l).length=12:=gy _ _;have hsg:Good (fh l):=lU aa;have hfg:Good (im l):=lU aa;have k_:=xR (fh l) 265 0 aa;have jF:=xR (im l) 12 0 aa;obtain⟨K1,hK1⟩:=cK (Y1++(.own 135 1 A1 265 265 (p8 (Cn l)):: .own 135 1 A2 12 12 (p8 (pk l))::F));have hoK:Hg B w0 K1 A2 12 (pk l):=by rw[hK1];exact(ab3 aa).mono (List.sublist_append_of_sublist_right (.cons _ (.refl _)))
  have hbK:aK B w0 K1 3 (.slice A l.length c) l.length (kW l):=by rw[hK1];exact hb.mono (List.sublist_append_of_sublist_right (.cons _ (.cons _ (.refl _))))
  have hcK:xi B w0 K1 g27 (fh l):=by rw[hK1];exact asw.mono (vJ _ _)
  have GQ:Wk K1 F:=by rw[hK1];exact(dv _ _).trans (.skip (.skip (.refl _)))
  rw[←hK1];refine wq (L':=Wx [br g27,.pointer none] g23 292 Hc Ms (ik (fh l) 0) K1) (.refl _) ?_;refine b8 ?_;refine aX ajV rfl (Ya hm aa aa hoK) rfl ?_;rintro _ _ ⟨g33,Y2,PS,c33,rfl,cA,asx⟩;obtain rfl:=cA.symm;refine bK ?_;obtain⟨K,hK⟩:=cK (Y2++K1);have oL:aK B w0 K 3 (.slice A l.length c) l.length (kW l):=by rw[hK];exact hbK.mono (gx _ _)
  have P6:xi B w0 K g27 (fh l):=by rw[hK];exact hcK.mono (gx _ _)
  have hc2:xi B w0 K g33 (im l):=by rw[hK];exact asx.mono (vJ _ _)
  have hwF:Wk K F:=by rw[hK];exact(dv _ _).trans GQ
  rw[←hK];refine wq (L':=Wt2 g27 g33 g23 PS c33 (ik (fh l) 0++ik (im l) 0) K) (.refl _) ?_;refine bK ?_;refine aE (fun zf zL zm=>∃(k:Nat) (A':bj) (c':Nat),(k≤l.length)∧l.length-k=zm∧Sub zf [(7,br g23),(36,.slice A l.length c),(37,ah l.length),(38,ah k)]∧Wk zL (Wt2 g27 g33 g23 A' c' (ik (fh l) 0++ik (im l) 0++mP (fh l) (im l) (l.take k)) K)) _ ⟨0,PS,c33,bS _,rfl,bp,bq (by simp[mP]) (ax (by simp[mP]) (by simp[mP]) (.refl _))⟩ ?_;rintro _ _ _ ⟨k,A',c',hk,rfl,hs,hp⟩;refine aU hs hp ?_;clear hs hp;have hqs:∀k,(mP (fh l) (im l) (l.take k)).length≤48*l.length:=fun k=>jc (Jg hsg hfg (fun t ht=>Ql.of hm (List.take_subset _ _ ht))) nx;have hqk:=hqs k;refine bz ?_;refine aj (fun U'=>?_) fun U'=>?_
  ·obtain⟨t,ht⟩:=cK (Je l k);have htv:=FN (l:=l) (k:=k) aa;rw[←ht]at htv;have ua:l.take (k+1)=l.take k++[t]:=by rw[ht];exact ba aa _
   have htm:t∈l:=by rw[ht];exact bg aa _
   refine bK ?_;refine ab (di 3 ag rfl aA aa [.int .u8 (t.1.toNat:Int),ah t.2.1,ah t.2.2] (sr htv) rfl) rfl ?_;refine bc fun g9=>?_;refine bz ?_;refine aX apc rfl (.perm (ajl (Ql.of hm htm) hsg hfg P6.cons hc2.cons L3) ((l_ (l_ (fR (.refl _)))))) rfl ?_;rintro _ _ ⟨rfl,A44,c44,cA⟩;obtain rfl:=cA.symm;refine bK ?_;refine av ⟨_,aa,k+1,A44,c44,aa,rfl,bp,.trans (bq alh (ax alh alh (.refl _))) (.cons (.cons (.skip (.refl _))))⟩
  ·obtain rfl:k=l.length:=by omega
   rw[jS]at*;have kL:=hsg.1.2 _ (bg (by omega:256<(fh l).length) 0);refine bz ?_;refine cF K ?_;refine ae 0 ?_;refine ae 1 ?_;refine ae 2 ?_;refine ae 4 ?_;refine ae 5 ?_;refine ae 6 ?_;refine az 3 ?_;refine aF ?_;refine az 7 ?_;refine gz rfl .no abF rfl (RH (s:=256) hsg P6 aa (kO aa aa (by unfold JR;simp)) L3) rfl (by rintro _ _ ⟨rfl,A53,c53,rfl⟩;exact gD) ?_;rintro _ _ ⟨rfl,A53,c53,cA⟩;obtain rfl:=cA.symm;refine bK ?_;refine ay rfl (agf _ (by simp only[aY,m8];omega)) fun A57 c57=>?_;refine be ?_;refine ve [2,3] ?_;refine be ?_;refine aq (.cons (.skip (.skip hwF))) ?_;refine aF ?_;rw[afJ aa hm];have e:qu l=ik (fh l) 0++ik (im l) 0++mP (fh l) (im l) l++hw (fh l) 256:=by unfold qu;simp only[bV]
   rw[e];exact⟨A57,c57,rfl,rfl⟩
theorem afR{l:List bP}(hb:aK B w0 F 3 (.slice A l.length c) l.length (kW l))(wR:l.length<9223372036854775808):
  a_ B w0 144 [.slice A l.length c] F (fun r L=>∃A' c',r= .tuple #[.slice A' (lB l).1.length c',ah (lB l).2]∧L= .own 5 1 A' (lB l).1.length c' (bv (lB l).1)::F):=by
 by_cases hm:∀t∈l,e_ t
 ·exact aau hb wR hm
 ·exact Tu hb wR hm
end
theorem T7{P:Prop}(h:P:=by(simp[eh.all,hl])):P:=h
abbrev Gh(l:al)(F:aQ)(r:Value)(L:aQ):Prop:=∃A' c',r= .slice A' l.length c'∧L= .own 5 1 A' l.length c' (bv l)::F
theorem Qn(hb:aK B w0 F 1 (.slice A 2 c) 2 [s1,s2])(h1:aK B w0 F 1 s1 l1.length (bv l1))(h2:aK B w0 F 1 s2 l2.length (bv l2))(hl:l=l1++l2)(hn:l.length≤1099511627776):
  a_ B w0 52 [.slice A 2 c] F (Gh l F):=
 xu (P:=[(s1,l1),(s2,l2)]) hb (by intro y hy;simp only[fk,mv,oj]at hy;rcases hy with rfl|rfl<;>first|exact h1|exact h2) rfl T7 hn ak
theorem Jt(hb:aK B w0 F 1 (.slice A 3 c) 3 [s1,s2,s3])(h1:aK B w0 F 1 s1 l1.length (bv l1))(h2:aK B w0 F 1 s2 l2.length (bv l2))(h3:aK B w0 F 1 s3 l3.length (bv l3))(hl:l=l1++(l2++l3))(hn:l.length≤1099511627776):
  a_ B w0 52 [.slice A 3 c] F (Gh l F):=
 xu (P:=[(s1,l1),(s2,l2),(s3,l3)]) hb (by intro y hy;simp only[fk,mv,oj]at hy;rcases hy with rfl|rfl|rfl<;>first|exact h1|exact h2|exact h3) rfl T7 hn ak
theorem Qo(hb:aK B w0 F 1 (.slice A 4 c) 4 [s1,s2,s3,s4])(h1:aK B w0 F 1 s1 l1.length (bv l1))(h2:aK B w0 F 1 s2 l2.length (bv l2))(h3:aK B w0 F 1 s3 l3.length (bv l3))(h4:aK B w0 F 1 s4 l4.length (bv l4))(hl:l=l1++(l2++(l3++l4)))(hn:l.length≤1099511627776):
  a_ B w0 52 [.slice A 4 c] F (Gh l F):=
 xu (P:=[(s1,l1),(s2,l2),(s3,l3),(s4,l4)]) hb (by intro y hy;simp only[fk,mv,oj]at hy;rcases hy with rfl|rfl|rfl|rfl<;>first|exact h1|exact h2|exact h3|exact h4) rfl T7 hn ak
theorem Ju(hb:aK B w0 F 1 (.slice A 5 c) 5 [s1,s2,s3,s4,s5])(h1:aK B w0 F 1 s1 l1.length (bv l1))(h2:aK B w0 F 1 s2 l2.length (bv l2))(h3:aK B w0 F 1 s3 l3.length (bv l3))(h4:aK B w0 F 1 s4 l4.length (bv l4))(h5:aK B w0 F 1 s5 l5.length (bv l5))(hl:l=l1++(l2++(l3++(l4++l5))))(hn:l.length≤1099511627776):
  a_ B w0 52 [.slice A 5 c] F (Gh l F):=
 xu (P:=[(s1,l1),(s2,l2),(s3,l3),(s4,l4),(s5,l5)]) hb (by intro y hy;simp only[fk,mv,oj]at hy;rcases hy with rfl|rfl|rfl|rfl|rfl<;>first|exact h1|exact h2|exact h3|exact h4|exact h5) rfl T7 hn ak
def ai8:cV:=yR.map fun(n:Nat)=>Value.int .u32 (n:Int)
def bL(B:Nat)(w0:World):Prop:=aK B w0 [] 1 (.slice (some ⟨0,0,none⟩) 16 16) 16 ai8
theorem Pd{i:Nat}(h:i<16):ai8[i]? =some (.int .u32 ((yR.getD i 0:Nat):Int)):=by
 have h2:i<yR.length:=h;unfold ai8;rw[jq,fm h2,bk,fm h2];rfl
theorem HZ{C:Cx}{fr:Fr}{L:aQ}{x:Operand}{ty t:TypeId}{n:Nat}(h:ev fr x=some (.int .u32 (n:Int)))(hn:n<4294967296):gF C fr L (.unOp .xor t x) ty (.int .u32 ((4294967295 ^^^ n:Nat):Int)):=fun a w ha hw d pos af g=>by
 have e:=Jo (a:=4294967295) (b:=n) aB hn;have e2:(if IntKind.u32.signed=true then (-1:Int) else IntKind.u32.max)=((4294967295:Nat):Int):=rfl;rw[←e];simp[execOp,Op.unary,ha.tmp h,Op.intBits,e2]
theorem xM{C:Cx}{fr:Fr}{L:aQ}{x:Operand}{ty t:TypeId}{i:Nat}(HT:bL C.B C.w0)(hs:pY C.P t=true)(he:ev fr x=some (.pointer (some ⟨0,0+i,none⟩)))(hi:i<16):gF C fr L (.load t x) ty (.int .u32 ((yR.getD i 0:Nat):Int)):=
 au (A:=some ⟨0,0,none⟩) (j:=i) (nn:=16) (c:=16) (xs:=ai8) hs (by rw[he];simp[zV]) (HT.mono (NN _)) aB (Pd hi)
theorem aib(HT:bL B w0){s:Nat}(hs:s<4294967296)(hr:aK B w0 F 1 (.slice A 1 c) 1 [.slice A2 l.length c2])(hb:eM B w0 F A2 c2 l)(hl:l.length≤1099511627776):
  a_ B w0 146 [.int .u32 (s:Int),.slice A 1 c] F (fun r L=>r= .int .u32 ((pT s l:Nat):Int)∧L=F):=by
 obtain⟨x0,YM⟩:=cK (4294967295 ^^^ s);have as7:x0<4294967296:=by rw[YM];exact vZ (n:=32) aB hs
 refine fw func146 46 [0,1] ?_;refine bI ?_;refine ab (HZ (n:=s) rfl hs) rfl ?_;refine cH ?_;refine aE (fun zf zL zm=>∃(k x:Nat),(k≤1∧x<4294967296∧(k=0→x=x0)∧(k=1→x=l.foldl QO x0))∧1-k=zm∧Sub zf [(5,.int .u32 (x:Int)),(12,.slice A 1 c),(13,ah 1),(14,ah k)]∧Wk zL (F)) _ ⟨0,4294967295 ^^^ s,⟨bS _,by rw[←YM];exact as7,fun _=>YM.symm,fun h=>absurd h aB⟩,rfl,bp,.refl _⟩ ?_;rintro _ _ _ ⟨k,x,⟨hk,hx,CC,xp⟩,rfl,hs,hp⟩;refine aU hs hp ?_;clear hs hp;refine bz ?_;refine aj (fun kL=>?_) fun kL=>?_
 ·obtain rfl:k=0:=by omega
  obtain rfl:x=x0:=CC rfl;refine bK ?_;refine ab (au ag rfl aA aa (show([.slice A2 l.length c2]:cV)[0*1]? =some _ from rfl)) rfl ?_;refine cZ ?_;refine aE (fun zf zL zm=>∃(j y:Nat),(j≤l.length∧y<4294967296∧y=(l.take j).foldl QO x)∧l.length-j=zm∧Sub zf [(5,.int .u32 (y:Int)),(12,.slice A 1 c),(13,ah 1),(14,ah 0),(18,.slice A2 l.length c2),(19,ah l.length),(20,ah j)]∧Wk zL (F)) _ ⟨0,x,⟨bS _,hx,by rw[z8];rfl⟩,rfl,bp,.refl _⟩ ?_;rintro _ _ _ ⟨j,y,⟨hj,hy,hye⟩,rfl,hs,hp⟩;refine aU hs hp ?_;clear hs hp;refine bz ?_;refine aj (fun l0=>?_) fun l0=>?_
  ·have tB:=(l.getD j 0).toNat_lt;have Kn:y ^^^ (l.getD j 0).toNat<4294967296:=vZ (n:=32) hy aa;have ua:=ba (show j<l.length by omega) (0:UInt8);obtain⟨d,hd⟩:=cK (l.getD j 0);obtain⟨z,hz⟩:=cK (y ^^^ d.toNat);rw[←hd]at tB Kn ua;rw[←hz]at Kn;have vG:=JS Kn;have hzs:=SV z 4;have aur:=SV (zr z) 4;have hza:z &&& 15<16:=NP (n:=4) z aB;have aqF:zr z &&& 15<16:=NP (n:=4) (zr z) aB;refine bI ?_;rw[←hd];refine bK ?_;refine ab (bm (r:=(d.toNat:Int)) underlying5 underlying135 rfl (yZ aa aa)) rfl ?_;refine ab (lD rfl rfl (r:=(z:Int)) (by rw[hz];exact Jo hy aa)) rfl ?_;refine bz ?_;refine ab (dj rfl rfl aB (r:=((z >>> 4:Nat):Int)) (G5 z 4)) rfl ?_;refine aF ?_;refine ab (jY rfl rfl (r:=((z &&& 15:Nat):Int)) (aaW Kn (b:=15) aB)) rfl ?_;refine ab (aM (i:=z &&& 15) underlying303 ag rfl rfl rfl hza) rfl ?_;refine ab (xM HT ag rfl hza) rfl ?_;refine ab (lD rfl rfl (r:=((zr z:Nat):Int)) (Jo aa (FD _))) rfl ?_;refine aF ?_;refine ve [5,12,13,14,18,19,20] ?_;refine bA ?_;refine ab (dj rfl rfl aB (r:=((zr z >>> 4:Nat):Int)) (G5 (zr z) 4)) rfl ?_;refine aF ?_;refine ab (jY rfl rfl (r:=((zr z &&& 15:Nat):Int)) (aaW vG (b:=15) aB)) rfl ?_;refine ab (aM (i:=zr z &&& 15) underlying303 ag rfl rfl rfl aqF) rfl ?_;refine ab (xM HT ag rfl aqF) rfl ?_;refine ab (lD rfl rfl (r:=((QO y d:Nat):Int)) (by rw[show QO y d=zr (zr z) by rw[hz];rfl];exact Jo aa (FD _))) rfl ?_;refine bI ?_;refine av ⟨_,aa,j+1,QO y d,⟨aa,ag7 hy d,by rw[ua,List.foldl_append,←hye];rfl⟩,rfl,bp,.refl _⟩
  ·obtain rfl:j=l.length:=by omega
   rw[jS]at hye;refine bB ?_;refine av ⟨_,aa,1,y,⟨gi _,hy,fun h=>absurd h aB,fun _=>hye⟩,rfl,bp,.refl _⟩
 ·obtain rfl:k=1:=by omega
  have xp:=xp rfl;refine bI ?_;refine ab (HZ (n:=x) rfl hx) rfl ?_;refine bG ?_;exact⟨by rw[xp,YM];rfl,rfl⟩
theorem akN(HT:bL B w0)(hb:eM B w0 F A c l)(hl:l.length≤1099511627776):
  a_ B w0 85 [.slice A l.length c] F (fun r L=>r= .int .u32 ((pT 0 l:Nat):Int)∧L=F):=by
 refine fw func85 6 [0] ?_;refine bI ?_;refine cC (aG fE [_] rfl rfl cw aa aa) fun A4=>?_;refine ai rfl (aib (s:=0) HT aB aA aA hl) ?_;refine b8 ?_;refine aq (L':=F) (.skip (.refl _)) ?_;refine aF ?_;exact⟨rfl,rfl⟩
theorem u8w(n:Nat):IntKind.u8.wrap ((n:Nat):Int)=((UInt8.ofNat n).toNat:Int):=by
 show((n:Nat):Int)%2^8=_;rw[oi];omega
theorem afc{s:Nat}:a_ B w0 84 [.int .u32 (s:Int)] F (fun r L=>∃A',r= .slice A' 4 4∧L= .own 5 1 A' 4 4 (bv (my s))::F):=by
 refine fw func84 15 [0] ?_;refine bI ?_;refine ab (bm (r:=((UInt8.ofNat s).toNat:Int)) underlying135 underlying5 rfl (u8w s)) rfl ?_;refine aF ?_;refine ab (dj rfl rfl aB (r:=((s >>> 8:Nat):Int)) (G5 s 8)) rfl ?_;refine ab (bm (r:=((UInt8.ofNat (s >>> 8)).toNat:Int)) underlying135 underlying5 rfl (u8w (s >>> 8))) rfl ?_;refine aF ?_;refine ab (dj rfl rfl aB (r:=((s >>> 16:Nat):Int)) (G5 s 16)) rfl ?_;refine ab (bm (r:=((UInt8.ofNat (s >>> 16)).toNat:Int)) underlying135 underlying5 rfl (u8w (s >>> 16))) rfl ?_;refine aF ?_;refine ab (dj rfl rfl aB (r:=((s >>> 24:Nat):Int)) (G5 s 24)) rfl ?_;refine ab (bm (r:=((UInt8.ofNat (s >>> 24)).toNat:Int)) underlying135 underlying5 rfl (u8w (s >>> 24))) rfl ?_;refine cC (aG cD [_,_,_,_] rfl rfl cw aa aa) fun A14=>?_;refine bG ?_;exact⟨A14,rfl,rfl⟩
theorem qB(HT:bL B w0)(hb:eM B w0 F A c l)(hl:l.length≤1099511627776):
  a_ B w0 46 [.slice A l.length c] F (fun r L=>∃A' c',r= .slice A' (cX l).length c'∧L= .own 5 1 A' (cX l).length c' (bv (cX l))::F):=by
 rw[du];refine fw func46 9 [0] ?_;refine bI ?_;refine ay rfl (me l aA hl) fun A4 c4=>?_;refine aF ?_;refine ai rfl (akN HT aA hl) ?_;refine aX apH rfl (afc (s:=pT 0 l)) rfl ?_;rintro _ _ ⟨A7,rfl,cA⟩;obtain rfl:=cA.symm;refine fM (bT cD rfl aV rfl aA cw aa aa) fun A8 c8=>?_;refine b8 ?_;refine aq (L':=.own 5 1 A8 (l.length+4) c8 (bv l++bv (my (pT 0 l)))::F) (.skip (.refl _)) ?_;refine aF ?_;exact⟨A8,c8,rfl,by unfold cX bv;rw[ja]⟩
theorem apK{l l2:al}(h1:eM B w0 F A c l)(h2:eM B w0 F A2 c2 l2)(hl:l.length≤1099511627776):
  a_ B w0 132 [.slice A l.length c,.slice A2 l2.length c2] F (fun r L=>r= .bool (decide (l=l2))∧L=F):=by
 refine fw func132 26 [0,1] ?_;refine jk ?_;refine aj (fun jx=>?_) fun jx=>?_
 ·refine bI ?_;exact⟨by rw[lu (fun h=>jx (by rw[h]))],rfl⟩
 ·refine cZ ?_;refine aE (fun zf zL zm=>∃(k:Nat),(k≤l.length∧l.take k=l2.take k)∧l.length-k=zm∧Sub zf [(0,.slice A l.length c),(1,.slice A2 l2.length c2),(12,ah l.length),(13,ah k)]∧Wk zL (F)) _ ⟨0,⟨bS _,rfl⟩,rfl,bp,.refl _⟩ ?_;rintro _ _ _ ⟨k,⟨hk,heq⟩,rfl,hs,hp⟩;refine aU hs hp ?_;clear hs hp;refine bz ?_;refine aj (fun jZ=>?_) fun jZ=>?_
  ·have ht1:=ba (show k<l.length by omega) (0:UInt8);have ht2:=ba (show k<l2.length by omega) (0:UInt8);have hv1:(bv l)[k*1]? =some (.int .u8 ((l.getD k 0).toNat:Int)):=by rw[cE];simp[bv,List.getD,fm (show k<l.length by omega)]
   have Vn:(bv l2)[k*1]? =some (.int .u8 ((l2.getD k 0).toNat:Int)):=by rw[cE];simp[bv,List.getD,fm (show k<l2.length by omega)]
   refine jk ?_;refine bZ (au ag rfl h1 aa hv1) rfl ?_;refine bA ?_;refine bZ (au ag rfl h2 aa Vn) rfl ?_;refine bA ?_;refine aj (fun oh=>?_) fun oh=>?_
   ·refine cH ?_;exact⟨by rw[lu (fun h=>oh (by rw[h]))],rfl⟩
   ·refine bK ?_;refine av ⟨_,aa,k+1,⟨aa,by rw[ht1,ht2,heq,qf.1 (show(l.getD k 0).toNat=(l2.getD k 0).toNat by omega)]⟩,rfl,bp,.refl _⟩
  ·refine cH ?_;have e:l=l2:=by
    have:=heq
    rwa [fA aa,fA aa]at this
   exact⟨by rw[jT e],rfl⟩
theorem ab2{l l2:al}{n n2:Nat}{xs ys:cV}(e1:n=l.length)(e2:xs=bv l)(e3:n2=l2.length)(e4:ys=bv l2)(h1:aK B w0 F 1 (.slice A n c) n xs)(h2:aK B w0 F 1 (.slice A2 n2 c2) n2 ys)(hl:l.length≤1099511627776):
  a_ B w0 132 [.slice A n c,.slice A2 n2 c2] F (fun r L=>r= .bool (decide (l=l2))∧L=F):=by
 subst e1;subst e2;subst e3;subst e4;exact apK h1 h2 hl
theorem arf{n:Nat}{xs:cV}(HT:bL B w0)(e1:n=l.length)(e2:xs=bv l)(hb:aK B w0 F 1 (.slice A n c) n xs)(hl:l.length≤1099511627776):
  a_ B w0 85 [.slice A n c] F (fun r L=>r= .int .u32 ((pT 0 l:Nat):Int)∧L=F):=by
 subst e1;subst e2;exact akN HT hb hl
theorem wF(HT:bL B w0)(hb:eM B w0 F A c l)(hl:l.length≤1099511627776):
  a_ B w0 176 [.slice A l.length c] F (fun r L=>∃A' c',r= .tuple #[.slice A' (aJ l).1.length c',ah (aJ l).2]∧L= .own 5 1 A' (aJ l).1.length c' (bv (aJ l).1)::F):=by
 refine dL.xk hb fun mm _=>?_;refine fw func176 24 [0] ?_;refine Kg ?_;refine aj (fun h9=>?_) fun h9=>?_
 ·have e:aJ l=([],1):=ao aa;rw[e];refine bI ?_;refine aD 5 1 none ?_;refine aF ?_;exact⟨none,0,rfl,rfl⟩
 ·have h4:4≤l.length:=by omega
  obtain⟨m,hm⟩:=cK (l.length-4);have hmm:(l.length:Int)-4=(m:Int):=by omega
  have hcut:=hb.cut (k:=m) aa;have wP:=hb.iY (k:=m) aa;have hd1:(bv l).drop (m*1)=bv (l.drop m):=by rw[cE];simp[bv,yh]
  have Yz:(bv l).take (m*1)=bv (l.take m):=by rw[cE];simp[bv,pt]
  rw[hd1]at hcut;rw[Yz]at wP;have tC:l.length-m=(l.drop m).length:=by rw[iG]
  have rO:m=(l.take m).length:=by rw[eS];omega
  have LB:(l.take m).length≤1099511627776:=by rw[eS];omega
  have hl4:(l.drop m).length≤1099511627776:=by rw[iG];omega
  refine b8 ?_;refine cF F ?_;refine ae 0 ?_;refine ae 1 ?_;refine aW 2 rfl (bQ (i:=m) (size:=1) underlying27 ag rfl rfl hmm aa) ?_;refine ae 3 ?_;refine ae 4 ?_;refine aW 5 rfl (bN (i:=m) (size:=1) underlying27 ag rfl rfl hmm aa) ?_;refine az 6 ?_;refine iW rfl rfl (arf (l:=l.take m) HT rO rfl wP LB) ?_;refine az 7 ?_;refine gz rfl .no apH rfl (afc (s:=pT 0 (l.take m))) rfl (by rintro _ _ ⟨TP,rfl,rfl⟩;exact gD) ?_;rintro _ _ ⟨TP,rfl,cA⟩;obtain rfl:=cA.symm;refine az 8 ?_;refine iW rfl rfl (ab2 (l:=l.drop m) (l2:=my (pT 0 (l.take m))) tC rfl rfl rfl hcut.cons (aK.own (.head _)) hl4) ?_;refine ae 9 ?_;refine be ?_;refine aj (fun pV=>?_) fun pV=>?_
  ·have e:aJ l=([],5):=by unfold aJ;rw[aw aa,aw (by rw[←hm];exact pV)]
   rw[e];refine b8 ?_;refine ve [2,3] ?_;refine bA ?_;refine aD 5 1 none ?_;refine aq (L':=.own 5 1 none 0 0 []::F) (.cons (.skip (.refl _))) ?_;refine aF ?_;exact⟨none,0,rfl,rfl⟩
  ·have e:aJ l=(l.take m,0):=by unfold aJ;rw[aw aa,ao (by rw[←hm];exact jG.1 pV),←hm]
   rw[e];simp only;rw[←rO];refine bz ?_;refine ab (bN (i:=m) (size:=1) underlying27 ag rfl rfl hmm aa) rfl ?_;refine ay rfl (me (l.take m) wP.cons aa) fun A23 c23=>?_;refine be ?_;refine ve [2,3] ?_;refine be ?_;refine aq (L':=.own 5 1 A23 m c23 (bv (l.take m))::F) (.cons (.skip (.refl _))) ?_;refine aF ?_;exact⟨A23,c23,rfl,rfl⟩
theorem ZZ{b:al}(hb:eM B w0 F A c b)(de:b.length≤1000000):
  a_ B w0 83 [.slice A b.length c] F (fun r L=>∃A' c',r= .tuple #[.slice A' (LN b).1.length c',.bool (decide (ZY b))]∧L= .own 5 1 A' (LN b).1.length c' (bv (LN b).1)::F):=by
 have l9:=Ye b;refine fw func83 22 [0] ?_;refine bO ?_;refine ay rfl (alI hb de) fun A8 c8=>?_;refine ay rfl (afR (l:=jo b) aA aa) fun A9 c9=>?_;refine dc ?_;refine cM (fun kL=>?_) fun kL=>?_
 ·have e:decide (((LN b).1.length:Int)<b.length)=decide (ZY b):=sc.2 ⟨fun h=>⟨kL,aa⟩,fun h=>(by have:=h.2;omega)⟩;refine cH ?_;refine ve [2,3] ?_;refine be ?_;refine aq (.cons (.skip (.refl _))) ?_;refine aF ?_;exact⟨A9,c9,by rw[←e];rfl,rfl⟩
 ·have e:false=decide (ZY b):=(lu fun h=>kL h.1).symm;refine bK ?_;refine ve [2,3] ?_;refine be ?_;refine aq (.cons (.skip (.refl _))) ?_;refine aF ?_;exact⟨A9,c9,by rw[←e];rfl,rfl⟩
theorem agJ{b:al}{p:Bool}(h:32768<b.length):jA b p=([],6):=by unfold jA;rw[ao h]
theorem JB{b:al}{p:Bool}(h:¬32768<b.length):jA b p=(cX (xB b p++(kp b p).2),0):=by unfold jA;rw[aw h]
theorem Mq(HT:bL B w0){b:al}{p:Bool}(hb:eM B w0 F A c b)(de:b.length≤1099511627776):
  a_ B w0 44 [.slice A b.length c,.bool p] F (fun r L=>∃A' c',r= .tuple #[.slice A' (jA b p).1.length c',ah (jA b p).2]∧L= .own 5 1 A' (jA b p).1.length c' (bv (jA b p).1)::F):=by
 refine fw func44 41 [0,1] ?_;refine dQ ?_;refine aj (fun mE=>?_) fun mE=>?_
 ·rw[agJ aa];refine bI ?_;refine aD 5 1 none ?_;refine aF ?_;exact⟨none,0,rfl,rfl⟩
 ·rw[JB aa];refine bO ?_;refine d_ (fun zf zL=>∃(M:aQ) (Ab:bj) (cb:Nat) (w:UInt8) (bd:al),(kp b p=(w,bd)∧Wk M F∧aK B w0 M 1 (.slice A b.length c) b.length (bv b)∧aK B w0 M 1 (.slice Ab bd.length cb) bd.length (bv bd))∧Sub zf [(0,.slice A b.length c),(6,.int .u8 (w.toNat:Int)),(7,.slice Ab bd.length cb)]∧Wk zL (M)) ?_ ?_
  ·refine bA ?_;refine ab (iR rfl) rfl ?_;refine be ?_;refine gZ (fun ki=>?_) fun ki=>?_
   ·have amk:p=false:=by cases p<;>simp at ki⊢
    refine bA ?_;refine ay rfl (ZZ hb aa) fun Lp c19=>?_;refine cH ?_;refine aj (fun rN=>?_) fun rN=>?_
    ·refine b8 ?_;refine ve [0,6,7] ?_;exact bD ⟨.own 5 1 Lp (LN b).1.length c19 (bv (LN b).1)::F,Lp,c19,1,(LN b).1,⟨by unfold kp;rw[ao ⟨amk,rN⟩],.skip (.refl _),hb.cons,aK.own (.head _)⟩,bp,.refl _⟩
    ·refine aF ?_;exact bD ⟨.own 5 1 Lp (LN b).1.length c19 (bv (LN b).1)::F,A,c,0,b,⟨by unfold kp;rw[aw fun k=>rN k.2],.skip (.refl _),hb.cons,hb.cons⟩,bp,.refl _⟩
   ·have amk:¬p=false:=by cases p<;>simp at ki⊢
    refine aF ?_;exact bD ⟨F,A,c,0,b,⟨by unfold kp;rw[aw fun k=>amk k.1],.refl _,hb,hb⟩,bp,.refl _⟩
  ·rintro _ _ ⟨M,Ab,cb,w,bd,⟨hY,hM,hbM,hbB⟩,hs,hp⟩;refine aU hs hp ?_;clear hs hp;refine aF ?_;have P4:bd.length≤b.length:=by have:=xC b p;rw[hY]at this;exact this
   have hBH:xB b p=[w]++(aS b.length++aS bd.length):=by unfold xB;rw[hY];rfl
   have hBB:(kp b p).2=bd:=by rw[hY]
   have hn1:=aT (x:=b.length) aa;have tY:=aT (x:=bd.length) aa;have hlH:(xB b p).length≤30:=by rw[hBH,aY,aY,qe];omega
   rw[hBB];refine be ?_;refine cC (aG cD [_] rfl rfl cw aa aa) fun Ha=>?_;refine be ?_;refine ab (bm underlying3 underlying60 rfl (r:=(b.length:Int)) (f_ aa aa)) rfl ?_;refine ay rfl (iO b.length aa) fun A29 c29=>?_;refine be ?_;refine ab (bm underlying3 underlying60 rfl (r:=(bd.length:Int)) (f_ aa aa)) rfl ?_;refine ay rfl (iO bd.length aa) fun PS c33=>?_;refine cC (aG fE [_,_,_] rfl rfl cw aa aa) fun wv=>?_;refine ay rfl (Jt (l1:=[w]) (l2:=aS b.length) (l3:=aS bd.length) aA aA aA aA hBH aa) fun Lq c35=>?_;refine bK ?_;refine cC (aG fE [_,_] rfl rfl cw aa aa) fun LP=>?_;refine ay rfl (Qn (l1:=xB b p) (l2:=bd) aA aA aA rfl tJ) fun A39 c39=>?_;refine ay rfl (qB HT (l:=xB b p++bd) aA tJ) fun A40 c40=>?_;refine be ?_;refine ve [4,5] ?_;refine be ?_;refine aq (.cons (.skip (.skip (.skip (.skip (.skip (.skip (.skip hM)))))))) ?_;refine aF ?_;exact⟨A40,c40,rfl,rfl⟩
section
variable{sl:al}
theorem aor{P:Prop}(h:P:=by(have:=O5 (x:=1) (d:=b) (e:=(b:Int)) rfl (by omega) (by omega);rw[rl]at this;exact this)):P:=h
theorem aon{P:Prop}(h:P:=by(exact dN (by first|exact trivial|omega|(exact⟨fun _=>trivial,fun _=>by omega⟩)|(exact fun h=>h (by omega))))):P:=h
theorem agy{P:Prop}(h:P:=by(exact eU (by first|exact trivial|omega|(exact⟨fun _=>trivial,fun _=>by omega⟩)|(exact fun h=>h (by omega))))):P:=h
theorem T4{P:Prop}(h:P:=by(rw[aY,qe];omega)):P:=h
theorem ab9{x b:Nat}(hb:b≤11)(hx:x<2^b):a_ B w0 356 [ah x,ah b] F (fun r L=>r= .bool true∧L=F):=by
 have hp:2^b≤2048:=la (n:=2) aa hb;refine fw func356 13 [0,1] ?_;refine bK ?_;refine bU 8 12 [] (True) ?_ ?_
 ·refine bA ?_;refine cM (fun h7=>?_) fun h7=>?_
  ·refine b8 ?_;refine ab (ga rfl rfl aa (r:=((2^b:Nat):Int)) aor) rfl ?_;refine bA ?_;exact aP aon
  ·refine b8 ?_;exact aP agy
 ·refine bG ?_;exact⟨ak,rfl⟩
theorem amy{b x k y:Nat}(hb:b≤7)(hx:x<2^b)(hk:k≤11)(hy:y<2^k):a_ B w0 354 [.agg #[ah ((257+b:Nat):Int),ah x,ah k,ah y]] F
  (fun r L=>r= .tuple #[.agg #[.int .u8 0,ah ((2+2^b+x:Nat):Int),ah ((2^k+y:Nat):Int)],ah 0]∧L=F):=by
 have LC:2^b≤128:=la (n:=2) aa hb;have Cb:2^k≤2048:=la (n:=2) aa hk;refine fw func354 70 [0] ?_;refine be ?_;refine bh fun g1=>?_;refine bc fun g2=>?_;refine bK ?_;refine bU 8 13 [1,2] (False) ?_ ?_
 ·refine b8 ?_;refine cM (fun h9=>?_) fun h9=>?_
  ·refine bz ?_;exact aP (by exact dN (by first|omega|(exact⟨fun h=>by omega,False.elim⟩)|(exact fun h=>h)))
  ·refine bA ?_;exact aP (by rfl)
 ·refine bA ?_;refine aj (fun h5=>?_) fun h5=>?_
  ·exfalso;exact h5
  ·refine be ?_;refine bU 18 41 [1,2] (True) ?_ ?_
   ·refine b8 ?_;refine cM (fun kg=>?_) fun kg=>?_
    ·refine bK ?_;refine cM (fun Bv=>?_) fun Bv=>?_
     ·refine bK ?_;refine cM (fun zK=>?_) fun zK=>?_
      ·refine bz ?_;exact aP aon
      ·refine bA ?_;exact aP agy
     ·refine bI ?_;exact aP agy
    ·refine dc ?_;exact aP agy
   ·refine bA ?_;refine aj (fun m7=>?_) fun m7=>?_
    ·refine b8 ?_;refine ab (dw rfl rfl (r:=((b:Nat):Int)) ((bF aa aa).trans aa)) rfl ?_;refine bI ?_;refine ai rfl (ab9 (x:=x) (b:=b) aa hx) ?_;refine aF ?_;refine kK rfl rfl rfl (fun Yo=>?_) (fun Yo=>?_)
     ·refine bI ?_;refine ai rfl (ab9 (x:=y) (b:=k) aa hy) ?_;refine bA ?_;refine gZ (fun Yp=>?_) fun Yp=>?_
      ·refine aF ?_;refine cF (.bE g1 166 [ah ((257+b:Nat):Int),ah x,ah k,ah y]::F) ?_;refine ae 0 ?_;refine aW 1 rfl (ga rfl rfl aa (r:=((2^b:Nat):Int)) aor) ?_;refine aW 2 rfl (bX rfl rfl (r:=((2+2^b:Nat):Int)) ((bF aa aa).trans aa)) ?_;refine ae 3 ?_;refine ae 4 ?_;refine aW 5 rfl (bX rfl rfl (r:=((2+2^b+x:Nat):Int)) ((bF aa aa).trans aa)) ?_;refine ae 6 ?_;refine ae 7 ?_;refine aW 8 rfl (ga rfl rfl aa (r:=((2^k:Nat):Int)) (by have:=O5 (x:=1) (d:=k) (e:=(k:Int)) rfl aa aa;rw[rl]at this;exact this)) ?_;refine ae 9 ?_;refine ae 10 ?_;refine aW 11 rfl (bX rfl rfl (r:=((2^k+y:Nat):Int)) ((bF aa aa).trans aa)) ?_;refine aW 12 rfl (bw [(1,_),(2,_)] [.int .u8 0,ah 0,ah 0] [1,2] [_,_,_] rfl rfl ag) ?_;refine az 13 ?_;refine aF ?_;refine ae 14 ?_;refine cQ [2,3] ?_;refine b8 ?_;refine aq (.cons (.skip (.refl _))) ?_;refine gQ rfl rfl ag aV gA rfl (.skip (.refl _)) ?_;exact⟨rfl,rfl⟩
      ·exfalso;cases Yp
     ·exfalso;cases Yo
    ·exfalso;exact m7 trivial
theorem E9(q:List Bool)(N:Nat):∀f p acc s,(lL q N f p acc s).2.1=0→Good (lL q N f p acc s).1
 |0,p,acc,s=>fun h=>by
  unfold lL fin at h⊢;by_cases hg:Good acc
  ·rw[ao hg];exact hg
  ·rw[aw hg]at h;cases h
 |f+1,p,acc,s=>fun h=>by
  unfold lL at h⊢;split at h
  ·rename_i h1;rw[ao h1];unfold fin at h⊢;by_cases hg:Good acc
   ·rw[ao hg];exact hg
   ·rw[aw hg]at h;cases h
  ·rename_i h1;rw[aw h1];split at h
   ·rename_i h2;exact absurd h h2
   ·rename_i h2;rw[aw h2];split at h
    ·rename_i h3;rw[ao h3];exact E9 q N f _ _ _ h
    ·rename_i h3;rw[aw h3];split at h
     ·rename_i h4;exact absurd h h4
     ·rename_i h4;rw[aw h4];split at h
      ·cases h
      ·rename_i h5;rw[aw h5];exact E9 q N f _ _ _ h
theorem aeq{q:List Bool}{p:Nat}{n:Int}(h:(qN q p n).2.1=0):Good (qN q p n).1:=by
 unfold qN at h⊢;split at h
 ·cases h
 ·rename_i h1;rw[aw h1];exact E9 q _ _ _ _ _ h
abbrev Rk(v1 v2:Value)(g gr:Nat)(A:bj)(c:Nat)(q:List Bool)(p:Nat)(F:aQ):aQ:=.bE g 455 [br gr,v1,v2]::Rr gr A c q p F
theorem E7{p p':Nat}{k:Nat}{acc:al}{e:Int}{v1 v2:Value}(hp:p≤q.length)(hq:q.length≤8000000)(hk:k≤1000)(hR:qN q p k=(acc,e,p'))(he:¬e=0):
  a_ B w0 341 [br g,ah k] (Rk v1 v2 g gr A c q p F) (fun r L=>r= .tuple #[.pointer none,ah e]∧L=Rk v1 v2 g gr A c q p' F):=by
 refine fw func341 24 [0,1] ?_;refine dc ?_;refine ay rfl (.perm (MC q p hp hq k aa aa acc e p' hR) (WL _ _ _ _)) fun A14 c14=>?_;refine dQ ?_;refine aj (fun jj=>?_) fun jj=>?_
 ·refine bG ?_;refine ve [4,5] ?_;refine bA ?_;refine aq ((tF (ed (ed (.skip (.refl _)))))) ?_;refine aF ?_;exact⟨rfl,rfl⟩
 ·exfalso;exact jj he
theorem AM{p p':Nat}{k:Nat}{acc:al}{v1 v2:Value}(hp:p≤q.length)(hq:q.length≤8000000)(hk:k≤1000)(hR:qN q p k=(acc,0,p')):
  a_ B w0 341 [br g,ah k] (Rk v1 v2 g gr A c q p F) (fun r L=>∃g' Y,r= .tuple #[.pointer (some ⟨g',0,none⟩),ah 0]∧L=Rk v1 v2 g gr A c q p' (Y++F)∧xi B w0 Y g' acc):=by
 have hg:Good acc:=by have:=aeq (q:=q) (p:=p) (n:=k);rw[hR]at this;exact this rfl
 refine fw func341 24 [0,1] ?_;refine dc ?_;refine ay rfl (.perm (MC q p hp hq k aa aa acc 0 p' hR) (WL _ _ _ _)) fun A14 c14=>?_;refine dQ ?_;refine dm fun jj=>?_;refine bG ?_;refine aX ajY rfl (adQ (l:=acc) aA hg) rfl ?_;rintro _ _ ⟨g21,Y,rfl,cA,x7⟩;obtain rfl:=cA.symm;refine b8 ?_;refine ve [4,5] ?_;refine be ?_;refine aq (L':=Rk v1 v2 g gr A c q p' (Y++F)) (.trans (.dE (om Y [_,_,_,_] F)) ((tF (ed (ed (.skip (.refl _))))))) ?_;refine aF ?_;exact⟨g21,Y,rfl,rfl,x7⟩
theorem KF{p b:Nat}:(((257+b:Nat):Int)-257)=(b:Int):=by omega
theorem Sc{p b:Nat}(h:¬r_ q p b=0):m_ fl q p ((257+b:Nat):Int)=((0,0,0),r_ q p b,iE q p b):=by
 unfold m_;rw[KF (p:=p),ao h]
theorem Sd{p b p1 p2:Nat}{e k:Int}(h:r_ q p b=0)(h1:iE q p b=p1)(h2:fz fl q p1=(k,e,p2))(h3:¬e=0):m_ fl q p ((257+b:Nat):Int)=((0,0,0),e,p2):=by
 unfold m_;rw[KF (p:=p),aw (fun k=>k h),h1,h2,ao h3]
theorem Se{p b p1 p2:Nat}{k:Int}(h:r_ q p b=0)(h1:iE q p b=p1)(h2:fz fl q p1=(k,0,p2))(h3:¬r_ q p2 k=0):m_ fl q p ((257+b:Nat):Int)=((0,0,0),r_ q p2 k,iE q p2 k):=by
 unfold m_;rw[KF (p:=p),aw (fun k=>k h),h1,h2,aw (fun k=>k rfl),ao h3]
theorem Sg{p b p1 p2 k:Nat}(h:r_ q p b=0)(h1:iE q p b=p1)(h2:fz fl q p1=((k:Int),0,p2))(h3:r_ q p2 k=0):m_ fl q p ((257+b:Nat):Int)=((0,((2+2^b+oK q p b:Nat):Int),((2^k+oK q p2 k:Nat):Int)),0,iE q p2 k):=by
 unfold m_;rw[KF (p:=p),aw (fun k=>k h),h1,h2,aw (fun k=>k rfl),aw (fun k=>k h3)];simp
theorem acT{l:al}(x7:xi B w0 F g l)(hl:l.length≤300){p p2:Nat}{k e:Int}(hp:p≤q.length)(hq:q.length≤8000000)(hH:fz l q p=(k,e,p2)):
  a_ B w0 347 [br g,br g2] (Rr g2 A c q p F) (fun r L=>r= .tuple #[ah k,ah e]∧L=Rr g2 A c q p2 F):=by
 have:=al_ (B:=B) (w0:=w0) (F:=F) (A:=A) (c:=c) (g2:=g2) (q:=q) x7 hl hp hq;rw[hH]at this;exact this
theorem aia{p b:Nat}(hb:b≤7)(hp:p≤q.length)(hq:q.length≤8000000)(x7:xi B w0 F g2 fl)(l9:fl.length=12):
  a_ B w0 348 [br g,ah ((257+b:Nat):Int)] (Rk (br g1) (br g2) g gr A c q p F)
   (fun r L=>r= .tuple #[.agg (bP.cells (m_ fl q p ((257+b:Nat):Int)).1).toArray,ah (m_ fl q p ((257+b:Nat):Int)).2.1]∧L=Rk (br g1) (br g2) g gr A c q (m_ fl q p ((257+b:Nat):Int)).2.2 F):=by
 have hv1:=zJ q p (n:=b) aa;obtain⟨p1,Ca⟩:∃x,iE q p b=x:=⟨_,rfl⟩
 have YI:p1≤q.length:=by rw[←Ca];exact qE _ hp
 have lj:=u9 fl q YI;obtain⟨⟨k,e,p2⟩,hH⟩:∃x,fz fl q p1=x:=⟨_,rfl⟩
 rw[hH]at lj;simp only at lj;refine fw func348 63 [0,1] ?_;refine be ?_;refine bc fun g4=>?_;refine bB ?_;refine ab (dw rfl rfl (r:=((b:Nat):Int)) ((bF aa aa).trans aa)) rfl ?_;refine ai rfl (.perm (Ik q p hp hq b aa aa) (WM _ _ _ _ _)) ?_;refine dQ ?_;refine aj (fun l0=>?_) fun l0=>?_
 ·rw[Sc l0];refine be ?_;refine ab (cu [.int .u8 0,ah 0,ah 0] ag) rfl ?_;refine bA ?_;refine ve [4,5] ?_;refine bA ?_;refine aq ((rQ (rQ (ed (ed (.refl _)))))) ?_;refine gQ rfl rfl ag aV gA rfl (.skip (.refl _)) ?_;exact⟨rfl,rfl⟩
 ·refine bA ?_;rw[Ca];refine cF (.bE g 455 [br gr,br g1,br g2]::F) ?_;refine ae 0 ?_;refine ae 1 ?_;refine ae 2 ?_;refine ae 3 ?_;refine ae 4 ?_;refine ae 5 ?_;refine ae 6 ?_;refine ae 7 ?_;refine az 8 ?_;refine iW rfl rfl (acT x7.cons.cons aa YI hq hH) ?_;refine ae 9 ?_;refine ae 10 ?_;refine ae 11 ?_;refine ae 12 ?_;refine ae 13 ?_;refine cQ [0,1,4,6,7,8] ?_;refine bI ?_;refine aj (fun zK=>?_) fun zK=>?_
  ·rw[Sd (bH l0) Ca hH zK];refine be ?_;refine ab (cu [.int .u8 0,ah 0,ah 0] ag) rfl ?_;refine bK ?_;refine aq ((rQ (rQ (ed (ed (.refl _)))))) ?_;refine gQ rfl rfl ag aV gA rfl (.skip (.refl _)) ?_;exact⟨rfl,rfl⟩
  ·obtain rfl:e=0:=bH zK;obtain⟨s,rfl,hs,_⟩:=lj.2.2.1 rfl;refine bO ?_;refine ai rfl (Ik q p2 lj.2.1 hq s aa aa) ?_;refine dQ ?_;refine aj (fun Il=>?_) fun Il=>?_
   ·rw[Se (bH l0) Ca hH Il];refine be ?_;refine ab (cu [.int .u8 0,ah 0,ah 0] ag) rfl ?_;refine bA ?_;refine ve [4,5] ?_;refine bA ?_;refine aq ((rQ (rQ (ed (ed (.refl _)))))) ?_;refine gQ rfl rfl ag aV gA rfl (.skip (.refl _)) ?_;exact⟨rfl,rfl⟩
   ·have Vn:=zJ q p2 (n:=s) aa;have LC:2^b≤128:=la (n:=2) aa hb;have Cb:2^s≤2048:=la (n:=2) aa (by omega:s≤11);rw[Sg (bH l0) Ca hH (bH Il)];obtain⟨y1,NG⟩:∃x,oK q p b=x:=⟨_,rfl⟩
    obtain⟨y2,RP⟩:∃x,oK q p2 s=x:=⟨_,rfl⟩
    rw[NG]at hv1⊢;rw[RP]at Vn⊢;refine bz ?_;refine ab (bm underlying60 underlying3 rfl (r:=(y1:Int)) (bF aa aa)) rfl ?_;refine be ?_;refine ab (bm underlying60 underlying3 rfl (r:=(y2:Int)) (bF aa aa)) rfl ?_;refine ab (eG [(0,_),(1,_),(2,_),(3,_)] [_,_,_,_] rfl rfl ag) rfl ?_;refine ai rfl (amy hb hv1 aa Vn) ?_;refine b8 ?_;refine ve [4,5] ?_;refine be ?_;refine aq ((rQ (rQ (ed (ed (.refl _)))))) ?_;refine gQ rfl rfl ag aV gA rfl (.skip (.refl _)) ?_;exact⟨rfl,rfl⟩
theorem Tl{p p1:Nat}{k e:Int}(hH:fz sl q p=(k,e,p1))(h:¬e=0∨k=256):kh sl fl q p=((0,0,0),false,e,p1):=by
 unfold kh;rw[hH,ao h]
theorem Tm{p p1 s:Nat}(hH:fz sl q p=((s:Int),0,p1))(h:s<256):kh sl fl q p=((UInt8.ofNat s,0,0),true,0,p1):=by
 unfold kh;rw[hH,aw (fun k=>k.elim (fun k=>k rfl) fun k=>aa5),ao cY];simp
theorem Tn{p p1 b:Nat}(hH:fz sl q p=(((257+b:Nat):Int),0,p1)):kh sl fl q p=((m_ fl q p1 ((257+b:Nat):Int)).1,decide ((m_ fl q p1 ((257+b:Nat):Int)).2.1=0),(m_ fl q p1 ((257+b:Nat):Int)).2.1,(m_ fl q p1 ((257+b:Nat):Int)).2.2):=by
 unfold kh;rw[hH,aw (fun k=>k.elim (fun k=>k rfl) fun k=>aa5),aw cY]
theorem anP{s:Nat}(h:s<256):((UInt8.ofNat s).toNat:Int)=(s:Int):=by
 rw[oi];omega
theorem ajk(t:bP):∀u∈bP.cells t,u.oneCell'=true:=by simp[bP.cells,Value.oneCell']
theorem aeI{p gs gf:Nat}(hp:p≤q.length)(hq:q.length≤8000000)(P6:xi B w0 F gs sl)(hc2:xi B w0 F gf fl)(nS:sl.length=265)(l9:fl.length=12):
  a_ B w0 342 [br g] (Rk (br gs) (br gf) g gr A c q p F)
   (fun r L=>r= .tuple #[.agg (bP.cells (kh sl fl q p).1).toArray,.bool (kh sl fl q p).2.1,ah (kh sl fl q p).2.2.1]∧L=Rk (br gs) (br gf) g gr A c q (kh sl fl q p).2.2.2 F):=by
 have lj:=u9 sl q hp;obtain⟨⟨k,e,p1⟩,hH⟩:∃x,fz sl q p=x:=⟨_,rfl⟩
 rw[hH]at lj;simp only at lj;refine fw func342 43 [0] ?_;refine be ?_;refine bc fun g2=>?_;refine bG ?_;refine cF (.bE g 455 [br gr,br gs,br gf]::F) ?_;refine ae 0 ?_;refine ae 1 ?_;refine ae 2 ?_;refine ae 3 ?_;refine ae 4 ?_;refine ae 5 ?_;refine ae 6 ?_;refine ae 7 ?_;refine az 8 ?_;refine iW rfl rfl (.perm (acT (g:=gs) P6.cons.cons aa hp hq hH) (WM _ _ _ _ _)) ?_;refine ae 9 ?_;refine ae 10 ?_;refine ae 11 ?_;refine ae 12 ?_;refine ae 13 ?_;refine bz ?_;refine bU 6 24 [0,2,4,5] (¬e=0∨k=256) ?_ ?_
 ·refine bA ?_;refine aL rfl rfl rfl (fun l0=>?_) (fun l0=>?_)
  ·refine b8 ?_;exact aP aba
  ·refine be ?_;exact aP agB
 ·refine bA ?_;refine aj (fun jj=>?_) fun jj=>?_
  ·rw[Tl hH jj];refine cH ?_;refine aq ((rQ (rQ (ed (ed (.refl _)))))) ?_;refine qt rfl rfl ag aV gA rfl rfl (.skip (.refl _)) ?_;exact⟨rfl,rfl⟩
  ·have he0:e=0:=bH fun h=>jj (.inl h);subst he0;obtain⟨s,rfl,hs,_⟩:=lj.2.2.1 rfl;refine bK ?_;refine aj (fun kg=>?_) fun kg=>?_
   ·rw[Tm hH aa];refine bA ?_;refine ab (bm underlying3 underlying5 rfl (r:=((UInt8.ofNat s).toNat:Int)) (by rw[anP aa];exact aaF aa aa)) rfl ?_;refine ab (bw [(0,_)] [.int .u8 0,ah 0,ah 0] [0] [_,_,_] rfl rfl ag) rfl ?_;refine bI ?_;refine aq ((rQ (rQ (ed (ed (.refl _)))))) ?_;refine qt rfl rfl ag aV gA rfl rfl (.skip (.refl _)) ?_;exact⟨rfl,rfl⟩
   ·obtain⟨b,rfl⟩:∃b,s=257+b:=⟨s-257,aa⟩
    rw[Tn hH];have pX:=ajk (m_ fl q p1 ((257+b:Nat):Int)).1;refine bK ?_;refine ai rfl (.perm (aia aa lj.2.1 hq hc2.cons l9) ((pu3 (fR (fR (fR (.refl _))))))) ?_;refine jQ ?_;refine ve [2,3,4] ?_;refine be ?_;refine aq ((tF (ed (ed (ed (.refl _)))))) ?_;refine qt rfl rfl ag aV gA rfl rfl (.skip (.refl _)) ?_;exact⟨rfl,rfl⟩
theorem adH{p b:Nat}(hb:b≤7)(hp:p≤q.length)(l9:fl.length=12):0≤(m_ fl q p ((257+b:Nat):Int)).1.2.1∧(m_ fl q p ((257+b:Nat):Int)).1.2.1≤300∧(m_ fl q p ((257+b:Nat):Int)).2.2≤q.length:=by
 have hv1:=zJ q p (n:=b) aa;have LC:2^b≤128:=la (n:=2) aa hb;by_cases h1:r_ q p b=0
 ·obtain⟨p1,Ca⟩:∃x,iE q p b=x:=⟨_,rfl⟩
  have YI:p1≤q.length:=by rw[←Ca];exact qE _ hp
  have lj:=u9 fl q YI;obtain⟨⟨k,e,p2⟩,hH⟩:∃x,fz fl q p1=x:=⟨_,rfl⟩
  rw[hH]at lj;simp only at lj;by_cases h2:e=0
  ·subst h2;obtain⟨s,rfl,_⟩:=lj.2.2.1 rfl;by_cases h3:r_ q p2 s=0
   ·rw[Sg h1 Ca hH h3];exact⟨cY,cY,qE _ lj.2.1⟩
   ·rw[Se h1 Ca hH h3];exact⟨cY,cY,qE _ lj.2.1⟩
  ·rw[Sd h1 Ca hH h2];exact⟨cY,cY,lj.2.1⟩
 ·rw[Sc h1];exact⟨cY,cY,qE _ hp⟩
theorem Pu{p:Nat}(hp:p≤q.length)(nS:sl.length=265)(l9:fl.length=12):0≤(kh sl fl q p).1.2.1∧(kh sl fl q p).1.2.1≤300∧(kh sl fl q p).2.2.2≤q.length:=by
 have lj:=u9 sl q hp;obtain⟨⟨k,e,p1⟩,hH⟩:∃x,fz sl q p=x:=⟨_,rfl⟩
 rw[hH]at lj;simp only at lj;by_cases h:¬e=0∨k=256
 ·rw[Tl hH h];exact⟨cY,cY,lj.2.1⟩
 ·have he0:e=0:=bH fun k=>h (.inl k);subst he0;obtain⟨s,rfl,hs,_⟩:=lj.2.2.1 rfl;by_cases h2:s<256
  ·rw[Tm hH h2];exact⟨cY,cY,lj.2.1⟩
  ·obtain⟨b,rfl⟩:∃b,s=257+b:=⟨s-257,aa⟩
   rw[Tn hH];exact adH aa lj.2.1 l9
section
variable{f:Nat}{most:Int}{p p2:Nat}{acc:List bP}{R:List bP×Int}{t:bP}{ok:Bool}{e:Int}
theorem Pr(h:rH sl fl q (f+1) most p acc=R)(hT:kh sl fl q p=(t,ok,e,p2))(he:¬e=0):R=([],e):=by
 rw[←h,rH,hT,ao he]
theorem Pq(h:rH sl fl q (f+1) most p acc=R)(hT:kh sl fl q p=(t,false,0,p2)):R=if paE q p2=0 then (acc,0) else ([],paE q p2):=by
 rw[←h,rH,hT,aw (fun k=>k rfl),ao rfl]
theorem Jf(h:rH sl fl q (f+1) most p acc=R)(hT:kh sl fl q p=(t,true,0,p2))(hm:most-max 1 t.2.1<0):R=([],6):=by
 rw[←h,rH,hT,aw (fun k=>k rfl),aw ak,ao hm]
theorem W1(h:rH sl fl q (f+1) most p acc=R)(hT:kh sl fl q p=(t,true,0,p2))(hm:¬most-max 1 t.2.1<0):rH sl fl q f (most-max 1 t.2.1) p2 (acc++[t])=R:=by
 rw[←h,rH,hT,aw (fun k=>k rfl),aw ak,aw hm]
end
theorem aeJ{p p2 gs gf:Nat}{t:bP}{ok:Bool}{e:Int}(hp:p≤q.length)(hq:q.length≤8000000)(P6:xi B w0 F gs sl)(hc2:xi B w0 F gf fl)(nS:sl.length=265)(l9:fl.length=12)(hT:kh sl fl q p=(t,ok,e,p2)):
  a_ B w0 342 [br g] (Rk (br gs) (br gf) g gr A c q p F)
   (fun r L=>r= .tuple #[.agg #[.int .u8 (t.1.toNat:Int),ah t.2.1,ah t.2.2],.bool ok,ah e]∧L=Rk (br gs) (br gf) g gr A c q p2 F):=by
 have:=aeI (B:=B) (w0:=w0) (F:=F) (A:=A) (c:=c) (g:=g) (gr:=gr) hp hq P6 hc2 nS l9;rw[hT]at this;exact this
theorem UR{acc:al}{p N:Nat}(hl:acc.length=N)(h:(fin acc p).2.1=0):(fin acc p).1.length=N:=by
 unfold fin at h⊢;by_cases hg:Good acc
 ·rw[ao hg];exact hl
 ·rw[aw hg]at h;cases h
theorem KR(q:List Bool)(N:Nat):∀f p acc s,acc.length≤N→N≤acc.length+f→(lL q N f p acc s).2.1=0→(lL q N f p acc s).1.length=N
 |0,p,acc,s=>fun h1 h2 h=>by
  unfold lL at h⊢;exact UR aa h
 |f+1,p,acc,s=>fun k1 k2 h=>by
  unfold lL at h⊢;split at h
  ·rename_i h1;rw[ao h1];exact UR aa h
  ·rename_i h1;rw[aw h1];split at h
   ·rename_i h2;exact absurd h h2
   ·rename_i h2;rw[aw h2];split at h
    ·rename_i h3;rw[ao h3];exact KR q N f _ _ _ T4 T4 h
    ·rename_i h3;rw[aw h3];split at h
     ·rename_i h4;exact absurd h h4
     ·rename_i h4;rw[aw h4];split at h
      ·cases h
      ·rename_i h5;rw[aw h5];have h6:¬N≤acc.length+oK q (iE q p 4) 6:=fun k=>h5 (.inr k);exact KR q N f _ _ _ (by rw[aY,yd];omega) (by rw[aY,yd];omega) h
theorem CN{q:List Bool}{p:Nat}{n:Nat}(h:(qN q p n).2.1=0):(qN q p n).1.length=n:=by
 unfold qN at h⊢;split at h
 ·cases h
 ·rename_i h1;rw[aw h1];rw[nH]at h⊢;exact KR q n _ _ _ _ ak ak h
theorem aai{b:al}{most:Int}(h:most<0):fK b most=([],13):=by unfold fK;rw[ao h]
theorem W2{b l:al}{most e:Int}{p:Nat}(h:¬most<0)(h1:qN (gh b) 0 265=(l,e,p))(h2:¬e=0):fK b most=([],e):=by
 unfold fK;rw[aw h,h1,ao h2]
theorem W3{b l l2:al}{most e:Int}{p p2:Nat}(h:¬most<0)(h1:qN (gh b) 0 265=(l,0,p))(h2:qN (gh b) p 12=(l2,e,p2))(h3:¬e=0):fK b most=([],e):=by
 unfold fK;rw[aw h,h1,aw (fun k=>k rfl),h2,ao h3]
theorem W4{b l l2:al}{most:Int}{p p2:Nat}(h:¬most<0)(h1:qN (gh b) 0 265=(l,0,p))(h2:qN (gh b) p 12=(l2,0,p2)):fK b most=rH l l2 (gh b) (most.toNat+1) most p2 []:=by
 unfold fK;rw[aw h,h1,aw (fun k=>k rfl),h2,aw (fun k=>k rfl)]
def aaS(R:List bP×Int)(F:aQ)(r:Value)(L:aQ):Prop:=∃A' c',r= .tuple #[.slice A' R.1.length c',ah R.2]∧L= .own 170 3 A' R.1.length c' (kW R.1)::F
theorem aal{b:al}{most:Int}(hm:most<0):a_ B w0 327 [.slice A b.length c,ah most] F (aaS (fK b most) F):=by
 rw[aai hm];refine fw func327 70 [0,1] ?_;refine dc ?_;refine aj (fun mD=>?_) fun mD=>?_
 ·refine bI ?_;refine aD 170 3 none ?_;refine aF ?_;exact⟨none,0,rfl,rfl⟩
 ·exfalso;exact mD hm
theorem ajm{b l:al}{most e:Int}{p:Nat}(hb:eM B w0 F A c b)(de:b.length≤1000000)(hm:¬most<0)(h1:qN (gh b) 0 265=(l,e,p))(h2:¬e=0):
  a_ B w0 327 [.slice A b.length c,ah most] F (aaS (fK b most) F):=by
 have za:=dO b;rw[W2 hm h1 h2];refine fw func327 70 [0,1] ?_;refine dc ?_;refine aj (fun mD=>?_) fun mD=>?_
 ·exfalso;exact hm mD
 ·refine bG ?_;refine dX rfl (EO hb de) fun gr Ar cr=>?_;refine ab (bw [(0,_)] [.pointer none,.pointer none,.pointer none] [0] [_,_,_] rfl rfl ag) rfl ?_;refine bh fun g16=>?_;refine bI ?_;refine ai rfl (E7 (k:=265) aa aa aa h1 h2) ?_;refine dc ?_;refine ve [1,4,5,6,26] ?_;refine aF ?_;refine aj (fun qc=>?_) fun qc=>?_
  ·refine bO ?_;refine aq (.skip (.skip (.skip (.refl _)))) (aD 170 3 none ?_);refine aF ?_;exact⟨none,0,rfl,rfl⟩
  ·exfalso;exact qc h2
theorem ajn{b l l2:al}{most e:Int}{p p2:Nat}(hb:eM B w0 F A c b)(de:b.length≤1000000)(hm:¬most<0)(h1:qN (gh b) 0 265=(l,0,p))(h2:qN (gh b) p 12=(l2,e,p2))(h3:¬e=0):
  a_ B w0 327 [.slice A b.length c,ah most] F (aaS (fK b most) F):=by
 have za:=dO b;have mN:p≤(gh b).length:=by have:=E8 (q:=gh b) (p:=0) 265 aa;rw[h1]at this;exact this
 rw[W3 hm h1 h2 h3];refine fw func327 70 [0,1] ?_;refine dc ?_;refine aj (fun mD=>?_) fun mD=>?_
 ·exfalso;exact hm mD
 ·refine bG ?_;refine dX rfl (EO hb de) fun gr Ar cr=>?_;refine ab (bw [(0,_)] [.pointer none,.pointer none,.pointer none] [0] [_,_,_] rfl rfl ag) rfl ?_;refine bh fun g16=>?_;refine bI ?_;refine aX abH rfl (AM (k:=265) aa aa aa h1) rfl ?_;rintro _ _ ⟨gs,Y,rfl,cA,tV⟩;obtain rfl:=cA.symm;refine dc ?_;refine ve [1,4,5,6,26] ?_;refine aF ?_;refine dm fun qc=>?_;refine bK ?_;refine ai rfl (E7 (k:=12) mN aa aa h2 h3) ?_;refine jk ?_;refine aj (fun zK=>?_) fun zK=>?_
  ·refine bG ?_;refine ve [4,5] ?_;refine bA ?_;refine aq (.skip (.skip (.skip (dv _ _)))) (aD 170 3 none ?_);refine aF ?_;exact⟨none,0,rfl,rfl⟩
  ·exfalso;exact zK h3
theorem ajo{b l l2:al}{most:Int}{p p2:Nat}(hb:eM B w0 F A c b)(de:b.length≤1000000)(hm:¬most<0)(vE:most≤1000000)(h1:qN (gh b) 0 265=(l,0,p))(h2:qN (gh b) p 12=(l2,0,p2)):
  a_ B w0 327 [.slice A b.length c,ah most] F (aaS (fK b most) F):=by
 have za:=dO b;have mN:p≤(gh b).length:=by have:=E8 (q:=gh b) (p:=0) 265 aa;rw[h1]at this;exact this
 have RF:p2≤(gh b).length:=by have:=E8 (q:=gh b) (p:=p) 12 mN;rw[h2]at this;exact this
 have tC:l.length=265:=by have:=CN (q:=gh b) (p:=0) (n:=265);rw[show(((265:Nat):Int))=265 from rfl,h1]at this;exact this rfl
 have rO:l2.length=12:=by have:=CN (q:=gh b) (p:=p) (n:=12);rw[show(((12:Nat):Int))=12 from rfl,h2]at this;exact this rfl
 obtain⟨R,hR⟩:∃R,rH l l2 (gh b) (most.toNat+1) most p2 []=R:=⟨_,rfl⟩
 rw[W4 hm h1 h2,hR];obtain⟨q,hq⟩:∃q,gh b=q:=⟨_,rfl⟩
 rw[hq]at za mN RF h1 h2 hR;have hnr:=EO (B:=B) (w0:=w0) hb de;rw[hq]at hnr;refine fw func327 70 [0,1] ?_;refine dc ?_;refine aj (fun mD=>?_) fun mD=>?_
 ·exfalso;exact hm mD
 ·refine bG ?_;refine dX rfl (hnr) fun gr Ar cr=>?_;refine ab (bw [(0,_)] [.pointer none,.pointer none,.pointer none] [0] [_,_,_] rfl rfl ag) rfl ?_;refine bh fun g16=>?_;refine bI ?_;refine aX abH rfl (AM (k:=265) aa aa aa h1) rfl ?_;rintro _ _ ⟨gs,Y,rfl,cA,tV⟩;obtain rfl:=cA.symm;refine dc ?_;refine ve [1,4,5,6,26] ?_;refine aF ?_;refine dm fun qc=>?_;refine bK ?_;refine aX abH rfl (AM (k:=12) mN aa aa h2) rfl ?_;rintro _ _ ⟨gf,Y2,rfl,cA,hcf⟩;obtain rfl:=cA.symm;refine jk ?_;refine dm fun zK=>?_;obtain⟨K,hK⟩:=cK (Y2++(Y++F));have P6:xi B w0 K gs l:=by rw[hK];exact tV.mono (.trans (vJ Y F) (gx _ _))
  have hc2:xi B w0 K gf l2:=by rw[hK];exact hcf.mono (vJ _ _)
  have GQ:Wk K F:=by rw[hK];exact(dv _ _).trans (dv _ _)
  rw[←hK];refine aZ 170 3 none ?_;refine wq (L':=.own 170 3 none 0 0 []::Rk (br gs) (br gf) g16 gr Ar cr q p2 K) (.refl _) ?_;refine b8 ?_;refine aE (fun zf zL zm=>∃(f:Nat) (m:Int) (pp:Nat) (acc:List bP) (A':bj) (c':Nat),(0≤m∧m<f∧m≤1000000∧pp≤q.length∧rH l l2 q f m pp acc=R∧acc.length+m≤most)∧f=zm∧Sub zf [(1,ah m),(4,.slice A' acc.length c'),(6,br g16)]∧Wk zL (.own 170 3 A' acc.length c' (kW acc)::Rk (br gs) (br gf) g16 gr Ar cr q pp K)) _ ⟨most.toNat+1,most,p2,[],none,0,⟨aa,aa,aa,RF,hR,ak⟩,rfl,bp,.refl _⟩ ?_;rintro _ _ _ ⟨f,m,pp,acc,A',c',⟨hm0,hmf,hm6,hpq,wO,D_⟩,rfl,hs,hp⟩;refine aU hs hp ?_;clear hs hp;refine be ?_;obtain⟨f',rfl⟩:∃f',f=f'+1:=⟨f-1,aa⟩
  have ahL:=Pu (sl:=l) (fl:=l2) hpq tC rO;obtain⟨⟨t,ok,e,p3⟩,hT⟩:∃x,kh l l2 q pp=x:=⟨_,rfl⟩
  rw[hT]at ahL;simp only at ahL;refine be ?_;refine ai rfl (.perm (aeJ hpq aa P6.cons hc2.cons tC rO hT) ((l_ (l_ (l_ (fR (.refl _))))))) ?_;refine b8 ?_;refine bc fun g7=>?_;refine cH ?_;refine aj (fun h46=>?_) fun h46=>?_
  ·have Yu:=Pr wO hT h46;subst Yu;refine dc ?_;refine aq (.skip (.skip (.skip (.skip (.skip GQ))))) (aD 170 3 none ?_);refine aF ?_;exact⟨none,0,rfl,rfl⟩
  ·obtain rfl:e=0:=bH h46;refine bz ?_;refine ab (iR rfl) rfl ?_;refine be ?_;refine gZ (fun Yo=>?_) fun Yo=>?_
   ·obtain rfl:ok=false:=by cases ok<;>simp at Yo⊢
    have Yu:=Pq wO hT;refine dc ?_;refine ai rfl (.perm (aq0 q p3 ahL.2.2 aa) ((BM (BM (fR (fR (.refl _))))))) ?_;refine aF ?_;refine ve [4,10] ?_;refine bK ?_;refine aj (fun Vb=>?_) fun Vb=>?_
    ·rw[aw Vb]at Yu;subst Yu;refine bO ?_;refine aq (.skip (.skip (.skip (.skip (.skip GQ))))) (aD 170 3 none ?_);refine aF ?_;exact⟨none,0,rfl,rfl⟩
    ·rw[ao (bH Vb)]at Yu;subst Yu;refine bB ?_;refine aq (.skip (.skip (.skip (.skip (.cons GQ))))) ?_;refine aF ?_;exact⟨A',c',rfl,rfl⟩
   ·obtain rfl:ok=true:=by cases ok<;>simp at Yo⊢
    refine bI ?_;refine ab (JW rfl rfl) rfl ?_;refine be ?_;refine ve [1,4,6,7] ?_;refine bK ?_;refine aj (fun Yq=>?_) fun Yq=>?_
    ·have Yu:=Jf wO hT Yq;subst Yu;refine cH ?_;refine aq (.skip (.skip (.skip (.skip (.skip GQ))))) (aD 170 3 none ?_);refine aF ?_;exact⟨none,0,rfl,rfl⟩
    ·have Rv:=W1 wO hT Yq;have wR:(acc++[t]).length=acc.length+1:=by simp
     refine bG ?_;refine rI akK rfl rfl rfl aa cw rfl rfl rfl (fun _=>rfl) aV aa aa ?_;intro _ A60 c60;refine bA ?_;refine av ⟨_,aa,f',m-max 1 t.2.1,p3,acc++[t],A60,c60,⟨aa,aa,aa,ahL.2.2,Rv,T4⟩,rfl,bp,.trans ((wu4 (gk (gk (gk (.skip (.refl _))))))) (ax ak (by rw[Jh];rfl) (.refl _))⟩
theorem ajp{b:al}{most:Int}(hb:eM B w0 F A c b)(de:b.length≤1000000)(vE:most≤1000000):
  a_ B w0 327 [.slice A b.length c,ah most] F (aaS (fK b most) F):=by
 by_cases hm:most<0
 ·exact aal hm
 ·obtain⟨⟨l,e,p⟩,h1⟩:∃x,qN (gh b) 0 265=x:=⟨_,rfl⟩
  by_cases he:e=0
  ·subst he;obtain⟨⟨l2,e2,p2⟩,h2⟩:∃x,qN (gh b) p 12=x:=⟨_,rfl⟩
   by_cases he2:e2=0
   ·subst he2;exact ajo hb de hm vE h1 h2
   ·exact ajn hb de hm h1 h2 he2
  ·exact ajm hb de hm h1 he
end
section
theorem T5{P:Prop}(h:P:=by(rw[k3];exact hb.cons)):P:=h
theorem zA:a_ B w0 177 [br g] (Cv g A c s::F) (fun r L=>r=ah s.at_∧L=Cv g A c s::F):=by
 refine fw func177 10 [0] ?_;refine acx ?_;exact⟨rfl,rfl⟩
theorem Cs.gw(s:Cs){m:Int}(h0:0≤m)(hm:m≤9223372036854775807):(s.int m:Int)≤m:=by
 unfold Cs.int;split
 ·omega
 ·have h:=jy s.rest m hm;by_cases he:(eu s.rest m).2.2=0
  ·exact h.2.2.2 he
  ·rw[(pA he).1];omega
theorem qW(s:Cs)(e:Int):(s.failed e).b=s.b:=by unfold Cs.failed;split<;>rfl
theorem aj8(b:al):(UX b).b=b:=by
 unfold UX;split
 ·rw[qW];exact Cs.cN _ _ _
 ·exact Cs.cN _ _ _
theorem acb(b:al):(fr2 b).b=b:=by
 unfold fr2;exact(Cs.cN _ _ _).trans (aj8 b)
theorem acd(b:al):(Gb b).b=b:=by
 unfold Gb;split
 ·rw[qW];exact(Cs.cN _ _ _).trans (acb b)
 ·exact(Cs.cN _ _ _).trans (acb b)
theorem ace(b:al):(Yf b).b=b:=by
 unfold Yf;exact(Cs.cN _ _ _).trans ((Cs.cN _ _ _).trans (acd b))
theorem apQ(b:al):(xY b).b=b:=by
 unfold xY;split
 ·exact ace b
 ·rw[qW];exact ace b
theorem pd{b:al}(h:b.length≤1099511627776):ct ⟨b,0,0⟩:=⟨bS _,h⟩
theorem aca{b:al}(h:b.length≤1099511627776):ct (UX b):=by
 unfold UX;split
 ·exact(pd h).eJ.failed _
 ·exact(pd h).eJ
theorem Q9{b:al}(h:b.length≤1099511627776):ct (fr2 b):=(aca h).bW aa
theorem J'{b:al}(h:b.length≤1099511627776):ct (Gb b):=by
 unfold Gb;split
 ·exact((Q9 h).bW aa).failed _
 ·exact(Q9 h).bW aa
theorem Q_{b:al}(h:b.length≤1099511627776):ct (Yf b):=(J' h).b_.b_
theorem alL{b:al}(h:b.length≤1099511627776):ct (xY b):=by
 unfold xY;split
 ·exact Q_ h
 ·exact(Q_ h).failed _
theorem mQ{s s':Cs}{L L':aQ}(h:s=s')(k:Wk L L'):Wk (Cv g A c s::L) (Cv g A c s'::L'):=by subst h;exact k.cons
abbrev Fb(g gc:Nat)(w n p:Nat)(bd:Value):Ch:=.bE g 379 [br gc,ah w,ah n,ah p,bd]
theorem ahl{b:al}(hb:eM B w0 F A c b)(de:b.length≤1099511627776):
  a_ B w0 301 [br g] (Fb g gc 0 0 0 (.slice none 0 0)::Cv gc A c ⟨b,0,0⟩::F)
   (fun r L=>r= .tuple #[]∧L=Fb g gc (Cs.byte ⟨b,0,0⟩).toNat (frN b) (zF b) (.slice none 0 0)::Cv gc A c (Gb b)::F):=by
 have hx:=lT (Cs.byte ⟨b,0,0⟩);obtain⟨x,hxx⟩:=cK ((Cs.byte ⟨b,0,0⟩).toNat);have hN:((frN b:Nat):Int)≤32768:=Cs.gw _ aa aa;have hP:((zF b:Nat):Int)≤32768:=Cs.gw _ aa aa;have k1:=aj8 b;have k2:=acb b;have k3:=acd b;rw[←hxx]at hx⊢;refine fw func301 53 [0] ?_;refine bK ?_;refine ai rfl ((ov (g:=gc) (pd de) (aK.cons hb)).perm ((l_ (fR (.refl _))))) ?_;refine ab (bm underlying5 underlying3 rfl (r:=(x:Int)) (by rw[hxx];exact bF aa aa)) rfl ?_;refine bG ?_;refine d_ (fun zf zL=>Sub zf [(0,br g)]∧Wk zL (Cv gc A c (UX b)::Fb g gc x 0 0 (.slice none 0 0)::F)) ?_ ?_
 ·refine bO ?_;refine aj (fun kL=>?_) fun kL=>?_
  ·refine bG ?_;refine ai rfl (nr 2) ?_;refine ve [0] ?_;exact bD ⟨bp,mQ (by unfold UX;rw[ao aa]) (.refl _)⟩
  ·refine aF ?_;exact bD ⟨bp,mQ (by unfold UX;rw[aw aa]) (.refl _)⟩
 ·rintro _ _ ⟨hs,hp⟩;refine aU hs hp ?_;clear hs hp;refine aF ?_;have e2:fr2 b=(UX b).bW 32768:=rfl;have eN:frN b=(UX b).int 32768:=rfl;have eP:zF b=(fr2 b).int 32768:=rfl;refine bz ?_;refine ai rfl (iH (s:=UX b) (aca de) (by rw[k1];exact hb.cons) aa aa) ?_;refine bz ?_;rw[←eN,←e2];refine bz ?_;refine ai rfl (iH (s:=fr2 b) (Q9 de) (by rw[k2];exact hb.cons) aa aa) ?_;refine bz ?_;rw[←eP];refine bO ?_;refine bZ (eZ rfl rfl (r:=((1032*zF b:Nat):Int)) ((bF aa aa).trans aa)) rfl ?_;refine bZ (bX rfl rfl (r:=((1032*zF b+64:Nat):Int)) ((bF aa aa).trans aa)) rfl ?_;refine aF ?_;refine nj [(0,_),(47,_)] ⟨rfl,rfl,trivial⟩ ?_;refine aF ?_;refine aj (fun Va=>?_) fun Va=>?_
  ·refine bG ?_;refine ai rfl (nr 6) ?_;refine be ?_;refine aq (.trans (mQ (s':=Gb b) (by unfold Gb;rw[ao aa]) (.refl _)) (.swap (.refl _))) ?_;refine aF ?_;exact⟨rfl,rfl⟩
  ·refine be ?_;refine aq (.trans (mQ (s':=Gb b) (by unfold Gb;rw[aw aa]) (.refl _)) (.swap (.refl _))) ?_;refine aF ?_;exact⟨rfl,rfl⟩
theorem QD{l:al}{n:Nat}{xs:cV}(HT:bL B w0)(e1:n=l.length)(e2:xs=bv l)(hb:aK B w0 F 1 (.slice A n c) n xs)(hl:l.length≤1099511627776):
  a_ B w0 176 [.slice A n c] F (fun r L=>∃A' c',r= .tuple #[.slice A' (aJ l).1.length c',ah (aJ l).2]∧L= .own 5 1 A' (aJ l).1.length c' (bv (aJ l).1)::F):=by
 subst e1;subst e2;exact wF HT hb hl
theorem aho(HT:bL B w0){b:al}{w n:Nat}(hb:eM B w0 F A c b)(oL:eM B w0 F A2 c2 b)(de:b.length≤1099511627776):
  a_ B w0 302 [br g,.slice A2 b.length c2] (Fb g gc w n (zF b) (.slice none 0 0)::Cv gc A c (Gb b)::F)
   (fun r L=>r= .tuple #[]∧∃A' c',L=Fb g gc w n (zF b) (.slice A' (PX b).length c')::Cv gc A c (xY b):: .own 5 1 A' (PX b).length c' (bv (PX b))::F):=by
 have hP:((zF b:Nat):Int)≤32768:=Cs.gw _ aa aa;have k3:=acd b;have k4:=ace b;have o4:=Q_ de;have o4a:=o4.at_;rw[k4]at o4a;obtain⟨s4,LD⟩:=cK ((Gb b).b_ (zF b));have o4':ct s4:=by rw[LD];exact(J' de).b_
 have k4':s4.b=b:=by rw[LD];exact(Cs.cN _ _ _).trans k3
 have e4:Yf b=s4.b_ 4:=by rw[LD];rfl
 have e5:PX b=(Gb b).take (zF b):=rfl;refine dL.xk oL.cons.cons fun mm _=>?_;refine fw func302 46 [0,1] ?_;refine aF ?_;refine cF F ?_;refine ae 0 ?_;refine ae 1 ?_;refine ae 2 ?_;refine ae 3 ?_;refine ae 5 ?_;refine ae 6 ?_;refine ae 7 ?_;refine gS 4 8 ?_ ?_
 ·refine aF ?_;refine az 8 ?_;refine aF ?_;refine az 9 ?_;refine b7 rfl rfl ((mg (g:=gc) (s:=Gb b) (m:=zF b) (J' de) T5 aa aa).perm ((l_ (fR (.refl _))))) fun Bf JK=>?_;refine ae 10 ?_;refine ae 11 ?_;refine az 12 ?_;refine b8 ?_;rw[←LD,←e5];refine bG ?_;refine ay rfl (mg (g:=gc) (s:=s4) (m:=4) o4' (by rw[k4'];exact hb.cons.cons) aa aa) fun A22 c22=>?_;refine ve [0,1] ?_;refine bA ?_;rw[←e4];refine bG ?_;refine ai rfl (gM) ?_;refine bA ?_;refine aj (fun qF=>?_) fun qF=>?_
  ·refine be ?_;refine aq (.trans (mQ (s':=xY b) (by unfold xY;rw[ao qF]) (.refl _)) ((tF (ed (gk (.skip (.refl _))))))) ?_;refine aF ?_;exact⟨rfl,Bf,JK,rfl⟩
  ·refine bA ?_;obtain⟨m,hm⟩:=cK ((Yf b).at_);have wP:=oL.iY (k:=m) aa;rw[cE]at wP;refine bz ?_;refine ai rfl (zA) ?_;refine ab (bN (i:=m) (size:=1) underlying27 ag rfl rfl aa aa) rfl ?_;refine ay rfl (QD (l:=b.take m) HT nx (by simp[bv,pt]) wP.cons.cons.cons.cons nx) fun A37 c37=>?_;refine bG ?_;refine ve [0,5] ?_;refine bK ?_;refine ai rfl ((nr (aJ (b.take m)).2).perm ((l_ (fR (.refl _))))) ?_;refine be ?_;refine aq (.trans (mQ (s':=xY b) (by unfold xY;rw[aw qF,hm]) (.refl _)) ((wu4 (ed (rQ (.skip (.skip (.refl _)))))))) ?_;refine aF ?_;exact⟨rfl,Bf,JK,rfl⟩
 ·refine aF ?_;refine az 4 ?_;refine aF ?_;refine az 9 ?_;refine b7 rfl rfl ((mg (g:=gc) (s:=Gb b) (m:=zF b) (J' de) T5 aa aa).perm ((l_ (fR (.refl _))))) fun Bf JK=>?_;refine ae 10 ?_;refine ae 11 ?_;refine az 12 ?_;refine b8 ?_;rw[←LD,←e5];refine bG ?_;refine ay rfl (mg (g:=gc) (s:=s4) (m:=4) o4' (by rw[k4'];exact hb.cons.cons) aa aa) fun A22 c22=>?_;refine ve [0,1] ?_;refine bA ?_;rw[←e4];refine bG ?_;refine ai rfl (gM) ?_;refine bA ?_;refine aj (fun qF=>?_) fun qF=>?_
  ·refine be ?_;refine aq (.trans (mQ (s':=xY b) (by unfold xY;rw[ao qF]) (.refl _)) ((tF (ed (gk (.skip (.refl _))))))) ?_;refine aF ?_;exact⟨rfl,Bf,JK,rfl⟩
  ·refine bA ?_;obtain⟨m,hm⟩:=cK ((Yf b).at_);have wP:=oL.iY (k:=m) aa;rw[cE]at wP;refine bz ?_;refine ai rfl (zA) ?_;refine ab (bN (i:=m) (size:=1) underlying27 ag rfl rfl aa aa) rfl ?_;refine ay rfl (QD (l:=b.take m) HT nx (by simp[bv,pt]) wP.cons.cons.cons.cons nx) fun A37 c37=>?_;refine bG ?_;refine ve [0,5] ?_;refine bK ?_;refine ai rfl ((nr (aJ (b.take m)).2).perm ((l_ (fR (.refl _))))) ?_;refine be ?_;refine aq (.trans (mQ (s':=xY b) (by unfold xY;rw[aw qF,hm]) (.refl _)) ((wu4 (ed (rQ (.skip (.skip (.refl _)))))))) ?_;refine aF ?_;exact⟨rfl,Bf,JK,rfl⟩
theorem ah'{q:List Bool}{fl:al}{p b:Nat}(hb:b≤7)(hp:p≤q.length)(l9:fl.length=12):0≤(m_ fl q p ((257+b:Nat):Int)).1.2.2∧(m_ fl q p ((257+b:Nat):Int)).1.2.2≤5000:=by
 by_cases h1:r_ q p b=0
 ·obtain⟨p1,Ca⟩:∃x,iE q p b=x:=⟨_,rfl⟩
  have YI:p1≤q.length:=by rw[←Ca];exact qE _ hp
  have lj:=u9 fl q YI;obtain⟨⟨k,e,p2⟩,hH⟩:∃x,fz fl q p1=x:=⟨_,rfl⟩
  rw[hH]at lj;simp only at lj;by_cases h2:e=0
  ·subst h2;obtain⟨s,rfl,hs,_⟩:=lj.2.2.1 rfl;have Vn:=zJ q p2 (n:=s) aa;have Cb:2^s≤2048:=la (n:=2) aa (by omega:s≤11);by_cases h3:r_ q p2 s=0
   ·rw[Sg h1 Ca hH h3];exact⟨cY,cY⟩
   ·rw[Se h1 Ca hH h3];exact⟨cY,cY⟩
  ·rw[Sd h1 Ca hH h2];exact⟨cY,cY⟩
 ·rw[Sc h1];exact⟨cY,cY⟩
theorem ajj{q:List Bool}{sl fl:al}{p:Nat}(hp:p≤q.length)(nS:sl.length=265)(l9:fl.length=12):0≤(kh sl fl q p).1.2.2∧(kh sl fl q p).1.2.2≤5000:=by
 have lj:=u9 sl q hp;obtain⟨⟨k,e,p1⟩,hH⟩:∃x,fz sl q p=x:=⟨_,rfl⟩
 rw[hH]at lj;simp only at lj;by_cases h:¬e=0∨k=256
 ·rw[Tl hH h];exact⟨cY,cY⟩
 ·have he0:e=0:=bH fun k=>h (.inl k);subst he0;obtain⟨s,rfl,hs,_⟩:=lj.2.2.1 rfl;by_cases h2:s<256
  ·rw[Tm hH h2];exact⟨cY,cY⟩
  ·obtain⟨b,rfl⟩:∃b,s=257+b:=⟨s-257,aa⟩
   rw[Tn hH];exact ah' aa lj.2.1 l9
theorem Pp{q:List Bool}{sl fl:al}(nS:sl.length=265)(l9:fl.length=12):∀(f:Nat) (most:Int) (p:Nat) (acc:List bP),p≤q.length→WW acc→0≤most→
  ((rH sl fl q f most p acc).1.length:Int)≤acc.length+most∧WW (rH sl fl q f most p acc).1
 |0,most,p,acc,hp,ha,h0=>⟨by simp[rH];omega,fun t h=>kl⟩
 |f+1,most,p,acc,hp,ha,h0=>by
  have h1:=Pu (sl:=sl) (fl:=fl) hp nS l9;have h2:=ajj (sl:=sl) (fl:=fl) hp nS l9;obtain⟨⟨t,ok,e,p2⟩,hT⟩:∃x,kh sl fl q p=x:=⟨_,rfl⟩
  rw[hT]at h1 h2;simp only at h1 h2;by_cases he:e=0
  ·subst he;cases ok with
   |false=>
    rw[Pq rfl hT];split
    ·exact⟨cY,ha⟩
    ·exact⟨bR,fun t h=>kl⟩
   |true=>
    by_cases hm:most-max 1 t.2.1<0
    ·rw[Jf rfl hT hm];exact⟨bR,fun t h=>kl⟩
    ·rw[←W1 rfl hT hm];have:=Pp nS l9 f (most-max 1 t.2.1) p2 (acc++[t]) h1.2.2 (fun u hu=>by
      rcases dz.1 hu with hu|hu
      ·exact ha u hu
      ·rw[lJ.1 hu];exact⟨⟨aa,aa⟩,aa,aa⟩) aa
     rw[aY,qe]at this;exact⟨by have:=this.1;omega,this.2⟩
  ·rw[Pr rfl hT he];exact⟨bR,fun t h=>kl⟩
theorem aah{b:al}{most:Int}(h0:0≤most):((fK b most).1.length:Int)≤most∧WW (fK b most).1:=by
 have za:=dO b;obtain⟨⟨l,e,p⟩,h1⟩:∃x,qN (gh b) 0 265=x:=⟨_,rfl⟩
 by_cases he:e=0
 ·subst he;obtain⟨⟨l2,e2,p2⟩,h2⟩:∃x,qN (gh b) p 12=x:=⟨_,rfl⟩
  by_cases he2:e2=0
  ·subst he2;have mN:p≤(gh b).length:=by have:=E8 (q:=gh b) (p:=0) 265 aa;rw[h1]at this;exact this
   have RF:p2≤(gh b).length:=by have:=E8 (q:=gh b) (p:=p) 12 mN;rw[h2]at this;exact this
   have tC:l.length=265:=by have:=CN (q:=gh b) (p:=0) (n:=265);rw[show(((265:Nat):Int))=265 from rfl,h1]at this;exact this rfl
   have rO:l2.length=12:=by have:=CN (q:=gh b) (p:=p) (n:=12);rw[show(((12:Nat):Int))=12 from rfl,h2]at this;exact this rfl
   rw[W4 aa h1 h2];have:=Pp (q:=gh b) tC rO (most.toNat+1) most p2 [] RF (fun t h=>kl) h0;simpa using this
  ·rw[W3 aa h1 h2 he2];exact⟨bR,fun t h=>kl⟩
 ·rw[W2 aa h1 he];exact⟨bR,fun t h=>kl⟩
def FrA(R:al×Int)(B:Nat)(w0:World)(F:aQ)(r:Value)(L:aQ):Prop:=∃A' c' Y,r= .tuple #[.slice A' R.1.length c',ah R.2]∧L=Y++F∧aK B w0 L 1 (.slice A' R.1.length c') R.1.length (bv R.1)
section
variable{w n p:Nat}{bd:al}
theorem apR(h:w=0)(h2:n≠p):Ni w n p bd=([],2):=by unfold Ni;rw[ao h,ao h2]
theorem apS(h:w=0)(h2:¬n≠p):Ni w n p bd=(bd,0):=by unfold Ni;rw[ao h,aw h2]
theorem apT(h:¬w=0)(h2:(fK bd n).2≠0):Ni w n p bd=([],(fK bd n).2):=by unfold Ni;rw[aw h,ao h2]
theorem apU(h:¬w=0)(h2:¬(fK bd n).2≠0)(h3:(kH (fK bd n).1 n).2≠0):Ni w n p bd=([],(kH (fK bd n).1 n).2):=by unfold Ni;rw[aw h,aw h2,ao h3]
theorem apV(h:¬w=0)(h2:¬(fK bd n).2≠0)(h3:¬(kH (fK bd n).1 n).2≠0)(h4:(kH (fK bd n).1 n).1.length<n):Ni w n p bd=([],2):=by unfold Ni;rw[aw h,aw h2,aw h3,ao h4]
theorem apW(h:¬w=0)(h2:¬(fK bd n).2≠0)(h3:¬(kH (fK bd n).1 n).2≠0)(h4:¬(kH (fK bd n).1 n).1.length<n):Ni w n p bd=((kH (fK bd n).1 n).1,0):=by unfold Ni;rw[aw h,aw h2,aw h3,aw h4]
end
theorem FrA.nil{R:al×Int}{r:Value}{L Y:aQ}(h:R.1=[])(hr:r= .tuple #[.slice none 0 0,ah R.2])(hL:L=Y++F):FrA R B w0 F r L:=by
 obtain⟨l,e⟩:=R;simp only at h;subst h;exact⟨none,0,Y,hr,hL,aK.Az⟩
theorem ab4{w n p:Nat}{bd:al}(hb:eM B w0 F A c bd)(de:bd.length≤1000000)(hn:n≤32768):
  a_ B w0 303 [br g] (Fb g gc w n p (.slice A bd.length c)::F) (FrA (Ni w n p bd) B w0 (Fb g gc w n p (.slice A bd.length c)::F)):=by
 have hta:=aah (b:=bd) (most:=n) aa;refine fw func303 62 [0] ?_;refine jQ ?_;refine aj (fun pn=>?_) fun pn=>?_
 ·refine dQ ?_;refine aj (fun iM=>?_) fun iM=>?_
  ·refine b8 ?_;refine ve [2,3] ?_;refine bG ?_;rw[apR aa aa];exact FrA.nil (Y:=[]) rfl rfl rfl
  ·refine bB ?_;refine ve [2,3] ?_;refine b8 ?_;rw[apS aa aa];exact⟨A,c,[],rfl,rfl,hb.cons⟩
 ·refine bA ?_;refine cF (Fb g gc w n p (.slice A bd.length c)::F) ?_;refine ae 0 ?_;refine ae 1 ?_;refine ae 2 ?_;refine ae 3 ?_;refine ae 4 ?_;refine ae 5 ?_;refine ae 6 ?_;refine ae 7 ?_;refine az 8 ?_;refine b7 rfl rfl (ajp (b:=bd) (most:=n) hb.cons de aa) fun wv xm=>?_;refine ae 9 ?_;refine ae 10 ?_;refine ae 11 ?_;refine ae 12 ?_;refine ae 13 ?_;refine cQ [0,4,5] ?_;refine bI ?_;refine aj (fun CA=>?_) fun CA=>?_
  ·refine bB ?_;rw[apT aa CA];exact FrA.nil (Y:=[_]) rfl rfl rfl
  ·refine bO ?_;refine ay rfl (anh (l:=(fK bd n).1) (most:=n) (aK.own (.head _)) aa aa aa hta.2) fun A46 c46=>?_;refine jQ ?_;refine aj (fun Yo=>?_) fun Yo=>?_
   ·refine bG ?_;refine ve [2,3] ?_;refine bG ?_;rw[apU aa CA Yo];exact FrA.nil (Y:=[_,_]) rfl rfl rfl
   ·refine bB ?_;refine ve [6,53] ?_;refine aF ?_;refine aj (fun h53=>?_) fun h53=>?_
    ·refine bB ?_;rw[apV aa CA Yo aa];exact FrA.nil (Y:=[_,_]) rfl rfl rfl
    ·refine cH ?_;rw[apW aa CA Yo aa];exact⟨A46,c46,[_,_],rfl,rfl,aK.own (.head _)⟩
theorem Ii(s:Cs)(n:Nat):(s.take n).length≤n:=by
 unfold Cs.take;split
 ·simp
 ·split
  ·simp
  ·rw[eS];omega
def OpA(b:al)(B:Nat)(w0:World)(F:aQ)(r:Value)(L:aQ):Prop:=
 if (xY b).e≠0 then r= .tuple #[.pointer none,.slice none 0 0,ah (xY b).e]∧L=F
 else∃A' c' g gc Ac cc M w n p bd,r= .tuple #[br g,.slice A' (Ly b).1.length c',ah (Ly b).2]∧L=Fb g gc w n p bd::Cv gc Ac cc (xY b)::M∧Wk M F∧aK B w0 L 1 (.slice A' (Ly b).1.length c') (Ly b).1.length (bv (Ly b).1)
theorem UW(HT:bL B w0){b:al}(hb:eM B w0 F A c b)(de:b.length≤1000000):
  a_ B w0 272 [.slice A b.length c] F (OpA b B w0 F):=by
 have hN:((frN b:Nat):Int)≤32768:=Cs.gw _ aa aa;have hB:(PX b).length≤1000000:=by
  have h1:=Ii (Gb b) (zF b);have h2:PX b=(Gb b).take (zF b):=rfl;have h3:((zF b:Nat):Int)≤32768:=Cs.gw _ aa aa;rw[h2];omega
 refine fw func272 34 [0] ?_;refine bB ?_;refine dX rfl (mY hb aa) fun gn An cn=>?_;refine ab (bw [(0,_)] [.pointer none,ah 0,ah 0,ah 0,.slice none 0 0] [0] [_,_,_,_,_] rfl rfl ag) rfl ?_;refine bh fun Ij=>?_;refine bz ?_;refine ai rfl (ahl (b:=b) (aK.own (.head _)) aa) ?_;refine bz ?_;refine aX apx rfl (aho HT (b:=b) (aK.own (.head _)) hb.cons aa) rfl ?_;rintro _ _ ⟨rfl,Ab,cb,cA⟩;obtain rfl:=cA.symm;refine bO ?_;refine ai rfl ((gM).perm ((l_ (fR (.refl _))))) ?_;refine aF ?_;refine ve [5,6] ?_;refine bK ?_;refine aj (fun oh=>?_) fun oh=>?_
 ·refine bB ?_;refine aq (.skip (.skip (.skip (.skip (.refl _))))) ?_;refine aF ?_;unfold OpA;rw[ao oh];exact⟨rfl,rfl⟩
 ·refine bG ?_;refine aX apy rfl (.perm (ab4 (bd:=PX b) (aK.own (.tail _ (.head _))) hB aa) ((l_ (fR (.refl _))))) rfl ?_;rintro _ _ ⟨Ar,cr,Y,rfl,cA,CB⟩;obtain rfl:=cA.symm;refine tS ?_;have GO:=om Y [Fb Ij gn (Cs.byte ⟨b,0,0⟩).toNat (frN b) (zF b) (.slice Ab (PX b).length cb),Cv gn An cn (xY b)] (.own 5 1 Ab (PX b).length cb (bv (PX b)):: .own 5 1 An b.length cn (bv b)::F);refine aq (.dE GO) ?_;refine aF ?_;unfold OpA;rw[aw oh];exact⟨Ar,cr,Ij,gn,An,cn,_,_,_,_,_,rfl,rfl,(dv Y _).trans (.skip (.skip (.refl F))),CB.perm GO⟩
theorem EZ(most:Int):∀(l:List bP) (out:al),(out.length:Int)≤most→((ia most out l).1.length:Int)≤most
 |[],out,h=>by simpa[ia]using h
 |t::r,out,h=>by
  by_cases h1:e_ t
  ·by_cases h2:(out.length:Int)<t.2.2
   ·rw[IV most h1 h2];simp;omega
   ·by_cases h3:most-out.length<max 1 t.2.1
    ·rw[E0 most h1 h2 h3];simp;omega
    ·by_cases h4:t.2.1=0
     ·rw[IW most h1 h2 h3 h4];exact EZ most r _ T4
     ·rw[EY most h1 h2 h3 h4];exact EZ most r _ (by rw[oF];omega)
  ·rw[IU most h1];simp;omega
theorem ahn{w n p:Nat}{bd:al}:(Ni w n p bd).1.length≤max n bd.length:=by
 unfold Ni;split
 ·split
  ·simp
  ·simp only;omega
 ·split
  ·simp
  ·split
   ·simp
   ·split
    ·simp
    ·have h:=EZ n (fK bd n).1 [] ak;unfold kH;rw[aw aa];simp only;omega
theorem UY(b:al):(Ly b).1.length≤32768:=by
 have hN:((frN b:Nat):Int)≤32768:=Cs.gw _ aa aa;have hP:((zF b:Nat):Int)≤32768:=Cs.gw _ aa aa;have h1:=Ii (Gb b) (zF b);have h2:PX b=(Gb b).take (zF b):=rfl;have h3:=ahn (w:=(Cs.byte ⟨b,0,0⟩).toNat) (n:=frN b) (p:=zF b) (bd:=PX b);rw[h2]at h3;unfold Ly;rw[h2];omega
abbrev BlA(R:al×Nat×Int)(F:aQ)(r:Value)(L:aQ):Prop:=∃A' c',r= .tuple #[.slice A' R.1.length c',ah (R.2.1:Int),ah R.2.2]∧L= .own 5 1 A' R.1.length c' (bv R.1)::F
theorem agQ(HT:bL B w0){b:al}(hb:eM B w0 F A c b)(de:b.length≤1000000)(h:(xY b).e≠0):
  a_ B w0 230 [.slice A b.length c] F (BlA (dK b) F):=by
 have hop:=(UW HT hb de).mono (R':=fun r L=>r= .tuple #[.pointer none,.slice none 0 0,ah (xY b).e]∧L=F) fun v L' k=>by unfold OpA at k;rw[ao h]at k;exact k
 refine fw func230 24 [0] ?_;refine bB ?_;refine ai rfl (hop) ?_;refine jQ ?_;refine aj (fun kL=>?_) fun kL=>?_
 ·refine bB ?_;refine aD 5 1 none ?_;refine aF ?_;unfold dK;rw[ao h];exact⟨none,0,rfl,rfl⟩
 ·exfalso;exact kL h
def OpB(b:al)(B:Nat)(w0:World)(F:aQ)(r:Value)(L:aQ):Prop:=
 ∃A' c' g gc Ac cc M w n p bd,r= .tuple #[br g,.slice A' (Ly b).1.length c',ah (Ly b).2]∧L=Fb g gc w n p bd::Cv gc Ac cc (xY b)::M∧Wk M F∧aK B w0 (Fb g gc w n p bd::Cv gc Ac cc (xY b)::M) 1 (.slice A' (Ly b).1.length c') (Ly b).1.length (bv (Ly b).1)
theorem agR(HT:bL B w0){b:al}(hb:eM B w0 F A c b)(de:b.length≤1000000)(h:¬(xY b).e≠0):
  a_ B w0 230 [.slice A b.length c] F (BlA (dK b) F):=by
 have hop:=(UW HT hb de).mono (R':=OpB b B w0 F) fun v L' k=>by
  unfold OpA at k;rw[aw h]at k;obtain⟨A',c',g,gc,Ac,cc,M,w,n,p,bd,h1,h2,h3,h4⟩:=k;rw[h2]at h4;exact⟨A',c',g,gc,Ac,cc,M,w,n,p,bd,h1,h2,h3,h4⟩
 refine fw func230 24 [0] ?_;refine bB ?_;refine aX apv rfl (hop) rfl ?_;rintro _ _ ⟨Ao,co,go,gc,Ac,cc,M,w,n,p,bd,rfl,cA,hM,hbo⟩;obtain rfl:=cA.symm;refine jQ ?_;refine aj (fun kL=>?_) fun kL=>?_
 ·refine bB ?_;refine aq (.skip (.skip hM)) (aD 5 1 none ?_);refine aF ?_;unfold dK;rw[aw h,ao kL];exact⟨none,0,rfl,rfl⟩
 ·refine bA ?_;refine cF (Fb go gc w n p bd::Cv gc Ac cc (xY b)::M) ?_;refine ae 0 ?_;refine ae 2 ?_;refine ae 3 ?_;refine ae 4 ?_;refine ae 5 ?_;refine az 1 ?_;refine b7 rfl rfl (me (Ly b).1 hbo (by have:=UY b;omega)) fun tb uU=>?_;refine az 6 ?_;refine iW rfl rfl ((zA).jf ((BM (fR (fR (.refl _)))))) ?_;refine ae 7 ?_;refine ae 8 ?_;refine ae 9 ?_;refine cQ [2,3,4] ?_;refine be ?_;refine aq (.cons (.skip (.skip hM))) ?_;refine aF ?_;unfold dK;rw[aw h,aw kL];exact⟨tb,uU,rfl,rfl⟩
theorem agS(HT:bL B w0){b:al}(hb:eM B w0 F A c b)(de:b.length≤1000000):
  a_ B w0 230 [.slice A b.length c] F (BlA (dK b) F):=by
 by_cases h:(xY b).e≠0
 ·exact agQ HT hb de h
 ·exact agR HT hb de h
end
end Go.Proofs.YtaodmbolhoafcaaGreatDoor

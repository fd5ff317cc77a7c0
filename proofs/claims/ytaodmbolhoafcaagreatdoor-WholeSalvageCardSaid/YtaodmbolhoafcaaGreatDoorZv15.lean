/-
  Texts of one proof, joined: part 15. No condition.
-/
import Derived.Test.YtaodmbolhoafcaaGreatDoorZv14
import Derived.WideShapes
import Derived.Test.YtaodmbolhoafcaaGreatDoorRows
import Derived.JoinedOf
import Derived.RowKit
import Derived.Test.YtaodmbolhoafcaaGreatDoorCards
import Derived.SevenTiedAt
open List renaming length→E
open Go.RowKit Go.Proofs.Tryz
namespace Go.Proofs.YtaodmbolhoafcaaGreatDoor
set_option linter.unusedVariables false
set_option linter.unusedSimpArgs false
set_option maxRecDepth 20000
variable{b:aq}{P:Prop}{B:Nat}{w0:World}{F L:aN}{A A1 A2 Ao:bh}{n c c1 c2 co g gc:Nat}{s:Cs}{L0:aN}{n2:Nat}
theorem afk{fr:Fr}{P:Program}{fn:Func}{R:oV}{t u s q z:Nat}(hr:fn.results= #[.tmp t,.tmp u,.tmp s,.tmp q,.tmp z]){v1 v2 v3 v4 v5:Value}(hl:look t fr=some v1)(oB:look u fr=some v2)(G4:look s fr=some v3)(hl4:look q fr=some v4)(hl5:look z fr=some v5)(h:R (.tuple #[v1,v2,v3,v4,v5]) L):zT P fn R .ret fr L:=λB w0 a w ha hs=>by
 refine⟨_,L,?_,h,hs⟩;simp[results,hr,ha.at_ _ _ hl,ha.at_ _ _ oB,ha.at_ _ _ G4,ha.at_ _ _ hl4,ha.at_ _ _ hl5]
theorem PN(er:Int):bg B w0 96 [bq g,ah er] (Rv g A c s::F) (λr L=>r= .tuple #[]/\L=Rv g A c (s.failed er)::F):=by
 refine fw func96 13 [0,1] ?_;refine ag 9 (λh8=>?_) λh8=>?_
 ·refine dA ?_;simp only[Cs.failed,av h8];exact⟨fD,fD⟩
 ·refine fc ?_;simp only[Cs.failed,aB h8];exact⟨fD,fD⟩
theorem X3{s':Cs}{L':aN}(h:s=s')(k:Wk L L'):Wk (Rv g A c s::L) (Rv g A c s'::L'):=by subst h;exact k.cons
def HdA(b:aq)(F:aN)(r:Value)(L:aN):Prop:=
 ∃(w nn p a e:Int),r= .tuple #[ah w,ah nn,ah p,ah a,ah e]/\L=F/\(((sj b).e=0->e=0)/\(e=0->(sj b).e=0/\w=(Cs.byte ⟨b,0,0⟩).toNat/\nn=wq b/\p=oO b/\a=(qZ b).at_))
theorem akG(hb:gw B w0 F A c b)(ey:E b<=1000000):
  bg B w0 53 [.slice A (E b) c] F (HdA b F):=by
 have wy:E b<=1099511627776:=by omega
 have hx:=kR (Cs.byte ⟨b,0,0⟩);obtain⟨x,S5⟩:=cM ((Cs.byte ⟨b,0,0⟩).toNat);have hN:((wq b:Nat):Int)<=32768:=Cs.fI _ aa aa;have hP:((oO b:Nat):Int)<=32768:=Cs.fI _ aa aa;have k1:=acW b;have k2:=Wc b;have k3:=IS b;have k4:=Wd b;have o4:=KA wy;have o4a:=o4.at_;rw[k4]at o4a;rw[<-S5]at hx;obtain⟨s4,x9⟩:=cM ((qZ b).bR (oO b));have o4':cw s4:=by rw[x9];exact(xi wy).bR
 have k4':s4.b=b:=by rw[x9];exact(Cs.cO _ _ _).trans k3
 have e4:G2 b=s4.bR 4:=by rw[x9];rfl
 refine dQ.yk hb λoP _=>?_;refine ba func53 69 [0] 12 ?_;refine dV rfl (ajK hb wy) λg15 qh tX=>dw ?_;refine ai rfl (afc (g:=g15) (oe wy) (aJ.own (.head _))) (ab (be underlying5 underlying3 rfl (r:=(x:Int)) akV) rfl (fc ?_));refine dq (λzf zL=>Sub zf [(0,.slice A (E b) c),(7,bq g15),(8,ah (x:Int))]/\Wk zL (Rv g15 qh tX (IQ b):: .own 5 1 qh (E b) tX (bv b)::F)) ?_ ?_
 ·refine ag 6 (λkp=>?_) λkp=>?_
  ·refine ew ?_;refine ai rfl (PN 2) (aX ?_);exact bo ⟨a_,X3 (by unfold IQ;rw[av aa]) (.refl _)⟩
  ·refine aX ?_;exact bo ⟨a_,X3 (by unfold IQ;rw[aB aa]) (.refl _)⟩
 ·rintro _ _ ⟨hs,hp⟩;refine aL hs hp (aX ?_);have e2:Wb b=(IQ b).bX 32768:=rfl;have eN:wq b=(IQ b).int 32768:=rfl;have eP:oO b=(Wb b).int 32768:=rfl;refine ew ?_;refine ai rfl (Xj (s:=IQ b) (Sq wy) (by rw[k1];exact aJ.own (.head _)) aa aa) (fb ?_);rw[<-eN,<-e2];refine ew ?_;refine ai rfl (Xj (s:=Wb b) (Kz wy) (by rw[k2];exact aJ.own (.head _)) aa aa) (fc ?_);refine dq (λzf zL=>Sub zf [(0,.slice A (E b) c),(7,bq g15),(8,ah (x:Int)),(9,ah (wq b:Int)),(10,ah (oO b:Int))]/\Wk zL (Rv g15 qh tX (qZ b):: .own 5 1 qh (E b) tX (bv b)::F)) ?_ ?_
  ·refine aX ?_;rw[<-eP];refine fc ?_;refine ab (eo rfl rfl (r:=((1032*oO b:Nat):Int)) ((bj aa aa).trans aa)) rfl (ab (bF rfl rfl (r:=((1032*oO b+64:Nat):Int)) ((bj aa aa).trans aa)) rfl (ag 3 (λAU=>?_) λAU=>?_))
   ·refine ew ?_;refine ai rfl (PN 6) (aX ?_);exact bo ⟨a_,X3 (by unfold qZ;rw[av aa]) (.refl _)⟩
   ·refine aX ?_;exact bo ⟨a_,X3 (by unfold qZ;rw[aB aa]) (.refl _)⟩
  ·rintro _ _ ⟨hs,hp⟩;refine aL hs hp (bK 13 ?_);refine ay rfl (FF (g:=g15) (s:=qZ b) (m:=oO b) (xi wy) (by rw[k3];exact aJ.own (.head _)) aa aa) λA40 c40=>fc ?_;rw[<-x9];refine ew ?_;refine ay rfl (FF (g:=g15) (s:=s4) (m:=4) o4' (by rw[k4'];exact aJ.own (.tail _ (.head _))) aa aa) λA42 c42=>fb ?_;rw[<-e4];refine ag 8 (λxk=>?_) λxk=>?_
   ·have h5:sj b=G2 b:=by unfold sj;rw[av xk]
    refine fF ?_;refine lD [(2,_),(3,_),(4,_),(5,_),(6,_)] ⟨rfl,rfl,rfl,rfl,rfl,trivial⟩ ?_;refine fc ?_;refine ak (L':=F) (.s4 (.refl _)) (afk rfl rfl rfl rfl rfl rfl ?_);exact⟨_,_,_,_,_,rfl,rfl,λh=>absurd (h5▸h) xk,λh=>absurd h xk⟩
   ·have h5:sj b=(G2 b).failed (aT (b.take (G2 b).at_)).2:=by unfold sj;rw[aB xk]
    have h6:(sj b).e=(aT (b.take (G2 b).at_)).2:=by rw[h5];unfold Cs.failed;rw[av (gE.1 xk)]
    obtain⟨m,hm⟩:=cM ((G2 b).at_);rw[<-hm]at h6 o4a;have vM:=hb.h_ (k:=m) aa;rw[jK,cH]at vM;refine dA ?_;refine ab (bQ (i:=m) (size:=1) underlying27 ae rfl rfl aa aa) rfl (ay rfl (ao8 (l:=b.take m) jA vM.cons.cons.cons.cons jA) λv59 Y59=>aD 5 [8,9,10,11,13] 3 ?_);refine mM (ej Y59 _) (ag 5 (λxZ=>?_) λxZ=>?_)
    ·refine dM ?_;refine ak (L':=F) (.s4 (.refl _)) (afk rfl rfl rfl rfl rfl rfl ?_);exact⟨_,_,_,_,_,rfl,rfl,λh=>absurd (h6▸h) xZ,λh=>absurd h xZ⟩
    ·refine bK 16 ?_;refine ak (L':=F) (.s4 (.refl _)) (afk rfl rfl rfl rfl rfl rfl ?_);exact⟨_,_,_,_,_,rfl,rfl,λh=>rfl,λh=>⟨by rw[h6];exact gE.1 xZ,by rw[S5],rfl,rfl,rfl⟩⟩
theorem aij(ey:E b<=1099511627776)(h:(sj b).e=0):(qZ b).at_+oO b<=E b/\zW b=(b.drop (qZ b).at_).take (oO b):=by
 have h4:(G2 b).e=0:=b_ λq=>by
  unfold sj at h;rw[av q]at h;exact q h
 have x9:((qZ b).bR (oO b)).e=0:=b_ λq=>by
  have e:G2 b=(qZ b).bR (oO b):=by
   show((qZ b).bR (oO b)).bR 4=_;unfold Cs.bR Cs.d_;unfold Cs.bR Cs.d_ at q;rw[av q]
  rw[e]at h4;exact q h4
 have h3:(qZ b).e=0:=b_ λq=>by
  unfold Cs.bR Cs.d_ at x9;rw[av q]at x9;exact q x9
 have ht:fC (qZ b).rest (oO b)=0:=b_ λq=>by
  unfold Cs.bR Cs.d_ at x9;rw[aB (λk=>k h3),av q]at x9;exact q x9
 have rr:=((xi ey).bR (n:=(oO b:Int))).at_;have eb:((qZ b).bR (oO b)).b=b:=(Cs.cO _ _ _).trans (IS b);rw[eb]at rr;unfold Cs.bR Cs.d_ at rr;rw[aB (λk=>k h3),aB (λk=>k ht)]at rr;simp only[lJ]at rr;refine⟨rr,?_⟩;unfold zW Cs.take;rw[aB (λk=>k h3),aB (λk=>k ht),lJ];unfold Cs.rest;rw[IS]
theorem ag5(hb:gw B w0 F A c b)(ey:E b<=1000000):
  bg B w0 23 [.slice A (E b) c] F (λr L=>∃(v:Value) (m e:Int) (X:aN),r= .tuple #[v,ah m,ah e]/\L=X++F/\((du b).2.2=0->e=0)):=by
 have hN:((wq b:Nat):Int)<=32768:=Cs.fI _ aa aa;have hP:((oO b:Nat):Int)<=32768:=Cs.fI _ aa aa;have hbk:(du b).2.2=0->(sj b).e=0/\(G3 b).2=0:=λh=>by
  unfold du at h;by_cases q:(sj b).e≠0
  ·rw[av q]at h;exact absurd h q
  ·rw[aB q]at h;by_cases q2:(G3 b).2≠0
   ·rw[av q2]at h;exact absurd h q2
   ·exact⟨gE.1 q,gE.1 q2⟩
 refine dQ.yk hb λoP _=>?_;refine ba func23 69 [0] 10 ?_;refine bp atJ rfl (akG hb ey) rfl ?_;rintro _ _ ⟨w,nn,p,a,e,rfl,cR,hh1,hh2⟩;obtain rfl:=cR.symm;refine ag 20 (λrq=>?_) λrq=>?_
 ·have rz:(du b).2.2=0->False:=λh=>rq (hh1 (hbk h).1);refine aD 6 [2,3,4] 3 ?_;first|refine ak (L':=F) (.s3 (.refl _)) ?_ |refine ak (L':=F) (.trans (ej _ _) (.skip (.refl _))) ?_ |refine ak (L':=F) (.skip (.refl _)) ?_ |skip
  refine aX ?_;exact⟨_,_,_,[],rfl,rfl,λh=>(rz h).elim⟩
 ·obtain⟨h5,rfl,rfl,rfl,rfl⟩:=hh2 (gE.1 rq);obtain⟨rr,hB⟩:=aij (b:=b) aa h5;obtain⟨x,hx⟩:=cM ((Cs.byte ⟨b,0,0⟩).toNat);have hY:G3 b=IT x (wq b) (oO b) (zW b):=by rw[hx];rfl
  have hlB:E (zW b)=(qZ b).at_+oO b-(qZ b).at_:=by rw[hB,fZ,jM];omega
  have hbp:=hb.part (i:=(qZ b).at_) (j:=oO b) rr;rw[<-hB]at hbp;rw[<-hx];refine fb ?_;refine cv (fA bP) λGJ=>fb ?_;refine ab (bF rfl rfl (r:=(((qZ b).at_+oO b:Nat):Int)) ((bj aa aa).trans aa)) rfl (ab (fR (i:=(qZ b).at_) (j:=(qZ b).at_+oO b) (size:=1) underlying27 ae rfl rfl rfl rfl rfl aa aa) rfl (dB (bB bP rfl aU rfl hbp.cons (uk _) aa aa) λRq c31=>?_));rw[mH,mh,<-hlB];refine aD 1 [5,6,7,8,10] 0 ?_;refine ag 8 (λCd=>?_) λCd=>?_
  ·refine ag 8 (λCf=>?_) λCf=>?_
   ·have rz:(du b).2.2=0->False:=λh=>by
     have:=(hbk h).2;rw[hY]at this;unfold IT at this;rw[av aa,av aa]at this;exact absurd this aE
    refine dh ?_;first|refine ak (L':=F) (.s3 (.refl _)) ?_ |refine ak (L':=F) (.trans (ej _ _) (.skip (.refl _))) ?_ |refine ak (L':=F) (.skip (.refl _)) ?_ |skip
    refine aX ?_;exact⟨_,_,_,[],rfl,rfl,λh=>(rz h).elim⟩
   ·refine bK 16 ?_;first|refine ak (L':=F) (.s3 (.refl _)) ?_ |refine ak (L':=F) (.trans (ej _ _) (.skip (.refl _))) ?_ |refine ak (L':=F) (.skip (.refl _)) ?_ |skip
    refine aX ?_;exact⟨_,_,_,[],rfl,rfl,λ_=>rfl⟩
  ·refine dw ?_;refine bp atK rfl (akO (b:=zW b) (most:=(wq b:Int)) (aJ.own (.head _)) aa aa) rfl ?_;rintro _ _ ⟨Ml,Nb,e2,T,X45,rfl,cR,xn,zY⟩;obtain rfl:=cR.symm;refine dA ?_;have Ox:(du b).2.2=0->(eh (zW b) (wq b)).2=0/\¬(gP (eh (zW b) (wq b)).1 (wq b)).2≠0/\¬E (gP (eh (zW b) (wq b)).1 (wq b)).1<wq b:=λh=>by
    have:=(hbk h).2;rw[hY]at this;unfold IT at this;rw[aB aa]at this;by_cases q1:(eh (zW b) (wq b)).2≠0
    ·rw[av q1]at this;exact absurd this q1
    ·rw[aB q1]at this;by_cases q2:(gP (eh (zW b) (wq b)).1 (wq b)).2≠0
     ·rw[av q2]at this;exact absurd this q2
     ·rw[aB q2]at this;by_cases q3:E (gP (eh (zW b) (wq b)).1 (wq b)).1<wq b
      ·rw[av q3]at this;exact absurd this aE
      ·exact⟨gE.1 q1,q2,q3⟩
   refine ag 5 (λOd=>?_) λOd=>?_
   ·have rz:(du b).2.2=0->False:=λh=>Od (zY (Ox h).1).1;refine aD 6 [2,3,4] 3 ?_;first|refine ak (L':=F) (.s3 (.refl _)) ?_ |refine ak (L':=F) (.trans (ej _ _) (.skip (.refl _))) ?_ |refine ak (L':=F) (.skip (.refl _)) ?_ |skip
    refine aX ?_;exact⟨_,_,_,[],rfl,rfl,λh=>(rz h).elim⟩
   ·obtain⟨rfl,qb,hTl⟩:=xn (gE.1 Od);have hTe:(du b).2.2=0->T=(eh (zW b) (wq b)).1:=λh=>(zY (Ox h).1).2;refine fc ?_;rw[List.singleton_append];refine fc ?_;refine ay rfl (akK (l:=T) (most:=(wq b:Int)) (aJ.own (.head _)) hTl aa aa qb) λA54 c54=>aD 5 [6,7,8,9,12] 0 ?_;refine ag 8 (λh58=>?_) λh58=>?_
    ·have rz:(du b).2.2=0->False:=λh=>(Ox h).2.1 (by rw[<-hTe h];exact h58);refine dh ?_;first|refine ak (L':=F) (.s3 (.refl _)) ?_ |refine ak (L':=F) (.trans (ej _ _) (.skip (.refl _))) ?_ |refine ak (L':=F) (.skip (.refl _)) ?_ |skip
     refine aX ?_;exact⟨_,_,_,[],rfl,rfl,λh=>(rz h).elim⟩
    ·refine ag 11 (λxZ=>?_) λxZ=>?_
     ·have rz:(du b).2.2=0->False:=λh=>(Ox h).2.2 (by rw[<-hTe h];omega);refine dA ?_;first|refine ak (L':=F) (.s3 (.refl _)) ?_ |refine ak (L':=F) (.trans (ej _ _) (.skip (.refl _))) ?_ |refine ak (L':=F) (.skip (.refl _)) ?_ |skip
      refine aX ?_;exact⟨_,_,_,[],rfl,rfl,λh=>(rz h).elim⟩
     ·refine bK 15 ?_;first|refine ak (L':=F) (.s3 (.refl _)) ?_ |refine ak (L':=F) (.trans (ej _ _) (.skip (.refl _))) ?_ |refine ak (L':=F) (.skip (.refl _)) ?_ |skip
      refine aX ?_;exact⟨_,_,_,[],rfl,rfl,λ_=>rfl⟩
section
section
variable{P:Program}{w:World}{t:TypeId}
theorem YC{α β:Type}{f0 f1:Field}{F0:α->Value}{F1:β->Value}{O0:α->Prop}{O1:β->Prop}(ht:P.underlying t=some (.struct #[f0,f1]))(hc:P.cellsOf t=2)(h0:f0.offset=0/\P.cellsOf f0.type=1)(h1:f1.offset=1/\P.cellsOf f1.type=1)(d0:lE P w f0.type (λx=>[F0 x]) O0)(d1:lE P w f1.type (λx=>[F1 x]) O1):
  lE P w t (λx:α×β=>[F0 x.1,F1 x.2]) (λx=>O0 x.1/\O1 x.2):=by
 intro H enc n cs y h;obtain⟨xs,n',_,_,hl,hx,hf⟩:=DataW.trod_struct ht h;rw[hc]at hl;obtain⟨c0,c1,rfl⟩:∃c0 c1,cs=[c0,c1]:=by
  match cs,hl with
  |[c0,c1],_=>exact⟨c0,c1,rfl⟩
 obtain⟨y0,y1,rfl⟩:∃y0 y1,xs=[y0,y1]:=by
  match xs,hx with
  |[y0,y1],_=>exact⟨y0,y1,rfl⟩
 have g0:=hf 0 f0 rfl;have g1:=hf 1 f1 rfl;rw[h0.1,h0.2]at g0;rw[h1.1,h1.2]at g1;obtain⟨a,ea,oa⟩:=d0 H enc _ _ _ g0;obtain⟨b,eb,ob⟩:=d1 H enc _ _ _ g1;simp at ea eb;exact⟨(a,b),by simp[ea,eb],oa,ob⟩
end
abbrev mT:=Nat×UInt8
def mT.cells(x:mT):cQ:=[.int .u16 (x.1:Int),.int .u8 (x.2.toNat:Int)]
def mT.ok(x:mT):Prop:=x.1<65536/\True
theorem acx(w:World):lE Tryz.prog w 59 mT.cells mT.ok:=
 YC underlying59 ae ⟨rfl,ae⟩ ⟨rfl,ae⟩ (ah1 underlying57) (acy underlying5)
def turns(L:List mT):cQ:=L.flatMap mT.cells
def vn(L:List mT)(k:Nat):mT:=L.getD k (0,0)
theorem QI{L:List mT}{k:Nat}(hk:k<E L){j:Nat}(hj:j<2):(turns L)[k*2+j]? =(mT.cells (vn L k))[j]? :=by
 rw[turns,qm (size:=2) (λ_=>rfl) L k j hj,vn,bz,fx hk];rfl
theorem aaX{L:List mT}(h:∀x∈L,mT.ok x){k:Nat}(hk:k<E L):(vn L k).1<65536:=by
 refine(h _ ?_).1;rw[vn,bz,fx hk];exact uH hk
end
theorem HQ(h:P:=by(exact dG (by omega))):P:=h
theorem tf(h:P:=by(exact dT (by omega))):P:=h
theorem U6(h:P:=by(exact dS (by omega))):P:=h
theorem vP{v:Int}{o:aZ}{e:Int}(h1:¬(v=1\/v=2\/v=3)->e=4)(h2:(v=1\/v=2\/v=3)->ju v o->e=0)(h3:(v=1\/v=2\/v=3)->¬ju v o->e=9):e=dF v o:=by
 unfold dF;split
 ·rename_i h;split
  ·rename_i k;exact h2 h k
  ·rename_i k;exact h3 h k
 ·rename_i h;exact h1 h
theorem TZ(v:Int)(o:aZ):bg B w0 12 [ah v,.agg (aZ.cells o).toArray] F (λr L=>r=ah (dF v o)/\L=F):=by
 obtain⟨bl,pl,bu,da,pa,ch⟩:=o;refine cV func12 92 rfl rfl rfl [(0,ah v),(1,.agg #[ah bl,.bool pl,ah bu,ah da,ah pa,ah ch])] ⟨⟨rfl,rfl⟩,⟨rfl,rfl⟩,trivial⟩ ?_;refine bM 2 λg3=>?_;refine bf 6 6 10 [0,3] (¬(v=1\/v=2\/v=3)) ?_ ?_
 ·refine bk 3 (λh7=>?_) (λh7=>?_)
  ·exact ax 4 (k:=HQ)
  ·exact ax 2 (k:=tf)
 ·refine ag 2 (λig=>?_) λig=>?_
  ·refine dg ?_;refine ak (.skip (.refl _)) (aX ?_);refine⟨eG (Value.int .i64) (vP (λ_=>?_) (λ_ hm=>?_) (λ_ hm=>?_)),rfl⟩<;>first|omega|(simp only[ju,LN,GI]at hm;omega)
  ·refine bf 5 8 18 [0,3] (¬(16<=bl/\bl<=32768)) ?_ ?_
   ·refine bk 4 (λgT=>?_) (λgT=>?_)
    ·exact ax 6 (k:=HQ)
    ·exact ax 3 (k:=tf)
   ·refine ag 2 (λjq=>?_) λjq=>?_
    ·refine dg ?_;refine ak (.skip (.refl _)) (aX ?_);refine⟨eG (Value.int .i64) (vP (λ_=>?_) (λ_ hm=>?_) (λ_ hm=>?_)),rfl⟩<;>first|omega|(simp only[ju,LN,GI]at hm;omega)
    ·refine bf 5 21 39 [0,3] (¬((v=1->bu=0)/\(1<v->1<=bu/\bu<=64))) ?_ ?_
     ·refine bC 3 (λmQ=>?_) λmQ=>?_
      ·refine bk 7 (λq7=>?_) (λq7=>?_)
       ·refine bC 5 (λqN=>?_) λqN=>?_
        ·refine bk 7 (λCd=>?_) (λCd=>?_)
         ·exact ax 10 (k:=HQ)
         ·exact ax 7 (k:=tf)
        ·exact ax 10 (k:=U6)
       ·exact ax 12 (k:=tf)
      ·refine bC 10 (λqN=>?_) λqN=>?_
       ·refine bk 7 (λCd=>?_) (λCd=>?_)
        ·exact ax 10 (k:=HQ)
        ·exact ax 7 (k:=tf)
       ·exact ax 10 (k:=U6)
     ·refine ag 2 (λQ_=>?_) λQ_=>?_
      ·refine dg ?_;refine ak (.skip (.refl _)) (aX ?_);refine⟨eG (Value.int .i64) (vP (λ_=>?_) (λ_ hm=>?_) (λ_ hm=>?_)),rfl⟩<;>first|omega|(simp only[ju,LN,GI]at hm;omega)
      ·refine bf 5 17 56 [0,3] (v<3/\¬(da=0/\pa=0/\ch=0)) ?_ ?_
       ·refine bC 3 (λh42=>?_) λh42=>?_
        ·refine bk 7 (λSx=>?_) (λSx=>?_)
         ·refine bk 9 (λOf=>?_) (λOf=>?_)
          ·exact ax 8 (k:=HQ)
          ·exact ax 5 (k:=tf)
         ·exact ax 12 (k:=tf)
        ·exact ax 13 (k:=U6)
       ·refine ag 2 (λGD=>?_) λGD=>?_
        ·refine dg ?_;refine ak (.skip (.refl _)) (aX ?_);refine⟨eG (Value.int .i64) (vP (λ_=>?_) (λ_ hm=>?_) (λ_ hm=>?_)),rfl⟩<;>first|omega|(simp only[ju,LN,GI]at hm;omega)
        ·refine bf 5 35 91 [] (v=3/\¬(1<=da/\da<=255/\0<=pa/\pa<=255-da/\1<=ch/\ch<=4096)) ?_ ?_
         ·refine bC 3 (λh59=>?_) λh59=>?_
          ·refine bk 7 (λxZ=>?_) (λxZ=>?_)
           ·refine bk 9 (λh68=>?_) (λh68=>?_)
            ·refine bk 9 (λh73=>?_) (λh73=>?_)
             ·refine bk 15 (λh81=>?_) (λh81=>?_)
              ·refine bk 9 (λh86=>?_) (λh86=>?_)
               ·exact ax 8 (k:=HQ)
               ·exact ax 5 (k:=tf)
              ·exact ax 12 (k:=tf)
             ·exact ax 22 (k:=tf)
            ·exact ax 29 (k:=tf)
           ·exact ax 36 (k:=tf)
          ·exact ax 31 (k:=U6)
         ·refine ag 2 (λh91=>?_) λh91=>?_
          ·refine dg ?_;refine ak (.skip (.refl _)) (aX ?_);refine⟨eG (Value.int .i64) (vP (λ_=>?_) (λ_ hm=>?_) (λ_ hm=>?_)),rfl⟩<;>first|omega|(simp only[ju,LN,GI]at hm;omega)
          ·refine cY ?_;refine ak (.skip (.refl _)) (aX ?_);refine⟨eG (Value.int .i64) (vP (λ_=>?_) (λ_ hm=>?_) (λ_ hm=>?_)),rfl⟩<;>first|omega|(simp only[ju,LN,GI]at hm;omega)
theorem Z5(o:aZ)(L:List aI):marked (Bu o L)=(1,0):=by
 have:=nN (v:=1) HX ((aW o.1.toNat++(gj o.2.1::(aW (E L)++aW (E (dc o true L)))))++((iV true o.2.1 (dc o true L) L).flatten++kz (mw 0 (tU o L++(iV true o.2.1 (dc o true L) L).flatten))));rw[<-this];congr 1;unfold Bu b7;show _=(eK++[1])++_;unfold tU;simp[bT]
theorem aaN(o:aZ)(b:aq):marked (Hy o b)=(3,0):=by
 have:=nN (v:=3) HX ((([gj o.2.1,UInt8.ofNat o.2.2.1.toNat,UInt8.ofNat o.2.2.2.1.toNat,UInt8.ofNat o.2.2.2.2.1.toNat]++(fT o.2.2.2.2.2.toNat 2++(fT o.1.toNat 2++fT (E b) 4)))++kz (mw 0 (w4 o (E b))))++((jO o b).1++jg o (E b)));rw[<-this];congr 1
def nY:List aI:=[(5,1,[100,98],[100,105,115,107,32,102,117,108,108]),(3,0,[],[100,105,115,107,32,111,107])]
def te(k:Nat):aZ:=if k=0 then (64,false,0,0,0,0) else if k=1 then (64,false,2,0,0,0) else (64,false,2,2,1,16)
def alR:cQ:=aZ.cells (te 0)++(aZ.cells (te 1)++aZ.cells (te 2))
theorem gx:qG nY:=⟨aE,aE,by unfold nY;intro r hr;simp at hr;rcases hr with rfl|rfl<;>decide⟩
theorem Ru{k:Nat}(hk:k<3):dF ((k+1:Nat):Int) (te k)=0:=by
 have:k=0\/k=1\/k=2:=by omega
 rcases this with rfl|rfl|rfl<;>decide
def ahd(v:Int)(o:aZ)(B:Nat)(w0:World):Prop:=∃b nb,re v o nY=(b,0)/\∀F A c,aJ B w0 F 1 (.slice A (E b) c) (E b) (bv b)->bg B w0 17 [.slice A (E b) c] F (λr L=>r= .tuple #[.agg (MI.cells (v,2,nb,0,true)).toArray,ah 0]/\L=F)
theorem atu(HT:cK B w0):ahd 1 (te 0) B w0:=by
 have ho:dF 1 (te 0)=0:=Ru (k:=0) aa;have hc:=gx.Ii;have hl:=ZP gx ho;have hP:re 1 (te 0) nY=(Bu (te 0) nY,0):=by
  show xF (te 0) nY=_;unfold xF;rw[ho,aB ao,hc,aB ao]
 refine⟨_,E (dc (te 0) true nY),hP,λF A c hb=>Av HT (.inl rfl) gx.t hP (λF A c hb=>abG (Uz aa (Z5 _ _) (.inl rfl)) (λF A c hb=>?_) hb) hb⟩;have:=Px (F:=F) HT hb aa
 rwa [aeN ho hc gx.t]at this
theorem atv(HT:cK B w0):ahd 2 (te 1) B w0:=by
 have ho:dF 2 (te 1)=0:=Ru (k:=1) aa;have hc:=gx.Ii;have hl:=Jd gx ho;have hw:=(DW hc).1;have ey:E (gJ (te 1) nY)<=8388608:=by unfold Hz at hl;rw[bm]at hl;omega
 have hP:re 2 (te 1) nY=(Hz (te 1) nY,0):=by
  show xT (te 1) nY=_;unfold xT gL;rw[(qz ho).2,ho,aB ao,hc,aB ao]
 obtain⟨x,h1,_,h2⟩:=Ib (o:=te 1) (by rw[(qz ho).2];exact ho) hc gx.t hw ey;exact⟨_,E x.ns,hP,λF A c hb=>Av HT (.inr (.inl rfl)) gx.t hP (λF A c hb=>abH (Uz aa (Gi _ _) (.inr rfl)) (λF A c hb=>QL HT hb aa (show vp (Hz (te 1) nY)=_ from XU ho h1) h2) hb) hb⟩
theorem atw(HT:cK B w0):ahd 3 (te 2) B w0:=by
 have ho:dF 3 (te 2)=0:=Ru (k:=2) aa;have hc:=gx.Ii;obtain⟨l1,l2,l3⟩:=Pe gx ho (by unfold afK;decide);have hw:=(DW hc).1;have yM:gL (te 2) nY=(gJ (te 2) nY,0):=by unfold gL;rw[(nt ho).2,aB ao,hc,aB ao]
 have hP:re 3 (te 2) nY=(Hy (te 2) (gJ (te 2) nY),0):=by
  show wE (te 2) nY=_;exact agk ho (by rw[yM];simp) (λk=>k l2)
 obtain⟨x,h1,_,h2⟩:=Ib (o:=te 2) (nt ho).2 hc gx.t hw aa;have h3:JZ (te 2) (gJ (te 2) nY) (Hy (te 2) (gJ (te 2) nY)):=⟨ho,l2,rfl,aa,aa⟩
 exact⟨_,E x.ns,hP,λF A c hb=>Av HT (.inr (.inr rfl)) gx.t hP (λF A c hb=>abI (atb HT h3 (aaN _ _)) (λF A c hb=>Uu HT h3 h1 h2 hb) hb) hb⟩
theorem ahk(HT:cK B w0){k:Nat}(hk:k<3):ahd ((k+1:Nat):Int) (te k) B w0:=by
 have:k=0\/k=1\/k=2:=by omega
 rcases this with rfl|rfl|rfl
 ·exact atu HT
 ·exact atv HT
 ·exact atw HT
theorem aml{k:Nat}(hk:k<3):∀q u,(aZ.cells (te k))[q]? =some u->alR[k*6+q]? =some u:=λq u h=>by
 have hq:q<6:=by
  have:=Hi.1 h;obtain⟨h1,_⟩:=this;exact h1
 have:k=0\/k=1\/k=2:=by omega
 have h6:q=0\/q=1\/q=2\/q=3\/q=4\/q=5:=by omega
 rcases this with rfl|rfl|rfl<;>rcases h6 with rfl|rfl|rfl|rfl|rfl|rfl<;>exact h
theorem abD(HT:cK B w0):bg B w0 8 [] F (λr L=>r= .bool true/\L=F):=by
 refine ba func8 57 [] 7 ?_;refine ab (eJ [(0,_),(1,_),(2,_),(3,_)] [_,_,_,_] rfl rfl ae) rfl (ab (bw [(0,_),(3,_)] [.int .u64 0,.int .u8 0,.string ⟨#[]⟩,.string ⟨#[]⟩] [0,3] [_,_,_,_] rfl rfl ae) rfl (cv (my (size:=4) (kk:=2) (parts:=[(0,.tmp 8),(1,.tmp 9)]) (us:=[(0,.agg (aI.cells (recAt nY 0)).toArray),(1,.agg (aI.cells (recAt nY 1)).toArray)]) (cs:=cD nY) (JE).ht ae aE aE aE (zv:=(.agg #[.int .u64 0,.int .u8 0,.string ByteArray.empty,.string ByteArray.empty])) ae rfl ae rfl) λz'=>dx ?_));refine ab (bw [(0,_)] [ah 0,.bool false,ah 0,ah 0,ah 0,ah 0] [0] [_,_,_,_,_,_] rfl rfl ae) rfl (ab (bw [(0,_),(2,_)] [ah 0,.bool false,ah 0,ah 0,ah 0,ah 0] [0,2] [_,_,_,_,_,_] rfl rfl ae) rfl (ab (bw [(0,_),(2,_),(3,_),(4,_),(5,_)] [ah 0,.bool false,ah 0,ah 0,ah 0,ah 0] [0,2,3,4,5] [_,_,_,_,_,_] rfl rfl ae) rfl (cv (my (size:=6) (kk:=3) (parts:=[(0,.tmp 11),(1,.tmp 12),(2,.tmp 13)]) (us:=[(0,.agg (aZ.cells (te 0)).toArray),(1,.agg (aZ.cells (te 1)).toArray),(2,.agg (aZ.cells (te 2)).toArray)]) (cs:=alR) (asW).ht ae aE aE aE (zv:=(.agg #[ah 0,.bool false,ah 0,ah 0,ah 0,ah 0])) ae rfl ae rfl) λA14=>dh ?_)));refine aw (λzf zL zm=>∃(k:Nat),(k<=3)/\3-k=zm/\Sub zf [(1,.slice z' 2 2),(2,.slice A14 3 3),(3,ah ((k+1:Nat):Int))]/\Wk zL (.own 23 6 A14 3 3 alR:: .own 62 4 z' 2 2 (cD nY)::F)) _ ⟨0,bD _,rfl,a_,.refl _⟩ ?_;rintro _ _ _ ⟨k,hk,rfl,hs,hp⟩;refine aL hs hp (ag 7 (λj0=>?_) λj0=>?_)
 ·obtain⟨b,nb,hP,avk⟩:=ahk HT (k:=k) aa;have vN:=λM (hb:aJ B w0 M 4 (.slice z' 2 2) 2 (cD nY))=>w9 (F:=M) (L:=nY) (v:=((k+1:Nat):Int)) (o:=te k) HT aa gx.t hb;simp only[hP]at vN;have pG:=Xn (((k+1:Nat):Int),2,nb,0,true);refine dA ?_;refine ab (cU rfl rfl (r:=((k:Nat):Int)) ((bj aa aa).trans aa)) rfl (ab (az (i:=k) (size:=6) underlying63 ae rfl rfl rfl aa aA) rfl ?_);refine ab (bU 6 ae rfl aA aa (aZ.cells (te k)) (aml aa) rfl) rfl (aX ?_);refine ay rfl (vN _ (aJ.own (.tail _ (.head _)))) λQ1 Yi=>dh ?_;refine ai rfl (avk _ _ _ (aJ.own (.head _))) (bW 3 λg6=>?_);refine aD 2 [1,2,3,5,6,7] 0 ?_;refine bk 6 (λCS=>?_) (λCS=>?_)
  ·refine bk 5 (λtZ=>?_) (λtZ=>?_)
   ·refine fb ?_;refine ab (lf rfl) rfl (ew ?_);refine lS rfl rfl rfl (λSx=>?_) (λSx=>?_)
    ·refine bk 9 (λh52=>?_) (λh52=>?_)
     ·refine aD 6 [1,2,3,56] 0 ?_;refine ag 1 (λGD=>?_) λGD=>?_
      ·exfalso;exact GD rfl
      ·refine cY ?_;refine aj ⟨_,aa,k+1,aa,rfl,a_,.s2 (.refl _)⟩
     ·exfalso;exact h52 rfl
    ·exfalso;simp at Sx
   ·exfalso;exact tZ rfl
  ·exfalso;exact CS rfl
 ·refine fF ?_;exact ak (.s2 (.refl _)) (cm 1)
@[simp] theorem aI.ahN(x:aI):E x.cells=4:=rfl
theorem T6(x y:aI)(w:World):(Op.equalIn 10000 62 (.agg (aI.cells x).toArray) (.agg (aI.cells y).toArray)).run Tryz.prog w= .ok (decide (x=y)) w:=by
 have p0:=λ(z:aI) w=>iz (P:=Tryz.prog) (t:=60) (xs:=(aI.cells z).toArray) (off:=0) (v:=.int .u64 z.1) ae rfl w;have p1:=λ(z:aI) w=>iz (P:=Tryz.prog) (t:=5) (xs:=(aI.cells z).toArray) (off:=1) (v:=.int .u8 z.2.1.toNat) ae rfl w;have p2:=λ(z:aI) w=>iz (P:=Tryz.prog) (t:=9) (xs:=(aI.cells z).toArray) (off:=2) (v:=.string ⟨z.2.2.1.toArray⟩) ae rfl w;have p3:=λ(z:aI) w=>iz (P:=Tryz.prog) (t:=9) (xs:=(aI.cells z).toArray) (off:=3) (v:=.string ⟨z.2.2.2.toArray⟩) ae rfl w;have q0:=λ(a b:Int) w=>run_equalIn_int (P:=Tryz.prog) w 9998 60 .u64 .u64 a b underlying60;have q1:=λ(a b:Int) w=>run_equalIn_int (P:=Tryz.prog) w 9998 5 .u8 .u8 a b underlying5;have q2:=λ(a b:ByteArray) w=>run_equalIn_string (P:=Tryz.prog) w 9998 9 a b underlying9;rw[run_equalIn_agg w 9999 _ _ _ ae ae];simp only[Program.fieldsOf,underlying62];simp[Op.eqFields,p0,p1,p2,p3];rw[q0];obtain⟨a,b,s,t⟩:=x;obtain⟨a',b',s',t'⟩:=y;by_cases h0:a=a'
 ·have e0:((a:Int)==a')=true:=by simp[h0]
  simp only[e0,xx];rw[q1];by_cases h1:b=b'
  ·have e1:((b.toNat:Int)==b'.toNat)=true:=by simp[h1]
   simp only[e1,xx];rw[q2,Na];by_cases h2:s=s'
   ·simp only[pK h2,xx];rw[q2,Na];by_cases h3:t=t'
    ·simp[h0,h1,h2,h3]
    ·simp[h0,h1,h2,h3]
   ·simp[h2]
  ·have:¬(b.toNat:Int)=b'.toNat:=λh=>h1 (oF.1 aa);have h':((b.toNat:Int)==b'.toNat)=false:=by simpa using this
   simp[h1,h']
 ·have h':((a:Int)==a')=false:=by rw[ma];omega
  simp[h0,h']
theorem Nv{C:Cx}{fr:Fr}{x y:Operand}{ty yt:TypeId}{p q:aI}(hP:C.P=Tryz.prog)(h1:ev fr x=some (.agg (aI.cells p).toArray))(h2:ev fr y=some (.agg (aI.cells q).toArray)):gX C fr L (.binOp .neq 62 x y yt) ty (.bool (decide (¬p=q))):=λa w ha hw d pos af g=>by
 have he:(eqGuard .neq 62 x y (.agg (aI.cells p).toArray) (.agg (aI.cells q).toArray)).run C.P w= .ok () w:=by rw[hP];exact run_eqGuard_agg w .neq _ x y _ _ ae
 have e1:(binOp .neq 62 (.agg (aI.cells p).toArray) (.agg (aI.cells q).toArray)).run C.P w= .ok (.bool (decide (¬p=q))) w:=by
  rw[hP,run_neq_struct,T6];simp
 simp only[execOp,ha.tmp h1,ha.tmp h2,Te,he,e1,xx,OT]
theorem afA{l l2:List aI}(h1:aJ B w0 F 4 (.slice A (E l) c) (E l) (cD l))(h2:aJ B w0 F 4 (.slice A2 (E l2) c2) (E l2) (cD l2))(hl:E l<=1000000000):
  bg B w0 15 [.slice A (E l) c,.slice A2 (E l2) c2] F (λr L=>r= .bool (decide (l=l2))/\L=F):=by
 refine fw func15 26 [0,1] ?_;refine ag 15 (λig=>?_) λig=>?_
 ·refine cY ?_;exact⟨amu,rfl⟩
 ·refine dA ?_;refine aw (λzf zL zm=>∃(k:Nat),(k<=E l/\l.take k=l2.take k)/\E l-k=zm/\Sub zf [(0,.slice A (E l) c),(1,.slice A2 (E l2) c2),(5,ah k)]/\Wk zL (F)) _ ⟨0,⟨bD _,rfl⟩,rfl,a_,.refl _⟩ ?_;rintro _ _ _ ⟨k,⟨hk,heq⟩,rfl,hs,hp⟩;refine aL hs hp (ag 9 (λgT=>?_) λgT=>?_)
  ·have pG:=oR (recAt l k);refine dA ?_;refine bJ (bU 4 ae rfl aA aa (aI.cells (recAt l k)) (iS aa) rfl) rfl (fc ?_);refine bJ (bU 4 ae rfl aA aa (aI.cells (recAt l2 k)) (iS aa) rfl) rfl ?_;refine bJ (Nv rfl rfl rfl) rfl (ag 2 (λqn=>?_) λqn=>?_)
   ·refine dM ?_;exact⟨by rw[oi (λh=>by rw[h]at qn;exact qn rfl)],rfl⟩
   ·refine cY ?_;refine aj ⟨_,aa,k+1,⟨aa,by rw[aP aa (0,0,[],[]),aP aa (0,0,[],[]),heq];exact eG (λz=>l2.take k++[z]) (gE.1 qn)⟩,rfl,a_,.refl _⟩
  ·refine dM ?_;have e:l=l2:=by
    have:=heq
    rwa [gv aa,gv aa]at this
   exact⟨by rw[pK e],rfl⟩
section
set_option maxHeartbeats 2000000
theorem b_8(h:P:=by(first|rfl|exact dT (by first|omega|(simp;omega))|exact dS (by first|omega|(simp;omega))|exact dG (by first|omega|(simp;omega))|exact oW (by first|omega|(simp;omega)))):P:=h
theorem amE{l:aq}{a m:Nat}(h:a+m<=E l)(hb:gw B w0 F A c l):aJ B w0 F 1 (.slice (if c=a then A else A.map (·.add (a*1))) (a+m-a) (c-a)) (a+m-a) (bv ((l.drop a).take m)):=by
 have hcut:=(hb.h_ (k:=a+m) h).cut (k:=a) aa;have e:(l.take (a+m)).drop a=(l.drop a).take m:=by rw[Hk];congr 1;omega
 rw[cH,jK,cH,jJ,e]at hcut;rw[cH];exact hcut
theorem ajN{L:List aI}{a k:Nat}(hk:a+k<=E L)(hb:aJ B w0 F 4 (.slice A (E L) c) (E L) (cD L)):aJ B w0 F 4 (.slice (if c=a then A else A.map (·.add (a*4))) (a+k-a) (c-a)) (a+k-a) (cD ((L.drop a).take k)):=by
 have hcut:=(hb.h_ (k:=a+k) hk).cut (k:=a) aa;have e:(L.take (a+k)).drop a=(L.drop a).take k:=by rw[Hk];congr 1;omega
 rwa [r8,pj,e]at hcut
theorem ag6(e:n=E b)(hb:aJ B w0 F 1 (.slice A n c) n (bv b))(ey:E b<=1000000):
  bg B w0 23 [.slice A n c] F (λr L=>∃(v:Value) (m e:Int) (X:aN),r= .tuple #[v,ah m,ah e]/\L=X++F/\((du b).2.2=0->e=0)):=by
 subst e;exact ag5 hb ey
theorem agr{x y b k:Ch}{M:aN}:(x::y::(M++(b::k::F))).Perm (k::x::y::(M++(b::F))):=by
 have e:x::y::(M++(b::k::F))=(x::y::(M++[b]))++k::F:=by simp
 rw[e];exact zb.trans (.of_eq ao)
theorem UK(HT:cK B w0){o:aZ}{L:List aI}{T:List mT}(hb:aJ B w0 F 4 (.slice A (E L) c) (E L) (cD L))(hx:tLt L)(ht:aJ B w0 F 2 (.slice A2 (E T) c2) (E T) (turns T))(hT:∀x∈T,mT.ok x):
  bg B w0 7 [.agg (aZ.cells o).toArray,.slice A (E L) c,.slice A2 (E T) c2] F (λr M=>r= .bool true):=by
 have pG:=kv o;refine dQ.yk hb λav1 _=>?_;have vN:=λM (hb:aJ B w0 M 4 (.slice A (E L) c) (E L) (cD L))=>w9 (F:=M) (v:=2) (o:=o) HT (.inr (.inl rfl)) hx hb;have yR:=λM (hb:aJ B w0 M 4 (.slice A (E L) c) (E L) (cD L))=>xc (F:=M) (o:=o) HT hx hb;refine fw func7 202 [0,1,2] ?_;refine bM 2 λg3=>?_;refine dw ?_;refine ai rfl (abD HT) (ab (lf rfl) rfl (fB 2 (λAU=>?_) λAU=>?_))
 ·exfalso;simp at AU
 ·refine dw ?_;refine bp atF rfl (aiq L aA 20 1000 aa aa) rfl ?_;rintro _ _ ⟨x33,rfl,cR,avp⟩;obtain rfl:=cR.symm;refine aX ?_;refine lS rfl rfl rfl (λCe=>?_) (λCe=>?_)
  ·have Zg:=avp (by simpa using Ce);refine ab (cu 6 ae rfl aU (aZ.cells o) rfl rfl) rfl (aX ?_);refine ai rfl (TZ 2 o) (bk 4 (λQ_=>?_) (λQ_=>?_))
   ·refine ag 8 (λGC=>?_) λGC=>?_
    ·refine aD 3 [6] 4 ?_;first|rfl|simp
    ·have ho:dF 2 o=0:=gE.1 Q_;have hTl:E T<=40:=by omega
     have hL:qG L:=⟨by have:=Zg.1;omega,by have:=Zg.2;omega,hx⟩
     obtain⟨p1,p2,p3,p4⟩:=P_ hL ho;have Mw:=λfl hf=>afz (fl:=fl) hL ho hf;simp only[p1]at vN;simp only[p2]at yR;obtain⟨H,hH⟩:=cM (mS o);obtain⟨Z,hZ⟩:=cM (tj o L);obtain⟨f0,hf0⟩:=cM ((cB o L).flatten);obtain⟨tot,Zs⟩:=cM ((og o L).sum);rw[<-hH,<-hZ,<-hf0]at vN p3;rw[<-hZ,<-hf0]at yR;rw[<-hf0,<-Zs]at p4;rw[<-hH,<-hZ,<-Zs]at Mw;have hlb:E (H++(f0++Z))=E H+(tot+E Z):=by simp[p4]
     have hlz:E (f0++Z)=tot+E Z:=by simp[p4]
     have S1:=acZ o L;have hHl:4<=E H:=by rw[hH,mS,dD];omega
     refine fb ?_;refine ab (cu 6 ae rfl aU (aZ.cells o) rfl rfl) rfl (aX ?_);refine ay rfl (vN _ hb.cons) λDf Dj=>aD 5 [1,2,3,7,8] 0 ?_;refine ag 8 (λOf=>?_) λOf=>?_
     ·exfalso;exact Of rfl
     ·refine fb ?_;refine ab (cu 6 ae rfl aU (aZ.cells o) rfl rfl) rfl (aX ?_);refine bp atG rfl (abe ho hL.Ii hx hb.cons.cons) rfl ?_;rintro _ _ ⟨Af,cf,Ac,cc,PB,rfl,hPB,cR⟩;obtain rfl:=cR.symm;refine cY ?_;refine jP agr ?_;have SX:(PB.map fk++(.own 5 1 Df (E (H++(f0++Z))) Dj (bv (H++(f0++Z)))::F)).Sublist (.own 27 1 Af (E PB) cf (PB.map de):: .own 3 1 Ac (E (dc o false L)) cc (bN (dc o false L))::(PB.map fk++(.own 5 1 Df (E (H++(f0++Z))) Dj (bv (H++(f0++Z)))::F))):=.cons _ (.cons _ (.refl _));have aiJ:=(fN (PB.map fk) (.own 5 1 Df (E (H++(f0++Z))) Dj (bv (H++(f0++Z)))::F)).trans SX;have hKp:∀e∈PB,aJ B w0 _ 1 (de e) (E e.2.2) (bv e.2.2):=λe he=>(aJ.own (ku _ (jr (f:=fk) he))).mono SX;have hKb:aJ B w0 _ 1 (.slice Df (E (H++(f0++Z))) Dj) (E (H++(f0++Z))) (bv (H++(f0++Z))):=(aJ.own (.head _)).mono aiJ;have hKl:=(hb.cons (c:=_)).mono aiJ;have hKt:=(ht.cons (c:=_)).mono aiJ;have hKf:aJ B w0 (.own 27 1 Af (E PB) cf (PB.map de):: .own 3 1 Ac (E (dc o false L)) cc (bN (dc o false L))::(PB.map fk++(.own 5 1 Df (E (H++(f0++Z))) Dj (bv (H++(f0++Z)))::F))) 1 (.slice Af (E PB) cf) (E PB) (PB.map de):=aJ.own (.head _);have hKc:aJ B w0 (.own 27 1 Af (E PB) cf (PB.map de):: .own 3 1 Ac (E (dc o false L)) cc (bN (dc o false L))::(PB.map fk++(.own 5 1 Df (E (H++(f0++Z))) Dj (bv (H++(f0++Z)))::F))) 1 (.slice Ac (E (dc o false L)) cc) (E (dc o false L)) (bN (dc o false L)):=aJ.own (.tail _ (.head _));obtain⟨K,hK⟩:=cM ((.own 27 1 Af (E PB) cf (PB.map de):: .own 3 1 Ac (E (dc o false L)) cc (bN (dc o false L))::(PB.map fk++(.own 5 1 Df (E (H++(f0++Z))) Dj (bv (H++(f0++Z)))::F)):aN));simp only[<-hK]at hKp hKb hKl hKt hKf hKc;show VC _ _ _ _ (_::(.own 27 1 Af (E PB) cf (PB.map de):: .own 3 1 Ac (E (dc o false L)) cc (bN (dc o false L))::(PB.map fk++(.own 5 1 Df (E (H++(f0++Z))) Dj (bv (H++(f0++Z)))::F))));rw[<-hK];clear hK SX aiJ;refine aX ?_;refine ab (cu 6 ae rfl aU (aZ.cells o) rfl rfl) rfl (aX ?_);refine ay rfl (yR _ hKl.cons) λA61 c61=>aD 5 [1,2,7,9,10,11] 2 ?_;refine mM (.s2 (.refl _)) (dx ?_);refine ab (cU rfl rfl (r:=((E H:Nat):Int)) (by rw[hlb,hlz];exact(bj aa aa).trans aa)) rfl (dw ?_);obtain⟨gs,ED⟩:=cM (dc o false L);rw[<-ED]at Mw S1 hKc;rw[<-ED];obtain⟨fs,hfs⟩:=cM (cB o L);have dN:∀j,(og o L).getD j 0=E (fs.getD j []):=λj=>by rw[hfs];exact acY
      have hpc:=λfl hf j hj=>acX (o:=o) (L:=L) (fl:=fl) (j:=j) hf hj;obtain⟨ss,hss⟩:=cM (og o L);have yL:E PB=E gs:=by
       have h1:=eG List.length hPB;rw[eZ]at h1;have h2:E (og o L)=E (cB o L):=by unfold og;rw[eZ]
       rw[h1,<-h2,S1]
      rw[<-hfs]at hPB Mw;rw[<-hss]at Zs S1 dN hpc;have Ms:E gs<=30:=by
       have h1:=lh o.1.toNat (lens false L);have h2:=hL.few;rw[dP]at h1;rw[ED];exact iY h1 h2
      have hpt:∀j,(PB.getD j lM).2.2=fs.getD j []:=λj=>by rw[<-hPB,Fq]
      have EI:∀k,k<E ss->(ss.take (k+1)).sum=(ss.take k).sum+ss.getD k 0:=λk hk=>by rw[aP hk 0,pJ];simp
      have sn:=λk=>iA ss k;rw[<-Zs]at sn;refine dx ?_;refine aw (λzf zL zm=>∃(k:Nat),(k<=E gs)/\E gs-k=zm/\Sub zf [(1,.slice A (E L) c),(2,.slice A2 (E T) c2),(7,.slice Df (E (H++(f0++Z))) Dj),(9,.slice Af (E PB) cf),(10,.slice Ac (E gs) cc),(13,ah (E H:Int)),(14,ah ((ss.take k).sum:Int)),(15,ah (k:Int))]/\Wk zL (K)) _ ⟨0,bD _,rfl,a_,.refl _⟩ ?_;rintro _ _ _ ⟨k,hk,rfl,hs,hp⟩;refine aL hs hp (ag 9 (λWp=>?_) λWp=>?_)
      ·have zX:=C7 (PB:=PB) (i:=k) aa;have yT:=hpt k;have hgk:=dN k;have h1:=EI k aa;have h2:=sn (k+1);obtain⟨⟨PA,PC,f⟩,hP⟩:∃e,e=PB.getD k lM:=⟨_,rfl⟩
       rw[<-hP]at zX yT;have yT:f=fs.getD k []:=yT;rw[<-yT]at hgk;have zX:(PB.map de)[k*1]? =some (.slice PA (E f) PC):=zX;refine dA ?_;refine ab (al ae rfl hKf aa zX) rfl (aX ?_);refine ab (bF rfl rfl (r:=(((ss.take (k+1)).sum:Nat):Int)) ((bj aa aa).trans aa)) rfl (dA ?_);refine aj ⟨_,aa,k+1,aa,rfl,a_,.refl _⟩
      ·obtain rfl:k=E gs:=by omega
       have qb:(ss.take (E gs)).sum=tot:=by rw[Zs,gv aa]
       refine bk 11 (λh84=>?_) (λh84=>?_)
       ·refine bZ 14 λh91=>?_;refine fb ?_;refine cv (fA bP) λA92=>aX ?_;refine dB (bB bP rfl aU rfl aA bY aa aa) λA94 c94=>?_;refine aD 1 [1,2,9,10,13,14,16] 3 ?_;rw[mH,mh];refine jH (A:=A94) (n:=E (H++(f0++Z))) (xs:=bv (H++(f0++Z))) (.head _) aa ?_;intro ad hA;subst hA;refine dx ?_;refine aw (λzf zL zm=>∃(k:Nat) (fl:aq),(k<=E T/\E fl=tot)/\E T-k=zm/\Sub zf [(1,.slice A (E L) c),(2,.slice A2 (E T) c2),(9,.slice Af (E PB) cf),(10,.slice Ac (E gs) cc),(13,ah (E H:Int)),(14,ah (tot:Int)),(16,.slice (some ad) (E (H++(f0++Z))) c94),(17,ah (k:Int))]/\Wk zL (.own 5 1 (some ad) (E (H++(f0++Z))) c94 (bv (H++(fl++Z)))::K)) _ ⟨0,f0,⟨bD _,p4⟩,rfl,a_,.refl _⟩ ?_;rintro _ _ _ ⟨k,fl,⟨zY,l_⟩,rfl,hs,hp⟩;refine aL hs hp (bf 3 8 102 [1,2,9,10,13,14,16,17] (k<E T/\0<tot) ?_ ?_)
        ·refine bC 5 (λh99=>?_) λh99=>?_
         ·exact ax 4 (k:=b_8)
         ·exact ax 2 (k:=b_8)
        ·refine ag 2 (λatW=>?_) λatW=>?_
         ·have yS:=aaX hT (show k<E T by omega);obtain⟨x,AZ⟩:=cM ((vn T k).1%tot);have S4:x<tot:=by rw[AZ];exact rG _ aa
          obtain⟨nw,hnw⟩:=cM (H++(fl++Z));have Rh:E nw=E (H++(f0++Z)):=by rw[hnw];simp[l_,p4]
          have avb:∀v,nw.set (E H+x) v=H++(fl.set x v++Z):=λv=>by
           rw[hnw,zc _ _ aa,uJ,List.set_append_left _ _ aa]
          have hxn:E H+x<E (H++(f0++Z)):=by omega
          rw[<-hnw];refine dA ?_;refine ab (az (i:=k) (size:=2) underlying45 ae rfl rfl rfl aa hKt.cons) rfl (ab (aV underlying59 rfl ae rfl hKt.cons aa rfl) rfl (ab (bH ae rfl hKt.cons aa ((QI aa aE).trans rfl)) rfl (ab (be (r:=((vn T k).1:Int)) underlying57 underlying3 rfl (bj aa aa)) rfl (aX ?_))));refine ab (kl rfl rfl aa (r:=(x:Int)) (by rw[AZ];rfl)) rfl (ab (bF rfl rfl (r:=((E H+x:Nat):Int)) ((bj aa aa).trans aa)) rfl (cN 3 K ?_));refine aF 0 4 ?_;refine aS 4 rfl (aO (i:=E H+x) (size:=1) underlying27 ae rfl rfl rfl aa) (aF 6 2 ?_);refine aS 8 rfl (az (i:=k) (size:=2) underlying45 ae rfl rfl rfl aa hKt) (aS 9 rfl (aV underlying59 rfl ae rfl hKt aa rfl) (aS 10 rfl (bH ae rfl hKt aa ((QI aa aE).trans rfl)) (aC 5 (iP rfl .no (l8 ae rfl (aJ.own (.head _)) hxn) rfl gI ?_))));refine aS 11 rfl (lg rfl rfl (r:=(((nw.getD (E H+x) 0 ^^^ (vn T k).2).toNat:Nat):Int)) (by rw[UInt8.toNat_xor];exact ag2 (QN _) (QN _))) (aS 12 rfl (aO (i:=E H+x) (size:=1) underlying27 ae rfl rfl rfl aa) (aC 13 (ky rfl .no (fy ae rfl rfl rfl aU (by rw[RO];omega)) uf ?_)));rintro _ _ rfl;refine di [1,2,9,10,13,14,16,17] ?_;refine dg ?_;refine aj ⟨_,aa,k+1,fl.set x (nw.getD (E H+x) 0 ^^^ (vn T k).2),⟨aa,by rw[List.length_set];exact l_⟩,rfl,a_,au rfl (by rw[cH,RP,avb]) (.refl _)⟩
         ·obtain⟨hAV,xB,hxO,hxn,hxs⟩:=Mw fl l_;have ar1:=hpc fl (l_.trans Zs);obtain⟨ps,Oz⟩:=cM (N4 o L fl);simp only[<-Oz]at hxs ar1;have KJ:=λs m h=>ahX (H:=H) (fl:=fl) (Z:=Z) (s:=s) (m:=m) h;obtain⟨nw,hnw⟩:=cM (H++(fl++Z));have Rh:E nw=E (H++(f0++Z)):=by rw[hnw];simp[l_,p4]
          rw[<-hnw]at hAV hxO;simp only[<-hnw]at KJ;rw[<-hnw,<-Rh];rw[<-Rh]at p3 hlb;have arJ:=vI o false L;rw[<-ED]at arJ;have x_:=QT L gs fs ps;refine fF ?_;refine aM 62 4 none (dM ?_);refine aw (λzf zL zm=>∃(i:Nat) (GA:bh) (Q4:Nat),(i<=E gs/\∀j,j<i->ps.getD j []≠fs.getD j []->(du (ps.getD j [])).2.2≠0)/\E gs-i=zm/\Sub zf [(1,.slice A (E L) c),(9,.slice Af (E PB) cf),(10,.slice Ac (E gs) cc),(13,ah ((E H+(ss.take i).sum:Nat):Int)),(16,.slice (some ad) (E nw) c94),(19,.slice GA (E (lZ L gs fs ps i).1) Q4),(20,ah ((lZ L gs fs ps i).2:Int)),(21,ah ((gs.take i).sum:Int)),(22,ah (i:Int))]/\Wk zL (.own 62 4 GA (E (lZ L gs fs ps i).1) Q4 (cD (lZ L gs fs ps i).1):: .own 5 1 (some ad) (E nw) c94 (bv nw)::K)) _ ⟨0,none,0,⟨bD _,λj hj=>absurd hj aa⟩,rfl,a_,.refl _⟩ ?_;rintro _ _ _ ⟨i,GA,Q4,⟨hi3,wx⟩,rfl,hs,hp⟩;refine aL hs hp (ag 9 (λat4=>?_) λat4=>?_)
          ·have zX:=C7 (PB:=PB) (i:=i) aa;have yT:=hpt i;have hgk:=dN i;have h1:=EI i aa;have h2:=sn (i+1);have mD:=bc (l:=PB) (show i<E PB by omega) lM;obtain⟨⟨PA,PC,f⟩,hP⟩:∃e,e=PB.getD i lM:=⟨_,rfl⟩
           rw[<-hP]at zX yT mD;have yT:f=fs.getD i []:=yT;rw[<-yT]at hgk;have zX:(PB.map de)[i*1]? =some (.slice PA (E f) PC):=zX;have hbf:aJ B w0 K 1 (.slice PA (E f) PC) (E f) (bv f):=hKp _ mD;obtain⟨q1,q2,q3⟩:=ar1 i aa;obtain⟨a,ha⟩:=cM (E H+(ss.take i).sum);obtain⟨pc,aiH⟩:=cM (ps.getD i []);rw[<-aiH]at q1 q3;have hcut:=λM (hM:aJ B w0 M 1 (.slice (some ad) (E nw) c94) (E nw) (bv nw))=>amE (F:=M) (a:=a) (m:=E f) aa hM;have arC:(nw.drop a).take (E f)=pc:=by rw[ha,KJ _ _ aa,q1,hgk]
           rw[arC]at hcut;rw[<-ha];obtain⟨q,hq⟩:=cM ((gs.take i).sum);obtain⟨m,hm⟩:=cM (gs.getD i 0);have hqs:(gs.take (i+1)).sum=q+m:=by rw[aP aa 0,pJ,<-hq,<-hm];simp
           have hql:=iA gs (i+1);have hwi:=x_ i;have hwn:lZ L gs fs ps (i+1)=if pc=f then ((lZ L gs fs ps i).1++(L.drop q).take m,(lZ L gs fs ps i).2) else ((lZ L gs fs ps i).1,(lZ L gs fs ps i).2+1):=by rw[lZ,<-aiH,<-yT,<-hq,<-hm]
           have arB:=λM (hM:aJ B w0 M 4 (.slice A (E L) c) (E L) (cD L))=>ajN (A:=A) (c:=c) (L:=L) (a:=q) (k:=m) (F:=M) aa hM;rw[<-hq];refine dx ?_;refine BT (aJ.own (.tail _ (.head _))) λauy _=>?_;refine dg ?_;refine ab (al ae rfl hKf.cons.cons aa zX) rfl (aX ?_);refine ab (bF rfl rfl (r:=((a+E f:Nat):Int)) ((bj aa aa).trans aa)) rfl (ab (fR (i:=a) (j:=a+E f) (size:=1) underlying27 ae rfl rfl rfl rfl rfl aa aa) rfl (dh ?_));refine ab (al ae rfl hKf.cons.cons aa zX) rfl (ai rfl (afB (l:=pc) (l2:=f) (hcut _ (aJ.own (.tail _ (.head _)))) hbf.cons.cons) (ve [1,9,10,13,16,19,20,21,22,23,149] ?_));refine fB 1 (λOc=>?_) λOc=>?_
           ·have Oc:pc=f:=E0 Oc;rw[av Oc]at hwn;have AZ:E (lZ L gs fs ps (i+1)).1=E (lZ L gs fs ps i).1+(q+m-q):=by rw[hwn];simp;omega
            have WE:(lZ L gs fs ps (i+1)).2=(lZ L gs fs ps i).2:=by rw[hwn]
            refine cY ?_;refine ab (al ae rfl hKc.cons.cons aa (fi (v:=m) aa hm.symm)) rfl (ab (bF rfl rfl (r:=((q+m:Nat):Int)) ((bj aa aa).trans aa)) rfl (ab (fR (i:=q) (j:=q+m) (size:=4) underlying24 ae rfl rfl rfl rfl rfl aa aa) rfl (dB (bB JE rfl aU rfl (arB _ hKl.cons.cons) (vS _) aa aa) λatj atA=>dA ?_)));refine ab (al ae rfl hKf.cons.cons aa zX) rfl (aD 3 [1,9,10,13,16,19,20,21,22] 6 ?_);refine ab (al ae rfl hKc.cons.cons aa (fi (v:=m) aa hm.symm)) rfl (dh ?_);refine aj ⟨_,aa,i+1,atj,atA,⟨aa,λj hj tO=>(OU.1 hj).elim (λk=>wx j k tO) λk=>absurd (by rw[k,<-aiH,<-yT];exact Oc) tO⟩,rfl,a_,au AZ.symm (by rw[hwn,ph]) (.refl _)⟩
           ·have Oc:¬pc=f:=O7 Oc;rw[aB Oc]at hwn;have AZ:(lZ L gs fs ps (i+1)).1=(lZ L gs fs ps i).1:=by rw[hwn]
            have WE:(lZ L gs fs ps (i+1)).2=(lZ L gs fs ps i).2+1:=by rw[hwn]
            have hx3:E (lZ L gs fs ps (i+1)).1=E (lZ L gs fs ps i).1:=by rw[AZ]
            refine fc ?_;refine bp atH rfl (ag6 (b:=pc) aa (hcut _ (aJ.own (.tail _ (.head _)))) aa) rfl ?_;rintro _ _ ⟨aw0,awZ,awe,atr,rfl,cR,arE⟩;obtain rfl:=cR.symm;refine ag 16 (λarf=>?_) λarf=>?_
            ·refine aD 3 [6] 10 ?_;first|rfl|simp
            ·refine mM (ej atr _) (bK 14 ?_);refine ab (al ae rfl hKf.cons.cons aa zX) rfl (aD 3 [1,9,10,13,16,19,20,21,22] 6 ?_);refine ab (al ae rfl hKc.cons.cons aa (fi (v:=m) aa hm.symm)) rfl (dh ?_);refine aj ⟨_,aa,i+1,GA,Q4,⟨aa,λj hj tO=>(OU.1 hj).elim (λk=>wx j k tO) λk=>by rw[k,<-aiH];exact λz=>arf (arE z)⟩,rfl,a_,au (by rw[AZ]) (by rw[AZ]) (.refl _)⟩
          ·obtain rfl:i=E gs:=by omega
           have ava:=hxs wx;have hsv:=λM hM=>aaw (F:=M) (A:=some ad) (c:=c94) HT (b:=nw) hM p3 hxO (λM h=>Uz aa hAV (.inr rfl) M _ _ h);simp only[hxn,ava]at hsv;obtain⟨W,hW⟩:=cM (lZ L gs fs ps (E gs));simp only[<-hW]at hsv;have hwW:=x_ (E gs);rw[<-hW]at hwW;rw[<-hW];have hgg:=iA gs (E gs);refine cY ?_;refine ay rfl (hsv _ (aJ.own (.tail _ (.head _)))) λav' awd=>aD 7 [19,20,27,28,29] 0 ?_;refine bC 6 (λarh=>?_) λarh=>?_
           ·refine bC 7 (λari=>?_) λari=>?_
            ·refine fb ?_;refine ai rfl (afA (l:=W.1) (l2:=W.1) (aJ.own (.head _)) (aJ.own (.tail _ (.head _))) aa) (aD 2 [6] 3 ?_);first|rfl|simp
            ·exfalso;exact ari rfl
           ·exfalso;exact arh rfl
       ·exfalso;omega
   ·refine aD 9 [6] 4 ?_;first|rfl|simp
  ·refine aD 14 [6] 4 ?_;first|rfl|simp
end
theorem Nr{P:Program}{w:World}{t:TypeId}{α β γ δ ε ζ:Type}{f0 f1 f2 f3 f4 f5:Field}{F0:α->Value}{F1:β->Value}{F2:γ->Value}{F3:δ->Value}{F4:ε->Value}{F5:ζ->Value}{O0:α->Prop}{O1:β->Prop}{O2:γ->Prop}{O3:δ->Prop}{O4:ε->Prop}{O5:ζ->Prop}(ht:P.underlying t=some (.struct #[f0,f1,f2,f3,f4,f5]))(hc:P.cellsOf t=6)(h0:f0.offset=0/\P.cellsOf f0.type=1)(h1:f1.offset=1/\P.cellsOf f1.type=1)(h2:f2.offset=2/\P.cellsOf f2.type=1)(h3:f3.offset=3/\P.cellsOf f3.type=1)(h4:f4.offset=4/\P.cellsOf f4.type=1)(h5:f5.offset=5/\P.cellsOf f5.type=1)(d0:lE P w f0.type (λx=>[F0 x]) O0)(d1:lE P w f1.type (λx=>[F1 x]) O1)(d2:lE P w f2.type (λx=>[F2 x]) O2)(d3:lE P w f3.type (λx=>[F3 x]) O3)(d4:lE P w f4.type (λx=>[F4 x]) O4)(d5:lE P w f5.type (λx=>[F5 x]) O5):
  lE P w t (λx:α×β×γ×δ×ε×ζ=>[F0 x.1,F1 x.2.1,F2 x.2.2.1,F3 x.2.2.2.1,F4 x.2.2.2.2.1,F5 x.2.2.2.2.2]) (λx=>O0 x.1/\O1 x.2.1/\O2 x.2.2.1/\O3 x.2.2.2.1/\O4 x.2.2.2.2.1/\O5 x.2.2.2.2.2):=by
 intro H enc n cs y h;obtain⟨xs,n',_,_,hl,hx,hf⟩:=DataW.trod_struct ht h;rw[hc]at hl;obtain⟨c0,c1,c2,c3,c4,c5,rfl⟩:∃c0 c1 c2 c3 c4 c5,cs=[c0,c1,c2,c3,c4,c5]:=by
  match cs,hl with
  |[c0,c1,c2,c3,c4,c5],_=>exact⟨c0,c1,c2,c3,c4,c5,rfl⟩
 obtain⟨y0,y1,y2,y3,y4,y5,rfl⟩:∃y0 y1 y2 y3 y4 y5,xs=[y0,y1,y2,y3,y4,y5]:=by
  match xs,hx with
  |[y0,y1,y2,y3,y4,y5],_=>exact⟨y0,y1,y2,y3,y4,y5,rfl⟩
 have g0:=hf 0 f0 rfl;have g1:=hf 1 f1 rfl;have g2:=hf 2 f2 rfl;have g3:=hf 3 f3 rfl;have g4:=hf 4 f4 rfl;have g5:=hf 5 f5 rfl;rw[h0.1,h0.2]at g0;rw[h1.1,h1.2]at g1;rw[h2.1,h2.2]at g2;rw[h3.1,h3.2]at g3;rw[h4.1,h4.2]at g4;rw[h5.1,h5.2]at g5;obtain⟨a0,e0,o0⟩:=d0 H enc _ _ _ g0;obtain⟨a1,e1,o1⟩:=d1 H enc _ _ _ g1;obtain⟨a2,e2,o2⟩:=d2 H enc _ _ _ g2;obtain⟨a3,e3,o3⟩:=d3 H enc _ _ _ g3;obtain⟨a4,e4,o4⟩:=d4 H enc _ _ _ g4;obtain⟨a5,e5,o5⟩:=d5 H enc _ _ _ g5;simp at e0 e1 e2 e3 e4 e5;exact⟨(a0,a1,a2,a3,a4,a5),by simp[e0,e1,e2,e3,e4,e5],o0,o1,o2,o3,o4,o5⟩
def aZ.ok(o:aZ):Prop:=(-9223372036854775808<=o.1/\o.1<=9223372036854775807)/\True/\(-9223372036854775808<=o.2.2.1/\o.2.2.1<=9223372036854775807)/\(-9223372036854775808<=o.2.2.2.1/\o.2.2.2.1<=9223372036854775807)/\(-9223372036854775808<=o.2.2.2.2.1/\o.2.2.2.2.1<=9223372036854775807)/\(-9223372036854775808<=o.2.2.2.2.2/\o.2.2.2.2.2<=9223372036854775807)
theorem ahZ(w:World):lE Tryz.prog w 23 aZ.cells aZ.ok:=
 Nr underlying23 ae ⟨rfl,ae⟩ ⟨rfl,ae⟩ ⟨rfl,ae⟩ ⟨rfl,ae⟩ ⟨rfl,ae⟩ ⟨rfl,ae⟩ (yw underlying3) (acw underlying4) (yw underlying3) (yw underlying3) (yw underlying3) (yw underlying3)
section
open Go.RowKit Go.WideShapes
theorem amk{P:Program}{W:World}{base:Nat}{t:TypeId}{fs:Array Field}{v:Value}{xs:cQ}(ht:P.underlying t=some (.struct fs))(hv:Value.okWide P W .any base t v)(e:v.cells.toList=xs):Value.agg xs.toArray=v:=by
 obtain⟨cs,rfl,_⟩:=okWide_struct ht hv;simp only[Value.cells]at e;rw[<-e]
end
end Go.Proofs.YtaodmbolhoafcaaGreatDoor
namespace Go.Proofs.YtaodmbolhoafcaaGreatDoor.lawWholeSalvage
open Go.RowKit
set_option linter.unusedVariables false
set_option maxRecDepth 20000
theorem iC{a b:Bool}(h1:a=true)(h2:b=true):(a&&b)=true:=by rw[h1,h2];rfl
theorem asA:Tryz.prog.funcNamed Rows.wholeSalvageRow.func=some 7:=by kernel_rfl
theorem avw:Tryz.f7.isInstance Tryz.prog Rows.wholeSalvageRow.origin Rows.wholeSalvageRow.targs:=E0 ae
theorem avx:Tryz.f7.isWrapper Tryz.prog Rows.wholeSalvageRow.wrapper Rows.wholeSalvageRow.mainSum:=by unfold Func.isWrapper;first|(rw[av po];kernel_rfl)|(rw[aB po];exact⟨rfl,rfl⟩)
set_option maxHeartbeats 4000000 in
theorem avy:joinedFacts Tryz.prog 7 Tryz.f7 Rows.wholeSalvageSpec Rows.wholeSalvageRow=true:=by
 unfold joinedFacts;refine iC (iC (iC (iC (iC (iC (iC (iC (iC (iC (iC (iC (iC (iC (iC (iC (iC (iC (iC (iC (iC (iC (iC (iC (iC (iC (iC (iC (iC (iC (iC ?_ ?_) ?_) ?_) ?_) ?_) ?_) ?_) ?_) ?_) ?_) ?_) ?_) ?_) ?_) ?_) ?_) ?_) ?_) ?_) ?_) ?_) ?_) ?_) ?_) ?_) ?_) ?_) ?_) ?_) ?_) ?_
 ·as_aux_lemma=>kernel_rfl
 ·as_aux_lemma=>kernel_rfl
 ·as_aux_lemma=>kernel_rfl
 ·as_aux_lemma=>kernel_rfl
 ·as_aux_lemma=>kernel_rfl
 ·as_aux_lemma=>kernel_rfl
 ·as_aux_lemma=>kernel_rfl
 ·as_aux_lemma=>kernel_rfl
 ·as_aux_lemma=>kernel_rfl
 ·as_aux_lemma=>kernel_rfl
 ·as_aux_lemma=>kernel_rfl
 ·as_aux_lemma=>kernel_rfl
 ·as_aux_lemma=>kernel_rfl
 ·as_aux_lemma=>kernel_rfl
 ·as_aux_lemma=>kernel_rfl
 ·as_aux_lemma=>kernel_rfl
 ·as_aux_lemma=>kernel_rfl
 ·as_aux_lemma=>kernel_rfl
 ·as_aux_lemma=>kernel_rfl
 ·as_aux_lemma=>kernel_rfl
 ·as_aux_lemma=>kernel_rfl
 ·as_aux_lemma=>kernel_rfl
 ·as_aux_lemma=>kernel_rfl
 ·as_aux_lemma=>kernel_rfl
 ·as_aux_lemma=>kernel_rfl
 ·as_aux_lemma=>kernel_rfl
 ·as_aux_lemma=>kernel_rfl
 ·as_aux_lemma=>kernel_rfl
 ·as_aux_lemma=>kernel_rfl
 ·as_aux_lemma=>kernel_rfl
 ·as_aux_lemma=>kernel_rfl
 ·as_aux_lemma=>kernel_rfl
end Go.Proofs.YtaodmbolhoafcaaGreatDoor.lawWholeSalvage
namespace Go.Proofs.YtaodmbolhoafcaaGreatDoor
set_option linter.unusedVariables false
set_option linter.unusedSimpArgs false
set_option maxRecDepth 20000
variable{b:aq}{P:Prop}{B:Nat}{w0:World}{F L:aN}{A A1 A2 Ao:bh}{n c c1 c2 co g gc:Nat}{s:Cs}{L0:aN}{n2:Nat}
end Go.Proofs.YtaodmbolhoafcaaGreatDoor
namespace Go.Proofs.YtaodmbolhoafcaaGreatDoor.lawWholeSalvage
open Go.RowKit
set_option linter.unusedVariables false
set_option maxRecDepth 20000
theorem avz:Rows.wholeSalvageRow.wfByText (OpenSpec.ofChange Rows.wholeSalvageSpec)=true:=by kernel_rfl
theorem avA:Tryz.pinned.checked.prog.mainIs=some (Rows.wholeSalvageCard.stood.harness.1,Rows.wholeSalvageCard.stood.harness.2.toList):=by kernel_rfl
theorem avB:false=Tryz.pinned.checked.prog.looks []:=by kernel_rfl
theorem avC{t:TypeId}(h:t∈[23,24,45]):Tryz.pinned.checked.prog.wantsStandIn t=false:=by
 simp only[fq,kS,nL]at h;rcases h with rfl|rfl|rfl<;>kernel_rfl
theorem avD:false=Rows.wholeSalvageRow.goesBy Tryz.pinned.checked.prog:=by kernel_rfl
end Go.Proofs.YtaodmbolhoafcaaGreatDoor.lawWholeSalvage
namespace Go.Proofs.YtaodmbolhoafcaaGreatDoor
set_option linter.unusedVariables false
set_option linter.unusedSimpArgs false
set_option maxRecDepth 20000
variable{b:aq}{P:Prop}{B:Nat}{w0:World}{F L:aN}{A A1 A2 Ao:bh}{n c c1 c2 co g gc:Nat}{s:Cs}{L0:aN}{n2:Nat}
end Go.Proofs.YtaodmbolhoafcaaGreatDoor

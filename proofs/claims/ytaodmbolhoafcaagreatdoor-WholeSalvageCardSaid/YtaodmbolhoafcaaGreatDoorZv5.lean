/-
  Texts of one proof, joined: part 5. No condition.
-/
import Derived.Test.YtaodmbolhoafcaaGreatDoorZv4
import Derived.MapKept
import Derived.WideMake
import Derived.Test.YtaodmbolhoafcaaGreatDoorProg
import Derived.Shelf.SortM.Plain
import Derived.Shelf.SortM.SortNone
import Derived.Shelf.SlicesG.CompactS
import Derived.Ground.SlgmProg
import Derived.Ground.SlgnProg
import Derived.Sort.OwnSorted
import Derived.Lib.OwnBridge
import Derived.Sort.Walk0
import Derived.Shelf.SlIter.Nil
import Derived.Ground.GgzProg
import Derived.RangeFuncFrom
import Derived.RangeFuncLeaves
import Derived.RangeFuncCalls
import Derived.OrdersIn
open List renaming length→E
open Go.RowKit Go.Proofs.Tryz
namespace Go.Proofs.YtaodmbolhoafcaaGreatDoor
set_option linter.unusedVariables false
set_option linter.unusedSimpArgs false
set_option maxRecDepth 20000
variable{P:Prop}{l:aq}{L:List aI}{o row:aq}{fn:Func}{R:oV}{ho id:Nat}{b:Bool}{a:UInt8}{tD:sg}{B:Nat}{w0:World}{F:aN}{A:bh}{c g:Nat}{s:Cs}{A1 A2:bh}{n c1 c2:Nat}{B1 B2:bh}{b1 b2:Nat}
theorem abR(h:P:=by(unfold Cs.rest;simp)):P:=h
theorem U8(h:P:=by(rw[sK];exact f5)):P:=h
theorem HX(h:P:=by(unfold GI;omega)):P:=h
theorem mY:type_of% @List.map_take:= @List.map_take
theorem uK:type_of% @List.map_drop:= @List.map_drop
theorem oG:type_of% @List.mem_of_mem_drop:= @List.mem_of_mem_drop
theorem b_:type_of% @Classical.byContradiction:= @Classical.byContradiction
theorem rH:type_of% @List.drop_left':= @List.drop_left'
def iV(b plain:Bool):br->List aI->fJ
 |[],_=>[]
 |n::ns,L=>(ij (ct b (L.take n)) plain).1::iV b plain ns (L.drop n)
def gj(x:Bool):UInt8:=if x then 1 else 0
def dc(o:aZ)(b:Bool)(L:List aI):br:=fz o.1.toNat (lens b L)
def tU(o:aZ)(L:List aI):aq:=(eK++[1])++(aW o.1.toNat++(gj o.2.1::(aW (E L)++aW (E (dc o true L)))))
def Bu(o:aZ)(L:List aI):aq:=b7 (tU o L++(iV true o.2.1 (dc o true L) L).flatten)
def xF(o:aZ)(L:List aI):aq×Int:=if dF 1 o≠0 then ([],dF 1 o) else if dC L≠0 then ([],dC L) else (Bu o L,0)
def iG(b:aq):aq×Int:=
 if (marked b).2≠0 then ([],(marked b).2) else if (marked b).1≠1 then ([],4)
 else if (aT b).2≠0 then ([],(aT b).2) else if E (aT b).1<5 then ([],1) else ((aT b).1.drop 5,0)
def oh1(x:aq):Cs:=Cs.bX ⟨x,0,0⟩ 32768
def Z3(x:aq):UInt8:=(oh1 x).byte
def W9(x:aq):Cs:=if 1<(Z3 x).toNat then (oh1 x).eV.failed 2 else (oh1 x).eV
def oh3(x:aq):Cs:=(W9 x).bX 20000
def Hs(x:aq):Nat:=(W9 x).int 20000
def C5(x:aq):Cs:=(oh3 x).bX (Hs x)
def Ds(x:aq):Nat:=(oh3 x).int (Hs x)
def ohO(x:aq):aZ:=((Cs.int ⟨x,0,0⟩ 32768:Nat),decide ((Z3 x).toNat=1),0,0,0,0)
def ohE(x:aq):Int:=if (C5 x).e≠0 then (C5 x).e else dF 1 (ohO x)
noncomputable def kI(s:Cs):List aI×Cs×Int:=
 if (du s.rest).2.2≠0 then ([],s,(du s.rest).2.2)
 else if (rZ true (du s.rest).1).2≠0 then ([],s.bR ((du s.rest).2.1:Nat),(rZ true (du s.rest).1).2)
 else if (rZ true (du s.rest).1).1=[] then ([],s.bR ((du s.rest).2.1:Nat),2)
 else ((rZ true (du s.rest).1).1,s.bR ((du s.rest).2.1:Nat),0)
noncomputable def qg:Nat->Cs->List aI->List aI×Cs×Int
 |0,s,out=>(out,s,0)
 |f+1,s,out=>if (kI s).2.2≠0 then ([],(kI s).2.1,(kI s).2.2) else qg f (kI s).2.1 (out++(kI s).1)
noncomputable def lL(x:aq):List aI×Int:=
 if (qg (Ds x) (C5 x) []).2.2≠0 then ([],(qg (Ds x) (C5 x) []).2.2)
 else if 0<(qg (Ds x) (C5 x) []).2.1.left\/E (qg (Ds x) (C5 x) []).1≠Hs x then ([],2)
 else if dC (qg (Ds x) (C5 x) []).1≠0 then ([],dC (qg (Ds x) (C5 x) []).1) else ((qg (Ds x) (C5 x) []).1,0)
noncomputable def Fm(b:aq):aZ×List aI×Nat×Int:=
 if (iG b).2≠0 then (Bs,[],0,(iG b).2)
 else if ohE (iG b).1≠0 then (Bs,[],0,ohE (iG b).1)
 else if (lL (iG b).1).2≠0 then (Bs,[],0,(lL (iG b).1).2)
 else (ohO (iG b).1,(lL (iG b).1).1,Ds (iG b).1,0)
theorem afe{x:aI}(hx:x.fits):E (i_ b x)<=8100:=by
 obtain⟨h1,h2,h3⟩:=hx;have e1:=kW (s:=x.2.2.1) aa;have e2:=kW (s:=x.2.2.2) aa;have e3:=aY h1;unfold i_ ef;split<;>simp only[bm,ei,tT]<;>omega
theorem ZO(b:Bool)(L:List aI)(n:Nat):lens b (L.take n)=(lens b L).take n:=by simp[lens,mY]
theorem sK(b:Bool)(L:List aI)(n:Nat):lens b (L.drop n)=(lens b L).drop n:=by simp[lens,uK]
theorem pd{S:Nat}(hS:S<=32768)(hL:∀x∈L,x.fits)(h1:1<=n)(h:((lens b L).take n).sum<=S\/n=1):E (ct b (L.take n))<=32768:=by
 rw[FJ,ZO];rcases h with h|h
 ·omega
 ·subst h;cases L with
  |nil=>simp[lens]
  |cons x r=>
   have:=afe (b:=b) (hL x ao);simp[lens];omega
theorem Jk{S:Nat}(hS:S<=32768)(plain:Bool):∀(g:br) (L out:List aI) (s:Cs) (r:aq),s.e=0->(∀x∈L,x.fits)->w6 S (lens true L) g->s.rest=(iV true plain g L).flatten++r->
  ∃s',qg (E g) s out=(out++L,s',0)/\nX s s' (iV true plain g L).flatten
 |[],L,out,s,r,h0,hL,hf,hr=>by
  have:L=[]:=List.map_eq_nil_iff.1 (show lens true L=[] from hf);subst this;exact⟨s,by simp[qg],nX.nil h0⟩
 |n::g,L,out,s,r,h0,hL,hf,hr=>by
  obtain⟨f1,f2,f3,f4,f5⟩:=hf;rw[dP]at f2;have I0:=pd hS hL f1 f3;have uG:s.rest=(ij (ct true (L.take n)) plain).1++((iV true plain g (L.drop n)).flatten++r):=by rw[hr];simp[iV]
  have hb:=M4 (ct true (L.take n)) plain I0 ((iV true plain g (L.drop n)).flatten++r);rw[<-uG]at hb;obtain⟨_,ht⟩:=Cs.mK (n:=(E (ij (ct true (L.take n)) plain).1:Nat)) h0 rfl uG;have xp:rZ true (ct true (L.take n))=(L.take n,0):=by
   unfold rZ;rw[BG _ (L.take n) _ [] rfl (by unfold Cs.left;simp only;omega) (λx hx=>hL x (ia hx)) abR];have:(L.take n).map (norm true)=L.take n:=by
    conv=>rhs;rw[<-List.map_id (L.take n)]
    exact tR λx _=>by simp[norm]
   rw[this,mh]
  have tO:¬L.take n=[]:=by
   intro h;have:=eG List.length h;rw[fZ,tT]at this;omega
  have hk:kI s=(L.take n,s.bR (E (ij (ct true (L.take n)) plain).1:Nat),0):=by
   unfold kI;rw[hb];simp only;rw[xp];simp only;rw[aB ao,aB ao,aB tO]
  obtain⟨s',h1,h2⟩:=Jk hS plain g (L.drop n) (out++L.take n) _ r ht.e1 (λx hx=>hL x (oG hx)) U8 (ht.cP uG);refine⟨s',?_,by have:=ht.trans h2;simpa[iV]using this⟩;rw[ei,qg,hk,aB ao];simp only;rw[h1,bT,kH]
theorem aeN{o:aZ}(ho:dF 1 o=0)(hc:dC L=0)(hx:∀x∈L,x.1<18446744073709551616):Fm (Bu o L)=(o,L,E (dc o true L),0):=by
 have eu:ju 1 o:=by
  unfold dF at ho;rw[av (.inl rfl)]at ho;exact b_ λh=>by rw[aB h]at ho;simp at ho
 obtain⟨⟨m1,m2⟩,_,_,m5,m6⟩:=eu;obtain⟨k1,k2,k3⟩:=m5 aa;have k6:=m6 rfl;have yO:E L<=20000/\(∀x∈L,x.fits):=by
  unfold dC at hc;have:¬(20000<E L\/(∃x∈L,uS x)\/1048576<dJ L):=λh=>by rw[av h]at hc;simp at hc
  refine⟨aa,λx h=>⟨hx x h,?_,?_⟩⟩
  ·exact wW λk=>this (.inr (.inl ⟨x,h,.inl k⟩))
  ·exact wW λk=>this (.inr (.inl ⟨x,h,.inr k⟩))
 obtain⟨hl,hL⟩:=yO;have hg:E (dc o true L)<=E L:=by unfold dc;have:=lh o.1.toNat (lens true L);rwa [dP]at this
 obtain⟨Y,hY⟩:=cM (aW o.1.toNat++(gj o.2.1::(aW (E L)++(aW (E (dc o true L))++(iV true o.2.1 (dc o true L) L).flatten))));have hX:iG (Bu o L)=(Y,0):=by
  have e1:marked (Bu o L)=(1,0):=by
   have:=nN (v:=1) HX ((aW o.1.toNat++(gj o.2.1::(aW (E L)++aW (E (dc o true L)))))++((iV true o.2.1 (dc o true L) L).flatten++kz (mw 0 (tU o L++(iV true o.2.1 (dc o true L) L).flatten))));rw[<-this];congr 1;unfold Bu b7 tU;show _=(eK++[1])++_;simp[bT]
  have e2:aT (Bu o L)=(tU o L++(iV true o.2.1 (dc o true L) L).flatten,0):=kN _;have e3:tU o L++(iV true o.2.1 (dc o true L) L).flatten=(eK++[1])++Y:=by rw[hY];unfold tU;simp[bT]
  have e4:((eK++[1]:aq)++Y).drop 5=Y:=rH rfl;unfold iG;rw[e1,e2,e3];simp only;rw[aB ao,aB ao,aB ao,aB (by simp[eK]),e4]
 have r0:Cs.rest ⟨Y,0,0⟩=aW o.1.toNat++(gj o.2.1::(aW (E L)++(aW (E (dc o true L))++(iV true o.2.1 (dc o true L) L).flatten))):=by unfold Cs.rest;rw[qS];exact hY
 obtain⟨n1,d1⟩:=Cs.iW (m:=32768) rfl aa aa r0;have r1:=d1.cP r0;obtain⟨n2,d2⟩:=Cs.mo d1.e1 r1;have r2:=d2.cP (p:=[gj o.2.1]) r1;obtain⟨n3,d3⟩:=Cs.iW (m:=20000) d2.e1 aa aa r2;have r3:=d3.cP r2;obtain⟨n4,d4⟩:=Cs.iW (m:=(E L:Nat)) d3.e1 aa aa r3;have r4:=d4.cP r3;have l_:(gj o.2.1).toNat<=1/\(decide ((gj o.2.1).toNat=1)=o.2.1):=by cases o.2.1<;>exact⟨aE,aE⟩
 have e1:oh1 Y=Cs.bX ⟨Y,0,0⟩ 32768:=rfl;have ePl:Z3 Y=gj o.2.1:=by unfold Z3;rw[e1];exact n2
 have e2:W9 Y=(Cs.bX ⟨Y,0,0⟩ 32768).eV:=by unfold W9;rw[ePl,aB aa,e1]
 have eR:Hs Y=E L:=by unfold Hs;rw[e2];exact n3
 have e3:oh3 Y=(Cs.bX ⟨Y,0,0⟩ 32768).eV.bX 20000:=by unfold oh3;rw[e2]
 have eB:Ds Y=E (dc o true L):=by unfold Ds;rw[e3,eR];exact n4
 have e4:C5 Y=((Cs.bX ⟨Y,0,0⟩ 32768).eV.bX 20000).bX (E L:Nat):=by unfold C5;rw[e3,eR]
 have eO:ohO Y=o:=by
  unfold ohO;rw[n1,ePl,l_.2];obtain⟨a,b,c,d,e,f⟩:=o;simp only at m1 m2 k1 k2 k3 k6⊢;rw[k1,k2,k3,k6];congr 1;omega
 have eE:ohE Y=0:=by unfold ohE;rw[e4,d4.e1,aB ao,eO];exact ho
 obtain⟨s',h1,h2⟩:=Jk (S:=o.1.toNat) aa o.2.1 (dc o true L) L [] (C5 Y) [] (by rw[e4];exact d4.e1) hL (jd _ _) (by rw[e4,r4,gN]);have alv:s'.left=0:=by
  rw[<-nQ];have:=h2.cP (r:=[]) (by rw[e4,r4,gN]);rw[this];rfl
 have eL:lL Y=(L,0):=by
  unfold lL;rw[eB,h1];simp only;rw[aB ao,eR,aB (by rw[alv];simp),mh,hc,aB ao]
 unfold Fm;rw[hX];simp only;rw[aB ao,eE,aB ao,eL,aB ao,eO,eB]
theorem po(h:P:=by(decide+kernel)):P:=h
theorem DL(h:P:=by(rintro _ _ ⟨rfl,rfl⟩;exact gI)):P:=h
theorem OV:type_of% @List.replicate_zero:= @List.replicate_zero
theorem apn(y:Nat)(hy:y<4294967296):IntKind.u64.wrap ((BitVec.ofInt IntKind.u64.bits (y:Int) &&& BitVec.ofInt IntKind.u64.bits 4294967295).toNat:Int)=(y:Int):=by
 have h:=u64_and y 4294967295 aa aa;rw[show(4294967295:Nat)=2^32-1 from rfl,Nat.and_two_pow_sub_one_eq_mod,ly (show y<2^32 from hy)]at h;exact h
theorem alX(y:Nat)(hy:y<4294967296):(y:Int).fdiv (2^min (32:Int).toNat IntKind.u64.bits)=0:=by
 have e:min (32:Int).toNat IntKind.u64.bits=32:=by decide
 rw[e,wS _ aE];omega
theorem ajf(y:Nat)(hy:y<4294967296):bg B w0 338 [.int .u64 1,.int .u64 y] F (λr L=>r= .tuple #[.int .u64 0,.int .u64 y]/\L=F):=by
 refine ba func338 51 [0,1] 9 ?_;refine ab (kj rfl rfl (r:=1) po) rfl (dw ?_);refine ab (dH rfl rfl aa (r:=0) po) rfl (dw ?_);refine ab (kj rfl rfl (apn y hy)) rfl (dw ?_);refine ab (dH rfl rfl aa (alX y hy)) rfl (dg ?_);refine ab (eo rfl rfl (r:=(y:Int)) ((eQ aa aa).trans aa)) rfl (dg ?_);refine ab (eo rfl rfl (r:=0) ((eQ aa aa).trans aa)) rfl (aX ?_);refine ab (dH rfl rfl aa (alX y hy)) rfl (ab (bF rfl rfl (r:=0) po) rfl (aD 1 [0,1,6,7,9,11] 4 ?_));refine ab (kj rfl rfl (r:=0) po) rfl (dw ?_);refine ab (dH rfl rfl aa (r:=0) po) rfl (cY ?_);refine ab (eo rfl rfl (r:=0) po) rfl (ab (bF rfl rfl (r:=0) po) rfl (dg ?_));refine ab (eo rfl rfl (r:=0) po) rfl (aX ?_);refine ab (bF rfl rfl (r:=0) po) rfl (aX ?_);refine ab (dH rfl rfl aa (r:=0) po) rfl (ab (bF rfl rfl (r:=0) po) rfl (aD 1 [0,1,4] 5 ?_));exact ab (eo rfl rfl (r:=(y:Int)) ((eQ aa aa).trans aa)) rfl (cm 5)
theorem ast(y:Nat)(hy:y<4294967296):bg B w0 321 [.int .u64 1,.int .u64 y] F (λr L=>r= .tuple #[.int .u64 0,.int .u64 y]/\L=F):=by
 refine ba func321 30 [0,1] 14 ?_;exact ai rfl (ajf y hy) (cm 17)
theorem aan(b:UInt8)(k:Nat):(bv [b]).take (min 1 k)++(List.replicate k (Value.int .u8 0)).drop (min 1 k)=bv (List.replicate (min 1 k) b)++List.replicate (k-min 1 k) (.int .u8 0):=by
 rw[List.drop_replicate];congr 1;rcases Be k with h|h
 ·subst h;rfl
 ·rw[C2 h];rfl
theorem afi(b:UInt8){j k q:Nat}(hj:q<=j)(hk:j+q<=k):(bv (List.replicate j b)++List.replicate (k-j) (Value.int .u8 0)).take j++(bv (List.replicate j b)).take q++(bv (List.replicate j b)++List.replicate (k-j) (Value.int .u8 0)).drop (j+q)=bv (List.replicate (j+q) b)++List.replicate (k-(j+q)) (.int .u8 0):=by
 rw[List.take_append_of_le_length ao,gv ao,jK,List.take_replicate,C2 hj,<-jn,List.replicate_append_replicate];congr 1;rw[List.drop_append,kr ao,mh,List.drop_replicate];congr 1;simp;omega
theorem afj(b:UInt8)(k:Nat)(hb:aJ B w0 F 1 (.slice A 1 c) 1 (bv [b]))(hk:k<=1000000000):
  bg B w0 297 [.slice A 1 c,ah k] F (λr L=>∃A' c',r= .slice A' k c'/\L= .own 5 1 A' k c' (bv (List.replicate k b))::F):=by
 refine fw func297 48 [0,1] ?_;refine bZ 12 λig=>?_;refine dw ?_;refine ab (be underlying3 underlying192 rfl (r:=1) po) rfl (aX ?_);refine ab (be underlying3 underlying192 rfl (eQ aa aa)) rfl (ai rfl (ast k aa) (bk 13 (λpe=>?_) (λpe=>?_)))
 ·refine aD 4 [0,6,26] 0 ?_;refine bZ 1 λq7=>?_;refine dx ?_;refine ab (be underlying192 underlying3 rfl (bj aa aa)) rfl (cv (eY bP rfl rfl rfl rfl rfl aa aa aa) λRp=>dg ?_);refine ou (Iy bP aU rfl rfl aA (uk _)) rfl ?_;rintro _ _ ⟨rfl,rfl⟩;refine dx ?_;refine aw (λzf zL zm=>∃(j:Nat),(j<=k/\(0<j\/k=0))/\k-j=zm/\Sub zf [(7,.slice Rp k k),(8,ah j)]/\Wk zL (.own 5 1 Rp k k (bv (List.replicate j b)++List.replicate (k-j) (.int .u8 0))::F)) _ ⟨min 1 k,⟨aa,aa⟩,rfl,a_,au rfl (aan b k) (.refl _)⟩ ?_;rintro _ _ _ ⟨j,⟨hj,hj0⟩,rfl,hs,hp⟩;refine aL hs hp (ag 9 (λCS=>?_) λCS=>?_)
  ·have Dn:∀(L:aN),Ch.own 5 1 Rp k k (bv (List.replicate j b)++List.replicate (k-j) (.int .u8 0))∈L->aJ B w0 L 1 (.slice Rp j k) j (bv (List.replicate j b)):=λL hm=>by
    have:=(aJ.own (B:=B) (w0:=w0) hm).h_ (k:=j) aa;rw[cH,List.take_append_of_le_length ao,gv ao]at this;exact this
   refine cN 3 F ?_;refine aF 0 3 ?_;refine aS 3 rfl (bV (i:=j) (size:=1) underlying27 ae rfl rfl rfl aa) (aF 4 2 ?_);refine aS 6 rfl (bQ (i:=j) (size:=1) underlying27 ae rfl rfl rfl aa) (aC 7 (Uf rfl .no (NH (i:=j) bP aU rfl aa rfl (Dn _ (List.Mem.head _)) (uk _)) rfl DL ?_));rintro _ _ ⟨rfl,rfl⟩;refine aF 8 2 ?_;refine ew ?_;refine aj ⟨_,aa,j+min j (k-j),⟨aa,aa⟩,rfl,a_,au rfl (afi b aa aa) (.refl _)⟩
  ·refine dM ?_;have hjk:j=k:=by omega
   subst hjk;exact ak (au rfl (by rw[rE,OV,gN]) (.refl _)) (bO 1)
 ·exfalso;exact absurd pe aE
def p9(l:br):cQ:=l.map λ(n:Nat)=>Value.int .u64 (n:Int)
@[simp] theorem al9(l k:br):p9 (l++k)=p9 l++p9 k:=by simp[p9]
@[simp] theorem al_(l:br):E (p9 l)=E l:=by simp[p9]
def Am(a b:Nat):Nat:=(a+b)%18446744073709551616
theorem Yb(a b:Nat):IntKind.u64.wrap ((a:Int)+(b:Int))=((Am a b:Nat):Int):=by
 show((a:Int)+b)%18446744073709551616=_;unfold Am;omega
theorem ahj(a b:Nat):Am a b<18446744073709551616:=rG _ aa
def CG:Nat->Nat->Cs->br×Cs
 |0,_,s=>([],s)
 |k+1,was,s=>if s.e=0 then (Am was (UQ s.num)::(CG k (Am was (UQ s.num)) s.lK).1,(CG k (Am was (UQ s.num)) s.lK).2) else ([],s)
theorem akm{k was:Nat}(h:¬s.e=0):CG k was s=([],s):=by cases k<;>simp[CG,h]
def lvX(s:Cs):UInt8:=s.byte
def Rj(n:Nat)(s:Cs)(o:aq):Nat:=s.eV.int ((n:Int)-E o)
def MA(n:Nat)(s:Cs)(o:aq):Cs:=s.eV.bX ((n:Int)-E o)
def E9(n:Nat)(s:Cs)(o:aq):Prop:=(MA n s o).e=0/\(Rj n s o=0\/0<E o/\o.getD (E o-1) 0=lvX s)
instance (n:Nat)(s:Cs)(o:List UInt8):Decidable (E9 n s o):=inferInstanceAs (Decidable (_/\_))
def MB(n:Nat)(s:Cs)(o:aq):Cs:=if E9 n s o then (MA n s o).failed 2 else MA n s o
def Hq:Nat->Nat->Cs->aq->aq×Cs
 |0,_,s,o=>(o,s)
 |f+1,n,s,o=>if E o<n/\s.e=0 then Hq f n (MB n s o) (o++List.replicate (Rj n s o) (lvX s)) else (o,s)
theorem zl{f:Nat}(h:¬(E o<n/\s.e=0)):Hq f n s o=(o,s):=by cases f<;>simp[Hq,h]
theorem Tu{f:Nat}(h:E o<n/\s.e=0):Hq (f+1) n s o=Hq f n (MB n s o) (o++List.replicate (Rj n s o) (lvX s)):=by rw[Hq,av h]
theorem Bc(s:Cs)(m:Int):(s.bX m).b=s.b:=Cs.cO _ _ _
theorem Er(s:Cs)(e:Int):(s.failed e).b=s.b:=by unfold Cs.failed;split<;>rfl
theorem aso(n:Nat)(s:Cs)(o:aq):(MA n s o).b=s.b:=by simp[MA,Bc,Kb]
theorem alE(n:Nat)(s:Cs)(o:aq):(MB n s o).b=s.b:=by unfold MB;split<;>simp[Er,aso]
theorem cw.MA{n:Nat}{s:Cs}{o:aq}(h:cw s)(hn:n<=1000000000):cw (MA n s o):=h.eV.bX aa
theorem cw.MB{n:Nat}{s:Cs}{o:aq}(h:cw s)(hn:n<=1000000000):cw (MB n s o):=by
 unfold Proofs.YtaodmbolhoafcaaGreatDoor.MB;split
 ·exact(h.MA hn).failed _
 ·exact h.MA hn
theorem KR(s:Cs)(m:Int)(hm:0<=m)(oh:m<=9223372036854775807):(s.int m:Int)<=m:=by
 unfold Cs.int;split
 ·exact hm
 ·by_cases he:(eU s.rest m).2.2=0
  ·exact(jN s.rest m oh).2.2.2 he
  ·rw[(pP he).1];exact hm
theorem aeo(h:E o<=n)(hn:n<=1000000000):E o+Rj n s o<=n:=by
 have:=KR s.eV ((n:Int)-E o) aa aa;unfold Rj;omega
theorem Tv(h:(MB n s o).e=0):¬E9 n s o/\(MA n s o).e=0/\MB n s o=MA n s o:=by
 unfold MB at h⊢;by_cases hb:E9 n s o
 ·rw[av hb]at h;unfold Cs.failed at h;rw[av hb.1]at h;simp at h
 ·rw[aB hb]at h⊢;exact⟨hb,h,rfl⟩
theorem akl(n:Nat)(ho:cw s)(hb:aJ B w0 F 1 (.slice A (E s.b) c) (E s.b) (bv s.b))(hn:n<=1000000000):
  bg B w0 265 [.agg #[bq g],ah n] (Cv g A c s::F) (λr L=>∃A' c',r= .slice A' (E (CG n 0 s).1) c'/\L=Cv g A c (CG n 0 s).2:: .own 60 1 A' (E (CG n 0 s).1) c' (p9 (CG n 0 s).1)::F):=by
 have nC:∀(s':Cs),s'.b=s.b->aJ B w0 F 1 (.slice A (E s'.b) c) (E s'.b) (bv s'.b):=λs' h=>by rw[h];exact hb
 refine fw func265 28 [0,1] ?_;refine bM 2 λg2=>?_;refine fb ?_;refine aM 60 1 none (fF ?_);refine aw (λzf zL zm=>∃(q was:Nat) (s':Cs) (o:br) (A5:bh) (c5:Nat),(cw s'/\s'.b=s.b/\E o+q=n/\CG n 0 s=(o++(CG q was s').1,(CG q was s').2))/\q=zm/\Sub zf [(1,ah n),(2,bq g2),(5,.slice A5 (E o) c5),(6,.int .u64 was)]/\Wk zL (Cv g A c s':: .own 60 1 A5 (E o) c5 (p9 o):: .bI g2 366 [bq g]::F)) _ ⟨n,0,s,[],none,0,⟨ho,rfl,ao,rfl⟩,rfl,a_,.c_ C9⟩ ?_;rintro _ _ _ ⟨q,was,s',o,A5,c5,⟨ho',Hc,hq,hG⟩,rfl,hs,hp⟩;refine aL hs hp (bf 3 10 16 [1,2,5,6] ((E o:Int)<n/\s'.e=0) ?_ ?_)
 ·refine bC 5 (λoA=>?_) λoA=>?_
  ·refine fb ?_;exact ai rfl (ik) (ax 3 (k:=oJ))
  ·exact ax 4 (k:=wo)
 ·refine ag 2 (λj0=>?_) λj0=>?_
  ·have Rh:s'.num<18446744073709551616:=by
    unfold Cs.num;split
    ·omega
    ·exact(fG _).1
   obtain⟨q',rfl⟩:∃q',q=q'+1:=⟨q-1,aa⟩
   refine cY ?_;refine ai rfl (acg ho' (.cons (.cons (nC s' Hc)))) (ai rfl (ate _ Rh) (ab (bF rfl rfl (Yb _ _)) rfl (dw ?_)));refine cC aow rfl rfl rfl rfl rfl (λ_=>rfl) aU aa aa ?_;intro _ sp zV;refine fc ?_;have el:E o+1=E (o++[Am was (UQ s'.num)]):=by simp
   rw[el];refine aj ⟨_,aa,q',Am was (UQ s'.num),s'.lK,o++[Am was (UQ s'.num)],sp,zV,⟨ho'.lK,(Lg _).trans Hc,bS,by rw[hG,CG,av j0.2];simp⟩,rfl,a_,.cons (au rfl (by simp[p9]) (.refl _))⟩
  ·refine dM ?_;have hz:CG n 0 s=(o,s'):=by
    rw[hG];by_cases h0:s'.e=0
    ·have:q=0:=by omega
     subst this;simp[CG]
    ·rw[akm h0];simp
   rw[hz];exact ak (L':=Cv g A c s':: .own 60 1 A5 (E o) c5 (p9 o)::F) (.cons (.cons (.skip (.refl _)))) (bO 1)
theorem aeb(n:Nat)(ho:cw s)(hb:aJ B w0 F 1 (.slice A (E s.b) c) (E s.b) (bv s.b))(hn:n<=1000000000):
  bg B w0 266 [.agg #[bq g],ah n] (Cv g A c s::F) (λr L=>∃A' c',r= .slice A' (E (Hq (n+1) n s []).1) c'/\L=Cv g A c (Hq (n+1) n s []).2:: .own 5 1 A' (E (Hq (n+1) n s []).1) c' (bv (Hq (n+1) n s []).1)::F):=by
 have nC:∀(s':Cs),s'.b=s.b->aJ B w0 F 1 (.slice A (E s'.b) c) (E s'.b) (bv s'.b):=λs' h=>by rw[h];exact hb
 refine fw func266 61 [0,1] ?_;refine bM 2 λg2=>?_;refine fb ?_;refine aM 5 1 none (dw ?_);refine aw (λzf zL zm=>∃(f:Nat) (s':Cs) (o:aq) (A5:bh) (c5:Nat),(cw s'/\s'.b=s.b/\E o<=n/\(s'.e=0->n-E o<f)/\Hq f n s' o=Hq (n+1) n s [])/\f=zm/\Sub zf [(1,ah n),(2,bq g2),(5,.slice A5 (E o) c5)]/\Wk zL (Cv g A c s':: .own 5 1 A5 (E o) c5 (bv o):: .bI g2 366 [bq g]::F)) _ ⟨n+1,s,[],none,0,⟨ho,rfl,bD _,λ_=>by simp,rfl⟩,rfl,a_,.c_ C9⟩ ?_;rintro _ _ _ ⟨f,s',o,A5,c5,⟨ho',Hc,G9,hf,hG⟩,rfl,hs,hp⟩;refine aL hs hp (bf 3 10 17 [1,2,5] ((E o:Int)<n/\s'.e=0) ?_ ?_)
 ·refine bC 5 (λjZ=>?_) λjZ=>?_
  ·refine fb ?_;exact ai rfl (ik) (ax 3 (k:=oJ))
  ·exact ax 4 (k:=wo)
 ·refine ag 2 (λgH=>?_) λgH=>?_
  ·obtain⟨f',rfl⟩:∃f',f=f'+1:=⟨f-1,by have:=hf gH.2;omega⟩
   have x8:=aeo (s:=s') G9 hn;have hf':=hf gH.2;have hLb:aJ B w0 (.own 5 1 A5 (E o) c5 (bv o):: .bI g2 366 [bq g]::F) 1 (.slice A (E s'.b) c) (E s'.b) (bv s'.b):=.cons (.cons (nC s' Hc));have arx:bg B w0 173 [bq g] _ (λr L=>r= .int .u8 ((lvX s').toNat:Int)/\L=_):=oK (g:=g) ho' hLb;have hint:bg B w0 172 [bq g,ah ((n:Int)-E o)] _ (λr L=>r=ah (Rj n s' o)/\L=Cv g A c (MA n s' o)::_):=jb (g:=g) ho'.eV (by rw[Kb];exact hLb) aa aa;refine dg ?_;refine ai rfl (arx) (fF ?_);refine ai rfl (hint) (fc ?_);refine dq (λzf zL=>Sub zf [(1,ah n),(2,bq g2),(5,.slice A5 (E o) c5),(6,.int .u8 (lvX s').toNat),(7,ah (Rj n s' o))]/\Wk zL (Cv g A c (MB n s' o):: .own 5 1 A5 (E o) c5 (bv o):: .bI g2 366 [bq g]::F)) ?_ ?_
   ·refine bf 2 23 50 [1,2,5,6,7] ((MA n s' o).e=0/\((Rj n s' o:Int)=0\/(0:Int)<E o/\((o.getD (E o-1) 0).toNat:Int)=((lvX s').toNat:Int))) ?_ ?_
    ·refine ew ?_;refine ai rfl (ik) (bC 2 (λvJ=>?_) λvJ=>?_)
     ·refine bk 5 (λAV=>?_) (λAV=>?_)
      ·refine bC 7 (λQ_=>?_) λQ_=>?_
       ·refine dw ?_;exact ab (cU rfl rfl (r:=((E o-1:Nat):Int)) ((bj aa aa).trans aa)) rfl (ax 13 (k:=oJ))
       ·exact ax 12 (k:=wo)
      ·exact ax 15 (k:=wm)
     ·exact ax 17 (k:=wo)
    ·refine ag 2 (λOe=>?_) λOe=>?_
     ·refine fc ?_;refine ai rfl (ny 2) (aX ?_);have wx:E9 n s' o:=⟨Oe.1,by rcases Oe.2 with h|h;exact .inl aa;exact .inr ⟨aa,oF.1 aa⟩⟩
      have hT:MB n s' o=(MA n s' o).failed 2:=av wx;rw[hT];exact bo ⟨a_,.refl _⟩
     ·refine aX ?_;have wx:¬E9 n s' o:=λh=>Oe ⟨h.1,by rcases h.2 with h|h;exact .inl aa;exact .inr ⟨aa,by rw[h.2]⟩⟩;have hT:MB n s' o=MA n s' o:=aB wx;rw[hT];exact bo ⟨a_,.refl _⟩
   ·rintro _ _ ⟨hs,hp⟩;refine aL hs hp (fc ?_);refine cv (aG bP [_] rfl rfl bY aa aa) λA56=>aX ?_;refine ay rfl (afj (lvX s') (Rj n s' o) aA aa) λA58 c58=>?_;refine dB (bB bP rfl aU rfl aA bY aa aa) λA59 c59=>fc ?_;have el:E o+Rj n s' o=E (o++List.replicate (Rj n s' o) (lvX s')):=by simp
    have rv:=Tu (f:=f') (n:=n) (s:=s') (o:=o) ⟨aa,gH.2⟩;rw[hG]at rv;rw[el];refine aj ⟨_,aa,f',MB n s' o,o++List.replicate (Rj n s' o) (lvX s'),A59,c59,⟨ho'.MB hn,(alE _ _ _).trans Hc,by rw[<-el];exact x8,λh=>by rw[<-el];have h1:=(Tv h).1;have h2:=(Tv h).2.1;have h3:Rj n s' o≠0:=λhz=>h1 ⟨h2,.inl hz⟩;omega,rv.symm⟩,rfl,a_,.s2 (.cons (au rfl ao (.refl _)))⟩
  ·refine dM ?_;have hz:Hq (n+1) n s []=(o,s'):=by rw[<-hG,zl aa]
   rw[hz];exact ak (L':=Cv g A c s':: .own 5 1 A5 (E o) c5 (bv o)::F) (.cons (.cons (.skip (.refl _)))) (bO 1)
theorem agn:∀(k was:Nat) {s:Cs},cw s->cw (CG k was s).2/\(CG k was s).2.b=s.b
 |0,_,s,h=>⟨h,rfl⟩
 |k+1,was,s,h=>by
  rw[CG];split
  ·have:=agn k (Am was (UQ s.num)) h.lK;exact⟨this.1,this.2.trans (Lg s)⟩
  ·exact⟨h,rfl⟩
theorem aen{n:Nat}(hn:n<=1000000000):∀(f:Nat) {s:Cs} {o:aq},cw s->cw (Hq f n s o).2/\(Hq f n s o).2.b=s.b
 |0,s,o,h=>⟨h,rfl⟩
 |f+1,s,o,h=>by
  rw[Hq];split
  ·have:=aen hn f (o:=o++List.replicate (Rj n s o) (lvX s)) (h.MB (n:=n) (o:=o) hn);exact⟨this.1,this.2.trans (alE n s o)⟩
  ·exact⟨h,rfl⟩
def MC(n:Nat)(l:aq):br×Cs:=CG n 0 ⟨l,0,0⟩
def Ht(n:Nat)(l:aq):aq×Cs:=Hq (n+1) n (MC n l).2 []
def om(n:Int)(l:aq):br×aq×Nat×Int:=
 if n<0\/20000<n then ([],[],0,13) else if (Ht n.toNat l).2.e≠0 then ([],[],0,(Ht n.toNat l).2.e) else ((MC n.toNat l).1,(Ht n.toNat l).1,(Ht n.toNat l).2.at_,0)
theorem Xh{n:Int}(h:n<0\/20000<n):om n l=([],[],0,13):=av h
theorem Xi(h:¬((n:Int)<0\/(20000:Int)<n))(he:¬(Ht n l).2.e=0):om n l=([],[],0,(Ht n l).2.e):=by
 unfold om;rw[aB h,lJ,av he]
theorem TY(h:¬((n:Int)<0\/(20000:Int)<n))(he:(Ht n l).2.e=0):om n l=((MC n l).1,(Ht n l).1,(Ht n l).2.at_,0):=by
 unfold om;rw[aB h,lJ,aB MS]
theorem ajJ:bg B w0 177 [bq g] (Cv g A c s::F) (λr L=>r=ah s.at_/\L=Cv g A c s::F):=by
 refine fw func177 10 [0] ?_;exact cm 27
theorem T5(n:Int)(hb:gw B w0 F A c l)(hl:E l<=1000000000)(Zl:-9223372036854775808<=n)(ry:n<=9223372036854775807):
  bg B w0 225 [ah n,.slice A (E l) c] F (λr L=>∃A1 c1 A2 c2,r= .tuple #[.slice A1 (E (om n l).1) c1,.slice A2 (E (om n l).2.1) c2,ah (om n l).2.2.1,ah (om n l).2.2.2]/\L= .own 60 1 A1 (E (om n l).1) c1 (p9 (om n l).1):: .own 5 1 A2 (E (om n l).2.1) c2 (bv (om n l).2.1)::F):=by
 have ho0:cw ⟨l,0,0⟩:=⟨bD _,cX⟩
 refine fw func225 38 [0,1] ?_;refine bf 11 6 17 [0,1] (n<0\/20000<n) ?_ ?_
 ·refine bk 3 (λgT=>?_) (λgT=>?_)
  ·exact ax 4 (k:=Vl)
  ·exact ax 2 (k:=Vl)
 ·refine ag 2 (λgH=>?_) λgH=>?_
  ·refine dh ?_;rw[Xh gH];exact aH 5 1 none (aH 60 1 none (N9 1))
  ·obtain⟨m,rfl⟩:=gl (show 0<=n by omega);have hT:=agn m 0 ho0;have hV:=aen (n:=m) aa (m+1) (o:=[]) hT.1;change cw (MC m l).2/\(MC m l).2.b=l at hT;change cw (Ht m l).2/\(Ht m l).2.b=(MC m l).2.b at hV;refine dx ?_;refine dV rfl (n_ hb aa) λg19 GA Q4=>ab (eJ [(0,_)] [_] rfl rfl ae) rfl (fo λg8=>?_);refine dg ?_;refine ay rfl ((akl m ho0 (.cons (aJ.own (List.Mem.head _))) aa).perm swp) λX8 c23=>?_;change VL _ _ _ _ ((23,.slice X8 (E (MC m l).1) c23)::_) (Cv g19 GA Q4 (MC m l).2:: .own 60 1 X8 (E (MC m l).1) c23 (p9 (MC m l).1)::_);refine dg ?_;refine ay rfl (aeb m hT.1 (by rw[hT.2];exact .cons (.cons (aJ.own (List.Mem.head _)))) aa) λsp zV=>?_;change VL _ _ _ _ ((26,.slice sp (E (Ht m l).1) zV)::_) (Cv g19 GA Q4 (Ht m l).2:: .own 5 1 sp (E (Ht m l).1) zV (bv (Ht m l).1)::_);refine cY ?_;refine ai rfl (ik) (ag 9 (λAU=>?_) λAU=>?_)
   ·refine aD 7 [4,5,6,7] 3 ?_;rw[Xi gH AU];exact aH 5 1 none (aH 60 1 none (ak (L':=.own 60 1 none 0 0 []:: .own 5 1 none 0 0 []::F) (.cons (.cons (.s5 (.refl _)))) (N9 1)))
   ·refine cY ?_;refine ai rfl (ajJ) (aD 4 [4,5,6,7] 2 ?_);rw[TY gH (gE.1 AU)];exact ak (L':=.own 60 1 X8 (E (MC m l).1) c23 (p9 (MC m l).1):: .own 5 1 sp (E (Ht m l).1) zV (bv (Ht m l).1)::F) (.skip (.swap (.cons (.cons (.s2 (.refl _)))))) (N9 1)
theorem abA{a b:Nat}(ha:a<18446744073709551616)(hb:b<18446744073709551616):Am b (dlt a b)=a:=by
 unfold Am dlt;omega
theorem XP:∀(L:List aI) (was:Nat) (s:Cs) (r:aq),was<18446744073709551616->s.e=0->(∀x∈L,x.1<18446744073709551616)->s.rest=qI was L++r->(CG (E L) was s).1=L.map (·.1)/\nX s (CG (E L) was s).2 (qI was L)
 |[],was,s,r,_,h0,_,_=>⟨rfl,nX.nil h0⟩
 |x::L,was,s,r,hw,h0,hx,hr=>by
  have AZ:=hx x ao;rw[qI,bT]at hr;obtain⟨n1,d1⟩:=Cs.W8 h0 (UR (Eg x.1 was)) hr;have hz:Am was (UQ s.num)=x.1:=by rw[n1,akQ (Eg _ _),abA AZ hw]
  obtain⟨i1,i2⟩:=XP L x.1 s.lK r AZ d1.e1 (λy hy=>hx y B8) (d1.cP hr);rw[ei,CG,av h0,hz];exact⟨by simp[i1],d1.trans i2⟩
theorem P8(x:UInt8):∀(l:aq),l.take (run x l)=List.replicate (run x l) x
 |[]=>rfl
 |y::l=>by
  unfold run;split
  ·rename_i h;rw[nK,P8 x l,Bf,h]
  ·rfl
theorem Xu(x:UInt8):∀(l:aq) (y:UInt8),(l.drop (run x l)).head?=some y->y≠x
 |[],y,h=>by simp[run]at h
 |z::l,y,h=>by
  unfold run at h;split at h
  ·rw[Co]at h;exact Xu x l y h
  ·rename_i hz;simp at h;exact λe=>hz (h.trans e)
theorem ad6(o:aq)(x:UInt8)(q:Nat):(o++List.replicate (1+q) x).getD (E (o++List.replicate (1+q) x)-1) 0=x:=by
 have:E (o++List.replicate (1+q) x)-1=E o+q:=by simp;omega
 rw[this];simp[List.getD]
theorem WZ(n:Nat)(hn:n<=1000000000):∀(f:Nat) (l o:aq) (s:Cs) (r:aq),s.e=0->n=E o+E l->(∀x,l.head?=some x->0<E o->o.getD (E o-1) 0≠x)->s.rest=oL none l++r->E l<f->(Hq f n s o).1=o++l/\nX s (Hq f n s o).2 (oL none l)
 |0,l,o,s,r,_,_,_,_,hf=>absurd hf aa
 |f+1,[],o,s,r,h0,IY,_,hr,hf=>by
  simp at IY;rw[zl (λh=>aa)];exact⟨ao,nX.nil h0⟩
 |f+1,x::l,o,s,r,h0,IY,tO,hr,hf=>by
  have hq:=Ua x l;simp only[ei]at IY hf;have hc:oL none (x::l)=[x]++(aW (1+run x l)++oL none (l.drop (run x l))):=by
   rw[oL,aB ao,D4];rfl
  rw[hc]at hr⊢;have uG:s.rest=x::(aW (1+run x l)++(oL none (l.drop (run x l))++r)):=by rw[hr];simp
  obtain⟨b1,db⟩:=Cs.mo h0 uG;have z6:=db.cP (p:=[x]) uG;obtain⟨k1,dk⟩:=Cs.iW (m:=(n:Int)-E o) (x:=1+run x l) db.e1 aa aa z6;have hr3:=dk.cP z6;have hK:Rj n s o=1+run x l:=k1;have hX:lvX s=x:=b1;have hS:(MA n s o).e=0:=dk.e1;have wx:¬E9 n s o:=by
   rintro⟨_,h|⟨h1,h2⟩⟩
   ·omega
   ·exact tO x rfl h1 (h2.trans hX)
  have hT:MB n s o=MA n s o:=aB wx;rw[Tu ⟨aa,h0⟩,hT,hK,hX];obtain⟨i1,i2⟩:=WZ n hn f (l.drop (run x l)) (o++List.replicate (1+run x l) x) (MA n s o) r hS bS (λy hy _=>by rw[ad6];exact λe=>Xu x l y hy e.symm) hr3 l0;refine⟨?_,(db.trans (dk.trans i2))⟩;rw[i1,bT];congr 1;rw[tx 1,Bf,<-P8 x l,nM,kH]
theorem Yz(hx:∀x∈L,x.1<18446744073709551616)(hl:E L<=20000)(r:aq):om (E L) (kM L++r)=(L.map (·.1),lv L,E (kM L),0):=by
 obtain⟨t1,t2⟩:=XP L 0 ⟨kM L++r,0,0⟩ (oL none (lv L)++r) aa rfl hx (by simp[Cs.rest,kM]);have z6:=t2.cP (r:=oL none (lv L)++r) (by simp[Cs.rest,kM]);change (MC (E L) (kM L++r)).1=_ at t1;change nX _ (MC (E L) (kM L++r)).2 _ at t2;change (MC (E L) (kM L++r)).2.rest=_ at z6;obtain⟨v1,v2⟩:=WZ (E L) aa (E L+1) (lv L) [] (MC (E L) (kM L++r)).2 r t2.e1 (by simp[rV]) (λ_ _ h=>absurd h ao) z6 (by rw[rV];omega);change (Ht (E L) (kM L++r)).1=_ at v1;change nX _ (Ht (E L) (kM L++r)).2 _ at v2;rw[TY aa v2.e1,t1,v1];have he:=(t2.trans v2).eq;rw[he];simp[kM]
section
theorem abS(h:P:=by(simp[MapKept.IsKey])):P:=h
theorem WO:type_of% @List.getElem?_cons_succ:= @List.getElem?_cons_succ
theorem Cw:type_of% @MapKept.run_getObj_map:= @MapKept.run_getObj_map
def gD:Nat->List (aq×Value)->List MapEntry
 |_,[]=>[]
 |i,p::r=>⟨.string ⟨p.1.toArray⟩,p.2,i⟩::gD (i+1) r
def W0(D:List (aq×Value)):Obj:=.map (gD 0 D).toArray (E D)
def nH(t:aq):List (aq×Value)->Nat->Option (Nat×Value)
 |[],_=>none
 |p::r,i=>if t=p.1 then some (i,p.2) else nH t r (i+1)
def Fw(D:List (aq×Value))(t:aq)(v:Value):List (aq×Value):=
 match nH t D 0 with
 |some (i,_)=>D.set i (t,v)
 |none=>D++[(t,v)]
theorem oM:∀(D:List (aq×Value)) (i:Nat),E (gD i D)=E D
 |[],_=>rfl
 |_::r,i=>by simp[gD,oM r]
theorem IB:∀(D:List (aq×Value)) (i k:Nat) (h:k<E D),(gD i D)[k]? =some ⟨.string ⟨(D[k]'h).1.toArray⟩,(D[k]'h).2,i+k⟩
 |_::r,i,0,h=>rfl
 |_::r,i,k+1,h=>by
  have:=IB r (i+1) k ml;simp only[gD,WO,List.getElem_cons_succ];rw[this];congr 2;omega
theorem Ep:∀(D:List (aq×Value)) (i:Nat) (p:aq×Value),gD i (D++[p])=gD i D++[⟨.string ⟨p.1.toArray⟩,p.2,i+E D⟩]
 |[],i,p=>rfl
 |q::r,i,p=>by
  simp only[nM,gD,Ep r (i+1) p,ei];rw[show i+1+E r=i+(E r+1) by omega]
theorem aj9(t k:aq):((⟨t.toArray⟩:ByteArray)==(⟨k.toArray⟩:ByteArray))=decide (t=k):=by
 rw[Bool.eq_iff_iff,MapKept.bytes_beq,decide_eq_true_iff];exact⟨λe=>by simpa using eG (λb:ByteArray=>b.data.toList) e,λe=>B9⟩
theorem sD(t:aq):∀(D:List (aq×Value)) (j i:Nat),Instr.findNow .string (.string ⟨t.toArray⟩) (gD j D) i=some (nH t D i)
 |[],_,_=>rfl
 |p::r,j,i=>by
  simp only[gD,Instr.findNow,Instr.sameNow,aj9,nH];by_cases h:t=p.1
  ·rw[pK h,av h]
  ·rw[oi h,aB h];exact sD t r (j+1) (i+1)
theorem IM{t:aq}:∀{D:List (aq×Value)} {i j:Nat} {v:Value},nH t D i=some (j,v)->∃k,j=i+k/\∃h:k<E D,D[k]=(t,v)
 |p::r,i,j,v,h=>by
  unfold nH at h;split at h
  ·rename_i e;simp only[CZ,za]at h;exact⟨0,aa,ao,by simp[<-h.2,e]⟩
  ·obtain⟨k,h1,h2,h3⟩:=IM h;exact⟨k+1,aa,qi,by simpa using h3⟩
section
variable{C:Cx}{fr:Fr}{L:aN}{x y z:Operand}{f:Ch->aN}{t k e ty:TypeId}{g:Nat}{D:List (aq×Value)}{s:aq}{v zv:Value}
theorem NI:ra C fr L (.makeMap t none) ty (λp L'=>∃g,p= .map (some g)/\L'= .obj g (W0 [])::L):=λa w ha hw d pos af gg=>
 ⟨.map (some w.heap.size),w.alloc (.map #[] 0),.obj w.heap.size (W0 [])::L,.inl (by simp[execOp,run_makeMap_plain]),⟨w.heap.size,rfl,rfl⟩,
  hw.gZ (KW w _ none) ⟨hw.base,(MapKept.heap_alloc w (.map #[] 0)).1⟩ (.inr ⟨_,rfl,ga _⟩)⟩
theorem Ec(ht:C.P.underlying t=some (.map k e))(hk:C.P.underlying k=some .string)(hz:∀w,(zeroValue e).run C.P w= .ok zv w)(hm:ev fr x=some (.map (some g)))(hx:ev fr y=some (.string ⟨s.toArray⟩))(hs:m9 (.obj g (W0 D)) L f):
  gX C fr L (.lookup t x y false) ty (((nH s D 0).map (·.2)).getD zv):=λa w ha hw d pos af gg=>by
 have hb:w.heap[g]? =some (.map (gD 0 D).toArray (E D)):=(hw.all _ hs.mem).2;have hc:∀em,(Instr.checkKey em 10000 k (.string ⟨s.toArray⟩)).run C.P w= .ok () w:=λem=>MapKept.run_checkKey (k:=.string ⟨s.toArray⟩) hk abS em 9999;have hf:=MapKept.run_findKey (P:=C.P) (w:=w) hk (sD s D 0 0);cases hfd:nH s D 0 with
 |none=>
  rw[hfd]at hf;simp[execOp,ha.tmp hm,ha.tmp hx,Instr.lookup,jk ht,Cw hb,hc,hf,hz,Result.andThen]
 |some q=>
  rw[hfd]at hf;obtain⟨j,u⟩:=q;simp[execOp,ha.tmp hm,ha.tmp hx,Instr.lookup,jk ht,Cw hb,hc,hf,Result.andThen]
theorem IC:∀(D:List (aq×Value)) (i j:Nat) (p:aq×Value),j<E D->gD i (D.set j p)=(gD i D).modify j λe=>{e with key:=.string ⟨p.1.toArray⟩,val:=p.2}
 |q::r,i,0,p,_=>by simp[gD]
 |q::r,i,j+1,p,h=>by
  simp only[OS,gD,List.modify_succ_cons];rw[IC r (i+1) j p ml]
theorem G0(ht:C.P.underlying t=some (.map k e))(hk:C.P.underlying k=some .string)(hm:ev fr x=some (.map (some g)))(hx:ev fr y=some (.string ⟨s.toArray⟩))(hv:ev fr z=some v)(hs:m9 (.obj g (W0 D)) L f):
  ra C fr L (.mapUpdate t x y z) ty (λp L'=>L'=f (.obj g (W0 (Fw D s v)))):=λa w ha hw d pos af gg=>by
 have hb:w.heap[g]? =some (.map (gD 0 D).toArray (E D)):=(hw.all _ hs.mem).2;have hc:∀em,(Instr.checkKey em 10000 k (.string ⟨s.toArray⟩)).run C.P w= .ok () w:=λem=>MapKept.run_checkKey (k:=.string ⟨s.toArray⟩) hk abS em 9999;have hf:=MapKept.run_findKey (P:=C.P) (w:=w) hk (sD s D 0 0);have gU:=(Hh.1 hb).1;have lB:∀o,SL C.B C.w0 (f (.obj g o)) {w with heap:=w.heap.setIfInBounds g o}:=λo=>
  hw.Xx hs ⟨rfl,rfl,rfl,ao,λj _ hj=>by
   have:g≠j:=λe=>hj H6;simp[this]⟩ (λh=>⟨h.1,by simp[gU]⟩) (.inr (.inl rfl))
 cases hfd:nH s D 0 with
 |none=>
  rw[hfd]at hf;have e1:W0 (Fw D s v)= .map ((gD 0 D).toArray.push ⟨.string ⟨s.toArray⟩,v,E D⟩) (E D+1):=by
   unfold Fw W0;rw[hfd];simp[Ep]
  refine⟨undef,_,_,.inr ⟨?_,rfl⟩,rfl,by rw[e1];exact lB _⟩;simp[execOp,ha.tmp hm,ha.tmp hx,ha.tmp hv,Instr.mapUpdate,jk ht,Cw hb,hc,hf,MapKept.run_setObj_map _ hb,Result.andThen]
 |some q=>
  rw[hfd]at hf;obtain⟨j,u⟩:=q;obtain⟨j',hj,hjl,hje⟩:=IM hfd;obtain rfl:j=j':=by omega
  have hg:=IB D 0 j hjl;have e1:W0 (Fw D s v)= .map ((gD 0 D).toArray.modify j λe=>{e with key:=.string ⟨s.toArray⟩,val:=v}) (E D):=by
   unfold Fw W0;rw[hfd];simp[IC D 0 j (s,v) hjl]
  have hky:(Instr.keyThatStays (.string ⟨s.toArray⟩) (.string ⟨s.toArray⟩)).run C.P w= .ok (.string ⟨s.toArray⟩) w:=MapKept.run_keyThatStays (d:=.string) abS;have Mu:(((gD 0 D).toArray[j]?).map (·.key)).getD (.string ⟨s.toArray⟩)= .string ⟨s.toArray⟩:=by
   rw[List.getElem?_toArray,hg,hje];rfl
  refine⟨undef,_,_,.inr ⟨?_,rfl⟩,rfl,by rw[e1];exact lB _⟩;simp only[execOp,ha.tmp hm,ha.tmp hx,ha.tmp hv,Instr.mapUpdate];simp[jk ht,Cw hb,hc,hf,Result.andThen];simp at Mu;simp[Mu,hky,MapKept.run_setObj_map _ hb]
end
end
abbrev CL:=aq×bh×Nat×br
def Sr(e:CL):Value:=.slice e.2.1 (E e.2.2.2) e.2.2.1
def lG(D:List CL):List (aq×Value):=D.map λe=>(e.1,Sr e)
def uA(e:CL):Ch:=.own 3 1 e.2.1 (E e.2.2.2) e.2.2.1 (bN e.2.2.2)
def wO(t:aq):List CL->br
 |[]=>[]
 |e::r=>if t=e.1 then e.2.2.2 else wO t r
def HA(t:aq)(A:bh)(c i:Nat):List CL->List CL
 |[]=>[(t,A,c,[i])]
 |e::r=>if t=e.1 then (t,A,c,e.2.2.2++[i])::r else e::HA t A c i r
theorem vG(t:aq):∀(D:List (aq×Value)) (i:Nat),nH t D (i+1)=(nH t D i).map λq=>(q.1+1,q.2)
 |[],_=>rfl
 |p::r,i=>by
  unfold nH;split
  ·rfl
  ·exact vG t r (i+1)
theorem aak(t:aq)(v:Value)(p:aq×Value)(r:List (aq×Value)):Fw (p::r) t v=if t=p.1 then (t,v)::r else p::Fw r t v:=by
 unfold Fw;have e:nH t (p::r) 0=if t=p.1 then some (0,p.2) else nH t r (0+1):=rfl
 by_cases h:t=p.1
 ·rw[e,av h,av h];rfl
 ·rw[e,aB h,aB h,vG];cases nH t r 0 with
  |none=>rfl
  |some q=>rfl
theorem Xg(t:aq)(A:bh)(c i:Nat):∀(D:List CL),Fw (lG D) t (.slice A (E (wO t D)+1) c)=lG (HA t A c i D)
 |[]=>by simp[Fw,lG,nH,wO,HA,Sr]
 |e::r=>by
  have ih:=Xg t A c i r;show Fw ((e.1,Sr e)::lG r) t _=_;rw[aak];unfold wO HA;by_cases h:t=e.1
  ·rw[av h,av h,av h];simp[lG,Sr]
  ·rw[aB h,aB h,aB h,ih];rfl
theorem Wm(t:aq):∀(D:List CL),∃(A:bh) (c:Nat) (R:aN),
  (((nH t (lG D) 0).map (·.2)).getD (.slice none 0 0)= .slice A (E (wO t D)) c)/\
  ((D.map uA).Perm (.own 3 1 A (E (wO t D)) c (bN (wO t D))::R)\/(A=none/\c=0/\wO t D=[]/\R=D.map uA))/\
  (∀A' c' i,((HA t A' c' i D).map uA).Perm (.own 3 1 A' (E (wO t D)+1) c' (bN (wO t D++[i]))::R))
 |[]=>⟨none,0,[],rfl,.inr ⟨rfl,rfl,rfl,rfl⟩,λA' c' i=>.refl _⟩
 |e::r=>by
  by_cases h:t=e.1
  ·refine⟨e.2.1,e.2.2.1,r.map uA,?_,.inl ?_,λA' c' i=>?_⟩
   ·show((nH t ((e.1,Sr e)::lG r) 0).map (·.2)).getD _=_;unfold nH wO;rw[av h,av h];rfl
   ·unfold wO;rw[av h];exact .refl _
   ·unfold wO HA;rw[av h,av h];simp only[iN,uA,bm,tz];exact .refl _
  ·obtain⟨A,c,R,h1,h2,h3⟩:=Wm t r;refine⟨A,c,uA e::R,?_,?_,λA' c' i=>?_⟩
   ·show((nH t ((e.1,Sr e)::lG r) 0).map (·.2)).getD _=_;unfold nH wO;rw[aB h,aB h,vG,<-h1];cases nH t (lG r) 0<;>rfl
   ·unfold wO;rw[aB h];rcases h2 with h2|⟨h2,h4,h5,h6⟩
    ·exact .inl ((h2.cons _).trans (.swap _ _ _))
    ·exact .inr ⟨h2,h4,h5,by rw[h6];rfl⟩
   ·unfold wO HA;rw[aB h,aB h];exact((h3 A' c' i).cons _).trans (.swap _ _ _)
theorem St(t s:aq)(A:bh)(c i:Nat):∀(D:List CL),wO s (HA t A c i D)=if s=t then wO s D++[i] else wO s D
 |[]=>by
  unfold HA wO;split<;>simp[wO]
 |e::r=>by
  unfold HA;by_cases h:t=e.1
  ·rw[av h];unfold wO;by_cases h2:s=t
   ·subst h2;simp[h]
   ·rw[aB h2,aB h2,aB (λq=>h2 (q.trans h.symm))]
  ·rw[aB h];unfold wO;by_cases h2:s=e.1
   ·rw[av h2,av h2,aB (λq=>h (q.symm.trans h2))]
   ·rw[aB h2,aB h2];exact St t s A c i r
theorem KZ(t s:aq)(A:bh)(c i:Nat):∀(D:List CL),s∈(HA t A c i D).map (·.1)↔s=t\/s∈D.map (·.1)
 |[]=>by simp[HA]
 |e::r=>by
  unfold HA;by_cases h:t=e.1
  ·rw[av h];simp[h]
  ·rw[aB h,iN,fq,KZ t s A c i r,iN,fq];exact⟨λh=>h.elim (λh=>.inr (.inl h)) (λh=>h.elim .inl λh=>.inr (.inr h)),λh=>h.elim (λh=>.inr (.inl h)) (λh=>h.elim .inl λh=>.inr (.inr h))⟩
theorem Pr(t:aq)(A:bh)(c i:Nat):∀(D:List CL),(D.map (·.1)).Nodup->((HA t A c i D).map (·.1)).Nodup
 |[],_=>by simp[HA]
 |e::r,h=>by
  rw[iN,List.nodup_cons]at h;unfold HA;by_cases ht:t=e.1
  ·rw[av ht,iN,List.nodup_cons];exact⟨by rw[ht];exact h.1,h.2⟩
  ·rw[aB ht,iN,List.nodup_cons,KZ];exact⟨λq=>q.elim (λq=>ht q.symm) h.1,Pr t A c i r h.2⟩
theorem agK(t:aq)(A:bh)(c i:Nat):∀(D:List CL),E (HA t A c i D)<=E D+1
 |[]=>by simp[HA]
 |e::r=>by
  unfold HA;split
  ·simp
  ·have:=agK t A c i r;simp;omega
theorem X7{P:Program}{e:TypeId}{zv:Value}(h:(P.info? e).bind (·.zero)=some zv)(w:World):(zeroValue e).run P w= .ok zv w:=by
 cases hi:P.info? e with
 |none=>rw[hi]at h;simp at h
 |some i=>rw[hi]at h;simp at h;simp[zeroValue,typeInfo,hi,h]
theorem as9{C:Cx}{c:Code}{Q:Exit->Fr->aN->Prop}{fr:Fr}{L M:aN}(h:∀w,SL C.B C.w0 L w->SL C.B C.w0 M w)(k:VC C c Q fr M):VC C c Q fr L:=λa w ha hw=>k a w ha (h w hw)
section
abbrev cJ:=aq
def leT(s r:cJ):Prop:=Op.bytesLess s r=true\/s=r
instance (s r:cJ):Decidable (leT s r):=inferInstanceAs (Decidable (_\/_))
theorem aiV(s r:cJ):(Op.bytesLess s r||decide (s=r))=decide (leT s r):=by
 by_cases hp:leT s r
 ·rw[pK hp];rcases hp with h|h<;>simp[h]
 ·rw[oi hp];unfold leT at hp;have h1:¬Op.bytesLess s r=true:=λh=>hp (.inl h);have h2:¬s=r:=λh=>hp (.inr h);simp[h1,h2]
section
variable{C:Cx}{fr:Fr}{L:aN}{x y:Operand}{s r:aq}{xt yt ty:TypeId}
theorem R7(h1:ev fr x=some (.string ⟨s.toArray⟩))(h2:ev fr y=some (.string ⟨r.toArray⟩)):gX C fr L (.binOp .gtr xt x y yt) ty (.bool (decide (¬leT s r))):=by
 have h:=YF (C:=C) (L:=L) (xt:=xt) (yt:=yt) (ty:=ty) h1 h2;rw[aiV,<-decide_not]at h;exact h
end
def uX(was s:cJ):Prop:=s≠[]/\E s<=25/\¬leT s was
instance (was s:cJ):Decidable (uX was s):=inferInstanceAs (Decidable (_/\_/\_))
def fP(l:List cJ)(i:Nat):cJ:=if i=0 then [] else l.getD (i-1) []
def m8(l:List cJ):Prop:=(∀i,i<E l->uX (fP l i) (l.getD i []))/\E l<=1048576
instance (l:List cJ):Decidable (m8 l):=inferInstanceAs (Decidable ((∀i,i<E l->_)/\_))
theorem aaj(l:List cJ)(i:Nat):fP l (i+1)=l.getD i []:=by simp[fP]
theorem Ps{s:cJ}(h:s≠[]):¬leT s []:=by
 rintro(h1|h1)
 ·cases s<;>simp[Op.bytesLess]at h1
 ·exact h h1
def qt:cJ->cJ->Nat
 |x::a,y::b=>if x=y then qt a b+1 else 0
 |_,_=>0
theorem Bh:∀a b:cJ,qt a b<=E a/\qt a b<=E b
 |[],_=>by simp[qt]
 |_::_,[]=>by simp[qt]
 |x::a,y::b=>by
  unfold qt;have:=Bh a b;split<;>simp only[ei]<;>omega
theorem mI:∀(a b:cJ) (n:Nat),n<=qt a b->(n<qt a b↔(n<E a/\n<E b)/\a.getD n 0=b.getD n 0)
 |[],_,n,h=>by simp[qt]
 |_::_,[],n,h=>by simp[qt]
 |x::a,y::b,n,h=>by
  unfold qt at h⊢;split at h
  ·rename_i he;rw[av he];cases n with
   |zero=>simp[he]
   |succ n=>
    have:=mI a b n aa;simp only[ei,tA];exact⟨λh=>by obtain⟨⟨h1,h2⟩,h3⟩:=this.1 aa;exact⟨⟨aa,aa⟩,h3⟩,λh=>by have:=this.2 ⟨⟨aa,aa⟩,h.2⟩;omega⟩
  ·rename_i he;rw[aB he];have:n=0:=by omega
   subst this;simp[he]
def ja:cJ->List cJ->aq
 |_,[]=>[]
 |was,s::r=>aW (qt was s)++fg (s.drop (qt was s))++ja s r
def dR:List cJ->aq
 |[]=>[]
 |t::r=>fg t++ja t r
end
def x'(a b:cJ):Prop:=Op.bytesLess a b=true
instance (a b:cJ):Decidable (x' a b):=inferInstanceAs (Decidable (_=_))
theorem qv(a:cJ):¬x' a []:=by cases a<;>simp[x',Op.bytesLess]
theorem sM(b:UInt8)(y:cJ):x' [] (b::y):=rfl
theorem uT{b:UInt8}{x y:cJ}:x' (a::x) (b::y)↔a<b\/a=b/\x' x y:=by simp[x',Op.bytesLess]
theorem QM{b:UInt8}:a<b↔a.toNat<b.toNat:=UInt8.lt_iff_toNat_lt
theorem agD{b:UInt8}:a=b↔a.toNat=b.toNat:=oF.symm
theorem je:∀a:cJ,¬x' a a
 |[]=>qv _
 |a::x=>by
  rw[uT,QM];have:=je x;rintro(h|⟨_,h⟩)
  ·omega
  ·exact this h
theorem nm:∀{a b c:cJ},x' a b->x' b c->x' a c
 |_,_,[],_,h=>absurd h (qv _)
 |_,[],_::_,h,_=>absurd h (qv _)
 |[],_::_,c::z,_,_=>sM c z
 |a::x,b::y,c::z,h1,h2=>by
  rw[uT,QM]at*;rw[agD]at*;rcases h1 with h1|⟨h1,Su⟩<;>rcases h2 with h2|⟨h2,h2'⟩
  ·left;omega
  ·left;omega
  ·left;omega
  ·exact .inr ⟨aa,nm Su h2'⟩
theorem rU:∀a b:cJ,x' a b\/a=b\/x' b a
 |[],[]=>.inr (.inl rfl)
 |[],b::y=>.inl (sM b y)
 |a::x,[]=>.inr (.inr (sM a x))
 |a::x,b::y=>by
  rw[uT,uT,QM,QM,List.cons.injEq,agD,agD];rcases OQ a.toNat b.toNat with h|h|h
  ·exact .inl (.inl h)
  ·rcases rU x y with h1|h1|h1
   ·exact .inl (.inr ⟨h,h1⟩)
   ·exact .inr (.inl ⟨h,h1⟩)
   ·exact .inr (.inr (.inr ⟨h.symm,h1⟩))
  ·exact .inr (.inr (.inl h))
theorem anH{s r:cJ}:leT s r↔x' s r\/s=r:=Iff.rfl
theorem Le{s r:cJ}:¬leT s r↔x' r s:=by
 rw[anH];constructor
 ·intro h;rcases rU s r with h1|h1|h1
  ·exact absurd (.inl h1) h
  ·exact absurd (.inr h1) h
  ·exact h1
 ·rintro h (h1|h1)
  ·exact je _ (nm h h1)
  ·subst h1;exact je _ h
theorem W6{s r:cJ}:¬x' s r↔leT r s:=by rw[<-Le,gE]
theorem aiW{a b c:cJ}(h:leT a b)(k:x' b c):x' a c:=h.elim (λh=>nm h k) (λh=>h▸k)
theorem ai8{a b c:cJ}(h:x' a b)(k:leT b c):x' a c:=k.elim (λk=>nm h k) (λk=>k▸h)
def bgT(x s:cJ):Prop:=E s<=E x/\x.take (E s)=s
instance (x s:cJ):Decidable (bgT x s):=inferInstanceAs (Decidable (_/\_))
end Go.Proofs.YtaodmbolhoafcaaGreatDoor
namespace Go.Proofs
open Go.RowKit Go.Maps Go.Sort Go.Shelf
theorem OW:type_of% @List.length_mergeSort:= @List.length_mergeSort
def Tryz.sortS_ren:Go.Shelf.Ren:=⟨λ|6=>159|8=>211|9=>215|19=>252|20=>253|21=>254|22=>255|23=>256|24=>257|25=>258|26=>259|27=>260|28=>261|29=>262|36=>289|31=>290|32=>291|37=>292|38=>293|39=>294|41=>319|n=>n,λ|27=>87|29=>9|3=>3|32=>192|26=>87|0=>0|44=>135|46=>60|4=>4|36=>358|35=>357|41=>348|5=>5|9=>9|53=>398|57=>401|63=>432|64=>285|n=>n,λ|n=>n⟩
theorem Tryz.sortS:Go.Proofs.SlLaysM.n6 Tryz.prog Tryz.sortS_ren:={
 mixed:=by kernel_rfl
 f6:=⟨Tryz.f159.name,by decide,Tryz.func159.trans (congrArg some (by kernel_rfl))⟩
 f8:=Tryz.func211.trans (congrArg some (by kernel_rfl))
 f9:=⟨Tryz.f215.name,by decide,Tryz.func215.trans (congrArg some (by kernel_rfl))⟩
 f19:=Tryz.func252.trans (congrArg some (by kernel_rfl))
 f20:=Tryz.func253.trans (congrArg some (by kernel_rfl))
 f21:=⟨Tryz.f254.name,by decide,Tryz.func254.trans (congrArg some (by kernel_rfl))⟩
 f22:=⟨Tryz.f255.name,by decide,Tryz.func255.trans (congrArg some (by kernel_rfl))⟩
 f23:=⟨Tryz.f256.name,by decide,Tryz.func256.trans (congrArg some (by kernel_rfl))⟩
 f24:=⟨Tryz.f257.name,by decide,Tryz.func257.trans (congrArg some (by kernel_rfl))⟩
 f25:=⟨Tryz.f258.name,by decide,Tryz.func258.trans (congrArg some (by kernel_rfl))⟩
 f26:=⟨Tryz.f259.name,by decide,Tryz.func259.trans (congrArg some (by kernel_rfl))⟩
 f27:=⟨Tryz.f260.name,by decide,Tryz.func260.trans (congrArg some (by kernel_rfl))⟩
 f28:=⟨Tryz.f261.name,by decide,Tryz.func261.trans (congrArg some (by kernel_rfl))⟩
 f29:=⟨Tryz.f262.name,by decide,Tryz.func262.trans (congrArg some (by kernel_rfl))⟩
 f31:=Tryz.func290.trans (congrArg some (by kernel_rfl))
 f32:=Tryz.func291.trans (congrArg some (by kernel_rfl))
 f36:=⟨Tryz.f289.name,by decide,Tryz.func289.trans (congrArg some (by kernel_rfl))⟩
 f37:=⟨Tryz.f292.name,by decide,Tryz.func292.trans (congrArg some (by kernel_rfl))⟩
 f38:=⟨Tryz.f293.name,by decide,Tryz.func293.trans (congrArg some (by kernel_rfl))⟩
 f39:=⟨Tryz.f294.name,by decide,Tryz.func294.trans (congrArg some (by kernel_rfl))⟩
 f41:=⟨Tryz.f319.name,by decide,Tryz.func319.trans (congrArg some (by kernel_rfl))⟩
 t0:=Tryz.underlying0
 a0:=Tryz.isAgg0
 z0:=Tryz.sizeOf0
 v0:=Tryz.zeroValue0
 t3:=Tryz.underlying3
 a3:=Tryz.isAgg3
 z3:=Tryz.sizeOf3
 v3:=Tryz.zeroValue3
 t4:=Tryz.underlying4
 a4:=Tryz.isAgg4
 z4:=Tryz.sizeOf4
 v4:=Tryz.zeroValue4
 t5:=Tryz.underlying5
 a5:=Tryz.isAgg5
 z5:=Tryz.sizeOf5
 v5:=Tryz.zeroValue5
 t9:=Tryz.underlying9
 a9:=Tryz.isAgg9
 z9:=Tryz.sizeOf9
 v9:=Tryz.zeroValue9
 t26:=Tryz.underlying87
 a26:=Tryz.isAgg87
 z26:=Tryz.sizeOf87
 v26:=Tryz.zeroValue87
 t27:=Tryz.underlying87
 a27:=Tryz.isAgg87
 z27:=Tryz.sizeOf87
 v27:=Tryz.zeroValue87
 t29:=Tryz.underlying9
 a29:=Tryz.isAgg9
 z29:=Tryz.sizeOf9
 v29:=Tryz.zeroValue9
 t32:=Tryz.underlying192
 a32:=Tryz.isAgg192
 z32:=Tryz.sizeOf192
 v32:=Tryz.zeroValue192
 t35:=Tryz.underlying357
 a35:=Tryz.isAgg357
 z35:=Tryz.sizeOf357
 v35:=Tryz.zeroValue357
 t36:=Tryz.underlying358
 a36:=Tryz.isAgg358
 z36:=Tryz.sizeOf358
 v36:=Tryz.zeroValue358
 t41:=Tryz.underlying348
 a41:=Tryz.isAgg348
 z41:=Tryz.sizeOf348
 v41:=Tryz.zeroValue348
 t44:=Tryz.underlying135
 a44:=Tryz.isAgg135
 z44:=Tryz.sizeOf135
 v44:=Tryz.zeroValue135
 t46:=Tryz.underlying60
 a46:=Tryz.isAgg60
 z46:=Tryz.sizeOf60
 v46:=Tryz.zeroValue60
 t53:=Tryz.underlying398
 a53:=Tryz.isAgg398
 z53:=Tryz.sizeOf398
 v53:=Tryz.zeroValue398
 t57:=Tryz.underlying401
 a57:=Tryz.isAgg401
 z57:=Tryz.sizeOf401
 v57:=Tryz.zeroValue401
 t63:=Tryz.underlying432
 a63:=Tryz.isAgg432
 z63:=Tryz.sizeOf432
 v63:=Tryz.zeroValue432
 t64:=Tryz.underlying285
 a64:=Tryz.isAgg285
 z64:=Tryz.sizeOf285
 v64:=Tryz.zeroValue285}
def Tryz.compS_ren:Go.Shelf.Ren:=⟨λ|44=>160|n=>n,λ|25=>87|26=>9|3=>3|4=>4|0=>0|n=>n,λ|n=>n⟩
theorem Tryz.compS:Go.Proofs.SlLaysN.n44 Tryz.prog Tryz.compS_ren:={
 mixed:=by kernel_rfl
 f44:=⟨Tryz.f160.name,by decide,Tryz.func160.trans (congrArg some (by kernel_rfl))⟩
 t0:=Tryz.underlying0
 a0:=Tryz.isAgg0
 z0:=Tryz.sizeOf0
 v0:=Tryz.zeroValue0
 t3:=Tryz.underlying3
 a3:=Tryz.isAgg3
 z3:=Tryz.sizeOf3
 v3:=Tryz.zeroValue3
 t4:=Tryz.underlying4
 a4:=Tryz.isAgg4
 z4:=Tryz.sizeOf4
 v4:=Tryz.zeroValue4
 t25:=Tryz.underlying87
 a25:=Tryz.isAgg87
 z25:=Tryz.sizeOf87
 v25:=Tryz.zeroValue87
 t26:=Tryz.underlying9
 a26:=Tryz.isAgg9
 z26:=Tryz.sizeOf9
 v26:=Tryz.zeroValue9
 i26:=by kernel_rfl}
namespace YtaodmbolhoafcaaGreatDoor
set_option linter.unusedVariables false
variable{B:Nat}{w0:World}{F:aN}{A:bh}{c:Nat}
def WQ(x y:aq):Bool:=decide (x<=y)
theorem aoA{l:fJ}(hl:E l<4611686018427387904):
  bg B w0 159 [.slice A (E l) c] (.own 9 1 A (E l) c (strs l)::F) (λr L=>r= .tuple #[]/\L= .own 9 1 A (E l) c (strs (l.mergeSort WQ))::F):=by
 intro w hw;obtain⟨k1,k2,k3⟩:=hw.head;by_cases h0:E l=0
 ·have hl0:l=[]:=mg h0;subst hl0;refine(AnyM.slices_Sort_string_none Tryz.sortS A c w).mono λe w' ⟨he,EJ⟩=>?_;subst EJ;exact⟨_,_,he,⟨rfl,ao⟩,hw⟩
 ·have sG:¬c=0:=by omega
  obtain⟨g,cur,rfl,hbg,hg,hm,hs,ht⟩:=k3.resolve_left sG;rw[cH]at ht;refine(AnyM.slices_Sort_string Tryz.sortS g 0 c l w (holds_of_block hg ht) ((Hh.1 hg).1) hl).mono λe w' ⟨he,n,os,EJ⟩=>?_;have hlen:E (l.mergeSort λx y=>decide (x<=y))=E l:=OW _;have Re:(Ch.own 9 1 (some ⟨g,0,none⟩) (E l) c (strs l)).fp=some g:=by simp[Ch.fp,sG]
  have AW:=grownBy_sorted (w:=w) (g:=g) (n:=n) (os:=os) (l.mergeSort λx y=>decide (x<=y)).toArray;rw[<-EJ]at AW;refine⟨_,_,he,⟨rfl,rfl⟩,hw.LZ (by rw[Re];exact AW) ⟨?_,k2,.inr ⟨g,_,rfl,hbg,by rw[EJ];exact heap_sorted _ hg,hm,by simpa[putCells]using hs,?_⟩⟩ (.inr (.inl (by simp[Ch.fp])))⟩
  ·simp
  ·rw[cH,<-hlen];exact take_putCells cur _ (by rw[hlen];omega)
theorem D7(zs:fJ):E (Lib.compact zs)<=E zs:=by
 unfold Lib.compact Lib.compactUpTo;rw[eZ];exact iY (OR _ _) ao
theorem YB{l:fJ}(hl:E l<4611686018427387904):
  bg B w0 160 [.slice A (E l) c] (.own 9 1 A (E l) c (strs l)::F) (λr L=>r= .slice A (E (Lib.compact l)) c/\L= .own 9 1 A (E (Lib.compact l)) c (strs (Lib.compact l))::F):=by
 intro w hw;obtain⟨k1,k2,k3⟩:=hw.head;have hle:=D7 l;by_cases h0:E l=0
 ·have hl0:l=[]:=mg h0;subst hl0;refine(AnyG.slices_Compact_string_empty Tryz.compS A c w).mono λe w' ⟨he,EJ⟩=>?_;subst EJ;exact⟨_,_,he,⟨rfl,by simp[Lib.compact,Lib.compactUpTo,strs]⟩,hw⟩
 ·have sG:¬c=0:=by omega
  obtain⟨g,cur,rfl,hbg,hg,hm,hs,ht⟩:=k3.resolve_left sG;rw[cH]at ht;refine(AnyG.slices_Compact_string Tryz.compS g 0 c l w (holds_of_block hg ht) aa k2).mono λe w' ⟨he,q,EJ⟩=>?_;obtain⟨ys,hys⟩:=cM (Lib.compact l++List.replicate (E l-E (Lib.compact l)) []);have He:E ys=E l:=by rw[hys];simp;omega
  rw[<-hys]at EJ;have Re:(Ch.own 9 1 (some ⟨g,0,none⟩) (E l) c (strs l)).fp=some g:=by simp[Ch.fp,sG]
  have AW:=grownBy_sorted (w:=w) (g:=g) (n:=q) (os:= #[]) ys.toArray;have hh:=heap_sorted (n:=q) (os:= #[]) ys.toArray hg;rw[grow_empty,<-EJ]at AW hh;refine⟨_,_,he,⟨rfl,rfl⟩,hw.LZ (by rw[Re];exact AW) ⟨ao,aa,.inr ⟨g,_,rfl,hbg,hh,hm,by simpa[putCells]using hs,?_⟩⟩ (.inr (.inl (by simp[Ch.fp])))⟩;have ht2:=take_putCells cur ys (by rw[He];omega);have:=eG (List.take (E (Lib.compact l))) ht2;rw[List.take_take,He,C2 hle]at this;rw[cH,this,<-mY,hys,y'];rfl
end YtaodmbolhoafcaaGreatDoor
end Go.Proofs
namespace Go.Proofs.YtaodmbolhoafcaaGreatDoor
set_option linter.unusedVariables false
set_option linter.unusedSimpArgs false
set_option maxRecDepth 20000
variable{P:Prop}{l:aq}{L:List aI}{o row:aq}{fn:Func}{R:oV}{ho id:Nat}{b:Bool}{a:UInt8}{tD:sg}{B:Nat}{w0:World}{F:aN}{A:bh}{c g:Nat}{s:Cs}{A1 A2:bh}{n c1 c2:Nat}{B1 B2:bh}{b1 b2:Nat}
def small(c:UInt8):UInt8:=if 65<=c.toNat/\c.toNat<=90 then c+32 else if 97<=c.toNat/\c.toNat<=122\/48<=c.toNat/\c.toNat<=57 then c else 0
def emit(row:aq):fJ:=if row=[] then [] else [row.take 24]
def sf(st:fJ×aq)(c:UInt8):fJ×aq:=
 if small c≠0 then (st.1,st.2++[small c]) else (st.1++emit st.2,[])
theorem JV{ws:fJ}{c:UInt8}(h:small c≠0):sf (ws,row) c=(ws,row++[small c]):=av h
theorem QV{ws:fJ}{c:UInt8}(h:small c=0):sf (ws,row) c=(ws++emit row,[]):=aB ml
def wst(l:aq):fJ×aq:=l.foldl sf ([],[])
def qY(l:aq):fJ:=(wst l).1++emit (wst l).2
theorem ag0(l:aq)(c:UInt8):wst (l++[c])=sf (wst l) c:=by simp[wst]
theorem Em(row:aq):E (emit row)<=E row:=by
 unfold emit;split
 ·simp
 ·rename_i h;have:0<E row:=by rcases row with _|⟨x,r⟩;exact absurd rfl h;simp
  simp;omega
theorem Md(l:aq):E (wst l).1+E (wst l).2<=E l:=by
 have:∀l:aq,∀st:fJ×aq,E (l.foldl sf st).1+E (l.foldl sf st).2<=E st.1+E st.2+E l:=by
  intro l;induction l with
  |nil=>intro st;simp
  |cons c r ih=>
   intro st;have h:=ih (sf st c);have hs:E (sf st c).1+E (sf st c).2<=E st.1+E st.2+1:=by
    unfold sf;split
    ·simp;omega
    ·have:=Em st.2;simp;omega
   simp only[List.foldl_cons,ei];omega
 simpa[wst]using this l ([],[])
theorem xW(l:aq):E (qY l)<=E l:=by
 have h1:=Md l;have h2:=Em (wst l).2;unfold qY;simp;omega
theorem rI:type_of% @List.pairwise_append:= @List.pairwise_append
theorem ai7(a b:cJ):x' a b↔a<b:=by
 unfold x';rw[bytesLess_eq];simp
def Ya(l:List cJ):Prop:=l.Pairwise x'
theorem Ya.ext:∀{a b:List cJ},Ya a->Ya b->(∀x,x∈a↔x∈b)->a=b
 |[],[],_,_,_=>rfl
 |[],y::b,_,_,h=>absurd ((h y).2 ao) ao
 |x::a,[],_,_,h=>absurd ((h x).1 ao) ao
 |x::a,y::b,ha,hb,h=>by
  obtain⟨ha1,ha2⟩:=kG.1 ha;obtain⟨nC,nD⟩:=kG.1 hb;have hxy:x=y:=by
   rcases fq.1 ((h x).1 ao)with e|e
   ·exact e
   ·rcases fq.1 ((h y).2 ao)with e2|e2
    ·exact e2.symm
    ·exact absurd (nm (ha1 y e2) (nC x e)) (je _)
  subst hxy;congr 1;refine Ya.ext ha2 nD λz=>⟨λhz=>?_,λhz=>?_⟩
  ·rcases fq.1 ((h z).1 (lj _ hz))with e|e
   ·subst e;exact absurd (ha1 _ hz) (je _)
   ·exact e
  ·rcases fq.1 ((h z).2 (lj _ hz))with e|e
   ·subst e;exact absurd (nC _ hz) (je _)
   ·exact e
theorem zh(a b:cJ):WQ a b=true↔¬x' b a:=by
 unfold WQ;rw[decide_eq_true_iff,ai7];exact List.not_lt.symm
theorem LH(l:List cJ):(l.mergeSort WQ).Pairwise (λa b=>¬x' b a):=by
 have h:=List.pairwise_mergeSort (le:=WQ) (λa b c h1 h2=>by
  rw[zh,W6]at*;exact h1.elim (λh1=>.inl (ai8 h1 h2)) (λh1=>h1▸h2)) (λa b=>by
  rcases rU a b with h|h|h
  ·simp[(zh a b).2 (λk=>je _ (nm h k))]
  ·subst h;simp[(zh a a).2 (je _)]
  ·simp[(zh b a).2 (λk=>je _ (nm h k))]) l
 exact h.imp λh=>(zh _ _).1 h
theorem D6{l:List cJ}(hp:l.Pairwise (λa b=>¬x' b a)):∀m,m<=E l->Ya (Lib.compactUpTo l.toArray m)/\(∀x,x∈Lib.compactUpTo l.toArray m↔x∈l.take m)
 |0,_=>⟨by simp[Ya,Lib.compactUpTo],by simp[Lib.compactUpTo]⟩
 |m+1,hm=>by
  obtain⟨h1,h2⟩:=D6 hp m aa;rw[Lib.compactUpTo_succ];have hlm:m<E l:=by omega
  have hg:l.toArray[m]! =l[m]:=by simp[getElem!_pos,hlm]
  have qb:l.take (m+1)=l.take m++[l[m]]:=by rw[yZ,fx hlm];rfl
  by_cases hk:Lib.keeps l.toArray m=true
  ·rw[av hk,hg];have Mu:m=0\/l.toArray[m]! ≠l.toArray[m-1]! :=by simpa[Lib.keeps]using hk
   refine⟨?_,λx=>?_⟩
   ·refine rI.2 ⟨h1,List.pairwise_singleton _ _,λa ha b hb=>?_⟩;rw[kT]at hb;subst hb;have CT:=(h2 a).1 ha;obtain⟨i,hi,rfl⟩:=mF CT;rw[fZ]at hi;rw[OO];have hle:∀i j (hi:i<E l) (hj:j<E l),i<j->¬x' l[j] l[i]:=λi j hi hj Ww=>qq.1 hp i j hi hj Ww;have hm0:m≠0:=by omega
    have tO:l[m]≠l[m-1]'aa:=by
     have:=Mu.resolve_left hm0;rw[hg]at this;simpa[getElem!_pos,show m-1<E l by omega]using this
    have gU:x' (l[m-1]'aa) l[m]:=by
     rcases rU (l[m-1]'aa) l[m]with h|h|h
     ·exact h
     ·exact absurd h.symm tO
     ·exact absurd h (hle (m-1) m aa hlm aa)
    by_cases him:i=m-1
    ·subst him;exact gU
    ·exact aiW (W6.1 (hle i (m-1) aa aa aa)) gU
   ·rw[qb,dO,dO,h2]
  ·rw[aB hk,gN];refine⟨h1,λx=>?_⟩;rw[qb,dO,h2,kT];refine⟨.inl,λh=>h.elim id λh=>?_⟩;have Mu:¬(m=0\/l.toArray[m]! ≠l.toArray[m-1]!):=by simpa[Lib.keeps]using hk
   have hm0:m≠0:=λh=>Mu (.inl h);have he:l.toArray[m]! =l.toArray[m-1]! :=gE.1 λh=>Mu (.inr h);rw[hg]at he;have xm:l.toArray[m-1]! =l[m-1]'aa:=by simp[getElem!_pos,show m-1<E l by omega]
   rw[xm]at he;rw[h,he];exact List.mem_take_iff_getElem.2 ⟨m-1,aa,rfl⟩
def tV(l:List cJ):List cJ:=Lib.compact (l.mergeSort WQ)
theorem zD(l:List cJ):Ya (tV l):=by
 have:=(D6 (LH l) (E (l.mergeSort WQ)) (ga _)).1;exact this
theorem r9(l:List cJ)(x:cJ):x∈tV l↔x∈l:=by
 have:=(D6 (LH l) (E (l.mergeSort WQ)) (ga _)).2 x;rw[js,List.mem_mergeSort]at this;exact this
theorem vg(l:List cJ):E (tV l)<=E l:=by
 have:=D7 (l.mergeSort WQ)
 rwa [OW]at this
theorem JD{l r:List cJ}(h:Ya r)(hm:∀x,x∈r↔x∈l):tV l=r:=Ya.ext (zD l) h λx=>(r9 l x).trans (hm x).symm
def Fy(ub src:aq):List cJ:=qY ub++(qY src).map (64:: ·)
def s_(ub src:aq):List cJ:=tV (Fy ub src)
theorem Fz(ub src:aq):E (Fy ub src)<=E ub+E src:=by
 have h1:=xW ub;have h2:=xW src;simp[Fy];omega
end Go.Proofs.YtaodmbolhoafcaaGreatDoor
namespace Go.Proofs
open Go.RowKit Go.Maps Go.Sort Go.Shelf
def Tryz.keysA_ren:Go.Shelf.Ren:=⟨λ|7=>91|10=>162|n=>n,λ|23=>140|26=>9|3=>53|28=>144|0=>0|27=>143|33=>245|4=>4|n=>n,λ|n=>n⟩
theorem Tryz.keysA:Go.Proofs.SlLaysZ.n7 Tryz.prog Tryz.keysA_ren:={
 mixed:=by kernel_rfl
 f7:=⟨Tryz.f91.name,by decide,Tryz.func91.trans (congrArg some (by kernel_rfl))⟩
 f10:=⟨Tryz.f162.name,by decide,Tryz.func162.trans (congrArg some (by kernel_rfl))⟩
 t0:=Tryz.underlying0
 a0:=Tryz.isAgg0
 z0:=Tryz.sizeOf0
 v0:=Tryz.zeroValue0
 t4:=Tryz.underlying4
 a4:=Tryz.isAgg4
 z4:=Tryz.sizeOf4
 v4:=Tryz.zeroValue4
 t23:=Tryz.underlying140
 a23:=Tryz.isAgg140
 z23:=Tryz.sizeOf140
 v23:=Tryz.zeroValue140
 t26:=Tryz.underlying9
 a26:=Tryz.isAgg9
 z26:=Tryz.sizeOf9
 v26:=Tryz.zeroValue9
 t27:=Tryz.underlying143
 a27:=Tryz.isAgg143
 z27:=Tryz.sizeOf143
 v27:=Tryz.zeroValue143
 t28:=Tryz.underlying144
 a28:=Tryz.isAgg144
 z28:=Tryz.sizeOf144
 v28:=Tryz.zeroValue144
 t33:=Tryz.underlying245
 a33:=Tryz.isAgg245
 z33:=Tryz.sizeOf245
 v33:=Tryz.zeroValue245}
def Tryz.sortedA_ren:Go.Shelf.Ren:=⟨λ|6=>90|8=>161|9=>159|11=>216|13=>211|12=>215|23=>252|24=>253|14=>254|15=>255|16=>256|17=>257|18=>258|19=>259|20=>260|21=>261|22=>262|25=>289|26=>290|27=>291|28=>292|29=>293|30=>294|31=>319|n=>n,λ|26=>9|28=>144|24=>87|0=>0|3=>3|37=>192|48=>135|50=>60|4=>4|40=>358|39=>357|45=>348|5=>5|9=>9|51=>398|55=>401|57=>432|58=>285|33=>245|n=>n,λ|n=>n⟩
theorem Tryz.sortedA:Go.Proofs.SlLaysZ.n6 Tryz.prog Tryz.sortedA_ren:={
 mixed:=by kernel_rfl
 f6:=⟨Tryz.f90.name,by decide,Tryz.func90.trans (congrArg some (by kernel_rfl))⟩
 f8:=⟨Tryz.f161.name,by decide,Tryz.func161.trans (congrArg some (by kernel_rfl))⟩
 f11:=⟨Tryz.f216.name,by decide,Tryz.func216.trans (congrArg some (by kernel_rfl))⟩
 t0:=Tryz.underlying0
 a0:=Tryz.isAgg0
 z0:=Tryz.sizeOf0
 v0:=Tryz.zeroValue0
 t24:=Tryz.underlying87
 a24:=Tryz.isAgg87
 z24:=Tryz.sizeOf87
 v24:=Tryz.zeroValue87
 t26:=Tryz.underlying9
 a26:=Tryz.isAgg9
 z26:=Tryz.sizeOf9
 v26:=Tryz.zeroValue9
 t28:=Tryz.underlying144
 a28:=Tryz.isAgg144
 z28:=Tryz.sizeOf144
 v28:=Tryz.zeroValue144
 i26:=by kernel_rfl}
theorem Tryz.aoB(m:Nat):AnyZ.SortsIn Tryz.prog Tryz.sortedA_ren Fence.wide m:=
  ⟨λbI off cap ss W hH adu iy=>callsIn_wide.2 (AnyM.slices_Sort_string Tryz.sortS bI off cap ss W hH adu iy),
   λp cap W=>callsIn_wide.2 (AnyM.slices_Sort_string_none Tryz.sortS p cap W)⟩
namespace YtaodmbolhoafcaaGreatDoor
set_option linter.unusedVariables false
set_option maxRecDepth 20000
variable{B:Nat}{w0:World}{F L:aN}{A:bh}{c:Nat}
theorem anF(b:Nat):bg B w0 91 [.map (some b)] L (λr L'=>∃g,r= .func (.func 162) #[] [bq g].toArray/\L'= .bI g 140 [.map (some b)]::L):=λw hw=>by
 have h:CallsIn Fence.wide 5 Tryz.prog 91 #[.map (some b)] w λe w'=>e= .returned (.func (.func 162) #[] #[.pointer (some ⟨w.heap.size,0,none⟩)])/\w'=w.alloc (.cells #[.map (some b)] 140):=AnyZ.keys_in Tryz.keysA Fence.wide 5 trivial rfl (some b) w;refine(callsIn_wide.1 h).mono λe w' ⟨he,EJ⟩=>?_;subst EJ;exact⟨_,_,he,⟨w.heap.size,rfl,rfl⟩,hw.Lc 140 [.map (some b)]⟩
theorem LI(D:List (aq×Value))(hn:(D.map (·.1)).Nodup):MapKept.Stamped (gD 0 D).toArray (E D):=by
 have hb:∀(D:List (aq×Value)) (i:Nat),(gD i D).map (·.born)=List.range' i (E D):=by
  intro D;induction D with
  |nil=>intro i;rfl
  |cons p r ih=>intro i;simp[gD,ih,List.range'_succ]
 have hk:∀(D:List (aq×Value)) (i:Nat),(gD i D).map (·.key)=(D.map (·.1)).map λt=>Value.string ⟨t.toArray⟩:=by
  intro D;induction D with
  |nil=>intro i;rfl
  |cons p r ih=>intro i;simp[gD,ih]
 refine⟨λx hx=>?_,?_,?_⟩
 ·have:x.born∈(gD 0 D).map (·.born):=qd.2 ⟨x,by simpa using hx,rfl⟩;rw[hb]at this;have:=List.mem_range'.1 this;omega
 ·rw[List.toList_toArray,hb];exact List.nodup_range' (step:=1)
 ·rw[List.toList_toArray,hk];exact List.Pairwise.map _ (λa b h e=>h (by simpa using e)) hn
theorem NT:∀(D:List (aq×Value)) (i:Nat) (x:MapEntry),x∈gD i D->∃p∈D,x.key= .string ⟨p.1.toArray⟩
 |[],_,_,h=>by simp[gD]at h
 |p::r,i,x,h=>by
  rcases fq.1 h with rfl|h
  ·exact⟨p,rL,rfl⟩
  ·obtain⟨q,hq,e⟩:=NT r (i+1) x h;exact⟨q,lj _ hq,e⟩
theorem aay{ss:fJ}(h:ss.Nodup):Ya (ss.mergeSort WQ):=by
 have h1:=LH ss;have h2:(ss.mergeSort WQ).Nodup:=(List.mergeSort_perm ss WQ).nodup_iff.2 h;refine(h1.and h2).imp λ{x y} h=>?_;rcases rU x y with q|q|q
 ·exact q
 ·exact absurd q h.2
 ·exact absurd q h.1
theorem afL{D:List (aq×Value)}{g b:Nat}(hn:(D.map (·.1)).Nodup)(hl:E D<=1048576)(hk:∀p∈D,E p.1<=1000000000):
  bg B w0 90 [.func (.func 162) #[] [bq g].toArray] (.bI g 140 [.map (some b)]:: .obj b (W0 D)::F)
   (λr L'=>∃A c,r= .slice A (E (tV (D.map (·.1)))) c/\L'= .own 9 1 A (E (tV (D.map (·.1)))) c (strs (tV (D.map (·.1)))):: .bI g 140 [.map (some b)]:: .obj b (W0 D)::F):=by
 intro w hw;have hg:=hw.head.2;have hb:w.heap[b]? =some (.map (gD 0 D).toArray (E D)):=hw.tail.head.2;have xo:∀p∈D,keyOf Tryz.prog 9 (.string ⟨p.1.toArray⟩)=some (.string p.1):=λp hp=>by
  unfold keyOf mapKey;rw[Tryz.underlying9];simp only;rw[av (show(⟨p.1.toArray⟩:ByteArray).size<=maxLen by have:=hk p hp;simp only[maxLen,ByteArray.size,y_];omega)]
 have xp:∀x∈gD 0 D,∃p∈D,WideElems.rd (H:=Unit) Tryz.prog 9 (λ_=>some (.nil,[])) x=some (.string p.1,.nil):=λx hx=>by
  obtain⟨p,hp,e⟩:=NT D 0 x hx;refine⟨p,hp,?_⟩;unfold WideElems.rd;rw[e,xo p hp];rfl
 have Ft:WideElems.Fit (H:=Unit) Tryz.prog 9 (λ_=>some (.nil,[])) (gD 0 D).toArray (E D):=
  ⟨by have:=oM D 0;simp only[y_,maxLen];omega,LI D hn,λx hx=>by
   obtain⟨p,_,e⟩:=xp x (by simpa using hx);exact⟨_,e⟩⟩
 have kQ:w.ownsMap Tryz.prog 9 (λ_=>some (DataW.nil (H:=Unit),[])) b (E D) (.map (((gD 0 D).toArray.toList.map (WideElems.rg Tryz.prog 9 λ_=>some (.nil,[]))).foldr DataW.insert [])):=
  ⟨_,_,hb,Ft,by have:=oM D 0;simp only[y_];omega,rfl⟩
 have arN:∀(aw1:List (aq×Value)) (i:Nat),(∀p∈aw1,p∈D)->(((gD i aw1).map (WideElems.rg (H:=Unit) Tryz.prog 9 λ_=>some (.nil,[]))).map λp=>strOf p.1)=aw1.map (·.1):=by
  intro aw1;induction aw1 with
  |nil=>intro i _;rfl
  |cons p r ih=>
   intro i hE;simp only[gD,iN];rw[ih (i+1) (λq hq=>hE q (lj _ hq))];congr 1;unfold WideElems.rg WideElems.rd;rw[xo p (hE p rL)];rfl
 have ar2:(strKeys (.map (((gD 0 D).toArray.toList.map (WideElems.rg (H:=Unit) Tryz.prog 9 λ_=>some (.nil,[]))).foldr DataW.insert []))).Perm (D.map (·.1)):=by
  show(List.map _ _).Perm _;refine((WideShapes.sorted_perm _).map _).trans ?_;rw[List.toList_toArray,arN D 0 (λp hp=>hp)]
 have alx:Maps.size (DataW.map (((gD 0 D).toArray.toList.map (WideElems.rg (H:=Unit) Tryz.prog 9 λ_=>some (.nil,[]))).foldr DataW.insert []))=E D:=by
  unfold Maps.size;simp only[];rw[length_sorted];simp[oM]
 have anu:SeqGives Fence.wide 2 Tryz.prog 162 #[bq g] encStr _ _ w:=
  AnyZ.keys_gives (ρ:=Tryz.keysA_ren) {Tryz.keysA with} Fence.wide _ trivial rfl aa g b (E D) _ w hg.lt (by
   have:=hg.cell 0;simpa using this) kQ
 have cS:=AnyZ.sorted_in Tryz.sortedA Fence.wide 5 trivial trivial trivial trivial rfl aa (Tryz.aoB _) (enters_of Tryz.func159 ae rfl) 162 #[bq g] trivial (enters_of Tryz.func162 ae rfl) _ _ (by rw[alx];unfold maxLen;omega) (by rw[alx];omega) w anu;change CallsIn _ _ Tryz.prog 90 _ _ _ at cS;refine(callsIn_wide.1 cS).mono λe w' ⟨v,ss,he,hS,ho,_,ey⟩=>?_;have Zq:=hS.trans ar2;have hT:ss.mergeSort (λx y=>decide (x<=y))=tV (D.map (·.1)):=
  (JD (aay (Zq.nodup_iff.2 hn)) λx=>by rw[List.mem_mergeSort];exact Zq.mem_iff).symm
 rw[hT]at ho;have lB:E ss=E (tV (D.map (·.1))):=by rw[<-hT,OW]
 rw[lB]at ho;have Zg:w.grownBy w' none:=⟨ey.os,ey.tape,ey.output,ey.size,λk hk _=>ey.block k hk⟩
 rcases ho.2 with⟨rfl,h0⟩|⟨q,cap,cur,rfl,h1,h2,h3,h4,h5,h6⟩
 ·have e0:tV (D.map (·.1))=[]:=mg aa;refine⟨_,_,he,⟨none,0,by rw[e0];rfl,rfl⟩,hw.gZ Zg ⟨by rw[e0];rfl,by rw[e0];exact ga _,.inl rfl⟩ (.inl rfl)⟩
 ·refine⟨_,_,he,⟨_,_,rfl,rfl⟩,hw.gZ Zg ⟨ho.1,h3,.inr ⟨q,cur,rfl,iY hw.base h1,h2,h4,h5,h6⟩⟩ ?_⟩;by_cases hc:cap=0
  ·left;simp[Ch.fp,hc]
  ·right;exact⟨q,by simp[Ch.fp,hc],h1⟩
end YtaodmbolhoafcaaGreatDoor
end Go.Proofs
namespace Go.Proofs.YtaodmbolhoafcaaGreatDoor
set_option linter.unusedVariables false
set_option linter.unusedSimpArgs false
set_option maxRecDepth 20000
variable{P:Prop}{l:aq}{L:List aI}{o row:aq}{fn:Func}{R:oV}{ho id:Nat}{b:Bool}{a:UInt8}{tD:sg}{B:Nat}{w0:World}{F:aN}{A:bh}{c g:Nat}{s:Cs}{A1 A2:bh}{n c1 c2:Nat}{B1 B2:bh}{b1 b2:Nat}
theorem Qh(c:UInt8):(97<=(c.toNat:Int)/\(c.toNat:Int)<=122\/48<=(c.toNat:Int)/\(c.toNat:Int)<=57)/\((small c).toNat:Int)=(c.toNat:Int)/\small c≠0\/
  (65<=(c.toNat:Int)/\(c.toNat:Int)<=90)/\((small c).toNat:Int)=(c.toNat:Int)+32/\small c≠0\/
  (¬(97<=(c.toNat:Int)/\(c.toNat:Int)<=122\/48<=(c.toNat:Int)/\(c.toNat:Int)<=57)/\¬(65<=(c.toNat:Int)/\(c.toNat:Int)<=90))/\small c=0:=by
 by_cases h1:65<=c.toNat/\c.toNat<=90
 ·have e:small c=c+32:=av h1;have e2:(c+32).toNat=c.toNat+32:=by
   rw[UInt8.toNat_add];show(c.toNat+32)%256=_;omega
  refine .inr (.inl ⟨aa,by rw[e,e2];omega,λh=>?_⟩);rw[e]at h;have:=eG UInt8.toNat h;rw[e2]at this;simp at this
 ·by_cases h2:97<=c.toNat/\c.toNat<=122\/48<=c.toNat/\c.toNat<=57
  ·have e:small c=c:=by unfold small;rw[aB h1,av h2]
   refine .inl ⟨aa,B9,λh=>?_⟩;rw[e]at h;rw[h]at h2;simp at h2
  ·have e:small c=0:=by unfold small;rw[aB h1,aB h2]
   exact .inr (.inr ⟨aa,e⟩)
theorem xL{n:Int}{b':Bool}{c:UInt8}(h:n=((small c).toNat:Int))(hb:b=b'):Value.tuple #[.int .u8 n,.bool b]= .tuple #[.int .u8 (small c).toNat,.bool b']:=by rw[h,hb]
theorem aea(c:UInt8):bg B w0 214 [.int .u8 c.toNat] F (λr L=>r= .tuple #[.int .u8 (small c).toNat,.bool (decide (small c≠0))]/\L=F):=by
 have hs:=Qh c;have hc:=c.toNat_lt;refine fw func214 27 [0] ?_;refine bf 16 6 10 [0] (65<=(c.toNat:Int)/\(c.toNat:Int)<=90) ?_ ?_
 ·refine bC 3 (λh7=>?_) λh7=>?_
  ·exact ax 4 (k:=oJ)
  ·exact ax 2 (k:=wo)
 ·refine ag 3 (λh4=>?_) λh4=>?_
  ·refine dg ?_;refine ab (bF rfl rfl (Gw aa aa)) rfl (bK 17 ?_);have e:small c≠0:=by rcases hs with h|h|h<;>first|exact h.2.2|(exfalso;omega)
   exact⟨xL aa (pK e).symm,rfl⟩
  ·refine bf 5 6 17 [0] (97<=(c.toNat:Int)/\(c.toNat:Int)<=122) ?_ ?_
   ·refine bC 3 (λgT=>?_) λgT=>?_
    ·exact ax 4 (k:=oJ)
    ·exact ax 2 (k:=wo)
   ·refine ag 3 (λoA=>?_) λoA=>?_
    ·refine bK 22 ?_;have e:small c≠0:=by rcases hs with h|h|h<;>first|exact h.2.2|(exfalso;omega)
     exact⟨xL aa (pK e).symm,rfl⟩
    ·refine bf 1 6 23 [0] (48<=(c.toNat:Int)/\(c.toNat:Int)<=57) ?_ ?_
     ·refine bC 3 (λkp=>?_) λkp=>?_
      ·exact ax 4 (k:=oJ)
      ·exact ax 2 (k:=wo)
     ·refine ag 3 (λoA=>?_) λoA=>?_
      ·refine bK 19 ?_;have e:small c≠0:=by rcases hs with h|h|h<;>first|exact h.2.2|(exfalso;omega)
       exact⟨xL aa (pK e).symm,rfl⟩
      ·refine bK 17 ?_;have e:small c=0:=by rcases hs with h|h|h<;>first|exact h.2|(exfalso;omega)
       rw[e];exact⟨rfl,rfl⟩
def atl(l:aq):Prop:=∀c∈l,small c≠0
instance (l:List UInt8):Decidable (atl l):=inferInstanceAs (Decidable (∀c∈l,small c≠0))
theorem wJ(h:P:=by(simp[bv])):P:=h
theorem MU(h:P:=by(simp[strs])):P:=h
theorem SL.aju{w:World}{L:aN}{e:TypeId}{size k:Nat}{xs:cQ}(h:SL B w0 (.own e size A n c xs::L) w)(hk:k<=n):SL B w0 (.own e size A k c (xs.take (k*size))::L) w:=by
 refine⟨h.below,h.base,λd hd=>?_,kG.2 ⟨λd hd=>?_,(kG.1 h.apart).2⟩⟩
 ·rcases fq.1 hd with rfl|hd
  ·obtain⟨k1,k2,k3⟩:=h.head;have Mv:k*size<=n*size:=C3 _ hk;refine⟨by rw[fZ,k1];omega,aa,k3.imp id λ⟨g,cur,q1,q2,q3,q4,q5,q6⟩=>⟨g,cur,q1,q2,q3,q4,q5,by rw[<-q6,List.take_take,C2 Mv]⟩⟩
  ·exact h.tail.all d hd
 ·exact(kG.1 h.apart).1 d hd
theorem PX{P:Program}{ee:Exit}{fr:Fr}{L:aN}{e:TypeId}{size:Nat}{xs:cQ}(k:Nat)(hk:k<=n)(h:zT P fn R ee fr (.own e size A k c (xs.take (k*size))::L)):zT P fn R ee fr (.own e size A n c xs::L):=by
 cases ee<;>first
  |exact h
  |(intro B w0 a w ha hw;exact h B w0 a w ha (hw.aju hk))
abbrev CK(ho:Nat)(A:bh)(c:Nat)(ws:List cJ)(F:aN):aN:=.bI ho 87 [.slice A (E ws) c]:: .own 9 1 A (E ws) c (strs ws)::F
def ya(B:Nat)(w0:World)(ff:FuncId)(ho:Nat)(f:cJ->cJ):Prop:=
 ∀(F:aN) (t:cJ) (ws:List cJ) (A:bh) (c:Nat),E t<=24->E ws<=1000000000000->
  bg B w0 ff [.string ⟨t.toArray⟩,bq ho] (CK ho A c ws F) (λr L=>r= .tuple #[]/\∃A' c',L=CK ho A' c' (ws++[f t]) F)
abbrev ahg(hr:Nat)(A:bh)(c:Nat)(row:aq)(F:aN):aN:=.bI hr 27 [.slice A (E row) c]:: .own 5 1 A (E row) c (bv row)::F
theorem af7{ff:FuncId}{hr hw:Nat}{f:cJ->cJ}(Y9:aK Tryz.prog ff)(WD:ya B w0 ff ho f){ws:List cJ}(hws:E ws<=1000000000000)(au_:E row<=1000000000000):
  bg B w0 213 [bq hr,bq hw] (ahg hr A1 c1 row (.bI hw 242 [.func (.func ff) #[] [bq ho].toArray]::CK ho A2 c2 ws F))
   (λr L=>r= .tuple #[]/\∃A2' c2',L=ahg hr A1 c1 [] (.bI hw 242 [.func (.func ff) #[] [bq ho].toArray]::CK ho A2' c2' (ws++(emit row).map f) F)):=by
 refine fw func213 15 [0,1] ?_;refine ag 8 (λh4=>?_) λh4=>?_
 ·refine BT (A:=A1) (nn:=E row) (c:=c1) (size:=1) (xs:=bv row) aA λoP _=>?_;obtain⟨M,hM⟩:=cM (min (E row) 24);have CW:E (row.take 24)=M:=by rw[fZ,hM,Nat.min_comm]
  have he:emit row=[row.take 24]:=aB (λe=>by rw[e]at h4;simp at h4);have hMm:min (E row:Int) 24=(M:Int):=by omega
  have qb:(bv row).take (M*1)=bv (row.take 24):=by
   rw[cH,jK];congr 1;rcases qe (E row) 24 with h|h
   ·rw[gv aa,gv aa]
   ·rw[show M=24 by omega]
  refine lx (.bI hr 27 [.slice A1 (E row) c1]:: .own 5 1 A1 (E row) c1 (bv row):: .bI hw 242 [.func (.func ff) #[] [bq ho].toArray]::[]) ?_;refine aF 0 4 ?_;refine aS 4 rfl (yB rfl rfl) ?_;rw[hMm];refine aS 5 rfl (bQ (i:=M) (size:=1) underlying27 ae rfl rfl rfl aa) (aS 6 rfl (pz (b:=row.take 24) underlying27 underlying5 underlying9 rfl (qb▸(aA:aJ _ _ _ 1 (.slice A1 (E row) c1) (E row) (bv row)).h_ (k:=M) aa)) ?_);refine aC 7 (p7 rfl .no Y9 rfl rfl ((WD _ (row.take 24) ws _ _ aa aa).perm ((pu3 (pu3 (gh (gh (gh (.refl _)))))))) rfl (by rintro _ _ ⟨rfl,Rn,c12,rfl⟩;exact gI) ?_);rintro _ _ ⟨rfl,Rn,c12,cR⟩;obtain rfl:=cR.symm;refine fb ?_;refine ab (bQ (i:=0) (size:=1) underlying27 ae rfl rfl rfl aa) rfl (fc ?_);refine ak (L':=.own 5 1 A1 (E row) c1 (bv row):: .bI hr 27 [.slice A1 0 c1]:: .bI hw 242 [.func (.func ff) #[] [bq ho].toArray]::CK ho Rn c12 (ws++[f (row.take 24)]) F) ((vu (lU (lU (dL (dL (.refl _))))))) (PX 0 (bD _) ?_);refine ak (L':=ahg hr A1 c1 [] (.bI hw 242 [.func (.func ff) #[] [bq ho].toArray]::CK ho Rn c12 (ws++[f (row.take 24)]) F)) (.swap (.cons (au rfl (by rw[nJ];rfl) (.refl _)))) (aX ?_);exact⟨rfl,Rn,c12,by rw[he];rfl⟩
 ·obtain rfl:row=[]:=mg aa;refine fb ?_;refine ab (bQ (i:=0) (size:=1) underlying27 ae rfl rfl rfl aa) rfl (fb ?_);exact⟨rfl,A2,c2,by simp[emit]⟩
theorem XE{ff:FuncId}{f:cJ->cJ}(Y9:aK Tryz.prog ff)(WD:ya B w0 ff ho f)(l:aq){ws:List cJ}(hws:E ws<=274877906944)(hl:E l<=274877906944):
  bg B w0 156 [.string ⟨l.toArray⟩,.func (.func ff) #[] [bq ho].toArray] (CK ho A2 c2 ws F)
   (λr L=>r= .tuple #[]/\∃A2' c2',L=CK ho A2' c2' (ws++(qY l).map f) F):=by
 refine fw func156 32 [0,1] ?_;refine bM 2 λg3=>?_;refine bW 4 λg4=>?_;refine dh ?_;refine aM 5 1 none (dg ?_);refine aw (λzf zL zm=>∃(k:Nat) (W:List cJ) (R:aq) (A:bh) (c:Nat) (A3:bh) (c3:Nat),(k<=E l/\wst (l.take k)=(W,R))/\E l-k=zm/\Sub zf [(0,.string ⟨l.toArray⟩),(4,bq g4),(5,.func (.func 213) #[] [bq g4,bq g3].toArray),(11,ah (E l)),(12,ah k)]/\Wk zL (ahg g4 A c R (.bI g3 242 [.func (.func ff) #[] [bq ho].toArray]::CK ho A3 c3 (ws++W.map f) F))) _ ⟨0,[],[],none,0,A2,c2,⟨bD _,rfl⟩,rfl,a_,.swap (.cons (.cons (.cons (bx ao (au ao ao (.refl _))))))⟩ ?_;rintro _ _ _ ⟨k,W,R,A,c,A3,c3,⟨hk,hW⟩,rfl,hs,hp⟩;refine aL hs hp (ag 6 (λnj=>?_) λnj=>?_)
 ·have x_:=Md (l.take k);rw[hW,fZ]at x_;simp only at x_;have CV:=Em R;have hsn:wst (l.take (k+1))=sf (W,R) (l.getD k 0):=by
   rw[yZ,fx (show k<E l by omega),<-hW,<-ag0];simp[List.getD,fx (show k<E l by omega)]
  refine bK 15 ?_;refine ab (sB underlying9 rfl rfl rfl aa) rfl (ai rfl (aea (l.getD k 0)) (ag 12 (λrq=>?_) λrq=>?_))
  ·refine fb ?_;refine cC bP rfl rfl rfl rfl rfl (λ_=>rfl) aU aa aa ?_;intro _ sp zV;refine aD 1 [0,4,5,11,12] 9 ?_;have adx:E R+1=E (R++[small (l.getD k 0)]):=by simp
   refine aj ⟨_,aa,k+1,W,R++[small (l.getD k 0)],sp,zV,A3,c3,⟨aa,by rw[hsn,JV rq]⟩,rfl,a_,bx (by rw[adx];rfl) (au adx wJ (.refl _))⟩
  ·refine fb ?_;refine vr ak' rfl rfl (af7 Y9 WD bS aa) rfl ?_;rintro _ _ ⟨rfl,B3,Ca,cR⟩;obtain rfl:=cR.symm;refine aD 6 [0,4,5,11,12] 0 ?_;refine aj ⟨_,aa,k+1,W++emit R,[],A,c,B3,Ca,⟨aa,by rw[hsn,QV (gE.1 rq)]⟩,rfl,a_,.cons (.cons (.cons (bx ao (au ao ao (.refl _)))))⟩
 ·obtain rfl:k=E l:=by omega
  rw[js]at hW;have x_:=Md l;rw[hW]at x_;simp only at x_;have hwd:qY l=W++emit R:=by unfold qY;rw[hW]
  refine dg ?_;refine vr ak' rfl rfl (af7 Y9 WD bS aa) rfl ?_;rintro _ _ ⟨rfl,Rq,c31,cR⟩;obtain rfl:=cR.symm;refine ew ?_;refine ak (L':=CK ho Rq c31 (ws++W.map f++(emit R).map f) F) (.s3 (.refl _)) (aX ?_);exact⟨rfl,Rq,c31,by rw[hwd];simp⟩
theorem Yw:ya B w0 157 ho (λt=>t):=by
 intro F t ws A c ht hws;refine cV func157 7 rfl rfl rfl [(0,.string ⟨t.toArray⟩),(1,bq ho)] ⟨⟨rfl,rfl⟩,⟨rfl,rfl⟩,trivial⟩ ?_;refine fc ?_;refine cC FY rfl rfl rfl rfl rfl (λ_=>rfl) aU aa aa ?_;intro _ A6 c6;refine fc ?_;have CV:E ws+1=E (ws++[t]):=by simp
 refine ak (L':=CK ho A6 c6 (ws++[t]) F) (bx (by rw[CV];rfl) (au CV MU (.refl _))) (aX ?_);exact⟨rfl,A6,c6,rfl⟩
theorem Yx:ya B w0 158 ho (λt=>64::t):=by
 intro F t ws A c ht hws;refine cV func158 8 rfl rfl rfl [(0,.string ⟨t.toArray⟩),(1,bq ho)] ⟨⟨rfl,rfl⟩,⟨rfl,rfl⟩,trivial⟩ ?_;refine fc ?_;refine ab (AK (s:=[64]) (r:=t) rfl rfl (by simp only[ei,tT];omega)) rfl (cC FY rfl rfl rfl rfl rfl (λ_=>rfl) aU aa aa ?_);intro _ A7 c7;refine fc ?_;have CV:E ws+1=E (ws++[64::t]):=by simp
 refine ak (L':=CK ho A7 c7 (ws++[64::t]) F) (bx (by rw[CV];rfl) (au CV MU (.refl _))) (aX ?_);exact⟨rfl,A7,c7,rfl⟩
theorem akg{a b:Value}(ub src:aq)(h1:E ub<=100000000000)(h2:E src<=100000000000):
  bg B w0 89 [.agg #[a,b,.string ⟨src.toArray⟩,.string ⟨ub.toArray⟩]] F (λr L=>∃A c,r= .slice A (E (s_ ub src)) c/\L= .own 9 1 A (E (s_ ub src)) c (strs (s_ ub src))::F):=by
 have KL:=Fz ub src;have Zu:=xW ub;refine fw func89 16 [0] ?_;refine bM 2 λg1=>?_;refine bW 5 λg3=>?_;refine fc ?_;refine aM 9 1 none (fb ?_);refine bp ak6 rfl ((XE aqg Yw ub (ws:=[]) ao aa).perm ((oI (gh (gh (.refl _)))))) rfl ?_;rintro _ _ ⟨rfl,A7,c7,cR⟩;obtain rfl:=cR.symm;refine dg ?_;refine bp ak6 rfl (XE aqh Yx src bS aa) rfl ?_;rintro _ _ ⟨rfl,tH,zU,cR⟩;obtain rfl:=cR.symm;have e:([]++List.map (λt=>t) (qY ub))++List.map (λt=>64::t) (qY src)=Fy ub src:=by simp[Fy]
 rw[e];refine dx ?_;refine ai rfl ((aoA (l:=Fy ub src) aa).perm ((oI (gh (gh (.refl _)))))) ?_;rw[show(Fy ub src).length=E ((Fy ub src).mergeSort WQ) from(OW _).symm];refine dx ?_;refine ai rfl (YB (l:=(Fy ub src).mergeSort WQ) (by rw[OW];omega)) (fb ?_);exact ak (L':=.own 9 1 tH (E (s_ ub src)) zU (strs (s_ ub src))::F) (.cons (.s2 (.refl _))) (bO 1)
theorem Qi:∀c:UInt8,small (small c)=small c:=by
 have:∀x:Fin 256,small (small (UInt8.ofNat x.val))=small (UInt8.ofNat x.val):=by decide+kernel
 intro c;have:=this ⟨c.toNat,c.toNat_lt⟩;simpa using this
def UX(t:aq):Prop:=∀c∈t,small c≠0/\small c=c
def J1(t:aq):Prop:=1<=E t/\E t<=24/\UX t
theorem V6(h:UX row):∀t∈emit row,J1 t:=by
 intro t ht;unfold emit at ht;split at ht
 ·cases ht
 ·rename_i tO;simp at ht;subst ht;have:=List.length_pos_iff.2 tO;exact⟨bS,bS,λc hc=>h c (ia hc)⟩
theorem UL:∀(l:aq) (ws:fJ) (row:aq),(∀t∈ws,J1 t)->UX row->(∀t∈(l.foldl sf (ws,row)).1,J1 t)/\UX (l.foldl sf (ws,row)).2
 |[],ws,row,h1,h2=>⟨h1,h2⟩
 |c::r,ws,row,h1,h2=>by
  rw[List.foldl_cons];by_cases hc:small c=0
  case neg=>
   rw[JV hc];refine UL r ws _ h1 λx hx=>?_;rcases dO.1 hx with hx|hx
   ·exact h2 x hx
   ·simp only[kT]at hx;subst hx;rw[Qi];exact⟨hc,rfl⟩
  case pos=>
   rw[QV hc];refine UL r _ [] (λt ht=>?_) (λx hx=>by cases hx);rcases dO.1 ht with ht|ht
   ·exact h1 t ht
   ·exact V6 h2 t ht
theorem Mc{t:aq}(h:t∈qY l):J1 t:=by
 have:=UL l [] [] ao (λx hx=>by cases hx);rcases dO.1 h with h|h
 ·exact this.1 t h
 ·exact V6 this.2 t h
section
theorem wX:type_of% @wpIn_mono:= @wpIn_mono
abbrev FR(l:Nat):Fence:=Fence.wide.inRound l
def HC(o:Oper):Prop:=∀c,o.op≠ .defer c
def Br(o:Oper):Bool:=match o.op with| .defer _=>false|_=>true
theorem Pq{o:Oper}(h:Br o=true):HC o:=λc e=>by unfold Br at h;rw[e]at h;cases h
theorem Ji{l:sg}(h:l.all Br=true):∀o∈l,HC o:=λo ho=>Pq (EU.1 h o ho)
section
variable{P:Program}{l n:Nat}{Q:Exit->Act->World->Prop}
theorem ajT{row:String}{args:Array Value}{w:World}{R:Value->World->Prop}(h:Rows P row args w R):RowsIn (FR l) n P row args w R:=λc cs _=>
 let ⟨v,w',r,s⟩:=h c cs
 ⟨v,w',r,(show StepsIn (Machine.fenced P Fence.wide) P _ _ from stepsIn_wide.2 s)⟩
theorem Xa{o:Oper}{a:Act}{w:World}{K:Act->World->Prop}(hd:HC o)(h:o.wp P a w K Q):o.wpIn (FR l) n P a w K Q:=by
 refine⟨λ_ _=>trivial,?_⟩;rw[Oper.semAt_eq _ _ _ hd];unfold Oper.wp at h;generalize (execOp a.eval o).run P w=r at*;cases r with
 |ok x w'=>
  cases x<;>simp only[Oper.upon,Oper.uponIn]at h⊢<;>first
   |exact h
   |exact⟨λh=>by simp[Fence.inRound,Fence.wide]at h,CallsIn.inRound l (callsIn_wide.2 (KV h λe w'' he=>by cases e<;>exact he))⟩
   |exact⟨λh=>by simp[Fence.inRound,Fence.wide]at h,ajT h⟩
 |halt x w'=>cases x<;>simp only[Oper.upon,Oper.uponIn]at h⊢<;>exact h
theorem K7(hQ:¬LetsOut Q){ops:Array Oper}:∀(tD:sg) (a:Act) (w:World),(∀o∈tD,HC o)->wpList P ops Q tD a w->wpListIn (FR l) n P ops Q tD a w
 |[],_,_,_,h=>h
 |o::r,a,w,hd,h=>by
  unfold wpList at h;unfold wpListIn;split at h
  ·rename_i hw;rw[av hw];rcases h with h|h
   ·exact Oper.wpIn_mono (λa w h=>K7 hQ r a w (λo ho=>hd o (lj _ ho)) h) (Xa (hd o rL) h)
   ·exact absurd h.2 hQ
  ·rename_i hw;rw[aB hw];exact⟨λ_ _=>trivial,K7 hQ r _ w (λo ho=>hd o (lj _ ho)) h⟩
theorem J4(hQ:¬LetsOut Q){ops:Array Oper}{md:Region.Mode}(hd:∀o∈ops,HC o):∀(fuel:Nat) (li:Array Bool) (a:Act) (w:World),wpAny P md ops Q fuel li a w->wpAnyIn (FR l) n P md ops Q fuel li a w
 |0,_,_,_,h=>h
 |fuel+1,li,a,w,h=>by
  refine⟨h.1,λi hi=>?_⟩;have h:=h.2 i hi;unfold wpOp at h;unfold wpOpIn;cases ho:ops[i]? with
  |none=>
   simp only[ho]at h⊢;exact J4 hQ hd fuel _ a w h
  |some o=>
   simp only[ho]at h⊢;have hdo:HC o:=hd o (Array.mem_of_getElem? ho);by_cases hw:Region.wanted o (yielded ops a.tmps)=true
   ·rw[av hw]at h⊢;rcases h with h|h
    ·exact Oper.wpIn_mono (λa w h=>J4 hQ hd fuel _ a w h) (Xa hdo h)
    ·exact absurd h.2 hQ
   ·rw[aB hw]at h⊢;exact⟨λ_ _=>trivial,J4 hQ hd fuel _ _ w h⟩
end
def NX(C:Cx)(Q:Fr->aN->Prop):Exit->Act->World->Prop
 | .normal,a,w=>∃fr L,pn C.N fr a/\SL C.B C.w0 L w/\Q fr L
 |_,_,_=>False
def NQ(Q:Fr->aN->Prop):Exit->Fr->aN->Prop
 | .normal,fr,L=>Q fr L
 |_,_,_=>False
def VR(C:Cx)(l n:Nat)(c:Code)(Q:Fr->aN->Prop)(fr:Fr)(L:aN):Prop:=∀a w,pn C.N fr a->SL C.B C.w0 L w->c.wpIn (FR l) n C.P (NX C Q) a w
section
variable{C:Cx}{l n:Nat}{Q:Fr->aN->Prop}{fr:Fr}{L S:aN}{x y:Code}
theorem WR:∀(e:Exit) (a:Act) (w:World),lift C (NQ Q) e a w->NX C Q e a w:=λe a w ⟨fr,L,ha,hs,hq⟩=>by
 cases e<;>first|exact⟨fr,L,ha,hs,hq⟩|exact hq.elim
theorem aji:¬LetsOut (lift C (NQ Q)):=λ⟨_,_,_,_,_,_,h⟩=>h
theorem aeA:¬LetsOut (NoPanic (lift C (NQ Q))):=λ⟨_,_,_,_,_,_,h⟩=>h
theorem L_(h:VR C l n x (λfr L=>VR C l n y Q fr L) fr L):VR C l n (.seq x y) Q fr L:=λa w ha hs=>
 wpIn_seq (wX (h a w ha hs) λe a w hq=>by
  cases e<;>first|exact hq.elim|(obtain⟨fr,L,ha,hs,hq⟩:=hq;exact hq a w ha hs))
theorem Gs(h:VR C l n x Q fr L):VR C l n (.block id x) Q fr L:=λa w ha hs=>
 wpIn_block (wX (h a w ha hs) λe a w hq=>by
  cases e<;>first|exact hq.elim|exact hq)
theorem nx(hd:tD.all Br=true)(h:VL C tD.toArray (NQ Q) tD fr L):VR C l n (.region id tD.toArray false) Q fr L:=λa w ha hs=>
 wX (wpIn_region_lit (K7 aji tD a w (Ji hd) (h a w ha hs))) WR
theorem akD(hd:tD.all Br=true)(hm:C.P.follows .mixedOrders=true)(hS:S.Sublist L)(h:VH C tD.toArray S (NQ Q) tD.toArray.size (Array.replicate tD.toArray.size false) fr L):VR C l n (.region id tD.toArray true) Q fr L:=λa w ha hs=>
 wX (wpIn_region_any hm (J4 aeA (λo ho=>Ji hd o (by simpa using ho)) _ _ a _ (wpAny_of_held _ _ _ _ (h a _ ha (hs.drewN 1) ((hs.drewN 1).sub hS))))) λe a w h=>WR e a w (NoPanic.imp e a w h)
theorem nq(h:Q fr L):NQ Q .normal fr L:=h
end
def mark(D:Nat):Deferred:={target:=.collected D,args:= #[]}
theorem put_defers(a:Act)(ds:List Deferred)(d:Option Tmp)(v:Value):({a with defers:=a.defers++ds}:Act).put d v={a.put d v with defers:=(a.put d v).defers++ds}:=by cases d<;>rfl
theorem lX{P:Program}{ops:Array Oper}{Q:Exit->Act->World->Prop}(ds:List Deferred):∀(tD:sg) (a:Act) (w:World),wpList P ops Q tD a w->
  wpList P ops (λe a' w'=>∃a0:Act,a'={a0 with defers:=a0.defers++ds}/\Q e a0 w') tD {a with defers:=a.defers++ds} w
 |[],a,w,h=>⟨a,rfl,h⟩
 |o::r,a,w,h=>by
  unfold wpList at h⊢;by_cases hw:Region.wanted o (yielded ops a.tmps)=true
  ·rw[av hw]at h;rw[av (show Region.wanted o (yielded ops ({a with defers:=a.defers++ds}:Act).tmps)=true from hw)];rcases h with h|⟨h1,a1,w1,h2⟩
   ·refine .inl ?_;have he:({a with defers:=a.defers++ds}:Act).eval=a.eval:=rfl;unfold Oper.wp at h⊢;rw[he];generalize (execOp a.eval o).run P w=res at*;cases res with
    |ok x w'=>
     cases x<;>simp only[Oper.upon]at h⊢<;>first
      |(rw[put_defers];exact lX ds r _ _ h)
      |(
       refine KV h λe w'' he=>?_;cases e<;>dsimp only at he⊢<;>first
        |(rw[put_defers];exact lX ds r _ _ he)
        |exact⟨_,rfl,he⟩
        |(obtain⟨a1,w1,h2⟩:=he;exact⟨_,w1,a1,rfl,h2⟩))
      |exact Rows.mono h λv w'' he=>by rw[put_defers];exact lX ds r _ _ he
      |(have h2:=lX ds r _ _ h;rw[<-put_defers]at h2;exact h2)
    |halt x w'=>cases x<;>simp only[Oper.upon]at h⊢<;>first|exact⟨_,rfl,h⟩|exact h
   ·exact .inr ⟨h1,_,w1,a1,rfl,h2⟩
  ·rw[aB hw]at h;rw[aB (show¬Region.wanted o (yielded ops ({a with defers:=a.defers++ds}:Act).tmps)=true from hw),put_defers];exact lX ds r _ _ h
def VM(C:Cx)(D:Nat)(c:Code)(QQ:Exit->Act->World->Prop)(fr:Fr)(L:aN):Prop:=∀a w,a.defers=[mark D]->pn C.N fr {a with defers:=[]}->SL C.B C.w0 L w->c.wp C.P QQ a w
section
variable{C:Cx}{D:Nat}{QQ:Exit->Act->World->Prop}{fr:Fr}{L L':aN}{x y:Code}
theorem agT(h:VL C tD.toArray (NQ λfr L=>VM C D y QQ fr L) tD fr L):VM C D (.seq (.region id tD.toArray false) y) QQ fr L:=λa w hd ha hs=>by
 have h1:=lX [mark D] tD _ w (h {a with defers:=[]} w ha hs);rw[show({({a with defers:=[]}:Act)with defers:=({a with defers:=[]}:Act).defers++[mark D]}:Act)=a by rw[<-hd];rfl]at h1;refine wp_seq (wC (wp_region_lit h1) λe a' w' hq=>?_);obtain⟨a0,rfl,jD,L',CT,Cm,hq⟩:=hq;cases e<;>first
  |exact hq.elim
  |refine hq _ w' (by simp[CT.defers]) ?_ Cm
   have e0:({({a0 with defers:=a0.defers++[mark D]}:Act)with defers:=[]}:Act)=a0:=by rw[<-CT.defers]
   rw[e0];exact CT
def FG(C:Cx)(fn:Func)(R:oV):Exit->Act->World->Prop:=bodyPostM Fence.wide 8 C.P fn λe w'=>∃v L',e= .returned v/\R v L'/\SL C.B C.w0 L' w'
def VG(C:Cx)(c:Code)(QQ:Exit->Act->World->Prop)(fr:Fr)(L:aN):Prop:=∀a w,pn C.N fr a->SL C.B C.w0 L w->c.wp C.P QQ a w
def TG(C:Cx)(y:Code)(QQ:Exit->Act->World->Prop):Exit->Fr->aN->Prop
 | .normal,fr,L=>VG C y QQ fr L
 |e,fr,L=>∀a w,pn C.N fr a->SL C.B C.w0 L w->QQ e a w
theorem ot(h:VC C x (TG C y QQ) fr L):VG C (.seq x y) QQ fr L:=λa w ha hs=>
 wp_seq (wC (h a w ha hs) λe a w ⟨fr,L,ha,hs,hq⟩=>by
  cases e<;>exact hq a w ha hs)
theorem kA(h:VG C y QQ fr L):TG C y QQ .normal fr L:=h
theorem aoG{P:Program}{N:Nat}{y:Code}(hN:fn.ntmps=N)(h:zT P fn R .ret fr L):TG ⟨P,N,B,w0⟩ y (FG ⟨P,N,B,w0⟩ fn R) .ret fr L:=λa w ha hs=>by
 subst hN;obtain⟨v,L',h1,h2,h3⟩:=h B w0 a w ha hs;show LeavesInM _ _ _ _ _ _ a.defers _ _;rw[ha.defers];exact⟨v,h1,v,L',rfl,h2,h3⟩
theorem SL.agG{w:World}(h:SL B w0 (.obj D (.deferred (some []))::L) w):SL B w0 L (w.putObj D (.deferred none)):=
 (h.LZ (c':=.obj D (.deferred none)) (grownBy_putObj' w D _) ⟨h.head.1,World.putObj_heap_same (Hh.1 h.head.2).1⟩ (.inr (.inl rfl))).tail
theorem agS{P:Program}{N:Nat}(hN:fn.ntmps=N)(hp:L.Perm (.obj D (.deferred (some []))::L'))(h:zT P fn R .ret fr L'):VM ⟨P,N,B,w0⟩ D .ret (FG ⟨P,N,B,w0⟩ fn R) fr L:=λa w hd ha hs=>by
 subst hN;have Cm:=hs.perm hp;obtain⟨v,L'',h1,h2,h3⟩:=h B w0 _ _ ha Cm.agG;refine wp_ret ?_;show LeavesInM _ _ _ _ _ _ a.defers _ _;rw[hd];exact⟨ao,.inl ⟨D,_,rfl,run_takeDeferred Cm.head.2,v,h1,v,L'',rfl,h2,h3⟩⟩
theorem yG{P:Program}{f:FuncId}{c:Code}{args:cQ}(hf:P.funcs[f]? =some fn)(N:Nat)(hN:fn.ntmps=N)(hb:fn.body=some c)(hl:Nat.ble (E args) N=true)(fr0:Fr)(hi:Ini N args fr0)(h:VG ⟨P,N,B,w0⟩ c (FG ⟨P,N,B,w0⟩ fn R) fr0 L):dQ P B w0 f args L R:=λw hw=>by
 have hl:=ad2 hl;subst hN;refine callsIn_wide.1 (callsIn_of_wp_marks (n:=8) hf hb trivial (wpIn_wide.2 (h _ w ⟨rfl,?_,λt v ht=>?_⟩ hw)) rfl)
 ·simp;omega
 ·obtain⟨h1,h2⟩:=hi.look t v ht;simp only[y_];by_cases gU:t<E args
  ·rw[Array.getElem?_append_left HY];simp[gU]at h2;simp[gU,h2]
  ·rw[Array.getElem?_append_right HY];have h3:args[t]? =none:=tS aa;simp[h3]at h2;subst h2;simp;rw[Array.getElem?_replicate,av aa]
end
end
theorem OX:type_of% @List.mem_flatMap:= @List.mem_flatMap
theorem y9:type_of% @List.sum_cons:= @List.sum_cons
def Pk(f:Nat->List cJ)(n:Nat)(s:cJ):br:=(List.range n).filter λq=>decide (s∈f q)
theorem aem(f:Nat->List cJ)(n:Nat)(s:cJ):Pk f (n+1) s=Pk f n s++(if s∈f n then [n] else []):=by
 unfold Pk;rw[mW,List.filter_append];congr 1;by_cases h:s∈f n<;>simp[h]
theorem Tt{f:Nat->List cJ}{s:cJ}:Pk f n s≠[]↔∃q,q<n/\s∈f q:=by
 unfold Pk;rw[Ne,List.filter_eq_nil_iff];simp only[oD,decide_eq_true_eq];constructor
 ·intro h;refine b_ λh2=>h λq hq hs=>h2 ⟨q,hq,hs⟩
 ·rintro⟨q,h1,h2⟩ h3;exact h3 q h1 h2
def sv(f:Nat->List cJ)(n:Nat):List cJ:=tV ((List.range n).flatMap f)
def J8(f:Nat->List cJ)(n:Nat):List (br):=(sv f n).map (Pk f n)
structure Ah(f:Nat->List cJ)(i:Nat)(part:List cJ)(D:List CL):Prop where
 ids:∀s,wO s D=Pk f i s++(if s∈part then [i] else [])
 keys:∀s,s∈D.map (·.1)↔wO s D≠[]
 nd:(D.map (·.1)).Nodup
theorem Ah.start(f:Nat->List cJ):Ah f 0 [] []:=⟨λs=>by simp[wO,Pk],λs=>by simp[wO],ao⟩
theorem Ah.step{f:Nat->List cJ}{i j:Nat}{T:List cJ}{D:List CL}(h:Ah f i (T.take j) D)(hn:T.Nodup)(hj:j<E T)(A:bh)(c:Nat):Ah f i (T.take (j+1)) (HA (T.getD j []) A c i D):=by
 have hg:T.getD j []=T[j]:=by simp[List.getD,fx hj]
 have qb:T.take (j+1)=T.take j++[T[j]]:=by rw[yZ,fx hj];rfl
 have auY:T[j]∉T.take j:=by
  have h2:(T.take (j+1)).Nodup:=hn.sublist (O8 _ _);rw[qb,List.nodup_append]at h2;exact λq=>h2.2.2 _ q _ ao rfl
 have hm:∀s,s∈T.take (j+1)↔s∈T.take j\/s=T[j]:=λs=>by rw[qb,dO,kT]
 rw[hg];refine⟨λs=>?_,λs=>?_,Pr _ _ _ _ _ h.nd⟩
 ·rw[St,h.ids s];by_cases e:s=T[j]
  ·rw[av e,aB (λq=>auY (e▸q)),av ((hm s).2 (.inr e)),gN]
  ·rw[aB e];by_cases q:s∈T.take j
   ·rw[av q,av ((hm s).2 (.inl q))]
   ·rw[aB q,aB (λk=>((hm s).1 k).elim q e)]
 ·rw[KZ,St,h.keys s];by_cases e:s=T[j]
  ·simp[e]
  ·simp[e]
theorem Ya.nd{l:List cJ}(h:Ya l):l.Nodup:=List.Pairwise.imp (λ{a b} (q:x' a b) (e:a=b)=>je a (by rw[<-e]at q;exact q)) h
theorem Ah.next{f:Nat->List cJ}{i:Nat}{D:List CL}(h:Ah f i (f i) D):Ah f (i+1) [] D:=
 ⟨λs=>by rw[h.ids s,aem];simp,h.keys,h.nd⟩
theorem Ah.done{f:Nat->List cJ}{D:List CL}(h:Ah f n [] D):tV (D.map (·.1))=sv f n/\∀s,wO s D=Pk f n s:=by
 have hi:∀s,wO s D=Pk f n s:=λs=>by rw[h.ids s];simp
 refine⟨JD (zD _) λx=>?_,hi⟩;rw[sv,r9,h.keys,hi,Tt,OX];simp only[oD]
abbrev rb:=bh×Nat×br
abbrev jz(e:rb):Value:=.slice e.1 (E e.2.2) e.2.1
abbrev jT(e:rb):Ch:=.own 3 1 e.1 (E e.2.2) e.2.1 (bN e.2.2)
def Q9(t:cJ):List CL->rb
 |[]=>(none,0,[])
 |e::r=>if t=e.1 then e.2 else Q9 t r
theorem aef(t:cJ):∀D:List CL,((nH t (lG D) 0).map (·.2)).getD (.slice none 0 0)=jz (Q9 t D)
 |[]=>rfl
 |e::r=>by
  show((nH t ((e.1,Sr e)::lG r) 0).map (·.2)).getD _=_;unfold nH Q9;by_cases h:t=e.1
  ·rw[av h,av h];rfl
  ·rw[aB h,aB h,vG,<-aef t r];cases nH t (lG r) 0<;>rfl
theorem Wi(t:cJ):∀D:List CL,(Q9 t D).2.2=wO t D
 |[]=>rfl
 |e::r=>by
  unfold Q9 wO;split
  ·rfl
  ·exact Wi t r
theorem P6:∀D:List CL,(D.map (·.1)).Nodup->D.map uA=(D.map (·.1)).map λt=>jT (Q9 t D)
 |[],_=>rfl
 |e::r,h=>by
  rw[iN,List.nodup_cons]at h;rw[iN,iN,iN];congr 1
  ·unfold Q9;rw[av rfl];rfl
  ·rw[P6 r h.2];apply tR;intro t ht;have tO:¬t=e.1:=λq=>h.1 (q▸ht);show _=jT (Q9 t (e::r));rw[Q9,aB tO]
theorem aar{D:List CL}(h:(D.map (·.1)).Nodup):(D.map uA).Perm (((tV (D.map (·.1))).map (Q9 · D)).map jT):=by
 have hp:(D.map (·.1)).Perm (tV (D.map (·.1))):=(List.perm_ext_iff_of_nodup h (zD _).nd).2 λx=>(r9 _ x).symm;have e:((tV (D.map (·.1))).map (Q9 · D)).map jT=(tV (D.map (·.1))).map (λt=>jT (Q9 t D)):=CY;rw[P6 D h,e];exact hp.map _
theorem aj5{w:World}(P:aN){D:List CL}{xs:br}{o:Obj}{R:aN}(h:(D.map uA).Perm (.own 3 1 A (E xs) c (bN xs)::R)\/(A=none/\c=0/\xs=[]/\R=D.map uA))(hw:SL B w0 (P++ .obj g o::(D.map uA++F)) w):SL B w0 (.own 3 1 A (E xs) c (bN xs)::(P++ .obj g o::(R++F))) w:=by
 rcases h with h|⟨rfl,rfl,rfl,rfl⟩
 ·refine hw.perm ?_;refine(List.Perm.append_left P ((((h.append_right F).cons (Ch.obj g o)).trans (.swap _ _ _)))).trans ?_;exact zb
 ·exact hw.Dq 3 1 none
theorem adf(P:aN){D':List CL}{o o':Obj}{R:aN}{m:Nat}{xs ys:cQ}(h:(D'.map uA).Perm (.own 3 1 A m c ys::R))(hx:xs=ys)(ho:o=o'):Wk (.own 3 1 A m c xs::(P++ .obj g o::(R++F))) (P++ .obj g o'::(D'.map uA++F)):=by
 subst hx;subst ho;refine .c_ (List.Perm.symm ?_);refine(List.Perm.append_left P ((((h.append_right F).cons (Ch.obj g o)).trans (.swap _ _ _)))).trans ?_;exact zb
def trm(x:aI):List cJ:=s_ x.2.2.2 x.2.2.1
theorem aku(x:aI):E (trm x)<=x.w:=by
 have h1:=vg (Fy x.2.2.2 x.2.2.1);have h2:=Fz x.2.2.2 x.2.2.1;unfold trm s_ aI.w;omega
theorem agy{x:aI}{t:cJ}(h:t∈trm x):E t<=25:=by
 rcases dO.1 ((r9 _ _).1 h)with h|h
 ·have:=(Mc h).2.1;omega
 ·obtain⟨u,hu,rfl⟩:=qd.1 h;have:=(Mc hu).2.1;simp;omega
def BP(L:List aI)(i:Nat):List cJ:=trm (recAt L i)
theorem Vp(hb:aJ B w0 F 4 (.slice A (E L) c) (E L) (cD L))(hw:dJ L<=1048576):
  bg B w0 49 [.slice A (E L) c] F (λr K=>∃(A1:bh) (c1:Nat) (A2:bh) (c2:Nat) (LL:List rb),r= .agg [.slice A1 (E (sv (BP L) (E L))) c1,.slice A2 (E (sv (BP L) (E L))) c2].toArray/\
   K= .own 9 1 A1 (E (sv (BP L) (E L))) c1 (strs (sv (BP L) (E L))):: .own 53 1 A2 (E (sv (BP L) (E L))) c2 (LL.map jz)::(LL.map jT++F)/\LL.map (·.2.2)=J8 (BP L) (E L)):=by
 have qc:E L<=dJ L:=by
  clear hb hw;induction L with
  |nil=>simp[dJ]
  |cons x r ih=>simp only[dJ,iN,y9,ei]at ih⊢;unfold aI.w at*;omega
 refine fw func49 60 [0] ?_;refine bW 2 λg2=>?_;refine fb ?_;refine cv (NI) λg11=>dM ?_;refine aw (λzf zL zm=>∃(i:Nat) (D:List CL),(i<=E L/\Ah (BP L) i [] D/\E D<=dJ (L.take i))/\E L-i=zm/\Sub zf [(2,bq g2),(3,.map (some g11)),(12,.slice A (E L) c),(13,ah (E L)),(14,ah i)]/\Wk zL (.bI g2 90 [.slice none 0 0,.slice none 0 0]:: .obj g11 (W0 (lG D))::(D.map uA++F))) _ ⟨0,[],⟨bD _,Ah.start _,ao⟩,rfl,a_,.swap (.refl _)⟩ ?_;rintro _ _ _ ⟨i,D,⟨hi,hG,hDl⟩,rfl,hs,hp⟩;refine aL hs hp ?_;clear hs hp;refine ag 6 (λmj=>?_) λmj=>?_
 ·obtain⟨tm,lv,src,ub,hx⟩:∃tm lv src ub,recAt L i=(tm,lv,src,ub):=⟨_,_,_,_,rfl⟩
  have nC:aJ B w0 (D.map uA++F) 4 (.slice A (E L) c) (E L) (cD L):=hb.mono (fN _ _);have hrc:=iS (L:=L) (k:=i) aa;rw[hx]at hrc;have hws:=mc (L:=L) (k:=i) aa;have x_:=kE L (i+1);have hrw:(recAt L i).w=16+E src+E ub:=by rw[hx];rfl
  obtain⟨T,hT⟩:=cM (BP L i);have hTe:T=s_ ub src:=by rw[hT];unfold BP trm;rw[hx]
  have hTl:E T<=E src+E ub:=by
   have h1:=vg (Fy ub src);have h2:=Fz ub src;rw[hTe];unfold s_;omega
  have hTn:T.Nodup:=by rw[hTe];exact(zD _).nd
  have htd:=λF h1 h2=> @akg B w0 F (.int .u64 tm) (.int .u8 (lv.toNat:Int)) ub src h1 h2;rw[<-hTe]at htd;refine cY ?_;refine ab (bU 4 ae rfl aA aa [.int .u64 tm,.int .u8 (lv.toNat:Int),.string ⟨src.toArray⟩,.string ⟨ub.toArray⟩] hrc rfl) rfl ?_;refine fo λg5=>?_;refine dg ?_;refine ay rfl (htd _ aa aa) λBZ CP=>dx ?_;refine aw (λzf zL zm=>∃(j:Nat) (D2:List CL),(j<=E T/\Ah (BP L) i (T.take j) D2/\E D2<=dJ (L.take i)+j)/\E T-j=zm/\Sub zf [(2,bq g2),(3,.map (some g11)),(4,ah i),(12,.slice A (E L) c),(13,ah (E L)),(14,ah i),(20,.slice BZ (E T) CP),(21,ah (E T)),(22,ah j)]/\Wk zL (.own 9 1 BZ (E T) CP (strs T):: .bI g5 62 [.int .u64 tm,.int .u8 (lv.toNat:Int),.string ⟨src.toArray⟩,.string ⟨ub.toArray⟩]:: .bI g2 90 [.slice none 0 0,.slice none 0 0]:: .obj g11 (W0 (lG D2))::(D2.map uA++F))) _ ⟨0,D,⟨bD _,by rw[oC];exact hG,aa⟩,rfl,a_,.refl _⟩ ?_;rintro _ _ _ ⟨j,D2,⟨hj,hG2,awh⟩,rfl,hs,hp⟩;refine aL hs hp ?_;clear hs hp;refine ag 6 (λpe=>?_) λpe=>?_
  ·refine dg ?_;refine ab (im (b:=T) (j:=j) ae rfl aA aa) rfl (fc ?_);obtain⟨AG,cG,RG,hGv,hGs,hGb⟩:=Wm (T.getD j []) D2;have auG:=hG2.ids (T.getD j []);have hil:E (wO (T.getD j []) D2)<=i+1:=by
    rw[auG];have:E (Pk (BP L) i (T.getD j []))<=i:=by unfold Pk;exact iY (OR _ _) ao
    rw[bm];split<;>simp only[ei,tT]<;>omega
   refine as9 (λw hw=>aj5 [.own 9 1 BZ (E T) CP (strs T),.bI g5 62 [.int .u64 tm,.int .u8 (lv.toNat:Int),.string ⟨src.toArray⟩,.string ⟨ub.toArray⟩],.bI g2 90 [.slice none 0 0,.slice none 0 0]] hGs hw) ?_;refine dx ?_;refine ab (Ec (zv:=(.slice none 0 0)) underlying140 underlying9 (X7 ae) rfl rfl aU) rfl ?_;rw[hGv];refine aX ?_;refine cC gF rfl rfl rfl rfl rfl (λ_=>rfl) aU aa aa ?_;intro _ Mj c33;refine ko (G0 underlying140 underlying9 rfl rfl rfl aU) (dg ?_);refine aj ⟨_,aa,j+1,HA (T.getD j []) Mj c33 i D2,⟨aa,hG2.step hTn aa Mj c33,by have:=agK (T.getD j []) Mj c33 i D2;omega⟩,rfl,a_,adf [_,_,_] (hGb Mj c33 i) qj (by rw[Xg])⟩
  ·obtain rfl:j=E T:=by omega
   rw[js,hT]at hG2;have hGn:=hG2.next;refine dh ?_;refine aj ⟨_,aa,i+1,D2,⟨aa,hGn,aa⟩,rfl,a_,.s2 (.refl _)⟩
 ·obtain rfl:i=E L:=by omega
  rw[js]at hDl;obtain⟨hd1,Y_⟩:=hG.done;have auK:∀p∈lG D,E p.1<=1000000000:=λp hp=>by
   obtain⟨e,he,rfl⟩:=qd.1 hp;have h1:=(hG.keys e.1).1 (qd.2 ⟨e,he,rfl⟩);rw[Y_,Tt]at h1;obtain⟨q,_,h2⟩:=h1;have:=agy h2;show E e.1<=_;omega
  have xo:(lG D).map (·.1)=D.map (·.1):=by simp[lG]
  have Ms:E (lG D)=E D:=by simp[lG]
  have hrp:=aar hG.nd;obtain⟨T0,hT0⟩:=cM (tV (D.map (·.1)));have awi:E T0<=E D:=by
   have:=vg (D.map (·.1));rw[hT0];simpa using this
  have hso:=λF g b=> @afL B w0 F (lG D) g b (by rw[xo];exact hG.nd) aa auK;rw[xo,<-hT0]at hso;rw[<-hT0]at hrp hd1;rw[<-hd1];refine bW 7 λg8=>?_;refine dw ?_;refine bp atP rfl (anF g11) rfl ?_;rintro _ _ ⟨g37,rfl,cR⟩;obtain rfl:=cR.symm;refine ay rfl ((hso _ g37 g11).perm ((gh (z_ (gh (gh (.refl _))))))) λMF Q5=>dx ?_;refine aM 9 1 none (aM 53 1 none (aw (λzf zL zm=>∃(k:Nat) (B1:bh) (b1:Nat) (B2:bh) (b2:Nat),(k<=E T0)/\E T0-k=zm/\Sub zf [(2,bq g2),(3,.map (some g11)),(8,bq g8),(38,.slice MF (E T0) Q5),(39,ah (E T0)),(40,ah k)]/\Wk zL (.own 9 1 B1 k b1 (strs (T0.take k)):: .own 53 1 B2 k b2 ((T0.take k).map λt=>jz (Q9 t D)):: .bI g8 90 [.slice B1 k b1,.slice B2 k b2]:: .own 9 1 MF (E T0) Q5 (strs T0):: .bI g37 140 [.map (some g11)]:: .bI g2 90 [.slice none 0 0,.slice none 0 0]:: .obj g11 (W0 (lG D))::(D.map uA++F))) _ ⟨0,none,0,none,0,bD _,rfl,a_,(gC (dL (vu (dL (dL (gC (dL (.refl _))))))))⟩ ?_));rintro _ _ _ ⟨k,B1,b1,B2,b2,hk,rfl,hs,hp⟩;refine aL hs hp ?_;clear hs hp;refine ag 6 (λtZ=>?_) λtZ=>?_
  ·have qb:T0.take (k+1)=T0.take k++[T0.getD k []]:=by
    rw[yZ,fx (show k<E T0 by omega)];simp[List.getD,fx (show k<E T0 by omega)]
   refine dg ?_;refine ab (im (b:=T0) (j:=k) ae rfl aA aa) rfl (cY ?_);refine cC FY rfl rfl rfl rfl rfl (λ_=>rfl) aU aa aa ?_;intro _ A48 c48;refine dA ?_;refine ab (Ec (zv:=(.slice none 0 0)) underlying140 underlying9 (X7 ae) rfl rfl aU) rfl ?_;rw[aef];refine cC alY rfl rfl rfl rfl rfl (λ_=>rfl) aU aa aa ?_;intro _ A56 c56;refine aD 2 [2,3,8,38,39,40] 6 ?_;refine aj ⟨_,aa,k+1,A48,c48,A56,c56,aa,rfl,a_,au rfl (by rw[qb];simp[strs]) (au rfl (by rw[qb];simp) (.refl _))⟩
  ·obtain rfl:k=E T0:=by omega
   rw[js];refine dM ?_;refine PW rfl rfl ae aU jI (.cons (.cons (.s5 (.c_ (hrp.append_right F))))) ?_;exact⟨B1,b1,B2,b2,T0.map (Q9 · D),rfl,by rw[show(T0.map (Q9 · D)).map jz=T0.map (λt=>jz (Q9 t D)) from CY],by rw[CY,J8,<-hd1];exact tR λt _=>(Wi t D).trans (Y_ t)⟩
theorem amu(h:P:=by(rw[oi (λh=>by rw[h]at ig;exact ig rfl)])):P:=h
theorem apY(h:P:=by(rw[oi (λh=>by rw[h]at kJ;exact kJ rfl)])):P:=h
theorem wj{M N:aN}(h:Wk M N):∀R:aN,Wk (R++M) N
 |[]=>h
 |_::R=>.skip (wj h R)
abbrev MH:=bh×Nat×List Int
abbrev A_(e:MH):Value:=.slice e.1 (E e.2.2) e.2.1
abbrev rB:MH:=(none,0,[])
def ow(B:Nat)(w0:World)(F:aN)(LL:List MH):Prop:=∀e∈LL,aJ B w0 F 1 (.slice e.1 (E e.2.2) e.2.1) (E e.2.2) (ints .i64 e.2.2)
theorem ow.mono{LL:List MH}{M:aN}(h:ow B w0 F LL)(hs:F.Sublist M):ow B w0 M LL:=λe he=>(h e he).mono hs
theorem ow.get{LL:List MH}(h:ow B w0 F LL){k:Nat}(hk:k<E LL):aJ B w0 F 1 (.slice (LL.getD k rB).1 (E (LL.getD k rB).2.2) (LL.getD k rB).2.1) (E (LL.getD k rB).2.2) (ints .i64 (LL.getD k rB).2.2):=h _ (bc hk rB)
theorem anz{LL:List MH}{k:Nat}(hk:k<E LL):(LL.map A_)[k*1]? =some (A_ (LL.getD k rB)):=by
 rw[cH,ib,fx hk];simp[List.getD,fx hk]
theorem asf{l:List Int}{k:Nat}(h:k<E l):(ints .i64 l)[k*1]? =some (ah (l.getD k 0)):=by
 rw[cH,ints,ib,fx h];simp[List.getD,fx h]
theorem aqX{l l2:List Int}(h1:aJ B w0 F 1 (.slice A (E l) c) (E l) (ints .i64 l))(h2:aJ B w0 F 1 (.slice A2 (E l2) c2) (E l2) (ints .i64 l2))(hl:E l<=9223372036854775807):
  bg B w0 241 [.slice A (E l) c,.slice A2 (E l2) c2] F (λr L=>r= .bool (decide (l=l2))/\L=F):=by
 refine fw func241 26 [0,1] ?_;refine ag 15 (λig=>?_) λig=>?_
 ·refine cY ?_;exact⟨amu,rfl⟩
 ·refine fF ?_;refine aw (λzf zL zm=>∃(k:Nat),(k<=E l/\l.take k=l2.take k)/\E l-k=zm/\Sub zf [(0,.slice A (E l) c),(1,.slice A2 (E l2) c2),(12,ah (E l)),(13,ah k)]/\Wk zL (F)) _ ⟨0,⟨bD _,rfl⟩,rfl,a_,.refl _⟩ ?_;rintro _ _ _ ⟨k,⟨hk,heq⟩,rfl,hs,hp⟩;refine aL hs hp (ag 6 (λgT=>?_) λgT=>?_)
  ·refine bK 15 ?_;refine bJ (al ae rfl aA aa (asf (l:=l) (k:=k) aa)) rfl (fc ?_);refine bJ (al ae rfl aA aa (asf (l:=l2) (k:=k) aa)) rfl ?_;refine ag 3 (λkJ=>?_) λkJ=>?_
   ·refine dM ?_;exact⟨apY,rfl⟩
   ·refine dg ?_;refine aj ⟨_,aa,k+1,⟨aa,by rw[aP aa 0,aP aa 0,heq,show l.getD k 0=l2.getD k 0 by omega]⟩,rfl,a_,.refl _⟩
  ·refine dM ?_;have e:l=l2:=by
    have:=heq
    rwa [gv aa,gv aa]at this
   exact⟨by rw[pK e],rfl⟩
theorem aqY{l l2:List cJ}(h1:aJ B w0 F 1 (.slice A (E l) c) (E l) (strs l))(h2:aJ B w0 F 1 (.slice A2 (E l2) c2) (E l2) (strs l2))(hl:E l<=9223372036854775807):
  bg B w0 239 [.slice A (E l) c,.slice A2 (E l2) c2] F (λr L=>r= .bool (decide (l=l2))/\L=F):=by
 refine fw func239 26 [0,1] ?_;refine ag 15 (λig=>?_) λig=>?_
 ·refine cY ?_;exact⟨amu,rfl⟩
 ·refine fF ?_;refine aw (λzf zL zm=>∃(k:Nat),(k<=E l/\l.take k=l2.take k)/\E l-k=zm/\Sub zf [(0,.slice A (E l) c),(1,.slice A2 (E l2) c2),(12,ah (E l)),(13,ah k)]/\Wk zL (F)) _ ⟨0,⟨bD _,rfl⟩,rfl,a_,.refl _⟩ ?_;rintro _ _ _ ⟨k,⟨hk,heq⟩,rfl,hs,hp⟩;refine aL hs hp (ag 6 (λgT=>?_) λgT=>?_)
  ·refine bK 15 ?_;refine bJ (im (b:=l) (j:=k) ae rfl aA aa) rfl (fc ?_);refine bJ (im (b:=l2) (j:=k) ae rfl aA aa) rfl ?_;refine ag 3 (λkJ=>?_) λkJ=>?_
   ·refine dM ?_;exact⟨apY,rfl⟩
   ·refine dg ?_;refine aj ⟨_,aa,k+1,⟨aa,by rw[aP aa [],aP aa [],heq,gE.1 kJ]⟩,rfl,a_,.refl _⟩
  ·refine dM ?_;have e:l=l2:=by
    have:=heq
    rwa [gv aa,gv aa]at this
   exact⟨by rw[pK e],rfl⟩
def gy(LL:List MH):List (List Int):=LL.map (·.2.2)
theorem adV{L1 L2:List MH}{k:Nat}(h:(gy L1).take k=(gy L2).take k)(h1:k<E L1)(h2:k<E L2)(he:(L1.getD k rB).2.2=(L2.getD k rB).2.2):(gy L1).take (k+1)=(gy L2).take (k+1):=by
 have hg:∀(L:List MH) (hk:k<E L),(gy L)[k]? =some (L.getD k rB).2.2:=λL hk=>by
  rw[gy,ib,fx hk];simp[List.getD,fx hk]
 rw[yZ,yZ,h,hg L1 h1,hg L2 h2,he]
theorem DO(L:List aI):∀i,i<=E L->E ((List.range i).flatMap (BP L))<=dJ (L.take i)
 |0,_=>by simp
 |i+1,h=>by
  have ih:=DO L i aa;have hw:=mc (L:=L) (k:=i) aa;have:=aku (recAt L i);rw[mW,tB,bm,hw];simp only[iX,List.flatMap_nil,gN];show _+E (trm (recAt L i))<=_;omega
def toI(LL:List rb):List MH:=LL.map λe=>(e.1,e.2.1,e.2.2.map (λ(n:Nat)=>(n:Int)))
theorem XR(LL:List rb):(toI LL).map A_=LL.map jz:=by
 unfold toI;rw[CY];apply tR;intro e _;simp[A_,jz]
theorem DA(LL:List rb):E (toI LL)=E LL:=by simp[toI]
theorem zK(LL:List rb):gy (toI LL)=(LL.map (·.2.2)).map λl=>l.map (λ(n:Nat)=>(n:Int)):=by
 simp[gy,toI]
theorem XQ{LL:List rb}{L:aN}(h:∀e∈LL,jT e∈L):ow B w0 L (toI LL):=λe he=>by
 obtain⟨a,ha,rfl⟩:=qd.1 he;have:=aJ.own (B:=B) (w0:=w0) (h a ha);simpa[bN,ints,CY,Function.comp_def]using this
end Go.Proofs.YtaodmbolhoafcaaGreatDoor

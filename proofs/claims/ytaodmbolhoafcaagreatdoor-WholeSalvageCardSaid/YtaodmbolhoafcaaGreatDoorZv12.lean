/-
  Texts of one proof, joined: part 12. No condition.
-/
import Derived.Test.YtaodmbolhoafcaaGreatDoorZv11
open List renaming length→E
open Go.RowKit Go.Proofs.Tryz
namespace Go.Proofs.YtaodmbolhoafcaaGreatDoor
set_option linter.unusedVariables false
set_option linter.unusedSimpArgs false
set_option maxRecDepth 20000
variable{b:aq}{o:aZ}{L:List aI}{sz i:Nat}{l:aq}{p:Nat}{out:List aI}{ns:br}{id f:Nat}{LL:List rb}{PB:List kF}{B:Nat}{w0:World}{F L0:aN}{A A1 A2 A3 A4 A5 A6 Af Ao:bh}{n c c1 c2 c3 c4 c5 c6 cf co g gc:Nat}{v0 v1 v2 v3 v4 v5 v6 v7 v8 v9 va:Value}{s:Cs}{gp gq r m N n2 j:Nat}
section
theorem pA{C:Cx}{fr:Fr}{L:aN}{x:Operand}{ty t:TypeId}{fs:Array Field}{fd:Field}{ad:Addr}(ht:C.P.underlying t=some (.struct fs))(hf:fs[i]? =some fd)(hz:Cg C.P fd.type=true)(he:ev fr x=some (.pointer ((some ad).map (·.add j)))){q:Nat}(hq:fd.offset=q):
  gX C fr L (.fieldAddr t x i) ty (.pointer ((some ad).map (λad=>(ad.add j).add q))):=by
 unfold Cg at hz;cases hi:C.P.info? fd.type with
 |none=>rw[hi]at hz;cases hz
 |some f=>
  rw[hi]at hz;have h0:0<f.size:=by simpa[Nat.blt_eq]using hz
  have sI:(C.P.info? fd.type).map (·.size)=some ((f.size-1)+1):=by rw[hi];simp;omega
  intro a w ha hw d pos af gg;subst hq;simp[execOp,Instr.fieldAt,Instr.sureAddr,fieldPlace,ha.tmp he,jk ht,hf,Hf sI]
theorem amD{xs:cQ}(e1:n=E ns)(e2:xs=bN ns)(hb:aJ B w0 F 1 (.slice A n c) n xs)(hl:E ns<=1099511627776)(hs:ns.sum<=1000000000000000):
  bg B w0 92 [.slice A n c] F (λr L=>r=ah (ns.sum:Nat)/\L=F):=by
 subst e1;subst e2;exact DU hb hl hs
theorem abY{k:Nat}(hk:k<=E ns)(hc:E ns<=c)(hb:aJ B w0 (Bo g (.slice A (E ns) c) v1 v2 v3 v4 v5 v6 v7 v8 v9::F) 1 (.slice A (E ns) c) (E ns) (bN ns))(hl:E ns<=1000000)(hs:ns.sum<=1000000):
  bg B w0 232 [bq g,ah (k:Int)] (Bo g (.slice A (E ns) c) v1 v2 v3 v4 v5 v6 v7 v8 v9::F) (λr L=>r=ah ((ns.take k).sum:Nat)/\L=Bo g (.slice A (E ns) c) v1 v2 v3 v4 v5 v6 v7 v8 v9::F):=by
 have qb:=iA ns k;have hh:=hb.h_ (k:=k) hk;have e:(bN ns).take (k*1)=bN (ns.take k):=by rw[cH];simp[bN,mY]
 refine ba func232 12 [0,1] 12 ?_;exact ab (bQ (i:=k) (size:=1) underlying53 ae rfl rfl rfl aa) rfl (ai rfl (amD (ns:=ns.take k) jA e hh jA aa) (cm 5))
theorem BH(r:aI)(L:List aI):cD (r::L)=aI.cells r++cD L:=by simp[cD]
theorem PV(L:List aI):E (cD L)=E L*4:=by
 induction L with
 |nil=>rfl
 |cons r L ih=>rw[BH,bm,ih,ei];simp[aI.cells];omega
def FV(ts:br)(lv:aq)(a:Nat)(L:List aI)(i:Nat):List aI:=(p6 ts lv a L).take i++L.drop i
theorem lk(ts:br)(lv:aq)(a:Nat)(L:List aI):E (p6 ts lv a L)=E L:=by simp[p6]
theorem Qa(ts:br)(lv:aq)(a:Nat)(L:List aI)(h:i<=E L):E (FV ts lv a L i)=E L:=by
 unfold FV;rw[bm,fZ,lk,jM];omega
theorem Ub{ts:br}{lv:aq}{a:Nat}(h:i<E L):
  FV ts lv a L i=(p6 ts lv a L).take i++(recAt L i::L.drop (i+1))/\FV ts lv a L (i+1)=(p6 ts lv a L).take i++((ts.getD (a+i) 0,lv.getD (a+i) 0,(recAt L i).2.2.1,(recAt L i).2.2.2)::L.drop (i+1)):=by
 have hl:=lk ts lv a L;unfold FV;refine⟨by rw[cy h (0,0,[],[])];rfl,?_⟩;rw[aP aa (0,0,[],[]),bT];congr 1;have:(p6 ts lv a L).getD i (0,0,[],[])=(ts.getD (a+i) 0,lv.getD (a+i) 0,(recAt L i).2.2.1,(recAt L i).2.2.2):=by
  unfold p6;rw[bz,ib,uI h];rfl
 rw[this];rfl
theorem aj1{P Q:List aI}{r:aI}{t:Nat}{u:UInt8}(h:E P=i):
  ((cD (P++r::Q)).set (i*4+0) (.int .u64 (t:Int))).set (i*4+1) (.int .u8 (u.toNat:Int))=cD (P++(t,u,r.2.2.1,r.2.2.2)::Q)/\((cD (P++r::Q)).set (i*4+1) (.int .u8 (u.toNat:Int))).set (i*4+0) (.int .u64 (t:Int))=cD (P++(t,u,r.2.2.1,r.2.2.2)::Q):=by
 have hp:E (cD P)=i*4:=by rw[PV,h]
 rw[<-ph,<-ph,BH,BH];constructor
 ·rw[zc _ _ aa,zc _ _ aa,show i*4+0-E (cD P)=0 by omega,show i*4+1-E (cD P)=1 by omega];rfl
 ·rw[zc _ _ aa,zc _ _ aa,show i*4+0-E (cD P)=0 by omega,show i*4+1-E (cD P)=1 by omega];rfl
theorem akv{L:br}{v:Nat}(h:i<E L)(e:L.getD i 0=v):(p9 L)[i*1]? =some (.int .u64 ((v:Nat):Int)):=by
 subst e;simp[p9,bz,fx h]
structure q_(x:fj):Prop where
 fr:E x.bA=E x.ns
 ti:E x.times=x.ns.sum
 le:E x.levels=x.ns.sum
 su:x.ns.sum<=20000
 nl:E x.ns<=20000
 fe:∀f∈x.bA,E f<=1000000
 tl:E x.T<=1048576
 il:E x.I<=1048576
 ie:∀l∈x.I,E l<=20000
 tm:∀t∈x.times,t<18446744073709551616
section
variable{x:fj}{k:Nat}
theorem Sh(h:(du (x.bA.getD k [])).2.2≠0):g_ x k=([],(du (x.bA.getD k [])).2.2):=by unfold g_;rw[av h]
theorem Si(h:¬(du (x.bA.getD k [])).2.2≠0)(h2:(du (x.bA.getD k [])).2.1<E (x.bA.getD k [])):g_ x k=([],2):=by unfold g_;rw[aB h,av h2]
theorem Sj(h:¬(du (x.bA.getD k [])).2.2≠0)(h2:¬(du (x.bA.getD k [])).2.1<E (x.bA.getD k []))(h3:(rZ false (du (x.bA.getD k [])).1).2≠0):g_ x k=([],(rZ false (du (x.bA.getD k [])).1).2):=by unfold g_;rw[aB h,aB h2,av h3]
theorem Sl(h:¬(du (x.bA.getD k [])).2.2≠0)(h2:¬(du (x.bA.getD k [])).2.1<E (x.bA.getD k []))(h3:¬(rZ false (du (x.bA.getD k [])).1).2≠0)(h4:E (rZ false (du (x.bA.getD k [])).1).1≠x.ns.getD k 0):g_ x k=([],2):=by unfold g_;rw[aB h,aB h2,aB h3,av h4]
theorem Sm(h:¬(du (x.bA.getD k [])).2.2≠0)(h2:¬(du (x.bA.getD k [])).2.1<E (x.bA.getD k []))(h3:¬(rZ false (du (x.bA.getD k [])).1).2≠0)(h4:¬E (rZ false (du (x.bA.getD k [])).1).1≠x.ns.getD k 0):g_ x k=(p6 x.times x.levels (x.ns.take k).sum (rZ false (du (x.bA.getD k [])).1).1,0):=by unfold g_;rw[aB h,aB h2,aB h3,aB h4]
end
theorem MY(HT:cK B w0){x:fj}{k:Nat}{FB:List kF}(ho:q_ x)(hk:k<E x.bA)(vK:FB.map (·.2.2)=x.bA)(hcn:E x.ns<=c1)(hn:aJ B w0 (Bo g (.slice A1 (E x.ns) c1) v1 v2 v3 (.slice A3 (E x.times) c3) (.slice A4 (E x.levels) c4) v6 v7 (.slice Af (E FB) cf) v9::F) 1 (.slice A1 (E x.ns) c1) (E x.ns) (bN x.ns))(ht:aJ B w0 (Bo g (.slice A1 (E x.ns) c1) v1 v2 v3 (.slice A3 (E x.times) c3) (.slice A4 (E x.levels) c4) v6 v7 (.slice Af (E FB) cf) v9::F) 1 (.slice A3 (E x.times) c3) (E x.times) (p9 x.times))(hl:aJ B w0 (Bo g (.slice A1 (E x.ns) c1) v1 v2 v3 (.slice A3 (E x.times) c3) (.slice A4 (E x.levels) c4) v6 v7 (.slice Af (E FB) cf) v9::F) 1 (.slice A4 (E x.levels) c4) (E x.levels) (bv x.levels))(hf:aJ B w0 (Bo g (.slice A1 (E x.ns) c1) v1 v2 v3 (.slice A3 (E x.times) c3) (.slice A4 (E x.levels) c4) v6 v7 (.slice Af (E FB) cf) v9::F) 1 (.slice Af (E FB) cf) (E FB) (FB.map de))(EB:∀e∈FB,aJ B w0 (Bo g (.slice A1 (E x.ns) c1) v1 v2 v3 (.slice A3 (E x.times) c3) (.slice A4 (E x.levels) c4) v6 v7 (.slice Af (E FB) cf) v9::F) 1 (de e) (E e.2.2) (bv e.2.2)):
  bg B w0 184 [bq g,ah (k:Int)] (Bo g (.slice A1 (E x.ns) c1) v1 v2 v3 (.slice A3 (E x.times) c3) (.slice A4 (E x.levels) c4) v6 v7 (.slice Af (E FB) cf) v9::F)
   (λv L=>∃A' c',v= .tuple #[.slice A' (E (g_ x k).1) c',ah (g_ x k).2]/\L= .own 62 4 A' (E (g_ x k).1) c' (cD (g_ x k).1)::Bo g (.slice A1 (E x.ns) c1) v1 v2 v3 (.slice A3 (E x.times) c3) (.slice A4 (E x.levels) c4) v6 v7 (.slice Af (E FB) cf) v9::F):=by
 obtain⟨o1,o2,o3,o4,o5,o6,_,_,_,_⟩:=ho;have Ra:E FB=E x.bA:=by rw[<-vK,eZ]
 have zX:=C7 (PB:=FB) (i:=k) aa;have mD:=bc (l:=FB) (show k<E FB by omega) lM;have qo:(FB.getD k lM).2.2=x.bA.getD k []:=by rw[<-vK,Fq]
 obtain⟨⟨PA,PC,f⟩,hP⟩:∃e,e=FB.getD k lM:=⟨_,rfl⟩
 rw[<-hP]at zX mD qo;have qo:f=x.bA.getD k []:=qo;have hbf:=EB _ mD;have l_:E f<=1000000:=by rw[qo];exact o6 _ (bc hk [])
 have xq:=iA x.ns (k+1);have EI:(x.ns.take (k+1)).sum=(x.ns.take k).sum+x.ns.getD k 0:=by rw[aP aa 0,pJ];simp
 have ey:=DP f;refine ba func184 100 [0,1] 14 ?_;refine ab (al ae rfl hf aa zX) rfl (ay rfl (Vo HT (b:=f) rfl rfl hbf l_) λBZ CP=>ag 18 (λkJ=>?_) λkJ=>?_)
 ·have e:=Sh (x:=x) (k:=k) (by rw[<-qo];exact kJ);refine aD 5 [4,5] 4 ?_;refine aH 62 4 none (ak (.cons (.skip (.refl _))) (aX ?_));rw[e,<-qo];exact⟨none,0,rfl,rfl⟩
 ·have air:¬(du (x.bA.getD k [])).2.2≠0:=by rw[<-qo];exact kJ
  refine dA ?_;refine ab (al ae rfl hf.cons aa zX) rfl (aD 3 [0,1,6,28] 0 ?_);refine ag 1 (λqa=>?_) λqa=>?_
  ·have e:=Si (x:=x) (k:=k) air (by rw[<-qo];have q:(((du f).2.1:Nat):Int)<((E f:Nat):Int):=qa;omega);refine dA ?_;refine aH 62 4 none (ak (.cons (.skip (.refl _))) (aX ?_));rw[e];exact⟨none,0,rfl,rfl⟩
  ·have am2:¬(du (x.bA.getD k [])).2.1<E (x.bA.getD k []):=by rw[<-qo];have q:¬(((du f).2.1:Nat):Int)<((E f:Nat):Int):=qa;omega
   refine dw ?_;refine ay rfl (PO (l:=(du f).1) false aA aa) λMk c41=>?_;refine ag 16 (λsm=>?_) λsm=>?_
   ·have e:=Sj (x:=x) (k:=k) air am2 (by rw[<-qo];exact sm);refine dh ?_;refine aH 62 4 none (ak (.cons (.s2 (.refl _))) (aX ?_));rw[e,<-qo];exact⟨none,0,rfl,rfl⟩
   ·have ark:¬(rZ false (du (x.bA.getD k [])).1).2≠0:=by rw[<-qo];exact sm
    refine fF ?_;refine ab (al ae rfl hn.cons.cons aa (fi (v:=x.ns.getD k 0) aa rfl)) rfl (aD 2 [0,1,9,48] 0 ?_);refine ag 1 (λxl=>?_) λxl=>?_
    ·have e:=Sl (x:=x) (k:=k) air am2 ark (by rw[<-qo];omega);refine dA ?_;refine aH 62 4 none (ak (.cons (.s2 (.refl _))) (aX ?_));rw[e];exact⟨none,0,rfl,rfl⟩
    ·have e:=Sm (x:=x) (k:=k) air am2 ark (by rw[<-qo];omega);rw[<-qo]at e;obtain⟨RL,hRL⟩:=cM ((rZ false (du f).1).1);obtain⟨a,ha⟩:=cM ((x.ns.take k).sum);rw[<-hRL]at xl e⊢;rw[<-ha]at EI e;refine dA ?_;refine ai rfl (.perm (abY (k:=k) aa hcn (hn.mono (.cons_cons _ (.cons _ (.cons _ (.refl _))))) aa aa) ((z_ (gh (gh (.refl _)))))) (dx ?_);rw[<-ha];refine jP ((oI (gh (gh (.refl _))))) ?_;refine dg ?_;refine aw (λzf zL zm=>∃(i:Nat),(i<=E RL)/\E RL-i=zm/\Sub zf [(0,bq g),(9,.slice Mk (E RL) c41),(10,ah (a:Int)),(66,ah (E RL)),(67,ah (i:Int))]/\Wk zL (.own 62 4 Mk (E RL) c41 (cD (FV x.times x.levels a RL i))::Bo g (.slice A1 (E x.ns) c1) v1 v2 v3 (.slice A3 (E x.times) c3) (.slice A4 (E x.levels) c4) v6 v7 (.slice Af (E FB) cf) v9::F)) _ ⟨0,bD _,rfl,a_,.trans ((dL (dL (.skip (.refl _))))) (au rfl (by unfold FV;simp) (.refl _))⟩ ?_;rintro _ _ _ ⟨i,hi,rfl,hs,hp⟩;refine aL hs hp (ag 6 (λh68=>?_) λh68=>?_)
     ·have G7:=Qa x.times x.levels a RL hi;obtain⟨avd,anw⟩:=Ub (ts:=x.times) (lv:=x.levels) (a:=a) (L:=RL) (i:=i) aa;have avi:E ((p6 x.times x.levels a RL).take i)=i:=by rw[fZ,lk];omega
      obtain⟨adM,adN⟩:=aj1 (P:=(p6 x.times x.levels a RL).take i) (Q:=RL.drop (i+1)) (r:=recAt RL i) (t:=x.times.getD (a+i) 0) (u:=x.levels.getD (a+i) 0) avi;rw[<-avd]at adM adN;rw[<-anw]at adM adN;have KL:=PV (FV x.times x.levels a RL i);obtain⟨M,hM⟩:=cM (cD (FV x.times x.levels a RL i));rw[<-hM]at adM adN KL⊢;refine dh ?_;refine jH (A:=Mk) (n:=E RL) (xs:=M) (.head _) aa ?_;intro ad hA;subst hA;refine lx (Bo g (.slice A1 (E x.ns) c1) v1 v2 v3 (.slice A3 (E x.times) c3) (.slice A4 (E x.levels) c4) v6 v7 (.slice Af (E FB) cf) v9::F) ?_;refine aF 0 11 ?_;refine aS 11 rfl (bF rfl rfl (r:=((a+i:Nat):Int)) ((bj aa aa).trans aa)) (aS 12 rfl (az (i:=a+i) (size:=1) underlying183 ae rfl rfl rfl aa ht) (aS 13 rfl (al ae rfl ht aa (akv (v:=x.times.getD (a+i) 0) aa rfl)) (aF 14 7 ?_)));refine aS 21 rfl (bF rfl rfl (r:=((a+i:Nat):Int)) ((bj aa aa).trans aa)) (aS 22 rfl (az (i:=a+i) (size:=1) underlying27 ae rfl rfl rfl aa hl) (aS 23 rfl (l8 ae rfl hl aa) (aS 24 rfl (aO (i:=i) (size:=4) underlying24 ae rfl rfl rfl aa) (aS 25 rfl (pA underlying62 rfl ae rfl rfl) (aC 26 (ky rfl .no (ux (q:=0) ae rfl rfl rfl .hd (by(try rw[List.length_set]);omega)) uf ?_))))));rintro _ _ rfl;refine aS 27 rfl (aO (i:=i) (size:=4) underlying24 ae rfl rfl rfl aa) (aS 28 rfl (pA underlying62 rfl ae rfl rfl) (aC 29 (ky rfl .no (ux (q:=1) ae rfl rfl rfl .hd (by(try rw[List.length_set]);omega)) uf ?_)));rintro _ _ rfl;refine di [0,9,10,66,67] ?_;refine dw ?_;refine aj ⟨_,aa,i+1,aa,rfl,a_,au rfl (by first|exact adM|exact adN) (.refl _)⟩
     ·obtain rfl:i=E RL:=by omega
      have uE:FV x.times x.levels a RL (E RL)=p6 x.times x.levels a RL:=by unfold FV;rw[gv (by rw[lk];omega),Cu,gN]
      have arG:=lk x.times x.levels a RL;refine bK 14 ?_;rw[e,uE];exact⟨Mk,c41,by rw[arG],by rw[arG]⟩
end
section
theorem Pn{n:Nat}(hn:n<=1000000000):∀(f:Nat) (s:Cs) (o:aq),n<=f+E o->E o<=n->(Hq f n s o).2.e=0->E (Hq f n s o).1=n
 |0,s,o,h1,h2,_=>by show E o=n;omega
 |f+1,s,o,h1,h2,h3=>by
  by_cases hc:E o<n/\s.e=0
  ·rw[Tu hc]at h3⊢;have hT:(MB n s o).e=0:=b_ λk=>by
    rw[zl (λq=>k q.2)]at h3;exact k h3
   obtain⟨k1,k2,_⟩:=Tv hT;have wQ:Rj n s o≠0:=λk=>k1 ⟨k2,.inl k⟩;have x8:=aeo (s:=s) h2 hn;exact Pn hn f _ _ bS bS h3
  ·rw[zl hc]at h3⊢;have hh:¬E o<n:=λk=>hc ⟨k,h3⟩;show E o=n;omega
theorem Qx:∀(k was:Nat) (s:Cs),(CG k was s).2.e=0->E (CG k was s).1=k
 |0,_,_,_=>rfl
 |k+1,was,s,h=>by
  rw[CG]at h⊢;by_cases h0:s.e=0
  ·rw[av h0]at h⊢;rw[ei,Qx k _ _ h]
  ·rw[aB h0]at h;exact absurd h h0
theorem agm:∀(k was:Nat) (s:Cs),∀t∈(CG k was s).1,t<18446744073709551616
 |0,_,_,t,h=>by cases h
 |k+1,was,s,t,h=>by
  rw[CG]at h;split at h
  ·rcases fq.1 h with rfl|h
   ·exact ahj _ _
   ·exact agm k _ _ t h
  ·cases h
theorem afb(h:(om n l).2.2.2=0):E (om n l).1=n/\E (om n l).2.1=n/\n<=20000/\∀t∈(om n l).1,t<18446744073709551616:=by
 by_cases h1:(n:Int)<0\/(20000:Int)<n
 ·rw[Xh h1]at h;simp at h
 ·by_cases h2:(Ht n l).2.e=0
  ·rw[TY h1 h2];have hv:=Pn (n:=n) aa (n+1) (MC n l).2 [] ao ao h2;refine⟨?_,hv,aa,agm _ _ _⟩;by_cases h0:n=0
   ·subst h0;rfl
   ·have ht:(MC n l).2.e=0:=b_ λk=>by
     unfold Ht at h2;rw[zl (λq=>k q.2)]at h2;exact k h2
    exact Qx _ _ _ ht
  ·rw[Xi h1 h2]at h;exact absurd h h2
theorem amB(ey:E b<=1000000)(h:¬dF 2 (o2 o)≠0)(h3:¬drE (gY b) (E (DR b))≠0)(h4:¬Im (iJ (gY b)).1.sum (GS b)≠0):q_ (ahD o b):=by
 have SH:=VW (gY b);have hRR:=Kn (gY b);have hz:=Ny (b_ h3);have yP:(om ((iJ (gY b)).1.sum:Nat) (aT (GS b)).1).2.2.2=0:=by
  have h4:=b_ h4;unfold Im at h4;split at h4
  ·rename_i k;exact absurd h4 k
  ·split at h4
   ·rename_i k;exact absurd h4 k
   ·rename_i k;exact b_ k
 obtain⟨r1,r2,r3,r4⟩:=afb yP;have hom:=Bv (.inr (.inl rfl)) (b_ h);obtain⟨_,_,m4,_⟩:=hom;obtain⟨m5,m6⟩:=m4 (.inr rfl);have m6:o.2.2.1<=64:=m6;obtain⟨z1,z2,z3⟩:=adW (size:=o.2.2.1) (bound:=((iJ (gY b)).1.sum:Nat)) (b:=(aT (B_ b)).1) aa;refine⟨?_,r1,r2,by show(iJ (gY b)).1.sum<=20000;omega,by show(iJ (gY b)).1.length<=20000;omega,λf hf=>?_,z1,z2,z3,r4⟩
 ·show(nS (iJ (gY b)).2.1 (DR b)).length=E (iJ (gY b)).1;rw[nT];omega
 ·have hlr:=IP b;have hle:∀(ss:br) (r:aq),∀f∈nS ss r,E f<=E r:=by
   intro ss;induction ss with
   |nil=>intro r f hf;simp[nS]at hf
   |cons n ss ih=>
    intro r f hf;rw[nS]at hf;rcases fq.1 hf with rfl|hf
    ·rw[fZ];omega
    ·have:=ih _ f hf;rw[jM]at this;omega
  have:=hle _ _ f hf;have e:(lF b).1=DR b:=rfl;rw[e]at hlr;omega
theorem Es{x:fj}{k:Nat}(h:(g_ x k).2=0):E (g_ x k).1=x.ns.getD k 0:=by
 by_cases h1:(du (x.bA.getD k [])).2.2≠0
 ·rw[Sh h1]at h;exact absurd h h1
 ·by_cases h2:(du (x.bA.getD k [])).2.1<E (x.bA.getD k [])
  ·rw[Si h1 h2]at h;simp at h
  ·by_cases h3:(rZ false (du (x.bA.getD k [])).1).2≠0
   ·rw[Sj h1 h2 h3]at h;exact absurd h h3
   ·by_cases h4:E (rZ false (du (x.bA.getD k [])).1).1≠x.ns.getD k 0
    ·rw[Sl h1 h2 h3 h4]at h;simp at h
    ·rw[Sm h1 h2 h3 h4];simp only;rw[lk];exact b_ h4
theorem aid{x:fj}{k:Nat}(ho:q_ x):∀r∈(g_ x k).1,r.1<18446744073709551616:=λr hr=>by
 by_cases h1:(du (x.bA.getD k [])).2.2≠0
 ·rw[Sh h1]at hr;cases hr
 ·by_cases h2:(du (x.bA.getD k [])).2.1<E (x.bA.getD k [])
  ·rw[Si h1 h2]at hr;cases hr
  ·by_cases h3:(rZ false (du (x.bA.getD k [])).1).2≠0
   ·rw[Sj h1 h2 h3]at hr;cases hr
   ·by_cases h4:E (rZ false (du (x.bA.getD k [])).1).1≠x.ns.getD k 0
    ·rw[Sl h1 h2 h3 h4]at hr;cases hr
    ·rw[Sm h1 h2 h3 h4]at hr;obtain⟨i,_,rfl⟩:=qd.1 hr;show x.times.getD _ 0<_;rw[bz];cases hq:x.times[(x.ns.take k).sum+i]? with
     |none=>simp
     |some t=>exact ho.tm t (List.mem_of_getElem? hq)
theorem Ph{x:fj}{k:Nat}(h:(g_ x k).2≠0):oj x (f+1) k out=([],(g_ x k).2):=by rw[oj,av h]
theorem WV{x:fj}{k:Nat}(h:¬(g_ x k).2≠0):oj x (f+1) k out=oj x f (k+1) (out++(g_ x k).1):=by rw[oj,aB h]
theorem WW{x:fj}(ho:q_ x):∀(f k:Nat) (out:List aI),(∀r∈out,r.1<18446744073709551616)->∀r∈(oj x f k out).1,r.1<18446744073709551616
 |0,_,_,h,r,hr=>h r hr
 |f+1,k,out,h,r,hr=>by
  by_cases h1:(g_ x k).2≠0
  ·rw[Ph h1]at hr;cases hr
  ·rw[WV h1]at hr;refine WW ho f (k+1) _ (λq hq=>?_) r hr;rcases dO.1 hq with hq|hq
   ·exact h q hq
   ·exact aid ho q hq
section
variable{x:fj}
theorem anL{e:Int}(h:oj x (E x.bA) 0 []=([],e))(he:e≠0):rS x=([],e):=by unfold rS;rw[h,av he]
theorem anM(h:oj x (E x.bA) 0 []=(out,0))(hc:dC out≠0):rS x=([],dC out):=by unfold rS;rw[h,aB ao,av hc]
theorem anN(h:oj x (E x.bA) 0 []=(out,0))(hc:¬dC out≠0)(hi:¬(x.T=mP out/\x.I=mO out)):rS x=([],15):=by unfold rS;rw[h,aB ao,aB hc,av hi]
theorem anO(h:oj x (E x.bA) 0 []=(out,0))(hc:¬dC out≠0)(hi:x.T=mP out/\x.I=mO out):rS x=(out,0):=by unfold rS;rw[h,aB ao,aB hc,aB (λk=>k hi)]
end
theorem agq{L:aN}(h:∀e∈LL,aJ B w0 L 1 (jz e) (E e.2.2) (bN e.2.2)):ow B w0 L (toI LL):=λe he=>by
 obtain⟨x,hx,rfl⟩:=qd.1 he;have:=h x hx;have e1:ints .i64 (x.2.2.map λ(n:Nat)=>(n:Int))=bN x.2.2:=by simp[ints,bN]
 simp only[eZ];rw[e1];exact this
theorem aaQ(h:∀e∈LL,E e.2.2<=m)(hm:m<=9223372036854775807):∀e∈toI LL,E e.2.2<=9223372036854775807:=λe he=>by
 obtain⟨x,hx,rfl⟩:=qd.1 he;have:=h x hx;simp only[eZ];omega
theorem ajF{T1 T2:List cJ}{L1 L2:List MH}{m1 m2:Nat}(e1:m1=E L1)(e2:m2=E L2)(e3:n2=E T2)(h1:aJ B w0 F 1 (.slice A1 (E T1) c1) (E T1) (strs T1))(Rb:aJ B w0 F 1 (.slice A2 m1 c2) m1 (L1.map A_))(hI1:ow B w0 F L1)(h2:aJ B w0 F 1 (.slice A3 n2 c3) n2 (strs T2))(Sz:aJ B w0 F 1 (.slice A4 m2 c4) m2 (L2.map A_))(hI2:ow B w0 F L2)(hs:E T1<=1000000000)(jj:E L1<=1000000000)(t_:∀e∈L1,E e.2.2<=9223372036854775807):
  bg B w0 195 [.agg [.slice A1 (E T1) c1,.slice A2 m1 c2].toArray,.agg [.slice A3 n2 c3,.slice A4 m2 c4].toArray] F (λr L=>r= .bool (decide (T1=T2/\gy L1=gy L2))/\L=F):=by
 subst e1;subst e2;subst e3;exact ajE h1 Rb hI1 h2 Sz hI2 hs jj t_
theorem amA(HT:cK B w0){x:fj}{FB:List kF}(ho:q_ x)(vK:FB.map (·.2.2)=x.bA)(hLx:LL.map (·.2.2)=x.I)(hcn:E x.ns<=c1)(hn:aJ B w0 (Bo g (.slice A1 (E x.ns) c1) v1 v2 v3 (.slice A3 (E x.times) c3) (.slice A4 (E x.levels) c4) (.slice A5 (E x.T) c5) (.slice A6 (E LL) c6) (.slice Af (E FB) cf) v9::F) 1 (.slice A1 (E x.ns) c1) (E x.ns) (bN x.ns))(ht:aJ B w0 (Bo g (.slice A1 (E x.ns) c1) v1 v2 v3 (.slice A3 (E x.times) c3) (.slice A4 (E x.levels) c4) (.slice A5 (E x.T) c5) (.slice A6 (E LL) c6) (.slice Af (E FB) cf) v9::F) 1 (.slice A3 (E x.times) c3) (E x.times) (p9 x.times))(hl:aJ B w0 (Bo g (.slice A1 (E x.ns) c1) v1 v2 v3 (.slice A3 (E x.times) c3) (.slice A4 (E x.levels) c4) (.slice A5 (E x.T) c5) (.slice A6 (E LL) c6) (.slice Af (E FB) cf) v9::F) 1 (.slice A4 (E x.levels) c4) (E x.levels) (bv x.levels))(hT:aJ B w0 (Bo g (.slice A1 (E x.ns) c1) v1 v2 v3 (.slice A3 (E x.times) c3) (.slice A4 (E x.levels) c4) (.slice A5 (E x.T) c5) (.slice A6 (E LL) c6) (.slice Af (E FB) cf) v9::F) 1 (.slice A5 (E x.T) c5) (E x.T) (strs x.T))(hI:aJ B w0 (Bo g (.slice A1 (E x.ns) c1) v1 v2 v3 (.slice A3 (E x.times) c3) (.slice A4 (E x.levels) c4) (.slice A5 (E x.T) c5) (.slice A6 (E LL) c6) (.slice Af (E FB) cf) v9::F) 1 (.slice A6 (E LL) c6) (E LL) (LL.map jz))(hIe:∀e∈LL,aJ B w0 (Bo g (.slice A1 (E x.ns) c1) v1 v2 v3 (.slice A3 (E x.times) c3) (.slice A4 (E x.levels) c4) (.slice A5 (E x.T) c5) (.slice A6 (E LL) c6) (.slice Af (E FB) cf) v9::F) 1 (jz e) (E e.2.2) (bN e.2.2))(hf:aJ B w0 (Bo g (.slice A1 (E x.ns) c1) v1 v2 v3 (.slice A3 (E x.times) c3) (.slice A4 (E x.levels) c4) (.slice A5 (E x.T) c5) (.slice A6 (E LL) c6) (.slice Af (E FB) cf) v9::F) 1 (.slice Af (E FB) cf) (E FB) (FB.map de))(EB:∀e∈FB,aJ B w0 (Bo g (.slice A1 (E x.ns) c1) v1 v2 v3 (.slice A3 (E x.times) c3) (.slice A4 (E x.levels) c4) (.slice A5 (E x.T) c5) (.slice A6 (E LL) c6) (.slice Af (E FB) cf) v9::F) 1 (de e) (E e.2.2) (bv e.2.2)):
  bg B w0 127 [bq g] (Bo g (.slice A1 (E x.ns) c1) v1 v2 v3 (.slice A3 (E x.times) c3) (.slice A4 (E x.levels) c4) (.slice A5 (E x.T) c5) (.slice A6 (E LL) c6) (.slice Af (E FB) cf) v9::F)
   (λv L=>∃A' c',v= .tuple #[.slice A' (E (rS x).1) c',ah (rS x).2]/\L= .own 62 4 A' (E (rS x).1) c' (cD (rS x).1)::Bo g (.slice A1 (E x.ns) c1) v1 v2 v3 (.slice A3 (E x.times) c3) (.slice A4 (E x.levels) c4) (.slice A5 (E x.T) c5) (.slice A6 (E LL) c6) (.slice Af (E FB) cf) v9::F):=by
 have Ra:E FB=E x.bA:=by rw[<-vK,eZ]
 have hLl:E LL=E x.I:=by rw[<-hLx,eZ]
 obtain⟨o1,o2,o3,o4,o5,o6,o7,o8,o9,o10⟩:=ho;have ho:q_ x:=⟨o1,o2,o3,o4,o5,o6,o7,o8,o9,o10⟩
 refine ba func127 46 [0] 17 ?_;refine aM 62 4 none (bK 16 ?_);refine aw (λzf zL zm=>∃(k:Nat) (out:List aI) (Ao:bh) (co:Nat),(k<=E x.bA/\E out=(x.ns.take k).sum/\oj x (E x.bA-k) k out=oj x (E x.bA) 0 [])/\E x.bA-k=zm/\Sub zf [(0,bq g),(4,.slice Ao (E out) co),(15,ah (E FB)),(16,ah (k:Int))]/\Wk zL (.own 62 4 Ao (E out) co (cD out)::Bo g (.slice A1 (E x.ns) c1) v1 v2 v3 (.slice A3 (E x.times) c3) (.slice A4 (E x.levels) c4) (.slice A5 (E x.T) c5) (.slice A6 (E LL) c6) (.slice Af (E FB) cf) v9::F)) _ ⟨0,[],none,0,⟨bD _,ao,by rw[ET]⟩,rfl,a_,.refl _⟩ ?_;rintro _ _ _ ⟨k,out,Ao,co,⟨hk,G9,G6⟩,rfl,hs,hp⟩;refine aL hs hp (ag 6 (λgH=>?_) λgH=>?_)
 ·have hkf:E x.bA-k=(E x.bA-(k+1))+1:=by omega
  rw[hkf]at G6;have xq:=iA x.ns (k+1);have EI:(x.ns.take (k+1)).sum=(x.ns.take k).sum+x.ns.getD k 0:=by rw[aP aa 0,pJ];simp
  refine bK 14 ?_;refine ay rfl (.perm (MY HT (k:=k) (v6:=.slice A5 (E x.T) c5) (v7:=.slice A6 (E LL) c6) ho aa vK hcn (hn.mono (.cons_cons _ (.cons _ (.refl _)))) (ht.mono (.cons_cons _ (.cons _ (.refl _)))) (hl.mono (.cons_cons _ (.cons _ (.refl _)))) (hf.mono (.cons_cons _ (.cons _ (.refl _)))) (λe he=>(EB e he).mono (.cons_cons _ (.cons _ (.refl _))))) ((oI (gh (.refl _))))) λUT Vs=>ag 14 (λq7=>?_) λq7=>?_
  ·rw[Ph q7]at G6;have e:=anL G6.symm q7;refine aD 5 [2,3] 8 ?_;refine aH 62 4 none (ak (.cons (.skip (.cons (.skip (.refl _))))) (aX ?_));rw[e];exact⟨none,0,rfl,rfl⟩
  ·rw[WV q7]at G6;have l_:=Es (b_ q7);have CU:E (out++(g_ x k).1)=E out+E (g_ x k).1:=bm;refine dx ?_;refine dB (bB JE rfl aU rfl (aJ.own (.head _)) (vS _) aa aa) λRp c30=>?_;refine aD 1 [0,4,15,16] 6 ?_;refine aj ⟨_,aa,k+1,out++(g_ x k).1,Rp,c30,⟨aa,aa,G6⟩,rfl,a_,.trans ((lU (gC (.skip (.refl _))))) (au aa (by rw[ph]) (.refl _))⟩
 ·obtain rfl:k=E x.bA:=by omega
  rw[rE,oj]at G6;refine dA ?_;refine ai rfl (pg out (aJ.own (.head _))) (ag 9 (λAV=>?_) λAV=>?_)
  ·have e:=anM G6.symm AV;refine dA ?_;refine aH 62 4 none (ak (.cons (.skip (.refl _))) (aX ?_));rw[e];exact⟨none,0,rfl,rfl⟩
  ·obtain⟨q1,q2,q3⟩:=jC (b_ AV) (λr hr=>by
    have:=WW ho (E x.bA) 0 [] (λ_ h=>jB) r (by rw[<-G6];exact hr);exact this)
   refine cN 4 (.own 62 4 Ao (E out) co (cD out)::Bo g (.slice A1 (E x.ns) c1) v1 v2 v3 (.slice A3 (E x.times) c3) (.slice A4 (E x.levels) c4) (.slice A5 (E x.T) c5) (.slice A6 (E LL) c6) (.slice Af (E FB) cf) v9::F) ?_;refine aF 0 3 ?_;refine aS 3 rfl (cu 2 ae rfl aU [.slice A5 (E x.T) c5,.slice A6 (E LL) c6] rfl rfl) ?_;refine dI 4 ?_;refine aC 5 (gS rfl .no aqQ rfl (Vp (L:=out) (aJ.own (.head _)) q3) rfl (by rintro _ _ ⟨AT,cT,AL,cL,L2,rfl,rfl,Sz⟩;exact gI) ?_);rintro _ _ ⟨AT,cT,AL,cL,L2,rfl,cR,Sz⟩;obtain rfl:=cR.symm;refine aC 6 (lu rfl rfl (ajF (T1:=x.T) (T2:=mP out) (L1:=toI LL) (L2:=toI L2) (by rw[DA]) (by rw[DA];have:=eG List.length Sz;simpa[J8,mP]using this.symm) rfl (hT.mono (.cons _ (.cons _ (.trans (.cons _ (.refl _)) (fN _ _))))) (by rw[XR];exact hI.mono (.cons _ (.cons _ (.trans (.cons _ (.refl _)) (fN _ _))))) (agq λe he=>(hIe e he).mono (.cons _ (.cons _ (.trans (.cons _ (.refl _)) (fN _ _))))) (aJ.own (.head _)) ap2 (XQ λe he=>.tail _ (.tail _ (ku _ (jr (f:=jT) he)))) aa (by rw[DA];omega) (λe he=>(aaQ (m:=20000) (λe he=>o9 _ (by rw[<-hLx];exact jr (f:=λy:rb=>y.2.2) he)) aa e he))) (dI 7 ?_));refine ag 2 (λsm=>?_) λsm=>?_
   ·have hi:¬(x.T=mP out/\x.I=mO out):=λhh=>sm ⟨hh.1,by rw[zK,zK,hLx,Sz,hh.2];rfl⟩;have e:=anN G6.symm AV hi;refine aD 4 [2,3] 3 ?_;refine aH 62 4 none (ak (.cons (.s2 ((ej _ _).trans (.skip (.refl _))))) (aX ?_));rw[e];exact⟨none,0,rfl,rfl⟩
   ·have hi:x.T=mP out/\x.I=mO out:=by
     have hh:=b_ sm;refine⟨hh.1,AA ?_⟩;have h2:=hh.2;rw[zK,zK,hLx,Sz]at h2;exact h2
    have e:=anO G6.symm AV hi;refine aD 7 [2,3] 2 ?_;refine ak (.s2 (ej _ _)) (aX ?_);rw[e];exact⟨Ao,co,rfl,rfl⟩
theorem DG.open_{x:fj}{L:aN}(h:DG B w0 L g x va):∃(A1:bh) (c1:Nat) (A2:bh) (c2:Nat) (A3:bh) (c3:Nat) (A4:bh) (c4:Nat) (A5:bh) (c5:Nat) (A6:bh) (c6:Nat) (LX:List rb) (Af:bh) (cf:Nat) (FB:List kF) (M:aN),
  L.Perm (Bo g (.slice A1 (E x.ns) c1) (.slice A2 (E x.ss) c2) (ah x.c) (ah x.i) (.slice A3 (E x.times) c3) (.slice A4 (E x.levels) c4) (.slice A5 (E x.T) c5) (.slice A6 (E LX) c6) (.slice Af (E FB) cf) va::M)/\
  aJ B w0 L 1 (.slice A1 (E x.ns) c1) (E x.ns) (bN x.ns)/\aJ B w0 L 1 (.slice A3 (E x.times) c3) (E x.times) (p9 x.times)/\aJ B w0 L 1 (.slice A4 (E x.levels) c4) (E x.levels) (bv x.levels)/\
  aJ B w0 L 1 (.slice A5 (E x.T) c5) (E x.T) (strs x.T)/\aJ B w0 L 1 (.slice A6 (E LX) c6) (E LX) (LX.map jz)/\(∀e∈LX,aJ B w0 L 1 (jz e) (E e.2.2) (bN e.2.2))/\LX.map (·.2.2)=x.I/\
  aJ B w0 L 1 (.slice Af (E FB) cf) (E FB) (FB.map de)/\(∀e∈FB,aJ B w0 L 1 (de e) (E e.2.2) (bv e.2.2))/\FB.map (·.2.2)=x.bA:=by
 obtain⟨A1,c1,A2,c2,A3,c3,A4,c4,A5,c5,A6,c6,LX,Af,cf,FB,h1,h2,h3,h4,h5,h6,h7,h8,h9,ig,oA⟩:=h;obtain⟨s,t,rfl⟩:=List.append_of_mem h1;exact⟨A1,c1,A2,c2,A3,c3,A4,c4,A5,c5,A6,c6,LX,Af,cf,FB,s++t,zb,h2,h3,h4,h5,h6,h7,h8,h9,ig,oA⟩
theorem CJ.open_{x:fj}{L:aN}(h:CJ B w0 L g x):∃(A1:bh) (c1:Nat) (A2:bh) (c2:Nat) (A3:bh) (c3:Nat) (A4:bh) (c4:Nat) (A5:bh) (c5:Nat) (A6:bh) (c6:Nat) (LX:List rb) (Af:bh) (cf:Nat) (FB:List kF) (va:Value) (M:aN),
  L.Perm (Bo g (.slice A1 (E x.ns) c1) (.slice A2 (E x.ss) c2) (ah x.c) (ah x.i) (.slice A3 (E x.times) c3) (.slice A4 (E x.levels) c4) (.slice A5 (E x.T) c5) (.slice A6 (E LX) c6) (.slice Af (E FB) cf) va::M)/\
  aJ B w0 L 1 (.slice A1 (E x.ns) c1) (E x.ns) (bN x.ns)/\aJ B w0 L 1 (.slice A3 (E x.times) c3) (E x.times) (p9 x.times)/\aJ B w0 L 1 (.slice A4 (E x.levels) c4) (E x.levels) (bv x.levels)/\
  aJ B w0 L 1 (.slice A5 (E x.T) c5) (E x.T) (strs x.T)/\aJ B w0 L 1 (.slice A6 (E LX) c6) (E LX) (LX.map jz)/\(∀e∈LX,aJ B w0 L 1 (jz e) (E e.2.2) (bN e.2.2))/\LX.map (·.2.2)=x.I/\
  aJ B w0 L 1 (.slice Af (E FB) cf) (E FB) (FB.map de)/\(∀e∈FB,aJ B w0 L 1 (de e) (E e.2.2) (bv e.2.2))/\FB.map (·.2.2)=x.bA:=by
 obtain⟨va,h⟩:=h;obtain⟨A1,c1,A2,c2,A3,c3,A4,c4,A5,c5,A6,c6,LX,Af,cf,FB,M,h⟩:=h.open_;exact⟨A1,c1,A2,c2,A3,c3,A4,c4,A5,c5,A6,c6,LX,Af,cf,FB,va,M,h⟩
theorem ab2(HT:cK B w0){x:fj}{L:aN}(ho:q_ x)(hB:CJ B w0 L g x):
  bg B w0 127 [bq g] L (λv K=>∃A' c',v= .tuple #[.slice A' (E (rS x).1) c',ah (rS x).2]/\K= .own 62 4 A' (E (rS x).1) c' (cD (rS x).1)::L):=by
 obtain⟨A1,c1,A2,c2,A3,c3,A4,c4,A5,c5,A6,c6,LX,Af,cf,FB,va,M,hp,h2,h3,h4,h5,h6,h7,h8,h9,ig,oA⟩:=hB.open_;refine dQ.yk h2 λhcn _=>?_;exact((amA HT ho oA h8 hcn (h2.perm hp) (h3.perm hp) (h4.perm hp) (h5.perm hp) (h6.perm hp) (λe he=>(h7 e he).perm hp) (h9.perm hp) (λe he=>(ig e he).perm hp)).perm hp).LZ λv K ⟨A',c',h1,h2⟩=>⟨_,.c_ (by rw[h2];exact(hp.symm.cons _)),A',c',h1,rfl⟩
theorem adQ:bg B w0 112 [.slice none 0 c] F (λr L=>∃A' c',r= .slice A' 0 c'/\L= .own 3 1 A' 0 c' (bN [])::F):=by
 refine ba func112 8 [0] 9 ?_;refine ab (sC underlying53 rfl rfl) rfl (dh ?_);exact aH 3 1 none (bO 1)
theorem adR{ad:Addr}(hb:aJ B w0 F 1 (.slice (some ad) (E ns) c) (E ns) (bN ns))(hn:E ns<=1000000):
  bg B w0 112 [.slice (some ad) (E ns) c] F (λr L=>∃A' c',r= .slice A' (E ns) c'/\L= .own 3 1 A' (E ns) c' (bN ns)::F):=by
 refine ba func112 8 [0] 9 ?_;refine ab (sC underlying53 rfl rfl) rfl (dg ?_);refine cv (fA gF) λA5=>aX ?_;refine dB (bB gF rfl aU rfl aA (Fg _) aa aa) λA7 c7=>fb ?_;rw[mH,mh];exact bO 1
theorem adS(hb:aJ B w0 F 1 (.slice A (E ns) c) (E ns) (bN ns))(hn:E ns<=1000000):
  bg B w0 112 [.slice A (E ns) c] F (λr L=>∃A' c',r= .slice A' (E ns) c'/\L= .own 3 1 A' (E ns) c' (bN ns)::F):=by
 cases A with
 |none=>
  intro w hw;obtain⟨A',c',hv,hc,oB,hr⟩:=hb w hw;injection hv with q1 q2 q3;subst q1;have h0:ns=[]:=mg (b_ λh=>by
   obtain⟨ad,e,_⟩:=hr aa;cases e)
  subst h0;exact adQ w hw
 |some ad=>
  exact adR hb hn
theorem Ay{x:fj}{L:aN}(ho:q_ x)(hB:CJ B w0 L g x):
  bg B w0 59 [bq g] L (λv K=>∃A' c',v= .slice A' (E x.ns) c'/\K= .own 3 1 A' (E x.ns) c' (bN x.ns)::L):=by
 have Rh:=ho.nl;obtain⟨A1,c1,A2,c2,A3,c3,A4,c4,A5,c5,A6,c6,LX,Af,cf,FB,va,M,hp,h2,h3,h4,h5,h6,h7,h8,h9,ig,oA⟩:=hB.open_;have h2:=h2.perm hp;refine dQ.LZ (R:=λv K=>∃A' c',v= .slice A' (E x.ns) c'/\K= .own 3 1 A' (E x.ns) c' (bN x.ns)::(Bo g (.slice A1 (E x.ns) c1) (.slice A2 (E x.ss) c2) (ah x.c) (ah x.i) (.slice A3 (E x.times) c3) (.slice A4 (E x.levels) c4) (.slice A5 (E x.T) c5) (.slice A6 (E LX) c6) (.slice Af (E FB) cf) va::M)) (dQ.perm ?_ hp) λv K ⟨A',c',q1,q2⟩=>⟨_,.c_ (by rw[q2];exact(hp.symm.cons _)),A',c',q1,rfl⟩
 refine ba func59 11 [0] 22 ?_;exact ay rfl (adS h2 aa) λz' RQ=>bO 5
end
theorem Cz:type_of% @Nat.mul_le_mul_left:= @Nat.mul_le_mul_left
theorem Wg{S:Nat}(hS:S<=32768)(pl:Bool):∀(g:br) (L:List aI),(∀x∈L,x.fits)->w6 S (lens false L) g->E (iV false pl g L).flatten<=33000*E g
 |[],_,_,_=>by simp[iV]
 |n::g,L,hL,hf=>by
  obtain⟨f1,f2,f3,f4,f5⟩:=hf;have I0:=pd (b:=false) hS hL f1 f3;have h1:=DQ (b:=ct false (L.take n)) (pl:=pl) I0;have h2:=Wg hS pl g (L.drop n) (λx hx=>hL x (oG hx)) U8;rw[iV,Cy,bm,ei,wU,cH];have:=h1.1;omega
theorem Yf{M:Nat}(ho:dF 2 (o2 o)=0)(hc:dC L=0)(hx:∀x∈L,x.1<18446744073709551616)(hi:E (qP o L)<=M)(hM:M<=100000000000):
  E (gJ o L)<=33000*E L+40*E L+M+1000+E (kM L):=by
 obtain⟨q9,oB,G4⟩:=jC hc hx;have hom:=Bv (.inr (.inl rfl)) ho;obtain⟨⟨m1,m2⟩,_,m4,_⟩:=hom;have m1:16<=o.1:=m1;have m2:o.1<=32768:=m2;have Ms:E (dc o false L)<=E L:=by unfold dc;have:=lh o.1.toNat (lens false L);rwa [dP]at this
 have EB:=Wg (S:=o.1.toNat) aa o.2.1 (dc o false L) L oB (jd _ _);have hss:∀x∈(cB o L).map List.length,x<=33000*E L:=λx hx=>by
  have h1:=np hx;rw[<-List.length_flatten]at h1;have:33000*E (dc o false L)<=33000*E L:=Cz _ Ms;exact iY h1 (iY EB this)
 have xq:=vI o false L;have yO:=rj (L:=L) aa;have hCl:E (ll L)=E (kM L)+4:=dD _;have hIl:E (lq o L)=E (qP o L)+4:=dD _;have hDl:E (oz o L)<=60+20*E L+4:=by
  unfold oz;rw[dD];have h1:=zS (dc o false L) ((cB o L).map List.length) (λn hn=>HJ) (λn hn=>by have:=hss n hn;omega) (E (dc o false L));have h2:vw (dc o false L) ((cB o L).map List.length) (E (dc o false L))=((dc o false L).zip ((cB o L).map List.length)).flatMap λp=>aW p.1++aW p.2:=by
   unfold vw;rw[gv (by rw[List.length_zip];omega)]
  rw[h2]at h1;have h3:=aY (x:=(dc o false L).sum) aa;have h4:=aY (x:=E (dc o false L)) aa;have h5:=aY (x:=E (ll L)) aa;have h6:=aY (x:=E (lq o L)) aa;unfold yC;simp only[bm];omega
 unfold gJ;have:33000*E (dc o false L)<=33000*E L:=Cz _ Ms;have SM:E (cB o L).flatten<=33000*E L:=iY EB this;simp only[bm,ql];omega
theorem H9(ho:dF 2 (o2 o)=0)(hc:dC L=0)(hx:∀x∈L,x.1<18446744073709551616):E (gJ o L)<=1000000000000:=by
 obtain⟨q9,oB,G4⟩:=jC hc hx;have hom:=Bv (.inr (.inl rfl)) ho;obtain⟨_,_,m4,_⟩:=hom;obtain⟨m5,m6⟩:=m4 (.inr rfl);have hi:=OD (o:=o) m5 m6 G4 q9;have:=Yf (M:=60000000000) ho hc hx aa aa;have yO:=rj (L:=L) aa;omega
theorem aaY(HT:cK B w0)(h1:0<=o.1)(h2:o.1<=32768)(h3:0<=o.2.2.1)(h4:o.2.2.1<=64):
  bg B w0 65 [.agg (aZ.cells o).toArray] F (GK (mS o) F):=by
 obtain⟨bl,pl,bu,da,pa,ch⟩:=o;simp only at h1 h2 h3 h4;obtain⟨S,rfl⟩:=gl h1;obtain⟨sz,rfl⟩:=gl h3;have Zl:=aY (x:=S) aa;have ry:=aY (x:=sz) aa;have hH:qE ((S:Int),pl,(sz:Int),da,pa,ch)=(eK++[2])++(aW S++([gj pl]++aW sz)):=rfl;have hHl:E (qE ((S:Int),pl,(sz:Int),da,pa,ch))<=30:=by
  rw[hH];simp only[bm,ei,tT,eK];omega
 have hTH:mS ((S:Int),pl,(sz:Int),da,pa,ch)=b7 (qE ((S:Int),pl,(sz:Int),da,pa,ch)):=rfl;rw[hTH];obtain⟨H0,hH0⟩:=cM (qE ((S:Int),pl,(sz:Int),da,pa,ch));rw[<-hH0]at hH hHl⊢;refine cV func65 26 rfl rfl rfl [(0,.agg #[ah (S:Int),.bool pl,ah (sz:Int),ah da,ah pa,ah ch])] ⟨⟨rfl,rfl⟩,trivial⟩ ?_;refine bM 2 λg1=>?_;refine cY ?_;refine dq (λzf zL=>Sub zf [(1,bq g1),(3,.int .u8 ((gj pl).toNat:Int))]/\Wk zL (.bI g1 23 [ah (S:Int),.bool pl,ah (sz:Int),ah da,ah pa,ah ch]::F)) ?_ ?_
 ·refine fB 6 (λh7=>?_) λh7=>?_
  ·subst h7;refine fc ?_;exact bo ⟨a_,.refl _⟩
  ·subst h7;refine aX ?_;exact bo ⟨a_,.refl _⟩
 ·rintro _ _ ⟨hs,hp⟩;refine aL hs hp (ew ?_);refine ay rfl (Tx 2) λA9 c9=>cY ?_;rw[show(qu 2).1=eK++[2] from rfl];refine lx (.own 5 1 A9 (E (eK++[2]:aq)) c9 (bv (eK++[2])):: .bI g1 23 [ah (S:Int),.bool pl,ah (sz:Int),ah da,ah pa,ah ch]::F) ?_;refine aF 0 3 ?_;refine aS 3 rfl (be underlying3 underlying60 rfl (r:=((S:Nat):Int)) (eQ aa aa)) (dI 5 ?_);refine aF 7 2 ?_;refine aS 9 rfl (be underlying3 underlying60 rfl (r:=((sz:Nat):Int)) (eQ aa aa)) (iv 4 6 ?_ ?_)
  ·refine cj rfl rfl (ji S aa) λRo Vr=>iv 6 10 ?_ ?_
   ·refine cF rfl (aG bP [_] rfl rfl bY aa aa) λuc=>aC 10 (cj rfl rfl (ji sz aa) λUT Vs=>aC 11 (cF rfl (aG fO [_,_,_,_] rfl rfl bY aa aa) λX8=>aC 12 (cj rfl rfl (Ry (l1:=eK++[2]) (l2:=aW S) (l3:=[gj pl]) (l4:=aW sz) aA aA aA aA aA hH aa) λGJ Ie=>?_)));refine aC 13 (cj rfl rfl (qJ HT (l:=H0) aA aa) λX9 c25=>?_);refine dI 14 ?_;refine di [2] ?_;refine ew ?_;exact ak ((dL (.s7 (.refl _)))) (bO 1)
   ·refine cj rfl rfl (ji sz aa) λUT Vs=>aC 6 (cF rfl (aG bP [_] rfl rfl bY aa aa) λuc=>aC 11 (cF rfl (aG fO [_,_,_,_] rfl rfl bY aa aa) λX8=>aC 12 (cj rfl rfl (Ry (l1:=eK++[2]) (l2:=aW S) (l3:=[gj pl]) (l4:=aW sz) aA aA aA aA aA hH aa) λGJ Ie=>?_)));refine aC 13 (cj rfl rfl (qJ HT (l:=H0) aA aa) λX9 c25=>?_);refine dI 14 ?_;refine di [2] ?_;refine ew ?_;exact ak ((dL (.s7 (.refl _)))) (bO 1)
  ·refine cF rfl (aG bP [_] rfl rfl bY aa aa) λuc=>aC 4 (cj rfl rfl (ji S aa) λRo Vr=>aC 10 (cj rfl rfl (ji sz aa) λUT Vs=>aC 11 (cF rfl (aG fO [_,_,_,_] rfl rfl bY aa aa) λX8=>aC 12 (cj rfl rfl (Ry (l1:=eK++[2]) (l2:=aW S) (l3:=[gj pl]) (l4:=aW sz) aA aA aA aA aA hH aa) λGJ Ie=>?_))));refine aC 13 (cj rfl rfl (qJ HT (l:=H0) aA aa) λX9 c25=>?_);refine dI 14 ?_;refine di [2] ?_;refine ew ?_;exact ak ((dL (.s7 (.refl _)))) (bO 1)
theorem aa1(HT:cK B w0)(hx:∀x∈L,x.1<18446744073709551616)(hb:aJ B w0 F 4 (.slice A (E L) c) (E L) (cD L)):
  bg B w0 27 [.agg (aZ.cells o).toArray,.slice A (E L) c] F (Q3 (xT o L) F):=by
 have hO1:∀(h:dF 2 o≠0),xT o L=([],dF 2 o):=λh=>by unfold xT;rw[av h]
 have hO2:∀(h:¬dF 2 o≠0) (h2:(gL o L).2≠0),xT o L=([],(gL o L).2):=λh h2=>by unfold xT;rw[aB h,av h2]
 have hO3:∀(h:¬dF 2 o≠0) (h2:¬(gL o L).2≠0),xT o L=(Hz o L,0):=λh h2=>by unfold xT;rw[aB h,aB h2]
 have yR:=λ(h:¬dF 2 o≠0)=>qz (b_ h);have hbw:∀(h2:¬(gL o L).2≠0),(gL o L).1=gJ o L/\dC L=0:=λh2=>by
  unfold gL at h2⊢;by_cases q1:dF 2 (o2 o)≠0
  ·rw[av q1]at h2;exact absurd q1 h2
  ·by_cases q2:dC L≠0
   ·rw[aB q1,av q2]at h2;exact absurd q2 h2
   ·rw[aB q1,aB q2];exact⟨rfl,b_ q2⟩
 obtain⟨W,hW⟩:=cM (xT o L);obtain⟨Y,hY⟩:=cM (gL o L);have Ov:=λM (hb:aJ B w0 M 4 (.slice A (E L) c) (E L) (cD L))=>xc (F:=M) HT (o:=o) hx hb;rw[<-hW]at hO1 hO2 hO3⊢;rw[<-hY]at hO2 hO3 hbw;simp only[<-hY]at Ov;obtain⟨bl,pl,bu,da,pa,ch⟩:=o;refine cV func27 28 rfl rfl rfl [(0,.agg #[ah bl,.bool pl,ah bu,ah da,ah pa,ah ch]),(1,.slice A (E L) c)] ⟨⟨rfl,rfl⟩,⟨rfl,rfl⟩,trivial⟩ ?_;refine bM 2 λg2=>?_;refine cY ?_;refine ai rfl (kU 2 (bl,pl,bu,da,pa,ch)) (ag 9 (λjZ=>?_) λjZ=>?_)
 ·refine dA ?_;refine aH 5 1 none (ak (.cons (.skip (.refl _))) (aX ?_));rw[hO1 jZ];exact⟨none,0,rfl,rfl⟩
 ·refine dw ?_;refine ay rfl (Ov _ hb.cons) λUS c17=>ag 14 (λmQ=>?_) λmQ=>?_
  ·refine aD 5 [4,5] 3 ?_;refine aH 5 1 none (ak (.cons (.s2 (.refl _))) (aX ?_));rw[hO2 jZ mQ];exact⟨none,0,rfl,rfl⟩
  ·obtain⟨eu,ho2⟩:=yR jZ;obtain⟨⟨m1,m2⟩,_,m4,_,_⟩:=eu;obtain⟨m5,m6⟩:=m4 (.inr rfl);have m5:1<=bu:=m5;have m6:bu<=64:=m6;have m1:16<=bl:=m1;have m2:bl<=32768:=m2;have hbB:=hbw mQ;have yN:=H9 (o:=(bl,pl,bu,da,pa,ch)) (L:=L) (by rw[ho2];exact b_ jZ) hbB.2 hx;have Wv:E (mS (bl,pl,bu,da,pa,ch))<=1000:=by
    unfold mS qE;have Zl:=aY (x:=(bl:Int).toNat) aa;have ry:=aY (x:=(bu:Int).toNat) aa;rw[dD];simp only[bm,ei,tT,eK];omega
   have qc:E (Hz (bl,pl,bu,da,pa,ch) L)=E (mS (bl,pl,bu,da,pa,ch))+E (gJ (bl,pl,bu,da,pa,ch) L):=bm;refine dx ?_;refine ay rfl (aaY HT (o:=(bl,pl,bu,da,pa,ch)) (by show 0<=bl;omega) m2 (by show 0<=bu;omega) m6) λGJ Ie=>aX ?_;refine cv (aG fO [_,_] rfl rfl bY aa aa) λsp=>ay rfl (Rx (l:=Hz (bl,pl,bu,da,pa,ch) L) (l1:=mS (bl,pl,bu,da,pa,ch)) (l2:=Y.1) aA aA aA (by rw[hbB.1];rfl) aa) λQ1 Yi=>?_;refine aD 2 [4,5] 2 ?_;refine ak ((dL (.s4 (.refl _)))) (aX ?_);rw[hO3 jZ mQ];exact⟨Q1,Yi,rfl,rfl⟩
abbrev Tb(g gc:Nat)(o:aZ):Ch:=.bI g 179 [bq gc,ah o.1,.bool o.2.1,ah o.2.2.1,ah o.2.2.2.1,ah o.2.2.2.2.1,ah o.2.2.2.2.2]
theorem al2(b:aq):(th1 b).b=b:=Cs.cO _ _ _
theorem af_(b:aq):(th2 b).b=b:=(Cs.cO _ _ _).trans (al2 b)
theorem al3(b:aq):(XO b).b=b:=by
 unfold XO;split
 ·rw[rm];exact(Cs.cO _ _ _).trans (af_ b)
 ·exact(Cs.cO _ _ _).trans (af_ b)
theorem al4(b:aq):(th4 b).b=b:=(Cs.cO _ _ _).trans (al3 b)
theorem al5(b:aq):(C_ b).b=b:=(Cs.cO _ _ _).trans (al4 b)
theorem af9(h:E b<=1099511627776):cw (th1 b):=(oe h).bR
theorem Us(h:E b<=1099511627776):cw (th2 b):=(af9 h).bX aa
theorem af'(h:E b<=1099511627776):cw (XO b):=by
 unfold XO;split
 ·exact(Us h).eV.failed _
 ·exact(Us h).eV
theorem aga(h:E b<=1099511627776):cw (th4 b):=(af' h).bX aa
theorem agb(h:E b<=1099511627776):cw (C_ b):=(aga h).bR
theorem aa0(b:aq):Gb b=if (C_ b).e≠0 then (0,(C_ b).e) else if (aT (b.take (C_ b).at_)).2≠0 then (0,(aT (b.take (C_ b).at_)).2) else ((C_ b).at_,dF 2 (MD b)):=rfl
theorem amH(HT:cK B w0)(e:n=E l)(hb:aJ B w0 F 1 (.slice A n c) n (bv l))(hl:E l<=1099511627776):
  bg B w0 176 [.slice A n c] F (λr L=>∃A' c',r= .tuple #[.slice A' (E (aT l).1) c',ah (aT l).2]/\L= .own 5 1 A' (E (aT l).1) c' (bv (aT l).1)::F):=by
 subst e;exact xe HT hb hl
theorem aa2(HT:cK B w0){An:bh}{cn:Nat}(hb:gw B w0 F A c b)(hbn:gw B w0 F An cn b)(ey:E b<=1000000000):
  bg B w0 110 [bq g,.slice A (E b) c] (Tb g gc Bs::Cv gc An cn ⟨b,0,0⟩::F)
   (λr L=>r= .tuple #[ah ((Gb b).1:Int),ah (Gb b).2]/\L=Tb g gc (MD b)::Cv gc An cn (C_ b)::F):=by
 refine dQ.yk hb.cons.cons λoP _=>?_;have k1:=al2 b;have k2:=af_ b;have k3:=al3 b;have k4:=al4 b;have k5:=al5 b;have at5:=(agb (b:=b) aa).at_;rw[k5]at at5;have e1:th1 b=Cs.bR ⟨b,0,0⟩ 5:=rfl;have e2:th2 b=(th1 b).bX 32768:=rfl;have e4:th4 b=(XO b).bX 64:=rfl;have e5:C_ b=(th4 b).bR 4:=rfl;obtain⟨bl,wy⟩:=cM ((th1 b).int 32768);have SC:((bl:Nat):Int)<=32768:=by rw[wy];exact Cs.fI _ aa aa
 obtain⟨bu,am_⟩:=cM ((XO b).int 64);have awm:((bu:Nat):Int)<=64:=by rw[am_];exact Cs.fI _ aa aa
 have hx8:=kR (aaJ b);obtain⟨y,hy⟩:=cM ((aaJ b).toNat);have hO:MD b=(((bl:Nat):Int),decide ((y:Int)=1),((bu:Nat):Int),0,0,0):=by
  unfold MD;rw[<-wy,<-am_,<-hy];congr 2;exact xz.2 ⟨λh=>by omega,λh=>aa⟩
 have hE:=aa0 b;have adD:aJ B w0 F 1 (.slice A (C_ b).at_ c) (C_ b).at_ (bv (b.take (C_ b).at_)):=by
  have:=hb.h_ (k:=(C_ b).at_) at5;rw[jK,cH]at this;exact this
 have CW:E (b.take (C_ b).at_)=(C_ b).at_:=by rw[fZ];omega
 rw[hO]at hE⊢;rw[<-hy]at hx8;refine ba func110 88 [0,1] 12 ?_;refine ay rfl (.perm (mx (g:=gc) (s:=⟨b,0,0⟩) (m:=5) (oe aa) hbn.cons aa aa) ((oI (gh (.refl _))))) λA14 c14=>fc ?_;rw[<-e1];refine mM ((dL (gC (.skip (.refl _))))) (dw ?_);refine ai rfl (jb (s:=th1 b) (most:=32768) (af9 aa) (by rw[k1];exact hbn.cons) aa aa) (dg ?_);rw[<-e2,<-wy];refine dx ?_;refine ai rfl (oK (s:=th2 b) (Us aa) (by rw[k2];exact hbn.cons)) (aD 1 [0,1,6] 1 ?_);refine dq (λzf zL=>Sub zf [(0,bq g),(1,.slice A (E b) c),(6,.int .u8 (y:Int))]/\Wk zL (Cv gc An cn (XO b)::Tb g gc (((bl:Nat):Int),false,0,0,0,0)::F)) ?_ ?_
 ·refine aX ?_;refine BU [(0,bq g),(1,.slice A (E b) c),(6,.int .u8 (y:Int))] ⟨rfl,rfl,(by rw[hy];rfl),trivial⟩ ?_;refine ag 5 (λwv=>?_) λwv=>?_
  ·refine dx ?_;refine ai rfl (ny 2) (aX ?_);exact bo ⟨a_,m7 (by unfold XO;rw[av aa]) (.refl _)⟩
  ·refine aX ?_;exact bo ⟨a_,m7 (by unfold XO;rw[aB aa]) (.refl _)⟩
 ·rintro _ _ ⟨hs,hp⟩;refine aL hs hp (bK 18 ?_);refine ai rfl (jb (s:=XO b) (most:=64) (af' aa) (by rw[k3];exact hbn.cons) aa aa) (dg ?_);rw[<-e4,<-am_];refine dx ?_;refine ay rfl (mx (s:=th4 b) (m:=4) (aga aa) (by rw[k4];exact hbn.cons) aa aa) λA55 c55=>ve [0,1] ?_;refine fc ?_;rw[<-e5];refine mM ((dL (gC (.skip (.refl _))))) (dx ?_);refine ai rfl (ik) (ag 9 (λh62=>?_) λh62=>?_)
  ·refine dA ?_;refine ak ((gC (dL (.refl _)))) (aX ?_);exact⟨by rw[hE,av h62];rfl,rfl⟩
  ·refine dh ?_;refine ai rfl (AO) (ab (bQ (i:=(C_ b).at_) (size:=1) underlying27 ae rfl rfl rfl aa) rfl (ay rfl (amH HT (l:=b.take (C_ b).at_) CW.symm adD.cons.cons aa) λA72 c72=>aD 5 [0,9] 0 ?_));refine ag 7 (λh76=>?_) λh76=>?_
   ·refine dA ?_;refine ak ((lU (gC (.skip (.refl _))))) (aX ?_);exact⟨by rw[hE,aB h62,av h76];rfl,rfl⟩
   ·refine cY ?_;refine iL aqi rfl (AO.pY ((oI (gh (.refl _))))) tJ rfl ?_;refine fc ?_;refine bJ (cu 6 ae rfl aU (aZ.cells (((bl:Nat):Int),decide ((y:Int)=1),((bu:Nat):Int),0,0,0)) rfl rfl) rfl ?_;refine iL atM rfl (kU 2 (((bl:Nat):Int),decide ((y:Int)=1),((bu:Nat):Int),0,0,0)) tJ rfl ?_;refine dx ?_;refine ak ((lU (gC (.skip (.refl _))))) (aX ?_);exact⟨by rw[hE,aB h62,aB h76],rfl⟩
theorem Ia(ey:E b<=1000000)(h:(l6 o b).2=0):q_ (l6 o b).1:=by
 obtain⟨h1,h2,h3,h4,h5,h6,e⟩:=H' h;rw[e];exact amB ey h1 h3 h4
theorem QJ(h:(vp b).2.2=0):¬(marked b).2≠0/\¬(marked b).1≠2/\¬(Gb b).2≠0/\(l6 (MD b) (b.drop (Gb b).1)).2=0/\vp b=(MD b,(l6 (MD b) (b.drop (Gb b).1)).1,0):=by
 unfold vp at h⊢;split at h
 ·contradiction
 ·rename_i h1;rw[aB h1];split at h
  ·cases h
  ·rename_i h2;rw[aB h2];split at h
   ·contradiction
   ·rename_i h3;rw[aB h3];split at h
    ·contradiction
    ·rename_i h4;rw[aB h4];exact⟨h1,h2,h3,b_ h4,rfl⟩
theorem aoH(h:E b<=1000000):(Gb b).1<=E b:=by
 have at5:=(agb (b:=b) aa).at_;rw[al5]at at5;unfold Gb;split
 ·simp
 ·split
  ·simp
  ·exact at5
def atp(o:aZ)(x:fj)(B:Nat)(w0:World)(F:aN)(r:Value)(L:aN):Prop:=∃g N,r= .tuple #[.agg (aZ.cells o).toArray,bq g,ah 0]/\L=N++F/\CJ B w0 N g x
def atq(o:aZ)(x:fj)(B:Nat)(w0:World)(F:aN)(r:Value)(L:aN):Prop:=∃(g:Nat) (N:aN) (n:Nat) (Aa:bh) (ca:Nat) (X:cQ),n=E x.bA/\r= .tuple #[.agg (aZ.cells o).toArray,bq g,ah 0]/\L= .own 4 1 Aa n ca X::(N++F)/\DG B w0 N g x (.slice Aa n ca)
theorem JP(HT:cK B w0)(hb:gw B w0 F A c b)(ey:E b<=1000000)(h:(vp b).2.2=0):bg B w0 57 [.slice A (E b) c] F (atq (vp b).1 (vp b).2.1 B w0 F):=by
 obtain⟨q1,q2,q3,h4,eT⟩:=QJ h;rw[eT];have hle:=aoH ey;have pG:=kv (MD b);have av3:=kv Bs;refine fw func57 58 [0] ?_;refine bW 2 λg2=>?_;refine dg ?_;refine ai rfl (uW hb.cons aa) (ag 16 (λmj=>?_) λmj=>?_)
 ·exfalso;exact q1 mj
 ·refine ag 7 (λkp=>?_) λkp=>?_
  ·exfalso;exact q2 kp
  ·refine dw ?_;refine dV rfl (n_ hb.cons aa) λgn An cn=>ab (bw [(0,_)] [.pointer none,ah 0,.bool false,ah 0,ah 0,ah 0,ah 0] [0] [_,_,_,_,_,_,_] rfl rfl ae) rfl (fM λg27=>?_);refine aD 1 [0,2,7] 5 ?_;refine ai rfl (aa2 HT hb.cons.cons (aJ.own (.head _)) aa) (ag 14 (λAV=>?_) λAV=>?_)
   ·exfalso;exact q3 AV
   ·have hcut:aJ B w0 F 1 (.slice (if c=(Gb b).1 then A else A.map (·.add ((Gb b).1*1))) (E b-(Gb b).1) (c-(Gb b).1)) (E b-(Gb b).1) (bv (b.drop (Gb b).1)):=by
     have:=hb.cut hle;rw[jJ,cH]at this;rw[cH];exact this
    refine cN 3 (Tb g27 gn (MD b)::Cv gn An cn (C_ b):: .own 5 1 An (E b) cn (bv b):: .bI g2 23 [ah 0,.bool false,ah 0,ah 0,ah 0,ah 0]::F) ?_;refine aF 0 3 ?_;refine aS 3 rfl (cu 6 ae rfl aU (aZ.cells (MD b)) rfl rfl) ?_;refine aF 4 2 ?_;refine aS 6 rfl (bV (i:=(Gb b).1) (size:=1) underlying27 ae rfl rfl rfl aa) (aC 7 (gS rfl .no ak1 rfl (Vm HT (b:=b.drop (Gb b).1) (by rw[jM]) hcut.cons.cons.cons.cons l0 h4) rfl (by rintro _ _ ⟨gB,N,nB,Aa,ca,XB,hnB,rfl,rfl,Sy⟩;exact gI) ?_));rintro _ _ ⟨gB,N,nB,Aa,ca,XB,hnB,rfl,cR,Sy⟩;obtain rfl:=cR.symm;refine aF 8 5 ?_;refine di [2,6,7,9] ?_;refine fc ?_;refine jP (List.Perm.cons _ Jb) ?_;rw[nM,nM,nM,nM];refine ag 5 (λOe=>?_) λOe=>?_
    ·exfalso;exact Oe rfl
    ·refine dg ?_;refine ab (cu 6 ae rfl aU (aZ.cells (MD b)) rfl rfl) rfl (dg ?_);refine Dv rfl rfl ae aU jI rfl rfl (.cons (.s4 (.c_ Jb))) ?_;exact⟨gB,N,nB,Aa,ca,XB,hnB,rfl,rfl,Sy⟩
theorem aaZ(HT:cK B w0)(hb:gw B w0 F A c b)(ey:E b<=1000000)(h:(vp b).2.2=0):bg B w0 57 [.slice A (E b) c] F (atp (vp b).1 (vp b).2.1 B w0 F):=
 (JP HT hb ey h).mono λr L hr=>by
  obtain⟨g,N,n,Aa,ca,X,_,h2,h3,h4⟩:=hr;exact⟨g,_::N,h2,h3,_,h4.mono (.cons _ (.refl _))⟩
theorem QK(ey:E b<=1000000)(h:(vp b).2.2=0):q_ (vp b).2.1:=by
 obtain⟨_,_,_,h4,e⟩:=QJ h;rw[e];exact Ia l0 h4
theorem QL(HT:cK B w0){x:fj}{R:List aI}(hb:gw B w0 F A c b)(ey:E b<=1000000)(hO:vp b=(o,x,0))(hR:rS x=(R,0)):bg B w0 69 [.slice A (E b) c] F (UnA ((o,R,E x.ns,0):aZ×List aI×Nat×Int) F):=by
 have la:=QK ey (by rw[hO]);have Mw:=λM (h:gw B w0 M A c b)=>aaZ (F:=M) HT h ey (by rw[hO]);simp only[hO]at la Mw;have pG:=kv o;have WA:=λM g (h:CJ B w0 M g x)=>ab2 HT la h;simp only[hR]at WA;refine fw func69 34 [0] ?_;refine bW 2 λg2=>?_;refine cY ?_;refine bp aqR rfl (Mw _ hb.cons) rfl ?_;rintro _ _ ⟨gB,N,rfl,cR,Sy⟩;obtain rfl:=cR.symm;refine bW 4 λg6=>?_;refine dg ?_;refine jP (List.perm_middle.cons _) ?_;refine ag 5 (λgH=>?_) λgH=>?_
 ·exfalso;exact gH rfl
 ·refine dx ?_;refine ay rfl (WA _ _ (Sy.mono (((sJ _ _).cons _).cons _))) λAr cr=>aD 5 [2,6,7,8,9] 0 ?_;refine ag 8 (λq7=>?_) λq7=>?_
  ·exfalso;exact q7 rfl
  ·refine cN 3 (.own 62 4 Ar (E R) cr (cD R):: .bI g6 23 (aZ.cells o)::(N++F)) ?_;refine aS 0 rfl (cu 6 ae rfl aU (aZ.cells o) rfl rfl) ?_;refine aF 1 2 ?_;refine aC 3 (cj rfl rfl (Ay la (Sy.mono (((((sJ _ _)).cons _).cons _).cons _))) λAk ck=>dI 4 ?_);refine aC 5 (aX ?_);refine aF 6 3 ?_;refine fc ?_;refine vU rfl rfl ae aU jI rfl rfl rfl (.skip (.cons (.s2 (ej N F)))) ?_;exact⟨Ar,cr,rfl,rfl⟩
theorem N0{x:Nat}(hx:x<65536):bg B w0 51 [.int .u64 x,ah 2] F (λr L=>∃A' c',r= .tuple #[.slice A' (E (fT x 2)) c',ah 0]/\L= .own 5 1 A' (E (fT x 2)) c' (bv (fT x 2))::F):=by
 have z7:((x:Nat):Int).fdiv (2^min ((16:Int)).toNat IntKind.u64.bits)=0:=by
  have:=Xz x (k:=2) aa;rw[show((8*2:Nat):Int)=16 from rfl]at this;rw[this,show 8*2=16 from rfl];have:x/2^16=0:=yY aa;omega
 refine fw func51 42 [0,1] ?_;refine bk 12 (λig=>?_) (λig=>?_)
 ·refine bk 5 (λgT=>?_) (λgT=>?_)
  ·refine bC 5 (λgH=>?_) λgH=>?_
   ·refine fb ?_;refine ab (eo rfl rfl (r:=16) rfl) rfl (aX ?_);refine ab (dH rfl rfl aa (r:=0) z7) rfl (aD 5 [0,1,24] 0 ?_);refine ag 1 (λkJ=>?_) λkJ=>?_
    ·exfalso;exact kJ rfl
    ·refine dx ?_;refine cv (eY (nn:=2) (cc:=2) bP rfl rfl rfl rfl rfl aa aa aa) λsp=>dM ?_;refine aw (λzf zL zm=>∃(k:Nat),(k<=2)/\2-k=zm/\Sub zf [(0,.int .u64 x),(6,.slice sp 2 2),(28,ah 2),(29,ah k)]/\Wk zL (.own 5 1 sp 2 2 (bv (fT x k)++List.replicate (2-k) (.int .u8 0))::F)) _ ⟨0,bD _,rfl,a_,.refl _⟩ ?_;rintro _ _ _ ⟨k,hk,rfl,hs,hp⟩;refine aL hs hp (ag 6 (λwv=>?_) λwv=>?_)
     ·refine bK 15 ?_;refine ab (eo rfl rfl (r:=((8*k:Nat):Int)) ((bj aa aa).trans aa)) rfl (ab (dH rfl rfl aa (r:=((x/2^(8*k):Nat):Int)) (Xz x aa)) rfl (ab (be underlying60 underlying5 rfl (r:=((x/2^(8*k)%256:Nat):Int)) (zQ _)) rfl (dA ?_)));refine aj ⟨_,aa,k+1,aa,rfl,a_,au rfl (by rw[cH];exact V' aa _ rfl) (.refl _)⟩
     ·obtain rfl:k=2:=by omega
      refine bK 13 ?_;refine ak (L':=.own 5 1 sp (E (fT x 2)) 2 (bv (fT x 2))::F) (au ao ao (.refl _)) (aX ?_);exact⟨sp,2,ao,rfl⟩
   ·exfalso;omega
  ·exfalso;omega
 ·exfalso;omega
theorem Ey(s:Cs):E (s.take 2)<=2:=by
 unfold Cs.take;split
 ·simp
 ·split
  ·simp
  ·rw[fZ];omega
theorem Ig(ho:cw s)(hb:aJ B w0 F 1 (.slice A (E s.b) c) (E s.b) (bv s.b)):
  bg B w0 197 [bq g,ah 2] (Cv g A c s::F) (λr L=>r= .int .u64 (s.fixed 2)/\L=Cv g A c (s.lA 2)::F):=by
 have e1:s.fixed 2=jh (s.take 2):=by unfold Cs.fixed;rw[aB aa]
 have e2:s.lA 2=s.bR 2:=by unfold Cs.lA;rw[aB aa]
 have hl:=Ey s;obtain⟨t,ht⟩:=cM (s.take 2);rw[e1,e2];rw[<-ht]at hl⊢;refine fw func197 34 [0,1] ?_;refine bk 11 (λig=>?_) (λig=>?_)
 ·refine bZ 6 λnj=>?_;refine dM ?_;refine ay rfl (mx ho hb (m:=2) aa aa) λuc wK=>?_;rw[<-ht];refine dx ?_;refine aw (λzf zL zm=>∃(k:Nat),(k<=E t)/\E t-k=zm/\Sub zf [(5,.int .u64 (jh (t.take k))),(18,.slice uc (E t) wK),(19,ah (E t)),(20,ah k)]/\Wk zL (Cv g A c (s.bR 2):: .own 5 1 uc (E t) wK (bv t)::F)) _ ⟨0,bD _,rfl,a_,.refl _⟩ ?_;rintro _ _ _ ⟨k,hk,rfl,hs,hp⟩;refine aL hs hp (ag 6 (λmQ=>?_) λmQ=>?_)
  ·obtain⟨y,hy⟩:=cM ((t.getD k 0).toNat);have hy8:y<256:=by rw[hy];exact kR _
   have gU:=rQ (t.take k);rw[fZ,C2 hk]at gU;have sn:jh (t.take (k+1))=jh (t.take k)+256^k*y:=by rw[aP aa 0,CA,fZ,C2 hk,<-hy]
   refine cY ?_;refine ab (al (v:=.int .u8 (y:Int)) ae rfl aA aa (by rw[hy];exact DV aa)) rfl (dg ?_);refine ab (be underlying5 underlying60 rfl (r:=(y:Int)) (eQ aa aa)) rfl (aX ?_);refine ab (eo rfl rfl (r:=((8*k:Nat):Int)) ((bj aa aa).trans aa)) rfl (ab (gG rfl rfl aa (r:=((y*256^k:Nat):Int)) (alV aa hy8)) rfl (ab (uv rfl rfl (r:=((jh (t.take (k+1)):Nat):Int)) ((asy aa hy8 gU).trans (by rw[sn]))) rfl (cY ?_)));refine aj ⟨_,aa,k+1,aa,rfl,a_,.refl _⟩
  ·obtain rfl:k=E t:=by omega
   rw[js];refine dM ?_;exact ak (.cons (.skip (.refl _))) (cm 1)
 ·exfalso;omega
theorem abM{P:Prop}(h:P:=by(rw[nr (by omega)];omega)):P:=h
theorem apy{P:Prop}(h:P:=by(exact dS (by first|exact⟨λk=>⟨qM,pe,k⟩,λk=>k.2.2⟩|exact λk=>pe k.2.1|exact λk=>qM k.1))):P:=h
abbrev Hb(g:Nat)(o:aZ)(n p:Nat):Ch:=.bI g 119 [ah o.1,.bool o.2.1,ah o.2.2.1,ah o.2.2.2.1,ah o.2.2.2.2.1,ah o.2.2.2.2.2,ah (n:Int),.int .u8 (p:Int)]
theorem JN(HT:cK B w0)(ho:dF 3 o=0)(hn:n<4294967296):
  bg B w0 123 [bq g] (Hb g o n p::F) (GK (jg o n) (Hb g o n p::F)):=by
 obtain⟨⟨m1,m2⟩,m3,m4,_,_⟩:=(nt ho).1;obtain⟨⟨k1,k2⟩,⟨k3,k4⟩,⟨k5,k6⟩⟩:=m3 rfl;obtain⟨m5,m6⟩:=m4 (.inl rfl);clear ho m3 m4;obtain⟨bl,pl,bu,da,pa,ch⟩:=o;simp only at m1 m2 m5 m6 k1 k2 k3 k4 k5 k6;obtain⟨S,rfl⟩:=gl (show 0<=bl by omega);obtain⟨u,rfl⟩:=gl (show 0<=bu by omega);obtain⟨d,rfl⟩:=gl (show 0<=da by omega);obtain⟨q,rfl⟩:=gl (show 0<=pa by omega);obtain⟨hc,rfl⟩:=gl (show 0<=ch by omega);have hH:w4 ((S:Int),pl,(u:Int),(d:Int),(q:Int),(hc:Int)) n=(eK++[3])++([gj pl,UInt8.ofNat u,UInt8.ofNat d,UInt8.ofNat q]++(fT hc 2++(fT S 2++fT n 4))):=rfl;have hHl:E (w4 ((S:Int),pl,(u:Int),(d:Int),(q:Int),(hc:Int)) n)<=30:=by
  rw[hH];simp[eK]
 have hTH:jg ((S:Int),pl,(u:Int),(d:Int),(q:Int),(hc:Int)) n=b7 (w4 ((S:Int),pl,(u:Int),(d:Int),(q:Int),(hc:Int)) n):=rfl;rw[hTH];obtain⟨H0,hH0⟩:=cM (w4 ((S:Int),pl,(u:Int),(d:Int),(q:Int),(hc:Int)) n);rw[<-hH0]at hH hHl⊢;refine ba func123 77 [0] 7 ?_;refine ay rfl (Tx 3) λso xd=>cY ?_;rw[show(qu 3).1=eK++[3] from rfl];refine fb ?_;refine dq (λzf zL=>Sub zf [(0,bq g),(3,.slice so (E (eK++[3]:aq)) xd),(5,.int .u8 ((gj pl).toNat:Int))]/\Wk zL (.own 5 1 so (E (eK++[3]:aq)) xd (bv (eK++[3]))::Hb g ((S:Int),pl,(u:Int),(d:Int),(q:Int),(hc:Int)) n p::F)) ?_ ?_
 ·refine fB 9 (λkp=>?_) λkp=>?_
  ·subst kp;refine fc ?_;exact bo ⟨a_,.refl _⟩
  ·subst kp;refine aX ?_;exact bo ⟨a_,.refl _⟩
 ·rintro _ _ ⟨hs,hp⟩;refine aL hs hp (dg ?_);refine ab (be underlying3 underlying60 rfl (r:=((hc:Nat):Int)) (eQ (x:=hc) aa aa)) rfl (ay rfl (N0 (x:=hc) aa) λB3 Ca=>bK 14 ?_);refine ab (be underlying3 underlying60 rfl (r:=((S:Nat):Int)) (eQ aa aa)) rfl (ay rfl (N0 (x:=S) aa) λMF Q5=>aD 5 [0,3,5,6,8] 7 ?_);refine ab (be underlying3 underlying60 rfl (r:=((n:Nat):Int)) (eQ aa aa)) rfl (ay rfl (N1 (x:=n) aa) λDf Dj=>cN 8 (.own 5 1 Df (E (fT n 4)) Dj (bv (fT n 4)):: .own 5 1 MF (E (fT S 2)) Q5 (bv (fT S 2)):: .own 5 1 B3 (E (fT hc 2)) Ca (bv (fT hc 2)):: .own 5 1 so (E (eK++[3]:aq)) xd (bv (eK++[3]))::Hb g ((S:Int),pl,(u:Int),(d:Int),(q:Int),(hc:Int)) n p::F) ?_);refine aF 0 7 ?_;refine aS 7 rfl (be underlying3 underlying5 rfl (r:=((UInt8.ofNat u).toNat:Int)) ((zQ _).trans abM)) (aF 8 5 ?_);refine aS 13 rfl (be underlying3 underlying5 rfl (r:=((UInt8.ofNat d).toNat:Int)) ((zQ _).trans abM)) (aF 14 5 ?_);refine aS 19 rfl (be underlying3 underlying5 rfl (r:=((UInt8.ofNat q).toNat:Int)) ((zQ _).trans abM)) (aF 21 3 ?_);refine aC 20 (cF rfl (aG bP [_,_,_,_] rfl rfl bY aa aa) λA70=>aC 24 (cF rfl (aG fO [_,_,_,_,_] rfl rfl bY aa aa) λA74=>aC 25 (cj rfl rfl (J3 (l1:=eK++[3]) (l2:=[gj pl,UInt8.ofNat u,UInt8.ofNat d,UInt8.ofNat q]) (l3:=fT hc 2) (l4:=fT S 2) (l5:=fT n 4) aA aA aA aA aA aA hH aa) λA75 c75=>?_)));refine aC 26 (cj rfl rfl (qJ HT (l:=H0) aA aa) λA76 c76=>?_);refine dI 27 ?_;refine di [2] ?_;refine ew ?_;exact ak ((dL (wu7 (.s7 (.refl _))))) (bO 1)
theorem No(ey:E b<=1000000000)(hc:E b<=c)(h:¬E b<42):bg B w0 131 [.slice A (E b) c] F (λr L=>r= .tuple #[.slice A 21 c,.slice (if c=E b-21 then A else A.map (·.add ((E b-21)*1))) (E b-(E b-21)) (c-(E b-21)),.bool true]/\L=F):=by
 refine fw func131 15 [0] ?_;refine bZ 15 λh7=>?_;refine dx ?_;refine bJ (bQ (i:=21) (size:=1) underlying27 ae rfl rfl rfl aa) rfl (fc ?_);exact bJ (cU rfl rfl (r:=((E b-21:Nat):Int)) ((bj aa aa).trans aa)) rfl (bJ (bV (i:=E b-21) (size:=1) underlying27 ae rfl rfl rfl aa) rfl (cm 7))
theorem acp(HT:cK B w0)(e:n=E l)(hb:aJ B w0 F 1 (.slice A n c) n (bv l))(hl:E l<=1000000000):bg B w0 196 [.slice A n c] F (λr L=>r= .bool (decide (RY l))/\L=F):=by
 subst e;refine cV func196 27 rfl rfl rfl [(0,.slice A (E l) c)] ⟨⟨rfl,rfl⟩,trivial⟩ ?_;refine cY ?_;refine ay rfl (xe HT hb aa) λA9 c9=>dh ?_;refine ai rfl (uW hb.cons aa) (bf 9 10 26 [] (RY l) ?_ ?_)
 ·refine bC 3 (λqM=>?_) λqM=>?_
  ·refine bC 5 (λpe=>?_) λpe=>?_
   ·exact ax 4 (k:=(by exact dG (by first|exact⟨λk=>⟨qM,pe,k⟩,λk=>k.2.2⟩|exact λk=>pe k.2.1|exact λk=>qM k.1)))
   ·exact ax 2 (k:=apy)
  ·exact ax 6 (k:=apy)
 ·refine fb ?_;exact ak (.skip (.refl _)) (cm 1)
theorem alh(h:¬E b<42)(hb:gw B w0 F A c b):aJ B w0 F 1 (.slice A 21 c) 21 (bv (b.take 21)):=by
 have:=hb.h_ (k:=21) aa;rw[jK,cH]at this;exact this
theorem aqU(h:¬E b<42)(hb:gw B w0 F A c b):aJ B w0 F 1 (.slice (if c=E b-21 then A else A.map (·.add ((E b-21)*1))) (E b-(E b-21)) (c-(E b-21))) (E b-(E b-21)) (bv (b.drop (E b-21))):=by
 have:=hb.cut (k:=E b-21) aa;rw[jJ,cH]at this;rw[cH];exact this
theorem anr(h:E l<=1000000000):cw (z7 l)/\cw (j8 l)/\cw (jj l)/\cw (t_ l)/\cw (x9 l)/\cw (hs5 l)/\cw (hs6 l):=by
 have h0:cw (z7 l):=oe l0;have f2:∀{s:Cs},cw s->cw (s.lA 2):=λ{s} k=>by unfold Cs.lA;rw[aB aa];exact k.bR
 exact⟨h0,h0.bR,h0.bR.bR,h0.bR.bR.bR,h0.bR.bR.bR.bR,f2 h0.bR.bR.bR.bR,f2 (f2 h0.bR.bR.bR.bR)⟩
theorem au'(l:aq):(z7 l).b=l.drop 5/\(j8 l).b=l.drop 5/\(jj l).b=l.drop 5/\(t_ l).b=l.drop 5/\(x9 l).b=l.drop 5/\(hs5 l).b=l.drop 5/\(hs6 l).b=l.drop 5:=by
 have f2:∀(s:Cs),(s.lA 2).b=s.b:=λs=>by unfold Cs.lA;rw[aB aa];exact Cs.cO _ _ _
 have k1:(j8 l).b=l.drop 5:=Cs.cO _ _ _;have k2:(jj l).b=l.drop 5:=(Cs.cO _ _ _).trans k1;have k3:(t_ l).b=l.drop 5:=(Cs.cO _ _ _).trans k2;have k4:(x9 l).b=l.drop 5:=(Cs.cO _ _ _).trans k3;have k5:(hs5 l).b=l.drop 5:=(f2 _).trans k4;exact⟨rfl,k1,k2,k3,k4,k5,(f2 _).trans k5⟩
theorem amJ(e:n=E l)(hb:aJ B w0 F 1 (.slice A n c) n (bv l))(hl:E l<=1099511627776):
  bg B w0 109 [.slice A n c] F (λr L=>∃g A' c',r=bq g/\L=Cv g A' c' ⟨l,0,0⟩:: .own 5 1 A' (E l) c' (bv l)::F):=by
 subst e;exact n_ hb hl
theorem V_(s:Cs):s.fixed 2<65536:=by
 unfold Cs.fixed;rw[aB aa];have h:=rQ (s.take 2);have h2:=Ey s;exact rF h (gz aa h2)
theorem aif(s:Cs):s.fixed 4<4294967296:=by
 unfold Cs.fixed;rw[aB aa];have h:=rQ (s.take 4);have h2:=xj s;exact rF h (gz aa h2)
theorem agl(e:n=E l)(h5:5<=E l)(hb:aJ B w0 F 1 (.slice A n c) n (bv l))(hl:E l<=1000000000):
  bg B w0 129 [.slice A n c] F (λr L=>(hE l≠0/\∃Y v,r= .tuple #[v,ah (hE l)]/\L=Y++F)\/(hE l=0/\∃g,r= .tuple #[bq g,ah 0]/\L=Hb g (hO l) (hN l) (yL l).toNat::F)):=by
 subst e;have Oj:E (l.drop 5)=E l-5:=jM;have hcut:aJ B w0 F 1 (.slice (if c=5 then A else A.map (·.add (5*1))) (E l-5) (c-5)) (E l-5) (bv (l.drop 5)):=by
  have:=hb.cut (k:=5) h5;rw[jJ,cH]at this;rw[cH];exact this
 obtain⟨o0,o1,o2,o3,o4,o5,o6⟩:=anr hl;obtain⟨q0,q1,q2,q3,q4,q5,q6⟩:=au' l;have e1:j8 l=(z7 l).eV:=rfl;have e2:jj l=(j8 l).eV:=rfl;have e3:t_ l=(jj l).eV:=rfl;have e4:x9 l=(t_ l).eV:=rfl;have e5:hs5 l=(x9 l).lA 2:=rfl;have e6:hs6 l=(hs5 l).lA 2:=rfl;obtain⟨y0,hy0⟩:=cM ((z7 l).byte.toNat);obtain⟨y1,S6⟩:=cM ((j8 l).byte.toNat);obtain⟨y2,S7⟩:=cM ((jj l).byte.toNat);obtain⟨y3,hy3⟩:=cM ((t_ l).byte.toNat);obtain⟨y4,hy4⟩:=cM ((x9 l).fixed 2);obtain⟨y5,hy5⟩:=cM ((hs5 l).fixed 2);obtain⟨y6,hy6⟩:=cM ((hs6 l).fixed 4);have b0:y0<256:=by rw[hy0];exact kR _
 have b1:y1<256:=by rw[S6];exact kR _
 have b2:y2<256:=by rw[S7];exact kR _
 have b3:y3<256:=by rw[hy3];exact kR _
 have b4:y4<65536:=by rw[hy4];exact V_ _
 have b5:y5<65536:=by rw[hy5];exact V_ _
 have b6:y6<4294967296:=by rw[hy6];exact aif _
 have hPP:(yL l).toNat=y0:=hy0.symm;have hNN:hN l=y6:=hy6.symm;have hOO:hO l=((y5:Int),decide ((y0:Int)=1),(y1:Int),(y2:Int),(y3:Int),(y4:Int)):=by
  unfold hO;rw[hPP,<-S6,<-S7,<-hy3,<-hy4,<-hy5];congr 2;exact xz.2 ⟨λh=>by omega,λh=>aa⟩
 have hEE:hE l=if 1<y0 then 2 else dF 3 (hO l):=by unfold hE;rw[hPP]
 rw[hOO,hNN,hPP];rw[hOO]at hEE;refine dQ.yk hb λoP _=>?_;refine cV func129 74 rfl rfl rfl [(0,.slice A (E l) c)] ⟨⟨rfl,rfl⟩,trivial⟩ ?_;refine dA ?_;refine ab (bV (i:=5) (size:=1) underlying27 ae rfl rfl rfl aa) rfl (dV rfl (amJ Oj.symm hcut aa) λgn An cn=>fb ?_);rw[show(⟨l.drop 5,0,0⟩:Cs)=z7 l from rfl];refine ew ?_;refine ai rfl (oK (s:=z7 l) o0 (aJ.own (.head _))) ?_;rw[<-e1,<-hy0];refine ab (bw [(2,_)] [ah 0,.bool false,ah 0,ah 0,ah 0,ah 0,ah 0,.int .u8 0] [7] [_,_,_,_,_,_,_,_] rfl rfl ae) rfl (fM λwM=>?_);refine fb ?_;refine jP (.swap _ _ _) ?_;refine aD 11 [4,5] 7 ?_;refine ai rfl (oK (s:=j8 l) o1 (by rw[q1];exact(aJ.own (.head _)).cons)) ?_;rw[<-e2,<-S6];refine ew ?_;refine ai rfl (oK (s:=jj l) o2 (by rw[q2];exact(aJ.own (.head _)).cons)) ?_;rw[<-e3,<-S7];refine ew ?_;refine ai rfl (oK (s:=t_ l) o3 (by rw[q3];exact(aJ.own (.head _)).cons)) ?_;rw[<-e4,<-hy3];refine aD 13 [4,5] 6 ?_;refine ai rfl (Ig (s:=x9 l) o4 (by rw[q4];exact(aJ.own (.head _)).cons)) ?_;rw[<-e5,<-hy4];refine ew ?_;refine ai rfl (Ig (s:=hs5 l) o5 (by rw[q5];exact(aJ.own (.head _)).cons)) ?_;rw[<-e6,<-hy5];refine bK 15 ?_;refine ai rfl (Ih (s:=hs6 l) o6 (by rw[q6];exact(aJ.own (.head _)).cons)) ?_;rw[<-hy6];refine aD 4 [5] 0 ?_;refine ag 11 (λWo=>?_) λWo=>?_
 ·refine dA ?_;rw[av aa]at hEE;rw[hEE];exact .inl ⟨aE,[_,_,_],_,rfl,rfl⟩
 ·refine cY ?_;refine ab (cu 6 ae rfl aU (aZ.cells ((y5:Int),decide ((y0:Int)=1),(y1:Int),(y2:Int),(y3:Int),(y4:Int))) rfl rfl) rfl ?_;refine ai rfl (kU 3 ((y5:Int),decide ((y0:Int)=1),(y1:Int),(y2:Int),(y3:Int),(y4:Int))) (dx ?_);refine ak ((gC (.s2 (.refl _)))) (aX ?_);rw[aB aa]at hEE;rw[hEE];exact(Classical.em _).elim (λk=>.inr ⟨k,_,by rw[k],rfl⟩) λk=>.inl ⟨k,[_],_,rfl,rfl⟩
section
theorem yq{B g2 g3:Nat}{A:bh}{n c:Nat}(iy:1<=sz)(jj:sz<=10000)(hn:n<=1000000000000000)(hnc:n<=c)(hg:g2≠g3)(w:World)(h2:(Ch.bI g2 27 [.slice A n c]).holds B w)(h3:(Ch.bI g3 3 [ah sz]).holds B w):
  SeqStopsK Fence.wide 7 Tryz.prog 188 [bq g2,bq g3].toArray (λx:Fin (iu sz n)=> #[GU A sz n x.val])
   (ami B [.bI g2 27 [.slice A n c],.bI g3 3 [ah sz]]) (λxs=>xs.map (·.val)=List.range (iu sz n)) (λ_=>True) (iu sz n) w:=by
 intro l J Jx W hW hJ hJx hY h0;have lB:∀w:World,(∀q∈[Ch.bI g2 27 [.slice A n c],.bI g3 3 [ah sz]],q.holds B w)->SL 0 w [Ch.bI g2 27 [.slice A n c],.bI g3 3 [ah sz]] w:=λw h=>by
  refine⟨EZ _ _,bD _,λc hc=>?_,kG.2 ⟨λd hd=>?_,kG.2 ⟨λ_ h=>jB,List.Pairwise.nil⟩⟩⟩
  ·have:=h c hc;simp only[fq,kS,nL]at hc;rcases hc with rfl|rfl<;>exact⟨bD _,this.2⟩
  ·rw[kT.1 hd];exact .inr λe=>hg (Tf e)
 have anj:=(h2.lt rfl).2;have ank:=(h3.lt rfl).2;have hW0:∀q∈[Ch.bI g2 27 [.slice A n c],.bI g3 3 [ah sz]],q.holds B W:=by
  intro c hc;simp only[fq,kS,nL]at hc;rcases hc with rfl|rfl
  ·exact h2.keep λg hg=>by cases hg;exact hW.block _ anj
  ·exact h3.keep λg hg=>by cases hg;exact hW.block _ ank
 have Za:∀pre (w:World) k,J pre w->J pre (w.drewN k):=λpre w k h=>hJ pre w _ none h (qK w k) (λr e=>by cases e);generalize hLk:[Ch.bI g2 27 [.slice A n c],.bI g3 3 [ah sz]]=Lk at*;refine callsIn_of_wp func188 rfl trivial (wX (Q:=XS 31 (TE (λw=>∃xs:List (Fin (iu sz n)),xs.map (·.val)=List.range (iu sz n)/\J xs w) (λw=>∃pre,True/\Jx pre w))) ?_ ?_) rfl
 ·have ha:=Dg (N:=31) (args:=[.func (.yield l) #[] #[],bq g2,bq g3]) (fr0:=[(0,.func (.yield l) #[] #[]),(1,bq g2),(2,bq g3)]) ao ⟨⟨rfl,rfl⟩,⟨rfl,rfl⟩,⟨rfl,rfl⟩,trivial⟩;refine(?_ :VT Tryz.prog 31 _ _ _ W) _ ha;refine ov (mb ?_);refine cW (lB W hW0) (lW rfl) rfl rfl ?_;refine nF [(0,_),(1,_),(2,_),(4,_)] ⟨rfl,rfl,rfl,rfl,trivial⟩ ?_;refine kC (zN ?_);refine XY (λi w=>i<=iu sz n/\(∀c∈Lk,c.holds B w)/\∃pre:List (Fin (iu sz n)),pre.map (·.val)=List.range i/\J pre w) (λi=>[(0,.func (.yield l) #[] #[]),(1,bq g2),(2,bq g3),(4,ah ((i*sz:Nat):Int))]) 4 (n+sz) (λi=>i*sz) (λi=>rfl) 0 ⟨bD _,hW0,[],rfl,h0⟩ ⟨rfl,rfl,rfl,by rw[nJ];rfl,trivial⟩ ?_;rintro i w ⟨hi,hh,pre,EG,hJp⟩;have hs:=lB w hh;rw[<-hLk]at hs;refine ov (ov (mb ?_));refine cW hs (ek rfl) rfl rfl ?_;refine cW hs (bL ae rfl wH rfl) rfl rfl ?_;refine cW hs (pB underlying27 rfl) rfl rfl ?_;refine cW hs (yA rfl rfl) rfl rfl ?_;refine nF [(0,_),(1,_),(2,_),(4,_),(9,_)] ⟨rfl,rfl,rfl,rfl,rfl,trivial⟩ ?_;refine kC (JT rfl (λgU=>?_) (λgU=>?_))
  ·refine DE ?_;have Wy:i*sz<n:=by omega
   have hiN:=(nZ iy).2 Wy;have hlen:E pre<iu sz n:=by
    have:=eG List.length EG;simp at this;omega
   have hE1:1<=xY sz n i:=by unfold xY;omega
   have hE2:xY sz n i<=sz:=by unfold xY;omega
   have hE3:i*sz+xY sz n i<=n:=by unfold xY;omega
   have hss:(i+1)*sz=i*sz+sz:=jR i sz;refine kC (ov (zN (ov (Gv ae ae ?_))));refine kD hs (bL ae rfl wH rfl) rfl ?_;refine kD hs (bL ae rfl wH rfl) rfl ?_;refine kD hs (ek rfl) rfl ?_;refine kD hs (bV (i:=i*sz) (size:=1) underlying27 ae rfl rfl rfl aa) rfl ?_;refine kD hs (pB underlying27 rfl) rfl ?_;refine kD hs (yB rfl rfl) rfl ?_;refine kD hs (lW rfl) rfl ?_;rw[show min (sz:Int) ((n-i*sz:Nat):Int)=((xY sz n i:Nat):Int) by unfold xY;omega];refine XZ [(0,_),(1,_),(2,_),(4,_),(5,_)] ⟨rfl,rfl,rfl,rfl,rfl,trivial⟩ ?_;intro kd;have hJd:=Za pre w kd hJp;have vM:∀c∈Lk,c.holds B (w.drewN kd):=λc hc=>(hh c hc).keep λg hg=>rfl;clear hh hJp hs;generalize w.drewN kd=w at*;have hs:=lB w vM;rw[<-hLk]at hs;refine kC (ov (mb ?_));refine cW hs (ek rfl) rfl rfl ?_;refine cW hs (bL ae rfl wH rfl) rfl rfl ?_;refine cW hs (ek rfl) rfl rfl ?_;refine cW hs (ek rfl) rfl rfl ?_;refine cW hs (ek rfl) rfl rfl ?_;refine cW hs (bF rfl rfl (bj aa aa)) rfl rfl ?_;refine cW hs (ek rfl) rfl rfl ?_;refine cW hs (ek rfl) rfl rfl ?_;refine cW hs (bF rfl rfl (bj aa aa)) rfl rfl ?_;refine cW hs (wL (i:=i*sz) (j:=i*sz+xY sz n i) (size:=1) underlying27 ae rfl rfl rfl rfl aa rfl aa aa aa) rfl rfl ?_;rw[cH,uJ];refine JU (u:=GU A sz n i) rfl rfl (hY pre ⟨i,hiN⟩ w hJd hlen) rfl ?_ ?_
   ·rintro w' ⟨hJ',hK⟩;have hh':∀c∈Lk,c.holds B w':=λc hc=>hK c hc (vM c hc);have hs:=lB w' hh';rw[<-hLk]at hs;refine cW hs (AJ rfl) rfl rfl ?_;refine nF [(0,_),(1,_),(2,_),(4,_),(30,_)] ⟨rfl,rfl,rfl,rfl,rfl,trivial⟩ ?_;refine kC (Gt rfl (DE ?_));refine kC (mb ?_);refine cW hs (ek rfl) rfl rfl ?_;refine cW hs (bL ae rfl wH rfl) rfl rfl ?_;refine cW hs (bF rfl rfl (r:=(((i+1)*sz:Nat):Int)) ((bj aa aa).trans aa)) rfl rfl ?_;refine cW hs (lW rfl) rfl rfl ?_;refine nF [(0,_),(1,_),(2,_),(4,_)] ⟨rfl,rfl,rfl,rfl,trivial⟩ ?_;exact⟨i+1,⟨hiN,hh',pre++[⟨i,hiN⟩],by rw[iF,EG,mW];rfl,hJ'⟩,aa,rfl,rfl,rfl,rfl,trivial⟩
   ·intro w' hJ';have z7:SL w'.heap.size w' [] w':=SL.C4 w';refine cW z7 (AI rfl) rfl rfl ?_;refine nF [(30,_)] ⟨rfl,trivial⟩ ?_;refine kC (Gu rfl (agW ?_));exact .inr ⟨_,trivial,hJ'⟩
  ·refine XX ?_;refine XT ?_;show TB 0 _ (Exit.exit 0) _ _;refine XM ?_;have x7:¬i<iu sz n:=λh=>gU (by have:=(nZ iy).1 h;omega);obtain rfl:i=iu sz n:=by omega
   exact .inl ⟨pre,EG,hJp⟩
 ·rintro e a w ⟨fr,ha,hq⟩;cases e<;>first
   |exact hq.elim
   |exact⟨ha.defers,_,results_none rfl _ _ _,⟨_,rfl⟩,hq⟩
variable{B:Nat}{w0:World}{F:aN}{A:bh}{n c:Nat}
theorem Ng(iy:1<=sz):bg B w0 121 [.slice A n c,ah sz] F (λv L=>∃g2 g3,v= .func (.func 188) #[] #[bq g2,bq g3]/\L= .bI g3 3 [ah sz]:: .bI g2 27 [.slice A n c]::F):=by
 refine fw func121 9 [0,1] ?_;refine bM 2 λg2=>?_;refine fM λg3=>?_;refine bZ 10 λh6=>?_;exact bO 10
end
theorem Vu(h:1<=sz):iu sz (p*sz)=p:=by
 unfold iu;rw[tx,Nat.add_mul_div_right _ _ aa,yY aa,mH]
theorem abF(h1:1<=sz)(h2:sz<=10000)(hp:p<=100000)(hnc:p*sz<=c):
  bg B w0 187 [.slice none 0 0,.func (.func 188) #[] #[bq gp,bq gq]] (.bI gq 3 [ah sz]:: .bI gp 27 [.slice A (p*sz) c]::F)
   (λv L=>∃A' c',v= .slice A' p c'/\L= .own 27 1 A' p c' ((List.range p).map λi=>GU A sz (p*sz) i):: .bI gq 3 [ah sz]:: .bI gp 27 [.slice A (p*sz) c]::F):=by
 have hN:iu sz (p*sz)=p:=Vu h1;have Oz:p*sz<=100000*10000:=jG hp h2;refine yG func187 13 rfl rfl rfl [(0,.slice none 0 0),(1,.func (.func 188) #[] #[bq gp,bq gq])] ⟨⟨rfl,rfl⟩,⟨rfl,rfl⟩,trivial⟩ ?_;refine ot ?_;refine bM 1 λg2=>?_;refine ew ?_;refine kA ?_;refine L8 ?_;refine aM 27 1 none (fc ?_);refine kA ?_;refine Gn (N:=iu sz (p*sz)) ak9 rfl rfl rfl (λi:Fin (iu sz (p*sz))=>GU A sz (p*sz) i.val) (λxs=>xs.map (·.val)=List.range (iu sz (p*sz))) (λ_=>True) [.bI gp 27 [.slice A (p*sz) c],.bI gq 3 [ah sz]]
  (λw hw=>yq h1 h2 aa hnc (λe=>by have:=(kG.1 (kG.1 (kG.1 hw.apart).2).2).1 _ rL;subst e;rcases this with h|h<;>simp[Ch.fp]at h) w (hw.all _ (lj _ (lj _ (lj _ rL)))) (hw.all _ (lj _ (lj _ rL))))
  (λ(_:List (Fin (iu sz (p*sz)))) (_:bh×Nat)=>True) (λpre s=>.bI g2 52 [.slice s.1 (E pre) s.2]:: .own 27 1 s.1 (E pre) s.2 (pre.map λx=>GU A sz (p*sz) x.val):: .bI gq 3 [ah sz]:: .bI gp 27 [.slice A (p*sz) c]::F)
  (λpre s q hq=>by simp only[Ll hq,Lj hq]) (λq hq=>by
   simp only[fq,kS,nL]at hq;rcases hq with rfl|rfl
   ·exact⟨rfl,λpre s=>lj _ (lj _ (lj _ rL))⟩
   ·exact⟨rfl,λpre s=>lj _ (lj _ rL)⟩)
  (none,0) trivial ((gC (dL (.refl _)))) ?_ ?_
 ·rintro l' pre x ⟨A7,c7⟩ w1 _ kh adt F';have G_:E pre<p:=Nat.lt_of_lt_of_eq kh hN;have hmp:(pre++[x]).map (λx=>GU A sz (p*sz) x.val)=pre.map (λx=>GU A sz (p*sz) x.val)++[GU A sz (p*sz) x.val]:=by simp
  have G7:E (pre++[x])=E pre+1:=by simp
  simp only[nM,hmp,G7];refine Gs ?_;refine nx ae ?_;refine ew ?_;refine cC fO rfl rfl rfl rfl rfl (λ_=>rfl) aU aa aa ?_;intro _ tH zU;refine ew ?_;refine nq ?_;exact⟨(tH,zU),trivial,.refl _⟩
 ·rintro D xs ⟨A7,c7⟩ hS _;have S4:E xs=p:=by have:=eG List.length hS;rw[eZ,EX]at this;exact this.trans hN
  have hxm:xs.map (λx=>GU A sz (p*sz) x.val)=(List.range p).map λi=>GU A sz (p*sz) i:=by
   have e:List.range (iu sz (p*sz))=List.range p:=eG List.range hN;rw[<-hS.trans e,CY];rfl
  simp only[S4,hxm];refine agT ?_;refine fc ?_;refine nq ?_;refine agS rfl (.refl _) ?_;exact ak (.skip (.refl _)) (bO 1)
theorem Yv(h1:1<=sz)(h2:sz<=10000)(hp:p<=100000)(hnc:p*sz<=c):
  bg B w0 120 [.func (.func 188) #[] #[bq gp,bq gq]] (.bI gq 3 [ah sz]:: .bI gp 27 [.slice A (p*sz) c]::F)
   (λv L=>∃A' c',v= .slice A' p c'/\L= .own 27 1 A' p c' ((List.range p).map λi=>GU A sz (p*sz) i):: .bI gq 3 [ah sz]:: .bI gp 27 [.slice A (p*sz) c]::F):=by
 refine ba func120 5 [0] 8 ?_;exact ay rfl (abF h1 h2 hp hnc) λA4 c4=>bO 5
theorem yo(sz:Nat):∀(p i:Nat) (x:aq),i<p->(mr sz p x).getD i []=(x.drop (i*sz)).take sz
 |0,_,_,h=>by omega
 |p+1,0,x,_=>by rw[mr,nJ];rfl
 |p+1,i+1,x,h=>by
  have:=yo sz p i (x.drop sz) aa;rw[mr,tA,this,mX,rK,tx sz]
theorem Vn(hb:gw B w0 F A c l)(hz:1<=sz)(hi:i*sz+sz<=E l):aJ B w0 F 1 (.slice (A.map (·.add (i*sz))) sz sz) sz (bv ((l.drop (i*sz)).take sz)):=λw hs=>by
 obtain⟨A',c',e,h1,h2,h3⟩:=hb w hs;obtain⟨rfl,_,rfl⟩:A=A'/\True/\c=c':=by injection e with a b d;exact⟨a,trivial,d⟩
 obtain⟨ad,rfl,h4,h5⟩:=h3 aa;refine⟨_,sz,rfl,ga _,bS,λ_=>⟨_,rfl,apP,λj u hu=>?_⟩⟩;have hu':(bv l)[i*sz+j]? =some u:=by
  rw[<-jK,<-jJ,KT]at hu;split at hu
  ·rw[k_6]at hu;exact hu
  ·cases hu
 have:=h5 _ _ hu';show w.cell? ((ad.add (i*sz)).add j)=some u;rw[lV];exact this
def chP(A:bh)(sz p:Nat)(x:aq):List kF:=(List.range p).map λi=>(A.map (·.add (i*sz)),sz,(mr sz p x).getD i [])
theorem RU(A:bh)(sz p:Nat)(x:aq):E (chP A sz p x)=p:=by simp[chP]
theorem AD(A:bh)(sz p:Nat)(x:aq):(chP A sz p x).map (·.2.2)=mr sz p x:=by
 unfold chP;rw[CY]
 conv=>rhs;rw[<-uV (mr sz p x),l7]
 rfl
theorem acb{x:aq}(hx:E x=p*sz):(chP A sz p x).map de=(List.range p).map λi=>GU A sz (p*sz) i:=by
 unfold chP;rw[CY];refine tR λi hi=>?_;have hi:=oD.1 hi;have h1:=BI (k:=sz) hi;show Value.slice _ (E ((mr sz p x).getD i [])) _=_;rw[yo sz p i x hi,fZ,jM];unfold GU xY;rw[show min sz (p*sz-i*sz)=sz by omega,show min sz (E x-i*sz)=sz by omega]
theorem Vv{x:aq}(hz:1<=sz)(hx:E x=p*sz)(hb:gw B w0 F A c x):∀e∈chP A sz p x,aJ B w0 F 1 (de e) (E e.2.2) (bv e.2.2):=λe he=>by
 obtain⟨i,hi,rfl⟩:=qd.1 he;have hi:=oD.1 hi;have h1:=BI (k:=sz) hi;have:=Vn hb hz (i:=i) aa;show aJ B w0 F 1 (.slice _ (E ((mr sz p x).getD i [])) sz) (E ((mr sz p x).getD i [])) (bv ((mr sz p x).getD i []));rw[yo sz p i x hi];have hl:E ((x.drop (i*sz)).take sz)=sz:=by rw[fZ,jM];omega
 rw[hl];exact this
theorem ahO{x:aq}(hx:E x=p*sz):∀e∈chP A sz p x,E e.2.2=sz:=λe he=>by
 have hm:e.2.2∈mr sz p x:=by rw[<-AD A];exact jr (f:=λy:kF=>y.2.2) he
 exact vC sz p x hx _ hm
section
variable{k:Nat}{ch:Nat}
abbrev ShV(k m ch:Nat):Value:=.agg #[ah (k:Int),ah (m:Int),ah (ch:Int)]
structure GP(k m ch:Nat):Prop where
 k1:1<=k
 km:k+m<=255
 c1:1<=ch
 c2:ch<=4096
theorem GP.kc(h:GP k m ch):1<=k*ch/\k*ch<=255*4096:=
 ⟨Nat.mul_pos h.k1 h.c1,jG (by have:=h.km;omega) h.c2⟩
theorem GP.laid(h:GP k m ch):1<=(k+m)*(ch+4)/\(k+m)*(ch+4)<=255*4100:=
 ⟨Nat.mul_pos (by have:=h.k1;omega) aa,jG h.km (by have:=h.c2;omega)⟩
theorem XH(k ch n:Nat):oS k ch n<=n+k*ch:=iY (oE _ _) aa
theorem zC(h:GP k m ch):bg B w0 119 [ShV k m ch] F (λv L=>v=ah ((k*ch:Nat):Int)/\L=F):=by
 have h1:=h.km;have h2:=h.c2;refine cV func119 8 rfl rfl rfl [(0,.agg #[ah (k:Int),ah (m:Int),ah (ch:Int)])] ⟨⟨rfl,rfl⟩,trivial⟩ ?_;refine bM 2 λg1=>?_;refine dA ?_;refine ab (eo rfl rfl (r:=((k*ch:Nat):Int)) (W3 aa aa)) rfl (fb ?_);exact ak (.skip (.refl _)) (cm 1)
theorem LG(h:GP k m ch):bg B w0 186 [ShV k m ch] F (λv L=>v=ah (((k+m)*(ch+4):Nat):Int)/\L=F):=by
 have h1:=h.km;have h2:=h.c2;refine cV func186 12 rfl rfl rfl [(0,.agg #[ah (k:Int),ah (m:Int),ah (ch:Int)])] ⟨⟨rfl,rfl⟩,trivial⟩ ?_;refine bM 2 λg1=>?_;refine dA ?_;refine ab (bF rfl rfl (r:=((k+m:Nat):Int)) ((bj aa aa).trans aa)) rfl (ew ?_);refine ab (bF rfl rfl (r:=((ch+4:Nat):Int)) ((bj aa aa).trans aa)) rfl (ab (eo rfl rfl (r:=(((k+m)*(ch+4):Nat):Int)) (W3 aa aa)) rfl (fb ?_));exact ak (.skip (.refl _)) (cm 1)
theorem afO(h:GP k m ch)(hn:n<=1000000000):bg B w0 118 [ShV k m ch,ah (n:Int)] F (λv L=>v=ah ((oS k ch n:Nat):Int)/\L=F):=by
 have hkc:=h.kc;refine cV func118 13 rfl rfl rfl [(0,.agg #[ah (k:Int),ah (m:Int),ah (ch:Int)]),(1,ah (n:Int))] ⟨⟨rfl,rfl⟩,⟨rfl,rfl⟩,trivial⟩ ?_;refine bM 2 λg2=>?_;refine dg ?_;refine iL ak2 rfl (zC h) tJ rfl ?_;refine bJ (bF rfl rfl (r:=((n+k*ch:Nat):Int)) ((bj aa aa).trans aa)) rfl (bJ (cU rfl rfl (r:=((n+k*ch-1:Nat):Int)) ((bj aa aa).trans aa)) rfl (aX ?_));refine iL ak2 rfl (zC h) tJ rfl ?_;refine bJ (iq rfl rfl aa (r:=((oS k ch n:Nat):Int)) (ae' aa)) rfl (fb ?_);exact ak (.skip (.refl _)) (cm 1)
theorem aoz(h:GP k m ch):bg B w0 185 [ShV k m ch,ah (n:Int)] F (λv L=>v= .bool (decide (n<=8388608))/\L=F):=by
 obtain⟨h1,h2,h3,h4⟩:=h;refine cV func185 44 rfl rfl rfl [(0,.agg #[ah (k:Int),ah (m:Int),ah (ch:Int)]),(1,ah (n:Int))] ⟨⟨rfl,rfl⟩,⟨rfl,rfl⟩,trivial⟩ ?_;refine bM 2 λg2=>?_;refine bC 9 (λh8=>?_) λh8=>?_
 ·refine bC 7 (λnj=>?_) λnj=>?_
  ·refine bC 7 (λjq=>?_) λjq=>?_
   ·refine bC 13 (λq7=>?_) λq7=>?_
    ·refine bC 7 (λAU=>?_) λAU=>?_
     ·refine bC 7 (λCf=>?_) λCf=>?_
      ·refine bC 5 (λSw=>?_) λSw=>?_
       ·refine aD 5 [4] 2 ?_;refine ak (.skip (.refl _)) (aX ?_);exact⟨eG _ (xz.2 aa),rfl⟩
       ·exfalso;omega
      ·exfalso;omega
     ·exfalso;omega
    ·exfalso;omega
   ·exfalso;omega
  ·exfalso;omega
 ·exfalso;omega
theorem Qn(h:GP k m ch)(hn:n<=8388608):m0 k m ch n<=10000000*2000000:=by
 have:=XH k ch n;have hk:=h.kc;have hl:=h.laid;exact jG aa aa
theorem as2(h:GP k m ch)(hn:n<=8388608):IntKind.i64.wrap (((oS k ch n:Nat):Int)*(((k+m)*(ch+4):Nat):Int))=((m0 k m ch n:Nat):Int):=by
 have:=Qn h hn;have e:((oS k ch n:Nat):Int)*(((k+m)*(ch+4):Nat):Int)=((m0 k m ch n:Nat):Int):=(xy _ _).symm;rw[e];exact bj aa aa
theorem XF(h:GP k m ch)(hn:n<=9223372036854775807):bg B w0 117 [ah (k:Int),ah (m:Int),ah (ch:Int),ah (n:Int)] F (λv L=>v= .tuple #[ah (((if Dz k m ch n=0 then m0 k m ch n else 0:Nat)):Int),ah (Dz k m ch n)]/\L=F):=by
 have hl:=h.laid;refine ba func117 29 [0,1,2,3] 11 ?_;refine ab (eJ [(0,_),(1,_),(2,_)] [_,_,_] rfl rfl ae) rfl (fo λQ8=>?_);refine cY ?_;refine ai rfl (aoz h) (ag 3 (λqM=>?_) λqM=>?_)
 ·have e:Dz k m ch n=13:=by unfold Dz;rw[av aa]
  refine cY ?_;refine ak (.skip (.refl _)) (aX ?_);exact⟨by rw[e,aB aa];rfl,rfl⟩
 ·have ry:n<=8388608:=b_ qM;have iy:=Qn h ry;have e:Dz k m ch n=if 16777216<m0 k m ch n then 6 else 0:=by unfold Dz;rw[aB aa]
  refine dw ?_;refine iL aqb rfl (afO h aa) tJ rfl ?_;refine aX ?_;refine iL aqn rfl (LG h) tJ rfl ?_;refine bJ (eo rfl rfl (r:=((m0 k m ch n:Nat):Int)) (as2 h ry)) rfl (aX ?_);refine lD [(11,_)] ⟨rfl,trivial⟩ ?_;refine ag 8 (λkq=>?_) λkq=>?_
  ·rw[av aa]at e;refine cY ?_;refine ak (.skip (.refl _)) (aX ?_);exact⟨by rw[e,aB aa];rfl,rfl⟩
  ·rw[aB aa]at e;refine dh ?_;refine ak (.skip (.refl _)) (aX ?_);exact⟨by rw[e,av rfl],rfl⟩
end
section
variable{k:Nat}{ch:Nat}
theorem aeX{nn:Nat}(e:n=E PB)(hk:E PB=k)(xn:1<=k)(Wz:k+m<=255)(Zn:nn<=1000000000)(IY:∀e∈PB,E e.2.2=nn)(hb:aJ B w0 F 1 (.slice A2 n c2) n (PB.map de))(hP:∀e∈PB,aJ B w0 F 1 (de e) (E e.2.2) (bv e.2.2)):
  bg B w0 122 [ah (m:Int),.slice A2 n c2] F (PtA (par m (PB.map (·.2.2))) (some 0) F):=by
 subst e;exact PG hk xn Wz Zn IY hb hP
theorem ZK{x:aq}:rP k m ch (f+1) x=LJ k m ch (x.take (k*ch))++rP k m ch f (x.drop (k*ch)):=rfl
theorem acn(h:E b<=N):(bv b).take (min (E b) N)++(List.replicate N (Value.int .u8 0)).drop (min (E b) N)=bv (b++List.replicate (N-E b) 0):=by
 rw[C2 h,List.drop_replicate,gv ao];simp[bv]
theorem Ky{l:fJ}{q:Nat}(hq:q<E l):(l.take (q+1)).flatMap b7=(l.take q).flatMap b7++b7 (l.getD q []):=by
 rw[aP hq [],tB];simp
theorem avu{u v a b x y:Ch}{M K:aN}:(u::v::(M++a::b::x::y::K)).Perm (x::y::u::v::(M++a::b::K)):=by
 have h1:(a::b::x::y::K).Perm ([x,y]++(a::b::K)):=rJ [a,b] [x,y] K;have h2:(M++a::b::x::y::K).Perm ([x,y]++(M++a::b::K)):=(h1.append_left M).trans (rJ M [x,y] _);exact((h2.cons v).cons u).trans (rJ [u,v] [x,y] (M++a::b::K))
set_option maxHeartbeats 1000000 in
theorem aoy(HT:cK B w0)(h:GP k m ch){b:aq}(hb:gw B w0 F A c b)(ey:E b<=1000000000000000):
  bg B w0 66 [ah (k:Int),ah (m:Int),ah (ch:Int),.slice A (E b) c] F (λv L=>∃A' c',v= .tuple #[.slice A' (E (qf k m ch b).1) c',ah (qf k m ch b).2]/\L= .own 5 1 A' (E (qf k m ch b).1) c' (bv (qf k m ch b).1)::F):=by
 obtain⟨k1,km,ch1,ch2⟩:=h;have h:GP k m ch:=⟨k1,km,ch1,ch2⟩
 have hkc:=h.kc;have Dp:=h.laid;have kh:=zy (k:=k) (ch:=ch) aa b;have x7:=LK (k:=k) (ch:=ch) (n:=E b) aa;refine ba func66 83 [0,1,2,3] 13 ?_;refine ai rfl (XF h aa) (ag 14 (λwv=>?_) λwv=>?_)
 ·have e:qf k m ch b=([],Dz k m ch (E b)):=by unfold qf;rw[av wv]
  refine aD 5 [8,9] 3 ?_;refine aH 5 1 none (aX ?_);rw[e];exact⟨none,0,rfl,rfl⟩
 ·have e0:Dz k m ch (E b)=0:=b_ wv;have e:qf k m ch b=(rP k m ch (oS k ch (E b)) (qU k ch b),0):=by unfold qf;rw[aB wv]
  have wy:E b<=8388608:=by
   refine b_ λhh=>?_;unfold Dz at e0;rw[av aa]at e0;exact absurd e0 aE
  have S1:m0 k m ch (E b)<=16777216:=by
   refine b_ λhh=>?_;unfold Dz at e0;rw[aB aa,av aa]at e0;exact absurd e0 aE
  rw[av e0];have SA:=XH k ch (E b);obtain⟨S,hS⟩:=cM (oS k ch (E b));obtain⟨D,hD⟩:=cM (k*ch);obtain⟨Ld,hLd⟩:=cM ((k+m)*(ch+4));have hSd:S*D<=10000000*1044480:=jG aa aa;have av6:S*Ld<=16777216:=by rw[hS,hLd];exact S1
  rw[<-hS,<-hD]at kh x7;rw[<-hS]at e SA;rw[<-hD]at hkc SA;rw[<-hLd]at Dp;have hpe:qU k ch b=b++List.replicate (S*D-E b) 0:=by unfold qU;rw[hS,hD]
  refine dg ?_;refine ab (eJ [(0,_),(1,_),(2,_)] [_,_,_] rfl rfl ae) rfl (fo λwM=>?_);refine aD 1 [1,2,3,10,12] 0 ?_;refine cN 2 (.bI wM 195 [ah (k:Int),ah (m:Int),ah (ch:Int)]::F) ?_;refine aF 0 3 ?_;refine dI 4 ?_;refine aC 3 (lu rfl rfl (afO (n:=E b) h aa) (aC 5 (lu rfl rfl (zC h) (aS 6 rfl (eo rfl rfl (r:=((S*D:Nat):Int)) (by rw[<-hS,<-hD,<-xy];exact bj aa aa)) (aC 7 (cF rfl (eY (nn:=S*D) (cc:=S*D) bP rfl rfl rfl rfl rfl aa aa aa) λUU=>dI 8 ?_))))));refine dw ?_;refine ou (Iy bP .hd rfl rfl (hb.cons.cons) (uk _)) rfl ?_;rintro _ _ ⟨rfl,rfl⟩;refine fc ?_;rw[acn x7,<-hpe];refine jP ((oI (gh (.refl _)))) ?_;obtain⟨K,hK⟩:=cM (.own 5 1 UU (S*D) (S*D) (bv (qU k ch b))::F);have hbK:aJ B w0 K 1 (.slice UU (E (qU k ch b)) (S*D)) (E (qU k ch b)) (bv (qU k ch b)):=by rw[kh,hK];exact aJ.own (.head _)
  have hKF:Wk K F:=by rw[hK];exact .skip (.refl _)
  rw[<-hK,show(Value.slice UU (S*D) (S*D))= .slice UU (E (qU k ch b)) (S*D) by rw[kh]];refine ew ?_;refine cv (eY (nn:=0) (cc:=m0 k m ch (E b)) bP rfl rfl rfl rfl rfl aa aa aa) λA48=>dx ?_;refine aw (λzf zL zm=>∃(j:Nat) (R:aq) (Ar:bh) (cr:Nat) (Ao:bh) (co:Nat) (acc:aq),(j<=S/\E R=(S-j)*D/\E R<=cr/\aJ B w0 K 1 (.slice Ar (E R) cr) (E R) (bv R)/\E acc=j*Ld/\acc++rP k m ch (S-j) R=rP k m ch S (qU k ch b))/\S-j=zm/\Sub zf [(1,ah (m:Int)),(2,ah (ch:Int)),(12,bq wM),(13,.slice Ar (E R) cr),(14,.slice Ao (E acc) co)]/\Wk zL (.own 5 1 Ao (E acc) co (bv acc):: .bI wM 195 [ah (k:Int),ah (m:Int),ah (ch:Int)]::K)) _ ⟨0,qU k ch b,UU,S*D,A48,m0 k m ch (E b),[],⟨bD _,by rw[ET];exact kh,aa,hbK,ao,by rw[ET];rfl⟩,rfl,a_,au rfl rfl (.refl _)⟩ ?_;rintro _ _ _ ⟨j,R,Ar,cr,Ao,co,acc,⟨hj,Wq,hRc,KH,CU,jL⟩,rfl,hs,hp⟩;refine aL hs hp (ag 8 (λOf=>?_) λOf=>?_)
  ·have hjS:j<S:=by
    refine b_ λhh=>?_;have:S-j=0:=by omega
    rw[this,nJ]at Wq;omega
   have hSj:S-j=(S-(j+1))+1:=by omega
   rw[hSj,rK]at Wq;rw[hSj,ZK,<-hD]at jL;have hLj:(j+1)*Ld<=S*Ld:=C3 _ hjS;rw[rK]at hLj;obtain⟨X,hX⟩:=cM (R.take D);have Y8:E X=D:=by rw[hX,fZ];omega
   have hXk:E X=k*ch:=by rw[Y8,hD]
   have hXb:aJ B w0 K 1 (.slice Ar D cr) D (bv X):=by
    have:=KH.h_ (k:=D) aa;rw[cH,jK,<-hX]at this;exact this
   have arq:aJ B w0 K 1 (.slice Ar (E X) cr) (E X) (bv X):=by rw[Y8];exact hXb
   have ar8:=zG (m:=m) k1 hXk;rw[<-hLd]at ar8;rw[<-hX]at jL;have hcP:=RU Ar ch k X;refine dg ?_;refine ai rfl (zC h) (ab (bQ (i:=k*ch) (size:=1) underlying27 ae rfl rfl rfl aa) rfl (aX ?_));refine ay rfl (Ng ch1) λgp gq=>ay rfl (Yv (p:=k) ch1 aa aa aa) λA58 c58=>fb ?_;rw[<-acb (A:=Ar) hXk];refine fc ?_;refine bp ak3 rfl (aeX (PB:=chP Ar ch k X) (nn:=ch) hcP.symm hcP k1 km aa (ahO hXk) (aJ.own (.head _)) (λe he=>by have:=Vv ch1 hXk arq e he;exact this.cons.cons.cons.cons.cons)) rfl ?_;rintro _ _ ⟨A62,c62,FB,rfl,cR,vK⟩;obtain rfl:=cR.symm;refine aD 5 [1,2,12,13,14,15,16] 2 ?_;refine dq (λzf zL=>∃(A67:bh) (c67:Nat) (AB:List kF) (K2:aN),(E AB=k+m/\AB.map (·.2.2)=LM k m ch X/\aJ B w0 K2 1 (.slice A67 (E AB) c67) (E AB) (AB.map de)/\(∀e∈AB,aJ B w0 K2 1 (de e) (E e.2.2) (bv e.2.2))/\Wk K2 K)/\Sub zf [(1,ah (m:Int)),(2,ah (ch:Int)),(12,bq wM),(13,.slice Ar (E R) cr),(14,.slice Ao (E acc) co),(67,.slice A67 (E AB) c67),(68,ah (E AB)),(69,ah 0)]/\Wk zL (.own 5 1 Ao (E acc) co (bv acc):: .bI wM 195 [ah (k:Int),ah (m:Int),ah (ch:Int)]::K2)) ?_ ?_
   ·rw[AD]at vK;have Ra:E FB=m:=by have:=eG List.length vK;rw[eZ,sQ]at this;exact this
    refine jP ((List.perm_middle.cons _).trans (.swap ..)) ?_;refine fc ?_;refine dB (bB fO rfl aU rfl (aJ.own (.tail _ (.head _))) Fx aa aa) λA67 c67=>fc ?_;have hl:E (chP Ar ch k X++FB)=k+m:=by rw[bm];omega
    exact bo ⟨A67,c67,chP Ar ch k X++FB,_,(by
     refine⟨hl,by rw[iF,AD,vK];rfl,?_,?_,?_⟩
     ·rw[hl,iF,show k+m=k+E FB by omega];exact aJ.own (.head _)
     ·intro e he;rcases dO.1 he with he|he
      ·exact(Vv ch1 hXk arq e he).mono (.cons _ (.cons _ (.trans (.cons _ (.cons _ (.refl _))) (fN _ _))))
      ·exact aJ.own (.tail _ (.tail _ (ku _ (jr (f:=fk) he))))
     ·exact .s2 ((ej _ _).trans (.s2 (.refl _)))),a_,.c_ avu⟩
   ·rintro _ _ ⟨A67,c67,AB,K2,⟨ais,adi,auk,auj,KG⟩,hs,hp⟩;refine aL hs hp ?_;have hPe:∀e∈AB,E e.2.2=ch:=λe he=>vW k1 hXk _ (adi▸jr (f:=λy:kF=>y.2.2) he);refine aX ?_;refine aw (λzf zL zm=>∃(q:Nat) (Aq:bh) (cq:Nat) (CO:aq),(q<=E AB/\CO=acc++((AB.map (·.2.2)).take q).flatMap b7/\E CO=E acc+q*(ch+4))/\E AB-q=zm/\Sub zf [(1,ah (m:Int)),(2,ah (ch:Int)),(12,bq wM),(13,.slice Ar (E R) cr),(14,.slice Aq (E CO) cq),(67,.slice A67 (E AB) c67),(68,ah (E AB)),(69,ah (q:Int))]/\Wk zL (.own 5 1 Aq (E CO) cq (bv CO):: .bI wM 195 [ah (k:Int),ah (m:Int),ah (ch:Int)]::K2)) _ ⟨0,Ao,co,acc,⟨bD _,ao,ao⟩,rfl,a_,.refl _⟩ ?_;rintro _ _ _ ⟨q,Aq,cq,CO,⟨hq,alq,awj⟩,rfl,hs,hp⟩;refine aL hs hp (ag 6 (λh70=>?_) λh70=>?_)
    ·have zX:=C7 (PB:=AB) (i:=q) aa;have mD:=bc (l:=AB) (show q<E AB by omega) lM;have Rg:=Ky (l:=AB.map (·.2.2)) (q:=q) bS;rw[Fq]at Rg;obtain⟨P,hP⟩:=cM (AB.getD q lM);rw[<-hP]at zX mD Rg;have hlP:=hPe P mD;have hbP:=auj P mD;have hqL:(q+1)*(ch+4)<=(k+m)*(ch+4):=C3 _ aa;rw[rK,<-hLd]at hqL;have hpp:=dD P.2.2;refine dg ?_;refine ab (al ae rfl auk.cons.cons aa zX) rfl (dw ?_);refine ay rfl (qJ HT (l:=P.2.2) hbP.cons.cons aa) λA75 c75=>dB (bB bP rfl aU rfl aA bY aa aa) λA76 c76=>cY ?_;have oB:E (CO++b7 P.2.2)=E CO+E (b7 P.2.2):=bm;refine aj ⟨_,aa,q+1,A76,c76,CO++b7 P.2.2,⟨aa,by rw[Rg,alq,bT],by rw[oB,rK];omega⟩,rfl,a_,.skip (au ao ao (.refl _))⟩
    ·obtain rfl:q=E AB:=by omega
     have ar9:CO=acc++LJ k m ch X:=by
      rw[alq,gv ao,adi];rfl
     have aur:E CO=(j+1)*Ld:=by rw[rK,ar9,bm,ar8];omega
     refine cY ?_;refine ai rfl (zC h) (ab (bV (i:=k*ch) (size:=1) underlying27 ae rfl rfl rfl aa) rfl (fc ?_));have hRd:E (R.drop D)=(S-(j+1))*D:=by rw[jM];omega
     have hcut:=KH.cut (k:=D) aa;rw[cH,jJ]at hcut;have adk:E R-D=E (R.drop D):=by rw[jM]
     rw[adk]at hcut;rw[<-hD,adk,cH D];refine aj ⟨_,aa,j+1,R.drop D,_,_,Aq,cq,CO,(by exact⟨hjS,hRd,aa,hcut,aur,by rw[ar9,bT];exact jL⟩),rfl,a_,.cons (.cons KG)⟩
  ·have hjS:j=S:=by
    refine b_ λhh=>?_;have:1*D<=(S-j)*D:=C3 _ aa;omega
   subst hjS;rw[rE]at jL;have uE:acc=rP k m ch j (qU k ch b):=by rw[<-jL];simp[rP]
   refine bK 13 ?_;refine ak (.cons (.skip hKF)) (aX ?_);rw[e,<-uE];exact⟨Ao,co,rfl,rfl⟩
end
theorem Pa{k ch:Nat}(hk:0<k)(hc:0<ch)(h:(qf k m ch b).2=0):E (qf k m ch b).1<=16777216/\E b<=8388608:=by
 unfold qf at h⊢;by_cases e:Dz k m ch (E b)≠0
 ·rw[av e]at h;exact absurd h e
 ·rw[aB e];have e':Dz k m ch (E b)=0:=b_ e;unfold Dz at e';have hb:E b<=8388608:=b_ λq=>by rw[av aa]at e';exact absurd e' aE
  rw[aB aa]at e';have hs:m0 k m ch (E b)<=16777216:=b_ λq=>by rw[av aa]at e';exact absurd e' aE
  refine⟨?_,hb⟩;show(rP k m ch (oS k ch (E b)) (qU k ch b)).length<=_;rw[zg hk _ _ (zy (Nat.mul_pos hk hc) b)];exact hs
theorem agc(HT:cK B w0)(ho:dF 3 o=0)(hn:n<4294967296)(e:n2=E l)(hb:aJ B w0 F 1 (.slice A n2 c) n2 (bv l))(hl:E l<=1000000000):
  bg B w0 67 [bq g,.slice A n2 c] (Hb g o n p::F) (GK (jg o n++(l++jg o n)) (Hb g o n p::F)):=by
 subst e;have h1:=Gc o n;refine cV func67 12 rfl rfl rfl [(0,bq g),(1,.slice A (E l) c)] ⟨⟨rfl,rfl⟩,⟨rfl,rfl⟩,trivial⟩ ?_;refine cY ?_;refine ay rfl (JN HT ho hn) λA6 c6=>ew ?_;refine ay rfl (.perm (JN HT ho hn) ((oI (gh (.refl _))))) λA9 c9=>cv (aG fO [_,_,_] rfl rfl bY aa aa) λz'=>ay rfl (J2 (l1:=jg o n) (l2:=l) (l3:=jg o n) aA aA (hb.cons.cons.cons.cons) aA rfl HU) λtH zU=>fb ?_;exact ak ((dL (lU (.s3 (.refl _))))) (bO 1)
theorem aoI(h:dF 3 o≠0):wE o L=([],dF 3 o):=by unfold wE;rw[av h]
theorem aoJ(h:dF 3 o=0)(h2:(gL o L).2≠0):wE o L=([],(gL o L).2):=by unfold wE;rw[aB aa,av h2]
theorem aoK(h:dF 3 o=0)(h2:¬(gL o L).2≠0)(h3:(jO o (gJ o L)).2≠0):wE o L=([],(jO o (gJ o L)).2):=by unfold wE;rw[aB aa,aB h2,av h3]
theorem agk(h:dF 3 o=0)(h2:¬(gL o L).2≠0)(h3:¬(jO o (gJ o L)).2≠0):wE o L=(Hy o (gJ o L),0):=by unfold wE;rw[aB aa,aB h2,aB h3]
theorem agf{v:Value}(h:dF 3 o≠0):bg B w0 28 [.agg (aZ.cells o).toArray,v] F (Q3 (wE o L) F):=by
 have e:=aoI (L:=L) h;obtain⟨bl,pl,bu,da,pa,ch⟩:=o;refine cV func28 45 rfl rfl rfl [(0,.agg #[ah bl,.bool pl,ah bu,ah da,ah pa,ah ch]),(1,v)] ⟨⟨rfl,rfl⟩,⟨rfl,rfl⟩,trivial⟩ ?_;refine bM 2 λg2=>?_;refine cY ?_;refine ai rfl (kU 3 (bl,pl,bu,da,pa,ch)) (ag 9 (λnj=>?_) λnj=>?_)
 ·refine dA ?_;refine aH 5 1 none (ak (.cons (.skip (.refl _))) (aX ?_));rw[e];exact⟨none,0,rfl,rfl⟩
 ·exfalso;exact nj h
theorem ab3(h2:¬(gL o L).2≠0):(gL o L).1=gJ o L/\dC L=0:=by
 unfold gL at h2⊢;by_cases q1:dF 2 (o2 o)≠0
 ·rw[av q1]at h2;exact absurd q1 h2
 ·by_cases q2:dC L≠0
  ·rw[aB q1,av q2]at h2;exact absurd q2 h2
  ·rw[aB q1,aB q2];exact⟨rfl,b_ q2⟩
theorem afG(h:dF 3 o=0):GP o.2.2.2.1.toNat o.2.2.2.2.1.toNat o.2.2.2.2.2.toNat/\0<=o.2.2.2.1/\0<=o.2.2.2.2.1/\0<=o.2.2.2.2.2:=by
 obtain⟨_,m3,_⟩:=(nt h).1;obtain⟨⟨k1,k2⟩,⟨k3,k4⟩,⟨k5,k6⟩⟩:=m3 rfl;exact⟨⟨aa,aa,aa,aa⟩,aa,aa,aa⟩
theorem agh(HT:cK B w0)(ho:dF 3 o=0)(hx:∀x∈L,x.1<18446744073709551616)(hb:aJ B w0 F 4 (.slice A (E L) c) (E L) (cD L)):bg B w0 28 [.agg (aZ.cells o).toArray,.slice A (E L) c] F (Q3 (wE o L) F):=by
 have hO2:=aoJ (L:=L) ho;have hO3:=aoK (L:=L) ho;have hO4:=agk (L:=L) ho;obtain⟨W,hW⟩:=cM (wE o L);rw[<-hW]at hO2 hO3 hO4⊢;obtain⟨Y,hY⟩:=cM (gL o L);have Ov:=λM (hb:aJ B w0 M 4 (.slice A (E L) c) (E L) (cD L))=>xc (F:=M) HT (o:=o) hx hb;have hbw:=ab3 (o:=o) (L:=L);rw[<-hY]at hO2 hO3 hO4 hbw;simp only[<-hY]at Ov;have yN:=λhc=>H9 (o:=o) (L:=L) (nt ho).2 hc hx;obtain⟨KM,p1,p2,p3⟩:=afG ho;obtain⟨bl,pl,bu,da,pa,ch⟩:=o;obtain⟨d,rfl⟩:=gl (show 0<=da from p1);obtain⟨q,rfl⟩:=gl (show 0<=pa from p2);obtain⟨hc,rfl⟩:=gl (show 0<=ch from p3);have KM:GP d q hc:=KM;have Dp:∀b,jO (bl,pl,bu,(d:Int),(q:Int),(hc:Int)) b=qf d q hc b:=λ_=>rfl;have hA:∀b,Hy (bl,pl,bu,(d:Int),(q:Int),(hc:Int)) b=jg (bl,pl,bu,(d:Int),(q:Int),(hc:Int)) (E b)++((qf d q hc b).1++jg (bl,pl,bu,(d:Int),(q:Int),(hc:Int)) (E b)):=λ_=>rfl;refine cV func28 45 rfl rfl rfl [(0,.agg #[ah bl,.bool pl,ah bu,ah (d:Int),ah (q:Int),ah (hc:Int)]),(1,.slice A (E L) c)] ⟨⟨rfl,rfl⟩,⟨rfl,rfl⟩,trivial⟩ ?_;refine bM 2 λg2=>?_;refine cY ?_;refine ai rfl (kU 3 (bl,pl,bu,(d:Int),(q:Int),(hc:Int))) (ag 9 (λnj=>?_) λnj=>?_)
 ·exfalso;exact nj ho
 ·refine dw ?_;refine ay rfl (Ov _ hb.cons) λuc wK=>ag 14 (λrq=>?_) λrq=>?_
  ·refine aD 5 [4,5] 3 ?_;refine aH 5 1 none (ak (.cons (.s2 (.refl _))) (aX ?_));rw[hO2 rq];exact⟨none,0,rfl,rfl⟩
  ·obtain⟨hB1,hB2⟩:=hbw rq;have yN:=yN hB2;have hO3:=hO3 rq;have hO4:=hO4 rq;rw[<-hB1]at yN hO3 hO4;rw[Dp]at hO3 hO4;refine fF ?_;refine ay rfl (aoy HT KM (b:=Y.1) (aJ.own (.head _)) aa) λMi Mo=>aD 5 [2,7,8,9] 0 ?_;refine ag 8 (λCf=>?_) λCf=>?_
   ·refine dA ?_;refine aH 5 1 none (ak (.cons (.s3 (.refl _))) (aX ?_));rw[hO3 Cf];exact⟨none,0,rfl,rfl⟩
   ·obtain⟨q9,oB⟩:=Pa KM.k1 KM.c1 (b_ Cf);refine dg ?_;refine ab (bw [(0,_),(1,_)] [ah 0,.bool false,ah 0,ah 0,ah 0,ah 0,ah 0,.int .u8 0] [0,6] [_,_,_,_,_,_,_,_] rfl rfl ae) rfl (fM λg42=>?_);refine aX ?_;refine ay rfl (agc HT (p:=0) ho aa (l:=(qf d q hc Y.1).1) rfl (aJ.own (.head _)) aa) λA44 c44=>dx ?_;refine ak ((dL (.s4 (.refl _)))) (aX ?_);rw[hO4 Cf,hA];exact⟨A44,c44,rfl,rfl⟩
theorem agi(HT:cK B w0)(hx:∀x∈L,x.1<18446744073709551616)(hb:aJ B w0 F 4 (.slice A (E L) c) (E L) (cD L)):bg B w0 28 [.agg (aZ.cells o).toArray,.slice A (E L) c] F (Q3 (wE o L) F):=by
 by_cases h:dF 3 o=0
 ·exact agh HT h hx hb
 ·exact agf h
section
variable{k:Nat}
theorem Ic(h:i<n):(qk (List.replicate n true))[i*1]? =some (.bool true):=by
 rw[cH];simp[qk,h]
theorem JB(hn:E PB<=1000000)(hj:j<=E PB)(hb:aJ B w0 F 1 (.slice A (E PB) c) (E PB) (PB.map de))(hg:aJ B w0 F 1 (.slice A2 (E PB) c2) (E PB) (qk (List.replicate (E PB) true))):
  bg B w0 276 [ah (j:Int),.slice A (E PB) c,.slice A2 (E PB) c2] F (λv L=>∃Aa ca Al cl,v= .tuple #[.slice Aa j ca,.slice Al j cl]/\
   L= .own 27 1 Al j cl ((PB.take j).map de):: .own 3 1 Aa j ca (bN (List.range j))::F):=by
 refine ba func276 38 [0,1,2] 8 ?_;refine aM 3 1 none (aM 27 1 none (dg ?_));refine aw (λzf zL zm=>∃(i q:Nat) (Aa:bh) (ca:Nat) (Al:bh) (cl:Nat),(i<=E PB/\q=min i j)/\E PB-i=zm/\Sub zf [(0,ah (j:Int)),(2,.slice A2 (E PB) c2),(6,.slice Aa q ca),(7,.slice Al q cl),(10,.slice A (E PB) c),(11,ah (E PB)),(12,ah (i:Int))]/\Wk zL (.own 27 1 Al q cl ((PB.take q).map de):: .own 3 1 Aa q ca (bN (List.range q))::F)) _ ⟨0,0,none,0,none,0,⟨bD _,aa⟩,rfl,a_,.refl _⟩ ?_;rintro _ _ _ ⟨i,q,Aa,ca,Al,cl,⟨hi,hq⟩,rfl,hs,hp⟩;refine aL hs hp (ag 6 (λnj=>?_) λnj=>?_)
 ·have hpg:=C7 (PB:=PB) (i:=i) aa;have Zg:=Ic (n:=E PB) (i:=i) aa;refine cY ?_;refine ab (al ae rfl aA aa hpg) rfl (dA ?_);refine ab (al ae rfl aA aa Zg) rfl (aX ?_);refine lS rfl rfl rfl (λmQ=>?_) (λmQ=>?_)
  ·refine ag 10 (λq7=>?_) λq7=>?_
   ·obtain rfl:q=i:=by omega
    refine fb ?_;refine cC gF rfl rfl rfl rfl rfl (λ_=>rfl) aU aa aa ?_;intro _ Rp c30;refine aD 1 [0,2,6,7,9,10,11,12] 4 ?_;refine cC fO rfl rfl rfl rfl rfl (λ_=>rfl) aU aa aa ?_;intro _ tI tY;refine cY ?_;refine aj ⟨_,aa,q+1,q+1,Rp,c30,tI,tY,⟨aa,aa⟩,rfl,a_,au rfl (by rw[aP (show q<E PB by omega) lM];simp) (au rfl (by rw[mW];simp[bN]) (.refl _))⟩
   ·refine aD 6 [0,2,6,7,10,11,12] 0 ?_;refine aj ⟨_,aa,i+1,q,Aa,ca,Al,cl,⟨aa,aa⟩,rfl,a_,.refl _⟩
  ·exfalso;simp at mQ
 ·obtain rfl:q=j:=by omega
  exact N9 15
theorem ahm(e:n=E PB)(hb:aJ B w0 F 1 (.slice A n c) n (PB.map de))(hl:E PB<=1000000):
  bg B w0 190 [.slice A n c] F (λv L=>v= .bool (decide (ud (PB.map (·.2.2))))/\L=F):=by
 subst e;exact JA hb hl
set_option maxHeartbeats 1000000 in
theorem afr{PB:List kF}{D:fJ}{nn:Nat}(hk:1<=k)(Wz:k+m<=255)(yL:E PB=k+m)(hD:E D=k)(hPm:PB.map (·.2.2)=D++par m D)(Zn:nn<=1000000)(IY:∀e∈PB,E e.2.2=nn)(hb:aJ B w0 F 1 (.slice A (E PB) c) (E PB) (PB.map de))(hP:∀e∈PB,aJ B w0 F 1 (de e) (E e.2.2) (bv e.2.2))(hg:aJ B w0 F 1 (.slice A2 (E PB) c2) (E PB) (qk (List.replicate (E PB) true))):
  bg B w0 243 [ah (k:Int),ah (m:Int),.slice A (E PB) c,.slice A2 (E PB) c2] F (PtA (D++par m D) (some 0) F):=by
 have CU:ud ((PB.take (k+m)).map (·.2.2)):=λb nD=>by
  have pF:∀x∈(PB.take (k+m)).map (·.2.2),E x=nn:=λx hx=>by
   obtain⟨e,he,rfl⟩:=qd.1 hx;exact IY e (ia he)
  rw[pF b nD,Om pF (List.length_pos_of_mem nD)]
 obtain⟨DB,hDB⟩:=cM (PB.take k);have hDl:E DB=k:=by rw[hDB,fZ];omega
 have hDm:DB.map (·.2.2)=D:=by rw[hDB,mY,hPm,qs hD]
 have hDe:∀e∈DB,e∈PB:=λe he=>ia (hDB▸he);refine ba func243 118 [0,1,2,3] 11 ?_;refine ai rfl (Xs hk Wz) (bk 16 (λCf=>?_) (λCf=>?_))
 ·refine aD 12 [0,1,2,3,43] 0 ?_;refine bZ 1 λGC=>?_;refine dw ?_;refine ab (bF rfl rfl (r:=((k+m:Nat):Int)) ((bj aa aa).trans aa)) rfl (ew ?_);refine bp alc rfl (JB (j:=k+m) aa aa hb hg) rfl ?_;rintro _ _ ⟨Aa,ca,Al,cl,rfl,cR⟩;obtain rfl:=cR.symm;refine fF ?_;refine ai rfl (ahm (PB:=PB.take (k+m)) jA (aJ.own (.head _)) jA) (ag 3 (λh55=>?_) λh55=>?_)
  ·exfalso;exact h55 CU
  ·refine aD 9 [0,1,2,3,59] 0 ?_;refine bZ 1 λh59=>?_;refine dg ?_;refine bp alc rfl (JB (j:=k) aa aa hb.cons.cons hg.cons.cons) rfl ?_;rintro _ _ ⟨Aa2,ca2,Al2,cl2,rfl,cR⟩;obtain rfl:=cR.symm;refine bK 18 ?_;refine ab (cU rfl rfl (r:=((k-1:Nat):Int)) ((bj aa aa).trans aa)) rfl (ab (az (i:=k-1) (size:=1) underlying53 ae rfl rfl rfl aa (aJ.own (.tail _ (.head _)))) rfl (ab (al ae rfl (aJ.own (.tail _ (.head _))) aa (fi (v:=k-1) (by rw[EX];omega) (by rw[bz,uI aa];rfl))) rfl (aX ?_)));refine ab (cU rfl rfl (r:=((k-1:Nat):Int)) ((bj aa aa).trans aa)) rfl (aD 1 [0,1,12,13,14,75] 0 ?_);refine ag 1 (λh75=>?_) λh75=>?_
   ·exfalso;exact h75 rfl
   ·subst hDl;rw[<-hDB];have hDn:∀e∈DB,E e.2.2=nn:=λe he=>IY e (hDe e he);obtain⟨K,hK⟩:=cM ((.own 27 1 Al2 (E DB) cl2 (DB.map de):: .own 3 1 Aa2 (E DB) ca2 (bN (List.range (E DB))):: .own 27 1 Al (E DB+m) cl ((PB.take (E DB+m)).map de):: .own 3 1 Aa (E DB+m) ca (bN (List.range (E DB+m)))::F:aN));have hDb:aJ B w0 K 1 (.slice Al2 (E DB) cl2) (E DB) (DB.map de):=by rw[hK];exact aJ.own (.head _)
    have hDP:∀e∈DB,aJ B w0 K 1 (de e) (E e.2.2) (bv e.2.2):=λe he=>by rw[hK];exact(hP e (hDe e he)).cons.cons.cons.cons
    have hKF:Wk K F:=by rw[hK];exact .s4 (.refl _)
    refine mM (L':=K) (by rw[hK];exact .refl _) ?_;clear hK;refine dw ?_;refine bp ak3 rfl (PG (PB:=DB) (nn:=nn) rfl hk Wz aa hDn hDb hDP) rfl ?_;rintro _ _ ⟨A95,c95,FB,rfl,cR,vK⟩;obtain rfl:=cR.symm;refine fF ?_;refine ab (bF rfl rfl (r:=((E DB+m:Nat):Int)) ((bj aa aa).trans aa)) rfl (cv (eY (nn:=0) fO rfl rfl rfl rfl rfl aa aa aa) λamf=>fb ?_);refine dq (λzf zL=>∃(Ac:bh) (cc:Nat) (K2:aN),(aJ B w0 K2 1 (.slice Ac (E (DB++FB)) cc) (E (DB++FB)) ((DB++FB).map de)/\(∀e∈DB++FB,aJ B w0 K2 1 (de e) (E e.2.2) (bv e.2.2))/\Wk K2 F)/\Sub zf [(21,.slice amf 0 (E DB+m)),(105,.slice Ac (E (DB++FB)) cc),(106,ah (E (DB++FB))),(107,ah 0)]/\Wk zL (.own 27 1 amf 0 (E DB+m) []::K2)) ?_ ?_
    ·have Ra:E FB=m:=by have:=eG List.length vK;rw[eZ,sQ]at this;exact this
     have ais:E (DB++FB)=E DB+E FB:=bm;refine fc ?_;refine cv (aG aox [_,_] rfl rfl bY aa aa) λath=>?_;refine ay rfl (aae (V1:=DB.map de) (V2:=FB.map de) (aJ.own (.head _)) (by have:=hDb;refine aJ.cons (aJ.cons (aJ.cons (this.mono (fN _ _))))) (aJ.own (.tail _ (.tail _ (.head _)))) Fx Fx aa aa aa) λamg amF=>?_;refine aD 2 [21,105,106,107] 0 ?_;exact bo ⟨amg,amF,_,(by
      rw[ais];refine⟨by rw[iF];exact aJ.own (.head _),λe he=>?_,?_⟩
      ·rcases dO.1 he with he|he
       ·have:=(hDP e he).mono (fN (FB.map fk) _);repeat (first|exact this|apply aJ.cons)
       ·exact aJ.own (.tail _ (.tail _ (.tail _ (ku _ (jr (f:=fk) he)))))
      ·exact .s3 ((ej _ _).trans hKF)),a_,(lU (dL (dL (.refl _))))⟩
    ·rintro _ _ ⟨Ac,cc,K2,⟨hcb,hcP,KG⟩,hs,hp⟩;refine aL hs hp ?_;have Ra:E FB=m:=by have:=eG List.length vK;rw[eZ,sQ]at this;exact this
     have ais:E (DB++FB)=E DB+m:=by rw[bm];omega
     have adi:(DB++FB).map (·.2.2)=D++par m D:=by rw[iF,vK,hDm]
     have arn:∀e∈DB++FB,E e.2.2=nn:=λe he=>by
      rcases dO.1 he with he|he
      ·exact hDn e he
      ·have hm:e.2.2∈par m (DB.map (·.2.2)):=vK▸jr (f:=λx:kF=>x.2.2) he;exact PF bS (λx hx=>by
        obtain⟨y,hy,rfl⟩:=qd.1 hx;exact hDn y hy) _ hm
     obtain⟨AB,hAB⟩:=cM (DB++FB);rw[<-hAB]at hcb hcP ais adi arn⊢;refine aX ?_;refine aw (λzf zL zm=>∃(i:Nat) (Ao:bh) (co:Nat) (OB:List kF),(i<=E AB/\E OB=i/\OB.map (·.2.2)=(AB.map (·.2.2)).take i)/\E AB-i=zm/\Sub zf [(21,.slice Ao (E OB) co),(105,.slice Ac (E AB) cc),(106,ah (E AB)),(107,ah (i:Int))]/\Wk zL (.own 27 1 Ao (E OB) co (OB.map de)::(OB.map fk++K2))) _ ⟨0,amf,E DB+m,[],⟨bD _,rfl,rfl⟩,rfl,a_,.refl _⟩ ?_;rintro _ _ _ ⟨i,Ao,co,OB,⟨hi,hOl,hOm⟩,rfl,hs,hp⟩;refine aL hs hp (ag 6 (λatY=>?_) λatY=>?_)
     ·have zX:=C7 (PB:=AB) (i:=i) aa;have mD:=bc (l:=AB) (show i<E AB by omega) lM;have qb:(AB.map (·.2.2)).take (i+1)=(AB.map (·.2.2)).take i++[(AB.getD i lM).2.2]:=by rw[aP bS [],Fq]
      obtain⟨P,hPe⟩:=cM (AB.getD i lM);rw[<-hPe]at zX mD qb;have hlP:=arn P mD;have hbP:aJ B w0 (OB.map fk++K2) 1 (de P) (E P.2.2) (bv P.2.2):=(hcP P mD).mono (fN _ _);have auA:aJ B w0 (OB.map fk++K2) 1 (.slice Ac (E AB) cc) (E AB) (AB.map de):=hcb.mono (fN _ _);refine dg ?_;refine ab (al ae rfl auA.cons aa zX) rfl (dw ?_);refine ay rfl (Po (l:=P.2.2) rfl rfl hbP.cons aa) λabp ab8=>cC fO rfl rfl rfl rfl rfl (λ_=>rfl) aU aa aa ?_;intro _ ape ap9;refine cY ?_;have qc:E (OB++[((abp,ab8,P.2.2):kF)])=E OB+1:=by simp
      refine aj ⟨_,aa,i+1,ape,ap9,OB++[((abp,ab8,P.2.2):kF)],⟨aa,bS,by rw[iF,hOm,qb];rfl⟩,rfl,a_,.trans (oU (PB:=OB) (F:=K2) (e:=((abp,ab8,P.2.2):kF)) [.own 27 1 ape (E OB+1) ap9 (OB.map de++[de ((abp,ab8,P.2.2):kF)])]) (au ao ao (.refl _))⟩
     ·obtain rfl:i=E AB:=by omega
      rw[gv ao]at hOm;refine bK 13 ?_;refine ak (.cons (Mb KG _)) (aX ?_);exact⟨Ao,co,OB,rfl,rfl,by rw[hOm,adi]⟩
 ·exfalso;omega
end
section
theorem na{P:Program}{ops:Array Oper}{Q:Exit->Act->World->Prop}{md:Region.Mode}(ds:List Deferred):∀(fuel:Nat) (li:Array Bool) (a:Act) (w:World),wpAny P md ops Q fuel li a w->
  wpAny P md ops (λe a' w'=>∃a0:Act,a'={a0 with defers:=a0.defers++ds}/\Q e a0 w') fuel li {a with defers:=a.defers++ds} w
 |0,li,a,w,h=>⟨h.1,a,rfl,h.2⟩
 |fuel+1,li,a,w,h=>by
  refine⟨λhr=>⟨a,rfl,h.1 hr⟩,λi hi=>?_⟩;have h:=h.2 i hi;unfold wpOp at h⊢;cases ho:ops[i]? with
  |none=>
   simp only[ho]at h⊢;exact na ds fuel _ a w h
  |some o=>
   simp only[ho]at h⊢;by_cases hw:Region.wanted o (yielded ops a.tmps)=true
   ·rw[av hw]at h;rw[av (show Region.wanted o (yielded ops ({a with defers:=a.defers++ds}:Act).tmps)=true from hw)];rcases h with h|⟨h1,a1,w1,h2⟩
    ·refine .inl ?_;have he:({a with defers:=a.defers++ds}:Act).eval=a.eval:=rfl;unfold Oper.wp at h⊢;rw[he];generalize (execOp a.eval o).run P w=res at*;cases res with
     |ok x w'=>
      cases x<;>simp only[Oper.upon]at h⊢<;>first
       |(rw[put_defers];exact na ds fuel _ _ _ h)
       |(
        refine KV h λe w'' he=>?_;cases e<;>dsimp only at he⊢<;>first
         |(rw[put_defers];exact na ds fuel _ _ _ he)
         |exact⟨_,rfl,he⟩
         |(obtain⟨a1,w1,h2⟩:=he;exact⟨_,w1,a1,rfl,h2⟩))
       |exact Rows.mono h λv w'' he=>by rw[put_defers];exact na ds fuel _ _ _ he
       |(have h2:=na ds fuel _ _ _ h;rw[<-put_defers]at h2;exact h2)
     |halt x w'=>cases x<;>simp only[Oper.upon]at h⊢<;>first|exact⟨_,rfl,h⟩|exact h
    ·exact .inr ⟨h1,_,w1,a1,rfl,h2⟩
   ·rw[aB hw]at h;rw[aB (show¬Region.wanted o (yielded ops ({a with defers:=a.defers++ds}:Act).tmps)=true from hw),put_defers];exact na ds fuel _ _ _ h
def MQ(D:Deferred)(C:Cx)(Q:Exit->Fr->aN->Prop):Exit->Act->World->Prop:=λe a w=>∃fr L,a.defers=[D]/\pn C.N fr {a with defers:=[]}/\SL C.B C.w0 L w/\Q e fr L
def yb(C:Cx)(D:Deferred)(c:Code)(Q:Exit->Fr->aN->Prop)(fr:Fr)(L:aN):Prop:=∀a w,a.defers=[D]->pn C.N fr {a with defers:=[]}->SL C.B C.w0 L w->c.wp C.P (MQ D C Q) a w
def UY(D:Deferred)(C:Cx)(y:Code)(Q:Exit->Fr->aN->Prop):Exit->Fr->aN->Prop
 | .normal,fr,L=>yb C D y Q fr L
 |e,fr,L=>Q e fr L
section
variable{C:Cx}{D:Deferred}{Q:Exit->Fr->aN->Prop}{fr jD:Fr}{L L' S:aN}{x y cd Kc:Code}
theorem alH{e:Exit}{a':Act}{w':World}(h:∃a0:Act,a'={a0 with defers:=a0.defers++[D]}/\lift C Q e a0 w'):MQ D C Q e a' w':=by
 obtain⟨a0,rfl,fr,L,ha,hs,hq⟩:=h;refine⟨fr,L,by simp[ha.defers],?_,hs,hq⟩;have e0:({({a0 with defers:=a0.defers++[D]}:Act)with defers:=[]}:Act)=a0:=by rw[<-ha.defers]
 rw[e0];exact ha
theorem gW{tD:sg}(h:VL C tD.toArray Q tD fr L):yb C D (.region id tD.toArray false) Q fr L:=λa w hd ha hs=>by
 have h1:=lX [D] tD _ w (h {a with defers:=[]} w ha hs);rw[show({({a with defers:=[]}:Act)with defers:=({a with defers:=[]}:Act).defers++[D]}:Act)=a by rw[<-hd];rfl]at h1;exact wC (wp_region_lit h1) λe a w h=>alH h
theorem Gp{l:sg}(hm:C.P.follows .mixedOrders=true)(hS:S.Sublist L)(h:VH C l.toArray S Q l.toArray.size (Array.replicate l.toArray.size false) fr L):yb C D (.region id l.toArray true) Q fr L:=λa w hd ha hs=>by
 have h1:=na [D] _ _ _ _ (wpAny_of_held _ _ _ _ (h {a with defers:=[]} _ ha (hs.drewN 1) ((hs.drewN 1).sub hS)));rw[show({({a with defers:=[]}:Act)with defers:=({a with defers:=[]}:Act).defers++[D]}:Act)=a by rw[<-hd];rfl]at h1;refine wC (wp_region_any hm h1) λe a w ⟨a0,h2,h3⟩=>alH ⟨a0,h2,NoPanic.imp _ _ _ h3⟩
theorem iK(h:yb C D x (UY D C y Q) fr L):yb C D (.seq x y) Q fr L:=λa w hd ha hs=>by
 refine wp_seq (wC (h a w hd ha hs) λe a w ⟨fr,L,hd,ha,hs,hq⟩=>?_);cases e<;>first|exact hq a w hd ha hs|exact⟨fr,L,hd,ha,hs,hq⟩
theorem JS(h:yb C D x (InB id Q) fr L):yb C D (.block id x) Q fr L:=λa w hd ha hs=>by
 refine wp_block (wC (h a w hd ha hs) λe a w ⟨fr,L,hd,ha,hs,hq⟩=>?_);cases e with
 |exit i=>
  unfold Exit.inBlock InB at*;simp only at hq⊢;split
  ·rename_i hi;rw[av hi]at hq;exact⟨fr,L,hd,ha,hs,hq⟩
  ·rename_i hi;rw[aB hi]at hq;exact⟨fr,L,hd,ha,hs,hq⟩
 |_=>exact⟨fr,L,hd,ha,hs,hq⟩
theorem zM(h:Q .normal fr L):yb C D .skip Q fr L:=λa w hd ha hs=>wp_skip ⟨fr,L,hd,ha,hs,h⟩
theorem agU(h:Q (.exit id) fr L):yb C D (.exit id) Q fr L:=λa w hd ha hs=>wp_exit ⟨fr,L,hd,ha,hs,h⟩
theorem DD(h:Q .ret fr L):yb C D .ret Q fr L:=λa w hd ha hs=>wp_ret ⟨fr,L,hd,ha,hs,h⟩
theorem pn.avS{a:Act}(h:pn N fr {a with defers:=[]}){o:Operand}{v:Value}(he:ev fr o=some v):a.eval o=v:=by
 have:=h.tmp he;exact this
theorem aba{tt:Nat}{b:Bool}(hc:look tt fr=some (.bool b))(ht:b=true->yb C D cd Q ((tt,.bool true)::fr) L)(hf:b=false->yb C D Kc Q ((tt,.bool false)::fr) L):yb C D (.cond (.tmp tt) cd Kc) Q fr L:=λa w hd ha hw=>
 wp_cond_split (ha.avS (o:=.tmp tt) hc) (λh=>ht h a w hd (ha.bool hc h) hw) (λh=>hf h a w hd (ha.bool hc h) hw)
theorem qF{tt:Nat}{p:Prop}[Decidable p](hc:look tt fr=some (.bool (decide p)))(ht:p->yb C D cd Q ((tt,.bool true)::fr) L)(hf:¬p->yb C D Kc Q ((tt,.bool false)::fr) L):yb C D (.cond (.tmp tt) cd Kc) Q fr L:=
 aba hc (λh=>ht (E0 h)) (λh=>hf (O7 h))
theorem abb(J:Fr->aN->Nat->Prop)(n0:Nat)(h0:J fr L n0)(round:∀n fr L,J fr L n->yb C D cd (InJ J n Q) fr L):yb C D (.loop cd) Q fr L:=λa w hd ha hw=>by
 refine wp_loop_ghost (λn a w=>∃fr L,J fr L n/\a.defers=[D]/\pn C.N fr {a with defers:=[]}/\SL C.B C.w0 L w) n0 ⟨fr,L,h0,hd,ha,hw⟩ ?_;rintro n a w ⟨fr,L,hJ,hd,ha,hw⟩;refine wC (round n fr L hJ a w hd ha hw) λe a w ⟨fr,L,hd,ha,hs,hq⟩=>?_;cases e with
 |normal=>
  obtain⟨n',k1,k2⟩:=hq;exact⟨n',k1,fr,L,k2,hd,ha,hs⟩
 |_=>exact⟨fr,L,hd,ha,hs,hq⟩
theorem dW(h:yb C D y Q fr L):UY D C y Q .normal fr L:=h
theorem Ut(h:Q (.exit i) fr L):UY D C y Q (.exit i) fr L:=h
theorem aaM(h:Q .ret fr L):UY D C y Q .ret fr L:=h
theorem UE(jD:Fr)(hs:Sub fr jD)(h:yb C D x Q jD L):yb C D x Q fr L:=λa w hd ha hw=>h a w hd (ha.sub hs) hw
theorem agV(hs:L.Perm L')(h:yb C D x Q fr L'):yb C D x Q fr L:=λa w hd ha hw=>h a w hd ha (hw.perm hs)
theorem aoZ(h:Wk L L')(k:yb C D x Q fr L'):yb C D x Q fr L:=λa w hd ha hw=>k a w hd ha (h.sl hw)
theorem akC{size nn:Nat}{xs:cQ}(hb:aJ C.B C.w0 L size (.slice A nn c) nn xs)(h:nn<=c->E xs=nn*size->yb C D x Q fr L):yb C D x Q fr L:=λa w hd ha hw=>by
 obtain⟨A',c',e,h1,h2,_⟩:=hb w hw;injection e with e1 e2 e3;subst e3;exact h h1 h2 a w hd ha hw
def RM(D:Nat)(P:Program)(fn:Func)(R:oV):Exit->Fr->aN->Prop
 | .ret,fr,L=>∃L',L.Perm (.obj D (.deferred (some []))::L')/\zT P fn R .ret fr L'
 |_,_,_=>False
theorem aa'{D:Nat}{fn:Func}{R:oV}{P:Program}{c:Code}(hN:fn.ntmps=N)(h:yb ⟨P,N,B,w0⟩ (mark D) c (RM D P fn R) fr L):VM ⟨P,N,B,w0⟩ D c (FG ⟨P,N,B,w0⟩ fn R) fr L:=λa w hd ha hs=>by
 subst hN;refine wC (h a w hd ha hs) λe a w ⟨fr,L,hd,ha,hs,hq⟩=>?_;cases e<;>first
  |exact hq.elim
  |obtain⟨L',hp,h⟩:=hq
   have Cm:=hs.perm hp;obtain⟨v,L'',h1,h2,h3⟩:=h B w0 _ _ ha Cm.agG;show LeavesInM _ _ _ _ _ _ a.defers _ _;rw[hd];exact⟨ao,.inl ⟨D,_,rfl,run_takeDeferred Cm.head.2,v,h1,v,L'',rfl,h2,h3⟩⟩
end
end
end Go.Proofs.YtaodmbolhoafcaaGreatDoor

/-
  Texts of one proof, joined: part 14. No condition.
-/
import Derived.Test.YtaodmbolhoafcaaGreatDoorZp13
open List renaming length→E
open Go.RowKit Go.Proofs.Tryz
namespace Go.Proofs.YtaodmbolhoafcaaGreatDoor
set_option linter.unusedVariables false
set_option linter.unusedSimpArgs false
set_option maxRecDepth 20000
variable{B:Nat}{w0:World}{F L0:aR}{A A1 A2 Ao:bk}{n c c1 c2 co g gc r k m N n2:Nat}
section
variable{ch:Nat}
theorem aqH{P:Prop}(h:P:=by(repeat (first|exact kI _ (jy (f:=fE) he)|apply List.Mem.tail))):P:=h
theorem Nw{P:Prop}(h:P:=by(rw[Gu])):P:=h
def KR(sz:Nat)(x:al)(i:Nat):al:=(x.drop (i*sz)).take sz
theorem NV(sz p:Nat)(x:al):fI sz p x=(List.range p).map (KR sz x):=by
 rw[<-qf (fI sz p x),du];exact qB λi hi=>yA sz p i x (pj.1 hi)
def gP(sz:Nat)(x:al)(ks:bf):ew:=ks.map λi=>(aH (KR sz x i)).1
def gG(sz:Nat)(x:al)(ks:bf):List Bool:=ks.map λi=>decide ((aH (KR sz x i)).2=0)
theorem agf(k m ch:Nat)(x:al):rdP k m ch x=gP (ch+4) x (List.range (k+m)):=by unfold rdP gP;rw[NV,sW];rfl
theorem Gu(k m ch:Nat)(x:al):Az k m ch x=gG (ch+4) x (List.range (k+m)):=by unfold Az gG;rw[NV,sW];rfl
theorem Uv(a:Nat)(l:List Bool)(b:Bool):dF a (l++[b])=dF a l++(if b=true then [] else [a+E l]):=by
 unfold dF;rw[aX,qM,lT,Fy,jx];congr 1
 ·congr 1;refine List.filter_congr λi hi=>?_;have:=pj.1 hi;simp[ba,zk this]
 ·cases b<;>simp[ba]
theorem afE{q:Ch}{PB:List lu}(h:q.isObj=true):q∈PB.map fE++F↔q∈F:=by
 refine⟨λhq=>?_,om _⟩;rcases dz.1 hq with hq|hq
 ·obtain⟨e,_,rfl⟩:=pC.1 hq;cases h
 ·exact hq
theorem Ey{x:al}(h:(aH x).2=0):E (aH x).1=E x-4:=by
 unfold aH at h⊢;by_cases h1:E x<4
 ·rw[ao h1]at h;simp at h
 ·rw[aw h1]at h⊢;by_cases h2:x.drop (E x-4)=jP (ma 0 (x.take (E x-4)))
  ·rw[ao h2];simp
  ·rw[aw h2]at h;simp at h
theorem bM.later{w1:World}(h:bM B w0)(hb:Below B w0 w1):bM B w1:=aM.later h hb
theorem Cu{m:Nat}:∀PB:List lu,(∀e∈PB,E e.2.2<=m)->E (PB.map (·.2.2)).flatten<=m*E PB
 |[],_=>by simp
 |e::r,h=>by
  have h1:=h e ak;have h2:=Cu r λx hx=>h x oR;simp only[kh,w3,aX,dI,uU,cH];omega
theorem SU(k m:Nat)(good:List Bool):∀i∈cW k good,i∈cW (k+m) good:=λi hi=>by
 unfold cW at hi⊢;have e:k=min k (k+m):=by omega
 rw[e,<-LS]at hi;exact my hi
theorem T9{parts:ew}{good:List Bool}{n:Nat}(hk:1<=k)(ha:∀b∈ey (k+m) parts good,E b=n)(h0:(oX k m parts good).2=0):E (oX k m parts good).1=k+m∧∀b∈(oX k m parts good).1,E b=n:=by
 unfold oX at h0⊢;by_cases h1:¬sG (ey (k+m) parts good)
 ·rw[ao h1]at h0;simp at h0
 ·rw[aw h1]at h0⊢;by_cases h2:E (ey (k+m) parts good)<k
  ·rw[ao h2]at h0;simp at h0
  ·rw[aw h2];have lg:E (cW k good)=k:=by
    unfold ey at h2;rw[dX]at h2;unfold cW at h2⊢;rw[eY]at h2⊢;omega
   obtain⟨d1,d2⟩:=T8 (m:=m) (n:=n) (parts:=parts) (good:=good) aa (λb hb=>by
    obtain⟨i,hi,rfl⟩:=pC.1 hb;exact ha _ (jy (f:=λi=>parts.getD i []) (SU k m good i hi))) lg
   refine⟨by rw[aX,mg,d1],λb hb=>?_⟩;rcases dz.1 hb with hb|hb
   ·exact d2 b hb
   ·exact vk aa d2 b hb
theorem GN{x:al}(hk:1<=k)(hx:E x=(k+m)*(ch+4))(h0:(AA k m ch x).2=0):E (AA k m ch x).1=k+m∧∀b∈(AA k m ch x).1,E b=ch:=by
 refine T9 hk (λb hb=>?_) h0;obtain⟨i,hi,rfl⟩:=pC.1 hb;obtain⟨h1,h2⟩:=pv i hi;rw[Gu]at h1 h2;have hik:i<k+m:=by simpa[gG]using h1
 have hr:=fW (k:=ch+4) hik;rw[agf];simp only[gG,gP,ba,jw,w4 hik,Dg,uX]at h2⊢;rw[Ey pK];unfold KR;rw[eY,iG,hx];omega
def StA(k m ch:Nat)(x out:al)(bad:bf)(at_ g:Nat)(F:aR)(v:Value)(L:aR):Prop:=
 ∃(Ao:bk) (co:Nat) (Ab:bk) (cb:Nat) (akq:al),v=ah (J6 k m ch x)∧
  L=HC g k m ch (.slice Ao (E akq) co) (.slice Ab (E (bad++dF at_ (Az k m ch x))) cb) (at_+(k+m)):: .own 5 1 Ao (E akq) co (bv akq):: .own 3 1 Ab (E (bad++dF at_ (Az k m ch x))) cb (bD (bad++dF at_ (Az k m ch x)))::F∧
  (J6 k m ch x=0->akq=out++((AA k m ch x).1.take k).flatten)
set_option maxHeartbeats 2000000 in
theorem agQ(HT:bM B w0)(h:Hk k m ch){x out:al}{bad:bf}{at_:Nat}(LC:E x=(k+m)*(ch+4))(hxc:E x<=c)(hx:aM B w0 F 1 (.slice A (E x) c) (E x) (bv x))(ug:at_<=100000000)(di:E bad<=100000000)(LA:E out<=100000000):
  aZ B w0 198 [br g,.slice A (E x) c] (HC g k m ch (.slice Ao (E out) co) (.slice A1 (E bad) c1) at_:: .own 5 1 Ao (E out) co (bv out):: .own 3 1 A1 (E bad) c1 (bD bad)::F) (StA k m ch x out bad at_ g F):=by
 obtain⟨k1,km,ch1,ch2⟩:=h;have h:Hk k m ch:=⟨k1,km,ch1,ch2⟩
 have y8:=h.laid;have hN:h_ (ch+4) (E x)=k+m:=by rw[LC];exact Wc aa
 have aev:J6 k m ch x=(if (AA k m ch x).2≠0 then (AA k m ch x).2 else @ite _ (xX k m ch x) (Classical.propDecidable _) 2 0):=rfl;have hsr:AA k m ch x=oX k m (gP (ch+4) x (List.range (k+m))) (gG (ch+4) x (List.range (k+m))):=by unfold AA;rw[agf,Gu]
 refine yU func198 93 rfl rfl rfl [(0,br g),(1,.slice A (E x) c)] ⟨⟨rfl,rfl⟩,⟨rfl,rfl⟩,trivial⟩ ?_;refine rB ?_;refine aF ?_;refine bg λg2=>?_;refine bc ?_;refine l9 ?_;refine rB ?_;refine aF ?_;refine bh λg5=>?_;refine aF ?_;refine l9 ?_;refine rB ?_;refine aF ?_;refine bh λg6=>?_;refine aF ?_;refine l9 ?_;refine MG ?_;refine a_ 27 1 none (a_ 4 1 none (bI ?_));refine ab (bJ rfl rfl (r:=((ch+4:Nat):Int)) ((bq aa aa).trans aa)) rfl (ay rfl (NZ (sz:=ch+4) aa) λgp gq=>aF ?_);refine l9 ?_;refine G9 (N:=h_ (ch+4) (E x)) alY rfl rfl rfl (λi:Fin (h_ (ch+4) (E x))=>HJ A (ch+4) (E x) i.val) (λxs=>xs.map (·.val)=List.range (h_ (ch+4) (E x))) (λ_=>True) [.bG gp 27 [.slice A (E x) c],.bG gq 3 [ah ((ch+4:Nat):Int)]]
  (λw hw=>yD aa aa aa hxc (λe=>aqz) w (hw.all _ (lU _ r_)) (hw.all _ r_))
  (λ(pre:List (Fin (h_ (ch+4) (E x)))) (s:(bk×Nat)×(bk×Nat)×(bk×Nat)×List lu)=>s.2.2.2.map (·.2.2)=gP (ch+4) x (pre.map (·.val))) (λpre s=>.bG gq 3 [ah ((ch+4:Nat):Int)]:: .bG gp 27 [.slice A (E x) c]:: .own 4 1 s.1.1 (E (gG (ch+4) x (pre.map (·.val)))) s.1.2 (tD (gG (ch+4) x (pre.map (·.val)))):: .own 27 1 s.2.1.1 (E s.2.2.2) s.2.1.2 ((s.2.2.2).map dy):: .bG g6 186 [.slice s.1.1 (E (gG (ch+4) x (pre.map (·.val)))) s.1.2]:: .bG g5 52 [.slice s.2.1.1 (E (s.2.2.2)) s.2.1.2]:: .bG g2 278 [br g]::HC g k m ch (.slice Ao (E out) co) (.slice s.2.2.1.1 (E (bad++dF at_ (gG (ch+4) x (pre.map (·.val))))) s.2.2.1.2) (at_+E pre):: .own 5 1 Ao (E out) co (bv out):: .own 3 1 s.2.2.1.1 (E (bad++dF at_ (gG (ch+4) x (pre.map (·.val))))) s.2.2.1.2 (bD (bad++dF at_ (gG (ch+4) x (pre.map (·.val)))))::(s.2.2.2.map fE++F))
  (λpre s q hq=>by simp only[Md hq,Mc hq,afE hq]) (λq hq=>by
   simp only[fj,mV,oU]at hq;rcases hq with rfl|rfl
   ·exact⟨rfl,λpre s=>lU _ r_⟩
   ·exact⟨rfl,λpre s=>r_⟩)
  ((none,0),(none,0),(A1,c1),[]) rfl (.trans ((eu (eu (eu (eu (eu (eu (eu (eu (eu (eu (.refl _)))))))))))) (.cons (.cons (az rfl rfl (az rfl rfl (bw rfl (bw rfl (.cons (bw (by simp[gG,dF]) (.cons (az (by simp[gG,dF]) (by simp[gG,dF]) (.refl _)))))))))))) ?_ ?_
 ·rintro l' pre y ⟨⟨Ag,cg⟩,⟨Ap,cp⟩,⟨Ab,cb⟩,PB⟩ w1 kN mP aeo F';have Ts:E pre<k+m:=Nat.lt_of_lt_of_eq mP hN;have hy:y.val<k+m:=Nat.lt_of_lt_of_eq y.isLt hN;have hyl:=fW (k:=ch+4) hy;have avv:y.val*(ch+4)+(ch+4)<=E x:=jz hyl (Nat.le_of_eq LC.symm);have W_:E (KR (ch+4) x y.val)=ch+4:=by unfold KR;rw[eY,iG];omega
  have hbx:aM B w1 (PB.map fE++(F++F')) 1 (.slice (A.map (·.add (y.val*(ch+4)))) (E (KR (ch+4) x y.val)) (ch+4)) (E (KR (ch+4) x y.val)) (bv (KR (ch+4) x y.val)):=by
   rw[W_];exact((V' hx aa avv).later aeo).mono (.trans (wD F F') (gL _ _))
  have hvX:HJ A (ch+4) (E x) y.val= .slice (A.map (·.add (y.val*(ch+4)))) (E (KR (ch+4) x y.val)) (ch+4):=by
   unfold HJ yc;rw[W_,show min (ch+4) (E x-y.val*(ch+4))=ch+4 by omega]
  have hmp:(pre++[y]).map (·.val)=pre.map (·.val)++[y.val]:=by simp
  have Aj:E (pre++[y])=E pre+1:=by simp
  have RP:gG (ch+4) x (pre.map (·.val)++[y.val])=gG (ch+4) x (pre.map (·.val))++[decide ((aH (KR (ch+4) x y.val)).2=0)]:=by simp[gG]
  have hps:gP (ch+4) x (pre.map (·.val)++[y.val])=gP (ch+4) x (pre.map (·.val))++[(aH (KR (ch+4) x y.val)).1]:=by simp[gP]
  have DC:E (gG (ch+4) x (pre.map (·.val)))=E pre:=by simp[gG]
  have Cz:E PB=E pre:=by have:=dQ List.length kN;simpa[gP]using this
  have RK:bad++dF at_ (gG (ch+4) x (pre.map (·.val))++[decide ((aH (KR (ch+4) x y.val)).2=0)])=C7 (KR (ch+4) x y.val) (at_+E pre) (bad++dF at_ (gG (ch+4) x (pre.map (·.val)))):=by
   rw[Uv,DC];unfold C7;by_cases hz:(aH (KR (ch+4) x y.val)).2=0
   ·rw[ao qG,aw qG,gl]
   ·rw[aw qG,ao hz,bX]
  have auH:E (bad++dF at_ (gG (ch+4) x (pre.map (·.val))))<=100000000+(k+m):=by
   have:=zb (λi=> !(gG (ch+4) x (pre.map (·.val))).getD i false) (List.range (E (gG (ch+4) x (pre.map (·.val)))));rw[uR]at this;rw[aX];unfold dF;rw[dX];omega
  simp only[hmp,Aj,RK,RP,hps,hvX,mX,bX];generalize gG (ch+4) x (pre.map (·.val))=GG at*;obtain⟨BD,hBD⟩:=cK (bad++dF at_ GG);rw[<-hBD]at auH⊢;refine Ha ?_;refine MH ?_;refine nN ag ?_;refine bc ?_;refine be arq rfl (.perm (apf (HT.later aeo) (k:=k) (m:=m) (ch:=ch) (vo:=.slice Ao (E out) co) (bad:=BD) (at_:=at_+E pre) (x:=KR (ch+4) x y.val) (by repeat (first|exact hbx|apply aM.cons)) aa aa aa) ((pu7 (pu8 (fV (fV (fV (fV (fV (fV (fV (fV (.refl _))))))))))))) rfl ?_;rintro _ _ ⟨tQ,Cp,Iy,NR,rfl,cO⟩;obtain rfl:=cO.symm;refine bF ?_;refine ve [5,6,8,9] ?_;refine nq ?_;refine MH ?_;refine nN ag ?_;refine bc ?_;refine dL fQ rfl rfl rfl rfl rfl (λ_=>rfl) aW aa aa ?_;intro _ MP MX;refine bc ?_;refine nq ?_;refine nN ag ?_;refine bc ?_;refine dL UJ rfl rfl rfl rfl rfl (λ_=>rfl) aW aa aa ?_;intro _ A36 c36;refine bc ?_;refine nq ?_;refine⟨((A36,c36),(MP,MX),(Iy,NR),PB++[((tQ,Cp,(aH (KR (ch+4) x y.val)).1):lu)]),by rw[jx,kN];rfl,?_⟩;refine .trans ((ur (ur (ur (ur (ur (ur (ur (gE (sE (gE (eu (.refl _))))))))))))) ?_;exact .cons (.cons (az ak (by simp[tD]) (az ak ak (bw ak (bw ak (.cons (.cons (.cons (.cons (q7 (PB:=PB) (F:=F++F') (e:=((tQ,Cp,(aH (KR (ch+4) x y.val)).1):lu)) []))))))))))
 ·rintro D xs ⟨⟨Ag,cg⟩,⟨Ap,cp⟩,⟨Ab,cb⟩,PB⟩ hS kN;have e:List.range (h_ (ch+4) (E x))=List.range (k+m):=dQ List.range hN;have To:=hS.trans e;have avs:E xs=k+m:=by have:=dQ List.length To;simpa using this
  rw[To]at kN;have Cz:E PB=k+m:=by have:=dQ List.length kN;simpa[gP]using this
  simp only[To,avs];have hGl:E (gG (ch+4) x (List.range (k+m)))=k+m:=by simp[gG]
  have Jy:∀i,i<k+m->(gG (ch+4) x (List.range (k+m))).getD i false=true->E (PB.getD i jl).2.2=ch:=λi hi hg=>by
   have hr:=fW (k:=ch+4) hi;rw[<-Gc,kN];simp only[gG,gP,ba,jw,w4 hi,Dg,uX]at hg⊢;rw[Ey (by simpa using hg)];unfold KR;rw[eY,iG,LC];omega
  have uJ:bad++dF at_ (gG (ch+4) x (List.range (k+m)))=bad++dF at_ (Az k m ch x):=by rw[Gu]
  refine ab7 rfl ?_;refine jn ?_;refine Rq (S:=.obj D (.deferred (some [])):: .bG gq 3 [ah ((ch+4:Nat):Int)]:: .bG gp 27 [.slice A (E x) c]:: .own 4 1 Ag (E (gG (ch+4) x (List.range (k+m)))) cg (tD (gG (ch+4) x (List.range (k+m)))):: .own 27 1 Ap (E PB) cp ((PB).map dy):: .bG g6 186 [.slice Ag (E (gG (ch+4) x (List.range (k+m)))) cg]:: .bG g5 52 [.slice Ap (E (PB)) cp]:: .bG g2 278 [br g]::HC g k m ch (.slice Ao (E out) co) (.slice Ab (E (bad++dF at_ (gG (ch+4) x (List.range (k+m))))) cb) (at_+(k+m)):: .own 5 1 Ao (E out) co (bv out):: .own 3 1 Ab (E (bad++dF at_ (gG (ch+4) x (List.range (k+m))))) cb (bD (bad++dF at_ (gG (ch+4) x (List.range (k+m)))))::(PB.map fE++F)) ag gD ?_;refine ae 0 ?_;refine ae 1 ?_;refine ae 2 ?_;refine ae 3 ?_;refine ae 4 ?_;refine ae 5 ?_;refine ae 6 ?_;refine ae 7 ?_;refine ae 8 ?_;refine ae 9 ?_;refine ae 10 ?_;refine ae 11 ?_;refine aA 12 (gN rfl .no ars rfl (ags (PB:=PB) (good:=gG (ch+4) x (List.range (k+m))) (nn:=ch) k1 km Cz hGl aa Jy aB (λe he=>aM.own aqH) aB) rfl (by rintro _ _ ⟨C1,Hp,FB,rfl,rfl,tG⟩;exact gD) ?_);rintro _ _ ⟨C1,Hp,FB,rfl,cO,tG⟩;obtain rfl:=cO.symm;refine ae 13 ?_;refine ae 14 ?_;refine ae 15 ?_;refine ae 16 ?_;refine ae 17 ?_;refine cP [2,5,6,10,11] ?_;refine dM ?_;refine jn ?_;refine jn ?_;rw[kN,<-hsr]at tG⊢;refine gQ ?_;refine bE ?_;refine dM ?_;refine vA rfl (λh54=>?_) (λh54=>?_)
  ·refine jn ?_;refine gQ ?_;refine bE ?_;refine dM ?_;refine zW ?_;refine B5 ?_;refine⟨_,(List.perm_middle.cons _).trans (.swap ..),?_⟩;refine aq (.skip ((dB _ _).trans (.s7 (.cons (.cons (.cons (dB _ _))))))) ?_;have eE:J6 k m ch x=(AA k m ch x).2:=by rw[aev,ao h54]
   refine aF ?_;exact⟨Ao,co,Ab,cb,out,by rw[eE],Nw,λk=>absurd (eE.symm.trans k) h54⟩
  ·have e0:(AA k m ch x).2=0:=bA h54;obtain⟨lK,j_⟩:=GN k1 LC e0;have S7:E FB=k+m:=by have:=dQ List.length tG;rw[dX]at this;omega
   have hFe:∀e∈FB,E e.2.2=ch:=λe he=>j_ _ (tG▸jy (f:=λy:lu=>y.2.2) he);refine ahX (oV (_::FB.map fE) [_,_,_,_,_,_,_,_,_,_,_] _) ?_;simp only[mX,mW];have asr:xX k m ch x↔∃i,i<E FB∧(gG (ch+4) x (List.range (k+m))).getD i false=true∧(FB.getD i jl).2.2≠(PB.getD i jl).2.2:=by
    unfold xX;rw[<-tG,Gu,agf,<-kN,dX];simp only[Gc]
   refine zX ?_;refine dM ?_;refine jn ?_;refine jn ?_;refine gQ ?_;refine b7 ?_;refine dM ?_;refine Kp ?_;refine ab9 (λzf zL zm=>∃(i:Nat),(i<=E FB∧∀j,j<i->¬((gG (ch+4) x (List.range (k+m))).getD j false=true∧(FB.getD j jl).2.2≠(PB.getD j jl).2.2))∧E FB-i=zm∧Sub zf [(2,br g2),(5,br g5),(6,br g6),(10,.slice C1 (E FB) Hp),(56,.slice C1 (E FB) Hp),(57,ah (E FB)),(58,ah (i:Int))]∧Wk zL (.obj D (.deferred (some [])):: .bG gq 3 [ah ((ch+4:Nat):Int)]:: .bG gp 27 [.slice A (E x) c]:: .own 4 1 Ag (E (gG (ch+4) x (List.range (k+m)))) cg (tD (gG (ch+4) x (List.range (k+m)))):: .own 27 1 Ap (E PB) cp ((PB).map dy):: .bG g6 186 [.slice Ag (E (gG (ch+4) x (List.range (k+m)))) cg]:: .bG g5 52 [.slice Ap (E (PB)) cp]:: .bG g2 278 [br g]::HC g k m ch (.slice Ao (E out) co) (.slice Ab (E (bad++dF at_ (gG (ch+4) x (List.range (k+m))))) cb) (at_+(k+m)):: .own 5 1 Ao (E out) co (bv out):: .own 3 1 Ab (E (bad++dF at_ (gG (ch+4) x (List.range (k+m))))) cb (bD (bad++dF at_ (gG (ch+4) x (List.range (k+m))))):: .own 27 1 C1 (E FB) Hp (FB.map dy)::(FB.map fE++(PB.map fE++F)))) _ ⟨0,⟨bU _,λj hj=>aa⟩,rfl,bp,.refl _⟩ ?_;rintro _ _ _ ⟨i,⟨hi,Pb⟩,rfl,hs,hp⟩;refine Vo _ hs (apX hp ?_);clear hs hp;refine jn ?_;refine gQ ?_;refine bc ?_;refine dM ?_;refine jn ?_;refine vA rfl (λh59=>?_) (λh59=>?_)
   ·have hgF:=Ip (PB:=FB) (i:=i) aa;have hgP:=Ip (PB:=PB) (i:=i) aa;have hmF:=bj (l:=FB) (show i<E FB by omega) jl;have hmP:=bj (l:=PB) (show i<E PB by omega) jl;obtain⟨P,hP⟩:=cK (FB.getD i jl);obtain⟨Q,hQ⟩:=cK (PB.getD i jl);rw[<-hP]at hgF hmF;rw[<-hQ]at hgP hmP;have hlP:=hFe P hmF;refine zX ?_;refine dM ?_;refine jn ?_;refine Kp ?_;refine jn ?_;refine gQ ?_;refine bc ?_;refine ab (au ag rfl aB aa hgF) rfl (bE ?_);refine dM ?_;refine jn ?_;refine gQ ?_;refine bF ?_;refine l7 rfl rfl rfl (λOT=>?_) (λOT=>?_)
    ·refine bK ?_;refine ab (au ag rfl aB aa hgP) rfl (aF ?_);refine ai rfl (adH (l:=P.2.2) (l2:=Q.2.2) rfl rfl rfl rfl (aM.own (by repeat (first|exact kI _ (jy (f:=fE) hmF)|apply List.Mem.tail))) (aM.own (by repeat (first|exact om _ (kI _ (jy (f:=fE) hmP))|apply List.Mem.tail))) aa) (bE ?_);refine ve [2,5,6,10,56,57,58,75] ?_;refine dM ?_;refine vA rfl (λh75=>?_) (λh75=>?_)
     ·have eE:J6 k m ch x=2:=by
       have hu:xX k m ch x:=asr.2 ⟨i,aa,OT,by rw[<-hP,<-hQ];exact h75⟩;rw[aev,aw aa,ao hu]
      refine jn ?_;refine gQ ?_;refine bc ?_;refine dM ?_;refine zW ?_;refine aF ?_;refine B5 ?_;refine bc ?_;refine B5 ?_;refine⟨_,.refl _,?_⟩;refine aq (.s7 (.cons (.cons (.cons (.skip ((dB _ _).trans (dB _ _))))))) (aF ?_);exact⟨Ao,co,Ab,cb,out,by rw[eE],Nw,λk=>absurd (eE.symm.trans k) ax⟩
     ·refine zX ?_;refine aF ?_;refine dM ?_;refine gQ ?_;refine bE ?_;refine av ⟨_,aa,i+1,⟨aa,λj hj=>by
       by_cases e:j=i
       ·subst e;rw[<-hP,<-hQ];rintro⟨u1,u2⟩;first|exact h75 u2|(rw[OT]at u1;cases u1)
       ·exact Pb j aa⟩,rfl,bp,.refl _⟩
    ·refine bI ?_;refine ve [2,5,6,10,56,57,58,75] ?_;refine dM ?_;refine Vn rfl ?_;refine zX ?_;refine aF ?_;refine dM ?_;refine gQ ?_;refine bE ?_;refine av ⟨_,aa,i+1,⟨aa,λj hj=>by
      by_cases e:j=i
      ·subst e;rw[<-hP,<-hQ];rintro⟨u1,u2⟩;first|exact h75 u2|(rw[OT]at u1;cases u1)
      ·exact Pb j aa⟩,rfl,bp,.refl _⟩
   ·have hie:i=E FB:=by omega
    have eE:J6 k m ch x=0:=by
     have hu:¬xX k m ch x:=λhh=>by
      obtain⟨j,hj,u1,u2⟩:=asr.1 hh;exact Pb j aa ⟨u1,u2⟩
     rw[aev,aw aa,aw hu]
    refine alC (A:=C1) (nn:=E FB) (c:=Hp) (size:=1) (xs:=FB.map dy) aB λhcF _=>?_;have Tf:aM B w0 (.obj D (.deferred (some [])):: .bG gq 3 [ah ((ch+4:Nat):Int)]:: .bG gp 27 [.slice A (E x) c]:: .own 4 1 Ag (E (gG (ch+4) x (List.range (k+m)))) cg (tD (gG (ch+4) x (List.range (k+m)))):: .own 27 1 Ap (E PB) cp ((PB).map dy):: .bG g6 186 [.slice Ag (E (gG (ch+4) x (List.range (k+m)))) cg]:: .bG g5 52 [.slice Ap (E (PB)) cp]:: .bG g2 278 [br g]::HC g k m ch (.slice Ao (E out) co) (.slice Ab (E (bad++dF at_ (gG (ch+4) x (List.range (k+m))))) cb) (at_+(k+m)):: .own 5 1 Ao (E out) co (bv out):: .own 3 1 Ab (E (bad++dF at_ (gG (ch+4) x (List.range (k+m))))) cb (bD (bad++dF at_ (gG (ch+4) x (List.range (k+m))))):: .own 27 1 C1 (E FB) Hp (FB.map dy)::(FB.map fE++(PB.map fE++F))) 1 (.slice C1 k Hp) k (Ql (FB.take k)).Dn:=by
     have h1:aM B w0 (.obj D (.deferred (some [])):: .bG gq 3 [ah ((ch+4:Nat):Int)]:: .bG gp 27 [.slice A (E x) c]:: .own 4 1 Ag (E (gG (ch+4) x (List.range (k+m)))) cg (tD (gG (ch+4) x (List.range (k+m)))):: .own 27 1 Ap (E PB) cp ((PB).map dy):: .bG g6 186 [.slice Ag (E (gG (ch+4) x (List.range (k+m)))) cg]:: .bG g5 52 [.slice Ap (E (PB)) cp]:: .bG g2 278 [br g]::HC g k m ch (.slice Ao (E out) co) (.slice Ab (E (bad++dF at_ (gG (ch+4) x (List.range (k+m))))) cb) (at_+(k+m)):: .own 5 1 Ao (E out) co (bv out):: .own 3 1 Ab (E (bad++dF at_ (gG (ch+4) x (List.range (k+m))))) cb (bD (bad++dF at_ (gG (ch+4) x (List.range (k+m))))):: .own 27 1 C1 (E FB) Hp (FB.map dy)::(FB.map fE++(PB.map fE++F))) 1 (.slice C1 (E FB) Hp) (E FB) (FB.map dy):=aB;have h2:=h1.jv (k:=k) aa;rw[cH,<-p_,<-Gl (FB.take k)]at h2;exact h2
    have hcr:∀y∈Ql (FB.take k),aM B w0 (.obj D (.deferred (some [])):: .bG gq 3 [ah ((ch+4:Nat):Int)]:: .bG gp 27 [.slice A (E x) c]:: .own 4 1 Ag (E (gG (ch+4) x (List.range (k+m)))) cg (tD (gG (ch+4) x (List.range (k+m)))):: .own 27 1 Ap (E PB) cp ((PB).map dy):: .bG g6 186 [.slice Ag (E (gG (ch+4) x (List.range (k+m)))) cg]:: .bG g5 52 [.slice Ap (E (PB)) cp]:: .bG g2 278 [br g]::HC g k m ch (.slice Ao (E out) co) (.slice Ab (E (bad++dF at_ (gG (ch+4) x (List.range (k+m))))) cb) (at_+(k+m)):: .own 5 1 Ao (E out) co (bv out):: .own 3 1 Ab (E (bad++dF at_ (gG (ch+4) x (List.range (k+m))))) cb (bD (bad++dF at_ (gG (ch+4) x (List.range (k+m))))):: .own 27 1 C1 (E FB) Hp (FB.map dy)::(FB.map fE++(PB.map fE++F))) 1 y.1 (E y.2) (bv y.2):=λy hy=>by
     obtain⟨e,he,rfl⟩:=pC.1 hy;have he:=my he;exact aM.own aqH
    have hz:(Ql (FB.take k)).all=((AA k m ch x).1.take k).flatten:=by rw[DO,p_,tG]
    have hzl:E ((AA k m ch x).1.take k).flatten<=2000000:=by
     rw[<-hz,DO];have:=Cu (m:=ch) (FB.take k) (λe he=>Nat.le_of_eq (hFe e (my he)));have h3:E (FB.take k)=k:=by rw[eY];omega
     rw[h3]at this;have h4:ch*k<=4096*255:=gU ch2 aa;omega
    obtain⟨z,hzz⟩:=cK (((AA k m ch x).1.take k).flatten);rw[<-hzz]at hz hzl;have hoz:E (out++z)=E out+E z:=aX;refine ahW ?_;refine UW ?_;refine bc ?_;refine dM ?_;refine jn ?_;refine Rq (S:=([.bG g2 278 [br g]]:aR)) ag gD ?_;refine ae 0 ?_;refine ae 1 ?_;refine ae 2 ?_;refine ae 3 ?_;refine ae 5 ?_;refine ae 6 ?_;refine ae 7 ?_;refine ae 8 ?_;refine ae 9 ?_;refine ib 4 10 ?_ ?_
    ·refine aF ?_;refine aA 10 (aF ?_);refine aU 11 rfl (bV (i:=k) (size:=1) underlying52 ag rfl rfl rfl aa) (aA 12 (b8 rfl rfl (AR (P:=Ql (FB.take k)) (l:=z) Tf hcr Cm hz aa Cm) λA89 c89=>aA 13 (fi rfl (bW cB rfl aW rfl aB cw aa aa) λA90 c90=>?_)));refine ae 14 ?_;refine ae 15 ?_;refine aA 16 (aF ?_);refine cP [] ?_;refine dM ?_;refine jn ?_;refine gQ ?_;refine bc ?_;refine dM ?_;refine zW ?_;refine⟨_,.swap ..,?_⟩;refine aq (L':=HC g k m ch (.slice A90 (E (out++z)) c90) (.slice Ab (E (bad++dF at_ (gG (ch+4) x (List.range (k+m))))) cb) (at_+(k+m)):: .own 5 1 A90 (E (out++z)) c90 (bv (out++z)):: .own 3 1 Ab (E (bad++dF at_ (gG (ch+4) x (List.range (k+m))))) cb (bD (bad++dF at_ (gG (ch+4) x (List.range (k+m)))))::F) (.s8 (bw (by rw[hoz];rfl) (az (by rw[hoz]) ak (.cons (.skip ((dB _ _).trans (dB _ _))))))) (aF ?_);exact⟨A90,c90,Ab,cb,out++z,by rw[eE],Nw,λ_=>by rw[hzz]⟩
    ·refine aF ?_;refine aU 11 rfl (bV (i:=k) (size:=1) underlying52 ag rfl rfl rfl aa) (ib 4 12 ?_ ?_)
     ·refine aF ?_;refine aA 12 (b8 rfl rfl (AR (P:=Ql (FB.take k)) (l:=z) Tf hcr Cm hz aa Cm) λA89 c89=>aA 13 (fi rfl (bW cB rfl aW rfl aB cw aa aa) λA90 c90=>?_));refine ae 14 ?_;refine ae 15 ?_;refine aA 16 (aF ?_);refine cP [] ?_;refine dM ?_;refine jn ?_;refine gQ ?_;refine bc ?_;refine dM ?_;refine zW ?_;refine⟨_,.swap ..,?_⟩;refine aq (L':=HC g k m ch (.slice A90 (E (out++z)) c90) (.slice Ab (E (bad++dF at_ (gG (ch+4) x (List.range (k+m))))) cb) (at_+(k+m)):: .own 5 1 A90 (E (out++z)) c90 (bv (out++z)):: .own 3 1 Ab (E (bad++dF at_ (gG (ch+4) x (List.range (k+m))))) cb (bD (bad++dF at_ (gG (ch+4) x (List.range (k+m)))))::F) (.s8 (bw (by rw[hoz];rfl) (az (by rw[hoz]) ak (.cons (.skip ((dB _ _).trans (dB _ _))))))) (aF ?_);exact⟨A90,c90,Ab,cb,out++z,by rw[eE],Nw,λ_=>by rw[hzz]⟩
     ·refine b8 rfl rfl (AR (P:=Ql (FB.take k)) (l:=z) Tf hcr Cm hz aa Cm) λA89 c89=>aA 4 (aF ?_);refine aA 13 (fi rfl (bW cB rfl aW rfl aB cw aa aa) λA90 c90=>?_);refine ae 14 ?_;refine ae 15 ?_;refine aA 16 (aF ?_);refine cP [] ?_;refine dM ?_;refine jn ?_;refine gQ ?_;refine bc ?_;refine dM ?_;refine zW ?_;refine⟨_,.swap ..,?_⟩;refine aq (L':=HC g k m ch (.slice A90 (E (out++z)) c90) (.slice Ab (E (bad++dF at_ (gG (ch+4) x (List.range (k+m))))) cb) (at_+(k+m)):: .own 5 1 A90 (E (out++z)) c90 (bv (out++z)):: .own 3 1 Ab (E (bad++dF at_ (gG (ch+4) x (List.range (k+m))))) cb (bD (bad++dF at_ (gG (ch+4) x (List.range (k+m)))))::F) (.s8 (bw (by rw[hoz];rfl) (az (by rw[hoz]) ak (.cons (.skip ((dB _ _).trans (dB _ _))))))) (aF ?_);exact⟨A90,c90,Ab,cb,out++z,by rw[eE],Nw,λ_=>by rw[hzz]⟩
end
section
variable{ch:Nat}
theorem Qr{f:Nat}{s out:al}{bad:bf}{a:Nat}(h:J6 k m ch (s.take ((k+m)*(ch+4)))≠0):rv k m ch (f+1) s out bad a=([],[],J6 k m ch (s.take ((k+m)*(ch+4)))):=by rw[rv,ao h]
theorem X6{f:Nat}{s out:al}{bad:bf}{a:Nat}(h:J6 k m ch (s.take ((k+m)*(ch+4)))=0):rv k m ch (f+1) s out bad a=rv k m ch f (s.drop ((k+m)*(ch+4))) (out++((AA k m ch (s.take ((k+m)*(ch+4)))).1.take k).flatten) (bad++dF a (Az k m ch (s.take ((k+m)*(ch+4))))) (a+(k+m)):=by
 rw[rv,aw aa]
theorem Qo(a:Nat)(G:List Bool):E (dF a G)<=E G:=by
 have:=zb (λi=> !G.getD i false) (List.range (E G));rw[uR]at this;unfold dF;rw[dX];exact this
theorem amD{x:al}(h:J6 k m ch x=0):(AA k m ch x).2=0:=by
 have aev:J6 k m ch x=(if (AA k m ch x).2≠0 then (AA k m ch x).2 else @ite _ (xX k m ch x) (Classical.propDecidable _) 2 0):=rfl;by_cases h1:(AA k m ch x).2≠0
 ·rw[aev,ao h1]at h;exact h
 ·exact bA h1
theorem Bc{c:Nat}:∀l:ew,(∀b∈l,E b=c)->E l.flatten=E l*c
 |[],_=>by simp
 |b::l,h=>by
  rw[w3,aX,Bc l (λx hx=>h x oR),h b ak,dI,kX];omega
set_option maxHeartbeats 1000000 in
theorem akW(HT:bM B w0)(h:Hk k m ch){s:al}(hn:n<=4611686018427387904)(hb:fo B w0 F A c s):
  aZ B w0 130 [ah (k:Int),ah (m:Int),ah (ch:Int),ah (n:Int),.slice A (E s) c] F (λv L=>∃A1 c1 A2 c2,v= .tuple #[.slice A1 (E (jW k m ch n s).1) c1,.slice A2 (E (jW k m ch n s).2.1) c2,ah (jW k m ch n s).2.2]∧L= .own 5 1 A1 (E (jW k m ch n s).1) c1 (bv (jW k m ch n s).1):: .own 3 1 A2 (E (jW k m ch n s).2.1) c2 (bD (jW k m ch n s).2.1)::F):=by
 obtain⟨k1,km,ch1,ch2⟩:=h;have h:Hk k m ch:=⟨k1,km,ch1,ch2⟩
 have Xe:=h.kc;have y8:=h.laid;refine dU.yw hb λnZ _=>?_;refine fw func130 94 [0,1,2,3,4] ?_;refine cY ?_;refine ai rfl (Yl h aa) (jG ?_);refine aj (λkG=>?_) λkG=>?_
 ·have e:jW k m ch n s=([],[],yi k m ch n):=by unfold jW;rw[ao kG]
  refine bB ?_;refine ve [10,11,12] ?_;refine b7 ?_;refine aC 3 1 none (aC 5 1 none (aF ?_));rw[e];exact⟨none,0,none,0,rfl,rfl⟩
 ·have e0:yi k m ch n=0:=bA kG;rw[ao e0];have uK:n<=8388608:=by
   refine bA λhh=>?_;unfold yi at e0;rw[ao aa]at e0;exact absurd e0 ax
  have aeQ:iW k m ch n<=16777216:=by
   refine bA λhh=>?_;unfold yi at e0;rw[aw aa,ao aa]at e0;exact absurd e0 ax
  refine bI ?_;refine ve [0,1,2,3,4,13,31] ?_;refine aF ?_;refine aj (λC_=>?_) λC_=>?_
  ·have e:jW k m ch n s=([],[],1):=by unfold jW;rw[aw kG,ao aa]
   refine bz ?_;refine aC 3 1 none (aC 5 1 none (aF ?_));rw[e];exact⟨none,0,none,0,rfl,rfl⟩
  ·refine bO ?_;refine aj (λz'=>?_) λz'=>?_
   ·have e:jW k m ch n s=([],[],2):=by unfold jW;rw[aw kG,aw aa,ao aa]
    refine bz ?_;refine aC 3 1 none (aC 5 1 none (aF ?_));rw[e];exact⟨none,0,none,0,rfl,rfl⟩
   ·have hse:E s=iW k m ch n:=by omega
    have e:jW k m ch n s=if (ow k m ch n s).2.2≠0 then ([],[],(ow k m ch n s).2.2) else if∃x∈(ow k m ch n s).1.drop n,x≠0 then ([],[],2) else ((ow k m ch n s).1.take n,(ow k m ch n s).2.1,0):=by
     unfold jW;rw[aw kG,aw aa,aw aa]
    have xx:=DT (k:=k) (ch:=ch) (n:=n) aa;have hrA:ow k m ch n s=rv k m ch (lM k ch n) s [] [] 0:=rfl;unfold iW at aeQ hse;obtain⟨S,hS⟩:=cK (lM k ch n);obtain⟨D,hD⟩:=cK (k*ch);obtain⟨Ld,W6⟩:=cK ((k+m)*(ch+4));have hDL:D<=Ld:=by rw[hD,W6];exact gU aa aa
    have hKL:k+m<=Ld:=by rw[W6];exact ae7 _ aa
    rw[<-hS]at aeQ hse xx hrA;rw[<-W6]at aeQ hse y8;rw[<-hD]at Xe xx;refine b7 ?_;refine a_ 3 1 none (a_ 5 1 none (b7 ?_));refine ab (eZ [(0,_),(1,_),(2,_)] [_,_,_] rfl rfl ag) rfl (ab (bx [(0,_)] [ah 0,ah 0,ah 0,.slice none 0 0,.slice none 0 0,ah 0] [0] [_,_,_,_,_,_] rfl rfl ag) rfl (bg λWW=>?_));refine bF ?_;refine aD (λzf zL zm=>∃(j:Nat) (R:al) (Ar:bk) (cr:Nat) (out:al) (Ao:bk) (co:Nat) (bad:bf) (Ab:bk) (cb:Nat),(j<=S∧E R=(S-j)*Ld∧E R<=cr∧aM B w0 F 1 (.slice Ar (E R) cr) (E R) (bv R)∧E out=j*D∧E bad<=j*(k+m)∧rv k m ch (S-j) R out bad (j*(k+m))=ow k m ch n s)∧S-j=zm∧Sub zf [(3,ah (n:Int)),(4,.slice Ar (E R) cr),(15,br WW)]∧Wk zL (HC WW k m ch (.slice Ao (E out) co) (.slice Ab (E bad) cb) (j*(k+m)):: .own 5 1 Ao (E out) co (bv out):: .own 3 1 Ab (E bad) cb (bD bad)::F)) _ ⟨0,s,A,c,[],none,0,[],none,0,⟨bU _,by rw[TL];exact hse,nZ,hb,ak,ak,by rw[TL,qC];exact hrA.symm⟩,rfl,bp,bw ak (.refl _)⟩ ?_;rintro _ _ _ ⟨j,R,Ar,cr,out,Ao,co,bad,Ab,cb,⟨hj,W8,hRc,W7,LA,di,aeL⟩,rfl,hs,hp⟩;refine aT hs hp ?_;clear hs hp;refine bK ?_;refine aj (λRH=>?_) λRH=>?_
    ·have hjS:j<S:=by
      refine bA λhh=>?_;have:S-j=0:=by omega
      rw[this,qC]at W8;omega
     have hSj:S-j=(S-(j+1))+1:=by omega
     rw[hSj,kX]at W8;rw[hSj]at aeL;have hLj:(j+1)*Ld<=S*Ld:=ph _ hjS;have hDj:(j+1)*D<=(j+1)*Ld:=ze _ hDL;have hKj:(j+1)*(k+m)<=(j+1)*Ld:=ze _ hKL;rw[kX]at hLj hDj hKj;rw[kX]at hKj hDj;obtain⟨X,hX⟩:=cK (R.take Ld);have W_:E X=Ld:=by rw[hX,eY];omega
     have hXb:aM B w0 F 1 (.slice Ar (E X) cr) (E X) (bv X):=by
      have:=W7.jv (k:=Ld) aa;rw[cH,kD,<-hX]at this;rw[W_];exact this
     have hXk:E X=(k+m)*(ch+4):=by rw[W_,W6]
     refine de ?_;refine ab (bP 3 ag rfl aW [ah (k:Int),ah (m:Int),ah (ch:Int)] rfl rfl) rfl ?_;refine ai rfl (Ms h) (ab (bV (i:=(k+m)*(ch+4)) (size:=1) underlying27 ag rfl rfl rfl aa) rfl ?_);rw[<-hXk];refine be ard rfl (agQ HT h hXk aa hXb aa aa aa) rfl ?_;rintro _ _ ⟨Ao2,co2,Ab2,cb2,as1,rfl,cO,ajH⟩;obtain rfl:=cO.symm;refine bO ?_;refine aj (λh60=>?_) λh60=>?_
     ·have hE2:ow k m ch n s=([],[],J6 k m ch X):=by rw[<-aeL,Qr (by rw[<-W6,<-hX];exact h60),<-W6,<-hX]
      rw[hE2,ao h60]at e;refine bB ?_;refine ve [10,11,12] ?_;refine bI ?_;refine aC 3 1 none (aC 5 1 none (aq (.cons (.cons (.s3 (.refl _)))) (aF ?_)));rw[e];exact⟨none,0,none,0,rfl,rfl⟩
     ·have hz:J6 k m ch X=0:=bA h60;have hE2:=X6 (k:=k) (m:=m) (ch:=ch) (f:=S-(j+1)) (s:=R) (out:=out) (bad:=bad) (a:=j*(k+m)) (by rw[<-W6,<-hX];exact hz);rw[<-W6,<-hX,<-ajH hz]at hE2;obtain⟨lK,j_⟩:=GN k1 hXk (amD hz);have avb:E as1=(j+1)*D:=by
       rw[ajH hz,aX,Bc (c:=ch) _ (λb hb=>j_ b (my hb)),eY,lK,kX,hD,<-hD,LA,xH aa,<-hD]
      have H8:E (bad++dF (j*(k+m)) (Az k m ch X))<=(j+1)*(k+m):=by
       have:=Qo (j*(k+m)) (Az k m ch X);have h2:E (Az k m ch X)=k+m:=by rw[Gu];simp[gG]
       rw[aX,kX];omega
      refine bI ?_;refine ab (bP 3 ag rfl aW [ah (k:Int),ah (m:Int),ah (ch:Int)] rfl rfl) rfl ?_;refine ai rfl (Ms h) (ab (bY (i:=(k+m)*(ch+4)) (size:=1) underlying27 ag rfl rfl rfl aa) rfl (aF ?_));refine ve [3,4,15] ?_;refine aF ?_;have Ah:E (R.drop Ld)=(S-(j+1))*Ld:=by rw[iG];omega
      have hcut:=W7.cut (k:=Ld) aa;rw[cH,jR]at hcut;have aei:E R-Ld=E (R.drop Ld):=by rw[iG]
      rw[aei]at hcut;rw[<-W6,aei,cH Ld];have hjk:j*(k+m)+(k+m)=(j+1)*(k+m):=by rw[kX]
      rw[hjk];refine av ⟨_,aa,j+1,R.drop Ld,_,_,as1,Ao2,co2,bad++dF (j*(k+m)) (Az k m ch X),Ab2,cb2,(by exact⟨hjS,Ah,aa,hcut,avb,H8,by rw[<-aeL,hE2,hjk]⟩),rfl,bp,.refl _⟩
    ·have hjS:j=S:=by
      refine bA λhh=>?_;have:1*Ld<=(S-j)*Ld:=ph _ aa;omega
     subst hjS;rw[oj,rv]at aeL;rw[<-aeL,aw ak]at e;have hKj:j*(k+m)<=j*Ld:=ze _ hKL;have hDj:j*D<=j*Ld:=ze _ hDL;have hdl:E (out.drop n)=E out-n:=iG;have hcut:aM B w0 (HC WW k m ch (.slice Ao (E out) co) (.slice Ab (E bad) cb) (j*(k+m)):: .own 5 1 Ao (E out) co (bv out):: .own 3 1 Ab (E bad) cb (bD bad)::F) 1 (.slice (if co=n then Ao else Ao.map (·.add (n*1))) (E out-n) (co-n)) (E out-n) (bv (out.drop n)):=by
      have:=(aM.own (B:=B) (w0:=w0) (L:=HC WW k m ch (.slice Ao (E out) co) (.slice Ab (E bad) cb) (j*(k+m)):: .own 5 1 Ao (E out) co (bv out):: .own 3 1 Ab (E bad) cb (bD bad)::F) (.tail _ (.head _))).cut (k:=n) aa;rw[jR,cH]at this;rw[cH];exact this
     refine cY ?_;refine ab (bY (i:=n) (size:=1) underlying27 ag rfl rfl rfl aa) rfl (bF ?_);refine aD (λzf zL zm=>∃(q:Nat),(q<=E out-n∧∀p,p<q->(out.drop n).getD p 0=0)∧E out-n-q=zm∧Sub zf [(3,ah (n:Int)),(15,br WW),(74,.slice (if co=n then Ao else Ao.map (·.add (n*1))) (E out-n) (co-n)),(75,ah ((E out-n:Nat):Int)),(76,ah (q:Int))]∧Wk zL (HC WW k m ch (.slice Ao (E out) co) (.slice Ab (E bad) cb) (j*(k+m)):: .own 5 1 Ao (E out) co (bv out):: .own 3 1 Ab (E bad) cb (bD bad)::F)) _ ⟨0,⟨bU _,λp hp=>aa⟩,rfl,bp,.refl _⟩ ?_;rintro _ _ _ ⟨q,⟨hq,hz0⟩,rfl,hs,hp⟩;refine aT hs hp ?_;clear hs hp;refine bB ?_;refine aj (λh77=>?_) λh77=>?_
     ·obtain⟨u,hu⟩:=cK ((out.drop n).getD q 0);refine bB ?_;refine ab (aE (i:=q) (size:=1) underlying27 ag rfl rfl rfl aa hcut) rfl (ab (iR ag rfl hcut aa) rfl ?_);rw[<-hu];refine bO ?_;refine aj (λh81=>?_) λh81=>?_
      ·have hex:∃x∈out.drop n,x≠0:=⟨u,hu▸bj aa 0,λk=>h81 (by rw[k];rfl)⟩
       rw[ao hex]at e;refine cY ?_;refine aC 3 1 none (aC 5 1 none (aq (.cons (.cons (.s3 (.refl _)))) (aF ?_)));rw[e];exact⟨none,0,none,0,rfl,rfl⟩
      ·refine bI ?_;refine av ⟨_,aa,q+1,⟨aa,λp hp=>by
        by_cases e:p=q
        ·subst e;rw[<-hu];exact oP (by show u.toNat=0;omega)
        ·exact hz0 p aa⟩,rfl,bp,.refl _⟩
     ·have hex:¬∃x∈out.drop n,x≠0:=λ⟨x,hx,Xk⟩=>by
       obtain⟨p,hp,rfl⟩:=ke hx;have:=hz0 p aa;rw[ba,fc hp]at this;exact Xk this
      rw[aw hex]at e;have De:E (out.take n)=n:=by rw[eY];omega
      have aeD:aM B w0 (HC WW k m ch (.slice Ao (E out) co) (.slice Ab (E bad) cb) (j*(k+m)):: .own 5 1 Ao (E out) co (bv out):: .own 3 1 Ab (E bad) cb (bD bad)::F) 1 (.slice Ao n co) n (bv (out.take n)):=by
       have:=(aM.own (B:=B) (w0:=w0) (L:=HC WW k m ch (.slice Ao (E out) co) (.slice Ab (E bad) cb) (j*(k+m)):: .own 5 1 Ao (E out) co (bv out):: .own 3 1 Ab (E bad) cb (bD bad)::F) (.tail _ (.head _))).jv (k:=n) aa;rw[kD,cH]at this;exact this
      refine MF (A:=Ao) (nn:=E out) (c:=co) (size:=1) (xs:=bv out) (aM.own (.tail _ (.head _))) λhcF _=>?_;refine bB ?_;refine cE (HC WW k m ch (.slice Ao (E out) co) (.slice Ab (E bad) cb) (j*(k+m)):: .own 5 1 Ao (E out) co (bv out):: .own 3 1 Ab (E bad) cb (bD bad)::F) ?_;refine ae 0 ?_;refine ae 1 ?_;refine ae 2 ?_;refine ae 3 ?_;refine ae 4 ?_;refine aU 5 rfl (bV (i:=n) (size:=1) underlying27 ag rfl rfl rfl aa) (ae 7 ?_);refine ae 8 ?_;refine ae 9 ?_;refine ae 10 ?_;refine aA 6 (b8 rfl rfl (vd (l:=out.take n) De.symm rfl aeD aa) λA89 c89=>ae 11 ?_);refine ae 12 ?_;refine ae 13 ?_;refine cP [10,11,12] ?_;refine bc ?_;refine aq (.cons (.s2 (.refl _))) (aF ?_);rw[e];exact⟨A89,c89,Ab,cb,rfl,rfl⟩
end
theorem FI{k m ch:Nat}{b:al}(hk:0<k)(hc:0<ch)(h:(lZ k m ch b).2=0):E (lZ k m ch b).1<=16777216∧E b<=8388608:=by
 unfold lZ at h⊢;by_cases e:yi k m ch (E b)≠0
 ·rw[ao e]at h;exact absurd h e
 ·rw[aw e];have e':yi k m ch (E b)=0:=bA e;unfold yi at e';have hb:E b<=8388608:=bA λq=>by rw[ao aa]at e';exact absurd e' ax
  rw[aw aa]at e';have hs:iW k m ch (E b)<=16777216:=bA λq=>by rw[ao aa]at e';exact absurd e' ax
  refine⟨?_,hb⟩;show(rs k m ch (lM k ch (E b)) (qk k ch b)).length<=_;rw[uZ hk _ _ (ql (Ik hk hc) b)];exact hs
theorem QW(HT:bM B w0){o:aN}{n p:Nat}(ho:ct 3 o=0)(hn:n<4294967296){l:al}(e:n2=E l)(hb:aM B w0 F 1 (.slice A n2 c) n2 (bv l))(hl:E l<=1000000000):
  aZ B w0 67 [br g,.slice A n2 c] (Hb g o n p::F) (Hx (jf o n++(l++jf o n)) (Hb g o n p::F)):=by
 subst e;have h1:=zS o n;refine b_ func67 12 rfl rfl rfl [(0,br g),(1,.slice A (E l) c)] ⟨⟨rfl,rfl⟩,⟨rfl,rfl⟩,trivial⟩ ?_;refine bK ?_;refine ay rfl (Kh HT ho hn) λA6 c6=>bc ?_;refine ay rfl (.perm (Kh HT ho hn) ((mC (fV (.refl _))))) λA9 c9=>cC (aG fQ [_,_,_] rfl rfl cw aa aa) λwJ=>ay rfl (KA (l1:=jf o n) (l2:=l) (l3:=jf o n) aB aB (hb.cons.cons.cons.cons) aB rfl No) λuu ya=>b7 ?_;refine aq ((eu (sE (.s3 (.refl _))))) (aF ?_);exact⟨uu,ya,rfl,rfl⟩
theorem U4{o:aN}{L:List aJ}(h:ct 3 o≠0):sr o L=([],ct 3 o):=by unfold sr;rw[ao h]
theorem ahn{o:aN}{L:List aJ}(h:ct 3 o=0)(h2:(gb o L).2≠0):sr o L=([],(gb o L).2):=by unfold sr;rw[aw aa,ao h2]
theorem aho{o:aN}{L:List aJ}(h:ct 3 o=0)(h2:¬(gb o L).2≠0)(h3:(ej o (dj o L)).2≠0):sr o L=([],(ej o (dj o L)).2):=by unfold sr;rw[aw aa,aw h2,ao h3]
theorem U5{o:aN}{L:List aJ}(h:ct 3 o=0)(h2:¬(gb o L).2≠0)(h3:¬(ej o (dj o L)).2≠0):sr o L=(je o (dj o L),0):=by unfold sr;rw[aw aa,aw h2,aw h3]
theorem ahg{o:aN}{L:List aJ}{v:Value}(h:ct 3 o≠0):aZ B w0 28 [.agg (aN.cells o).toArray,v] F (Nc (sr o L) F):=by
 have e:=U4 (L:=L) h;obtain⟨bl,pl,bu,da,pa,ch⟩:=o;refine b_ func28 45 rfl rfl rfl [(0,.agg #[ah bl,.bool pl,ah bu,ah da,ah pa,ah ch]),(1,v)] ⟨⟨rfl,rfl⟩,⟨rfl,rfl⟩,trivial⟩ ?_;refine bc ?_;refine bg λg2=>?_;refine bK ?_;refine ai rfl (kY 3 (bl,pl,bu,da,pa,ch)) (bO ?_);refine aj (λnj=>?_) λnj=>?_
 ·refine bO ?_;refine aC 5 1 none (aq (.cons (.skip (.refl _))) (aF ?_));rw[e];exact⟨none,0,rfl,rfl⟩
 ·exfalso;exact nj h
theorem NK{o:aN}{L:List aJ}(h2:¬(gb o L).2≠0):(gb o L).1=dj o L∧cV L=0:=by
 unfold gb at h2⊢;by_cases q1:ct 2 (o2 o)≠0
 ·rw[ao q1]at h2;exact absurd q1 h2
 ·by_cases q2:cV L≠0
  ·rw[aw q1,ao q2]at h2;exact absurd q2 h2
  ·rw[aw q1,aw q2];exact⟨rfl,bA q2⟩
theorem Mq{o:aN}(h:ct 3 o=0):Hk o.2.2.2.1.toNat o.2.2.2.2.1.toNat o.2.2.2.2.2.toNat∧0<=o.2.2.2.1∧0<=o.2.2.2.2.1∧0<=o.2.2.2.2.2:=by
 obtain⟨_,m3,_⟩:=(jC h).1;obtain⟨⟨k1,k2⟩,⟨k3,k4⟩,⟨k5,k6⟩⟩:=m3 rfl;exact⟨⟨aa,aa,aa,aa⟩,aa,aa,aa⟩
theorem ahh(HT:bM B w0){o:aN}{L:List aJ}(ho:ct 3 o=0)(hx:∀x∈L,x.1<18446744073709551616)(hb:aM B w0 F 4 (.slice A (E L) c) (E L) (c_ L)):aZ B w0 28 [.agg (aN.cells o).toArray,.slice A (E L) c] F (Nc (sr o L) F):=by
 have hO2:=ahn (L:=L) ho;have hO3:=aho (L:=L) ho;have hO4:=U5 (L:=L) ho;obtain⟨W,hW⟩:=cK (sr o L);rw[<-hW]at hO2 hO3 hO4⊢;obtain⟨Y,hY⟩:=cK (gb o L);have O':=λM (hb:aM B w0 M 4 (.slice A (E L) c) (E L) (c_ L))=>Eg (F:=M) HT (o:=o) hx hb;have hbw:=NK (o:=o) (L:=L);rw[<-hY]at hO2 hO3 hO4 hbw;simp only[<-hY]at O';have OW:=λhc=>IT (o:=o) (L:=L) (jC ho).2 hc hx;obtain⟨tV,p1,p2,p3⟩:=Mq ho;obtain⟨bl,pl,bu,da,pa,ch⟩:=o;obtain⟨d,rfl⟩:=gi (show 0<=da from p1);obtain⟨q,rfl⟩:=gi (show 0<=pa from p2);obtain⟨hc,rfl⟩:=gi (show 0<=ch from p3);have tV:Hk d q hc:=tV;have y8:∀b,ej (bl,pl,bu,(d:Int),(q:Int),(hc:Int)) b=lZ d q hc b:=λ_=>rfl;have hA:∀b,je (bl,pl,bu,(d:Int),(q:Int),(hc:Int)) b=jf (bl,pl,bu,(d:Int),(q:Int),(hc:Int)) (E b)++((lZ d q hc b).1++jf (bl,pl,bu,(d:Int),(q:Int),(hc:Int)) (E b)):=λ_=>rfl;refine b_ func28 45 rfl rfl rfl [(0,.agg #[ah bl,.bool pl,ah bu,ah (d:Int),ah (q:Int),ah (hc:Int)]),(1,.slice A (E L) c)] ⟨⟨rfl,rfl⟩,⟨rfl,rfl⟩,trivial⟩ ?_;refine bc ?_;refine bg λg2=>?_;refine bK ?_;refine ai rfl (kY 3 (bl,pl,bu,(d:Int),(q:Int),(hc:Int))) (bO ?_);refine aj (λnj=>?_) λnj=>?_
 ·exfalso;exact nj ho
 ·refine bB ?_;refine ay rfl (O' _ hb.cons) λtP vH=>ei ?_;refine aj (λrm=>?_) λrm=>?_
  ·refine bF ?_;refine ve [4,5] ?_;refine bE ?_;refine aC 5 1 none (aq (.cons (.s2 (.refl _))) (aF ?_));rw[hO2 rm];exact⟨none,0,rfl,rfl⟩
  ·obtain⟨hB1,hB2⟩:=hbw rm;have OW:=OW hB2;have hO3:=hO3 rm;have hO4:=hO4 rm;rw[<-hB1]at OW hO3 hO4;rw[y8]at hO3 hO4;refine de ?_;refine ay rfl (agI HT tV (b:=Y.1) (aM.own (.head _)) aa) λMP MX=>bF ?_;refine ve [2,7,8,9] ?_;refine bK ?_;refine aj (λz'=>?_) λz'=>?_
   ·refine bO ?_;refine aC 5 1 none (aq (.cons (.s3 (.refl _))) (aF ?_));rw[hO3 z'];exact⟨none,0,rfl,rfl⟩
   ·obtain⟨tT,rR⟩:=FI tV.k1 tV.c1 (bA z');refine bI ?_;refine ab (bx [(0,_),(1,_)] [ah 0,.bool false,ah 0,ah 0,ah 0,ah 0,ah 0,.int .u8 0] [0,6] [_,_,_,_,_,_,_,_] rfl rfl ag) rfl (bg λg42=>?_);refine aF ?_;refine ay rfl (QW HT (p:=0) ho aa (l:=(lZ d q hc Y.1).1) rfl (aM.own (.head _)) aa) λA44 c44=>bF ?_;refine aq ((eu (.s4 (.refl _)))) (aF ?_);rw[hO4 z',hA];exact⟨A44,c44,rfl,rfl⟩
theorem ahi(HT:bM B w0){o:aN}{L:List aJ}(hx:∀x∈L,x.1<18446744073709551616)(hb:aM B w0 F 4 (.slice A (E L) c) (E L) (c_ L)):aZ B w0 28 [.agg (aN.cells o).toArray,.slice A (E L) c] F (Nc (sr o L) F):=by
 by_cases h:ct 3 o=0
 ·exact ahh HT h hx hb
 ·exact ahg h
section
theorem Qu{k m ch:Nat}(hk:1<=k):∀(f:Nat) (s out:al) (bad:bf) (a:Nat),E s=f*((k+m)*(ch+4))->(rv k m ch f s out bad a).2.2=0->
  E (rv k m ch f s out bad a).1=E out+f*(k*ch)∧E (rv k m ch f s out bad a).2.1<=E bad+f*(k+m)
 |0,s,out,bad,a,_,_=>by simp[rv]
 |f+1,s,out,bad,a,hs,h=>by
  rw[kX]at hs;by_cases hz:J6 k m ch (s.take ((k+m)*(ch+4)))=0
  ·rw[X6 hz]at h⊢;have hX:E (s.take ((k+m)*(ch+4)))=(k+m)*(ch+4):=by rw[eY];omega
   obtain⟨h1,h2⟩:=GN hk hX (amD hz);obtain⟨r1,r2⟩:=Qu hk f _ _ _ _ ly h;have e1:E (((AA k m ch (s.take ((k+m)*(ch+4)))).1.take k).flatten)=k*ch:=by
    rw[Bc (c:=ch) _ (λb hb=>h2 b (my hb)),eY,h1,xH aa]
   have e2:E (dF a (Az k m ch (s.take ((k+m)*(ch+4)))))<=k+m:=by
    refine jz (Qo _ _) ?_;rw[Gu];simp[gG]
   rw[aX,e1]at r1;rw[aX]at r2;rw[kX,kX];exact⟨aa,aa⟩
  ·rw[Qr hz]at h;exact absurd h hz
theorem Qv{k m ch n:Nat}{s:al}(hk:1<=k)(hc:1<=ch)(h:(jW k m ch n s).2.2=0):E (jW k m ch n s).1=n∧E (jW k m ch n s).2.1<=16777216∧n<=8388608∧n<=E s:=by
 by_cases q1:yi k m ch n≠0
 ·unfold jW at h;rw[ao q1]at h;exact absurd h q1
 ·have e':yi k m ch n=0:=bA q1;unfold yi at e';have hb:n<=8388608:=bA λq=>by rw[ao aa]at e';exact absurd e' ax
  rw[aw aa]at e';have jg:iW k m ch n<=16777216:=bA λq=>by rw[ao aa]at e';exact absurd e' ax
  by_cases q2:E s<iW k m ch n
  ·unfold jW at h;rw[aw q1,ao q2]at h;exact absurd h ax
  ·by_cases q3:iW k m ch n<E s
   ·unfold jW at h;rw[aw q1,aw q2,ao q3]at h;exact absurd h ax
   ·by_cases q4:(ow k m ch n s).2.2≠0
    ·unfold jW at h;rw[aw q1,aw q2,aw q3,ao q4]at h;exact absurd h q4
    ·by_cases q5:∃x∈(ow k m ch n s).1.drop n,x≠0
     ·unfold jW at h;rw[aw q1,aw q2,aw q3,aw q4,ao q5]at h;exact absurd h ax
     ·have e:jW k m ch n s=((ow k m ch n s).1.take n,(ow k m ch n s).2.1,0):=by
       unfold jW;rw[aw q1,aw q2,aw q3,aw q4,aw q5]
      rw[e];have xx:=DT (k:=k) (ch:=ch) (n:=n) (Ik hk hc);obtain⟨r1,r2⟩:=Qu hk (lM k ch n) s [] [] 0 (by unfold iW at q2 q3;omega) (bA q4);have uk:E (ow k m ch n s).1=lM k ch n*(k*ch):=by rw[show ow k m ch n s=rv k m ch (lM k ch n) s [] [] 0 from rfl,r1];simp
      have wU:E (ow k m ch n s).2.1<=lM k ch n*(k+m):=by
       have:=r2;rw[sY,lV]at this;exact this
      have hm:lM k ch n*(k+m)<=lM k ch n*((k+m)*(ch+4)):=ze _ (ae7 _ aa);unfold iW at jg;have uj:lM k ch n*(k*ch)<=lM k ch n*((k+m)*(ch+4)):=ze _ (gU aa aa);unfold iW at q2 q3;refine⟨?_,?_,hb,aa⟩
      ·show((ow k m ch n s).1.take n).length=n;rw[eY];omega
      ·show(ow k m ch n s).2.1.length<=_;omega
section
variable{b:al}
theorem B6(h:(eh b).2≠0):cI b=(iV,[],0,(eh b).2):=by unfold cI;rw[ao h]
theorem Mz(h:¬(eh b).2≠0)(h2:hE (eh b).1≠0):cI b=(iV,[],0,hE (eh b).1):=by unfold cI;rw[aw h,ao h2]
theorem UX(h:¬(eh b).2≠0)(h2:¬hE (eh b).1≠0)(h3:(Ah b).2.2≠0):cI b=(iV,[],0,(Ah b).2.2):=by unfold cI;rw[aw h,aw h2,ao h3]
theorem UY(h:¬(eh b).2≠0)(h2:¬hE (eh b).1≠0)(h3:¬(Ah b).2.2≠0):cI b=(hO (eh b).1,(Ah b).1,E (Ah b).2.1+yY b,0):=by unfold cI;rw[aw h,aw h2,aw h3]
end
theorem aeg{c:al}(h:hE c=0):ct 3 (hO c)=0:=by
 unfold hE at h;by_cases q:1<(Cz c).toNat
 ·rw[ao q]at h;exact absurd h ax
 ·rw[aw q]at h;exact h
theorem NW{b:al}(h:(eh b).2=0):42<=E b∧E (eh b).1=21:=by
 by_cases q:E b<42
 ·rw[ac3 q]at h;exact absurd h ax
 ·refine⟨aa,?_⟩;by_cases q2:rb (b.take 21)
  ·rw[ac4 q q2];simp;omega
  ·by_cases q3:rb (b.drop (E b-21))
   ·rw[ac5 q q2 q3];simp;omega
   ·rw[ac6 q q2 q3]at h;exact absurd h ax
theorem sq{b:al}(h:(cI b).2.2.2=0):ct 3 (cI b).1=0∧E (cI b).2.1<=8388608∧(cI b).2.2.1<=16777217∧E (cI b).2.1<=E b:=by
 by_cases q1:(eh b).2≠0
 ·rw[B6 q1]at h;exact absurd h q1
 ·by_cases q2:hE (eh b).1≠0
  ·rw[Mz q1 q2]at h;exact absurd h q2
  ·by_cases q3:(Ah b).2.2≠0
   ·rw[UX q1 q2 q3]at h;exact absurd h q3
   ·rw[UY q1 q2 q3];have ho:=aeg (bA q2);obtain⟨⟨s1,s2,s3,s4⟩,_⟩:=Mq ho;obtain⟨r1,r2,r3,r4⟩:=Qv s1 s3 (bA q3);have r4:=jz r4 (show((b.take (E b-21)).drop 21).length<=E b by rw[iG,eY];omega);refine⟨ho,?_,?_,?_⟩
    ·show(Ah b).1.length<=_;unfold Ah;omega
    ·show(Ah b).2.1.length+yY b<=_;have:yY b<=1:=by unfold yY;split<;>omega
     unfold Ah;omega
    ·show(Ah b).1.length<=_;unfold Ah;omega
end
theorem akX(HT:bM B w0){k m ch n:Nat}(h:Hk k m ch){s:al}(e:n2=E s)(hn:n<=4611686018427387904)(hb:aM B w0 F 1 (.slice A n2 c) n2 (bv s)):
  aZ B w0 130 [ah (k:Int),ah (m:Int),ah (ch:Int),ah (n:Int),.slice A n2 c] F (λv L=>∃A1 c1 A2 c2,v= .tuple #[.slice A1 (E (jW k m ch n s).1) c1,.slice A2 (E (jW k m ch n s).2.1) c2,ah (jW k m ch n s).2.2]∧L= .own 5 1 A1 (E (jW k m ch n s).1) c1 (bv (jW k m ch n s).1):: .own 3 1 A2 (E (jW k m ch n s).2.1) c2 (bD (jW k m ch n s).2.1)::F):=by
 subst e;exact akW HT h hn hb
def MdE(e:Int)(F:aR)(r:Value)(L:aR):Prop:=r= .tuple #[.pointer none,.slice none 0 0,ah 0,ah e]∧L=F
def MdK(R:aN×al×Nat×Int)(F:aR)(r:Value)(L:aR):Prop:=∃g A' c' p,r= .tuple #[br g,.slice A' (E R.2.1) c',ah (R.2.2.1:Int),ah 0]∧L= .own 5 1 A' (E R.2.1) c' (bv R.2.1)::Hb g R.1 (E R.2.1) p::F
theorem atr(HT:bM B w0){b:al}(hb:fo B w0 F A c b)(di:E b<=1000000000)(h:(eh b).2≠0):aZ B w0 73 [.slice A (E b) c] F (MdE (cI b).2.2.2 F):=by
 refine fw func73 80 [0] ?_;refine de ?_;refine be Wj rfl (yC HT hb di) rfl ?_;rintro _ _ ⟨Vy,c17,rfl,cO,hcb⟩;obtain rfl:=cO.symm;refine ei ?_;refine aj (λmx=>?_) λmx=>?_
 ·refine cF ?_;rw[B6 h];exact⟨rfl,rfl⟩
 ·exfalso;exact mx h
theorem att(HT:bM B w0){b:al}(hb:fo B w0 F A c b)(di:E b<=1000000000)(h:¬(eh b).2≠0)(h2:hE (eh b).1≠0):aZ B w0 73 [.slice A (E b) c] F (MdE (cI b).2.2.2 F):=by
 obtain⟨ash,auL⟩:=NW (bA h);have uM:=λM Vy c17 (hcb:aM B w0 M 1 (.slice Vy (E (eh b).1) c17) (E (eh b).1) (bv (eh b).1))=>(Q1 (F:=M) rfl aa hcb aa).mono λr L hr=>hr.elim (λq=>q.2) λq=>absurd q.1 h2;refine fw func73 80 [0] ?_;refine de ?_;refine be Wj rfl (yC HT hb di) rfl ?_;rintro _ _ ⟨Vy,c17,rfl,cO,hcb⟩;obtain rfl:=cO.symm;refine ei ?_;refine aj (λmx=>?_) λmx=>?_
 ·exfalso;exact h mx
 ·refine bF ?_;refine ay rfl (uM _ _ _ hcb) λY vY=>bF ?_;refine ve [0,7,8] ?_;refine bK ?_;refine aj (λqu=>?_) λqu=>?_
  ·refine de ?_;refine aq (dB Y F) (aF ?_);rw[Mz h h2];exact⟨rfl,rfl⟩
  ·exfalso;exact qu h2
theorem ale{b:al}(h:42<=E b)(hb:fo B w0 F A c b):aM B w0 F 1 (.slice (if c=21 then A else A.map (·.add (21*1))) (E b-21-21) (c-21)) (E b-21-21) (bv ((b.take (E b-21)).drop 21)):=by
 have h1:=hb.jv (k:=E b-21) aa;rw[kD,cH]at h1;have h2:=h1.cut (k:=21) aa;rw[jR,cH]at h2;rw[cH];exact h2
theorem atu(HT:bM B w0){b:al}(hb:fo B w0 F A c b)(di:E b<=1000000000)(h:¬(eh b).2≠0)(h2:¬hE (eh b).1≠0):aZ B w0 73 [.slice A (E b) c] F (λr L=>((cI b).2.2.2≠0∧MdE (cI b).2.2.2 F r L)∨((cI b).2.2.2=0∧MdK (cI b) F r L)):=by
 obtain⟨ash,auL⟩:=NW (bA h);have uM:=λM Vy c17 (hcb:aM B w0 M 1 (.slice Vy (E (eh b).1) c17) (E (eh b).1) (bv (eh b).1))=>(Q1 (F:=M) rfl aa hcb aa).mono λr L hr=>hr.elim (λq=>absurd q.1 h2) λq=>q.2;have H':=ale ash hb;have Aj:E b-21-21=E ((b.take (E b-21)).drop 21):=by rw[iG,eY];omega
 have hoo:=aeg (bA h2);obtain⟨tV,p1,p2,p3⟩:=Mq hoo;have Da:=asd (eh b).1;have Xh:=Qv (k:=(hO (eh b).1).2.2.2.1.toNat) (m:=(hO (eh b).1).2.2.2.2.1.toNat) (ch:=(hO (eh b).1).2.2.2.2.2.toNat) (n:=hN (eh b).1) (s:=(b.take (E b-21)).drop 21) tV.k1 tV.c1;have hM3:=UX (b:=b) h h2;have hM4:=UY (b:=b) h h2;obtain⟨M,hM⟩:=cK (cI b);have an9:yY b=if b.take 21=b.drop (E b-21) then 0 else 1:=rfl
 have ha:=al_ (A:=A) (c:=c) (B:=B) (w0:=w0) (F:=F) (b:=b) aa hb;have hz:=al' (A:=A) (c:=c) (B:=B) (w0:=w0) (F:=F) (b:=b) aa hb;have l1:E (b.take 21)=21:=by rw[eY];omega
 have l2:E (b.drop (E b-21))=E b-(E b-21):=by rw[iG]
 have S9:Ah b=jW (hO (eh b).1).2.2.2.1.toNat (hO (eh b).1).2.2.2.2.1.toNat (hO (eh b).1).2.2.2.2.2.toNat (hN (eh b).1) ((b.take (E b-21)).drop 21):=rfl;rw[<-S9]at Xh;rw[<-hM]at hM3 hM4⊢;obtain⟨Q,hQ⟩:=cK ((b.take (E b-21)).drop 21);rw[<-hQ]at H' Aj S9;obtain⟨o,ho⟩:=cK (hO (eh b).1);rw[<-ho]at hoo tV p1 p2 p3 hM4 uM S9;obtain⟨bl,pl,bu,da,pa,ch⟩:=o;obtain⟨d,rfl⟩:=gi (show 0<=da from p1);obtain⟨q,rfl⟩:=gi (show 0<=pa from p2);obtain⟨hc,rfl⟩:=gi (show 0<=ch from p3);have tV:Hk d q hc:=tV;have S9:Ah b=jW d q hc (hN (eh b).1) Q:=S9;obtain⟨R,hR⟩:=cK (Ah b);rw[<-hR]at hM3 hM4 S9 Xh;have hsr:=λM (H':aM B w0 M 1 (.slice (if c=21 then A else A.map (·.add (21*1))) (E b-21-21) (c-21)) (E b-21-21) (bv Q))=>akX (F:=M) (n:=hN (eh b).1) HT tV Aj aa H';simp only[<-S9]at hsr;obtain⟨nn,RS⟩:=cK (hN (eh b).1);rw[<-RS]at Da Xh uM hsr;obtain⟨df,hdf⟩:=cK (yY b);rw[<-hdf]at an9 hM4;refine dU.yw hb λnZ _=>?_;refine fw func73 80 [0] ?_;refine de ?_;refine be Wj rfl (yC HT hb di) rfl ?_;rintro _ _ ⟨Vy,c17,rfl,cO,hcb⟩;obtain rfl:=cO.symm;refine ei ?_;refine aj (λmx=>?_) λmx=>?_
 ·exfalso;exact h mx
 ·refine bF ?_;refine be aq6 rfl (uM _ _ _ hcb) rfl ?_;rintro _ _ ⟨g25,rfl,cO⟩;obtain rfl:=cO.symm;refine bF ?_;refine ve [0,7,8] ?_;refine bK ?_;refine aj (λqu=>?_) λqu=>?_
  ·exfalso;exact qu rfl
  ·refine bE ?_;refine cE (Hb g25 (bl,pl,bu,(d:Int),(q:Int),(hc:Int)) nn (Cz (eh b).1).toNat::F) ?_;refine ae 0 ?_;refine ae 1 ?_;refine ae 2 ?_;refine ae 3 ?_;refine ae 4 ?_;refine ae 5 ?_;refine ae 6 ?_;refine ae 7 ?_;refine ae 8 ?_;refine ae 9 ?_;refine ae 10 ?_;refine ae 11 ?_;refine ae 12 ?_;refine ae 13 ?_;refine ae 14 ?_;refine ae 15 ?_;refine ae 16 ?_;refine ae 17 ?_;refine ae 18 ?_;refine ae 19 ?_;refine ae 20 ?_;refine ae 21 ?_;refine aU 22 rfl (dC rfl rfl (r:=((E b-21:Nat):Int)) ((bq aa aa).trans aa)) (aU 23 rfl (eJ (i:=21) (j:=E b-21) (size:=1) underlying27 ag rfl rfl rfl rfl rfl aa aa) (aA 24 (gN rfl .no aq7 rfl (hsr _ H'.cons) rfl (by rintro _ _ ⟨A56,c56,atK,atW,rfl,rfl⟩;exact gD) ?_)));rintro _ _ ⟨A56,c56,atK,atW,rfl,cO⟩;obtain rfl:=cO.symm;refine ae 25 ?_;refine ae 26 ?_;refine ae 27 ?_;refine ae 28 ?_;refine ae 29 ?_;refine ae 30 ?_;refine ae 31 ?_;refine cP [0,7,8,9,10] ?_;refine bK ?_;refine aj (λh61=>?_) λh61=>?_
   ·refine de ?_;refine aq (.s3 (.refl _)) (aF ?_);rw[hM3 h61];exact .inl ⟨h61,rfl,rfl⟩
   ·obtain⟨r1,r2,r3,r4⟩:=Xh (bA h61);have hM4:=hM4 h61;subst r1;refine cY ?_;refine ai rfl (N5 aa nZ aa) (cY ?_);refine ai rfl (adH (l:=b.take 21) (l2:=b.drop (E b-21)) l1.symm rfl l2.symm rfl ha.cons.cons.cons hz.cons.cons.cons aa) (aF ?_);refine ve [8,9,11,74] ?_;refine aF ?_;refine aj (λh74=>?_) λh74=>?_
    ·obtain rfl:df=1:=by rw[an9,aw h74]
     refine bc ?_;refine ab (bJ rfl rfl (r:=((E R.2.1+1:Nat):Int)) ((bq aa aa).trans aa)) rfl (jt ?_);refine aq ((eu (gE (.skip (.refl _))))) (aF ?_);rw[hM4];exact .inr ⟨rfl,g25,A56,c56,_,rfl,rfl⟩
    ·obtain rfl:df=0:=by rw[an9,ao (bA h74)]
     refine ei ?_;refine aq ((eu (gE (.skip (.refl _))))) (aF ?_);rw[hM4];exact .inr ⟨rfl,g25,A56,c56,_,rfl,rfl⟩
theorem GY(HT:bM B w0){b:al}(hb:fo B w0 F A c b)(di:E b<=1000000000):aZ B w0 73 [.slice A (E b) c] F (λr L=>((cI b).2.2.2≠0∧MdE (cI b).2.2.2 F r L)∨((cI b).2.2.2=0∧MdK (cI b) F r L)):=by
 by_cases h:(eh b).2≠0
 ·exact(atr HT hb di h).mono λr L hr=>.inl ⟨by rw[B6 h];exact h,hr⟩
 ·by_cases h2:hE (eh b).1≠0
  ·exact(att HT hb di h h2).mono λr L hr=>.inl ⟨by rw[Mz h h2];exact h2,hr⟩
  ·exact atu HT hb di h h2
theorem GZ(HT:bM B w0){b:al}(hb:fo B w0 F A c b)(di:E b<=1000000000)(h:(cI b).2.2.2≠0):aZ B w0 73 [.slice A (E b) c] F (MdE (cI b).2.2.2 F):=
 (GY HT hb di).mono λr L hr=>hr.elim (λq=>q.2) λq=>absurd q.1 h
theorem xU(HT:bM B w0){b:al}(hb:fo B w0 F A c b)(di:E b<=1000000000)(h:(cI b).2.2.2=0):aZ B w0 73 [.slice A (E b) c] F (MdK (cI b) F):=
 (GY HT hb di).mono λr L hr=>hr.elim (λq=>absurd h q.1) λq=>q.2
theorem ald(HT:bM B w0){b:al}(hb:fo B w0 F A c b)(di:E b<=1000000000):aZ B w0 108 [.slice A (E b) c] F (λr L=>r= .bool (decide ((eh b).2=0))∧L=F):=by
 refine fw func108 12 [0] ?_;refine bK ?_;refine be Wj rfl (yC HT hb di) rfl ?_;rintro _ _ ⟨A7,c7,rfl,cO,hcb⟩;obtain rfl:=cO.symm;refine jG ?_;exact⟨rfl,rfl⟩
section
section
variable{b:al}
theorem apI(h:(cI b).2.2.2≠0):zR b=([],0,(cI b).2.2.2):=by unfold zR;rw[ao h]
theorem apJ(h:¬(cI b).2.2.2≠0)(h2:(ej (cI b).1 (cI b).2.1).2≠0):zR b=([],0,(ej (cI b).1 (cI b).2.1).2):=by unfold zR;rw[aw h,ao h2]
theorem apK(h:¬(cI b).2.2.2≠0)(h2:¬(ej (cI b).1 (cI b).2.1).2≠0):zR b=(je (cI b).1 (cI b).2.1,(cI b).2.2.1,0):=by unfold zR;rw[aw h,aw h2]
theorem UZ(h:(cI b).2.2.2≠0):g_ b=(iV,.nil,0,(cI b).2.2.2):=by unfold g_;rw[ao h]
theorem U0(h:¬(cI b).2.2.2≠0)(h2:(eG (cI b).1 (cI b).2.1).2≠0):g_ b=(iV,.nil,0,(eG (cI b).1 (cI b).2.1).2):=by unfold g_;rw[aw h,ao h2]
theorem U3(h:¬(cI b).2.2.2≠0)(h2:¬(eG (cI b).1 (cI b).2.1).2≠0):g_ b=((cI b).1,(eG (cI b).1 (cI b).2.1).1,(cI b).2.2.1,0):=by unfold g_;rw[aw h,aw h2]
theorem ahk(h:(g_ b).2.2.2≠0):jI b=(iV,[],0,0,(g_ b).2.2.2):=by unfold jI;rw[ao h]
theorem ahl(h:¬(g_ b).2.2.2≠0)(h2:(jH (g_ b).2.1).2≠0):jI b=(iV,[],0,0,(jH (g_ b).2.1).2):=by unfold jI;rw[aw h,ao h2]
theorem ahm(h:¬(g_ b).2.2.2≠0)(h2:¬(jH (g_ b).2.1).2≠0):jI b=((g_ b).1,(jH (g_ b).2.1).1,E (g_ b).2.1.ns,(g_ b).2.2.1,0):=by unfold jI;rw[aw h,aw h2]
end
def aib(R:al×Nat×Int)(F:aR)(r:Value)(L:aR):Prop:=∃A' c',r= .tuple #[.slice A' (E R.1) c',ah (R.2.1:Int),ah R.2.2]∧L= .own 5 1 A' (E R.1) c' (bv R.1)::F
theorem atp(HT:bM B w0){b:al}(hb:fo B w0 F A c b)(di:E b<=1000000000)(h:(cI b).2.2.2≠0):aZ B w0 35 [.slice A (E b) c] F (aib (zR b) F):=by
 refine fw func35 47 [0] ?_;refine bz ?_;refine ai rfl (GZ HT hb di h) (sR ?_);refine aj (λiC=>?_) λiC=>?_
 ·refine bB ?_;refine ve [2,3,4] ?_;refine bE ?_;refine aC 5 1 none (aF ?_);rw[apI h];exact⟨none,0,rfl,rfl⟩
 ·exfalso;exact iC h
theorem atq(HT:bM B w0){b:al}(hb:fo B w0 F A c b)(di:E b<=1000000000)(h:(cI b).2.2.2=0):aZ B w0 35 [.slice A (E b) c] F (aib (zR b) F):=by
 have hD2:=apJ (b:=b) (λq=>q h);have hD3:=apK (b:=b) (λq=>q h);have hmd:=xU HT hb di h;obtain⟨hoo,DC,Js,hg3⟩:=sq h;obtain⟨D,hD⟩:=cK (zR b);rw[<-hD]at hD2 hD3⊢;obtain⟨M,hM⟩:=cK (cI b);rw[<-hM]at hD2 hD3 hmd hoo DC Js;obtain⟨o,x,df,e⟩:=M;simp only at hD2 hD3 hoo DC Js;obtain⟨tV,p1,p2,p3⟩:=Mq hoo;obtain⟨bl,pl,bu,da,pa,ch⟩:=o;obtain⟨d,rfl⟩:=gi (show 0<=da from p1);obtain⟨q,rfl⟩:=gi (show 0<=pa from p2);obtain⟨hc,rfl⟩:=gi (show 0<=ch from p3);have tV:Hk d q hc:=tV;have y8:∀b,ej (bl,pl,bu,(d:Int),(q:Int),(hc:Int)) b=lZ d q hc b:=λ_=>rfl;have hA:∀b,je (bl,pl,bu,(d:Int),(q:Int),(hc:Int)) b=jf (bl,pl,bu,(d:Int),(q:Int),(hc:Int)) (E b)++((lZ d q hc b).1++jf (bl,pl,bu,(d:Int),(q:Int),(hc:Int)) (E b)):=λ_=>rfl;rw[y8]at hD2 hD3;have hmd:aZ B w0 73 [.slice A (E b) c] F (λr L=>∃g A' c' p,r= .tuple #[br g,.slice A' (E x) c',ah (df:Int),ah 0]∧L= .own 5 1 A' (E x) c' (bv x)::Hb g (bl,pl,bu,(d:Int),(q:Int),(hc:Int)) (E x) p::F):=hmd;refine fw func35 47 [0] ?_;refine bz ?_;refine be anz rfl (hmd) rfl ?_;rintro _ _ ⟨Ht,MN,c12,p12,rfl,cO⟩;obtain rfl:=cO.symm;refine sR ?_;refine aj (λiC=>?_) λiC=>?_
 ·exfalso;exact iC rfl
 ·refine bE ?_;refine cE (.own 5 1 MN (E x) c12 (bv x)::Hb Ht (bl,pl,bu,(d:Int),(q:Int),(hc:Int)) (E x) p12::F) ?_;refine ae 0 ?_;refine ae 1 ?_;refine ae 2 ?_;refine ae 3 ?_;refine ae 4 ?_;refine ae 5 ?_;refine ae 6 ?_;refine ae 7 ?_;refine ae 8 ?_;refine ae 9 ?_;refine ae 10 ?_;refine ae 11 ?_;refine ae 12 ?_;refine ae 13 ?_;refine ae 14 ?_;refine ae 15 ?_;refine aA 16 (b8 rfl rfl (agI HT tV (b:=x) (aM.own (.head _)) aa) λA37 c37=>ae 17 ?_);refine ae 18 ?_;refine ae 19 ?_;refine ae 20 ?_;refine ae 21 ?_;refine cP [5,7,8,9] ?_;refine bK ?_;refine aj (λCy=>?_) λCy=>?_
  ·refine bz ?_;refine aC 5 1 none (aq (.cons (.s3 (.refl _))) (aF ?_));rw[hD2 Cy];exact⟨none,0,rfl,rfl⟩
  ·obtain⟨tT,rR⟩:=FI tV.k1 tV.c1 (bA Cy);refine bB ?_;refine ay rfl (.perm (QW HT hoo aa (l:=(lZ d q hc x).1) rfl (aM.own (.head _)) aa) ((BQ (fV (fV (.refl _)))))) λA45 c45=>bI ?_;refine aq ((eu (.s3 (.refl _)))) (aF ?_);rw[hD3 Cy,hA];exact⟨A45,c45,rfl,rfl⟩
theorem QX(HT:bM B w0){b:al}(hb:fo B w0 F A c b)(di:E b<=1000000000):aZ B w0 35 [.slice A (E b) c] F (aib (zR b) F):=by
 by_cases h:(cI b).2.2.2=0
 ·exact atq HT hb di h
 ·exact atp HT hb di h
def atN(o:aN)(x:iF)(df:Nat)(B:Nat)(w0:World)(F:aR)(r:Value)(L:aR):Prop:=∃g N,r= .tuple #[.agg (aN.cells o).toArray,br g,ah (df:Int),ah 0]∧L=N++F∧D0 B w0 N g x
def am6(e:Int)(F:aR)(r:Value)(L:aR):Prop:=r= .tuple #[.agg (aN.cells iV).toArray,.pointer none,ah 0,ah e]∧L=F
theorem ahc(HT:bM B w0){b:al}(hb:fo B w0 F A c b)(di:E b<=1000000000)(RN:E (cI b).2.1<=1000000)(h:(cI b).2.2.2≠0):aZ B w0 58 [.slice A (E b) c] F (am6 (g_ b).2.2.2 F):=by
 have JA:=gw iV;refine fw func58 41 [0] ?_;refine bc ?_;refine bh λg2=>?_;refine bK ?_;refine ai rfl (GZ HT hb.cons aa h) (sR ?_);refine aj (λoI=>?_) λoI=>?_
 ·refine bc ?_;refine ab (cJ [ah 0,.bool false,ah 0,ah 0,ah 0,ah 0] ag) rfl (bF ?_);refine ve [2,3,4,5] ?_;refine bE ?_;refine nS rfl rfl ag aW gV rfl rfl rfl (.skip (.refl _)) ?_;rw[UZ h];exact⟨rfl,rfl⟩
 ·exfalso;exact oI h
theorem ahd(HT:bM B w0){b:al}(hb:fo B w0 F A c b)(di:E b<=1000000000)(RN:E (cI b).2.1<=1000000)(h:(cI b).2.2.2=0)(h2:(eG (cI b).1 (cI b).2.1).2≠0):aZ B w0 58 [.slice A (E b) c] F (am6 (g_ b).2.2.2 F):=by
 have JA:=gw iV;obtain⟨hoo,DC,Js,hg3⟩:=sq h;refine fw func58 41 [0] ?_;refine bc ?_;refine bh λg2=>?_;refine bK ?_;refine be anz rfl (xU HT hb.cons aa h) rfl ?_;rintro _ _ ⟨g13,x9,Hm,p13,rfl,cO⟩;obtain rfl:=cO.symm;refine sR ?_;refine aj (λoI=>?_) λoI=>?_
 ·exfalso;exact oI rfl
 ·refine bI ?_;refine ab (bP 6 ag rfl aW (aN.cells (cI b).1) rfl rfl) rfl (aF ?_);refine ai rfl (V9 HT (b:=(cI b).2.1) rfl (aM.own (.head _)) aa h2) (bF ?_);refine ve [2,6,8,9,10] ?_;refine bK ?_;refine aj (λCw=>?_) λCw=>?_
  ·refine bc ?_;refine ab (cJ [ah 0,.bool false,ah 0,ah 0,ah 0,ah 0] ag) rfl (bO ?_);refine nS rfl rfl ag aW gV rfl rfl rfl (.s3 (.refl _)) ?_;rw[U0 (λq=>q h) h2];exact⟨rfl,rfl⟩
  ·exfalso;exact Cw h2
theorem ahf(HT:bM B w0){b:al}(hb:fo B w0 F A c b)(di:E b<=1000000000)(RN:E (cI b).2.1<=1000000)(h:(g_ b).2.2.2=0):aZ B w0 58 [.slice A (E b) c] F (atN (g_ b).1 (g_ b).2.1 (g_ b).2.2.1 B w0 F):=by
 have hm:(cI b).2.2.2=0:=bA λq=>by rw[UZ q]at h;exact q h
 have h2:(eG (cI b).1 (cI b).2.1).2=0:=bA λq=>by rw[U0 (λq=>q hm) q]at h;exact q h
 have p6:=gw (cI b).1;obtain⟨hoo,DC,Js,hg3⟩:=sq hm;refine fw func58 41 [0] ?_;refine bc ?_;refine bh λg2=>?_;refine bK ?_;refine be anz rfl (xU HT hb.cons aa hm) rfl ?_;rintro _ _ ⟨g13,x9,Hm,p13,rfl,cO⟩;obtain rfl:=cO.symm;refine sR ?_;refine aj (λoI=>?_) λoI=>?_
 ·exfalso;exact oI rfl
 ·refine bI ?_;refine ab (bP 6 ag rfl aW (aN.cells (cI b).1) rfl rfl) rfl (aF ?_);refine be alQ rfl (V_ HT (b:=(cI b).2.1) rfl (aM.own (.head _)) aa h2) rfl ?_;rintro _ _ ⟨gB,N,rfl,cO,hBB⟩;obtain rfl:=cO.symm;refine bF ?_;refine ve [2,6,8,9,10] ?_;refine bE ?_;refine gx JG ?_;rw[mX,mX,mX];refine bF ?_;refine aj (λCw=>?_) λCw=>?_
  ·exfalso;exact Cw rfl
  ·refine bI ?_;refine ab (bP 6 ag rfl aW (aN.cells (cI b).1) rfl rfl) rfl (bO ?_);refine nS rfl rfl ag aW gV rfl rfl rfl (.s3 (.dK JG)) ?_;rw[U3 (λq=>q hm) (λq=>q h2)];exact⟨gB,N,rfl,rfl,hBB⟩
theorem ahe(HT:bM B w0){b:al}(hb:fo B w0 F A c b)(di:E b<=1000000000)(RN:E (cI b).2.1<=1000000)(h:(g_ b).2.2.2≠0):aZ B w0 58 [.slice A (E b) c] F (am6 (g_ b).2.2.2 F):=by
 by_cases q:(cI b).2.2.2=0
 ·exact ahd HT hb di RN q λk=>h (by rw[U3 (λt=>t q) (λt=>t k)])
 ·exact ahc HT hb di RN q
theorem Q0{b:al}(RN:E (cI b).2.1<=1000000)(h:(g_ b).2.2.2=0):tw (g_ b).2.1:=by
 have hm:(cI b).2.2.2=0:=bA λq=>by rw[UZ q]at h;exact q h
 have h2:(eG (cI b).1 (cI b).2.1).2=0:=bA λq=>by rw[U0 (λq=>q hm) q]at h;exact q h
 obtain⟨hoo,DC,Js,hg3⟩:=sq hm;rw[U3 (λq=>q hm) (λq=>q h2)];exact IV aa h2
def am7(R:aN×List aJ×Nat×Nat×Int)(F:aR)(r:Value)(L:aR):Prop:=∃A' c',r= .tuple #[.agg (aN.cells R.1).toArray,.slice A' (E R.2.1) c',ah (R.2.2.1:Int),ah (R.2.2.2.1:Int),ah R.2.2.2.2]∧L= .own 62 4 A' (E R.2.1) c' (c_ R.2.1)::F
theorem U8(HT:bM B w0){b:al}(hb:fo B w0 F A c b)(di:E b<=1000000000)(RN:E (cI b).2.1<=1000000)(h:(g_ b).2.2.2≠0):aZ B w0 70 [.slice A (E b) c] F (am7 (jI b) F):=by
 have JA:=gw iV;refine fw func70 38 [0] ?_;refine bc ?_;refine bh λg2=>?_;refine bO ?_;refine ai rfl (ahe HT hb.cons di RN h) (bF ?_);refine bh λg7=>?_;refine cY ?_;refine aj (λju=>?_) λju=>?_
 ·refine bc ?_;refine ab (cJ [ah 0,.bool false,ah 0,ah 0,ah 0,ah 0] ag) rfl (bB ?_);refine ve [2,3,4,5,6] ?_;refine bE ?_;refine aC 62 4 none (Mk rfl rfl ag aW gV rfl rfl rfl rfl (.cons (.s2 (.refl _))) ?_);rw[ahk h];exact⟨none,0,rfl,rfl⟩
 ·exfalso;exact ju h
theorem U9(HT:bM B w0){b:al}(hb:fo B w0 F A c b)(di:E b<=1000000000)(RN:E (cI b).2.1<=1000000)(h:(g_ b).2.2.2=0):aZ B w0 70 [.slice A (E b) c] F (am7 (jI b) F):=by
 have kN:=Q0 RN h;have p6:=gw (g_ b).1;refine fw func70 38 [0] ?_;refine bc ?_;refine bh λg2=>?_;refine bO ?_;refine be at4 rfl (ahf HT hb.cons di RN h) rfl ?_;rintro _ _ ⟨gB,N,rfl,cO,hBB⟩;obtain rfl:=cO.symm;refine bF ?_;refine bh λg7=>?_;refine bK ?_;refine gx (List.perm_middle.cons _) ?_;refine bF ?_;refine aj (λju=>?_) λju=>?_
 ·exfalso;exact ju rfl
 ·refine bF ?_;refine ay rfl (acU HT kN (hBB.mono (((wD _ _).cons _).cons _))) λAr cr=>bF ?_;refine ve [2,7,8,9,10,11] ?_;refine bK ?_;refine aj (λqu=>?_) λqu=>?_
  ·refine bc ?_;refine ab (cJ [ah 0,.bool false,ah 0,ah 0,ah 0,ah 0] ag) rfl (bz ?_);refine aC 62 4 none (Mk rfl rfl ag aW gV rfl rfl rfl rfl (.cons (.s3 (dB N F))) ?_);rw[ahl Nu qu];exact⟨none,0,rfl,rfl⟩
  ·refine bE ?_;refine cE (.own 62 4 Ar (E (jH (g_ b).2.1).1) cr (c_ (jH (g_ b).2.1).1):: .bG g7 23 (aN.cells (g_ b).1)::(N++F)) ?_;refine aU 0 rfl (bP 6 ag rfl aW (aN.cells (g_ b).1) rfl rfl) ?_;refine ae 1 ?_;refine ae 2 ?_;refine ae 5 ?_;refine aA 3 (b8 rfl rfl (IP kN (hBB.mono (((((wD _ _)).cons _).cons _).cons _))) λAk ck=>ae 4 ?_);refine aA 6 (aF ?_);refine ae 7 ?_;refine ae 8 ?_;refine ae 9 ?_;refine ae 10 ?_;refine bE ?_;refine Mk rfl rfl ag aW gV rfl rfl rfl rfl (.skip (.cons (.s2 (dB N F)))) ?_;rw[ahm Nu qu];exact⟨Ar,cr,rfl,rfl⟩
theorem U7(HT:bM B w0){b:al}(hb:fo B w0 F A c b)(di:E b<=1000000000)(RN:E (cI b).2.1<=1000000):aZ B w0 70 [.slice A (E b) c] F (am7 (jI b) F):=by
 by_cases h:(g_ b).2.2.2=0
 ·exact U9 HT hb di RN h
 ·exact U8 HT hb di RN h
end
theorem aqG{P:Prop}(h:P:=by(first|exact .inl ku|exact⟨λk=>.inr k,λk=>k.resolve_left ku⟩)):P:=h
def fH(b:al):Int×Int:=if (marked b).1=1∨(marked b).1=2 then ((marked b).1,0) else if (eh b).2=0 then (3,0) else if (marked b).1=3 then (0,5) else (0,(marked b).2)
def jo(v:Int)(o:aN)(L:List aJ):al×Int:=if v=1 then ua o L else if v=2 then wI o L else if v=3 then sr o L else ([],4)
structure Fits(b:al):Prop where
 all:E b<=1000000000
 few:fH b≠(3,0)->E b<=1000000
 in3:E (cI b).2.1<=1000000
theorem Fits.P6{b:al}(h:E b<=1000000):Fits b:=by
 refine⟨aa,λ_=>h,?_⟩;by_cases q:(cI b).2.2.2=0
 ·have:=(sq q).2.2.2;omega
 ·by_cases q1:(eh b).2≠0
  ·rw[B6 q1];exact bU _
  ·by_cases q2:hE (eh b).1≠0
   ·rw[Mz q1 q2];exact bU _
   ·by_cases q3:(Ah b).2.2≠0
    ·rw[UX q1 q2 q3];exact bU _
    ·rw[UY q1 q2 q3]at q;exact absurd rfl q
noncomputable def eV(b:al):Int×aN×List aJ×Nat×Nat×Int:=
 if (fH b).1=1 then (1,(mA b).1,(mA b).2.1,(mA b).2.2.1,0,(mA b).2.2.2)
 else if (fH b).1=2 then (2,(m7 b).1,(m7 b).2.1,(m7 b).2.2.1,0,(m7 b).2.2.2)
 else if (fH b).1=3 then (3,(jI b).1,(jI b).2.1,(jI b).2.2.1,(jI b).2.2.2.1,(jI b).2.2.2.2)
 else (0,iV,[],0,0,(fH b).2)
theorem Y5(b:al):fH b=(1,0)∨fH b=(2,0)∨fH b=(3,0)∨((fH b).1=0∧(fH b).2≠0):=by
 unfold fH;by_cases h1:(marked b).1=1∨(marked b).1=2
 ·rw[ao h1];rcases h1 with h|h<;>rw[h]<;>simp
 ·rw[aw h1];by_cases h2:(eh b).2=0
  ·rw[ao h2];simp
  ·rw[aw h2];by_cases h3:(marked b).1=3
   ·rw[ao h3];simp
   ·rw[aw h3];refine .inr (.inr (.inr ⟨rfl,?_⟩));show(marked b).2≠0;unfold marked at h1 h3⊢;split
    ·decide
    ·split
     ·decide
     ·split
      ·decide
      ·rename_i q1 q2 q3;rw[aw q1,aw q2,aw q3]at h1 h3;simp only at h1 h3;exfalso;exact q3 (λk=>by unfold DW at k;omega)
theorem vF(HT:bM B w0){b:al}(hb:fo B w0 F A c b)(di:E b<=1000000000):aZ B w0 56 [.slice A (E b) c] F (λr L=>r= .tuple #[ah (fH b).1,ah (fH b).2]∧L=F):=by
 have e1:∀(h:(marked b).1=1∨(marked b).1=2),fH b=((marked b).1,0):=λh=>by unfold fH;rw[ao h]
 have e2:∀(h:¬((marked b).1=1∨(marked b).1=2)) (h2:(eh b).2=0),fH b=(3,0):=λh h2=>by unfold fH;rw[aw h,ao h2]
 have e3:∀(h:¬((marked b).1=1∨(marked b).1=2)) (h2:¬(eh b).2=0) (h3:(marked b).1=3),fH b=(0,5):=λh h2 h3=>by unfold fH;rw[aw h,aw h2,ao h3]
 have e4:∀(h:¬((marked b).1=1∨(marked b).1=2)) (h2:¬(eh b).2=0) (h3:¬(marked b).1=3),fH b=(0,(marked b).2):=λh h2 h3=>by unfold fH;rw[aw h,aw h2,aw h3]
 refine fw func56 26 [0] ?_;refine bO ?_;refine ai rfl (u9 hb aa) (de ?_);refine bR 6 17 [0,4,5] ((marked b).1=1∨(marked b).1=2) ?_ ?_
 ·refine bE ?_;refine aI rfl rfl rfl (λku=>?_) (λku=>?_)
  ·refine b7 ?_;exact aL (by exact dG aqG)
  ·refine bc ?_;exact aL (by exact dS aqG)
 ·refine bE ?_;refine aj (λpg=>?_) λpg=>?_
  ·refine de ?_;rw[e1 pg];exact⟨rfl,rfl⟩
  ·refine bE ?_;refine ai rfl (ald HT hb di) (bE ?_);refine aj (λoI=>?_) λoI=>?_
   ·refine bz ?_;rw[e2 pg oI];exact⟨rfl,rfl⟩
   ·refine bI ?_;refine aj (λrm=>?_) λrm=>?_
    ·refine bz ?_;rw[e3 pg oI rm];exact⟨rfl,rfl⟩
    ·refine cF ?_;rw[e4 pg oI rm];exact⟨rfl,rfl⟩
theorem R9(HT:bM B w0){o:aN}{L:List aJ}(hx:∀x∈L,x.1<18446744073709551616)(hb:aM B w0 F 4 (.slice A (E L) c) (E L) (c_ L)):aZ B w0 10 [ah 1,.agg (aN.cells o).toArray,.slice A (E L) c] F (Nc (jo 1 o L) F):=by
 have e:jo 1 o L=ua o L:=rfl;rw[e];have Am:=λM (hb:aM B w0 M 4 (.slice A (E L) c) (E L) (c_ L))=>aa5 (F:=M) (o:=o) HT hx hb;obtain⟨W,hW⟩:=cK (ua o L);rw[<-hW];simp only[<-hW]at Am;have p6:=gw o;refine fw func10 30 [0,1,2] ?_;refine bc ?_;refine bg λg4=>?_;refine Bg ?_;refine aj (λh9=>?_) λh9=>?_
 ·refine bc ?_;refine ab (bP 6 ag rfl aW (aN.cells o) rfl rfl) rfl (aF ?_);refine ay rfl (Am _ hb.cons) λx9 Hm=>bO ?_;refine aq (.cons (.skip (.refl _))) (aF ?_);exact⟨x9,Hm,rfl,rfl⟩
 ·exfalso;exact h9 rfl
theorem R_(HT:bM B w0){o:aN}{L:List aJ}(hx:∀x∈L,x.1<18446744073709551616)(hb:aM B w0 F 4 (.slice A (E L) c) (E L) (c_ L)):aZ B w0 10 [ah 2,.agg (aN.cells o).toArray,.slice A (E L) c] F (Nc (jo 2 o L) F):=by
 have e:jo 2 o L=wI o L:=rfl;rw[e];have Am:=λM (hb:aM B w0 M 4 (.slice A (E L) c) (E L) (c_ L))=>abZ (F:=M) (o:=o) HT hx hb;obtain⟨W,hW⟩:=cK (wI o L);rw[<-hW];simp only[<-hW]at Am;have p6:=gw o;refine fw func10 30 [0,1,2] ?_;refine bc ?_;refine bg λg4=>?_;refine Bg ?_;refine aj (λh9=>?_) λh9=>?_
 ·exfalso;exact absurd h9 ax
 ·refine bB ?_;refine aj (λlf=>?_) λlf=>?_
  ·refine bc ?_;refine ab (bP 6 ag rfl aW (aN.cells o) rfl rfl) rfl (aF ?_);refine ay rfl (Am _ hb.cons) λx9 Hm=>bO ?_;refine aq (.cons (.skip (.refl _))) (aF ?_);exact⟨x9,Hm,rfl,rfl⟩
  ·exfalso;exact lf rfl
theorem Sa(HT:bM B w0){o:aN}{L:List aJ}(hx:∀x∈L,x.1<18446744073709551616)(hb:aM B w0 F 4 (.slice A (E L) c) (E L) (c_ L)):aZ B w0 10 [ah 3,.agg (aN.cells o).toArray,.slice A (E L) c] F (Nc (jo 3 o L) F):=by
 have e:jo 3 o L=sr o L:=rfl;rw[e];have Am:=λM (hb:aM B w0 M 4 (.slice A (E L) c) (E L) (c_ L))=>ahi (F:=M) (o:=o) HT hx hb;obtain⟨W,hW⟩:=cK (sr o L);rw[<-hW];simp only[<-hW]at Am;have p6:=gw o;refine fw func10 30 [0,1,2] ?_;refine bc ?_;refine bg λg4=>?_;refine Bg ?_;refine aj (λh9=>?_) λh9=>?_
 ·exfalso;exact absurd h9 ax
 ·refine bB ?_;refine aj (λlf=>?_) λlf=>?_
  ·exfalso;exact absurd lf ax
  ·refine bB ?_;refine aj (λmB=>?_) λmB=>?_
   ·refine bc ?_;refine ab (bP 6 ag rfl aW (aN.cells o) rfl rfl) rfl (aF ?_);refine ay rfl (Am _ hb.cons) λx9 Hm=>b7 ?_;refine ve [6,7] ?_;refine b7 ?_;refine aq (.cons (.skip (.refl _))) (aF ?_);exact⟨x9,Hm,rfl,rfl⟩
   ·exfalso;exact mB rfl
theorem Sb{v:Int}{o:aN}{L:List aJ}(h1:¬v=1)(h2:¬v=2)(h3:¬v=3):aZ B w0 10 [ah v,.agg (aN.cells o).toArray,.slice A (E L) c] F (Nc (jo v o L) F):=by
 have e:jo v o L=([],4):=by unfold jo;rw[aw h1,aw h2,aw h3]
 rw[e];refine fw func10 30 [0,1,2] ?_;refine bc ?_;refine bg λg4=>?_;refine Bg ?_;refine aj (λh9=>?_) λh9=>?_
 ·exfalso;exact h1 h9
 ·refine bB ?_;refine aj (λlf=>?_) λlf=>?_
  ·exfalso;exact h2 lf
  ·refine bB ?_;refine aj (λmB=>?_) λmB=>?_
   ·exfalso;exact h3 mB
   ·refine bz ?_;refine aC 5 1 none (aq (.cons (.skip (.refl _))) (aF ?_));exact⟨none,0,rfl,rfl⟩
theorem xg(HT:bM B w0){v:Int}{o:aN}{L:List aJ}(hx:∀x∈L,x.1<18446744073709551616)(hb:aM B w0 F 4 (.slice A (E L) c) (E L) (c_ L)):aZ B w0 10 [ah v,.agg (aN.cells o).toArray,.slice A (E L) c] F (Nc (jo v o L) F):=by
 by_cases h1:v=1
 ·subst h1;exact R9 HT hx hb
 ·by_cases h2:v=2
  ·subst h2;exact R_ HT hx hb
  ·by_cases h3:v=3
   ·subst h3;exact Sa HT hx hb
   ·exact Sb h1 h2 h3
theorem AY{C:Cx}{fr:Fr}{L:aR}{f:Ch->aR}{x y:Operand}{t ty bt:TypeId}{o:aN}{c0 c1 c2 c3 c4 x0 x1 x2 x3 x4 x5 va:Value}(hs:p8 C.P t 6=true)(he:ev fr x=some (.pointer (some ⟨g,5,none⟩)))(hv:ev fr y=some (.agg (aN.cells o).toArray))(hm:na (.bG g bt [c0,c1,c2,c3,c4,x0,x1,x2,x3,x4,x5,va]) L f):
  q8 C fr L (.store t x y) ty (λp L'=>L'=f (.bG g bt [c0,c1,c2,c3,c4,ah o.1,.bool o.2.1,ah o.2.2.1,ah o.2.2.2.1,ah o.2.2.2.2.1,ah o.2.2.2.2.2,va])):=
 pW 6 hs he hv (gw o) hm rfl ak
abbrev Upb(g:Nat)(v:Int)(m nb bad:Nat)(cl:Bool)(o:aN)(va:Value):Ch:=.bG g 69 [ah v,ah (m:Int),ah (nb:Int),ah (bad:Int),.bool cl,ah o.1,.bool o.2.1,ah o.2.2.1,ah o.2.2.2.1,ah o.2.2.2.2.1,ah o.2.2.2.2.2,va]
def UpE(e:Int)(F:aR)(r:Value)(L:aR):Prop:=∃Y,r= .tuple #[.pointer none,ah e]∧L=Y++F
def UpK(v:Int)(o:aN)(l:List aJ)(nb bad:Nat)(F:aR)(r:Value)(L:aR):Prop:=∃g A' c',r= .tuple #[br g,ah 0]∧L=Upb g v (E l) nb bad false o (.slice A' (E l) c'):: .own 62 4 A' (E l) c' (c_ l)::F
def aif(v:Int)(o:aN)(l:List aJ)(nb bad:Nat)(e:Int)(F:aR)(r:Value)(L:aR):Prop:=(e≠0∧UpE e F r L)∨(e=0∧UpK v o l nb bad F r L)
theorem Rf(HT:bM B w0){b:al}(hb:fo B w0 F A c b)(di:E b<=1000000):aZ B w0 69 [.slice A (E b) c] F (UnA (m7 b) F):=by
 by_cases h:(iE b).2.2=0
 ·exact Rh HT hb di h
 ·exact Rg HT hb di h
theorem acx(HT:bM B w0){b:al}(hb:fo B w0 F A c b)(hf:Fits b)(hV:fH b=(1,0)):aZ B w0 29 [.slice A (E b) c] F (aif 1 (mA b).1 (mA b).2.1 (mA b).2.2.1 0 (mA b).2.2.2 F):=by
 have di:=hf.all;have uO:=vF (F:=F) HT hb di;rw[hV]at uO;have hup:=λM (hb:fo B w0 M A c b)=>Qa (F:=M) HT hb (hf.few (by rw[hV];decide));obtain⟨R,hR⟩:=cK (mA b);rw[<-hR];simp only[<-hR]at hup;have p6:=gw R.1;refine fw func29 92 [0] ?_;refine bO ?_;refine ai rfl (uO) (bz ?_);refine ab (bx [(0,_)] [ah 0,ah 0,ah 0,ah 0,.bool false] [0] [_,_,_,_,_] rfl rfl ag) rfl (ab (bx [(0,_)] [ah 0,ah 0,ah 0,ah 0,.bool false,ah 0,.bool false,ah 0,ah 0,ah 0,ah 0,.slice none 0 0] [0] [_,_,_,_,_,_,_,_,_,_,_,_] rfl rfl ag) rfl (bg λg15=>?_));refine jG ?_;refine aj (λiI=>?_) λiI=>?_
 ·refine bF ?_;refine ay rfl (hup _ hb.cons) λAD Dr=>bI ?_;refine lk (AY (o:=R.1) ag rfl rfl aW) (bK ?_);refine ve [5,6] ?_;refine bO ?_;refine aj (λRI=>?_) λRI=>?_
  ·refine bz ?_;exact .inl ⟨RI,[_,_],rfl,rfl⟩
  ·refine aec ?_;refine aq ((gE (eu (.refl _)))) (aF ?_);exact .inr ⟨bA RI,_,AD,Dr,rfl,rfl⟩
 ·exfalso;exact iI rfl
theorem acy(HT:bM B w0){b:al}(hb:fo B w0 F A c b)(hf:Fits b)(hV:fH b=(2,0)):aZ B w0 29 [.slice A (E b) c] F (aif 2 (m7 b).1 (m7 b).2.1 (m7 b).2.2.1 0 (m7 b).2.2.2 F):=by
 have di:=hf.all;have uO:=vF (F:=F) HT hb di;rw[hV]at uO;have hup:=λM (hb:fo B w0 M A c b)=>Rf (F:=M) HT hb (hf.few (by rw[hV];decide));obtain⟨R,hR⟩:=cK (m7 b);rw[<-hR];simp only[<-hR]at hup;have p6:=gw R.1;refine fw func29 92 [0] ?_;refine bO ?_;refine ai rfl (uO) (bz ?_);refine ab (bx [(0,_)] [ah 0,ah 0,ah 0,ah 0,.bool false] [0] [_,_,_,_,_] rfl rfl ag) rfl (ab (bx [(0,_)] [ah 0,ah 0,ah 0,ah 0,.bool false,ah 0,.bool false,ah 0,ah 0,ah 0,ah 0,.slice none 0 0] [0] [_,_,_,_,_,_,_,_,_,_,_,_] rfl rfl ag) rfl (bg λg15=>?_));refine jG ?_;refine aj (λiI=>?_) λiI=>?_
 ·exfalso;exact absurd iI ax
 ·refine bB ?_;refine aj (λz'=>?_) λz'=>?_
  ·refine bF ?_;refine ay rfl (hup _ hb.cons) λAD Dr=>bI ?_;refine lk (AY (o:=R.1) ag rfl rfl aW) (bK ?_);refine ve [5,6] ?_;refine bO ?_;refine aj (λRI=>?_) λRI=>?_
   ·refine bz ?_;exact .inl ⟨RI,[_,_],rfl,rfl⟩
   ·refine aec ?_;refine aq ((gE (eu (.refl _)))) (aF ?_);exact .inr ⟨bA RI,_,AD,Dr,rfl,rfl⟩
  ·exfalso;exact z' rfl
theorem acz(HT:bM B w0){b:al}(hb:fo B w0 F A c b)(hf:Fits b)(hV:fH b=(3,0)):aZ B w0 29 [.slice A (E b) c] F (aif 3 (jI b).1 (jI b).2.1 (jI b).2.2.1 (jI b).2.2.2.1 (jI b).2.2.2.2 F):=by
 have di:=hf.all;have uO:=vF (F:=F) HT hb di;rw[hV]at uO;have hup:=λM (hb:fo B w0 M A c b)=>U7 (F:=M) HT hb di hf.in3;obtain⟨R,hR⟩:=cK (jI b);rw[<-hR];simp only[<-hR]at hup;have p6:=gw R.1;refine fw func29 92 [0] ?_;refine bO ?_;refine ai rfl (uO) (bz ?_);refine ab (bx [(0,_)] [ah 0,ah 0,ah 0,ah 0,.bool false] [0] [_,_,_,_,_] rfl rfl ag) rfl (ab (bx [(0,_)] [ah 0,ah 0,ah 0,ah 0,.bool false,ah 0,.bool false,ah 0,ah 0,ah 0,ah 0,.slice none 0 0] [0] [_,_,_,_,_,_,_,_,_,_,_,_] rfl rfl ag) rfl (bg λg15=>?_));refine jG ?_;refine aj (λiI=>?_) λiI=>?_
 ·exfalso;exact absurd iI ax
 ·refine bB ?_;refine aj (λz'=>?_) λz'=>?_
  ·exfalso;exact absurd z' ax
  ·refine b7 ?_;refine ve [0,5,6,55] ?_;refine aF ?_;refine aj (λZ6=>?_) λZ6=>?_
   ·refine bB ?_;refine ay rfl (hup _ hb.cons) λAD Dr=>bK ?_;refine lk (AY (o:=R.1) ag rfl rfl aW) (cF ?_);refine ve [5,6] ?_;refine bO ?_;refine aj (λRI=>?_) λRI=>?_
    ·refine bz ?_;exact .inl ⟨RI,[_,_],rfl,rfl⟩
    ·refine aec ?_;refine aq ((gE (eu (.refl _)))) (aF ?_);exact .inr ⟨bA RI,_,AD,Dr,rfl,rfl⟩
   ·exfalso;exact Z6 rfl
theorem acA(HT:bM B w0){b:al}(hb:fo B w0 F A c b)(hf:Fits b)(hV:(fH b).1=0)(hV2:(fH b).2≠0):aZ B w0 29 [.slice A (E b) c] F (UpE (fH b).2 F):=by
 have uO:=vF (F:=F) HT hb hf.all;rw[hV]at uO;refine fw func29 92 [0] ?_;refine bO ?_;refine ai rfl (uO) (bz ?_);refine ab (bx [(0,_)] [ah 0,ah 0,ah 0,ah 0,.bool false] [0] [_,_,_,_,_] rfl rfl ag) rfl (ab (bx [(0,_)] [ah 0,ah 0,ah 0,ah 0,.bool false,ah 0,.bool false,ah 0,ah 0,ah 0,ah 0,.slice none 0 0] [0] [_,_,_,_,_,_,_,_,_,_,_,_] rfl rfl ag) rfl (bg λg15=>?_));refine jG ?_;refine aj (λiI=>?_) λiI=>?_
 ·exfalso;exact absurd iI ax
 ·refine bB ?_;refine aj (λz'=>?_) λz'=>?_
  ·exfalso;exact absurd z' ax
  ·refine b7 ?_;refine ve [0,5,6,55] ?_;refine aF ?_;refine aj (λZ6=>?_) λZ6=>?_
   ·exfalso;exact absurd Z6 ax
   ·refine bz ?_;refine aj (λRI=>?_) λRI=>?_
    ·refine bz ?_;exact⟨[_],rfl,rfl⟩
    ·exfalso;exact RI hV2
def UpR(R:Int×aN×List aJ×Nat×Nat×Int)(F:aR)(r:Value)(L:aR):Prop:=aif R.1 R.2.1 R.2.2.1 R.2.2.2.1 R.2.2.2.2.1 R.2.2.2.2.2 F r L
theorem Nl(HT:bM B w0){b:al}(hb:fo B w0 F A c b)(hf:Fits b):aZ B w0 29 [.slice A (E b) c] F (UpR (eV b) F):=by
 rcases Y5 b with h|h|h|⟨h,h2⟩
 ·have e:eV b=(1,(mA b).1,(mA b).2.1,(mA b).2.2.1,0,(mA b).2.2.2):=by unfold eV;rw[h];rfl
  rw[e];exact acx HT hb hf h
 ·have e:eV b=(2,(m7 b).1,(m7 b).2.1,(m7 b).2.2.1,0,(m7 b).2.2.2):=by unfold eV;rw[h];rfl
  rw[e];exact acy HT hb hf h
 ·have e:eV b=(3,(jI b).1,(jI b).2.1,(jI b).2.2.1,(jI b).2.2.2.1,(jI b).2.2.2.2):=by unfold eV;rw[h];rfl
  rw[e];exact acz HT hb hf h
 ·have e:eV b=(0,iV,[],0,0,(fH b).2):=by unfold eV;rw[h];rfl
  rw[e];exact(acA HT hb hf h h2).mono λr L hr=>.inl ⟨h2,hr⟩
abbrev QP(l:List aJ):Prop:=∀r∈l,r.1<18446744073709551616
theorem afA(s:Cs):s.num<18446744073709551616:=by
 unfold Cs.num;split
 ·omega
 ·exact(fz _).1
theorem J8(b:Bool):∀(f:Nat) (s:Cs) (o:List aJ),QP o->QP (oY b f s o).1
 |0,s,o,h=>h
 |f+1,s,o,h=>by
  by_cases h1:s.left=0
  ·rw[BU h1];exact h
  ·by_cases he:(et b s).2.e≠0
   ·rw[BT h1 he];intro r hr;cases hr
   ·rw[Gv h1 he];refine J8 b f _ _ λr hr=>?_;rcases dz.1 hr with hr|hr
    ·exact h r hr
    ·rw[me]at hr;subst hr;unfold et;simp only;split
     ·exact afA _
     ·omega
theorem akI(b:Bool)(l:al):QP (rE b l).1:=J8 b _ _ _ λr hr=>by cases hr
theorem afM(s:Cs):QP (kp s).1:=by
 unfold kp;split
 ·intro r hr;cases hr
 ·split
  ·intro r hr;cases hr
  ·split
   ·intro r hr;cases hr
   ·exact akI _ _
theorem P_:∀(f:Nat) (s:Cs) (o:List aJ),QP o->QP (pn f s o).1
 |0,s,o,h=>h
 |f+1,s,o,h=>by
  rw[pn];split
  ·intro r hr;cases hr
  ·refine P_ f _ _ λr hr=>?_;rcases dz.1 hr with hr|hr
   ·exact h r hr
   ·exact afM s r hr
theorem aa0(b:al):QP (mA b).2.1:=by
 unfold mA;split
 ·intro r hr;cases hr
 ·split
  ·intro r hr;cases hr
  ·split
   ·intro r hr;cases hr
   ·show QP (kZ (ig b).1).1;unfold kZ;split
    ·intro r hr;cases hr
    ·split
     ·intro r hr;cases hr
     ·split
      ·intro r hr;cases hr
      ·exact P_ _ _ _ λr hr=>by cases hr
theorem abU{b:al}(di:E b<=1000000):QP (m7 b).2.1:=by
 by_cases h:(iE b).2.2≠0
 ·rw[ahB h];intro r hr;cases hr
 ·by_cases h2:(jH (iE b).2.1).2≠0
  ·rw[ahC h h2];intro r hr;cases hr
  ·rw[ahD h h2];exact XD (Re di (bA h))
theorem abI{b:al}(di:E (cI b).2.1<=1000000):QP (jI b).2.1:=by
 by_cases h:(g_ b).2.2.2≠0
 ·rw[ahk h];intro r hr;cases hr
 ·by_cases h2:(jH (g_ b).2.1).2≠0
  ·rw[ahl h h2];intro r hr;cases hr
  ·rw[ahm h h2];exact XD (Q0 di (bA h))
theorem R8{b:al}(hf:Fits b):QP (eV b).2.2.1:=by
 unfold eV;split
 ·exact aa0 b
 ·split
  ·rename_i q2;exact abU (hf.few λk=>by rw[k]at q2;exact absurd q2 ax)
  ·split
   ·exact abI hf.in3
   ·intro r hr;cases hr
noncomputable abbrev MU(b:al):Int:=(eV b).2.2.2.2.2
noncomputable def wL(b:al):List aJ×Int×Int:=if MU b≠0 then ([],0,MU b) else ((eV b).2.2.1,(eV b).1,0)
noncomputable def Cj(b:al):Bool:=decide (jo (eV b).1 (eV b).2.1 (eV b).2.2.1=(b,0))
abbrev Kx:=Int×Nat×Nat×Nat×Bool
def Kx.cells(r:Kx):cZ:=[ah r.1,ah (r.2.1:Int),ah (r.2.2.1:Int),ah (r.2.2.2.1:Int),.bool r.2.2.2.2]
noncomputable def tB(b:al):Kx×Int:=if MU b≠0 then ((0,0,0,0,false),MU b) else (((eV b).1,E (eV b).2.2.1,(eV b).2.2.2.1,(eV b).2.2.2.2.1,Cj b),0)
theorem Nm(HT:bM B w0){b:al}(hb:fo B w0 F A c b)(hf:Fits b)(h:MU b≠0):aZ B w0 29 [.slice A (E b) c] F (UpE (MU b) F):=
 (Nl HT hb hf).mono λr L hr=>hr.elim (λq=>q.2) λq=>absurd q.1 h
theorem Nn(HT:bM B w0){b:al}(hb:fo B w0 F A c b)(hf:Fits b)(h:MU b=0):aZ B w0 29 [.slice A (E b) c] F (UpK (eV b).1 (eV b).2.1 (eV b).2.2.1 (eV b).2.2.2.1 (eV b).2.2.2.2.1 F):=
 (Nl HT hb hf).mono λr L hr=>hr.elim (λq=>absurd h q.1) λq=>q.2
def AxA(R:List aJ×Int×Int)(F:aR)(r:Value)(L:aR):Prop:=∃A' c',r= .tuple #[.slice A' (E R.1) c',ah R.2.1,ah R.2.2]∧L= .own 62 4 A' (E R.1) c' (c_ R.1)::F
theorem Y7(HT:bM B w0){b:al}(hb:fo B w0 F A c b)(hf:Fits b)(h:MU b≠0):aZ B w0 13 [.slice A (E b) c] F (AxA (wL b) F):=by
 have e:wL b=([],0,MU b):=by unfold wL;rw[ao h]
 refine fw func13 24 [0] ?_;refine bz ?_;refine be arz rfl (Nm HT hb hf h) rfl ?_;rintro _ _ ⟨Y,rfl,cO⟩;obtain rfl:=cO.symm;refine ei ?_;refine aj (λnj=>?_) λnj=>?_
 ·refine bz ?_;refine aC 62 4 none (aq (.cons (dB Y F)) (aF ?_));rw[e];exact⟨none,0,rfl,rfl⟩
 ·exfalso;exact nj h
theorem Y8(HT:bM B w0){b:al}(hb:fo B w0 F A c b)(hf:Fits b)(h:MU b=0):aZ B w0 13 [.slice A (E b) c] F (AxA (wL b) F):=by
 have e:wL b=((eV b).2.2.1,(eV b).1,0):=by unfold wL;rw[aw (λq=>q h)]
 rw[e];refine fw func13 24 [0] ?_;refine bz ?_;refine fh rfl (Nn HT hb hf h) λg9 A9 c9=>ei ?_;refine aj (λnj=>?_) λnj=>?_
 ·exfalso;exact nj rfl
 ·refine jG ?_;refine lO [(2,_),(3,_),(4,_)] ⟨rfl,rfl,rfl,trivial⟩ ?_;refine bc ?_;refine aq (.skip (.refl _)) (aF ?_);exact⟨A9,c9,rfl,rfl⟩
theorem IE(HT:bM B w0){b:al}(hb:fo B w0 F A c b)(hf:Fits b):aZ B w0 13 [.slice A (E b) c] F (AxA (wL b) F):=by
 by_cases h:MU b=0
 ·exact Y8 HT hb hf h
 ·exact Y7 HT hb hf h
theorem aqB{P:Prop}(h:P:=by(first|exact λk=>z' (by rw[k])|exact⟨λk=>FC k z',λk=>by rw[k]⟩)):P:=h
theorem DQ(r:Kx):∀u∈Kx.cells r,u.oneCell'=true:=by simp[Kx.cells,Value.oneCell']
theorem acO{l l2:al}(e1:n=E l)(e2:n2=E l2)(h1:aM B w0 F 1 (.slice A n c) n (bv l))(h2:aM B w0 F 1 (.slice A2 n2 c2) n2 (bv l2)):aZ B w0 32 [.slice A n c,.slice A2 n2 c2] F (λr L=>r= .bool (decide (l=l2))∧L=F):=by
 refine fw func32 10 [0,1] ?_;refine bK ?_;refine ab (pT underlying27 underlying5 underlying9 rfl h1) rfl (aF ?_);refine ab (pT underlying27 underlying5 underlying9 rfl h2) rfl (bB ?_);exact⟨rfl,rfl⟩
def VeA(R:Kx×Int)(F:aR)(r:Value)(L:aR):Prop:=r= .tuple #[.agg (Kx.cells R.1).toArray,ah R.2]∧L=F
theorem Y9(HT:bM B w0){b:al}(hb:fo B w0 F A c b)(hf:Fits b)(h:MU b≠0):aZ B w0 17 [.slice A (E b) c] F (VeA (tB b) F):=by
 have JA:=DQ (0,0,0,0,false);have e:tB b=((0,0,0,0,false),MU b):=by unfold tB;rw[ao h]
 refine fw func17 48 [0] ?_;refine bc ?_;refine bh λg2=>?_;refine bB ?_;refine be arz rfl (Nm HT hb.cons hf h) rfl ?_;rintro _ _ ⟨Y,rfl,cO⟩;obtain rfl:=cO.symm;refine bO ?_;refine gx By ?_;refine bF ?_;refine aj (λnj=>?_) λnj=>?_
 ·refine bc ?_;refine ab (cJ [ah 0,ah 0,ah 0,ah 0,.bool false] ag) rfl (bI ?_);refine iK rfl rfl ag aW gV rfl (.skip (dB Y F)) ?_;rw[e];exact⟨rfl,rfl⟩
 ·exfalso;exact nj h
theorem Y_(HT:bM B w0){b:al}(hb:fo B w0 F A c b)(hf:Fits b)(h:MU b=0):aZ B w0 17 [.slice A (E b) c] F (VeA (tB b) F):=by
 have hC:Cj b=decide (jo (eV b).1 (eV b).2.1 (eV b).2.2.1=(b,0)):=rfl;have e:tB b=(((eV b).1,E (eV b).2.2.1,(eV b).2.2.2.1,(eV b).2.2.2.2.1,Cj b),0):=by unfold tB;rw[aw (λq=>q h)]
 have fN:=R8 hf;have hup:=λM (hb:fo B w0 M A c b)=>Nn (F:=M) HT hb hf h;obtain⟨V,hV⟩:=cK (eV b);rw[<-hV]at hC e fN;simp only[<-hV]at hup;obtain⟨v,o,l,nb,bad,er⟩:=V;simp only at hC e fN hup;have Am:=λM A8 c8 (hb:aM B w0 M 4 (.slice A8 (E l) c8) (E l) (c_ l))=>xg (F:=M) (v:=v) (o:=o) HT fN hb;obtain⟨W,hW⟩:=cK (jo v o l);rw[<-hW]at hC;simp only[<-hW]at Am;obtain⟨cl,uh⟩:=cK (Cj b);rw[<-uh]at hC e;rw[e];have p6:=DQ (v,E l,nb,bad,cl);refine fw func17 48 [0] ?_;refine bc ?_;refine bh λg2=>?_;refine bB ?_;refine fh rfl (hup _ hb.cons) λg8 A8 c8=>ei ?_;refine aj (λnj=>?_) λnj=>?_
 ·exfalso;exact nj rfl
 ·refine bE ?_;refine cE (Upb g8 v (E l) nb bad false o (.slice A8 (E l) c8):: .own 62 4 A8 (E l) c8 (c_ l):: .bG g2 41 [ah 0,ah 0,ah 0,ah 0,.bool false]::F) ?_;refine ae 0 ?_;refine ae 1 ?_;refine ae 2 ?_;refine ae 3 ?_;refine ae 4 ?_;refine ae 5 ?_;refine ae 6 ?_;refine ae 7 ?_;refine aU 8 rfl (bP 6 ag rfl aW (aN.cells o) rfl rfl) ?_;refine ae 9 ?_;refine ae 10 ?_;refine ae 11 ?_;refine ae 12 ?_;refine aA 13 (b8 rfl rfl (Am _ _ _ (aM.own (.tail _ (.head _)))) λRW c30=>ae 14 ?_);refine ae 15 ?_;refine ae 16 ?_;refine ae 17 ?_;refine ae 18 ?_;refine cP [0,2,4,5,6] ?_;refine b7 ?_;refine bR 7 40 [2,4,33] (W=(b,0)) ?_ ?_
  ·refine bE ?_;refine cD (λz'=>?_) λz'=>?_
   ·refine b7 ?_;refine ai rfl (acO (l:=W.1) (l2:=b) rfl rfl (aM.own (.head _)) hb.cons.cons.cons.cons) (aF ?_);exact aL (by exact dG aqB)
   ·refine bE ?_;exact aL (by exact dR aqB)
  ·refine bI ?_;rw[<-hC];refine b7 ?_;refine ab (bP 5 ag rfl aW (Kx.cells (v,E l,nb,bad,cl)) rfl rfl) rfl (bF ?_);refine iK rfl rfl ag aW gV rfl (.s4 (.refl _)) ?_;exact⟨rfl,rfl⟩
theorem IF(HT:bM B w0){b:al}(hb:fo B w0 F A c b)(hf:Fits b):aZ B w0 17 [.slice A (E b) c] F (VeA (tB b) F):=by
 by_cases h:MU b=0
 ·exact Y_ HT hb hf h
 ·exact Y9 HT hb hf h
theorem yy{L:List aJ}(h:cV L=0):dN L<=1048576∧E L<=20000:=by
 unfold cV at h;by_cases q:20000<E L∨(∃x∈L,u5 x)∨1048576<dN L
 ·rw[ao q]at h;exact absurd h ax
 ·exact⟨aa,aa⟩
theorem aaZ(o:aN)(L:List aJ):marked (ru o L)=(1,0):=by
 have:=mr (v:=1) D8 ((aS o.1.toNat++(fS o.2.1::(aS (E L)++aS (E (dV o true L)))))++((jS true o.2.1 (dV o true L) L).flatten++jP (ma 0 (t_ o L++(jS true o.2.1 (dV o true L) L).flatten))));rw[<-this];congr 1;unfold ru cv;show _=(ef++[1])++_;unfold t_;simp[bX]
theorem abT(o:aN)(L:List aJ):marked (qD o L)=(2,0):=by
 have:=mr (v:=2) D8 ((aS o.1.toNat++(fS o.2.1::aS o.2.2.1.toNat))++(jP (ma 0 (oZ o))++dj o L));rw[<-this];congr 1;unfold qD tr cv oZ;show _=(ef++[2])++_;simp[bX]
theorem Ki(o:aN)(b:al):marked (je o b)=(3,0):=by
 have:=mr (v:=3) D8 ((([fS o.2.1,UInt8.ofNat o.2.2.1.toNat,UInt8.ofNat o.2.2.2.1.toNat,UInt8.ofNat o.2.2.2.2.1.toNat]++(fR o.2.2.2.2.2.toNat 2++(fR o.1.toNat 2++fR (E b) 4)))++jP (ma 0 (xa o (E b))))++((ej o b).1++jf o (E b)));rw[<-this];congr 1
theorem QY{o:aN}{b:al}(ho:ct 3 o=0)(hl:(ej o b).2=0):(eh (je o b)).2=0:=by
 have h:=B7 ho hl;exact bA λq=>by
  rw[B6 q]at h;exact q (dQ (λx=>x.2.2.2) h)
theorem ako{o:aN}{L:List aJ}{b:al}(h:ua o L=(b,0)):ct 1 o=0∧cV L=0∧b=ru o L:=by
 unfold ua at h;by_cases q1:ct 1 o≠0
 ·rw[ao q1]at h;exact absurd (dQ Prod.snd h) q1
 ·by_cases q2:cV L≠0
  ·rw[aw q1,ao q2]at h;exact absurd (dQ Prod.snd h) q2
  ·rw[aw q1,aw q2]at h;exact⟨bA q1,bA q2,(dQ Prod.fst h).symm⟩
theorem IW{o:aN}{L:List aJ}(h2:¬(gb o L).2≠0):cV L=0:=(NK h2).2
theorem alr{o:aN}{L:List aJ}{b:al}(h:wI o L=(b,0)):ct 2 o=0∧cV L=0∧b=qD o L:=by
 unfold wI at h;by_cases q1:ct 2 o≠0
 ·rw[ao q1]at h;exact absurd (dQ Prod.snd h) q1
 ·by_cases q2:(gb o L).2≠0
  ·rw[aw q1,ao q2]at h;exact absurd (dQ Prod.snd h) q2
  ·rw[aw q1,aw q2]at h;exact⟨bA q1,IW q2,(dQ Prod.fst h).symm⟩
theorem MA{o:aN}{L:List aJ}{b:al}(h:sr o L=(b,0)):ct 3 o=0∧cV L=0∧(ej o (dj o L)).2=0∧b=je o (dj o L):=by
 by_cases q1:ct 3 o=0
 ·by_cases q2:(gb o L).2≠0
  ·rw[ahn q1 q2]at h;exact absurd (dQ Prod.snd h) q2
  ·by_cases q3:(ej o (dj o L)).2≠0
   ·rw[aho q1 q2 q3]at h;exact absurd (dQ Prod.snd h) q3
   ·rw[U5 q1 q2 q3]at h;exact⟨q1,IW q2,bA q3,(dQ Prod.fst h).symm⟩
 ·rw[U4 q1]at h;exact absurd (dQ Prod.snd h) q1
theorem ain{v:Int}{o:aN}{L:List aJ}{b:al}(h:jo v o L=(b,0)):v=1∨v=2∨v=3:=by
 unfold jo at h;by_cases h1:v=1
 ·exact .inl h1
 ·by_cases h2:v=2
  ·exact .inr (.inl h2)
  ·by_cases h3:v=3
   ·exact .inr (.inr h3)
   ·rw[aw h1,aw h2,aw h3]at h;exact absurd (dQ Prod.snd h) (show(4:Int)≠0 by decide)
theorem Y6{v:Int}{o:aN}{L:List aJ}{b:al}(hx:QP L)(hlen:v=2->E b<=8388608)(hp:jo v o L=(b,0)):∃nb,eV b=(v,o,L,nb,0,0):=by
 rcases ain hp with rfl|rfl|rfl
 ·obtain⟨h1,h2,rfl⟩:=ako (show ua o L=(b,0) from hp);have hV:fH (ru o L)=(1,0):=by unfold fH;rw[aaZ,ao (.inl rfl)]
  have e:eV (ru o L)=(1,(mA (ru o L)).1,(mA (ru o L)).2.1,(mA (ru o L)).2.2.1,0,(mA (ru o L)).2.2.2):=by unfold eV;rw[hV];rfl
  rw[e,afO h1 h2 hx];exact⟨_,rfl⟩
 ·obtain⟨h1,h2,rfl⟩:=alr (show wI o L=(b,0) from hp);have hl:=hlen rfl;unfold qD at hl;rw[aX]at hl;have hV:fH (qD o L)=(2,0):=by unfold fH;rw[abT,ao (.inr rfl)]
  have e:eV (qD o L)=(2,(m7 (qD o L)).1,(m7 (qD o L)).2.1,(m7 (qD o L)).2.2.1,0,(m7 (qD o L)).2.2.2):=by unfold eV;rw[hV];rfl
  rw[e,ahE h1 h2 hx (yy h2).1 aa];exact⟨_,rfl⟩
 ·obtain⟨h1,h2,h3,rfl⟩:=MA (show sr o L=(b,0) from hp);obtain⟨b,hb⟩:=cK (je o (dj o L));have hV:fH (je o (dj o L))=(3,0):=by
   unfold fH;rw[Ki,aw ax,ao (QY h1 h3)]
  have e:eV (je o (dj o L))=(3,(jI (je o (dj o L))).1,(jI (je o (dj o L))).2.1,(jI (je o (dj o L))).2.2.1,(jI (je o (dj o L))).2.2.2.1,(jI (je o (dj o L))).2.2.2.2):=by unfold eV;rw[hV];rfl
  rw[e,U6 h1 h2 hx (yy h2).1 h3];exact⟨_,rfl⟩
theorem R7{v:Int}{o:aN}{L:List aJ}{b:al}(hx:QP L)(hlen:v=2->E b<=8388608)(hp:jo v o L=(b,0)):∃nb,tB b=((v,E L,nb,0,true),0):=by
 obtain⟨nb,e⟩:=Y6 hx hlen hp;have hC:Cj b=true:=by unfold Cj;rw[e];exact oK hp
 refine⟨nb,?_⟩;unfold tB MU;rw[e,aw ak,hC]
theorem Ze{b:al}{pl:Bool}(h:E b<=32768):E (jY b pl).1<=E b+50:=by
 have hy:=yu b pl;have e1:=aV (x:=E b) aa;have e2:=aV (x:=E (kP b pl).2) aa;rw[KH aa];show(cv _).length<=_;rw[dA,aX];unfold yr;rw[dI,aX];omega
theorem E4{S:Nat}(hS:S<=32768)(b pl:Bool):∀(g:bf) (L:List aJ),(∀x∈L,x.fits)->D3 S (lens b L) g->E (jS b pl g L).flatten<=E (dm b L)+60*E g
 |[],_,_,_=>by simp[jS]
 |n::g,L,hL,hf=>by
  obtain⟨f1,f2,f3,f4,f5⟩:=hf;have yh:=pz (b:=b) hS hL f1 f3;have h1:=Ze (b:=dm b (L.take n)) (pl:=pl) yh;have h2:=E4 hS b pl g (L.drop n) (λx hx=>hL x (r8 hx)) VN;have h3:E (dm b L)=E (dm b (L.take n))+E (dm b (L.drop n)):=by
   conv=>lhs;rw[<-jd n L]
   unfold dm;rw[uP,aX]
  rw[jS,w3,aX,dI,uU,cH];omega
theorem Se{o:aN}{L:List aJ}{M:Nat}(ho:ct 2 (o2 o)=0)(hc:cV L=0)(hx:∀x∈L,x.1<18446744073709551616)(hi:E (rq o L)<=M)(hM:M<=100000000000):
  E (dj o L)<=2*dN L+60*E L+40*E L+M+1000+E (kR L):=by
 obtain⟨tT,rR,M4⟩:=kQ hc hx;have hom:=xL (.inr (.inl rfl)) ho;obtain⟨⟨m1,m2⟩,_,m4,_⟩:=hom;have m1:16<=o.1:=m1;have m2:o.1<=32768:=m2;have DC:E (dV o false L)<=E L:=by unfold dV;have:=nD o.1.toNat (lens false L);rwa [eK]at this
 have hrb:=v_ (b:=false) hx (by have:=(yy hc).1;omega);have Jr:=E4 (S:=o.1.toNat) aa false o.2.1 (dV o false L) L rR (kT _ _);have hss:∀x∈(fa o L).map List.length,x<=2*dN L+60*E L:=λx hx=>by
  have h1:=qg hx;rw[<-List.length_flatten]at h1;exact jz h1 (by show(jS false o.2.1 (dV o false L) L).flatten.length<=_;omega)
 have xD:=Dy o false L;have uh:=rL (L:=L) aa;have hCl:E (pN L)=E (kR L)+4:=dA _;have hIl:E (pP o L)=E (rq o L)+4:=dA _;have hDl:E (qH o L)<=60+20*E L+4:=by
  unfold qH;rw[dA];have h1:=z8 (dV o false L) ((fa o L).map List.length) (λn hn=>IG) (λn hn=>by have:=hss n hn;omega) (E (dV o false L));have h2:vE (dV o false L) ((fa o L).map List.length) (E (dV o false L))=((dV o false L).zip ((fa o L).map List.length)).flatMap λp=>aS p.1++aS p.2:=by
   unfold vE;rw[fC (by rw[JJ];omega)]
  rw[h2]at h1;have h3:=aV (x:=(dV o false L).sum) aa;have h4:=aV (x:=E (dV o false L)) aa;have h5:=aV (x:=E (pN L)) aa;have h6:=aV (x:=E (pP o L)) aa;unfold yN;simp only[aX];omega
 unfold dj;have aey:E (fa o L).flatten<=2*dN L+60*E L:=by show(jS false o.2.1 (dV o false L) L).flatten.length<=_;omega
 simp only[aX,qI];omega
structure oD(L:List aJ):Prop where
 few:E L<=30
 w:dN L<=2000
 t:QP L
theorem oD.chk{L:List aJ}(h:oD L):cV L=0:=by
 unfold cV;rw[aw];rintro(q|q|q)
 ·have:=h.few;omega
 ·obtain⟨x,hx,hl⟩:=q;have h1:x.w<=dN L:=by
   unfold dN;exact qg (jy hx)
  have h2:=h.w;unfold u5 at hl;unfold aJ.w at h1;omega
 ·have:=h.w;omega
theorem FM{o:aN}{L:List aJ}(h:oD L)(ho:ct 2 (o2 o)=0)(h1:1<=o.2.2.1)(h2:o.2.2.1<=64):E (dj o L)<=320000:=by
 have hf:=h.few;have hw:=h.w;have hi:=(TD (o:=o) h1 h2 hw aa).2 hf;have:=Se ho h.chk h.t hi aa;have hc:=rL (L:=L) aa;omega
theorem aaJ{o:aN}{L:List aJ}(h:oD L)(ho:ct 1 o=0):E (ru o L)<=10000:=by
 have hf:=h.few;have hw:=h.w;have fy:jB 1 o:=by
  unfold ct at ho;rw[ao (.inl rfl)]at ho;exact bA λh=>by rw[aw h]at ho;simp at ho
 obtain⟨⟨m1,m2⟩,_⟩:=fy;obtain⟨tT,rR,M4⟩:=kQ h.chk h.t;have hrb:=v_ (b:=true) h.t aa;have Jr:=E4 (S:=o.1.toNat) aa true o.2.1 (dV o true L) L rR (kT _ _);have DC:E (dV o true L)<=E L:=by unfold dV;have:=nD o.1.toNat (lens true L);rwa [eK]at this
 have n1:=aV (x:=o.1.toNat) aa;have n2:=aV (x:=E L) aa;have n3:=aV (x:=E (dV o true L)) aa;unfold ru t_;rw[dA];simp only[aX,dI,sY,ef];omega
theorem aaK{o:aN}{L:List aJ}(h:oD L)(ho:ct 2 o=0):E (qD o L)<=330000:=by
 obtain⟨fy,he⟩:=DN ho;obtain⟨⟨m1,m2⟩,_,m4,_,_⟩:=fy;obtain⟨m5,m6⟩:=m4 (.inr rfl);have hb:=FM (o:=o) h (by rw[he];exact ho) m5 m6;have n1:=aV (x:=o.1.toNat) aa;have n2:=aV (x:=o.2.2.1.toNat) aa;unfold qD tr oZ;rw[aX,dA];simp only[aX,dI,sY,ef];omega
def nK(o:aN):Prop:=o.2.2.2.1<=8∧o.2.2.2.2.1<=8∧o.2.2.2.2.1<=4*o.2.2.2.1∧4<=o.2.2.2.2.2∧o.2.2.2.2.2<=100
theorem abq{k m ch n:Nat}(hk:1<=k)(hm:m<=4*k)(hc:4<=ch)(Jw:k<=8)(Xa:ch<=100)(hn:n<=320000):iW k m ch n<=3500000∧yi k m ch n=0:=by
 have hD:1<=k*ch:=Ik hk aa;have hD2:k*ch<=800:=gU Jw Xa;have h1:(k+m)*(ch+4)<=(5*k)*(2*ch):=gU aa aa;have h2:(5*k)*(2*ch)=10*(k*ch):=by
  rw[Nat.mul_mul_mul_comm]
 have h3:lM k ch n*(k*ch)<=n+k*ch-1:=Nat.div_mul_le_self _ _;have h4:iW k m ch n<=3500000:=by
  unfold iW;have h5:lM k ch n*((k+m)*(ch+4))<=lM k ch n*(10*(k*ch)):=ze _ aa;have h6:lM k ch n*(10*(k*ch))=10*(lM k ch n*(k*ch)):=by
   rw[Nat.mul_left_comm]
  omega
 refine⟨h4,?_⟩;unfold yi;rw[aw aa,aw aa]
theorem CP{o:aN}{L:List aJ}(h:oD L)(ho:ct 3 o=0)(hs:nK o):E (dj o L)<=320000∧(ej o (dj o L)).2=0∧E (je o (dj o L))<=4000000:=by
 obtain⟨fy,h2⟩:=jC ho;obtain⟨_,m3,m4,_,_⟩:=fy;obtain⟨⟨k1,k2⟩,⟨k3,k4⟩,⟨k5,k6⟩⟩:=m3 rfl;obtain⟨m5,m6⟩:=m4 (.inl rfl);obtain⟨s1,s2,s3,s4,s5⟩:=hs;have hb:=FM (o:=o) h h2 m5 m6;obtain⟨z1,z2⟩:=abq (k:=o.2.2.2.1.toNat) (m:=o.2.2.2.2.1.toNat) (ch:=o.2.2.2.2.2.toNat) (n:=E (dj o L)) aa aa aa aa aa hb;have hl:(ej o (dj o L)).2=0:=by
  unfold ej lZ;rw[aw (by rw[z2];simp)]
 refine⟨hb,hl,?_⟩;have hA:=(FI (k:=o.2.2.2.1.toNat) (m:=o.2.2.2.2.1.toNat) (ch:=o.2.2.2.2.2.toNat) (b:=dj o L) aa aa hl)
 have awk:E (ej o (dj o L)).1<=3500000:=by
  unfold ej lZ;rw[aw (by rw[z2];simp)];show(rs _ _ _ _ _).length<=_;rw[uZ aa _ _ (ql (Ik aa aa) _)];exact z1
 unfold je;simp only[aX,zS];omega
structure VB(v:Int)(o:aN)(R:al×Int):Prop where
 e:R.2=ct v o
 none:R.2≠0->R.1=[]
 fits:R.2=0->Fits R.1∧E R.1<=4000000
theorem FN{v:Int}{o:aN}{L:List aJ}(h:oD L)(hs:v=3->ct 3 o=0->nK o):VB v o (jo v o L):=by
 have hc:=h.chk;by_cases h1:v=1
 ·subst h1;show VB 1 o (ua o L);unfold ua;by_cases q:ct 1 o≠0
  ·rw[ao q];exact⟨rfl,λ_=>rfl,λk=>absurd k q⟩
  ·have q':ct 1 o=0:=bA q;rw[aw q,aw aa];have:=aaJ h q';exact⟨q'.symm,λk=>absurd rfl k,λ_=>⟨Fits.P6 (by show(ru o L).length<=_;omega),by show(ru o L).length<=_;omega⟩⟩
 ·by_cases h2:v=2
  ·subst h2;show VB 2 o (wI o L);unfold wI;by_cases q:ct 2 o≠0
   ·rw[ao q];exact⟨rfl,λ_=>rfl,λk=>absurd k q⟩
   ·have q':ct 2 o=0:=bA q;have hb:(gb o L).2=0:=by
     unfold gb;rw[(DN q').2,aw q,aw aa]
    rw[aw q,aw aa];have:=aaK h q';exact⟨q'.symm,λk=>absurd rfl k,λ_=>⟨Fits.P6 (by show(qD o L).length<=_;omega),by show(qD o L).length<=_;omega⟩⟩
  ·by_cases h3:v=3
   ·subst h3;show VB 3 o (sr o L);by_cases q:ct 3 o=0
    ·obtain⟨b1,b2,b3⟩:=CP h q (hs rfl q);have hb:(gb o L).2=0:=by
      unfold gb;rw[aw (by rw[(jC q).2];simp),aw aa]
     rw[U5 q aa aa];refine⟨q.symm,λk=>absurd rfl k,λ_=>⟨⟨?_,?_,?_⟩,b3⟩⟩
     ·show(je o (dj o L)).length<=_;omega
     ·intro k;refine absurd ?_ k;show fH (je o (dj o L))=(3,0);unfold fH;rw[Ki,aw ax,ao (QY q b2)]
     ·show(cI (je o (dj o L))).2.1.length<=_;rw[B7 q b2];show(dj o L).length<=_;omega
    ·rw[U4 q];exact⟨rfl,λ_=>rfl,λk=>absurd k q⟩
   ·have e:jo v o L=([],4):=by unfold jo;rw[aw h1,aw h2,aw h3]
    have e2:ct v o=4:=by unfold ct;rw[aw aa]
    rw[e];exact⟨e2.symm,λ_=>rfl,λk=>absurd k (show(4:Int)≠0 by decide)⟩
theorem aqW{P:Prop}(h:P:=by(rw[du];rw[Gk]at hi;exact hi)):P:=h
def tZ(b:al):al:=(b.take (E b-21)).drop 21
def Iq(c:Nat)(b now:al):List (al×al):=(fI c ((E b-42)/c) (tZ b)).zip (fI c ((E b-42)/c) (tZ now))
def adp(o:aN)(b now:al):Prop:=P8 (o.2.2.2.1.toNat+o.2.2.2.2.1.toNat) o.2.2.2.2.1.toNat 0 0 (Iq (o.2.2.2.2.2.toNat+4) b now)
structure Dam(o:aN)(b now:al):Prop where
 len:E now=E b
 h1:now.take 21=b.take 21∨¬rb (now.take 21)
 h2:now.drop (E b-21)=b.drop (E b-21)∨¬rb (now.drop (E b-21))
 nY:now.take 21=b.take 21∨now.drop (E b-21)=b.drop (E b-21)
 ch:adp o b now
theorem Gk(c:Nat)(b now:al):E (Iq c b now)=(E b-42)/c:=by
 unfold Iq;rw[JJ,du,du,Nat.min_self]
theorem OO{c i:Nat}{b:al}(h:21+(i+1)*c<=E b-21):((tZ b).drop (i*c)).take c=(b.drop (21+i*c)).take c:=by
 unfold tZ;rw[oi,LP,LS,xH];rw[kz,lz]at h;omega
theorem Qi{c i:Nat}{b now:al}(hl:E now=E b)(hc:0<c)(h:21+(i+1)*c<=E b-21):
  (Iq c b now).drop i=((b.drop (21+i*c)).take c,(now.drop (21+i*c)).take c)::(Iq c b now).drop (i+1):=by
 have hi:i<E (Iq c b now):=by
  rw[Gk];exact(Ps hc).2 (by show(i+1)*c<=_;omega)
 rw[LQ hi];congr 1;have e1:(Iq c b now)[i]=((fI c ((E b-42)/c) (tZ b))[i]'aqW,(fI c ((E b-42)/c) (tZ now))[i]'aqW):=List.getElem_zip;rw[e1,SZ,SZ,OO h,OO (by rw[hl];exact h)]
theorem af9{c i:Nat}{b now:al}(hc:0<c)(h:¬21+(i+1)*c<=E b-21):(Iq c b now).drop i=[]:=by
 refine Fz ?_;rw[Gk];have h3:=Nat.div_mul_le_self (E b-42) c;refine Nat.le_of_lt_succ ((Nat.div_lt_iff_lt_mul hc).2 ?_);show _<(i+1)*c;by_cases h4:42<=E b
 ·omega
 ·have:0<(i+1)*c:=Ik aa hc;omega
theorem Jn{b:al}:E (tZ b)=E b-42:=by
 unfold tZ;rw[iG,eY];omega
theorem ZY{b:al}(h:42<=E b):b.take 21++(tZ b++b.drop (E b-21))=b:=by
 unfold tZ;have e:b.take 21=(b.take (E b-21)).take 21:=by rw[LS,xH aa]
 rw[<-bX,e,jd,jd]
theorem ahj{o:aN}{b now:al}(ho:ct 3 o=0)(hs:nK o)(hl:(ej o b).2=0)(hd:Dam o (je o b) now):∃n,cI now=(o,b,n,0)∧(n=0↔now=je o b):=by
 have hlen:E b<=8388608:=by
  refine bA λh=>?_;have:(ej o b).2=13:=by
   unfold ej lZ yi;rw[ao (show 8388608<E b by omega),ao ax]
  omega
 obtain⟨fy,_⟩:=jC ho;obtain⟨_,m3,_⟩:=fy;obtain⟨⟨k1,k2⟩,⟨k3,k4⟩,⟨k5,k6⟩⟩:=m3 rfl;obtain⟨s1,s2,s3,s4,s5⟩:=hs;obtain⟨e1,e2,e3⟩:=Kj (n:=E b) ho aa;have hH:=zS o (E b);have hcH:=QZ o (E b);obtain⟨H,hHd⟩:=cK (jf o (E b));obtain⟨l,y8⟩:=cK ((ej o b).1);have hA:je o b=H++(l++H):=by unfold je;rw[<-hHd,<-y8]
 rw[<-hHd]at hH e1 e2 e3 hcH;obtain⟨a,had⟩:=cK (je o b);rw[<-had]at hd hA⊢;have hAl:E a=42+E l:=by rw[hA];simp only[aX];omega
 have Ly:a.take 21=H:=by rw[hA];exact lA hH
 have Xa:a.drop (E a-21)=H:=by rw[hAl,hA,<-bX];exact mo rG
 have H':tZ a=l:=by
  unfold tZ;rw[hAl,hA,<-bX,lA rG];exact mo hH
 obtain⟨d0,d1,d2,d3,d4⟩:=hd;rw[Ly]at d1 d3;rw[Xa]at d2 d3;have Tg:eh now=(H,0):=by
  unfold eh;rw[aw aa,d0];by_cases q:rb (now.take 21)
  ·rw[ao q,d1.resolve_right (λh=>h q)]
  ·have q2:now.drop (E a-21)=H:=d3.resolve_left λh=>q (h▸hcH);rw[aw q,q2,ao hcH]
 obtain⟨B,b1,b2⟩:∃B,Ah now=(b,B,0)∧(B=[]↔tZ now=l):=by
  unfold Ah;rw[Tg];simp only;rw[e2,e3,y8];refine ajU aa aa aa hl ?_ ?_
  ·show(tZ now).length=E (ej o b).1;rw[Jn,<-y8];omega
  ·show P8 _ _ 0 0 ((fI _ (E (tZ now)/_) (ej o b).1).zip (fI _ (E (tZ now)/_) (tZ now)));unfold adp Iq at d4;rw[Jn,d0,<-y8,<-H'];exact d4
 refine⟨E B+yY now,?_,?_⟩
 ·unfold cI;rw[Tg];simp only;rw[aw ak,e1,aw ak,b1,aw ak,e2]
 ·have kU:=ZY (b:=now) aa;rw[d0]at kU;constructor
  ·intro h;have q1:tZ now=l:=b2.1 (Fu.1 aa);have q2:now.take 21=now.drop (E a-21):=bA λq=>by
    have:yY now=1:=by unfold yY;rw[d0,aw q]
    omega
   have q3:now.take 21=H:=d3.elim id λq=>q2.trans q;have q4:now.drop (E a-21)=H:=q2▸q3;rw[<-kU,q1,q3,q4,hA]
  ·intro h;have q1:B=[]:=b2.2 (by rw[h,H']);have q2:yY now=0:=by unfold yY;rw[d0,h,Ly,Xa,ao rfl]
   rw[q1,q2];rfl
theorem Nk{o:aN}{L:List aJ}{b now:al}(hx:QP L)(hp:jo 3 o L=(b,0))(hs:nK o)(hd:Dam o b now)(h1:(marked now).1≠1)(h2:(marked now).1≠2):
  ∃nb n,wL now=(L,3,0)∧tB now=((3,E L,nb,n,decide (now=b)),0)∧zR now=(b,n,0)∧(n=0↔now=b)∧(cI now).2.1=dj o L∧fH now=(3,0):=by
 obtain⟨ho,hc,hl,rfl⟩:=MA (show sr o L=(b,0) from hp);obtain⟨n,hM,hn⟩:=ahj ho hs hl hd;have hlen:E (dj o L)<=8388608:=by
  refine bA λh=>?_;have:(ej o (dj o L)).2=13:=by
   unfold ej lZ yi;rw[ao (show 8388608<E (dj o L) by omega),ao ax]
  omega
 obtain⟨x,x1,x2,x3⟩:=AJ (o:=o) (jC ho).2 hc hx (yy hc).1 hlen;obtain⟨a,had⟩:=cK (je o (dj o L));have hO:g_ now=(o,x,n,0):=by
  unfold g_;rw[hM];simp only;rw[aw ak,x1];simp
 have hR:jI now=(o,L,E (dV o false L),n,0):=by
  unfold jI;rw[hO];simp only;rw[aw ak,x3,aw ak,x2]
 have Tg:(eh now).2=0:=bA λq=>by
  rw[B6 q]at hM;exact q (dQ (λx=>x.2.2.2) hM)
 have hV:fH now=(3,0):=by
  unfold fH;rw[aw (λq=>q.elim h1 h2),ao Tg]
 have hD:zR now=(je o (dj o L),n,0):=by
  unfold zR;rw[hM];simp only;rw[aw ak,hl,aw ak]
 rw[<-had]at hD hn hp⊢;have hU:eV now=(3,o,L,E (dV o false L),n,0):=by
  have e:eV now=(3,(jI now).1,(jI now).2.1,(jI now).2.2.1,(jI now).2.2.2.1,(jI now).2.2.2.2):=by unfold eV;rw[hV];rfl
  rw[e,hR]
 have hau:MU now=0:=by unfold MU;rw[hU]
 have hC:Cj now=decide (now=a):=by
  unfold Cj;rw[hU];simp only;rw[hp];exact zj.2 ⟨λh=>(dQ Prod.fst h).symm,λh=>by rw[h]⟩
 refine⟨E (dV o false L),n,?_,?_,hD,hn,by rw[hM],hV⟩
 ·unfold wL;rw[aw (λq=>q hau),hU]
 ·unfold tB;rw[aw (λq=>q hau),hU,hC]
theorem adP{o:aN}{L:List aJ}{b now:al}(hL:oD L)(hp:jo 3 o L=(b,0))(hs:nK o)(hd:Dam o b now)(h1:(marked now).1≠1)(h2:(marked now).1≠2):Fits now:=by
 obtain⟨ho,hc,hl,hb⟩:=MA (show sr o L=(b,0) from hp);obtain⟨b1,b2,b3⟩:=CP hL ho hs;obtain⟨nb,n,q1,q2,q3,q4,q5,q6⟩:=Nk hL.t hp hs hd h1 h2;refine⟨?_,λq=>absurd q6 q,by rw[q5];omega⟩;rw[hd.len,hb];omega
section
section
variable{P:Program}{w:World}{t:TypeId}
theorem Zx{α β:Type}{f0 f1:Field}{F0:α->Value}{F1:β->Value}{O0:α->Prop}{O1:β->Prop}(ht:P.underlying t=some (.struct #[f0,f1]))(hc:P.cellsOf t=2)(h0:f0.offset=0∧P.cellsOf f0.type=1)(h1:f1.offset=1∧P.cellsOf f1.type=1)(d0:lQ P w f0.type (λx=>[F0 x]) O0)(d1:lQ P w f1.type (λx=>[F1 x]) O1):
  lQ P w t (λx:α×β=>[F0 x.1,F1 x.2]) (λx=>O0 x.1∧O1 x.2):=by
 intro H enc n cs y h;obtain⟨xs,n',_,_,hl,hx,hf⟩:=DataW.trod_struct ht h;rw[hc]at hl;obtain⟨c0,c1,rfl⟩:∃c0 c1,cs=[c0,c1]:=by
  match cs,hl with
  |[c0,c1],_=>exact⟨c0,c1,rfl⟩
 obtain⟨y0,y1,rfl⟩:∃y0 y1,xs=[y0,y1]:=by
  match xs,hx with
  |[y0,y1],_=>exact⟨y0,y1,rfl⟩
 have g0:=hf 0 f0 rfl;have g1:=hf 1 f1 rfl;rw[h0.1,h0.2]at g0;rw[h1.1,h1.2]at g1;obtain⟨a,ea,oa⟩:=d0 H enc _ _ _ g0;obtain⟨b,eb,ob⟩:=d1 H enc _ _ _ g1;simp at ea eb;exact⟨(a,b),by simp[ea,eb],oa,ob⟩
end
abbrev kB:=Nat×UInt8
def kB.cells(x:kB):cZ:=[.int .u16 (x.1:Int),.int .u8 (x.2.toNat:Int)]
def kB.ok(x:kB):Prop:=x.1<65536∧True
theorem adr(w:World):lQ Tryz.prog w 59 kB.cells kB.ok:=
 Zx underlying59 ag ⟨rfl,ag⟩ ⟨rfl,ag⟩ (ai1 underlying57) (ads underlying5)
def turns(L:List kB):cZ:=L.flatMap kB.cells
def vx(L:List kB)(k:Nat):kB:=L.getD k (0,0)
theorem Rc{L:List kB}{k:Nat}(hk:k<E L){j:Nat}(hj:j<2):(turns L)[k*2+j]? =(kB.cells (vx L k))[j]? :=by
 rw[turns,uE (size:=2) (λ_=>rfl) L k j hj,vx,ba,fc hk];rfl
theorem abS{L:List kB}(h:∀x∈L,kB.ok x){k:Nat}(hk:k<E L):(vx L k).1<65536:=by
 refine(h _ ?_).1;rw[vx,ba,fc hk];exact oT hk
end
def Tj(b now:al)(k hd:Nat):Prop:=
 (0<k->now.take 21=b.take 21∨(¬rb (now.take 21)∧1<=hd))∧
 (1<k->now.drop (E b-21)=b.drop (E b-21)∨(¬rb (now.drop (E b-21))∧1<=hd∧(now.take 21≠b.take 21->2<=hd)))
def Ti(b:al)(k:Nat):al:=(b.drop (k*(E b-21))).take 21
theorem aes(b:al):Ti b 0=b.take 21:=by unfold Ti;rw[qC,rr]
theorem aet(b:al):Ti b 1=b.drop (E b-21):=by
 unfold Ti;rw[lz,fC];rw[iG];omega
theorem an8(b now:al):Tj b now 0 0:=⟨λh=>absurd h ax,λh=>absurd h ax⟩
theorem aac{b now:al}{k hd:Nat}(hl:E now=E b)(hk:k<2)(h:Ti b k=Ti now k)(H:Tj b now k hd):Tj b now (k+1) hd:=by
 rcases(show k=0∨k=1 by omega)with rfl|rfl
 ·rw[aes,aes]at h;exact⟨λ_=>.inl h.symm,λq=>absurd q ax⟩
 ·rw[aet,aet,hl]at h;exact⟨λ_=>H.1 ax,λ_=>.inl h.symm⟩
theorem aab{b now:al}{k hd:Nat}(hl:E now=E b)(hk:k<2)(hc:¬rb (Ti now k))(H:Tj b now k hd):Tj b now (k+1) (hd+1):=by
 rcases(show k=0∨k=1 by omega)with rfl|rfl
 ·rw[aes]at hc;exact⟨λ_=>.inr ⟨hc,aa⟩,λq=>absurd q ax⟩
 ·rw[aet,hl]at hc;refine⟨λ_=>?_,λ_=>.inr ⟨hc,aa,λq=>?_⟩⟩
  ·rcases H.1 ax with a|a
   ·exact .inl a
   ·exact .inr ⟨a.1,aa⟩
  ·rcases H.1 ax with a|a
   ·exact absurd a q
   ·have:=a.2;omega
theorem aeu{o:aN}{b now:al}{hd:Nat}(hl:E now=E b)(H:Tj b now 2 hd)(h2:hd<2)(hc:adp o b now):Dam o b now:=by
 refine⟨hl,(H.1 ax).imp id (·.1),(H.2 ax).imp id (·.1),?_,hc⟩;rcases H.2 ax with a|a
 ·exact .inr a
 ·exact .inl (bA λq=>by have:=a.2.2 q;omega)
def RA(c:Nat)(b:al)(i:Nat):al:=(b.drop (21+i*c)).take c
def UD(o:aN)(b now:al)(i n:Nat):Prop:=
 P8 (o.2.2.2.1.toNat+o.2.2.2.2.1.toNat) o.2.2.2.2.1.toNat i n ((Iq (o.2.2.2.2.2.toNat+4) b now).drop i)->adp o b now
theorem apo(o:aN)(b now:al):UD o b now 0 0:=λh=>by rw[rr]at h;exact h
theorem agt{o:aN}{b now:al}{i n c:Nat}(hc:c=o.2.2.2.2.2.toNat+4)(h:¬21+(i+1)*c<=E b-21)(H:UD o b now i n):adp o b now:=by
 subst hc;refine H ?_;rw[af9 aa h];exact trivial
theorem abk{o:aN}{b now:al}{i n c p:Nat}(hc:c=o.2.2.2.2.2.toNat+4)(hp:p=o.2.2.2.1.toNat+o.2.2.2.2.1.toNat)(hl:E now=E b)(h:21+(i+1)*c<=E b-21)(he:RA c b i=RA c now i)(H:UD o b now i n):UD o b now (i+1) (if i%p=0 then 0 else n):=λq=>by
 subst hc;subst hp;refine H ?_;rw[Qi hl aa h,Ui he];exact q
theorem abj{o:aN}{b now:al}{i n c p:Nat}(hc:c=o.2.2.2.2.2.toNat+4)(hp:p=o.2.2.2.1.toNat+o.2.2.2.2.1.toNat)(hl:E now=E b)(h:21+(i+1)*c<=E b-21)(oh:¬RA c b i=RA c now i)(hs:(aH (RA c now i)).2≠0)(hn:(if i%p=0 then 0 else n)+1<=o.2.2.2.2.1.toNat)(H:UD o b now i n):UD o b now (i+1) ((if i%p=0 then 0 else n)+1):=λq=>by
 subst hc;subst hp;refine H ?_;rw[Qi hl aa h,Uj oh];exact⟨hs,hn,q⟩
theorem aiP{c i:Nat}{b:al}(h:21+(i+1)*c<=E b-21):E (RA c b i)=c:=by
 unfold RA;rw[eY,iG];rw[kz,lz]at h;omega
theorem Pz:type_of% @Nat.mod_two_eq_zero_or_one:= @Nat.mod_two_eq_zero_or_one
def ux(x:Nat):Nat:=if x%2=1 then x/2 ^^^ 3988292384 else x/2
def AI:Nat->Nat->Nat
 |0,x=>x
 |j+1,x=>ux (AI j x)
theorem aiu{x:Nat}(h:x<4294967296):ux x<4294967296:=by
 unfold ux;split
 ·exact Dh (n:=32) aa ax
 ·omega
theorem acS(a b:Nat):ux (a ^^^ b)=ux a ^^^ ux b:=by
 have h1:(a ^^^ b)/2=a/2 ^^^ b/2:=by
  have:=Nat.shiftRight_xor_distrib (a:=a) (b:=b) (i:=1);rw[wX,wX,wX]at this;exact this
 have h2:(a ^^^ b)%2=(a%2+b%2)%2:=by
  have:=Nat.testBit_xor a b 0;rw[Nat.testBit_zero,Nat.testBit_zero,Nat.testBit_zero]at this;rcases Pz a with ha|ha<;>rcases Pz b with hb|hb<;>rcases Pz (a ^^^ b)with hc|hc<;>simp[ha,hb,hc]at this⊢
 unfold ux;rw[h1,h2];rcases Pz a with ha|ha<;>rcases Pz b with hb|hb<;>rw[ha,hb]
 ·rfl
 ·rw[ao ax,aw ax,ao rfl,FF]
 ·rw[ao ax,ao rfl,aw ax,FF,FF,Nat.xor_comm (b/2)]
 ·rw[aw ax,ao rfl,ao rfl];have:a/2 ^^^ 3988292384 ^^^ (b/2 ^^^ 3988292384)=a/2 ^^^ b/2 ^^^ (3988292384 ^^^ 3988292384):=by
   rw[FF,<-FF 3988292384,Nat.xor_comm 3988292384 (b/2),FF (b/2),<-FF]
  rw[this,Nat.xor_self,Nat.xor_zero]
theorem NB(a b:Nat):∀j,AI j (a ^^^ b)=AI j a ^^^ AI j b
 |0=>rfl
 |j+1=>by rw[AI,NB a b j,acS];rfl
theorem yp(y:Nat):ux (y*2)=y:=by
 unfold ux;rw[aw aa];omega
theorem ais(y:Nat):AI 4 (y*16)=y:=by
 show ux (ux (ux (ux (y*16))))=y;rw[show y*16=y*2*2*2*2 by omega,yp,yp,yp,yp]
theorem ait:∀i,i<16->AI 4 i=w9.getD i 0:=by decide
theorem akV(x:Nat):(x >>> 4)*16 ^^^ (x &&& 15)=x:=by
 have h1:(x >>> 4)*16=(x >>> 4) <<< 4:=by rw[Nat.shiftLeft_eq]
 rw[h1];apply Nat.eq_of_testBit_eq;intro i;rw[Nat.testBit_xor,Nat.testBit_shiftLeft,Nat.testBit_shiftRight,show(15:Nat)=2^4-1 by decide,Nat.testBit_and,Nat.testBit_two_pow_sub_one];by_cases h:4<=i
 ·simp[h,show¬i<4 by omega,show 4+(i-4)=i by omega]
 ·simp[h,show i<4 by omega]
theorem aq0(x:Nat):AI 4 x=yF x:=by
 conv=>lhs;rw[<-akV x]
 rw[NB,ais,ait _ (by have:x &&& 15<=15:=Nat.and_le_right;omega)];rfl
theorem atS(x:Nat)(d:UInt8):AI 8 (x ^^^ d.toNat)=HO x d:=by
 have h:∀y,AI 8 y=AI 4 (AI 4 y):=λ_=>rfl;rw[h,aq0,aq0];rfl
theorem ama{s:Nat}(h:s<4294967296):4294967295-s=4294967295 ^^^ s:=by
 apply Nat.eq_of_testBit_eq;intro i;have h1:=Nat.testBit_two_pow_sub_succ (n:=32) (x:=s) h i;have h2:=Nat.testBit_two_pow_sub_one 32 i;rw[show(2:Nat)^32-(s+1)=4294967295-s by omega]at h1;rw[show(2:Nat)^32-1=4294967295 by decide]at h2;rw[Nat.testBit_xor,h1,h2];by_cases q:i<32
 ·simp[q]
 ·have:s.testBit i=false:=Nat.testBit_lt_two_pow (uT (show s<2^32 from h) (gJ ax aa));simp[q,this]
theorem apM(x:Nat):UInt8.ofNat (x%256)=UInt8.ofNat x:=by
 apply mR.1;rw[tX,tX];exact Nat.mod_mod_of_dvd _ (Nat.dvd_refl _)
theorem UO{z k:Nat}(h:k<4):(jP z).take (k+1)=(jP z).take k++[UInt8.ofNat (z/256^k%256)]:=by
 have h1:z >>> 8=z/256:=wX ..;have h2:z >>> 16=z/65536:=wX ..;have h3:z >>> 24=z/16777216:=wX ..;rw[apM];unfold jP;rw[h1,h2,h3]
 match k,h with
 |0,_=>rw[Nat.pow_zero,Nat.div_one];rfl
 |1,_=>rfl
 |2,_=>rfl
 |3,_=>rfl
theorem adm{l:al}(h:E l<4):(aH l).2=1:=by unfold aH;rw[ao h]
theorem adn{l:al}{m:Nat}(h:¬E l<4)(hm:m=E l-4):(aH l).2=if cv (l.take m)=l then 0 else 5:=by
 unfold aH cv;rw[aw h,<-hm];have e:l.drop m=jP (ma 0 (l.take m))↔l.take m++jP (ma 0 (l.take m))=l:=by
  constructor
  ·intro q;rw[<-q,jd]
  ·intro q
   conv=>lhs;rw[<-q]
   exact mo nf
 by_cases q:l.drop m=jP (ma 0 (l.take m))
 ·rw[ao q,ao (e.1 q)]
 ·rw[aw q,aw (λk=>q (e.2 k))]
theorem ot{l:al}(h:E l<5):marked l=(0,1):=by unfold marked;rw[ao aa]
theorem afo{l:al}(h:¬E l<5):marked l=
  if (l.getD 0 0).toNat=70∧(l.getD 1 0).toNat=73∧(l.getD 2 0).toNat=82∧(l.getD 3 0).toNat=75 then
   (if 1<=(l.getD 4 0).toNat∧(l.getD 4 0).toNat<=3 then (((l.getD 4 0).toNat:Int),0) else (0,4)) else (0,3):=by
 rcases l with _|⟨a,_|⟨b,_|⟨c,_|⟨d,_|⟨e,r⟩⟩⟩⟩⟩
 ·exact absurd ak h
 ·exact absurd ak h
 ·exact absurd ak h
 ·exact absurd ak h
 ·exact absurd ak h
 ·have hc:(List.take 4 (a::b::c::d::e::r)=ef)↔(a.toNat=70∧b.toNat=73∧c.toNat=82∧d.toNat=75):=by
   show([a,b,c,d]=[70,73,82,75])↔_;simp only[aay,and_true];rw[<-mR,<-mR,<-mR,<-mR];exact Iff.rfl
  show marked _=if a.toNat=70∧b.toNat=73∧c.toNat=82∧d.toNat=75 then (if 1<=e.toNat∧e.toNat<=3 then ((e.toNat:Int),0) else (0,4)) else (0,3)
  unfold marked;rw[aw ak];by_cases q:a.toNat=70∧b.toNat=73∧c.toNat=82∧d.toNat=75
  ·rw[aw (λk=>k (hc.2 q)),ao q];show(if¬DW (e.toNat:Int) 1 3 then _ else _)=_;by_cases p:1<=e.toNat∧e.toNat<=3
   ·rw[aw (λk=>k ⟨aa,aa⟩),ao p];rfl
   ·rw[ao (λk=>p ⟨by have:=k.1;omega,by have:=k.2;omega⟩),aw p]
  ·rw[ao (λk=>q (hc.1 k)),aw q]
end Go.Proofs.YtaodmbolhoafcaaGreatDoor

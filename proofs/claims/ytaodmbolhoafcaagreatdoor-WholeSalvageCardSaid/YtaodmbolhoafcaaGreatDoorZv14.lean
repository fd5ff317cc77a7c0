/-
  Texts of one proof, joined: part 14. No condition.
-/
import Derived.Test.YtaodmbolhoafcaaGreatDoorZv13
open List renaming length→E
open Go.RowKit Go.Proofs.Tryz
namespace Go.Proofs.YtaodmbolhoafcaaGreatDoor
set_option linter.unusedVariables false
set_option linter.unusedSimpArgs false
set_option maxRecDepth 20000
variable{P:Prop}{a p1:Nat}{e:Int}{B:Nat}{w0:World}{F:aN}{A:bh}{c g:Nat}{Al:bh}{cl:Nat}{bt:TypeId}{L0:aN}{A1 A2:bh}{n c1 c2:Nat}{l:aq}{q:List Bool}{p:Nat}{L:aN}{Ao:bh}{co g1 g2:Nat}{A3:bh}{c3:Nat}{b:aq}{n2 gc:Nat}{fl:aq}{f:Nat}{most:Int}{R:List bG×Int}{s:Cs}{C0:Ch}
theorem apu(h:P:=by(first|(exact .inl (hz.1 (by omega)))|(exact⟨λh=>.inr (by omega),λh=>h.elim (λh=>absurd (hz.2 h) (by omega)) (λh=>by omega)⟩))):P:=h
theorem afh(acc:aq)(m:Nat):bv (acc++List.replicate m 0)++[Value.int .u8 0]=bv (acc++List.replicate (m+1) 0):=by
 simp[bv,EW]
theorem vv(q:List Bool)(p0:Nat)(SV:p0<=E q)(hq:E q<=8000000)(n:Int)(h1:-9223372036854775808<=n)(h2:n<=9223372036854775807)(CN:aq)(e':Int)(p':Nat)(hR:nW q p0 n=(CN,e',p')):
  bg B w0 100 [bq g,ah n] (Rf g A c q p0 F) (λr L=>∃A' c',r= .tuple #[.slice A' (E CN) c',ah e']/\L=Rf g A c q p' (.own 5 1 A' (E CN) c' (bv CN)::F)):=by
 refine ba func100 72 [0,1] 8 ?_;refine aM 5 1 none (bf 1 6 17 [0,1] (n<0\/300<n) ?_ ?_)
 ·refine bk 3 (λgT=>?_) (λgT=>?_)
  ·exact ax 4 (k:=DN)
  ·exact ax 2 (k:=J5)
 ·refine ag 2 (λgH=>?_) λgH=>?_
  ·rw[nW,av gH]at hR;obtain⟨rfl,rfl,rfl⟩:=C' hR;refine cY ?_;exact ak (Wk.c_ (Qp _ _ _ _)) (bO 1)
  ·obtain⟨N,rfl⟩:=gl (show 0<=n by omega);rw[nW,aB gH,lJ]at hR;refine fc ?_;refine aM 5 1 none (fF ?_);refine aw (λzf zL zm=>∃(f p:Nat) (acc:aq) (s:Bool) (A6:bh) (c6:Nat) (z:Int),(E acc<=N/\N<=E acc+f/\p<=E q/\lN q N f p acc s=(CN,e',p')/\(z<64↔s=true))/\N-E acc=zm/\Sub zf [(0,bq g),(1,ah N),(6,.slice A6 (E acc) c6),(7,ah z)]/\Wk zL (Rf g A c q p (.own 5 1 A6 (E acc) c6 (bv acc):: .own 5 1 none 0 0 []::F))) _ ⟨N,p0,[],false,none,0,64,⟨bD _,ao,SV,hR,ao⟩,rfl,a_,Wk.c_ (Qq _ _ _ _ _)⟩ ?_;rintro _ _ _ ⟨f,p,acc,s,A6,c6,z,⟨CU,haf,hpq,xp,hz⟩,rfl,hs,hp⟩;refine aL hs hp (ag 9 (λmQ=>?_) λmQ=>?_)
   ·obtain⟨f',rfl,aup,EH⟩:=PS xp haf aa;have hv4:jE q p 4<16:=qL q p (n:=4) aa;have hv6:jE q (fH q p 4) 6<64:=qL q (fH q p 4) (n:=6) aa;have hp4:=mB (q:=q) (p:=p) 4 hpq;have hp6:=mB (q:=q) (p:=fH q p 4) 6 hp4;refine dw ?_;refine ai rfl (Lw q p hpq hq 4 aa aa) (ag 14 (λqa=>?_) λqa=>?_)
    ·have x6:=Xl EH aa qa;obtain⟨rfl,rfl,rfl⟩:=C' x6;refine aD 5 [4,5] 7 ?_;exact ak (bx rfl (au rfl rfl (.skip (.refl _)))) (bO 1)
    ·refine ag 9 (λAU=>?_) λAU=>?_
     ·have hrn:=Lr EH aa aa aa;have q9:E (acc++[UInt8.ofNat (jE q p 4)])=E acc+1:=by simp
      refine dx ?_;refine cC bP rfl rfl rfl rfl rfl (λ_=>rfl) aU aa aa ?_;intro _ A36 c36;rw[<-q9];refine aD 1 [0,1,6] 9 ?_;refine aj ⟨_,aa,f',fH q p 4,acc++[UInt8.ofNat (jE q p 4)],false,A36,c36,64,⟨bS,bS,hp4,hrn,ao⟩,rfl,a_,bx rfl (au rfl rfl (au rfl (akY aa _) (.refl _)))⟩
     ·refine dx ?_;refine ai rfl (Lw q (fH q p 4) hp4 hq 6 aa aa) (aD 5 [0,1,6,7,9,10] 0 ?_);refine ag 8 (λGC=>?_) λGC=>?_
      ·have x6:=PQ EH aa aa aa GC;obtain⟨rfl,rfl,rfl⟩:=C' x6;refine bK 13 ?_;exact ak (bx rfl (au rfl rfl (.skip (.refl _)))) (bO 1)
      ·refine bf 5 12 56 [0,1,6,10] (s=true\/N<=E acc+jE q (fH q p 4) 6) ?_ ?_
       ·refine bk 3 (λxk=>?_) (λxk=>?_)
        ·exact ax 16 (k:=(by exact dG apu))
        ·exact ax 8 (k:=(by exact dT apu))
       ·refine ag 2 (λGD=>?_) λGD=>?_
        ·have x6:=PR EH aa aa aa aa GD;obtain⟨rfl,rfl,rfl⟩:=C' x6;refine dM ?_;exact ak (bx rfl (au rfl rfl (.skip (.refl _)))) (bO 1)
        ·have hrn:=Ls EH aa aa aa aa GD;have oB:E (acc++List.replicate (jE q (fH q p 4) 6+1) (0:UInt8))=E acc+(jE q (fH q p 4) 6+1):=by simp
         have Zn:E acc+jE q (fH q p 4) 6<N:=by by_cases h:N<=E acc+jE q (fH q p 4) 6;exact absurd (.inr h) GD;omega
         refine bK 16 ?_;refine aw (λzf zL zm=>∃(m:Nat) (A6:bh) (c6:Nat),(m<=jE q (fH q p 4) 6+1)/\jE q (fH q p 4) 6+1-m=zm/\Sub zf [(0,bq g),(1,ah N),(6,.slice A6 (E acc+m) c6),(7,ah (jE q (fH q p 4) 6+1:Nat)),(11,ah m)]/\Wk zL (Rf g A c q (fH q (fH q p 4) 6) (.own 5 1 A6 (E acc+m) c6 (bv (acc++List.replicate m 0)):: .own 5 1 none 0 0 []::F))) _ ⟨0,A6,c6,bD _,rfl,a_,bx rfl (au rfl rfl (au rfl ao (.refl _)))⟩ ?_;rintro _ _ _ ⟨m,A6,c6,hm,rfl,hs,hp⟩;refine aL hs hp (ag 8 (λh62=>?_) λh62=>?_)
         ·refine dw ?_;refine cC bP rfl rfl rfl rfl rfl (λ_=>rfl) aU aa aa ?_;intro _ A67 c67;refine dA ?_;refine aj ⟨_,aa,m+1,A67,c67,aa,rfl,a_,bx rfl (au rfl rfl (au rfl (afh acc m) (.refl _)))⟩
         ·have hme:m=jE q (fH q p 4) 6+1:=by omega
          subst hme;rw[<-oB];refine dx ?_;refine aj ⟨_,aa,f',fH q (fH q p 4) 6,acc++List.replicate (jE q (fH q p 4) 6+1) 0,decide (((jE q (fH q p 4) 6:Nat):Int)+1<64),A6,c6,((jE q (fH q p 4) 6+1:Nat):Int),⟨aa,aa,hp6,hrn,by rw[decide_eq_true_iff];omega⟩,rfl,a_,.refl _⟩
   ·refine dg ?_;have hre:=Lp xp aa;refine ew ?_;refine ai rfl (FC acc aA) ?_;refine ag 3 (λh70=>?_) λh70=>?_
    ·have hfn:=acS (p:=p) (show¬Ii acc=0 by omega);rw[hfn.1]at hre;obtain⟨rfl,rfl,rfl⟩:=C' hre;refine cY ?_;exact ak (bx rfl (au rfl rfl (.skip (.refl _)))) (bO 1)
    ·rw[acT (show Ii acc=0 by omega)]at hre;obtain⟨rfl,rfl,rfl⟩:=C' hre;refine dh ?_;exact ak (bx rfl (au rfl rfl (au rfl rfl (.skip (.refl _))))) (bO 1)
theorem aal(hg:Good l)(hb:gw B w0 F Al cl l):bg B w0 166 [.slice Al (E l) cl] F (λr L=>r=ah 0/\L=F):=by
 have h:=FC l hb;rw[pr hg]at h;exact h
theorem JY(l:aq)(q:List Bool)(hb:gw B w0 F Al cl l)(hg:Good l)(hq:E q<=100000):
  bg B w0 136 [bq g,.slice Al (E l) cl] (Wf g bt A c q F) (λr L=>r=ah 0/\∃A' c',L=Wf g bt A' c' (q++fK l 0) F):=by
 have hf:=hg.1;have hf1:=hf.1;refine ba func136 53 [0,1] 9 ?_;refine ai rfl (aal hg aA) ?_;refine bZ 3 λh9=>?_;refine dA ?_;refine aw (λzf zL zm=>∃(i:Nat) (q':List Bool) (A':bh) (c':Nat),(i<=E l/\E q'<=100000+10*i/\q'++fK l i=q++fK l 0)/\E l-i=zm/\Sub zf [(0,bq g),(1,.slice Al (E l) cl),(5,ah i)]/\Wk zL (Wf g bt A' c' q' F)) _ ⟨0,q,A,c,⟨bD _,aa,rfl⟩,rfl,a_,.refl _⟩ ?_;rintro _ _ _ ⟨i,q',A',c',⟨hik,hql,heq⟩,rfl,hs,hp⟩;refine aL hs hp (ag 9 (λnj=>?_) λnj=>?_)
 ·have hu:=hf.2 _ (bc (k:=i) aa 0);have yO:=VO l 63 (i+1);refine dM ?_;refine bp Nj rfl (FP q' (l.getD i 0).toNat aa 4 aa aa aa) rfl ?_;rintro _ _ ⟨rfl,UT,Vs,cR⟩;obtain rfl:=cR.symm;refine ag 12 (λkq=>?_) λkq=>?_
  ·refine aD 8 [0,1,5] 0 ?_;refine aj ⟨_,aa,i+1,q'++hi (l.getD i 0).toNat 4 4,UT,Vs,⟨aa,U3,aeO heq aa aa⟩,rfl,a_,.refl _⟩
  ·have hz0:(l.getD i 0).toNat=0:=by omega
   refine dA ?_;refine aw (λzf zL zm=>∃(m:Nat),(m<=63/\i+1+m<=E l/\cz l (i+1) 63=m+cz l (i+1+m) (63-m))/\63-m=zm/\Sub zf [(0,bq g),(1,.slice Al (E l) cl),(5,ah (i+m:Nat)),(6,ah m)]/\Wk zL (Wf g bt UT Vs (q'++hi (l.getD i 0).toNat 4 4) F)) _ ⟨0,⟨aa,aa,ao⟩,rfl,a_,.refl _⟩ ?_;rintro _ _ _ ⟨m,⟨anl,hmi,hcz⟩,rfl,hs,hp⟩;refine aL hs hp (bf 3 17 44 [0,1,5,6] (m<63/\i+1+m<E l/\(l.getD (i+1+m) 0).toNat=0) ?_ ?_)
   ·refine bC 6 (λCd=>?_) λCd=>?_
    ·refine dw ?_;refine ab (az (i:=i+1+m) underlying27 ae rfl rfl aa aa aA) rfl ?_;refine bC 6 (λtZ=>?_) λtZ=>?_
     ·exact ax 4 (k:=DN)
     ·exact ax 2 (k:=ahu)
    ·exact ax 10 (k:=ahu)
   ·refine ag 2 (λsm=>?_) λsm=>?_
    ·refine bK 16 ?_;refine aj ⟨_,aa,m+1,⟨aa,aa,alk aa aa aa hcz⟩,rfl,a_,.refl _⟩
    ·have hce:=acu sm hcz;refine dA ?_;refine bp Nj rfl (FP (q'++hi (l.getD i 0).toNat 4 4) m aa 6 aa aa U3) rfl ?_;rintro _ _ ⟨rfl,Q2,Vt,cR⟩;obtain rfl:=cR.symm;refine cY ?_;refine aj ⟨_,aa,i+1+m,q'++hi (l.getD i 0).toNat 4 4++hi m 6 6,Q2,Vt,⟨aa,ap5,by rw[hz0];exact run_eq (q:=q) heq aa aa hce⟩,rfl,a_,.refl _⟩
 ·refine fF ?_;have anc:q'=q++fK l 0:=by rw[<-heq,uy aa,gN]
  subst anc;refine aX ?_;exact⟨rfl,A',c',rfl⟩
def Mt(l:aq)(q:List Bool)(p s:Nat):Prop:=(l.getD s 0).toNat≠0/\p+(l.getD s 0).toNat<=E q/\part q p (l.getD s 0).toNat=place l (l.getD s 0).toNat s
theorem aje(hg:Good l){s:Nat}(hs:s<E l)(hm:Mt l q p s):dN l q p=((s:Int),0,p+(l.getD s 0).toNat):=by
 obtain⟨h0,hlen,oh⟩:=hm;obtain⟨k,hk⟩:=cM ((l.getD s 0).toNat);rw[<-hk]at h0 hlen oh⊢;have EE:k<=15:=by rw[hk];exact hg.1.2 _ (bc hs 0)
 have kh:=pU hs hk.symm;have hpg:=PI l k s;have G8:¬num l k=0:=by
  unfold place at kh hpg;omega
 have WC:∀j,j<=k->part q p j=place l k s/2^(k-j):=λj hj=>by
  have:=nu q p j (k-j);rw[show j+(k-j)=k by omega,oh]at this;exact this.symm
 have SZ:=xO hs hk.symm;have hfk:kP l (part q p k) k=some s:=by
  have e2:nh l k=fst l k:=aB G8;unfold kP;rw[oh,e2,av ⟨hpg,aa⟩,show place l k s-fst l k=num (l.take s) k by unfold place;omega,SZ]
 have hfj:∀j,1<=j->j<k->kP l (part q p j) j=none:=λj h1 h2=>by
  unfold kP;refine aB λhc=>?_;rw[WC j aa]at hc;by_cases hz:num l j=0
  ·omega
  ·have e2:nh l j=fst l j:=aB hz;rw[e2]at hc;have SK:=KB l h1 (k-j) aa;rw[show j+(k-j)=k by omega]at SK;have:=(ON (zd (k-j))).2 (iY SK hpg);omega
 have:=AX (n:=there q p) (by unfold there;omega) hfk hfj 15 1 (ga _) aa aa;unfold dN;rw[this]
theorem On{x k s:Nat}(h:kP l x k=some s):place l k s=x:=by
 obtain⟨hs,hk⟩:=EA h;have kh:=pU hs hk;have dN:=xO hs hk;unfold kP at h;split at h
 ·rename_i hc;injection h with h;have G8:¬num l k=0:=by omega
  have e2:nh l k=fst l k:=aB G8;rw[e2]at hc h;have IY:=xP l k;have SO:num (l.take s) k<num l k:=by unfold place at kh;omega
  have hnd:(kZ l k).Pairwise (· < ·):=List.pairwise_lt_range.filter _;rw[bz,fx aa]at h dN;simp only[wA]at h dN;have hii:x-fst l k=num (l.take s) k:=by
   rcases OQ (x-fst l k) (num (l.take s) k)with c|c|c
   ·have:=qq.1 hnd _ _ aa aa c;omega
   ·exact c
   ·have:=qq.1 hnd _ _ aa aa c;omega
  unfold place;omega
 ·cases h
theorem aiA(hp:p<=E q)(h:(dN l q p).2.1=0):∃s:Nat,s<E l/\Mt l q p s/\dN l q p=((s:Int),0,p+(l.getD s 0).toNat):=by
 unfold dN at h⊢;cases hf:mV l q p (there q p) 15 1 with
 |none=>
  rw[hf]at h;simp only at h;split at h<;>omega
 |some sk=>
  obtain⟨s,k⟩:=sk;obtain⟨h1,h2,h3⟩:=EC 15 1 hf;obtain⟨h4,h5⟩:=EA h3;have h6:=On h3;unfold there at h2;refine⟨s,h4,⟨aa,aa,?_⟩,?_⟩
  ·rw[h5];exact h6.symm
  ·simp only[h5]
theorem Ke(hg:Good l){s:Nat}(hs:s<E l)(h0:(l.getD s 0).toNat≠0):code l s=(place l (l.getD s 0).toNat s:Int)/\place l (l.getD s 0).toNat s<2^(l.getD s 0).toNat/\(l.getD s 0).toNat<=15:=by
 obtain⟨k,hk⟩:=cM ((l.getD s 0).toNat);have EE:k<=15:=by rw[hk];exact hg.1.2 _ (bc hs 0)
 have kh:=pU hs hk.symm;rw[<-hk]at h0⊢;have hb:=oZ hg (k:=k) aa EE;have hp:2^k<=32768:=gz (n:=2) aa EE;refine⟨?_,aa,EE⟩;unfold code;rw[<-hk,aB h0,IntKind.wrap_u16];omega
theorem Nl(hg:Good l){s:Nat}(hs:s<E l)(h0:(l.getD s 0).toNat≠0):(ints .u16 (dU l))[s*1]? =some (.int .u16 (place l (l.getD s 0).toNat s:Int)):=by
 rw[<-(Ke hg hs h0).1,<-sA l hs,cH];simp[ints,bz,fx,hs]
theorem apz(h:P:=by(first|exact .inl Wp|exact⟨λh=>.inr (by omega),λh=>by have:=h.resolve_left (by simp[Wp]);omega⟩)):P:=h
theorem Me(hg:Good l)(hl:E l<=300)(hb:gw B w0 F A c l):bg B w0 101 [.slice A (E l) c] F
  (λr L=>∃A1 c1 A2 c2,r= .tuple #[.agg #[.slice A1 (E l) c1,.slice A2 (E l) c2],ah 0]/\L= .own 5 1 A1 (E l) c1 (bv l):: .own 57 1 A2 (E l) c2 (ints .u16 (dU l))::F):=by
 refine fw func101 20 [0] ?_;refine bW 2 λg2=>?_;refine dw ?_;refine ay rfl (afd l hb.cons hg) λA8 c8=>ag 14 (λjZ=>?_) λjZ=>?_
 ·exfalso;exact jZ rfl
 ·refine fb ?_;refine cv (fA bP) λqh=>aX ?_;refine dB (bB bP rfl aU rfl aA bY aa aa) λUS c17=>?_;rw[mH,mh];refine aX ?_;refine ab (eJ [(0,_),(1,_)] [_,_] rfl rfl ae) rfl (dx ?_);refine ak ((lU (dL (dL (.refl _))))) (iH rfl rfl ae aU jI rfl (.skip (.refl _)) ?_);exact⟨US,c17,A8,c8,rfl,rfl⟩
theorem Mf(hg:Good l){s:Nat}(hs:s<E l)(h0:(l.getD s 0).toNat≠0)(hl:E l<=300)(hq:E q<=7000000)(nC:gw B w0 F A1 c1 l)(nD:aJ B w0 F 1 (.slice A2 (E l) c2) (E l) (ints .u16 (dU l))):
  bg B w0 138 [.agg #[.slice A1 (E l) c1,.slice A2 (E l) c2],bq g,ah (s:Int)] (Wf g bt A c q F)
   (λr L=>r=ah 0/\∃A' c',L=Wf g bt A' c' (q++hw l s) F):=by
 obtain⟨Rc,KJ,hc3⟩:=Ke hg hs h0;have hca:=Nl hg hs h0;have hw0:hw l s=hi (place l (l.getD s 0).toNat s) (l.getD s 0).toNat (l.getD s 0).toNat:=rfl;obtain⟨k,hk⟩:=cM ((l.getD s 0).toNat);obtain⟨v,hv⟩:=cM (place l k s);rw[<-hk]at h0 Rc KJ hc3 hca hw0;rw[<-hv]at Rc KJ hca hw0;have ar0:2^k<=32768:=gz (n:=2) aa hc3;refine fw func138 38 [0,1,2] ?_;refine bM 2 λg3=>?_;refine bf 6 17 23 [1,2,3] (False) ?_ ?_
 ·refine bk 3 (λh9=>?_) (λh9=>?_)
  ·refine bk 11 (λj0=>?_) (λj0=>?_)
   ·refine cY ?_;refine ab (l8 ae rfl nC.cons.cons.cons hs) rfl ?_;rw[<-hk];exact ax 3 (k:=aht)
   ·exact ax 6 (k:=MW)
  ·exact ax 13 (k:=MW)
 ·refine ag 2 (λpe=>?_) λpe=>?_
  ·exfalso;exact pe
  ·refine cN 3 (.bI g3 161 [.slice A1 (E l) c1,.slice A2 (E l) c2]::F) ?_;refine aF 0 5 ?_;refine aS 5 rfl (al ae rfl nD.cons aa hca) (aS 6 rfl (be (r:=(v:Int)) underlying57 underlying60 rfl (eQ aa aa)) (aF 7 4 ?_));refine aS 11 rfl (al (v:=.int .u8 (k:Int)) ae rfl nC.cons aa (by rw[hk];exact DV hs)) (aS 12 rfl (be (r:=(k:Int)) underlying5 underlying3 rfl (bj aa aa)) (aC 13 (gS rfl .no Nj rfl ((FP (g:=g) (bt:=bt) (A:=A) (c:=c) q v aa k aa KJ hq).perm ((oI (oI (gh (.refl _)))))) rfl (by rintro _ _ ⟨rfl,ME,Yj,rfl⟩;exact gI) ?_)));rintro _ _ ⟨rfl,ME,Yj,cR⟩;obtain rfl:=cR.symm;refine dI 14 ?_;refine di [6] ?_;refine ew ?_;refine ak (L':=Wf g bt ME Yj (q++hi v k k) F) (.cons (.cons (.skip (.refl _)))) (aX ?_);rw[hw0];exact⟨rfl,ME,Yj,rfl⟩
def att(l:aq)(q:List Bool)(p g:Nat)(A:bh)(c:Nat)(F:aN)(r:Value)(L:aN):Prop:=
 ∃(s e:Int) (p':Nat),r= .tuple #[ah s,ah e]/\L=Rf g A c q p' F/\(p<=p'/\p'<=E q/\(e=0->∃s':Nat,s=s'/\s'<E l/\p<p')/\((dN l q p).2.1=0->s=(dN l q p).1/\e=0/\p'=(dN l q p).2.2))
theorem ag7(hg:Good l)(hl:E l<=300)(hp:p<=E q)(hq:E q<=8000000)(nC:gw B w0 F A1 c1 l)(nD:aJ B w0 F 1 (.slice A2 (E l) c2) (E l) (ints .u16 (dU l))):
  bg B w0 102 [.agg #[.slice A1 (E l) c1,.slice A2 (E l) c2],bq g] (Rf g A c q p F) (att l q p g A c F):=by
 refine fw func102 78 [0,1] ?_;refine bM 2 λg2=>?_;refine bK 16 ?_;refine aw (λzf zL zm=>∃(i:Nat) (pt:Bool),(i<=E l/\∀s,s<i->¬Mt l q p s)/\E l-i=zm/\Sub zf [(1,bq g),(2,bq g2),(6,.bool pt),(7,ah (i:Int))]/\Wk zL (.bI g2 161 [.slice A1 (E l) c1,.slice A2 (E l) c2]::Rf g A c q p F)) _ ⟨0,false,⟨bD _,λs h=>aa⟩,rfl,a_,.refl _⟩ ?_;rintro _ _ _ ⟨i,pt,⟨hi,rz⟩,rfl,hs,hp⟩;refine aL hs hp ?_;clear hs hp;refine ag 10 (λgH=>?_) λgH=>?_
 ·obtain⟨n,hn⟩:=cM ((l.getD i 0).toNat);have auS:n<=15:=by rw[hn];exact hg.1.2 _ (bc aa 0)
  refine dh ?_;refine ab (al (v:=.int .u8 (n:Int)) ae rfl nC.cons.cons.cons aa (by rw[hn];exact DV aa)) rfl (ab (be (r:=(n:Int)) underlying5 underlying3 rfl (bj aa aa)) rfl (ag 10 (λkq=>?_) λkq=>?_))
  ·refine aD 8 [1,2,6,7] 0 ?_;refine aj ⟨_,aa,i+1,pt,⟨aa,λs h=>by
    rcases qe s i with h2|h2
    ·exact rz s h2
    ·obtain rfl:s=i:=by omega
     exact λk=>k.1 aa⟩,rfl,a_,.refl _⟩
  ·have hn0:(l.getD i 0).toNat≠0:=by omega
   have hca:=Nl hg (s:=i) aa hn0;obtain⟨Rc,KJ,hc3⟩:=Ke hg (s:=i) aa hn0;rw[<-hn]at hca Rc KJ hc3 hn0;obtain⟨v,hv⟩:=cM (place l n i);rw[<-hv]at hca Rc KJ;have ar0:2^n<=32768:=gz (n:=2) aa auS;have ar3:pkV q p (n:Int)=part q p n:=by unfold pkV;rw[aB aa,lJ]
   have yT:pkN q p (n:Int)=min (n:Int) (E q-p):=by unfold pkN;rw[aB aa]
   have au7:=lT q p n;obtain⟨x,hx⟩:=cM (part q p n);obtain⟨tn,htn⟩:∃tn:Nat,(tn:Int)=min (n:Int) (E q-p):=⟨min n (E q-p),aa⟩
   rw[<-hx]at ar3 au7;rw[<-htn]at yT;refine dw ?_;refine ai rfl ((by have h0:=(Xr (B:=B) (w0:=w0) (F:=.bI g2 161 [.slice A1 (E l) c1,.slice A2 (E l) c2]::F) (g:=g) (A:=A) (c:=c) q p hp hq (n:Int) aa aa).perm ((oI (oI (gh (.refl _)))));rw[ar3,yT]at h0;exact h0)) (aD 5 [1,2,6,7,8,9,10] 7 ?_);refine ab (al ae rfl nD.cons.cons.cons aa hca) rfl (ab (be (r:=(v:Int)) underlying57 underlying60 rfl (eQ aa aa)) rfl (bf 6 8 47 [1,2,6,7,8,9,10,11] (tn=n/\x=v) ?_ ?_))
   ·refine bC 4 (λGC=>?_) λGC=>?_
    ·exact ax 6 (k:=amp)
    ·exact ax 3 (k:=amo)
   ·refine ag 2 (λxk=>?_) λxk=>?_
    ·have hmt:Mt l q p i:=⟨by rw[<-hn];exact hn0,by rw[<-hn];have:=xk.1;omega,by rw[<-hn,<-hx,<-hv];exact xk.2⟩
     have hgt:=aje hg aa hmt;rw[<-hn]at hgt;have awP:=xk.1;refine aD 12 [7] 15 ?_;refine ak (L':=Rf g A c q (p+n) F) (bx rfl (.cons (.skip (.refl _)))) (aX ?_);exact⟨i,0,p+n,rfl,rfl,aa,aa,λ_=>⟨i,rfl,aa,aa⟩,λ_=>by rw[hgt];exact⟨rfl,rfl,rfl⟩⟩
    ·have hnm:¬Mt l q p i:=λk=>xk ⟨by have:=k.2.1;rw[<-hn]at this;omega,by have:=k.2.2;rw[<-hn,<-hx,<-hv]at this;exact this⟩;have arU:∀s,s<i+1->¬Mt l q p s:=λs h=>by
      rcases qe s i with h2|h2
      ·exact rz s h2
      ·obtain rfl:s=i:=by omega
       exact hnm
     refine ag 9 (λOg=>?_) λOg=>?_
     ·refine cY ?_;refine aw (λzf zL zm=>∃(k y w:Nat),(k<=n/\y<32768/\w<32768)/\n-k=zm/\Sub zf [(1,bq g),(2,bq g2),(6,.bool pt),(7,ah (i:Int)),(8,ah (n:Int)),(9,.int .u64 (y:Int)),(11,.int .u64 (w:Int)),(12,ah (k:Int))]/\Wk zL (.bI g2 161 [.slice A1 (E l) c1,.slice A2 (E l) c2]::Rf g A c q p F)) _ ⟨tn,x,v,⟨aa,aa,aa⟩,rfl,a_,(lU (dL (dL (.refl _))))⟩ ?_;rintro _ _ _ ⟨k,y,w,⟨hk,hy,hw⟩,rfl,hs,hp⟩;refine aL hs hp ?_;clear hs hp;refine ag 8 (λh64=>?_) λh64=>?_
      ·refine dg ?_;refine ab (iq rfl rfl aE (r:=((y/2:Nat):Int)) (eQ (x:=((y/2:Nat):Int)) aa aa)) rfl (dx ?_);refine ab (iq rfl rfl aE (r:=((w/2:Nat):Int)) (eQ (x:=((w/2:Nat):Int)) aa aa)) rfl (dA ?_);refine aj ⟨_,aa,k+1,y/2,w/2,⟨aa,aa,aa⟩,rfl,a_,.refl _⟩
      ·refine bf 6 6 76 [1,2,7] (pt=true\/y=w) ?_ ?_
       ·refine ew ?_;refine lS rfl rfl rfl (λWp=>?_) (λWp=>?_)
        ·exact ax 6 (k:=(by exact dG apz))
        ·exact ax 3 (k:=(by exact dT apz))
       ·refine dA ?_;refine aj ⟨_,aa,i+1,decide (pt=true\/y=w),⟨aa,arU⟩,rfl,a_,.refl _⟩
     ·refine cY ?_;refine aj ⟨_,aa,i+1,pt,⟨aa,arU⟩,rfl,a_,(lU (dL (dL (.refl _))))⟩
 ·have wx:¬(dN l q p).2.1=0:=λh=>by
   obtain⟨s,hs,hm,_⟩:=aiA hp h;exact rz s aa hm
  refine fB 11 (λh77=>?_) λh77=>?_
  ·refine cY ?_;refine ak (.skip (.refl _)) (aX ?_);exact⟨_,_,p,rfl,rfl,aa,aa,λh=>absurd h aE,λh=>absurd h wx⟩
  ·refine dA ?_;refine ak (.skip (.refl _)) (aX ?_);exact⟨_,_,p,rfl,rfl,aa,aa,λh=>absurd h aE,λh=>absurd h wx⟩
theorem Aw(h:P:=by(repeat (first|exact List.Mem.head _|apply List.Mem.tail))):P:=h
def abv(B:Nat)(w0:World):Prop:=∀(F:aN) (A:bh) (c:Nat) (L:br),aJ B w0 F 1 (.slice A (E L) c) (E L) (k_ L)->E L<=300->(∀k,oN L k<=32769)->
 bg B w0 135 [.slice A (E L) c,ah (15:Nat)] F (λr K=>∃A' c' X,r= .tuple #[.slice A' (E L) c',ah 0]/\K= .own 5 1 A' (E L) c' (bv (iZ (oN L) (E L)))::(X++F))
theorem abm(HL:abv B w0){l:List bG}(hb:aJ B w0 F 3 (.slice A (E l) c) (E l) (f_ l))(hl:E l<=32768)(hm:∀t∈l,dX t):
  bg B w0 75 [.slice A (E l) c] F (λr L=>∃A' c',r= .tuple #[.slice A' (E (packed (kB l))) c',ah 0]/\L= .own 5 1 A' (E (packed (kB l))) c' (bv (packed (kB l)))::F):=by
 have SG:=(ag3 hb hl).mono (R':=Rs l F) λv L' h=>by unfold sq at h;rw[av hm]at h;exact h
 have lB:E (cI l)=265:=fX _ _;have l_:E (dE l)=12:=fX _ _;have My:Good (cI l):=j_ aa;have Zb:Good (dE l):=j_ aa;have j8:=rl (cI l) 265 0 aa;have jj:=rl (dE l) 12 0 aa;have Rb:=λ(K:aN) (A5:bh) (c5:Nat) (hb5:aJ B w0 K 1 (.slice A5 265 c5) 265 (k_ (wD l)))=>HL K A5 c5 (wD l) (by rw[r'];exact hb5) (by rw[r'];omega) (λk=>by rw[LP hm];unfold CQ;have:=If l k;unfold cS at this;split<;>omega);have Sz:=λ(K:aN) (A5:bh) (c5:Nat) (hb5:aJ B w0 K 1 (.slice A5 12 c5) 12 (k_ (mf l)))=>HL K A5 c5 (mf l) (by rw[nG];exact hb5) (by rw[nG];omega) (λk=>by rw[Kv hm];have:=Dk l k;omega);simp only[r',LP hm]at Rb;simp only[nG,Kv hm]at Sz;have eS:iZ (CQ l) 265=cI l:=rfl;have eF:iZ (uo l) 12=dE l:=rfl;rw[eS]at Rb;rw[eF]at Sz;have hM1:∀(K:aN) (A5:bh) (c5:Nat),aJ B w0 K 1 (.slice A5 265 c5) 265 (k_ (wD l))->bg B w0 135 [.slice A5 265 c5,ah (15:Nat)] K (λr K'=>∃A' c' X,r= .tuple #[.slice A' (E (cI l)) c',ah 0]/\K'= .own 5 1 A' (E (cI l)) c' (bv (cI l))::(X++K)):=λK A5 c5 h=>by rw[lB];exact Rb K A5 c5 h
 have hM2:∀(K:aN) (A5:bh) (c5:Nat),aJ B w0 K 1 (.slice A5 12 c5) 12 (k_ (mf l))->bg B w0 135 [.slice A5 12 c5,ah (15:Nat)] K (λr K'=>∃A' c' X,r= .tuple #[.slice A' (E (dE l)) c',ah 0]/\K'= .own 5 1 A' (E (dE l)) c' (bv (dE l))::(X++K)):=λK A5 c5 h=>by rw[l_];exact Sz K A5 c5 h
 refine fw func75 100 [0] ?_;refine bZ 14 λmQ=>?_;refine dx ?_;refine ay rfl (SG) λA1 A2=>ag 16 (λqN=>?_) λqN=>?_
 ·exfalso;exact qN rfl
 ·refine fb ?_;refine ab (eW [.slice none 0 0] ae) rfl (fo λg7=>?_);refine fb ?_;refine aM 5 1 none (mM (L':=Wf g7 217 none 0 [] (.own 135 1 A1 265 265 (k_ (wD l)):: .own 135 1 A2 12 12 (k_ (mf l))::F)) (.swap (.refl _)) (ew ?_));refine dV rfl (hM1 _ _ _ (aJ.own Aw)) λtI tY X34=>aD 5 [0,5,7,8] 2 ?_;refine mM (.cons (ej X34 _)) (ew ?_);refine dV rfl (hM2 _ _ _ (aJ.own Aw)) λMG RR X39=>cY ?_;refine mM (.cons (ej X39 _)) ?_;obtain⟨K,hK⟩:=cM ((.own 5 1 MG (E (dE l)) RR (bv (dE l)):: .own 5 1 tI (E (cI l)) tY (bv (cI l))::F:aN));have hbA:aJ B w0 K 1 (.slice tI (E (cI l)) tY) (E (cI l)) (bv (cI l)):=by rw[hK];exact aJ.own (.tail _ (.head _))
  have hbB:aJ B w0 K 1 (.slice MG (E (dE l)) RR) (E (dE l)) (bv (dE l)):=by rw[hK];exact aJ.own (.head _)
  have hb3:aJ B w0 K 3 (.slice A (E l) c) (E l) (f_ l):=by rw[hK];exact hb.cons.cons
  have xr:Wk K F:=by rw[hK];exact .s2 (.refl _)
  refine mM (L':=Wf g7 217 none 0 [] K) (by rw[hK];exact(lU (lU (dL (dL (.s2 (.refl _))))))) ?_;clear hK;refine ew ?_;refine bp ak4 rfl (JY (cI l) [] hbA My ao) rfl ?_;rintro _ _ ⟨rfl,UU,c43,cR⟩;obtain rfl:=cR.symm;refine dx ?_;refine bp ak4 rfl (JY (dE l) ([]++fK (cI l) 0) hbB Zb (by simp only[mh];omega)) rfl ?_;rintro _ _ ⟨rfl,Ml,Nb,cR⟩;obtain rfl:=cR.symm;refine dx ?_;refine bp Vz rfl (Me My aa hbA.cons.cons) rfl ?_;rintro _ _ ⟨Df,Dj,B47,d47,rfl,cR⟩;obtain rfl:=cR.symm;refine bW 3 λwM=>?_;refine aD 2 [0,7,10,12] 4 ?_;refine bp Vz rfl (Me Zb aa hbB.cons.cons.cons.cons.cons) rfl ?_;rintro _ _ ⟨Q2,Vt,B52,d52,rfl,cR⟩;obtain rfl:=cR.symm;refine bW 3 λg14=>?_;refine dw ?_;obtain⟨K2,KG⟩:=cM ((.own 5 1 Q2 (E (dE l)) Vt (bv (dE l)):: .own 57 1 B52 (E (dE l)) d52 (ints .u16 (dU (dE l))):: .own 5 1 Df (E (cI l)) Dj (bv (cI l)):: .own 57 1 B47 (E (cI l)) d47 (ints .u16 (dU (cI l)))::K:aN));have ha1:aJ B w0 K2 1 (.slice Df (E (cI l)) Dj) (E (cI l)) (bv (cI l)):=by rw[KG];exact aJ.own Aw
  have ha2:aJ B w0 K2 1 (.slice B47 (E (cI l)) d47) (E (cI l)) (ints .u16 (dU (cI l))):=by rw[KG];exact aJ.own Aw
  have hf1:aJ B w0 K2 1 (.slice Q2 (E (dE l)) Vt) (E (dE l)) (bv (dE l)):=by rw[KG];exact aJ.own Aw
  have hf2:aJ B w0 K2 1 (.slice B52 (E (dE l)) d52) (E (dE l)) (ints .u16 (dU (dE l))):=by rw[KG];exact aJ.own Aw
  have ht3:aJ B w0 K2 3 (.slice A (E l) c) (E l) (f_ l):=by rw[KG];exact hb3.cons.cons.cons.cons
  have hwF:Wk K2 F:=by rw[KG];exact .s3 (.skip xr)
  refine mM (L':=.bI g14 161 [.slice Q2 (E (dE l)) Vt,.slice B52 (E (dE l)) d52]:: .bI wM 161 [.slice Df (E (cI l)) Dj,.slice B47 (E (cI l)) d47]::Wf g7 217 Ml Nb ([]++fK (cI l) 0++fK (dE l) 0) K2) (by rw[KG];exact(dL (lU (X4 (X4 (dL (dL (dL (dL (.refl _)))))))))) ?_;clear KG;rw[mh];refine dx ?_;refine aw (λzf zL zm=>∃(k:Nat) (A':bh) (c':Nat),(k<=E l)/\E l-k=zm/\Sub zf [(0,.slice A (E l) c),(7,bq g7),(12,bq wM),(14,bq g14),(16,ah (k:Int))]/\Wk zL (.bI g14 161 [.slice Q2 (E (dE l)) Vt,.slice B52 (E (dE l)) d52]:: .bI wM 161 [.slice Df (E (cI l)) Dj,.slice B47 (E (cI l)) d47]::Wf g7 217 A' c' (fK (cI l) 0++fK (dE l) 0++lQ (cI l) (dE l) (l.take k)) K2)) _ ⟨0,Ml,Nb,bD _,rfl,a_,.cons (.cons (bx H5 (au H5 H5 (.refl _))))⟩ ?_;rintro _ _ _ ⟨k,A',c',hk,rfl,hs,hp⟩;refine aL hs hp (ag 9 (λh59=>?_) λh59=>?_)
  ·obtain⟨t,ht⟩:=cM (vm l k);have OA:=sd (l:=l) (k:=k) aa;rw[<-ht]at OA;have qb:l.take (k+1)=l.take k++[t]:=by rw[ht];exact aP aa _
   have htm:t∈l:=by rw[ht];exact bc aa _
   have hqs:∀k,E (lQ (cI l) (dE l) (l.take k))<=48*E l:=λk=>iY (we My Zb (λt ht=>GQ.of hm (List.take_subset _ _ ht))) jA;have hqk:=hqs k;obtain⟨eu,hz0,CX,sI⟩:=GQ.of hm htm;have Cn:Ql t=bE t:=by unfold Ql;rw[av eu]
   have G':=kV eu;have kh:=pf eu;obtain⟨⟨ps,px,pc,py⟩,hP⟩:∃P,bE t=P:=⟨_,rfl⟩
   have hQ:qW (cI l) (dE l) t=hw (cI l) ps++if ps<256 then [] else hi px (ps-257) (ps-257)++(hw (dE l) pc++hi py pc pc):=by unfold qW;rw[hP]
   rw[hP]at Cn hz0 CX sI G' kh;simp only at hz0 CX sI G' kh;have x_:=j9 (cI l) ps;have awR:=My.1.2 _ (bc hz0 0);have anv:t.2.1=0->ps<256:=λh=>by have:=(kh h).1;simp only[za]at this;have:=kR t.1;omega
   have yN:¬t.2.1=0->257<=ps/\px<2^(ps-257)/\py<2^pc/\pc<=11/\ps<=264:=λh=>⟨(G' h).1,(G' h).2.2.2.1,(G' h).2.2.2.2.1,(G' h).2.2.1,(G' h).2.1⟩
   have sH:¬t.2.1=0->0<t.2.1:=λh=>by have oh:=eu;unfold dX at oh;rw[aB h]at oh;omega
   obtain⟨Q,hQd⟩:=cM (fK (cI l) 0++fK (dE l) 0++lQ (cI l) (dE l) (l.take k));have hQn:fK (cI l) 0++fK (dE l) 0++lQ (cI l) (dE l) (l.take (k+1))=Q++qW (cI l) (dE l) t:=by rw[qb,Gh,hQd];simp only[bT]
   have hQl:E Q<=5000000:=by rw[hQd];simp only[bm];omega
   rw[<-hQd];refine dA ?_;refine ab (bU 3 ae rfl ht3.cons.cons.cons.cons aa (bG.cells t) (kx OA) rfl) rfl (ai rfl (QZ (t:=t) Cn) (bW 3 λg17=>?_));refine dA ?_;refine bp ach rfl (.perm (Mf (s:=ps) My hz0 CX aa aa ha1.cons.cons.cons ha2.cons.cons.cons) ((pu3 (pu3 (gh (gh (gh (.refl _)))))))) rfl ?_;rintro _ _ ⟨rfl,A73,c73,cR⟩;obtain rfl:=cR.symm;refine ve [0,7,12,14,16,17] ?_;refine dw ?_;refine ab (aV underlying170 rfl ae rfl aA aa rfl) rfl ?_;refine ab (bH ae rfl aA aa ((qD ht aa aE).trans rfl)) rfl ?_;refine ag 3 (λh79=>?_) λh79=>?_
   ·obtain⟨nC,nD,hb4,hb5,hb6⟩:=yN aa;obtain⟨hz3,hz4⟩:=sI aa;have av5:2^(ps-257)<=128:=gz (n:=2) aa (show ps-257<=7 by omega);have au3:2^pc<=2048:=gz (n:=2) aa hb5;have hfw:=j9 (dE l) pc;have awo:=Zb.1.2 _ (bc hz3 0);have Mx:Q++qW (cI l) (dE l) t=Q++hw (cI l) ps++hi px (ps-257) (ps-257)++hw (dE l) pc++hi py pc pc:=by rw[hQ,aB aa];simp only[bT]
    refine fb ?_;refine ab (be (r:=(px:Int)) underlying3 underlying60 rfl (eQ aa aa)) rfl (ew ?_);refine ab (cU rfl rfl (r:=((ps-257:Nat):Int)) ((bj aa aa).trans aa)) rfl (bp Nj rfl (FP (Q++hw (cI l) ps) px aa (ps-257) aa nD tg) rfl ?_);rintro _ _ ⟨rfl,A86,c86,cR⟩;obtain rfl:=cR.symm;refine dg ?_;refine bp ach rfl (Mf (s:=pc) Zb hz3 hz4 aa (by simp only[bm,dK];omega) hf1.cons.cons.cons hf2.cons.cons.cons) rfl ?_;rintro _ _ ⟨rfl,A90,c90,cR⟩;obtain rfl:=cR.symm;refine ve [0,7,12,14,16,17] ?_;refine fb ?_;refine ab (be (r:=(py:Int)) underlying3 underlying60 rfl (eQ aa aa)) rfl (ew ?_);refine bp Nj rfl (FP (Q++hw (cI l) ps++hi px (ps-257) (ps-257)++hw (dE l) pc) py aa pc aa hb4 (by simp only[bm,dK];omega)) rfl ?_;rintro _ _ ⟨rfl,A96,c96,cR⟩;obtain rfl:=cR.symm;refine cY ?_;refine aj ⟨_,aa,k+1,A96,c96,aa,rfl,a_,.trans ((vu (vu (dL (dL (.skip (.refl _))))))) (.cons (.cons (bx (by rw[hQn,Mx]) (au (by rw[hQn,Mx]) (by rw[hQn,Mx]) (.refl _)))))⟩
   ·have Ha:Q++qW (cI l) (dE l) t=Q++hw (cI l) ps:=by rw[hQ,av (anv (b_ λh=>h79 (sH h))),gN]
    refine cY ?_;refine aj ⟨_,aa,k+1,A73,c73,aa,rfl,a_,.trans ((vu (vu (dL (dL (.skip (.refl _))))))) (.cons (.cons (bx (by rw[hQn,Ha]) (au (by rw[hQn,Ha]) (by rw[hQn,Ha]) (.refl _)))))⟩
  ·obtain rfl:k=E l:=by omega
   rw[js]at*;have hqs:=we (l:=l) My Zb (λt ht=>GQ.of hm ht);have mj:=My.1.2 _ (bc (by omega:256<E (cI l)) 0);have e:kB l=fK (cI l) 0++fK (dE l) 0++lQ (cI l) (dE l) l++hw (cI l) 256:=by unfold kB;simp only[bT]
   refine cY ?_;refine bp ach rfl (.perm (Mf (s:=256) My aa (ka aa aa (by unfold CQ;simp)) aa HU ha1.cons.cons ha2.cons.cons) ((z_ (z_ (gh (gh (.refl _))))))) rfl ?_;rintro _ _ ⟨rfl,A98,c98,cR⟩;obtain rfl:=cR.symm;refine fb ?_;refine ay rfl (afa _ (by simp only[bm,j9];omega)) λA99 c99=>dx ?_;refine ak (.cons (.s3 (.skip hwF))) (aX ?_);rw[e];exact⟨A99,c99,rfl,rfl⟩
section
set_option maxHeartbeats 1000000
variable{l:br}
theorem apZ(h:P:=by(first|exact λh=>absurd h.1 (by omega)|omega)):P:=h
theorem aj4{R:List sh}{o:Nat->Nat}{S:br}{K:aN}(h:R.map (·.1)=wY o S)(hb:X_ B w0 K R){k:Nat}(hk:k<E S):∃A c,R.getD k nR=(((o (S.getD k 0),true),[S.getD k 0]),A,c)/\aJ B w0 K 1 (.slice A 1 c) 1 (bN [S.getD k 0]):=by
 have hl:E R=E S:=by have:=eG List.length h;simpa[wY]using this
 have h1:=K6 h hk;obtain⟨⟨p,A,c⟩,hx⟩:∃x,x=R.getD k nR:=⟨_,rfl⟩
 have hm:=hb _ (pb (show k<E R by omega) nR);rw[<-hx]at h1 hm⊢;have h1:p=_:=h1;subst h1;exact⟨A,c,rfl,hm⟩
theorem aoM{k v:Nat}(h:k<E l)(e:oN l k=v):(k_ l)[k*1]? =some (.int .u32 ((v:Nat):Int)):=by
 rw[<-e];exact BR h
theorem aiZ{R:List sh}{o:Nat->Nat}{S:br}{t s:Nat}(h:R.map (·.1)=wY o S)(ht:t<E S)(hs:∀x∈S.drop (t+1),s<o x)(hw:s<(R.getD t nR).1.1.1):∀x∈S.drop t,s<o x:=by
 rw[K6 h ht]at hw;rw[cy ht 0];intro x hx;rcases fq.1 hx with e|e
 ·subst e;exact hw
 ·exact hs x e
theorem abj{R:List sh}{X:aN}{t s:Nat}{w:Nat×Bool}(h:X_ B w0 (X++F) R):X_ B w0 (.own 3 1 A 1 1 (bN [s])::X++F) (R.take t++([(((w,[s]),A,1):sh)]++R.drop t)):=λx hx=>by
 rcases dO.1 hx with e|e
 ·exact(h x (ia e)).cons
 ·rcases dO.1 e with e|e
  ·rw[kT.1 e];exact aJ.own (.head _)
  ·exact(h x (oG e)).cons
theorem akI:abv B w0:=by
 intro F Ao co l hbo hl hle;refine cV func135 198 rfl rfl rfl [(0,.slice Ao (E l) co),(1,ah 15)] ⟨⟨rfl,rfl⟩,⟨rfl,rfl⟩,trivial⟩ ?_;refine bf 9 11 32 [0,1] (False) ?_ ?_
 ·refine bk 4 (λqn=>?_) (λqn=>?_)
  ·refine bk 5 (λqN=>?_) (λqN=>?_)
   ·exact ax 4 (k:=oy)
   ·exact ax 2 (k:=abV)
  ·exact ax 6 (k:=abV)
 ·refine bZ 2 λvJ=>?_;refine fc ?_;refine aM 283 2 none (fF ?_);refine aw (λzf zL zm=>∃(s:Nat) (S:br) (R:List sh) (X:aN) (A6:bh) (c6:Nat),(s<=E l/\S=cE (oN l) s/\R.map (·.1)=wY (oN l) S/\E R=E S/\X_ B w0 (X++F) R)/\E l-s=zm/\Sub zf [(0,.slice Ao (E l) co),(1,ah 15),(6,.slice A6 (E R) c6),(7,ah s)]/\Wk zL (.own 283 2 A6 (E R) c6 (iO R)::(X++F))) _ ⟨0,[],[],[],none,0,⟨bD _,rfl,rfl,rfl,λx hx=>absurd hx kS⟩,rfl,a_,.refl _⟩ ?_;rintro _ _ _ ⟨s,S,R,X,A6,c6,⟨j8,hS,hR,Wq,KH⟩,rfl,hs,hp⟩;refine aL hs hp ?_;clear hs hp;refine ag 9 (λCf=>?_) λCf=>?_
  ·have hbX:aJ B w0 (X++F) 1 (.slice Ao (E l) co) (E l) (k_ l):=hbo.mono (fN _ _);obtain⟨v,hv⟩:∃v,oN l s=v:=⟨_,rfl⟩
   have S2:=hle s;have lB:=vX (oN l) s;rw[<-hS]at lB;have hua:=aoM (l:=l) (k:=s) aa hv;refine dh ?_;refine ab (al ae rfl hbX.cons aa hua) rfl (ag 3 (λGC=>?_) λGC=>?_)
   ·have EI:=Ui (o:=oN l) (N:=s) aa;refine dA ?_;refine aj ⟨_,aa,s+1,S,R,X,A6,c6,⟨aa,by rw[hS,EI],hR,Wq,KH⟩,rfl,a_,.refl _⟩
   ·refine fF ?_;refine aw (λzf zL zm=>∃(t:Nat),(t<=E R/\∀x∈S.drop t,v<oN l x)/\t=zm/\Sub zf [(0,.slice Ao (E l) co),(1,ah 15),(6,.slice A6 (E R) c6),(7,ah s),(8,ah t)]/\Wk zL (.own 283 2 A6 (E R) c6 (iO R)::(X++F))) _ ⟨E R,⟨ga _,λx hx=>by rw[Wq,Cu]at hx;cases hx⟩,rfl,a_,.refl _⟩ ?_;rintro _ _ _ ⟨t,⟨ht,hab⟩,rfl,hs,hp⟩;refine aL hs hp ?_;clear hs hp;refine fc ?_;refine sE 16 61 [0,1,6,7,8] (0<t/\v<(R.getD (t-1) nR).1.1.1) ?_ ?_
    ·refine fc ?_;refine jy rfl rfl rfl (λxl=>?_) (λxl=>?_)
     ·refine fb ?_;refine bJ (cU rfl rfl (r:=((t-1:Nat):Int)) ((bj aa aa).trans aa)) rfl (aX ?_);refine bJ (az (i:=t-1) (size:=2) underlying281 ae rfl rfl rfl aa aA) rfl (aX ?_);refine bJ (aV underlying283 rfl ae rfl aA aa rfl) rfl (aX ?_);refine bJ (bH ae rfl aA aa (Qe aa)) rfl (dg ?_);refine bJ (al ae rfl hbX.cons aa hua) rfl (aX ?_);refine bJ (be (r:=(v:Int)) underlying135 underlying60 rfl (eQ aa aa)) rfl (fc ?_);exact ke (by exact dG apZ)
     ·refine dM ?_;exact ke (by exact dS apZ)
    ·refine ag 2 (λh61=>?_) λh61=>?_
     ·have ht0:=h61.1;refine dx ?_;refine ab (cU rfl rfl (r:=((t-1:Nat):Int)) ((bj aa aa).trans aa)) rfl (fc ?_);refine aj ⟨_,aa,t-1,⟨aa,aiZ hR aa (by rw[show t-1+1=t by omega];exact hab) h61.2⟩,rfl,a_,.refl _⟩
     ·have auP:t=0\/oN l (S.getD (t-1) 0)<=oN l s:=by
       by_cases h0:t=0
       ·exact .inl h0
       ·refine .inr ?_;have q:=K6 hR (show t-1<E S by omega);have q2:¬v<(R.getD (t-1) nR).1.1.1:=λk=>h61 ⟨aa,k⟩;rw[q]at q2;rw[hv];exact wW q2
      refine dw ?_;refine BT (aJ.own (.head _)) λoP _=>?_;refine aM 283 2 none ?_;have hb6:aJ B w0 (.own 283 2 A6 (E R) c6 (iO R)::(X++F)) 2 (.slice A6 (E R) c6) (E R) (iO R):=aJ.own (.head _);have aru:=hb6.h_ ht;have art:=hb6.cut ht;rw[(zF R t).1]at aru;rw[(zF R t).2]at art;refine dA ?_;refine ab (bQ (i:=t) (size:=2) underlying281 ae rfl rfl rfl aa) rfl (dB (bB BL rfl aU rfl aru.cons (Qd _) aa aa) λA68 c68=>dA ?_);refine ab (al ae rfl hbX.cons.cons aa hua) rfl (ew ?_);refine cv (aG gF [_] rfl rfl bY aa aa) λA76=>ab (eJ [(0,_),(1,_)] [_,_] rfl rfl ae) rfl (jX BL rfl rfl rfl aa bY rfl rfl rfl (λ_=>rfl) aU aa aa ?_);intro _ A79 c79;refine aD 1 [0,1,6,7,8,9] 5 ?_;refine ab (bV (i:=t) (size:=2) underlying281 ae rfl rfl rfl aa) rfl (dB (bB BL rfl aU rfl art.cons.cons (Qd _) aa aa) λA84 c84=>dA ?_);have arK:=aaH hS (by rw[hv];omega) (by rw[<-Wq];exact ht) (by rw[hv];exact hab) auP;have x6:=aiY (o:=oN l) (t:=t) (N:=s) hR (A76,1);rw[hv]at x6;have ry:E (R.take t++([((((v,true),[s]),A76,1):sh)]++R.drop t))=0+t+1+(E R-t):=by simp;omega
      have hn3:E (S.take t++([s]++S.drop t))=0+t+1+(E R-t):=by simp;omega
      refine aj ⟨_,aa,s+1,cE (oN l) (s+1),R.take t++([((((v,true),[s]),A76,1):sh)]++R.drop t),.own 3 1 A76 1 1 (bN [s])::X,A84,c84,⟨aa,rfl,by rw[arK];exact x6,by rw[ry,arK,hn3],abj KH⟩,rfl,a_,.trans ((gC (dL (.skip (.refl _))))) (au ry.symm (by rw[vh,vh,mh,bT];rfl) (.refl _))⟩
  ·obtain rfl:s=E l:=by omega
   have hSm:∀x∈S,x<E l:=λx hx=>(iT.1 (hS▸hx)).1;have lB:=vX (oN l) (E l);rw[<-hS]at lB;refine bK 20 ?_;refine aw (λzf zL zm=>∃(k:Nat),(k<=15)/\15-k=zm/\Sub zf [(0,.slice Ao (E l) co),(1,ah 15),(6,.slice A6 (E R) c6),(10,ah (E R)),(11,ah ((2^k:Nat):Int)),(12,ah k)]/\Wk zL (.own 283 2 A6 (E R) c6 (iO R)::(X++F))) _ ⟨0,bD _,rfl,a_,.refl _⟩ ?_;rintro _ _ _ ⟨k,hk,rfl,hs,hp⟩;refine aL hs hp ?_;clear hs hp;refine ag 8 (λh89=>?_) λh89=>?_
   ·have hp:2^k<=2^15:=gz aa hk;have hq:(2:Nat)^15=32768:=by decide
    have hr:(2:Nat)^(k+1)=2*2^k:=by rw[ki];omega
    refine dw ?_;refine ab (eo rfl rfl (r:=((2^(k+1):Nat):Int)) (by rw[hr];exact(bj aa aa).trans aa)) rfl (dA ?_);refine aj ⟨_,aa,k+1,aa,rfl,a_,.refl _⟩
   ·obtain rfl:k=15:=by omega
    have hq:(2:Nat)^15=32768:=by decide
    refine bZ 13 λh96=>?_;refine fc ?_;refine aM 5 1 none (fF ?_);refine aw (λzf zL zm=>∃(k:Nat) (so:bh) (xd:Nat),(k<=E l)/\E l-k=zm/\Sub zf [(0,.slice Ao (E l) co),(1,ah 15),(6,.slice A6 (E R) c6),(10,ah (E R)),(13,.slice so k xd),(14,ah k)]/\Wk zL (.own 5 1 so k xd (Da (List.replicate k 0)):: .own 283 2 A6 (E R) c6 (iO R)::(X++F))) _ ⟨0,none,0,bD _,rfl,a_,.refl _⟩ ?_;rintro _ _ _ ⟨k,so,xd,hk4,rfl,hs,hp⟩;refine aL hs hp ?_;clear hs hp;refine ag 9 (λatV=>?_) λatV=>?_
    ·refine dw ?_;refine cC bP rfl rfl rfl rfl rfl (λ_=>rfl) aU aa aa ?_;intro _ amg amF;refine dA ?_;refine aj ⟨_,aa,k+1,amg,amF,aa,rfl,a_,au rfl (by rw[EW];simp[Da]) (.refl _)⟩
    ·obtain rfl:k=E l:=by omega
     have hbv:bv (iZ (oN l) (E l))=Da (iM (oN l) (E l)):=(agE (uR (o:=oN l) hl)).symm;refine ag 12 (λatX=>?_) λatX=>?_
     ·obtain⟨A0,c0,hx0,SB⟩:=aj4 hR KH (k:=0) aa;obtain⟨s0,z7⟩:∃s0,S.getD 0 0=s0:=⟨_,rfl⟩
      rw[z7]at hx0 SB;have awL:s0<E l:=by rw[<-z7];exact hSm _ (bc aa 0)
      have hg0:(iO R)[0*2+1]? =some (.slice A0 1 c0):=by
       have:=XC (L:=R) (k:=0) aa;rw[hx0]at this;exact this
      refine fc ?_;refine ab (az (i:=0) (size:=2) underlying281 ae rfl rfl rfl aa aA) rfl ?_;refine ab (aV underlying283 rfl ae rfl aA aa rfl) rfl ?_;refine ab (bH ae rfl aA aa hg0) rfl ?_;refine ab (az (i:=0) underlying53 ae rfl rfl rfl aa SB.cons.cons) rfl (ab (al ae rfl SB.cons.cons aa (fi (L:=[s0]) (i:=0) (v:=s0) (Nat.lt_succ_self 0) rfl)) rfl (ab (az (i:=s0) underlying27 ae rfl rfl rfl aa aA) rfl ?_));refine ko (fy ae rfl rfl rfl aU (by rw[L7,wT];omega)) ?_;refine aD 7 [1,6,10,13,117] 0 ?_;refine sF 1 λare=>?_;have wz:=zj hS aa;rw[av aa,z7]at wz;refine dA ?_;exact ak (L':=.own 5 1 so (E l) xd (bv (iZ (oN l) (E l)))::((.own 283 2 A6 (E R) c6 (iO R)::X)++F)) (au rfl (by rw[hbv,wz];exact DC _ _ 1) (.refl _)) (nI 1)
     ·refine ag 9 (λare=>?_) λare=>?_
      ·have wz:=zj hS aa;rw[aB aa]at wz;refine dA ?_;exact ak (L':=.own 5 1 so (E l) xd (bv (iZ (oN l) (E l)))::((.own 283 2 A6 (E R) c6 (iO R)::X)++F)) (au rfl (by rw[hbv,wz]) (.refl _)) (nI 1)
      ·have gU:=Tr hl (by rw[<-hS];omega);rw[<-hS,show zi (oN l) (E l)=wY (oN l) S by rw[hS];rfl]at gU;obtain⟨G,hG⟩:=cM ((.own 283 2 A6 (E R) c6 (iO R)::(X++F):aN));have hGb:aJ B w0 G 2 (.slice A6 (E R) c6) (E R) (iO R):=by rw[hG];exact aJ.own (.head _)
       have hGR:X_ B w0 G R:=by rw[hG];exact KH.mono (.cons _ (.refl _))
       have hGF:G=(.own 283 2 A6 (E R) c6 (iO R)::X)++F:=hG;rw[<-hG];clear hG;have hlw:∀x∈wY (oN l) S,x.1.1<=32769/\E x.2<=1/\∀s∈x.2,s<E l:=λx hx=>by
        obtain⟨s,hs,rfl⟩:=qd.1 hx;exact⟨hle s,ga _,λq hq=>kT.1 hq▸hSm s hs⟩
       have hrm:∀r,E (oo (wY (oN l) S) r)<=2*E S/\E S<=E (oo (wY (oN l) S) r):=λr=>by
        have h1:=Lx ((wY (oN l) S).map (·.1)) r;rw[<-vd,eZ,eZ]at h1;have h2:E (wY (oN l) S)=E S:=by simp[wY]
        omega
       refine bK 15 ?_;refine aw (λzf zL zm=>∃(r:Nat) (R2:List sh) (Y:aN) (qh:bh) (tX:Nat),(r<=14/\R2.map (·.1)=oo (wY (oN l) S) r/\X_ B w0 (Y++G) R2/\aJ B w0 (Y++G) 2 (.slice qh (E R2) tX) (E R2) (iO R2))/\14-r=zm/\Sub zf [(1,ah 15),(6,.slice A6 (E R) c6),(10,ah (E R)),(13,.slice so (E l) xd),(15,.slice qh (E R2) tX),(16,ah ((r+1:Nat):Int))]/\Wk zL (.own 5 1 so (E l) xd (Da (List.replicate (E l) 0))::(Y++G))) _ ⟨0,R,[],A6,c6,⟨bD _,hR,hGR,hGb⟩,rfl,a_,.refl _⟩ ?_;rintro _ _ _ ⟨r,R2,Y,qh,tX,⟨hr,x6,am3,tN⟩,rfl,hs,hp⟩;refine aL hs hp ?_;clear hs hp;refine ag 8 (λat2=>?_) λat2=>?_
       ·have KL:=hrm r;have oB:E R2=E (oo (wY (oN l) S) r):=by rw[<-x6,eZ]
        have S3:∀k,k<E R2->(R2.getD k nR).1.1.1<=32769*2^14/\E (R2.getD k nR).1.2<=2^14:=λk hk=>by
         have h1:=Ly hlw r (R2.getD k nR).1 (by rw[<-x6];exact jr (pb hk nR));have h2:(2:Nat)^r<=2^14:=gz aa aa;have h3:32769*2^r<=32769*2^14:=Cz _ h2;omega
        have gT:(2:Nat)^14=16384:=by decide
        rw[gT]at S3;refine dx ?_;refine aM 283 2 none (fF ?_);refine aw (λzf zL zm=>∃(i:Nat) (P:List sh) (Z:aN) (US:bh) (c17:Nat),(i<=E R2+1/\P.map (·.1)++prI R2 i=prI R2 0/\E P<=i/\X_ B w0 (Z++(Y++G)) P)/\E R2+1-i=zm/\Sub zf [(1,ah 15),(6,.slice A6 (E R) c6),(10,ah (E R)),(13,.slice so (E l) xd),(15,.slice qh (E R2) tX),(16,ah ((r+1:Nat):Int)),(17,.slice US (E P) c17),(18,ah i)]/\Wk zL (.own 283 2 US (E P) c17 (iO P):: .own 5 1 so (E l) xd (Da (List.replicate (E l) 0))::(Z++(Y++G)))) _ ⟨0,[],[],none,0,⟨bD _,rfl,ga _,λx hx=>absurd hx kS⟩,rfl,a_,.refl _⟩ ?_;rintro _ _ _ ⟨i,P,Z,US,c17,⟨hi,hP,yL,hPb⟩,rfl,hs,hp⟩;refine aL hs hp ?_;clear hs hp;refine ag 10 (λat3=>?_) λat3=>?_
        ·have Oz:=ae7 (a:=R2) (i:=i) aa;have Zu:=S3 i aa;have Zv:=S3 (i+1) aa;have zZ:=am3 _ (pb (show i<E R2 by omega) nR);have oh:=am3 _ (pb (show i+1<E R2 by omega) nR);have hz:(Y++G).Sublist (Z++(Y++G)):=fN _ _;have xm:=XC (L:=R2) (k:=i) aa;have AW:=XC (L:=R2) (k:=i+1) aa;have S2:=Qe (L:=R2) (k:=i) aa;have KN:=Qe (L:=R2) (k:=i+1) aa;obtain⟨⟨⟨⟨w1,b1⟩,y1⟩,B1,d1⟩,AZ⟩:∃x,x=R2.getD i nR:=⟨_,rfl⟩
         obtain⟨⟨⟨⟨w2,b2⟩,y2⟩,B2,d2⟩,WE⟩:∃x,x=R2.getD (i+1) nR:=⟨_,rfl⟩
         rw[<-AZ]at Zu zZ xm S2 Oz;rw[<-WE]at Zv oh AW KN Oz;have xm:(iO R2)[i*2+1]? =some (.slice B1 (E y1) d1):=xm;have AW:(iO R2)[(i+1)*2+1]? =some (.slice B2 (E y2) d2):=AW;have S2:(iO R2)[i*2+0]? =some (.int .u64 (w1:Int)):=S2;have KN:(iO R2)[(i+1)*2+0]? =some (.int .u64 (w2:Int)):=KN;have zZ:aJ B w0 (Y++G) 1 (.slice B1 (E y1) d1) (E y1) (bN y1):=zZ;have oh:aJ B w0 (Y++G) 1 (.slice B2 (E y2) d2) (E y2) (bN y2):=oh;have Zu:w1<=32769*16384/\E y1<=16384:=Zu;have Zv:w2<=32769*16384/\E y2<=16384:=Zv;rw[Oz]at hP;refine dx ?_;refine aM 3 1 none (dA ?_);refine ab (az (i:=i) (size:=2) underlying281 ae rfl rfl rfl aa (tN.mono hz).cons.cons.cons) rfl (ab (aV underlying283 rfl ae rfl (tN.mono hz).cons.cons.cons aa rfl) rfl (ab (bH ae rfl (tN.mono hz).cons.cons.cons aa xm) rfl (dB (bB gF rfl aU rfl (zZ.mono hz).cons.cons.cons (Fg _) aa aa) λav9 awc=>dA ?_)));refine ab (az (i:=i+1) (size:=2) underlying281 ae rfl rfl rfl aa (tN.mono hz).cons.cons.cons) rfl (ab (aV underlying283 rfl ae rfl (tN.mono hz).cons.cons.cons aa rfl) rfl (ab (bH ae rfl (tN.mono hz).cons.cons.cons aa AW) rfl (dB (bB gF rfl aU rfl (oh.mono hz).cons.cons.cons (Fg _) aa aa) λabq ab9=>?_)));refine aD 1 [1,6,10,13,15,16,17,18,19] 1 ?_;have He:E (y1++y2)=0+E y1+E y2:=by simp
         refine lx (Z++(Y++G)) ?_;refine aF 0 3 ?_;refine aS 3 rfl (az (i:=i) (size:=2) underlying281 ae rfl rfl rfl aa (tN.mono hz)) (aS 4 rfl (aV underlying283 rfl ae rfl (tN.mono hz) aa rfl) (aS 5 rfl (bH ae rfl (tN.mono hz) aa S2) (aF 6 3 ?_)));refine aS 9 rfl (az (i:=i+1) (size:=2) underlying281 ae rfl rfl rfl aa (tN.mono hz)) (aS 10 rfl (aV underlying283 rfl ae rfl (tN.mono hz) aa rfl) (aS 11 rfl (bH ae rfl (tN.mono hz) aa KN) (aS 12 rfl (bF rfl rfl (r:=((w1+w2:Nat):Int)) ((eQ aa aa).trans aa)) (dI 13 ?_))));refine aS 14 rfl (eJ [(0,_),(1,_)] [_,_] rfl rfl ae) (aC 15 (cF rfl (my (size:=2) (kk:=1) (parts:=[(0,.tmp 161)]) (us:=[(0,.agg #[.int .u64 ((w1+w2:Nat):Int),.slice abq (0+E y1+E y2) ab9])]) (cs:=[.int .u64 ((w1+w2:Nat):Int),.slice abq (0+E y1+E y2) ab9]) underlying281 ae aa aa aa (zv:=.agg #[.int .u64 0,.slice none 0 0]) ae rfl ae rfl) λav_=>aC 16 (fh rfl (bB BL rfl aU rfl (aJ.own (.head _)) (λu hu=>(fq.1 hu).elim (λq=>q▸rfl) λq=>kT.1 q▸rfl) aa aa) λatk atB=>?_)));refine dI 17 ?_;refine di [1,6,10,13,15,16,17,18] ?_;refine dg ?_;have kh:E (P++[((((w1+w2,false),y1++y2),abq,ab9):sh)])=E P+1:=by simp
         refine aj ⟨_,aa,i+2,P++[((((w1+w2,false),y1++y2),abq,ab9):sh)],.own 3 1 abq (E (y1++y2)) ab9 (bN (y1++y2))::Z,atk,atB,⟨aa,by rw[iF,bT];exact hP,aa,hPb.push⟩,rfl,a_,.trans ((lU (lU (gC (.skip (.refl _)))))) (au kh.symm (by rw[vh,<-He];rfl) (.cons (au He.symm qj (.refl _))))⟩
        ·rw[ajz aa,gN]at hP;have hmg:ZW R P 0 0=oo (wY (oN l) S) (r+1):=by
          unfold ZW;rw[qS,qS,hR,hP];unfold prI;rw[qS,x6];rfl
         refine cY ?_;refine bp aqp rfl (ag8 (a:=R) (b:=P) (hGb.mono (.cons _ (.cons _ ((fN _ _).trans (fN _ _))))) (aJ.own (.head _)) aa aa) rfl ?_;rintro _ _ ⟨apf,ap_,R3,rfl,hR3,aum,cR⟩;obtain rfl:=cR.symm;refine dA ?_;refine aj ⟨_,aa,r+1,R3,.own 283 2 apf (E R3) ap_ (iO R3):: .own 283 2 US (E P) c17 (iO P)::(Z++Y),apf,ap_,⟨aa,by rw[hR3];exact hmg,λx hx=>(aum x hx).elim (λq=>(hGR x q).mono (fN _ _)) λq=>(hPb x q).mono (by rw[nM,nM,bT];exact .cons _ (.cons _ (.refl _))),aJ.own (.head _)⟩,rfl,a_,.trans ((lU (dL (dL (.refl _))))) (.c_ (.of_eq ao))⟩
       ·obtain rfl:r=14:=by omega
        have awz:2*E S-2<=E R2:=by
         have h1:=Jy (leaf:=(wY (oN l) S).map (·.1)) (by rw[eZ];simp[wY];omega);rw[<-vd,<-x6,eZ,eZ,eZ]at h1;have h2:E (wY (oN l) S)=E S:=by simp[wY]
         omega
        refine dM ?_;refine aw (λzf zL zm=>∃(i:Nat),(i<=2*E S-2)/\2*E S-2-i=zm/\Sub zf [(10,ah (E R)),(13,.slice so (E l) xd),(15,.slice qh (E R2) tX),(20,ah i)]/\Wk zL (.own 5 1 so (E l) xd (Da (sb (E l) (jv (oo (wY (oN l) S) 14) i)))::(Y++G))) _ ⟨0,bD _,rfl,a_,au rfl (by rw[k9,Un]) (.refl _)⟩ ?_;rintro _ _ _ ⟨i,hi7,rfl,hs,hp⟩;refine aL hs hp ?_;clear hs hp;refine dx ?_;refine ab (eo rfl rfl (r:=((2*E R:Nat):Int)) ((bj aa aa).trans aa)) rfl (ab (cU rfl rfl (r:=((2*E R-2:Nat):Int)) ((bj aa aa).trans aa)) rfl (ag 3 (λadg=>?_) λadg=>?_))
        ·have hir:i<E R2:=by omega
         have sn:=Uj (row:=oo (wY (oN l) S) 14) (i:=i) (by rw[<-x6,eZ];omega) ((0,false),[]);have hym:=Ly hlw 14 (R2.getD i nR).1 (by rw[<-x6];exact jr (pb hir nR));have zZ:=am3 _ (pb hir nR);have xm:=XC (L:=R2) (k:=i) hir;have he:(oo (wY (oN l) S) 14).getD i ((0,false),[])=(R2.getD i nR).1:=by
          rw[<-x6,bz,ib,fx hir,bz,fx hir];rfl
         rw[he]at sn;obtain⟨⟨⟨⟨w1,b1⟩,y⟩,B1,d1⟩,AZ⟩:∃x,x=R2.getD i nR:=⟨_,rfl⟩
         rw[<-AZ]at sn hym zZ xm;have sn:jv (oo (wY (oN l) S) 14) (i+1)=jv (oo (wY (oN l) S) 14) i++y:=sn;have xm:(iO R2)[i*2+1]? =some (.slice B1 (E y) d1):=xm;have zZ:aJ B w0 (Y++G) 1 (.slice B1 (E y) d1) (E y) (bN y):=zZ;have He:E y<=2^14:=hym.2.1;have hys:∀s∈y,s<E l:=hym.2.2;have gT:(2:Nat)^14=16384:=by decide
         obtain⟨T,hT⟩:=cM (jv (oo (wY (oN l) S) 14) i);rw[<-hT]at sn;rw[<-hT];refine dh ?_;refine aw (λzf zL zm=>∃(k:Nat),(k<=E y)/\E y-k=zm/\Sub zf [(10,ah (E R)),(13,.slice so (E l) xd),(15,.slice qh (E R2) tX),(20,ah i),(21,ah k)]/\Wk zL (.own 5 1 so (E l) xd (Da (sb (E l) (T++y.take k)))::(Y++G))) _ ⟨0,bD _,rfl,a_,au rfl (by rw[oC,gN]) (.refl _)⟩ ?_;rintro _ _ _ ⟨k,hk8,rfl,hs,hp⟩;refine aL hs hp ?_;clear hs hp;refine dw ?_;refine ab (az (i:=i) (size:=2) underlying281 ae rfl rfl rfl aa tN.cons) rfl (ab (aV underlying283 rfl ae rfl tN.cons aa rfl) rfl (ab (bH ae rfl tN.cons aa xm) rfl (ag 4 (λam1=>?_) λam1=>?_)))
         ·obtain⟨s,hs⟩:∃s,y.getD k 0=s:=⟨_,rfl⟩
          have lB:s<E l:=by rw[<-hs];exact hys _ (bc aa 0)
          obtain⟨v,hv⟩:=cM ((T++y.take k).count s);have awQ:v<=15:=by
           have h1:(T++y.take k).Sublist (jv (oo (wY (oN l) S) 14) (2*E S-2)):=by
            refine List.Sublist.trans ?_ (af3 (show i+1<=2*E S-2 by omega));rw[sn];exact List.Sublist.append_left (O8 _ _) _
           have h2:=h1.count_le s;have h3:=uR (o:=oN l) hl s;rw[gU,BN _ lB]at h3;omega
          have CW:=vZ (E l) (T++y.take k);have dN:(Da (sb (E l) (T++y.take k)))[s*1]? =some (.int .u8 (v:Int)):=by rw[XV aa,BN _ lB,<-hv]
          refine cY ?_;refine ab (az (i:=i) (size:=2) underlying281 ae rfl rfl rfl aa tN.cons) rfl (ab (aV underlying283 rfl ae rfl tN.cons aa rfl) rfl (ab (bH ae rfl tN.cons aa xm) rfl (aX ?_)));refine ab (az (i:=k) underlying53 ae rfl rfl rfl aa zZ.cons) rfl (ab (al ae rfl zZ.cons aa (fi (v:=s) aa hs)) rfl (ab (az (i:=s) underlying27 ae rfl rfl rfl aa aA) rfl ?_));refine ab (al (v:=.int .u8 (v:Int)) ae rfl aA aa dN) rfl ?_;refine ab (bF rfl rfl (r:=((v+1:Nat):Int)) ((Gw aa aa).trans aa)) rfl (ab (az (i:=s) underlying27 ae rfl rfl rfl aa aA) rfl ?_);refine ko (fy ae rfl rfl rfl aU (by rw[L7];omega)) ?_;refine ve [10,13,15,20,21] ?_;refine dg ?_;refine aj ⟨_,aa,k+1,aa,rfl,a_,au rfl (by rw[DC,hv,Um _ lB,aP (show k<E y by omega) 0,hs,bT]) (.refl _)⟩
         ·obtain rfl:k=E y:=by omega
          refine fF ?_;refine aj ⟨_,aa,i+1,aa,rfl,a_,au rfl (by rw[js,<-sn]) (.refl _)⟩
        ·obtain rfl:i=2*E S-2:=by omega
         refine bK 13 ?_;exact ak (L':=.own 5 1 so (E l) xd (bv (iZ (oN l) (E l)))::((Y++(.own 283 2 A6 (E R) c6 (iO R)::X))++F)) (au rfl (by rw[hbv,gU]) (.c_ (.of_eq (by rw[hGF];simp)))) (nI 1)
end
theorem DK(b:aq)(p a m:Nat)(hm:m<=257)(h:∀i,i<m->a+i<E b/\b.getD (p+i) 0=b.getD (a+i) 0):∀(f n:Nat),n<=m->m<=n+f->m<=kK b p a f n
 |0,n,h1,h2=>by rw[kK];omega
 |f+1,n,h1,h2=>by
  unfold kK;split
  ·rename_i hc;by_cases hn:n<m
   ·exact DK b p a m hm h f (n+1) aa aa
   ·have:=(vy b p a f (n+1) aa).1;omega
  ·rename_i hc;refine b_ λhn=>hc ?_;obtain⟨q1,q2⟩:=h n aa;exact⟨aa,q1,q2⟩
theorem Rw{m:Nat}(hm:m<=257)(h:∀i,i<m->a+i<E b/\b.getD (p+i) 0=b.getD (a+i) 0):m<=fm b p a:=DK b p a m hm h 257 0 (bD _) aa
theorem w8(h:3<=fm b p a):a+3<=E b/\fE b p=fE b a:=by
 obtain⟨_,h0⟩:=vz (b:=b) (p:=p) (a:=a) (i:=0) aa;obtain⟨_,h1⟩:=vz (b:=b) (p:=p) (a:=a) (i:=1) aa;obtain⟨h3,h2⟩:=vz (b:=b) (p:=p) (a:=a) (i:=2) aa;refine⟨aa,?_⟩;rw[rM,rM]at h0;unfold fE;rw[h0,h1,h2]
theorem Tj(h:a+3<=E b)(hk:fE b p=fE b a):3<=fm b p a:=by
 unfold fE at hk;simp only[za]at hk;refine Rw aa λi hi=>⟨aa,?_⟩
 rcases(show i=0\/i=1\/i=2 by omega)with rfl|rfl|rfl
 ·exact hk.1
 ·exact hk.2.1
 ·exact hk.2.2
theorem pL{b:aq}{k:UInt8×UInt8×UInt8}:∀{m p:Nat},dZ b k m=some p->p+3<=E b/\fE b p=k/\∀q,p<q->q<m->q+3<=E b->¬fE b q=k
 |0,p,h=>by cases h
 |m+1,p,h=>by
  unfold dZ at h;split at h
  ·rename_i hc;injection h with h;subst h;exact⟨hc.1,hc.2,λq h1 h2=>aa⟩
  ·rename_i hc;obtain⟨a,c,d⟩:=pL h;refine⟨a,c,λq h1 h2 h3 hk=>?_⟩;rcases qe q m with h4|h4
   ·exact d q h1 h4 h3 hk
   ·obtain rfl:q=m:=by omega
    exact hc ⟨h3,hk⟩
theorem xA{b:aq}{k:UInt8×UInt8×UInt8}:∀{m:Nat},dZ b k m=none->∀q,q<m->q+3<=E b->¬fE b q=k
 |0,h,q,hq,_=>by omega
 |m+1,h,q,hq,h3=>by
  unfold dZ at h;split at h
  ·cases h
  ·rename_i hc;intro hk;rcases qe q m with h4|h4
   ·exact xA h q h4 h3 hk
   ·obtain rfl:q=m:=by omega
    exact hc ⟨h3,hk⟩
def Bst(b:aq)(a n d:Nat):Prop:=(n=0/\d=0)\/(1<=n/\1<=d/\d<=a/\d<=4095/\fm b (a-d) a=n/\∀i,1<=i->i<d->fm b (a-i) a<n\/fm b (a-i) a<3)
theorem xC(b:aq)(a:Nat)(ha:a+3<=E b):∀(f:Nat) (p:Option Nat) (n d:Nat),(∀x,p=some x->x<a/\x<f/\fE b x=fE b a)->Bst b a n d->
  (∀i,1<=i->i<=a->(∀x,p=some x->i<a-x)->fm b (a-i) a<=n\/fm b (a-i) a<3)->
  Bst b a (oH b a f p n d).1 (oH b a f p n d).2/\∀i,1<=i->i<=a->i<=4095->fm b (a-i) a<=(oH b a f p n d).1\/fm b (a-i) a<3
 |0,none,n,d,_,h,h2=>⟨h,λi i1 i2 _=>h2 i i1 i2 λx hx=>by cases hx⟩
 |0,some x,n,d,hp,h,h2=>by have:=(hp x rfl).2.1;omega
 |_+1,none,n,d,_,h,h2=>⟨h,λi i1 i2 _=>h2 i i1 i2 λx hx=>by cases hx⟩
 |f+1,some x,n,d,hp,h,h2=>by
  obtain⟨hxa,hxf,EK⟩:=hp x rfl;have h3:=Tj (b:=b) (p:=x) ha EK;have Ox:∀y,dZ b (fE b x) x=some y->y<a/\y<f/\fE b y=fE b a:=λy hy=>by
   have:=jU hy;exact⟨aa,aa,(pL hy).2.1.trans EK⟩
  have Cl:∀m,n<=m->fm b x a<=m->∀i,1<=i->i<=a->(∀y,dZ b (fE b x) x=some y->i<a-y)->fm b (a-i) a<=m\/fm b (a-i) a<3:=λm hm hxm i i1 i2 hi=>by
   rcases qe i (a-x)with c|c
   ·rcases h2 i i1 i2 λy hy=>by injection hy with hy;omega with q|q
    ·exact .inl aa
    ·exact .inr q
   ·rcases qe (a-x) i with c2|c2
    ·refine .inr (b_ λq=>?_);obtain⟨_,hk⟩:=w8 (b:=b) (p:=a-i) (a:=a) aa;have zY:fE b (a-i)=fE b x:=hk.trans EK.symm;cases hl:dZ b (fE b x) x with
     |none=>exact xA hl (a-i) aa aa zY
     |some y=>
      have h5:=hi y hl;exact(pL hl).2.2 (a-i) aa aa aa zY
    ·have e:a-i=x:=by omega
     rw[e];exact .inl hxm
  unfold oH;split
  ·rename_i hc;split
   ·rename_i gU;refine xC b a ha f _ _ _ Ox (.inr ⟨aa,aa,aa,hc.1,by congr 1;omega,λi i1 i2=>?_⟩) (Cl _ aa (ga _));rcases h2 i i1 aa λy hy=>by injection hy with hy;omega with q|q
    ·exact .inl aa
    ·exact .inr q
   ·exact xC b a ha f _ _ _ Ox h (Cl _ (ga _) aa)
  ·rename_i hc;refine⟨h,λi i1 i2 i3=>?_⟩;by_cases hn:n<257
   ·exact h2 i i1 i2 λy hy=>by injection hy with hy;omega
   ·have:=Au b (a-i) a;exact .inl cX
theorem K8(b:aq)(a:Nat):Bst b a (cZ b a).1 (cZ b a).2/\∀i,1<=i->i<=a->i<=4095->fm b (a-i) a<=(cZ b a).1\/fm b (a-i) a<3:=by
 unfold cZ;split
 ·rename_i h;refine⟨.inl ⟨rfl,rfl⟩,λi _ _ _=>.inr (b_ λq=>?_)⟩;have:=(w8 (b:=b) (p:=a-i) (a:=a) aa).1;omega
 ·rename_i h;refine xC b a aa a _ 0 0 (λx hx=>?_) (.inl ⟨rfl,rfl⟩) λi i1 i2 hi=>?_
  ·have:=jU hx;exact⟨this,this,(pL hx).2.1⟩
  ·refine .inr (b_ λq=>?_);obtain⟨_,hk⟩:=w8 (b:=b) (p:=a-i) (a:=a) aa;cases hl:dZ b (fE b a) a with
   |none=>exact xA hl (a-i) aa aa hk
   |some y=>
    have h5:=hi y hl;exact(pL hl).2.2 (a-i) aa aa aa hk
def mZ(b:aq)(a:Nat):Nat->Nat×Nat
 |0=>(0,0)
 |k+1=>if (mZ b a k).1<fm b (a-(k+1)) a then (fm b (a-(k+1)) a,k+1) else mZ b a k
theorem Fh(b:aq)(a:Nat):∀k,k<=a->k<=4095->
  ((mZ b a k).1=0/\(mZ b a k).2=0\/1<=(mZ b a k).1/\1<=(mZ b a k).2/\(mZ b a k).2<=k/\fm b (a-(mZ b a k).2) a=(mZ b a k).1/\∀i,1<=i->i<(mZ b a k).2->fm b (a-i) a<(mZ b a k).1)/\
  ∀i,1<=i->i<=k->fm b (a-i) a<=(mZ b a k).1
 |0,_,_=>⟨.inl ⟨rfl,rfl⟩,λi h1 h2=>aa⟩
 |k+1,h1,h2=>by
  obtain⟨g1,g2⟩:=Fh b a k aa aa;unfold mZ;split
  ·rename_i hc;refine⟨.inr ⟨cX,cX,ga _,rfl,λi i1 i2=>?_⟩,λi i1 i2=>?_⟩
   ·have:=g2 i i1 (by simp only at i2;omega);simp only;omega
   ·rcases qe i (k+1)with c|c
    ·have:=g2 i i1 aa;simp only;omega
    ·obtain rfl:i=k+1:=by omega
     exact ga _
  ·rename_i hc;refine⟨g1.imp id λq=>⟨q.1,q.2.1,aa,q.2.2.2⟩,λi i1 i2=>?_⟩;rcases qe i (k+1)with c|c
   ·exact g2 i i1 aa
   ·obtain rfl:i=k+1:=by omega
    omega
def ZY(b:aq)(a:Nat):Nat×Nat:=mZ b a (min 4095 a)
theorem Lb(b:aq)(a:Nat):ZY b a=cZ b a\/(¬3<=(ZY b a).1/\¬3<=(cZ b a).1):=by
 obtain⟨g1,g2⟩:=Fh b a (min 4095 a) aa aa;obtain⟨l1,l2⟩:=K8 b a;have e:mZ b a (min 4095 a)=ZY b a:=rfl;rw[e]at g1 g2;generalize ZY b a=P at*;generalize cZ b a=Q at*;obtain⟨n,d⟩:=P;obtain⟨n',d'⟩:=Q;simp only at g1 g2 l1 l2⊢;unfold Bst at l1;by_cases h3:3<=n\/3<=n'
 ·refine .inl ?_;have hn:n=n'/\3<=n:=by
   rcases h3 with h3|h3
   ·rcases g1 with g|⟨a1,a2,a3,a4,a5⟩
    ·omega
    ·rcases l2 d a2 aa aa with q|q
     ·rcases l1 with l|⟨b1,b2,b3,b4,b5,b6⟩
      ·omega
      ·have:=g2 d' b2 aa;omega
     ·omega
   ·rcases l1 with l|⟨b1,b2,b3,b4,b5,b6⟩
    ·omega
    ·have h5:=g2 d' b2 aa;rcases g1 with g|⟨a1,a2,a3,a4,a5⟩
     ·omega
     ·rcases l2 d a2 aa aa with q|q<;>omega
  obtain⟨rfl,hn3⟩:=hn;rcases g1 with g|⟨a1,a2,a3,a4,a5⟩
  ·omega
  ·rcases l1 with l|⟨b1,b2,b3,b4,b5,b6⟩
   ·omega
   ·have hd:d=d':=by
     rcases OQ d d' with c|c|c
     ·rcases b6 d a2 c with q|q<;>omega
     ·exact c
     ·have:=a5 d' b2 c;omega
    rw[hd]
 ·exact .inr ⟨aa,aa⟩
section
variable{gm:Nat}
theorem akF(hb:gw B w0 F A c b)(hl:E b<=1000000):
  bg B w0 76 [.slice A (E b) c] F
   (λr L=>∃A' c',r= .slice A' (E (fS b)) c'/\L= .own 170 3 A' (E (fS b)) c' (f_ (fS b))::F):=by
 refine ba func76 78 [0] 11 ?_;refine aM 170 3 none (dw ?_);refine aw (λzf zL zm=>∃(a f:Nat) (acc:List bG) (A4:bh) (c4:Nat),(a<=E b/\E b-a<=f/\acc++findF b f a=fS b/\E acc<=a)/\f=zm/\Sub zf [(0,.slice A (E b) c),(3,.slice A4 (E acc) c4),(4,ah (a:Int))]/\Wk zL (.own 170 3 A4 (E acc) c4 (f_ acc)::F)) _ ⟨0,E b,[],none,0,⟨bD _,aa,rfl,ga _⟩,rfl,a_,.refl _⟩ ?_;rintro _ _ _ ⟨a,f,acc,A4,c4,⟨ha,hf,jL,CU⟩,rfl,hs,hp⟩;refine aL hs hp (ag 9 (λjZ=>?_) λjZ=>?_)
 ·obtain⟨f',rfl⟩:∃f',f=f'+1:=⟨f-1,aa⟩
  refine bK 16 ?_;refine aw (λzf zL zm=>∃(k n d:Nat),(k<=a/\k<=4095/\mZ b a k=(n,d))/\4096-k=zm/\Sub zf [(0,.slice A (E b) c),(3,.slice A4 (E acc) c4),(4,ah (a:Int)),(5,ah (n:Int)),(6,ah (d:Int)),(7,ah ((k+1:Nat):Int))]/\Wk zL (.own 170 3 A4 (E acc) c4 (f_ acc)::F)) _ ⟨0,0,0,⟨aa,aa,rfl⟩,rfl,a_,.refl _⟩ ?_;rintro _ _ _ ⟨k,n,d,⟨hka,hk4,hng⟩,rfl,hs,hp⟩;refine aL hs hp (bf 3 7 19 [0,3,4,5,6,7] (k+1<=4095/\k+1<=a) ?_ ?_)
  ·refine bC 3 (λmj=>?_) λmj=>?_
   ·exact ax 6 (k:=amp)
   ·exact ax 3 (k:=amo)
  ·refine ag 2 (λqM=>?_) λqM=>?_
   ·have awf:=qM.1;have awg:=qM.2;refine fF ?_;refine aw (λzf zL zm=>∃(j:Nat),(j<=257/\kK b (a-(k+1)) a (257-j) j=fm b (a-(k+1)) a)/\257-j=zm/\Sub zf [(0,.slice A (E b) c),(3,.slice A4 (E acc) c4),(4,ah (a:Int)),(5,ah (n:Int)),(6,ah (d:Int)),(7,ah ((k+1:Nat):Int)),(8,ah (j:Int))]/\Wk zL (.own 170 3 A4 (E acc) c4 (f_ acc)::F)) _ ⟨0,⟨bD _,rfl⟩,rfl,a_,.refl _⟩ ?_;rintro _ _ _ ⟨j,⟨hj,hN⟩,rfl,hs,hp⟩;refine aL hs hp (fc ?_);refine sE 27 48 [0,3,4,5,6,7,8] (j<257/\a+j<E b/\b.getD (a-(k+1)+j) 0=b.getD (a+j) 0) ?_ ?_
    ·refine fc ?_;refine jy rfl rfl rfl (λkJ=>?_) (λkJ=>?_)
     ·refine bK 13 ?_;refine jy rfl rfl rfl (λvJ=>?_) (λvJ=>?_)
      ·refine dM ?_;refine bJ (az (i:=a-(k+1)+j) underlying27 ae rfl rfl aa aa aA) rfl (aX ?_);refine bJ (al ae rfl aA aa (uj aa)) rfl (dA ?_);refine bJ (az (i:=a+j) underlying27 ae rfl rfl aa aa aA) rfl (aX ?_);refine bJ (al ae rfl aA aa (uj aa)) rfl (fc ?_);exact ke aps
      ·refine bK 15 ?_;exact ke ahp
     ·refine bK 23 ?_;exact ke ahp
    ·refine ag 2 (λxl=>?_) λxl=>?_
     ·refine dA ?_;refine aj ⟨_,aa,j+1,⟨by have:=xl.1;omega,by rw[<-HI xl.1 xl.2.1 xl.2.2];exact hN⟩,rfl,a_,.refl _⟩
     ·have Y6:fm b (a-(k+1)) a=j:=by rw[<-hN];exact DJ hj xl
      refine ag 12 (λh53=>?_) λh53=>?_
      ·refine bK 17 ?_;refine aj ⟨_,aa,k+1,j,k+1,⟨aa,aa,by rw[mZ,hng,Y6];exact av (by show n<j;omega)⟩,rfl,a_,.refl _⟩
      ·refine cY ?_;refine aj ⟨_,aa,k+1,n,d,⟨aa,aa,by rw[mZ,hng,Y6];exact aB (by show¬n<j;omega)⟩,rfl,a_,.refl _⟩
   ·have Wz:k=min 4095 a:=by omega
    have hnr:ZY b a=(n,d):=by unfold ZY;rw[<-Wz];exact hng
    have adv:=Lb b a;rw[hnr]at adv;refine ag 11 (λWn=>?_) λWn=>?_
    ·have WA:cZ b a=(n,d):=adv.elim Eq.symm λh=>absurd (show 3<=(n,d).1 by show 3<=n;omega) h.1;have Rg:=Cc (b:=b) (a:=a) (f:=f') aa (by rw[WA];show 3<=n;omega);have Wy:=E8 (b:=b) (a:=a) (by rw[WA];show 3<=n;omega);rw[WA]at Rg Wy;simp only at Rg Wy;have qc:E (acc++[((0:UInt8),(n:Int),(d:Int))])=E acc+1:=by simp
     refine dx ?_;refine ab (bw [(1,_),(2,_)] [.int .u8 0,ah 0,ah 0] [1,2] [_,_,_] rfl rfl ae) rfl (jX Qg rfl rfl rfl aa bY rfl rfl rfl (λ_=>rfl) aU aa aa ?_);intro _ A63 c63;refine dw ?_;refine ab (bF rfl rfl (r:=((a+n:Nat):Int)) ((bj aa aa).trans aa)) rfl (aD 1 [0,3,4] 1 ?_);refine aj ⟨_,aa,a+n,f',acc++[(0,(n:Int),(d:Int))],A63,c63,⟨aa,aa,abN,bS⟩,rfl,a_,au ao MR (.refl _)⟩
    ·have Rg:=IJ (b:=b) (a:=a) (f:=f') aa (by rcases adv with h|h;rw[<-h];show¬3<=n;omega;exact h.2);have qc:E (acc++[((b.getD a 0:UInt8),(0:Int),(0:Int))])=E acc+1:=by simp
     refine dw ?_;refine ab (al ae rfl aA aa (uj aa)) rfl ?_;refine ab (bw [(0,_)] [.int .u8 0,ah 0,ah 0] [0] [_,_,_] rfl rfl ae) rfl (jX Qg rfl rfl rfl aa bY rfl rfl rfl (λ_=>rfl) aU aa aa ?_);intro _ A74 c74;refine aD 7 [0,3,4] 1 ?_;refine aj ⟨_,aa,a+1,f',acc++[(b.getD a 0,0,0)],A74,c74,⟨aa,aa,abN,bS⟩,rfl,a_,au ao MR (.refl _)⟩
 ·have wz:=II (b:=b) (a:=a) (f:=f) aa;rw[wz,gN]at jL;subst jL;exact bO 13
end
theorem O6:type_of% @Nat.mod_two_eq_zero_or_one:= @Nat.mod_two_eq_zero_or_one
def ug(x:Nat):Nat:=if x%2=1 then x/2 ^^^ 3988292384 else x/2
def Az:Nat->Nat->Nat
 |0,x=>x
 |j+1,x=>ug (Az j x)
theorem ahy{x:Nat}(h:x<4294967296):ug x<4294967296:=by
 unfold ug;split
 ·exact tw (n:=32) aa aE
 ·omega
theorem ab0(a b:Nat):ug (a ^^^ b)=ug a ^^^ ug b:=by
 have h1:(a ^^^ b)/2=a/2 ^^^ b/2:=by
  have:=Nat.shiftRight_xor_distrib (a:=a) (b:=b) (i:=1);rw[wV,wV,wV]at this;exact this
 have h2:(a ^^^ b)%2=(a%2+b%2)%2:=by
  have:=Nat.testBit_xor a b 0;rw[Nat.testBit_zero,Nat.testBit_zero,Nat.testBit_zero]at this;rcases O6 a with ha|ha<;>rcases O6 b with hb|hb<;>rcases O6 (a ^^^ b)with hc|hc<;>simp[ha,hb,hc]at this⊢
 unfold ug;rw[h1,h2];rcases O6 a with ha|ha<;>rcases O6 b with hb|hb<;>rw[ha,hb]
 ·rfl
 ·rw[av aE,aB aE,av rfl,uL]
 ·rw[av aE,av rfl,aB aE,uL,uL,Nat.xor_comm (b/2)]
 ·rw[aB aE,av rfl,av rfl];have:a/2 ^^^ 3988292384 ^^^ (b/2 ^^^ 3988292384)=a/2 ^^^ b/2 ^^^ (3988292384 ^^^ 3988292384):=by
   rw[uL,<-uL 3988292384,Nat.xor_comm 3988292384 (b/2),uL (b/2),<-uL]
  rw[this,Nat.xor_self,Nat.xor_zero]
theorem MZ(a b:Nat):∀j,Az j (a ^^^ b)=Az j a ^^^ Az j b
 |0=>rfl
 |j+1=>by rw[Az,MZ a b j,ab0];rfl
theorem yi(y:Nat):ug (y*2)=y:=by
 unfold ug;rw[aB aa];omega
theorem ahw(y:Nat):Az 4 (y*16)=y:=by
 show ug (ug (ug (ug (y*16))))=y;rw[show y*16=y*2*2*2*2 by omega,yi,yi,yi,yi]
theorem ahx:∀i,i<16->Az 4 i=w3.getD i 0:=by decide
theorem aj6(x:Nat):(x >>> 4)*16 ^^^ (x &&& 15)=x:=by
 have h1:(x >>> 4)*16=(x >>> 4) <<< 4:=by rw[Nat.shiftLeft_eq]
 rw[h1];apply Nat.eq_of_testBit_eq;intro i;rw[Nat.testBit_xor,Nat.testBit_shiftLeft,Nat.testBit_shiftRight,show(15:Nat)=2^4-1 by decide,Nat.testBit_and,Nat.testBit_two_pow_sub_one];by_cases h:4<=i
 ·simp[h,show¬i<4 by omega,show 4+(i-4)=i by omega]
 ·simp[h,show i<4 by omega]
theorem ap8(x:Nat):Az 4 x=yr x:=by
 conv=>lhs;rw[<-aj6 x]
 rw[MZ,ahw,ahx _ (by have:x &&& 15<=15:=Nat.and_le_right;omega)];rfl
theorem atx(x:Nat)(d:UInt8):Az 8 (x ^^^ d.toNat)=GW x d:=by
 have h:∀y,Az 8 y=Az 4 (Az 4 y):=λ_=>rfl;rw[h,ap8,ap8];rfl
theorem ali{s:Nat}(h:s<4294967296):4294967295-s=4294967295 ^^^ s:=by
 apply Nat.eq_of_testBit_eq;intro i;have h1:=Nat.testBit_two_pow_sub_succ (n:=32) (x:=s) h i;have h2:=Nat.testBit_two_pow_sub_one 32 i;rw[show(2:Nat)^32-(s+1)=4294967295-s by omega]at h1;rw[show(2:Nat)^32-1=4294967295 by decide]at h2;rw[Nat.testBit_xor,h1,h2];by_cases q:i<32
 ·simp[q]
 ·have:s.testBit i=false:=Nat.testBit_lt_two_pow (rF (show s<2^32 from h) (gz aE aa));simp[q,this]
theorem aoO(x:Nat):UInt8.ofNat (x%256)=UInt8.ofNat x:=by
 apply oF.1;rw[rD,rD];exact Nat.mod_mod_of_dvd _ (Nat.dvd_refl _)
theorem Uk{z k:Nat}(h:k<4):(kz z).take (k+1)=(kz z).take k++[UInt8.ofNat (z/256^k%256)]:=by
 have h1:z >>> 8=z/256:=wV ..;have h2:z >>> 16=z/65536:=wV ..;have h3:z >>> 24=z/16777216:=wV ..;rw[aoO];unfold kz;rw[h1,h2,h3]
 match k,h with
 |0,_=>rw[Nat.pow_zero,Nat.div_one];rfl
 |1,_=>rfl
 |2,_=>rfl
 |3,_=>rfl
theorem acq(h:E l<4):(aT l).2=1:=by unfold aT;rw[av h]
theorem acr{m:Nat}(h:¬E l<4)(hm:m=E l-4):(aT l).2=if b7 (l.take m)=l then 0 else 5:=by
 unfold aT b7;rw[aB h,<-hm];have e:l.drop m=kz (mw 0 (l.take m))↔l.take m++kz (mw 0 (l.take m))=l:=by
  constructor
  ·intro q;rw[<-q,kH]
  ·intro q
   conv=>lhs;rw[<-q]
   exact rH jA
 by_cases q:l.drop m=kz (mw 0 (l.take m))
 ·rw[av q,av (e.1 q)]
 ·rw[aB q,aB (λk=>q (e.2 k))]
theorem ao7{x:Nat}(hx:x<4294967296):bg B w0 244 [.int .u32 (x:Int)] F (λr L=>r= .int .u32 (ug x:Nat)/\L=F):=by
 refine ba func244 11 [0] 9 ?_;refine ab (kl rfl rfl aE (r:=((x%2:Nat):Int)) rfl) rfl (ag 3 (λh5=>?_) λh5=>?_)
 ·refine fc ?_;refine ab (iq rfl rfl aE (r:=((x/2:Nat):Int)) (zO (x:=((x/2:Nat):Int)) aa aa)) rfl (ab (lg rfl rfl (r:=((x/2 ^^^ 3988292384:Nat):Int)) (JX aa aE)) rfl (dw ?_));unfold ug;rw[av aa];exact⟨rfl,rfl⟩
 ·refine dx ?_;refine ab (iq rfl rfl aE (r:=((x/2:Nat):Int)) (zO (x:=((x/2:Nat):Int)) aa aa)) rfl (dx ?_);unfold ug;rw[aB aa];exact⟨rfl,rfl⟩
theorem akJ{s:Nat}(hs:s<4294967296)(e:n=E l)(hb:aJ B w0 F 1 (.slice A n c) n (bv l))(hl:E l<=1099511627776):bg B w0 201 [.int .u32 (s:Int),.slice A n c] F (λr L=>r= .int .u32 (mw s l:Nat)/\L=F):=by
 subst e;have q8:=ali hs;refine cV func201 31 rfl rfl rfl [(0,.int .u32 (s:Int)),(1,.slice A (E l) c)] ⟨⟨rfl,rfl⟩,⟨rfl,rfl⟩,trivial⟩ ?_;refine cY ?_;refine ab (cU rfl rfl (r:=((4294967295 ^^^ s:Nat):Int)) ((zO aa aa).trans aa)) rfl (dh ?_);refine aw (λzf zL zm=>∃(k x:Nat),(k<=E l/\x<4294967296/\x=(l.take k).foldl GW (4294967295 ^^^ s))/\E l-k=zm/\Sub zf [(1,.slice A (E l) c),(5,.int .u32 (x:Int)),(6,ah (k:Int))]/\Wk zL (F)) _ ⟨0,4294967295 ^^^ s,⟨bD _,aa,by rw[oC];rfl⟩,rfl,a_,.refl _⟩ ?_;rintro _ _ _ ⟨k,x,⟨hk,hx,WG⟩,rfl,hs,hp⟩;refine aL hs hp ?_;clear hs hp;refine ag 9 (λnj=>?_) λnj=>?_
 ·obtain⟨d,hd⟩:=cM (l.getD k 0);have hd8:=kR d;refine dh ?_;refine ab (al (v:=.int .u8 (d.toNat:Int)) ae rfl aA aa (by rw[hd];exact DV aa)) rfl ?_;refine ab (be (r:=(d.toNat:Int)) underlying5 underlying135 rfl (zO aa aa)) rfl (ab (lg rfl rfl (r:=((x ^^^ d.toNat:Nat):Int)) (JX hx aa)) rfl (dA ?_));refine aw (λzf zL zm=>∃(j y:Nat),(j<=8/\y<4294967296/\y=Az j (x ^^^ d.toNat))/\8-j=zm/\Sub zf [(1,.slice A (E l) c),(5,.int .u32 (y:Int)),(6,ah (k:Int)),(7,ah (j:Int))]/\Wk zL (F)) _ ⟨0,x ^^^ d.toNat,⟨bD _,tw (n:=32) hx aa,rfl⟩,rfl,a_,.refl _⟩ ?_;rintro _ _ _ ⟨j,y,⟨hj,hy,hye⟩,rfl,hs,hp⟩;refine aL hs hp ?_;clear hs hp;refine ag 7 (λkJ=>?_) λkJ=>?_
  ·refine dw ?_;refine ai rfl (ao7 hy) (dA ?_);refine aj ⟨_,aa,j+1,ug y,⟨aa,ahy hy,by rw[hye];rfl⟩,rfl,a_,.refl _⟩
  ·refine fF ?_;refine aj ⟨_,aa,k+1,y,⟨aa,hy,by rw[aP aa (0:UInt8),List.foldl_append,<-WG,<-hd,hye,show j=8 by omega];exact atx x d⟩,rfl,a_,.refl _⟩
 ·refine cY ?_;have hcx:=ali hx;have hcm:4294967295 ^^^ x=mw s l:=by rw[WG,gv aa];rfl
  exact ab (cU rfl rfl (r:=((mw s l:Nat):Int)) ((zO aa aa).trans aa)) rfl (cm 5)
theorem ao'(e:n=E l)(hb:aJ B w0 F 1 (.slice A n c) n (bv l))(hl:E l<=1099511627776):bg B w0 141 [.slice A n c] F (λr L=>r= .int .u32 (mw 0 l:Nat)/\L=F):=by
 refine ba func141 5 [0] 8 ?_;exact ai rfl (akJ (s:=0) aE e hb hl) (cm 5)
theorem ag9(e:n=E l)(hb:aJ B w0 F 1 (.slice A n c) n (bv l))(hl:E l<=1000000000):bg B w0 78 [.slice A n c] F (λr L=>∃A' c',r= .slice A' (E (b7 l)) c'/\L= .own 5 1 A' (E (b7 l)) c' (bv (b7 l))::F):=by
 subst e;obtain⟨z,hz⟩:=cM (mw 0 l);have hz3:z<4294967296:=hz▸ahW aE l;refine cV func78 24 rfl rfl rfl [(0,.slice A (E l) c)] ⟨⟨rfl,rfl⟩,trivial⟩ ?_;refine cY ?_;refine ai rfl (ao' rfl hb aa) (dx ?_);refine cv (fA bP) λA8=>aX ?_;refine dB (bB bP rfl aU rfl aA bY aa aa) λz' RQ=>dx ?_;rw[mH,mh,<-hz];refine dx ?_;refine aw (λzf zL zm=>∃(k s:Nat) (acc:aq) (A':bh) (c':Nat),(k<=4/\s=z/256^k/\s<4294967296/\acc=l++(kz z).take k/\E acc=E l+k)/\4-k=zm/\Sub zf [(3,.int .u32 (s:Int)),(4,.slice A' (E acc) c'),(5,ah (k:Int))]/\Wk zL (.own 5 1 A' (E acc) c' (bv acc)::F)) _ ⟨0,z,l,z',RQ,⟨bD _,ao,hz3,ao,rfl⟩,rfl,a_,.refl _⟩ ?_;rintro _ _ _ ⟨k,s,acc,A',c',⟨hk,iy,hs,jL,CU⟩,rfl,hs,hp⟩;refine aL hs hp ?_;clear hs hp;refine ag 7 (λjZ=>?_) λjZ=>?_
 ·refine cY ?_;refine ab (kl rfl rfl aE (r:=((s%256:Nat):Int)) rfl) rfl (ab (be (r:=((UInt8.ofNat (s%256)).toNat:Int)) underlying135 underlying5 rfl (u8w (s%256))) rfl (cC bP rfl rfl rfl rfl rfl (λ_=>rfl) aU aa aa ?_));intro _ BZ CP;obtain⟨q,hq⟩:=cM (acc++[UInt8.ofNat (s%256)]);have Mx:E acc+1=E q:=by rw[hq];simp
  have Ha:bv acc++[Value.int .u8 ((UInt8.ofNat (s%256)).toNat:Int)]=bv q:=by rw[hq];simp[bv]
  rw[Mx,Ha];refine dx ?_;refine ab (iq rfl rfl aE (r:=((s/256:Nat):Int)) (zO (x:=((s/256:Nat):Int)) aa aa)) rfl (dA ?_);refine aj ⟨_,aa,k+1,s/256,q,BZ,CP,⟨aa,by rw[iy,I6];rfl,aa,by rw[hq,jL,Uk aa,iy,bT],aa⟩,rfl,a_,.refl _⟩
 ·refine bK 13 ?_;have e:acc=b7 l:=by rw[jL,show k=4 by omega,hz];rfl
  subst e;exact⟨_,_,rfl,rfl⟩
theorem ao8(e:n=E l)(hb:aJ B w0 F 1 (.slice A n c) n (bv l))(hl:E l<=1000000000):bg B w0 72 [.slice A n c] F (λr L=>∃(v:Value) (Y:aN),r= .tuple #[v,ah (aT l).2]/\L=Y++F):=by
 subst e;refine dQ.yk hb λoP _=>?_;refine cV func72 23 rfl rfl rfl [(0,.slice A (E l) c)] ⟨⟨rfl,rfl⟩,trivial⟩ ?_;refine ag 14 (λh6=>?_) λh6=>?_
 ·refine dA ?_;rw[acq aa];exact⟨_,[],rfl,rfl⟩
 ·obtain⟨m,hm⟩:=cM (E l-4);have hmm:(E l:Int)-4=(m:Int):=by omega
  have vM:aJ B w0 F 1 (.slice A m c) m (bv (l.take m)):=by
   have:=hb.h_ (k:=m) aa;rw[jK,cH]at this;exact this
  have G7:E (l.take m)=m:=by rw[fZ];omega
  have hce:=acr (l:=l) (m:=m) aa hm;refine dA ?_;refine ab (bQ (i:=m) (size:=1) underlying27 ae rfl rfl hmm aa) rfl (ay rfl (ag9 (l:=l.take m) G7.symm vM aa) λAp cp=>aX ?_);refine ai rfl (afB (l:=b7 (l.take m)) (l2:=l) (aJ.own (.head _)) hb.cons) (ag 3 (λmj=>?_) λmj=>?_)
  ·refine dA ?_;rw[hce,aB (by assumption)];exact⟨_,[_],rfl,rfl⟩
  ·refine fb ?_;refine cv (fA bP) λRo=>fb ?_;refine ab (bQ (i:=m) (size:=1) underlying27 ae rfl rfl hmm aa) rfl (dB (bB bP rfl aU rfl vM.cons.cons (uk _) aa aa) λUT Vs=>?_);refine aD 2 [2,3] 3 ?_;rw[hce,av (gE.1 mj)];exact⟨_,[_,_],rfl,rfl⟩
theorem aoC(ey:E b<=32768):Hx b=(packed (kB (fS b)),0)/\(∀t∈fS b,dX t)/\E (fS b)<=32768:=by
 have hm:∀t∈fS b,dX t:=uz b (E b) 0;have hl:=IK b;exact⟨QG aa hm,hm,aa⟩
theorem ao_{xs:cQ}(e1:n=E l)(hb:aJ B w0 F 1 (.slice A n c) n xs)(e2:xs=bv l)(hl:E l<=1000000000):bg B w0 78 [.slice A n c] F (λr L=>∃A' c',r= .slice A' (E (b7 l)) c'/\L= .own 5 1 A' (E (b7 l)) c' (bv (b7 l))::F):=by
 subst e2;exact ag9 e1 hb hl
theorem abf(HL:abv B w0){pl:Bool}(hb:gw B w0 F A c b)(ey:E b<=32768):
  bg B w0 39 [.slice A (E b) c,.bool pl] F (λr L=>∃A' c',r= .tuple #[.slice A' (E (ij b pl).1) c',ah 0]/\L= .own 5 1 A' (E (ij b pl).1) c' (bv (ij b pl).1)::F):=by
 obtain⟨hsq,hm,l_⟩:=aoC ey;have hW:(ij b pl).1=b7 (uh b pl++(jl b pl).2):=by unfold ij;rw[aB aa]
 have hSq:Ue b↔(E (packed (kB (fS b))))<E b:=by
  show((Hx b).2=0/\E (Hx b).1<E b)↔_;rw[hsq];exact⟨λh=>h.2,λh=>⟨rfl,h⟩⟩
 rw[hW];refine fw func39 47 [0,1] ?_;refine bZ 14 λnj=>?_;refine dA ?_;refine dq (λzf zL=>∃(w:UInt8) (bd:aq) (A7:bh) (c7:Nat) (K:aN),(jl b pl=(w,bd)/\E bd<=32768/\aJ B w0 K 1 (.slice A7 (E bd) c7) (E bd) (bv bd)/\aJ B w0 K 1 (.slice A (E b) c) (E b) (bv b)/\Wk K F)/\Sub zf [(0,.slice A (E b) c),(6,.int .u8 (w.toNat:Int)),(7,.slice A7 (E bd) c7)]/\Wk zL (K)) ?_ ?_
 ·refine fc ?_;refine ab (lf rfl) rfl (fB 2 (λj0=>?_) λj0=>?_)
  ·refine fc ?_;refine ay rfl (akF hb aa) λGA Q4=>ay rfl (abm HL (l:=fS b) (aJ.own (.head _)) l_ hm) λBZ CP=>aD 14 [0,6,7,8,27] 0 ?_;refine ag 1 (λkq=>?_) λkq=>?_
   ·refine dA ?_;exact bo ⟨1,packed (kB (fS b)),BZ,CP,.own 5 1 BZ (E (packed (kB (fS b)))) CP (bv (packed (kB (fS b))))::F,⟨by unfold jl;rw[av ⟨by simpa using j0,hSq.2 aa⟩,hsq],aa,aJ.own (.head _),hb.cons,.skip (.refl _)⟩,a_,.cons (.skip (.refl _))⟩
   ·refine aX ?_;exact bo ⟨0,b,A,c,F,⟨by unfold jl;rw[aB (λk=>by have:=hSq.1 k.2;omega)],ey,hb,hb,.refl _⟩,a_,.s2 (.refl _)⟩
  ·refine aX ?_;exact bo ⟨0,b,A,c,F,⟨by unfold jl;rw[aB (λk=>by have:=k.1;simp[this]at j0)],ey,hb,hb,.refl _⟩,a_,.refl _⟩
 ·rintro _ _ ⟨w,bd,A7,c7,K,⟨hY,Oj,hb7,hbK,hwF⟩,hs,hp⟩;refine aL hs hp (aX ?_);have hH:uh b pl++(jl b pl).2=w::(aW (E b)++aW (E bd))++bd:=by unfold uh;rw[hY]
  rw[hH];have Zl:=aY (x:=E b) aa;have ry:=aY (x:=E bd) aa;refine ew ?_;refine cv (aG bP [_] rfl rfl bY aa aa) λRp=>dA ?_;refine ay rfl (T_ (E b) aa) λDe c35=>dB (bB bP rfl aU rfl aA bY aa aa) λA36 c36=>dA ?_;refine ay rfl (T_ (E bd) aa) λMk c41=>dB (bB bP rfl aU rfl aA bY aa aa) λA42 c42=>?_;refine aD 1 [7,10] 5 ?_;refine dB (bB bP rfl aU rfl aA bY aa aa) λMl Nb=>?_;refine ay rfl (ao_ (l:=w::(aW (E b)++aW (E bd))++bd) bS (aJ.own Aw) (by simp[bv,bT]) bS) λA46 c46=>dx ?_;exact ak (.cons (by repeat (first|exact hwF|apply Wk.skip))) (bO 1)
theorem ag_{L:List aI}{k:Nat}(hk:a+k<=E L)(hb:aJ B w0 F 4 (.slice A (E L) c) (E L) (cD L))(hx:∀x∈L,x.1<18446744073709551616)(hw:dJ L<=1048576):
  bg B w0 40 [.bool false,.slice (if c=a then A else A.map (·.add (a*4))) (a+k-a) (c-a)] F (λr K=>∃A' c',r= .slice A' (E (ct false ((L.drop a).take k))) c'/\K= .own 5 1 A' (E (ct false ((L.drop a).take k))) c' (bv (ct false ((L.drop a).take k)))::F):=by
 have hcut:=(hb.h_ (k:=a+k) hk).cut (k:=a) aa;have e:(L.take (a+k)).drop a=(L.drop a).take k:=by rw[Hk];congr 1;omega
 rw[r8,pj,e]at hcut;have hl:a+k-a=E ((L.drop a).take k):=by rw[fZ,jM];omega
 rw[hl]at hcut⊢;exact T3 false ((L.drop a).take k) hcut (λx S5=>hx x (oG (ia S5))) apW
theorem abg{S:Nat}{L:List aI}{gs:br}(he:fz S (lens false L)=gs)(hb:aJ B w0 F 4 (.slice A (E L) c) (E L) (cD L))(hx:∀x∈L,x.1<18446744073709551616)(hw:dJ L<=1000000000)(hS:1<=S)(hS2:S<=9223372036854775807):
  bg B w0 38 [ah (S:Int),.bool false,.slice A (E L) c] F (λr K=>∃A' c',r= .slice A' (E gs) c'/\K= .own 3 1 A' (E gs) c' (bN gs)::F):=by
 have:=aao (B:=B) (w0:=w0) (F:=F) (S:Int) false L hb hx hw S aa hS2;rw[he]at this;exact this
def apg(o:aZ)(L:List aI)(F:aN)(r:Value)(K:aN):Prop:=∃(Af:bh) (cf:Nat) (Ac:bh) (cc:Nat) (PB:List kF),r= .tuple #[.slice Af (E PB) cf,.slice Ac (E (dc o false L)) cc]/\PB.map (·.2.2)=cB o L/\
 K= .own 27 1 Af (E PB) cf (PB.map de):: .own 3 1 Ac (E (dc o false L)) cc (bN (dc o false L))::(PB.map fk++F)
theorem abe{o:aZ}{L:List aI}(h:dF 2 o=0)(hc:dC L=0)(hx:∀x∈L,x.1<18446744073709551616)(hb:aJ B w0 F 4 (.slice A (E L) c) (E L) (cD L)):bg B w0 21 [.agg (aZ.cells o).toArray,.slice A (E L) c] F (apg o L F):=by
 obtain⟨q9,oB,G4⟩:=jC hc hx;obtain⟨⟨⟨m1,m2⟩,_⟩,_⟩:=qz h;have Ms:E (dc o false L)<=E L:=by unfold dc;have:=lh o.1.toNat (lens false L);rwa [dP]at this
 refine dQ.yk hb λoP _=>?_;obtain⟨bl,pl,bu,da,pa,ch⟩:=o;simp only at m1 m2;obtain⟨S,rfl⟩:=gl (show 0<=bl by omega);obtain⟨gs,ED⟩:=cM (dc ((S:Int),pl,bu,da,pa,ch) false L);have Zh:fz S (lens false L)=gs:=by rw[ED];rfl
 have xq:=vI ((S:Int),pl,bu,da,pa,ch) false L;have anh:DH S pl [] L gs 0 0:=⟨rfl,ap4,bD _⟩
 unfold apg;rw[<-ED]at Ms xq⊢;refine cV func21 50 rfl rfl rfl [(0,.agg #[ah (S:Int),.bool pl,ah bu,ah da,ah pa,ah ch]),(1,.slice A (E L) c)] ⟨⟨rfl,rfl⟩,⟨rfl,rfl⟩,trivial⟩ ?_;refine bM 2 λg2=>?_;refine dA ?_;refine ay rfl (abg Zh hb.cons hx aa aa aa) λqh tX=>fb ?_;refine aM 27 1 none (bK 16 ?_);refine aw (λzf zL zm=>∃(k a:Nat) (PB:List kF) (Ap:bh) (cp:Nat),(k<=E gs/\E PB=k/\DH S pl (PB.map (·.2.2)) L gs k a/\a<=E L)/\E gs-k=zm/\Sub zf [(1,.slice A (E L) c),(2,bq g2),(6,.slice qh (E gs) tX),(7,.slice Ap (E PB) cp),(8,ah a),(9,ah k)]/\Wk zL (.own 27 1 Ap (E PB) cp (PB.map de):: .own 3 1 qh (E gs) tX (bN gs):: .bI g2 23 [ah (S:Int),.bool pl,ah bu,ah da,ah pa,ah ch]::(PB.map fk++F))) _ ⟨0,0,[],none,0,⟨bD _,rfl,anh,bD _⟩,rfl,a_,.refl _⟩ ?_;rintro _ _ _ ⟨k,a,PB,Ap,cp,⟨hk,vN,G5,CU⟩,rfl,hs,hp⟩;refine aL hs hp (ag 9 (λqM=>?_) λqM=>?_)
 ·obtain⟨n,hn⟩:=cM (gs.getD k 0);obtain⟨arS,Zm,aiG,adJ⟩:=G5.step aa hn aa oB;have hbP:aJ B w0 (PB.map fk++F) 4 (.slice A (E L) c) (E L) (cD L):=hb.mono (fN _ _);refine cN 5 (.own 27 1 Ap (E PB) cp (PB.map de):: .own 3 1 qh (E gs) tX (bN gs):: .bI g2 23 [ah (S:Int),.bool pl,ah bu,ah da,ah pa,ah ch]::(PB.map fk++F)) ?_;refine aF 0 6 ?_;refine aS 6 rfl (al ae rfl aA aa (fi (v:=n) aa hn.symm)) ?_;refine aS 7 rfl (bF rfl rfl (r:=((a+n:Nat):Int)) ((bj aa aa).trans aa)) (aS 8 rfl (fR (i:=a) (j:=a+n) (size:=4) underlying24 ae rfl rfl rfl rfl rfl aa aa) (aF 10 2 ?_));refine aC 9 (cj rfl rfl (ag_ (L:=L) Zm hbP.cons.cons.cons hx aa) λMi Mo=>aC 12 (cj rfl rfl (abf akI (b:=ct false ((L.drop a).take n)) (pl:=pl) aA aa) λDe c35=>?_));refine aF 13 5 ?_;refine di [1,2,6,7,8,9,10] ?_;refine dx ?_;refine cC fO rfl rfl rfl rfl rfl (λ_=>rfl) aU aa aa ?_;intro _ Mk c41;refine cY ?_;refine ab (al ae rfl aA aa (fi (v:=n) aa hn.symm)) rfl ?_;refine ab (bF rfl rfl (r:=((a+n:Nat):Int)) ((bj aa aa).trans aa)) rfl (dA ?_);have qc:E (PB++[((De,c35,(ij (ct false ((L.drop a).take n)) pl).1):kF)])=E PB+1:=by simp
  refine aj ⟨_,aa,k+1,a+n,PB++[((De,c35,(ij (ct false ((L.drop a).take n)) pl).1):kF)],Mk,c41,⟨aa,aa,by simpa using adJ,aa⟩,rfl,a_,.trans ((dL (gC (gC (gC (.skip (.refl _))))))) (.trans (oU (e:=((De,c35,(ij (ct false ((L.drop a).take n)) pl).1):kF)) [.own 27 1 Mk (E PB+1) c41 (PB.map de++[de ((De,c35,(ij (ct false ((L.drop a).take n)) pl).1):kF)]),.own 3 1 qh (E gs) tX (bN gs),.bI g2 23 [ah (S:Int),.bool pl,ah bu,ah da,ah pa,ah ch]]) (au qc.symm ao (.refl _)))⟩
 ·obtain rfl:k=E gs:=by omega
  have EB:=G5.all;rw[Cu]at EB;have SM:PB.map (·.2.2)=cB ((S:Int),pl,bu,da,pa,ch) L:=by
   rw[show cB ((S:Int),pl,bu,da,pa,ch) L=iV false pl gs L by unfold cB;rw[<-ED],<-EB];simp[iV]
  refine bK 14 ?_;refine ak (.cons (.cons (.skip (.refl _)))) (aX ?_);exact⟨Ap,cp,qh,tX,PB,rfl,SM,rfl⟩
section
variable{sl:aq}{acc:List bG}
theorem QA(h:oT sl fl q (f+1) most p acc=R)(hR:R.2=0):(ic sl fl q p).2.2.1=0:=b_ λk=>by
 have:=Gf (t:=(ic sl fl q p).1) (ok:=(ic sl fl q p).2.1) (e:=(ic sl fl q p).2.2.1) (p2:=(ic sl fl q p).2.2.2) h rfl k;rw[this]at hR;exact k hR
theorem agx(h:(ic sl fl q p).2.2.1=0):(dN sl q p).2.1=0:=b_ λk=>by
 unfold ic at h;rw[av (.inl k)]at h;exact k h
theorem agt{s:Int}(hh:dN sl q p=(s,0,p1))(hs:s=256):ic sl fl q p=((0,0,0),false,0,p1):=by
 unfold ic;rw[hh,av (.inr hs)]
theorem agv{s:Nat}(hh:dN sl q p=((s:Int),0,p1))(hs:s<256):ic sl fl q p=((UInt8.ofNat s,0,0),true,0,p1):=by
 unfold ic;rw[hh,aB (λk=>k.elim (λk=>k rfl) (λk=>MO)),av cX];simp only[lJ]
theorem QC{s:Nat}(hh:dN sl q p=((s:Int),0,p1))(hs:256<s):ic sl fl q p=((jt fl q p1 s).1,decide ((jt fl q p1 s).2.1=0),(jt fl q p1 s).2.1,(jt fl q p1 s).2.2):=by
 unfold ic;rw[hh,aB (λk=>k.elim (λk=>k rfl) (λk=>MO)),aB cX]
theorem UM{s:Int}(h:(jt fl q p s).2.1=0):pE q p (s-257)=0:=b_ λk=>by
 unfold jt at h;rw[av k]at h;exact k h
theorem UN{s:Int}(h:(jt fl q p s).2.1=0):(dN fl q (fH q p (s-257))).2.1=0:=b_ λk=>by
 have h1:=UM h;unfold jt at h;rw[aB (λj=>j h1),av k]at h;exact k h
theorem ao9{s:Int}{k:Int}{p3:Nat}(h:(jt fl q p s).2.1=0)(hk:dN fl q (fH q p (s-257))=(k,0,p3)):pE q p3 k=0/\jt fl q p s=((0,2+2^(s-257).toNat+(jE q p (s-257):Int),2^k.toNat+(jE q p3 k:Int)),0,fH q p3 k):=by
 have h1:=UM h;have h2:=UN h;have h3:pE q p3 k=0:=b_ λj=>by
  unfold jt at h;rw[aB (λj=>j h1),aB (λj=>j h2),hk,av j]at h;exact j h
 refine⟨h3,?_⟩;unfold jt;rw[aB (λj=>j h1),aB (λj=>j h2),hk];simp only;rw[aB (λj=>j h3)]
def ahf(ps px pc py:Nat)(tk:bG):Prop:=(ps<256/\px=0/\pc=0/\py=0/\tk=(UInt8.ofNat ps,0,0))\/(∃b,ps=257+b/\b<=7/\px<2^b/\pc<=11/\py<2^pc/\tk=(0,((2+2^b+px:Nat):Int),((2^pc+py:Nat):Int)))
theorem ahf.rng{ps px pc py:Nat}{tk:bG}(h:ahf ps px pc py tk):0<=tk.2.1/\tk.2.1<=300/\0<=tk.2.2/\tk.2.2<=5000:=by
 rcases h with⟨_,_,_,_,rfl⟩|⟨b,_,hb,hx,hc,hy,rfl⟩
 ·exact⟨ao,ao,ao,ao⟩
 ·have h1:2^b<=128:=gz (n:=2) aa hb;have h2:2^pc<=2048:=gz (n:=2) aa hc;simp only;omega
theorem abh{ps px pc py:Nat}{tk:bG}(h:ahf ps px pc py tk):bg B w0 104 [.agg #[ah (ps:Int),ah (px:Int),ah (pc:Int),ah (py:Int)]] F
  (λr L=>r= .tuple #[.agg #[.int .u8 (tk.1.toNat:Int),ah tk.2.1,ah tk.2.2],ah 0]/\L=F):=by
 rcases h with⟨h,rfl,rfl,rfl,rfl⟩|⟨b,rfl,hb,hx,hc,hy,rfl⟩
 ·have:=abi (B:=B) (w0:=w0) (F:=F) (UInt8.ofNat ps);rw[nr h]at this;simp only[nr h];exact this
 ·exact akH hb hx hc hy
def wk(R:List bG×Int)(F:aN)(r:Value)(L:aN):Prop:=
 ∃(A':bh) (c':Nat) (e:Int) (T:List bG) (X:aN),r= .tuple #[.slice A' (E T) c',ah e]/\L=X++F/\
  ((e=0->X=[.own 170 3 A' (E T) c' (f_ T)]/\zJ T/\E T<=1000000)/\(R.2=0->e=0/\T=R.1))
theorem wk.none_{X:aN}(he:¬e=0)(hR:R.2=0->False):wk R F (.tuple #[.slice none 0 0,ah e]) (X++F):=
 ⟨none,0,e,[],X,rfl,rfl,λh=>absurd h he,λh=>(hR h).elim⟩
end
theorem HN(h:P:=by(first|assumption|decide)):P:=h
theorem abk(hm:most<0):bg B w0 54 [.slice A (E b) c,ah most] F (wk (eh b most) F):=by
 rw[JO hm];refine fw func54 130 [0,1] ?_;refine ag 13 (λkJ=>?_) λkJ=>?_
 ·refine dA ?_;exact wk.none_ (X:=[]) aE ao
 ·exfalso;exact kJ hm
theorem akL(hb:gw B w0 F A c b)(ey:E b<=1000000)(hm:¬most<0)(h1:nW (eM b) 0 265=(l,e,p))(h2:¬e=0):
  bg B w0 54 [.slice A (E b) c,ah most] F (wk (eh b most) F):=by
 have yU:=dm b;rw[LV hm h1 h2];refine fw func54 130 [0,1] ?_;refine ag 13 (λkJ=>?_) λkJ=>?_
 ·exfalso;exact hm kJ
 ·refine dx ?_;refine dV rfl (TH hb ey) λgr Ar cr=>dw ?_;refine ay rfl (vv (eM b) 0 aa aa 265 aa aa l e p h1) λA29 c29=>ag 14 (λCd=>?_) λCd=>?_
  ·refine aD 5 [4,5] 4 ?_;exact wk.none_ (X:=[_,_,_]) h2 (λk=>h2 k)
  ·exfalso;exact Cd h2
theorem akM{l2:aq}{p2:Nat}(hb:gw B w0 F A c b)(ey:E b<=1000000)(hm:¬most<0)(h1:nW (eM b) 0 265=(l,0,p))(h2:nW (eM b) p 12=(l2,e,p2))(h3:¬e=0):
  bg B w0 54 [.slice A (E b) c,ah most] F (wk (eh b most) F):=by
 have yU:=dm b;have kh:p<=E (eM b):=by have:=u9 (q:=eM b) (p:=0) 265 aa;rw[h1]at this;exact this
 rw[LW hm h1 h2 h3];refine fw func54 130 [0,1] ?_;refine ag 13 (λkJ=>?_) λkJ=>?_
 ·exfalso;exact hm kJ
 ·refine dx ?_;refine dV rfl (TH hb ey) λgr Ar cr=>dw ?_;refine ay rfl (vv (eM b) 0 aa aa 265 aa aa l 0 p h1) λA29 c29=>ag 14 (λCd=>?_) λCd=>?_
  ·exfalso;exact Cd rfl
  ·refine dx ?_;refine ay rfl (vv (eM b) p kh aa 12 aa aa l2 e p2 h2) λME Yj=>aD 5 [1,6,7,8,9] 0 ?_;refine ag 8 (λtZ=>?_) λtZ=>?_
   ·refine dh ?_;exact wk.none_ (X:=[_,_,_,_]) h3 (λk=>h3 k)
   ·exfalso;exact tZ h3
theorem akN{l2:aq}{p2:Nat}(hb:gw B w0 F A c b)(ey:E b<=1000000)(hm:¬most<0)(oh:most<=1000000)(h1:nW (eM b) 0 265=(l,0,p))(h2:nW (eM b) p 12=(l2,0,p2)):
  bg B w0 54 [.slice A (E b) c,ah most] F (wk (eh b most) F):=by
 have yU:=dm b;have kh:p<=E (eM b):=by have:=u9 (q:=eM b) (p:=0) 265 aa;rw[h1]at this;exact this
 have G_:p2<=E (eM b):=by have:=u9 (q:=eM b) (p:=p) 12 kh;rw[h2]at this;exact this
 have q9:E l=265:=by have:=vR (q:=eM b) (p:=0) (n:=265);rw[show(((265:Nat):Int))=265 from rfl,h1]at this;exact this rfl
 have oB:E l2=12:=by have:=vR (q:=eM b) (p:=p) (n:=12);rw[show(((12:Nat):Int))=12 from rfl,h2]at this;exact this rfl
 have xm:Good l:=by have:=FH (q:=eM b) (p:=0) (n:=265);rw[h1]at this;exact this rfl
 have AW:Good l2:=by have:=FH (q:=eM b) (p:=p) (n:=12);rw[h2]at this;exact this rfl
 obtain⟨R,hR⟩:∃R,oT l l2 (eM b) (most.toNat+1) most p2 []=R:=⟨_,rfl⟩
 rw[LY hm h1 h2,hR];obtain⟨q,hq⟩:∃q,eM b=q:=⟨_,rfl⟩
 rw[hq]at yU kh G_ h1 h2 hR;have hnr:=TH (B:=B) (w0:=w0) hb ey;rw[hq]at hnr;refine fw func54 130 [0,1] ?_;refine ag 13 (λkJ=>?_) λkJ=>?_
 ·exfalso;exact hm kJ
 ·refine dx ?_;refine dV rfl (hnr) λgr Ar cr=>dw ?_;refine ay rfl (vv q 0 aa aa 265 aa aa l 0 p h1) λA29 c29=>ag 14 (λCd=>?_) λCd=>?_
  ·exfalso;exact Cd rfl
  ·refine dx ?_;refine ay rfl (vv q p kh aa 12 aa aa l2 0 p2 h2) λME Yj=>aD 5 [1,6,7,8,9] 0 ?_;refine ag 8 (λtZ=>?_) λtZ=>?_
   ·exfalso;exact tZ rfl
   ·refine dx ?_;refine bp Vz rfl (Me xm aa (aJ.own Aw)) rfl ?_;rintro _ _ ⟨Ml,Nb,B45,d45,rfl,cR⟩;obtain rfl:=cR.symm;refine bW 3 λQ8=>?_;refine dg ?_;refine bp Vz rfl (Me AW aa (aJ.own Aw)) rfl ?_;rintro _ _ ⟨wF,yn,B50,d50,rfl,cR⟩;obtain rfl:=cR.symm;refine bW 3 λwM=>?_;refine aD 2 [1,6,10,12] 2 ?_;refine aM 170 3 none ?_;obtain⟨K,hK⟩:=cM ((.own 5 1 wF (E l2) yn (bv l2):: .own 57 1 B50 (E l2) d50 (ints .u16 (dU l2)):: .own 5 1 Ml (E l) Nb (bv l):: .own 57 1 B45 (E l) d45 (ints .u16 (dU l)):: .own 5 1 ME (E l2) Yj (bv l2):: .own 5 1 A29 (E l) c29 (bv l)::F:aN));have hba:aJ B w0 K 1 (.slice Ml (E l) Nb) (E l) (bv l):=by rw[hK];exact aJ.own Aw
    have hbb:aJ B w0 K 1 (.slice B45 (E l) d45) (E l) (ints .u16 (dU l)):=by rw[hK];exact aJ.own Aw
    have hbc:aJ B w0 K 1 (.slice wF (E l2) yn) (E l2) (bv l2):=by rw[hK];exact aJ.own Aw
    have Oj:aJ B w0 K 1 (.slice B50 (E l2) d50) (E l2) (ints .u16 (dU l2)):=by rw[hK];exact aJ.own Aw
    have xr:Wk K F:=by rw[hK];exact .s6 (.refl _)
    refine mM (L':=.own 170 3 none 0 0 []:: .bI wM 161 [.slice wF (E l2) yn,.slice B50 (E l2) d50]:: .bI Q8 161 [.slice Ml (E l) Nb,.slice B45 (E l) d45]::Rf gr Ar cr q p2 K) (by rw[hK];exact(dL (dL (lU (X4 (X4 (dL (dL (dL (dL (dL (dL (.refl _))))))))))))) ?_;clear hK;refine fF ?_;refine aw (λzf zL zm=>∃(f pp nn:Nat) (acc:List bG) (A':bh) (c':Nat),(pp<=E q/\(nn:Int)<=most/\E acc<=nn/\zJ acc/\(R.2=0->most-nn<f/\oT l l2 q f (most-nn) pp acc=R))/\E q-pp=zm/\Sub zf [(1,ah most),(6,bq gr),(10,bq Q8),(12,bq wM),(14,.slice A' (E acc) c'),(15,ah (nn:Int))]/\Wk zL (.own 170 3 A' (E acc) c' (f_ acc):: .bI wM 161 [.slice wF (E l2) yn,.slice B50 (E l2) d50]:: .bI Q8 161 [.slice Ml (E l) Nb,.slice B45 (E l) d45]::Rf gr Ar cr q pp K)) _ ⟨most.toNat+1,p2,0,[],none,0,⟨G_,aa,ao,(show zJ [] from λt h=>jB),λ_=>⟨aa,by rw[show most-((0:Nat):Int)=most by simp];exact hR⟩⟩,rfl,a_,.refl _⟩ ?_;rintro _ _ _ ⟨f,pp,nn,acc,A',c',⟨hpq,Zn,CU,ar',rv⟩,rfl,hs,hp⟩;refine aL hs hp (dx ?_);refine bp ak0 rfl (.perm (ag7 xm aa hpq aa hba.cons.cons.cons hbb.cons.cons.cons) ((pu3 (pu3 (gh (gh (gh (.refl _)))))))) rfl ?_;rintro _ _ ⟨s,e,p1,rfl,cR,aiE,Zi,la,alw⟩;obtain rfl:=cR.symm;refine dA ?_;have SZ:R.2=0->(dN l q pp).2.1=0:=λh=>by
     obtain⟨hf,hg⟩:=rv h;obtain⟨f',rfl⟩:∃f',f=f'+1:=⟨f-1,aa⟩
     exact agx (QA hg h)
    refine ag 5 (λOg=>?_) λOg=>?_
    ·have rz:R.2=0->False:=λh=>Og (alw (SZ h)).2.1;refine aD 5 [4,5] 7 ?_;first|refine ak (L':=F) (.s4 (.skip xr)) ?_ |refine ak (L':=F) (.s5 (.skip xr)) ?_ |skip
     refine aX ?_;exact wk.none_ (X:=[]) HN rz
    ·obtain rfl:e=0:=gE.1 Og;obtain⟨s,rfl,j8,yS⟩:=la rfl;have hS:R.2=0->dN l q pp=((s:Int),0,p1):=λh=>by
      obtain⟨a,_,c⟩:=alw (SZ h);exact Prod.ext a.symm (Prod.ext (SZ h) c.symm)
     refine ag 9 (λxZ=>?_) λxZ=>?_
     ·have uE:R.2=0->R=if Rm q p1=0 then (acc,0) else ([],Rm q p1):=λh=>by
       obtain⟨hf,hg⟩:=rv h;obtain⟨f',rfl⟩:∃f',f=f'+1:=⟨f-1,aa⟩
       exact Ge hg (agt (hS h) xZ)
      refine dh ?_;refine ai rfl (aoo q p1 Zi aa) (aD 1 [14,128] 0 ?_);refine ag 1 (λOa=>?_) λOa=>?_
      ·have rz:R.2=0->False:=λh=>by
        have:=uE h;rw[aB Oa]at this;rw[this]at h;exact Oa h
       refine cY ?_;first|refine ak (L':=F) (.s4 (.skip xr)) ?_ |refine ak (L':=F) (.s5 (.skip xr)) ?_ |skip
       refine aX ?_;exact wk.none_ (X:=[]) HN rz
      ·have avh:R.2=0->acc=R.1:=λh=>by
        have:=uE h;rw[av (gE.1 Oa)]at this;rw[this]
       refine dh ?_;refine ak (L':=.own 170 3 A' (E acc) c' (f_ acc)::F) (.s2 (.cons (.skip (.skip xr)))) (aX ?_);exact⟨A',c',0,acc,[_],rfl,rfl,λ_=>⟨rfl,ar',aa⟩,λh=>⟨rfl,avh h⟩⟩
     ·refine dx ?_;refine ab (bw [(0,_)] [ah 0,ah 0,ah 0,ah 0] [0] [_,_,_,_] rfl rfl ae) rfl (fo λg18=>?_);refine fc ?_;refine dq (λzf zL=>∃(ps px pc py p4:Nat) (tk:bG),(ahf ps px pc py tk/\pp<p4/\p4<=E q/\(R.2=0->ic l l2 q pp=(tk,true,0,p4)))/\Sub zf [(1,ah most),(6,bq gr),(10,bq Q8),(12,bq wM),(14,.slice A' (E acc) c'),(15,ah (nn:Int)),(18,bq g18)]/\Wk zL (.bI g18 166 [ah (ps:Int),ah (px:Int),ah (pc:Int),ah (py:Int)]:: .own 170 3 A' (E acc) c' (f_ acc):: .bI wM 161 [.slice wF (E l2) yn,.slice B50 (E l2) d50]:: .bI Q8 161 [.slice Ml (E l) Nb,.slice B45 (E l) d45]::Rf gr Ar cr q p4 K)) ?_ ?_
      ·refine ag 6 (λWo=>?_) λWo=>?_
       ·obtain⟨b,rfl⟩:∃b,s=257+b:=⟨s-257,aa⟩
        have hb7:b<=7:=by omega
        have auF:=mB (q:=q) (p:=p1) (b:Int) Zi;have avl:jE q p1 (b:Int)<2^b:=qL q p1 (n:=b) aa;have avZ:2^b<=128:=gz (n:=2) aa hb7;have Zk:R.2=0->(jt l2 q p1 ((257+b:Nat):Int)).2.1=0:=λh=>by
         obtain⟨hf,hg⟩:=rv h;obtain⟨f',rfl⟩:∃f',f=f'+1:=⟨f-1,aa⟩
         have:=QA hg h;rw[QC (hS h) aa]at this;exact this
        have Hc:((257+b:Nat):Int)-257=(b:Int):=by omega
        refine fb ?_;refine ab (cU rfl rfl (r:=((b:Nat):Int)) ((bj aa aa).trans aa)) rfl (ai rfl (.perm (Lw q p1 Zi aa (b:Int) aa aa) ((oI (oI (gh (.refl _)))))) (aD 5 [1,6,10,12,14,15,18,19,20] 0 ?_));refine ag 8 (λh76=>?_) λh76=>?_
        ·have rz:R.2=0->False:=λh=>h76 (by have:=UM (Zk h);rw[Hc]at this;exact this);refine bK 14 ?_;first|refine ak (L':=F) (.s4 (.skip xr)) ?_ |refine ak (L':=F) (.s5 (.skip xr)) ?_ |skip
         refine aX ?_;exact wk.none_ (X:=[]) HN rz
        ·refine dx ?_;refine ab (be (r:=(jE q p1 (b:Int):Int)) underlying60 underlying3 rfl (bj aa aa)) rfl (cY ?_);refine bp ak0 rfl (.perm (ag7 (p:=fH q p1 (b:Int)) AW aa auF aa hbc.cons.cons.cons.cons Oj.cons.cons.cons.cons) ((gh (gh (gh (gh (gh (gh (.refl _))))))))) rfl ?_;rintro _ _ ⟨k,e2,p3,rfl,cR,xn,zY,auM,adF⟩;obtain rfl:=cR.symm;refine ag 15 (λh89=>?_) λh89=>?_
         ·have rz:R.2=0->False:=λh=>h89 (adF (by have:=UN (Zk h);rw[Hc]at this;exact this)).2.1;refine aD 5 [4,5] 8 ?_;first|refine ak (L':=F) (.s4 (.skip xr)) ?_ |refine ak (L':=F) (.s5 (.skip xr)) ?_ |skip
          refine aX ?_;exact wk.none_ (X:=[]) HN rz
         ·obtain rfl:e2=0:=gE.1 h89;obtain⟨k,rfl,awv,WB⟩:=auM rfl;have arL:k<=11:=by omega
          have arI:=mB (q:=q) (p:=p3) (k:Int) zY;have asb:jE q p3 (k:Int)<2^k:=qL q p3 (n:=k) aa;have auJ:2^k<=2048:=gz (n:=2) aa arL;have hm3:R.2=0->pE q p3 k=0/\jt l2 q p1 ((257+b:Nat):Int)=((0,2+2^(((257+b:Nat):Int)-257).toNat+(jE q p1 (((257+b:Nat):Int)-257):Int),2^(k:Int).toNat+(jE q p3 k:Int)),0,fH q p3 k):=λh=>by
           refine ao9 (Zk h) ?_;have h5:=UN (Zk h);rw[Hc]at h5⊢;obtain⟨a,_,c⟩:=adF h5;exact Prod.ext a.symm (Prod.ext h5 c.symm)
          refine dg ?_;refine ai rfl (Lw q p3 zY aa (k:Int) aa aa) (aD 5 [1,6,10,12,14,15,18,19,20] 0 ?_);refine ag 8 (λh99=>?_) λh99=>?_
          ·have rz:R.2=0->False:=λh=>h99 (hm3 h).1;refine bK 14 ?_;first|refine ak (L':=F) (.s4 (.skip xr)) ?_ |refine ak (L':=F) (.s5 (.skip xr)) ?_ |skip
           refine aX ?_;exact wk.none_ (X:=[]) HN rz
          ·have awp:p1<=fH q p1 (b:Int):=by unfold fH;split;omega;split<;>omega
           have awq:p3<=fH q p3 (k:Int):=by unfold fH;split;omega;split<;>omega
           refine fb ?_;refine ab (be (r:=(jE q p3 (k:Int):Int)) underlying60 underlying3 rfl (bj aa aa)) rfl (fc ?_);exact bo ⟨257+b,jE q p1 (b:Int),k,jE q p3 (k:Int),fH q p3 (k:Int),(0,((2+2^b+jE q p1 (b:Int):Nat):Int),((2^k+jE q p3 (k:Int):Nat):Int)),⟨.inr ⟨b,rfl,hb7,avl,arL,asb,rfl⟩,aa,arI,λh=>by rw[QC (hS h) aa,(hm3 h).2,Hc];simp⟩,a_,(lU (lU (lU (lU (dL (dL (.refl _)))))))⟩
       ·refine aX ?_;exact bo ⟨s,0,0,0,p1,(UInt8.ofNat s,0,0),⟨.inl ⟨aa,rfl,rfl,rfl,rfl⟩,aa,Zi,λh=>agv (hS h) aa⟩,a_,(dL (lU (lU (lU (dL (dL (.refl _)))))))⟩
      ·rintro _ _ ⟨ps,px,pc,py,p4,tk,⟨vN,hp4,au5,htr⟩,hs,hp⟩;refine aL hs hp (aX ?_);have hrg:=vN.rng;obtain⟨tn,htn⟩:∃tn:Nat,tk.2.1=(tn:Int):=⟨tk.2.1.toNat,aa⟩
       refine ew ?_;refine ai rfl (abh vN) (bW 3 λg21=>?_);refine fF ?_;refine dq (λzf zL=>∃(u:Nat),((u:Int)=nn+max 1 tk.2.1)/\Sub zf [(1,ah most),(6,bq gr),(10,bq Q8),(12,bq wM),(14,.slice A' (E acc) c'),(15,ah (u:Int)),(21,bq g21)]/\Wk zL (.bI g21 170 [.int .u8 (tk.1.toNat:Int),ah tk.2.1,ah tk.2.2]:: .own 170 3 A' (E acc) c' (f_ acc):: .bI wM 161 [.slice wF (E l2) yn,.slice B50 (E l2) d50]:: .bI Q8 161 [.slice Ml (E l) Nb,.slice B45 (E l) d45]::Rf gr Ar cr q p4 K)) ?_ ?_
       ·refine ag 7 (λat0=>?_) λat0=>?_
        ·refine fc ?_;refine ab (bL (v:=ah (tn:Int)) ae rfl aU (by show some (Value.int .i64 tk.2.1)=_;rw[htn])) rfl ?_;refine ab (bF rfl rfl (r:=((nn+1+tn:Nat):Int)) ((bj aa aa).trans aa)) rfl (ab (cU rfl rfl (r:=((nn+tn:Nat):Int)) ((bj aa aa).trans aa)) rfl (aD 1 [1,6,10,12,14,15,21] 0 ?_));exact bo ⟨nn+tn,aa,a_,.cons (.skip (.refl _))⟩
        ·refine aX ?_;exact bo ⟨nn+1,aa,a_,.cons (.skip (.refl _))⟩
       ·rintro _ _ ⟨u,hu,hs,hp⟩;refine aL hs hp (ag 8 (λat1=>?_) λat1=>?_)
        ·have rz:R.2=0->False:=λh=>by
          obtain⟨hf,hg⟩:=rv h;obtain⟨f',rfl⟩:∃f',f=f'+1:=⟨f-1,aa⟩
          have:=BQ hg (htr h) aa;rw[this]at h;exact absurd h aE
         refine dM ?_;first|refine ak (L':=F) (.s4 (.skip xr)) ?_ |refine ak (L':=F) (.s5 (.skip xr)) ?_ |skip
         refine aX ?_;exact wk.none_ (X:=[]) HN rz
        ·have qc:E (acc++[tk])=E acc+1:=by simp
         have arT:R.2=0->most-(u:Int)<((f-1:Nat):Int)/\oT l l2 q (f-1) (most-u) p4 (acc++[tk])=R:=λh=>by
          obtain⟨hf,hg⟩:=rv h;obtain⟨f',rfl⟩:∃f',f=f'+1:=⟨f-1,aa⟩
          have:=LU hg (htr h) aa;rw[y7,show most-(u:Int)=most-nn-max 1 tk.2.1 by omega];exact⟨aa,this⟩
         have adO:zJ (acc++[tk]):=λt ht=>by
          rcases dO.1 ht with ht|ht
          ·exact ar' t ht
          ·rw[kT.1 ht];exact⟨⟨aa,aa⟩,aa,aa⟩
         refine dx ?_;refine jX Qg rfl rfl rfl aa bY rfl rfl rfl (λ_=>rfl) aU aa aa ?_;intro _ ati atz;refine fc ?_;refine aj ⟨_,aa,f-1,p4,u,acc++[tk],ati,atz,⟨au5,aa,aa,adO,arT⟩,rfl,a_,.trans ((gC (gC (gC (gC (gC (.skip (.refl _)))))))) (au ao MR (.refl _))⟩
theorem akO(hb:gw B w0 F A c b)(ey:E b<=1000000)(oh:most<=1000000):
  bg B w0 54 [.slice A (E b) c,ah most] F (wk (eh b most) F):=by
 by_cases hm:most<0
 ·exact abk hm
 ·obtain⟨⟨l,e,p⟩,h1⟩:∃x,nW (eM b) 0 265=x:=⟨_,rfl⟩
  by_cases he:e=0
  ·subst he;obtain⟨⟨l2,e2,p2⟩,h2⟩:∃x,nW (eM b) p 12=x:=⟨_,rfl⟩
   by_cases he2:e2=0
   ·subst he2;exact akN hb ey hm oh h1 h2
   ·exact akM hb ey hm h1 h2 he2
  ·exact akL hb ey hm h1 he
theorem T'(m k M:Nat)(u:UInt8)(hk:k<=9)(hm:m<128^k)(h9:k=9->u.toNat=1)(hM:M=128^k):
  IntKind.u64.wrap ((m:Int)+IntKind.u64.wrap ((u.toNat:Int)%128*M))=((m+u.toNat%128*128^k:Nat):Int)/\
   (k<9->m+u.toNat%128*128^k<128^(k+1))/\(k<9->IntKind.u64.wrap ((M:Int)*128)=((128^(k+1):Nat):Int)):=by
 have sn:=JC m k u hk hm h9;refine⟨?_,sn.2.1,λh=>?_⟩
 ·have e:(u.toNat:Int)%128*M=((u.toNat%128*128^k:Nat):Int):=by rw[hM,xy];rfl
  have gU:=sn.2.2;generalize hq:u.toNat%128*128^k=q at*;rw[e,wrap_u64 _ aa,<-Int.natCast_add,wrap_u64 _ aa]
 ·have e9:(128:Nat)^9=9223372036854775808:=by decide+kernel
  have:(128:Nat)^(k+1)<=128^9:=gz aa aa;rw[e9]at this;have e:(M:Int)*128=((128^(k+1):Nat):Int):=by rw[hM,ki,xy];rfl
  generalize hq:128^(k+1)=q at*;rw[e,wrap_u64 _ aa]
set_option maxRecDepth 100000 in
set_option maxHeartbeats 1600000 in
theorem ajU{B:Nat}{A:bh}{n c:Nat}{l:aq}(w:World)(h:Rd w B 1 (.slice A n c) n (bv l))(hn:n<=1099511627776)(at_:Nat)(rr:at_<=n):
  Calls Tryz.prog 217 #[.slice A n c,ah at_] w λe w'=>e= .returned (.tuple #[.int .u64 ((b8 (l.drop at_)).1:Nat),ah ((at_+(b8 (l.drop at_)).2.1:Nat):Int),ah (b8 (l.drop at_)).2.2])/\w'=w:=by
 have Hr:=gM h;have Hl:=gM h.ad9;clear h;have awk:at_<=1099511627776:=by omega
 go_enter func217,Tryz.ntmps217
 go_wp2
 go_loop [7,8,9,10] (λx mm i RQ=>∃k m M:Nat,k<=9/\at_+k<=n/\i=ah k/\x= .int .u64 m/\mm= .int .u64 M/\Hid (M=128^k)/\Hid (Aj (l.drop at_) k m)) (λ_ _ i _=>n-at_-(intOf i).toNat)
 case atStart=>exact⟨0,0,1,aa,aa,rfl,rfl,rfl,by simp[Hid],by simp[Hid,Aj,b8]⟩
 case round=>
  obtain⟨k,m,M,hk9,hkn,rfl,rfl,rfl,HM,HS⟩:=hrel;by_cases gU:at_+k<n
  ·obtain⟨ad,u,rfl,_,hlu,iw⟩:=Hr.out.Vq gU;have hs:=HS.out.1;have arR:(l.drop at_)[k]? =some u:=by rw[k_6];exact hlu
   rw[drop_cons arR,dv]at hs;have HL:=gM hs;have hu:u.toNat<256:=u.toNat_lt;clear hs hlu arR;by_cases c1:k=9/\u.toNat≠1\/0<k/\u.toNat=0
   ·have e:=HL.out;rw[av c1]at e;have HE:=gM e;clear e;by_cases SP:k=9
    ·have b1:((u.toNat:Int) != 1)=true:=by rw[bne_iff_ne];omega
     have b9:((k:Int)==9)=true:=by rw[Hm];omega
     clear SP c1
     go_wp2_with fail
     go_ret3
     rw[HE.out];exact⟨Lv rfl (int_eq ao) rfl,rfl⟩
    ·have b9:((k:Int)==9)=false:=by rw[ma];omega
     have b0:((u.toNat:Int)==0)=true:=by rw[Hm];omega
     have k0:(0:Int)<k:=by omega
     go_wp2_with fail
     go_ret3
     rw[HE.out];exact⟨Lv rfl (int_eq ao) rfl,rfl⟩
   ·have sn:=T' m k M u hk9 HS.out.2.1 aa HM.out;have HT:=gM sn;clear sn;by_cases c2:u.toNat<128
    ·have e:=HL.out;rw[aB c1,av c2]at e;have HE:=gM e;clear e;by_cases SP:k=9
     ·have b1:((u.toNat:Int) != 1)=false:=by rw[bne_eq_false_iff_eq];omega
      have b0:((u.toNat:Int)==0)=false:=by rw[ma];omega
      have b9:((k:Int)==9)=true:=by rw[Hm];omega
      have k0:(0:Int)<k:=by omega
      clear SP c1
      go_wp2_with fail
      go_ret3
      rw[HE.out];exact⟨Lv (int_eq HT.out.1) (int_eq bS) rfl,rfl⟩
     ·have b9:((k:Int)==9)=false:=by rw[ma];omega
      by_cases wQ:k=0
      ·have k0:¬((0:Int)<k):=by omega
       have HK:=gM wQ;clear wQ
       go_wp2_with fail
       go_ret3
       rw[HE.out];exact⟨Lv (int_eq HT.out.1) (int_eq bS) rfl,rfl⟩
      ·have k0:(0:Int)<k:=by omega
       have b0:((u.toNat:Int)==0)=false:=by rw[ma];omega
       go_wp2_with fail
       go_ret3
       rw[HE.out];exact⟨Lv (int_eq HT.out.1) (int_eq bS) rfl,rfl⟩
    ·have e:=HL.out;rw[aB c1,aB c2]at e;have SP:k<9:=by omega
     have HE:Hid (Aj (l.drop at_) (k+1) (m+u.toNat%128*128^k)):=⟨e,HT.out.2.1 SP,aa⟩
     clear e;have b9:((k:Int)==9)=false:=by rw[ma];omega
     by_cases wQ:k=0
     ·have k0:¬((0:Int)<k):=by omega
      have HK:=gM wQ;clear wQ
      go_wp2_with fail
      go_round
      case rel=>exact⟨k+1,_,_,aa,aa,yg,int_eq HT.out.1,int_eq (HT.out.2.2 SP),rfl,HE⟩
      case measure=>simp[intOf];omega
     ·have k0:(0:Int)<k:=by omega
      have b0:((u.toNat:Int)==0)=false:=by rw[ma];omega
      go_wp2_with fail
      go_round
      case rel=>exact⟨k+1,_,_,aa,aa,yg,int_eq HT.out.1,int_eq (HT.out.2.2 SP),rfl,HE⟩
      case measure=>simp[intOf];omega
  ·have e:=HS.out.1;have e0:List.drop k (List.drop at_ l)=[]:=kr (by rw[jM];have:=Hl.out;omega);rw[e0,dv]at e;clear e0;have HE:=gM e;clear e
   go_wp2_with fail
   go_ret3
   rw[HE.out];exact⟨Lv rfl (int_eq ao) rfl,rfl⟩
abbrev Rv(g:Nat)(A:bh)(c:Nat)(s:Cs):Ch:=.bI g 154 [.slice A (E s.b) c,ah s.at_,ah s.e]
theorem ajV(hb:aJ B w0 L0 1 (.slice A n c) n (bv l))(hn:n<=1099511627776){at_:Nat}(rr:at_<=n):bg B w0 217 [.slice A n c,ah at_] L0 (λr L=>r= .tuple #[.int .u64 (b8 (l.drop at_)).1,ah (at_+(b8 (l.drop at_)).2.1:Nat),ah (b8 (l.drop at_)).2.2]/\L=L0):=
 dQ.of_same λw hw=>(ajU w (hb w hw) hn at_ rr).mono λe w' ⟨h1,h2⟩=>⟨h1,h2.symm⟩
theorem ajR(ho:cw s):bg B w0 165 [bq g] (Rv g A c s::F) (λr L=>r=ah s.left/\L=Rv g A c s::F):=by
 have rr:=ho.at_;have hlen:=ho.len;have el:(s.left:Int)=(E s.b:Int)-s.at_:=by unfold Cs.left;omega
 refine ba func165 13 [0] 22 ?_;exact⟨by rw[el],rfl⟩
theorem ajL(ho:cw s)(hb:aJ B w0 F 1 (.slice A (E s.b) c) (E s.b) (bv s.b)):
  bg B w0 164 [bq g] (Rv g A c s::F) (λr L=>r= .int .u64 s.num/\L=Rv g A c s.lK::F):=by
 have hlen:=ho.len;have rr:=ho.at_;refine fw func164 33 [0] ?_;refine ag 15 (λig=>?_) λig=>?_
 ·refine cY ?_;rw[(Cs.bad ig).1,(Cs.bad ig).2.1];exact⟨rfl,rfl⟩
 ·refine dM ?_;refine iL aqt rfl (ajV (at_:=s.at_) aA hlen rr) tJ rfl ?_;refine dg ?_;refine lD [(0,_),(3,_),(4,_),(5,_)] ⟨rfl,rfl,rfl,rfl,trivial⟩ ?_;refine bK 27 ?_;have h0:s.e=0:=by omega
  rw[(Cs.Li h0).1,(Cs.Li h0).2];exact⟨rfl,rfl⟩
theorem Xj(ho:cw s)(hb:aJ B w0 F 1 (.slice A (E s.b) c) (E s.b) (bv s.b))(zZ:-9223372036854775808<=most)(oh:most<=9223372036854775807):
  bg B w0 97 [bq g,ah most] (Rv g A c s::F) (λr L=>r=ah (s.int most)/\L=Rv g A c (s.bX most)::F):=by
 have G8:=ajL (g:=g) ho hb;by_cases h0:s.e=0
 ·have e:eU s.rest most=Ts (b8 s.rest).1 (b8 s.rest).2.1 (b8 s.rest).2.2 most:=rfl;have hx:=(fG s.rest).1;have wQ:(b8 s.rest).2.2≠0->(b8 s.rest).2.1=0:=λh=>(BJ h).2;rw[(Cs.Li h0).1,(Cs.Li h0).2]at G8;rw[(Cs.ER h0 most).1,(Cs.ER h0 most).2,e];clear e;generalize (b8 s.rest).1=x at*;generalize (b8 s.rest).2.1=k at*;generalize (b8 s.rest).2.2=er at*;refine ba func97 35 [0,1] 17 ?_;refine ai rfl (G8) (ag 13 (λgH=>?_) λgH=>?_)
  ·refine cY ?_;have hk:=wQ gH;subst hk;rw[aec gH];exact⟨rfl,rfl⟩
  ·refine bf 5 8 25 [0,5,6] (most<0\/most<(x:Int)) ?_ ?_
   ·refine bk 3 (λkp=>?_) (λkp=>?_)
    ·exact ax 8 (k:=Vl)
    ·exact ax 4 (k:=Vl)
   ·refine ag 2 (λqn=>?_) λqn=>?_
    ·refine bK 25 ?_;rw[aed gH qn];exact⟨rfl,rfl⟩
    ·refine fF ?_;have he:er=0:=gE.1 gH;subst he;rw[aee gH qn];exact⟨rfl,rfl⟩
 ·rw[(Cs.bad h0).1,(Cs.bad h0).2.1]at G8;rw[((Cs.bad h0).2.2 most).1,((Cs.bad h0).2.2 most).2.1];refine ba func97 35 [0,1] 17 ?_;refine ai rfl (G8) (ag 13 (λgH=>?_) λgH=>?_)
  ·exact cm 8
  ·exfalso;exact gH h0
theorem FF(ho:cw s)(hb:aJ B w0 F 1 (.slice A (E s.b) c) (E s.b) (bv s.b)){m:Int}(zZ:-9223372036854775808<=m)(oh:m<=9223372036854775807):
  bg B w0 98 [bq g,ah m] (Rv g A c s::F) (λr L=>∃A' c',r= .slice A' (E (s.take m)) c'/\L=Rv g A c (s.bR m):: .own 5 1 A' (E (s.take m)) c' (bv (s.take m))::F):=by
 refine dQ.yk (L:=Rv g A c s::F) (aJ.cons hb) λhc _=>?_;have hlen:=ho.len;have rr:=ho.at_;have KL:=ho.rest.1;have el:(s.left:Int)=(E s.b:Int)-s.at_:=by unfold Cs.left;omega
 refine fw func98 50 [0,1] ?_;refine ag 15 (λig=>?_) λig=>?_
 ·refine dg ?_;refine aH 5 1 none (ak (L':=Rv g A c s:: .own 5 1 none 0 0 []::F) (.swap (.refl _)) (aX ?_));rw[((Cs.bad ig).2.2 m).2.2.2.2.1,((Cs.bad ig).2.2 m).2.2.2.2.2];exact⟨none,0,rfl,rfl⟩
 ·refine ag 9 (λjZ=>?_) λjZ=>?_
  ·refine bK 15 ?_;have h0:s.e=0:=by omega
   have e1:fC s.rest m=13:=av jZ;have e2:jV s.rest m=[]:=by simp[jV,e1]
   have e3:lP s.rest m=0:=by simp[lP,e1]
   refine aH 5 1 none (ak (L':=Rv g A c ⟨s.b,s.at_+0,13⟩:: .own 5 1 none 0 0 []::F) (.swap (.refl _)) (aX ?_));rw[(Cs.take_mk h0 m).1,(Cs.take_mk h0 m).2,e1,e2,e3];exact⟨none,0,rfl,rfl⟩
  ·obtain⟨q,rfl⟩:=gl (show 0<=m by omega);refine dg ?_;refine ai rfl (ajR ho) (ag 3 (λqM=>?_) λqM=>?_)
   ·refine aD 6 [] 8 ?_;have h0:s.e=0:=by omega
    have e1:fC s.rest q=1:=by unfold fC;rw[aB jZ,av aa]
    have e2:jV s.rest q=[]:=by simp[jV,e1]
    have e3:lP s.rest q=0:=by simp[lP,e1]
    refine aH 5 1 none (ak (L':=Rv g A c ⟨s.b,s.at_+0,1⟩:: .own 5 1 none 0 0 []::F) (.swap (.refl _)) (aX ?_));rw[(Cs.take_mk h0 q).1,(Cs.take_mk h0 q).2,e1,e2,e3];exact⟨none,0,rfl,rfl⟩
   ·have hbt:=(hb.h_ (k:=s.at_+q) aa).cut (k:=s.at_) aa;have ebt:((bv s.b).take ((s.at_+q)*1)).drop (s.at_*1)=bv (s.rest.take q):=by rw[cH,cH,jK,jJ,Hk,uJ];rfl
    rw[ebt]at hbt;refine cN 3 (Rv g A c s::F) ?_;refine aF 1 14 ?_;refine aS 15 rfl (fR (i:=s.at_) (j:=s.at_+q) (size:=1) underlying27 ae rfl rfl rfl rfl rfl aa aa) (aC 0 (cF rfl (fA bP) λX8=>aC 16 (fh rfl (bB bP rfl aU rfl aA bY aa aa) λMG RR=>?_)));refine dI 17 ?_;refine di [0,1,5] ?_;refine bK 22 ?_;have h0:s.e=0:=by omega
    have e1:fC s.rest q=0:=by unfold fC;rw[aB jZ,aB aa]
    have e2:jV s.rest q=s.rest.take q:=by simp[jV,e1]
    have e3:lP s.rest q=q:=by simp[lP,e1]
    have e4:E (s.rest.take q)=q:=by rw[fZ];omega
    refine ak (L':=Rv g A c ⟨s.b,s.at_+q,0⟩:: .own 5 1 MG (E (s.rest.take q)) RR (bv (s.rest.take q))::F) (by rw[h0,e4];exact .swap (.cons (au aa ao (.refl _)))) (aX ?_);rw[(Cs.take_mk h0 q).1,(Cs.take_mk h0 q).2,e1,e2,e3];exact⟨MG,RR,by rw[e4];simp,rfl⟩
theorem afc(ho:cw s)(hb:aJ B w0 F 1 (.slice A (E s.b) c) (E s.b) (bv s.b)):
  bg B w0 95 [bq g] (Rv g A c s::F) (λr L=>r= .int .u8 (s.byte.toNat:Int)/\L=Rv g A c s.eV::F):=by
 have h1:=JK s;have eb:s.byte=((s.take 1).head?).getD 0:=rfl;have eb':s.eV=s.bR 1:=rfl;rw[eb,eb'];refine ba func95 12 [0] 8 ?_;refine ay rfl (FF ho hb (m:=1) aa aa) λA5 c5=>ag 11 (λh8=>?_) λh8=>?_
 ·refine dg ?_;refine ak (L':=Rv g A c (s.bR 1)::F) (.cons (.skip (.refl _))) (aX ?_);have e0:s.take 1=[]:=mg aa;exact⟨by rw[e0];rfl,rfl⟩
 ·refine dx ?_;refine ab (az (i:=0) (size:=1) underlying27 ae rfl rfl rfl aa aA) rfl (dx ?_);refine ak (L':=Rv g A c (s.bR 1)::F) (.cons (.skip (.refl _))) (aX ?_);exact⟨by simp[List.getD,List.head?_eq_getElem?],rfl⟩
theorem ajK(hb:gw B w0 F A c l)(hl:E l<=1099511627776):
  bg B w0 94 [.slice A (E l) c] F (λr L=>∃g A' c',r=bq g/\L=Rv g A' c' ⟨l,0,0⟩:: .own 5 1 A' (E l) c' (bv l)::F):=by
 refine ba func94 8 [0] 7 ?_;refine cv (fA bP) λA3=>aX ?_;refine dB (bB bP rfl aU rfl aA bY aa aa) λA5 c5=>?_;refine ab (bw [(0,_)] [.slice none 0 0,ah 0,ah 0] [0] [_,_,_] rfl rfl ae) rfl (fM λg7=>?_);refine fb ?_;refine ak (L':=Rv g7 A5 c5 ⟨l,0,0⟩:: .own 5 1 A5 (E l) c5 (bv l)::F) ?_ ?_
 ·rw[mH,mh];exact .refl _
 exact nI 1
end Go.Proofs.YtaodmbolhoafcaaGreatDoor

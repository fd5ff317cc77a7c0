/-
  Texts of one proof, joined: part 12. No condition.
-/
import Derived.Test.YtaodmbolhoafcaaGreatDoorZp11
import Derived.Lib.AppendZeros
open List renaming length→E
open Go.RowKit Go.Proofs.Tryz
namespace Go.Proofs.YtaodmbolhoafcaaGreatDoor
set_option linter.unusedVariables false
set_option linter.unusedSimpArgs false
set_option maxRecDepth 20000
variable{B:Nat}{w0:World}{F L0:aR}{A A1 A2 Ao:bk}{n c c1 c2 co g gc:Nat}{X:cZ}{bt:TypeId}{v0 v1 v2 v3 v4 v5 v6 v7 v8 v9:Value}{f:Ch->aR}{r k m N:Nat}{cs:cZ}{o:Nat}{A3 A4 A5 A6 Af:bk}{c3 c4 c5 c6 cf:Nat}{va:Value}
section
structure D0(B:Nat)(w0:World)(L:aR)(g:Nat)(x:iF):Prop where
 bo:∃(A1:bk) (c1:Nat) (A2:bk) (c2:Nat) (A3:bk) (c3:Nat) (A4:bk) (c4:Nat) (A5:bk) (c5:Nat) (A6:bk) (c6:Nat) (LL:List sA) (Af:bk) (cf:Nat) (FB:List lu) (va:Value),
  Bo g (.slice A1 (E x.ns) c1) (.slice A2 (E x.ss) c2) (ah x.c) (ah x.i) (.slice A3 (E x.times) c3) (.slice A4 (E x.levels) c4) (.slice A5 (E x.T) c5) (.slice A6 (E LL) c6) (.slice Af (E FB) cf) va∈L∧
  aM B w0 L 1 (.slice A1 (E x.ns) c1) (E x.ns) (bD x.ns)∧aM B w0 L 1 (.slice A3 (E x.times) c3) (E x.times) (qF x.times)∧aM B w0 L 1 (.slice A4 (E x.levels) c4) (E x.levels) (bv x.levels)∧
  aM B w0 L 1 (.slice A5 (E x.T) c5) (E x.T) (strs x.T)∧aM B w0 L 1 (.slice A6 (E LL) c6) (E LL) (LL.map kl)∧(∀e∈LL,aM B w0 L 1 (kl e) (E e.2.2) (bD e.2.2))∧LL.map (·.2.2)=x.I∧
  aM B w0 L 1 (.slice Af (E FB) cf) (E FB) (FB.map dy)∧(∀e∈FB,aM B w0 L 1 (dy e) (E e.2.2) (bv e.2.2))∧FB.map (·.2.2)=x.bH
theorem D0.mono{x:iF}{L M:aR}(h:D0 B w0 L g x)(hs:L.Sublist M):D0 B w0 M g x:=by
 obtain⟨A1,c1,A2,c2,A3,c3,A4,c4,A5,c5,A6,c6,LL,Af,cf,FB,va,h1,h2,h3,h4,h5,h6,h7,h8,h9,jU,pg⟩:=h;exact⟨A1,c1,A2,c2,A3,c3,A4,c4,A5,c5,A6,c6,LL,Af,cf,FB,va,hs.subset h1,h2.mono hs,h3.mono hs,h4.mono hs,h5.mono hs,h6.mono hs,λe he=>(h7 e he).mono hs,h8,h9.mono hs,λe he=>(jU e he).mono hs,pg⟩
theorem Of{m:Nat}:∀(f:Nat) (s:Cs) (ns ss:bf),E ns=E ss->E (tR m f s ns ss).1=E (tR m f s ns ss).2.1∧E (tR m f s ns ss).1<=E ns+f
 |0,s,ns,ss,h=>by rw[tR];exact⟨h,ak⟩
 |f+1,s,ns,ss,h=>by
  rw[tR];split
  ·exact⟨h,dh⟩
  ·have:=Of (m:=m) f ((s.bZ m).bZ 8388608) (ns++[s.int m]) (ss++[(s.bZ m).int 8388608]) IN;rw[aX,qM]at this;exact⟨this.1,by have:=this.2;omega⟩
theorem K9(d:al):E (fq d).1=E (fq d).2.1∧E (fq d).1<=20000:=by
 have hR:=EK d;have hB:((MZ d:Nat):Int)<=Dv d:=Cs.gI _ aa aa;have:=Of (m:=Dv d) (MZ d) (dr2 d) [] [] rfl;unfold fq;exact⟨this.1,by have:=this.2;simp only[sY]at this;omega⟩
theorem EJ{d:al}{room:Nat}(h:HW d room=0):(fq d).1.sum=Dv d∧(fq d).2.1.sum+Du d+drI d=room∧0∉(fq d).1:=by
 unfold HW at h;split at h
 ·rename_i h1;exact absurd h h1
 ·split at h
  ·cases h
  ·rename_i h2;exact⟨bA λk=>h2 (.inr (.inl k)),bA λk=>h2 (.inr (.inr k)),λk=>h2 (.inl k)⟩
theorem N3(HT:bM B w0){ch:al}{k n:Nat}(hn:n=E ch)(hb:aM B w0 F 1 (.slice A n c) n (bv ch))(hl:E ch<=1000000000)(hk:k<=1000000000)(h:yE k ch≠0):
  aZ B w0 181 [.pointer (some ⟨g,4,none⟩),ah k,.slice A n c] (Bo g v0 v1 v2 v3 v4 v5 v6 v7 v8 v9::F) (λr L=>r=ah (yE k ch)∧L=Bo g v0 v1 v2 v3 v4 v5 v6 v7 v8 v9::F):=by
 subst hn;exact(I3 HT hb hl hk).mono λr L h'=>⟨h'.1,h'.2.elim (λq=>q.2) λq=>absurd q.1 h⟩
theorem Sx(HT:bM B w0){ch:al}{k n:Nat}(hn:n=E ch)(hb:aM B w0 F 1 (.slice A n c) n (bv ch))(hl:E ch<=1000000000)(hk:k<=1000000000)(h:yE k ch=0):
  aZ B w0 181 [.pointer (some ⟨g,4,none⟩),ah k,.slice A n c] (Bo g v0 v1 v2 v3 v4 v5 v6 v7 v8 v9::F) (λr L=>r=ah 0∧∃(A1:bk) (c1:Nat) (A2:bk) (c2:Nat),L=Bo g v0 v1 v2 v3 (.slice A1 (E (oM k (aH ch).1).1) c1) (.slice A2 (E (oM k (aH ch).1).2.1) c2) v6 v7 v8 v9:: .own 60 1 A1 (E (oM k (aH ch).1).1) c1 (qF (oM k (aH ch).1).1):: .own 5 1 A2 (E (oM k (aH ch).1).2.1) c2 (bv (oM k (aH ch).1).2.1)::F):=by
 subst hn;exact(I3 HT hb hl hk).mono λr L h'=>⟨by rw[h'.1,h],h'.2.elim (λq=>absurd h q.1) λq=>q.2⟩
section
variable{o:aN}{b:al}
theorem KI(h:ct 2 (o2 o)≠0):eG o b=(.nil,ct 2 (o2 o)):=by unfold eG;rw[ao h]
theorem KJ(h:¬ct 2 (o2 o)≠0)(h2:(gh b).2.2≠0):eG o b=(.nil,(gh b).2.2):=by unfold eG;rw[aw h,ao h2]
theorem KK(h:¬ct 2 (o2 o)≠0)(h2:¬(gh b).2.2≠0)(h3:HW (d_ b) (E (q_ b))≠0):eG o b=(.nil,HW (d_ b) (E (q_ b))):=by unfold eG;rw[aw h,aw h2,ao h3]
theorem KL(h:¬ct 2 (o2 o)≠0)(h2:¬(gh b).2.2≠0)(h3:¬HW (d_ b) (E (q_ b))≠0)(h4:yE (fq (d_ b)).1.sum (xk b)≠0):eG o b=(.nil,yE (fq (d_ b)).1.sum (xk b)):=by unfold eG;rw[aw h,aw h2,aw h3,ao h4]
theorem V5(h:¬ct 2 (o2 o)≠0)(h2:¬(gh b).2.2≠0)(h3:¬HW (d_ b) (E (q_ b))≠0)(h4:¬yE (fq (d_ b)).1.sum (xk b)≠0)(h5:(aH (wz b)).2≠0):eG o b=(.nil,(aH (wz b)).2):=by unfold eG;rw[aw h,aw h2,aw h3,aw h4,ao h5]
theorem V6(h:¬ct 2 (o2 o)≠0)(h2:¬(gh b).2.2≠0)(h3:¬HW (d_ b) (E (q_ b))≠0)(h4:¬yE (fq (d_ b)).1.sum (xk b)≠0)(h5:¬(aH (wz b)).2≠0)(h6:(eW o.2.2.1 ((fq (d_ b)).1.sum:Nat) (aH (wz b)).1).2.2≠0):eG o b=(.nil,(eW o.2.2.1 ((fq (d_ b)).1.sum:Nat) (aH (wz b)).1).2.2):=by unfold eG;rw[aw h,aw h2,aw h3,aw h4,aw h5,ao h6]
def anp(o:aN)(b:al):iF:=⟨(fq (d_ b)).1,(fq (d_ b)).2.1,Du (d_ b),drI (d_ b),(oM ((fq (d_ b)).1.sum:Nat) (aH (xk b)).1).1,(oM ((fq (d_ b)).1.sum:Nat) (aH (xk b)).1).2.1,
 (eW o.2.2.1 ((fq (d_ b)).1.sum:Nat) (aH (wz b)).1).1,(eW o.2.2.1 ((fq (d_ b)).1.sum:Nat) (aH (wz b)).1).2.1,sm (fq (d_ b)).2.1 (q_ b)⟩
theorem V7(h:¬ct 2 (o2 o)≠0)(h2:¬(gh b).2.2≠0)(h3:¬HW (d_ b) (E (q_ b))≠0)(h4:¬yE (fq (d_ b)).1.sum (xk b)≠0)(h5:¬(aH (wz b)).2≠0)(h6:¬(eW o.2.2.1 ((fq (d_ b)).1.sum:Nat) (aH (wz b)).1).2.2≠0):eG o b=(anp o b,0):=by unfold eG;rw[aw h,aw h2,aw h3,aw h4,aw h5,aw h6];rfl
end
def YY(e:Int)(F:aR)(r:Value)(L:aR):Prop:=r= .tuple #[.pointer none,ah e]∧L=F
def aqa(x:iF)(B:Nat)(w0:World)(F:aR)(r:Value)(L:aR):Prop:=∃g N,r= .tuple #[br g,ah 0]∧L=N++F∧D0 B w0 N g x
theorem aiz{o:aN}{b:al}(h:ct 2 (o2 o)≠0):aZ B w0 111 [.agg (aN.cells o).toArray,.slice A (E b) c] F (YY (eG o b).2 F):=by
 rw[KI h];obtain⟨bl,pl,bu,da,pa,ch⟩:=o;refine b_ func111 90 rfl rfl rfl [(0,.agg #[ah bl,.bool pl,ah bu,ah da,ah pa,ah ch]),(1,.slice A (E b) c)] ⟨⟨rfl,rfl⟩,⟨rfl,rfl⟩,trivial⟩ ?_;refine bc ?_;refine bg λg2=>?_;refine bK ?_;refine ai rfl (nV (bl,pl,bu,da,pa,ch)) (bO ?_);refine aj (λiC=>?_) λiC=>?_
 ·refine bO ?_;refine aq (.skip (.refl _)) (aF ?_);exact⟨rfl,rfl⟩
 ·exfalso;exact iC h
theorem aiA(HT:bM B w0){o:aN}{b:al}(hb:fo B w0 F A c b)(di:E b<=1000000)(h:¬ct 2 (o2 o)≠0)(h2:(gh b).2.2≠0):aZ B w0 111 [.agg (aN.cells o).toArray,.slice A (E b) c] F (YY (eG o b).2 F):=by
 rw[KJ h h2];obtain⟨bl,pl,bu,da,pa,ch⟩:=o;refine b_ func111 90 rfl rfl rfl [(0,.agg #[ah bl,.bool pl,ah bu,ah da,ah pa,ah ch]),(1,.slice A (E b) c)] ⟨⟨rfl,rfl⟩,⟨rfl,rfl⟩,trivial⟩ ?_;refine bc ?_;refine bg λg2=>?_;refine bK ?_;refine ai rfl (nV (bl,pl,bu,da,pa,ch)) (bO ?_);refine aj (λiC=>?_) λiC=>?_
 ·exfalso;exact h iC
 ·refine bF ?_;refine be Wl rfl (Ll HT hb.cons aa) rfl ?_;rintro _ _ ⟨Ar,cr,Ad,cd,Y,rfl,cO,Tv,hbR,hbD⟩;obtain rfl:=cO.symm;refine jG ?_;refine aj (λkG=>?_) λkG=>?_
  ·refine bF ?_;refine ve [4,5] ?_;refine bE ?_;refine aq ((dB _ _).trans (.skip (.refl _))) (aF ?_);exact⟨rfl,rfl⟩
  ·exfalso;exact kG h2
theorem vM(b:al):E (gh b).1<=E b∧E (gh b).2.1<=E b:=by
 unfold gh;split
 ·exact⟨ak,ak⟩
 ·split
  ·exact⟨ak,ak⟩
  ·refine⟨by simp only[eY];omega,?_⟩;have:=pR ((b.take (E b-4)).drop (E b-4-ftK b));rw[iG,eY]at this;unfold ftD;simp only;omega
theorem aiB(HT:bM B w0){o:aN}{b:al}(hb:fo B w0 F A c b)(di:E b<=1000000)(h:¬ct 2 (o2 o)≠0)(h2:¬(gh b).2.2≠0)(h3:HW (d_ b) (E (q_ b))≠0):aZ B w0 111 [.agg (aN.cells o).toArray,.slice A (E b) c] F (YY (eG o b).2 F):=by
 rw[KK h h2 h3];obtain⟨bl,pl,bu,da,pa,ch⟩:=o;refine b_ func111 90 rfl rfl rfl [(0,.agg #[ah bl,.bool pl,ah bu,ah da,ah pa,ah ch]),(1,.slice A (E b) c)] ⟨⟨rfl,rfl⟩,⟨rfl,rfl⟩,trivial⟩ ?_;refine bc ?_;refine bg λg2=>?_;refine bK ?_;refine ai rfl (nV (bl,pl,bu,da,pa,ch)) (bO ?_);refine aj (λiC=>?_) λiC=>?_
 ·exfalso;exact h iC
 ·refine bF ?_;refine be Wl rfl (Ll HT hb.cons aa) rfl ?_;rintro _ _ ⟨Ar,cr,Ad,cd,Y,rfl,cO,Tv,hbR,hbD⟩;obtain rfl:=cO.symm;refine jG ?_;refine aj (λkG=>?_) λkG=>?_
  ·exfalso;exact h2 kG
  ·have Ia:=oV Y [.bG g2 23 [ah bl,.bool pl,ah bu,ah da,ah pa,ah ch]] F;refine gx Ia ?_;have xu:=hbR.perm Ia;have wB:=hbD.perm Ia;have Ic:Wk (Y++F) F:=dB Y F;obtain⟨K,hK⟩:=cK (Y++F);simp only[Py]at xu wB⊢;rw[<-hK]at xu wB Ic⊢;have eR:(gh b).1=q_ b:=rfl;have eD:(gh b).2.1=d_ b:=rfl;have hlr:=vM b;rw[eR,eD]at hlr;rw[eR]at xu Tv⊢;rw[eD]at wB⊢;refine b7 ?_;refine ab (cJ [.slice none 0 0,.slice none 0 0,ah 0,ah 0,.slice none 0 0,.slice none 0 0,.slice none 0 0,.slice none 0 0,.slice none 0 0,.slice none 0 0] ag) rfl (bg λg30=>?_);refine aF ?_;refine ve [2,7,8,10] ?_;refine bz ?_;refine be ade rfl (AX (d:=d_ b) (room:=E (q_ b)) wB aa aa) rfl ?_;rintro _ _ ⟨rfl,A1,c1,A2,c2,cO⟩;obtain rfl:=cO.symm;refine bO ?_;refine aj (λW4=>?_) λW4=>?_
   ·refine bO ?_;refine aq (.s3 (.skip Ic)) (aF ?_);exact⟨rfl,rfl⟩
   ·exfalso;exact W4 h3
theorem aiC(HT:bM B w0){o:aN}{b:al}(hb:fo B w0 F A c b)(di:E b<=1000000)(h:¬ct 2 (o2 o)≠0)(h2:¬(gh b).2.2≠0)(h3:¬HW (d_ b) (E (q_ b))≠0)(h4:yE (fq (d_ b)).1.sum (xk b)≠0):aZ B w0 111 [.agg (aN.cells o).toArray,.slice A (E b) c] F (YY (eG o b).2 F):=by
 rw[KL h h2 h3 h4];obtain⟨bl,pl,bu,da,pa,ch⟩:=o;refine b_ func111 90 rfl rfl rfl [(0,.agg #[ah bl,.bool pl,ah bu,ah da,ah pa,ah ch]),(1,.slice A (E b) c)] ⟨⟨rfl,rfl⟩,⟨rfl,rfl⟩,trivial⟩ ?_;refine bc ?_;refine bg λg2=>?_;refine bK ?_;refine ai rfl (nV (bl,pl,bu,da,pa,ch)) (bO ?_);refine aj (λiC=>?_) λiC=>?_
 ·exfalso;exact h iC
 ·refine bF ?_;refine be Wl rfl (Ll HT hb.cons aa) rfl ?_;rintro _ _ ⟨Ar,cr,Ad,cd,Y,rfl,cO,Tv,hbR,hbD⟩;obtain rfl:=cO.symm;refine jG ?_;refine aj (λkG=>?_) λkG=>?_
  ·exfalso;exact h2 kG
  ·have Ia:=oV Y [.bG g2 23 [ah bl,.bool pl,ah bu,ah da,ah pa,ah ch]] F;refine gx Ia ?_;have xu:=hbR.perm Ia;have wB:=hbD.perm Ia;have Ic:Wk (Y++F) F:=dB Y F;obtain⟨K,hK⟩:=cK (Y++F);simp only[Py]at xu wB⊢;rw[<-hK]at xu wB Ic⊢;have eR:(gh b).1=q_ b:=rfl;have eD:(gh b).2.1=d_ b:=rfl;have hlr:=vM b;rw[eR,eD]at hlr;rw[eR]at xu Tv⊢;rw[eD]at wB⊢;refine b7 ?_;refine ab (cJ [.slice none 0 0,.slice none 0 0,ah 0,ah 0,.slice none 0 0,.slice none 0 0,.slice none 0 0,.slice none 0 0,.slice none 0 0,.slice none 0 0] ag) rfl (bg λg30=>?_);refine aF ?_;refine ve [2,7,8,10] ?_;refine bz ?_;refine be ade rfl (AX (d:=d_ b) (room:=E (q_ b)) wB aa aa) rfl ?_;rintro _ _ ⟨rfl,A1,c1,A2,c2,cO⟩;obtain rfl:=cO.symm;refine bO ?_;refine aj (λW4=>?_) λW4=>?_
   ·exfalso;exact h3 W4
   ·have hz:=EJ (bA h3);have hdl:=K9 (d_ b);have Z9:=EK (d_ b);have aej:aM B w0 (.own 3 1 A1 (E (fq (d_ b)).1) c1 (bD (fq (d_ b)).1):: .own 3 1 A2 (E (fq (d_ b)).2.1) c2 (bD (fq (d_ b)).2.1):: .bG g2 23 [ah bl,.bool pl,ah bu,ah da,ah pa,ah ch]::K) 1 (.slice Ar (E (q_ b)) cr) (E (q_ b)) (bv (q_ b)):=xu.cons.cons;refine bB ?_;refine be alW rfl (NM (ss:=(fq (d_ b)).2.1) (cc:=Du (d_ b)) (r:=q_ b) aej Tv (aM.own (.tail _ (.head _))) aa aa aa) rfl ?_;rintro _ _ ⟨Af,cf,Ac,cc1,Ai,ci1,FB,rfl,cO,tG,hbC,hbI⟩;obtain rfl:=cO.symm;refine bF ?_;refine ve [2,10,12,13] ?_;refine bc ?_;have aeJ:=oV (FB.map fE) [.own 3 1 A1 (E (fq (d_ b)).1) c1 (bD (fq (d_ b)).1),.own 3 1 A2 (E (fq (d_ b)).2.1) c2 (bD (fq (d_ b)).2.1),.bG g2 23 [ah bl,.bool pl,ah bu,ah da,ah pa,ah ch]] K;refine gx ((aeJ.cons _).cons _) ?_;obtain⟨K2,S8⟩:=cK (FB.map fE++K);have aeS:Wk K2 F:=by rw[S8];exact(dB _ _).trans Ic
    have Tw:(.own 3 1 A1 (E (fq (d_ b)).1) c1 (bD (fq (d_ b)).1):: .own 3 1 A2 (E (fq (d_ b)).2.1) c2 (bD (fq (d_ b)).2.1):: .bG g2 23 [ah bl,.bool pl,ah bu,ah da,ah pa,ah ch]::K).Sublist (.own 3 1 A1 (E (fq (d_ b)).1) c1 (bD (fq (d_ b)).1):: .own 3 1 A2 (E (fq (d_ b)).2.1) c2 (bD (fq (d_ b)).2.1):: .bG g2 23 [ah bl,.bool pl,ah bu,ah da,ah pa,ah ch]::K2):=by rw[S8];exact((gL _ _).cons_cons _ |>.cons_cons _).cons_cons _
    have S_:=hbC.mono Tw;have Ta:=hbI.mono Tw;have an0:∀e∈FB,aM B w0 K2 1 (dy e) (E e.2.2) (bv e.2.2):=λe he=>by rw[S8];exact aM.own (kI _ (jy (f:=fE) he))
    clear hbC hbI Tw aeJ aej xu wB;simp only[mX,mW];rw[<-S8];have eC:((q_ b).drop (fq (d_ b)).2.1.sum).take (Du (d_ b))=xk b:=rfl;have eI:((q_ b).drop (fq (d_ b)).2.1.sum).drop (Du (d_ b))=wz b:=rfl;rw[eC]at S_;rw[eI]at Ta;have lC:Du (d_ b)=E (xk b):=by rw[<-eC,eY,iG];omega
    have lI:E (q_ b)-(fq (d_ b)).2.1.sum-Du (d_ b)=E (wz b):=by rw[<-eI,iG,iG]
    rw[lI]at Ta⊢;obtain⟨fl,lg⟩:=cK (E (fq (d_ b)).2.1);rw[<-lg]at S_ Ta⊢;refine bI ?_;refine cC (ft UJ rfl rfl rfl rfl rfl aa aa aa) λA53=>bI ?_;refine cE K2 ?_;refine ae 0 ?_;refine ae 1 ?_;refine ae 2 ?_;refine ae 3 ?_;refine ae 5 ?_;refine aA 4 (js rfl rfl ((KG (ns:=(fq (d_ b)).1) aB aa aa).jD ((mC (fV (.refl _))))) ?_);refine aA 6 (js rfl rfl (.perm (N3 HT (ch:=xk b) lC S_.cons.cons (by rw[<-lC];omega) aa h4) ((mC (fV (.refl _))))) (ae 7 ?_));refine cP [2,10,13,14] ?_;refine bI ?_;refine aj (λh64=>?_) λh64=>?_
    ·refine bO ?_;refine aq (.s5 (.skip aeS)) (aF ?_);exact⟨rfl,rfl⟩
    ·exfalso;exact h64 h4
theorem XU{size bound:Int}{x:Ch}{b:al}(hb:aM B w0 (x::F) 1 (.slice A (E b) c) (E b) (bv b))(di:E b<=1000000):
  aZ B w0 183 [ah size,ah bound,.slice A (E b) c] (x::F) (λr L=>∃(A1:bk) (c1:Nat) (A2:bk) (c2:Nat) (LL:List sA),r= .tuple #[Hy A1 (E (eW size bound b).1) c1 A2 (E LL) c2,ah (eW size bound b).2.2]∧LL.map (·.2.2)=(eW size bound b).2.1∧
   L=x:: .own 9 1 A1 (E (eW size bound b).1) c1 (strs (eW size bound b).1):: .own 53 1 A2 (E LL) c2 (LL.map kl)::(LL.map kj++F)):=
 (akz hb di).MB λv M ⟨A1,c1,A2,c2,LL,h1,h2,h3⟩=>by
  subst h3;refine⟨_,.dK ?_,A1,c1,A2,c2,LL,h1,h2,rfl⟩;exact oV (_::_::LL.map kj) [x] F
def ap'(R:iF×Int)(B:Nat)(w0:World)(F:aR)(r:Value)(L:aR):Prop:=(R.2≠0∧YY R.2 F r L)∨(R.2=0∧aqa R.1 B w0 F r L)
theorem Nj{h a b x1 t l x2 f s1 s2 x3:Ch}{R P Y F:aR}:h::a::b::(R++(x1::t::l::x2::f::s1::s2::x3::(P++(Y++F))))=(h::a::b::(R++(x1::t::l::x2::f::s1::s2::x3::(P++Y))))++F:=by
 simp only[mX,bX]
theorem NI{o:aN}{b:al}{fl c1 c2 c3 c4 c5 c6 cf:Nat}{A1 A2 A3 A4 A5 A6 Af:bk}{LL:List sA}{FB:List lu}{va:Value}{K2:aR}{x1 x2 x3:Ch}(lg:fl=E (fq (d_ b)).2.1)(tG:FB.map (·.2.2)=sm (fq (d_ b)).2.1 (q_ b))(cO:LL.map (·.2.2)=(eW o.2.2.1 ((fq (d_ b)).1.sum:Nat) (aH (wz b)).1).2.1)(an0:∀e∈FB,aM B w0 K2 1 (dy e) (E e.2.2) (bv e.2.2)):
  D0 B w0 (Bo g (.slice A1 (E (fq (d_ b)).1) c1) (.slice A2 fl c2) (ah (Du (d_ b))) (ah (drI (d_ b))) (.slice A3 (E (oM ((fq (d_ b)).1.sum:Nat) (aH (xk b)).1).1) c3) (.slice A4 (E (oM ((fq (d_ b)).1.sum:Nat) (aH (xk b)).1).2.1) c4) (.slice A5 (E (eW o.2.2.1 ((fq (d_ b)).1.sum:Nat) (aH (wz b)).1).1) c5) (.slice A6 (E LL) c6) (.slice Af fl cf) va::
   .own 9 1 A5 (E (eW o.2.2.1 ((fq (d_ b)).1.sum:Nat) (aH (wz b)).1).1) c5 (strs (eW o.2.2.1 ((fq (d_ b)).1.sum:Nat) (aH (wz b)).1).1):: .own 53 1 A6 (E LL) c6 (LL.map kl)::
   (LL.map kj++(x1:: .own 60 1 A3 (E (oM ((fq (d_ b)).1.sum:Nat) (aH (xk b)).1).1) c3 (qF (oM ((fq (d_ b)).1.sum:Nat) (aH (xk b)).1).1):: .own 5 1 A4 (E (oM ((fq (d_ b)).1.sum:Nat) (aH (xk b)).1).2.1) c4 (bv (oM ((fq (d_ b)).1.sum:Nat) (aH (xk b)).1).2.1)::x2:: .own 27 1 Af fl cf (FB.map dy):: .own 3 1 A1 (E (fq (d_ b)).1) c1 (bD (fq (d_ b)).1):: .own 3 1 A2 fl c2 (bD (fq (d_ b)).2.1)::x3::K2))) g (anp o b):=by
 have hfb:E FB=fl:=by have:=dQ List.length tG;rw[dX,vu]at this;omega
 subst hfb;refine⟨A1,c1,A2,c2,A3,c3,A4,c4,A5,c5,A6,c6,LL,Af,cf,FB,va,?_,?_,?_,?_,?_,?_,?_,cO,?_,?_,tG⟩
 ·show Bo g (.slice A1 (E (fq (d_ b)).1) c1) (.slice A2 (E (fq (d_ b)).2.1) c2) _ _ _ _ _ _ _ _∈_;rw[<-lg];exact .head _
 ·exact aM.own (.tail _ (.tail _ (.tail _ (om _ (.tail _ (.tail _ (.tail _ (.tail _ (.tail _ (.head _))))))))))
 ·exact aM.own (.tail _ (.tail _ (.tail _ (om _ (.tail _ (.head _))))))
 ·exact aM.own (.tail _ (.tail _ (.tail _ (om _ (.tail _ (.tail _ (.head _)))))))
 ·exact aM.own (.tail _ (.head _))
 ·exact aM.own (.tail _ (.tail _ (.head _)))
 ·exact λe he=>aM.own (.tail _ (.tail _ (.tail _ (kI _ (jy (f:=kj) he)))))
 ·exact aM.own (.tail _ (.tail _ (.tail _ (om _ (.tail _ (.tail _ (.tail _ (.tail _ (.head _)))))))))
 ·exact λe he=>(an0 e he).mono (by
   refine .cons _ (.cons _ (.cons _ (.trans ?_ (gL _ _))));exact .cons _ (.cons _ (.cons _ (.cons _ (.cons _ (.cons _ (.cons _ (.cons _ (.refl _)))))))))
set_option maxHeartbeats 2000000 in
theorem aiD(HT:bM B w0){o:aN}{b:al}(hb:fo B w0 F A c b)(di:E b<=1000000)(h:¬ct 2 (o2 o)≠0)(h2:¬(gh b).2.2≠0)(h3:¬HW (d_ b) (E (q_ b))≠0)(h4:¬yE (fq (d_ b)).1.sum (xk b)≠0):aZ B w0 111 [.agg (aN.cells o).toArray,.slice A (E b) c] F (ap' (eG o b) B w0 F):=by
 have h5a:=V5 h h2 h3 h4;have h6a:=V6 h h2 h3 h4;have h7a:=V7 h h2 h3 h4;obtain⟨bl,pl,bu,da,pa,ch⟩:=o;refine b_ func111 90 rfl rfl rfl [(0,.agg #[ah bl,.bool pl,ah bu,ah da,ah pa,ah ch]),(1,.slice A (E b) c)] ⟨⟨rfl,rfl⟩,⟨rfl,rfl⟩,trivial⟩ ?_;refine bc ?_;refine bg λg2=>?_;refine bK ?_;refine ai rfl (nV (bl,pl,bu,da,pa,ch)) (bO ?_);refine aj (λiC=>?_) λiC=>?_
 ·exfalso;exact h iC
 ·refine bF ?_;refine be Wl rfl (Ll HT hb.cons aa) rfl ?_;rintro _ _ ⟨Ar,cr,Ad,cd,Y,rfl,cO,Tv,hbR,hbD⟩;obtain rfl:=cO.symm;refine jG ?_;refine aj (λkG=>?_) λkG=>?_
  ·exfalso;exact h2 kG
  ·have Ia:=oV Y [.bG g2 23 [ah bl,.bool pl,ah bu,ah da,ah pa,ah ch]] F;refine gx Ia ?_;have xu:=hbR.perm Ia;have wB:=hbD.perm Ia;have Ic:Wk (Y++F) F:=dB Y F;obtain⟨K,hK⟩:=cK (Y++F);simp only[Py]at xu wB⊢;rw[<-hK]at xu wB Ic⊢;have eR:(gh b).1=q_ b:=rfl;have eD:(gh b).2.1=d_ b:=rfl;have hlr:=vM b;rw[eR,eD]at hlr;rw[eR]at xu Tv⊢;rw[eD]at wB⊢;refine b7 ?_;refine ab (cJ [.slice none 0 0,.slice none 0 0,ah 0,ah 0,.slice none 0 0,.slice none 0 0,.slice none 0 0,.slice none 0 0,.slice none 0 0,.slice none 0 0] ag) rfl (bg λg30=>?_);refine aF ?_;refine ve [2,7,8,10] ?_;refine bz ?_;refine be ade rfl (AX (d:=d_ b) (room:=E (q_ b)) wB aa aa) rfl ?_;rintro _ _ ⟨rfl,A1,c1,A2,c2,cO⟩;obtain rfl:=cO.symm;refine bO ?_;refine aj (λW4=>?_) λW4=>?_
   ·exfalso;exact h3 W4
   ·have hz:=EJ (bA h3);have hdl:=K9 (d_ b);have Z9:=EK (d_ b);have aej:aM B w0 (.own 3 1 A1 (E (fq (d_ b)).1) c1 (bD (fq (d_ b)).1):: .own 3 1 A2 (E (fq (d_ b)).2.1) c2 (bD (fq (d_ b)).2.1):: .bG g2 23 [ah bl,.bool pl,ah bu,ah da,ah pa,ah ch]::K) 1 (.slice Ar (E (q_ b)) cr) (E (q_ b)) (bv (q_ b)):=xu.cons.cons;refine bB ?_;refine be alW rfl (NM (ss:=(fq (d_ b)).2.1) (cc:=Du (d_ b)) (r:=q_ b) aej Tv (aM.own (.tail _ (.head _))) aa aa aa) rfl ?_;rintro _ _ ⟨Af,cf,Ac,cc1,Ai,ci1,FB,rfl,cO,tG,hbC,hbI⟩;obtain rfl:=cO.symm;refine bF ?_;refine ve [2,10,12,13] ?_;refine bc ?_;have aeJ:=oV (FB.map fE) [.own 3 1 A1 (E (fq (d_ b)).1) c1 (bD (fq (d_ b)).1),.own 3 1 A2 (E (fq (d_ b)).2.1) c2 (bD (fq (d_ b)).2.1),.bG g2 23 [ah bl,.bool pl,ah bu,ah da,ah pa,ah ch]] K;refine gx ((aeJ.cons _).cons _) ?_;obtain⟨K2,S8⟩:=cK (FB.map fE++K);have aeS:Wk K2 F:=by rw[S8];exact(dB _ _).trans Ic
    have Tw:(.own 3 1 A1 (E (fq (d_ b)).1) c1 (bD (fq (d_ b)).1):: .own 3 1 A2 (E (fq (d_ b)).2.1) c2 (bD (fq (d_ b)).2.1):: .bG g2 23 [ah bl,.bool pl,ah bu,ah da,ah pa,ah ch]::K).Sublist (.own 3 1 A1 (E (fq (d_ b)).1) c1 (bD (fq (d_ b)).1):: .own 3 1 A2 (E (fq (d_ b)).2.1) c2 (bD (fq (d_ b)).2.1):: .bG g2 23 [ah bl,.bool pl,ah bu,ah da,ah pa,ah ch]::K2):=by rw[S8];exact((gL _ _).cons_cons _ |>.cons_cons _).cons_cons _
    have S_:=hbC.mono Tw;have Ta:=hbI.mono Tw;have an0:∀e∈FB,aM B w0 K2 1 (dy e) (E e.2.2) (bv e.2.2):=λe he=>by rw[S8];exact aM.own (kI _ (jy (f:=fE) he))
    clear hbC hbI Tw aeJ aej xu wB;simp only[mX,mW];rw[<-S8];have eC:((q_ b).drop (fq (d_ b)).2.1.sum).take (Du (d_ b))=xk b:=rfl;have eI:((q_ b).drop (fq (d_ b)).2.1.sum).drop (Du (d_ b))=wz b:=rfl;rw[eC]at S_;rw[eI]at Ta;have lC:Du (d_ b)=E (xk b):=by rw[<-eC,eY,iG];omega
    have lI:E (q_ b)-(fq (d_ b)).2.1.sum-Du (d_ b)=E (wz b):=by rw[<-eI,iG,iG]
    rw[lI]at Ta⊢;obtain⟨fl,lg⟩:=cK (E (fq (d_ b)).2.1);rw[<-lg]at S_ Ta⊢;refine bI ?_;refine cC (ft UJ rfl rfl rfl rfl rfl aa aa aa) λA53=>bI ?_;refine cE K2 ?_;refine ae 0 ?_;refine ae 1 ?_;refine ae 2 ?_;refine ae 3 ?_;refine ae 5 ?_;refine aA 4 (js rfl rfl ((KG (ns:=(fq (d_ b)).1) aB aa aa).jD ((mC (fV (.refl _))))) ?_);refine aA 6 (gN rfl .no arb rfl (.perm (Sx HT (ch:=xk b) lC S_.cons.cons (by rw[<-lC];omega) aa (bA h4)) ((mC (fV (.refl _))))) rfl (by rintro _ _ ⟨rfl,A3,c3,A4,c4,rfl⟩;exact gD) ?_);rintro _ _ ⟨rfl,A3,c3,A4,c4,cO⟩;obtain rfl:=cO.symm;refine ae 7 ?_;refine cP [2,10,13,14] ?_;refine bI ?_;refine dw λh64=>?_;refine bB ?_;refine ay rfl (xl HT (l:=wz b) aB aa) λA68 c68=>cY ?_;refine aj (λZ7=>?_) λZ7=>?_
    ·refine bO ?_;refine aq (.s8 (.skip aeS)) (aF ?_);rw[h5a Z7];exact .inl ⟨Z7,rfl,rfl⟩
    ·refine b7 ?_;refine cE (([]:aR)) ?_;refine ae 0 ?_;refine ae 1 ?_;refine ae 3 ?_;refine ae 5 ?_;refine ib 2 4 ?_ ?_
     ·refine aF ?_;refine aA 4 (js rfl rfl ((KG (ns:=(fq (d_ b)).1) aB aa aa).jD ((mC (fV (.refl _))))) ?_);refine aA 6 (gN rfl .no alX rfl (.perm (XU (b:=(aH (wz b)).1) (aM.own (.tail _ (.head _))) (by have:=pR (wz b);omega)) ((mC (fV (.refl _))))) rfl (by rintro _ _ ⟨A5,c5,A6,c6,LL,rfl,aeh,rfl⟩;exact gD) ?_);rintro _ _ ⟨A5,c5,A6,c6,LL,rfl,aeh,cO⟩;obtain rfl:=cO.symm;refine ae 7 ?_;refine ae 8 ?_;refine ae 9 ?_;refine ae 10 ?_;refine ae 11 ?_;refine aA 12 (kJ rfl .no (pW 2 ag rfl rfl Nq aW rfl ak) uw ?_);rintro _ _ rfl;refine ae 13 ?_;refine cP [9,10] ?_;refine bI ?_;refine aj (λh87=>?_) λh87=>?_
      ·refine bO ?_;refine aq (.s3 ((dB _ _).trans (.s7 (.skip aeS)))) (aF ?_);rw[h6a Z7 h87];exact .inl ⟨h87,rfl,rfl⟩
      ·refine de ?_;rw[h7a Z7 h87];have hb3:∀e∈FB,aM B w0 (FB.map fE++Y) 1 (dy e) (E e.2.2) (bv e.2.2):=λe he=>aM.own (kI _ (jy (f:=fE) he));rw[S8,hK];exact .inr ⟨rfl,g30,_,rfl,Nj,NI (o:=(bl,pl,bu,da,pa,ch)) lg tG aeh hb3⟩
     ·refine js rfl rfl ((KG (ns:=(fq (d_ b)).1) aB aa aa).jD ((mC (fV (.refl _))))) ?_;refine aA 2 (aF ?_);refine aA 6 (gN rfl .no alX rfl (.perm (XU (b:=(aH (wz b)).1) (aM.own (.tail _ (.head _))) (by have:=pR (wz b);omega)) ((mC (fV (.refl _))))) rfl (by rintro _ _ ⟨A5,c5,A6,c6,LL,rfl,aeh,rfl⟩;exact gD) ?_);rintro _ _ ⟨A5,c5,A6,c6,LL,rfl,aeh,cO⟩;obtain rfl:=cO.symm;refine ae 7 ?_;refine ae 8 ?_;refine ae 9 ?_;refine ae 10 ?_;refine ae 11 ?_;refine aA 12 (kJ rfl .no (pW 2 ag rfl rfl Nq aW rfl ak) uw ?_);rintro _ _ rfl;refine ae 13 ?_;refine cP [9,10] ?_;refine bI ?_;refine aj (λh87=>?_) λh87=>?_
      ·refine bO ?_;refine aq (.s3 ((dB _ _).trans (.s7 (.skip aeS)))) (aF ?_);rw[h6a Z7 h87];exact .inl ⟨h87,rfl,rfl⟩
      ·refine de ?_;rw[h7a Z7 h87];have hb3:∀e∈FB,aM B w0 (FB.map fE++Y) 1 (dy e) (E e.2.2) (bv e.2.2):=λe he=>aM.own (kI _ (jy (f:=fE) he));rw[S8,hK];exact .inr ⟨rfl,g30,_,rfl,Nj,NI (o:=(bl,pl,bu,da,pa,ch)) lg tG aeh hb3⟩
theorem V8(HT:bM B w0){o:aN}{b:al}(hb:fo B w0 F A c b)(di:E b<=1000000):aZ B w0 111 [.agg (aN.cells o).toArray,.slice A (E b) c] F (ap' (eG o b) B w0 F):=by
 by_cases h:ct 2 (o2 o)≠0
 ·exact(aiz h).mono λr L hr=>.inl ⟨by rw[KI h];exact h,hr⟩
 ·by_cases h2:(gh b).2.2≠0
  ·exact(aiA HT hb di h h2).mono λr L hr=>.inl ⟨by rw[KJ h h2];exact h2,hr⟩
  ·by_cases h3:HW (d_ b) (E (q_ b))≠0
   ·exact(aiB HT hb di h h2 h3).mono λr L hr=>.inl ⟨by rw[KK h h2 h3];exact h3,hr⟩
   ·by_cases h4:yE (fq (d_ b)).1.sum (xk b)≠0
    ·exact(aiC HT hb di h h2 h3 h4).mono λr L hr=>.inl ⟨by rw[KL h h2 h3 h4];exact h4,hr⟩
    ·exact aiD HT hb di h h2 h3 h4
end
theorem as8{a b:Nat}(ha:a<9223372036854775808):IntKind.i64.wrap ((a:Int).tdiv (b:Int))=((a/b:Nat):Int):=by
 have e:(a:Int).tdiv (b:Int)=((a/b:Nat):Int):=(Int.ofNat_tdiv a b).symm;have h0:a/b<9223372036854775808:=Pq (rY a b) ha;rw[e];generalize a/b=x at h0;exact wrap_i64 _ aa aa
theorem VW{P:Prop}(h:P:=by(rw[hys];exact uj)):P:=h
theorem atw:((List.range 256).all λa=>Nat.beq (a &&& 128) 0==Nat.blt a 128)=true:=by decide+kernel
theorem atx{a:Nat}(h:a<256):a &&& 128=0↔a<128:=by
 have:=LU.1 atw a (pj.2 h);have e:Nat.beq (a &&& 128) 0=Nat.blt a 128:=by simpa using this
 constructor
 ·intro k;rw[k]at e;exact(by simpa using e.symm)
 ·intro k;rw[show Nat.blt a 128=true by simpa using k]at e;exact r9 e
theorem atg(a:Nat):IntKind.u8.wrap ((a:Int)*2^min ((1:Int)).toNat IntKind.u8.bits)=((2*a%256:Nat):Int):=by
 show((a:Int)*2)%256=_;omega
theorem MC{a:Nat}(ha:a<256):aZ B w0 306 [.int .u8 (a:Int)] F (λr L=>r= .int .u8 ((qx a:Nat):Int)∧L=F):=by
 have h1:=atx ha;refine fw func306 11 [0] ?_;refine bO ?_;refine ab (kE rfl rfl (r:=((a &&& 128:Nat):Int)) (aqi ha (b:=128) ax)) rfl (bE ?_);refine aj (λh5=>?_) λh5=>?_
 ·have hc:¬a<128:=λk=>h5 (by have:=h1.2 k;omega);have e:qx a=(2*a%256) ^^^ 29:=by unfold qx;rw[aw hc];congr 1;omega
  refine bE ?_;refine ab (gk rfl rfl ax (r:=((2*a%256:Nat):Int)) (atg a)) rfl (ab (lh rfl rfl (r:=((qx a:Nat):Int)) (by rw[e];exact ah4 aa (b:=29) ax)) rfl (bB ?_));exact⟨rfl,rfl⟩
 ·have hc:a<128:=h1.1 (by have:=bA h5;omega);have e:qx a=2*a%256:=by unfold qx;rw[ao hc];omega
  refine bF ?_;refine ab (gk rfl rfl ax (r:=((qx a:Nat):Int)) (by rw[e];exact atg a)) rfl (bF ?_);exact⟨rfl,rfl⟩
theorem XJ(a o:Nat):∀f,fB f a 0 o=o
 |0=>rfl
 |f+1=>by unfold fB;rw[ao rfl]
theorem XI:∀(f b o:Nat),fB f 0 b o=o
 |0,_,_=>rfl
 |f+1,b,o=>by
  unfold fB;rw[show qx 0=0 from rfl,XI f];split
  ·rfl
  ·split
   ·exact Nat.xor_zero o
   ·rfl
theorem amI(y:Nat):y >>> 1=y/2:=by rw[wX]
theorem am'{n:Nat}(h:n<256):IntKind.u64.wrap ((BitVec.ofInt IntKind.u64.bits (n:Int) &&& BitVec.ofInt IntKind.u64.bits ((1:Nat):Int)).toNat:Int)=((n &&& 1:Nat):Int):=by
 have h1:n &&& 1=n%2:=Fx n;rw[ana (k:=.u64) (a:=n) (b:=1) (by show n<18446744073709551616;omega) ax];exact gj aa aa
theorem ON{f y:Nat}(h:y<2^f)(h0:y≠0):∃q,f=q+1:=by
 cases f with
 |zero=>simp at h;omega
 |succ q=>exact⟨q,rfl⟩
theorem Lr{a b:Nat}(ha:a<256)(hb:b<256):aZ B w0 305 [.int .u8 (a:Int),.int .u8 (b:Int)] F (λr L=>r= .int .u8 ((fx a b:Nat):Int)∧L=F):=by
 refine fw func305 19 [0,1] ?_;refine cF ?_;refine aD (λzf zL zm=>∃(f x y o:Nat),(x<256∧y<2^f∧y<256∧o<256∧fB f x y o=fx a b)∧y=zm∧Sub zf [(0,.int .u8 (x:Int)),(1,.int .u8 (y:Int)),(5,.int .u8 (o:Int))]∧Wk zL (F)) _ ⟨8,a,b,0,⟨ha,hb,hb,ax,rfl⟩,rfl,bp,.refl _⟩ ?_;rintro _ _ _ ⟨f,x,y,o,⟨hx,hyf,hy,ho,hm⟩,rfl,hs,hp⟩;refine aT hs hp (bI ?_);refine aj (λh7=>?_) λh7=>?_
 ·obtain⟨f,rfl⟩:=ON hyf aa;have hys:y >>> 1=y/2:=amI y;have hya:y &&& 1=y%2:=Fx y;have awB:y/2<2^f:=by rw[jM]at hyf;omega
  have uj:fB f (qx x) (y/2) (if y%2=1 then o ^^^ x else o)=fx a b:=by rw[<-hm];conv=>rhs;unfold fB;rw[aw (show¬y=0 by omega)]
  have Xl:=oH x hx;refine bK ?_;refine ab (kE rfl rfl (r:=((y &&& 1:Nat):Int)) (aqi hy (b:=1) ax)) rfl (bE ?_);refine aj (λnY=>?_) λnY=>?_
  ·rw[hya]at nY;rw[ao aa]at uj;have hox:=wu ho hx;refine bE ?_;refine ab (lh rfl rfl (r:=((o ^^^ x:Nat):Int)) (ah4 ho hx)) rfl (bF ?_);refine ai rfl (MC hx) (bB ?_);refine ab (dv rfl rfl ax (r:=((y >>> 1:Nat):Int)) (It y 1)) rfl (bc ?_);refine av ⟨_,aa,f,qx x,y >>> 1,o ^^^ x,⟨Xl,aa,aa,hox,VW⟩,rfl,bp,.refl _⟩
  ·rw[hya]at nY;rw[aw aa]at uj;refine b7 ?_;refine ai rfl (MC hx) (bB ?_);refine ab (dv rfl rfl ax (r:=((y >>> 1:Nat):Int)) (It y 1)) rfl (bc ?_);refine av ⟨_,aa,f,qx x,y >>> 1,o,⟨Xl,aa,aa,ho,VW⟩,rfl,bp,.refl _⟩
 ·obtain rfl:y=0:=by have:=bA h7;omega
  rw[XJ]at hm;refine cY ?_;exact⟨by rw[hm],rfl⟩
theorem akv(a o:Nat):∀f,uH f a 0 o=o
 |0=>rfl
 |f+1=>by unfold uH;rw[ao rfl]
theorem as6{a:Nat}(ha:a<256)(h0:a≠0):aZ B w0 274 [.int .u8 (a:Int),.int .u64 254] F (λr L=>r= .int .u8 ((rO a:Nat):Int)∧L=F):=by
 have e0:uH 8 a 254 1=rO a:=by unfold rO;rw[aw h0]
 refine fw func274 28 [0,1] ?_;refine ei ?_;refine dw λh6=>?_;refine bI ?_;refine dw λh9=>?_;refine cF ?_;refine ab (l8 rfl rfl ax (r:=254) ax) rfl (b7 ?_);refine aD (λzf zL zm=>∃(f x n o:Nat),(x<256∧n<2^f∧n<256∧o<256∧uH f x n o=rO a)∧n=zm∧Sub zf [(0,.int .u8 (x:Int)),(1,.int .u64 (n:Int)),(5,.int .u8 (o:Int))]∧Wk zL (F)) _ ⟨8,a,254,1,⟨ha,ax,ax,ax,e0⟩,rfl,bp,.refl _⟩ ?_;rintro _ _ _ ⟨f,x,n,o,⟨hx,hnf,hn,ho,hm⟩,rfl,hs,hp⟩;refine aT hs hp (bI ?_);refine aj (λkF=>?_) λkF=>?_
 ·obtain⟨f,rfl⟩:=ON hnf aa;have hys:n >>> 1=n/2:=amI n;have hya:n &&& 1=n%2:=Fx n;have awn:n/2<2^f:=by rw[jM]at hnf;omega
  have uj:uH f (fx x x) (n/2) (if n%2=1 then fx o x else o)=rO a:=by rw[<-hm];conv=>rhs;unfold uH;rw[aw (show¬n=0 by omega)]
  have Xl:=mul_lt x hx;refine bK ?_;refine ab (kE rfl rfl (r:=((n &&& 1:Nat):Int)) (am' hn)) rfl (bE ?_);refine aj (λju=>?_) λju=>?_
  ·rw[hya]at ju;rw[ao aa]at uj;have hox:=mul_lt x ho;refine bE ?_;refine ai rfl (Lr ho hx) (bB ?_);refine ai rfl (Lr hx hx) (bB ?_);refine ab (dv rfl rfl ax (r:=((n >>> 1:Nat):Int)) (It n 1)) rfl (bc ?_);refine av ⟨_,aa,f,fx x x,n >>> 1,fx o x,⟨Xl,aa,aa,hox,VW⟩,rfl,bp,.refl _⟩
  ·rw[hya]at ju;rw[aw aa]at uj;refine bF ?_;refine ai rfl (Lr hx hx) (bB ?_);refine ab (dv rfl rfl ax (r:=((n >>> 1:Nat):Int)) (It n 1)) rfl (bc ?_);refine av ⟨_,aa,f,fx x x,n >>> 1,o,⟨Xl,aa,aa,ho,VW⟩,rfl,bp,.refl _⟩
 ·obtain rfl:n=0:=by omega
  rw[akv]at hm;refine cY ?_;exact⟨by rw[hm],rfl⟩
theorem amn{a:Nat}(ha:a<256):aZ B w0 236 [.int .u8 (a:Int)] F (λr L=>r= .tuple #[.int .u8 ((rO a:Nat):Int),ah (if a=0 then 13 else 0)]∧L=F):=by
 refine fw func236 8 [0] ?_;refine cY ?_;refine aj (λh5=>?_) λh5=>?_
 ·obtain rfl:a=0:=by omega
  refine bO ?_;exact⟨rfl,rfl⟩
 ·have h0:a≠0:=by omega
  refine bF ?_;refine ai rfl (as6 ha h0) (bB ?_);exact⟨by rw[aw h0],rfl⟩
theorem JS:∀(f a b o:Nat),b<2^f->fB (f+1) a b o=fB f a b o
 |0,a,b,o,h=>by
  have:b=0:=by simpa using h
  subst this;rfl
 |f+1,a,b,o,h=>by
  rw[fB]
  conv=>rhs;rw[fB]
  split
  ·rfl
  ·exact JS f _ _ _ (by rw[jM]at h;omega)
theorem aaS(f:Nat){c i:Nat}(hc:c<256)(h1:1<=i)(hi:i/2<2^f):fB (f+1) c i 0=if i%2=1 then qx (fB (f+1) c (i/2) 0) ^^^ c else qx (fB (f+1) c (i/2) 0):=by
 have e1:fB (f+1) c i 0=fB f (qx c) (i/2) (if i%2=1 then 0 ^^^ c else 0):=by rw[fB,aw aa]
 have e2:∀o,o<256->fB f (qx c) (i/2) o=qx (fB (f+1) c (i/2) 0) ^^^ o:=λo ho=>by
  have h:=zz f (qx c) 0 (i/2) 0 o (oH c hc) ax;rw[Nat.xor_zero,Nat.zero_xor,XI]at h;have h2:=L8 f c (i/2) 0 hc ax;rw[show qx 0=0 from rfl]at h2;rw[h,h2,JS f c (i/2) 0 hi]
 rw[e1];split
 ·rw[Nat.zero_xor,e2 c hc]
 ·rw[e2 0 ax,Nat.xor_zero]
theorem afv{c i:Nat}(hc:c<256)(hi:i<256)(h1:1<=i):fx c i=if i%2=1 then qx (fx c (i/2)) ^^^ c else qx (fx c (i/2)):=by
 unfold fx;exact aaS 7 hc h1 aa
def zJ(c:Nat):List Int:=(List.range 256).map λi=>((fx c i:Nat):Int)
theorem GC(c:Nat):E (zJ c)=256:=by simp[zJ]
theorem GB{c i:Nat}(hi:i<256):(zJ c).getD i 0=((fx c i:Nat):Int):=by simp[zJ,ba,hi]
theorem ajk{c:Nat}:fx c 0=0:=XJ c 0 8
abbrev Rwb(g:Nat)(b:List Int):Ch:=.bG g 382 (ints .u8 b)
theorem zN{b:List Int}{i j:Nat}{v:Int}(hi:i<E b):(b.set i v).getD j 0=if j=i then v else b.getD j 0:=by
 simp only[ba,CK];by_cases h:i=j
 ·subst h;simp[hi]
 ·rw[aw h,aw (Ne.symm h)]
theorem W1{c:Nat}(hc:c<256):aZ B w0 275 [.int .u8 (c:Int)] F (λr L=>r= .agg (ints .u8 (zJ c)).toArray∧L=F):=by
 refine fw func275 26 [0] ?_;refine bc ?_;refine bh λg2=>?_;refine b7 ?_;refine bh λg3=>?_;refine bO ?_;refine aD (λzf zL zm=>∃(i:Nat) (b:List Int),(1<=i∧i<=256∧E b=256∧∀j,j<i->b.getD j 0=((fx c j:Nat):Int))∧256-i=zm∧Sub zf [(0,.int .u8 (c:Int)),(2,br g2),(3,br g3),(4,ah (i:Int))]∧Wk zL (Rwb g3 b::Rwb g2 (List.replicate 256 0)::F)) _ ⟨1,List.replicate 256 0,⟨gC _,ax,rfl,λj hj=>by
  obtain rfl:j=0:=by omega
  rw[ajk];rfl⟩,rfl,bp,.refl _⟩ ?_
 rintro _ _ _ ⟨i,b,⟨hi1,hi2,di,hb⟩,rfl,hs,hp⟩;refine aT hs hp (bI ?_);refine aj (λh6=>?_) λh6=>?_
 ·obtain⟨v,hv⟩:=cK (fx c (i/2));have hvl:v<256:=by rw[hv];exact mul_lt _ hc
  have Xi:b.getD (i/2) 0=(v:Int):=by rw[hb _ aa,hv]
  have hh:=afv hc (show i<256 by omega) hi1;rw[<-hv]at hh;have DC:=oH v hvl;refine bK ?_;refine ab (mJ rfl rfl ax (r:=((i/2:Nat):Int)) (as8 (b:=2) aa)) rfl (ab (aP (i:=i/2) underlying382 ag rfl rfl rfl aa) rfl (ab (fk ag rfl aW HD) rfl ?_));rw[Xi];refine ai rfl (MC hvl) (ab (aP (i:=i) underlying382 ag rfl rfl rfl aa) rfl (bB ?_));refine ab (l8 rfl rfl ax (r:=((i%2:Nat):Int)) (by rw[Int.tmod_eq_emod_of_nonneg aa];omega)) rfl (bE ?_);refine aj (λiC=>?_) λiC=>?_
  ·rw[ao aa]at hh;have lK:(b.set i ((qx v:Nat):Int)).getD i 0=((qx v:Nat):Int):=by rw[zN aa,ao rfl]
   refine bc ?_;refine ab (aP (i:=i) underlying382 ag rfl rfl rfl aa) rfl ?_;refine ab (fk ag rfl aW HD) rfl ?_;rw[lK];refine aF ?_;refine ab (lh rfl rfl (r:=((qx v ^^^ c:Nat):Int)) (ah4 DC hc)) rfl ?_;refine ab (aP (i:=i) underlying382 ag rfl rfl rfl aa) rfl ?_;refine aF ?_;refine ve [0,2,3,4] ?_;refine bI ?_;refine av ⟨_,aa,i+1,(b.set i ((qx v:Nat):Int)).set i ((qx v ^^^ c:Nat):Int),⟨aa,aa,by simp[di],λj hj=>by
    rw[zN bT,zN aa];by_cases e:j=i
    ·subst e;rw[ao rfl,hh]
    ·rw[aw e,aw e];exact hb j aa⟩,rfl,bp,.refl _⟩
  ·rw[aw aa]at hh;refine bK ?_;refine av ⟨_,aa,i+1,b.set i ((qx v:Nat):Int),⟨aa,aa,by simp[di],λj hj=>by
    rw[zN aa];by_cases e:j=i
    ·subst e;rw[ao rfl,hh]
    ·rw[aw e];exact hb j aa⟩,rfl,bp,.refl _⟩
 ·obtain rfl:i=256:=by omega
  obtain rfl:b=zJ c:=by
   apply jK
   ·rw[di,GC]
   ·intro j h1 h2;have h3:=hb j aa;rw[<-GB aa,ba,ba,fc h1,fc h2]at h3;exact h3
  refine cF ?_;refine J_ rfl rfl ag aW gV (.s2 (.refl _)) ?_;exact⟨rfl,rfl⟩
section
section
variable{C:Cx}{fr:Fr}{L:aR}{x y:Operand}{f:Ch->aR}{t t2 e ty:TypeId}
theorem sO{bytes:Nat}{zv:Value}(T:tA C.P t e 1 bytes zv){A:bk}{n c i j:Nat}{xs:cZ}(hs:na (.own e 1 A n c xs) L f)(he:ev fr x=some (.slice (if c=i then A else A.map (·.add (i*1))) (j-i) (c-i)))(hi:i<=j)(hj:j<=n){yv:Value}{m:Nat}{news:cZ}(hy:ev fr y=some yv)(hb:aM C.B C.w0 L 1 yv m news)(h1:∀u∈news,u.oneCell'=true):
  q8 C fr L (.call {callee:=.builtin .copy,args:= #[x,y],argTypes:= #[t,t2]}) ty (λp L'=>p=ah (min m (j-i):Nat)∧L'=f (.own e 1 A n c (xs.take i++news.take (min m (j-i))++xs.drop (i+min m (j-i))))):=λa w ha hw d pos af gg=>by
 obtain⟨ii,hii,hz,jg,Fc⟩:=T.hi;have aeP:(C.P.info? e).map (·.size)=some 1:=by rw[hii];simp[jg]
 obtain⟨X,cx,rfl,hmc,hl,uM⟩:=hb w hw;have aoh:Nat.min m (j-i)=min m (j-i):=rfl;obtain⟨k1,k2,k3⟩:=hw.all _ hs.mem;rw[cH]at k1 hl;by_cases h0:min m (j-i)=0
 ·have hr:=run_copy_none (P:=C.P) w t t2 ty e (if c=i then A else A.map (·.add (i*1))) X (j-i) (c-i) m cx T.ht aeP h0;refine⟨_,w,_,.inl ?_,⟨rfl,rfl⟩,?_⟩
  ·simp[execOp,resolve,invoke,builtin,ha.tmp he,ha.tmp hy];have:=hr;simp at this;rw[this];simp[goInt,h0]
  ·rw[h0,zl,gl,sX,jd];refine hw.RV hs (Pn w _) (λh=>h) (.inr (.inl rfl))
 ·have rC:¬c=0:=by omega
  have hci:¬c=i:=by omega
  obtain⟨g,cur,rfl,hbg,hg,hcm,ui,p7⟩:=k3.resolve_left rC;clear k3;rw[cH]at ui p7;obtain⟨ad,rfl,_,fL⟩:=uM aa;clear uM aoh;obtain⟨k,hk⟩:=cK (min m (j-i));have vS:k<=m:=by omega
  have hkn:i+k<=n:=by omega
  have O7:k=Nat.min m (j-i):=hk;rw[<-hk]at h0⊢;clear hk;have aos:∀j v,(news.take k)[j]? =some v->w.cell? (ad.add j)=some v:=λq v hv=>by
   rw[If]at hv;split at hv
   ·exact fL q v hv
   ·cases hv
  have hlen:E (news.take k)=k:=by rw[eY,hl];omega
  have H7:(⟨g,0,none⟩:Addr).add (i*1)=⟨g,i,none⟩:=by rw[Bu,lV,cH]
  have H9:i+E (news.take k)<=cur.size:=by rw[hlen,ui];omega
  have hr:=run_copy_row (P:=C.P) w t t2 ty e g i (j-i) (c-i) ad m cx cur e (news.take k) T.ht aeP hg (by rw[hlen];exact O7) aos H9 (λv hv=>h1 v (my hv));clear O7;have uh:E cur.toList=c:=by simpa using ui
  have e1:E (xs.take i++news.take k++xs.drop (i+k))=n*1:=by
   simp only[aX,eY,iG,hl,k1];omega
  have e2:E (cur.toList.take i++news.take k++cur.toList.drop (i+E (news.take k)))=c:=by
   simp only[aX,eY,iG,hl,uh];omega
  have e3:(cur.toList.take i++news.take k++cur.toList.drop (i+E (news.take k))).take n=xs.take i++news.take k++xs.drop (i+k):=by
   have hx:xs=cur.toList.take n:=p7.symm;rw[hlen,PG,fC (by rw[aX,eY,hlen];omega),hx,LS,LP,xH aa];congr 2;rw[aX,eY,hlen,uh,xH aa]
  refine⟨_,_,_,.inl ?_,⟨rfl,rfl⟩,hw.RV hs (w':=w.setRow g (cur.toList.take i++news.take k++cur.toList.drop (i+E (news.take k))).toArray) ?_ (λ_=>⟨e1,k2,.inr ⟨g,_,rfl,hbg,PE w g cur _ e _ hg,hcm,by rw[xG,e2,cH],by rw[cH];exact e3⟩⟩) (.inr (.inl rfl))⟩
  ·simp only[execOp,resolve,invoke,builtin,ha.tmp he,ha.tmp hy,aw hci,Dg,H7,LK,Ig,uV,List.map_toArray,kh,Ih,hr];simp[goInt,hlen]
  ·rw[show(Ch.own e 1 (some ⟨g,0,none⟩) n c xs).fp=some g by simp[Ch.fp,rC]];exact⟨rfl,rfl,rfl,ak,λk _ hk=>PF w g k _ (λe=>hk yo)⟩
abbrev Iu(A:bk)(c i j:Nat):Value:=.slice (if c=i then A else A.map (·.add (i*1))) (i+j-i) (c-i)
theorem aM.part{B:Nat}{w0:World}{A:bk}{n c i j:Nat}{l:al}(h:aM B w0 L 1 (.slice A n c) n (bv l))(Jv:i+j<=n):aM B w0 L 1 (Iu A c i j) (i+j-i) (bv ((l.drop i).take j)):=by
 have:=(h.jv (k:=i+j) Jv).cut (k:=i) aa;have e:((bv l).take ((i+j)*1)).drop (i*1)=bv ((l.drop i).take j):=by
  rw[cH,cH];unfold bv;rw[<-p_,<-zd,LP];congr 2;omega
 rw[e]at this;exact this
theorem HZ{v:Value}{A:bk}{n c i q:Nat}{xs:cZ}(hs:qA C.P t=true)(he:ev fr x=some (.pointer ((if c=i then A else A.map (·.add (i*1))).map (·.add q))))(hv:ev fr y=some v)(h1:v.oneCell'=true)(hm:na (.own e 1 A n c xs) L f)(hic:i<c)(hj:i*1+q<E xs):
  q8 C fr L (.store t x y) ty (λp L'=>L'=f (.own e 1 A n c (xs.set (i*1+q) v))):=by
 refine pX (j:=i*1) (q:=q) hs ?_ hv h1 hm hj;rw[he,aw aa,Option.map_map];rfl
end
variable{B:Nat}{w0:World}{F L0:aR}{A A1 A2 Ao:bk}{n c c1 c2 co g gc:Nat}
theorem CD(x:Nat):E (ints .u8 (zJ x))=256:=by simp[ints,zJ]
theorem set_mk{p:al}{y:UInt8}{k n:Nat}(h:E p=k)(hk:k<n):(bv p++List.replicate (n-k) (Value.int .u8 0)).set (k*1) (.int .u8 (y.toNat:Int))=bv (p++[y])++List.replicate (n-(k+1)) (Value.int .u8 0):=by
 subst h;rw[show n-E p=(n-(E p+1))+1 by omega,Bt,cH,qa _ _ Co];simp[bv]
theorem ZZ{s b:al}{x:UInt8}{k:Nat}(h1:k<E s)(h2:k<E b):(rh s x b).take (k+1)=(rh s x b).take k++[s.getD k 0 ^^^ gm x (b.getD k 0)]:=by
 rw[aY (by unfold rh;rw[List.length_zipWith];omega) 0,E6 h1 h2]
theorem ajm{s b:al}{x:UInt8}(hl:E s=E b)(hs:fo B w0 F A c s)(hb:fo B w0 F A2 c2 b)(hn:E s<=1000000000):
  aZ B w0 237 [.slice A (E s) c,.int .u8 (x.toNat:Int),.slice A2 (E b) c2] F (λr L=>∃A' c',r= .tuple #[.slice A' (E s) c',ah 0]∧L= .own 5 1 A' (E s) c' (bv (rh s x b))::F):=by
 have DC:E (rh s x b)=E s:=pZ hl;refine fw func237 42 [0,1,2] ?_;refine jG ?_;refine dw λlf=>?_;refine bF ?_;refine ai rfl (W1 (rz x)) (bh λg8=>?_);refine lk (oG 256 ag rfl rfl (Fp _ _) aW rfl (CD _)) (bB ?_);refine cC (ft cB rfl rfl rfl rfl rfl aa aa aa) λA21=>cF ?_;refine aD (λzf zL zm=>∃(k:Nat),(k<=E s)∧E s-k=zm∧Sub zf [(2,.slice A2 (E b) c2),(8,br g8),(9,.slice A21 (E s) (E s)),(22,.slice A (E s) c),(23,ah (E s)),(24,ah k)]∧Wk zL (.own 5 1 A21 (E s) (E s) (bv ((rh s x b).take k)++List.replicate (E s-k) (.int .u8 0))::Rwb g8 (zJ x.toNat)::F)) _ ⟨0,bU _,rfl,bp,.refl _⟩ ?_;rintro _ _ _ ⟨k,hk,rfl,hs,hp⟩;refine aT hs hp ?_;clear hs hp;refine bB ?_;refine aj (λwS=>?_) λwS=>?_
 ·obtain⟨u,hu⟩:=cK (s.getD k 0);obtain⟨v,hv⟩:=cK (b.getD k 0);have hvl:=rz v;have Av:=rz u;have hgt:=ZZ (x:=x) (show k<E s by omega) (show k<E b by omega);rw[<-hu,<-hv]at hgt;have hrg:(zJ x.toNat).getD v.toNat 0=(((gm x v).toNat:Nat):Int):=by rw[GB hvl,iS]
  refine bO ?_;rw[<-hu];refine cF ?_;rw[<-hv];refine ab (aP (i:=v.toNat) underlying382 ag rfl rfl rfl hvl) rfl (ab (fk ag rfl aW (by rw[GC];exact hvl)) rfl ?_);rw[hrg];refine ab (lh rfl rfl (r:=(((u ^^^ gm x v).toNat:Nat):Int)) (by rw[UInt8.toNat_xor];exact ah4 Av (rz _))) rfl (ab (aE (i:=k) (size:=1) underlying27 ag rfl rfl rfl aa (aM.own (.head _))) rfl (lk (ia ag rfl rfl rfl aW (by simp[bv];omega)) ?_));refine ve [2,8,9,22,23,24] ?_;refine bB ?_;refine av ⟨_,aa,k+1,aa,rfl,bp,az rfl (by rw[hgt];exact set_mk nf aa) (.refl _)⟩
 ·obtain rfl:k=E s:=by omega
  refine cY ?_;refine aq (L':=.own 5 1 A21 (E s) (E s) (bv (rh s x b))::F) (az rfl (by rw[fC aa];simp) (.skip (.refl _))) (aF ?_);exact⟨A21,_,rfl,rfl⟩
end
theorem acL{P:Prop}(h:P:=by(rw[oK (by omega)])):P:=h
abbrev wx(A:bk)(r k n c:Nat):Value:=.agg #[ah (r:Int),ah (k:Int),.slice A n c]
abbrev D4(g:Nat)(A:bk)(r k n c:Nat):Ch:=.bG g 272 [ah (r:Int),ah (k:Int),.slice A n c]
theorem FZ{a b:Nat}(ha:a<=1000000)(hb:b<=1000000):IntKind.i64.wrap ((a:Int)*(b:Int))=((a*b:Nat):Int):=by
 have:a*b<=1000000*1000000:=gU ha hb;rw[<-zi];exact bq aa aa
theorem vC{x:Nat}(h:x<=255):aZ B w0 233 [ah (x:Int)] F (λr L=>r= .bool true∧L=F):=by
 refine fw func233 9 [0] ?_;refine bz ?_;refine cD (λh5=>?_) λh5=>?_
 ·refine bO ?_;exact⟨acL,rfl⟩
 ·exfalso;omega
theorem zx(hr:r<=255)(hk:k<=255)(hn:n=r*k):aZ B w0 307 [wx A r k n c] F (λv L=>v= .bool true∧L=F):=by
 refine b_ func307 22 rfl rfl rfl [(0,.agg #[ah (r:Int),ah (k:Int),.slice A n c])] ⟨⟨rfl,rfl⟩,trivial⟩ ?_;refine bc ?_;refine bg λg1=>?_;refine bI ?_;refine ai rfl (vC hr) (bB ?_);refine ai rfl (vC hk) (Bg ?_);refine ab (eH rfl rfl (r:=((r*k:Nat):Int)) (FZ aa aa)) rfl (b7 ?_);refine ve [2] ?_;refine bc ?_;refine aq (.skip (.refl _)) (aF ?_);exact⟨acL,rfl⟩
theorem PV(i j:Nat):aZ B w0 330 [ah (i:Int),ah (j:Int)] F (λv L=>v= .int .u8 (((if i=j then (1:UInt8) else 0).toNat:Nat):Int)∧L=F):=by
 refine fw func330 8 [0,1] ?_;refine cY ?_;refine aj (λh7=>?_) λh7=>?_
 ·refine bK ?_;exact⟨by rw[ao aa];rfl,rfl⟩
 ·refine bO ?_;exact⟨by rw[aw aa];rfl,rfl⟩
theorem TZ{ff:FuncId}{cap:cZ}{Q:aR}(f:Nat->Nat->UInt8)(hr:r<=255)(hk:k<=255)(hc:aK Tryz.prog ff)(hQ:Q.Sublist F)(hf:∀(i j:Nat) (L:aR),i<r->j<k->Q.Sublist L->aZ B w0 ff ([ah (i:Int),ah (j:Int)]++cap) L (λv L'=>v= .int .u8 (((f i j).toNat:Nat):Int)∧L'=L)):
  aZ B w0 234 [ah (r:Int),ah (k:Int),.func (.func ff) #[] cap.toArray] F (λv L=>∃A' c',v=wx A' r k (r*k) c'∧L= .own 5 1 A' (r*k) c' (bv (qQ r k f))::F):=by
 have hrk:r*k<=255*255:=gU hr hk;refine fw func234 37 [0,1,2] ?_;refine bc ?_;refine bh λg6=>?_;refine bK ?_;refine ab (eH rfl rfl (r:=((r*k:Nat):Int)) (FZ aa aa)) rfl (cC (ft (nn:=0) cB rfl rfl rfl rfl rfl aa aa aa) λCe=>ab (eZ [(0,_),(1,_),(2,_)] [_,_,_] rfl rfl ag) rfl (bh λg7=>?_));refine de ?_;refine aD (λzf zL zm=>∃(i:Nat) (A':bk) (c':Nat),(i<=r)∧r-i=zm∧Sub zf [(1,ah (k:Int)),(2,.func (.func ff) #[] cap.toArray),(6,br g6),(7,br g7),(17,ah (r:Int)),(18,ah (i:Int))]∧Wk zL (.own 5 1 A' (i*k) c' (bv (qQ i k f))::D4 g7 A' r k (i*k) c':: .bG g6 272 [ah 0,ah 0,.slice none 0 0]::F)) _ ⟨0,Ce,r*k,bU _,rfl,bp,.trans ((gE (eu (eu (.refl _))))) (az ak (by simp[qQ,bv]) (bw ak (.refl _)))⟩ ?_;rintro _ _ _ ⟨i,A',c',hi,rfl,hs,hp⟩;refine aT hs hp ?_;clear hs hp;refine bB ?_;refine aj (λoI=>?_) λoI=>?_
 ·have hik:=fW (k:=k) (show i<r by omega);refine Bg ?_;refine aD (λzf zL zm=>∃(j:Nat) (A2:bk) (c2:Nat) (acc:al),(j<=k∧acc=qQ i k f++(List.range j).map λq=>f i q)∧k-j=zm∧Sub zf [(1,ah (k:Int)),(2,.func (.func ff) #[] cap.toArray),(6,br g6),(7,br g7),(8,ah (i:Int)),(17,ah (r:Int)),(18,ah (i:Int)),(21,ah (k:Int)),(22,ah (j:Int))]∧Wk zL (.own 5 1 A2 (i*k+j) c2 (bv acc)::D4 g7 A2 r k (i*k+j) c2:: .bG g6 272 [ah 0,ah 0,.slice none 0 0]::F)) _ ⟨0,A',c',qQ i k f,⟨bU _,ak⟩,rfl,bp,.refl _⟩ ?_;rintro _ _ _ ⟨j,A2,c2,acc,⟨hj,mc⟩,rfl,hs,hp⟩;refine aT hs hp ?_;clear hs hp;refine bB ?_;refine aj (λmB=>?_) λmB=>?_
  ·have hs:acc++[f i j]=qQ i k f++(List.range (j+1)).map λq=>f i q:=by rw[mc,lT];simp
   refine bz ?_;refine cE F ?_;refine ae 0 ?_;refine ae 2 ?_;refine ae 3 ?_;refine ae 4 ?_;refine ib 1 5 ?_ ?_
   ·refine aF ?_;refine aA 5 (qp rfl .no hc rfl rfl (hf i j _ aa aa (((hQ.cons _).cons _).cons _)) rfl Sc ?_);rintro _ _ ⟨rfl,cO⟩;obtain rfl:=cO.symm;refine aA 6 (cX rfl (aG cB [_] rfl rfl cw aa aa) λRX=>aA 7 (fi rfl (bW cB rfl aW rfl aB cw aa aa) λMP MX=>?_));refine ae 8 ?_;refine aA 9 (bK ?_);refine av ⟨_,aa,j+1,MP,MX,acc++[f i j],⟨aa,hs⟩,rfl,bp,.skip (az rfl Co (.refl _))⟩
   ·refine qp rfl .no hc rfl rfl (hf i j _ aa aa (((hQ.cons _).cons _).cons _)) rfl Sc ?_;rintro _ _ ⟨rfl,cO⟩;obtain rfl:=cO.symm;refine ib 1 6 ?_ ?_
    ·refine aF ?_;refine aA 6 (cX rfl (aG cB [_] rfl rfl cw aa aa) λRX=>aA 7 (fi rfl (bW cB rfl aW rfl aB cw aa aa) λMP MX=>?_));refine ae 8 ?_;refine aA 9 (bK ?_);refine av ⟨_,aa,j+1,MP,MX,acc++[f i j],⟨aa,hs⟩,rfl,bp,.skip (az rfl Co (.refl _))⟩
    ·refine cX rfl (aG cB [_] rfl rfl cw aa aa) λRX=>aA 1 (aF ?_);refine aA 7 (fi rfl (bW cB rfl aW rfl aB cw aa aa) λMP MX=>?_);refine ae 8 ?_;refine aA 9 (bK ?_);refine av ⟨_,aa,j+1,MP,MX,acc++[f i j],⟨aa,hs⟩,rfl,bp,.skip (az rfl Co (.refl _))⟩
  ·obtain rfl:j=k:=by omega
   refine bz ?_;refine av ⟨_,aa,i+1,A2,c2,aa,rfl,bp,az (by rw[kX]) (by rw[mc,FT]) (bw (by rw[kX]) (.refl _))⟩
 ·obtain rfl:i=r:=by omega
  refine cF ?_;refine J_ rfl rfl ag aW gV ((eu (.s2 (.refl _)))) ?_;exact⟨A',c',rfl,rfl⟩
theorem aqT{P:Prop}(h:P:=by(rw[kX,show a*k+k-a*k=k by omega];rfl)):P:=h
theorem ajL(hn:n<=255):aZ B w0 309 [ah (n:Int)] F (λv L=>∃A' c',v= .tuple #[wx A' n n (n*n) c',ah 0]∧L= .own 5 1 A' (n*n) c' (bv (Pe n))::F):=by
 refine fw func309 11 [0] ?_;refine bc ?_;refine bh λg2=>?_;refine bI ?_;refine ai rfl (vC hn) (bz ?_);refine ay rfl (TZ (Q:=[]) (cap:=[]) (λi j=>if i=j then 1 else 0) hn hn al5 (Pp _) (λi j L _ _ _=>PV i j)) λwJ Ej=>bF ?_;refine iK rfl rfl ag aW gV rfl ((eu (.skip (.refl _)))) ?_;exact⟨wJ,Ej,rfl,rfl⟩
theorem ap2{a b:Nat}(ha:a<256)(hb:b<256):IntKind.i64.wrap ((BitVec.ofInt IntKind.i64.bits (a:Int) ^^^ BitVec.ofInt IntKind.i64.bits (b:Int)).toNat:Int)=((a ^^^ b:Nat):Int):=by
 have h:=wu ha hb;rw[ap3 (k:=.i64) (a:=a) (b:=b) (by show a<18446744073709551616;omega) (by show b<18446744073709551616;omega)];exact bq aa aa
theorem aty{x:Nat}(h:x<256):(UInt8.ofNat x).toNat=x:=by rw[tX];exact jh h
def aiL(k i j:Nat):UInt8:=lj (UInt8.ofNat ((k+i) ^^^ j))
theorem ant{i j:Nat}(h1:k+i<=255)(h2:j<=255):aZ B w0 235 [ah (i:Int),ah (j:Int),br g] (.bG g 3 [ah (k:Int)]::F) (λv L=>v= .int .u8 (((aiL k i j).toNat:Nat):Int)∧L= .bG g 3 [ah (k:Int)]::F):=by
 have hx:=wu (a:=k+i) (b:=j) aa aa;have he:(aiL k i j).toNat=rO ((k+i) ^^^ j):=by unfold aiL;rw[xr,aty hx]
 refine fw func235 19 [0,1,2] ?_;refine bO ?_;refine ab (bJ rfl rfl (r:=((k+i:Nat):Int)) ((bq aa aa).trans aa)) rfl (aF ?_);refine ab (lh rfl rfl (r:=(((k+i) ^^^ j:Nat):Int)) (ap2 aa aa)) rfl (aF ?_);refine ai rfl (amn hx) (de ?_);refine ve [5] ?_;refine bE ?_;exact⟨by rw[he],rfl⟩
theorem NU(vS:k+m<=255):aZ B w0 191 [ah (k:Int),ah (m:Int)] F (λv L=>∃A' c',v= .tuple #[wx A' m k (m*k) c',ah 0]∧L= .own 5 1 A' (m*k) c' (bv (HI k m))::F):=by
 refine fw func191 25 [0,1] ?_;refine bc ?_;refine bg λg2=>?_;refine bh λg4=>?_;refine bI ?_;refine ai rfl (vC aa) (bF ?_);refine ai rfl (vC aa) (jt ?_);refine dw λoI=>?_;refine bI ?_;refine ay rfl (TZ (Q:=[.bG g2 3 [ah (k:Int)]]) (cap:=[br g2]) (aiL k) aa aa arp (((Pp F).cons_cons _).cons _) (λi j L hi hj hs=>dU.at_mem (hs.subset (.head _)) λM=>ant aa aa)) λAD Dr=>bc ?_;refine ve [4,5] ?_;refine bc ?_;refine iK rfl rfl ag aW gV rfl ((eu (.s2 (.refl _)))) ?_;exact⟨AD,Dr,rfl,rfl⟩
theorem avy{i k:Nat}(hi:i<=100000)(hk:k<=100000):IntKind.i64.wrap (((i:Int)+1)*(k:Int))=((i*k+k:Nat):Int):=by
 rw[show((i:Int)+1)=((i+1:Nat):Int) by omega,FZ aa aa,kX]
theorem FU{i:Nat}(hi:i<=100000)(hk:k<=100000)(hc:i*k+k<=c):aZ B w0 308 [wx A r k n c,ah (i:Int)] F (λv L=>v=Iu A c (i*k) k∧L=F):=by
 refine b_ func308 17 rfl rfl rfl [(0,.agg #[ah (r:Int),ah (k:Int),.slice A n c]),(1,ah (i:Int))] ⟨⟨rfl,rfl⟩,⟨rfl,rfl⟩,trivial⟩ ?_;refine bc ?_;refine bg λg2=>?_;refine bz ?_;refine ab (eH rfl rfl (r:=((i*k:Nat):Int)) (FZ aa aa)) rfl (b7 ?_);refine ab (eH rfl rfl (r:=((i*k+k:Nat):Int)) (avy hi hk)) rfl (ab (eJ (i:=i*k) (j:=i*k+k) (size:=1) underlying27 ag rfl rfl rfl rfl rfl aa aa) rfl (b7 ?_));refine aq (.skip (.refl _)) (aF ?_);exact⟨rfl,rfl⟩
abbrev aoO(A1 A2:bk)(k m n1 n2 c1 c2:Nat):cZ:=[ah (k:Int),ah (k:Int),.slice A1 n1 c1,ah (m:Int),ah (k:Int),.slice A2 n2 c2]
theorem akY(vS:k+m<=255){x y:al}(hx:E x=k*k)(hy:E y=m*k)(hr:aM B w0 F 3 (.slice A 2 c) 2 (aoO A1 A2 k m (k*k) (m*k) c1 c2))(h1:aM B w0 F 1 (.slice A1 (k*k) c1) (k*k) (bv x))(h2:aM B w0 F 1 (.slice A2 (m*k) c2) (m*k) (bv y)):
  aZ B w0 310 [.slice A 2 c] F (λv L=>∃A' c',v= .tuple #[wx A' (k+m) k ((k+m)*k) c',ah 0]∧L= .own 5 1 A' ((k+m)*k) c' (bv (x++y))::F):=by
 have Lz:k*k<=255*255:=gU aa aa;have hmk:m*k<=255*255:=gU aa aa;have xD:(k+m)*k=k*k+m*k:=kz ..;refine fw func310 52 [0] ?_;refine bc ?_;refine bh λg2=>?_;refine bF ?_;refine bh λg4=>?_;refine b7 ?_;refine a_ 5 1 none (bI ?_);refine aD (λzf zL zm=>∃(i R C N:Nat) (A':bk) (c':Nat) (acc:al),((i=0∧R=0∧C=0∧N=0∧acc=[])∨(i=1∧R=k∧C=k∧N=k*k∧acc=x)∨(i=2∧R=k+m∧C=k∧N=k*k+m*k∧acc=x++y))∧2-i=zm∧Sub zf [(2,br g2),(4,br g4),(7,.slice A 2 c),(8,ah 2),(9,ah (i:Int))]∧Wk zL (.own 5 1 A' N c' (bv acc)::D4 g4 A' R C N c':: .bG g2 272 [ah 0,ah 0,.slice none 0 0]::F)) _ ⟨0,0,0,0,none,0,[],.inl ⟨rfl,rfl,rfl,rfl,rfl⟩,rfl,bp,.refl _⟩ ?_;rintro _ _ _ ⟨i,R,C,N,A',c',acc,kN,rfl,hs,hp⟩;refine aT hs hp (bB ?_);refine aj (λjU=>?_) λjU=>?_
 ·obtain⟨q,hq⟩:=cK (if i=0 then k else m);obtain⟨Y,hY⟩:=cK (if i=0 then x else y);obtain⟨Aq,cq,fL,hbq⟩:∃(Aq:bk) (cq:Nat),(∀p u,([ah (q:Int),ah (k:Int),.slice Aq (q*k) cq]:cZ)[p]? =some u->(aoO A1 A2 k m (k*k) (m*k) c1 c2)[i*3+p]? =some u)∧aM B w0 F 1 (.slice Aq (q*k) cq) (q*k) (bv Y):=by
   have hi:i=0∨i=1:=by omega
   rcases hi with rfl|rfl
   ·rw[ao rfl]at hq hY;subst hq;subst hY;exact⟨A1,c1,λp u h=>by
     rcases p with _|_|_|p
     ·exact h
     ·exact h
     ·exact h
     ·simp at h,h1⟩
   ·rw[aw aa]at hq hY;subst hq;subst hY;exact⟨A2,c2,λp u h=>by
     rcases p with _|_|_|p
     ·exact h
     ·exact h
     ·exact h
     ·simp at h,h2⟩
  have hql:q<=255:=by rw[hq];split<;>omega
  have hRq:R+q<=255:=by
   rw[hq];rcases kN with h|h|h
   ·rw[ao h.1];omega
   ·rw[aw aa];omega
   ·omega
  have hqk:q*k<=255*255:=gU aa aa;have hNk:N<=255*255+255*255:=by rcases kN with h|h|h<;>omega
  refine bK ?_;refine ab (dq (j:=i*3) 3 ag rfl hr.cons.cons.cons aa [ah (q:Int),ah (k:Int),.slice Aq (q*k) cq] fL rfl) rfl (bh λg6=>?_);refine de ?_;refine aj (λkF=>?_) λkF=>?_
  ·refine de ?_;refine ai rfl (zx hql aa rfl) (ei ?_);refine aI rfl rfl rfl (λqu=>?_) (λqu=>?_)
   ·refine cF ?_;refine ve [2,4,6,7,8,9,36] ?_;refine aF ?_;refine dw λz'=>?_;refine bK ?_;refine ab (bJ rfl rfl (r:=((R+q:Nat):Int)) ((bq aa aa).trans aa)) rfl ?_;refine bO ?_;refine fK (bW cB rfl aW rfl aB cw aa aa) λA48 c48=>?_;refine bO ?_;refine av ⟨_,aa,i+1,R+q,k,N+q*k,A48,c48,acc++Y,(by
     rcases kN with h|h|h
     ·refine .inr (.inl ?_);rw[ao h.1]at hq hY;rw[hq,hY,h.2.2.2.2,h.2.1,h.2.2.2.1];exact⟨aa,aa,rfl,aa,rfl⟩
     ·exact absurd kF aa
     ·exact absurd kF aa),rfl,bp,.skip (az rfl ak (.refl _))⟩
   ·exfalso;omega
  ·have hC:C=k:=by rcases kN with h|h|h<;>omega
   subst hC;refine bB ?_;refine ai rfl (zx hql aa rfl) (ei ?_);refine aI rfl rfl rfl (λqu=>?_) (λqu=>?_)
   ·refine cF ?_;refine ve [2,4,6,7,8,9,36] ?_;refine aF ?_;refine dw λz'=>?_;refine bK ?_;refine ab (bJ rfl rfl (r:=((R+q:Nat):Int)) ((bq aa aa).trans aa)) rfl ?_;refine bO ?_;refine fK (bW cB rfl aW rfl aB cw aa aa) λA48 c48=>?_;refine bO ?_;refine av ⟨_,aa,i+1,R+q,C,N+q*C,A48,c48,acc++Y,(by
     rcases kN with h|h|h
     ·exact absurd h.1 aa
     ·refine .inr (.inr ?_);rw[aw aa]at hq hY;rw[hq,hY,h.2.2.2.2,h.2.2.2.1];exact⟨aa,aa,rfl,rfl,rfl⟩
     ·omega),rfl,bp,.skip (az rfl ak (.refl _))⟩
   ·exfalso;omega
 ·obtain⟨hi,hR,hC,hN,mc⟩:i=2∧R=k+m∧C=k∧N=k*k+m*k∧acc=x++y:=by
   rcases kN with h|h|h
   ·omega
   ·omega
   ·exact h
  subst hi;subst hR;subst hN;subst mc;refine cY ?_;refine iK rfl rfl ag aW gV rfl ((eu (.s2 (.refl _)))) ?_;subst hC;exact⟨A',c',by rw[xD],by rw[xD]⟩
theorem Us{at_:bf}{x:al}{i:Nat}(hi:i<E at_):k9 k x (at_.take (i+1))=k9 k x (at_.take i)++iD k x (at_.getD i 0):=by
 unfold k9;rw[aY hi 0,uP];simp
theorem aph{x:al}{at_:bf}(hr:r<=255)(hk:k<=255)(hx:E x=r*k)(hl:E at_<=255)(ha:∀a,a∈at_->a<r)(hb:aM B w0 F 1 (.slice A (r*k) c) (r*k) (bv x))(hba:aM B w0 F 1 (.slice A1 (E at_) c1) (E at_) (bD at_)):
  aZ B w0 277 [wx A r k (r*k) c,.slice A1 (E at_) c1] F (λv L=>∃A' c',v= .tuple #[wx A' (E at_) k (E at_*k) c',ah 0]∧L= .own 5 1 A' (E at_*k) c' (bv (k9 k x at_))::F):=by
 have hrk:r*k<=255*255:=gU hr hk;refine dU.yw hb λnZ _=>?_;refine b_ func277 47 rfl rfl rfl [(0,.agg #[ah (r:Int),ah (k:Int),.slice A (r*k) c]),(1,.slice A1 (E at_) c1)] ⟨⟨rfl,rfl⟩,⟨rfl,rfl⟩,trivial⟩ ?_;refine bc ?_;refine bg λg2=>?_;refine bh λg4=>?_;refine bI ?_;refine ai rfl (zx hr hk rfl) (de ?_);refine dw λlf=>?_;refine bK ?_;refine ab (bx [(0,_),(1,_)] [ah 0,ah 0,.slice none 0 0] [0,1] [_,_,_] rfl rfl ag) rfl (bh λg6=>?_);refine bF ?_;refine a_ 5 1 none (bI ?_);refine aD (λzf zL zm=>∃(i:Nat) (A':bk) (c':Nat),(i<=E at_)∧E at_-i=zm∧Sub zf [(2,br g2),(4,br g4),(6,br g6),(23,.slice A1 (E at_) c1),(24,ah (E at_)),(25,ah (i:Int))]∧Wk zL (.own 5 1 A' (i*k) c' (bv (k9 k x (at_.take i)))::D4 g6 A' (E at_) k (i*k) c':: .bG g4 272 [ah 0,ah 0,.slice none 0 0]::D4 g2 A r k (r*k) c::F)) _ ⟨0,none,0,bU _,rfl,bp,az ak (by simp[k9]) (bw ak (.refl _))⟩ ?_;rintro _ _ _ ⟨i,A',c',hi,rfl,hs,hp⟩;refine aT hs hp (bB ?_);refine aj (λqy=>?_) λqy=>?_
 ·obtain⟨a,hae⟩:=cK (at_.getD i 0);have har:a<r:=by rw[hae];exact ha _ (bj aa 0)
  have Dc:=fW (k:=k) har;have hps:=Us (k:=k) (x:=x) (show i<E at_ by omega);rw[<-hae]at hps;have hik:i*k<=255*255:=gU aa hk;have rS:aM B w0 F 1 (Iu A c (a*k) k) (a*k+k-a*k) (bv (iD k x a)):=hb.part Dc;refine bI ?_;refine ab (au ag rfl hba.cons.cons.cons.cons aa (gv (v:=a) aa hae.symm)) rfl (bO ?_);refine aI rfl rfl rfl (λC_=>?_) (λC_=>?_)
  ·refine bz ?_;refine dw λz'=>?_;refine bc ?_;refine cE (.bG g4 272 [ah 0,ah 0,.slice none 0 0]::D4 g2 A r k (r*k) c::F) ?_;refine ae 0 ?_;refine ae 2 ?_;refine ae 3 ?_;refine ib 1 4 ?_ ?_
   ·refine aF ?_;refine aA 4 (js rfl rfl (FU aa aa aa) (aA 5 (fi rfl (bW cB rfl aW rfl aB cw aa aa) λMS c43=>?_)));refine ae 6 ?_;refine aA 7 (aF ?_);refine cP [2,4,6,23,24,25] ?_;refine bB ?_;refine av ⟨_,aa,i+1,MS,c43,aa,rfl,bp,az (by rw[kX];omega) (by rw[hps];simp) (bw aqT (.refl _))⟩
   ·refine js rfl rfl (FU aa aa aa) (aA 1 (aF ?_));refine aA 5 (fi rfl (bW cB rfl aW rfl aB cw aa aa) λMS c43=>?_);refine ae 6 ?_;refine aA 7 (aF ?_);refine cP [2,4,6,23,24,25] ?_;refine bB ?_;refine av ⟨_,aa,i+1,MS,c43,aa,rfl,bp,az (by rw[kX];omega) (by rw[hps];simp) (bw aqT (.refl _))⟩
  ·exfalso;omega
 ·obtain rfl:i=E at_:=by omega
  rw[ki];refine cY ?_;refine iK rfl rfl ag aW gV rfl ((eu (.s3 (.refl _)))) ?_;exact⟨A',c',rfl,rfl⟩
theorem vd{l:al}{n:Nat}{xs:cZ}(e1:n=E l)(e2:xs=bv l)(hb:aM B w0 F 1 (.slice A n c) n xs)(hn:E l<=1099511627776):
  aZ B w0 36 [.slice A n c] F (λr L=>∃A' c',r= .slice A' (E l) c'∧L= .own 5 1 A' (E l) c' (bv l)::F):=by
 subst e1;subst e2;exact mG l hb hn
theorem W0{s b:al}{x:UInt8}{n1 n2:Nat}(e1:n1=E s)(e2:n2=E b)(hl:E s=E b)(hs:aM B w0 F 1 (.slice A n1 c) n1 (bv s))(hb:aM B w0 F 1 (.slice A2 n2 c2) n2 (bv b))(hn:E s<=1000000000):
  aZ B w0 237 [.slice A n1 c,.int .u8 (x.toNat:Int),.slice A2 n2 c2] F (λr L=>∃A' c',r= .tuple #[.slice A' (E s) c',ah 0]∧L= .own 5 1 A' (E s) c' (bv (rh s x b))::F):=by
 subst e1;subst e2;exact ajm hl hs hb hn
theorem AS{x r:al}{i:Nat}(hr:E r=k):(bv x).take (i*k)++(bv r).take (min (E r) (i*k+k-i*k))++(bv x).drop (i*k+min (E r) (i*k+k-i*k))=bv (pk k x i r):=by
 have e:min (E r) (i*k+k-i*k)=k:=by omega
 rw[e,kD,kD,jR,<-gF,<-gF,fC (l:=r) aa];unfold pk;rw[bX]
theorem aaQ{x r:al}{i:Nat}(hx:E x=N*k)(hi:i<N)(hr:E r=k):iD k (pk k x i r) i=r:=by
 have:=fW (k:=k) hi;unfold iD pk;rw[mo bT,lA hr]
theorem aaR{x:al}{i:Nat}(hx:E x=N*k)(hi:i<N):pk k x i (iD k x i)=x:=by
 have:=fW (k:=k) hi;unfold iD pk;rw[<-oi,jd,jd]
theorem afu{x r:al}{i q:Nat}{v:UInt8}(hx:E x=N*k)(hi:i<N)(hr:E r=k)(hq:q<k):(bv (pk k x i r)).set (i*k*1+q) (.int .u8 ((v.toNat:Nat):Int))=bv (pk k x i (r.set q v)):=by
 have:=fW (k:=k) hi;unfold pk;rw[cH,gF,gF,qa _ _ bT,List.set_append_left _ _ bT];have e:i*k+q-E (bv (x.take (i*k)))=q:=by simp;omega
 rw[e,gF,gF];congr 2;simp[bv,LR]
theorem qt{i:Nat}(hw:(cs.drop o).take 3=[ah (r:Int),ah (k:Int),.slice A n c])(hi:i<=100000)(hk:k<=100000)(hc:i*k+k<=c):aZ B w0 331 [.pointer (some ⟨g,o,none⟩),ah (i:Int)] (.bG g bt cs::F) (λv L=>v=Iu A c (i*k) k∧L= .bG g bt cs::F):=by
 refine fw func331 11 [0,1] ?_;refine bz ?_;refine ab (bP 3 ag rfl aW [ah (r:Int),ah (k:Int),.slice A n c] hw rfl) rfl (aF ?_);refine ai rfl (FU hi hk hc) (bF ?_);exact⟨rfl,rfl⟩
theorem YS{x:al}{i j:Nat}(hw:(cs.drop o).take 3=[ah (r:Int),ah (k:Int),.slice A (N*k) c])(hx:E x=N*k)(hN:N<=255)(hi:i<N)(hj:j<N)(hk:k<=255):
  aZ B w0 332 [.pointer (some ⟨g,o,none⟩),ah (i:Int),ah (j:Int)] (.own 5 1 A (N*k) c (bv x):: .bG g bt cs::F) (λv L=>v= .tuple #[]∧L= .own 5 1 A (N*k) c (bv (qh k x i j)):: .bG g bt cs::F):=by
 refine dU.yw (aM.own (.head _)) λnZ _=>?_;have h1:=fW (k:=k) hi;have h2:=fW (k:=k) hj;have l1:=eS hx hi;have l2:=eS hx hj;refine fw func332 26 [0,1,2] ?_;refine b7 ?_;refine ai rfl ((qt (i:=i) hw aa aa aa).jD ((mC (fV (.refl _))))) (ay rfl (vd (l:=iD k x i) aa rfl ((aM.own (.head _)).part h1) aa) λuu ya=>bc ?_);refine ai rfl ((qt (i:=j) hw aa aa aa).jD ((BQ (fV (fV (.refl _)))))) (ay rfl (vd (l:=iD k x j) aa rfl ((aM.own (.tail _ (.head _))).part h2) aa) λCe KQ=>bK ?_);refine ai rfl ((qt (i:=i) hw aa aa aa).jD ((pu3 (fV (fV (fV (.refl _))))))) (aF ?_);refine mj (sO (i:=i*k) (j:=i*k+k) cB (.tl (.tl .hd)) rfl aa aa rfl (aM.own (.head _)) (ra _)) rfl ?_;rintro _ _ ⟨rfl,rfl⟩;refine ahT (.cons (.cons (az rfl (AS l2) (.refl _)))) ?_;refine bF ?_;refine ai rfl ((qt (i:=j) hw aa aa aa).jD ((pu3 (fV (fV (fV (.refl _))))))) (aF ?_);refine mj (sO (i:=j*k) (j:=j*k+k) cB (.tl (.tl .hd)) rfl aa aa rfl (aM.own (.tail _ (.head _))) (ra _)) rfl ?_;rintro _ _ ⟨rfl,rfl⟩;refine ahT (.cons (.cons (az rfl (AS l1) (.refl _)))) ?_;refine ve [] ?_;refine aF ?_;refine aq (.s2 (.refl _)) (aF ?_);exact⟨rfl,rfl⟩
theorem UF{row:al}{q:Nat}{x:UInt8}(hq:q<E row):((row.map (gm x)).take q++row.drop q).set q (gm x (row.getD q 0))=(row.map (gm x)).take (q+1)++row.drop (q+1):=by
 rw[qa _ _ bT,aY (by simpa using hq) 0,dD hq 0];have e:q-E ((row.map (gm x)).take q)=0:=by simp;omega
 rw[e,List.set_cons_zero,bX];congr 1;simp[ba,hq]
theorem Rt{x:al}{i:Nat}{y:UInt8}(hw:(cs.drop o).take 3=[ah (r:Int),ah (k:Int),.slice A (N*k) c])(hx:E x=N*k)(hN:N<=255)(hi:i<N)(hk:k<=255):
  aZ B w0 333 [.pointer (some ⟨g,o,none⟩),ah (i:Int),.int .u8 (y.toNat:Int)] (.own 5 1 A (N*k) c (bv x):: .bG g bt cs::F) (λv L=>v= .tuple #[]∧L= .own 5 1 A (N*k) c (bv (kA k x i y)):: .bG g bt cs::F):=by
 refine dU.yw (aM.own (.head _)) λnZ _=>?_;have h1:=fW (k:=k) hi;have l1:=eS hx hi;obtain⟨row,Dc⟩:=cK (iD k x i);have hms:kA k x i y=pk k x i (row.map (gm y)):=by rw[Dc];rfl
 have Xk:pk k x i ((row.map (gm y)).take 0++row.drop 0)=x:=by rw[zl,mW,rr,Dc];exact aaR hx hi
 rw[<-Dc]at l1;refine fw func333 29 [0,1,2] ?_;refine bE ?_;refine ai rfl (W1 (rz y)) (bh λg6=>?_);refine lk (oG 256 ag rfl rfl (Fp _ _) aW rfl (CD _)) (bB ?_);refine ai rfl ((qt (i:=i) hw aa aa aa).jD ((BQ (fV (fV (.refl _)))))) (de ?_);refine aD (λzf zL zm=>∃(q:Nat),(q<=k)∧k-q=zm∧Sub zf [(6,br g6),(7,Iu A c (i*k) k),(15,Iu A c (i*k) k),(16,ah ((i*k+k-i*k:Nat):Int)),(17,ah (q:Int))]∧Wk zL (.own 5 1 A (N*k) c (bv (pk k x i ((row.map (gm y)).take q++row.drop q)))::Rwb g6 (zJ y.toNat):: .bG g bt cs::F)) _ ⟨0,bU _,rfl,bp,.trans ((gE (eu (eu (.refl _))))) (az rfl (by rw[Xk]) (.refl _))⟩ ?_;rintro _ _ _ ⟨q,hq,rfl,hs,hp⟩;refine aT hs hp (bB ?_);refine aj (λiC=>?_) λiC=>?_
 ·obtain⟨R,hR⟩:=cK ((row.map (gm y)).take q++row.drop q);have W8:E R=k:=by rw[hR];simp;omega
  have hRm:iD k (pk k x i R) i=R:=aaQ hx hi W8;have Aj:=sg hx hi W8;have tH:=UF (row:=row) (x:=y) (show q<E row by omega);obtain⟨u,hu⟩:=cK (row.getD q 0);have hRq:R.getD q 0=u:=by rw[hR,hu,ba,ba,rX bT,k_7];congr 2;simp;omega
  have rS:aM B w0 (.own 5 1 A (N*k) c (bv (pk k x i R))::Rwb g6 (zJ y.toNat):: .bG g bt cs::F) 1 (Iu A c (i*k) k) (i*k+k-i*k) (bv R):=by
   have:=(aM.own (B:=B) (w0:=w0) (L:=.own 5 1 A (N*k) c (bv (pk k x i R))::Rwb g6 (zJ y.toNat):: .bG g bt cs::F) (.head _)).part h1;rw[show((pk k x i R).drop (i*k)).take k=R from hRm]at this;exact this
  have Av:=rz u;have hrg:(zJ y.toNat).getD u.toNat 0=(((gm y u).toNat:Nat):Int):=by rw[GB Av,iS]
  rw[<-hR,<-hu]at tH;rw[<-hR];refine bI ?_;refine ab (aE (i:=q) (size:=1) underlying27 ag rfl rfl rfl aa rS) rfl (ab (iR ag rfl rS aa) rfl ?_);rw[hRq];refine bK ?_;refine ab (aP (i:=u.toNat) underlying382 ag rfl rfl rfl Av) rfl (ab (fk ag rfl aW (by rw[GC];exact Av)) rfl ?_);rw[hrg];refine ab (aE (i:=q) (size:=1) underlying27 ag rfl rfl rfl aa rS) rfl (lk (HZ (q:=q*1) ag rfl rfl rfl .hd aa (by rw[IX,Aj];omega)) (bI ?_));refine av ⟨_,aa,q+1,aa,rfl,bp,az rfl (by rw[cH q,afu hx hi W8 aa,tH]) (.refl _)⟩
 ·obtain rfl:q=k:=by omega
  have uJ:(row.map (gm y)).take q++row.drop q=row.map (gm y):=by rw[fC bT,Fz aa,gl]
  rw[uJ,<-hms];refine bF ?_;refine aq ((eu (gE (.skip (.refl _))))) (aF ?_);exact⟨rfl,rfl⟩
theorem ahZ{x:al}{i j:Nat}{y:UInt8}(hw:(cs.drop o).take 3=[ah (r:Int),ah (k:Int),.slice A (N*k) c])(hx:E x=N*k)(hN:N<=255)(hi:i<N)(hj:j<N)(hk:k<=255):
  aZ B w0 334 [.pointer (some ⟨g,o,none⟩),ah (i:Int),.int .u8 (y.toNat:Int),ah (j:Int)] (.own 5 1 A (N*k) c (bv x):: .bG g bt cs::F) (λv L=>v= .tuple #[]∧L= .own 5 1 A (N*k) c (bv (se k x i y j)):: .bG g bt cs::F):=by
 refine dU.yw (aM.own (.head _)) λnZ _=>?_;have h1:=fW (k:=k) hi;have h2:=fW (k:=k) hj;have l1:=eS hx hi;have l2:=eS hx hj;have l3:E (rh (iD k x i) y (iD k x j))=k:=by rw[pZ aa];exact l1
 refine fw func334 26 [0,1,2,3] ?_;refine b7 ?_;refine ai rfl ((qt (i:=i) hw aa aa aa).jD ((mC (fV (.refl _))))) (bE ?_);refine ai rfl ((qt (i:=j) hw aa aa aa).jD ((mC (fV (.refl _))))) (ay rfl (W0 (s:=iD k x i) (b:=iD k x j) aa aa aa ((aM.own (.head _)).part h1) ((aM.own (.head _)).part h2) aa) λtP vH=>bI ?_);have l4:E (iD k x i)=E (rh (iD k x i) y (iD k x j)):=by omega
 rw[l4];refine bE ?_;refine ai rfl ((qt (i:=i) hw aa aa aa).jD ((BQ (fV (fV (.refl _)))))) (aF ?_);refine mj (sO (i:=i*k) (j:=i*k+k) cB (.tl .hd) rfl aa aa rfl (aM.own (.head _)) (ra _)) rfl ?_;rintro _ _ ⟨rfl,rfl⟩;refine ahT (.cons (az rfl (AS l3) (.refl _))) ?_;refine ve [] ?_;refine aF ?_;refine aq (.skip (.refl _)) (aF ?_);exact⟨rfl,rfl⟩
abbrev PrB(g:Nat)(A1 A2:bk)(n c1 c2:Nat):Ch:=.bG g 421 [ah (n:Int),ah (n:Int),.slice A1 (n*n) c1,ah (n:Int),ah (n:Int),.slice A2 (n*n) c2]
theorem aa9{k MY f i:Nat}{x:al}(h:fG k x i MY=0):wF k x MY (f+1) i=wF k x MY f (i+1):=by rw[wF,ao h]
theorem aa_{k MY f i:Nat}{x:al}(h:¬fG k x i MY=0):wF k x MY (f+1) i=i:=by rw[wF,aw h]
theorem AZ{n a:Nat}(ha:a<n):∀(f q:Nat) (p:al×al),q+f<=n->E p.1=n*n->E p.2=n*n->E (kS n a f q p).1=n*n∧E (kS n a f q p).2=n*n
 |0,q,p,_,h1,h2=>⟨h1,h2⟩
 |f+1,q,p,hq,h1,h2=>by
  rw[kS];split
  ·exact AZ ha f (q+1) _ aa (sf h1 ha aa) (sf h2 ha aa)
  ·exact AZ ha f (q+1) _ aa h1 h2
theorem SN{n a f q:Nat}{p:al×al}(h:q≠a∧fG n p.1 q a≠0):kS n a (f+1) q p=kS n a f (q+1) (se n p.1 q (fG n p.1 q a) a,se n p.2 q (fG n p.1 q a) a):=by rw[kS,ao h]
theorem ES{n a f q:Nat}{p:al×al}(h:¬(q≠a∧fG n p.1 q a≠0)):kS n a (f+1) q p=kS n a f (q+1) p:=by rw[kS,aw h]
theorem ac9{n a:Nat}{p:al×al}(ha:a<n)(h1:E p.1=n*n)(h2:E p.2=n*n):E (sL n a p).2.1=n*n∧E (sL n a p).2.2=n*n:=by
 unfold sL;split
 ·exact⟨h1,h2⟩
 ·rename_i h;obtain⟨p1,p2,_,_⟩:=sj n p.1 a (n-a) a;have hI:xm n a p<n:=by unfold xm at h⊢;omega
  exact AZ ha n 0 _ aa (nH (pE h1 ha hI) ha) (nH (pE h2 ha hI) ha)
abbrev PrL(g:Nat)(A1 A2:bk)(n c1 c2:Nat)(x y:al)(F:aR):aR:=PrB g A1 A2 n c1 c2:: .own 5 1 A1 (n*n) c1 (bv x):: .own 5 1 A2 (n*n) c2 (bv y)::F
set_option maxHeartbeats 1000000 in
theorem aiQ{a:Nat}{x y:al}(hn:n<=255)(ha:a<n)(hx:E x=n*n)(hy:E y=n*n):
  aZ B w0 312 [br g,ah (a:Int),ah (a:Int)] (PrL g A1 A2 n c1 c2 x y F) (λv L=>v= .bool (sL n a (x,y)).1∧L=PrL g A1 A2 n c1 c2 (sL n a (x,y)).2.1 (sL n a (x,y)).2.2 F):=by
 refine dU.yw (aM.own (.tail _ (.head _))) λnZ _=>?_;have h1:=fW (k:=n) ha;obtain⟨q1,q2,q3,q4⟩:=sj n x a (n-a) a;have hIe:xm n a (x,y)=wF n x a (n-a) a:=rfl;refine fw func312 117 [0,1,2] ?_;refine de ?_;refine dY (λzf zL=>∃(i:Nat),(a<=i∧i<=n∧xm n a (x,y)=i)∧Sub zf [(0,br g),(1,ah (a:Int)),(2,ah (a:Int)),(7,ah (i:Int))]∧Wk zL (PrL g A1 A2 n c1 c2 x y F)) ?_ ?_
 ·refine aF ?_;refine aD (λzf zL zm=>∃(i:Nat),(a<=i∧i<=n∧xm n a (x,y)=wF n x a (n-i) i)∧n-i=zm∧Sub zf [(0,br g),(1,ah (a:Int)),(2,ah (a:Int)),(7,ah (i:Int))]∧Wk zL (PrL g A1 A2 n c1 c2 x y F)) _ ⟨a,⟨gC _,aa,hIe⟩,rfl,bp,.refl _⟩ ?_;rintro _ _ _ ⟨i,⟨hai,hin,hI⟩,rfl,hs,hp⟩;refine aT hs hp ?_;clear hs hp;refine cF ?_;refine cD (λmx=>?_) λmx=>?_
  ·have hri:=fW (k:=n) (show i<n by omega);have hnf:n-i=(n-(i+1))+1:=by omega
   have rS:aM B w0 (PrL g A1 A2 n c1 c2 x y F) 1 (Iu A1 c1 (i*n) n) (i*n+n-i*n) (bv (iD n x i)):=(aM.own (.tail _ (.head _))).part hri;have fL:(iD n x i).getD a 0=fG n x i a:=ko _ _ ha;refine bK ?_;refine ai rfl (qt (i:=i) (o:=0) (r:=n) (n:=n*n) rfl aa aa aa) (bE ?_);refine ab (aE (i:=a) (size:=1) underlying27 ag rfl rfl rfl aa rS) rfl (aF ?_);refine ab (iR ag rfl rS aa) rfl ?_;rw[fL];refine bE ?_;refine ve [0,1,2,7,31] ?_;refine aF ?_;refine aj (λC_=>?_) λC_=>?_
   ·have hz:fG n x i a=0:=oP (by have:=C_;show(fG n x i a).toNat=0;omega);refine bO ?_;refine av ⟨_,aa,i+1,⟨aa,aa,by rw[hI,hnf,aa9 hz]⟩,rfl,bp,.refl _⟩
   ·have hz:¬fG n x i a=0:=λe=>C_ Ea;refine b7 ?_;exact bC ⟨i,⟨aa,aa,by rw[hI,hnf,aa_ hz]⟩,bp,.refl _⟩
  ·have hie:i=n:=by omega
   refine bO ?_;refine ve [0,1,2,7,31] ?_;refine bB ?_;exact bC ⟨i,⟨aa,aa,by rw[hI,hie,oj,wF]⟩,bp,.refl _⟩
 ·rintro _ _ ⟨i,⟨hai,hin,hI⟩,hs,hp⟩;refine aT hs hp ?_;clear hs hp;refine cY ?_;refine aj (λCy=>?_) λCy=>?_
  ·have e:sL n a (x,y)=(false,x,y):=by unfold sL;rw[ao aa]
   refine bK ?_;rw[e];exact⟨rfl,rfl⟩
  ·have hI2:i<n:=by omega
   have e:sL n a (x,y)=(true,St n a (x,y)):=by unfold sL;rw[aw aa]
   have ex:(KT n a (x,y))=(qh n x a i,qh n y a i):=by unfold KT;rw[hI]
   have JD:=pE hx ha hI2;have Pd:=pE hy ha hI2;refine bO ?_;refine ai rfl (.perm (YS (o:=0) (r:=n) (i:=a) (j:=i) (N:=n) (k:=n) rfl hx hn ha hI2 hn) ((mC (fV (.refl _))))) (bO ?_);refine ai rfl (.perm (YS (o:=3) (r:=n) (i:=a) (j:=i) (N:=n) (k:=n) rfl hy hn ha hI2 hn) ((BQ (mC (fV (.refl _)))))) (ve [0,1,2] ?_);refine bc ?_;obtain⟨x1,avr⟩:=cK (qh n x a i);obtain⟨y1,avu⟩:=cK (qh n y a i);rw[<-avr]at JD ex⊢;rw[<-avu]at Pd ex⊢;refine gx ((mC (mC (fV (.refl _))))) ?_;have rS:aM B w0 (PrL g A1 A2 n c1 c2 x1 y1 F) 1 (Iu A1 c1 (a*n) n) (a*n+n-a*n) (bv (iD n x1 a)):=(aM.own (.tail _ (.head _))).part h1;have fL:(iD n x1 a).getD a 0=fG n x1 a a:=ko _ _ ha;obtain⟨y0,hy0⟩:=cK (lj (fG n x1 a a));have avt:rO (fG n x1 a a).toNat=y0.toNat:=by rw[hy0,xr]
   refine bF ?_;refine ai rfl (qt (i:=a) (o:=0) (r:=n) (n:=n*n) rfl aa aa aa) (aF ?_);refine ab (aE (i:=a) (size:=1) underlying27 ag rfl rfl rfl aa rS) rfl (ab (iR ag rfl rS aa) rfl ?_);rw[fL];refine ai rfl (amn (rz (fG n x1 a a))) (bK ?_);rw[avt];refine bB ?_;refine ai rfl (.perm (Rt (o:=0) (r:=n) (i:=a) (y:=y0) (N:=n) (k:=n) rfl JD hn ha hn) ((mC (fV (.refl _))))) (ve [0,1,2,8] ?_);refine bK ?_;refine ai rfl (.perm (Rt (o:=3) (r:=n) (i:=a) (y:=y0) (N:=n) (k:=n) rfl Pd hn ha hn) ((BQ (mC (fV (.refl _)))))) (b7 ?_);refine gx ((mC (mC (fV (.refl _))))) ?_;have hs:apr n a (KT n a (x,y))=(kA n x1 a y0,kA n y1 a y0):=by rw[ex,hy0];rfl
   have hc3:St n a (x,y)=kS n a n 0 (kA n x1 a y0,kA n y1 a y0):=by unfold St;rw[hs]
   have Xl:=nH (c:=y0) JD ha;have TA:=nH (c:=y0) Pd ha;rw[hc3]at e;refine de ?_;refine aD (λzf zL zm=>∃(q:Nat) (X Y:al),(q<=n∧E X=n*n∧E Y=n*n∧sL n a (x,y)=(true,kS n a (n-q) q (X,Y)))∧n-q=zm∧Sub zf [(0,br g),(1,ah (a:Int)),(2,ah (a:Int)),(83,ah (n:Int)),(84,ah (q:Int))]∧Wk zL (PrL g A1 A2 n c1 c2 X Y F)) _ ⟨0,kA n x1 a y0,kA n y1 a y0,⟨bU _,Xl,TA,e⟩,rfl,bp,.refl _⟩ ?_;rintro _ _ _ ⟨q,X,Y,⟨hq,hX,hY,hE⟩,rfl,hs,hp⟩;refine aT hs hp ?_;clear hs hp;refine bB ?_;refine aj (λh85=>?_) λh85=>?_
   ·have hrq:=fW (k:=n) (show q<n by omega);have hnf:n-q=(n-(q+1))+1:=by omega
    have aeI:aM B w0 (PrL g A1 A2 n c1 c2 X Y F) 1 (Iu A1 c1 (q*n) n) (q*n+n-q*n) (bv (iD n X q)):=(aM.own (.tail _ (.head _))).part hrq;have aer:(iD n X q).getD a 0=fG n X q a:=ko _ _ ha;obtain⟨d,hd⟩:=cK (fG n X q a);rw[<-hd]at aer;refine jG ?_;refine ai rfl (qt (i:=q) (o:=0) (r:=n) (n:=n*n) rfl aa aa aa) (aF ?_);refine ab (aE (i:=a) (size:=1) underlying27 ag rfl rfl rfl aa aeI) rfl (ab (iR ag rfl aeI aa) rfl ?_);rw[aer];refine bO ?_;refine cD (λh98=>?_) λh98=>?_
    ·refine bB ?_;refine aj (λajr=>?_) λajr=>?_
     ·have tH:kS n a (n-q) q (X,Y)=kS n a (n-(q+1)) (q+1) (se n X q d a,se n Y q d a):=by
       rw[hnf,SN ⟨aa,λk=>ajr (by rw[hd];show((fG n X q a).toNat:Int)=0;rw[show fG n X q a=0 from k];rfl)⟩];show kS n a _ _ (se n X q (fG n X q a) a,se n Y q (fG n X q a) a)=_;rw[<-hd]
      have hX2:=sf (c:=d) hX ha (show q<n by omega);have hY2:=sf (c:=d) hY ha (show q<n by omega);refine bK ?_;refine ai rfl (.perm (ahZ (o:=0) (r:=n) (i:=q) (j:=a) (y:=d) (N:=n) (k:=n) rfl hX hn aa ha hn) ((mC (fV (.refl _))))) (ve [0,1,2,10,11,83,84] ?_);refine bK ?_;refine ai rfl (.perm (ahZ (o:=3) (r:=n) (i:=q) (j:=a) (y:=d) (N:=n) (k:=n) rfl hY hn aa ha hn) ((BQ (mC (fV (.refl _)))))) (bI ?_);refine av ⟨_,aa,q+1,se n X q d a,se n Y q d a,⟨aa,hX2,hY2,by rw[hE,tH]⟩,rfl,bp,(gE (gE (eu (.refl _))))⟩
     ·have tH:kS n a (n-q) q (X,Y)=kS n a (n-(q+1)) (q+1) (X,Y):=by
       rw[hnf,ES (λk=>k.2 (by rw[<-hd];exact oP (by show d.toNat=0;omega)))]
      refine bB ?_;refine ve [0,1,2,83,84] ?_;refine av ⟨_,aa,q+1,X,Y,⟨aa,hX,hY,by rw[hE,tH]⟩,rfl,bp,.refl _⟩
    ·have tH:kS n a (n-q) q (X,Y)=kS n a (n-(q+1)) (q+1) (X,Y):=by
      rw[hnf,ES (λk=>k.1 aa)]
     refine de ?_;refine ve [0,1,2,83,84] ?_;refine av ⟨_,aa,q+1,X,Y,⟨aa,hX,hY,by rw[hE,tH]⟩,rfl,bp,.refl _⟩
   ·obtain rfl:q=n:=by omega
    rw[oj,kS]at hE;refine cF ?_;rw[hE];exact⟨rfl,rfl⟩
theorem acb{x:al}(hn:n<=255)(hx:E x=n*n)(hb:aM B w0 F 1 (.slice A (n*n) c) (n*n) (bv x)):
  aZ B w0 311 [wx A n n (n*n) c] F (λv L=>∃g A1 c1 A2 c2,v=br g∧L=PrL g A1 A2 n c1 c2 x (Pe n) F):=by
 have RS:n*n<=255*255:=gU hn hn;refine b_ func311 17 rfl rfl rfl [(0,.agg #[ah (n:Int),ah (n:Int),.slice A (n*n) c])] ⟨⟨rfl,rfl⟩,trivial⟩ ?_;refine bc ?_;refine bg λg1=>?_;refine bI ?_;refine ay rfl (vd (l:=x) hx.symm rfl hb.cons aa) λA5 c5=>bF ?_;rw[hx];refine gx ((mC (fV (.refl _)))) ?_;refine cE (D4 g1 A5 n n (n*n) c5:: .own 5 1 A5 (n*n) c5 (bv x)::F) ?_;refine ae 0 ?_;refine aU 1 rfl (eZ [(0,_)] [_,_,_] rfl rfl ag) (ae 2 ?_);refine ae 3 ?_;refine ae 4 ?_;refine ae 5 ?_;refine aA 6 (b8 rfl rfl (TZ (Q:=[]) (cap:=[]) (λi j=>if i=j then 1 else 0) hn hn al5 (Pp _) (λi j L _ _ _=>PV i j)) λx9 Hm=>aU 7 rfl (eZ [(0,_)] [_,_,_] rfl rfl ag) (aU 8 rfl (eZ [(0,_),(1,_)] [_,_,_,_,_,_] rfl rfl ag) (aA 9 (cX rfl (WI rfl rfl) λg16=>ae 10 ?_))));refine cP [2] ?_;refine bc ?_;refine aq ((eu (sE (eu (.skip (.refl _)))))) (aF ?_);exact⟨g16,A5,c5,x9,Hm,rfl,rfl⟩
theorem aas{n f i:Nat}{p:al×al}(h:(sL n i p).1=true):Fq n (f+1) i p=Fq n f (i+1) (sL n i p).2:=by rw[Fq,ao h]
theorem aar{n f i:Nat}{p:al×al}(h:¬(sL n i p).1=true):Fq n (f+1) i p=none:=by rw[Fq,aw h]
theorem aat{x b:al}(hn:n<=255)(hx:E x=n*n)(hi:ajR n x=some b)(hb:aM B w0 F 1 (.slice A (n*n) c) (n*n) (bv x)):
  aZ B w0 279 [wx A n n (n*n) c] F (λv L=>∃A' c',v= .tuple #[wx A' n n (n*n) c',ah 0]∧L= .own 5 1 A' (n*n) c' (bv b)::F):=by
 refine b_ func279 36 rfl rfl rfl [(0,.agg #[ah (n:Int),ah (n:Int),.slice A (n*n) c])] ⟨⟨rfl,rfl⟩,trivial⟩ ?_;refine bc ?_;refine bg λg1=>?_;refine bh λg2=>?_;refine bI ?_;refine ai rfl (zx hn hn rfl) (jt ?_);refine dw λkF=>?_;refine bF ?_;refine be arD rfl (acb hn hx hb.cons.cons) rfl ?_;rintro _ _ ⟨gp,Ax,cx,Ay,cy,rfl,cO⟩;obtain rfl:=cO.symm;refine cF ?_;refine aD (λzf zL zm=>∃(i:Nat) (p:al×al),(i<=n∧E p.1=n*n∧E p.2=n*n∧(Fq n (n-i) i p).map (·.2)=some b)∧n-i=zm∧Sub zf [(2,br g2),(4,br gp),(20,ah (n:Int)),(21,ah (i:Int))]∧Wk zL (PrL gp Ax Ay n cx cy p.1 p.2 (.bG g2 272 [ah 0,ah 0,.slice none 0 0]::D4 g1 A n n (n*n) c::F))) _ ⟨0,(x,Pe n),⟨bU _,hx,Xm n,hi⟩,rfl,bp,.refl _⟩ ?_;rintro _ _ _ ⟨i,p,⟨hin,CC,hp2,hI⟩,rfl,hs,hp⟩;refine aT hs hp (bB ?_);refine aj (λrm=>?_) λrm=>?_
 ·have hnf:n-i=(n-(i+1))+1:=by omega
  have uh:=ac9 (p:=p) (show i<n by omega) CC hp2;refine jt ?_;refine ai rfl (aiQ (x:=p.1) (y:=p.2) hn aa CC hp2) (ab (jm rfl) rfl (bc ?_));refine iH (λrn=>?_) λrn=>?_
  ·exfalso;(rw[hnf,aar (by simpa using rn)]at hI;simp at hI)
  ·rw[hnf,aas (by simpa using rn)]at hI;refine bI ?_;refine av ⟨_,aa,i+1,(sL n i p).2,⟨aa,uh.1,uh.2,hI⟩,rfl,bp,.refl _⟩
 ·obtain rfl:i=n:=by omega
  have M5:p.2=b:=by
   rw[oj,Fq]at hI;exact PD hI
  rw[M5];refine de ?_;refine ab (bP 3 ag rfl aW [ah (i:Int),ah (i:Int),.slice Ay (i*i) cy] rfl rfl) rfl (bF ?_);refine iK rfl rfl ag aW gV rfl ((sE (.s4 (.refl _)))) ?_;exact⟨Ay,cy,rfl,rfl⟩
section
theorem EB{C:Cx}{fr:Fr}{L:aR}{x:Operand}{ty t e:TypeId}{A:bk}{n c:Nat}(ht:C.P.underlying t=some (.slice e))(h:ev fr x=some (.slice A n c)):gR C fr L (.call {callee:=.builtin .cap,args:= #[x],argTypes:= #[t]}) ty (ah (c:Int)):=λa w ha hw d pos af g=>by
 simp[execOp,resolve,invoke,builtin,Builtin.cap_,ha.tmp h,jk ht,goInt]
theorem adz{C:Cx}{fr:Fr}{L:aR}{x y:Operand}{ty t xt e:TypeId}{size bytes m:Nat}{zv:Value}{k kn:IntKind}(T:tA C.P t e size bytes zv)(hx:C.P.underlying xt=some (.int kn))(he:ev fr x=some (.slice none 0 0))(hy:ev fr y=some (.int k (m:Int)))(hm:0<m)(hs:0<size)(hb:m*bytes<=140737488355328)(yd:m<=140737488355328):
  q8 C fr L (.call {callee:=.builtin .append,args:= #[x,y],argTypes:= #[t,xt]}) ty (λp L'=>∃A c,p= .slice A m c∧L'= .own e size A 0 c []::L):=λa w ha hw d pos af gg=>by
 obtain⟨i,hi,hz,jg,Fc⟩:=T.hi;have hr:=Lib.run_append_nil_zeros (P:=C.P) w t xt ty e i zv k kn T.ht hx hi hz m hm aa aa (by rw[Fc];omega);have xx:=grownCap_ge w m 0 e;have hle:=grownCap_le_maxLen w m 0 e Cl;have Xc:∀(o:Obj) (row:Option Nat),w.grownBy (w.drew.alloc o) row:=λo row=>⟨rfl,rfl,rfl,ak,λk hk _=>heap_alloc_old w.drew o hk⟩
 refine⟨_,w.drew.alloc (.cells (Builtin.zeroCells zv.cells m++Builtin.zeroCells zv.cells (grownCap w m 0 e-m)) e),_,.inl ?_,⟨some ⟨w.heap.size,0,none⟩,grownCap w m 0 e,rfl,rfl⟩,hw.gT (Xc _ none) ⟨ak,bU _,.inr ⟨w.heap.size,_,rfl,hw.base,FD w.drew _,hle,?_,ak⟩⟩ (.inr ⟨w.heap.size,by simp[Ch.fp];omega,gC _⟩)⟩
 ·simp[execOp,resolve,invoke,builtin,ha.tmp he,ha.tmp hy,hr]
 ·simp only[Array.size_append,size_zeroCells,T.hz,<-kz];congr 1;omega
variable{B:Nat}{w0:World}{F L0:aR}{A A1 A2 Ao:bk}{n c c1 c2 co g gc r k m N:Nat}
theorem aku(m:Nat)(h0:0<m)(hn:m<=1000000):
  aZ B w0 313 [.slice none 0 0,ah m] F (λr L=>∃A' c',r= .slice A' 0 c'∧L= .own 27 1 A' 0 c' []::F):=by
 refine fw func313 27 [0,1] ?_;refine cF ?_;refine dw λh6=>?_;refine bI ?_;refine ab (EB underlying52 rfl) rfl (bE ?_);refine ab (dC rfl rfl (r:=(m:Int)) ((bq aa aa).trans aa)) rfl (bO ?_);refine Bf λlf=>?_;refine bE ?_;refine ab (EB underlying52 rfl) rfl (ab (bV (i:=0) (size:=1) underlying52 ag rfl rfl rfl aa) rfl (aF ?_));refine fK (adz (m:=m) fQ underlying3 rfl rfl h0 aa aa aa) λVz Ho=>bc ?_;refine ab (bV (i:=0) (size:=1) underlying52 ag rfl rfl rfl aa) rfl (aF ?_);refine ve [0] ?_;refine bO ?_;exact⟨Vz,Ho,rfl,rfl⟩
theorem aa8{n1 n2:Nat}{V1 V2:cZ}(hr:aM B w0 F 1 (.slice A 2 c) 2 [.slice A1 n1 c1,.slice A2 n2 c2])(h1:aM B w0 F 1 (.slice A1 n1 c1) n1 V1)(h2:aM B w0 F 1 (.slice A2 n2 c2) n2 V2)(k1:∀u∈V1,u.oneCell'=true)(k2:∀u∈V2,u.oneCell'=true)(h0:0<n1)(hn1:n1<=10000)(uK:n2<=10000):
  aZ B w0 280 [.slice A 2 c] F (λr L=>∃A' c',r= .slice A' (n1+n2) c'∧L= .own 27 1 A' (n1+n2) c' (V1++V2)::F):=by
 refine fw func280 36 [0] ?_;refine Bh ?_;refine aD (λzf zL zm=>∃(i q:Nat),((i=0∧q=0)∨(i=1∧q=n1)∨(i=2∧q=n1+n2))∧2-i=zm∧Sub zf [(0,.slice A 2 c),(3,ah (q:Int)),(9,.slice A 2 c),(10,ah 2),(11,ah (i:Int))]∧Wk zL (F)) _ ⟨0,0,.inl ⟨rfl,rfl⟩,rfl,bp,.refl _⟩ ?_;rintro _ _ _ ⟨i,q,kN,rfl,hs,hp⟩;refine aT hs hp (bB ?_);refine aj (λnY=>?_) λnY=>?_
 ·obtain⟨Ai,ni,ci,fL,hni⟩:∃(Ai:bk) (ni ci:Nat),([.slice A1 n1 c1,.slice A2 n2 c2]:cZ)[i*1]? =some (.slice Ai ni ci)∧ni=(if i=0 then n1 else n2):=by
   have:i=0∨i=1:=by omega
   rcases this with rfl|rfl
   ·exact⟨A1,n1,c1,rfl,rfl⟩
   ·exact⟨A2,n2,c2,rfl,rfl⟩
  have awo:ni<=10000:=by rw[hni];split<;>omega
  refine bI ?_;refine ab (au ag rfl aB aa fL) rfl ?_;refine bK ?_;refine ab (bJ rfl rfl (r:=((q+ni:Nat):Int)) ((bq aa aa).trans aa)) rfl ?_;refine bO ?_;refine dw λju=>?_;refine bI ?_;refine av ⟨_,aa,i+1,q+ni,(by
   rcases kN with h|h|h
   ·rw[ao h.1]at hni;exact .inr (.inl ⟨aa,aa⟩)
   ·rw[aw aa]at hni;exact .inr (.inr ⟨aa,aa⟩)
   ·omega),rfl,bp,.refl _⟩
 ·obtain rfl:q=n1+n2:=by omega
  refine bK ?_;refine ay rfl (aku (n1+n2) aa aa) λAD Dr=>cF ?_;refine aD (λzf zL zm=>∃(i q:Nat) (A':bk) (c':Nat) (acc:cZ),((i=0∧q=0∧acc=[])∨(i=1∧q=n1∧acc=V1)∨(i=2∧q=n1+n2∧acc=V1++V2))∧2-i=zm∧Sub zf [(6,.slice A' q c'),(25,.slice A 2 c),(26,ah 2),(27,ah (i:Int))]∧Wk zL (.own 27 1 A' q c' acc::F)) _ ⟨0,0,AD,Dr,[],.inl ⟨rfl,rfl,rfl⟩,rfl,bp,.refl _⟩ ?_;rintro _ _ _ ⟨i,q,A',c',acc,asB,rfl,hs,hp⟩;refine aT hs hp (bB ?_);refine aj (λrn=>?_) λrn=>?_
  ·obtain⟨Ai,ni,ci,V,fL,hV,hb,hk,hni,hVe⟩:∃(Ai:bk) (ni ci:Nat) (V:cZ),([.slice A1 n1 c1,.slice A2 n2 c2]:cZ)[i*1]? =some (.slice Ai ni ci)∧V=(if i=0 then V1 else V2)∧aM B w0 F 1 (.slice Ai ni ci) ni V∧(∀u∈V,u.oneCell'=true)∧ni=(if i=0 then n1 else n2)∧ni<=10000:=by
    have:i=0∨i=1:=by omega
    rcases this with rfl|rfl
    ·exact⟨A1,n1,c1,V1,rfl,rfl,h1,k1,rfl,hn1⟩
    ·exact⟨A2,n2,c2,V2,rfl,rfl,h2,k2,rfl,uK⟩
   refine bI ?_;refine ab (au ag rfl aB aa fL) rfl ?_;refine bB ?_;refine fK (bW fQ rfl aW rfl (hb.cons) hk aa aa) λRw c33=>?_;refine bK ?_;refine av ⟨_,aa,i+1,q+ni,Rw,c33,acc++V,(by
    rcases asB with h|h|h
    ·rw[ao h.1]at hni hV;rw[hV,h.2.2];exact .inr (.inl ⟨aa,aa,rfl⟩)
    ·rw[aw aa]at hni hV;rw[hV,h.2.2];exact .inr (.inr ⟨aa,aa,rfl⟩)
    ·omega),rfl,bp,.refl _⟩
  ·obtain⟨rfl,mc⟩:q=n1+n2∧acc=V1++V2:=by
    rcases asB with h|h|h
    ·omega
    ·omega
    ·exact⟨h.2.1,h.2.2⟩
   subst mc;refine cY ?_;exact⟨A',c',rfl,rfl⟩
theorem Yb(hk:1<=k)(vS:k+m<=255):aZ B w0 189 [ah (k:Int),ah (m:Int)] F (λv L=>v= .bool true∧L=F):=by
 refine fw func189 25 [0,1] ?_;refine bz ?_;refine cD (λh7=>?_) λh7=>?_
 ·refine bF ?_;refine cD (λpg=>?_) λpg=>?_
  ·refine bF ?_;refine cD (λkF=>?_) λkF=>?_
   ·refine bF ?_;refine cD (λoI=>?_) λoI=>?_
    ·refine bO ?_;refine ve [4] ?_;refine bE ?_;exact⟨acL,rfl⟩
    ·exfalso;omega
   ·exfalso;omega
  ·exfalso;omega
 ·exfalso;omega
abbrev jl:lu:=(none,0,[])
theorem Ip{PB:List lu}{i:Nat}(h:i<E PB):(PB.map dy)[i*1]? =some (dy (PB.getD i jl)):=by
 simp[ba,fc h]
theorem Gc{PB:List lu}{i:Nat}:(PB.map (·.2.2)).getD i []=(PB.getD i jl).2.2:=by
 simp only[ba,jw];cases PB[i]? <;>rfl
theorem phd{PB:List lu}:Jq (PB.map (·.2.2))=E (PB.getD 0 jl).2.2:=by
 cases PB<;>rfl
theorem Gn{PB:List lu}:∀u∈PB.map dy,u.oneCell'=true:=λu hu=>by
 obtain⟨e,_,rfl⟩:=pC.1 hu;rfl
theorem J'{PB:List lu}(hb:aM B w0 F 1 (.slice A (E PB) c) (E PB) (PB.map dy))(hl:E PB<=1000000):
  aZ B w0 190 [.slice A (E PB) c] F (λv L=>v= .bool (decide (sG (PB.map (·.2.2))))∧L=F):=by
 refine fw func190 19 [0] ?_;refine ei ?_;refine aD (λzf zL zm=>∃(i:Nat),(i<=E PB∧∀j,j<i->E (PB.getD j jl).2.2=E (PB.getD 0 jl).2.2)∧E PB-i=zm∧Sub zf [(0,.slice A (E PB) c),(5,.slice A (E PB) c),(6,ah (E PB)),(7,ah (i:Int))]∧Wk zL (F)) _ ⟨0,⟨bU _,λj hj=>aa⟩,rfl,bp,.refl _⟩ ?_;rintro _ _ _ ⟨i,⟨hi,Hu⟩,rfl,hs,hp⟩;refine aT hs hp ?_;clear hs hp;refine bB ?_;refine aj (λh8=>?_) λh8=>?_
 ·have hg:=Ip (PB:=PB) (i:=i) aa;have hg0:=Ip (PB:=PB) (i:=0) aa;have qz:=bj (l:=PB) (show i<E PB by omega) jl;refine bI ?_;refine ab (au ag rfl aB aa hg) rfl (bK ?_);refine ab (aE (i:=0) (size:=1) underlying52 ag rfl rfl rfl aa aB) rfl ?_;refine ab (au ag rfl aB aa hg0) rfl (b7 ?_);refine aj (λiI=>?_) λiI=>?_
  ·refine cF ?_;have hn:¬sG (PB.map (·.2.2)):=λk=>by
    have:=k _ (jy (f:=λe:lu=>e.2.2) qz);rw[phd]at this;exact iI aa
   exact⟨by rw[oq hn],rfl⟩
  ·refine bI ?_;refine av ⟨_,aa,i+1,⟨aa,λj hj=>by
    by_cases e:j=i
    ·subst e;omega
    ·exact Hu j aa⟩,rfl,bp,.refl _⟩
 ·refine cF ?_;have hp:sG (PB.map (·.2.2)):=λb pB=>by
   obtain⟨e,he,rfl⟩:=pC.1 pB;obtain⟨j,hj,rfl⟩:=ke he;have:=Hu j aa;rw[phd,<-this,ba,fc hj];rfl
  exact⟨by rw[oK hp],rfl⟩
theorem Cd{α β:Type}:∀(a:List α) (b:List β) (i:Nat),(a.take i).zip (b.take i)=(a.zip b).take i
 |_,_,0=>by simp
 |[],_,_+1=>by simp
 |_::_,[],_+1=>by simp
 |x::a,y::b,i+1=>by simp[Cd a b i]
theorem abJ{n:Nat}{row:al}{data:ew}{j:Nat}(h1:j<E row)(h2:j<E data):
  xV n (row.take (j+1)) (data.take (j+1))=if row.getD j 0=0 then xV n (row.take j) (data.take j) else rh (xV n (row.take j) (data.take j)) (row.getD j 0) (data.getD j []):=by
 unfold xV;rw[Cd,Cd,aY bT ((0:UInt8),([]:al)),List.foldl_append];have e:(row.zip data).getD j ((0:UInt8),([]:al))=(row.getD j 0,data.getD j []):=by
  simp[ba,fc (show j<E (row.zip data) by simp;omega),fc h1,fc h2]
 rw[e];rfl
def PtA(l:ew)(e:Option Int)(F:aR)(v:Value)(L:aR):Prop:=
 ∃(A':bk) (c':Nat) (FB:List lu),v=(match e with|some x=>.tuple #[.slice A' (E FB) c',ah x]|none=>.slice A' (E FB) c')∧L= .own 27 1 A' (E FB) c' (FB.map dy)::(FB.map fE++F)∧FB.map (·.2.2)=l
theorem aps{FB:List lu}{r i:Nat}{v:Value}(h:E FB=i)(hi:i<r):(FB.map dy++List.replicate (r-i) (Value.slice none 0 0)).set (i*1) v=FB.map dy++(v::List.replicate (r-(i+1)) (Value.slice none 0 0)):=by
 subst h;rw[show r-E FB=(r-(E FB+1))+1 by omega,Bt,cH,qa _ _ ak];simp
theorem Kb{PB:List lu}{cells:al}{nn:Nat}(hk:E PB=k)(yf:1<=k)(hr:r<=255)(Jw:k<=255)(uh:E cells=r*k)(RS:nn<=1000000000)(Jy:∀e∈PB,E e.2.2=nn)(hc:aM B w0 F 1 (.slice A (r*k) c) (r*k) (bv cells))(hb:aM B w0 F 1 (.slice A2 (E PB) c2) (E PB) (PB.map dy))(hP:∀e∈PB,aM B w0 F 1 (dy e) (E e.2.2) (bv e.2.2)):
  aZ B w0 192 [wx A r k (r*k) c,.slice A2 (E PB) c2] F (PtA (Q4 r k cells (PB.map (·.2.2)) nn) none F):=by
 have hg0:=Ip (PB:=PB) (i:=0) aa;have hl0:E (PB.getD 0 jl).2.2=nn:=Jy _ (bj aa jl);obtain⟨P0,hP0⟩:=cK (PB.getD 0 jl);rw[<-hP0]at hg0 hl0;refine b_ func192 57 rfl rfl rfl [(0,.agg #[ah (r:Int),ah (k:Int),.slice A (r*k) c]),(1,.slice A2 (E PB) c2)] ⟨⟨rfl,rfl⟩,⟨rfl,rfl⟩,trivial⟩ ?_;refine bc ?_;refine bg λg2=>?_;refine bI ?_;refine cC (ft (nn:=r) (cc:=r) fQ rfl rfl rfl rfl rfl aa aa aa) λx9=>cF ?_;refine aD (λzf zL zm=>∃(i:Nat) (FB:List lu),(i<=r∧E FB=i∧FB.map (·.2.2)=(Q4 r k cells (PB.map (·.2.2)) nn).take i)∧r-i=zm∧Sub zf [(1,.slice A2 (E PB) c2),(2,br g2),(5,.slice x9 r r),(15,ah r),(16,ah (i:Int))]∧Wk zL (.own 27 1 x9 r r (FB.map dy++List.replicate (r-i) (.slice none 0 0))::D4 g2 A r k (r*k) c::(FB.map fE++F))) _ ⟨0,[],⟨bU _,rfl,rfl⟩,rfl,bp,.refl _⟩ ?_;rintro _ _ _ ⟨i,FB,⟨hi,S7,tG⟩,rfl,hs,hp⟩;refine aT hs hp (bB ?_);refine aj (λiI=>?_) λiI=>?_
 ·have Dc:=eS uh (show i<r by omega);have hrl:=fW (k:=k) (show i<r by omega);have hrk:r*k<=255*255:=gU hr Jw;have hbF:aM B w0 (FB.map fE++F) 1 (.slice A2 (E PB) c2) (E PB) (PB.map dy):=hb.mono (gL _ _);have hcF:aM B w0 (FB.map fE++F) 1 (.slice A (r*k) c) (r*k) (bv cells):=hc.mono (gL _ _);refine cY ?_;refine ab (aE (i:=0) (size:=1) underlying52 ag rfl rfl rfl aa hbF.cons.cons) rfl (ab (au ag rfl hbF.cons.cons aa hg0) rfl (aF ?_));refine cC (ft cB rfl rfl rfl rfl rfl aa aa aa) λA23=>?_;rw[hl0];have aom:E (List.replicate nn (0:UInt8))=nn:=by simp
  refine cF ?_;refine aD (λzf zL zm=>∃(j:Nat) (As:bk) (cs:Nat) (S:al),(j<=k∧E S=nn∧S=xV nn ((iD k cells i).take j) ((PB.map (·.2.2)).take j))∧k-j=zm∧Sub zf [(1,.slice A2 (E PB) c2),(2,br g2),(5,.slice x9 r r),(6,ah (i:Int)),(7,.slice As (E S) cs),(15,ah r),(16,ah (i:Int)),(24,.slice A2 (E PB) c2),(25,ah (E PB)),(26,ah (j:Int))]∧Wk zL (fE (As,cs,S):: .own 27 1 x9 r r (FB.map dy++List.replicate (r-i) (.slice none 0 0))::D4 g2 A r k (r*k) c::(FB.map fE++F))) _ ⟨0,A23,nn,List.replicate nn 0,⟨bU _,ak,by simp[xV]⟩,rfl,bp,az ak Co (.refl _)⟩ ?_;rintro _ _ _ ⟨j,As,cs,S,⟨hj,Z',hS⟩,rfl,hs,hp⟩;refine aT hs hp (bB ?_);refine aj (λkG=>?_) λkG=>?_
  ·have hg:=Ip (PB:=PB) (i:=j) aa;have qz:=bj (l:=PB) (show j<E PB by omega) jl;have hTs:=abJ (n:=nn) (row:=iD k cells i) (data:=PB.map (·.2.2)) (j:=j) aa bT;rw[ko _ _ aa,Gc,<-hS]at hTs;obtain⟨P,hPe⟩:=cK (PB.getD j jl);rw[<-hPe]at hg qz hTs;have hlP:=Jy P qz;have hbP:aM B w0 (FB.map fE++F) 1 (dy P) (E P.2.2) (bv P.2.2):=(hP P qz).mono (gL _ _);obtain⟨x,hx⟩:=cK (fG k cells i j);have Xl:cells.getD (i*k+j) 0=x:=hx.symm;have Jv:i*k+j<r*k:=by omega
   rw[<-hx]at hTs;refine bK ?_;refine ab (au ag rfl hbF.cons.cons.cons aa hg) rfl (de ?_);refine ab (eH rfl rfl (r:=((i*k:Nat):Int)) (FZ aa aa)) rfl (aF ?_);refine ab (bJ rfl rfl (r:=((i*k+j:Nat):Int)) ((bq aa aa).trans aa)) rfl (ab (aE (i:=i*k+j) (size:=1) underlying27 ag rfl rfl rfl Jv hcF.cons.cons.cons) rfl (ab (iR ag rfl hcF.cons.cons.cons Jv) rfl ?_));rw[Xl];refine bO ?_;refine aj (λh42=>?_) λh42=>?_
   ·have Xk:¬x=0:=λe=>h42 Ea;rw[aw Xk]at hTs;have DC:E (rh S x P.2.2)=E S:=pZ aa;refine b7 ?_;refine ay rfl (W0 (s:=S) (b:=P.2.2) rfl rfl aa (aM.own (.head _)) hbP.cons.cons.cons aa) λA47 c47=>b7 ?_;refine ve [1,2,5,6,7,15,16,24,25,26] ?_;refine bB ?_;refine av ⟨_,aa,j+1,A47,c47,rh S x P.2.2,⟨aa,aa,hTs.symm⟩,rfl,bp,.trans ((eu (gE (gE (.skip (.refl _)))))) (az DC.symm rfl (.refl _))⟩
   ·have Xk:x=0:=oP (by show x.toNat=0;omega);rw[ao Xk]at hTs;refine bB ?_;refine ve [1,2,5,6,7,15,16,24,25,26] ?_;refine av ⟨_,aa,j+1,As,cs,S,⟨aa,Z',hTs.symm⟩,rfl,bp,.refl _⟩
  ·obtain rfl:j=E PB:=by omega
   have OY:S=xV nn (iD k cells i) (PB.map (·.2.2)):=by rw[hS,fC aa,fC ak]
   have hts:(Q4 r k cells (PB.map (·.2.2)) nn).take (i+1)=(Q4 r k cells (PB.map (·.2.2)) nn).take i++[S]:=by
    rw[aY (by rw[ld];omega) [],OY];congr 2;unfold Q4;rw[ba,jw,w4 aa];rfl
   refine bO ?_;refine ab (aE (i:=i) (size:=1) underlying52 ag rfl rfl rfl aa (aM.own (.tail _ (.head _)))) rfl (lk (ia ag rfl rfl rfl aW bT) (bI ?_));refine av ⟨_,aa,i+1,FB++[((As,cs,S):lu)],⟨aa,bT,by rw[jx,tG,hts];rfl⟩,rfl,bp,.trans (q7 (e:=((As,cs,S):lu)) [.own 27 1 x9 r r _,D4 g2 A r k (r*k) c]) (az rfl (by rw[aps S7 aa];simp) (.refl _))⟩
 ·obtain rfl:i=r:=by omega
  rw[fC (by rw[ld];omega)]at tG;refine cF ?_;refine aq (L':=.own 27 1 x9 (E FB) i (FB.map dy)::(FB.map fE++F)) (az S7.symm ak (.skip (.refl _))) (aF ?_);exact⟨x9,i,FB,by rw[S7],rfl,tG⟩
theorem Qe{PB:List lu}{nn:Nat}(hk:E PB=k)(yf:1<=k)(vS:k+m<=255)(RS:nn<=1000000000)(Jy:∀e∈PB,E e.2.2=nn)(hb:aM B w0 F 1 (.slice A2 (E PB) c2) (E PB) (PB.map dy))(hP:∀e∈PB,aM B w0 F 1 (dy e) (E e.2.2) (bv e.2.2)):
  aZ B w0 122 [ah (m:Int),.slice A2 (E PB) c2] F (PtA (par m (PB.map (·.2.2))) (some 0) F):=by
 have Hu:sG (PB.map (·.2.2)):=λb pB=>by
  obtain⟨e,he,rfl⟩:=pC.1 pB;rw[phd,Jy e he,Jy _ (bj aa jl)]
 have avc:par m (PB.map (·.2.2))=Q4 m k (HI k m) (PB.map (·.2.2)) nn:=by
  unfold par;rw[phd,Jy _ (bj aa jl),dX,hk]
 subst hk;rw[avc];refine fw func122 28 [0,1] ?_;refine cF ?_;refine ai rfl (Yb yf vS) (bF ?_);refine ai rfl (J' hb aa) (bF ?_);refine aj (λiI=>?_) λiI=>?_
 ·exfalso;exact iI Hu
 ·refine bI ?_;refine ay rfl (NU vS) λVz Ho=>bE ?_;refine bh λg6=>?_;refine bc ?_;refine ve [1,6] ?_;refine bF ?_;refine be alZ rfl (Kb (cells:=HI (E PB) m) rfl yf aa aa (Ek _ _) RS Jy (aM.own (.tail _ (.head _))) hb.cons.cons (λe he=>(hP e he).cons.cons)) rfl ?_;rintro _ _ ⟨Iy,NR,FB,rfl,cO,tG⟩;obtain rfl:=cO.symm;refine bF ?_;refine aq (.cons (MJ (.s2 (.refl _)) _)) (aF ?_);exact⟨Iy,NR,FB,rfl,rfl,tG⟩
end
section
theorem pU{C:Cx}{fr:Fr}{L:aR}{x:Operand}{ty t:TypeId}{fs:Array Field}{i j:Nat}{fd:Field}{ad:Addr}(ht:C.P.underlying t=some (.struct fs))(hf:fs[i]? =some fd)(hz:CA C.P fd.type=true)(he:ev fr x=some (.pointer ((some ad).map (·.add j)))){q:Nat}(hq:fd.offset=q):
  gR C fr L (.fieldAddr t x i) ty (.pointer ((some ad).map (λad=>(ad.add j).add q))):=by
 unfold CA at hz;cases hi:C.P.info? fd.type with
 |none=>rw[hi]at hz;cases hz
 |some f=>
  rw[hi]at hz;have h0:0<f.size:=by simpa[Nat.blt_eq]using hz
  have wC:(C.P.info? fd.type).map (·.size)=some ((f.size-1)+1):=by rw[hi];simp;omega
  intro a w ha hw d pos af gg;subst hq;simp[execOp,Instr.fieldAt,Instr.sureAddr,fieldPlace,ha.tmp he,jk ht,hf,Ie wC]
theorem ans{ns:bf}{xs:cZ}(e1:n=E ns)(e2:xs=bD ns)(hb:aM B w0 F 1 (.slice A n c) n xs)(hl:E ns<=1099511627776)(hs:ns.sum<=1000000000000000):
  aZ B w0 92 [.slice A n c] F (λr L=>r=ah (ns.sum:Nat)∧L=F):=by
 subst e1;subst e2;exact Eh hb hl hs
theorem acQ{ns:bf}{k:Nat}(hk:k<=E ns)(hc:E ns<=c)(hb:aM B w0 (Bo g (.slice A (E ns) c) v1 v2 v3 v4 v5 v6 v7 v8 v9::F) 1 (.slice A (E ns) c) (E ns) (bD ns))(hl:E ns<=1000000)(hs:ns.sum<=1000000):
  aZ B w0 232 [br g,ah (k:Int)] (Bo g (.slice A (E ns) c) v1 v2 v3 v4 v5 v6 v7 v8 v9::F) (λr L=>r=ah ((ns.take k).sum:Nat)∧L=Bo g (.slice A (E ns) c) v1 v2 v3 v4 v5 v6 v7 v8 v9::F):=by
 have uN:=oz ns k;have hh:=hb.jv (k:=k) hk;have e:(bD ns).take (k*1)=bD (ns.take k):=by rw[cH];simp[bD,p_]
 refine fw func232 12 [0,1] ?_;refine cF ?_;refine ab (bV (i:=k) (size:=1) underlying53 ag rfl rfl rfl aa) rfl (ai rfl (ans (ns:=ns.take k) nf e hh nf aa) (bF ?_));exact⟨rfl,rfl⟩
theorem BW(r:aJ)(L:List aJ):c_ (r::L)=aJ.cells r++c_ L:=by simp[c_]
theorem Qq(L:List aJ):E (c_ L)=E L*4:=by
 induction L with
 |nil=>rfl
 |cons r L ih=>rw[BW,aX,ih,dI];simp[aJ.cells];omega
def GJ(ts:bf)(lv:al)(a:Nat)(L:List aJ)(i:Nat):List aJ:=(qo ts lv a L).take i++L.drop i
theorem lr(ts:bf)(lv:al)(a:Nat)(L:List aJ):E (qo ts lv a L)=E L:=by simp[qo]
theorem QC(ts:bf)(lv:al)(a:Nat)(L:List aJ){i:Nat}(h:i<=E L):E (GJ ts lv a L i)=E L:=by
 unfold GJ;rw[aX,eY,lr,iG];omega
theorem UG{ts:bf}{lv:al}{a:Nat}{L:List aJ}{i:Nat}(h:i<E L):
  GJ ts lv a L i=(qo ts lv a L).take i++(recAt L i::L.drop (i+1))∧GJ ts lv a L (i+1)=(qo ts lv a L).take i++((ts.getD (a+i) 0,lv.getD (a+i) 0,(recAt L i).2.2.1,(recAt L i).2.2.2)::L.drop (i+1)):=by
 have hl:=lr ts lv a L;unfold GJ;refine⟨by rw[dD h (0,0,[],[])];rfl,?_⟩;rw[aY aa (0,0,[],[]),bX];congr 1;have:(qo ts lv a L).getD i (0,0,[],[])=(ts.getD (a+i) 0,lv.getD (a+i) 0,(recAt L i).2.2.1,(recAt L i).2.2.2):=by
  unfold qo;rw[ba,jw,w4 h];rfl
 rw[this];rfl
theorem akR{P Q:List aJ}{r:aJ}{t:Nat}{u:UInt8}{i:Nat}(h:E P=i):
  ((c_ (P++r::Q)).set (i*4+0) (.int .u64 (t:Int))).set (i*4+1) (.int .u8 (u.toNat:Int))=c_ (P++(t,u,r.2.2.1,r.2.2.2)::Q)∧((c_ (P++r::Q)).set (i*4+1) (.int .u8 (u.toNat:Int))).set (i*4+0) (.int .u64 (t:Int))=c_ (P++(t,u,r.2.2.1,r.2.2.2)::Q):=by
 have hp:E (c_ P)=i*4:=by rw[Qq,h]
 rw[<-we,<-we,BW,BW];constructor
 ·rw[qa _ _ aa,qa _ _ aa,show i*4+0-E (c_ P)=0 by omega,show i*4+1-E (c_ P)=1 by omega];rfl
 ·rw[qa _ _ aa,qa _ _ aa,show i*4+0-E (c_ P)=0 by omega,show i*4+1-E (c_ P)=1 by omega];rfl
theorem als{L:bf}{i v:Nat}(h:i<E L)(e:L.getD i 0=v):(qF L)[i*1]? =some (.int .u64 ((v:Nat):Int)):=by
 subst e;simp[qF,ba,fc h]
structure tw(x:iF):Prop where
 fr:E x.bH=E x.ns
 ti:E x.times=x.ns.sum
 le:E x.levels=x.ns.sum
 su:x.ns.sum<=20000
 nl:E x.ns<=20000
 fe:∀f∈x.bH,E f<=1000000
 tl:E x.T<=1048576
 il:E x.I<=1048576
 ie:∀l∈x.I,E l<=20000
 tm:∀t∈x.times,t<18446744073709551616
section
variable{x:iF}{k:Nat}
theorem SO(h:(dP (x.bH.getD k [])).2.2≠0):mw x k=([],(dP (x.bH.getD k [])).2.2):=by unfold mw;rw[ao h]
theorem SP(h:¬(dP (x.bH.getD k [])).2.2≠0)(h2:(dP (x.bH.getD k [])).2.1<E (x.bH.getD k [])):mw x k=([],2):=by unfold mw;rw[aw h,ao h2]
theorem SQ(h:¬(dP (x.bH.getD k [])).2.2≠0)(h2:¬(dP (x.bH.getD k [])).2.1<E (x.bH.getD k []))(h3:(rE false (dP (x.bH.getD k [])).1).2≠0):mw x k=([],(rE false (dP (x.bH.getD k [])).1).2):=by unfold mw;rw[aw h,aw h2,ao h3]
theorem SR(h:¬(dP (x.bH.getD k [])).2.2≠0)(h2:¬(dP (x.bH.getD k [])).2.1<E (x.bH.getD k []))(h3:¬(rE false (dP (x.bH.getD k [])).1).2≠0)(h4:E (rE false (dP (x.bH.getD k [])).1).1≠x.ns.getD k 0):mw x k=([],2):=by unfold mw;rw[aw h,aw h2,aw h3,ao h4]
theorem SS(h:¬(dP (x.bH.getD k [])).2.2≠0)(h2:¬(dP (x.bH.getD k [])).2.1<E (x.bH.getD k []))(h3:¬(rE false (dP (x.bH.getD k [])).1).2≠0)(h4:¬E (rE false (dP (x.bH.getD k [])).1).1≠x.ns.getD k 0):mw x k=(qo x.times x.levels (x.ns.take k).sum (rE false (dP (x.bH.getD k [])).1).1,0):=by unfold mw;rw[aw h,aw h2,aw h3,aw h4]
end
theorem acP(HT:bM B w0){x:iF}{k:Nat}{FB:List lu}(ho:tw x)(hk:k<E x.bH)(tG:FB.map (·.2.2)=x.bH)(hcn:E x.ns<=c1)(hn:aM B w0 (Bo g (.slice A1 (E x.ns) c1) v1 v2 v3 (.slice A3 (E x.times) c3) (.slice A4 (E x.levels) c4) v6 v7 (.slice Af (E FB) cf) v9::F) 1 (.slice A1 (E x.ns) c1) (E x.ns) (bD x.ns))(ht:aM B w0 (Bo g (.slice A1 (E x.ns) c1) v1 v2 v3 (.slice A3 (E x.times) c3) (.slice A4 (E x.levels) c4) v6 v7 (.slice Af (E FB) cf) v9::F) 1 (.slice A3 (E x.times) c3) (E x.times) (qF x.times))(hl:aM B w0 (Bo g (.slice A1 (E x.ns) c1) v1 v2 v3 (.slice A3 (E x.times) c3) (.slice A4 (E x.levels) c4) v6 v7 (.slice Af (E FB) cf) v9::F) 1 (.slice A4 (E x.levels) c4) (E x.levels) (bv x.levels))(hf:aM B w0 (Bo g (.slice A1 (E x.ns) c1) v1 v2 v3 (.slice A3 (E x.times) c3) (.slice A4 (E x.levels) c4) v6 v7 (.slice Af (E FB) cf) v9::F) 1 (.slice Af (E FB) cf) (E FB) (FB.map dy))(Jr:∀e∈FB,aM B w0 (Bo g (.slice A1 (E x.ns) c1) v1 v2 v3 (.slice A3 (E x.times) c3) (.slice A4 (E x.levels) c4) v6 v7 (.slice Af (E FB) cf) v9::F) 1 (dy e) (E e.2.2) (bv e.2.2)):
  aZ B w0 184 [br g,ah (k:Int)] (Bo g (.slice A1 (E x.ns) c1) v1 v2 v3 (.slice A3 (E x.times) c3) (.slice A4 (E x.levels) c4) v6 v7 (.slice Af (E FB) cf) v9::F)
   (λv L=>∃A' c',v= .tuple #[.slice A' (E (mw x k).1) c',ah (mw x k).2]∧L= .own 62 4 A' (E (mw x k).1) c' (c_ (mw x k).1)::Bo g (.slice A1 (E x.ns) c1) v1 v2 v3 (.slice A3 (E x.times) c3) (.slice A4 (E x.levels) c4) v6 v7 (.slice Af (E FB) cf) v9::F):=by
 obtain⟨o1,o2,o3,o4,o5,o6,_,_,_,_⟩:=ho;have S7:E FB=E x.bH:=by rw[<-tG,dX]
 have Tn:=Ip (PB:=FB) (i:=k) aa;have qz:=bj (l:=FB) (show k<E FB by omega) jl;have yg:(FB.getD k jl).2.2=x.bH.getD k []:=by rw[<-tG,Gc]
 obtain⟨⟨PA,PC,f⟩,hP⟩:∃e,e=FB.getD k jl:=⟨_,rfl⟩
 rw[<-hP]at Tn qz yg;have yg:f=x.bH.getD k []:=yg;have hbf:=Jr _ qz;have lg:E f<=1000000:=by rw[yg];exact o6 _ (bj hk [])
 have xD:=oz x.ns (k+1);have M7:(x.ns.take (k+1)).sum=(x.ns.take k).sum+x.ns.getD k 0:=by rw[aY aa 0,w7];simp
 have di:=Ec f;refine fw func184 100 [0,1] ?_;refine ei ?_;refine ab (au ag rfl hf aa Tn) rfl (ay rfl (Wa HT (b:=f) rfl rfl hbf lg) λDZ HH=>sR ?_);refine aj (λoB=>?_) λoB=>?_
 ·have e:=SO (x:=x) (k:=k) (by rw[<-yg];exact oB);refine bF ?_;refine ve [4,5] ?_;refine b7 ?_;refine aC 62 4 none (aq (.cons (.skip (.refl _))) (aF ?_));rw[e,<-yg];exact⟨none,0,rfl,rfl⟩
 ·have ajs:¬(dP (x.bH.getD k [])).2.2≠0:=by rw[<-yg];exact oB
  refine bO ?_;refine ab (au ag rfl hf.cons aa Tn) rfl (bE ?_);refine ve [0,1,6,28] ?_;refine aF ?_;refine aj (λrn=>?_) λrn=>?_
  ·have e:=SP (x:=x) (k:=k) ajs (by rw[<-yg];have q:(((dP f).2.1:Nat):Int)<((E f:Nat):Int):=rn;omega);refine bO ?_;refine aC 62 4 none (aq (.cons (.skip (.refl _))) (aF ?_));rw[e];exact⟨none,0,rfl,rfl⟩
  ·have anZ:¬(dP (x.bH.getD k [])).2.1<E (x.bH.getD k []):=by rw[<-yg];have q:¬(((dP f).2.1:Nat):Int)<((E f:Nat):Int):=rn;omega
   refine bB ?_;refine ay rfl (Qn (l:=(dP f).1) false aB aa) λVA c41=>jG ?_;refine aj (λsT=>?_) λsT=>?_
   ·have e:=SQ (x:=x) (k:=k) ajs anZ (by rw[<-yg];exact sT);refine bz ?_;refine aC 62 4 none (aq (.cons (.s2 (.refl _))) (aF ?_));rw[e,<-yg];exact⟨none,0,rfl,rfl⟩
   ·have asa:¬(rE false (dP (x.bH.getD k [])).1).2≠0:=by rw[<-yg];exact sT
    refine de ?_;refine ab (au ag rfl hn.cons.cons aa (gv (v:=x.ns.getD k 0) aa rfl)) rfl (bc ?_);refine ve [0,1,9,48] ?_;refine aF ?_;refine aj (λS5=>?_) λS5=>?_
    ·have e:=SR (x:=x) (k:=k) ajs anZ asa (by rw[<-yg];omega);refine bO ?_;refine aC 62 4 none (aq (.cons (.s2 (.refl _))) (aF ?_));rw[e];exact⟨none,0,rfl,rfl⟩
    ·have e:=SS (x:=x) (k:=k) ajs anZ asa (by rw[<-yg];omega);rw[<-yg]at e;obtain⟨RL,hRL⟩:=cK ((rE false (dP f).1).1);obtain⟨a,ha⟩:=cK ((x.ns.take k).sum);rw[<-hRL]at S5 e⊢;rw[<-ha]at M7 e;refine bO ?_;refine ai rfl (.perm (acQ (k:=k) aa hcn (hn.mono (.cons_cons _ (.cons _ (.cons _ (.refl _))))) aa aa) ((BQ (fV (fV (.refl _)))))) (bF ?_);rw[<-ha];refine gx ((mC (fV (fV (.refl _))))) ?_;refine bI ?_;refine aD (λzf zL zm=>∃(i:Nat),(i<=E RL)∧E RL-i=zm∧Sub zf [(0,br g),(9,.slice VA (E RL) c41),(10,ah (a:Int)),(66,ah (E RL)),(67,ah (i:Int))]∧Wk zL (.own 62 4 VA (E RL) c41 (c_ (GJ x.times x.levels a RL i))::Bo g (.slice A1 (E x.ns) c1) v1 v2 v3 (.slice A3 (E x.times) c3) (.slice A4 (E x.levels) c4) v6 v7 (.slice Af (E FB) cf) v9::F)) _ ⟨0,bU _,rfl,bp,.trans ((eu (eu (.skip (.refl _))))) (az rfl (by unfold GJ;simp) (.refl _))⟩ ?_;rintro _ _ _ ⟨i,hi,rfl,hs,hp⟩;refine aT hs hp (bB ?_);refine aj (λh68=>?_) λh68=>?_
     ·have Aj:=QC x.times x.levels a RL hi;obtain⟨avi,aor⟩:=UG (ts:=x.times) (lv:=x.levels) (a:=a) (L:=RL) (i:=i) aa;have avm:E ((qo x.times x.levels a RL).take i)=i:=by rw[eY,lr];omega
      obtain⟨aeM,aeN⟩:=akR (P:=(qo x.times x.levels a RL).take i) (Q:=RL.drop (i+1)) (r:=recAt RL i) (t:=x.times.getD (a+i) 0) (u:=x.levels.getD (a+i) 0) avm;rw[<-avi]at aeM aeN;rw[<-aor]at aeM aeN;have hrl:=Qq (GJ x.times x.levels a RL i);obtain⟨M,hM⟩:=cK (c_ (GJ x.times x.levels a RL i));rw[<-hM]at aeM aeN hrl⊢;refine bz ?_;refine jQ (A:=VA) (n:=E RL) (xs:=M) (.head _) aa ?_;intro ad hA;subst hA;refine cE (Bo g (.slice A1 (E x.ns) c1) v1 v2 v3 (.slice A3 (E x.times) c3) (.slice A4 (E x.levels) c4) v6 v7 (.slice Af (E FB) cf) v9::F) ?_;refine ae 0 ?_;refine ae 1 ?_;refine ae 2 ?_;refine ae 3 ?_;refine ae 4 ?_;refine ae 5 ?_;refine ae 6 ?_;refine ae 7 ?_;refine ae 8 ?_;refine ae 9 ?_;refine ae 10 ?_;refine aU 11 rfl (bJ rfl rfl (r:=((a+i:Nat):Int)) ((bq aa aa).trans aa)) (aU 12 rfl (aE (i:=a+i) (size:=1) underlying183 ag rfl rfl rfl aa ht) (aU 13 rfl (au ag rfl ht aa (als (v:=x.times.getD (a+i) 0) aa rfl)) (ae 14 ?_)));refine ae 15 ?_;refine ae 16 ?_;refine ae 17 ?_;refine ae 18 ?_;refine ae 19 ?_;refine ae 20 ?_;refine aU 21 rfl (bJ rfl rfl (r:=((a+i:Nat):Int)) ((bq aa aa).trans aa)) (aU 22 rfl (aE (i:=a+i) (size:=1) underlying27 ag rfl rfl rfl aa hl) (aU 23 rfl (iR ag rfl hl aa) (aU 24 rfl (aO (i:=i) (size:=4) underlying24 ag rfl rfl rfl aa) (aU 25 rfl (pU underlying62 rfl ag rfl rfl) (aA 26 (kJ rfl .no (pX (q:=0) ag rfl rfl rfl .hd (by(try rw[List.length_set]);omega)) uw ?_))))));rintro _ _ rfl;refine aU 27 rfl (aO (i:=i) (size:=4) underlying24 ag rfl rfl rfl aa) (aU 28 rfl (pU underlying62 rfl ag rfl rfl) (aA 29 (kJ rfl .no (pX (q:=1) ag rfl rfl rfl .hd (by(try rw[List.length_set]);omega)) uw ?_)));rintro _ _ rfl;refine cP [0,9,10,66,67] ?_;refine bB ?_;refine av ⟨_,aa,i+1,aa,rfl,bp,az rfl (by first|exact aeM|exact aeN) (.refl _)⟩
     ·obtain rfl:i=E RL:=by omega
      have uJ:GJ x.times x.levels a RL (E RL)=qo x.times x.levels a RL:=by unfold GJ;rw[fC (by rw[lr];omega),CM,gl]
      have asp:=lr x.times x.levels a RL;refine ei ?_;rw[e,uJ];exact⟨VA,c41,by rw[asp],by rw[asp]⟩
end
end Go.Proofs.YtaodmbolhoafcaaGreatDoor

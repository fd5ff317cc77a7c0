/-
  Texts of one proof, joined: part 12. No condition.
-/
import Derived.Test.YtaodmbolhoafcaaGreatDoorZr11
import Derived.Lib.AppendZeros
open Go.RowKit Go.Proofs.Tryz
namespace Go.Proofs.YtaodmbolhoafcaaGreatDoor
set_option linter.unusedVariables false
set_option linter.unusedSimpArgs false
set_option maxRecDepth 20000
variable{B:Nat}{w0:World}{F L0:aR}{A A1 A2 Ao:bj}{n c c1 c2 co g gc:Nat}{X:cV}{bt:TypeId}{v0 v1 v2 v3 v4 v5 v6 v7 v8 v9:Value}{f:Ch→aR}{r k m N:Nat}{cs:cV}{o:Nat}{A3 A4 A5 A6 Af:bj}{c3 c4 c5 c6 cf:Nat}{va:Value}
section
structure CS(B:Nat)(w0:World)(L:aR)(g:Nat)(x:iv):Prop where
 bo:∃(A1:bj) (c1:Nat) (A2:bj) (c2:Nat) (A3:bj) (c3:Nat) (A4:bj) (c4:Nat) (A5:bj) (c5:Nat) (A6:bj) (c6:Nat) (LL:List rK) (Af:bj) (cf:Nat) (FB:List kP) (va:Value),
  Bo g (.slice A1 x.ns.length c1) (.slice A2 x.ss.length c2) (ah x.c) (ah x.i) (.slice A3 x.times.length c3) (.slice A4 x.levels.length c4) (.slice A5 x.T.length c5) (.slice A6 LL.length c6) (.slice Af FB.length cf) va∈L∧
  aL B w0 L 1 (.slice A1 x.ns.length c1) x.ns.length (bx x.ns)∧aL B w0 L 1 (.slice A3 x.times.length c3) x.times.length (p_ x.times)∧aL B w0 L 1 (.slice A4 x.levels.length c4) x.levels.length (bv x.levels)∧
  aL B w0 L 1 (.slice A5 x.T.length c5) x.T.length (strs x.T)∧aL B w0 L 1 (.slice A6 LL.length c6) LL.length (LL.map jQ)∧(∀e∈LL,aL B w0 L 1 (jQ e) e.2.2.length (bx e.2.2))∧LL.map (·.2.2)=x.I∧
  aL B w0 L 1 (.slice Af FB.length cf) FB.length (FB.map dq)∧(∀e∈FB,aL B w0 L 1 (dq e) e.2.2.length (bv e.2.2))∧FB.map (·.2.2)=x.bA
theorem CS.mono{x:iv}{L M:aR}(h:CS B w0 L g x)(hs:L.Sublist M):CS B w0 M g x:=by
 obtain⟨A1,c1,A2,c2,A3,c3,A4,c4,A5,c5,A6,c6,LL,Af,cf,FB,va,h1,h2,h3,h4,h5,h6,h7,h8,h9,jB,pq⟩:=h;exact⟨A1,c1,A2,c2,A3,c3,A4,c4,A5,c5,A6,c6,LL,Af,cf,FB,va,hs.subset h1,h2.mono hs,h3.mono hs,h4.mono hs,h5.mono hs,h6.mono hs,fun e he=>(h7 e he).mono hs,h8,h9.mono hs,fun e he=>(jB e he).mono hs,pq⟩
theorem MY{m:Nat}:∀(f:Nat) (s:Cs) (ns ss:bc),ns.length=ss.length→(ta m f s ns ss).1.length=(ta m f s ns ss).2.1.length∧(ta m f s ns ss).1.length≤ns.length+f
 |0,s,ns,ss,h=>by rw[ta];exact⟨h,ak⟩
 |f+1,s,ns,ss,h=>by
  rw[ta];split
  ·exact⟨h,cZ⟩
  ·have:=MY (m:=m) f ((s.bX m).bX 8388608) (ns++[s.int m]) (ss++[(s.bX m).int 8388608]) (by simp[h]);rw[aX,qg]at this;exact⟨this.1,by have:=this.2;omega⟩
theorem JZ(d:al):(fb d).1.length=(fb d).2.1.length∧(fb d).1.length≤20000:=by
 have hR:=DE d;have hB:((LA d:Nat):Int)≤Cu d:=Cs.gy _ aa aa;have:=MY (m:=Cu d) (LA d) (dr2 d) [] [] rfl;unfold fb;exact⟨this.1,by have:=this.2;simp only[sb]at this;omega⟩
theorem DD{d:al}{room:Nat}(h:GH d room=0):(fb d).1.sum=Cu d∧(fb d).2.1.sum+Ct d+drI d=room∧0∉(fb d).1:=by
 unfold GH at h;split at h
 ·rename_i h1;exact absurd h h1
 ·split at h
  ·cases h
  ·rename_i h2;exact⟨bF fun k=>h2 (.inr (.inl k)),bF fun k=>h2 (.inr (.inr k)),fun k=>h2 (.inl k)⟩
theorem MK(HT:bK B w0){ch:al}{k n:Nat}(hn:n=ch.length)(hb:aL B w0 F 1 (.slice A n c) n (bv ch))(hl:ch.length≤1000000000)(hk:k≤1000000000)(h:xK k ch≠0):
  a_ B w0 181 [.pointer (some ⟨g,4,none⟩),ah k,.slice A n c] (Bo g v0 v1 v2 v3 v4 v5 v6 v7 v8 v9::F) (fun r L=>r=ah (xK k ch)∧L=Bo g v0 v1 v2 v3 v4 v5 v6 v7 v8 v9::F):=by
 subst hn;exact(HY HT hb hl hk).mono fun r L h'=>⟨h'.1,h'.2.elim (fun q=>q.2) fun q=>absurd q.1 h⟩
theorem QW(HT:bK B w0){ch:al}{k n:Nat}(hn:n=ch.length)(hb:aL B w0 F 1 (.slice A n c) n (bv ch))(hl:ch.length≤1000000000)(hk:k≤1000000000)(h:xK k ch=0):
  a_ B w0 181 [.pointer (some ⟨g,4,none⟩),ah k,.slice A n c] (Bo g v0 v1 v2 v3 v4 v5 v6 v7 v8 v9::F) (fun r L=>r=ah 0∧∃(A1:bj) (c1:Nat) (A2:bj) (c2:Nat),L=Bo g v0 v1 v2 v3 (.slice A1 (nW k (aK ch).1).1.length c1) (.slice A2 (nW k (aK ch).1).2.1.length c2) v6 v7 v8 v9:: .own 60 1 A1 (nW k (aK ch).1).1.length c1 (p_ (nW k (aK ch).1).1):: .own 5 1 A2 (nW k (aK ch).1).2.1.length c2 (bv (nW k (aK ch).1).2.1)::F):=by
 subst hn;exact(HY HT hb hl hk).mono fun r L h'=>⟨by rw[h'.1,h],h'.2.elim (fun q=>absurd h q.1) fun q=>q.2⟩
section
variable{o:aO}{b:al}
theorem JE(h:cm 2 (o2 o)≠0):ej o b=(.nil,cm 2 (o2 o)):=by unfold ej;rw[aq h]
theorem JF(h:¬cm 2 (o2 o)≠0)(h2:(f_ b).2.2≠0):ej o b=(.nil,(f_ b).2.2):=by unfold ej;rw[aw h,aq h2]
theorem JG(h:¬cm 2 (o2 o)≠0)(h2:¬(f_ b).2.2≠0)(h3:GH (dT b) (qA b).length≠0):ej o b=(.nil,GH (dT b) (qA b).length):=by unfold ej;rw[aw h,aw h2,aq h3]
theorem JH(h:¬cm 2 (o2 o)≠0)(h2:¬(f_ b).2.2≠0)(h3:¬GH (dT b) (qA b).length≠0)(h4:xK (fb (dT b)).1.sum (wD b)≠0):ej o b=(.nil,xK (fb (dT b)).1.sum (wD b)):=by unfold ej;rw[aw h,aw h2,aw h3,aq h4]
theorem Uk(h:¬cm 2 (o2 o)≠0)(h2:¬(f_ b).2.2≠0)(h3:¬GH (dT b) (qA b).length≠0)(h4:¬xK (fb (dT b)).1.sum (wD b)≠0)(h5:(aK (vz b)).2≠0):ej o b=(.nil,(aK (vz b)).2):=by unfold ej;rw[aw h,aw h2,aw h3,aw h4,aq h5]
theorem Ul(h:¬cm 2 (o2 o)≠0)(h2:¬(f_ b).2.2≠0)(h3:¬GH (dT b) (qA b).length≠0)(h4:¬xK (fb (dT b)).1.sum (wD b)≠0)(h5:¬(aK (vz b)).2≠0)(h6:(eF o.2.2.1 ((fb (dT b)).1.sum:Nat) (aK (vz b)).1).2.2≠0):ej o b=(.nil,(eF o.2.2.1 ((fb (dT b)).1.sum:Nat) (aK (vz b)).1).2.2):=by unfold ej;rw[aw h,aw h2,aw h3,aw h4,aw h5,aq h6]
def alr(o:aO)(b:al):iv:=⟨(fb (dT b)).1,(fb (dT b)).2.1,Ct (dT b),drI (dT b),(nW ((fb (dT b)).1.sum:Nat) (aK (wD b)).1).1,(nW ((fb (dT b)).1.sum:Nat) (aK (wD b)).1).2.1,
 (eF o.2.2.1 ((fb (dT b)).1.sum:Nat) (aK (vz b)).1).1,(eF o.2.2.1 ((fb (dT b)).1.sum:Nat) (aK (vz b)).1).2.1,rE (fb (dT b)).2.1 (qA b)⟩
theorem Um(h:¬cm 2 (o2 o)≠0)(h2:¬(f_ b).2.2≠0)(h3:¬GH (dT b) (qA b).length≠0)(h4:¬xK (fb (dT b)).1.sum (wD b)≠0)(h5:¬(aK (vz b)).2≠0)(h6:¬(eF o.2.2.1 ((fb (dT b)).1.sum:Nat) (aK (vz b)).1).2.2≠0):ej o b=(alr o b,0):=by unfold ej;rw[aw h,aw h2,aw h3,aw h4,aw h5,aw h6];rfl
end
def Xk(e:Int)(F:aR)(r:Value)(L:aR):Prop:=r= .tuple #[.pointer none,ah e]∧L=F
def an6(x:iv)(B:Nat)(w0:World)(F:aR)(r:Value)(L:aR):Prop:=∃g N,r= .tuple #[bq g,ah 0]∧L=N++F∧CS B w0 N g x
theorem agK{o:aO}{b:al}(h:cm 2 (o2 o)≠0):a_ B w0 111 [.agg (aO.cells o).toArray,.slice A b.length c] F (Xk (ej o b).2 F):=by
 rw[JE h];obtain⟨bl,pl,bu,da,pa,ch⟩:=o;refine cB func111 90 rfl rfl rfl [(0,.agg #[ah bl,.bool pl,ah bu,ah da,ah pa,ah ch]),(1,.slice A b.length c)] ⟨⟨rfl,rfl⟩,⟨rfl,rfl⟩,trivial⟩ ?_;refine be ?_;refine bf fun g2=>?_;refine bM ?_;refine ai rfl (nv (bl,pl,bu,da,pa,ch)) ?_;refine bP ?_;refine aj (fun iU=>?_) fun iU=>?_
 ·refine bP ?_;refine ao (.skip (.refl _)) ?_;refine aE ?_;exact⟨rfl,rfl⟩
 ·exfalso;exact iU h
theorem agL(HT:bK B w0){o:aO}{b:al}(hb:fq B w0 F A c b)(dh:b.length≤1000000)(h:¬cm 2 (o2 o)≠0)(h2:(f_ b).2.2≠0):a_ B w0 111 [.agg (aO.cells o).toArray,.slice A b.length c] F (Xk (ej o b).2 F):=by
 rw[JF h h2];obtain⟨bl,pl,bu,da,pa,ch⟩:=o;refine cB func111 90 rfl rfl rfl [(0,.agg #[ah bl,.bool pl,ah bu,ah da,ah pa,ah ch]),(1,.slice A b.length c)] ⟨⟨rfl,rfl⟩,⟨rfl,rfl⟩,trivial⟩ ?_;refine be ?_;refine bf fun g2=>?_;refine bM ?_;refine ai rfl (nv (bl,pl,bu,da,pa,ch)) ?_;refine bP ?_;refine aj (fun iU=>?_) fun iU=>?_
 ·exfalso;exact h iU
 ·refine bI ?_;refine ba UB rfl (J_ HT hb.cons aa) rfl ?_;rintro _ _ ⟨Ar,cr,Ad,cd,Y,rfl,cJ,RV,hbR,hbD⟩;obtain rfl:=cJ.symm;refine jU ?_;refine aj (fun ku=>?_) fun ku=>?_
  ·refine bI ?_;refine ve [4,5] ?_;refine bH ?_;refine ao ((dA _ _).trans (.skip (.refl _))) ?_;refine aE ?_;exact⟨rfl,rfl⟩
  ·exfalso;exact ku h2
theorem uW(b:al):(f_ b).1.length≤b.length∧(f_ b).2.1.length≤b.length:=by
 unfold f_;split
 ·exact⟨ak,ak⟩
 ·split
  ·exact⟨ak,ak⟩
  ·refine⟨by simp only[eV];omega,?_⟩;have:=pe ((b.take (b.length-4)).drop (b.length-4-ftK b));rw[iN,eV]at this;unfold ftD;simp only;omega
theorem agM(HT:bK B w0){o:aO}{b:al}(hb:fq B w0 F A c b)(dh:b.length≤1000000)(h:¬cm 2 (o2 o)≠0)(h2:¬(f_ b).2.2≠0)(h3:GH (dT b) (qA b).length≠0):a_ B w0 111 [.agg (aO.cells o).toArray,.slice A b.length c] F (Xk (ej o b).2 F):=by
 rw[JG h h2 h3];obtain⟨bl,pl,bu,da,pa,ch⟩:=o;refine cB func111 90 rfl rfl rfl [(0,.agg #[ah bl,.bool pl,ah bu,ah da,ah pa,ah ch]),(1,.slice A b.length c)] ⟨⟨rfl,rfl⟩,⟨rfl,rfl⟩,trivial⟩ ?_;refine be ?_;refine bf fun g2=>?_;refine bM ?_;refine ai rfl (nv (bl,pl,bu,da,pa,ch)) ?_;refine bP ?_;refine aj (fun iU=>?_) fun iU=>?_
 ·exfalso;exact h iU
 ·refine bI ?_;refine ba UB rfl (J_ HT hb.cons aa) rfl ?_;rintro _ _ ⟨Ar,cr,Ad,cd,Y,rfl,cJ,RV,hbR,hbD⟩;obtain rfl:=cJ.symm;refine jU ?_;refine aj (fun ku=>?_) fun ku=>?_
  ·exfalso;exact h2 ku
  ·have GW:=om Y [.bE g2 23 [ah bl,.bool pl,ah bu,ah da,ah pa,ah ch]] F;refine fR GW ?_;have wM:=hbR.perm GW;have vB:=hbD.perm GW;have GY:Wk (Y++F) F:=dA Y F;obtain⟨K,hK⟩:=cR (Y++F);simp only[N7]at wM vB⊢;rw[←hK]at wM vB GY⊢;have eR:(f_ b).1=qA b:=rfl;have eD:(f_ b).2.1=dT b:=rfl;have hlr:=uW b;rw[eR,eD]at hlr;rw[eR]at wM RV⊢;rw[eD]at vB⊢;refine b8 ?_;refine ae (cv [.slice none 0 0,.slice none 0 0,ah 0,ah 0,.slice none 0 0,.slice none 0 0,.slice none 0 0,.slice none 0 0,.slice none 0 0,.slice none 0 0] ag) rfl ?_;refine bf fun g30=>?_;refine aE ?_;refine ve [2,7,8,10] ?_;refine bz ?_;refine ba abC rfl (zz (d:=dT b) (room:=(qA b).length) vB aa aa) rfl ?_;rintro _ _ ⟨rfl,A1,c1,A2,c2,cJ⟩;obtain rfl:=cJ.symm;refine bP ?_;refine aj (fun Ve=>?_) fun Ve=>?_
   ·refine bP ?_;refine ao (.skip (.skip (.skip (.skip GY)))) ?_;refine aE ?_;exact⟨rfl,rfl⟩
   ·exfalso;exact Ve h3
theorem agN(HT:bK B w0){o:aO}{b:al}(hb:fq B w0 F A c b)(dh:b.length≤1000000)(h:¬cm 2 (o2 o)≠0)(h2:¬(f_ b).2.2≠0)(h3:¬GH (dT b) (qA b).length≠0)(h4:xK (fb (dT b)).1.sum (wD b)≠0):a_ B w0 111 [.agg (aO.cells o).toArray,.slice A b.length c] F (Xk (ej o b).2 F):=by
 rw[JH h h2 h3 h4];obtain⟨bl,pl,bu,da,pa,ch⟩:=o;refine cB func111 90 rfl rfl rfl [(0,.agg #[ah bl,.bool pl,ah bu,ah da,ah pa,ah ch]),(1,.slice A b.length c)] ⟨⟨rfl,rfl⟩,⟨rfl,rfl⟩,trivial⟩ ?_;refine be ?_;refine bf fun g2=>?_;refine bM ?_;refine ai rfl (nv (bl,pl,bu,da,pa,ch)) ?_;refine bP ?_;refine aj (fun iU=>?_) fun iU=>?_
 ·exfalso;exact h iU
 ·refine bI ?_;refine ba UB rfl (J_ HT hb.cons aa) rfl ?_;rintro _ _ ⟨Ar,cr,Ad,cd,Y,rfl,cJ,RV,hbR,hbD⟩;obtain rfl:=cJ.symm;refine jU ?_;refine aj (fun ku=>?_) fun ku=>?_
  ·exfalso;exact h2 ku
  ·have GW:=om Y [.bE g2 23 [ah bl,.bool pl,ah bu,ah da,ah pa,ah ch]] F;refine fR GW ?_;have wM:=hbR.perm GW;have vB:=hbD.perm GW;have GY:Wk (Y++F) F:=dA Y F;obtain⟨K,hK⟩:=cR (Y++F);simp only[N7]at wM vB⊢;rw[←hK]at wM vB GY⊢;have eR:(f_ b).1=qA b:=rfl;have eD:(f_ b).2.1=dT b:=rfl;have hlr:=uW b;rw[eR,eD]at hlr;rw[eR]at wM RV⊢;rw[eD]at vB⊢;refine b8 ?_;refine ae (cv [.slice none 0 0,.slice none 0 0,ah 0,ah 0,.slice none 0 0,.slice none 0 0,.slice none 0 0,.slice none 0 0,.slice none 0 0,.slice none 0 0] ag) rfl ?_;refine bf fun g30=>?_;refine aE ?_;refine ve [2,7,8,10] ?_;refine bz ?_;refine ba abC rfl (zz (d:=dT b) (room:=(qA b).length) vB aa aa) rfl ?_;rintro _ _ ⟨rfl,A1,c1,A2,c2,cJ⟩;obtain rfl:=cJ.symm;refine bP ?_;refine aj (fun Ve=>?_) fun Ve=>?_
   ·exfalso;exact h3 Ve
   ·have hz:=DD (bF h3);have hdl:=JZ (dT b);have Yt:=DE (dT b);have acB:aL B w0 (.own 3 1 A1 (fb (dT b)).1.length c1 (bx (fb (dT b)).1):: .own 3 1 A2 (fb (dT b)).2.1.length c2 (bx (fb (dT b)).2.1):: .bE g2 23 [ah bl,.bool pl,ah bu,ah da,ah pa,ah ch]::K) 1 (.slice Ar (qA b).length cr) (qA b).length (bv (qA b)):=wM.cons.cons;refine bB ?_;refine ba ajW rfl (Ms (ss:=(fb (dT b)).2.1) (cc:=Ct (dT b)) (r:=qA b) acB RV (aL.own (.tail _ (.head _))) aa aa aa) rfl ?_;rintro _ _ ⟨Af,cf,Ac,cc1,Ai,ci1,FB,rfl,cJ,sM,hbC,hbI⟩;obtain rfl:=cJ.symm;refine bI ?_;refine ve [2,10,12,13] ?_;refine be ?_;have ac0:=om (FB.map fx) [.own 3 1 A1 (fb (dT b)).1.length c1 (bx (fb (dT b)).1),.own 3 1 A2 (fb (dT b)).2.1.length c2 (bx (fb (dT b)).2.1),.bE g2 23 [ah bl,.bool pl,ah bu,ah da,ah pa,ah ch]] K;refine fR ((ac0.cons _).cons _) ?_;obtain⟨K2,Rw⟩:=cR (FB.map fx++K);have ac8:Wk K2 F:=by rw[Rw];exact(dA _ _).trans GY
    have RW:(.own 3 1 A1 (fb (dT b)).1.length c1 (bx (fb (dT b)).1):: .own 3 1 A2 (fb (dT b)).2.1.length c2 (bx (fb (dT b)).2.1):: .bE g2 23 [ah bl,.bool pl,ah bu,ah da,ah pa,ah ch]::K).Sublist (.own 3 1 A1 (fb (dT b)).1.length c1 (bx (fb (dT b)).1):: .own 3 1 A2 (fb (dT b)).2.1.length c2 (bx (fb (dT b)).2.1):: .bE g2 23 [ah bl,.bool pl,ah bu,ah da,ah pa,ah ch]::K2):=by rw[Rw];exact((gz _ _).cons_cons _ |>.cons_cons _).cons_cons _
    have Ry:=hbC.mono RW;have Rz:=hbI.mono RW;have al3:∀e∈FB,aL B w0 K2 1 (dq e) e.2.2.length (bv e.2.2):=fun e he=>by rw[Rw];exact aL.own (j_ _ (je (f:=fx) he))
    clear hbC hbI RW ac0 acB wM vB;simp only[nE,nU];rw[←Rw];have eC:((qA b).drop (fb (dT b)).2.1.sum).take (Ct (dT b))=wD b:=rfl;have eI:((qA b).drop (fb (dT b)).2.1.sum).drop (Ct (dT b))=vz b:=rfl;rw[eC]at Ry;rw[eI]at Rz;have lC:Ct (dT b)=(wD b).length:=by rw[←eC,eV,iN];omega
    have lI:(qA b).length-(fb (dT b)).2.1.sum-Ct (dT b)=(vz b).length:=by rw[←eI,iN,iN]
    rw[lI]at Rz⊢;obtain⟨fl,lZ⟩:=cR ((fb (dT b)).2.1.length);rw[←lZ]at Ry Rz⊢;refine bD ?_;refine cH (fc S8 rfl rfl rfl rfl rfl aa aa aa) fun A53=>?_;refine bD ?_;refine cC K2 ?_;refine ab 0 ?_;refine ab 1 ?_;refine ab 2 ?_;refine ab 3 ?_;refine ab 5 ?_;refine az 4 ?_;refine iZ rfl rfl ((JC (ns:=(fb (dT b)).1) aB aa aa).jj ((l0 (fT (.refl _))))) ?_;refine az 6 ?_;refine iZ rfl rfl (.perm (MK HT (ch:=wD b) lC Ry.cons.cons (by rw[←lC];omega) aa h4) ((l0 (fT (.refl _))))) ?_;refine ab 7 ?_;refine cP [2,10,13,14] ?_;refine bD ?_;refine aj (fun h64=>?_) fun h64=>?_
    ·refine bP ?_;refine ao (.skip (.skip (.skip (.skip (.skip (.skip ac8)))))) ?_;refine aE ?_;exact⟨rfl,rfl⟩
    ·exfalso;exact h64 h4
theorem Wa{size bound:Int}{x:Ch}{b:al}(hb:aL B w0 (x::F) 1 (.slice A b.length c) b.length (bv b))(dh:b.length≤1000000):
  a_ B w0 183 [ah size,ah bound,.slice A b.length c] (x::F) (fun r L=>∃(A1:bj) (c1:Nat) (A2:bj) (c2:Nat) (LL:List rK),r= .tuple #[Gq A1 (eF size bound b).1.length c1 A2 LL.length c2,ah (eF size bound b).2.2]∧LL.map (·.2.2)=(eF size bound b).2.1∧
   L=x:: .own 9 1 A1 (eF size bound b).1.length c1 (strs (eF size bound b).1):: .own 53 1 A2 LL.length c2 (LL.map jQ)::(LL.map jP++F)):=
 (aiG hb dh).Lc fun v M ⟨A1,c1,A2,c2,LL,h1,h2,h3⟩=>by
  subst h3;refine⟨_,.dE ?_,A1,c1,A2,c2,LL,h1,h2,rfl⟩;exact om (_::_::LL.map jP) [x] F
def an5(R:iv×Int)(B:Nat)(w0:World)(F:aR)(r:Value)(L:aR):Prop:=(R.2≠0∧Xk R.2 F r L)∨(R.2=0∧an6 R.1 B w0 F r L)
theorem L6{h a b x1 t l x2 f s1 s2 x3:Ch}{R P Y F:aR}:h::a::b::(R++(x1::t::l::x2::f::s1::s2::x3::(P++(Y++F))))=(h::a::b::(R++(x1::t::l::x2::f::s1::s2::x3::(P++Y))))++F:=by
 simp only[nE,bV]
theorem Mo{o:aO}{b:al}{fl c1 c2 c3 c4 c5 c6 cf:Nat}{A1 A2 A3 A4 A5 A6 Af:bj}{LL:List rK}{FB:List kP}{va:Value}{K2:aR}{x1 x2 x3:Ch}(lZ:fl=(fb (dT b)).2.1.length)(sM:FB.map (·.2.2)=rE (fb (dT b)).2.1 (qA b))(cJ:LL.map (·.2.2)=(eF o.2.2.1 ((fb (dT b)).1.sum:Nat) (aK (vz b)).1).2.1)(al3:∀e∈FB,aL B w0 K2 1 (dq e) e.2.2.length (bv e.2.2)):
  CS B w0 (Bo g (.slice A1 (fb (dT b)).1.length c1) (.slice A2 fl c2) (ah (Ct (dT b))) (ah (drI (dT b))) (.slice A3 (nW ((fb (dT b)).1.sum:Nat) (aK (wD b)).1).1.length c3) (.slice A4 (nW ((fb (dT b)).1.sum:Nat) (aK (wD b)).1).2.1.length c4) (.slice A5 (eF o.2.2.1 ((fb (dT b)).1.sum:Nat) (aK (vz b)).1).1.length c5) (.slice A6 LL.length c6) (.slice Af fl cf) va::
   .own 9 1 A5 (eF o.2.2.1 ((fb (dT b)).1.sum:Nat) (aK (vz b)).1).1.length c5 (strs (eF o.2.2.1 ((fb (dT b)).1.sum:Nat) (aK (vz b)).1).1):: .own 53 1 A6 LL.length c6 (LL.map jQ)::
   (LL.map jP++(x1:: .own 60 1 A3 (nW ((fb (dT b)).1.sum:Nat) (aK (wD b)).1).1.length c3 (p_ (nW ((fb (dT b)).1.sum:Nat) (aK (wD b)).1).1):: .own 5 1 A4 (nW ((fb (dT b)).1.sum:Nat) (aK (wD b)).1).2.1.length c4 (bv (nW ((fb (dT b)).1.sum:Nat) (aK (wD b)).1).2.1)::x2:: .own 27 1 Af fl cf (FB.map dq):: .own 3 1 A1 (fb (dT b)).1.length c1 (bx (fb (dT b)).1):: .own 3 1 A2 fl c2 (bx (fb (dT b)).2.1)::x3::K2))) g (alr o b):=by
 have hfb:FB.length=fl:=by have:=dC List.length sM;rw[eM,uH]at this;omega
 subst hfb;refine⟨A1,c1,A2,c2,A3,c3,A4,c4,A5,c5,A6,c6,LL,Af,cf,FB,va,?_,?_,?_,?_,?_,?_,?_,cJ,?_,?_,sM⟩
 ·show Bo g (.slice A1 (fb (dT b)).1.length c1) (.slice A2 (fb (dT b)).2.1.length c2) _ _ _ _ _ _ _ _∈_;rw[←lZ];exact .head _
 ·exact aL.own (.tail _ (.tail _ (.tail _ (nB _ (.tail _ (.tail _ (.tail _ (.tail _ (.tail _ (.head _))))))))))
 ·exact aL.own (.tail _ (.tail _ (.tail _ (nB _ (.tail _ (.head _))))))
 ·exact aL.own (.tail _ (.tail _ (.tail _ (nB _ (.tail _ (.tail _ (.head _)))))))
 ·exact aL.own (.tail _ (.head _))
 ·exact aL.own (.tail _ (.tail _ (.head _)))
 ·exact fun e he=>aL.own (.tail _ (.tail _ (.tail _ (j_ _ (je (f:=jP) he)))))
 ·exact aL.own (.tail _ (.tail _ (.tail _ (nB _ (.tail _ (.tail _ (.tail _ (.tail _ (.head _)))))))))
 ·exact fun e he=>(al3 e he).mono (by
   refine .cons _ (.cons _ (.cons _ (.trans ?_ (gz _ _))));exact .cons _ (.cons _ (.cons _ (.cons _ (.cons _ (.cons _ (.cons _ (.cons _ (.refl _)))))))))
set_option maxHeartbeats 2000000 in
theorem agO(HT:bK B w0){o:aO}{b:al}(hb:fq B w0 F A c b)(dh:b.length≤1000000)(h:¬cm 2 (o2 o)≠0)(h2:¬(f_ b).2.2≠0)(h3:¬GH (dT b) (qA b).length≠0)(h4:¬xK (fb (dT b)).1.sum (wD b)≠0):a_ B w0 111 [.agg (aO.cells o).toArray,.slice A b.length c] F (an5 (ej o b) B w0 F):=by
 have h5a:=Uk h h2 h3 h4;have h6a:=Ul h h2 h3 h4;have h7a:=Um h h2 h3 h4;obtain⟨bl,pl,bu,da,pa,ch⟩:=o;refine cB func111 90 rfl rfl rfl [(0,.agg #[ah bl,.bool pl,ah bu,ah da,ah pa,ah ch]),(1,.slice A b.length c)] ⟨⟨rfl,rfl⟩,⟨rfl,rfl⟩,trivial⟩ ?_;refine be ?_;refine bf fun g2=>?_;refine bM ?_;refine ai rfl (nv (bl,pl,bu,da,pa,ch)) ?_;refine bP ?_;refine aj (fun iU=>?_) fun iU=>?_
 ·exfalso;exact h iU
 ·refine bI ?_;refine ba UB rfl (J_ HT hb.cons aa) rfl ?_;rintro _ _ ⟨Ar,cr,Ad,cd,Y,rfl,cJ,RV,hbR,hbD⟩;obtain rfl:=cJ.symm;refine jU ?_;refine aj (fun ku=>?_) fun ku=>?_
  ·exfalso;exact h2 ku
  ·have GW:=om Y [.bE g2 23 [ah bl,.bool pl,ah bu,ah da,ah pa,ah ch]] F;refine fR GW ?_;have wM:=hbR.perm GW;have vB:=hbD.perm GW;have GY:Wk (Y++F) F:=dA Y F;obtain⟨K,hK⟩:=cR (Y++F);simp only[N7]at wM vB⊢;rw[←hK]at wM vB GY⊢;have eR:(f_ b).1=qA b:=rfl;have eD:(f_ b).2.1=dT b:=rfl;have hlr:=uW b;rw[eR,eD]at hlr;rw[eR]at wM RV⊢;rw[eD]at vB⊢;refine b8 ?_;refine ae (cv [.slice none 0 0,.slice none 0 0,ah 0,ah 0,.slice none 0 0,.slice none 0 0,.slice none 0 0,.slice none 0 0,.slice none 0 0,.slice none 0 0] ag) rfl ?_;refine bf fun g30=>?_;refine aE ?_;refine ve [2,7,8,10] ?_;refine bz ?_;refine ba abC rfl (zz (d:=dT b) (room:=(qA b).length) vB aa aa) rfl ?_;rintro _ _ ⟨rfl,A1,c1,A2,c2,cJ⟩;obtain rfl:=cJ.symm;refine bP ?_;refine aj (fun Ve=>?_) fun Ve=>?_
   ·exfalso;exact h3 Ve
   ·have hz:=DD (bF h3);have hdl:=JZ (dT b);have Yt:=DE (dT b);have acB:aL B w0 (.own 3 1 A1 (fb (dT b)).1.length c1 (bx (fb (dT b)).1):: .own 3 1 A2 (fb (dT b)).2.1.length c2 (bx (fb (dT b)).2.1):: .bE g2 23 [ah bl,.bool pl,ah bu,ah da,ah pa,ah ch]::K) 1 (.slice Ar (qA b).length cr) (qA b).length (bv (qA b)):=wM.cons.cons;refine bB ?_;refine ba ajW rfl (Ms (ss:=(fb (dT b)).2.1) (cc:=Ct (dT b)) (r:=qA b) acB RV (aL.own (.tail _ (.head _))) aa aa aa) rfl ?_;rintro _ _ ⟨Af,cf,Ac,cc1,Ai,ci1,FB,rfl,cJ,sM,hbC,hbI⟩;obtain rfl:=cJ.symm;refine bI ?_;refine ve [2,10,12,13] ?_;refine be ?_;have ac0:=om (FB.map fx) [.own 3 1 A1 (fb (dT b)).1.length c1 (bx (fb (dT b)).1),.own 3 1 A2 (fb (dT b)).2.1.length c2 (bx (fb (dT b)).2.1),.bE g2 23 [ah bl,.bool pl,ah bu,ah da,ah pa,ah ch]] K;refine fR ((ac0.cons _).cons _) ?_;obtain⟨K2,Rw⟩:=cR (FB.map fx++K);have ac8:Wk K2 F:=by rw[Rw];exact(dA _ _).trans GY
    have RW:(.own 3 1 A1 (fb (dT b)).1.length c1 (bx (fb (dT b)).1):: .own 3 1 A2 (fb (dT b)).2.1.length c2 (bx (fb (dT b)).2.1):: .bE g2 23 [ah bl,.bool pl,ah bu,ah da,ah pa,ah ch]::K).Sublist (.own 3 1 A1 (fb (dT b)).1.length c1 (bx (fb (dT b)).1):: .own 3 1 A2 (fb (dT b)).2.1.length c2 (bx (fb (dT b)).2.1):: .bE g2 23 [ah bl,.bool pl,ah bu,ah da,ah pa,ah ch]::K2):=by rw[Rw];exact((gz _ _).cons_cons _ |>.cons_cons _).cons_cons _
    have Ry:=hbC.mono RW;have Rz:=hbI.mono RW;have al3:∀e∈FB,aL B w0 K2 1 (dq e) e.2.2.length (bv e.2.2):=fun e he=>by rw[Rw];exact aL.own (j_ _ (je (f:=fx) he))
    clear hbC hbI RW ac0 acB wM vB;simp only[nE,nU];rw[←Rw];have eC:((qA b).drop (fb (dT b)).2.1.sum).take (Ct (dT b))=wD b:=rfl;have eI:((qA b).drop (fb (dT b)).2.1.sum).drop (Ct (dT b))=vz b:=rfl;rw[eC]at Ry;rw[eI]at Rz;have lC:Ct (dT b)=(wD b).length:=by rw[←eC,eV,iN];omega
    have lI:(qA b).length-(fb (dT b)).2.1.sum-Ct (dT b)=(vz b).length:=by rw[←eI,iN,iN]
    rw[lI]at Rz⊢;obtain⟨fl,lZ⟩:=cR ((fb (dT b)).2.1.length);rw[←lZ]at Ry Rz⊢;refine bD ?_;refine cH (fc S8 rfl rfl rfl rfl rfl aa aa aa) fun A53=>?_;refine bD ?_;refine cC K2 ?_;refine ab 0 ?_;refine ab 1 ?_;refine ab 2 ?_;refine ab 3 ?_;refine ab 5 ?_;refine az 4 ?_;refine iZ rfl rfl ((JC (ns:=(fb (dT b)).1) aB aa aa).jj ((l0 (fT (.refl _))))) ?_;refine az 6 ?_;refine gC rfl .no ao0 rfl (.perm (QW HT (ch:=wD b) lC Ry.cons.cons (by rw[←lC];omega) aa (bF h4)) ((l0 (fT (.refl _))))) rfl (by rintro _ _ ⟨rfl,A3,c3,A4,c4,rfl⟩;exact gF) ?_;rintro _ _ ⟨rfl,A3,c3,A4,c4,cJ⟩;obtain rfl:=cJ.symm;refine ab 7 ?_;refine cP [2,10,13,14] ?_;refine bD ?_;refine dj fun h64=>?_;refine bB ?_;refine ay rfl (wF HT (l:=vz b) aB aa) fun A68 c68=>?_;refine c_ ?_;refine aj (fun Yr=>?_) fun Yr=>?_
    ·refine bP ?_;refine ao (.skip (.skip (.skip (.skip (.skip (.skip (.skip (.skip (.skip ac8))))))))) ?_;refine aE ?_;rw[h5a Yr];exact .inl ⟨Yr,rfl,rfl⟩
    ·refine b8 ?_;refine cC (([]:aR)) ?_;refine ab 0 ?_;refine ab 1 ?_;refine ab 3 ?_;refine ab 5 ?_;refine gU 2 4 ?_ ?_
     ·refine aE ?_;refine az 4 ?_;refine iZ rfl rfl ((JC (ns:=(fb (dT b)).1) aB aa aa).jj ((l0 (fT (.refl _))))) ?_;refine az 6 ?_;refine gC rfl .no ajX rfl (.perm (Wa (b:=(aK (vz b)).1) (aL.own (.tail _ (.head _))) (by have:=pe (vz b);omega)) ((l0 (fT (.refl _))))) rfl (by rintro _ _ ⟨A5,c5,A6,c6,LL,rfl,acz,rfl⟩;exact gF) ?_;rintro _ _ ⟨A5,c5,A6,c6,LL,rfl,acz,cJ⟩;obtain rfl:=cJ.symm;refine ab 7 ?_;refine ab 8 ?_;refine ab 9 ?_;refine ab 10 ?_;refine ab 11 ?_;refine az 12 ?_;refine kO rfl .no (pk 2 ag rfl rfl L9 aV rfl ak) Gy ?_;rintro _ _ rfl;refine ab 13 ?_;refine cP [9,10] ?_;refine bD ?_;refine aj (fun h87=>?_) fun h87=>?_
      ·refine bP ?_;refine ao (.skip (.skip (.skip ((dA _ _).trans (.skip (.skip (.skip (.skip (.skip (.skip (.skip (.skip ac8)))))))))))) ?_;refine aE ?_;rw[h6a Yr h87];exact .inl ⟨h87,rfl,rfl⟩
      ·refine dm ?_;rw[h7a Yr h87];have hb3:∀e∈FB,aL B w0 (FB.map fx++Y) 1 (dq e) e.2.2.length (bv e.2.2):=fun e he=>aL.own (j_ _ (je (f:=fx) he));rw[Rw,hK];exact .inr ⟨rfl,g30,_,rfl,L6,Mo (o:=(bl,pl,bu,da,pa,ch)) lZ sM acz hb3⟩
     ·refine iZ rfl rfl ((JC (ns:=(fb (dT b)).1) aB aa aa).jj ((l0 (fT (.refl _))))) ?_;refine az 2 ?_;refine aE ?_;refine az 6 ?_;refine gC rfl .no ajX rfl (.perm (Wa (b:=(aK (vz b)).1) (aL.own (.tail _ (.head _))) (by have:=pe (vz b);omega)) ((l0 (fT (.refl _))))) rfl (by rintro _ _ ⟨A5,c5,A6,c6,LL,rfl,acz,rfl⟩;exact gF) ?_;rintro _ _ ⟨A5,c5,A6,c6,LL,rfl,acz,cJ⟩;obtain rfl:=cJ.symm;refine ab 7 ?_;refine ab 8 ?_;refine ab 9 ?_;refine ab 10 ?_;refine ab 11 ?_;refine az 12 ?_;refine kO rfl .no (pk 2 ag rfl rfl L9 aV rfl ak) Gy ?_;rintro _ _ rfl;refine ab 13 ?_;refine cP [9,10] ?_;refine bD ?_;refine aj (fun h87=>?_) fun h87=>?_
      ·refine bP ?_;refine ao (.skip (.skip (.skip ((dA _ _).trans (.skip (.skip (.skip (.skip (.skip (.skip (.skip (.skip ac8)))))))))))) ?_;refine aE ?_;rw[h6a Yr h87];exact .inl ⟨h87,rfl,rfl⟩
      ·refine dm ?_;rw[h7a Yr h87];have hb3:∀e∈FB,aL B w0 (FB.map fx++Y) 1 (dq e) e.2.2.length (bv e.2.2):=fun e he=>aL.own (j_ _ (je (f:=fx) he));rw[Rw,hK];exact .inr ⟨rfl,g30,_,rfl,L6,Mo (o:=(bl,pl,bu,da,pa,ch)) lZ sM acz hb3⟩
theorem Un(HT:bK B w0){o:aO}{b:al}(hb:fq B w0 F A c b)(dh:b.length≤1000000):a_ B w0 111 [.agg (aO.cells o).toArray,.slice A b.length c] F (an5 (ej o b) B w0 F):=by
 by_cases h:cm 2 (o2 o)≠0
 ·exact(agK h).mono fun r L hr=>.inl ⟨by rw[JE h];exact h,hr⟩
 ·by_cases h2:(f_ b).2.2≠0
  ·exact(agL HT hb dh h h2).mono fun r L hr=>.inl ⟨by rw[JF h h2];exact h2,hr⟩
  ·by_cases h3:GH (dT b) (qA b).length≠0
   ·exact(agM HT hb dh h h2 h3).mono fun r L hr=>.inl ⟨by rw[JG h h2 h3];exact h3,hr⟩
   ·by_cases h4:xK (fb (dT b)).1.sum (wD b)≠0
    ·exact(agN HT hb dh h h2 h3 h4).mono fun r L hr=>.inl ⟨by rw[JH h h2 h3 h4];exact h4,hr⟩
    ·exact agO HT hb dh h h2 h3 h4
end
theorem aqW{a b:Nat}(ha:a<9223372036854775808):IntKind.i64.wrap ((a:Int).tdiv (b:Int))=((a/b:Nat):Int):=by
 have e:(a:Int).tdiv (b:Int)=((a/b:Nat):Int):=(Int.ofNat_tdiv a b).symm;have h0:a/b<9223372036854775808:=NW (rj a b) ha;rw[e];generalize a/b=x at h0;exact wrap_i64 _ aa aa
theorem Ue{P:Prop}(h:P:=by(rw[hys];exact vC)):P:=h
theorem arh:((List.range 256).all fun a=>Nat.beq (a &&& 128) 0==Nat.blt a 128)=true:=by decide+kernel
theorem ari{a:Nat}(h:a<256):a &&& 128=0↔a<128:=by
 have:=ye.1 arh a (ky.2 h);have e:Nat.beq (a &&& 128) 0=Nat.blt a 128:=by simpa using this
 constructor
 ·intro k;rw[k]at e;exact(by simpa using e.symm)
 ·intro k;rw[show Nat.blt a 128=true by simpa using k]at e;exact rn e
theorem aq5(a:Nat):IntKind.u8.wrap ((a:Int)*2^min ((1:Int)).toNat IntKind.u8.bits)=((2*a%256:Nat):Int):=by
 show((a:Int)*2)%256=_;omega
theorem Le{a:Nat}(ha:a<256):a_ B w0 306 [.int .u8 (a:Int)] F (fun r L=>r= .int .u8 ((pW a:Nat):Int)∧L=F):=by
 have h1:=ari ha;refine fw func306 11 [0] ?_;refine bP ?_;refine ae (jZ rfl rfl (r:=((a &&& 128:Nat):Int)) (aob ha (b:=128) aA)) rfl ?_;refine bH ?_;refine aj (fun h5=>?_) fun h5=>?_
 ·have hc:¬a<128:=fun k=>h5 (by have:=h1.2 k;omega);have e:pW a=(2*a%256) ^^^ 29:=by unfold pW;rw[aw hc];congr 1;omega
  refine bH ?_;refine ae (gb rfl rfl aA (r:=((2*a%256:Nat):Int)) (aq5 a)) rfl ?_;refine ae (ng rfl rfl (r:=((pW a:Nat):Int)) (by rw[e];exact ajJ aa (b:=29) aA)) rfl ?_;refine bB ?_;exact⟨rfl,rfl⟩
 ·have hc:a<128:=h1.1 (by have:=bF h5;omega);have e:pW a=2*a%256:=by unfold pW;rw[aq hc];omega
  refine bI ?_;refine ae (gb rfl rfl aA (r:=((pW a:Nat):Int)) (by rw[e];exact aq5 a)) rfl ?_;refine bI ?_;exact⟨rfl,rfl⟩
theorem VZ(a o:Nat):∀f,fk f a 0 o=o
 |0=>rfl
 |f+1=>by unfold fk;rw[aq rfl]
theorem VY:∀(f b o:Nat),fk f 0 b o=o
 |0,_,_=>rfl
 |f+1,b,o=>by
  unfold fk;rw[show pW 0=0 from rfl,VY f];split
  ·rfl
  ·split
   ·exact Nat.xor_zero o
   ·rfl
theorem akI(y:Nat):y >>> 1=y/2:=by rw[VD]
theorem ala{n:Nat}(h:n<256):IntKind.u64.wrap ((BitVec.ofInt IntKind.u64.bits (n:Int) &&& BitVec.ofInt IntKind.u64.bits ((1:Nat):Int)).toNat:Int)=((n &&& 1:Nat):Int):=by
 have h1:n &&& 1=n%2:=Em n;rw[alb (k:=.u64) (a:=n) (b:=1) (by show n<18446744073709551616;omega) aA];exact ga aa aa
theorem Ns{f y:Nat}(h:y<2^f)(h0:y≠0):∃q,f=q+1:=by
 cases f with
 |zero=>simp at h;omega
 |succ q=>exact⟨q,rfl⟩
theorem Kc{a b:Nat}(ha:a<256)(hb:b<256):a_ B w0 305 [.int .u8 (a:Int),.int .u8 (b:Int)] F (fun r L=>r= .int .u8 ((fg a b:Nat):Int)∧L=F):=by
 refine fw func305 19 [0,1] ?_;refine cD ?_;refine aD (fun zf zL zm=>∃(f x y o:Nat),(x<256∧y<2^f∧y<256∧o<256∧fk f x y o=fg a b)∧y=zm∧Sub zf [(0,.int .u8 (x:Int)),(1,.int .u8 (y:Int)),(5,.int .u8 (o:Int))]∧Wk zL (F)) _ ⟨8,a,b,0,⟨ha,hb,hb,aA,rfl⟩,rfl,bm,.refl _⟩ ?_;rintro _ _ _ ⟨f,x,y,o,⟨hx,hyf,hy,ho,hm⟩,rfl,hs,hp⟩;refine aU hs hp ?_;clear hs hp;refine bD ?_;refine aj (fun h7=>?_) fun h7=>?_
 ·obtain⟨f,rfl⟩:=Ns hyf aa;have hys:y >>> 1=y/2:=akI y;have hya:y &&& 1=y%2:=Em y;have auf:y/2<2^f:=by rw[nF]at hyf;omega
  have vC:fk f (pW x) (y/2) (if y%2=1 then o ^^^ x else o)=fg a b:=by rw[←hm];conv=>rhs;unfold fk;rw[aw (show¬y=0 by omega)]
  have hx2:=nT x hx;refine bM ?_;refine ae (jZ rfl rfl (r:=((y &&& 1:Nat):Int)) (aob hy (b:=1) aA)) rfl ?_;refine bH ?_;refine aj (fun mF=>?_) fun mF=>?_
  ·rw[hya]at mF;rw[aq aa]at vC;have hox:=vu ho hx;refine bH ?_;refine ae (ng rfl rfl (r:=((o ^^^ x:Nat):Int)) (ajJ ho hx)) rfl ?_;refine bI ?_;refine ai rfl (Le hx) ?_;refine bB ?_;refine ae (di rfl rfl aA (r:=((y >>> 1:Nat):Int)) (G' y 1)) rfl ?_;refine be ?_;refine av ⟨_,aa,f,pW x,y >>> 1,o ^^^ x,⟨hx2,aa,aa,hox,Ue⟩,rfl,bm,.refl _⟩
  ·rw[hya]at mF;rw[aw aa]at vC;refine b8 ?_;refine ai rfl (Le hx) ?_;refine bB ?_;refine ae (di rfl rfl aA (r:=((y >>> 1:Nat):Int)) (G' y 1)) rfl ?_;refine be ?_;refine av ⟨_,aa,f,pW x,y >>> 1,o,⟨hx2,aa,aa,ho,Ue⟩,rfl,bm,.refl _⟩
 ·obtain rfl:y=0:=by have:=bF h7;omega
  rw[VZ]at hm;refine c_ ?_;exact⟨by rw[hm],rfl⟩
theorem aiC(a o:Nat):∀f,tP f a 0 o=o
 |0=>rfl
 |f+1=>by unfold tP;rw[aq rfl]
theorem aqU{a:Nat}(ha:a<256)(h0:a≠0):a_ B w0 274 [.int .u8 (a:Int),.int .u64 254] F (fun r L=>r= .int .u8 ((q8 a:Nat):Int)∧L=F):=by
 have e0:tP 8 a 254 1=q8 a:=by unfold q8;rw[aw h0]
 refine fw func274 28 [0,1] ?_;refine dX ?_;refine dj fun h6=>?_;refine bD ?_;refine dj fun h9=>?_;refine cD ?_;refine ae (qd rfl rfl aA (r:=254) aA) rfl ?_;refine b8 ?_;refine aD (fun zf zL zm=>∃(f x n o:Nat),(x<256∧n<2^f∧n<256∧o<256∧tP f x n o=q8 a)∧n=zm∧Sub zf [(0,.int .u8 (x:Int)),(1,.int .u64 (n:Int)),(5,.int .u8 (o:Int))]∧Wk zL (F)) _ ⟨8,a,254,1,⟨ha,aA,aA,aA,e0⟩,rfl,bm,.refl _⟩ ?_;rintro _ _ _ ⟨f,x,n,o,⟨hx,hnf,hn,ho,hm⟩,rfl,hs,hp⟩;refine aU hs hp ?_;clear hs hp;refine bD ?_;refine aj (fun kS=>?_) fun kS=>?_
 ·obtain⟨f,rfl⟩:=Ns hnf aa;have hys:n >>> 1=n/2:=akI n;have hya:n &&& 1=n%2:=Em n;have atX:n/2<2^f:=by rw[nF]at hnf;omega
  have vC:tP f (fg x x) (n/2) (if n%2=1 then fg o x else o)=q8 a:=by rw[←hm];conv=>rhs;unfold tP;rw[aw (show¬n=0 by omega)]
  have hx2:=mul_lt x hx;refine bM ?_;refine ae (jZ rfl rfl (r:=((n &&& 1:Nat):Int)) (ala hn)) rfl ?_;refine bH ?_;refine aj (fun ja=>?_) fun ja=>?_
  ·rw[hya]at ja;rw[aq aa]at vC;have hox:=mul_lt x ho;refine bH ?_;refine ai rfl (Kc ho hx) ?_;refine bB ?_;refine ai rfl (Kc hx hx) ?_;refine bB ?_;refine ae (di rfl rfl aA (r:=((n >>> 1:Nat):Int)) (G' n 1)) rfl ?_;refine be ?_;refine av ⟨_,aa,f,fg x x,n >>> 1,fg o x,⟨hx2,aa,aa,hox,Ue⟩,rfl,bm,.refl _⟩
  ·rw[hya]at ja;rw[aw aa]at vC;refine bI ?_;refine ai rfl (Kc hx hx) ?_;refine bB ?_;refine ae (di rfl rfl aA (r:=((n >>> 1:Nat):Int)) (G' n 1)) rfl ?_;refine be ?_;refine av ⟨_,aa,f,fg x x,n >>> 1,o,⟨hx2,aa,aa,ho,Ue⟩,rfl,bm,.refl _⟩
 ·obtain rfl:n=0:=by omega
  rw[aiC]at hm;refine c_ ?_;exact⟨by rw[hm],rfl⟩
theorem akn{a:Nat}(ha:a<256):a_ B w0 236 [.int .u8 (a:Int)] F (fun r L=>r= .tuple #[.int .u8 ((q8 a:Nat):Int),ah (if a=0 then 13 else 0)]∧L=F):=by
 refine fw func236 8 [0] ?_;refine c_ ?_;refine aj (fun h5=>?_) fun h5=>?_
 ·obtain rfl:a=0:=by omega
  refine bP ?_;exact⟨rfl,rfl⟩
 ·have h0:a≠0:=by omega
  refine bI ?_;refine ai rfl (aqU ha h0) ?_;refine bB ?_;exact⟨by rw[aw h0],rfl⟩
theorem IS:∀(f a b o:Nat),b<2^f→fk (f+1) a b o=fk f a b o
 |0,a,b,o,h=>by
  have:b=0:=by simpa using h
  subst this;rfl
 |f+1,a,b,o,h=>by
  rw[fk]
  conv=>rhs;rw[fk]
  split
  ·rfl
  ·exact IS f _ _ _ (by rw[nF]at h;omega)
theorem Zj(f:Nat){c i:Nat}(hc:c<256)(h1:1≤i)(hi:i/2<2^f):fk (f+1) c i 0=if i%2=1 then pW (fk (f+1) c (i/2) 0) ^^^ c else pW (fk (f+1) c (i/2) 0):=by
 have e1:fk (f+1) c i 0=fk f (pW c) (i/2) (if i%2=1 then 0 ^^^ c else 0):=by rw[fk,aw aa]
 have e2:∀o,o<256→fk f (pW c) (i/2) o=pW (fk (f+1) c (i/2) 0) ^^^ o:=fun o ho=>by
  have h:=yD f (pW c) 0 (i/2) 0 o (nT c hc) aA;rw[Nat.xor_zero,Nat.zero_xor,VY]at h;have h2:=KI f c (i/2) 0 hc aA;rw[show pW 0=0 from rfl]at h2;rw[h,h2,IS f c (i/2) 0 hi]
 rw[e1];split
 ·rw[Nat.zero_xor,e2 c hc]
 ·rw[e2 0 aA,Nat.xor_zero]
theorem adL{c i:Nat}(hc:c<256)(hi:i<256)(h1:1≤i):fg c i=if i%2=1 then pW (fg c (i/2)) ^^^ c else pW (fg c (i/2)):=by
 unfold fg;exact Zj 7 hc h1 aa
def yM(c:Nat):List Int:=(List.range 256).map fun i=>((fg c i:Nat):Int)
theorem Fh(c:Nat):(yM c).length=256:=by simp[yM]
theorem Fg{c i:Nat}(hi:i<256):(yM c).getD i 0=((fg c i:Nat):Int):=by simp[yM,bk,hi]
theorem ahs{c:Nat}:fg c 0=0:=VZ c 0 8
abbrev Rwb(g:Nat)(b:List Int):Ch:=.bE g 382 (ints .u8 b)
theorem yP{b:List Int}{i j:Nat}{v:Int}(hi:i<b.length):(b.set i v).getD j 0=if j=i then v else b.getD j 0:=by
 simp only[bk,BG];by_cases h:i=j
 ·subst h;simp[hi]
 ·rw[aw h,aw (Ne.symm h)]
theorem Vb{c:Nat}(hc:c<256):a_ B w0 275 [.int .u8 (c:Int)] F (fun r L=>r= .agg (ints .u8 (yM c)).toArray∧L=F):=by
 refine fw func275 26 [0] ?_;refine be ?_;refine bg fun g2=>?_;refine b8 ?_;refine bg fun g3=>?_;refine bP ?_;refine aD (fun zf zL zm=>∃(i:Nat) (b:List Int),(1≤i∧i≤256∧b.length=256∧∀j,j<i→b.getD j 0=((fg c j:Nat):Int))∧256-i=zm∧Sub zf [(0,.int .u8 (c:Int)),(2,bq g2),(3,bq g3),(4,ah (i:Int))]∧Wk zL (Rwb g3 b::Rwb g2 (List.replicate 256 0)::F)) _ ⟨1,List.replicate 256 0,⟨gj _,aA,rfl,fun j hj=>by
  obtain rfl:j=0:=by omega
  rw[ahs];rfl⟩,rfl,bm,.refl _⟩ ?_
 rintro _ _ _ ⟨i,b,⟨hi1,hi2,dh,hb⟩,rfl,hs,hp⟩;refine aU hs hp ?_;clear hs hp;refine bD ?_;refine aj (fun h6=>?_) fun h6=>?_
 ·obtain⟨v,hv⟩:=cR (fg c (i/2));have YL:v<256:=by rw[hv];exact mul_lt _ hc
  have Vp:b.getD (i/2) 0=(v:Int):=by rw[hb _ aa,hv]
  have hh:=adL hc (show i<256 by omega) hi1;rw[←hv]at hh;have GU:=nT v YL;refine bM ?_;refine ae (qc rfl rfl aA (r:=((i/2:Nat):Int)) (aqW (b:=2) aa)) rfl ?_;refine ae (aN (i:=i/2) underlying382 ag rfl rfl rfl aa) rfl ?_;refine ae (eZ ag rfl aV Gw) rfl ?_;rw[Vp];refine ai rfl (Le YL) ?_;refine ae (aN (i:=i) underlying382 ag rfl rfl rfl aa) rfl ?_;refine bB ?_;refine ae (qd rfl rfl aA (r:=((i%2:Nat):Int)) (by rw[Int.tmod_eq_emod_of_nonneg aa];omega)) rfl ?_;refine bH ?_;refine aj (fun iU=>?_) fun iU=>?_
  ·rw[aq aa]at hh;have k9:(b.set i ((pW v:Nat):Int)).getD i 0=((pW v:Nat):Int):=by rw[yP aa,aq rfl]
   refine be ?_;refine ae (aN (i:=i) underlying382 ag rfl rfl rfl aa) rfl ?_;refine ae (eZ ag rfl aV Gw) rfl ?_;rw[k9];refine aE ?_;refine ae (ng rfl rfl (r:=((pW v ^^^ c:Nat):Int)) (ajJ GU hc)) rfl ?_;refine ae (aN (i:=i) underlying382 ag rfl rfl rfl aa) rfl ?_;refine aE ?_;refine ve [0,2,3,4] ?_;refine bD ?_;refine av ⟨_,aa,i+1,(b.set i ((pW v:Nat):Int)).set i ((pW v ^^^ c:Nat):Int),⟨aa,aa,by simp[dh],fun j hj=>by
    rw[yP bO,yP aa];by_cases e:j=i
    ·subst e;rw[aq rfl,hh]
    ·rw[aw e,aw e];exact hb j aa⟩,rfl,bm,.refl _⟩
  ·rw[aw aa]at hh;refine bM ?_;refine av ⟨_,aa,i+1,b.set i ((pW v:Nat):Int),⟨aa,aa,by simp[dh],fun j hj=>by
    rw[yP aa];by_cases e:j=i
    ·subst e;rw[aq rfl,hh]
    ·rw[aw e];exact hb j aa⟩,rfl,bm,.refl _⟩
 ·obtain rfl:i=256:=by omega
  obtain rfl:b=yM c:=by
   apply p6
   ·rw[dh,Fh]
   ·intro j h1 h2;have h3:=hb j aa;rw[←Fg aa,bk,bk,fo h1,fo h2]at h3;exact h3
  refine cD ?_;refine I8 rfl rfl ag aV gD (.skip (.skip (.refl _))) ?_;exact⟨rfl,rfl⟩
section
section
variable{C:Cx}{fr:Fr}{L:aR}{x y:Operand}{f:Ch→aR}{t t2 e ty:TypeId}
theorem r8{bytes:Nat}{zv:Value}(T:sF C.P t e 1 bytes zv){A:bj}{n c i j:Nat}{xs:cV}(hs:mx (.own e 1 A n c xs) L f)(he:ev fr x=some (.slice (if c=i then A else A.map (·.add (i*1))) (j-i) (c-i)))(hi:i≤j)(hj:j≤n){yv:Value}{m:Nat}{news:cV}(hy:ev fr y=some yv)(hb:aL C.B C.w0 L 1 yv m news)(h1:∀u∈news,u.oneCell'=true):
  qz C fr L (.call {callee:=.builtin .copy,args:= #[x,y],argTypes:= #[t,t2]}) ty (fun p L'=>p=ah (min m (j-i):Nat)∧L'=f (.own e 1 A n c (xs.take i++news.take (min m (j-i))++xs.drop (i+min m (j-i))))):=fun a w ha hw d pos af gg=>by
 obtain⟨ii,hii,hz,jb,D7⟩:=T.hi;have ac6:(C.P.info? e).map (·.size)=some 1:=by rw[hii];simp[jb]
 obtain⟨X,cx,rfl,hmc,hl,tY⟩:=hb w hw;have amj:Nat.min m (j-i)=min m (j-i):=rfl;obtain⟨k1,k2,k3⟩:=hw.all _ hs.mem;rw[cE]at k1 hl;by_cases h0:min m (j-i)=0
 ·have hr:=run_copy_none (P:=C.P) w t t2 ty e (if c=i then A else A.map (·.add (i*1))) X (j-i) (c-i) m cx T.ht ac6 h0;refine⟨_,w,_,.inl ?_,⟨rfl,rfl⟩,?_⟩
  ·simp[execOp,resolve,invoke,builtin,ha.tmp he,ha.tmp hy];have:=hr;simp at this;rw[this];simp[goInt,h0]
  ·rw[h0,Ah,gk,tf,jO];refine hw.Qn hs (N0 w _) (fun h=>h) (.inr (.inl rfl))
 ·have qO:¬c=0:=by omega
  have hci:¬c=i:=by omega
  obtain⟨g,cur,rfl,Yw,hg,hcm,tT,pr⟩:=k3.resolve_left qO;clear k3;rw[cE]at tT pr;obtain⟨ad,rfl,_,fB⟩:=tY aa;clear tY amj;obtain⟨k,hk⟩:=cR (min m (j-i));have Gj:k≤m:=by omega
  have hkn:i+k≤n:=by omega
  have NG:k=Nat.min m (j-i):=hk;rw[←hk]at h0⊢;clear hk;have ams:∀j v,(news.take k)[j]? =some v→w.cell? (ad.add j)=some v:=fun q v hv=>by
   rw[G0]at hv;split at hv
   ·exact fB q v hv
   ·cases hv
  have hlen:(news.take k).length=k:=by rw[eV,hl];omega
  have GO:(⟨g,0,none⟩:Addr).add (i*1)=⟨g,i,none⟩:=by rw[zY,mC,cE]
  have GS:i+(news.take k).length≤cur.size:=by rw[hlen,tT];omega
  have hr:=run_copy_row (P:=C.P) w t t2 ty e g i (j-i) (c-i) ad m cx cur e (news.take k) T.ht ac6 hg (by rw[hlen];exact NG) ams GS (fun v hv=>h1 v (lW hv));clear NG;have tz:cur.toList.length=c:=by simpa using tT
  have e1:(xs.take i++news.take k++xs.drop (i+k)).length=n*1:=by
   simp only[aX,eV,iN,hl,k1];omega
  have e2:(cur.toList.take i++news.take k++cur.toList.drop (i+(news.take k).length)).length=c:=by
   simp only[aX,eV,iN,hl,tz];omega
  have e3:(cur.toList.take i++news.take k++cur.toList.drop (i+(news.take k).length)).take n=xs.take i++news.take k++xs.drop (i+k):=by
   have hx:xs=cur.toList.take n:=pr.symm;rw[hlen,Oe,fD (by rw[aX,eV,hlen];omega),hx,IE,R9,zd aa];congr 2;rw[aX,eV,hlen,tz,zd aa]
  refine⟨_,_,_,.inl ?_,⟨rfl,rfl⟩,hw.Qn hs (w':=w.setRow g (cur.toList.take i++news.take k++cur.toList.drop (i+(news.take k).length)).toArray) ?_ (fun _=>⟨e1,k2,.inr ⟨g,_,rfl,Yw,N9 w g cur _ e _ hg,hcm,by rw[wW,e2,cE],by rw[cE];exact e3⟩⟩) (.inr (.inl rfl))⟩
  ·simp only[execOp,resolve,invoke,builtin,ha.tmp he,ha.tmp hy,aw hci,sP,GO,N3,Kt,vE,List.map_toArray,kz,G1,hr];simp[goInt,hlen]
  ·rw[show(Ch.own e 1 (some ⟨g,0,none⟩) n c xs).fp=some g by simp[Ch.fp,qO]];exact⟨rfl,rfl,rfl,ak,fun k _ hk=>N_ w g k _ (fun e=>hk xA)⟩
abbrev Hc(A:bj)(c i j:Nat):Value:=.slice (if c=i then A else A.map (·.add (i*1))) (i+j-i) (c-i)
theorem aL.part{B:Nat}{w0:World}{A:bj}{n c i j:Nat}{l:al}(h:aL B w0 L 1 (.slice A n c) n (bv l))(Iv:i+j≤n):aL B w0 L 1 (Hc A c i j) (i+j-i) (bv ((l.drop i).take j)):=by
 have:=(h.js (k:=i+j) Iv).cut (k:=i) aa;have e:((bv l).take ((i+j)*1)).drop (i*1)=bv ((l.drop i).take j):=by
  rw[cE,cE];unfold bv;rw[←pw,←yj,R9];congr 2;omega
 rw[e]at this;exact this
theorem GK{v:Value}{A:bj}{n c i q:Nat}{xs:cV}(hs:pZ C.P t=true)(he:ev fr x=some (.pointer ((if c=i then A else A.map (·.add (i*1))).map (·.add q))))(hv:ev fr y=some v)(h1:v.oneCell'=true)(hm:mx (.own e 1 A n c xs) L f)(hic:i<c)(hj:i*1+q<xs.length):
  qz C fr L (.store t x y) ty (fun p L'=>L'=f (.own e 1 A n c (xs.set (i*1+q) v))):=by
 refine pn (j:=i*1) (q:=q) hs ?_ hv h1 hm hj;rw[he,aw aa,Option.map_map];rfl
end
variable{B:Nat}{w0:World}{F L0:aR}{A A1 A2 Ao:bj}{n c c1 c2 co g gc:Nat}
theorem BA(x:Nat):(ints .u8 (yM x)).length=256:=by simp[ints,yM]
theorem set_mk{p:al}{y:UInt8}{k n:Nat}(h:p.length=k)(hk:k<n):(bv p++List.replicate (n-k) (Value.int .u8 0)).set (k*1) (.int .u8 (y.toNat:Int))=bv (p++[y])++List.replicate (n-(k+1)) (Value.int .u8 0):=by
 subst h;rw[show n-p.length=(n-(p.length+1))+1 by omega,zX,cE,wX _ _ Bm];simp[bv]
theorem Yj{s b:al}{x:UInt8}{k:Nat}(h1:k<s.length)(h2:k<b.length):(qZ s x b).take (k+1)=(qZ s x b).take k++[s.getD k 0 ^^^ gm x (b.getD k 0)]:=by
 rw[aZ (by unfold qZ;rw[List.length_zipWith];omega) 0,Nt h1 h2]
theorem ahu{s b:al}{x:UInt8}(hl:s.length=b.length)(hs:fq B w0 F A c s)(hb:fq B w0 F A2 c2 b)(hn:s.length≤1000000000):
  a_ B w0 237 [.slice A s.length c,.int .u8 (x.toNat:Int),.slice A2 b.length c2] F (fun r L=>∃A' c',r= .tuple #[.slice A' s.length c',ah 0]∧L= .own 5 1 A' s.length c' (bv (qZ s x b))::F):=by
 have GU:(qZ s x b).length=s.length:=q7 hl;refine fw func237 42 [0,1,2] ?_;refine jU ?_;refine dj fun kH=>?_;refine bI ?_;refine ai rfl (Vb (sv x)) ?_;refine bg fun g8=>?_;refine kK (nS 256 ag rfl rfl (Eh _ _) aV rfl (BA _)) ?_;refine bB ?_;refine cH (fc cN rfl rfl rfl rfl rfl aa aa aa) fun A21=>?_;refine cD ?_;refine aD (fun zf zL zm=>∃(k:Nat),(k≤s.length)∧s.length-k=zm∧Sub zf [(2,.slice A2 b.length c2),(8,bq g8),(9,.slice A21 s.length s.length),(22,.slice A s.length c),(23,ah s.length),(24,ah k)]∧Wk zL (.own 5 1 A21 s.length s.length (bv ((qZ s x b).take k)++List.replicate (s.length-k) (.int .u8 0))::Rwb g8 (yM x.toNat)::F)) _ ⟨0,bS _,rfl,bm,.refl _⟩ ?_;rintro _ _ _ ⟨k,hk,rfl,hs,hp⟩;refine aU hs hp ?_;clear hs hp;refine bB ?_;refine aj (fun vW=>?_) fun vW=>?_
 ·obtain⟨u,hu⟩:=cR (s.getD k 0);obtain⟨v,hv⟩:=cR (b.getD k 0);have YL:=sv v;have zc:=sv u;have hgt:=Yj (x:=x) (show k<s.length by omega) (show k<b.length by omega);rw[←hu,←hv]at hgt;have hrg:(yM x.toNat).getD v.toNat 0=(((gm x v).toNat:Nat):Int):=by rw[Fg YL,iD]
  refine bP ?_;rw[←hu];refine cD ?_;rw[←hv];refine ae (aN (i:=v.toNat) underlying382 ag rfl rfl rfl YL) rfl ?_;refine ae (eZ ag rfl aV (by rw[Fh];exact YL)) rfl ?_;rw[hrg];refine ae (ng rfl rfl (r:=(((u ^^^ gm x v).toNat:Nat):Int)) (by rw[UInt8.toNat_xor];exact ajJ zc (sv _))) rfl ?_;refine ae (aG (i:=k) (size:=1) underlying27 ag rfl rfl rfl aa (aL.own (.head _))) rfl ?_;refine kK (iL ag rfl rfl rfl aV (by simp[bv];omega)) ?_;refine ve [2,8,9,22,23,24] ?_;refine bB ?_;refine av ⟨_,aa,k+1,aa,rfl,bm,ax rfl (by rw[hgt];exact set_mk nt aa) (.refl _)⟩
 ·obtain rfl:k=s.length:=by omega
  refine c_ ?_;refine ao (L':=.own 5 1 A21 s.length s.length (bv (qZ s x b))::F) (ax rfl (by rw[fD aa];simp) (.skip (.refl _))) ?_;refine aE ?_;exact⟨A21,_,rfl,rfl⟩
end
theorem aa8{P:Prop}(h:P:=by(rw[lD (by omega)])):P:=h
abbrev vx(A:bj)(r k n c:Nat):Value:=.agg #[ah (r:Int),ah (k:Int),.slice A n c]
abbrev CV(g:Nat)(A:bj)(r k n c:Nat):Ch:=.bE g 272 [ah (r:Int),ah (k:Int),.slice A n c]
theorem EK{a b:Nat}(ha:a≤1000000)(hb:b≤1000000):IntKind.i64.wrap ((a:Int)*(b:Int))=((a*b:Nat):Int):=by
 have:a*b≤1000000*1000000:=gN ha hb;rw[←z8];exact bG aa aa
theorem uM{x:Nat}(h:x≤255):a_ B w0 233 [ah (x:Int)] F (fun r L=>r= .bool true∧L=F):=by
 refine fw func233 9 [0] ?_;refine bz ?_;refine ct (fun h5=>?_) fun h5=>?_
 ·refine bP ?_;exact⟨aa8,rfl⟩
 ·exfalso;omega
theorem yB(hr:r≤255)(hk:k≤255)(hn:n=r*k):a_ B w0 307 [vx A r k n c] F (fun v L=>v= .bool true∧L=F):=by
 refine cB func307 22 rfl rfl rfl [(0,.agg #[ah (r:Int),ah (k:Int),.slice A n c])] ⟨⟨rfl,rfl⟩,trivial⟩ ?_;refine be ?_;refine bf fun g1=>?_;refine bD ?_;refine ai rfl (uM hr) ?_;refine bB ?_;refine ai rfl (uM hk) ?_;refine zK ?_;refine ae (e_ rfl rfl (r:=((r*k:Nat):Int)) (EK aa aa)) rfl ?_;refine b8 ?_;refine ve [2] ?_;refine be ?_;refine ao (.skip (.refl _)) ?_;refine aE ?_;exact⟨aa8,rfl⟩
theorem Oy(i j:Nat):a_ B w0 330 [ah (i:Int),ah (j:Int)] F (fun v L=>v= .int .u8 (((if i=j then (1:UInt8) else 0).toNat:Nat):Int)∧L=F):=by
 refine fw func330 8 [0,1] ?_;refine c_ ?_;refine aj (fun h7=>?_) fun h7=>?_
 ·refine bM ?_;exact⟨by rw[aq aa];rfl,rfl⟩
 ·refine bP ?_;exact⟨by rw[aw aa];rfl,rfl⟩
theorem Sn{ff:FuncId}{cap:cV}{Q:aR}(f:Nat→Nat→UInt8)(hr:r≤255)(hk:k≤255)(hc:aJ Tryz.prog ff)(hQ:Q.Sublist F)(hf:∀(i j:Nat) (L:aR),i<r→j<k→Q.Sublist L→a_ B w0 ff ([ah (i:Int),ah (j:Int)]++cap) L (fun v L'=>v= .int .u8 (((f i j).toNat:Nat):Int)∧L'=L)):
  a_ B w0 234 [ah (r:Int),ah (k:Int),.func (.func ff) #[] cap.toArray] F (fun v L=>∃A' c',v=vx A' r k (r*k) c'∧L= .own 5 1 A' (r*k) c' (bv (qn r k f))::F):=by
 have hrk:r*k≤255*255:=gN hr hk;refine fw func234 37 [0,1,2] ?_;refine be ?_;refine bg fun g6=>?_;refine bM ?_;refine ae (e_ rfl rfl (r:=((r*k:Nat):Int)) (EK aa aa)) rfl ?_;refine cH (fc (nn:=0) cN rfl rfl rfl rfl rfl aa aa aa) fun Bg=>?_;refine ae (eG [(0,_),(1,_),(2,_)] [_,_,_] rfl rfl ag) rfl ?_;refine bg fun g7=>?_;refine dm ?_;refine aD (fun zf zL zm=>∃(i:Nat) (A':bj) (c':Nat),(i≤r)∧r-i=zm∧Sub zf [(1,ah (k:Int)),(2,.func (.func ff) #[] cap.toArray),(6,bq g6),(7,bq g7),(17,ah (r:Int)),(18,ah (i:Int))]∧Wk zL (.own 5 1 A' (i*k) c' (bv (qn i k f))::CV g7 A' r k (i*k) c':: .bE g6 272 [ah 0,ah 0,.slice none 0 0]::F)) _ ⟨0,Bg,r*k,bS _,rfl,bm,.trans ((gl (ef (ef (.refl _))))) (ax ak (by simp[qn,bv]) (bp ak (.refl _)))⟩ ?_;rintro _ _ _ ⟨i,A',c',hi,rfl,hs,hp⟩;refine aU hs hp ?_;clear hs hp;refine bB ?_;refine aj (fun sL=>?_) fun sL=>?_
 ·have hik:=fO (k:=k) (show i<r by omega);refine zK ?_;refine aD (fun zf zL zm=>∃(j:Nat) (A2:bj) (c2:Nat) (acc:al),(j≤k∧acc=qn i k f++(List.range j).map fun q=>f i q)∧k-j=zm∧Sub zf [(1,ah (k:Int)),(2,.func (.func ff) #[] cap.toArray),(6,bq g6),(7,bq g7),(8,ah (i:Int)),(17,ah (r:Int)),(18,ah (i:Int)),(21,ah (k:Int)),(22,ah (j:Int))]∧Wk zL (.own 5 1 A2 (i*k+j) c2 (bv acc)::CV g7 A2 r k (i*k+j) c2:: .bE g6 272 [ah 0,ah 0,.slice none 0 0]::F)) _ ⟨0,A',c',qn i k f,⟨bS _,ak⟩,rfl,bm,.refl _⟩ ?_;rintro _ _ _ ⟨j,A2,c2,acc,⟨hj,mz⟩,rfl,hs,hp⟩;refine aU hs hp ?_;clear hs hp;refine bB ?_;refine aj (fun oO=>?_) fun oO=>?_
  ·have hs:acc++[f i j]=qn i k f++(List.range (j+1)).map fun q=>f i q:=by rw[mz,lk];simp
   refine bz ?_;refine cC F ?_;refine ab 0 ?_;refine ab 2 ?_;refine ab 3 ?_;refine ab 4 ?_;refine gU 1 5 ?_ ?_
   ·refine aE ?_;refine az 5 ?_;refine pM rfl .no hc rfl rfl (hf i j _ aa aa (((hQ.cons _).cons _).cons _)) rfl QG ?_;rintro _ _ ⟨rfl,cJ⟩;obtain rfl:=cJ.symm;refine az 6 ?_;refine cQ rfl (aF cN [_] rfl rfl cA aa aa) fun Qq=>?_;refine az 7 ?_;refine eW rfl (bW cN rfl aV rfl aB cA aa aa) fun LS Mx=>?_;refine ab 8 ?_;refine az 9 ?_;refine bM ?_;refine av ⟨_,aa,j+1,LS,Mx,acc++[f i j],⟨aa,hs⟩,rfl,bm,.skip (ax rfl Bm (.refl _))⟩
   ·refine pM rfl .no hc rfl rfl (hf i j _ aa aa (((hQ.cons _).cons _).cons _)) rfl QG ?_;rintro _ _ ⟨rfl,cJ⟩;obtain rfl:=cJ.symm;refine gU 1 6 ?_ ?_
    ·refine aE ?_;refine az 6 ?_;refine cQ rfl (aF cN [_] rfl rfl cA aa aa) fun Qq=>?_;refine az 7 ?_;refine eW rfl (bW cN rfl aV rfl aB cA aa aa) fun LS Mx=>?_;refine ab 8 ?_;refine az 9 ?_;refine bM ?_;refine av ⟨_,aa,j+1,LS,Mx,acc++[f i j],⟨aa,hs⟩,rfl,bm,.skip (ax rfl Bm (.refl _))⟩
    ·refine cQ rfl (aF cN [_] rfl rfl cA aa aa) fun Qq=>?_;refine az 1 ?_;refine aE ?_;refine az 7 ?_;refine eW rfl (bW cN rfl aV rfl aB cA aa aa) fun LS Mx=>?_;refine ab 8 ?_;refine az 9 ?_;refine bM ?_;refine av ⟨_,aa,j+1,LS,Mx,acc++[f i j],⟨aa,hs⟩,rfl,bm,.skip (ax rfl Bm (.refl _))⟩
  ·obtain rfl:j=k:=by omega
   refine bz ?_;refine av ⟨_,aa,i+1,A2,c2,aa,rfl,bm,ax (by rw[kA]) (by rw[mz,EE]) (bp (by rw[kA]) (.refl _))⟩
 ·obtain rfl:i=r:=by omega
  refine cD ?_;refine I8 rfl rfl ag aV gD ((ef (.skip (.skip (.refl _))))) ?_;exact⟨A',c',rfl,rfl⟩
theorem aoI{P:Prop}(h:P:=by(rw[kA,show a*k+k-a*k=k by omega];rfl)):P:=h
theorem ahS(hn:n≤255):a_ B w0 309 [ah (n:Int)] F (fun v L=>∃A' c',v= .tuple #[vx A' n n (n*n) c',ah 0]∧L= .own 5 1 A' (n*n) c' (bv (NO n))::F):=by
 refine fw func309 11 [0] ?_;refine be ?_;refine bg fun g2=>?_;refine bD ?_;refine ai rfl (uM hn) ?_;refine bz ?_;refine ay rfl (Sn (Q:=[]) (cap:=[]) (fun i j=>if i=j then 1 else 0) hn hn aj5 (NV _) (fun i j L _ _ _=>Oy i j)) fun xq HI=>?_;refine bI ?_;refine gS rfl rfl ag aV gD rfl ((ef (.skip (.refl _)))) ?_;exact⟨xq,HI,rfl,rfl⟩
theorem anZ{a b:Nat}(ha:a<256)(hb:b<256):IntKind.i64.wrap ((BitVec.ofInt IntKind.i64.bits (a:Int) ^^^ BitVec.ofInt IntKind.i64.bits (b:Int)).toNat:Int)=((a ^^^ b:Nat):Int):=by
 have h:=vu ha hb;rw[an0 (k:=.i64) (a:=a) (b:=b) (by show a<18446744073709551616;omega) (by show b<18446744073709551616;omega)];exact bG aa aa
theorem arj{x:Nat}(h:x<256):(UInt8.ofNat x).toNat=x:=by rw[oi];exact jc h
def agW(k i j:Nat):UInt8:=kJ (UInt8.ofNat ((k+i) ^^^ j))
theorem alw{i j:Nat}(h1:k+i≤255)(h2:j≤255):a_ B w0 235 [ah (i:Int),ah (j:Int),bq g] (.bE g 3 [ah (k:Int)]::F) (fun v L=>v= .int .u8 (((agW k i j).toNat:Nat):Int)∧L= .bE g 3 [ah (k:Int)]::F):=by
 have hx:=vu (a:=k+i) (b:=j) aa aa;have he:(agW k i j).toNat=q8 ((k+i) ^^^ j):=by unfold agW;rw[wL,arj hx]
 refine fw func235 19 [0,1,2] ?_;refine bP ?_;refine ae (bY rfl rfl (r:=((k+i:Nat):Int)) ((bG aa aa).trans aa)) rfl ?_;refine aE ?_;refine ae (ng rfl rfl (r:=(((k+i) ^^^ j:Nat):Int)) (anZ aa aa)) rfl ?_;refine aE ?_;refine ai rfl (akn hx) ?_;refine dm ?_;refine ve [5] ?_;refine bH ?_;exact⟨by rw[he],rfl⟩
theorem MA(Gj:k+m≤255):a_ B w0 191 [ah (k:Int),ah (m:Int)] F (fun v L=>∃A' c',v= .tuple #[vx A' m k (m*k) c',ah 0]∧L= .own 5 1 A' (m*k) c' (bv (Gz k m))::F):=by
 refine fw func191 25 [0,1] ?_;refine be ?_;refine bf fun g2=>?_;refine bg fun g4=>?_;refine bD ?_;refine ai rfl (uM aa) ?_;refine bI ?_;refine ai rfl (uM aa) ?_;refine i_ ?_;refine dj fun sL=>?_;refine bD ?_;refine ay rfl (Sn (Q:=[.bE g2 3 [ah (k:Int)]]) (cap:=[bq g2]) (agW k) aa aa apa (((NV F).cons_cons _).cons _) (fun i j L hi hj hs=>dP.at_mem (hs.subset (.head _)) fun M=>alw aa aa)) fun Bh Dc=>?_;refine be ?_;refine ve [4,5] ?_;refine be ?_;refine gS rfl rfl ag aV gD rfl ((ef (.skip (.skip (.refl _))))) ?_;exact⟨Bh,Dc,rfl,rfl⟩
theorem as9{i k:Nat}(hi:i≤100000)(hk:k≤100000):IntKind.i64.wrap (((i:Int)+1)*(k:Int))=((i*k+k:Nat):Int):=by
 rw[show((i:Int)+1)=((i+1:Nat):Int) by omega,EK aa aa,kA]
theorem EF{i:Nat}(hi:i≤100000)(hk:k≤100000)(hc:i*k+k≤c):a_ B w0 308 [vx A r k n c,ah (i:Int)] F (fun v L=>v=Hc A c (i*k) k∧L=F):=by
 refine cB func308 17 rfl rfl rfl [(0,.agg #[ah (r:Int),ah (k:Int),.slice A n c]),(1,ah (i:Int))] ⟨⟨rfl,rfl⟩,⟨rfl,rfl⟩,trivial⟩ ?_;refine be ?_;refine bf fun g2=>?_;refine bz ?_;refine ae (e_ rfl rfl (r:=((i*k:Nat):Int)) (EK aa aa)) rfl ?_;refine b8 ?_;refine ae (e_ rfl rfl (r:=((i*k+k:Nat):Int)) (as9 hi hk)) rfl ?_;refine ae (kp (i:=i*k) (j:=i*k+k) (size:=1) underlying27 ag rfl rfl rfl rfl rfl aa aa) rfl ?_;refine b8 ?_;refine ao (.skip (.refl _)) ?_;refine aE ?_;exact⟨rfl,rfl⟩
abbrev amP(A1 A2:bj)(k m n1 n2 c1 c2:Nat):cV:=[ah (k:Int),ah (k:Int),.slice A1 n1 c1,ah (m:Int),ah (k:Int),.slice A2 n2 c2]
theorem ai4(Gj:k+m≤255){x y:al}(hx:x.length=k*k)(hy:y.length=m*k)(hr:aL B w0 F 3 (.slice A 2 c) 2 (amP A1 A2 k m (k*k) (m*k) c1 c2))(h1:aL B w0 F 1 (.slice A1 (k*k) c1) (k*k) (bv x))(h2:aL B w0 F 1 (.slice A2 (m*k) c2) (m*k) (bv y)):
  a_ B w0 310 [.slice A 2 c] F (fun v L=>∃A' c',v= .tuple #[vx A' (k+m) k ((k+m)*k) c',ah 0]∧L= .own 5 1 A' ((k+m)*k) c' (bv (x++y))::F):=by
 have Kk:k*k≤255*255:=gN aa aa;have hmk:m*k≤255*255:=gN aa aa;have wT:(k+m)*k=k*k+m*k:=mD ..;refine fw func310 52 [0] ?_;refine be ?_;refine bg fun g2=>?_;refine bI ?_;refine bg fun g4=>?_;refine b8 ?_;refine aY 5 1 none ?_;refine bD ?_;refine aD (fun zf zL zm=>∃(i R C N:Nat) (A':bj) (c':Nat) (acc:al),((i=0∧R=0∧C=0∧N=0∧acc=[])∨(i=1∧R=k∧C=k∧N=k*k∧acc=x)∨(i=2∧R=k+m∧C=k∧N=k*k+m*k∧acc=x++y))∧2-i=zm∧Sub zf [(2,bq g2),(4,bq g4),(7,.slice A 2 c),(8,ah 2),(9,ah (i:Int))]∧Wk zL (.own 5 1 A' N c' (bv acc)::CV g4 A' R C N c':: .bE g2 272 [ah 0,ah 0,.slice none 0 0]::F)) _ ⟨0,0,0,0,none,0,[],.inl ⟨rfl,rfl,rfl,rfl,rfl⟩,rfl,bm,.refl _⟩ ?_;rintro _ _ _ ⟨i,R,C,N,A',c',acc,kT,rfl,hs,hp⟩;refine aU hs hp ?_;clear hs hp;refine bB ?_;refine aj (fun jB=>?_) fun jB=>?_
 ·obtain⟨q,hq⟩:=cR (if i=0 then k else m);obtain⟨Y,hY⟩:=cR (if i=0 then x else y);obtain⟨Aq,cq,fB,hbq⟩:∃(Aq:bj) (cq:Nat),(∀p u,([ah (q:Int),ah (k:Int),.slice Aq (q*k) cq]:cV)[p]? =some u→(amP A1 A2 k m (k*k) (m*k) c1 c2)[i*3+p]? =some u)∧aL B w0 F 1 (.slice Aq (q*k) cq) (q*k) (bv Y):=by
   have hi:i=0∨i=1:=by omega
   rcases hi with rfl|rfl
   ·rw[aq rfl]at hq hY;subst hq;subst hY;exact⟨A1,c1,fun p u h=>by
     rcases p with _|_|_|p
     ·exact h
     ·exact h
     ·exact h
     ·simp at h,h1⟩
   ·rw[aw aa]at hq hY;subst hq;subst hY;exact⟨A2,c2,fun p u h=>by
     rcases p with _|_|_|p
     ·exact h
     ·exact h
     ·exact h
     ·simp at h,h2⟩
  have hql:q≤255:=by rw[hq];split<;>omega
  have hRq:R+q≤255:=by
   rw[hq];rcases kT with h|h|h
   ·rw[aq h.1];omega
   ·rw[aw aa];omega
   ·omega
  have hqk:q*k≤255*255:=gN aa aa;have hNk:N≤255*255+255*255:=by rcases kT with h|h|h<;>omega
  refine bM ?_;refine ae (dg (j:=i*3) 3 ag rfl hr.cons.cons.cons aa [ah (q:Int),ah (k:Int),.slice Aq (q*k) cq] fB rfl) rfl ?_;refine bg fun g6=>?_;refine dm ?_;refine aj (fun kS=>?_) fun kS=>?_
  ·refine dm ?_;refine ai rfl (yB hql aa rfl) ?_;refine dX ?_;refine aI rfl rfl rfl (fun qH=>?_) (fun qH=>?_)
   ·refine cD ?_;refine ve [2,4,6,7,8,9,36] ?_;refine aE ?_;refine dj fun za=>?_;refine bM ?_;refine ae (bY rfl rfl (r:=((R+q:Nat):Int)) ((bG aa aa).trans aa)) rfl ?_;refine bP ?_;refine gw (bW cN rfl aV rfl aB cA aa aa) fun A48 c48=>?_;refine bP ?_;refine av ⟨_,aa,i+1,R+q,k,N+q*k,A48,c48,acc++Y,(by
     rcases kT with h|h|h
     ·refine .inr (.inl ?_);rw[aq h.1]at hq hY;rw[hq,hY,h.2.2.2.2,h.2.1,h.2.2.2.1];exact⟨aa,aa,rfl,aa,rfl⟩
     ·exact absurd kS aa
     ·exact absurd kS aa),rfl,bm,.skip (ax rfl ak (.refl _))⟩
   ·exfalso;omega
  ·have hC:C=k:=by rcases kT with h|h|h<;>omega
   subst hC;refine bB ?_;refine ai rfl (yB hql aa rfl) ?_;refine dX ?_;refine aI rfl rfl rfl (fun qH=>?_) (fun qH=>?_)
   ·refine cD ?_;refine ve [2,4,6,7,8,9,36] ?_;refine aE ?_;refine dj fun za=>?_;refine bM ?_;refine ae (bY rfl rfl (r:=((R+q:Nat):Int)) ((bG aa aa).trans aa)) rfl ?_;refine bP ?_;refine gw (bW cN rfl aV rfl aB cA aa aa) fun A48 c48=>?_;refine bP ?_;refine av ⟨_,aa,i+1,R+q,C,N+q*C,A48,c48,acc++Y,(by
     rcases kT with h|h|h
     ·exact absurd h.1 aa
     ·refine .inr (.inr ?_);rw[aw aa]at hq hY;rw[hq,hY,h.2.2.2.2,h.2.2.2.1];exact⟨aa,aa,rfl,rfl,rfl⟩
     ·omega),rfl,bm,.skip (ax rfl ak (.refl _))⟩
   ·exfalso;omega
 ·obtain⟨hi,hR,hC,hN,mz⟩:i=2∧R=k+m∧C=k∧N=k*k+m*k∧acc=x++y:=by
   rcases kT with h|h|h
   ·omega
   ·omega
   ·exact h
  subst hi;subst hR;subst hN;subst mz;refine c_ ?_;refine gS rfl rfl ag aV gD rfl ((ef (.skip (.skip (.refl _))))) ?_;subst hC;exact⟨A',c',by rw[wT],by rw[wT]⟩
theorem SQ{at_:bc}{x:al}{i:Nat}(hi:i<at_.length):lu k x (at_.take (i+1))=lu k x (at_.take i)++jh k x (at_.getD i 0):=by
 unfold lu;rw[aZ hi 0,ud];simp
theorem ani{x:al}{at_:bc}(hr:r≤255)(hk:k≤255)(hx:x.length=r*k)(hl:at_.length≤255)(ha:∀a,a∈at_→a<r)(hb:aL B w0 F 1 (.slice A (r*k) c) (r*k) (bv x))(hba:aL B w0 F 1 (.slice A1 at_.length c1) at_.length (bx at_)):
  a_ B w0 277 [vx A r k (r*k) c,.slice A1 at_.length c1] F (fun v L=>∃A' c',v= .tuple #[vx A' at_.length k (at_.length*k) c',ah 0]∧L= .own 5 1 A' (at_.length*k) c' (bv (lu k x at_))::F):=by
 have hrk:r*k≤255*255:=gN hr hk;refine dP.zk hb fun oA _=>?_;refine cB func277 47 rfl rfl rfl [(0,.agg #[ah (r:Int),ah (k:Int),.slice A (r*k) c]),(1,.slice A1 at_.length c1)] ⟨⟨rfl,rfl⟩,⟨rfl,rfl⟩,trivial⟩ ?_;refine be ?_;refine bf fun g2=>?_;refine bg fun g4=>?_;refine bD ?_;refine ai rfl (yB hr hk rfl) ?_;refine dm ?_;refine dj fun kH=>?_;refine bM ?_;refine ae (br [(0,_),(1,_)] [ah 0,ah 0,.slice none 0 0] [0,1] [_,_,_] rfl rfl ag) rfl ?_;refine bg fun g6=>?_;refine bI ?_;refine aY 5 1 none ?_;refine bD ?_;refine aD (fun zf zL zm=>∃(i:Nat) (A':bj) (c':Nat),(i≤at_.length)∧at_.length-i=zm∧Sub zf [(2,bq g2),(4,bq g4),(6,bq g6),(23,.slice A1 at_.length c1),(24,ah at_.length),(25,ah (i:Int))]∧Wk zL (.own 5 1 A' (i*k) c' (bv (lu k x (at_.take i)))::CV g6 A' at_.length k (i*k) c':: .bE g4 272 [ah 0,ah 0,.slice none 0 0]::CV g2 A r k (r*k) c::F)) _ ⟨0,none,0,bS _,rfl,bm,ax ak (by simp[lu]) (bp ak (.refl _))⟩ ?_;rintro _ _ _ ⟨i,A',c',hi,rfl,hs,hp⟩;refine aU hs hp ?_;clear hs hp;refine bB ?_;refine aj (fun qG=>?_) fun qG=>?_
 ·obtain⟨a,hae⟩:=cR (at_.getD i 0);have har:a<r:=by rw[hae];exact ha _ (bh aa 0)
  have Ca:=fO (k:=k) har;have hps:=SQ (k:=k) (x:=x) (show i<at_.length by omega);rw[←hae]at hps;have hik:i*k≤255*255:=gN aa hk;have rb:aL B w0 F 1 (Hc A c (a*k) k) (a*k+k-a*k) (bv (jh k x a)):=hb.part Ca;refine bD ?_;refine ae (au ag rfl hba.cons.cons.cons.cons aa (gd (v:=a) aa hae.symm)) rfl ?_;refine bP ?_;refine aI rfl rfl rfl (fun D4=>?_) (fun D4=>?_)
  ·refine bz ?_;refine dj fun za=>?_;refine be ?_;refine cC (.bE g4 272 [ah 0,ah 0,.slice none 0 0]::CV g2 A r k (r*k) c::F) ?_;refine ab 0 ?_;refine ab 2 ?_;refine ab 3 ?_;refine gU 1 4 ?_ ?_
   ·refine aE ?_;refine az 4 ?_;refine iZ rfl rfl (EF aa aa aa) ?_;refine az 5 ?_;refine eW rfl (bW cN rfl aV rfl aB cA aa aa) fun Lu c43=>?_;refine ab 6 ?_;refine az 7 ?_;refine aE ?_;refine cP [2,4,6,23,24,25] ?_;refine bB ?_;refine av ⟨_,aa,i+1,Lu,c43,aa,rfl,bm,ax (by rw[kA];omega) (by rw[hps];simp) (bp aoI (.refl _))⟩
   ·refine iZ rfl rfl (EF aa aa aa) ?_;refine az 1 ?_;refine aE ?_;refine az 5 ?_;refine eW rfl (bW cN rfl aV rfl aB cA aa aa) fun Lu c43=>?_;refine ab 6 ?_;refine az 7 ?_;refine aE ?_;refine cP [2,4,6,23,24,25] ?_;refine bB ?_;refine av ⟨_,aa,i+1,Lu,c43,aa,rfl,bm,ax (by rw[kA];omega) (by rw[hps];simp) (bp aoI (.refl _))⟩
  ·exfalso;omega
 ·obtain rfl:i=at_.length:=by omega
  rw[jN];refine c_ ?_;refine gS rfl rfl ag aV gD rfl ((ef (.skip (.skip (.skip (.refl _)))))) ?_;exact⟨A',c',rfl,rfl⟩
theorem uu{l:al}{n:Nat}{xs:cV}(e1:n=l.length)(e2:xs=bv l)(hb:aL B w0 F 1 (.slice A n c) n xs)(hn:l.length≤1099511627776):
  a_ B w0 36 [.slice A n c] F (fun r L=>∃A' c',r= .slice A' l.length c'∧L= .own 5 1 A' l.length c' (bv l)::F):=by
 subst e1;subst e2;exact l9 l hb hn
theorem Va{s b:al}{x:UInt8}{n1 n2:Nat}(e1:n1=s.length)(e2:n2=b.length)(hl:s.length=b.length)(hs:aL B w0 F 1 (.slice A n1 c) n1 (bv s))(hb:aL B w0 F 1 (.slice A2 n2 c2) n2 (bv b))(hn:s.length≤1000000000):
  a_ B w0 237 [.slice A n1 c,.int .u8 (x.toNat:Int),.slice A2 n2 c2] F (fun r L=>∃A' c',r= .tuple #[.slice A' s.length c',ah 0]∧L= .own 5 1 A' s.length c' (bv (qZ s x b))::F):=by
 subst e1;subst e2;exact ahu hl hs hb hn
theorem zt{x r:al}{i:Nat}(hr:r.length=k):(bv x).take (i*k)++(bv r).take (min r.length (i*k+k-i*k))++(bv x).drop (i*k+min r.length (i*k+k-i*k))=bv (oD k x i r):=by
 have e:min r.length (i*k+k-i*k)=k:=by omega
 rw[e,kI,kI,jv,←gv,←gv,fD (l:=r) aa];unfold oD;rw[bV]
theorem Zh{x r:al}{i:Nat}(hx:x.length=N*k)(hi:i<N)(hr:r.length=k):jh k (oD k x i r) i=r:=by
 have:=fO (k:=k) hi;unfold jh oD;rw[qk bO,pz hr]
theorem Zi{x:al}{i:Nat}(hx:x.length=N*k)(hi:i<N):oD k x i (jh k x i)=x:=by
 have:=fO (k:=k) hi;unfold jh oD;rw[←qj,jO,jO]
theorem adK{x r:al}{i q:Nat}{v:UInt8}(hx:x.length=N*k)(hi:i<N)(hr:r.length=k)(hq:q<k):(bv (oD k x i r)).set (i*k*1+q) (.int .u8 ((v.toNat:Nat):Int))=bv (oD k x i (r.set q v)):=by
 have:=fO (k:=k) hi;unfold oD;rw[cE,gv,gv,wX _ _ bO,List.set_append_left _ _ bO];have e:i*k+q-(bv (x.take (i*k))).length=q:=by simp;omega
 rw[e,gv,gv];congr 2;simp[bv,Kx]
theorem pQ{i:Nat}(hw:(cs.drop o).take 3=[ah (r:Int),ah (k:Int),.slice A n c])(hi:i≤100000)(hk:k≤100000)(hc:i*k+k≤c):a_ B w0 331 [.pointer (some ⟨g,o,none⟩),ah (i:Int)] (.bE g bt cs::F) (fun v L=>v=Hc A c (i*k) k∧L= .bE g bt cs::F):=by
 refine fw func331 11 [0,1] ?_;refine bz ?_;refine ae (bQ 3 ag rfl aV [ah (r:Int),ah (k:Int),.slice A n c] hw rfl) rfl ?_;refine aE ?_;refine ai rfl (EF hi hk hc) ?_;refine bI ?_;exact⟨rfl,rfl⟩
theorem Xe{x:al}{i j:Nat}(hw:(cs.drop o).take 3=[ah (r:Int),ah (k:Int),.slice A (N*k) c])(hx:x.length=N*k)(hN:N≤255)(hi:i<N)(hj:j<N)(hk:k≤255):
  a_ B w0 332 [.pointer (some ⟨g,o,none⟩),ah (i:Int),ah (j:Int)] (.own 5 1 A (N*k) c (bv x):: .bE g bt cs::F) (fun v L=>v= .tuple #[]∧L= .own 5 1 A (N*k) c (bv (pG k x i j)):: .bE g bt cs::F):=by
 refine dP.zk (aL.own (.head _)) fun oA _=>?_;have h1:=fO (k:=k) hi;have h2:=fO (k:=k) hj;have l1:=eY hx hi;have l2:=eY hx hj;refine fw func332 26 [0,1,2] ?_;refine b8 ?_;refine ai rfl ((pQ (i:=i) hw aa aa aa).jj ((l0 (fT (.refl _))))) ?_;refine ay rfl (uu (l:=jh k x i) aa rfl ((aL.own (.head _)).part h1) aa) fun tE xl=>?_;refine be ?_;refine ai rfl ((pQ (i:=j) hw aa aa aa).jj ((BN (fT (fT (.refl _)))))) ?_;refine ay rfl (uu (l:=jh k x j) aa rfl ((aL.own (.tail _ (.head _))).part h2) aa) fun Bg JL=>?_;refine bM ?_;refine ai rfl ((pQ (i:=i) hw aa aa aa).jj ((pu3 (fT (fT (fT (.refl _))))))) ?_;refine aE ?_;refine lK (r8 (i:=i*k) (j:=i*k+k) cN (.tl (.tl .hd)) rfl aa aa rfl (aL.own (.head _)) (rW _)) rfl ?_;rintro _ _ ⟨rfl,rfl⟩;refine af6 (.cons (.cons (ax rfl (zt l2) (.refl _)))) ?_;refine bI ?_;refine ai rfl ((pQ (i:=j) hw aa aa aa).jj ((pu3 (fT (fT (fT (.refl _))))))) ?_;refine aE ?_;refine lK (r8 (i:=j*k) (j:=j*k+k) cN (.tl (.tl .hd)) rfl aa aa rfl (aL.own (.tail _ (.head _))) (rW _)) rfl ?_;rintro _ _ ⟨rfl,rfl⟩;refine af6 (.cons (.cons (ax rfl (zt l1) (.refl _)))) ?_;refine ve [] ?_;refine aE ?_;refine ao (.skip (.skip (.refl _))) ?_;refine aE ?_;exact⟨rfl,rfl⟩
theorem S3{row:al}{q:Nat}{x:UInt8}(hq:q<row.length):((row.map (gm x)).take q++row.drop q).set q (gm x (row.getD q 0))=(row.map (gm x)).take (q+1)++row.drop (q+1):=by
 rw[wX _ _ bO,aZ (by simpa using hq) 0,dw hq 0];have e:q-((row.map (gm x)).take q).length=0:=by simp;omega
 rw[e,List.set_cons_zero,bV];congr 1;simp[bk,hq]
theorem PZ{x:al}{i:Nat}{y:UInt8}(hw:(cs.drop o).take 3=[ah (r:Int),ah (k:Int),.slice A (N*k) c])(hx:x.length=N*k)(hN:N≤255)(hi:i<N)(hk:k≤255):
  a_ B w0 333 [.pointer (some ⟨g,o,none⟩),ah (i:Int),.int .u8 (y.toNat:Int)] (.own 5 1 A (N*k) c (bv x):: .bE g bt cs::F) (fun v L=>v= .tuple #[]∧L= .own 5 1 A (N*k) c (bv (jW k x i y)):: .bE g bt cs::F):=by
 refine dP.zk (aL.own (.head _)) fun oA _=>?_;have h1:=fO (k:=k) hi;have l1:=eY hx hi;obtain⟨row,Ca⟩:=cR (jh k x i);have hms:jW k x i y=oD k x i (row.map (gm y)):=by rw[Ca];rfl
 have hx0:oD k x i ((row.map (gm y)).take 0++row.drop 0)=x:=by rw[Ah,nU,tg,Ca];exact Zi hx hi
 rw[←Ca]at l1;refine fw func333 29 [0,1,2] ?_;refine bH ?_;refine ai rfl (Vb (sv y)) ?_;refine bg fun g6=>?_;refine kK (nS 256 ag rfl rfl (Eh _ _) aV rfl (BA _)) ?_;refine bB ?_;refine ai rfl ((pQ (i:=i) hw aa aa aa).jj ((BN (fT (fT (.refl _)))))) ?_;refine dm ?_;refine aD (fun zf zL zm=>∃(q:Nat),(q≤k)∧k-q=zm∧Sub zf [(6,bq g6),(7,Hc A c (i*k) k),(15,Hc A c (i*k) k),(16,ah ((i*k+k-i*k:Nat):Int)),(17,ah (q:Int))]∧Wk zL (.own 5 1 A (N*k) c (bv (oD k x i ((row.map (gm y)).take q++row.drop q)))::Rwb g6 (yM y.toNat):: .bE g bt cs::F)) _ ⟨0,bS _,rfl,bm,.trans ((gl (ef (ef (.refl _))))) (ax rfl (by rw[hx0]) (.refl _))⟩ ?_;rintro _ _ _ ⟨q,hq,rfl,hs,hp⟩;refine aU hs hp ?_;clear hs hp;refine bB ?_;refine aj (fun iU=>?_) fun iU=>?_
 ·obtain⟨R,hR⟩:=cR ((row.map (gm y)).take q++row.drop q);have Vi:R.length=k:=by rw[hR];simp;omega
  have hRm:jh k (oD k x i R) i=R:=Zh hx hi Vi;have By:=rz hx hi Vi;have sN:=S3 (row:=row) (x:=y) (show q<row.length by omega);obtain⟨u,hu⟩:=cR (row.getD q 0);have hRq:R.getD q 0=u:=by rw[hR,hu,bk,bk,sT bO,k_7];congr 2;simp;omega
  have rb:aL B w0 (.own 5 1 A (N*k) c (bv (oD k x i R))::Rwb g6 (yM y.toNat):: .bE g bt cs::F) 1 (Hc A c (i*k) k) (i*k+k-i*k) (bv R):=by
   have:=(aL.own (B:=B) (w0:=w0) (L:=.own 5 1 A (N*k) c (bv (oD k x i R))::Rwb g6 (yM y.toNat):: .bE g bt cs::F) (.head _)).part h1;rw[show((oD k x i R).drop (i*k)).take k=R from hRm]at this;exact this
  have zc:=sv u;have hrg:(yM y.toNat).getD u.toNat 0=(((gm y u).toNat:Nat):Int):=by rw[Fg zc,iD]
  rw[←hR,←hu]at sN;rw[←hR];refine bD ?_;refine ae (aG (i:=q) (size:=1) underlying27 ag rfl rfl rfl aa rb) rfl ?_;refine ae (jq ag rfl rb aa) rfl ?_;rw[hRq];refine bM ?_;refine ae (aN (i:=u.toNat) underlying382 ag rfl rfl rfl zc) rfl ?_;refine ae (eZ ag rfl aV (by rw[Fh];exact zc)) rfl ?_;rw[hrg];refine ae (aG (i:=q) (size:=1) underlying27 ag rfl rfl rfl aa rb) rfl ?_;refine kK (GK (q:=q*1) ag rfl rfl rfl .hd aa (by rw[HH,By];omega)) ?_;refine bD ?_;refine av ⟨_,aa,q+1,aa,rfl,bm,ax rfl (by rw[cE q,adK hx hi Vi aa,sN]) (.refl _)⟩
 ·obtain rfl:q=k:=by omega
  have tV:(row.map (gm y)).take q++row.drop q=row.map (gm y):=by rw[fD bO,IG aa,gk]
  rw[tV,←hms];refine bI ?_;refine ao ((ef (gl (.skip (.refl _))))) ?_;refine aE ?_;exact⟨rfl,rfl⟩
theorem agb{x:al}{i j:Nat}{y:UInt8}(hw:(cs.drop o).take 3=[ah (r:Int),ah (k:Int),.slice A (N*k) c])(hx:x.length=N*k)(hN:N≤255)(hi:i<N)(hj:j<N)(hk:k≤255):
  a_ B w0 334 [.pointer (some ⟨g,o,none⟩),ah (i:Int),.int .u8 (y.toNat:Int),ah (j:Int)] (.own 5 1 A (N*k) c (bv x):: .bE g bt cs::F) (fun v L=>v= .tuple #[]∧L= .own 5 1 A (N*k) c (bv (rv k x i y j)):: .bE g bt cs::F):=by
 refine dP.zk (aL.own (.head _)) fun oA _=>?_;have h1:=fO (k:=k) hi;have h2:=fO (k:=k) hj;have l1:=eY hx hi;have l2:=eY hx hj;have l3:(qZ (jh k x i) y (jh k x j)).length=k:=by rw[q7 aa];exact l1
 refine fw func334 26 [0,1,2,3] ?_;refine b8 ?_;refine ai rfl ((pQ (i:=i) hw aa aa aa).jj ((l0 (fT (.refl _))))) ?_;refine bH ?_;refine ai rfl ((pQ (i:=j) hw aa aa aa).jj ((l0 (fT (.refl _))))) ?_;refine ay rfl (Va (s:=jh k x i) (b:=jh k x j) aa aa aa ((aL.own (.head _)).part h1) ((aL.own (.head _)).part h2) aa) fun s8 uR=>?_;refine bD ?_;have l4:(jh k x i).length=(qZ (jh k x i) y (jh k x j)).length:=by omega
 rw[l4];refine bH ?_;refine ai rfl ((pQ (i:=i) hw aa aa aa).jj ((BN (fT (fT (.refl _)))))) ?_;refine aE ?_;refine lK (r8 (i:=i*k) (j:=i*k+k) cN (.tl .hd) rfl aa aa rfl (aL.own (.head _)) (rW _)) rfl ?_;rintro _ _ ⟨rfl,rfl⟩;refine af6 (.cons (ax rfl (zt l3) (.refl _))) ?_;refine ve [] ?_;refine aE ?_;refine ao (.skip (.refl _)) ?_;refine aE ?_;exact⟨rfl,rfl⟩
abbrev PrB(g:Nat)(A1 A2:bj)(n c1 c2:Nat):Ch:=.bE g 421 [ah (n:Int),ah (n:Int),.slice A1 (n*n) c1,ah (n:Int),ah (n:Int),.slice A2 (n*n) c2]
theorem ZC{k Lz f i:Nat}{x:al}(h:fK k x i Lz=0):vJ k x Lz (f+1) i=vJ k x Lz f (i+1):=by rw[vJ,aq h]
theorem ZD{k Lz f i:Nat}{x:al}(h:¬fK k x i Lz=0):vJ k x Lz (f+1) i=i:=by rw[vJ,aw h]
theorem zB{n a:Nat}(ha:a<n):∀(f q:Nat) (p:al×al),q+f≤n→p.1.length=n*n→p.2.length=n*n→(kq n a f q p).1.length=n*n∧(kq n a f q p).2.length=n*n
 |0,q,p,_,h1,h2=>⟨h1,h2⟩
 |f+1,q,p,hq,h1,h2=>by
  rw[kq];split
  ·exact zB ha f (q+1) _ aa (ry h1 ha aa) (ry h2 ha aa)
  ·exact zB ha f (q+1) _ aa h1 h2
theorem Rb{n a f q:Nat}{p:al×al}(h:q≠a∧fK n p.1 q a≠0):kq n a (f+1) q p=kq n a f (q+1) (rv n p.1 q (fK n p.1 q a) a,rv n p.2 q (fK n p.1 q a) a):=by rw[kq,aq h]
theorem DL{n a f q:Nat}{p:al×al}(h:¬(q≠a∧fK n p.1 q a≠0)):kq n a (f+1) q p=kq n a f (q+1) p:=by rw[kq,aw h]
theorem aby{n a:Nat}{p:al×al}(ha:a<n)(h1:p.1.length=n*n)(h2:p.2.length=n*n):(rY n a p).2.1.length=n*n∧(rY n a p).2.2.length=n*n:=by
 unfold rY;split
 ·exact⟨h1,h2⟩
 ·rename_i h;obtain⟨p1,p2,_,_⟩:=rC n p.1 a (n-a) a;have hI:wG n a p<n:=by unfold wG at h⊢;omega
  exact zB ha n 0 _ aa (mY (oR h1 ha hI) ha) (mY (oR h2 ha hI) ha)
abbrev PrL(g:Nat)(A1 A2:bj)(n c1 c2:Nat)(x y:al)(F:aR):aR:=PrB g A1 A2 n c1 c2:: .own 5 1 A1 (n*n) c1 (bv x):: .own 5 1 A2 (n*n) c2 (bv y)::F
set_option maxHeartbeats 1000000 in
theorem ag0{a:Nat}{x y:al}(hn:n≤255)(ha:a<n)(hx:x.length=n*n)(hy:y.length=n*n):
  a_ B w0 312 [bq g,ah (a:Int),ah (a:Int)] (PrL g A1 A2 n c1 c2 x y F) (fun v L=>v= .bool (rY n a (x,y)).1∧L=PrL g A1 A2 n c1 c2 (rY n a (x,y)).2.1 (rY n a (x,y)).2.2 F):=by
 refine dP.zk (aL.own (.tail _ (.head _))) fun oA _=>?_;have h1:=fO (k:=n) ha;obtain⟨q1,q2,q3,q4⟩:=rC n x a (n-a) a;have hIe:wG n a (x,y)=vJ n x a (n-a) a:=rfl;refine fw func312 117 [0,1,2] ?_;refine dm ?_;refine d_ (fun zf zL=>∃(i:Nat),(a≤i∧i≤n∧wG n a (x,y)=i)∧Sub zf [(0,bq g),(1,ah (a:Int)),(2,ah (a:Int)),(7,ah (i:Int))]∧Wk zL (PrL g A1 A2 n c1 c2 x y F)) ?_ ?_
 ·refine aE ?_;refine aD (fun zf zL zm=>∃(i:Nat),(a≤i∧i≤n∧wG n a (x,y)=vJ n x a (n-i) i)∧n-i=zm∧Sub zf [(0,bq g),(1,ah (a:Int)),(2,ah (a:Int)),(7,ah (i:Int))]∧Wk zL (PrL g A1 A2 n c1 c2 x y F)) _ ⟨a,⟨gj _,aa,hIe⟩,rfl,bm,.refl _⟩ ?_;rintro _ _ _ ⟨i,⟨hai,YF,hI⟩,rfl,hs,hp⟩;refine aU hs hp ?_;clear hs hp;refine cD ?_;refine ct (fun lV=>?_) fun lV=>?_
  ·have hri:=fO (k:=n) (show i<n by omega);have hnf:n-i=(n-(i+1))+1:=by omega
   have rb:aL B w0 (PrL g A1 A2 n c1 c2 x y F) 1 (Hc A1 c1 (i*n) n) (i*n+n-i*n) (bv (jh n x i)):=(aL.own (.tail _ (.head _))).part hri;have fB:(jh n x i).getD a 0=fK n x i a:=lr _ _ ha;refine bM ?_;refine ai rfl (pQ (i:=i) (o:=0) (r:=n) (n:=n*n) rfl aa aa aa) ?_;refine bH ?_;refine ae (aG (i:=a) (size:=1) underlying27 ag rfl rfl rfl aa rb) rfl ?_;refine aE ?_;refine ae (jq ag rfl rb aa) rfl ?_;rw[fB];refine bH ?_;refine ve [0,1,2,7,31] ?_;refine aE ?_;refine aj (fun D4=>?_) fun D4=>?_
   ·have hz:fK n x i a=0:=nZ (by have:=D4;show(fK n x i a).toNat=0;omega);refine bP ?_;refine av ⟨_,aa,i+1,⟨aa,aa,by rw[hI,hnf,ZC hz]⟩,rfl,bm,.refl _⟩
   ·have hz:¬fK n x i a=0:=fun e=>D4 C4;refine b8 ?_;exact bC ⟨i,⟨aa,aa,by rw[hI,hnf,ZD hz]⟩,bm,.refl _⟩
  ·have hie:i=n:=by omega
   refine bP ?_;refine ve [0,1,2,7,31] ?_;refine bB ?_;exact bC ⟨i,⟨aa,aa,by rw[hI,hie,nA,vJ]⟩,bm,.refl _⟩
 ·rintro _ _ ⟨i,⟨hai,YF,hI⟩,hs,hp⟩;refine aU hs hp ?_;clear hs hp;refine c_ ?_;refine aj (fun GN=>?_) fun GN=>?_
  ·have e:rY n a (x,y)=(false,x,y):=by unfold rY;rw[aq aa]
   refine bM ?_;rw[e];exact⟨rfl,rfl⟩
  ·have hI2:i<n:=by omega
   have e:rY n a (x,y)=(true,QS n a (x,y)):=by unfold rY;rw[aw aa]
   have ex:(JO n a (x,y))=(pG n x a i,pG n y a i):=by unfold JO;rw[hI]
   have LK:=oR hx ha hI2;have NN:=oR hy ha hI2;refine bP ?_;refine ai rfl (.perm (Xe (o:=0) (r:=n) (i:=a) (j:=i) (N:=n) (k:=n) rfl hx hn ha hI2 hn) ((l0 (fT (.refl _))))) ?_;refine bP ?_;refine ai rfl (.perm (Xe (o:=3) (r:=n) (i:=a) (j:=i) (N:=n) (k:=n) rfl hy hn ha hI2 hn) ((BN (l0 (fT (.refl _)))))) ?_;refine ve [0,1,2] ?_;refine be ?_;obtain⟨x1,as1⟩:=cR (pG n x a i);obtain⟨y1,as5⟩:=cR (pG n y a i);rw[←as1]at LK ex⊢;rw[←as5]at NN ex⊢;refine fR ((l0 (l0 (fT (.refl _))))) ?_;have rb:aL B w0 (PrL g A1 A2 n c1 c2 x1 y1 F) 1 (Hc A1 c1 (a*n) n) (a*n+n-a*n) (bv (jh n x1 a)):=(aL.own (.tail _ (.head _))).part h1;have fB:(jh n x1 a).getD a 0=fK n x1 a a:=lr _ _ ha;obtain⟨y0,hy0⟩:=cR (kJ (fK n x1 a a));have as4:q8 (fK n x1 a a).toNat=y0.toNat:=by rw[hy0,wL]
   refine bI ?_;refine ai rfl (pQ (i:=a) (o:=0) (r:=n) (n:=n*n) rfl aa aa aa) ?_;refine aE ?_;refine ae (aG (i:=a) (size:=1) underlying27 ag rfl rfl rfl aa rb) rfl ?_;refine ae (jq ag rfl rb aa) rfl ?_;rw[fB];refine ai rfl (akn (sv (fK n x1 a a))) ?_;refine bM ?_;rw[as4];refine bB ?_;refine ai rfl (.perm (PZ (o:=0) (r:=n) (i:=a) (y:=y0) (N:=n) (k:=n) rfl LK hn ha hn) ((l0 (fT (.refl _))))) ?_;refine ve [0,1,2,8] ?_;refine bM ?_;refine ai rfl (.perm (PZ (o:=3) (r:=n) (i:=a) (y:=y0) (N:=n) (k:=n) rfl NN hn ha hn) ((BN (l0 (fT (.refl _)))))) ?_;refine b8 ?_;refine fR ((l0 (l0 (fT (.refl _))))) ?_;have hs:anr n a (JO n a (x,y))=(jW n x1 a y0,jW n y1 a y0):=by rw[ex,hy0];rfl
   have hc3:QS n a (x,y)=kq n a n 0 (jW n x1 a y0,jW n y1 a y0):=by unfold QS;rw[hs]
   have hx2:=mY (c:=y0) LK ha;have R0:=mY (c:=y0) NN ha;rw[hc3]at e;refine dm ?_;refine aD (fun zf zL zm=>∃(q:Nat) (X Y:al),(q≤n∧X.length=n*n∧Y.length=n*n∧rY n a (x,y)=(true,kq n a (n-q) q (X,Y)))∧n-q=zm∧Sub zf [(0,bq g),(1,ah (a:Int)),(2,ah (a:Int)),(83,ah (n:Int)),(84,ah (q:Int))]∧Wk zL (PrL g A1 A2 n c1 c2 X Y F)) _ ⟨0,jW n x1 a y0,jW n y1 a y0,⟨bS _,hx2,R0,e⟩,rfl,bm,.refl _⟩ ?_;rintro _ _ _ ⟨q,X,Y,⟨hq,hX,hY,hE⟩,rfl,hs,hp⟩;refine aU hs hp ?_;clear hs hp;refine bB ?_;refine aj (fun h85=>?_) fun h85=>?_
   ·have hrq:=fO (k:=n) (show q<n by omega);have hnf:n-q=(n-(q+1))+1:=by omega
    have acZ:aL B w0 (PrL g A1 A2 n c1 c2 X Y F) 1 (Hc A1 c1 (q*n) n) (q*n+n-q*n) (bv (jh n X q)):=(aL.own (.tail _ (.head _))).part hrq;have acJ:(jh n X q).getD a 0=fK n X q a:=lr _ _ ha;obtain⟨d,hd⟩:=cR (fK n X q a);rw[←hd]at acJ;refine jU ?_;refine ai rfl (pQ (i:=q) (o:=0) (r:=n) (n:=n*n) rfl aa aa aa) ?_;refine aE ?_;refine ae (aG (i:=a) (size:=1) underlying27 ag rfl rfl rfl aa acZ) rfl ?_;refine ae (jq ag rfl acZ aa) rfl ?_;rw[acJ];refine bP ?_;refine ct (fun h98=>?_) fun h98=>?_
    ·refine bB ?_;refine aj (fun apW=>?_) fun apW=>?_
     ·have sN:kq n a (n-q) q (X,Y)=kq n a (n-(q+1)) (q+1) (rv n X q d a,rv n Y q d a):=by
       rw[hnf,Rb ⟨aa,fun k=>apW (by rw[hd];show((fK n X q a).toNat:Int)=0;rw[show fK n X q a=0 from k];rfl)⟩];show kq n a _ _ (rv n X q (fK n X q a) a,rv n Y q (fK n X q a) a)=_;rw[←hd]
      have hX2:=ry (c:=d) hX ha (show q<n by omega);have hY2:=ry (c:=d) hY ha (show q<n by omega);refine bM ?_;refine ai rfl (.perm (agb (o:=0) (r:=n) (i:=q) (j:=a) (y:=d) (N:=n) (k:=n) rfl hX hn aa ha hn) ((l0 (fT (.refl _))))) ?_;refine ve [0,1,2,10,11,83,84] ?_;refine bM ?_;refine ai rfl (.perm (agb (o:=3) (r:=n) (i:=q) (j:=a) (y:=d) (N:=n) (k:=n) rfl hY hn aa ha hn) ((BN (l0 (fT (.refl _)))))) ?_;refine bD ?_;refine av ⟨_,aa,q+1,rv n X q d a,rv n Y q d a,⟨aa,hX2,hY2,by rw[hE,sN]⟩,rfl,bm,(gl (gl (ef (.refl _))))⟩
     ·have sN:kq n a (n-q) q (X,Y)=kq n a (n-(q+1)) (q+1) (X,Y):=by
       rw[hnf,DL (fun k=>k.2 (by rw[←hd];exact nZ (by show d.toNat=0;omega)))]
      refine bB ?_;refine ve [0,1,2,83,84] ?_;refine av ⟨_,aa,q+1,X,Y,⟨aa,hX,hY,by rw[hE,sN]⟩,rfl,bm,.refl _⟩
    ·have sN:kq n a (n-q) q (X,Y)=kq n a (n-(q+1)) (q+1) (X,Y):=by
      rw[hnf,DL (fun k=>k.1 aa)]
     refine dm ?_;refine ve [0,1,2,83,84] ?_;refine av ⟨_,aa,q+1,X,Y,⟨aa,hX,hY,by rw[hE,sN]⟩,rfl,bm,.refl _⟩
   ·obtain rfl:q=n:=by omega
    rw[nA,kq]at hE;refine cD ?_;rw[hE];exact⟨rfl,rfl⟩
theorem aaG{x:al}(hn:n≤255)(hx:x.length=n*n)(hb:aL B w0 F 1 (.slice A (n*n) c) (n*n) (bv x)):
  a_ B w0 311 [vx A n n (n*n) c] F (fun v L=>∃g A1 c1 A2 c2,v=bq g∧L=PrL g A1 A2 n c1 c2 x (NO n) F):=by
 have Qj:n*n≤255*255:=gN hn hn;refine cB func311 17 rfl rfl rfl [(0,.agg #[ah (n:Int),ah (n:Int),.slice A (n*n) c])] ⟨⟨rfl,rfl⟩,trivial⟩ ?_;refine be ?_;refine bf fun g1=>?_;refine bD ?_;refine ay rfl (uu (l:=x) hx.symm rfl hb.cons aa) fun A5 c5=>?_;refine bI ?_;rw[hx];refine fR ((l0 (fT (.refl _)))) ?_;refine cC (CV g1 A5 n n (n*n) c5:: .own 5 1 A5 (n*n) c5 (bv x)::F) ?_;refine ab 0 ?_;refine aW 1 rfl (eG [(0,_)] [_,_,_] rfl rfl ag) ?_;refine ab 2 ?_;refine ab 3 ?_;refine ab 4 ?_;refine ab 5 ?_;refine az 6 ?_;refine b7 rfl rfl (Sn (Q:=[]) (cap:=[]) (fun i j=>if i=j then 1 else 0) hn hn aj5 (NV _) (fun i j L _ _ _=>Oy i j)) fun xi Gc=>?_;refine aW 7 rfl (eG [(0,_)] [_,_,_] rfl rfl ag) ?_;refine aW 8 rfl (eG [(0,_),(1,_)] [_,_,_,_,_,_] rfl rfl ag) ?_;refine az 9 ?_;refine cQ rfl (UT rfl rfl) fun g16=>?_;refine ab 10 ?_;refine cP [2] ?_;refine be ?_;refine ao ((ef (rP (ef (.skip (.refl _)))))) ?_;refine aE ?_;exact⟨g16,A5,c5,xi,Gc,rfl,rfl⟩
theorem YU{n f i:Nat}{p:al×al}(h:(rY n i p).1=true):Ei n (f+1) i p=Ei n f (i+1) (rY n i p).2:=by rw[Ei,aq h]
theorem YT{n f i:Nat}{p:al×al}(h:¬(rY n i p).1=true):Ei n (f+1) i p=none:=by rw[Ei,aw h]
theorem YV{x b:al}(hn:n≤255)(hx:x.length=n*n)(hi:ahY n x=some b)(hb:aL B w0 F 1 (.slice A (n*n) c) (n*n) (bv x)):
  a_ B w0 279 [vx A n n (n*n) c] F (fun v L=>∃A' c',v= .tuple #[vx A' n n (n*n) c',ah 0]∧L= .own 5 1 A' (n*n) c' (bv b)::F):=by
 refine cB func279 36 rfl rfl rfl [(0,.agg #[ah (n:Int),ah (n:Int),.slice A (n*n) c])] ⟨⟨rfl,rfl⟩,trivial⟩ ?_;refine be ?_;refine bf fun g1=>?_;refine bg fun g2=>?_;refine bD ?_;refine ai rfl (yB hn hn rfl) ?_;refine i_ ?_;refine dj fun kS=>?_;refine bI ?_;refine ba apm rfl (aaG hn hx hb.cons.cons) rfl ?_;rintro _ _ ⟨gp,Ax,cx,Ay,cy,rfl,cJ⟩;obtain rfl:=cJ.symm;refine cD ?_;refine aD (fun zf zL zm=>∃(i:Nat) (p:al×al),(i≤n∧p.1.length=n*n∧p.2.length=n*n∧(Ei n (n-i) i p).map (·.2)=some b)∧n-i=zm∧Sub zf [(2,bq g2),(4,bq gp),(20,ah (n:Int)),(21,ah (i:Int))]∧Wk zL (PrL gp Ax Ay n cx cy p.1 p.2 (.bE g2 272 [ah 0,ah 0,.slice none 0 0]::CV g1 A n n (n*n) c::F))) _ ⟨0,(x,NO n),⟨bS _,hx,Vs n,hi⟩,rfl,bm,.refl _⟩ ?_;rintro _ _ _ ⟨i,p,⟨YF,B_,hp2,hI⟩,rfl,hs,hp⟩;refine aU hs hp ?_;clear hs hp;refine bB ?_;refine aj (fun pX=>?_) fun pX=>?_
 ·have hnf:n-i=(n-(i+1))+1:=by omega
  have tz:=aby (p:=p) (show i<n by omega) B_ hp2;refine i_ ?_;refine ai rfl (ag0 (x:=p.1) (y:=p.2) hn aa B_ hp2) ?_;refine ae (jx rfl) rfl ?_;refine be ?_;refine h_ (fun q9=>?_) fun q9=>?_
  ·exfalso;(rw[hnf,YT (by simpa using q9)]at hI;simp at hI)
  ·rw[hnf,YU (by simpa using q9)]at hI;refine bD ?_;refine av ⟨_,aa,i+1,(rY n i p).2,⟨aa,tz.1,tz.2,hI⟩,rfl,bm,.refl _⟩
 ·obtain rfl:i=n:=by omega
  have LH:p.2=b:=by
   rw[nA,Ei]at hI;exact N8 hI
  rw[LH];refine dm ?_;refine ae (bQ 3 ag rfl aV [ah (i:Int),ah (i:Int),.slice Ay (i*i) cy] rfl rfl) rfl ?_;refine bI ?_;refine gS rfl rfl ag aV gD rfl ((rP (.skip (.skip (.skip (.skip (.refl _))))))) ?_;exact⟨Ay,cy,rfl,rfl⟩
section
theorem Dt{C:Cx}{fr:Fr}{L:aR}{x:Operand}{ty t e:TypeId}{A:bj}{n c:Nat}(ht:C.P.underlying t=some (.slice e))(h:ev fr x=some (.slice A n c)):gI C fr L (.call {callee:=.builtin .cap,args:= #[x],argTypes:= #[t]}) ty (ah (c:Int)):=fun a w ha hw d pos af g=>by
 simp[execOp,resolve,invoke,builtin,Builtin.cap_,ha.tmp h,iQ ht,goInt]
theorem abS{C:Cx}{fr:Fr}{L:aR}{x y:Operand}{ty t xt e:TypeId}{size bytes m:Nat}{zv:Value}{k kn:IntKind}(T:sF C.P t e size bytes zv)(hx:C.P.underlying xt=some (.int kn))(he:ev fr x=some (.slice none 0 0))(hy:ev fr y=some (.int k (m:Int)))(hm:0<m)(hs:0<size)(hb:m*bytes≤140737488355328)(Ir:m≤140737488355328):
  qz C fr L (.call {callee:=.builtin .append,args:= #[x,y],argTypes:= #[t,xt]}) ty (fun p L'=>∃A c,p= .slice A m c∧L'= .own e size A 0 c []::L):=fun a w ha hw d pos af gg=>by
 obtain⟨i,hi,hz,jb,D7⟩:=T.hi;have hr:=Lib.run_append_nil_zeros (P:=C.P) w t xt ty e i zv k kn T.ht hx hi hz m hm aa aa (by rw[D7];omega);have wN:=grownCap_ge w m 0 e;have hle:=grownCap_le_maxLen w m 0 e Bk;have Vl:∀(o:Obj) (row:Option Nat),w.grownBy (w.drew.alloc o) row:=fun o row=>⟨rfl,rfl,rfl,ak,fun k hk _=>heap_alloc_old w.drew o hk⟩
 refine⟨_,w.drew.alloc (.cells (Builtin.zeroCells zv.cells m++Builtin.zeroCells zv.cells (grownCap w m 0 e-m)) e),_,.inl ?_,⟨some ⟨w.heap.size,0,none⟩,grownCap w m 0 e,rfl,rfl⟩,hw.gL (Vl _ none) ⟨ak,bS _,.inr ⟨w.heap.size,_,rfl,hw.base,Es w.drew _,hle,?_,ak⟩⟩ (.inr ⟨w.heap.size,by simp[Ch.fp];omega,gj _⟩)⟩
 ·simp[execOp,resolve,invoke,builtin,ha.tmp he,ha.tmp hy,hr]
 ·simp only[Array.size_append,size_zeroCells,T.hz,←mD];congr 1;omega
variable{B:Nat}{w0:World}{F L0:aR}{A A1 A2 Ao:bj}{n c c1 c2 co g gc r k m N:Nat}
theorem aiB(m:Nat)(h0:0<m)(hn:m≤1000000):
  a_ B w0 313 [.slice none 0 0,ah m] F (fun r L=>∃A' c',r= .slice A' 0 c'∧L= .own 27 1 A' 0 c' []::F):=by
 refine fw func313 27 [0,1] ?_;refine cD ?_;refine dj fun h6=>?_;refine bD ?_;refine ae (Dt underlying52 rfl) rfl ?_;refine bH ?_;refine ae (dQ rfl rfl (r:=(m:Int)) ((bG aa aa).trans aa)) rfl ?_;refine bP ?_;refine zJ fun kH=>?_;refine bH ?_;refine ae (Dt underlying52 rfl) rfl ?_;refine ae (bZ (i:=0) (size:=1) underlying52 ag rfl rfl rfl aa) rfl ?_;refine aE ?_;refine gw (abS (m:=m) fH underlying3 rfl rfl h0 aa aa aa) fun A22 c22=>?_;refine be ?_;refine ae (bZ (i:=0) (size:=1) underlying52 ag rfl rfl rfl aa) rfl ?_;refine aE ?_;refine ve [0] ?_;refine bP ?_;exact⟨A22,c22,rfl,rfl⟩
theorem ZB{n1 n2:Nat}{V1 V2:cV}(hr:aL B w0 F 1 (.slice A 2 c) 2 [.slice A1 n1 c1,.slice A2 n2 c2])(h1:aL B w0 F 1 (.slice A1 n1 c1) n1 V1)(h2:aL B w0 F 1 (.slice A2 n2 c2) n2 V2)(k1:∀u∈V1,u.oneCell'=true)(k2:∀u∈V2,u.oneCell'=true)(h0:0<n1)(hn1:n1≤10000)(tW:n2≤10000):
  a_ B w0 280 [.slice A 2 c] F (fun r L=>∃A' c',r= .slice A' (n1+n2) c'∧L= .own 27 1 A' (n1+n2) c' (V1++V2)::F):=by
 refine fw func280 36 [0] ?_;refine zM ?_;refine aD (fun zf zL zm=>∃(i q:Nat),((i=0∧q=0)∨(i=1∧q=n1)∨(i=2∧q=n1+n2))∧2-i=zm∧Sub zf [(0,.slice A 2 c),(3,ah (q:Int)),(9,.slice A 2 c),(10,ah 2),(11,ah (i:Int))]∧Wk zL (F)) _ ⟨0,0,.inl ⟨rfl,rfl⟩,rfl,bm,.refl _⟩ ?_;rintro _ _ _ ⟨i,q,kT,rfl,hs,hp⟩;refine aU hs hp ?_;clear hs hp;refine bB ?_;refine aj (fun mF=>?_) fun mF=>?_
 ·obtain⟨Ai,ni,ci,fB,hni⟩:∃(Ai:bj) (ni ci:Nat),([.slice A1 n1 c1,.slice A2 n2 c2]:cV)[i*1]? =some (.slice Ai ni ci)∧ni=(if i=0 then n1 else n2):=by
   have:i=0∨i=1:=by omega
   rcases this with rfl|rfl
   ·exact⟨A1,n1,c1,rfl,rfl⟩
   ·exact⟨A2,n2,c2,rfl,rfl⟩
  have atY:ni≤10000:=by rw[hni];split<;>omega
  refine bD ?_;refine ae (au ag rfl aB aa fB) rfl ?_;refine bM ?_;refine ae (bY rfl rfl (r:=((q+ni:Nat):Int)) ((bG aa aa).trans aa)) rfl ?_;refine bP ?_;refine dj fun ja=>?_;refine bD ?_;refine av ⟨_,aa,i+1,q+ni,(by
   rcases kT with h|h|h
   ·rw[aq h.1]at hni;exact .inr (.inl ⟨aa,aa⟩)
   ·rw[aw aa]at hni;exact .inr (.inr ⟨aa,aa⟩)
   ·omega),rfl,bm,.refl _⟩
 ·obtain rfl:q=n1+n2:=by omega
  refine bM ?_;refine ay rfl (aiB (n1+n2) aa aa) fun Bh Dc=>?_;refine cD ?_;refine aD (fun zf zL zm=>∃(i q:Nat) (A':bj) (c':Nat) (acc:cV),((i=0∧q=0∧acc=[])∨(i=1∧q=n1∧acc=V1)∨(i=2∧q=n1+n2∧acc=V1++V2))∧2-i=zm∧Sub zf [(6,.slice A' q c'),(25,.slice A 2 c),(26,ah 2),(27,ah (i:Int))]∧Wk zL (.own 27 1 A' q c' acc::F)) _ ⟨0,0,Bh,Dc,[],.inl ⟨rfl,rfl,rfl⟩,rfl,bm,.refl _⟩ ?_;rintro _ _ _ ⟨i,q,A',c',acc,aqn,rfl,hs,hp⟩;refine aU hs hp ?_;clear hs hp;refine bB ?_;refine aj (fun q9=>?_) fun q9=>?_
  ·obtain⟨Ai,ni,ci,V,fB,hV,hb,hk,hni,hVe⟩:∃(Ai:bj) (ni ci:Nat) (V:cV),([.slice A1 n1 c1,.slice A2 n2 c2]:cV)[i*1]? =some (.slice Ai ni ci)∧V=(if i=0 then V1 else V2)∧aL B w0 F 1 (.slice Ai ni ci) ni V∧(∀u∈V,u.oneCell'=true)∧ni=(if i=0 then n1 else n2)∧ni≤10000:=by
    have:i=0∨i=1:=by omega
    rcases this with rfl|rfl
    ·exact⟨A1,n1,c1,V1,rfl,rfl,h1,k1,rfl,hn1⟩
    ·exact⟨A2,n2,c2,V2,rfl,rfl,h2,k2,rfl,tW⟩
   refine bD ?_;refine ae (au ag rfl aB aa fB) rfl ?_;refine bB ?_;refine gw (bW fH rfl aV rfl (hb.cons) hk aa aa) fun P6 c33=>?_;refine bM ?_;refine av ⟨_,aa,i+1,q+ni,P6,c33,acc++V,(by
    rcases aqn with h|h|h
    ·rw[aq h.1]at hni hV;rw[hV,h.2.2];exact .inr (.inl ⟨aa,aa,rfl⟩)
    ·rw[aw aa]at hni hV;rw[hV,h.2.2];exact .inr (.inr ⟨aa,aa,rfl⟩)
    ·omega),rfl,bm,.refl _⟩
  ·obtain⟨rfl,mz⟩:q=n1+n2∧acc=V1++V2:=by
    rcases aqn with h|h|h
    ·omega
    ·omega
    ·exact⟨h.2.1,h.2.2⟩
   subst mz;refine c_ ?_;exact⟨A',c',rfl,rfl⟩
theorem Wv(hk:1≤k)(Gj:k+m≤255):a_ B w0 189 [ah (k:Int),ah (m:Int)] F (fun v L=>v= .bool true∧L=F):=by
 refine fw func189 25 [0,1] ?_;refine bz ?_;refine ct (fun h7=>?_) fun h7=>?_
 ·refine bI ?_;refine ct (fun pq=>?_) fun pq=>?_
  ·refine bI ?_;refine ct (fun kS=>?_) fun kS=>?_
   ·refine bI ?_;refine ct (fun sL=>?_) fun sL=>?_
    ·refine bP ?_;refine ve [4] ?_;refine bH ?_;exact⟨aa8,rfl⟩
    ·exfalso;omega
   ·exfalso;omega
  ·exfalso;omega
 ·exfalso;omega
abbrev iR:kP:=(none,0,[])
theorem G8{PB:List kP}{i:Nat}(h:i<PB.length):(PB.map dq)[i*1]? =some (dq (PB.getD i iR)):=by
 simp[bk,fo h]
theorem ET{PB:List kP}{i:Nat}:(PB.map (·.2.2)).getD i []=(PB.getD i iR).2.2:=by
 simp only[bk,jt];cases PB[i]? <;>rfl
theorem phd{PB:List kP}:Is (PB.map (·.2.2))=(PB.getD 0 iR).2.2.length:=by
 cases PB<;>rfl
theorem E2{PB:List kP}:∀u∈PB.map dq,u.oneCell'=true:=fun u hu=>by
 obtain⟨e,_,rfl⟩:=pS.1 hu;rfl
theorem I9{PB:List kP}(hb:aL B w0 F 1 (.slice A PB.length c) PB.length (PB.map dq))(hl:PB.length≤1000000):
  a_ B w0 190 [.slice A PB.length c] F (fun v L=>v= .bool (decide (rS (PB.map (·.2.2))))∧L=F):=by
 refine fw func190 19 [0] ?_;refine dX ?_;refine aD (fun zf zL zm=>∃(i:Nat),(i≤PB.length∧∀j,j<i→(PB.getD j iR).2.2.length=(PB.getD 0 iR).2.2.length)∧PB.length-i=zm∧Sub zf [(0,.slice A PB.length c),(5,.slice A PB.length c),(6,ah PB.length),(7,ah (i:Int))]∧Wk zL (F)) _ ⟨0,⟨bS _,fun j hj=>aa⟩,rfl,bm,.refl _⟩ ?_;rintro _ _ _ ⟨i,⟨hi,GP⟩,rfl,hs,hp⟩;refine aU hs hp ?_;clear hs hp;refine bB ?_;refine aj (fun h8=>?_) fun h8=>?_
 ·have hg:=G8 (PB:=PB) (i:=i) aa;have hg0:=G8 (PB:=PB) (i:=0) aa;have pY:=bh (l:=PB) (show i<PB.length by omega) iR;refine bD ?_;refine ae (au ag rfl aB aa hg) rfl ?_;refine bM ?_;refine ae (aG (i:=0) (size:=1) underlying52 ag rfl rfl rfl aa aB) rfl ?_;refine ae (au ag rfl aB aa hg0) rfl ?_;refine b8 ?_;refine aj (fun iy=>?_) fun iy=>?_
  ·refine cD ?_;have hn:¬rS (PB.map (·.2.2)):=fun k=>by
    have:=k _ (je (f:=fun e:kP=>e.2.2) pY);rw[phd]at this;exact iy aa
   exact⟨by rw[nD hn],rfl⟩
  ·refine bD ?_;refine av ⟨_,aa,i+1,⟨aa,fun j hj=>by
    by_cases e:j=i
    ·subst e;omega
    ·exact GP j aa⟩,rfl,bm,.refl _⟩
 ·refine cD ?_;have hp:rS (PB.map (·.2.2)):=fun b oP=>by
   obtain⟨e,he,rfl⟩:=pS.1 oP;obtain⟨j,hj,rfl⟩:=j8 he;have:=GP j aa;rw[phd,←this,bk,fo hj];rfl
  exact⟨by rw[lD hp],rfl⟩
theorem Bf{α β:Type}:∀(a:List α) (b:List β) (i:Nat),(a.take i).zip (b.take i)=(a.zip b).take i
 |_,_,0=>by simp
 |[],_,_+1=>by simp
 |_::_,[],_+1=>by simp
 |x::a,y::b,i+1=>by simp[Bf a b i]
theorem aad{n:Nat}{row:al}{data:eH}{j:Nat}(h1:j<row.length)(h2:j<data.length):
  Lb n (row.take (j+1)) (data.take (j+1))=if row.getD j 0=0 then Lb n (row.take j) (data.take j) else qZ (Lb n (row.take j) (data.take j)) (row.getD j 0) (data.getD j []):=by
 unfold Lb;rw[Bf,Bf,aZ bO ((0:UInt8),([]:al)),List.foldl_append];have e:(row.zip data).getD j ((0:UInt8),([]:al))=(row.getD j 0,data.getD j []):=by
  simp[bk,fo (show j<(row.zip data).length by simp;omega),fo h1,fo h2]
 rw[e];rfl
def PtA(l:eH)(e:Option Int)(F:aR)(v:Value)(L:aR):Prop:=
 ∃(A':bj) (c':Nat) (FB:List kP),v=(match e with|some x=>.tuple #[.slice A' FB.length c',ah x]|none=>.slice A' FB.length c')∧L= .own 27 1 A' FB.length c' (FB.map dq)::(FB.map fx++F)∧FB.map (·.2.2)=l
theorem ans{FB:List kP}{r i:Nat}{v:Value}(h:FB.length=i)(hi:i<r):(FB.map dq++List.replicate (r-i) (Value.slice none 0 0)).set (i*1) v=FB.map dq++(v::List.replicate (r-(i+1)) (Value.slice none 0 0)):=by
 subst h;rw[show r-FB.length=(r-(FB.length+1))+1 by omega,zX,cE,wX _ _ ak];simp
theorem I'{PB:List kP}{cells:al}{nn:Nat}(hk:PB.length=k)(xo:1≤k)(hr:r≤255)(Iw:k≤255)(tz:cells.length=r*k)(Qj:nn≤1000000000)(Ix:∀e∈PB,e.2.2.length=nn)(hc:aL B w0 F 1 (.slice A (r*k) c) (r*k) (bv cells))(hb:aL B w0 F 1 (.slice A2 PB.length c2) PB.length (PB.map dq))(hP:∀e∈PB,aL B w0 F 1 (dq e) e.2.2.length (bv e.2.2)):
  a_ B w0 192 [vx A r k (r*k) c,.slice A2 PB.length c2] F (PtA (WX r k cells (PB.map (·.2.2)) nn) none F):=by
 have hg0:=G8 (PB:=PB) (i:=0) aa;have hl0:(PB.getD 0 iR).2.2.length=nn:=Ix _ (bh aa iR);obtain⟨P0,hP0⟩:=cR (PB.getD 0 iR);rw[←hP0]at hg0 hl0;refine cB func192 57 rfl rfl rfl [(0,.agg #[ah (r:Int),ah (k:Int),.slice A (r*k) c]),(1,.slice A2 PB.length c2)] ⟨⟨rfl,rfl⟩,⟨rfl,rfl⟩,trivial⟩ ?_;refine be ?_;refine bf fun g2=>?_;refine bD ?_;refine cH (fc (nn:=r) (cc:=r) fH rfl rfl rfl rfl rfl aa aa aa) fun xi=>?_;refine cD ?_;refine aD (fun zf zL zm=>∃(i:Nat) (FB:List kP),(i≤r∧FB.length=i∧FB.map (·.2.2)=(WX r k cells (PB.map (·.2.2)) nn).take i)∧r-i=zm∧Sub zf [(1,.slice A2 PB.length c2),(2,bq g2),(5,.slice xi r r),(15,ah r),(16,ah (i:Int))]∧Wk zL (.own 27 1 xi r r (FB.map dq++List.replicate (r-i) (.slice none 0 0))::CV g2 A r k (r*k) c::(FB.map fx++F))) _ ⟨0,[],⟨bS _,rfl,rfl⟩,rfl,bm,.refl _⟩ ?_;rintro _ _ _ ⟨i,FB,⟨hi,Rv,sM⟩,rfl,hs,hp⟩;refine aU hs hp ?_;clear hs hp;refine bB ?_;refine aj (fun iy=>?_) fun iy=>?_
 ·have Ca:=eY tz (show i<r by omega);have hrl:=fO (k:=k) (show i<r by omega);have hrk:r*k≤255*255:=gN hr Iw;have hbF:aL B w0 (FB.map fx++F) 1 (.slice A2 PB.length c2) PB.length (PB.map dq):=hb.mono (gz _ _);have hcF:aL B w0 (FB.map fx++F) 1 (.slice A (r*k) c) (r*k) (bv cells):=hc.mono (gz _ _);refine c_ ?_;refine ae (aG (i:=0) (size:=1) underlying52 ag rfl rfl rfl aa hbF.cons.cons) rfl ?_;refine ae (au ag rfl hbF.cons.cons aa hg0) rfl ?_;refine aE ?_;refine cH (fc cN rfl rfl rfl rfl rfl aa aa aa) fun A23=>?_;rw[hl0];have at7:(List.replicate nn (0:UInt8)).length=nn:=by simp
  refine cD ?_;refine aD (fun zf zL zm=>∃(j:Nat) (As:bj) (cs:Nat) (S:al),(j≤k∧S.length=nn∧S=Lb nn ((jh k cells i).take j) ((PB.map (·.2.2)).take j))∧k-j=zm∧Sub zf [(1,.slice A2 PB.length c2),(2,bq g2),(5,.slice xi r r),(6,ah (i:Int)),(7,.slice As S.length cs),(15,ah r),(16,ah (i:Int)),(24,.slice A2 PB.length c2),(25,ah PB.length),(26,ah (j:Int))]∧Wk zL (fx (As,cs,S):: .own 27 1 xi r r (FB.map dq++List.replicate (r-i) (.slice none 0 0))::CV g2 A r k (r*k) c::(FB.map fx++F))) _ ⟨0,A23,nn,List.replicate nn 0,⟨bS _,ak,by simp[Lb]⟩,rfl,bm,ax ak Bm (.refl _)⟩ ?_;rintro _ _ _ ⟨j,As,cs,S,⟨hj,Yv,hS⟩,rfl,hs,hp⟩;refine aU hs hp ?_;clear hs hp;refine bB ?_;refine aj (fun ku=>?_) fun ku=>?_
  ·have hg:=G8 (PB:=PB) (i:=j) aa;have pY:=bh (l:=PB) (show j<PB.length by omega) iR;have hTs:=aad (n:=nn) (row:=jh k cells i) (data:=PB.map (·.2.2)) (j:=j) aa bO;rw[lr _ _ aa,ET,←hS]at hTs;obtain⟨P,hPe⟩:=cR (PB.getD j iR);rw[←hPe]at hg pY hTs;have hlP:=Ix P pY;have hbP:aL B w0 (FB.map fx++F) 1 (dq P) P.2.2.length (bv P.2.2):=(hP P pY).mono (gz _ _);obtain⟨x,hx⟩:=cR (fK k cells i j);have hx2:cells.getD (i*k+j) 0=x:=hx.symm;have Iv:i*k+j<r*k:=by omega
   rw[←hx]at hTs;refine bM ?_;refine ae (au ag rfl hbF.cons.cons.cons aa hg) rfl ?_;refine dm ?_;refine ae (e_ rfl rfl (r:=((i*k:Nat):Int)) (EK aa aa)) rfl ?_;refine aE ?_;refine ae (bY rfl rfl (r:=((i*k+j:Nat):Int)) ((bG aa aa).trans aa)) rfl ?_;refine ae (aG (i:=i*k+j) (size:=1) underlying27 ag rfl rfl rfl Iv hcF.cons.cons.cons) rfl ?_;refine ae (jq ag rfl hcF.cons.cons.cons Iv) rfl ?_;rw[hx2];refine bP ?_;refine aj (fun h42=>?_) fun h42=>?_
   ·have hx0:¬x=0:=fun e=>h42 C4;rw[aw hx0]at hTs;have GU:(qZ S x P.2.2).length=S.length:=q7 aa;refine b8 ?_;refine ay rfl (Va (s:=S) (b:=P.2.2) rfl rfl aa (aL.own (.head _)) hbP.cons.cons.cons aa) fun A47 c47=>?_;refine b8 ?_;refine ve [1,2,5,6,7,15,16,24,25,26] ?_;refine bB ?_;refine av ⟨_,aa,j+1,A47,c47,qZ S x P.2.2,⟨aa,aa,hTs.symm⟩,rfl,bm,.trans ((ef (gl (gl (.skip (.refl _)))))) (ax GU.symm rfl (.refl _))⟩
   ·have hx0:x=0:=nZ (by show x.toNat=0;omega);rw[aq hx0]at hTs;refine bB ?_;refine ve [1,2,5,6,7,15,16,24,25,26] ?_;refine av ⟨_,aa,j+1,As,cs,S,⟨aa,Yv,hTs.symm⟩,rfl,bm,.refl _⟩
  ·obtain rfl:j=PB.length:=by omega
   have NB:S=Lb nn (jh k cells i) (PB.map (·.2.2)):=by rw[hS,fD aa,fD ak]
   have hts:(WX r k cells (PB.map (·.2.2)) nn).take (i+1)=(WX r k cells (PB.map (·.2.2)) nn).take i++[S]:=by
    rw[aZ (by rw[pO];omega) [],NB];congr 2;unfold WX;rw[bk,jt,yg aa];rfl
   refine bP ?_;refine ae (aG (i:=i) (size:=1) underlying52 ag rfl rfl rfl aa (aL.own (.tail _ (.head _)))) rfl ?_;refine kK (iL ag rfl rfl rfl aV bO) ?_;refine bD ?_;refine av ⟨_,aa,i+1,FB++[((As,cs,S):kP)],⟨aa,bO,by rw[jd,sM,hts];rfl⟩,rfl,bm,.trans (qy (e:=((As,cs,S):kP)) [.own 27 1 xi r r _,CV g2 A r k (r*k) c]) (ax rfl (by rw[ans Rv aa];simp) (.refl _))⟩
 ·obtain rfl:i=r:=by omega
  rw[fD (by rw[pO];omega)]at sM;refine cD ?_;refine ao (L':=.own 27 1 xi FB.length i (FB.map dq)::(FB.map fx++F)) (ax Rv.symm ak (.skip (.refl _))) ?_;refine aE ?_;exact⟨xi,i,FB,by rw[Rv],rfl,sM⟩
theorem OO{PB:List kP}{nn:Nat}(hk:PB.length=k)(xo:1≤k)(Gj:k+m≤255)(Qj:nn≤1000000000)(Ix:∀e∈PB,e.2.2.length=nn)(hb:aL B w0 F 1 (.slice A2 PB.length c2) PB.length (PB.map dq))(hP:∀e∈PB,aL B w0 F 1 (dq e) e.2.2.length (bv e.2.2)):
  a_ B w0 122 [ah (m:Int),.slice A2 PB.length c2] F (PtA (par m (PB.map (·.2.2))) (some 0) F):=by
 have GP:rS (PB.map (·.2.2)):=fun b oP=>by
  obtain⟨e,he,rfl⟩:=pS.1 oP;rw[phd,Ix e he,Ix _ (bh aa iR)]
 have asM:par m (PB.map (·.2.2))=WX m k (Gz k m) (PB.map (·.2.2)) nn:=by
  unfold par;rw[phd,Ix _ (bh aa iR),eM,hk]
 subst hk;rw[asM];refine fw func122 28 [0,1] ?_;refine cD ?_;refine ai rfl (Wv xo Gj) ?_;refine bI ?_;refine ai rfl (I9 hb aa) ?_;refine bI ?_;refine aj (fun iy=>?_) fun iy=>?_
 ·exfalso;exact iy GP
 ·refine bD ?_;refine ay rfl (MA Gj) fun A22 c22=>?_;refine bH ?_;refine bg fun g6=>?_;refine be ?_;refine ve [1,6] ?_;refine bI ?_;refine ba ajZ rfl (I' (cells:=Gz PB.length m) rfl xo aa aa (Mz _ _) Qj Ix (aL.own (.tail _ (.head _))) hb.cons.cons (fun e he=>(hP e he).cons.cons)) rfl ?_;rintro _ _ ⟨Gn,Ly,FB,rfl,cJ,sM⟩;obtain rfl:=cJ.symm;refine bI ?_;refine ao (.cons (Ll (.skip (.skip (.refl _))) _)) ?_;refine aE ?_;exact⟨Gn,Ly,FB,rfl,rfl,sM⟩
end
section
theorem ph{C:Cx}{fr:Fr}{L:aR}{x:Operand}{ty t:TypeId}{fs:Array Field}{i j:Nat}{fd:Field}{ad:Addr}(ht:C.P.underlying t=some (.struct fs))(hf:fs[i]? =some fd)(hz:Bw C.P fd.type=true)(he:ev fr x=some (.pointer ((some ad).map (·.add j)))){q:Nat}(hq:fd.offset=q):
  gI C fr L (.fieldAddr t x i) ty (.pointer ((some ad).map (fun ad=>(ad.add j).add q))):=by
 unfold Bw at hz;cases hi:C.P.info? fd.type with
 |none=>rw[hi]at hz;cases hz
 |some f=>
  rw[hi]at hz;have h0:0<f.size:=by simpa[Nat.blt_eq]using hz
  have vD:(C.P.info? fd.type).map (·.size)=some ((f.size-1)+1):=by rw[hi];simp;omega
  intro a w ha hw d pos af gg;subst hq;simp[execOp,Instr.fieldAt,Instr.sureAddr,fieldPlace,ha.tmp he,iQ ht,hf,GZ vD]
theorem alv{ns:bc}{xs:cV}(e1:n=ns.length)(e2:xs=bx ns)(hb:aL B w0 F 1 (.slice A n c) n xs)(hl:ns.length≤1099511627776)(hs:ns.sum≤1000000000000000):
  a_ B w0 92 [.slice A n c] F (fun r L=>r=ah (ns.sum:Nat)∧L=F):=by
 subst e1;subst e2;exact C' hb hl hs
theorem abc{ns:bc}{k:Nat}(hk:k≤ns.length)(hc:ns.length≤c)(hb:aL B w0 (Bo g (.slice A ns.length c) v1 v2 v3 v4 v5 v6 v7 v8 v9::F) 1 (.slice A ns.length c) ns.length (bx ns))(hl:ns.length≤1000000)(hs:ns.sum≤1000000):
  a_ B w0 232 [bq g,ah (k:Int)] (Bo g (.slice A ns.length c) v1 v2 v3 v4 v5 v6 v7 v8 v9::F) (fun r L=>r=ah ((ns.take k).sum:Nat)∧L=Bo g (.slice A ns.length c) v1 v2 v3 v4 v5 v6 v7 v8 v9::F):=by
 have tZ:=nM ns k;have hh:=hb.js (k:=k) hk;have e:(bx ns).take (k*1)=bx (ns.take k):=by rw[cE];simp[bx,pw]
 refine fw func232 12 [0,1] ?_;refine cD ?_;refine ae (bZ (i:=k) (size:=1) underlying53 ag rfl rfl rfl aa) rfl ?_;refine ai rfl (alv (ns:=ns.take k) nt e hh nt aa) ?_;refine bI ?_;exact⟨rfl,rfl⟩
theorem AS(r:aH)(L:List aH):cU (r::L)=aH.cells r++cU L:=by simp[cU]
theorem OY(L:List aH):(cU L).length=L.length*4:=by
 induction L with
 |nil=>rfl
 |cons r L ih=>rw[AS,aX,ih,eh];simp[aH.cells];omega
def Fm(ts:bc)(lv:al)(a:Nat)(L:List aH)(i:Nat):List aH:=(pL ts lv a L).take i++L.drop i
theorem kN(ts:bc)(lv:al)(a:Nat)(L:List aH):(pL ts lv a L).length=L.length:=by simp[pL]
theorem Pd(ts:bc)(lv:al)(a:Nat)(L:List aH){i:Nat}(h:i≤L.length):(Fm ts lv a L i).length=L.length:=by
 unfold Fm;rw[aX,eV,kN,iN];omega
theorem S4{ts:bc}{lv:al}{a:Nat}{L:List aH}{i:Nat}(h:i<L.length):
  Fm ts lv a L i=(pL ts lv a L).take i++(recAt L i::L.drop (i+1))∧Fm ts lv a L (i+1)=(pL ts lv a L).take i++((ts.getD (a+i) 0,lv.getD (a+i) 0,(recAt L i).2.2.1,(recAt L i).2.2.2)::L.drop (i+1)):=by
 have hl:=kN ts lv a L;unfold Fm;refine⟨by rw[dw h (0,0,[],[])];rfl,?_⟩;rw[aZ aa (0,0,[],[]),bV];congr 1;have:(pL ts lv a L).getD i (0,0,[],[])=(ts.getD (a+i) 0,lv.getD (a+i) 0,(recAt L i).2.2.1,(recAt L i).2.2.2):=by
  unfold pL;rw[bk,jt,yg h];rfl
 rw[this];rfl
theorem aiY{P Q:List aH}{r:aH}{t:Nat}{u:UInt8}{i:Nat}(h:P.length=i):
  ((cU (P++r::Q)).set (i*4+0) (.int .u64 (t:Int))).set (i*4+1) (.int .u8 (u.toNat:Int))=cU (P++(t,u,r.2.2.1,r.2.2.2)::Q)∧((cU (P++r::Q)).set (i*4+1) (.int .u8 (u.toNat:Int))).set (i*4+0) (.int .u64 (t:Int))=cU (P++(t,u,r.2.2.1,r.2.2.2)::Q):=by
 have hp:(cU P).length=i*4:=by rw[OY,h]
 rw[←vh,←vh,AS,AS];constructor
 ·rw[wX _ _ aa,wX _ _ aa,show i*4+0-(cU P).length=0 by omega,show i*4+1-(cU P).length=1 by omega];rfl
 ·rw[wX _ _ aa,wX _ _ aa,show i*4+0-(cU P).length=0 by omega,show i*4+1-(cU P).length=1 by omega];rfl
theorem ajw{L:bc}{i v:Nat}(h:i<L.length)(e:L.getD i 0=v):(p_ L)[i*1]? =some (.int .u64 ((v:Nat):Int)):=by
 subst e;simp[p_,bk,fo h]
structure sC(x:iv):Prop where
 fr:x.bA.length=x.ns.length
 ti:x.times.length=x.ns.sum
 le:x.levels.length=x.ns.sum
 su:x.ns.sum≤20000
 nl:x.ns.length≤20000
 fe:∀f∈x.bA,f.length≤1000000
 tl:x.T.length≤1048576
 il:x.I.length≤1048576
 ie:∀l∈x.I,l.length≤20000
 tm:∀t∈x.times,t<18446744073709551616
section
variable{x:iv}{k:Nat}
theorem Rc(h:(dL (x.bA.getD k [])).2.2≠0):lU x k=([],(dL (x.bA.getD k [])).2.2):=by unfold lU;rw[aq h]
theorem Re(h:¬(dL (x.bA.getD k [])).2.2≠0)(h2:(dL (x.bA.getD k [])).2.1<(x.bA.getD k []).length):lU x k=([],2):=by unfold lU;rw[aw h,aq h2]
theorem Rf(h:¬(dL (x.bA.getD k [])).2.2≠0)(h2:¬(dL (x.bA.getD k [])).2.1<(x.bA.getD k []).length)(h3:(qQ false (dL (x.bA.getD k [])).1).2≠0):lU x k=([],(qQ false (dL (x.bA.getD k [])).1).2):=by unfold lU;rw[aw h,aw h2,aq h3]
theorem Rg(h:¬(dL (x.bA.getD k [])).2.2≠0)(h2:¬(dL (x.bA.getD k [])).2.1<(x.bA.getD k []).length)(h3:¬(qQ false (dL (x.bA.getD k [])).1).2≠0)(h4:(qQ false (dL (x.bA.getD k [])).1).1.length≠x.ns.getD k 0):lU x k=([],2):=by unfold lU;rw[aw h,aw h2,aw h3,aq h4]
theorem Rh(h:¬(dL (x.bA.getD k [])).2.2≠0)(h2:¬(dL (x.bA.getD k [])).2.1<(x.bA.getD k []).length)(h3:¬(qQ false (dL (x.bA.getD k [])).1).2≠0)(h4:¬(qQ false (dL (x.bA.getD k [])).1).1.length≠x.ns.getD k 0):lU x k=(pL x.times x.levels (x.ns.take k).sum (qQ false (dL (x.bA.getD k [])).1).1,0):=by unfold lU;rw[aw h,aw h2,aw h3,aw h4]
end
theorem abb(HT:bK B w0){x:iv}{k:Nat}{FB:List kP}(ho:sC x)(hk:k<x.bA.length)(sM:FB.map (·.2.2)=x.bA)(hcn:x.ns.length≤c1)(hn:aL B w0 (Bo g (.slice A1 x.ns.length c1) v1 v2 v3 (.slice A3 x.times.length c3) (.slice A4 x.levels.length c4) v6 v7 (.slice Af FB.length cf) v9::F) 1 (.slice A1 x.ns.length c1) x.ns.length (bx x.ns))(ht:aL B w0 (Bo g (.slice A1 x.ns.length c1) v1 v2 v3 (.slice A3 x.times.length c3) (.slice A4 x.levels.length c4) v6 v7 (.slice Af FB.length cf) v9::F) 1 (.slice A3 x.times.length c3) x.times.length (p_ x.times))(hl:aL B w0 (Bo g (.slice A1 x.ns.length c1) v1 v2 v3 (.slice A3 x.times.length c3) (.slice A4 x.levels.length c4) v6 v7 (.slice Af FB.length cf) v9::F) 1 (.slice A4 x.levels.length c4) x.levels.length (bv x.levels))(hf:aL B w0 (Bo g (.slice A1 x.ns.length c1) v1 v2 v3 (.slice A3 x.times.length c3) (.slice A4 x.levels.length c4) v6 v7 (.slice Af FB.length cf) v9::F) 1 (.slice Af FB.length cf) FB.length (FB.map dq))(It:∀e∈FB,aL B w0 (Bo g (.slice A1 x.ns.length c1) v1 v2 v3 (.slice A3 x.times.length c3) (.slice A4 x.levels.length c4) v6 v7 (.slice Af FB.length cf) v9::F) 1 (dq e) e.2.2.length (bv e.2.2)):
  a_ B w0 184 [bq g,ah (k:Int)] (Bo g (.slice A1 x.ns.length c1) v1 v2 v3 (.slice A3 x.times.length c3) (.slice A4 x.levels.length c4) v6 v7 (.slice Af FB.length cf) v9::F)
   (fun v L=>∃A' c',v= .tuple #[.slice A' (lU x k).1.length c',ah (lU x k).2]∧L= .own 62 4 A' (lU x k).1.length c' (cU (lU x k).1)::Bo g (.slice A1 x.ns.length c1) v1 v2 v3 (.slice A3 x.times.length c3) (.slice A4 x.levels.length c4) v6 v7 (.slice Af FB.length cf) v9::F):=by
 obtain⟨o1,o2,o3,o4,o5,o6,_,_,_,_⟩:=ho;have Rv:FB.length=x.bA.length:=by rw[←sM,eM]
 have RK:=G8 (PB:=FB) (i:=k) aa;have pY:=bh (l:=FB) (show k<FB.length by omega) iR;have xp:(FB.getD k iR).2.2=x.bA.getD k []:=by rw[←sM,ET]
 obtain⟨⟨PA,PC,f⟩,hP⟩:∃e,e=FB.getD k iR:=⟨_,rfl⟩
 rw[←hP]at RK pY xp;have xp:f=x.bA.getD k []:=xp;have hbf:=It _ pY;have lZ:f.length≤1000000:=by rw[xp];exact o6 _ (bh hk [])
 have wT:=nM x.ns (k+1);have LJ:(x.ns.take (k+1)).sum=(x.ns.take k).sum+x.ns.getD k 0:=by rw[aZ aa 0,wj];simp
 have dh:=C6 f;refine fw func184 100 [0,1] ?_;refine dX ?_;refine ae (au ag rfl hf aa RK) rfl ?_;refine ay rfl (Ur HT (b:=f) rfl rfl hbf lZ) fun Ls Mw=>?_;refine tQ ?_;refine aj (fun oh=>?_) fun oh=>?_
 ·have e:=Rc (x:=x) (k:=k) (by rw[←xp];exact oh);refine bI ?_;refine ve [4,5] ?_;refine b8 ?_;refine aC 62 4 none ?_;refine ao (.cons (.skip (.refl _))) ?_;refine aE ?_;rw[e,←xp];exact⟨none,0,rfl,rfl⟩
 ·have ahz:¬(dL (x.bA.getD k [])).2.2≠0:=by rw[←xp];exact oh
  refine bP ?_;refine ae (au ag rfl hf.cons aa RK) rfl ?_;refine bH ?_;refine ve [0,1,6,28] ?_;refine aE ?_;refine aj (fun q9=>?_) fun q9=>?_
  ·have e:=Re (x:=x) (k:=k) ahz (by rw[←xp];have q:(((dL f).2.1:Nat):Int)<((f.length:Nat):Int):=q9;omega);refine bP ?_;refine aC 62 4 none ?_;refine ao (.cons (.skip (.refl _))) ?_;refine aE ?_;rw[e];exact⟨none,0,rfl,rfl⟩
  ·have al2:¬(dL (x.bA.getD k [])).2.1<(x.bA.getD k []).length:=by rw[←xp];have q:¬(((dL f).2.1:Nat):Int)<((f.length:Nat):Int):=q9;omega
   refine bB ?_;refine ay rfl (OU (l:=(dL f).1) false aB aa) fun T5 c41=>?_;refine jU ?_;refine aj (fun tS=>?_) fun tS=>?_
   ·have e:=Rf (x:=x) (k:=k) ahz al2 (by rw[←xp];exact tS);refine bz ?_;refine aC 62 4 none ?_;refine ao (.cons (.skip (.skip (.refl _)))) ?_;refine aE ?_;rw[e,←xp];exact⟨none,0,rfl,rfl⟩
   ·have apY:¬(qQ false (dL (x.bA.getD k [])).1).2≠0:=by rw[←xp];exact tS
    refine dm ?_;refine ae (au ag rfl hn.cons.cons aa (gd (v:=x.ns.getD k 0) aa rfl)) rfl ?_;refine be ?_;refine ve [0,1,9,48] ?_;refine aE ?_;refine aj (fun Rt=>?_) fun Rt=>?_
    ·have e:=Rg (x:=x) (k:=k) ahz al2 apY (by rw[←xp];omega);refine bP ?_;refine aC 62 4 none ?_;refine ao (.cons (.skip (.skip (.refl _)))) ?_;refine aE ?_;rw[e];exact⟨none,0,rfl,rfl⟩
    ·have e:=Rh (x:=x) (k:=k) ahz al2 apY (by rw[←xp];omega);rw[←xp]at e;obtain⟨RL,hRL⟩:=cR ((qQ false (dL f).1).1);obtain⟨a,ha⟩:=cR ((x.ns.take k).sum);rw[←hRL]at Rt e⊢;rw[←ha]at LJ e;refine bP ?_;refine ai rfl (.perm (abc (k:=k) aa hcn (hn.mono (.cons_cons _ (.cons _ (.cons _ (.refl _))))) aa aa) ((BN (fT (fT (.refl _)))))) ?_;refine bI ?_;rw[←ha];refine fR ((l0 (fT (fT (.refl _))))) ?_;refine bD ?_;refine aD (fun zf zL zm=>∃(i:Nat),(i≤RL.length)∧RL.length-i=zm∧Sub zf [(0,bq g),(9,.slice T5 RL.length c41),(10,ah (a:Int)),(66,ah RL.length),(67,ah (i:Int))]∧Wk zL (.own 62 4 T5 RL.length c41 (cU (Fm x.times x.levels a RL i))::Bo g (.slice A1 x.ns.length c1) v1 v2 v3 (.slice A3 x.times.length c3) (.slice A4 x.levels.length c4) v6 v7 (.slice Af FB.length cf) v9::F)) _ ⟨0,bS _,rfl,bm,.trans ((ef (ef (.skip (.refl _))))) (ax rfl (by unfold Fm;simp) (.refl _))⟩ ?_;rintro _ _ _ ⟨i,hi,rfl,hs,hp⟩;refine aU hs hp ?_;clear hs hp;refine bB ?_;refine aj (fun h68=>?_) fun h68=>?_
     ·have By:=Pd x.times x.levels a RL hi;obtain⟨asS,amr⟩:=S4 (ts:=x.times) (lv:=x.levels) (a:=a) (L:=RL) (i:=i) aa;have asW:((pL x.times x.levels a RL).take i).length=i:=by rw[eV,kN];omega
      obtain⟨ac3,ac4⟩:=aiY (P:=(pL x.times x.levels a RL).take i) (Q:=RL.drop (i+1)) (r:=recAt RL i) (t:=x.times.getD (a+i) 0) (u:=x.levels.getD (a+i) 0) asW;rw[←asS]at ac3 ac4;rw[←amr]at ac3 ac4;have hrl:=OY (Fm x.times x.levels a RL i);obtain⟨M,hM⟩:=cR (cU (Fm x.times x.levels a RL i));rw[←hM]at ac3 ac4 hrl⊢;refine bz ?_;refine kG (A:=T5) (n:=RL.length) (xs:=M) (.head _) aa ?_;intro ad hA;subst hA;refine cC (Bo g (.slice A1 x.ns.length c1) v1 v2 v3 (.slice A3 x.times.length c3) (.slice A4 x.levels.length c4) v6 v7 (.slice Af FB.length cf) v9::F) ?_;refine ab 0 ?_;refine ab 1 ?_;refine ab 2 ?_;refine ab 3 ?_;refine ab 4 ?_;refine ab 5 ?_;refine ab 6 ?_;refine ab 7 ?_;refine ab 8 ?_;refine ab 9 ?_;refine ab 10 ?_;refine aW 11 rfl (bY rfl rfl (r:=((a+i:Nat):Int)) ((bG aa aa).trans aa)) ?_;refine aW 12 rfl (aG (i:=a+i) (size:=1) underlying183 ag rfl rfl rfl aa ht) ?_;refine aW 13 rfl (au ag rfl ht aa (ajw (v:=x.times.getD (a+i) 0) aa rfl)) ?_;refine ab 14 ?_;refine ab 15 ?_;refine ab 16 ?_;refine ab 17 ?_;refine ab 18 ?_;refine ab 19 ?_;refine ab 20 ?_;refine aW 21 rfl (bY rfl rfl (r:=((a+i:Nat):Int)) ((bG aa aa).trans aa)) ?_;refine aW 22 rfl (aG (i:=a+i) (size:=1) underlying27 ag rfl rfl rfl aa hl) ?_;refine aW 23 rfl (jq ag rfl hl aa) ?_;refine aW 24 rfl (aP (i:=i) (size:=4) underlying24 ag rfl rfl rfl aa) ?_;refine aW 25 rfl (ph underlying62 rfl ag rfl rfl) ?_;refine az 26 ?_;refine kO rfl .no (pn (q:=0) ag rfl rfl rfl .hd (by(try rw[List.length_set]);omega)) Gy ?_;rintro _ _ rfl;refine aW 27 rfl (aP (i:=i) (size:=4) underlying24 ag rfl rfl rfl aa) ?_;refine aW 28 rfl (ph underlying62 rfl ag rfl rfl) ?_;refine az 29 ?_;refine kO rfl .no (pn (q:=1) ag rfl rfl rfl .hd (by(try rw[List.length_set]);omega)) Gy ?_;rintro _ _ rfl;refine cP [0,9,10,66,67] ?_;refine bB ?_;refine av ⟨_,aa,i+1,aa,rfl,bm,ax rfl (by first|exact ac3|exact ac4) (.refl _)⟩
     ·obtain rfl:i=RL.length:=by omega
      have tV:Fm x.times x.levels a RL RL.length=pL x.times x.levels a RL:=by unfold Fm;rw[fD (by rw[kN];omega),BJ,gk]
      have aqb:=kN x.times x.levels a RL;refine dX ?_;rw[e,tV];exact⟨T5,c41,by rw[aqb],by rw[aqb]⟩
end
end Go.Proofs.YtaodmbolhoafcaaGreatDoor

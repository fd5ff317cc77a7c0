/-
  Texts of one proof, joined: part 12. No condition.
-/
import Derived.Test.YtaodmbolhoafcaaGreatDoorZo11
import Derived.Lib.AppendZeros
open Go.RowKit Go.Proofs.Tryz
namespace Go.Proofs.YtaodmbolhoafcaaGreatDoor
set_option linter.unusedVariables false
set_option linter.unusedSimpArgs false
set_option maxRecDepth 20000
variable{B:Nat}{w0:World}{F L0:aQ}{A A1 A2 Ao:bj}{n c c1 c2 co g gc:Nat}{X:cV}{bt:TypeId}{v0 v1 v2 v3 v4 v5 v6 v7 v8 v9:Value}{f:Ch→aQ}{r k m N:Nat}{cs:cV}{o:Nat}{A3 A4 A5 A6 Af:bj}{c3 c4 c5 c6 cf:Nat}{va:Value}
section
structure CV(B:Nat)(w0:World)(L:aQ)(g:Nat)(x:ir):Prop where
 bo:∃(A1:bj) (c1:Nat) (A2:bj) (c2:Nat) (A3:bj) (c3:Nat) (A4:bj) (c4:Nat) (A5:bj) (c5:Nat) (A6:bj) (c6:Nat) (LL:List rK) (Af:bj) (cf:Nat) (FB:List kS) (va:Value),
  Bo g (.slice A1 x.ns.length c1) (.slice A2 x.ss.length c2) (ah x.c) (ah x.i) (.slice A3 x.times.length c3) (.slice A4 x.levels.length c4) (.slice A5 x.T.length c5) (.slice A6 LL.length c6) (.slice Af FB.length cf) va∈L∧
  aK B w0 L 1 (.slice A1 x.ns.length c1) x.ns.length (bx x.ns)∧aK B w0 L 1 (.slice A3 x.times.length c3) x.times.length (p9 x.times)∧aK B w0 L 1 (.slice A4 x.levels.length c4) x.levels.length (bv x.levels)∧
  aK B w0 L 1 (.slice A5 x.T.length c5) x.T.length (strs x.T)∧aK B w0 L 1 (.slice A6 LL.length c6) LL.length (LL.map jL)∧(∀e∈LL,aK B w0 L 1 (jL e) e.2.2.length (bx e.2.2))∧LL.map (·.2.2)=x.I∧
  aK B w0 L 1 (.slice Af FB.length cf) FB.length (FB.map dq)∧(∀e∈FB,aK B w0 L 1 (dq e) e.2.2.length (bv e.2.2))∧FB.map (·.2.2)=x.bC
theorem CV.mono{x:ir}{L M:aQ}(h:CV B w0 L g x)(hs:L.Sublist M):CV B w0 M g x:=by
 obtain⟨A1,c1,A2,c2,A3,c3,A4,c4,A5,c5,A6,c6,LL,Af,cf,FB,va,h1,h2,h3,h4,h5,h6,h7,h8,h9,jx,pn⟩:=h;exact⟨A1,c1,A2,c2,A3,c3,A4,c4,A5,c5,A6,c6,LL,Af,cf,FB,va,hs.subset h1,h2.mono hs,h3.mono hs,h4.mono hs,h5.mono hs,h6.mono hs,fun e he=>(h7 e he).mono hs,h8,h9.mono hs,fun e he=>(jx e he).mono hs,pn⟩
theorem MP{m:Nat}:∀(f:Nat) (s:Cs) (ns ss:bf),ns.length=ss.length→(te m f s ns ss).1.length=(te m f s ns ss).2.1.length∧(te m f s ns ss).1.length≤ns.length+f
 |0,s,ns,ss,h=>by rw[te];exact⟨h,ak⟩
 |f+1,s,ns,ss,h=>by
  rw[te];split
  ·exact⟨h,cY⟩
  ·have:=MP (m:=m) f ((s.bW m).bW 8388608) (ns++[s.int m]) (ss++[(s.bW m).int 8388608]) (by simp[h]);rw[aY,qe]at this;exact⟨this.1,by have:=this.2;omega⟩
theorem JZ(d:al):(fa d).1.length=(fa d).2.1.length∧(fa d).1.length≤20000:=by
 have hR:=DI d;have hB:((Lw d:Nat):Int)≤Cw d:=Cs.gw _ aa aa;have:=MP (m:=Cw d) (Lw d) (dr2 d) [] [] rfl;unfold fa;exact⟨this.1,by have:=this.2;simp only[sd]at this;omega⟩
theorem DH{d:al}{room:Nat}(h:Gz d room=0):(fa d).1.sum=Cw d∧(fa d).2.1.sum+Cu d+drI d=room∧0∉(fa d).1:=by
 unfold Gz at h;split at h
 ·rename_i h1;exact absurd h h1
 ·split at h
  ·cases h
  ·rename_i h2;exact⟨bH fun k=>h2 (.inr (.inl k)),bH fun k=>h2 (.inr (.inr k)),fun k=>h2 (.inl k)⟩
theorem MF(HT:bL B w0){ch:al}{k n:Nat}(hn:n=ch.length)(hb:aK B w0 F 1 (.slice A n c) n (bv ch))(hl:ch.length≤1000000000)(hk:k≤1000000000)(h:xJ k ch≠0):
  a_ B w0 181 [.pointer (some ⟨g,4,none⟩),ah k,.slice A n c] (Bo g v0 v1 v2 v3 v4 v5 v6 v7 v8 v9::F) (fun r L=>r=ah (xJ k ch)∧L=Bo g v0 v1 v2 v3 v4 v5 v6 v7 v8 v9::F):=by
 subst hn;exact(HQ HT hb hl hk).mono fun r L h'=>⟨h'.1,h'.2.elim (fun q=>q.2) fun q=>absurd q.1 h⟩
theorem QM(HT:bL B w0){ch:al}{k n:Nat}(hn:n=ch.length)(hb:aK B w0 F 1 (.slice A n c) n (bv ch))(hl:ch.length≤1000000000)(hk:k≤1000000000)(h:xJ k ch=0):
  a_ B w0 181 [.pointer (some ⟨g,4,none⟩),ah k,.slice A n c] (Bo g v0 v1 v2 v3 v4 v5 v6 v7 v8 v9::F) (fun r L=>r=ah 0∧∃(A1:bj) (c1:Nat) (A2:bj) (c2:Nat),L=Bo g v0 v1 v2 v3 (.slice A1 (n_ k (aJ ch).1).1.length c1) (.slice A2 (n_ k (aJ ch).1).2.1.length c2) v6 v7 v8 v9:: .own 60 1 A1 (n_ k (aJ ch).1).1.length c1 (p9 (n_ k (aJ ch).1).1):: .own 5 1 A2 (n_ k (aJ ch).1).2.1.length c2 (bv (n_ k (aJ ch).1).2.1)::F):=by
 subst hn;exact(HQ HT hb hl hk).mono fun r L h'=>⟨by rw[h'.1,h],h'.2.elim (fun q=>absurd h q.1) fun q=>q.2⟩
section
variable{o:aR}{b:al}
theorem JC(h:cB 2 (o2 o)≠0):ei o b=(.nil,cB 2 (o2 o)):=by unfold ei;rw[ao h]
theorem JD(h:¬cB 2 (o2 o)≠0)(h2:(fZ b).2.2≠0):ei o b=(.nil,(fZ b).2.2):=by unfold ei;rw[aw h,ao h2]
theorem JE(h:¬cB 2 (o2 o)≠0)(h2:¬(fZ b).2.2≠0)(h3:Gz (dT b) (qy b).length≠0):ei o b=(.nil,Gz (dT b) (qy b).length):=by unfold ei;rw[aw h,aw h2,ao h3]
theorem JF(h:¬cB 2 (o2 o)≠0)(h2:¬(fZ b).2.2≠0)(h3:¬Gz (dT b) (qy b).length≠0)(h4:xJ (fa (dT b)).1.sum (wE b)≠0):ei o b=(.nil,xJ (fa (dT b)).1.sum (wE b)):=by unfold ei;rw[aw h,aw h2,aw h3,ao h4]
theorem Ud(h:¬cB 2 (o2 o)≠0)(h2:¬(fZ b).2.2≠0)(h3:¬Gz (dT b) (qy b).length≠0)(h4:¬xJ (fa (dT b)).1.sum (wE b)≠0)(h5:(aJ (vB b)).2≠0):ei o b=(.nil,(aJ (vB b)).2):=by unfold ei;rw[aw h,aw h2,aw h3,aw h4,ao h5]
theorem Ue(h:¬cB 2 (o2 o)≠0)(h2:¬(fZ b).2.2≠0)(h3:¬Gz (dT b) (qy b).length≠0)(h4:¬xJ (fa (dT b)).1.sum (wE b)≠0)(h5:¬(aJ (vB b)).2≠0)(h6:(eF o.2.2.1 ((fa (dT b)).1.sum:Nat) (aJ (vB b)).1).2.2≠0):ei o b=(.nil,(eF o.2.2.1 ((fa (dT b)).1.sum:Nat) (aJ (vB b)).1).2.2):=by unfold ei;rw[aw h,aw h2,aw h3,aw h4,aw h5,ao h6]
def alo(o:aR)(b:al):ir:=⟨(fa (dT b)).1,(fa (dT b)).2.1,Cu (dT b),drI (dT b),(n_ ((fa (dT b)).1.sum:Nat) (aJ (wE b)).1).1,(n_ ((fa (dT b)).1.sum:Nat) (aJ (wE b)).1).2.1,
 (eF o.2.2.1 ((fa (dT b)).1.sum:Nat) (aJ (vB b)).1).1,(eF o.2.2.1 ((fa (dT b)).1.sum:Nat) (aJ (vB b)).1).2.1,rD (fa (dT b)).2.1 (qy b)⟩
theorem Uf(h:¬cB 2 (o2 o)≠0)(h2:¬(fZ b).2.2≠0)(h3:¬Gz (dT b) (qy b).length≠0)(h4:¬xJ (fa (dT b)).1.sum (wE b)≠0)(h5:¬(aJ (vB b)).2≠0)(h6:¬(eF o.2.2.1 ((fa (dT b)).1.sum:Nat) (aJ (vB b)).1).2.2≠0):ei o b=(alo o b,0):=by unfold ei;rw[aw h,aw h2,aw h3,aw h4,aw h5,aw h6];rfl
end
def Xm(e:Int)(F:aQ)(r:Value)(L:aQ):Prop:=r= .tuple #[.pointer none,ah e]∧L=F
def aoa(x:ir)(B:Nat)(w0:World)(F:aQ)(r:Value)(L:aQ):Prop:=∃g N,r= .tuple #[br g,ah 0]∧L=N++F∧CV B w0 N g x
theorem agK{o:aR}{b:al}(h:cB 2 (o2 o)≠0):a_ B w0 111 [.agg (aR.cells o).toArray,.slice A b.length c] F (Xm (ei o b).2 F):=by
 rw[JC h];obtain⟨bl,pl,bu,da,pa,ch⟩:=o;refine cm func111 90 rfl rfl rfl [(0,.agg #[ah bl,.bool pl,ah bu,ah da,ah pa,ah ch]),(1,.slice A b.length c)] ⟨⟨rfl,rfl⟩,⟨rfl,rfl⟩,trivial⟩ ?_;refine be ?_;refine bh fun g2=>?_;refine bI ?_;refine ai rfl (nA (bl,pl,bu,da,pa,ch)) ?_;refine bO ?_;refine aj (fun jj=>?_) fun jj=>?_
 ·refine bO ?_;refine aq (.skip (.refl _)) ?_;refine aF ?_;exact⟨rfl,rfl⟩
 ·exfalso;exact jj h
theorem agL(HT:bL B w0){o:aR}{b:al}(hb:eM B w0 F A c b)(de:b.length≤1000000)(h:¬cB 2 (o2 o)≠0)(h2:(fZ b).2.2≠0):a_ B w0 111 [.agg (aR.cells o).toArray,.slice A b.length c] F (Xm (ei o b).2 F):=by
 rw[JD h h2];obtain⟨bl,pl,bu,da,pa,ch⟩:=o;refine cm func111 90 rfl rfl rfl [(0,.agg #[ah bl,.bool pl,ah bu,ah da,ah pa,ah ch]),(1,.slice A b.length c)] ⟨⟨rfl,rfl⟩,⟨rfl,rfl⟩,trivial⟩ ?_;refine be ?_;refine bh fun g2=>?_;refine bI ?_;refine ai rfl (nA (bl,pl,bu,da,pa,ch)) ?_;refine bO ?_;refine aj (fun jj=>?_) fun jj=>?_
 ·exfalso;exact h jj
 ·refine bG ?_;refine aX Uu rfl (J_ HT hb.cons aa) rfl ?_;rintro _ _ ⟨Ar,cr,Ad,cd,Y,rfl,cA,RJ,hbR,hbD⟩;obtain rfl:=cA.symm;refine jQ ?_;refine aj (fun kg=>?_) fun kg=>?_
  ·refine bG ?_;refine ve [4,5] ?_;refine bA ?_;refine aq ((dv _ _).trans (.skip (.refl _))) ?_;refine aF ?_;exact⟨rfl,rfl⟩
  ·exfalso;exact kg h2
theorem uZ(b:al):(fZ b).1.length≤b.length∧(fZ b).2.1.length≤b.length:=by
 unfold fZ;split
 ·exact⟨ak,ak⟩
 ·split
  ·exact⟨ak,ak⟩
  ·refine⟨by simp only[eS];omega,?_⟩;have:=o_ ((b.take (b.length-4)).drop (b.length-4-ftK b));rw[iG,eS]at this;unfold ftD;simp only;omega
theorem agM(HT:bL B w0){o:aR}{b:al}(hb:eM B w0 F A c b)(de:b.length≤1000000)(h:¬cB 2 (o2 o)≠0)(h2:¬(fZ b).2.2≠0)(h3:Gz (dT b) (qy b).length≠0):a_ B w0 111 [.agg (aR.cells o).toArray,.slice A b.length c] F (Xm (ei o b).2 F):=by
 rw[JE h h2 h3];obtain⟨bl,pl,bu,da,pa,ch⟩:=o;refine cm func111 90 rfl rfl rfl [(0,.agg #[ah bl,.bool pl,ah bu,ah da,ah pa,ah ch]),(1,.slice A b.length c)] ⟨⟨rfl,rfl⟩,⟨rfl,rfl⟩,trivial⟩ ?_;refine be ?_;refine bh fun g2=>?_;refine bI ?_;refine ai rfl (nA (bl,pl,bu,da,pa,ch)) ?_;refine bO ?_;refine aj (fun jj=>?_) fun jj=>?_
 ·exfalso;exact h jj
 ·refine bG ?_;refine aX Uu rfl (J_ HT hb.cons aa) rfl ?_;rintro _ _ ⟨Ar,cr,Ad,cd,Y,rfl,cA,RJ,hbR,hbD⟩;obtain rfl:=cA.symm;refine jQ ?_;refine aj (fun kg=>?_) fun kg=>?_
  ·exfalso;exact h2 kg
  ·have GO:=om Y [.bE g2 23 [ah bl,.bool pl,ah bu,ah da,ah pa,ah ch]] F;refine fP GO ?_;have wM:=hbR.perm GO;have vD:=hbD.perm GO;have GQ:Wk (Y++F) F:=dv Y F;obtain⟨K,hK⟩:=cK (Y++F);simp only[NZ]at wM vD⊢;rw[←hK]at wM vD GQ⊢;have eR:(fZ b).1=qy b:=rfl;have eD:(fZ b).2.1=dT b:=rfl;have hlr:=uZ b;rw[eR,eD]at hlr;rw[eR]at wM RJ⊢;rw[eD]at vD⊢;refine b8 ?_;refine ab (cu [.slice none 0 0,.slice none 0 0,ah 0,ah 0,.slice none 0 0,.slice none 0 0,.slice none 0 0,.slice none 0 0,.slice none 0 0,.slice none 0 0] ag) rfl ?_;refine bh fun g30=>?_;refine aF ?_;refine ve [2,7,8,10] ?_;refine bB ?_;refine aX abE rfl (zx (d:=dT b) (room:=(qy b).length) vD aa aa) rfl ?_;rintro _ _ ⟨rfl,A1,c1,A2,c2,cA⟩;obtain rfl:=cA.symm;refine bO ?_;refine aj (fun U'=>?_) fun U'=>?_
   ·refine bO ?_;refine aq (.skip (.skip (.skip (.skip GQ)))) ?_;refine aF ?_;exact⟨rfl,rfl⟩
   ·exfalso;exact U' h3
theorem agN(HT:bL B w0){o:aR}{b:al}(hb:eM B w0 F A c b)(de:b.length≤1000000)(h:¬cB 2 (o2 o)≠0)(h2:¬(fZ b).2.2≠0)(h3:¬Gz (dT b) (qy b).length≠0)(h4:xJ (fa (dT b)).1.sum (wE b)≠0):a_ B w0 111 [.agg (aR.cells o).toArray,.slice A b.length c] F (Xm (ei o b).2 F):=by
 rw[JF h h2 h3 h4];obtain⟨bl,pl,bu,da,pa,ch⟩:=o;refine cm func111 90 rfl rfl rfl [(0,.agg #[ah bl,.bool pl,ah bu,ah da,ah pa,ah ch]),(1,.slice A b.length c)] ⟨⟨rfl,rfl⟩,⟨rfl,rfl⟩,trivial⟩ ?_;refine be ?_;refine bh fun g2=>?_;refine bI ?_;refine ai rfl (nA (bl,pl,bu,da,pa,ch)) ?_;refine bO ?_;refine aj (fun jj=>?_) fun jj=>?_
 ·exfalso;exact h jj
 ·refine bG ?_;refine aX Uu rfl (J_ HT hb.cons aa) rfl ?_;rintro _ _ ⟨Ar,cr,Ad,cd,Y,rfl,cA,RJ,hbR,hbD⟩;obtain rfl:=cA.symm;refine jQ ?_;refine aj (fun kg=>?_) fun kg=>?_
  ·exfalso;exact h2 kg
  ·have GO:=om Y [.bE g2 23 [ah bl,.bool pl,ah bu,ah da,ah pa,ah ch]] F;refine fP GO ?_;have wM:=hbR.perm GO;have vD:=hbD.perm GO;have GQ:Wk (Y++F) F:=dv Y F;obtain⟨K,hK⟩:=cK (Y++F);simp only[NZ]at wM vD⊢;rw[←hK]at wM vD GQ⊢;have eR:(fZ b).1=qy b:=rfl;have eD:(fZ b).2.1=dT b:=rfl;have hlr:=uZ b;rw[eR,eD]at hlr;rw[eR]at wM RJ⊢;rw[eD]at vD⊢;refine b8 ?_;refine ab (cu [.slice none 0 0,.slice none 0 0,ah 0,ah 0,.slice none 0 0,.slice none 0 0,.slice none 0 0,.slice none 0 0,.slice none 0 0,.slice none 0 0] ag) rfl ?_;refine bh fun g30=>?_;refine aF ?_;refine ve [2,7,8,10] ?_;refine bB ?_;refine aX abE rfl (zx (d:=dT b) (room:=(qy b).length) vD aa aa) rfl ?_;rintro _ _ ⟨rfl,A1,c1,A2,c2,cA⟩;obtain rfl:=cA.symm;refine bO ?_;refine aj (fun U'=>?_) fun U'=>?_
   ·exfalso;exact h3 U'
   ·have hz:=DH (bH h3);have hdl:=JZ (dT b);have Yt:=DI (dT b);have acD:aK B w0 (.own 3 1 A1 (fa (dT b)).1.length c1 (bx (fa (dT b)).1):: .own 3 1 A2 (fa (dT b)).2.1.length c2 (bx (fa (dT b)).2.1):: .bE g2 23 [ah bl,.bool pl,ah bu,ah da,ah pa,ah ch]::K) 1 (.slice Ar (qy b).length cr) (qy b).length (bv (qy b)):=wM.cons.cons;refine bz ?_;refine aX ajR rfl (Mo (ss:=(fa (dT b)).2.1) (cc:=Cu (dT b)) (r:=qy b) acD RJ (aK.own (.tail _ (.head _))) aa aa aa) rfl ?_;rintro _ _ ⟨Af,cf,Ac,cc1,Ai,ci1,FB,rfl,cA,sP,hbC,hbI⟩;obtain rfl:=cA.symm;refine bG ?_;refine ve [2,10,12,13] ?_;refine be ?_;have ac2:=om (FB.map fq) [.own 3 1 A1 (fa (dT b)).1.length c1 (bx (fa (dT b)).1),.own 3 1 A2 (fa (dT b)).2.1.length c2 (bx (fa (dT b)).2.1),.bE g2 23 [ah bl,.bool pl,ah bu,ah da,ah pa,ah ch]] K;refine fP ((ac2.cons _).cons _) ?_;obtain⟨K2,Rh⟩:=cK (FB.map fq++K);have ac_:Wk K2 F:=by rw[Rh];exact(dv _ _).trans GQ
    have RN:(.own 3 1 A1 (fa (dT b)).1.length c1 (bx (fa (dT b)).1):: .own 3 1 A2 (fa (dT b)).2.1.length c2 (bx (fa (dT b)).2.1):: .bE g2 23 [ah bl,.bool pl,ah bu,ah da,ah pa,ah ch]::K).Sublist (.own 3 1 A1 (fa (dT b)).1.length c1 (bx (fa (dT b)).1):: .own 3 1 A2 (fa (dT b)).2.1.length c2 (bx (fa (dT b)).2.1):: .bE g2 23 [ah bl,.bool pl,ah bu,ah da,ah pa,ah ch]::K2):=by rw[Rh];exact((gx _ _).cons_cons _ |>.cons_cons _).cons_cons _
    have Rm:=hbC.mono RN;have Rn:=hbI.mono RN;have al0:∀e∈FB,aK B w0 K2 1 (dq e) e.2.2.length (bv e.2.2):=fun e he=>by rw[Rh];exact aK.own (j9 _ (jb (f:=fq) he))
    clear hbC hbI RN ac2 acD wM vD;simp only[nI,nG];rw[←Rh];have eC:((qy b).drop (fa (dT b)).2.1.sum).take (Cu (dT b))=wE b:=rfl;have eI:((qy b).drop (fa (dT b)).2.1.sum).drop (Cu (dT b))=vB b:=rfl;rw[eC]at Rm;rw[eI]at Rn;have lC:Cu (dT b)=(wE b).length:=by rw[←eC,eS,iG];omega
    have lI:(qy b).length-(fa (dT b)).2.1.sum-Cu (dT b)=(vB b).length:=by rw[←eI,iG,iG]
    rw[lI]at Rn⊢;obtain⟨fl,l9⟩:=cK ((fa (dT b)).2.1.length);rw[←l9]at Rm Rn⊢;refine bK ?_;refine cC (fb SW rfl rfl rfl rfl rfl aa aa aa) fun A53=>?_;refine bK ?_;refine cF K2 ?_;refine ae 0 ?_;refine ae 1 ?_;refine ae 2 ?_;refine ae 3 ?_;refine ae 5 ?_;refine az 4 ?_;refine iW rfl rfl ((JA (ns:=(fa (dT b)).1) aA aa aa).jf ((l_ (fR (.refl _))))) ?_;refine az 6 ?_;refine iW rfl rfl (.perm (MF HT (ch:=wE b) lC Rm.cons.cons (by rw[←lC];omega) aa h4) ((l_ (fR (.refl _))))) ?_;refine ae 7 ?_;refine cQ [2,10,13,14] ?_;refine bK ?_;refine aj (fun h64=>?_) fun h64=>?_
    ·refine bO ?_;refine aq (.skip (.skip (.skip (.skip (.skip (.skip ac_)))))) ?_;refine aF ?_;exact⟨rfl,rfl⟩
    ·exfalso;exact h64 h4
theorem V'{size bound:Int}{x:Ch}{b:al}(hb:aK B w0 (x::F) 1 (.slice A b.length c) b.length (bv b))(de:b.length≤1000000):
  a_ B w0 183 [ah size,ah bound,.slice A b.length c] (x::F) (fun r L=>∃(A1:bj) (c1:Nat) (A2:bj) (c2:Nat) (LL:List rK),r= .tuple #[Gj A1 (eF size bound b).1.length c1 A2 LL.length c2,ah (eF size bound b).2.2]∧LL.map (·.2.2)=(eF size bound b).2.1∧
   L=x:: .own 9 1 A1 (eF size bound b).1.length c1 (strs (eF size bound b).1):: .own 53 1 A2 LL.length c2 (LL.map jL)::(LL.map jK++F)):=
 (aiC hb de).La fun v M ⟨A1,c1,A2,c2,LL,h1,h2,h3⟩=>by
  subst h3;refine⟨_,.dE ?_,A1,c1,A2,c2,LL,h1,h2,rfl⟩;exact om (_::_::LL.map jK) [x] F
def an'(R:ir×Int)(B:Nat)(w0:World)(F:aQ)(r:Value)(L:aQ):Prop:=(R.2≠0∧Xm R.2 F r L)∨(R.2=0∧aoa R.1 B w0 F r L)
theorem LY{h a b x1 t l x2 f s1 s2 x3:Ch}{R P Y F:aQ}:h::a::b::(R++(x1::t::l::x2::f::s1::s2::x3::(P++(Y++F))))=(h::a::b::(R++(x1::t::l::x2::f::s1::s2::x3::(P++Y))))++F:=by
 simp only[nI,bV]
theorem Mk{o:aR}{b:al}{fl c1 c2 c3 c4 c5 c6 cf:Nat}{A1 A2 A3 A4 A5 A6 Af:bj}{LL:List rK}{FB:List kS}{va:Value}{K2:aQ}{x1 x2 x3:Ch}(l9:fl=(fa (dT b)).2.1.length)(sP:FB.map (·.2.2)=rD (fa (dT b)).2.1 (qy b))(cA:LL.map (·.2.2)=(eF o.2.2.1 ((fa (dT b)).1.sum:Nat) (aJ (vB b)).1).2.1)(al0:∀e∈FB,aK B w0 K2 1 (dq e) e.2.2.length (bv e.2.2)):
  CV B w0 (Bo g (.slice A1 (fa (dT b)).1.length c1) (.slice A2 fl c2) (ah (Cu (dT b))) (ah (drI (dT b))) (.slice A3 (n_ ((fa (dT b)).1.sum:Nat) (aJ (wE b)).1).1.length c3) (.slice A4 (n_ ((fa (dT b)).1.sum:Nat) (aJ (wE b)).1).2.1.length c4) (.slice A5 (eF o.2.2.1 ((fa (dT b)).1.sum:Nat) (aJ (vB b)).1).1.length c5) (.slice A6 LL.length c6) (.slice Af fl cf) va::
   .own 9 1 A5 (eF o.2.2.1 ((fa (dT b)).1.sum:Nat) (aJ (vB b)).1).1.length c5 (strs (eF o.2.2.1 ((fa (dT b)).1.sum:Nat) (aJ (vB b)).1).1):: .own 53 1 A6 LL.length c6 (LL.map jL)::
   (LL.map jK++(x1:: .own 60 1 A3 (n_ ((fa (dT b)).1.sum:Nat) (aJ (wE b)).1).1.length c3 (p9 (n_ ((fa (dT b)).1.sum:Nat) (aJ (wE b)).1).1):: .own 5 1 A4 (n_ ((fa (dT b)).1.sum:Nat) (aJ (wE b)).1).2.1.length c4 (bv (n_ ((fa (dT b)).1.sum:Nat) (aJ (wE b)).1).2.1)::x2:: .own 27 1 Af fl cf (FB.map dq):: .own 3 1 A1 (fa (dT b)).1.length c1 (bx (fa (dT b)).1):: .own 3 1 A2 fl c2 (bx (fa (dT b)).2.1)::x3::K2))) g (alo o b):=by
 have hfb:FB.length=fl:=by have:=dB List.length sP;rw[eK,uJ]at this;omega
 subst hfb;refine⟨A1,c1,A2,c2,A3,c3,A4,c4,A5,c5,A6,c6,LL,Af,cf,FB,va,?_,?_,?_,?_,?_,?_,?_,cA,?_,?_,sP⟩
 ·show Bo g (.slice A1 (fa (dT b)).1.length c1) (.slice A2 (fa (dT b)).2.1.length c2) _ _ _ _ _ _ _ _∈_;rw[←l9];exact .head _
 ·exact aK.own (.tail _ (.tail _ (.tail _ (nF _ (.tail _ (.tail _ (.tail _ (.tail _ (.tail _ (.head _))))))))))
 ·exact aK.own (.tail _ (.tail _ (.tail _ (nF _ (.tail _ (.head _))))))
 ·exact aK.own (.tail _ (.tail _ (.tail _ (nF _ (.tail _ (.tail _ (.head _)))))))
 ·exact aK.own (.tail _ (.head _))
 ·exact aK.own (.tail _ (.tail _ (.head _)))
 ·exact fun e he=>aK.own (.tail _ (.tail _ (.tail _ (j9 _ (jb (f:=jK) he)))))
 ·exact aK.own (.tail _ (.tail _ (.tail _ (nF _ (.tail _ (.tail _ (.tail _ (.tail _ (.head _)))))))))
 ·exact fun e he=>(al0 e he).mono (by
   refine .cons _ (.cons _ (.cons _ (.trans ?_ (gx _ _))));exact .cons _ (.cons _ (.cons _ (.cons _ (.cons _ (.cons _ (.cons _ (.cons _ (.refl _)))))))))
set_option maxHeartbeats 2000000 in
theorem agO(HT:bL B w0){o:aR}{b:al}(hb:eM B w0 F A c b)(de:b.length≤1000000)(h:¬cB 2 (o2 o)≠0)(h2:¬(fZ b).2.2≠0)(h3:¬Gz (dT b) (qy b).length≠0)(h4:¬xJ (fa (dT b)).1.sum (wE b)≠0):a_ B w0 111 [.agg (aR.cells o).toArray,.slice A b.length c] F (an' (ei o b) B w0 F):=by
 have h5a:=Ud h h2 h3 h4;have h6a:=Ue h h2 h3 h4;have h7a:=Uf h h2 h3 h4;obtain⟨bl,pl,bu,da,pa,ch⟩:=o;refine cm func111 90 rfl rfl rfl [(0,.agg #[ah bl,.bool pl,ah bu,ah da,ah pa,ah ch]),(1,.slice A b.length c)] ⟨⟨rfl,rfl⟩,⟨rfl,rfl⟩,trivial⟩ ?_;refine be ?_;refine bh fun g2=>?_;refine bI ?_;refine ai rfl (nA (bl,pl,bu,da,pa,ch)) ?_;refine bO ?_;refine aj (fun jj=>?_) fun jj=>?_
 ·exfalso;exact h jj
 ·refine bG ?_;refine aX Uu rfl (J_ HT hb.cons aa) rfl ?_;rintro _ _ ⟨Ar,cr,Ad,cd,Y,rfl,cA,RJ,hbR,hbD⟩;obtain rfl:=cA.symm;refine jQ ?_;refine aj (fun kg=>?_) fun kg=>?_
  ·exfalso;exact h2 kg
  ·have GO:=om Y [.bE g2 23 [ah bl,.bool pl,ah bu,ah da,ah pa,ah ch]] F;refine fP GO ?_;have wM:=hbR.perm GO;have vD:=hbD.perm GO;have GQ:Wk (Y++F) F:=dv Y F;obtain⟨K,hK⟩:=cK (Y++F);simp only[NZ]at wM vD⊢;rw[←hK]at wM vD GQ⊢;have eR:(fZ b).1=qy b:=rfl;have eD:(fZ b).2.1=dT b:=rfl;have hlr:=uZ b;rw[eR,eD]at hlr;rw[eR]at wM RJ⊢;rw[eD]at vD⊢;refine b8 ?_;refine ab (cu [.slice none 0 0,.slice none 0 0,ah 0,ah 0,.slice none 0 0,.slice none 0 0,.slice none 0 0,.slice none 0 0,.slice none 0 0,.slice none 0 0] ag) rfl ?_;refine bh fun g30=>?_;refine aF ?_;refine ve [2,7,8,10] ?_;refine bB ?_;refine aX abE rfl (zx (d:=dT b) (room:=(qy b).length) vD aa aa) rfl ?_;rintro _ _ ⟨rfl,A1,c1,A2,c2,cA⟩;obtain rfl:=cA.symm;refine bO ?_;refine aj (fun U'=>?_) fun U'=>?_
   ·exfalso;exact h3 U'
   ·have hz:=DH (bH h3);have hdl:=JZ (dT b);have Yt:=DI (dT b);have acD:aK B w0 (.own 3 1 A1 (fa (dT b)).1.length c1 (bx (fa (dT b)).1):: .own 3 1 A2 (fa (dT b)).2.1.length c2 (bx (fa (dT b)).2.1):: .bE g2 23 [ah bl,.bool pl,ah bu,ah da,ah pa,ah ch]::K) 1 (.slice Ar (qy b).length cr) (qy b).length (bv (qy b)):=wM.cons.cons;refine bz ?_;refine aX ajR rfl (Mo (ss:=(fa (dT b)).2.1) (cc:=Cu (dT b)) (r:=qy b) acD RJ (aK.own (.tail _ (.head _))) aa aa aa) rfl ?_;rintro _ _ ⟨Af,cf,Ac,cc1,Ai,ci1,FB,rfl,cA,sP,hbC,hbI⟩;obtain rfl:=cA.symm;refine bG ?_;refine ve [2,10,12,13] ?_;refine be ?_;have ac2:=om (FB.map fq) [.own 3 1 A1 (fa (dT b)).1.length c1 (bx (fa (dT b)).1),.own 3 1 A2 (fa (dT b)).2.1.length c2 (bx (fa (dT b)).2.1),.bE g2 23 [ah bl,.bool pl,ah bu,ah da,ah pa,ah ch]] K;refine fP ((ac2.cons _).cons _) ?_;obtain⟨K2,Rh⟩:=cK (FB.map fq++K);have ac_:Wk K2 F:=by rw[Rh];exact(dv _ _).trans GQ
    have RN:(.own 3 1 A1 (fa (dT b)).1.length c1 (bx (fa (dT b)).1):: .own 3 1 A2 (fa (dT b)).2.1.length c2 (bx (fa (dT b)).2.1):: .bE g2 23 [ah bl,.bool pl,ah bu,ah da,ah pa,ah ch]::K).Sublist (.own 3 1 A1 (fa (dT b)).1.length c1 (bx (fa (dT b)).1):: .own 3 1 A2 (fa (dT b)).2.1.length c2 (bx (fa (dT b)).2.1):: .bE g2 23 [ah bl,.bool pl,ah bu,ah da,ah pa,ah ch]::K2):=by rw[Rh];exact((gx _ _).cons_cons _ |>.cons_cons _).cons_cons _
    have Rm:=hbC.mono RN;have Rn:=hbI.mono RN;have al0:∀e∈FB,aK B w0 K2 1 (dq e) e.2.2.length (bv e.2.2):=fun e he=>by rw[Rh];exact aK.own (j9 _ (jb (f:=fq) he))
    clear hbC hbI RN ac2 acD wM vD;simp only[nI,nG];rw[←Rh];have eC:((qy b).drop (fa (dT b)).2.1.sum).take (Cu (dT b))=wE b:=rfl;have eI:((qy b).drop (fa (dT b)).2.1.sum).drop (Cu (dT b))=vB b:=rfl;rw[eC]at Rm;rw[eI]at Rn;have lC:Cu (dT b)=(wE b).length:=by rw[←eC,eS,iG];omega
    have lI:(qy b).length-(fa (dT b)).2.1.sum-Cu (dT b)=(vB b).length:=by rw[←eI,iG,iG]
    rw[lI]at Rn⊢;obtain⟨fl,l9⟩:=cK ((fa (dT b)).2.1.length);rw[←l9]at Rm Rn⊢;refine bK ?_;refine cC (fb SW rfl rfl rfl rfl rfl aa aa aa) fun A53=>?_;refine bK ?_;refine cF K2 ?_;refine ae 0 ?_;refine ae 1 ?_;refine ae 2 ?_;refine ae 3 ?_;refine ae 5 ?_;refine az 4 ?_;refine iW rfl rfl ((JA (ns:=(fa (dT b)).1) aA aa aa).jf ((l_ (fR (.refl _))))) ?_;refine az 6 ?_;refine gz rfl .no ao_ rfl (.perm (QM HT (ch:=wE b) lC Rm.cons.cons (by rw[←lC];omega) aa (bH h4)) ((l_ (fR (.refl _))))) rfl (by rintro _ _ ⟨rfl,A3,c3,A4,c4,rfl⟩;exact gD) ?_;rintro _ _ ⟨rfl,A3,c3,A4,c4,cA⟩;obtain rfl:=cA.symm;refine ae 7 ?_;refine cQ [2,10,13,14] ?_;refine bK ?_;refine dm fun h64=>?_;refine bz ?_;refine ay rfl (wF HT (l:=vB b) aA aa) fun A68 c68=>?_;refine dc ?_;refine aj (fun Yr=>?_) fun Yr=>?_
    ·refine bO ?_;refine aq (.skip (.skip (.skip (.skip (.skip (.skip (.skip (.skip (.skip ac_))))))))) ?_;refine aF ?_;rw[h5a Yr];exact .inl ⟨Yr,rfl,rfl⟩
    ·refine b8 ?_;refine cF (([]:aQ)) ?_;refine ae 0 ?_;refine ae 1 ?_;refine ae 3 ?_;refine ae 5 ?_;refine gS 2 4 ?_ ?_
     ·refine aF ?_;refine az 4 ?_;refine iW rfl rfl ((JA (ns:=(fa (dT b)).1) aA aa aa).jf ((l_ (fR (.refl _))))) ?_;refine az 6 ?_;refine gz rfl .no ajS rfl (.perm (V' (b:=(aJ (vB b)).1) (aK.own (.tail _ (.head _))) (by have:=o_ (vB b);omega)) ((l_ (fR (.refl _))))) rfl (by rintro _ _ ⟨A5,c5,A6,c6,LL,rfl,acB,rfl⟩;exact gD) ?_;rintro _ _ ⟨A5,c5,A6,c6,LL,rfl,acB,cA⟩;obtain rfl:=cA.symm;refine ae 7 ?_;refine ae 8 ?_;refine ae 9 ?_;refine ae 10 ?_;refine ae 11 ?_;refine az 12 ?_;refine kR rfl .no (ph 2 ag rfl rfl L5 aV rfl ak) Gs ?_;rintro _ _ rfl;refine ae 13 ?_;refine cQ [9,10] ?_;refine bK ?_;refine aj (fun h87=>?_) fun h87=>?_
      ·refine bO ?_;refine aq (.skip (.skip (.skip ((dv _ _).trans (.skip (.skip (.skip (.skip (.skip (.skip (.skip (.skip ac_)))))))))))) ?_;refine aF ?_;rw[h6a Yr h87];exact .inl ⟨h87,rfl,rfl⟩
      ·refine cZ ?_;rw[h7a Yr h87];have hb3:∀e∈FB,aK B w0 (FB.map fq++Y) 1 (dq e) e.2.2.length (bv e.2.2):=fun e he=>aK.own (j9 _ (jb (f:=fq) he));rw[Rh,hK];exact .inr ⟨rfl,g30,_,rfl,LY,Mk (o:=(bl,pl,bu,da,pa,ch)) l9 sP acB hb3⟩
     ·refine iW rfl rfl ((JA (ns:=(fa (dT b)).1) aA aa aa).jf ((l_ (fR (.refl _))))) ?_;refine az 2 ?_;refine aF ?_;refine az 6 ?_;refine gz rfl .no ajS rfl (.perm (V' (b:=(aJ (vB b)).1) (aK.own (.tail _ (.head _))) (by have:=o_ (vB b);omega)) ((l_ (fR (.refl _))))) rfl (by rintro _ _ ⟨A5,c5,A6,c6,LL,rfl,acB,rfl⟩;exact gD) ?_;rintro _ _ ⟨A5,c5,A6,c6,LL,rfl,acB,cA⟩;obtain rfl:=cA.symm;refine ae 7 ?_;refine ae 8 ?_;refine ae 9 ?_;refine ae 10 ?_;refine ae 11 ?_;refine az 12 ?_;refine kR rfl .no (ph 2 ag rfl rfl L5 aV rfl ak) Gs ?_;rintro _ _ rfl;refine ae 13 ?_;refine cQ [9,10] ?_;refine bK ?_;refine aj (fun h87=>?_) fun h87=>?_
      ·refine bO ?_;refine aq (.skip (.skip (.skip ((dv _ _).trans (.skip (.skip (.skip (.skip (.skip (.skip (.skip (.skip ac_)))))))))))) ?_;refine aF ?_;rw[h6a Yr h87];exact .inl ⟨h87,rfl,rfl⟩
      ·refine cZ ?_;rw[h7a Yr h87];have hb3:∀e∈FB,aK B w0 (FB.map fq++Y) 1 (dq e) e.2.2.length (bv e.2.2):=fun e he=>aK.own (j9 _ (jb (f:=fq) he));rw[Rh,hK];exact .inr ⟨rfl,g30,_,rfl,LY,Mk (o:=(bl,pl,bu,da,pa,ch)) l9 sP acB hb3⟩
theorem Ug(HT:bL B w0){o:aR}{b:al}(hb:eM B w0 F A c b)(de:b.length≤1000000):a_ B w0 111 [.agg (aR.cells o).toArray,.slice A b.length c] F (an' (ei o b) B w0 F):=by
 by_cases h:cB 2 (o2 o)≠0
 ·exact(agK h).mono fun r L hr=>.inl ⟨by rw[JC h];exact h,hr⟩
 ·by_cases h2:(fZ b).2.2≠0
  ·exact(agL HT hb de h h2).mono fun r L hr=>.inl ⟨by rw[JD h h2];exact h2,hr⟩
  ·by_cases h3:Gz (dT b) (qy b).length≠0
   ·exact(agM HT hb de h h2 h3).mono fun r L hr=>.inl ⟨by rw[JE h h2 h3];exact h3,hr⟩
   ·by_cases h4:xJ (fa (dT b)).1.sum (wE b)≠0
    ·exact(agN HT hb de h h2 h3 h4).mono fun r L hr=>.inl ⟨by rw[JF h h2 h3 h4];exact h4,hr⟩
    ·exact agO HT hb de h h2 h3 h4
end
theorem aq4{a b:Nat}(ha:a<9223372036854775808):IntKind.i64.wrap ((a:Int).tdiv (b:Int))=((a/b:Nat):Int):=by
 have e:(a:Int).tdiv (b:Int)=((a/b:Nat):Int):=(Int.ofNat_tdiv a b).symm;have h0:a/b<9223372036854775808:=NO (ri a b) ha;rw[e];generalize a/b=x at h0;exact wrap_i64 _ aa aa
theorem T9{P:Prop}(h:P:=by(rw[hys];exact vE)):P:=h
theorem arq:((List.range 256).all fun a=>Nat.beq (a &&& 128) 0==Nat.blt a 128)=true:=by decide+kernel
theorem ars{a:Nat}(h:a<256):a &&& 128=0↔a<128:=by
 have:=yc.1 arq a (kB.2 h);have e:Nat.beq (a &&& 128) 0=Nat.blt a 128:=by simpa using this
 constructor
 ·intro k;rw[k]at e;exact(by simpa using e.symm)
 ·intro k;rw[show Nat.blt a 128=true by simpa using k]at e;exact rm e
theorem arb(a:Nat):IntKind.u8.wrap ((a:Int)*2^min ((1:Int)).toNat IntKind.u8.bits)=((2*a%256:Nat):Int):=by
 show((a:Int)*2)%256=_;omega
theorem Lb{a:Nat}(ha:a<256):a_ B w0 306 [.int .u8 (a:Int)] F (fun r L=>r= .int .u8 ((pU a:Nat):Int)∧L=F):=by
 have h1:=ars ha;refine fw func306 11 [0] ?_;refine bO ?_;refine ab (jY rfl rfl (r:=((a &&& 128:Nat):Int)) (aoh ha (b:=128) aB)) rfl ?_;refine bA ?_;refine aj (fun h5=>?_) fun h5=>?_
 ·have hc:¬a<128:=fun k=>h5 (by have:=h1.2 k;omega);have e:pU a=(2*a%256) ^^^ 29:=by unfold pU;rw[aw hc];congr 1;omega
  refine bA ?_;refine ab (ga rfl rfl aB (r:=((2*a%256:Nat):Int)) (arb a)) rfl ?_;refine ab (lD rfl rfl (r:=((pU a:Nat):Int)) (by rw[e];exact ajE aa (b:=29) aB)) rfl ?_;refine bz ?_;exact⟨rfl,rfl⟩
 ·have hc:a<128:=h1.1 (by have:=bH h5;omega);have e:pU a=2*a%256:=by unfold pU;rw[ao hc];omega
  refine bG ?_;refine ab (ga rfl rfl aB (r:=((pU a:Nat):Int)) (by rw[e];exact arb a)) rfl ?_;refine bG ?_;exact⟨rfl,rfl⟩
theorem VX(a o:Nat):∀f,fj f a 0 o=o
 |0=>rfl
 |f+1=>by unfold fj;rw[ao rfl]
theorem VW:∀(f b o:Nat),fj f 0 b o=o
 |0,_,_=>rfl
 |f+1,b,o=>by
  unfold fj;rw[show pU 0=0 from rfl,VW f];split
  ·rfl
  ·split
   ·exact Nat.xor_zero o
   ·rfl
theorem akH(y:Nat):y >>> 1=y/2:=by rw[VA]
theorem ak_{n:Nat}(h:n<256):IntKind.u64.wrap ((BitVec.ofInt IntKind.u64.bits (n:Int) &&& BitVec.ofInt IntKind.u64.bits ((1:Nat):Int)).toNat:Int)=((n &&& 1:Nat):Int):=by
 have h1:n &&& 1=n%2:=Er n;rw[ak' (k:=.u64) (a:=n) (b:=1) (by show n<18446744073709551616;omega) aB];exact f_ aa aa
theorem Nk{f y:Nat}(h:y<2^f)(h0:y≠0):∃q,f=q+1:=by
 cases f with
 |zero=>simp at h;omega
 |succ q=>exact⟨q,rfl⟩
theorem Kc{a b:Nat}(ha:a<256)(hb:b<256):a_ B w0 305 [.int .u8 (a:Int),.int .u8 (b:Int)] F (fun r L=>r= .int .u8 ((fc a b:Nat):Int)∧L=F):=by
 refine fw func305 19 [0,1] ?_;refine cH ?_;refine aE (fun zf zL zm=>∃(f x y o:Nat),(x<256∧y<2^f∧y<256∧o<256∧fj f x y o=fc a b)∧y=zm∧Sub zf [(0,.int .u8 (x:Int)),(1,.int .u8 (y:Int)),(5,.int .u8 (o:Int))]∧Wk zL (F)) _ ⟨8,a,b,0,⟨ha,hb,hb,aB,rfl⟩,rfl,bp,.refl _⟩ ?_;rintro _ _ _ ⟨f,x,y,o,⟨hx,hyf,hy,ho,hm⟩,rfl,hs,hp⟩;refine aU hs hp ?_;clear hs hp;refine bK ?_;refine aj (fun h7=>?_) fun h7=>?_
 ·obtain⟨f,rfl⟩:=Nk hyf aa;have hys:y >>> 1=y/2:=akH y;have hya:y &&& 1=y%2:=Er y;have auq:y/2<2^f:=by rw[nK]at hyf;omega
  have vE:fj f (pU x) (y/2) (if y%2=1 then o ^^^ x else o)=fc a b:=by rw[←hm];conv=>rhs;unfold fj;rw[aw (show¬y=0 by omega)]
  have hx2:=nW x hx;refine bI ?_;refine ab (jY rfl rfl (r:=((y &&& 1:Nat):Int)) (aoh hy (b:=1) aB)) rfl ?_;refine bA ?_;refine aj (fun mD=>?_) fun mD=>?_
  ·rw[hya]at mD;rw[ao aa]at vE;have hox:=vw ho hx;refine bA ?_;refine ab (lD rfl rfl (r:=((o ^^^ x:Nat):Int)) (ajE ho hx)) rfl ?_;refine bG ?_;refine ai rfl (Lb hx) ?_;refine bz ?_;refine ab (dj rfl rfl aB (r:=((y >>> 1:Nat):Int)) (G5 y 1)) rfl ?_;refine be ?_;refine av ⟨_,aa,f,pU x,y >>> 1,o ^^^ x,⟨hx2,aa,aa,hox,T9⟩,rfl,bp,.refl _⟩
  ·rw[hya]at mD;rw[aw aa]at vE;refine b8 ?_;refine ai rfl (Lb hx) ?_;refine bz ?_;refine ab (dj rfl rfl aB (r:=((y >>> 1:Nat):Int)) (G5 y 1)) rfl ?_;refine be ?_;refine av ⟨_,aa,f,pU x,y >>> 1,o,⟨hx2,aa,aa,ho,T9⟩,rfl,bp,.refl _⟩
 ·obtain rfl:y=0:=by have:=bH h7;omega
  rw[VX]at hm;refine dc ?_;exact⟨by rw[hm],rfl⟩
theorem aiy(a o:Nat):∀f,tR f a 0 o=o
 |0=>rfl
 |f+1=>by unfold tR;rw[ao rfl]
theorem aq2{a:Nat}(ha:a<256)(h0:a≠0):a_ B w0 274 [.int .u8 (a:Int),.int .u64 254] F (fun r L=>r= .int .u8 ((q7 a:Nat):Int)∧L=F):=by
 have e0:tR 8 a 254 1=q7 a:=by unfold q7;rw[aw h0]
 refine fw func274 28 [0,1] ?_;refine dQ ?_;refine dm fun h6=>?_;refine bK ?_;refine dm fun h9=>?_;refine cH ?_;refine ab (nt rfl rfl aB (r:=254) aB) rfl ?_;refine b8 ?_;refine aE (fun zf zL zm=>∃(f x n o:Nat),(x<256∧n<2^f∧n<256∧o<256∧tR f x n o=q7 a)∧n=zm∧Sub zf [(0,.int .u8 (x:Int)),(1,.int .u64 (n:Int)),(5,.int .u8 (o:Int))]∧Wk zL (F)) _ ⟨8,a,254,1,⟨ha,aB,aB,aB,e0⟩,rfl,bp,.refl _⟩ ?_;rintro _ _ _ ⟨f,x,n,o,⟨hx,hnf,hn,ho,hm⟩,rfl,hs,hp⟩;refine aU hs hp ?_;clear hs hp;refine bK ?_;refine aj (fun kL=>?_) fun kL=>?_
 ·obtain⟨f,rfl⟩:=Nk hnf aa;have hys:n >>> 1=n/2:=akH n;have hya:n &&& 1=n%2:=Er n;have aud:n/2<2^f:=by rw[nK]at hnf;omega
  have vE:tR f (fc x x) (n/2) (if n%2=1 then fc o x else o)=q7 a:=by rw[←hm];conv=>rhs;unfold tR;rw[aw (show¬n=0 by omega)]
  have hx2:=mul_lt x hx;refine bI ?_;refine ab (jY rfl rfl (r:=((n &&& 1:Nat):Int)) (ak_ hn)) rfl ?_;refine bA ?_;refine aj (fun iM=>?_) fun iM=>?_
  ·rw[hya]at iM;rw[ao aa]at vE;have hox:=mul_lt x ho;refine bA ?_;refine ai rfl (Kc ho hx) ?_;refine bz ?_;refine ai rfl (Kc hx hx) ?_;refine bz ?_;refine ab (dj rfl rfl aB (r:=((n >>> 1:Nat):Int)) (G5 n 1)) rfl ?_;refine be ?_;refine av ⟨_,aa,f,fc x x,n >>> 1,fc o x,⟨hx2,aa,aa,hox,T9⟩,rfl,bp,.refl _⟩
  ·rw[hya]at iM;rw[aw aa]at vE;refine bG ?_;refine ai rfl (Kc hx hx) ?_;refine bz ?_;refine ab (dj rfl rfl aB (r:=((n >>> 1:Nat):Int)) (G5 n 1)) rfl ?_;refine be ?_;refine av ⟨_,aa,f,fc x x,n >>> 1,o,⟨hx2,aa,aa,ho,T9⟩,rfl,bp,.refl _⟩
 ·obtain rfl:n=0:=by omega
  rw[aiy]at hm;refine dc ?_;exact⟨by rw[hm],rfl⟩
theorem akm{a:Nat}(ha:a<256):a_ B w0 236 [.int .u8 (a:Int)] F (fun r L=>r= .tuple #[.int .u8 ((q7 a:Nat):Int),ah (if a=0 then 13 else 0)]∧L=F):=by
 refine fw func236 8 [0] ?_;refine dc ?_;refine aj (fun h5=>?_) fun h5=>?_
 ·obtain rfl:a=0:=by omega
  refine bO ?_;exact⟨rfl,rfl⟩
 ·have h0:a≠0:=by omega
  refine bG ?_;refine ai rfl (aq2 ha h0) ?_;refine bz ?_;exact⟨by rw[aw h0],rfl⟩
theorem IM:∀(f a b o:Nat),b<2^f→fj (f+1) a b o=fj f a b o
 |0,a,b,o,h=>by
  have:b=0:=by simpa using h
  subst this;rfl
 |f+1,a,b,o,h=>by
  rw[fj]
  conv=>rhs;rw[fj]
  split
  ·rfl
  ·exact IM f _ _ _ (by rw[nK]at h;omega)
theorem Zl(f:Nat){c i:Nat}(hc:c<256)(h1:1≤i)(hi:i/2<2^f):fj (f+1) c i 0=if i%2=1 then pU (fj (f+1) c (i/2) 0) ^^^ c else pU (fj (f+1) c (i/2) 0):=by
 have e1:fj (f+1) c i 0=fj f (pU c) (i/2) (if i%2=1 then 0 ^^^ c else 0):=by rw[fj,aw aa]
 have e2:∀o,o<256→fj f (pU c) (i/2) o=pU (fj (f+1) c (i/2) 0) ^^^ o:=fun o ho=>by
  have h:=yA f (pU c) 0 (i/2) 0 o (nW c hc) aB;rw[Nat.xor_zero,Nat.zero_xor,VW]at h;have h2:=KH f c (i/2) 0 hc aB;rw[show pU 0=0 from rfl]at h2;rw[h,h2,IM f c (i/2) 0 hi]
 rw[e1];split
 ·rw[Nat.zero_xor,e2 c hc]
 ·rw[e2 0 aB,Nat.xor_zero]
theorem adN{c i:Nat}(hc:c<256)(hi:i<256)(h1:1≤i):fc c i=if i%2=1 then pU (fc c (i/2)) ^^^ c else pU (fc c (i/2)):=by
 unfold fc;exact Zl 7 hc h1 aa
def yL(c:Nat):List Int:=(List.range 256).map fun i=>((fc c i:Nat):Int)
theorem Fi(c:Nat):(yL c).length=256:=by simp[yL]
theorem Fh{c i:Nat}(hi:i<256):(yL c).getD i 0=((fc c i:Nat):Int):=by simp[yL,bk,hi]
theorem ahp{c:Nat}:fc c 0=0:=VX c 0 8
abbrev Rwb(g:Nat)(b:List Int):Ch:=.bE g 382 (ints .u8 b)
theorem yO{b:List Int}{i j:Nat}{v:Int}(hi:i<b.length):(b.set i v).getD j 0=if j=i then v else b.getD j 0:=by
 simp only[bk,BF];by_cases h:i=j
 ·subst h;simp[hi]
 ·rw[aw h,aw (Ne.symm h)]
theorem U8{c:Nat}(hc:c<256):a_ B w0 275 [.int .u8 (c:Int)] F (fun r L=>r= .agg (ints .u8 (yL c)).toArray∧L=F):=by
 refine fw func275 26 [0] ?_;refine be ?_;refine bc fun g2=>?_;refine b8 ?_;refine bc fun g3=>?_;refine bO ?_;refine aE (fun zf zL zm=>∃(i:Nat) (b:List Int),(1≤i∧i≤256∧b.length=256∧∀j,j<i→b.getD j 0=((fc c j:Nat):Int))∧256-i=zm∧Sub zf [(0,.int .u8 (c:Int)),(2,br g2),(3,br g3),(4,ah (i:Int))]∧Wk zL (Rwb g3 b::Rwb g2 (List.replicate 256 0)::F)) _ ⟨1,List.replicate 256 0,⟨gi _,aB,rfl,fun j hj=>by
  obtain rfl:j=0:=by omega
  rw[ahp];rfl⟩,rfl,bp,.refl _⟩ ?_
 rintro _ _ _ ⟨i,b,⟨hi1,hi2,de,hb⟩,rfl,hs,hp⟩;refine aU hs hp ?_;clear hs hp;refine bK ?_;refine aj (fun h6=>?_) fun h6=>?_
 ·obtain⟨v,hv⟩:=cK (fc c (i/2));have YK:v<256:=by rw[hv];exact mul_lt _ hc
  have Vn:b.getD (i/2) 0=(v:Int):=by rw[hb _ aa,hv]
  have hh:=adN hc (show i<256 by omega) hi1;rw[←hv]at hh;have GM:=nW v YK;refine bI ?_;refine ab (mh rfl rfl aB (r:=((i/2:Nat):Int)) (aq4 (b:=2) aa)) rfl ?_;refine ab (aM (i:=i/2) underlying382 ag rfl rfl rfl aa) rfl ?_;refine ab (eY ag rfl aV Gq) rfl ?_;rw[Vn];refine ai rfl (Lb YK) ?_;refine ab (aM (i:=i) underlying382 ag rfl rfl rfl aa) rfl ?_;refine bz ?_;refine ab (nt rfl rfl aB (r:=((i%2:Nat):Int)) (by rw[Int.tmod_eq_emod_of_nonneg aa];omega)) rfl ?_;refine bA ?_;refine aj (fun jj=>?_) fun jj=>?_
  ·rw[ao aa]at hh;have k_:(b.set i ((pU v:Nat):Int)).getD i 0=((pU v:Nat):Int):=by rw[yO aa,ao rfl]
   refine be ?_;refine ab (aM (i:=i) underlying382 ag rfl rfl rfl aa) rfl ?_;refine ab (eY ag rfl aV Gq) rfl ?_;rw[k_];refine aF ?_;refine ab (lD rfl rfl (r:=((pU v ^^^ c:Nat):Int)) (ajE GM hc)) rfl ?_;refine ab (aM (i:=i) underlying382 ag rfl rfl rfl aa) rfl ?_;refine aF ?_;refine ve [0,2,3,4] ?_;refine bK ?_;refine av ⟨_,aa,i+1,(b.set i ((pU v:Nat):Int)).set i ((pU v ^^^ c:Nat):Int),⟨aa,aa,by simp[de],fun j hj=>by
    rw[yO bR,yO aa];by_cases e:j=i
    ·subst e;rw[ao rfl,hh]
    ·rw[aw e,aw e];exact hb j aa⟩,rfl,bp,.refl _⟩
  ·rw[aw aa]at hh;refine bI ?_;refine av ⟨_,aa,i+1,b.set i ((pU v:Nat):Int),⟨aa,aa,by simp[de],fun j hj=>by
    rw[yO aa];by_cases e:j=i
    ·subst e;rw[ao rfl,hh]
    ·rw[aw e];exact hb j aa⟩,rfl,bp,.refl _⟩
 ·obtain rfl:i=256:=by omega
  obtain rfl:b=yL c:=by
   apply pZ
   ·rw[de,Fi]
   ·intro j h1 h2;have h3:=hb j aa;rw[←Fh aa,bk,bk,fm h1,fm h2]at h3;exact h3
  refine cH ?_;refine I4 rfl rfl ag aV gA (.skip (.skip (.refl _))) ?_;exact⟨rfl,rfl⟩
section
section
variable{C:Cx}{fr:Fr}{L:aQ}{x y:Operand}{f:Ch→aQ}{t t2 e ty:TypeId}
theorem r8{bytes:Nat}{zv:Value}(T:sJ C.P t e 1 bytes zv){A:bj}{n c i j:Nat}{xs:cV}(hs:mG (.own e 1 A n c xs) L f)(he:ev fr x=some (.slice (if c=i then A else A.map (·.add (i*1))) (j-i) (c-i)))(hi:i≤j)(hj:j≤n){yv:Value}{m:Nat}{news:cV}(hy:ev fr y=some yv)(hb:aK C.B C.w0 L 1 yv m news)(h1:∀u∈news,u.oneCell'=true):
  qx C fr L (.call {callee:=.builtin .copy,args:= #[x,y],argTypes:= #[t,t2]}) ty (fun p L'=>p=ah (min m (j-i):Nat)∧L'=f (.own e 1 A n c (xs.take i++news.take (min m (j-i))++xs.drop (i+min m (j-i))))):=fun a w ha hw d pos af gg=>by
 obtain⟨ii,hii,hz,iZ,Ea⟩:=T.hi;have ac8:(C.P.info? e).map (·.size)=some 1:=by rw[hii];simp[iZ]
 obtain⟨X,cx,rfl,hmc,hl,t_⟩:=hb w hw;have amg:Nat.min m (j-i)=min m (j-i):=rfl;obtain⟨k1,k2,k3⟩:=hw.all _ hs.mem;rw[cE]at k1 hl;by_cases h0:min m (j-i)=0
 ·have hr:=run_copy_none (P:=C.P) w t t2 ty e (if c=i then A else A.map (·.add (i*1))) X (j-i) (c-i) m cx T.ht ac8 h0;refine⟨_,w,_,.inl ?_,⟨rfl,rfl⟩,?_⟩
  ·simp[execOp,resolve,invoke,builtin,ha.tmp he,ha.tmp hy];have:=hr;simp at this;rw[this];simp[goInt,h0]
  ·rw[h0,z8,gj,tk,jJ];refine hw.Qe hs (NS w _) (fun h=>h) (.inr (.inl rfl))
 ·have qM:¬c=0:=by omega
  have hci:¬c=i:=by omega
  obtain⟨g,cur,rfl,Yw,hg,hcm,tV,po⟩:=k3.resolve_left qM;clear k3;rw[cE]at tV po;obtain⟨ad,rfl,_,fy⟩:=t_ aa;clear t_ amg;obtain⟨k,hk⟩:=cK (min m (j-i));have Gc:k≤m:=by omega
  have hkn:i+k≤n:=by omega
  have Ny:k=Nat.min m (j-i):=hk;rw[←hk]at h0⊢;clear hk;have amp:∀j v,(news.take k)[j]? =some v→w.cell? (ad.add j)=some v:=fun q v hv=>by
   rw[GS]at hv;split at hv
   ·exact fy q v hv
   ·cases hv
  have hlen:(news.take k).length=k:=by rw[eS,hl];omega
  have GI:(⟨g,0,none⟩:Addr).add (i*1)=⟨g,i,none⟩:=by rw[zV,mw,cE]
  have GL:i+(news.take k).length≤cur.size:=by rw[hlen,tV];omega
  have hr:=run_copy_row (P:=C.P) w t t2 ty e g i (j-i) (c-i) ad m cx cur e (news.take k) T.ht ac8 hg (by rw[hlen];exact Ny) amp GL (fun v hv=>h1 v (l6 hv));clear Ny;have tB:cur.toList.length=c:=by simpa using tV
  have e1:(xs.take i++news.take k++xs.drop (i+k)).length=n*1:=by
   simp only[aY,eS,iG,hl,k1];omega
  have e2:(cur.toList.take i++news.take k++cur.toList.drop (i+(news.take k).length)).length=c:=by
   simp only[aY,eS,iG,hl,tB];omega
  have e3:(cur.toList.take i++news.take k++cur.toList.drop (i+(news.take k).length)).take n=xs.take i++news.take k++xs.drop (i+k):=by
   have hx:xs=cur.toList.take n:=po.symm;rw[hlen,N8,fA (by rw[aY,eS,hlen];omega),hx,Iz,RW,zb aa];congr 2;rw[aY,eS,hlen,tB,zb aa]
  refine⟨_,_,_,.inl ?_,⟨rfl,rfl⟩,hw.Qe hs (w':=w.setRow g (cur.toList.take i++news.take k++cur.toList.drop (i+(news.take k).length)).toArray) ?_ (fun _=>⟨e1,k2,.inr ⟨g,_,rfl,Yw,N1 w g cur _ e _ hg,hcm,by rw[wW,e2,cE],by rw[cE];exact e3⟩⟩) (.inr (.inl rfl))⟩
  ·simp only[execOp,resolve,invoke,builtin,ha.tmp he,ha.tmp hy,aw hci,sS,GI,Kt,GU,ug,List.map_toArray,kC,GV,hr];simp[goInt,hlen]
  ·rw[show(Ch.own e 1 (some ⟨g,0,none⟩) n c xs).fp=some g by simp[Ch.fp,qM]];exact⟨rfl,rfl,rfl,ak,fun k _ hk=>N3 w g k _ (fun e=>hk xz)⟩
abbrev G7(A:bj)(c i j:Nat):Value:=.slice (if c=i then A else A.map (·.add (i*1))) (i+j-i) (c-i)
theorem aK.part{B:Nat}{w0:World}{A:bj}{n c i j:Nat}{l:al}(h:aK B w0 L 1 (.slice A n c) n (bv l))(Iq:i+j≤n):aK B w0 L 1 (G7 A c i j) (i+j-i) (bv ((l.drop i).take j)):=by
 have:=(h.iY (k:=i+j) Iq).cut (k:=i) aa;have e:((bv l).take ((i+j)*1)).drop (i*1)=bv ((l.drop i).take j):=by
  rw[cE,cE];unfold bv;rw[←pt,←yh,RW];congr 2;omega
 rw[e]at this;exact this
theorem GC{v:Value}{A:bj}{n c i q:Nat}{xs:cV}(hs:pY C.P t=true)(he:ev fr x=some (.pointer ((if c=i then A else A.map (·.add (i*1))).map (·.add q))))(hv:ev fr y=some v)(h1:v.oneCell'=true)(hm:mG (.own e 1 A n c xs) L f)(hic:i<c)(hj:i*1+q<xs.length):
  qx C fr L (.store t x y) ty (fun p L'=>L'=f (.own e 1 A n c (xs.set (i*1+q) v))):=by
 refine pj (j:=i*1) (q:=q) hs ?_ hv h1 hm hj;rw[he,aw aa,Option.map_map];rfl
end
variable{B:Nat}{w0:World}{F L0:aQ}{A A1 A2 Ao:bj}{n c c1 c2 co g gc:Nat}
theorem BA(x:Nat):(ints .u8 (yL x)).length=256:=by simp[ints,yL]
theorem set_mk{p:al}{y:UInt8}{k n:Nat}(h:p.length=k)(hk:k<n):(bv p++List.replicate (n-k) (Value.int .u8 0)).set (k*1) (.int .u8 (y.toNat:Int))=bv (p++[y])++List.replicate (n-(k+1)) (Value.int .u8 0):=by
 subst h;rw[show n-p.length=(n-(p.length+1))+1 by omega,zU,cE,wX _ _ Bl];simp[bv]
theorem Yk{s b:al}{x:UInt8}{k:Nat}(h1:k<s.length)(h2:k<b.length):(qY s x b).take (k+1)=(qY s x b).take k++[s.getD k 0 ^^^ gm x (b.getD k 0)]:=by
 rw[ba (by unfold qY;rw[List.length_zipWith];omega) 0,Nl h1 h2]
theorem ahr{s b:al}{x:UInt8}(hl:s.length=b.length)(hs:eM B w0 F A c s)(hb:eM B w0 F A2 c2 b)(hn:s.length≤1000000000):
  a_ B w0 237 [.slice A s.length c,.int .u8 (x.toNat:Int),.slice A2 b.length c2] F (fun r L=>∃A' c',r= .tuple #[.slice A' s.length c',ah 0]∧L= .own 5 1 A' s.length c' (bv (qY s x b))::F):=by
 have GM:(qY s x b).length=s.length:=qZ hl;refine fw func237 42 [0,1,2] ?_;refine jQ ?_;refine dm fun ki=>?_;refine bG ?_;refine ai rfl (U8 (sC x)) ?_;refine bc fun g8=>?_;refine kN (nV 256 ag rfl rfl (El _ _) aV rfl (BA _)) ?_;refine bz ?_;refine cC (fb cD rfl rfl rfl rfl rfl aa aa aa) fun A21=>?_;refine cH ?_;refine aE (fun zf zL zm=>∃(k:Nat),(k≤s.length)∧s.length-k=zm∧Sub zf [(2,.slice A2 b.length c2),(8,br g8),(9,.slice A21 s.length s.length),(22,.slice A s.length c),(23,ah s.length),(24,ah k)]∧Wk zL (.own 5 1 A21 s.length s.length (bv ((qY s x b).take k)++List.replicate (s.length-k) (.int .u8 0))::Rwb g8 (yL x.toNat)::F)) _ ⟨0,bS _,rfl,bp,.refl _⟩ ?_;rintro _ _ _ ⟨k,hk,rfl,hs,hp⟩;refine aU hs hp ?_;clear hs hp;refine bz ?_;refine aj (fun vV=>?_) fun vV=>?_
 ·obtain⟨u,hu⟩:=cK (s.getD k 0);obtain⟨v,hv⟩:=cK (b.getD k 0);have YK:=sC v;have za:=sC u;have hgt:=Yk (x:=x) (show k<s.length by omega) (show k<b.length by omega);rw[←hu,←hv]at hgt;have hrg:(yL x.toNat).getD v.toNat 0=(((gm x v).toNat:Nat):Int):=by rw[Fh YK,iA]
  refine bO ?_;rw[←hu];refine cH ?_;rw[←hv];refine ab (aM (i:=v.toNat) underlying382 ag rfl rfl rfl YK) rfl ?_;refine ab (eY ag rfl aV (by rw[Fi];exact YK)) rfl ?_;rw[hrg];refine ab (lD rfl rfl (r:=(((u ^^^ gm x v).toNat:Nat):Int)) (by rw[UInt8.toNat_xor];exact ajE za (sC _))) rfl ?_;refine ab (aC (i:=k) (size:=1) underlying27 ag rfl rfl rfl aa (aK.own (.head _))) rfl ?_;refine kN (iK ag rfl rfl rfl aV (by simp[bv];omega)) ?_;refine ve [2,8,9,22,23,24] ?_;refine bz ?_;refine av ⟨_,aa,k+1,aa,rfl,bp,ax rfl (by rw[hgt];exact set_mk nx aa) (.refl _)⟩
 ·obtain rfl:k=s.length:=by omega
  refine dc ?_;refine aq (L':=.own 5 1 A21 s.length s.length (bv (qY s x b))::F) (ax rfl (by rw[fA aa];simp) (.skip (.refl _))) ?_;refine aF ?_;exact⟨A21,_,rfl,rfl⟩
end
theorem aa'{P:Prop}(h:P:=by(rw[jT (by omega)])):P:=h
abbrev vz(A:bj)(r k n c:Nat):Value:=.agg #[ah (r:Int),ah (k:Int),.slice A n c]
abbrev CY(g:Nat)(A:bj)(r k n c:Nat):Ch:=.bE g 272 [ah (r:Int),ah (k:Int),.slice A n c]
theorem EM{a b:Nat}(ha:a≤1000000)(hb:b≤1000000):IntKind.i64.wrap ((a:Int)*(b:Int))=((a*b:Nat):Int):=by
 have:a*b≤1000000*1000000:=gL ha hb;rw[←z6];exact bF aa aa
theorem uP{x:Nat}(h:x≤255):a_ B w0 233 [ah (x:Int)] F (fun r L=>r= .bool true∧L=F):=by
 refine fw func233 9 [0] ?_;refine bB ?_;refine cM (fun h5=>?_) fun h5=>?_
 ·refine bO ?_;exact⟨aa',rfl⟩
 ·exfalso;omega
theorem yy(hr:r≤255)(hk:k≤255)(hn:n=r*k):a_ B w0 307 [vz A r k n c] F (fun v L=>v= .bool true∧L=F):=by
 refine cm func307 22 rfl rfl rfl [(0,.agg #[ah (r:Int),ah (k:Int),.slice A n c])] ⟨⟨rfl,rfl⟩,trivial⟩ ?_;refine be ?_;refine bh fun g1=>?_;refine bK ?_;refine ai rfl (uP hr) ?_;refine bz ?_;refine ai rfl (uP hk) ?_;refine B9 ?_;refine ab (eZ rfl rfl (r:=((r*k:Nat):Int)) (EM aa aa)) rfl ?_;refine b8 ?_;refine ve [2] ?_;refine be ?_;refine aq (.skip (.refl _)) ?_;refine aF ?_;exact⟨aa',rfl⟩
theorem Oo(i j:Nat):a_ B w0 330 [ah (i:Int),ah (j:Int)] F (fun v L=>v= .int .u8 (((if i=j then (1:UInt8) else 0).toNat:Nat):Int)∧L=F):=by
 refine fw func330 8 [0,1] ?_;refine dc ?_;refine aj (fun h7=>?_) fun h7=>?_
 ·refine bI ?_;exact⟨by rw[ao aa];rfl,rfl⟩
 ·refine bO ?_;exact⟨by rw[aw aa];rfl,rfl⟩
theorem Sa{ff:FuncId}{cap:cV}{Q:aQ}(f:Nat→Nat→UInt8)(hr:r≤255)(hk:k≤255)(hc:aH Tryz.prog ff)(hQ:Q.Sublist F)(hf:∀(i j:Nat) (L:aQ),i<r→j<k→Q.Sublist L→a_ B w0 ff ([ah (i:Int),ah (j:Int)]++cap) L (fun v L'=>v= .int .u8 (((f i j).toNat:Nat):Int)∧L'=L)):
  a_ B w0 234 [ah (r:Int),ah (k:Int),.func (.func ff) #[] cap.toArray] F (fun v L=>∃A' c',v=vz A' r k (r*k) c'∧L= .own 5 1 A' (r*k) c' (bv (ql r k f))::F):=by
 have hrk:r*k≤255*255:=gL hr hk;refine fw func234 37 [0,1,2] ?_;refine be ?_;refine bc fun g6=>?_;refine bI ?_;refine ab (eZ rfl rfl (r:=((r*k:Nat):Int)) (EM aa aa)) rfl ?_;refine cC (fb (nn:=0) cD rfl rfl rfl rfl rfl aa aa aa) fun Bf=>?_;refine ab (eG [(0,_),(1,_),(2,_)] [_,_,_] rfl rfl ag) rfl ?_;refine bc fun g7=>?_;refine cZ ?_;refine aE (fun zf zL zm=>∃(i:Nat) (A':bj) (c':Nat),(i≤r)∧r-i=zm∧Sub zf [(1,ah (k:Int)),(2,.func (.func ff) #[] cap.toArray),(6,br g6),(7,br g7),(17,ah (r:Int)),(18,ah (i:Int))]∧Wk zL (.own 5 1 A' (i*k) c' (bv (ql i k f))::CY g7 A' r k (i*k) c':: .bE g6 272 [ah 0,ah 0,.slice none 0 0]::F)) _ ⟨0,Bf,r*k,bS _,rfl,bp,.trans ((gk (ed (ed (.refl _))))) (ax ak (by simp[ql,bv]) (bq ak (.refl _)))⟩ ?_;rintro _ _ _ ⟨i,A',c',hi,rfl,hs,hp⟩;refine aU hs hp ?_;clear hs hp;refine bz ?_;refine aj (fun pV=>?_) fun pV=>?_
 ·have hik:=fL (k:=k) (show i<r by omega);refine B9 ?_;refine aE (fun zf zL zm=>∃(j:Nat) (A2:bj) (c2:Nat) (acc:al),(j≤k∧acc=ql i k f++(List.range j).map fun q=>f i q)∧k-j=zm∧Sub zf [(1,ah (k:Int)),(2,.func (.func ff) #[] cap.toArray),(6,br g6),(7,br g7),(8,ah (i:Int)),(17,ah (r:Int)),(18,ah (i:Int)),(21,ah (k:Int)),(22,ah (j:Int))]∧Wk zL (.own 5 1 A2 (i*k+j) c2 (bv acc)::CY g7 A2 r k (i*k+j) c2:: .bE g6 272 [ah 0,ah 0,.slice none 0 0]::F)) _ ⟨0,A',c',ql i k f,⟨bS _,ak⟩,rfl,bp,.refl _⟩ ?_;rintro _ _ _ ⟨j,A2,c2,acc,⟨hj,mI⟩,rfl,hs,hp⟩;refine aU hs hp ?_;clear hs hp;refine bz ?_;refine aj (fun m7=>?_) fun m7=>?_
  ·have hs:acc++[f i j]=ql i k f++(List.range (j+1)).map fun q=>f i q:=by rw[mI,lq];simp
   refine bB ?_;refine cF F ?_;refine ae 0 ?_;refine ae 2 ?_;refine ae 3 ?_;refine ae 4 ?_;refine gS 1 5 ?_ ?_
   ·refine aF ?_;refine az 5 ?_;refine pK rfl .no hc rfl rfl (hf i j _ aa aa (((hQ.cons _).cons _).cons _)) rfl Qw ?_;rintro _ _ ⟨rfl,cA⟩;obtain rfl:=cA.symm;refine az 6 ?_;refine cR rfl (aG cD [_] rfl rfl cw aa aa) fun Qg=>?_;refine az 7 ?_;refine eV rfl (bT cD rfl aV rfl aA cw aa aa) fun LO Mt=>?_;refine ae 8 ?_;refine az 9 ?_;refine bI ?_;refine av ⟨_,aa,j+1,LO,Mt,acc++[f i j],⟨aa,hs⟩,rfl,bp,.skip (ax rfl Bl (.refl _))⟩
   ·refine pK rfl .no hc rfl rfl (hf i j _ aa aa (((hQ.cons _).cons _).cons _)) rfl Qw ?_;rintro _ _ ⟨rfl,cA⟩;obtain rfl:=cA.symm;refine gS 1 6 ?_ ?_
    ·refine aF ?_;refine az 6 ?_;refine cR rfl (aG cD [_] rfl rfl cw aa aa) fun Qg=>?_;refine az 7 ?_;refine eV rfl (bT cD rfl aV rfl aA cw aa aa) fun LO Mt=>?_;refine ae 8 ?_;refine az 9 ?_;refine bI ?_;refine av ⟨_,aa,j+1,LO,Mt,acc++[f i j],⟨aa,hs⟩,rfl,bp,.skip (ax rfl Bl (.refl _))⟩
    ·refine cR rfl (aG cD [_] rfl rfl cw aa aa) fun Qg=>?_;refine az 1 ?_;refine aF ?_;refine az 7 ?_;refine eV rfl (bT cD rfl aV rfl aA cw aa aa) fun LO Mt=>?_;refine ae 8 ?_;refine az 9 ?_;refine bI ?_;refine av ⟨_,aa,j+1,LO,Mt,acc++[f i j],⟨aa,hs⟩,rfl,bp,.skip (ax rfl Bl (.refl _))⟩
  ·obtain rfl:j=k:=by omega
   refine bB ?_;refine av ⟨_,aa,i+1,A2,c2,aa,rfl,bp,ax (by rw[kD]) (by rw[mI,EG]) (bq (by rw[kD]) (.refl _))⟩
 ·obtain rfl:i=r:=by omega
  refine cH ?_;refine I4 rfl rfl ag aV gA ((ed (.skip (.skip (.refl _))))) ?_;exact⟨A',c',rfl,rfl⟩
theorem aoQ{P:Prop}(h:P:=by(rw[kD,show a*k+k-a*k=k by omega];rfl)):P:=h
theorem ahN(hn:n≤255):a_ B w0 309 [ah (n:Int)] F (fun v L=>∃A' c',v= .tuple #[vz A' n n (n*n) c',ah 0]∧L= .own 5 1 A' (n*n) c' (bv (NH n))::F):=by
 refine fw func309 11 [0] ?_;refine be ?_;refine bc fun g2=>?_;refine bK ?_;refine ai rfl (uP hn) ?_;refine bB ?_;refine ay rfl (Sa (Q:=[]) (cap:=[]) (fun i j=>if i=j then 1 else 0) hn hn aj0 (NN _) (fun i j L _ _ _=>Oo i j)) fun wu F8=>?_;refine bG ?_;refine gQ rfl rfl ag aV gA rfl ((ed (.skip (.refl _)))) ?_;exact⟨wu,F8,rfl,rfl⟩
theorem an5{a b:Nat}(ha:a<256)(hb:b<256):IntKind.i64.wrap ((BitVec.ofInt IntKind.i64.bits (a:Int) ^^^ BitVec.ofInt IntKind.i64.bits (b:Int)).toNat:Int)=((a ^^^ b:Nat):Int):=by
 have h:=vw ha hb;rw[an6 (k:=.i64) (a:=a) (b:=b) (by show a<18446744073709551616;omega) (by show b<18446744073709551616;omega)];exact bF aa aa
theorem art{x:Nat}(h:x<256):(UInt8.ofNat x).toNat=x:=by rw[oi];exact i_ h
def agW(k i j:Nat):UInt8:=kM (UInt8.ofNat ((k+i) ^^^ j))
theorem als{i j:Nat}(h1:k+i≤255)(h2:j≤255):a_ B w0 235 [ah (i:Int),ah (j:Int),br g] (.bE g 3 [ah (k:Int)]::F) (fun v L=>v= .int .u8 (((agW k i j).toNat:Nat):Int)∧L= .bE g 3 [ah (k:Int)]::F):=by
 have hx:=vw (a:=k+i) (b:=j) aa aa;have he:(agW k i j).toNat=q7 ((k+i) ^^^ j):=by unfold agW;rw[wL,art hx]
 refine fw func235 19 [0,1,2] ?_;refine bO ?_;refine ab (bX rfl rfl (r:=((k+i:Nat):Int)) ((bF aa aa).trans aa)) rfl ?_;refine aF ?_;refine ab (lD rfl rfl (r:=(((k+i) ^^^ j:Nat):Int)) (an5 aa aa)) rfl ?_;refine aF ?_;refine ai rfl (akm hx) ?_;refine cZ ?_;refine ve [5] ?_;refine bA ?_;exact⟨by rw[he],rfl⟩
theorem Mw(Gc:k+m≤255):a_ B w0 191 [ah (k:Int),ah (m:Int)] F (fun v L=>∃A' c',v= .tuple #[vz A' m k (m*k) c',ah 0]∧L= .own 5 1 A' (m*k) c' (bv (Gt k m))::F):=by
 refine fw func191 25 [0,1] ?_;refine be ?_;refine bh fun g2=>?_;refine bc fun g4=>?_;refine bK ?_;refine ai rfl (uP aa) ?_;refine bG ?_;refine ai rfl (uP aa) ?_;refine jk ?_;refine dm fun pV=>?_;refine bK ?_;refine ay rfl (Sa (Q:=[.bE g2 3 [ah (k:Int)]]) (cap:=[br g2]) (agW k) aa aa apl (((NN F).cons_cons _).cons _) (fun i j L hi hj hs=>dL.at_mem (hs.subset (.head _)) fun M=>als aa aa)) fun Bg Di=>?_;refine be ?_;refine ve [4,5] ?_;refine be ?_;refine gQ rfl rfl ag aV gA rfl ((ed (.skip (.skip (.refl _))))) ?_;exact⟨Bg,Di,rfl,rfl⟩
theorem ath{i k:Nat}(hi:i≤100000)(hk:k≤100000):IntKind.i64.wrap (((i:Int)+1)*(k:Int))=((i*k+k:Nat):Int):=by
 rw[show((i:Int)+1)=((i+1:Nat):Int) by omega,EM aa aa,kD]
theorem EH{i:Nat}(hi:i≤100000)(hk:k≤100000)(hc:i*k+k≤c):a_ B w0 308 [vz A r k n c,ah (i:Int)] F (fun v L=>v=G7 A c (i*k) k∧L=F):=by
 refine cm func308 17 rfl rfl rfl [(0,.agg #[ah (r:Int),ah (k:Int),.slice A n c]),(1,ah (i:Int))] ⟨⟨rfl,rfl⟩,⟨rfl,rfl⟩,trivial⟩ ?_;refine be ?_;refine bh fun g2=>?_;refine bB ?_;refine ab (eZ rfl rfl (r:=((i*k:Nat):Int)) (EM aa aa)) rfl ?_;refine b8 ?_;refine ab (eZ rfl rfl (r:=((i*k+k:Nat):Int)) (ath hi hk)) rfl ?_;refine ab (kv (i:=i*k) (j:=i*k+k) (size:=1) underlying27 ag rfl rfl rfl rfl rfl aa aa) rfl ?_;refine b8 ?_;refine aq (.skip (.refl _)) ?_;refine aF ?_;exact⟨rfl,rfl⟩
abbrev amN(A1 A2:bj)(k m n1 n2 c1 c2:Nat):cV:=[ah (k:Int),ah (k:Int),.slice A1 n1 c1,ah (m:Int),ah (k:Int),.slice A2 n2 c2]
theorem ai1(Gc:k+m≤255){x y:al}(hx:x.length=k*k)(hy:y.length=m*k)(hr:aK B w0 F 3 (.slice A 2 c) 2 (amN A1 A2 k m (k*k) (m*k) c1 c2))(h1:aK B w0 F 1 (.slice A1 (k*k) c1) (k*k) (bv x))(h2:aK B w0 F 1 (.slice A2 (m*k) c2) (m*k) (bv y)):
  a_ B w0 310 [.slice A 2 c] F (fun v L=>∃A' c',v= .tuple #[vz A' (k+m) k ((k+m)*k) c',ah 0]∧L= .own 5 1 A' ((k+m)*k) c' (bv (x++y))::F):=by
 have Kk:k*k≤255*255:=gL aa aa;have hmk:m*k≤255*255:=gL aa aa;have wT:(k+m)*k=k*k+m*k:=mL ..;refine fw func310 52 [0] ?_;refine be ?_;refine bc fun g2=>?_;refine bG ?_;refine bc fun g4=>?_;refine b8 ?_;refine aZ 5 1 none ?_;refine bK ?_;refine aE (fun zf zL zm=>∃(i R C N:Nat) (A':bj) (c':Nat) (acc:al),((i=0∧R=0∧C=0∧N=0∧acc=[])∨(i=1∧R=k∧C=k∧N=k*k∧acc=x)∨(i=2∧R=k+m∧C=k∧N=k*k+m*k∧acc=x++y))∧2-i=zm∧Sub zf [(2,br g2),(4,br g4),(7,.slice A 2 c),(8,ah 2),(9,ah (i:Int))]∧Wk zL (.own 5 1 A' N c' (bv acc)::CY g4 A' R C N c':: .bE g2 272 [ah 0,ah 0,.slice none 0 0]::F)) _ ⟨0,0,0,0,none,0,[],.inl ⟨rfl,rfl,rfl,rfl,rfl⟩,rfl,bp,.refl _⟩ ?_;rintro _ _ _ ⟨i,R,C,N,A',c',acc,lj,rfl,hs,hp⟩;refine aU hs hp ?_;clear hs hp;refine bz ?_;refine aj (fun jx=>?_) fun jx=>?_
 ·obtain⟨q,hq⟩:=cK (if i=0 then k else m);obtain⟨Y,hY⟩:=cK (if i=0 then x else y);obtain⟨Aq,cq,fy,hbq⟩:∃(Aq:bj) (cq:Nat),(∀p u,([ah (q:Int),ah (k:Int),.slice Aq (q*k) cq]:cV)[p]? =some u→(amN A1 A2 k m (k*k) (m*k) c1 c2)[i*3+p]? =some u)∧aK B w0 F 1 (.slice Aq (q*k) cq) (q*k) (bv Y):=by
   have hi:i=0∨i=1:=by omega
   rcases hi with rfl|rfl
   ·rw[ao rfl]at hq hY;subst hq;subst hY;exact⟨A1,c1,fun p u h=>by
     rcases p with _|_|_|p
     ·exact h
     ·exact h
     ·exact h
     ·simp at h,h1⟩
   ·rw[aw aa]at hq hY;subst hq;subst hY;exact⟨A2,c2,fun p u h=>by
     rcases p with _|_|_|p
     ·exact h
     ·exact h
     ·exact h
     ·simp at h,h2⟩
  have hql:q≤255:=by rw[hq];split<;>omega
  have hRq:R+q≤255:=by
   rw[hq];rcases lj with h|h|h
   ·rw[ao h.1];omega
   ·rw[aw aa];omega
   ·omega
  have hqk:q*k≤255*255:=gL aa aa;have hNk:N≤255*255+255*255:=by rcases lj with h|h|h<;>omega
  refine bI ?_;refine ab (di (j:=i*3) 3 ag rfl hr.cons.cons.cons aa [ah (q:Int),ah (k:Int),.slice Aq (q*k) cq] fy rfl) rfl ?_;refine bc fun g6=>?_;refine cZ ?_;refine aj (fun kL=>?_) fun kL=>?_
  ·refine cZ ?_;refine ai rfl (yy hql aa rfl) ?_;refine dQ ?_;refine aL rfl rfl rfl (fun r'=>?_) (fun r'=>?_)
   ·refine cH ?_;refine ve [2,4,6,7,8,9,36] ?_;refine aF ?_;refine dm fun y_=>?_;refine bI ?_;refine ab (bX rfl rfl (r:=((R+q:Nat):Int)) ((bF aa aa).trans aa)) rfl ?_;refine bO ?_;refine fM (bT cD rfl aV rfl aA cw aa aa) fun A48 c48=>?_;refine bO ?_;refine av ⟨_,aa,i+1,R+q,k,N+q*k,A48,c48,acc++Y,(by
     rcases lj with h|h|h
     ·refine .inr (.inl ?_);rw[ao h.1]at hq hY;rw[hq,hY,h.2.2.2.2,h.2.1,h.2.2.2.1];exact⟨aa,aa,rfl,aa,rfl⟩
     ·exact absurd kL aa
     ·exact absurd kL aa),rfl,bp,.skip (ax rfl ak (.refl _))⟩
   ·exfalso;omega
  ·have hC:C=k:=by rcases lj with h|h|h<;>omega
   subst hC;refine bz ?_;refine ai rfl (yy hql aa rfl) ?_;refine dQ ?_;refine aL rfl rfl rfl (fun r'=>?_) (fun r'=>?_)
   ·refine cH ?_;refine ve [2,4,6,7,8,9,36] ?_;refine aF ?_;refine dm fun y_=>?_;refine bI ?_;refine ab (bX rfl rfl (r:=((R+q:Nat):Int)) ((bF aa aa).trans aa)) rfl ?_;refine bO ?_;refine fM (bT cD rfl aV rfl aA cw aa aa) fun A48 c48=>?_;refine bO ?_;refine av ⟨_,aa,i+1,R+q,C,N+q*C,A48,c48,acc++Y,(by
     rcases lj with h|h|h
     ·exact absurd h.1 aa
     ·refine .inr (.inr ?_);rw[aw aa]at hq hY;rw[hq,hY,h.2.2.2.2,h.2.2.2.1];exact⟨aa,aa,rfl,rfl,rfl⟩
     ·omega),rfl,bp,.skip (ax rfl ak (.refl _))⟩
   ·exfalso;omega
 ·obtain⟨hi,hR,hC,hN,mI⟩:i=2∧R=k+m∧C=k∧N=k*k+m*k∧acc=x++y:=by
   rcases lj with h|h|h
   ·omega
   ·omega
   ·exact h
  subst hi;subst hR;subst hN;subst mI;refine dc ?_;refine gQ rfl rfl ag aV gA rfl ((ed (.skip (.skip (.refl _))))) ?_;subst hC;exact⟨A',c',by rw[wT],by rw[wT]⟩
theorem SE{at_:bf}{x:al}{i:Nat}(hi:i<at_.length):lz k x (at_.take (i+1))=lz k x (at_.take i)++je k x (at_.getD i 0):=by
 unfold lz;rw[ba hi 0,uf];simp
theorem ang{x:al}{at_:bf}(hr:r≤255)(hk:k≤255)(hx:x.length=r*k)(hl:at_.length≤255)(ha:∀a,a∈at_→a<r)(hb:aK B w0 F 1 (.slice A (r*k) c) (r*k) (bv x))(hba:aK B w0 F 1 (.slice A1 at_.length c1) at_.length (bx at_)):
  a_ B w0 277 [vz A r k (r*k) c,.slice A1 at_.length c1] F (fun v L=>∃A' c',v= .tuple #[vz A' at_.length k (at_.length*k) c',ah 0]∧L= .own 5 1 A' (at_.length*k) c' (bv (lz k x at_))::F):=by
 have hrk:r*k≤255*255:=gL hr hk;refine dL.xk hb fun mm _=>?_;refine cm func277 47 rfl rfl rfl [(0,.agg #[ah (r:Int),ah (k:Int),.slice A (r*k) c]),(1,.slice A1 at_.length c1)] ⟨⟨rfl,rfl⟩,⟨rfl,rfl⟩,trivial⟩ ?_;refine be ?_;refine bh fun g2=>?_;refine bc fun g4=>?_;refine bK ?_;refine ai rfl (yy hr hk rfl) ?_;refine cZ ?_;refine dm fun ki=>?_;refine bI ?_;refine ab (bw [(0,_),(1,_)] [ah 0,ah 0,.slice none 0 0] [0,1] [_,_,_] rfl rfl ag) rfl ?_;refine bc fun g6=>?_;refine bG ?_;refine aZ 5 1 none ?_;refine bK ?_;refine aE (fun zf zL zm=>∃(i:Nat) (A':bj) (c':Nat),(i≤at_.length)∧at_.length-i=zm∧Sub zf [(2,br g2),(4,br g4),(6,br g6),(23,.slice A1 at_.length c1),(24,ah at_.length),(25,ah (i:Int))]∧Wk zL (.own 5 1 A' (i*k) c' (bv (lz k x (at_.take i)))::CY g6 A' at_.length k (i*k) c':: .bE g4 272 [ah 0,ah 0,.slice none 0 0]::CY g2 A r k (r*k) c::F)) _ ⟨0,none,0,bS _,rfl,bp,ax ak (by simp[lz]) (bq ak (.refl _))⟩ ?_;rintro _ _ _ ⟨i,A',c',hi,rfl,hs,hp⟩;refine aU hs hp ?_;clear hs hp;refine bz ?_;refine aj (fun qc=>?_) fun qc=>?_
 ·obtain⟨a,hae⟩:=cK (at_.getD i 0);have har:a<r:=by rw[hae];exact ha _ (bg aa 0)
  have Cc:=fL (k:=k) har;have hps:=SE (k:=k) (x:=x) (show i<at_.length by omega);rw[←hae]at hps;have hik:i*k≤255*255:=gL aa hk;have ra:aK B w0 F 1 (G7 A c (a*k) k) (a*k+k-a*k) (bv (je k x a)):=hb.part Cc;refine bK ?_;refine ab (au ag rfl hba.cons.cons.cons.cons aa (gb (v:=a) aa hae.symm)) rfl ?_;refine bO ?_;refine aL rfl rfl rfl (fun D8=>?_) (fun D8=>?_)
  ·refine bB ?_;refine dm fun y_=>?_;refine be ?_;refine cF (.bE g4 272 [ah 0,ah 0,.slice none 0 0]::CY g2 A r k (r*k) c::F) ?_;refine ae 0 ?_;refine ae 2 ?_;refine ae 3 ?_;refine gS 1 4 ?_ ?_
   ·refine aF ?_;refine az 4 ?_;refine iW rfl rfl (EH aa aa aa) ?_;refine az 5 ?_;refine eV rfl (bT cD rfl aV rfl aA cw aa aa) fun Lr c43=>?_;refine ae 6 ?_;refine az 7 ?_;refine aF ?_;refine cQ [2,4,6,23,24,25] ?_;refine bz ?_;refine av ⟨_,aa,i+1,Lr,c43,aa,rfl,bp,ax (by rw[kD];omega) (by rw[hps];simp) (bq aoQ (.refl _))⟩
   ·refine iW rfl rfl (EH aa aa aa) ?_;refine az 1 ?_;refine aF ?_;refine az 5 ?_;refine eV rfl (bT cD rfl aV rfl aA cw aa aa) fun Lr c43=>?_;refine ae 6 ?_;refine az 7 ?_;refine aF ?_;refine cQ [2,4,6,23,24,25] ?_;refine bz ?_;refine av ⟨_,aa,i+1,Lr,c43,aa,rfl,bp,ax (by rw[kD];omega) (by rw[hps];simp) (bq aoQ (.refl _))⟩
  ·exfalso;omega
 ·obtain rfl:i=at_.length:=by omega
  rw[jS];refine dc ?_;refine gQ rfl rfl ag aV gA rfl ((ed (.skip (.skip (.skip (.refl _)))))) ?_;exact⟨A',c',rfl,rfl⟩
theorem ux{l:al}{n:Nat}{xs:cV}(e1:n=l.length)(e2:xs=bv l)(hb:aK B w0 F 1 (.slice A n c) n xs)(hn:l.length≤1099511627776):
  a_ B w0 36 [.slice A n c] F (fun r L=>∃A' c',r= .slice A' l.length c'∧L= .own 5 1 A' l.length c' (bv l)::F):=by
 subst e1;subst e2;exact me l hb hn
theorem U7{s b:al}{x:UInt8}{n1 n2:Nat}(e1:n1=s.length)(e2:n2=b.length)(hl:s.length=b.length)(hs:aK B w0 F 1 (.slice A n1 c) n1 (bv s))(hb:aK B w0 F 1 (.slice A2 n2 c2) n2 (bv b))(hn:s.length≤1000000000):
  a_ B w0 237 [.slice A n1 c,.int .u8 (x.toNat:Int),.slice A2 n2 c2] F (fun r L=>∃A' c',r= .tuple #[.slice A' s.length c',ah 0]∧L= .own 5 1 A' s.length c' (bv (qY s x b))::F):=by
 subst e1;subst e2;exact ahr hl hs hb hn
theorem zq{x r:al}{i:Nat}(hr:r.length=k):(bv x).take (i*k)++(bv r).take (min r.length (i*k+k-i*k))++(bv x).drop (i*k+min r.length (i*k+k-i*k))=bv (oB k x i r):=by
 have e:min r.length (i*k+k-i*k)=k:=by omega
 rw[e,jX,jX,js,←gl,←gl,fA (l:=r) aa];unfold oB;rw[bV]
theorem Zj{x r:al}{i:Nat}(hx:x.length=N*k)(hi:i<N)(hr:r.length=k):je k (oB k x i r) i=r:=by
 have:=fL (k:=k) hi;unfold je oB;rw[qi bR,pv hr]
theorem Zk{x:al}{i:Nat}(hx:x.length=N*k)(hi:i<N):oB k x i (je k x i)=x:=by
 have:=fL (k:=k) hi;unfold je oB;rw[←qh,jJ,jJ]
theorem adM{x r:al}{i q:Nat}{v:UInt8}(hx:x.length=N*k)(hi:i<N)(hr:r.length=k)(hq:q<k):(bv (oB k x i r)).set (i*k*1+q) (.int .u8 ((v.toNat:Nat):Int))=bv (oB k x i (r.set q v)):=by
 have:=fL (k:=k) hi;unfold oB;rw[cE,gl,gl,wX _ _ bR,List.set_append_left _ _ bR];have e:i*k+q-(bv (x.take (i*k))).length=q:=by simp;omega
 rw[e,gl,gl];congr 2;simp[bv,Kw]
theorem pO{i:Nat}(hw:(cs.drop o).take 3=[ah (r:Int),ah (k:Int),.slice A n c])(hi:i≤100000)(hk:k≤100000)(hc:i*k+k≤c):a_ B w0 331 [.pointer (some ⟨g,o,none⟩),ah (i:Int)] (.bE g bt cs::F) (fun v L=>v=G7 A c (i*k) k∧L= .bE g bt cs::F):=by
 refine fw func331 11 [0,1] ?_;refine bB ?_;refine ab (bY 3 ag rfl aV [ah (r:Int),ah (k:Int),.slice A n c] hw rfl) rfl ?_;refine aF ?_;refine ai rfl (EH hi hk hc) ?_;refine bG ?_;exact⟨rfl,rfl⟩
theorem Xg{x:al}{i j:Nat}(hw:(cs.drop o).take 3=[ah (r:Int),ah (k:Int),.slice A (N*k) c])(hx:x.length=N*k)(hN:N≤255)(hi:i<N)(hj:j<N)(hk:k≤255):
  a_ B w0 332 [.pointer (some ⟨g,o,none⟩),ah (i:Int),ah (j:Int)] (.own 5 1 A (N*k) c (bv x):: .bE g bt cs::F) (fun v L=>v= .tuple #[]∧L= .own 5 1 A (N*k) c (bv (pE k x i j)):: .bE g bt cs::F):=by
 refine dL.xk (aK.own (.head _)) fun mm _=>?_;have h1:=fL (k:=k) hi;have h2:=fL (k:=k) hj;have l1:=eW hx hi;have l2:=eW hx hj;refine fw func332 26 [0,1,2] ?_;refine b8 ?_;refine ai rfl ((pO (i:=i) hw aa aa aa).jf ((l_ (fR (.refl _))))) ?_;refine ay rfl (ux (l:=je k x i) aa rfl ((aK.own (.head _)).part h1) aa) fun tG xl=>?_;refine be ?_;refine ai rfl ((pO (i:=j) hw aa aa aa).jf ((BM (fR (fR (.refl _)))))) ?_;refine ay rfl (ux (l:=je k x j) aa rfl ((aK.own (.tail _ (.head _))).part h2) aa) fun Bf JK=>?_;refine bI ?_;refine ai rfl ((pO (i:=i) hw aa aa aa).jf ((pu3 (fR (fR (fR (.refl _))))))) ?_;refine aF ?_;refine lO (r8 (i:=i*k) (j:=i*k+k) cD (.tl (.tl .hd)) rfl aa aa rfl (aK.own (.head _)) (qz _)) rfl ?_;rintro _ _ ⟨rfl,rfl⟩;refine af7 (.cons (.cons (ax rfl (zq l2) (.refl _)))) ?_;refine bG ?_;refine ai rfl ((pO (i:=j) hw aa aa aa).jf ((pu3 (fR (fR (fR (.refl _))))))) ?_;refine aF ?_;refine lO (r8 (i:=j*k) (j:=j*k+k) cD (.tl (.tl .hd)) rfl aa aa rfl (aK.own (.tail _ (.head _))) (qz _)) rfl ?_;rintro _ _ ⟨rfl,rfl⟩;refine af7 (.cons (.cons (ax rfl (zq l1) (.refl _)))) ?_;refine ve [] ?_;refine aF ?_;refine aq (.skip (.skip (.refl _))) ?_;refine aF ?_;exact⟨rfl,rfl⟩
theorem SQ{row:al}{q:Nat}{x:UInt8}(hq:q<row.length):((row.map (gm x)).take q++row.drop q).set q (gm x (row.getD q 0))=(row.map (gm x)).take (q+1)++row.drop (q+1):=by
 rw[wX _ _ bR,ba (by simpa using hq) 0,dx hq 0];have e:q-((row.map (gm x)).take q).length=0:=by simp;omega
 rw[e,List.set_cons_zero,bV];congr 1;simp[bk,hq]
theorem PN{x:al}{i:Nat}{y:UInt8}(hw:(cs.drop o).take 3=[ah (r:Int),ah (k:Int),.slice A (N*k) c])(hx:x.length=N*k)(hN:N≤255)(hi:i<N)(hk:k≤255):
  a_ B w0 333 [.pointer (some ⟨g,o,none⟩),ah (i:Int),.int .u8 (y.toNat:Int)] (.own 5 1 A (N*k) c (bv x):: .bE g bt cs::F) (fun v L=>v= .tuple #[]∧L= .own 5 1 A (N*k) c (bv (jU k x i y)):: .bE g bt cs::F):=by
 refine dL.xk (aK.own (.head _)) fun mm _=>?_;have h1:=fL (k:=k) hi;have l1:=eW hx hi;obtain⟨row,Cc⟩:=cK (je k x i);have hms:jU k x i y=oB k x i (row.map (gm y)):=by rw[Cc];rfl
 have YM:oB k x i ((row.map (gm y)).take 0++row.drop 0)=x:=by rw[z8,nG,tp,Cc];exact Zk hx hi
 rw[←Cc]at l1;refine fw func333 29 [0,1,2] ?_;refine bA ?_;refine ai rfl (U8 (sC y)) ?_;refine bc fun g6=>?_;refine kN (nV 256 ag rfl rfl (El _ _) aV rfl (BA _)) ?_;refine bz ?_;refine ai rfl ((pO (i:=i) hw aa aa aa).jf ((BM (fR (fR (.refl _)))))) ?_;refine cZ ?_;refine aE (fun zf zL zm=>∃(q:Nat),(q≤k)∧k-q=zm∧Sub zf [(6,br g6),(7,G7 A c (i*k) k),(15,G7 A c (i*k) k),(16,ah ((i*k+k-i*k:Nat):Int)),(17,ah (q:Int))]∧Wk zL (.own 5 1 A (N*k) c (bv (oB k x i ((row.map (gm y)).take q++row.drop q)))::Rwb g6 (yL y.toNat):: .bE g bt cs::F)) _ ⟨0,bS _,rfl,bp,.trans ((gk (ed (ed (.refl _))))) (ax rfl (by rw[YM]) (.refl _))⟩ ?_;rintro _ _ _ ⟨q,hq,rfl,hs,hp⟩;refine aU hs hp ?_;clear hs hp;refine bz ?_;refine aj (fun jj=>?_) fun jj=>?_
 ·obtain⟨R,hR⟩:=cK ((row.map (gm y)).take q++row.drop q);have Ve:R.length=k:=by rw[hR];simp;omega
  have hRm:je k (oB k x i R) i=R:=Zj hx hi Ve;have y':=ry hx hi Ve;have sQ:=SQ (row:=row) (x:=y) (show q<row.length by omega);obtain⟨u,hu⟩:=cK (row.getD q 0);have hRq:R.getD q 0=u:=by rw[hR,hu,bk,bk,sY bR,k_7];congr 2;simp;omega
  have ra:aK B w0 (.own 5 1 A (N*k) c (bv (oB k x i R))::Rwb g6 (yL y.toNat):: .bE g bt cs::F) 1 (G7 A c (i*k) k) (i*k+k-i*k) (bv R):=by
   have:=(aK.own (B:=B) (w0:=w0) (L:=.own 5 1 A (N*k) c (bv (oB k x i R))::Rwb g6 (yL y.toNat):: .bE g bt cs::F) (.head _)).part h1;rw[show((oB k x i R).drop (i*k)).take k=R from hRm]at this;exact this
  have za:=sC u;have hrg:(yL y.toNat).getD u.toNat 0=(((gm y u).toNat:Nat):Int):=by rw[Fh za,iA]
  rw[←hR,←hu]at sQ;rw[←hR];refine bK ?_;refine ab (aC (i:=q) (size:=1) underlying27 ag rfl rfl rfl aa ra) rfl ?_;refine ab (jn ag rfl ra aa) rfl ?_;rw[hRq];refine bI ?_;refine ab (aM (i:=u.toNat) underlying382 ag rfl rfl rfl za) rfl ?_;refine ab (eY ag rfl aV (by rw[Fi];exact za)) rfl ?_;rw[hrg];refine ab (aC (i:=q) (size:=1) underlying27 ag rfl rfl rfl aa ra) rfl ?_;refine kN (GC (q:=q*1) ag rfl rfl rfl .hd aa (by rw[HB,y'];omega)) ?_;refine bK ?_;refine av ⟨_,aa,q+1,aa,rfl,bp,ax rfl (by rw[cE q,adM hx hi Ve aa,sQ]) (.refl _)⟩
 ·obtain rfl:q=k:=by omega
  have tX:(row.map (gm y)).take q++row.drop q=row.map (gm y):=by rw[fA bR,IB aa,gj]
  rw[tX,←hms];refine bG ?_;refine aq ((ed (gk (.skip (.refl _))))) ?_;refine aF ?_;exact⟨rfl,rfl⟩
theorem agb{x:al}{i j:Nat}{y:UInt8}(hw:(cs.drop o).take 3=[ah (r:Int),ah (k:Int),.slice A (N*k) c])(hx:x.length=N*k)(hN:N≤255)(hi:i<N)(hj:j<N)(hk:k≤255):
  a_ B w0 334 [.pointer (some ⟨g,o,none⟩),ah (i:Int),.int .u8 (y.toNat:Int),ah (j:Int)] (.own 5 1 A (N*k) c (bv x):: .bE g bt cs::F) (fun v L=>v= .tuple #[]∧L= .own 5 1 A (N*k) c (bv (ru k x i y j)):: .bE g bt cs::F):=by
 refine dL.xk (aK.own (.head _)) fun mm _=>?_;have h1:=fL (k:=k) hi;have h2:=fL (k:=k) hj;have l1:=eW hx hi;have l2:=eW hx hj;have l3:(qY (je k x i) y (je k x j)).length=k:=by rw[qZ aa];exact l1
 refine fw func334 26 [0,1,2,3] ?_;refine b8 ?_;refine ai rfl ((pO (i:=i) hw aa aa aa).jf ((l_ (fR (.refl _))))) ?_;refine bA ?_;refine ai rfl ((pO (i:=j) hw aa aa aa).jf ((l_ (fR (.refl _))))) ?_;refine ay rfl (U7 (s:=je k x i) (b:=je k x j) aa aa aa ((aK.own (.head _)).part h1) ((aK.own (.head _)).part h2) aa) fun tb uU=>?_;refine bK ?_;have l4:(je k x i).length=(qY (je k x i) y (je k x j)).length:=by omega
 rw[l4];refine bA ?_;refine ai rfl ((pO (i:=i) hw aa aa aa).jf ((BM (fR (fR (.refl _)))))) ?_;refine aF ?_;refine lO (r8 (i:=i*k) (j:=i*k+k) cD (.tl .hd) rfl aa aa rfl (aK.own (.head _)) (qz _)) rfl ?_;rintro _ _ ⟨rfl,rfl⟩;refine af7 (.cons (ax rfl (zq l3) (.refl _))) ?_;refine ve [] ?_;refine aF ?_;refine aq (.skip (.refl _)) ?_;refine aF ?_;exact⟨rfl,rfl⟩
abbrev PrB(g:Nat)(A1 A2:bj)(n c1 c2:Nat):Ch:=.bE g 421 [ah (n:Int),ah (n:Int),.slice A1 (n*n) c1,ah (n:Int),ah (n:Int),.slice A2 (n*n) c2]
theorem ZE{k Lv f i:Nat}{x:al}(h:fH k x i Lv=0):vL k x Lv (f+1) i=vL k x Lv f (i+1):=by rw[vL,ao h]
theorem ZF{k Lv f i:Nat}{x:al}(h:¬fH k x i Lv=0):vL k x Lv (f+1) i=i:=by rw[vL,aw h]
theorem zz{n a:Nat}(ha:a<n):∀(f q:Nat) (p:al×al),q+f≤n→p.1.length=n*n→p.2.length=n*n→(kx n a f q p).1.length=n*n∧(kx n a f q p).2.length=n*n
 |0,q,p,_,h1,h2=>⟨h1,h2⟩
 |f+1,q,p,hq,h1,h2=>by
  rw[kx];split
  ·exact zz ha f (q+1) _ aa (rv h1 ha aa) (rv h2 ha aa)
  ·exact zz ha f (q+1) _ aa h1 h2
theorem Q2{n a f q:Nat}{p:al×al}(h:q≠a∧fH n p.1 q a≠0):kx n a (f+1) q p=kx n a f (q+1) (ru n p.1 q (fH n p.1 q a) a,ru n p.2 q (fH n p.1 q a) a):=by rw[kx,ao h]
theorem DP{n a f q:Nat}{p:al×al}(h:¬(q≠a∧fH n p.1 q a≠0)):kx n a (f+1) q p=kx n a f (q+1) p:=by rw[kx,aw h]
theorem abA{n a:Nat}{p:al×al}(ha:a<n)(h1:p.1.length=n*n)(h2:p.2.length=n*n):(rX n a p).2.1.length=n*n∧(rX n a p).2.2.length=n*n:=by
 unfold rX;split
 ·exact⟨h1,h2⟩
 ·rename_i h;obtain⟨p1,p2,_,_⟩:=rB n p.1 a (n-a) a;have hI:wG n a p<n:=by unfold wG at h⊢;omega
  exact zz ha n 0 _ aa (na (oO h1 ha hI) ha) (na (oO h2 ha hI) ha)
abbrev PrL(g:Nat)(A1 A2:bj)(n c1 c2:Nat)(x y:al)(F:aQ):aQ:=PrB g A1 A2 n c1 c2:: .own 5 1 A1 (n*n) c1 (bv x):: .own 5 1 A2 (n*n) c2 (bv y)::F
set_option maxHeartbeats 1000000 in
theorem ag0{a:Nat}{x y:al}(hn:n≤255)(ha:a<n)(hx:x.length=n*n)(hy:y.length=n*n):
  a_ B w0 312 [br g,ah (a:Int),ah (a:Int)] (PrL g A1 A2 n c1 c2 x y F) (fun v L=>v= .bool (rX n a (x,y)).1∧L=PrL g A1 A2 n c1 c2 (rX n a (x,y)).2.1 (rX n a (x,y)).2.2 F):=by
 refine dL.xk (aK.own (.tail _ (.head _))) fun mm _=>?_;have h1:=fL (k:=n) ha;obtain⟨q1,q2,q3,q4⟩:=rB n x a (n-a) a;have hIe:wG n a (x,y)=vL n x a (n-a) a:=rfl;refine fw func312 117 [0,1,2] ?_;refine cZ ?_;refine d_ (fun zf zL=>∃(i:Nat),(a≤i∧i≤n∧wG n a (x,y)=i)∧Sub zf [(0,br g),(1,ah (a:Int)),(2,ah (a:Int)),(7,ah (i:Int))]∧Wk zL (PrL g A1 A2 n c1 c2 x y F)) ?_ ?_
 ·refine aF ?_;refine aE (fun zf zL zm=>∃(i:Nat),(a≤i∧i≤n∧wG n a (x,y)=vL n x a (n-i) i)∧n-i=zm∧Sub zf [(0,br g),(1,ah (a:Int)),(2,ah (a:Int)),(7,ah (i:Int))]∧Wk zL (PrL g A1 A2 n c1 c2 x y F)) _ ⟨a,⟨gi _,aa,hIe⟩,rfl,bp,.refl _⟩ ?_;rintro _ _ _ ⟨i,⟨hai,YF,hI⟩,rfl,hs,hp⟩;refine aU hs hp ?_;clear hs hp;refine cH ?_;refine cM (fun l0=>?_) fun l0=>?_
  ·have hri:=fL (k:=n) (show i<n by omega);have hnf:n-i=(n-(i+1))+1:=by omega
   have ra:aK B w0 (PrL g A1 A2 n c1 c2 x y F) 1 (G7 A1 c1 (i*n) n) (i*n+n-i*n) (bv (je n x i)):=(aK.own (.tail _ (.head _))).part hri;have fy:(je n x i).getD a 0=fH n x i a:=ly _ _ ha;refine bI ?_;refine ai rfl (pO (i:=i) (o:=0) (r:=n) (n:=n*n) rfl aa aa aa) ?_;refine bA ?_;refine ab (aC (i:=a) (size:=1) underlying27 ag rfl rfl rfl aa ra) rfl ?_;refine aF ?_;refine ab (jn ag rfl ra aa) rfl ?_;rw[fy];refine bA ?_;refine ve [0,1,2,7,31] ?_;refine aF ?_;refine aj (fun D8=>?_) fun D8=>?_
   ·have hz:fH n x i a=0:=ob (by have:=D8;show(fH n x i a).toNat=0;omega);refine bO ?_;refine av ⟨_,aa,i+1,⟨aa,aa,by rw[hI,hnf,ZE hz]⟩,rfl,bp,.refl _⟩
   ·have hz:¬fH n x i a=0:=fun e=>D8 C9;refine b8 ?_;exact bD ⟨i,⟨aa,aa,by rw[hI,hnf,ZF hz]⟩,bp,.refl _⟩
  ·have hie:i=n:=by omega
   refine bO ?_;refine ve [0,1,2,7,31] ?_;refine bz ?_;exact bD ⟨i,⟨aa,aa,by rw[hI,hie,nE,vL]⟩,bp,.refl _⟩
 ·rintro _ _ ⟨i,⟨hai,YF,hI⟩,hs,hp⟩;refine aU hs hp ?_;clear hs hp;refine dc ?_;refine aj (fun GH=>?_) fun GH=>?_
  ·have e:rX n a (x,y)=(false,x,y):=by unfold rX;rw[ao aa]
   refine bI ?_;rw[e];exact⟨rfl,rfl⟩
  ·have hI2:i<n:=by omega
   have e:rX n a (x,y)=(true,QI n a (x,y)):=by unfold rX;rw[aw aa]
   have ex:(JO n a (x,y))=(pE n x a i,pE n y a i):=by unfold JO;rw[hI]
   have LG:=oO hx ha hI2;have NG:=oO hy ha hI2;refine bO ?_;refine ai rfl (.perm (Xg (o:=0) (r:=n) (i:=a) (j:=i) (N:=n) (k:=n) rfl hx hn ha hI2 hn) ((l_ (fR (.refl _))))) ?_;refine bO ?_;refine ai rfl (.perm (Xg (o:=3) (r:=n) (i:=a) (j:=i) (N:=n) (k:=n) rfl hy hn ha hI2 hn) ((BM (l_ (fR (.refl _)))))) ?_;refine ve [0,1,2] ?_;refine be ?_;obtain⟨x1,as9⟩:=cK (pE n x a i);obtain⟨y1,atd⟩:=cK (pE n y a i);rw[←as9]at LG ex⊢;rw[←atd]at NG ex⊢;refine fP ((l_ (l_ (fR (.refl _))))) ?_;have ra:aK B w0 (PrL g A1 A2 n c1 c2 x1 y1 F) 1 (G7 A1 c1 (a*n) n) (a*n+n-a*n) (bv (je n x1 a)):=(aK.own (.tail _ (.head _))).part h1;have fy:(je n x1 a).getD a 0=fH n x1 a a:=ly _ _ ha;obtain⟨y0,hy0⟩:=cK (kM (fH n x1 a a));have atc:q7 (fH n x1 a a).toNat=y0.toNat:=by rw[hy0,wL]
   refine bG ?_;refine ai rfl (pO (i:=a) (o:=0) (r:=n) (n:=n*n) rfl aa aa aa) ?_;refine aF ?_;refine ab (aC (i:=a) (size:=1) underlying27 ag rfl rfl rfl aa ra) rfl ?_;refine ab (jn ag rfl ra aa) rfl ?_;rw[fy];refine ai rfl (akm (sC (fH n x1 a a))) ?_;refine bI ?_;rw[atc];refine bz ?_;refine ai rfl (.perm (PN (o:=0) (r:=n) (i:=a) (y:=y0) (N:=n) (k:=n) rfl LG hn ha hn) ((l_ (fR (.refl _))))) ?_;refine ve [0,1,2,8] ?_;refine bI ?_;refine ai rfl (.perm (PN (o:=3) (r:=n) (i:=a) (y:=y0) (N:=n) (k:=n) rfl NG hn ha hn) ((BM (l_ (fR (.refl _)))))) ?_;refine b8 ?_;refine fP ((l_ (l_ (fR (.refl _))))) ?_;have hs:anv n a (JO n a (x,y))=(jU n x1 a y0,jU n y1 a y0):=by rw[ex,hy0];rfl
   have hc3:QI n a (x,y)=kx n a n 0 (jU n x1 a y0,jU n y1 a y0):=by unfold QI;rw[hs]
   have hx2:=na (c:=y0) LG ha;have RP:=na (c:=y0) NG ha;rw[hc3]at e;refine cZ ?_;refine aE (fun zf zL zm=>∃(q:Nat) (X Y:al),(q≤n∧X.length=n*n∧Y.length=n*n∧rX n a (x,y)=(true,kx n a (n-q) q (X,Y)))∧n-q=zm∧Sub zf [(0,br g),(1,ah (a:Int)),(2,ah (a:Int)),(83,ah (n:Int)),(84,ah (q:Int))]∧Wk zL (PrL g A1 A2 n c1 c2 X Y F)) _ ⟨0,jU n x1 a y0,jU n y1 a y0,⟨bS _,hx2,RP,e⟩,rfl,bp,.refl _⟩ ?_;rintro _ _ _ ⟨q,X,Y,⟨hq,hX,hY,hE⟩,rfl,hs,hp⟩;refine aU hs hp ?_;clear hs hp;refine bz ?_;refine aj (fun h85=>?_) fun h85=>?_
   ·have hrq:=fL (k:=n) (show q<n by omega);have hnf:n-q=(n-(q+1))+1:=by omega
    have ac1:aK B w0 (PrL g A1 A2 n c1 c2 X Y F) 1 (G7 A1 c1 (q*n) n) (q*n+n-q*n) (bv (je n X q)):=(aK.own (.tail _ (.head _))).part hrq;have acL:(je n X q).getD a 0=fH n X q a:=ly _ _ ha;obtain⟨d,hd⟩:=cK (fH n X q a);rw[←hd]at acL;refine jQ ?_;refine ai rfl (pO (i:=q) (o:=0) (r:=n) (n:=n*n) rfl aa aa aa) ?_;refine aF ?_;refine ab (aC (i:=a) (size:=1) underlying27 ag rfl rfl rfl aa ac1) rfl ?_;refine ab (jn ag rfl ac1 aa) rfl ?_;rw[acL];refine bO ?_;refine cM (fun h98=>?_) fun h98=>?_
    ·refine bz ?_;refine aj (fun ap7=>?_) fun ap7=>?_
     ·have sQ:kx n a (n-q) q (X,Y)=kx n a (n-(q+1)) (q+1) (ru n X q d a,ru n Y q d a):=by
       rw[hnf,Q2 ⟨aa,fun k=>ap7 (by rw[hd];show((fH n X q a).toNat:Int)=0;rw[show fH n X q a=0 from k];rfl)⟩];show kx n a _ _ (ru n X q (fH n X q a) a,ru n Y q (fH n X q a) a)=_;rw[←hd]
      have hX2:=rv (c:=d) hX ha (show q<n by omega);have hY2:=rv (c:=d) hY ha (show q<n by omega);refine bI ?_;refine ai rfl (.perm (agb (o:=0) (r:=n) (i:=q) (j:=a) (y:=d) (N:=n) (k:=n) rfl hX hn aa ha hn) ((l_ (fR (.refl _))))) ?_;refine ve [0,1,2,10,11,83,84] ?_;refine bI ?_;refine ai rfl (.perm (agb (o:=3) (r:=n) (i:=q) (j:=a) (y:=d) (N:=n) (k:=n) rfl hY hn aa ha hn) ((BM (l_ (fR (.refl _)))))) ?_;refine bK ?_;refine av ⟨_,aa,q+1,ru n X q d a,ru n Y q d a,⟨aa,hX2,hY2,by rw[hE,sQ]⟩,rfl,bp,(gk (gk (ed (.refl _))))⟩
     ·have sQ:kx n a (n-q) q (X,Y)=kx n a (n-(q+1)) (q+1) (X,Y):=by
       rw[hnf,DP (fun k=>k.2 (by rw[←hd];exact ob (by show d.toNat=0;omega)))]
      refine bz ?_;refine ve [0,1,2,83,84] ?_;refine av ⟨_,aa,q+1,X,Y,⟨aa,hX,hY,by rw[hE,sQ]⟩,rfl,bp,.refl _⟩
    ·have sQ:kx n a (n-q) q (X,Y)=kx n a (n-(q+1)) (q+1) (X,Y):=by
      rw[hnf,DP (fun k=>k.1 aa)]
     refine cZ ?_;refine ve [0,1,2,83,84] ?_;refine av ⟨_,aa,q+1,X,Y,⟨aa,hX,hY,by rw[hE,sQ]⟩,rfl,bp,.refl _⟩
   ·obtain rfl:q=n:=by omega
    rw[nE,kx]at hE;refine cH ?_;rw[hE];exact⟨rfl,rfl⟩
theorem aaH{x:al}(hn:n≤255)(hx:x.length=n*n)(hb:aK B w0 F 1 (.slice A (n*n) c) (n*n) (bv x)):
  a_ B w0 311 [vz A n n (n*n) c] F (fun v L=>∃g A1 c1 A2 c2,v=br g∧L=PrL g A1 A2 n c1 c2 x (NH n) F):=by
 have Qa:n*n≤255*255:=gL hn hn;refine cm func311 17 rfl rfl rfl [(0,.agg #[ah (n:Int),ah (n:Int),.slice A (n*n) c])] ⟨⟨rfl,rfl⟩,trivial⟩ ?_;refine be ?_;refine bh fun g1=>?_;refine bK ?_;refine ay rfl (ux (l:=x) hx.symm rfl hb.cons aa) fun A5 c5=>?_;refine bG ?_;rw[hx];refine fP ((l_ (fR (.refl _)))) ?_;refine cF (CY g1 A5 n n (n*n) c5:: .own 5 1 A5 (n*n) c5 (bv x)::F) ?_;refine ae 0 ?_;refine aW 1 rfl (eG [(0,_)] [_,_,_] rfl rfl ag) ?_;refine ae 2 ?_;refine ae 3 ?_;refine ae 4 ?_;refine ae 5 ?_;refine az 6 ?_;refine b7 rfl rfl (Sa (Q:=[]) (cap:=[]) (fun i j=>if i=j then 1 else 0) hn hn aj0 (NN _) (fun i j L _ _ _=>Oo i j)) fun xh F9=>?_;refine aW 7 rfl (eG [(0,_)] [_,_,_] rfl rfl ag) ?_;refine aW 8 rfl (eG [(0,_),(1,_)] [_,_,_,_,_,_] rfl rfl ag) ?_;refine az 9 ?_;refine cR rfl (UO rfl rfl) fun g16=>?_;refine ae 10 ?_;refine cQ [2] ?_;refine be ?_;refine aq ((ed (rQ (ed (.skip (.refl _)))))) ?_;refine aF ?_;exact⟨g16,A5,c5,xh,F9,rfl,rfl⟩
theorem YV{n f i:Nat}{p:al×al}(h:(rX n i p).1=true):Em n (f+1) i p=Em n f (i+1) (rX n i p).2:=by rw[Em,ao h]
theorem YU{n f i:Nat}{p:al×al}(h:¬(rX n i p).1=true):Em n (f+1) i p=none:=by rw[Em,aw h]
theorem YW{x b:al}(hn:n≤255)(hx:x.length=n*n)(hi:ahT n x=some b)(hb:aK B w0 F 1 (.slice A (n*n) c) (n*n) (bv x)):
  a_ B w0 279 [vz A n n (n*n) c] F (fun v L=>∃A' c',v= .tuple #[vz A' n n (n*n) c',ah 0]∧L= .own 5 1 A' (n*n) c' (bv b)::F):=by
 refine cm func279 36 rfl rfl rfl [(0,.agg #[ah (n:Int),ah (n:Int),.slice A (n*n) c])] ⟨⟨rfl,rfl⟩,trivial⟩ ?_;refine be ?_;refine bh fun g1=>?_;refine bc fun g2=>?_;refine bK ?_;refine ai rfl (yy hn hn rfl) ?_;refine jk ?_;refine dm fun kL=>?_;refine bG ?_;refine aX apz rfl (aaH hn hx hb.cons.cons) rfl ?_;rintro _ _ ⟨gp,Ax,cx,Ay,cy,rfl,cA⟩;obtain rfl:=cA.symm;refine cH ?_;refine aE (fun zf zL zm=>∃(i:Nat) (p:al×al),(i≤n∧p.1.length=n*n∧p.2.length=n*n∧(Em n (n-i) i p).map (·.2)=some b)∧n-i=zm∧Sub zf [(2,br g2),(4,br gp),(20,ah (n:Int)),(21,ah (i:Int))]∧Wk zL (PrL gp Ax Ay n cx cy p.1 p.2 (.bE g2 272 [ah 0,ah 0,.slice none 0 0]::CY g1 A n n (n*n) c::F))) _ ⟨0,(x,NH n),⟨bS _,hx,Vq n,hi⟩,rfl,bp,.refl _⟩ ?_;rintro _ _ _ ⟨i,p,⟨YF,Ca,hp2,hI⟩,rfl,hs,hp⟩;refine aU hs hp ?_;clear hs hp;refine bz ?_;refine aj (fun rN=>?_) fun rN=>?_
 ·have hnf:n-i=(n-(i+1))+1:=by omega
  have tB:=abA (p:=p) (show i<n by omega) Ca hp2;refine jk ?_;refine ai rfl (ag0 (x:=p.1) (y:=p.2) hn aa Ca hp2) ?_;refine ab (iR rfl) rfl ?_;refine be ?_;refine gZ (fun qF=>?_) fun qF=>?_
  ·exfalso;(rw[hnf,YU (by simpa using qF)]at hI;simp at hI)
  ·rw[hnf,YV (by simpa using qF)]at hI;refine bK ?_;refine av ⟨_,aa,i+1,(rX n i p).2,⟨aa,tB.1,tB.2,hI⟩,rfl,bp,.refl _⟩
 ·obtain rfl:i=n:=by omega
  have LC:p.2=b:=by
   rw[nE,Em]at hI;exact N0 hI
  rw[LC];refine cZ ?_;refine ab (bY 3 ag rfl aV [ah (i:Int),ah (i:Int),.slice Ay (i*i) cy] rfl rfl) rfl ?_;refine bG ?_;refine gQ rfl rfl ag aV gA rfl ((rQ (.skip (.skip (.skip (.skip (.refl _))))))) ?_;exact⟨Ay,cy,rfl,rfl⟩
section
theorem Dy{C:Cx}{fr:Fr}{L:aQ}{x:Operand}{ty t e:TypeId}{A:bj}{n c:Nat}(ht:C.P.underlying t=some (.slice e))(h:ev fr x=some (.slice A n c)):gF C fr L (.call {callee:=.builtin .cap,args:= #[x],argTypes:= #[t]}) ty (ah (c:Int)):=fun a w ha hw d pos af g=>by
 simp[execOp,resolve,invoke,builtin,Builtin.cap_,ha.tmp h,iP ht,goInt]
theorem abU{C:Cx}{fr:Fr}{L:aQ}{x y:Operand}{ty t xt e:TypeId}{size bytes m:Nat}{zv:Value}{k kn:IntKind}(T:sJ C.P t e size bytes zv)(hx:C.P.underlying xt=some (.int kn))(he:ev fr x=some (.slice none 0 0))(hy:ev fr y=some (.int k (m:Int)))(hm:0<m)(hs:0<size)(hb:m*bytes≤140737488355328)(Lz:m≤140737488355328):
  qx C fr L (.call {callee:=.builtin .append,args:= #[x,y],argTypes:= #[t,xt]}) ty (fun p L'=>∃A c,p= .slice A m c∧L'= .own e size A 0 c []::L):=fun a w ha hw d pos af gg=>by
 obtain⟨i,hi,hz,iZ,Ea⟩:=T.hi;have hr:=Lib.run_append_nil_zeros (P:=C.P) w t xt ty e i zv k kn T.ht hx hi hz m hm aa aa (by rw[Ea];omega);have wN:=grownCap_ge w m 0 e;have hle:=grownCap_le_maxLen w m 0 e Bj;have Vh:∀(o:Obj) (row:Option Nat),w.grownBy (w.drew.alloc o) row:=fun o row=>⟨rfl,rfl,rfl,ak,fun k hk _=>heap_alloc_old w.drew o hk⟩
 refine⟨_,w.drew.alloc (.cells (Builtin.zeroCells zv.cells m++Builtin.zeroCells zv.cells (grownCap w m 0 e-m)) e),_,.inl ?_,⟨some ⟨w.heap.size,0,none⟩,grownCap w m 0 e,rfl,rfl⟩,hw.gI (Vh _ none) ⟨ak,bS _,.inr ⟨w.heap.size,_,rfl,hw.base,Ev w.drew _,hle,?_,ak⟩⟩ (.inr ⟨w.heap.size,by simp[Ch.fp];omega,gi _⟩)⟩
 ·simp[execOp,resolve,invoke,builtin,ha.tmp he,ha.tmp hy,hr]
 ·simp only[Array.size_append,size_zeroCells,T.hz,←mL];congr 1;omega
variable{B:Nat}{w0:World}{F L0:aQ}{A A1 A2 Ao:bj}{n c c1 c2 co g gc r k m N:Nat}
theorem aix(m:Nat)(h0:0<m)(hn:m≤1000000):
  a_ B w0 313 [.slice none 0 0,ah m] F (fun r L=>∃A' c',r= .slice A' 0 c'∧L= .own 27 1 A' 0 c' []::F):=by
 refine fw func313 27 [0,1] ?_;refine cH ?_;refine dm fun h6=>?_;refine bK ?_;refine ab (Dy underlying52 rfl) rfl ?_;refine bA ?_;refine ab (dw rfl rfl (r:=(m:Int)) ((bF aa aa).trans aa)) rfl ?_;refine bO ?_;refine zH fun ki=>?_;refine bA ?_;refine ab (Dy underlying52 rfl) rfl ?_;refine ab (bN (i:=0) (size:=1) underlying52 ag rfl rfl rfl aa) rfl ?_;refine aF ?_;refine fM (abU (m:=m) fE underlying3 rfl rfl h0 aa aa aa) fun A22 c22=>?_;refine be ?_;refine ab (bN (i:=0) (size:=1) underlying52 ag rfl rfl rfl aa) rfl ?_;refine aF ?_;refine ve [0] ?_;refine bO ?_;exact⟨A22,c22,rfl,rfl⟩
theorem ZD{n1 n2:Nat}{V1 V2:cV}(hr:aK B w0 F 1 (.slice A 2 c) 2 [.slice A1 n1 c1,.slice A2 n2 c2])(h1:aK B w0 F 1 (.slice A1 n1 c1) n1 V1)(h2:aK B w0 F 1 (.slice A2 n2 c2) n2 V2)(k1:∀u∈V1,u.oneCell'=true)(k2:∀u∈V2,u.oneCell'=true)(h0:0<n1)(hn1:n1≤10000)(tY:n2≤10000):
  a_ B w0 280 [.slice A 2 c] F (fun r L=>∃A' c',r= .slice A' (n1+n2) c'∧L= .own 27 1 A' (n1+n2) c' (V1++V2)::F):=by
 refine fw func280 36 [0] ?_;refine zI ?_;refine aE (fun zf zL zm=>∃(i q:Nat),((i=0∧q=0)∨(i=1∧q=n1)∨(i=2∧q=n1+n2))∧2-i=zm∧Sub zf [(0,.slice A 2 c),(3,ah (q:Int)),(9,.slice A 2 c),(10,ah 2),(11,ah (i:Int))]∧Wk zL (F)) _ ⟨0,0,.inl ⟨rfl,rfl⟩,rfl,bp,.refl _⟩ ?_;rintro _ _ _ ⟨i,q,lj,rfl,hs,hp⟩;refine aU hs hp ?_;clear hs hp;refine bz ?_;refine aj (fun mD=>?_) fun mD=>?_
 ·obtain⟨Ai,ni,ci,fy,hni⟩:∃(Ai:bj) (ni ci:Nat),([.slice A1 n1 c1,.slice A2 n2 c2]:cV)[i*1]? =some (.slice Ai ni ci)∧ni=(if i=0 then n1 else n2):=by
   have:i=0∨i=1:=by omega
   rcases this with rfl|rfl
   ·exact⟨A1,n1,c1,rfl,rfl⟩
   ·exact⟨A2,n2,c2,rfl,rfl⟩
  have aue:ni≤10000:=by rw[hni];split<;>omega
  refine bK ?_;refine ab (au ag rfl aA aa fy) rfl ?_;refine bI ?_;refine ab (bX rfl rfl (r:=((q+ni:Nat):Int)) ((bF aa aa).trans aa)) rfl ?_;refine bO ?_;refine dm fun iM=>?_;refine bK ?_;refine av ⟨_,aa,i+1,q+ni,(by
   rcases lj with h|h|h
   ·rw[ao h.1]at hni;exact .inr (.inl ⟨aa,aa⟩)
   ·rw[aw aa]at hni;exact .inr (.inr ⟨aa,aa⟩)
   ·omega),rfl,bp,.refl _⟩
 ·obtain rfl:q=n1+n2:=by omega
  refine bI ?_;refine ay rfl (aix (n1+n2) aa aa) fun Bg Di=>?_;refine cH ?_;refine aE (fun zf zL zm=>∃(i q:Nat) (A':bj) (c':Nat) (acc:cV),((i=0∧q=0∧acc=[])∨(i=1∧q=n1∧acc=V1)∨(i=2∧q=n1+n2∧acc=V1++V2))∧2-i=zm∧Sub zf [(6,.slice A' q c'),(25,.slice A 2 c),(26,ah 2),(27,ah (i:Int))]∧Wk zL (.own 27 1 A' q c' acc::F)) _ ⟨0,0,Bg,Di,[],.inl ⟨rfl,rfl,rfl⟩,rfl,bp,.refl _⟩ ?_;rintro _ _ _ ⟨i,q,A',c',acc,aqx,rfl,hs,hp⟩;refine aU hs hp ?_;clear hs hp;refine bz ?_;refine aj (fun qF=>?_) fun qF=>?_
  ·obtain⟨Ai,ni,ci,V,fy,hV,hb,hk,hni,hVe⟩:∃(Ai:bj) (ni ci:Nat) (V:cV),([.slice A1 n1 c1,.slice A2 n2 c2]:cV)[i*1]? =some (.slice Ai ni ci)∧V=(if i=0 then V1 else V2)∧aK B w0 F 1 (.slice Ai ni ci) ni V∧(∀u∈V,u.oneCell'=true)∧ni=(if i=0 then n1 else n2)∧ni≤10000:=by
    have:i=0∨i=1:=by omega
    rcases this with rfl|rfl
    ·exact⟨A1,n1,c1,V1,rfl,rfl,h1,k1,rfl,hn1⟩
    ·exact⟨A2,n2,c2,V2,rfl,rfl,h2,k2,rfl,tY⟩
   refine bK ?_;refine ab (au ag rfl aA aa fy) rfl ?_;refine bz ?_;refine fM (bT fE rfl aV rfl (hb.cons) hk aa aa) fun PS c33=>?_;refine bI ?_;refine av ⟨_,aa,i+1,q+ni,PS,c33,acc++V,(by
    rcases aqx with h|h|h
    ·rw[ao h.1]at hni hV;rw[hV,h.2.2];exact .inr (.inl ⟨aa,aa,rfl⟩)
    ·rw[aw aa]at hni hV;rw[hV,h.2.2];exact .inr (.inr ⟨aa,aa,rfl⟩)
    ·omega),rfl,bp,.refl _⟩
  ·obtain⟨rfl,mI⟩:q=n1+n2∧acc=V1++V2:=by
    rcases aqx with h|h|h
    ·omega
    ·omega
    ·exact⟨h.2.1,h.2.2⟩
   subst mI;refine dc ?_;exact⟨A',c',rfl,rfl⟩
theorem Wu(hk:1≤k)(Gc:k+m≤255):a_ B w0 189 [ah (k:Int),ah (m:Int)] F (fun v L=>v= .bool true∧L=F):=by
 refine fw func189 25 [0,1] ?_;refine bB ?_;refine cM (fun h7=>?_) fun h7=>?_
 ·refine bG ?_;refine cM (fun pn=>?_) fun pn=>?_
  ·refine bG ?_;refine cM (fun kL=>?_) fun kL=>?_
   ·refine bG ?_;refine cM (fun pV=>?_) fun pV=>?_
    ·refine bO ?_;refine ve [4] ?_;refine bA ?_;exact⟨aa',rfl⟩
    ·exfalso;omega
   ·exfalso;omega
  ·exfalso;omega
 ·exfalso;omega
abbrev iQ:kS:=(none,0,[])
theorem G2{PB:List kS}{i:Nat}(h:i<PB.length):(PB.map dq)[i*1]? =some (dq (PB.getD i iQ)):=by
 simp[bk,fm h]
theorem EV{PB:List kS}{i:Nat}:(PB.map (·.2.2)).getD i []=(PB.getD i iQ).2.2:=by
 simp only[bk,jq];cases PB[i]? <;>rfl
theorem phd{PB:List kS}:Im (PB.map (·.2.2))=(PB.getD 0 iQ).2.2.length:=by
 cases PB<;>rfl
theorem E4{PB:List kS}:∀u∈PB.map dq,u.oneCell'=true:=fun u hu=>by
 obtain⟨e,_,rfl⟩:=pQ.1 hu;rfl
theorem I6{PB:List kS}(hb:aK B w0 F 1 (.slice A PB.length c) PB.length (PB.map dq))(hl:PB.length≤1000000):
  a_ B w0 190 [.slice A PB.length c] F (fun v L=>v= .bool (decide (rS (PB.map (·.2.2))))∧L=F):=by
 refine fw func190 19 [0] ?_;refine dQ ?_;refine aE (fun zf zL zm=>∃(i:Nat),(i≤PB.length∧∀j,j<i→(PB.getD j iQ).2.2.length=(PB.getD 0 iQ).2.2.length)∧PB.length-i=zm∧Sub zf [(0,.slice A PB.length c),(5,.slice A PB.length c),(6,ah PB.length),(7,ah (i:Int))]∧Wk zL (F)) _ ⟨0,⟨bS _,fun j hj=>aa⟩,rfl,bp,.refl _⟩ ?_;rintro _ _ _ ⟨i,⟨hi,D_⟩,rfl,hs,hp⟩;refine aU hs hp ?_;clear hs hp;refine bz ?_;refine aj (fun h8=>?_) fun h8=>?_
 ·have hg:=G2 (PB:=PB) (i:=i) aa;have hg0:=G2 (PB:=PB) (i:=0) aa;have pW:=bg (l:=PB) (show i<PB.length by omega) iQ;refine bK ?_;refine ab (au ag rfl aA aa hg) rfl ?_;refine bI ?_;refine ab (aC (i:=0) (size:=1) underlying52 ag rfl rfl rfl aa aA) rfl ?_;refine ab (au ag rfl aA aa hg0) rfl ?_;refine b8 ?_;refine aj (fun iF=>?_) fun iF=>?_
  ·refine cH ?_;have hn:¬rS (PB.map (·.2.2)):=fun k=>by
    have:=k _ (jb (f:=fun e:kS=>e.2.2) pW);rw[phd]at this;exact iF aa
   exact⟨by rw[lu hn],rfl⟩
  ·refine bK ?_;refine av ⟨_,aa,i+1,⟨aa,fun j hj=>by
    by_cases e:j=i
    ·subst e;omega
    ·exact D_ j aa⟩,rfl,bp,.refl _⟩
 ·refine cH ?_;have hp:rS (PB.map (·.2.2)):=fun b oL=>by
   obtain⟨e,he,rfl⟩:=pQ.1 oL;obtain⟨j,hj,rfl⟩:=j0 he;have:=D_ j aa;rw[phd,←this,bk,fm hj];rfl
  exact⟨by rw[jT hp],rfl⟩
theorem Be{α β:Type}:∀(a:List α) (b:List β) (i:Nat),(a.take i).zip (b.take i)=(a.zip b).take i
 |_,_,0=>by simp
 |[],_,_+1=>by simp
 |_::_,[],_+1=>by simp
 |x::a,y::b,i+1=>by simp[Be a b i]
theorem aae{n:Nat}{row:al}{data:eH}{j:Nat}(h1:j<row.length)(h2:j<data.length):
  K_ n (row.take (j+1)) (data.take (j+1))=if row.getD j 0=0 then K_ n (row.take j) (data.take j) else qY (K_ n (row.take j) (data.take j)) (row.getD j 0) (data.getD j []):=by
 unfold K_;rw[Be,Be,ba bR ((0:UInt8),([]:al)),List.foldl_append];have e:(row.zip data).getD j ((0:UInt8),([]:al))=(row.getD j 0,data.getD j []):=by
  simp[bk,fm (show j<(row.zip data).length by simp;omega),fm h1,fm h2]
 rw[e];rfl
def PtA(l:eH)(e:Option Int)(F:aQ)(v:Value)(L:aQ):Prop:=
 ∃(A':bj) (c':Nat) (FB:List kS),v=(match e with|some x=>.tuple #[.slice A' FB.length c',ah x]|none=>.slice A' FB.length c')∧L= .own 27 1 A' FB.length c' (FB.map dq)::(FB.map fq++F)∧FB.map (·.2.2)=l
theorem anw{FB:List kS}{r i:Nat}{v:Value}(h:FB.length=i)(hi:i<r):(FB.map dq++List.replicate (r-i) (Value.slice none 0 0)).set (i*1) v=FB.map dq++(v::List.replicate (r-(i+1)) (Value.slice none 0 0)):=by
 subst h;rw[show r-FB.length=(r-(FB.length+1))+1 by omega,zU,cE,wX _ _ ak];simp
theorem I8{PB:List kS}{cells:al}{nn:Nat}(hk:PB.length=k)(xp:1≤k)(hr:r≤255)(Ir:k≤255)(tB:cells.length=r*k)(Qa:nn≤1000000000)(Is:∀e∈PB,e.2.2.length=nn)(hc:aK B w0 F 1 (.slice A (r*k) c) (r*k) (bv cells))(hb:aK B w0 F 1 (.slice A2 PB.length c2) PB.length (PB.map dq))(hP:∀e∈PB,aK B w0 F 1 (dq e) e.2.2.length (bv e.2.2)):
  a_ B w0 192 [vz A r k (r*k) c,.slice A2 PB.length c2] F (PtA (WY r k cells (PB.map (·.2.2)) nn) none F):=by
 have hg0:=G2 (PB:=PB) (i:=0) aa;have hl0:(PB.getD 0 iQ).2.2.length=nn:=Is _ (bg aa iQ);obtain⟨P0,hP0⟩:=cK (PB.getD 0 iQ);rw[←hP0]at hg0 hl0;refine cm func192 57 rfl rfl rfl [(0,.agg #[ah (r:Int),ah (k:Int),.slice A (r*k) c]),(1,.slice A2 PB.length c2)] ⟨⟨rfl,rfl⟩,⟨rfl,rfl⟩,trivial⟩ ?_;refine be ?_;refine bh fun g2=>?_;refine bK ?_;refine cC (fb (nn:=r) (cc:=r) fE rfl rfl rfl rfl rfl aa aa aa) fun xh=>?_;refine cH ?_;refine aE (fun zf zL zm=>∃(i:Nat) (FB:List kS),(i≤r∧FB.length=i∧FB.map (·.2.2)=(WY r k cells (PB.map (·.2.2)) nn).take i)∧r-i=zm∧Sub zf [(1,.slice A2 PB.length c2),(2,br g2),(5,.slice xh r r),(15,ah r),(16,ah (i:Int))]∧Wk zL (.own 27 1 xh r r (FB.map dq++List.replicate (r-i) (.slice none 0 0))::CY g2 A r k (r*k) c::(FB.map fq++F))) _ ⟨0,[],⟨bS _,rfl,rfl⟩,rfl,bp,.refl _⟩ ?_;rintro _ _ _ ⟨i,FB,⟨hi,Rg,sP⟩,rfl,hs,hp⟩;refine aU hs hp ?_;clear hs hp;refine bz ?_;refine aj (fun iF=>?_) fun iF=>?_
 ·have Cc:=eW tB (show i<r by omega);have hrl:=fL (k:=k) (show i<r by omega);have hrk:r*k≤255*255:=gL hr Ir;have hbF:aK B w0 (FB.map fq++F) 1 (.slice A2 PB.length c2) PB.length (PB.map dq):=hb.mono (gx _ _);have hcF:aK B w0 (FB.map fq++F) 1 (.slice A (r*k) c) (r*k) (bv cells):=hc.mono (gx _ _);refine dc ?_;refine ab (aC (i:=0) (size:=1) underlying52 ag rfl rfl rfl aa hbF.cons.cons) rfl ?_;refine ab (au ag rfl hbF.cons.cons aa hg0) rfl ?_;refine aF ?_;refine cC (fb cD rfl rfl rfl rfl rfl aa aa aa) fun A23=>?_;rw[hl0];have aum:(List.replicate nn (0:UInt8)).length=nn:=by simp
  refine cH ?_;refine aE (fun zf zL zm=>∃(j:Nat) (As:bj) (cs:Nat) (S:al),(j≤k∧S.length=nn∧S=K_ nn ((je k cells i).take j) ((PB.map (·.2.2)).take j))∧k-j=zm∧Sub zf [(1,.slice A2 PB.length c2),(2,br g2),(5,.slice xh r r),(6,ah (i:Int)),(7,.slice As S.length cs),(15,ah r),(16,ah (i:Int)),(24,.slice A2 PB.length c2),(25,ah PB.length),(26,ah (j:Int))]∧Wk zL (fq (As,cs,S):: .own 27 1 xh r r (FB.map dq++List.replicate (r-i) (.slice none 0 0))::CY g2 A r k (r*k) c::(FB.map fq++F))) _ ⟨0,A23,nn,List.replicate nn 0,⟨bS _,ak,by simp[K_]⟩,rfl,bp,ax ak Bl (.refl _)⟩ ?_;rintro _ _ _ ⟨j,As,cs,S,⟨hj,Yv,hS⟩,rfl,hs,hp⟩;refine aU hs hp ?_;clear hs hp;refine bz ?_;refine aj (fun kg=>?_) fun kg=>?_
  ·have hg:=G2 (PB:=PB) (i:=j) aa;have pW:=bg (l:=PB) (show j<PB.length by omega) iQ;have hTs:=aae (n:=nn) (row:=je k cells i) (data:=PB.map (·.2.2)) (j:=j) aa bR;rw[ly _ _ aa,EV,←hS]at hTs;obtain⟨P,hPe⟩:=cK (PB.getD j iQ);rw[←hPe]at hg pW hTs;have hlP:=Is P pW;have hbP:aK B w0 (FB.map fq++F) 1 (dq P) P.2.2.length (bv P.2.2):=(hP P pW).mono (gx _ _);obtain⟨x,hx⟩:=cK (fH k cells i j);have hx2:cells.getD (i*k+j) 0=x:=hx.symm;have Iq:i*k+j<r*k:=by omega
   rw[←hx]at hTs;refine bI ?_;refine ab (au ag rfl hbF.cons.cons.cons aa hg) rfl ?_;refine cZ ?_;refine ab (eZ rfl rfl (r:=((i*k:Nat):Int)) (EM aa aa)) rfl ?_;refine aF ?_;refine ab (bX rfl rfl (r:=((i*k+j:Nat):Int)) ((bF aa aa).trans aa)) rfl ?_;refine ab (aC (i:=i*k+j) (size:=1) underlying27 ag rfl rfl rfl Iq hcF.cons.cons.cons) rfl ?_;refine ab (jn ag rfl hcF.cons.cons.cons Iq) rfl ?_;rw[hx2];refine bO ?_;refine aj (fun h42=>?_) fun h42=>?_
   ·have YM:¬x=0:=fun e=>h42 C9;rw[aw YM]at hTs;have GM:(qY S x P.2.2).length=S.length:=qZ aa;refine b8 ?_;refine ay rfl (U7 (s:=S) (b:=P.2.2) rfl rfl aa (aK.own (.head _)) hbP.cons.cons.cons aa) fun A47 c47=>?_;refine b8 ?_;refine ve [1,2,5,6,7,15,16,24,25,26] ?_;refine bz ?_;refine av ⟨_,aa,j+1,A47,c47,qY S x P.2.2,⟨aa,aa,hTs.symm⟩,rfl,bp,.trans ((ed (gk (gk (.skip (.refl _)))))) (ax GM.symm rfl (.refl _))⟩
   ·have YM:x=0:=ob (by show x.toNat=0;omega);rw[ao YM]at hTs;refine bz ?_;refine ve [1,2,5,6,7,15,16,24,25,26] ?_;refine av ⟨_,aa,j+1,As,cs,S,⟨aa,Yv,hTs.symm⟩,rfl,bp,.refl _⟩
  ·obtain rfl:j=PB.length:=by omega
   have Nu:S=K_ nn (je k cells i) (PB.map (·.2.2)):=by rw[hS,fA aa,fA ak]
   have hts:(WY r k cells (PB.map (·.2.2)) nn).take (i+1)=(WY r k cells (PB.map (·.2.2)) nn).take i++[S]:=by
    rw[ba (by rw[pM];omega) [],Nu];congr 2;unfold WY;rw[bk,jq,ye aa];rfl
   refine bO ?_;refine ab (aC (i:=i) (size:=1) underlying52 ag rfl rfl rfl aa (aK.own (.tail _ (.head _)))) rfl ?_;refine kN (iK ag rfl rfl rfl aV bR) ?_;refine bK ?_;refine av ⟨_,aa,i+1,FB++[((As,cs,S):kS)],⟨aa,bR,by rw[ja,sP,hts];rfl⟩,rfl,bp,.trans (qv (e:=((As,cs,S):kS)) [.own 27 1 xh r r _,CY g2 A r k (r*k) c]) (ax rfl (by rw[anw Rg aa];simp) (.refl _))⟩
 ·obtain rfl:i=r:=by omega
  rw[fA (by rw[pM];omega)]at sP;refine cH ?_;refine aq (L':=.own 27 1 xh FB.length i (FB.map dq)::(FB.map fq++F)) (ax Rg.symm ak (.skip (.refl _))) ?_;refine aF ?_;exact⟨xh,i,FB,by rw[Rg],rfl,sP⟩
theorem OH{PB:List kS}{nn:Nat}(hk:PB.length=k)(xp:1≤k)(Gc:k+m≤255)(Qa:nn≤1000000000)(Is:∀e∈PB,e.2.2.length=nn)(hb:aK B w0 F 1 (.slice A2 PB.length c2) PB.length (PB.map dq))(hP:∀e∈PB,aK B w0 F 1 (dq e) e.2.2.length (bv e.2.2)):
  a_ B w0 122 [ah (m:Int),.slice A2 PB.length c2] F (PtA (par m (PB.map (·.2.2))) (some 0) F):=by
 have D_:rS (PB.map (·.2.2)):=fun b oL=>by
  obtain⟨e,he,rfl⟩:=pQ.1 oL;rw[phd,Is e he,Is _ (bg aa iQ)]
 have asU:par m (PB.map (·.2.2))=WY m k (Gt k m) (PB.map (·.2.2)) nn:=by
  unfold par;rw[phd,Is _ (bg aa iQ),eK,hk]
 subst hk;rw[asU];refine fw func122 28 [0,1] ?_;refine cH ?_;refine ai rfl (Wu xp Gc) ?_;refine bG ?_;refine ai rfl (I6 hb aa) ?_;refine bG ?_;refine aj (fun iF=>?_) fun iF=>?_
 ·exfalso;exact iF D_
 ·refine bK ?_;refine ay rfl (Mw Gc) fun A22 c22=>?_;refine bA ?_;refine bc fun g6=>?_;refine be ?_;refine ve [1,6] ?_;refine bG ?_;refine aX ajU rfl (I8 (cells:=Gt PB.length m) rfl xp aa aa (Mv _ _) Qa Is (aK.own (.tail _ (.head _))) hb.cons.cons (fun e he=>(hP e he).cons.cons)) rfl ?_;rintro _ _ ⟨Hc,Ms,FB,rfl,cA,sP⟩;obtain rfl:=cA.symm;refine bG ?_;refine aq (.cons (Li (.skip (.skip (.refl _))) _)) ?_;refine aF ?_;exact⟨Hc,Ms,FB,rfl,rfl,sP⟩
end
section
theorem pf{C:Cx}{fr:Fr}{L:aQ}{x:Operand}{ty t:TypeId}{fs:Array Field}{i j:Nat}{fd:Field}{ad:Addr}(ht:C.P.underlying t=some (.struct fs))(hf:fs[i]? =some fd)(hz:Bx C.P fd.type=true)(he:ev fr x=some (.pointer ((some ad).map (·.add j)))){q:Nat}(hq:fd.offset=q):
  gF C fr L (.fieldAddr t x i) ty (.pointer ((some ad).map (fun ad=>(ad.add j).add q))):=by
 unfold Bx at hz;cases hi:C.P.info? fd.type with
 |none=>rw[hi]at hz;cases hz
 |some f=>
  rw[hi]at hz;have h0:0<f.size:=by simpa[Nat.blt_eq]using hz
  have vG:(C.P.info? fd.type).map (·.size)=some ((f.size-1)+1):=by rw[hi];simp;omega
  intro a w ha hw d pos af gg;subst hq;simp[execOp,Instr.fieldAt,Instr.sureAddr,fieldPlace,ha.tmp he,iP ht,hf,GR vG]
theorem alr{ns:bf}{xs:cV}(e1:n=ns.length)(e2:xs=bx ns)(hb:aK B w0 F 1 (.slice A n c) n xs)(hl:ns.length≤1099511627776)(hs:ns.sum≤1000000000000000):
  a_ B w0 92 [.slice A n c] F (fun r L=>r=ah (ns.sum:Nat)∧L=F):=by
 subst e1;subst e2;exact Dg hb hl hs
theorem abf{ns:bf}{k:Nat}(hk:k≤ns.length)(hc:ns.length≤c)(hb:aK B w0 (Bo g (.slice A ns.length c) v1 v2 v3 v4 v5 v6 v7 v8 v9::F) 1 (.slice A ns.length c) ns.length (bx ns))(hl:ns.length≤1000000)(hs:ns.sum≤1000000):
  a_ B w0 232 [br g,ah (k:Int)] (Bo g (.slice A ns.length c) v1 v2 v3 v4 v5 v6 v7 v8 v9::F) (fun r L=>r=ah ((ns.take k).sum:Nat)∧L=Bo g (.slice A ns.length c) v1 v2 v3 v4 v5 v6 v7 v8 v9::F):=by
 have ua:=nQ ns k;have hh:=hb.iY (k:=k) hk;have e:(bx ns).take (k*1)=bx (ns.take k):=by rw[cE];simp[bx,pt]
 refine fw func232 12 [0,1] ?_;refine cH ?_;refine ab (bN (i:=k) (size:=1) underlying53 ag rfl rfl rfl aa) rfl ?_;refine ai rfl (alr (ns:=ns.take k) nx e hh nx aa) ?_;refine bG ?_;exact⟨rfl,rfl⟩
theorem AR(r:aI)(L:List aI):dh (r::L)=aI.cells r++dh L:=by simp[dh]
theorem OR(L:List aI):(dh L).length=L.length*4:=by
 induction L with
 |nil=>rfl
 |cons r L ih=>rw[AR,aY,ih,ef];simp[aI.cells];omega
def Fo(ts:bf)(lv:al)(a:Nat)(L:List aI)(i:Nat):List aI:=(pJ ts lv a L).take i++L.drop i
theorem kQ(ts:bf)(lv:al)(a:Nat)(L:List aI):(pJ ts lv a L).length=L.length:=by simp[pJ]
theorem O3(ts:bf)(lv:al)(a:Nat)(L:List aI){i:Nat}(h:i≤L.length):(Fo ts lv a L i).length=L.length:=by
 unfold Fo;rw[aY,eS,kQ,iG];omega
theorem SR{ts:bf}{lv:al}{a:Nat}{L:List aI}{i:Nat}(h:i<L.length):
  Fo ts lv a L i=(pJ ts lv a L).take i++(recAt L i::L.drop (i+1))∧Fo ts lv a L (i+1)=(pJ ts lv a L).take i++((ts.getD (a+i) 0,lv.getD (a+i) 0,(recAt L i).2.2.1,(recAt L i).2.2.2)::L.drop (i+1)):=by
 have hl:=kQ ts lv a L;unfold Fo;refine⟨by rw[dx h (0,0,[],[])];rfl,?_⟩;rw[ba aa (0,0,[],[]),bV];congr 1;have:(pJ ts lv a L).getD i (0,0,[],[])=(ts.getD (a+i) 0,lv.getD (a+i) 0,(recAt L i).2.2.1,(recAt L i).2.2.2):=by
  unfold pJ;rw[bk,jq,ye h];rfl
 rw[this];rfl
theorem aiV{P Q:List aI}{r:aI}{t:Nat}{u:UInt8}{i:Nat}(h:P.length=i):
  ((dh (P++r::Q)).set (i*4+0) (.int .u64 (t:Int))).set (i*4+1) (.int .u8 (u.toNat:Int))=dh (P++(t,u,r.2.2.1,r.2.2.2)::Q)∧((dh (P++r::Q)).set (i*4+1) (.int .u8 (u.toNat:Int))).set (i*4+0) (.int .u64 (t:Int))=dh (P++(t,u,r.2.2.1,r.2.2.2)::Q):=by
 have hp:(dh P).length=i*4:=by rw[OR,h]
 rw[←vj,←vj,AR,AR];constructor
 ·rw[wX _ _ aa,wX _ _ aa,show i*4+0-(dh P).length=0 by omega,show i*4+1-(dh P).length=1 by omega];rfl
 ·rw[wX _ _ aa,wX _ _ aa,show i*4+0-(dh P).length=0 by omega,show i*4+1-(dh P).length=1 by omega];rfl
theorem ajr{L:bf}{i v:Nat}(h:i<L.length)(e:L.getD i 0=v):(p9 L)[i*1]? =some (.int .u64 ((v:Nat):Int)):=by
 subst e;simp[p9,bk,fm h]
structure sG(x:ir):Prop where
 fr:x.bC.length=x.ns.length
 ti:x.times.length=x.ns.sum
 le:x.levels.length=x.ns.sum
 su:x.ns.sum≤20000
 nl:x.ns.length≤20000
 fe:∀f∈x.bC,f.length≤1000000
 tl:x.T.length≤1048576
 il:x.I.length≤1048576
 ie:∀l∈x.I,l.length≤20000
 tm:∀t∈x.times,t<18446744073709551616
section
variable{x:ir}{k:Nat}
theorem Q3(h:(dK (x.bC.getD k [])).2.2≠0):lZ x k=([],(dK (x.bC.getD k [])).2.2):=by unfold lZ;rw[ao h]
theorem Q4(h:¬(dK (x.bC.getD k [])).2.2≠0)(h2:(dK (x.bC.getD k [])).2.1<(x.bC.getD k []).length):lZ x k=([],2):=by unfold lZ;rw[aw h,ao h2]
theorem Q5(h:¬(dK (x.bC.getD k [])).2.2≠0)(h2:¬(dK (x.bC.getD k [])).2.1<(x.bC.getD k []).length)(h3:(qO false (dK (x.bC.getD k [])).1).2≠0):lZ x k=([],(qO false (dK (x.bC.getD k [])).1).2):=by unfold lZ;rw[aw h,aw h2,ao h3]
theorem Q6(h:¬(dK (x.bC.getD k [])).2.2≠0)(h2:¬(dK (x.bC.getD k [])).2.1<(x.bC.getD k []).length)(h3:¬(qO false (dK (x.bC.getD k [])).1).2≠0)(h4:(qO false (dK (x.bC.getD k [])).1).1.length≠x.ns.getD k 0):lZ x k=([],2):=by unfold lZ;rw[aw h,aw h2,aw h3,ao h4]
theorem Q7(h:¬(dK (x.bC.getD k [])).2.2≠0)(h2:¬(dK (x.bC.getD k [])).2.1<(x.bC.getD k []).length)(h3:¬(qO false (dK (x.bC.getD k [])).1).2≠0)(h4:¬(qO false (dK (x.bC.getD k [])).1).1.length≠x.ns.getD k 0):lZ x k=(pJ x.times x.levels (x.ns.take k).sum (qO false (dK (x.bC.getD k [])).1).1,0):=by unfold lZ;rw[aw h,aw h2,aw h3,aw h4]
end
theorem abe(HT:bL B w0){x:ir}{k:Nat}{FB:List kS}(ho:sG x)(hk:k<x.bC.length)(sP:FB.map (·.2.2)=x.bC)(hcn:x.ns.length≤c1)(hn:aK B w0 (Bo g (.slice A1 x.ns.length c1) v1 v2 v3 (.slice A3 x.times.length c3) (.slice A4 x.levels.length c4) v6 v7 (.slice Af FB.length cf) v9::F) 1 (.slice A1 x.ns.length c1) x.ns.length (bx x.ns))(ht:aK B w0 (Bo g (.slice A1 x.ns.length c1) v1 v2 v3 (.slice A3 x.times.length c3) (.slice A4 x.levels.length c4) v6 v7 (.slice Af FB.length cf) v9::F) 1 (.slice A3 x.times.length c3) x.times.length (p9 x.times))(hl:aK B w0 (Bo g (.slice A1 x.ns.length c1) v1 v2 v3 (.slice A3 x.times.length c3) (.slice A4 x.levels.length c4) v6 v7 (.slice Af FB.length cf) v9::F) 1 (.slice A4 x.levels.length c4) x.levels.length (bv x.levels))(hf:aK B w0 (Bo g (.slice A1 x.ns.length c1) v1 v2 v3 (.slice A3 x.times.length c3) (.slice A4 x.levels.length c4) v6 v7 (.slice Af FB.length cf) v9::F) 1 (.slice Af FB.length cf) FB.length (FB.map dq))(Io:∀e∈FB,aK B w0 (Bo g (.slice A1 x.ns.length c1) v1 v2 v3 (.slice A3 x.times.length c3) (.slice A4 x.levels.length c4) v6 v7 (.slice Af FB.length cf) v9::F) 1 (dq e) e.2.2.length (bv e.2.2)):
  a_ B w0 184 [br g,ah (k:Int)] (Bo g (.slice A1 x.ns.length c1) v1 v2 v3 (.slice A3 x.times.length c3) (.slice A4 x.levels.length c4) v6 v7 (.slice Af FB.length cf) v9::F)
   (fun v L=>∃A' c',v= .tuple #[.slice A' (lZ x k).1.length c',ah (lZ x k).2]∧L= .own 62 4 A' (lZ x k).1.length c' (dh (lZ x k).1)::Bo g (.slice A1 x.ns.length c1) v1 v2 v3 (.slice A3 x.times.length c3) (.slice A4 x.levels.length c4) v6 v7 (.slice Af FB.length cf) v9::F):=by
 obtain⟨o1,o2,o3,o4,o5,o6,_,_,_,_⟩:=ho;have Rg:FB.length=x.bC.length:=by rw[←sP,eK]
 have Rw:=G2 (PB:=FB) (i:=k) aa;have pW:=bg (l:=FB) (show k<FB.length by omega) iQ;have xq:(FB.getD k iQ).2.2=x.bC.getD k []:=by rw[←sP,EV]
 obtain⟨⟨PA,PC,f⟩,hP⟩:∃e,e=FB.getD k iQ:=⟨_,rfl⟩
 rw[←hP]at Rw pW xq;have xq:f=x.bC.getD k []:=xq;have hbf:=Io _ pW;have l9:f.length≤1000000:=by rw[xq];exact o6 _ (bg hk [])
 have wT:=nQ x.ns (k+1);have LF:(x.ns.take (k+1)).sum=(x.ns.take k).sum+x.ns.getD k 0:=by rw[ba aa 0,wi];simp
 have de:=C' f;refine fw func184 100 [0,1] ?_;refine dQ ?_;refine ab (au ag rfl hf aa Rw) rfl ?_;refine ay rfl (Uk HT (b:=f) rfl rfl hbf l9) fun G' JL=>?_;refine tS ?_;refine aj (fun oh=>?_) fun oh=>?_
 ·have e:=Q3 (x:=x) (k:=k) (by rw[←xq];exact oh);refine bG ?_;refine ve [4,5] ?_;refine b8 ?_;refine aD 62 4 none ?_;refine aq (.cons (.skip (.refl _))) ?_;refine aF ?_;rw[e,←xq];exact⟨none,0,rfl,rfl⟩
 ·have ahv:¬(dK (x.bC.getD k [])).2.2≠0:=by rw[←xq];exact oh
  refine bO ?_;refine ab (au ag rfl hf.cons aa Rw) rfl ?_;refine bA ?_;refine ve [0,1,6,28] ?_;refine aF ?_;refine aj (fun qF=>?_) fun qF=>?_
  ·have e:=Q4 (x:=x) (k:=k) ahv (by rw[←xq];have q:(((dK f).2.1:Nat):Int)<((f.length:Nat):Int):=qF;omega);refine bO ?_;refine aD 62 4 none ?_;refine aq (.cons (.skip (.refl _))) ?_;refine aF ?_;rw[e];exact⟨none,0,rfl,rfl⟩
  ·have alZ:¬(dK (x.bC.getD k [])).2.1<(x.bC.getD k []).length:=by rw[←xq];have q:¬(((dK f).2.1:Nat):Int)<((f.length:Nat):Int):=qF;omega
   refine bz ?_;refine ay rfl (ON (l:=(dK f).1) false aA aa) fun TQ c41=>?_;refine jQ ?_;refine aj (fun tU=>?_) fun tU=>?_
   ·have e:=Q5 (x:=x) (k:=k) ahv alZ (by rw[←xq];exact tU);refine bB ?_;refine aD 62 4 none ?_;refine aq (.cons (.skip (.skip (.refl _)))) ?_;refine aF ?_;rw[e,←xq];exact⟨none,0,rfl,rfl⟩
   ·have ap9:¬(qO false (dK (x.bC.getD k [])).1).2≠0:=by rw[←xq];exact tU
    refine cZ ?_;refine ab (au ag rfl hn.cons.cons aa (gb (v:=x.ns.getD k 0) aa rfl)) rfl ?_;refine be ?_;refine ve [0,1,9,48] ?_;refine aF ?_;refine aj (fun Np=>?_) fun Np=>?_
    ·have e:=Q6 (x:=x) (k:=k) ahv alZ ap9 (by rw[←xq];omega);refine bO ?_;refine aD 62 4 none ?_;refine aq (.cons (.skip (.skip (.refl _)))) ?_;refine aF ?_;rw[e];exact⟨none,0,rfl,rfl⟩
    ·have e:=Q7 (x:=x) (k:=k) ahv alZ ap9 (by rw[←xq];omega);rw[←xq]at e;obtain⟨RL,hRL⟩:=cK ((qO false (dK f).1).1);obtain⟨a,ha⟩:=cK ((x.ns.take k).sum);rw[←hRL]at Np e⊢;rw[←ha]at LF e;refine bO ?_;refine ai rfl (.perm (abf (k:=k) aa hcn (hn.mono (.cons_cons _ (.cons _ (.cons _ (.refl _))))) aa aa) ((BM (fR (fR (.refl _)))))) ?_;refine bG ?_;rw[←ha];refine fP ((l_ (fR (fR (.refl _))))) ?_;refine bK ?_;refine aE (fun zf zL zm=>∃(i:Nat),(i≤RL.length)∧RL.length-i=zm∧Sub zf [(0,br g),(9,.slice TQ RL.length c41),(10,ah (a:Int)),(66,ah RL.length),(67,ah (i:Int))]∧Wk zL (.own 62 4 TQ RL.length c41 (dh (Fo x.times x.levels a RL i))::Bo g (.slice A1 x.ns.length c1) v1 v2 v3 (.slice A3 x.times.length c3) (.slice A4 x.levels.length c4) v6 v7 (.slice Af FB.length cf) v9::F)) _ ⟨0,bS _,rfl,bp,.trans ((ed (ed (.skip (.refl _))))) (ax rfl (by unfold Fo;simp) (.refl _))⟩ ?_;rintro _ _ _ ⟨i,hi,rfl,hs,hp⟩;refine aU hs hp ?_;clear hs hp;refine bz ?_;refine aj (fun h68=>?_) fun h68=>?_
     ·have y':=O3 x.times x.levels a RL hi;obtain⟨as0,amo⟩:=SR (ts:=x.times) (lv:=x.levels) (a:=a) (L:=RL) (i:=i) aa;have as4:((pJ x.times x.levels a RL).take i).length=i:=by rw[eS,kQ];omega
      obtain⟨ac5,ac6⟩:=aiV (P:=(pJ x.times x.levels a RL).take i) (Q:=RL.drop (i+1)) (r:=recAt RL i) (t:=x.times.getD (a+i) 0) (u:=x.levels.getD (a+i) 0) as4;rw[←as0]at ac5 ac6;rw[←amo]at ac5 ac6;have hrl:=OR (Fo x.times x.levels a RL i);obtain⟨M,hM⟩:=cK (dh (Fo x.times x.levels a RL i));rw[←hM]at ac5 ac6 hrl⊢;refine bB ?_;refine kJ (A:=TQ) (n:=RL.length) (xs:=M) (.head _) aa ?_;intro ad hA;subst hA;refine cF (Bo g (.slice A1 x.ns.length c1) v1 v2 v3 (.slice A3 x.times.length c3) (.slice A4 x.levels.length c4) v6 v7 (.slice Af FB.length cf) v9::F) ?_;refine ae 0 ?_;refine ae 1 ?_;refine ae 2 ?_;refine ae 3 ?_;refine ae 4 ?_;refine ae 5 ?_;refine ae 6 ?_;refine ae 7 ?_;refine ae 8 ?_;refine ae 9 ?_;refine ae 10 ?_;refine aW 11 rfl (bX rfl rfl (r:=((a+i:Nat):Int)) ((bF aa aa).trans aa)) ?_;refine aW 12 rfl (aC (i:=a+i) (size:=1) underlying183 ag rfl rfl rfl aa ht) ?_;refine aW 13 rfl (au ag rfl ht aa (ajr (v:=x.times.getD (a+i) 0) aa rfl)) ?_;refine ae 14 ?_;refine ae 15 ?_;refine ae 16 ?_;refine ae 17 ?_;refine ae 18 ?_;refine ae 19 ?_;refine ae 20 ?_;refine aW 21 rfl (bX rfl rfl (r:=((a+i:Nat):Int)) ((bF aa aa).trans aa)) ?_;refine aW 22 rfl (aC (i:=a+i) (size:=1) underlying27 ag rfl rfl rfl aa hl) ?_;refine aW 23 rfl (jn ag rfl hl aa) ?_;refine aW 24 rfl (aO (i:=i) (size:=4) underlying24 ag rfl rfl rfl aa) ?_;refine aW 25 rfl (pf underlying62 rfl ag rfl rfl) ?_;refine az 26 ?_;refine kR rfl .no (pj (q:=0) ag rfl rfl rfl .hd (by(try rw[List.length_set]);omega)) Gs ?_;rintro _ _ rfl;refine aW 27 rfl (aO (i:=i) (size:=4) underlying24 ag rfl rfl rfl aa) ?_;refine aW 28 rfl (pf underlying62 rfl ag rfl rfl) ?_;refine az 29 ?_;refine kR rfl .no (pj (q:=1) ag rfl rfl rfl .hd (by(try rw[List.length_set]);omega)) Gs ?_;rintro _ _ rfl;refine cQ [0,9,10,66,67] ?_;refine bz ?_;refine av ⟨_,aa,i+1,aa,rfl,bp,ax rfl (by first|exact ac5|exact ac6) (.refl _)⟩
     ·obtain rfl:i=RL.length:=by omega
      have tX:Fo x.times x.levels a RL RL.length=pJ x.times x.levels a RL:=by unfold Fo;rw[fA (by rw[kQ];omega),BI,gj]
      have aqm:=kQ x.times x.levels a RL;refine dQ ?_;rw[e,tX];exact⟨TQ,c41,by rw[aqm],by rw[aqm]⟩
end
end Go.Proofs.YtaodmbolhoafcaaGreatDoor

/-
  Texts of one proof, joined: part 10. No condition.
-/
import Derived.Test.YtaodmbolhoafcaaGreatDoorZv9
open List renaming length→E
open Go.RowKit Go.Proofs.Tryz
namespace Go.Proofs.YtaodmbolhoafcaaGreatDoor
set_option linter.unusedVariables false
set_option linter.unusedSimpArgs false
set_option maxRecDepth 20000
variable{b:aq}{P:Prop}{o:aZ}{l:aq}{p1:Nat}{l2:aq}{ns:br}{y:Nat}{r:Value}{v:Int}{S:Nat}{pl:Bool}{ss:br}{m:Nat}{d:aq}{sz B:Nat}{w0:World}{F L:aN}{A A1 A2 Ao:bh}{n c c1 c2 co g g1 g2 gr:Nat}{fl:aq}{q:List Bool}{X:cQ}{bt:TypeId}{gc:Nat}{s:Cs}{L0:aN}{bound size:Int}
section
variable{sl:aq}
theorem apB(h:P:=by(have:=Qc (x:=1) (d:=b) (e:=(b:Int)) rfl (by omega) (by omega);rw[tC]at this;exact this)):P:=h
theorem apx(h:P:=by(exact dG (by first|exact trivial|omega|(exact⟨λ_=>trivial,λ_=>by omega⟩)|(exact λh=>h (by omega))))):P:=h
theorem ahr(h:P:=by(exact dS (by first|exact trivial|omega|(exact⟨λ_=>trivial,λ_=>by omega⟩)|(exact λh=>h (by omega))))):P:=h
theorem aht(h:P:=by(exact dG (by first|omega|(exact⟨λh=>by omega,False.elim⟩)|(exact λh=>h)))):P:=h
theorem U_(h:P:=by(rw[bm,tz];omega)):P:=h
theorem acU{x b:Nat}(hb:b<=11)(hx:x<2^b):bg B w0 356 [ah x,ah b] F (λr L=>r= .bool true/\L=F):=by
 have hp:2^b<=2048:=gz (n:=2) aa hb;refine fw func356 13 [0,1] ?_;refine bf 7 8 12 [] (True) ?_ ?_
 ·refine bC 3 (λh7=>?_) λh7=>?_
  ·refine fb ?_;exact ab (gG rfl rfl aa (r:=((2^b:Nat):Int)) apB) rfl (ax 3 (k:=apx))
  ·exact ax 4 (k:=ahr)
 ·refine dx ?_;exact⟨ao,rfl⟩
theorem anE{b x k:Nat}(hb:b<=7)(hx:x<2^b)(hk:k<=11)(hy:y<2^k):bg B w0 354 [.agg #[ah ((257+b:Nat):Int),ah x,ah k,ah y]] F
  (λr L=>r= .tuple #[.agg #[.int .u8 0,ah ((2+2^b+x:Nat):Int),ah ((2^k+y:Nat):Int)],ah 0]/\L=F):=by
 have Oy:2^b<=128:=gz (n:=2) aa hb;have vN:2^k<=2048:=gz (n:=2) aa hk;refine fw func354 70 [0] ?_;refine bM 2 λg1=>?_;refine fo λg2=>?_;refine bf 7 8 13 [1,2] (False) ?_ ?_
 ·refine bC 4 (λh9=>?_) λh9=>?_
  ·exact ax 6 (k:=aht)
  ·exact ax 3 (k:=oy)
 ·refine ag 3 (λh5=>?_) λh5=>?_
  ·exfalso;exact h5
  ·refine bf 2 18 41 [1,2] (True) ?_ ?_
   ·refine bC 4 (λkq=>?_) λkq=>?_
    ·refine bC 7 (λvJ=>?_) λvJ=>?_
     ·refine bC 7 (λCS=>?_) λCS=>?_
      ·exact ax 6 (k:=apx)
      ·exact ax 3 (k:=ahr)
     ·exact ax 8 (k:=ahr)
    ·exact ax 13 (k:=ahr)
   ·refine ag 3 (λpe=>?_) λpe=>?_
    ·refine fb ?_;refine ab (cU rfl rfl (r:=((b:Nat):Int)) ((bj aa aa).trans aa)) rfl (cY ?_);refine ai rfl (acU (x:=x) (b:=b) aa hx) (aX ?_);refine lS rfl rfl rfl (λOd=>?_) (λOd=>?_)
     ·refine cY ?_;refine ai rfl (acU (x:=y) (b:=k) aa hy) (fB 3 (λh55=>?_) λh55=>?_)
      ·refine cN 1 (.bI g1 166 [ah ((257+b:Nat):Int),ah x,ah k,ah y]::F) ?_;refine dI 0 ?_;refine aS 1 rfl (gG rfl rfl aa (r:=((2^b:Nat):Int)) apB) (aS 2 rfl (bF rfl rfl (r:=((2+2^b:Nat):Int)) ((bj aa aa).trans aa)) (aF 3 2 ?_));refine aS 5 rfl (bF rfl rfl (r:=((2+2^b+x:Nat):Int)) ((bj aa aa).trans aa)) (aF 6 2 ?_);refine aS 8 rfl (gG rfl rfl aa (r:=((2^k:Nat):Int)) (by have:=Qc (x:=1) (d:=k) (e:=(k:Int)) rfl aa aa;rw[tC]at this;exact this)) (aF 9 2 ?_);refine aS 11 rfl (bF rfl rfl (r:=((2^k+y:Nat):Int)) ((bj aa aa).trans aa)) (aS 12 rfl (bw [(1,_),(2,_)] [.int .u8 0,ah 0,ah 0] [1,2] [_,_,_] rfl rfl ae) (aC 13 (aX ?_)));refine dI 14 ?_;refine di [2,3] ?_;refine fb ?_;refine ak (.cons (.skip (.refl _))) (iH rfl rfl ae aU jI rfl (.skip (.refl _)) ?_);exact⟨rfl,rfl⟩
      ·exfalso;cases h55
     ·exfalso;cases Od
    ·exfalso;exact pe trivial
theorem FI(q:List Bool)(N:Nat):∀f p acc s,(lN q N f p acc s).2.1=0->Good (lN q N f p acc s).1
 |0,p,acc,s=>λh=>by
  unfold lN fin at h⊢;by_cases hg:Good acc
  ·rw[av hg];exact hg
  ·rw[aB hg]at h;cases h
 |f+1,p,acc,s=>λh=>by
  unfold lN at h⊢;split at h
  ·rename_i h1;rw[av h1];unfold fin at h⊢;by_cases hg:Good acc
   ·rw[av hg];exact hg
   ·rw[aB hg]at h;cases h
  ·rename_i h1;rw[aB h1];split at h
   ·rename_i h2;exact absurd h h2
   ·rename_i h2;rw[aB h2];split at h
    ·rename_i h3;rw[av h3];exact FI q N f _ _ _ h
    ·rename_i h3;rw[aB h3];split at h
     ·rename_i h4;exact absurd h h4
     ·rename_i h4;rw[aB h4];split at h
      ·cases h
      ·rename_i h5;rw[aB h5];exact FI q N f _ _ _ h
theorem FH{p:Nat}{n:Int}(h:(nW q p n).2.1=0):Good (nW q p n).1:=by
 unfold nW at h⊢;split at h
 ·cases h
 ·rename_i h1;rw[aB h1];exact FI q _ _ _ _ _ h
abbrev Rk(v1 v2:Value)(g gr:Nat)(A:bh)(c:Nat)(q:List Bool)(p:Nat)(F:aN):aN:=.bI g 455 [bq gr,v1,v2]::Rr gr A c q p F
theorem FE{p p':Nat}{k:Nat}{acc:aq}{e:Int}{v1 v2:Value}(hp:p<=E q)(hq:E q<=8000000)(hk:k<=1000)(hR:nW q p k=(acc,e,p'))(he:¬e=0):
  bg B w0 341 [bq g,ah k] (Rk v1 v2 g gr A c q p F) (λr L=>r= .tuple #[.pointer none,ah e]/\L=Rk v1 v2 g gr A c q p' F):=by
 refine ba func341 24 [0,1] 13 ?_;refine ay rfl (.perm (Nh q p hp hq k aa aa acc e p' hR) (Qp _ _ _ _)) λA14 c14=>ag 14 (λjq=>?_) λjq=>?_
 ·refine aD 5 [4,5] 3 ?_;exact ak ((vu (dL (dL (.skip (.refl _)))))) (cm 1)
 ·exfalso;exact jq he
theorem BF{p p':Nat}{k:Nat}{acc:aq}{v1 v2:Value}(hp:p<=E q)(hq:E q<=8000000)(hk:k<=1000)(hR:nW q p k=(acc,0,p')):
  bg B w0 341 [bq g,ah k] (Rk v1 v2 g gr A c q p F) (λr L=>∃g' Y,r= .tuple #[.pointer (some ⟨g',0,none⟩),ah 0]/\L=Rk v1 v2 g gr A c q p' (Y++F)/\xX B w0 Y g' acc):=by
 have hg:Good acc:=by have:=FH (q:=q) (p:=p) (n:=k);rw[hR]at this;exact this rfl
 refine ba func341 24 [0,1] 13 ?_;refine ay rfl (.perm (Nh q p hp hq k aa aa acc 0 p' hR) (Qp _ _ _ _)) λA14 c14=>bZ 14 λjq=>?_;refine dx ?_;refine bp alb rfl (aez (l:=acc) aA hg) rfl ?_;rintro _ _ ⟨g21,Y,rfl,cR,yP⟩;obtain rfl:=cR.symm;refine aD 4 [4,5] 2 ?_;refine ak (L':=Rk v1 v2 g gr A c q p' (Y++F)) (.trans (.c_ (rJ Y [_,_,_,_] F)) ((vu (dL (dL (.skip (.refl _))))))) (aX ?_);exact⟨g21,Y,rfl,rfl,yP⟩
theorem K9{p b:Nat}:(((257+b:Nat):Int)-257)=(b:Int):=by omega
theorem Ty{p b:Nat}(h:¬pE q p b=0):jt fl q p ((257+b:Nat):Int)=((0,0,0),pE q p b,fH q p b):=by
 unfold jt;rw[K9 (p:=p),av h]
theorem Tz{p b p2:Nat}{e k:Int}(h:pE q p b=0)(h1:fH q p b=p1)(h2:dN fl q p1=(k,e,p2))(h3:¬e=0):jt fl q p ((257+b:Nat):Int)=((0,0,0),e,p2):=by
 unfold jt;rw[K9 (p:=p),aB (λk=>k h),h1,h2,av h3]
theorem TA{p b p2:Nat}{k:Int}(h:pE q p b=0)(h1:fH q p b=p1)(h2:dN fl q p1=(k,0,p2))(h3:¬pE q p2 k=0):jt fl q p ((257+b:Nat):Int)=((0,0,0),pE q p2 k,fH q p2 k):=by
 unfold jt;rw[K9 (p:=p),aB (λk=>k h),h1,h2,aB (λk=>k rfl),av h3]
theorem TC{p b p2 k:Nat}(h:pE q p b=0)(h1:fH q p b=p1)(h2:dN fl q p1=((k:Int),0,p2))(h3:pE q p2 k=0):jt fl q p ((257+b:Nat):Int)=((0,((2+2^b+jE q p b:Nat):Int),((2^k+jE q p2 k:Nat):Int)),0,fH q p2 k):=by
 unfold jt;rw[K9 (p:=p),aB (λk=>k h),h1,h2,aB (λk=>k rfl),aB (λk=>k h3)];simp
theorem adA(yP:xX B w0 F g l)(hl:E l<=300){p p2:Nat}{k e:Int}(hp:p<=E q)(hq:E q<=8000000)(hH:dN l q p=(k,e,p2)):
  bg B w0 347 [bq g,bq g2] (Rr g2 A c q p F) (λr L=>r= .tuple #[ah k,ah e]/\L=Rr g2 A c q p2 F):=by
 have:=anf (B:=B) (w0:=w0) (F:=F) (A:=A) (c:=c) (g2:=g2) (q:=q) yP hl hp hq;rw[hH]at this;exact this
theorem aja{p b:Nat}(hb:b<=7)(hp:p<=E q)(hq:E q<=8000000)(yP:xX B w0 F g2 fl)(l_:E fl=12):
  bg B w0 348 [bq g,ah ((257+b:Nat):Int)] (Rk (bq g1) (bq g2) g gr A c q p F)
   (λr L=>r= .tuple #[.agg (bG.cells (jt fl q p ((257+b:Nat):Int)).1).toArray,ah (jt fl q p ((257+b:Nat):Int)).2.1]/\L=Rk (bq g1) (bq g2) g gr A c q (jt fl q p ((257+b:Nat):Int)).2.2 F):=by
 have S2:=qL q p (n:=b) aa;obtain⟨p1,yS⟩:∃x,fH q p b=x:=⟨_,rfl⟩
 have Zo:p1<=E q:=by rw[<-yS];exact mB _ hp
 have la:=vL fl q Zo;obtain⟨⟨k,e,p2⟩,hH⟩:∃x,dN fl q p1=x:=⟨_,rfl⟩
 rw[hH]at la;simp only at la;refine fw func348 63 [0,1] ?_;refine bW 2 λg4=>?_;refine dh ?_;refine ab (cU rfl rfl (r:=((b:Nat):Int)) ((bj aa aa).trans aa)) rfl (ai rfl (.perm (IV q p hp hq b aa aa) (Qq _ _ _ _ _)) (ag 14 (λmQ=>?_) λmQ=>?_))
 ·rw[Ty mQ];refine ew ?_;refine ab (eW [.int .u8 0,ah 0,ah 0] ae) rfl (aD 3 [4,5] 3 ?_);refine ak ((lU (lU (dL (dL (.refl _)))))) (iH rfl rfl ae aU jI rfl (.skip (.refl _)) ?_);exact⟨rfl,rfl⟩
 ·refine fc ?_;rw[yS];refine lx (.bI g 455 [bq gr,bq g1,bq g2]::F) ?_;refine aF 0 8 ?_;refine aC 8 (lu rfl rfl (adA yP.cons.cons aa Zo hq hH) (aF 9 5 ?_));refine di [0,1,4,6,7,8] ?_;refine ag 8 (λCS=>?_) λCS=>?_
  ·rw[Tz (b_ mQ) yS hH CS];refine ew ?_;refine ab (eW [.int .u8 0,ah 0,ah 0] ae) rfl (dg ?_);refine ak ((lU (lU (dL (dL (.refl _)))))) (iH rfl rfl ae aU jI rfl (.skip (.refl _)) ?_);exact⟨rfl,rfl⟩
  ·obtain rfl:e=0:=b_ CS;obtain⟨s,rfl,hs,_⟩:=la.2.2.1 rfl;refine dA ?_;refine ai rfl (IV q p2 la.2.1 hq s aa aa) (ag 14 (λOe=>?_) λOe=>?_)
   ·rw[TA (b_ mQ) yS hH Oe];refine ew ?_;refine ab (eW [.int .u8 0,ah 0,ah 0] ae) rfl (aD 3 [4,5] 3 ?_);refine ak ((lU (lU (dL (dL (.refl _)))))) (iH rfl rfl ae aU jI rfl (.skip (.refl _)) ?_);exact⟨rfl,rfl⟩
   ·have KN:=qL q p2 (n:=s) aa;have Oy:2^b<=128:=gz (n:=2) aa hb;have vN:2^s<=2048:=gz (n:=2) aa (by omega:s<=11);rw[TC (b_ mQ) yS hH (b_ Oe)];obtain⟨y1,S6⟩:∃x,jE q p b=x:=⟨_,rfl⟩
    obtain⟨y2,S7⟩:∃x,jE q p2 s=x:=⟨_,rfl⟩
    rw[S6]at S2⊢;rw[S7]at KN⊢;refine dw ?_;refine ab (be underlying60 underlying3 rfl (r:=(y1:Int)) (bj aa aa)) rfl (ew ?_);refine ab (be underlying60 underlying3 rfl (r:=(y2:Int)) (bj aa aa)) rfl (ab (eJ [(0,_),(1,_),(2,_),(3,_)] [_,_,_,_] rfl rfl ae) rfl (ai rfl (anE hb S2 aa KN) (aD 4 [4,5] 2 ?_)));refine ak ((lU (lU (dL (dL (.refl _)))))) (iH rfl rfl ae aU jI rfl (.skip (.refl _)) ?_);exact⟨rfl,rfl⟩
theorem Uv{p:Nat}{k e:Int}(hH:dN sl q p=(k,e,p1))(h:¬e=0\/k=256):ic sl fl q p=((0,0,0),false,e,p1):=by
 unfold ic;rw[hH,av h]
theorem Uw{p s:Nat}(hH:dN sl q p=((s:Int),0,p1))(h:s<256):ic sl fl q p=((UInt8.ofNat s,0,0),true,0,p1):=by
 unfold ic;rw[hH,aB (λk=>k.elim (λk=>k rfl) λk=>MO),av cX];simp
theorem Ux{p b:Nat}(hH:dN sl q p=(((257+b:Nat):Int),0,p1)):ic sl fl q p=((jt fl q p1 ((257+b:Nat):Int)).1,decide ((jt fl q p1 ((257+b:Nat):Int)).2.1=0),(jt fl q p1 ((257+b:Nat):Int)).2.1,(jt fl q p1 ((257+b:Nat):Int)).2.2):=by
 unfold ic;rw[hH,aB (λk=>k.elim (λk=>k rfl) λk=>MO),aB cX]
theorem aoP{s:Nat}(h:s<256):((UInt8.ofNat s).toNat:Int)=(s:Int):=by
 rw[rD];omega
theorem ako(t:bG):∀u∈bG.cells t,u.oneCell'=true:=by simp[bG.cells,Value.oneCell']
theorem afu{p gs gf:Nat}(hp:p<=E q)(hq:E q<=8000000)(Rc:xX B w0 F gs sl)(KJ:xX B w0 F gf fl)(lB:E sl=265)(l_:E fl=12):
  bg B w0 342 [bq g] (Rk (bq gs) (bq gf) g gr A c q p F)
   (λr L=>r= .tuple #[.agg (bG.cells (ic sl fl q p).1).toArray,.bool (ic sl fl q p).2.1,ah (ic sl fl q p).2.2.1]/\L=Rk (bq gs) (bq gf) g gr A c q (ic sl fl q p).2.2.2 F):=by
 have la:=vL sl q hp;obtain⟨⟨k,e,p1⟩,hH⟩:∃x,dN sl q p=x:=⟨_,rfl⟩
 rw[hH]at la;simp only at la;refine fw func342 43 [0] ?_;refine bW 2 λg2=>?_;refine cN 5 (.bI g 455 [bq gr,bq gs,bq gf]::F) ?_;refine aF 0 8 ?_;refine aC 8 (lu rfl rfl (.perm (adA (g:=gs) Rc.cons.cons aa hp hq hH) (Qq _ _ _ _ _)) (aF 9 5 ?_));refine bf 6 6 24 [0,2,4,5] (¬e=0\/k=256) ?_ ?_
 ·refine bk 3 (λmQ=>?_) (λmQ=>?_)
  ·exact ax 4 (k:=DN)
  ·exact ax 2 (k:=J5)
 ·refine ag 3 (λjq=>?_) λjq=>?_
  ·rw[Uv hH jq];refine dM ?_;refine ak ((lU (lU (dL (dL (.refl _)))))) (Dv rfl rfl ae aU jI rfl rfl (.skip (.refl _)) ?_);exact⟨rfl,rfl⟩
  ·have he0:e=0:=b_ λh=>jq (.inl h);subst he0;obtain⟨s,rfl,hs,_⟩:=la.2.2.1 rfl;refine ag 7 (λkq=>?_) λkq=>?_
   ·rw[Uw hH aa];refine fc ?_;refine ab (be underlying3 underlying5 rfl (r:=((UInt8.ofNat s).toNat:Int)) (by rw[aoP aa];exact Gw aa aa)) rfl (ab (bw [(0,_)] [.int .u8 0,ah 0,ah 0] [0] [_,_,_] rfl rfl ae) rfl (cY ?_));refine ak ((lU (lU (dL (dL (.refl _)))))) (Dv rfl rfl ae aU jI rfl rfl (.skip (.refl _)) ?_);exact⟨rfl,rfl⟩
   ·obtain⟨b,rfl⟩:∃b,s=257+b:=⟨s-257,aa⟩
    rw[Ux hH];have pG:=ako (jt fl q p1 ((257+b:Nat):Int)).1;refine dg ?_;refine ai rfl (.perm (aja aa la.2.1 hq KJ.cons l_) ((pu3 (gh (gh (gh (.refl _))))))) (aD 16 [2,3,4] 2 ?_);refine ak ((vu (dL (dL (dL (.refl _)))))) (Dv rfl rfl ae aU jI rfl rfl (.skip (.refl _)) ?_);exact⟨rfl,rfl⟩
theorem aep{p b:Nat}(hb:b<=7)(hp:p<=E q)(l_:E fl=12):0<=(jt fl q p ((257+b:Nat):Int)).1.2.1/\(jt fl q p ((257+b:Nat):Int)).1.2.1<=300/\(jt fl q p ((257+b:Nat):Int)).2.2<=E q:=by
 have S2:=qL q p (n:=b) aa;have Oy:2^b<=128:=gz (n:=2) aa hb;by_cases h1:pE q p b=0
 ·obtain⟨p1,yS⟩:∃x,fH q p b=x:=⟨_,rfl⟩
  have Zo:p1<=E q:=by rw[<-yS];exact mB _ hp
  have la:=vL fl q Zo;obtain⟨⟨k,e,p2⟩,hH⟩:∃x,dN fl q p1=x:=⟨_,rfl⟩
  rw[hH]at la;simp only at la;by_cases h2:e=0
  ·subst h2;obtain⟨s,rfl,_⟩:=la.2.2.1 rfl;by_cases h3:pE q p2 s=0
   ·rw[TC h1 yS hH h3];exact⟨cX,cX,mB _ la.2.1⟩
   ·rw[TA h1 yS hH h3];exact⟨cX,cX,mB _ la.2.1⟩
  ·rw[Tz h1 yS hH h2];exact⟨cX,cX,la.2.1⟩
 ·rw[Ty h1];exact⟨cX,cX,mB _ hp⟩
theorem QD{p:Nat}(hp:p<=E q)(lB:E sl=265)(l_:E fl=12):0<=(ic sl fl q p).1.2.1/\(ic sl fl q p).1.2.1<=300/\(ic sl fl q p).2.2.2<=E q:=by
 have la:=vL sl q hp;obtain⟨⟨k,e,p1⟩,hH⟩:∃x,dN sl q p=x:=⟨_,rfl⟩
 rw[hH]at la;simp only at la;by_cases h:¬e=0\/k=256
 ·rw[Uv hH h];exact⟨cX,cX,la.2.1⟩
 ·have he0:e=0:=b_ λk=>h (.inl k);subst he0;obtain⟨s,rfl,hs,_⟩:=la.2.2.1 rfl;by_cases h2:s<256
  ·rw[Uw hH h2];exact⟨cX,cX,la.2.1⟩
  ·obtain⟨b,rfl⟩:∃b,s=257+b:=⟨s-257,aa⟩
   rw[Ux hH];exact aep aa la.2.1 l_
section
variable{f:Nat}{most:Int}{p p2:Nat}{acc:List bG}{R:List bG×Int}{t:bG}{ok:Bool}{e:Int}
theorem Gf(h:oT sl fl q (f+1) most p acc=R)(hT:ic sl fl q p=(t,ok,e,p2))(he:¬e=0):R=([],e):=by
 rw[<-h,oT,hT,av he]
theorem Ge(h:oT sl fl q (f+1) most p acc=R)(hT:ic sl fl q p=(t,false,0,p2)):R=if Rm q p2=0 then (acc,0) else ([],Rm q p2):=by
 rw[<-h,oT,hT,aB (λk=>k rfl),av rfl]
theorem BQ(h:oT sl fl q (f+1) most p acc=R)(hT:ic sl fl q p=(t,true,0,p2))(hm:most-max 1 t.2.1<0):R=([],6):=by
 rw[<-h,oT,hT,aB (λk=>k rfl),aB ao,av hm]
theorem LU(h:oT sl fl q (f+1) most p acc=R)(hT:ic sl fl q p=(t,true,0,p2))(hm:¬most-max 1 t.2.1<0):oT sl fl q f (most-max 1 t.2.1) p2 (acc++[t])=R:=by
 rw[<-h,oT,hT,aB (λk=>k rfl),aB ao,aB hm]
end
theorem afv{p p2 gs gf:Nat}{t:bG}{ok:Bool}{e:Int}(hp:p<=E q)(hq:E q<=8000000)(Rc:xX B w0 F gs sl)(KJ:xX B w0 F gf fl)(lB:E sl=265)(l_:E fl=12)(hT:ic sl fl q p=(t,ok,e,p2)):
  bg B w0 342 [bq g] (Rk (bq gs) (bq gf) g gr A c q p F)
   (λr L=>r= .tuple #[.agg #[.int .u8 (t.1.toNat:Int),ah t.2.1,ah t.2.2],.bool ok,ah e]/\L=Rk (bq gs) (bq gf) g gr A c q p2 F):=by
 have:=afu (B:=B) (w0:=w0) (F:=F) (A:=A) (c:=c) (g:=g) (gr:=gr) hp hq Rc KJ lB l_;rw[hT]at this;exact this
theorem V9{acc:aq}{p N:Nat}(hl:E acc=N)(h:(fin acc p).2.1=0):E (fin acc p).1=N:=by
 unfold fin at h⊢;by_cases hg:Good acc
 ·rw[av hg];exact hl
 ·rw[aB hg]at h;cases h
theorem Lq(q:List Bool)(N:Nat):∀f p acc s,E acc<=N->N<=E acc+f->(lN q N f p acc s).2.1=0->E (lN q N f p acc s).1=N
 |0,p,acc,s=>λh1 h2 h=>by
  unfold lN at h⊢;exact V9 aa h
 |f+1,p,acc,s=>λk1 k2 h=>by
  unfold lN at h⊢;split at h
  ·rename_i h1;rw[av h1];exact V9 aa h
  ·rename_i h1;rw[aB h1];split at h
   ·rename_i h2;exact absurd h h2
   ·rename_i h2;rw[aB h2];split at h
    ·rename_i h3;rw[av h3];exact Lq q N f _ _ _ U_ U_ h
    ·rename_i h3;rw[aB h3];split at h
     ·rename_i h4;exact absurd h h4
     ·rename_i h4;rw[aB h4];split at h
      ·cases h
      ·rename_i h5;rw[aB h5];have h6:¬N<=E acc+jE q (fH q p 4) 6:=λk=>h5 (.inr k);exact Lq q N f _ _ _ (by rw[bm,wT];omega) (by rw[bm,wT];omega) h
theorem vR{p:Nat}(h:(nW q p n).2.1=0):E (nW q p n).1=n:=by
 unfold nW at h⊢;split at h
 ·cases h
 ·rename_i h1;rw[aB h1];rw[lJ]at h⊢;exact Lq q n _ _ _ _ ao ao h
theorem JO{most:Int}(h:most<0):eh b most=([],13):=by unfold eh;rw[av h]
theorem LV{most e:Int}{p:Nat}(h:¬most<0)(h1:nW (eM b) 0 265=(l,e,p))(h2:¬e=0):eh b most=([],e):=by
 unfold eh;rw[aB h,h1,av h2]
theorem LW{most e:Int}{p p2:Nat}(h:¬most<0)(h1:nW (eM b) 0 265=(l,0,p))(h2:nW (eM b) p 12=(l2,e,p2))(h3:¬e=0):eh b most=([],e):=by
 unfold eh;rw[aB h,h1,aB (λk=>k rfl),h2,av h3]
theorem LY{most:Int}{p p2:Nat}(h:¬most<0)(h1:nW (eM b) 0 265=(l,0,p))(h2:nW (eM b) p 12=(l2,0,p2)):eh b most=oT l l2 (eM b) (most.toNat+1) most p2 []:=by
 unfold eh;rw[aB h,h1,aB (λk=>k rfl),h2,aB (λk=>k rfl)]
def aby(R:List bG×Int)(F:aN)(r:Value)(L:aN):Prop:=∃A' c',r= .tuple #[.slice A' (E R.1) c',ah R.2]/\L= .own 170 3 A' (E R.1) c' (f_ R.1)::F
theorem aaW{most:Int}(hm:most<0):bg B w0 327 [.slice A (E b) c,ah most] F (aby (eh b most) F):=by
 rw[JO hm];refine fw func327 70 [0,1] ?_;refine ag 13 (λjZ=>?_) λjZ=>?_
 ·refine cY ?_;exact aH 170 3 none (bO 1)
 ·exfalso;exact jZ hm
theorem akq{most e:Int}{p:Nat}(hb:gw B w0 F A c b)(ey:E b<=1000000)(hm:¬most<0)(h1:nW (eM b) 0 265=(l,e,p))(h2:¬e=0):
  bg B w0 327 [.slice A (E b) c,ah most] F (aby (eh b most) F):=by
 have yU:=dm b;rw[LV hm h1 h2];refine fw func327 70 [0,1] ?_;refine ag 13 (λjZ=>?_) λjZ=>?_
 ·exfalso;exact hm jZ
 ·refine dx ?_;refine dV rfl (Fi hb ey) λgr Ar cr=>ab (bw [(0,_)] [.pointer none,.pointer none,.pointer none] [0] [_,_,_] rfl rfl ae) rfl (fM λg16=>?_);refine cY ?_;refine ai rfl (FE (k:=265) aa aa aa h1 h2) (aD 13 [1,4,5,6,26] 0 ?_);refine ag 1 (λq7=>?_) λq7=>?_
  ·refine dA ?_;refine ak (.s3 (.refl _)) (aH 170 3 none ?_);exact bO 1
  ·exfalso;exact q7 h2
theorem akr{most e:Int}{p p2:Nat}(hb:gw B w0 F A c b)(ey:E b<=1000000)(hm:¬most<0)(h1:nW (eM b) 0 265=(l,0,p))(h2:nW (eM b) p 12=(l2,e,p2))(h3:¬e=0):
  bg B w0 327 [.slice A (E b) c,ah most] F (aby (eh b most) F):=by
 have yU:=dm b;have kh:p<=E (eM b):=by have:=u9 (q:=eM b) (p:=0) 265 aa;rw[h1]at this;exact this
 rw[LW hm h1 h2 h3];refine fw func327 70 [0,1] ?_;refine ag 13 (λjZ=>?_) λjZ=>?_
 ·exfalso;exact hm jZ
 ·refine dx ?_;refine dV rfl (Fi hb ey) λgr Ar cr=>ab (bw [(0,_)] [.pointer none,.pointer none,.pointer none] [0] [_,_,_] rfl rfl ae) rfl (fM λg16=>?_);refine cY ?_;refine bp ack rfl (BF (k:=265) aa aa aa h1) rfl ?_;rintro _ _ ⟨gs,Y,rfl,cR,q8⟩;obtain rfl:=cR.symm;refine aD 13 [1,4,5,6,26] 0 ?_;refine bZ 1 λq7=>?_;refine dg ?_;refine ai rfl (FE (k:=12) kh aa aa h2 h3) (ag 15 (λCS=>?_) λCS=>?_)
  ·refine aD 5 [4,5] 3 ?_;refine ak (.s3 (ej _ _)) (aH 170 3 none ?_);exact bO 1
  ·exfalso;exact CS h3
theorem aks{most:Int}{p p2:Nat}(hb:gw B w0 F A c b)(ey:E b<=1000000)(hm:¬most<0)(oh:most<=1000000)(h1:nW (eM b) 0 265=(l,0,p))(h2:nW (eM b) p 12=(l2,0,p2)):
  bg B w0 327 [.slice A (E b) c,ah most] F (aby (eh b most) F):=by
 have yU:=dm b;have kh:p<=E (eM b):=by have:=u9 (q:=eM b) (p:=0) 265 aa;rw[h1]at this;exact this
 have G_:p2<=E (eM b):=by have:=u9 (q:=eM b) (p:=p) 12 kh;rw[h2]at this;exact this
 have q9:E l=265:=by have:=vR (q:=eM b) (p:=0) (n:=265);rw[show(((265:Nat):Int))=265 from rfl,h1]at this;exact this rfl
 have oB:E l2=12:=by have:=vR (q:=eM b) (p:=p) (n:=12);rw[show(((12:Nat):Int))=12 from rfl,h2]at this;exact this rfl
 obtain⟨R,hR⟩:∃R,oT l l2 (eM b) (most.toNat+1) most p2 []=R:=⟨_,rfl⟩
 rw[LY hm h1 h2,hR];obtain⟨q,hq⟩:∃q,eM b=q:=⟨_,rfl⟩
 rw[hq]at yU kh G_ h1 h2 hR;have hnr:=Fi (B:=B) (w0:=w0) hb ey;rw[hq]at hnr;refine fw func327 70 [0,1] ?_;refine ag 13 (λjZ=>?_) λjZ=>?_
 ·exfalso;exact hm jZ
 ·refine dx ?_;refine dV rfl (hnr) λgr Ar cr=>ab (bw [(0,_)] [.pointer none,.pointer none,.pointer none] [0] [_,_,_] rfl rfl ae) rfl (fM λg16=>?_);refine cY ?_;refine bp ack rfl (BF (k:=265) aa aa aa h1) rfl ?_;rintro _ _ ⟨gs,Y,rfl,cR,q8⟩;obtain rfl:=cR.symm;refine aD 13 [1,4,5,6,26] 0 ?_;refine bZ 1 λq7=>?_;refine dg ?_;refine bp ack rfl (BF (k:=12) kh aa aa h2) rfl ?_;rintro _ _ ⟨gf,Y2,rfl,cR,hcf⟩;obtain rfl:=cR.symm;refine bZ 15 λCS=>?_;obtain⟨K,hK⟩:=cM (Y2++(Y++F));have Rc:xX B w0 K gs l:=by rw[hK];exact q8.mono (.trans (sJ Y F) (fN _ _))
  have KJ:xX B w0 K gf l2:=by rw[hK];exact hcf.mono (sJ _ _)
  have xr:Wk K F:=by rw[hK];exact(ej _ _).trans (ej _ _)
  rw[<-hK];refine aM 170 3 none (mM (L':=.own 170 3 none 0 0 []::Rk (bq gs) (bq gf) g16 gr Ar cr q p2 K) (.refl _) (fb ?_));refine aw (λzf zL zm=>∃(f:Nat) (m:Int) (pp:Nat) (acc:List bG) (A':bh) (c':Nat),(0<=m/\m<f/\m<=1000000/\pp<=E q/\oT l l2 q f m pp acc=R/\E acc+m<=most)/\f=zm/\Sub zf [(1,ah m),(4,.slice A' (E acc) c'),(6,bq g16)]/\Wk zL (.own 170 3 A' (E acc) c' (f_ acc)::Rk (bq gs) (bq gf) g16 gr Ar cr q pp K)) _ ⟨most.toNat+1,most,p2,[],none,0,⟨aa,aa,aa,G_,hR,ao⟩,rfl,a_,.refl _⟩ ?_;rintro _ _ _ ⟨f,m,pp,acc,A',c',⟨hm0,hmf,hm6,hpq,rv,CU⟩,rfl,hs,hp⟩;refine aL hs hp (ew ?_);obtain⟨f',rfl⟩:∃f',f=f'+1:=⟨f-1,aa⟩
  have aiI:=QD (sl:=l) (fl:=l2) hpq q9 oB;obtain⟨⟨t,ok,e,p3⟩,hT⟩:∃x,ic l l2 q pp=x:=⟨_,rfl⟩
  rw[hT]at aiI;simp only at aiI;refine ew ?_;refine ai rfl (.perm (afv hpq aa Rc.cons KJ.cons q9 oB hT) ((oI (oI (oI (gh (.refl _))))))) (bW 4 λg7=>?_);refine ag 12 (λSx=>?_) λSx=>?_
  ·have Y7:=Gf rv hT Sx;subst Y7;refine bK 13 ?_;refine ak (.s4 (.skip xr)) (aH 170 3 none ?_);exact bO 1
  ·obtain rfl:e=0:=b_ Sx;refine dw ?_;refine ab (lf rfl) rfl (fB 2 (λOd=>?_) λOd=>?_)
   ·obtain rfl:ok=false:=by cases ok<;>simp at Od⊢
    have Y7:=Ge rv hT;refine bK 13 ?_;refine ai rfl (.perm (asB q p3 aiI.2.2 aa) ((z_ (z_ (gh (gh (.refl _))))))) (aD 1 [4,10] 0 ?_);refine ag 7 (λWo=>?_) λWo=>?_
    ·rw[aB Wo]at Y7;subst Y7;refine dA ?_;refine ak (.s4 (.skip xr)) (aH 170 3 none ?_);exact bO 1
    ·rw[av (b_ Wo)]at Y7;subst Y7;refine dh ?_;exact ak (.s4 (.cons xr)) (bO 1)
   ·obtain rfl:ok=true:=by cases ok<;>simp at Od⊢
    refine cY ?_;refine ab (Kj rfl rfl) rfl (aD 2 [1,4,6,7] 0 ?_);refine ag 7 (λGD=>?_) λGD=>?_
    ·have Y7:=BQ rv hT GD;subst Y7;refine dM ?_;refine ak (.s4 (.skip xr)) (aH 170 3 none ?_);exact bO 1
    ·have SN:=LU rv hT GD;have qc:E (acc++[t])=E acc+1:=by simp
     refine dx ?_;refine jX Qg rfl rfl rfl aa bY rfl rfl rfl (λ_=>rfl) aU aa aa ?_;intro _ A60 c60;refine fc ?_;refine aj ⟨_,aa,f',m-max 1 t.2.1,p3,acc++[t],A60,c60,⟨aa,aa,aa,aiI.2.2,SN,U_⟩,rfl,a_,.trans ((X4 (gC (gC (gC (.skip (.refl _))))))) (au ao MR (.refl _))⟩
theorem akt{most:Int}(hb:gw B w0 F A c b)(ey:E b<=1000000)(oh:most<=1000000):
  bg B w0 327 [.slice A (E b) c,ah most] F (aby (eh b most) F):=by
 by_cases hm:most<0
 ·exact aaW hm
 ·obtain⟨⟨l,e,p⟩,h1⟩:∃x,nW (eM b) 0 265=x:=⟨_,rfl⟩
  by_cases he:e=0
  ·subst he;obtain⟨⟨l2,e2,p2⟩,h2⟩:∃x,nW (eM b) p 12=x:=⟨_,rfl⟩
   by_cases he2:e2=0
   ·subst he2;exact aks hb ey hm oh h1 h2
   ·exact akr hb ey hm h1 h2 he2
  ·exact akq hb ey hm h1 he
end
section
theorem akV(h:P:=by(rw[S5];exact bj (by omega) (by omega))):P:=h
theorem U'(h:P:=by(rw[k3];exact hb.cons)):P:=h
theorem AO:bg B w0 177 [bq g] (Cv g A c s::F) (λr L=>r=ah s.at_/\L=Cv g A c s::F):=by
 refine fw func177 10 [0] ?_;exact cm 27
theorem Cs.fI(s:Cs){m:Int}(h0:0<=m)(hm:m<=9223372036854775807):(s.int m:Int)<=m:=by
 unfold Cs.int;split
 ·omega
 ·have h:=jN s.rest m hm;by_cases he:(eU s.rest m).2.2=0
  ·exact h.2.2.2 he
  ·rw[(pP he).1];omega
theorem rm(s:Cs)(e:Int):(s.failed e).b=s.b:=by unfold Cs.failed;split<;>rfl
theorem acW(b:aq):(IQ b).b=b:=by
 unfold IQ;split
 ·rw[rm];exact Cs.cO _ _ _
 ·exact Cs.cO _ _ _
theorem Wc(b:aq):(Wb b).b=b:=by
 unfold Wb;exact(Cs.cO _ _ _).trans (acW b)
theorem IS(b:aq):(qZ b).b=b:=by
 unfold qZ;split
 ·rw[rm];exact(Cs.cO _ _ _).trans (Wc b)
 ·exact(Cs.cO _ _ _).trans (Wc b)
theorem Wd(b:aq):(G2 b).b=b:=by
 unfold G2;exact(Cs.cO _ _ _).trans ((Cs.cO _ _ _).trans (IS b))
theorem aq1(b:aq):(sj b).b=b:=by
 unfold sj;split
 ·exact Wd b
 ·rw[rm];exact Wd b
theorem oe(h:E b<=1099511627776):cw ⟨b,0,0⟩:=⟨bD _,h⟩
theorem Sq(h:E b<=1099511627776):cw (IQ b):=by
 unfold IQ;split
 ·exact(oe h).eV.failed _
 ·exact(oe h).eV
theorem Kz(h:E b<=1099511627776):cw (Wb b):=(Sq h).bX aa
theorem xi(h:E b<=1099511627776):cw (qZ b):=by
 unfold qZ;split
 ·exact((Kz h).bX aa).failed _
 ·exact(Kz h).bX aa
theorem KA(h:E b<=1099511627776):cw (G2 b):=(xi h).bR.bR
theorem amW(h:E b<=1099511627776):cw (sj b):=by
 unfold sj;split
 ·exact KA h
 ·exact(KA h).failed _
theorem m7{s':Cs}{L':aN}(h:s=s')(k:Wk L L'):Wk (Cv g A c s::L) (Cv g A c s'::L'):=by subst h;exact k.cons
abbrev Fb(g gc:Nat)(w n p:Nat)(bd:Value):Ch:=.bI g 379 [bq gc,ah w,ah n,ah p,bd]
theorem aie(hb:gw B w0 F A c b)(ey:E b<=1099511627776):
  bg B w0 301 [bq g] (Fb g gc 0 0 0 (.slice none 0 0)::Cv gc A c ⟨b,0,0⟩::F)
   (λr L=>r= .tuple #[]/\L=Fb g gc (Cs.byte ⟨b,0,0⟩).toNat (wq b) (oO b) (.slice none 0 0)::Cv gc A c (qZ b)::F):=by
 have hx:=kR (Cs.byte ⟨b,0,0⟩);obtain⟨x,S5⟩:=cM ((Cs.byte ⟨b,0,0⟩).toNat);have hN:((wq b:Nat):Int)<=32768:=Cs.fI _ aa aa;have hP:((oO b:Nat):Int)<=32768:=Cs.fI _ aa aa;have k1:=acW b;have k2:=Wc b;have k3:=IS b;rw[<-S5]at hx⊢;refine ba func301 53 [0] 7 ?_;refine ai rfl ((oK (g:=gc) (oe ey) (aJ.cons hb)).perm ((oI (gh (.refl _))))) (ab (be underlying5 underlying3 rfl (r:=(x:Int)) akV) rfl (dx ?_));refine dq (λzf zL=>Sub zf [(0,bq g)]/\Wk zL (Cv gc A c (IQ b)::Fb g gc x 0 0 (.slice none 0 0)::F)) ?_ ?_
 ·refine ag 9 (λmj=>?_) λmj=>?_
  ·refine dx ?_;refine ai rfl (ny 2) (ve [0] ?_);exact bo ⟨a_,m7 (by unfold IQ;rw[av aa]) (.refl _)⟩
  ·refine aX ?_;exact bo ⟨a_,m7 (by unfold IQ;rw[aB aa]) (.refl _)⟩
 ·rintro _ _ ⟨hs,hp⟩;refine aL hs hp (aX ?_);have e2:Wb b=(IQ b).bX 32768:=rfl;have eN:wq b=(IQ b).int 32768:=rfl;have eP:oO b=(Wb b).int 32768:=rfl;refine dw ?_;refine ai rfl (jb (s:=IQ b) (Sq ey) (by rw[k1];exact hb.cons) aa aa) (dw ?_);rw[<-eN,<-e2];refine dw ?_;refine ai rfl (jb (s:=Wb b) (Kz ey) (by rw[k2];exact hb.cons) aa aa) (dw ?_);rw[<-eP];refine dA ?_;refine bJ (eo rfl rfl (r:=((1032*oO b:Nat):Int)) ((bj aa aa).trans aa)) rfl (bJ (bF rfl rfl (r:=((1032*oO b+64:Nat):Int)) ((bj aa aa).trans aa)) rfl (aX ?_));refine lD [(0,_),(47,_)] ⟨rfl,rfl,trivial⟩ ?_;refine ag 1 (λxk=>?_) λxk=>?_
  ·refine dx ?_;refine ai rfl (ny 6) (ew ?_);exact ak (.trans (m7 (s':=qZ b) (by unfold qZ;rw[av aa]) (.refl _)) (.swap (.refl _))) (cm 1)
  ·refine ew ?_;exact ak (.trans (m7 (s':=qZ b) (by unfold qZ;rw[aB aa]) (.refl _)) (.swap (.refl _))) (cm 1)
theorem RS{n:Nat}{xs:cQ}(HT:cK B w0)(e1:n=E l)(e2:xs=bv l)(hb:aJ B w0 F 1 (.slice A n c) n xs)(hl:E l<=1099511627776):
  bg B w0 176 [.slice A n c] F (λr L=>∃A' c',r= .tuple #[.slice A' (E (aT l).1) c',ah (aT l).2]/\L= .own 5 1 A' (E (aT l).1) c' (bv (aT l).1)::F):=by
 subst e1;subst e2;exact xe HT hb hl
theorem aik(HT:cK B w0){w n:Nat}(hb:gw B w0 F A c b)(nD:gw B w0 F A2 c2 b)(ey:E b<=1099511627776):
  bg B w0 302 [bq g,.slice A2 (E b) c2] (Fb g gc w n (oO b) (.slice none 0 0)::Cv gc A c (qZ b)::F)
   (λr L=>r= .tuple #[]/\∃A' c',L=Fb g gc w n (oO b) (.slice A' (E (zW b)) c')::Cv gc A c (sj b):: .own 5 1 A' (E (zW b)) c' (bv (zW b))::F):=by
 have hP:((oO b:Nat):Int)<=32768:=Cs.fI _ aa aa;have k3:=IS b;have k4:=Wd b;have o4:=KA ey;have o4a:=o4.at_;rw[k4]at o4a;obtain⟨s4,x9⟩:=cM ((qZ b).bR (oO b));have o4':cw s4:=by rw[x9];exact(xi ey).bR
 have k4':s4.b=b:=by rw[x9];exact(Cs.cO _ _ _).trans k3
 have e4:G2 b=s4.bR 4:=by rw[x9];rfl
 have e5:zW b=(qZ b).take (oO b):=rfl;refine dQ.yk nD.cons.cons λoP _=>?_;refine fw func302 46 [0,1] ?_;refine cN 1 F ?_;refine aF 0 4 ?_;refine aF 5 3 ?_;refine iv 4 8 ?_ ?_
 ·refine aX ?_;refine aC 8 (aX ?_);refine aC 9 (cj rfl rfl ((mx (g:=gc) (s:=qZ b) (m:=oO b) (xi ey) U' aa aa).perm ((oI (gh (.refl _))))) λqh tX=>aF 10 2 ?_);refine aC 12 (fb ?_);rw[<-x9,<-e5];refine dx ?_;refine ay rfl (mx (g:=gc) (s:=s4) (m:=4) o4' (by rw[k4'];exact hb.cons.cons) aa aa) λUT Vs=>ve [0,1] ?_;refine fc ?_;rw[<-e4];refine dx ?_;refine ai rfl (ik) (ag 3 (λqa=>?_) λqa=>?_)
  ·refine ew ?_;refine ak (.trans (m7 (s':=sj b) (by unfold sj;rw[av qa]) (.refl _)) ((vu (dL (gC (.skip (.refl _))))))) (aX ?_);exact⟨rfl,qh,tX,rfl⟩
  ·refine fc ?_;obtain⟨m,hm⟩:=cM ((G2 b).at_);have vM:=nD.h_ (k:=m) aa;rw[cH]at vM;refine dw ?_;refine ai rfl (AO) (ab (bQ (i:=m) (size:=1) underlying27 ae rfl rfl aa aa) rfl (ay rfl (RS (l:=b.take m) HT jA (by simp[bv,mY]) vM.cons.cons.cons.cons jA) λME Yj=>aD 5 [0,5] 7 ?_));refine ai rfl ((ny (aT (b.take m)).2).perm ((oI (gh (.refl _))))) (ew ?_);refine ak (.trans (m7 (s':=sj b) (by unfold sj;rw[aB qa,hm]) (.refl _)) ((X4 (dL (lU (.s2 (.refl _))))))) (aX ?_);exact⟨rfl,qh,tX,rfl⟩
 ·refine aX ?_;refine aC 4 (aX ?_);refine aC 9 (cj rfl rfl ((mx (g:=gc) (s:=qZ b) (m:=oO b) (xi ey) U' aa aa).perm ((oI (gh (.refl _))))) λqh tX=>aF 10 2 ?_);refine aC 12 (fb ?_);rw[<-x9,<-e5];refine dx ?_;refine ay rfl (mx (g:=gc) (s:=s4) (m:=4) o4' (by rw[k4'];exact hb.cons.cons) aa aa) λUT Vs=>ve [0,1] ?_;refine fc ?_;rw[<-e4];refine dx ?_;refine ai rfl (ik) (ag 3 (λqa=>?_) λqa=>?_)
  ·refine ew ?_;refine ak (.trans (m7 (s':=sj b) (by unfold sj;rw[av qa]) (.refl _)) ((vu (dL (gC (.skip (.refl _))))))) (aX ?_);exact⟨rfl,qh,tX,rfl⟩
  ·refine fc ?_;obtain⟨m,hm⟩:=cM ((G2 b).at_);have vM:=nD.h_ (k:=m) aa;rw[cH]at vM;refine dw ?_;refine ai rfl (AO) (ab (bQ (i:=m) (size:=1) underlying27 ae rfl rfl aa aa) rfl (ay rfl (RS (l:=b.take m) HT jA (by simp[bv,mY]) vM.cons.cons.cons.cons jA) λME Yj=>aD 5 [0,5] 7 ?_));refine ai rfl ((ny (aT (b.take m)).2).perm ((oI (gh (.refl _))))) (ew ?_);refine ak (.trans (m7 (s':=sj b) (by unfold sj;rw[aB qa,hm]) (.refl _)) ((X4 (dL (lU (.s2 (.refl _))))))) (aX ?_);exact⟨rfl,qh,tX,rfl⟩
theorem ai'{p b:Nat}(hb:b<=7)(hp:p<=E q)(l_:E fl=12):0<=(jt fl q p ((257+b:Nat):Int)).1.2.2/\(jt fl q p ((257+b:Nat):Int)).1.2.2<=5000:=by
 by_cases h1:pE q p b=0
 ·obtain⟨p1,yS⟩:∃x,fH q p b=x:=⟨_,rfl⟩
  have Zo:p1<=E q:=by rw[<-yS];exact mB _ hp
  have la:=vL fl q Zo;obtain⟨⟨k,e,p2⟩,hH⟩:∃x,dN fl q p1=x:=⟨_,rfl⟩
  rw[hH]at la;simp only at la;by_cases h2:e=0
  ·subst h2;obtain⟨s,rfl,hs,_⟩:=la.2.2.1 rfl;have KN:=qL q p2 (n:=s) aa;have vN:2^s<=2048:=gz (n:=2) aa (by omega:s<=11);by_cases h3:pE q p2 s=0
   ·rw[TC h1 yS hH h3];exact⟨cX,cX⟩
   ·rw[TA h1 yS hH h3];exact⟨cX,cX⟩
  ·rw[Tz h1 yS hH h2];exact⟨cX,cX⟩
 ·rw[Ty h1];exact⟨cX,cX⟩
theorem akn{sl:aq}{p:Nat}(hp:p<=E q)(lB:E sl=265)(l_:E fl=12):0<=(ic sl fl q p).1.2.2/\(ic sl fl q p).1.2.2<=5000:=by
 have la:=vL sl q hp;obtain⟨⟨k,e,p1⟩,hH⟩:∃x,dN sl q p=x:=⟨_,rfl⟩
 rw[hH]at la;simp only at la;by_cases h:¬e=0\/k=256
 ·rw[Uv hH h];exact⟨cX,cX⟩
 ·have he0:e=0:=b_ λk=>h (.inl k);subst he0;obtain⟨s,rfl,hs,_⟩:=la.2.2.1 rfl;by_cases h2:s<256
  ·rw[Uw hH h2];exact⟨cX,cX⟩
  ·obtain⟨b,rfl⟩:∃b,s=257+b:=⟨s-257,aa⟩
   rw[Ux hH];exact ai' aa la.2.1 l_
theorem Qz{q:List Bool}{sl fl:aq}(lB:E sl=265)(l_:E fl=12):∀(f:Nat) (most:Int) (p:Nat) (acc:List bG),p<=E q->zJ acc->0<=most->
  (E (oT sl fl q f most p acc).1:Int)<=E acc+most/\zJ (oT sl fl q f most p acc).1
 |0,most,p,acc,hp,ha,h0=>⟨by simp[oT];omega,λt h=>jB⟩
 |f+1,most,p,acc,hp,ha,h0=>by
  have h1:=QD (sl:=sl) (fl:=fl) hp lB l_;have h2:=akn (sl:=sl) (fl:=fl) hp lB l_;obtain⟨⟨t,ok,e,p2⟩,hT⟩:∃x,ic sl fl q p=x:=⟨_,rfl⟩
  rw[hT]at h1 h2;simp only at h1 h2;by_cases he:e=0
  ·subst he;cases ok with
   |false=>
    rw[Ge rfl hT];split
    ·exact⟨cX,ha⟩
    ·exact⟨bS,λt h=>jB⟩
   |true=>
    by_cases hm:most-max 1 t.2.1<0
    ·rw[BQ rfl hT hm];exact⟨bS,λt h=>jB⟩
    ·rw[<-LU rfl hT hm];have:=Qz lB l_ f (most-max 1 t.2.1) p2 (acc++[t]) h1.2.2 (λu hu=>by
      rcases dO.1 hu with hu|hu
      ·exact ha u hu
      ·rw[kT.1 hu];exact⟨⟨aa,aa⟩,aa,aa⟩) aa
     rw[bm,tz]at this;exact⟨by have:=this.1;omega,this.2⟩
  ·rw[Gf rfl hT he];exact⟨bS,λt h=>jB⟩
theorem aaS{most:Int}(h0:0<=most):(E (eh b most).1:Int)<=most/\zJ (eh b most).1:=by
 have yU:=dm b;obtain⟨⟨l,e,p⟩,h1⟩:∃x,nW (eM b) 0 265=x:=⟨_,rfl⟩
 by_cases he:e=0
 ·subst he;obtain⟨⟨l2,e2,p2⟩,h2⟩:∃x,nW (eM b) p 12=x:=⟨_,rfl⟩
  by_cases he2:e2=0
  ·subst he2;have kh:p<=E (eM b):=by have:=u9 (q:=eM b) (p:=0) 265 aa;rw[h1]at this;exact this
   have G_:p2<=E (eM b):=by have:=u9 (q:=eM b) (p:=p) 12 kh;rw[h2]at this;exact this
   have q9:E l=265:=by have:=vR (q:=eM b) (p:=0) (n:=265);rw[show(((265:Nat):Int))=265 from rfl,h1]at this;exact this rfl
   have oB:E l2=12:=by have:=vR (q:=eM b) (p:=p) (n:=12);rw[show(((12:Nat):Int))=12 from rfl,h2]at this;exact this rfl
   rw[LY aa h1 h2];have:=Qz (q:=eM b) q9 oB (most.toNat+1) most p2 [] G_ (λt h=>jB) h0;simpa using this
  ·rw[LW aa h1 h2 he2];exact⟨bS,λt h=>jB⟩
 ·rw[LV aa h1 he];exact⟨bS,λt h=>jB⟩
def FrA(R:aq×Int)(B:Nat)(w0:World)(F:aN)(r:Value)(L:aN):Prop:=∃A' c' Y,r= .tuple #[.slice A' (E R.1) c',ah R.2]/\L=Y++F/\aJ B w0 L 1 (.slice A' (E R.1) c') (E R.1) (bv R.1)
section
variable{w n p:Nat}{bd:aq}
theorem aq2(h:w=0)(h2:n≠p):IT w n p bd=([],2):=by unfold IT;rw[av h,av h2]
theorem aq3(h:w=0)(h2:¬n≠p):IT w n p bd=(bd,0):=by unfold IT;rw[av h,aB h2]
theorem aq4(h:¬w=0)(h2:(eh bd n).2≠0):IT w n p bd=([],(eh bd n).2):=by unfold IT;rw[aB h,av h2]
theorem aq5(h:¬w=0)(h2:¬(eh bd n).2≠0)(h3:(gP (eh bd n).1 n).2≠0):IT w n p bd=([],(gP (eh bd n).1 n).2):=by unfold IT;rw[aB h,aB h2,av h3]
theorem aq6(h:¬w=0)(h2:¬(eh bd n).2≠0)(h3:¬(gP (eh bd n).1 n).2≠0)(h4:E (gP (eh bd n).1 n).1<n):IT w n p bd=([],2):=by unfold IT;rw[aB h,aB h2,aB h3,av h4]
theorem aq7(h:¬w=0)(h2:¬(eh bd n).2≠0)(h3:¬(gP (eh bd n).1 n).2≠0)(h4:¬E (gP (eh bd n).1 n).1<n):IT w n p bd=((gP (eh bd n).1 n).1,0):=by unfold IT;rw[aB h,aB h2,aB h3,aB h4]
end
theorem FrA.nil{R:aq×Int}{Y:aN}(h:R.1=[])(hr:r= .tuple #[.slice none 0 0,ah R.2])(hL:L=Y++F):FrA R B w0 F r L:=by
 obtain⟨l,e⟩:=R;simp only at h;subst h;exact⟨none,0,Y,hr,hL,aJ.C4⟩
theorem acO{w n p:Nat}{bd:aq}(hb:gw B w0 F A c bd)(ey:E bd<=1000000)(hn:n<=32768):
  bg B w0 303 [bq g] (Fb g gc w n p (.slice A (E bd) c)::F) (FrA (IT w n p bd) B w0 (Fb g gc w n p (.slice A (E bd) c)::F)):=by
 have hta:=aaS (b:=bd) (most:=n) aa;refine fw func303 62 [0] ?_;refine ag 16 (λoA=>?_) λoA=>?_
 ·refine ag 14 (λkp=>?_) λkp=>?_
  ·refine aD 4 [2,3] 5 ?_;rw[aq2 aa aa];exact FrA.nil (Y:=[]) rfl rfl rfl
  ·refine aD 10 [2,3] 4 ?_;rw[aq3 aa aa];exact⟨A,c,[],rfl,rfl,hb.cons⟩
 ·refine cN 3 (Fb g gc w n p (.slice A (E bd) c)::F) ?_;refine aF 0 8 ?_;refine aC 8 (cj rfl rfl (akt (b:=bd) (most:=n) hb.cons ey aa) λtI tY=>aF 9 5 ?_);refine di [0,4,5] ?_;refine ag 8 (λGB=>?_) λGB=>?_
  ·refine dh ?_;rw[aq4 aa GB];exact FrA.nil (Y:=[_]) rfl rfl rfl
  ·refine dA ?_;refine ay rfl (aoj (l:=(eh bd n).1) (most:=n) (aJ.own (.head _)) aa aa aa hta.2) λA46 c46=>ag 16 (λOd=>?_) λOd=>?_
   ·refine aD 5 [2,3] 5 ?_;rw[aq5 aa GB Od];exact FrA.nil (Y:=[_,_]) rfl rfl rfl
   ·refine aD 10 [6,53] 0 ?_;refine ag 1 (λh53=>?_) λh53=>?_
    ·refine dh ?_;rw[aq6 aa GB Od aa];exact FrA.nil (Y:=[_,_]) rfl rfl rfl
    ·refine dM ?_;rw[aq7 aa GB Od aa];exact⟨A46,c46,[_,_],rfl,rfl,aJ.own (.head _)⟩
theorem IU(s:Cs)(n:Nat):E (s.take n)<=n:=by
 unfold Cs.take;split
 ·simp
 ·split
  ·simp
  ·rw[fZ];omega
def OpA(b:aq)(B:Nat)(w0:World)(F:aN)(r:Value)(L:aN):Prop:=
 if (sj b).e≠0 then r= .tuple #[.pointer none,.slice none 0 0,ah (sj b).e]/\L=F
 else∃A' c' g gc Ac cc M w n p bd,r= .tuple #[bq g,.slice A' (E (G3 b).1) c',ah (G3 b).2]/\L=Fb g gc w n p bd::Cv gc Ac cc (sj b)::M/\Wk M F/\aJ B w0 L 1 (.slice A' (E (G3 b).1) c') (E (G3 b).1) (bv (G3 b).1)
theorem Wa(HT:cK B w0)(hb:gw B w0 F A c b)(ey:E b<=1000000):
  bg B w0 272 [.slice A (E b) c] F (OpA b B w0 F):=by
 have hN:((wq b:Nat):Int)<=32768:=Cs.fI _ aa aa;have hB:E (zW b)<=1000000:=by
  have h1:=IU (qZ b) (oO b);have h2:zW b=(qZ b).take (oO b):=rfl;have h3:((oO b:Nat):Int)<=32768:=Cs.fI _ aa aa;rw[h2];omega
 refine ba func272 34 [0] 10 ?_;refine dV rfl (n_ hb aa) λgn An cn=>ab (bw [(0,_)] [.pointer none,ah 0,ah 0,ah 0,.slice none 0 0] [0] [_,_,_,_,_] rfl rfl ae) rfl (fM λwM=>?_);refine dw ?_;refine ai rfl (aie (b:=b) (aJ.own (.head _)) aa) (dw ?_);refine bp aqJ rfl (aik HT (b:=b) (aJ.own (.head _)) hb.cons aa) rfl ?_;rintro _ _ ⟨rfl,Ab,cb,cR⟩;obtain rfl:=cR.symm;refine dA ?_;refine ai rfl ((ik).perm ((oI (gh (.refl _))))) (aD 1 [5,6] 0 ?_);refine ag 7 (λkJ=>?_) λkJ=>?_
 ·refine dh ?_;refine ak (.s4 (.refl _)) (aX ?_);unfold OpA;rw[av kJ];exact⟨rfl,rfl⟩
 ·refine dx ?_;refine bp aqK rfl (.perm (acO (bd:=zW b) (aJ.own (.tail _ (.head _))) hB aa) ((oI (gh (.refl _))))) rfl ?_;rintro _ _ ⟨Ar,cr,Y,rfl,cR,Dn⟩;obtain rfl:=cR.symm;refine bK 18 ?_;have G':=rJ Y [Fb wM gn (Cs.byte ⟨b,0,0⟩).toNat (wq b) (oO b) (.slice Ab (E (zW b)) cb),Cv gn An cn (sj b)] (.own 5 1 Ab (E (zW b)) cb (bv (zW b)):: .own 5 1 An (E b) cn (bv b)::F);refine ak (.c_ G') (aX ?_);unfold OpA;rw[aB kJ];exact⟨Ar,cr,wM,gn,An,cn,_,_,_,_,_,rfl,rfl,(ej Y _).trans (.s2 (.refl F)),Dn.perm G'⟩
theorem Fu(most:Int):∀(l:List bG) (out:aq),(E out:Int)<=most->(E (gO most out l).1:Int)<=most
 |[],out,h=>by simpa[gO]using h
 |t::r,out,h=>by
  by_cases h1:dX t
  ·by_cases h2:(E out:Int)<t.2.2
   ·rw[BB most h1 h2];simp;omega
   ·by_cases h3:most-E out<max 1 t.2.1
    ·rw[xI most h1 h2 h3];simp;omega
    ·by_cases h4:t.2.1=0
     ·rw[BD most h1 h2 h3 h4];exact Fu most r _ U_
     ·rw[xH most h1 h2 h3 h4];exact Fu most r _ (by rw[ld];omega)
  ·rw[BA most h1];simp;omega
theorem aii{w n p:Nat}{bd:aq}:E (IT w n p bd).1<=max n (E bd):=by
 unfold IT;split
 ·split
  ·simp
  ·simp only;omega
 ·split
  ·simp
  ·split
   ·simp
   ·split
    ·simp
    ·have h:=Fu n (eh bd n).1 [] ao;unfold gP;rw[aB aa];simp only;omega
theorem We(b:aq):E (G3 b).1<=32768:=by
 have hN:((wq b:Nat):Int)<=32768:=Cs.fI _ aa aa;have hP:((oO b:Nat):Int)<=32768:=Cs.fI _ aa aa;have h1:=IU (qZ b) (oO b);have h2:zW b=(qZ b).take (oO b):=rfl;have h3:=aii (w:=(Cs.byte ⟨b,0,0⟩).toNat) (n:=wq b) (p:=oO b) (bd:=zW b);rw[h2]at h3;unfold G3;rw[h2];omega
abbrev BlA(R:aq×Nat×Int)(F:aN)(r:Value)(L:aN):Prop:=∃A' c',r= .tuple #[.slice A' (E R.1) c',ah (R.2.1:Int),ah R.2.2]/\L= .own 5 1 A' (E R.1) c' (bv R.1)::F
theorem ahH(HT:cK B w0)(hb:gw B w0 F A c b)(ey:E b<=1000000)(h:(sj b).e≠0):
  bg B w0 230 [.slice A (E b) c] F (BlA (du b) F):=by
 have Mw:=(Wa HT hb ey).mono (R':=λr L=>r= .tuple #[.pointer none,.slice none 0 0,ah (sj b).e]/\L=F) λv L' k=>by unfold OpA at k;rw[av h]at k;exact k
 refine ba func230 24 [0] 10 ?_;refine ai rfl (Mw) (ag 16 (λmj=>?_) λmj=>?_)
 ·refine dh ?_;refine aH 5 1 none (aX ?_);unfold du;rw[av h];exact⟨none,0,rfl,rfl⟩
 ·exfalso;exact mj h
def OpB(b:aq)(B:Nat)(w0:World)(F:aN)(r:Value)(L:aN):Prop:=
 ∃A' c' g gc Ac cc M w n p bd,r= .tuple #[bq g,.slice A' (E (G3 b).1) c',ah (G3 b).2]/\L=Fb g gc w n p bd::Cv gc Ac cc (sj b)::M/\Wk M F/\aJ B w0 (Fb g gc w n p bd::Cv gc Ac cc (sj b)::M) 1 (.slice A' (E (G3 b).1) c') (E (G3 b).1) (bv (G3 b).1)
theorem ahI(HT:cK B w0)(hb:gw B w0 F A c b)(ey:E b<=1000000)(h:¬(sj b).e≠0):
  bg B w0 230 [.slice A (E b) c] F (BlA (du b) F):=by
 have Mw:=(Wa HT hb ey).mono (R':=OpB b B w0 F) λv L' k=>by
  unfold OpA at k;rw[aB h]at k;obtain⟨A',c',g,gc,Ac,cc,M,w,n,p,bd,h1,h2,h3,h4⟩:=k;rw[h2]at h4;exact⟨A',c',g,gc,Ac,cc,M,w,n,p,bd,h1,h2,h3,h4⟩
 refine ba func230 24 [0] 10 ?_;refine bp aqH rfl (Mw) rfl ?_;rintro _ _ ⟨Ao,co,go,gc,Ac,cc,M,w,n,p,bd,rfl,cR,hM,hbo⟩;obtain rfl:=cR.symm;refine ag 16 (λmj=>?_) λmj=>?_
 ·refine dh ?_;refine ak (.skip (.skip hM)) (aH 5 1 none ?_);refine aX ?_;unfold du;rw[aB h,av mj];exact⟨none,0,rfl,rfl⟩
 ·refine cN 3 (Fb go gc w n p bd::Cv gc Ac cc (sj b)::M) ?_;refine dI 0 ?_;refine aF 2 4 ?_;refine aC 1 (cj rfl rfl (mu (G3 b).1 hbo (by have:=We b;omega)) λuc wK=>aC 6 (lu rfl rfl ((AO).pY ((z_ (gh (gh (.refl _)))))) (aF 7 3 ?_)));refine di [2,3,4] ?_;refine ew ?_;refine ak (.cons (.skip (.skip hM))) (aX ?_);unfold du;rw[aB h,aB mj];exact⟨uc,wK,rfl,rfl⟩
theorem ahJ(HT:cK B w0)(hb:gw B w0 F A c b)(ey:E b<=1000000):
  bg B w0 230 [.slice A (E b) c] F (BlA (du b) F):=by
 by_cases h:(sj b).e≠0
 ·exact ahH HT hb ey h
 ·exact ahI HT hb ey h
end
theorem jC{L:List aI}(hc:dC L=0)(hx:∀x∈L,x.1<18446744073709551616):E L<=20000/\(∀x∈L,x.fits)/\dJ L<=1048576:=by
 unfold dC at hc;have:¬(20000<E L\/(∃x∈L,uS x)\/1048576<dJ L):=λh=>by rw[av h]at hc;simp at hc
 refine⟨aa,λx h=>⟨hx x h,?_,?_⟩,aa⟩
 ·exact wW λk=>this (.inr (.inl ⟨x,h,.inl k⟩))
 ·exact wW λk=>this (.inr (.inl ⟨x,h,.inr k⟩))
theorem Bv(hv:v=1\/v=2\/v=3)(h:dF v o=0):ju v o:=by
 unfold dF at h;rw[av hv]at h;exact b_ λk=>by rw[aB k]at h;simp at h
structure Left(S:Nat)(b pl:Bool)(full acc:aq)(L R:List aI)(ns:br):Prop where
 all:acc++(iV b pl ns R).flatten=full
 fit:w6 S (lens b R) ns
 sub:∀x∈R,x∈L
 w:dJ R<=dJ L
theorem Left.step{b:Bool}{full acc:aq}{L R:List aI}(h:Left S b pl full acc L R (n::ns))(hS:S<=32768)(hL:∀x∈L,x.fits):
  1<=n/\n<=E R/\E (ct b (R.take n))<=32768/\Left S b pl full (acc++(ij (ct b (R.take n)) pl).1) L (R.drop n) ns:=by
 obtain⟨f1,f2,f3,f4,f5⟩:=h.fit;rw[dP]at f2;refine⟨f1,f2,pd hS (λx hx=>hL x (h.sub x hx)) f1 f3,⟨?_,U8,λx hx=>h.sub x (oG hx),iY (JW R n) h.w⟩⟩;rw[<-h.all,bT];rfl
theorem DQ(h:E b<=32768):E (ij b pl).1<=33000/\(ij b pl).2=0:=by
 have hy:=yj b pl;have e1:=aY (x:=E b) aa;have e2:=aY (x:=E (jl b pl).2) aa;rw[J_ aa];refine⟨?_,rfl⟩;rw[dD,bm];unfold uh;rw[ei,bm];omega
abbrev Q3(R:aq×Int)(F:aN)(r:Value)(L:aN):Prop:=∃A' c',r= .tuple #[.slice A' (E R.1) c',ah R.2]/\L= .own 5 1 A' (E R.1) c' (bv R.1)::F
theorem Z7{L:List aI}(h:dF 1 o≠0):bg B w0 26 [.agg (aZ.cells o).toArray,.slice A (E L) c] F (Q3 (xF o L) F):=by
 have e:xF o L=([],dF 1 o):=by unfold xF;rw[av h]
 rw[e];obtain⟨bl,pl,bu,da,pa,ch⟩:=o;refine cV func26 80 rfl rfl rfl [(0,.agg #[ah bl,.bool pl,ah bu,ah da,ah pa,ah ch]),(1,.slice A (E L) c)] ⟨⟨rfl,rfl⟩,⟨rfl,rfl⟩,trivial⟩ ?_;refine bM 2 λg2=>?_;refine cY ?_;refine ai rfl (kU 1 (bl,pl,bu,da,pa,ch)) (ag 9 (λjq=>?_) λjq=>?_)
 ·refine dA ?_;refine ak (.skip (.refl _)) (aH 5 1 none ?_);exact bO 1
 ·exfalso;exact jq h
theorem Z8{L:List aI}(h:¬dF 1 o≠0)(hc:dC L≠0)(hb:aJ B w0 F 4 (.slice A (E L) c) (E L) (cD L)):bg B w0 26 [.agg (aZ.cells o).toArray,.slice A (E L) c] F (Q3 (xF o L) F):=by
 have e:xF o L=([],dC L):=by unfold xF;rw[aB h,av hc]
 rw[e];obtain⟨bl,pl,bu,da,pa,ch⟩:=o;refine cV func26 80 rfl rfl rfl [(0,.agg #[ah bl,.bool pl,ah bu,ah da,ah pa,ah ch]),(1,.slice A (E L) c)] ⟨⟨rfl,rfl⟩,⟨rfl,rfl⟩,trivial⟩ ?_;refine bM 2 λg2=>?_;refine cY ?_;refine ai rfl (kU 1 (bl,pl,bu,da,pa,ch)) (ag 9 (λjq=>?_) λjq=>?_)
 ·exfalso;exact h jq
 ·refine dw ?_;refine ai rfl (pg L hb.cons) (ag 9 (λpe=>?_) λpe=>?_)
  ·refine dA ?_;refine ak (.skip (.refl _)) (aH 5 1 none ?_);exact bO 1
  ·exfalso;exact pe hc
theorem N_{b:Bool}{L:List aI}{gs:br}(he:fz S (lens b L)=gs)(hb:aJ B w0 F 4 (.slice A (E L) c) (E L) (cD L))(hx:∀x∈L,x.1<18446744073709551616)(hw:dJ L<=1000000000)(hS:1<=S)(hS2:S<=9223372036854775807):
  bg B w0 43 [ah (S:Int),.bool b,.slice A (E L) c] F (λr K=>∃A' c',r= .slice A' (E gs) c'/\K= .own 3 1 A' (E gs) c' (bN gs)::F):=by
 have:=ada (B:=B) (w0:=w0) (F:=F) (S:Int) b L hb hx hw S aa hS2;rw[he]at this;exact this
theorem ajP(b:Bool){R:List aI}{k:Nat}(hk:k<=E R)(hb:aJ B w0 F 4 (.slice A (E R) c) (E R) (cD R))(hx:∀x∈R,x.1<18446744073709551616)(hw:dJ R<=1048576):
  bg B w0 45 [.bool b,.slice A k c] F (λr K=>∃A' c',r= .slice A' (E (ct b (R.take k))) c'/\K= .own 5 1 A' (E (ct b (R.take k))) c' (bv (ct b (R.take k)))::F):=by
 have h:=hb.h_ hk;rw[r8]at h;have hl:k=E (R.take k):=by rw[fZ];omega
 have hd:=Jt (B:=B) (w0:=w0) (F:=F) (A:=A) (c:=c) b (R.take k) (by rw[<-hl];exact h) (λx S5=>hx x (ia S5)) (by have:=kE R k;omega);rw[<-hl]at hd;exact hd
theorem anS(h:qu v=(l,0)):bg B w0 62 [ah v] F (λr L=>∃A' c',r= .tuple #[.slice A' (E l) c',ah 0]/\L= .own 5 1 A' (E l) c' (bv l)::F):=by
 have:=Tx (B:=B) (w0:=w0) (F:=F) v;rw[h]at this;exact this
theorem ai_(h:GI v 1 3):qu v=(eK++[UInt8.ofNat v.toNat],0):=by unfold qu;rw[av h]
theorem Z9(HT:cK B w0){L:List aI}(h:¬dF 1 o≠0)(hc:¬dC L≠0)(hx:∀x∈L,x.1<18446744073709551616)(hb:aJ B w0 F 4 (.slice A (E L) c) (E L) (cD L)):bg B w0 26 [.agg (aZ.cells o).toArray,.slice A (E L) c] F (Q3 (xF o L) F):=by
 have e:xF o L=(Bu o L,0):=by unfold xF;rw[aB h,aB hc]
 obtain⟨q9,oB,G4⟩:=jC (b_ hc) hx;have hom:=Bv (.inl rfl) (b_ h);obtain⟨⟨m1,m2⟩,_⟩:=hom;have Ms:E (dc o true L)<=E L:=by unfold dc;have:=lh o.1.toNat (lens true L);rwa [dP]at this
 have G5:Left o.1.toNat true o.2.1 (tU o L++(iV true o.2.1 (dc o true L) L).flatten) (tU o L) L L (dc o true L):=⟨rfl,jd _ _,λx hx=>hx,ga _⟩
 rw[e];refine dQ.yk hb λoP _=>?_;obtain⟨bl,pl,bu,da,pa,ch⟩:=o;simp only at m1 m2 G5;obtain⟨S,rfl⟩:=gl (show 0<=bl by omega);rw[lJ]at G5;obtain⟨gs,ED⟩:=cM (dc ((S:Int),pl,bu,da,pa,ch) true L);have Zh:fz S (lens true L)=gs:=by rw[ED];rfl
 have hH:tU ((S:Int),pl,bu,da,pa,ch) L=(eK++[1])++(aW S++([gj pl]++(aW (E L)++aW (E gs)))):=by rw[ED];rfl
 rw[<-ED]at G5 Ms;have Zl:=aY (x:=S) aa;have ry:=aY (x:=E L) aa;have hn3:=aY (x:=E gs) aa;have Wv:E (tU ((S:Int),pl,bu,da,pa,ch) L)<=60:=by rw[hH];simp only[bm,eK,ei,tT];omega
 obtain⟨full,Oq⟩:=cM (tU ((S:Int),pl,bu,da,pa,ch) L++(iV true pl gs L).flatten);have hB:Bu ((S:Int),pl,bu,da,pa,ch) L=b7 full:=by rw[Oq,ED];rfl
 rw[hB];rw[<-Oq]at G5;refine cV func26 80 rfl rfl rfl [(0,.agg #[ah (S:Int),.bool pl,ah bu,ah da,ah pa,ah ch]),(1,.slice A (E L) c)] ⟨⟨rfl,rfl⟩,⟨rfl,rfl⟩,trivial⟩ ?_;refine bM 2 λg2=>?_;refine cY ?_;refine ai rfl (kU 1 ((S:Int),pl,bu,da,pa,ch)) (ag 9 (λjq=>?_) λjq=>?_)
 ·exfalso;exact h jq
 ·refine dw ?_;refine ai rfl (pg L hb.cons) (ag 9 (λpe=>?_) λpe=>?_)
  ·exfalso;exact hc pe
  ·refine dg ?_;refine ay rfl (N_ Zh hb.cons hx aa aa aa) λB3 Ca=>aD 1 [1,2,8] 3 ?_;refine ay rfl (anS (l:=eK++[1]) (ai_ HX)) λRp c30=>dg ?_;refine dq (λzf zL=>∃(A9:bh) (c9:Nat),Sub zf [(1,.slice A (E L) c),(2,bq g2),(8,.slice B3 (E gs) Ca),(9,.slice A9 (E (tU ((S:Int),pl,bu,da,pa,ch) L)) c9)]/\Wk zL (.own 5 1 A9 (E (tU ((S:Int),pl,bu,da,pa,ch) L)) c9 (bv (tU ((S:Int),pl,bu,da,pa,ch) L)):: .own 3 1 B3 (E gs) Ca (bN gs):: .bI g2 23 [ah (S:Int),.bool pl,ah bu,ah da,ah pa,ah ch]::F)) ?_ ?_
   ·refine lx (.own 5 1 Rp (E (eK++[1]:aq)) c30 (bv (eK++[1])):: .own 3 1 B3 (E gs) Ca (bN gs):: .bI g2 23 [ah (S:Int),.bool pl,ah bu,ah da,ah pa,ah ch]::F) ?_;refine aF 0 3 ?_;refine aS 3 rfl (be underlying3 underlying60 rfl (r:=(S:Int)) (eQ aa aa)) (aF 5 2 ?_);refine aF 9 2 ?_;refine aS 11 rfl (be underlying3 underlying60 rfl (r:=(E L:Int)) (eQ aa aa)) (aF 13 2 ?_);refine aS 15 rfl (be underlying3 underlying60 rfl (r:=(E gs:Int)) (eQ aa aa)) (aC 4 (cj rfl rfl (ji S aa) λME Yj=>aC 7 (lu rfl rfl (amU pl) (iv 8 12 ?_ ?_))))
    ·refine cF rfl (aG bP [_] rfl rfl bY aa aa) λMk=>aC 12 (cj rfl rfl (ji (E L) aa) λMl Nb=>aC 16 (cj rfl rfl (ji (E gs) aa) λA49 c49=>aC 17 (cF rfl (aG fO [_,_,_,_,_] rfl rfl bY aa aa) λwF=>aC 18 (cj rfl rfl (J3 (l1:=eK++[1]) (l2:=aW S) (l3:=[gj pl]) (l4:=aW (E L)) (l5:=aW (E gs)) aA aA aA aA aA aA hH aa) λA51 c51=>?_))));refine dI 19 ?_;refine di [1,2,8,9] ?_;exact bo ⟨A51,c51,a_,(dL (wu6 (wu6 (.s6 (.refl _)))))⟩
    ·refine cj rfl rfl (ji (E L) aa) λMl Nb=>iv 8 16 ?_ ?_
     ·refine cF rfl (aG bP [_] rfl rfl bY aa aa) λMk=>aC 16 (cj rfl rfl (ji (E gs) aa) λA49 c49=>aC 17 (cF rfl (aG fO [_,_,_,_,_] rfl rfl bY aa aa) λwF=>aC 18 (cj rfl rfl (J3 (l1:=eK++[1]) (l2:=aW S) (l3:=[gj pl]) (l4:=aW (E L)) (l5:=aW (E gs)) aA aA aA aA aA aA hH aa) λA51 c51=>?_)));refine dI 19 ?_;refine di [1,2,8,9] ?_;exact bo ⟨A51,c51,a_,(dL (wu6 (wu6 (.s6 (.refl _)))))⟩
     ·refine cj rfl rfl (ji (E gs) aa) λA49 c49=>aC 8 (cF rfl (aG bP [_] rfl rfl bY aa aa) λMk=>aC 17 (cF rfl (aG fO [_,_,_,_,_] rfl rfl bY aa aa) λwF=>aC 18 (cj rfl rfl (J3 (l1:=eK++[1]) (l2:=aW S) (l3:=[gj pl]) (l4:=aW (E L)) (l5:=aW (E gs)) aA aA aA aA aA aA hH aa) λA51 c51=>?_)));refine dI 19 ?_;refine di [1,2,8,9] ?_;exact bo ⟨A51,c51,a_,(dL (wu6 (wu6 (.s6 (.refl _)))))⟩
   ·rintro _ _ ⟨A9,c9,hs,hp⟩;refine aL hs hp (dA ?_);refine aw (λzf zL zm=>∃(k:Nat) (acc:aq) (R:List aI) (Ar:bh) (cr:Nat) (A':bh) (c':Nat),(k<=E gs/\Left S true pl full acc L R (gs.drop k)/\E R<=cr/\aJ B w0 F 4 (.slice Ar (E R) cr) (E R) (cD R)/\E acc<=60+33000*k)/\E gs-k=zm/\Sub zf [(1,.slice Ar (E R) cr),(2,bq g2),(9,.slice A' (E acc) c'),(52,.slice B3 (E gs) Ca),(53,ah (E gs)),(54,ah k)]/\Wk zL (.own 5 1 A' (E acc) c' (bv acc):: .own 3 1 B3 (E gs) Ca (bN gs):: .bI g2 23 [ah (S:Int),.bool pl,ah bu,ah da,ah pa,ah ch]::F)) _ ⟨0,tU ((S:Int),pl,bu,da,pa,ch) L,L,A,c,A9,c9,⟨bD _,G5,oP,hb,aa⟩,rfl,a_,.refl _⟩ ?_;rintro _ _ _ ⟨k,acc,R,Ar,cr,A',c',⟨hk,G5,hrc,Dn,CU⟩,rfl,hs,hp⟩;refine aL hs hp (ag 6 (λh55=>?_) λh55=>?_)
    ·obtain⟨n,hn⟩:=cM (gs.getD k 0);have hgd:gs.drop k=n::gs.drop (k+1):=by rw[hn];exact cy aa 0
     rw[hgd]at G5;obtain⟨arS,Zm,aiG,adJ⟩:=G5.step aa oB;have hbw:=DQ (b:=ct true (R.take n)) (pl:=pl) aiG;have hxR:∀x∈R,x.1<18446744073709551616:=λx h=>hx x (G5.sub x h);have hwR:=G5.w;have hcut:=Dn.cut Zm;have SH:E (R.drop n)=E R-n:=jM;have qc:E (acc++(ij (ct true (R.take n)) pl).1)=E acc+E (ij (ct true (R.take n)) pl).1:=bm;rw[pj,<-SH]at hcut;refine dg ?_;refine ab (al ae rfl aA aa (fi (v:=n) aa hn.symm)) rfl ?_;refine cN 4 (.own 3 1 B3 (E gs) Ca (bN gs):: .bI g2 23 [ah (S:Int),.bool pl,ah bu,ah da,ah pa,ah ch]::F) ?_;refine aF 0 2 ?_;refine aS 2 rfl (bQ (i:=n) (size:=4) underlying24 ae rfl rfl rfl aa) (aF 4 2 ?_);refine aC 3 (cj rfl rfl (ajP (R:=R) true Zm Dn.cons.cons.cons hxR aa) λA62 c62=>aC 6 (cj rfl rfl (M_ HT (b:=ct true (R.take n)) (p:=pl) aA aa) λA65 c65=>?_));refine aF 7 5 ?_;refine ag 9 (λh69=>?_) λh69=>?_
     ·exfalso;exact h69 hbw.2
     ·refine dw ?_;refine dB (bB bP rfl aU rfl aA bY aa aa) λA73 c73=>?_;refine aD 1 [1,2,9,12,52,53,54] 4 ?_;refine ab (bV (i:=n) (size:=4) underlying24 ae rfl rfl rfl aa) rfl (cY ?_);refine aj ⟨_,aa,k+1,acc++(ij (ct true (R.take n)) pl).1,R.drop n,(if cr=n then Ar else Ar.map (·.add (n*4))),cr-n,A73,c73,⟨aa,adJ,aa,hcut,aa⟩,rfl,a_,.trans ((lU (lU (lU (.s2 (.refl _)))))) (au ao wJ (.refl _))⟩
    ·obtain rfl:k=E gs:=by omega
     have hr0:=G5.all;rw[Cu]at hr0;have uG:acc=full:=by rw[<-hr0];simp[iV]
     subst uG;refine cY ?_;refine ay rfl (qJ HT (l:=acc) aA aa) λA79 c79=>dx ?_;exact ak (.cons (.s3 (.refl _))) (bO 1)
theorem Z_(HT:cK B w0){L:List aI}(hx:∀x∈L,x.1<18446744073709551616)(hb:aJ B w0 F 4 (.slice A (E L) c) (E L) (cD L)):bg B w0 26 [.agg (aZ.cells o).toArray,.slice A (E L) c] F (Q3 (xF o L) F):=by
 by_cases h:dF 1 o≠0
 ·exact Z7 h
 ·by_cases hc:dC L≠0
  ·exact Z8 h hc hb
  ·exact Z9 HT h hc hx hb
theorem yh(o:aZ):bg B w0 41 [.agg (aZ.cells o).toArray] F (λr L=>r=ah (dF 2 (o2 o))/\L=F):=by
 obtain⟨bl,pl,bu,da,pa,ch⟩:=o;refine cV func41 11 rfl rfl rfl [(0,.agg #[ah bl,.bool pl,ah bu,ah da,ah pa,ah ch])] ⟨⟨rfl,rfl⟩,trivial⟩ ?_;refine bM 2 λg1=>?_;refine fF ?_;refine ab (bw [(0,_),(1,_),(2,_)] [ah 0,.bool false,ah 0,ah 0,ah 0,ah 0] [0,1,2] [_,_,_,_,_,_] rfl rfl ae) rfl (ai rfl (kU 2 (bl,pl,bu,0,0,0)) (fb ?_));exact ak (.skip (.refl _)) (cm 1)
theorem iA(l:br)(k:Nat):(l.take k).sum<=l.sum:=by
 conv=>rhs;rw[<-kH k l,pJ]
 omega
theorem DU(hb:aJ B w0 F 1 (.slice A (E ns) c) (E ns) (bN ns))(hl:E ns<=1099511627776)(hs:ns.sum<=1000000000000000):
  bg B w0 92 [.slice A (E ns) c] F (λr L=>r=ah (ns.sum:Nat)/\L=F):=by
 refine ba func92 17 [0] 19 ?_;refine aw (λzf zL zm=>∃(k:Nat),(k<=E ns)/\E ns-k=zm/\Sub zf [(3,ah ((ns.take k).sum:Nat)),(6,.slice A (E ns) c),(7,ah (E ns)),(8,ah k)]/\Wk zL (F)) _ ⟨0,bD _,rfl,a_,.refl _⟩ ?_;rintro _ _ _ ⟨k,hk,rfl,hs,hp⟩;refine aL hs hp ?_;clear hs hp;refine ag 6 (λh9=>?_) λh9=>?_
 ·obtain⟨v,hv⟩:=cM (ns.getD k 0);have sn:(ns.take (k+1)).sum=(ns.take k).sum+v:=by rw[aP aa 0,pJ,<-hv];simp
  have hle:=iA ns (k+1);refine dg ?_;refine ab (al ae rfl hb aa (fi (v:=v) aa hv.symm)) rfl (dw ?_);refine ab (bF rfl rfl (r:=(((ns.take (k+1)).sum:Nat):Int)) ((bj aa aa).trans aa)) rfl (cY ?_);refine aj ⟨_,aa,k+1,aa,rfl,a_,.refl _⟩
 ·obtain rfl:k=E ns:=by omega
  rw[js];exact cm 13
abbrev Db(g:Nat)(A1:bh)(n1 c1:Nat)(A2:bh)(n2 c2:Nat)(c i:Nat):Ch:=.bI g 83 [.slice A1 n1 c1,.slice A2 n2 c2,ah c,ah i]
def vw(ns ss:br)(k:Nat):aq:=((ns.zip ss).take k).flatMap λp=>aW p.1++aW p.2
theorem abo(hl:E ns=E ss){k:Nat}(hk:k<E ns):vw ns ss (k+1)=vw ns ss k++(aW (ns.getD k 0)++aW (ss.getD k 0)):=by
 unfold vw;rw[aP (d:=(0,0)) bS,tB];simp[bz,fx hk,fx (show k<E ss by omega),fx (show k<E (ns.zip ss) by simp;omega)]
theorem zS(ns ss:br)(h1:∀n∈ns,n<18446744073709551616)(h2:∀n∈ss,n<18446744073709551616)(k:Nat):E (vw ns ss k)<=20*k:=by
 unfold vw;have:∀l:List (Nat×Nat),(∀p∈l,p.1<18446744073709551616/\p.2<18446744073709551616)->E (l.flatMap λp=>aW p.1++aW p.2)<=20*E l:=by
  intro l;induction l with
  |nil=>simp
  |cons p r ih=>
   intro h;have h3:=ih λq hq=>h q (by simp[hq]);obtain⟨h4,h5⟩:=h p ao;have h6:=aY h4;have h7:=aY h5;rw[iX,bm,bm,ei];omega
 have h3:=this ((ns.zip ss).take k) λp hp=>by
  have hp:=ia hp;exact⟨h1 _ (List.of_mem_zip hp).1,h2 _ (List.of_mem_zip hp).2⟩
 rw[fZ]at h3;omega
theorem R9{cc ii:Nat}(hl:E ns=E ss)(nC:aJ B w0 F 1 (.slice A1 (E ns) c1) (E ns) (bN ns))(nD:aJ B w0 F 1 (.slice A2 (E ss) c2) (E ss) (bN ss))(hn:E ns<=100000)(hs:ns.sum<=1000000000000000)(jj:∀x∈ss,x<=1000000000000000)(hc:cc<=1000000000000000)(hi:ii<=1000000000000000):
  bg B w0 50 [bq g] (Db g A1 (E ns) c1 A2 (E ss) c2 cc ii::F) (GK (yC ns ss cc ii) (Db g A1 (E ns) c1 A2 (E ss) c2 cc ii::F)):=by
 have Zl:=aY (x:=ns.sum) aa;have ry:=aY (x:=E ns) aa;have hn3:=aY (x:=cc) aa;have hn4:=aY (x:=ii) aa;have hz:=zS ns ss (λn hn=>HJ) (λn hn=>by have:=jj n hn;omega);refine fw func50 63 [0] ?_;refine cN 6 (Db g A1 (E ns) c1 A2 (E ss) c2 cc ii::F) ?_;refine aF 0 4 ?_;refine aF 7 5 ?_;refine aS 12 rfl (be underlying3 underlying60 rfl (r:=((E ns:Nat):Int)) (eQ aa aa)) (aC 4 (lu rfl rfl (DU (ns:=ns) nC.cons aa hs) (aS 5 rfl (be underlying3 underlying60 rfl (r:=((ns.sum:Nat):Int)) (eQ aa aa)) (aC 6 (cj rfl rfl (ji ns.sum aa) λRn c12=>aC 13 (cj rfl rfl (ji (E ns) aa) λGA Q4=>aC 14 (cF rfl (aG fO [_,_] rfl rfl bY aa aa) λBZ=>aC 15 (cj rfl rfl (Rx (l1:=aW ns.sum) (l2:=aW (E ns)) aA aA aA rfl tg) λA21 c21=>?_))))))));refine dI 16 ?_;refine di [0,3] ?_;refine bK 13 ?_;refine aw (λzf zL zm=>∃(k:Nat) (A':bh) (c':Nat) (acc:aq),(k<=E ns/\acc=aW ns.sum++aW (E ns)++vw ns ss k)/\E ns-k=zm/\Sub zf [(0,bq g),(3,.slice A' (E acc) c'),(25,.slice A1 (E ns) c1),(26,ah (E ns)),(27,ah k)]/\Wk zL (.own 5 1 A' (E acc) c' (bv acc)::Db g A1 (E ns) c1 A2 (E ss) c2 cc ii::F)) _ ⟨0,A21,c21,aW ns.sum++aW (E ns),⟨bD _,by simp[vw]⟩,rfl,a_,(dL (vu (.s3 (.refl _))))⟩ ?_;rintro _ _ _ ⟨k,A',c',acc,⟨hk,jL⟩,rfl,hs,hp⟩;refine aL hs hp ?_;clear hs hp;refine ag 6 (λqa=>?_) λqa=>?_
 ·obtain⟨v,hv⟩:=cM (ns.getD k 0);obtain⟨u,hu⟩:=cM (ss.getD k 0);have hzs:=abo hl (k:=k) aa;have CX:=hz k;have sI:=hz (k+1);have hvs:v<=ns.sum:=by rw[hv];exact np (bc aa 0)
  have hus:u<=1000000000000000:=by rw[hu];exact jj _ (bc aa 0)
  have hn5:=aY (x:=v) aa;have hn6:=aY (x:=u) aa;rw[<-hv,<-hu]at hzs;have CU:E acc=E (aW ns.sum)+E (aW (E ns))+E (vw ns ss k):=by rw[jL];simp only[bm]
  refine cY ?_;refine ab (al ae rfl aA aa (fi (v:=v) aa hv.symm)) rfl ?_;refine cN 4 (.own 5 1 A' (E acc) c' (bv acc)::Db g A1 (E ns) c1 A2 (E ss) c2 cc ii::F) ?_;refine aF 0 2 ?_;refine aS 2 rfl (be underlying3 underlying60 rfl (r:=((v:Nat):Int)) (eQ aa aa)) (aF 4 6 ?_);refine aS 10 rfl (al ae rfl aA aa (fi (v:=u) aa hu.symm)) ?_;refine aS 11 rfl (be underlying3 underlying60 rfl (r:=((u:Nat):Int)) (eQ aa aa)) (aC 3 (cj rfl rfl (ji v aa) λDe c35=>aC 12 (cj rfl rfl (ji u aa) λA44 c44=>aC 13 (cF rfl (aG fO [_,_,_] rfl rfl bY aa aa) λMl=>aC 14 (cj rfl rfl (J2 (l1:=acc) (l2:=aW v) (l3:=aW u) aA aA aA aA rfl HU) λA46 c46=>?_)))));refine dI 15 ?_;refine di [0,3,25,26,27] ?_;refine dw ?_;refine aj ⟨_,aa,k+1,A46,c46,acc++(aW v++aW u),⟨aa,by rw[hzs,jL,bT]⟩,rfl,a_,(dL (X4 (.s4 (.refl _))))⟩
 ·obtain rfl:k=E ns:=by omega
  have uE:vw ns ss (E ns)=(ns.zip ss).flatMap λp=>aW p.1++aW p.2:=by unfold vw;rw[gv bS]
  have CX:=hz (E ns);have CU:E acc=E (aW ns.sum)+E (aW (E ns))+E (vw ns ss (E ns)):=by rw[jL];simp only[bm]
  refine cN 6 (.own 5 1 A' (E acc) c' (bv acc)::Db g A1 (E ns) c1 A2 (E ss) c2 cc ii::F) ?_;refine aF 0 5 ?_;refine aS 5 rfl (be underlying3 underlying60 rfl (r:=((cc:Nat):Int)) (eQ aa aa)) (aF 7 4 ?_);refine aS 11 rfl (be underlying3 underlying60 rfl (r:=((ii:Nat):Int)) (eQ aa aa)) (aC 6 (cj rfl rfl (ji cc aa) λA54 c54=>aC 12 (cj rfl rfl (ji ii aa) λA60 c60=>aC 13 (cF rfl (aG fO [_,_,_] rfl rfl bY aa aa) λA61=>aC 14 (cj rfl rfl (J2 (l1:=acc) (l2:=aW cc) (l3:=aW ii) aA aA aA aA rfl HU) λA62 c62=>?_)))));refine dI 15 ?_;refine di [2] ?_;refine ew ?_;refine ak ((dL (X4 (.s4 (.refl _))))) (aX ?_);have e:yC ns ss cc ii=acc++(aW cc++aW ii):=by unfold yC;rw[jL,uE];simp only[bT]
  rw[e];exact⟨A62,c62,rfl,rfl⟩
theorem Xz(x:Nat){k:Nat}(hk:k<=7):((x:Nat):Int).fdiv (2^min (((8*k:Nat):Int)).toNat IntKind.u64.bits)=((x/2^(8*k):Nat):Int):=by
 have e:min (((8*k:Nat):Int)).toNat IntKind.u64.bits=8*k:=by
  show min _ 64=_;omega
 rw[e,Hw,wV]
theorem zQ(m:Nat):IntKind.u8.wrap ((m:Nat):Int)=((m%256:Nat):Int):=by
 show((m:Nat):Int)%256=_;omega
theorem N1{x:Nat}(hx:x<4294967296):bg B w0 51 [.int .u64 x,ah 4] F (λr L=>∃A' c',r= .tuple #[.slice A' (E (fT x 4)) c',ah 0]/\L= .own 5 1 A' (E (fT x 4)) c' (bv (fT x 4))::F):=by
 have z7:((x:Nat):Int).fdiv (2^min ((32:Int)).toNat IntKind.u64.bits)=0:=by
  have:=Xz x (k:=4) aa;rw[show((8*4:Nat):Int)=32 from rfl]at this;rw[this,show 8*4=32 from rfl];have:x/2^32=0:=yY aa;omega
 refine fw func51 42 [0,1] ?_;refine bk 12 (λig=>?_) (λig=>?_)
 ·refine bk 5 (λgT=>?_) (λgT=>?_)
  ·refine bC 5 (λgH=>?_) λgH=>?_
   ·refine fb ?_;refine ab (eo rfl rfl (r:=32) rfl) rfl (aX ?_);refine ab (dH rfl rfl aa (r:=0) z7) rfl (aD 5 [0,1,24] 0 ?_);refine ag 1 (λkJ=>?_) λkJ=>?_
    ·exfalso;exact kJ rfl
    ·refine dx ?_;refine cv (eY (nn:=4) (cc:=4) bP rfl rfl rfl rfl rfl aa aa aa) λsp=>dM ?_;refine aw (λzf zL zm=>∃(k:Nat),(k<=4)/\4-k=zm/\Sub zf [(0,.int .u64 x),(6,.slice sp 4 4),(28,ah 4),(29,ah k)]/\Wk zL (.own 5 1 sp 4 4 (bv (fT x k)++List.replicate (4-k) (.int .u8 0))::F)) _ ⟨0,bD _,rfl,a_,.refl _⟩ ?_;rintro _ _ _ ⟨k,hk,rfl,hs,hp⟩;refine aL hs hp (ag 6 (λwv=>?_) λwv=>?_)
     ·refine bK 15 ?_;refine ab (eo rfl rfl (r:=((8*k:Nat):Int)) ((bj aa aa).trans aa)) rfl (ab (dH rfl rfl aa (r:=((x/2^(8*k):Nat):Int)) (Xz x aa)) rfl (ab (be underlying60 underlying5 rfl (r:=((x/2^(8*k)%256:Nat):Int)) (zQ _)) rfl (dA ?_)));refine aj ⟨_,aa,k+1,aa,rfl,a_,au rfl (by rw[cH];exact V' aa _ rfl) (.refl _)⟩
     ·obtain rfl:k=4:=by omega
      refine bK 13 ?_;refine ak (L':=.own 5 1 sp (E (fT x 4)) 4 (bv (fT x 4))::F) (au ao ao (.refl _)) (aX ?_);exact⟨sp,4,ao,rfl⟩
   ·exfalso;omega
  ·exfalso;omega
 ·exfalso;omega
theorem CA(l:aq)(x:UInt8):jh (l++[x])=jh l+256^(E l)*x.toNat:=by
 induction l with
 |nil=>simp[jh]
 |cons c r ih=>
  simp only[nM,jh,ih,ei,ki];rw[wU,OJ];congr 2;rw[<-rN];congr 1;exact mi _ _
theorem rQ(l:aq):jh l<256^(E l):=by
 induction l with
 |nil=>simp[jh]
 |cons c r ih=>
  have:=c.toNat_lt;simp only[jh,ei,ki];omega
theorem Xc(k:Nat):(256:Nat)^k=2^(8*k):=by rw[show(256:Nat)=2^8 from rfl,<-Nat.pow_mul]
theorem alV{k:Nat}(hk:k<=6)(hy:y<256):IntKind.u64.wrap ((y:Int)*2^min (((8*k:Nat):Int)).toNat IntKind.u64.bits)=((y*256^k:Nat):Int):=by
 have e:min (((8*k:Nat):Int)).toNat IntKind.u64.bits=8*k:=by
  show min _ 64=_;omega
 have hp:(2:Nat)^(8*k)<=2^48:=gz aa aa;have hm:y*2^(8*k)<=255*2^48:=jG aa hp;have e3:(y:Int)*2^(8*k)=((y*2^(8*k):Nat):Int):=by simp
 rw[e,e3,Xc];exact eQ aa aa
theorem asy{k:Nat}(hk:k<=6)(hy:y<256)(hm:m<256^k):IntKind.u64.wrap ((BitVec.ofInt IntKind.u64.bits (m:Int) ||| BitVec.ofInt IntKind.u64.bits ((y*256^k:Nat):Int)).toNat:Int)=((m+256^k*y:Nat):Int):=by
 have hp:(2:Nat)^(8*k)<=2^48:=gz aa aa;have hmm:y*2^(8*k)<=255*2^48:=jG aa hp;rw[Xc]at hm⊢;have h64:IntKind.u64.bits=64:=rfl;have h1:(BitVec.ofInt IntKind.u64.bits (m:Int)).toNat=m:=by
  rw[I9,h64];omega
 have h2:(BitVec.ofInt IntKind.u64.bits ((y*2^(8*k):Nat):Int)).toNat=y*2^(8*k):=by
  rw[I9,h64];omega
 rw[BitVec.toNat_or,h1,h2,Pz _ _ _ hm,mi (2^(8*k)) y];exact eQ aa aa
theorem DV{k:Nat}(h:k<E b):(bv b)[k*1]? =some (.int .u8 ((b.getD k 0).toNat:Int)):=by
 simp[bv,List.getD,fx h]
theorem xj(s:Cs):E (s.take 4)<=4:=by
 unfold Cs.take;split
 ·simp
 ·split
  ·simp
  ·rw[fZ];omega
theorem Ih(ho:cw s)(hb:aJ B w0 F 1 (.slice A (E s.b) c) (E s.b) (bv s.b)):
  bg B w0 197 [bq g,ah 4] (Cv g A c s::F) (λr L=>r= .int .u64 (s.fixed 4)/\L=Cv g A c (s.lA 4)::F):=by
 have e1:s.fixed 4=jh (s.take 4):=by unfold Cs.fixed;rw[aB aa]
 have e2:s.lA 4=s.bR 4:=by unfold Cs.lA;rw[aB aa]
 have hl:=xj s;obtain⟨t,ht⟩:=cM (s.take 4);rw[e1,e2];rw[<-ht]at hl⊢;refine fw func197 34 [0,1] ?_;refine bk 11 (λig=>?_) (λig=>?_)
 ·refine bZ 6 λnj=>?_;refine dM ?_;refine ay rfl (mx ho hb (m:=4) aa aa) λuc wK=>?_;rw[<-ht];refine dx ?_;refine aw (λzf zL zm=>∃(k:Nat),(k<=E t)/\E t-k=zm/\Sub zf [(5,.int .u64 (jh (t.take k))),(18,.slice uc (E t) wK),(19,ah (E t)),(20,ah k)]/\Wk zL (Cv g A c (s.bR 4):: .own 5 1 uc (E t) wK (bv t)::F)) _ ⟨0,bD _,rfl,a_,.refl _⟩ ?_;rintro _ _ _ ⟨k,hk,rfl,hs,hp⟩;refine aL hs hp (ag 6 (λmQ=>?_) λmQ=>?_)
  ·obtain⟨y,hy⟩:=cM ((t.getD k 0).toNat);have hy8:y<256:=by rw[hy];exact kR _
   have gU:=rQ (t.take k);rw[fZ,C2 hk]at gU;have sn:jh (t.take (k+1))=jh (t.take k)+256^k*y:=by rw[aP aa 0,CA,fZ,C2 hk,<-hy]
   refine cY ?_;refine ab (al (v:=.int .u8 (y:Int)) ae rfl aA aa (by rw[hy];exact DV aa)) rfl (dg ?_);refine ab (be underlying5 underlying60 rfl (r:=(y:Int)) (eQ aa aa)) rfl (aX ?_);refine ab (eo rfl rfl (r:=((8*k:Nat):Int)) ((bj aa aa).trans aa)) rfl (ab (gG rfl rfl aa (r:=((y*256^k:Nat):Int)) (alV aa hy8)) rfl (ab (uv rfl rfl (r:=((jh (t.take (k+1)):Nat):Int)) ((asy aa hy8 gU).trans (by rw[sn]))) rfl (cY ?_)));refine aj ⟨_,aa,k+1,aa,rfl,a_,.refl _⟩
  ·obtain rfl:k=E t:=by omega
   rw[js];refine dM ?_;exact ak (.cons (.skip (.refl _))) (cm 1)
 ·exfalso;omega
section
theorem apD(h:P:=by(first|exact⟨λh=>⟨by omega,h⟩,λh=>h.2⟩|exact λh=>absurd h.1 (by omega)|omega)):P:=h
theorem Vc(h:P:=by(have:=q7.1;omega)):P:=h
theorem amw(h:P:=by(rw[show Mq d-(i+1)=f by omega];exact SN)):P:=h
theorem abU(h:P:=by(rw[hu];simp[bN])):P:=h
theorem abZ{ns:br}(hb:aJ B w0 F 1 (.slice A (E ns) c) (E ns) (bN ns))(hl:E ns<=1000000000000):
  bg B w0 264 [.slice A (E ns) c,ah 0] F (λr L=>∃k:Int,r=ah k/\(0<=k↔0∈ns)/\L=F):=by
 refine ba func264 19 [0,1] 14 ?_;refine aw (λzf zL zm=>∃(k:Nat),(k<=E ns/\∀i,i<k->ns.getD i 0≠0)/\E ns-k=zm/\Sub zf [(0,.slice A (E ns) c),(1,ah 0),(7,ah (E ns)),(8,ah k)]/\Wk zL (F)) _ ⟨0,⟨bD _,λi h=>absurd h (Nat.not_lt_zero i)⟩,rfl,a_,.refl _⟩ ?_;rintro _ _ _ ⟨k,⟨hk,hz⟩,rfl,hs,hp⟩;refine aL hs hp (ag 6 (λh9=>?_) λh9=>?_)
 ·obtain⟨v,hv⟩:=cM (ns.getD k 0);refine bK 16 ?_;refine ab (al ae rfl hb aa (fi (v:=v) aa hv.symm)) rfl (ag 3 (λj0=>?_) λj0=>?_)
  ·refine bK 13 ?_;refine⟨_,rfl,⟨λ_=>?_,λ_=>aa⟩,rfl⟩;have hm:=bc (l:=ns) (k:=k) aa 0;rw[<-hv,show v=0 by omega]at hm;exact hm
  ·refine dg ?_;refine aj ⟨_,aa,k+1,⟨aa,λi hi=>(by
    rcases OU.1 hi with h|h
    ·exact hz i h
    ·subst h;omega)⟩,rfl,a_,.refl _⟩
 ·refine dM ?_;refine⟨_,rfl,⟨λh=>absurd h aa,λh=>?_⟩,rfl⟩;obtain⟨i,hi,he⟩:=mF h;exact absurd (by simp[bz,fx hi,he]) (hz i aa)
theorem MX{ns:br}(hb:aJ B w0 F 1 (.slice A (E ns) c) (E ns) (bN ns))(hl:E ns<=1000000000000):
  bg B w0 224 [.slice A (E ns) c,ah 0] F (λr L=>r= .bool (decide (0∈ns))/\L=F):=by
 refine ba func224 9 [0,1] 9 ?_;refine bp aqE rfl (abZ hb hl) rfl ?_;rintro _ _ ⟨k,rfl,hk,cR⟩;obtain rfl:=cR.symm;refine dw ?_;exact⟨eG Value.bool (xz.2 hk),rfl⟩
def FtA(R:aq×aq×Int)(B:Nat)(w0:World)(F:aN)(r:Value)(L:aN):Prop:=
 ∃Ar cr Ad cd Y,r= .tuple #[.slice Ar (E R.1) cr,.slice Ad (E R.2.1) cd,ah R.2.2]/\L=Y++F/\E R.1<=cr/\aJ B w0 L 1 (.slice Ar (E R.1) cr) (E R.1) (bv R.1)/\aJ B w0 L 1 (.slice Ad (E R.2.1) cd) (E R.2.1) (bv R.2.1)
theorem FtA.nil{e:Int}{Y:aN}(hr:r= .tuple #[.slice none 0 0,.slice none 0 0,ah e])(hL:L=Y++F):FtA ([],[],e) B w0 F r L:=⟨none,0,none,0,Y,hr,hL,ga _,aJ.C4,aJ.C4⟩
theorem amK{xs:cQ}(e1:n=E l)(e2:xs=bv l)(hb:aJ B w0 F 1 (.slice A n c) n xs)(hl:E l<=1099511627776):
  bg B w0 109 [.slice A n c] F (λr L=>∃g A' c',r=bq g/\L=Cv g A' c' ⟨l,0,0⟩:: .own 5 1 A' (E l) c' (bv l)::F):=by
 subst e1;subst e2;exact n_ hb hl
theorem amV(HT:cK B w0)(hb:gw B w0 F A c b)(ey:E b<=1099511627776):
  bg B w0 178 [.slice A (E b) c] F (FtA (lF b) B w0 F):=by
 refine dQ.yk hb λoP _=>?_;refine fw func178 38 [0] ?_;refine ag 22 (λoA=>?_) λoA=>?_
 ·have e:lF b=([],[],1):=by unfold lF;rw[av aa]
  rw[e];refine dh ?_;exact FtA.nil (Y:=[]) rfl rfl
 ·obtain⟨n,hn⟩:=cM (E b-4);have Zn:(E b:Int)-4=(n:Int):=by omega
  have hcut:=hb.cut (k:=n) aa;have e1:(bv b).drop (n*1)=bv (b.drop n):=by rw[cH];simp[bv,uK]
  have e2:E b-n=E (b.drop n):=by rw[jM]
  obtain⟨k,hk⟩:=cM (ftK b);have zY:Cs.fixed ⟨b.drop n,0,0⟩ 4=k:=by rw[hk,hn];rfl
  have aww:k<4294967296:=by
   have h1:=rQ (Cs.take ⟨b.drop n,0,0⟩ 4);have h2:=xj ⟨b.drop n,0,0⟩;have h3:k=jh (Cs.take ⟨b.drop n,0,0⟩ 4):=by rw[<-zY];unfold Cs.fixed;rw[aB aa]
   have h4:(256:Nat)^(E (Cs.take ⟨b.drop n,0,0⟩ 4))<=256^4:=gz aa h2;omega
  refine dw ?_;refine ab (bV (i:=n) (size:=1) underlying27 ae rfl rfl Zn aa) rfl (dV rfl (amK (l:=b.drop n) e2 e1 hcut aa) λgn An cn=>ai rfl (Ih (s:=⟨b.drop n,0,0⟩) (oe aa) (aJ.own (.head _))) ?_);rw[zY];refine ab (be underlying60 underlying3 rfl (r:=(k:Int)) (bj aa aa)) rfl (ag 11 (λkp=>?_) λkp=>?_)
  ·have e:lF b=([],[],1):=by unfold lF;rw[aB aa,av aa]
   rw[e];refine aD 5 [2,3,4] 4 ?_;exact FtA.nil (Y:=[_,_]) rfl rfl
  ·have hkn:k<=n:=by omega
   have hD:ftD b=aT ((b.take n).drop (n-k)):=by unfold ftD;rw[<-hn,<-hk]
   have e:lF b=(b.take (n-k),(ftD b).1,(ftD b).2):=by unfold lF;rw[aB aa,aB aa,<-hn,<-hk]
   rw[e,hD];have hdc:=(hb.h_ (k:=n) aa).cut (k:=n-k) aa;have vM:=hb.h_ (k:=n-k) aa;have e3:((bv b).take (n*1)).drop ((n-k)*1)=bv ((b.take n).drop (n-k)):=by rw[cH,cH];simp[bv,uK,mY]
   have e4:n-(n-k)=E ((b.take n).drop (n-k)):=by rw[jM,fZ];omega
   have e5:(bv b).take ((n-k)*1)=bv (b.take (n-k)):=by rw[cH];simp[bv,mY]
   have e6:n-k=E (b.take (n-k)):=by rw[fZ];omega
   rw[e5]at vM;refine dg ?_;refine ab (cU rfl rfl (r:=((n-k:Nat):Int)) ((bj aa aa).trans aa)) rfl (aX ?_);refine ab (fR (i:=n-k) (j:=n) (size:=1) underlying27 ae rfl rfl rfl rfl Zn aa aa) rfl (ay rfl (RS (l:=(b.take n).drop (n-k)) HT e4 e3 hdc.cons.cons (by rw[<-e4];omega)) λB3 Ca=>aD 5 [0,3,4,5,6] 6 ?_);refine ab (cU rfl rfl (r:=((n-k:Nat):Int)) ((bj aa aa).trans aa)) rfl (ab (bQ (i:=n-k) (size:=1) underlying27 ae rfl rfl rfl aa) rfl (dA ?_));refine⟨A,c,B3,Ca,[_,_,_],by rw[<-e6],rfl,cX,?_,aJ.own (.head _)⟩;simp only;rw[<-e6];exact vM.cons.cons.cons
abbrev Dx(X:cQ)(g:Nat)(bt:TypeId)(A1:bh)(n1 c1:Nat)(A2:bh)(n2 c2:Nat)(c i:Nat):Ch:=.bI g bt (.slice A1 n1 c1:: .slice A2 n2 c2::ah c::ah i::X)
theorem xN{m:Nat}:∀l:br,(∀x∈l,x<=m)->l.sum<=m*E l
 |[],_=>by simp
 |a::r,h=>by
  have h1:=h a ao;have h2:=xN r λx hx=>h x th;rw[y9,ei,wU];omega
section
variable{m f:Nat}{s:Cs}{ns ss:br}{R:br×br×Cs}
theorem ah8(h:tK m (f+1) s ns ss=R)(he:s.e=0):tK m f ((s.bX m).bX 8388608) (ns++[s.int m]) (ss++[(s.bX m).int 8388608])=R:=by rw[<-h,tK,aB MS]
theorem acB:∀(f:Nat),tK m f s ns ss=R->s.e≠0->R=(ns,ss,s)
 |0,h,_=>by rw[<-h,tK]
 |f+1,h,he=>by rw[<-h,tK,av he]
end
theorem Kn(d:aq):((Dm d:Nat):Int)<=20000:=Cs.fI _ aa aa
theorem YI{room:Nat}(hb:gw B w0 F A c d)(ey:E d<=1099511627776)(rA:room<=1099511627776):
  bg B w0 179 [bq g,.slice A (E d) c,ah room] (Dx X g 188 none 0 0 none 0 0 0 0::F)
   (λr L=>r=ah (drE d room)/\∃A1 c1 A2 c2,L=Dx X g 188 A1 (E (iJ d).1) c1 A2 (E (iJ d).2.1) c2 (Km d) (drI d):: .own 3 1 A1 (E (iJ d).1) c1 (bN (iJ d).1):: .own 3 1 A2 (E (iJ d).2.1) c2 (bN (iJ d).2.1)::F):=by
 have hR:=Kn d;have hB:((Mq d:Nat):Int)<=Dm d:=Cs.fI _ aa aa;have o1:cw (dr1 d):=(oe ey).bX aa;have b1:(dr1 d).b=d:=Cs.cO _ _ _;have o2:cw (dr2 d):=o1.bX aa;have b2:(dr2 d).b=d:=(Cs.cO _ _ _).trans b1;refine ba func179 100 [0,1,2] 8 ?_;refine dV rfl (n_ hb.cons ey) λgn An cn=>dw ?_;refine ai rfl (jb (s:=⟨d,0,0⟩) (most:=20000) (oe ey) (aJ.own (.head _)) aa aa) (fb ?_);have e0:Cs.int ⟨d,0,0⟩ 20000=Dm d:=rfl;have e1:Cs.bX ⟨d,0,0⟩ 20000=dr1 d:=rfl;rw[e0,e1];refine fc ?_;refine ai rfl (jb (s:=dr1 d) (most:=((Dm d:Nat):Int)) o1 (by rw[b1];exact aJ.own (.head _)) aa aa) (dx ?_);have e3:(dr1 d).int ((Dm d:Nat):Int)=Mq d:=rfl;have e4:(dr1 d).bX ((Dm d:Nat):Int)=dr2 d:=rfl;rw[e3,e4];refine aM 3 1 none (aM 3 1 none (dx ?_));refine aw (λzf zL zm=>∃(i:Nat) (s:Cs) (ns ss:br) (A1:bh) (c1:Nat) (A2:bh) (c2:Nat),(i<=Mq d/\s.b=d/\cw s/\tK (Dm d) (Mq d-i) s ns ss=iJ d/\E ns=i/\E ss=i/\(∀x∈ns,x<=20000)/\(∀x∈ss,x<=8388608))/\Mq d-i=zm/\Sub zf [(0,bq g),(2,ah room),(7,bq gn),(8,ah (Dm d)),(9,ah (Mq d)),(10,ah i)]/\Wk zL (Cv gn An cn s:: .own 3 1 A1 (E ns) c1 (bN ns):: .own 3 1 A2 (E ss) c2 (bN ss)::Dx X g 188 A1 (E ns) c1 A2 (E ss) c2 0 0:: .own 5 1 An (E d) cn (bv d)::F)) _ ⟨0,dr2 d,[],[],none,0,none,0,⟨bD _,b2,o2,rfl,rfl,rfl,λx h=>absurd h (kS),λx h=>absurd h (kS)⟩,rfl,a_,(lU (dL (dL (gC (dL (.refl _))))))⟩ ?_;rintro _ _ _ ⟨i,s,ns,ss,A1,c1,A2,c2,⟨hi,Hc,hso,rv,Rh,lB,Ox,hsx⟩,rfl,hs,hp⟩;refine aL hs hp (bf 3 8 26 [0,2,7,8,9,10] (i<Mq d/\s.e=0) ?_ ?_)
 ·refine bC 4 (λrq=>?_) λrq=>?_
  ·refine ew ?_;exact ai rfl (ik) (ax 3 (k:=(by exact dG apD)))
  ·exact ax 3 (k:=(by exact dS apD))
 ·refine ag 2 (λq7=>?_) λq7=>?_
  ·have iy:s.e=0:=q7.2;obtain⟨f,hf⟩:∃f,Mq d-i=f+1:=⟨Mq d-i-1,Vc⟩
   rw[hf]at rv;have SN:=ah8 rv iy;obtain⟨v,hv⟩:=cM (s.int (Dm d));obtain⟨s1,j8⟩:=cM (s.bX (Dm d));have o3:cw s1:=by rw[j8];exact hso.bX aa
   have b3:s1.b=d:=by rw[j8];exact(Cs.cO _ _ _).trans Hc
   have KN:(v:Int)<=Dm d:=by rw[hv];exact Cs.fI _ aa aa
   rw[<-hv,<-j8]at SN;obtain⟨u,hu⟩:=cM (s1.int 8388608);have hu2:(u:Int)<=8388608:=by rw[hu];exact Cs.fI _ aa aa
   obtain⟨s2,jj⟩:=cM (s1.bX 8388608);have o4:cw s2:=by rw[jj];exact o3.bX aa
   have b4:s2.b=d:=by rw[jj];exact(Cs.cO _ _ _).trans b3
   rw[<-hu,<-jj]at SN;refine fb ?_;refine dq (λzf zL=>∃(A1':bh) (c1':Nat),Sub zf [(0,bq g),(2,ah room),(7,bq gn),(8,ah (Dm d)),(9,ah (Mq d)),(10,ah i)]/\Wk zL (Cv gn An cn s1:: .own 3 1 A1' (E ns+1) c1' (bN ns++[ah v]):: .own 3 1 A2 (E ss) c2 (bN ss)::Dx X g 188 A1' (E ns+1) c1' A2 (E ss) c2 0 0:: .own 5 1 An (E d) cn (bv d)::F)) ?_ ?_
   ·refine lx F ?_;refine aF 0 4 ?_;refine aF 5 2 ?_;refine iv 4 7 ?_ ?_
    ·refine aX ?_;refine aC 7 (lu rfl rfl (jb (s:=s) (most:=((Dm d:Nat):Int)) hso Va aa aa) (aC 8 (cF rfl (aG gF [_] rfl rfl bY aa aa) λME=>aC 9 (fh rfl (bB gF rfl aU rfl aA bY aa aa) λMF Q5=>?_))));refine aF 10 2 ?_;refine aC 12 (ew ?_);exact bo ⟨MF,Q5,a_,.trans (.skip (.refl _)) (m7 j8.symm (au rfl (by rw[hv]) (.refl _)))⟩
    ·refine lu rfl rfl (jb (s:=s) (most:=((Dm d:Nat):Int)) hso Va aa aa) (iv 4 8 ?_ ?_)
     ·refine aX ?_;refine aC 8 (cF rfl (aG gF [_] rfl rfl bY aa aa) λME=>aC 9 (fh rfl (bB gF rfl aU rfl aA bY aa aa) λMF Q5=>?_));refine aF 10 2 ?_;refine aC 12 (ew ?_);exact bo ⟨MF,Q5,a_,.trans (.skip (.refl _)) (m7 j8.symm (au rfl (by rw[hv]) (.refl _)))⟩
     ·refine cF rfl (aG gF [_] rfl rfl bY aa aa) λME=>aC 4 (aX ?_);refine aC 9 (fh rfl (bB gF rfl aU rfl aA bY aa aa) λMF Q5=>?_);refine aF 10 2 ?_;refine aC 12 (ew ?_);exact bo ⟨MF,Q5,a_,.trans (.skip (.refl _)) (m7 j8.symm (au rfl (by rw[hv]) (.refl _)))⟩
   ·rintro _ _ ⟨A1',c1',hs,hp⟩;refine aL hs hp (lx F ?_);refine aF 0 4 ?_;refine dI 5 ?_;refine iv 4 6 ?_ ?_
    ·refine aX ?_;refine aC 6 ?_;refine lu rfl rfl (jb (s:=s1) (most:=8388608) o3 (by rw[b3];exact aA) aa aa) ?_;refine aC 7 ?_;refine cF rfl (aG gF [_] rfl rfl bY aa aa) λA48=>?_;refine aC 8 ?_;refine fh rfl (bB gF rfl aU rfl aA bY aa aa) λA49 c49=>?_;refine aF 9 2 ?_;refine aC 11 ?_;refine dA ?_;refine aj ⟨_,aa,i+1,s2,ns++[v],ss++[u],A1',c1',A49,c49,⟨Vc,b4,o4,amw,by simp[Rh],by simp[lB],λx hx=>(by
      rcases dO.1 hx with h|h
      ·exact Ox x h
      ·rw[kT.1 h];omega),λx hx=>(by
      rcases dO.1 hx with h|h
      ·exact hsx x h
      ·rw[kT.1 h];omega)⟩,rfl,a_,.trans (.skip (.refl _)) (m7 jj.symm (au ao qj (au ao abU (bx ao (.refl _)))))⟩
    ·refine lu rfl rfl (jb (s:=s1) (most:=8388608) o3 (by rw[b3];exact aA) aa aa) ?_;refine iv 4 7 ?_ ?_
     ·refine aX ?_;refine aC 7 ?_;refine cF rfl (aG gF [_] rfl rfl bY aa aa) λA48=>?_;refine aC 8 ?_;refine fh rfl (bB gF rfl aU rfl aA bY aa aa) λA49 c49=>?_;refine aF 9 2 ?_;refine aC 11 ?_;refine dA ?_;refine aj ⟨_,aa,i+1,s2,ns++[v],ss++[u],A1',c1',A49,c49,⟨Vc,b4,o4,amw,by simp[Rh],by simp[lB],λx hx=>(by
       rcases dO.1 hx with h|h
       ·exact Ox x h
       ·rw[kT.1 h];omega),λx hx=>(by
       rcases dO.1 hx with h|h
       ·exact hsx x h
       ·rw[kT.1 h];omega)⟩,rfl,a_,.trans (.skip (.refl _)) (m7 jj.symm (au ao qj (au ao abU (bx ao (.refl _)))))⟩
     ·refine cF rfl (aG gF [_] rfl rfl bY aa aa) λA48=>?_;refine aC 4 ?_;refine aX ?_;refine aC 8 ?_;refine fh rfl (bB gF rfl aU rfl aA bY aa aa) λA49 c49=>?_;refine aF 9 2 ?_;refine aC 11 ?_;refine dA ?_;refine aj ⟨_,aa,i+1,s2,ns++[v],ss++[u],A1',c1',A49,c49,⟨Vc,b4,o4,amw,by simp[Rh],by simp[lB],λx hx=>(by
       rcases dO.1 hx with h|h
       ·exact Ox x h
       ·rw[kT.1 h];omega),λx hx=>(by
       rcases dO.1 hx with h|h
       ·exact hsx x h
       ·rw[kT.1 h];omega)⟩,rfl,a_,.trans (.skip (.refl _)) (m7 jj.symm (au ao qj (au ao abU (bx ao (.refl _)))))⟩
  ·have hd3:iJ d=(ns,ss,s):=(by
    by_cases hz:i<Mq d
    ·exact acB _ rv λh=>q7 ⟨hz,h⟩
    ·rw[show Mq d-i=0 by omega,tK]at rv;exact rv.symm)
   have hC:Km d=s.int 8388608:=by unfold Km;rw[hd3]
   have h4:VX d=s.bX 8388608:=by unfold VX;rw[hd3]
   have hI:drI d=(VX d).int 8388608:=rfl;have h5:dr5 d=((VX d).bX 8388608).yE:=rfl;have hC2:((Km d:Nat):Int)<=8388608:=Cs.fI _ aa aa;have hI2:((drI d:Nat):Int)<=8388608:=Cs.fI _ aa aa;have o4:cw (VX d):=by rw[h4];exact hso.bX aa
   have b4:(VX d).b=d:=by rw[h4];exact(Cs.cO _ _ _).trans Hc
   have o5:cw ((VX d).bX 8388608):=o4.bX aa;have b5:((VX d).bX 8388608).b=d:=(Cs.cO _ _ _).trans b4;have hns:=xN ns Ox;have hss:=xN ss hsx;have hE:drE d room=if (dr5 d).e≠0 then (dr5 d).e else if 0∈ns\/ns.sum≠Dm d\/ss.sum+Km d+drI d≠room then 2 else 0:=by unfold drE;rw[hd3]
   rw[hd3];simp only;refine dA ?_;refine ai rfl (jb (s:=s) (most:=8388608) hso Va aa aa) (dw ?_);rw[<-hC,<-h4];refine fc ?_;refine ai rfl (jb (s:=VX d) (most:=8388608) o4 (by rw[b4];exact aA) aa aa) (dg ?_);rw[<-hI];refine ew ?_;refine ai rfl (aca (s:=(VX d).bX 8388608) o5 (by rw[b5];exact aA)) (fb ?_);rw[<-h5];refine aD 3 [0,2,8,11,65] 0 ?_;refine ag 1 (λh65=>?_) λh65=>?_
   ·rw[av h65]at hE;refine cY ?_;refine ak ((vu (gC (gC (.s2 (.refl _)))))) (aX ?_);exact⟨by rw[hE],A1,c1,A2,c2,rfl⟩
   ·rw[aB h65]at hE;refine dA ?_;refine iL aqw rfl (MX (ns:=ns) aA aa) tJ rfl ?_;refine aX ?_;refine wi rfl rfl rfl (λWp=>?_) (λWp=>?_)
    ·refine cY ?_;refine iL aqT rfl (DU (ns:=ns) aA aa aa) tJ rfl ?_;refine dw ?_;refine wi rfl rfl rfl (λh81=>?_) (λh81=>?_)
     ·refine cY ?_;refine iL aqT rfl (DU (ns:=ss) aA aa aa) tJ rfl ?_;refine bK 25 ?_;refine lD [(99,_)] ⟨rfl,trivial⟩ ?_;refine ag 1 (λh99=>?_) λh99=>?_
      ·refine dg ?_;refine ak ((vu (gC (gC (.s2 (.refl _)))))) (aX ?_);exact⟨by rw[hE,av (.inr (.inr aa))],A1,c1,A2,c2,rfl⟩
      ·refine cY ?_;refine ak ((vu (gC (gC (.s2 (.refl _)))))) (aX ?_);exact⟨by rw[hE,aB (λh=>h.elim Wp λh=>h.elim (λh=>aa) λh=>aa)],A1,c1,A2,c2,rfl⟩
     ·refine bK 17 ?_;refine lD [(99,_)] ⟨rfl,trivial⟩ ?_;refine dA ?_;refine ak ((vu (gC (gC (.s2 (.refl _)))))) (aX ?_);exact⟨by rw[hE,av (.inr (.inl aa))],A1,c1,A2,c2,rfl⟩
    ·refine bK 26 ?_;refine lD [(99,_)] ⟨rfl,trivial⟩ ?_;refine dA ?_;refine ak ((vu (gC (gC (.s2 (.refl _)))))) (aX ?_);exact⟨by rw[hE,av (.inl Wp)],A1,c1,A2,c2,rfl⟩
end
theorem ZJ{bound p:Nat}{xs:br}(h:me bound xs)(hn:1<=E xs):pM p 0 xs<=(bound-1)/p:=by
 have h1:=pN (p:=p) (xs:=xs) (k:=E xs-1) aa;rw[show E xs-1+1=E xs by omega,js]at h1;rw[h1];have:=(h (E xs-1) aa).1;exact Nat.div_le_div_right aa
theorem ND{bound:Nat}{xs:br}(h:me bound xs)(hb:bound<=20000)(hn:1<=E xs)(ry:E xs<=600):8*E (si bound xs)<=E xs*(wid bound (E xs)+3)+31:=by
 have hlen:=h.len;obtain⟨w,hw⟩:=cM (wid bound (E xs));obtain⟨p,hp⟩:=cM (2^w);have Mx:bound/E xs≠0:=by have:=(ON (x:=1) (y:=bound) (k:=E xs) aa).2 aa;omega
 have h1:=(Nat.log2_lt Mx (k:=w+1)).1 (by rw[hw];exact Nat.lt_succ_self _);have h2:bound<2^(w+1)*E xs:=(Nat.div_lt_iff_lt_mul aa).1 h1;have h3:bound<p*(2*E xs):=by
  rw[ki,<-hp,rN]at h2;exact h2
 have h4:(bound-1)/p<2*E xs:=Nat.div_lt_of_lt_mul aa;have h5:=ZJ (p:=p) h hn;have h6:=ta (p:=p) h (E xs) (ga _);rw[js]at h6;have h7:=nk p w xs;have CV:E (aW (E xs))<=2:=NM 1 _ aa;unfold si;rw[aB aa,bm,dz,<-hw,<-hp];unfold Mr;rw[bm,h7,h6,show E xs*(w+3)=E xs*w+E xs*3 from wU ..];generalize (E xs)*w=z;omega
theorem J'{l:List cJ}(h:∀s∈l,E s<=25):E (dR l)<=45*E l:=by
 cases l with
 |nil=>simp[dR]
 |cons t r=>
  have h1:=sa t r (λs hs=>h s (by simp[hs]));have h2:=yD (s:=t) (by have:=h t ao;omega);have h3:=h t ao;rw[dR,bm,ei];omega
theorem DS{l:List cJ}{sz:Nat}(h:∀s∈l,E s<=25):∀m:Nat,E (jm l sz (List.range m))<=45*E (l.take (m*sz))
 |0=>by simp[jm]
 |m+1=>by
  have h1:=DS (l:=l) (sz:=sz) h m;have h2:=J' (l:=ck l sz m) (λs hs=>h s (AE hs));have h3:E (l.take ((m+1)*sz))=E (l.take (m*sz))+E (ck l sz m):=by
   unfold ck;rw[jR];simp only[fZ,jM];omega
  rw[mW,DT,bm,h3];omega
theorem Ee{l:List cJ}(h1:1<=sz)(h2:sz<=64)(h:∀s∈l,E s<=25)(hl:E l<=1000000000):E (gi sz l)<=20+55*E l:=by
 have k1:=DS (l:=l) (sz:=sz) h (iu sz (E l));have k2:=rs (l:=l) (sz:=sz) h2 h (List.range (iu sz (E l)));have k3:=aY (x:=E l) aa;have k4:E (l.take (iu sz (E l)*sz))<=E l:=by rw[fZ];omega
 have k5:iu sz (E l)<=E l+1:=by
  unfold iu;rcases Be (E l) with e|e
  ·rw[e];have:(0+(sz-1))/sz=0:=yY aa;rw[this];omega
  ·refine iY (Nat.div_le_of_le_mul (?_ :_<=sz*(E l+1))) (ga _);have h3:=jG h1 (ga (E l));rw[wU];have h4:E l<=sz*E l:=by omega
   omega
 rw[EX]at k2;simp only[gi,bm];omega
theorem mA{bn m:Nat}:∀I:List (br),(∀x∈I,E (si bn x)<=m)->E (I.flatMap (si bn))<=m*E I
 |[],_=>by simp
 |x::r,h=>by
  have h1:=mA r λy hy=>h y B8;have h2:=h x ao;rw[iX,bm,ei,wU];omega
theorem xu{L:List aI}(iy:o.2.2.1=sz)(h1:1<=sz)(h2:sz<=64)(hw:dJ L<=1048576)(hn:E L<=20000):
  qP o L=gi sz (mP L)++(mO L).flatMap (si (E L))/\m8 (mP L)/\E (mP L)=E (mO L)/\(∀x∈mO L,x≠[]/\me (E L) x)/\E (mP L)<=dJ L:=by
 have hio:=J9 hw hn;obtain⟨bn,N,auu,aiw,hN,hRT,hTl,hNI⟩:=EL hio;have hbn:bn=E L:=by omega
 subst hbn;have Y6:N=mO L:=by
  have:mq N=mq (mO L):=by rw[<-hN];rfl
  exact AA this
 subst Y6;refine⟨?_,hRT,hTl,hNI,?_⟩
 ·unfold qP;rw[iy,I2 (T:=mP L) (I:=mO L) aa aa aiw hRT hTl hNI]
 ·have k1:=vg ((List.range (E L)).flatMap (BP L));have k2:=DO L (E L) (ga _);rw[js]at k2;show(sv (BP L) (E L)).length<=_;unfold sv;omega
theorem OD{L:List aI}(h1:1<=o.2.2.1)(h2:o.2.2.1<=64)(hw:dJ L<=1048576)(hn:E L<=20000):E (qP o L)<=20+50066*dJ L:=by
 obtain⟨sz,iy⟩:∃sz:Nat,o.2.2.1=sz:=⟨o.2.2.1.toNat,aa⟩
 obtain⟨e,k1,k2,k3,k4⟩:=xu (o:=o) (L:=L) iy aa aa hw hn;have k5:=Ee (l:=mP L) (sz:=sz) aa aa k1.le aa;have k6:=mA (bn:=E L) (m:=50011) (mO L) λx hx=>VZ (k3 x hx).2 hn;rw[e,bm];rw[<-k2]at k6;omega
theorem S9{L:List aI}(h1:1<=o.2.2.1)(h2:o.2.2.1<=64)(hw:dJ L<=2000)(hn:E L<=600):E (qP o L)<=4000000/\(E L<=30->E (qP o L)<=300000):=by
 obtain⟨sz,iy⟩:∃sz:Nat,o.2.2.1=sz:=⟨o.2.2.1.toNat,aa⟩
 obtain⟨e,k1,k2,k3,k4⟩:=xu (o:=o) (L:=L) iy aa aa aa aa;have k5:=Ee (l:=mP L) (sz:=sz) aa aa k1.le aa;have k7:=λm (hm:E L<=m) (oh:m<=600)=>mA (bn:=E L) (m:=m*3) (mO L);refine⟨?_,λwv=>?_⟩
 ·have k6:=mA (bn:=E L) (m:=1500) (mO L) λx hx=>by
   obtain⟨j1,j2⟩:=k3 x hx;have j3:=j2.len;have j4:=List.length_pos_iff.2 j1;have j5:=ND j2 aa aa aa;have j6:=xV (bound:=E L) (n:=E x) aa;have j7:E x*(wid (E L) (E x)+3)<=600*17:=jG aa aa;omega
  rw[e,bm];rw[<-k2]at k6;omega
 ·have k6:=mA (bn:=E L) (m:=70) (mO L) λx hx=>by
   obtain⟨j1,j2⟩:=k3 x hx;have j3:=j2.len;have j4:=List.length_pos_iff.2 j1;have j5:=ND j2 aa aa aa;have j6:=xV (bound:=E L) (n:=E x) aa;have j7:E x*(wid (E L) (E x)+3)<=30*17:=jG aa aa;omega
  rw[e,bm];rw[<-k2]at k6;omega
theorem MV(h:P:=by(rw[<-hR])):P:=h
theorem akW(h:P:=by(rw[<-hR]at q;exact absurd q (by decide))):P:=h
theorem acH(hb:gw B w0 F A c b)(ey:E b<=1000000)(adp:-9223372036854775808<=bound)(Ol:bound<=9223372036854775807):
  bg B w0 268 [ah bound,.slice A (E b) c] F (λr L=>∃p X,r= .tuple #[.pointer p,ah (jc bound b).2.1,ah (jc bound b).2.2]/\L=X++F/\
   ((jc bound b).2.2≠0->X=[])/\((jc bound b).2.2=0->∃w pp g A1 c1 A2 c2,p=some ⟨g,0,none⟩/\pp=2^w/\w<=14/\X++F=Rl g w pp A1 c1 A2 c2 (jc bound b).1 F)):=
 (acG hb ey adp Ol).mono λr L h=>by
  rcases h with⟨h,h1,h2⟩|⟨h,w,pp,g,A1,c1,A2,c2,h1,h2,h3,h4⟩
  ·have e:(jc bound b).2.1=0:=by
    unfold jc at h⊢;split
    ·rfl
    ·split
     ·rfl
     ·split
      ·rename_i q1 q2 q3;rw[aB q1,aB q2,av q3]at h;exact absurd rfl h
      ·split
       ·rfl
       ·rename_i q1 q2 q3 q4;rw[aB q1,aB q2,aB q3,aB q4]at h;exact absurd rfl h
   exact⟨none,[],by rw[h1,e];rfl,h2,λ_=>rfl,λq=>absurd q h⟩
  ·exact⟨some ⟨g,0,none⟩,Rl g w pp A1 c1 A2 c2 (jc bound b).1 [],by rw[h3,h],h4,λq=>absurd h q,λ_=>⟨w,pp,g,A1,c1,A2,c2,rfl,h1,h2,rfl⟩⟩
theorem ah_(h:(jc bound b).2.2=0)(Oj:bound<=9223372036854775807):(jc bound b).2.1<=E b/\E (jc bound b).1<=20000/\∀i,i<E (jc bound b).1->(jc bound b).1.getD i 0<=1000000:=by
 obtain⟨bn,rfl,h2,h3,_,h5⟩:=NB Oj h;exact⟨h5,iY h3.len h2,h3.le h2⟩
theorem ao3{t:TypeId}{A8:bh}{c8:Nat}{vs:cQ}{e:rb}{O:List rb}(hm:m=E O+1)(hv:vs=O.map jz++[jz e]):Wk (jT e:: .own t 1 A8 m c8 vs::(O.map jT++F)) (.own t 1 A8 (E (O++[e])) c8 ((O++[e]).map jz)::((O++[e]).map jT++F)):=by
 subst hm;subst hv;refine .swap (au ao ao (.c_ ?_));rw[iF,bT];exact zb.symm
theorem Mb{M N:aN}(h:Wk M N):∀R:aN,Wk (R++M) (R++N)
 |[]=>h
 |_::R=>.cons (Mb h R)
theorem asC{a b c d:Ch}{R:aN}(X:aN):(X++a::b::c::d::R).Perm (a::b::c::d::(X++R)):=
 zb.trans ((zb.trans ((zb.trans (List.perm_middle.cons c)).cons b)).cons a)
def abw(bound:Int)(n:Nat)(b:aq)(F:aN)(r:Value)(L:aN):Prop:=
 ∃(A1:bh) (c1 m:Nat) (X:aN),r= .tuple #[.slice A1 m c1,ah (Mz bound n b []).2]/\L=X++F/\((Mz bound n b []).2≠0->A1=none/\c1=0/\m=0/\X=[])/\
  ((Mz bound n b []).2=0->∃LL:List rb,LL.map (·.2.2)=(Mz bound n b []).1/\m=E LL/\E LL=n/\X= .own 53 1 A1 (E LL) c1 (LL.map jz)::LL.map jT)
theorem ai0(hb:gw B w0 F A c b)(ey:E b<=1000000)(hn:n<=2000000)(adp:-9223372036854775808<=bound)(Ol:bound<=9223372036854775807):
  bg B w0 227 [ah n,ah bound,.slice A (E b) c] F (abw bound n b F):=by
 obtain⟨G,hG⟩:=cM (Mz bound n b []);unfold abw;rw[<-hG];refine ba func227 43 [0,1,2] 13 ?_;refine aM 53 1 none (dw ?_);refine aw (λzf zL zm=>∃(k:Nat) (Ab:bh) (cb:Nat) (r:aq) (O:List rb) (A8:bh) (c8:Nat),(k<=n/\E O=k/\Mz bound (n-k) r (O.map (·.2.2))=G/\aJ B w0 F 1 (.slice Ab (E r) cb) (E r) (bv r)/\E r<=E b)/\n-k=zm/\Sub zf [(1,ah bound),(2,.slice Ab (E r) cb),(8,.slice A8 (E O) c8),(12,ah n),(13,ah k)]/\Wk zL (.own 53 1 A8 (E O) c8 (O.map jz)::(O.map jT++F))) _ ⟨0,A,c,b,[],none,0,⟨bD _,rfl,hG.symm,hb,ga _⟩,rfl,a_,.refl _⟩ ?_;rintro _ _ _ ⟨k,Ab,cb,r,O,A8,c8,⟨hk,hO,hR,Dn,KL⟩,rfl,hs,hp⟩;refine aL hs hp (ag 6 (λgT=>?_) λgT=>?_)
 ·obtain⟨j,hj⟩:∃j,n-k=j+1:=⟨n-k-1,aa⟩
  rw[hj,Mz]at hR;have awl:aJ B w0 (O.map jT++F) 1 (.slice Ab (E r) cb) (E r) (bv r):=Dn.mono (fN _ F);refine cY ?_;refine bp aqG rfl (acH aA aa adp Ol) rfl ?_;rintro _ _ ⟨p18,X18,rfl,cR,hX1,hX2⟩;obtain rfl:=cR.symm;refine ag 18 (λrq=>?_) λrq=>?_
  ·have Sv:(jc bound r).2.2≠0:=by simpa using rq
   rw[av Sv]at hR;refine aD 5 [6,7] 9 ?_;rw[hX1 Sv];refine ak (L':=F) (.skip (wj (.refl _) _)) (aX ?_);exact⟨none,0,0,[],MV,rfl,λ_=>⟨rfl,rfl,rfl,rfl⟩,λq=>by rw[<-hR]at q;exact absurd q Sv⟩
  ·have Sv:(jc bound r).2.2=0:=by simpa using rq
   rw[aB (by simpa using Sv)]at hR;obtain⟨lw,lp,g18,P1,p1,P2,p2,rfl,hlp,hlw,hX⟩:=hX2 Sv;rw[hX];obtain⟨aiE,Zi,arP⟩:=ah_ Sv Ol;clear hX hX1 hX2;obtain⟨xs,hxs⟩:=cM ((jc bound r).1);obtain⟨t,ht⟩:=cM ((jc bound r).2.1);rw[<-hxs]at Zi arP hR⊢;rw[<-ht]at aiE hR⊢;refine fc ?_;refine ai rfl (aeg) (ag 4 (λq7=>?_) λq7=>?_)
   ·rw[av aa]at hR;refine aD 4 [6,7] 9 ?_;refine ak (L':=F) (.s4 (wj (.refl _) _)) (aX ?_);exact⟨none,0,0,[],MV,rfl,λ_=>⟨rfl,rfl,rfl,rfl⟩,λq=>akW⟩
   ·rw[aB aa]at hR;refine dg ?_;refine ay rfl (anG hlp hlw arP aa) λMi Mo=>cC alY rfl rfl rfl rfl rfl (λ_=>rfl) aU aa aa ?_;intro _ tI tY;refine aD 1 [1,2,8,10,12,13] 4 ?_;refine ab (bV (i:=t) (size:=1) underlying27 ae rfl rfl rfl aiE) rfl ?_;rw[show E r-t=E (r.drop t) from(jM ..).symm];refine cY ?_;have CV:E O+1=E (O++[(Mi,Mo,xs)]):=by simp
    refine aj ⟨_,aa,k+1,_,_,r.drop t,O++[(Mi,Mo,xs)],tI,tY,⟨aa,by simp[hO],by rw[show n-(k+1)=j by omega];simpa using hR,by have:=Dn.cut aiE;rwa [show(bv r).drop (t*1)=bv (r.drop t) by rw[cH,jJ],show E r-t=E (r.drop t) from(jM ..).symm]at this,l0⟩,rfl,a_,.s3 (ao3 (e:=(Mi,Mo,xs)) (O:=O) rfl rfl)⟩
 ·rw[show n-k=0 by omega,Mz]at hR;refine ag 13 (λtZ=>?_) λtZ=>?_
  ·refine cY ?_;refine ak (L':=F) (.skip (wj (.refl _) _)) (aX ?_);rw[av aa]at hR;exact⟨none,0,0,[],MV,rfl,λ_=>⟨rfl,rfl,rfl,rfl⟩,λq=>akW⟩
  ·refine fF ?_;rw[aB aa]at hR;exact⟨A8,c8,E O,.own 53 1 A8 (E O) c8 (O.map jz)::O.map jT,MV,rfl,λq=>by rw[<-hR]at q;exact absurd rfl q,λ_=>⟨O,MV,rfl,aa,rfl⟩⟩
def abt(d:List cJ×List (br)×Int)(F:aN)(r:Value)(L:aN):Prop:=
 ∃(A1:bh) (c1:Nat) (A2:bh) (c2:Nat) (LL:List rb),r= .tuple #[GL A1 (E d.1) c1 A2 (E LL) c2,ah d.2.2]/\LL.map (·.2.2)=d.2.1/\
  L= .own 9 1 A1 (E d.1) c1 (strs d.1):: .own 53 1 A2 (E LL) c2 (LL.map jz)::(LL.map jT++F)
theorem EM{e:Int}(h:r= .tuple #[GL none 0 0 none 0 0,ah e]):abt ([],[],e) F r (.own 9 1 none 0 0 []:: .own 53 1 none 0 0 []::F):=⟨none,0,none,0,[],h,rfl,rfl⟩
theorem ajA(hE:bound<0\/20000<bound):bg B w0 183 [ah size,ah bound,.slice A (E b) c] F (abt (ft size bound b) F):=by
 rw[WH hE];refine fw func183 48 [0,1,2] ?_;refine bW 2 λg6=>?_;refine bf 6 6 17 [0,1,2,6] (bound<0\/20000<bound) ?_ ?_
 ·refine bk 3 (λgT=>?_) (λgT=>?_)
  ·exact ax 4 (k:=oJ)
  ·exact ax 2 (k:=wm)
 ·refine ag 2 (λgH=>?_) λgH=>?_
  ·refine ew ?_;refine ab (eW [.slice none 0 0,.slice none 0 0] ae) rfl (dw ?_);refine aH 53 1 none (aH 9 1 none (iH rfl rfl ae aU jI rfl (.cons (.cons (.skip (.refl _)))) ?_));exact EM rfl
  ·exfalso;exact gH hE
theorem ajB(hE:¬(bound<0\/20000<bound))(hb:gw B w0 F A c b)(ey:E b<=1000000000)(he:(et size b).2.2≠0):
  bg B w0 183 [ah size,ah bound,.slice A (E b) c] F (abt (ft size bound b) F):=by
 rw[WI hE he];refine fw func183 48 [0,1,2] ?_;refine bW 2 λg6=>?_;refine bf 6 6 17 [0,1,2,6] (bound<0\/20000<bound) ?_ ?_
 ·refine bk 3 (λgT=>?_) (λgT=>?_)
  ·exact ax 4 (k:=oJ)
  ·exact ax 2 (k:=wm)
 ·refine ag 2 (λgH=>?_) λgH=>?_
  ·exfalso;exact hE gH
  ·refine dw ?_;refine ai rfl (YK aA aa he) ?_;refine ag 16 (λkq=>?_) λkq=>?_
   ·refine ew ?_;refine ab (eW [.slice none 0 0,.slice none 0 0] ae) rfl (aD 3 [6,7] 3 ?_);refine aH 53 1 none (aH 9 1 none (iH rfl rfl ae aU jI rfl (.cons (.cons (.skip (.refl _)))) ?_));exact EM rfl
   ·exfalso;exact kq he
theorem ajC(hE:¬(bound<0\/20000<bound))(hb:gw B w0 F A c b)(ey:E b<=1000000000)(Dn:E (b.drop (et size b).2.1)<=1000000)(he:(et size b).2.2=0):
  bg B w0 183 [ah size,ah bound,.slice A (E b) c] F (abt (ft size bound b) F):=by
 have q4:¬(size<1\/64<size):=λq=>by rw[vE q]at he;exact absurd he aE
 obtain⟨sz,rfl⟩:=gl (show 0<=size by omega);obtain⟨e1,e2,e3⟩:=Nw (sz:=sz) aa aa he;have hR1:= @WJ sz bound b hE he;have x6:= @KP sz bound b hE he;have hIL:Ba sz bound b=Mz bound (E (et sz b).1) (b.drop (et sz b).2.1) []:=rfl;have Za:et sz b=((et sz b).1,(et sz b).2.1,0):=Prod.ext rfl (Prod.ext rfl he);have hTl:=e1.2;have hcut:=hb.cut e2;rw[show(bv b).drop ((et sz b).2.1*1)=bv (b.drop (et sz b).2.1) by rw[cH,jJ],show E b-(et sz b).2.1=E (b.drop (et sz b).2.1) from(jM ..).symm]at hcut;have SH:E (b.drop (et sz b).2.1)<=E b:=by rw[jM];omega
 obtain⟨T,hT⟩:=cM ((et sz b).1);obtain⟨t,ht⟩:=cM ((et sz b).2.1);rw[<-hT]at e1 x6 hIL Za hTl;rw[<-ht]at e2 hIL Za hcut SH Dn;obtain⟨G,hG⟩:=cM (Ba sz bound b);rw[<-hG]at hR1 x6 hIL;clear hG e3;refine cV func183 48 rfl rfl rfl [(0,ah sz),(1,ah bound),(2,.slice A (E b) c)] ⟨⟨rfl,rfl⟩,⟨rfl,rfl⟩,⟨rfl,rfl⟩,trivial⟩ ?_;refine bW 2 λg6=>?_;refine bf 6 6 17 [0,1,2,6] (bound<0\/20000<bound) ?_ ?_
 ·refine bk 3 (λgT=>?_) (λgT=>?_)
  ·exact ax 4 (k:=oJ)
  ·exact ax 2 (k:=wm)
 ·refine ag 2 (λgH=>?_) λgH=>?_
  ·exfalso;exact hE gH
  ·refine dw ?_;refine bp aqy rfl (Sb (sz:=sz) aa aa aA aa Za) rfl ?_;rintro _ _ ⟨g22,P22,p22,Q22,q22,rfl,cR⟩;obtain rfl:=cR.symm;refine ag 16 (λkq=>?_) λkq=>?_
   ·exfalso;exact kq rfl
   ·refine cN 3 (Dd g22 sz P22 p22 Q22 q22 T (hdS sz T) (.bI g6 90 [.slice none 0 0,.slice none 0 0]::F)) ?_;refine dI 0 ?_;refine aF 2 3 ?_;refine aS 5 rfl (bV (i:=t) (size:=1) underlying27 ae rfl rfl rfl e2) ?_;rw[show E b-t=E (b.drop t) from(jM ..).symm];refine aC 1 (lu rfl rfl (amQ) (aC 6 (gS rfl .no aqz rfl (ai0 (n:=E T) aA aa aa aa aa) rfl (by rintro _ _ ⟨ME,Yj,m37,X37,rfl,rfl,hX1,hX2⟩;exact gI) ?_)));rintro _ _ ⟨ME,Yj,m37,X37,rfl,cR,hX1,hX2⟩;obtain rfl:=cR.symm;rw[<-hIL]at hX1 hX2;refine aF 7 5 ?_;refine di [6,8,10,11] ?_;refine ag 8 (λtZ=>?_) λtZ=>?_
    ·have adh:G.2≠0:=by rw[hIL];simpa using tZ
     obtain⟨rfl,rfl,rfl,rfl⟩:=hX1 adh;rw[hR1 adh];refine ew ?_;refine ab (eW [.slice none 0 0,.slice none 0 0] ae) rfl (dg ?_);refine aH 53 1 none (aH 9 1 none (iH rfl rfl ae aU jI rfl (.cons (.cons (.s4 (.refl _)))) ?_));exact EM (by rw[hIL])
    ·have adh:G.2=0:=by rw[hIL];simpa using tZ
     obtain⟨LL,Rb,rfl,Sz,rfl⟩:=hX2 adh;rw[x6 adh];refine fc ?_;refine jP (asC (.own 53 1 ME (E LL) Yj (LL.map jz)::LL.map jT)) ?_;refine ew ?_;refine ay rfl (amM aa) λMl Nb=>aX ?_;refine ab (eJ [(0,_),(1,_)] [_,_] rfl rfl ae) rfl (dx ?_);refine iH rfl rfl ae aU jI rfl (.s3 (.cons (.skip (.refl _)))) ?_;exact⟨Ml,Nb,ME,Yj,LL,rfl,Rb,rfl⟩
theorem ajD(hb:gw B w0 F A c b)(ey:E b<=1000000):
  bg B w0 183 [ah size,ah bound,.slice A (E b) c] F (abt (ft size bound b) F):=by
 by_cases hE:bound<0\/20000<bound
 ·exact ajA hE
 ·by_cases he:(et size b).2.2=0
  ·exact ajC hE hb aa l0 he
  ·exact ajB hE hb aa he
theorem ae4{B1:bh}{b1:Nat}{T:List cJ}{LL:List MH}(e:E LL=m)(h1:aJ B w0 F 1 (.slice A1 (E T) c1) (E T) (strs T))(hL:aJ B w0 F 1 (.slice B1 m b1) m (LL.map A_))(hI:ow B w0 F LL)(t_:∀e∈LL,E e.2.2<=9000000000000000000)(hs:E T<=1000000000)(hp:qO size bound T (gy LL)=(d,0)):
  bg B w0 48 [ah size,ah bound,GL A1 (E T) c1 B1 m b1] F (λr L=>∃A' c',r= .tuple #[.slice A' (E d) c',ah 0]/\L= .own 5 1 A' (E d) c' (bv d)::F):=by
 subst e;have:=ae3 (size:=size) (bound:=bound) h1 hL hI t_ hs
 rwa [hp]at this
theorem adW(hs:size<=9223372036854775807):E (ft size bound b).1<=1048576/\E (ft size bound b).2.1<=1048576/\∀x∈(ft size bound b).2.1,E x<=20000:=by
 by_cases h:(ft size bound b).2.2=0
 ·obtain⟨sz,bn,rfl,rfl,h1,h2,h3,h4,h5,h6,_⟩:=aiM h hs;have h7:=h4.2;exact⟨h7,aa,λx hx=>iY (h6 x hx).2.len h3⟩
 ·have e:(ft size bound b).1=[]/\(ft size bound b).2.1=[]:=by
   unfold ft at h⊢;split
   ·exact⟨rfl,rfl⟩
   ·split
    ·exact⟨rfl,rfl⟩
    ·split
     ·exact⟨rfl,rfl⟩
     ·rename_i q1 q2 q3;rw[aB q1,aB q2,aB q3]at h;exact absurd rfl h
  rw[e.1,e.2];exact⟨ao,ao,ao⟩
theorem apW(h:P:=by(have:=kE (L.drop a) k;have:=JW L a;omega)):P:=h
theorem ap4(h:P:=by(rw[qS,qS,<-Zh];exact jd _ _)):P:=h
theorem ap2(h:P:=by(rw[XR];exact aJ.own (.tail _ (.head _)))):P:=h
theorem RI{L:List aI}(h:dF 2 (o2 o)≠0):bg B w0 22 [.agg (aZ.cells o).toArray,.slice A (E L) c] F (Q3 (gL o L) F):=by
 have e:gL o L=([],dF 2 (o2 o)):=by unfold gL;rw[av h]
 rw[e];obtain⟨bl,pl,bu,da,pa,ch⟩:=o;refine cV func22 115 rfl rfl rfl [(0,.agg #[ah bl,.bool pl,ah bu,ah da,ah pa,ah ch]),(1,.slice A (E L) c)] ⟨⟨rfl,rfl⟩,⟨rfl,rfl⟩,trivial⟩ ?_;refine bM 2 λg2=>?_;refine cY ?_;refine ai rfl (yh (bl,pl,bu,da,pa,ch)) (ag 9 (λkJ=>?_) λkJ=>?_)
 ·refine dA ?_;refine ak (.skip (.refl _)) (aH 5 1 none ?_);exact bO 1
 ·exfalso;exact kJ h
theorem RJ{L:List aI}(h:¬dF 2 (o2 o)≠0)(hc:dC L≠0)(hb:aJ B w0 F 4 (.slice A (E L) c) (E L) (cD L)):bg B w0 22 [.agg (aZ.cells o).toArray,.slice A (E L) c] F (Q3 (gL o L) F):=by
 have e:gL o L=([],dC L):=by unfold gL;rw[aB h,av hc]
 rw[e];obtain⟨bl,pl,bu,da,pa,ch⟩:=o;refine cV func22 115 rfl rfl rfl [(0,.agg #[ah bl,.bool pl,ah bu,ah da,ah pa,ah ch]),(1,.slice A (E L) c)] ⟨⟨rfl,rfl⟩,⟨rfl,rfl⟩,trivial⟩ ?_;refine bM 2 λg2=>?_;refine cY ?_;refine ai rfl (yh (bl,pl,bu,da,pa,ch)) (ag 9 (λkJ=>?_) λkJ=>?_)
 ·exfalso;exact h kJ
 ·refine dw ?_;refine ai rfl (pg L hb.cons) (ag 9 (λqN=>?_) λqN=>?_)
  ·refine dA ?_;refine ak (.skip (.refl _)) (aH 5 1 none ?_);exact bO 1
  ·exfalso;exact qN hc
structure DH(S:Nat)(pl:Bool)(fs:fJ)(L:List aI)(gs:br)(k a:Nat):Prop where
 all:fs++iV false pl (gs.drop k) (L.drop a)=iV false pl gs L
 fit:w6 S (lens false (L.drop a)) (gs.drop k)
 le:a<=E L
theorem DH.step{fs:fJ}{L:List aI}{gs:br}{k a:Nat}(h:DH S pl fs L gs k a)(hk:k<E gs)(hn:n=gs.getD k 0)(hS:S<=32768)(hL:∀x∈L,x.fits):
  1<=n/\a+n<=E L/\E (ct false ((L.drop a).take n))<=32768/\DH S pl (fs++[(ij (ct false ((L.drop a).take n)) pl).1]) L gs (k+1) (a+n):=by
 have hgd:gs.drop k=n::gs.drop (k+1):=by rw[hn];exact cy aa 0
 have hf:=h.fit;have ha:=h.all;have hl:=h.le;rw[hgd]at hf ha;obtain⟨f1,f2,f3,f4,f5⟩:=hf;rw[dP,jM]at f2;refine⟨f1,aa,pd hS (λx hx=>hL x (oG hx)) f1 f3,⟨?_,by rw[<-mX,sK];exact f5,aa⟩⟩;rw[<-ha,bT];show _=fs++(_::iV false pl _ ((L.drop a).drop n));rw[mX];rfl
theorem ajO(b:Bool){L:List aI}{a k:Nat}(hk:a+k<=E L)(hb:aJ B w0 F 4 (.slice A (E L) c) (E L) (cD L))(hx:∀x∈L,x.1<18446744073709551616)(hw:dJ L<=1048576):
  bg B w0 45 [.bool b,.slice (if c=a then A else A.map (·.add (a*4))) (a+k-a) (c-a)] F (λr K=>∃A' c',r= .slice A' (E (ct b ((L.drop a).take k))) c'/\K= .own 5 1 A' (E (ct b ((L.drop a).take k))) c' (bv (ct b ((L.drop a).take k)))::F):=by
 have hcut:=(hb.h_ (k:=a+k) hk).cut (k:=a) aa;have e:(L.take (a+k)).drop a=(L.drop a).take k:=by rw[Hk];congr 1;omega
 rw[r8,pj,e]at hcut;have hl:a+k-a=E ((L.drop a).take k):=by rw[fZ,jM];omega
 rw[hl]at hcut⊢;exact Jt b ((L.drop a).take k) hcut (λx S5=>hx x (oG (ia S5))) apW
theorem R_{cc ii n2:Nat}(e:n2=E ss)(hl:E ns=E ss)(nC:aJ B w0 F 1 (.slice A1 (E ns) c1) (E ns) (bN ns))(nD:aJ B w0 F 1 (.slice A2 n2 c2) n2 (bN ss))(hn:E ns<=100000)(hs:ns.sum<=1000000000000000)(jj:∀x∈ss,x<=1000000000000000)(hc:cc<=1000000000000000)(hi:ii<=1000000000000000)(hd:yC ns ss cc ii=d):
  bg B w0 50 [bq g] (Db g A1 (E ns) c1 A2 n2 c2 cc ii::F) (GK d (Db g A1 (E ns) c1 A2 n2 c2 cc ii::F)):=by
 subst e;subst hd;exact R9 hl nC nD hn hs jj hc hi
theorem ahn{PB:List kF}{s1 s2 s3 s4:Value}{l1 l3 l4:aq}(hb:aJ B w0 F 1 (.slice A n c) n (PB.map de++[s1,s2,s3,s4]))(hn:n=E PB+4)(hPB:∀e∈PB,aJ B w0 F 1 (de e) (E e.2.2) (bv e.2.2))(h1:aJ B w0 F 1 s1 (E l1) (bv l1))(h2:aJ B w0 F 1 s2 (E l2) (bv l2))(h3:aJ B w0 F 1 s3 (E l3) (bv l3))(h4:aJ B w0 F 1 s4 (E l4) (bv l4))(hl:l=(PB.map (·.2.2)).flatten++(l1++(l2++(l3++l4))))(hlen:E l<=1099511627776)(yL:E PB<=1000000):
  bg B w0 52 [.slice A n c] F (GK l F):=by
 have hv:(PL PB++[(s1,l1),(s2,l2),(s3,l3),(s4,l4)]:eH).Dc=PB.map de++[s1,s2,s3,s4]:=by
  have:=Fv PB;unfold eH.Dc at this⊢;rw[iF,this];rfl
 refine yc (P:=PL PB++[(s1,l1),(s2,l2),(s3,l3),(s4,l4)]) (by rw[hv];exact hb) (λy hy=>?_) (by simp[PL,hn]) ?_ hlen B7
 ·rcases dO.1 hy with hy|hy
  ·obtain⟨e,he,rfl⟩:=qd.1 hy;exact hPB e he
  ·simp only[fq,kS,nL]at hy;rcases hy with rfl|rfl|rfl|rfl
   ·exact h1
   ·exact h2
   ·exact h3
   ·exact h4
 ·have:=Lo PB;unfold eH.all at this⊢;rw[tB,this,hl];simp
theorem Zw{L:List aI}(h1:1<=sz)(h2:sz<=64)(hw:dJ L<=1048576)(hn:E L<=20000)(ho:o.2.2.1=sz):qO (sz:Int) ((E L:Nat):Int) (mP L) (mq (mO L))=(qP o L,0):=by
 have hio:=J9 hw hn;have e:=KQ (sz:=sz) (bound:=((E L:Nat):Int)) (T:=mP L) (I:=mq (mO L)) h1 h2 hio;have e2:qP o L=(qO (sz:Int) ((E L:Nat):Int) (mP L) (mq (mO L))).1:=by unfold qP;rw[ho]
 rw[e2,e]
theorem Ew{m:Nat}:∀PB:List kF,(∀e∈PB,E e.2.2<=m)->E (PB.map (·.2.2)).flatten<=m*E PB
 |[],_=>by simp
 |e::r,h=>by
  have h1:=h e ao;have h2:=Ew r λx hx=>h x th;simp only[iN,Cy,bm,ei,wU,cH];omega
theorem Yc{L:List aI}{LL:List rb}(h:LL.map (·.2.2)=J8 (BP L) (E L)):∀e∈toI LL,E e.2.2<=E L:=λe he=>by
 obtain⟨x,hx,rfl⟩:=qd.1 he;have h2:x.2.2∈J8 (BP L) (E L):=by rw[<-h];exact jr (f:=λy:rb=>y.2.2) hx
 obtain⟨t,_,ht⟩:=qd.1 h2;simp only[eZ];rw[<-ht];unfold Pk;refine iY (OR _ _) ao
theorem RK(HT:cK B w0){L:List aI}(h:¬dF 2 (o2 o)≠0)(hc:¬dC L≠0)(hx:∀x∈L,x.1<18446744073709551616)(hb:aJ B w0 F 4 (.slice A (E L) c) (E L) (cD L)):bg B w0 22 [.agg (aZ.cells o).toArray,.slice A (E L) c] F (Q3 (gL o L) F):=by
 have e:gL o L=(gJ o L,0):=by unfold gL;rw[aB h,aB hc]
 obtain⟨q9,oB,G4⟩:=jC (b_ hc) hx;have hom:=Bv (.inr (.inl rfl)) (b_ h);obtain⟨⟨m1,m2⟩,_,m4,_⟩:=hom;obtain⟨m5,m6⟩:=m4 (.inr rfl);have Ms:E (dc o false L)<=E L:=by unfold dc;have:=lh o.1.toNat (lens false L);rwa [dP]at this
 have hil:=OD (o:=o) m5 m6 G4 q9;rw[e];refine dQ.yk hb λoP _=>?_;obtain⟨bl,pl,bu,da,pa,ch⟩:=o;simp only[o2]at m1 m2 m5 m6;obtain⟨S,rfl⟩:=gl (show 0<=bl by omega);obtain⟨sz,rfl⟩:=gl (show 0<=bu by omega);obtain⟨O,hO⟩:∃x:aZ,x=((S:Int),pl,(sz:Int),da,pa,ch):=⟨_,rfl⟩
 obtain⟨gs,ED⟩:=cM (dc ((S:Int),pl,(sz:Int),da,pa,ch) false L);have Zh:fz S (lens false L)=gs:=by rw[ED];rfl
 have xq:=vI ((S:Int),pl,(sz:Int),da,pa,ch) false L;have anh:DH S pl [] L gs 0 0:=⟨rfl,ap4,bD _⟩
 rw[<-ED]at Ms xq;refine cV func22 115 rfl rfl rfl [(0,.agg #[ah (S:Int),.bool pl,ah (sz:Int),ah da,ah pa,ah ch]),(1,.slice A (E L) c)] ⟨⟨rfl,rfl⟩,⟨rfl,rfl⟩,trivial⟩ ?_;refine bM 2 λg2=>?_;refine cY ?_;refine ai rfl (yh ((S:Int),pl,(sz:Int),da,pa,ch)) (ag 9 (λkJ=>?_) λkJ=>?_)
 ·exfalso;exact h kJ
 ·refine dw ?_;refine ai rfl (pg L hb.cons) (ag 9 (λqN=>?_) λqN=>?_)
  ·exfalso;exact hc qN
  ·refine dg ?_;refine ay rfl (N_ Zh hb.cons hx aa aa aa) λtI tY=>ab (bw [(0,_)] [.slice none 0 0,.slice none 0 0,ah 0,ah 0] [0] [_,_,_,_] rfl rfl ae) rfl (fo λg8=>?_);refine aD 1 [1,2,8] 13 ?_;refine aM 3 1 none (aM 27 1 none (cY ?_));refine aw (λzf zL zm=>∃(k a:Nat) (PB:List kF) (Ap:bh) (cp:Nat) (As:bh) (cs:Nat),(k<=E gs/\E PB=k/\DH S pl (PB.map (·.2.2)) L gs k a/\(∀e∈PB,E e.2.2<=33000)/\a=(gs.take k).sum)/\E gs-k=zm/\Sub zf [(1,.slice A (E L) c),(2,bq g2),(8,bq g8),(9,.slice Ap (E PB) cp),(10,ah a),(37,.slice tI (E gs) tY),(38,ah (E gs)),(39,ah k)]/\Wk zL (.own 27 1 Ap (E PB) cp (PB.map de):: .own 3 1 As (E PB) cs (bN (PB.map (·.2.2.length)))::Db g8 tI (E gs) tY As (E PB) cs 0 0:: .own 3 1 tI (E gs) tY (bN gs):: .bI g2 23 [ah (S:Int),.bool pl,ah (sz:Int),ah da,ah pa,ah ch]::(PB.map fk++F))) _ ⟨0,0,[],none,0,none,0,⟨bD _,rfl,anh,λe h=>absurd h (kS),ao⟩,rfl,a_,.refl _⟩ ?_;rintro _ _ _ ⟨k,a,PB,Ap,cp,As,cs,⟨hk,vN,G5,kh,hak⟩,rfl,hs,hp⟩;refine aL hs hp (ag 6 (λSw=>?_) λSw=>?_)
   ·obtain⟨n,hn⟩:=cM (gs.getD k 0);obtain⟨arS,Zm,aiG,adJ⟩:=G5.step aa hn aa oB;have hbw:=DQ (b:=ct false ((L.drop a).take n)) (pl:=pl) aiG;have sn:(gs.take (k+1)).sum=(gs.take k).sum+n:=by rw[aP aa 0,pJ,<-hn];simp
    have hbP:aJ B w0 (PB.map fk++F) 4 (.slice A (E L) c) (E L) (cD L):=hb.mono (fN _ _);refine dg ?_;refine ab (al ae rfl aA aa (fi (v:=n) aa hn.symm)) rfl ?_;refine cN 4 (.own 27 1 Ap (E PB) cp (PB.map de):: .own 3 1 As (E PB) cs (bN (PB.map (·.2.2.length)))::Db g8 tI (E gs) tY As (E PB) cs 0 0:: .own 3 1 tI (E gs) tY (bN gs):: .bI g2 23 [ah (S:Int),.bool pl,ah (sz:Int),ah da,ah pa,ah ch]::(PB.map fk++F)) ?_;refine aF 0 4 ?_;refine aS 4 rfl (bF rfl rfl (r:=((a+n:Nat):Int)) ((bj aa aa).trans aa)) (aS 5 rfl (fR (i:=a) (j:=a+n) (size:=4) underlying24 ae rfl rfl rfl rfl rfl aa aa) (aF 7 2 ?_));refine aC 6 (cj rfl rfl (ajO (L:=L) false Zm hbP.cons.cons.cons.cons.cons hx aa) λwF yn=>aC 9 (cj rfl rfl (M_ HT (b:=ct false ((L.drop a).take n)) (p:=pl) aA aa) λA53 c53=>?_));refine aF 10 5 ?_;refine aD 7 [1,2,8,9,10,12,13,14,37,38,39,57] 0 ?_;refine ag 1 (λWn=>?_) λWn=>?_
    ·exfalso;exact Wn hbw.2
    ·have qc:E (PB++[((A53,c53,(ij (ct false ((L.drop a).take n)) pl).1):kF)])=E PB+1:=by simp
     refine dw ?_;refine cC fO rfl rfl rfl rfl rfl (λ_=>rfl) aU aa aa ?_;intro _ A62 c62;refine dA ?_;refine cC gF rfl rfl rfl rfl rfl (λ_=>rfl) aU aa aa ?_;intro _ A68 c68;refine dg ?_;refine ab (bF rfl rfl (r:=((a+n:Nat):Int)) ((bj aa aa).trans aa)) rfl ?_;refine aD 1 [1,2,8,9,10,37,38,39] 6 ?_;refine aj ⟨_,aa,k+1,a+n,PB++[((A53,c53,(ij (ct false ((L.drop a).take n)) pl).1):kF)],A62,c62,A68,c68,⟨aa,by simp[vN],by simpa using adJ,λe h=>(by
      rcases dO.1 h with h|h
      ·exact kh e h
      ·rw[kT.1 h];exact hbw.1),aa⟩,rfl,a_,.trans ((dL (gC (gC (gC (gC (gC (.skip (.refl _))))))))) (.trans (oU (e:=((A53,c53,(ij (ct false ((L.drop a).take n)) pl).1):kF)) [.own 27 1 A62 (E PB+1) c62 (PB.map de++[de ((A53,c53,(ij (ct false ((L.drop a).take n)) pl).1):kF)]),.own 3 1 A68 (E PB+1) c68 (bN (PB.map (·.2.2.length))++[ah (E (ij (ct false ((L.drop a).take n)) pl).1:Int)]),Db g8 tI (E gs) tY A68 (E PB+1) c68 0 0,.own 3 1 tI (E gs) tY (bN gs),.bI g2 23 [ah (S:Int),.bool pl,ah (sz:Int),ah da,ah pa,ah ch]]) (au ao ao (au ao qj (bx ao (.refl _)))))⟩
   ·obtain rfl:k=E gs:=by omega
    have EB:=G5.all;rw[Cu]at EB;have SM:PB.map (·.2.2)=cB ((S:Int),pl,(sz:Int),da,pa,ch) L:=by
     rw[show cB ((S:Int),pl,(sz:Int),da,pa,ch) L=iV false pl gs L by unfold cB;rw[<-ED],<-EB];simp[iV]
    have hbP:aJ B w0 (PB.map fk++F) 4 (.slice A (E L) c) (E L) (cD L):=hb.mono (fN _ _);have yO:=rj (L:=L) aa;refine cY ?_;refine ay rfl (YA L hbP.cons.cons.cons.cons.cons hx aa) λA75 c75=>ay rfl (qJ HT (l:=kM L) aA aa) λA76 c76=>?_;refine cN 4 (.own 5 1 A76 (E (b7 (kM L))) c76 (bv (b7 (kM L))):: .own 5 1 A75 (E (kM L)) c75 (bv (kM L)):: .own 27 1 Ap (E PB) cp (PB.map de):: .own 3 1 As (E PB) cs (bN (PB.map (·.2.2.length)))::Db g8 tI (E gs) tY As (E PB) cs 0 0:: .own 3 1 tI (E gs) tY (bN gs):: .bI g2 23 [ah (S:Int),.bool pl,ah (sz:Int),ah da,ah pa,ah ch]::(PB.map fk++F)) ?_;refine aF 0 5 ?_;refine aC 5 (gS rfl .no aqQ rfl (Vp (L:=L) hbP.cons.cons.cons.cons.cons.cons.cons G4) rfl (by rintro _ _ ⟨AT,cT,AL,cL,LL,rfl,rfl,ait⟩;exact gI) ?_);rintro _ _ ⟨AT,cT,AL,cL,LL,rfl,cR,ait⟩;obtain rfl:=cR.symm;refine aC 6 (cj rfl rfl (ae4 (T:=mP L) (LL:=toI LL) (size:=(sz:Int)) (bound:=((E L:Nat):Int)) (m:=E (mP L)) (d:=qP ((S:Int),pl,(sz:Int),da,pa,ch) L) (by have:=eG List.length ait;rw[DA];simpa[J8,mP]using this) (aJ.own (.head _)) ap2 (XQ λe he=>.tail _ (.tail _ (ku _ (jr (f:=jT) he)))) (λe he=>by have:=Yc ait e he;omega) (by have:=(xu (o:=((S:Int),pl,(sz:Int),da,pa,ch)) (L:=L) (sz:=sz) rfl aa aa G4 q9).2.2.2.2;omega) (by rw[zK,ait];exact Zw aa aa G4 q9 rfl)) λA84 c84=>aF 7 5 ?_);refine di [8,9,15,16,17] ?_;refine fc ?_;refine mM (.cons (.s2 (ej _ _))) ?_;have hCe:ll L=b7 (kM L):=rfl;have hIe:lq ((S:Int),pl,(sz:Int),da,pa,ch) L=b7 (qP ((S:Int),pl,(sz:Int),da,pa,ch) L):=rfl;have hCl:E (ll L)=E (kM L)+4:=by rw[hCe,dD]
    have hIl:E (lq ((S:Int),pl,(sz:Int),da,pa,ch) L)=E (qP ((S:Int),pl,(sz:Int),da,pa,ch) L)+4:=by rw[hIe,dD]
    rw[<-hCe];have hss:(PB.map (·.2.2.length))=(cB ((S:Int),pl,(sz:Int),da,pa,ch) L).map List.length:=by rw[<-SM];simp
    have hse:E PB=E (PB.map (·.2.2.length)):=by simp
    have SH:E (yC gs (PB.map (·.2.2.length)) (E (ll L)) (E (lq ((S:Int),pl,(sz:Int),da,pa,ch) L)))<=60+20*E gs:=by
     have h1:=zS gs (PB.map (·.2.2.length)) (λn hn=>HJ) (λn hn=>by
      obtain⟨e,he,rfl⟩:=qd.1 hn;have:=kh e he;omega) (E gs)
     have h2:vw gs (PB.map (·.2.2.length)) (E gs)=(gs.zip (PB.map (·.2.2.length))).flatMap λp=>aW p.1++aW p.2:=by unfold vw;rw[gv bS]
     rw[h2]at h1;have h3:=aY (x:=gs.sum) aa;have h4:=aY (x:=E gs) aa;have h5:=aY (x:=E (ll L)) aa;have h6:=aY (x:=E (lq ((S:Int),pl,(sz:Int),da,pa,ch) L)) aa;unfold yC;simp only[bm];omega
    have hDe:oz ((S:Int),pl,(sz:Int),da,pa,ch) L=b7 (yC gs (PB.map (·.2.2.length)) (E (ll L)) (E (lq ((S:Int),pl,(sz:Int),da,pa,ch) L))):=by unfold oz;rw[hss,<-ED]
    obtain⟨dr,Za⟩:∃x,yC gs (PB.map (·.2.2.length)) (E (ll L)) (E (lq ((S:Int),pl,(sz:Int),da,pa,ch) L))=x:=⟨_,rfl⟩
    rw[Za]at SH hDe;have hDl:E (oz ((S:Int),pl,(sz:Int),da,pa,ch) L)=E dr+4:=by rw[hDe,dD]
    have hPB:∀e∈PB,aJ B w0 (PB.map fk++F) 1 (de e) (E e.2.2) (bv e.2.2):=λe he=>aJ.own (ku _ (jr (f:=fk) he));have arH:=Ew (m:=33000) PB kh;have avg:∀x∈(PB.map (·.2.2.length)),x<=1000000000000000:=λx hx=>(by
     obtain⟨e,he,rfl⟩:=qd.1 hx;have:=kh e he;omega)
    refine ag 5 (λh88=>?_) λh88=>?_
    ·exfalso;exact h88 rfl
    ·refine dx ?_;refine ay rfl (qJ HT (l:=qP ((S:Int),pl,(sz:Int),da,pa,ch) L) aA aa) λA91 c91=>fb ?_;rw[<-hIe];refine bK 13 ?_;refine ay rfl ((R_ (cc:=E (ll L)) (ii:=E (lq ((S:Int),pl,(sz:Int),da,pa,ch) L)) hse bS aA aA aa aa avg aa aa Za).perm ((pu6 (gh (gh (gh (gh (gh (gh (gh (gh (.refl _)))))))))))) λA98 c98=>?_;refine ay rfl (qJ HT (l:=dr) aA aa) λA99 c99=>fb ?_;rw[<-hDe];refine fc ?_;refine ab (be underlying3 underlying60 rfl (r:=(E (oz ((S:Int),pl,(sz:Int),da,pa,ch) L):Int)) (eQ aa aa)) rfl (ay rfl (N1 (x:=E (oz ((S:Int),pl,(sz:Int),da,pa,ch) L)) aa) λath awa=>aD 5 [9,15,16,18,19] 8 ?_);refine cv (aG fO [_,_,_,_] rfl rfl bY aa aa) λav7=>dB (bB fO rfl aU rfl aA bY aa aa) λabp ab8=>?_;refine ay rfl (ahn (PB:=PB) (l:=gJ ((S:Int),pl,(sz:Int),da,pa,ch) L) (l1:=ll L) (l2:=lq ((S:Int),pl,(sz:Int),da,pa,ch) L) (l3:=oz ((S:Int),pl,(sz:Int),da,pa,ch) L) (l4:=fT (E (oz ((S:Int),pl,(sz:Int),da,pa,ch) L)) 4) aA rfl (λe he=>by repeat (first|exact hPB e he|apply aJ.cons)) aA aA aA aA (by rw[SM];rfl) (by unfold gJ;rw[<-SM];simp only[bm,ql];omega) aa) λav8 awb=>dx ?_;exact ak (.cons (.skip (.skip (.skip (.skip (.skip (.skip (.skip (.skip (.skip (.skip (.skip (.skip (.skip (ej _ _))))))))))))))) (bO 1)
theorem xc(HT:cK B w0){L:List aI}(hx:∀x∈L,x.1<18446744073709551616)(hb:aJ B w0 F 4 (.slice A (E L) c) (E L) (cD L)):bg B w0 22 [.agg (aZ.cells o).toArray,.slice A (E L) c] F (Q3 (gL o L) F):=by
 by_cases h:dF 2 (o2 o)≠0
 ·exact RI h
 ·by_cases hc:dC L≠0
  ·exact RJ h hc hb
  ·exact RK HT h hc hx hb
end Go.Proofs.YtaodmbolhoafcaaGreatDoor

/-
  Texts of one proof, joined: part 11. No condition.
-/
import Derived.Test.YtaodmbolhoafcaaGreatDoorZo10
open Go.RowKit Go.Proofs.Tryz
namespace Go.Proofs.YtaodmbolhoafcaaGreatDoor
set_option linter.unusedVariables false
set_option linter.unusedSimpArgs false
set_option maxRecDepth 20000
variable{B:Nat}{w0:World}{F L0:aQ}{A A1 A2 Ao:bj}{n c c1 c2 co g gc:Nat}{s:Cs}{X:cV}{bt:TypeId}{bound size:Int}{v0 v1 v2 v3 v4 v5 v6 v7 v8 v9:Value}
theorem kq{L:List aI}(hc:cP L=0)(hx:∀x∈L,x.1<18446744073709551616):L.length≤20000∧(∀x∈L,x.fits)∧dU L≤1048576:=by
 unfold cP at hc;have:¬(20000<L.length∨(∃x∈L,uq x)∨1048576<dU L):=fun h=>by rw[ao h]at hc;simp at hc
 refine⟨aa,fun x h=>⟨hx x h,?_,?_⟩,aa⟩
 ·exact yf fun k=>this (.inr (.inl ⟨x,h,.inl k⟩))
 ·exact yf fun k=>this (.inr (.inl ⟨x,h,.inr k⟩))
theorem AE{v:Int}{o:aR}(hv:v=1∨v=2∨v=3)(h:cB v o=0):nZ v o:=by
 unfold cB at h;rw[ao hv]at h;exact bH fun k=>by rw[aw k]at h;simp at h
structure Left(S:Nat)(b pl:Bool)(full acc:al)(L R:List aI)(ns:bf):Prop where
 all:acc++(ju b pl ns R).flatten=full
 fit:CX S (lens b R) ns
 sub:∀x∈R,x∈L
 w:dU R≤dU L
theorem Left.step{S:Nat}{b pl:Bool}{full acc:al}{L R:List aI}{n:Nat}{ns:bf}(h:Left S b pl full acc L R (n::ns))(hS:S≤32768)(hL:∀x∈L,x.fits):
  1≤n∧n≤R.length∧(c_ b (R.take n)).length≤32768∧Left S b pl full (acc++(jA (c_ b (R.take n)) pl).1) L (R.drop n) ns:=by
 obtain⟨f1,f2,f3,f4,f5⟩:=h.fit;rw[et]at f2;refine⟨f1,f2,oJ hS (fun x hx=>hL x (h.sub x hx)) f1 f3,⟨?_,agF,fun x hx=>h.sub x (rk hx),jc (Jn R n) h.w⟩⟩;rw[←h.all,bV];rfl
theorem Da{b:al}{pl:Bool}(h:b.length≤32768):(jA b pl).1.length≤33000∧(jA b pl).2=0:=by
 have hy:=xC b pl;have e1:=aT (x:=b.length) aa;have e2:=aT (x:=(kp b pl).2.length) aa;rw[JB aa];refine⟨?_,rfl⟩;rw[du,aY];unfold xB;rw[ef,aY];omega
abbrev LQ(R:al×Int)(F:aQ)(r:Value)(L:aQ):Prop:=∃A' c',r= .tuple #[.slice A' R.1.length c',ah R.2]∧L= .own 5 1 A' R.1.length c' (bv R.1)::F
theorem Zx{o:aR}{L:List aI}(h:cB 1 o≠0):a_ B w0 26 [.agg (aR.cells o).toArray,.slice A L.length c] F (LQ (sm o L) F):=by
 have e:sm o L=([],cB 1 o):=by unfold sm;rw[ao h]
 rw[e];obtain⟨bl,pl,bu,da,pa,ch⟩:=o;refine cm func26 80 rfl rfl rfl [(0,.agg #[ah bl,.bool pl,ah bu,ah da,ah pa,ah ch]),(1,.slice A L.length c)] ⟨⟨rfl,rfl⟩,⟨rfl,rfl⟩,trivial⟩ ?_;refine be ?_;refine bh fun g2=>?_;refine bI ?_;refine ai rfl (kF 1 (bl,pl,bu,da,pa,ch)) ?_;refine bO ?_;refine aj (fun jj=>?_) fun jj=>?_
 ·refine bO ?_;refine aq (.skip (.refl _)) (aD 5 1 none ?_);refine aF ?_;exact⟨none,0,rfl,rfl⟩
 ·exfalso;exact jj h
theorem Zy{o:aR}{L:List aI}(h:¬cB 1 o≠0)(hc:cP L≠0)(hb:aK B w0 F 4 (.slice A L.length c) L.length (dh L)):a_ B w0 26 [.agg (aR.cells o).toArray,.slice A L.length c] F (LQ (sm o L) F):=by
 have e:sm o L=([],cP L):=by unfold sm;rw[aw h,ao hc]
 rw[e];obtain⟨bl,pl,bu,da,pa,ch⟩:=o;refine cm func26 80 rfl rfl rfl [(0,.agg #[ah bl,.bool pl,ah bu,ah da,ah pa,ah ch]),(1,.slice A L.length c)] ⟨⟨rfl,rfl⟩,⟨rfl,rfl⟩,trivial⟩ ?_;refine be ?_;refine bh fun g2=>?_;refine bI ?_;refine ai rfl (kF 1 (bl,pl,bu,da,pa,ch)) ?_;refine bO ?_;refine aj (fun jj=>?_) fun jj=>?_
 ·exfalso;exact h jj
 ·refine bz ?_;refine ai rfl (oP L hb.cons) ?_;refine bO ?_;refine aj (fun m7=>?_) fun m7=>?_
  ·refine bO ?_;refine aq (.skip (.refl _)) (aD 5 1 none ?_);refine aF ?_;exact⟨none,0,rfl,rfl⟩
  ·exfalso;exact m7 hc
theorem No{S:Nat}{b:Bool}{L:List aI}{gs:bf}(he:jw S (lens b L)=gs)(hb:aK B w0 F 4 (.slice A L.length c) L.length (dh L))(hx:∀x∈L,x.1<18446744073709551616)(hw:dU L≤1000000000)(hS:1≤S)(hS2:S≤9223372036854775807):
  a_ B w0 43 [ah (S:Int),.bool b,.slice A L.length c] F (fun r K=>∃A' c',r= .slice A' gs.length c'∧K= .own 3 1 A' gs.length c' (bx gs)::F):=by
 have:=acr (B:=B) (w0:=w0) (F:=F) (S:Int) b L hb hx hw S aa hS2;rw[he]at this;exact this
theorem aiN(b:Bool){R:List aI}{k:Nat}(hk:k≤R.length)(hb:aK B w0 F 4 (.slice A R.length c) R.length (dh R))(hx:∀x∈R,x.1<18446744073709551616)(hw:dU R≤1048576):
  a_ B w0 45 [.bool b,.slice A k c] F (fun r K=>∃A' c',r= .slice A' (c_ b (R.take k)).length c'∧K= .own 5 1 A' (c_ b (R.take k)).length c' (bv (c_ b (R.take k)))::F):=by
 have h:=hb.iY hk;rw[AS]at h;have hl:k=(R.take k).length:=by rw[eS];omega
 have hd:=I0 (B:=B) (w0:=w0) (F:=F) (A:=A) (c:=c) b (R.take k) (by rw[←hl];exact h) (fun x hxx=>hx x (l6 hxx)) (by have:=qw R k;omega);rw[←hl]at hd;exact hd
theorem amM{v:Int}{l:al}(h:qm v=(l,0)):a_ B w0 62 [ah v] F (fun r L=>∃A' c',r= .tuple #[.slice A' l.length c',ah 0]∧L= .own 5 1 A' l.length c' (bv l)::F):=by
 have:=Sb (B:=B) (w0:=w0) (F:=F) v;rw[h]at this;exact this
theorem ah_{v:Int}(h:PL v 1 3):qm v=(dY++[UInt8.ofNat v.toNat],0):=by unfold qm;rw[ao h]
theorem Zz(HT:bL B w0){o:aR}{L:List aI}(h:¬cB 1 o≠0)(hc:¬cP L≠0)(hx:∀x∈L,x.1<18446744073709551616)(hb:aK B w0 F 4 (.slice A L.length c) L.length (dh L)):a_ B w0 26 [.agg (aR.cells o).toArray,.slice A L.length c] F (LQ (sm o L) F):=by
 have e:sm o L=(qI o L,0):=by unfold sm;rw[aw h,aw hc]
 obtain⟨tC,rO,LB⟩:=kq (bH hc) hx;have hom:=AE (.inl rfl) (bH h);obtain⟨⟨m1,m2⟩,_⟩:=hom;have GM:(dR o true L).length≤L.length:=by unfold dR;have:=mZ o.1.toNat (lens true L);rwa [et]at this
 have NA:Left o.1.toNat true o.2.1 (tu o L++(ju true o.2.1 (dR o true L) L).flatten) (tu o L) L L (dR o true L):=⟨rfl,ky _ _,fun x hx=>hx,gi _⟩
 rw[e];refine dL.xk hb fun mm _=>?_;obtain⟨bl,pl,bu,da,pa,ch⟩:=o;simp only at m1 m2 NA;obtain⟨S,rfl⟩:=gJ (show 0≤bl by omega);rw[nH]at NA;obtain⟨gs,P8⟩:=cK (dR ((S:Int),pl,bu,da,pa,ch) true L);have ahG:jw S (lens true L)=gs:=by rw[P8];rfl
 have hH:tu ((S:Int),pl,bu,da,pa,ch) L=(dY++[1])++(aS S++([fI pl]++(aS L.length++aS gs.length))):=by rw[P8];rfl
 rw[←P8]at NA GM;have hn1:=aT (x:=S) aa;have tY:=aT (x:=L.length) aa;have hn3:=aT (x:=gs.length) aa;have Vi:(tu ((S:Int),pl,bu,da,pa,ch) L).length≤60:=by rw[hH];simp only[aY,dY,ef,sd];omega
 obtain⟨full,Nu⟩:=cK (tu ((S:Int),pl,bu,da,pa,ch) L++(ju true pl gs L).flatten);have hB:qI ((S:Int),pl,bu,da,pa,ch) L=cX full:=by rw[Nu,P8];rfl
 rw[hB];rw[←Nu]at NA;refine cm func26 80 rfl rfl rfl [(0,.agg #[ah (S:Int),.bool pl,ah bu,ah da,ah pa,ah ch]),(1,.slice A L.length c)] ⟨⟨rfl,rfl⟩,⟨rfl,rfl⟩,trivial⟩ ?_;refine be ?_;refine bh fun g2=>?_;refine bI ?_;refine ai rfl (kF 1 ((S:Int),pl,bu,da,pa,ch)) ?_;refine bO ?_;refine aj (fun jj=>?_) fun jj=>?_
 ·exfalso;exact h jj
 ·refine bz ?_;refine ai rfl (oP L hb.cons) ?_;refine bO ?_;refine aj (fun m7=>?_) fun m7=>?_
  ·exfalso;exact hc m7
  ·refine bK ?_;refine ay rfl (No ahG hb.cons hx aa aa aa) fun Bh Bp=>?_;refine aF ?_;refine ve [1,2,8] ?_;refine bA ?_;refine ay rfl (amM (l:=dY++[1]) (ah_ C6)) fun Qf c30=>?_;refine bK ?_;refine d_ (fun zf zL=>∃(A9:bj) (c9:Nat),Sub zf [(1,.slice A L.length c),(2,br g2),(8,.slice Bh gs.length Bp),(9,.slice A9 (tu ((S:Int),pl,bu,da,pa,ch) L).length c9)]∧Wk zL (.own 5 1 A9 (tu ((S:Int),pl,bu,da,pa,ch) L).length c9 (bv (tu ((S:Int),pl,bu,da,pa,ch) L)):: .own 3 1 Bh gs.length Bp (bx gs):: .bE g2 23 [ah (S:Int),.bool pl,ah bu,ah da,ah pa,ah ch]::F)) ?_ ?_
   ·refine cF (.own 5 1 Qf (dY++[1]:al).length c30 (bv (dY++[1])):: .own 3 1 Bh gs.length Bp (bx gs):: .bE g2 23 [ah (S:Int),.bool pl,ah bu,ah da,ah pa,ah ch]::F) ?_;refine ae 0 ?_;refine ae 1 ?_;refine ae 2 ?_;refine aW 3 rfl (bm underlying3 underlying60 rfl (r:=(S:Int)) (f_ aa aa)) ?_;refine ae 5 ?_;refine ae 6 ?_;refine ae 9 ?_;refine ae 10 ?_;refine aW 11 rfl (bm underlying3 underlying60 rfl (r:=(L.length:Int)) (f_ aa aa)) ?_;refine ae 13 ?_;refine ae 14 ?_;refine aW 15 rfl (bm underlying3 underlying60 rfl (r:=(gs.length:Int)) (f_ aa aa)) ?_;refine az 4 ?_;refine b7 rfl rfl (iO S aa) fun A37 c37=>?_;refine az 7 ?_;refine iW rfl rfl (alK pl) ?_;refine gS 8 12 ?_ ?_
    ·refine cR rfl (aG cD [_] rfl rfl cw aa aa) fun TQ=>?_;refine az 12 ?_;refine b7 rfl rfl (iO L.length aa) fun A45 c45=>?_;refine az 16 ?_;refine b7 rfl rfl (iO gs.length aa) fun A49 c49=>?_;refine az 17 ?_;refine cR rfl (aG fE [_,_,_,_,_] rfl rfl cw aa aa) fun BY=>?_;refine az 18 ?_;refine b7 rfl rfl (Ju (l1:=dY++[1]) (l2:=aS S) (l3:=[fI pl]) (l4:=aS L.length) (l5:=aS gs.length) aA aA aA aA aA aA hH aa) fun A51 c51=>?_;refine ae 19 ?_;refine cQ [1,2,8,9] ?_;exact bD ⟨A51,c51,bp,(ed (wu6 (wu6 (.skip (.skip (.skip (.skip (.skip (.skip (.refl _))))))))))⟩
    ·refine b7 rfl rfl (iO L.length aa) fun A45 c45=>?_;refine gS 8 16 ?_ ?_
     ·refine cR rfl (aG cD [_] rfl rfl cw aa aa) fun TQ=>?_;refine az 16 ?_;refine b7 rfl rfl (iO gs.length aa) fun A49 c49=>?_;refine az 17 ?_;refine cR rfl (aG fE [_,_,_,_,_] rfl rfl cw aa aa) fun BY=>?_;refine az 18 ?_;refine b7 rfl rfl (Ju (l1:=dY++[1]) (l2:=aS S) (l3:=[fI pl]) (l4:=aS L.length) (l5:=aS gs.length) aA aA aA aA aA aA hH aa) fun A51 c51=>?_;refine ae 19 ?_;refine cQ [1,2,8,9] ?_;exact bD ⟨A51,c51,bp,(ed (wu6 (wu6 (.skip (.skip (.skip (.skip (.skip (.skip (.refl _))))))))))⟩
     ·refine b7 rfl rfl (iO gs.length aa) fun A49 c49=>?_;refine az 8 ?_;refine cR rfl (aG cD [_] rfl rfl cw aa aa) fun TQ=>?_;refine az 17 ?_;refine cR rfl (aG fE [_,_,_,_,_] rfl rfl cw aa aa) fun BY=>?_;refine az 18 ?_;refine b7 rfl rfl (Ju (l1:=dY++[1]) (l2:=aS S) (l3:=[fI pl]) (l4:=aS L.length) (l5:=aS gs.length) aA aA aA aA aA aA hH aa) fun A51 c51=>?_;refine ae 19 ?_;refine cQ [1,2,8,9] ?_;exact bD ⟨A51,c51,bp,(ed (wu6 (wu6 (.skip (.skip (.skip (.skip (.skip (.skip (.refl _))))))))))⟩
   ·rintro _ _ ⟨A9,c9,hs,hp⟩;refine aU hs hp ?_;clear hs hp;refine bO ?_;refine aE (fun zf zL zm=>∃(k:Nat) (acc:al) (R:List aI) (Ar:bj) (cr:Nat) (A':bj) (c':Nat),(k≤gs.length∧Left S true pl full acc L R (gs.drop k)∧R.length≤cr∧aK B w0 F 4 (.slice Ar R.length cr) R.length (dh R)∧acc.length≤60+33000*k)∧gs.length-k=zm∧Sub zf [(1,.slice Ar R.length cr),(2,br g2),(9,.slice A' acc.length c'),(52,.slice Bh gs.length Bp),(53,ah gs.length),(54,ah k)]∧Wk zL (.own 5 1 A' acc.length c' (bv acc):: .own 3 1 Bh gs.length Bp (bx gs):: .bE g2 23 [ah (S:Int),.bool pl,ah bu,ah da,ah pa,ah ch]::F)) _ ⟨0,tu ((S:Int),pl,bu,da,pa,ch) L,L,A,c,A9,c9,⟨bS _,NA,mm,hb,aa⟩,rfl,bp,.refl _⟩ ?_;rintro _ _ _ ⟨k,acc,R,Ar,cr,A',c',⟨hk,NA,RJ,CB,D_⟩,rfl,hs,hp⟩;refine aU hs hp ?_;clear hs hp;refine bz ?_;refine aj (fun Yp=>?_) fun Yp=>?_
    ·obtain⟨n,hn⟩:=cK (gs.getD k 0);have hgd:gs.drop k=n::gs.drop (k+1):=by rw[hn];exact dx aa 0
     rw[hgd]at NA;obtain⟨asL,ahJ,ami,amb⟩:=NA.step aa rO;have hbw:=Da (b:=c_ true (R.take n)) (pl:=pl) ami;have hxR:∀x∈R,x.1<18446744073709551616:=fun x h=>hx x (NA.sub x h);have hwR:=NA.w;have hcut:=CB.cut ahJ;have hdl:(R.drop n).length=R.length-n:=iG;have wR:(acc++(jA (c_ true (R.take n)) pl).1).length=acc.length+(jA (c_ true (R.take n)) pl).1.length:=aY;rw[vk,←hdl]at hcut;refine bK ?_;refine ab (au ag rfl aA aa (gb (v:=n) aa hn.symm)) rfl ?_;refine b8 ?_;refine cF (.own 3 1 Bh gs.length Bp (bx gs):: .bE g2 23 [ah (S:Int),.bool pl,ah bu,ah da,ah pa,ah ch]::F) ?_;refine ae 0 ?_;refine ae 1 ?_;refine aW 2 rfl (bN (i:=n) (size:=4) underlying24 ag rfl rfl rfl aa) ?_;refine ae 4 ?_;refine ae 5 ?_;refine az 3 ?_;refine b7 rfl rfl (aiN (R:=R) true ahJ CB.cons.cons.cons hxR aa) fun A62 c62=>?_;refine az 6 ?_;refine b7 rfl rfl (Mq HT (b:=c_ true (R.take n)) (p:=pl) aA aa) fun A65 c65=>?_;refine ae 7 ?_;refine ae 8 ?_;refine ae 9 ?_;refine ae 10 ?_;refine ae 11 ?_;refine bO ?_;refine aj (fun h69=>?_) fun h69=>?_
     ·exfalso;exact h69 hbw.2
     ·refine bz ?_;refine fM (bT cD rfl aV rfl aA cw aa aa) fun A73 c73=>?_;refine aF ?_;refine ve [1,2,9,12,52,53,54] ?_;refine b8 ?_;refine ab (bQ (i:=n) (size:=4) underlying24 ag rfl rfl rfl aa) rfl ?_;refine bI ?_;refine av ⟨_,aa,k+1,acc++(jA (c_ true (R.take n)) pl).1,R.drop n,(if cr=n then Ar else Ar.map (·.add (n*4))),cr-n,A73,c73,⟨aa,amb,aa,hcut,aa⟩,rfl,bp,.trans ((rQ (rQ (rQ (.skip (.skip (.refl _))))))) (ax ak Bl (.refl _))⟩
    ·obtain rfl:k=gs.length:=by omega
     have hr0:=NA.all;rw[BI]at hr0;have tg:acc=full:=by rw[←hr0];simp[ju]
     subst tg;refine bI ?_;refine ay rfl (qB HT (l:=acc) aA aa) fun A79 c79=>?_;refine bG ?_;refine aq (.cons (.skip (.skip (.skip (.refl _))))) ?_;refine aF ?_;exact⟨A79,c79,rfl,rfl⟩
theorem ZA(HT:bL B w0){o:aR}{L:List aI}(hx:∀x∈L,x.1<18446744073709551616)(hb:aK B w0 F 4 (.slice A L.length c) L.length (dh L)):a_ B w0 26 [.agg (aR.cells o).toArray,.slice A L.length c] F (LQ (sm o L) F):=by
 by_cases h:cB 1 o≠0
 ·exact Zx h
 ·by_cases hc:cP L≠0
  ·exact Zy h hc hb
  ·exact Zz HT h hc hx hb
theorem nA(o:aR):a_ B w0 41 [.agg (aR.cells o).toArray] F (fun r L=>r=ah (cB 2 (o2 o))∧L=F):=by
 obtain⟨bl,pl,bu,da,pa,ch⟩:=o;refine cm func41 11 rfl rfl rfl [(0,.agg #[ah bl,.bool pl,ah bu,ah da,ah pa,ah ch])] ⟨⟨rfl,rfl⟩,trivial⟩ ?_;refine be ?_;refine bh fun g1=>?_;refine cZ ?_;refine ab (bw [(0,_),(1,_),(2,_)] [ah 0,.bool false,ah 0,ah 0,ah 0,ah 0] [0,1,2] [_,_,_,_,_,_] rfl rfl ag) rfl ?_;refine ai rfl (kF 2 (bl,pl,bu,0,0,0)) ?_;refine b8 ?_;refine aq (.skip (.refl _)) ?_;refine aF ?_;exact⟨rfl,rfl⟩
theorem nQ(l:bf)(k:Nat):(l.take k).sum≤l.sum:=by
 conv=>rhs;rw[←jJ k l,wi]
 omega
theorem Dg{ns:bf}(hb:aK B w0 F 1 (.slice A ns.length c) ns.length (bx ns))(hl:ns.length≤1099511627776)(hs:ns.sum≤1000000000000000):
  a_ B w0 92 [.slice A ns.length c] F (fun r L=>r=ah (ns.sum:Nat)∧L=F):=by
 refine fw func92 17 [0] ?_;refine zI ?_;refine aE (fun zf zL zm=>∃(k:Nat),(k≤ns.length)∧ns.length-k=zm∧Sub zf [(3,ah ((ns.take k).sum:Nat)),(6,.slice A ns.length c),(7,ah ns.length),(8,ah k)]∧Wk zL (F)) _ ⟨0,bS _,rfl,bp,.refl _⟩ ?_;rintro _ _ _ ⟨k,hk,rfl,hs,hp⟩;refine aU hs hp ?_;clear hs hp;refine bz ?_;refine aj (fun h9=>?_) fun h9=>?_
 ·obtain⟨v,hv⟩:=cK (ns.getD k 0);have sQ:(ns.take (k+1)).sum=(ns.take k).sum+v:=by rw[ba aa 0,wi,←hv];simp
  have hle:=nQ ns (k+1);refine bK ?_;refine ab (au ag rfl hb aa (gb (v:=v) aa hv.symm)) rfl ?_;refine bz ?_;refine ab (bX rfl rfl (r:=(((ns.take (k+1)).sum:Nat):Int)) ((bF aa aa).trans aa)) rfl ?_;refine bI ?_;refine av ⟨_,aa,k+1,aa,rfl,bp,.refl _⟩
 ·obtain rfl:k=ns.length:=by omega
  rw[jS];refine dc ?_;exact⟨rfl,rfl⟩
abbrev Db(g:Nat)(A1:bj)(n1 c1:Nat)(A2:bj)(n2 c2:Nat)(c i:Nat):Ch:=.bE g 83 [.slice A1 n1 c1,.slice A2 n2 c2,ah c,ah i]
def uR(ns ss:bf)(k:Nat):al:=((ns.zip ss).take k).flatMap fun p=>aS p.1++aS p.2
theorem aaK{ns ss:bf}(hl:ns.length=ss.length){k:Nat}(hk:k<ns.length):uR ns ss (k+1)=uR ns ss k++(aS (ns.getD k 0)++aS (ss.getD k 0)):=by
 unfold uR;rw[ba (d:=(0,0)) bR,uf];simp[bk,fm hk,fm (show k<ss.length by omega),fm (show k<(ns.zip ss).length by simp;omega)]
theorem y9(ns ss:bf)(h1:∀n∈ns,n<18446744073709551616)(h2:∀n∈ss,n<18446744073709551616)(k:Nat):(uR ns ss k).length≤20*k:=by
 unfold uR;have:∀l:List (Nat×Nat),(∀p∈l,p.1<18446744073709551616∧p.2<18446744073709551616)→(l.flatMap fun p=>aS p.1++aS p.2).length≤20*l.length:=by
  intro l;induction l with
  |nil=>simp
  |cons p r ih=>
   intro h;have h3:=ih fun q hq=>h q (by simp[hq]);obtain⟨h4,h5⟩:=h p ak;have h6:=aT h4;have h7:=aT h5;rw[jI,aY,aY,ef];omega
 have h3:=this ((ns.zip ss).take k) fun p hp=>by
  have hp:=l6 hp;exact⟨h1 _ (List.of_mem_zip hp).1,h2 _ (List.of_mem_zip hp).2⟩
 rw[eS]at h3;omega
theorem QU{ns ss:bf}{cc ii:Nat}(hl:ns.length=ss.length)(qd:aK B w0 F 1 (.slice A1 ns.length c1) ns.length (bx ns))(oL:aK B w0 F 1 (.slice A2 ss.length c2) ss.length (bx ss))(hn:ns.length≤100000)(hs:ns.sum≤1000000000000000)(jF:∀x∈ss,x≤1000000000000000)(hc:cc≤1000000000000000)(hi:ii≤1000000000000000):
  a_ B w0 50 [br g] (Db g A1 ns.length c1 A2 ss.length c2 cc ii::F) (Gh (xP ns ss cc ii) (Db g A1 ns.length c1 A2 ss.length c2 cc ii::F)):=by
 have hn1:=aT (x:=ns.sum) aa;have tY:=aT (x:=ns.length) aa;have hn3:=aT (x:=cc) aa;have hn4:=aT (x:=ii) aa;have hz:=y9 ns ss (fun n hn=>Xy) (fun n hn=>by have:=jF n hn;omega);refine fw func50 63 [0] ?_;refine bz ?_;refine cF (Db g A1 ns.length c1 A2 ss.length c2 cc ii::F) ?_;refine ae 0 ?_;refine ae 1 ?_;refine ae 2 ?_;refine ae 3 ?_;refine ae 7 ?_;refine ae 8 ?_;refine ae 9 ?_;refine ae 10 ?_;refine ae 11 ?_;refine aW 12 rfl (bm underlying3 underlying60 rfl (r:=((ns.length:Nat):Int)) (f_ aa aa)) ?_;refine az 4 ?_;refine iW rfl rfl (Dg (ns:=ns) qd.cons aa hs) ?_;refine aW 5 rfl (bm underlying3 underlying60 rfl (r:=((ns.sum:Nat):Int)) (f_ aa aa)) ?_;refine az 6 ?_;refine b7 rfl rfl (iO ns.sum aa) fun PR c12=>?_;refine az 13 ?_;refine b7 rfl rfl (iO ns.length aa) fun Lp c19=>?_;refine az 14 ?_;refine cR rfl (aG fE [_,_] rfl rfl cw aa aa) fun G'=>?_;refine az 15 ?_;refine b7 rfl rfl (Qn (l1:=aS ns.sum) (l2:=aS ns.length) aA aA aA rfl tJ) fun A21 c21=>?_;refine ae 16 ?_;refine cQ [0,3] ?_;refine dc ?_;refine aE (fun zf zL zm=>∃(k:Nat) (A':bj) (c':Nat) (acc:al),(k≤ns.length∧acc=aS ns.sum++aS ns.length++uR ns ss k)∧ns.length-k=zm∧Sub zf [(0,br g),(3,.slice A' acc.length c'),(25,.slice A1 ns.length c1),(26,ah ns.length),(27,ah k)]∧Wk zL (.own 5 1 A' acc.length c' (bv acc)::Db g A1 ns.length c1 A2 ss.length c2 cc ii::F)) _ ⟨0,A21,c21,aS ns.sum++aS ns.length,⟨bS _,by simp[uR]⟩,rfl,bp,(ed (tF (.skip (.skip (.skip (.refl _))))))⟩ ?_;rintro _ _ _ ⟨k,A',c',acc,⟨hk,mI⟩,rfl,hs,hp⟩;refine aU hs hp ?_;clear hs hp;refine bz ?_;refine aj (fun qF=>?_) fun qF=>?_
 ·obtain⟨v,hv⟩:=cK (ns.getD k 0);obtain⟨u,hu⟩:=cK (ss.getD k 0);have hzs:=aaK hl (k:=k) aa;have Kn:=hz k;have vG:=hz (k+1);have hvs:v≤ns.sum:=by rw[hv];exact pD (bg aa 0)
  have hus:u≤1000000000000000:=by rw[hu];exact jF _ (bg aa 0)
  have hn5:=aT (x:=v) aa;have hn6:=aT (x:=u) aa;rw[←hv,←hu]at hzs;have D_:acc.length=(aS ns.sum).length+(aS ns.length).length+(uR ns ss k).length:=by rw[mI];simp only[aY]
  refine bI ?_;refine ab (au ag rfl aA aa (gb (v:=v) aa hv.symm)) rfl ?_;refine b8 ?_;refine cF (.own 5 1 A' acc.length c' (bv acc)::Db g A1 ns.length c1 A2 ss.length c2 cc ii::F) ?_;refine ae 0 ?_;refine ae 1 ?_;refine aW 2 rfl (bm underlying3 underlying60 rfl (r:=((v:Nat):Int)) (f_ aa aa)) ?_;refine ae 4 ?_;refine ae 5 ?_;refine ae 6 ?_;refine ae 7 ?_;refine ae 8 ?_;refine ae 9 ?_;refine aW 10 rfl (au ag rfl aA aa (gb (v:=u) aa hu.symm)) ?_;refine aW 11 rfl (bm underlying3 underlying60 rfl (r:=((u:Nat):Int)) (f_ aa aa)) ?_;refine az 3 ?_;refine b7 rfl rfl (iO v aa) fun Lq c35=>?_;refine az 12 ?_;refine b7 rfl rfl (iO u aa) fun A44 c44=>?_;refine az 13 ?_;refine cR rfl (aG fE [_,_,_] rfl rfl cw aa aa) fun A45=>?_;refine az 14 ?_;refine b7 rfl rfl (Jt (l1:=acc) (l2:=aS v) (l3:=aS u) aA aA aA aA rfl L3) fun A46 c46=>?_;refine ae 15 ?_;refine cQ [0,3,25,26,27] ?_;refine bz ?_;refine av ⟨_,aa,k+1,A46,c46,acc++(aS v++aS u),⟨aa,by rw[hzs,mI,bV]⟩,rfl,bp,(ed (wu4 (.skip (.skip (.skip (.skip (.refl _)))))))⟩
 ·obtain rfl:k=ns.length:=by omega
  have tX:uR ns ss ns.length=(ns.zip ss).flatMap fun p=>aS p.1++aS p.2:=by unfold uR;rw[fA bR]
  have Kn:=hz ns.length;have D_:acc.length=(aS ns.sum).length+(aS ns.length).length+(uR ns ss ns.length).length:=by rw[mI];simp only[aY]
  refine bz ?_;refine cF (.own 5 1 A' acc.length c' (bv acc)::Db g A1 ns.length c1 A2 ss.length c2 cc ii::F) ?_;refine ae 0 ?_;refine ae 1 ?_;refine ae 2 ?_;refine ae 3 ?_;refine ae 4 ?_;refine aW 5 rfl (bm underlying3 underlying60 rfl (r:=((cc:Nat):Int)) (f_ aa aa)) ?_;refine ae 7 ?_;refine ae 8 ?_;refine ae 9 ?_;refine ae 10 ?_;refine aW 11 rfl (bm underlying3 underlying60 rfl (r:=((ii:Nat):Int)) (f_ aa aa)) ?_;refine az 6 ?_;refine b7 rfl rfl (iO cc aa) fun A54 c54=>?_;refine az 12 ?_;refine b7 rfl rfl (iO ii aa) fun A60 c60=>?_;refine az 13 ?_;refine cR rfl (aG fE [_,_,_] rfl rfl cw aa aa) fun A61=>?_;refine az 14 ?_;refine b7 rfl rfl (Jt (l1:=acc) (l2:=aS cc) (l3:=aS ii) aA aA aA aA rfl L3) fun A62 c62=>?_;refine ae 15 ?_;refine cQ [2] ?_;refine be ?_;refine aq ((ed (wu4 (.skip (.skip (.skip (.skip (.refl _)))))))) ?_;refine aF ?_;have e:xP ns ss cc ii=acc++(aS cc++aS ii):=by unfold xP;rw[mI,tX];simp only[bV]
  rw[e];exact⟨A62,c62,rfl,rfl⟩
theorem vR{P:Prop}(h:P:=by(rw[sQ])):P:=h
theorem Wz(x:Nat){k:Nat}(hk:k≤7):((x:Nat):Int).fdiv (2^min (((8*k:Nat):Int)).toNat IntKind.u64.bits)=((x/2^(8*k):Nat):Int):=by
 have e:min (((8*k:Nat):Int)).toNat IntKind.u64.bits=8*k:=by
  show min _ 64=_;omega
 rw[e,G5,VA]
theorem y8(m:Nat):IntKind.u8.wrap ((m:Nat):Int)=((m%256:Nat):Int):=by
 show((m:Nat):Int)%256=_;omega
theorem Ng{x:Nat}(hx:x<4294967296):a_ B w0 51 [.int .u64 x,ah 4] F (fun r L=>∃A' c',r= .tuple #[.slice A' (fF x 4).length c',ah 0]∧L= .own 5 1 A' (fF x 4).length c' (bv (fF x 4))::F):=by
 have CD:((x:Nat):Int).fdiv (2^min ((32:Int)).toNat IntKind.u64.bits)=0:=by
  have:=Wz x (k:=4) aa;rw[show((8*4:Nat):Int)=32 from rfl]at this;rw[this,show 8*4=32 from rfl];have:x/2^32=0:=BB aa;omega
 refine fw func51 42 [0,1] ?_;refine cH ?_;refine aL rfl rfl rfl (fun jx=>?_) (fun jx=>?_)
 ·refine bG ?_;refine aL rfl rfl rfl (fun jZ=>?_) (fun jZ=>?_)
  ·refine bG ?_;refine cM (fun iF=>?_) fun iF=>?_
   ·refine b8 ?_;refine ab (eZ rfl rfl (r:=32) rfl) rfl ?_;refine aF ?_;refine ab (dj rfl rfl aa (r:=0) CD) rfl ?_;refine bG ?_;refine ve [0,1,24] ?_;refine aF ?_;refine aj (fun oh=>?_) fun oh=>?_
    ·exfalso;exact oh rfl
    ·refine bG ?_;refine cC (fb (nn:=4) (cc:=4) cD rfl rfl rfl rfl rfl aa aa aa) fun tc=>?_;refine cH ?_;refine aE (fun zf zL zm=>∃(k:Nat),(k≤4)∧4-k=zm∧Sub zf [(0,.int .u64 x),(6,.slice tc 4 4),(28,ah 4),(29,ah k)]∧Wk zL (.own 5 1 tc 4 4 (bv (fF x k)++List.replicate (4-k) (.int .u8 0))::F)) _ ⟨0,bS _,rfl,bp,.refl _⟩ ?_;rintro _ _ _ ⟨k,hk,rfl,hs,hp⟩;refine aU hs hp ?_;clear hs hp;refine bz ?_;refine aj (fun Bu=>?_) fun Bu=>?_
     ·refine jk ?_;refine ab (eZ rfl rfl (r:=((8*k:Nat):Int)) ((bF aa aa).trans aa)) rfl ?_;refine ab (dj rfl rfl aa (r:=((x/2^(8*k):Nat):Int)) (Wz x aa)) rfl ?_;refine ab (bm underlying60 underlying5 rfl (r:=((x/2^(8*k)%256:Nat):Int)) (y8 _)) rfl ?_;refine bO ?_;refine av ⟨_,aa,k+1,aa,rfl,bp,ax rfl (by rw[cE];exact UU aa _ rfl) (.refl _)⟩
     ·obtain rfl:k=4:=by omega
      refine dc ?_;refine aq (L':=.own 5 1 tc (fF x 4).length 4 (bv (fF x 4))::F) (ax ak ak (.refl _)) ?_;refine aF ?_;exact⟨tc,4,ak,rfl⟩
   ·exfalso;omega
  ·exfalso;omega
 ·exfalso;omega
theorem BK(l:al)(x:UInt8):iN (l++[x])=iN l+256^l.length*x.toNat:=by
 induction l with
 |nil=>simp[iN]
 |cons c r ih=>
  simp only[nI,iN,ih,ef,nK];rw[ue,NM];congr 2;rw[←tq];congr 1;exact nL _ _
theorem rq(l:al):iN l<256^l.length:=by
 induction l with
 |nil=>simp[iN]
 |cons c r ih=>
  have:=c.toNat_lt;simp only[iN,ef,nK];omega
theorem V_(k:Nat):(256:Nat)^k=2^(8*k):=by rw[show(256:Nat)=2^8 from rfl,←Nat.pow_mul]
theorem akG{y k:Nat}(hk:k≤6)(hy:y<256):IntKind.u64.wrap ((y:Int)*2^min (((8*k:Nat):Int)).toNat IntKind.u64.bits)=((y*256^k:Nat):Int):=by
 have e:min (((8*k:Nat):Int)).toNat IntKind.u64.bits=8*k:=by
  show min _ 64=_;omega
 have hp:(2:Nat)^(8*k)≤2^48:=la aa aa;have hm:y*2^(8*k)≤255*2^48:=gL aa hp;have e3:(y:Int)*2^(8*k)=((y*2^(8*k):Nat):Int):=by simp
 rw[e,e3,V_];exact f_ aa aa
theorem aqV{m y k:Nat}(hk:k≤6)(hy:y<256)(hm:m<256^k):IntKind.u64.wrap ((BitVec.ofInt IntKind.u64.bits (m:Int) ||| BitVec.ofInt IntKind.u64.bits ((y*256^k:Nat):Int)).toNat:Int)=((m+256^k*y:Nat):Int):=by
 have hp:(2:Nat)^(8*k)≤2^48:=la aa aa;have hmm:y*2^(8*k)≤255*2^48:=gL aa hp;rw[V_]at hm⊢;have h64:IntKind.u64.bits=64:=rfl;have h1:(BitVec.ofInt IntKind.u64.bits (m:Int)).toNat=m:=by
  rw[IC,h64];omega
 have h2:(BitVec.ofInt IntKind.u64.bits ((y*2^(8*k):Nat):Int)).toNat=y*2^(8*k):=by
  rw[IC,h64];omega
 rw[BitVec.toNat_or,h1,h2,OF _ _ _ hm,nL (2^(8*k)) y];exact f_ aa aa
theorem JH{b:al}{k:Nat}(h:k<b.length):(bv b)[k*1]? =some (.int .u8 ((b.getD k 0).toNat:Int)):=by
 simp[bv,List.getD,fm h]
theorem wK(s:Cs):(s.take 4).length≤4:=by
 unfold Cs.take;split
 ·simp
 ·split
  ·simp
  ·rw[eS];omega
theorem HF(ho:ct s)(hb:aK B w0 F 1 (.slice A s.b.length c) s.b.length (bv s.b)):
  a_ B w0 197 [br g,ah 4] (Cv g A c s::F) (fun r L=>r= .int .u64 (s.fixed 4)∧L=Cv g A c (s.k9 4)::F):=by
 have e1:s.fixed 4=iN (s.take 4):=by unfold Cs.fixed;rw[aw aa]
 have e2:s.k9 4=s.b_ 4:=by unfold Cs.k9;rw[aw aa]
 have hl:=wK s;obtain⟨t,ht⟩:=cK (s.take 4);rw[e1,e2];rw[←ht]at hl⊢;refine fw func197 34 [0,1] ?_;refine cZ ?_;refine aL rfl rfl rfl (fun jx=>?_) (fun jx=>?_)
 ·refine bz ?_;refine dm fun mE=>?_;refine cH ?_;refine ay rfl (mg ho hb (m:=4) aa aa) fun tb uU=>?_;rw[←ht];refine bG ?_;refine aE (fun zf zL zm=>∃(k:Nat),(k≤t.length)∧t.length-k=zm∧Sub zf [(5,.int .u64 (iN (t.take k))),(18,.slice tb t.length uU),(19,ah t.length),(20,ah k)]∧Wk zL (Cv g A c (s.b_ 4):: .own 5 1 tb t.length uU (bv t)::F)) _ ⟨0,bS _,rfl,bp,.refl _⟩ ?_;rintro _ _ _ ⟨k,hk,rfl,hs,hp⟩;refine aU hs hp ?_;clear hs hp;refine bz ?_;refine aj (fun l0=>?_) fun l0=>?_
  ·obtain⟨y,hy⟩:=cK ((t.getD k 0).toNat);have hy8:y<256:=by rw[hy];exact lT _
   have fN:=rq (t.take k);rw[eS,zb hk]at fN;have sQ:iN (t.take (k+1))=iN (t.take k)+256^k*y:=by rw[ba aa 0,BK,eS,zb hk,←hy]
   refine bI ?_;refine ab (au (v:=.int .u8 (y:Int)) ag rfl aA aa (by rw[hy];exact JH aa)) rfl ?_;refine bK ?_;refine ab (bm underlying5 underlying60 rfl (r:=(y:Int)) (f_ aa aa)) rfl ?_;refine aF ?_;refine ab (eZ rfl rfl (r:=((8*k:Nat):Int)) ((bF aa aa).trans aa)) rfl ?_;refine ab (ga rfl rfl aa (r:=((y*256^k:Nat):Int)) (akG aa hy8)) rfl ?_;refine ab (tN rfl rfl (r:=((iN (t.take (k+1)):Nat):Int)) ((aqV aa hy8 fN).trans vR)) rfl ?_;refine bI ?_;refine av ⟨_,aa,k+1,aa,rfl,bp,.refl _⟩
  ·obtain rfl:k=t.length:=by omega
   rw[jS];refine cH ?_;refine aq (.cons (.skip (.refl _))) ?_;refine aF ?_;exact⟨rfl,rfl⟩
 ·exfalso;omega
section
theorem aot{P:Prop}(h:P:=by(first|exact⟨fun h=>⟨by omega,h⟩,fun h=>h.2⟩|exact fun h=>absurd h.1 (by omega)|omega)):P:=h
theorem T8{P:Prop}(h:P:=by(have:=qc.1;omega)):P:=h
theorem ald{P:Prop}(h:P:=by(rw[show Lw d-(i+1)=f by omega];exact Rv)):P:=h
theorem aa_{P:Prop}(h:P:=by(rw[hu];simp[bx])):P:=h
theorem abg{ns:bf}(hb:aK B w0 F 1 (.slice A ns.length c) ns.length (bx ns))(hl:ns.length≤1000000000000):
  a_ B w0 264 [.slice A ns.length c,ah 0] F (fun r L=>∃k:Int,r=ah k∧(0≤k↔0∈ns)∧L=F):=by
 refine fw func264 19 [0,1] ?_;refine dQ ?_;refine aE (fun zf zL zm=>∃(k:Nat),(k≤ns.length∧∀i,i<k→ns.getD i 0≠0)∧ns.length-k=zm∧Sub zf [(0,.slice A ns.length c),(1,ah 0),(7,ah ns.length),(8,ah k)]∧Wk zL (F)) _ ⟨0,⟨bS _,fun i h=>absurd h (Nat.not_lt_zero i)⟩,rfl,bp,.refl _⟩ ?_;rintro _ _ _ ⟨k,⟨hk,hz⟩,rfl,hs,hp⟩;refine aU hs hp ?_;clear hs hp;refine bz ?_;refine aj (fun h9=>?_) fun h9=>?_
 ·obtain⟨v,hv⟩:=cK (ns.getD k 0);refine jQ ?_;refine ab (au ag rfl hb aa (gb (v:=v) aa hv.symm)) rfl ?_;refine bA ?_;refine aj (fun ki=>?_) fun ki=>?_
  ·refine dc ?_;refine⟨_,rfl,⟨fun _=>?_,fun _=>aa⟩,rfl⟩;have hm:=bg (l:=ns) (k:=k) aa 0;rw[←hv,show v=0 by omega]at hm;exact hm
  ·refine bK ?_;refine av ⟨_,aa,k+1,⟨aa,fun i hi=>(by
    rcases Nat.lt_succ_iff_lt_or_eq.1 hi with h|h
    ·exact hz i h
    ·subst h;omega)⟩,rfl,bp,.refl _⟩
 ·refine cH ?_;refine⟨_,rfl,⟨fun h=>absurd h aa,fun h=>?_⟩,rfl⟩;obtain⟨i,hi,he⟩:=j0 h;exact absurd (by simp[bk,fm hi,he]) (hz i aa)
theorem Md{ns:bf}(hb:aK B w0 F 1 (.slice A ns.length c) ns.length (bx ns))(hl:ns.length≤1000000000000):
  a_ B w0 224 [.slice A ns.length c,ah 0] F (fun r L=>r= .bool (decide (0∈ns))∧L=F):=by
 refine fw func224 9 [0,1] ?_;refine bO ?_;refine aX aps rfl (abg hb hl) rfl ?_;rintro _ _ ⟨k,rfl,hk,cA⟩;obtain rfl:=cA.symm;refine bz ?_;exact⟨dB Value.bool (sc.2 hk),rfl⟩
def FtA(R:al×al×Int)(B:Nat)(w0:World)(F:aQ)(r:Value)(L:aQ):Prop:=
 ∃Ar cr Ad cd Y,r= .tuple #[.slice Ar R.1.length cr,.slice Ad R.2.1.length cd,ah R.2.2]∧L=Y++F∧R.1.length≤cr∧aK B w0 L 1 (.slice Ar R.1.length cr) R.1.length (bv R.1)∧aK B w0 L 1 (.slice Ad R.2.1.length cd) R.2.1.length (bv R.2.1)
theorem FtA.nil{e:Int}{r:Value}{L Y:aQ}(hr:r= .tuple #[.slice none 0 0,.slice none 0 0,ah e])(hL:L=Y++F):FtA ([],[],e) B w0 F r L:=⟨none,0,none,0,Y,hr,hL,gi _,aK.Az,aK.Az⟩
theorem alw{l:al}{n:Nat}{xs:cV}(e1:n=l.length)(e2:xs=bv l)(hb:aK B w0 F 1 (.slice A n c) n xs)(hl:l.length≤1099511627776):
  a_ B w0 109 [.slice A n c] F (fun r L=>∃g A' c',r=br g∧L=Cv g A' c' ⟨l,0,0⟩:: .own 5 1 A' l.length c' (bv l)::F):=by
 subst e1;subst e2;exact mY hb hl
theorem J_(HT:bL B w0){b:al}(hb:eM B w0 F A c b)(de:b.length≤1099511627776):
  a_ B w0 178 [.slice A b.length c] F (FtA (fZ b) B w0 F):=by
 refine dL.xk hb fun mm _=>?_;refine fw func178 38 [0] ?_;refine GD ?_;refine aj (fun pn=>?_) fun pn=>?_
 ·have e:fZ b=([],[],1):=by unfold fZ;rw[ao aa]
  rw[e];refine bB ?_;exact FtA.nil (Y:=[]) rfl rfl
 ·obtain⟨n,hn⟩:=cK (b.length-4);have Qa:(b.length:Int)-4=(n:Int):=by omega
  have hcut:=hb.cut (k:=n) aa;have e1:(bv b).drop (n*1)=bv (b.drop n):=by rw[cE];simp[bv,yh]
  have e2:b.length-n=(b.drop n).length:=by rw[iG]
  obtain⟨k,hk⟩:=cK (ftK b);have Ir:Cs.fixed ⟨b.drop n,0,0⟩ 4=k:=by rw[hk,hn];rfl
  have at7:k<4294967296:=by
   have h1:=rq (Cs.take ⟨b.drop n,0,0⟩ 4);have h2:=wK ⟨b.drop n,0,0⟩;have h3:k=iN (Cs.take ⟨b.drop n,0,0⟩ 4):=by rw[←Ir];unfold Cs.fixed;rw[aw aa]
   have h4:(256:Nat)^(Cs.take ⟨b.drop n,0,0⟩ 4).length≤256^4:=la aa h2;omega
  refine bz ?_;refine ab (bQ (i:=n) (size:=1) underlying27 ag rfl rfl Qa aa) rfl ?_;refine dX rfl (alw (l:=b.drop n) e2 e1 hcut aa) fun gn An cn=>?_;refine ai rfl (HF (s:=⟨b.drop n,0,0⟩) (pd aa) (aK.own (.head _))) ?_;rw[Ir];refine ab (bm underlying60 underlying3 rfl (r:=(k:Int)) (bF aa aa)) rfl ?_;refine cZ ?_;refine aj (fun iM=>?_) fun iM=>?_
  ·have e:fZ b=([],[],1):=by unfold fZ;rw[aw aa,ao aa]
   rw[e];refine bG ?_;refine ve [2,3,4] ?_;refine b8 ?_;exact FtA.nil (Y:=[_,_]) rfl rfl
  ·have hkn:k≤n:=by omega
   have hD:ftD b=aJ ((b.take n).drop (n-k)):=by unfold ftD;rw[←hn,←hk]
   have e:fZ b=(b.take (n-k),(ftD b).1,(ftD b).2):=by unfold fZ;rw[aw aa,aw aa,←hn,←hk]
   rw[e,hD];have hdc:=(hb.iY (k:=n) aa).cut (k:=n-k) aa;have wP:=hb.iY (k:=n-k) aa;have e3:((bv b).take (n*1)).drop ((n-k)*1)=bv ((b.take n).drop (n-k)):=by rw[cE,cE];simp[bv,yh,pt]
   have e4:n-(n-k)=((b.take n).drop (n-k)).length:=by rw[iG,eS];omega
   have e5:(bv b).take ((n-k)*1)=bv (b.take (n-k)):=by rw[cE];simp[bv,pt]
   have e6:n-k=(b.take (n-k)).length:=by rw[eS];omega
   rw[e5]at wP;refine bK ?_;refine ab (dw rfl rfl (r:=((n-k:Nat):Int)) ((bF aa aa).trans aa)) rfl ?_;refine aF ?_;refine ab (kv (i:=n-k) (j:=n) (size:=1) underlying27 ag rfl rfl rfl rfl Qa aa aa) rfl ?_;refine ay rfl (QD (l:=(b.take n).drop (n-k)) HT e4 e3 hdc.cons.cons (by rw[←e4];omega)) fun Bh Bp=>?_;refine bG ?_;refine ve [0,3,4,5,6] ?_;refine bz ?_;refine ab (dw rfl rfl (r:=((n-k:Nat):Int)) ((bF aa aa).trans aa)) rfl ?_;refine ab (bN (i:=n-k) (size:=1) underlying27 ag rfl rfl rfl aa) rfl ?_;refine bO ?_;refine⟨A,c,Bh,Bp,[_,_,_],by rw[←e6],rfl,cY,?_,aK.own (.head _)⟩;simp only;rw[←e6];exact wP.cons.cons.cons
abbrev Dx(X:cV)(g:Nat)(bt:TypeId)(A1:bj)(n1 c1:Nat)(A2:bj)(n2 c2:Nat)(c i:Nat):Ch:=.bE g bt (.slice A1 n1 c1:: .slice A2 n2 c2::ah c::ah i::X)
theorem w9{m:Nat}:∀l:bf,(∀x∈l,x≤m)→l.sum≤m*l.length
 |[],_=>by simp
 |a::r,h=>by
  have h1:=h a ak;have h2:=w9 r fun x hx=>h x oe;rw[IE,ef,ue];omega
section
variable{m f:Nat}{s:Cs}{ns ss:bf}{R:bf×bf×Cs}
theorem ahc(h:te m (f+1) s ns ss=R)(he:s.e=0):te m f ((s.bW m).bW 8388608) (ns++[s.int m]) (ss++[(s.bW m).int 8388608])=R:=by rw[←h,te,aw L7]
theorem abQ:∀(f:Nat),te m f s ns ss=R→s.e≠0→R=(ns,ss,s)
 |0,h,_=>by rw[←h,te]
 |f+1,h,he=>by rw[←h,te,ao he]
end
theorem DI(d:al):((Cw d:Nat):Int)≤20000:=Cs.gw _ aa aa
theorem zx{d:al}{room:Nat}(hb:eM B w0 F A c d)(de:d.length≤1099511627776)(rb:room≤1099511627776):
  a_ B w0 179 [br g,.slice A d.length c,ah room] (Dx X g 188 none 0 0 none 0 0 0 0::F)
   (fun r L=>r=ah (Gz d room)∧∃A1 c1 A2 c2,L=Dx X g 188 A1 (fa d).1.length c1 A2 (fa d).2.1.length c2 (Cu d) (drI d):: .own 3 1 A1 (fa d).1.length c1 (bx (fa d).1):: .own 3 1 A2 (fa d).2.1.length c2 (bx (fa d).2.1)::F):=by
 have hR:=DI d;have hB:((Lw d:Nat):Int)≤Cw d:=Cs.gw _ aa aa;have o1:ct (dr1 d):=(pd de).bW aa;have b1:(dr1 d).b=d:=Cs.cN _ _ _;have o2:ct (dr2 d):=o1.bW aa;have b2:(dr2 d).b=d:=(Cs.cN _ _ _).trans b1;refine fw func179 100 [0,1,2] ?_;refine bI ?_;refine dX rfl (mY hb.cons de) fun gn An cn=>?_;refine bz ?_;refine ai rfl (iH (s:=⟨d,0,0⟩) (most:=20000) (pd de) (aK.own (.head _)) aa aa) ?_;refine b8 ?_;have e0:Cs.int ⟨d,0,0⟩ 20000=Cw d:=rfl;have e1:Cs.bW ⟨d,0,0⟩ 20000=dr1 d:=rfl;rw[e0,e1];refine bA ?_;refine ai rfl (iH (s:=dr1 d) (most:=((Cw d:Nat):Int)) o1 (by rw[b1];exact aK.own (.head _)) aa aa) ?_;refine bG ?_;have e3:(dr1 d).int ((Cw d:Nat):Int)=Lw d:=rfl;have e4:(dr1 d).bW ((Cw d:Nat):Int)=dr2 d:=rfl;rw[e3,e4];refine aZ 3 1 none ?_;refine aZ 3 1 none ?_;refine bG ?_;refine aE (fun zf zL zm=>∃(i:Nat) (s:Cs) (ns ss:bf) (A1:bj) (c1:Nat) (A2:bj) (c2:Nat),(i≤Lw d∧s.b=d∧ct s∧te (Cw d) (Lw d-i) s ns ss=fa d∧ns.length=i∧ss.length=i∧(∀x∈ns,x≤20000)∧(∀x∈ss,x≤8388608))∧Lw d-i=zm∧Sub zf [(0,br g),(2,ah room),(7,br gn),(8,ah (Cw d)),(9,ah (Lw d)),(10,ah i)]∧Wk zL (Cv gn An cn s:: .own 3 1 A1 ns.length c1 (bx ns):: .own 3 1 A2 ss.length c2 (bx ss)::Dx X g 188 A1 ns.length c1 A2 ss.length c2 0 0:: .own 5 1 An d.length cn (bv d)::F)) _ ⟨0,dr2 d,[],[],none,0,none,0,⟨bS _,b2,o2,rfl,rfl,rfl,fun x h=>absurd h (mv),fun x h=>absurd h (mv)⟩,rfl,bp,(rQ (ed (ed (gk (ed (.refl _))))))⟩ ?_;rintro _ _ _ ⟨i,s,ns,ss,A1,c1,A2,c2,⟨hi,Qb,hso,wO,Vk,nS,hnx,hsx⟩,rfl,hs,hp⟩;refine aU hs hp ?_;clear hs hp;refine bA ?_;refine bU 8 26 [0,2,7,8,9,10] (i<Lw d∧s.e=0) ?_ ?_
 ·refine b8 ?_;refine cM (fun rN=>?_) fun rN=>?_
  ·refine be ?_;refine ai rfl (gM) ?_;refine bA ?_;exact aP (by exact dN aot)
  ·refine bA ?_;exact aP (by exact eU aot)
 ·refine be ?_;refine aj (fun qc=>?_) fun qc=>?_
  ·have iZ:s.e=0:=qc.2;obtain⟨f,hf⟩:∃f,Lw d-i=f+1:=⟨Lw d-i-1,T8⟩
   rw[hf]at wO;have Rv:=ahc wO iZ;obtain⟨v,hv⟩:=cK (s.int (Cw d));obtain⟨s1,k_⟩:=cK (s.bW (Cw d));have o3:ct s1:=by rw[k_];exact hso.bW aa
   have b3:s1.b=d:=by rw[k_];exact(Cs.cN _ _ _).trans Qb
   have Vn:(v:Int)≤Cw d:=by rw[hv];exact Cs.gw _ aa aa
   rw[←hv,←k_]at Rv;obtain⟨u,hu⟩:=cK (s1.int 8388608);have hu2:(u:Int)≤8388608:=by rw[hu];exact Cs.gw _ aa aa
   obtain⟨s2,jF⟩:=cK (s1.bW 8388608);have o4:ct s2:=by rw[jF];exact o3.bW aa
   have b4:s2.b=d:=by rw[jF];exact(Cs.cN _ _ _).trans b3
   rw[←hu,←jF]at Rv;refine b8 ?_;refine d_ (fun zf zL=>∃(A1':bj) (c1':Nat),Sub zf [(0,br g),(2,ah room),(7,br gn),(8,ah (Cw d)),(9,ah (Lw d)),(10,ah i)]∧Wk zL (Cv gn An cn s1:: .own 3 1 A1' (ns.length+1) c1' (bx ns++[ah v]):: .own 3 1 A2 ss.length c2 (bx ss)::Dx X g 188 A1' (ns.length+1) c1' A2 ss.length c2 0 0:: .own 5 1 An d.length cn (bv d)::F)) ?_ ?_
   ·refine cF F ?_;refine ae 0 ?_;refine ae 1 ?_;refine ae 2 ?_;refine ae 3 ?_;refine ae 5 ?_;refine ae 6 ?_;refine gS 4 7 ?_ ?_
    ·refine aF ?_;refine az 7 ?_;refine iW rfl rfl (iH (s:=s) (most:=((Cw d:Nat):Int)) hso T6 aa aa) ?_;refine az 8 ?_;refine cR rfl (aG fJ [_] rfl rfl cw aa aa) fun A37=>?_;refine az 9 ?_;refine eV rfl (bT fJ rfl aV rfl aA cw aa aa) fun LP PU=>?_;refine ae 10 ?_;refine ae 11 ?_;refine az 12 ?_;refine be ?_;exact bD ⟨LP,PU,bp,.trans (.skip (.refl _)) (mQ k_.symm (ax rfl (by rw[hv]) (.refl _)))⟩
    ·refine iW rfl rfl (iH (s:=s) (most:=((Cw d:Nat):Int)) hso T6 aa aa) ?_;refine gS 4 8 ?_ ?_
     ·refine aF ?_;refine az 8 ?_;refine cR rfl (aG fJ [_] rfl rfl cw aa aa) fun A37=>?_;refine az 9 ?_;refine eV rfl (bT fJ rfl aV rfl aA cw aa aa) fun LP PU=>?_;refine ae 10 ?_;refine ae 11 ?_;refine az 12 ?_;refine be ?_;exact bD ⟨LP,PU,bp,.trans (.skip (.refl _)) (mQ k_.symm (ax rfl (by rw[hv]) (.refl _)))⟩
     ·refine cR rfl (aG fJ [_] rfl rfl cw aa aa) fun A37=>?_;refine az 4 ?_;refine aF ?_;refine az 9 ?_;refine eV rfl (bT fJ rfl aV rfl aA cw aa aa) fun LP PU=>?_;refine ae 10 ?_;refine ae 11 ?_;refine az 12 ?_;refine be ?_;exact bD ⟨LP,PU,bp,.trans (.skip (.refl _)) (mQ k_.symm (ax rfl (by rw[hv]) (.refl _)))⟩
   ·rintro _ _ ⟨A1',c1',hs,hp⟩;refine aU hs hp ?_;clear hs hp;refine cF F ?_;refine ae 0 ?_;refine ae 1 ?_;refine ae 2 ?_;refine ae 3 ?_;refine ae 5 ?_;refine gS 4 6 ?_ ?_
    ·refine aF ?_;refine az 6 ?_;refine iW rfl rfl (iH (s:=s1) (most:=8388608) o3 (by rw[b3];exact aA) aa aa) ?_;refine az 7 ?_;refine cR rfl (aG fJ [_] rfl rfl cw aa aa) fun A48=>?_;refine az 8 ?_;refine eV rfl (bT fJ rfl aV rfl aA cw aa aa) fun A49 c49=>?_;refine ae 9 ?_;refine ae 10 ?_;refine az 11 ?_;refine bO ?_;refine av ⟨_,aa,i+1,s2,ns++[v],ss++[u],A1',c1',A49,c49,⟨T8,b4,o4,ald,by simp[Vk],by simp[nS],fun x hx=>(by
      rcases dz.1 hx with h|h
      ·exact hnx x h
      ·rw[lJ.1 h];omega),fun x hx=>(by
      rcases dz.1 hx with h|h
      ·exact hsx x h
      ·rw[lJ.1 h];omega)⟩,rfl,bp,.trans (.skip (.refl _)) (mQ jF.symm (ax ak sL (ax ak aa_ (bq ak (.refl _)))))⟩
    ·refine iW rfl rfl (iH (s:=s1) (most:=8388608) o3 (by rw[b3];exact aA) aa aa) ?_;refine gS 4 7 ?_ ?_
     ·refine aF ?_;refine az 7 ?_;refine cR rfl (aG fJ [_] rfl rfl cw aa aa) fun A48=>?_;refine az 8 ?_;refine eV rfl (bT fJ rfl aV rfl aA cw aa aa) fun A49 c49=>?_;refine ae 9 ?_;refine ae 10 ?_;refine az 11 ?_;refine bO ?_;refine av ⟨_,aa,i+1,s2,ns++[v],ss++[u],A1',c1',A49,c49,⟨T8,b4,o4,ald,by simp[Vk],by simp[nS],fun x hx=>(by
       rcases dz.1 hx with h|h
       ·exact hnx x h
       ·rw[lJ.1 h];omega),fun x hx=>(by
       rcases dz.1 hx with h|h
       ·exact hsx x h
       ·rw[lJ.1 h];omega)⟩,rfl,bp,.trans (.skip (.refl _)) (mQ jF.symm (ax ak sL (ax ak aa_ (bq ak (.refl _)))))⟩
     ·refine cR rfl (aG fJ [_] rfl rfl cw aa aa) fun A48=>?_;refine az 4 ?_;refine aF ?_;refine az 8 ?_;refine eV rfl (bT fJ rfl aV rfl aA cw aa aa) fun A49 c49=>?_;refine ae 9 ?_;refine ae 10 ?_;refine az 11 ?_;refine bO ?_;refine av ⟨_,aa,i+1,s2,ns++[v],ss++[u],A1',c1',A49,c49,⟨T8,b4,o4,ald,by simp[Vk],by simp[nS],fun x hx=>(by
       rcases dz.1 hx with h|h
       ·exact hnx x h
       ·rw[lJ.1 h];omega),fun x hx=>(by
       rcases dz.1 hx with h|h
       ·exact hsx x h
       ·rw[lJ.1 h];omega)⟩,rfl,bp,.trans (.skip (.refl _)) (mQ jF.symm (ax ak sL (ax ak aa_ (bq ak (.refl _)))))⟩
  ·have hd3:fa d=(ns,ss,s):=(by
    by_cases hz:i<Lw d
    ·exact abQ _ wO fun h=>qc ⟨hz,h⟩
    ·rw[show Lw d-i=0 by omega,te]at wO;exact wO.symm)
   have hC:Cu d=s.int 8388608:=by unfold Cu;rw[hd3]
   have h4:UH d=s.bW 8388608:=by unfold UH;rw[hd3]
   have hI:drI d=(UH d).int 8388608:=rfl;have h5:dr5 d=((UH d).bW 8388608).xT:=rfl;have hC2:((Cu d:Nat):Int)≤8388608:=Cs.gw _ aa aa;have hI2:((drI d:Nat):Int)≤8388608:=Cs.gw _ aa aa;have o4:ct (UH d):=by rw[h4];exact hso.bW aa
   have b4:(UH d).b=d:=by rw[h4];exact(Cs.cN _ _ _).trans Qb
   have o5:ct ((UH d).bW 8388608):=o4.bW aa;have b5:((UH d).bW 8388608).b=d:=(Cs.cN _ _ _).trans b4;have hns:=w9 ns hnx;have hss:=w9 ss hsx;have hE:Gz d room=if (dr5 d).e≠0 then (dr5 d).e else if 0∈ns∨ns.sum≠Cw d∨ss.sum+Cu d+drI d≠room then 2 else 0:=by unfold Gz;rw[hd3]
   rw[hd3];simp only;refine bO ?_;refine ai rfl (iH (s:=s) (most:=8388608) hso T6 aa aa) ?_;refine bz ?_;rw[←hC,←h4];refine bA ?_;refine ai rfl (iH (s:=UH d) (most:=8388608) o4 (by rw[b4];exact aA) aa aa) ?_;refine bK ?_;rw[←hI];refine be ?_;refine ai rfl (abq (s:=(UH d).bW 8388608) o5 (by rw[b5];exact aA)) ?_;refine b8 ?_;rw[←h5];refine bA ?_;refine ve [0,2,8,11,65] ?_;refine aF ?_;refine aj (fun h65=>?_) fun h65=>?_
   ·rw[ao h65]at hE;refine bI ?_;refine aq ((tF (gk (gk (.skip (.skip (.refl _))))))) ?_;refine aF ?_;exact⟨by rw[hE],A1,c1,A2,c2,rfl⟩
   ·rw[aw h65]at hE;refine bO ?_;refine jz aph rfl (Md (ns:=ns) aA aa) wB rfl ?_;refine aF ?_;refine Bb rfl rfl rfl (fun Yr=>?_) (fun Yr=>?_)
    ·refine bI ?_;refine jz apI rfl (Dg (ns:=ns) aA aa aa) wB rfl ?_;refine bz ?_;refine Bb rfl rfl rfl (fun h81=>?_) (fun h81=>?_)
     ·refine bI ?_;refine jz apI rfl (Dg (ns:=ss) aA aa aa) wB rfl ?_;refine alW ?_;refine nj [(99,_)] ⟨rfl,trivial⟩ ?_;refine aF ?_;refine aj (fun h99=>?_) fun h99=>?_
      ·refine bK ?_;refine aq ((tF (gk (gk (.skip (.skip (.refl _))))))) ?_;refine aF ?_;exact⟨by rw[hE,ao (.inr (.inr aa))],A1,c1,A2,c2,rfl⟩
      ·refine bI ?_;refine aq ((tF (gk (gk (.skip (.skip (.refl _))))))) ?_;refine aF ?_;exact⟨by rw[hE,aw (fun h=>h.elim Yr fun h=>h.elim (fun h=>aa) fun h=>aa)],A1,c1,A2,c2,rfl⟩
     ·refine B9 ?_;refine nj [(99,_)] ⟨rfl,trivial⟩ ?_;refine bO ?_;refine aq ((tF (gk (gk (.skip (.skip (.refl _))))))) ?_;refine aF ?_;exact⟨by rw[hE,ao (.inr (.inl aa))],A1,c1,A2,c2,rfl⟩
    ·refine ahu ?_;refine nj [(99,_)] ⟨rfl,trivial⟩ ?_;refine bO ?_;refine aq ((tF (gk (gk (.skip (.skip (.refl _))))))) ?_;refine aF ?_;exact⟨by rw[hE,ao (.inl Yr)],A1,c1,A2,c2,rfl⟩
end
theorem Y6{bound p:Nat}{xs:bf}(h:kX bound xs)(hn:1≤xs.length):pw p 0 xs≤(bound-1)/p:=by
 have h1:=pz (p:=p) (xs:=xs) (k:=xs.length-1) aa;rw[show xs.length-1+1=xs.length by omega,jS]at h1;rw[h1];have:=(h (xs.length-1) aa).1;exact Nat.div_le_div_right aa
theorem MV{bound:Nat}{xs:bf}(h:kX bound xs)(hb:bound≤20000)(hn:1≤xs.length)(tY:xs.length≤600):8*(rM bound xs).length≤xs.length*(wid bound xs.length+3)+31:=by
 have hlen:=h.len;obtain⟨w,hw⟩:=cK (wid bound xs.length);obtain⟨p,hp⟩:=cK (2^w);have hq1:bound/xs.length≠0:=by have:=(Nat.le_div_iff_mul_le (x:=1) (y:=bound) (k:=xs.length) aa).2 aa;omega
 have h1:=(Nat.log2_lt hq1 (k:=w+1)).1 (by rw[hw];exact Nat.lt_succ_self _);have h2:bound<2^(w+1)*xs.length:=(Nat.div_lt_iff_lt_mul aa).1 h1;have h3:bound<p*(2*xs.length):=by
  rw[nK,←hp,tq]at h2;exact h2
 have h4:(bound-1)/p<2*xs.length:=Nat.div_lt_of_lt_mul aa;have h5:=Y6 (p:=p) h hn;have h6:=sD (p:=p) h xs.length (gi _);rw[jS]at h6;have h7:=m9 p w xs;have Eb:(aS xs.length).length≤2:=M4 1 _ aa;unfold rM;rw[aw aa,aY,dJ,←hw,←hp];unfold Lx;rw[aY,h7,h6,show xs.length*(w+3)=xs.length*w+xs.length*3 from ue ..];generalize xs.length*w=z;omega
theorem JG{l:List cj}(h:∀s∈l,s.length≤25):(dC l).length≤45*l.length:=by
 cases l with
 |nil=>simp[dC]
 |cons t r=>
  have h1:=rE t r (fun s hs=>h s (by simp[hs]));have h2:=xS (s:=t) (by have:=h t ak;omega);have h3:=h t ak;rw[dC,aY,ef];omega
theorem Dc{l:List cj}{sz:Nat}(h:∀s∈l,s.length≤25):∀m:Nat,(iV l sz (List.range m)).length≤45*(l.take (m*sz)).length
 |0=>by simp[iV]
 |m+1=>by
  have h1:=Dc (l:=l) (sz:=sz) h m;have h2:=JG (l:=ck l sz m) (fun s hs=>h s (zl hs));have h3:(l.take ((m+1)*sz)).length=(l.take (m*sz)).length+(ck l sz m).length:=by
   unfold ck;rw[j8];simp only[eS,iG];omega
  rw[lq,De,aY,h3];omega
theorem DE{l:List cj}{sz:Nat}(h1:1≤sz)(h2:sz≤64)(h:∀s∈l,s.length≤25)(hl:l.length≤1000000000):(fQ sz l).length≤20+55*l.length:=by
 have k1:=Dc (l:=l) (sz:=sz) h (gR sz l.length);have k2:=q8 (l:=l) (sz:=sz) h2 h (List.range (gR sz l.length));have k3:=aT (x:=l.length) aa;have k4:(l.take (gR sz l.length*sz)).length≤l.length:=by rw[eS];omega
 have k5:gR sz l.length≤l.length+1:=by
  unfold gR;rcases wV l.length with e|e
  ·rw[e];have:(0+(sz-1))/sz=0:=BB aa;rw[this];omega
  ·refine jc (Nat.div_le_of_le_mul (?_ :_≤sz*(l.length+1))) (gi _);have h3:=gL h1 (gi l.length);rw[ue];have h4:l.length≤sz*l.length:=by omega
   omega
 rw[wk]at k2;simp only[fQ,aY];omega
theorem ml{bn m:Nat}:∀I:List (bf),(∀x∈I,(rM bn x).length≤m)→(I.flatMap (rM bn)).length≤m*I.length
 |[],_=>by simp
 |x::r,h=>by
  have h1:=ml r fun y hy=>h y vQ;have h2:=h x ak;rw[jI,aY,ef,ue];omega
theorem wU{o:aR}{L:List aI}{sz:Nat}(iZ:o.2.2.1=sz)(h1:1≤sz)(h2:sz≤64)(hw:dU L≤1048576)(hn:L.length≤20000):
  qH o L=fQ sz (mW L)++(mV L).flatMap (rM L.length)∧kY (mW L)∧(mW L).length=(mV L).length∧(∀x∈mV L,x≠[]∧kX L.length x)∧(mW L).length≤dU L:=by
 have hio:=Jz hw hn;obtain⟨bn,N,asp,ahA,hN,hRT,hTl,hNI⟩:=Eg hio;have hbn:bn=L.length:=by omega
 subst hbn;have hNe:N=mV L:=by
  have:mc N=mc (mV L):=by rw[←hN];rfl
  exact zj this
 subst hNe;refine⟨?_,hRT,hTl,hNI,?_⟩
 ·unfold qH;rw[iZ,Ix (T:=mW L) (I:=mV L) aa aa ahA hRT hTl hNI]
 ·have k1:=uH ((List.range L.length).flatMap (AZ L));have k2:=C_ L L.length (gi _);rw[jS]at k2;show(rU (AZ L) L.length).length≤_;unfold rU;omega
theorem NI{o:aR}{L:List aI}(h1:1≤o.2.2.1)(h2:o.2.2.1≤64)(hw:dU L≤1048576)(hn:L.length≤20000):(qH o L).length≤20+50066*dU L:=by
 obtain⟨sz,iZ⟩:∃sz:Nat,o.2.2.1=sz:=⟨o.2.2.1.toNat,aa⟩
 obtain⟨e,k1,k2,k3,k4⟩:=wU (o:=o) (L:=L) iZ aa aa hw hn;have k5:=DE (l:=mW L) (sz:=sz) aa aa k1.le aa;have k6:=ml (bn:=L.length) (m:=50011) (mV L) fun x hx=>UJ (k3 x hx).2 hn;rw[e,aY];rw[←k2]at k6;omega
theorem RR{o:aR}{L:List aI}(h1:1≤o.2.2.1)(h2:o.2.2.1≤64)(hw:dU L≤2000)(hn:L.length≤600):(qH o L).length≤4000000∧(L.length≤30→(qH o L).length≤300000):=by
 obtain⟨sz,iZ⟩:∃sz:Nat,o.2.2.1=sz:=⟨o.2.2.1.toNat,aa⟩
 obtain⟨e,k1,k2,k3,k4⟩:=wU (o:=o) (L:=L) iZ aa aa aa aa;have k5:=DE (l:=mW L) (sz:=sz) aa aa k1.le aa;have k7:=fun m (hm:L.length≤m) (vE:m≤600)=>ml (bn:=L.length) (m:=m*3) (mV L);refine⟨?_,fun Bu=>?_⟩
 ·have k6:=ml (bn:=L.length) (m:=1500) (mV L) fun x hx=>by
   obtain⟨j1,j2⟩:=k3 x hx;have j3:=j2.len;have j4:=List.length_pos_iff.2 j1;have j5:=MV j2 aa aa aa;have j6:=xf (bound:=L.length) (n:=x.length) aa;have j7:x.length*(wid L.length x.length+3)≤600*17:=gL aa aa;omega
  rw[e,aY];rw[←k2]at k6;omega
 ·have k6:=ml (bn:=L.length) (m:=70) (mV L) fun x hx=>by
   obtain⟨j1,j2⟩:=k3 x hx;have j3:=j2.len;have j4:=List.length_pos_iff.2 j1;have j5:=MV j2 aa aa aa;have j6:=xf (bound:=L.length) (n:=x.length) aa;have j7:x.length*(wid L.length x.length+3)≤30*17:=gL aa aa;omega
  rw[e,aY];rw[←k2]at k6;omega
theorem Mc{P:Prop}(h:P:=by(rw[←hR])):P:=h
theorem aoV{P:Prop}(h:P:=by(rw[←hR]at q;exact absurd q (by decide))):P:=h
theorem abW{b:al}(hb:eM B w0 F A c b)(de:b.length≤1000000)(acE:-9223372036854775808≤bound)(Nr:bound≤9223372036854775807):
  a_ B w0 268 [ah bound,.slice A b.length c] F (fun r L=>∃p X,r= .tuple #[.pointer p,ah (iI bound b).2.1,ah (iI bound b).2.2]∧L=X++F∧
   ((iI bound b).2.2≠0→X=[])∧((iI bound b).2.2=0→∃w pp g A1 c1 A2 c2,p=some ⟨g,0,none⟩∧pp=2^w∧w≤14∧X++F=Rl g w pp A1 c1 A2 c2 (iI bound b).1 F)):=
 (abV hb de acE Nr).mono fun r L h=>by
  rcases h with⟨h,h1,h2⟩|⟨h,w,pp,g,A1,c1,A2,c2,h1,h2,h3,h4⟩
  ·have e:(iI bound b).2.1=0:=by
    unfold iI at h⊢;split
    ·rfl
    ·split
     ·rfl
     ·split
      ·rename_i q1 q2 q3;rw[aw q1,aw q2,ao q3]at h;exact absurd rfl h
      ·split
       ·rfl
       ·rename_i q1 q2 q3 q4;rw[aw q1,aw q2,aw q3,aw q4]at h;exact absurd rfl h
   exact⟨none,[],by rw[h1,e];rfl,h2,fun _=>rfl,fun q=>absurd q h⟩
  ·exact⟨some ⟨g,0,none⟩,Rl g w pp A1 c1 A2 c2 (iI bound b).1 [],by rw[h3,h],h4,fun q=>absurd h q,fun _=>⟨w,pp,g,A1,c1,A2,c2,rfl,h1,h2,rfl⟩⟩
theorem ahe{b:al}(h:(iI bound b).2.2=0)(P4:bound≤9223372036854775807):(iI bound b).2.1≤b.length∧(iI bound b).1.length≤20000∧∀i,i<(iI bound b).1.length→(iI bound b).1.getD i 0≤1000000:=by
 obtain⟨bn,rfl,h2,h3,_,h5⟩:=MT P4 h;exact⟨h5,jc h3.len h2,h3.le h2⟩
theorem an2{t:TypeId}{A8:bj}{c8 m:Nat}{vs:cV}{e:rK}{O:List rK}(hm:m=O.length+1)(hv:vs=O.map jL++[jL e]):Wk (jK e:: .own t 1 A8 m c8 vs::(O.map jK++F)) (.own t 1 A8 (O++[e]).length c8 ((O++[e]).map jL)::((O++[e]).map jK++F)):=by
 subst hm;subst hv;refine .swap (ax ak ak (.dE ?_));rw[ja,bV];exact ym.symm
theorem Li{M N:aQ}(h:Wk M N):∀R:aQ,Wk (R++M) (R++N)
 |[]=>h
 |_::R=>.cons (Li h R)
theorem aq1{a b c d:Ch}{R:aQ}(X:aQ):(X++a::b::c::d::R).Perm (a::b::c::d::(X++R)):=
 ym.trans ((ym.trans ((ym.trans (List.perm_middle.cons c)).cons b)).cons a)
def aaQ(bound:Int)(n:Nat)(b:al)(F:aQ)(r:Value)(L:aQ):Prop:=
 ∃(A1:bj) (c1 m:Nat) (X:aQ),r= .tuple #[.slice A1 m c1,ah (LH bound n b []).2]∧L=X++F∧((LH bound n b []).2≠0→A1=none∧c1=0∧m=0∧X=[])∧
  ((LH bound n b []).2=0→∃LL:List rK,LL.map (·.2.2)=(LH bound n b []).1∧m=LL.length∧LL.length=n∧X= .own 53 1 A1 LL.length c1 (LL.map jL)::LL.map jK)
theorem ah0{b:al}{n:Nat}(hb:eM B w0 F A c b)(de:b.length≤1000000)(hn:n≤2000000)(acE:-9223372036854775808≤bound)(Nr:bound≤9223372036854775807):
  a_ B w0 227 [ah n,ah bound,.slice A b.length c] F (aaQ bound n b F):=by
 obtain⟨G,hG⟩:=cK (LH bound n b []);unfold aaQ;rw[←hG];refine fw func227 43 [0,1,2] ?_;refine dc ?_;refine aZ 53 1 none ?_;refine bz ?_;refine aE (fun zf zL zm=>∃(k:Nat) (Ab:bj) (cb:Nat) (r:al) (O:List rK) (A8:bj) (c8:Nat),(k≤n∧O.length=k∧LH bound (n-k) r (O.map (·.2.2))=G∧aK B w0 F 1 (.slice Ab r.length cb) r.length (bv r)∧r.length≤b.length)∧n-k=zm∧Sub zf [(1,ah bound),(2,.slice Ab r.length cb),(8,.slice A8 O.length c8),(12,ah n),(13,ah k)]∧Wk zL (.own 53 1 A8 O.length c8 (O.map jL)::(O.map jK++F))) _ ⟨0,A,c,b,[],none,0,⟨bS _,rfl,hG.symm,hb,gi _⟩,rfl,bp,.refl _⟩ ?_;rintro _ _ _ ⟨k,Ab,cb,r,O,A8,c8,⟨hk,hO,hR,CB,hrl⟩,rfl,hs,hp⟩;refine aU hs hp ?_;clear hs hp;refine bz ?_;refine aj (fun jZ=>?_) fun jZ=>?_
 ·obtain⟨j,hj⟩:∃j,n-k=j+1:=⟨n-k-1,aa⟩
  rw[hj,LH]at hR;have atY:aK B w0 (O.map jK++F) 1 (.slice Ab r.length cb) r.length (bv r):=CB.mono (gx _ F);refine bI ?_;refine aX apu rfl (abW aA aa acE Nr) rfl ?_;rintro _ _ ⟨p18,X18,rfl,cA,hX1,hX2⟩;obtain rfl:=cA.symm;refine tS ?_;refine aj (fun rN=>?_) fun rN=>?_
  ·have Re:(iI bound r).2.2≠0:=by simpa using rN
   rw[ao Re]at hR;refine bG ?_;refine ve [6,7] ?_;refine bO ?_;rw[hX1 Re];refine aq (L':=F) (.skip (vv (.refl _) _)) ?_;refine aF ?_;exact⟨none,0,0,[],Mc,rfl,fun _=>⟨rfl,rfl,rfl,rfl⟩,fun q=>by rw[←hR]at q;exact absurd q Re⟩
  ·have Re:(iI bound r).2.2=0:=by simpa using rN
   rw[aw (by simpa using Re)]at hR;obtain⟨lw,lp,g18,P1,p1,P2,p2,rfl,hlp,hlw,hX⟩:=hX2 Re;rw[hX];obtain⟨ama,asG,aqq⟩:=ahe Re Nr;clear hX hX1 hX2;obtain⟨xs,hxs⟩:=cK ((iI bound r).1);obtain⟨t,ht⟩:=cK ((iI bound r).2.1);rw[←hxs]at asG aqq hR⊢;rw[←ht]at ama hR⊢;refine bA ?_;refine ai rfl (ady) ?_;refine b8 ?_;refine aj (fun qc=>?_) fun qc=>?_
   ·rw[ao aa]at hR;refine b8 ?_;refine ve [6,7] ?_;refine bO ?_;refine aq (L':=F) (.skip (.skip (.skip (.skip (vv (.refl _) _))))) ?_;refine aF ?_;exact⟨none,0,0,[],Mc,rfl,fun _=>⟨rfl,rfl,rfl,rfl⟩,fun q=>aoV⟩
   ·rw[aw aa]at hR;refine bK ?_;refine ay rfl (amA hlp hlw aqq aa) fun LO Mt=>?_;refine dF akJ rfl rfl rfl rfl rfl (fun _=>rfl) aV aa aa ?_;intro _ wv xm;refine aF ?_;refine ve [1,2,8,10,12,13] ?_;refine b8 ?_;refine ab (bQ (i:=t) (size:=1) underlying27 ag rfl rfl rfl ama) rfl ?_;rw[show r.length-t=(r.drop t).length from(iG ..).symm];refine bI ?_;have Eb:O.length+1=(O++[(LO,Mt,xs)]).length:=by simp
    refine av ⟨_,aa,k+1,_,_,r.drop t,O++[(LO,Mt,xs)],wv,xm,⟨aa,by simp[hO],by rw[show n-(k+1)=j by omega];simpa using hR,by have:=CB.cut ama;rwa [show(bv r).drop (t*1)=bv (r.drop t) by rw[cE,js],show r.length-t=(r.drop t).length from(iG ..).symm]at this,kU⟩,rfl,bp,.skip (.skip (.skip (an2 (e:=(LO,Mt,xs)) (O:=O) rfl rfl)))⟩
 ·rw[show n-k=0 by omega,LH]at hR;refine dc ?_;refine aj (fun GH=>?_) fun GH=>?_
  ·refine bI ?_;refine aq (L':=F) (.skip (vv (.refl _) _)) ?_;refine aF ?_;rw[ao aa]at hR;exact⟨none,0,0,[],Mc,rfl,fun _=>⟨rfl,rfl,rfl,rfl⟩,fun q=>aoV⟩
  ·refine cZ ?_;rw[aw aa]at hR;exact⟨A8,c8,O.length,.own 53 1 A8 O.length c8 (O.map jL)::O.map jK,Mc,rfl,fun q=>by rw[←hR]at q;exact absurd rfl q,fun _=>⟨O,Mc,rfl,aa,rfl⟩⟩
def aaO(d:List cj×List (bf)×Int)(F:aQ)(r:Value)(L:aQ):Prop:=
 ∃(A1:bj) (c1:Nat) (A2:bj) (c2:Nat) (LL:List rK),r= .tuple #[Gj A1 d.1.length c1 A2 LL.length c2,ah d.2.2]∧LL.map (·.2.2)=d.2.1∧
  L= .own 9 1 A1 d.1.length c1 (strs d.1):: .own 53 1 A2 LL.length c2 (LL.map jL)::(LL.map jK++F)
theorem Eh{e:Int}{r:Value}(h:r= .tuple #[Gj none 0 0 none 0 0,ah e]):aaO ([],[],e) F r (.own 9 1 none 0 0 []:: .own 53 1 none 0 0 []::F):=⟨none,0,none,0,[],h,rfl,rfl⟩
theorem aiz{b:al}(hE:bound<0∨20000<bound):a_ B w0 183 [ah size,ah bound,.slice A b.length c] F (aaO (eF size bound b) F):=by
 rw[Vr hE];refine fw func183 48 [0,1,2] ?_;refine be ?_;refine bc fun g6=>?_;refine bz ?_;refine bU 6 17 [0,1,2,6] (bound<0∨20000<bound) ?_ ?_
 ·refine bA ?_;refine aL rfl rfl rfl (fun jZ=>?_) (fun jZ=>?_)
  ·refine b8 ?_;exact aP oV
  ·refine be ?_;exact aP vA
 ·refine be ?_;refine aj (fun iF=>?_) fun iF=>?_
  ·refine be ?_;refine ab (cu [.slice none 0 0,.slice none 0 0] ag) rfl ?_;refine bz ?_;refine aD 53 1 none ?_;refine aD 9 1 none ?_;refine gQ rfl rfl ag aV gA rfl (.cons (.cons (.skip (.refl _)))) ?_;exact Eh rfl
  ·exfalso;exact iF hE
theorem aiA{b:al}(hE:¬(bound<0∨20000<bound))(hb:eM B w0 F A c b)(de:b.length≤1000000000)(he:(dW size b).2.2≠0):
  a_ B w0 183 [ah size,ah bound,.slice A b.length c] F (aaO (eF size bound b) F):=by
 rw[Vs hE he];refine fw func183 48 [0,1,2] ?_;refine be ?_;refine bc fun g6=>?_;refine bz ?_;refine bU 6 17 [0,1,2,6] (bound<0∨20000<bound) ?_ ?_
 ·refine bA ?_;refine aL rfl rfl rfl (fun jZ=>?_) (fun jZ=>?_)
  ·refine b8 ?_;exact aP oV
  ·refine be ?_;exact aP vA
 ·refine be ?_;refine aj (fun iF=>?_) fun iF=>?_
  ·exfalso;exact hE iF
  ·refine bz ?_;refine ai rfl (X1 aA aa he) ?_;refine jQ ?_;refine aj (fun kg=>?_) fun kg=>?_
   ·refine be ?_;refine ab (cu [.slice none 0 0,.slice none 0 0] ag) rfl ?_;refine bA ?_;refine ve [6,7] ?_;refine bA ?_;refine aD 53 1 none ?_;refine aD 9 1 none ?_;refine gQ rfl rfl ag aV gA rfl (.cons (.cons (.skip (.refl _)))) ?_;exact Eh rfl
   ·exfalso;exact kg he
theorem aiB{b:al}(hE:¬(bound<0∨20000<bound))(hb:eM B w0 F A c b)(de:b.length≤1000000000)(CB:(b.drop (dW size b).2.1).length≤1000000)(he:(dW size b).2.2=0):
  a_ B w0 183 [ah size,ah bound,.slice A b.length c] F (aaO (eF size bound b) F):=by
 have q4:¬(size<1∨64<size):=fun q=>by rw[uW q]at he;exact absurd he aB
 obtain⟨sz,rfl⟩:=gJ (show 0≤size by omega);obtain⟨e1,e2,e3⟩:=MO (sz:=sz) aa aa he;have hR1:= @Vt sz bound b hE he;have Ys:= @Kp sz bound b hE he;have hIL:zQ sz bound b=LH bound (dW sz b).1.length (b.drop (dW sz b).2.1) []:=rfl;have YA:dW sz b=((dW sz b).1,(dW sz b).2.1,0):=Prod.ext rfl (Prod.ext rfl he);have hTl:=e1.2;have hcut:=hb.cut e2;rw[show(bv b).drop ((dW sz b).2.1*1)=bv (b.drop (dW sz b).2.1) by rw[cE,js],show b.length-(dW sz b).2.1=(b.drop (dW sz b).2.1).length from(iG ..).symm]at hcut;have hdl:(b.drop (dW sz b).2.1).length≤b.length:=by rw[iG];omega
 obtain⟨T,hT⟩:=cK ((dW sz b).1);obtain⟨t,ht⟩:=cK ((dW sz b).2.1);rw[←hT]at e1 Ys hIL YA hTl;rw[←ht]at e2 hIL YA hcut hdl CB;obtain⟨G,hG⟩:=cK (zQ sz bound b);rw[←hG]at hR1 Ys hIL;clear hG e3;refine cm func183 48 rfl rfl rfl [(0,ah sz),(1,ah bound),(2,.slice A b.length c)] ⟨⟨rfl,rfl⟩,⟨rfl,rfl⟩,⟨rfl,rfl⟩,trivial⟩ ?_;refine be ?_;refine bc fun g6=>?_;refine bz ?_;refine bU 6 17 [0,1,2,6] (bound<0∨20000<bound) ?_ ?_
 ·refine bA ?_;refine aL rfl rfl rfl (fun jZ=>?_) (fun jZ=>?_)
  ·refine b8 ?_;exact aP oV
  ·refine be ?_;exact aP vA
 ·refine be ?_;refine aj (fun iF=>?_) fun iF=>?_
  ·exfalso;exact hE iF
  ·refine bz ?_;refine aX apj rfl (QX (sz:=sz) aa aa aA aa YA) rfl ?_;rintro _ _ ⟨g22,P22,p22,Q22,q22,rfl,cA⟩;obtain rfl:=cA.symm;refine jQ ?_;refine aj (fun kg=>?_) fun kg=>?_
   ·exfalso;exact kg rfl
   ·refine bA ?_;refine cF (Dd g22 sz P22 p22 Q22 q22 T (hdS sz T) (.bE g6 90 [.slice none 0 0,.slice none 0 0]::F)) ?_;refine ae 0 ?_;refine ae 2 ?_;refine ae 3 ?_;refine ae 4 ?_;refine aW 5 rfl (bQ (i:=t) (size:=1) underlying27 ag rfl rfl rfl e2) ?_;rw[show b.length-t=(b.drop t).length from(iG ..).symm];refine az 1 ?_;refine iW rfl rfl (alE) ?_;refine az 6 ?_;refine gz rfl .no apk rfl (ah0 (n:=T.length) aA aa aa aa aa) rfl (by rintro _ _ ⟨A37,c37,m37,X37,rfl,rfl,hX1,hX2⟩;exact gD) ?_;rintro _ _ ⟨A37,c37,m37,X37,rfl,cA,hX1,hX2⟩;obtain rfl:=cA.symm;rw[←hIL]at hX1 hX2;refine ae 7 ?_;refine ae 8 ?_;refine ae 9 ?_;refine ae 10 ?_;refine ae 11 ?_;refine cQ [6,8,10,11] ?_;refine bI ?_;refine aj (fun GH=>?_) fun GH=>?_
    ·have acy:G.2≠0:=by rw[hIL];simpa using GH
     obtain⟨rfl,rfl,rfl,rfl⟩:=hX1 acy;rw[hR1 acy];refine be ?_;refine ab (cu [.slice none 0 0,.slice none 0 0] ag) rfl ?_;refine bK ?_;refine aD 53 1 none ?_;refine aD 9 1 none ?_;refine gQ rfl rfl ag aV gA rfl (.cons (.cons (.skip (.skip (.skip (.skip (.refl _))))))) ?_;exact Eh (by rw[hIL])
    ·have acy:G.2=0:=by rw[hIL];simpa using GH
     obtain⟨LL,hL1,rfl,hL2,rfl⟩:=hX2 acy;rw[Ys acy];refine bA ?_;refine fP (aq1 (.own 53 1 A37 LL.length c37 (LL.map jL)::LL.map jK)) ?_;refine be ?_;refine ay rfl (alB aa) fun A45 c45=>?_;refine aF ?_;refine ab (eG [(0,_),(1,_)] [_,_] rfl rfl ag) rfl ?_;refine bG ?_;refine gQ rfl rfl ag aV gA rfl (.skip (.skip (.skip (.cons (.skip (.refl _)))))) ?_;exact⟨A45,c45,A37,c37,LL,rfl,hL1,rfl⟩
theorem aiC{b:al}(hb:eM B w0 F A c b)(de:b.length≤1000000):
  a_ B w0 183 [ah size,ah bound,.slice A b.length c] F (aaO (eF size bound b) F):=by
 by_cases hE:bound<0∨20000<bound
 ·exact aiz hE
 ·by_cases he:(dW size b).2.2=0
  ·exact aiB hE hb aa kU he
  ·exact aiA hE hb aa he
theorem aej{m:Nat}{B1:bj}{b1:Nat}{T:List cj}{LL:List Ls}(e:LL.length=m)(h1:aK B w0 F 1 (.slice A1 T.length c1) T.length (strs T))(hL:aK B w0 F 1 (.slice B1 m b1) m (LL.map zP))(hI:ma B w0 F LL)(wS:∀e∈LL,e.2.2.length≤9000000000000000000)(hs:T.length≤1000000000){d:al}(hp:qG size bound T (fT LL)=(d,0)):
  a_ B w0 48 [ah size,ah bound,Gj A1 T.length c1 B1 m b1] F (fun r L=>∃A' c',r= .tuple #[.slice A' d.length c',ah 0]∧L= .own 5 1 A' d.length c' (bv d)::F):=by
 subst e;have:=aei (size:=size) (bound:=bound) h1 hL hI wS hs
 rwa [hp]at this
theorem adi{b:al}(hs:size≤9223372036854775807):(eF size bound b).1.length≤1048576∧(eF size bound b).2.1.length≤1048576∧∀x∈(eF size bound b).2.1,x.length≤20000:=by
 by_cases h:(eF size bound b).2.2=0
 ·obtain⟨sz,bn,rfl,rfl,h1,h2,h3,h4,h5,h6,_⟩:=ahO h hs;have h7:=h4.2;exact⟨h7,aa,fun x hx=>jc (h6 x hx).2.len h3⟩
 ·have e:(eF size bound b).1=[]∧(eF size bound b).2.1=[]:=by
   unfold eF at h⊢;split
   ·exact⟨rfl,rfl⟩
   ·split
    ·exact⟨rfl,rfl⟩
    ·split
     ·exact⟨rfl,rfl⟩
     ·rename_i q1 q2 q3;rw[aw q1,aw q2,aw q3]at h;exact absurd rfl h
  rw[e.1,e.2];exact⟨ak,ak,ak⟩
theorem aoS{P:Prop}(h:P:=by(rw[W0];exact aK.own (.tail _ (.head _)))):P:=h
theorem Qz{o:aR}{L:List aI}(h:cB 2 (o2 o)≠0):a_ B w0 22 [.agg (aR.cells o).toArray,.slice A L.length c] F (LQ (fX o L) F):=by
 have e:fX o L=([],cB 2 (o2 o)):=by unfold fX;rw[ao h]
 rw[e];obtain⟨bl,pl,bu,da,pa,ch⟩:=o;refine cm func22 115 rfl rfl rfl [(0,.agg #[ah bl,.bool pl,ah bu,ah da,ah pa,ah ch]),(1,.slice A L.length c)] ⟨⟨rfl,rfl⟩,⟨rfl,rfl⟩,trivial⟩ ?_;refine be ?_;refine bh fun g2=>?_;refine bI ?_;refine ai rfl (nA (bl,pl,bu,da,pa,ch)) ?_;refine bO ?_;refine aj (fun oh=>?_) fun oh=>?_
 ·refine bO ?_;refine aq (.skip (.refl _)) (aD 5 1 none ?_);refine aF ?_;exact⟨none,0,rfl,rfl⟩
 ·exfalso;exact oh h
theorem QA{o:aR}{L:List aI}(h:¬cB 2 (o2 o)≠0)(hc:cP L≠0)(hb:aK B w0 F 4 (.slice A L.length c) L.length (dh L)):a_ B w0 22 [.agg (aR.cells o).toArray,.slice A L.length c] F (LQ (fX o L) F):=by
 have e:fX o L=([],cP L):=by unfold fX;rw[aw h,ao hc]
 rw[e];obtain⟨bl,pl,bu,da,pa,ch⟩:=o;refine cm func22 115 rfl rfl rfl [(0,.agg #[ah bl,.bool pl,ah bu,ah da,ah pa,ah ch]),(1,.slice A L.length c)] ⟨⟨rfl,rfl⟩,⟨rfl,rfl⟩,trivial⟩ ?_;refine be ?_;refine bh fun g2=>?_;refine bI ?_;refine ai rfl (nA (bl,pl,bu,da,pa,ch)) ?_;refine bO ?_;refine aj (fun oh=>?_) fun oh=>?_
 ·exfalso;exact h oh
 ·refine bz ?_;refine ai rfl (oP L hb.cons) ?_;refine bO ?_;refine aj (fun r'=>?_) fun r'=>?_
  ·refine bO ?_;refine aq (.skip (.refl _)) (aD 5 1 none ?_);refine aF ?_;exact⟨none,0,rfl,rfl⟩
  ·exfalso;exact r' hc
structure LR(S:Nat)(pl:Bool)(fs:eH)(L:List aI)(gs:bf)(k a:Nat):Prop where
 all:fs++ju false pl (gs.drop k) (L.drop a)=ju false pl gs L
 fit:CX S (lens false (L.drop a)) (gs.drop k)
 le:a≤L.length
theorem LR.step{S:Nat}{pl:Bool}{fs:eH}{L:List aI}{gs:bf}{k a n:Nat}(h:LR S pl fs L gs k a)(hk:k<gs.length)(hn:n=gs.getD k 0)(hS:S≤32768)(hL:∀x∈L,x.fits):
  1≤n∧a+n≤L.length∧(c_ false ((L.drop a).take n)).length≤32768∧LR S pl (fs++[(jA (c_ false ((L.drop a).take n)) pl).1]) L gs (k+1) (a+n):=by
 have hgd:gs.drop k=n::gs.drop (k+1):=by rw[hn];exact dx aa 0
 have hf:=h.fit;have ha:=h.all;have hl:=h.le;rw[hgd]at hf ha;obtain⟨f1,f2,f3,f4,f5⟩:=hf;rw[et,iG]at f2;refine⟨f1,aa,oJ hS (fun x hx=>hL x (rk hx)) f1 f3,⟨?_,by rw[←qh,wY];exact f5,aa⟩⟩;rw[←ha,bV];show _=fs++(_::ju false pl _ ((L.drop a).drop n));rw[qh];rfl
theorem aiM(b:Bool){L:List aI}{a k:Nat}(hk:a+k≤L.length)(hb:aK B w0 F 4 (.slice A L.length c) L.length (dh L))(hx:∀x∈L,x.1<18446744073709551616)(hw:dU L≤1048576):
  a_ B w0 45 [.bool b,.slice (if c=a then A else A.map (·.add (a*4))) (a+k-a) (c-a)] F (fun r K=>∃A' c',r= .slice A' (c_ b ((L.drop a).take k)).length c'∧K= .own 5 1 A' (c_ b ((L.drop a).take k)).length c' (bv (c_ b ((L.drop a).take k)))::F):=by
 have hcut:=(hb.iY (k:=a+k) hk).cut (k:=a) aa;have e:(L.take (a+k)).drop a=(L.drop a).take k:=by rw[RW];congr 1;omega
 rw[AS,vk,e]at hcut;have hl:a+k-a=((L.drop a).take k).length:=by rw[eS,iG];omega
 rw[hl]at hcut⊢;exact I0 b ((L.drop a).take k) hcut (fun x hxx=>hx x (rk (l6 hxx))) (by have:=qw (L.drop a) k;have:=Jn L a;omega)
theorem QV{ns ss:bf}{cc ii n2:Nat}(e:n2=ss.length)(hl:ns.length=ss.length)(qd:aK B w0 F 1 (.slice A1 ns.length c1) ns.length (bx ns))(oL:aK B w0 F 1 (.slice A2 n2 c2) n2 (bx ss))(hn:ns.length≤100000)(hs:ns.sum≤1000000000000000)(jF:∀x∈ss,x≤1000000000000000)(hc:cc≤1000000000000000)(hi:ii≤1000000000000000){d:al}(hd:xP ns ss cc ii=d):
  a_ B w0 50 [br g] (Db g A1 ns.length c1 A2 n2 c2 cc ii::F) (Gh d (Db g A1 ns.length c1 A2 n2 c2 cc ii::F)):=by
 subst e;subst hd;exact QU hl qd oL hn hs jF hc hi
theorem agu{PB:List kS}{n:Nat}{s1 s2 s3 s4:Value}{l l1 l2 l3 l4:al}(hb:aK B w0 F 1 (.slice A n c) n (PB.map dq++[s1,s2,s3,s4]))(hn:n=PB.length+4)(hPB:∀e∈PB,aK B w0 F 1 (dq e) e.2.2.length (bv e.2.2))(h1:aK B w0 F 1 s1 l1.length (bv l1))(h2:aK B w0 F 1 s2 l2.length (bv l2))(h3:aK B w0 F 1 s3 l3.length (bv l3))(h4:aK B w0 F 1 s4 l4.length (bv l4))(hl:l=(PB.map (·.2.2)).flatten++(l1++(l2++(l3++l4))))(hlen:l.length≤1099511627776)(D9:PB.length≤1000000):
  a_ B w0 52 [.slice A n c] F (Gh l F):=by
 have hv:(OL PB++[(s1,l1),(s2,l2),(s3,l3),(s4,l4)]:eh).Co=PB.map dq++[s1,s2,s3,s4]:=by
  have:=E2 PB;unfold eh.Co at this⊢;rw[ja,this];rfl
 refine xu (P:=OL PB++[(s1,l1),(s2,l2),(s3,l3),(s4,l4)]) (by rw[hv];exact hb) (fun y hy=>?_) (by simp[OL,hn]) ?_ hlen Bk
 ·rcases dz.1 hy with hy|hy
  ·obtain⟨e,he,rfl⟩:=pQ.1 hy;exact hPB e he
  ·simp only[fk,mv,oj]at hy;rcases hy with rfl|rfl|rfl|rfl
   ·exact h1
   ·exact h2
   ·exact h3
   ·exact h4
 ·have:=CM PB;unfold eh.all at this⊢;rw[uf,this,hl];simp
theorem YO{L:List aI}{sz:Nat}(h1:1≤sz)(h2:sz≤64)(hw:dU L≤1048576)(hn:L.length≤20000){o:aR}(ho:o.2.2.1=sz):qG (sz:Int) ((L.length:Nat):Int) (mW L) (mc (mV L))=(qH o L,0):=by
 have hio:=Jz hw hn;have e:=Kq (sz:=sz) (bound:=((L.length:Nat):Int)) (T:=mW L) (I:=mc (mV L)) h1 h2 hio;have e2:qH o L=(qG (sz:Int) ((L.length:Nat):Int) (mW L) (mc (mV L))).1:=by unfold qH;rw[ho]
 rw[e2,e]
theorem D0{m:Nat}:∀PB:List kS,(∀e∈PB,e.2.2.length≤m)→(PB.map (·.2.2)).flatten.length≤m*PB.length
 |[],_=>by simp
 |e::r,h=>by
  have h1:=h e ak;have h2:=D0 r fun x hx=>h x oe;simp only[kC,wm,aY,ef,ue,cE];omega
theorem XC{L:List aI}{LL:List rK}(h:LL.map (·.2.2)=Jy (AZ L) L.length):∀e∈toI LL,e.2.2.length≤L.length:=fun e he=>by
 obtain⟨x,hx,rfl⟩:=pQ.1 he;have h2:x.2.2∈Jy (AZ L) L.length:=by rw[←h];exact jb (f:=fun y:rK=>y.2.2) hx
 obtain⟨t,_,ht⟩:=pQ.1 h2;simp only[eK];rw[←ht];unfold Ol;refine jc (BG _ _) ak
theorem QB(HT:bL B w0){o:aR}{L:List aI}(h:¬cB 2 (o2 o)≠0)(hc:¬cP L≠0)(hx:∀x∈L,x.1<18446744073709551616)(hb:aK B w0 F 4 (.slice A L.length c) L.length (dh L)):a_ B w0 22 [.agg (aR.cells o).toArray,.slice A L.length c] F (LQ (fX o L) F):=by
 have e:fX o L=(dy o L,0):=by unfold fX;rw[aw h,aw hc]
 obtain⟨tC,rO,LB⟩:=kq (bH hc) hx;have hom:=AE (.inr (.inl rfl)) (bH h);obtain⟨⟨m1,m2⟩,_,m4,_⟩:=hom;obtain⟨m5,m6⟩:=m4 (.inr rfl);have GM:(dR o false L).length≤L.length:=by unfold dR;have:=mZ o.1.toNat (lens false L);rwa [et]at this
 have hil:=NI (o:=o) m5 m6 LB tC;rw[e];refine dL.xk hb fun mm _=>?_;obtain⟨bl,pl,bu,da,pa,ch⟩:=o;simp only[o2]at m1 m2 m5 m6;obtain⟨S,rfl⟩:=gJ (show 0≤bl by omega);obtain⟨sz,rfl⟩:=gJ (show 0≤bu by omega);obtain⟨O,hO⟩:∃x:aR,x=((S:Int),pl,(sz:Int),da,pa,ch):=⟨_,rfl⟩
 obtain⟨gs,P8⟩:=cK (dR ((S:Int),pl,(sz:Int),da,pa,ch) false L);have ahG:jw S (lens false L)=gs:=by rw[P8];rfl
 have wT:=Cz ((S:Int),pl,(sz:Int),da,pa,ch) false L;have asI:LR S pl [] L gs 0 0:=⟨rfl,by rw[tp,tp,←ahG];exact ky _ _,bS _⟩
 rw[←P8]at GM wT;refine cm func22 115 rfl rfl rfl [(0,.agg #[ah (S:Int),.bool pl,ah (sz:Int),ah da,ah pa,ah ch]),(1,.slice A L.length c)] ⟨⟨rfl,rfl⟩,⟨rfl,rfl⟩,trivial⟩ ?_;refine be ?_;refine bh fun g2=>?_;refine bI ?_;refine ai rfl (nA ((S:Int),pl,(sz:Int),da,pa,ch)) ?_;refine bO ?_;refine aj (fun oh=>?_) fun oh=>?_
 ·exfalso;exact h oh
 ·refine bz ?_;refine ai rfl (oP L hb.cons) ?_;refine bO ?_;refine aj (fun r'=>?_) fun r'=>?_
  ·exfalso;exact hc r'
  ·refine bK ?_;refine ay rfl (No ahG hb.cons hx aa aa aa) fun wv xm=>?_;refine ab (bw [(0,_)] [.slice none 0 0,.slice none 0 0,ah 0,ah 0] [0] [_,_,_,_] rfl rfl ag) rfl ?_;refine bc fun g8=>?_;refine aF ?_;refine ve [1,2,8] ?_;refine dc ?_;refine aZ 3 1 none ?_;refine aZ 27 1 none ?_;refine bI ?_;refine aE (fun zf zL zm=>∃(k a:Nat) (PB:List kS) (Ap:bj) (cp:Nat) (As:bj) (cs:Nat),(k≤gs.length∧PB.length=k∧LR S pl (PB.map (·.2.2)) L gs k a∧(∀e∈PB,e.2.2.length≤33000)∧a=(gs.take k).sum)∧gs.length-k=zm∧Sub zf [(1,.slice A L.length c),(2,br g2),(8,br g8),(9,.slice Ap PB.length cp),(10,ah a),(37,.slice wv gs.length xm),(38,ah gs.length),(39,ah k)]∧Wk zL (.own 27 1 Ap PB.length cp (PB.map dq):: .own 3 1 As PB.length cs (bx (PB.map (·.2.2.length)))::Db g8 wv gs.length xm As PB.length cs 0 0:: .own 3 1 wv gs.length xm (bx gs):: .bE g2 23 [ah (S:Int),.bool pl,ah (sz:Int),ah da,ah pa,ah ch]::(PB.map fq++F))) _ ⟨0,0,[],none,0,none,0,⟨bS _,rfl,asI,fun e h=>absurd h (mv),ak⟩,rfl,bp,.refl _⟩ ?_;rintro _ _ _ ⟨k,a,PB,Ap,cp,As,cs,⟨hk,Cb,NA,mN,hak⟩,rfl,hs,hp⟩;refine aU hs hp ?_;clear hs hp;refine bz ?_;refine aj (fun h40=>?_) fun h40=>?_
   ·obtain⟨n,hn⟩:=cK (gs.getD k 0);obtain⟨asL,ahJ,ami,amb⟩:=NA.step aa hn aa rO;have hbw:=Da (b:=c_ false ((L.drop a).take n)) (pl:=pl) ami;have sQ:(gs.take (k+1)).sum=(gs.take k).sum+n:=by rw[ba aa 0,wi,←hn];simp
    have hbP:aK B w0 (PB.map fq++F) 4 (.slice A L.length c) L.length (dh L):=hb.mono (gx _ _);refine bK ?_;refine ab (au ag rfl aA aa (gb (v:=n) aa hn.symm)) rfl ?_;refine b8 ?_;refine cF (.own 27 1 Ap PB.length cp (PB.map dq):: .own 3 1 As PB.length cs (bx (PB.map (·.2.2.length)))::Db g8 wv gs.length xm As PB.length cs 0 0:: .own 3 1 wv gs.length xm (bx gs):: .bE g2 23 [ah (S:Int),.bool pl,ah (sz:Int),ah da,ah pa,ah ch]::(PB.map fq++F)) ?_;refine ae 0 ?_;refine ae 1 ?_;refine ae 2 ?_;refine ae 3 ?_;refine aW 4 rfl (bX rfl rfl (r:=((a+n:Nat):Int)) ((bF aa aa).trans aa)) ?_;refine aW 5 rfl (kv (i:=a) (j:=a+n) (size:=4) underlying24 ag rfl rfl rfl rfl rfl aa aa) ?_;refine ae 7 ?_;refine ae 8 ?_;refine az 6 ?_;refine b7 rfl rfl (aiM (L:=L) false ahJ hbP.cons.cons.cons.cons.cons hx aa) fun BY F_=>?_;refine az 9 ?_;refine b7 rfl rfl (Mq HT (b:=c_ false ((L.drop a).take n)) (p:=pl) aA aa) fun A53 c53=>?_;refine ae 10 ?_;refine ae 11 ?_;refine ae 12 ?_;refine ae 13 ?_;refine ae 14 ?_;refine bK ?_;refine ve [1,2,8,9,10,12,13,14,37,38,39,57] ?_;refine aF ?_;refine aj (fun h57=>?_) fun h57=>?_
    ·exfalso;exact h57 hbw.2
    ·have wR:(PB++[((A53,c53,(jA (c_ false ((L.drop a).take n)) pl).1):kS)]).length=PB.length+1:=by simp
     refine bz ?_;refine dF fE rfl rfl rfl rfl rfl (fun _=>rfl) aV aa aa ?_;intro _ A62 c62;refine bO ?_;refine dF fJ rfl rfl rfl rfl rfl (fun _=>rfl) aV aa aa ?_;intro _ A68 c68;refine bK ?_;refine ab (bX rfl rfl (r:=((a+n:Nat):Int)) ((bF aa aa).trans aa)) rfl ?_;refine aF ?_;refine ve [1,2,8,9,10,37,38,39] ?_;refine bz ?_;refine av ⟨_,aa,k+1,a+n,PB++[((A53,c53,(jA (c_ false ((L.drop a).take n)) pl).1):kS)],A62,c62,A68,c68,⟨aa,by simp[Cb],by simpa using amb,fun e h=>(by
      rcases dz.1 h with h|h
      ·exact mN e h
      ·rw[lJ.1 h];exact hbw.1),aa⟩,rfl,bp,.trans ((ed (gk (gk (gk (gk (gk (.skip (.refl _))))))))) (.trans (qv (e:=((A53,c53,(jA (c_ false ((L.drop a).take n)) pl).1):kS)) [.own 27 1 A62 (PB.length+1) c62 (PB.map dq++[dq ((A53,c53,(jA (c_ false ((L.drop a).take n)) pl).1):kS)]),.own 3 1 A68 (PB.length+1) c68 (bx (PB.map (·.2.2.length))++[ah ((jA (c_ false ((L.drop a).take n)) pl).1.length:Int)]),Db g8 wv gs.length xm A68 (PB.length+1) c68 0 0,.own 3 1 wv gs.length xm (bx gs),.bE g2 23 [ah (S:Int),.bool pl,ah (sz:Int),ah da,ah pa,ah ch]]) (ax ak ak (ax ak sL (bq ak (.refl _)))))⟩
   ·obtain rfl:k=gs.length:=by omega
    have Io:=NA.all;rw[BI]at Io;have acQ:PB.map (·.2.2)=eQ ((S:Int),pl,(sz:Int),da,pa,ch) L:=by
     rw[show eQ ((S:Int),pl,(sz:Int),da,pa,ch) L=ju false pl gs L by unfold eQ;rw[←P8],←Io];simp[ju]
    have hbP:aK B w0 (PB.map fq++F) 4 (.slice A L.length c) L.length (dh L):=hb.mono (gx _ _);have tB:=qV (L:=L) aa;refine bI ?_;refine ay rfl (XS L hbP.cons.cons.cons.cons.cons hx aa) fun A75 c75=>?_;refine ay rfl (qB HT (l:=ku L) aA aa) fun A76 c76=>?_;refine b8 ?_;refine cF (.own 5 1 A76 (cX (ku L)).length c76 (bv (cX (ku L))):: .own 5 1 A75 (ku L).length c75 (bv (ku L)):: .own 27 1 Ap PB.length cp (PB.map dq):: .own 3 1 As PB.length cs (bx (PB.map (·.2.2.length)))::Db g8 wv gs.length xm As PB.length cs 0 0:: .own 3 1 wv gs.length xm (bx gs):: .bE g2 23 [ah (S:Int),.bool pl,ah (sz:Int),ah da,ah pa,ah ch]::(PB.map fq++F)) ?_;refine ae 0 ?_;refine ae 1 ?_;refine ae 2 ?_;refine ae 3 ?_;refine ae 4 ?_;refine az 5 ?_;refine gz rfl .no apF rfl (Ul (L:=L) hbP.cons.cons.cons.cons.cons.cons.cons LB) rfl (by rintro _ _ ⟨AT,cT,AL,cL,LL,rfl,rfl,ahx⟩;exact gD) ?_;rintro _ _ ⟨AT,cT,AL,cL,LL,rfl,cA,ahx⟩;obtain rfl:=cA.symm;refine az 6 ?_;refine b7 rfl rfl (aej (T:=mW L) (LL:=toI LL) (size:=(sz:Int)) (bound:=((L.length:Nat):Int)) (m:=(mW L).length) (d:=qH ((S:Int),pl,(sz:Int),da,pa,ch) L) (by have:=dB List.length ahx;rw[CS];simpa[Jy,mW]using this) (aK.own (.head _)) aoS (WZ fun e he=>.tail _ (.tail _ (j9 _ (jb (f:=jK) he)))) (fun e he=>by have:=XC ahx e he;omega) (by have:=(wU (o:=((S:Int),pl,(sz:Int),da,pa,ch)) (L:=L) (sz:=sz) rfl aa aa LB tC).2.2.2.2;omega) (by rw[yT,ahx];exact YO aa aa LB tC rfl)) fun A84 c84=>?_;refine ae 7 ?_;refine ae 8 ?_;refine ae 9 ?_;refine ae 10 ?_;refine ae 11 ?_;refine cQ [8,9,15,16,17] ?_;refine bA ?_;refine wq (.cons (.skip (.skip (dv _ _)))) ?_;have hCe:oW L=cX (ku L):=rfl;have hIe:oY ((S:Int),pl,(sz:Int),da,pa,ch) L=cX (qH ((S:Int),pl,(sz:Int),da,pa,ch) L):=rfl;have hCl:(oW L).length=(ku L).length+4:=by rw[hCe,du]
    have hIl:(oY ((S:Int),pl,(sz:Int),da,pa,ch) L).length=(qH ((S:Int),pl,(sz:Int),da,pa,ch) L).length+4:=by rw[hIe,du]
    rw[←hCe];have hss:(PB.map (·.2.2.length))=(eQ ((S:Int),pl,(sz:Int),da,pa,ch) L).map List.length:=by rw[←acQ];simp
    have hse:PB.length=(PB.map (·.2.2.length)).length:=by simp
    have hdl:(xP gs (PB.map (·.2.2.length)) (oW L).length (oY ((S:Int),pl,(sz:Int),da,pa,ch) L).length).length≤60+20*gs.length:=by
     have h1:=y9 gs (PB.map (·.2.2.length)) (fun n hn=>Xy) (fun n hn=>by
      obtain⟨e,he,rfl⟩:=pQ.1 hn;have:=mN e he;omega) gs.length
     have h2:uR gs (PB.map (·.2.2.length)) gs.length=(gs.zip (PB.map (·.2.2.length))).flatMap fun p=>aS p.1++aS p.2:=by unfold uR;rw[fA bR]
     rw[h2]at h1;have h3:=aT (x:=gs.sum) aa;have h4:=aT (x:=gs.length) aa;have h5:=aT (x:=(oW L).length) aa;have h6:=aT (x:=(oY ((S:Int),pl,(sz:Int),da,pa,ch) L).length) aa;unfold xP;simp only[aY];omega
    have hDe:p_ ((S:Int),pl,(sz:Int),da,pa,ch) L=cX (xP gs (PB.map (·.2.2.length)) (oW L).length (oY ((S:Int),pl,(sz:Int),da,pa,ch) L).length):=by unfold p_;rw[hss,←P8]
    obtain⟨dr,YA⟩:∃x,xP gs (PB.map (·.2.2.length)) (oW L).length (oY ((S:Int),pl,(sz:Int),da,pa,ch) L).length=x:=⟨_,rfl⟩
    rw[YA]at hdl hDe;have hDl:(p_ ((S:Int),pl,(sz:Int),da,pa,ch) L).length=dr.length+4:=by rw[hDe,du]
    have hPB:∀e∈PB,aK B w0 (PB.map fq++F) 1 (dq e) e.2.2.length (bv e.2.2):=fun e he=>aK.own (j9 _ (jb (f:=fq) he));have aqn:=D0 (m:=33000) PB mN;have as2:∀x∈(PB.map (·.2.2.length)),x≤1000000000000000:=fun x hx=>(by
     obtain⟨e,he,rfl⟩:=pQ.1 hx;have:=mN e he;omega)
    refine bG ?_;refine aj (fun h88=>?_) fun h88=>?_
    ·exfalso;exact h88 rfl
    ·refine bG ?_;refine ay rfl (qB HT (l:=qH ((S:Int),pl,(sz:Int),da,pa,ch) L) aA aa) fun A91 c91=>?_;refine b8 ?_;rw[←hIe];refine dc ?_;refine ay rfl ((QV (cc:=(oW L).length) (ii:=(oY ((S:Int),pl,(sz:Int),da,pa,ch) L).length) hse bR aA aA aa aa as2 aa aa YA).perm ((pu6 (fR (fR (fR (fR (fR (fR (fR (fR (.refl _)))))))))))) fun A98 c98=>?_;refine ay rfl (qB HT (l:=dr) aA aa) fun A99 c99=>?_;refine b8 ?_;rw[←hDe];refine bA ?_;refine ab (bm underlying3 underlying60 rfl (r:=((p_ ((S:Int),pl,(sz:Int),da,pa,ch) L).length:Int)) (f_ aa aa)) rfl ?_;refine ay rfl (Ng (x:=(p_ ((S:Int),pl,(sz:Int),da,pa,ch) L).length) aa) fun arC atT=>?_;refine bG ?_;refine ve [9,15,16,18,19] ?_;refine bI ?_;refine cC (aG fE [_,_,_,_] rfl rfl cw aa aa) fun atS=>?_;refine fM (bT fE rfl aV rfl aA cw aa aa) fun aaL abo=>?_;refine ay rfl (agu (PB:=PB) (l:=dy ((S:Int),pl,(sz:Int),da,pa,ch) L) (l1:=oW L) (l2:=oY ((S:Int),pl,(sz:Int),da,pa,ch) L) (l3:=p_ ((S:Int),pl,(sz:Int),da,pa,ch) L) (l4:=fF (p_ ((S:Int),pl,(sz:Int),da,pa,ch) L).length 4) aA rfl (fun e he=>by repeat (first|exact hPB e he|apply aK.cons)) aA aA aA aA (by rw[acQ];rfl) (by unfold dy;rw[←acQ];simp only[aY,qb];omega) aa) fun arE arM=>?_;refine bG ?_;refine aq (.cons (.skip (.skip (.skip (.skip (.skip (.skip (.skip (.skip (.skip (.skip (.skip (.skip (.skip (dv _ _))))))))))))))) ?_;refine aF ?_;exact⟨arE,arM,rfl,rfl⟩
theorem Df(HT:bL B w0){o:aR}{L:List aI}(hx:∀x∈L,x.1<18446744073709551616)(hb:aK B w0 F 4 (.slice A L.length c) L.length (dh L)):a_ B w0 22 [.agg (aR.cells o).toArray,.slice A L.length c] F (LQ (fX o L) F):=by
 by_cases h:cB 2 (o2 o)≠0
 ·exact Qz h
 ·by_cases hc:cP L≠0
  ·exact QA h hc hb
  ·exact QB HT h hc hx hb
section
abbrev Ob(g gc:Nat)(sx:Value)(o:aR)(r b:Nat):Ch:=.bE g 205 [br gc,sx,ah o.1,.bool o.2.1,ah o.2.2.1,ah o.2.2.2.1,ah o.2.2.2.2.1,ah o.2.2.2.2.2,ah r,ah b]
theorem adZ(x:al):(oh1 x).b=x:=Cs.cN _ _ _
theorem aky(x:al):(V5 x).b=x:=by
 unfold V5;split
 ·rw[qW];exact(Cs.cN _ _ _).trans (adZ x)
 ·exact(Cs.cN _ _ _).trans (adZ x)
theorem akz(x:al):(oh3 x).b=x:=(Cs.cN _ _ _).trans (aky x)
theorem akA(x:al):(Cg x).b=x:=(Cs.cN _ _ _).trans (akz x)
theorem St{x:al}(h:x.length≤1099511627776):ct (oh1 x):=(pd h).bW aa
theorem ad0{x:al}(h:x.length≤1099511627776):ct (V5 x):=by
 unfold V5;split
 ·exact(St h).eJ.failed _
 ·exact(St h).eJ
theorem Su{x:al}(h:x.length≤1099511627776):ct (oh3 x):=(ad0 h).bW aa
theorem Sv(x:al):((G1 x:Nat):Int)≤20000:=Cs.gw _ aa aa
theorem amW{x:al}(h:x.length≤1099511627776):ct (Cg x):=(Su h).bW (by have:=Sv x;omega)
theorem Zw{x:al}{sx:Value}(hb:eM B w0 F A c x)(de:x.length≤1099511627776):
  a_ B w0 125 [br g] (Ob g gc sx h_ 0 0::Cv gc A c ⟨x,0,0⟩::F)
   (fun r L=>r=ah (ohE x)∧L=Ob g gc sx (ohO x) (G1 x) (CK x)::Cv gc A c (Cg x)::F):=by
 have k1:=adZ x;have k2:=aky x;have k3:=akz x;have k4:=akA x;have hR:=Sv x;have hB:((CK x:Nat):Int)≤G1 x:=Cs.gw _ aa aa;obtain⟨bl,GK⟩:=cK (Cs.int ⟨x,0,0⟩ 32768);have al4:((bl:Nat):Int)≤32768:=by rw[GK];exact Cs.gw _ aa aa
 have hx8:=lT (Zt x);obtain⟨y,hy⟩:=cK ((Zt x).toNat);have e1:oh1 x=Cs.bW ⟨x,0,0⟩ 32768:=rfl;have hO:ohO x=(((bl:Nat):Int),decide ((y:Int)=1),0,0,0,0):=by
  unfold ohO;rw[←GK,←hy];congr 2;exact sc.2 ⟨fun h=>by omega,fun h=>aa⟩
 have hE:ohE x=if (Cg x).e≠0 then (Cg x).e else cB 1 (((bl:Nat):Int),decide ((y:Int)=1),0,0,0,0):=by unfold ohE;rw[hO]
 rw[hO,hE];rw[←hy]at hx8;refine fw func125 65 [0] ?_;refine cH ?_;refine ai rfl ((iH (g:=gc) (s:=⟨x,0,0⟩) (pd de) (aK.cons hb) aa aa).perm ((l_ (fR (.refl _))))) ?_;refine bK ?_;rw[←GK,←e1];refine bG ?_;refine ai rfl (ov (s:=oh1 x) (St de) (by rw[k1];exact hb.cons)) ?_;refine bA ?_;refine d_ (fun zf zL=>Sub zf [(0,br g),(3,.int .u8 (y:Int))]∧Wk zL (Cv gc A c (V5 x)::Ob g gc sx (((bl:Nat):Int),false,0,0,0,0) 0 0::F)) ?_ ?_
 ·refine aF ?_;refine Ba [(0,br g),(3,.int .u8 (y:Int))] ⟨rfl,(by rw[hy];rfl),trivial⟩ ?_;refine bG ?_;refine aj (fun iM=>?_) fun iM=>?_
  ·refine bG ?_;refine ai rfl (nr 2) ?_;refine ve [0,3] ?_;exact bD ⟨bp,mQ (by unfold V5;rw[ao aa]) (.refl _)⟩
  ·refine aF ?_;exact bD ⟨bp,mQ (by unfold V5;rw[aw aa]) (.refl _)⟩
 ·rintro _ _ ⟨hs,hp⟩;refine aU hs hp ?_;clear hs hp;refine cH ?_;have e3:oh3 x=(V5 x).bW 20000:=rfl;have eR:G1 x=(V5 x).int 20000:=rfl;have e4:Cg x=(oh3 x).bW (G1 x):=rfl;have eB:CK x=(oh3 x).int (G1 x):=rfl;refine bz ?_;refine ai rfl (iH (s:=V5 x) (ad0 de) (by rw[k2];exact hb.cons) aa aa) ?_;refine bz ?_;rw[←eR,←e3];refine cF F ?_;refine ae 0 ?_;refine ae 1 ?_;refine ae 2 ?_;refine ae 3 ?_;refine ae 5 ?_;refine ae 6 ?_;refine ae 7 ?_;refine gS 4 8 ?_ ?_
  ·refine aF ?_;refine az 8 ?_;refine aF ?_;refine az 9 ?_;refine iW rfl rfl (iH (s:=oh3 x) (most:=((G1 x:Nat):Int)) (Su de) T5 aa aa) ?_;refine ae 10 ?_;refine ae 11 ?_;refine az 12 ?_;refine aF ?_;refine cQ [0] ?_;refine bA ?_;rw[←eB,←e4];refine bG ?_;refine ai rfl (gM) ?_;refine bO ?_;refine aj (fun h58=>?_) fun h58=>?_
   ·refine bI ?_;refine aq ((gk (ed (.refl _)))) ?_;refine aF ?_;exact⟨by rw[ao h58],rfl⟩
   ·refine bK ?_;refine ab (bY 6 ag rfl aV (aR.cells (((bl:Nat):Int),decide ((y:Int)=1),0,0,0,0)) rfl rfl) rfl ?_;refine ai rfl (kF 1 (((bl:Nat):Int),decide ((y:Int)=1),0,0,0,0)) ?_;refine b8 ?_;refine aq ((gk (ed (.refl _)))) ?_;refine aF ?_;exact⟨by rw[aw h58],rfl⟩
  ·refine aF ?_;refine az 4 ?_;refine aF ?_;refine az 9 ?_;refine iW rfl rfl (iH (s:=oh3 x) (most:=((G1 x:Nat):Int)) (Su de) T5 aa aa) ?_;refine ae 10 ?_;refine ae 11 ?_;refine az 12 ?_;refine aF ?_;refine cQ [0] ?_;refine bA ?_;rw[←eB,←e4];refine bG ?_;refine ai rfl (gM) ?_;refine bO ?_;refine aj (fun h58=>?_) fun h58=>?_
   ·refine bI ?_;refine aq ((gk (ed (.refl _)))) ?_;refine aF ?_;exact⟨by rw[ao h58],rfl⟩
   ·refine bK ?_;refine ab (bY 6 ag rfl aV (aR.cells (((bl:Nat):Int),decide ((y:Int)=1),0,0,0,0)) rfl rfl) rfl ?_;refine ai rfl (kF 1 (((bl:Nat):Int),decide ((y:Int)=1),0,0,0,0)) ?_;refine b8 ?_;refine aq ((gk (ed (.refl _)))) ?_;refine aF ?_;exact⟨by rw[aw h58],rfl⟩
theorem Uk(HT:bL B w0){b:al}{n:Nat}{xs:cV}(e1:n=b.length)(e2:xs=bv b)(hb:aK B w0 F 1 (.slice A n c) n xs)(de:b.length≤1000000):
  a_ B w0 230 [.slice A n c] F (BlA (dK b) F):=by
 subst e1;subst e2;exact agS HT hb de
theorem C'(b:al):(dK b).1.length≤32768:=by
 unfold dK;split
 ·simp
 ·split
  ·simp
  ·exact UY b
theorem agI{b:al}(h:b.length≤1000000):(dK b).2.1≤b.length:=by
 unfold dK;split
 ·simp
 ·split
  ·simp
  ·have:=(alL (b:=b) aa).at_;rw[apQ]at this;exact this
section
variable{s:Cs}
theorem amX(h:(dK s.rest).2.2≠0):jM s=([],s,(dK s.rest).2.2):=by unfold jM;rw[ao h]
theorem amY(h:¬(dK s.rest).2.2≠0)(h2:(qO true (dK s.rest).1).2≠0):jM s=([],s.b_ ((dK s.rest).2.1:Nat),(qO true (dK s.rest).1).2):=by unfold jM;rw[aw h,ao h2]
theorem amZ(h:¬(dK s.rest).2.2≠0)(h2:¬(qO true (dK s.rest).1).2≠0)(h3:(qO true (dK s.rest).1).1=[]):jM s=([],s.b_ ((dK s.rest).2.1:Nat),2):=by unfold jM;rw[aw h,aw h2,ao h3]
theorem am0(h:¬(dK s.rest).2.2≠0)(h2:¬(qO true (dK s.rest).1).2≠0)(h3:¬(qO true (dK s.rest).1).1=[]):jM s=((qO true (dK s.rest).1).1,s.b_ ((dK s.rest).2.1:Nat),0):=by unfold jM;rw[aw h,aw h2,aw h3]
end
theorem Sw(HT:bL B w0){x:al}{s:Cs}{Ax:bj}{cx r bb:Nat}{o:aR}(hs:s.b=x)(ho:ct s)(hb:eM B w0 F A c x)(hbx:eM B w0 F Ax cx x)(de:x.length≤1000000):
  a_ B w0 193 [br g] (Ob g gc (.slice Ax x.length cx) o r bb::Cv gc A c s::F)
   (fun v L=>∃A' c',v= .tuple #[.slice A' (jM s).1.length c',ah (jM s).2.2]∧L= .own 62 4 A' (jM s).1.length c' (dh (jM s).1)::Ob g gc (.slice Ax x.length cx) o r bb::Cv gc A c (jM s).2.1::F):=by
 have GJ:=ho.at_;rw[hs]at GJ;have hcut:=hbx.cut GJ;have er:s.rest=x.drop s.at_:=by unfold Cs.rest;rw[hs]
 have e2:(bv x).drop (s.at_*1)=bv s.rest:=by rw[cE,er];simp[bv,yh]
 have e3:x.length-s.at_=s.rest.length:=by rw[er,iG]
 have hrl:=C' s.rest;have hra:=agI (b:=s.rest) aa;refine fw func193 46 [0] ?_;refine bK ?_;refine cF (Ob g gc (.slice Ax x.length cx) o r bb::Cv gc A c s::F) ?_;refine ae 0 ?_;refine ae 1 ?_;refine ae 2 ?_;refine ae 3 ?_;refine ae 4 ?_;refine ae 5 ?_;refine ae 6 ?_;refine ae 7 ?_;refine az 8 ?_;refine iW rfl rfl ((zA).jf ((l_ (fR (.refl _))))) ?_;refine aW 9 rfl (bQ (i:=s.at_) (size:=1) underlying27 ag rfl rfl rfl aa) ?_;refine az 10 ?_;refine b7 rfl rfl (Uk HT (b:=s.rest) e3 e2 hcut.cons.cons aa) fun Lp c19=>?_;refine ae 11 ?_;refine ae 12 ?_;refine ae 13 ?_;refine ae 14 ?_;refine ae 15 ?_;refine ae 16 ?_;refine ae 17 ?_;refine cQ [0,4,5,6] ?_;refine bI ?_;refine aj (fun oh=>?_) fun oh=>?_
 ·refine bO ?_;refine aD 62 4 none ?_;rw[amX oh];refine aq (.cons (.skip (.refl _))) ?_;refine aF ?_;exact⟨none,0,rfl,rfl⟩
 ·refine bO ?_;refine ay rfl ((mg (g:=gc) (s:=s) (m:=((dK s.rest).2.1:Nat)) ho (by rw[hs];exact hb.cons.cons) aa aa).perm ((BM (fR (fR (.refl _)))))) fun Qg c31=>?_;refine bG ?_;refine ay rfl (ON (l:=(dK s.rest).1) true aA aa) fun wv xm=>?_;refine bG ?_;refine ve [6,7] ?_;refine bB ?_;refine aj (fun zK=>?_) fun zK=>?_
  ·refine bB ?_;refine aD 62 4 none ?_;rw[amY oh zK];refine aq ((ed (wu4 (gk (.skip (.skip (.skip (.refl _)))))))) ?_;refine aF ?_;exact⟨none,0,rfl,rfl⟩
  ·refine bI ?_;refine aj (fun GH=>?_) fun GH=>?_
   ·refine bO ?_;refine aD 62 4 none ?_;rw[amZ oh zK (mr aa)];refine aq ((ed (wu4 (gk (.skip (.skip (.skip (.refl _)))))))) ?_;refine aF ?_;exact⟨none,0,rfl,rfl⟩
   ·refine cZ ?_;rw[am0 oh zK (fun h=>GH (by rw[h];rfl))];refine aq ((ed (tF (ed (.skip (.skip (.refl _))))))) ?_;refine aF ?_;exact⟨wv,xm,rfl,rfl⟩
theorem I1(b:Bool):∀(f:Nat) (s:Cs) (o:List aI),(ot b f s o).1.length≤o.length+f
 |0,s,o=>by simp[ot]
 |f+1,s,o=>by
  by_cases h:s.left=0
  ·rw[AP h];simp only;omega
  ·by_cases he:(dZ b s).2.e≠0
   ·rw[AO h he];simp
   ·rw[E' h he];have:=I1 b f (dZ b s).2 (o++[(dZ b s).1]);rw[aY,qe]at this;omega
theorem aiK(b:Bool)(l:al):(qO b l).1.length≤l.length+1:=by
 have:=I1 b (l.length+1) ⟨l,0,0⟩ [];unfold qO;simpa using this
theorem ad3(s:Cs):(jM s).1.length≤32769:=by
 have h1:=C' s.rest;have h2:=aiK true (dK s.rest).1;unfold jM;split
 ·simp
 ·split
  ·simp
  ·split
   ·simp
   ·simp only;omega
theorem aim{s:Cs}{x:al}(hs:s.b=x)(ho:ct s):(jM s).2.1.b=x∧ct (jM s).2.1:=by
 have h1:(s.b_ ((dK s.rest).2.1:Nat)).b=x∧ct (s.b_ ((dK s.rest).2.1:Nat)):=⟨(Cs.cN _ _ _).trans hs,ho.b_⟩
 unfold jM;split
 ·exact⟨hs,ho⟩
 ·split
  ·exact h1
  ·split
   ·exact h1
   ·exact h1
theorem I3(l:List aI):∀u∈dh l,u.oneCell'=true:=fun u hu=>by
 obtain⟨r,_,hr⟩:=List.mem_flatMap.1 hu;simp only[aI.cells,fk,mv,oj]at hr;rcases hr with rfl|rfl|rfl|rfl<;>rfl
theorem vj(l m:List aI):dh l++dh m=dh (l++m):=by simp[dh]
section
variable{f:Nat}{s:Cs}{out:List aI}{R:List aI×Cs×Int}
theorem ad2(h:oC (f+1) s out=R)(he:(jM s).2.2≠0):R=([],(jM s).2.1,(jM s).2.2):=by rw[←h,oC,ao he]
theorem ail(h:oC (f+1) s out=R)(he:¬(jM s).2.2≠0):oC f (jM s).2.1 (out++(jM s).1)=R:=by rw[←h,oC,aw he]
variable{x:al}
theorem ain(h:oC (CK x) (Cg x) []=R)(h1:R.2.2≠0):kG x=([],R.2.2):=by unfold kG;rw[h,ao h1]
theorem V6(h:oC (CK x) (Cg x) []=R)(h1:¬R.2.2≠0)(h2:0<R.2.1.left∨R.1.length≠G1 x):kG x=([],2):=by unfold kG;rw[h,aw h1,ao h2]
theorem aio(h:oC (CK x) (Cg x) []=R)(h1:¬R.2.2≠0)(h2:¬(0<R.2.1.left∨R.1.length≠G1 x))(h3:cP R.1≠0):kG x=([],cP R.1):=by unfold kG;rw[h,aw h1,aw h2,ao h3]
theorem aip(h:oC (CK x) (Cg x) []=R)(h1:¬R.2.2≠0)(h2:¬(0<R.2.1.left∨R.1.length≠G1 x))(h3:¬cP R.1≠0):kG x=(R.1,0):=by unfold kG;rw[h,aw h1,aw h2,aw h3]
end
theorem ad7(HT:bL B w0){x:al}{Ax:bj}{cx:Nat}{o:aR}(hb:eM B w0 F A c x)(hbx:eM B w0 F Ax cx x)(de:x.length≤1000000):
  a_ B w0 126 [br g] (Ob g gc (.slice Ax x.length cx) o (G1 x) (CK x)::Cv gc A c (Cg x)::F)
   (fun v L=>∃A' c' s',v= .tuple #[.slice A' (kG x).1.length c',ah (kG x).2]∧L= .own 62 4 A' (kG x).1.length c' (dh (kG x).1)::Ob g gc (.slice Ax x.length cx) o (G1 x) (CK x)::Cv gc A c s'::F):=by
 have hR:=Sv x;have hB:((CK x:Nat):Int)≤G1 x:=Cs.gw _ aa aa;obtain⟨R,Yt⟩:∃R,oC (CK x) (Cg x) []=R:=⟨_,rfl⟩
 obtain⟨bb,hbb⟩:=cK (CK x);have aqb:=Yt;rw[←hbb]at hB aqb⊢;refine fw func126 47 [0] ?_;refine bK ?_;refine aZ 62 4 none ?_;refine jk ?_;refine aE (fun zf zL zm=>∃(k:Nat) (s:Cs) (out:List aI) (A':bj) (c':Nat),(k≤bb∧s.b=x∧ct s∧oC (bb-k) s out=R∧out.length≤32769*k)∧bb-k=zm∧Sub zf [(0,br g),(4,.slice A' out.length c'),(11,ah bb),(12,ah k)]∧Wk zL (.own 62 4 A' out.length c' (dh out)::Ob g gc (.slice Ax x.length cx) o (G1 x) bb::Cv gc A c s::F)) _ ⟨0,Cg x,[],none,0,⟨bS _,akA x,amW aa,aqb,ak⟩,rfl,bp,.refl _⟩ ?_;rintro _ _ _ ⟨k,s,out,A',c',⟨hk,Qb,hso,wO,Kl⟩,rfl,hs,hp⟩;refine aU hs hp ?_;clear hs hp;refine bz ?_;refine aj (fun mE=>?_) fun mE=>?_
 ·obtain⟨f,hf⟩:∃f,bb-k=f+1:=⟨bb-k-1,aa⟩
  rw[hf]at wO;have B_:=ad3 s;have hkc:=aim Qb hso;have pX:=I3 (jM s).1;refine bK ?_;refine ay rfl (.perm (Sw (g:=g) HT Qb hso hb.cons hbx.cons de) ((l_ (l_ (fR (.refl _)))))) fun Xk c16=>?_;refine dQ ?_;refine aj (fun iM=>?_) fun iM=>?_
  ·have Yu:=ad2 wO iM;have hL:=ain Yt (by rw[Yu];exact iM);rw[Yu]at hL;refine dQ ?_;rw[hL];refine aD 62 4 none ?_;refine aq ((ed (gk (gk (.skip (.skip (.refl _))))))) ?_;refine aF ?_;exact⟨none,0,_,rfl,rfl⟩
  ·have Rv:=ail wO iM;have wR:(out++(jM s).1).length=out.length+(jM s).1.length:=aY;refine bG ?_;refine fM (bT WC rfl aV rfl aA cw aa aa) fun Bg Di=>?_;refine bI ?_;refine av ⟨_,aa,k+1,(jM s).2.1,out++(jM s).1,Bg,Di,⟨aa,hkc.1,hkc.2,by rw[show bb-(k+1)=f by omega];exact Rv,aa⟩,rfl,bp,.trans ((tF (gk (gk (.skip (.refl _)))))) (ax aa (vj _ _) (.refl _))⟩
 ·obtain rfl:k=bb:=by omega
  rw[nE]at wO;have Yu:R=(out,s,0):=wO.symm;rw[Yu]at Yt;refine cH ?_;refine ai rfl ((JN (g:=gc) (s:=s) hso (by rw[Qb];exact hb.cons.cons)).jf ((BM (fR (fR (.refl _)))))) ?_;refine be ?_;refine aL rfl rfl rfl (fun Bv=>?_) (fun Bv=>?_)
  ·refine dQ ?_;refine ve [4,40] ?_;refine aF ?_;refine aj (fun h40=>?_) fun h40=>?_
   ·refine bI ?_;have hL:=V6 Yt ak (.inr cY);rw[hL];refine aD 62 4 none ?_;refine aq ((ed (gk (gk (.skip (.refl _)))))) ?_;refine aF ?_;exact⟨none,0,_,rfl,rfl⟩
   ·refine bz ?_;refine ai rfl (oP out aA) ?_;refine bO ?_;refine aj (fun tU=>?_) fun tU=>?_
    ·refine bO ?_;have hL:=aio Yt ak (fun h=>h.elim (fun h=>L4) fun h=>L4) tU;rw[hL];refine aD 62 4 none ?_;refine aq ((ed (gk (gk (.skip (.refl _)))))) ?_;refine aF ?_;exact⟨none,0,_,rfl,rfl⟩
    ·refine bB ?_;have hL:=aip Yt ak (fun h=>h.elim (fun h=>L4) fun h=>L4) tU;rw[hL];refine aF ?_;exact⟨A',c',_,rfl,rfl⟩
  ·refine bK ?_;refine ve [4,40] ?_;refine bB ?_;have hL:=V6 Yt ak (.inl cY);rw[hL];refine aD 62 4 none ?_;refine aq ((ed (gk (gk (.skip (.refl _)))))) ?_;refine aF ?_;exact⟨none,0,_,rfl,rfl⟩
theorem am5{b:al}(h:(marked b).2≠0):gU b=([],(marked b).2):=by unfold gU;rw[ao h]
theorem am6{b:al}(h:¬(marked b).2≠0)(h2:(marked b).1≠1):gU b=([],4):=by unfold gU;rw[aw h,ao h2]
theorem am7{b:al}(h:¬(marked b).2≠0)(h2:¬(marked b).1≠1)(h3:(aJ b).2≠0):gU b=([],(aJ b).2):=by unfold gU;rw[aw h,aw h2,ao h3]
theorem am8{b:al}(h:¬(marked b).2≠0)(h2:¬(marked b).1≠1)(h3:¬(aJ b).2≠0)(h4:(aJ b).1.length<5):gU b=([],1):=by unfold gU;rw[aw h,aw h2,aw h3,ao h4]
theorem am9{b:al}(h:¬(marked b).2≠0)(h2:¬(marked b).1≠1)(h3:¬(aJ b).2≠0)(h4:¬(aJ b).1.length<5):gU b=((aJ b).1.drop 5,0):=by unfold gU;rw[aw h,aw h2,aw h3,aw h4]
theorem Sx(HT:bL B w0){b:al}(hb:eM B w0 F A c b)(de:b.length≤1000000):
  a_ B w0 124 [.slice A b.length c] F (FrA (gU b) B w0 F):=by
 refine fw func124 30 [0] ?_;refine bO ?_;refine ai rfl (uv hb aa) ?_;refine dQ ?_;refine aj (fun mE=>?_) fun mE=>?_
 ·refine bB ?_;rw[am5 mE];exact FrA.nil (Y:=[]) rfl rfl rfl
 ·refine bO ?_;refine aj (fun ki=>?_) fun ki=>?_
  ·refine bO ?_;rw[am6 mE ki];exact FrA.nil (Y:=[]) rfl rfl rfl
  ·refine bG ?_;refine ay rfl (wF HT hb aa) fun tb uU=>?_;refine bG ?_;refine ve [5,6] ?_;refine bI ?_;refine aj (fun m7=>?_) fun m7=>?_
   ·refine bB ?_;rw[am7 mE ki m7];exact FrA.nil (Y:=[_]) rfl rfl rfl
   ·refine bB ?_;refine aj (fun kg=>?_) fun kg=>?_
    ·refine bO ?_;rw[am8 mE ki m7 aa];exact FrA.nil (Y:=[_]) rfl rfl rfl
    ·have hcut:=(aK.own (B:=B) (w0:=w0) (L:=.own 5 1 tb (aJ b).1.length uU (bv (aJ b).1)::F) (.head _)).cut (k:=5) aa;have e2:(bv (aJ b).1).drop (5*1)=bv ((aJ b).1.drop 5):=by simp[bv,yh]
     have e3:(aJ b).1.length-5=((aJ b).1.drop 5).length:=by rw[iG]
     rw[e2,e3]at hcut;refine bG ?_;refine ab (bQ (i:=5) (size:=1) underlying27 ag rfl rfl rfl aa) rfl ?_;refine bz ?_;rw[am9 mE ki m7 aa];exact⟨_,_,[_],by rw[e3],rfl,hcut⟩
abbrev UnA(R:aR×List aI×Nat×Int)(F:aQ)(r:Value)(L:aQ):Prop:=∃A' c',r= .tuple #[.agg (aR.cells R.1).toArray,.slice A' R.2.1.length c',ah (R.2.2.1:Int),ah R.2.2.2]∧L= .own 62 4 A' R.2.1.length c' (dh R.2.1)::F
theorem am1{b:al}(h:(gU b).2≠0):l8 b=(h_,[],0,(gU b).2):=by unfold l8;rw[ao h]
theorem am2{b:al}(h:¬(gU b).2≠0)(h2:ohE (gU b).1≠0):l8 b=(h_,[],0,ohE (gU b).1):=by unfold l8;rw[aw h,ao h2]
theorem am3{b:al}(h:¬(gU b).2≠0)(h2:¬ohE (gU b).1≠0)(h3:(kG (gU b).1).2≠0):l8 b=(h_,[],0,(kG (gU b).1).2):=by unfold l8;rw[aw h,aw h2,ao h3]
theorem am4{b:al}(h:¬(gU b).2≠0)(h2:¬ohE (gU b).1≠0)(h3:¬(kG (gU b).1).2≠0):l8 b=(ohO (gU b).1,(kG (gU b).1).1,CK (gU b).1,0):=by unfold l8;rw[aw h,aw h2,aw h3]
theorem o_(b:al):(aJ b).1.length≤b.length:=by
 unfold aJ;split
 ·simp
 ·split
  ·simp
  ·simp
theorem ad5(b:al):(gU b).1.length≤b.length:=by
 have:=o_ b;unfold gU;split
 ·simp
 ·split
  ·simp
  ·split
   ·simp
   ·split
    ·simp
    ·simp only[iG];omega
theorem fC(o:aR):∀u∈aR.cells o,u.oneCell'=true:=by simp[aR.cells,Value.oneCell']
theorem OD(HT:bL B w0){b:al}(hb:eM B w0 F A c b)(de:b.length≤1000000):
  a_ B w0 68 [.slice A b.length c] F (UnA (l8 b) F):=by
 have Qc:=ad5 b;refine fw func68 49 [0] ?_;refine be ?_;refine bc fun g2=>?_;refine bI ?_;refine aX ao0 rfl (Sx HT hb.cons de) rfl ?_;rintro _ _ ⟨Ax,cx,Y,rfl,cA,hbx⟩;obtain rfl:=cA.symm;refine bO ?_;have GO:=om Y [.bE g2 23 [ah 0,.bool false,ah 0,ah 0,ah 0,ah 0]] F;refine fP GO ?_;have ahB:=hbx.perm GO;have GQ:Wk (Y++F) F:=dv Y F;obtain⟨K,hK⟩:=cK (Y++F);simp only[NZ]at ahB⊢;rw[←hK]at ahB GQ⊢;have pX:=fC (ohO (gU b).1);refine bG ?_;refine aj (fun iF=>?_) fun iF=>?_
 ·refine be ?_;refine ab (cu [ah 0,.bool false,ah 0,ah 0,ah 0,ah 0] ag) rfl ?_;refine bO ?_;refine aD 62 4 none ?_;refine nv rfl rfl ag aV gA rfl rfl rfl (.cons (.skip GQ)) ?_;rw[am1 iF];exact⟨none,0,rfl,rfl⟩
 ·refine bG ?_;refine dX rfl (mY ahB aa) fun gn An cn=>?_;refine aF ?_;refine ab (bw [(0,_),(1,_)] [.pointer none,.slice none 0 0,ah 0,.bool false,ah 0,ah 0,ah 0,ah 0,ah 0,ah 0] [0,1] [_,_,_,_,_,_,_,_,_,_] rfl rfl ag) rfl ?_;refine bh fun g24=>?_;refine aF ?_;refine ve [2,8] ?_;refine bG ?_;refine ai rfl (Zw (x:=(gU b).1) (aK.own (.head _)) aa) ?_;refine bO ?_;refine aj (fun qF=>?_) fun qF=>?_
  ·refine be ?_;refine ab (cu [ah 0,.bool false,ah 0,ah 0,ah 0,ah 0] ag) rfl ?_;refine bO ?_;refine aD 62 4 none ?_;refine nv rfl rfl ag aV gA rfl rfl rfl (.cons (.skip (.skip (.skip (.skip GQ))))) ?_;rw[am2 iF qF];exact⟨none,0,rfl,rfl⟩
  ·refine bG ?_;refine dX rfl (ad7 HT (x:=(gU b).1) (aK.own (.head _)) ahB.cons aa) fun Ar cr s9=>?_;refine dQ ?_;refine aj (fun zK=>?_) fun zK=>?_
   ·refine be ?_;refine ab (cu [ah 0,.bool false,ah 0,ah 0,ah 0,ah 0] ag) rfl ?_;refine bG ?_;refine ve [2,3,4,5] ?_;refine bA ?_;refine aD 62 4 none ?_;refine nv rfl rfl ag aV gA rfl rfl rfl (.cons (.skip (.skip (.skip (.skip (.skip GQ)))))) ?_;rw[am3 iF qF zK];exact⟨none,0,rfl,rfl⟩
   ·refine bA ?_;refine cF (Ob g24 gn (.slice Ax (gU b).1.length cx) (ohO (gU b).1) (G1 (gU b).1) (CK (gU b).1)::K) ?_;refine ae 0 ?_;refine ae 1 ?_;refine ae 2 ?_;refine aW 3 rfl (bY 6 ag rfl aV (aR.cells (ohO (gU b).1)) rfl rfl) ?_;refine ae 4 ?_;refine ae 5 ?_;refine ae 6 ?_;refine ae 7 ?_;refine ae 8 ?_;refine az 9 ?_;refine aF ?_;refine ae 10 ?_;refine ae 11 ?_;refine ae 12 ?_;refine cQ [2,3,4,5] ?_;refine be ?_;refine nv rfl rfl ag aV gA rfl rfl rfl (.cons (.skip (.skip (.skip (.skip GQ))))) ?_;rw[am4 iF qF zK];exact⟨Ar,cr,rfl,rfl⟩
end
theorem aa2{P:Prop}(h:P:=by(rw[Km,ja,sP];rfl)):P:=h
abbrev Bo(g:Nat)(v0 v1 v2 v3 v4 v5 v6 v7 v8 v9:Value):Ch:=.bE g 188 [v0,v1,v2,v3,v4,v5,v6,v7,v8,v9]
theorem JA{ns:bf}(hb:aK B w0 F 1 (.slice A ns.length c) ns.length (bx ns))(hl:ns.length≤1099511627776)(hs:ns.sum≤1000000000000000):
  a_ B w0 182 [br g] (Bo g (.slice A ns.length c) v1 v2 v3 v4 v5 v6 v7 v8 v9::F) (fun r L=>r=ah (ns.sum:Nat)∧L=Bo g (.slice A ns.length c) v1 v2 v3 v4 v5 v6 v7 v8 v9::F):=by
 refine fw func182 11 [0] ?_;refine GD ?_;refine ai rfl (Dg (ns:=ns) hb.cons hl hs) ?_;refine bG ?_;exact⟨rfl,rfl⟩
theorem I_:∀{ss:bf} {r:al} {k:Nat},k<ss.length→rD (ss.take (k+1)) r=rD (ss.take k) r++[(r.drop (ss.take k).sum).take (ss.getD k 0)]
 |[],_,_,h=>by simp at h
 |n::ss,r,0,_=>by simp[rD]
 |n::ss,r,k+1,h=>by
  have ih:=I_ (ss:=ss) (r:=r.drop n) (k:=k) ny;rw[rh,rD,ih,rh,rD,IE,qh];rfl
theorem uJ:∀(ss:bf) (r:al),(rD ss r).length=ss.length
 |[],_=>rfl
 |n::ss,r=>by rw[rD,ef,uJ ss,ef]
theorem Up{l:al}{n:Nat}{xs:cV}(e1:n=l.length)(e2:xs=bv l)(hb:aK B w0 F 1 (.slice A n c) n xs)(hn:l.length≤1099511627776):
  a_ B w0 36 [.slice A n c] F (fun r L=>∃A' c',r= .slice A' l.length c'∧L= .own 5 1 A' l.length c' (bv l)::F):=by
 subst e1;subst e2;exact me l hb hn
def SpA(ss:bf)(cc:Nat)(r:al)(B:Nat)(w0:World)(F:aQ)(b:Value→Ch)(v:Value)(L:aQ):Prop:=
 ∃(Af:bj) (cf:Nat) (Ac:bj) (c1:Nat) (Ai:bj) (c2:Nat) (FB:List kS),v= .tuple #[.slice Ac cc c1,.slice Ai (r.length-ss.sum-cc) c2]∧L=b (.slice Af ss.length cf):: .own 27 1 Af ss.length cf (FB.map dq)::(FB.map fq++F)∧FB.map (·.2.2)=rD ss r∧
  aK B w0 F 1 (.slice Ac cc c1) cc (bv ((r.drop ss.sum).take cc))∧aK B w0 F 1 (.slice Ai (r.length-ss.sum-cc) c2) (r.length-ss.sum-cc) (bv ((r.drop ss.sum).drop cc))
theorem Mo{ss:bf}{cc:Nat}{r:al}(hb:eM B w0 F A c r)(hcr:r.length≤c)(hs:aK B w0 F 1 (.slice A2 ss.length c2) ss.length (bx ss))(nS:ss.length≤20000)(wT:ss.sum+cc≤r.length)(hrl:r.length≤1099511627776):
  a_ B w0 180 [br g,.slice A r.length c] (Bo g v0 (.slice A2 ss.length c2) (ah cc) v3 v4 v5 v6 v7 (.slice none 0 0) v9::F)
   (SpA ss cc r B w0 F fun v=>Bo g v0 (.slice A2 ss.length c2) (ah cc) v3 v4 v5 v6 v7 v v9):=by
 refine fw func180 49 [0,1] ?_;refine bI ?_;refine aZ 27 1 none ?_;refine cZ ?_;refine aE (fun zf zL zm=>∃(k:Nat) (R:al) (Ar:bj) (cr:Nat) (FB:List kS) (Af:bj) (cf:Nat),(k≤ss.length∧R=r.drop (ss.take k).sum∧R.length≤cr∧aK B w0 F 1 (.slice Ar R.length cr) R.length (bv R)∧FB.length=k∧FB.map (·.2.2)=rD (ss.take k) r)∧ss.length-k=zm∧Sub zf [(0,br g),(1,.slice Ar R.length cr),(12,.slice A2 ss.length c2),(13,ah ss.length),(14,ah k)]∧Wk zL (.own 27 1 Af FB.length cf (FB.map dq)::Bo g v0 (.slice A2 ss.length c2) (ah cc) v3 v4 v5 v6 v7 (.slice Af FB.length cf) v9::(FB.map fq++F))) _ ⟨0,r,A,c,[],none,0,⟨bS _,ak,hcr,hb,rfl,by simp[rD]⟩,rfl,bp,.refl _⟩ ?_;rintro _ _ _ ⟨k,R,Ar,cr,FB,Af,cf,⟨hk,hR,hRc,Vd,Rg,sP⟩,rfl,hs,hp⟩;refine aU hs hp ?_;clear hs hp;refine bz ?_;refine aj (fun kL=>?_) fun kL=>?_
 ·obtain⟨n,hn⟩:=cK (ss.getD k 0);have sQ:(ss.take (k+1)).sum=(ss.take k).sum+n:=by rw[ba aa 0,wi,←hn];simp
  have hts:=nQ ss (k+1);have Ve:R.length=r.length-(ss.take k).sum:=by rw[hR,iG]
  have Km:=I_ (ss:=ss) (r:=r) (k:=k) aa;rw[←hR,←hn]at Km;have wP:=Vd.iY (k:=n) aa;have hct:=Vd.cut (k:=n) aa;have e1:(bv R).take (n*1)=bv (R.take n):=by rw[cE];simp[bv,pt]
  have e2:(bv R).drop (n*1)=bv (R.drop n):=by rw[cE];simp[bv,yh]
  have e3:n=(R.take n).length:=by rw[eS];omega
  have e4:R.length-n=(R.drop n).length:=by rw[iG]
  rw[e1]at wP;rw[e2,e4]at hct;have hhF:aK B w0 (FB.map fq++F) 1 (.slice Ar n cr) n (bv (R.take n)):=wP.mono (gx _ _);have hsF:aK B w0 (FB.map fq++F) 1 (.slice A2 ss.length c2) ss.length (bx ss):=hs.mono (gx _ _);refine bK ?_;refine ab (au ag rfl hsF.cons.cons aa (gb (v:=n) aa hn.symm)) rfl ?_;refine b8 ?_;refine cF (FB.map fq++F) ?_;refine ae 0 ?_;refine ae 1 ?_;refine ae 2 ?_;refine ae 3 ?_;refine ae 5 ?_;refine ae 6 ?_;refine aW 7 rfl (bN (i:=n) (size:=1) underlying27 ag rfl rfl rfl aa) ?_;refine gS 4 8 ?_ ?_
  ·refine aF ?_;refine az 8 ?_;refine b7 rfl rfl (Up (l:=R.take n) e3 rfl hhF.cons.cons aa) fun tc Bn=>?_;refine az 9 ?_;refine cR rfl (aG fE [_] rfl rfl cw aa aa) fun Hc=>?_;refine az 10 ?_;refine eV rfl (bT fE rfl aV rfl aA cw aa aa) fun Bh Bp=>?_;refine ae 11 ?_;refine ae 12 ?_;refine az 13 ?_;refine bz ?_;refine ab (bQ (size:=1) underlying27 ag rfl rfl rfl aa) rfl ?_;refine aF ?_;refine ve [0,1,12,13,14] ?_;refine bz ?_;refine av ⟨_,aa,k+1,R.drop n,(if cr=n then Ar else Ar.map (·.add (n*1))),cr-n,FB++[((tc,Bn,R.take n):kS)],Bh,Bp,⟨aa,by rw[sQ,hR,qh],aa,hct,by simp[Rg],aa2⟩,rfl,bp,.trans ((gk (gk (gk (.skip (.refl _)))))) (.trans (qv (e:=((tc,Bn,R.take n):kS)) [.own 27 1 Bh (FB.length+1) Bp (FB.map dq++[dq ((tc,Bn,R.take n):kS)]),Bo g v0 (.slice A2 ss.length c2) (ah cc) v3 v4 v5 v6 v7 (.slice Bh (FB.length+1) Bp) v9]) (ax ak ak (bq ak (.refl _))))⟩
  ·refine b7 rfl rfl (Up (l:=R.take n) e3 rfl hhF.cons.cons aa) fun tc Bn=>?_;refine gS 4 9 ?_ ?_
   ·refine aF ?_;refine az 9 ?_;refine cR rfl (aG fE [_] rfl rfl cw aa aa) fun Hc=>?_;refine az 10 ?_;refine eV rfl (bT fE rfl aV rfl aA cw aa aa) fun Bh Bp=>?_;refine ae 11 ?_;refine ae 12 ?_;refine az 13 ?_;refine bz ?_;refine ab (bQ (size:=1) underlying27 ag rfl rfl rfl aa) rfl ?_;refine aF ?_;refine ve [0,1,12,13,14] ?_;refine bz ?_;refine av ⟨_,aa,k+1,R.drop n,(if cr=n then Ar else Ar.map (·.add (n*1))),cr-n,FB++[((tc,Bn,R.take n):kS)],Bh,Bp,⟨aa,by rw[sQ,hR,qh],aa,hct,by simp[Rg],aa2⟩,rfl,bp,.trans ((gk (gk (gk (.skip (.refl _)))))) (.trans (qv (e:=((tc,Bn,R.take n):kS)) [.own 27 1 Bh (FB.length+1) Bp (FB.map dq++[dq ((tc,Bn,R.take n):kS)]),Bo g v0 (.slice A2 ss.length c2) (ah cc) v3 v4 v5 v6 v7 (.slice Bh (FB.length+1) Bp) v9]) (ax ak ak (bq ak (.refl _))))⟩
   ·refine cR rfl (aG fE [_] rfl rfl cw aa aa) fun Hc=>?_;refine az 4 ?_;refine aF ?_;refine az 10 ?_;refine eV rfl (bT fE rfl aV rfl aA cw aa aa) fun Bh Bp=>?_;refine ae 11 ?_;refine ae 12 ?_;refine az 13 ?_;refine bz ?_;refine ab (bQ (size:=1) underlying27 ag rfl rfl rfl aa) rfl ?_;refine aF ?_;refine ve [0,1,12,13,14] ?_;refine bz ?_;refine av ⟨_,aa,k+1,R.drop n,(if cr=n then Ar else Ar.map (·.add (n*1))),cr-n,FB++[((tc,Bn,R.take n):kS)],Bh,Bp,⟨aa,by rw[sQ,hR,qh],aa,hct,by simp[Rg],aa2⟩,rfl,bp,.trans ((gk (gk (gk (.skip (.refl _)))))) (.trans (qv (e:=((tc,Bn,R.take n):kS)) [.own 27 1 Bh (FB.length+1) Bp (FB.map dq++[dq ((tc,Bn,R.take n):kS)]),Bo g v0 (.slice A2 ss.length c2) (ah cc) v3 v4 v5 v6 v7 (.slice Bh (FB.length+1) Bp) v9]) (ax ak ak (bq ak (.refl _))))⟩
 ·obtain rfl:k=ss.length:=by omega
  rw[jS]at hR sP;have Ve:R.length=r.length-ss.sum:=by rw[hR,iG]
  have wP:=Vd.iY (k:=cc) aa;have hct:=Vd.cut (k:=cc) aa;have e1:(bv R).take (cc*1)=bv ((r.drop ss.sum).take cc):=by rw[cE,hR];simp[bv,pt]
  have e2:(bv R).drop (cc*1)=bv ((r.drop ss.sum).drop cc):=by rw[cE,hR];simp[bv,yh]
  rw[e1]at wP;rw[e2,Ve]at hct;refine dc ?_;refine bZ (bN (i:=cc) (size:=1) underlying27 ag rfl rfl rfl aa) rfl ?_;refine bz ?_;refine bZ (bQ (i:=cc) (size:=1) underlying27 ag rfl rfl rfl aa) rfl ?_;refine be ?_;refine nj [(4,_),(5,_)] ⟨rfl,rfl,trivial⟩ ?_;refine be ?_;refine aq (L':=Bo g v0 (.slice A2 ss.length c2) (ah cc) v3 v4 v5 v6 v7 (.slice Af ss.length cf) v9:: .own 27 1 Af ss.length cf (FB.map dq)::(FB.map fq++F)) (.trans ((gk (ed (.refl _)))) (bq (by rw[Rg]) (ax (by rw[Rg]) rfl (.refl _)))) ?_;refine aF ?_;refine⟨Af,cf,Ar,cr,_,_,FB,?_,rfl,sP,wP,hct⟩;rw[Ve]
theorem aj1{n:Nat}{ch:al}(h:(aJ ch).2≠0):xJ n ch=(aJ ch).2:=by unfold xJ;rw[ao h]
theorem aj2{n:Nat}{ch:al}(h:¬(aJ ch).2≠0)(h2:(n_ n (aJ ch).1).2.2.2≠0):xJ n ch=(n_ n (aJ ch).1).2.2.2:=by unfold xJ;rw[aw h,ao h2]
theorem aj3{n:Nat}{ch:al}(h:¬(aJ ch).2≠0)(h2:¬(n_ n (aJ ch).1).2.2.2≠0)(h3:(n_ n (aJ ch).1).2.2.1<(aJ ch).1.length):xJ n ch=2:=by unfold xJ;rw[aw h,aw h2,ao h3]
theorem aj4{n:Nat}{ch:al}(h:¬(aJ ch).2≠0)(h2:¬(n_ n (aJ ch).1).2.2.2≠0)(h3:¬(n_ n (aJ ch).1).2.2.1<(aJ ch).1.length):xJ n ch=0:=by unfold xJ;rw[aw h,aw h2,aw h3]
def ClA(n:Nat)(ch:al)(F:aQ)(b:Value→Value→Ch)(v4 v5:Value)(v:Value)(L:aQ):Prop:=
 v=ah (xJ n ch)∧((xJ n ch≠0∧L=b v4 v5::F)∨(xJ n ch=0∧∃(A1:bj) (c1:Nat) (A2:bj) (c2:Nat),L=b (.slice A1 (n_ n (aJ ch).1).1.length c1) (.slice A2 (n_ n (aJ ch).1).2.1.length c2):: .own 60 1 A1 (n_ n (aJ ch).1).1.length c1 (p9 (n_ n (aJ ch).1).1):: .own 5 1 A2 (n_ n (aJ ch).1).2.1.length c2 (bv (n_ n (aJ ch).1).2.1)::F))
theorem HQ(HT:bL B w0){ch:al}{k:Nat}(hb:eM B w0 F A c ch)(hl:ch.length≤1000000000)(hk:k≤1000000000):
  a_ B w0 181 [.pointer (some ⟨g,4,none⟩),ah k,.slice A ch.length c] (Bo g v0 v1 v2 v3 v4 v5 v6 v7 v8 v9::F) (ClA k ch F (fun x y=>Bo g v0 v1 v2 v3 x y v6 v7 v8 v9) v4 v5):=by
 have tB:=o_ ch;refine fw func181 43 [0,1,2] ?_;refine bI ?_;refine ay rfl (wF HT hb.cons aa) fun A14 c14=>?_;refine dQ ?_;refine aj (fun jj=>?_) fun jj=>?_
 ·refine bI ?_;refine aq (.skip (.refl _)) ?_;refine aF ?_;exact⟨by rw[aj1 jj],.inl ⟨by rw[aj1 jj];exact jj,rfl⟩⟩
 ·refine bz ?_;refine aX api rfl (SI ((k:Nat):Int) (l:=(aJ ch).1) aA aa aa aa) rfl ?_;rintro _ _ ⟨Bg,Di,Ha,Lu,rfl,cA⟩;obtain rfl:=cA.symm;refine bO ?_;refine ve [0,7,8,9,10,11] ?_;refine bI ?_;refine aj (fun r'=>?_) fun r'=>?_
  ·refine bI ?_;refine aq ((tF (.skip (.skip (.skip (.refl _)))))) ?_;refine aF ?_;exact⟨by rw[aj2 jj r'],.inl ⟨by rw[aj2 jj r'];exact r',rfl⟩⟩
  ·refine cZ ?_;refine aj (fun GF=>?_) fun GF=>?_
   ·refine bK ?_;refine aq ((tF (.skip (.skip (.skip (.refl _)))))) ?_;refine aF ?_;exact⟨by rw[aj3 jj r' aa],.inl ⟨by rw[aj3 jj r' aa];decide,rfl⟩⟩
   ·refine dQ ?_;refine ve [] ?_;refine bK ?_;refine aq ((tF (ed (ed (.skip (.refl _)))))) ?_;refine aF ?_;exact⟨by rw[aj4 jj r' aa],.inr ⟨aj4 jj r' aa,Bg,Di,Ha,Lu,rfl⟩⟩
theorem dL.La{P:Program}{B:Nat}{w0:World}{f:FuncId}{args:cV}{L:aQ}{R R2:qP}(h:dL P B w0 f args L R)(hr:∀v M,R v M→∃M2,Wk M M2∧R2 v M2):dL P B w0 f args L R2:=fun w hw=>(h w hw).mono fun e w' ⟨v,M,he,hR,hs⟩=>by
 obtain⟨M2,hk,Ys⟩:=hr v M hR;exact⟨v,M2,he,Ys,hk.sl hs⟩
theorem dL.at_mem{P:Program}{f:FuncId}{args:cV}{v:Value}{x:Ch}{L:aQ}(hm:x∈L)(h:∀M,dL P B w0 f args (x::M) (fun r K=>r=v∧K=x::M)):dL P B w0 f args L (fun r K=>r=v∧K=L):=by
 obtain⟨s,t,rfl⟩:=List.append_of_mem hm;have hp:(s++x::t).Perm (x::(s++t)):=ym;exact((h (s++t)).perm hp).La fun v M ⟨h1,h2⟩=>⟨_,.dE (by rw[h2];exact hp.symm),h1,rfl⟩
end Go.Proofs.YtaodmbolhoafcaaGreatDoor

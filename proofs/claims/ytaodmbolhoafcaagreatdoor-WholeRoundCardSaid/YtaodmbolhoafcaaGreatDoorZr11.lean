/-
  Texts of one proof, joined: part 11. No condition.
-/
import Derived.Test.YtaodmbolhoafcaaGreatDoorZr10
open Go.RowKit Go.Proofs.Tryz
namespace Go.Proofs.YtaodmbolhoafcaaGreatDoor
set_option linter.unusedVariables false
set_option linter.unusedSimpArgs false
set_option maxRecDepth 20000
variable{B:Nat}{w0:World}{F L0:aR}{A A1 A2 Ao:bj}{n c c1 c2 co g gc:Nat}{s:Cs}{X:cV}{bt:TypeId}{bound size:Int}{v0 v1 v2 v3 v4 v5 v6 v7 v8 v9:Value}
theorem kj{L:List aH}(hc:cO L=0)(hx:∀x∈L,x.1<18446744073709551616):L.length≤20000∧(∀x∈L,x.fits)∧dF L≤1048576:=by
 unfold cO at hc;have:¬(20000<L.length∨(∃x∈L,uj x)∨1048576<dF L):=fun h=>by rw[aq h]at hc;simp at hc
 refine⟨aa,fun x h=>⟨hx x h,?_,?_⟩,aa⟩
 ·exact yh fun k=>this (.inr (.inl ⟨x,h,.inl k⟩))
 ·exact yh fun k=>this (.inr (.inl ⟨x,h,.inr k⟩))
theorem w4{v:Int}{o:aO}(hv:v=1∨v=2∨v=3)(h:cm v o=0):ji v o:=by
 unfold cm at h;rw[aq hv]at h;exact bF fun k=>by rw[aw k]at h;simp at h
structure Left(S:Nat)(b pl:Bool)(full acc:al)(L R:List aH)(ns:bc):Prop where
 all:acc++(jy b pl ns R).flatten=full
 fit:CU S (lens b R) ns
 sub:∀x∈R,x∈L
 w:dF R≤dF L
theorem Left.step{S:Nat}{b pl:Bool}{full acc:al}{L R:List aH}{n:Nat}{ns:bc}(h:Left S b pl full acc L R (n::ns))(hS:S≤32768)(hL:∀x∈L,x.fits):
  1≤n∧n≤R.length∧(dc b (R.take n)).length≤32768∧Left S b pl full (acc++(jF (dc b (R.take n)) pl).1) L (R.drop n) ns:=by
 obtain⟨f1,f2,f3,f4,f5⟩:=h.fit;rw[et]at f2;refine⟨f1,f2,oL hS (fun x hx=>hL x (h.sub x hx)) f1 f3,⟨?_,agF,fun x hx=>h.sub x (rl hx),jf (Jq R n) h.w⟩⟩;rw[←h.all,bV];rfl
theorem C7{b:al}{pl:Bool}(h:b.length≤32768):(jF b pl).1.length≤33000∧(jF b pl).2=0:=by
 have hy:=xD b pl;have e1:=aT (x:=b.length) aa;have e2:=aT (x:=(ki b pl).2.length) aa;rw[JD aa];refine⟨?_,rfl⟩;rw[du,aX];unfold xC;rw[eh,aX];omega
abbrev LV(R:al×Int)(F:aR)(r:Value)(L:aR):Prop:=∃A' c',r= .tuple #[.slice A' R.1.length c',ah R.2]∧L= .own 5 1 A' R.1.length c' (bv R.1)::F
theorem Zv{o:aO}{L:List aH}(h:cm 1 o≠0):a_ B w0 26 [.agg (aO.cells o).toArray,.slice A L.length c] F (LV (tp o L) F):=by
 have e:tp o L=([],cm 1 o):=by unfold tp;rw[aq h]
 rw[e];obtain⟨bl,pl,bu,da,pa,ch⟩:=o;refine cB func26 80 rfl rfl rfl [(0,.agg #[ah bl,.bool pl,ah bu,ah da,ah pa,ah ch]),(1,.slice A L.length c)] ⟨⟨rfl,rfl⟩,⟨rfl,rfl⟩,trivial⟩ ?_;refine be ?_;refine bf fun g2=>?_;refine bM ?_;refine ai rfl (kC 1 (bl,pl,bu,da,pa,ch)) ?_;refine bP ?_;refine aj (fun iU=>?_) fun iU=>?_
 ·refine bP ?_;refine ao (.skip (.refl _)) (aC 5 1 none ?_);refine aE ?_;exact⟨none,0,rfl,rfl⟩
 ·exfalso;exact iU h
theorem Zw{o:aO}{L:List aH}(h:¬cm 1 o≠0)(hc:cO L≠0)(hb:aL B w0 F 4 (.slice A L.length c) L.length (cU L)):a_ B w0 26 [.agg (aO.cells o).toArray,.slice A L.length c] F (LV (tp o L) F):=by
 have e:tp o L=([],cO L):=by unfold tp;rw[aw h,aq hc]
 rw[e];obtain⟨bl,pl,bu,da,pa,ch⟩:=o;refine cB func26 80 rfl rfl rfl [(0,.agg #[ah bl,.bool pl,ah bu,ah da,ah pa,ah ch]),(1,.slice A L.length c)] ⟨⟨rfl,rfl⟩,⟨rfl,rfl⟩,trivial⟩ ?_;refine be ?_;refine bf fun g2=>?_;refine bM ?_;refine ai rfl (kC 1 (bl,pl,bu,da,pa,ch)) ?_;refine bP ?_;refine aj (fun iU=>?_) fun iU=>?_
 ·exfalso;exact h iU
 ·refine bB ?_;refine ai rfl (oS L hb.cons) ?_;refine bP ?_;refine aj (fun oO=>?_) fun oO=>?_
  ·refine bP ?_;refine ao (.skip (.refl _)) (aC 5 1 none ?_);refine aE ?_;exact⟨none,0,rfl,rfl⟩
  ·exfalso;exact oO hc
theorem Nw{S:Nat}{b:Bool}{L:List aH}{gs:bc}(he:jA S (lens b L)=gs)(hb:aL B w0 F 4 (.slice A L.length c) L.length (cU L))(hx:∀x∈L,x.1<18446744073709551616)(hw:dF L≤1000000000)(hS:1≤S)(hS2:S≤9223372036854775807):
  a_ B w0 43 [ah (S:Int),.bool b,.slice A L.length c] F (fun r K=>∃A' c',r= .slice A' gs.length c'∧K= .own 3 1 A' gs.length c' (bx gs)::F):=by
 have:=acp (B:=B) (w0:=w0) (F:=F) (S:Int) b L hb hx hw S aa hS2;rw[he]at this;exact this
theorem aiR(b:Bool){R:List aH}{k:Nat}(hk:k≤R.length)(hb:aL B w0 F 4 (.slice A R.length c) R.length (cU R))(hx:∀x∈R,x.1<18446744073709551616)(hw:dF R≤1048576):
  a_ B w0 45 [.bool b,.slice A k c] F (fun r K=>∃A' c',r= .slice A' (dc b (R.take k)).length c'∧K= .own 5 1 A' (dc b (R.take k)).length c' (bv (dc b (R.take k)))::F):=by
 have h:=hb.js hk;rw[AU]at h;have hl:k=(R.take k).length:=by rw[eV];omega
 have hd:=I4 (B:=B) (w0:=w0) (F:=F) (A:=A) (c:=c) b (R.take k) (by rw[←hl];exact h) (fun x hxx=>hx x (lW hxx)) (by have:=np R k;omega);rw[←hl]at hd;exact hd
theorem amO{v:Int}{l:al}(h:qo v=(l,0)):a_ B w0 62 [ah v] F (fun r L=>∃A' c',r= .tuple #[.slice A' l.length c',ah 0]∧L= .own 5 1 A' l.length c' (bv l)::F):=by
 have:=Sq (B:=B) (w0:=w0) (F:=F) v;rw[h]at this;exact this
theorem aid{v:Int}(h:F7 v 1 3):qo v=(dY++[UInt8.ofNat v.toNat],0):=by unfold qo;rw[aq h]
theorem Zx(HT:bK B w0){o:aO}{L:List aH}(h:¬cm 1 o≠0)(hc:¬cO L≠0)(hx:∀x∈L,x.1<18446744073709551616)(hb:aL B w0 F 4 (.slice A L.length c) L.length (cU L)):a_ B w0 26 [.agg (aO.cells o).toArray,.slice A L.length c] F (LV (tp o L) F):=by
 have e:tp o L=(qK o L,0):=by unfold tp;rw[aw h,aw hc]
 obtain⟨tA,rN,LG⟩:=kj (bF hc) hx;have hom:=w4 (.inl rfl) (bF h);obtain⟨⟨m1,m2⟩,_⟩:=hom;have GU:(dR o true L).length≤L.length:=by unfold dR;have:=mU o.1.toNat (lens true L);rwa [et]at this
 have NI:Left o.1.toNat true o.2.1 (tk o L++(jy true o.2.1 (dR o true L) L).flatten) (tk o L) L L (dR o true L):=⟨rfl,kr _ _,fun x hx=>hx,gj _⟩
 rw[e];refine dP.zk hb fun oA _=>?_;obtain⟨bl,pl,bu,da,pa,ch⟩:=o;simp only at m1 m2 NI;obtain⟨S,rfl⟩:=gM (show 0≤bl by omega);rw[nC]at NI;obtain⟨gs,Qg⟩:=cR (dR ((S:Int),pl,bu,da,pa,ch) true L);have ahK:jA S (lens true L)=gs:=by rw[Qg];rfl
 have hH:tk ((S:Int),pl,bu,da,pa,ch) L=(dY++[1])++(aS S++([fL pl]++(aS L.length++aS gs.length))):=by rw[Qg];rfl
 rw[←Qg]at NI GU;have hn1:=aT (x:=S) aa;have tW:=aT (x:=L.length) aa;have hn3:=aT (x:=gs.length) aa;have Vm:(tk ((S:Int),pl,bu,da,pa,ch) L).length≤60:=by rw[hH];simp only[aX,dY,eh,sb];omega
 obtain⟨full,NB⟩:=cR (tk ((S:Int),pl,bu,da,pa,ch) L++(jy true pl gs L).flatten);have hB:qK ((S:Int),pl,bu,da,pa,ch) L=cY full:=by rw[NB,Qg];rfl
 rw[hB];rw[←NB]at NI;refine cB func26 80 rfl rfl rfl [(0,.agg #[ah (S:Int),.bool pl,ah bu,ah da,ah pa,ah ch]),(1,.slice A L.length c)] ⟨⟨rfl,rfl⟩,⟨rfl,rfl⟩,trivial⟩ ?_;refine be ?_;refine bf fun g2=>?_;refine bM ?_;refine ai rfl (kC 1 ((S:Int),pl,bu,da,pa,ch)) ?_;refine bP ?_;refine aj (fun iU=>?_) fun iU=>?_
 ·exfalso;exact h iU
 ·refine bB ?_;refine ai rfl (oS L hb.cons) ?_;refine bP ?_;refine aj (fun oO=>?_) fun oO=>?_
  ·exfalso;exact hc oO
  ·refine bD ?_;refine ay rfl (Nw ahK hb.cons hx aa aa aa) fun Bi Bq=>?_;refine aE ?_;refine ve [1,2,8] ?_;refine bH ?_;refine ay rfl (amO (l:=dY++[1]) (aid C1)) fun Qp c30=>?_;refine bD ?_;refine d_ (fun zf zL=>∃(A9:bj) (c9:Nat),Sub zf [(1,.slice A L.length c),(2,bq g2),(8,.slice Bi gs.length Bq),(9,.slice A9 (tk ((S:Int),pl,bu,da,pa,ch) L).length c9)]∧Wk zL (.own 5 1 A9 (tk ((S:Int),pl,bu,da,pa,ch) L).length c9 (bv (tk ((S:Int),pl,bu,da,pa,ch) L)):: .own 3 1 Bi gs.length Bq (bx gs):: .bE g2 23 [ah (S:Int),.bool pl,ah bu,ah da,ah pa,ah ch]::F)) ?_ ?_
   ·refine cC (.own 5 1 Qp (dY++[1]:al).length c30 (bv (dY++[1])):: .own 3 1 Bi gs.length Bq (bx gs):: .bE g2 23 [ah (S:Int),.bool pl,ah bu,ah da,ah pa,ah ch]::F) ?_;refine ab 0 ?_;refine ab 1 ?_;refine ab 2 ?_;refine aW 3 rfl (bw underlying3 underlying60 rfl (r:=(S:Int)) (ga aa aa)) ?_;refine ab 5 ?_;refine ab 6 ?_;refine ab 9 ?_;refine ab 10 ?_;refine aW 11 rfl (bw underlying3 underlying60 rfl (r:=(L.length:Int)) (ga aa aa)) ?_;refine ab 13 ?_;refine ab 14 ?_;refine aW 15 rfl (bw underlying3 underlying60 rfl (r:=(gs.length:Int)) (ga aa aa)) ?_;refine az 4 ?_;refine b7 rfl rfl (iP S aa) fun A37 c37=>?_;refine az 7 ?_;refine iZ rfl rfl (alN pl) ?_;refine gU 8 12 ?_ ?_
    ·refine cQ rfl (aF cN [_] rfl rfl cA aa aa) fun T5=>?_;refine az 12 ?_;refine b7 rfl rfl (iP L.length aa) fun A45 c45=>?_;refine az 16 ?_;refine b7 rfl rfl (iP gs.length aa) fun A49 c49=>?_;refine az 17 ?_;refine cQ rfl (aF fH [_,_,_,_,_] rfl rfl cA aa aa) fun BZ=>?_;refine az 18 ?_;refine b7 rfl rfl (Jw (l1:=dY++[1]) (l2:=aS S) (l3:=[fL pl]) (l4:=aS L.length) (l5:=aS gs.length) aB aB aB aB aB aB hH aa) fun A51 c51=>?_;refine ab 19 ?_;refine cP [1,2,8,9] ?_;exact bC ⟨A51,c51,bm,(ef (wu6 (wu6 (.skip (.skip (.skip (.skip (.skip (.skip (.refl _))))))))))⟩
    ·refine b7 rfl rfl (iP L.length aa) fun A45 c45=>?_;refine gU 8 16 ?_ ?_
     ·refine cQ rfl (aF cN [_] rfl rfl cA aa aa) fun T5=>?_;refine az 16 ?_;refine b7 rfl rfl (iP gs.length aa) fun A49 c49=>?_;refine az 17 ?_;refine cQ rfl (aF fH [_,_,_,_,_] rfl rfl cA aa aa) fun BZ=>?_;refine az 18 ?_;refine b7 rfl rfl (Jw (l1:=dY++[1]) (l2:=aS S) (l3:=[fL pl]) (l4:=aS L.length) (l5:=aS gs.length) aB aB aB aB aB aB hH aa) fun A51 c51=>?_;refine ab 19 ?_;refine cP [1,2,8,9] ?_;exact bC ⟨A51,c51,bm,(ef (wu6 (wu6 (.skip (.skip (.skip (.skip (.skip (.skip (.refl _))))))))))⟩
     ·refine b7 rfl rfl (iP gs.length aa) fun A49 c49=>?_;refine az 8 ?_;refine cQ rfl (aF cN [_] rfl rfl cA aa aa) fun T5=>?_;refine az 17 ?_;refine cQ rfl (aF fH [_,_,_,_,_] rfl rfl cA aa aa) fun BZ=>?_;refine az 18 ?_;refine b7 rfl rfl (Jw (l1:=dY++[1]) (l2:=aS S) (l3:=[fL pl]) (l4:=aS L.length) (l5:=aS gs.length) aB aB aB aB aB aB hH aa) fun A51 c51=>?_;refine ab 19 ?_;refine cP [1,2,8,9] ?_;exact bC ⟨A51,c51,bm,(ef (wu6 (wu6 (.skip (.skip (.skip (.skip (.skip (.skip (.refl _))))))))))⟩
   ·rintro _ _ ⟨A9,c9,hs,hp⟩;refine aU hs hp ?_;clear hs hp;refine bP ?_;refine aD (fun zf zL zm=>∃(k:Nat) (acc:al) (R:List aH) (Ar:bj) (cr:Nat) (A':bj) (c':Nat),(k≤gs.length∧Left S true pl full acc L R (gs.drop k)∧R.length≤cr∧aL B w0 F 4 (.slice Ar R.length cr) R.length (cU R)∧acc.length≤60+33000*k)∧gs.length-k=zm∧Sub zf [(1,.slice Ar R.length cr),(2,bq g2),(9,.slice A' acc.length c'),(52,.slice Bi gs.length Bq),(53,ah gs.length),(54,ah k)]∧Wk zL (.own 5 1 A' acc.length c' (bv acc):: .own 3 1 Bi gs.length Bq (bx gs):: .bE g2 23 [ah (S:Int),.bool pl,ah bu,ah da,ah pa,ah ch]::F)) _ ⟨0,tk ((S:Int),pl,bu,da,pa,ch) L,L,A,c,A9,c9,⟨bS _,NI,oA,hb,aa⟩,rfl,bm,.refl _⟩ ?_;rintro _ _ _ ⟨k,acc,R,Ar,cr,A',c',⟨hk,NI,RV,Cz,GP⟩,rfl,hs,hp⟩;refine aU hs hp ?_;clear hs hp;refine bB ?_;refine aj (fun Yq=>?_) fun Yq=>?_
    ·obtain⟨n,hn⟩:=cR (gs.getD k 0);have hgd:gs.drop k=n::gs.drop (k+1):=by rw[hn];exact dw aa 0
     rw[hgd]at NI;obtain⟨asD,ahN,aml,ame⟩:=NI.step aa rN;have hbw:=C7 (b:=dc true (R.take n)) (pl:=pl) aml;have hxR:∀x∈R,x.1<18446744073709551616:=fun x h=>hx x (NI.sub x h);have hwR:=NI.w;have hcut:=Cz.cut ahN;have hdl:(R.drop n).length=R.length-n:=iN;have wR:(acc++(jF (dc true (R.take n)) pl).1).length=acc.length+(jF (dc true (R.take n)) pl).1.length:=aX;rw[vi,←hdl]at hcut;refine bD ?_;refine ae (au ag rfl aB aa (gd (v:=n) aa hn.symm)) rfl ?_;refine b8 ?_;refine cC (.own 3 1 Bi gs.length Bq (bx gs):: .bE g2 23 [ah (S:Int),.bool pl,ah bu,ah da,ah pa,ah ch]::F) ?_;refine ab 0 ?_;refine ab 1 ?_;refine aW 2 rfl (bZ (i:=n) (size:=4) underlying24 ag rfl rfl rfl aa) ?_;refine ab 4 ?_;refine ab 5 ?_;refine az 3 ?_;refine b7 rfl rfl (aiR (R:=R) true ahN Cz.cons.cons.cons hxR aa) fun A62 c62=>?_;refine az 6 ?_;refine b7 rfl rfl (Mu HT (b:=dc true (R.take n)) (p:=pl) aB aa) fun A65 c65=>?_;refine ab 7 ?_;refine ab 8 ?_;refine ab 9 ?_;refine ab 10 ?_;refine ab 11 ?_;refine bP ?_;refine aj (fun h69=>?_) fun h69=>?_
     ·exfalso;exact h69 hbw.2
     ·refine bB ?_;refine gw (bW cN rfl aV rfl aB cA aa aa) fun A73 c73=>?_;refine aE ?_;refine ve [1,2,9,12,52,53,54] ?_;refine b8 ?_;refine ae (bT (i:=n) (size:=4) underlying24 ag rfl rfl rfl aa) rfl ?_;refine bM ?_;refine av ⟨_,aa,k+1,acc++(jF (dc true (R.take n)) pl).1,R.drop n,(if cr=n then Ar else Ar.map (·.add (n*4))),cr-n,A73,c73,⟨aa,ame,aa,hcut,aa⟩,rfl,bm,.trans ((rP (rP (rP (.skip (.skip (.refl _))))))) (ax ak Bm (.refl _))⟩
    ·obtain rfl:k=gs.length:=by omega
     have hr0:=NI.all;rw[BJ]at hr0;have u5:acc=full:=by rw[←hr0];simp[jy]
     subst u5;refine bM ?_;refine ay rfl (qC HT (l:=acc) aB aa) fun A79 c79=>?_;refine bI ?_;refine ao (.cons (.skip (.skip (.skip (.refl _))))) ?_;refine aE ?_;exact⟨A79,c79,rfl,rfl⟩
theorem Zy(HT:bK B w0){o:aO}{L:List aH}(hx:∀x∈L,x.1<18446744073709551616)(hb:aL B w0 F 4 (.slice A L.length c) L.length (cU L)):a_ B w0 26 [.agg (aO.cells o).toArray,.slice A L.length c] F (LV (tp o L) F):=by
 by_cases h:cm 1 o≠0
 ·exact Zv h
 ·by_cases hc:cO L≠0
  ·exact Zw h hc hb
  ·exact Zx HT h hc hx hb
theorem nv(o:aO):a_ B w0 41 [.agg (aO.cells o).toArray] F (fun r L=>r=ah (cm 2 (o2 o))∧L=F):=by
 obtain⟨bl,pl,bu,da,pa,ch⟩:=o;refine cB func41 11 rfl rfl rfl [(0,.agg #[ah bl,.bool pl,ah bu,ah da,ah pa,ah ch])] ⟨⟨rfl,rfl⟩,trivial⟩ ?_;refine be ?_;refine bf fun g1=>?_;refine dm ?_;refine ae (br [(0,_),(1,_),(2,_)] [ah 0,.bool false,ah 0,ah 0,ah 0,ah 0] [0,1,2] [_,_,_,_,_,_] rfl rfl ag) rfl ?_;refine ai rfl (kC 2 (bl,pl,bu,0,0,0)) ?_;refine b8 ?_;refine ao (.skip (.refl _)) ?_;refine aE ?_;exact⟨rfl,rfl⟩
theorem nM(l:bc)(k:Nat):(l.take k).sum≤l.sum:=by
 conv=>rhs;rw[←jO k l,wj]
 omega
theorem C'{ns:bc}(hb:aL B w0 F 1 (.slice A ns.length c) ns.length (bx ns))(hl:ns.length≤1099511627776)(hs:ns.sum≤1000000000000000):
  a_ B w0 92 [.slice A ns.length c] F (fun r L=>r=ah (ns.sum:Nat)∧L=F):=by
 refine fw func92 17 [0] ?_;refine zM ?_;refine aD (fun zf zL zm=>∃(k:Nat),(k≤ns.length)∧ns.length-k=zm∧Sub zf [(3,ah ((ns.take k).sum:Nat)),(6,.slice A ns.length c),(7,ah ns.length),(8,ah k)]∧Wk zL (F)) _ ⟨0,bS _,rfl,bm,.refl _⟩ ?_;rintro _ _ _ ⟨k,hk,rfl,hs,hp⟩;refine aU hs hp ?_;clear hs hp;refine bB ?_;refine aj (fun h9=>?_) fun h9=>?_
 ·obtain⟨v,hv⟩:=cR (ns.getD k 0);have sN:(ns.take (k+1)).sum=(ns.take k).sum+v:=by rw[aZ aa 0,wj,←hv];simp
  have hle:=nM ns (k+1);refine bD ?_;refine ae (au ag rfl hb aa (gd (v:=v) aa hv.symm)) rfl ?_;refine bB ?_;refine ae (bY rfl rfl (r:=(((ns.take (k+1)).sum:Nat):Int)) ((bG aa aa).trans aa)) rfl ?_;refine bM ?_;refine av ⟨_,aa,k+1,aa,rfl,bm,.refl _⟩
 ·obtain rfl:k=ns.length:=by omega
  rw[jN];refine c_ ?_;exact⟨rfl,rfl⟩
abbrev Db(g:Nat)(A1:bj)(n1 c1:Nat)(A2:bj)(n2 c2:Nat)(c i:Nat):Ch:=.bE g 83 [.slice A1 n1 c1,.slice A2 n2 c2,ah c,ah i]
def uO(ns ss:bc)(k:Nat):al:=((ns.zip ss).take k).flatMap fun p=>aS p.1++aS p.2
theorem aaJ{ns ss:bc}(hl:ns.length=ss.length){k:Nat}(hk:k<ns.length):uO ns ss (k+1)=uO ns ss k++(aS (ns.getD k 0)++aS (ss.getD k 0)):=by
 unfold uO;rw[aZ (d:=(0,0)) bO,ud];simp[bk,fo hk,fo (show k<ss.length by omega),fo (show k<(ns.zip ss).length by simp;omega)]
theorem y_(ns ss:bc)(h1:∀n∈ns,n<18446744073709551616)(h2:∀n∈ss,n<18446744073709551616)(k:Nat):(uO ns ss k).length≤20*k:=by
 unfold uO;have:∀l:List (Nat×Nat),(∀p∈l,p.1<18446744073709551616∧p.2<18446744073709551616)→(l.flatMap fun p=>aS p.1++aS p.2).length≤20*l.length:=by
  intro l;induction l with
  |nil=>simp
  |cons p r ih=>
   intro h;have h3:=ih fun q hq=>h q (by simp[hq]);obtain⟨h4,h5⟩:=h p ak;have h6:=aT h4;have h7:=aT h5;rw[jM,aX,aX,eh];omega
 have h3:=this ((ns.zip ss).take k) fun p hp=>by
  have hp:=lW hp;exact⟨h1 _ (List.of_mem_zip hp).1,h2 _ (List.of_mem_zip hp).2⟩
 rw[eV]at h3;omega
theorem Q4{ns ss:bc}{cc ii:Nat}(hl:ns.length=ss.length)(qf:aL B w0 F 1 (.slice A1 ns.length c1) ns.length (bx ns))(oP:aL B w0 F 1 (.slice A2 ss.length c2) ss.length (bx ss))(hn:ns.length≤100000)(hs:ns.sum≤1000000000000000)(jK:∀x∈ss,x≤1000000000000000)(hc:cc≤1000000000000000)(hi:ii≤1000000000000000):
  a_ B w0 50 [bq g] (Db g A1 ns.length c1 A2 ss.length c2 cc ii::F) (Gp (xR ns ss cc ii) (Db g A1 ns.length c1 A2 ss.length c2 cc ii::F)):=by
 have hn1:=aT (x:=ns.sum) aa;have tW:=aT (x:=ns.length) aa;have hn3:=aT (x:=cc) aa;have hn4:=aT (x:=ii) aa;have hz:=y_ ns ss (fun n hn=>Xy) (fun n hn=>by have:=jK n hn;omega);refine fw func50 63 [0] ?_;refine bB ?_;refine cC (Db g A1 ns.length c1 A2 ss.length c2 cc ii::F) ?_;refine ab 0 ?_;refine ab 1 ?_;refine ab 2 ?_;refine ab 3 ?_;refine ab 7 ?_;refine ab 8 ?_;refine ab 9 ?_;refine ab 10 ?_;refine ab 11 ?_;refine aW 12 rfl (bw underlying3 underlying60 rfl (r:=((ns.length:Nat):Int)) (ga aa aa)) ?_;refine az 4 ?_;refine iZ rfl rfl (C' (ns:=ns) qf.cons aa hs) ?_;refine aW 5 rfl (bw underlying3 underlying60 rfl (r:=((ns.sum:Nat):Int)) (ga aa aa)) ?_;refine az 6 ?_;refine b7 rfl rfl (iP ns.sum aa) fun P5 c12=>?_;refine az 13 ?_;refine b7 rfl rfl (iP ns.length aa) fun Lr c19=>?_;refine az 14 ?_;refine cQ rfl (aF fH [_,_] rfl rfl cA aa aa) fun Ls=>?_;refine az 15 ?_;refine b7 rfl rfl (Qw (l1:=aS ns.sum) (l2:=aS ns.length) aB aB aB rfl tG) fun A21 c21=>?_;refine ab 16 ?_;refine cP [0,3] ?_;refine c_ ?_;refine aD (fun zf zL zm=>∃(k:Nat) (A':bj) (c':Nat) (acc:al),(k≤ns.length∧acc=aS ns.sum++aS ns.length++uO ns ss k)∧ns.length-k=zm∧Sub zf [(0,bq g),(3,.slice A' acc.length c'),(25,.slice A1 ns.length c1),(26,ah ns.length),(27,ah k)]∧Wk zL (.own 5 1 A' acc.length c' (bv acc)::Db g A1 ns.length c1 A2 ss.length c2 cc ii::F)) _ ⟨0,A21,c21,aS ns.sum++aS ns.length,⟨bS _,by simp[uO]⟩,rfl,bm,(ef (tD (.skip (.skip (.skip (.refl _))))))⟩ ?_;rintro _ _ _ ⟨k,A',c',acc,⟨hk,mz⟩,rfl,hs,hp⟩;refine aU hs hp ?_;clear hs hp;refine bB ?_;refine aj (fun q9=>?_) fun q9=>?_
 ·obtain⟨v,hv⟩:=cR (ns.getD k 0);obtain⟨u,hu⟩:=cR (ss.getD k 0);have hzs:=aaJ hl (k:=k) aa;have Kn:=hz k;have vD:=hz (k+1);have hvs:v≤ns.sum:=by rw[hv];exact pF (bh aa 0)
  have hus:u≤1000000000000000:=by rw[hu];exact jK _ (bh aa 0)
  have hn5:=aT (x:=v) aa;have hn6:=aT (x:=u) aa;rw[←hv,←hu]at hzs;have GP:acc.length=(aS ns.sum).length+(aS ns.length).length+(uO ns ss k).length:=by rw[mz];simp only[aX]
  refine bM ?_;refine ae (au ag rfl aB aa (gd (v:=v) aa hv.symm)) rfl ?_;refine b8 ?_;refine cC (.own 5 1 A' acc.length c' (bv acc)::Db g A1 ns.length c1 A2 ss.length c2 cc ii::F) ?_;refine ab 0 ?_;refine ab 1 ?_;refine aW 2 rfl (bw underlying3 underlying60 rfl (r:=((v:Nat):Int)) (ga aa aa)) ?_;refine ab 4 ?_;refine ab 5 ?_;refine ab 6 ?_;refine ab 7 ?_;refine ab 8 ?_;refine ab 9 ?_;refine aW 10 rfl (au ag rfl aB aa (gd (v:=u) aa hu.symm)) ?_;refine aW 11 rfl (bw underlying3 underlying60 rfl (r:=((u:Nat):Int)) (ga aa aa)) ?_;refine az 3 ?_;refine b7 rfl rfl (iP v aa) fun Lt c35=>?_;refine az 12 ?_;refine b7 rfl rfl (iP u aa) fun A44 c44=>?_;refine az 13 ?_;refine cQ rfl (aF fH [_,_,_] rfl rfl cA aa aa) fun A45=>?_;refine az 14 ?_;refine b7 rfl rfl (Jv (l1:=acc) (l2:=aS v) (l3:=aS u) aB aB aB aB rfl aa_) fun A46 c46=>?_;refine ab 15 ?_;refine cP [0,3,25,26,27] ?_;refine bB ?_;refine av ⟨_,aa,k+1,A46,c46,acc++(aS v++aS u),⟨aa,by rw[hzs,mz,bV]⟩,rfl,bm,(ef (wu4 (.skip (.skip (.skip (.skip (.refl _)))))))⟩
 ·obtain rfl:k=ns.length:=by omega
  have tV:uO ns ss ns.length=(ns.zip ss).flatMap fun p=>aS p.1++aS p.2:=by unfold uO;rw[fD bO]
  have Kn:=hz ns.length;have GP:acc.length=(aS ns.sum).length+(aS ns.length).length+(uO ns ss ns.length).length:=by rw[mz];simp only[aX]
  refine bB ?_;refine cC (.own 5 1 A' acc.length c' (bv acc)::Db g A1 ns.length c1 A2 ss.length c2 cc ii::F) ?_;refine ab 0 ?_;refine ab 1 ?_;refine ab 2 ?_;refine ab 3 ?_;refine ab 4 ?_;refine aW 5 rfl (bw underlying3 underlying60 rfl (r:=((cc:Nat):Int)) (ga aa aa)) ?_;refine ab 7 ?_;refine ab 8 ?_;refine ab 9 ?_;refine ab 10 ?_;refine aW 11 rfl (bw underlying3 underlying60 rfl (r:=((ii:Nat):Int)) (ga aa aa)) ?_;refine az 6 ?_;refine b7 rfl rfl (iP cc aa) fun A54 c54=>?_;refine az 12 ?_;refine b7 rfl rfl (iP ii aa) fun A60 c60=>?_;refine az 13 ?_;refine cQ rfl (aF fH [_,_,_] rfl rfl cA aa aa) fun A61=>?_;refine az 14 ?_;refine b7 rfl rfl (Jv (l1:=acc) (l2:=aS cc) (l3:=aS ii) aB aB aB aB rfl aa_) fun A62 c62=>?_;refine ab 15 ?_;refine cP [2] ?_;refine be ?_;refine ao ((ef (wu4 (.skip (.skip (.skip (.skip (.refl _)))))))) ?_;refine aE ?_;have e:xR ns ss cc ii=acc++(aS cc++aS ii):=by unfold xR;rw[mz,tV];simp only[bV]
  rw[e];exact⟨A62,c62,rfl,rfl⟩
theorem vS{P:Prop}(h:P:=by(rw[sN])):P:=h
theorem WA(x:Nat){k:Nat}(hk:k≤7):((x:Nat):Int).fdiv (2^min (((8*k:Nat):Int)).toNat IntKind.u64.bits)=((x/2^(8*k):Nat):Int):=by
 have e:min (((8*k:Nat):Int)).toNat IntKind.u64.bits=8*k:=by
  show min _ 64=_;omega
 rw[e,G',VD]
theorem y9(m:Nat):IntKind.u8.wrap ((m:Nat):Int)=((m%256:Nat):Int):=by
 show((m:Nat):Int)%256=_;omega
theorem No{x:Nat}(hx:x<4294967296):a_ B w0 51 [.int .u64 x,ah 4] F (fun r L=>∃A' c',r= .tuple #[.slice A' (fI x 4).length c',ah 0]∧L= .own 5 1 A' (fI x 4).length c' (bv (fI x 4))::F):=by
 have CB:((x:Nat):Int).fdiv (2^min ((32:Int)).toNat IntKind.u64.bits)=0:=by
  have:=WA x (k:=4) aa;rw[show((8*4:Nat):Int)=32 from rfl]at this;rw[this,show 8*4=32 from rfl];have:x/2^32=0:=BC aa;omega
 refine fw func51 42 [0,1] ?_;refine cD ?_;refine aI rfl rfl rfl (fun jB=>?_) (fun jB=>?_)
 ·refine bI ?_;refine aI rfl rfl rfl (fun jC=>?_) (fun jC=>?_)
  ·refine bI ?_;refine ct (fun iy=>?_) fun iy=>?_
   ·refine b8 ?_;refine ae (e_ rfl rfl (r:=32) rfl) rfl ?_;refine aE ?_;refine ae (di rfl rfl aa (r:=0) CB) rfl ?_;refine bI ?_;refine ve [0,1,24] ?_;refine aE ?_;refine aj (fun oh=>?_) fun oh=>?_
    ·exfalso;exact oh rfl
    ·refine bI ?_;refine cH (fc (nn:=4) (cc:=4) cN rfl rfl rfl rfl rfl aa aa aa) fun s_=>?_;refine cD ?_;refine aD (fun zf zL zm=>∃(k:Nat),(k≤4)∧4-k=zm∧Sub zf [(0,.int .u64 x),(6,.slice s_ 4 4),(28,ah 4),(29,ah k)]∧Wk zL (.own 5 1 s_ 4 4 (bv (fI x k)++List.replicate (4-k) (.int .u8 0))::F)) _ ⟨0,bS _,rfl,bm,.refl _⟩ ?_;rintro _ _ _ ⟨k,hk,rfl,hs,hp⟩;refine aU hs hp ?_;clear hs hp;refine bB ?_;refine aj (fun y'=>?_) fun y'=>?_
     ·refine i_ ?_;refine ae (e_ rfl rfl (r:=((8*k:Nat):Int)) ((bG aa aa).trans aa)) rfl ?_;refine ae (di rfl rfl aa (r:=((x/2^(8*k):Nat):Int)) (WA x aa)) rfl ?_;refine ae (bw underlying60 underlying5 rfl (r:=((x/2^(8*k)%256:Nat):Int)) (y9 _)) rfl ?_;refine bP ?_;refine av ⟨_,aa,k+1,aa,rfl,bm,ax rfl (by rw[cE];exact U0 aa _ rfl) (.refl _)⟩
     ·obtain rfl:k=4:=by omega
      refine c_ ?_;refine ao (L':=.own 5 1 s_ (fI x 4).length 4 (bv (fI x 4))::F) (ax ak ak (.refl _)) ?_;refine aE ?_;exact⟨s_,4,ak,rfl⟩
   ·exfalso;omega
  ·exfalso;omega
 ·exfalso;omega
theorem BL(l:al)(x:UInt8):iO (l++[x])=iO l+256^l.length*x.toNat:=by
 induction l with
 |nil=>simp[iO]
 |cons c r ih=>
  simp only[nE,iO,ih,eh,nF];rw[ub,NU];congr 2;rw[←th];congr 1;exact nG _ _
theorem rr(l:al):iO l<256^l.length:=by
 induction l with
 |nil=>simp[iO]
 |cons c r ih=>
  have:=c.toNat_lt;simp only[iO,eh,nF];omega
theorem V'(k:Nat):(256:Nat)^k=2^(8*k):=by rw[show(256:Nat)=2^8 from rfl,←Nat.pow_mul]
theorem akH{y k:Nat}(hk:k≤6)(hy:y<256):IntKind.u64.wrap ((y:Int)*2^min (((8*k:Nat):Int)).toNat IntKind.u64.bits)=((y*256^k:Nat):Int):=by
 have e:min (((8*k:Nat):Int)).toNat IntKind.u64.bits=8*k:=by
  show min _ 64=_;omega
 have hp:(2:Nat)^(8*k)≤2^48:=k_ aa aa;have hm:y*2^(8*k)≤255*2^48:=gN aa hp;have e3:(y:Int)*2^(8*k)=((y*2^(8*k):Nat):Int):=by simp
 rw[e,e3,V'];exact ga aa aa
theorem aqN{m y k:Nat}(hk:k≤6)(hy:y<256)(hm:m<256^k):IntKind.u64.wrap ((BitVec.ofInt IntKind.u64.bits (m:Int) ||| BitVec.ofInt IntKind.u64.bits ((y*256^k:Nat):Int)).toNat:Int)=((m+256^k*y:Nat):Int):=by
 have hp:(2:Nat)^(8*k)≤2^48:=k_ aa aa;have hmm:y*2^(8*k)≤255*2^48:=gN aa hp;rw[V']at hm⊢;have h64:IntKind.u64.bits=64:=rfl;have h1:(BitVec.ofInt IntKind.u64.bits (m:Int)).toNat=m:=by
  rw[IH,h64];omega
 have h2:(BitVec.ofInt IntKind.u64.bits ((y*2^(8*k):Nat):Int)).toNat=y*2^(8*k):=by
  rw[IH,h64];omega
 rw[BitVec.toNat_or,h1,h2,OM _ _ _ hm,nG (2^(8*k)) y];exact ga aa aa
theorem abh{b:al}{k:Nat}(h:k<b.length):(bv b)[k*1]? =some (.int .u8 ((b.getD k 0).toNat:Int)):=by
 simp[bv,List.getD,fo h]
theorem wK(s:Cs):(s.take 4).length≤4:=by
 unfold Cs.take;split
 ·simp
 ·split
  ·simp
  ·rw[eV];omega
theorem HO(ho:cu s)(hb:aL B w0 F 1 (.slice A s.b.length c) s.b.length (bv s.b)):
  a_ B w0 197 [bq g,ah 4] (Cv g A c s::F) (fun r L=>r= .int .u64 (s.fixed 4)∧L=Cv g A c (s.kZ 4)::F):=by
 have e1:s.fixed 4=iO (s.take 4):=by unfold Cs.fixed;rw[aw aa]
 have e2:s.kZ 4=s.b_ 4:=by unfold Cs.kZ;rw[aw aa]
 have hl:=wK s;obtain⟨t,ht⟩:=cR (s.take 4);rw[e1,e2];rw[←ht]at hl⊢;refine fw func197 34 [0,1] ?_;refine dm ?_;refine aI rfl rfl rfl (fun jB=>?_) (fun jB=>?_)
 ·refine bB ?_;refine dj fun nh=>?_;refine cD ?_;refine ay rfl (ma ho hb (m:=4) aa aa) fun s8 uR=>?_;rw[←ht];refine bI ?_;refine aD (fun zf zL zm=>∃(k:Nat),(k≤t.length)∧t.length-k=zm∧Sub zf [(5,.int .u64 (iO (t.take k))),(18,.slice s8 t.length uR),(19,ah t.length),(20,ah k)]∧Wk zL (Cv g A c (s.b_ 4):: .own 5 1 s8 t.length uR (bv t)::F)) _ ⟨0,bS _,rfl,bm,.refl _⟩ ?_;rintro _ _ _ ⟨k,hk,rfl,hs,hp⟩;refine aU hs hp ?_;clear hs hp;refine bB ?_;refine aj (fun lV=>?_) fun lV=>?_
  ·obtain⟨y,hy⟩:=cR ((t.getD k 0).toNat);have hy8:y<256:=by rw[hy];exact mH _
   have fP:=rr (t.take k);rw[eV,zd hk]at fP;have sN:iO (t.take (k+1))=iO (t.take k)+256^k*y:=by rw[aZ aa 0,BL,eV,zd hk,←hy]
   refine bM ?_;refine ae (au (v:=.int .u8 (y:Int)) ag rfl aB aa (by rw[hy];exact abh aa)) rfl ?_;refine bD ?_;refine ae (bw underlying5 underlying60 rfl (r:=(y:Int)) (ga aa aa)) rfl ?_;refine aE ?_;refine ae (e_ rfl rfl (r:=((8*k:Nat):Int)) ((bG aa aa).trans aa)) rfl ?_;refine ae (gb rfl rfl aa (r:=((y*256^k:Nat):Int)) (akH aa hy8)) rfl ?_;refine ae (tL rfl rfl (r:=((iO (t.take (k+1)):Nat):Int)) ((aqN aa hy8 fP).trans vS)) rfl ?_;refine bM ?_;refine av ⟨_,aa,k+1,aa,rfl,bm,.refl _⟩
  ·obtain rfl:k=t.length:=by omega
   rw[jN];refine cD ?_;refine ao (.cons (.skip (.refl _))) ?_;refine aE ?_;exact⟨rfl,rfl⟩
 ·exfalso;omega
section
theorem aon{P:Prop}(h:P:=by(first|exact⟨fun h=>⟨by omega,h⟩,fun h=>h.2⟩|exact fun h=>absurd h.1 (by omega)|omega)):P:=h
theorem Ud{P:Prop}(h:P:=by(have:=qG.1;omega)):P:=h
theorem alf{P:Prop}(h:P:=by(rw[show LA d-(i+1)=f by omega];exact RJ)):P:=h
theorem aa7{P:Prop}(h:P:=by(rw[hu];simp[bx])):P:=h
theorem abd{ns:bc}(hb:aL B w0 F 1 (.slice A ns.length c) ns.length (bx ns))(hl:ns.length≤1000000000000):
  a_ B w0 264 [.slice A ns.length c,ah 0] F (fun r L=>∃k:Int,r=ah k∧(0≤k↔0∈ns)∧L=F):=by
 refine fw func264 19 [0,1] ?_;refine dX ?_;refine aD (fun zf zL zm=>∃(k:Nat),(k≤ns.length∧∀i,i<k→ns.getD i 0≠0)∧ns.length-k=zm∧Sub zf [(0,.slice A ns.length c),(1,ah 0),(7,ah ns.length),(8,ah k)]∧Wk zL (F)) _ ⟨0,⟨bS _,fun i h=>absurd h (Nat.not_lt_zero i)⟩,rfl,bm,.refl _⟩ ?_;rintro _ _ _ ⟨k,⟨hk,hz⟩,rfl,hs,hp⟩;refine aU hs hp ?_;clear hs hp;refine bB ?_;refine aj (fun h9=>?_) fun h9=>?_
 ·obtain⟨v,hv⟩:=cR (ns.getD k 0);refine jU ?_;refine ae (au ag rfl hb aa (gd (v:=v) aa hv.symm)) rfl ?_;refine bH ?_;refine aj (fun kH=>?_) fun kH=>?_
  ·refine c_ ?_;refine⟨_,rfl,⟨fun _=>?_,fun _=>aa⟩,rfl⟩;have hm:=bh (l:=ns) (k:=k) aa 0;rw[←hv,show v=0 by omega]at hm;exact hm
  ·refine bD ?_;refine av ⟨_,aa,k+1,⟨aa,fun i hi=>(by
    rcases Nat.lt_succ_iff_lt_or_eq.1 hi with h|h
    ·exact hz i h
    ·subst h;omega)⟩,rfl,bm,.refl _⟩
 ·refine cD ?_;refine⟨_,rfl,⟨fun h=>absurd h aa,fun h=>?_⟩,rfl⟩;obtain⟨i,hi,he⟩:=j8 h;exact absurd (by simp[bk,fo hi,he]) (hz i aa)
theorem Mi{ns:bc}(hb:aL B w0 F 1 (.slice A ns.length c) ns.length (bx ns))(hl:ns.length≤1000000000000):
  a_ B w0 224 [.slice A ns.length c,ah 0] F (fun r L=>r= .bool (decide (0∈ns))∧L=F):=by
 refine fw func224 9 [0,1] ?_;refine bP ?_;refine ba apf rfl (abd hb hl) rfl ?_;rintro _ _ ⟨k,rfl,hk,cJ⟩;obtain rfl:=cJ.symm;refine bB ?_;exact⟨dC Value.bool (z_.2 hk),rfl⟩
def FtA(R:al×al×Int)(B:Nat)(w0:World)(F:aR)(r:Value)(L:aR):Prop:=
 ∃Ar cr Ad cd Y,r= .tuple #[.slice Ar R.1.length cr,.slice Ad R.2.1.length cd,ah R.2.2]∧L=Y++F∧R.1.length≤cr∧aL B w0 L 1 (.slice Ar R.1.length cr) R.1.length (bv R.1)∧aL B w0 L 1 (.slice Ad R.2.1.length cd) R.2.1.length (bv R.2.1)
theorem FtA.nil{e:Int}{r:Value}{L Y:aR}(hr:r= .tuple #[.slice none 0 0,.slice none 0 0,ah e])(hL:L=Y++F):FtA ([],[],e) B w0 F r L:=⟨none,0,none,0,Y,hr,hL,gj _,aL.AE,aL.AE⟩
theorem alz{l:al}{n:Nat}{xs:cV}(e1:n=l.length)(e2:xs=bv l)(hb:aL B w0 F 1 (.slice A n c) n xs)(hl:l.length≤1099511627776):
  a_ B w0 109 [.slice A n c] F (fun r L=>∃g A' c',r=bq g∧L=Cv g A' c' ⟨l,0,0⟩:: .own 5 1 A' l.length c' (bv l)::F):=by
 subst e1;subst e2;exact mT hb hl
theorem J_(HT:bK B w0){b:al}(hb:fq B w0 F A c b)(dh:b.length≤1099511627776):
  a_ B w0 178 [.slice A b.length c] F (FtA (f_ b) B w0 F):=by
 refine dP.zk hb fun oA _=>?_;refine fw func178 38 [0] ?_;refine D3 ?_;refine aj (fun pq=>?_) fun pq=>?_
 ·have e:f_ b=([],[],1):=by unfold f_;rw[aq aa]
  rw[e];refine bz ?_;exact FtA.nil (Y:=[]) rfl rfl
 ·obtain⟨n,hn⟩:=cR (b.length-4);have Qj:(b.length:Int)-4=(n:Int):=by omega
  have hcut:=hb.cut (k:=n) aa;have e1:(bv b).drop (n*1)=bv (b.drop n):=by rw[cE];simp[bv,yj]
  have e2:b.length-n=(b.drop n).length:=by rw[iN]
  obtain⟨k,hk⟩:=cR (ftK b);have Iw:Cs.fixed ⟨b.drop n,0,0⟩ 4=k:=by rw[hk,hn];rfl
  have atT:k<4294967296:=by
   have h1:=rr (Cs.take ⟨b.drop n,0,0⟩ 4);have h2:=wK ⟨b.drop n,0,0⟩;have h3:k=iO (Cs.take ⟨b.drop n,0,0⟩ 4):=by rw[←Iw];unfold Cs.fixed;rw[aw aa]
   have h4:(256:Nat)^(Cs.take ⟨b.drop n,0,0⟩ 4).length≤256^4:=k_ aa h2;omega
  refine bB ?_;refine ae (bT (i:=n) (size:=1) underlying27 ag rfl rfl Qj aa) rfl ?_;refine eK rfl (alz (l:=b.drop n) e2 e1 hcut aa) fun gn An cn=>?_;refine ai rfl (HO (s:=⟨b.drop n,0,0⟩) (pf aa) (aL.own (.head _))) ?_;rw[Iw];refine ae (bw underlying60 underlying3 rfl (r:=(k:Int)) (bG aa aa)) rfl ?_;refine dm ?_;refine aj (fun ja=>?_) fun ja=>?_
  ·have e:f_ b=([],[],1):=by unfold f_;rw[aw aa,aq aa]
   rw[e];refine bI ?_;refine ve [2,3,4] ?_;refine b8 ?_;exact FtA.nil (Y:=[_,_]) rfl rfl
  ·have hkn:k≤n:=by omega
   have hD:ftD b=aK ((b.take n).drop (n-k)):=by unfold ftD;rw[←hn,←hk]
   have e:f_ b=(b.take (n-k),(ftD b).1,(ftD b).2):=by unfold f_;rw[aw aa,aw aa,←hn,←hk]
   rw[e,hD];have hdc:=(hb.js (k:=n) aa).cut (k:=n-k) aa;have zb:=hb.js (k:=n-k) aa;have e3:((bv b).take (n*1)).drop ((n-k)*1)=bv ((b.take n).drop (n-k)):=by rw[cE,cE];simp[bv,yj,pw]
   have e4:n-(n-k)=((b.take n).drop (n-k)).length:=by rw[iN,eV];omega
   have e5:(bv b).take ((n-k)*1)=bv (b.take (n-k)):=by rw[cE];simp[bv,pw]
   have e6:n-k=(b.take (n-k)).length:=by rw[eV];omega
   rw[e5]at zb;refine bD ?_;refine ae (dQ rfl rfl (r:=((n-k:Nat):Int)) ((bG aa aa).trans aa)) rfl ?_;refine aE ?_;refine ae (kp (i:=n-k) (j:=n) (size:=1) underlying27 ag rfl rfl rfl rfl Qj aa aa) rfl ?_;refine ay rfl (QN (l:=(b.take n).drop (n-k)) HT e4 e3 hdc.cons.cons (by rw[←e4];omega)) fun Bi Bq=>?_;refine bI ?_;refine ve [0,3,4,5,6] ?_;refine bB ?_;refine ae (dQ rfl rfl (r:=((n-k:Nat):Int)) ((bG aa aa).trans aa)) rfl ?_;refine ae (bZ (i:=n-k) (size:=1) underlying27 ag rfl rfl rfl aa) rfl ?_;refine bP ?_;refine⟨A,c,Bi,Bq,[_,_,_],by rw[←e6],rfl,cZ,?_,aL.own (.head _)⟩;simp only;rw[←e6];exact zb.cons.cons.cons
abbrev Dx(X:cV)(g:Nat)(bt:TypeId)(A1:bj)(n1 c1:Nat)(A2:bj)(n2 c2:Nat)(c i:Nat):Ch:=.bE g bt (.slice A1 n1 c1:: .slice A2 n2 c2::ah c::ah i::X)
theorem w_{m:Nat}:∀l:bc,(∀x∈l,x≤m)→l.sum≤m*l.length
 |[],_=>by simp
 |a::r,h=>by
  have h1:=h a ak;have h2:=w_ r fun x hx=>h x oe;rw[II,eh,ub];omega
section
variable{m f:Nat}{s:Cs}{ns ss:bc}{R:bc×bc×Cs}
theorem ahf(h:ta m (f+1) s ns ss=R)(he:s.e=0):ta m f ((s.bX m).bX 8388608) (ns++[s.int m]) (ss++[(s.bX m).int 8388608])=R:=by rw[←h,ta,aw Ma]
theorem abO:∀(f:Nat),ta m f s ns ss=R→s.e≠0→R=(ns,ss,s)
 |0,h,_=>by rw[←h,ta]
 |f+1,h,he=>by rw[←h,ta,aq he]
end
theorem DE(d:al):((Cu d:Nat):Int)≤20000:=Cs.gy _ aa aa
theorem zz{d:al}{room:Nat}(hb:fq B w0 F A c d)(dh:d.length≤1099511627776)(re:room≤1099511627776):
  a_ B w0 179 [bq g,.slice A d.length c,ah room] (Dx X g 188 none 0 0 none 0 0 0 0::F)
   (fun r L=>r=ah (GH d room)∧∃A1 c1 A2 c2,L=Dx X g 188 A1 (fb d).1.length c1 A2 (fb d).2.1.length c2 (Ct d) (drI d):: .own 3 1 A1 (fb d).1.length c1 (bx (fb d).1):: .own 3 1 A2 (fb d).2.1.length c2 (bx (fb d).2.1)::F):=by
 have hR:=DE d;have hB:((LA d:Nat):Int)≤Cu d:=Cs.gy _ aa aa;have o1:cu (dr1 d):=(pf dh).bX aa;have b1:(dr1 d).b=d:=Cs.cK _ _ _;have o2:cu (dr2 d):=o1.bX aa;have b2:(dr2 d).b=d:=(Cs.cK _ _ _).trans b1;refine fw func179 100 [0,1,2] ?_;refine bM ?_;refine eK rfl (mT hb.cons dh) fun gn An cn=>?_;refine bB ?_;refine ai rfl (iI (s:=⟨d,0,0⟩) (most:=20000) (pf dh) (aL.own (.head _)) aa aa) ?_;refine b8 ?_;have e0:Cs.int ⟨d,0,0⟩ 20000=Cu d:=rfl;have e1:Cs.bX ⟨d,0,0⟩ 20000=dr1 d:=rfl;rw[e0,e1];refine bH ?_;refine ai rfl (iI (s:=dr1 d) (most:=((Cu d:Nat):Int)) o1 (by rw[b1];exact aL.own (.head _)) aa aa) ?_;refine bI ?_;have e3:(dr1 d).int ((Cu d:Nat):Int)=LA d:=rfl;have e4:(dr1 d).bX ((Cu d:Nat):Int)=dr2 d:=rfl;rw[e3,e4];refine aY 3 1 none ?_;refine aY 3 1 none ?_;refine bI ?_;refine aD (fun zf zL zm=>∃(i:Nat) (s:Cs) (ns ss:bc) (A1:bj) (c1:Nat) (A2:bj) (c2:Nat),(i≤LA d∧s.b=d∧cu s∧ta (Cu d) (LA d-i) s ns ss=fb d∧ns.length=i∧ss.length=i∧(∀x∈ns,x≤20000)∧(∀x∈ss,x≤8388608))∧LA d-i=zm∧Sub zf [(0,bq g),(2,ah room),(7,bq gn),(8,ah (Cu d)),(9,ah (LA d)),(10,ah i)]∧Wk zL (Cv gn An cn s:: .own 3 1 A1 ns.length c1 (bx ns):: .own 3 1 A2 ss.length c2 (bx ss)::Dx X g 188 A1 ns.length c1 A2 ss.length c2 0 0:: .own 5 1 An d.length cn (bv d)::F)) _ ⟨0,dr2 d,[],[],none,0,none,0,⟨bS _,b2,o2,rfl,rfl,rfl,fun x h=>absurd h (ml),fun x h=>absurd h (ml)⟩,rfl,bm,(rP (ef (ef (gl (ef (.refl _))))))⟩ ?_;rintro _ _ _ ⟨i,s,ns,ss,A1,c1,A2,c2,⟨hi,Qk,hso,wO,Vn,nP,hnx,hsx⟩,rfl,hs,hp⟩;refine aU hs hp ?_;clear hs hp;refine bH ?_;refine bR 8 26 [0,2,7,8,9,10] (i<LA d∧s.e=0) ?_ ?_
 ·refine b8 ?_;refine ct (fun pX=>?_) fun pX=>?_
  ·refine be ?_;refine ai rfl (gO) ?_;refine bH ?_;exact aM (by exact dU aon)
  ·refine bH ?_;exact aM (by exact eT aon)
 ·refine be ?_;refine aj (fun qG=>?_) fun qG=>?_
  ·have jb:s.e=0:=qG.2;obtain⟨f,hf⟩:∃f,LA d-i=f+1:=⟨LA d-i-1,Ud⟩
   rw[hf]at wO;have RJ:=ahf wO jb;obtain⟨v,hv⟩:=cR (s.int (Cu d));obtain⟨s1,k9⟩:=cR (s.bX (Cu d));have o3:cu s1:=by rw[k9];exact hso.bX aa
   have b3:s1.b=d:=by rw[k9];exact(Cs.cK _ _ _).trans Qk
   have Vp:(v:Int)≤Cu d:=by rw[hv];exact Cs.gy _ aa aa
   rw[←hv,←k9]at RJ;obtain⟨u,hu⟩:=cR (s1.int 8388608);have hu2:(u:Int)≤8388608:=by rw[hu];exact Cs.gy _ aa aa
   obtain⟨s2,jK⟩:=cR (s1.bX 8388608);have o4:cu s2:=by rw[jK];exact o3.bX aa
   have b4:s2.b=d:=by rw[jK];exact(Cs.cK _ _ _).trans b3
   rw[←hu,←jK]at RJ;refine b8 ?_;refine d_ (fun zf zL=>∃(A1':bj) (c1':Nat),Sub zf [(0,bq g),(2,ah room),(7,bq gn),(8,ah (Cu d)),(9,ah (LA d)),(10,ah i)]∧Wk zL (Cv gn An cn s1:: .own 3 1 A1' (ns.length+1) c1' (bx ns++[ah v]):: .own 3 1 A2 ss.length c2 (bx ss)::Dx X g 188 A1' (ns.length+1) c1' A2 ss.length c2 0 0:: .own 5 1 An d.length cn (bv d)::F)) ?_ ?_
   ·refine cC F ?_;refine ab 0 ?_;refine ab 1 ?_;refine ab 2 ?_;refine ab 3 ?_;refine ab 5 ?_;refine ab 6 ?_;refine gU 4 7 ?_ ?_
    ·refine aE ?_;refine az 7 ?_;refine iZ rfl rfl (iI (s:=s) (most:=((Cu d:Nat):Int)) hso Ub aa aa) ?_;refine az 8 ?_;refine cQ rfl (aF fM [_] rfl rfl cA aa aa) fun A37=>?_;refine az 9 ?_;refine eW rfl (bW fM rfl aV rfl aB cA aa aa) fun LU P8=>?_;refine ab 10 ?_;refine ab 11 ?_;refine az 12 ?_;refine be ?_;exact bC ⟨LU,P8,bm,.trans (.skip (.refl _)) (mK k9.symm (ax rfl (by rw[hv]) (.refl _)))⟩
    ·refine iZ rfl rfl (iI (s:=s) (most:=((Cu d:Nat):Int)) hso Ub aa aa) ?_;refine gU 4 8 ?_ ?_
     ·refine aE ?_;refine az 8 ?_;refine cQ rfl (aF fM [_] rfl rfl cA aa aa) fun A37=>?_;refine az 9 ?_;refine eW rfl (bW fM rfl aV rfl aB cA aa aa) fun LU P8=>?_;refine ab 10 ?_;refine ab 11 ?_;refine az 12 ?_;refine be ?_;exact bC ⟨LU,P8,bm,.trans (.skip (.refl _)) (mK k9.symm (ax rfl (by rw[hv]) (.refl _)))⟩
     ·refine cQ rfl (aF fM [_] rfl rfl cA aa aa) fun A37=>?_;refine az 4 ?_;refine aE ?_;refine az 9 ?_;refine eW rfl (bW fM rfl aV rfl aB cA aa aa) fun LU P8=>?_;refine ab 10 ?_;refine ab 11 ?_;refine az 12 ?_;refine be ?_;exact bC ⟨LU,P8,bm,.trans (.skip (.refl _)) (mK k9.symm (ax rfl (by rw[hv]) (.refl _)))⟩
   ·rintro _ _ ⟨A1',c1',hs,hp⟩;refine aU hs hp ?_;clear hs hp;refine cC F ?_;refine ab 0 ?_;refine ab 1 ?_;refine ab 2 ?_;refine ab 3 ?_;refine ab 5 ?_;refine gU 4 6 ?_ ?_
    ·refine aE ?_;refine az 6 ?_;refine iZ rfl rfl (iI (s:=s1) (most:=8388608) o3 (by rw[b3];exact aB) aa aa) ?_;refine az 7 ?_;refine cQ rfl (aF fM [_] rfl rfl cA aa aa) fun A48=>?_;refine az 8 ?_;refine eW rfl (bW fM rfl aV rfl aB cA aa aa) fun A49 c49=>?_;refine ab 9 ?_;refine ab 10 ?_;refine az 11 ?_;refine bP ?_;refine av ⟨_,aa,i+1,s2,ns++[v],ss++[u],A1',c1',A49,c49,⟨Ud,b4,o4,alf,by simp[Vn],by simp[nP],fun x hx=>(by
      rcases dy.1 hx with h|h
      ·exact hnx x h
      ·rw[lE.1 h];omega),fun x hx=>(by
      rcases dy.1 hx with h|h
      ·exact hsx x h
      ·rw[lE.1 h];omega)⟩,rfl,bm,.trans (.skip (.refl _)) (mK jK.symm (ax ak sG (ax ak aa7 (bp ak (.refl _)))))⟩
    ·refine iZ rfl rfl (iI (s:=s1) (most:=8388608) o3 (by rw[b3];exact aB) aa aa) ?_;refine gU 4 7 ?_ ?_
     ·refine aE ?_;refine az 7 ?_;refine cQ rfl (aF fM [_] rfl rfl cA aa aa) fun A48=>?_;refine az 8 ?_;refine eW rfl (bW fM rfl aV rfl aB cA aa aa) fun A49 c49=>?_;refine ab 9 ?_;refine ab 10 ?_;refine az 11 ?_;refine bP ?_;refine av ⟨_,aa,i+1,s2,ns++[v],ss++[u],A1',c1',A49,c49,⟨Ud,b4,o4,alf,by simp[Vn],by simp[nP],fun x hx=>(by
       rcases dy.1 hx with h|h
       ·exact hnx x h
       ·rw[lE.1 h];omega),fun x hx=>(by
       rcases dy.1 hx with h|h
       ·exact hsx x h
       ·rw[lE.1 h];omega)⟩,rfl,bm,.trans (.skip (.refl _)) (mK jK.symm (ax ak sG (ax ak aa7 (bp ak (.refl _)))))⟩
     ·refine cQ rfl (aF fM [_] rfl rfl cA aa aa) fun A48=>?_;refine az 4 ?_;refine aE ?_;refine az 8 ?_;refine eW rfl (bW fM rfl aV rfl aB cA aa aa) fun A49 c49=>?_;refine ab 9 ?_;refine ab 10 ?_;refine az 11 ?_;refine bP ?_;refine av ⟨_,aa,i+1,s2,ns++[v],ss++[u],A1',c1',A49,c49,⟨Ud,b4,o4,alf,by simp[Vn],by simp[nP],fun x hx=>(by
       rcases dy.1 hx with h|h
       ·exact hnx x h
       ·rw[lE.1 h];omega),fun x hx=>(by
       rcases dy.1 hx with h|h
       ·exact hsx x h
       ·rw[lE.1 h];omega)⟩,rfl,bm,.trans (.skip (.refl _)) (mK jK.symm (ax ak sG (ax ak aa7 (bp ak (.refl _)))))⟩
  ·have hd3:fb d=(ns,ss,s):=(by
    by_cases hz:i<LA d
    ·exact abO _ wO fun h=>qG ⟨hz,h⟩
    ·rw[show LA d-i=0 by omega,ta]at wO;exact wO.symm)
   have hC:Ct d=s.int 8388608:=by unfold Ct;rw[hd3]
   have h4:UM d=s.bX 8388608:=by unfold UM;rw[hd3]
   have hI:drI d=(UM d).int 8388608:=rfl;have h5:dr5 d=((UM d).bX 8388608).xV:=rfl;have hC2:((Ct d:Nat):Int)≤8388608:=Cs.gy _ aa aa;have hI2:((drI d:Nat):Int)≤8388608:=Cs.gy _ aa aa;have o4:cu (UM d):=by rw[h4];exact hso.bX aa
   have b4:(UM d).b=d:=by rw[h4];exact(Cs.cK _ _ _).trans Qk
   have o5:cu ((UM d).bX 8388608):=o4.bX aa;have b5:((UM d).bX 8388608).b=d:=(Cs.cK _ _ _).trans b4;have hns:=w_ ns hnx;have hss:=w_ ss hsx;have hE:GH d room=if (dr5 d).e≠0 then (dr5 d).e else if 0∈ns∨ns.sum≠Cu d∨ss.sum+Ct d+drI d≠room then 2 else 0:=by unfold GH;rw[hd3]
   rw[hd3];simp only;refine bP ?_;refine ai rfl (iI (s:=s) (most:=8388608) hso Ub aa aa) ?_;refine bB ?_;rw[←hC,←h4];refine bH ?_;refine ai rfl (iI (s:=UM d) (most:=8388608) o4 (by rw[b4];exact aB) aa aa) ?_;refine bD ?_;rw[←hI];refine be ?_;refine ai rfl (abo (s:=(UM d).bX 8388608) o5 (by rw[b5];exact aB)) ?_;refine b8 ?_;rw[←h5];refine bH ?_;refine ve [0,2,8,11,65] ?_;refine aE ?_;refine aj (fun h65=>?_) fun h65=>?_
   ·rw[aq h65]at hE;refine bM ?_;refine ao ((tD (gl (gl (.skip (.skip (.refl _))))))) ?_;refine aE ?_;exact⟨by rw[hE],A1,c1,A2,c2,rfl⟩
   ·rw[aw h65]at hE;refine bP ?_;refine jE ao8 rfl (Mi (ns:=ns) aB aa) wA rfl ?_;refine aE ?_;refine Bc rfl rfl rfl (fun Yr=>?_) (fun Yr=>?_)
    ·refine bM ?_;refine jE apw rfl (C' (ns:=ns) aB aa aa) wA rfl ?_;refine bB ?_;refine Bc rfl rfl rfl (fun h81=>?_) (fun h81=>?_)
     ·refine bM ?_;refine jE apw rfl (C' (ns:=ss) aB aa aa) wA rfl ?_;refine alZ ?_;refine mu [(99,_)] ⟨rfl,trivial⟩ ?_;refine aE ?_;refine aj (fun h99=>?_) fun h99=>?_
      ·refine bD ?_;refine ao ((tD (gl (gl (.skip (.skip (.refl _))))))) ?_;refine aE ?_;exact⟨by rw[hE,aq (.inr (.inr aa))],A1,c1,A2,c2,rfl⟩
      ·refine bM ?_;refine ao ((tD (gl (gl (.skip (.skip (.refl _))))))) ?_;refine aE ?_;exact⟨by rw[hE,aw (fun h=>h.elim Yr fun h=>h.elim (fun h=>aa) fun h=>aa)],A1,c1,A2,c2,rfl⟩
     ·refine zK ?_;refine mu [(99,_)] ⟨rfl,trivial⟩ ?_;refine bP ?_;refine ao ((tD (gl (gl (.skip (.skip (.refl _))))))) ?_;refine aE ?_;exact⟨by rw[hE,aq (.inr (.inl aa))],A1,c1,A2,c2,rfl⟩
    ·refine ahy ?_;refine mu [(99,_)] ⟨rfl,trivial⟩ ?_;refine bP ?_;refine ao ((tD (gl (gl (.skip (.skip (.refl _))))))) ?_;refine aE ?_;exact⟨by rw[hE,aq (.inl Yr)],A1,c1,A2,c2,rfl⟩
end
theorem Y4{bound p:Nat}{xs:bc}(h:kW bound xs)(hn:1≤xs.length):pA p 0 xs≤(bound-1)/p:=by
 have h1:=pB (p:=p) (xs:=xs) (k:=xs.length-1) aa;rw[show xs.length-1+1=xs.length by omega,jN]at h1;rw[h1];have:=(h (xs.length-1) aa).1;exact Nat.div_le_div_right aa
theorem M4{bound:Nat}{xs:bc}(h:kW bound xs)(hb:bound≤20000)(hn:1≤xs.length)(tW:xs.length≤600):8*(rM bound xs).length≤xs.length*(wid bound xs.length+3)+31:=by
 have hlen:=h.len;obtain⟨w,hw⟩:=cR (wid bound xs.length);obtain⟨p,hp⟩:=cR (2^w);have hq1:bound/xs.length≠0:=by have:=(Nat.le_div_iff_mul_le (x:=1) (y:=bound) (k:=xs.length) aa).2 aa;omega
 have h1:=(Nat.log2_lt hq1 (k:=w+1)).1 (by rw[hw];exact Nat.lt_succ_self _);have h2:bound<2^(w+1)*xs.length:=(Nat.div_lt_iff_lt_mul aa).1 h1;have h3:bound<p*(2*xs.length):=by
  rw[nF,←hp,th]at h2;exact h2
 have h4:(bound-1)/p<2*xs.length:=Nat.div_lt_of_lt_mul aa;have h5:=Y4 (p:=p) h hn;have h6:=sw (p:=p) h xs.length (gj _);rw[jN]at h6;have h7:=mW p w xs;have D8:(aS xs.length).length≤2:=Nb 1 _ aa;unfold rM;rw[aw aa,aX,dJ,←hw,←hp];unfold LB;rw[aX,h7,h6,show xs.length*(w+3)=xs.length*w+xs.length*3 from ub ..];generalize xs.length*w=z;omega
theorem JI{l:List cj}(h:∀s∈l,s.length≤25):(dB l).length≤45*l.length:=by
 cases l with
 |nil=>simp[dB]
 |cons t r=>
  have h1:=rF t r (fun s hs=>h s (by simp[hs]));have h2:=xU (s:=t) (by have:=h t ak;omega);have h3:=h t ak;rw[dB,aX,eh];omega
theorem C8{l:List cj}{sz:Nat}(h:∀s∈l,s.length≤25):∀m:Nat,(iY l sz (List.range m)).length≤45*(l.take (m*sz)).length
 |0=>by simp[iY]
 |m+1=>by
  have h1:=C8 (l:=l) (sz:=sz) h m;have h2:=JI (l:=ck l sz m) (fun s hs=>h s (zo hs));have h3:(l.take ((m+1)*sz)).length=(l.take (m*sz)).length+(ck l sz m).length:=by
   unfold ck;rw[j9];simp only[eV,iN];omega
  rw[lk,C9,aX,h3];omega
theorem Dz{l:List cj}{sz:Nat}(h1:1≤sz)(h2:sz≤64)(h:∀s∈l,s.length≤25)(hl:l.length≤1000000000):(fS sz l).length≤20+55*l.length:=by
 have k1:=C8 (l:=l) (sz:=sz) h (gT sz l.length);have k2:=q_ (l:=l) (sz:=sz) h2 h (List.range (gT sz l.length));have k3:=aT (x:=l.length) aa;have k4:(l.take (gT sz l.length*sz)).length≤l.length:=by rw[eV];omega
 have k5:gT sz l.length≤l.length+1:=by
  unfold gT;rcases wV l.length with e|e
  ·rw[e];have:(0+(sz-1))/sz=0:=BC aa;rw[this];omega
  ·refine jf (Nat.div_le_of_le_mul (?_ :_≤sz*(l.length+1))) (gj _);have h3:=gN h1 (gj l.length);rw[ub];have h4:l.length≤sz*l.length:=by omega
   omega
 rw[wm]at k2;simp only[fS,aX];omega
theorem me{bn m:Nat}:∀I:List (bc),(∀x∈I,(rM bn x).length≤m)→(I.flatMap (rM bn)).length≤m*I.length
 |[],_=>by simp
 |x::r,h=>by
  have h1:=me r fun y hy=>h y vR;have h2:=h x ak;rw[jM,aX,eh,ub];omega
theorem wU{o:aO}{L:List aH}{sz:Nat}(jb:o.2.2.1=sz)(h1:1≤sz)(h2:sz≤64)(hw:dF L≤1048576)(hn:L.length≤20000):
  qJ o L=fS sz (mR L)++(mQ L).flatMap (rM L.length)∧kX (mR L)∧(mR L).length=(mQ L).length∧(∀x∈mQ L,x≠[]∧kW L.length x)∧(mR L).length≤dF L:=by
 have hio:=JB hw hn;obtain⟨bn,N,ash,ahE,hN,hRT,hTl,hNI⟩:=Ec hio;have hbn:bn=L.length:=by omega
 subst hbn;have hNe:N=mQ L:=by
  have:l8 N=l8 (mQ L):=by rw[←hN];rfl
  exact zl this
 subst hNe;refine⟨?_,hRT,hTl,hNI,?_⟩
 ·unfold qJ;rw[jb,IC (T:=mR L) (I:=mQ L) aa aa ahE hRT hTl hNI]
 ·have k1:=uE ((List.range L.length).flatMap (A_ L));have k2:=C5 L L.length (gj _);rw[jN]at k2;show(rU (A_ L) L.length).length≤_;unfold rU;omega
theorem NP{o:aO}{L:List aH}(h1:1≤o.2.2.1)(h2:o.2.2.1≤64)(hw:dF L≤1048576)(hn:L.length≤20000):(qJ o L).length≤20+50066*dF L:=by
 obtain⟨sz,jb⟩:∃sz:Nat,o.2.2.1=sz:=⟨o.2.2.1.toNat,aa⟩
 obtain⟨e,k1,k2,k3,k4⟩:=wU (o:=o) (L:=L) jb aa aa hw hn;have k5:=Dz (l:=mR L) (sz:=sz) aa aa k1.le aa;have k6:=me (bn:=L.length) (m:=50011) (mQ L) fun x hx=>UO (k3 x hx).2 hn;rw[e,aX];rw[←k2]at k6;omega
theorem R3{o:aO}{L:List aH}(h1:1≤o.2.2.1)(h2:o.2.2.1≤64)(hw:dF L≤2000)(hn:L.length≤600):(qJ o L).length≤4000000∧(L.length≤30→(qJ o L).length≤300000):=by
 obtain⟨sz,jb⟩:∃sz:Nat,o.2.2.1=sz:=⟨o.2.2.1.toNat,aa⟩
 obtain⟨e,k1,k2,k3,k4⟩:=wU (o:=o) (L:=L) jb aa aa aa aa;have k5:=Dz (l:=mR L) (sz:=sz) aa aa k1.le aa;have k7:=fun m (hm:L.length≤m) (vC:m≤600)=>me (bn:=L.length) (m:=m*3) (mQ L);refine⟨?_,fun y'=>?_⟩
 ·have k6:=me (bn:=L.length) (m:=1500) (mQ L) fun x hx=>by
   obtain⟨j1,j2⟩:=k3 x hx;have j3:=j2.len;have j4:=List.length_pos_iff.2 j1;have j5:=M4 j2 aa aa aa;have j6:=xg (bound:=L.length) (n:=x.length) aa;have j7:x.length*(wid L.length x.length+3)≤600*17:=gN aa aa;omega
  rw[e,aX];rw[←k2]at k6;omega
 ·have k6:=me (bn:=L.length) (m:=70) (mQ L) fun x hx=>by
   obtain⟨j1,j2⟩:=k3 x hx;have j3:=j2.len;have j4:=List.length_pos_iff.2 j1;have j5:=M4 j2 aa aa aa;have j6:=xg (bound:=L.length) (n:=x.length) aa;have j7:x.length*(wid L.length x.length+3)≤30*17:=gN aa aa;omega
  rw[e,aX];rw[←k2]at k6;omega
theorem Mh{P:Prop}(h:P:=by(rw[←hR])):P:=h
theorem aoN{P:Prop}(h:P:=by(rw[←hR]at q;exact absurd q (by decide))):P:=h
theorem abU{b:al}(hb:fq B w0 F A c b)(dh:b.length≤1000000)(acC:-9223372036854775808≤bound)(Ny:bound≤9223372036854775807):
  a_ B w0 268 [ah bound,.slice A b.length c] F (fun r L=>∃p X,r= .tuple #[.pointer p,ah (iK bound b).2.1,ah (iK bound b).2.2]∧L=X++F∧
   ((iK bound b).2.2≠0→X=[])∧((iK bound b).2.2=0→∃w pp g A1 c1 A2 c2,p=some ⟨g,0,none⟩∧pp=2^w∧w≤14∧X++F=Rl g w pp A1 c1 A2 c2 (iK bound b).1 F)):=
 (abT hb dh acC Ny).mono fun r L h=>by
  rcases h with⟨h,h1,h2⟩|⟨h,w,pp,g,A1,c1,A2,c2,h1,h2,h3,h4⟩
  ·have e:(iK bound b).2.1=0:=by
    unfold iK at h⊢;split
    ·rfl
    ·split
     ·rfl
     ·split
      ·rename_i q1 q2 q3;rw[aw q1,aw q2,aq q3]at h;exact absurd rfl h
      ·split
       ·rfl
       ·rename_i q1 q2 q3 q4;rw[aw q1,aw q2,aw q3,aw q4]at h;exact absurd rfl h
   exact⟨none,[],by rw[h1,e];rfl,h2,fun _=>rfl,fun q=>absurd q h⟩
  ·exact⟨some ⟨g,0,none⟩,Rl g w pp A1 c1 A2 c2 (iK bound b).1 [],by rw[h3,h],h4,fun q=>absurd h q,fun _=>⟨w,pp,g,A1,c1,A2,c2,rfl,h1,h2,rfl⟩⟩
theorem ahh{b:al}(h:(iK bound b).2.2=0)(Qd:bound≤9223372036854775807):(iK bound b).2.1≤b.length∧(iK bound b).1.length≤20000∧∀i,i<(iK bound b).1.length→(iK bound b).1.getD i 0≤1000000:=by
 obtain⟨bn,rfl,h2,h3,_,h5⟩:=M1 Qd h;exact⟨h5,jf h3.len h2,h3.le h2⟩
theorem anX{t:TypeId}{A8:bj}{c8 m:Nat}{vs:cV}{e:rK}{O:List rK}(hm:m=O.length+1)(hv:vs=O.map jQ++[jQ e]):Wk (jP e:: .own t 1 A8 m c8 vs::(O.map jP++F)) (.own t 1 A8 (O++[e]).length c8 ((O++[e]).map jQ)::((O++[e]).map jP++F)):=by
 subst hm;subst hv;refine .swap (ax ak ak (.dE ?_));rw[jd,bV];exact yp.symm
theorem Ll{M N:aR}(h:Wk M N):∀R:aR,Wk (R++M) (R++N)
 |[]=>h
 |_::R=>.cons (Ll h R)
theorem aqT{a b c d:Ch}{R:aR}(X:aR):(X++a::b::c::d::R).Perm (a::b::c::d::(X++R)):=
 yp.trans ((yp.trans ((yp.trans (List.perm_middle.cons c)).cons b)).cons a)
def aaP(bound:Int)(n:Nat)(b:al)(F:aR)(r:Value)(L:aR):Prop:=
 ∃(A1:bj) (c1 m:Nat) (X:aR),r= .tuple #[.slice A1 m c1,ah (LM bound n b []).2]∧L=X++F∧((LM bound n b []).2≠0→A1=none∧c1=0∧m=0∧X=[])∧
  ((LM bound n b []).2=0→∃LL:List rK,LL.map (·.2.2)=(LM bound n b []).1∧m=LL.length∧LL.length=n∧X= .own 53 1 A1 LL.length c1 (LL.map jQ)::LL.map jP)
theorem ah5{b:al}{n:Nat}(hb:fq B w0 F A c b)(dh:b.length≤1000000)(hn:n≤2000000)(acC:-9223372036854775808≤bound)(Ny:bound≤9223372036854775807):
  a_ B w0 227 [ah n,ah bound,.slice A b.length c] F (aaP bound n b F):=by
 obtain⟨G,hG⟩:=cR (LM bound n b []);unfold aaP;rw[←hG];refine fw func227 43 [0,1,2] ?_;refine c_ ?_;refine aY 53 1 none ?_;refine bB ?_;refine aD (fun zf zL zm=>∃(k:Nat) (Ab:bj) (cb:Nat) (r:al) (O:List rK) (A8:bj) (c8:Nat),(k≤n∧O.length=k∧LM bound (n-k) r (O.map (·.2.2))=G∧aL B w0 F 1 (.slice Ab r.length cb) r.length (bv r)∧r.length≤b.length)∧n-k=zm∧Sub zf [(1,ah bound),(2,.slice Ab r.length cb),(8,.slice A8 O.length c8),(12,ah n),(13,ah k)]∧Wk zL (.own 53 1 A8 O.length c8 (O.map jQ)::(O.map jP++F))) _ ⟨0,A,c,b,[],none,0,⟨bS _,rfl,hG.symm,hb,gj _⟩,rfl,bm,.refl _⟩ ?_;rintro _ _ _ ⟨k,Ab,cb,r,O,A8,c8,⟨hk,hO,hR,Cz,hrl⟩,rfl,hs,hp⟩;refine aU hs hp ?_;clear hs hp;refine bB ?_;refine aj (fun jC=>?_) fun jC=>?_
 ·obtain⟨j,hj⟩:∃j,n-k=j+1:=⟨n-k-1,aa⟩
  rw[hj,LM]at hR;have atK:aL B w0 (O.map jP++F) 1 (.slice Ab r.length cb) r.length (bv r):=Cz.mono (gz _ F);refine bM ?_;refine ba aph rfl (abU aB aa acC Ny) rfl ?_;rintro _ _ ⟨p18,X18,rfl,cJ,hX1,hX2⟩;obtain rfl:=cJ.symm;refine tQ ?_;refine aj (fun pX=>?_) fun pX=>?_
  ·have Rs:(iK bound r).2.2≠0:=by simpa using pX
   rw[aq Rs]at hR;refine bI ?_;refine ve [6,7] ?_;refine bP ?_;rw[hX1 Rs];refine ao (L':=F) (.skip (vt (.refl _) _)) ?_;refine aE ?_;exact⟨none,0,0,[],Mh,rfl,fun _=>⟨rfl,rfl,rfl,rfl⟩,fun q=>by rw[←hR]at q;exact absurd q Rs⟩
  ·have Rs:(iK bound r).2.2=0:=by simpa using pX
   rw[aw (by simpa using Rs)]at hR;obtain⟨lw,lp,g18,P1,p1,P2,p2,rfl,hlp,hlw,hX⟩:=hX2 Rs;rw[hX];obtain⟨amd,asy,aqg⟩:=ahh Rs Ny;clear hX hX1 hX2;obtain⟨xs,hxs⟩:=cR ((iK bound r).1);obtain⟨t,ht⟩:=cR ((iK bound r).2.1);rw[←hxs]at asy aqg hR⊢;rw[←ht]at amd hR⊢;refine bH ?_;refine ai rfl (adw) ?_;refine b8 ?_;refine aj (fun qG=>?_) fun qG=>?_
   ·rw[aq aa]at hR;refine b8 ?_;refine ve [6,7] ?_;refine bP ?_;refine ao (L':=F) (.skip (.skip (.skip (.skip (vt (.refl _) _))))) ?_;refine aE ?_;exact⟨none,0,0,[],Mh,rfl,fun _=>⟨rfl,rfl,rfl,rfl⟩,fun q=>aoN⟩
   ·rw[aw aa]at hR;refine bD ?_;refine ay rfl (amC hlp hlw aqg aa) fun LS Mx=>?_;refine dK akK rfl rfl rfl rfl rfl (fun _=>rfl) aV aa aa ?_;intro _ vM wE;refine aE ?_;refine ve [1,2,8,10,12,13] ?_;refine b8 ?_;refine ae (bT (i:=t) (size:=1) underlying27 ag rfl rfl rfl amd) rfl ?_;rw[show r.length-t=(r.drop t).length from(iN ..).symm];refine bM ?_;have D8:O.length+1=(O++[(LS,Mx,xs)]).length:=by simp
    refine av ⟨_,aa,k+1,_,_,r.drop t,O++[(LS,Mx,xs)],vM,wE,⟨aa,by simp[hO],by rw[show n-(k+1)=j by omega];simpa using hR,by have:=Cz.cut amd;rwa [show(bv r).drop (t*1)=bv (r.drop t) by rw[cE,jv],show r.length-t=(r.drop t).length from(iN ..).symm]at this,kR⟩,rfl,bm,.skip (.skip (.skip (anX (e:=(LS,Mx,xs)) (O:=O) rfl rfl)))⟩
 ·rw[show n-k=0 by omega,LM]at hR;refine c_ ?_;refine aj (fun GN=>?_) fun GN=>?_
  ·refine bM ?_;refine ao (L':=F) (.skip (vt (.refl _) _)) ?_;refine aE ?_;rw[aq aa]at hR;exact⟨none,0,0,[],Mh,rfl,fun _=>⟨rfl,rfl,rfl,rfl⟩,fun q=>aoN⟩
  ·refine dm ?_;rw[aw aa]at hR;exact⟨A8,c8,O.length,.own 53 1 A8 O.length c8 (O.map jQ)::O.map jP,Mh,rfl,fun q=>by rw[←hR]at q;exact absurd rfl q,fun _=>⟨O,Mh,rfl,aa,rfl⟩⟩
def aaN(d:List cj×List (bc)×Int)(F:aR)(r:Value)(L:aR):Prop:=
 ∃(A1:bj) (c1:Nat) (A2:bj) (c2:Nat) (LL:List rK),r= .tuple #[Gq A1 d.1.length c1 A2 LL.length c2,ah d.2.2]∧LL.map (·.2.2)=d.2.1∧
  L= .own 9 1 A1 d.1.length c1 (strs d.1):: .own 53 1 A2 LL.length c2 (LL.map jQ)::(LL.map jP++F)
theorem Ed{e:Int}{r:Value}(h:r= .tuple #[Gq none 0 0 none 0 0,ah e]):aaN ([],[],e) F r (.own 9 1 none 0 0 []:: .own 53 1 none 0 0 []::F):=⟨none,0,none,0,[],h,rfl,rfl⟩
theorem aiD{b:al}(hE:bound<0∨20000<bound):a_ B w0 183 [ah size,ah bound,.slice A b.length c] F (aaN (eF size bound b) F):=by
 rw[Vt hE];refine fw func183 48 [0,1,2] ?_;refine be ?_;refine bg fun g6=>?_;refine bB ?_;refine bR 6 17 [0,1,2,6] (bound<0∨20000<bound) ?_ ?_
 ·refine bH ?_;refine aI rfl rfl rfl (fun jC=>?_) (fun jC=>?_)
  ·refine b8 ?_;exact aM oY
  ·refine be ?_;exact aM vy
 ·refine be ?_;refine aj (fun iy=>?_) fun iy=>?_
  ·refine be ?_;refine ae (cv [.slice none 0 0,.slice none 0 0] ag) rfl ?_;refine bB ?_;refine aC 53 1 none ?_;refine aC 9 1 none ?_;refine gS rfl rfl ag aV gD rfl (.cons (.cons (.skip (.refl _)))) ?_;exact Ed rfl
  ·exfalso;exact iy hE
theorem aiE{b:al}(hE:¬(bound<0∨20000<bound))(hb:fq B w0 F A c b)(dh:b.length≤1000000000)(he:(dW size b).2.2≠0):
  a_ B w0 183 [ah size,ah bound,.slice A b.length c] F (aaN (eF size bound b) F):=by
 rw[Vu hE he];refine fw func183 48 [0,1,2] ?_;refine be ?_;refine bg fun g6=>?_;refine bB ?_;refine bR 6 17 [0,1,2,6] (bound<0∨20000<bound) ?_ ?_
 ·refine bH ?_;refine aI rfl rfl rfl (fun jC=>?_) (fun jC=>?_)
  ·refine b8 ?_;exact aM oY
  ·refine be ?_;exact aM vy
 ·refine be ?_;refine aj (fun iy=>?_) fun iy=>?_
  ·exfalso;exact hE iy
  ·refine bB ?_;refine ai rfl (XZ aB aa he) ?_;refine jU ?_;refine aj (fun ku=>?_) fun ku=>?_
   ·refine be ?_;refine ae (cv [.slice none 0 0,.slice none 0 0] ag) rfl ?_;refine bH ?_;refine ve [6,7] ?_;refine bH ?_;refine aC 53 1 none ?_;refine aC 9 1 none ?_;refine gS rfl rfl ag aV gD rfl (.cons (.cons (.skip (.refl _)))) ?_;exact Ed rfl
   ·exfalso;exact ku he
theorem aiF{b:al}(hE:¬(bound<0∨20000<bound))(hb:fq B w0 F A c b)(dh:b.length≤1000000000)(Cz:(b.drop (dW size b).2.1).length≤1000000)(he:(dW size b).2.2=0):
  a_ B w0 183 [ah size,ah bound,.slice A b.length c] F (aaN (eF size bound b) F):=by
 have q4:¬(size<1∨64<size):=fun q=>by rw[uT q]at he;exact absurd he aA
 obtain⟨sz,rfl⟩:=gM (show 0≤size by omega);obtain⟨e1,e2,e3⟩:=MX (sz:=sz) aa aa he;have hR1:= @Vv sz bound b hE he;have Ys:= @Kp sz bound b hE he;have hIL:zT sz bound b=LM bound (dW sz b).1.length (b.drop (dW sz b).2.1) []:=rfl;have YA:dW sz b=((dW sz b).1,(dW sz b).2.1,0):=Prod.ext rfl (Prod.ext rfl he);have hTl:=e1.2;have hcut:=hb.cut e2;rw[show(bv b).drop ((dW sz b).2.1*1)=bv (b.drop (dW sz b).2.1) by rw[cE,jv],show b.length-(dW sz b).2.1=(b.drop (dW sz b).2.1).length from(iN ..).symm]at hcut;have hdl:(b.drop (dW sz b).2.1).length≤b.length:=by rw[iN];omega
 obtain⟨T,hT⟩:=cR ((dW sz b).1);obtain⟨t,ht⟩:=cR ((dW sz b).2.1);rw[←hT]at e1 Ys hIL YA hTl;rw[←ht]at e2 hIL YA hcut hdl Cz;obtain⟨G,hG⟩:=cR (zT sz bound b);rw[←hG]at hR1 Ys hIL;clear hG e3;refine cB func183 48 rfl rfl rfl [(0,ah sz),(1,ah bound),(2,.slice A b.length c)] ⟨⟨rfl,rfl⟩,⟨rfl,rfl⟩,⟨rfl,rfl⟩,trivial⟩ ?_;refine be ?_;refine bg fun g6=>?_;refine bB ?_;refine bR 6 17 [0,1,2,6] (bound<0∨20000<bound) ?_ ?_
 ·refine bH ?_;refine aI rfl rfl rfl (fun jC=>?_) (fun jC=>?_)
  ·refine b8 ?_;exact aM oY
  ·refine be ?_;exact aM vy
 ·refine be ?_;refine aj (fun iy=>?_) fun iy=>?_
  ·exfalso;exact hE iy
  ·refine bB ?_;refine ba ao_ rfl (Q7 (sz:=sz) aa aa aB aa YA) rfl ?_;rintro _ _ ⟨g22,P22,p22,Q22,q22,rfl,cJ⟩;obtain rfl:=cJ.symm;refine jU ?_;refine aj (fun ku=>?_) fun ku=>?_
   ·exfalso;exact ku rfl
   ·refine bH ?_;refine cC (Dd g22 sz P22 p22 Q22 q22 T (hdS sz T) (.bE g6 90 [.slice none 0 0,.slice none 0 0]::F)) ?_;refine ab 0 ?_;refine ab 2 ?_;refine ab 3 ?_;refine ab 4 ?_;refine aW 5 rfl (bT (i:=t) (size:=1) underlying27 ag rfl rfl rfl e2) ?_;rw[show b.length-t=(b.drop t).length from(iN ..).symm];refine az 1 ?_;refine iZ rfl rfl (alH) ?_;refine az 6 ?_;refine gC rfl .no ao' rfl (ah5 (n:=T.length) aB aa aa aa aa) rfl (by rintro _ _ ⟨A37,c37,m37,X37,rfl,rfl,hX1,hX2⟩;exact gF) ?_;rintro _ _ ⟨A37,c37,m37,X37,rfl,cJ,hX1,hX2⟩;obtain rfl:=cJ.symm;rw[←hIL]at hX1 hX2;refine ab 7 ?_;refine ab 8 ?_;refine ab 9 ?_;refine ab 10 ?_;refine ab 11 ?_;refine cP [6,8,10,11] ?_;refine bM ?_;refine aj (fun GN=>?_) fun GN=>?_
    ·have acw:G.2≠0:=by rw[hIL];simpa using GN
     obtain⟨rfl,rfl,rfl,rfl⟩:=hX1 acw;rw[hR1 acw];refine be ?_;refine ae (cv [.slice none 0 0,.slice none 0 0] ag) rfl ?_;refine bD ?_;refine aC 53 1 none ?_;refine aC 9 1 none ?_;refine gS rfl rfl ag aV gD rfl (.cons (.cons (.skip (.skip (.skip (.skip (.refl _))))))) ?_;exact Ed (by rw[hIL])
    ·have acw:G.2=0:=by rw[hIL];simpa using GN
     obtain⟨LL,hL1,rfl,hL2,rfl⟩:=hX2 acw;rw[Ys acw];refine bH ?_;refine fR (aqT (.own 53 1 A37 LL.length c37 (LL.map jQ)::LL.map jP)) ?_;refine be ?_;refine ay rfl (alD aa) fun A45 c45=>?_;refine aE ?_;refine ae (eG [(0,_),(1,_)] [_,_] rfl rfl ag) rfl ?_;refine bI ?_;refine gS rfl rfl ag aV gD rfl (.skip (.skip (.skip (.cons (.skip (.refl _)))))) ?_;exact⟨A45,c45,A37,c37,LL,rfl,hL1,rfl⟩
theorem aiG{b:al}(hb:fq B w0 F A c b)(dh:b.length≤1000000):
  a_ B w0 183 [ah size,ah bound,.slice A b.length c] F (aaN (eF size bound b) F):=by
 by_cases hE:bound<0∨20000<bound
 ·exact aiD hE
 ·by_cases he:(dW size b).2.2=0
  ·exact aiF hE hb aa kR he
  ·exact aiE hE hb aa he
theorem aeh{m:Nat}{B1:bj}{b1:Nat}{T:List cj}{LL:List Lv}(e:LL.length=m)(h1:aL B w0 F 1 (.slice A1 T.length c1) T.length (strs T))(hL:aL B w0 F 1 (.slice B1 m b1) m (LL.map zS))(hI:l6 B w0 F LL)(wS:∀e∈LL,e.2.2.length≤9000000000000000000)(hs:T.length≤1000000000){d:al}(hp:qI size bound T (fU LL)=(d,0)):
  a_ B w0 48 [ah size,ah bound,Gq A1 T.length c1 B1 m b1] F (fun r L=>∃A' c',r= .tuple #[.slice A' d.length c',ah 0]∧L= .own 5 1 A' d.length c' (bv d)::F):=by
 subst e;have:=aeg (size:=size) (bound:=bound) h1 hL hI wS hs
 rwa [hp]at this
theorem adg{b:al}(hs:size≤9223372036854775807):(eF size bound b).1.length≤1048576∧(eF size bound b).2.1.length≤1048576∧∀x∈(eF size bound b).2.1,x.length≤20000:=by
 by_cases h:(eF size bound b).2.2=0
 ·obtain⟨sz,bn,rfl,rfl,h1,h2,h3,h4,h5,h6,_⟩:=ahT h hs;have h7:=h4.2;exact⟨h7,aa,fun x hx=>jf (h6 x hx).2.len h3⟩
 ·have e:(eF size bound b).1=[]∧(eF size bound b).2.1=[]:=by
   unfold eF at h⊢;split
   ·exact⟨rfl,rfl⟩
   ·split
    ·exact⟨rfl,rfl⟩
    ·split
     ·exact⟨rfl,rfl⟩
     ·rename_i q1 q2 q3;rw[aw q1,aw q2,aw q3]at h;exact absurd rfl h
  rw[e.1,e.2];exact⟨ak,ak,ak⟩
theorem aoK{P:Prop}(h:P:=by(rw[WZ];exact aL.own (.tail _ (.head _)))):P:=h
theorem QJ{o:aO}{L:List aH}(h:cm 2 (o2 o)≠0):a_ B w0 22 [.agg (aO.cells o).toArray,.slice A L.length c] F (LV (fY o L) F):=by
 have e:fY o L=([],cm 2 (o2 o)):=by unfold fY;rw[aq h]
 rw[e];obtain⟨bl,pl,bu,da,pa,ch⟩:=o;refine cB func22 115 rfl rfl rfl [(0,.agg #[ah bl,.bool pl,ah bu,ah da,ah pa,ah ch]),(1,.slice A L.length c)] ⟨⟨rfl,rfl⟩,⟨rfl,rfl⟩,trivial⟩ ?_;refine be ?_;refine bf fun g2=>?_;refine bM ?_;refine ai rfl (nv (bl,pl,bu,da,pa,ch)) ?_;refine bP ?_;refine aj (fun oh=>?_) fun oh=>?_
 ·refine bP ?_;refine ao (.skip (.refl _)) (aC 5 1 none ?_);refine aE ?_;exact⟨none,0,rfl,rfl⟩
 ·exfalso;exact oh h
theorem QK{o:aO}{L:List aH}(h:¬cm 2 (o2 o)≠0)(hc:cO L≠0)(hb:aL B w0 F 4 (.slice A L.length c) L.length (cU L)):a_ B w0 22 [.agg (aO.cells o).toArray,.slice A L.length c] F (LV (fY o L) F):=by
 have e:fY o L=([],cO L):=by unfold fY;rw[aw h,aq hc]
 rw[e];obtain⟨bl,pl,bu,da,pa,ch⟩:=o;refine cB func22 115 rfl rfl rfl [(0,.agg #[ah bl,.bool pl,ah bu,ah da,ah pa,ah ch]),(1,.slice A L.length c)] ⟨⟨rfl,rfl⟩,⟨rfl,rfl⟩,trivial⟩ ?_;refine be ?_;refine bf fun g2=>?_;refine bM ?_;refine ai rfl (nv (bl,pl,bu,da,pa,ch)) ?_;refine bP ?_;refine aj (fun oh=>?_) fun oh=>?_
 ·exfalso;exact h oh
 ·refine bB ?_;refine ai rfl (oS L hb.cons) ?_;refine bP ?_;refine aj (fun qH=>?_) fun qH=>?_
  ·refine bP ?_;refine ao (.skip (.refl _)) (aC 5 1 none ?_);refine aE ?_;exact⟨none,0,rfl,rfl⟩
  ·exfalso;exact qH hc
structure LW(S:Nat)(pl:Bool)(fs:eH)(L:List aH)(gs:bc)(k a:Nat):Prop where
 all:fs++jy false pl (gs.drop k) (L.drop a)=jy false pl gs L
 fit:CU S (lens false (L.drop a)) (gs.drop k)
 le:a≤L.length
theorem LW.step{S:Nat}{pl:Bool}{fs:eH}{L:List aH}{gs:bc}{k a n:Nat}(h:LW S pl fs L gs k a)(hk:k<gs.length)(hn:n=gs.getD k 0)(hS:S≤32768)(hL:∀x∈L,x.fits):
  1≤n∧a+n≤L.length∧(dc false ((L.drop a).take n)).length≤32768∧LW S pl (fs++[(jF (dc false ((L.drop a).take n)) pl).1]) L gs (k+1) (a+n):=by
 have hgd:gs.drop k=n::gs.drop (k+1):=by rw[hn];exact dw aa 0
 have hf:=h.fit;have ha:=h.all;have hl:=h.le;rw[hgd]at hf ha;obtain⟨f1,f2,f3,f4,f5⟩:=hf;rw[et,iN]at f2;refine⟨f1,aa,oL hS (fun x hx=>hL x (rl hx)) f1 f3,⟨?_,by rw[←qj,wY];exact f5,aa⟩⟩;rw[←ha,bV];show _=fs++(_::jy false pl _ ((L.drop a).drop n));rw[qj];rfl
theorem aiQ(b:Bool){L:List aH}{a k:Nat}(hk:a+k≤L.length)(hb:aL B w0 F 4 (.slice A L.length c) L.length (cU L))(hx:∀x∈L,x.1<18446744073709551616)(hw:dF L≤1048576):
  a_ B w0 45 [.bool b,.slice (if c=a then A else A.map (·.add (a*4))) (a+k-a) (c-a)] F (fun r K=>∃A' c',r= .slice A' (dc b ((L.drop a).take k)).length c'∧K= .own 5 1 A' (dc b ((L.drop a).take k)).length c' (bv (dc b ((L.drop a).take k)))::F):=by
 have hcut:=(hb.js (k:=a+k) hk).cut (k:=a) aa;have e:(L.take (a+k)).drop a=(L.drop a).take k:=by rw[R9];congr 1;omega
 rw[AU,vi,e]at hcut;have hl:a+k-a=((L.drop a).take k).length:=by rw[eV,iN];omega
 rw[hl]at hcut⊢;exact I4 b ((L.drop a).take k) hcut (fun x hxx=>hx x (rl (lW hxx))) (by have:=np (L.drop a) k;have:=Jq L a;omega)
theorem Q5{ns ss:bc}{cc ii n2:Nat}(e:n2=ss.length)(hl:ns.length=ss.length)(qf:aL B w0 F 1 (.slice A1 ns.length c1) ns.length (bx ns))(oP:aL B w0 F 1 (.slice A2 n2 c2) n2 (bx ss))(hn:ns.length≤100000)(hs:ns.sum≤1000000000000000)(jK:∀x∈ss,x≤1000000000000000)(hc:cc≤1000000000000000)(hi:ii≤1000000000000000){d:al}(hd:xR ns ss cc ii=d):
  a_ B w0 50 [bq g] (Db g A1 ns.length c1 A2 n2 c2 cc ii::F) (Gp d (Db g A1 ns.length c1 A2 n2 c2 cc ii::F)):=by
 subst e;subst hd;exact Q4 hl qf oP hn hs jK hc hi
theorem agv{PB:List kP}{n:Nat}{s1 s2 s3 s4:Value}{l l1 l2 l3 l4:al}(hb:aL B w0 F 1 (.slice A n c) n (PB.map dq++[s1,s2,s3,s4]))(hn:n=PB.length+4)(hPB:∀e∈PB,aL B w0 F 1 (dq e) e.2.2.length (bv e.2.2))(h1:aL B w0 F 1 s1 l1.length (bv l1))(h2:aL B w0 F 1 s2 l2.length (bv l2))(h3:aL B w0 F 1 s3 l3.length (bv l3))(h4:aL B w0 F 1 s4 l4.length (bv l4))(hl:l=(PB.map (·.2.2)).flatten++(l1++(l2++(l3++l4))))(hlen:l.length≤1099511627776)(D6:PB.length≤1000000):
  a_ B w0 52 [.slice A n c] F (Gp l F):=by
 have hv:(OS PB++[(s1,l1),(s2,l2),(s3,l3),(s4,l4)]:ei).Cm=PB.map dq++[s1,s2,s3,s4]:=by
  have:=E0 PB;unfold ei.Cm at this⊢;rw[jd,this];rfl
 refine xu (P:=OS PB++[(s1,l1),(s2,l2),(s3,l3),(s4,l4)]) (by rw[hv];exact hb) (fun y hy=>?_) (by simp[OS,hn]) ?_ hlen Bl
 ·rcases dy.1 hy with hy|hy
  ·obtain⟨e,he,rfl⟩:=pS.1 hy;exact hPB e he
  ·simp only[fm,ml,oj]at hy;rcases hy with rfl|rfl|rfl|rfl
   ·exact h1
   ·exact h2
   ·exact h3
   ·exact h4
 ·have:=CK PB;unfold ei.all at this⊢;rw[ud,this,hl];simp
theorem YN{L:List aH}{sz:Nat}(h1:1≤sz)(h2:sz≤64)(hw:dF L≤1048576)(hn:L.length≤20000){o:aO}(ho:o.2.2.1=sz):qI (sz:Int) ((L.length:Nat):Int) (mR L) (l8 (mQ L))=(qJ o L,0):=by
 have hio:=JB hw hn;have e:=Kq (sz:=sz) (bound:=((L.length:Nat):Int)) (T:=mR L) (I:=l8 (mQ L)) h1 h2 hio;have e2:qJ o L=(qI (sz:Int) ((L.length:Nat):Int) (mR L) (l8 (mQ L))).1:=by unfold qJ;rw[ho]
 rw[e2,e]
theorem DV{m:Nat}:∀PB:List kP,(∀e∈PB,e.2.2.length≤m)→(PB.map (·.2.2)).flatten.length≤m*PB.length
 |[],_=>by simp
 |e::r,h=>by
  have h1:=h e ak;have h2:=DV r fun x hx=>h x oe;simp only[kz,wo,aX,eh,ub,cE];omega
theorem XA{L:List aH}{LL:List rK}(h:LL.map (·.2.2)=JA (A_ L) L.length):∀e∈toI LL,e.2.2.length≤L.length:=fun e he=>by
 obtain⟨x,hx,rfl⟩:=pS.1 he;have h2:x.2.2∈JA (A_ L) L.length:=by rw[←h];exact je (f:=fun y:rK=>y.2.2) hx
 obtain⟨t,_,ht⟩:=pS.1 h2;simp only[eM];rw[←ht];unfold Ov;refine jf (BH _ _) ak
theorem QL(HT:bK B w0){o:aO}{L:List aH}(h:¬cm 2 (o2 o)≠0)(hc:¬cO L≠0)(hx:∀x∈L,x.1<18446744073709551616)(hb:aL B w0 F 4 (.slice A L.length c) L.length (cU L)):a_ B w0 22 [.agg (aO.cells o).toArray,.slice A L.length c] F (LV (fY o L) F):=by
 have e:fY o L=(dx o L,0):=by unfold fY;rw[aw h,aw hc]
 obtain⟨tA,rN,LG⟩:=kj (bF hc) hx;have hom:=w4 (.inr (.inl rfl)) (bF h);obtain⟨⟨m1,m2⟩,_,m4,_⟩:=hom;obtain⟨m5,m6⟩:=m4 (.inr rfl);have GU:(dR o false L).length≤L.length:=by unfold dR;have:=mU o.1.toNat (lens false L);rwa [et]at this
 have hil:=NP (o:=o) m5 m6 LG tA;rw[e];refine dP.zk hb fun oA _=>?_;obtain⟨bl,pl,bu,da,pa,ch⟩:=o;simp only[o2]at m1 m2 m5 m6;obtain⟨S,rfl⟩:=gM (show 0≤bl by omega);obtain⟨sz,rfl⟩:=gM (show 0≤bu by omega);obtain⟨O,hO⟩:∃x:aO,x=((S:Int),pl,(sz:Int),da,pa,ch):=⟨_,rfl⟩
 obtain⟨gs,Qg⟩:=cR (dR ((S:Int),pl,(sz:Int),da,pa,ch) false L);have ahK:jA S (lens false L)=gs:=by rw[Qg];rfl
 have wT:=Cy ((S:Int),pl,(sz:Int),da,pa,ch) false L;have asA:LW S pl [] L gs 0 0:=⟨rfl,by rw[tg,tg,←ahK];exact kr _ _,bS _⟩
 rw[←Qg]at GU wT;refine cB func22 115 rfl rfl rfl [(0,.agg #[ah (S:Int),.bool pl,ah (sz:Int),ah da,ah pa,ah ch]),(1,.slice A L.length c)] ⟨⟨rfl,rfl⟩,⟨rfl,rfl⟩,trivial⟩ ?_;refine be ?_;refine bf fun g2=>?_;refine bM ?_;refine ai rfl (nv ((S:Int),pl,(sz:Int),da,pa,ch)) ?_;refine bP ?_;refine aj (fun oh=>?_) fun oh=>?_
 ·exfalso;exact h oh
 ·refine bB ?_;refine ai rfl (oS L hb.cons) ?_;refine bP ?_;refine aj (fun qH=>?_) fun qH=>?_
  ·exfalso;exact hc qH
  ·refine bD ?_;refine ay rfl (Nw ahK hb.cons hx aa aa aa) fun vM wE=>?_;refine ae (br [(0,_)] [.slice none 0 0,.slice none 0 0,ah 0,ah 0] [0] [_,_,_,_] rfl rfl ag) rfl ?_;refine bg fun g8=>?_;refine aE ?_;refine ve [1,2,8] ?_;refine c_ ?_;refine aY 3 1 none ?_;refine aY 27 1 none ?_;refine bM ?_;refine aD (fun zf zL zm=>∃(k a:Nat) (PB:List kP) (Ap:bj) (cp:Nat) (As:bj) (cs:Nat),(k≤gs.length∧PB.length=k∧LW S pl (PB.map (·.2.2)) L gs k a∧(∀e∈PB,e.2.2.length≤33000)∧a=(gs.take k).sum)∧gs.length-k=zm∧Sub zf [(1,.slice A L.length c),(2,bq g2),(8,bq g8),(9,.slice Ap PB.length cp),(10,ah a),(37,.slice vM gs.length wE),(38,ah gs.length),(39,ah k)]∧Wk zL (.own 27 1 Ap PB.length cp (PB.map dq):: .own 3 1 As PB.length cs (bx (PB.map (·.2.2.length)))::Db g8 vM gs.length wE As PB.length cs 0 0:: .own 3 1 vM gs.length wE (bx gs):: .bE g2 23 [ah (S:Int),.bool pl,ah (sz:Int),ah da,ah pa,ah ch]::(PB.map fx++F))) _ ⟨0,0,[],none,0,none,0,⟨bS _,rfl,asA,fun e h=>absurd h (ml),ak⟩,rfl,bm,.refl _⟩ ?_;rintro _ _ _ ⟨k,a,PB,Ap,cp,As,cs,⟨hk,x',NI,mG,hak⟩,rfl,hs,hp⟩;refine aU hs hp ?_;clear hs hp;refine bB ?_;refine aj (fun h40=>?_) fun h40=>?_
   ·obtain⟨n,hn⟩:=cR (gs.getD k 0);obtain⟨asD,ahN,aml,ame⟩:=NI.step aa hn aa rN;have hbw:=C7 (b:=dc false ((L.drop a).take n)) (pl:=pl) aml;have sN:(gs.take (k+1)).sum=(gs.take k).sum+n:=by rw[aZ aa 0,wj,←hn];simp
    have hbP:aL B w0 (PB.map fx++F) 4 (.slice A L.length c) L.length (cU L):=hb.mono (gz _ _);refine bD ?_;refine ae (au ag rfl aB aa (gd (v:=n) aa hn.symm)) rfl ?_;refine b8 ?_;refine cC (.own 27 1 Ap PB.length cp (PB.map dq):: .own 3 1 As PB.length cs (bx (PB.map (·.2.2.length)))::Db g8 vM gs.length wE As PB.length cs 0 0:: .own 3 1 vM gs.length wE (bx gs):: .bE g2 23 [ah (S:Int),.bool pl,ah (sz:Int),ah da,ah pa,ah ch]::(PB.map fx++F)) ?_;refine ab 0 ?_;refine ab 1 ?_;refine ab 2 ?_;refine ab 3 ?_;refine aW 4 rfl (bY rfl rfl (r:=((a+n:Nat):Int)) ((bG aa aa).trans aa)) ?_;refine aW 5 rfl (kp (i:=a) (j:=a+n) (size:=4) underlying24 ag rfl rfl rfl rfl rfl aa aa) ?_;refine ab 7 ?_;refine ab 8 ?_;refine az 6 ?_;refine b7 rfl rfl (aiQ (L:=L) false ahN hbP.cons.cons.cons.cons.cons hx aa) fun BZ Ge=>?_;refine az 9 ?_;refine b7 rfl rfl (Mu HT (b:=dc false ((L.drop a).take n)) (p:=pl) aB aa) fun A53 c53=>?_;refine ab 10 ?_;refine ab 11 ?_;refine ab 12 ?_;refine ab 13 ?_;refine ab 14 ?_;refine bD ?_;refine ve [1,2,8,9,10,12,13,14,37,38,39,57] ?_;refine aE ?_;refine aj (fun h57=>?_) fun h57=>?_
    ·exfalso;exact h57 hbw.2
    ·have wR:(PB++[((A53,c53,(jF (dc false ((L.drop a).take n)) pl).1):kP)]).length=PB.length+1:=by simp
     refine bB ?_;refine dK fH rfl rfl rfl rfl rfl (fun _=>rfl) aV aa aa ?_;intro _ A62 c62;refine bP ?_;refine dK fM rfl rfl rfl rfl rfl (fun _=>rfl) aV aa aa ?_;intro _ A68 c68;refine bD ?_;refine ae (bY rfl rfl (r:=((a+n:Nat):Int)) ((bG aa aa).trans aa)) rfl ?_;refine aE ?_;refine ve [1,2,8,9,10,37,38,39] ?_;refine bB ?_;refine av ⟨_,aa,k+1,a+n,PB++[((A53,c53,(jF (dc false ((L.drop a).take n)) pl).1):kP)],A62,c62,A68,c68,⟨aa,by simp[x'],by simpa using ame,fun e h=>(by
      rcases dy.1 h with h|h
      ·exact mG e h
      ·rw[lE.1 h];exact hbw.1),aa⟩,rfl,bm,.trans ((ef (gl (gl (gl (gl (gl (.skip (.refl _))))))))) (.trans (qy (e:=((A53,c53,(jF (dc false ((L.drop a).take n)) pl).1):kP)) [.own 27 1 A62 (PB.length+1) c62 (PB.map dq++[dq ((A53,c53,(jF (dc false ((L.drop a).take n)) pl).1):kP)]),.own 3 1 A68 (PB.length+1) c68 (bx (PB.map (·.2.2.length))++[ah ((jF (dc false ((L.drop a).take n)) pl).1.length:Int)]),Db g8 vM gs.length wE A68 (PB.length+1) c68 0 0,.own 3 1 vM gs.length wE (bx gs),.bE g2 23 [ah (S:Int),.bool pl,ah (sz:Int),ah da,ah pa,ah ch]]) (ax ak ak (ax ak sG (bp ak (.refl _)))))⟩
   ·obtain rfl:k=gs.length:=by omega
    have It:=NI.all;rw[BJ]at It;have acO:PB.map (·.2.2)=eQ ((S:Int),pl,(sz:Int),da,pa,ch) L:=by
     rw[show eQ ((S:Int),pl,(sz:Int),da,pa,ch) L=jy false pl gs L by unfold eQ;rw[←Qg],←It];simp[jy]
    have hbP:aL B w0 (PB.map fx++F) 4 (.slice A L.length c) L.length (cU L):=hb.mono (gz _ _);have tz:=qW (L:=L) aa;refine bM ?_;refine ay rfl (XQ L hbP.cons.cons.cons.cons.cons hx aa) fun A75 c75=>?_;refine ay rfl (qC HT (l:=ko L) aB aa) fun A76 c76=>?_;refine b8 ?_;refine cC (.own 5 1 A76 (cY (ko L)).length c76 (bv (cY (ko L))):: .own 5 1 A75 (ko L).length c75 (bv (ko L)):: .own 27 1 Ap PB.length cp (PB.map dq):: .own 3 1 As PB.length cs (bx (PB.map (·.2.2.length)))::Db g8 vM gs.length wE As PB.length cs 0 0:: .own 3 1 vM gs.length wE (bx gs):: .bE g2 23 [ah (S:Int),.bool pl,ah (sz:Int),ah da,ah pa,ah ch]::(PB.map fx++F)) ?_;refine ab 0 ?_;refine ab 1 ?_;refine ab 2 ?_;refine ab 3 ?_;refine ab 4 ?_;refine az 5 ?_;refine gC rfl .no apt rfl (Us (L:=L) hbP.cons.cons.cons.cons.cons.cons.cons LG) rfl (by rintro _ _ ⟨AT,cT,AL,cL,LL,rfl,rfl,ahB⟩;exact gF) ?_;rintro _ _ ⟨AT,cT,AL,cL,LL,rfl,cJ,ahB⟩;obtain rfl:=cJ.symm;refine az 6 ?_;refine b7 rfl rfl (aeh (T:=mR L) (LL:=toI LL) (size:=(sz:Int)) (bound:=((L.length:Nat):Int)) (m:=(mR L).length) (d:=qJ ((S:Int),pl,(sz:Int),da,pa,ch) L) (by have:=dC List.length ahB;rw[CP];simpa[JA,mR]using this) (aL.own (.head _)) aoK (WY fun e he=>.tail _ (.tail _ (j_ _ (je (f:=jP) he)))) (fun e he=>by have:=XA ahB e he;omega) (by have:=(wU (o:=((S:Int),pl,(sz:Int),da,pa,ch)) (L:=L) (sz:=sz) rfl aa aa LG tA).2.2.2.2;omega) (by rw[yU,ahB];exact YN aa aa LG tA rfl)) fun A84 c84=>?_;refine ab 7 ?_;refine ab 8 ?_;refine ab 9 ?_;refine ab 10 ?_;refine ab 11 ?_;refine cP [8,9,15,16,17] ?_;refine bH ?_;refine yX (.cons (.skip (.skip (dA _ _)))) ?_;have hCe:oZ L=cY (ko L):=rfl;have hIe:pb ((S:Int),pl,(sz:Int),da,pa,ch) L=cY (qJ ((S:Int),pl,(sz:Int),da,pa,ch) L):=rfl;have hCl:(oZ L).length=(ko L).length+4:=by rw[hCe,du]
    have hIl:(pb ((S:Int),pl,(sz:Int),da,pa,ch) L).length=(qJ ((S:Int),pl,(sz:Int),da,pa,ch) L).length+4:=by rw[hIe,du]
    rw[←hCe];have hss:(PB.map (·.2.2.length))=(eQ ((S:Int),pl,(sz:Int),da,pa,ch) L).map List.length:=by rw[←acO];simp
    have hse:PB.length=(PB.map (·.2.2.length)).length:=by simp
    have hdl:(xR gs (PB.map (·.2.2.length)) (oZ L).length (pb ((S:Int),pl,(sz:Int),da,pa,ch) L).length).length≤60+20*gs.length:=by
     have h1:=y_ gs (PB.map (·.2.2.length)) (fun n hn=>Xy) (fun n hn=>by
      obtain⟨e,he,rfl⟩:=pS.1 hn;have:=mG e he;omega) gs.length
     have h2:uO gs (PB.map (·.2.2.length)) gs.length=(gs.zip (PB.map (·.2.2.length))).flatMap fun p=>aS p.1++aS p.2:=by unfold uO;rw[fD bO]
     rw[h2]at h1;have h3:=aT (x:=gs.sum) aa;have h4:=aT (x:=gs.length) aa;have h5:=aT (x:=(oZ L).length) aa;have h6:=aT (x:=(pb ((S:Int),pl,(sz:Int),da,pa,ch) L).length) aa;unfold xR;simp only[aX];omega
    have hDe:qa ((S:Int),pl,(sz:Int),da,pa,ch) L=cY (xR gs (PB.map (·.2.2.length)) (oZ L).length (pb ((S:Int),pl,(sz:Int),da,pa,ch) L).length):=by unfold qa;rw[hss,←Qg]
    obtain⟨dr,YA⟩:∃x,xR gs (PB.map (·.2.2.length)) (oZ L).length (pb ((S:Int),pl,(sz:Int),da,pa,ch) L).length=x:=⟨_,rfl⟩
    rw[YA]at hdl hDe;have hDl:(qa ((S:Int),pl,(sz:Int),da,pa,ch) L).length=dr.length+4:=by rw[hDe,du]
    have hPB:∀e∈PB,aL B w0 (PB.map fx++F) 1 (dq e) e.2.2.length (bv e.2.2):=fun e he=>aL.own (j_ _ (je (f:=fx) he));have aqc:=DV (m:=33000) PB mG;have asU:∀x∈(PB.map (·.2.2.length)),x≤1000000000000000:=fun x hx=>(by
     obtain⟨e,he,rfl⟩:=pS.1 hx;have:=mG e he;omega)
    refine bI ?_;refine aj (fun h88=>?_) fun h88=>?_
    ·exfalso;exact h88 rfl
    ·refine bI ?_;refine ay rfl (qC HT (l:=qJ ((S:Int),pl,(sz:Int),da,pa,ch) L) aB aa) fun A91 c91=>?_;refine b8 ?_;rw[←hIe];refine c_ ?_;refine ay rfl ((Q5 (cc:=(oZ L).length) (ii:=(pb ((S:Int),pl,(sz:Int),da,pa,ch) L).length) hse bO aB aB aa aa asU aa aa YA).perm ((pu6 (fT (fT (fT (fT (fT (fT (fT (fT (.refl _)))))))))))) fun A98 c98=>?_;refine ay rfl (qC HT (l:=dr) aB aa) fun A99 c99=>?_;refine b8 ?_;rw[←hDe];refine bH ?_;refine ae (bw underlying3 underlying60 rfl (r:=((qa ((S:Int),pl,(sz:Int),da,pa,ch) L).length:Int)) (ga aa aa)) rfl ?_;refine ay rfl (No (x:=(qa ((S:Int),pl,(sz:Int),da,pa,ch) L).length) aa) fun aru atF=>?_;refine bI ?_;refine ve [9,15,16,18,19] ?_;refine bM ?_;refine cH (aF fH [_,_,_,_] rfl rfl cA aa aa) fun atE=>?_;refine gw (bW fH rfl aV rfl aB cA aa aa) fun aaK abm=>?_;refine ay rfl (agv (PB:=PB) (l:=dx ((S:Int),pl,(sz:Int),da,pa,ch) L) (l1:=oZ L) (l2:=pb ((S:Int),pl,(sz:Int),da,pa,ch) L) (l3:=qa ((S:Int),pl,(sz:Int),da,pa,ch) L) (l4:=fI (qa ((S:Int),pl,(sz:Int),da,pa,ch) L).length 4) aB rfl (fun e he=>by repeat (first|exact hPB e he|apply aL.cons)) aB aB aB aB (by rw[acO];rfl) (by unfold dx;rw[←acO];simp only[aX,qe];omega) aa) fun arw arE=>?_;refine bI ?_;refine ao (.cons (.skip (.skip (.skip (.skip (.skip (.skip (.skip (.skip (.skip (.skip (.skip (.skip (.skip (dA _ _))))))))))))))) ?_;refine aE ?_;exact⟨arw,arE,rfl,rfl⟩
theorem C_(HT:bK B w0){o:aO}{L:List aH}(hx:∀x∈L,x.1<18446744073709551616)(hb:aL B w0 F 4 (.slice A L.length c) L.length (cU L)):a_ B w0 22 [.agg (aO.cells o).toArray,.slice A L.length c] F (LV (fY o L) F):=by
 by_cases h:cm 2 (o2 o)≠0
 ·exact QJ h
 ·by_cases hc:cO L≠0
  ·exact QK h hc hb
  ·exact QL HT h hc hx hb
section
abbrev Ob(g gc:Nat)(sx:Value)(o:aO)(r b:Nat):Ch:=.bE g 205 [bq gc,sx,ah o.1,.bool o.2.1,ah o.2.2.1,ah o.2.2.2.1,ah o.2.2.2.2.1,ah o.2.2.2.2.2,ah r,ah b]
theorem adX(x:al):(oh1 x).b=x:=Cs.cK _ _ _
theorem akz(x:al):(V7 x).b=x:=by
 unfold V7;split
 ·rw[qX];exact(Cs.cK _ _ _).trans (adX x)
 ·exact(Cs.cK _ _ _).trans (adX x)
theorem akA(x:al):(oh3 x).b=x:=(Cs.cK _ _ _).trans (akz x)
theorem akB(x:al):(Ce x).b=x:=(Cs.cK _ _ _).trans (akA x)
theorem SE{x:al}(h:x.length≤1099511627776):cu (oh1 x):=(pf h).bX aa
theorem adY{x:al}(h:x.length≤1099511627776):cu (V7 x):=by
 unfold V7;split
 ·exact(SE h).eJ.failed _
 ·exact(SE h).eJ
theorem SF{x:al}(h:x.length≤1099511627776):cu (oh3 x):=(adY h).bX aa
theorem SG(x:al):((G7 x:Nat):Int)≤20000:=Cs.gy _ aa aa
theorem amY{x:al}(h:x.length≤1099511627776):cu (Ce x):=(SF h).bX (by have:=SG x;omega)
theorem Zu{x:al}{sx:Value}(hb:fq B w0 F A c x)(dh:x.length≤1099511627776):
  a_ B w0 125 [bq g] (Ob g gc sx ib 0 0::Cv gc A c ⟨x,0,0⟩::F)
   (fun r L=>r=ah (ohE x)∧L=Ob g gc sx (ohO x) (G7 x) (CI x)::Cv gc A c (Ce x)::F):=by
 have k1:=adX x;have k2:=akz x;have k3:=akA x;have k4:=akB x;have hR:=SG x;have hB:((CI x:Nat):Int)≤G7 x:=Cs.gy _ aa aa;obtain⟨bl,GR⟩:=cR (Cs.int ⟨x,0,0⟩ 32768);have al7:((bl:Nat):Int)≤32768:=by rw[GR];exact Cs.gy _ aa aa
 have hx8:=mH (Zr x);obtain⟨y,hy⟩:=cR ((Zr x).toNat);have e1:oh1 x=Cs.bX ⟨x,0,0⟩ 32768:=rfl;have hO:ohO x=(((bl:Nat):Int),decide ((y:Int)=1),0,0,0,0):=by
  unfold ohO;rw[←GR,←hy];congr 2;exact z_.2 ⟨fun h=>by omega,fun h=>aa⟩
 have hE:ohE x=if (Ce x).e≠0 then (Ce x).e else cm 1 (((bl:Nat):Int),decide ((y:Int)=1),0,0,0,0):=by unfold ohE;rw[hO]
 rw[hO,hE];rw[←hy]at hx8;refine fw func125 65 [0] ?_;refine cD ?_;refine ai rfl ((iI (g:=gc) (s:=⟨x,0,0⟩) (pf dh) (aL.cons hb) aa aa).perm ((l0 (fT (.refl _))))) ?_;refine bD ?_;rw[←GR,←e1];refine bI ?_;refine ai rfl (ov (s:=oh1 x) (SE dh) (by rw[k1];exact hb.cons)) ?_;refine bH ?_;refine d_ (fun zf zL=>Sub zf [(0,bq g),(3,.int .u8 (y:Int))]∧Wk zL (Cv gc A c (V7 x)::Ob g gc sx (((bl:Nat):Int),false,0,0,0,0) 0 0::F)) ?_ ?_
 ·refine aE ?_;refine Bb [(0,bq g),(3,.int .u8 (y:Int))] ⟨rfl,(by rw[hy];rfl),trivial⟩ ?_;refine bI ?_;refine aj (fun ja=>?_) fun ja=>?_
  ·refine bI ?_;refine ai rfl (nf 2) ?_;refine ve [0,3] ?_;exact bC ⟨bm,mK (by unfold V7;rw[aq aa]) (.refl _)⟩
  ·refine aE ?_;exact bC ⟨bm,mK (by unfold V7;rw[aw aa]) (.refl _)⟩
 ·rintro _ _ ⟨hs,hp⟩;refine aU hs hp ?_;clear hs hp;refine cD ?_;have e3:oh3 x=(V7 x).bX 20000:=rfl;have eR:G7 x=(V7 x).int 20000:=rfl;have e4:Ce x=(oh3 x).bX (G7 x):=rfl;have eB:CI x=(oh3 x).int (G7 x):=rfl;refine bB ?_;refine ai rfl (iI (s:=V7 x) (adY dh) (by rw[k2];exact hb.cons) aa aa) ?_;refine bB ?_;rw[←eR,←e3];refine cC F ?_;refine ab 0 ?_;refine ab 1 ?_;refine ab 2 ?_;refine ab 3 ?_;refine ab 5 ?_;refine ab 6 ?_;refine ab 7 ?_;refine gU 4 8 ?_ ?_
  ·refine aE ?_;refine az 8 ?_;refine aE ?_;refine az 9 ?_;refine iZ rfl rfl (iI (s:=oh3 x) (most:=((G7 x:Nat):Int)) (SF dh) Ua aa aa) ?_;refine ab 10 ?_;refine ab 11 ?_;refine az 12 ?_;refine aE ?_;refine cP [0] ?_;refine bH ?_;rw[←eB,←e4];refine bI ?_;refine ai rfl (gO) ?_;refine bP ?_;refine aj (fun h58=>?_) fun h58=>?_
   ·refine bM ?_;refine ao ((gl (ef (.refl _)))) ?_;refine aE ?_;exact⟨by rw[aq h58],rfl⟩
   ·refine bD ?_;refine ae (bQ 6 ag rfl aV (aO.cells (((bl:Nat):Int),decide ((y:Int)=1),0,0,0,0)) rfl rfl) rfl ?_;refine ai rfl (kC 1 (((bl:Nat):Int),decide ((y:Int)=1),0,0,0,0)) ?_;refine b8 ?_;refine ao ((gl (ef (.refl _)))) ?_;refine aE ?_;exact⟨by rw[aw h58],rfl⟩
  ·refine aE ?_;refine az 4 ?_;refine aE ?_;refine az 9 ?_;refine iZ rfl rfl (iI (s:=oh3 x) (most:=((G7 x:Nat):Int)) (SF dh) Ua aa aa) ?_;refine ab 10 ?_;refine ab 11 ?_;refine az 12 ?_;refine aE ?_;refine cP [0] ?_;refine bH ?_;rw[←eB,←e4];refine bI ?_;refine ai rfl (gO) ?_;refine bP ?_;refine aj (fun h58=>?_) fun h58=>?_
   ·refine bM ?_;refine ao ((gl (ef (.refl _)))) ?_;refine aE ?_;exact⟨by rw[aq h58],rfl⟩
   ·refine bD ?_;refine ae (bQ 6 ag rfl aV (aO.cells (((bl:Nat):Int),decide ((y:Int)=1),0,0,0,0)) rfl rfl) rfl ?_;refine ai rfl (kC 1 (((bl:Nat):Int),decide ((y:Int)=1),0,0,0,0)) ?_;refine b8 ?_;refine ao ((gl (ef (.refl _)))) ?_;refine aE ?_;exact⟨by rw[aw h58],rfl⟩
theorem Ur(HT:bK B w0){b:al}{n:Nat}{xs:cV}(e1:n=b.length)(e2:xs=bv b)(hb:aL B w0 F 1 (.slice A n c) n xs)(dh:b.length≤1000000):
  a_ B w0 230 [.slice A n c] F (BlA (dL b) F):=by
 subst e1;subst e2;exact agS HT hb dh
theorem C6(b:al):(dL b).1.length≤32768:=by
 unfold dL;split
 ·simp
 ·split
  ·simp
  ·exact U5 b
theorem agI{b:al}(h:b.length≤1000000):(dL b).2.1≤b.length:=by
 unfold dL;split
 ·simp
 ·split
  ·simp
  ·have:=(alP (b:=b) aa).at_;rw[apE]at this;exact this
section
variable{s:Cs}
theorem amZ(h:(dL s.rest).2.2≠0):jR s=([],s,(dL s.rest).2.2):=by unfold jR;rw[aq h]
theorem am0(h:¬(dL s.rest).2.2≠0)(h2:(qQ true (dL s.rest).1).2≠0):jR s=([],s.b_ ((dL s.rest).2.1:Nat),(qQ true (dL s.rest).1).2):=by unfold jR;rw[aw h,aq h2]
theorem am1(h:¬(dL s.rest).2.2≠0)(h2:¬(qQ true (dL s.rest).1).2≠0)(h3:(qQ true (dL s.rest).1).1=[]):jR s=([],s.b_ ((dL s.rest).2.1:Nat),2):=by unfold jR;rw[aw h,aw h2,aq h3]
theorem am2(h:¬(dL s.rest).2.2≠0)(h2:¬(qQ true (dL s.rest).1).2≠0)(h3:¬(qQ true (dL s.rest).1).1=[]):jR s=((qQ true (dL s.rest).1).1,s.b_ ((dL s.rest).2.1:Nat),0):=by unfold jR;rw[aw h,aw h2,aw h3]
end
theorem SH(HT:bK B w0){x:al}{s:Cs}{Ax:bj}{cx r bb:Nat}{o:aO}(hs:s.b=x)(ho:cu s)(hb:fq B w0 F A c x)(hbx:fq B w0 F Ax cx x)(dh:x.length≤1000000):
  a_ B w0 193 [bq g] (Ob g gc (.slice Ax x.length cx) o r bb::Cv gc A c s::F)
   (fun v L=>∃A' c',v= .tuple #[.slice A' (jR s).1.length c',ah (jR s).2.2]∧L= .own 62 4 A' (jR s).1.length c' (cU (jR s).1)::Ob g gc (.slice Ax x.length cx) o r bb::Cv gc A c (jR s).2.1::F):=by
 have GQ:=ho.at_;rw[hs]at GQ;have hcut:=hbx.cut GQ;have er:s.rest=x.drop s.at_:=by unfold Cs.rest;rw[hs]
 have e2:(bv x).drop (s.at_*1)=bv s.rest:=by rw[cE,er];simp[bv,yj]
 have e3:x.length-s.at_=s.rest.length:=by rw[er,iN]
 have hrl:=C6 s.rest;have hra:=agI (b:=s.rest) aa;refine fw func193 46 [0] ?_;refine bD ?_;refine cC (Ob g gc (.slice Ax x.length cx) o r bb::Cv gc A c s::F) ?_;refine ab 0 ?_;refine ab 1 ?_;refine ab 2 ?_;refine ab 3 ?_;refine ab 4 ?_;refine ab 5 ?_;refine ab 6 ?_;refine ab 7 ?_;refine az 8 ?_;refine iZ rfl rfl ((zC).jj ((l0 (fT (.refl _))))) ?_;refine aW 9 rfl (bT (i:=s.at_) (size:=1) underlying27 ag rfl rfl rfl aa) ?_;refine az 10 ?_;refine b7 rfl rfl (Ur HT (b:=s.rest) e3 e2 hcut.cons.cons aa) fun Lr c19=>?_;refine ab 11 ?_;refine ab 12 ?_;refine ab 13 ?_;refine ab 14 ?_;refine ab 15 ?_;refine ab 16 ?_;refine ab 17 ?_;refine cP [0,4,5,6] ?_;refine bM ?_;refine aj (fun oh=>?_) fun oh=>?_
 ·refine bP ?_;refine aC 62 4 none ?_;rw[amZ oh];refine ao (.cons (.skip (.refl _))) ?_;refine aE ?_;exact⟨none,0,rfl,rfl⟩
 ·refine bP ?_;refine ay rfl ((ma (g:=gc) (s:=s) (m:=((dL s.rest).2.1:Nat)) ho (by rw[hs];exact hb.cons.cons) aa aa).perm ((BN (fT (fT (.refl _)))))) fun Qq c31=>?_;refine bI ?_;refine ay rfl (OU (l:=(dL s.rest).1) true aB aa) fun vM wE=>?_;refine bI ?_;refine ve [6,7] ?_;refine bz ?_;refine aj (fun D5=>?_) fun D5=>?_
  ·refine bz ?_;refine aC 62 4 none ?_;rw[am0 oh D5];refine ao ((ef (wu4 (gl (.skip (.skip (.skip (.refl _)))))))) ?_;refine aE ?_;exact⟨none,0,rfl,rfl⟩
  ·refine bM ?_;refine aj (fun GN=>?_) fun GN=>?_
   ·refine bP ?_;refine aC 62 4 none ?_;rw[am1 oh D5 (mi aa)];refine ao ((ef (wu4 (gl (.skip (.skip (.skip (.refl _)))))))) ?_;refine aE ?_;exact⟨none,0,rfl,rfl⟩
   ·refine dm ?_;rw[am2 oh D5 (fun h=>GN (by rw[h];rfl))];refine ao ((ef (tD (ef (.skip (.skip (.refl _))))))) ?_;refine aE ?_;exact⟨vM,wE,rfl,rfl⟩
theorem I5(b:Bool):∀(f:Nat) (s:Cs) (o:List aH),(ot b f s o).1.length≤o.length+f
 |0,s,o=>by simp[ot]
 |f+1,s,o=>by
  by_cases h:s.left=0
  ·rw[AQ h];simp only;omega
  ·by_cases he:(dZ b s).2.e≠0
   ·rw[AP h he];simp
   ·rw[E_ h he];have:=I5 b f (dZ b s).2 (o++[(dZ b s).1]);rw[aX,qg]at this;omega
theorem aiO(b:Bool)(l:al):(qQ b l).1.length≤l.length+1:=by
 have:=I5 b (l.length+1) ⟨l,0,0⟩ [];unfold qQ;simpa using this
theorem ad1(s:Cs):(jR s).1.length≤32769:=by
 have h1:=C6 s.rest;have h2:=aiO true (dL s.rest).1;unfold jR;split
 ·simp
 ·split
  ·simp
  ·split
   ·simp
   ·simp only;omega
theorem air{s:Cs}{x:al}(hs:s.b=x)(ho:cu s):(jR s).2.1.b=x∧cu (jR s).2.1:=by
 have h1:(s.b_ ((dL s.rest).2.1:Nat)).b=x∧cu (s.b_ ((dL s.rest).2.1:Nat)):=⟨(Cs.cK _ _ _).trans hs,ho.b_⟩
 unfold jR;split
 ·exact⟨hs,ho⟩
 ·split
  ·exact h1
  ·split
   ·exact h1
   ·exact h1
theorem I7(l:List aH):∀u∈cU l,u.oneCell'=true:=fun u hu=>by
 obtain⟨r,_,hr⟩:=List.mem_flatMap.1 hu;simp only[aH.cells,fm,ml,oj]at hr;rcases hr with rfl|rfl|rfl|rfl<;>rfl
theorem vh(l m:List aH):cU l++cU m=cU (l++m):=by simp[cU]
section
variable{f:Nat}{s:Cs}{out:List aH}{R:List aH×Cs×Int}
theorem ad0(h:oE (f+1) s out=R)(he:(jR s).2.2≠0):R=([],(jR s).2.1,(jR s).2.2):=by rw[←h,oE,aq he]
theorem aiq(h:oE (f+1) s out=R)(he:¬(jR s).2.2≠0):oE f (jR s).2.1 (out++(jR s).1)=R:=by rw[←h,oE,aw he]
variable{x:al}
theorem ais(h:oE (CI x) (Ce x) []=R)(h1:R.2.2≠0):kD x=([],R.2.2):=by unfold kD;rw[h,aq h1]
theorem V8(h:oE (CI x) (Ce x) []=R)(h1:¬R.2.2≠0)(h2:0<R.2.1.left∨R.1.length≠G7 x):kD x=([],2):=by unfold kD;rw[h,aw h1,aq h2]
theorem ait(h:oE (CI x) (Ce x) []=R)(h1:¬R.2.2≠0)(h2:¬(0<R.2.1.left∨R.1.length≠G7 x))(h3:cO R.1≠0):kD x=([],cO R.1):=by unfold kD;rw[h,aw h1,aw h2,aq h3]
theorem aiu(h:oE (CI x) (Ce x) []=R)(h1:¬R.2.2≠0)(h2:¬(0<R.2.1.left∨R.1.length≠G7 x))(h3:¬cO R.1≠0):kD x=(R.1,0):=by unfold kD;rw[h,aw h1,aw h2,aw h3]
end
theorem ad5(HT:bK B w0){x:al}{Ax:bj}{cx:Nat}{o:aO}(hb:fq B w0 F A c x)(hbx:fq B w0 F Ax cx x)(dh:x.length≤1000000):
  a_ B w0 126 [bq g] (Ob g gc (.slice Ax x.length cx) o (G7 x) (CI x)::Cv gc A c (Ce x)::F)
   (fun v L=>∃A' c' s',v= .tuple #[.slice A' (kD x).1.length c',ah (kD x).2]∧L= .own 62 4 A' (kD x).1.length c' (cU (kD x).1)::Ob g gc (.slice Ax x.length cx) o (G7 x) (CI x)::Cv gc A c s'::F):=by
 have hR:=SG x;have hB:((CI x:Nat):Int)≤G7 x:=Cs.gy _ aa aa;obtain⟨R,Yt⟩:∃R,oE (CI x) (Ce x) []=R:=⟨_,rfl⟩
 obtain⟨bb,hbb⟩:=cR (CI x);have ap2:=Yt;rw[←hbb]at hB ap2⊢;refine fw func126 47 [0] ?_;refine bD ?_;refine aY 62 4 none ?_;refine i_ ?_;refine aD (fun zf zL zm=>∃(k:Nat) (s:Cs) (out:List aH) (A':bj) (c':Nat),(k≤bb∧s.b=x∧cu s∧oE (bb-k) s out=R∧out.length≤32769*k)∧bb-k=zm∧Sub zf [(0,bq g),(4,.slice A' out.length c'),(11,ah bb),(12,ah k)]∧Wk zL (.own 62 4 A' out.length c' (cU out)::Ob g gc (.slice Ax x.length cx) o (G7 x) bb::Cv gc A c s::F)) _ ⟨0,Ce x,[],none,0,⟨bS _,akB x,amY aa,ap2,ak⟩,rfl,bm,.refl _⟩ ?_;rintro _ _ _ ⟨k,s,out,A',c',⟨hk,Qk,hso,wO,Kl⟩,rfl,hs,hp⟩;refine aU hs hp ?_;clear hs hp;refine bB ?_;refine aj (fun nh=>?_) fun nh=>?_
 ·obtain⟨f,hf⟩:∃f,bb-k=f+1:=⟨bb-k-1,aa⟩
  rw[hf]at wO;have zQ:=ad1 s;have hkc:=air Qk hso;have oB:=I7 (jR s).1;refine bD ?_;refine ay rfl (.perm (SH (g:=g) HT Qk hso hb.cons hbx.cons dh) ((l0 (l0 (fT (.refl _)))))) fun A16 c16=>?_;refine dX ?_;refine aj (fun ja=>?_) fun ja=>?_
  ·have Yu:=ad0 wO ja;have hL:=ais Yt (by rw[Yu];exact ja);rw[Yu]at hL;refine dX ?_;rw[hL];refine aC 62 4 none ?_;refine ao ((ef (gl (gl (.skip (.skip (.refl _))))))) ?_;refine aE ?_;exact⟨none,0,_,rfl,rfl⟩
  ·have RJ:=aiq wO ja;have wR:(out++(jR s).1).length=out.length+(jR s).1.length:=aX;refine bI ?_;refine gw (bW WD rfl aV rfl aB cA aa aa) fun Bh Dc=>?_;refine bM ?_;refine av ⟨_,aa,k+1,(jR s).2.1,out++(jR s).1,Bh,Dc,⟨aa,hkc.1,hkc.2,by rw[show bb-(k+1)=f by omega];exact RJ,aa⟩,rfl,bm,.trans ((tD (gl (gl (.skip (.refl _)))))) (ax aa (vh _ _) (.refl _))⟩
 ·obtain rfl:k=bb:=by omega
  rw[nA]at wO;have Yu:R=(out,s,0):=wO.symm;rw[Yu]at Yt;refine cD ?_;refine ai rfl ((JN (g:=gc) (s:=s) hso (by rw[Qk];exact hb.cons.cons)).jj ((BN (fT (fT (.refl _)))))) ?_;refine be ?_;refine aI rfl rfl rfl (fun Bu=>?_) (fun Bu=>?_)
  ·refine dX ?_;refine ve [4,40] ?_;refine aE ?_;refine aj (fun h40=>?_) fun h40=>?_
   ·refine bM ?_;have hL:=V8 Yt ak (.inr cZ);rw[hL];refine aC 62 4 none ?_;refine ao ((ef (gl (gl (.skip (.refl _)))))) ?_;refine aE ?_;exact⟨none,0,_,rfl,rfl⟩
   ·refine bB ?_;refine ai rfl (oS out aB) ?_;refine bP ?_;refine aj (fun tS=>?_) fun tS=>?_
    ·refine bP ?_;have hL:=ait Yt ak (fun h=>h.elim (fun h=>L8) fun h=>L8) tS;rw[hL];refine aC 62 4 none ?_;refine ao ((ef (gl (gl (.skip (.refl _)))))) ?_;refine aE ?_;exact⟨none,0,_,rfl,rfl⟩
    ·refine bz ?_;have hL:=aiu Yt ak (fun h=>h.elim (fun h=>L8) fun h=>L8) tS;rw[hL];refine aE ?_;exact⟨A',c',_,rfl,rfl⟩
  ·refine bD ?_;refine ve [4,40] ?_;refine bz ?_;have hL:=V8 Yt ak (.inl cZ);rw[hL];refine aC 62 4 none ?_;refine ao ((ef (gl (gl (.skip (.refl _)))))) ?_;refine aE ?_;exact⟨none,0,_,rfl,rfl⟩
theorem am7{b:al}(h:(marked b).2≠0):gW b=([],(marked b).2):=by unfold gW;rw[aq h]
theorem am8{b:al}(h:¬(marked b).2≠0)(h2:(marked b).1≠1):gW b=([],4):=by unfold gW;rw[aw h,aq h2]
theorem am9{b:al}(h:¬(marked b).2≠0)(h2:¬(marked b).1≠1)(h3:(aK b).2≠0):gW b=([],(aK b).2):=by unfold gW;rw[aw h,aw h2,aq h3]
theorem am_{b:al}(h:¬(marked b).2≠0)(h2:¬(marked b).1≠1)(h3:¬(aK b).2≠0)(h4:(aK b).1.length<5):gW b=([],1):=by unfold gW;rw[aw h,aw h2,aw h3,aq h4]
theorem am'{b:al}(h:¬(marked b).2≠0)(h2:¬(marked b).1≠1)(h3:¬(aK b).2≠0)(h4:¬(aK b).1.length<5):gW b=((aK b).1.drop 5,0):=by unfold gW;rw[aw h,aw h2,aw h3,aw h4]
theorem SI(HT:bK B w0){b:al}(hb:fq B w0 F A c b)(dh:b.length≤1000000):
  a_ B w0 124 [.slice A b.length c] F (FrA (gW b) B w0 F):=by
 refine fw func124 30 [0] ?_;refine bP ?_;refine ai rfl (uq hb aa) ?_;refine dX ?_;refine aj (fun nh=>?_) fun nh=>?_
 ·refine bz ?_;rw[am7 nh];exact FrA.nil (Y:=[]) rfl rfl rfl
 ·refine bP ?_;refine aj (fun kH=>?_) fun kH=>?_
  ·refine bP ?_;rw[am8 nh kH];exact FrA.nil (Y:=[]) rfl rfl rfl
  ·refine bI ?_;refine ay rfl (wF HT hb aa) fun s8 uR=>?_;refine bI ?_;refine ve [5,6] ?_;refine bM ?_;refine aj (fun oO=>?_) fun oO=>?_
   ·refine bz ?_;rw[am9 nh kH oO];exact FrA.nil (Y:=[_]) rfl rfl rfl
   ·refine bz ?_;refine aj (fun ku=>?_) fun ku=>?_
    ·refine bP ?_;rw[am_ nh kH oO aa];exact FrA.nil (Y:=[_]) rfl rfl rfl
    ·have hcut:=(aL.own (B:=B) (w0:=w0) (L:=.own 5 1 s8 (aK b).1.length uR (bv (aK b).1)::F) (.head _)).cut (k:=5) aa;have e2:(bv (aK b).1).drop (5*1)=bv ((aK b).1.drop 5):=by simp[bv,yj]
     have e3:(aK b).1.length-5=((aK b).1.drop 5).length:=by rw[iN]
     rw[e2,e3]at hcut;refine bI ?_;refine ae (bT (i:=5) (size:=1) underlying27 ag rfl rfl rfl aa) rfl ?_;refine bB ?_;rw[am' nh kH oO aa];exact⟨_,_,[_],by rw[e3],rfl,hcut⟩
abbrev UnA(R:aO×List aH×Nat×Int)(F:aR)(r:Value)(L:aR):Prop:=∃A' c',r= .tuple #[.agg (aO.cells R.1).toArray,.slice A' R.2.1.length c',ah (R.2.2.1:Int),ah R.2.2.2]∧L= .own 62 4 A' R.2.1.length c' (cU R.2.1)::F
theorem am3{b:al}(h:(gW b).2≠0):lY b=(ib,[],0,(gW b).2):=by unfold lY;rw[aq h]
theorem am4{b:al}(h:¬(gW b).2≠0)(h2:ohE (gW b).1≠0):lY b=(ib,[],0,ohE (gW b).1):=by unfold lY;rw[aw h,aq h2]
theorem am5{b:al}(h:¬(gW b).2≠0)(h2:¬ohE (gW b).1≠0)(h3:(kD (gW b).1).2≠0):lY b=(ib,[],0,(kD (gW b).1).2):=by unfold lY;rw[aw h,aw h2,aq h3]
theorem am6{b:al}(h:¬(gW b).2≠0)(h2:¬ohE (gW b).1≠0)(h3:¬(kD (gW b).1).2≠0):lY b=(ohO (gW b).1,(kD (gW b).1).1,CI (gW b).1,0):=by unfold lY;rw[aw h,aw h2,aw h3]
theorem pe(b:al):(aK b).1.length≤b.length:=by
 unfold aK;split
 ·simp
 ·split
  ·simp
  ·simp
theorem ad3(b:al):(gW b).1.length≤b.length:=by
 have:=pe b;unfold gW;split
 ·simp
 ·split
  ·simp
  ·split
   ·simp
   ·split
    ·simp
    ·simp only[iN];omega
theorem fF(o:aO):∀u∈aO.cells o,u.oneCell'=true:=by simp[aO.cells,Value.oneCell']
theorem OK(HT:bK B w0){b:al}(hb:fq B w0 F A c b)(dh:b.length≤1000000):
  a_ B w0 68 [.slice A b.length c] F (UnA (lY b) F):=by
 have Ql:=ad3 b;refine fw func68 49 [0] ?_;refine be ?_;refine bg fun g2=>?_;refine bM ?_;refine ba aoS rfl (SI HT hb.cons dh) rfl ?_;rintro _ _ ⟨Ax,cx,Y,rfl,cJ,hbx⟩;obtain rfl:=cJ.symm;refine bP ?_;have GW:=om Y [.bE g2 23 [ah 0,.bool false,ah 0,ah 0,ah 0,ah 0]] F;refine fR GW ?_;have ahF:=hbx.perm GW;have GY:Wk (Y++F) F:=dA Y F;obtain⟨K,hK⟩:=cR (Y++F);simp only[N7]at ahF⊢;rw[←hK]at ahF GY⊢;have oB:=fF (ohO (gW b).1);refine bI ?_;refine aj (fun iy=>?_) fun iy=>?_
 ·refine be ?_;refine ae (cv [ah 0,.bool false,ah 0,ah 0,ah 0,ah 0] ag) rfl ?_;refine bP ?_;refine aC 62 4 none ?_;refine nk rfl rfl ag aV gD rfl rfl rfl (.cons (.skip GY)) ?_;rw[am3 iy];exact⟨none,0,rfl,rfl⟩
 ·refine bI ?_;refine eK rfl (mT ahF aa) fun gn An cn=>?_;refine aE ?_;refine ae (br [(0,_),(1,_)] [.pointer none,.slice none 0 0,ah 0,.bool false,ah 0,ah 0,ah 0,ah 0,ah 0,ah 0] [0,1] [_,_,_,_,_,_,_,_,_,_] rfl rfl ag) rfl ?_;refine bf fun g24=>?_;refine aE ?_;refine ve [2,8] ?_;refine bI ?_;refine ai rfl (Zu (x:=(gW b).1) (aL.own (.head _)) aa) ?_;refine bP ?_;refine aj (fun q9=>?_) fun q9=>?_
  ·refine be ?_;refine ae (cv [ah 0,.bool false,ah 0,ah 0,ah 0,ah 0] ag) rfl ?_;refine bP ?_;refine aC 62 4 none ?_;refine nk rfl rfl ag aV gD rfl rfl rfl (.cons (.skip (.skip (.skip (.skip GY))))) ?_;rw[am4 iy q9];exact⟨none,0,rfl,rfl⟩
  ·refine bI ?_;refine eK rfl (ad5 HT (x:=(gW b).1) (aL.own (.head _)) ahF.cons aa) fun Ar cr s9=>?_;refine dX ?_;refine aj (fun D5=>?_) fun D5=>?_
   ·refine be ?_;refine ae (cv [ah 0,.bool false,ah 0,ah 0,ah 0,ah 0] ag) rfl ?_;refine bI ?_;refine ve [2,3,4,5] ?_;refine bH ?_;refine aC 62 4 none ?_;refine nk rfl rfl ag aV gD rfl rfl rfl (.cons (.skip (.skip (.skip (.skip (.skip GY)))))) ?_;rw[am5 iy q9 D5];exact⟨none,0,rfl,rfl⟩
   ·refine bH ?_;refine cC (Ob g24 gn (.slice Ax (gW b).1.length cx) (ohO (gW b).1) (G7 (gW b).1) (CI (gW b).1)::K) ?_;refine ab 0 ?_;refine ab 1 ?_;refine ab 2 ?_;refine aW 3 rfl (bQ 6 ag rfl aV (aO.cells (ohO (gW b).1)) rfl rfl) ?_;refine ab 4 ?_;refine ab 5 ?_;refine ab 6 ?_;refine ab 7 ?_;refine ab 8 ?_;refine az 9 ?_;refine aE ?_;refine ab 10 ?_;refine ab 11 ?_;refine ab 12 ?_;refine cP [2,3,4,5] ?_;refine be ?_;refine nk rfl rfl ag aV gD rfl rfl rfl (.cons (.skip (.skip (.skip (.skip GY))))) ?_;rw[am6 iy q9 D5];exact⟨Ar,cr,rfl,rfl⟩
end
theorem aln{P:Prop}(h:P:=by(rw[Km,jd,sM];rfl)):P:=h
abbrev Bo(g:Nat)(v0 v1 v2 v3 v4 v5 v6 v7 v8 v9:Value):Ch:=.bE g 188 [v0,v1,v2,v3,v4,v5,v6,v7,v8,v9]
theorem JC{ns:bc}(hb:aL B w0 F 1 (.slice A ns.length c) ns.length (bx ns))(hl:ns.length≤1099511627776)(hs:ns.sum≤1000000000000000):
  a_ B w0 182 [bq g] (Bo g (.slice A ns.length c) v1 v2 v3 v4 v5 v6 v7 v8 v9::F) (fun r L=>r=ah (ns.sum:Nat)∧L=Bo g (.slice A ns.length c) v1 v2 v3 v4 v5 v6 v7 v8 v9::F):=by
 refine fw func182 11 [0] ?_;refine D3 ?_;refine ai rfl (C' (ns:=ns) hb.cons hl hs) ?_;refine bI ?_;exact⟨rfl,rfl⟩
theorem Jb:∀{ss:bc} {r:al} {k:Nat},k<ss.length→rE (ss.take (k+1)) r=rE (ss.take k) r++[(r.drop (ss.take k).sum).take (ss.getD k 0)]
 |[],_,_,h=>by simp at h
 |n::ss,r,0,_=>by simp[rE]
 |n::ss,r,k+1,h=>by
  have ih:=Jb (ss:=ss) (r:=r.drop n) (k:=k) nu;rw[ri,rE,ih,ri,rE,II,qj];rfl
theorem uH:∀(ss:bc) (r:al),(rE ss r).length=ss.length
 |[],_=>rfl
 |n::ss,r=>by rw[rE,eh,uH ss,eh]
theorem Uw{l:al}{n:Nat}{xs:cV}(e1:n=l.length)(e2:xs=bv l)(hb:aL B w0 F 1 (.slice A n c) n xs)(hn:l.length≤1099511627776):
  a_ B w0 36 [.slice A n c] F (fun r L=>∃A' c',r= .slice A' l.length c'∧L= .own 5 1 A' l.length c' (bv l)::F):=by
 subst e1;subst e2;exact l9 l hb hn
def SpA(ss:bc)(cc:Nat)(r:al)(B:Nat)(w0:World)(F:aR)(b:Value→Ch)(v:Value)(L:aR):Prop:=
 ∃(Af:bj) (cf:Nat) (Ac:bj) (c1:Nat) (Ai:bj) (c2:Nat) (FB:List kP),v= .tuple #[.slice Ac cc c1,.slice Ai (r.length-ss.sum-cc) c2]∧L=b (.slice Af ss.length cf):: .own 27 1 Af ss.length cf (FB.map dq)::(FB.map fx++F)∧FB.map (·.2.2)=rE ss r∧
  aL B w0 F 1 (.slice Ac cc c1) cc (bv ((r.drop ss.sum).take cc))∧aL B w0 F 1 (.slice Ai (r.length-ss.sum-cc) c2) (r.length-ss.sum-cc) (bv ((r.drop ss.sum).drop cc))
theorem Ms{ss:bc}{cc:Nat}{r:al}(hb:fq B w0 F A c r)(hcr:r.length≤c)(hs:aL B w0 F 1 (.slice A2 ss.length c2) ss.length (bx ss))(nP:ss.length≤20000)(wT:ss.sum+cc≤r.length)(hrl:r.length≤1099511627776):
  a_ B w0 180 [bq g,.slice A r.length c] (Bo g v0 (.slice A2 ss.length c2) (ah cc) v3 v4 v5 v6 v7 (.slice none 0 0) v9::F)
   (SpA ss cc r B w0 F fun v=>Bo g v0 (.slice A2 ss.length c2) (ah cc) v3 v4 v5 v6 v7 v v9):=by
 refine fw func180 49 [0,1] ?_;refine bM ?_;refine aY 27 1 none ?_;refine dm ?_;refine aD (fun zf zL zm=>∃(k:Nat) (R:al) (Ar:bj) (cr:Nat) (FB:List kP) (Af:bj) (cf:Nat),(k≤ss.length∧R=r.drop (ss.take k).sum∧R.length≤cr∧aL B w0 F 1 (.slice Ar R.length cr) R.length (bv R)∧FB.length=k∧FB.map (·.2.2)=rE (ss.take k) r)∧ss.length-k=zm∧Sub zf [(0,bq g),(1,.slice Ar R.length cr),(12,.slice A2 ss.length c2),(13,ah ss.length),(14,ah k)]∧Wk zL (.own 27 1 Af FB.length cf (FB.map dq)::Bo g v0 (.slice A2 ss.length c2) (ah cc) v3 v4 v5 v6 v7 (.slice Af FB.length cf) v9::(FB.map fx++F))) _ ⟨0,r,A,c,[],none,0,⟨bS _,ak,hcr,hb,rfl,by simp[rE]⟩,rfl,bm,.refl _⟩ ?_;rintro _ _ _ ⟨k,R,Ar,cr,FB,Af,cf,⟨hk,hR,hRc,Vh,Rv,sM⟩,rfl,hs,hp⟩;refine aU hs hp ?_;clear hs hp;refine bB ?_;refine aj (fun kS=>?_) fun kS=>?_
 ·obtain⟨n,hn⟩:=cR (ss.getD k 0);have sN:(ss.take (k+1)).sum=(ss.take k).sum+n:=by rw[aZ aa 0,wj,←hn];simp
  have hts:=nM ss (k+1);have Vi:R.length=r.length-(ss.take k).sum:=by rw[hR,iN]
  have Km:=Jb (ss:=ss) (r:=r) (k:=k) aa;rw[←hR,←hn]at Km;have zb:=Vh.js (k:=n) aa;have hct:=Vh.cut (k:=n) aa;have e1:(bv R).take (n*1)=bv (R.take n):=by rw[cE];simp[bv,pw]
  have e2:(bv R).drop (n*1)=bv (R.drop n):=by rw[cE];simp[bv,yj]
  have e3:n=(R.take n).length:=by rw[eV];omega
  have e4:R.length-n=(R.drop n).length:=by rw[iN]
  rw[e1]at zb;rw[e2,e4]at hct;have hhF:aL B w0 (FB.map fx++F) 1 (.slice Ar n cr) n (bv (R.take n)):=zb.mono (gz _ _);have hsF:aL B w0 (FB.map fx++F) 1 (.slice A2 ss.length c2) ss.length (bx ss):=hs.mono (gz _ _);refine bD ?_;refine ae (au ag rfl hsF.cons.cons aa (gd (v:=n) aa hn.symm)) rfl ?_;refine b8 ?_;refine cC (FB.map fx++F) ?_;refine ab 0 ?_;refine ab 1 ?_;refine ab 2 ?_;refine ab 3 ?_;refine ab 5 ?_;refine ab 6 ?_;refine aW 7 rfl (bZ (i:=n) (size:=1) underlying27 ag rfl rfl rfl aa) ?_;refine gU 4 8 ?_ ?_
  ·refine aE ?_;refine az 8 ?_;refine b7 rfl rfl (Uw (l:=R.take n) e3 rfl hhF.cons.cons aa) fun s_ Bp=>?_;refine az 9 ?_;refine cQ rfl (aF fH [_] rfl rfl cA aa aa) fun Gn=>?_;refine az 10 ?_;refine eW rfl (bW fH rfl aV rfl aB cA aa aa) fun Bi Bq=>?_;refine ab 11 ?_;refine ab 12 ?_;refine az 13 ?_;refine bB ?_;refine ae (bT (size:=1) underlying27 ag rfl rfl rfl aa) rfl ?_;refine aE ?_;refine ve [0,1,12,13,14] ?_;refine bB ?_;refine av ⟨_,aa,k+1,R.drop n,(if cr=n then Ar else Ar.map (·.add (n*1))),cr-n,FB++[((s_,Bp,R.take n):kP)],Bi,Bq,⟨aa,by rw[sN,hR,qj],aa,hct,by simp[Rv],aln⟩,rfl,bm,.trans ((gl (gl (gl (.skip (.refl _)))))) (.trans (qy (e:=((s_,Bp,R.take n):kP)) [.own 27 1 Bi (FB.length+1) Bq (FB.map dq++[dq ((s_,Bp,R.take n):kP)]),Bo g v0 (.slice A2 ss.length c2) (ah cc) v3 v4 v5 v6 v7 (.slice Bi (FB.length+1) Bq) v9]) (ax ak ak (bp ak (.refl _))))⟩
  ·refine b7 rfl rfl (Uw (l:=R.take n) e3 rfl hhF.cons.cons aa) fun s_ Bp=>?_;refine gU 4 9 ?_ ?_
   ·refine aE ?_;refine az 9 ?_;refine cQ rfl (aF fH [_] rfl rfl cA aa aa) fun Gn=>?_;refine az 10 ?_;refine eW rfl (bW fH rfl aV rfl aB cA aa aa) fun Bi Bq=>?_;refine ab 11 ?_;refine ab 12 ?_;refine az 13 ?_;refine bB ?_;refine ae (bT (size:=1) underlying27 ag rfl rfl rfl aa) rfl ?_;refine aE ?_;refine ve [0,1,12,13,14] ?_;refine bB ?_;refine av ⟨_,aa,k+1,R.drop n,(if cr=n then Ar else Ar.map (·.add (n*1))),cr-n,FB++[((s_,Bp,R.take n):kP)],Bi,Bq,⟨aa,by rw[sN,hR,qj],aa,hct,by simp[Rv],aln⟩,rfl,bm,.trans ((gl (gl (gl (.skip (.refl _)))))) (.trans (qy (e:=((s_,Bp,R.take n):kP)) [.own 27 1 Bi (FB.length+1) Bq (FB.map dq++[dq ((s_,Bp,R.take n):kP)]),Bo g v0 (.slice A2 ss.length c2) (ah cc) v3 v4 v5 v6 v7 (.slice Bi (FB.length+1) Bq) v9]) (ax ak ak (bp ak (.refl _))))⟩
   ·refine cQ rfl (aF fH [_] rfl rfl cA aa aa) fun Gn=>?_;refine az 4 ?_;refine aE ?_;refine az 10 ?_;refine eW rfl (bW fH rfl aV rfl aB cA aa aa) fun Bi Bq=>?_;refine ab 11 ?_;refine ab 12 ?_;refine az 13 ?_;refine bB ?_;refine ae (bT (size:=1) underlying27 ag rfl rfl rfl aa) rfl ?_;refine aE ?_;refine ve [0,1,12,13,14] ?_;refine bB ?_;refine av ⟨_,aa,k+1,R.drop n,(if cr=n then Ar else Ar.map (·.add (n*1))),cr-n,FB++[((s_,Bp,R.take n):kP)],Bi,Bq,⟨aa,by rw[sN,hR,qj],aa,hct,by simp[Rv],aln⟩,rfl,bm,.trans ((gl (gl (gl (.skip (.refl _)))))) (.trans (qy (e:=((s_,Bp,R.take n):kP)) [.own 27 1 Bi (FB.length+1) Bq (FB.map dq++[dq ((s_,Bp,R.take n):kP)]),Bo g v0 (.slice A2 ss.length c2) (ah cc) v3 v4 v5 v6 v7 (.slice Bi (FB.length+1) Bq) v9]) (ax ak ak (bp ak (.refl _))))⟩
 ·obtain rfl:k=ss.length:=by omega
  rw[jN]at hR sM;have Vi:R.length=r.length-ss.sum:=by rw[hR,iN]
  have zb:=Vh.js (k:=cc) aa;have hct:=Vh.cut (k:=cc) aa;have e1:(bv R).take (cc*1)=bv ((r.drop ss.sum).take cc):=by rw[cE,hR];simp[bv,pw]
  have e2:(bv R).drop (cc*1)=bv ((r.drop ss.sum).drop cc):=by rw[cE,hR];simp[bv,yj]
  rw[e1]at zb;rw[e2,Vi]at hct;refine c_ ?_;refine bU (bZ (i:=cc) (size:=1) underlying27 ag rfl rfl rfl aa) rfl ?_;refine bB ?_;refine bU (bT (i:=cc) (size:=1) underlying27 ag rfl rfl rfl aa) rfl ?_;refine be ?_;refine mu [(4,_),(5,_)] ⟨rfl,rfl,trivial⟩ ?_;refine be ?_;refine ao (L':=Bo g v0 (.slice A2 ss.length c2) (ah cc) v3 v4 v5 v6 v7 (.slice Af ss.length cf) v9:: .own 27 1 Af ss.length cf (FB.map dq)::(FB.map fx++F)) (.trans ((gl (ef (.refl _)))) (bp (by rw[Rv]) (ax (by rw[Rv]) rfl (.refl _)))) ?_;refine aE ?_;refine⟨Af,cf,Ar,cr,_,_,FB,?_,rfl,sM,zb,hct⟩;rw[Vi]
theorem aj6{n:Nat}{ch:al}(h:(aK ch).2≠0):xK n ch=(aK ch).2:=by unfold xK;rw[aq h]
theorem aj7{n:Nat}{ch:al}(h:¬(aK ch).2≠0)(h2:(nW n (aK ch).1).2.2.2≠0):xK n ch=(nW n (aK ch).1).2.2.2:=by unfold xK;rw[aw h,aq h2]
theorem aj8{n:Nat}{ch:al}(h:¬(aK ch).2≠0)(h2:¬(nW n (aK ch).1).2.2.2≠0)(h3:(nW n (aK ch).1).2.2.1<(aK ch).1.length):xK n ch=2:=by unfold xK;rw[aw h,aw h2,aq h3]
theorem aj9{n:Nat}{ch:al}(h:¬(aK ch).2≠0)(h2:¬(nW n (aK ch).1).2.2.2≠0)(h3:¬(nW n (aK ch).1).2.2.1<(aK ch).1.length):xK n ch=0:=by unfold xK;rw[aw h,aw h2,aw h3]
def ClA(n:Nat)(ch:al)(F:aR)(b:Value→Value→Ch)(v4 v5:Value)(v:Value)(L:aR):Prop:=
 v=ah (xK n ch)∧((xK n ch≠0∧L=b v4 v5::F)∨(xK n ch=0∧∃(A1:bj) (c1:Nat) (A2:bj) (c2:Nat),L=b (.slice A1 (nW n (aK ch).1).1.length c1) (.slice A2 (nW n (aK ch).1).2.1.length c2):: .own 60 1 A1 (nW n (aK ch).1).1.length c1 (p_ (nW n (aK ch).1).1):: .own 5 1 A2 (nW n (aK ch).1).2.1.length c2 (bv (nW n (aK ch).1).2.1)::F))
theorem HY(HT:bK B w0){ch:al}{k:Nat}(hb:fq B w0 F A c ch)(hl:ch.length≤1000000000)(hk:k≤1000000000):
  a_ B w0 181 [.pointer (some ⟨g,4,none⟩),ah k,.slice A ch.length c] (Bo g v0 v1 v2 v3 v4 v5 v6 v7 v8 v9::F) (ClA k ch F (fun x y=>Bo g v0 v1 v2 v3 x y v6 v7 v8 v9) v4 v5):=by
 have tz:=pe ch;refine fw func181 43 [0,1,2] ?_;refine bM ?_;refine ay rfl (wF HT hb.cons aa) fun A14 c14=>?_;refine dX ?_;refine aj (fun iU=>?_) fun iU=>?_
 ·refine bM ?_;refine ao (.skip (.refl _)) ?_;refine aE ?_;exact⟨by rw[aj6 iU],.inl ⟨by rw[aj6 iU];exact iU,rfl⟩⟩
 ·refine bB ?_;refine ba ao9 rfl (SV ((k:Nat):Int) (l:=(aK ch).1) aB aa aa aa) rfl ?_;rintro _ _ ⟨Bh,Dc,Hh,Lx,rfl,cJ⟩;obtain rfl:=cJ.symm;refine bP ?_;refine ve [0,7,8,9,10,11] ?_;refine bM ?_;refine aj (fun qH=>?_) fun qH=>?_
  ·refine bM ?_;refine ao ((tD (.skip (.skip (.skip (.refl _)))))) ?_;refine aE ?_;exact⟨by rw[aj7 iU qH],.inl ⟨by rw[aj7 iU qH];exact qH,rfl⟩⟩
  ·refine dm ?_;refine aj (fun GM=>?_) fun GM=>?_
   ·refine bD ?_;refine ao ((tD (.skip (.skip (.skip (.refl _)))))) ?_;refine aE ?_;exact⟨by rw[aj8 iU qH aa],.inl ⟨by rw[aj8 iU qH aa];decide,rfl⟩⟩
   ·refine dX ?_;refine ve [] ?_;refine bD ?_;refine ao ((tD (ef (ef (.skip (.refl _)))))) ?_;refine aE ?_;exact⟨by rw[aj9 iU qH aa],.inr ⟨aj9 iU qH aa,Bh,Dc,Hh,Lx,rfl⟩⟩
theorem dP.Lc{P:Program}{B:Nat}{w0:World}{f:FuncId}{args:cV}{L:aR}{R R2:qR}(h:dP P B w0 f args L R)(hr:∀v M,R v M→∃M2,Wk M M2∧R2 v M2):dP P B w0 f args L R2:=fun w hw=>(h w hw).mono fun e w' ⟨v,M,he,hR,hs⟩=>by
 obtain⟨M2,hk,Ys⟩:=hr v M hR;exact⟨v,M2,he,Ys,hk.sl hs⟩
theorem dP.at_mem{P:Program}{f:FuncId}{args:cV}{v:Value}{x:Ch}{L:aR}(hm:x∈L)(h:∀M,dP P B w0 f args (x::M) (fun r K=>r=v∧K=x::M)):dP P B w0 f args L (fun r K=>r=v∧K=L):=by
 obtain⟨s,t,rfl⟩:=List.append_of_mem hm;have hp:(s++x::t).Perm (x::(s++t)):=yp;exact((h (s++t)).perm hp).Lc fun v M ⟨h1,h2⟩=>⟨_,.dE (by rw[h2];exact hp.symm),h1,rfl⟩
end Go.Proofs.YtaodmbolhoafcaaGreatDoor

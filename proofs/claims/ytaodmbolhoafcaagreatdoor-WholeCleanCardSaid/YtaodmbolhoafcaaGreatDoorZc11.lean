/-
  Texts of one proof, joined: part 11. No condition.
-/
import Derived.Test.YtaodmbolhoafcaaGreatDoorZc10
open Go.RowKit Go.Proofs.Tryz
namespace Go.Proofs.YtaodmbolhoafcaaGreatDoor
set_option linter.unusedVariables false
set_option linter.unusedSimpArgs false
set_option maxRecDepth 20000
variable{B:Nat}{w0:World}{F L0:aP}{A A1 A2 Ao:bj}{n c c1 c2 co g gc:Nat}{s:Cs}{X:cV}{bt:TypeId}{bound size:Int}{v0 v1 v2 v3 v4 v5 v6 v7 v8 v9:Value}
theorem ko{L:List aK}(hc:cO L=0)(hx:∀x∈L,x.1<18446744073709551616):L.length≤20000∧(∀x∈L,x.fits)∧dU L≤1048576:=by
 unfold cO at hc;have:¬(20000<L.length∨(∃x∈L,uh x)∨1048576<dU L):=fun h=>by rw[ao h]at hc;simp at hc
 refine⟨aa,fun x h=>⟨hx x h,?_,?_⟩,aa⟩
 ·exact ya fun k=>this (.inr (.inl ⟨x,h,.inl k⟩))
 ·exact ya fun k=>this (.inr (.inl ⟨x,h,.inr k⟩))
theorem AF{v:Int}{o:aR}(hv:v=1∨v=2∨v=3)(h:cB v o=0):nV v o:=by
 unfold cB at h;rw[ao hv]at h;exact bH fun k=>by rw[aw k]at h;simp at h
structure Left(S:Nat)(b pl:Bool)(full acc:al)(L R:List aK)(ns:bf):Prop where
 all:acc++(jv b pl ns R).flatten=full
 fit:CW S (lens b R) ns
 sub:∀x∈R,x∈L
 w:dU R≤dU L
theorem Left.step{S:Nat}{b pl:Bool}{full acc:al}{L R:List aK}{n:Nat}{ns:bf}(h:Left S b pl full acc L R (n::ns))(hS:S≤32768)(hL:∀x∈L,x.fits):
  1≤n∧n≤R.length∧(dc b (R.take n)).length≤32768∧Left S b pl full (acc++(jA (dc b (R.take n)) pl).1) L (R.drop n) ns:=by
 obtain⟨f1,f2,f3,f4,f5⟩:=h.fit;rw[eo]at f2;refine⟨f1,f2,oF hS (fun x hx=>hL x (h.sub x hx)) f1 f3,⟨?_,ags,fun x hx=>h.sub x (rf hx),jd (Jl R n) h.w⟩⟩;rw[←h.all,bV];rfl
theorem C9{b:al}{pl:Bool}(h:b.length≤32768):(jA b pl).1.length≤33000∧(jA b pl).2=0:=by
 have hy:=xx b pl;have e1:=aT (x:=b.length) aa;have e2:=aT (x:=(kl b pl).2.length) aa;rw[Jy aa];refine⟨?_,rfl⟩;rw[du,aY];unfold xu;rw[ef,aY];omega
abbrev LO(R:al×Int)(F:aP)(r:Value)(L:aP):Prop:=∃A' c',r= .tuple #[.slice A' R.1.length c',ah R.2]∧L= .own 5 1 A' R.1.length c' (bv R.1)::F
theorem Zj{o:aR}{L:List aK}(h:cB 1 o≠0):a_ B w0 26 [.agg (aR.cells o).toArray,.slice A L.length c] F (LO (tg o L) F):=by
 have e:tg o L=([],cB 1 o):=by unfold tg;rw[ao h]
 rw[e];obtain⟨bl,pl,bu,da,pa,ch⟩:=o;refine ct func26 80 rfl rfl rfl [(0,.agg #[ah bl,.bool pl,ah bu,ah da,ah pa,ah ch]),(1,.slice A L.length c)] ⟨⟨rfl,rfl⟩,⟨rfl,rfl⟩,trivial⟩ ?_;refine be ?_;refine bh fun g2=>?_;refine bJ ?_;refine ai rfl (kD 1 (bl,pl,bu,da,pa,ch)) ?_;refine bQ ?_;refine aj (fun jk=>?_) fun jk=>?_
 ·refine bQ ?_;refine aq (.skip (.refl _)) (aD 5 1 none ?_);refine aF ?_;exact⟨none,0,rfl,rfl⟩
 ·exfalso;exact jk h
theorem Zk{o:aR}{L:List aK}(h:¬cB 1 o≠0)(hc:cO L≠0)(hb:aJ B w0 F 4 (.slice A L.length c) L.length (di L)):a_ B w0 26 [.agg (aR.cells o).toArray,.slice A L.length c] F (LO (tg o L) F):=by
 have e:tg o L=([],cO L):=by unfold tg;rw[aw h,ao hc]
 rw[e];obtain⟨bl,pl,bu,da,pa,ch⟩:=o;refine ct func26 80 rfl rfl rfl [(0,.agg #[ah bl,.bool pl,ah bu,ah da,ah pa,ah ch]),(1,.slice A L.length c)] ⟨⟨rfl,rfl⟩,⟨rfl,rfl⟩,trivial⟩ ?_;refine be ?_;refine bh fun g2=>?_;refine bJ ?_;refine ai rfl (kD 1 (bl,pl,bu,da,pa,ch)) ?_;refine bQ ?_;refine aj (fun jk=>?_) fun jk=>?_
 ·exfalso;exact h jk
 ·refine bz ?_;refine ai rfl (oK L hb.cons) ?_;refine bQ ?_;refine aj (fun nM=>?_) fun nM=>?_
  ·refine bQ ?_;refine aq (.skip (.refl _)) (aD 5 1 none ?_);refine aF ?_;exact⟨none,0,rfl,rfl⟩
  ·exfalso;exact nM hc
theorem Nn{S:Nat}{b:Bool}{L:List aK}{gs:bf}(he:jx S (lens b L)=gs)(hb:aJ B w0 F 4 (.slice A L.length c) L.length (di L))(hx:∀x∈L,x.1<18446744073709551616)(hw:dU L≤1000000000)(hS:1≤S)(hS2:S≤9223372036854775807):
  a_ B w0 43 [ah (S:Int),.bool b,.slice A L.length c] F (fun r K=>∃A' c',r= .slice A' gs.length c'∧K= .own 3 1 A' gs.length c' (bx gs)::F):=by
 have:=aca (B:=B) (w0:=w0) (F:=F) (S:Int) b L hb hx hw S aa hS2;rw[he]at this;exact this
theorem aiA(b:Bool){R:List aK}{k:Nat}(hk:k≤R.length)(hb:aJ B w0 F 4 (.slice A R.length c) R.length (di R))(hx:∀x∈R,x.1<18446744073709551616)(hw:dU R≤1048576):
  a_ B w0 45 [.bool b,.slice A k c] F (fun r K=>∃A' c',r= .slice A' (dc b (R.take k)).length c'∧K= .own 5 1 A' (dc b (R.take k)).length c' (bv (dc b (R.take k)))::F):=by
 have h:=hb.iZ hk;rw[AU]at h;have hl:k=(R.take k).length:=by rw[eS];omega
 have hd:=IY (B:=B) (w0:=w0) (F:=F) (A:=A) (c:=c) b (R.take k) (by rw[←hl];exact h) (fun x hxx=>hx x (lX hxx)) (by have:=qo R k;omega);rw[←hl]at hd;exact hd
theorem amv{v:Int}{l:al}(h:qf v=(l,0)):a_ B w0 62 [ah v] F (fun r L=>∃A' c',r= .tuple #[.slice A' l.length c',ah 0]∧L= .own 5 1 A' l.length c' (bv l)::F):=by
 have:=R5 (B:=B) (w0:=w0) (F:=F) v;rw[h]at this;exact this
theorem ahY{v:Int}(h:PI v 1 3):qf v=(dY++[UInt8.ofNat v.toNat],0):=by unfold qf;rw[ao h]
theorem Zl(HT:bI B w0){o:aR}{L:List aK}(h:¬cB 1 o≠0)(hc:¬cO L≠0)(hx:∀x∈L,x.1<18446744073709551616)(hb:aJ B w0 F 4 (.slice A L.length c) L.length (di L)):a_ B w0 26 [.agg (aR.cells o).toArray,.slice A L.length c] F (LO (tg o L) F):=by
 have e:tg o L=(qB o L,0):=by unfold tg;rw[aw h,aw hc]
 obtain⟨tu,rK,Lz⟩:=ko (bH hc) hx;have hom:=AF (.inl rfl) (bH h);obtain⟨⟨m1,m2⟩,_⟩:=hom;have GL:(dR o true L).length≤L.length:=by unfold dR;have:=mV o.1.toNat (lens true L);rwa [eo]at this
 have Nz:Left o.1.toNat true o.2.1 (tf o L++(jv true o.2.1 (dR o true L) L).flatten) (tf o L) L L (dR o true L):=⟨rfl,kv _ _,fun x hx=>hx,gj _⟩
 rw[e];refine dL.xf hb fun mh _=>?_;obtain⟨bl,pl,bu,da,pa,ch⟩:=o;simp only at m1 m2 Nz;obtain⟨S,rfl⟩:=gM (show 0≤bl by omega);rw[nB]at Nz;obtain⟨gs,P5⟩:=cN (dR ((S:Int),pl,bu,da,pa,ch) true L);have aht:jx S (lens true L)=gs:=by rw[P5];rfl
 have hH:tf ((S:Int),pl,bu,da,pa,ch) L=(dY++[1])++(aS S++([fI pl]++(aS L.length++aS gs.length))):=by rw[P5];rfl
 rw[←P5]at Nz GL;have hn1:=aT (x:=S) aa;have tU:=aT (x:=L.length) aa;have hn3:=aT (x:=gs.length) aa;have U':(tf ((S:Int),pl,bu,da,pa,ch) L).length≤60:=by rw[hH];simp only[aY,dY,ef,r_];omega
 obtain⟨full,Nt⟩:=cN (tf ((S:Int),pl,bu,da,pa,ch) L++(jv true pl gs L).flatten);have hB:qB ((S:Int),pl,bu,da,pa,ch) L=cX full:=by rw[Nt,P5];rfl
 rw[hB];rw[←Nt]at Nz;refine ct func26 80 rfl rfl rfl [(0,.agg #[ah (S:Int),.bool pl,ah bu,ah da,ah pa,ah ch]),(1,.slice A L.length c)] ⟨⟨rfl,rfl⟩,⟨rfl,rfl⟩,trivial⟩ ?_;refine be ?_;refine bh fun g2=>?_;refine bJ ?_;refine ai rfl (kD 1 ((S:Int),pl,bu,da,pa,ch)) ?_;refine bQ ?_;refine aj (fun jk=>?_) fun jk=>?_
 ·exfalso;exact h jk
 ·refine bz ?_;refine ai rfl (oK L hb.cons) ?_;refine bQ ?_;refine aj (fun nM=>?_) fun nM=>?_
  ·exfalso;exact hc nM
  ·refine bL ?_;refine ay rfl (Nn aht hb.cons hx aa aa aa) fun Bj Br=>?_;refine aF ?_;refine ve [1,2,8] ?_;refine bF ?_;refine ay rfl (amv (l:=dY++[1]) (ahY C3)) fun Qc c30=>?_;refine bL ?_;refine d_ (fun zf zL=>∃(A9:bj) (c9:Nat),Sub zf [(1,.slice A L.length c),(2,br g2),(8,.slice Bj gs.length Br),(9,.slice A9 (tf ((S:Int),pl,bu,da,pa,ch) L).length c9)]∧Wk zL (.own 5 1 A9 (tf ((S:Int),pl,bu,da,pa,ch) L).length c9 (bv (tf ((S:Int),pl,bu,da,pa,ch) L)):: .own 3 1 Bj gs.length Br (bx gs):: .bD g2 23 [ah (S:Int),.bool pl,ah bu,ah da,ah pa,ah ch]::F)) ?_ ?_
   ·refine cF (.own 5 1 Qc (dY++[1]:al).length c30 (bv (dY++[1])):: .own 3 1 Bj gs.length Br (bx gs):: .bD g2 23 [ah (S:Int),.bool pl,ah bu,ah da,ah pa,ah ch]::F) ?_;refine ae 0 ?_;refine ae 1 ?_;refine ae 2 ?_;refine aW 3 rfl (bm underlying3 underlying60 rfl (r:=(S:Int)) (f_ aa aa)) ?_;refine ae 5 ?_;refine ae 6 ?_;refine ae 9 ?_;refine ae 10 ?_;refine aW 11 rfl (bm underlying3 underlying60 rfl (r:=(L.length:Int)) (f_ aa aa)) ?_;refine ae 13 ?_;refine ae 14 ?_;refine aW 15 rfl (bm underlying3 underlying60 rfl (r:=(gs.length:Int)) (f_ aa aa)) ?_;refine az 4 ?_;refine bZ rfl rfl (iN S aa) fun A37 c37=>?_;refine az 7 ?_;refine iW rfl rfl (alu pl) ?_;refine gV 8 12 ?_ ?_
    ·refine cR rfl (aG cD [_] rfl rfl cw aa aa) fun TK=>?_;refine az 12 ?_;refine bZ rfl rfl (iN L.length aa) fun A45 c45=>?_;refine az 16 ?_;refine bZ rfl rfl (iN gs.length aa) fun A49 c49=>?_;refine az 17 ?_;refine cR rfl (aG fD [_,_,_,_,_] rfl rfl cw aa aa) fun BZ=>?_;refine az 18 ?_;refine bZ rfl rfl (Jr (l1:=dY++[1]) (l2:=aS S) (l3:=[fI pl]) (l4:=aS L.length) (l5:=aS gs.length) aB aB aB aB aB aB hH aa) fun A51 c51=>?_;refine ae 19 ?_;refine cQ [1,2,8,9] ?_;exact bC ⟨A51,c51,bp,(ed (wu6 (wu6 (.skip (.skip (.skip (.skip (.skip (.skip (.refl _))))))))))⟩
    ·refine bZ rfl rfl (iN L.length aa) fun A45 c45=>?_;refine gV 8 16 ?_ ?_
     ·refine cR rfl (aG cD [_] rfl rfl cw aa aa) fun TK=>?_;refine az 16 ?_;refine bZ rfl rfl (iN gs.length aa) fun A49 c49=>?_;refine az 17 ?_;refine cR rfl (aG fD [_,_,_,_,_] rfl rfl cw aa aa) fun BZ=>?_;refine az 18 ?_;refine bZ rfl rfl (Jr (l1:=dY++[1]) (l2:=aS S) (l3:=[fI pl]) (l4:=aS L.length) (l5:=aS gs.length) aB aB aB aB aB aB hH aa) fun A51 c51=>?_;refine ae 19 ?_;refine cQ [1,2,8,9] ?_;exact bC ⟨A51,c51,bp,(ed (wu6 (wu6 (.skip (.skip (.skip (.skip (.skip (.skip (.refl _))))))))))⟩
     ·refine bZ rfl rfl (iN gs.length aa) fun A49 c49=>?_;refine az 8 ?_;refine cR rfl (aG cD [_] rfl rfl cw aa aa) fun TK=>?_;refine az 17 ?_;refine cR rfl (aG fD [_,_,_,_,_] rfl rfl cw aa aa) fun BZ=>?_;refine az 18 ?_;refine bZ rfl rfl (Jr (l1:=dY++[1]) (l2:=aS S) (l3:=[fI pl]) (l4:=aS L.length) (l5:=aS gs.length) aB aB aB aB aB aB hH aa) fun A51 c51=>?_;refine ae 19 ?_;refine cQ [1,2,8,9] ?_;exact bC ⟨A51,c51,bp,(ed (wu6 (wu6 (.skip (.skip (.skip (.skip (.skip (.skip (.refl _))))))))))⟩
   ·rintro _ _ ⟨A9,c9,hs,hp⟩;refine aU hs hp ?_;clear hs hp;refine bQ ?_;refine aE (fun zf zL zm=>∃(k:Nat) (acc:al) (R:List aK) (Ar:bj) (cr:Nat) (A':bj) (c':Nat),(k≤gs.length∧Left S true pl full acc L R (gs.drop k)∧R.length≤cr∧aJ B w0 F 4 (.slice Ar R.length cr) R.length (di R)∧acc.length≤60+33000*k)∧gs.length-k=zm∧Sub zf [(1,.slice Ar R.length cr),(2,br g2),(9,.slice A' acc.length c'),(52,.slice Bj gs.length Br),(53,ah gs.length),(54,ah k)]∧Wk zL (.own 5 1 A' acc.length c' (bv acc):: .own 3 1 Bj gs.length Br (bx gs):: .bD g2 23 [ah (S:Int),.bool pl,ah bu,ah da,ah pa,ah ch]::F)) _ ⟨0,tf ((S:Int),pl,bu,da,pa,ch) L,L,A,c,A9,c9,⟨bT _,Nz,mh,hb,aa⟩,rfl,bp,.refl _⟩ ?_;rintro _ _ _ ⟨k,acc,R,Ar,cr,A',c',⟨hk,Nz,RA,CA,Ga⟩,rfl,hs,hp⟩;refine aU hs hp ?_;clear hs hp;refine bz ?_;refine aj (fun Yd=>?_) fun Yd=>?_
    ·obtain⟨n,hn⟩:=cN (gs.getD k 0);have hgd:gs.drop k=n::gs.drop (k+1):=by rw[hn];exact dx aa 0
     rw[hgd]at Nz;obtain⟨asz,ahw,al4,alX⟩:=Nz.step aa rK;have hbw:=C9 (b:=dc true (R.take n)) (pl:=pl) al4;have hxR:∀x∈R,x.1<18446744073709551616:=fun x h=>hx x (Nz.sub x h);have hwR:=Nz.w;have hcut:=CA.cut ahw;have hdl:(R.drop n).length=R.length-n:=iG;have wL:(acc++(jA (dc true (R.take n)) pl).1).length=acc.length+(jA (dc true (R.take n)) pl).1.length:=aY;rw[vd,←hdl]at hcut;refine bL ?_;refine ab (au ag rfl aB aa (gb (v:=n) aa hn.symm)) rfl ?_;refine b8 ?_;refine cF (.own 3 1 Bj gs.length Br (bx gs):: .bD g2 23 [ah (S:Int),.bool pl,ah bu,ah da,ah pa,ah ch]::F) ?_;refine ae 0 ?_;refine ae 1 ?_;refine aW 2 rfl (bN (i:=n) (size:=4) underlying24 ag rfl rfl rfl aa) ?_;refine ae 4 ?_;refine ae 5 ?_;refine az 3 ?_;refine bZ rfl rfl (aiA (R:=R) true ahw CA.cons.cons.cons hxR aa) fun A62 c62=>?_;refine az 6 ?_;refine bZ rfl rfl (Mp HT (b:=dc true (R.take n)) (p:=pl) aB aa) fun A65 c65=>?_;refine ae 7 ?_;refine ae 8 ?_;refine ae 9 ?_;refine ae 10 ?_;refine ae 11 ?_;refine bQ ?_;refine aj (fun h69=>?_) fun h69=>?_
     ·exfalso;exact h69 hbw.2
     ·refine bz ?_;refine fN (bS cD rfl aV rfl aB cw aa aa) fun A73 c73=>?_;refine aF ?_;refine ve [1,2,9,12,52,53,54] ?_;refine b8 ?_;refine ab (bP (i:=n) (size:=4) underlying24 ag rfl rfl rfl aa) rfl ?_;refine bJ ?_;refine av ⟨_,aa,k+1,acc++(jA (dc true (R.take n)) pl).1,R.drop n,(if cr=n then Ar else Ar.map (·.add (n*4))),cr-n,A73,c73,⟨aa,alX,aa,hcut,aa⟩,rfl,bp,.trans ((rM (rM (rM (.skip (.skip (.refl _))))))) (ax ak Bn (.refl _))⟩
    ·obtain rfl:k=gs.length:=by omega
     have hr0:=Nz.all;rw[BJ]at hr0;have uZ:acc=full:=by rw[←hr0];simp[jv]
     subst uZ;refine bJ ?_;refine ay rfl (qu HT (l:=acc) aB aa) fun A79 c79=>?_;refine bG ?_;refine aq (.cons (.skip (.skip (.skip (.refl _))))) ?_;refine aF ?_;exact⟨A79,c79,rfl,rfl⟩
theorem Zm(HT:bI B w0){o:aR}{L:List aK}(hx:∀x∈L,x.1<18446744073709551616)(hb:aJ B w0 F 4 (.slice A L.length c) L.length (di L)):a_ B w0 26 [.agg (aR.cells o).toArray,.slice A L.length c] F (LO (tg o L) F):=by
 by_cases h:cB 1 o≠0
 ·exact Zj h
 ·by_cases hc:cO L≠0
  ·exact Zk h hc hb
  ·exact Zl HT h hc hx hb
theorem nt(o:aR):a_ B w0 41 [.agg (aR.cells o).toArray] F (fun r L=>r=ah (cB 2 (o2 o))∧L=F):=by
 obtain⟨bl,pl,bu,da,pa,ch⟩:=o;refine ct func41 11 rfl rfl rfl [(0,.agg #[ah bl,.bool pl,ah bu,ah da,ah pa,ah ch])] ⟨⟨rfl,rfl⟩,trivial⟩ ?_;refine be ?_;refine bh fun g1=>?_;refine cY ?_;refine ab (bw [(0,_),(1,_),(2,_)] [ah 0,.bool false,ah 0,ah 0,ah 0,ah 0] [0,1,2] [_,_,_,_,_,_] rfl rfl ag) rfl ?_;refine ai rfl (kD 2 (bl,pl,bu,0,0,0)) ?_;refine b8 ?_;refine aq (.skip (.refl _)) ?_;refine aF ?_;exact⟨rfl,rfl⟩
theorem nK(l:bf)(k:Nat):(l.take k).sum≤l.sum:=by
 conv=>rhs;rw[←jK k l,vW]
 omega
theorem Dc{ns:bf}(hb:aJ B w0 F 1 (.slice A ns.length c) ns.length (bx ns))(hl:ns.length≤1099511627776)(hs:ns.sum≤1000000000000000):
  a_ B w0 92 [.slice A ns.length c] F (fun r L=>r=ah (ns.sum:Nat)∧L=F):=by
 refine fw func92 17 [0] ?_;refine zH ?_;refine aE (fun zf zL zm=>∃(k:Nat),(k≤ns.length)∧ns.length-k=zm∧Sub zf [(3,ah ((ns.take k).sum:Nat)),(6,.slice A ns.length c),(7,ah ns.length),(8,ah k)]∧Wk zL (F)) _ ⟨0,bT _,rfl,bp,.refl _⟩ ?_;rintro _ _ _ ⟨k,hk,rfl,hs,hp⟩;refine aU hs hp ?_;clear hs hp;refine bz ?_;refine aj (fun h9=>?_) fun h9=>?_
 ·obtain⟨v,hv⟩:=cN (ns.getD k 0);have sI:(ns.take (k+1)).sum=(ns.take k).sum+v:=by rw[ba aa 0,vW,←hv];simp
  have hle:=nK ns (k+1);refine bL ?_;refine ab (au ag rfl hb aa (gb (v:=v) aa hv.symm)) rfl ?_;refine bz ?_;refine ab (bY rfl rfl (r:=(((ns.take (k+1)).sum:Nat):Int)) ((bE aa aa).trans aa)) rfl ?_;refine bJ ?_;refine av ⟨_,aa,k+1,aa,rfl,bp,.refl _⟩
 ·obtain rfl:k=ns.length:=by omega
  rw[jU];refine de ?_;exact⟨rfl,rfl⟩
abbrev Db(g:Nat)(A1:bj)(n1 c1:Nat)(A2:bj)(n2 c2:Nat)(c i:Nat):Ch:=.bD g 83 [.slice A1 n1 c1,.slice A2 n2 c2,ah c,ah i]
def uL(ns ss:bf)(k:Nat):al:=((ns.zip ss).take k).flatMap fun p=>aS p.1++aS p.2
theorem aay{ns ss:bf}(hl:ns.length=ss.length){k:Nat}(hk:k<ns.length):uL ns ss (k+1)=uL ns ss k++(aS (ns.getD k 0)++aS (ss.getD k 0)):=by
 unfold uL;rw[ba (d:=(0,0)) bR,ua];simp[bk,fm hk,fm (show k<ss.length by omega),fm (show k<(ns.zip ss).length by simp;omega)]
theorem yZ(ns ss:bf)(h1:∀n∈ns,n<18446744073709551616)(h2:∀n∈ss,n<18446744073709551616)(k:Nat):(uL ns ss k).length≤20*k:=by
 unfold uL;have:∀l:List (Nat×Nat),(∀p∈l,p.1<18446744073709551616∧p.2<18446744073709551616)→(l.flatMap fun p=>aS p.1++aS p.2).length≤20*l.length:=by
  intro l;induction l with
  |nil=>simp
  |cons p r ih=>
   intro h;have h3:=ih fun q hq=>h q (by simp[hq]);obtain⟨h4,h5⟩:=h p ak;have h6:=aT h4;have h7:=aT h5;rw[jJ,aY,aY,ef];omega
 have h3:=this ((ns.zip ss).take k) fun p hp=>by
  have hp:=lX hp;exact⟨h1 _ (List.of_mem_zip hp).1,h2 _ (List.of_mem_zip hp).2⟩
 rw[eS]at h3;omega
theorem QO{ns ss:bf}{cc ii:Nat}(hl:ns.length=ss.length)(p9:aJ B w0 F 1 (.slice A1 ns.length c1) ns.length (bx ns))(oH:aJ B w0 F 1 (.slice A2 ss.length c2) ss.length (bx ss))(hn:ns.length≤100000)(hs:ns.sum≤1000000000000000)(jH:∀x∈ss,x≤1000000000000000)(hc:cc≤1000000000000000)(hi:ii≤1000000000000000):
  a_ B w0 50 [br g] (Db g A1 ns.length c1 A2 ss.length c2 cc ii::F) (Gg (xK ns ss cc ii) (Db g A1 ns.length c1 A2 ss.length c2 cc ii::F)):=by
 have hn1:=aT (x:=ns.sum) aa;have tU:=aT (x:=ns.length) aa;have hn3:=aT (x:=cc) aa;have hn4:=aT (x:=ii) aa;have hz:=yZ ns ss (fun n hn=>Xl) (fun n hn=>by have:=jH n hn;omega);refine fw func50 63 [0] ?_;refine bz ?_;refine cF (Db g A1 ns.length c1 A2 ss.length c2 cc ii::F) ?_;refine ae 0 ?_;refine ae 1 ?_;refine ae 2 ?_;refine ae 3 ?_;refine ae 7 ?_;refine ae 8 ?_;refine ae 9 ?_;refine ae 10 ?_;refine ae 11 ?_;refine aW 12 rfl (bm underlying3 underlying60 rfl (r:=((ns.length:Nat):Int)) (f_ aa aa)) ?_;refine az 4 ?_;refine iW rfl rfl (Dc (ns:=ns) p9.cons aa hs) ?_;refine aW 5 rfl (bm underlying3 underlying60 rfl (r:=((ns.sum:Nat):Int)) (f_ aa aa)) ?_;refine az 6 ?_;refine bZ rfl rfl (iN ns.sum aa) fun PN c12=>?_;refine az 13 ?_;refine bZ rfl rfl (iN ns.length aa) fun Ln c19=>?_;refine az 14 ?_;refine cR rfl (aG fD [_,_] rfl rfl cw aa aa) fun G_=>?_;refine az 15 ?_;refine bZ rfl rfl (Qj (l1:=aS ns.sum) (l2:=aS ns.length) aB aB aB rfl tF) fun A21 c21=>?_;refine ae 16 ?_;refine cQ [0,3] ?_;refine de ?_;refine aE (fun zf zL zm=>∃(k:Nat) (A':bj) (c':Nat) (acc:al),(k≤ns.length∧acc=aS ns.sum++aS ns.length++uL ns ss k)∧ns.length-k=zm∧Sub zf [(0,br g),(3,.slice A' acc.length c'),(25,.slice A1 ns.length c1),(26,ah ns.length),(27,ah k)]∧Wk zL (.own 5 1 A' acc.length c' (bv acc)::Db g A1 ns.length c1 A2 ss.length c2 cc ii::F)) _ ⟨0,A21,c21,aS ns.sum++aS ns.length,⟨bT _,by simp[uL]⟩,rfl,bp,(ed (tx (.skip (.skip (.skip (.refl _))))))⟩ ?_;rintro _ _ _ ⟨k,A',c',acc,⟨hk,mE⟩,rfl,hs,hp⟩;refine aU hs hp ?_;clear hs hp;refine bz ?_;refine aj (fun qx=>?_) fun qx=>?_
 ·obtain⟨v,hv⟩:=cN (ns.getD k 0);obtain⟨u,hu⟩:=cN (ss.getD k 0);have hzs:=aay hl (k:=k) aa;have Kl:=hz k;have vz:=hz (k+1);have hvs:v≤ns.sum:=by rw[hv];exact pz (bg aa 0)
  have hus:u≤1000000000000000:=by rw[hu];exact jH _ (bg aa 0)
  have hn5:=aT (x:=v) aa;have hn6:=aT (x:=u) aa;rw[←hv,←hu]at hzs;have Ga:acc.length=(aS ns.sum).length+(aS ns.length).length+(uL ns ss k).length:=by rw[mE];simp only[aY]
  refine bJ ?_;refine ab (au ag rfl aB aa (gb (v:=v) aa hv.symm)) rfl ?_;refine b8 ?_;refine cF (.own 5 1 A' acc.length c' (bv acc)::Db g A1 ns.length c1 A2 ss.length c2 cc ii::F) ?_;refine ae 0 ?_;refine ae 1 ?_;refine aW 2 rfl (bm underlying3 underlying60 rfl (r:=((v:Nat):Int)) (f_ aa aa)) ?_;refine ae 4 ?_;refine ae 5 ?_;refine ae 6 ?_;refine ae 7 ?_;refine ae 8 ?_;refine ae 9 ?_;refine aW 10 rfl (au ag rfl aB aa (gb (v:=u) aa hu.symm)) ?_;refine aW 11 rfl (bm underlying3 underlying60 rfl (r:=((u:Nat):Int)) (f_ aa aa)) ?_;refine az 3 ?_;refine bZ rfl rfl (iN v aa) fun Lo c35=>?_;refine az 12 ?_;refine bZ rfl rfl (iN u aa) fun A44 c44=>?_;refine az 13 ?_;refine cR rfl (aG fD [_,_,_] rfl rfl cw aa aa) fun A45=>?_;refine az 14 ?_;refine bZ rfl rfl (Jq (l1:=acc) (l2:=aS v) (l3:=aS u) aB aB aB aB rfl LZ) fun A46 c46=>?_;refine ae 15 ?_;refine cQ [0,3,25,26,27] ?_;refine bz ?_;refine av ⟨_,aa,k+1,A46,c46,acc++(aS v++aS u),⟨aa,by rw[hzs,mE,bV]⟩,rfl,bp,(ed (wu4 (.skip (.skip (.skip (.skip (.refl _)))))))⟩
 ·obtain rfl:k=ns.length:=by omega
  have tT:uL ns ss ns.length=(ns.zip ss).flatMap fun p=>aS p.1++aS p.2:=by unfold uL;rw[fL bR]
  have Kl:=hz ns.length;have Ga:acc.length=(aS ns.sum).length+(aS ns.length).length+(uL ns ss ns.length).length:=by rw[mE];simp only[aY]
  refine bz ?_;refine cF (.own 5 1 A' acc.length c' (bv acc)::Db g A1 ns.length c1 A2 ss.length c2 cc ii::F) ?_;refine ae 0 ?_;refine ae 1 ?_;refine ae 2 ?_;refine ae 3 ?_;refine ae 4 ?_;refine aW 5 rfl (bm underlying3 underlying60 rfl (r:=((cc:Nat):Int)) (f_ aa aa)) ?_;refine ae 7 ?_;refine ae 8 ?_;refine ae 9 ?_;refine ae 10 ?_;refine aW 11 rfl (bm underlying3 underlying60 rfl (r:=((ii:Nat):Int)) (f_ aa aa)) ?_;refine az 6 ?_;refine bZ rfl rfl (iN cc aa) fun A54 c54=>?_;refine az 12 ?_;refine bZ rfl rfl (iN ii aa) fun A60 c60=>?_;refine az 13 ?_;refine cR rfl (aG fD [_,_,_] rfl rfl cw aa aa) fun A61=>?_;refine az 14 ?_;refine bZ rfl rfl (Jq (l1:=acc) (l2:=aS cc) (l3:=aS ii) aB aB aB aB rfl LZ) fun A62 c62=>?_;refine ae 15 ?_;refine cQ [2] ?_;refine be ?_;refine aq ((ed (wu4 (.skip (.skip (.skip (.skip (.refl _)))))))) ?_;refine aF ?_;have e:xK ns ss cc ii=acc++(aS cc++aS ii):=by unfold xK;rw[mE,tT];simp only[bV]
  rw[e];exact⟨A62,c62,rfl,rfl⟩
theorem vL{P:Prop}(h:P:=by(rw[sI])):P:=h
theorem Wl(x:Nat){k:Nat}(hk:k≤7):((x:Nat):Int).fdiv (2^min (((8*k:Nat):Int)).toNat IntKind.u64.bits)=((x/2^(8*k):Nat):Int):=by
 have e:min (((8*k:Nat):Int)).toNat IntKind.u64.bits=8*k:=by
  show min _ 64=_;omega
 rw[e,G4,Vq]
theorem yY(m:Nat):IntKind.u8.wrap ((m:Nat):Int)=((m%256:Nat):Int):=by
 show((m:Nat):Int)%256=_;omega
theorem Nf{x:Nat}(hx:x<4294967296):a_ B w0 51 [.int .u64 x,ah 4] F (fun r L=>∃A' c',r= .tuple #[.slice A' (fF x 4).length c',ah 0]∧L= .own 5 1 A' (fF x 4).length c' (bv (fF x 4))::F):=by
 have CC:((x:Nat):Int).fdiv (2^min ((32:Int)).toNat IntKind.u64.bits)=0:=by
  have:=Wl x (k:=4) aa;rw[show((8*4:Nat):Int)=32 from rfl]at this;rw[this,show 8*4=32 from rfl];have:x/2^32=0:=BC aa;omega
 refine fw func51 42 [0,1] ?_;refine cJ ?_;refine aL rfl rfl rfl (fun jF=>?_) (fun jF=>?_)
 ·refine bG ?_;refine aL rfl rfl rfl (fun kg=>?_) (fun kg=>?_)
  ·refine bG ?_;refine cP (fun iF=>?_) fun iF=>?_
   ·refine b8 ?_;refine ab (eZ rfl rfl (r:=32) rfl) rfl ?_;refine aF ?_;refine ab (dj rfl rfl aa (r:=0) CC) rfl ?_;refine bG ?_;refine ve [0,1,24] ?_;refine aF ?_;refine aj (fun oc=>?_) fun oc=>?_
    ·exfalso;exact oc rfl
    ·refine bG ?_;refine cC (fb (nn:=4) (cc:=4) cD rfl rfl rfl rfl rfl aa aa aa) fun sY=>?_;refine cJ ?_;refine aE (fun zf zL zm=>∃(k:Nat),(k≤4)∧4-k=zm∧Sub zf [(0,.int .u64 x),(6,.slice sY 4 4),(28,ah 4),(29,ah k)]∧Wk zL (.own 5 1 sY 4 4 (bv (fF x k)++List.replicate (4-k) (.int .u8 0))::F)) _ ⟨0,bT _,rfl,bp,.refl _⟩ ?_;rintro _ _ _ ⟨k,hk,rfl,hs,hp⟩;refine aU hs hp ?_;clear hs hp;refine bz ?_;refine aj (fun Bv=>?_) fun Bv=>?_
     ·refine jy ?_;refine ab (eZ rfl rfl (r:=((8*k:Nat):Int)) ((bE aa aa).trans aa)) rfl ?_;refine ab (dj rfl rfl aa (r:=((x/2^(8*k):Nat):Int)) (Wl x aa)) rfl ?_;refine ab (bm underlying60 underlying5 rfl (r:=((x/2^(8*k)%256:Nat):Int)) (yY _)) rfl ?_;refine bQ ?_;refine av ⟨_,aa,k+1,aa,rfl,bp,ax rfl (by rw[cE];exact UM aa _ rfl) (.refl _)⟩
     ·obtain rfl:k=4:=by omega
      refine de ?_;refine aq (L':=.own 5 1 sY (fF x 4).length 4 (bv (fF x 4))::F) (ax ak ak (.refl _)) ?_;refine aF ?_;exact⟨sY,4,ak,rfl⟩
   ·exfalso;omega
  ·exfalso;omega
 ·exfalso;omega
theorem BL(l:al)(x:UInt8):iM (l++[x])=iM l+256^l.length*x.toNat:=by
 induction l with
 |nil=>simp[iM]
 |cons c r ih=>
  simp only[nC,iM,ih,ef,nD];rw[t_,NL];congr 2;rw[←tc];congr 1;exact nE _ _
theorem rl(l:al):iM l<256^l.length:=by
 induction l with
 |nil=>simp[iM]
 |cons c r ih=>
  have:=c.toNat_lt;simp only[iM,ef,nD];omega
theorem VX(k:Nat):(256:Nat)^k=2^(8*k):=by rw[show(256:Nat)=2^8 from rfl,←Nat.pow_mul]
theorem akp{y k:Nat}(hk:k≤6)(hy:y<256):IntKind.u64.wrap ((y:Int)*2^min (((8*k:Nat):Int)).toNat IntKind.u64.bits)=((y*256^k:Nat):Int):=by
 have e:min (((8*k:Nat):Int)).toNat IntKind.u64.bits=8*k:=by
  show min _ 64=_;omega
 have hp:(2:Nat)^(8*k)≤2^48:=kZ aa aa;have hm:y*2^(8*k)≤255*2^48:=gN aa hp;have e3:(y:Int)*2^(8*k)=((y*2^(8*k):Nat):Int):=by simp
 rw[e,e3,VX];exact f_ aa aa
theorem aqJ{m y k:Nat}(hk:k≤6)(hy:y<256)(hm:m<256^k):IntKind.u64.wrap ((BitVec.ofInt IntKind.u64.bits (m:Int) ||| BitVec.ofInt IntKind.u64.bits ((y*256^k:Nat):Int)).toNat:Int)=((m+256^k*y:Nat):Int):=by
 have hp:(2:Nat)^(8*k)≤2^48:=kZ aa aa;have hmm:y*2^(8*k)≤255*2^48:=gN aa hp;rw[VX]at hm⊢;have h64:IntKind.u64.bits=64:=rfl;have h1:(BitVec.ofInt IntKind.u64.bits (m:Int)).toNat=m:=by
  rw[IA,h64];omega
 have h2:(BitVec.ofInt IntKind.u64.bits ((y*2^(8*k):Nat):Int)).toNat=y*2^(8*k):=by
  rw[IA,h64];omega
 rw[BitVec.toNat_or,h1,h2,OD _ _ _ hm,nE (2^(8*k)) y];exact f_ aa aa
theorem JE{b:al}{k:Nat}(h:k<b.length):(bv b)[k*1]? =some (.int .u8 ((b.getD k 0).toNat:Int)):=by
 simp[bv,List.getD,fm h]
theorem wE(s:Cs):(s.take 4).length≤4:=by
 unfold Cs.take;split
 ·simp
 ·split
  ·simp
  ·rw[eS];omega
theorem HD(ho:cu s)(hb:aJ B w0 F 1 (.slice A s.b.length c) s.b.length (bv s.b)):
  a_ B w0 197 [br g,ah 4] (Cv g A c s::F) (fun r L=>r= .int .u64 (s.fixed 4)∧L=Cv g A c (s.kX 4)::F):=by
 have e1:s.fixed 4=iM (s.take 4):=by unfold Cs.fixed;rw[aw aa]
 have e2:s.kX 4=s.b_ 4:=by unfold Cs.kX;rw[aw aa]
 have hl:=wE s;obtain⟨t,ht⟩:=cN (s.take 4);rw[e1,e2];rw[←ht]at hl⊢;refine fw func197 34 [0,1] ?_;refine cY ?_;refine aL rfl rfl rfl (fun jF=>?_) (fun jF=>?_)
 ·refine bz ?_;refine dm fun lA=>?_;refine cJ ?_;refine ay rfl (mb ho hb (m:=4) aa aa) fun sX uO=>?_;rw[←ht];refine bG ?_;refine aE (fun zf zL zm=>∃(k:Nat),(k≤t.length)∧t.length-k=zm∧Sub zf [(5,.int .u64 (iM (t.take k))),(18,.slice sX t.length uO),(19,ah t.length),(20,ah k)]∧Wk zL (Cv g A c (s.b_ 4):: .own 5 1 sX t.length uO (bv t)::F)) _ ⟨0,bT _,rfl,bp,.refl _⟩ ?_;rintro _ _ _ ⟨k,hk,rfl,hs,hp⟩;refine aU hs hp ?_;clear hs hp;refine bz ?_;refine aj (fun lW=>?_) fun lW=>?_
  ·obtain⟨y,hy⟩:=cN ((t.getD k 0).toNat);have hy8:y<256:=by rw[hy];exact lQ _
   have fE:=rl (t.take k);rw[eS,za hk]at fE;have sI:iM (t.take (k+1))=iM (t.take k)+256^k*y:=by rw[ba aa 0,BL,eS,za hk,←hy]
   refine bJ ?_;refine ab (au (v:=.int .u8 (y:Int)) ag rfl aB aa (by rw[hy];exact JE aa)) rfl ?_;refine bL ?_;refine ab (bm underlying5 underlying60 rfl (r:=(y:Int)) (f_ aa aa)) rfl ?_;refine aF ?_;refine ab (eZ rfl rfl (r:=((8*k:Nat):Int)) ((bE aa aa).trans aa)) rfl ?_;refine ab (ga rfl rfl aa (r:=((y*256^k:Nat):Int)) (akp aa hy8)) rfl ?_;refine ab (tK rfl rfl (r:=((iM (t.take (k+1)):Nat):Int)) ((aqJ aa hy8 fE).trans vL)) rfl ?_;refine bJ ?_;refine av ⟨_,aa,k+1,aa,rfl,bp,.refl _⟩
  ·obtain rfl:k=t.length:=by omega
   rw[jU];refine cJ ?_;refine aq (.cons (.skip (.refl _))) ?_;refine aF ?_;exact⟨rfl,rfl⟩
 ·exfalso;omega
section
theorem aob{P:Prop}(h:P:=by(first|exact⟨fun h=>⟨by omega,h⟩,fun h=>h.2⟩|exact fun h=>absurd h.1 (by omega)|omega)):P:=h
theorem TX{P:Prop}(h:P:=by(have:=qU.1;omega)):P:=h
theorem akX{P:Prop}(h:P:=by(rw[show Lu d-(i+1)=f by omega];exact Ro)):P:=h
theorem aaW{P:Prop}(h:P:=by(rw[hu];simp[bx])):P:=h
theorem aa4{ns:bf}(hb:aJ B w0 F 1 (.slice A ns.length c) ns.length (bx ns))(hl:ns.length≤1000000000000):
  a_ B w0 264 [.slice A ns.length c,ah 0] F (fun r L=>∃k:Int,r=ah k∧(0≤k↔0∈ns)∧L=F):=by
 refine fw func264 19 [0,1] ?_;refine dQ ?_;refine aE (fun zf zL zm=>∃(k:Nat),(k≤ns.length∧∀i,i<k→ns.getD i 0≠0)∧ns.length-k=zm∧Sub zf [(0,.slice A ns.length c),(1,ah 0),(7,ah ns.length),(8,ah k)]∧Wk zL (F)) _ ⟨0,⟨bT _,fun i h=>absurd h (Nat.not_lt_zero i)⟩,rfl,bp,.refl _⟩ ?_;rintro _ _ _ ⟨k,⟨hk,hz⟩,rfl,hs,hp⟩;refine aU hs hp ?_;clear hs hp;refine bz ?_;refine aj (fun h9=>?_) fun h9=>?_
 ·obtain⟨v,hv⟩:=cN (ns.getD k 0);refine jS ?_;refine ab (au ag rfl hb aa (gb (v:=v) aa hv.symm)) rfl ?_;refine bF ?_;refine aj (fun kh=>?_) fun kh=>?_
  ·refine de ?_;refine⟨_,rfl,⟨fun _=>?_,fun _=>aa⟩,rfl⟩;have hm:=bg (l:=ns) (k:=k) aa 0;rw[←hv,show v=0 by omega]at hm;exact hm
  ·refine bL ?_;refine av ⟨_,aa,k+1,⟨aa,fun i hi=>(by
    rcases Nat.lt_succ_iff_lt_or_eq.1 hi with h|h
    ·exact hz i h
    ·subst h;omega)⟩,rfl,bp,.refl _⟩
 ·refine cJ ?_;refine⟨_,rfl,⟨fun h=>absurd h aa,fun h=>?_⟩,rfl⟩;obtain⟨i,hi,he⟩:=jZ h;exact absurd (by simp[bk,fm hi,he]) (hz i aa)
theorem Mc{ns:bf}(hb:aJ B w0 F 1 (.slice A ns.length c) ns.length (bx ns))(hl:ns.length≤1000000000000):
  a_ B w0 224 [.slice A ns.length c,ah 0] F (fun r L=>r= .bool (decide (0∈ns))∧L=F):=by
 refine fw func224 9 [0,1] ?_;refine bQ ?_;refine aX apb rfl (aa4 hb hl) rfl ?_;rintro _ _ ⟨k,rfl,hk,cA⟩;obtain rfl:=cA.symm;refine bz ?_;exact⟨ek Value.bool (z7.2 hk),rfl⟩
def FtA(R:al×al×Int)(B:Nat)(w0:World)(F:aP)(r:Value)(L:aP):Prop:=
 ∃Ar cr Ad cd Y,r= .tuple #[.slice Ar R.1.length cr,.slice Ad R.2.1.length cd,ah R.2.2]∧L=Y++F∧R.1.length≤cr∧aJ B w0 L 1 (.slice Ar R.1.length cr) R.1.length (bv R.1)∧aJ B w0 L 1 (.slice Ad R.2.1.length cd) R.2.1.length (bv R.2.1)
theorem FtA.nil{e:Int}{r:Value}{L Y:aP}(hr:r= .tuple #[.slice none 0 0,.slice none 0 0,ah e])(hL:L=Y++F):FtA ([],[],e) B w0 F r L:=⟨none,0,none,0,Y,hr,hL,gj _,aJ.AA,aJ.AA⟩
theorem ald{l:al}{n:Nat}{xs:cV}(e1:n=l.length)(e2:xs=bv l)(hb:aJ B w0 F 1 (.slice A n c) n xs)(hl:l.length≤1099511627776):
  a_ B w0 109 [.slice A n c] F (fun r L=>∃g A' c',r=br g∧L=Cv g A' c' ⟨l,0,0⟩:: .own 5 1 A' l.length c' (bv l)::F):=by
 subst e1;subst e2;exact mU hb hl
theorem J8(HT:bI B w0){b:al}(hb:eM B w0 F A c b)(c_:b.length≤1099511627776):
  a_ B w0 178 [.slice A b.length c] F (FtA (fZ b) B w0 F):=by
 refine dL.xf hb fun mh _=>?_;refine fw func178 38 [0] ?_;refine GC ?_;refine aj (fun pg=>?_) fun pg=>?_
 ·have e:fZ b=([],[],1):=by unfold fZ;rw[ao aa]
  rw[e];refine bA ?_;exact FtA.nil (Y:=[]) rfl rfl
 ·obtain⟨n,hn⟩:=cN (b.length-4);have P8:(b.length:Int)-4=(n:Int):=by omega
  have hcut:=hb.cut (k:=n) aa;have e1:(bv b).drop (n*1)=bv (b.drop n):=by rw[cE];simp[bv,yc]
  have e2:b.length-n=(b.drop n).length:=by rw[iG]
  obtain⟨k,hk⟩:=cN (ftK b);have Ip:Cs.fixed ⟨b.drop n,0,0⟩ 4=k:=by rw[hk,hn];rfl
  have atN:k<4294967296:=by
   have h1:=rl (Cs.take ⟨b.drop n,0,0⟩ 4);have h2:=wE ⟨b.drop n,0,0⟩;have h3:k=iM (Cs.take ⟨b.drop n,0,0⟩ 4):=by rw[←Ip];unfold Cs.fixed;rw[aw aa]
   have h4:(256:Nat)^(Cs.take ⟨b.drop n,0,0⟩ 4).length≤256^4:=kZ aa h2;omega
  refine bz ?_;refine ab (bP (i:=n) (size:=1) underlying27 ag rfl rfl P8 aa) rfl ?_;refine dX rfl (ald (l:=b.drop n) e2 e1 hcut aa) fun gn An cn=>?_;refine ai rfl (HD (s:=⟨b.drop n,0,0⟩) (oY aa) (aJ.own (.head _))) ?_;rw[Ip];refine ab (bm underlying60 underlying3 rfl (r:=(k:Int)) (bE aa aa)) rfl ?_;refine cY ?_;refine aj (fun iY=>?_) fun iY=>?_
  ·have e:fZ b=([],[],1):=by unfold fZ;rw[aw aa,ao aa]
   rw[e];refine bG ?_;refine ve [2,3,4] ?_;refine b8 ?_;exact FtA.nil (Y:=[_,_]) rfl rfl
  ·have hkn:k≤n:=by omega
   have hD:ftD b=aI ((b.take n).drop (n-k)):=by unfold ftD;rw[←hn,←hk]
   have e:fZ b=(b.take (n-k),(ftD b).1,(ftD b).2):=by unfold fZ;rw[aw aa,aw aa,←hn,←hk]
   rw[e,hD];have hdc:=(hb.iZ (k:=n) aa).cut (k:=n-k) aa;have wJ:=hb.iZ (k:=n-k) aa;have e3:((bv b).take (n*1)).drop ((n-k)*1)=bv ((b.take n).drop (n-k)):=by rw[cE,cE];simp[bv,yc,pn]
   have e4:n-(n-k)=((b.take n).drop (n-k)).length:=by rw[iG,eS];omega
   have e5:(bv b).take ((n-k)*1)=bv (b.take (n-k)):=by rw[cE];simp[bv,pn]
   have e6:n-k=(b.take (n-k)).length:=by rw[eS];omega
   rw[e5]at wJ;refine bL ?_;refine ab (dw rfl rfl (r:=((n-k:Nat):Int)) ((bE aa aa).trans aa)) rfl ?_;refine aF ?_;refine ab (kr (i:=n-k) (j:=n) (size:=1) underlying27 ag rfl rfl rfl rfl P8 aa aa) rfl ?_;refine ay rfl (Qy (l:=(b.take n).drop (n-k)) HT e4 e3 hdc.cons.cons (by rw[←e4];omega)) fun Bj Br=>?_;refine bG ?_;refine ve [0,3,4,5,6] ?_;refine bz ?_;refine ab (dw rfl rfl (r:=((n-k:Nat):Int)) ((bE aa aa).trans aa)) rfl ?_;refine ab (bN (i:=n-k) (size:=1) underlying27 ag rfl rfl rfl aa) rfl ?_;refine bQ ?_;refine⟨A,c,Bj,Br,[_,_,_],by rw[←e6],rfl,cZ,?_,aJ.own (.head _)⟩;simp only;rw[←e6];exact wJ.cons.cons.cons
abbrev Dx(X:cV)(g:Nat)(bt:TypeId)(A1:bj)(n1 c1:Nat)(A2:bj)(n2 c2:Nat)(c i:Nat):Ch:=.bD g bt (.slice A1 n1 c1:: .slice A2 n2 c2::ah c::ah i::X)
theorem w4{m:Nat}:∀l:bf,(∀x∈l,x≤m)→l.sum≤m*l.length
 |[],_=>by simp
 |a::r,h=>by
  have h1:=h a ak;have h2:=w4 r fun x hx=>h x oa;rw[IC,ef,t_];omega
section
variable{m f:Nat}{s:Cs}{ns ss:bf}{R:bf×bf×Cs}
theorem ag1(h:sZ m (f+1) s ns ss=R)(he:s.e=0):sZ m f ((s.bX m).bX 8388608) (ns++[s.int m]) (ss++[(s.bX m).int 8388608])=R:=by rw[←h,sZ,aw L6]
theorem abB:∀(f:Nat),sZ m f s ns ss=R→s.e≠0→R=(ns,ss,s)
 |0,h,_=>by rw[←h,sZ]
 |f+1,h,he=>by rw[←h,sZ,ao he]
end
theorem DG(d:al):((Cw d:Nat):Int)≤20000:=Cs.gx _ aa aa
theorem zw{d:al}{room:Nat}(hb:eM B w0 F A c d)(c_:d.length≤1099511627776)(qZ:room≤1099511627776):
  a_ B w0 179 [br g,.slice A d.length c,ah room] (Dx X g 188 none 0 0 none 0 0 0 0::F)
   (fun r L=>r=ah (Gy d room)∧∃A1 c1 A2 c2,L=Dx X g 188 A1 (fa d).1.length c1 A2 (fa d).2.1.length c2 (Cu d) (drI d):: .own 3 1 A1 (fa d).1.length c1 (bx (fa d).1):: .own 3 1 A2 (fa d).2.1.length c2 (bx (fa d).2.1)::F):=by
 have hR:=DG d;have hB:((Lu d:Nat):Int)≤Cw d:=Cs.gx _ aa aa;have o1:cu (dr1 d):=(oY c_).bX aa;have b1:(dr1 d).b=d:=Cs.cK _ _ _;have o2:cu (dr2 d):=o1.bX aa;have b2:(dr2 d).b=d:=(Cs.cK _ _ _).trans b1;refine fw func179 100 [0,1,2] ?_;refine bJ ?_;refine dX rfl (mU hb.cons c_) fun gn An cn=>?_;refine bz ?_;refine ai rfl (iH (s:=⟨d,0,0⟩) (most:=20000) (oY c_) (aJ.own (.head _)) aa aa) ?_;refine b8 ?_;have e0:Cs.int ⟨d,0,0⟩ 20000=Cw d:=rfl;have e1:Cs.bX ⟨d,0,0⟩ 20000=dr1 d:=rfl;rw[e0,e1];refine bF ?_;refine ai rfl (iH (s:=dr1 d) (most:=((Cw d:Nat):Int)) o1 (by rw[b1];exact aJ.own (.head _)) aa aa) ?_;refine bG ?_;have e3:(dr1 d).int ((Cw d:Nat):Int)=Lu d:=rfl;have e4:(dr1 d).bX ((Cw d:Nat):Int)=dr2 d:=rfl;rw[e3,e4];refine aZ 3 1 none ?_;refine aZ 3 1 none ?_;refine bG ?_;refine aE (fun zf zL zm=>∃(i:Nat) (s:Cs) (ns ss:bf) (A1:bj) (c1:Nat) (A2:bj) (c2:Nat),(i≤Lu d∧s.b=d∧cu s∧sZ (Cw d) (Lu d-i) s ns ss=fa d∧ns.length=i∧ss.length=i∧(∀x∈ns,x≤20000)∧(∀x∈ss,x≤8388608))∧Lu d-i=zm∧Sub zf [(0,br g),(2,ah room),(7,br gn),(8,ah (Cw d)),(9,ah (Lu d)),(10,ah i)]∧Wk zL (Cv gn An cn s:: .own 3 1 A1 ns.length c1 (bx ns):: .own 3 1 A2 ss.length c2 (bx ss)::Dx X g 188 A1 ns.length c1 A2 ss.length c2 0 0:: .own 5 1 An d.length cn (bv d)::F)) _ ⟨0,dr2 d,[],[],none,0,none,0,⟨bT _,b2,o2,rfl,rfl,rfl,fun x h=>absurd h (mo),fun x h=>absurd h (mo)⟩,rfl,bp,(rM (ed (ed (gl (ed (.refl _))))))⟩ ?_;rintro _ _ _ ⟨i,s,ns,ss,A1,c1,A2,c2,⟨hi,P9,hso,wI,Va,nN,hnx,hsx⟩,rfl,hs,hp⟩;refine aU hs hp ?_;clear hs hp;refine bF ?_;refine bW 8 26 [0,2,7,8,9,10] (i<Lu d∧s.e=0) ?_ ?_
 ·refine b8 ?_;refine cP (fun rJ=>?_) fun rJ=>?_
  ·refine be ?_;refine ai rfl (gO) ?_;refine bF ?_;exact aQ (by exact dN aob)
  ·refine bF ?_;exact aQ (by exact eU aob)
 ·refine be ?_;refine aj (fun qU=>?_) fun qU=>?_
  ·have i_:s.e=0:=qU.2;obtain⟨f,hf⟩:∃f,Lu d-i=f+1:=⟨Lu d-i-1,TX⟩
   rw[hf]at wI;have Ro:=ag1 wI i_;obtain⟨v,hv⟩:=cN (s.int (Cw d));obtain⟨s1,kY⟩:=cN (s.bX (Cw d));have o3:cu s1:=by rw[kY];exact hso.bX aa
   have b3:s1.b=d:=by rw[kY];exact(Cs.cK _ _ _).trans P9
   have Vd:(v:Int)≤Cw d:=by rw[hv];exact Cs.gx _ aa aa
   rw[←hv,←kY]at Ro;obtain⟨u,hu⟩:=cN (s1.int 8388608);have hu2:(u:Int)≤8388608:=by rw[hu];exact Cs.gx _ aa aa
   obtain⟨s2,jH⟩:=cN (s1.bX 8388608);have o4:cu s2:=by rw[jH];exact o3.bX aa
   have b4:s2.b=d:=by rw[jH];exact(Cs.cK _ _ _).trans b3
   rw[←hu,←jH]at Ro;refine b8 ?_;refine d_ (fun zf zL=>∃(A1':bj) (c1':Nat),Sub zf [(0,br g),(2,ah room),(7,br gn),(8,ah (Cw d)),(9,ah (Lu d)),(10,ah i)]∧Wk zL (Cv gn An cn s1:: .own 3 1 A1' (ns.length+1) c1' (bx ns++[ah v]):: .own 3 1 A2 ss.length c2 (bx ss)::Dx X g 188 A1' (ns.length+1) c1' A2 ss.length c2 0 0:: .own 5 1 An d.length cn (bv d)::F)) ?_ ?_
   ·refine cF F ?_;refine ae 0 ?_;refine ae 1 ?_;refine ae 2 ?_;refine ae 3 ?_;refine ae 5 ?_;refine ae 6 ?_;refine gV 4 7 ?_ ?_
    ·refine aF ?_;refine az 7 ?_;refine iW rfl rfl (iH (s:=s) (most:=((Cw d:Nat):Int)) hso TV aa aa) ?_;refine az 8 ?_;refine cR rfl (aG fJ [_] rfl rfl cw aa aa) fun A37=>?_;refine az 9 ?_;refine eV rfl (bS fJ rfl aV rfl aB cw aa aa) fun LN PR=>?_;refine ae 10 ?_;refine ae 11 ?_;refine az 12 ?_;refine be ?_;exact bC ⟨LN,PR,bp,.trans (.skip (.refl _)) (mM kY.symm (ax rfl (by rw[hv]) (.refl _)))⟩
    ·refine iW rfl rfl (iH (s:=s) (most:=((Cw d:Nat):Int)) hso TV aa aa) ?_;refine gV 4 8 ?_ ?_
     ·refine aF ?_;refine az 8 ?_;refine cR rfl (aG fJ [_] rfl rfl cw aa aa) fun A37=>?_;refine az 9 ?_;refine eV rfl (bS fJ rfl aV rfl aB cw aa aa) fun LN PR=>?_;refine ae 10 ?_;refine ae 11 ?_;refine az 12 ?_;refine be ?_;exact bC ⟨LN,PR,bp,.trans (.skip (.refl _)) (mM kY.symm (ax rfl (by rw[hv]) (.refl _)))⟩
     ·refine cR rfl (aG fJ [_] rfl rfl cw aa aa) fun A37=>?_;refine az 4 ?_;refine aF ?_;refine az 9 ?_;refine eV rfl (bS fJ rfl aV rfl aB cw aa aa) fun LN PR=>?_;refine ae 10 ?_;refine ae 11 ?_;refine az 12 ?_;refine be ?_;exact bC ⟨LN,PR,bp,.trans (.skip (.refl _)) (mM kY.symm (ax rfl (by rw[hv]) (.refl _)))⟩
   ·rintro _ _ ⟨A1',c1',hs,hp⟩;refine aU hs hp ?_;clear hs hp;refine cF F ?_;refine ae 0 ?_;refine ae 1 ?_;refine ae 2 ?_;refine ae 3 ?_;refine ae 5 ?_;refine gV 4 6 ?_ ?_
    ·refine aF ?_;refine az 6 ?_;refine iW rfl rfl (iH (s:=s1) (most:=8388608) o3 (by rw[b3];exact aB) aa aa) ?_;refine az 7 ?_;refine cR rfl (aG fJ [_] rfl rfl cw aa aa) fun A48=>?_;refine az 8 ?_;refine eV rfl (bS fJ rfl aV rfl aB cw aa aa) fun A49 c49=>?_;refine ae 9 ?_;refine ae 10 ?_;refine az 11 ?_;refine bQ ?_;refine av ⟨_,aa,i+1,s2,ns++[v],ss++[u],A1',c1',A49,c49,⟨TX,b4,o4,akX,by simp[Va],by simp[nN],fun x hx=>(by
      rcases dz.1 hx with h|h
      ·exact hnx x h
      ·rw[lF.1 h];omega),fun x hx=>(by
      rcases dz.1 hx with h|h
      ·exact hsx x h
      ·rw[lF.1 h];omega)⟩,rfl,bp,.trans (.skip (.refl _)) (mM jH.symm (ax ak sD (ax ak aaW (bq ak (.refl _)))))⟩
    ·refine iW rfl rfl (iH (s:=s1) (most:=8388608) o3 (by rw[b3];exact aB) aa aa) ?_;refine gV 4 7 ?_ ?_
     ·refine aF ?_;refine az 7 ?_;refine cR rfl (aG fJ [_] rfl rfl cw aa aa) fun A48=>?_;refine az 8 ?_;refine eV rfl (bS fJ rfl aV rfl aB cw aa aa) fun A49 c49=>?_;refine ae 9 ?_;refine ae 10 ?_;refine az 11 ?_;refine bQ ?_;refine av ⟨_,aa,i+1,s2,ns++[v],ss++[u],A1',c1',A49,c49,⟨TX,b4,o4,akX,by simp[Va],by simp[nN],fun x hx=>(by
       rcases dz.1 hx with h|h
       ·exact hnx x h
       ·rw[lF.1 h];omega),fun x hx=>(by
       rcases dz.1 hx with h|h
       ·exact hsx x h
       ·rw[lF.1 h];omega)⟩,rfl,bp,.trans (.skip (.refl _)) (mM jH.symm (ax ak sD (ax ak aaW (bq ak (.refl _)))))⟩
     ·refine cR rfl (aG fJ [_] rfl rfl cw aa aa) fun A48=>?_;refine az 4 ?_;refine aF ?_;refine az 8 ?_;refine eV rfl (bS fJ rfl aV rfl aB cw aa aa) fun A49 c49=>?_;refine ae 9 ?_;refine ae 10 ?_;refine az 11 ?_;refine bQ ?_;refine av ⟨_,aa,i+1,s2,ns++[v],ss++[u],A1',c1',A49,c49,⟨TX,b4,o4,akX,by simp[Va],by simp[nN],fun x hx=>(by
       rcases dz.1 hx with h|h
       ·exact hnx x h
       ·rw[lF.1 h];omega),fun x hx=>(by
       rcases dz.1 hx with h|h
       ·exact hsx x h
       ·rw[lF.1 h];omega)⟩,rfl,bp,.trans (.skip (.refl _)) (mM jH.symm (ax ak sD (ax ak aaW (bq ak (.refl _)))))⟩
  ·have hd3:fa d=(ns,ss,s):=(by
    by_cases hz:i<Lu d
    ·exact abB _ wI fun h=>qU ⟨hz,h⟩
    ·rw[show Lu d-i=0 by omega,sZ]at wI;exact wI.symm)
   have hC:Cu d=s.int 8388608:=by unfold Cu;rw[hd3]
   have h4:Uz d=s.bX 8388608:=by unfold Uz;rw[hd3]
   have hI:drI d=(Uz d).int 8388608:=rfl;have h5:dr5 d=((Uz d).bX 8388608).xO:=rfl;have hC2:((Cu d:Nat):Int)≤8388608:=Cs.gx _ aa aa;have hI2:((drI d:Nat):Int)≤8388608:=Cs.gx _ aa aa;have o4:cu (Uz d):=by rw[h4];exact hso.bX aa
   have b4:(Uz d).b=d:=by rw[h4];exact(Cs.cK _ _ _).trans P9
   have o5:cu ((Uz d).bX 8388608):=o4.bX aa;have b5:((Uz d).bX 8388608).b=d:=(Cs.cK _ _ _).trans b4;have hns:=w4 ns hnx;have hss:=w4 ss hsx;have hE:Gy d room=if (dr5 d).e≠0 then (dr5 d).e else if 0∈ns∨ns.sum≠Cw d∨ss.sum+Cu d+drI d≠room then 2 else 0:=by unfold Gy;rw[hd3]
   rw[hd3];simp only;refine bQ ?_;refine ai rfl (iH (s:=s) (most:=8388608) hso TV aa aa) ?_;refine bz ?_;rw[←hC,←h4];refine bF ?_;refine ai rfl (iH (s:=Uz d) (most:=8388608) o4 (by rw[b4];exact aB) aa aa) ?_;refine bL ?_;rw[←hI];refine be ?_;refine ai rfl (abc (s:=(Uz d).bX 8388608) o5 (by rw[b5];exact aB)) ?_;refine b8 ?_;rw[←h5];refine bF ?_;refine ve [0,2,8,11,65] ?_;refine aF ?_;refine aj (fun h65=>?_) fun h65=>?_
   ·rw[ao h65]at hE;refine bJ ?_;refine aq ((tx (gl (gl (.skip (.skip (.refl _))))))) ?_;refine aF ?_;exact⟨by rw[hE],A1,c1,A2,c2,rfl⟩
   ·rw[aw h65]at hE;refine bQ ?_;refine iU ao3 rfl (Mc (ns:=ns) aB aa) vv rfl ?_;refine aF ?_;refine Bd rfl rfl rfl (fun Ye=>?_) (fun Ye=>?_)
    ·refine bJ ?_;refine iU aps rfl (Dc (ns:=ns) aB aa aa) vv rfl ?_;refine bz ?_;refine Bd rfl rfl rfl (fun h81=>?_) (fun h81=>?_)
     ·refine bJ ?_;refine iU aps rfl (Dc (ns:=ss) aB aa aa) vv rfl ?_;refine alE ?_;refine na [(99,_)] ⟨rfl,trivial⟩ ?_;refine aF ?_;refine aj (fun h99=>?_) fun h99=>?_
      ·refine bL ?_;refine aq ((tx (gl (gl (.skip (.skip (.refl _))))))) ?_;refine aF ?_;exact⟨by rw[hE,ao (.inr (.inr aa))],A1,c1,A2,c2,rfl⟩
      ·refine bJ ?_;refine aq ((tx (gl (gl (.skip (.skip (.refl _))))))) ?_;refine aF ?_;exact⟨by rw[hE,aw (fun h=>h.elim Ye fun h=>h.elim (fun h=>aa) fun h=>aa)],A1,c1,A2,c2,rfl⟩
     ·refine B_ ?_;refine na [(99,_)] ⟨rfl,trivial⟩ ?_;refine bQ ?_;refine aq ((tx (gl (gl (.skip (.skip (.refl _))))))) ?_;refine aF ?_;exact⟨by rw[hE,ao (.inr (.inl aa))],A1,c1,A2,c2,rfl⟩
    ·refine ahh ?_;refine na [(99,_)] ⟨rfl,trivial⟩ ?_;refine bQ ?_;refine aq ((tx (gl (gl (.skip (.skip (.refl _))))))) ?_;refine aF ?_;exact⟨by rw[hE,ao (.inl Ye)],A1,c1,A2,c2,rfl⟩
end
theorem YR{bound p:Nat}{xs:bf}(h:kU bound xs)(hn:1≤xs.length):pq p 0 xs≤(bound-1)/p:=by
 have h1:=pr (p:=p) (xs:=xs) (k:=xs.length-1) aa;rw[show xs.length-1+1=xs.length by omega,jU]at h1;rw[h1];have:=(h (xs.length-1) aa).1;exact Nat.div_le_div_right aa
theorem MU{bound:Nat}{xs:bf}(h:kU bound xs)(hb:bound≤20000)(hn:1≤xs.length)(tU:xs.length≤600):8*(rI bound xs).length≤xs.length*(wid bound xs.length+3)+31:=by
 have hlen:=h.len;obtain⟨w,hw⟩:=cN (wid bound xs.length);obtain⟨p,hp⟩:=cN (2^w);have hq1:bound/xs.length≠0:=by have:=(Nat.le_div_iff_mul_le (x:=1) (y:=bound) (k:=xs.length) aa).2 aa;omega
 have h1:=(Nat.log2_lt hq1 (k:=w+1)).1 (by rw[hw];exact Nat.lt_succ_self _);have h2:bound<2^(w+1)*xs.length:=(Nat.div_lt_iff_lt_mul aa).1 h1;have h3:bound<p*(2*xs.length):=by
  rw[nD,←hp,tc]at h2;exact h2
 have h4:(bound-1)/p<2*xs.length:=Nat.div_lt_of_lt_mul aa;have h5:=YR (p:=p) h hn;have h6:=sq (p:=p) h xs.length (gj _);rw[jU]at h6;have h7:=mX p w xs;have D9:(aS xs.length).length≤2:=M3 1 _ aa;unfold rI;rw[aw aa,aY,dJ,←hw,←hp];unfold Lv;rw[aY,h7,h6,show xs.length*(w+3)=xs.length*w+xs.length*3 from t_ ..];generalize xs.length*w=z;omega
theorem JD{l:List cm}(h:∀s∈l,s.length≤25):(dB l).length≤45*l.length:=by
 cases l with
 |nil=>simp[dB]
 |cons t r=>
  have h1:=rA t r (fun s hs=>h s (by simp[hs]));have h2:=xN (s:=t) (by have:=h t ak;omega);have h3:=h t ak;rw[dB,aY,ef];omega
theorem C_{l:List cm}{sz:Nat}(h:∀s∈l,s.length≤25):∀m:Nat,(iV l sz (List.range m)).length≤45*(l.take (m*sz)).length
 |0=>by simp[iV]
 |m+1=>by
  have h1:=C_ (l:=l) (sz:=sz) h m;have h2:=JD (l:=ck l sz m) (fun s hs=>h s (zk hs));have h3:(l.take ((m+1)*sz)).length=(l.take (m*sz)).length+(ck l sz m).length:=by
   unfold ck;rw[j0];simp only[eS,iG];omega
  rw[lj,C',aY,h3];omega
theorem DC{l:List cm}{sz:Nat}(h1:1≤sz)(h2:sz≤64)(h:∀s∈l,s.length≤25)(hl:l.length≤1000000000):(fQ sz l).length≤20+55*l.length:=by
 have k1:=C_ (l:=l) (sz:=sz) h (gU sz l.length);have k2:=qW (l:=l) (sz:=sz) h2 h (List.range (gU sz l.length));have k3:=aT (x:=l.length) aa;have k4:(l.take (gU sz l.length*sz)).length≤l.length:=by rw[eS];omega
 have k5:gU sz l.length≤l.length+1:=by
  unfold gU;rcases wQ l.length with e|e
  ·rw[e];have:(0+(sz-1))/sz=0:=BC aa;rw[this];omega
  ·refine jd (Nat.div_le_of_le_mul (?_ :_≤sz*(l.length+1))) (gj _);have h3:=gN h1 (gj l.length);rw[t_];have h4:l.length≤sz*l.length:=by omega
   omega
 rw[vZ]at k2;simp only[fQ,aY];omega
theorem mg{bn m:Nat}:∀I:List (bf),(∀x∈I,(rI bn x).length≤m)→(I.flatMap (rI bn)).length≤m*I.length
 |[],_=>by simp
 |x::r,h=>by
  have h1:=mg r fun y hy=>h y vK;have h2:=h x ak;rw[jJ,aY,ef,t_];omega
theorem wP{o:aR}{L:List aK}{sz:Nat}(i_:o.2.2.1=sz)(h1:1≤sz)(h2:sz≤64)(hw:dU L≤1048576)(hn:L.length≤20000):
  qA o L=fQ sz (mS L)++(mR L).flatMap (rI L.length)∧kV (mS L)∧(mS L).length=(mR L).length∧(∀x∈mR L,x≠[]∧kU L.length x)∧(mS L).length≤dU L:=by
 have hio:=Jv hw hn;obtain⟨bn,N,asd,ahn,hN,hRT,hTl,hNI⟩:=Ed hio;have hbn:bn=L.length:=by omega
 subst hbn;have hNe:N=mR L:=by
  have:l9 N=l9 (mR L):=by rw[←hN];rfl
  exact zi this
 subst hNe;refine⟨?_,hRT,hTl,hNI,?_⟩
 ·unfold qA;rw[i_,Iv (T:=mS L) (I:=mR L) aa aa ahn hRT hTl hNI]
 ·have k1:=uC ((List.range L.length).flatMap (Ba L));have k2:=C7 L L.length (gj _);rw[jU]at k2;show(rQ (Ba L) L.length).length≤_;unfold rQ;omega
theorem NH{o:aR}{L:List aK}(h1:1≤o.2.2.1)(h2:o.2.2.1≤64)(hw:dU L≤1048576)(hn:L.length≤20000):(qA o L).length≤20+50066*dU L:=by
 obtain⟨sz,i_⟩:∃sz:Nat,o.2.2.1=sz:=⟨o.2.2.1.toNat,aa⟩
 obtain⟨e,k1,k2,k3,k4⟩:=wP (o:=o) (L:=L) i_ aa aa hw hn;have k5:=DC (l:=mS L) (sz:=sz) aa aa k1.le aa;have k6:=mg (bn:=L.length) (m:=50011) (mR L) fun x hx=>UB (k3 x hx).2 hn;rw[e,aY];rw[←k2]at k6;omega
theorem RI{o:aR}{L:List aK}(h1:1≤o.2.2.1)(h2:o.2.2.1≤64)(hw:dU L≤2000)(hn:L.length≤600):(qA o L).length≤4000000∧(L.length≤30→(qA o L).length≤300000):=by
 obtain⟨sz,i_⟩:∃sz:Nat,o.2.2.1=sz:=⟨o.2.2.1.toNat,aa⟩
 obtain⟨e,k1,k2,k3,k4⟩:=wP (o:=o) (L:=L) i_ aa aa aa aa;have k5:=DC (l:=mS L) (sz:=sz) aa aa k1.le aa;have k7:=fun m (hm:L.length≤m) (wM:m≤600)=>mg (bn:=L.length) (m:=m*3) (mR L);refine⟨?_,fun Bv=>?_⟩
 ·have k6:=mg (bn:=L.length) (m:=1500) (mR L) fun x hx=>by
   obtain⟨j1,j2⟩:=k3 x hx;have j3:=j2.len;have j4:=List.length_pos_iff.2 j1;have j5:=MU j2 aa aa aa;have j6:=w_ (bound:=L.length) (n:=x.length) aa;have j7:x.length*(wid L.length x.length+3)≤600*17:=gN aa aa;omega
  rw[e,aY];rw[←k2]at k6;omega
 ·have k6:=mg (bn:=L.length) (m:=70) (mR L) fun x hx=>by
   obtain⟨j1,j2⟩:=k3 x hx;have j3:=j2.len;have j4:=List.length_pos_iff.2 j1;have j5:=MU j2 aa aa aa;have j6:=w_ (bound:=L.length) (n:=x.length) aa;have j7:x.length*(wid L.length x.length+3)≤30*17:=gN aa aa;omega
  rw[e,aY];rw[←k2]at k6;omega
theorem Mb{P:Prop}(h:P:=by(rw[←hR])):P:=h
theorem aoF{P:Prop}(h:P:=by(rw[←hR]at q;exact absurd q (by decide))):P:=h
theorem abH{b:al}(hb:eM B w0 F A c b)(c_:b.length≤1000000)(aco:-9223372036854775808≤bound)(Np:bound≤9223372036854775807):
  a_ B w0 268 [ah bound,.slice A b.length c] F (fun r L=>∃p X,r= .tuple #[.pointer p,ah (iI bound b).2.1,ah (iI bound b).2.2]∧L=X++F∧
   ((iI bound b).2.2≠0→X=[])∧((iI bound b).2.2=0→∃w pp g A1 c1 A2 c2,p=some ⟨g,0,none⟩∧pp=2^w∧w≤14∧X++F=Rl g w pp A1 c1 A2 c2 (iI bound b).1 F)):=
 (abG hb c_ aco Np).mono fun r L h=>by
  rcases h with⟨h,h1,h2⟩|⟨h,w,pp,g,A1,c1,A2,c2,h1,h2,h3,h4⟩
  ·have e:(iI bound b).2.1=0:=by
    unfold iI at h⊢;split
    ·rfl
    ·split
     ·rfl
     ·split
      ·rename_i q1 q2 q3;rw[aw q1,aw q2,ao q3]at h;exact absurd rfl h
      ·split
       ·rfl
       ·rename_i q1 q2 q3 q4;rw[aw q1,aw q2,aw q3,aw q4]at h;exact absurd rfl h
   exact⟨none,[],by rw[h1,e];rfl,h2,fun _=>rfl,fun q=>absurd q h⟩
  ·exact⟨some ⟨g,0,none⟩,Rl g w pp A1 c1 A2 c2 (iI bound b).1 [],by rw[h3,h],h4,fun q=>absurd h q,fun _=>⟨w,pp,g,A1,c1,A2,c2,rfl,h1,h2,rfl⟩⟩
theorem ag3{b:al}(h:(iI bound b).2.2=0)(PZ:bound≤9223372036854775807):(iI bound b).2.1≤b.length∧(iI bound b).1.length≤20000∧∀i,i<(iI bound b).1.length→(iI bound b).1.getD i 0≤1000000:=by
 obtain⟨bn,rfl,h2,h3,_,h5⟩:=MS PZ h;exact⟨h5,jd h3.len h2,h3.le h2⟩
theorem anL{t:TypeId}{A8:bj}{c8 m:Nat}{vs:cV}{e:rG}{O:List rG}(hm:m=O.length+1)(hv:vs=O.map jM++[jM e]):Wk (jL e:: .own t 1 A8 m c8 vs::(O.map jL++F)) (.own t 1 A8 (O++[e]).length c8 ((O++[e]).map jM)::((O++[e]).map jL++F)):=by
 subst hm;subst hv;refine .swap (ax ak ak (.dD ?_));rw[jb,bV];exact yg.symm
theorem Lg{M N:aP}(h:Wk M N):∀R:aP,Wk (R++M) (R++N)
 |[]=>h
 |_::R=>.cons (Lg h R)
theorem aqP{a b c d:Ch}{R:aP}(X:aP):(X++a::b::c::d::R).Perm (a::b::c::d::(X++R)):=
 yg.trans ((yg.trans ((yg.trans (List.perm_middle.cons c)).cons b)).cons a)
def aaE(bound:Int)(n:Nat)(b:al)(F:aP)(r:Value)(L:aP):Prop:=
 ∃(A1:bj) (c1 m:Nat) (X:aP),r= .tuple #[.slice A1 m c1,ah (LF bound n b []).2]∧L=X++F∧((LF bound n b []).2≠0→A1=none∧c1=0∧m=0∧X=[])∧
  ((LF bound n b []).2=0→∃LL:List rG,LL.map (·.2.2)=(LF bound n b []).1∧m=LL.length∧LL.length=n∧X= .own 53 1 A1 LL.length c1 (LL.map jM)::LL.map jL)
theorem ahO{b:al}{n:Nat}(hb:eM B w0 F A c b)(c_:b.length≤1000000)(hn:n≤2000000)(aco:-9223372036854775808≤bound)(Np:bound≤9223372036854775807):
  a_ B w0 227 [ah n,ah bound,.slice A b.length c] F (aaE bound n b F):=by
 obtain⟨G,hG⟩:=cN (LF bound n b []);unfold aaE;rw[←hG];refine fw func227 43 [0,1,2] ?_;refine de ?_;refine aZ 53 1 none ?_;refine bz ?_;refine aE (fun zf zL zm=>∃(k:Nat) (Ab:bj) (cb:Nat) (r:al) (O:List rG) (A8:bj) (c8:Nat),(k≤n∧O.length=k∧LF bound (n-k) r (O.map (·.2.2))=G∧aJ B w0 F 1 (.slice Ab r.length cb) r.length (bv r)∧r.length≤b.length)∧n-k=zm∧Sub zf [(1,ah bound),(2,.slice Ab r.length cb),(8,.slice A8 O.length c8),(12,ah n),(13,ah k)]∧Wk zL (.own 53 1 A8 O.length c8 (O.map jM)::(O.map jL++F))) _ ⟨0,A,c,b,[],none,0,⟨bT _,rfl,hG.symm,hb,gj _⟩,rfl,bp,.refl _⟩ ?_;rintro _ _ _ ⟨k,Ab,cb,r,O,A8,c8,⟨hk,hO,hR,CA,hrl⟩,rfl,hs,hp⟩;refine aU hs hp ?_;clear hs hp;refine bz ?_;refine aj (fun kg=>?_) fun kg=>?_
 ·obtain⟨j,hj⟩:∃j,n-k=j+1:=⟨n-k-1,aa⟩
  rw[hj,LF]at hR;have atF:aJ B w0 (O.map jL++F) 1 (.slice Ab r.length cb) r.length (bv r):=CA.mono (gy _ F);refine bJ ?_;refine aX apd rfl (abH aB aa aco Np) rfl ?_;rintro _ _ ⟨p18,X18,rfl,cA,hX1,hX2⟩;obtain rfl:=cA.symm;refine tP ?_;refine aj (fun rJ=>?_) fun rJ=>?_
  ·have Q9:(iI bound r).2.2≠0:=by simpa using rJ
   rw[ao Q9]at hR;refine bG ?_;refine ve [6,7] ?_;refine bQ ?_;rw[hX1 Q9];refine aq (L':=F) (.skip (vn (.refl _) _)) ?_;refine aF ?_;exact⟨none,0,0,[],Mb,rfl,fun _=>⟨rfl,rfl,rfl,rfl⟩,fun q=>by rw[←hR]at q;exact absurd q Q9⟩
  ·have Q9:(iI bound r).2.2=0:=by simpa using rJ
   rw[aw (by simpa using Q9)]at hR;obtain⟨lw,lp,g18,P1,p1,P2,p2,rfl,hlp,hlw,hX⟩:=hX2 Q9;rw[hX];obtain⟨alW,asu,aqb⟩:=ag3 Q9 Np;clear hX hX1 hX2;obtain⟨xs,hxs⟩:=cN ((iI bound r).1);obtain⟨t,ht⟩:=cN ((iI bound r).2.1);rw[←hxs]at asu aqb hR⊢;rw[←ht]at alW hR⊢;refine bF ?_;refine ai rfl (adj) ?_;refine b8 ?_;refine aj (fun qU=>?_) fun qU=>?_
   ·rw[ao aa]at hR;refine b8 ?_;refine ve [6,7] ?_;refine bQ ?_;refine aq (L':=F) (.skip (.skip (.skip (.skip (vn (.refl _) _))))) ?_;refine aF ?_;exact⟨none,0,0,[],Mb,rfl,fun _=>⟨rfl,rfl,rfl,rfl⟩,fun q=>aoF⟩
   ·rw[aw aa]at hR;refine bL ?_;refine ay rfl (amj hlp hlw aqb aa) fun LM Mr=>?_;refine dE aks rfl rfl rfl rfl rfl (fun _=>rfl) aV aa aa ?_;intro _ wi xh;refine aF ?_;refine ve [1,2,8,10,12,13] ?_;refine b8 ?_;refine ab (bP (i:=t) (size:=1) underlying27 ag rfl rfl rfl alW) rfl ?_;rw[show r.length-t=(r.drop t).length from(iG ..).symm];refine bJ ?_;have D9:O.length+1=(O++[(LM,Mr,xs)]).length:=by simp
    refine av ⟨_,aa,k+1,_,_,r.drop t,O++[(LM,Mr,xs)],wi,xh,⟨aa,by simp[hO],by rw[show n-(k+1)=j by omega];simpa using hR,by have:=CA.cut alW;rwa [show(bv r).drop (t*1)=bv (r.drop t) by rw[cE,jt],show r.length-t=(r.drop t).length from(iG ..).symm]at this,kQ⟩,rfl,bp,.skip (.skip (.skip (anL (e:=(LM,Mr,xs)) (O:=O) rfl rfl)))⟩
 ·rw[show n-k=0 by omega,LF]at hR;refine de ?_;refine aj (fun zM=>?_) fun zM=>?_
  ·refine bJ ?_;refine aq (L':=F) (.skip (vn (.refl _) _)) ?_;refine aF ?_;rw[ao aa]at hR;exact⟨none,0,0,[],Mb,rfl,fun _=>⟨rfl,rfl,rfl,rfl⟩,fun q=>aoF⟩
  ·refine cY ?_;rw[aw aa]at hR;exact⟨A8,c8,O.length,.own 53 1 A8 O.length c8 (O.map jM)::O.map jL,Mb,rfl,fun q=>by rw[←hR]at q;exact absurd rfl q,fun _=>⟨O,Mb,rfl,aa,rfl⟩⟩
def aaC(d:List cm×List (bf)×Int)(F:aP)(r:Value)(L:aP):Prop:=
 ∃(A1:bj) (c1:Nat) (A2:bj) (c2:Nat) (LL:List rG),r= .tuple #[Gh A1 d.1.length c1 A2 LL.length c2,ah d.2.2]∧LL.map (·.2.2)=d.2.1∧
  L= .own 9 1 A1 d.1.length c1 (strs d.1):: .own 53 1 A2 LL.length c2 (LL.map jM)::(LL.map jL++F)
theorem Ee{e:Int}{r:Value}(h:r= .tuple #[Gh none 0 0 none 0 0,ah e]):aaC ([],[],e) F r (.own 9 1 none 0 0 []:: .own 53 1 none 0 0 []::F):=⟨none,0,none,0,[],h,rfl,rfl⟩
theorem aim{b:al}(hE:bound<0∨20000<bound):a_ B w0 183 [ah size,ah bound,.slice A b.length c] F (aaC (ey size bound b) F):=by
 rw[Vh hE];refine fw func183 48 [0,1,2] ?_;refine be ?_;refine bc fun g6=>?_;refine bz ?_;refine bW 6 17 [0,1,2,6] (bound<0∨20000<bound) ?_ ?_
 ·refine bF ?_;refine aL rfl rfl rfl (fun kg=>?_) (fun kg=>?_)
  ·refine b8 ?_;exact aQ oS
  ·refine be ?_;exact aQ vu
 ·refine be ?_;refine aj (fun iF=>?_) fun iF=>?_
  ·refine be ?_;refine ab (cj [.slice none 0 0,.slice none 0 0] ag) rfl ?_;refine bz ?_;refine aD 53 1 none ?_;refine aD 9 1 none ?_;refine gT rfl rfl ag aV gC rfl (.cons (.cons (.skip (.refl _)))) ?_;exact Ee rfl
  ·exfalso;exact iF hE
theorem ain{b:al}(hE:¬(bound<0∨20000<bound))(hb:eM B w0 F A c b)(c_:b.length≤1000000000)(he:(dW size b).2.2≠0):
  a_ B w0 183 [ah size,ah bound,.slice A b.length c] F (aaC (ey size bound b) F):=by
 rw[Vi hE he];refine fw func183 48 [0,1,2] ?_;refine be ?_;refine bc fun g6=>?_;refine bz ?_;refine bW 6 17 [0,1,2,6] (bound<0∨20000<bound) ?_ ?_
 ·refine bF ?_;refine aL rfl rfl rfl (fun kg=>?_) (fun kg=>?_)
  ·refine b8 ?_;exact aQ oS
  ·refine be ?_;exact aQ vu
 ·refine be ?_;refine aj (fun iF=>?_) fun iF=>?_
  ·exfalso;exact hE iF
  ·refine bz ?_;refine ai rfl (XM aB aa he) ?_;refine jS ?_;refine aj (fun ka=>?_) fun ka=>?_
   ·refine be ?_;refine ab (cj [.slice none 0 0,.slice none 0 0] ag) rfl ?_;refine bF ?_;refine ve [6,7] ?_;refine bF ?_;refine aD 53 1 none ?_;refine aD 9 1 none ?_;refine gT rfl rfl ag aV gC rfl (.cons (.cons (.skip (.refl _)))) ?_;exact Ee rfl
   ·exfalso;exact ka he
theorem aio{b:al}(hE:¬(bound<0∨20000<bound))(hb:eM B w0 F A c b)(c_:b.length≤1000000000)(CA:(b.drop (dW size b).2.1).length≤1000000)(he:(dW size b).2.2=0):
  a_ B w0 183 [ah size,ah bound,.slice A b.length c] F (aaC (ey size bound b) F):=by
 have q4:¬(size<1∨64<size):=fun q=>by rw[uQ q]at he;exact absurd he aA
 obtain⟨sz,rfl⟩:=gM (show 0≤size by omega);obtain⟨e1,e2,e3⟩:=MN (sz:=sz) aa aa he;have hR1:= @Vj sz bound b hE he;have Yf:= @Kn sz bound b hE he;have hIL:zR sz bound b=LF bound (dW sz b).1.length (b.drop (dW sz b).2.1) []:=rfl;have Yn:dW sz b=((dW sz b).1,(dW sz b).2.1,0):=Prod.ext rfl (Prod.ext rfl he);have hTl:=e1.2;have hcut:=hb.cut e2;rw[show(bv b).drop ((dW sz b).2.1*1)=bv (b.drop (dW sz b).2.1) by rw[cE,jt],show b.length-(dW sz b).2.1=(b.drop (dW sz b).2.1).length from(iG ..).symm]at hcut;have hdl:(b.drop (dW sz b).2.1).length≤b.length:=by rw[iG];omega
 obtain⟨T,hT⟩:=cN ((dW sz b).1);obtain⟨t,ht⟩:=cN ((dW sz b).2.1);rw[←hT]at e1 Yf hIL Yn hTl;rw[←ht]at e2 hIL Yn hcut hdl CA;obtain⟨G,hG⟩:=cN (zR sz bound b);rw[←hG]at hR1 Yf hIL;clear hG e3;refine ct func183 48 rfl rfl rfl [(0,ah sz),(1,ah bound),(2,.slice A b.length c)] ⟨⟨rfl,rfl⟩,⟨rfl,rfl⟩,⟨rfl,rfl⟩,trivial⟩ ?_;refine be ?_;refine bc fun g6=>?_;refine bz ?_;refine bW 6 17 [0,1,2,6] (bound<0∨20000<bound) ?_ ?_
 ·refine bF ?_;refine aL rfl rfl rfl (fun kg=>?_) (fun kg=>?_)
  ·refine b8 ?_;exact aQ oS
  ·refine be ?_;exact aQ vu
 ·refine be ?_;refine aj (fun iF=>?_) fun iF=>?_
  ·exfalso;exact hE iF
  ·refine bz ?_;refine aX ao5 rfl (QS (sz:=sz) aa aa aB aa Yn) rfl ?_;rintro _ _ ⟨g22,P22,p22,Q22,q22,rfl,cA⟩;obtain rfl:=cA.symm;refine jS ?_;refine aj (fun ka=>?_) fun ka=>?_
   ·exfalso;exact ka rfl
   ·refine bF ?_;refine cF (Dd g22 sz P22 p22 Q22 q22 T (hdS sz T) (.bD g6 90 [.slice none 0 0,.slice none 0 0]::F)) ?_;refine ae 0 ?_;refine ae 2 ?_;refine ae 3 ?_;refine ae 4 ?_;refine aW 5 rfl (bP (i:=t) (size:=1) underlying27 ag rfl rfl rfl e2) ?_;rw[show b.length-t=(b.drop t).length from(iG ..).symm];refine az 1 ?_;refine iW rfl rfl (aln) ?_;refine az 6 ?_;refine gA rfl .no ao6 rfl (ahO (n:=T.length) aB aa aa aa aa) rfl (by rintro _ _ ⟨A37,c37,m37,X37,rfl,rfl,hX1,hX2⟩;exact gF) ?_;rintro _ _ ⟨A37,c37,m37,X37,rfl,cA,hX1,hX2⟩;obtain rfl:=cA.symm;rw[←hIL]at hX1 hX2;refine ae 7 ?_;refine ae 8 ?_;refine ae 9 ?_;refine ae 10 ?_;refine ae 11 ?_;refine cQ [6,8,10,11] ?_;refine bJ ?_;refine aj (fun zM=>?_) fun zM=>?_
    ·have ach:G.2≠0:=by rw[hIL];simpa using zM
     obtain⟨rfl,rfl,rfl,rfl⟩:=hX1 ach;rw[hR1 ach];refine be ?_;refine ab (cj [.slice none 0 0,.slice none 0 0] ag) rfl ?_;refine bL ?_;refine aD 53 1 none ?_;refine aD 9 1 none ?_;refine gT rfl rfl ag aV gC rfl (.cons (.cons (.skip (.skip (.skip (.skip (.refl _))))))) ?_;exact Ee (by rw[hIL])
    ·have ach:G.2=0:=by rw[hIL];simpa using zM
     obtain⟨LL,hL1,rfl,hL2,rfl⟩:=hX2 ach;rw[Yf ach];refine bF ?_;refine fP (aqP (.own 53 1 A37 LL.length c37 (LL.map jM)::LL.map jL)) ?_;refine be ?_;refine ay rfl (ali aa) fun A45 c45=>?_;refine aF ?_;refine ab (eG [(0,_),(1,_)] [_,_] rfl rfl ag) rfl ?_;refine bG ?_;refine gT rfl rfl ag aV gC rfl (.skip (.skip (.skip (.cons (.skip (.refl _)))))) ?_;exact⟨A45,c45,A37,c37,LL,rfl,hL1,rfl⟩
theorem aip{b:al}(hb:eM B w0 F A c b)(c_:b.length≤1000000):
  a_ B w0 183 [ah size,ah bound,.slice A b.length c] F (aaC (ey size bound b) F):=by
 by_cases hE:bound<0∨20000<bound
 ·exact aim hE
 ·by_cases he:(dW size b).2.2=0
  ·exact aio hE hb aa kQ he
  ·exact ain hE hb aa he
theorem ad5{m:Nat}{B1:bj}{b1:Nat}{T:List cm}{LL:List Lq}(e:LL.length=m)(h1:aJ B w0 F 1 (.slice A1 T.length c1) T.length (strs T))(hL:aJ B w0 F 1 (.slice B1 m b1) m (LL.map zQ))(hI:l7 B w0 F LL)(wN:∀e∈LL,e.2.2.length≤9000000000000000000)(hs:T.length≤1000000000){d:al}(hp:qz size bound T (fT LL)=(d,0)):
  a_ B w0 48 [ah size,ah bound,Gh A1 T.length c1 B1 m b1] F (fun r L=>∃A' c',r= .tuple #[.slice A' d.length c',ah 0]∧L= .own 5 1 A' d.length c' (bv d)::F):=by
 subst e;have:=ad4 (size:=size) (bound:=bound) h1 hL hI wN hs
 rwa [hp]at this
theorem ac3{b:al}(hs:size≤9223372036854775807):(ey size bound b).1.length≤1048576∧(ey size bound b).2.1.length≤1048576∧∀x∈(ey size bound b).2.1,x.length≤20000:=by
 by_cases h:(ey size bound b).2.2=0
 ·obtain⟨sz,bn,rfl,rfl,h1,h2,h3,h4,h5,h6,_⟩:=ahC h hs;have h7:=h4.2;exact⟨h7,aa,fun x hx=>jd (h6 x hx).2.len h3⟩
 ·have e:(ey size bound b).1=[]∧(ey size bound b).2.1=[]:=by
   unfold ey at h⊢;split
   ·exact⟨rfl,rfl⟩
   ·split
    ·exact⟨rfl,rfl⟩
    ·split
     ·exact⟨rfl,rfl⟩
     ·rename_i q1 q2 q3;rw[aw q1,aw q2,aw q3]at h;exact absurd rfl h
  rw[e.1,e.2];exact⟨ak,ak,ak⟩
theorem aoC{P:Prop}(h:P:=by(rw[WN];exact aJ.own (.tail _ (.head _)))):P:=h
theorem Qu{o:aR}{L:List aK}(h:cB 2 (o2 o)≠0):a_ B w0 22 [.agg (aR.cells o).toArray,.slice A L.length c] F (LO (fX o L) F):=by
 have e:fX o L=([],cB 2 (o2 o)):=by unfold fX;rw[ao h]
 rw[e];obtain⟨bl,pl,bu,da,pa,ch⟩:=o;refine ct func22 115 rfl rfl rfl [(0,.agg #[ah bl,.bool pl,ah bu,ah da,ah pa,ah ch]),(1,.slice A L.length c)] ⟨⟨rfl,rfl⟩,⟨rfl,rfl⟩,trivial⟩ ?_;refine be ?_;refine bh fun g2=>?_;refine bJ ?_;refine ai rfl (nt (bl,pl,bu,da,pa,ch)) ?_;refine bQ ?_;refine aj (fun oc=>?_) fun oc=>?_
 ·refine bQ ?_;refine aq (.skip (.refl _)) (aD 5 1 none ?_);refine aF ?_;exact⟨none,0,rfl,rfl⟩
 ·exfalso;exact oc h
theorem Qv{o:aR}{L:List aK}(h:¬cB 2 (o2 o)≠0)(hc:cO L≠0)(hb:aJ B w0 F 4 (.slice A L.length c) L.length (di L)):a_ B w0 22 [.agg (aR.cells o).toArray,.slice A L.length c] F (LO (fX o L) F):=by
 have e:fX o L=([],cO L):=by unfold fX;rw[aw h,ao hc]
 rw[e];obtain⟨bl,pl,bu,da,pa,ch⟩:=o;refine ct func22 115 rfl rfl rfl [(0,.agg #[ah bl,.bool pl,ah bu,ah da,ah pa,ah ch]),(1,.slice A L.length c)] ⟨⟨rfl,rfl⟩,⟨rfl,rfl⟩,trivial⟩ ?_;refine be ?_;refine bh fun g2=>?_;refine bJ ?_;refine ai rfl (nt (bl,pl,bu,da,pa,ch)) ?_;refine bQ ?_;refine aj (fun oc=>?_) fun oc=>?_
 ·exfalso;exact h oc
 ·refine bz ?_;refine ai rfl (oK L hb.cons) ?_;refine bQ ?_;refine aj (fun rZ=>?_) fun rZ=>?_
  ·refine bQ ?_;refine aq (.skip (.refl _)) (aD 5 1 none ?_);refine aF ?_;exact⟨none,0,rfl,rfl⟩
  ·exfalso;exact rZ hc
structure LP(S:Nat)(pl:Bool)(fs:eH)(L:List aK)(gs:bf)(k a:Nat):Prop where
 all:fs++jv false pl (gs.drop k) (L.drop a)=jv false pl gs L
 fit:CW S (lens false (L.drop a)) (gs.drop k)
 le:a≤L.length
theorem LP.step{S:Nat}{pl:Bool}{fs:eH}{L:List aK}{gs:bf}{k a n:Nat}(h:LP S pl fs L gs k a)(hk:k<gs.length)(hn:n=gs.getD k 0)(hS:S≤32768)(hL:∀x∈L,x.fits):
  1≤n∧a+n≤L.length∧(dc false ((L.drop a).take n)).length≤32768∧LP S pl (fs++[(jA (dc false ((L.drop a).take n)) pl).1]) L gs (k+1) (a+n):=by
 have hgd:gs.drop k=n::gs.drop (k+1):=by rw[hn];exact dx aa 0
 have hf:=h.fit;have ha:=h.all;have hl:=h.le;rw[hgd]at hf ha;obtain⟨f1,f2,f3,f4,f5⟩:=hf;rw[eo,iG]at f2;refine⟨f1,aa,oF hS (fun x hx=>hL x (rf hx)) f1 f3,⟨?_,by rw[←qa,wT];exact f5,aa⟩⟩;rw[←ha,bV];show _=fs++(_::jv false pl _ ((L.drop a).drop n));rw[qa];rfl
theorem aiz(b:Bool){L:List aK}{a k:Nat}(hk:a+k≤L.length)(hb:aJ B w0 F 4 (.slice A L.length c) L.length (di L))(hx:∀x∈L,x.1<18446744073709551616)(hw:dU L≤1048576):
  a_ B w0 45 [.bool b,.slice (if c=a then A else A.map (·.add (a*4))) (a+k-a) (c-a)] F (fun r K=>∃A' c',r= .slice A' (dc b ((L.drop a).take k)).length c'∧K= .own 5 1 A' (dc b ((L.drop a).take k)).length c' (bv (dc b ((L.drop a).take k)))::F):=by
 have hcut:=(hb.iZ (k:=a+k) hk).cut (k:=a) aa;have e:(L.take (a+k)).drop a=(L.drop a).take k:=by rw[RP];congr 1;omega
 rw[AU,vd,e]at hcut;have hl:a+k-a=((L.drop a).take k).length:=by rw[eS,iG];omega
 rw[hl]at hcut⊢;exact IY b ((L.drop a).take k) hcut (fun x hxx=>hx x (rf (lX hxx))) (by have:=qo (L.drop a) k;have:=Jl L a;omega)
theorem QP{ns ss:bf}{cc ii n2:Nat}(e:n2=ss.length)(hl:ns.length=ss.length)(p9:aJ B w0 F 1 (.slice A1 ns.length c1) ns.length (bx ns))(oH:aJ B w0 F 1 (.slice A2 n2 c2) n2 (bx ss))(hn:ns.length≤100000)(hs:ns.sum≤1000000000000000)(jH:∀x∈ss,x≤1000000000000000)(hc:cc≤1000000000000000)(hi:ii≤1000000000000000){d:al}(hd:xK ns ss cc ii=d):
  a_ B w0 50 [br g] (Db g A1 ns.length c1 A2 n2 c2 cc ii::F) (Gg d (Db g A1 ns.length c1 A2 n2 c2 cc ii::F)):=by
 subst e;subst hd;exact QO hl p9 oH hn hs jH hc hi
theorem agh{PB:List kO}{n:Nat}{s1 s2 s3 s4:Value}{l l1 l2 l3 l4:al}(hb:aJ B w0 F 1 (.slice A n c) n (PB.map dq++[s1,s2,s3,s4]))(hn:n=PB.length+4)(hPB:∀e∈PB,aJ B w0 F 1 (dq e) e.2.2.length (bv e.2.2))(h1:aJ B w0 F 1 s1 l1.length (bv l1))(h2:aJ B w0 F 1 s2 l2.length (bv l2))(h3:aJ B w0 F 1 s3 l3.length (bv l3))(h4:aJ B w0 F 1 s4 l4.length (bv l4))(hl:l=(PB.map (·.2.2)).flatten++(l1++(l2++(l3++l4))))(hlen:l.length≤1099511627776)(D6:PB.length≤1000000):
  a_ B w0 52 [.slice A n c] F (Gg l F):=by
 have hv:(OJ PB++[(s1,l1),(s2,l2),(s3,l3),(s4,l4)]:eh).Co=PB.map dq++[s1,s2,s3,s4]:=by
  have:=E0 PB;unfold eh.Co at this⊢;rw[jb,this];rfl
 refine xo (P:=OJ PB++[(s1,l1),(s2,l2),(s3,l3),(s4,l4)]) (by rw[hv];exact hb) (fun y hy=>?_) (by simp[OJ,hn]) ?_ hlen Bm
 ·rcases dz.1 hy with hy|hy
  ·obtain⟨e,he,rfl⟩:=pM.1 hy;exact hPB e he
  ·simp only[fk,mo,oe]at hy;rcases hy with rfl|rfl|rfl|rfl
   ·exact h1
   ·exact h2
   ·exact h3
   ·exact h4
 ·have:=CL PB;unfold eh.all at this⊢;rw[ua,this,hl];simp
theorem YB{L:List aK}{sz:Nat}(h1:1≤sz)(h2:sz≤64)(hw:dU L≤1048576)(hn:L.length≤20000){o:aR}(ho:o.2.2.1=sz):qz (sz:Int) ((L.length:Nat):Int) (mS L) (l9 (mR L))=(qA o L,0):=by
 have hio:=Jv hw hn;have e:=Ko (sz:=sz) (bound:=((L.length:Nat):Int)) (T:=mS L) (I:=l9 (mR L)) h1 h2 hio;have e2:qA o L=(qz (sz:Int) ((L.length:Nat):Int) (mS L) (l9 (mR L))).1:=by unfold qA;rw[ho]
 rw[e2,e]
theorem DX{m:Nat}:∀PB:List kO,(∀e∈PB,e.2.2.length≤m)→(PB.map (·.2.2)).flatten.length≤m*PB.length
 |[],_=>by simp
 |e::r,h=>by
  have h1:=h e ak;have h2:=DX r fun x hx=>h x oa;simp only[kA,v_,aY,ef,t_,cE];omega
theorem Xn{L:List aK}{LL:List rG}(h:LL.map (·.2.2)=Ju (Ba L) L.length):∀e∈Z4 LL,e.2.2.length≤L.length:=fun e he=>by
 obtain⟨x,hx,rfl⟩:=pM.1 he;have h2:x.2.2∈Ju (Ba L) L.length:=by rw[←h];exact jc (f:=fun y:rG=>y.2.2) hx
 obtain⟨t,_,ht⟩:=pM.1 h2;simp only[eK];rw[←ht];unfold Oj;refine jd (BH _ _) ak
theorem Qw(HT:bI B w0){o:aR}{L:List aK}(h:¬cB 2 (o2 o)≠0)(hc:¬cO L≠0)(hx:∀x∈L,x.1<18446744073709551616)(hb:aJ B w0 F 4 (.slice A L.length c) L.length (di L)):a_ B w0 22 [.agg (aR.cells o).toArray,.slice A L.length c] F (LO (fX o L) F):=by
 have e:fX o L=(dy o L,0):=by unfold fX;rw[aw h,aw hc]
 obtain⟨tu,rK,Lz⟩:=ko (bH hc) hx;have hom:=AF (.inr (.inl rfl)) (bH h);obtain⟨⟨m1,m2⟩,_,m4,_⟩:=hom;obtain⟨m5,m6⟩:=m4 (.inr rfl);have GL:(dR o false L).length≤L.length:=by unfold dR;have:=mV o.1.toNat (lens false L);rwa [eo]at this
 have hil:=NH (o:=o) m5 m6 Lz tu;rw[e];refine dL.xf hb fun mh _=>?_;obtain⟨bl,pl,bu,da,pa,ch⟩:=o;simp only[o2]at m1 m2 m5 m6;obtain⟨S,rfl⟩:=gM (show 0≤bl by omega);obtain⟨sz,rfl⟩:=gM (show 0≤bu by omega);obtain⟨O,hO⟩:∃x:aR,x=((S:Int),pl,(sz:Int),da,pa,ch):=⟨_,rfl⟩
 obtain⟨gs,P5⟩:=cN (dR ((S:Int),pl,(sz:Int),da,pa,ch) false L);have aht:jx S (lens false L)=gs:=by rw[P5];rfl
 have wO:=Cy ((S:Int),pl,(sz:Int),da,pa,ch) false L;have asw:LP S pl [] L gs 0 0:=⟨rfl,by rw[tb,tb,←aht];exact kv _ _,bT _⟩
 rw[←P5]at GL wO;refine ct func22 115 rfl rfl rfl [(0,.agg #[ah (S:Int),.bool pl,ah (sz:Int),ah da,ah pa,ah ch]),(1,.slice A L.length c)] ⟨⟨rfl,rfl⟩,⟨rfl,rfl⟩,trivial⟩ ?_;refine be ?_;refine bh fun g2=>?_;refine bJ ?_;refine ai rfl (nt ((S:Int),pl,(sz:Int),da,pa,ch)) ?_;refine bQ ?_;refine aj (fun oc=>?_) fun oc=>?_
 ·exfalso;exact h oc
 ·refine bz ?_;refine ai rfl (oK L hb.cons) ?_;refine bQ ?_;refine aj (fun rZ=>?_) fun rZ=>?_
  ·exfalso;exact hc rZ
  ·refine bL ?_;refine ay rfl (Nn aht hb.cons hx aa aa aa) fun wi xh=>?_;refine ab (bw [(0,_)] [.slice none 0 0,.slice none 0 0,ah 0,ah 0] [0] [_,_,_,_] rfl rfl ag) rfl ?_;refine bc fun g8=>?_;refine aF ?_;refine ve [1,2,8] ?_;refine de ?_;refine aZ 3 1 none ?_;refine aZ 27 1 none ?_;refine bJ ?_;refine aE (fun zf zL zm=>∃(k a:Nat) (PB:List kO) (Ap:bj) (cp:Nat) (As:bj) (cs:Nat),(k≤gs.length∧PB.length=k∧LP S pl (PB.map (·.2.2)) L gs k a∧(∀e∈PB,e.2.2.length≤33000)∧a=(gs.take k).sum)∧gs.length-k=zm∧Sub zf [(1,.slice A L.length c),(2,br g2),(8,br g8),(9,.slice Ap PB.length cp),(10,ah a),(37,.slice wi gs.length xh),(38,ah gs.length),(39,ah k)]∧Wk zL (.own 27 1 Ap PB.length cp (PB.map dq):: .own 3 1 As PB.length cs (bx (PB.map (·.2.2.length)))::Db g8 wi gs.length xh As PB.length cs 0 0:: .own 3 1 wi gs.length xh (bx gs):: .bD g2 23 [ah (S:Int),.bool pl,ah (sz:Int),ah da,ah pa,ah ch]::(PB.map fq++F))) _ ⟨0,0,[],none,0,none,0,⟨bT _,rfl,asw,fun e h=>absurd h (mo),ak⟩,rfl,bp,.refl _⟩ ?_;rintro _ _ _ ⟨k,a,PB,Ap,cp,As,cs,⟨hk,y_,Nz,mJ,hak⟩,rfl,hs,hp⟩;refine aU hs hp ?_;clear hs hp;refine bz ?_;refine aj (fun h40=>?_) fun h40=>?_
   ·obtain⟨n,hn⟩:=cN (gs.getD k 0);obtain⟨asz,ahw,al4,alX⟩:=Nz.step aa hn aa rK;have hbw:=C9 (b:=dc false ((L.drop a).take n)) (pl:=pl) al4;have sI:(gs.take (k+1)).sum=(gs.take k).sum+n:=by rw[ba aa 0,vW,←hn];simp
    have hbP:aJ B w0 (PB.map fq++F) 4 (.slice A L.length c) L.length (di L):=hb.mono (gy _ _);refine bL ?_;refine ab (au ag rfl aB aa (gb (v:=n) aa hn.symm)) rfl ?_;refine b8 ?_;refine cF (.own 27 1 Ap PB.length cp (PB.map dq):: .own 3 1 As PB.length cs (bx (PB.map (·.2.2.length)))::Db g8 wi gs.length xh As PB.length cs 0 0:: .own 3 1 wi gs.length xh (bx gs):: .bD g2 23 [ah (S:Int),.bool pl,ah (sz:Int),ah da,ah pa,ah ch]::(PB.map fq++F)) ?_;refine ae 0 ?_;refine ae 1 ?_;refine ae 2 ?_;refine ae 3 ?_;refine aW 4 rfl (bY rfl rfl (r:=((a+n:Nat):Int)) ((bE aa aa).trans aa)) ?_;refine aW 5 rfl (kr (i:=a) (j:=a+n) (size:=4) underlying24 ag rfl rfl rfl rfl rfl aa aa) ?_;refine ae 7 ?_;refine ae 8 ?_;refine az 6 ?_;refine bZ rfl rfl (aiz (L:=L) false ahw hbP.cons.cons.cons.cons.cons hx aa) fun BZ F8=>?_;refine az 9 ?_;refine bZ rfl rfl (Mp HT (b:=dc false ((L.drop a).take n)) (p:=pl) aB aa) fun A53 c53=>?_;refine ae 10 ?_;refine ae 11 ?_;refine ae 12 ?_;refine ae 13 ?_;refine ae 14 ?_;refine bL ?_;refine ve [1,2,8,9,10,12,13,14,37,38,39,57] ?_;refine aF ?_;refine aj (fun h57=>?_) fun h57=>?_
    ·exfalso;exact h57 hbw.2
    ·have wL:(PB++[((A53,c53,(jA (dc false ((L.drop a).take n)) pl).1):kO)]).length=PB.length+1:=by simp
     refine bz ?_;refine dE fD rfl rfl rfl rfl rfl (fun _=>rfl) aV aa aa ?_;intro _ A62 c62;refine bQ ?_;refine dE fJ rfl rfl rfl rfl rfl (fun _=>rfl) aV aa aa ?_;intro _ A68 c68;refine bL ?_;refine ab (bY rfl rfl (r:=((a+n:Nat):Int)) ((bE aa aa).trans aa)) rfl ?_;refine aF ?_;refine ve [1,2,8,9,10,37,38,39] ?_;refine bz ?_;refine av ⟨_,aa,k+1,a+n,PB++[((A53,c53,(jA (dc false ((L.drop a).take n)) pl).1):kO)],A62,c62,A68,c68,⟨aa,by simp[y_],by simpa using alX,fun e h=>(by
      rcases dz.1 h with h|h
      ·exact mJ e h
      ·rw[lF.1 h];exact hbw.1),aa⟩,rfl,bp,.trans ((ed (gl (gl (gl (gl (gl (.skip (.refl _))))))))) (.trans (qn (e:=((A53,c53,(jA (dc false ((L.drop a).take n)) pl).1):kO)) [.own 27 1 A62 (PB.length+1) c62 (PB.map dq++[dq ((A53,c53,(jA (dc false ((L.drop a).take n)) pl).1):kO)]),.own 3 1 A68 (PB.length+1) c68 (bx (PB.map (·.2.2.length))++[ah ((jA (dc false ((L.drop a).take n)) pl).1.length:Int)]),Db g8 wi gs.length xh A68 (PB.length+1) c68 0 0,.own 3 1 wi gs.length xh (bx gs),.bD g2 23 [ah (S:Int),.bool pl,ah (sz:Int),ah da,ah pa,ah ch]]) (ax ak ak (ax ak sD (bq ak (.refl _)))))⟩
   ·obtain rfl:k=gs.length:=by omega
    have Il:=Nz.all;rw[BJ]at Il;have acB:PB.map (·.2.2)=eQ ((S:Int),pl,(sz:Int),da,pa,ch) L:=by
     rw[show eQ ((S:Int),pl,(sz:Int),da,pa,ch) L=jv false pl gs L by unfold eQ;rw[←P5],←Il];simp[jv]
    have hbP:aJ B w0 (PB.map fq++F) 4 (.slice A L.length c) L.length (di L):=hb.mono (gy _ _);have r7:=qO (L:=L) aa;refine bJ ?_;refine ay rfl (XD L hbP.cons.cons.cons.cons.cons hx aa) fun A75 c75=>?_;refine ay rfl (qu HT (l:=kq L) aB aa) fun A76 c76=>?_;refine b8 ?_;refine cF (.own 5 1 A76 (cX (kq L)).length c76 (bv (cX (kq L))):: .own 5 1 A75 (kq L).length c75 (bv (kq L)):: .own 27 1 Ap PB.length cp (PB.map dq):: .own 3 1 As PB.length cs (bx (PB.map (·.2.2.length)))::Db g8 wi gs.length xh As PB.length cs 0 0:: .own 3 1 wi gs.length xh (bx gs):: .bD g2 23 [ah (S:Int),.bool pl,ah (sz:Int),ah da,ah pa,ah ch]::(PB.map fq++F)) ?_;refine ae 0 ?_;refine ae 1 ?_;refine ae 2 ?_;refine ae 3 ?_;refine ae 4 ?_;refine az 5 ?_;refine gA rfl .no apo rfl (Ud (L:=L) hbP.cons.cons.cons.cons.cons.cons.cons Lz) rfl (by rintro _ _ ⟨AT,cT,AL,cL,LL,rfl,rfl,ahk⟩;exact gF) ?_;rintro _ _ ⟨AT,cT,AL,cL,LL,rfl,cA,ahk⟩;obtain rfl:=cA.symm;refine az 6 ?_;refine bZ rfl rfl (ad5 (T:=mS L) (LL:=Z4 LL) (size:=(sz:Int)) (bound:=((L.length:Nat):Int)) (m:=(mS L).length) (d:=qA ((S:Int),pl,(sz:Int),da,pa,ch) L) (by have:=ek List.length ahk;rw[CR];simpa[Ju,mS]using this) (aJ.own (.head _)) aoC (WM fun e he=>.tail _ (.tail _ (j8 _ (jc (f:=jL) he)))) (fun e he=>by have:=Xn ahk e he;omega) (by have:=(wP (o:=((S:Int),pl,(sz:Int),da,pa,ch)) (L:=L) (sz:=sz) rfl aa aa Lz tu).2.2.2.2;omega) (by rw[yP,ahk];exact YB aa aa Lz tu rfl)) fun A84 c84=>?_;refine ae 7 ?_;refine ae 8 ?_;refine ae 9 ?_;refine ae 10 ?_;refine ae 11 ?_;refine cQ [8,9,15,16,17] ?_;refine bF ?_;refine wg (.cons (.skip (.skip (dv _ _)))) ?_;have hCe:oT L=cX (kq L):=rfl;have hIe:oV ((S:Int),pl,(sz:Int),da,pa,ch) L=cX (qA ((S:Int),pl,(sz:Int),da,pa,ch) L):=rfl;have hCl:(oT L).length=(kq L).length+4:=by rw[hCe,du]
    have hIl:(oV ((S:Int),pl,(sz:Int),da,pa,ch) L).length=(qA ((S:Int),pl,(sz:Int),da,pa,ch) L).length+4:=by rw[hIe,du]
    rw[←hCe];have hss:(PB.map (·.2.2.length))=(eQ ((S:Int),pl,(sz:Int),da,pa,ch) L).map List.length:=by rw[←acB];simp
    have hse:PB.length=(PB.map (·.2.2.length)).length:=by simp
    have hdl:(xK gs (PB.map (·.2.2.length)) (oT L).length (oV ((S:Int),pl,(sz:Int),da,pa,ch) L).length).length≤60+20*gs.length:=by
     have h1:=yZ gs (PB.map (·.2.2.length)) (fun n hn=>Xl) (fun n hn=>by
      obtain⟨e,he,rfl⟩:=pM.1 hn;have:=mJ e he;omega) gs.length
     have h2:uL gs (PB.map (·.2.2.length)) gs.length=(gs.zip (PB.map (·.2.2.length))).flatMap fun p=>aS p.1++aS p.2:=by unfold uL;rw[fL bR]
     rw[h2]at h1;have h3:=aT (x:=gs.sum) aa;have h4:=aT (x:=gs.length) aa;have h5:=aT (x:=(oT L).length) aa;have h6:=aT (x:=(oV ((S:Int),pl,(sz:Int),da,pa,ch) L).length) aa;unfold xK;simp only[aY];omega
    have hDe:p7 ((S:Int),pl,(sz:Int),da,pa,ch) L=cX (xK gs (PB.map (·.2.2.length)) (oT L).length (oV ((S:Int),pl,(sz:Int),da,pa,ch) L).length):=by unfold p7;rw[hss,←P5]
    obtain⟨dr,Yn⟩:∃x,xK gs (PB.map (·.2.2.length)) (oT L).length (oV ((S:Int),pl,(sz:Int),da,pa,ch) L).length=x:=⟨_,rfl⟩
    rw[Yn]at hdl hDe;have hDl:(p7 ((S:Int),pl,(sz:Int),da,pa,ch) L).length=dr.length+4:=by rw[hDe,du]
    have hPB:∀e∈PB,aJ B w0 (PB.map fq++F) 1 (dq e) e.2.2.length (bv e.2.2):=fun e he=>aJ.own (j8 _ (jc (f:=fq) he));have ap9:=DX (m:=33000) PB mJ;have asQ:∀x∈(PB.map (·.2.2.length)),x≤1000000000000000:=fun x hx=>(by
     obtain⟨e,he,rfl⟩:=pM.1 hx;have:=mJ e he;omega)
    refine bG ?_;refine aj (fun h88=>?_) fun h88=>?_
    ·exfalso;exact h88 rfl
    ·refine bG ?_;refine ay rfl (qu HT (l:=qA ((S:Int),pl,(sz:Int),da,pa,ch) L) aB aa) fun A91 c91=>?_;refine b8 ?_;rw[←hIe];refine de ?_;refine ay rfl ((QP (cc:=(oT L).length) (ii:=(oV ((S:Int),pl,(sz:Int),da,pa,ch) L).length) hse bR aB aB aa aa asQ aa aa Yn).perm ((pu6 (fR (fR (fR (fR (fR (fR (fR (fR (.refl _)))))))))))) fun A98 c98=>?_;refine ay rfl (qu HT (l:=dr) aB aa) fun A99 c99=>?_;refine b8 ?_;rw[←hDe];refine bF ?_;refine ab (bm underlying3 underlying60 rfl (r:=((p7 ((S:Int),pl,(sz:Int),da,pa,ch) L).length:Int)) (f_ aa aa)) rfl ?_;refine ay rfl (Nf (x:=(p7 ((S:Int),pl,(sz:Int),da,pa,ch) L).length) aa) fun arp atA=>?_;refine bG ?_;refine ve [9,15,16,18,19] ?_;refine bJ ?_;refine cC (aG fD [_,_,_,_] rfl rfl cw aa aa) fun atz=>?_;refine fN (bS fD rfl aV rfl aB cw aa aa) fun aaz aba=>?_;refine ay rfl (agh (PB:=PB) (l:=dy ((S:Int),pl,(sz:Int),da,pa,ch) L) (l1:=oT L) (l2:=oV ((S:Int),pl,(sz:Int),da,pa,ch) L) (l3:=p7 ((S:Int),pl,(sz:Int),da,pa,ch) L) (l4:=fF (p7 ((S:Int),pl,(sz:Int),da,pa,ch) L).length 4) aB rfl (fun e he=>by repeat (first|exact hPB e he|apply aJ.cons)) aB aB aB aB (by rw[acB];rfl) (by unfold dy;rw[←acB];simp only[aY,p8];omega) aa) fun ars arA=>?_;refine bG ?_;refine aq (.cons (.skip (.skip (.skip (.skip (.skip (.skip (.skip (.skip (.skip (.skip (.skip (.skip (.skip (dv _ _))))))))))))))) ?_;refine aF ?_;exact⟨ars,arA,rfl,rfl⟩
theorem Da(HT:bI B w0){o:aR}{L:List aK}(hx:∀x∈L,x.1<18446744073709551616)(hb:aJ B w0 F 4 (.slice A L.length c) L.length (di L)):a_ B w0 22 [.agg (aR.cells o).toArray,.slice A L.length c] F (LO (fX o L) F):=by
 by_cases h:cB 2 (o2 o)≠0
 ·exact Qu h
 ·by_cases hc:cO L≠0
  ·exact Qv h hc hb
  ·exact Qw HT h hc hx hb
section
abbrev Ob(g gc:Nat)(sx:Value)(o:aR)(r b:Nat):Ch:=.bD g 205 [br gc,sx,ah o.1,.bool o.2.1,ah o.2.2.1,ah o.2.2.2.1,ah o.2.2.2.2.1,ah o.2.2.2.2.2,ah r,ah b]
theorem adK(x:al):(oh1 x).b=x:=Cs.cK _ _ _
theorem akh(x:al):(VS x).b=x:=by
 unfold VS;split
 ·rw[qP];exact(Cs.cK _ _ _).trans (adK x)
 ·exact(Cs.cK _ _ _).trans (adK x)
theorem aki(x:al):(oh3 x).b=x:=(Cs.cK _ _ _).trans (akh x)
theorem akj(x:al):(Cg x).b=x:=(Cs.cK _ _ _).trans (aki x)
theorem Sj{x:al}(h:x.length≤1099511627776):cu (oh1 x):=(oY h).bX aa
theorem adL{x:al}(h:x.length≤1099511627776):cu (VS x):=by
 unfold VS;split
 ·exact(Sj h).eJ.failed _
 ·exact(Sj h).eJ
theorem Sl{x:al}(h:x.length≤1099511627776):cu (oh3 x):=(adL h).bX aa
theorem Sm(x:al):((G0 x:Nat):Int)≤20000:=Cs.gx _ aa aa
theorem amF{x:al}(h:x.length≤1099511627776):cu (Cg x):=(Sl h).bX (by have:=Sm x;omega)
theorem Zi{x:al}{sx:Value}(hb:eM B w0 F A c x)(c_:x.length≤1099511627776):
  a_ B w0 125 [br g] (Ob g gc sx gR 0 0::Cv gc A c ⟨x,0,0⟩::F)
   (fun r L=>r=ah (ohE x)∧L=Ob g gc sx (ohO x) (G0 x) (CJ x)::Cv gc A c (Cg x)::F):=by
 have k1:=adK x;have k2:=akh x;have k3:=aki x;have k4:=akj x;have hR:=Sm x;have hB:((CJ x:Nat):Int)≤G0 x:=Cs.gx _ aa aa;obtain⟨bl,GJ⟩:=cN (Cs.int ⟨x,0,0⟩ 32768);have alM:((bl:Nat):Int)≤32768:=by rw[GJ];exact Cs.gx _ aa aa
 have hx8:=lQ (Zf x);obtain⟨y,hy⟩:=cN ((Zf x).toNat);have e1:oh1 x=Cs.bX ⟨x,0,0⟩ 32768:=rfl;have hO:ohO x=(((bl:Nat):Int),decide ((y:Int)=1),0,0,0,0):=by
  unfold ohO;rw[←GJ,←hy];congr 2;exact z7.2 ⟨fun h=>by omega,fun h=>aa⟩
 have hE:ohE x=if (Cg x).e≠0 then (Cg x).e else cB 1 (((bl:Nat):Int),decide ((y:Int)=1),0,0,0,0):=by unfold ohE;rw[hO]
 rw[hO,hE];rw[←hy]at hx8;refine fw func125 65 [0] ?_;refine cJ ?_;refine ai rfl ((iH (g:=gc) (s:=⟨x,0,0⟩) (oY c_) (aJ.cons hb) aa aa).perm ((l6 (fR (.refl _))))) ?_;refine bL ?_;rw[←GJ,←e1];refine bG ?_;refine ai rfl (oo (s:=oh1 x) (Sj c_) (by rw[k1];exact hb.cons)) ?_;refine bF ?_;refine d_ (fun zf zL=>Sub zf [(0,br g),(3,.int .u8 (y:Int))]∧Wk zL (Cv gc A c (VS x)::Ob g gc sx (((bl:Nat):Int),false,0,0,0,0) 0 0::F)) ?_ ?_
 ·refine aF ?_;refine Bc [(0,br g),(3,.int .u8 (y:Int))] ⟨rfl,(by rw[hy];rfl),trivial⟩ ?_;refine bG ?_;refine aj (fun iY=>?_) fun iY=>?_
  ·refine bG ?_;refine ai rfl (ng 2) ?_;refine ve [0,3] ?_;exact bC ⟨bp,mM (by unfold VS;rw[ao aa]) (.refl _)⟩
  ·refine aF ?_;exact bC ⟨bp,mM (by unfold VS;rw[aw aa]) (.refl _)⟩
 ·rintro _ _ ⟨hs,hp⟩;refine aU hs hp ?_;clear hs hp;refine cJ ?_;have e3:oh3 x=(VS x).bX 20000:=rfl;have eR:G0 x=(VS x).int 20000:=rfl;have e4:Cg x=(oh3 x).bX (G0 x):=rfl;have eB:CJ x=(oh3 x).int (G0 x):=rfl;refine bz ?_;refine ai rfl (iH (s:=VS x) (adL c_) (by rw[k2];exact hb.cons) aa aa) ?_;refine bz ?_;rw[←eR,←e3];refine cF F ?_;refine ae 0 ?_;refine ae 1 ?_;refine ae 2 ?_;refine ae 3 ?_;refine ae 5 ?_;refine ae 6 ?_;refine ae 7 ?_;refine gV 4 8 ?_ ?_
  ·refine aF ?_;refine az 8 ?_;refine aF ?_;refine az 9 ?_;refine iW rfl rfl (iH (s:=oh3 x) (most:=((G0 x:Nat):Int)) (Sl c_) TU aa aa) ?_;refine ae 10 ?_;refine ae 11 ?_;refine az 12 ?_;refine aF ?_;refine cQ [0] ?_;refine bF ?_;rw[←eB,←e4];refine bG ?_;refine ai rfl (gO) ?_;refine bQ ?_;refine aj (fun h58=>?_) fun h58=>?_
   ·refine bJ ?_;refine aq ((gl (ed (.refl _)))) ?_;refine aF ?_;exact⟨by rw[ao h58],rfl⟩
   ·refine bL ?_;refine ab (bU 6 ag rfl aV (aR.cells (((bl:Nat):Int),decide ((y:Int)=1),0,0,0,0)) rfl rfl) rfl ?_;refine ai rfl (kD 1 (((bl:Nat):Int),decide ((y:Int)=1),0,0,0,0)) ?_;refine b8 ?_;refine aq ((gl (ed (.refl _)))) ?_;refine aF ?_;exact⟨by rw[aw h58],rfl⟩
  ·refine aF ?_;refine az 4 ?_;refine aF ?_;refine az 9 ?_;refine iW rfl rfl (iH (s:=oh3 x) (most:=((G0 x:Nat):Int)) (Sl c_) TU aa aa) ?_;refine ae 10 ?_;refine ae 11 ?_;refine az 12 ?_;refine aF ?_;refine cQ [0] ?_;refine bF ?_;rw[←eB,←e4];refine bG ?_;refine ai rfl (gO) ?_;refine bQ ?_;refine aj (fun h58=>?_) fun h58=>?_
   ·refine bJ ?_;refine aq ((gl (ed (.refl _)))) ?_;refine aF ?_;exact⟨by rw[ao h58],rfl⟩
   ·refine bL ?_;refine ab (bU 6 ag rfl aV (aR.cells (((bl:Nat):Int),decide ((y:Int)=1),0,0,0,0)) rfl rfl) rfl ?_;refine ai rfl (kD 1 (((bl:Nat):Int),decide ((y:Int)=1),0,0,0,0)) ?_;refine b8 ?_;refine aq ((gl (ed (.refl _)))) ?_;refine aF ?_;exact⟨by rw[aw h58],rfl⟩
theorem Uc(HT:bI B w0){b:al}{n:Nat}{xs:cV}(e1:n=b.length)(e2:xs=bv b)(hb:aJ B w0 F 1 (.slice A n c) n xs)(c_:b.length≤1000000):
  a_ B w0 230 [.slice A n c] F (BlA (dK b) F):=by
 subst e1;subst e2;exact agF HT hb c_
theorem C8(b:al):(dK b).1.length≤32768:=by
 unfold dK;split
 ·simp
 ·split
  ·simp
  ·exact UP b
theorem agv{b:al}(h:b.length≤1000000):(dK b).2.1≤b.length:=by
 unfold dK;split
 ·simp
 ·split
  ·simp
  ·have:=(alv (b:=b) aa).at_;rw[apA]at this;exact this
section
variable{s:Cs}
theorem amG(h:(dK s.rest).2.2≠0):jN s=([],s,(dK s.rest).2.2):=by unfold jN;rw[ao h]
theorem amH(h:¬(dK s.rest).2.2≠0)(h2:(qH true (dK s.rest).1).2≠0):jN s=([],s.b_ ((dK s.rest).2.1:Nat),(qH true (dK s.rest).1).2):=by unfold jN;rw[aw h,ao h2]
theorem amI(h:¬(dK s.rest).2.2≠0)(h2:¬(qH true (dK s.rest).1).2≠0)(h3:(qH true (dK s.rest).1).1=[]):jN s=([],s.b_ ((dK s.rest).2.1:Nat),2):=by unfold jN;rw[aw h,aw h2,ao h3]
theorem amJ(h:¬(dK s.rest).2.2≠0)(h2:¬(qH true (dK s.rest).1).2≠0)(h3:¬(qH true (dK s.rest).1).1=[]):jN s=((qH true (dK s.rest).1).1,s.b_ ((dK s.rest).2.1:Nat),0):=by unfold jN;rw[aw h,aw h2,aw h3]
end
theorem Sn(HT:bI B w0){x:al}{s:Cs}{Ax:bj}{cx r bb:Nat}{o:aR}(hs:s.b=x)(ho:cu s)(hb:eM B w0 F A c x)(hbx:eM B w0 F Ax cx x)(c_:x.length≤1000000):
  a_ B w0 193 [br g] (Ob g gc (.slice Ax x.length cx) o r bb::Cv gc A c s::F)
   (fun v L=>∃A' c',v= .tuple #[.slice A' (jN s).1.length c',ah (jN s).2.2]∧L= .own 62 4 A' (jN s).1.length c' (di (jN s).1)::Ob g gc (.slice Ax x.length cx) o r bb::Cv gc A c (jN s).2.1::F):=by
 have GI:=ho.at_;rw[hs]at GI;have hcut:=hbx.cut GI;have er:s.rest=x.drop s.at_:=by unfold Cs.rest;rw[hs]
 have e2:(bv x).drop (s.at_*1)=bv s.rest:=by rw[cE,er];simp[bv,yc]
 have e3:x.length-s.at_=s.rest.length:=by rw[er,iG]
 have hrl:=C8 s.rest;have hra:=agv (b:=s.rest) aa;refine fw func193 46 [0] ?_;refine bL ?_;refine cF (Ob g gc (.slice Ax x.length cx) o r bb::Cv gc A c s::F) ?_;refine ae 0 ?_;refine ae 1 ?_;refine ae 2 ?_;refine ae 3 ?_;refine ae 4 ?_;refine ae 5 ?_;refine ae 6 ?_;refine ae 7 ?_;refine az 8 ?_;refine iW rfl rfl ((zz).jg ((l6 (fR (.refl _))))) ?_;refine aW 9 rfl (bP (i:=s.at_) (size:=1) underlying27 ag rfl rfl rfl aa) ?_;refine az 10 ?_;refine bZ rfl rfl (Uc HT (b:=s.rest) e3 e2 hcut.cons.cons aa) fun Ln c19=>?_;refine ae 11 ?_;refine ae 12 ?_;refine ae 13 ?_;refine ae 14 ?_;refine ae 15 ?_;refine ae 16 ?_;refine ae 17 ?_;refine cQ [0,4,5,6] ?_;refine bJ ?_;refine aj (fun oc=>?_) fun oc=>?_
 ·refine bQ ?_;refine aD 62 4 none ?_;rw[amG oc];refine aq (.cons (.skip (.refl _))) ?_;refine aF ?_;exact⟨none,0,rfl,rfl⟩
 ·refine bQ ?_;refine ay rfl ((mb (g:=gc) (s:=s) (m:=((dK s.rest).2.1:Nat)) ho (by rw[hs];exact hb.cons.cons) aa aa).perm ((BN (fR (fR (.refl _)))))) fun Qd c31=>?_;refine bG ?_;refine ay rfl (OL (l:=(dK s.rest).1) true aB aa) fun wi xh=>?_;refine bG ?_;refine ve [6,7] ?_;refine bA ?_;refine aj (fun zK=>?_) fun zK=>?_
  ·refine bA ?_;refine aD 62 4 none ?_;rw[amH oc zK];refine aq ((ed (wu4 (gl (.skip (.skip (.skip (.refl _)))))))) ?_;refine aF ?_;exact⟨none,0,rfl,rfl⟩
  ·refine bJ ?_;refine aj (fun zM=>?_) fun zM=>?_
   ·refine bQ ?_;refine aD 62 4 none ?_;rw[amI oc zK (mm aa)];refine aq ((ed (wu4 (gl (.skip (.skip (.skip (.refl _)))))))) ?_;refine aF ?_;exact⟨none,0,rfl,rfl⟩
   ·refine cY ?_;rw[amJ oc zK (fun h=>zM (by rw[h];rfl))];refine aq ((ed (tx (ed (.skip (.skip (.refl _))))))) ?_;refine aF ?_;exact⟨wi,xh,rfl,rfl⟩
theorem IZ(b:Bool):∀(f:Nat) (s:Cs) (o:List aK),(oj b f s o).1.length≤o.length+f
 |0,s,o=>by simp[oj]
 |f+1,s,o=>by
  by_cases h:s.left=0
  ·rw[AQ h];simp only;omega
  ·by_cases he:(dZ b s).2.e≠0
   ·rw[AP h he];simp
   ·rw[E9 h he];have:=IZ b f (dZ b s).2 (o++[(dZ b s).1]);rw[aY,p_]at this;omega
theorem aix(b:Bool)(l:al):(qH b l).1.length≤l.length+1:=by
 have:=IZ b (l.length+1) ⟨l,0,0⟩ [];unfold qH;simpa using this
theorem adO(s:Cs):(jN s).1.length≤32769:=by
 have h1:=C8 s.rest;have h2:=aix true (dK s.rest).1;unfold jN;split
 ·simp
 ·split
  ·simp
  ·split
   ·simp
   ·simp only;omega
theorem ah'{s:Cs}{x:al}(hs:s.b=x)(ho:cu s):(jN s).2.1.b=x∧cu (jN s).2.1:=by
 have h1:(s.b_ ((dK s.rest).2.1:Nat)).b=x∧cu (s.b_ ((dK s.rest).2.1:Nat)):=⟨(Cs.cK _ _ _).trans hs,ho.b_⟩
 unfold jN;split
 ·exact⟨hs,ho⟩
 ·split
  ·exact h1
  ·split
   ·exact h1
   ·exact h1
theorem I1(l:List aK):∀u∈di l,u.oneCell'=true:=fun u hu=>by
 obtain⟨r,_,hr⟩:=List.mem_flatMap.1 hu;simp only[aK.cells,fk,mo,oe]at hr;rcases hr with rfl|rfl|rfl|rfl<;>rfl
theorem u_(l m:List aK):di l++di m=di (l++m):=by simp[di]
section
variable{f:Nat}{s:Cs}{out:List aK}{R:List aK×Cs×Int}
theorem adN(h:oz (f+1) s out=R)(he:(jN s).2.2≠0):R=([],(jN s).2.1,(jN s).2.2):=by rw[←h,oz,ao he]
theorem ah_(h:oz (f+1) s out=R)(he:¬(jN s).2.2≠0):oz f (jN s).2.1 (out++(jN s).1)=R:=by rw[←h,oz,aw he]
variable{x:al}
theorem aia(h:oz (CJ x) (Cg x) []=R)(h1:R.2.2≠0):kE x=([],R.2.2):=by unfold kE;rw[h,ao h1]
theorem VU(h:oz (CJ x) (Cg x) []=R)(h1:¬R.2.2≠0)(h2:0<R.2.1.left∨R.1.length≠G0 x):kE x=([],2):=by unfold kE;rw[h,aw h1,ao h2]
theorem aib(h:oz (CJ x) (Cg x) []=R)(h1:¬R.2.2≠0)(h2:¬(0<R.2.1.left∨R.1.length≠G0 x))(h3:cO R.1≠0):kE x=([],cO R.1):=by unfold kE;rw[h,aw h1,aw h2,ao h3]
theorem aic(h:oz (CJ x) (Cg x) []=R)(h1:¬R.2.2≠0)(h2:¬(0<R.2.1.left∨R.1.length≠G0 x))(h3:¬cO R.1≠0):kE x=(R.1,0):=by unfold kE;rw[h,aw h1,aw h2,aw h3]
end
theorem adS(HT:bI B w0){x:al}{Ax:bj}{cx:Nat}{o:aR}(hb:eM B w0 F A c x)(hbx:eM B w0 F Ax cx x)(c_:x.length≤1000000):
  a_ B w0 126 [br g] (Ob g gc (.slice Ax x.length cx) o (G0 x) (CJ x)::Cv gc A c (Cg x)::F)
   (fun v L=>∃A' c' s',v= .tuple #[.slice A' (kE x).1.length c',ah (kE x).2]∧L= .own 62 4 A' (kE x).1.length c' (di (kE x).1)::Ob g gc (.slice Ax x.length cx) o (G0 x) (CJ x)::Cv gc A c s'::F):=by
 have hR:=Sm x;have hB:((CJ x:Nat):Int)≤G0 x:=Cs.gx _ aa aa;obtain⟨R,Yg⟩:∃R,oz (CJ x) (Cg x) []=R:=⟨_,rfl⟩
 obtain⟨bb,hbb⟩:=cN (CJ x);have apX:=Yg;rw[←hbb]at hB apX⊢;refine fw func126 47 [0] ?_;refine bL ?_;refine aZ 62 4 none ?_;refine jy ?_;refine aE (fun zf zL zm=>∃(k:Nat) (s:Cs) (out:List aK) (A':bj) (c':Nat),(k≤bb∧s.b=x∧cu s∧oz (bb-k) s out=R∧out.length≤32769*k)∧bb-k=zm∧Sub zf [(0,br g),(4,.slice A' out.length c'),(11,ah bb),(12,ah k)]∧Wk zL (.own 62 4 A' out.length c' (di out)::Ob g gc (.slice Ax x.length cx) o (G0 x) bb::Cv gc A c s::F)) _ ⟨0,Cg x,[],none,0,⟨bT _,akj x,amF aa,apX,ak⟩,rfl,bp,.refl _⟩ ?_;rintro _ _ _ ⟨k,s,out,A',c',⟨hk,P9,hso,wI,Kj⟩,rfl,hs,hp⟩;refine aU hs hp ?_;clear hs hp;refine bz ?_;refine aj (fun lA=>?_) fun lA=>?_
 ·obtain⟨f,hf⟩:∃f,bb-k=f+1:=⟨bb-k-1,aa⟩
  rw[hf]at wI;have Ca:=adO s;have hkc:=ah' P9 hso;have qy:=I1 (jN s).1;refine bL ?_;refine ay rfl (.perm (Sn (g:=g) HT P9 hso hb.cons hbx.cons c_) ((l6 (l6 (fR (.refl _)))))) fun W8 c16=>?_;refine dQ ?_;refine aj (fun iY=>?_) fun iY=>?_
  ·have Yh:=adN wI iY;have hL:=aia Yg (by rw[Yh];exact iY);rw[Yh]at hL;refine dQ ?_;rw[hL];refine aD 62 4 none ?_;refine aq ((ed (gl (gl (.skip (.skip (.refl _))))))) ?_;refine aF ?_;exact⟨none,0,_,rfl,rfl⟩
  ·have Ro:=ah_ wI iY;have wL:(out++(jN s).1).length=out.length+(jN s).1.length:=aY;refine bG ?_;refine fN (bS Wo rfl aV rfl aB cw aa aa) fun Bi Df=>?_;refine bJ ?_;refine av ⟨_,aa,k+1,(jN s).2.1,out++(jN s).1,Bi,Df,⟨aa,hkc.1,hkc.2,by rw[show bb-(k+1)=f by omega];exact Ro,aa⟩,rfl,bp,.trans ((tx (gl (gl (.skip (.refl _)))))) (ax aa (u_ _ _) (.refl _))⟩
 ·obtain rfl:k=bb:=by omega
  rw[nx]at wI;have Yh:R=(out,s,0):=wI.symm;rw[Yh]at Yg;refine cJ ?_;refine ai rfl ((JK (g:=gc) (s:=s) hso (by rw[P9];exact hb.cons.cons)).jg ((BN (fR (fR (.refl _)))))) ?_;refine be ?_;refine aL rfl rfl rfl (fun Bw=>?_) (fun Bw=>?_)
  ·refine dQ ?_;refine ve [4,40] ?_;refine aF ?_;refine aj (fun h40=>?_) fun h40=>?_
   ·refine bJ ?_;have hL:=VU Yg ak (.inr cZ);rw[hL];refine aD 62 4 none ?_;refine aq ((ed (gl (gl (.skip (.refl _)))))) ?_;refine aF ?_;exact⟨none,0,_,rfl,rfl⟩
   ·refine bz ?_;refine ai rfl (oK out aB) ?_;refine bQ ?_;refine aj (fun tQ=>?_) fun tQ=>?_
    ·refine bQ ?_;have hL:=aib Yg ak (fun h=>h.elim (fun h=>L3) fun h=>L3) tQ;rw[hL];refine aD 62 4 none ?_;refine aq ((ed (gl (gl (.skip (.refl _)))))) ?_;refine aF ?_;exact⟨none,0,_,rfl,rfl⟩
    ·refine bA ?_;have hL:=aic Yg ak (fun h=>h.elim (fun h=>L3) fun h=>L3) tQ;rw[hL];refine aF ?_;exact⟨A',c',_,rfl,rfl⟩
  ·refine bL ?_;refine ve [4,40] ?_;refine bA ?_;have hL:=VU Yg ak (.inl cZ);rw[hL];refine aD 62 4 none ?_;refine aq ((ed (gl (gl (.skip (.refl _)))))) ?_;refine aF ?_;exact⟨none,0,_,rfl,rfl⟩
theorem amO{b:al}(h:(marked b).2≠0):gW b=([],(marked b).2):=by unfold gW;rw[ao h]
theorem amP{b:al}(h:¬(marked b).2≠0)(h2:(marked b).1≠1):gW b=([],4):=by unfold gW;rw[aw h,ao h2]
theorem amQ{b:al}(h:¬(marked b).2≠0)(h2:¬(marked b).1≠1)(h3:(aI b).2≠0):gW b=([],(aI b).2):=by unfold gW;rw[aw h,aw h2,ao h3]
theorem amR{b:al}(h:¬(marked b).2≠0)(h2:¬(marked b).1≠1)(h3:¬(aI b).2≠0)(h4:(aI b).1.length<5):gW b=([],1):=by unfold gW;rw[aw h,aw h2,aw h3,ao h4]
theorem amS{b:al}(h:¬(marked b).2≠0)(h2:¬(marked b).1≠1)(h3:¬(aI b).2≠0)(h4:¬(aI b).1.length<5):gW b=((aI b).1.drop 5,0):=by unfold gW;rw[aw h,aw h2,aw h3,aw h4]
theorem Sq(HT:bI B w0){b:al}(hb:eM B w0 F A c b)(c_:b.length≤1000000):
  a_ B w0 124 [.slice A b.length c] F (FrA (gW b) B w0 F):=by
 refine fw func124 30 [0] ?_;refine bQ ?_;refine ai rfl (uk hb aa) ?_;refine dQ ?_;refine aj (fun lA=>?_) fun lA=>?_
 ·refine bA ?_;rw[amO lA];exact FrA.nil (Y:=[]) rfl rfl rfl
 ·refine bQ ?_;refine aj (fun kh=>?_) fun kh=>?_
  ·refine bQ ?_;rw[amP lA kh];exact FrA.nil (Y:=[]) rfl rfl rfl
  ·refine bG ?_;refine ay rfl (wz HT hb aa) fun sX uO=>?_;refine bG ?_;refine ve [5,6] ?_;refine bJ ?_;refine aj (fun nM=>?_) fun nM=>?_
   ·refine bA ?_;rw[amQ lA kh nM];exact FrA.nil (Y:=[_]) rfl rfl rfl
   ·refine bA ?_;refine aj (fun ka=>?_) fun ka=>?_
    ·refine bQ ?_;rw[amR lA kh nM aa];exact FrA.nil (Y:=[_]) rfl rfl rfl
    ·have hcut:=(aJ.own (B:=B) (w0:=w0) (L:=.own 5 1 sX (aI b).1.length uO (bv (aI b).1)::F) (.head _)).cut (k:=5) aa;have e2:(bv (aI b).1).drop (5*1)=bv ((aI b).1.drop 5):=by simp[bv,yc]
     have e3:(aI b).1.length-5=((aI b).1.drop 5).length:=by rw[iG]
     rw[e2,e3]at hcut;refine bG ?_;refine ab (bP (i:=5) (size:=1) underlying27 ag rfl rfl rfl aa) rfl ?_;refine bz ?_;rw[amS lA kh nM aa];exact⟨_,_,[_],by rw[e3],rfl,hcut⟩
abbrev UnA(R:aR×List aK×Nat×Int)(F:aP)(r:Value)(L:aP):Prop:=∃A' c',r= .tuple #[.agg (aR.cells R.1).toArray,.slice A' R.2.1.length c',ah (R.2.2.1:Int),ah R.2.2.2]∧L= .own 62 4 A' R.2.1.length c' (di R.2.1)::F
theorem amK{b:al}(h:(gW b).2≠0):lZ b=(gR,[],0,(gW b).2):=by unfold lZ;rw[ao h]
theorem amL{b:al}(h:¬(gW b).2≠0)(h2:ohE (gW b).1≠0):lZ b=(gR,[],0,ohE (gW b).1):=by unfold lZ;rw[aw h,ao h2]
theorem amM{b:al}(h:¬(gW b).2≠0)(h2:¬ohE (gW b).1≠0)(h3:(kE (gW b).1).2≠0):lZ b=(gR,[],0,(kE (gW b).1).2):=by unfold lZ;rw[aw h,aw h2,ao h3]
theorem amN{b:al}(h:¬(gW b).2≠0)(h2:¬ohE (gW b).1≠0)(h3:¬(kE (gW b).1).2≠0):lZ b=(ohO (gW b).1,(kE (gW b).1).1,CJ (gW b).1,0):=by unfold lZ;rw[aw h,aw h2,aw h3]
theorem oX(b:al):(aI b).1.length≤b.length:=by
 unfold aI;split
 ·simp
 ·split
  ·simp
  ·simp
theorem adQ(b:al):(gW b).1.length≤b.length:=by
 have:=oX b;unfold gW;split
 ·simp
 ·split
  ·simp
  ·split
   ·simp
   ·split
    ·simp
    ·simp only[iG];omega
theorem fB(o:aR):∀u∈aR.cells o,u.oneCell'=true:=by simp[aR.cells,Value.oneCell']
theorem OA(HT:bI B w0){b:al}(hb:eM B w0 F A c b)(c_:b.length≤1000000):
  a_ B w0 68 [.slice A b.length c] F (UnA (lZ b) F):=by
 have P_:=adQ b;refine fw func68 49 [0] ?_;refine be ?_;refine bc fun g2=>?_;refine bJ ?_;refine aX aoK rfl (Sq HT hb.cons c_) rfl ?_;rintro _ _ ⟨Ax,cx,Y,rfl,cA,hbx⟩;obtain rfl:=cA.symm;refine bQ ?_;have GN:=og Y [.bD g2 23 [ah 0,.bool false,ah 0,ah 0,ah 0,ah 0]] F;refine fP GN ?_;have aho:=hbx.perm GN;have GP:Wk (Y++F) F:=dv Y F;obtain⟨K,hK⟩:=cN (Y++F);simp only[NY]at aho⊢;rw[←hK]at aho GP⊢;have qy:=fB (ohO (gW b).1);refine bG ?_;refine aj (fun iF=>?_) fun iF=>?_
 ·refine be ?_;refine ab (cj [ah 0,.bool false,ah 0,ah 0,ah 0,ah 0] ag) rfl ?_;refine bQ ?_;refine aD 62 4 none ?_;refine nk rfl rfl ag aV gC rfl rfl rfl (.cons (.skip GP)) ?_;rw[amK iF];exact⟨none,0,rfl,rfl⟩
 ·refine bG ?_;refine dX rfl (mU aho aa) fun gn An cn=>?_;refine aF ?_;refine ab (bw [(0,_),(1,_)] [.pointer none,.slice none 0 0,ah 0,.bool false,ah 0,ah 0,ah 0,ah 0,ah 0,ah 0] [0,1] [_,_,_,_,_,_,_,_,_,_] rfl rfl ag) rfl ?_;refine bh fun g24=>?_;refine aF ?_;refine ve [2,8] ?_;refine bG ?_;refine ai rfl (Zi (x:=(gW b).1) (aJ.own (.head _)) aa) ?_;refine bQ ?_;refine aj (fun qx=>?_) fun qx=>?_
  ·refine be ?_;refine ab (cj [ah 0,.bool false,ah 0,ah 0,ah 0,ah 0] ag) rfl ?_;refine bQ ?_;refine aD 62 4 none ?_;refine nk rfl rfl ag aV gC rfl rfl rfl (.cons (.skip (.skip (.skip (.skip GP))))) ?_;rw[amL iF qx];exact⟨none,0,rfl,rfl⟩
  ·refine bG ?_;refine dX rfl (adS HT (x:=(gW b).1) (aJ.own (.head _)) aho.cons aa) fun Ar cr s9=>?_;refine dQ ?_;refine aj (fun zK=>?_) fun zK=>?_
   ·refine be ?_;refine ab (cj [ah 0,.bool false,ah 0,ah 0,ah 0,ah 0] ag) rfl ?_;refine bG ?_;refine ve [2,3,4,5] ?_;refine bF ?_;refine aD 62 4 none ?_;refine nk rfl rfl ag aV gC rfl rfl rfl (.cons (.skip (.skip (.skip (.skip (.skip GP)))))) ?_;rw[amM iF qx zK];exact⟨none,0,rfl,rfl⟩
   ·refine bF ?_;refine cF (Ob g24 gn (.slice Ax (gW b).1.length cx) (ohO (gW b).1) (G0 (gW b).1) (CJ (gW b).1)::K) ?_;refine ae 0 ?_;refine ae 1 ?_;refine ae 2 ?_;refine aW 3 rfl (bU 6 ag rfl aV (aR.cells (ohO (gW b).1)) rfl rfl) ?_;refine ae 4 ?_;refine ae 5 ?_;refine ae 6 ?_;refine ae 7 ?_;refine ae 8 ?_;refine az 9 ?_;refine aF ?_;refine ae 10 ?_;refine ae 11 ?_;refine ae 12 ?_;refine cQ [2,3,4,5] ?_;refine be ?_;refine nk rfl rfl ag aV gC rfl rfl rfl (.cons (.skip (.skip (.skip (.skip GP))))) ?_;rw[amN iF qx zK];exact⟨Ar,cr,rfl,rfl⟩
end
theorem ak5{P:Prop}(h:P:=by(rw[Kk,jb,sH];rfl)):P:=h
abbrev Bo(g:Nat)(v0 v1 v2 v3 v4 v5 v6 v7 v8 v9:Value):Ch:=.bD g 188 [v0,v1,v2,v3,v4,v5,v6,v7,v8,v9]
theorem Jw{ns:bf}(hb:aJ B w0 F 1 (.slice A ns.length c) ns.length (bx ns))(hl:ns.length≤1099511627776)(hs:ns.sum≤1000000000000000):
  a_ B w0 182 [br g] (Bo g (.slice A ns.length c) v1 v2 v3 v4 v5 v6 v7 v8 v9::F) (fun r L=>r=ah (ns.sum:Nat)∧L=Bo g (.slice A ns.length c) v1 v2 v3 v4 v5 v6 v7 v8 v9::F):=by
 refine fw func182 11 [0] ?_;refine GC ?_;refine ai rfl (Dc (ns:=ns) hb.cons hl hs) ?_;refine bG ?_;exact⟨rfl,rfl⟩
theorem I8:∀{ss:bf} {r:al} {k:Nat},k<ss.length→rz (ss.take (k+1)) r=rz (ss.take k) r++[(r.drop (ss.take k).sum).take (ss.getD k 0)]
 |[],_,_,h=>by simp at h
 |n::ss,r,0,_=>by simp[rz]
 |n::ss,r,k+1,h=>by
  have ih:=I8 (ss:=ss) (r:=r.drop n) (k:=k) nr;rw[q9,rz,ih,q9,rz,IC,qa];rfl
theorem uE:∀(ss:bf) (r:al),(rz ss r).length=ss.length
 |[],_=>rfl
 |n::ss,r=>by rw[rz,ef,uE ss,ef]
theorem Uh{l:al}{n:Nat}{xs:cV}(e1:n=l.length)(e2:xs=bv l)(hb:aJ B w0 F 1 (.slice A n c) n xs)(hn:l.length≤1099511627776):
  a_ B w0 36 [.slice A n c] F (fun r L=>∃A' c',r= .slice A' l.length c'∧L= .own 5 1 A' l.length c' (bv l)::F):=by
 subst e1;subst e2;exact l_ l hb hn
def SpA(ss:bf)(cc:Nat)(r:al)(B:Nat)(w0:World)(F:aP)(b:Value→Ch)(v:Value)(L:aP):Prop:=
 ∃(Af:bj) (cf:Nat) (Ac:bj) (c1:Nat) (Ai:bj) (c2:Nat) (FB:List kO),v= .tuple #[.slice Ac cc c1,.slice Ai (r.length-ss.sum-cc) c2]∧L=b (.slice Af ss.length cf):: .own 27 1 Af ss.length cf (FB.map dq)::(FB.map fq++F)∧FB.map (·.2.2)=rz ss r∧
  aJ B w0 F 1 (.slice Ac cc c1) cc (bv ((r.drop ss.sum).take cc))∧aJ B w0 F 1 (.slice Ai (r.length-ss.sum-cc) c2) (r.length-ss.sum-cc) (bv ((r.drop ss.sum).drop cc))
theorem Mn{ss:bf}{cc:Nat}{r:al}(hb:eM B w0 F A c r)(hcr:r.length≤c)(hs:aJ B w0 F 1 (.slice A2 ss.length c2) ss.length (bx ss))(nN:ss.length≤20000)(wO:ss.sum+cc≤r.length)(hrl:r.length≤1099511627776):
  a_ B w0 180 [br g,.slice A r.length c] (Bo g v0 (.slice A2 ss.length c2) (ah cc) v3 v4 v5 v6 v7 (.slice none 0 0) v9::F)
   (SpA ss cc r B w0 F fun v=>Bo g v0 (.slice A2 ss.length c2) (ah cc) v3 v4 v5 v6 v7 v v9):=by
 refine fw func180 49 [0,1] ?_;refine bJ ?_;refine aZ 27 1 none ?_;refine cY ?_;refine aE (fun zf zL zm=>∃(k:Nat) (R:al) (Ar:bj) (cr:Nat) (FB:List kO) (Af:bj) (cf:Nat),(k≤ss.length∧R=r.drop (ss.take k).sum∧R.length≤cr∧aJ B w0 F 1 (.slice Ar R.length cr) R.length (bv R)∧FB.length=k∧FB.map (·.2.2)=rz (ss.take k) r)∧ss.length-k=zm∧Sub zf [(0,br g),(1,.slice Ar R.length cr),(12,.slice A2 ss.length c2),(13,ah ss.length),(14,ah k)]∧Wk zL (.own 27 1 Af FB.length cf (FB.map dq)::Bo g v0 (.slice A2 ss.length c2) (ah cc) v3 v4 v5 v6 v7 (.slice Af FB.length cf) v9::(FB.map fq++F))) _ ⟨0,r,A,c,[],none,0,⟨bT _,ak,hcr,hb,rfl,by simp[rz]⟩,rfl,bp,.refl _⟩ ?_;rintro _ _ _ ⟨k,R,Ar,cr,FB,Af,cf,⟨hk,hR,hRc,U6,Ra,sH⟩,rfl,hs,hp⟩;refine aU hs hp ?_;clear hs hp;refine bz ?_;refine aj (fun jG=>?_) fun jG=>?_
 ·obtain⟨n,hn⟩:=cN (ss.getD k 0);have sI:(ss.take (k+1)).sum=(ss.take k).sum+n:=by rw[ba aa 0,vW,←hn];simp
  have hts:=nK ss (k+1);have U7:R.length=r.length-(ss.take k).sum:=by rw[hR,iG]
  have Kk:=I8 (ss:=ss) (r:=r) (k:=k) aa;rw[←hR,←hn]at Kk;have wJ:=U6.iZ (k:=n) aa;have hct:=U6.cut (k:=n) aa;have e1:(bv R).take (n*1)=bv (R.take n):=by rw[cE];simp[bv,pn]
  have e2:(bv R).drop (n*1)=bv (R.drop n):=by rw[cE];simp[bv,yc]
  have e3:n=(R.take n).length:=by rw[eS];omega
  have e4:R.length-n=(R.drop n).length:=by rw[iG]
  rw[e1]at wJ;rw[e2,e4]at hct;have hhF:aJ B w0 (FB.map fq++F) 1 (.slice Ar n cr) n (bv (R.take n)):=wJ.mono (gy _ _);have hsF:aJ B w0 (FB.map fq++F) 1 (.slice A2 ss.length c2) ss.length (bx ss):=hs.mono (gy _ _);refine bL ?_;refine ab (au ag rfl hsF.cons.cons aa (gb (v:=n) aa hn.symm)) rfl ?_;refine b8 ?_;refine cF (FB.map fq++F) ?_;refine ae 0 ?_;refine ae 1 ?_;refine ae 2 ?_;refine ae 3 ?_;refine ae 5 ?_;refine ae 6 ?_;refine aW 7 rfl (bN (i:=n) (size:=1) underlying27 ag rfl rfl rfl aa) ?_;refine gV 4 8 ?_ ?_
  ·refine aF ?_;refine az 8 ?_;refine bZ rfl rfl (Uh (l:=R.take n) e3 rfl hhF.cons.cons aa) fun sY Bq=>?_;refine az 9 ?_;refine cR rfl (aG fD [_] rfl rfl cw aa aa) fun Ha=>?_;refine az 10 ?_;refine eV rfl (bS fD rfl aV rfl aB cw aa aa) fun Bj Br=>?_;refine ae 11 ?_;refine ae 12 ?_;refine az 13 ?_;refine bz ?_;refine ab (bP (size:=1) underlying27 ag rfl rfl rfl aa) rfl ?_;refine aF ?_;refine ve [0,1,12,13,14] ?_;refine bz ?_;refine av ⟨_,aa,k+1,R.drop n,(if cr=n then Ar else Ar.map (·.add (n*1))),cr-n,FB++[((sY,Bq,R.take n):kO)],Bj,Br,⟨aa,by rw[sI,hR,qa],aa,hct,by simp[Ra],ak5⟩,rfl,bp,.trans ((gl (gl (gl (.skip (.refl _)))))) (.trans (qn (e:=((sY,Bq,R.take n):kO)) [.own 27 1 Bj (FB.length+1) Br (FB.map dq++[dq ((sY,Bq,R.take n):kO)]),Bo g v0 (.slice A2 ss.length c2) (ah cc) v3 v4 v5 v6 v7 (.slice Bj (FB.length+1) Br) v9]) (ax ak ak (bq ak (.refl _))))⟩
  ·refine bZ rfl rfl (Uh (l:=R.take n) e3 rfl hhF.cons.cons aa) fun sY Bq=>?_;refine gV 4 9 ?_ ?_
   ·refine aF ?_;refine az 9 ?_;refine cR rfl (aG fD [_] rfl rfl cw aa aa) fun Ha=>?_;refine az 10 ?_;refine eV rfl (bS fD rfl aV rfl aB cw aa aa) fun Bj Br=>?_;refine ae 11 ?_;refine ae 12 ?_;refine az 13 ?_;refine bz ?_;refine ab (bP (size:=1) underlying27 ag rfl rfl rfl aa) rfl ?_;refine aF ?_;refine ve [0,1,12,13,14] ?_;refine bz ?_;refine av ⟨_,aa,k+1,R.drop n,(if cr=n then Ar else Ar.map (·.add (n*1))),cr-n,FB++[((sY,Bq,R.take n):kO)],Bj,Br,⟨aa,by rw[sI,hR,qa],aa,hct,by simp[Ra],ak5⟩,rfl,bp,.trans ((gl (gl (gl (.skip (.refl _)))))) (.trans (qn (e:=((sY,Bq,R.take n):kO)) [.own 27 1 Bj (FB.length+1) Br (FB.map dq++[dq ((sY,Bq,R.take n):kO)]),Bo g v0 (.slice A2 ss.length c2) (ah cc) v3 v4 v5 v6 v7 (.slice Bj (FB.length+1) Br) v9]) (ax ak ak (bq ak (.refl _))))⟩
   ·refine cR rfl (aG fD [_] rfl rfl cw aa aa) fun Ha=>?_;refine az 4 ?_;refine aF ?_;refine az 10 ?_;refine eV rfl (bS fD rfl aV rfl aB cw aa aa) fun Bj Br=>?_;refine ae 11 ?_;refine ae 12 ?_;refine az 13 ?_;refine bz ?_;refine ab (bP (size:=1) underlying27 ag rfl rfl rfl aa) rfl ?_;refine aF ?_;refine ve [0,1,12,13,14] ?_;refine bz ?_;refine av ⟨_,aa,k+1,R.drop n,(if cr=n then Ar else Ar.map (·.add (n*1))),cr-n,FB++[((sY,Bq,R.take n):kO)],Bj,Br,⟨aa,by rw[sI,hR,qa],aa,hct,by simp[Ra],ak5⟩,rfl,bp,.trans ((gl (gl (gl (.skip (.refl _)))))) (.trans (qn (e:=((sY,Bq,R.take n):kO)) [.own 27 1 Bj (FB.length+1) Br (FB.map dq++[dq ((sY,Bq,R.take n):kO)]),Bo g v0 (.slice A2 ss.length c2) (ah cc) v3 v4 v5 v6 v7 (.slice Bj (FB.length+1) Br) v9]) (ax ak ak (bq ak (.refl _))))⟩
 ·obtain rfl:k=ss.length:=by omega
  rw[jU]at hR sH;have U7:R.length=r.length-ss.sum:=by rw[hR,iG]
  have wJ:=U6.iZ (k:=cc) aa;have hct:=U6.cut (k:=cc) aa;have e1:(bv R).take (cc*1)=bv ((r.drop ss.sum).take cc):=by rw[cE,hR];simp[bv,pn]
  have e2:(bv R).drop (cc*1)=bv ((r.drop ss.sum).drop cc):=by rw[cE,hR];simp[bv,yc]
  rw[e1]at wJ;rw[e2,U7]at hct;refine de ?_;refine b7 (bN (i:=cc) (size:=1) underlying27 ag rfl rfl rfl aa) rfl ?_;refine bz ?_;refine b7 (bP (i:=cc) (size:=1) underlying27 ag rfl rfl rfl aa) rfl ?_;refine be ?_;refine na [(4,_),(5,_)] ⟨rfl,rfl,trivial⟩ ?_;refine be ?_;refine aq (L':=Bo g v0 (.slice A2 ss.length c2) (ah cc) v3 v4 v5 v6 v7 (.slice Af ss.length cf) v9:: .own 27 1 Af ss.length cf (FB.map dq)::(FB.map fq++F)) (.trans ((gl (ed (.refl _)))) (bq (by rw[Ra]) (ax (by rw[Ra]) rfl (.refl _)))) ?_;refine aF ?_;refine⟨Af,cf,Ar,cr,_,_,FB,?_,rfl,sH,wJ,hct⟩;rw[U7]
theorem ajQ{n:Nat}{ch:al}(h:(aI ch).2≠0):xE n ch=(aI ch).2:=by unfold xE;rw[ao h]
theorem ajR{n:Nat}{ch:al}(h:¬(aI ch).2≠0)(h2:(nW n (aI ch).1).2.2.2≠0):xE n ch=(nW n (aI ch).1).2.2.2:=by unfold xE;rw[aw h,ao h2]
theorem ajS{n:Nat}{ch:al}(h:¬(aI ch).2≠0)(h2:¬(nW n (aI ch).1).2.2.2≠0)(h3:(nW n (aI ch).1).2.2.1<(aI ch).1.length):xE n ch=2:=by unfold xE;rw[aw h,aw h2,ao h3]
theorem ajT{n:Nat}{ch:al}(h:¬(aI ch).2≠0)(h2:¬(nW n (aI ch).1).2.2.2≠0)(h3:¬(nW n (aI ch).1).2.2.1<(aI ch).1.length):xE n ch=0:=by unfold xE;rw[aw h,aw h2,aw h3]
def ClA(n:Nat)(ch:al)(F:aP)(b:Value→Value→Ch)(v4 v5:Value)(v:Value)(L:aP):Prop:=
 v=ah (xE n ch)∧((xE n ch≠0∧L=b v4 v5::F)∨(xE n ch=0∧∃(A1:bj) (c1:Nat) (A2:bj) (c2:Nat),L=b (.slice A1 (nW n (aI ch).1).1.length c1) (.slice A2 (nW n (aI ch).1).2.1.length c2):: .own 60 1 A1 (nW n (aI ch).1).1.length c1 (pZ (nW n (aI ch).1).1):: .own 5 1 A2 (nW n (aI ch).1).2.1.length c2 (bv (nW n (aI ch).1).2.1)::F))
theorem HO(HT:bI B w0){ch:al}{k:Nat}(hb:eM B w0 F A c ch)(hl:ch.length≤1000000000)(hk:k≤1000000000):
  a_ B w0 181 [.pointer (some ⟨g,4,none⟩),ah k,.slice A ch.length c] (Bo g v0 v1 v2 v3 v4 v5 v6 v7 v8 v9::F) (ClA k ch F (fun x y=>Bo g v0 v1 v2 v3 x y v6 v7 v8 v9) v4 v5):=by
 have r7:=oX ch;refine fw func181 43 [0,1,2] ?_;refine bJ ?_;refine ay rfl (wz HT hb.cons aa) fun A14 c14=>?_;refine dQ ?_;refine aj (fun jk=>?_) fun jk=>?_
 ·refine bJ ?_;refine aq (.skip (.refl _)) ?_;refine aF ?_;exact⟨by rw[ajQ jk],.inl ⟨by rw[ajQ jk];exact jk,rfl⟩⟩
 ·refine bz ?_;refine aX ao4 rfl (SB ((k:Nat):Int) (l:=(aI ch).1) aB aa aa aa) rfl ?_;rintro _ _ ⟨Bi,Df,G',Ls,rfl,cA⟩;obtain rfl:=cA.symm;refine bQ ?_;refine ve [0,7,8,9,10,11] ?_;refine bJ ?_;refine aj (fun rZ=>?_) fun rZ=>?_
  ·refine bJ ?_;refine aq ((tx (.skip (.skip (.skip (.refl _)))))) ?_;refine aF ?_;exact⟨by rw[ajR jk rZ],.inl ⟨by rw[ajR jk rZ];exact rZ,rfl⟩⟩
  ·refine cY ?_;refine aj (fun GD=>?_) fun GD=>?_
   ·refine bL ?_;refine aq ((tx (.skip (.skip (.skip (.refl _)))))) ?_;refine aF ?_;exact⟨by rw[ajS jk rZ aa],.inl ⟨by rw[ajS jk rZ aa];decide,rfl⟩⟩
   ·refine dQ ?_;refine ve [] ?_;refine bL ?_;refine aq ((tx (ed (ed (.skip (.refl _)))))) ?_;refine aF ?_;exact⟨by rw[ajT jk rZ aa],.inr ⟨ajT jk rZ aa,Bi,Df,G',Ls,rfl⟩⟩
theorem dL.K9{P:Program}{B:Nat}{w0:World}{f:FuncId}{args:cV}{L:aP}{R R2:qI}(h:dL P B w0 f args L R)(hr:∀v M,R v M→∃M2,Wk M M2∧R2 v M2):dL P B w0 f args L R2:=fun w hw=>(h w hw).mono fun e w' ⟨v,M,he,hR,hs⟩=>by
 obtain⟨M2,hk,Yf⟩:=hr v M hR;exact⟨v,M2,he,Yf,hk.sl hs⟩
theorem dL.at_mem{P:Program}{f:FuncId}{args:cV}{v:Value}{x:Ch}{L:aP}(hm:x∈L)(h:∀M,dL P B w0 f args (x::M) (fun r K=>r=v∧K=x::M)):dL P B w0 f args L (fun r K=>r=v∧K=L):=by
 obtain⟨s,t,rfl⟩:=List.append_of_mem hm;have hp:(s++x::t).Perm (x::(s++t)):=yg;exact((h (s++t)).perm hp).K9 fun v M ⟨h1,h2⟩=>⟨_,.dD (by rw[h2];exact hp.symm),h1,rfl⟩
end Go.Proofs.YtaodmbolhoafcaaGreatDoor

/-
  Texts of one proof, joined: part 11. No condition.
-/
import Derived.Test.YtaodmbolhoafcaaGreatDoorZp10
open List renaming length→E
open Go.RowKit Go.Proofs.Tryz
namespace Go.Proofs.YtaodmbolhoafcaaGreatDoor
set_option linter.unusedVariables false
set_option linter.unusedSimpArgs false
set_option maxRecDepth 20000
variable{B:Nat}{w0:World}{F L0:aR}{A A1 A2 Ao:bk}{n c c1 c2 co g gc:Nat}{s:Cs}{X:cZ}{bt:TypeId}{bound size:Int}{v0 v1 v2 v3 v4 v5 v6 v7 v8 v9:Value}
theorem nV(o:aN):aZ B w0 41 [.agg (aN.cells o).toArray] F (λr L=>r=ah (ct 2 (o2 o))∧L=F):=by
 obtain⟨bl,pl,bu,da,pa,ch⟩:=o;refine b_ func41 11 rfl rfl rfl [(0,.agg #[ah bl,.bool pl,ah bu,ah da,ah pa,ah ch])] ⟨⟨rfl,rfl⟩,trivial⟩ ?_;refine bc ?_;refine bg λg1=>?_;refine de ?_;refine ab (bx [(0,_),(1,_),(2,_)] [ah 0,.bool false,ah 0,ah 0,ah 0,ah 0] [0,1,2] [_,_,_,_,_,_] rfl rfl ag) rfl (ai rfl (kY 2 (bl,pl,bu,0,0,0)) (b7 ?_));refine aq (.skip (.refl _)) (aF ?_);exact⟨rfl,rfl⟩
theorem oz(l:bf)(k:Nat):(l.take k).sum<=l.sum:=by
 conv=>rhs;rw[<-jd k l,w7]
 omega
theorem Eh{ns:bf}(hb:aM B w0 F 1 (.slice A (E ns) c) (E ns) (bD ns))(hl:E ns<=1099511627776)(hs:ns.sum<=1000000000000000):
  aZ B w0 92 [.slice A (E ns) c] F (λr L=>r=ah (ns.sum:Nat)∧L=F):=by
 refine fw func92 17 [0] ?_;refine Bh ?_;refine aD (λzf zL zm=>∃(k:Nat),(k<=E ns)∧E ns-k=zm∧Sub zf [(3,ah ((ns.take k).sum:Nat)),(6,.slice A (E ns) c),(7,ah (E ns)),(8,ah k)]∧Wk zL (F)) _ ⟨0,bU _,rfl,bp,.refl _⟩ ?_;rintro _ _ _ ⟨k,hk,rfl,hs,hp⟩;refine aT hs hp ?_;clear hs hp;refine bB ?_;refine aj (λh9=>?_) λh9=>?_
 ·obtain⟨v,hv⟩:=cK (ns.getD k 0);have tH:(ns.take (k+1)).sum=(ns.take k).sum+v:=by rw[aY aa 0,w7,<-hv];simp
  have hle:=oz ns (k+1);refine bI ?_;refine ab (au ag rfl hb aa (gv (v:=v) aa hv.symm)) rfl (bB ?_);refine ab (bJ rfl rfl (r:=(((ns.take (k+1)).sum:Nat):Int)) ((bq aa aa).trans aa)) rfl (bK ?_);refine av ⟨_,aa,k+1,aa,rfl,bp,.refl _⟩
 ·obtain rfl:k=E ns:=by omega
  rw[ki];refine cY ?_;exact⟨rfl,rfl⟩
abbrev Db(g:Nat)(A1:bk)(n1 c1:Nat)(A2:bk)(n2 c2:Nat)(c i:Nat):Ch:=.bG g 83 [.slice A1 n1 c1,.slice A2 n2 c2,ah c,ah i]
def vE(ns ss:bf)(k:Nat):al:=((ns.zip ss).take k).flatMap λp=>aS p.1++aS p.2
theorem ach{ns ss:bf}(hl:E ns=E ss){k:Nat}(hk:k<E ns):vE ns ss (k+1)=vE ns ss k++(aS (ns.getD k 0)++aS (ss.getD k 0)):=by
 unfold vE;rw[aY (d:=(0,0)) bT,uP];simp[ba,fc hk,fc (show k<E ss by omega),fc (show k<E (ns.zip ss) by simp;omega)]
theorem z8(ns ss:bf)(h1:∀n∈ns,n<18446744073709551616)(h2:∀n∈ss,n<18446744073709551616)(k:Nat):E (vE ns ss k)<=20*k:=by
 unfold vE;have:∀l:List (Nat×Nat),(∀p∈l,p.1<18446744073709551616∧p.2<18446744073709551616)->E (l.flatMap λp=>aS p.1++aS p.2)<=20*E l:=by
  intro l;induction l with
  |nil=>simp
  |cons p r ih=>
   intro h;have h3:=ih λq hq=>h q Nx;obtain⟨h4,h5⟩:=h p ak;have h6:=aV h4;have h7:=aV h5;rw[ka,aX,aX,dI];omega
 have h3:=this ((ns.zip ss).take k) λp hp=>by
  have hp:=my hp;exact⟨h1 _ (List.of_mem_zip hp).1,h2 _ (List.of_mem_zip hp).2⟩
 rw[eY]at h3;omega
theorem SE{ns ss:bf}{cc ii:Nat}(hl:E ns=E ss)(qJ:aM B w0 F 1 (.slice A1 (E ns) c1) (E ns) (bD ns))(pB:aM B w0 F 1 (.slice A2 (E ss) c2) (E ss) (bD ss))(hn:E ns<=100000)(hs:ns.sum<=1000000000000000)(j_:∀x∈ss,x<=1000000000000000)(hc:cc<=1000000000000000)(hi:ii<=1000000000000000):
  aZ B w0 50 [br g] (Db g A1 (E ns) c1 A2 (E ss) c2 cc ii::F) (Hx (yN ns ss cc ii) (Db g A1 (E ns) c1 A2 (E ss) c2 cc ii::F)):=by
 have hn1:=aV (x:=ns.sum) aa;have uK:=aV (x:=E ns) aa;have hn3:=aV (x:=cc) aa;have hn4:=aV (x:=ii) aa;have hz:=z8 ns ss (λn hn=>IG) (λn hn=>by have:=j_ n hn;omega);refine fw func50 63 [0] ?_;refine bB ?_;refine cE (Db g A1 (E ns) c1 A2 (E ss) c2 cc ii::F) ?_;refine ae 0 ?_;refine ae 1 ?_;refine ae 2 ?_;refine ae 3 ?_;refine ae 7 ?_;refine ae 8 ?_;refine ae 9 ?_;refine ae 10 ?_;refine ae 11 ?_;refine aU 12 rfl (bm underlying3 underlying60 rfl (r:=((E ns:Nat):Int)) (gj aa aa)) (aA 4 (js rfl rfl (Eh (ns:=ns) qJ.cons aa hs) (aU 5 rfl (bm underlying3 underlying60 rfl (r:=((ns.sum:Nat):Int)) (gj aa aa)) (aA 6 (b8 rfl rfl (jj ns.sum aa) λMN c12=>aA 13 (b8 rfl rfl (jj (E ns) aa) λMO c19=>aA 14 (cX rfl (aG fQ [_,_] rfl rfl cw aa aa) λDZ=>aA 15 (b8 rfl rfl (R4 (l1:=aS ns.sum) (l2:=aS (E ns)) aB aB aB rfl rG) λA21 c21=>?_))))))));refine ae 16 ?_;refine cP [0,3] ?_;refine cY ?_;refine aD (λzf zL zm=>∃(k:Nat) (A':bk) (c':Nat) (acc:al),(k<=E ns∧acc=aS ns.sum++aS (E ns)++vE ns ss k)∧E ns-k=zm∧Sub zf [(0,br g),(3,.slice A' (E acc) c'),(25,.slice A1 (E ns) c1),(26,ah (E ns)),(27,ah k)]∧Wk zL (.own 5 1 A' (E acc) c' (bv acc)::Db g A1 (E ns) c1 A2 (E ss) c2 cc ii::F)) _ ⟨0,A21,c21,aS ns.sum++aS (E ns),⟨bU _,by simp[vE]⟩,rfl,bp,(eu (ur (.s3 (.refl _))))⟩ ?_;rintro _ _ _ ⟨k,A',c',acc,⟨hk,mc⟩,rfl,hs,hp⟩;refine aT hs hp ?_;clear hs hp;refine bB ?_;refine aj (λrn=>?_) λrn=>?_
 ·obtain⟨v,hv⟩:=cK (ns.getD k 0);obtain⟨u,hu⟩:=cK (ss.getD k 0);have hzs:=ach hl (k:=k) aa;have LD:=hz k;have wC:=hz (k+1);have hvs:v<=ns.sum:=by rw[hv];exact qg (bj aa 0)
  have hus:u<=1000000000000000:=by rw[hu];exact j_ _ (bj aa 0)
  have hn5:=aV (x:=v) aa;have hn6:=aV (x:=u) aa;rw[<-hv,<-hu]at hzs;have Hu:E acc=E (aS ns.sum)+E (aS (E ns))+E (vE ns ss k):=by rw[mc];simp only[aX]
  refine bK ?_;refine ab (au ag rfl aB aa (gv (v:=v) aa hv.symm)) rfl (b7 ?_);refine cE (.own 5 1 A' (E acc) c' (bv acc)::Db g A1 (E ns) c1 A2 (E ss) c2 cc ii::F) ?_;refine ae 0 ?_;refine ae 1 ?_;refine aU 2 rfl (bm underlying3 underlying60 rfl (r:=((v:Nat):Int)) (gj aa aa)) (ae 4 ?_);refine ae 5 ?_;refine ae 6 ?_;refine ae 7 ?_;refine ae 8 ?_;refine ae 9 ?_;refine aU 10 rfl (au ag rfl aB aa (gv (v:=u) aa hu.symm)) ?_;refine aU 11 rfl (bm underlying3 underlying60 rfl (r:=((u:Nat):Int)) (gj aa aa)) (aA 3 (b8 rfl rfl (jj v aa) λCg Zh=>aA 12 (b8 rfl rfl (jj u aa) λA44 c44=>aA 13 (cX rfl (aG fQ [_,_,_] rfl rfl cw aa aa) λA45=>aA 14 (b8 rfl rfl (KA (l1:=acc) (l2:=aS v) (l3:=aS u) aB aB aB aB rfl No) λA46 c46=>?_)))));refine ae 15 ?_;refine cP [0,3,25,26,27] ?_;refine bB ?_;refine av ⟨_,aa,k+1,A46,c46,acc++(aS v++aS u),⟨aa,by rw[hzs,mc,bX]⟩,rfl,bp,(eu (wu4 (.s4 (.refl _))))⟩
 ·obtain rfl:k=E ns:=by omega
  have uJ:vE ns ss (E ns)=(ns.zip ss).flatMap λp=>aS p.1++aS p.2:=by unfold vE;rw[fC bT]
  have LD:=hz (E ns);have Hu:E acc=E (aS ns.sum)+E (aS (E ns))+E (vE ns ss (E ns)):=by rw[mc];simp only[aX]
  refine bB ?_;refine cE (.own 5 1 A' (E acc) c' (bv acc)::Db g A1 (E ns) c1 A2 (E ss) c2 cc ii::F) ?_;refine ae 0 ?_;refine ae 1 ?_;refine ae 2 ?_;refine ae 3 ?_;refine ae 4 ?_;refine aU 5 rfl (bm underlying3 underlying60 rfl (r:=((cc:Nat):Int)) (gj aa aa)) (ae 7 ?_);refine ae 8 ?_;refine ae 9 ?_;refine ae 10 ?_;refine aU 11 rfl (bm underlying3 underlying60 rfl (r:=((ii:Nat):Int)) (gj aa aa)) (aA 6 (b8 rfl rfl (jj cc aa) λA54 c54=>aA 12 (b8 rfl rfl (jj ii aa) λA60 c60=>aA 13 (cX rfl (aG fQ [_,_,_] rfl rfl cw aa aa) λA61=>aA 14 (b8 rfl rfl (KA (l1:=acc) (l2:=aS cc) (l3:=aS ii) aB aB aB aB rfl No) λA62 c62=>?_)))));refine ae 15 ?_;refine cP [2] ?_;refine bc ?_;refine aq ((eu (wu4 (.s4 (.refl _))))) (aF ?_);have e:yN ns ss cc ii=acc++(aS cc++aS ii):=by unfold yN;rw[mc,uJ];simp only[bX]
  rw[e];exact⟨A62,c62,rfl,rfl⟩
theorem wO{P:Prop}(h:P:=by(rw[tH])):P:=h
theorem Yf(x:Nat){k:Nat}(hk:k<=7):((x:Nat):Int).fdiv (2^min (((8*k:Nat):Int)).toNat IntKind.u64.bits)=((x/2^(8*k):Nat):Int):=by
 have e:min (((8*k:Nat):Int)).toNat IntKind.u64.bits=8*k:=by
  show min _ 64=_;omega
 rw[e,It,wX]
theorem z7(m:Nat):IntKind.u8.wrap ((m:Nat):Int)=((m%256:Nat):Int):=by
 show((m:Nat):Int)%256=_;omega
theorem OJ{x:Nat}(hx:x<4294967296):aZ B w0 51 [.int .u64 x,ah 4] F (λr L=>∃A' c',r= .tuple #[.slice A' (E (fR x 4)) c',ah 0]∧L= .own 5 1 A' (E (fR x 4)) c' (bv (fR x 4))::F):=by
 have DE:((x:Nat):Int).fdiv (2^min ((32:Int)).toNat IntKind.u64.bits)=0:=by
  have:=Yf x (k:=4) aa;rw[show((8*4:Nat):Int)=32 from rfl]at this;rw[this,show 8*4=32 from rfl];have:x/2^32=0:=CI aa;omega
 refine fw func51 42 [0,1] ?_;refine cF ?_;refine aI rfl rfl rfl (λjU=>?_) (λjU=>?_)
 ·refine bF ?_;refine aI rfl rfl rfl (λku=>?_) (λku=>?_)
  ·refine bF ?_;refine cD (λiI=>?_) λiI=>?_
   ·refine b7 ?_;refine ab (eH rfl rfl (r:=32) rfl) rfl (aF ?_);refine ab (dv rfl rfl aa (r:=0) DE) rfl (bF ?_);refine ve [0,1,24] ?_;refine aF ?_;refine aj (λoB=>?_) λoB=>?_
    ·exfalso;exact oB rfl
    ·refine bF ?_;refine cC (ft (nn:=4) (cc:=4) cB rfl rfl rfl rfl rfl aa aa aa) λtQ=>cF ?_;refine aD (λzf zL zm=>∃(k:Nat),(k<=4)∧4-k=zm∧Sub zf [(0,.int .u64 x),(6,.slice tQ 4 4),(28,ah 4),(29,ah k)]∧Wk zL (.own 5 1 tQ 4 4 (bv (fR x k)++List.replicate (4-k) (.int .u8 0))::F)) _ ⟨0,bU _,rfl,bp,.refl _⟩ ?_;rintro _ _ _ ⟨k,hk,rfl,hs,hp⟩;refine aT hs hp (bB ?_);refine aj (λz_=>?_) λz_=>?_
     ·refine jt ?_;refine ab (eH rfl rfl (r:=((8*k:Nat):Int)) ((bq aa aa).trans aa)) rfl (ab (dv rfl rfl aa (r:=((x/2^(8*k):Nat):Int)) (Yf x aa)) rfl (ab (bm underlying60 underlying5 rfl (r:=((x/2^(8*k)%256:Nat):Int)) (z7 _)) rfl (bO ?_)));refine av ⟨_,aa,k+1,aa,rfl,bp,az rfl (by rw[cH];exact WO aa _ rfl) (.refl _)⟩
     ·obtain rfl:k=4:=by omega
      refine cY ?_;refine aq (L':=.own 5 1 tQ (E (fR x 4)) 4 (bv (fR x 4))::F) (az ak ak (.refl _)) (aF ?_);exact⟨tQ,4,ak,rfl⟩
   ·exfalso;omega
  ·exfalso;omega
 ·exfalso;omega
theorem CO(l:al)(x:UInt8):ji (l++[x])=ji l+256^(E l)*x.toNat:=by
 induction l with
 |nil=>simp[ji]
 |cons c r ih=>
  simp only[mX,ji,ih,dI,jM];rw[uU,Pk];congr 2;rw[<-mT];congr 1;exact jL _ _
theorem sb(l:al):ji l<256^(E l):=by
 induction l with
 |nil=>simp[ji]
 |cons c r ih=>
  have:=c.toNat_lt;simp only[ji,dI,jM];omega
theorem XT(k:Nat):(256:Nat)^k=2^(8*k):=by rw[show(256:Nat)=2^8 from rfl,<-Nat.pow_mul]
theorem amH{y k:Nat}(hk:k<=6)(hy:y<256):IntKind.u64.wrap ((y:Int)*2^min (((8*k:Nat):Int)).toNat IntKind.u64.bits)=((y*256^k:Nat):Int):=by
 have e:min (((8*k:Nat):Int)).toNat IntKind.u64.bits=8*k:=by
  show min _ 64=_;omega
 have hp:(2:Nat)^(8*k)<=2^48:=gJ aa aa;have hm:y*2^(8*k)<=255*2^48:=gU aa hp;have e3:(y:Int)*2^(8*k)=((y*2^(8*k):Nat):Int):=by simp
 rw[e,e3,XT];exact gj aa aa
theorem asZ{m y k:Nat}(hk:k<=6)(hy:y<256)(hm:m<256^k):IntKind.u64.wrap ((BitVec.ofInt IntKind.u64.bits (m:Int) ||| BitVec.ofInt IntKind.u64.bits ((y*256^k:Nat):Int)).toNat:Int)=((m+256^k*y:Nat):Int):=by
 have hp:(2:Nat)^(8*k)<=2^48:=gJ aa aa;have hmm:y*2^(8*k)<=255*2^48:=gU aa hp;rw[XT]at hm⊢;have h64:IntKind.u64.bits=64:=rfl;have h1:(BitVec.ofInt IntKind.u64.bits (m:Int)).toNat=m:=by
  rw[JI,h64];omega
 have h2:(BitVec.ofInt IntKind.u64.bits ((y*2^(8*k):Nat):Int)).toNat=y*2^(8*k):=by
  rw[JI,h64];omega
 rw[BitVec.toNat_or,h1,h2,Qc _ _ _ hm,jL (2^(8*k)) y];exact gj aa aa
theorem KN{b:al}{k:Nat}(h:k<E b):(bv b)[k*1]? =some (.int .u8 ((b.getD k 0).toNat:Int)):=by
 simp[bv,List.getD,fc h]
theorem xq(s:Cs):E (s.take 4)<=4:=by
 unfold Cs.take;split
 ·simp
 ·split
  ·simp
  ·rw[eY];omega
theorem IZ(ho:cu s)(hb:aM B w0 F 1 (.slice A (E s.b) c) (E s.b) (bv s.b)):
  aZ B w0 197 [br g,ah 4] (Cv g A c s::F) (λr L=>r= .int .u64 (s.fixed 4)∧L=Cv g A c (s.lJ 4)::F):=by
 have e1:s.fixed 4=ji (s.take 4):=by unfold Cs.fixed;rw[aw aa]
 have e2:s.lJ 4=s.cj 4:=by unfold Cs.lJ;rw[aw aa]
 have hl:=xq s;obtain⟨t,ht⟩:=cK (s.take 4);rw[e1,e2];rw[<-ht]at hl⊢;refine fw func197 34 [0,1] ?_;refine de ?_;refine aI rfl rfl rfl (λjU=>?_) (λjU=>?_)
 ·refine bB ?_;refine dw λnj=>?_;refine cF ?_;refine ay rfl (mI ho hb (m:=4) aa aa) λtP vH=>?_;rw[<-ht];refine bF ?_;refine aD (λzf zL zm=>∃(k:Nat),(k<=E t)∧E t-k=zm∧Sub zf [(5,.int .u64 (ji (t.take k))),(18,.slice tP (E t) vH),(19,ah (E t)),(20,ah k)]∧Wk zL (Cv g A c (s.cj 4):: .own 5 1 tP (E t) vH (bv t)::F)) _ ⟨0,bU _,rfl,bp,.refl _⟩ ?_;rintro _ _ _ ⟨k,hk,rfl,hs,hp⟩;refine aT hs hp (bB ?_);refine aj (λmx=>?_) λmx=>?_
  ·obtain⟨y,hy⟩:=cK ((t.getD k 0).toNat);have hy8:y<256:=by rw[hy];exact r' _
   have fN:=sb (t.take k);rw[eY,xH hk]at fN;have tH:ji (t.take (k+1))=ji (t.take k)+256^k*y:=by rw[aY aa 0,CO,eY,xH hk,<-hy]
   refine bK ?_;refine ab (au (v:=.int .u8 (y:Int)) ag rfl aB aa (by rw[hy];exact KN aa)) rfl (bI ?_);refine ab (bm underlying5 underlying60 rfl (r:=(y:Int)) (gj aa aa)) rfl (aF ?_);refine ab (eH rfl rfl (r:=((8*k:Nat):Int)) ((bq aa aa).trans aa)) rfl (ab (gk rfl rfl aa (r:=((y*256^k:Nat):Int)) (amH aa hy8)) rfl (ab (uC rfl rfl (r:=((ji (t.take (k+1)):Nat):Int)) ((asZ aa hy8 fN).trans wO)) rfl (bK ?_)));refine av ⟨_,aa,k+1,aa,rfl,bp,.refl _⟩
  ·obtain rfl:k=E t:=by omega
   rw[ki];refine cF ?_;refine aq (.cons (.skip (.refl _))) (aF ?_);exact⟨rfl,rfl⟩
 ·exfalso;omega
section
theorem aqv{P:Prop}(h:P:=by(first|exact⟨λh=>⟨by omega,h⟩,λh=>h.2⟩|exact λh=>absurd h.1 (by omega)|omega)):P:=h
theorem VV{P:Prop}(h:P:=by(have:=qy.1;omega)):P:=h
theorem anf{P:Prop}(h:P:=by(rw[show MZ d-(i+1)=f by omega];exact Tm)):P:=h
theorem acK{P:Prop}(h:P:=by(rw[hu];simp[bD])):P:=h
theorem acR{ns:bf}(hb:aM B w0 F 1 (.slice A (E ns) c) (E ns) (bD ns))(hl:E ns<=1000000000000):
  aZ B w0 264 [.slice A (E ns) c,ah 0] F (λr L=>∃k:Int,r=ah k∧(0<=k↔0∈ns)∧L=F):=by
 refine fw func264 19 [0,1] ?_;refine ei ?_;refine aD (λzf zL zm=>∃(k:Nat),(k<=E ns∧∀i,i<k->ns.getD i 0≠0)∧E ns-k=zm∧Sub zf [(0,.slice A (E ns) c),(1,ah 0),(7,ah (E ns)),(8,ah k)]∧Wk zL (F)) _ ⟨0,⟨bU _,λi h=>absurd h (Nat.not_lt_zero i)⟩,rfl,bp,.refl _⟩ ?_;rintro _ _ _ ⟨k,⟨hk,hz⟩,rfl,hs,hp⟩;refine aT hs hp (bB ?_);refine aj (λh9=>?_) λh9=>?_
 ·obtain⟨v,hv⟩:=cK (ns.getD k 0);refine jG ?_;refine ab (au ag rfl hb aa (gv (v:=v) aa hv.symm)) rfl (bE ?_);refine aj (λlf=>?_) λlf=>?_
  ·refine cY ?_;refine⟨_,rfl,⟨λ_=>?_,λ_=>aa⟩,rfl⟩;have hm:=bj (l:=ns) (k:=k) aa 0;rw[<-hv,show v=0 by omega]at hm;exact hm
  ·refine bI ?_;refine av ⟨_,aa,k+1,⟨aa,λi hi=>(by
    rcases Nat.lt_succ_iff_lt_or_eq.1 hi with h|h
    ·exact hz i h
    ·subst h;omega)⟩,rfl,bp,.refl _⟩
 ·refine cF ?_;refine⟨_,rfl,⟨λh=>absurd h aa,λh=>?_⟩,rfl⟩;obtain⟨i,hi,he⟩:=ke h;exact absurd (by simp[ba,fc hi,he]) (hz i aa)
theorem NA{ns:bf}(hb:aM B w0 F 1 (.slice A (E ns) c) (E ns) (bD ns))(hl:E ns<=1000000000000):
  aZ B w0 224 [.slice A (E ns) c,ah 0] F (λr L=>r= .bool (decide (0∈ns))∧L=F):=by
 refine fw func224 9 [0,1] ?_;refine bO ?_;refine be arv rfl (acR hb hl) rfl ?_;rintro _ _ ⟨k,rfl,hk,cO⟩;obtain rfl:=cO.symm;refine bB ?_;exact⟨dQ Value.bool (zj.2 hk),rfl⟩
def FtA(R:al×al×Int)(B:Nat)(w0:World)(F:aR)(r:Value)(L:aR):Prop:=
 ∃Ar cr Ad cd Y,r= .tuple #[.slice Ar (E R.1) cr,.slice Ad (E R.2.1) cd,ah R.2.2]∧L=Y++F∧E R.1<=cr∧aM B w0 L 1 (.slice Ar (E R.1) cr) (E R.1) (bv R.1)∧aM B w0 L 1 (.slice Ad (E R.2.1) cd) (E R.2.1) (bv R.2.1)
theorem FtA.nil{e:Int}{r:Value}{L Y:aR}(hr:r= .tuple #[.slice none 0 0,.slice none 0 0,ah e])(hL:L=Y++F):FtA ([],[],e) B w0 F r L:=⟨none,0,none,0,Y,hr,hL,gC _,aM.BI,aM.BI⟩
theorem anw{l:al}{n:Nat}{xs:cZ}(e1:n=E l)(e2:xs=bv l)(hb:aM B w0 F 1 (.slice A n c) n xs)(hl:E l<=1099511627776):
  aZ B w0 109 [.slice A n c] F (λr L=>∃g A' c',r=br g∧L=Cv g A' c' ⟨l,0,0⟩:: .own 5 1 A' (E l) c' (bv l)::F):=by
 subst e1;subst e2;exact nC hb hl
theorem Ll(HT:bM B w0){b:al}(hb:fo B w0 F A c b)(di:E b<=1099511627776):
  aZ B w0 178 [.slice A (E b) c] F (FtA (gh b) B w0 F):=by
 refine dU.yw hb λnZ _=>?_;refine fw func178 38 [0] ?_;refine E' ?_;refine aj (λpg=>?_) λpg=>?_
 ·have e:gh b=([],[],1):=by unfold gh;rw[ao aa]
  rw[e];refine bz ?_;exact FtA.nil (Y:=[]) rfl rfl
 ·obtain⟨n,hn⟩:=cK (E b-4);have RS:(E b:Int)-4=(n:Int):=by omega
  have hcut:=hb.cut (k:=n) aa;have e1:(bv b).drop (n*1)=bv (b.drop n):=by rw[cH];simp[bv,zd]
  have e2:E b-n=E (b.drop n):=by rw[iG]
  obtain⟨k,hk⟩:=cK (ftK b);have Jw:Cs.fixed ⟨b.drop n,0,0⟩ 4=k:=by rw[hk,hn];rfl
  have awj:k<4294967296:=by
   have h1:=sb (Cs.take ⟨b.drop n,0,0⟩ 4);have h2:=xq ⟨b.drop n,0,0⟩;have h3:k=ji (Cs.take ⟨b.drop n,0,0⟩ 4):=by rw[<-Jw];unfold Cs.fixed;rw[aw aa]
   have h4:(256:Nat)^(E (Cs.take ⟨b.drop n,0,0⟩ 4))<=256^4:=gJ aa h2;omega
  refine bB ?_;refine ab (bY (i:=n) (size:=1) underlying27 ag rfl rfl RS aa) rfl (fh rfl (anw (l:=b.drop n) e2 e1 hcut aa) λgn An cn=>ai rfl (IZ (s:=⟨b.drop n,0,0⟩) (pS aa) (aM.own (.head _))) ?_);rw[Jw];refine ab (bm underlying60 underlying3 rfl (r:=(k:Int)) (bq aa aa)) rfl (de ?_);refine aj (λju=>?_) λju=>?_
  ·have e:gh b=([],[],1):=by unfold gh;rw[aw aa,ao aa]
   rw[e];refine bF ?_;refine ve [2,3,4] ?_;refine b7 ?_;exact FtA.nil (Y:=[_,_]) rfl rfl
  ·have hkn:k<=n:=by omega
   have hD:ftD b=aH ((b.take n).drop (n-k)):=by unfold ftD;rw[<-hn,<-hk]
   have e:gh b=(b.take (n-k),(ftD b).1,(ftD b).2):=by unfold gh;rw[aw aa,aw aa,<-hn,<-hk]
   rw[e,hD];have hdc:=(hb.jv (k:=n) aa).cut (k:=n-k) aa;have xz:=hb.jv (k:=n-k) aa;have e3:((bv b).take (n*1)).drop ((n-k)*1)=bv ((b.take n).drop (n-k)):=by rw[cH,cH];simp[bv,zd,p_]
   have e4:n-(n-k)=E ((b.take n).drop (n-k)):=by rw[iG,eY];omega
   have e5:(bv b).take ((n-k)*1)=bv (b.take (n-k)):=by rw[cH];simp[bv,p_]
   have e6:n-k=E (b.take (n-k)):=by rw[eY];omega
   rw[e5]at xz;refine bI ?_;refine ab (dC rfl rfl (r:=((n-k:Nat):Int)) ((bq aa aa).trans aa)) rfl (aF ?_);refine ab (eJ (i:=n-k) (j:=n) (size:=1) underlying27 ag rfl rfl rfl rfl RS aa aa) rfl (ay rfl (Sn (l:=(b.take n).drop (n-k)) HT e4 e3 hdc.cons.cons (by rw[<-e4];omega)) λCf Cq=>bF ?_);refine ve [0,3,4,5,6] ?_;refine bB ?_;refine ab (dC rfl rfl (r:=((n-k:Nat):Int)) ((bq aa aa).trans aa)) rfl (ab (bV (i:=n-k) (size:=1) underlying27 ag rfl rfl rfl aa) rfl (bO ?_));refine⟨A,c,Cf,Cq,[_,_,_],by rw[<-e6],rfl,dh,?_,aM.own (.head _)⟩;simp only;rw[<-e6];exact xz.cons.cons.cons
abbrev Dx(X:cZ)(g:Nat)(bt:TypeId)(A1:bk)(n1 c1:Nat)(A2:bk)(n2 c2:Nat)(c i:Nat):Ch:=.bG g bt (.slice A1 n1 c1:: .slice A2 n2 c2::ah c::ah i::X)
theorem xR{m:Nat}:∀l:bf,(∀x∈l,x<=m)->l.sum<=m*E l
 |[],_=>by simp
 |a::r,h=>by
  have h1:=h a ak;have h2:=xR r λx hx=>h x oR;rw[JL,dI,uU];omega
section
variable{m f:Nat}{s:Cs}{ns ss:bf}{R:bf×bf×Cs}
theorem ai8(h:tR m (f+1) s ns ss=R)(he:s.e=0):tR m f ((s.bZ m).bZ 8388608) (ns++[s.int m]) (ss++[(s.bZ m).int 8388608])=R:=by rw[<-h,tR,aw Ns]
theorem adv:∀(f:Nat),tR m f s ns ss=R->s.e≠0->R=(ns,ss,s)
 |0,h,_=>by rw[<-h,tR]
 |f+1,h,he=>by rw[<-h,tR,ao he]
end
theorem EK(d:al):((Dv d:Nat):Int)<=20000:=Cs.gI _ aa aa
theorem AX{d:al}{room:Nat}(hb:fo B w0 F A c d)(di:E d<=1099511627776)(rT:room<=1099511627776):
  aZ B w0 179 [br g,.slice A (E d) c,ah room] (Dx X g 188 none 0 0 none 0 0 0 0::F)
   (λr L=>r=ah (HW d room)∧∃A1 c1 A2 c2,L=Dx X g 188 A1 (E (fq d).1) c1 A2 (E (fq d).2.1) c2 (Du d) (drI d):: .own 3 1 A1 (E (fq d).1) c1 (bD (fq d).1):: .own 3 1 A2 (E (fq d).2.1) c2 (bD (fq d).2.1)::F):=by
 have hR:=EK d;have hB:((MZ d:Nat):Int)<=Dv d:=Cs.gI _ aa aa;have o1:cu (dr1 d):=(pS di).bZ aa;have b1:(dr1 d).b=d:=Cs.cQ _ _ _;have o2:cu (dr2 d):=o1.bZ aa;have b2:(dr2 d).b=d:=(Cs.cQ _ _ _).trans b1;refine fw func179 100 [0,1,2] ?_;refine bK ?_;refine fh rfl (nC hb.cons di) λgn An cn=>bB ?_;refine ai rfl (ja (s:=⟨d,0,0⟩) (most:=20000) (pS di) (aM.own (.head _)) aa aa) (b7 ?_);have e0:Cs.int ⟨d,0,0⟩ 20000=Dv d:=rfl;have e1:Cs.bZ ⟨d,0,0⟩ 20000=dr1 d:=rfl;rw[e0,e1];refine bE ?_;refine ai rfl (ja (s:=dr1 d) (most:=((Dv d:Nat):Int)) o1 (by rw[b1];exact aM.own (.head _)) aa aa) (bF ?_);have e3:(dr1 d).int ((Dv d:Nat):Int)=MZ d:=rfl;have e4:(dr1 d).bZ ((Dv d:Nat):Int)=dr2 d:=rfl;rw[e3,e4];refine a_ 3 1 none (a_ 3 1 none (bF ?_));refine aD (λzf zL zm=>∃(i:Nat) (s:Cs) (ns ss:bf) (A1:bk) (c1:Nat) (A2:bk) (c2:Nat),(i<=MZ d∧s.b=d∧cu s∧tR (Dv d) (MZ d-i) s ns ss=fq d∧E ns=i∧E ss=i∧(∀x∈ns,x<=20000)∧(∀x∈ss,x<=8388608))∧MZ d-i=zm∧Sub zf [(0,br g),(2,ah room),(7,br gn),(8,ah (Dv d)),(9,ah (MZ d)),(10,ah i)]∧Wk zL (Cv gn An cn s:: .own 3 1 A1 (E ns) c1 (bD ns):: .own 3 1 A2 (E ss) c2 (bD ss)::Dx X g 188 A1 (E ns) c1 A2 (E ss) c2 0 0:: .own 5 1 An (E d) cn (bv d)::F)) _ ⟨0,dr2 d,[],[],none,0,none,0,⟨bU _,b2,o2,rfl,rfl,rfl,λx h=>absurd h (mV),λx h=>absurd h (mV)⟩,rfl,bp,(sE (eu (eu (gE (eu (.refl _))))))⟩ ?_;rintro _ _ _ ⟨i,s,ns,ss,A1,c1,A2,c2,⟨hi,RT,hso,xy,Da,oC,hnx,hsx⟩,rfl,hs,hp⟩;refine aT hs hp (bE ?_);refine bR 8 26 [0,2,7,8,9,10] (i<MZ d∧s.e=0) ?_ ?_
 ·refine b7 ?_;refine cD (λrm=>?_) λrm=>?_
  ·refine bc ?_;refine ai rfl (gW) (bE ?_);exact aL (by exact dG aqv)
  ·refine bE ?_;exact aL (by exact dR aqv)
 ·refine bc ?_;refine aj (λqy=>?_) λqy=>?_
  ·have jg:s.e=0:=qy.2;obtain⟨f,hf⟩:∃f,MZ d-i=f+1:=⟨MZ d-i-1,VV⟩
   rw[hf]at xy;have Tm:=ai8 xy jg;obtain⟨v,hv⟩:=cK (s.int (Dv d));obtain⟨s1,lK⟩:=cK (s.bZ (Dv d));have o3:cu s1:=by rw[lK];exact hso.bZ aa
   have b3:s1.b=d:=by rw[lK];exact(Cs.cQ _ _ _).trans RT
   have Xi:(v:Int)<=Dv d:=by rw[hv];exact Cs.gI _ aa aa
   rw[<-hv,<-lK]at Tm;obtain⟨u,hu⟩:=cK (s1.int 8388608);have hu2:(u:Int)<=8388608:=by rw[hu];exact Cs.gI _ aa aa
   obtain⟨s2,j_⟩:=cK (s1.bZ 8388608);have o4:cu s2:=by rw[j_];exact o3.bZ aa
   have b4:s2.b=d:=by rw[j_];exact(Cs.cQ _ _ _).trans b3
   rw[<-hu,<-j_]at Tm;refine b7 ?_;refine dY (λzf zL=>∃(A1':bk) (c1':Nat),Sub zf [(0,br g),(2,ah room),(7,br gn),(8,ah (Dv d)),(9,ah (MZ d)),(10,ah i)]∧Wk zL (Cv gn An cn s1:: .own 3 1 A1' (E ns+1) c1' (bD ns++[ah v]):: .own 3 1 A2 (E ss) c2 (bD ss)::Dx X g 188 A1' (E ns+1) c1' A2 (E ss) c2 0 0:: .own 5 1 An (E d) cn (bv d)::F)) ?_ ?_
   ·refine cE F ?_;refine ae 0 ?_;refine ae 1 ?_;refine ae 2 ?_;refine ae 3 ?_;refine ae 5 ?_;refine ae 6 ?_;refine ib 4 7 ?_ ?_
    ·refine aF ?_;refine aA 7 (js rfl rfl (ja (s:=s) (most:=((Dv d:Nat):Int)) hso VS aa aa) (aA 8 (cX rfl (aG fT [_] rfl rfl cw aa aa) λA37=>aA 9 (fi rfl (bW fT rfl aW rfl aB cw aa aa) λMR NS=>?_))));refine ae 10 ?_;refine ae 11 ?_;refine aA 12 (bc ?_);exact bC ⟨MR,NS,bp,.trans (.skip (.refl _)) (nr lK.symm (az rfl (by rw[hv]) (.refl _)))⟩
    ·refine js rfl rfl (ja (s:=s) (most:=((Dv d:Nat):Int)) hso VS aa aa) (ib 4 8 ?_ ?_)
     ·refine aF ?_;refine aA 8 (cX rfl (aG fT [_] rfl rfl cw aa aa) λA37=>aA 9 (fi rfl (bW fT rfl aW rfl aB cw aa aa) λMR NS=>?_));refine ae 10 ?_;refine ae 11 ?_;refine aA 12 (bc ?_);exact bC ⟨MR,NS,bp,.trans (.skip (.refl _)) (nr lK.symm (az rfl (by rw[hv]) (.refl _)))⟩
     ·refine cX rfl (aG fT [_] rfl rfl cw aa aa) λA37=>aA 4 (aF ?_);refine aA 9 (fi rfl (bW fT rfl aW rfl aB cw aa aa) λMR NS=>?_);refine ae 10 ?_;refine ae 11 ?_;refine aA 12 (bc ?_);exact bC ⟨MR,NS,bp,.trans (.skip (.refl _)) (nr lK.symm (az rfl (by rw[hv]) (.refl _)))⟩
   ·rintro _ _ ⟨A1',c1',hs,hp⟩;refine aT hs hp (cE F ?_);refine ae 0 ?_;refine ae 1 ?_;refine ae 2 ?_;refine ae 3 ?_;refine ae 5 ?_;refine ib 4 6 ?_ ?_
    ·refine aF ?_;refine aA 6 ?_;refine js rfl rfl (ja (s:=s1) (most:=8388608) o3 (by rw[b3];exact aB) aa aa) ?_;refine aA 7 ?_;refine cX rfl (aG fT [_] rfl rfl cw aa aa) λA48=>?_;refine aA 8 ?_;refine fi rfl (bW fT rfl aW rfl aB cw aa aa) λRx Rz=>?_;refine ae 9 ?_;refine ae 10 ?_;refine aA 11 ?_;refine bO ?_;refine av ⟨_,aa,i+1,s2,ns++[v],ss++[u],A1',c1',Rx,Rz,⟨VV,b4,o4,anf,by simp[Da],by simp[oC],λx hx=>(by
      rcases dz.1 hx with h|h
      ·exact hnx x h
      ·rw[me.1 h];omega),λx hx=>(by
      rcases dz.1 hx with h|h
      ·exact hsx x h
      ·rw[me.1 h];omega)⟩,rfl,bp,.trans (.skip (.refl _)) (nr j_.symm (az ak tC (az ak acK (bw ak (.refl _)))))⟩
    ·refine js rfl rfl (ja (s:=s1) (most:=8388608) o3 (by rw[b3];exact aB) aa aa) ?_;refine ib 4 7 ?_ ?_
     ·refine aF ?_;refine aA 7 ?_;refine cX rfl (aG fT [_] rfl rfl cw aa aa) λA48=>?_;refine aA 8 ?_;refine fi rfl (bW fT rfl aW rfl aB cw aa aa) λRx Rz=>?_;refine ae 9 ?_;refine ae 10 ?_;refine aA 11 ?_;refine bO ?_;refine av ⟨_,aa,i+1,s2,ns++[v],ss++[u],A1',c1',Rx,Rz,⟨VV,b4,o4,anf,by simp[Da],by simp[oC],λx hx=>(by
       rcases dz.1 hx with h|h
       ·exact hnx x h
       ·rw[me.1 h];omega),λx hx=>(by
       rcases dz.1 hx with h|h
       ·exact hsx x h
       ·rw[me.1 h];omega)⟩,rfl,bp,.trans (.skip (.refl _)) (nr j_.symm (az ak tC (az ak acK (bw ak (.refl _)))))⟩
     ·refine cX rfl (aG fT [_] rfl rfl cw aa aa) λA48=>?_;refine aA 4 ?_;refine aF ?_;refine aA 8 ?_;refine fi rfl (bW fT rfl aW rfl aB cw aa aa) λRx Rz=>?_;refine ae 9 ?_;refine ae 10 ?_;refine aA 11 ?_;refine bO ?_;refine av ⟨_,aa,i+1,s2,ns++[v],ss++[u],A1',c1',Rx,Rz,⟨VV,b4,o4,anf,by simp[Da],by simp[oC],λx hx=>(by
       rcases dz.1 hx with h|h
       ·exact hnx x h
       ·rw[me.1 h];omega),λx hx=>(by
       rcases dz.1 hx with h|h
       ·exact hsx x h
       ·rw[me.1 h];omega)⟩,rfl,bp,.trans (.skip (.refl _)) (nr j_.symm (az ak tC (az ak acK (bw ak (.refl _)))))⟩
  ·have hd3:fq d=(ns,ss,s):=(by
    by_cases hz:i<MZ d
    ·exact adv _ xy λh=>qy ⟨hz,h⟩
    ·rw[show MZ d-i=0 by omega,tR]at xy;exact xy.symm)
   have hC:Du d=s.int 8388608:=by unfold Du;rw[hd3]
   have h4:WA d=s.bZ 8388608:=by unfold WA;rw[hd3]
   have hI:drI d=(WA d).int 8388608:=rfl;have h5:dr5 d=((WA d).bZ 8388608).yR:=rfl;have hC2:((Du d:Nat):Int)<=8388608:=Cs.gI _ aa aa;have hI2:((drI d:Nat):Int)<=8388608:=Cs.gI _ aa aa;have o4:cu (WA d):=by rw[h4];exact hso.bZ aa
   have b4:(WA d).b=d:=by rw[h4];exact(Cs.cQ _ _ _).trans RT
   have o5:cu ((WA d).bZ 8388608):=o4.bZ aa;have b5:((WA d).bZ 8388608).b=d:=(Cs.cQ _ _ _).trans b4;have hns:=xR ns hnx;have hss:=xR ss hsx;have hE:HW d room=if (dr5 d).e≠0 then (dr5 d).e else if 0∈ns∨ns.sum≠Dv d∨ss.sum+Du d+drI d≠room then 2 else 0:=by unfold HW;rw[hd3]
   rw[hd3];simp only;refine bO ?_;refine ai rfl (ja (s:=s) (most:=8388608) hso VS aa aa) (bB ?_);rw[<-hC,<-h4];refine bE ?_;refine ai rfl (ja (s:=WA d) (most:=8388608) o4 (by rw[b4];exact aB) aa aa) (bI ?_);rw[<-hI];refine bc ?_;refine ai rfl (ac0 (s:=(WA d).bZ 8388608) o5 (by rw[b5];exact aB)) (b7 ?_);rw[<-h5];refine bE ?_;refine ve [0,2,8,11,65] ?_;refine aF ?_;refine aj (λh65=>?_) λh65=>?_
   ·rw[ao h65]at hE;refine bK ?_;refine aq ((ur (gE (gE (.s2 (.refl _)))))) (aF ?_);exact⟨by rw[hE],A1,c1,A2,c2,rfl⟩
   ·rw[aw h65]at hE;refine bO ?_;refine gy ark rfl (NA (ns:=ns) aB aa) q9 rfl ?_;refine aF ?_;refine Ca rfl rfl rfl (λZ7=>?_) (λZ7=>?_)
    ·refine bK ?_;refine gy arL rfl (Eh (ns:=ns) aB aa aa) q9 rfl ?_;refine bB ?_;refine Ca rfl rfl rfl (λh81=>?_) (λh81=>?_)
     ·refine bK ?_;refine gy arL rfl (Eh (ns:=ss) aB aa aa) q9 rfl ?_;refine anU ?_;refine lO [(99,_)] ⟨rfl,trivial⟩ ?_;refine aF ?_;refine aj (λh99=>?_) λh99=>?_
      ·refine bI ?_;refine aq ((ur (gE (gE (.s2 (.refl _)))))) (aF ?_);exact⟨by rw[hE,ao (.inr (.inr aa))],A1,c1,A2,c2,rfl⟩
      ·refine bK ?_;refine aq ((ur (gE (gE (.s2 (.refl _)))))) (aF ?_);exact⟨by rw[hE,aw (λh=>h.elim Z7 λh=>h.elim (λh=>aa) λh=>aa)],A1,c1,A2,c2,rfl⟩
     ·refine Bg ?_;refine lO [(99,_)] ⟨rfl,trivial⟩ ?_;refine bO ?_;refine aq ((ur (gE (gE (.s2 (.refl _)))))) (aF ?_);exact⟨by rw[hE,ao (.inr (.inl aa))],A1,c1,A2,c2,rfl⟩
    ·refine ajq ?_;refine lO [(99,_)] ⟨rfl,trivial⟩ ?_;refine bO ?_;refine aq ((ur (gE (gE (.s2 (.refl _)))))) (aF ?_);exact⟨by rw[hE,ao (.inl Z7)],A1,c1,A2,c2,rfl⟩
end
theorem aaC{bound p:Nat}{xs:bf}(h:lE bound xs)(hn:1<=E xs):qb p 0 xs<=(bound-1)/p:=by
 have h1:=qc (p:=p) (xs:=xs) (k:=E xs-1) aa;rw[show E xs-1+1=E xs by omega,ki]at h1;rw[h1];have:=(h (E xs-1) aa).1;exact Nat.div_le_div_right aa
theorem Ol{bound:Nat}{xs:bf}(h:lE bound xs)(hb:bound<=20000)(hn:1<=E xs)(uK:E xs<=600):8*E (sC bound xs)<=E xs*(wid bound (E xs)+3)+31:=by
 have hlen:=h.len;obtain⟨w,hw⟩:=cK (wid bound (E xs));obtain⟨p,hp⟩:=cK (2^w);have hq1:bound/E xs≠0:=by have:=(Ps (x:=1) (y:=bound) (k:=E xs) aa).2 aa;omega
 have h1:=(Nat.log2_lt hq1 (k:=w+1)).1 (by rw[hw];exact Nat.lt_succ_self _);have h2:bound<2^(w+1)*E xs:=(Nat.div_lt_iff_lt_mul aa).1 h1;have h3:bound<p*(2*E xs):=by
  rw[jM,<-hp,mT]at h2;exact h2
 have h4:(bound-1)/p<2*E xs:=Nat.div_lt_of_lt_mul aa;have h5:=aaC (p:=p) h hn;have h6:=tu (p:=p) h (E xs) (gC _);rw[ki]at h6;have h7:=nF p w xs;have Ff:E (aS (E xs))<=2:=Ow 1 _ aa;unfold sC;rw[aw aa,aX,dO,<-hw,<-hp];unfold M0;rw[aX,h7,h6,show E xs*(w+3)=E xs*w+E xs*3 from uU ..];generalize (E xs)*w=z;omega
theorem KM{l:List cm}(h:∀s∈l,E s<=25):E (dH l)<=45*E l:=by
 cases l with
 |nil=>simp[dH]
 |cons t r=>
  have h1:=sn t r (λs hs=>h s (by simp[hs]));have h2:=yQ (s:=t) (by have:=h t ak;omega);have h3:=h t ak;rw[dH,aX,dI];omega
theorem Ee{l:List cm}{sz:Nat}(h:∀s∈l,E s<=25):∀m:Nat,E (jq l sz (List.range m))<=45*E (l.take (m*sz))
 |0=>by simp[jq]
 |m+1=>by
  have h1:=Ee (l:=l) (sz:=sz) h m;have h2:=KM (l:=ck l sz m) (λs hs=>h s (AP hs));have h3:E (l.take ((m+1)*sz))=E (l.take (m*sz))+E (ck l sz m):=by
   unfold ck;rw[kH];simp only[eY,iG];omega
  rw[lT,Ef,aX,h3];omega
theorem EG{l:List cm}{sz:Nat}(h1:1<=sz)(h2:sz<=64)(h:∀s∈l,E s<=25)(hl:E l<=1000000000):E (fY sz l)<=20+55*E l:=by
 have k1:=Ee (l:=l) (sz:=sz) h (h_ sz (E l));have k2:=rP (l:=l) (sz:=sz) h2 h (List.range (h_ sz (E l)));have k3:=aV (x:=E l) aa;have k4:E (l.take (h_ sz (E l)*sz))<=E l:=by rw[eY];omega
 have k5:h_ sz (E l)<=E l+1:=by
  unfold h_;rcases xF (E l) with e|e
  ·rw[e];have:(0+(sz-1))/sz=0:=CI aa;rw[this];omega
  ·refine jz (Nat.div_le_of_le_mul (?_ :_<=sz*(E l+1))) (gC _);have h3:=gU h1 (gC (E l));rw[uU];have h4:E l<=sz*E l:=by omega
   omega
 rw[uR]at k2;simp only[fY,aX];omega
theorem mM{bn m:Nat}:∀I:List (bf),(∀x∈I,E (sC bn x)<=m)->E (I.flatMap (sC bn))<=m*E I
 |[],_=>by simp
 |x::r,h=>by
  have h1:=mM r λy hy=>h y wN;have h2:=h x ak;rw[ka,aX,dI,uU];omega
theorem xE{o:aN}{L:List aJ}{sz:Nat}(jg:o.2.2.1=sz)(h1:1<=sz)(h2:sz<=64)(hw:dN L<=1048576)(hn:E L<=20000):
  rq o L=fY sz (nA L)++(ny L).flatMap (sC (E L))∧lF (nA L)∧E (nA L)=E (ny L)∧(∀x∈ny L,x≠[]∧lE (E L) x)∧E (nA L)<=dN L:=by
 have hio:=KF hw hn;obtain⟨bn,N,auI,ajx,hN,hRT,W9,hNI⟩:=Fj hio;have hbn:bn=E L:=by omega
 subst hbn;have hNe:N=ny L:=by
  have:mF N=mF (ny L):=by rw[<-hN];rfl
  exact AK this
 subst hNe;refine⟨?_,hRT,W9,hNI,?_⟩
 ·unfold rq;rw[jg,JE (T:=nA L) (I:=ny L) aa aa ajx hRT W9 hNI]
 ·have k1:=vq ((List.range (E L)).flatMap (B8 L));have k2:=Eb L (E L) (gC _);rw[ki]at k2;show(sI (B8 L) (E L)).length<=_;unfold sI;omega
theorem Pf{o:aN}{L:List aJ}(h1:1<=o.2.2.1)(h2:o.2.2.1<=64)(hw:dN L<=1048576)(hn:E L<=20000):E (rq o L)<=20+50066*dN L:=by
 obtain⟨sz,jg⟩:∃sz:Nat,o.2.2.1=sz:=⟨o.2.2.1.toNat,aa⟩
 obtain⟨e,k1,k2,k3,k4⟩:=xE (o:=o) (L:=L) jg aa aa hw hn;have k5:=EG (l:=nA L) (sz:=sz) aa aa k1.le aa;have k6:=mM (bn:=E L) (m:=50011) (ny L) λx hx=>WC (k3 x hx).2 hn;rw[e,aX];rw[<-k2]at k6;omega
theorem TD{o:aN}{L:List aJ}(h1:1<=o.2.2.1)(h2:o.2.2.1<=64)(hw:dN L<=2000)(hn:E L<=600):E (rq o L)<=4000000∧(E L<=30->E (rq o L)<=300000):=by
 obtain⟨sz,jg⟩:∃sz:Nat,o.2.2.1=sz:=⟨o.2.2.1.toNat,aa⟩
 obtain⟨e,k1,k2,k3,k4⟩:=xE (o:=o) (L:=L) jg aa aa aa aa;have k5:=EG (l:=nA L) (sz:=sz) aa aa k1.le aa;have k7:=λm (hm:E L<=m) (uj:m<=600)=>mM (bn:=E L) (m:=m*3) (ny L);refine⟨?_,λz_=>?_⟩
 ·have k6:=mM (bn:=E L) (m:=1500) (ny L) λx hx=>by
   obtain⟨j1,j2⟩:=k3 x hx;have j3:=j2.len;have j4:=List.length_pos_iff.2 j1;have j5:=Ol j2 aa aa aa;have j6:=xZ (bound:=E L) (n:=E x) aa;have j7:E x*(wid (E L) (E x)+3)<=600*17:=gU aa aa;omega
  rw[e,aX];rw[<-k2]at k6;omega
 ·have k6:=mM (bn:=E L) (m:=70) (ny L) λx hx=>by
   obtain⟨j1,j2⟩:=k3 x hx;have j3:=j2.len;have j4:=List.length_pos_iff.2 j1;have j5:=Ol j2 aa aa aa;have j6:=xZ (bound:=E L) (n:=E x) aa;have j7:E x*(wid (E L) (E x)+3)<=30*17:=gU aa aa;omega
  rw[e,aX];rw[<-k2]at k6;omega
theorem Nz{P:Prop}(h:P:=by(rw[<-hR])):P:=h
theorem aqZ{P:Prop}(h:P:=by(rw[<-hR]at q;exact absurd q (by decide))):P:=h
theorem adB{b:al}(hb:fo B w0 F A c b)(di:E b<=1000000)(aek:-9223372036854775808<=bound)(OV:bound<=9223372036854775807):
  aZ B w0 268 [ah bound,.slice A (E b) c] F (λr L=>∃p X,r= .tuple #[.pointer p,ah (jb bound b).2.1,ah (jb bound b).2.2]∧L=X++F∧
   ((jb bound b).2.2≠0->X=[])∧((jb bound b).2.2=0->∃w pp g A1 c1 A2 c2,p=some ⟨g,0,none⟩∧pp=2^w∧w<=14∧X++F=Rl g w pp A1 c1 A2 c2 (jb bound b).1 F)):=
 (adA hb di aek OV).mono λr L h=>by
  rcases h with⟨h,h1,h2⟩|⟨h,w,pp,g,A1,c1,A2,c2,h1,h2,h3,h4⟩
  ·have e:(jb bound b).2.1=0:=by
    unfold jb at h⊢;split
    ·rfl
    ·split
     ·rfl
     ·split
      ·rename_i q1 q2 q3;rw[aw q1,aw q2,ao q3]at h;exact absurd rfl h
      ·split
       ·rfl
       ·rename_i q1 q2 q3 q4;rw[aw q1,aw q2,aw q3,aw q4]at h;exact absurd rfl h
   exact⟨none,[],by rw[h1,e];rfl,h2,λ_=>rfl,λq=>absurd q h⟩
  ·exact⟨some ⟨g,0,none⟩,Rl g w pp A1 c1 A2 c2 (jb bound b).1 [],by rw[h3,h],h4,λq=>absurd h q,λ_=>⟨w,pp,g,A1,c1,A2,c2,rfl,h1,h2,rfl⟩⟩
theorem ai_{b:al}(h:(jb bound b).2.2=0)(RK:bound<=9223372036854775807):(jb bound b).2.1<=E b∧E (jb bound b).1<=20000∧∀i,i<E (jb bound b).1->(jb bound b).1.getD i 0<=1000000:=by
 obtain⟨bn,rfl,h2,h3,_,h5⟩:=Oi RK h;exact⟨h5,jz h3.len h2,h3.le h2⟩
theorem ap0{t:TypeId}{A8:bk}{c8 m:Nat}{vs:cZ}{e:sA}{O:List sA}(hm:m=E O+1)(hv:vs=O.map kl++[kl e]):Wk (kj e:: .own t 1 A8 m c8 vs::(O.map kj++F)) (.own t 1 A8 (E (O++[e])) c8 ((O++[e]).map kl)::((O++[e]).map kj++F)):=by
 subst hm;subst hv;refine .swap (az ak ak (.dK ?_));rw[jx,bX];exact By.symm
theorem MJ{M N:aR}(h:Wk M N):∀R:aR,Wk (R++M) (R++N)
 |[]=>h
 |_::R=>.cons (MJ h R)
theorem as5{a b c d:Ch}{R:aR}(X:aR):(X++a::b::c::d::R).Perm (a::b::c::d::(X++R)):=
 By.trans ((By.trans ((By.trans (List.perm_middle.cons c)).cons b)).cons a)
def aco(bound:Int)(n:Nat)(b:al)(F:aR)(r:Value)(L:aR):Prop:=
 ∃(A1:bk) (c1 m:Nat) (X:aR),r= .tuple #[.slice A1 m c1,ah (M8 bound n b []).2]∧L=X++F∧((M8 bound n b []).2≠0->A1=none∧c1=0∧m=0∧X=[])∧
  ((M8 bound n b []).2=0->∃LL:List sA,LL.map (·.2.2)=(M8 bound n b []).1∧m=E LL∧E LL=n∧X= .own 53 1 A1 (E LL) c1 (LL.map kl)::LL.map kj)
theorem ajY{b:al}{n:Nat}(hb:fo B w0 F A c b)(di:E b<=1000000)(hn:n<=2000000)(aek:-9223372036854775808<=bound)(OV:bound<=9223372036854775807):
  aZ B w0 227 [ah n,ah bound,.slice A (E b) c] F (aco bound n b F):=by
 obtain⟨G,hG⟩:=cK (M8 bound n b []);unfold aco;rw[<-hG];refine fw func227 43 [0,1,2] ?_;refine cY ?_;refine a_ 53 1 none (bB ?_);refine aD (λzf zL zm=>∃(k:Nat) (Ab:bk) (cb:Nat) (r:al) (O:List sA) (A8:bk) (c8:Nat),(k<=n∧E O=k∧M8 bound (n-k) r (O.map (·.2.2))=G∧aM B w0 F 1 (.slice Ab (E r) cb) (E r) (bv r)∧E r<=E b)∧n-k=zm∧Sub zf [(1,ah bound),(2,.slice Ab (E r) cb),(8,.slice A8 (E O) c8),(12,ah n),(13,ah k)]∧Wk zL (.own 53 1 A8 (E O) c8 (O.map kl)::(O.map kj++F))) _ ⟨0,A,c,b,[],none,0,⟨bU _,rfl,hG.symm,hb,gC _⟩,rfl,bp,.refl _⟩ ?_;rintro _ _ _ ⟨k,Ab,cb,r,O,A8,c8,⟨hk,hO,hR,DA,hrl⟩,rfl,hs,hp⟩;refine aT hs hp (bB ?_);refine aj (λku=>?_) λku=>?_
 ·obtain⟨j,hj⟩:∃j,n-k=j+1:=⟨n-k-1,aa⟩
  rw[hj,M8]at hR;have awa:aM B w0 (O.map kj++F) 1 (.slice Ab (E r) cb) (E r) (bv r):=DA.mono (gL _ F);refine bK ?_;refine be arx rfl (adB aB aa aek OV) rfl ?_;rintro _ _ ⟨p18,X18,rfl,cO,hX1,hX2⟩;obtain rfl:=cO.symm;refine sR ?_;refine aj (λrm=>?_) λrm=>?_
  ·have S4:(jb bound r).2.2≠0:=by simpa using rm
   rw[ao S4]at hR;refine bF ?_;refine ve [6,7] ?_;refine bO ?_;rw[hX1 S4];refine aq (L':=F) (.skip (wq (.refl _) _)) (aF ?_);exact⟨none,0,0,[],Nz,rfl,λ_=>⟨rfl,rfl,rfl,rfl⟩,λq=>by rw[<-hR]at q;exact absurd q S4⟩
  ·have S4:(jb bound r).2.2=0:=by simpa using rm
   rw[aw (by simpa using S4)]at hR;obtain⟨lw,lp,g18,P1,p1,P2,p2,rfl,hlp,hlw,hX⟩:=hX2 S4;rw[hX];obtain⟨aob,auZ,asu⟩:=ai_ S4 OV;clear hX hX1 hX2;obtain⟨xs,hxs⟩:=cK ((jb bound r).1);obtain⟨t,ht⟩:=cK ((jb bound r).2.1);rw[<-hxs]at auZ asu hR⊢;rw[<-ht]at aob hR⊢;refine bE ?_;refine ai rfl (aff) (b7 ?_);refine aj (λqy=>?_) λqy=>?_
   ·rw[ao aa]at hR;refine b7 ?_;refine ve [6,7] ?_;refine bO ?_;refine aq (L':=F) (.s4 (wq (.refl _) _)) (aF ?_);exact⟨none,0,0,[],Nz,rfl,λ_=>⟨rfl,rfl,rfl,rfl⟩,λq=>aqZ⟩
   ·rw[aw aa]at hR;refine bI ?_;refine ay rfl (aoB hlp hlw asu aa) λMP MX=>dL amK rfl rfl rfl rfl rfl (λ_=>rfl) aW aa aa ?_;intro _ xc yb;refine aF ?_;refine ve [1,2,8,10,12,13] ?_;refine b7 ?_;refine ab (bY (i:=t) (size:=1) underlying27 ag rfl rfl rfl aob) rfl ?_;rw[show E r-t=E (r.drop t) from(iG ..).symm];refine bK ?_;have Ff:E O+1=E (O++[(MP,MX,xs)]):=by simp
    refine av ⟨_,aa,k+1,_,_,r.drop t,O++[(MP,MX,xs)],xc,yb,⟨aa,by simp[hO],by rw[show n-(k+1)=j by omega];simpa using hR,by have:=DA.cut aob;rwa [show(bv r).drop (t*1)=bv (r.drop t) by rw[cH,jR],show E r-t=E (r.drop t) from(iG ..).symm]at this,ly⟩,rfl,bp,.s3 (ap0 (e:=(MP,MX,xs)) (O:=O) rfl rfl)⟩
 ·rw[show n-k=0 by omega,M8]at hR;refine cY ?_;refine aj (λCy=>?_) λCy=>?_
  ·refine bK ?_;refine aq (L':=F) (.skip (wq (.refl _) _)) (aF ?_);rw[ao aa]at hR;exact⟨none,0,0,[],Nz,rfl,λ_=>⟨rfl,rfl,rfl,rfl⟩,λq=>aqZ⟩
  ·refine de ?_;rw[aw aa]at hR;exact⟨A8,c8,E O,.own 53 1 A8 (E O) c8 (O.map kl)::O.map kj,Nz,rfl,λq=>by rw[<-hR]at q;exact absurd rfl q,λ_=>⟨O,Nz,rfl,aa,rfl⟩⟩
def acm(d:List cm×List (bf)×Int)(F:aR)(r:Value)(L:aR):Prop:=
 ∃(A1:bk) (c1:Nat) (A2:bk) (c2:Nat) (LL:List sA),r= .tuple #[Hy A1 (E d.1) c1 A2 (E LL) c2,ah d.2.2]∧LL.map (·.2.2)=d.2.1∧
  L= .own 9 1 A1 (E d.1) c1 (strs d.1):: .own 53 1 A2 (E LL) c2 (LL.map kl)::(LL.map kj++F)
theorem Fk{e:Int}{r:Value}(h:r= .tuple #[Hy none 0 0 none 0 0,ah e]):acm ([],[],e) F r (.own 9 1 none 0 0 []:: .own 53 1 none 0 0 []::F):=⟨none,0,none,0,[],h,rfl,rfl⟩
theorem akw{b:al}(hE:bound<0∨20000<bound):aZ B w0 183 [ah size,ah bound,.slice A (E b) c] F (acm (eW size bound b) F):=by
 rw[Xn hE];refine fw func183 48 [0,1,2] ?_;refine bc ?_;refine bh λg6=>?_;refine bB ?_;refine bR 6 17 [0,1,2,6] (bound<0∨20000<bound) ?_ ?_
 ·refine bE ?_;refine aI rfl rfl rfl (λku=>?_) (λku=>?_)
  ·refine b7 ?_;exact aL pM
  ·refine bc ?_;exact aL wy
 ·refine bc ?_;refine aj (λiI=>?_) λiI=>?_
  ·refine bc ?_;refine ab (cJ [.slice none 0 0,.slice none 0 0] ag) rfl (bB ?_);refine aC 53 1 none (aC 9 1 none (iK rfl rfl ag aW gV rfl (.cons (.cons (.skip (.refl _)))) ?_));exact Fk rfl
  ·exfalso;exact iI hE
theorem akx{b:al}(hE:¬(bound<0∨20000<bound))(hb:fo B w0 F A c b)(di:E b<=1000000000)(he:(eo size b).2.2≠0):
  aZ B w0 183 [ah size,ah bound,.slice A (E b) c] F (acm (eW size bound b) F):=by
 rw[Xo hE he];refine fw func183 48 [0,1,2] ?_;refine bc ?_;refine bh λg6=>?_;refine bB ?_;refine bR 6 17 [0,1,2,6] (bound<0∨20000<bound) ?_ ?_
 ·refine bE ?_;refine aI rfl rfl rfl (λku=>?_) (λku=>?_)
  ·refine b7 ?_;exact aL pM
  ·refine bc ?_;exact aL wy
 ·refine bc ?_;refine aj (λiI=>?_) λiI=>?_
  ·exfalso;exact hE iI
  ·refine bB ?_;refine ai rfl (ZE aB aa he) (jG ?_);refine aj (λkG=>?_) λkG=>?_
   ·refine bc ?_;refine ab (cJ [.slice none 0 0,.slice none 0 0] ag) rfl (bE ?_);refine ve [6,7] ?_;refine bE ?_;refine aC 53 1 none (aC 9 1 none (iK rfl rfl ag aW gV rfl (.cons (.cons (.skip (.refl _)))) ?_));exact Fk rfl
   ·exfalso;exact kG he
theorem aky{b:al}(hE:¬(bound<0∨20000<bound))(hb:fo B w0 F A c b)(di:E b<=1000000000)(DA:E (b.drop (eo size b).2.1)<=1000000)(he:(eo size b).2.2=0):
  aZ B w0 183 [ah size,ah bound,.slice A (E b) c] F (acm (eW size bound b) F):=by
 have q4:¬(size<1∨64<size):=λq=>by rw[vJ q]at he;exact absurd he ax
 obtain⟨sz,rfl⟩:=gi (show 0<=size by omega);obtain⟨e1,e2,e3⟩:=Oe (sz:=sz) aa aa he;have hR1:= @Xp sz bound b hE he;have Z8:= @LG sz bound b hE he;have hIL:Bp sz bound b=M8 bound (E (eo sz b).1) (b.drop (eo sz b).2.1) []:=rfl;have hdr:eo sz b=((eo sz b).1,(eo sz b).2.1,0):=FC rfl (FC rfl he);have W9:=e1.2;have hcut:=hb.cut e2;rw[show(bv b).drop ((eo sz b).2.1*1)=bv (b.drop (eo sz b).2.1) by rw[cH,jR],show E b-(eo sz b).2.1=E (b.drop (eo sz b).2.1) from(iG ..).symm]at hcut;have hdl:E (b.drop (eo sz b).2.1)<=E b:=by rw[iG];omega
 obtain⟨T,hT⟩:=cK ((eo sz b).1);obtain⟨t,ht⟩:=cK ((eo sz b).2.1);rw[<-hT]at e1 Z8 hIL hdr W9;rw[<-ht]at e2 hIL hdr hcut hdl DA;obtain⟨G,hG⟩:=cK (Bp sz bound b);rw[<-hG]at hR1 Z8 hIL;clear hG e3;refine b_ func183 48 rfl rfl rfl [(0,ah sz),(1,ah bound),(2,.slice A (E b) c)] ⟨⟨rfl,rfl⟩,⟨rfl,rfl⟩,⟨rfl,rfl⟩,trivial⟩ ?_;refine bc ?_;refine bh λg6=>?_;refine bB ?_;refine bR 6 17 [0,1,2,6] (bound<0∨20000<bound) ?_ ?_
 ·refine bE ?_;refine aI rfl rfl rfl (λku=>?_) (λku=>?_)
  ·refine b7 ?_;exact aL pM
  ·refine bc ?_;exact aL wy
 ·refine bc ?_;refine aj (λiI=>?_) λiI=>?_
  ·exfalso;exact hE iI
  ·refine bB ?_;refine be arn rfl (SH (sz:=sz) aa aa aB aa hdr) rfl ?_;rintro _ _ ⟨g22,P22,p22,Q22,q22,rfl,cO⟩;obtain rfl:=cO.symm;refine jG ?_;refine aj (λkG=>?_) λkG=>?_
   ·exfalso;exact kG rfl
   ·refine bE ?_;refine cE (Dd g22 sz P22 p22 Q22 q22 T (hdS sz T) (.bG g6 90 [.slice none 0 0,.slice none 0 0]::F)) ?_;refine ae 0 ?_;refine ae 2 ?_;refine ae 3 ?_;refine ae 4 ?_;refine aU 5 rfl (bY (i:=t) (size:=1) underlying27 ag rfl rfl rfl e2) ?_;rw[show E b-t=E (b.drop t) from(iG ..).symm];refine aA 1 (js rfl rfl (anE) (aA 6 (gN rfl .no aro rfl (ajY (n:=E T) aB aa aa aa aa) rfl (by rintro _ _ ⟨A37,c37,m37,X37,rfl,rfl,hX1,hX2⟩;exact gD) ?_)));rintro _ _ ⟨A37,c37,m37,X37,rfl,cO,hX1,hX2⟩;obtain rfl:=cO.symm;rw[<-hIL]at hX1 hX2;refine ae 7 ?_;refine ae 8 ?_;refine ae 9 ?_;refine ae 10 ?_;refine ae 11 ?_;refine cP [6,8,10,11] ?_;refine bK ?_;refine aj (λCy=>?_) λCy=>?_
    ·have aee:G.2≠0:=by rw[hIL];simpa using Cy
     obtain⟨rfl,rfl,rfl,rfl⟩:=hX1 aee;rw[hR1 aee];refine bc ?_;refine ab (cJ [.slice none 0 0,.slice none 0 0] ag) rfl (bI ?_);refine aC 53 1 none (aC 9 1 none (iK rfl rfl ag aW gV rfl (.cons (.cons (.s4 (.refl _)))) ?_));exact Fk (by rw[hIL])
    ·have aee:G.2=0:=by rw[hIL];simpa using Cy
     obtain⟨LL,hL1,rfl,hL2,rfl⟩:=hX2 aee;rw[Z8 aee];refine bE ?_;refine gx (as5 (.own 53 1 A37 (E LL) c37 (LL.map kl)::LL.map kj)) ?_;refine bc ?_;refine ay rfl (anB aa) λA45 c45=>aF ?_;refine ab (eZ [(0,_),(1,_)] [_,_] rfl rfl ag) rfl (bF ?_);refine iK rfl rfl ag aW gV rfl (.s3 (.cons (.skip (.refl _)))) ?_;exact⟨A45,c45,A37,c37,LL,rfl,hL1,rfl⟩
theorem akz{b:al}(hb:fo B w0 F A c b)(di:E b<=1000000):
  aZ B w0 183 [ah size,ah bound,.slice A (E b) c] F (acm (eW size bound b) F):=by
 by_cases hE:bound<0∨20000<bound
 ·exact akw hE
 ·by_cases he:(eo size b).2.2=0
  ·exact aky hE hb aa ly he
  ·exact akx hE hb aa he
theorem af5{m:Nat}{B1:bk}{b1:Nat}{T:List cm}{LL:List MT}(e:E LL=m)(h1:aM B w0 F 1 (.slice A1 (E T) c1) (E T) (strs T))(hL:aM B w0 F 1 (.slice B1 m b1) m (LL.map Bn))(hI:mD B w0 F LL)(xC:∀e∈LL,E e.2.2<=9000000000000000000)(hs:E T<=1000000000){d:al}(hp:rp size bound T (fZ LL)=(d,0)):
  aZ B w0 48 [ah size,ah bound,Hy A1 (E T) c1 B1 m b1] F (λr L=>∃A' c',r= .tuple #[.slice A' (E d) c',ah 0]∧L= .own 5 1 A' (E d) c' (bv d)::F):=by
 subst e;have:=af4 (size:=size) (bound:=bound) h1 hL hI xC hs
 rwa [hp]at this
theorem ae0{b:al}(hs:size<=9223372036854775807):E (eW size bound b).1<=1048576∧E (eW size bound b).2.1<=1048576∧∀x∈(eW size bound b).2.1,E x<=20000:=by
 by_cases h:(eW size bound b).2.2=0
 ·obtain⟨sz,bn,rfl,rfl,h1,h2,h3,h4,h5,h6,_⟩:=ajM h hs;have h7:=h4.2;exact⟨h7,aa,λx hx=>jz (h6 x hx).2.len h3⟩
 ·have e:(eW size bound b).1=[]∧(eW size bound b).2.1=[]:=by
   unfold eW at h⊢;split
   ·exact⟨rfl,rfl⟩
   ·split
    ·exact⟨rfl,rfl⟩
    ·split
     ·exact⟨rfl,rfl⟩
     ·rename_i q1 q2 q3;rw[aw q1,aw q2,aw q3]at h;exact absurd rfl h
  rw[e.1,e.2];exact⟨ak,ak,ak⟩
theorem aqV{P:Prop}(h:P:=by(rw[YC];exact aM.own (.tail _ (.head _)))):P:=h
theorem Sg{o:aN}{L:List aJ}(h:ct 2 (o2 o)≠0):aZ B w0 22 [.agg (aN.cells o).toArray,.slice A (E L) c] F (Nc (gb o L) F):=by
 have e:gb o L=([],ct 2 (o2 o)):=by unfold gb;rw[ao h]
 rw[e];obtain⟨bl,pl,bu,da,pa,ch⟩:=o;refine b_ func22 115 rfl rfl rfl [(0,.agg #[ah bl,.bool pl,ah bu,ah da,ah pa,ah ch]),(1,.slice A (E L) c)] ⟨⟨rfl,rfl⟩,⟨rfl,rfl⟩,trivial⟩ ?_;refine bc ?_;refine bg λg2=>?_;refine bK ?_;refine ai rfl (nV (bl,pl,bu,da,pa,ch)) (bO ?_);refine aj (λoB=>?_) λoB=>?_
 ·refine bO ?_;refine aq (.skip (.refl _)) (aC 5 1 none ?_);refine aF ?_;exact⟨none,0,rfl,rfl⟩
 ·exfalso;exact oB h
theorem Sh{o:aN}{L:List aJ}(h:¬ct 2 (o2 o)≠0)(hc:cV L≠0)(hb:aM B w0 F 4 (.slice A (E L) c) (E L) (c_ L)):aZ B w0 22 [.agg (aN.cells o).toArray,.slice A (E L) c] F (Nc (gb o L) F):=by
 have e:gb o L=([],cV L):=by unfold gb;rw[aw h,ao hc]
 rw[e];obtain⟨bl,pl,bu,da,pa,ch⟩:=o;refine b_ func22 115 rfl rfl rfl [(0,.agg #[ah bl,.bool pl,ah bu,ah da,ah pa,ah ch]),(1,.slice A (E L) c)] ⟨⟨rfl,rfl⟩,⟨rfl,rfl⟩,trivial⟩ ?_;refine bc ?_;refine bg λg2=>?_;refine bK ?_;refine ai rfl (nV (bl,pl,bu,da,pa,ch)) (bO ?_);refine aj (λoB=>?_) λoB=>?_
 ·exfalso;exact h oB
 ·refine bB ?_;refine ai rfl (pF L hb.cons) (bO ?_);refine aj (λqu=>?_) λqu=>?_
  ·refine bO ?_;refine aq (.skip (.refl _)) (aC 5 1 none ?_);refine aF ?_;exact⟨none,0,rfl,rfl⟩
  ·exfalso;exact qu hc
structure Nd(S:Nat)(pl:Bool)(fs:ew)(L:List aJ)(gs:bf)(k a:Nat):Prop where
 all:fs++jS false pl (gs.drop k) (L.drop a)=jS false pl gs L
 fit:D3 S (lens false (L.drop a)) (gs.drop k)
 le:a<=E L
theorem Nd.step{S:Nat}{pl:Bool}{fs:ew}{L:List aJ}{gs:bf}{k a n:Nat}(h:Nd S pl fs L gs k a)(hk:k<E gs)(hn:n=gs.getD k 0)(hS:S<=32768)(hL:∀x∈L,x.fits):
  1<=n∧a+n<=E L∧E (dm false ((L.drop a).take n))<=32768∧Nd S pl (fs++[(jY (dm false ((L.drop a).take n)) pl).1]) L gs (k+1) (a+n):=by
 have hgd:gs.drop k=n::gs.drop (k+1):=by rw[hn];exact dD aa 0
 have hf:=h.fit;have ha:=h.all;have hl:=h.le;rw[hgd]at hf ha;obtain⟨f1,f2,f3,f4,f5⟩:=hf;rw[eK,iG]at f2;refine⟨f1,aa,pz hS (λx hx=>hL x (r8 hx)) f1 f3,⟨?_,by rw[<-oi,xI];exact f5,aa⟩⟩;rw[<-ha,bX];show _=fs++(_::jS false pl _ ((L.drop a).drop n));rw[oi];rfl
theorem akJ(b:Bool){L:List aJ}{a k:Nat}(hk:a+k<=E L)(hb:aM B w0 F 4 (.slice A (E L) c) (E L) (c_ L))(hx:∀x∈L,x.1<18446744073709551616)(hw:dN L<=1048576):
  aZ B w0 45 [.bool b,.slice (if c=a then A else A.map (·.add (a*4))) (a+k-a) (c-a)] F (λr K=>∃A' c',r= .slice A' (E (dm b ((L.drop a).take k))) c'∧K= .own 5 1 A' (E (dm b ((L.drop a).take k))) c' (bv (dm b ((L.drop a).take k)))::F):=by
 have hcut:=(hb.jv (k:=a+k) hk).cut (k:=a) aa;have e:(L.take (a+k)).drop a=(L.drop a).take k:=by rw[LP];congr 1;omega
 rw[BX,wg,e]at hcut;have hl:a+k-a=E ((L.drop a).take k):=by rw[eY,iG];omega
 rw[hl]at hcut⊢;exact J4 b ((L.drop a).take k) hcut (λx hxx=>hx x (r8 (my hxx))) (by have:=nU (L.drop a) k;have:=Kt L a;omega)
theorem SF{ns ss:bf}{cc ii n2:Nat}(e:n2=E ss)(hl:E ns=E ss)(qJ:aM B w0 F 1 (.slice A1 (E ns) c1) (E ns) (bD ns))(pB:aM B w0 F 1 (.slice A2 n2 c2) n2 (bD ss))(hn:E ns<=100000)(hs:ns.sum<=1000000000000000)(j_:∀x∈ss,x<=1000000000000000)(hc:cc<=1000000000000000)(hi:ii<=1000000000000000){d:al}(hd:yN ns ss cc ii=d):
  aZ B w0 50 [br g] (Db g A1 (E ns) c1 A2 n2 c2 cc ii::F) (Hx d (Db g A1 (E ns) c1 A2 n2 c2 cc ii::F)):=by
 subst e;subst hd;exact SE hl qJ pB hn hs j_ hc hi
theorem aim{PB:List lu}{n:Nat}{s1 s2 s3 s4:Value}{l l1 l2 l3 l4:al}(hb:aM B w0 F 1 (.slice A n c) n (PB.map dy++[s1,s2,s3,s4]))(hn:n=E PB+4)(hPB:∀e∈PB,aM B w0 F 1 (dy e) (E e.2.2) (bv e.2.2))(h1:aM B w0 F 1 s1 (E l1) (bv l1))(h2:aM B w0 F 1 s2 (E l2) (bv l2))(h3:aM B w0 F 1 s3 (E l3) (bv l3))(h4:aM B w0 F 1 s4 (E l4) (bv l4))(hl:l=(PB.map (·.2.2)).flatten++(l1++(l2++(l3++l4))))(hlen:E l<=1099511627776)(Cz:E PB<=1000000):
  aZ B w0 52 [.slice A n c] F (Hx l F):=by
 have hv:(Ql PB++[(s1,l1),(s2,l2),(s3,l3),(s4,l4)]:eF).Dn=PB.map dy++[s1,s2,s3,s4]:=by
  have:=Gl PB;unfold eF.Dn at this⊢;rw[jx,this];rfl
 refine yk (P:=Ql PB++[(s1,l1),(s2,l2),(s3,l3),(s4,l4)]) (by rw[hv];exact hb) (λy hy=>?_) (by simp[Ql,hn]) ?_ hlen Cm
 ·rcases dz.1 hy with hy|hy
  ·obtain⟨e,he,rfl⟩:=pC.1 hy;exact hPB e he
  ·simp only[fj,mV,oU]at hy;rcases hy with rfl|rfl|rfl|rfl
   ·exact h1
   ·exact h2
   ·exact h3
   ·exact h4
 ·have:=DO PB;unfold eF.all at this⊢;rw[uP,this,hl];simp
theorem aal{L:List aJ}{sz:Nat}(h1:1<=sz)(h2:sz<=64)(hw:dN L<=1048576)(hn:E L<=20000){o:aN}(ho:o.2.2.1=sz):rp (sz:Int) ((E L:Nat):Int) (nA L) (mF (ny L))=(rq o L,0):=by
 have hio:=KF hw hn;have e:=LH (sz:=sz) (bound:=((E L:Nat):Int)) (T:=nA L) (I:=mF (ny L)) h1 h2 hio;have e2:rq o L=(rp (sz:Int) ((E L:Nat):Int) (nA L) (mF (ny L))).1:=by unfold rq;rw[ho]
 rw[e2,e]
theorem E2{m:Nat}:∀PB:List lu,(∀e∈PB,E e.2.2<=m)->E (PB.map (·.2.2)).flatten<=m*E PB
 |[],_=>by simp
 |e::r,h=>by
  have h1:=h e ak;have h2:=E2 r λx hx=>h x oR;simp only[kh,w3,aX,dI,uU,cH];omega
theorem Zc{L:List aJ}{LL:List sA}(h:LL.map (·.2.2)=KE (B8 L) (E L)):∀e∈toI LL,E e.2.2<=E L:=λe he=>by
 obtain⟨x,hx,rfl⟩:=pC.1 he;have h2:x.2.2∈KE (B8 L) (E L):=by rw[<-h];exact jy (f:=λy:sA=>y.2.2) hx
 obtain⟨t,_,ht⟩:=pC.1 h2;simp only[dX];rw[<-ht];unfold PS;refine jz (zb _ _) ak
theorem Si(HT:bM B w0){o:aN}{L:List aJ}(h:¬ct 2 (o2 o)≠0)(hc:¬cV L≠0)(hx:∀x∈L,x.1<18446744073709551616)(hb:aM B w0 F 4 (.slice A (E L) c) (E L) (c_ L)):aZ B w0 22 [.agg (aN.cells o).toArray,.slice A (E L) c] F (Nc (gb o L) F):=by
 have e:gb o L=(dj o L,0):=by unfold gb;rw[aw h,aw hc]
 obtain⟨tT,rR,M4⟩:=kQ (bA hc) hx;have hom:=xL (.inr (.inl rfl)) (bA h);obtain⟨⟨m1,m2⟩,_,m4,_⟩:=hom;obtain⟨m5,m6⟩:=m4 (.inr rfl);have DC:E (dV o false L)<=E L:=by unfold dV;have:=nD o.1.toNat (lens false L);rwa [eK]at this
 have hil:=Pf (o:=o) m5 m6 M4 tT;rw[e];refine dU.yw hb λnZ _=>?_;obtain⟨bl,pl,bu,da,pa,ch⟩:=o;simp only[o2]at m1 m2 m5 m6;obtain⟨S,rfl⟩:=gi (show 0<=bl by omega);obtain⟨sz,rfl⟩:=gi (show 0<=bu by omega);obtain⟨O,hO⟩:∃x:aN,x=((S:Int),pl,(sz:Int),da,pa,ch):=⟨_,rfl⟩
 obtain⟨gs,RP⟩:=cK (dV ((S:Int),pl,(sz:Int),da,pa,ch) false L);have ajD:jT S (lens false L)=gs:=by rw[RP];rfl
 have xD:=Dy ((S:Int),pl,(sz:Int),da,pa,ch) false L;have au1:Nd S pl [] L gs 0 0:=⟨rfl,by rw[rr,rr,<-ajD];exact kT _ _,bU _⟩
 rw[<-RP]at DC xD;refine b_ func22 115 rfl rfl rfl [(0,.agg #[ah (S:Int),.bool pl,ah (sz:Int),ah da,ah pa,ah ch]),(1,.slice A (E L) c)] ⟨⟨rfl,rfl⟩,⟨rfl,rfl⟩,trivial⟩ ?_;refine bc ?_;refine bg λg2=>?_;refine bK ?_;refine ai rfl (nV ((S:Int),pl,(sz:Int),da,pa,ch)) (bO ?_);refine aj (λoB=>?_) λoB=>?_
 ·exfalso;exact h oB
 ·refine bB ?_;refine ai rfl (pF L hb.cons) (bO ?_);refine aj (λqu=>?_) λqu=>?_
  ·exfalso;exact hc qu
  ·refine bI ?_;refine ay rfl (OR ajD hb.cons hx aa aa aa) λxc yb=>ab (bx [(0,_)] [.slice none 0 0,.slice none 0 0,ah 0,ah 0] [0] [_,_,_,_] rfl rfl ag) rfl (bh λg8=>?_);refine aF ?_;refine ve [1,2,8] ?_;refine cY ?_;refine a_ 3 1 none (a_ 27 1 none (bK ?_));refine aD (λzf zL zm=>∃(k a:Nat) (PB:List lu) (Ap:bk) (cp:Nat) (As:bk) (cs:Nat),(k<=E gs∧E PB=k∧Nd S pl (PB.map (·.2.2)) L gs k a∧(∀e∈PB,E e.2.2<=33000)∧a=(gs.take k).sum)∧E gs-k=zm∧Sub zf [(1,.slice A (E L) c),(2,br g2),(8,br g8),(9,.slice Ap (E PB) cp),(10,ah a),(37,.slice xc (E gs) yb),(38,ah (E gs)),(39,ah k)]∧Wk zL (.own 27 1 Ap (E PB) cp (PB.map dy):: .own 3 1 As (E PB) cs (bD (PB.map (·.2.2.length)))::Db g8 xc (E gs) yb As (E PB) cs 0 0:: .own 3 1 xc (E gs) yb (bD gs):: .bG g2 23 [ah (S:Int),.bool pl,ah (sz:Int),ah da,ah pa,ah ch]::(PB.map fE++F))) _ ⟨0,0,[],none,0,none,0,⟨bU _,rfl,au1,λe h=>absurd h (mV),ak⟩,rfl,bp,.refl _⟩ ?_;rintro _ _ _ ⟨k,a,PB,Ap,cp,As,cs,⟨hk,Am,O9,mP,hak⟩,rfl,hs,hp⟩;refine aT hs hp (bB ?_);refine aj (λOS=>?_) λOS=>?_
   ·obtain⟨n,hn⟩:=cK (gs.getD k 0);obtain⟨au4,ajG,aoj,aoc⟩:=O9.step aa hn aa rR;have hbw:=Ed (b:=dm false ((L.drop a).take n)) (pl:=pl) aoj;have tH:(gs.take (k+1)).sum=(gs.take k).sum+n:=by rw[aY aa 0,w7,<-hn];simp
    have hbP:aM B w0 (PB.map fE++F) 4 (.slice A (E L) c) (E L) (c_ L):=hb.mono (gL _ _);refine bI ?_;refine ab (au ag rfl aB aa (gv (v:=n) aa hn.symm)) rfl (b7 ?_);refine cE (.own 27 1 Ap (E PB) cp (PB.map dy):: .own 3 1 As (E PB) cs (bD (PB.map (·.2.2.length)))::Db g8 xc (E gs) yb As (E PB) cs 0 0:: .own 3 1 xc (E gs) yb (bD gs):: .bG g2 23 [ah (S:Int),.bool pl,ah (sz:Int),ah da,ah pa,ah ch]::(PB.map fE++F)) ?_;refine ae 0 ?_;refine ae 1 ?_;refine ae 2 ?_;refine ae 3 ?_;refine aU 4 rfl (bJ rfl rfl (r:=((a+n:Nat):Int)) ((bq aa aa).trans aa)) (aU 5 rfl (eJ (i:=a) (j:=a+n) (size:=4) underlying24 ag rfl rfl rfl rfl rfl aa aa) (ae 7 ?_));refine ae 8 ?_;refine aA 6 (b8 rfl rfl (akJ (L:=L) false ajG hbP.cons.cons.cons.cons.cons hx aa) λC1 Hp=>aA 9 (b8 rfl rfl (NO HT (b:=dm false ((L.drop a).take n)) (p:=pl) aB aa) λA53 c53=>?_));refine ae 10 ?_;refine ae 11 ?_;refine ae 12 ?_;refine ae 13 ?_;refine ae 14 ?_;refine bI ?_;refine ve [1,2,8,9,10,12,13,14,37,38,39,57] ?_;refine aF ?_;refine aj (λh57=>?_) λh57=>?_
    ·exfalso;exact h57 hbw.2
    ·have xB:E (PB++[((A53,c53,(jY (dm false ((L.drop a).take n)) pl).1):lu)])=E PB+1:=by simp
     refine bB ?_;refine dL fQ rfl rfl rfl rfl rfl (λ_=>rfl) aW aa aa ?_;intro _ A62 c62;refine bO ?_;refine dL fT rfl rfl rfl rfl rfl (λ_=>rfl) aW aa aa ?_;intro _ A68 c68;refine bI ?_;refine ab (bJ rfl rfl (r:=((a+n:Nat):Int)) ((bq aa aa).trans aa)) rfl ?_;refine aF ?_;refine ve [1,2,8,9,10,37,38,39] ?_;refine bB ?_;refine av ⟨_,aa,k+1,a+n,PB++[((A53,c53,(jY (dm false ((L.drop a).take n)) pl).1):lu)],A62,c62,A68,c68,⟨aa,by simp[Am],by simpa using aoc,λe h=>(by
      rcases dz.1 h with h|h
      ·exact mP e h
      ·rw[me.1 h];exact hbw.1),aa⟩,rfl,bp,.trans ((eu (gE (gE (gE (gE (gE (.skip (.refl _))))))))) (.trans (q7 (e:=((A53,c53,(jY (dm false ((L.drop a).take n)) pl).1):lu)) [.own 27 1 A62 (E PB+1) c62 (PB.map dy++[dy ((A53,c53,(jY (dm false ((L.drop a).take n)) pl).1):lu)]),.own 3 1 A68 (E PB+1) c68 (bD (PB.map (·.2.2.length))++[ah (E (jY (dm false ((L.drop a).take n)) pl).1:Int)]),Db g8 xc (E gs) yb A68 (E PB+1) c68 0 0,.own 3 1 xc (E gs) yb (bD gs),.bG g2 23 [ah (S:Int),.bool pl,ah (sz:Int),ah da,ah pa,ah ch]]) (az ak ak (az ak tC (bw ak (.refl _)))))⟩
   ·obtain rfl:k=E gs:=by omega
    have Jr:=O9.all;rw[CM]at Jr;have aey:PB.map (·.2.2)=fa ((S:Int),pl,(sz:Int),da,pa,ch) L:=by
     rw[show fa ((S:Int),pl,(sz:Int),da,pa,ch) L=jS false pl gs L by unfold fa;rw[<-RP],<-Jr];simp[jS]
    have hbP:aM B w0 (PB.map fE++F) 4 (.slice A (E L) c) (E L) (c_ L):=hb.mono (gL _ _);have uh:=rL (L:=L) aa;refine bK ?_;refine ay rfl (Zu L hbP.cons.cons.cons.cons.cons hx aa) λA75 c75=>ay rfl (rf HT (l:=kR L) aB aa) λA76 c76=>b7 ?_;refine cE (.own 5 1 A76 (E (cv (kR L))) c76 (bv (cv (kR L))):: .own 5 1 A75 (E (kR L)) c75 (bv (kR L)):: .own 27 1 Ap (E PB) cp (PB.map dy):: .own 3 1 As (E PB) cs (bD (PB.map (·.2.2.length)))::Db g8 xc (E gs) yb As (E PB) cs 0 0:: .own 3 1 xc (E gs) yb (bD gs):: .bG g2 23 [ah (S:Int),.bool pl,ah (sz:Int),ah da,ah pa,ah ch]::(PB.map fE++F)) ?_;refine ae 0 ?_;refine ae 1 ?_;refine ae 2 ?_;refine ae 3 ?_;refine ae 4 ?_;refine aA 5 (gN rfl .no arJ rfl (Wb (L:=L) hbP.cons.cons.cons.cons.cons.cons.cons M4) rfl (by rintro _ _ ⟨AT,cT,AL,cL,LL,rfl,rfl,aju⟩;exact gD) ?_);rintro _ _ ⟨AT,cT,AL,cL,LL,rfl,cO,aju⟩;obtain rfl:=cO.symm;refine aA 6 (b8 rfl rfl (af5 (T:=nA L) (LL:=toI LL) (size:=(sz:Int)) (bound:=((E L:Nat):Int)) (m:=E (nA L)) (d:=rq ((S:Int),pl,(sz:Int),da,pa,ch) L) (by have:=dQ List.length aju;rw[DU];simpa[KE,nA]using this) (aM.own (.head _)) aqV (YB λe he=>.tail _ (.tail _ (kI _ (jy (f:=kj) he)))) (λe he=>by have:=Zc aju e he;omega) (by have:=(xE (o:=((S:Int),pl,(sz:Int),da,pa,ch)) (L:=L) (sz:=sz) rfl aa aa M4 tT).2.2.2.2;omega) (by rw[zT,aju];exact aal aa aa M4 tT rfl)) λA84 c84=>ae 7 ?_);refine ae 8 ?_;refine ae 9 ?_;refine ae 10 ?_;refine ae 11 ?_;refine cP [8,9,15,16,17] ?_;refine bE ?_;refine vy (.cons (.s2 (dB _ _))) ?_;have hCe:pN L=cv (kR L):=rfl;have hIe:pP ((S:Int),pl,(sz:Int),da,pa,ch) L=cv (rq ((S:Int),pl,(sz:Int),da,pa,ch) L):=rfl;have hCl:E (pN L)=E (kR L)+4:=by rw[hCe,dA]
    have hIl:E (pP ((S:Int),pl,(sz:Int),da,pa,ch) L)=E (rq ((S:Int),pl,(sz:Int),da,pa,ch) L)+4:=by rw[hIe,dA]
    rw[<-hCe];have hss:(PB.map (·.2.2.length))=(fa ((S:Int),pl,(sz:Int),da,pa,ch) L).map List.length:=by rw[<-aey];simp
    have hse:E PB=E (PB.map (·.2.2.length)):=by simp
    have hdl:E (yN gs (PB.map (·.2.2.length)) (E (pN L)) (E (pP ((S:Int),pl,(sz:Int),da,pa,ch) L)))<=60+20*E gs:=by
     have h1:=z8 gs (PB.map (·.2.2.length)) (λn hn=>IG) (λn hn=>by
      obtain⟨e,he,rfl⟩:=pC.1 hn;have:=mP e he;omega) (E gs)
     have h2:vE gs (PB.map (·.2.2.length)) (E gs)=(gs.zip (PB.map (·.2.2.length))).flatMap λp=>aS p.1++aS p.2:=by unfold vE;rw[fC bT]
     rw[h2]at h1;have h3:=aV (x:=gs.sum) aa;have h4:=aV (x:=E gs) aa;have h5:=aV (x:=E (pN L)) aa;have h6:=aV (x:=E (pP ((S:Int),pl,(sz:Int),da,pa,ch) L)) aa;unfold yN;simp only[aX];omega
    have hDe:qH ((S:Int),pl,(sz:Int),da,pa,ch) L=cv (yN gs (PB.map (·.2.2.length)) (E (pN L)) (E (pP ((S:Int),pl,(sz:Int),da,pa,ch) L))):=by unfold qH;rw[hss,<-RP]
    obtain⟨dr,hdr⟩:∃x,yN gs (PB.map (·.2.2.length)) (E (pN L)) (E (pP ((S:Int),pl,(sz:Int),da,pa,ch) L))=x:=⟨_,rfl⟩
    rw[hdr]at hdl hDe;have hDl:E (qH ((S:Int),pl,(sz:Int),da,pa,ch) L)=E dr+4:=by rw[hDe,dA]
    have hPB:∀e∈PB,aM B w0 (PB.map fE++F) 1 (dy e) (E e.2.2) (bv e.2.2):=λe he=>aM.own (kI _ (jy (f:=fE) he));have asq:=E2 (m:=33000) PB mP;have avk:∀x∈(PB.map (·.2.2.length)),x<=1000000000000000:=λx hx=>(by
     obtain⟨e,he,rfl⟩:=pC.1 hx;have:=mP e he;omega)
    refine bF ?_;refine aj (λh88=>?_) λh88=>?_
    ·exfalso;exact h88 rfl
    ·refine bF ?_;refine ay rfl (rf HT (l:=rq ((S:Int),pl,(sz:Int),da,pa,ch) L) aB aa) λA91 c91=>b7 ?_;rw[<-hIe];refine cY ?_;refine ay rfl ((SF (cc:=E (pN L)) (ii:=E (pP ((S:Int),pl,(sz:Int),da,pa,ch) L)) hse bT aB aB aa aa avk aa aa hdr).perm ((pu6 (fV (fV (fV (fV (fV (fV (fV (fV (.refl _)))))))))))) λA98 c98=>?_;refine ay rfl (rf HT (l:=dr) aB aa) λA99 c99=>b7 ?_;rw[<-hDe];refine bE ?_;refine ab (bm underlying3 underlying60 rfl (r:=(E (qH ((S:Int),pl,(sz:Int),da,pa,ch) L):Int)) (gj aa aa)) rfl (ay rfl (OJ (x:=E (qH ((S:Int),pl,(sz:Int),da,pa,ch) L)) aa) λatH av6=>bF ?_);refine ve [9,15,16,18,19] ?_;refine bK ?_;refine cC (aG fQ [_,_,_,_] rfl rfl cw aa aa) λav5=>fK (bW fQ rfl aW rfl aB cw aa aa) λaci acY=>?_;refine ay rfl (aim (PB:=PB) (l:=dj ((S:Int),pl,(sz:Int),da,pa,ch) L) (l1:=pN L) (l2:=pP ((S:Int),pl,(sz:Int),da,pa,ch) L) (l3:=qH ((S:Int),pl,(sz:Int),da,pa,ch) L) (l4:=fR (E (qH ((S:Int),pl,(sz:Int),da,pa,ch) L)) 4) aB rfl (λe he=>by repeat (first|exact hPB e he|apply aM.cons)) aB aB aB aB (by rw[aey];rfl) (by unfold dj;rw[<-aey];simp only[aX,qI];omega) aa) λatJ atV=>bF ?_;refine aq (.cons (.skip (.skip (.skip (.skip (.skip (.skip (.skip (.skip (.skip (.skip (.skip (.skip (.skip (dB _ _))))))))))))))) (aF ?_);exact⟨atJ,atV,rfl,rfl⟩
theorem Eg(HT:bM B w0){o:aN}{L:List aJ}(hx:∀x∈L,x.1<18446744073709551616)(hb:aM B w0 F 4 (.slice A (E L) c) (E L) (c_ L)):aZ B w0 22 [.agg (aN.cells o).toArray,.slice A (E L) c] F (Nc (gb o L) F):=by
 by_cases h:ct 2 (o2 o)≠0
 ·exact Sg h
 ·by_cases hc:cV L≠0
  ·exact Sh h hc hb
  ·exact Si HT h hc hx hb
section
abbrev Ob(g gc:Nat)(sx:Value)(o:aN)(r b:Nat):Ch:=.bG g 205 [br gc,sx,ah o.1,.bool o.2.1,ah o.2.2.1,ah o.2.2.2.1,ah o.2.2.2.2.1,ah o.2.2.2.2.2,ah r,ah b]
theorem afH(x:al):(oh1 x).b=x:=Cs.cQ _ _ _
theorem amz(x:al):(XP x).b=x:=by
 unfold XP;split
 ·rw[rM];exact(Cs.cQ _ _ _).trans (afH x)
 ·exact(Cs.cQ _ _ _).trans (afH x)
theorem amA(x:al):(oh3 x).b=x:=(Cs.cQ _ _ _).trans (amz x)
theorem amB(x:al):(Di x).b=x:=(Cs.cQ _ _ _).trans (amA x)
theorem Uf{x:al}(h:E x<=1099511627776):cu (oh1 x):=(pS h).bZ aa
theorem afI{x:al}(h:E x<=1099511627776):cu (XP x):=by
 unfold XP;split
 ·exact(Uf h).e_.failed _
 ·exact(Uf h).e_
theorem Ug{x:al}(h:E x<=1099511627776):cu (oh3 x):=(afI h).bZ aa
theorem Uh(x:al):((Io x:Nat):Int)<=20000:=Cs.gI _ aa aa
theorem aoY{x:al}(h:E x<=1099511627776):cu (Di x):=(Ug h).bZ (by have:=Uh x;omega)
theorem aa1{x:al}{sx:Value}(hb:fo B w0 F A c x)(di:E x<=1099511627776):
  aZ B w0 125 [br g] (Ob g gc sx iV 0 0::Cv gc A c ⟨x,0,0⟩::F)
   (λr L=>r=ah (ohE x)∧L=Ob g gc sx (ohO x) (Io x) (DL x)::Cv gc A c (Di x)::F):=by
 have k1:=afH x;have k2:=amz x;have k3:=amA x;have k4:=amB x;have hR:=Uh x;have hB:((DL x:Nat):Int)<=Io x:=Cs.gI _ aa aa;obtain⟨bl,H8⟩:=cK (Cs.int ⟨x,0,0⟩ 32768);have an4:((bl:Nat):Int)<=32768:=by rw[H8];exact Cs.gI _ aa aa
 have hx8:=r' (aaY x);obtain⟨y,hy⟩:=cK ((aaY x).toNat);have e1:oh1 x=Cs.bZ ⟨x,0,0⟩ 32768:=rfl;have hO:ohO x=(((bl:Nat):Int),decide ((y:Int)=1),0,0,0,0):=by
  unfold ohO;rw[<-H8,<-hy];congr 2;exact zj.2 ⟨λh=>by omega,λh=>aa⟩
 have hE:ohE x=if (Di x).e≠0 then (Di x).e else ct 1 (((bl:Nat):Int),decide ((y:Int)=1),0,0,0,0):=by unfold ohE;rw[hO]
 rw[hO,hE];rw[<-hy]at hx8;refine fw func125 65 [0] ?_;refine cF ?_;refine ai rfl ((ja (g:=gc) (s:=⟨x,0,0⟩) (pS di) (aM.cons hb) aa aa).perm ((mC (fV (.refl _))))) (bI ?_);rw[<-H8,<-e1];refine bF ?_;refine ai rfl (o_ (s:=oh1 x) (Uf di) (by rw[k1];exact hb.cons)) (bE ?_);refine dY (λzf zL=>Sub zf [(0,br g),(3,.int .u8 (y:Int))]∧Wk zL (Cv gc A c (XP x)::Ob g gc sx (((bl:Nat):Int),false,0,0,0,0) 0 0::F)) ?_ ?_
 ·refine aF ?_;refine B_ [(0,br g),(3,.int .u8 (y:Int))] ⟨rfl,(by rw[hy];rfl),trivial⟩ ?_;refine bF ?_;refine aj (λju=>?_) λju=>?_
  ·refine bF ?_;refine ai rfl (nQ 2) (ve [0,3] ?_);exact bC ⟨bp,nr (by unfold XP;rw[ao aa]) (.refl _)⟩
  ·refine aF ?_;exact bC ⟨bp,nr (by unfold XP;rw[aw aa]) (.refl _)⟩
 ·rintro _ _ ⟨hs,hp⟩;refine aT hs hp (cF ?_);have e3:oh3 x=(XP x).bZ 20000:=rfl;have eR:Io x=(XP x).int 20000:=rfl;have e4:Di x=(oh3 x).bZ (Io x):=rfl;have eB:DL x=(oh3 x).int (Io x):=rfl;refine bB ?_;refine ai rfl (ja (s:=XP x) (afI di) (by rw[k2];exact hb.cons) aa aa) (bB ?_);rw[<-eR,<-e3];refine cE F ?_;refine ae 0 ?_;refine ae 1 ?_;refine ae 2 ?_;refine ae 3 ?_;refine ae 5 ?_;refine ae 6 ?_;refine ae 7 ?_;refine ib 4 8 ?_ ?_
  ·refine aF ?_;refine aA 8 (aF ?_);refine aA 9 (js rfl rfl (ja (s:=oh3 x) (most:=((Io x:Nat):Int)) (Ug di) VP aa aa) (ae 10 ?_));refine ae 11 ?_;refine aA 12 (aF ?_);refine cP [0] ?_;refine bE ?_;rw[<-eB,<-e4];refine bF ?_;refine ai rfl (gW) (bO ?_);refine aj (λh58=>?_) λh58=>?_
   ·refine bK ?_;refine aq ((gE (eu (.refl _)))) (aF ?_);exact⟨by rw[ao h58],rfl⟩
   ·refine bI ?_;refine ab (bP 6 ag rfl aW (aN.cells (((bl:Nat):Int),decide ((y:Int)=1),0,0,0,0)) rfl rfl) rfl ?_;refine ai rfl (kY 1 (((bl:Nat):Int),decide ((y:Int)=1),0,0,0,0)) (b7 ?_);refine aq ((gE (eu (.refl _)))) (aF ?_);exact⟨by rw[aw h58],rfl⟩
  ·refine aF ?_;refine aA 4 (aF ?_);refine aA 9 (js rfl rfl (ja (s:=oh3 x) (most:=((Io x:Nat):Int)) (Ug di) VP aa aa) (ae 10 ?_));refine ae 11 ?_;refine aA 12 (aF ?_);refine cP [0] ?_;refine bE ?_;rw[<-eB,<-e4];refine bF ?_;refine ai rfl (gW) (bO ?_);refine aj (λh58=>?_) λh58=>?_
   ·refine bK ?_;refine aq ((gE (eu (.refl _)))) (aF ?_);exact⟨by rw[ao h58],rfl⟩
   ·refine bI ?_;refine ab (bP 6 ag rfl aW (aN.cells (((bl:Nat):Int),decide ((y:Int)=1),0,0,0,0)) rfl rfl) rfl ?_;refine ai rfl (kY 1 (((bl:Nat):Int),decide ((y:Int)=1),0,0,0,0)) (b7 ?_);refine aq ((gE (eu (.refl _)))) (aF ?_);exact⟨by rw[aw h58],rfl⟩
theorem Wa(HT:bM B w0){b:al}{n:Nat}{xs:cZ}(e1:n=E b)(e2:xs=bv b)(hb:aM B w0 F 1 (.slice A n c) n xs)(di:E b<=1000000):
  aZ B w0 230 [.slice A n c] F (BlA (dP b) F):=by
 subst e1;subst e2;exact aiH HT hb di
theorem Ec(b:al):E (dP b).1<=32768:=by
 unfold dP;split
 ·simp
 ·split
  ·simp
  ·exact WS b
theorem aix{b:al}(h:E b<=1000000):(dP b).2.1<=E b:=by
 unfold dP;split
 ·simp
 ·split
  ·simp
  ·have:=(anL (b:=b) aa).at_;rw[arT]at this;exact this
section
variable{s:Cs}
theorem aoZ(h:(dP s.rest).2.2≠0):kp s=([],s,(dP s.rest).2.2):=by unfold kp;rw[ao h]
theorem ao0(h:¬(dP s.rest).2.2≠0)(h2:(rE true (dP s.rest).1).2≠0):kp s=([],s.cj ((dP s.rest).2.1:Nat),(rE true (dP s.rest).1).2):=by unfold kp;rw[aw h,ao h2]
theorem ao1(h:¬(dP s.rest).2.2≠0)(h2:¬(rE true (dP s.rest).1).2≠0)(h3:(rE true (dP s.rest).1).1=[]):kp s=([],s.cj ((dP s.rest).2.1:Nat),2):=by unfold kp;rw[aw h,aw h2,ao h3]
theorem ao2(h:¬(dP s.rest).2.2≠0)(h2:¬(rE true (dP s.rest).1).2≠0)(h3:¬(rE true (dP s.rest).1).1=[]):kp s=((rE true (dP s.rest).1).1,s.cj ((dP s.rest).2.1:Nat),0):=by unfold kp;rw[aw h,aw h2,aw h3]
end
theorem Uk(HT:bM B w0){x:al}{s:Cs}{Ax:bk}{cx r bb:Nat}{o:aN}(hs:s.b=x)(ho:cu s)(hb:fo B w0 F A c x)(hbx:fo B w0 F Ax cx x)(di:E x<=1000000):
  aZ B w0 193 [br g] (Ob g gc (.slice Ax (E x) cx) o r bb::Cv gc A c s::F)
   (λv L=>∃A' c',v= .tuple #[.slice A' (E (kp s).1) c',ah (kp s).2.2]∧L= .own 62 4 A' (E (kp s).1) c' (c_ (kp s).1)::Ob g gc (.slice Ax (E x) cx) o r bb::Cv gc A c (kp s).2.1::F):=by
 have ug:=ho.at_;rw[hs]at ug;have hcut:=hbx.cut ug;have er:s.rest=x.drop s.at_:=by unfold Cs.rest;rw[hs]
 have e2:(bv x).drop (s.at_*1)=bv s.rest:=by rw[cH,er];simp[bv,zd]
 have e3:E x-s.at_=E s.rest:=by rw[er,iG]
 have hrl:=Ec s.rest;have hra:=aix (b:=s.rest) aa;refine fw func193 46 [0] ?_;refine bI ?_;refine cE (Ob g gc (.slice Ax (E x) cx) o r bb::Cv gc A c s::F) ?_;refine ae 0 ?_;refine ae 1 ?_;refine ae 2 ?_;refine ae 3 ?_;refine ae 4 ?_;refine ae 5 ?_;refine ae 6 ?_;refine ae 7 ?_;refine aA 8 (js rfl rfl ((A_).jD ((mC (fV (.refl _))))) (aU 9 rfl (bY (i:=s.at_) (size:=1) underlying27 ag rfl rfl rfl aa) (aA 10 (b8 rfl rfl (Wa HT (b:=s.rest) e3 e2 hcut.cons.cons aa) λMO c19=>ae 11 ?_))));refine ae 12 ?_;refine ae 13 ?_;refine ae 14 ?_;refine ae 15 ?_;refine ae 16 ?_;refine ae 17 ?_;refine cP [0,4,5,6] ?_;refine bK ?_;refine aj (λoB=>?_) λoB=>?_
 ·refine bO ?_;refine aC 62 4 none ?_;rw[aoZ oB];refine aq (.cons (.skip (.refl _))) (aF ?_);exact⟨none,0,rfl,rfl⟩
 ·refine bO ?_;refine ay rfl ((mI (g:=gc) (s:=s) (m:=((dP s.rest).2.1:Nat)) ho (by rw[hs];exact hb.cons.cons) aa aa).perm ((BQ (fV (fV (.refl _)))))) λRX c31=>bF ?_;refine ay rfl (Qn (l:=(dP s.rest).1) true aB aa) λxc yb=>bF ?_;refine ve [6,7] ?_;refine bz ?_;refine aj (λFa=>?_) λFa=>?_
  ·refine bz ?_;refine aC 62 4 none ?_;rw[ao0 oB Fa];refine aq ((eu (wu4 (gE (.s3 (.refl _)))))) (aF ?_);exact⟨none,0,rfl,rfl⟩
  ·refine bK ?_;refine aj (λCy=>?_) λCy=>?_
   ·refine bO ?_;refine aC 62 4 none ?_;rw[ao1 oB Fa (mS aa)];refine aq ((eu (wu4 (gE (.s3 (.refl _)))))) (aF ?_);exact⟨none,0,rfl,rfl⟩
   ·refine de ?_;rw[ao2 oB Fa (λh=>Cy (by rw[h];rfl))];refine aq ((eu (ur (eu (.s2 (.refl _)))))) (aF ?_);exact⟨xc,yb,rfl,rfl⟩
theorem J7(b:Bool):∀(f:Nat) (s:Cs) (o:List aJ),E (oY b f s o).1<=E o+f
 |0,s,o=>by simp[oY]
 |f+1,s,o=>by
  by_cases h:s.left=0
  ·rw[BU h];simp only;omega
  ·by_cases he:(et b s).2.e≠0
   ·rw[BT h he];simp
   ·rw[Gv h he];have:=J7 b f (et b s).2 (o++[(et b s).1]);rw[aX,qM]at this;omega
theorem akH(b:Bool)(l:al):E (rE b l).1<=E l+1:=by
 have:=J7 b (E l+1) ⟨l,0,0⟩ [];unfold rE;simpa using this
theorem afL(s:Cs):E (kp s).1<=32769:=by
 have h1:=Ec s.rest;have h2:=akH true (dP s.rest).1;unfold kp;split
 ·simp
 ·split
  ·simp
  ·split
   ·simp
   ·simp only;omega
theorem akk{s:Cs}{x:al}(hs:s.b=x)(ho:cu s):(kp s).2.1.b=x∧cu (kp s).2.1:=by
 have h1:(s.cj ((dP s.rest).2.1:Nat)).b=x∧cu (s.cj ((dP s.rest).2.1:Nat)):=⟨(Cs.cQ _ _ _).trans hs,ho.cj⟩
 unfold kp;split
 ·exact⟨hs,ho⟩
 ·split
  ·exact h1
  ·split
   ·exact h1
   ·exact h1
theorem J9(l:List aJ):∀u∈c_ l,u.oneCell'=true:=λu hu=>by
 obtain⟨r,_,hr⟩:=List.mem_flatMap.1 hu;simp only[aJ.cells,fj,mV,oU]at hr;rcases hr with rfl|rfl|rfl|rfl<;>rfl
theorem we(l m:List aJ):c_ l++c_ m=c_ (l++m):=by simp[c_]
section
variable{f:Nat}{s:Cs}{out:List aJ}{R:List aJ×Cs×Int}
theorem afK(h:pn (f+1) s out=R)(he:(kp s).2.2≠0):R=([],(kp s).2.1,(kp s).2.2):=by rw[<-h,pn,ao he]
theorem akj(h:pn (f+1) s out=R)(he:¬(kp s).2.2≠0):pn f (kp s).2.1 (out++(kp s).1)=R:=by rw[<-h,pn,aw he]
variable{x:al}
theorem akl(h:pn (DL x) (Di x) []=R)(h1:R.2.2≠0):kZ x=([],R.2.2):=by unfold kZ;rw[h,ao h1]
theorem XQ(h:pn (DL x) (Di x) []=R)(h1:¬R.2.2≠0)(h2:0<R.2.1.left∨E R.1≠Io x):kZ x=([],2):=by unfold kZ;rw[h,aw h1,ao h2]
theorem akm(h:pn (DL x) (Di x) []=R)(h1:¬R.2.2≠0)(h2:¬(0<R.2.1.left∨E R.1≠Io x))(h3:cV R.1≠0):kZ x=([],cV R.1):=by unfold kZ;rw[h,aw h1,aw h2,ao h3]
theorem akn(h:pn (DL x) (Di x) []=R)(h1:¬R.2.2≠0)(h2:¬(0<R.2.1.left∨E R.1≠Io x))(h3:¬cV R.1≠0):kZ x=(R.1,0):=by unfold kZ;rw[h,aw h1,aw h2,aw h3]
end
theorem afP(HT:bM B w0){x:al}{Ax:bk}{cx:Nat}{o:aN}(hb:fo B w0 F A c x)(hbx:fo B w0 F Ax cx x)(di:E x<=1000000):
  aZ B w0 126 [br g] (Ob g gc (.slice Ax (E x) cx) o (Io x) (DL x)::Cv gc A c (Di x)::F)
   (λv L=>∃A' c' s',v= .tuple #[.slice A' (E (kZ x).1) c',ah (kZ x).2]∧L= .own 62 4 A' (E (kZ x).1) c' (c_ (kZ x).1)::Ob g gc (.slice Ax (E x) cx) o (Io x) (DL x)::Cv gc A c s'::F):=by
 have hR:=Uh x;have hB:((DL x:Nat):Int)<=Io x:=Cs.gI _ aa aa;obtain⟨R,Z9⟩:∃R,pn (DL x) (Di x) []=R:=⟨_,rfl⟩
 obtain⟨bb,hbb⟩:=cK (DL x);have ase:=Z9;rw[<-hbb]at hB ase⊢;refine fw func126 47 [0] ?_;refine bI ?_;refine a_ 62 4 none (jt ?_);refine aD (λzf zL zm=>∃(k:Nat) (s:Cs) (out:List aJ) (A':bk) (c':Nat),(k<=bb∧s.b=x∧cu s∧pn (bb-k) s out=R∧E out<=32769*k)∧bb-k=zm∧Sub zf [(0,br g),(4,.slice A' (E out) c'),(11,ah bb),(12,ah k)]∧Wk zL (.own 62 4 A' (E out) c' (c_ out)::Ob g gc (.slice Ax (E x) cx) o (Io x) bb::Cv gc A c s::F)) _ ⟨0,Di x,[],none,0,⟨bU _,amB x,aoY aa,ase,ak⟩,rfl,bp,.refl _⟩ ?_;rintro _ _ _ ⟨k,s,out,A',c',⟨hk,RT,hso,xy,LA⟩,rfl,hs,hp⟩;refine aT hs hp (bB ?_);refine aj (λnj=>?_) λnj=>?_
 ·obtain⟨f,hf⟩:∃f,bb-k=f+1:=⟨bb-k-1,aa⟩
  rw[hf]at xy;have Bl:=afL s;have Xe:=akk RT hso;have p6:=J9 (kp s).1;refine bI ?_;refine ay rfl (.perm (Uk (g:=g) HT RT hso hb.cons hbx.cons di) ((mC (mC (fV (.refl _)))))) λYW c16=>ei ?_;refine aj (λju=>?_) λju=>?_
  ·have Z_:=afK xy ju;have hL:=akl Z9 (by rw[Z_];exact ju);rw[Z_]at hL;refine ei ?_;rw[hL];refine aC 62 4 none (aq ((eu (gE (gE (.s2 (.refl _)))))) (aF ?_));exact⟨none,0,_,rfl,rfl⟩
  ·have Tm:=akj xy ju;have xB:E (out++(kp s).1)=E out+E (kp s).1:=aX;refine bF ?_;refine fK (bW Yi rfl aW rfl aB cw aa aa) λAD Dr=>bK ?_;refine av ⟨_,aa,k+1,(kp s).2.1,out++(kp s).1,AD,Dr,⟨aa,Xe.1,Xe.2,by rw[show bb-(k+1)=f by omega];exact Tm,aa⟩,rfl,bp,.trans ((ur (gE (gE (.skip (.refl _)))))) (az aa (we _ _) (.refl _))⟩
 ·obtain rfl:k=bb:=by omega
  rw[oj]at xy;have Z_:R=(out,s,0):=xy.symm;rw[Z_]at Z9;refine cF ?_;refine ai rfl ((KS (g:=gc) (s:=s) hso (by rw[RT];exact hb.cons.cons)).jD ((BQ (fV (fV (.refl _)))))) (bc ?_);refine aI rfl rfl rfl (λCw=>?_) (λCw=>?_)
  ·refine ei ?_;refine ve [4,40] ?_;refine aF ?_;refine aj (λOS=>?_) λOS=>?_
   ·refine bK ?_;have hL:=XQ Z9 ak (.inr dh);rw[hL];refine aC 62 4 none (aq ((eu (gE (gE (.skip (.refl _)))))) (aF ?_));exact⟨none,0,_,rfl,rfl⟩
   ·refine bB ?_;refine ai rfl (pF out aB) (bO ?_);refine aj (λsT=>?_) λsT=>?_
    ·refine bO ?_;have hL:=akm Z9 ak (λh=>h.elim (λh=>Np) λh=>Np) sT;rw[hL];refine aC 62 4 none (aq ((eu (gE (gE (.skip (.refl _)))))) (aF ?_));exact⟨none,0,_,rfl,rfl⟩
    ·refine bz ?_;have hL:=akn Z9 ak (λh=>h.elim (λh=>Np) λh=>Np) sT;rw[hL];refine aF ?_;exact⟨A',c',_,rfl,rfl⟩
  ·refine bI ?_;refine ve [4,40] ?_;refine bz ?_;have hL:=XQ Z9 ak (.inl dh);rw[hL];refine aC 62 4 none (aq ((eu (gE (gE (.skip (.refl _)))))) (aF ?_));exact⟨none,0,_,rfl,rfl⟩
theorem ao7{b:al}(h:(marked b).2≠0):ig b=([],(marked b).2):=by unfold ig;rw[ao h]
theorem ao8{b:al}(h:¬(marked b).2≠0)(h2:(marked b).1≠1):ig b=([],4):=by unfold ig;rw[aw h,ao h2]
theorem ao9{b:al}(h:¬(marked b).2≠0)(h2:¬(marked b).1≠1)(h3:(aH b).2≠0):ig b=([],(aH b).2):=by unfold ig;rw[aw h,aw h2,ao h3]
theorem ao_{b:al}(h:¬(marked b).2≠0)(h2:¬(marked b).1≠1)(h3:¬(aH b).2≠0)(h4:E (aH b).1<5):ig b=([],1):=by unfold ig;rw[aw h,aw h2,aw h3,ao h4]
theorem ao'{b:al}(h:¬(marked b).2≠0)(h2:¬(marked b).1≠1)(h3:¬(aH b).2≠0)(h4:¬E (aH b).1<5):ig b=((aH b).1.drop 5,0):=by unfold ig;rw[aw h,aw h2,aw h3,aw h4]
theorem Ul(HT:bM B w0){b:al}(hb:fo B w0 F A c b)(di:E b<=1000000):
  aZ B w0 124 [.slice A (E b) c] F (FrA (ig b) B w0 F):=by
 refine fw func124 30 [0] ?_;refine bO ?_;refine ai rfl (u9 hb aa) (ei ?_);refine aj (λnj=>?_) λnj=>?_
 ·refine bz ?_;rw[ao7 nj];exact FrA.nil (Y:=[]) rfl rfl rfl
 ·refine bO ?_;refine aj (λlf=>?_) λlf=>?_
  ·refine bO ?_;rw[ao8 nj lf];exact FrA.nil (Y:=[]) rfl rfl rfl
  ·refine bF ?_;refine ay rfl (xl HT hb aa) λtP vH=>bF ?_;refine ve [5,6] ?_;refine bK ?_;refine aj (λmB=>?_) λmB=>?_
   ·refine bz ?_;rw[ao9 nj lf mB];exact FrA.nil (Y:=[_]) rfl rfl rfl
   ·refine bz ?_;refine aj (λkG=>?_) λkG=>?_
    ·refine bO ?_;rw[ao_ nj lf mB aa];exact FrA.nil (Y:=[_]) rfl rfl rfl
    ·have hcut:=(aM.own (B:=B) (w0:=w0) (L:=.own 5 1 tP (E (aH b).1) vH (bv (aH b).1)::F) (.head _)).cut (k:=5) aa;have e2:(bv (aH b).1).drop (5*1)=bv ((aH b).1.drop 5):=by simp[bv,zd]
     have e3:E (aH b).1-5=E ((aH b).1.drop 5):=by rw[iG]
     rw[e2,e3]at hcut;refine bF ?_;refine ab (bY (i:=5) (size:=1) underlying27 ag rfl rfl rfl aa) rfl (bB ?_);rw[ao' nj lf mB aa];exact⟨_,_,[_],by rw[e3],rfl,hcut⟩
abbrev UnA(R:aN×List aJ×Nat×Int)(F:aR)(r:Value)(L:aR):Prop:=∃A' c',r= .tuple #[.agg (aN.cells R.1).toArray,.slice A' (E R.2.1) c',ah (R.2.2.1:Int),ah R.2.2.2]∧L= .own 62 4 A' (E R.2.1) c' (c_ R.2.1)::F
theorem ao3{b:al}(h:(ig b).2≠0):mA b=(iV,[],0,(ig b).2):=by unfold mA;rw[ao h]
theorem ao4{b:al}(h:¬(ig b).2≠0)(h2:ohE (ig b).1≠0):mA b=(iV,[],0,ohE (ig b).1):=by unfold mA;rw[aw h,ao h2]
theorem ao5{b:al}(h:¬(ig b).2≠0)(h2:¬ohE (ig b).1≠0)(h3:(kZ (ig b).1).2≠0):mA b=(iV,[],0,(kZ (ig b).1).2):=by unfold mA;rw[aw h,aw h2,ao h3]
theorem ao6{b:al}(h:¬(ig b).2≠0)(h2:¬ohE (ig b).1≠0)(h3:¬(kZ (ig b).1).2≠0):mA b=(ohO (ig b).1,(kZ (ig b).1).1,DL (ig b).1,0):=by unfold mA;rw[aw h,aw h2,aw h3]
theorem pR(b:al):E (aH b).1<=E b:=by
 unfold aH;split
 ·simp
 ·split
  ·simp
  ·simp
theorem afN(b:al):E (ig b).1<=E b:=by
 have:=pR b;unfold ig;split
 ·simp
 ·split
  ·simp
  ·split
   ·simp
   ·split
    ·simp
    ·simp only[iG];omega
theorem gw(o:aN):∀u∈aN.cells o,u.oneCell'=true:=by simp[aN.cells,Value.oneCell']
theorem Qa(HT:bM B w0){b:al}(hb:fo B w0 F A c b)(di:E b<=1000000):
  aZ B w0 68 [.slice A (E b) c] F (UnA (mA b) F):=by
 have LC:=afN b;refine fw func68 49 [0] ?_;refine bc ?_;refine bh λg2=>?_;refine bK ?_;refine be aq5 rfl (Ul HT hb.cons di) rfl ?_;rintro _ _ ⟨Ax,cx,Y,rfl,cO,hbx⟩;obtain rfl:=cO.symm;refine bO ?_;have Ia:=oV Y [.bG g2 23 [ah 0,.bool false,ah 0,ah 0,ah 0,ah 0]] F;refine gx Ia ?_;have ajy:=hbx.perm Ia;have Ic:Wk (Y++F) F:=dB Y F;obtain⟨K,hK⟩:=cK (Y++F);simp only[Py]at ajy⊢;rw[<-hK]at ajy Ic⊢;have p6:=gw (ohO (ig b).1);refine bF ?_;refine aj (λiI=>?_) λiI=>?_
 ·refine bc ?_;refine ab (cJ [ah 0,.bool false,ah 0,ah 0,ah 0,ah 0] ag) rfl (bO ?_);refine aC 62 4 none (nS rfl rfl ag aW gV rfl rfl rfl (.cons (.skip Ic)) ?_);rw[ao3 iI];exact⟨none,0,rfl,rfl⟩
 ·refine bF ?_;refine fh rfl (nC ajy aa) λgn An cn=>aF ?_;refine ab (bx [(0,_),(1,_)] [.pointer none,.slice none 0 0,ah 0,.bool false,ah 0,ah 0,ah 0,ah 0,ah 0,ah 0] [0,1] [_,_,_,_,_,_,_,_,_,_] rfl rfl ag) rfl (bg λg24=>?_);refine aF ?_;refine ve [2,8] ?_;refine bF ?_;refine ai rfl (aa1 (x:=(ig b).1) (aM.own (.head _)) aa) (bO ?_);refine aj (λrn=>?_) λrn=>?_
  ·refine bc ?_;refine ab (cJ [ah 0,.bool false,ah 0,ah 0,ah 0,ah 0] ag) rfl (bO ?_);refine aC 62 4 none (nS rfl rfl ag aW gV rfl rfl rfl (.cons (.s3 (.skip Ic))) ?_);rw[ao4 iI rn];exact⟨none,0,rfl,rfl⟩
  ·refine bF ?_;refine fh rfl (afP HT (x:=(ig b).1) (aM.own (.head _)) ajy.cons aa) λAr cr s9=>ei ?_;refine aj (λFa=>?_) λFa=>?_
   ·refine bc ?_;refine ab (cJ [ah 0,.bool false,ah 0,ah 0,ah 0,ah 0] ag) rfl (bF ?_);refine ve [2,3,4,5] ?_;refine bE ?_;refine aC 62 4 none (nS rfl rfl ag aW gV rfl rfl rfl (.cons (.s4 (.skip Ic))) ?_);rw[ao5 iI rn Fa];exact⟨none,0,rfl,rfl⟩
   ·refine bE ?_;refine cE (Ob g24 gn (.slice Ax (E (ig b).1) cx) (ohO (ig b).1) (Io (ig b).1) (DL (ig b).1)::K) ?_;refine ae 0 ?_;refine ae 1 ?_;refine ae 2 ?_;refine aU 3 rfl (bP 6 ag rfl aW (aN.cells (ohO (ig b).1)) rfl rfl) ?_;refine ae 4 ?_;refine ae 5 ?_;refine ae 6 ?_;refine ae 7 ?_;refine ae 8 ?_;refine aA 9 (aF ?_);refine ae 10 ?_;refine ae 11 ?_;refine ae 12 ?_;refine cP [2,3,4,5] ?_;refine bc ?_;refine nS rfl rfl ag aW gV rfl rfl rfl (.cons (.s3 (.skip Ic))) ?_;rw[ao6 iI rn Fa];exact⟨Ar,cr,rfl,rfl⟩
end
theorem acC{P:Prop}(h:P:=by(rw[LB,jx,tG];rfl)):P:=h
abbrev Bo(g:Nat)(v0 v1 v2 v3 v4 v5 v6 v7 v8 v9:Value):Ch:=.bG g 188 [v0,v1,v2,v3,v4,v5,v6,v7,v8,v9]
theorem KG{ns:bf}(hb:aM B w0 F 1 (.slice A (E ns) c) (E ns) (bD ns))(hl:E ns<=1099511627776)(hs:ns.sum<=1000000000000000):
  aZ B w0 182 [br g] (Bo g (.slice A (E ns) c) v1 v2 v3 v4 v5 v6 v7 v8 v9::F) (λr L=>r=ah (ns.sum:Nat)∧L=Bo g (.slice A (E ns) c) v1 v2 v3 v4 v5 v6 v7 v8 v9::F):=by
 refine fw func182 11 [0] ?_;refine E' ?_;refine ai rfl (Eh (ns:=ns) hb.cons hl hs) (bF ?_);exact⟨rfl,rfl⟩
theorem Kd:∀{ss:bf} {r:al} {k:Nat},k<E ss->sm (ss.take (k+1)) r=sm (ss.take k) r++[(r.drop (ss.take k).sum).take (ss.getD k 0)]
 |[],_,_,h=>by simp at h
 |n::ss,r,0,_=>by simp[sm]
 |n::ss,r,k+1,h=>by
  have ih:=Kd (ss:=ss) (r:=r.drop n) (k:=k) ng;rw[r7,sm,ih,r7,sm,JL,oi];rfl
theorem vu:∀(ss:bf) (r:al),E (sm ss r)=E ss
 |[],_=>rfl
 |n::ss,r=>by rw[sm,dI,vu ss,dI]
theorem Wf{l:al}{n:Nat}{xs:cZ}(e1:n=E l)(e2:xs=bv l)(hb:aM B w0 F 1 (.slice A n c) n xs)(hn:E l<=1099511627776):
  aZ B w0 36 [.slice A n c] F (λr L=>∃A' c',r= .slice A' (E l) c'∧L= .own 5 1 A' (E l) c' (bv l)::F):=by
 subst e1;subst e2;exact mG l hb hn
def SpA(ss:bf)(cc:Nat)(r:al)(B:Nat)(w0:World)(F:aR)(b:Value->Ch)(v:Value)(L:aR):Prop:=
 ∃(Af:bk) (cf:Nat) (Ac:bk) (c1:Nat) (Ai:bk) (c2:Nat) (FB:List lu),v= .tuple #[.slice Ac cc c1,.slice Ai (E r-ss.sum-cc) c2]∧L=b (.slice Af (E ss) cf):: .own 27 1 Af (E ss) cf (FB.map dy)::(FB.map fE++F)∧FB.map (·.2.2)=sm ss r∧
  aM B w0 F 1 (.slice Ac cc c1) cc (bv ((r.drop ss.sum).take cc))∧aM B w0 F 1 (.slice Ai (E r-ss.sum-cc) c2) (E r-ss.sum-cc) (bv ((r.drop ss.sum).drop cc))
theorem NM{ss:bf}{cc:Nat}{r:al}(hb:fo B w0 F A c r)(hcr:E r<=c)(hs:aM B w0 F 1 (.slice A2 (E ss) c2) (E ss) (bD ss))(oC:E ss<=20000)(xD:ss.sum+cc<=E r)(hrl:E r<=1099511627776):
  aZ B w0 180 [br g,.slice A (E r) c] (Bo g v0 (.slice A2 (E ss) c2) (ah cc) v3 v4 v5 v6 v7 (.slice none 0 0) v9::F)
   (SpA ss cc r B w0 F λv=>Bo g v0 (.slice A2 (E ss) c2) (ah cc) v3 v4 v5 v6 v7 v v9):=by
 refine fw func180 49 [0,1] ?_;refine bK ?_;refine a_ 27 1 none (de ?_);refine aD (λzf zL zm=>∃(k:Nat) (R:al) (Ar:bk) (cr:Nat) (FB:List lu) (Af:bk) (cf:Nat),(k<=E ss∧R=r.drop (ss.take k).sum∧E R<=cr∧aM B w0 F 1 (.slice Ar (E R) cr) (E R) (bv R)∧E FB=k∧FB.map (·.2.2)=sm (ss.take k) r)∧E ss-k=zm∧Sub zf [(0,br g),(1,.slice Ar (E R) cr),(12,.slice A2 (E ss) c2),(13,ah (E ss)),(14,ah k)]∧Wk zL (.own 27 1 Af (E FB) cf (FB.map dy)::Bo g v0 (.slice A2 (E ss) c2) (ah cc) v3 v4 v5 v6 v7 (.slice Af (E FB) cf) v9::(FB.map fE++F))) _ ⟨0,r,A,c,[],none,0,⟨bU _,ak,hcr,hb,rfl,by simp[sm]⟩,rfl,bp,.refl _⟩ ?_;rintro _ _ _ ⟨k,R,Ar,cr,FB,Af,cf,⟨hk,hR,hRc,W7,S7,tG⟩,rfl,hs,hp⟩;refine aT hs hp ?_;clear hs hp;refine bB ?_;refine aj (λkF=>?_) λkF=>?_
 ·obtain⟨n,hn⟩:=cK (ss.getD k 0);have tH:(ss.take (k+1)).sum=(ss.take k).sum+n:=by rw[aY aa 0,w7,<-hn];simp
  have hts:=oz ss (k+1);have W8:E R=E r-(ss.take k).sum:=by rw[hR,iG]
  have LB:=Kd (ss:=ss) (r:=r) (k:=k) aa;rw[<-hR,<-hn]at LB;have xz:=W7.jv (k:=n) aa;have hct:=W7.cut (k:=n) aa;have e1:(bv R).take (n*1)=bv (R.take n):=by rw[cH];simp[bv,p_]
  have e2:(bv R).drop (n*1)=bv (R.drop n):=by rw[cH];simp[bv,zd]
  have e3:n=E (R.take n):=by rw[eY];omega
  have e4:E R-n=E (R.drop n):=by rw[iG]
  rw[e1]at xz;rw[e2,e4]at hct;have hhF:aM B w0 (FB.map fE++F) 1 (.slice Ar n cr) n (bv (R.take n)):=xz.mono (gL _ _);have hsF:aM B w0 (FB.map fE++F) 1 (.slice A2 (E ss) c2) (E ss) (bD ss):=hs.mono (gL _ _);refine bI ?_;refine ab (au ag rfl hsF.cons.cons aa (gv (v:=n) aa hn.symm)) rfl (b7 ?_);refine cE (FB.map fE++F) ?_;refine ae 0 ?_;refine ae 1 ?_;refine ae 2 ?_;refine ae 3 ?_;refine ae 5 ?_;refine ae 6 ?_;refine aU 7 rfl (bV (i:=n) (size:=1) underlying27 ag rfl rfl rfl aa) (ib 4 8 ?_ ?_)
  ·refine aF ?_;refine aA 8 (b8 rfl rfl (Wf (l:=R.take n) e3 rfl hhF.cons.cons aa) λtQ Cp=>aA 9 (cX rfl (aG fQ [_] rfl rfl cw aa aa) λIy=>aA 10 (fi rfl (bW fQ rfl aW rfl aB cw aa aa) λCf Cq=>?_)));refine ae 11 ?_;refine ae 12 ?_;refine aA 13 (bB ?_);refine ab (bY (size:=1) underlying27 ag rfl rfl rfl aa) rfl (aF ?_);refine ve [0,1,12,13,14] ?_;refine bB ?_;refine av ⟨_,aa,k+1,R.drop n,(if cr=n then Ar else Ar.map (·.add (n*1))),cr-n,FB++[((tQ,Cp,R.take n):lu)],Cf,Cq,⟨aa,by rw[tH,hR,oi],aa,hct,by simp[S7],acC⟩,rfl,bp,.trans ((gE (gE (gE (.skip (.refl _)))))) (.trans (q7 (e:=((tQ,Cp,R.take n):lu)) [.own 27 1 Cf (E FB+1) Cq (FB.map dy++[dy ((tQ,Cp,R.take n):lu)]),Bo g v0 (.slice A2 (E ss) c2) (ah cc) v3 v4 v5 v6 v7 (.slice Cf (E FB+1) Cq) v9]) (az ak ak (bw ak (.refl _))))⟩
  ·refine b8 rfl rfl (Wf (l:=R.take n) e3 rfl hhF.cons.cons aa) λtQ Cp=>ib 4 9 ?_ ?_
   ·refine aF ?_;refine aA 9 (cX rfl (aG fQ [_] rfl rfl cw aa aa) λIy=>aA 10 (fi rfl (bW fQ rfl aW rfl aB cw aa aa) λCf Cq=>?_));refine ae 11 ?_;refine ae 12 ?_;refine aA 13 (bB ?_);refine ab (bY (size:=1) underlying27 ag rfl rfl rfl aa) rfl (aF ?_);refine ve [0,1,12,13,14] ?_;refine bB ?_;refine av ⟨_,aa,k+1,R.drop n,(if cr=n then Ar else Ar.map (·.add (n*1))),cr-n,FB++[((tQ,Cp,R.take n):lu)],Cf,Cq,⟨aa,by rw[tH,hR,oi],aa,hct,by simp[S7],acC⟩,rfl,bp,.trans ((gE (gE (gE (.skip (.refl _)))))) (.trans (q7 (e:=((tQ,Cp,R.take n):lu)) [.own 27 1 Cf (E FB+1) Cq (FB.map dy++[dy ((tQ,Cp,R.take n):lu)]),Bo g v0 (.slice A2 (E ss) c2) (ah cc) v3 v4 v5 v6 v7 (.slice Cf (E FB+1) Cq) v9]) (az ak ak (bw ak (.refl _))))⟩
   ·refine cX rfl (aG fQ [_] rfl rfl cw aa aa) λIy=>aA 4 (aF ?_);refine aA 10 (fi rfl (bW fQ rfl aW rfl aB cw aa aa) λCf Cq=>?_);refine ae 11 ?_;refine ae 12 ?_;refine aA 13 (bB ?_);refine ab (bY (size:=1) underlying27 ag rfl rfl rfl aa) rfl (aF ?_);refine ve [0,1,12,13,14] ?_;refine bB ?_;refine av ⟨_,aa,k+1,R.drop n,(if cr=n then Ar else Ar.map (·.add (n*1))),cr-n,FB++[((tQ,Cp,R.take n):lu)],Cf,Cq,⟨aa,by rw[tH,hR,oi],aa,hct,by simp[S7],acC⟩,rfl,bp,.trans ((gE (gE (gE (.skip (.refl _)))))) (.trans (q7 (e:=((tQ,Cp,R.take n):lu)) [.own 27 1 Cf (E FB+1) Cq (FB.map dy++[dy ((tQ,Cp,R.take n):lu)]),Bo g v0 (.slice A2 (E ss) c2) (ah cc) v3 v4 v5 v6 v7 (.slice Cf (E FB+1) Cq) v9]) (az ak ak (bw ak (.refl _))))⟩
 ·obtain rfl:k=E ss:=by omega
  rw[ki]at hR tG;have W8:E R=E r-ss.sum:=by rw[hR,iG]
  have xz:=W7.jv (k:=cc) aa;have hct:=W7.cut (k:=cc) aa;have e1:(bv R).take (cc*1)=bv ((r.drop ss.sum).take cc):=by rw[cH,hR];simp[bv,p_]
  have e2:(bv R).drop (cc*1)=bv ((r.drop ss.sum).drop cc):=by rw[cH,hR];simp[bv,zd]
  rw[e1]at xz;rw[e2,W8]at hct;refine cY ?_;refine bL (bV (i:=cc) (size:=1) underlying27 ag rfl rfl rfl aa) rfl (bB ?_);refine bL (bY (i:=cc) (size:=1) underlying27 ag rfl rfl rfl aa) rfl (bc ?_);refine lO [(4,_),(5,_)] ⟨rfl,rfl,trivial⟩ ?_;refine bc ?_;refine aq (L':=Bo g v0 (.slice A2 (E ss) c2) (ah cc) v3 v4 v5 v6 v7 (.slice Af (E ss) cf) v9:: .own 27 1 Af (E ss) cf (FB.map dy)::(FB.map fE++F)) (.trans ((gE (eu (.refl _)))) (bw (by rw[S7]) (az (by rw[S7]) rfl (.refl _)))) (aF ?_);refine⟨Af,cf,Ar,cr,_,_,FB,?_,rfl,tG,xz,hct⟩;rw[W8]
theorem al6{n:Nat}{ch:al}(h:(aH ch).2≠0):yE n ch=(aH ch).2:=by unfold yE;rw[ao h]
theorem al7{n:Nat}{ch:al}(h:¬(aH ch).2≠0)(h2:(oM n (aH ch).1).2.2.2≠0):yE n ch=(oM n (aH ch).1).2.2.2:=by unfold yE;rw[aw h,ao h2]
theorem al8{n:Nat}{ch:al}(h:¬(aH ch).2≠0)(h2:¬(oM n (aH ch).1).2.2.2≠0)(h3:(oM n (aH ch).1).2.2.1<E (aH ch).1):yE n ch=2:=by unfold yE;rw[aw h,aw h2,ao h3]
theorem al9{n:Nat}{ch:al}(h:¬(aH ch).2≠0)(h2:¬(oM n (aH ch).1).2.2.2≠0)(h3:¬(oM n (aH ch).1).2.2.1<E (aH ch).1):yE n ch=0:=by unfold yE;rw[aw h,aw h2,aw h3]
def ClA(n:Nat)(ch:al)(F:aR)(b:Value->Value->Ch)(v4 v5:Value)(v:Value)(L:aR):Prop:=
 v=ah (yE n ch)∧((yE n ch≠0∧L=b v4 v5::F)∨(yE n ch=0∧∃(A1:bk) (c1:Nat) (A2:bk) (c2:Nat),L=b (.slice A1 (E (oM n (aH ch).1).1) c1) (.slice A2 (E (oM n (aH ch).1).2.1) c2):: .own 60 1 A1 (E (oM n (aH ch).1).1) c1 (qF (oM n (aH ch).1).1):: .own 5 1 A2 (E (oM n (aH ch).1).2.1) c2 (bv (oM n (aH ch).1).2.1)::F))
theorem I3(HT:bM B w0){ch:al}{k:Nat}(hb:fo B w0 F A c ch)(hl:E ch<=1000000000)(hk:k<=1000000000):
  aZ B w0 181 [.pointer (some ⟨g,4,none⟩),ah k,.slice A (E ch) c] (Bo g v0 v1 v2 v3 v4 v5 v6 v7 v8 v9::F) (ClA k ch F (λx y=>Bo g v0 v1 v2 v3 x y v6 v7 v8 v9) v4 v5):=by
 have uh:=pR ch;refine fw func181 43 [0,1,2] ?_;refine bK ?_;refine ay rfl (xl HT hb.cons aa) λA14 c14=>ei ?_;refine aj (λiC=>?_) λiC=>?_
 ·refine bK ?_;refine aq (.skip (.refl _)) (aF ?_);exact⟨by rw[al6 iC],.inl ⟨by rw[al6 iC];exact iC,rfl⟩⟩
 ·refine bB ?_;refine be arl rfl (Ux ((k:Nat):Int) (l:=(aH ch).1) aB aa aa aa) rfl ?_;rintro _ _ ⟨AD,Dr,Ix,MW,rfl,cO⟩;obtain rfl:=cO.symm;refine bO ?_;refine ve [0,7,8,9,10,11] ?_;refine bK ?_;refine aj (λqu=>?_) λqu=>?_
  ·refine bK ?_;refine aq ((ur (.s3 (.refl _)))) (aF ?_);exact⟨by rw[al7 iC qu],.inl ⟨by rw[al7 iC qu];exact qu,rfl⟩⟩
  ·refine de ?_;refine aj (λH6=>?_) λH6=>?_
   ·refine bI ?_;refine aq ((ur (.s3 (.refl _)))) (aF ?_);exact⟨by rw[al8 iC qu aa],.inl ⟨by rw[al8 iC qu aa];decide,rfl⟩⟩
   ·refine ei ?_;refine ve [] ?_;refine bI ?_;refine aq ((ur (eu (eu (.skip (.refl _)))))) (aF ?_);exact⟨by rw[al9 iC qu aa],.inr ⟨al9 iC qu aa,AD,Dr,Ix,MW,rfl⟩⟩
theorem dU.MB{P:Program}{B:Nat}{w0:World}{f:FuncId}{args:cZ}{L:aR}{R R2:rF}(h:dU P B w0 f args L R)(hr:∀v M,R v M->∃M2,Wk M M2∧R2 v M2):dU P B w0 f args L R2:=λw hw=>(h w hw).mono λe w' ⟨v,M,he,hR,hs⟩=>by
 obtain⟨M2,hk,Z8⟩:=hr v M hR;exact⟨v,M2,he,Z8,hk.sl hs⟩
theorem dU.at_mem{P:Program}{f:FuncId}{args:cZ}{v:Value}{x:Ch}{L:aR}(hm:x∈L)(h:∀M,dU P B w0 f args (x::M) (λr K=>r=v∧K=x::M)):dU P B w0 f args L (λr K=>r=v∧K=L):=by
 obtain⟨s,t,rfl⟩:=List.append_of_mem hm;have hp:(s++x::t).Perm (x::(s++t)):=By;exact((h (s++t)).perm hp).MB λv M ⟨h1,h2⟩=>⟨_,.dK (by rw[h2];exact hp.symm),h1,rfl⟩
end Go.Proofs.YtaodmbolhoafcaaGreatDoor

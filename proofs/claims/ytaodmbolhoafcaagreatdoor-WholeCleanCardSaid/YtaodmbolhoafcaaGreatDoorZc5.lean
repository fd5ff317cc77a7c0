/-
  Texts of one proof, joined: part 5. No condition.
-/
import Derived.Test.YtaodmbolhoafcaaGreatDoorZc4
import Derived.MapKept
import Derived.WideMake
import Derived.Test.YtaodmbolhoafcaaGreatDoorProg
import Derived.Shelf.SortM.Plain
import Derived.Shelf.SortM.SortNone
import Derived.Shelf.SlicesG.CompactS
import Derived.Ground.SlgmProg
import Derived.Ground.SlgnProg
import Derived.Sort.OwnSorted
import Derived.Lib.OwnBridge
import Derived.Sort.Walk0
import Derived.Shelf.SlIter.Nil
import Derived.Ground.GgzProg
import Derived.RangeFuncFrom
import Derived.RangeFuncLeaves
import Derived.RangeFuncCalls
import Derived.OrdersIn
open Go.RowKit Go.Proofs.Tryz
namespace Go.Proofs.YtaodmbolhoafcaaGreatDoor
set_option linter.unusedVariables false
set_option linter.unusedSimpArgs false
set_option maxRecDepth 20000
variable{B:Nat}{w0:World}{F:aP}{A:bj}{c g:Nat}{s:Cs}{A1 A2:bj}{n c1 c2:Nat}{B1 B2:bj}{b1 b2:Nat}
theorem wu{P:Prop}(h:P:=by(exact eU (by first|omega|simp_all))):P:=h
def pZ(l:bf):cV:=l.map fun(n:Nat)=>Value.int .u64 (n:Int)
@[simp] theorem akE(l k:bf):pZ (l++k)=pZ l++pZ k:=by simp[pZ]
@[simp] theorem akF(l:bf):(pZ l).length=l.length:=by simp[pZ]
def ze(a b:Nat):Nat:=(a+b)%18446744073709551616
theorem Xc(a b:Nat):IntKind.u64.wrap ((a:Int)+(b:Int))=((ze a b:Nat):Int):=by
 show((a:Int)+b)%18446744073709551616=_;unfold ze;omega
theorem agb(a b:Nat):ze a b<18446744073709551616:=sN _ aa
def BW:Nat→Nat→Cs→bf×Cs
 |0,_,s=>([],s)
 |k+1,was,s=>if s.e=0 then (ze was (TF s.num)::(BW k (ze was (TF s.num)) s.lY).1,(BW k (ze was (TF s.num)) s.lY).2) else ([],s)
theorem ai8{k was:Nat}{s:Cs}(h:¬s.e=0):BW k was s=([],s):=by cases k<;>simp[BW,h]
def lvX(s:Cs):UInt8:=s.byte
def Qa(n:Nat)(s:Cs)(o:al):Nat:=s.eJ.int ((n:Int)-o.length)
def LG(n:Nat)(s:Cs)(o:al):Cs:=s.eJ.bX ((n:Int)-o.length)
def EC(n:Nat)(s:Cs)(o:al):Prop:=(LG n s o).e=0∧(Qa n s o=0∨0<o.length∧o.getD (o.length-1) 0=lvX s)
instance (n:Nat)(s:Cs)(o:List UInt8):Decidable (EC n s o):=inferInstanceAs (Decidable (_∧_))
def LH(n:Nat)(s:Cs)(o:al):Cs:=if EC n s o then (LG n s o).failed 2 else LG n s o
def GZ:Nat→Nat→Cs→al→al×Cs
 |0,_,s,o=>(o,s)
 |f+1,n,s,o=>if o.length<n∧s.e=0 then GZ f n (LH n s o) (o++List.replicate (Qa n s o) (lvX s)) else (o,s)
theorem yp{f n:Nat}{s:Cs}{o:al}(h:¬(o.length<n∧s.e=0)):GZ f n s o=(o,s):=by cases f<;>simp[GZ,h]
theorem R1{f n:Nat}{s:Cs}{o:al}(h:o.length<n∧s.e=0):GZ (f+1) n s o=GZ f n (LH n s o) (o++List.replicate (Qa n s o) (lvX s)):=by rw[GZ,ao h]
theorem zT(s:Cs)(m:Int):(s.bX m).b=s.b:=Cs.cK _ _ _
theorem DS(s:Cs)(e:Int):(s.failed e).b=s.b:=by unfold Cs.failed;split<;>rfl
theorem aqC(n:Nat)(s:Cs)(o:al):(LG n s o).b=s.b:=by simp[LG,zT,JG]
theorem aka(n:Nat)(s:Cs)(o:al):(LH n s o).b=s.b:=by unfold LH;split<;>simp[DS,aqC]
theorem cu.LG{n:Nat}{s:Cs}{o:al}(h:cu s)(hn:n≤1000000000):cu (LG n s o):=h.eJ.bX aa
theorem cu.LH{n:Nat}{s:Cs}{o:al}(h:cu s)(hn:n≤1000000000):cu (LH n s o):=by
 unfold Proofs.YtaodmbolhoafcaaGreatDoor.LH;split
 ·exact(h.LG hn).failed _
 ·exact h.LG hn
theorem Kp(s:Cs)(m:Int)(hm:0≤m)(wM:m≤9223372036854775807):(s.int m:Int)≤m:=by
 unfold Cs.int;split
 ·exact hm
 ·by_cases he:(et s.rest m).2.2=0
  ·exact(jz s.rest m wM).2.2.2 he
  ·rw[(pt he).1];exact hm
theorem adr{n:Nat}{s:Cs}{o:al}(h:o.length≤n)(hn:n≤1000000000):o.length+Qa n s o≤n:=by
 have:=Kp s.eJ ((n:Int)-o.length) aa aa;unfold Qa;omega
theorem R3{n:Nat}{s:Cs}{o:al}(h:(LH n s o).e=0):¬EC n s o∧(LG n s o).e=0∧LH n s o=LG n s o:=by
 unfold LH at h⊢;by_cases hb:EC n s o
 ·rw[ao hb]at h;unfold Cs.failed at h;rw[ao hb.1]at h;simp at h
 ·rw[aw hb]at h⊢;exact⟨hb,h,rfl⟩
theorem ai6(n:Nat)(ho:cu s)(hb:aJ B w0 F 1 (.slice A s.b.length c) s.b.length (bv s.b))(hn:n≤1000000000):
  a_ B w0 265 [.agg #[br g],ah n] (Cv g A c s::F) (fun r L=>∃A' c',r= .slice A' (BW n 0 s).1.length c'∧L=Cv g A c (BW n 0 s).2:: .own 60 1 A' (BW n 0 s).1.length c' (pZ (BW n 0 s).1)::F):=by
 have p9:∀(s':Cs),s'.b=s.b→aJ B w0 F 1 (.slice A s'.b.length c) s'.b.length (bv s'.b):=fun s' h=>by rw[h];exact hb
 refine fw func265 28 [0,1] ?_;refine be ?_;refine bh fun g2=>?_;refine b8 ?_;refine aZ 60 1 none ?_;refine cY ?_;refine aE (fun zf zL zm=>∃(q was:Nat) (s':Cs) (o:bf) (A5:bj) (c5:Nat),(cu s'∧s'.b=s.b∧o.length+q=n∧BW n 0 s=(o++(BW q was s').1,(BW q was s').2))∧q=zm∧Sub zf [(1,ah n),(2,br g2),(5,.slice A5 o.length c5),(6,.int .u64 was)]∧Wk zL (Cv g A c s':: .own 60 1 A5 o.length c5 (pZ o):: .bD g2 366 [br g]::F)) _ ⟨n,0,s,[],none,0,⟨ho,rfl,ak,rfl⟩,rfl,bp,.dD Cm⟩ ?_;rintro _ _ _ ⟨q,was,s',o,A5,c5,⟨ho',P9,hq,hG⟩,rfl,hs,hp⟩;refine aU hs hp ?_;clear hs hp;refine bF ?_;refine bW 10 16 [1,2,5,6] ((o.length:Int)<n∧s'.e=0) ?_ ?_
 ·refine bG ?_;refine cP (fun pg=>?_) fun pg=>?_
  ·refine b8 ?_;refine ai rfl (gO) ?_;refine bF ?_;exact aQ oS
  ·refine b8 ?_;exact aQ wu
 ·refine be ?_;refine aj (fun kh=>?_) fun kh=>?_
  ·have Va:s'.num<18446744073709551616:=by
    unfold Cs.num;split
    ·omega
    ·exact(fg _).1
   obtain⟨q',rfl⟩:∃q',q=q'+1:=⟨q-1,aa⟩
   refine bJ ?_;refine ai rfl (abo ho' (.cons (.cons (p9 s' P9)))) ?_;refine ai rfl (arl _ Va) ?_;refine ab (bY rfl rfl (Xc _ _)) rfl ?_;refine bz ?_;refine dE anl rfl rfl rfl rfl rfl (fun _=>rfl) aV aa aa ?_;intro _ sY Bq;refine bF ?_;have el:o.length+1=(o++[ze was (TF s'.num)]).length:=by simp
   rw[el];refine av ⟨_,aa,q',ze was (TF s'.num),s'.lY,o++[ze was (TF s'.num)],sY,Bq,⟨ho'.lY,(KI _).trans P9,bR,by rw[hG,BW,ao kh.2];simp⟩,rfl,bp,.cons (ax rfl (by simp[pZ]) (.refl _))⟩
  ·refine cJ ?_;have hz:BW n 0 s=(o,s'):=by
    rw[hG];by_cases h0:s'.e=0
    ·have:q=0:=by omega
     subst this;simp[BW]
    ·rw[ai8 h0];simp
   rw[hz];refine aq (L':=Cv g A c s':: .own 60 1 A5 o.length c5 (pZ o)::F) (.cons (.cons (.skip (.refl _)))) ?_;refine aF ?_;exact⟨A5,c5,rfl,rfl⟩
theorem adh(n:Nat)(ho:cu s)(hb:aJ B w0 F 1 (.slice A s.b.length c) s.b.length (bv s.b))(hn:n≤1000000000):
  a_ B w0 266 [.agg #[br g],ah n] (Cv g A c s::F) (fun r L=>∃A' c',r= .slice A' (GZ (n+1) n s []).1.length c'∧L=Cv g A c (GZ (n+1) n s []).2:: .own 5 1 A' (GZ (n+1) n s []).1.length c' (bv (GZ (n+1) n s []).1)::F):=by
 have p9:∀(s':Cs),s'.b=s.b→aJ B w0 F 1 (.slice A s'.b.length c) s'.b.length (bv s'.b):=fun s' h=>by rw[h];exact hb
 refine fw func266 61 [0,1] ?_;refine be ?_;refine bh fun g2=>?_;refine b8 ?_;refine aZ 5 1 none ?_;refine bz ?_;refine aE (fun zf zL zm=>∃(f:Nat) (s':Cs) (o:al) (A5:bj) (c5:Nat),(cu s'∧s'.b=s.b∧o.length≤n∧(s'.e=0→n-o.length<f)∧GZ f n s' o=GZ (n+1) n s [])∧f=zm∧Sub zf [(1,ah n),(2,br g2),(5,.slice A5 o.length c5)]∧Wk zL (Cv g A c s':: .own 5 1 A5 o.length c5 (bv o):: .bD g2 366 [br g]::F)) _ ⟨n+1,s,[],none,0,⟨ho,rfl,bT _,fun _=>by simp,rfl⟩,rfl,bp,.dD Cm⟩ ?_;rintro _ _ _ ⟨f,s',o,A5,c5,⟨ho',P9,Kj,hf,hG⟩,rfl,hs,hp⟩;refine aU hs hp ?_;clear hs hp;refine bF ?_;refine bW 10 17 [1,2,5] ((o.length:Int)<n∧s'.e=0) ?_ ?_
 ·refine bG ?_;refine cP (fun mA=>?_) fun mA=>?_
  ·refine b8 ?_;refine ai rfl (gO) ?_;refine bF ?_;exact aQ oS
  ·refine b8 ?_;exact aQ wu
 ·refine be ?_;refine aj (fun iF=>?_) fun iF=>?_
  ·obtain⟨f',rfl⟩:∃f',f=f'+1:=⟨f-1,by have:=hf iF.2;omega⟩
   have Ca:=adr (s:=s') Kj hn;have hf':=hf iF.2;have hLb:aJ B w0 (.own 5 1 A5 o.length c5 (bv o):: .bD g2 366 [br g]::F) 1 (.slice A s'.b.length c) s'.b.length (bv s'.b):=.cons (.cons (p9 s' P9));have ap2:a_ B w0 173 [br g] _ (fun r L=>r= .int .u8 ((lvX s').toNat:Int)∧L=_):=oo (g:=g) ho' hLb;have hint:a_ B w0 172 [br g,ah ((n:Int)-o.length)] _ (fun r L=>r=ah (Qa n s' o)∧L=Cv g A c (LG n s' o)::_):=iH (g:=g) ho'.eJ (by rw[JG];exact hLb) aa aa;refine bL ?_;refine ai rfl (ap2) ?_;refine cY ?_;refine ai rfl (hint) ?_;refine bF ?_;refine d_ (fun zf zL=>Sub zf [(1,ah n),(2,br g2),(5,.slice A5 o.length c5),(6,.int .u8 (lvX s').toNat),(7,ah (Qa n s' o))]∧Wk zL (Cv g A c (LH n s' o):: .own 5 1 A5 o.length c5 (bv o):: .bD g2 366 [br g]::F)) ?_ ?_
   ·refine be ?_;refine bW 23 50 [1,2,5,6,7] ((LG n s' o).e=0∧((Qa n s' o:Int)=0∨(0:Int)<o.length∧((o.getD (o.length-1) 0).toNat:Int)=((lvX s').toNat:Int))) ?_ ?_
    ·refine be ?_;refine ai rfl (gO) ?_;refine be ?_;refine cP (fun Bw=>?_) fun Bw=>?_
     ·refine bG ?_;refine aL rfl rfl rfl (fun qV=>?_) (fun qV=>?_)
      ·refine bL ?_;refine cP (fun Lx=>?_) fun Lx=>?_
       ·refine bz ?_;refine ab (dw rfl rfl (r:=((o.length-1:Nat):Int)) ((bE aa aa).trans aa)) rfl ?_;refine de ?_;exact aQ oS
       ·refine cJ ?_;exact aQ wu
      ·refine jy ?_;exact aQ vu
     ·refine B_ ?_;exact aQ wu
    ·refine be ?_;refine aj (fun Ij=>?_) fun Ij=>?_
     ·refine bF ?_;refine ai rfl (ng 2) ?_;refine aF ?_;have D7:EC n s' o:=⟨Ij.1,by rcases Ij.2 with h|h;exact .inl aa;exact .inr ⟨aa,ra.1 aa⟩⟩
      have hT:LH n s' o=(LG n s' o).failed 2:=ao D7;rw[hT];exact bC ⟨bp,.refl _⟩
     ·refine aF ?_;have D7:¬EC n s' o:=fun h=>Ij ⟨h.1,by rcases h.2 with h|h;exact .inl aa;exact .inr ⟨aa,by rw[h.2]⟩⟩;have hT:LH n s' o=LG n s' o:=aw D7;rw[hT];exact bC ⟨bp,.refl _⟩
   ·rintro _ _ ⟨hs,hp⟩;refine aU hs hp ?_;clear hs hp;refine bF ?_;refine cC (aG cD [_] rfl rfl cw aa aa) fun A56=>?_;refine aF ?_;refine ay rfl (aej (lvX s') (Qa n s' o) aB aa) fun A58 c58=>?_;refine fN (bS cD rfl aV rfl aB cw aa aa) fun A59 c59=>?_;refine bF ?_;have el:o.length+Qa n s' o=(o++List.replicate (Qa n s' o) (lvX s')).length:=by simp
    have wI:=R1 (f:=f') (n:=n) (s:=s') (o:=o) ⟨aa,iF.2⟩;rw[hG]at wI;rw[el];refine av ⟨_,aa,f',LH n s' o,o++List.replicate (Qa n s' o) (lvX s'),A59,c59,⟨ho'.LH hn,(aka _ _ _).trans P9,by rw[←el];exact Ca,fun h=>by rw[←el];have h1:=(R3 h).1;have h2:=(R3 h).2.1;have h3:Qa n s' o≠0:=fun hz=>h1 ⟨h2,.inl hz⟩;omega,wI.symm⟩,rfl,bp,.skip (.skip (.cons (ax rfl ak (.refl _))))⟩
  ·refine cJ ?_;have hz:GZ (n+1) n s []=(o,s'):=by rw[←hG,yp aa]
   rw[hz];refine aq (L':=Cv g A c s':: .own 5 1 A5 o.length c5 (bv o)::F) (.cons (.cons (.skip (.refl _)))) ?_;refine aF ?_;exact⟨A5,c5,rfl,rfl⟩
theorem afn:∀(k was:Nat) {s:Cs},cu s→cu (BW k was s).2∧(BW k was s).2.b=s.b
 |0,_,s,h=>⟨h,rfl⟩
 |k+1,was,s,h=>by
  rw[BW];split
  ·have:=afn k (ze was (TF s.num)) h.lY;exact⟨this.1,this.2.trans (KI s)⟩
  ·exact⟨h,rfl⟩
theorem adq{n:Nat}(hn:n≤1000000000):∀(f:Nat) {s:Cs} {o:al},cu s→cu (GZ f n s o).2∧(GZ f n s o).2.b=s.b
 |0,s,o,h=>⟨h,rfl⟩
 |f+1,s,o,h=>by
  rw[GZ];split
  ·have:=adq hn f (o:=o++List.replicate (Qa n s o) (lvX s)) (h.LH (n:=n) (o:=o) hn);exact⟨this.1,this.2.trans (aka n s o)⟩
  ·exact⟨h,rfl⟩
def LI(n:Nat)(l:al):bf×Cs:=BW n 0 ⟨l,0,0⟩
def G2(n:Nat)(l:al):al×Cs:=GZ (n+1) n (LI n l).2 []
def nW(n:Int)(l:al):bf×al×Nat×Int:=
 if n<0∨20000<n then ([],[],0,13) else if (G2 n.toNat l).2.e≠0 then ([],[],0,(G2 n.toNat l).2.e) else ((LI n.toNat l).1,(G2 n.toNat l).1,(G2 n.toNat l).2.at_,0)
theorem V4{n:Int}{l:al}(h:n<0∨20000<n):nW n l=([],[],0,13):=ao h
theorem V5{n:Nat}{l:al}(h:¬((n:Int)<0∨(20000:Int)<n))(he:¬(G2 n l).2.e=0):nW n l=([],[],0,(G2 n l).2.e):=by
 unfold nW;rw[aw h,nB,ao he]
theorem Sy{n:Nat}{l:al}(h:¬((n:Int)<0∨(20000:Int)<n))(he:(G2 n l).2.e=0):nW n l=((LI n l).1,(G2 n l).1,(G2 n l).2.at_,0):=by
 unfold nW;rw[aw h,nB,aw L6]
theorem aiu:a_ B w0 177 [br g] (Cv g A c s::F) (fun r L=>r=ah s.at_∧L=Cv g A c s::F):=by
 refine fw func177 10 [0] ?_;refine acg ?_;exact⟨rfl,rfl⟩
theorem SB(n:Int){l:al}(hb:eM B w0 F A c l)(hl:l.length≤1000000000)(hn1:-9223372036854775808≤n)(tU:n≤9223372036854775807):
  a_ B w0 225 [ah n,.slice A l.length c] F (fun r L=>∃A1 c1 A2 c2,r= .tuple #[.slice A1 (nW n l).1.length c1,.slice A2 (nW n l).2.1.length c2,ah (nW n l).2.2.1,ah (nW n l).2.2.2]∧L= .own 60 1 A1 (nW n l).1.length c1 (pZ (nW n l).1):: .own 5 1 A2 (nW n l).2.1.length c2 (bv (nW n l).2.1)::F):=by
 have ho0:cu ⟨l,0,0⟩:=⟨bT _,cZ⟩
 refine fw func225 38 [0,1] ?_;refine cY ?_;refine bW 6 17 [0,1] (n<0∨20000<n) ?_ ?_
 ·refine bF ?_;refine aL rfl rfl rfl (fun kg=>?_) (fun kg=>?_)
  ·refine b8 ?_;exact aQ b_8
  ·refine be ?_;exact aQ b_8
 ·refine be ?_;refine aj (fun iF=>?_) fun iF=>?_
  ·refine bA ?_;rw[V4 iF];refine aD 5 1 none ?_;refine aD 60 1 none ?_;refine aF ?_;exact⟨none,0,none,0,rfl,rfl⟩
  ·obtain⟨m,rfl⟩:=gM (show 0≤n by omega);have hT:=afn m 0 ho0;have hV:=adq (n:=m) aa (m+1) (o:=[]) hT.1;change cu (LI m l).2∧(LI m l).2.b=l at hT;change cu (G2 m l).2∧(G2 m l).2.b=(LI m l).2.b at hV;refine bG ?_;refine dX rfl (mU hb aa) fun g19 Ln c19=>?_;refine ab (eG [(0,_)] [_] rfl rfl ag) rfl ?_;refine bc fun g8=>?_;refine bL ?_;refine ay rfl ((ai6 m ho0 (.cons (aJ.own (List.Mem.head _))) aa).perm swp) fun TJ c23=>?_;change VL _ _ _ _ ((23,.slice TJ (LI m l).1.length c23)::_) (Cv g19 Ln c19 (LI m l).2:: .own 60 1 TJ (LI m l).1.length c23 (pZ (LI m l).1)::_);refine bL ?_;refine ay rfl (adh m hT.1 (by rw[hT.2];exact .cons (.cons (aJ.own (List.Mem.head _)))) aa) fun sY Bq=>?_;change VL _ _ _ _ ((26,.slice sY (G2 m l).1.length Bq)::_) (Cv g19 Ln c19 (G2 m l).2:: .own 5 1 sY (G2 m l).1.length Bq (bv (G2 m l).1)::_);refine bJ ?_;refine ai rfl (gO) ?_;refine bQ ?_;refine aj (fun D5=>?_) fun D5=>?_
   ·refine bL ?_;refine ve [4,5,6,7] ?_;refine bF ?_;rw[V5 iF D5];refine aD 5 1 none ?_;refine aD 60 1 none ?_;refine aq (L':=.own 60 1 none 0 0 []:: .own 5 1 none 0 0 []::F) (.cons (.cons (.skip (.skip (.skip (.skip (.skip (.refl _)))))))) ?_;refine aF ?_;exact⟨none,0,none,0,rfl,rfl⟩
   ·refine bJ ?_;refine ai rfl (aiu) ?_;refine b8 ?_;refine ve [4,5,6,7] ?_;refine be ?_;rw[Sy iF (kR.1 D5)];refine aq (L':=.own 60 1 TJ (LI m l).1.length c23 (pZ (LI m l).1):: .own 5 1 sY (G2 m l).1.length Bq (bv (G2 m l).1)::F) (.skip (.swap (.cons (.cons (.skip (.skip (.refl _))))))) ?_;refine aF ?_;exact⟨TJ,c23,sY,Bq,rfl,rfl⟩
theorem aaH{a b:Nat}(ha:a<18446744073709551616)(hb:b<18446744073709551616):ze b (dlt a b)=a:=by
 unfold ze dlt;omega
theorem WK:∀(L:List aK) (was:Nat) (s:Cs) (r:al),was<18446744073709551616→s.e=0→(∀x∈L,x.1<18446744073709551616)→s.rest=qt was L++r→(BW L.length was s).1=L.map (·.1)∧nO s (BW L.length was s).2 (qt was L)
 |[],was,s,r,_,h0,_,_=>⟨rfl,nO.nil h0⟩
 |x::L,was,s,r,hw,h0,hx,hr=>by
  have LD:=hx x ak;rw[qt,bV]at hr;obtain⟨n1,d1⟩:=Cs.VP h0 (TH (DE x.1 was)) hr;have hz:ze was (TF s.num)=x.1:=by rw[n1,ajv (DE _ _),aaH LD hw]
  obtain⟨i1,i2⟩:=WK L x.1 s.lY r LD d1.e1 (fun y hy=>hx y vK) (d1.cH hr);rw[ef,BW,ao h0,hz];exact⟨by simp[i1],d1.trans i2⟩
theorem O0(x:UInt8):∀(l:al),l.take (run x l)=List.replicate (run x l) x
 |[]=>rfl
 |y::l=>by
  unfold run;split
  ·rename_i h;rw[q9,O0 x l,zV,h]
  ·rfl
theorem Wh(x:UInt8):∀(l:al) (y:UInt8),(l.drop (run x l)).head?=some y→y≠x
 |[],y,h=>by simp[run]at h
 |z::l,y,h=>by
  unfold run at h;split at h
  ·rw[Em]at h;exact Wh x l y h
  ·rename_i hz;simp at h;exact fun e=>hz (h.trans e)
theorem ac'(o:al)(x:UInt8)(q:Nat):(o++List.replicate (1+q) x).getD ((o++List.replicate (1+q) x).length-1) 0=x:=by
 have:(o++List.replicate (1+q) x).length-1=o.length+q:=by simp;omega
 rw[this];simp[List.getD]
theorem VD(n:Nat)(hn:n≤1000000000):∀(f:Nat) (l o:al) (s:Cs) (r:al),s.e=0→n=o.length+l.length→(∀x,l.head?=some x→0<o.length→o.getD (o.length-1) 0≠x)→s.rest=oq none l++r→l.length<f→(GZ f n s o).1=o++l∧nO s (GZ f n s o).2 (oq none l)
 |0,l,o,s,r,_,_,_,_,hf=>absurd hf aa
 |f+1,[],o,s,r,h0,Iq,_,hr,hf=>by
  simp at Iq;rw[yp (fun h=>aa)];exact⟨ak,nO.nil h0⟩
 |f+1,x::l,o,s,r,h0,Iq,r8,hr,hf=>by
  have hq:=SG x l;simp only[ef]at Iq hf;have hc:oq none (x::l)=[x]++(aS (1+run x l)++oq none (l.drop (run x l))):=by
   rw[oq,aw ak,Dn];rfl
  rw[hc]at hr⊢;have uZ:s.rest=x::(aS (1+run x l)++(oq none (l.drop (run x l))++r)):=by rw[hr];simp
  obtain⟨b1,db⟩:=Cs.l8 h0 uZ;have xm:=db.cH (p:=[x]) uZ;obtain⟨k1,dk⟩:=Cs.iB (m:=(n:Int)-o.length) (x:=1+run x l) db.e1 aa aa xm;have hr3:=dk.cH xm;have hK:Qa n s o=1+run x l:=k1;have hX:lvX s=x:=b1;have hS:(LG n s o).e=0:=dk.e1;have D7:¬EC n s o:=by
   rintro⟨_,h|⟨h1,h2⟩⟩
   ·omega
   ·exact r8 x rfl h1 (h2.trans hX)
  have hT:LH n s o=LG n s o:=aw D7;rw[R1 ⟨aa,h0⟩,hT,hK,hX];obtain⟨i1,i2⟩:=VD n hn f (l.drop (run x l)) (o++List.replicate (1+run x l) x) (LG n s o) r hS bR (fun y hy _=>by rw[ac'];exact fun e=>Wh x l y hy e.symm) hr3 kQ;refine⟨?_,(db.trans (dk.trans i2))⟩;rw[i1,bV];congr 1;rw[sL 1,zV,←O0 x l,nC,jK]
theorem XC{L:List aK}(hx:∀x∈L,x.1<18446744073709551616)(hl:L.length≤20000)(r:al):nW L.length (kq L++r)=(L.map (·.1),lv L,(kq L).length,0):=by
 obtain⟨t1,t2⟩:=WK L 0 ⟨kq L++r,0,0⟩ (oq none (lv L)++r) aa rfl hx (by simp[Cs.rest,kq]);have xm:=t2.cH (r:=oq none (lv L)++r) (by simp[Cs.rest,kq]);change (LI L.length (kq L++r)).1=_ at t1;change nO _ (LI L.length (kq L++r)).2 _ at t2;change (LI L.length (kq L++r)).2.rest=_ at xm;obtain⟨v1,v2⟩:=VD L.length aa (L.length+1) (lv L) [] (LI L.length (kq L++r)).2 r t2.e1 (by simp[rn]) (fun _ _ h=>absurd h ak) xm (by rw[rn];omega);change (G2 L.length (kq L++r)).1=_ at v1;change nO _ (G2 L.length (kq L++r)).2 _ at v2;rw[Sy aa v2.e1,t1,v1];have he:=(t2.trans v2).eq;rw[he];simp[kq]
section
theorem aaU{P:Prop}(h:P:=by(simp[MapKept.IsKey])):P:=h
theorem Vr:type_of% @List.getElem?_cons_succ:= @List.getElem?_cons_succ
theorem BK:type_of% @MapKept.run_getObj_map:= @MapKept.run_getObj_map
def fY:Nat→List (al×Value)→List MapEntry
 |_,[]=>[]
 |i,p::r=>⟨.string ⟨p.1.toArray⟩,p.2,i⟩::fY (i+1) r
def VE(D:List (al×Value)):Obj:=.map (fY 0 D).toArray D.length
def nu(t:al):List (al×Value)→Nat→Option (Nat×Value)
 |[],_=>none
 |p::r,i=>if t=p.1 then some (i,p.2) else nu t r (i+1)
def E1(D:List (al×Value))(t:al)(v:Value):List (al×Value):=
 match nu t D 0 with
 |some (i,_)=>D.set i (t,v)
 |none=>D++[(t,v)]
theorem ou:∀(D:List (al×Value)) (i:Nat),(fY i D).length=D.length
 |[],_=>rfl
 |_::r,i=>by simp[fY,ou r]
theorem H9:∀(D:List (al×Value)) (i k:Nat) (h:k<D.length),(fY i D)[k]? =some ⟨.string ⟨(D[k]'h).1.toArray⟩,(D[k]'h).2,i+k⟩
 |_::r,i,0,h=>rfl
 |_::r,i,k+1,h=>by
  have:=H9 r (i+1) k nr;simp only[fY,Vr,List.getElem_cons_succ];rw[this];congr 2;omega
theorem DR:∀(D:List (al×Value)) (i:Nat) (p:al×Value),fY i (D++[p])=fY i D++[⟨.string ⟨p.1.toArray⟩,p.2,i+D.length⟩]
 |[],i,p=>rfl
 |q::r,i,p=>by
  simp only[nC,fY,DR r (i+1) p,ef];rw[show i+1+r.length=i+(r.length+1) by omega]
theorem aiP(t k:al):((⟨t.toArray⟩:ByteArray)==(⟨k.toArray⟩:ByteArray))=decide (t=k):=by
 rw[Bool.eq_iff_iff,MapKept.bytes_beq,decide_eq_true_iff];exact⟨fun e=>by simpa using ek (fun b:ByteArray=>b.data.toList) e,fun e=>xq⟩
theorem rX(t:al):∀(D:List (al×Value)) (j i:Nat),Instr.findNow .string (.string ⟨t.toArray⟩) (fY j D) i=some (nu t D i)
 |[],_,_=>rfl
 |p::r,j,i=>by
  simp only[fY,Instr.findNow,Instr.sameNow,aiP,nu];by_cases h:t=p.1
  ·rw[ox h,ao h]
  ·rw[nT h,aw h];exact rX t r (j+1) (i+1)
theorem Ic{t:al}:∀{D:List (al×Value)} {i j:Nat} {v:Value},nu t D i=some (j,v)→∃k,j=i+k∧∃h:k<D.length,D[k]=(t,v)
 |p::r,i,j,v,h=>by
  unfold nu at h;split at h
  ·rename_i e;simp only[Et,Cf]at h;exact⟨0,aa,ak,by simp[←h.2,e]⟩
  ·obtain⟨k,h1,h2,h3⟩:=Ic h;exact⟨k+1,aa,oQ,by simpa using h3⟩
section
variable{C:Cx}{fr:Fr}{L:aP}{x y z:Operand}{f:Ch→aP}{t k e ty:TypeId}{g:Nat}{D:List (al×Value)}{s:al}{v zv:Value}
theorem MY:qp C fr L (.makeMap t none) ty (fun p L'=>∃g,p= .map (some g)∧L'= .obj g (VE [])::L):=fun a w ha hw d pos af gg=>
 ⟨.map (some w.heap.size),w.alloc (.map #[] 0),.obj w.heap.size (VE [])::L,.inl (by simp[execOp,run_makeMap_plain]),⟨w.heap.size,rfl,rfl⟩,
  hw.gL (Kt w _ none) ⟨hw.base,(MapKept.heap_alloc w (.map #[] 0)).1⟩ (.inr ⟨_,rfl,gj _⟩)⟩
theorem Dz(ht:C.P.underlying t=some (.map k e))(hk:C.P.underlying k=some .string)(hz:∀w,(zeroValue e).run C.P w= .ok zv w)(hm:ev fr x=some (.map (some g)))(hx:ev fr y=some (.string ⟨s.toArray⟩))(hs:mC (.obj g (VE D)) L f):
  gI C fr L (.lookup t x y false) ty (((nu s D 0).map (·.2)).getD zv):=fun a w ha hw d pos af gg=>by
 have hb:w.heap[g]? =some (.map (fY 0 D).toArray D.length):=(hw.all _ hs.mem).2;have hc:∀em,(Instr.checkKey em 10000 k (.string ⟨s.toArray⟩)).run C.P w= .ok () w:=fun em=>MapKept.run_checkKey (k:=.string ⟨s.toArray⟩) hk aaU em 9999;have hf:=MapKept.run_findKey (P:=C.P) (w:=w) hk (rX s D 0 0);cases hfd:nu s D 0 with
 |none=>
  rw[hfd]at hf;simp[execOp,ha.tmp hm,ha.tmp hx,Instr.lookup,iO ht,BK hb,hc,hf,hz,Result.andThen]
 |some q=>
  rw[hfd]at hf;obtain⟨j,u⟩:=q;simp[execOp,ha.tmp hm,ha.tmp hx,Instr.lookup,iO ht,BK hb,hc,hf,Result.andThen]
theorem H_:∀(D:List (al×Value)) (i j:Nat) (p:al×Value),j<D.length→fY i (D.set j p)=(fY i D).modify j fun e=>{e with key:=.string ⟨p.1.toArray⟩,val:=p.2}
 |q::r,i,0,p,_=>by simp[fY]
 |q::r,i,j+1,p,h=>by
  simp only[NT,fY,List.modify_succ_cons];rw[H_ r (i+1) j p nr]
theorem Gz(ht:C.P.underlying t=some (.map k e))(hk:C.P.underlying k=some .string)(hm:ev fr x=some (.map (some g)))(hx:ev fr y=some (.string ⟨s.toArray⟩))(hv:ev fr z=some v)(hs:mC (.obj g (VE D)) L f):
  qp C fr L (.mapUpdate t x y z) ty (fun p L'=>L'=f (.obj g (VE (E1 D s v)))):=fun a w ha hw d pos af gg=>by
 have hb:w.heap[g]? =some (.map (fY 0 D).toArray D.length):=(hw.all _ hs.mem).2;have hc:∀em,(Instr.checkKey em 10000 k (.string ⟨s.toArray⟩)).run C.P w= .ok () w:=fun em=>MapKept.run_checkKey (k:=.string ⟨s.toArray⟩) hk aaU em 9999;have hf:=MapKept.run_findKey (P:=C.P) (w:=w) hk (rX s D 0 0);have fE:=(k_3.1 hb).1;have nN:∀o,SL C.B C.w0 (f (.obj g o)) {w with heap:=w.heap.setIfInBounds g o}:=fun o=>
  hw.Qb hs ⟨rfl,rfl,rfl,ak,fun j _ hj=>by
   have:g≠j:=fun e=>hj C6;simp[this]⟩ (fun h=>⟨h.1,by simp[fE]⟩) (.inr (.inl rfl))
 cases hfd:nu s D 0 with
 |none=>
  rw[hfd]at hf;have e1:VE (E1 D s v)= .map ((fY 0 D).toArray.push ⟨.string ⟨s.toArray⟩,v,D.length⟩) (D.length+1):=by
   unfold E1 VE;rw[hfd];simp[DR]
  refine⟨undef,_,_,.inr ⟨?_,rfl⟩,rfl,by rw[e1];exact nN _⟩;simp[execOp,ha.tmp hm,ha.tmp hx,ha.tmp hv,Instr.mapUpdate,iO ht,BK hb,hc,hf,MapKept.run_setObj_map _ hb,Result.andThen]
 |some q=>
  rw[hfd]at hf;obtain⟨j,u⟩:=q;obtain⟨j',hj,hjl,hje⟩:=Ic hfd;obtain rfl:j=j':=by omega
  have hg:=H9 D 0 j hjl;have e1:VE (E1 D s v)= .map ((fY 0 D).toArray.modify j fun e=>{e with key:=.string ⟨s.toArray⟩,val:=v}) D.length:=by
   unfold E1 VE;rw[hfd];simp[H_ D 0 j (s,v) hjl]
  have hky:(Instr.keyThatStays (.string ⟨s.toArray⟩) (.string ⟨s.toArray⟩)).run C.P w= .ok (.string ⟨s.toArray⟩) w:=MapKept.run_keyThatStays (d:=.string) aaU;have Ki:(((fY 0 D).toArray[j]?).map (·.key)).getD (.string ⟨s.toArray⟩)= .string ⟨s.toArray⟩:=by
   rw[List.getElem?_toArray,hg,hje];rfl
  refine⟨undef,_,_,.inr ⟨?_,rfl⟩,rfl,by rw[e1];exact nN _⟩;simp only[execOp,ha.tmp hm,ha.tmp hx,ha.tmp hv,Instr.mapUpdate];simp[iO ht,BK hb,hc,hf,Result.andThen];simp at Ki;simp[Ki,hky,MapKept.run_setObj_map _ hb]
end
end
abbrev B5:=al×bj×Nat×bf
def Q7(e:B5):Value:=.slice e.2.1 e.2.2.2.length e.2.2.1
def lg(D:List B5):List (al×Value):=D.map fun e=>(e.1,Q7 e)
def tM(e:B5):Ch:=.own 3 1 e.2.1 e.2.2.2.length e.2.2.1 (bx e.2.2.2)
def vO(t:al):List B5→bf
 |[]=>[]
 |e::r=>if t=e.1 then e.2.2.2 else vO t r
def G9(t:al)(A:bj)(c i:Nat):List B5→List B5
 |[]=>[(t,A,c,[i])]
 |e::r=>if t=e.1 then (t,A,c,e.2.2.2++[i])::r else e::G9 t A c i r
theorem uS(t:al):∀(D:List (al×Value)) (i:Nat),nu t D (i+1)=(nu t D i).map fun q=>(q.1+1,q.2)
 |[],_=>rfl
 |p::r,i=>by
  unfold nu;split
  ·rfl
  ·exact uS t r (i+1)
theorem Zx(t:al)(v:Value)(p:al×Value)(r:List (al×Value)):E1 (p::r) t v=if t=p.1 then (t,v)::r else p::E1 r t v:=by
 unfold E1;have e:nu t (p::r) 0=if t=p.1 then some (0,p.2) else nu t r (0+1):=rfl
 by_cases h:t=p.1
 ·rw[e,ao h,ao h];rfl
 ·rw[e,aw h,aw h,uS];cases nu t r 0 with
  |none=>rfl
  |some q=>rfl
theorem V3(t:al)(A:bj)(c i:Nat):∀(D:List B5),E1 (lg D) t (.slice A ((vO t D).length+1) c)=lg (G9 t A c i D)
 |[]=>by simp[E1,lg,nu,vO,G9,Q7]
 |e::r=>by
  have ih:=V3 t A c i r;show E1 ((e.1,Q7 e)::lg r) t _=_;rw[Zx];unfold vO G9;by_cases h:t=e.1
  ·rw[ao h,ao h,ao h];simp[lg,Q7]
  ·rw[aw h,aw h,aw h,ih];rfl
theorem U0(t:al):∀(D:List B5),∃(A:bj) (c:Nat) (R:aP),
  (((nu t (lg D) 0).map (·.2)).getD (.slice none 0 0)= .slice A (vO t D).length c)∧
  ((D.map tM).Perm (.own 3 1 A (vO t D).length c (bx (vO t D))::R)∨(A=none∧c=0∧vO t D=[]∧R=D.map tM))∧
  (∀A' c' i,((G9 t A' c' i D).map tM).Perm (.own 3 1 A' ((vO t D).length+1) c' (bx (vO t D++[i]))::R))
 |[]=>⟨none,0,[],rfl,.inr ⟨rfl,rfl,rfl,rfl⟩,fun A' c' i=>.refl _⟩
 |e::r=>by
  by_cases h:t=e.1
  ·refine⟨e.2.1,e.2.2.1,r.map tM,?_,.inl ?_,fun A' c' i=>?_⟩
   ·show((nu t ((e.1,Q7 e)::lg r) 0).map (·.2)).getD _=_;unfold nu vO;rw[ao h,ao h];rfl
   ·unfold vO;rw[ao h];exact .refl _
   ·unfold vO G9;rw[ao h,ao h];simp only[kA,tM,aY,p_];exact .refl _
  ·obtain⟨A,c,R,h1,h2,h3⟩:=U0 t r;refine⟨A,c,tM e::R,?_,?_,fun A' c' i=>?_⟩
   ·show((nu t ((e.1,Q7 e)::lg r) 0).map (·.2)).getD _=_;unfold nu vO;rw[aw h,aw h,uS,←h1];cases nu t (lg r) 0<;>rfl
   ·unfold vO;rw[aw h];rcases h2 with h2|⟨h2,h4,h5,h6⟩
    ·exact .inl ((h2.cons _).trans (.swap _ _ _))
    ·exact .inr ⟨h2,h4,h5,by rw[h6];rfl⟩
   ·unfold vO G9;rw[aw h,aw h];exact((h3 A' c' i).cons _).trans (.swap _ _ _)
theorem Q8(t s:al)(A:bj)(c i:Nat):∀(D:List B5),vO s (G9 t A c i D)=if s=t then vO s D++[i] else vO s D
 |[]=>by
  unfold G9 vO;split<;>simp[vO]
 |e::r=>by
  unfold G9;by_cases h:t=e.1
  ·rw[ao h];unfold vO;by_cases h2:s=t
   ·subst h2;simp[h]
   ·rw[aw h2,aw h2,aw (fun q=>h2 (q.trans h.symm))]
  ·rw[aw h];unfold vO;by_cases h2:s=e.1
   ·rw[ao h2,ao h2,aw (fun q=>h (q.symm.trans h2))]
   ·rw[aw h2,aw h2];exact Q8 t s A c i r
theorem Kw(t s:al)(A:bj)(c i:Nat):∀(D:List B5),s∈(G9 t A c i D).map (·.1)↔s=t∨s∈D.map (·.1)
 |[]=>by simp[G9]
 |e::r=>by
  unfold G9;by_cases h:t=e.1
  ·rw[ao h];simp[h]
  ·rw[aw h,kA,fk,Kw t s A c i r,kA,fk];exact⟨fun h=>h.elim (fun h=>.inr (.inl h)) (fun h=>h.elim .inl fun h=>.inr (.inr h)),fun h=>h.elim (fun h=>.inr (.inl h)) (fun h=>h.elim .inl fun h=>.inr (.inr h))⟩
theorem Ou(t:al)(A:bj)(c i:Nat):∀(D:List B5),(D.map (·.1)).Nodup→((G9 t A c i D).map (·.1)).Nodup
 |[],_=>by simp[G9]
 |e::r,h=>by
  rw[kA,Ep]at h;unfold G9;by_cases ht:t=e.1
  ·rw[ao ht,kA,Ep];exact⟨by rw[ht];exact h.1,h.2⟩
  ·rw[aw ht,kA,Ep,Kw];exact⟨fun q=>q.elim (fun q=>ht q.symm) h.1,Ou t A c i r h.2⟩
theorem afI(t:al)(A:bj)(c i:Nat):∀(D:List B5),(G9 t A c i D).length≤D.length+1
 |[]=>by simp[G9]
 |e::r=>by
  unfold G9;split
  ·simp
  ·have:=afI t A c i r;simp;omega
theorem W7{P:Program}{e:TypeId}{zv:Value}(h:(P.info? e).bind (·.zero)=some zv)(w:World):(zeroValue e).run P w= .ok zv w:=by
 cases hi:P.info? e with
 |none=>rw[hi]at h;simp at h
 |some i=>rw[hi]at h;simp at h;simp[zeroValue,typeInfo,hi,h]
theorem arf{C:Cx}{c:Code}{Q:Exit→Fr→aP→Prop}{fr:Fr}{L M:aP}(h:∀w,SL C.B C.w0 L w→SL C.B C.w0 M w)(k:VC C c Q fr M):VC C c Q fr L:=fun a w ha hw=>k a w ha (h w hw)
section
abbrev cm:=al
def leT(s r:cm):Prop:=Op.bytesLess s r=true∨s=r
instance (s r:cm):Decidable (leT s r):=inferInstanceAs (Decidable (_∨_))
theorem ahL(s r:cm):(Op.bytesLess s r||decide (s=r))=decide (leT s r):=by
 by_cases hp:leT s r
 ·rw[ox hp];rcases hp with h|h<;>simp[h]
 ·rw[nT hp];unfold leT at hp;have h1:¬Op.bytesLess s r=true:=fun h=>hp (.inl h);have h2:¬s=r:=fun h=>hp (.inr h);simp[h1,h2]
section
variable{C:Cx}{fr:Fr}{L:aP}{x y:Operand}{s r:al}{xt yt ty:TypeId}
theorem QM(h1:ev fr x=some (.string ⟨s.toArray⟩))(h2:ev fr y=some (.string ⟨r.toArray⟩)):gI C fr L (.binOp .gtr xt x y yt) ty (.bool (decide (¬leT s r))):=by
 have h:=XI (C:=C) (L:=L) (xt:=xt) (yt:=yt) (ty:=ty) h1 h2;rw[ahL,←decide_not]at h;exact h
end
def uo(was s:cm):Prop:=s≠[]∧s.length≤25∧¬leT s was
instance (was s:cm):Decidable (uo was s):=inferInstanceAs (Decidable (_∧_∧_))
def ft(l:List cm)(i:Nat):cm:=if i=0 then [] else l.getD (i-1) []
def kV(l:List cm):Prop:=(∀i,i<l.length→uo (ft l i) (l.getD i []))∧l.length≤1048576
instance (l:List cm):Decidable (kV l):=inferInstanceAs (Decidable ((∀i,i<l.length→_)∧_))
theorem IX(l:List cm)(i:Nat):ft l (i+1)=l.getD i []:=by simp[ft]
theorem Ov{s:cm}(h:s≠[]):¬leT s []:=by
 rintro(h1|h1)
 ·cases s<;>simp[Op.bytesLess]at h1
 ·exact h h1
def qd:cm→cm→Nat
 |x::a,y::b=>if x=y then qd a b+1 else 0
 |_,_=>0
theorem z':∀a b:cm,qd a b≤a.length∧qd a b≤b.length
 |[],_=>by simp[qd]
 |_::_,[]=>by simp[qd]
 |x::a,y::b=>by
  unfold qd;have:=z' a b;split<;>simp only[ef]<;>omega
theorem mr:∀(a b:cm) (n:Nat),n≤qd a b→(n<qd a b↔(n<a.length∧n<b.length)∧a.getD n 0=b.getD n 0)
 |[],_,n,h=>by simp[qd]
 |_::_,[],n,h=>by simp[qd]
 |x::a,y::b,n,h=>by
  unfold qd at h⊢;split at h
  ·rename_i he;rw[ao he];cases n with
   |zero=>simp[he]
   |succ n=>
    have:=mr a b n aa;simp only[ef,BF];exact⟨fun h=>by obtain⟨⟨h1,h2⟩,h3⟩:=this.1 aa;exact⟨⟨aa,aa⟩,h3⟩,fun h=>by have:=this.2 ⟨⟨aa,aa⟩,h.2⟩;omega⟩
  ·rename_i he;rw[aw he];have:n=0:=by omega
   subst this;simp[he]
def iD:cm→List cm→al
 |_,[]=>[]
 |was,s::r=>aS (qd was s)++fo (s.drop (qd was s))++iD s r
def dB:List cm→al
 |[]=>[]
 |t::r=>fo t++iD t r
end
def te(a b:cm):Prop:=Op.bytesLess a b=true
instance (a b:cm):Decidable (te a b):=inferInstanceAs (Decidable (_=_))
theorem qh(a:cm):¬te a []:=by cases a<;>simp[te,Op.bytesLess]
theorem sc(b:UInt8)(y:cm):te [] (b::y):=rfl
theorem ui{a b:UInt8}{x y:cm}:te (a::x) (b::y)↔a<b∨a=b∧te x y:=by simp[te,Op.bytesLess]
theorem Pz{a b:UInt8}:a<b↔a.toNat<b.toNat:=UInt8.lt_iff_toNat_lt
theorem afD{a b:UInt8}:a=b↔a.toNat=b.toNat:=ra.symm
theorem fU:∀a:cm,¬te a a
 |[]=>qh _
 |a::x=>by
  rw[ui,Pz];have:=fU x;rintro(h|⟨_,h⟩)
  ·omega
  ·exact this h
theorem kL:∀{a b c:cm},te a b→te b c→te a c
 |_,_,[],_,h=>absurd h (qh _)
 |_,[],_::_,h,_=>absurd h (qh _)
 |[],_::_,c::z,_,_=>sc c z
 |a::x,b::y,c::z,h1,h2=>by
  rw[ui,Pz]at*;rw[afD]at*;rcases h1 with h1|⟨h1,Ya⟩<;>rcases h2 with h2|⟨h2,h2'⟩
  ·left;omega
  ·left;omega
  ·left;omega
  ·exact .inr ⟨aa,kL Ya h2'⟩
theorem oI:∀a b:cm,te a b∨a=b∨te b a
 |[],[]=>.inr (.inl rfl)
 |[],b::y=>.inl (sc b y)
 |a::x,[]=>.inr (.inr (sc a x))
 |a::x,b::y=>by
  rw[ui,ui,Pz,Pz,List.cons.injEq,afD,afD];rcases Nat.lt_trichotomy a.toNat b.toNat with h|h|h
  ·exact .inl (.inl h)
  ·rcases oI x y with h1|h1|h1
   ·exact .inl (.inr ⟨h,h1⟩)
   ·exact .inr (.inl ⟨h,h1⟩)
   ·exact .inr (.inr (.inr ⟨h.symm,h1⟩))
  ·exact .inr (.inr (.inl h))
theorem amk{s r:cm}:leT s r↔te s r∨s=r:=Iff.rfl
theorem CG{s r:cm}:¬leT s r↔te r s:=by
 rw[amk];constructor
 ·intro h;rcases oI s r with h1|h1|h1
  ·exact absurd (.inl h1) h
  ·exact absurd (.inr h1) h
  ·exact h1
 ·rintro h (h1|h1)
  ·exact fU _ (kL h h1)
  ·subst h1;exact fU _ h
theorem VN{s r:cm}:¬te s r↔leT r s:=by rw[←CG,kR]
theorem ahM{a b c:cm}(h:leT a b)(k:te b c):te a c:=h.elim (fun h=>kL h k) (fun h=>h▸k)
theorem ahW{a b c:cm}(h:te a b)(k:leT b c):te a c:=k.elim (fun k=>kL h k) (fun k=>k▸h)
theorem kV.lt{l:List cm}(h:kV l):∀(j i:Nat),i<j→j<l.length→te (l.getD i []) (l.getD j [])
 |0,i,Io,_=>absurd Io aa
 |j+1,i,Io,hj=>by
  have h1:=(h.1 (j+1) hj).2.2;rw[IX,CG]at h1;by_cases e:i=j
  ·rw[e];exact h1
  ·exact kL (kV.lt h j i aa aa) h1
theorem kV.inj{l:List cm}(h:kV l){i j:Nat}(hi:i<l.length)(hj:j<l.length)(he:l.getD i []=l.getD j []):i=j:=by
 rcases Nat.lt_trichotomy i j with h1|h1|h1
 ·exact absurd (he▸h.lt j i h1 hj) (fU _)
 ·exact h1
 ·exact absurd (he▸h.lt i j h1 hi) (fU _)
def plK(l:List cm)(s:cm)(k:Nat):Prop:=k≤l.length∧(∀i,i<k→te (l.getD i []) s)∧(∀i,k≤i→i<l.length→¬te (l.getD i []) s)
def bgT(x s:cm):Prop:=s.length≤x.length∧x.take s.length=s
instance (x s:cm):Decidable (bgT x s):=inferInstanceAs (Decidable (_∧_))
end Go.Proofs.YtaodmbolhoafcaaGreatDoor
namespace Go.Proofs
open Go.RowKit Go.Maps Go.Sort Go.Shelf
theorem NV:type_of% @List.length_mergeSort:= @List.length_mergeSort
def Tryz.sortS_ren:Go.Shelf.Ren:=⟨fun|6=>159|8=>211|9=>215|19=>252|20=>253|21=>254|22=>255|23=>256|24=>257|25=>258|26=>259|27=>260|28=>261|29=>262|36=>289|31=>290|32=>291|37=>292|38=>293|39=>294|41=>319|n=>n,fun|27=>87|29=>9|3=>3|32=>192|26=>87|0=>0|44=>135|46=>60|4=>4|36=>358|35=>357|41=>348|5=>5|9=>9|53=>398|57=>401|63=>432|64=>285|n=>n,fun|n=>n⟩
theorem Tryz.sortS:Go.Proofs.SlLaysM.n6 Tryz.prog Tryz.sortS_ren:={
 mixed:=by kernel_rfl
 f6:=⟨Tryz.f159.name,by decide,Tryz.func159.trans (congrArg some (by kernel_rfl))⟩
 f8:=Tryz.func211.trans (congrArg some (by kernel_rfl))
 f9:=⟨Tryz.f215.name,by decide,Tryz.func215.trans (congrArg some (by kernel_rfl))⟩
 f19:=Tryz.func252.trans (congrArg some (by kernel_rfl))
 f20:=Tryz.func253.trans (congrArg some (by kernel_rfl))
 f21:=⟨Tryz.f254.name,by decide,Tryz.func254.trans (congrArg some (by kernel_rfl))⟩
 f22:=⟨Tryz.f255.name,by decide,Tryz.func255.trans (congrArg some (by kernel_rfl))⟩
 f23:=⟨Tryz.f256.name,by decide,Tryz.func256.trans (congrArg some (by kernel_rfl))⟩
 f24:=⟨Tryz.f257.name,by decide,Tryz.func257.trans (congrArg some (by kernel_rfl))⟩
 f25:=⟨Tryz.f258.name,by decide,Tryz.func258.trans (congrArg some (by kernel_rfl))⟩
 f26:=⟨Tryz.f259.name,by decide,Tryz.func259.trans (congrArg some (by kernel_rfl))⟩
 f27:=⟨Tryz.f260.name,by decide,Tryz.func260.trans (congrArg some (by kernel_rfl))⟩
 f28:=⟨Tryz.f261.name,by decide,Tryz.func261.trans (congrArg some (by kernel_rfl))⟩
 f29:=⟨Tryz.f262.name,by decide,Tryz.func262.trans (congrArg some (by kernel_rfl))⟩
 f31:=Tryz.func290.trans (congrArg some (by kernel_rfl))
 f32:=Tryz.func291.trans (congrArg some (by kernel_rfl))
 f36:=⟨Tryz.f289.name,by decide,Tryz.func289.trans (congrArg some (by kernel_rfl))⟩
 f37:=⟨Tryz.f292.name,by decide,Tryz.func292.trans (congrArg some (by kernel_rfl))⟩
 f38:=⟨Tryz.f293.name,by decide,Tryz.func293.trans (congrArg some (by kernel_rfl))⟩
 f39:=⟨Tryz.f294.name,by decide,Tryz.func294.trans (congrArg some (by kernel_rfl))⟩
 f41:=⟨Tryz.f319.name,by decide,Tryz.func319.trans (congrArg some (by kernel_rfl))⟩
 t0:=Tryz.underlying0
 a0:=Tryz.isAgg0
 z0:=Tryz.sizeOf0
 v0:=Tryz.zeroValue0
 t3:=Tryz.underlying3
 a3:=Tryz.isAgg3
 z3:=Tryz.sizeOf3
 v3:=Tryz.zeroValue3
 t4:=Tryz.underlying4
 a4:=Tryz.isAgg4
 z4:=Tryz.sizeOf4
 v4:=Tryz.zeroValue4
 t5:=Tryz.underlying5
 a5:=Tryz.isAgg5
 z5:=Tryz.sizeOf5
 v5:=Tryz.zeroValue5
 t9:=Tryz.underlying9
 a9:=Tryz.isAgg9
 z9:=Tryz.sizeOf9
 v9:=Tryz.zeroValue9
 t26:=Tryz.underlying87
 a26:=Tryz.isAgg87
 z26:=Tryz.sizeOf87
 v26:=Tryz.zeroValue87
 t27:=Tryz.underlying87
 a27:=Tryz.isAgg87
 z27:=Tryz.sizeOf87
 v27:=Tryz.zeroValue87
 t29:=Tryz.underlying9
 a29:=Tryz.isAgg9
 z29:=Tryz.sizeOf9
 v29:=Tryz.zeroValue9
 t32:=Tryz.underlying192
 a32:=Tryz.isAgg192
 z32:=Tryz.sizeOf192
 v32:=Tryz.zeroValue192
 t35:=Tryz.underlying357
 a35:=Tryz.isAgg357
 z35:=Tryz.sizeOf357
 v35:=Tryz.zeroValue357
 t36:=Tryz.underlying358
 a36:=Tryz.isAgg358
 z36:=Tryz.sizeOf358
 v36:=Tryz.zeroValue358
 t41:=Tryz.underlying348
 a41:=Tryz.isAgg348
 z41:=Tryz.sizeOf348
 v41:=Tryz.zeroValue348
 t44:=Tryz.underlying135
 a44:=Tryz.isAgg135
 z44:=Tryz.sizeOf135
 v44:=Tryz.zeroValue135
 t46:=Tryz.underlying60
 a46:=Tryz.isAgg60
 z46:=Tryz.sizeOf60
 v46:=Tryz.zeroValue60
 t53:=Tryz.underlying398
 a53:=Tryz.isAgg398
 z53:=Tryz.sizeOf398
 v53:=Tryz.zeroValue398
 t57:=Tryz.underlying401
 a57:=Tryz.isAgg401
 z57:=Tryz.sizeOf401
 v57:=Tryz.zeroValue401
 t63:=Tryz.underlying432
 a63:=Tryz.isAgg432
 z63:=Tryz.sizeOf432
 v63:=Tryz.zeroValue432
 t64:=Tryz.underlying285
 a64:=Tryz.isAgg285
 z64:=Tryz.sizeOf285
 v64:=Tryz.zeroValue285}
def Tryz.compS_ren:Go.Shelf.Ren:=⟨fun|44=>160|n=>n,fun|25=>87|26=>9|3=>3|4=>4|0=>0|n=>n,fun|n=>n⟩
theorem Tryz.compS:Go.Proofs.SlLaysN.n44 Tryz.prog Tryz.compS_ren:={
 mixed:=by kernel_rfl
 f44:=⟨Tryz.f160.name,by decide,Tryz.func160.trans (congrArg some (by kernel_rfl))⟩
 t0:=Tryz.underlying0
 a0:=Tryz.isAgg0
 z0:=Tryz.sizeOf0
 v0:=Tryz.zeroValue0
 t3:=Tryz.underlying3
 a3:=Tryz.isAgg3
 z3:=Tryz.sizeOf3
 v3:=Tryz.zeroValue3
 t4:=Tryz.underlying4
 a4:=Tryz.isAgg4
 z4:=Tryz.sizeOf4
 v4:=Tryz.zeroValue4
 t25:=Tryz.underlying87
 a25:=Tryz.isAgg87
 z25:=Tryz.sizeOf87
 v25:=Tryz.zeroValue87
 t26:=Tryz.underlying9
 a26:=Tryz.isAgg9
 z26:=Tryz.sizeOf9
 v26:=Tryz.zeroValue9
 i26:=by kernel_rfl}
namespace YtaodmbolhoafcaaGreatDoor
set_option linter.unusedVariables false
variable{B:Nat}{w0:World}{F:aP}{A:bj}{c:Nat}
def Vt(x y:al):Bool:=decide (x≤y)
theorem anp{l:eH}(hl:l.length<4611686018427387904):
  a_ B w0 159 [.slice A l.length c] (.own 9 1 A l.length c (strs l)::F) (fun r L=>r= .tuple #[]∧L= .own 9 1 A l.length c (strs (l.mergeSort Vt))::F):=by
 intro w hw;obtain⟨k1,k2,k3⟩:=hw.head;by_cases h0:l.length=0
 ·have hl0:l=[]:=mm h0;subst hl0;refine(AnyM.slices_Sort_string_none Tryz.sortS A c w).mono fun e w' ⟨he,GO⟩=>?_;subst GO;exact⟨_,_,he,⟨rfl,ak⟩,hw⟩
 ·have qF:¬c=0:=by omega
  obtain⟨g,cur,rfl,Yj,hg,hm,hs,ht⟩:=k3.resolve_left qF;rw[cE]at ht;refine(AnyM.slices_Sort_string Tryz.sortS g 0 c l w (holds_of_block hg ht) ((k_3.1 hg).1) hl).mono fun e w' ⟨he,n,os,GO⟩=>?_;have hlen:(l.mergeSort fun x y=>decide (x≤y)).length=l.length:=NV _;have P4:(Ch.own 9 1 (some ⟨g,0,none⟩) l.length c (strs l)).fp=some g:=by simp[Ch.fp,qF]
  have Nu:=grownBy_sorted (w:=w) (g:=g) (n:=n) (os:=os) (l.mergeSort fun x y=>decide (x≤y)).toArray;rw[←GO]at Nu;refine⟨_,_,he,⟨rfl,rfl⟩,hw.K9 (by rw[P4];exact Nu) ⟨?_,k2,.inr ⟨g,_,rfl,Yj,by rw[GO];exact heap_sorted _ hg,hm,by simpa[putCells]using hs,?_⟩⟩ (.inr (.inl (by simp[Ch.fp])))⟩
  ·simp
  ·rw[cE,←hlen];exact take_putCells cur _ (by rw[hlen];omega)
theorem Dr(zs:eH):(Lib.compact zs).length≤zs.length:=by
 unfold Lib.compact Lib.compactUpTo;rw[eK];exact jd (BH _ _) ak
theorem XE{l:eH}(hl:l.length<4611686018427387904):
  a_ B w0 160 [.slice A l.length c] (.own 9 1 A l.length c (strs l)::F) (fun r L=>r= .slice A (Lib.compact l).length c∧L= .own 9 1 A (Lib.compact l).length c (strs (Lib.compact l))::F):=by
 intro w hw;obtain⟨k1,k2,k3⟩:=hw.head;have hle:=Dr l;by_cases h0:l.length=0
 ·have hl0:l=[]:=mm h0;subst hl0;refine(AnyG.slices_Compact_string_empty Tryz.compS A c w).mono fun e w' ⟨he,GO⟩=>?_;subst GO;exact⟨_,_,he,⟨rfl,by simp[Lib.compact,Lib.compactUpTo,strs]⟩,hw⟩
 ·have qF:¬c=0:=by omega
  obtain⟨g,cur,rfl,Yj,hg,hm,hs,ht⟩:=k3.resolve_left qF;rw[cE]at ht;refine(AnyG.slices_Compact_string Tryz.compS g 0 c l w (holds_of_block hg ht) aa k2).mono fun e w' ⟨he,q,GO⟩=>?_;obtain⟨ys,hys⟩:=cN (Lib.compact l++List.replicate (l.length-(Lib.compact l).length) []);have hyl:ys.length=l.length:=by rw[hys];simp;omega
  rw[←hys]at GO;have P4:(Ch.own 9 1 (some ⟨g,0,none⟩) l.length c (strs l)).fp=some g:=by simp[Ch.fp,qF]
  have Nu:=grownBy_sorted (w:=w) (g:=g) (n:=q) (os:= #[]) ys.toArray;have hh:=heap_sorted (n:=q) (os:= #[]) ys.toArray hg;rw[grow_empty,←GO]at Nu hh;refine⟨_,_,he,⟨rfl,rfl⟩,hw.K9 (by rw[P4];exact Nu) ⟨ak,aa,.inr ⟨g,_,rfl,Yj,hh,hm,by simpa[putCells]using hs,?_⟩⟩ (.inr (.inl (by simp[Ch.fp])))⟩;have ht2:=take_putCells cur ys (by rw[hyl];omega);have:=ek (List.take (Lib.compact l).length) ht2;rw[Ix,hyl,za hle]at this;rw[cE,this,←pn,hys,yf];rfl
end YtaodmbolhoafcaaGreatDoor
end Go.Proofs
namespace Go.Proofs.YtaodmbolhoafcaaGreatDoor
set_option linter.unusedVariables false
set_option linter.unusedSimpArgs false
set_option maxRecDepth 20000
variable{B:Nat}{w0:World}{F:aP}{A:bj}{c g:Nat}{s:Cs}{A1 A2:bj}{n c1 c2:Nat}{B1 B2:bj}{b1 b2:Nat}
def small(c:UInt8):UInt8:=if 65≤c.toNat∧c.toNat≤90 then c+32 else if 97≤c.toNat∧c.toNat≤122∨48≤c.toNat∧c.toNat≤57 then c else 0
def emit(row:al):eH:=if row=[] then [] else [row.take 24]
def mz(st:eH×al)(c:UInt8):eH×al:=
 if small c≠0 then (st.1,st.2++[small c]) else (st.1++emit st.2,[])
theorem Jk{ws:eH}{row:al}{c:UInt8}(h:small c≠0):mz (ws,row) c=(ws,row++[small c]):=ao h
theorem PL{ws:eH}{row:al}{c:UInt8}(h:small c=0):mz (ws,row) c=(ws++emit row,[]):=aw nr
def wst(l:al):eH×al:=l.foldl mz ([],[])
def nf(l:al):eH:=(wst l).1++emit (wst l).2
theorem af3(l:al)(c:UInt8):wst (l++[c])=mz (wst l) c:=by simp[wst]
theorem DO(row:al):(emit row).length≤row.length:=by
 unfold emit;split
 ·simp
 ·rename_i h;have:0<row.length:=by rcases row with _|⟨x,r⟩;exact absurd rfl h;simp
  simp;omega
theorem Li(l:al):(wst l).1.length+(wst l).2.length≤l.length:=by
 have:∀l:al,∀st:eH×al,(l.foldl mz st).1.length+(l.foldl mz st).2.length≤st.1.length+st.2.length+l.length:=by
  intro l;induction l with
  |nil=>intro st;simp
  |cons c r ih=>
   intro st;have h:=ih (mz st c);have hs:(mz st c).1.length+(mz st c).2.length≤st.1.length+st.2.length+1:=by
    unfold mz;split
    ·simp;omega
    ·have:=DO st.2;simp;omega
   simp only[List.foldl_cons,ef];omega
 simpa[wst]using this l ([],[])
theorem xa(l:al):(nf l).length≤l.length:=by
 have h1:=Li l;have h2:=DO (wst l).2;unfold nf;simp;omega
def uK(l:al):al:=((l.takeWhile fun c=>small c≠0).map small).take 24
def tj:Bool→al→eH
 |_,[]=>[]
 |prev,c::r=>if small c=0∨prev=true then tj (decide (small c≠0)) r else uK (c::r)::tj true r
theorem tk{α:Type}(p:α→Bool)(a:List α)(c:α)(r:List α)(ha:∀x∈a,p x=true)(hc:p c=false):(a++c::r).takeWhile p=a:=by
 induction a with
 |nil=>simp[hc]
 |cons x a ih=>
  simp only[nC,List.takeWhile_cons,ha x ak,if_true];rw[ih fun y hy=>ha y vK]
theorem G7{α:Type}(p:α→Bool)(a:List α)(ha:∀x∈a,p x=true):a.takeWhile p=a:=by
 induction a with
 |nil=>rfl
 |cons x a ih=>
  simp only[List.takeWhile_cons,ha x ak,if_true];rw[ih fun y hy=>ha y vK]
theorem E'(c:UInt8)(r:al)(hc:small c=0)(b:Bool):tj b (c::r)=tj false r:=by
 simp[tj,hc]
theorem abW:∀(l:al) (ws:eH) (a:al),(∀x∈a,small x≠0)→
  (l.foldl mz (ws,a.map small)).1++emit (l.foldl mz (ws,a.map small)).2=
   ws++(if a=[] then tj false l else uK (a++l)::tj true l):=by
 intro l;induction l with
 |nil=>
  intro ws a ha;rcases a with _|⟨x,a⟩
  ·simp[emit,tj]
  ·simp only[List.foldl_nil,emit,kA,tj,gk];rw[aw ak,aw ak];unfold uK;rw[G7 _ _ fun y hy=>by simpa using ha y hy];rfl
 |cons c r ih=>
  intro ws a ha;rw[List.foldl_cons];by_cases hc:small c=0
  ·have e:mz (ws,a.map small) c=(ws++emit (a.map small),[]):=by unfold mz;rw[aw T5]
   rw[e];have:=ih (ws++emit (a.map small)) [] ak;simp only[GU,if_true]at this;rw[this,bV];congr 1;rcases a with _|⟨x,a⟩
   ·simp[emit,tj,hc]
   ·rw[aw ak];unfold emit;rw[aw ak,E' c r hc];unfold uK;rw[tk _ _ c r (fun y hy=>by simpa using ha y hy) T5];rfl
  ·have e:mz (ws,a.map small) c=(ws,(a++[c]).map small):=by unfold mz;rw[ao T5];simp
   rw[e];have:=ih ws (a++[c]) (by intro y hy;rcases dz.1 hy with h|h;exact ha y h;simp at h;subst h;exact hc);rw[this,aw ak];congr 1;rcases a with _|⟨x,a⟩
   ·simp[tj,hc]
   ·rw[aw ak,bV];simp[tj,hc]
theorem aau(l:al):nf l=tj false l:=by
 have:=abW l [] [] ak;simpa[nf,wst]using this
theorem sP:type_of% @List.pairwise_append:= @List.pairwise_append
theorem ahV(a b:cm):te a b↔a<b:=by
 unfold te;rw[bytesLess_eq];simp
def LS(l:List cm):Prop:=l.Pairwise te
theorem LS.nil:LS []:=List.Pairwise.nil
theorem LS.ext:∀{a b:List cm},LS a→LS b→(∀x,x∈a↔x∈b)→a=b
 |[],[],_,_,_=>rfl
 |[],y::b,_,_,h=>absurd ((h y).2 ak) ak
 |x::a,[],_,_,h=>absurd ((h x).1 ak) ak
 |x::a,y::b,ha,hb,h=>by
  obtain⟨ha1,ha2⟩:=kC.1 ha;obtain⟨p9,oH⟩:=kC.1 hb;have Vf:x=y:=by
   rcases fk.1 ((h x).1 ak)with e|e
   ·exact e
   ·rcases fk.1 ((h y).2 ak)with e2|e2
    ·exact e2.symm
    ·exact absurd (kL (ha1 y e2) (p9 x e)) (fU _)
  subst Vf;congr 1;refine LS.ext ha2 oH fun z=>⟨fun hz=>?_,fun hz=>?_⟩
  ·rcases fk.1 ((h z).1 (lk _ hz))with e|e
   ·subst e;exact absurd (ha1 _ hz) (fU _)
   ·exact e
  ·rcases fk.1 ((h z).2 (lk _ hz))with e|e
   ·subst e;exact absurd (p9 _ hz) (fU _)
   ·exact e
theorem yj(a b:cm):Vt a b=true↔¬te b a:=by
 unfold Vt;rw[decide_eq_true_iff,ahV];exact List.not_lt.symm
theorem KZ(l:List cm):(l.mergeSort Vt).Pairwise (fun a b=>¬te b a):=by
 have h:=List.pairwise_mergeSort (le:=Vt) (fun a b c h1 h2=>by
  rw[yj,VN]at*;exact h1.elim (fun h1=>.inl (ahW h1 h2)) (fun h1=>h1▸h2)) (fun a b=>by
  rcases oI a b with h|h|h
  ·simp[(yj a b).2 (fun k=>fU _ (kL h k))]
  ·subst h;simp[(yj a a).2 (fU _)]
  ·simp[(yj b a).2 (fun k=>fU _ (kL h k))]) l
 exact h.imp fun h=>(yj _ _).1 h
theorem Dq{l:List cm}(hp:l.Pairwise (fun a b=>¬te b a)):∀m,m≤l.length→LS (Lib.compactUpTo l.toArray m)∧(∀x,x∈Lib.compactUpTo l.toArray m↔x∈l.take m)
 |0,_=>⟨by simp[LS,Lib.compactUpTo],by simp[Lib.compactUpTo]⟩
 |m+1,hm=>by
  obtain⟨h1,h2⟩:=Dq hp m aa;rw[Lib.compactUpTo_succ];have hlm:m<l.length:=by omega
  have hg:l.toArray[m]! =l[m]:=by simp[getElem!_pos,hlm]
  have tX:l.take (m+1)=l.take m++[l[m]]:=by rw[sM,fm hlm];rfl
  by_cases hk:Lib.keeps l.toArray m=true
  ·rw[ao hk,hg];have Ki:m=0∨l.toArray[m]! ≠l.toArray[m-1]! :=by simpa[Lib.keeps]using hk
   refine⟨?_,fun x=>?_⟩
   ·refine sP.2 ⟨h1,Vo _ _,fun a ha b hb=>?_⟩;rw[lF]at hb;subst hb;have zN:=(h2 a).1 ha;obtain⟨i,hi,rfl⟩:=jZ zN;rw[eS]at hi;rw[Er];have hle:∀i j (hi:i<l.length) (hj:j<l.length),i<j→¬te l[j] l[i]:=fun i j hi hj Io=>rb.1 hp i j hi hj Io;have hm0:m≠0:=by omega
    have r8:l[m]≠l[m-1]'aa:=by
     have:=Ki.resolve_left hm0;rw[hg]at this;simpa[getElem!_pos,show m-1<l.length by omega]using this
    have fE:te (l[m-1]'aa) l[m]:=by
     rcases oI (l[m-1]'aa) l[m]with h|h|h
     ·exact h
     ·exact absurd h.symm r8
     ·exact absurd h (hle (m-1) m aa hlm aa)
    by_cases him:i=m-1
    ·subst him;exact fE
    ·exact ahM (VN.1 (hle i (m-1) aa aa aa)) fE
   ·rw[tX,dz,dz,h2]
  ·rw[aw hk,gk];refine⟨h1,fun x=>?_⟩;rw[tX,dz,h2,lF];refine⟨.inl,fun h=>h.elim id fun h=>?_⟩;have Ki:¬(m=0∨l.toArray[m]! ≠l.toArray[m-1]!):=by simpa[Lib.keeps]using hk
   have hm0:m≠0:=fun h=>Ki (.inl h);have he:l.toArray[m]! =l.toArray[m-1]! :=kR.1 fun h=>Ki (.inr h);rw[hg]at he;have hg1:l.toArray[m-1]! =l[m-1]'aa:=by simp[getElem!_pos,show m-1<l.length by omega]
   rw[hg1]at he;rw[h,he];exact List.mem_take_iff_getElem.2 ⟨m-1,aa,rfl⟩
def sm(l:List cm):List cm:=Lib.compact (l.mergeSort Vt)
theorem yJ(l:List cm):LS (sm l):=by
 have:=(Dq (KZ l) (l.mergeSort Vt).length (gj _)).1;exact this
theorem ry(l:List cm)(x:cm):x∈sm l↔x∈l:=by
 have:=(Dq (KZ l) (l.mergeSort Vt).length (gj _)).2 x;rw[jU,List.mem_mergeSort]at this;exact this
theorem uC(l:List cm):(sm l).length≤l.length:=by
 have:=Dr (l.mergeSort Vt)
 rwa [NV]at this
theorem vh{l r:List cm}(h:LS r)(hm:∀x,x∈r↔x∈l):sm l=r:=LS.ext (yJ l) h fun x=>(ry l x).trans (hm x).symm
def as8(l:List cm)(s:cm):List cm:=sm (l++[s])
theorem LS.put{l:List cm}(h:LS l){s:cm}{k:Nat}(hk:k≤l.length)(P7:∀i,i<k→te (l.getD i []) s)(hhi:k<l.length→¬te (l.getD k []) s):
  as8 l s=if k<l.length∧l.getD k []=s then l else l.take k++[s]++l.drop k:=by
 have hgd:∀i (hi:i<l.length),l.getD i []=l[i]:=fun i hi=>by simp[List.getD,fm hi]
 split
 ·rename_i he;refine vh h fun x=>?_;rw[dz,lF];refine⟨.inl,fun hx=>hx.elim id fun hx=>?_⟩;rw[hx,←he.2,hgd k he.1];exact tY _
 ·rename_i r8;refine vh ?_ fun x=>?_
  ·have fE:k<l.length→te s (l.getD k []):=fun Ca=>by
    rcases oI s (l.getD k [])with h|h|h
    ·exact h
    ·exact absurd ⟨Ca,h.symm⟩ r8
    ·exact absurd h (hhi Ca)
   have hpw:=rb.1 h;refine sP.2 ⟨sP.2 ⟨h.sublist (Kv _ _),Vo _ _,fun a ha b hb=>?_⟩,h.sublist (List.drop_sublist _ _),fun a ha b hb=>?_⟩
   ·rw[lF]at hb;subst hb;obtain⟨i,hi,rfl⟩:=jZ ha;rw[eS]at hi;rw[Er,←hgd i aa];exact P7 i aa
   ·obtain⟨j,hj,rfl⟩:=jZ hb;rw[iG]at hj;rw[List.getElem_drop];have hs:te s l[k+j]:=by
     have h1:=fE aa;rw[hgd k aa]at h1;rcases wQ j with h0|h0
     ·subst h0;exact h1
     ·exact kL h1 (hpw k (k+j) aa aa aa)
    rcases dz.1 ha with ha|ha
    ·obtain⟨i,hi,rfl⟩:=jZ ha;rw[eS]at hi;rw[Er,];exact hpw i (k+j) aa aa aa
    ·rw[lF]at ha;subst ha;exact hs
  ·rw[dz,dz,dz,lF]
   conv=>rhs;rw[←jK k l,dz]
   constructor
   ·rintro((h|h)|h)
    ·exact .inl (.inl h)
    ·exact .inr h
    ·exact .inl (.inr h)
   ·rintro((h|h)|h)
    ·exact .inl (.inl h)
    ·exact .inr h
    ·exact .inl (.inr h)
def E3(tw src:al):List cm:=nf tw++(nf src).map (64:: ·)
def sn(tw src:al):List cm:=sm (E3 tw src)
theorem E4(tw src:al):(E3 tw src).length≤tw.length+src.length:=by
 have h1:=xa tw;have h2:=xa src;simp[E3];omega
end Go.Proofs.YtaodmbolhoafcaaGreatDoor
namespace Go.Proofs
open Go.RowKit Go.Maps Go.Sort Go.Shelf
def Tryz.keysA_ren:Go.Shelf.Ren:=⟨fun|7=>91|10=>162|n=>n,fun|23=>140|26=>9|3=>53|28=>144|0=>0|27=>143|33=>245|4=>4|n=>n,fun|n=>n⟩
theorem Tryz.keysA:Go.Proofs.SlLaysZ.n7 Tryz.prog Tryz.keysA_ren:={
 mixed:=by kernel_rfl
 f7:=⟨Tryz.f91.name,by decide,Tryz.func91.trans (congrArg some (by kernel_rfl))⟩
 f10:=⟨Tryz.f162.name,by decide,Tryz.func162.trans (congrArg some (by kernel_rfl))⟩
 t0:=Tryz.underlying0
 a0:=Tryz.isAgg0
 z0:=Tryz.sizeOf0
 v0:=Tryz.zeroValue0
 t4:=Tryz.underlying4
 a4:=Tryz.isAgg4
 z4:=Tryz.sizeOf4
 v4:=Tryz.zeroValue4
 t23:=Tryz.underlying140
 a23:=Tryz.isAgg140
 z23:=Tryz.sizeOf140
 v23:=Tryz.zeroValue140
 t26:=Tryz.underlying9
 a26:=Tryz.isAgg9
 z26:=Tryz.sizeOf9
 v26:=Tryz.zeroValue9
 t27:=Tryz.underlying143
 a27:=Tryz.isAgg143
 z27:=Tryz.sizeOf143
 v27:=Tryz.zeroValue143
 t28:=Tryz.underlying144
 a28:=Tryz.isAgg144
 z28:=Tryz.sizeOf144
 v28:=Tryz.zeroValue144
 t33:=Tryz.underlying245
 a33:=Tryz.isAgg245
 z33:=Tryz.sizeOf245
 v33:=Tryz.zeroValue245}
def Tryz.sortedA_ren:Go.Shelf.Ren:=⟨fun|6=>90|8=>161|9=>159|11=>216|13=>211|12=>215|23=>252|24=>253|14=>254|15=>255|16=>256|17=>257|18=>258|19=>259|20=>260|21=>261|22=>262|25=>289|26=>290|27=>291|28=>292|29=>293|30=>294|31=>319|n=>n,fun|26=>9|28=>144|24=>87|0=>0|3=>3|37=>192|48=>135|50=>60|4=>4|40=>358|39=>357|45=>348|5=>5|9=>9|51=>398|55=>401|57=>432|58=>285|33=>245|n=>n,fun|n=>n⟩
theorem Tryz.sortedA:Go.Proofs.SlLaysZ.n6 Tryz.prog Tryz.sortedA_ren:={
 mixed:=by kernel_rfl
 f6:=⟨Tryz.f90.name,by decide,Tryz.func90.trans (congrArg some (by kernel_rfl))⟩
 f8:=⟨Tryz.f161.name,by decide,Tryz.func161.trans (congrArg some (by kernel_rfl))⟩
 f11:=⟨Tryz.f216.name,by decide,Tryz.func216.trans (congrArg some (by kernel_rfl))⟩
 t0:=Tryz.underlying0
 a0:=Tryz.isAgg0
 z0:=Tryz.sizeOf0
 v0:=Tryz.zeroValue0
 t24:=Tryz.underlying87
 a24:=Tryz.isAgg87
 z24:=Tryz.sizeOf87
 v24:=Tryz.zeroValue87
 t26:=Tryz.underlying9
 a26:=Tryz.isAgg9
 z26:=Tryz.sizeOf9
 v26:=Tryz.zeroValue9
 t28:=Tryz.underlying144
 a28:=Tryz.isAgg144
 z28:=Tryz.sizeOf144
 v28:=Tryz.zeroValue144
 i26:=by kernel_rfl}
theorem Tryz.anq(m:Nat):AnyZ.SortsIn Tryz.prog Tryz.sortedA_ren Fence.wide m:=
  ⟨fun bD off cap ss W hH acu i_=>callsIn_wide.2 (AnyM.slices_Sort_string Tryz.sortS bD off cap ss W hH acu i_),
   fun p cap W=>callsIn_wide.2 (AnyM.slices_Sort_string_none Tryz.sortS p cap W)⟩
namespace YtaodmbolhoafcaaGreatDoor
set_option linter.unusedVariables false
set_option maxRecDepth 20000
variable{B:Nat}{w0:World}{F L:aP}{A:bj}{c:Nat}
theorem ami(b:Nat):a_ B w0 91 [.map (some b)] L (fun r L'=>∃g,r= .func (.func 162) #[] [br g].toArray∧L'= .bD g 140 [.map (some b)]::L):=fun w hw=>by
 have h:CallsIn Fence.wide 5 Tryz.prog 91 #[.map (some b)] w fun e w'=>e= .returned (.func (.func 162) #[] #[.pointer (some ⟨w.heap.size,0,none⟩)])∧w'=w.alloc (.cells #[.map (some b)] 140):=AnyZ.keys_in Tryz.keysA Fence.wide 5 trivial rfl (some b) w;refine(callsIn_wide.1 h).mono fun e w' ⟨he,GO⟩=>?_;subst GO;exact⟨_,_,he,⟨w.heap.size,rfl,rfl⟩,hw.KH 140 [.map (some b)]⟩
theorem K4(D:List (al×Value))(hn:(D.map (·.1)).Nodup):MapKept.Stamped (fY 0 D).toArray D.length:=by
 have hb:∀(D:List (al×Value)) (i:Nat),(fY i D).map (·.born)=List.range' i D.length:=by
  intro D;induction D with
  |nil=>intro i;rfl
  |cons p r ih=>intro i;simp[fY,ih,List.range'_succ]
 have hk:∀(D:List (al×Value)) (i:Nat),(fY i D).map (·.key)=(D.map (·.1)).map fun t=>Value.string ⟨t.toArray⟩:=by
  intro D;induction D with
  |nil=>intro i;rfl
  |cons p r ih=>intro i;simp[fY,ih]
 refine⟨fun x hx=>?_,?_,?_⟩
 ·have:x.born∈(fY 0 D).map (·.born):=pM.2 ⟨x,by simpa using hx,rfl⟩;rw[hb]at this;have:=List.mem_range'.1 this;omega
 ·rw[List.toList_toArray,hb];exact List.nodup_range' (step:=1)
 ·rw[List.toList_toArray,hk];exact List.Pairwise.map _ (fun a b h e=>h (by simpa using e)) hn
theorem M7:∀(D:List (al×Value)) (i:Nat) (x:MapEntry),x∈fY i D→∃p∈D,x.key= .string ⟨p.1.toArray⟩
 |[],_,_,h=>by simp[fY]at h
 |p::r,i,x,h=>by
  rcases fk.1 h with rfl|h
  ·exact⟨p,rj,rfl⟩
  ·obtain⟨q,hq,e⟩:=M7 r (i+1) x h;exact⟨q,lk _ hq,e⟩
theorem ZJ{ss:eH}(h:ss.Nodup):LS (ss.mergeSort Vt):=by
 have h1:=KZ ss;have h2:(ss.mergeSort Vt).Nodup:=(List.mergeSort_perm ss Vt).nodup_iff.2 h;refine(h1.and h2).imp fun {x y} h=>?_;rcases oI x y with q|q|q
 ·exact q
 ·exact absurd q h.2
 ·exact absurd q h.1
theorem aeG{D:List (al×Value)}{g b:Nat}(hn:(D.map (·.1)).Nodup)(hl:D.length≤1048576)(hk:∀p∈D,p.1.length≤1000000000):
  a_ B w0 90 [.func (.func 162) #[] [br g].toArray] (.bD g 140 [.map (some b)]:: .obj b (VE D)::F)
   (fun r L'=>∃A c,r= .slice A (sm (D.map (·.1))).length c∧L'= .own 9 1 A (sm (D.map (·.1))).length c (strs (sm (D.map (·.1)))):: .bD g 140 [.map (some b)]:: .obj b (VE D)::F):=by
 intro w hw;have hg:=hw.head.2;have hb:w.heap[b]? =some (.map (fY 0 D).toArray D.length):=hw.tail.head.2;have wK:∀p∈D,keyOf Tryz.prog 9 (.string ⟨p.1.toArray⟩)=some (.string p.1):=fun p hp=>by
  unfold keyOf mapKey;rw[Tryz.underlying9];simp only;rw[ao (show(⟨p.1.toArray⟩:ByteArray).size≤maxLen by have:=hk p hp;simp only[maxLen,ByteArray.size,wR];omega)]
 have tW:∀x∈fY 0 D,∃p∈D,WideElems.rd (H:=Unit) Tryz.prog 9 (fun _=>some (.nil,[])) x=some (.string p.1,.nil):=fun x hx=>by
  obtain⟨p,hp,e⟩:=M7 D 0 x hx;refine⟨p,hp,?_⟩;unfold WideElems.rd;rw[e,wK p hp];rfl
 have Ft:WideElems.Fit (H:=Unit) Tryz.prog 9 (fun _=>some (.nil,[])) (fY 0 D).toArray D.length:=
  ⟨by have:=ou D 0;simp only[wR,maxLen];omega,K4 D hn,fun x hx=>by
   obtain⟨p,_,e⟩:=tW x (by simpa using hx);exact⟨_,e⟩⟩
 have mj:w.ownsMap Tryz.prog 9 (fun _=>some (DataW.nil (H:=Unit),[])) b D.length (.map (((fY 0 D).toArray.toList.map (WideElems.rg Tryz.prog 9 fun _=>some (.nil,[]))).foldr DataW.insert [])):=
  ⟨_,_,hb,Ft,by have:=ou D 0;simp only[wR];omega,rfl⟩
 have aqa:∀(E:List (al×Value)) (i:Nat),(∀p∈E,p∈D)→(((fY i E).map (WideElems.rg (H:=Unit) Tryz.prog 9 fun _=>some (.nil,[]))).map fun p=>strOf p.1)=E.map (·.1):=by
  intro E;induction E with
  |nil=>intro i _;rfl
  |cons p r ih=>
   intro i hE;simp only[fY,kA];rw[ih (i+1) (fun q hq=>hE q (lk _ hq))];congr 1;unfold WideElems.rg WideElems.rd;rw[wK p (hE p rj)];rfl
 have aqn:(strKeys (.map (((fY 0 D).toArray.toList.map (WideElems.rg (H:=Unit) Tryz.prog 9 fun _=>some (.nil,[]))).foldr DataW.insert []))).Perm (D.map (·.1)):=by
  show(List.map _ _).Perm _;refine((WideShapes.sorted_perm _).map _).trans ?_;rw[List.toList_toArray,aqa D 0 (fun p hp=>hp)]
 have aj4:Maps.size (DataW.map (((fY 0 D).toArray.toList.map (WideElems.rg (H:=Unit) Tryz.prog 9 fun _=>some (.nil,[]))).foldr DataW.insert []))=D.length:=by
  unfold Maps.size;simp only[];rw[length_sorted];simp[ou]
 have al9:SeqGives Fence.wide 2 Tryz.prog 162 #[br g] encStr _ _ w:=
  AnyZ.keys_gives (ρ:=Tryz.keysA_ren) {Tryz.keysA with} Fence.wide _ trivial rfl aa g b D.length _ w hg.lt (by
   have:=hg.cell 0;simpa using this) mj
 have cS:=AnyZ.sorted_in Tryz.sortedA Fence.wide 5 trivial trivial trivial trivial rfl aa (Tryz.anq _) (enters_of Tryz.func159 ag rfl) 162 #[br g] trivial (enters_of Tryz.func162 ag rfl) _ _ (by rw[aj4];unfold maxLen;omega) (by rw[aj4];omega) w al9;change CallsIn _ _ Tryz.prog 90 _ _ _ at cS;refine(callsIn_wide.1 cS).mono fun e w' ⟨v,ss,he,hS,ho,_,c_⟩=>?_;have hp2:=hS.trans aqn;have hT:ss.mergeSort (fun x y=>decide (x≤y))=sm (D.map (·.1)):=
  (vh (ZJ (hp2.nodup_iff.2 hn)) fun x=>by rw[List.mem_mergeSort];exact hp2.mem_iff).symm
 rw[hT]at ho;have nN:ss.length=(sm (D.map (·.1))).length:=by rw[←hT,NV]
 rw[nN]at ho;have hgr:w.grownBy w' none:=⟨c_.os,c_.tape,c_.output,c_.size,fun k hk _=>c_.block k hk⟩
 rcases ho.2 with⟨rfl,h0⟩|⟨q,cap,cur,rfl,h1,h2,h3,h4,h5,h6⟩
 ·have e0:sm (D.map (·.1))=[]:=mm aa;refine⟨_,_,he,⟨none,0,by rw[e0];rfl,rfl⟩,hw.gL hgr ⟨by rw[e0];rfl,by rw[e0];exact gj _,.inl rfl⟩ (.inl rfl)⟩
 ·refine⟨_,_,he,⟨_,_,rfl,rfl⟩,hw.gL hgr ⟨ho.1,h3,.inr ⟨q,cur,rfl,jd hw.base h1,h2,h4,h5,h6⟩⟩ ?_⟩;by_cases hc:cap=0
  ·left;simp[Ch.fp,hc]
  ·right;exact⟨q,by simp[Ch.fp,hc],h1⟩
end YtaodmbolhoafcaaGreatDoor
end Go.Proofs
namespace Go.Proofs.YtaodmbolhoafcaaGreatDoor
set_option linter.unusedVariables false
set_option linter.unusedSimpArgs false
set_option maxRecDepth 20000
variable{B:Nat}{w0:World}{F:aP}{A:bj}{c g:Nat}{s:Cs}{A1 A2:bj}{n c1 c2:Nat}{B1 B2:bj}{b1 b2:Nat}
theorem O5(c:UInt8):(97≤(c.toNat:Int)∧(c.toNat:Int)≤122∨48≤(c.toNat:Int)∧(c.toNat:Int)≤57)∧((small c).toNat:Int)=(c.toNat:Int)∧small c≠0∨
  (65≤(c.toNat:Int)∧(c.toNat:Int)≤90)∧((small c).toNat:Int)=(c.toNat:Int)+32∧small c≠0∨
  (¬(97≤(c.toNat:Int)∧(c.toNat:Int)≤122∨48≤(c.toNat:Int)∧(c.toNat:Int)≤57)∧¬(65≤(c.toNat:Int)∧(c.toNat:Int)≤90))∧small c=0:=by
 by_cases h1:65≤c.toNat∧c.toNat≤90
 ·have e:small c=c+32:=ao h1;have e2:(c+32).toNat=c.toNat+32:=by
   rw[UInt8.toNat_add];show(c.toNat+32)%256=_;omega
  refine .inr (.inl ⟨aa,by rw[e,e2];omega,fun h=>?_⟩);rw[e]at h;have:=ek UInt8.toNat h;rw[e2]at this;simp at this
 ·by_cases h2:97≤c.toNat∧c.toNat≤122∨48≤c.toNat∧c.toNat≤57
  ·have e:small c=c:=by unfold small;rw[aw h1,ao h2]
   refine .inl ⟨aa,xq,fun h=>?_⟩;rw[e]at h;rw[h]at h2;simp at h2
  ·have e:small c=0:=by unfold small;rw[aw h1,aw h2]
   exact .inr (.inr ⟨aa,e⟩)
theorem wZ{n:Int}{b b':Bool}{c:UInt8}(h:n=((small c).toNat:Int))(hb:b=b'):Value.tuple #[.int .u8 n,.bool b]= .tuple #[.int .u8 (small c).toNat,.bool b']:=by rw[h,hb]
theorem adg(c:UInt8):a_ B w0 214 [.int .u8 c.toNat] F (fun r L=>r= .tuple #[.int .u8 (small c).toNat,.bool (decide (small c≠0))]∧L=F):=by
 have hs:=O5 c;have hc:=c.toNat_lt;refine fw func214 27 [0] ?_;refine jS ?_;refine bW 6 10 [0] (65≤(c.toNat:Int)∧(c.toNat:Int)≤90) ?_ ?_
 ·refine bF ?_;refine cP (fun h7=>?_) fun h7=>?_
  ·refine b8 ?_;exact aQ oS
  ·refine be ?_;exact aQ wu
 ·refine bF ?_;refine aj (fun h4=>?_) fun h4=>?_
  ·refine bL ?_;refine ab (bY rfl rfl (aat aa aa)) rfl ?_;refine B_ ?_;have e:small c≠0:=by rcases hs with h|h|h<;>first|exact h.2.2|(exfalso;omega)
   exact⟨wZ aa (ox e).symm,rfl⟩
  ·refine bG ?_;refine bW 6 17 [0] (97≤(c.toNat:Int)∧(c.toNat:Int)≤122) ?_ ?_
   ·refine bF ?_;refine cP (fun kg=>?_) fun kg=>?_
    ·refine b8 ?_;exact aQ oS
    ·refine be ?_;exact aQ wu
   ·refine bF ?_;refine aj (fun pg=>?_) fun pg=>?_
    ·refine GC ?_;have e:small c≠0:=by rcases hs with h|h|h<;>first|exact h.2.2|(exfalso;omega)
     exact⟨wZ aa (ox e).symm,rfl⟩
    ·refine aF ?_;refine bW 6 23 [0] (48≤(c.toNat:Int)∧(c.toNat:Int)≤57) ?_ ?_
     ·refine bF ?_;refine cP (fun iY=>?_) fun iY=>?_
      ·refine b8 ?_;exact aQ oS
      ·refine be ?_;exact aQ wu
     ·refine bF ?_;refine aj (fun pg=>?_) fun pg=>?_
      ·refine zH ?_;have e:small c≠0:=by rcases hs with h|h|h<;>first|exact h.2.2|(exfalso;omega)
       exact⟨wZ aa (ox e).symm,rfl⟩
      ·refine B_ ?_;have e:small c=0:=by rcases hs with h|h|h<;>first|exact h.2|(exfalso;omega)
       rw[e];exact⟨rfl,rfl⟩
def B3(l:al):Prop:=∀c∈l,small c≠0
instance (l:List UInt8):Decidable (B3 l):=inferInstanceAs (Decidable (∀c∈l,small c≠0))
theorem B3.AA:B3 []:=by intro c h;cases h
theorem B3.take{l:al}(h:B3 l)(k:Nat):B3 (l.take k):=fun c hc=>h c (lX hc)
theorem B3.step{l:al}{k:Nat}(h:B3 (l.take k))(hk:k<l.length)(hs:small (l.getD k 0)≠0):B3 (l.take (k+1)):=by
 rw[ba hk 0];intro c hc;rcases dz.1 hc with hc|hc
 ·exact h c hc
 ·simp only[lF]at hc;rw[hc];exact hs
theorem B3.all{l:al}{k:Nat}(h:B3 (l.take k))(hk:¬k<l.length):B3 l:=by rwa [fL aa]at h
theorem Bn{P:Prop}(h:P:=by(simp[bv])):P:=h
theorem L9{P:Prop}(h:P:=by(simp[strs])):P:=h
theorem SL.aih{w:World}{L:aP}{e:TypeId}{size k:Nat}{xs:cV}(h:SL B w0 (.own e size A n c xs::L) w)(hk:k≤n):SL B w0 (.own e size A k c (xs.take (k*size))::L) w:=by
 refine⟨h.below,h.base,fun d hd=>?_,kC.2 ⟨fun d hd=>?_,(kC.1 h.apart).2⟩⟩
 ·rcases fk.1 hd with rfl|hd
  ·obtain⟨k1,k2,k3⟩:=h.head;have Rq:k*size≤n*size:=ow _ hk;refine⟨by rw[eS,k1];omega,aa,k3.imp id fun⟨g,cur,q1,q2,q3,q4,q5,q6⟩=>⟨g,cur,q1,q2,q3,q4,q5,by rw[←q6,Ix,za Rq]⟩⟩
  ·exact h.tail.all d hd
 ·exact(kC.1 h.apart).1 d hd
theorem OU{P:Program}{fn:Func}{R:qI}{ee:Exit}{fr:Fr}{L:aP}{e:TypeId}{size:Nat}{xs:cV}(k:Nat)(hk:k≤n)(h:Cp P fn R ee fr (.own e size A k c (xs.take (k*size))::L)):Cp P fn R ee fr (.own e size A n c xs::L):=by
 cases ee<;>first
  |exact h
  |(intro B w0 a w ha hw;exact h B w0 a w ha (hw.aih hk))
abbrev B4(ho:Nat)(A:bj)(c:Nat)(ws:List cm)(F:aP):aP:=.bD ho 87 [.slice A ws.length c]:: .own 9 1 A ws.length c (strs ws)::F
def xn(B:Nat)(w0:World)(ff:FuncId)(ho:Nat)(f:cm→cm):Prop:=
 ∀(F:aP) (t:cm) (ws:List cm) (A:bj) (c:Nat),t.length≤24→ws.length≤1000000000000→
  a_ B w0 ff [.string ⟨t.toArray⟩,br ho] (B4 ho A c ws F) (fun r L=>r= .tuple #[]∧∃A' c',L=B4 ho A' c' (ws++[f t]) F)
abbrev af9(hr:Nat)(A:bj)(c:Nat)(row:al)(F:aP):aP:=.bD hr 27 [.slice A row.length c]:: .own 5 1 A row.length c (bv row)::F
theorem ae1{ff:FuncId}{ho hr hw:Nat}{f:cm→cm}(Yk:aH Tryz.prog ff)(Ve:xn B w0 ff ho f){row:al}{ws:List cm}(hws:ws.length≤1000000000000)(Cc:row.length≤1000000000000):
  a_ B w0 213 [br hr,br hw] (af9 hr A1 c1 row (.bD hw 242 [.func (.func ff) #[] [br ho].toArray]::B4 ho A2 c2 ws F))
   (fun r L=>r= .tuple #[]∧∃A2' c2',L=af9 hr A1 c1 [] (.bD hw 242 [.func (.func ff) #[] [br ho].toArray]::B4 ho A2' c2' (ws++(emit row).map f) F)):=by
 refine fw func213 15 [0,1] ?_;refine bJ ?_;refine aj (fun h4=>?_) fun h4=>?_
 ·refine Tp (A:=A1) (nn:=row.length) (c:=c1) (size:=1) (xs:=bv row) aB fun mh _=>?_;obtain⟨M,hM⟩:=cN (min row.length 24);have Ce:(row.take 24).length=M:=by rw[eS,hM,Nat.min_comm]
  have he:emit row=[row.take 24]:=aw (fun e=>by rw[e]at h4;simp at h4);have hMm:min (row.length:Int) 24=(M:Int):=by omega
  have tX:(bv row).take (M*1)=bv (row.take 24):=by
   rw[cE,jX];congr 1;rcases ub row.length 24 with h|h
   ·rw[fL aa,fL aa]
   ·rw[show M=24 by omega]
  refine cF (.bD hr 27 [.slice A1 row.length c1]:: .own 5 1 A1 row.length c1 (bv row):: .bD hw 242 [.func (.func ff) #[] [br ho].toArray]::[]) ?_;refine ae 0 ?_;refine ae 1 ?_;refine ae 2 ?_;refine ae 3 ?_;refine aW 4 rfl (xJ rfl rfl) ?_;rw[hMm];refine aW 5 rfl (bN (i:=M) (size:=1) underlying27 ag rfl rfl rfl aa) ?_;refine aW 6 rfl (oZ (b:=row.take 24) underlying27 underlying5 underlying9 rfl (tX▸(aB:aJ _ _ _ 1 (.slice A1 row.length c1) row.length (bv row)).iZ (k:=M) aa)) ?_;refine az 7 ?_;refine pG rfl .no Yk rfl rfl ((Ve _ (row.take 24) ws _ _ aa aa).perm ((pu3 (pu3 (fR (fR (fR (.refl _)))))))) rfl (by rintro _ _ ⟨rfl,PN,c12,rfl⟩;exact gF) ?_;rintro _ _ ⟨rfl,PN,c12,cA⟩;obtain rfl:=cA.symm;refine b8 ?_;refine ab (bN (i:=0) (size:=1) underlying27 ag rfl rfl rfl aa) rfl ?_;refine bF ?_;refine aq (L':=.own 5 1 A1 row.length c1 (bv row):: .bD hr 27 [.slice A1 0 c1]:: .bD hw 242 [.func (.func ff) #[] [br ho].toArray]::B4 ho PN c12 (ws++[f (row.take 24)]) F) ((tx (rM (rM (ed (ed (.refl _))))))) ?_;refine OU 0 (bT _) ?_;refine aq (L':=af9 hr A1 c1 [] (.bD hw 242 [.func (.func ff) #[] [br ho].toArray]::B4 ho PN c12 (ws++[f (row.take 24)]) F)) (.swap (.cons (ax rfl (by rw[r'];rfl) (.refl _)))) ?_;refine aF ?_;exact⟨rfl,PN,c12,by rw[he];rfl⟩
 ·obtain rfl:row=[]:=mm aa;refine b8 ?_;refine ab (bN (i:=0) (size:=1) underlying27 ag rfl rfl rfl aa) rfl ?_;refine b8 ?_;exact⟨rfl,A2,c2,by simp[emit]⟩
theorem Wq{ff:FuncId}{ho:Nat}{f:cm→cm}(Yk:aH Tryz.prog ff)(Ve:xn B w0 ff ho f)(l:al){ws:List cm}(hws:ws.length≤274877906944)(hl:l.length≤274877906944):
  a_ B w0 156 [.string ⟨l.toArray⟩,.func (.func ff) #[] [br ho].toArray] (B4 ho A2 c2 ws F)
   (fun r L=>r= .tuple #[]∧∃A2' c2',L=B4 ho A2' c2' (ws++(nf l).map f) F):=by
 refine fw func156 32 [0,1] ?_;refine be ?_;refine bh fun g3=>?_;refine b8 ?_;refine bc fun g4=>?_;refine bA ?_;refine aZ 5 1 none ?_;refine bL ?_;refine aE (fun zf zL zm=>∃(k:Nat) (W:List cm) (R:al) (A:bj) (c:Nat) (A3:bj) (c3:Nat),(k≤l.length∧wst (l.take k)=(W,R))∧l.length-k=zm∧Sub zf [(0,.string ⟨l.toArray⟩),(4,br g4),(5,.func (.func 213) #[] [br g4,br g3].toArray),(11,ah l.length),(12,ah k)]∧Wk zL (af9 g4 A c R (.bD g3 242 [.func (.func ff) #[] [br ho].toArray]::B4 ho A3 c3 (ws++W.map f) F))) _ ⟨0,[],[],none,0,A2,c2,⟨bT _,rfl⟩,rfl,bp,.swap (.cons (.cons (.cons (bq ak (ax ak ak (.refl _))))))⟩ ?_;rintro _ _ _ ⟨k,W,R,A,c,A3,c3,⟨hk,hW⟩,rfl,hs,hp⟩;refine aU hs hp ?_;clear hs hp;refine bz ?_;refine aj (fun lA=>?_) fun lA=>?_
 ·have CD:=Li (l.take k);rw[hW,eS]at CD;simp only at CD;have D9:=DO R;have hsn:wst (l.take (k+1))=mz (W,R) (l.getD k 0):=by
   rw[sM,fm (show k<l.length by omega),←hW,←af3];simp[List.getD,fm (show k<l.length by omega)]
  refine jy ?_;refine ab (rU underlying9 rfl rfl rfl aa) rfl ?_;refine ai rfl (adg (l.getD k 0)) ?_;refine cJ ?_;refine aj (fun rJ=>?_) fun rJ=>?_
  ·refine b8 ?_;refine dE cD rfl rfl rfl rfl rfl (fun _=>rfl) aV aa aa ?_;intro _ sY Bq;refine aF ?_;refine ve [0,4,5,11,12] ?_;refine bQ ?_;have acz:R.length+1=(R++[small (l.getD k 0)]).length:=by simp
   refine av ⟨_,aa,k+1,W,R++[small (l.getD k 0)],sY,Bq,A3,c3,⟨aa,by rw[hsn,Jk rJ]⟩,rfl,bp,bq (by rw[acz];rfl) (ax acz Bn (.refl _))⟩
  ·refine b8 ?_;refine uH ajL rfl rfl (ae1 Yk Ve bR aa) rfl ?_;rintro _ _ ⟨rfl,Bj,Br,cA⟩;obtain rfl:=cA.symm;refine bz ?_;refine ve [0,4,5,11,12] ?_;refine av ⟨_,aa,k+1,W++emit R,[],A,c,Bj,Br,⟨aa,by rw[hsn,PL (kR.1 rJ)]⟩,rfl,bp,.cons (.cons (.cons (bq ak (ax ak ak (.refl _)))))⟩
 ·obtain rfl:k=l.length:=by omega
  rw[jU]at hW;have CD:=Li l;rw[hW]at CD;simp only at CD;have hwd:nf l=W++emit R:=by unfold nf;rw[hW]
  refine bL ?_;refine uH ajL rfl rfl (ae1 Yk Ve bR aa) rfl ?_;rintro _ _ ⟨rfl,Qd,c31,cA⟩;obtain rfl:=cA.symm;refine be ?_;refine aq (L':=B4 ho Qd c31 (ws++W.map f++(emit R).map f) F) (.skip (.skip (.skip (.refl _)))) ?_;refine aF ?_;exact⟨rfl,Qd,c31,by rw[hwd];simp⟩
theorem XA{ho:Nat}:xn B w0 157 ho (fun t=>t):=by
 intro F t ws A c ht hws;refine ct func157 7 rfl rfl rfl [(0,.string ⟨t.toArray⟩),(1,br ho)] ⟨⟨rfl,rfl⟩,⟨rfl,rfl⟩,trivial⟩ ?_;refine bF ?_;refine dE Fp rfl rfl rfl rfl rfl (fun _=>rfl) aV aa aa ?_;intro _ A6 c6;refine bF ?_;have D9:ws.length+1=(ws++[t]).length:=by simp
 refine aq (L':=B4 ho A6 c6 (ws++[t]) F) (bq (by rw[D9];rfl) (ax D9 L9 (.refl _))) ?_;refine aF ?_;exact⟨rfl,A6,c6,rfl⟩
theorem XB{ho:Nat}:xn B w0 158 ho (fun t=>64::t):=by
 intro F t ws A c ht hws;refine ct func158 8 rfl rfl rfl [(0,.string ⟨t.toArray⟩),(1,br ho)] ⟨⟨rfl,rfl⟩,⟨rfl,rfl⟩,trivial⟩ ?_;refine bF ?_;refine ab (zu (s:=[64]) (r:=t) rfl rfl (by simp only[ef,r_];omega)) rfl ?_;refine dE Fp rfl rfl rfl rfl rfl (fun _=>rfl) aV aa aa ?_;intro _ A7 c7;refine bF ?_;have D9:ws.length+1=(ws++[64::t]).length:=by simp
 refine aq (L':=B4 ho A7 c7 (ws++[64::t]) F) (bq (by rw[D9];rfl) (ax D9 L9 (.refl _))) ?_;refine aF ?_;exact⟨rfl,A7,c7,rfl⟩
theorem ai0{a b:Value}(tw src:al)(h1:tw.length≤100000000000)(h2:src.length≤100000000000):
  a_ B w0 89 [.agg #[a,b,.string ⟨src.toArray⟩,.string ⟨tw.toArray⟩]] F (fun r L=>∃A c,r= .slice A (sn tw src).length c∧L= .own 9 1 A (sn tw src).length c (strs (sn tw src))::F):=by
 have hrl:=E4 tw src;have hw1:=xa tw;refine fw func89 16 [0] ?_;refine be ?_;refine bh fun g1=>?_;refine bG ?_;refine bc fun g3=>?_;refine bF ?_;refine aZ 9 1 none ?_;refine b8 ?_;refine aX ajF rfl ((Wq aoQ XA tw (ws:=[]) ak aa).perm ((l6 (fR (fR (.refl _)))))) rfl ?_;rintro _ _ ⟨rfl,A7,c7,cA⟩;obtain rfl:=cA.symm;refine bL ?_;refine aX ajF rfl (Wq aoR XB src bR aa) rfl ?_;rintro _ _ ⟨rfl,tz,xg,cA⟩;obtain rfl:=cA.symm;have e:([]++List.map (fun t=>t) (nf tw))++List.map (fun t=>64::t) (nf src)=E3 tw src:=by simp[E3]
 rw[e];refine bG ?_;refine ai rfl ((anp (l:=E3 tw src) aa).perm ((l6 (fR (fR (.refl _)))))) ?_;rw[show(E3 tw src).length=((E3 tw src).mergeSort Vt).length from(NV _).symm];refine bG ?_;refine ai rfl (XE (l:=(E3 tw src).mergeSort Vt) (by rw[NV];omega)) ?_;refine b8 ?_;refine aq (L':=.own 9 1 tz (sn tw src).length xg (strs (sn tw src))::F) (.cons (.skip (.skip (.refl _)))) ?_;refine aF ?_;exact⟨tz,xg,rfl,rfl⟩
theorem PJ(T:al)(m:Nat)(hm:m≤24)(hp:∀x∈T.take m,small x≠0)(hs:m=T.length∨(∃c,T[m]? =some c∧small c=0)∨m=24):uK T=(T.take m).map small:=by
 have e:T=T.take m++T.drop m:=(jK m T).symm;have hp':∀x∈T.take m,(fun c:UInt8=>decide (small c≠0)) x=true:=fun x hx=>ox (hp x hx);have key:T.takeWhile (fun c=>decide (small c≠0))=T.take m++(T.drop m).takeWhile (fun c=>decide (small c≠0)):=by
  conv=>lhs;rw[e]
  rw[List.takeWhile_append_of_pos hp']
 unfold uK;rw[key,jb];have y9:((T.take m).map small).length≤24:=by simp;omega
 rcases hs with h|⟨c,h,h0⟩|h
 ·have:T.drop m=[]:=by rw[h];exact BJ
  rw[this,List.takeWhile_nil,GU,gk];exact fL y9
 ·have hd:T.drop m=c::T.drop (m+1):=by
   obtain⟨fE,rfl⟩:=zY.1 h;exact N4 fE
  rw[hd,List.takeWhile_cons,aw Ma,GU,gk];exact fL y9
 ·subst h;rcases ub T.length 24 with h|h
  ·have:T.drop 24=[]:=Iz aa;rw[this,List.takeWhile_nil,GU,gk];exact fL y9
  ·have hl:((T.take 24).map small).length=24:=by simp;omega
   rw[List.take_append_of_le_length aa,fL aa]
def sB(l:al)(i:Nat)(W_:eH)(prev:Bool):Prop:=
 W_++tj prev (l.drop i)=tj false l∧(i=0→prev=false)∧(∀c,0<i→l[i-1]? =some c→prev=decide (small c≠0))∧W_.length≤i
theorem sB.start(l:al):sB l 0 [] false:=⟨rfl,fun _=>rfl,fun _ h=>absurd h aa,gj _⟩
theorem sB.skip{l:al}{i:Nat}{W_:eH}{prev:Bool}{c:UInt8}(h:sB l i W_ prev)(hc:l[i]? =some c)(hs:small c=0∨prev=true):sB l (i+1) W_ (decide (small c≠0)):=by
 obtain⟨fE,rfl⟩:=zY.1 hc;refine⟨?_,fun h=>by omega,fun c' _ hc'=>?_,by have:=h.2.2.2;omega⟩
 ·have:=h.1;rw[N4 fE,tj,ao hs]at this;exact this
 ·rw[vV,hc]at hc';injection hc' with hc';rw[hc']
theorem sB.put{l:al}{i:Nat}{W_:eH}{prev:Bool}{c:UInt8}(h:sB l i W_ prev)(hc:l[i]? =some c)(hs:small c≠0)(hp:prev=false):sB l (i+1) (W_++[uK (l.drop i)]) (decide (small c≠0)):=by
 obtain⟨fE,rfl⟩:=zY.1 hc;refine⟨?_,fun h=>by omega,fun c' _ hc'=>?_,by have:=h.2.2.2;simp;omega⟩
 ·have:=h.1;rw[N4 fE,tj,aw (by simp[hs,hp])]at this;rw[←this,bV,ox hs,N4 fE];rfl
 ·rw[vV,hc]at hc';injection hc' with hc';rw[hc']
theorem sB.done{l:al}{W_:eH}{prev:Bool}(h:sB l l.length W_ prev):W_=nf l:=by
 have:=h.1;rw[BJ]at this;rw[aau,←this];simp[tj]
def rN(l:al)(i m:Nat)(R:al):Prop:=R=((l.drop i).take m).map small∧∀x∈(l.drop i).take m,small x≠0
theorem rN.more{l:al}{i m:Nat}{R:al}{c:UInt8}(h:rN l i m R)(hc:l[i+m]? =some c)(hs:small c≠0):rN l i (m+1) (R++[small c]):=by
 have e:(l.drop i).take (m+1)=(l.drop i).take m++[c]:=by
  rw[sM,k_7,hc];rfl
 refine⟨by rw[e,jb,←h.1];rfl,fun x hx=>?_⟩;rw[e]at hx;rcases dz.1 hx with hx|hx
 ·exact h.2 x hx
 ·simp at hx;subst hx;exact hs
theorem rN.len{l:al}{i m:Nat}{R:al}(h:rN l i m R)(hm:i+m≤l.length):R.length=m:=by
 rw[h.1];simp;omega
theorem rN.stop{l:al}{i m:Nat}{R:al}(h:rN l i m R)(hm:m≤24)(hi:i+m≤l.length)(hs:i+m=l.length∨(∃c,l[i+m]? =some c∧small c=0)∨m=24):R=uK (l.drop i):=by
 rw[h.1,PJ _ m hm h.2];rcases hs with h|⟨c,h1,h2⟩|h
 ·left;simp;omega
 ·right;left;exact⟨c,by rw[k_7];exact h1,h2⟩
 ·right;right;exact h
theorem sB.test{l:al}{k:Nat}{W_:eH}{prev:Bool}(h:sB l k W_ prev)(hk:k≤l.length):prev=decide (0<k∧small (l.getD (k-1) 0)≠0):=by
 rcases wQ k with h0|h0
 ·rw[h.2.1 h0,nT aa]
 ·have fE:k-1<l.length:=by omega
  rw[h.2.2.1 (l.getD (k-1) 0) h0 (by rw[fm fE];simp[List.getD,fm fE])];simp[h0]
theorem O6:∀c:UInt8,small (small c)=small c:=by
 have:∀x:Fin 256,small (small (UInt8.ofNat x.val))=small (UInt8.ofNat x.val):=by decide+kernel
 intro c;have:=this ⟨c.toNat,c.toNat_lt⟩;simpa using this
def TN(t:al):Prop:=∀c∈t,small c≠0∧small c=c
def Jp(t:al):Prop:=1≤t.length∧t.length≤24∧TN t
theorem UH{row:al}(h:TN row):∀t∈emit row,Jp t:=by
 intro t ht;unfold emit at ht;split at ht
 ·cases ht
 ·rename_i r8;simp at ht;subst ht;have:=List.length_pos_iff.2 r8;exact⟨bR,bR,fun c hc=>h c (lX hc)⟩
theorem TD:∀(l:al) (ws:eH) (row:al),(∀t∈ws,Jp t)→TN row→(∀t∈(l.foldl mz (ws,row)).1,Jp t)∧TN (l.foldl mz (ws,row)).2
 |[],ws,row,h1,h2=>⟨h1,h2⟩
 |c::r,ws,row,h1,h2=>by
  rw[List.foldl_cons];by_cases hc:small c=0
  case neg=>
   rw[Jk hc];refine TD r ws _ h1 fun x hx=>?_;rcases dz.1 hx with hx|hx
   ·exact h2 x hx
   ·simp only[lF]at hx;subst hx;rw[O6];exact⟨hc,rfl⟩
  case pos=>
   rw[PL hc];refine TD r _ [] (fun t ht=>?_) (fun x hx=>by cases hx);rcases dz.1 ht with ht|ht
   ·exact h1 t ht
   ·exact UH h2 t ht
theorem Lh{l t:al}(h:t∈nf l):Jp t:=by
 have:=TD l [] [] ak (fun x hx=>by cases hx);rcases dz.1 h with h|h
 ·exact this.1 t h
 ·exact UH this.2 t h
section
theorem vX:type_of% @wpIn_mono:= @wpIn_mono
abbrev FR(l:Nat):Fence:=Fence.wide.inRound l
def Hc(o:Oper):Prop:=∀c,o.op≠ .defer c
def AD(o:Oper):Bool:=match o.op with| .defer _=>false|_=>true
theorem Ot{o:Oper}(h:AD o=true):Hc o:=fun c e=>by unfold AD at h;rw[e]at h;cases h
theorem IL{l:sA}(h:l.all AD=true):∀o∈l,Hc o:=fun o ho=>Ot (x8.1 h o ho)
section
variable{P:Program}{l n:Nat}{Q:Exit→Act→World→Prop}
theorem aiD{row:String}{args:Array Value}{w:World}{R:Value→World→Prop}(h:Rows P row args w R):RowsIn (FR l) n P row args w R:=fun c cs _=>
 let ⟨v,w',r,s⟩:=h c cs
 ⟨v,w',r,(show StepsIn (Machine.fenced P Fence.wide) P _ _ from stepsIn_wide.2 s)⟩
theorem VV{o:Oper}{a:Act}{w:World}{K:Act→World→Prop}(hd:Hc o)(h:o.wp P a w K Q):o.wpIn (FR l) n P a w K Q:=by
 refine⟨fun _ _=>trivial,?_⟩;rw[Oper.semAt_eq _ _ _ hd];unfold Oper.wp at h;generalize (execOp a.eval o).run P w=r at*;cases r with
 |ok x w'=>
  cases x<;>simp only[Oper.upon,Oper.uponIn]at h⊢<;>first
   |exact h
   |exact⟨fun h=>by simp[Fence.inRound,Fence.wide]at h,CallsIn.inRound l (callsIn_wide.2 (Ks h fun e w'' he=>by cases e<;>exact he))⟩
   |exact⟨fun h=>by simp[Fence.inRound,Fence.wide]at h,aiD h⟩
 |halt x w'=>cases x<;>simp only[Oper.upon,Oper.uponIn]at h⊢<;>exact h
theorem KA(hQ:¬LetsOut Q){ops:Array Oper}:∀(sS:sA) (a:Act) (w:World),(∀o∈sS,Hc o)→wpList P ops Q sS a w→wpListIn (FR l) n P ops Q sS a w
 |[],_,_,_,h=>h
 |o::r,a,w,hd,h=>by
  unfold wpList at h;unfold wpListIn;split at h
  ·rename_i hw;rw[ao hw];rcases h with h|h
   ·exact Oper.wpIn_mono (fun a w h=>KA hQ r a w (fun o ho=>hd o (lk _ ho)) h) (VV (hd o rj) h)
   ·exact absurd h.2 hQ
  ·rename_i hw;rw[aw hw];exact⟨fun _ _=>trivial,KA hQ r _ w (fun o ho=>hd o (lk _ ho)) h⟩
theorem Js(hQ:¬LetsOut Q){ops:Array Oper}{md:Region.Mode}(hd:∀o∈ops,Hc o):∀(fuel:Nat) (li:Array Bool) (a:Act) (w:World),wpAny P md ops Q fuel li a w→wpAnyIn (FR l) n P md ops Q fuel li a w
 |0,_,_,_,h=>h
 |fuel+1,li,a,w,h=>by
  refine⟨h.1,fun i hi=>?_⟩;have h:=h.2 i hi;unfold wpOp at h;unfold wpOpIn;cases ho:ops[i]? with
  |none=>
   simp only[ho]at h⊢;exact Js hQ hd fuel _ a w h
  |some o=>
   simp only[ho]at h⊢;have hdo:Hc o:=hd o (Array.mem_of_getElem? ho);by_cases hw:Region.wanted o (yielded ops a.tmps)=true
   ·rw[ao hw]at h⊢;rcases h with h|h
    ·exact Oper.wpIn_mono (fun a w h=>Js hQ hd fuel _ a w h) (VV hdo h)
    ·exact absurd h.2 hQ
   ·rw[aw hw]at h⊢;exact⟨fun _ _=>trivial,Js hQ hd fuel _ _ w h⟩
end
def NX(C:Cx)(Q:Fr→aP→Prop):Exit→Act→World→Prop
 | .normal,a,w=>∃fr L,pN C.N fr a∧SL C.B C.w0 L w∧Q fr L
 |_,_,_=>False
def NQ(Q:Fr→aP→Prop):Exit→Fr→aP→Prop
 | .normal,fr,L=>Q fr L
 |_,_,_=>False
def VR(C:Cx)(l n:Nat)(c:Code)(Q:Fr→aP→Prop)(fr:Fr)(L:aP):Prop:=∀a w,pN C.N fr a→SL C.B C.w0 L w→c.wpIn (FR l) n C.P (NX C Q) a w
section
variable{C:Cx}{l n:Nat}{Q:Fr→aP→Prop}{fr:Fr}{L S:aP}{x y:Code}
theorem Vu:∀(e:Exit) (a:Act) (w:World),lift C (NQ Q) e a w→NX C Q e a w:=fun e a w ⟨fr,L,ha,hs,hq⟩=>by
 cases e<;>first|exact⟨fr,L,ha,hs,hq⟩|exact hq.elim
theorem ah6:¬LetsOut (lift C (NQ Q)):=fun⟨_,_,_,_,_,_,h⟩=>h
theorem adC:¬LetsOut (NoPanic (lift C (NQ Q))):=fun⟨_,_,_,_,_,_,h⟩=>h
theorem Le(h:VR C l n x (fun fr L=>VR C l n y Q fr L) fr L):VR C l n (.seq x y) Q fr L:=fun a w ha hs=>
 wpIn_seq (vX (h a w ha hs) fun e a w hq=>by
  cases e<;>first|exact hq.elim|(obtain⟨fr,L,ha,hs,hq⟩:=hq;exact hq a w ha hs))
theorem FW{id:Nat}(h:VR C l n x Q fr L):VR C l n (.block id x) Q fr L:=fun a w ha hs=>
 wpIn_block (vX (h a w ha hs) fun e a w hq=>by
  cases e<;>first|exact hq.elim|exact hq)
theorem nc{id:Nat}{sS:sA}(hd:sS.all AD=true)(h:VL C sS.toArray (NQ Q) sS fr L):VR C l n (.region id sS.toArray false) Q fr L:=fun a w ha hs=>
 vX (wpIn_region_lit (KA ah6 sS a w (IL hd) (h a w ha hs))) Vu
theorem ajq{id:Nat}{sS:sA}(hd:sS.all AD=true)(hm:C.P.follows .mixedOrders=true)(hS:S.Sublist L)(h:VH C sS.toArray S (NQ Q) sS.toArray.size (Array.replicate sS.toArray.size false) fr L):VR C l n (.region id sS.toArray true) Q fr L:=fun a w ha hs=>
 vX (wpIn_region_any hm (Js adC (fun o ho=>IL hd o (by simpa using ho)) _ _ a _ (wpAny_of_held _ _ _ _ (h a _ ha (hs.drewN 1) ((hs.drewN 1).sub hS))))) fun e a w h=>Vu e a w (NoPanic.imp e a w h)
theorem nq(h:Q fr L):NQ Q .normal fr L:=h
end
def mark(D:Nat):Deferred:={target:=.collected D,args:= #[]}
theorem put_defers(a:Act)(ds:List Deferred)(d:Option Tmp)(v:Value):({a with defers:=a.defers++ds}:Act).put d v={a.put d v with defers:=(a.put d v).defers++ds}:=by cases d<;>rfl
theorem lG{P:Program}{ops:Array Oper}{Q:Exit→Act→World→Prop}(ds:List Deferred):∀(sS:sA) (a:Act) (w:World),wpList P ops Q sS a w→
  wpList P ops (fun e a' w'=>∃a0:Act,a'={a0 with defers:=a0.defers++ds}∧Q e a0 w') sS {a with defers:=a.defers++ds} w
 |[],a,w,h=>⟨a,rfl,h⟩
 |o::r,a,w,h=>by
  unfold wpList at h⊢;by_cases hw:Region.wanted o (yielded ops a.tmps)=true
  ·rw[ao hw]at h;rw[ao (show Region.wanted o (yielded ops ({a with defers:=a.defers++ds}:Act).tmps)=true from hw)];rcases h with h|⟨h1,a1,w1,h2⟩
   ·refine .inl ?_;have he:({a with defers:=a.defers++ds}:Act).eval=a.eval:=rfl;unfold Oper.wp at h⊢;rw[he];generalize (execOp a.eval o).run P w=res at*;cases res with
    |ok x w'=>
     cases x<;>simp only[Oper.upon]at h⊢<;>first
      |(rw[put_defers];exact lG ds r _ _ h)
      |(
       refine Ks h fun e w'' he=>?_;cases e<;>dsimp only at he⊢<;>first
        |(rw[put_defers];exact lG ds r _ _ he)
        |exact⟨_,rfl,he⟩
        |(obtain⟨a1,w1,h2⟩:=he;exact⟨_,w1,a1,rfl,h2⟩))
      |exact Rows.mono h fun v w'' he=>by rw[put_defers];exact lG ds r _ _ he
      |(have h2:=lG ds r _ _ h;rw[←put_defers]at h2;exact h2)
    |halt x w'=>cases x<;>simp only[Oper.upon]at h⊢<;>first|exact⟨_,rfl,h⟩|exact h
   ·exact .inr ⟨h1,_,w1,a1,rfl,h2⟩
  ·rw[aw hw]at h;rw[aw (show¬Region.wanted o (yielded ops ({a with defers:=a.defers++ds}:Act).tmps)=true from hw),put_defers];exact lG ds r _ _ h
def VM(C:Cx)(D:Nat)(c:Code)(QQ:Exit→Act→World→Prop)(fr:Fr)(L:aP):Prop:=∀a w,a.defers=[mark D]→pN C.N fr {a with defers:=[]}→SL C.B C.w0 L w→c.wp C.P QQ a w
section
variable{C:Cx}{D:Nat}{QQ:Exit→Act→World→Prop}{fr:Fr}{L L':aP}{x y:Code}
theorem afR{id:Nat}{sS:sA}(h:VL C sS.toArray (NQ fun fr L=>VM C D y QQ fr L) sS fr L):VM C D (.seq (.region id sS.toArray false) y) QQ fr L:=fun a w hd ha hs=>by
 have h1:=lG [mark D] sS _ w (h {a with defers:=[]} w ha hs);rw[show({({a with defers:=[]}:Act)with defers:=({a with defers:=[]}:Act).defers++[mark D]}:Act)=a by rw[←hd];rfl]at h1;refine wp_seq (ye (wp_region_lit h1) fun e a' w' hq=>?_);obtain⟨a0,rfl,jC,L',zN,BA,hq⟩:=hq;cases e<;>first
  |exact hq.elim
  |refine hq _ w' (by simp[zN.defers]) ?_ BA
   have e0:({({a0 with defers:=a0.defers++[mark D]}:Act)with defers:=[]}:Act)=a0:=by rw[←zN.defers]
   rw[e0];exact zN
def FG(C:Cx)(fn:Func)(R:qI):Exit→Act→World→Prop:=bodyPostM Fence.wide 8 C.P fn fun e w'=>∃v L',e= .returned v∧R v L'∧SL C.B C.w0 L' w'
def VG(C:Cx)(c:Code)(QQ:Exit→Act→World→Prop)(fr:Fr)(L:aP):Prop:=∀a w,pN C.N fr a→SL C.B C.w0 L w→c.wp C.P QQ a w
def TG(C:Cx)(y:Code)(QQ:Exit→Act→World→Prop):Exit→Fr→aP→Prop
 | .normal,fr,L=>VG C y QQ fr L
 |e,fr,L=>∀a w,pN C.N fr a→SL C.B C.w0 L w→QQ e a w
theorem qE(h:VC C x (TG C y QQ) fr L):VG C (.seq x y) QQ fr L:=fun a w ha hs=>
 wp_seq (ye (h a w ha hs) fun e a w ⟨fr,L,ha,hs,hq⟩=>by
  cases e<;>exact hq a w ha hs)
theorem lB(h:VG C y QQ fr L):TG C y QQ .normal fr L:=h
theorem anv{fn:Func}{R:qI}{P:Program}{B N:Nat}{w0:World}{y:Code}(hN:fn.ntmps=N)(h:Cp P fn R .ret fr L):TG ⟨P,N,B,w0⟩ y (FG ⟨P,N,B,w0⟩ fn R) .ret fr L:=fun a w ha hs=>by
 subst hN;obtain⟨v,L',h1,h2,h3⟩:=h B w0 a w ha hs;show LeavesInM _ _ _ _ _ _ a.defers _ _;rw[ha.defers];exact⟨v,h1,v,L',rfl,h2,h3⟩
theorem SL.afF{B:Nat}{w0 w:World}(h:SL B w0 (.obj D (.deferred (some []))::L) w):SL B w0 L (w.putObj D (.deferred none)):=
 (h.K9 (c':=.obj D (.deferred none)) (grownBy_putObj' w D _) ⟨h.head.1,World.putObj_heap_same (k_3.1 h.head.2).1⟩ (.inr (.inl rfl))).tail
theorem afQ{fn:Func}{R:qI}{P:Program}{B N:Nat}{w0:World}(hN:fn.ntmps=N)(hp:L.Perm (.obj D (.deferred (some []))::L'))(h:Cp P fn R .ret fr L'):VM ⟨P,N,B,w0⟩ D .ret (FG ⟨P,N,B,w0⟩ fn R) fr L:=fun a w hd ha hs=>by
 subst hN;have BA:=hs.perm hp;obtain⟨v,L'',h1,h2,h3⟩:=h B w0 _ _ ha BA.afF;refine wp_ret ?_;show LeavesInM _ _ _ _ _ _ a.defers _ _;rw[hd];exact⟨ak,.inl ⟨D,_,rfl,run_takeDeferred BA.head.2,v,h1,v,L'',rfl,h2,h3⟩⟩
theorem xS{P:Program}{B:Nat}{w0:World}{f:FuncId}{fn:Func}{c:Code}{args:cV}{R:qI}(hf:P.funcs[f]? =some fn)(N:Nat)(hN:fn.ntmps=N)(hb:fn.body=some c)(hl:Nat.ble args.length N=true)(fr0:Fr)(hi:Ini N args fr0)(h:VG ⟨P,N,B,w0⟩ c (FG ⟨P,N,B,w0⟩ fn R) fr0 L):dL P B w0 f args L R:=fun w hw=>by
 have hl:=Nat.le_of_ble_eq_true hl;subst hN;refine callsIn_wide.1 (callsIn_of_wp_marks (n:=8) hf hb trivial (wpIn_wide.2 (h _ w ⟨rfl,?_,fun t v ht=>?_⟩ hw)) rfl)
 ·simp;omega
 ·obtain⟨h1,h2⟩:=hi.look t v ht;simp only[wR];by_cases fE:t<args.length
  ·rw[Array.getElem?_append_left Hq];simp[fE]at h2;simp[fE,h2]
  ·rw[Array.getElem?_append_right Hq];have h3:args[t]? =none:=zX aa;simp[h3]at h2;subst h2;simp;rw[Array.getElem?_replicate,ao aa]
end
end
theorem NW:type_of% @decide_eq_true_eq:= @decide_eq_true_eq
theorem IC:type_of% @List.sum_cons:= @List.sum_cons
def Oj(f:Nat→List cm)(n:Nat)(s:cm):bf:=(List.range n).filter fun q=>decide (s∈f q)
theorem adp(f:Nat→List cm)(n:Nat)(s:cm):Oj f (n+1) s=Oj f n s++(if s∈f n then [n] else []):=by
 unfold Oj;rw[lj,Eo];congr 1;by_cases h:s∈f n<;>simp[h]
theorem RY{f:Nat→List cm}{n:Nat}{s:cm}:Oj f n s≠[]↔∃q,q<n∧s∈f q:=by
 unfold Oj;rw[Ne,List.filter_eq_nil_iff];simp only[kz,NW];constructor
 ·intro h;refine bH fun h2=>h fun q hq hs=>h2 ⟨q,hq,hs⟩
 ·rintro⟨q,h1,h2⟩ h3;exact h3 q h1 h2
def rQ(f:Nat→List cm)(n:Nat):List cm:=sm ((List.range n).flatMap f)
def Ju(f:Nat→List cm)(n:Nat):List (bf):=(rQ f n).map (Oj f n)
structure zd(f:Nat→List cm)(i:Nat)(part:List cm)(D:List B5):Prop where
 ids:∀s,vO s D=Oj f i s++(if s∈part then [i] else [])
 keys:∀s,s∈D.map (·.1)↔vO s D≠[]
 nd:(D.map (·.1)).Nodup
theorem zd.start(f:Nat→List cm):zd f 0 [] []:=⟨fun s=>by simp[vO,Oj],fun s=>by simp[vO],ak⟩
theorem zd.step{f:Nat→List cm}{i j:Nat}{T:List cm}{D:List B5}(h:zd f i (T.take j) D)(hn:T.Nodup)(hj:j<T.length)(A:bj)(c:Nat):zd f i (T.take (j+1)) (G9 (T.getD j []) A c i D):=by
 have hg:T.getD j []=T[j]:=by simp[List.getD,fm hj]
 have tX:T.take (j+1)=T.take j++[T[j]]:=by rw[sM,fm hj];rfl
 have asE:T[j]∉T.take j:=by
  have h2:(T.take (j+1)).Nodup:=hn.sublist (Kv _ _);rw[tX,List.nodup_append]at h2;exact fun q=>h2.2.2 _ q _ ak rfl
 have hm:∀s,s∈T.take (j+1)↔s∈T.take j∨s=T[j]:=fun s=>by rw[tX,dz,lF]
 rw[hg];refine⟨fun s=>?_,fun s=>?_,Ou _ _ _ _ _ h.nd⟩
 ·rw[Q8,h.ids s];by_cases e:s=T[j]
  ·rw[ao e,aw (fun q=>asE (e▸q)),ao ((hm s).2 (.inr e)),gk]
  ·rw[aw e];by_cases q:s∈T.take j
   ·rw[ao q,ao ((hm s).2 (.inl q))]
   ·rw[aw q,aw (fun k=>((hm s).1 k).elim q e)]
 ·rw[Kw,Q8,h.keys s];by_cases e:s=T[j]
  ·simp[e]
  ·simp[e]
theorem LS.nd{l:List cm}(h:LS l):l.Nodup:=List.Pairwise.imp (fun {a b} (q:te a b) (e:a=b)=>fU a (by rw[←e]at q;exact q)) h
theorem zd.next{f:Nat→List cm}{i:Nat}{D:List B5}(h:zd f i (f i) D):zd f (i+1) [] D:=
 ⟨fun s=>by rw[h.ids s,adp];simp,h.keys,h.nd⟩
theorem zd.done{f:Nat→List cm}{n:Nat}{D:List B5}(h:zd f n [] D):sm (D.map (·.1))=rQ f n∧∀s,vO s D=Oj f n s:=by
 have hi:∀s,vO s D=Oj f n s:=fun s=>by rw[h.ids s];simp
 refine⟨vh (yJ _) fun x=>?_,hi⟩;rw[rQ,ry,h.keys,hi,RY,List.mem_flatMap];simp only[kz]
abbrev rG:=bj×Nat×bf
abbrev jM(e:rG):Value:=.slice e.1 e.2.2.length e.2.1
abbrev jL(e:rG):Ch:=.own 3 1 e.1 e.2.2.length e.2.1 (bx e.2.2)
def PV(t:cm):List B5→rG
 |[]=>(none,0,[])
 |e::r=>if t=e.1 then e.2 else PV t r
theorem adi(t:cm):∀D:List B5,((nu t (lg D) 0).map (·.2)).getD (.slice none 0 0)=jM (PV t D)
 |[]=>rfl
 |e::r=>by
  show((nu t ((e.1,Q7 e)::lg r) 0).map (·.2)).getD _=_;unfold nu PV;by_cases h:t=e.1
  ·rw[ao h,ao h];rfl
  ·rw[aw h,aw h,uS,←adi t r];cases nu t (lg r) 0<;>rfl
theorem UT(t:cm):∀D:List B5,(PV t D).2.2=vO t D
 |[]=>rfl
 |e::r=>by
  unfold PV vO;split
  ·rfl
  ·exact UT t r
theorem OY:∀D:List B5,(D.map (·.1)).Nodup→D.map tM=(D.map (·.1)).map fun t=>jL (PV t D)
 |[],_=>rfl
 |e::r,h=>by
  rw[kA,Ep]at h;rw[kA,kA,kA];congr 1
  ·unfold PV;rw[ao rfl];rfl
  ·rw[OY r h.2];apply r9;intro t ht;have r8:¬t=e.1:=fun q=>h.1 (q▸ht);show _=jL (PV t (e::r));rw[PV,aw r8]
theorem ZD{D:List B5}(h:(D.map (·.1)).Nodup):(D.map tM).Perm (((sm (D.map (·.1))).map (PV · D)).map jL):=by
 have hp:(D.map (·.1)).Perm (sm (D.map (·.1))):=(List.perm_ext_iff_of_nodup h (yJ _).nd).2 fun x=>(ry _ x).symm;have e:((sm (D.map (·.1))).map (PV · D)).map jL=(sm (D.map (·.1))).map (fun t=>jL (PV t D)):=vA;rw[OY D h,e];exact hp.map _
theorem aiL{w:World}(P:aP){D:List B5}{xs:bf}{o:Obj}{R:aP}(h:(D.map tM).Perm (.own 3 1 A xs.length c (bx xs)::R)∨(A=none∧c=0∧xs=[]∧R=D.map tM))(hw:SL B w0 (P++ .obj g o::(D.map tM++F)) w):SL B w0 (.own 3 1 A xs.length c (bx xs)::(P++ .obj g o::(R++F))) w:=by
 rcases h with h|⟨rfl,rfl,rfl,rfl⟩
 ·refine hw.perm ?_;refine(List.Perm.append_left P ((((h.append_right F).cons (Ch.obj g o)).trans (.swap _ _ _)))).trans ?_;exact yg
 ·exact hw.CF 3 1 none
theorem ace(P:aP){D':List B5}{o o':Obj}{R:aP}{m:Nat}{xs ys:cV}(h:(D'.map tM).Perm (.own 3 1 A m c ys::R))(hx:xs=ys)(ho:o=o'):Wk (.own 3 1 A m c xs::(P++ .obj g o::(R++F))) (P++ .obj g o'::(D'.map tM++F)):=by
 subst hx;subst ho;refine .dD (List.Perm.symm ?_);refine(List.Perm.append_left P ((((h.append_right F).cons (Ch.obj g o)).trans (.swap _ _ _)))).trans ?_;exact yg
def trm(x:aK):List cm:=sn x.2.2.2 x.2.2.1
theorem aje(x:aK):(trm x).length≤x.w:=by
 have h1:=uC (E3 x.2.2.2 x.2.2.1);have h2:=E4 x.2.2.2 x.2.2.1;unfold trm sn aK.w;omega
theorem afu{x:aK}{t:cm}(h:t∈trm x):t.length≤25:=by
 rcases dz.1 ((ry _ _).1 h)with h|h
 ·have:=(Lh h).2.1;omega
 ·obtain⟨u,hu,rfl⟩:=pM.1 h;have:=(Lh hu).2.1;simp;omega
def Ba(L:List aK)(i:Nat):List cm:=trm (recAt L i)
theorem Ud{L:List aK}(hb:aJ B w0 F 4 (.slice A L.length c) L.length (di L))(hw:dU L≤1048576):
  a_ B w0 49 [.slice A L.length c] F (fun r K=>∃(A1:bj) (c1:Nat) (A2:bj) (c2:Nat) (LL:List rG),r= .agg [.slice A1 (rQ (Ba L) L.length).length c1,.slice A2 (rQ (Ba L) L.length).length c2].toArray∧
   K= .own 9 1 A1 (rQ (Ba L) L.length).length c1 (strs (rQ (Ba L) L.length)):: .own 53 1 A2 (rQ (Ba L) L.length).length c2 (LL.map jM)::(LL.map jL++F)∧LL.map (·.2.2)=Ju (Ba L) L.length):=by
 have wL:L.length≤dU L:=by
  clear hb hw;induction L with
  |nil=>simp[dU]
  |cons x r ih=>simp only[dU,kA,IC,ef]at ih⊢;unfold aK.w at*;omega
 refine fw func49 60 [0] ?_;refine be ?_;refine bc fun g2=>?_;refine b8 ?_;refine cC (MY) fun g11=>?_;refine cJ ?_;refine aE (fun zf zL zm=>∃(i:Nat) (D:List B5),(i≤L.length∧zd (Ba L) i [] D∧D.length≤dU (L.take i))∧L.length-i=zm∧Sub zf [(2,br g2),(3,.map (some g11)),(12,.slice A L.length c),(13,ah L.length),(14,ah i)]∧Wk zL (.bD g2 90 [.slice none 0 0,.slice none 0 0]:: .obj g11 (VE (lg D))::(D.map tM++F))) _ ⟨0,[],⟨bT _,zd.start _,ak⟩,rfl,bp,.swap (.refl _)⟩ ?_;rintro _ _ _ ⟨i,D,⟨hi,hG,hDl⟩,rfl,hs,hp⟩;refine aU hs hp ?_;clear hs hp;refine bz ?_;refine aj (fun jG=>?_) fun jG=>?_
 ·obtain⟨tm,lv,src,tw,hx⟩:∃tm lv src tw,recAt L i=(tm,lv,src,tw):=⟨_,_,_,_,rfl⟩
  have p9:aJ B w0 (D.map tM++F) 4 (.slice A L.length c) L.length (di L):=hb.mono (gy _ _);have RA:=oL (L:=L) (k:=i) aa;rw[hx]at RA;have hws:=rF (L:=L) (k:=i) aa;have CD:=qo L (i+1);have hrw:(recAt L i).w=16+src.length+tw.length:=by rw[hx];rfl
  obtain⟨T,hT⟩:=cN (Ba L i);have hTe:T=sn tw src:=by rw[hT];unfold Ba trm;rw[hx]
  have hTl:T.length≤src.length+tw.length:=by
   have h1:=uC (E3 tw src);have h2:=E4 tw src;rw[hTe];unfold sn;omega
  have hTn:T.Nodup:=by rw[hTe];exact(yJ _).nd
  have htd:=fun F h1 h2=> @ai0 B w0 F (.int .u64 tm) (.int .u8 (lv.toNat:Int)) tw src h1 h2;rw[←hTe]at htd;refine bJ ?_;refine ab (dI 4 ag rfl aB aa [.int .u64 tm,.int .u8 (lv.toNat:Int),.string ⟨src.toArray⟩,.string ⟨tw.toArray⟩] RA rfl) rfl ?_;refine bc fun g5=>?_;refine bL ?_;refine ay rfl (htd _ aa aa) fun G_ JI=>?_;refine bG ?_;refine aE (fun zf zL zm=>∃(j:Nat) (D2:List B5),(j≤T.length∧zd (Ba L) i (T.take j) D2∧D2.length≤dU (L.take i)+j)∧T.length-j=zm∧Sub zf [(2,br g2),(3,.map (some g11)),(4,ah i),(12,.slice A L.length c),(13,ah L.length),(14,ah i),(20,.slice G_ T.length JI),(21,ah T.length),(22,ah j)]∧Wk zL (.own 9 1 G_ T.length JI (strs T):: .bD g5 62 [.int .u64 tm,.int .u8 (lv.toNat:Int),.string ⟨src.toArray⟩,.string ⟨tw.toArray⟩]:: .bD g2 90 [.slice none 0 0,.slice none 0 0]:: .obj g11 (VE (lg D2))::(D2.map tM++F))) _ ⟨0,D,⟨bT _,by rw[z_];exact hG,aa⟩,rfl,bp,.refl _⟩ ?_;rintro _ _ _ ⟨j,D2,⟨hj,hG2,atB⟩,rfl,hs,hp⟩;refine aU hs hp ?_;clear hs hp;refine bz ?_;refine aj (fun nM=>?_) fun nM=>?_
  ·refine bL ?_;refine ab (gQ (b:=T) (j:=j) ag rfl aB aa) rfl ?_;refine bF ?_;obtain⟨AG,cG,RG,hGv,hGs,hGb⟩:=U0 (T.getD j []) D2;have asq:=hG2.ids (T.getD j []);have hil:(vO (T.getD j []) D2).length≤i+1:=by
    rw[asq];have:(Oj (Ba L) i (T.getD j [])).length≤i:=by unfold Oj;exact jd (BH _ _) ak
    rw[aY];split<;>simp only[ef,r_]<;>omega
   refine arf (fun w hw=>aiL [.own 9 1 G_ T.length JI (strs T),.bD g5 62 [.int .u64 tm,.int .u8 (lv.toNat:Int),.string ⟨src.toArray⟩,.string ⟨tw.toArray⟩],.bD g2 90 [.slice none 0 0,.slice none 0 0]] hGs hw) ?_;refine bG ?_;refine ab (Dz (zv:=(.slice none 0 0)) underlying140 underlying9 (W7 ag) rfl rfl aV) rfl ?_;rw[hGv];refine aF ?_;refine dE fJ rfl rfl rfl rfl rfl (fun _=>rfl) aV aa aa ?_;intro _ PO c33;refine kJ (Gz underlying140 underlying9 rfl rfl rfl aV) ?_;refine bL ?_;refine av ⟨_,aa,j+1,G9 (T.getD j []) PO c33 i D2,⟨aa,hG2.step hTn aa PO c33,by have:=afI (T.getD j []) PO c33 i D2;omega⟩,rfl,bp,ace [_,_,_] (hGb PO c33 i) sD (by rw[V3])⟩
  ·obtain rfl:j=T.length:=by omega
   rw[jU,hT]at hG2;have hGn:=hG2.next;refine bA ?_;refine av ⟨_,aa,i+1,D2,⟨aa,hGn,aa⟩,rfl,bp,.skip (.skip (.refl _))⟩
 ·obtain rfl:i=L.length:=by omega
  rw[jU]at hDl;obtain⟨hd1,Ym⟩:=hG.done;have ast:∀p∈lg D,p.1.length≤1000000000:=fun p hp=>by
   obtain⟨e,he,rfl⟩:=pM.1 hp;have h1:=(hG.keys e.1).1 (pM.2 ⟨e,he,rfl⟩);rw[Ym,RY]at h1;obtain⟨q,_,h2⟩:=h1;have:=afu h2;show e.1.length≤_;omega
  have wK:(lg D).map (·.1)=D.map (·.1):=by simp[lg]
  have GL:(lg D).length=D.length:=by simp[lg]
  have hrp:=ZD hG.nd;obtain⟨T0,hT0⟩:=cN (sm (D.map (·.1)));have atC:T0.length≤D.length:=by
   have:=uC (D.map (·.1));rw[hT0];simpa using this
  have hso:=fun F g b=> @aeG B w0 F (lg D) g b (by rw[wK];exact hG.nd) aa ast;rw[wK,←hT0]at hso;rw[←hT0]at hrp hd1;rw[←hd1];refine bL ?_;refine bc fun g8=>?_;refine bz ?_;refine aX arK rfl (ami g11) rfl ?_;rintro _ _ ⟨g37,rfl,cA⟩;obtain rfl:=cA.symm;refine ay rfl ((hso _ g37 g11).perm ((fR (BN (fR (fR (.refl _))))))) fun LN PR=>?_;refine bG ?_;refine aZ 9 1 none ?_;refine aZ 53 1 none ?_;refine aE (fun zf zL zm=>∃(k:Nat) (B1:bj) (b1:Nat) (B2:bj) (b2:Nat),(k≤T0.length)∧T0.length-k=zm∧Sub zf [(2,br g2),(3,.map (some g11)),(8,br g8),(38,.slice LN T0.length PR),(39,ah T0.length),(40,ah k)]∧Wk zL (.own 9 1 B1 k b1 (strs (T0.take k)):: .own 53 1 B2 k b2 ((T0.take k).map fun t=>jM (PV t D)):: .bD g8 90 [.slice B1 k b1,.slice B2 k b2]:: .own 9 1 LN T0.length PR (strs T0):: .bD g37 140 [.map (some g11)]:: .bD g2 90 [.slice none 0 0,.slice none 0 0]:: .obj g11 (VE (lg D))::(D.map tM++F))) _ ⟨0,none,0,none,0,bT _,rfl,bp,(gl (ed (tx (ed (ed (gl (ed (.refl _))))))))⟩ ?_;rintro _ _ _ ⟨k,B1,b1,B2,b2,hk,rfl,hs,hp⟩;refine aU hs hp ?_;clear hs hp;refine bz ?_;refine aj (fun zM=>?_) fun zM=>?_
  ·have tX:T0.take (k+1)=T0.take k++[T0.getD k []]:=by
    rw[sM,fm (show k<T0.length by omega)];simp[List.getD,fm (show k<T0.length by omega)]
   refine bL ?_;refine ab (gQ (b:=T0) (j:=k) ag rfl aB aa) rfl ?_;refine bJ ?_;refine dE Fp rfl rfl rfl rfl rfl (fun _=>rfl) aV aa aa ?_;intro _ A48 c48;refine bQ ?_;refine ab (Dz (zv:=(.slice none 0 0)) underlying140 underlying9 (W7 ag) rfl rfl aV) rfl ?_;rw[adi];refine dE aks rfl rfl rfl rfl rfl (fun _=>rfl) aV aa aa ?_;intro _ A56 c56;refine be ?_;refine ve [2,3,8,38,39,40] ?_;refine bz ?_;refine av ⟨_,aa,k+1,A48,c48,A56,c56,aa,rfl,bp,ax rfl (by rw[tX];simp[strs]) (ax rfl (by rw[tX];simp) (.refl _))⟩
  ·obtain rfl:k=T0.length:=by omega
   rw[jU];refine cJ ?_;refine I2 rfl rfl ag aV gC (.cons (.cons (.skip (.skip (.skip (.skip (.skip (.dD (hrp.append_right F))))))))) ?_;exact⟨B1,b1,B2,b2,T0.map (PV · D),rfl,by rw[show(T0.map (PV · D)).map jM=T0.map (fun t=>jM (PV t D)) from vA],by rw[vA,Ju,←hd1];exact r9 fun t _=>(UT t D).trans (Ym t)⟩
def CY(l1 l2:List cm)(k:Nat):Prop:=l1.take k=l2.take k
theorem CY.step{l1 l2:List cm}{k:Nat}(h:CY l1 l2 k)(h1:k<l1.length)(h2:k<l2.length)(he:l1.getD k []=l2.getD k []):CY l1 l2 (k+1):=by
 unfold CY at*;rw[sM,sM,h];congr 1;rw[fm h1,fm h2];simp[List.getD,fm h1,fm h2]at he;rw[he]
theorem CY.all{l1 l2:List cm}{k:Nat}(h:CY l1 l2 k)(h1:¬k<l1.length)(h2:l1.length=l2.length):l1=l2:=by
 unfold CY at h
 rwa [fL aa,fL aa]at h
theorem aoy{P:Prop}(h:P:=by(rw[nT (fun h=>by rw[h]at jF;exact jF rfl)])):P:=h
theorem aoz{P:Prop}(h:P:=by(rw[nT (fun h=>by rw[h]at oc;exact oc rfl)])):P:=h
theorem vn{M N:aP}(h:Wk M N):∀R:aP,Wk (R++M) N
 |[]=>h
 |_::R=>.skip (vn h R)
abbrev Lq:=bj×Nat×List Int
abbrev zQ(e:Lq):Value:=.slice e.1 e.2.2.length e.2.1
abbrev q7:Lq:=(none,0,[])
def l7(B:Nat)(w0:World)(F:aP)(LL:List Lq):Prop:=∀e∈LL,aJ B w0 F 1 (.slice e.1 e.2.2.length e.2.1) e.2.2.length (ints .i64 e.2.2)
theorem l7.cons{LL:List Lq}{q:Ch}(h:l7 B w0 F LL):l7 B w0 (q::F) LL:=fun e he=>(h e he).cons
theorem l7.mono{LL:List Lq}{M:aP}(h:l7 B w0 F LL)(hs:F.Sublist M):l7 B w0 M LL:=fun e he=>(h e he).mono hs
theorem l7.get{LL:List Lq}(h:l7 B w0 F LL){k:Nat}(hk:k<LL.length):aJ B w0 F 1 (.slice (LL.getD k q7).1 (LL.getD k q7).2.2.length (LL.getD k q7).2.1) (LL.getD k q7).2.2.length (ints .i64 (LL.getD k q7).2.2):=h _ (bg hk q7)
theorem amb{LL:List Lq}{k:Nat}(hk:k<LL.length):(LL.map zQ)[k*1]? =some (zQ (LL.getD k q7)):=by
 rw[cE,jr,fm hk];simp[List.getD,fm hk]
theorem aqw{l:List Int}{k:Nat}(h:k<l.length):(ints .i64 l)[k*1]? =some (ah (l.getD k 0)):=by
 rw[cE,ints,jr,fm h];simp[List.getD,fm h]
theorem apw{l l2:List Int}(h1:aJ B w0 F 1 (.slice A l.length c) l.length (ints .i64 l))(h2:aJ B w0 F 1 (.slice A2 l2.length c2) l2.length (ints .i64 l2))(hl:l.length≤9223372036854775807):
  a_ B w0 241 [.slice A l.length c,.slice A2 l2.length c2] F (fun r L=>r= .bool (decide (l=l2))∧L=F):=by
 refine fw func241 26 [0,1] ?_;refine jy ?_;refine aj (fun jF=>?_) fun jF=>?_
 ·refine bJ ?_;exact⟨aoy,rfl⟩
 ·refine cY ?_;refine aE (fun zf zL zm=>∃(k:Nat),(k≤l.length∧l.take k=l2.take k)∧l.length-k=zm∧Sub zf [(0,.slice A l.length c),(1,.slice A2 l2.length c2),(12,ah l.length),(13,ah k)]∧Wk zL (F)) _ ⟨0,⟨bT _,rfl⟩,rfl,bp,.refl _⟩ ?_;rintro _ _ _ ⟨k,⟨hk,heq⟩,rfl,hs,hp⟩;refine aU hs hp ?_;clear hs hp;refine bz ?_;refine aj (fun kg=>?_) fun kg=>?_
  ·refine jy ?_;refine b7 (au ag rfl aB aa (aqw (l:=l) (k:=k) aa)) rfl ?_;refine bF ?_;refine b7 (au ag rfl aB aa (aqw (l:=l2) (k:=k) aa)) rfl ?_;refine bF ?_;refine aj (fun oc=>?_) fun oc=>?_
   ·refine cJ ?_;exact⟨aoz,rfl⟩
   ·refine bL ?_;refine av ⟨_,aa,k+1,⟨aa,by rw[ba aa 0,ba aa 0,heq,show l.getD k 0=l2.getD k 0 by omega]⟩,rfl,bp,.refl _⟩
  ·refine cJ ?_;have e:l=l2:=by
    have:=heq
    rwa [fL aa,fL aa]at this
   exact⟨by rw[ox e],rfl⟩
theorem apx{l l2:List cm}(h1:aJ B w0 F 1 (.slice A l.length c) l.length (strs l))(h2:aJ B w0 F 1 (.slice A2 l2.length c2) l2.length (strs l2))(hl:l.length≤9223372036854775807):
  a_ B w0 239 [.slice A l.length c,.slice A2 l2.length c2] F (fun r L=>r= .bool (decide (l=l2))∧L=F):=by
 refine fw func239 26 [0,1] ?_;refine jy ?_;refine aj (fun jF=>?_) fun jF=>?_
 ·refine bJ ?_;exact⟨aoy,rfl⟩
 ·refine cY ?_;refine aE (fun zf zL zm=>∃(k:Nat),(k≤l.length∧l.take k=l2.take k)∧l.length-k=zm∧Sub zf [(0,.slice A l.length c),(1,.slice A2 l2.length c2),(12,ah l.length),(13,ah k)]∧Wk zL (F)) _ ⟨0,⟨bT _,rfl⟩,rfl,bp,.refl _⟩ ?_;rintro _ _ _ ⟨k,⟨hk,heq⟩,rfl,hs,hp⟩;refine aU hs hp ?_;clear hs hp;refine bz ?_;refine aj (fun kg=>?_) fun kg=>?_
  ·refine jy ?_;refine b7 (gQ (b:=l) (j:=k) ag rfl aB aa) rfl ?_;refine bF ?_;refine b7 (gQ (b:=l2) (j:=k) ag rfl aB aa) rfl ?_;refine bF ?_;refine aj (fun oc=>?_) fun oc=>?_
   ·refine cJ ?_;exact⟨aoz,rfl⟩
   ·refine bL ?_;refine av ⟨_,aa,k+1,⟨aa,by rw[ba aa [],ba aa [],heq,kR.1 oc]⟩,rfl,bp,.refl _⟩
  ·refine cJ ?_;have e:l=l2:=by
    have:=heq
    rwa [fL aa,fL aa]at this
   exact⟨by rw[ox e],rfl⟩
def fT(LL:List Lq):List (List Int):=LL.map (·.2.2)
theorem ac2{L1 L2:List Lq}{k:Nat}(h:(fT L1).take k=(fT L2).take k)(h1:k<L1.length)(h2:k<L2.length)(he:(L1.getD k q7).2.2=(L2.getD k q7).2.2):(fT L1).take (k+1)=(fT L2).take (k+1):=by
 have hg:∀(L:List Lq) (hk:k<L.length),(fT L)[k]? =some (L.getD k q7).2.2:=fun L hk=>by
  rw[fT,jr,fm hk];simp[List.getD,fm hk]
 rw[sM,sM,h,hg L1 h1,hg L2 h2,he]
theorem C7(L:List aK):∀i,i≤L.length→((List.range i).flatMap (Ba L)).length≤dU (L.take i)
 |0,_=>by simp
 |i+1,h=>by
  have ih:=C7 L i aa;have hw:=rF (L:=L) (k:=i) aa;have:=aje (recAt L i);rw[lj,ua,aY,hw];simp only[jJ,List.flatMap_nil,gk];show _+(trm (recAt L i)).length≤_;omega
def Z4(LL:List rG):List Lq:=LL.map fun e=>(e.1,e.2.1,e.2.2.map (fun(n:Nat)=>(n:Int)))
theorem WN(LL:List rG):(Z4 LL).map zQ=LL.map jM:=by
 unfold Z4;rw[vA];apply r9;intro e _;simp[zQ,jM]
theorem CR(LL:List rG):(Z4 LL).length=LL.length:=by simp[Z4]
theorem yP(LL:List rG):fT (Z4 LL)=(LL.map (·.2.2)).map fun l=>l.map (fun(n:Nat)=>(n:Int)):=by
 simp[fT,Z4]
theorem WM{LL:List rG}{L:aP}(h:∀e∈LL,jL e∈L):l7 B w0 L (Z4 LL):=fun e he=>by
 obtain⟨a,ha,rfl⟩:=pM.1 he;have:=aJ.own (B:=B) (w0:=w0) (h a ha);simpa[bx,ints,vA,Function.comp_def]using this
end Go.Proofs.YtaodmbolhoafcaaGreatDoor

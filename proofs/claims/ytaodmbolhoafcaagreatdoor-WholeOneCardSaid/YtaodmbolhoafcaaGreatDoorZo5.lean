/-
  Texts of one proof, joined: part 5. No condition.
-/
import Derived.Test.YtaodmbolhoafcaaGreatDoorZo4
import Derived.MapKept
import Derived.WideMake
import Derived.Test.YtaodmbolhoafcaaGreatDoorProg
import Derived.Shelf.SortM.Plain
import Derived.Shelf.SortM.SortNone
import Derived.Shelf.SlicesG.CompactS
import Derived.Ground.SlgmProg
import Derived.Ground.SlgnProg
import Derived.Sort.OwnSorted
import Derived.Lib.OwnBridge
import Derived.Sort.Walk0
import Derived.Shelf.SlIter.Nil
import Derived.Ground.GgzProg
import Derived.RangeFuncFrom
import Derived.RangeFuncLeaves
import Derived.RangeFuncCalls
import Derived.OrdersIn
open Go.RowKit Go.Proofs.Tryz
namespace Go.Proofs.YtaodmbolhoafcaaGreatDoor
set_option linter.unusedVariables false
set_option linter.unusedSimpArgs false
set_option maxRecDepth 20000
variable{B:Nat}{w0:World}{F:aQ}{A:bj}{c g:Nat}{s:Cs}{A1 A2:bj}{n c1 c2:Nat}{B1 B2:bj}{b1 b2:Nat}
theorem wA{P:Prop}(h:P:=by(exact eU (by first|omega|simp_all))):P:=h
def p9(l:bf):cV:=l.map fun(n:Nat)=>Value.int .u64 (n:Int)
@[simp] theorem akV(l k:bf):p9 (l++k)=p9 l++p9 k:=by simp[p9]
@[simp] theorem akW(l:bf):(p9 l).length=l.length:=by simp[p9]
def zg(a b:Nat):Nat:=(a+b)%18446744073709551616
theorem Xo(a b:Nat):IntKind.u64.wrap ((a:Int)+(b:Int))=((zg a b:Nat):Int):=by
 show((a:Int)+b)%18446744073709551616=_;unfold zg;omega
theorem agp(a b:Nat):zg a b<18446744073709551616:=sX _ aa
def BV:Nat→Nat→Cs→bf×Cs
 |0,_,s=>([],s)
 |k+1,was,s=>if s.e=0 then (zg was (TN s.num)::(BV k (zg was (TN s.num)) s.l7).1,(BV k (zg was (TN s.num)) s.l7).2) else ([],s)
theorem aji{k was:Nat}{s:Cs}(h:¬s.e=0):BV k was s=([],s):=by cases k<;>simp[BV,h]
def lvX(s:Cs):UInt8:=s.byte
def Qd(n:Nat)(s:Cs)(o:al):Nat:=s.eJ.int ((n:Int)-o.length)
def LI(n:Nat)(s:Cs)(o:al):Cs:=s.eJ.bW ((n:Int)-o.length)
def EE(n:Nat)(s:Cs)(o:al):Prop:=(LI n s o).e=0∧(Qd n s o=0∨0<o.length∧o.getD (o.length-1) 0=lvX s)
instance (n:Nat)(s:Cs)(o:List UInt8):Decidable (EE n s o):=inferInstanceAs (Decidable (_∧_))
def LJ(n:Nat)(s:Cs)(o:al):Cs:=if EE n s o then (LI n s o).failed 2 else LI n s o
def G0:Nat→Nat→Cs→al→al×Cs
 |0,_,s,o=>(o,s)
 |f+1,n,s,o=>if o.length<n∧s.e=0 then G0 f n (LJ n s o) (o++List.replicate (Qd n s o) (lvX s)) else (o,s)
theorem yx{f n:Nat}{s:Cs}{o:al}(h:¬(o.length<n∧s.e=0)):G0 f n s o=(o,s):=by cases f<;>simp[G0,h]
theorem R9{f n:Nat}{s:Cs}{o:al}(h:o.length<n∧s.e=0):G0 (f+1) n s o=G0 f n (LJ n s o) (o++List.replicate (Qd n s o) (lvX s)):=by rw[G0,ao h]
theorem zS(s:Cs)(m:Int):(s.bW m).b=s.b:=Cs.cN _ _ _
theorem DU(s:Cs)(e:Int):(s.failed e).b=s.b:=by unfold Cs.failed;split<;>rfl
theorem aqO(n:Nat)(s:Cs)(o:al):(LI n s o).b=s.b:=by simp[LI,zS,JJ]
theorem akr(n:Nat)(s:Cs)(o:al):(LJ n s o).b=s.b:=by unfold LJ;split<;>simp[DU,aqO]
theorem ct.LI{n:Nat}{s:Cs}{o:al}(h:ct s)(hn:n≤1000000000):ct (LI n s o):=h.eJ.bW aa
theorem ct.LJ{n:Nat}{s:Cs}{o:al}(h:ct s)(hn:n≤1000000000):ct (LJ n s o):=by
 unfold Proofs.YtaodmbolhoafcaaGreatDoor.LJ;split
 ·exact(h.LI hn).failed _
 ·exact h.LI hn
theorem Kr(s:Cs)(m:Int)(hm:0≤m)(vE:m≤9223372036854775807):(s.int m:Int)≤m:=by
 unfold Cs.int;split
 ·exact hm
 ·by_cases he:(eu s.rest m).2.2=0
  ·exact(jy s.rest m vE).2.2.2 he
  ·rw[(pA he).1];exact hm
theorem adG{n:Nat}{s:Cs}{o:al}(h:o.length≤n)(hn:n≤1000000000):o.length+Qd n s o≤n:=by
 have:=Kr s.eJ ((n:Int)-o.length) aa aa;unfold Qd;omega
theorem R_{n:Nat}{s:Cs}{o:al}(h:(LJ n s o).e=0):¬EE n s o∧(LI n s o).e=0∧LJ n s o=LI n s o:=by
 unfold LJ at h⊢;by_cases hb:EE n s o
 ·rw[ao hb]at h;unfold Cs.failed at h;rw[ao hb.1]at h;simp at h
 ·rw[aw hb]at h⊢;exact⟨hb,h,rfl⟩
theorem ajg(n:Nat)(ho:ct s)(hb:aK B w0 F 1 (.slice A s.b.length c) s.b.length (bv s.b))(hn:n≤1000000000):
  a_ B w0 265 [.agg #[br g],ah n] (Cv g A c s::F) (fun r L=>∃A' c',r= .slice A' (BV n 0 s).1.length c'∧L=Cv g A c (BV n 0 s).2:: .own 60 1 A' (BV n 0 s).1.length c' (p9 (BV n 0 s).1)::F):=by
 have qd:∀(s':Cs),s'.b=s.b→aK B w0 F 1 (.slice A s'.b.length c) s'.b.length (bv s'.b):=fun s' h=>by rw[h];exact hb
 refine fw func265 28 [0,1] ?_;refine be ?_;refine bh fun g2=>?_;refine b8 ?_;refine aZ 60 1 none ?_;refine cZ ?_;refine aE (fun zf zL zm=>∃(q was:Nat) (s':Cs) (o:bf) (A5:bj) (c5:Nat),(ct s'∧s'.b=s.b∧o.length+q=n∧BV n 0 s=(o++(BV q was s').1,(BV q was s').2))∧q=zm∧Sub zf [(1,ah n),(2,br g2),(5,.slice A5 o.length c5),(6,.int .u64 was)]∧Wk zL (Cv g A c s':: .own 60 1 A5 o.length c5 (p9 o):: .bE g2 366 [br g]::F)) _ ⟨n,0,s,[],none,0,⟨ho,rfl,ak,rfl⟩,rfl,bp,.dE Cm⟩ ?_;rintro _ _ _ ⟨q,was,s',o,A5,c5,⟨ho',Qb,hq,hG⟩,rfl,hs,hp⟩;refine aU hs hp ?_;clear hs hp;refine bA ?_;refine bU 10 16 [1,2,5,6] ((o.length:Int)<n∧s'.e=0) ?_ ?_
 ·refine bG ?_;refine cM (fun pn=>?_) fun pn=>?_
  ·refine b8 ?_;refine ai rfl (gM) ?_;refine bA ?_;exact aP oV
  ·refine b8 ?_;exact aP wA
 ·refine be ?_;refine aj (fun ki=>?_) fun ki=>?_
  ·have Vk:s'.num<18446744073709551616:=by
    unfold Cs.num;split
    ·omega
    ·exact(fg _).1
   obtain⟨q',rfl⟩:∃q',q=q'+1:=⟨q-1,aa⟩
   refine bI ?_;refine ai rfl (abD ho' (.cons (.cons (qd s' Qb)))) ?_;refine ai rfl (arz _ Vk) ?_;refine ab (bX rfl rfl (Xo _ _)) rfl ?_;refine bz ?_;refine dF anD rfl rfl rfl rfl rfl (fun _=>rfl) aV aa aa ?_;intro _ tc Bn;refine bA ?_;have el:o.length+1=(o++[zg was (TN s'.num)]).length:=by simp
   rw[el];refine av ⟨_,aa,q',zg was (TN s'.num),s'.l7,o++[zg was (TN s'.num)],tc,Bn,⟨ho'.l7,(KK _).trans Qb,bR,by rw[hG,BV,ao ki.2];simp⟩,rfl,bp,.cons (ax rfl (by simp[p9]) (.refl _))⟩
  ·refine cH ?_;have hz:BV n 0 s=(o,s'):=by
    rw[hG];by_cases h0:s'.e=0
    ·have:q=0:=by omega
     subst this;simp[BV]
    ·rw[aji h0];simp
   rw[hz];refine aq (L':=Cv g A c s':: .own 60 1 A5 o.length c5 (p9 o)::F) (.cons (.cons (.skip (.refl _)))) ?_;refine aF ?_;exact⟨A5,c5,rfl,rfl⟩
theorem adw(n:Nat)(ho:ct s)(hb:aK B w0 F 1 (.slice A s.b.length c) s.b.length (bv s.b))(hn:n≤1000000000):
  a_ B w0 266 [.agg #[br g],ah n] (Cv g A c s::F) (fun r L=>∃A' c',r= .slice A' (G0 (n+1) n s []).1.length c'∧L=Cv g A c (G0 (n+1) n s []).2:: .own 5 1 A' (G0 (n+1) n s []).1.length c' (bv (G0 (n+1) n s []).1)::F):=by
 have qd:∀(s':Cs),s'.b=s.b→aK B w0 F 1 (.slice A s'.b.length c) s'.b.length (bv s'.b):=fun s' h=>by rw[h];exact hb
 refine fw func266 61 [0,1] ?_;refine be ?_;refine bh fun g2=>?_;refine b8 ?_;refine aZ 5 1 none ?_;refine bz ?_;refine aE (fun zf zL zm=>∃(f:Nat) (s':Cs) (o:al) (A5:bj) (c5:Nat),(ct s'∧s'.b=s.b∧o.length≤n∧(s'.e=0→n-o.length<f)∧G0 f n s' o=G0 (n+1) n s [])∧f=zm∧Sub zf [(1,ah n),(2,br g2),(5,.slice A5 o.length c5)]∧Wk zL (Cv g A c s':: .own 5 1 A5 o.length c5 (bv o):: .bE g2 366 [br g]::F)) _ ⟨n+1,s,[],none,0,⟨ho,rfl,bS _,fun _=>by simp,rfl⟩,rfl,bp,.dE Cm⟩ ?_;rintro _ _ _ ⟨f,s',o,A5,c5,⟨ho',Qb,Kl,hf,hG⟩,rfl,hs,hp⟩;refine aU hs hp ?_;clear hs hp;refine bA ?_;refine bU 10 17 [1,2,5] ((o.length:Int)<n∧s'.e=0) ?_ ?_
 ·refine bG ?_;refine cM (fun mD=>?_) fun mD=>?_
  ·refine b8 ?_;refine ai rfl (gM) ?_;refine bA ?_;exact aP oV
  ·refine b8 ?_;exact aP wA
 ·refine be ?_;refine aj (fun iF=>?_) fun iF=>?_
  ·obtain⟨f',rfl⟩:∃f',f=f'+1:=⟨f-1,by have:=hf iF.2;omega⟩
   have B_:=adG (s:=s') Kl hn;have hf':=hf iF.2;have hLb:aK B w0 (.own 5 1 A5 o.length c5 (bv o):: .bE g2 366 [br g]::F) 1 (.slice A s'.b.length c) s'.b.length (bv s'.b):=.cons (.cons (qd s' Qb));have aqg:a_ B w0 173 [br g] _ (fun r L=>r= .int .u8 ((lvX s').toNat:Int)∧L=_):=ov (g:=g) ho' hLb;have hint:a_ B w0 172 [br g,ah ((n:Int)-o.length)] _ (fun r L=>r=ah (Qd n s' o)∧L=Cv g A c (LI n s' o)::_):=iH (g:=g) ho'.eJ (by rw[JJ];exact hLb) aa aa;refine bK ?_;refine ai rfl (aqg) ?_;refine cZ ?_;refine ai rfl (hint) ?_;refine bA ?_;refine d_ (fun zf zL=>Sub zf [(1,ah n),(2,br g2),(5,.slice A5 o.length c5),(6,.int .u8 (lvX s').toNat),(7,ah (Qd n s' o))]∧Wk zL (Cv g A c (LJ n s' o):: .own 5 1 A5 o.length c5 (bv o):: .bE g2 366 [br g]::F)) ?_ ?_
   ·refine be ?_;refine bU 23 50 [1,2,5,6,7] ((LI n s' o).e=0∧((Qd n s' o:Int)=0∨(0:Int)<o.length∧((o.getD (o.length-1) 0).toNat:Int)=((lvX s').toNat:Int))) ?_ ?_
    ·refine be ?_;refine ai rfl (gM) ?_;refine be ?_;refine cM (fun Bv=>?_) fun Bv=>?_
     ·refine bG ?_;refine aL rfl rfl rfl (fun tT=>?_) (fun tT=>?_)
      ·refine bK ?_;refine cM (fun U'=>?_) fun U'=>?_
       ·refine bz ?_;refine ab (dw rfl rfl (r:=((o.length-1:Nat):Int)) ((bF aa aa).trans aa)) rfl ?_;refine dc ?_;exact aP oV
       ·refine cH ?_;exact aP wA
      ·refine jk ?_;exact aP vA
     ·refine B9 ?_;exact aP wA
    ·refine be ?_;refine aj (fun Il=>?_) fun Il=>?_
     ·refine bA ?_;refine ai rfl (nr 2) ?_;refine aF ?_;have Ro:EE n s' o:=⟨Il.1,by rcases Il.2 with h|h;exact .inl aa;exact .inr ⟨aa,qf.1 aa⟩⟩
      have hT:LJ n s' o=(LI n s' o).failed 2:=ao Ro;rw[hT];exact bD ⟨bp,.refl _⟩
     ·refine aF ?_;have Ro:¬EE n s' o:=fun h=>Il ⟨h.1,by rcases h.2 with h|h;exact .inl aa;exact .inr ⟨aa,by rw[h.2]⟩⟩;have hT:LJ n s' o=LI n s' o:=aw Ro;rw[hT];exact bD ⟨bp,.refl _⟩
   ·rintro _ _ ⟨hs,hp⟩;refine aU hs hp ?_;clear hs hp;refine bA ?_;refine cC (aG cD [_] rfl rfl cw aa aa) fun A56=>?_;refine aF ?_;refine ay rfl (aey (lvX s') (Qd n s' o) aA aa) fun A58 c58=>?_;refine fM (bT cD rfl aV rfl aA cw aa aa) fun A59 c59=>?_;refine bA ?_;have el:o.length+Qd n s' o=(o++List.replicate (Qd n s' o) (lvX s')).length:=by simp
    have wO:=R9 (f:=f') (n:=n) (s:=s') (o:=o) ⟨aa,iF.2⟩;rw[hG]at wO;rw[el];refine av ⟨_,aa,f',LJ n s' o,o++List.replicate (Qd n s' o) (lvX s'),A59,c59,⟨ho'.LJ hn,(akr _ _ _).trans Qb,by rw[←el];exact B_,fun h=>by rw[←el];have h1:=(R_ h).1;have h2:=(R_ h).2.1;have h3:Qd n s' o≠0:=fun hz=>h1 ⟨h2,.inl hz⟩;omega,wO.symm⟩,rfl,bp,.skip (.skip (.cons (ax rfl ak (.refl _))))⟩
  ·refine cH ?_;have hz:G0 (n+1) n s []=(o,s'):=by rw[←hG,yx aa]
   rw[hz];refine aq (L':=Cv g A c s':: .own 5 1 A5 o.length c5 (bv o)::F) (.cons (.cons (.skip (.refl _)))) ?_;refine aF ?_;exact⟨A5,c5,rfl,rfl⟩
theorem afD:∀(k was:Nat) {s:Cs},ct s→ct (BV k was s).2∧(BV k was s).2.b=s.b
 |0,_,s,h=>⟨h,rfl⟩
 |k+1,was,s,h=>by
  rw[BV];split
  ·have:=afD k (zg was (TN s.num)) h.l7;exact⟨this.1,this.2.trans (KK s)⟩
  ·exact⟨h,rfl⟩
theorem adF{n:Nat}(hn:n≤1000000000):∀(f:Nat) {s:Cs} {o:al},ct s→ct (G0 f n s o).2∧(G0 f n s o).2.b=s.b
 |0,s,o,h=>⟨h,rfl⟩
 |f+1,s,o,h=>by
  rw[G0];split
  ·have:=adF hn f (o:=o++List.replicate (Qd n s o) (lvX s)) (h.LJ (n:=n) (o:=o) hn);exact⟨this.1,this.2.trans (akr n s o)⟩
  ·exact⟨h,rfl⟩
def LK(n:Nat)(l:al):bf×Cs:=BV n 0 ⟨l,0,0⟩
def G3(n:Nat)(l:al):al×Cs:=G0 (n+1) n (LK n l).2 []
def n_(n:Int)(l:al):bf×al×Nat×Int:=
 if n<0∨20000<n then ([],[],0,13) else if (G3 n.toNat l).2.e≠0 then ([],[],0,(G3 n.toNat l).2.e) else ((LK n.toNat l).1,(G3 n.toNat l).1,(G3 n.toNat l).2.at_,0)
theorem Wd{n:Int}{l:al}(h:n<0∨20000<n):n_ n l=([],[],0,13):=ao h
theorem We{n:Nat}{l:al}(h:¬((n:Int)<0∨(20000:Int)<n))(he:¬(G3 n l).2.e=0):n_ n l=([],[],0,(G3 n l).2.e):=by
 unfold n_;rw[aw h,nH,ao he]
theorem SF{n:Nat}{l:al}(h:¬((n:Int)<0∨(20000:Int)<n))(he:(G3 n l).2.e=0):n_ n l=((LK n l).1,(G3 n l).1,(G3 n l).2.at_,0):=by
 unfold n_;rw[aw h,nH,aw L7]
theorem aiH:a_ B w0 177 [br g] (Cv g A c s::F) (fun r L=>r=ah s.at_∧L=Cv g A c s::F):=by
 refine fw func177 10 [0] ?_;refine acx ?_;exact⟨rfl,rfl⟩
theorem SI(n:Int){l:al}(hb:eM B w0 F A c l)(hl:l.length≤1000000000)(hn1:-9223372036854775808≤n)(tY:n≤9223372036854775807):
  a_ B w0 225 [ah n,.slice A l.length c] F (fun r L=>∃A1 c1 A2 c2,r= .tuple #[.slice A1 (n_ n l).1.length c1,.slice A2 (n_ n l).2.1.length c2,ah (n_ n l).2.2.1,ah (n_ n l).2.2.2]∧L= .own 60 1 A1 (n_ n l).1.length c1 (p9 (n_ n l).1):: .own 5 1 A2 (n_ n l).2.1.length c2 (bv (n_ n l).2.1)::F):=by
 have ho0:ct ⟨l,0,0⟩:=⟨bS _,cY⟩
 refine fw func225 38 [0,1] ?_;refine cZ ?_;refine bU 6 17 [0,1] (n<0∨20000<n) ?_ ?_
 ·refine bA ?_;refine aL rfl rfl rfl (fun jZ=>?_) (fun jZ=>?_)
  ·refine b8 ?_;exact aP b_8
  ·refine be ?_;exact aP b_8
 ·refine be ?_;refine aj (fun iF=>?_) fun iF=>?_
  ·refine bB ?_;rw[Wd iF];refine aD 5 1 none ?_;refine aD 60 1 none ?_;refine aF ?_;exact⟨none,0,none,0,rfl,rfl⟩
  ·obtain⟨m,rfl⟩:=gJ (show 0≤n by omega);have hT:=afD m 0 ho0;have hV:=adF (n:=m) aa (m+1) (o:=[]) hT.1;change ct (LK m l).2∧(LK m l).2.b=l at hT;change ct (G3 m l).2∧(G3 m l).2.b=(LK m l).2.b at hV;refine bG ?_;refine dX rfl (mY hb aa) fun g19 Lp c19=>?_;refine ab (eG [(0,_)] [_] rfl rfl ag) rfl ?_;refine bc fun g8=>?_;refine bK ?_;refine ay rfl ((ajg m ho0 (.cons (aK.own (List.Mem.head _))) aa).perm swp) fun A23 c23=>?_;change VL _ _ _ _ ((23,.slice A23 (LK m l).1.length c23)::_) (Cv g19 Lp c19 (LK m l).2:: .own 60 1 A23 (LK m l).1.length c23 (p9 (LK m l).1)::_);refine bK ?_;refine ay rfl (adw m hT.1 (by rw[hT.2];exact .cons (.cons (aK.own (List.Mem.head _)))) aa) fun tc Bn=>?_;change VL _ _ _ _ ((26,.slice tc (G3 m l).1.length Bn)::_) (Cv g19 Lp c19 (G3 m l).2:: .own 5 1 tc (G3 m l).1.length Bn (bv (G3 m l).1)::_);refine bI ?_;refine ai rfl (gM) ?_;refine bO ?_;refine aj (fun D8=>?_) fun D8=>?_
   ·refine bK ?_;refine ve [4,5,6,7] ?_;refine bA ?_;rw[We iF D8];refine aD 5 1 none ?_;refine aD 60 1 none ?_;refine aq (L':=.own 60 1 none 0 0 []:: .own 5 1 none 0 0 []::F) (.cons (.cons (.skip (.skip (.skip (.skip (.skip (.refl _)))))))) ?_;refine aF ?_;exact⟨none,0,none,0,rfl,rfl⟩
   ·refine bI ?_;refine ai rfl (aiH) ?_;refine b8 ?_;refine ve [4,5,6,7] ?_;refine be ?_;rw[SF iF (jG.1 D8)];refine aq (L':=.own 60 1 A23 (LK m l).1.length c23 (p9 (LK m l).1):: .own 5 1 tc (G3 m l).1.length Bn (bv (G3 m l).1)::F) (.skip (.swap (.cons (.cons (.skip (.skip (.refl _))))))) ?_;refine aF ?_;exact⟨A23,c23,tc,Bn,rfl,rfl⟩
theorem aaT{a b:Nat}(ha:a<18446744073709551616)(hb:b<18446744073709551616):zg b (dlt a b)=a:=by
 unfold zg dlt;omega
theorem WX:∀(L:List aI) (was:Nat) (s:Cs) (r:al),was<18446744073709551616→s.e=0→(∀x∈L,x.1<18446744073709551616)→s.rest=qA was L++r→(BV L.length was s).1=L.map (·.1)∧nT s (BV L.length was s).2 (qA was L)
 |[],was,s,r,_,h0,_,_=>⟨rfl,nT.nil h0⟩
 |x::L,was,s,r,hw,h0,hx,hr=>by
  have LG:=hx x ak;rw[qA,bV]at hr;obtain⟨n1,d1⟩:=Cs.V4 h0 (TO (DG x.1 was)) hr;have hz:zg was (TN s.num)=x.1:=by rw[n1,ajG (DG _ _),aaT LG hw]
  obtain⟨i1,i2⟩:=WX L x.1 s.l7 r LG d1.e1 (fun y hy=>hx y vQ) (d1.cI hr);rw[ef,BV,ao h0,hz];exact⟨by simp[i1],d1.trans i2⟩
theorem O2(x:UInt8):∀(l:al),l.take (run x l)=List.replicate (run x l) x
 |[]=>rfl
 |y::l=>by
  unfold run;split
  ·rename_i h;rw[rh,O2 x l,zU,h]
  ·rfl
theorem Wv(x:UInt8):∀(l:al) (y:UInt8),(l.drop (run x l)).head?=some y→y≠x
 |[],y,h=>by simp[run]at h
 |z::l,y,h=>by
  unfold run at h;split at h
  ·rw[Ep]at h;exact Wv x l y h
  ·rename_i hz;simp at h;exact fun e=>hz (h.trans e)
theorem adq(o:al)(x:UInt8)(q:Nat):(o++List.replicate (1+q) x).getD ((o++List.replicate (1+q) x).length-1) 0=x:=by
 have:(o++List.replicate (1+q) x).length-1=o.length+q:=by simp;omega
 rw[this];simp[List.getD]
theorem VU(n:Nat)(hn:n≤1000000000):∀(f:Nat) (l o:al) (s:Cs) (r:al),s.e=0→n=o.length+l.length→(∀x,l.head?=some x→0<o.length→o.getD (o.length-1) 0≠x)→s.rest=ow none l++r→l.length<f→(G0 f n s o).1=o++l∧nT s (G0 f n s o).2 (ow none l)
 |0,l,o,s,r,_,_,_,_,hf=>absurd hf aa
 |f+1,[],o,s,r,h0,Is,_,hr,hf=>by
  simp at Is;rw[yx (fun h=>aa)];exact⟨ak,nT.nil h0⟩
 |f+1,x::l,o,s,r,h0,Is,sa,hr,hf=>by
  have hq:=SO x l;simp only[ef]at Is hf;have hc:ow none (x::l)=[x]++(aS (1+run x l)++ow none (l.drop (run x l))):=by
   rw[ow,aw ak,Dq];rfl
  rw[hc]at hr⊢;have tg:s.rest=x::(aS (1+run x l)++(ow none (l.drop (run x l))++r)):=by rw[hr];simp
  obtain⟨b1,db⟩:=Cs.mb h0 tg;have vF:=db.cI (p:=[x]) tg;obtain⟨k1,dk⟩:=Cs.iB (m:=(n:Int)-o.length) (x:=1+run x l) db.e1 aa aa vF;have hr3:=dk.cI vF;have hK:Qd n s o=1+run x l:=k1;have hX:lvX s=x:=b1;have hS:(LI n s o).e=0:=dk.e1;have Ro:¬EE n s o:=by
   rintro⟨_,h|⟨h1,h2⟩⟩
   ·omega
   ·exact sa x rfl h1 (h2.trans hX)
  have hT:LJ n s o=LI n s o:=aw Ro;rw[R9 ⟨aa,h0⟩,hT,hK,hX];obtain⟨i1,i2⟩:=VU n hn f (l.drop (run x l)) (o++List.replicate (1+run x l) x) (LI n s o) r hS bR (fun y hy _=>by rw[adq];exact fun e=>Wv x l y hy e.symm) hr3 kU;refine⟨?_,(db.trans (dk.trans i2))⟩;rw[i1,bV];congr 1;rw[sT 1,zU,←O2 x l,nI,jJ]
theorem XR{L:List aI}(hx:∀x∈L,x.1<18446744073709551616)(hl:L.length≤20000)(r:al):n_ L.length (ku L++r)=(L.map (·.1),lv L,(ku L).length,0):=by
 obtain⟨t1,t2⟩:=WX L 0 ⟨ku L++r,0,0⟩ (ow none (lv L)++r) aa rfl hx (by simp[Cs.rest,ku]);have vF:=t2.cI (r:=ow none (lv L)++r) (by simp[Cs.rest,ku]);change (LK L.length (ku L++r)).1=_ at t1;change nT _ (LK L.length (ku L++r)).2 _ at t2;change (LK L.length (ku L++r)).2.rest=_ at vF;obtain⟨v1,v2⟩:=VU L.length aa (L.length+1) (lv L) [] (LK L.length (ku L++r)).2 r t2.e1 (by simp[rs]) (fun _ _ h=>absurd h ak) vF (by rw[rs];omega);change (G3 L.length (ku L++r)).1=_ at v1;change nT _ (G3 L.length (ku L++r)).2 _ at v2;rw[SF aa v2.e1,t1,v1];have he:=(t2.trans v2).eq;rw[he];simp[ku]
section
theorem aa8{P:Prop}(h:P:=by(simp[MapKept.IsKey])):P:=h
theorem VB:type_of% @List.getElem?_cons_succ:= @List.getElem?_cons_succ
theorem BJ:type_of% @MapKept.run_getObj_map:= @MapKept.run_getObj_map
def fY:Nat→List (al×Value)→List MapEntry
 |_,[]=>[]
 |i,p::r=>⟨.string ⟨p.1.toArray⟩,p.2,i⟩::fY (i+1) r
def VV(D:List (al×Value)):Obj:=.map (fY 0 D).toArray D.length
def nB(t:al):List (al×Value)→Nat→Option (Nat×Value)
 |[],_=>none
 |p::r,i=>if t=p.1 then some (i,p.2) else nB t r (i+1)
def E3(D:List (al×Value))(t:al)(v:Value):List (al×Value):=
 match nB t D 0 with
 |some (i,_)=>D.set i (t,v)
 |none=>D++[(t,v)]
theorem oy:∀(D:List (al×Value)) (i:Nat),(fY i D).length=D.length
 |[],_=>rfl
 |_::r,i=>by simp[fY,oy r]
theorem H':∀(D:List (al×Value)) (i k:Nat) (h:k<D.length),(fY i D)[k]? =some ⟨.string ⟨(D[k]'h).1.toArray⟩,(D[k]'h).2,i+k⟩
 |_::r,i,0,h=>rfl
 |_::r,i,k+1,h=>by
  have:=H' r (i+1) k ny;simp only[fY,VB,List.getElem_cons_succ];rw[this];congr 2;omega
theorem DT:∀(D:List (al×Value)) (i:Nat) (p:al×Value),fY i (D++[p])=fY i D++[⟨.string ⟨p.1.toArray⟩,p.2,i+D.length⟩]
 |[],i,p=>rfl
 |q::r,i,p=>by
  simp only[nI,fY,DT r (i+1) p,ef];rw[show i+1+r.length=i+(r.length+1) by omega]
theorem ai2(t k:al):((⟨t.toArray⟩:ByteArray)==(⟨k.toArray⟩:ByteArray))=decide (t=k):=by
 rw[Bool.eq_iff_iff,MapKept.bytes_beq,decide_eq_true_iff];exact⟨fun e=>by simpa using dB (fun b:ByteArray=>b.data.toList) e,fun e=>xz⟩
theorem r9(t:al):∀(D:List (al×Value)) (j i:Nat),Instr.findNow .string (.string ⟨t.toArray⟩) (fY j D) i=some (nB t D i)
 |[],_,_=>rfl
 |p::r,j,i=>by
  simp only[fY,Instr.findNow,Instr.sameNow,ai2,nB];by_cases h:t=p.1
  ·rw[jT h,ao h]
  ·rw[lu h,aw h];exact r9 t r (j+1) (i+1)
theorem If{t:al}:∀{D:List (al×Value)} {i j:Nat} {v:Value},nB t D i=some (j,v)→∃k,j=i+k∧∃h:k<D.length,D[k]=(t,v)
 |p::r,i,j,v,h=>by
  unfold nB at h;split at h
  ·rename_i e;simp only[Ew,Cf]at h;exact⟨0,aa,ak,by simp[←h.2,e]⟩
  ·obtain⟨k,h1,h2,h3⟩:=If h;exact⟨k+1,aa,oS,by simpa using h3⟩
section
variable{C:Cx}{fr:Fr}{L:aQ}{x y z:Operand}{f:Ch→aQ}{t k e ty:TypeId}{g:Nat}{D:List (al×Value)}{s:al}{v zv:Value}
theorem MZ:qx C fr L (.makeMap t none) ty (fun p L'=>∃g,p= .map (some g)∧L'= .obj g (VV [])::L):=fun a w ha hw d pos af gg=>
 ⟨.map (some w.heap.size),w.alloc (.map #[] 0),.obj w.heap.size (VV [])::L,.inl (by simp[execOp,run_makeMap_plain]),⟨w.heap.size,rfl,rfl⟩,
  hw.gI (Kv w _ none) ⟨hw.base,(MapKept.heap_alloc w (.map #[] 0)).1⟩ (.inr ⟨_,rfl,gi _⟩)⟩
theorem DC(ht:C.P.underlying t=some (.map k e))(hk:C.P.underlying k=some .string)(hz:∀w,(zeroValue e).run C.P w= .ok zv w)(hm:ev fr x=some (.map (some g)))(hx:ev fr y=some (.string ⟨s.toArray⟩))(hs:mG (.obj g (VV D)) L f):
  gF C fr L (.lookup t x y false) ty (((nB s D 0).map (·.2)).getD zv):=fun a w ha hw d pos af gg=>by
 have hb:w.heap[g]? =some (.map (fY 0 D).toArray D.length):=(hw.all _ hs.mem).2;have hc:∀em,(Instr.checkKey em 10000 k (.string ⟨s.toArray⟩)).run C.P w= .ok () w:=fun em=>MapKept.run_checkKey (k:=.string ⟨s.toArray⟩) hk aa8 em 9999;have hf:=MapKept.run_findKey (P:=C.P) (w:=w) hk (r9 s D 0 0);cases hfd:nB s D 0 with
 |none=>
  rw[hfd]at hf;simp[execOp,ha.tmp hm,ha.tmp hx,Instr.lookup,iP ht,BJ hb,hc,hf,hz,Result.andThen]
 |some q=>
  rw[hfd]at hf;obtain⟨j,u⟩:=q;simp[execOp,ha.tmp hm,ha.tmp hx,Instr.lookup,iP ht,BJ hb,hc,hf,Result.andThen]
theorem Ia:∀(D:List (al×Value)) (i j:Nat) (p:al×Value),j<D.length→fY i (D.set j p)=(fY i D).modify j fun e=>{e with key:=.string ⟨p.1.toArray⟩,val:=p.2}
 |q::r,i,0,p,_=>by simp[fY]
 |q::r,i,j+1,p,h=>by
  simp only[NU,fY,List.modify_succ_cons];rw[Ia r (i+1) j p ny]
theorem GA(ht:C.P.underlying t=some (.map k e))(hk:C.P.underlying k=some .string)(hm:ev fr x=some (.map (some g)))(hx:ev fr y=some (.string ⟨s.toArray⟩))(hv:ev fr z=some v)(hs:mG (.obj g (VV D)) L f):
  qx C fr L (.mapUpdate t x y z) ty (fun p L'=>L'=f (.obj g (VV (E3 D s v)))):=fun a w ha hw d pos af gg=>by
 have hb:w.heap[g]? =some (.map (fY 0 D).toArray D.length):=(hw.all _ hs.mem).2;have hc:∀em,(Instr.checkKey em 10000 k (.string ⟨s.toArray⟩)).run C.P w= .ok () w:=fun em=>MapKept.run_checkKey (k:=.string ⟨s.toArray⟩) hk aa8 em 9999;have hf:=MapKept.run_findKey (P:=C.P) (w:=w) hk (r9 s D 0 0);have fN:=(k_3.1 hb).1;have nS:∀o,SL C.B C.w0 (f (.obj g o)) {w with heap:=w.heap.setIfInBounds g o}:=fun o=>
  hw.Qe hs ⟨rfl,rfl,rfl,ak,fun j _ hj=>by
   have:g≠j:=fun e=>hj C9;simp[this]⟩ (fun h=>⟨h.1,by simp[fN]⟩) (.inr (.inl rfl))
 cases hfd:nB s D 0 with
 |none=>
  rw[hfd]at hf;have e1:VV (E3 D s v)= .map ((fY 0 D).toArray.push ⟨.string ⟨s.toArray⟩,v,D.length⟩) (D.length+1):=by
   unfold E3 VV;rw[hfd];simp[DT]
  refine⟨undef,_,_,.inr ⟨?_,rfl⟩,rfl,by rw[e1];exact nS _⟩;simp[execOp,ha.tmp hm,ha.tmp hx,ha.tmp hv,Instr.mapUpdate,iP ht,BJ hb,hc,hf,MapKept.run_setObj_map _ hb,Result.andThen]
 |some q=>
  rw[hfd]at hf;obtain⟨j,u⟩:=q;obtain⟨j',hj,hjl,hje⟩:=If hfd;obtain rfl:j=j':=by omega
  have hg:=H' D 0 j hjl;have e1:VV (E3 D s v)= .map ((fY 0 D).toArray.modify j fun e=>{e with key:=.string ⟨s.toArray⟩,val:=v}) D.length:=by
   unfold E3 VV;rw[hfd];simp[Ia D 0 j (s,v) hjl]
  have hky:(Instr.keyThatStays (.string ⟨s.toArray⟩) (.string ⟨s.toArray⟩)).run C.P w= .ok (.string ⟨s.toArray⟩) w:=MapKept.run_keyThatStays (d:=.string) aa8;have Kk:(((fY 0 D).toArray[j]?).map (·.key)).getD (.string ⟨s.toArray⟩)= .string ⟨s.toArray⟩:=by
   rw[List.getElem?_toArray,hg,hje];rfl
  refine⟨undef,_,_,.inr ⟨?_,rfl⟩,rfl,by rw[e1];exact nS _⟩;simp only[execOp,ha.tmp hm,ha.tmp hx,ha.tmp hv,Instr.mapUpdate];simp[iP ht,BJ hb,hc,hf,Result.andThen];simp at Kk;simp[Kk,hky,MapKept.run_setObj_map _ hb]
end
end
abbrev B4:=al×bj×Nat×bf
def Ra(e:B4):Value:=.slice e.2.1 e.2.2.2.length e.2.2.1
def lk(D:List B4):List (al×Value):=D.map fun e=>(e.1,Ra e)
def tP(e:B4):Ch:=.own 3 1 e.2.1 e.2.2.2.length e.2.2.1 (bx e.2.2.2)
def vU(t:al):List B4→bf
 |[]=>[]
 |e::r=>if t=e.1 then e.2.2.2 else vU t r
def G_(t:al)(A:bj)(c i:Nat):List B4→List B4
 |[]=>[(t,A,c,[i])]
 |e::r=>if t=e.1 then (t,A,c,e.2.2.2++[i])::r else e::G_ t A c i r
theorem uY(t:al):∀(D:List (al×Value)) (i:Nat),nB t D (i+1)=(nB t D i).map fun q=>(q.1+1,q.2)
 |[],_=>rfl
 |p::r,i=>by
  unfold nB;split
  ·rfl
  ·exact uY t r (i+1)
theorem ZK(t:al)(v:Value)(p:al×Value)(r:List (al×Value)):E3 (p::r) t v=if t=p.1 then (t,v)::r else p::E3 r t v:=by
 unfold E3;have e:nB t (p::r) 0=if t=p.1 then some (0,p.2) else nB t r (0+1):=rfl
 by_cases h:t=p.1
 ·rw[e,ao h,ao h];rfl
 ·rw[e,aw h,aw h,uY];cases nB t r 0 with
  |none=>rfl
  |some q=>rfl
theorem Wc(t:al)(A:bj)(c i:Nat):∀(D:List B4),E3 (lk D) t (.slice A ((vU t D).length+1) c)=lk (G_ t A c i D)
 |[]=>by simp[E3,lk,nB,vU,G_,Ra]
 |e::r=>by
  have ih:=Wc t A c i r;show E3 ((e.1,Ra e)::lk r) t _=_;rw[ZK];unfold vU G_;by_cases h:t=e.1
  ·rw[ao h,ao h,ao h];simp[lk,Ra]
  ·rw[aw h,aw h,aw h,ih];rfl
theorem U_(t:al):∀(D:List B4),∃(A:bj) (c:Nat) (R:aQ),
  (((nB t (lk D) 0).map (·.2)).getD (.slice none 0 0)= .slice A (vU t D).length c)∧
  ((D.map tP).Perm (.own 3 1 A (vU t D).length c (bx (vU t D))::R)∨(A=none∧c=0∧vU t D=[]∧R=D.map tP))∧
  (∀A' c' i,((G_ t A' c' i D).map tP).Perm (.own 3 1 A' ((vU t D).length+1) c' (bx (vU t D++[i]))::R))
 |[]=>⟨none,0,[],rfl,.inr ⟨rfl,rfl,rfl,rfl⟩,fun A' c' i=>.refl _⟩
 |e::r=>by
  by_cases h:t=e.1
  ·refine⟨e.2.1,e.2.2.1,r.map tP,?_,.inl ?_,fun A' c' i=>?_⟩
   ·show((nB t ((e.1,Ra e)::lk r) 0).map (·.2)).getD _=_;unfold nB vU;rw[ao h,ao h];rfl
   ·unfold vU;rw[ao h];exact .refl _
   ·unfold vU G_;rw[ao h,ao h];simp only[kC,tP,aY,qe];exact .refl _
  ·obtain⟨A,c,R,h1,h2,h3⟩:=U_ t r;refine⟨A,c,tP e::R,?_,?_,fun A' c' i=>?_⟩
   ·show((nB t ((e.1,Ra e)::lk r) 0).map (·.2)).getD _=_;unfold nB vU;rw[aw h,aw h,uY,←h1];cases nB t (lk r) 0<;>rfl
   ·unfold vU;rw[aw h];rcases h2 with h2|⟨h2,h4,h5,h6⟩
    ·exact .inl ((h2.cons _).trans (.swap _ _ _))
    ·exact .inr ⟨h2,h4,h5,by rw[h6];rfl⟩
   ·unfold vU G_;rw[aw h,aw h];exact((h3 A' c' i).cons _).trans (.swap _ _ _)
theorem Rb(t s:al)(A:bj)(c i:Nat):∀(D:List B4),vU s (G_ t A c i D)=if s=t then vU s D++[i] else vU s D
 |[]=>by
  unfold G_ vU;split<;>simp[vU]
 |e::r=>by
  unfold G_;by_cases h:t=e.1
  ·rw[ao h];unfold vU;by_cases h2:s=t
   ·subst h2;simp[h]
   ·rw[aw h2,aw h2,aw (fun q=>h2 (q.trans h.symm))]
  ·rw[aw h];unfold vU;by_cases h2:s=e.1
   ·rw[ao h2,ao h2,aw (fun q=>h (q.symm.trans h2))]
   ·rw[aw h2,aw h2];exact Rb t s A c i r
theorem Ky(t s:al)(A:bj)(c i:Nat):∀(D:List B4),s∈(G_ t A c i D).map (·.1)↔s=t∨s∈D.map (·.1)
 |[]=>by simp[G_]
 |e::r=>by
  unfold G_;by_cases h:t=e.1
  ·rw[ao h];simp[h]
  ·rw[aw h,kC,fk,Ky t s A c i r,kC,fk];exact⟨fun h=>h.elim (fun h=>.inr (.inl h)) (fun h=>h.elim .inl fun h=>.inr (.inr h)),fun h=>h.elim (fun h=>.inr (.inl h)) (fun h=>h.elim .inl fun h=>.inr (.inr h))⟩
theorem Ov(t:al)(A:bj)(c i:Nat):∀(D:List B4),(D.map (·.1)).Nodup→((G_ t A c i D).map (·.1)).Nodup
 |[],_=>by simp[G_]
 |e::r,h=>by
  rw[kC,Et]at h;unfold G_;by_cases ht:t=e.1
  ·rw[ao ht,kC,Et];exact⟨by rw[ht];exact h.1,h.2⟩
  ·rw[aw ht,kC,Et,Ky];exact⟨fun q=>q.elim (fun q=>ht q.symm) h.1,Ov t A c i r h.2⟩
theorem afY(t:al)(A:bj)(c i:Nat):∀(D:List B4),(G_ t A c i D).length≤D.length+1
 |[]=>by simp[G_]
 |e::r=>by
  unfold G_;split
  ·simp
  ·have:=afY t A c i r;simp;omega
theorem Xj{P:Program}{e:TypeId}{zv:Value}(h:(P.info? e).bind (·.zero)=some zv)(w:World):(zeroValue e).run P w= .ok zv w:=by
 cases hi:P.info? e with
 |none=>rw[hi]at h;simp at h
 |some i=>rw[hi]at h;simp at h;simp[zeroValue,typeInfo,hi,h]
theorem aru{C:Cx}{c:Code}{Q:Exit→Fr→aQ→Prop}{fr:Fr}{L M:aQ}(h:∀w,SL C.B C.w0 L w→SL C.B C.w0 M w)(k:VC C c Q fr M):VC C c Q fr L:=fun a w ha hw=>k a w ha (h w hw)
section
abbrev cj:=al
def leT(s r:cj):Prop:=Op.bytesLess s r=true∨s=r
instance (s r:cj):Decidable (leT s r):=inferInstanceAs (Decidable (_∨_))
theorem ahX(s r:cj):(Op.bytesLess s r||decide (s=r))=decide (leT s r):=by
 by_cases hp:leT s r
 ·rw[jT hp];rcases hp with h|h<;>simp[h]
 ·rw[lu hp];unfold leT at hp;have h1:¬Op.bytesLess s r=true:=fun h=>hp (.inl h);have h2:¬s=r:=fun h=>hp (.inr h);simp[h1,h2]
section
variable{C:Cx}{fr:Fr}{L:aQ}{x y:Operand}{s r:al}{xt yt ty:TypeId}
theorem QS(h1:ev fr x=some (.string ⟨s.toArray⟩))(h2:ev fr y=some (.string ⟨r.toArray⟩)):gF C fr L (.binOp .gtr xt x y yt) ty (.bool (decide (¬leT s r))):=by
 have h:=XW (C:=C) (L:=L) (xt:=xt) (yt:=yt) (ty:=ty) h1 h2;rw[ahX,←decide_not]at h;exact h
end
def uw(was s:cj):Prop:=s≠[]∧s.length≤25∧¬leT s was
instance (was s:cj):Decidable (uw was s):=inferInstanceAs (Decidable (_∧_∧_))
def ft(l:List cj)(i:Nat):cj:=if i=0 then [] else l.getD (i-1) []
def kY(l:List cj):Prop:=(∀i,i<l.length→uw (ft l i) (l.getD i []))∧l.length≤1048576
instance (l:List cj):Decidable (kY l):=inferInstanceAs (Decidable ((∀i,i<l.length→_)∧_))
theorem IZ(l:List cj)(i:Nat):ft l (i+1)=l.getD i []:=by simp[ft]
theorem Ow{s:cj}(h:s≠[]):¬leT s []:=by
 rintro(h1|h1)
 ·cases s<;>simp[Op.bytesLess]at h1
 ·exact h h1
def qk:cj→cj→Nat
 |x::a,y::b=>if x=y then qk a b+1 else 0
 |_,_=>0
theorem z_:∀a b:cj,qk a b≤a.length∧qk a b≤b.length
 |[],_=>by simp[qk]
 |_::_,[]=>by simp[qk]
 |x::a,y::b=>by
  unfold qk;have:=z_ a b;split<;>simp only[ef]<;>omega
theorem mx:∀(a b:cj) (n:Nat),n≤qk a b→(n<qk a b↔(n<a.length∧n<b.length)∧a.getD n 0=b.getD n 0)
 |[],_,n,h=>by simp[qk]
 |_::_,[],n,h=>by simp[qk]
 |x::a,y::b,n,h=>by
  unfold qk at h⊢;split at h
  ·rename_i he;rw[ao he];cases n with
   |zero=>simp[he]
   |succ n=>
    have:=mx a b n aa;simp only[ef,BE];exact⟨fun h=>by obtain⟨⟨h1,h2⟩,h3⟩:=this.1 aa;exact⟨⟨aa,aa⟩,h3⟩,fun h=>by have:=this.2 ⟨⟨aa,aa⟩,h.2⟩;omega⟩
  ·rename_i he;rw[aw he];have:n=0:=by omega
   subst this;simp[he]
def iD:cj→List cj→al
 |_,[]=>[]
 |was,s::r=>aS (qk was s)++fo (s.drop (qk was s))++iD s r
def dC:List cj→al
 |[]=>[]
 |t::r=>fo t++iD t r
end
def tr(a b:cj):Prop:=Op.bytesLess a b=true
instance (a b:cj):Decidable (tr a b):=inferInstanceAs (Decidable (_=_))
theorem qo(a:cj):¬tr a []:=by cases a<;>simp[tr,Op.bytesLess]
theorem sh(b:UInt8)(y:cj):tr [] (b::y):=rfl
theorem ur{a b:UInt8}{x y:cj}:tr (a::x) (b::y)↔a<b∨a=b∧tr x y:=by simp[tr,Op.bytesLess]
theorem PE{a b:UInt8}:a<b↔a.toNat<b.toNat:=UInt8.lt_iff_toNat_lt
theorem afT{a b:UInt8}:a=b↔a.toNat=b.toNat:=qf.symm
theorem fU:∀a:cj,¬tr a a
 |[]=>qo _
 |a::x=>by
  rw[ur,PE];have:=fU x;rintro(h|⟨_,h⟩)
  ·omega
  ·exact this h
theorem kP:∀{a b c:cj},tr a b→tr b c→tr a c
 |_,_,[],_,h=>absurd h (qo _)
 |_,[],_::_,h,_=>absurd h (qo _)
 |[],_::_,c::z,_,_=>sh c z
 |a::x,b::y,c::z,h1,h2=>by
  rw[ur,PE]at*;rw[afT]at*;rcases h1 with h1|⟨h1,Rc⟩<;>rcases h2 with h2|⟨h2,h2'⟩
  ·left;omega
  ·left;omega
  ·left;omega
  ·exact .inr ⟨aa,kP Rc h2'⟩
theorem oM:∀a b:cj,tr a b∨a=b∨tr b a
 |[],[]=>.inr (.inl rfl)
 |[],b::y=>.inl (sh b y)
 |a::x,[]=>.inr (.inr (sh a x))
 |a::x,b::y=>by
  rw[ur,ur,PE,PE,List.cons.injEq,afT,afT];rcases Nat.lt_trichotomy a.toNat b.toNat with h|h|h
  ·exact .inl (.inl h)
  ·rcases oM x y with h1|h1|h1
   ·exact .inl (.inr ⟨h,h1⟩)
   ·exact .inr (.inl ⟨h,h1⟩)
   ·exact .inr (.inr (.inr ⟨h.symm,h1⟩))
  ·exact .inr (.inr (.inl h))
theorem amB{s r:cj}:leT s r↔tr s r∨s=r:=Iff.rfl
theorem CH{s r:cj}:¬leT s r↔tr r s:=by
 rw[amB];constructor
 ·intro h;rcases oM s r with h1|h1|h1
  ·exact absurd (.inl h1) h
  ·exact absurd (.inr h1) h
  ·exact h1
 ·rintro h (h1|h1)
  ·exact fU _ (kP h h1)
  ·subst h1;exact fU _ h
theorem V0{s r:cj}:¬tr s r↔leT r s:=by rw[←CH,jG]
theorem ahY{a b c:cj}(h:leT a b)(k:tr b c):tr a c:=h.elim (fun h=>kP h k) (fun h=>h▸k)
theorem ah8{a b c:cj}(h:tr a b)(k:leT b c):tr a c:=k.elim (fun k=>kP h k) (fun k=>k▸h)
theorem kY.lt{l:List cj}(h:kY l):∀(j i:Nat),i<j→j<l.length→tr (l.getD i []) (l.getD j [])
 |0,i,Iq,_=>absurd Iq aa
 |j+1,i,Iq,hj=>by
  have h1:=(h.1 (j+1) hj).2.2;rw[IZ,CH]at h1;by_cases e:i=j
  ·rw[e];exact h1
  ·exact kP (kY.lt h j i aa aa) h1
theorem kY.inj{l:List cj}(h:kY l){i j:Nat}(hi:i<l.length)(hj:j<l.length)(he:l.getD i []=l.getD j []):i=j:=by
 rcases Nat.lt_trichotomy i j with h1|h1|h1
 ·exact absurd (he▸h.lt j i h1 hj) (fU _)
 ·exact h1
 ·exact absurd (he▸h.lt i j h1 hi) (fU _)
def plK(l:List cj)(s:cj)(k:Nat):Prop:=k≤l.length∧(∀i,i<k→tr (l.getD i []) s)∧(∀i,k≤i→i<l.length→¬tr (l.getD i []) s)
def bgT(x s:cj):Prop:=s.length≤x.length∧x.take s.length=s
instance (x s:cj):Decidable (bgT x s):=inferInstanceAs (Decidable (_∧_))
end Go.Proofs.YtaodmbolhoafcaaGreatDoor
namespace Go.Proofs
open Go.RowKit Go.Maps Go.Sort Go.Shelf
theorem NW:type_of% @List.length_mergeSort:= @List.length_mergeSort
def Tryz.sortS_ren:Go.Shelf.Ren:=⟨fun|6=>159|8=>211|9=>215|19=>252|20=>253|21=>254|22=>255|23=>256|24=>257|25=>258|26=>259|27=>260|28=>261|29=>262|36=>289|31=>290|32=>291|37=>292|38=>293|39=>294|41=>319|n=>n,fun|27=>87|29=>9|3=>3|32=>192|26=>87|0=>0|44=>135|46=>60|4=>4|36=>358|35=>357|41=>348|5=>5|9=>9|53=>398|57=>401|63=>432|64=>285|n=>n,fun|n=>n⟩
theorem Tryz.sortS:Go.Proofs.SlLaysM.n6 Tryz.prog Tryz.sortS_ren:={
 mixed:=by kernel_rfl
 f6:=⟨Tryz.f159.name,by decide,Tryz.func159.trans (congrArg some (by kernel_rfl))⟩
 f8:=Tryz.func211.trans (congrArg some (by kernel_rfl))
 f9:=⟨Tryz.f215.name,by decide,Tryz.func215.trans (congrArg some (by kernel_rfl))⟩
 f19:=Tryz.func252.trans (congrArg some (by kernel_rfl))
 f20:=Tryz.func253.trans (congrArg some (by kernel_rfl))
 f21:=⟨Tryz.f254.name,by decide,Tryz.func254.trans (congrArg some (by kernel_rfl))⟩
 f22:=⟨Tryz.f255.name,by decide,Tryz.func255.trans (congrArg some (by kernel_rfl))⟩
 f23:=⟨Tryz.f256.name,by decide,Tryz.func256.trans (congrArg some (by kernel_rfl))⟩
 f24:=⟨Tryz.f257.name,by decide,Tryz.func257.trans (congrArg some (by kernel_rfl))⟩
 f25:=⟨Tryz.f258.name,by decide,Tryz.func258.trans (congrArg some (by kernel_rfl))⟩
 f26:=⟨Tryz.f259.name,by decide,Tryz.func259.trans (congrArg some (by kernel_rfl))⟩
 f27:=⟨Tryz.f260.name,by decide,Tryz.func260.trans (congrArg some (by kernel_rfl))⟩
 f28:=⟨Tryz.f261.name,by decide,Tryz.func261.trans (congrArg some (by kernel_rfl))⟩
 f29:=⟨Tryz.f262.name,by decide,Tryz.func262.trans (congrArg some (by kernel_rfl))⟩
 f31:=Tryz.func290.trans (congrArg some (by kernel_rfl))
 f32:=Tryz.func291.trans (congrArg some (by kernel_rfl))
 f36:=⟨Tryz.f289.name,by decide,Tryz.func289.trans (congrArg some (by kernel_rfl))⟩
 f37:=⟨Tryz.f292.name,by decide,Tryz.func292.trans (congrArg some (by kernel_rfl))⟩
 f38:=⟨Tryz.f293.name,by decide,Tryz.func293.trans (congrArg some (by kernel_rfl))⟩
 f39:=⟨Tryz.f294.name,by decide,Tryz.func294.trans (congrArg some (by kernel_rfl))⟩
 f41:=⟨Tryz.f319.name,by decide,Tryz.func319.trans (congrArg some (by kernel_rfl))⟩
 t0:=Tryz.underlying0
 a0:=Tryz.isAgg0
 z0:=Tryz.sizeOf0
 v0:=Tryz.zeroValue0
 t3:=Tryz.underlying3
 a3:=Tryz.isAgg3
 z3:=Tryz.sizeOf3
 v3:=Tryz.zeroValue3
 t4:=Tryz.underlying4
 a4:=Tryz.isAgg4
 z4:=Tryz.sizeOf4
 v4:=Tryz.zeroValue4
 t5:=Tryz.underlying5
 a5:=Tryz.isAgg5
 z5:=Tryz.sizeOf5
 v5:=Tryz.zeroValue5
 t9:=Tryz.underlying9
 a9:=Tryz.isAgg9
 z9:=Tryz.sizeOf9
 v9:=Tryz.zeroValue9
 t26:=Tryz.underlying87
 a26:=Tryz.isAgg87
 z26:=Tryz.sizeOf87
 v26:=Tryz.zeroValue87
 t27:=Tryz.underlying87
 a27:=Tryz.isAgg87
 z27:=Tryz.sizeOf87
 v27:=Tryz.zeroValue87
 t29:=Tryz.underlying9
 a29:=Tryz.isAgg9
 z29:=Tryz.sizeOf9
 v29:=Tryz.zeroValue9
 t32:=Tryz.underlying192
 a32:=Tryz.isAgg192
 z32:=Tryz.sizeOf192
 v32:=Tryz.zeroValue192
 t35:=Tryz.underlying357
 a35:=Tryz.isAgg357
 z35:=Tryz.sizeOf357
 v35:=Tryz.zeroValue357
 t36:=Tryz.underlying358
 a36:=Tryz.isAgg358
 z36:=Tryz.sizeOf358
 v36:=Tryz.zeroValue358
 t41:=Tryz.underlying348
 a41:=Tryz.isAgg348
 z41:=Tryz.sizeOf348
 v41:=Tryz.zeroValue348
 t44:=Tryz.underlying135
 a44:=Tryz.isAgg135
 z44:=Tryz.sizeOf135
 v44:=Tryz.zeroValue135
 t46:=Tryz.underlying60
 a46:=Tryz.isAgg60
 z46:=Tryz.sizeOf60
 v46:=Tryz.zeroValue60
 t53:=Tryz.underlying398
 a53:=Tryz.isAgg398
 z53:=Tryz.sizeOf398
 v53:=Tryz.zeroValue398
 t57:=Tryz.underlying401
 a57:=Tryz.isAgg401
 z57:=Tryz.sizeOf401
 v57:=Tryz.zeroValue401
 t63:=Tryz.underlying432
 a63:=Tryz.isAgg432
 z63:=Tryz.sizeOf432
 v63:=Tryz.zeroValue432
 t64:=Tryz.underlying285
 a64:=Tryz.isAgg285
 z64:=Tryz.sizeOf285
 v64:=Tryz.zeroValue285}
def Tryz.compS_ren:Go.Shelf.Ren:=⟨fun|44=>160|n=>n,fun|25=>87|26=>9|3=>3|4=>4|0=>0|n=>n,fun|n=>n⟩
theorem Tryz.compS:Go.Proofs.SlLaysN.n44 Tryz.prog Tryz.compS_ren:={
 mixed:=by kernel_rfl
 f44:=⟨Tryz.f160.name,by decide,Tryz.func160.trans (congrArg some (by kernel_rfl))⟩
 t0:=Tryz.underlying0
 a0:=Tryz.isAgg0
 z0:=Tryz.sizeOf0
 v0:=Tryz.zeroValue0
 t3:=Tryz.underlying3
 a3:=Tryz.isAgg3
 z3:=Tryz.sizeOf3
 v3:=Tryz.zeroValue3
 t4:=Tryz.underlying4
 a4:=Tryz.isAgg4
 z4:=Tryz.sizeOf4
 v4:=Tryz.zeroValue4
 t25:=Tryz.underlying87
 a25:=Tryz.isAgg87
 z25:=Tryz.sizeOf87
 v25:=Tryz.zeroValue87
 t26:=Tryz.underlying9
 a26:=Tryz.isAgg9
 z26:=Tryz.sizeOf9
 v26:=Tryz.zeroValue9
 i26:=by kernel_rfl}
namespace YtaodmbolhoafcaaGreatDoor
set_option linter.unusedVariables false
variable{B:Nat}{w0:World}{F:aQ}{A:bj}{c:Nat}
def VE(x y:al):Bool:=decide (x≤y)
theorem anH{l:eH}(hl:l.length<4611686018427387904):
  a_ B w0 159 [.slice A l.length c] (.own 9 1 A l.length c (strs l)::F) (fun r L=>r= .tuple #[]∧L= .own 9 1 A l.length c (strs (l.mergeSort VE))::F):=by
 intro w hw;obtain⟨k1,k2,k3⟩:=hw.head;by_cases h0:l.length=0
 ·have hl0:l=[]:=mr h0;subst hl0;refine(AnyM.slices_Sort_string_none Tryz.sortS A c w).mono fun e w' ⟨he,GP⟩=>?_;subst GP;exact⟨_,_,he,⟨rfl,ak⟩,hw⟩
 ·have qM:¬c=0:=by omega
  obtain⟨g,cur,rfl,Yw,hg,hm,hs,ht⟩:=k3.resolve_left qM;rw[cE]at ht;refine(AnyM.slices_Sort_string Tryz.sortS g 0 c l w (holds_of_block hg ht) ((k_3.1 hg).1) hl).mono fun e w' ⟨he,n,os,GP⟩=>?_;have hlen:(l.mergeSort fun x y=>decide (x≤y)).length=l.length:=NW _;have P7:(Ch.own 9 1 (some ⟨g,0,none⟩) l.length c (strs l)).fp=some g:=by simp[Ch.fp,qM]
  have Nv:=grownBy_sorted (w:=w) (g:=g) (n:=n) (os:=os) (l.mergeSort fun x y=>decide (x≤y)).toArray;rw[←GP]at Nv;refine⟨_,_,he,⟨rfl,rfl⟩,hw.La (by rw[P7];exact Nv) ⟨?_,k2,.inr ⟨g,_,rfl,Yw,by rw[GP];exact heap_sorted _ hg,hm,by simpa[putCells]using hs,?_⟩⟩ (.inr (.inl (by simp[Ch.fp])))⟩
  ·simp
  ·rw[cE,←hlen];exact take_putCells cur _ (by rw[hlen];omega)
theorem Dt(zs:eH):(Lib.compact zs).length≤zs.length:=by
 unfold Lib.compact Lib.compactUpTo;rw[eK];exact jc (BG _ _) ak
theorem XT{l:eH}(hl:l.length<4611686018427387904):
  a_ B w0 160 [.slice A l.length c] (.own 9 1 A l.length c (strs l)::F) (fun r L=>r= .slice A (Lib.compact l).length c∧L= .own 9 1 A (Lib.compact l).length c (strs (Lib.compact l))::F):=by
 intro w hw;obtain⟨k1,k2,k3⟩:=hw.head;have hle:=Dt l;by_cases h0:l.length=0
 ·have hl0:l=[]:=mr h0;subst hl0;refine(AnyG.slices_Compact_string_empty Tryz.compS A c w).mono fun e w' ⟨he,GP⟩=>?_;subst GP;exact⟨_,_,he,⟨rfl,by simp[Lib.compact,Lib.compactUpTo,strs]⟩,hw⟩
 ·have qM:¬c=0:=by omega
  obtain⟨g,cur,rfl,Yw,hg,hm,hs,ht⟩:=k3.resolve_left qM;rw[cE]at ht;refine(AnyG.slices_Compact_string Tryz.compS g 0 c l w (holds_of_block hg ht) aa k2).mono fun e w' ⟨he,q,GP⟩=>?_;obtain⟨ys,hys⟩:=cK (Lib.compact l++List.replicate (l.length-(Lib.compact l).length) []);have hyl:ys.length=l.length:=by rw[hys];simp;omega
  rw[←hys]at GP;have P7:(Ch.own 9 1 (some ⟨g,0,none⟩) l.length c (strs l)).fp=some g:=by simp[Ch.fp,qM]
  have Nv:=grownBy_sorted (w:=w) (g:=g) (n:=q) (os:= #[]) ys.toArray;have hh:=heap_sorted (n:=q) (os:= #[]) ys.toArray hg;rw[grow_empty,←GP]at Nv hh;refine⟨_,_,he,⟨rfl,rfl⟩,hw.La (by rw[P7];exact Nv) ⟨ak,aa,.inr ⟨g,_,rfl,Yw,hh,hm,by simpa[putCells]using hs,?_⟩⟩ (.inr (.inl (by simp[Ch.fp])))⟩;have ht2:=take_putCells cur ys (by rw[hyl];omega);have:=dB (List.take (Lib.compact l).length) ht2;rw[Iz,hyl,zb hle]at this;rw[cE,this,←pt,hys,yk];rfl
end YtaodmbolhoafcaaGreatDoor
end Go.Proofs
namespace Go.Proofs.YtaodmbolhoafcaaGreatDoor
set_option linter.unusedVariables false
set_option linter.unusedSimpArgs false
set_option maxRecDepth 20000
variable{B:Nat}{w0:World}{F:aQ}{A:bj}{c g:Nat}{s:Cs}{A1 A2:bj}{n c1 c2:Nat}{B1 B2:bj}{b1 b2:Nat}
def small(c:UInt8):UInt8:=if 65≤c.toNat∧c.toNat≤90 then c+32 else if 97≤c.toNat∧c.toNat≤122∨48≤c.toNat∧c.toNat≤57 then c else 0
def emit(row:al):eH:=if row=[] then [] else [row.take 24]
def mC(st:eH×al)(c:UInt8):eH×al:=
 if small c≠0 then (st.1,st.2++[small c]) else (st.1++emit st.2,[])
theorem Jm{ws:eH}{row:al}{c:UInt8}(h:small c≠0):mC (ws,row) c=(ws,row++[small c]):=ao h
theorem PO{ws:eH}{row:al}{c:UInt8}(h:small c=0):mC (ws,row) c=(ws++emit row,[]):=aw ny
def wst(l:al):eH×al:=l.foldl mC ([],[])
def np(l:al):eH:=(wst l).1++emit (wst l).2
theorem age(l:al)(c:UInt8):wst (l++[c])=mC (wst l) c:=by simp[wst]
theorem DQ(row:al):(emit row).length≤row.length:=by
 unfold emit;split
 ·simp
 ·rename_i h;have:0<row.length:=by rcases row with _|⟨x,r⟩;exact absurd rfl h;simp
  simp;omega
theorem Ll(l:al):(wst l).1.length+(wst l).2.length≤l.length:=by
 have:∀l:al,∀st:eH×al,(l.foldl mC st).1.length+(l.foldl mC st).2.length≤st.1.length+st.2.length+l.length:=by
  intro l;induction l with
  |nil=>intro st;simp
  |cons c r ih=>
   intro st;have h:=ih (mC st c);have hs:(mC st c).1.length+(mC st c).2.length≤st.1.length+st.2.length+1:=by
    unfold mC;split
    ·simp;omega
    ·have:=DQ st.2;simp;omega
   simp only[List.foldl_cons,ef];omega
 simpa[wst]using this l ([],[])
theorem xg(l:al):(np l).length≤l.length:=by
 have h1:=Ll l;have h2:=DQ (wst l).2;unfold np;simp;omega
def uQ(l:al):al:=((l.takeWhile fun c=>small c≠0).map small).take 24
def tw:Bool→al→eH
 |_,[]=>[]
 |prev,c::r=>if small c=0∨prev=true then tw (decide (small c≠0)) r else uQ (c::r)::tw true r
theorem tx{α:Type}(p:α→Bool)(a:List α)(c:α)(r:List α)(ha:∀x∈a,p x=true)(hc:p c=false):(a++c::r).takeWhile p=a:=by
 induction a with
 |nil=>simp[hc]
 |cons x a ih=>
  simp only[nI,List.takeWhile_cons,ha x ak,if_true];rw[ih fun y hy=>ha y vQ]
theorem G8{α:Type}(p:α→Bool)(a:List α)(ha:∀x∈a,p x=true):a.takeWhile p=a:=by
 induction a with
 |nil=>rfl
 |cons x a ih=>
  simp only[List.takeWhile_cons,ha x ak,if_true];rw[ih fun y hy=>ha y vQ]
theorem Fc(c:UInt8)(r:al)(hc:small c=0)(b:Bool):tw b (c::r)=tw false r:=by
 simp[tw,hc]
theorem ab':∀(l:al) (ws:eH) (a:al),(∀x∈a,small x≠0)→
  (l.foldl mC (ws,a.map small)).1++emit (l.foldl mC (ws,a.map small)).2=
   ws++(if a=[] then tw false l else uQ (a++l)::tw true l):=by
 intro l;induction l with
 |nil=>
  intro ws a ha;rcases a with _|⟨x,a⟩
  ·simp[emit,tw]
  ·simp only[List.foldl_nil,emit,kC,tw,gj];rw[aw ak,aw ak];unfold uQ;rw[G8 _ _ fun y hy=>by simpa using ha y hy];rfl
 |cons c r ih=>
  intro ws a ha;rw[List.foldl_cons];by_cases hc:small c=0
  ·have e:mC (ws,a.map small) c=(ws++emit (a.map small),[]):=by unfold mC;rw[aw Ub]
   rw[e];have:=ih (ws++emit (a.map small)) [] ak;simp only[GV,if_true]at this;rw[this,bV];congr 1;rcases a with _|⟨x,a⟩
   ·simp[emit,tw,hc]
   ·rw[aw ak];unfold emit;rw[aw ak,Fc c r hc];unfold uQ;rw[tx _ _ c r (fun y hy=>by simpa using ha y hy) Ub];rfl
  ·have e:mC (ws,a.map small) c=(ws,(a++[c]).map small):=by unfold mC;rw[ao Ub];simp
   rw[e];have:=ih ws (a++[c]) (by intro y hy;rcases dz.1 hy with h|h;exact ha y h;simp at h;subst h;exact hc);rw[this,aw ak];congr 1;rcases a with _|⟨x,a⟩
   ·simp[tw,hc]
   ·rw[aw ak,bV];simp[tw,hc]
theorem aaG(l:al):np l=tw false l:=by
 have:=ab' l [] [] ak;simpa[np,wst]using this
theorem sZ:type_of% @List.pairwise_append:= @List.pairwise_append
theorem ah7(a b:cj):tr a b↔a<b:=by
 unfold tr;rw[bytesLess_eq];simp
def LV(l:List cj):Prop:=l.Pairwise tr
theorem LV.nil:LV []:=List.Pairwise.nil
theorem LV.ext:∀{a b:List cj},LV a→LV b→(∀x,x∈a↔x∈b)→a=b
 |[],[],_,_,_=>rfl
 |[],y::b,_,_,h=>absurd ((h y).2 ak) ak
 |x::a,[],_,_,h=>absurd ((h x).1 ak) ak
 |x::a,y::b,ha,hb,h=>by
  obtain⟨ha1,ha2⟩:=kE.1 ha;obtain⟨qd,oL⟩:=kE.1 hb;have Vp:x=y:=by
   rcases fk.1 ((h x).1 ak)with e|e
   ·exact e
   ·rcases fk.1 ((h y).2 ak)with e2|e2
    ·exact e2.symm
    ·exact absurd (kP (ha1 y e2) (qd x e)) (fU _)
  subst Vp;congr 1;refine LV.ext ha2 oL fun z=>⟨fun hz=>?_,fun hz=>?_⟩
  ·rcases fk.1 ((h z).1 (lr _ hz))with e|e
   ·subst e;exact absurd (ha1 _ hz) (fU _)
   ·exact e
  ·rcases fk.1 ((h z).2 (lr _ hz))with e|e
   ·subst e;exact absurd (qd _ hz) (fU _)
   ·exact e
theorem yp(a b:cj):VE a b=true↔¬tr b a:=by
 unfold VE;rw[decide_eq_true_iff,ah7];exact List.not_lt.symm
theorem K4(l:List cj):(l.mergeSort VE).Pairwise (fun a b=>¬tr b a):=by
 have h:=List.pairwise_mergeSort (le:=VE) (fun a b c h1 h2=>by
  rw[yp,V0]at*;exact h1.elim (fun h1=>.inl (ah8 h1 h2)) (fun h1=>h1▸h2)) (fun a b=>by
  rcases oM a b with h|h|h
  ·simp[(yp a b).2 (fun k=>fU _ (kP h k))]
  ·subst h;simp[(yp a a).2 (fU _)]
  ·simp[(yp b a).2 (fun k=>fU _ (kP h k))]) l
 exact h.imp fun h=>(yp _ _).1 h
theorem Ds{l:List cj}(hp:l.Pairwise (fun a b=>¬tr b a)):∀m,m≤l.length→LV (Lib.compactUpTo l.toArray m)∧(∀x,x∈Lib.compactUpTo l.toArray m↔x∈l.take m)
 |0,_=>⟨by simp[LV,Lib.compactUpTo],by simp[Lib.compactUpTo]⟩
 |m+1,hm=>by
  obtain⟨h1,h2⟩:=Ds hp m aa;rw[Lib.compactUpTo_succ];have hlm:m<l.length:=by omega
  have hg:l.toArray[m]! =l[m]:=by simp[getElem!_pos,hlm]
  have ua:l.take (m+1)=l.take m++[l[m]]:=by rw[sW,fm hlm];rfl
  by_cases hk:Lib.keeps l.toArray m=true
  ·rw[ao hk,hg];have Kk:m=0∨l.toArray[m]! ≠l.toArray[m-1]! :=by simpa[Lib.keeps]using hk
   refine⟨?_,fun x=>?_⟩
   ·refine sZ.2 ⟨h1,Vy _ _,fun a ha b hb=>?_⟩;rw[lJ]at hb;subst hb;have zM:=(h2 a).1 ha;obtain⟨i,hi,rfl⟩:=j0 zM;rw[eS]at hi;rw[Eu];have hle:∀i j (hi:i<l.length) (hj:j<l.length),i<j→¬tr l[j] l[i]:=fun i j hi hj Iq=>rj.1 hp i j hi hj Iq;have hm0:m≠0:=by omega
    have sa:l[m]≠l[m-1]'aa:=by
     have:=Kk.resolve_left hm0;rw[hg]at this;simpa[getElem!_pos,show m-1<l.length by omega]using this
    have fN:tr (l[m-1]'aa) l[m]:=by
     rcases oM (l[m-1]'aa) l[m]with h|h|h
     ·exact h
     ·exact absurd h.symm sa
     ·exact absurd h (hle (m-1) m aa hlm aa)
    by_cases him:i=m-1
    ·subst him;exact fN
    ·exact ahY (V0.1 (hle i (m-1) aa aa aa)) fN
   ·rw[ua,dz,dz,h2]
  ·rw[aw hk,gj];refine⟨h1,fun x=>?_⟩;rw[ua,dz,h2,lJ];refine⟨.inl,fun h=>h.elim id fun h=>?_⟩;have Kk:¬(m=0∨l.toArray[m]! ≠l.toArray[m-1]!):=by simpa[Lib.keeps]using hk
   have hm0:m≠0:=fun h=>Kk (.inl h);have he:l.toArray[m]! =l.toArray[m-1]! :=jG.1 fun h=>Kk (.inr h);rw[hg]at he;have hg1:l.toArray[m-1]! =l[m-1]'aa:=by simp[getElem!_pos,show m-1<l.length by omega]
   rw[hg1]at he;rw[h,he];exact List.mem_take_iff_getElem.2 ⟨m-1,aa,rfl⟩
def sv(l:List cj):List cj:=Lib.compact (l.mergeSort VE)
theorem yN(l:List cj):LV (sv l):=by
 have:=(Ds (K4 l) (l.mergeSort VE).length (gi _)).1;exact this
theorem rC(l:List cj)(x:cj):x∈sv l↔x∈l:=by
 have:=(Ds (K4 l) (l.mergeSort VE).length (gi _)).2 x;rw[jS,List.mem_mergeSort]at this;exact this
theorem uH(l:List cj):(sv l).length≤l.length:=by
 have:=Dt (l.mergeSort VE)
 rwa [NW]at this
theorem vp{l r:List cj}(h:LV r)(hm:∀x,x∈r↔x∈l):sv l=r:=LV.ext (yN l) h fun x=>(rC l x).trans (hm x).symm
def atl(l:List cj)(s:cj):List cj:=sv (l++[s])
theorem LV.put{l:List cj}(h:LV l){s:cj}{k:Nat}(hk:k≤l.length)(P_:∀i,i<k→tr (l.getD i []) s)(hhi:k<l.length→¬tr (l.getD k []) s):
  atl l s=if k<l.length∧l.getD k []=s then l else l.take k++[s]++l.drop k:=by
 have hgd:∀i (hi:i<l.length),l.getD i []=l[i]:=fun i hi=>by simp[List.getD,fm hi]
 split
 ·rename_i he;refine vp h fun x=>?_;rw[dz,lJ];refine⟨.inl,fun hx=>hx.elim id fun hx=>?_⟩;rw[hx,←he.2,hgd k he.1];exact ub _
 ·rename_i sa;refine vp ?_ fun x=>?_
  ·have fN:k<l.length→tr s (l.getD k []):=fun B_=>by
    rcases oM s (l.getD k [])with h|h|h
    ·exact h
    ·exact absurd ⟨B_,h.symm⟩ sa
    ·exact absurd h (hhi B_)
   have hpw:=rj.1 h;refine sZ.2 ⟨sZ.2 ⟨h.sublist (Kx _ _),Vy _ _,fun a ha b hb=>?_⟩,h.sublist (List.drop_sublist _ _),fun a ha b hb=>?_⟩
   ·rw[lJ]at hb;subst hb;obtain⟨i,hi,rfl⟩:=j0 ha;rw[eS]at hi;rw[Eu,←hgd i aa];exact P_ i aa
   ·obtain⟨j,hj,rfl⟩:=j0 hb;rw[iG]at hj;rw[List.getElem_drop];have hs:tr s l[k+j]:=by
     have h1:=fN aa;rw[hgd k aa]at h1;rcases wV j with h0|h0
     ·subst h0;exact h1
     ·exact kP h1 (hpw k (k+j) aa aa aa)
    rcases dz.1 ha with ha|ha
    ·obtain⟨i,hi,rfl⟩:=j0 ha;rw[eS]at hi;rw[Eu,];exact hpw i (k+j) aa aa aa
    ·rw[lJ]at ha;subst ha;exact hs
  ·rw[dz,dz,dz,lJ]
   conv=>rhs;rw[←jJ k l,dz]
   constructor
   ·rintro((h|h)|h)
    ·exact .inl (.inl h)
    ·exact .inr h
    ·exact .inl (.inr h)
   ·rintro((h|h)|h)
    ·exact .inl (.inl h)
    ·exact .inr h
    ·exact .inl (.inr h)
def E5(tE src:al):List cj:=np tE++(np src).map (64:: ·)
def sw(tE src:al):List cj:=sv (E5 tE src)
theorem E6(tE src:al):(E5 tE src).length≤tE.length+src.length:=by
 have h1:=xg tE;have h2:=xg src;simp[E5];omega
end Go.Proofs.YtaodmbolhoafcaaGreatDoor
namespace Go.Proofs
open Go.RowKit Go.Maps Go.Sort Go.Shelf
def Tryz.keysA_ren:Go.Shelf.Ren:=⟨fun|7=>91|10=>162|n=>n,fun|23=>140|26=>9|3=>53|28=>144|0=>0|27=>143|33=>245|4=>4|n=>n,fun|n=>n⟩
theorem Tryz.keysA:Go.Proofs.SlLaysZ.n7 Tryz.prog Tryz.keysA_ren:={
 mixed:=by kernel_rfl
 f7:=⟨Tryz.f91.name,by decide,Tryz.func91.trans (congrArg some (by kernel_rfl))⟩
 f10:=⟨Tryz.f162.name,by decide,Tryz.func162.trans (congrArg some (by kernel_rfl))⟩
 t0:=Tryz.underlying0
 a0:=Tryz.isAgg0
 z0:=Tryz.sizeOf0
 v0:=Tryz.zeroValue0
 t4:=Tryz.underlying4
 a4:=Tryz.isAgg4
 z4:=Tryz.sizeOf4
 v4:=Tryz.zeroValue4
 t23:=Tryz.underlying140
 a23:=Tryz.isAgg140
 z23:=Tryz.sizeOf140
 v23:=Tryz.zeroValue140
 t26:=Tryz.underlying9
 a26:=Tryz.isAgg9
 z26:=Tryz.sizeOf9
 v26:=Tryz.zeroValue9
 t27:=Tryz.underlying143
 a27:=Tryz.isAgg143
 z27:=Tryz.sizeOf143
 v27:=Tryz.zeroValue143
 t28:=Tryz.underlying144
 a28:=Tryz.isAgg144
 z28:=Tryz.sizeOf144
 v28:=Tryz.zeroValue144
 t33:=Tryz.underlying245
 a33:=Tryz.isAgg245
 z33:=Tryz.sizeOf245
 v33:=Tryz.zeroValue245}
def Tryz.sortedA_ren:Go.Shelf.Ren:=⟨fun|6=>90|8=>161|9=>159|11=>216|13=>211|12=>215|23=>252|24=>253|14=>254|15=>255|16=>256|17=>257|18=>258|19=>259|20=>260|21=>261|22=>262|25=>289|26=>290|27=>291|28=>292|29=>293|30=>294|31=>319|n=>n,fun|26=>9|28=>144|24=>87|0=>0|3=>3|37=>192|48=>135|50=>60|4=>4|40=>358|39=>357|45=>348|5=>5|9=>9|51=>398|55=>401|57=>432|58=>285|33=>245|n=>n,fun|n=>n⟩
theorem Tryz.sortedA:Go.Proofs.SlLaysZ.n6 Tryz.prog Tryz.sortedA_ren:={
 mixed:=by kernel_rfl
 f6:=⟨Tryz.f90.name,by decide,Tryz.func90.trans (congrArg some (by kernel_rfl))⟩
 f8:=⟨Tryz.f161.name,by decide,Tryz.func161.trans (congrArg some (by kernel_rfl))⟩
 f11:=⟨Tryz.f216.name,by decide,Tryz.func216.trans (congrArg some (by kernel_rfl))⟩
 t0:=Tryz.underlying0
 a0:=Tryz.isAgg0
 z0:=Tryz.sizeOf0
 v0:=Tryz.zeroValue0
 t24:=Tryz.underlying87
 a24:=Tryz.isAgg87
 z24:=Tryz.sizeOf87
 v24:=Tryz.zeroValue87
 t26:=Tryz.underlying9
 a26:=Tryz.isAgg9
 z26:=Tryz.sizeOf9
 v26:=Tryz.zeroValue9
 t28:=Tryz.underlying144
 a28:=Tryz.isAgg144
 z28:=Tryz.sizeOf144
 v28:=Tryz.zeroValue144
 i26:=by kernel_rfl}
theorem Tryz.anI(m:Nat):AnyZ.SortsIn Tryz.prog Tryz.sortedA_ren Fence.wide m:=
  ⟨fun bE off cap ss W hH acJ iZ=>callsIn_wide.2 (AnyM.slices_Sort_string Tryz.sortS bE off cap ss W hH acJ iZ),
   fun p cap W=>callsIn_wide.2 (AnyM.slices_Sort_string_none Tryz.sortS p cap W)⟩
namespace YtaodmbolhoafcaaGreatDoor
set_option linter.unusedVariables false
set_option maxRecDepth 20000
variable{B:Nat}{w0:World}{F L:aQ}{A:bj}{c:Nat}
theorem amz(b:Nat):a_ B w0 91 [.map (some b)] L (fun r L'=>∃g,r= .func (.func 162) #[] [br g].toArray∧L'= .bE g 140 [.map (some b)]::L):=fun w hw=>by
 have h:CallsIn Fence.wide 5 Tryz.prog 91 #[.map (some b)] w fun e w'=>e= .returned (.func (.func 162) #[] #[.pointer (some ⟨w.heap.size,0,none⟩)])∧w'=w.alloc (.cells #[.map (some b)] 140):=AnyZ.keys_in Tryz.keysA Fence.wide 5 trivial rfl (some b) w;refine(callsIn_wide.1 h).mono fun e w' ⟨he,GP⟩=>?_;subst GP;exact⟨_,_,he,⟨w.heap.size,rfl,rfl⟩,hw.KJ 140 [.map (some b)]⟩
theorem K6(D:List (al×Value))(hn:(D.map (·.1)).Nodup):MapKept.Stamped (fY 0 D).toArray D.length:=by
 have hb:∀(D:List (al×Value)) (i:Nat),(fY i D).map (·.born)=List.range' i D.length:=by
  intro D;induction D with
  |nil=>intro i;rfl
  |cons p r ih=>intro i;simp[fY,ih,List.range'_succ]
 have hk:∀(D:List (al×Value)) (i:Nat),(fY i D).map (·.key)=(D.map (·.1)).map fun t=>Value.string ⟨t.toArray⟩:=by
  intro D;induction D with
  |nil=>intro i;rfl
  |cons p r ih=>intro i;simp[fY,ih]
 refine⟨fun x hx=>?_,?_,?_⟩
 ·have:x.born∈(fY 0 D).map (·.born):=pQ.2 ⟨x,by simpa using hx,rfl⟩;rw[hb]at this;have:=List.mem_range'.1 this;omega
 ·rw[List.toList_toArray,hb];exact List.nodup_range' (step:=1)
 ·rw[List.toList_toArray,hk];exact List.Pairwise.map _ (fun a b h e=>h (by simpa using e)) hn
theorem M8:∀(D:List (al×Value)) (i:Nat) (x:MapEntry),x∈fY i D→∃p∈D,x.key= .string ⟨p.1.toArray⟩
 |[],_,_,h=>by simp[fY]at h
 |p::r,i,x,h=>by
  rcases fk.1 h with rfl|h
  ·exact⟨p,rn,rfl⟩
  ·obtain⟨q,hq,e⟩:=M8 r (i+1) x h;exact⟨q,lr _ hq,e⟩
theorem ZW{ss:eH}(h:ss.Nodup):LV (ss.mergeSort VE):=by
 have h1:=K4 ss;have h2:(ss.mergeSort VE).Nodup:=(List.mergeSort_perm ss VE).nodup_iff.2 h;refine(h1.and h2).imp fun {x y} h=>?_;rcases oM x y with q|q|q
 ·exact q
 ·exact absurd q h.2
 ·exact absurd q h.1
theorem aeW{D:List (al×Value)}{g b:Nat}(hn:(D.map (·.1)).Nodup)(hl:D.length≤1048576)(hk:∀p∈D,p.1.length≤1000000000):
  a_ B w0 90 [.func (.func 162) #[] [br g].toArray] (.bE g 140 [.map (some b)]:: .obj b (VV D)::F)
   (fun r L'=>∃A c,r= .slice A (sv (D.map (·.1))).length c∧L'= .own 9 1 A (sv (D.map (·.1))).length c (strs (sv (D.map (·.1)))):: .bE g 140 [.map (some b)]:: .obj b (VV D)::F):=by
 intro w hw;have hg:=hw.head.2;have hb:w.heap[b]? =some (.map (fY 0 D).toArray D.length):=hw.tail.head.2;have wQ:∀p∈D,keyOf Tryz.prog 9 (.string ⟨p.1.toArray⟩)=some (.string p.1):=fun p hp=>by
  unfold keyOf mapKey;rw[Tryz.underlying9];simp only;rw[ao (show(⟨p.1.toArray⟩:ByteArray).size≤maxLen by have:=hk p hp;simp only[maxLen,ByteArray.size,wW];omega)]
 have t_:∀x∈fY 0 D,∃p∈D,WideElems.rd (H:=Unit) Tryz.prog 9 (fun _=>some (.nil,[])) x=some (.string p.1,.nil):=fun x hx=>by
  obtain⟨p,hp,e⟩:=M8 D 0 x hx;refine⟨p,hp,?_⟩;unfold WideElems.rd;rw[e,wQ p hp];rfl
 have Ft:WideElems.Fit (H:=Unit) Tryz.prog 9 (fun _=>some (.nil,[])) (fY 0 D).toArray D.length:=
  ⟨by have:=oy D 0;simp only[wW,maxLen];omega,K6 D hn,fun x hx=>by
   obtain⟨p,_,e⟩:=t_ x (by simpa using hx);exact⟨_,e⟩⟩
 have mo:w.ownsMap Tryz.prog 9 (fun _=>some (DataW.nil (H:=Unit),[])) b D.length (.map (((fY 0 D).toArray.toList.map (WideElems.rg Tryz.prog 9 fun _=>some (.nil,[]))).foldr DataW.insert [])):=
  ⟨_,_,hb,Ft,by have:=oy D 0;simp only[wW];omega,rfl⟩
 have aqp:∀(E:List (al×Value)) (i:Nat),(∀p∈E,p∈D)→(((fY i E).map (WideElems.rg (H:=Unit) Tryz.prog 9 fun _=>some (.nil,[]))).map fun p=>strOf p.1)=E.map (·.1):=by
  intro E;induction E with
  |nil=>intro i _;rfl
  |cons p r ih=>
   intro i hE;simp only[fY,kC];rw[ih (i+1) (fun q hq=>hE q (lr _ hq))];congr 1;unfold WideElems.rg WideElems.rd;rw[wQ p (hE p rn)];rfl
 have aqA:(strKeys (.map (((fY 0 D).toArray.toList.map (WideElems.rg (H:=Unit) Tryz.prog 9 fun _=>some (.nil,[]))).foldr DataW.insert []))).Perm (D.map (·.1)):=by
  show(List.map _ _).Perm _;refine((WideShapes.sorted_perm _).map _).trans ?_;rw[List.toList_toArray,aqp D 0 (fun p hp=>hp)]
 have akf:Maps.size (DataW.map (((fY 0 D).toArray.toList.map (WideElems.rg (H:=Unit) Tryz.prog 9 fun _=>some (.nil,[]))).foldr DataW.insert []))=D.length:=by
  unfold Maps.size;simp only[];rw[length_sorted];simp[oy]
 have amn:SeqGives Fence.wide 2 Tryz.prog 162 #[br g] encStr _ _ w:=
  AnyZ.keys_gives (ρ:=Tryz.keysA_ren) {Tryz.keysA with} Fence.wide _ trivial rfl aa g b D.length _ w hg.lt (by
   have:=hg.cell 0;simpa using this) mo
 have cS:=AnyZ.sorted_in Tryz.sortedA Fence.wide 5 trivial trivial trivial trivial rfl aa (Tryz.anI _) (enters_of Tryz.func159 ag rfl) 162 #[br g] trivial (enters_of Tryz.func162 ag rfl) _ _ (by rw[akf];unfold maxLen;omega) (by rw[akf];omega) w amn;change CallsIn _ _ Tryz.prog 90 _ _ _ at cS;refine(callsIn_wide.1 cS).mono fun e w' ⟨v,ss,he,hS,ho,_,de⟩=>?_;have hp2:=hS.trans aqA;have hT:ss.mergeSort (fun x y=>decide (x≤y))=sv (D.map (·.1)):=
  (vp (ZW (hp2.nodup_iff.2 hn)) fun x=>by rw[List.mem_mergeSort];exact hp2.mem_iff).symm
 rw[hT]at ho;have nS:ss.length=(sv (D.map (·.1))).length:=by rw[←hT,NW]
 rw[nS]at ho;have hgr:w.grownBy w' none:=⟨de.os,de.tape,de.output,de.size,fun k hk _=>de.block k hk⟩
 rcases ho.2 with⟨rfl,h0⟩|⟨q,cap,cur,rfl,h1,h2,h3,h4,h5,h6⟩
 ·have e0:sv (D.map (·.1))=[]:=mr aa;refine⟨_,_,he,⟨none,0,by rw[e0];rfl,rfl⟩,hw.gI hgr ⟨by rw[e0];rfl,by rw[e0];exact gi _,.inl rfl⟩ (.inl rfl)⟩
 ·refine⟨_,_,he,⟨_,_,rfl,rfl⟩,hw.gI hgr ⟨ho.1,h3,.inr ⟨q,cur,rfl,jc hw.base h1,h2,h4,h5,h6⟩⟩ ?_⟩;by_cases hc:cap=0
  ·left;simp[Ch.fp,hc]
  ·right;exact⟨q,by simp[Ch.fp,hc],h1⟩
end YtaodmbolhoafcaaGreatDoor
end Go.Proofs
namespace Go.Proofs.YtaodmbolhoafcaaGreatDoor
set_option linter.unusedVariables false
set_option linter.unusedSimpArgs false
set_option maxRecDepth 20000
variable{B:Nat}{w0:World}{F:aQ}{A:bj}{c g:Nat}{s:Cs}{A1 A2:bj}{n c1 c2:Nat}{B1 B2:bj}{b1 b2:Nat}
theorem O7(c:UInt8):(97≤(c.toNat:Int)∧(c.toNat:Int)≤122∨48≤(c.toNat:Int)∧(c.toNat:Int)≤57)∧((small c).toNat:Int)=(c.toNat:Int)∧small c≠0∨
  (65≤(c.toNat:Int)∧(c.toNat:Int)≤90)∧((small c).toNat:Int)=(c.toNat:Int)+32∧small c≠0∨
  (¬(97≤(c.toNat:Int)∧(c.toNat:Int)≤122∨48≤(c.toNat:Int)∧(c.toNat:Int)≤57)∧¬(65≤(c.toNat:Int)∧(c.toNat:Int)≤90))∧small c=0:=by
 by_cases h1:65≤c.toNat∧c.toNat≤90
 ·have e:small c=c+32:=ao h1;have e2:(c+32).toNat=c.toNat+32:=by
   rw[UInt8.toNat_add];show(c.toNat+32)%256=_;omega
  refine .inr (.inl ⟨aa,by rw[e,e2];omega,fun h=>?_⟩);rw[e]at h;have:=dB UInt8.toNat h;rw[e2]at this;simp at this
 ·by_cases h2:97≤c.toNat∧c.toNat≤122∨48≤c.toNat∧c.toNat≤57
  ·have e:small c=c:=by unfold small;rw[aw h1,ao h2]
   refine .inl ⟨aa,xz,fun h=>?_⟩;rw[e]at h;rw[h]at h2;simp at h2
  ·have e:small c=0:=by unfold small;rw[aw h1,aw h2]
   exact .inr (.inr ⟨aa,e⟩)
theorem w7{n:Int}{b b':Bool}{c:UInt8}(h:n=((small c).toNat:Int))(hb:b=b'):Value.tuple #[.int .u8 n,.bool b]= .tuple #[.int .u8 (small c).toNat,.bool b']:=by rw[h,hb]
theorem adv(c:UInt8):a_ B w0 214 [.int .u8 c.toNat] F (fun r L=>r= .tuple #[.int .u8 (small c).toNat,.bool (decide (small c≠0))]∧L=F):=by
 have hs:=O7 c;have hc:=c.toNat_lt;refine fw func214 27 [0] ?_;refine jQ ?_;refine bU 6 10 [0] (65≤(c.toNat:Int)∧(c.toNat:Int)≤90) ?_ ?_
 ·refine bA ?_;refine cM (fun h7=>?_) fun h7=>?_
  ·refine b8 ?_;exact aP oV
  ·refine be ?_;exact aP wA
 ·refine bA ?_;refine aj (fun h4=>?_) fun h4=>?_
  ·refine bK ?_;refine ab (bX rfl rfl (aaF aa aa)) rfl ?_;refine B9 ?_;have e:small c≠0:=by rcases hs with h|h|h<;>first|exact h.2.2|(exfalso;omega)
   exact⟨w7 aa (jT e).symm,rfl⟩
  ·refine bG ?_;refine bU 6 17 [0] (97≤(c.toNat:Int)∧(c.toNat:Int)≤122) ?_ ?_
   ·refine bA ?_;refine cM (fun jZ=>?_) fun jZ=>?_
    ·refine b8 ?_;exact aP oV
    ·refine be ?_;exact aP wA
   ·refine bA ?_;refine aj (fun pn=>?_) fun pn=>?_
    ·refine GD ?_;have e:small c≠0:=by rcases hs with h|h|h<;>first|exact h.2.2|(exfalso;omega)
     exact⟨w7 aa (jT e).symm,rfl⟩
    ·refine aF ?_;refine bU 6 23 [0] (48≤(c.toNat:Int)∧(c.toNat:Int)≤57) ?_ ?_
     ·refine bA ?_;refine cM (fun iM=>?_) fun iM=>?_
      ·refine b8 ?_;exact aP oV
      ·refine be ?_;exact aP wA
     ·refine bA ?_;refine aj (fun pn=>?_) fun pn=>?_
      ·refine zI ?_;have e:small c≠0:=by rcases hs with h|h|h<;>first|exact h.2.2|(exfalso;omega)
       exact⟨w7 aa (jT e).symm,rfl⟩
      ·refine B9 ?_;have e:small c=0:=by rcases hs with h|h|h<;>first|exact h.2|(exfalso;omega)
       rw[e];exact⟨rfl,rfl⟩
def BZ(l:al):Prop:=∀c∈l,small c≠0
instance (l:List UInt8):Decidable (BZ l):=inferInstanceAs (Decidable (∀c∈l,small c≠0))
theorem BZ.Az:BZ []:=by intro c h;cases h
theorem BZ.take{l:al}(h:BZ l)(k:Nat):BZ (l.take k):=fun c hc=>h c (l6 hc)
theorem BZ.step{l:al}{k:Nat}(h:BZ (l.take k))(hk:k<l.length)(hs:small (l.getD k 0)≠0):BZ (l.take (k+1)):=by
 rw[ba hk 0];intro c hc;rcases dz.1 hc with hc|hc
 ·exact h c hc
 ·simp only[lJ]at hc;rw[hc];exact hs
theorem BZ.all{l:al}{k:Nat}(h:BZ (l.take k))(hk:¬k<l.length):BZ l:=by rwa [fA aa]at h
theorem Bl{P:Prop}(h:P:=by(simp[bv])):P:=h
theorem L_{P:Prop}(h:P:=by(simp[strs])):P:=h
theorem SL.aiu{w:World}{L:aQ}{e:TypeId}{size k:Nat}{xs:cV}(h:SL B w0 (.own e size A n c xs::L) w)(hk:k≤n):SL B w0 (.own e size A k c (xs.take (k*size))::L) w:=by
 refine⟨h.below,h.base,fun d hd=>?_,kE.2 ⟨fun d hd=>?_,(kE.1 h.apart).2⟩⟩
 ·rcases fk.1 hd with rfl|hd
  ·obtain⟨k1,k2,k3⟩:=h.head;have Rx:k*size≤n*size:=oA _ hk;refine⟨by rw[eS,k1];omega,aa,k3.imp id fun⟨g,cur,q1,q2,q3,q4,q5,q6⟩=>⟨g,cur,q1,q2,q3,q4,q5,by rw[←q6,Iz,zb Rx]⟩⟩
  ·exact h.tail.all d hd
 ·exact(kE.1 h.apart).1 d hd
theorem OW{P:Program}{fn:Func}{R:qP}{ee:Exit}{fr:Fr}{L:aQ}{e:TypeId}{size:Nat}{xs:cV}(k:Nat)(hk:k≤n)(h:Cp P fn R ee fr (.own e size A k c (xs.take (k*size))::L)):Cp P fn R ee fr (.own e size A n c xs::L):=by
 cases ee<;>first
  |exact h
  |(intro B w0 a w ha hw;exact h B w0 a w ha (hw.aiu hk))
abbrev B3(ho:Nat)(A:bj)(c:Nat)(ws:List cj)(F:aQ):aQ:=.bE ho 87 [.slice A ws.length c]:: .own 9 1 A ws.length c (strs ws)::F
def xr(B:Nat)(w0:World)(ff:FuncId)(ho:Nat)(f:cj→cj):Prop:=
 ∀(F:aQ) (t:cj) (ws:List cj) (A:bj) (c:Nat),t.length≤24→ws.length≤1000000000000→
  a_ B w0 ff [.string ⟨t.toArray⟩,br ho] (B3 ho A c ws F) (fun r L=>r= .tuple #[]∧∃A' c',L=B3 ho A' c' (ws++[f t]) F)
abbrev agl(hr:Nat)(A:bj)(c:Nat)(row:al)(F:aQ):aQ:=.bE hr 27 [.slice A row.length c]:: .own 5 1 A row.length c (bv row)::F
theorem aff{ff:FuncId}{ho hr hw:Nat}{f:cj→cj}(Yx:aH Tryz.prog ff)(Vo:xr B w0 ff ho f){row:al}{ws:List cj}(hws:ws.length≤1000000000000)(Cc:row.length≤1000000000000):
  a_ B w0 213 [br hr,br hw] (agl hr A1 c1 row (.bE hw 242 [.func (.func ff) #[] [br ho].toArray]::B3 ho A2 c2 ws F))
   (fun r L=>r= .tuple #[]∧∃A2' c2',L=agl hr A1 c1 [] (.bE hw 242 [.func (.func ff) #[] [br ho].toArray]::B3 ho A2' c2' (ws++(emit row).map f) F)):=by
 refine fw func213 15 [0,1] ?_;refine bI ?_;refine aj (fun h4=>?_) fun h4=>?_
 ·refine Tw (A:=A1) (nn:=row.length) (c:=c1) (size:=1) (xs:=bv row) aA fun mm _=>?_;obtain⟨M,hM⟩:=cK (min row.length 24);have Ce:(row.take 24).length=M:=by rw[eS,hM,Nat.min_comm]
  have he:emit row=[row.take 24]:=aw (fun e=>by rw[e]at h4;simp at h4);have hMm:min (row.length:Int) 24=(M:Int):=by omega
  have ua:(bv row).take (M*1)=bv (row.take 24):=by
   rw[cE,jX];congr 1;rcases uh row.length 24 with h|h
   ·rw[fA aa,fA aa]
   ·rw[show M=24 by omega]
  refine cF (.bE hr 27 [.slice A1 row.length c1]:: .own 5 1 A1 row.length c1 (bv row):: .bE hw 242 [.func (.func ff) #[] [br ho].toArray]::[]) ?_;refine ae 0 ?_;refine ae 1 ?_;refine ae 2 ?_;refine ae 3 ?_;refine aW 4 rfl (xO rfl rfl) ?_;rw[hMm];refine aW 5 rfl (bN (i:=M) (size:=1) underlying27 ag rfl rfl rfl aa) ?_;refine aW 6 rfl (pe (b:=row.take 24) underlying27 underlying5 underlying9 rfl (ua▸(aA:aK _ _ _ 1 (.slice A1 row.length c1) row.length (bv row)).iY (k:=M) aa)) ?_;refine az 7 ?_;refine pK rfl .no Yx rfl rfl ((Vo _ (row.take 24) ws _ _ aa aa).perm ((pu3 (pu3 (fR (fR (fR (.refl _)))))))) rfl (by rintro _ _ ⟨rfl,PR,c12,rfl⟩;exact gD) ?_;rintro _ _ ⟨rfl,PR,c12,cA⟩;obtain rfl:=cA.symm;refine b8 ?_;refine ab (bN (i:=0) (size:=1) underlying27 ag rfl rfl rfl aa) rfl ?_;refine bA ?_;refine aq (L':=.own 5 1 A1 row.length c1 (bv row):: .bE hr 27 [.slice A1 0 c1]:: .bE hw 242 [.func (.func ff) #[] [br ho].toArray]::B3 ho PR c12 (ws++[f (row.take 24)]) F) ((tF (rQ (rQ (ed (ed (.refl _))))))) ?_;refine OW 0 (bS _) ?_;refine aq (L':=agl hr A1 c1 [] (.bE hw 242 [.func (.func ff) #[] [br ho].toArray]::B3 ho PR c12 (ws++[f (row.take 24)]) F)) (.swap (.cons (ax rfl (by rw[se];rfl) (.refl _)))) ?_;refine aF ?_;exact⟨rfl,PR,c12,by rw[he];rfl⟩
 ·obtain rfl:row=[]:=mr aa;refine b8 ?_;refine ab (bN (i:=0) (size:=1) underlying27 ag rfl rfl rfl aa) rfl ?_;refine b8 ?_;exact⟨rfl,A2,c2,by simp[emit]⟩
theorem WE{ff:FuncId}{ho:Nat}{f:cj→cj}(Yx:aH Tryz.prog ff)(Vo:xr B w0 ff ho f)(l:al){ws:List cj}(hws:ws.length≤274877906944)(hl:l.length≤274877906944):
  a_ B w0 156 [.string ⟨l.toArray⟩,.func (.func ff) #[] [br ho].toArray] (B3 ho A2 c2 ws F)
   (fun r L=>r= .tuple #[]∧∃A2' c2',L=B3 ho A2' c2' (ws++(np l).map f) F):=by
 refine fw func156 32 [0,1] ?_;refine be ?_;refine bh fun g3=>?_;refine b8 ?_;refine bc fun g4=>?_;refine bB ?_;refine aZ 5 1 none ?_;refine bK ?_;refine aE (fun zf zL zm=>∃(k:Nat) (W:List cj) (R:al) (A:bj) (c:Nat) (A3:bj) (c3:Nat),(k≤l.length∧wst (l.take k)=(W,R))∧l.length-k=zm∧Sub zf [(0,.string ⟨l.toArray⟩),(4,br g4),(5,.func (.func 213) #[] [br g4,br g3].toArray),(11,ah l.length),(12,ah k)]∧Wk zL (agl g4 A c R (.bE g3 242 [.func (.func ff) #[] [br ho].toArray]::B3 ho A3 c3 (ws++W.map f) F))) _ ⟨0,[],[],none,0,A2,c2,⟨bS _,rfl⟩,rfl,bp,.swap (.cons (.cons (.cons (bq ak (ax ak ak (.refl _))))))⟩ ?_;rintro _ _ _ ⟨k,W,R,A,c,A3,c3,⟨hk,hW⟩,rfl,hs,hp⟩;refine aU hs hp ?_;clear hs hp;refine bz ?_;refine aj (fun mE=>?_) fun mE=>?_
 ·have CE:=Ll (l.take k);rw[hW,eS]at CE;simp only at CE;have Eb:=DQ R;have hsn:wst (l.take (k+1))=mC (W,R) (l.getD k 0):=by
   rw[sW,fm (show k<l.length by omega),←hW,←age];simp[List.getD,fm (show k<l.length by omega)]
  refine jk ?_;refine ab (rY underlying9 rfl rfl rfl aa) rfl ?_;refine ai rfl (adv (l.getD k 0)) ?_;refine cH ?_;refine aj (fun rN=>?_) fun rN=>?_
  ·refine b8 ?_;refine dF cD rfl rfl rfl rfl rfl (fun _=>rfl) aV aa aa ?_;intro _ tc Bn;refine aF ?_;refine ve [0,4,5,11,12] ?_;refine bO ?_;have acO:R.length+1=(R++[small (l.getD k 0)]).length:=by simp
   refine av ⟨_,aa,k+1,W,R++[small (l.getD k 0)],tc,Bn,A3,c3,⟨aa,by rw[hsn,Jm rN]⟩,rfl,bp,bq (by rw[acO];rfl) (ax acO Bl (.refl _))⟩
  ·refine b8 ?_;refine uN ajW rfl rfl (aff Yx Vo bR aa) rfl ?_;rintro _ _ ⟨rfl,Bh,Bp,cA⟩;obtain rfl:=cA.symm;refine bz ?_;refine ve [0,4,5,11,12] ?_;refine av ⟨_,aa,k+1,W++emit R,[],A,c,Bh,Bp,⟨aa,by rw[hsn,PO (jG.1 rN)]⟩,rfl,bp,.cons (.cons (.cons (bq ak (ax ak ak (.refl _)))))⟩
 ·obtain rfl:k=l.length:=by omega
  rw[jS]at hW;have CE:=Ll l;rw[hW]at CE;simp only at CE;have hwd:np l=W++emit R:=by unfold np;rw[hW]
  refine bK ?_;refine uN ajW rfl rfl (aff Yx Vo bR aa) rfl ?_;rintro _ _ ⟨rfl,Qg,c31,cA⟩;obtain rfl:=cA.symm;refine be ?_;refine aq (L':=B3 ho Qg c31 (ws++W.map f++(emit R).map f) F) (.skip (.skip (.skip (.refl _)))) ?_;refine aF ?_;exact⟨rfl,Qg,c31,by rw[hwd];simp⟩
theorem XP{ho:Nat}:xr B w0 157 ho (fun t=>t):=by
 intro F t ws A c ht hws;refine cm func157 7 rfl rfl rfl [(0,.string ⟨t.toArray⟩),(1,br ho)] ⟨⟨rfl,rfl⟩,⟨rfl,rfl⟩,trivial⟩ ?_;refine bA ?_;refine dF Fs rfl rfl rfl rfl rfl (fun _=>rfl) aV aa aa ?_;intro _ A6 c6;refine bA ?_;have Eb:ws.length+1=(ws++[t]).length:=by simp
 refine aq (L':=B3 ho A6 c6 (ws++[t]) F) (bq (by rw[Eb];rfl) (ax Eb L_ (.refl _))) ?_;refine aF ?_;exact⟨rfl,A6,c6,rfl⟩
theorem XQ{ho:Nat}:xr B w0 158 ho (fun t=>64::t):=by
 intro F t ws A c ht hws;refine cm func158 8 rfl rfl rfl [(0,.string ⟨t.toArray⟩),(1,br ho)] ⟨⟨rfl,rfl⟩,⟨rfl,rfl⟩,trivial⟩ ?_;refine bA ?_;refine ab (zw (s:=[64]) (r:=t) rfl rfl (by simp only[ef,sd];omega)) rfl ?_;refine dF Fs rfl rfl rfl rfl rfl (fun _=>rfl) aV aa aa ?_;intro _ A7 c7;refine bA ?_;have Eb:ws.length+1=(ws++[64::t]).length:=by simp
 refine aq (L':=B3 ho A7 c7 (ws++[64::t]) F) (bq (by rw[Eb];rfl) (ax Eb L_ (.refl _))) ?_;refine aF ?_;exact⟨rfl,A7,c7,rfl⟩
theorem ajb{a b:Value}(tE src:al)(h1:tE.length≤100000000000)(h2:src.length≤100000000000):
  a_ B w0 89 [.agg #[a,b,.string ⟨src.toArray⟩,.string ⟨tE.toArray⟩]] F (fun r L=>∃A c,r= .slice A (sw tE src).length c∧L= .own 9 1 A (sw tE src).length c (strs (sw tE src))::F):=by
 have hrl:=E6 tE src;have hw1:=xg tE;refine fw func89 16 [0] ?_;refine be ?_;refine bh fun g1=>?_;refine bG ?_;refine bc fun g3=>?_;refine bA ?_;refine aZ 9 1 none ?_;refine b8 ?_;refine aX ajQ rfl ((WE ao6 XP tE (ws:=[]) ak aa).perm ((l_ (fR (fR (.refl _)))))) rfl ?_;rintro _ _ ⟨rfl,A7,c7,cA⟩;obtain rfl:=cA.symm;refine bK ?_;refine aX ajQ rfl (WE ao7 XQ src bR aa) rfl ?_;rintro _ _ ⟨rfl,tG,xl,cA⟩;obtain rfl:=cA.symm;have e:([]++List.map (fun t=>t) (np tE))++List.map (fun t=>64::t) (np src)=E5 tE src:=by simp[E5]
 rw[e];refine bG ?_;refine ai rfl ((anH (l:=E5 tE src) aa).perm ((l_ (fR (fR (.refl _)))))) ?_;rw[show(E5 tE src).length=((E5 tE src).mergeSort VE).length from(NW _).symm];refine bG ?_;refine ai rfl (XT (l:=(E5 tE src).mergeSort VE) (by rw[NW];omega)) ?_;refine b8 ?_;refine aq (L':=.own 9 1 tG (sw tE src).length xl (strs (sw tE src))::F) (.cons (.skip (.skip (.refl _)))) ?_;refine aF ?_;exact⟨tG,xl,rfl,rfl⟩
theorem PM(T:al)(m:Nat)(hm:m≤24)(hp:∀x∈T.take m,small x≠0)(hs:m=T.length∨(∃c,T[m]? =some c∧small c=0)∨m=24):uQ T=(T.take m).map small:=by
 have e:T=T.take m++T.drop m:=(jJ m T).symm;have hp':∀x∈T.take m,(fun c:UInt8=>decide (small c≠0)) x=true:=fun x hx=>jT (hp x hx);have key:T.takeWhile (fun c=>decide (small c≠0))=T.take m++(T.drop m).takeWhile (fun c=>decide (small c≠0)):=by
  conv=>lhs;rw[e]
  rw[List.takeWhile_append_of_pos hp']
 unfold uQ;rw[key,ja];have y':((T.take m).map small).length≤24:=by simp;omega
 rcases hs with h|⟨c,h,h0⟩|h
 ·have:T.drop m=[]:=by rw[h];exact BI
  rw[this,List.takeWhile_nil,GV,gj];exact fA y'
 ·have hd:T.drop m=c::T.drop (m+1):=by
   obtain⟨fN,rfl⟩:=zY.1 h;exact N5 fN
  rw[hd,List.takeWhile_cons,aw Mb,GV,gj];exact fA y'
 ·subst h;rcases uh T.length 24 with h|h
  ·have:T.drop 24=[]:=IB aa;rw[this,List.takeWhile_nil,GV,gj];exact fA y'
  ·have hl:((T.take 24).map small).length=24:=by simp;omega
   rw[List.take_append_of_le_length aa,fA aa]
def sI(l:al)(i:Nat)(Xl:eH)(prev:Bool):Prop:=
 Xl++tw prev (l.drop i)=tw false l∧(i=0→prev=false)∧(∀c,0<i→l[i-1]? =some c→prev=decide (small c≠0))∧Xl.length≤i
theorem sI.start(l:al):sI l 0 [] false:=⟨rfl,fun _=>rfl,fun _ h=>absurd h aa,gi _⟩
theorem sI.skip{l:al}{i:Nat}{Xl:eH}{prev:Bool}{c:UInt8}(h:sI l i Xl prev)(hc:l[i]? =some c)(hs:small c=0∨prev=true):sI l (i+1) Xl (decide (small c≠0)):=by
 obtain⟨fN,rfl⟩:=zY.1 hc;refine⟨?_,fun h=>by omega,fun c' _ hc'=>?_,by have:=h.2.2.2;omega⟩
 ·have:=h.1;rw[N5 fN,tw,ao hs]at this;exact this
 ·rw[wh,hc]at hc';injection hc' with hc';rw[hc']
theorem sI.put{l:al}{i:Nat}{Xl:eH}{prev:Bool}{c:UInt8}(h:sI l i Xl prev)(hc:l[i]? =some c)(hs:small c≠0)(hp:prev=false):sI l (i+1) (Xl++[uQ (l.drop i)]) (decide (small c≠0)):=by
 obtain⟨fN,rfl⟩:=zY.1 hc;refine⟨?_,fun h=>by omega,fun c' _ hc'=>?_,by have:=h.2.2.2;simp;omega⟩
 ·have:=h.1;rw[N5 fN,tw,aw (by simp[hs,hp])]at this;rw[←this,bV,jT hs,N5 fN];rfl
 ·rw[wh,hc]at hc';injection hc' with hc';rw[hc']
theorem sI.done{l:al}{Xl:eH}{prev:Bool}(h:sI l l.length Xl prev):Xl=np l:=by
 have:=h.1;rw[BI]at this;rw[aaG,←this];simp[tw]
def rR(l:al)(i m:Nat)(R:al):Prop:=R=((l.drop i).take m).map small∧∀x∈(l.drop i).take m,small x≠0
theorem rR.more{l:al}{i m:Nat}{R:al}{c:UInt8}(h:rR l i m R)(hc:l[i+m]? =some c)(hs:small c≠0):rR l i (m+1) (R++[small c]):=by
 have e:(l.drop i).take (m+1)=(l.drop i).take m++[c]:=by
  rw[sW,k_7,hc];rfl
 refine⟨by rw[e,ja,←h.1];rfl,fun x hx=>?_⟩;rw[e]at hx;rcases dz.1 hx with hx|hx
 ·exact h.2 x hx
 ·simp at hx;subst hx;exact hs
theorem rR.len{l:al}{i m:Nat}{R:al}(h:rR l i m R)(hm:i+m≤l.length):R.length=m:=by
 rw[h.1];simp;omega
theorem rR.stop{l:al}{i m:Nat}{R:al}(h:rR l i m R)(hm:m≤24)(hi:i+m≤l.length)(hs:i+m=l.length∨(∃c,l[i+m]? =some c∧small c=0)∨m=24):R=uQ (l.drop i):=by
 rw[h.1,PM _ m hm h.2];rcases hs with h|⟨c,h1,h2⟩|h
 ·left;simp;omega
 ·right;left;exact⟨c,by rw[k_7];exact h1,h2⟩
 ·right;right;exact h
theorem sI.test{l:al}{k:Nat}{Xl:eH}{prev:Bool}(h:sI l k Xl prev)(hk:k≤l.length):prev=decide (0<k∧small (l.getD (k-1) 0)≠0):=by
 rcases wV k with h0|h0
 ·rw[h.2.1 h0,lu aa]
 ·have fN:k-1<l.length:=by omega
  rw[h.2.2.1 (l.getD (k-1) 0) h0 (by rw[fm fN];simp[List.getD,fm fN])];simp[h0]
theorem O8:∀c:UInt8,small (small c)=small c:=by
 have:∀x:Fin 256,small (small (UInt8.ofNat x.val))=small (UInt8.ofNat x.val):=by decide+kernel
 intro c;have:=this ⟨c.toNat,c.toNat_lt⟩;simpa using this
def TU(t:al):Prop:=∀c∈t,small c≠0∧small c=c
def Js(t:al):Prop:=1≤t.length∧t.length≤24∧TU t
theorem UP{row:al}(h:TU row):∀t∈emit row,Js t:=by
 intro t ht;unfold emit at ht;split at ht
 ·cases ht
 ·rename_i sa;simp at ht;subst ht;have:=List.length_pos_iff.2 sa;exact⟨bR,bR,fun c hc=>h c (l6 hc)⟩
theorem TM:∀(l:al) (ws:eH) (row:al),(∀t∈ws,Js t)→TU row→(∀t∈(l.foldl mC (ws,row)).1,Js t)∧TU (l.foldl mC (ws,row)).2
 |[],ws,row,h1,h2=>⟨h1,h2⟩
 |c::r,ws,row,h1,h2=>by
  rw[List.foldl_cons];by_cases hc:small c=0
  case neg=>
   rw[Jm hc];refine TM r ws _ h1 fun x hx=>?_;rcases dz.1 hx with hx|hx
   ·exact h2 x hx
   ·simp only[lJ]at hx;subst hx;rw[O8];exact⟨hc,rfl⟩
  case pos=>
   rw[PO hc];refine TM r _ [] (fun t ht=>?_) (fun x hx=>by cases hx);rcases dz.1 ht with ht|ht
   ·exact h1 t ht
   ·exact UP h2 t ht
theorem Lj{l t:al}(h:t∈np l):Js t:=by
 have:=TM l [] [] ak (fun x hx=>by cases hx);rcases dz.1 h with h|h
 ·exact this.1 t h
 ·exact UP this.2 t h
section
theorem wj:type_of% @wpIn_mono:= @wpIn_mono
abbrev FR(l:Nat):Fence:=Fence.wide.inRound l
def He(o:Oper):Prop:=∀c,o.op≠ .defer c
def AA(o:Oper):Bool:=match o.op with| .defer _=>false|_=>true
theorem Ou{o:Oper}(h:AA o=true):He o:=fun c e=>by unfold AA at h;rw[e]at h;cases h
theorem IN{l:sH}(h:l.all AA=true):∀o∈l,He o:=fun o ho=>Ou (yc.1 h o ho)
section
variable{P:Program}{l n:Nat}{Q:Exit→Act→World→Prop}
theorem aiQ{row:String}{args:Array Value}{w:World}{R:Value→World→Prop}(h:Rows P row args w R):RowsIn (FR l) n P row args w R:=fun c cs _=>
 let ⟨v,w',r,s⟩:=h c cs
 ⟨v,w',r,(show StepsIn (Machine.fenced P Fence.wide) P _ _ from stepsIn_wide.2 s)⟩
theorem V8{o:Oper}{a:Act}{w:World}{K:Act→World→Prop}(hd:He o)(h:o.wp P a w K Q):o.wpIn (FR l) n P a w K Q:=by
 refine⟨fun _ _=>trivial,?_⟩;rw[Oper.semAt_eq _ _ _ hd];unfold Oper.wp at h;generalize (execOp a.eval o).run P w=r at*;cases r with
 |ok x w'=>
  cases x<;>simp only[Oper.upon,Oper.uponIn]at h⊢<;>first
   |exact h
   |exact⟨fun h=>by simp[Fence.inRound,Fence.wide]at h,CallsIn.inRound l (callsIn_wide.2 (Ku h fun e w'' he=>by cases e<;>exact he))⟩
   |exact⟨fun h=>by simp[Fence.inRound,Fence.wide]at h,aiQ h⟩
 |halt x w'=>cases x<;>simp only[Oper.upon,Oper.uponIn]at h⊢<;>exact h
theorem KC(hQ:¬LetsOut Q){ops:Array Oper}:∀(s8:sH) (a:Act) (w:World),(∀o∈s8,He o)→wpList P ops Q s8 a w→wpListIn (FR l) n P ops Q s8 a w
 |[],_,_,_,h=>h
 |o::r,a,w,hd,h=>by
  unfold wpList at h;unfold wpListIn;split at h
  ·rename_i hw;rw[ao hw];rcases h with h|h
   ·exact Oper.wpIn_mono (fun a w h=>KC hQ r a w (fun o ho=>hd o (lr _ ho)) h) (V8 (hd o rn) h)
   ·exact absurd h.2 hQ
  ·rename_i hw;rw[aw hw];exact⟨fun _ _=>trivial,KC hQ r _ w (fun o ho=>hd o (lr _ ho)) h⟩
theorem Jv(hQ:¬LetsOut Q){ops:Array Oper}{md:Region.Mode}(hd:∀o∈ops,He o):∀(fuel:Nat) (li:Array Bool) (a:Act) (w:World),wpAny P md ops Q fuel li a w→wpAnyIn (FR l) n P md ops Q fuel li a w
 |0,_,_,_,h=>h
 |fuel+1,li,a,w,h=>by
  refine⟨h.1,fun i hi=>?_⟩;have h:=h.2 i hi;unfold wpOp at h;unfold wpOpIn;cases ho:ops[i]? with
  |none=>
   simp only[ho]at h⊢;exact Jv hQ hd fuel _ a w h
  |some o=>
   simp only[ho]at h⊢;have hdo:He o:=hd o (Array.mem_of_getElem? ho);by_cases hw:Region.wanted o (yielded ops a.tmps)=true
   ·rw[ao hw]at h⊢;rcases h with h|h
    ·exact Oper.wpIn_mono (fun a w h=>Jv hQ hd fuel _ a w h) (V8 hdo h)
    ·exact absurd h.2 hQ
   ·rw[aw hw]at h⊢;exact⟨fun _ _=>trivial,Jv hQ hd fuel _ _ w h⟩
end
def NX(C:Cx)(Q:Fr→aQ→Prop):Exit→Act→World→Prop
 | .normal,a,w=>∃fr L,pR C.N fr a∧SL C.B C.w0 L w∧Q fr L
 |_,_,_=>False
def NQ(Q:Fr→aQ→Prop):Exit→Fr→aQ→Prop
 | .normal,fr,L=>Q fr L
 |_,_,_=>False
def VR(C:Cx)(l n:Nat)(c:Code)(Q:Fr→aQ→Prop)(fr:Fr)(L:aQ):Prop:=∀a w,pR C.N fr a→SL C.B C.w0 L w→c.wpIn (FR l) n C.P (NX C Q) a w
section
variable{C:Cx}{l n:Nat}{Q:Fr→aQ→Prop}{fr:Fr}{L S:aQ}{x y:Code}
theorem VF:∀(e:Exit) (a:Act) (w:World),lift C (NQ Q) e a w→NX C Q e a w:=fun e a w ⟨fr,L,ha,hs,hq⟩=>by
 cases e<;>first|exact⟨fr,L,ha,hs,hq⟩|exact hq.elim
theorem aih:¬LetsOut (lift C (NQ Q)):=fun⟨_,_,_,_,_,_,h⟩=>h
theorem adR:¬LetsOut (NoPanic (lift C (NQ Q))):=fun⟨_,_,_,_,_,_,h⟩=>h
theorem Lg(h:VR C l n x (fun fr L=>VR C l n y Q fr L) fr L):VR C l n (.seq x y) Q fr L:=fun a w ha hs=>
 wpIn_seq (wj (h a w ha hs) fun e a w hq=>by
  cases e<;>first|exact hq.elim|(obtain⟨fr,L,ha,hs,hq⟩:=hq;exact hq a w ha hs))
theorem FY{id:Nat}(h:VR C l n x Q fr L):VR C l n (.block id x) Q fr L:=fun a w ha hs=>
 wpIn_block (wj (h a w ha hs) fun e a w hq=>by
  cases e<;>first|exact hq.elim|exact hq)
theorem nm{id:Nat}{s8:sH}(hd:s8.all AA=true)(h:VL C s8.toArray (NQ Q) s8 fr L):VR C l n (.region id s8.toArray false) Q fr L:=fun a w ha hs=>
 wj (wpIn_region_lit (KC aih s8 a w (IN hd) (h a w ha hs))) VF
theorem ajB{id:Nat}{s8:sH}(hd:s8.all AA=true)(hm:C.P.follows .mixedOrders=true)(hS:S.Sublist L)(h:VH C s8.toArray S (NQ Q) s8.toArray.size (Array.replicate s8.toArray.size false) fr L):VR C l n (.region id s8.toArray true) Q fr L:=fun a w ha hs=>
 wj (wpIn_region_any hm (Jv adR (fun o ho=>IN hd o (by simpa using ho)) _ _ a _ (wpAny_of_held _ _ _ _ (h a _ ha (hs.drewN 1) ((hs.drewN 1).sub hS))))) fun e a w h=>VF e a w (NoPanic.imp e a w h)
theorem nq(h:Q fr L):NQ Q .normal fr L:=h
end
def mark(D:Nat):Deferred:={target:=.collected D,args:= #[]}
theorem put_defers(a:Act)(ds:List Deferred)(d:Option Tmp)(v:Value):({a with defers:=a.defers++ds}:Act).put d v={a.put d v with defers:=(a.put d v).defers++ds}:=by cases d<;>rfl
theorem lK{P:Program}{ops:Array Oper}{Q:Exit→Act→World→Prop}(ds:List Deferred):∀(s8:sH) (a:Act) (w:World),wpList P ops Q s8 a w→
  wpList P ops (fun e a' w'=>∃a0:Act,a'={a0 with defers:=a0.defers++ds}∧Q e a0 w') s8 {a with defers:=a.defers++ds} w
 |[],a,w,h=>⟨a,rfl,h⟩
 |o::r,a,w,h=>by
  unfold wpList at h⊢;by_cases hw:Region.wanted o (yielded ops a.tmps)=true
  ·rw[ao hw]at h;rw[ao (show Region.wanted o (yielded ops ({a with defers:=a.defers++ds}:Act).tmps)=true from hw)];rcases h with h|⟨h1,a1,w1,h2⟩
   ·refine .inl ?_;have he:({a with defers:=a.defers++ds}:Act).eval=a.eval:=rfl;unfold Oper.wp at h⊢;rw[he];generalize (execOp a.eval o).run P w=res at*;cases res with
    |ok x w'=>
     cases x<;>simp only[Oper.upon]at h⊢<;>first
      |(rw[put_defers];exact lK ds r _ _ h)
      |(
       refine Ku h fun e w'' he=>?_;cases e<;>dsimp only at he⊢<;>first
        |(rw[put_defers];exact lK ds r _ _ he)
        |exact⟨_,rfl,he⟩
        |(obtain⟨a1,w1,h2⟩:=he;exact⟨_,w1,a1,rfl,h2⟩))
      |exact Rows.mono h fun v w'' he=>by rw[put_defers];exact lK ds r _ _ he
      |(have h2:=lK ds r _ _ h;rw[←put_defers]at h2;exact h2)
    |halt x w'=>cases x<;>simp only[Oper.upon]at h⊢<;>first|exact⟨_,rfl,h⟩|exact h
   ·exact .inr ⟨h1,_,w1,a1,rfl,h2⟩
  ·rw[aw hw]at h;rw[aw (show¬Region.wanted o (yielded ops ({a with defers:=a.defers++ds}:Act).tmps)=true from hw),put_defers];exact lK ds r _ _ h
def VM(C:Cx)(D:Nat)(c:Code)(QQ:Exit→Act→World→Prop)(fr:Fr)(L:aQ):Prop:=∀a w,a.defers=[mark D]→pR C.N fr {a with defers:=[]}→SL C.B C.w0 L w→c.wp C.P QQ a w
section
variable{C:Cx}{D:Nat}{QQ:Exit→Act→World→Prop}{fr:Fr}{L L':aQ}{x y:Code}
theorem af9{id:Nat}{s8:sH}(h:VL C s8.toArray (NQ fun fr L=>VM C D y QQ fr L) s8 fr L):VM C D (.seq (.region id s8.toArray false) y) QQ fr L:=fun a w hd ha hs=>by
 have h1:=lK [mark D] s8 _ w (h {a with defers:=[]} w ha hs);rw[show({({a with defers:=[]}:Act)with defers:=({a with defers:=[]}:Act).defers++[mark D]}:Act)=a by rw[←hd];rfl]at h1;refine wp_seq (yj (wp_region_lit h1) fun e a' w' hq=>?_);obtain⟨a0,rfl,jC,L',zM,Bz,hq⟩:=hq;cases e<;>first
  |exact hq.elim
  |refine hq _ w' (by simp[zM.defers]) ?_ Bz
   have e0:({({a0 with defers:=a0.defers++[mark D]}:Act)with defers:=[]}:Act)=a0:=by rw[←zM.defers]
   rw[e0];exact zM
def FG(C:Cx)(fn:Func)(R:qP):Exit→Act→World→Prop:=bodyPostM Fence.wide 8 C.P fn fun e w'=>∃v L',e= .returned v∧R v L'∧SL C.B C.w0 L' w'
def VG(C:Cx)(c:Code)(QQ:Exit→Act→World→Prop)(fr:Fr)(L:aQ):Prop:=∀a w,pR C.N fr a→SL C.B C.w0 L w→c.wp C.P QQ a w
def TG(C:Cx)(y:Code)(QQ:Exit→Act→World→Prop):Exit→Fr→aQ→Prop
 | .normal,fr,L=>VG C y QQ fr L
 |e,fr,L=>∀a w,pR C.N fr a→SL C.B C.w0 L w→QQ e a w
theorem qL(h:VC C x (TG C y QQ) fr L):VG C (.seq x y) QQ fr L:=fun a w ha hs=>
 wp_seq (yj (h a w ha hs) fun e a w ⟨fr,L,ha,hs,hq⟩=>by
  cases e<;>exact hq a w ha hs)
theorem lF(h:VG C y QQ fr L):TG C y QQ .normal fr L:=h
theorem anN{fn:Func}{R:qP}{P:Program}{B N:Nat}{w0:World}{y:Code}(hN:fn.ntmps=N)(h:Cp P fn R .ret fr L):TG ⟨P,N,B,w0⟩ y (FG ⟨P,N,B,w0⟩ fn R) .ret fr L:=fun a w ha hs=>by
 subst hN;obtain⟨v,L',h1,h2,h3⟩:=h B w0 a w ha hs;show LeavesInM _ _ _ _ _ _ a.defers _ _;rw[ha.defers];exact⟨v,h1,v,L',rfl,h2,h3⟩
theorem SL.afV{B:Nat}{w0 w:World}(h:SL B w0 (.obj D (.deferred (some []))::L) w):SL B w0 L (w.putObj D (.deferred none)):=
 (h.La (c':=.obj D (.deferred none)) (grownBy_putObj' w D _) ⟨h.head.1,World.putObj_heap_same (k_3.1 h.head.2).1⟩ (.inr (.inl rfl))).tail
theorem af8{fn:Func}{R:qP}{P:Program}{B N:Nat}{w0:World}(hN:fn.ntmps=N)(hp:L.Perm (.obj D (.deferred (some []))::L'))(h:Cp P fn R .ret fr L'):VM ⟨P,N,B,w0⟩ D .ret (FG ⟨P,N,B,w0⟩ fn R) fr L:=fun a w hd ha hs=>by
 subst hN;have Bz:=hs.perm hp;obtain⟨v,L'',h1,h2,h3⟩:=h B w0 _ _ ha Bz.afV;refine wp_ret ?_;show LeavesInM _ _ _ _ _ _ a.defers _ _;rw[hd];exact⟨ak,.inl ⟨D,_,rfl,run_takeDeferred Bz.head.2,v,h1,v,L'',rfl,h2,h3⟩⟩
theorem xX{P:Program}{B:Nat}{w0:World}{f:FuncId}{fn:Func}{c:Code}{args:cV}{R:qP}(hf:P.funcs[f]? =some fn)(N:Nat)(hN:fn.ntmps=N)(hb:fn.body=some c)(hl:Nat.ble args.length N=true)(fr0:Fr)(hi:Ini N args fr0)(h:VG ⟨P,N,B,w0⟩ c (FG ⟨P,N,B,w0⟩ fn R) fr0 L):dL P B w0 f args L R:=fun w hw=>by
 have hl:=Nat.le_of_ble_eq_true hl;subst hN;refine callsIn_wide.1 (callsIn_of_wp_marks (n:=8) hf hb trivial (wpIn_wide.2 (h _ w ⟨rfl,?_,fun t v ht=>?_⟩ hw)) rfl)
 ·simp;omega
 ·obtain⟨h1,h2⟩:=hi.look t v ht;simp only[wW];by_cases fN:t<args.length
  ·rw[Array.getElem?_append_left Hs];simp[fN]at h2;simp[fN,h2]
  ·rw[Array.getElem?_append_right Hs];have h3:args[t]? =none:=zX aa;simp[h3]at h2;subst h2;simp;rw[Array.getElem?_replicate,ao aa]
end
end
theorem NY:type_of% @decide_eq_true_eq:= @decide_eq_true_eq
theorem IE:type_of% @List.sum_cons:= @List.sum_cons
def Ol(f:Nat→List cj)(n:Nat)(s:cj):bf:=(List.range n).filter fun q=>decide (s∈f q)
theorem adE(f:Nat→List cj)(n:Nat)(s:cj):Ol f (n+1) s=Ol f n s++(if s∈f n then [n] else []):=by
 unfold Ol;rw[lq,Es];congr 1;by_cases h:s∈f n<;>simp[h]
theorem R6{f:Nat→List cj}{n:Nat}{s:cj}:Ol f n s≠[]↔∃q,q<n∧s∈f q:=by
 unfold Ol;rw[Ne,List.filter_eq_nil_iff];simp only[kB,NY];constructor
 ·intro h;refine bH fun h2=>h fun q hq hs=>h2 ⟨q,hq,hs⟩
 ·rintro⟨q,h1,h2⟩ h3;exact h3 q h1 h2
def rU(f:Nat→List cj)(n:Nat):List cj:=sv ((List.range n).flatMap f)
def Jy(f:Nat→List cj)(n:Nat):List (bf):=(rU f n).map (Ol f n)
structure ze(f:Nat→List cj)(i:Nat)(part:List cj)(D:List B4):Prop where
 ids:∀s,vU s D=Ol f i s++(if s∈part then [i] else [])
 keys:∀s,s∈D.map (·.1)↔vU s D≠[]
 nd:(D.map (·.1)).Nodup
theorem ze.start(f:Nat→List cj):ze f 0 [] []:=⟨fun s=>by simp[vU,Ol],fun s=>by simp[vU],ak⟩
theorem ze.step{f:Nat→List cj}{i j:Nat}{T:List cj}{D:List B4}(h:ze f i (T.take j) D)(hn:T.Nodup)(hj:j<T.length)(A:bj)(c:Nat):ze f i (T.take (j+1)) (G_ (T.getD j []) A c i D):=by
 have hg:T.getD j []=T[j]:=by simp[List.getD,fm hj]
 have ua:T.take (j+1)=T.take j++[T[j]]:=by rw[sW,fm hj];rfl
 have asQ:T[j]∉T.take j:=by
  have h2:(T.take (j+1)).Nodup:=hn.sublist (Kx _ _);rw[ua,List.nodup_append]at h2;exact fun q=>h2.2.2 _ q _ ak rfl
 have hm:∀s,s∈T.take (j+1)↔s∈T.take j∨s=T[j]:=fun s=>by rw[ua,dz,lJ]
 rw[hg];refine⟨fun s=>?_,fun s=>?_,Ov _ _ _ _ _ h.nd⟩
 ·rw[Rb,h.ids s];by_cases e:s=T[j]
  ·rw[ao e,aw (fun q=>asQ (e▸q)),ao ((hm s).2 (.inr e)),gj]
  ·rw[aw e];by_cases q:s∈T.take j
   ·rw[ao q,ao ((hm s).2 (.inl q))]
   ·rw[aw q,aw (fun k=>((hm s).1 k).elim q e)]
 ·rw[Ky,Rb,h.keys s];by_cases e:s=T[j]
  ·simp[e]
  ·simp[e]
theorem LV.nd{l:List cj}(h:LV l):l.Nodup:=List.Pairwise.imp (fun {a b} (q:tr a b) (e:a=b)=>fU a (by rw[←e]at q;exact q)) h
theorem ze.next{f:Nat→List cj}{i:Nat}{D:List B4}(h:ze f i (f i) D):ze f (i+1) [] D:=
 ⟨fun s=>by rw[h.ids s,adE];simp,h.keys,h.nd⟩
theorem ze.done{f:Nat→List cj}{n:Nat}{D:List B4}(h:ze f n [] D):sv (D.map (·.1))=rU f n∧∀s,vU s D=Ol f n s:=by
 have hi:∀s,vU s D=Ol f n s:=fun s=>by rw[h.ids s];simp
 refine⟨vp (yN _) fun x=>?_,hi⟩;rw[rU,rC,h.keys,hi,R6,List.mem_flatMap];simp only[kB]
abbrev rK:=bj×Nat×bf
abbrev jL(e:rK):Value:=.slice e.1 e.2.2.length e.2.1
abbrev jK(e:rK):Ch:=.own 3 1 e.1 e.2.2.length e.2.1 (bx e.2.2)
def PY(t:cj):List B4→rK
 |[]=>(none,0,[])
 |e::r=>if t=e.1 then e.2 else PY t r
theorem adx(t:cj):∀D:List B4,((nB t (lk D) 0).map (·.2)).getD (.slice none 0 0)=jL (PY t D)
 |[]=>rfl
 |e::r=>by
  show((nB t ((e.1,Ra e)::lk r) 0).map (·.2)).getD _=_;unfold nB PY;by_cases h:t=e.1
  ·rw[ao h,ao h];rfl
  ·rw[aw h,aw h,uY,←adx t r];cases nB t (lk r) 0<;>rfl
theorem U4(t:cj):∀D:List B4,(PY t D).2.2=vU t D
 |[]=>rfl
 |e::r=>by
  unfold PY vU;split
  ·rfl
  ·exact U4 t r
theorem O0:∀D:List B4,(D.map (·.1)).Nodup→D.map tP=(D.map (·.1)).map fun t=>jK (PY t D)
 |[],_=>rfl
 |e::r,h=>by
  rw[kC,Et]at h;rw[kC,kC,kC];congr 1
  ·unfold PY;rw[ao rfl];rfl
  ·rw[O0 r h.2];apply sb;intro t ht;have sa:¬t=e.1:=fun q=>h.1 (q▸ht);show _=jK (PY t (e::r));rw[PY,aw sa]
theorem ZQ{D:List B4}(h:(D.map (·.1)).Nodup):(D.map tP).Perm (((sv (D.map (·.1))).map (PY · D)).map jK):=by
 have hp:(D.map (·.1)).Perm (sv (D.map (·.1))):=(List.perm_ext_iff_of_nodup h (yN _).nd).2 fun x=>(rC _ x).symm;have e:((sv (D.map (·.1))).map (PY · D)).map jK=(sv (D.map (·.1))).map (fun t=>jK (PY t D)):=vH;rw[O0 D h,e];exact hp.map _
theorem aiY{w:World}(P:aQ){D:List B4}{xs:bf}{o:Obj}{R:aQ}(h:(D.map tP).Perm (.own 3 1 A xs.length c (bx xs)::R)∨(A=none∧c=0∧xs=[]∧R=D.map tP))(hw:SL B w0 (P++ .obj g o::(D.map tP++F)) w):SL B w0 (.own 3 1 A xs.length c (bx xs)::(P++ .obj g o::(R++F))) w:=by
 rcases h with h|⟨rfl,rfl,rfl,rfl⟩
 ·refine hw.perm ?_;refine(List.Perm.append_left P ((((h.append_right F).cons (Ch.obj g o)).trans (.swap _ _ _)))).trans ?_;exact ym
 ·exact hw.CG 3 1 none
theorem acv(P:aQ){D':List B4}{o o':Obj}{R:aQ}{m:Nat}{xs ys:cV}(h:(D'.map tP).Perm (.own 3 1 A m c ys::R))(hx:xs=ys)(ho:o=o'):Wk (.own 3 1 A m c xs::(P++ .obj g o::(R++F))) (P++ .obj g o'::(D'.map tP++F)):=by
 subst hx;subst ho;refine .dE (List.Perm.symm ?_);refine(List.Perm.append_left P ((((h.append_right F).cons (Ch.obj g o)).trans (.swap _ _ _)))).trans ?_;exact ym
def trm(x:aI):List cj:=sw x.2.2.2 x.2.2.1
theorem ajq(x:aI):(trm x).length≤x.w:=by
 have h1:=uH (E5 x.2.2.2 x.2.2.1);have h2:=E6 x.2.2.2 x.2.2.1;unfold trm sw aI.w;omega
theorem afK{x:aI}{t:cj}(h:t∈trm x):t.length≤25:=by
 rcases dz.1 ((rC _ _).1 h)with h|h
 ·have:=(Lj h).2.1;omega
 ·obtain⟨u,hu,rfl⟩:=pQ.1 h;have:=(Lj hu).2.1;simp;omega
def AZ(L:List aI)(i:Nat):List cj:=trm (recAt L i)
theorem Ul{L:List aI}(hb:aK B w0 F 4 (.slice A L.length c) L.length (dh L))(hw:dU L≤1048576):
  a_ B w0 49 [.slice A L.length c] F (fun r K=>∃(A1:bj) (c1:Nat) (A2:bj) (c2:Nat) (LL:List rK),r= .agg [.slice A1 (rU (AZ L) L.length).length c1,.slice A2 (rU (AZ L) L.length).length c2].toArray∧
   K= .own 9 1 A1 (rU (AZ L) L.length).length c1 (strs (rU (AZ L) L.length)):: .own 53 1 A2 (rU (AZ L) L.length).length c2 (LL.map jL)::(LL.map jK++F)∧LL.map (·.2.2)=Jy (AZ L) L.length):=by
 have wR:L.length≤dU L:=by
  clear hb hw;induction L with
  |nil=>simp[dU]
  |cons x r ih=>simp only[dU,kC,IE,ef]at ih⊢;unfold aI.w at*;omega
 refine fw func49 60 [0] ?_;refine be ?_;refine bc fun g2=>?_;refine b8 ?_;refine cC (MZ) fun g11=>?_;refine cH ?_;refine aE (fun zf zL zm=>∃(i:Nat) (D:List B4),(i≤L.length∧ze (AZ L) i [] D∧D.length≤dU (L.take i))∧L.length-i=zm∧Sub zf [(2,br g2),(3,.map (some g11)),(12,.slice A L.length c),(13,ah L.length),(14,ah i)]∧Wk zL (.bE g2 90 [.slice none 0 0,.slice none 0 0]:: .obj g11 (VV (lk D))::(D.map tP++F))) _ ⟨0,[],⟨bS _,ze.start _,ak⟩,rfl,bp,.swap (.refl _)⟩ ?_;rintro _ _ _ ⟨i,D,⟨hi,hG,hDl⟩,rfl,hs,hp⟩;refine aU hs hp ?_;clear hs hp;refine bz ?_;refine aj (fun kL=>?_) fun kL=>?_
 ·obtain⟨tm,lv,src,tE,hx⟩:∃tm lv src tE,recAt L i=(tm,lv,src,tE):=⟨_,_,_,_,rfl⟩
  have qd:aK B w0 (D.map tP++F) 4 (.slice A L.length c) L.length (dh L):=hb.mono (gx _ _);have RJ:=lX (L:=L) (k:=i) aa;rw[hx]at RJ;have hws:=rJ (L:=L) (k:=i) aa;have CE:=qw L (i+1);have hrw:(recAt L i).w=16+src.length+tE.length:=by rw[hx];rfl
  obtain⟨T,hT⟩:=cK (AZ L i);have hTe:T=sw tE src:=by rw[hT];unfold AZ trm;rw[hx]
  have hTl:T.length≤src.length+tE.length:=by
   have h1:=uH (E5 tE src);have h2:=E6 tE src;rw[hTe];unfold sw;omega
  have hTn:T.Nodup:=by rw[hTe];exact(yN _).nd
  have htd:=fun F h1 h2=> @ajb B w0 F (.int .u64 tm) (.int .u8 (lv.toNat:Int)) tE src h1 h2;rw[←hTe]at htd;refine bI ?_;refine ab (di 4 ag rfl aA aa [.int .u64 tm,.int .u8 (lv.toNat:Int),.string ⟨src.toArray⟩,.string ⟨tE.toArray⟩] RJ rfl) rfl ?_;refine bc fun g5=>?_;refine bK ?_;refine ay rfl (htd _ aa aa) fun G' JL=>?_;refine bG ?_;refine aE (fun zf zL zm=>∃(j:Nat) (D2:List B4),(j≤T.length∧ze (AZ L) i (T.take j) D2∧D2.length≤dU (L.take i)+j)∧T.length-j=zm∧Sub zf [(2,br g2),(3,.map (some g11)),(4,ah i),(12,.slice A L.length c),(13,ah L.length),(14,ah i),(20,.slice G' T.length JL),(21,ah T.length),(22,ah j)]∧Wk zL (.own 9 1 G' T.length JL (strs T):: .bE g5 62 [.int .u64 tm,.int .u8 (lv.toNat:Int),.string ⟨src.toArray⟩,.string ⟨tE.toArray⟩]:: .bE g2 90 [.slice none 0 0,.slice none 0 0]:: .obj g11 (VV (lk D2))::(D2.map tP++F))) _ ⟨0,D,⟨bS _,by rw[z8];exact hG,aa⟩,rfl,bp,.refl _⟩ ?_;rintro _ _ _ ⟨j,D2,⟨hj,hG2,atU⟩,rfl,hs,hp⟩;refine aU hs hp ?_;clear hs hp;refine bz ?_;refine aj (fun m7=>?_) fun m7=>?_
  ·refine bK ?_;refine ab (gN (b:=T) (j:=j) ag rfl aA aa) rfl ?_;refine bA ?_;obtain⟨AG,cG,RG,hGv,hGs,hGb⟩:=U_ (T.getD j []) D2;have asC:=hG2.ids (T.getD j []);have hil:(vU (T.getD j []) D2).length≤i+1:=by
    rw[asC];have:(Ol (AZ L) i (T.getD j [])).length≤i:=by unfold Ol;exact jc (BG _ _) ak
    rw[aY];split<;>simp only[ef,sd]<;>omega
   refine aru (fun w hw=>aiY [.own 9 1 G' T.length JL (strs T),.bE g5 62 [.int .u64 tm,.int .u8 (lv.toNat:Int),.string ⟨src.toArray⟩,.string ⟨tE.toArray⟩],.bE g2 90 [.slice none 0 0,.slice none 0 0]] hGs hw) ?_;refine bG ?_;refine ab (DC (zv:=(.slice none 0 0)) underlying140 underlying9 (Xj ag) rfl rfl aV) rfl ?_;rw[hGv];refine aF ?_;refine dF fJ rfl rfl rfl rfl rfl (fun _=>rfl) aV aa aa ?_;intro _ PS c33;refine kN (GA underlying140 underlying9 rfl rfl rfl aV) ?_;refine bK ?_;refine av ⟨_,aa,j+1,G_ (T.getD j []) PS c33 i D2,⟨aa,hG2.step hTn aa PS c33,by have:=afY (T.getD j []) PS c33 i D2;omega⟩,rfl,bp,acv [_,_,_] (hGb PS c33 i) sL (by rw[Wc])⟩
  ·obtain rfl:j=T.length:=by omega
   rw[jS,hT]at hG2;have hGn:=hG2.next;refine bB ?_;refine av ⟨_,aa,i+1,D2,⟨aa,hGn,aa⟩,rfl,bp,.skip (.skip (.refl _))⟩
 ·obtain rfl:i=L.length:=by omega
  rw[jS]at hDl;obtain⟨hd1,Yz⟩:=hG.done;have asF:∀p∈lk D,p.1.length≤1000000000:=fun p hp=>by
   obtain⟨e,he,rfl⟩:=pQ.1 hp;have h1:=(hG.keys e.1).1 (pQ.2 ⟨e,he,rfl⟩);rw[Yz,R6]at h1;obtain⟨q,_,h2⟩:=h1;have:=afK h2;show e.1.length≤_;omega
  have wQ:(lk D).map (·.1)=D.map (·.1):=by simp[lk]
  have GM:(lk D).length=D.length:=by simp[lk]
  have hrp:=ZQ hG.nd;obtain⟨T0,hT0⟩:=cK (sv (D.map (·.1)));have atV:T0.length≤D.length:=by
   have:=uH (D.map (·.1));rw[hT0];simpa using this
  have hso:=fun F g b=> @aeW B w0 F (lk D) g b (by rw[wQ];exact hG.nd) aa asF;rw[wQ,←hT0]at hso;rw[←hT0]at hrp hd1;rw[←hd1];refine bK ?_;refine bc fun g8=>?_;refine bz ?_;refine aX arV rfl (amz g11) rfl ?_;rintro _ _ ⟨g37,rfl,cA⟩;obtain rfl:=cA.symm;refine ay rfl ((hso _ g37 g11).perm ((fR (BM (fR (fR (.refl _))))))) fun LP PU=>?_;refine bG ?_;refine aZ 9 1 none ?_;refine aZ 53 1 none ?_;refine aE (fun zf zL zm=>∃(k:Nat) (B1:bj) (b1:Nat) (B2:bj) (b2:Nat),(k≤T0.length)∧T0.length-k=zm∧Sub zf [(2,br g2),(3,.map (some g11)),(8,br g8),(38,.slice LP T0.length PU),(39,ah T0.length),(40,ah k)]∧Wk zL (.own 9 1 B1 k b1 (strs (T0.take k)):: .own 53 1 B2 k b2 ((T0.take k).map fun t=>jL (PY t D)):: .bE g8 90 [.slice B1 k b1,.slice B2 k b2]:: .own 9 1 LP T0.length PU (strs T0):: .bE g37 140 [.map (some g11)]:: .bE g2 90 [.slice none 0 0,.slice none 0 0]:: .obj g11 (VV (lk D))::(D.map tP++F))) _ ⟨0,none,0,none,0,bS _,rfl,bp,(gk (ed (tF (ed (ed (gk (ed (.refl _))))))))⟩ ?_;rintro _ _ _ ⟨k,B1,b1,B2,b2,hk,rfl,hs,hp⟩;refine aU hs hp ?_;clear hs hp;refine bz ?_;refine aj (fun GH=>?_) fun GH=>?_
  ·have ua:T0.take (k+1)=T0.take k++[T0.getD k []]:=by
    rw[sW,fm (show k<T0.length by omega)];simp[List.getD,fm (show k<T0.length by omega)]
   refine bK ?_;refine ab (gN (b:=T0) (j:=k) ag rfl aA aa) rfl ?_;refine bI ?_;refine dF Fs rfl rfl rfl rfl rfl (fun _=>rfl) aV aa aa ?_;intro _ A48 c48;refine bO ?_;refine ab (DC (zv:=(.slice none 0 0)) underlying140 underlying9 (Xj ag) rfl rfl aV) rfl ?_;rw[adx];refine dF akJ rfl rfl rfl rfl rfl (fun _=>rfl) aV aa aa ?_;intro _ A56 c56;refine be ?_;refine ve [2,3,8,38,39,40] ?_;refine bz ?_;refine av ⟨_,aa,k+1,A48,c48,A56,c56,aa,rfl,bp,ax rfl (by rw[ua];simp[strs]) (ax rfl (by rw[ua];simp) (.refl _))⟩
  ·obtain rfl:k=T0.length:=by omega
   rw[jS];refine cH ?_;refine I4 rfl rfl ag aV gA (.cons (.cons (.skip (.skip (.skip (.skip (.skip (.dE (hrp.append_right F))))))))) ?_;exact⟨B1,b1,B2,b2,T0.map (PY · D),rfl,by rw[show(T0.map (PY · D)).map jL=T0.map (fun t=>jL (PY t D)) from vH],by rw[vH,Jy,←hd1];exact sb fun t _=>(U4 t D).trans (Yz t)⟩
def CZ(l1 l2:List cj)(k:Nat):Prop:=l1.take k=l2.take k
theorem CZ.step{l1 l2:List cj}{k:Nat}(h:CZ l1 l2 k)(h1:k<l1.length)(h2:k<l2.length)(he:l1.getD k []=l2.getD k []):CZ l1 l2 (k+1):=by
 unfold CZ at*;rw[sW,sW,h];congr 1;rw[fm h1,fm h2];simp[List.getD,fm h1,fm h2]at he;rw[he]
theorem CZ.all{l1 l2:List cj}{k:Nat}(h:CZ l1 l2 k)(h1:¬k<l1.length)(h2:l1.length=l2.length):l1=l2:=by
 unfold CZ at h
 rwa [fA aa,fA aa]at h
theorem alc{P:Prop}(h:P:=by(rw[lu (fun h=>by rw[h]at jx;exact jx rfl)])):P:=h
theorem aoP{P:Prop}(h:P:=by(rw[lu (fun h=>by rw[h]at oh;exact oh rfl)])):P:=h
theorem vv{M N:aQ}(h:Wk M N):∀R:aQ,Wk (R++M) N
 |[]=>h
 |_::R=>.skip (vv h R)
abbrev Ls:=bj×Nat×List Int
abbrev zP(e:Ls):Value:=.slice e.1 e.2.2.length e.2.1
abbrev re:Ls:=(none,0,[])
def ma(B:Nat)(w0:World)(F:aQ)(LL:List Ls):Prop:=∀e∈LL,aK B w0 F 1 (.slice e.1 e.2.2.length e.2.1) e.2.2.length (ints .i64 e.2.2)
theorem ma.cons{LL:List Ls}{q:Ch}(h:ma B w0 F LL):ma B w0 (q::F) LL:=fun e he=>(h e he).cons
theorem ma.mono{LL:List Ls}{M:aQ}(h:ma B w0 F LL)(hs:F.Sublist M):ma B w0 M LL:=fun e he=>(h e he).mono hs
theorem ma.get{LL:List Ls}(h:ma B w0 F LL){k:Nat}(hk:k<LL.length):aK B w0 F 1 (.slice (LL.getD k re).1 (LL.getD k re).2.2.length (LL.getD k re).2.1) (LL.getD k re).2.2.length (ints .i64 (LL.getD k re).2.2):=h _ (bg hk re)
theorem ams{LL:List Ls}{k:Nat}(hk:k<LL.length):(LL.map zP)[k*1]? =some (zP (LL.getD k re)):=by
 rw[cE,jq,fm hk];simp[List.getD,fm hk]
theorem aqI{l:List Int}{k:Nat}(h:k<l.length):(ints .i64 l)[k*1]? =some (ah (l.getD k 0)):=by
 rw[cE,ints,jq,fm h];simp[List.getD,fm h]
theorem apM{l l2:List Int}(h1:aK B w0 F 1 (.slice A l.length c) l.length (ints .i64 l))(h2:aK B w0 F 1 (.slice A2 l2.length c2) l2.length (ints .i64 l2))(hl:l.length≤9223372036854775807):
  a_ B w0 241 [.slice A l.length c,.slice A2 l2.length c2] F (fun r L=>r= .bool (decide (l=l2))∧L=F):=by
 refine fw func241 26 [0,1] ?_;refine jk ?_;refine aj (fun jx=>?_) fun jx=>?_
 ·refine bI ?_;exact⟨alc,rfl⟩
 ·refine cZ ?_;refine aE (fun zf zL zm=>∃(k:Nat),(k≤l.length∧l.take k=l2.take k)∧l.length-k=zm∧Sub zf [(0,.slice A l.length c),(1,.slice A2 l2.length c2),(12,ah l.length),(13,ah k)]∧Wk zL (F)) _ ⟨0,⟨bS _,rfl⟩,rfl,bp,.refl _⟩ ?_;rintro _ _ _ ⟨k,⟨hk,heq⟩,rfl,hs,hp⟩;refine aU hs hp ?_;clear hs hp;refine bz ?_;refine aj (fun jZ=>?_) fun jZ=>?_
  ·refine jk ?_;refine bZ (au ag rfl aA aa (aqI (l:=l) (k:=k) aa)) rfl ?_;refine bA ?_;refine bZ (au ag rfl aA aa (aqI (l:=l2) (k:=k) aa)) rfl ?_;refine bA ?_;refine aj (fun oh=>?_) fun oh=>?_
   ·refine cH ?_;exact⟨aoP,rfl⟩
   ·refine bK ?_;refine av ⟨_,aa,k+1,⟨aa,by rw[ba aa 0,ba aa 0,heq,show l.getD k 0=l2.getD k 0 by omega]⟩,rfl,bp,.refl _⟩
  ·refine cH ?_;have e:l=l2:=by
    have:=heq
    rwa [fA aa,fA aa]at this
   exact⟨by rw[jT e],rfl⟩
theorem apN{l l2:List cj}(h1:aK B w0 F 1 (.slice A l.length c) l.length (strs l))(h2:aK B w0 F 1 (.slice A2 l2.length c2) l2.length (strs l2))(hl:l.length≤9223372036854775807):
  a_ B w0 239 [.slice A l.length c,.slice A2 l2.length c2] F (fun r L=>r= .bool (decide (l=l2))∧L=F):=by
 refine fw func239 26 [0,1] ?_;refine jk ?_;refine aj (fun jx=>?_) fun jx=>?_
 ·refine bI ?_;exact⟨alc,rfl⟩
 ·refine cZ ?_;refine aE (fun zf zL zm=>∃(k:Nat),(k≤l.length∧l.take k=l2.take k)∧l.length-k=zm∧Sub zf [(0,.slice A l.length c),(1,.slice A2 l2.length c2),(12,ah l.length),(13,ah k)]∧Wk zL (F)) _ ⟨0,⟨bS _,rfl⟩,rfl,bp,.refl _⟩ ?_;rintro _ _ _ ⟨k,⟨hk,heq⟩,rfl,hs,hp⟩;refine aU hs hp ?_;clear hs hp;refine bz ?_;refine aj (fun jZ=>?_) fun jZ=>?_
  ·refine jk ?_;refine bZ (gN (b:=l) (j:=k) ag rfl aA aa) rfl ?_;refine bA ?_;refine bZ (gN (b:=l2) (j:=k) ag rfl aA aa) rfl ?_;refine bA ?_;refine aj (fun oh=>?_) fun oh=>?_
   ·refine cH ?_;exact⟨aoP,rfl⟩
   ·refine bK ?_;refine av ⟨_,aa,k+1,⟨aa,by rw[ba aa [],ba aa [],heq,jG.1 oh]⟩,rfl,bp,.refl _⟩
  ·refine cH ?_;have e:l=l2:=by
    have:=heq
    rwa [fA aa,fA aa]at this
   exact⟨by rw[jT e],rfl⟩
def fT(LL:List Ls):List (List Int):=LL.map (·.2.2)
theorem adh{L1 L2:List Ls}{k:Nat}(h:(fT L1).take k=(fT L2).take k)(h1:k<L1.length)(h2:k<L2.length)(he:(L1.getD k re).2.2=(L2.getD k re).2.2):(fT L1).take (k+1)=(fT L2).take (k+1):=by
 have hg:∀(L:List Ls) (hk:k<L.length),(fT L)[k]? =some (L.getD k re).2.2:=fun L hk=>by
  rw[fT,jq,fm hk];simp[List.getD,fm hk]
 rw[sW,sW,h,hg L1 h1,hg L2 h2,he]
theorem C_(L:List aI):∀i,i≤L.length→((List.range i).flatMap (AZ L)).length≤dU (L.take i)
 |0,_=>by simp
 |i+1,h=>by
  have ih:=C_ L i aa;have hw:=rJ (L:=L) (k:=i) aa;have:=ajq (recAt L i);rw[lq,uf,aY,hw];simp only[jI,List.flatMap_nil,gj];show _+(trm (recAt L i)).length≤_;omega
def toI(LL:List rK):List Ls:=LL.map fun e=>(e.1,e.2.1,e.2.2.map (fun(n:Nat)=>(n:Int)))
theorem W0(LL:List rK):(toI LL).map zP=LL.map jL:=by
 unfold toI;rw[vH];apply sb;intro e _;simp[zP,jL]
theorem CS(LL:List rK):(toI LL).length=LL.length:=by simp[toI]
theorem yT(LL:List rK):fT (toI LL)=(LL.map (·.2.2)).map fun l=>l.map (fun(n:Nat)=>(n:Int)):=by
 simp[fT,toI]
theorem WZ{LL:List rK}{L:aQ}(h:∀e∈LL,jK e∈L):ma B w0 L (toI LL):=fun e he=>by
 obtain⟨a,ha,rfl⟩:=pQ.1 he;have:=aK.own (B:=B) (w0:=w0) (h a ha);simpa[bx,ints,vH,Function.comp_def]using this
end Go.Proofs.YtaodmbolhoafcaaGreatDoor

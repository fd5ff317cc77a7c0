/-
  Texts of one proof, joined: part 15. No condition.
-/
import Derived.Test.YtaodmbolhoafcaaGreatDoorZo14
import Derived.Test.YtaodmbolhoafcaaGreatDoorRows
import Derived.JoinedOf
import Derived.RowKit
import Derived.Test.YtaodmbolhoafcaaGreatDoorCards
import Derived.SevenTiedAt
open Go.RowKit Go.Proofs.Tryz
namespace Go.Proofs.YtaodmbolhoafcaaGreatDoor
set_option linter.unusedVariables false
set_option linter.unusedSimpArgs false
set_option maxRecDepth 20000
variable{B:Nat}{w0:World}{F L0:aQ}{A A1 A2 Ao:bj}{n n2 c c1 c2 co g gc:Nat}
theorem alj{P:Prop}(h:P:=by(rw[hx4];exact JH (by omega))):P:=h
theorem aoE{P:Prop}(h:P:=by(first|exact .inl mE|exact⟨fun k=>.inr k,fun k=>k.resolve_left mE⟩)):P:=h
theorem aoF{P:Prop}(h:P:=by(first|exact .inl pV|exact⟨fun k=>.inr k,fun k=>k.resolve_left pV⟩)):P:=h
theorem anl{x:Nat}(hx:x<4294967296):a_ B w0 244 [.int .u32 (x:Int)] F (fun r L=>∃y:Nat,r= .int .u32 (y:Int)∧y<4294967296∧L=F):=by
 refine fw func244 11 [0] ?_;refine bO ?_;refine ab (nt rfl rfl aB (r:=((x%2:Nat):Int)) rfl) rfl ?_;refine bA ?_;refine aj (fun h5=>?_) fun h5=>?_
 ·refine bA ?_;refine ab (mh rfl rfl aB (r:=((x/2:Nat):Int)) (yZ (x:=((x/2:Nat):Int)) aa aa)) rfl ?_;refine ab (lD rfl rfl (r:=((x/2 ^^^ 3988292384:Nat):Int)) (Jo aa aB)) rfl ?_;refine bz ?_;exact⟨_,rfl,vZ (n:=32) aa aB,rfl⟩
 ·refine bG ?_;refine ab (mh rfl rfl aB (r:=((x/2:Nat):Int)) (yZ (x:=((x/2:Nat):Int)) aa aa)) rfl ?_;refine bG ?_;exact⟨_,rfl,aa,rfl⟩
theorem aiO{s:Nat}{l:al}(hs:s<4294967296)(e:n=l.length)(hb:aK B w0 F 1 (.slice A n c) n (bv l))(hl:l.length≤1099511627776):a_ B w0 201 [.int .u32 (s:Int),.slice A n c] F (fun r L=>∃y:Nat,r= .int .u32 (y:Int)∧y<4294967296∧L=F):=by
 subst e;refine cm func201 31 rfl rfl rfl [(0,.int .u32 (s:Int)),(1,.slice A l.length c)] ⟨⟨rfl,rfl⟩,⟨rfl,rfl⟩,trivial⟩ ?_;refine bI ?_;refine ab (dw rfl rfl (r:=((4294967295-s:Nat):Int)) ((yZ aa aa).trans aa)) rfl ?_;refine bB ?_;refine aE (fun zf zL zm=>∃(k x:Nat),(k≤l.length∧x<4294967296)∧l.length-k=zm∧Sub zf [(1,.slice A l.length c),(5,.int .u32 (x:Int)),(6,ah (k:Int))]∧Wk zL (F)) _ ⟨0,4294967295-s,⟨bS _,aa⟩,rfl,bp,.refl _⟩ ?_;rintro _ _ _ ⟨k,x,⟨hk,hx⟩,rfl,hs,hp⟩;refine aU hs hp ?_;clear hs hp;refine bO ?_;refine aj (fun mE=>?_) fun mE=>?_
 ·obtain⟨d,hd⟩:=cK (l.getD k 0);have hd8:=lT d;refine bB ?_;refine ab (au (v:=.int .u8 (d.toNat:Int)) ag rfl aA aa (by rw[hd];exact JH aa)) rfl ?_;refine ab (bm (r:=(d.toNat:Int)) underlying5 underlying135 rfl (yZ aa aa)) rfl ?_;refine ab (lD rfl rfl (r:=((x ^^^ d.toNat:Nat):Int)) (Jo hx aa)) rfl ?_;refine bO ?_;refine aE (fun zf zL zm=>∃(j y:Nat),(j≤8∧y<4294967296)∧8-j=zm∧Sub zf [(1,.slice A l.length c),(5,.int .u32 (y:Int)),(6,ah (k:Int)),(7,ah (j:Int))]∧Wk zL (F)) _ ⟨0,x ^^^ d.toNat,⟨bS _,vZ (n:=32) hx aa⟩,rfl,bp,.refl _⟩ ?_;rintro _ _ _ ⟨j,y,⟨hj,hy⟩,rfl,hs,hp⟩;refine aU hs hp ?_;clear hs hp;refine bK ?_;refine aj (fun oh=>?_) fun oh=>?_
  ·refine bz ?_;refine aX apo rfl (anl hy) rfl ?_;rintro _ _ ⟨z,rfl,hz,cA⟩;obtain rfl:=cA.symm;refine bO ?_;refine av ⟨_,aa,j+1,z,⟨aa,hz⟩,rfl,bp,.refl _⟩
  ·refine cZ ?_;refine av ⟨_,aa,k+1,y,⟨aa,hy⟩,rfl,bp,.refl _⟩
 ·refine bI ?_;refine ab (dw rfl rfl (r:=((4294967295-x:Nat):Int)) ((yZ aa aa).trans aa)) rfl ?_;refine bG ?_;exact⟨_,rfl,aa,rfl⟩
theorem ant{l:al}(e:n=l.length)(hb:aK B w0 F 1 (.slice A n c) n (bv l))(hl:l.length≤1099511627776):a_ B w0 141 [.slice A n c] F (fun r L=>∃y:Nat,r= .int .u32 (y:Int)∧y<4294967296∧L=F):=by
 refine fw func141 5 [0] ?_;refine bI ?_;refine aX apb rfl (aiO (s:=0) aB e hb hl) rfl ?_;rintro _ _ ⟨z,rfl,hz,cA⟩;obtain rfl:=cA.symm;refine bG ?_;exact⟨z,rfl,hz,rfl⟩
theorem ans{l:al}(e:n=l.length)(hb:aK B w0 F 1 (.slice A n c) n (bv l))(hl:l.length≤1000000000):a_ B w0 78 [.slice A n c] F (fun r L=>∃A' c' l',r= .slice A' (l':al).length c'∧L= .own 5 1 A' l'.length c' (bv l')::F):=by
 subst e;refine cm func78 24 rfl rfl rfl [(0,.slice A l.length c)] ⟨⟨rfl,rfl⟩,trivial⟩ ?_;refine bI ?_;refine aX ao3 rfl (ant rfl hb aa) rfl ?_;rintro _ _ ⟨z,rfl,hz,cA⟩;obtain rfl:=cA.symm;refine bG ?_;refine cC (lE cD) fun A8=>?_;refine aF ?_;refine fM (bT cD rfl aV rfl aA cw aa aa) fun wu F8=>?_;refine bG ?_;rw[mw,nG];refine bG ?_;refine aE (fun zf zL zm=>∃(k s:Nat) (acc:al) (A':bj) (c':Nat),(k≤4∧s<4294967296∧acc.length=l.length+k)∧4-k=zm∧Sub zf [(3,.int .u32 (s:Int)),(4,.slice A' acc.length c'),(5,ah (k:Int))]∧Wk zL (.own 5 1 A' acc.length c' (bv acc)::F)) _ ⟨0,z,l,wu,F8,⟨bS _,hz,rfl⟩,rfl,bp,.refl _⟩ ?_;rintro _ _ _ ⟨k,s,acc,A',c',⟨hk,hs,D_⟩,rfl,hs,hp⟩;refine aU hs hp ?_;clear hs hp;refine bK ?_;refine aj (fun mD=>?_) fun mD=>?_
 ·refine bI ?_;refine ab (nt rfl rfl aB (r:=((s%256:Nat):Int)) rfl) rfl ?_;refine ab (bm (r:=((UInt8.ofNat (s%256)).toNat:Int)) underlying135 underlying5 rfl (u8w (s%256))) rfl ?_;refine dF cD rfl rfl rfl rfl rfl (fun _=>rfl) aV aa aa ?_;intro _ G' JL;obtain⟨q,hq⟩:=cK (acc++[UInt8.ofNat (s%256)]);have hq1:acc.length+1=q.length:=by rw[hq];simp
  have RI:bv acc++[Value.int .u8 ((UInt8.ofNat (s%256)).toNat:Int)]=bv q:=by rw[hq];simp[bv]
  rw[hq1,RI];refine bG ?_;refine ab (mh rfl rfl aB (r:=((s/256:Nat):Int)) (yZ (x:=((s/256:Nat):Int)) aa aa)) rfl ?_;refine bO ?_;refine av ⟨_,aa,k+1,s/256,q,G',JL,⟨aa,aa,aa⟩,rfl,bp,.refl _⟩
 ·refine dc ?_;exact⟨_,_,acc,rfl,rfl⟩
theorem anm{l:al}(e:n=l.length)(hb:aK B w0 F 1 (.slice A n c) n (bv l))(hl:l.length≤1000000000):a_ B w0 72 [.slice A n c] F (fun r L=>∃(v:Value) (e:Int) (Y:aQ),r= .tuple #[v,ah e]∧L=Y++F):=by
 subst e;refine dL.xk hb fun mm _=>?_;refine cm func72 23 rfl rfl rfl [(0,.slice A l.length c)] ⟨⟨rfl,rfl⟩,trivial⟩ ?_;refine dQ ?_;refine aj (fun h6=>?_) fun h6=>?_
 ·refine bO ?_;exact⟨_,_,[],rfl,rfl⟩
 ·obtain⟨m,hm⟩:=cK (l.length-4);have hmm:(l.length:Int)-4=(m:Int):=by omega
  have wP:aK B w0 F 1 (.slice A m c) m (bv (l.take m)):=by
   have:=hb.iY (k:=m) aa;rw[jX,cE]at this;exact this
  have y':(l.take m).length=m:=by rw[eS];omega
  refine bO ?_;refine ab (bN (i:=m) (size:=1) underlying27 ag rfl rfl hmm aa) rfl ?_;refine dX rfl (ans (l:=l.take m) y'.symm wP aa) fun Ap cp lp=>?_;refine aF ?_;refine ai rfl (aeO (l:=lp) (l2:=l) (aK.own (.head _)) hb.cons) ?_;refine bA ?_;refine aj (fun kL=>?_) fun kL=>?_
  ·refine bO ?_;exact⟨_,_,[_],rfl,rfl⟩
  ·refine b8 ?_;refine cC (lE cD) fun Xk=>?_;refine b8 ?_;refine ab (bN (i:=m) (size:=1) underlying27 ag rfl rfl hmm aa) rfl ?_;refine fM (bT cD rfl aV rfl wP.cons.cons (qz _) aa aa) fun A22 c22=>?_;refine be ?_;refine ve [2,3] ?_;refine bA ?_;exact⟨_,_,[_,_],rfl,rfl⟩
theorem I5{l:al}(e:n=l.length)(hb:aK B w0 F 1 (.slice A n c) n (bv l))(hl:l.length≤1000000000):a_ B w0 34 [.slice A n c] F (fun r L=>∃(v e:Int),r= .tuple #[ah v,ah e]∧L=F):=by
 subst e;refine cm func34 43 rfl rfl rfl [(0,.slice A l.length c)] ⟨⟨rfl,rfl⟩,trivial⟩ ?_;refine dQ ?_;refine aj (fun h6=>?_) fun h6=>?_
 ·refine bO ?_;exact⟨_,_,rfl,rfl⟩
 ·obtain⟨x0,YM⟩:=cK ((l.getD 0 0).toNat);obtain⟨x4,hx4⟩:=cK ((l.getD 4 0).toNat);have h8:x4<256:=by rw[hx4];exact lT _
  refine bz ?_;refine ab (aC (i:=0) (size:=1) underlying27 ag rfl rfl rfl aa aA) rfl ?_;refine bA ?_;refine aL rfl rfl rfl (fun pn=>?_) (fun pn=>?_)
  ·refine be ?_;refine ab (aC (i:=1) (size:=1) underlying27 ag rfl rfl rfl aa aA) rfl ?_;refine bz ?_;refine aL rfl rfl rfl (fun iF=>?_) (fun iF=>?_)
   ·refine be ?_;refine ab (aC (i:=2) (size:=1) underlying27 ag rfl rfl rfl aa aA) rfl ?_;refine bz ?_;refine aL rfl rfl rfl (fun m7=>?_) (fun m7=>?_)
    ·refine be ?_;refine ab (aC (i:=3) (size:=1) underlying27 ag rfl rfl rfl aa aA) rfl ?_;refine bG ?_;refine ve [0,28] ?_;refine aF ?_;refine aj (fun qF=>?_) fun qF=>?_
     ·refine bO ?_;exact⟨_,_,rfl,rfl⟩
     ·refine bz ?_;refine ab (aC (i:=4) (size:=1) underlying27 ag rfl rfl rfl aa aA) rfl ?_;refine ab (au (v:=.int .u8 (x4:Int)) ag rfl aA aa alj) rfl ?_;refine be ?_;refine aL rfl rfl rfl (fun h33=>?_) (fun h33=>?_)
      ·refine be ?_;refine ab (aC (i:=4) (size:=1) underlying27 ag rfl rfl rfl aa aA) rfl ?_;refine aF ?_;refine ab (au (v:=.int .u8 (x4:Int)) ag rfl aA aa alj) rfl ?_;refine bG ?_;refine aj (fun CA=>?_) fun CA=>?_
       ·refine bO ?_;exact⟨_,_,rfl,rfl⟩
       ·refine bG ?_;refine ab (aC (i:=4) (size:=1) underlying27 ag rfl rfl rfl aa aA) rfl ?_;refine ab (au (v:=.int .u8 (x4:Int)) ag rfl aA aa alj) rfl ?_;refine ab (bm underlying5 underlying3 rfl (r:=(x4:Int)) (bF aa aa)) rfl ?_;refine bz ?_;exact⟨_,_,rfl,rfl⟩
      ·refine jQ ?_;exact⟨_,_,rfl,rfl⟩
    ·refine b8 ?_;refine ve [0,28] ?_;refine cZ ?_;exact⟨_,_,rfl,rfl⟩
   ·refine bB ?_;refine ve [0,28] ?_;refine cZ ?_;exact⟨_,_,rfl,rfl⟩
  ·refine jQ ?_;refine ve [0,28] ?_;refine cZ ?_;exact⟨_,_,rfl,rfl⟩
theorem AN{l:al}(e:n=l.length)(hb:aK B w0 F 1 (.slice A n c) n (bv l))(hl:l.length≤1000000000):a_ B w0 31 [.slice A n c] F (fun r L=>∃(x:Bool),r= .bool x∧L=F):=by
 refine fw func31 27 [0] ?_;refine bI ?_;refine dX rfl (anm e hb hl) fun v9 e9 Y=>?_;refine bI ?_;refine wq (dv Y F) ?_;refine be ?_;refine ay rfl (I5 e hb hl) fun v14 e14=>?_;refine bO ?_;refine bU 10 26 [] (e9=0∧e14=0∧v14=3) ?_ ?_
 ·refine bA ?_;refine cM (fun pV=>?_) fun pV=>?_
  ·refine bG ?_;refine cM (fun m7=>?_) fun m7=>?_
   ·refine b8 ?_;exact aP aoo
   ·refine be ?_;exact aP agz
  ·refine bz ?_;exact aP agz
 ·refine bG ?_;exact⟨_,rfl,rfl⟩
theorem ano{b:al}(hb:eM B w0 F A c b)(h42:b.length<42):a_ B w0 71 [.slice A b.length c] F (fun r L=>∃(x:Bool),r= .bool x∧L=F∧(x=true→42≤b.length)):=by
 refine fw func71 19 [0] ?_;refine cZ ?_;refine cM (fun h6=>?_) fun h6=>?_
 ·exfalso;omega
 ·refine cH ?_;refine ve [2] ?_;refine bA ?_;exact⟨false,rfl,rfl,fun k=>by cases k⟩
theorem anp{b:al}(hb:eM B w0 F A c b)(de:b.length≤1000000000)(mm:b.length≤c)(h42:¬b.length<42):a_ B w0 71 [.slice A b.length c] F (fun r L=>∃(x:Bool),r= .bool x∧L=F∧(x=true→42≤b.length)):=by
 have ha:=Uz h42 hb;have hz:=UA h42 hb;have l1:(b.take 21).length=21:=by rw[eS];omega
 have l2:(b.drop (b.length-21)).length=b.length-(b.length-21):=by rw[iG]
 refine fw func71 19 [0] ?_;refine cZ ?_;refine cM (fun h6=>?_) fun h6=>?_
 ·refine be ?_;refine ab (bN (i:=21) (size:=1) underlying27 ag rfl rfl rfl aa) rfl ?_;refine aF ?_;refine aX alz rfl (AN (l:=b.take 21) l1.symm ha aa) rfl ?_;rintro _ _ ⟨x9,rfl,cA⟩;obtain rfl:=cA.symm;refine be ?_;refine kK rfl rfl rfl (fun jx=>?_) (fun jx=>?_)
  ·refine bz ?_;refine ab (dw rfl rfl (r:=((b.length-21:Nat):Int)) ((bF aa aa).trans aa)) rfl ?_;refine aF ?_;refine ab (bQ (i:=b.length-21) (size:=1) underlying27 ag rfl rfl rfl aa) rfl ?_;refine aF ?_;refine aX alz rfl (AN (l:=b.drop (b.length-21)) l2.symm hz aa) rfl ?_;rintro _ _ ⟨x16,rfl,cA⟩;obtain rfl:=cA.symm;refine b8 ?_;refine ve [2] ?_;refine bA ?_;exact⟨_,rfl,rfl,fun _=>aa⟩
  ·refine bO ?_;refine ve [2] ?_;refine bA ?_;exact⟨_,rfl,rfl,fun _=>aa⟩
 ·exfalso;omega
theorem anq{b:al}(hb:eM B w0 F A c b)(de:b.length≤1000000000):a_ B w0 71 [.slice A b.length c] F (fun r L=>∃(x:Bool),r= .bool x∧L=F∧(x=true→42≤b.length)):=by
 refine dL.xk hb fun mm _=>?_;by_cases h42:b.length<42
 ·exact ano hb h42
 ·exact anp hb de mm h42
theorem SP{b:al}(hb:eM B w0 F A c b)(de:b.length≤1000000000):a_ B w0 30 [.slice A b.length c] F (fun r L=>∃(v e:Int),r= .tuple #[ah v,ah e]∧L=F∧(v=3→42≤b.length)):=by
 refine fw func30 23 [0] ?_;refine bO ?_;refine ay rfl (I5 rfl hb de) fun v8 e8=>?_;refine bB ?_;refine bU 6 16 [0,4,5] (v8=1∨v8=2) ?_ ?_
 ·refine bA ?_;refine aL rfl rfl rfl (fun mE=>?_) (fun mE=>?_)
  ·refine b8 ?_;exact aP (by exact dN aoE)
  ·refine be ?_;exact aP (by exact ej aoE)
 ·refine be ?_;refine aj (fun ki=>?_) fun ki=>?_
  ·refine bB ?_;exact⟨_,_,rfl,rfl,fun k=>aa⟩
  ·refine bz ?_;refine aX arT rfl (anq hb de) rfl ?_;rintro _ _ ⟨x19,rfl,cA,as8⟩;obtain rfl:=cA.symm;refine be ?_;refine gZ (fun pV=>?_) fun pV=>?_
   ·refine bO ?_;exact⟨_,_,rfl,rfl,fun k=>as8 pV⟩
   ·refine bO ?_;refine aj (fun l0=>?_) fun l0=>?_
    ·refine bO ?_;exact⟨_,_,rfl,rfl,fun k=>aa⟩
    ·refine cZ ?_;exact⟨_,_,rfl,rfl,fun k=>aa⟩
theorem OX{b:al}{most:Nat}(hb:eM B w0 F A c b)(hm:most≤1000000000)(de:b.length≤9223372036854775807):a_ B w0 16 [.slice A b.length c,ah (most:Int)] F (fun r L=>∃(x:Bool),r= .bool x∧L=F∧(x=false→b.length≤most)):=by
 refine dL.xk hb fun mm _=>?_;refine fw func16 43 [0,1] ?_;refine dQ ?_;refine aj (fun pn=>?_) fun pn=>?_
 ·refine bI ?_;exact⟨true,rfl,rfl,fun k=>by cases k⟩
 ·refine bG ?_;refine aX arP rfl (SP hb aa) rfl ?_;rintro _ _ ⟨v14,e14,rfl,cA,hv⟩;obtain rfl:=cA.symm;refine bB ?_;refine bU 6 22 [0] (¬e14=0∨¬v14=3) ?_ ?_
  ·refine bA ?_;refine aL rfl rfl rfl (fun pV=>?_) (fun pV=>?_)
   ·refine b8 ?_;exact aP (by exact dN aoF)
   ·refine be ?_;exact aP (by exact ej aoF)
  ·refine be ?_;refine aj (fun rN=>?_) fun rN=>?_
   ·refine bI ?_;exact⟨false,rfl,rfl,fun k=>aa⟩
   ·have h42:42≤b.length:=hv (jG.1 fun k=>rN (.inr k));have ha:=Uz (A:=A) (c:=c) (B:=B) (w0:=w0) (F:=F) (b:=b) aa hb;have hz:=UA (A:=A) (c:=c) (B:=B) (w0:=w0) (F:=F) (b:=b) aa hb;have l1:(b.take 21).length=21:=by rw[eS];omega
    have l2:(b.drop (b.length-21)).length=b.length-(b.length-21):=by rw[iG]
    refine bG ?_;refine ab (bN (i:=21) (size:=1) underlying27 ag rfl rfl rfl aa) rfl ?_;refine bK ?_;refine aX alz rfl (AN (l:=b.take 21) l1.symm ha aa) rfl ?_;rintro _ _ ⟨x26,rfl,cA⟩;obtain rfl:=cA.symm;refine ab (iR rfl) rfl ?_;refine be ?_;refine gZ (fun kg=>?_) fun kg=>?_
    ·refine b8 ?_;refine ab (dw rfl rfl (r:=((b.length-21:Nat):Int)) ((bF aa aa).trans aa)) rfl ?_;refine ab (bQ (i:=b.length-21) (size:=1) underlying27 ag rfl rfl rfl aa) rfl ?_;refine bz ?_;refine ab (aC (i:=7) (size:=1) underlying27 ag rfl rfl rfl aa aA) rfl ?_;refine bA ?_;refine aL rfl rfl rfl (fun zK=>?_) (fun zK=>?_)
     ·refine be ?_;refine ab (aC (i:=8) (size:=1) underlying27 ag rfl rfl rfl aa aA) rfl ?_;refine bz ?_;refine ve [4] ?_;refine bA ?_;exact⟨_,rfl,rfl,fun k=>aa⟩
     ·refine bG ?_;refine ve [4] ?_;refine bA ?_;exact⟨_,rfl,rfl,fun k=>aa⟩
    ·refine bG ?_;refine ab (aC (i:=7) (size:=1) underlying27 ag rfl rfl rfl aa aA) rfl ?_;refine bA ?_;refine aL rfl rfl rfl (fun zK=>?_) (fun zK=>?_)
     ·refine be ?_;refine ab (aC (i:=8) (size:=1) underlying27 ag rfl rfl rfl aa aA) rfl ?_;refine bz ?_;refine ve [4] ?_;refine bA ?_;exact⟨_,rfl,rfl,fun k=>aa⟩
     ·refine bG ?_;refine ve [4] ?_;refine bA ?_;exact⟨_,rfl,rfl,fun k=>aa⟩
def C1:List aI:=[(5,1,[100,98],[100,105,115,107,32,102,117,108,108]),(3,0,[],[100,105,115,107,32,111,107])]
def PT(k:Nat):aR:=if k=0 then (64,false,0,0,0,0) else if k=1 then (64,false,2,0,0,0) else (64,false,2,2,1,16)
def alR:cV:=aR.cells (PT 0)++(aR.cells (PT 1)++aR.cells (PT 2))
theorem wz:tH C1:=⟨aB,aB,by unfold C1;intro r hr;simp at hr;rcases hr with rfl|rfl<;>decide⟩
theorem agr{k:Nat}(hk:k<3):∃b nb,jW ((k+1:Nat):Int) (PT k) C1=(b,0)∧Fits b∧kj b=((((k+1:Nat):Int),2,nb,0,true),0):=by
 have ho:cB ((k+1:Nat):Int) (PT k)=0:=by
  have:k=0∨k=1∨k=2:=by omega
  rcases this with rfl|rfl|rfl<;>decide
 have hs:(((k+1:Nat):Int))=3→cB 3 (PT k)=0→K0 (PT k):=fun q _=>by
  obtain rfl:k=2:=by omega
  unfold K0;decide
 have hp:=R4 (v:=((k+1:Nat):Int)) (o:=PT k) wz hs;have e:=hp.e;rw[ho]at e;obtain⟨f1,f2⟩:=hp.fits e;have hW:jW ((k+1:Nat):Int) (PT k) C1=((jW ((k+1:Nat):Int) (PT k) C1).1,0):=Prod.ext rfl e;obtain⟨nb,hR⟩:=Qq wz.t (fun _=>aa) hW;exact⟨_,nb,hW,f1,hR⟩
theorem ak9{k:Nat}(hk:k<3):∀q u,(aR.cells (PT k))[q]? =some u→alR[k*6+q]? =some u:=fun q u h=>by
 have hq:q<6:=by
  have:=zY.1 h;obtain⟨h1,_⟩:=this;exact h1
 have:k=0∨k=1∨k=2:=by omega
 have h6:q=0∨q=1∨q=2∨q=3∨q=4∨q=5:=by omega
 rcases this with rfl|rfl|rfl<;>rcases h6 with rfl|rfl|rfl|rfl|rfl|rfl<;>exact h
theorem aaV(HT:bL B w0):a_ B w0 8 [] F (fun r L=>r= .bool true∧L=F):=by
 refine fw func8 57 [] ?_;refine bK ?_;refine ab (eG [(0,_),(1,_),(2,_),(3,_)] [_,_,_,_] rfl rfl ag) rfl ?_;refine ab (bw [(0,_),(3,_)] [.int .u64 0,.int .u8 0,.string ⟨#[]⟩,.string ⟨#[]⟩] [0,3] [_,_,_,_] rfl rfl ag) rfl ?_;refine cC (mi (size:=4) (kk:=2) (parts:=[(0,.tmp 8),(1,.tmp 9)]) (us:=[(0,.agg (aI.cells (recAt C1 0)).toArray),(1,.agg (aI.cells (recAt C1 1)).toArray)]) (cs:=dh C1) (WC).ht ag aB aB aB (zv:=(.agg #[.int .u64 0,.int .u8 0,.string ByteArray.empty,.string ByteArray.empty])) ag rfl ag rfl) fun wu=>?_;refine bG ?_;refine ab (bw [(0,_)] [ah 0,.bool false,ah 0,ah 0,ah 0,ah 0] [0] [_,_,_,_,_,_] rfl rfl ag) rfl ?_;refine ab (bw [(0,_),(2,_)] [ah 0,.bool false,ah 0,ah 0,ah 0,ah 0] [0,2] [_,_,_,_,_,_] rfl rfl ag) rfl ?_;refine ab (bw [(0,_),(2,_),(3,_),(4,_),(5,_)] [ah 0,.bool false,ah 0,ah 0,ah 0,ah 0] [0,2,3,4,5] [_,_,_,_,_,_] rfl rfl ag) rfl ?_;refine cC (mi (size:=6) (kk:=3) (parts:=[(0,.tmp 11),(1,.tmp 12),(2,.tmp 13)]) (us:=[(0,.agg (aR.cells (PT 0)).toArray),(1,.agg (aR.cells (PT 1)).toArray),(2,.agg (aR.cells (PT 2)).toArray)]) (cs:=alR) (ard).ht ag aB aB aB (zv:=(.agg #[ah 0,.bool false,ah 0,ah 0,ah 0,ah 0])) ag rfl ag rfl) fun A14=>?_;refine bB ?_;refine aE (fun zf zL zm=>∃(k:Nat),(k≤3)∧3-k=zm∧Sub zf [(1,.slice wu 2 2),(2,.slice A14 3 3),(3,ah ((k+1:Nat):Int))]∧Wk zL (.own 23 6 A14 3 3 alR:: .own 62 4 wu 2 2 (dh C1)::F)) _ ⟨0,bS _,rfl,bp,.refl _⟩ ?_;rintro _ _ _ ⟨k,hk,rfl,hs,hp⟩;refine aU hs hp ?_;clear hs hp;refine bK ?_;refine aj (fun ki=>?_) fun ki=>?_
 ·obtain⟨b,nb,hP,hf,hR⟩:=agr (k:=k) aa;have Cb:=fun M (hb:aK B w0 M 4 (.slice wu 2 2) 2 (dh C1))=>C2 (F:=M) (L:=C1) (v:=((k+1:Nat):Int)) (o:=PT k) HT wz.t hb;simp only[hP]at Cb;have x_:=fun M Hc Ms (hb:eM B w0 M Hc Ms b)=>zi (F:=M) HT hb hf;simp only[hR]at x_;have pX:=yK (((k+1:Nat):Int),2,nb,0,true);refine bO ?_;refine ab (dw rfl rfl (r:=((k:Nat):Int)) ((bF aa aa).trans aa)) rfl ?_;refine ab (aC (i:=k) (size:=6) underlying63 ag rfl rfl rfl aa aA) rfl ?_;refine ab (di 6 ag rfl aA aa (aR.cells (PT k)) (ak9 aa) rfl) rfl ?_;refine aF ?_;refine ay rfl (Cb _ (aK.own (.tail _ (.head _)))) fun Hc Ms=>?_;refine bB ?_;refine ai rfl (x_ _ _ _ (aK.own (.head _))) ?_;refine bA ?_;refine bc fun g6=>?_;refine be ?_;refine ve [1,2,3,5,6,7] ?_;refine bz ?_;refine aL rfl rfl rfl (fun zK=>?_) (fun zK=>?_)
  ·refine bG ?_;refine aL rfl rfl rfl (fun GH=>?_) (fun GH=>?_)
   ·refine b8 ?_;refine ab (iR rfl) rfl ?_;refine be ?_;refine kK rfl rfl rfl (fun h46=>?_) (fun h46=>?_)
    ·refine bO ?_;refine aL rfl rfl rfl (fun h52=>?_) (fun h52=>?_)
     ·refine bz ?_;refine ve [1,2,3,56] ?_;refine aF ?_;refine aj (fun Yq=>?_) fun Yq=>?_
      ·exfalso;exact Yq rfl
      ·refine bI ?_;refine av ⟨_,aa,k+1,aa,rfl,bp,.skip (.skip (.refl _))⟩
     ·exfalso;exact h52 rfl
    ·exfalso;simp at h46
   ·exfalso;exact GH rfl
  ·exfalso;exact zK rfl
 ·refine cZ ?_;refine aq (.skip (.skip (.refl _))) ?_;refine aF ?_;exact⟨rfl,rfl⟩
@[simp] theorem aI.agX(x:aI):x.cells.length=4:=rfl
theorem SJ(x y:aI)(w:World):(Op.equalIn 10000 62 (.agg (aI.cells x).toArray) (.agg (aI.cells y).toArray)).run Tryz.prog w= .ok (decide (x=y)) w:=by
 have p0:=fun(z:aI) w=>gT (P:=Tryz.prog) (t:=60) (xs:=(aI.cells z).toArray) (off:=0) (v:=.int .u64 z.1) ag rfl w;have p1:=fun(z:aI) w=>gT (P:=Tryz.prog) (t:=5) (xs:=(aI.cells z).toArray) (off:=1) (v:=.int .u8 z.2.1.toNat) ag rfl w;have p2:=fun(z:aI) w=>gT (P:=Tryz.prog) (t:=9) (xs:=(aI.cells z).toArray) (off:=2) (v:=.string ⟨z.2.2.1.toArray⟩) ag rfl w;have p3:=fun(z:aI) w=>gT (P:=Tryz.prog) (t:=9) (xs:=(aI.cells z).toArray) (off:=3) (v:=.string ⟨z.2.2.2.toArray⟩) ag rfl w;have q0:=fun(a b:Int) w=>run_equalIn_int (P:=Tryz.prog) w 9998 60 .u64 .u64 a b underlying60;have q1:=fun(a b:Int) w=>run_equalIn_int (P:=Tryz.prog) w 9998 5 .u8 .u8 a b underlying5;have q2:=fun(a b:ByteArray) w=>run_equalIn_string (P:=Tryz.prog) w 9998 9 a b underlying9;rw[run_equalIn_agg w 9999 _ _ _ ag ag];simp only[Program.fieldsOf,underlying62];simp[Op.eqFields,p0,p1,p2,p3];rw[q0];obtain⟨a,b,s,t⟩:=x;obtain⟨a',b',s',t'⟩:=y;by_cases h0:a=a'
 ·have e0:((a:Int)==a')=true:=by simp[h0]
  simp only[e0,ug];rw[q1];by_cases h1:b=b'
  ·have e1:((b.toNat:Int)==b'.toNat)=true:=by simp[h1]
   simp only[e1,ug];rw[q2,Mr];by_cases h2:s=s'
   ·simp only[jT h2,ug];rw[q2,Mr];by_cases h3:t=t'
    ·simp[h0,h1,h2,h3]
    ·simp[h0,h1,h2,h3]
   ·simp[h2]
  ·have:¬(b.toNat:Int)=b'.toNat:=fun h=>h1 (qf.1 aa);have h':((b.toNat:Int)==b'.toNat)=false:=by simpa using this
   simp[h1,h']
 ·have h':((a:Int)==a')=false:=by rw[qg];omega
  simp[h0,h']
theorem MN{C:Cx}{fr:Fr}{L:aQ}{x y:Operand}{ty yt:TypeId}{p q:aI}(hP:C.P=Tryz.prog)(h1:ev fr x=some (.agg (aI.cells p).toArray))(h2:ev fr y=some (.agg (aI.cells q).toArray)):gF C fr L (.binOp .neq 62 x y yt) ty (.bool (decide (¬p=q))):=fun a w ha hw d pos af g=>by
 have he:(eqGuard .neq 62 x y (.agg (aI.cells p).toArray) (.agg (aI.cells q).toArray)).run C.P w= .ok () w:=by rw[hP];exact run_eqGuard_agg w .neq _ x y _ _ ag
 have e1:(binOp .neq 62 (.agg (aI.cells p).toArray) (.agg (aI.cells q).toArray)).run C.P w= .ok (.bool (decide (¬p=q))) w:=by
  rw[hP,run_neq_struct,SJ];simp
 simp only[execOp,ha.tmp h1,ha.tmp h2,Kt,he,e1,ug,GU]
theorem aeN{l l2:List aI}(h1:aK B w0 F 4 (.slice A l.length c) l.length (dh l))(h2:aK B w0 F 4 (.slice A2 l2.length c2) l2.length (dh l2))(hl:l.length≤1000000000):
  a_ B w0 15 [.slice A l.length c,.slice A2 l2.length c2] F (fun r L=>r= .bool (decide (l=l2))∧L=F):=by
 refine fw func15 26 [0,1] ?_;refine jk ?_;refine aj (fun jx=>?_) fun jx=>?_
 ·refine bI ?_;exact⟨alc,rfl⟩
 ·refine bO ?_;refine aE (fun zf zL zm=>∃(k:Nat),(k≤l.length∧l.take k=l2.take k)∧l.length-k=zm∧Sub zf [(0,.slice A l.length c),(1,.slice A2 l2.length c2),(5,ah k)]∧Wk zL (F)) _ ⟨0,⟨bS _,rfl⟩,rfl,bp,.refl _⟩ ?_;rintro _ _ _ ⟨k,⟨hk,heq⟩,rfl,hs,hp⟩;refine aU hs hp ?_;clear hs hp;refine bO ?_;refine aj (fun jZ=>?_) fun jZ=>?_
  ·have pX:=vh (recAt l k);refine bO ?_;refine bZ (di 4 ag rfl aA aa (aI.cells (recAt l k)) (lX aa) rfl) rfl ?_;refine bA ?_;refine bZ (di 4 ag rfl aA aa (aI.cells (recAt l2 k)) (lX aa) rfl) rfl ?_;refine bZ (MN rfl rfl rfl) rfl ?_;refine be ?_;refine aj (fun vV=>?_) fun vV=>?_
   ·refine cH ?_;exact⟨by rw[lu (fun h=>by rw[h]at vV;exact vV rfl)],rfl⟩
   ·refine bI ?_;refine av ⟨_,aa,k+1,⟨aa,by rw[ba aa (0,0,[],[]),ba aa (0,0,[],[]),heq];exact dB (fun z=>l2.take k++[z]) (jG.1 vV)⟩,rfl,bp,.refl _⟩
  ·refine cH ?_;have e:l=l2:=by
    have:=heq
    rwa [fA aa,fA aa]at this
   exact⟨by rw[jT e],rfl⟩
section
section
variable{C:Cx}{fr:Fr}{L:aQ}{x y:Operand}{ty yt:TypeId}
end
end
theorem Xz{P:Prop}(h:P:=by(have:=q_.1 h;simp_all)):P:=h
theorem agx{P:Prop}(h:P:=by(first|rfl|exact ej (by simp_all)|exact eU (by simp_all)|exact dN (by simp_all)|exact oE (by simp_all))):P:=h
theorem T3(b:al):(kj b).2=C5 b:=by
 unfold kj;split
 ·rfl
 ·rename_i h;exact(jG.1 h).symm
theorem aiq{a b:al}(ha:(kj a).2=0)(hb:(kj b).2=0)(ca:(kj a).1.2.2.2.2=true)(cb:(kj b).1.2.2.2.2=true):
  a=b↔(od a).2.1=(od b).2.1∧(sK a).1=(sK b).1∧(od a).1=(od b).1:=by
 rw[T3]at ha hb;have ka:xx a=true:=by unfold kj at ca;rw[aw (fun q=>q ha)]at ca;exact ca
 have kb:xx b=true:=by unfold kj at cb;rw[aw (fun q=>q hb)]at cb;exact cb
 unfold od sK;rw[aw (fun q=>q ha),aw (fun q=>q hb),aw (fun q=>q ha),aw (fun q=>q hb)];refine⟨fun h=>by subst h;exact⟨rfl,rfl,rfl⟩,fun⟨h1,h2,h3⟩=>?_⟩;have pa:=zW ka;have pb:=zW kb;simp only at h1 h2 h3;rw[h1,h2,h3,pb]at pa;exact(dB Prod.fst pa).symm
theorem Xr{v:Int}{o:aR}{L:List aI}{b:al}(hp:jW v o L=(b,0)):L.length≤20000:=by
 rcases TZ hp with rfl|rfl|rfl
 ·exact(qS (V7 (show sm o L=(b,0) from hp)).2.1).2
 ·exact(qS (W7 (show uM o L=(b,0) from hp)).2.1).2
 ·exact(qS (WV (show sA o L=(b,0) from hp)).2.1).2
theorem air{a:al}(ha:(kj a).2=0)(ca:(kj a).1.2.2.2.2=true):(od a).1.length≤20000:=by
 rw[T3]at ha;have ka:xx a=true:=by unfold kj at ca;rw[aw (fun q=>q ha)]at ca;exact ca
 unfold od;rw[aw (fun q=>q ha)];exact Xr (zW ka)
theorem an3(HT:bL B w0){a b:al}(ha:eM B w0 F A c a)(hb:eM B w0 F A2 c2 b)(D_:a.length≤9223372036854775807)(de:b.length≤9223372036854775807):
  a_ B w0 5 [.slice A a.length c,.slice A2 b.length c2] F (fun r L=>r= .bool true):=by
 have akj:=fun M (hf:Fits a) (hb:eM B w0 M A c a)=>zi (F:=M) HT hb hf;have akk:=fun M (hf:Fits b) (hb:eM B w0 M A2 c2 b)=>zi (F:=M) HT hb hf;have akg:=fun M (hf:Fits a) (hb:eM B w0 M A c a)=>Hj (F:=M) HT hb hf;have akh:=fun M (hf:Fits b) (hb:eM B w0 M A2 c2 b)=>Hj (F:=M) HT hb hf;have akd:=fun M (hf:Fits a) (hb:eM B w0 M A c a)=>TY (F:=M) HT hb hf;have ake:=fun M (hf:Fits b) (hb:eM B w0 M A2 c2 b)=>TY (F:=M) HT hb hf;have q_:= @aiq a b;have RK:= @air a;obtain⟨RA,hRA⟩:=cK (kj a);obtain⟨RB,hRB⟩:=cK (kj b);obtain⟨XA,hXA⟩:=cK (od a);obtain⟨XB,hXB⟩:=cK (od b);obtain⟨OA,hOA⟩:=cK (sK a);obtain⟨OB,hOB⟩:=cK (sK b);simp only[←hRA,←hRB,←hXA,←hXB,←hOA,←hOB]at akj akk akg akh akd ake q_ RK;obtain⟨⟨v1,n1,b1,d1,k1⟩,e1⟩:=RA;obtain⟨⟨v2,n2,b2,d2,k2⟩,e2⟩:=RB;obtain⟨l1,u1,x1⟩:=XA;obtain⟨l2,u2,x2⟩:=XB;obtain⟨o1,y1⟩:=OA;obtain⟨o2,y2⟩:=OB;simp only at q_ RK;have atM:=yK (v1,n1,b1,d1,k1);have atN:=yK (v2,n2,b2,d2,k2);have atO:=fC o1;have atP:=fC o2;refine fw func5 92 [0,1] ?_;refine bI ?_;refine ai rfl (aaV HT) ?_;refine ab (iR rfl) rfl ?_;refine be ?_;refine gZ (fun iM=>?_) fun iM=>?_
 ·exfalso;simp at iM
 ·refine bz ?_;refine aX ao8 rfl (OX (most:=1500) ha aa aa) rfl ?_;rintro _ _ ⟨x22,rfl,cA,as'⟩;obtain rfl:=cA.symm;refine aF ?_;refine kK rfl rfl rfl (fun m7=>?_) (fun m7=>?_)
  ·have hfa:Fits a:=Fits.yD (by have:=as' (by simpa using m7);omega);refine be ?_;refine aX ao8 rfl (OX (most:=1500) hb aa aa) rfl ?_;rintro _ _ ⟨x25,rfl,cA,ata⟩;obtain rfl:=cA.symm;refine bA ?_;refine gZ (fun qc=>?_) fun qc=>?_
   ·refine bI ?_;first
     |rfl
     |exact dB Value.bool (jT (lu (fun h=>Xz)))
     |exact dB Value.bool (jT (sc.2 ⟨fun h=>(q_.1 h).2.2,fun h=>q_.2 ⟨oU,oU,h⟩⟩))
   ·have hfb:Fits b:=Fits.yD (by have:=ata (by simpa using qc);omega);refine bG ?_;refine ai rfl (akj _ hfa ha) ?_;refine bA ?_;refine bc fun g5=>?_;refine bK ?_;refine ai rfl (akk _ hfb hb.cons) ?_;refine bA ?_;refine bc fun g7=>?_;refine be ?_;refine ve [0,1,5,6,7,8] ?_;refine b8 ?_;refine bU 16 52 [0,1] (¬(e1=0∧e2=0∧k1=true∧k2=true)) ?_ ?_
    ·refine bA ?_;refine aL rfl rfl rfl (fun U'=>?_) (fun U'=>?_)
     ·refine bG ?_;refine aL rfl rfl rfl (fun Rf=>?_) (fun Rf=>?_)
      ·refine b8 ?_;refine ab (iR rfl) rfl ?_;refine be ?_;refine kK rfl rfl rfl (fun Np=>?_) (fun Np=>?_)
       ·refine b8 ?_;refine ab (iR rfl) rfl ?_;refine aF ?_;exact aP agx
       ·refine bA ?_;exact aP agx
      ·refine bI ?_;exact aP agx
     ·refine cH ?_;exact aP agx
    ·refine be ?_;refine aj (fun h52=>?_) fun h52=>?_
     ·refine bI ?_;first
       |rfl
       |exact dB Value.bool (jT (lu (fun h=>Xz)))
       |exact dB Value.bool (jT (sc.2 ⟨fun h=>(q_.1 h).2.2,fun h=>q_.2 ⟨oU,oU,h⟩⟩))
     ·have h52:=jG.1 h52;have q_:=q_ h52.1 h52.2.1 h52.2.2.1 h52.2.2.2;refine bG ?_;refine ay rfl (akg _ hfa ha.cons.cons) fun A55 c55=>?_;refine cH ?_;refine ay rfl (akh _ hfb hb.cons.cons.cons) fun A61 c61=>?_;refine cH ?_;refine ai rfl (akd _ hfa ha.cons.cons.cons.cons) ?_;refine bA ?_;refine bc fun g15=>?_;refine be ?_;refine ve [0,1,9,10,12,13,15] ?_;refine b8 ?_;refine ai rfl (ake _ hfb hb.cons.cons.cons.cons.cons) ?_;refine bA ?_;refine bc fun g17=>?_;refine bI ?_;refine ai rfl (aeO (l:=a) (l2:=b) ha.cons.cons.cons.cons.cons.cons hb.cons.cons.cons.cons.cons.cons) ?_;refine b8 ?_;refine cM (fun h81=>?_) fun h81=>?_
      ·refine b8 ?_;refine ab (qa rfl o1 o2 rfl rfl) rfl ?_;refine be ?_;refine cM (fun h86=>?_) fun h86=>?_
       ·refine b8 ?_;refine ai rfl (aeN (l:=l1) (l2:=l2) aA aA (by have:=RK h52.1 h52.2.2.1;omega)) ?_;refine aF ?_;refine ab (rZ underlying4 rfl rfl) rfl ?_;refine aF ?_;refine ve [4] ?_;refine bA ?_;first
         |rfl
         |exact dB Value.bool (jT (lu (fun h=>Xz)))
         |exact dB Value.bool (jT (sc.2 ⟨fun h=>(q_.1 h).2.2,fun h=>q_.2 ⟨oU,oU,h⟩⟩))
       ·refine bA ?_;refine ab (rZ underlying4 rfl rfl) rfl ?_;refine aF ?_;refine ve [4] ?_;refine bA ?_;first
         |rfl
         |exact dB Value.bool (jT (lu (fun h=>Xz)))
         |exact dB Value.bool (jT (sc.2 ⟨fun h=>(q_.1 h).2.2,fun h=>q_.2 ⟨oU,oU,h⟩⟩))
      ·refine bI ?_;refine ab (rZ underlying4 rfl rfl) rfl ?_;refine aF ?_;refine ve [4] ?_;refine bA ?_;first
        |rfl
        |exact dB Value.bool (jT (lu (fun h=>Xz)))
        |exact dB Value.bool (jT (sc.2 ⟨fun h=>(q_.1 h).2.2,fun h=>q_.2 ⟨oU,oU,h⟩⟩))
  ·refine dc ?_;first
    |rfl
    |exact dB Value.bool (jT (lu (fun h=>Xz)))
    |exact dB Value.bool (jT (sc.2 ⟨fun h=>(q_.1 h).2.2,fun h=>q_.2 ⟨oU,oU,h⟩⟩))
end Go.Proofs.YtaodmbolhoafcaaGreatDoor
namespace Go.Proofs.YtaodmbolhoafcaaGreatDoor.lawWholeOne
open Go.RowKit
set_option linter.unusedVariables false
set_option maxRecDepth 20000
theorem gW{a b:Bool}(h1:a=true)(h2:b=true):(a&&b)=true:=by rw[h1,h2];rfl
theorem aqZ:Tryz.prog.funcNamed Rows.wholeOneRow.func=some 5:=by kernel_rfl
theorem ati:Tryz.f5.isInstance Tryz.prog Rows.wholeOneRow.origin Rows.wholeOneRow.targs:=zW ag
theorem atj:Tryz.f5.isWrapper Tryz.prog Rows.wholeOneRow.wrapper Rows.wholeOneRow.mainSum:=by unfold Func.isWrapper;first|(rw[ao oT];kernel_rfl)|(rw[aw oT];exact⟨rfl,rfl⟩)
set_option maxHeartbeats 4000000 in
theorem atk:joinedFacts Tryz.prog 5 Tryz.f5 Rows.wholeOneSpec Rows.wholeOneRow=true:=by
 unfold joinedFacts;refine gW (gW (gW (gW (gW (gW (gW (gW (gW (gW (gW (gW (gW (gW (gW (gW (gW (gW (gW (gW (gW (gW (gW (gW (gW (gW (gW (gW (gW (gW (gW ?_ ?_) ?_) ?_) ?_) ?_) ?_) ?_) ?_) ?_) ?_) ?_) ?_) ?_) ?_) ?_) ?_) ?_) ?_) ?_) ?_) ?_) ?_) ?_) ?_) ?_) ?_) ?_) ?_) ?_) ?_) ?_
 ·as_aux_lemma=>kernel_rfl
 ·as_aux_lemma=>kernel_rfl
 ·as_aux_lemma=>kernel_rfl
 ·as_aux_lemma=>kernel_rfl
 ·as_aux_lemma=>kernel_rfl
 ·as_aux_lemma=>kernel_rfl
 ·as_aux_lemma=>kernel_rfl
 ·as_aux_lemma=>kernel_rfl
 ·as_aux_lemma=>kernel_rfl
 ·as_aux_lemma=>kernel_rfl
 ·as_aux_lemma=>kernel_rfl
 ·as_aux_lemma=>kernel_rfl
 ·as_aux_lemma=>kernel_rfl
 ·as_aux_lemma=>kernel_rfl
 ·as_aux_lemma=>kernel_rfl
 ·as_aux_lemma=>kernel_rfl
 ·as_aux_lemma=>kernel_rfl
 ·as_aux_lemma=>kernel_rfl
 ·as_aux_lemma=>kernel_rfl
 ·as_aux_lemma=>kernel_rfl
 ·as_aux_lemma=>kernel_rfl
 ·as_aux_lemma=>kernel_rfl
 ·as_aux_lemma=>kernel_rfl
 ·as_aux_lemma=>kernel_rfl
 ·as_aux_lemma=>kernel_rfl
 ·as_aux_lemma=>kernel_rfl
 ·as_aux_lemma=>kernel_rfl
 ·as_aux_lemma=>kernel_rfl
 ·as_aux_lemma=>kernel_rfl
 ·as_aux_lemma=>kernel_rfl
 ·as_aux_lemma=>kernel_rfl
 ·as_aux_lemma=>kernel_rfl
end Go.Proofs.YtaodmbolhoafcaaGreatDoor.lawWholeOne
namespace Go.Proofs.YtaodmbolhoafcaaGreatDoor
set_option linter.unusedVariables false
set_option linter.unusedSimpArgs false
set_option maxRecDepth 20000
variable{B:Nat}{w0:World}{F L0:aQ}{A A1 A2 Ao:bj}{n n2 c c1 c2 co g gc:Nat}
end Go.Proofs.YtaodmbolhoafcaaGreatDoor
namespace Go.Proofs.YtaodmbolhoafcaaGreatDoor.lawWholeOne
open Go.RowKit
set_option linter.unusedVariables false
set_option maxRecDepth 20000
theorem atm:Rows.wholeOneRow.wfByText (OpenSpec.ofChange Rows.wholeOneSpec)=true:=by kernel_rfl
theorem atn:Tryz.pinned.checked.prog.mainIs=some (Rows.wholeOneCard.stood.harness.1,Rows.wholeOneCard.stood.harness.2.toList):=by kernel_rfl
theorem ato:false=Tryz.pinned.checked.prog.looks []:=by kernel_rfl
theorem atp{t:TypeId}(h:t∈[27,27]):Tryz.pinned.checked.prog.wantsStandIn t=false:=by
 simp only[fk,mv,oj]at h;rcases h with rfl|rfl<;>kernel_rfl
theorem atq:false=Rows.wholeOneRow.goesBy Tryz.pinned.checked.prog:=by kernel_rfl
end Go.Proofs.YtaodmbolhoafcaaGreatDoor.lawWholeOne
namespace Go.Proofs.YtaodmbolhoafcaaGreatDoor
set_option linter.unusedVariables false
set_option linter.unusedSimpArgs false
set_option maxRecDepth 20000
variable{B:Nat}{w0:World}{F L0:aQ}{A A1 A2 Ao:bj}{n n2 c c1 c2 co g gc:Nat}
end Go.Proofs.YtaodmbolhoafcaaGreatDoor

/-
  Texts of one proof, joined: part 15. No condition.
-/
import Derived.Test.YtaodmbolhoafcaaGreatDoorZc14
import Derived.Test.YtaodmbolhoafcaaGreatDoorRows
import Derived.JoinedOf
import Derived.RowKit
import Derived.Test.YtaodmbolhoafcaaGreatDoorCards
import Derived.SevenTiedAt
open Go.RowKit Go.Proofs.Tryz
namespace Go.Proofs.YtaodmbolhoafcaaGreatDoor
set_option linter.unusedVariables false
set_option linter.unusedSimpArgs false
set_option maxRecDepth 20000
variable{B:Nat}{w0:World}{F L0:aP}{A A1 A2 Ao:bj}{n n2 c c1 c2 co g gc:Nat}
theorem ak3{P:Prop}(h:P:=by(rw[hx4];exact JE (by omega))):P:=h
theorem aon{P:Prop}(h:P:=by(first|exact .inl lA|exact⟨fun k=>.inr k,fun k=>k.resolve_left lA⟩)):P:=h
theorem aoo{P:Prop}(h:P:=by(first|exact .inl pR|exact⟨fun k=>.inr k,fun k=>k.resolve_left pR⟩)):P:=h
theorem am5{x:Nat}(hx:x<4294967296):a_ B w0 244 [.int .u32 (x:Int)] F (fun r L=>∃y:Nat,r= .int .u32 (y:Int)∧y<4294967296∧L=F):=by
 refine fw func244 11 [0] ?_;refine bQ ?_;refine ab (nh rfl rfl aA (r:=((x%2:Nat):Int)) rfl) rfl ?_;refine bF ?_;refine aj (fun h5=>?_) fun h5=>?_
 ·refine bF ?_;refine ab (mc rfl rfl aA (r:=((x/2:Nat):Int)) (yW (x:=((x/2:Nat):Int)) aa aa)) rfl ?_;refine ab (ly rfl rfl (r:=((x/2 ^^^ 3988292384:Nat):Int)) (Jm aa aA)) rfl ?_;refine bz ?_;exact⟨_,rfl,vR (n:=32) aa aA,rfl⟩
 ·refine bG ?_;refine ab (mc rfl rfl aA (r:=((x/2:Nat):Int)) (yW (x:=((x/2:Nat):Int)) aa aa)) rfl ?_;refine bG ?_;exact⟨_,rfl,aa,rfl⟩
theorem aiB{s:Nat}{l:al}(hs:s<4294967296)(e:n=l.length)(hb:aJ B w0 F 1 (.slice A n c) n (bv l))(hl:l.length≤1099511627776):a_ B w0 201 [.int .u32 (s:Int),.slice A n c] F (fun r L=>∃y:Nat,r= .int .u32 (y:Int)∧y<4294967296∧L=F):=by
 subst e;refine ct func201 31 rfl rfl rfl [(0,.int .u32 (s:Int)),(1,.slice A l.length c)] ⟨⟨rfl,rfl⟩,⟨rfl,rfl⟩,trivial⟩ ?_;refine bJ ?_;refine ab (dw rfl rfl (r:=((4294967295-s:Nat):Int)) ((yW aa aa).trans aa)) rfl ?_;refine bA ?_;refine aE (fun zf zL zm=>∃(k x:Nat),(k≤l.length∧x<4294967296)∧l.length-k=zm∧Sub zf [(1,.slice A l.length c),(5,.int .u32 (x:Int)),(6,ah (k:Int))]∧Wk zL (F)) _ ⟨0,4294967295-s,⟨bT _,aa⟩,rfl,bp,.refl _⟩ ?_;rintro _ _ _ ⟨k,x,⟨hk,hx⟩,rfl,hs,hp⟩;refine aU hs hp ?_;clear hs hp;refine bQ ?_;refine aj (fun lA=>?_) fun lA=>?_
 ·obtain⟨d,hd⟩:=cN (l.getD k 0);have hd8:=lQ d;refine bA ?_;refine ab (au (v:=.int .u8 (d.toNat:Int)) ag rfl aB aa (by rw[hd];exact JE aa)) rfl ?_;refine ab (bm (r:=(d.toNat:Int)) underlying5 underlying135 rfl (yW aa aa)) rfl ?_;refine ab (ly rfl rfl (r:=((x ^^^ d.toNat:Nat):Int)) (Jm hx aa)) rfl ?_;refine bQ ?_;refine aE (fun zf zL zm=>∃(j y:Nat),(j≤8∧y<4294967296)∧8-j=zm∧Sub zf [(1,.slice A l.length c),(5,.int .u32 (y:Int)),(6,ah (k:Int)),(7,ah (j:Int))]∧Wk zL (F)) _ ⟨0,x ^^^ d.toNat,⟨bT _,vR (n:=32) hx aa⟩,rfl,bp,.refl _⟩ ?_;rintro _ _ _ ⟨j,y,⟨hj,hy⟩,rfl,hs,hp⟩;refine aU hs hp ?_;clear hs hp;refine bL ?_;refine aj (fun oc=>?_) fun oc=>?_
  ·refine bz ?_;refine aX ao_ rfl (am5 hy) rfl ?_;rintro _ _ ⟨z,rfl,hz,cA⟩;obtain rfl:=cA.symm;refine bQ ?_;refine av ⟨_,aa,j+1,z,⟨aa,hz⟩,rfl,bp,.refl _⟩
  ·refine cY ?_;refine av ⟨_,aa,k+1,y,⟨aa,hy⟩,rfl,bp,.refl _⟩
 ·refine bJ ?_;refine ab (dw rfl rfl (r:=((4294967295-x:Nat):Int)) ((yW aa aa).trans aa)) rfl ?_;refine bG ?_;exact⟨_,rfl,aa,rfl⟩
theorem anb{l:al}(e:n=l.length)(hb:aJ B w0 F 1 (.slice A n c) n (bv l))(hl:l.length≤1099511627776):a_ B w0 141 [.slice A n c] F (fun r L=>∃y:Nat,r= .int .u32 (y:Int)∧y<4294967296∧L=F):=by
 refine fw func141 5 [0] ?_;refine bJ ?_;refine aX aoX rfl (aiB (s:=0) aA e hb hl) rfl ?_;rintro _ _ ⟨z,rfl,hz,cA⟩;obtain rfl:=cA.symm;refine bG ?_;exact⟨z,rfl,hz,rfl⟩
theorem ana{l:al}(e:n=l.length)(hb:aJ B w0 F 1 (.slice A n c) n (bv l))(hl:l.length≤1000000000):a_ B w0 78 [.slice A n c] F (fun r L=>∃A' c' l',r= .slice A' (l':al).length c'∧L= .own 5 1 A' l'.length c' (bv l')::F):=by
 subst e;refine ct func78 24 rfl rfl rfl [(0,.slice A l.length c)] ⟨⟨rfl,rfl⟩,trivial⟩ ?_;refine bJ ?_;refine aX aoN rfl (anb rfl hb aa) rfl ?_;rintro _ _ ⟨z,rfl,hz,cA⟩;obtain rfl:=cA.symm;refine bG ?_;refine cC (lz cD) fun A8=>?_;refine aF ?_;refine fN (bS cD rfl aV rfl aB cw aa aa) fun wh F6=>?_;refine bG ?_;rw[mq,nA];refine bG ?_;refine aE (fun zf zL zm=>∃(k s:Nat) (acc:al) (A':bj) (c':Nat),(k≤4∧s<4294967296∧acc.length=l.length+k)∧4-k=zm∧Sub zf [(3,.int .u32 (s:Int)),(4,.slice A' acc.length c'),(5,ah (k:Int))]∧Wk zL (.own 5 1 A' acc.length c' (bv acc)::F)) _ ⟨0,z,l,wh,F6,⟨bT _,hz,rfl⟩,rfl,bp,.refl _⟩ ?_;rintro _ _ _ ⟨k,s,acc,A',c',⟨hk,hs,Ga⟩,rfl,hs,hp⟩;refine aU hs hp ?_;clear hs hp;refine bL ?_;refine aj (fun mA=>?_) fun mA=>?_
 ·refine bJ ?_;refine ab (nh rfl rfl aA (r:=((s%256:Nat):Int)) rfl) rfl ?_;refine ab (bm (r:=((UInt8.ofNat (s%256)).toNat:Int)) underlying135 underlying5 rfl (u8w (s%256))) rfl ?_;refine dE cD rfl rfl rfl rfl rfl (fun _=>rfl) aV aa aa ?_;intro _ G_ JI;obtain⟨q,hq⟩:=cN (acc++[UInt8.ofNat (s%256)]);have hq1:acc.length+1=q.length:=by rw[hq];simp
  have Rz:bv acc++[Value.int .u8 ((UInt8.ofNat (s%256)).toNat:Int)]=bv q:=by rw[hq];simp[bv]
  rw[hq1,Rz];refine bG ?_;refine ab (mc rfl rfl aA (r:=((s/256:Nat):Int)) (yW (x:=((s/256:Nat):Int)) aa aa)) rfl ?_;refine bQ ?_;refine av ⟨_,aa,k+1,s/256,q,G_,JI,⟨aa,aa,aa⟩,rfl,bp,.refl _⟩
 ·refine de ?_;exact⟨_,_,acc,rfl,rfl⟩
theorem am6{l:al}(e:n=l.length)(hb:aJ B w0 F 1 (.slice A n c) n (bv l))(hl:l.length≤1000000000):a_ B w0 72 [.slice A n c] F (fun r L=>∃(v:Value) (e:Int) (Y:aP),r= .tuple #[v,ah e]∧L=Y++F):=by
 subst e;refine dL.xf hb fun mh _=>?_;refine ct func72 23 rfl rfl rfl [(0,.slice A l.length c)] ⟨⟨rfl,rfl⟩,trivial⟩ ?_;refine dQ ?_;refine aj (fun h6=>?_) fun h6=>?_
 ·refine bQ ?_;exact⟨_,_,[],rfl,rfl⟩
 ·obtain⟨m,hm⟩:=cN (l.length-4);have hmm:(l.length:Int)-4=(m:Int):=by omega
  have wJ:aJ B w0 F 1 (.slice A m c) m (bv (l.take m)):=by
   have:=hb.iZ (k:=m) aa;rw[jX,cE]at this;exact this
  have y9:(l.take m).length=m:=by rw[eS];omega
  refine bQ ?_;refine ab (bN (i:=m) (size:=1) underlying27 ag rfl rfl hmm aa) rfl ?_;refine dX rfl (ana (l:=l.take m) y9.symm wJ aa) fun Ap cp lp=>?_;refine aF ?_;refine ai rfl (aey (l:=lp) (l2:=l) (aJ.own (.head _)) hb.cons) ?_;refine bF ?_;refine aj (fun jG=>?_) fun jG=>?_
  ·refine bQ ?_;exact⟨_,_,[_],rfl,rfl⟩
  ·refine b8 ?_;refine cC (lz cD) fun W8=>?_;refine b8 ?_;refine ab (bN (i:=m) (size:=1) underlying27 ag rfl rfl hmm aa) rfl ?_;refine fN (bS cD rfl aV rfl wJ.cons.cons (qs _) aa aa) fun A22 c22=>?_;refine be ?_;refine ve [2,3] ?_;refine bF ?_;exact⟨_,_,[_,_],rfl,rfl⟩
theorem I3{l:al}(e:n=l.length)(hb:aJ B w0 F 1 (.slice A n c) n (bv l))(hl:l.length≤1000000000):a_ B w0 34 [.slice A n c] F (fun r L=>∃(v e:Int),r= .tuple #[ah v,ah e]∧L=F):=by
 subst e;refine ct func34 43 rfl rfl rfl [(0,.slice A l.length c)] ⟨⟨rfl,rfl⟩,trivial⟩ ?_;refine dQ ?_;refine aj (fun h6=>?_) fun h6=>?_
 ·refine bQ ?_;exact⟨_,_,rfl,rfl⟩
 ·obtain⟨x0,Yz⟩:=cN ((l.getD 0 0).toNat);obtain⟨x4,hx4⟩:=cN ((l.getD 4 0).toNat);have h8:x4<256:=by rw[hx4];exact lQ _
  refine bz ?_;refine ab (aC (i:=0) (size:=1) underlying27 ag rfl rfl rfl aa aB) rfl ?_;refine bF ?_;refine aL rfl rfl rfl (fun pg=>?_) (fun pg=>?_)
  ·refine be ?_;refine ab (aC (i:=1) (size:=1) underlying27 ag rfl rfl rfl aa aB) rfl ?_;refine bz ?_;refine aL rfl rfl rfl (fun iF=>?_) (fun iF=>?_)
   ·refine be ?_;refine ab (aC (i:=2) (size:=1) underlying27 ag rfl rfl rfl aa aB) rfl ?_;refine bz ?_;refine aL rfl rfl rfl (fun nM=>?_) (fun nM=>?_)
    ·refine be ?_;refine ab (aC (i:=3) (size:=1) underlying27 ag rfl rfl rfl aa aB) rfl ?_;refine bG ?_;refine ve [0,28] ?_;refine aF ?_;refine aj (fun qx=>?_) fun qx=>?_
     ·refine bQ ?_;exact⟨_,_,rfl,rfl⟩
     ·refine bz ?_;refine ab (aC (i:=4) (size:=1) underlying27 ag rfl rfl rfl aa aB) rfl ?_;refine ab (au (v:=.int .u8 (x4:Int)) ag rfl aB aa ak3) rfl ?_;refine be ?_;refine aL rfl rfl rfl (fun h33=>?_) (fun h33=>?_)
      ·refine be ?_;refine ab (aC (i:=4) (size:=1) underlying27 ag rfl rfl rfl aa aB) rfl ?_;refine aF ?_;refine ab (au (v:=.int .u8 (x4:Int)) ag rfl aB aa ak3) rfl ?_;refine bG ?_;refine aj (fun Cz=>?_) fun Cz=>?_
       ·refine bQ ?_;exact⟨_,_,rfl,rfl⟩
       ·refine bG ?_;refine ab (aC (i:=4) (size:=1) underlying27 ag rfl rfl rfl aa aB) rfl ?_;refine ab (au (v:=.int .u8 (x4:Int)) ag rfl aB aa ak3) rfl ?_;refine ab (bm underlying5 underlying3 rfl (r:=(x4:Int)) (bE aa aa)) rfl ?_;refine bz ?_;exact⟨_,_,rfl,rfl⟩
      ·refine jS ?_;exact⟨_,_,rfl,rfl⟩
    ·refine b8 ?_;refine ve [0,28] ?_;refine cY ?_;exact⟨_,_,rfl,rfl⟩
   ·refine bA ?_;refine ve [0,28] ?_;refine cY ?_;exact⟨_,_,rfl,rfl⟩
  ·refine jS ?_;refine ve [0,28] ?_;refine cY ?_;exact⟨_,_,rfl,rfl⟩
theorem AO{l:al}(e:n=l.length)(hb:aJ B w0 F 1 (.slice A n c) n (bv l))(hl:l.length≤1000000000):a_ B w0 31 [.slice A n c] F (fun r L=>∃(x:Bool),r= .bool x∧L=F):=by
 refine fw func31 27 [0] ?_;refine bJ ?_;refine dX rfl (am6 e hb hl) fun v9 e9 Y=>?_;refine bJ ?_;refine wg (dv Y F) ?_;refine be ?_;refine ay rfl (I3 e hb hl) fun v14 e14=>?_;refine bQ ?_;refine bW 10 26 [] (e9=0∧e14=0∧v14=3) ?_ ?_
 ·refine bF ?_;refine cP (fun pR=>?_) fun pR=>?_
  ·refine bG ?_;refine cP (fun nM=>?_) fun nM=>?_
   ·refine b8 ?_;exact aQ an8
   ·refine be ?_;exact aQ agm
  ·refine bz ?_;exact aQ agm
 ·refine bG ?_;exact⟨_,rfl,rfl⟩
theorem am8{b:al}(hb:eM B w0 F A c b)(h42:b.length<42):a_ B w0 71 [.slice A b.length c] F (fun r L=>∃(x:Bool),r= .bool x∧L=F∧(x=true→42≤b.length)):=by
 refine fw func71 19 [0] ?_;refine cY ?_;refine cP (fun h6=>?_) fun h6=>?_
 ·exfalso;omega
 ·refine cJ ?_;refine ve [2] ?_;refine bF ?_;exact⟨false,rfl,rfl,fun k=>by cases k⟩
theorem am9{b:al}(hb:eM B w0 F A c b)(c_:b.length≤1000000000)(mh:b.length≤c)(h42:¬b.length<42):a_ B w0 71 [.slice A b.length c] F (fun r L=>∃(x:Bool),r= .bool x∧L=F∧(x=true→42≤b.length)):=by
 have ha:=Ur h42 hb;have hz:=Us h42 hb;have l1:(b.take 21).length=21:=by rw[eS];omega
 have l2:(b.drop (b.length-21)).length=b.length-(b.length-21):=by rw[iG]
 refine fw func71 19 [0] ?_;refine cY ?_;refine cP (fun h6=>?_) fun h6=>?_
 ·refine be ?_;refine ab (bN (i:=21) (size:=1) underlying27 ag rfl rfl rfl aa) rfl ?_;refine aF ?_;refine aX alg rfl (AO (l:=b.take 21) l1.symm ha aa) rfl ?_;rintro _ _ ⟨x9,rfl,cA⟩;obtain rfl:=cA.symm;refine be ?_;refine my rfl rfl rfl (fun jF=>?_) (fun jF=>?_)
  ·refine bz ?_;refine ab (dw rfl rfl (r:=((b.length-21:Nat):Int)) ((bE aa aa).trans aa)) rfl ?_;refine aF ?_;refine ab (bP (i:=b.length-21) (size:=1) underlying27 ag rfl rfl rfl aa) rfl ?_;refine aF ?_;refine aX alg rfl (AO (l:=b.drop (b.length-21)) l2.symm hz aa) rfl ?_;rintro _ _ ⟨x16,rfl,cA⟩;obtain rfl:=cA.symm;refine b8 ?_;refine ve [2] ?_;refine bF ?_;exact⟨_,rfl,rfl,fun _=>aa⟩
  ·refine bQ ?_;refine ve [2] ?_;refine bF ?_;exact⟨_,rfl,rfl,fun _=>aa⟩
 ·exfalso;omega
theorem am_{b:al}(hb:eM B w0 F A c b)(c_:b.length≤1000000000):a_ B w0 71 [.slice A b.length c] F (fun r L=>∃(x:Bool),r= .bool x∧L=F∧(x=true→42≤b.length)):=by
 refine dL.xf hb fun mh _=>?_;by_cases h42:b.length<42
 ·exact am8 hb h42
 ·exact am9 hb c_ mh h42
theorem SH{b:al}(hb:eM B w0 F A c b)(c_:b.length≤1000000000):a_ B w0 30 [.slice A b.length c] F (fun r L=>∃(v e:Int),r= .tuple #[ah v,ah e]∧L=F∧(v=3→42≤b.length)):=by
 refine fw func30 23 [0] ?_;refine bQ ?_;refine ay rfl (I3 rfl hb c_) fun v8 e8=>?_;refine bA ?_;refine bW 6 16 [0,4,5] (v8=1∨v8=2) ?_ ?_
 ·refine bF ?_;refine aL rfl rfl rfl (fun lA=>?_) (fun lA=>?_)
  ·refine b8 ?_;exact aQ (by exact dN aon)
  ·refine be ?_;exact aQ (by exact eF aon)
 ·refine be ?_;refine aj (fun kh=>?_) fun kh=>?_
  ·refine bA ?_;exact⟨_,_,rfl,rfl,fun k=>aa⟩
  ·refine bz ?_;refine aX arI rfl (am_ hb c_) rfl ?_;rintro _ _ ⟨x19,rfl,cA,asW⟩;obtain rfl:=cA.symm;refine be ?_;refine gD (fun pR=>?_) fun pR=>?_
   ·refine bQ ?_;exact⟨_,_,rfl,rfl,fun k=>asW pR⟩
   ·refine bQ ?_;refine aj (fun lW=>?_) fun lW=>?_
    ·refine bQ ?_;exact⟨_,_,rfl,rfl,fun k=>aa⟩
    ·refine cY ?_;exact⟨_,_,rfl,rfl,fun k=>aa⟩
theorem OV{b:al}{most:Nat}(hb:eM B w0 F A c b)(hm:most≤1000000000)(c_:b.length≤9223372036854775807):a_ B w0 16 [.slice A b.length c,ah (most:Int)] F (fun r L=>∃(x:Bool),r= .bool x∧L=F∧(x=false→b.length≤most)):=by
 refine dL.xf hb fun mh _=>?_;refine fw func16 43 [0,1] ?_;refine dQ ?_;refine aj (fun pg=>?_) fun pg=>?_
 ·refine bJ ?_;exact⟨true,rfl,rfl,fun k=>by cases k⟩
 ·refine bG ?_;refine aX arE rfl (SH hb aa) rfl ?_;rintro _ _ ⟨v14,e14,rfl,cA,hv⟩;obtain rfl:=cA.symm;refine bA ?_;refine bW 6 22 [0] (¬e14=0∨¬v14=3) ?_ ?_
  ·refine bF ?_;refine aL rfl rfl rfl (fun pR=>?_) (fun pR=>?_)
   ·refine b8 ?_;exact aQ (by exact dN aoo)
   ·refine be ?_;exact aQ (by exact eF aoo)
  ·refine be ?_;refine aj (fun rJ=>?_) fun rJ=>?_
   ·refine bJ ?_;exact⟨false,rfl,rfl,fun k=>aa⟩
   ·have h42:42≤b.length:=hv (kR.1 fun k=>rJ (.inr k));have ha:=Ur (A:=A) (c:=c) (B:=B) (w0:=w0) (F:=F) (b:=b) aa hb;have hz:=Us (A:=A) (c:=c) (B:=B) (w0:=w0) (F:=F) (b:=b) aa hb;have l1:(b.take 21).length=21:=by rw[eS];omega
    have l2:(b.drop (b.length-21)).length=b.length-(b.length-21):=by rw[iG]
    refine bG ?_;refine ab (bN (i:=21) (size:=1) underlying27 ag rfl rfl rfl aa) rfl ?_;refine bL ?_;refine aX alg rfl (AO (l:=b.take 21) l1.symm ha aa) rfl ?_;rintro _ _ ⟨x26,rfl,cA⟩;obtain rfl:=cA.symm;refine ab (iQ rfl) rfl ?_;refine be ?_;refine gD (fun ka=>?_) fun ka=>?_
    ·refine b8 ?_;refine ab (dw rfl rfl (r:=((b.length-21:Nat):Int)) ((bE aa aa).trans aa)) rfl ?_;refine ab (bP (i:=b.length-21) (size:=1) underlying27 ag rfl rfl rfl aa) rfl ?_;refine bz ?_;refine ab (aC (i:=7) (size:=1) underlying27 ag rfl rfl rfl aa aB) rfl ?_;refine bF ?_;refine aL rfl rfl rfl (fun zK=>?_) (fun zK=>?_)
     ·refine be ?_;refine ab (aC (i:=8) (size:=1) underlying27 ag rfl rfl rfl aa aB) rfl ?_;refine bz ?_;refine ve [4] ?_;refine bF ?_;exact⟨_,rfl,rfl,fun k=>aa⟩
     ·refine bG ?_;refine ve [4] ?_;refine bF ?_;exact⟨_,rfl,rfl,fun k=>aa⟩
    ·refine bG ?_;refine ab (aC (i:=7) (size:=1) underlying27 ag rfl rfl rfl aa aB) rfl ?_;refine bF ?_;refine aL rfl rfl rfl (fun zK=>?_) (fun zK=>?_)
     ·refine be ?_;refine ab (aC (i:=8) (size:=1) underlying27 ag rfl rfl rfl aa aB) rfl ?_;refine bz ?_;refine ve [4] ?_;refine bF ?_;exact⟨_,rfl,rfl,fun k=>aa⟩
     ·refine bG ?_;refine ve [4] ?_;refine bF ?_;exact⟨_,rfl,rfl,fun k=>aa⟩
def CZ:List aK:=[(5,1,[100,98],[100,105,115,107,32,102,117,108,108]),(3,0,[],[100,105,115,107,32,111,107])]
def PQ(k:Nat):aR:=if k=0 then (64,false,0,0,0,0) else if k=1 then (64,false,2,0,0,0) else (64,false,2,2,1,16)
def alR:cV:=aR.cells (PQ 0)++(aR.cells (PQ 1)++aR.cells (PQ 2))
theorem wm:tA CZ:=⟨aA,aA,by unfold CZ;intro r hr;simp at hr;rcases hr with rfl|rfl<;>decide⟩
theorem agd{k:Nat}(hk:k<3):∃b nb,jn ((k+1:Nat):Int) (PQ k) CZ=(b,0)∧Fits b∧p6 b=((((k+1:Nat):Int),2,nb,0,true),0):=by
 have ho:cB ((k+1:Nat):Int) (PQ k)=0:=by
  have:k=0∨k=1∨k=2:=by omega
  rcases this with rfl|rfl|rfl<;>decide
 have hs:(((k+1:Nat):Int))=3→cB 3 (PQ k)=0→KY (PQ k):=fun q _=>by
  obtain rfl:k=2:=by omega
  unfold KY;decide
 have hp:=RW (v:=((k+1:Nat):Int)) (o:=PQ k) wm hs;have e:=hp.e;rw[ho]at e;obtain⟨f1,f2⟩:=hp.fits e;have hW:jn ((k+1:Nat):Int) (PQ k) CZ=((jn ((k+1:Nat):Int) (PQ k) CZ).1,0):=Prod.ext rfl e;obtain⟨nb,hR⟩:=Qm wm.t (fun _=>aa) hW;exact⟨_,nb,hW,f1,hR⟩
theorem akS{k:Nat}(hk:k<3):∀q u,(aR.cells (PQ k))[q]? =some u→alR[k*6+q]? =some u:=fun q u h=>by
 have hq:q<6:=by
  have:=zY.1 h;obtain⟨h1,_⟩:=this;exact h1
 have:k=0∨k=1∨k=2:=by omega
 have h6:q=0∨q=1∨q=2∨q=3∨q=4∨q=5:=by omega
 rcases this with rfl|rfl|rfl<;>rcases h6 with rfl|rfl|rfl|rfl|rfl|rfl<;>exact h
theorem LV(HT:bI B w0):a_ B w0 8 [] F (fun r L=>r= .bool true∧L=F):=by
 refine fw func8 57 [] ?_;refine bL ?_;refine ab (eG [(0,_),(1,_),(2,_),(3,_)] [_,_,_,_] rfl rfl ag) rfl ?_;refine ab (bw [(0,_),(3,_)] [.int .u64 0,.int .u8 0,.string ⟨#[]⟩,.string ⟨#[]⟩] [0,3] [_,_,_,_] rfl rfl ag) rfl ?_;refine cC (me (size:=4) (kk:=2) (parts:=[(0,.tmp 8),(1,.tmp 9)]) (us:=[(0,.agg (aK.cells (recAt CZ 0)).toArray),(1,.agg (aK.cells (recAt CZ 1)).toArray)]) (cs:=di CZ) (Wo).ht ag aA aA aA (zv:=(.agg #[.int .u64 0,.int .u8 0,.string ByteArray.empty,.string ByteArray.empty])) ag rfl ag rfl) fun wh=>?_;refine bG ?_;refine ab (bw [(0,_)] [ah 0,.bool false,ah 0,ah 0,ah 0,ah 0] [0] [_,_,_,_,_,_] rfl rfl ag) rfl ?_;refine ab (bw [(0,_),(2,_)] [ah 0,.bool false,ah 0,ah 0,ah 0,ah 0] [0,2] [_,_,_,_,_,_] rfl rfl ag) rfl ?_;refine ab (bw [(0,_),(2,_),(3,_),(4,_),(5,_)] [ah 0,.bool false,ah 0,ah 0,ah 0,ah 0] [0,2,3,4,5] [_,_,_,_,_,_] rfl rfl ag) rfl ?_;refine cC (me (size:=6) (kk:=3) (parts:=[(0,.tmp 11),(1,.tmp 12),(2,.tmp 13)]) (us:=[(0,.agg (aR.cells (PQ 0)).toArray),(1,.agg (aR.cells (PQ 1)).toArray),(2,.agg (aR.cells (PQ 2)).toArray)]) (cs:=alR) (aq3).ht ag aA aA aA (zv:=(.agg #[ah 0,.bool false,ah 0,ah 0,ah 0,ah 0])) ag rfl ag rfl) fun A14=>?_;refine bA ?_;refine aE (fun zf zL zm=>∃(k:Nat),(k≤3)∧3-k=zm∧Sub zf [(1,.slice wh 2 2),(2,.slice A14 3 3),(3,ah ((k+1:Nat):Int))]∧Wk zL (.own 23 6 A14 3 3 alR:: .own 62 4 wh 2 2 (di CZ)::F)) _ ⟨0,bT _,rfl,bp,.refl _⟩ ?_;rintro _ _ _ ⟨k,hk,rfl,hs,hp⟩;refine aU hs hp ?_;clear hs hp;refine bL ?_;refine aj (fun kh=>?_) fun kh=>?_
 ·obtain⟨b,nb,hP,hf,hR⟩:=agd (k:=k) aa;have y_:=fun M (hb:aJ B w0 M 4 (.slice wh 2 2) 2 (di CZ))=>wq (F:=M) (L:=CZ) (v:=((k+1:Nat):Int)) (o:=PQ k) HT wm.t hb;simp only[hP]at y_;have pT:=fun M Ha Mq (hb:eM B w0 M Ha Mq b)=>zh (F:=M) HT hb hf;simp only[hR]at pT;have qy:=yG (((k+1:Nat):Int),2,nb,0,true);refine bQ ?_;refine ab (dw rfl rfl (r:=((k:Nat):Int)) ((bE aa aa).trans aa)) rfl ?_;refine ab (aC (i:=k) (size:=6) underlying63 ag rfl rfl rfl aa aB) rfl ?_;refine ab (dI 6 ag rfl aB aa (aR.cells (PQ k)) (akS aa) rfl) rfl ?_;refine aF ?_;refine ay rfl (y_ _ (aJ.own (.tail _ (.head _)))) fun Ha Mq=>?_;refine bA ?_;refine ai rfl (pT _ _ _ (aJ.own (.head _))) ?_;refine bF ?_;refine bc fun g6=>?_;refine be ?_;refine ve [1,2,3,5,6,7] ?_;refine bz ?_;refine aL rfl rfl rfl (fun zK=>?_) (fun zK=>?_)
  ·refine bG ?_;refine aL rfl rfl rfl (fun zM=>?_) (fun zM=>?_)
   ·refine b8 ?_;refine ab (iQ rfl) rfl ?_;refine be ?_;refine my rfl rfl rfl (fun h46=>?_) (fun h46=>?_)
    ·refine bQ ?_;refine aL rfl rfl rfl (fun h52=>?_) (fun h52=>?_)
     ·refine bz ?_;refine ve [1,2,3,56] ?_;refine aF ?_;refine aj (fun PW=>?_) fun PW=>?_
      ·exfalso;exact PW rfl
      ·refine bJ ?_;refine av ⟨_,aa,k+1,aa,rfl,bp,.skip (.skip (.refl _))⟩
     ·exfalso;exact h52 rfl
    ·exfalso;simp at h46
   ·exfalso;exact zM rfl
  ·exfalso;exact zK rfl
 ·refine cY ?_;refine aq (.skip (.skip (.refl _))) ?_;refine aF ?_;exact⟨rfl,rfl⟩
@[simp] theorem aK.agK(x:aK):x.cells.length=4:=rfl
section
def AV:oO:=(0,0,0,0,false)
theorem SE(w:World):(Op.equalIn 10000 41 (.agg (oO.cells AV).toArray) (.agg (oO.cells AV).toArray)).run Tryz.prog w= .ok true w:=by
 have p0:=fun w=>gh (P:=Tryz.prog) (t:=3) (xs:=(oO.cells AV).toArray) (off:=0) (v:=ah 0) ag rfl w;have p1:=fun w=>gh (P:=Tryz.prog) (t:=3) (xs:=(oO.cells AV).toArray) (off:=1) (v:=ah 0) ag rfl w;have p2:=fun w=>gh (P:=Tryz.prog) (t:=3) (xs:=(oO.cells AV).toArray) (off:=2) (v:=ah 0) ag rfl w;have p3:=fun w=>gh (P:=Tryz.prog) (t:=3) (xs:=(oO.cells AV).toArray) (off:=3) (v:=ah 0) ag rfl w;have p4:=fun w=>gh (P:=Tryz.prog) (t:=4) (xs:=(oO.cells AV).toArray) (off:=4) (v:=.bool false) ag rfl w;have q0:=fun(a b:Int) w=>run_equalIn_int (P:=Tryz.prog) w 9998 3 .i64 .i64 a b underlying3;have q1:=fun(a b:Bool) w=>run_equalIn_bool' (P:=Tryz.prog) w 9998 4 a b underlying4;have e0:((0:Int)==0)=true:=rfl;have e1:(false==false)=true:=rfl;rw[run_equalIn_agg w 9999 _ _ _ ag ag];simp only[Program.fieldsOf,underlying41];simp[Op.eqFields,p0,p1,p2,p3,p4];rw[q0];simp only[e0,s_];rw[q0];simp only[e0,s_];rw[q0];simp only[e0,s_];rw[q0];simp only[e0,s_];rw[q1];simp
section
variable{C:Cx}{fr:Fr}{L:aP}{x y:Operand}{ty yt:TypeId}
theorem MM(hP:C.P=Tryz.prog)(h1:ev fr x=some (.agg (oO.cells AV).toArray))(h2:ev fr y=some (.agg (oO.cells AV).toArray)):gI C fr L (.binOp .eql 41 x y yt) ty (.bool true):=fun a w ha hw d pos af g=>by
 have he:(eqGuard .eql 41 x y (.agg (oO.cells AV).toArray) (.agg (oO.cells AV).toArray)).run C.P w= .ok () w:=by rw[hP];exact run_eqGuard_agg w .eql _ x y _ _ ag
 have e1:(binOp .eql 41 (.agg (oO.cells AV).toArray) (.agg (oO.cells AV).toArray)).run C.P w= .ok (.bool true) w:=by
  rw[hP,run_eql_struct,SE];simp
 simp only[execOp,ha.tmp h1,ha.tmp h2,Kr,he,e1,s_,GS]
end
end
theorem aoc{P:Prop}(h:P:=by(first|exact fun k=>h68 (by rw[k])|exact⟨fun k=>Prod.ext k.symm h68,fun k=>by rw[k]⟩)):P:=h
theorem afX(HT:bI B w0){b:al}(hb:eM B w0 F A c b)(c_:b.length≤9223372036854775807)(h:y7 b≠0):a_ B w0 4 [.slice A b.length c] F (fun r L=>r= .bool true):=by
 have eR:p6 b=((0,0,0,0,false),y7 b):=by unfold p6;rw[ao h]
 have eX:tD b=([],0,y7 b):=by unfold tD;rw[ao h]
 have eO:tC b=(gR,y7 b):=by unfold tC;rw[ao h]
 have pT:=fun M (hf:Fits b) (hb:eM B w0 M A c b)=>zh (F:=M) HT hb hf;have RE:=fun M (hf:Fits b) (hb:eM B w0 M A c b)=>Hj (F:=M) HT hb hf;have Rw:=fun M (hf:Fits b) (hb:eM B w0 M A c b)=>TR (F:=M) HT hb hf;simp only[eR]at pT;simp only[eX]at RE;simp only[eO]at Rw;have aqk:=yG (0,0,0,0,false);have aql:=fB gR;refine fw func4 85 [0] ?_;refine bJ ?_;refine ai rfl (LV HT) ?_;refine ab (iQ rfl) rfl ?_;refine be ?_;refine gD (fun lA=>?_) fun lA=>?_
 ·exfalso;simp at lA
 ·refine bz ?_;refine aX aoS rfl (OV (most:=1500) hb aa aa) rfl ?_;rintro _ _ ⟨x15,rfl,cA,ahz⟩;obtain rfl:=cA.symm;refine be ?_;refine gD (fun jG=>?_) fun jG=>?_
  ·refine bJ ?_;rfl
  ·have hf:Fits b:=Fits.yy (by have:=ahz (by simpa using jG);omega);refine bG ?_;refine ai rfl (pT _ hf hb) ?_;refine bF ?_;refine bc fun g3=>?_;refine bL ?_;refine ay rfl (RE _ hf hb.cons) fun TJ c23=>?_;refine cJ ?_;refine ai rfl (Rw _ hf hb.cons.cons) ?_;refine bF ?_;refine bc fun g8=>?_;refine be ?_;refine ve [0,3,4,5,6,7,8,9] ?_;refine bJ ?_;refine aL rfl rfl rfl (fun qV=>?_) (fun qV=>?_)
   ·refine bJ ?_;refine aj (fun Lx=>?_) fun Lx=>?_
    ·exfalso;exact Lx rfl
    ·refine bQ ?_;refine aj (fun zM=>?_) fun zM=>?_
     ·refine bF ?_;refine ab (cj [ah 0,ah 0,ah 0,ah 0,.bool false] ag) rfl ?_;refine ab (MM rfl rfl rfl) rfl ?_;refine aF ?_;refine ve [2] ?_;refine b8 ?_;rfl
     ·exfalso;exact zM h
   ·exfalso;exact qV rfl
theorem afY(HT:bI B w0){b:al}(hb:eM B w0 F A c b)(c_:b.length≤9223372036854775807)(h:y7 b=0):a_ B w0 4 [.slice A b.length c] F (fun r L=>r= .bool true):=by
 have eR:p6 b=(((dg b).1,(dg b).2.2.1.length,(dg b).2.2.2.1,(dg b).2.2.2.2.1,tB b),0):=by unfold p6;rw[aw (fun q=>q h)]
 have eX:tD b=((dg b).2.2.1,(dg b).1,0):=by unfold tD;rw[aw (fun q=>q h)]
 have eO:tC b=((dg b).2.1,0):=by unfold tC;rw[aw (fun q=>q h)]
 have pT:=fun M (hf:Fits b) (hb:eM B w0 M A c b)=>zh (F:=M) HT hb hf;have RE:=fun M (hf:Fits b) (hb:eM B w0 M A c b)=>Hj (F:=M) HT hb hf;have Rw:=fun M (hf:Fits b) (hb:eM B w0 M A c b)=>TR (F:=M) HT hb hf;simp only[eR]at pT;simp only[eX]at RE;simp only[eO]at Rw;have hC:tB b=decide (jn (dg b).1 (dg b).2.1 (dg b).2.2.1=(b,0)):=rfl;have fE:=fun hf:Fits b=>wo hf;have D7:=fun(hf:Fits b) (h8:b.length≤8388608) (hc:tB b=true)=>Xf hf h8 hc;obtain⟨V,hV⟩:=cN (dg b);obtain⟨cl,r7⟩:=cN (tB b);rw[←r7]at hC;simp only[←hV,←r7]at hC fE pT RE Rw D7;obtain⟨v,o,l,nb,bad,er⟩:=V;simp only at hC fE pT RE Rw D7;obtain⟨W,hW⟩:=cN (jn v o l);have y_:=fun M A5 c5 (hf:Fits b) (hb:aJ B w0 M 4 (.slice A5 l.length c5) l.length (di l))=>wq (F:=M) (v:=v) (o:=o) HT (fE hf) hb;simp only[←hW]at y_ hC;have aqk:=yG (v,l.length,nb,bad,cl);have aql:=fB o;refine fw func4 85 [0] ?_;refine bJ ?_;refine ai rfl (LV HT) ?_;refine ab (iQ rfl) rfl ?_;refine be ?_;refine gD (fun lA=>?_) fun lA=>?_
 ·exfalso;simp at lA
 ·refine bz ?_;refine aX aoS rfl (OV (most:=1500) hb aa aa) rfl ?_;rintro _ _ ⟨x15,rfl,cA,ahz⟩;obtain rfl:=cA.symm;refine be ?_;refine gD (fun jG=>?_) fun jG=>?_
  ·refine bJ ?_;rfl
  ·have hf:Fits b:=Fits.yy (by have:=ahz (by simpa using jG);omega);have hb8:b.length≤1500:=ahz (by simpa using jG);refine bG ?_;refine ai rfl (pT _ hf hb) ?_;refine bF ?_;refine bc fun g3=>?_;refine bL ?_;refine ay rfl (RE _ hf hb.cons) fun TJ c23=>?_;refine cJ ?_;refine ai rfl (Rw _ hf hb.cons.cons) ?_;refine bF ?_;refine bc fun g8=>?_;refine be ?_;refine ve [0,3,4,5,6,7,8,9] ?_;refine bJ ?_;refine aL rfl rfl rfl (fun qV=>?_) (fun qV=>?_)
   ·refine bJ ?_;refine aj (fun Lx=>?_) fun Lx=>?_
    ·exfalso;exact Lx rfl
    ·refine bQ ?_;refine aj (fun zM=>?_) fun zM=>?_
     ·exfalso;exact zM rfl
     ·refine bG ?_;refine ab (bU 6 ag rfl aV (aR.cells o) rfl rfl) rfl ?_;refine aF ?_;refine ay rfl (y_ _ _ _ hf (aJ.own (.tail _ (.head _)))) fun A49 c49=>?_;refine bG ?_;refine ve [0,3,5,6,10,11] ?_;refine bJ ?_;refine jR rfl rfl rfl (fun PW=>?_) (fun PW=>?_)
      ·refine cY ?_;refine jR rfl rfl rfl (fun GF=>?_) (fun GF=>?_)
       ·refine bF ?_;refine xW 7 72 [3,63,65] (W=(b,0)) ?_ ?_
        ·refine bz ?_;refine jR rfl rfl rfl (fun h68=>?_) (fun h68=>?_)
         ·refine b8 ?_;refine iU arD rfl (aey (l:=b) (l2:=W.1) hb.cons.cons.cons.cons (aJ.own (.head _))) vv rfl ?_;refine be ?_;exact nS (by exact dN aoc)
         ·refine b8 ?_;exact nS (by exact eU aoc)
        ·refine aF ?_;refine b7 (JR underlying4 rfl rfl) rfl ?_;refine be ?_;refine yU rfl rfl rfl (fun h75=>?_) (fun h75=>?_)
         ·refine b8 ?_;refine b7 (iQ rfl) rfl ?_;refine be ?_;refine yU rfl rfl rfl (fun h79=>?_) (fun h79=>?_)
          ·refine de ?_;have Nr:cl=true:=by simpa using h79
           have hb0:=D7 hf aa Nr;simp[hb0]
          ·refine bA ?_;rfl
         ·exfalso;exact absurd ((ox (p:=cl=decide (W=(b,0))) hC).symm.trans h75) aA
       ·exfalso;exact GF rfl
      ·exfalso;exact PW rfl
   ·exfalso;exact qV rfl
theorem afW(HT:bI B w0){b:al}(hb:eM B w0 F A c b)(c_:b.length≤9223372036854775807):a_ B w0 4 [.slice A b.length c] F (fun r L=>r= .bool true):=by
 by_cases h:y7 b=0
 ·exact afY HT hb c_ h
 ·exact afX HT hb c_ h
end Go.Proofs.YtaodmbolhoafcaaGreatDoor
namespace Go.Proofs.YtaodmbolhoafcaaGreatDoor.lawWholeClean
open Go.RowKit
set_option linter.unusedVariables false
set_option maxRecDepth 20000
theorem gY{a b:Bool}(h1:a=true)(h2:b=true):(a&&b)=true:=by rw[h1,h2];rfl
theorem aqN:Tryz.prog.funcNamed Rows.wholeCleanRow.func=some 4:=by kernel_rfl
theorem as5:Tryz.f4.isInstance Tryz.prog Rows.wholeCleanRow.origin Rows.wholeCleanRow.targs:=Eu ag
theorem as6:Tryz.f4.isWrapper Tryz.prog Rows.wholeCleanRow.wrapper Rows.wholeCleanRow.mainSum:=by unfold Func.isWrapper;first|(rw[ao oR];kernel_rfl)|(rw[aw oR];exact⟨rfl,rfl⟩)
set_option maxHeartbeats 4000000 in
theorem as7:joinedFacts Tryz.prog 4 Tryz.f4 Rows.wholeCleanSpec Rows.wholeCleanRow=true:=by
 unfold joinedFacts;refine gY (gY (gY (gY (gY (gY (gY (gY (gY (gY (gY (gY (gY (gY (gY (gY (gY (gY (gY (gY (gY (gY (gY (gY (gY (gY (gY (gY (gY (gY (gY ?_ ?_) ?_) ?_) ?_) ?_) ?_) ?_) ?_) ?_) ?_) ?_) ?_) ?_) ?_) ?_) ?_) ?_) ?_) ?_) ?_) ?_) ?_) ?_) ?_) ?_) ?_) ?_) ?_) ?_) ?_) ?_
 ·as_aux_lemma=>kernel_rfl
 ·as_aux_lemma=>kernel_rfl
 ·as_aux_lemma=>kernel_rfl
 ·as_aux_lemma=>kernel_rfl
 ·as_aux_lemma=>kernel_rfl
 ·as_aux_lemma=>kernel_rfl
 ·as_aux_lemma=>kernel_rfl
 ·as_aux_lemma=>kernel_rfl
 ·as_aux_lemma=>kernel_rfl
 ·as_aux_lemma=>kernel_rfl
 ·as_aux_lemma=>kernel_rfl
 ·as_aux_lemma=>kernel_rfl
 ·as_aux_lemma=>kernel_rfl
 ·as_aux_lemma=>kernel_rfl
 ·as_aux_lemma=>kernel_rfl
 ·as_aux_lemma=>kernel_rfl
 ·as_aux_lemma=>kernel_rfl
 ·as_aux_lemma=>kernel_rfl
 ·as_aux_lemma=>kernel_rfl
 ·as_aux_lemma=>kernel_rfl
 ·as_aux_lemma=>kernel_rfl
 ·as_aux_lemma=>kernel_rfl
 ·as_aux_lemma=>kernel_rfl
 ·as_aux_lemma=>kernel_rfl
 ·as_aux_lemma=>kernel_rfl
 ·as_aux_lemma=>kernel_rfl
 ·as_aux_lemma=>kernel_rfl
 ·as_aux_lemma=>kernel_rfl
 ·as_aux_lemma=>kernel_rfl
 ·as_aux_lemma=>kernel_rfl
 ·as_aux_lemma=>kernel_rfl
 ·as_aux_lemma=>kernel_rfl
end Go.Proofs.YtaodmbolhoafcaaGreatDoor.lawWholeClean
namespace Go.Proofs.YtaodmbolhoafcaaGreatDoor
set_option linter.unusedVariables false
set_option linter.unusedSimpArgs false
set_option maxRecDepth 20000
variable{B:Nat}{w0:World}{F L0:aP}{A A1 A2 Ao:bj}{n n2 c c1 c2 co g gc:Nat}
end Go.Proofs.YtaodmbolhoafcaaGreatDoor
namespace Go.Proofs.YtaodmbolhoafcaaGreatDoor.lawWholeClean
open Go.RowKit
set_option linter.unusedVariables false
set_option maxRecDepth 20000
theorem as9:Rows.wholeCleanRow.wfByText (OpenSpec.ofChange Rows.wholeCleanSpec)=true:=by kernel_rfl
theorem as':Tryz.pinned.checked.prog.mainIs=some (Rows.wholeCleanCard.stood.harness.1,Rows.wholeCleanCard.stood.harness.2.toList):=by kernel_rfl
theorem ata:false=Tryz.pinned.checked.prog.looks []:=by kernel_rfl
theorem atb{t:TypeId}(h:t∈[27]):Tryz.pinned.checked.prog.wantsStandIn t=false:=by
 simp only[fk,mo,oe]at h;rcases h with rfl<;>kernel_rfl
theorem atc:false=Rows.wholeCleanRow.goesBy Tryz.pinned.checked.prog:=by kernel_rfl
end Go.Proofs.YtaodmbolhoafcaaGreatDoor.lawWholeClean
namespace Go.Proofs.YtaodmbolhoafcaaGreatDoor
set_option linter.unusedVariables false
set_option linter.unusedSimpArgs false
set_option maxRecDepth 20000
variable{B:Nat}{w0:World}{F L0:aP}{A A1 A2 Ao:bj}{n n2 c c1 c2 co g gc:Nat}
end Go.Proofs.YtaodmbolhoafcaaGreatDoor

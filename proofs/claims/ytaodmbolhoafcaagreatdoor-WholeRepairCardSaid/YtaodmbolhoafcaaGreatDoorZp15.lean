/-
  Texts of one proof, joined: part 15. No condition.
-/
import Derived.Test.YtaodmbolhoafcaaGreatDoorZp14
import Derived.WideShapes
import Derived.Test.YtaodmbolhoafcaaGreatDoorRows
import Derived.JoinedOf
import Derived.RowKit
import Derived.Test.YtaodmbolhoafcaaGreatDoorCards
import Derived.SevenTiedAt
open List renaming length→E
open Go.RowKit Go.Proofs.Tryz
namespace Go.Proofs.YtaodmbolhoafcaaGreatDoor
set_option linter.unusedVariables false
set_option linter.unusedSimpArgs false
set_option maxRecDepth 20000
variable{B:Nat}{w0:World}{F L0:aR}{A A1 A2 Ao:bk}{n n2 c c1 c2 co g gc:Nat}
theorem anm{P:Prop}(h:P:=by(rw[hx4];exact KN (by omega))):P:=h
theorem b_3{P:Prop}(h:P:=by(first|rfl|exact dS (by first|exact⟨λk=>⟨oI,mB,k⟩,λk=>k.2.2⟩|exact λk=>mB k.2.1|exact λk=>oI k.1)|exact dR (by first|exact⟨λk=>⟨oI,mB,k⟩,λk=>k.2.2⟩|exact λk=>mB k.2.1|exact λk=>oI k.1)|exact dG (by first|exact⟨λk=>⟨oI,mB,k⟩,λk=>k.2.2⟩|exact λk=>mB k.2.1|exact λk=>oI k.1)|exact kr (by first|exact⟨λk=>⟨oI,mB,k⟩,λk=>k.2.2⟩|exact λk=>mB k.2.1|exact λk=>oI k.1))):P:=h
theorem ap4{x:Nat}(hx:x<4294967296):aZ B w0 244 [.int .u32 (x:Int)] F (λr L=>r= .int .u32 (ux x:Nat)∧L=F):=by
 refine fw func244 11 [0] ?_;refine bO ?_;refine ab (l8 rfl rfl ax (r:=((x%2:Nat):Int)) rfl) rfl (bE ?_);refine aj (λh5=>?_) λh5=>?_
 ·refine bE ?_;refine ab (mJ rfl rfl ax (r:=((x/2:Nat):Int)) (zZ (x:=((x/2:Nat):Int)) aa aa)) rfl (ab (lh rfl rfl (r:=((x/2 ^^^ 3988292384:Nat):Int)) (Ku aa ax)) rfl (bB ?_));unfold ux;rw[ao aa];exact⟨rfl,rfl⟩
 ·refine bF ?_;refine ab (mJ rfl rfl ax (r:=((x/2:Nat):Int)) (zZ (x:=((x/2:Nat):Int)) aa aa)) rfl (bF ?_);unfold ux;rw[aw aa];exact⟨rfl,rfl⟩
theorem alH{s:Nat}{l:al}(hs:s<4294967296)(e:n=E l)(hb:aM B w0 F 1 (.slice A n c) n (bv l))(hl:E l<=1099511627776):aZ B w0 201 [.int .u32 (s:Int),.slice A n c] F (λr L=>r= .int .u32 (ma s l:Nat)∧L=F):=by
 subst e;have ui:=ama hs;refine b_ func201 31 rfl rfl rfl [(0,.int .u32 (s:Int)),(1,.slice A (E l) c)] ⟨⟨rfl,rfl⟩,⟨rfl,rfl⟩,trivial⟩ ?_;refine bK ?_;refine ab (dC rfl rfl (r:=((4294967295 ^^^ s:Nat):Int)) ((zZ aa aa).trans aa)) rfl (bz ?_);refine aD (λzf zL zm=>∃(k x:Nat),(k<=E l∧x<4294967296∧x=(l.take k).foldl HO (4294967295 ^^^ s))∧E l-k=zm∧Sub zf [(1,.slice A (E l) c),(5,.int .u32 (x:Int)),(6,ah (k:Int))]∧Wk zL (F)) _ ⟨0,4294967295 ^^^ s,⟨bU _,aa,by rw[zl];rfl⟩,rfl,bp,.refl _⟩ ?_;rintro _ _ _ ⟨k,x,⟨hk,hx,hxe⟩,rfl,hs,hp⟩;refine aT hs hp ?_;clear hs hp;refine bO ?_;refine aj (λnj=>?_) λnj=>?_
 ·obtain⟨d,hd⟩:=cK (l.getD k 0);have hd8:=r' d;refine bz ?_;refine ab (au (v:=.int .u8 (d.toNat:Int)) ag rfl aB aa (by rw[hd];exact KN aa)) rfl ?_;refine ab (bm (r:=(d.toNat:Int)) underlying5 underlying135 rfl (zZ aa aa)) rfl (ab (lh rfl rfl (r:=((x ^^^ d.toNat:Nat):Int)) (Ku hx aa)) rfl (bO ?_));refine aD (λzf zL zm=>∃(j y:Nat),(j<=8∧y<4294967296∧y=AI j (x ^^^ d.toNat))∧8-j=zm∧Sub zf [(1,.slice A (E l) c),(5,.int .u32 (y:Int)),(6,ah (k:Int)),(7,ah (j:Int))]∧Wk zL (F)) _ ⟨0,x ^^^ d.toNat,⟨bU _,Dh (n:=32) hx aa,rfl⟩,rfl,bp,.refl _⟩ ?_;rintro _ _ _ ⟨j,y,⟨hj,hy,hye⟩,rfl,hs,hp⟩;refine aT hs hp ?_;clear hs hp;refine bI ?_;refine aj (λoB=>?_) λoB=>?_
  ·refine bB ?_;refine ai rfl (ap4 hy) (bO ?_);refine av ⟨_,aa,j+1,ux y,⟨aa,aiu hy,by rw[hye];rfl⟩,rfl,bp,.refl _⟩
  ·refine de ?_;refine av ⟨_,aa,k+1,y,⟨aa,hy,by rw[aY aa (0:UInt8),List.foldl_append,<-hxe,<-hd,hye,show j=8 by omega];exact atS x d⟩,rfl,bp,.refl _⟩
 ·refine bK ?_;have hcx:=ama hx;have hcm:4294967295 ^^^ x=ma s l:=by rw[hxe,fC aa];rfl
  refine ab (dC rfl rfl (r:=((ma s l:Nat):Int)) ((zZ aa aa).trans aa)) rfl (bF ?_);exact⟨rfl,rfl⟩
theorem ap6{l:al}(e:n=E l)(hb:aM B w0 F 1 (.slice A n c) n (bv l))(hl:E l<=1099511627776):aZ B w0 141 [.slice A n c] F (λr L=>r= .int .u32 (ma 0 l:Nat)∧L=F):=by
 refine fw func141 5 [0] ?_;refine bK ?_;refine ai rfl (alH (s:=0) ax e hb hl) (bF ?_);exact⟨rfl,rfl⟩
theorem ap5{l:al}(e:n=E l)(hb:aM B w0 F 1 (.slice A n c) n (bv l))(hl:E l<=1000000000):aZ B w0 78 [.slice A n c] F (λr L=>∃A' c',r= .slice A' (E (cv l)) c'∧L= .own 5 1 A' (E (cv l)) c' (bv (cv l))::F):=by
 subst e;obtain⟨z,hz⟩:=cK (ma 0 l);have hz3:z<4294967296:=hz▸aiX ax l;refine b_ func78 24 rfl rfl rfl [(0,.slice A (E l) c)] ⟨⟨rfl,rfl⟩,trivial⟩ ?_;refine bK ?_;refine ai rfl (ap6 rfl hb aa) (bF ?_);refine cC (j0 cB) λA8=>aF ?_;refine fK (bW cB rfl aW rfl aB cw aa aa) λwJ Ej=>bF ?_;rw[lV,mW,<-hz];refine bF ?_;refine aD (λzf zL zm=>∃(k s:Nat) (acc:al) (A':bk) (c':Nat),(k<=4∧s=z/256^k∧s<4294967296∧acc=l++(jP z).take k∧E acc=E l+k)∧4-k=zm∧Sub zf [(3,.int .u32 (s:Int)),(4,.slice A' (E acc) c'),(5,ah (k:Int))]∧Wk zL (.own 5 1 A' (E acc) c' (bv acc)::F)) _ ⟨0,z,l,wJ,Ej,⟨bU _,ak,hz3,ak,rfl⟩,rfl,bp,.refl _⟩ ?_;rintro _ _ _ ⟨k,s,acc,A',c',⟨hk,jg,hs,mc,Hu⟩,rfl,hs,hp⟩;refine aT hs hp ?_;clear hs hp;refine bI ?_;refine aj (λnY=>?_) λnY=>?_
 ·refine bK ?_;refine ab (l8 rfl rfl ax (r:=((s%256:Nat):Int)) rfl) rfl (ab (bm (r:=((UInt8.ofNat (s%256)).toNat:Int)) underlying135 underlying5 rfl (u8w (s%256))) rfl (dL cB rfl rfl rfl rfl rfl (λ_=>rfl) aW aa aa ?_));intro _ DZ HH;obtain⟨q,hq⟩:=cK (acc++[UInt8.ofNat (s%256)]);have hq1:E acc+1=E q:=by rw[hq];simp
  have Tu:bv acc++[Value.int .u8 ((UInt8.ofNat (s%256)).toNat:Int)]=bv q:=by rw[hq];simp[bv]
  rw[hq1,Tu];refine bF ?_;refine ab (mJ rfl rfl ax (r:=((s/256:Nat):Int)) (zZ (x:=((s/256:Nat):Int)) aa aa)) rfl (bO ?_);refine av ⟨_,aa,k+1,s/256,q,DZ,HH,⟨aa,by rw[jg,Nat.div_div_eq_div_mul];rfl,aa,by rw[hq,mc,UO aa,jg,bX],aa⟩,rfl,bp,.refl _⟩
 ·refine cY ?_;have e:acc=cv l:=by rw[mc,show k=4 by omega,hz];rfl
  subst e;exact⟨_,_,rfl,rfl⟩
theorem ah7{l:al}(e:n=E l)(hb:aM B w0 F 1 (.slice A n c) n (bv l))(hl:E l<=1000000000):aZ B w0 72 [.slice A n c] F (λr L=>∃(v:Value) (Y:aR),r= .tuple #[v,ah (aH l).2]∧L=Y++F):=by
 subst e;refine dU.yw hb λnZ _=>?_;refine b_ func72 23 rfl rfl rfl [(0,.slice A (E l) c)] ⟨⟨rfl,rfl⟩,trivial⟩ ?_;refine ei ?_;refine aj (λh6=>?_) λh6=>?_
 ·refine bO ?_;rw[adm aa];exact⟨_,[],rfl,rfl⟩
 ·obtain⟨m,hm⟩:=cK (E l-4);have hmm:(E l:Int)-4=(m:Int):=by omega
  have xz:aM B w0 F 1 (.slice A m c) m (bv (l.take m)):=by
   have:=hb.jv (k:=m) aa;rw[kD,cH]at this;exact this
  have Aj:E (l.take m)=m:=by rw[eY];omega
  have hce:=adn (l:=l) (m:=m) aa hm;refine bO ?_;refine ab (bV (i:=m) (size:=1) underlying27 ag rfl rfl hmm aa) rfl (ay rfl (ap5 (l:=l.take m) Aj.symm xz aa) λAp cp=>aF ?_);refine ai rfl (BY (l:=cv (l.take m)) (l2:=l) (aM.own (.head _)) hb.cons) (bE ?_);refine aj (λkF=>?_) λkF=>?_
  ·refine bO ?_;rw[hce,aw (by assumption)];exact⟨_,[_],rfl,rfl⟩
  ·refine b7 ?_;refine cC (j0 cB) λYW=>b7 ?_;refine ab (bV (i:=m) (size:=1) underlying27 ag rfl rfl hmm aa) rfl (fK (bW cB rfl aW rfl xz.cons.cons (ra _) aa aa) λVz Ho=>bc ?_);refine ve [2,3] ?_;refine bE ?_;rw[hce,ao (jN.1 kF)];exact⟨_,[_,_],rfl,rfl⟩
theorem Kv{l:al}(e:n=E l)(hb:aM B w0 F 1 (.slice A n c) n (bv l))(hl:E l<=1000000000):aZ B w0 34 [.slice A n c] F (λr L=>r= .tuple #[ah (marked l).1,ah (marked l).2]∧L=F):=by
 subst e;refine b_ func34 43 rfl rfl rfl [(0,.slice A (E l) c)] ⟨⟨rfl,rfl⟩,trivial⟩ ?_;refine ei ?_;refine aj (λh6=>?_) λh6=>?_
 ·refine bO ?_;first
   |(rw[ot aa];exact⟨rfl,rfl⟩)
   |(rw[C',aw aa];exact⟨rfl,rfl⟩)
   |(rw[C',ao aa,aw aa];exact⟨rfl,rfl⟩)
   |(rw[C',ao aa,ao aa];exact⟨rfl,rfl⟩)
 ·have C':=afo (l:=l) aa;obtain⟨x0,Xk⟩:=cK ((l.getD 0 0).toNat);obtain⟨x1,JD⟩:=cK ((l.getD 1 0).toNat);obtain⟨x2,Xl⟩:=cK ((l.getD 2 0).toNat);obtain⟨x3,hx3⟩:=cK ((l.getD 3 0).toNat);obtain⟨x4,hx4⟩:=cK ((l.getD 4 0).toNat);rw[<-Xk,<-JD,<-Xl,<-hx3,<-hx4]at C';have h8:x4<256:=by rw[hx4];exact r' _
  refine bB ?_;refine ab (aE (i:=0) (size:=1) underlying27 ag rfl rfl rfl aa aB) rfl (bE ?_);refine aI rfl rfl rfl (λpg=>?_) (λpg=>?_)
  ·refine bc ?_;refine ab (aE (i:=1) (size:=1) underlying27 ag rfl rfl rfl aa aB) rfl (bB ?_);refine aI rfl rfl rfl (λiI=>?_) (λiI=>?_)
   ·refine bc ?_;refine ab (aE (i:=2) (size:=1) underlying27 ag rfl rfl rfl aa aB) rfl (bB ?_);refine aI rfl rfl rfl (λmB=>?_) (λmB=>?_)
    ·refine bc ?_;refine ab (aE (i:=3) (size:=1) underlying27 ag rfl rfl rfl aa aB) rfl (bF ?_);refine ve [0,28] ?_;refine aF ?_;refine aj (λrn=>?_) λrn=>?_
     ·refine bO ?_;first
       |(rw[ot aa];exact⟨rfl,rfl⟩)
       |(rw[C',aw aa];exact⟨rfl,rfl⟩)
       |(rw[C',ao aa,aw aa];exact⟨rfl,rfl⟩)
       |(rw[C',ao aa,ao aa];exact⟨rfl,rfl⟩)
     ·refine bB ?_;refine ab (aE (i:=4) (size:=1) underlying27 ag rfl rfl rfl aa aB) rfl ?_;refine ab (au (v:=.int .u8 (x4:Int)) ag rfl aB aa anm) rfl (bc ?_);refine aI rfl rfl rfl (λZ3=>?_) (λZ3=>?_)
      ·refine bc ?_;refine ab (aE (i:=4) (size:=1) underlying27 ag rfl rfl rfl aa aB) rfl (aF ?_);refine ab (au (v:=.int .u8 (x4:Int)) ag rfl aB aa anm) rfl (bF ?_);refine aj (λDz=>?_) λDz=>?_
       ·refine bO ?_;first
         |(rw[ot aa];exact⟨rfl,rfl⟩)
         |(rw[C',aw aa];exact⟨rfl,rfl⟩)
         |(rw[C',ao aa,aw aa];exact⟨rfl,rfl⟩)
         |(rw[C',ao aa,ao aa];exact⟨rfl,rfl⟩)
       ·refine bF ?_;refine ab (aE (i:=4) (size:=1) underlying27 ag rfl rfl rfl aa aB) rfl ?_;refine ab (au (v:=.int .u8 (x4:Int)) ag rfl aB aa anm) rfl ?_;refine ab (bm underlying5 underlying3 rfl (r:=(x4:Int)) (bq aa aa)) rfl (bB ?_);first
         |(rw[ot aa];exact⟨rfl,rfl⟩)
         |(rw[C',aw aa];exact⟨rfl,rfl⟩)
         |(rw[C',ao aa,aw aa];exact⟨rfl,rfl⟩)
         |(rw[C',ao aa,ao aa];exact⟨rfl,rfl⟩)
      ·refine jG ?_;first
        |(rw[ot aa];exact⟨rfl,rfl⟩)
        |(rw[C',aw aa];exact⟨rfl,rfl⟩)
        |(rw[C',ao aa,aw aa];exact⟨rfl,rfl⟩)
        |(rw[C',ao aa,ao aa];exact⟨rfl,rfl⟩)
    ·refine b7 ?_;refine ve [0,28] ?_;refine de ?_;first
      |(rw[ot aa];exact⟨rfl,rfl⟩)
      |(rw[C',aw aa];exact⟨rfl,rfl⟩)
      |(rw[C',ao aa,aw aa];exact⟨rfl,rfl⟩)
      |(rw[C',ao aa,ao aa];exact⟨rfl,rfl⟩)
   ·refine bz ?_;refine ve [0,28] ?_;refine de ?_;first
     |(rw[ot aa];exact⟨rfl,rfl⟩)
     |(rw[C',aw aa];exact⟨rfl,rfl⟩)
     |(rw[C',ao aa,aw aa];exact⟨rfl,rfl⟩)
     |(rw[C',ao aa,ao aa];exact⟨rfl,rfl⟩)
  ·refine jG ?_;refine ve [0,28] ?_;refine de ?_;first
    |(rw[ot aa];exact⟨rfl,rfl⟩)
    |(rw[C',aw aa];exact⟨rfl,rfl⟩)
    |(rw[C',ao aa,aw aa];exact⟨rfl,rfl⟩)
    |(rw[C',ao aa,ao aa];exact⟨rfl,rfl⟩)
theorem acf{l:al}(e:n=E l)(hb:aM B w0 F 1 (.slice A n c) n (bv l))(hl:E l<=1000000000):aZ B w0 31 [.slice A n c] F (λr L=>r= .bool (decide (rb l))∧L=F):=by
 unfold rb;refine fw func31 27 [0] ?_;refine bK ?_;refine ay rfl (ah7 e hb hl) λv9 Y=>bK ?_;refine vy (dB Y F) (bc ?_);refine ai rfl (Kv e hb hl) (bO ?_);refine bR 10 26 [] ((aH l).2=0∧(marked l).2=0∧(marked l).1=3) ?_ ?_
 ·refine bE ?_;refine cD (λoI=>?_) λoI=>?_
  ·refine bF ?_;refine cD (λmB=>?_) λmB=>?_
   ·refine b7 ?_;exact aL b_3
   ·refine bc ?_;exact aL b_3
  ·refine bB ?_;exact aL b_3
 ·refine bF ?_;exact⟨rfl,rfl⟩
theorem aqI{P:Prop}(h:P:=by(rw[<-eN];exact(aM.own (.head _)).part (i:=x) (j:=21) (by omega))):P:=h
theorem yn{P:Prop}(h:P:=by(cases k)):P:=h
theorem aqF{P:Prop}(h:P:=by(rw[<-eN];exact(aM.own (.head _)).part (i:=21+x) (j:=ch+4) (by omega))):P:=h
theorem b_5{P:Prop}(h:P:=by(first|rfl|exact dS (by first|exact .inl Lv|exact⟨λk=>.inr k,λk=>k.resolve_left Lv⟩)|exact dR (by first|exact .inl Lv|exact⟨λk=>.inr k,λk=>k.resolve_left Lv⟩)|exact dG (by first|exact .inl Lv|exact⟨λk=>.inr k,λk=>k.resolve_left Lv⟩)|exact kr (by first|exact .inl Lv|exact⟨λk=>.inr k,λk=>k.resolve_left Lv⟩))):P:=h
theorem aoP{a b x:Nat}(h:x=a*b)(hx:x<=4611686018427387904):IntKind.i64.wrap ((a:Int)*(b:Int))=(x:Int):=by
 subst h;rw[<-zi];exact bq aa aa
def aqe(o:aN)(b:al)(F:aR)(r:Value)(K:aR):Prop:=
 ∃A1 n1 c1 ok Y,r= .tuple #[.slice A1 n1 c1,.bool ok]∧K=Y∧(ok=true->∃now,n1=E now∧Y= .own 5 1 A1 (E now) c1 (bv now)::F∧Dam o b now)
theorem ahz{bl bu:Int}{pl:Bool}{d q ch:Nat}{b:al}{T:List kB}(h1:1<=d)(h2:d<=8)(h3:q<=8)(h5:ch<=100)(hT:∀x∈T,kB.ok x)(h42:42<=E b)(di:E b<=4000000)(hb:fo B w0 F A c b)(ht:aM B w0 F 2 (.slice A2 (E T) c2) (E T) (turns T))(W9:E T<=40):
  aZ B w0 33 [.agg #[ah bl,.bool pl,ah bu,ah (d:Int),ah (q:Int),ah (ch:Int)],.slice A (E b) c,.slice A2 (E T) c2] F (aqe (bl,pl,bu,(d:Int),(q:Int),(ch:Int)) b F):=by
 refine dU.yw hb λnZ _=>?_;refine fw func33 142 [0,1,2] ?_;refine bc ?_;refine bg λg3=>?_;refine bB ?_;refine cC (j0 cB) λDZ=>aF ?_;refine fK (bW cB rfl aW rfl aB cw aa aa) λVz Ho=>bF ?_;rw[lV,mW];refine jQ (A:=Vz) (n:=E b) (xs:=bv b) (.head _) aa ?_;intro ad hA;subst hA;refine bF ?_;refine aD (λzf zL zm=>∃(k:Nat) (now:al),(k<=E T∧E now=E b)∧E T-k=zm∧Sub zf [(1,.slice A (E b) c),(2,.slice A2 (E T) c2),(3,br g3),(8,.slice (some ad) (E b) Ho),(9,ah (k:Int))]∧Wk zL (.own 5 1 (some ad) (E b) Ho (bv now):: .bG g3 23 [ah bl,.bool pl,ah bu,ah (d:Int),ah (q:Int),ah (ch:Int)]::F)) _ ⟨0,b,⟨bU _,rfl⟩,rfl,bp,.refl _⟩ ?_;rintro _ _ _ ⟨k,now,⟨hk,Da⟩,rfl,hs,hp⟩;refine aT hs hp (bO ?_);refine aj (λqy=>?_) λqy=>?_
 ·have CC:=abS hT (show k<E T by omega);obtain⟨x,hx⟩:=cK ((vx T k).1%E b);have LC:x<E b:=by rw[hx];exact rZ _ aa
  refine bO ?_;refine ab (cU underlying59 rfl ag rfl aB aa rfl) rfl ?_;refine ab (eU ag rfl aB aa ((Rc aa ax).trans rfl)) rfl ?_;refine ab (bm (r:=((vx T k).1:Int)) underlying57 underlying3 rfl (bq aa aa)) rfl (bc ?_);refine ab (l8 rfl rfl aa (r:=(x:Int)) (by rw[hx];rfl)) rfl (bE ?_);refine cE (.bG g3 23 [ah bl,.bool pl,ah bu,ah (d:Int),ah (q:Int),ah (ch:Int)]::F) ?_;refine ae 0 ?_;refine ae 1 ?_;refine ae 2 ?_;refine ae 3 ?_;refine aU 4 rfl (aO (i:=x) (size:=1) underlying27 ag rfl rfl rfl aa) (ae 6 ?_);refine ae 7 ?_;refine ae 8 ?_;refine aU 9 rfl (cU underlying59 rfl ag rfl aB aa rfl) ?_;refine aU 10 rfl (eU ag rfl ht.cons aa ((Rc aa ax).trans rfl)) (aA 5 (iL rfl .no (iR ag rfl (aM.own (.head _)) LC) rfl gD ?_));refine aU 11 rfl (lh rfl rfl (r:=(((now.getD x 0 ^^^ (vx T k).2).toNat:Nat):Int)) (by rw[UInt8.toNat_xor];exact ah4 (rz _) (rz _))) (aU 12 rfl (aO (i:=x) (size:=1) underlying27 ag rfl rfl rfl aa) (aA 13 (kJ rfl .no (ia ag rfl rfl rfl aW (by rw[Sl];omega)) uw ?_)));rintro _ _ rfl;refine cP [1,2,3,8,9] ?_;refine bI ?_;refine av ⟨_,aa,k+1,now.set x (now.getD x 0 ^^^ (vx T k).2),⟨aa,by rw[List.length_set];exact Da⟩,rfl,bp,az rfl (by rw[cH,Sm]) (.refl _)⟩
 ·refine bB ?_;refine MF (aM.own (.head _)) λawd _=>?_;refine de ?_;refine aD (λzf zL zm=>∃(j hd:Nat),(j<=2∧hd<=j∧Tj b now j hd)∧2-j=zm∧Sub zf [(1,.slice A (E b) c),(3,br g3),(8,.slice (some ad) (E b) Ho),(11,ah (hd:Int)),(12,ah (j:Int))]∧Wk zL (.own 5 1 (some ad) (E b) Ho (bv now):: .bG g3 23 [ah bl,.bool pl,ah bu,ah (d:Int),ah (q:Int),ah (ch:Int)]::F)) _ ⟨0,0,⟨aa,aa,an8 _ _⟩,rfl,bp,.refl _⟩ ?_;rintro _ _ _ ⟨j,hd,⟨hj,hh,hho⟩,rfl,hs,hp⟩;refine aT hs hp (bI ?_);refine aj (λh52=>?_) λh52=>?_
  ·obtain⟨x,hx⟩:=cK (j*(E b-21));have LC:x+21<=E b:=by
    rcases(show j=0∨j=1 by omega)with e|e<;>rw[e]at hx<;>omega
   have hB:=hb.part (i:=x) (j:=21) aa;have eB:(b.drop x).take 21=Ti b j:=by unfold Ti;rw[hx]
   have eN:(now.drop x).take 21=Ti now j:=by unfold Ti;rw[hx,Da]
   have auY:E (Ti now j)=x+21-x:=by rw[<-eN,eY,iG];omega
   rw[eB]at hB;refine bO ?_;refine ab (dC rfl rfl (r:=((E b-21:Nat):Int)) ((bq aa aa).trans aa)) rfl (ab (eH rfl rfl (r:=(x:Int)) (aoP hx aa)) rfl (bK ?_));refine bL (bJ rfl rfl (r:=((x+21:Nat):Int)) ((bq aa aa).trans aa)) rfl (bL (eJ (i:=x) (j:=x+21) (size:=1) underlying27 ag rfl rfl rfl rfl rfl aa aa) rfl (bE ?_));refine bL (bJ rfl rfl (r:=((x+21:Nat):Int)) ((bq aa aa).trans aa)) rfl (bL (eJ (i:=x) (j:=x+21) (size:=1) underlying27 ag rfl rfl rfl rfl rfl aa aa) rfl (gy adb rfl (BY (l:=Ti b j) (l2:=Ti now j) hB.cons.cons aqI) q9 rfl ?_));refine aF ?_;refine lO [(1,_),(3,_),(8,_),(11,_),(12,_),(13,_),(71,_)] ⟨rfl,rfl,rfl,rfl,rfl,rfl,rfl,trivial⟩ ?_;refine aF ?_;refine aj (λh71=>?_) λh71=>?_
   ·refine cF ?_;refine ab (bJ rfl rfl (r:=((x+21:Nat):Int)) ((bq aa aa).trans aa)) rfl (ab (eJ (i:=x) (j:=x+21) (size:=1) underlying27 ag rfl rfl rfl rfl rfl aa aa) rfl (ai rfl (acf (l:=Ti now j) auY.symm aqI aa) (bc ?_)));refine aj (λh79=>?_) λh79=>?_
    ·refine cY ?_;exact⟨_,_,_,false,_,rfl,rfl,λk=>yn⟩
    ·refine bK ?_;refine av ⟨_,aa,j+1,hd+1,⟨aa,aa,aab Da aa h79 hho⟩,rfl,bp,.refl _⟩
   ·refine bK ?_;refine av ⟨_,aa,j+1,hd,⟨aa,aa,aac Da aa (jN.1 h71) hho⟩,rfl,bp,.refl _⟩
  ·obtain rfl:j=2:=by omega
   refine bO ?_;refine ab (bJ rfl rfl (r:=((ch+4:Nat):Int)) ((bq aa aa).trans aa)) rfl (de ?_);refine aD (λzf zL zm=>∃(i m:Nat),(i*(ch+4)<=E b∧i<=E b∧m<=i∧UD (bl,pl,bu,(d:Int),(q:Int),(ch:Int)) b now i m)∧E b-i=zm∧Sub zf [(1,.slice A (E b) c),(3,br g3),(8,.slice (some ad) (E b) Ho),(11,ah (hd:Int)),(14,ah ((ch+4:Nat):Int)),(15,ah (m:Int)),(16,ah (i:Int))]∧Wk zL (.own 5 1 (some ad) (E b) Ho (bv now):: .bG g3 23 [ah bl,.bool pl,ah bu,ah (d:Int),ah (q:Int),ah (ch:Int)]::F)) _ ⟨0,0,⟨aa,aa,aa,apo _ _ _⟩,rfl,bp,.refl _⟩ ?_;rintro _ _ _ ⟨i,m,⟨hic,hib,hm,aon⟩,rfl,hs,hp⟩;refine aT hs hp (bc ?_);obtain⟨x,hx⟩:=cK (i*(ch+4));obtain⟨y,hy⟩:=cK ((i+1)*(ch+4));have Tz:y=x+(ch+4):=by rw[hx,hy,kz,lz]
   have hxi:i<=x:=by rw[hx];exact ae7 _ aa
   refine bc ?_;refine ab (bJ rfl rfl (r:=((i+1:Nat):Int)) ((bq aa aa).trans aa)) rfl (aF ?_);refine ab (eH rfl rfl (r:=(y:Int)) (aoP hy aa)) rfl (ab (bJ rfl rfl (r:=((21+y:Nat):Int)) ((bq aa aa).trans aa)) rfl (bc ?_));refine ab (dC rfl rfl (r:=((E b-21:Nat):Int)) ((bq aa aa).trans aa)) rfl (bE ?_);refine aj (λh91=>?_) λh91=>?_
   ·have hle:21+(i+1)*(ch+4)<=E b-21:=by omega
    have hB:=hb.part (i:=21+x) (j:=ch+4) aa;have eB:(b.drop (21+x)).take (ch+4)=RA (ch+4) b i:=by unfold RA;rw[hx]
    have eN:(now.drop (21+x)).take (ch+4)=RA (ch+4) now i:=by unfold RA;rw[hx]
    have hlc:E (RA (ch+4) now i)=21+x+(ch+4)-(21+x):=by rw[aiP (by rw[Da];exact hle)];omega
    rw[eB]at hB;refine b7 ?_;refine dY (λzf zL=>∃(u:Nat),(u=if i%(d+q)=0 then 0 else m)∧Sub zf [(1,.slice A (E b) c),(3,br g3),(8,.slice (some ad) (E b) Ho),(11,ah (hd:Int)),(14,ah ((ch+4:Nat):Int)),(15,ah (u:Int)),(16,ah (i:Int))]∧Wk zL (.own 5 1 (some ad) (E b) Ho (bv now):: .bG g3 23 [ah bl,.bool pl,ah bu,ah (d:Int),ah (q:Int),ah (ch:Int)]::F)) ?_ ?_
    ·refine bI ?_;refine ab (bJ rfl rfl (r:=((d+q:Nat):Int)) ((bq aa aa).trans aa)) rfl (ab (l8 rfl rfl aa (r:=((i%(d+q):Nat):Int)) rfl) rfl (bE ?_));refine aj (λajr=>?_) λajr=>?_
     ·refine bc ?_;refine ve [1,3,8,11,14,15,16] ?_;exact bC ⟨0,by rw[ao aa],bp,.refl _⟩
     ·refine aF ?_;exact bC ⟨m,by rw[aw aa],bp,.refl _⟩
    ·rintro _ _ ⟨u,hu,hs,hp⟩;refine aT hs hp (aF ?_);have hum:u<=m:=by rw[hu];split<;>omega
     refine bE ?_;refine ab (eH rfl rfl (r:=(x:Int)) (aoP hx aa)) rfl (ab (bJ rfl rfl (r:=((21+x:Nat):Int)) ((bq aa aa).trans aa)) rfl (bz ?_));refine bL (bJ rfl rfl (r:=((21+x+(ch+4):Nat):Int)) ((bq aa aa).trans aa)) rfl (bL (eJ (i:=21+x) (j:=21+x+(ch+4)) (size:=1) underlying27 ag rfl rfl rfl rfl rfl aa aa) rfl (b7 ?_));refine bL (bJ rfl rfl (r:=((21+x+(ch+4):Nat):Int)) ((bq aa aa).trans aa)) rfl (bL (eJ (i:=21+x) (j:=21+x+(ch+4)) (size:=1) underlying27 ag rfl rfl rfl rfl rfl aa aa) rfl (gy adb rfl (BY (l:=RA (ch+4) b i) (l2:=RA (ch+4) now i) hB.cons.cons aqF) q9 rfl ?_));refine bc ?_;refine aj (λanW=>?_) λanW=>?_
     ·refine bK ?_;refine ve [1,3,8,11,14,15,16] ?_;refine av ⟨_,aa,i+1,u,⟨aa,aa,aa,by rw[hu];exact abk rfl rfl Da hle anW aon⟩,rfl,bp,.refl _⟩
     ·refine bK ?_;refine ab (bJ rfl rfl (r:=((21+x+(ch+4):Nat):Int)) ((bq aa aa).trans aa)) rfl (ab (eJ (i:=21+x) (j:=21+x+(ch+4)) (size:=1) underlying27 ag rfl rfl rfl rfl rfl aa aa) rfl (ay rfl (ah7 (l:=RA (ch+4) now i) hlc.symm aqF aa) λawD atQ=>bF ?_));refine ve [1,3,8,11,14,15,16,19] ?_;refine bc ?_;refine vy (dB atQ _) (bK ?_);refine bR 8 138 [1,3,8,11,14,15,16] ((aH (RA (ch+4) now i)).2=0∨(q:Int)<(u:Int)+1) ?_ ?_
      ·refine bE ?_;refine aI rfl rfl rfl (λLv=>?_) (λLv=>?_)
       ·refine bK ?_;exact aL b_5
       ·refine b7 ?_;exact aL b_5
      ·refine bc ?_;refine aj (λanX=>?_) λanX=>?_
       ·refine cY ?_;exact⟨_,_,_,false,_,rfl,rfl,λk=>yn⟩
       ·refine bK ?_;refine av ⟨_,aa,i+1,u+1,⟨aa,aa,aa,by rw[hu];exact abj rfl rfl Da hle anW (λk=>anX (.inl k)) (by rw[<-hu];have:=λk=>anX (.inr k);show u+1<=q;omega) aon⟩,rfl,bp,.refl _⟩
   ·have hdb:=agt rfl (by omega:¬21+(i+1)*(ch+4)<=E b-21) aon;refine cF ?_;refine ve [6,7] ?_;refine bc ?_;refine aq (.cons (.skip (.refl _))) (aF ?_);exact⟨some ad,E now,Ho,decide ((hd:Int)<2),_,by rw[Da],rfl,λk=>⟨now,rfl,by rw[Da],aeu Da hho (by have:=oJ k;omega) hdb⟩⟩
def D6:List aJ:=[(5,1,[100,98],[100,105,115,107,32,102,117,108,108]),(3,0,[],[100,105,115,107,32,111,107])]
def Ry(k:Nat):aN:=if k=0 then (64,false,0,0,0,0) else if k=1 then (64,false,2,0,0,0) else (64,false,2,2,1,16)
def alR:cZ:=aN.cells (Ry 0)++(aN.cells (Ry 1)++aN.cells (Ry 2))
theorem xf:oD D6:=⟨ax,ax,by unfold D6;intro r hr;simp at hr;rcases hr with rfl|rfl<;>decide⟩
theorem aij{k:Nat}(hk:k<3):∃b nb,jo ((k+1:Nat):Int) (Ry k) D6=(b,0)∧Fits b∧tB b=((((k+1:Nat):Int),2,nb,0,true),0):=by
 have ho:ct ((k+1:Nat):Int) (Ry k)=0:=by
  have:k=0∨k=1∨k=2:=by omega
  rcases this with rfl|rfl|rfl<;>decide
 have hs:(((k+1:Nat):Int))=3->ct 3 (Ry k)=0->nK (Ry k):=λq _=>by
  obtain rfl:k=2:=by omega
  unfold nK;decide
 have hp:=FN (v:=((k+1:Nat):Int)) (o:=Ry k) xf hs;have e:=hp.e;rw[ho]at e;obtain⟨f1,f2⟩:=hp.fits e;have hW:jo ((k+1:Nat):Int) (Ry k) D6=((jo ((k+1:Nat):Int) (Ry k) D6).1,0):=FC rfl e;obtain⟨nb,hR⟩:=R7 xf.t (λ_=>aa) hW;exact⟨_,nb,hW,f1,hR⟩
theorem am_{k:Nat}(hk:k<3):∀q u,(aN.cells (Ry k))[q]? =some u->alR[k*6+q]? =some u:=λq u h=>by
 have hq:q<6:=by
  have:=Bw.1 h;obtain⟨h1,_⟩:=this;exact h1
 have:k=0∨k=1∨k=2:=by omega
 have h6:q=0∨q=1∨q=2∨q=3∨q=4∨q=5:=by omega
 rcases this with rfl|rfl|rfl<;>rcases h6 with rfl|rfl|rfl|rfl|rfl|rfl<;>exact h
theorem acu(HT:bM B w0):aZ B w0 8 [] F (λr L=>r= .bool true∧L=F):=by
 refine fw func8 57 [] ?_;refine bI ?_;refine ab (eZ [(0,_),(1,_),(2,_),(3,_)] [_,_,_,_] rfl rfl ag) rfl (ab (bx [(0,_),(3,_)] [.int .u64 0,.int .u8 0,.string ⟨#[]⟩,.string ⟨#[]⟩] [0,3] [_,_,_,_] rfl rfl ag) rfl (cC (mK (size:=4) (kk:=2) (parts:=[(0,.tmp 8),(1,.tmp 9)]) (us:=[(0,.agg (aJ.cells (recAt D6 0)).toArray),(1,.agg (aJ.cells (recAt D6 1)).toArray)]) (cs:=c_ D6) (Yi).ht ag ax ax ax (zv:=(.agg #[.int .u64 0,.int .u8 0,.string ByteArray.empty,.string ByteArray.empty])) ag rfl ag rfl) λwJ=>bF ?_));refine ab (bx [(0,_)] [ah 0,.bool false,ah 0,ah 0,ah 0,ah 0] [0] [_,_,_,_,_,_] rfl rfl ag) rfl (ab (bx [(0,_),(2,_)] [ah 0,.bool false,ah 0,ah 0,ah 0,ah 0] [0,2] [_,_,_,_,_,_] rfl rfl ag) rfl (ab (bx [(0,_),(2,_),(3,_),(4,_),(5,_)] [ah 0,.bool false,ah 0,ah 0,ah 0,ah 0] [0,2,3,4,5] [_,_,_,_,_,_] rfl rfl ag) rfl (cC (mK (size:=6) (kk:=3) (parts:=[(0,.tmp 11),(1,.tmp 12),(2,.tmp 13)]) (us:=[(0,.agg (aN.cells (Ry 0)).toArray),(1,.agg (aN.cells (Ry 1)).toArray),(2,.agg (aN.cells (Ry 2)).toArray)]) (cs:=alR) (ati).ht ag ax ax ax (zv:=(.agg #[ah 0,.bool false,ah 0,ah 0,ah 0,ah 0])) ag rfl ag rfl) λA14=>bz ?_)));refine aD (λzf zL zm=>∃(k:Nat),(k<=3)∧3-k=zm∧Sub zf [(1,.slice wJ 2 2),(2,.slice A14 3 3),(3,ah ((k+1:Nat):Int))]∧Wk zL (.own 23 6 A14 3 3 alR:: .own 62 4 wJ 2 2 (c_ D6)::F)) _ ⟨0,bU _,rfl,bp,.refl _⟩ ?_;rintro _ _ _ ⟨k,hk,rfl,hs,hp⟩;refine aT hs hp (bI ?_);refine aj (λlf=>?_) λlf=>?_
 ·obtain⟨b,nb,hP,hf,hR⟩:=aij (k:=k) aa;have Am:=λM (hb:aM B w0 M 4 (.slice wJ 2 2) 2 (c_ D6))=>xg (F:=M) (L:=D6) (v:=((k+1:Nat):Int)) (o:=Ry k) HT xf.t hb;simp only[hP]at Am;have uO:=λM Iy NR (hb:fo B w0 M Iy NR b)=>IF (F:=M) HT hb hf;simp only[hR]at uO;have p6:=DQ (((k+1:Nat):Int),2,nb,0,true);refine bO ?_;refine ab (dC rfl rfl (r:=((k:Nat):Int)) ((bq aa aa).trans aa)) rfl (ab (aE (i:=k) (size:=6) underlying63 ag rfl rfl rfl aa aB) rfl ?_);refine ab (dq 6 ag rfl aB aa (aN.cells (Ry k)) (am_ aa) rfl) rfl (aF ?_);refine ay rfl (Am _ (aM.own (.tail _ (.head _)))) λIy NR=>bz ?_;refine ai rfl (uO _ _ _ (aM.own (.head _))) (bE ?_);refine bh λg6=>?_;refine bc ?_;refine ve [1,2,3,5,6,7] ?_;refine bB ?_;refine aI rfl rfl rfl (λFa=>?_) (λFa=>?_)
  ·refine bF ?_;refine aI rfl rfl rfl (λCy=>?_) (λCy=>?_)
   ·refine b7 ?_;refine ab (jm rfl) rfl (bc ?_);refine l7 rfl rfl rfl (λZ5=>?_) (λZ5=>?_)
    ·refine bO ?_;refine aI rfl rfl rfl (λh52=>?_) (λh52=>?_)
     ·refine bB ?_;refine ve [1,2,3,56] ?_;refine aF ?_;refine aj (λS6=>?_) λS6=>?_
      ·exfalso;exact S6 rfl
      ·refine bK ?_;refine av ⟨_,aa,k+1,aa,rfl,bp,.s2 (.refl _)⟩
     ·exfalso;exact h52 rfl
    ·exfalso;simp at Z5
   ·exfalso;exact Cy rfl
  ·exfalso;exact Fa rfl
 ·refine de ?_;refine aq (.s2 (.refl _)) (aF ?_);exact⟨rfl,rfl⟩
@[simp] theorem aJ.aiM(x:aJ):E x.cells=4:=rfl
theorem Uy(x y:aJ)(w:World):(Op.equalIn 10000 62 (.agg (aJ.cells x).toArray) (.agg (aJ.cells y).toArray)).run Tryz.prog w= .ok (decide (x=y)) w:=by
 have p0:=λ(z:aJ) w=>ic (P:=Tryz.prog) (t:=60) (xs:=(aJ.cells z).toArray) (off:=0) (v:=.int .u64 z.1) ag rfl w;have p1:=λ(z:aJ) w=>ic (P:=Tryz.prog) (t:=5) (xs:=(aJ.cells z).toArray) (off:=1) (v:=.int .u8 z.2.1.toNat) ag rfl w;have p2:=λ(z:aJ) w=>ic (P:=Tryz.prog) (t:=9) (xs:=(aJ.cells z).toArray) (off:=2) (v:=.string ⟨z.2.2.1.toArray⟩) ag rfl w;have p3:=λ(z:aJ) w=>ic (P:=Tryz.prog) (t:=9) (xs:=(aJ.cells z).toArray) (off:=3) (v:=.string ⟨z.2.2.2.toArray⟩) ag rfl w;have q0:=λ(a b:Int) w=>run_equalIn_int (P:=Tryz.prog) w 9998 60 .u64 .u64 a b underlying60;have q1:=λ(a b:Int) w=>run_equalIn_int (P:=Tryz.prog) w 9998 5 .u8 .u8 a b underlying5;have q2:=λ(a b:ByteArray) w=>run_equalIn_string (P:=Tryz.prog) w 9998 9 a b underlying9;rw[run_equalIn_agg w 9999 _ _ _ ag ag];simp only[Program.fieldsOf,underlying62];simp[Op.eqFields,p0,p1,p2,p3];rw[q0];obtain⟨a,b,s,t⟩:=x;obtain⟨a',b',s',t'⟩:=y;by_cases h0:a=a'
 ·have e0:((a:Int)==a')=true:=by simp[h0]
  simp only[e0,uV];rw[q1];by_cases h1:b=b'
  ·have e1:((b.toNat:Int)==b'.toNat)=true:=by simp[h1]
   simp only[e1,uV];rw[q2,NP];by_cases h2:s=s'
   ·simp only[oK h2,uV];rw[q2,NP];by_cases h3:t=t'
    ·simp[h0,h1,h2,h3]
    ·simp[h0,h1,h2,h3]
   ·simp[h2]
  ·have:¬(b.toNat:Int)=b'.toNat:=λh=>h1 (mR.1 aa);have h':((b.toNat:Int)==b'.toNat)=false:=by simpa using this
   simp[h1,h']
 ·have h':((a:Int)==a')=false:=by rw[qN];omega
  simp[h0,h']
theorem Od{C:Cx}{fr:Fr}{L:aR}{x y:Operand}{ty yt:TypeId}{p q:aJ}(hP:C.P=Tryz.prog)(h1:ev fr x=some (.agg (aJ.cells p).toArray))(h2:ev fr y=some (.agg (aJ.cells q).toArray)):gR C fr L (.binOp .neq 62 x y yt) ty (.bool (decide (¬p=q))):=λa w ha hw d pos af g=>by
 have he:(eqGuard .neq 62 x y (.agg (aJ.cells p).toArray) (.agg (aJ.cells q).toArray)).run C.P w= .ok () w:=by rw[hP];exact run_eqGuard_agg w .neq _ x y _ _ ag
 have e1:(binOp .neq 62 (.agg (aJ.cells p).toArray) (.agg (aJ.cells q).toArray)).run C.P w= .ok (.bool (decide (¬p=q))) w:=by
  rw[hP,run_neq_struct,Uy];simp
 simp only[execOp,ha.tmp h1,ha.tmp h2,LK,he,e1,uV,Ig]
theorem agB{l l2:List aJ}(h1:aM B w0 F 4 (.slice A (E l) c) (E l) (c_ l))(h2:aM B w0 F 4 (.slice A2 (E l2) c2) (E l2) (c_ l2))(hl:E l<=1000000000):
  aZ B w0 15 [.slice A (E l) c,.slice A2 (E l2) c2] F (λr L=>r= .bool (decide (l=l2))∧L=F):=by
 refine fw func15 26 [0,1] ?_;refine jt ?_;refine aj (λjU=>?_) λjU=>?_
 ·refine bK ?_;exact⟨ane,rfl⟩
 ·refine bO ?_;refine aD (λzf zL zm=>∃(k:Nat),(k<=E l∧l.take k=l2.take k)∧E l-k=zm∧Sub zf [(0,.slice A (E l) c),(1,.slice A2 (E l2) c2),(5,ah k)]∧Wk zL (F)) _ ⟨0,⟨bU _,rfl⟩,rfl,bp,.refl _⟩ ?_;rintro _ _ _ ⟨k,⟨hk,heq⟩,rfl,hs,hp⟩;refine aT hs hp (bO ?_);refine aj (λku=>?_) λku=>?_
  ·have p6:=vZ (recAt l k);refine bO ?_;refine bL (dq 4 ag rfl aB aa (aJ.cells (recAt l k)) (mu aa) rfl) rfl (bE ?_);refine bL (dq 4 ag rfl aB aa (aJ.cells (recAt l2 k)) (mu aa) rfl) rfl ?_;refine bL (Od rfl rfl rfl) rfl (bc ?_);refine aj (λwS=>?_) λwS=>?_
   ·refine cF ?_;exact⟨by rw[oq (λh=>by rw[h]at wS;exact wS rfl)],rfl⟩
   ·refine bK ?_;refine av ⟨_,aa,k+1,⟨aa,by rw[aY aa (0,0,[],[]),aY aa (0,0,[],[]),heq];exact dQ (λz=>l2.take k++[z]) (jN.1 wS)⟩,rfl,bp,.refl _⟩
  ·refine cF ?_;have e:l=l2:=by
    have:=heq
    rwa [fC aa,fC aa]at this
   exact⟨by rw[oK e],rfl⟩
section
section
variable{C:Cx}{fr:Fr}{L:aR}{x y:Operand}{ty yt:TypeId}
end
end
theorem nw{P:Prop}(h:P:=by(first|rfl|exact dS (by omega)|exact dR (by omega)|exact dG (by omega)|exact kr (by omega))):P:=h
theorem vW{v:Int}{o:aN}{e:Int}(h1:¬(v=1∨v=2∨v=3)->e=4)(h2:(v=1∨v=2∨v=3)->jB v o->e=0)(h3:(v=1∨v=2∨v=3)->¬jB v o->e=9):e=ct v o:=by
 unfold ct;split
 ·rename_i h;split
  ·rename_i k;exact h2 h k
  ·rename_i k;exact h3 h k
 ·rename_i h;exact h1 h
instance (o:aN):Decidable (nK o):=inferInstanceAs (Decidable (_∧_∧_∧_∧_))
theorem Uu(v:Int)(o:aN):aZ B w0 12 [ah v,.agg (aN.cells o).toArray] F (λr L=>r=ah (ct v o)∧L=F):=by
 obtain⟨bl,pl,bu,da,pa,ch⟩:=o;refine b_ func12 92 rfl rfl rfl [(0,ah v),(1,.agg #[ah bl,.bool pl,ah bu,ah da,ah pa,ah ch])] ⟨⟨rfl,rfl⟩,⟨rfl,rfl⟩,trivial⟩ ?_;refine bc ?_;refine bg λg3=>?_;refine bB ?_;refine bR 6 10 [0,3] (¬(v=1∨v=2∨v=3)) ?_ ?_
 ·refine bE ?_;refine aI rfl rfl rfl (λh7=>?_) (λh7=>?_)
  ·refine b7 ?_;exact aL nw
  ·refine bc ?_;exact aL nw
 ·refine bc ?_;refine aj (λjU=>?_) λjU=>?_
  ·refine bI ?_;refine aq (.skip (.refl _)) (aF ?_);refine⟨dQ (Value.int .i64) (vW (λ_=>?_) (λ_ hm=>?_) (λ_ hm=>?_)),rfl⟩<;>first|omega|(simp only[jB,Mw,DW]at hm;omega)
  ·refine bF ?_;refine bR 8 18 [0,3] (¬(16<=bl∧bl<=32768)) ?_ ?_
   ·refine b7 ?_;refine aI rfl rfl rfl (λku=>?_) (λku=>?_)
    ·refine bB ?_;exact aL nw
    ·refine bE ?_;exact aL nw
   ·refine bc ?_;refine aj (λiC=>?_) λiC=>?_
    ·refine bI ?_;refine aq (.skip (.refl _)) (aF ?_);refine⟨dQ (Value.int .i64) (vW (λ_=>?_) (λ_ hm=>?_) (λ_ hm=>?_)),rfl⟩<;>first|omega|(simp only[jB,Mw,DW]at hm;omega)
    ·refine bF ?_;refine bR 21 39 [0,3] (¬((v=1->bu=0)∧(1<v->1<=bu∧bu<=64))) ?_ ?_
     ·refine bE ?_;refine cD (λmx=>?_) λmx=>?_
      ·refine bI ?_;refine aI rfl rfl rfl (λqy=>?_) (λqy=>?_)
       ·refine bF ?_;refine cD (λqu=>?_) λqu=>?_
        ·refine bI ?_;refine aI rfl rfl rfl (λZ3=>?_) (λZ3=>?_)
         ·refine bz ?_;exact aL nw
         ·refine bI ?_;exact aL nw
        ·refine bz ?_;exact aL nw
       ·refine cF ?_;exact aL nw
      ·refine bz ?_;refine cD (λqu=>?_) λqu=>?_
       ·refine bI ?_;refine aI rfl rfl rfl (λZ3=>?_) (λZ3=>?_)
        ·refine bz ?_;exact aL nw
        ·refine bI ?_;exact aL nw
       ·refine bz ?_;exact aL nw
     ·refine bc ?_;refine aj (λW4=>?_) λW4=>?_
      ·refine bI ?_;refine aq (.skip (.refl _)) (aF ?_);refine⟨dQ (Value.int .i64) (vW (λ_=>?_) (λ_ hm=>?_) (λ_ hm=>?_)),rfl⟩<;>first|omega|(simp only[jB,Mw,DW]at hm;omega)
      ·refine bF ?_;refine bR 17 56 [0,3] (v<3∧¬(da=0∧pa=0∧ch=0)) ?_ ?_
       ·refine bE ?_;refine cD (λh42=>?_) λh42=>?_
        ·refine bI ?_;refine aI rfl rfl rfl (λZ5=>?_) (λZ5=>?_)
         ·refine bO ?_;refine aI rfl rfl rfl (λh51=>?_) (λh51=>?_)
          ·refine bK ?_;exact aL nw
          ·refine bF ?_;exact aL nw
         ·refine cF ?_;exact aL nw
        ·refine cY ?_;exact aL nw
       ·refine bc ?_;refine aj (λS6=>?_) λS6=>?_
        ·refine bI ?_;refine aq (.skip (.refl _)) (aF ?_);refine⟨dQ (Value.int .i64) (vW (λ_=>?_) (λ_ hm=>?_) (λ_ hm=>?_)),rfl⟩<;>first|omega|(simp only[jB,Mw,DW]at hm;omega)
        ·refine bF ?_;refine bR 35 91 [] (v=3∧¬(1<=da∧da<=255∧0<=pa∧pa<=255-da∧1<=ch∧ch<=4096)) ?_ ?_
         ·refine bE ?_;refine cD (λh59=>?_) λh59=>?_
          ·refine bI ?_;refine aI rfl rfl rfl (λyd=>?_) (λyd=>?_)
           ·refine bO ?_;refine aI rfl rfl rfl (λh68=>?_) (λh68=>?_)
            ·refine bO ?_;refine aI rfl rfl rfl (λh73=>?_) (λh73=>?_)
             ·refine jt ?_;refine aI rfl rfl rfl (λh81=>?_) (λh81=>?_)
              ·refine bO ?_;refine aI rfl rfl rfl (λh86=>?_) (λh86=>?_)
               ·refine bK ?_;exact aL nw
               ·refine bF ?_;exact aL nw
              ·refine cF ?_;exact aL nw
             ·refine E' ?_;exact aL nw
            ·refine ar9 ?_;exact aL nw
           ·refine aui ?_;exact aL nw
          ·refine auh ?_;exact aL nw
         ·refine bc ?_;refine aj (λh91=>?_) λh91=>?_
          ·refine bI ?_;refine aq (.skip (.refl _)) (aF ?_);refine⟨dQ (Value.int .i64) (vW (λ_=>?_) (λ_ hm=>?_) (λ_ hm=>?_)),rfl⟩<;>first|omega|(simp only[jB,Mw,DW]at hm;omega)
          ·refine bK ?_;refine aq (.skip (.refl _)) (aF ?_);refine⟨dQ (Value.int .i64) (vW (λ_=>?_) (λ_ hm=>?_) (λ_ hm=>?_)),rfl⟩<;>first|omega|(simp only[jB,Mw,DW]at hm;omega)
theorem UC(o:aN)(h:1<=o.2.2.2.1):aZ B w0 25 [.agg (aN.cells o).toArray] F (λr L=>r= .bool (decide (nK o))∧L=F):=by
 obtain⟨bl,pl,bu,da,pa,ch⟩:=o;simp only at h;refine b_ func25 29 rfl rfl rfl [(0,.agg #[ah bl,.bool pl,ah bu,ah da,ah pa,ah ch])] ⟨⟨rfl,rfl⟩,trivial⟩ ?_;refine bc ?_;refine bg λg1=>?_;refine bF ?_;refine bR 26 28 [] (da<=8∧pa<=8∧pa<=4*da∧4<=ch∧ch<=100) ?_ ?_
 ·refine b7 ?_;refine cD (λh6=>?_) λh6=>?_
  ·refine bI ?_;refine cD (λpg=>?_) λpg=>?_
   ·refine cY ?_;refine cD (λoI=>?_) λoI=>?_
    ·refine bI ?_;refine cD (λoB=>?_) λoB=>?_
     ·refine bB ?_;exact aL nw
     ·refine bE ?_;exact aL nw
    ·refine bK ?_;exact aL nw
   ·refine jG ?_;exact aL nw
  ·refine H5 ?_;exact aL nw
 ·refine b7 ?_;refine aq (.skip (.refl _)) (aF ?_);exact⟨rfl,rfl⟩
theorem D7{P:Prop}(h:P:=by(rw[<-hW];exact FC rfl hW0)):P:=h
theorem b_4{P:Prop}(h:P:=by(first|rfl|exact dS (by first|exact .inl OS|exact⟨λk=>.inr (by omega),λk=>by have:=k.resolve_left OS;omega⟩)|exact dR (by first|exact .inl OS|exact⟨λk=>.inr (by omega),λk=>by have:=k.resolve_left OS;omega⟩)|exact dG (by first|exact .inl OS|exact⟨λk=>.inr (by omega),λk=>by have:=k.resolve_left OS;omega⟩)|exact kr (by first|exact .inl OS|exact⟨λk=>.inr (by omega),λk=>by have:=k.resolve_left OS;omega⟩))):P:=h
theorem b_6{P:Prop}(h:P:=by(first|rfl|exact dS (by first|exact⟨λk=>⟨yd,k⟩,λk=>k.2⟩|exact λk=>yd k.1)|exact dR (by first|exact⟨λk=>⟨yd,k⟩,λk=>k.2⟩|exact λk=>yd k.1)|exact dG (by first|exact⟨λk=>⟨yd,k⟩,λk=>k.2⟩|exact λk=>yd k.1)|exact kr (by first|exact⟨λk=>⟨yd,k⟩,λk=>k.2⟩|exact λk=>yd k.1))):P:=h
theorem ahA{o:aN}{b:al}{T:List kB}(ho:ct 3 o=0)(hs:nK o)(hT:∀x∈T,kB.ok x)(h42:42<=E b)(di:E b<=4000000)(hb:fo B w0 F A c b)(ht:aM B w0 F 2 (.slice A2 (E T) c2) (E T) (turns T))(W9:E T<=40):
  aZ B w0 33 [.agg (aN.cells o).toArray,.slice A (E b) c,.slice A2 (E T) c2] F (aqe o b F):=by
 obtain⟨fy,_⟩:=jC ho;obtain⟨_,m3,_⟩:=fy;obtain⟨⟨k1,k2⟩,⟨k3,k4⟩,⟨k5,k6⟩⟩:=m3 rfl;obtain⟨s1,s2,s3,s4,s5⟩:=hs;obtain⟨bl,pl,bu,da,pa,ch⟩:=o;simp only at k1 k2 k3 k4 k5 k6 s1 s2 s3 s4 s5;obtain⟨d,rfl⟩:∃d:Nat,da=(d:Int):=⟨da.toNat,aa⟩
 obtain⟨q,rfl⟩:∃d:Nat,pa=(d:Int):=⟨pa.toNat,aa⟩
 obtain⟨h,rfl⟩:∃d:Nat,ch=(d:Int):=⟨ch.toNat,aa⟩
 exact ahz aa aa aa aa hT h42 di hb ht W9
def atM(o:aN)(L:List aJ)(F:aR)(r:Value)(K:aR):Prop:=
 ∃A1 n1 c1 A2 n2 c2 ok Y,r= .tuple #[.slice A1 n1 c1,.slice A2 n2 c2,.bool ok]∧K=Y∧(ok=true->∃b now,n1=E b∧n2=E now∧
  Y= .own 5 1 A2 (E now) c2 (bv now):: .own 5 1 A1 (E b) c1 (bv b)::F∧oD L∧nK o∧jo 3 o L=(b,0)∧Dam o b now∧(marked now).1≠1∧(marked now).1≠2)
theorem Zw(HT:bM B w0){o:aN}{L:List aJ}{T:List kB}(hx:QP L)(hT:∀x∈T,kB.ok x)(hb:aM B w0 F 4 (.slice A (E L) c) (E L) (c_ L))(ht:aM B w0 F 2 (.slice A2 (E T) c2) (E T) (turns T)):
  aZ B w0 18 [.agg (aN.cells o).toArray,.slice A (E L) c,.slice A2 (E T) c2] F (atM o L F):=by
 have p6:=gw o;have Am:=λM (hb:aM B w0 M 4 (.slice A (E L) c) (E L) (c_ L))=>xg (F:=M) (v:=3) (o:=o) HT hx hb;have mP:=λ(h:oD L) (k:nK o)=>FN (v:=3) (o:=o) h (λ_ _=>k);obtain⟨W,hW⟩:=cK (jo 3 o L);simp only[<-hW]at Am mP;refine fw func18 67 [0,1,2] ?_;refine bc ?_;refine bg λg3=>?_;refine bO ?_;refine be at0 rfl (ajo L aB 20 1000 aa aa) rfl ?_;rintro _ _ ⟨x16,rfl,cO,avq⟩;obtain rfl:=cO.symm;refine aF ?_;refine l7 rfl rfl rfl (λiI=>?_) (λiI=>?_)
 ·have hgr:=avq (by simpa using iI);refine ab (bP 6 ag rfl aW (aN.cells o) rfl rfl) rfl (aF ?_);refine ai rfl (Uu 3 o) (b7 ?_);refine aI rfl rfl rfl (λrm=>?_) (λrm=>?_)
  ·have hda:1<=o.2.2.2.1:=by
    have:=(xL (.inr (.inr rfl)) (jN.1 rm)).2.1 rfl;exact this.1.1
   refine ab (bP 6 ag rfl aW (aN.cells o) rfl rfl) rfl (aF ?_);refine ai rfl (UC o hda) (aF ?_);refine ab (jm rfl) rfl (bc ?_);refine l7 rfl rfl rfl (λkG=>?_) (λkG=>?_)
   ·have yh:nK o:=by simpa using kG
    refine bB ?_;refine ve [1,2,3,31] ?_;refine aF ?_;refine aj (λC_=>?_) λC_=>?_
    ·refine bO ?_;first|refine aq (.cons (.cons (.skip (.refl _)))) ?_ |skip
     refine aF ?_;first
      |exact⟨_,_,_,_,_,_,false,_,rfl,rfl,λk=>yn⟩
      |exact⟨Cg,_,Zh,Rx,_,Rz,_,_,rfl,rfl,λk=>⟨W.1,now,rfl,rfl,rfl,hlg,yh,D7,Fe,(oJ k).1,(oJ k).2⟩⟩
    ·have ho:ct 3 o=0:=jN.1 rm;have W9:E T<=40:=by omega
     have hlg:oD L:=⟨by have:=hgr.1;omega,by have:=hgr.2;omega,hx⟩
     have hP:=mP hlg yh;refine b7 ?_;refine ab (bP 6 ag rfl aW (aN.cells o) rfl rfl) rfl (aF ?_);refine ay rfl (Am _ hb.cons) λCg Zh=>bz ?_;refine bR 7 44 [2,3,9] (¬W.2=0∨E W.1<42) ?_ ?_
     ·refine bE ?_;refine aI rfl rfl rfl (λOS=>?_) (λOS=>?_)
      ·refine bB ?_;exact aL b_4
      ·refine bE ?_;exact aL b_4
     ·refine bc ?_;refine aj (λsT=>?_) λsT=>?_
      ·refine bO ?_;first|refine aq (.cons (.cons (.skip (.refl _)))) ?_ |skip
       refine aF ?_;first
        |exact⟨_,_,_,_,_,_,false,_,rfl,rfl,λk=>yn⟩
        |exact⟨Cg,_,Zh,Rx,_,Rz,_,_,rfl,rfl,λk=>⟨W.1,now,rfl,rfl,rfl,hlg,yh,D7,Fe,(oJ k).1,(oJ k).2⟩⟩
      ·have hW0:W.2=0:=bA λk=>sT (.inl k);have h42:42<=E W.1:=wY λk=>sT (.inr k);have hfi:=hP.fits hW0;refine b7 ?_;refine ab (bP 6 ag rfl aW (aN.cells o) rfl rfl) rfl (bc ?_);refine be at1 rfl (ahA ho yh hT h42 hfi.2 (aM.own (.head _)) ht.cons.cons W9) rfl ?_;rintro _ _ ⟨Rx,n49,Rz,ok,Y49,rfl,cO,kN⟩;obtain rfl:=cO.symm;refine de ?_;refine ab (jm rfl) rfl (bc ?_);refine iH (λh53=>?_) λh53=>?_
       ·refine bO ?_;first|refine aq (.cons (.cons (.skip (.refl _)))) ?_ |skip
        refine aF ?_;first
         |exact⟨_,_,_,_,_,_,false,_,rfl,rfl,λk=>yn⟩
         |exact⟨Cg,_,Zh,Rx,_,Rz,_,_,rfl,rfl,λk=>⟨W.1,now,rfl,rfl,rfl,hlg,yh,D7,Fe,(oJ k).1,(oJ k).2⟩⟩
       ·obtain⟨now,rfl,rfl,Fe⟩:=kN (by simpa using h53);refine bF ?_;refine ai rfl (Kv (l:=now) rfl (aM.own (.head _)) (by have:=Fe.len;have:=hfi.2;omega)) (bF ?_);refine ve [9,11,13] ?_;refine bF ?_;refine bR 6 66 [59,60] (¬(marked now).1=1∧¬(marked now).1=2) ?_ ?_
        ·refine bE ?_;refine cD (λyd=>?_) λyd=>?_
         ·refine b7 ?_;exact aL b_6
         ·refine bc ?_;exact aL b_6
        ·refine bB ?_;first|refine aq (.cons (.cons (.skip (.refl _)))) ?_ |skip
         refine aF ?_;first
          |exact⟨_,_,_,_,_,_,false,_,rfl,rfl,λk=>yn⟩
          |exact⟨Cg,_,Zh,Rx,_,Rz,_,_,rfl,rfl,λk=>⟨W.1,now,rfl,rfl,rfl,hlg,yh,D7,Fe,(oJ k).1,(oJ k).2⟩⟩
   ·refine bE ?_;refine ve [1,2,3,31] ?_;refine de ?_;first|refine aq (.cons (.cons (.skip (.refl _)))) ?_ |skip
    refine aF ?_;first
     |exact⟨_,_,_,_,_,_,false,_,rfl,rfl,λk=>yn⟩
     |exact⟨Cg,_,Zh,Rx,_,Rz,_,_,rfl,rfl,λk=>⟨W.1,now,rfl,rfl,rfl,hlg,yh,D7,Fe,(oJ k).1,(oJ k).2⟩⟩
  ·refine bK ?_;refine ve [1,2,3,31] ?_;refine de ?_;first|refine aq (.cons (.cons (.skip (.refl _)))) ?_ |skip
   refine aF ?_;first
    |exact⟨_,_,_,_,_,_,false,_,rfl,rfl,λk=>yn⟩
    |exact⟨Cg,_,Zh,Rx,_,Rz,_,_,rfl,rfl,λk=>⟨W.1,now,rfl,rfl,rfl,hlg,yh,D7,Fe,(oJ k).1,(oJ k).2⟩⟩
 ·refine cY ?_;refine ve [1,2,3,31] ?_;refine de ?_;first|refine aq (.cons (.cons (.skip (.refl _)))) ?_ |skip
  refine aF ?_;first
   |exact⟨_,_,_,_,_,_,false,_,rfl,rfl,λk=>yn⟩
   |exact⟨Cg,_,Zh,Rx,_,Rz,_,_,rfl,rfl,λk=>⟨W.1,now,rfl,rfl,rfl,hlg,yh,D7,Fe,(oJ k).1,(oJ k).2⟩⟩
theorem agk(HT:bM B w0){b:al}{L:List aJ}(hb:fo B w0 F A c b)(hf:Fits b)(hx:wL b=(L,3,0)):
  aZ B w0 19 [.slice A (E b) c] F (aib (zR b) F):=by
 have aeR:=IE (F:=F) HT hb hf;rw[hx]at aeR;refine fw func19 26 [0] ?_;refine bz ?_;refine ay rfl (aeR) λwJ Ej=>jG ?_;refine aj (λkF=>?_) λkF=>?_
 ·exfalso;exact kF rfl
 ·refine bO ?_;refine aj (λiC=>?_) λiC=>?_
  ·refine bE ?_;refine ay rfl (QX HT hb.cons hf.all) λDZ HH=>bB ?_;refine ve [2,3,4] ?_;refine bE ?_;refine aq (.cons (.skip (.refl _))) (aF ?_);exact⟨DZ,HH,rfl,rfl⟩
  ·exfalso;exact iC rfl
theorem aqQ{P:Prop}(h:P:=by(repeat (first|exact List.Mem.head _|apply List.Mem.tail))):P:=h
theorem acd(HT:bM B w0){o:aN}{L:List aJ}{T:List kB}(hb:aM B w0 F 4 (.slice A (E L) c) (E L) (c_ L))(hx:QP L)(ht:aM B w0 F 2 (.slice A2 (E T) c2) (E T) (turns T))(hT:∀x∈T,kB.ok x):
  aZ B w0 6 [.agg (aN.cells o).toArray,.slice A (E L) c,.slice A2 (E T) c2] F (λr M=>r= .bool true):=by
 have p6:=gw o;refine fw func6 93 [0,1,2] ?_;refine bc ?_;refine bg λg3=>?_;refine bB ?_;refine ai rfl (acu HT) (ab (jm rfl) rfl (bc ?_));refine iH (λoI=>?_) λoI=>?_
 ·exfalso;simp at oI
 ·refine b7 ?_;refine ab (bP 6 ag rfl aW (aN.cells o) rfl rfl) rfl (bc ?_);refine be atZ rfl (Zw HT hx hT hb.cons ht.cons) rfl ?_;rintro _ _ ⟨AD,n24,Dr,B24,m24,e24,ok,Y24,rfl,cO,kN⟩;obtain rfl:=cO.symm;refine cY ?_;refine ab (jm rfl) rfl (bc ?_);refine iH (λqu=>?_) λqu=>?_
  ·refine bE ?_;refine ve [6] ?_;refine b7 ?_;rfl
  ·obtain⟨b,now,rfl,rfl,rfl,hL,hs,hp,Fe,O_,uj⟩:=kN (by simpa using qu);have hf:=adP hL hp hs Fe O_ uj;obtain⟨nb,n,e1,e2,e3,e4,_,_⟩:=Nk hx hp hs Fe O_ uj;have aom:=λM A5 c5 (hb:fo B w0 M A5 c5 now)=>agk (F:=M) HT hb hf e1;have aeR:=λM A5 c5 (hb:fo B w0 M A5 c5 now)=>IE (F:=M) HT hb hf;have uO:=λM A5 c5 (hb:fo B w0 M A5 c5 now)=>IF (F:=M) HT hb hf;simp only[e3]at aom;simp only[e1]at aeR;simp only[e2]at uO;have av3:=DQ (3,E L,nb,n,decide (now=b));refine bF ?_;refine ay rfl (aom _ _ _ (aM.own (.head _))) λMP MX=>bI ?_;refine ve [1,7,8,10,11,12] ?_;refine b7 ?_;refine ay rfl (aeR _ _ _ (aM.own (.tail _ (.head _)))) λMR NS=>cF ?_;refine ai rfl (uO _ _ _ (aM.own (.tail _ (.tail _ (.head _))))) (bE ?_);refine bh λg16=>?_;refine bO ?_;refine iP rfl rfl rfl (λRH=>?_) (λRH=>?_)
   ·refine b7 ?_;refine gy adb rfl (BY (l:=b) (l2:=b) (aM.own aqQ) (aM.own aqQ)) q9 rfl ?_;refine bc ?_;refine vB rfl rfl rfl (λh54=>?_) (λh54=>?_)
    ·refine bF ?_;refine iP rfl rfl rfl (λh58=>?_) (λh58=>?_)
     ·refine bF ?_;refine iP rfl rfl rfl (λh62=>?_) (λh62=>?_)
      ·refine b7 ?_;refine gy atY rfl (agB (l:=L) (l2:=L) aB aB (by have:=hL.few;omega)) q9 rfl ?_;refine bc ?_;refine vB rfl rfl rfl (λOT=>?_) (λOT=>?_)
       ·refine bF ?_;refine iP rfl rfl rfl (λh71=>?_) (λh71=>?_)
        ·refine bO ?_;refine iP rfl rfl rfl (λh77=>?_) (λh77=>?_)
         ·refine bK ?_;refine gy adb rfl (BY (l:=now) (l2:=b) aB aB) q9 rfl ?_;refine aF ?_;refine bL (yI underlying4 rfl rfl) rfl (bc ?_);refine vB rfl rfl rfl (λh85=>?_) (λh85=>?_)
          ·refine bK ?_;refine gy adb rfl (BY (l:=now) (l2:=b) aB aB) q9 rfl ?_;refine aF ?_;refine bL (yI underlying4 rfl rfl) rfl (bc ?_);refine lO [(6,_)] ⟨rfl,trivial⟩ ?_;refine bE ?_;simp[e4]
          ·exfalso;simp at h85
         ·exfalso;exact h77 rfl
        ·exfalso;exact h71 rfl
       ·exfalso;simp at OT
      ·exfalso;exact h62 rfl
     ·exfalso;exact h58 rfl
    ·exfalso;simp at h54
   ·exfalso;exact RH rfl
theorem N9{P:Program}{w:World}{t:TypeId}{α β γ δ ε ζ:Type}{f0 f1 f2 f3 f4 f5:Field}{F0:α->Value}{F1:β->Value}{F2:γ->Value}{F3:δ->Value}{F4:ε->Value}{F5:ζ->Value}{O0:α->Prop}{O1:β->Prop}{O2:γ->Prop}{O3:δ->Prop}{O4:ε->Prop}{O5:ζ->Prop}(ht:P.underlying t=some (.struct #[f0,f1,f2,f3,f4,f5]))(hc:P.cellsOf t=6)(h0:f0.offset=0∧P.cellsOf f0.type=1)(h1:f1.offset=1∧P.cellsOf f1.type=1)(h2:f2.offset=2∧P.cellsOf f2.type=1)(h3:f3.offset=3∧P.cellsOf f3.type=1)(h4:f4.offset=4∧P.cellsOf f4.type=1)(h5:f5.offset=5∧P.cellsOf f5.type=1)(d0:lQ P w f0.type (λx=>[F0 x]) O0)(d1:lQ P w f1.type (λx=>[F1 x]) O1)(d2:lQ P w f2.type (λx=>[F2 x]) O2)(d3:lQ P w f3.type (λx=>[F3 x]) O3)(d4:lQ P w f4.type (λx=>[F4 x]) O4)(d5:lQ P w f5.type (λx=>[F5 x]) O5):
  lQ P w t (λx:α×β×γ×δ×ε×ζ=>[F0 x.1,F1 x.2.1,F2 x.2.2.1,F3 x.2.2.2.1,F4 x.2.2.2.2.1,F5 x.2.2.2.2.2]) (λx=>O0 x.1∧O1 x.2.1∧O2 x.2.2.1∧O3 x.2.2.2.1∧O4 x.2.2.2.2.1∧O5 x.2.2.2.2.2):=by
 intro H enc n cs y h;obtain⟨xs,n',_,_,hl,hx,hf⟩:=DataW.trod_struct ht h;rw[hc]at hl;obtain⟨c0,c1,c2,c3,c4,c5,rfl⟩:∃c0 c1 c2 c3 c4 c5,cs=[c0,c1,c2,c3,c4,c5]:=by
  match cs,hl with
  |[c0,c1,c2,c3,c4,c5],_=>exact⟨c0,c1,c2,c3,c4,c5,rfl⟩
 obtain⟨y0,y1,y2,y3,y4,y5,rfl⟩:∃y0 y1 y2 y3 y4 y5,xs=[y0,y1,y2,y3,y4,y5]:=by
  match xs,hx with
  |[y0,y1,y2,y3,y4,y5],_=>exact⟨y0,y1,y2,y3,y4,y5,rfl⟩
 have g0:=hf 0 f0 rfl;have g1:=hf 1 f1 rfl;have g2:=hf 2 f2 rfl;have g3:=hf 3 f3 rfl;have g4:=hf 4 f4 rfl;have g5:=hf 5 f5 rfl;rw[h0.1,h0.2]at g0;rw[h1.1,h1.2]at g1;rw[h2.1,h2.2]at g2;rw[h3.1,h3.2]at g3;rw[h4.1,h4.2]at g4;rw[h5.1,h5.2]at g5;obtain⟨a0,e0,o0⟩:=d0 H enc _ _ _ g0;obtain⟨a1,e1,o1⟩:=d1 H enc _ _ _ g1;obtain⟨a2,e2,o2⟩:=d2 H enc _ _ _ g2;obtain⟨a3,e3,o3⟩:=d3 H enc _ _ _ g3;obtain⟨a4,e4,o4⟩:=d4 H enc _ _ _ g4;obtain⟨a5,e5,o5⟩:=d5 H enc _ _ _ g5;simp at e0 e1 e2 e3 e4 e5;exact⟨(a0,a1,a2,a3,a4,a5),by simp[e0,e1,e2,e3,e4,e5],o0,o1,o2,o3,o4,o5⟩
def aN.ok(o:aN):Prop:=(-9223372036854775808<=o.1∧o.1<=9223372036854775807)∧True∧(-9223372036854775808<=o.2.2.1∧o.2.2.1<=9223372036854775807)∧(-9223372036854775808<=o.2.2.2.1∧o.2.2.2.1<=9223372036854775807)∧(-9223372036854775808<=o.2.2.2.2.1∧o.2.2.2.2.1<=9223372036854775807)∧(-9223372036854775808<=o.2.2.2.2.2∧o.2.2.2.2.2<=9223372036854775807)
theorem aiZ(w:World):lQ Tryz.prog w 23 aN.cells aN.ok:=
 N9 underlying23 ag ⟨rfl,ag⟩ ⟨rfl,ag⟩ ⟨rfl,ag⟩ ⟨rfl,ag⟩ ⟨rfl,ag⟩ ⟨rfl,ag⟩ (yH underlying3) (adq underlying4) (yH underlying3) (yH underlying3) (yH underlying3) (yH underlying3)
section
open Go.RowKit Go.WideShapes
theorem am9{P:Program}{W:World}{base:Nat}{t:TypeId}{fs:Array Field}{v:Value}{xs:cZ}(ht:P.underlying t=some (.struct fs))(hv:Value.okWide P W .any base t v)(e:v.cells.toList=xs):Value.agg xs.toArray=v:=by
 obtain⟨cs,rfl,_⟩:=okWide_struct ht hv;simp only[Value.cells]at e;rw[<-e]
end
end Go.Proofs.YtaodmbolhoafcaaGreatDoor
namespace Go.Proofs.YtaodmbolhoafcaaGreatDoor.lawWholeRepair
open Go.RowKit
set_option linter.unusedVariables false
set_option maxRecDepth 20000
theorem ik{a b:Bool}(h1:a=true)(h2:b=true):(a&&b)=true:=by rw[h1,h2];rfl
theorem as3:Tryz.prog.funcNamed Rows.wholeRepairRow.func=some 6:=by kernel_rfl
theorem avz:Tryz.f6.isInstance Tryz.prog Rows.wholeRepairRow.origin Rows.wholeRepairRow.targs:=oJ ag
theorem avA:Tryz.f6.isWrapper Tryz.prog Rows.wholeRepairRow.wrapper Rows.wholeRepairRow.mainSum:=by unfold Func.isWrapper;first|(rw[ao pL];kernel_rfl)|(rw[aw pL];exact⟨rfl,rfl⟩)
set_option maxHeartbeats 4000000 in
theorem avB:joinedFacts Tryz.prog 6 Tryz.f6 Rows.wholeRepairSpec Rows.wholeRepairRow=true:=by
 unfold joinedFacts;refine ik (ik (ik (ik (ik (ik (ik (ik (ik (ik (ik (ik (ik (ik (ik (ik (ik (ik (ik (ik (ik (ik (ik (ik (ik (ik (ik (ik (ik (ik (ik ?_ ?_) ?_) ?_) ?_) ?_) ?_) ?_) ?_) ?_) ?_) ?_) ?_) ?_) ?_) ?_) ?_) ?_) ?_) ?_) ?_) ?_) ?_) ?_) ?_) ?_) ?_) ?_) ?_) ?_) ?_) ?_
 ·as_aux_lemma=>kernel_rfl
 ·as_aux_lemma=>kernel_rfl
 ·as_aux_lemma=>kernel_rfl
 ·as_aux_lemma=>kernel_rfl
 ·as_aux_lemma=>kernel_rfl
 ·as_aux_lemma=>kernel_rfl
 ·as_aux_lemma=>kernel_rfl
 ·as_aux_lemma=>kernel_rfl
 ·as_aux_lemma=>kernel_rfl
 ·as_aux_lemma=>kernel_rfl
 ·as_aux_lemma=>kernel_rfl
 ·as_aux_lemma=>kernel_rfl
 ·as_aux_lemma=>kernel_rfl
 ·as_aux_lemma=>kernel_rfl
 ·as_aux_lemma=>kernel_rfl
 ·as_aux_lemma=>kernel_rfl
 ·as_aux_lemma=>kernel_rfl
 ·as_aux_lemma=>kernel_rfl
 ·as_aux_lemma=>kernel_rfl
 ·as_aux_lemma=>kernel_rfl
 ·as_aux_lemma=>kernel_rfl
 ·as_aux_lemma=>kernel_rfl
 ·as_aux_lemma=>kernel_rfl
 ·as_aux_lemma=>kernel_rfl
 ·as_aux_lemma=>kernel_rfl
 ·as_aux_lemma=>kernel_rfl
 ·as_aux_lemma=>kernel_rfl
 ·as_aux_lemma=>kernel_rfl
 ·as_aux_lemma=>kernel_rfl
 ·as_aux_lemma=>kernel_rfl
 ·as_aux_lemma=>kernel_rfl
 ·as_aux_lemma=>kernel_rfl
end Go.Proofs.YtaodmbolhoafcaaGreatDoor.lawWholeRepair
namespace Go.Proofs.YtaodmbolhoafcaaGreatDoor
set_option linter.unusedVariables false
set_option linter.unusedSimpArgs false
set_option maxRecDepth 20000
variable{B:Nat}{w0:World}{F L0:aR}{A A1 A2 Ao:bk}{n n2 c c1 c2 co g gc:Nat}
end Go.Proofs.YtaodmbolhoafcaaGreatDoor
namespace Go.Proofs.YtaodmbolhoafcaaGreatDoor.lawWholeRepair
open Go.RowKit
set_option linter.unusedVariables false
set_option maxRecDepth 20000
theorem avD:Rows.wholeRepairRow.wfByText (OpenSpec.ofChange Rows.wholeRepairSpec)=true:=by kernel_rfl
theorem avE:Tryz.pinned.checked.prog.mainIs=some (Rows.wholeRepairCard.stood.harness.1,Rows.wholeRepairCard.stood.harness.2.toList):=by kernel_rfl
theorem avF:false=Tryz.pinned.checked.prog.looks []:=by kernel_rfl
theorem avG{t:TypeId}(h:t∈[23,24,45]):Tryz.pinned.checked.prog.wantsStandIn t=false:=by
 simp only[fj,mV,oU]at h;rcases h with rfl|rfl|rfl<;>kernel_rfl
theorem avH:false=Rows.wholeRepairRow.goesBy Tryz.pinned.checked.prog:=by kernel_rfl
end Go.Proofs.YtaodmbolhoafcaaGreatDoor.lawWholeRepair
namespace Go.Proofs.YtaodmbolhoafcaaGreatDoor
set_option linter.unusedVariables false
set_option linter.unusedSimpArgs false
set_option maxRecDepth 20000
variable{B:Nat}{w0:World}{F L0:aR}{A A1 A2 Ao:bk}{n n2 c c1 c2 co g gc:Nat}
end Go.Proofs.YtaodmbolhoafcaaGreatDoor

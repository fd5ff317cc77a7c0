/-
  Texts of one proof, joined: part 15. No condition.
-/
import Derived.Test.YtaodmbolhoafcaaGreatDoorZr14
import Derived.WideShapes
import Derived.Test.YtaodmbolhoafcaaGreatDoorRows
import Derived.JoinedOf
import Derived.RowKit
import Derived.Test.YtaodmbolhoafcaaGreatDoorCards
import Derived.SevenTiedAt
open Go.RowKit Go.Proofs.Tryz
namespace Go.Proofs.YtaodmbolhoafcaaGreatDoor
set_option linter.unusedVariables false
set_option linter.unusedSimpArgs false
set_option maxRecDepth 20000
variable{B:Nat}{w0:World}{F:aR}{A A2:bj}{n c c2:Nat}{L0:aR}{A1 Ao:bj}{n2 c1 co g gc:Nat}
@[simp] theorem aH.agX(x:aH):x.cells.length=4:=rfl
theorem SW(x y:aH)(w:World):(Op.equalIn 10000 62 (.agg (aH.cells x).toArray) (.agg (aH.cells y).toArray)).run Tryz.prog w= .ok (decide (x=y)) w:=by
 have p0:=fun(z:aH) w=>gV (P:=Tryz.prog) (t:=60) (xs:=(aH.cells z).toArray) (off:=0) (v:=.int .u64 z.1) ag rfl w;have p1:=fun(z:aH) w=>gV (P:=Tryz.prog) (t:=5) (xs:=(aH.cells z).toArray) (off:=1) (v:=.int .u8 z.2.1.toNat) ag rfl w;have p2:=fun(z:aH) w=>gV (P:=Tryz.prog) (t:=9) (xs:=(aH.cells z).toArray) (off:=2) (v:=.string ⟨z.2.2.1.toArray⟩) ag rfl w;have p3:=fun(z:aH) w=>gV (P:=Tryz.prog) (t:=9) (xs:=(aH.cells z).toArray) (off:=3) (v:=.string ⟨z.2.2.2.toArray⟩) ag rfl w;have q0:=fun(a b:Int) w=>run_equalIn_int (P:=Tryz.prog) w 9998 60 .u64 .u64 a b underlying60;have q1:=fun(a b:Int) w=>run_equalIn_int (P:=Tryz.prog) w 9998 5 .u8 .u8 a b underlying5;have q2:=fun(a b:ByteArray) w=>run_equalIn_string (P:=Tryz.prog) w 9998 9 a b underlying9;rw[run_equalIn_agg w 9999 _ _ _ ag ag];simp only[Program.fieldsOf,underlying62];simp[Op.eqFields,p0,p1,p2,p3];rw[q0];obtain⟨a,b,s,t⟩:=x;obtain⟨a',b',s',t'⟩:=y;by_cases h0:a=a'
 ·have e0:((a:Int)==a')=true:=by simp[h0]
  simp only[e0,vE];rw[q1];by_cases h1:b=b'
  ·have e1:((b.toNat:Int)==b'.toNat)=true:=by simp[h1]
   simp only[e1,vE];rw[q2,Mv];by_cases h2:s=s'
   ·simp only[lD h2,vE];rw[q2,Mv];by_cases h3:t=t'
    ·simp[h0,h1,h2,h3]
    ·simp[h0,h1,h2,h3]
   ·simp[h2]
  ·have:¬(b.toNat:Int)=b'.toNat:=fun h=>h1 (qh.1 aa);have h':((b.toNat:Int)==b'.toNat)=false:=by simpa using this
   simp[h1,h']
 ·have h':((a:Int)==a')=false:=by rw[qi];omega
  simp[h0,h']
theorem MW{C:Cx}{fr:Fr}{L:aR}{x y:Operand}{ty yt:TypeId}{p q:aH}(hP:C.P=Tryz.prog)(h1:ev fr x=some (.agg (aH.cells p).toArray))(h2:ev fr y=some (.agg (aH.cells q).toArray)):gI C fr L (.binOp .neq 62 x y yt) ty (.bool (decide (¬p=q))):=fun a w ha hw d pos af g=>by
 have he:(eqGuard .neq 62 x y (.agg (aH.cells p).toArray) (.agg (aH.cells q).toArray)).run C.P w= .ok () w:=by rw[hP];exact run_eqGuard_agg w .neq _ x y _ _ ag
 have e1:(binOp .neq 62 (.agg (aH.cells p).toArray) (.agg (aH.cells q).toArray)).run C.P w= .ok (.bool (decide (¬p=q))) w:=by
  rw[hP,run_neq_struct,SW];simp
 simp only[execOp,ha.tmp h1,ha.tmp h2,N3,he,e1,vE,Kt]
theorem aeN{l l2:List aH}(h1:aL B w0 F 4 (.slice A l.length c) l.length (cU l))(h2:aL B w0 F 4 (.slice A2 l2.length c2) l2.length (cU l2))(hl:l.length≤1000000000):
  a_ B w0 15 [.slice A l.length c,.slice A2 l2.length c2] F (fun r L=>r= .bool (decide (l=l2))∧L=F):=by
 refine fw func15 26 [0,1] ?_;refine i_ ?_;refine aj (fun jB=>?_) fun jB=>?_
 ·refine bM ?_;exact⟨ale,rfl⟩
 ·refine bP ?_;refine aD (fun zf zL zm=>∃(k:Nat),(k≤l.length∧l.take k=l2.take k)∧l.length-k=zm∧Sub zf [(0,.slice A l.length c),(1,.slice A2 l2.length c2),(5,ah k)]∧Wk zL (F)) _ ⟨0,⟨bS _,rfl⟩,rfl,bm,.refl _⟩ ?_;rintro _ _ _ ⟨k,⟨hk,heq⟩,rfl,hs,hp⟩;refine aU hs hp ?_;clear hs hp;refine bP ?_;refine aj (fun jC=>?_) fun jC=>?_
  ·have oB:=vf (recAt l k);refine bP ?_;refine bU (dg 4 ag rfl aB aa (aH.cells (recAt l k)) (lS aa) rfl) rfl ?_;refine bH ?_;refine bU (dg 4 ag rfl aB aa (aH.cells (recAt l2 k)) (lS aa) rfl) rfl ?_;refine bU (MW rfl rfl rfl) rfl ?_;refine be ?_;refine aj (fun vW=>?_) fun vW=>?_
   ·refine cD ?_;exact⟨by rw[nD (fun h=>by rw[h]at vW;exact vW rfl)],rfl⟩
   ·refine bM ?_;refine av ⟨_,aa,k+1,⟨aa,by rw[aZ aa (0,0,[],[]),aZ aa (0,0,[],[]),heq];exact dC (fun z=>l2.take k++[z]) (j0.1 vW)⟩,rfl,bm,.refl _⟩
  ·refine cD ?_;have e:l=l2:=by
    have:=heq
    rwa [fD aa,fD aa]at this
   exact⟨by rw[lD e],rfl⟩
section
section
variable{C:Cx}{fr:Fr}{L:aR}{x y:Operand}{ty yt:TypeId}
end
end
theorem mO{P:Prop}(h:P:=by(first|rfl|exact eU (by omega)|exact eT (by omega)|exact dU (by omega)|exact oG (by omega))):P:=h
theorem u_{v:Int}{o:aO}{e:Int}(h1:¬(v=1∨v=2∨v=3)→e=4)(h2:(v=1∨v=2∨v=3)→ji v o→e=0)(h3:(v=1∨v=2∨v=3)→¬ji v o→e=9):e=cm v o:=by
 unfold cm;split
 ·rename_i h;split
  ·rename_i k;exact h2 h k
  ·rename_i k;exact h3 h k
 ·rename_i h;exact h1 h
instance (o:aO):Decidable (uG o):=inferInstanceAs (Decidable (_∧_∧_∧_∧_))
theorem E5(v:Int)(o:aO):a_ B w0 12 [ah v,.agg (aO.cells o).toArray] F (fun r L=>r=ah (cm v o)∧L=F):=by
 obtain⟨bl,pl,bu,da,pa,ch⟩:=o;refine cB func12 92 rfl rfl rfl [(0,ah v),(1,.agg #[ah bl,.bool pl,ah bu,ah da,ah pa,ah ch])] ⟨⟨rfl,rfl⟩,⟨rfl,rfl⟩,trivial⟩ ?_;refine be ?_;refine bf fun g3=>?_;refine bB ?_;refine bR 6 10 [0,3] (¬(v=1∨v=2∨v=3)) ?_ ?_
 ·refine bH ?_;refine aI rfl rfl rfl (fun h7=>?_) (fun h7=>?_)
  ·refine b8 ?_;exact aM mO
  ·refine be ?_;exact aM mO
 ·refine be ?_;refine aj (fun jB=>?_) fun jB=>?_
  ·refine bD ?_;refine ao (.skip (.refl _)) ?_;refine aE ?_;refine⟨dC (Value.int .i64) (u_ (fun _=>?_) (fun _ hm=>?_) (fun _ hm=>?_)),rfl⟩<;>first|omega|(simp only[ji,K8,F7]at hm;omega)
  ·refine bI ?_;refine bR 8 18 [0,3] (¬(16≤bl∧bl≤32768)) ?_ ?_
   ·refine b8 ?_;refine aI rfl rfl rfl (fun jC=>?_) (fun jC=>?_)
    ·refine bB ?_;exact aM mO
    ·refine bH ?_;exact aM mO
   ·refine be ?_;refine aj (fun iU=>?_) fun iU=>?_
    ·refine bD ?_;refine ao (.skip (.refl _)) ?_;refine aE ?_;refine⟨dC (Value.int .i64) (u_ (fun _=>?_) (fun _ hm=>?_) (fun _ hm=>?_)),rfl⟩<;>first|omega|(simp only[ji,K8,F7]at hm;omega)
    ·refine bI ?_;refine bR 21 39 [0,3] (¬((v=1→bu=0)∧(1<v→1≤bu∧bu≤64))) ?_ ?_
     ·refine bH ?_;refine ct (fun lV=>?_) fun lV=>?_
      ·refine bD ?_;refine aI rfl rfl rfl (fun qG=>?_) (fun qG=>?_)
       ·refine bI ?_;refine ct (fun qH=>?_) fun qH=>?_
        ·refine bD ?_;refine aI rfl rfl rfl (fun h33=>?_) (fun h33=>?_)
         ·refine bz ?_;exact aM mO
         ·refine bD ?_;exact aM mO
        ·refine bz ?_;exact aM mO
       ·refine cD ?_;exact aM mO
      ·refine bz ?_;refine ct (fun qH=>?_) fun qH=>?_
       ·refine bD ?_;refine aI rfl rfl rfl (fun h33=>?_) (fun h33=>?_)
        ·refine bz ?_;exact aM mO
        ·refine bD ?_;exact aM mO
       ·refine bz ?_;exact aM mO
     ·refine be ?_;refine aj (fun Ve=>?_) fun Ve=>?_
      ·refine bD ?_;refine ao (.skip (.refl _)) ?_;refine aE ?_;refine⟨dC (Value.int .i64) (u_ (fun _=>?_) (fun _ hm=>?_) (fun _ hm=>?_)),rfl⟩<;>first|omega|(simp only[ji,K8,F7]at hm;omega)
      ·refine bI ?_;refine bR 17 56 [0,3] (v<3∧¬(da=0∧pa=0∧ch=0)) ?_ ?_
       ·refine bH ?_;refine ct (fun h42=>?_) fun h42=>?_
        ·refine bD ?_;refine aI rfl rfl rfl (fun Yo=>?_) (fun Yo=>?_)
         ·refine bP ?_;refine aI rfl rfl rfl (fun h51=>?_) (fun h51=>?_)
          ·refine bM ?_;exact aM mO
          ·refine bI ?_;exact aM mO
         ·refine cD ?_;exact aM mO
        ·refine c_ ?_;exact aM mO
       ·refine be ?_;refine aj (fun Ru=>?_) fun Ru=>?_
        ·refine bD ?_;refine ao (.skip (.refl _)) ?_;refine aE ?_;refine⟨dC (Value.int .i64) (u_ (fun _=>?_) (fun _ hm=>?_) (fun _ hm=>?_)),rfl⟩<;>first|omega|(simp only[ji,K8,F7]at hm;omega)
        ·refine bI ?_;refine bR 35 91 [] (v=3∧¬(1≤da∧da≤255∧0≤pa∧pa≤255-da∧1≤ch∧ch≤4096)) ?_ ?_
         ·refine bH ?_;refine ct (fun h59=>?_) fun h59=>?_
          ·refine bD ?_;refine aI rfl rfl rfl (fun Ir=>?_) (fun Ir=>?_)
           ·refine bP ?_;refine aI rfl rfl rfl (fun h68=>?_) (fun h68=>?_)
            ·refine bP ?_;refine aI rfl rfl rfl (fun h73=>?_) (fun h73=>?_)
             ·refine i_ ?_;refine aI rfl rfl rfl (fun h81=>?_) (fun h81=>?_)
              ·refine bP ?_;refine aI rfl rfl rfl (fun h86=>?_) (fun h86=>?_)
               ·refine bM ?_;exact aM mO
               ·refine bI ?_;exact aM mO
              ·refine cD ?_;exact aM mO
             ·refine D3 ?_;exact aM mO
            ·refine apU ?_;exact aM mO
           ·refine arV ?_;exact aM mO
          ·refine arU ?_;exact aM mO
         ·refine be ?_;refine aj (fun h91=>?_) fun h91=>?_
          ·refine bD ?_;refine ao (.skip (.refl _)) ?_;refine aE ?_;refine⟨dC (Value.int .i64) (u_ (fun _=>?_) (fun _ hm=>?_) (fun _ hm=>?_)),rfl⟩<;>first|omega|(simp only[ji,K8,F7]at hm;omega)
          ·refine bM ?_;refine ao (.skip (.refl _)) ?_;refine aE ?_;refine⟨dC (Value.int .i64) (u_ (fun _=>?_) (fun _ hm=>?_) (fun _ hm=>?_)),rfl⟩<;>first|omega|(simp only[ji,K8,F7]at hm;omega)
theorem S1(o:aO)(h:1≤o.2.2.2.1):a_ B w0 25 [.agg (aO.cells o).toArray] F (fun r L=>r= .bool (decide (uG o))∧L=F):=by
 obtain⟨bl,pl,bu,da,pa,ch⟩:=o;simp only at h;refine cB func25 29 rfl rfl rfl [(0,.agg #[ah bl,.bool pl,ah bu,ah da,ah pa,ah ch])] ⟨⟨rfl,rfl⟩,trivial⟩ ?_;refine be ?_;refine bf fun g1=>?_;refine bI ?_;refine bR 26 28 [] (da≤8∧pa≤8∧pa≤4*da∧4≤ch∧ch≤100) ?_ ?_
 ·refine b8 ?_;refine ct (fun h6=>?_) fun h6=>?_
  ·refine bD ?_;refine ct (fun pq=>?_) fun pq=>?_
   ·refine c_ ?_;refine ct (fun sL=>?_) fun sL=>?_
    ·refine bD ?_;refine ct (fun oh=>?_) fun oh=>?_
     ·refine bB ?_;exact aM mO
     ·refine bH ?_;exact aM mO
    ·refine bM ?_;exact aM mO
   ·refine jU ?_;exact aM mO
  ·refine GL ?_;exact aM mO
 ·refine b8 ?_;refine ao (.skip (.refl _)) ?_;refine aE ?_;exact⟨rfl,rfl⟩
theorem aey(v:Int)(o:aO)(L:List aH)(hb:aL B w0 F 4 (.slice A L.length c) L.length (cU L)):a_ B w0 9 [ah v,.agg (aO.cells o).toArray,.slice A L.length c,ah (30:Nat),ah (2000:Nat)] F
  (fun r K=>∃x,r= .bool x∧K=F∧(x=true→L.length≤30∧dF L≤2000∧(v=3→cm 3 o=0→uG o))):=by
 have oB:=fF o;refine fw func9 26 [0,1,2,3,4] ?_;refine be ?_;refine bf fun g6=>?_;refine bP ?_;refine ba arH rfl (ahw L aB 30 2000 aa aa) rfl ?_;rintro _ _ ⟨x14,rfl,cJ,as0⟩;obtain rfl:=cJ.symm;refine be ?_;refine h_ (fun jC=>?_) fun jC=>?_
 ·refine bD ?_;refine ao (.skip (.refl _)) ?_;refine aE ?_;first
   |exact⟨_,rfl,rfl,fun h=>absurd h aA⟩
   |exact⟨_,rfl,rfl,fun _=>⟨wP.1,wP.2,fun h=>absurd h tH⟩⟩
   |exact⟨_,rfl,rfl,fun _=>⟨wP.1,wP.2,fun _ h=>absurd h tH⟩⟩
   |exact⟨_,rfl,rfl,fun h=>⟨wP.1,wP.2,fun _ _=>yn h⟩⟩
 ·have wP:=as0 (by simpa using jC);refine bD ?_;refine aI rfl rfl rfl (fun iy=>?_) (fun iy=>?_)
  ·refine ae (bQ 6 ag rfl aV (aO.cells o) rfl rfl) rfl ?_;refine aE ?_;refine ai rfl (E5 3 o) ?_;refine b8 ?_;refine aI rfl rfl rfl (fun pX=>?_) (fun pX=>?_)
   ·have h3:cm 3 o=0:=j0.1 pX;have hda:1≤o.2.2.2.1:=by
     have:=(w4 (.inr (.inr rfl)) h3).2.1 rfl;exact this.1.1
    refine ae (bQ 6 ag rfl aV (aO.cells o) rfl rfl) rfl ?_;refine aE ?_;refine ai rfl (S1 o hda) ?_;refine be ?_;refine ve [10] ?_;refine be ?_;refine ao (.skip (.refl _)) ?_;refine aE ?_;first
     |exact⟨_,rfl,rfl,fun h=>absurd h aA⟩
     |exact⟨_,rfl,rfl,fun _=>⟨wP.1,wP.2,fun h=>absurd h tH⟩⟩
     |exact⟨_,rfl,rfl,fun _=>⟨wP.1,wP.2,fun _ h=>absurd h tH⟩⟩
     |exact⟨_,rfl,rfl,fun h=>⟨wP.1,wP.2,fun _ _=>yn h⟩⟩
   ·refine bH ?_;refine ve [10] ?_;refine be ?_;refine ao (.skip (.refl _)) ?_;refine aE ?_;first
     |exact⟨_,rfl,rfl,fun h=>absurd h aA⟩
     |exact⟨_,rfl,rfl,fun _=>⟨wP.1,wP.2,fun h=>absurd h tH⟩⟩
     |exact⟨_,rfl,rfl,fun _=>⟨wP.1,wP.2,fun _ h=>absurd h tH⟩⟩
     |exact⟨_,rfl,rfl,fun h=>⟨wP.1,wP.2,fun _ _=>yn h⟩⟩
  ·refine bM ?_;refine ve [10] ?_;refine be ?_;refine ao (.skip (.refl _)) ?_;refine aE ?_;first
    |exact⟨_,rfl,rfl,fun h=>absurd h aA⟩
    |exact⟨_,rfl,rfl,fun _=>⟨wP.1,wP.2,fun h=>absurd h tH⟩⟩
    |exact⟨_,rfl,rfl,fun _=>⟨wP.1,wP.2,fun _ h=>absurd h tH⟩⟩
    |exact⟨_,rfl,rfl,fun h=>⟨wP.1,wP.2,fun _ _=>yn h⟩⟩
theorem aeC{v:Int}{o:aO}{L:List aH}{b:al}(hx:Qo L)(hlen:v=2→b.length≤8388608)(hp:iW v o L=(b,0)):xy b=(L,v,0)∧xx b=(o,0):=by
 obtain⟨nb,e⟩:=Hq hx hlen hp;have ha:Cp b=0:=by unfold Cp;rw[e]
 unfold xy xx;rw[aw (fun q=>q ha),aw (fun q=>q ha),e];exact⟨rfl,rfl⟩
theorem age(HT:bK B w0){v:Int}{o:aO}{L:List aH}(hb:aL B w0 F 4 (.slice A L.length c) L.length (cU L))(hx:Qo L):
  a_ B w0 3 [ah v,.agg (aO.cells o).toArray,.slice A L.length c] F (fun r M=>r= .bool true):=by
 have x':=fun M (hb:aL B w0 M 4 (.slice A L.length c) L.length (cU L))=>wy (F:=M) (v:=v) (o:=o) HT hx hb;have hlp:rQ L→(v=3→cm 3 o=0→uG o)→LY v o (iW v o L):=fun h k=>EA h k;have RY:=fun b (hl:v=2→b.length≤8388608) (hp:iW v o L=(b,0))=>aeC hx hl hp;obtain⟨W,hW⟩:=cR (iW v o L);simp only[←hW]at x' hlp RY;have aqw:=fun M A5 c5 (hf:Fits W.1) (hb:aL B w0 M 1 (.slice A5 W.1.length c5) W.1.length (bv W.1))=>Xq (F:=M) HT hb hf;have aqp:=fun M A5 c5 (hf:Fits W.1) (hb:aL B w0 M 1 (.slice A5 W.1.length c5) W.1.length (bv W.1))=>agw (F:=M) HT hb hf;have oB:=fF o;refine fw func3 90 [0,1,2] ?_;refine be ?_;refine bf fun g4=>?_;refine bB ?_;refine ai rfl (aaU HT) ?_;refine ae (jx rfl) rfl ?_;refine be ?_;refine h_ (fun iy=>?_) fun iy=>?_
 ·exfalso;simp at iy
 ·refine bM ?_;refine ba co9 rfl (aey v o L hb.cons) rfl ?_;rintro _ _ ⟨x21,rfl,cJ,as2⟩;obtain rfl:=cJ.symm;refine ae (jx rfl) rfl ?_;refine be ?_;refine h_ (fun pX=>?_) fun pX=>?_
  ·refine bM ?_;first
    |rfl
    |exact dC Value.bool (lD rfl)
    |exact dC Value.bool (lD hpe)
  ·have hli:=as2 (by simpa using pX);have hP:=hlp ⟨hli.1,hli.2.1,hx⟩ hli.2.2;refine bD ?_;refine ay rfl (x' _ hb.cons) fun Gn Ly=>?_;refine cD ?_;refine ay rfl (x' _ hb.cons.cons) fun vM wE=>?_;refine bI ?_;refine ve [0,2,4,7,8,9,10] ?_;refine bM ?_;refine aI rfl rfl rfl (fun h40=>?_) (fun h40=>?_)
   ·refine b8 ?_;refine ai rfl (anp (l:=W.1) (l2:=W.1) (aL.own (.tail _ (.head _))) (aL.own (.head _))) ?_;refine aE ?_;refine ae (jx rfl) rfl ?_;refine bH ?_;refine h_ (fun h45=>?_) fun h45=>?_
    ·exfalso;simp at h45
    ·refine bP ?_;refine aj (fun LD=>?_) fun LD=>?_
     ·have hn:=hP.none LD;have hpe:=hP.e;refine bB ?_;refine ct (fun h51=>?_) fun h51=>?_
      ·refine bB ?_;refine ai rfl (E5 v o) ?_;refine b8 ?_;refine ve [6] ?_;refine b8 ?_;first
        |rfl
        |exact dC Value.bool (lD rfl)
        |exact dC Value.bool (lD hpe)
      ·exfalso;exact h51 (by rw[hn];rfl)
     ·have hW0:=j0.1 LD;have hfi:=hP.fits hW0;have hux:=RY W.1 (fun _=>by have:=hfi.2;omega) (Prod.ext rfl hW0);simp only[hux.1]at aqw;simp only[hux.2]at aqp;refine bI ?_;refine ay rfl (aqw _ _ _ hfi.1 (aL.own (.tail _ (.head _)))) fun A60 c60=>?_;refine bD ?_;refine ve [0,2,4,7,11,12,13] ?_;refine b8 ?_;refine ai rfl (aqp _ _ _ hfi.1 (aL.own (.tail _ (.tail _ (.head _))))) ?_;refine bH ?_;refine bg fun g14=>?_;refine bP ?_;refine ct (fun h71=>?_) fun h71=>?_
      ·refine bI ?_;refine ct (fun h75=>?_) fun h75=>?_
       ·refine bD ?_;refine ct (fun Kh=>?_) fun Kh=>?_
        ·refine b8 ?_;refine ae (qb rfl o o rfl rfl) rfl ?_;refine be ?_;refine ct (fun h85=>?_) fun h85=>?_
         ·refine b8 ?_;refine ai rfl (aeN (l:=L) (l2:=L) aB aB (by have:=hli.1;omega)) ?_;refine be ?_;refine ve [6] ?_;refine bH ?_;first
           |rfl
           |exact dC Value.bool (lD rfl)
           |exact dC Value.bool (lD hpe)
         ·exfalso;exact h85 rfl
        ·exfalso;exact Kh rfl
       ·exfalso;exact h75 rfl
      ·exfalso;exact h71 rfl
   ·exfalso;exact h40 rfl
theorem MR{P:Program}{w:World}{t:TypeId}{α β γ δ ε ζ:Type}{f0 f1 f2 f3 f4 f5:Field}{F0:α→Value}{F1:β→Value}{F2:γ→Value}{F3:δ→Value}{F4:ε→Value}{F5:ζ→Value}{O0:α→Prop}{O1:β→Prop}{O2:γ→Prop}{O3:δ→Prop}{O4:ε→Prop}{O5:ζ→Prop}(ht:P.underlying t=some (.struct #[f0,f1,f2,f3,f4,f5]))(hc:P.cellsOf t=6)(h0:f0.offset=0∧P.cellsOf f0.type=1)(h1:f1.offset=1∧P.cellsOf f1.type=1)(h2:f2.offset=2∧P.cellsOf f2.type=1)(h3:f3.offset=3∧P.cellsOf f3.type=1)(h4:f4.offset=4∧P.cellsOf f4.type=1)(h5:f5.offset=5∧P.cellsOf f5.type=1)(d0:nr P w f0.type (fun x=>[F0 x]) O0)(d1:nr P w f1.type (fun x=>[F1 x]) O1)(d2:nr P w f2.type (fun x=>[F2 x]) O2)(d3:nr P w f3.type (fun x=>[F3 x]) O3)(d4:nr P w f4.type (fun x=>[F4 x]) O4)(d5:nr P w f5.type (fun x=>[F5 x]) O5):
  nr P w t (fun x:α×β×γ×δ×ε×ζ=>[F0 x.1,F1 x.2.1,F2 x.2.2.1,F3 x.2.2.2.1,F4 x.2.2.2.2.1,F5 x.2.2.2.2.2]) (fun x=>O0 x.1∧O1 x.2.1∧O2 x.2.2.1∧O3 x.2.2.2.1∧O4 x.2.2.2.2.1∧O5 x.2.2.2.2.2):=by
 intro H enc n cs y h;obtain⟨xs,n',_,_,hl,hx,hf⟩:=DataW.trod_struct ht h;rw[hc]at hl;obtain⟨c0,c1,c2,c3,c4,c5,rfl⟩:∃c0 c1 c2 c3 c4 c5,cs=[c0,c1,c2,c3,c4,c5]:=by
  match cs,hl with
  |[c0,c1,c2,c3,c4,c5],_=>exact⟨c0,c1,c2,c3,c4,c5,rfl⟩
 obtain⟨y0,y1,y2,y3,y4,y5,rfl⟩:∃y0 y1 y2 y3 y4 y5,xs=[y0,y1,y2,y3,y4,y5]:=by
  match xs,hx with
  |[y0,y1,y2,y3,y4,y5],_=>exact⟨y0,y1,y2,y3,y4,y5,rfl⟩
 have g0:=hf 0 f0 rfl;have g1:=hf 1 f1 rfl;have g2:=hf 2 f2 rfl;have g3:=hf 3 f3 rfl;have g4:=hf 4 f4 rfl;have g5:=hf 5 f5 rfl;rw[h0.1,h0.2]at g0;rw[h1.1,h1.2]at g1;rw[h2.1,h2.2]at g2;rw[h3.1,h3.2]at g3;rw[h4.1,h4.2]at g4;rw[h5.1,h5.2]at g5;obtain⟨a0,e0,o0⟩:=d0 H enc _ _ _ g0;obtain⟨a1,e1,o1⟩:=d1 H enc _ _ _ g1;obtain⟨a2,e2,o2⟩:=d2 H enc _ _ _ g2;obtain⟨a3,e3,o3⟩:=d3 H enc _ _ _ g3;obtain⟨a4,e4,o4⟩:=d4 H enc _ _ _ g4;obtain⟨a5,e5,o5⟩:=d5 H enc _ _ _ g5;simp at e0 e1 e2 e3 e4 e5;exact⟨(a0,a1,a2,a3,a4,a5),by simp[e0,e1,e2,e3,e4,e5],o0,o1,o2,o3,o4,o5⟩
def aO.ok(o:aO):Prop:=(-9223372036854775808≤o.1∧o.1≤9223372036854775807)∧True∧(-9223372036854775808≤o.2.2.1∧o.2.2.1≤9223372036854775807)∧(-9223372036854775808≤o.2.2.2.1∧o.2.2.2.1≤9223372036854775807)∧(-9223372036854775808≤o.2.2.2.2.1∧o.2.2.2.2.1≤9223372036854775807)∧(-9223372036854775808≤o.2.2.2.2.2∧o.2.2.2.2.2≤9223372036854775807)
theorem ag9(w:World):nr Tryz.prog w 23 aO.cells aO.ok:=
 MR underlying23 ag ⟨rfl,ag⟩ ⟨rfl,ag⟩ ⟨rfl,ag⟩ ⟨rfl,ag⟩ ⟨rfl,ag⟩ ⟨rfl,ag⟩ (xM underlying3) (abL underlying4) (xM underlying3) (xM underlying3) (xM underlying3) (xM underlying3)
section
open Go.RowKit Go.WideShapes
theorem ak_{P:Program}{W:World}{base:Nat}{t:TypeId}{fs:Array Field}{v:Value}{xs:cV}(ht:P.underlying t=some (.struct fs))(hv:Value.okWide P W .any base t v)(e:v.cells.toList=xs):Value.agg xs.toArray=v:=by
 obtain⟨cs,rfl,_⟩:=okWide_struct ht hv;simp only[Value.cells]at e;rw[←e]
end
end Go.Proofs.YtaodmbolhoafcaaGreatDoor
namespace Go.Proofs.YtaodmbolhoafcaaGreatDoor.lawWholeRound
open Go.RowKit
set_option linter.unusedVariables false
set_option maxRecDepth 20000
theorem gY{a b:Bool}(h1:a=true)(h2:b=true):(a&&b)=true:=by rw[h1,h2];rfl
theorem aqR:Tryz.prog.funcNamed Rows.wholeRoundRow.func=some 3:=by kernel_rfl
theorem as':Tryz.f3.isInstance Tryz.prog Rows.wholeRoundRow.origin Rows.wholeRoundRow.targs:=yn ag
theorem ata:Tryz.f3.isWrapper Tryz.prog Rows.wholeRoundRow.wrapper Rows.wholeRoundRow.mainSum:=by unfold Func.isWrapper;first|(rw[aq oX];kernel_rfl)|(rw[aw oX];exact⟨rfl,rfl⟩)
set_option maxHeartbeats 4000000 in
theorem atb:joinedFacts Tryz.prog 3 Tryz.f3 Rows.wholeRoundSpec Rows.wholeRoundRow=true:=by
 unfold joinedFacts;refine gY (gY (gY (gY (gY (gY (gY (gY (gY (gY (gY (gY (gY (gY (gY (gY (gY (gY (gY (gY (gY (gY (gY (gY (gY (gY (gY (gY (gY (gY (gY ?_ ?_) ?_) ?_) ?_) ?_) ?_) ?_) ?_) ?_) ?_) ?_) ?_) ?_) ?_) ?_) ?_) ?_) ?_) ?_) ?_) ?_) ?_) ?_) ?_) ?_) ?_) ?_) ?_) ?_) ?_) ?_
 ·as_aux_lemma=>kernel_rfl
 ·as_aux_lemma=>kernel_rfl
 ·as_aux_lemma=>kernel_rfl
 ·as_aux_lemma=>kernel_rfl
 ·as_aux_lemma=>kernel_rfl
 ·as_aux_lemma=>kernel_rfl
 ·as_aux_lemma=>kernel_rfl
 ·as_aux_lemma=>kernel_rfl
 ·as_aux_lemma=>kernel_rfl
 ·as_aux_lemma=>kernel_rfl
 ·as_aux_lemma=>kernel_rfl
 ·as_aux_lemma=>kernel_rfl
 ·as_aux_lemma=>kernel_rfl
 ·as_aux_lemma=>kernel_rfl
 ·as_aux_lemma=>kernel_rfl
 ·as_aux_lemma=>kernel_rfl
 ·as_aux_lemma=>kernel_rfl
 ·as_aux_lemma=>kernel_rfl
 ·as_aux_lemma=>kernel_rfl
 ·as_aux_lemma=>kernel_rfl
 ·as_aux_lemma=>kernel_rfl
 ·as_aux_lemma=>kernel_rfl
 ·as_aux_lemma=>kernel_rfl
 ·as_aux_lemma=>kernel_rfl
 ·as_aux_lemma=>kernel_rfl
 ·as_aux_lemma=>kernel_rfl
 ·as_aux_lemma=>kernel_rfl
 ·as_aux_lemma=>kernel_rfl
 ·as_aux_lemma=>kernel_rfl
 ·as_aux_lemma=>kernel_rfl
 ·as_aux_lemma=>kernel_rfl
 ·as_aux_lemma=>kernel_rfl
end Go.Proofs.YtaodmbolhoafcaaGreatDoor.lawWholeRound
namespace Go.Proofs.YtaodmbolhoafcaaGreatDoor
set_option linter.unusedVariables false
set_option linter.unusedSimpArgs false
set_option maxRecDepth 20000
variable{B:Nat}{w0:World}{F:aR}{A A2:bj}{n c c2:Nat}{L0:aR}{A1 Ao:bj}{n2 c1 co g gc:Nat}
end Go.Proofs.YtaodmbolhoafcaaGreatDoor
namespace Go.Proofs.YtaodmbolhoafcaaGreatDoor.lawWholeRound
open Go.RowKit
set_option linter.unusedVariables false
set_option maxRecDepth 20000
theorem atd:Rows.wholeRoundRow.wfByText (OpenSpec.ofChange Rows.wholeRoundSpec)=true:=by kernel_rfl
theorem ate:Tryz.pinned.checked.prog.mainIs=some (Rows.wholeRoundCard.stood.harness.1,Rows.wholeRoundCard.stood.harness.2.toList):=by kernel_rfl
theorem atf:false=Tryz.pinned.checked.prog.looks []:=by kernel_rfl
theorem atg{t:TypeId}(h:t∈[3,23,24]):Tryz.pinned.checked.prog.wantsStandIn t=false:=by
 simp only[fm,ml,oj]at h;rcases h with rfl|rfl|rfl<;>kernel_rfl
theorem ath:false=Rows.wholeRoundRow.goesBy Tryz.pinned.checked.prog:=by kernel_rfl
end Go.Proofs.YtaodmbolhoafcaaGreatDoor.lawWholeRound
namespace Go.Proofs.YtaodmbolhoafcaaGreatDoor
set_option linter.unusedVariables false
set_option linter.unusedSimpArgs false
set_option maxRecDepth 20000
variable{B:Nat}{w0:World}{F:aR}{A A2:bj}{n c c2:Nat}{L0:aR}{A1 Ao:bj}{n2 c1 co g gc:Nat}
end Go.Proofs.YtaodmbolhoafcaaGreatDoor

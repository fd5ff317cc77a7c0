/-
  Texts of one proof, joined: part 4. No condition.
-/
import Derived.Test.YtaodmbolhoafcaaGreatDoorZo3
import Derived.ProofKit
import Derived.OpenShut
import Derived.ShutString
import Derived.ChangeOld
import Derived.Deep.Slices
import Derived.Lib.AppendZeros
open Go.RowKit Go.Proofs.Tryz
namespace Go.Proofs.YtaodmbolhoafcaaGreatDoor
set_option linter.unusedVariables false
set_option linter.unusedSimpArgs false
set_option maxRecDepth 20000
variable{B:Nat}{w0:World}{F L0:aQ}{A:bj}{n c g h3 h5:Nat}{s:Cs}{C0:Ch}{A2:bj}{n2 c2:Nat}
theorem b_8{P:Prop}(h:P:=by(first|rfl|exact ej (by first|omega|simp_all)|exact eU (by first|omega|simp_all)|exact dN (by first|omega|simp_all)|exact oE (by first|omega|simp_all))):P:=h
theorem yg:type_of% @Nat.add_sub_cancel_left:= @Nat.add_sub_cancel_left
theorem gJ:type_of% @Int.eq_ofNat_of_zero_le:= @Int.eq_ofNat_of_zero_le
theorem Cm{a b c:Ch}{L:aQ}:(a::b::c::L).Perm (c::a::b::L):=((List.Perm.swap c b L).cons a).trans (.swap c a _)
def Ze(x k:Nat)(er most:Int):Nat×Nat×Int:=if er≠0 then (0,0,er) else if most<0∨most<x then (0,0,6) else (x,k,0)
theorem amE{x k:Nat}{er most:Int}(h:¬er=0):Ze x k er most=(0,0,er):=ao h
theorem amF{x k:Nat}{er most:Int}(h:¬¬er=0)(h2:most<0∨most<x):Ze x k er most=(0,0,6):=by unfold Ze;rw[aw h,ao h2]
theorem amG{x k:Nat}{er most:Int}(h:¬¬er=0)(h2:¬(most<0∨most<x)):Ze x k er most=(x,k,0):=by unfold Ze;rw[aw h,aw h2]
theorem II{l:al}(hb:aK B w0 L0 1 (.slice A n c) n (bv l))(hn:n≤1099511627776){most:Int}(Vj:-9223372036854775808≤most)(vE:most≤9223372036854775807):
  a_ B w0 222 [.slice A n c,ah most] L0 (fun r L=>r= .tuple #[ah (eu l most).1,ah (eu l most).2.1,ah (eu l most).2.2]∧L=L0):=by
 have e:eu l most=Ze (cO l).1 (cO l).2.1 (cO l).2.2 most:=rfl;have hs:=aeQ hb hn;have hf:=(fg l).1;rw[e];clear e;generalize (cO l).1=x at*;generalize (cO l).2.1=k at*;generalize (cO l).2.2=er at*;refine fw func222 30 [0,1] ?_;refine bB ?_;refine ai rfl (hs) ?_;refine jQ ?_;refine aj (fun iF=>?_) fun iF=>?_
 ·refine bz ?_;refine ve [4,5,6] ?_;refine b8 ?_;refine⟨?_,rfl⟩;rw[amE iF];try rfl
 ·refine bG ?_;refine bU 8 26 [7,8] (most<0∨most<(x:Int)) ?_ ?_
  ·refine bA ?_;refine aL rfl rfl rfl (fun l0=>?_) (fun l0=>?_)
   ·refine bI ?_;exact aP b_8
   ·refine b8 ?_;exact aP b_8
  ·refine be ?_;refine aj (fun qc=>?_) fun qc=>?_
   ·refine bB ?_;refine⟨?_,rfl⟩;rw[amF iF qc];try rfl
   ·refine dQ ?_;refine⟨?_,rfl⟩;rw[amG iF qc];try rfl
theorem YT{x0:Value}{l:al}{most:Int}(hb:aK B w0 (.bE h5 3 [x0]:: .bE h3 3 [ah most]::F) 1 (.slice A n c) n (bv l))(hn:n≤1099511627776)(Vj:-9223372036854775808≤most)(vE:most≤9223372036854775807):
  a_ B w0 221 [.slice A n c,br h3,br h5] (C0:: .bE h5 3 [x0]:: .bE h3 3 [ah most]::F) (fun r L=>r= .tuple #[ah (eu l most).2.1,ah (eu l most).2.2]∧L=C0:: .bE h5 3 [ah (eu l most).1]:: .bE h3 3 [ah most]::F):=by
 refine fw func221 15 [0,1,2] ?_;refine bB ?_;refine ai rfl (II aA hn Vj vE) ?_;refine zI ?_;exact⟨rfl,rfl⟩
theorem iH(ho:ct s)(hb:aK B w0 F 1 (.slice A s.b.length c) s.b.length (bv s.b)){most:Int}(Vj:-9223372036854775808≤most)(vE:most≤9223372036854775807):
  a_ B w0 172 [br g,ah most] (Cv g A c s::F) (fun r L=>r=ah (s.int most)∧L=Cv g A c (s.bW most)::F):=by
 by_cases h0:s.e=0
 ·have hkb:=(jy s.rest most vE).2.1;rw[ho.rest.1]at hkb;have hlb:=ho.rest.2;refine fw func172 13 [0,1] ?_;refine be ?_;refine bh fun g3=>?_;refine bG ?_;refine bc fun g5=>?_;refine bz ?_;refine aX Uw rfl ((xK (F:=.bE g5 3 [ah 0]:: .bE g3 3 [ah most]::F) ho (aK.cons (aK.cons hb)) h0 (caps:=[br g3,br g5]) (R':=fun F'=>F'= .bE g5 3 [ah (eu s.rest most).1]:: .bE g3 3 [ah most]::F) (k:=(eu s.rest most).2.1) (er:=(eu s.rest most).2.2) apg aa (fun A' c' CB=>(YT CB aa Vj vE).mono fun r L ⟨h1,h2⟩=>⟨h1,_,rfl,h2⟩)).perm Cm) rfl ?_;rintro _ _ ⟨rfl,_,cA,rfl⟩;obtain rfl:=cA.symm;refine bB ?_;refine aj (fun pn=>?_) fun pn=>?_
  ·refine bK ?_;refine aq (L':=Cv g A c (s.bW most)::F) (.cons (.skip (.skip (.refl _)))) ?_;refine aF ?_;exact⟨by simp[Cs.int,h0,(pA (show(eu s.rest most).2.2≠0 from pn)).1],rfl⟩
  ·refine bO ?_;refine aq (L':=Cv g A c (s.bW most)::F) (.cons (.skip (.skip (.refl _)))) ?_;refine aF ?_;exact⟨by simp[Cs.int,h0],rfl⟩
 ·have e1:s.bW most=s:=by simp[Cs.bW,Cs.ew,h0]
  have e2:s.int most=0:=by simp[Cs.int,h0]
  rw[e1,e2];refine fw func172 13 [0,1] ?_;refine be ?_;refine bh fun g3=>?_;refine bG ?_;refine bc fun g5=>?_;refine bz ?_;refine ai rfl ((uV h0).perm Cm) ?_;refine tS ?_;refine aq (L':=Cv g A c s::F) (.cons (.skip (.skip (.refl _)))) ?_;refine aF ?_;exact⟨rfl,rfl⟩
def FF(l:al)(x k:Nat)(er:Int):al×Nat×Int:=if er≠0 then ([],0,er) else if l.length-k<x then ([],0,1) else ((l.drop k).take x,k+x,0)
theorem S3{l:al}{x k:Nat}{er:Int}(h:¬er=0):FF l x k er=([],0,er):=ao h
theorem S4{l:al}{x k:Nat}{er:Int}(h:¬¬er=0)(h2:l.length-k<x):FF l x k er=([],0,1):=by unfold FF;rw[aw h,ao h2]
theorem S5{l:al}{x k:Nat}{er:Int}(h:¬¬er=0)(h2:¬(l.length-k<x)):FF l x k er=((l.drop k).take x,k+x,0):=by unfold FF;rw[aw h,aw h2]
theorem S6{l:al}{most:Int}(hb:aK B w0 (.bE h5 9 [.string ⟨#[]⟩]:: .bE h3 3 [ah most]::F) 1 (.slice A n c) n (bv l))(hn:n≤1099511627776)(Vj:-9223372036854775808≤most)(vE:most≤9223372036854775807):
  a_ B w0 329 [.slice A n c,br h3,br h5] (C0:: .bE h5 9 [.string ⟨#[]⟩]:: .bE h3 3 [ah most]::F) (fun r L=>r= .tuple #[ah (jN l most).2.1,ah (jN l most).2.2]∧L=C0:: .bE h5 9 [.string ⟨(jN l most).1.toArray⟩]:: .bE h3 3 [ah most]::F):=by
 refine dL.xk (L:=C0:: .bE h5 9 [.string ⟨#[]⟩]:: .bE h3 3 [ah most]::F) (aK.cons hb) fun hc hl=>?_;simp at hl;have e:jN l most=FF l (eu l most).1 (eu l most).2.1 (eu l most).2.2:=rfl;have hs:=II (B:=B) (w0:=w0) (L0:=C0:: .bE h5 9 [.string ⟨#[]⟩]:: .bE h3 3 [ah most]::F) (l:=l) (aK.cons hb) hn Vj vE;have hf:=jy l most vE;rw[e];clear e;generalize (eu l most).1=x at*;generalize (eu l most).2.1=k at*;generalize (eu l most).2.2=er at*;refine fw func329 37 [0,1,2] ?_;refine bB ?_;refine ai rfl (hs) ?_;refine tS ?_;refine aj (fun ki=>?_) fun ki=>?_
 ·refine bG ?_;refine ve [4,5] ?_;refine bG ?_;refine⟨?_,?_⟩
  ·rw[S3 ki];try rfl
  ·rw[S3 ki];try rfl
 ·refine bO ?_;refine ve [0,2,6,7,20] ?_;refine aF ?_;refine aj (fun iM=>?_) fun iM=>?_
  ·refine bB ?_;have Kh:l.length-k<x:=by omega
   refine⟨?_,?_⟩
   ·rw[S4 ki Kh];try rfl
   ·rw[S4 ki Kh];try rfl
  ·have hbt:=(hb.iY (k:=k+x) aa).cut (k:=k) aa;have ebt:((bv l).take ((k+x)*1)).drop (k*1)=bv ((l.drop k).take x):=by rw[cE,cE,jX,js,RW,yg]
   rw[ebt]at hbt;refine bB ?_;refine ab (kv (i:=k) (j:=k+x) (size:=1) underlying27 ag rfl rfl rfl rfl rfl aa aa) rfl ?_;refine ab (pe underlying27 underlying5 underlying9 rfl aA) rfl ?_;refine dQ ?_;have Kh:¬(l.length-k<x):=by omega
   refine⟨?_,?_⟩
   ·rw[S5 ki Kh];try rfl
   ·rw[S5 ki Kh];try rfl
theorem Ct(ho:ct s)(hb:aK B w0 F 1 (.slice A s.b.length c) s.b.length (bv s.b)){most:Int}(Vj:-9223372036854775808≤most)(vE:most≤9223372036854775807):
  a_ B w0 304 [br g,ah most] (Cv g A c s::F) (fun r L=>r= .string ⟨(s.text most).toArray⟩∧L=Cv g A c (s.ey most)::F):=by
 by_cases h0:s.e=0
 ·have hkb:(jN s.rest most).2.1≤s.rest.length:=by
   by_cases he:(jN s.rest most).2.2=0
   ·rcases Ph s.rest most he with h|h<;>omega
   ·have:(jN s.rest most).2.1=0:=by
     unfold jN at he⊢;split
     ·rfl
     ·rename_i h1;rw[aw h1]at he;split
      ·rfl
      ·rename_i h2;rw[aw h2]at he;exact absurd rfl he
    omega
  rw[ho.rest.1]at hkb;have hlb:=ho.rest.2;refine fw func304 10 [0,1] ?_;refine be ?_;refine bh fun g3=>?_;refine bG ?_;refine bc fun g5=>?_;refine bK ?_;refine aX Uw rfl ((xK (F:=.bE g5 9 [.string ⟨#[]⟩]:: .bE g3 3 [ah most]::F) ho (aK.cons (aK.cons hb)) h0 (caps:=[br g3,br g5]) (R':=fun F'=>F'= .bE g5 9 [.string ⟨(jN s.rest most).1.toArray⟩]:: .bE g3 3 [ah most]::F) (k:=(jN s.rest most).2.1) (er:=(jN s.rest most).2.2) apE aa (fun A' c' CB=>(S6 CB aa Vj vE).mono fun r L ⟨h1,h2⟩=>⟨h1,_,rfl,h2⟩)).perm Cm) rfl ?_;rintro _ _ ⟨rfl,_,cA,rfl⟩;obtain rfl:=cA.symm;refine bO ?_;refine aq (L':=Cv g A c (s.ey most)::F) (.cons (.skip (.skip (.refl _)))) ?_;refine aF ?_;exact⟨by simp[Cs.text,h0],rfl⟩
 ·have e1:s.ey most=s:=by simp[Cs.ey,Cs.ew,h0]
  have e2:s.text most=[]:=by simp[Cs.text,h0]
  rw[e1,e2];refine fw func304 10 [0,1] ?_;refine be ?_;refine bh fun g3=>?_;refine bG ?_;refine bc fun g5=>?_;refine bK ?_;refine ai rfl ((uV h0).perm Cm) ?_;refine bO ?_;refine aq (L':=Cv g A c s::F) (.cons (.skip (.skip (.refl _)))) ?_;refine aF ?_;exact⟨rfl,rfl⟩
def mO(l:al)(n:Int):al:=if ij l n≠0 then [] else l.take n.toNat
def rF(l:al)(n:Int):Nat:=if ij l n≠0 then 0 else n.toNat
def ajI(h3 h5:Nat)(l:al)(m:Int)(F F':aQ):Prop:=∃A' c',F'= .own 5 1 A' (mO l m).length c' (bv (mO l m)):: .bE h5 27 [.slice A' (mO l m).length c']:: .bE h3 3 [ah m]::F
theorem S2{l:al}{m:Int}(hb:aK B w0 (.bE h5 27 [.slice none 0 0]:: .bE h3 3 [ah m]::F) 1 (.slice A n c) n (bv l))(hn:n≤1099511627776)(Vj:-9223372036854775808≤m)(vE:m≤9223372036854775807):
  a_ B w0 220 [.slice A n c,br h3,br h5] (C0:: .bE h5 27 [.slice none 0 0]:: .bE h3 3 [ah m]::F) (fun r L=>r= .tuple #[ah (rF l m),ah (ij l m)]∧∃F',ajI h3 h5 l m F F'∧L=C0::F'):=by
 refine dL.xk (L:=C0:: .bE h5 27 [.slice none 0 0]:: .bE h3 3 [ah m]::F) (aK.cons hb) fun hc hl=>?_;simp at hl;refine fw func220 17 [0,1,2] ?_;refine dc ?_;refine aj (fun h7=>?_) fun h7=>?_
 ·refine bI ?_;have e1:ij l m=13:=ao h7;have e2:mO l m=[]:=by simp[mO,e1]
  have e3:rF l m=0:=by simp[rF,e1]
  refine aD 5 1 none ?_;refine aq (L':=C0:: .own 5 1 none 0 0 []:: .bE h5 27 [.slice none 0 0]:: .bE h3 3 [ah m]::F) (.swap (.refl _)) ?_;refine aF ?_;exact⟨by rw[e1,e3];try rfl,_,⟨none,0,by rw[e2];try rfl⟩,rfl⟩
 ·obtain⟨q,rfl⟩:=gJ (show 0≤m by omega);refine cZ ?_;refine aj (fun pn=>?_) fun pn=>?_
  ·refine bI ?_;have e1:ij l q=1:=by unfold ij;rw[aw h7,ao aa]
   have e2:mO l q=[]:=by simp[mO,e1]
   have e3:rF l q=0:=by simp[rF,e1]
   refine aD 5 1 none ?_;refine aq (L':=C0:: .own 5 1 none 0 0 []:: .bE h5 27 [.slice none 0 0]:: .bE h3 3 [ah q]::F) (.swap (.refl _)) ?_;refine aF ?_;exact⟨by rw[e1,e3];try rfl,_,⟨none,0,by rw[e2];try rfl⟩,rfl⟩
  ·have hbt:=hb.iY (k:=q) aa;have ebt:(bv l).take (q*1)=bv (l.take q):=by rw[cE,jX]
   rw[ebt]at hbt;refine bz ?_;refine ab (bN (i:=q) (size:=1) underlying27 ag rfl rfl rfl aa) rfl ?_;refine ay rfl (me (l.take q) aA aa) fun Bf JK=>?_;refine cZ ?_;have e1:ij l q=0:=by unfold ij;rw[aw h7,aw aa]
   have e2:mO l q=l.take q:=by simp[mO,e1]
   have e3:rF l q=q:=by simp[rF,e1]
   have e4:(mO l q).length=q:=by rw[e2,eS];omega
   refine aq (L':=C0:: .own 5 1 Bf (mO l q).length JK (bv (mO l q)):: .bE h5 27 [.slice Bf (mO l q).length JK]:: .bE h3 3 [ah q]::F) (by rw[e4,e2];exact .swap (.refl _)) ?_;refine aF ?_;exact⟨by rw[e1,e3],_,⟨Bf,JK,rfl⟩,rfl⟩
theorem afe(l:al)(n:Int):rF l n≤l.length:=by
 unfold rF;split
 ·omega
 ·rename_i h;exact(w_ ny).2
theorem WQ{s:Cs}{n:Int}(h0:s.e=0):s.take n=mO s.rest n:=by simp[Cs.take,mO,h0]
theorem afd{s:Cs}{n:Int}:s.b_ n=s.ew (rF s.rest n) (ij s.rest n):=by
 unfold Cs.b_ Cs.ew rF;split
 ·rfl
 ·split
  ·rfl
  ·rfl
theorem mg(ho:ct s)(hb:aK B w0 F 1 (.slice A s.b.length c) s.b.length (bv s.b)){m:Int}(Vj:-9223372036854775808≤m)(vE:m≤9223372036854775807):
  a_ B w0 171 [br g,ah m] (Cv g A c s::F) (fun r L=>∃A' c',r= .slice A' (s.take m).length c'∧L=Cv g A c (s.b_ m):: .own 5 1 A' (s.take m).length c' (bv (s.take m))::F):=by
 by_cases h0:s.e=0
 ·have hkb:=afe s.rest m;rw[ho.rest.1]at hkb;have hlb:=ho.rest.2;rw[WQ h0,afd];refine fw func171 10 [0,1] ?_;refine be ?_;refine bh fun g3=>?_;refine bG ?_;refine bc fun g5=>?_;refine bz ?_;refine aX Uw rfl ((xK (F:=.bE g5 27 [.slice none 0 0]:: .bE g3 3 [ah m]::F) ho (aK.cons (aK.cons hb)) h0 (caps:=[br g3,br g5]) (R':=ajI g3 g5 s.rest m F) (k:=rF s.rest m) (er:=ij s.rest m) apf aa (fun A' c' CB=>S2 CB aa Vj vE)).perm Cm) rfl ?_;rintro _ _ ⟨rfl,_,⟨A8,c8,cA⟩,rfl⟩;obtain rfl:=cA.symm;refine bO ?_;refine aq (L':=Cv g A c (s.ew (rF s.rest m) (ij s.rest m)):: .own 5 1 A8 (mO s.rest m).length c8 (bv (mO s.rest m))::F) (.cons (.cons (.skip (.skip (.refl _))))) ?_;refine aF ?_;exact⟨A8,c8,rfl,rfl⟩
 ·have e1:s.b_ m=s:=by simp[Cs.b_,Cs.ew,h0]
  have e2:s.take m=[]:=by simp[Cs.take,h0]
  rw[e1,e2];refine fw func171 10 [0,1] ?_;refine be ?_;refine bh fun g3=>?_;refine bG ?_;refine bc fun g5=>?_;refine bz ?_;refine ai rfl ((uV h0).perm Cm) ?_;refine bO ?_;refine aD 5 1 none ?_;refine aq (L':=Cv g A c s:: .own 5 1 none 0 0 []::F) (.swap (.cons (.swap (.skip (.swap (.skip (.refl _))))))) ?_;refine aF ?_;exact⟨none,0,rfl,rfl⟩
theorem Z_(s:Cs):(s.take 1).length≤1:=by
 unfold Cs.take;split
 ·simp
 ·split
  ·simp
  ·simp only[eS];exact Nat.min_le_left _ _
theorem ov(ho:ct s)(hb:aK B w0 F 1 (.slice A s.b.length c) s.b.length (bv s.b)):
  a_ B w0 173 [br g] (Cv g A c s::F) (fun r L=>r= .int .u8 (s.byte.toNat:Int)∧L=Cv g A c s.eJ::F):=by
 have h1:=Z_ s;have eb:s.byte=((s.take 1).head?).getD 0:=rfl;have eb':s.eJ=s.b_ 1:=rfl;rw[eb,eb'];refine fw func173 12 [0] ?_;refine bO ?_;refine ay rfl (mg ho hb (m:=1) aa aa) fun A5 c5=>?_;refine bB ?_;refine aj (fun h8=>?_) fun h8=>?_
 ·refine bA ?_;refine ab (aC (i:=0) (size:=1) underlying27 ag rfl rfl rfl aa aA) rfl ?_;refine bz ?_;refine aq (L':=Cv g A c (s.b_ 1)::F) (.cons (.skip (.refl _))) ?_;refine aF ?_;exact⟨by simp[List.getD,List.head?_eq_getElem?],rfl⟩
 ·refine bI ?_;refine aq (L':=Cv g A c (s.b_ 1)::F) (.cons (.skip (.refl _))) ?_;refine aF ?_;have e0:s.take 1=[]:=mr aa;exact⟨by rw[e0];rfl,rfl⟩
theorem mY{l:al}(hb:eM B w0 F A c l)(hl:l.length≤1099511627776):
  a_ B w0 109 [.slice A l.length c] F (fun r L=>∃g A' c',r=br g∧L=Cv g A' c' ⟨l,0,0⟩:: .own 5 1 A' l.length c' (bv l)::F):=by
 refine fw func109 8 [0] ?_;refine bI ?_;refine ay rfl (me l hb hl) fun A4 c4=>?_;refine ab (bw [(0,_)] [.slice none 0 0,ah 0] [0] [_,_] rfl rfl ag) rfl ?_;refine ab (bw [(0,_)] [.slice none 0 0,ah 0,ah 0] [0] [_,_,_] rfl rfl ag) rfl ?_;refine bh fun g7=>?_;refine bG ?_;exact⟨g7,A4,c4,rfl,rfl⟩
theorem Cs.Oq{s:Cs}(h:s.e=0){k:Nat}{e:Int}(hk:e≠0→k=0):s.ew k e=⟨s.b,s.at_+k,e⟩:=by
 unfold Cs.ew;rw[aw (by simp[h])];split
 ·rename_i he;rw[hk he];rfl
 ·rename_i he;have:e=0:=by simpa using he
  rw[this,←h]
theorem Cs.RT{s:Cs}(h:s.e=0)(m:Int):s.int m=(eu s.rest m).1∧s.bW m=⟨s.b,s.at_+(eu s.rest m).2.1,(eu s.rest m).2.2⟩:=⟨by simp[Cs.int,h],Cs.Oq h fun he=>(pA he).2⟩
theorem afg{l:al}{x k:Nat}{er:Int}(h:(FF l x k er).2.2≠0):(FF l x k er).1=[]∧(FF l x k er).2.1=0:=by
 unfold FF at h⊢;split
 ·exact⟨rfl,rfl⟩
 ·split
  ·exact⟨rfl,rfl⟩
  ·rename_i h1 h2;rw[aw h1,aw h2]at h;exact absurd rfl h
theorem Cs.ajd{s:Cs}(h:s.e=0)(m:Int):s.text m=(jN s.rest m).1∧s.ey m=⟨s.b,s.at_+(jN s.rest m).2.1,(jN s.rest m).2.2⟩:=⟨by simp[Cs.text,h],Cs.Oq h fun he=>(afg he).2⟩
theorem Cs.bad{s:Cs}(h:¬s.e=0):s.num=0∧s.l7=s∧(∀m,s.int m=0∧s.bW m=s∧s.text m=[]∧s.ey m=s∧s.take m=[]∧s.b_ m=s):=by
 refine⟨by simp[Cs.num,h],by simp[Cs.l7,Cs.ew,h],fun m=>⟨by simp[Cs.int,h],by simp[Cs.bW,Cs.ew,h],by simp[Cs.text,h],by simp[Cs.ey,Cs.ew,h],by simp[Cs.take,h],by simp[Cs.b_,Cs.ew,h]⟩⟩
theorem Mb{P:Prop}(h:P:=by(simp[h0])):P:=h
theorem L7{P:Prop}(h:P:=by(simpa using he)):P:=h
theorem qh:type_of% @List.drop_drop:= @List.drop_drop
theorem Cs.Am{s:Cs}(h:s.e=0)(n:Nat){er:Int}(he:er≠0):s.ew n er={s with e:=er}:=by unfold Cs.ew;rw[aw (by simp[h]),ao he]
theorem Cs.uy{s:Cs}(h:s.e=0)(n:Nat):s.ew n 0={s with at_:=s.at_+n}:=by unfold Cs.ew;rw[aw (by simp[h]),aw ak]
theorem Cs.Au{s:Cs}(h:s.e≠0)(n:Nat)(er:Int):s.ew n er=s:=by unfold Cs.ew;rw[ao h]
theorem ofNat_toNat(c:UInt8)(n:Nat)(h:n=c.toNat):UInt8.ofNat n=c:=by subst h;simp
theorem KV:∀(l:al) (i acc:Nat),(dp i acc l).2.2=0→
  ∃y,(dp i acc l).1=acc+y*128^i∧i≤(dp i acc l).2.1∧aS y=l.take ((dp i acc l).2.1-i)∧(0<i→0<y)∧(dp i acc l).2.1≤i+l.length:=by
 intro l;induction l with
 |nil=>intro i acc h;simp[dp]at h
 |cons c r ih=>
  intro i acc h;unfold dp at h⊢;by_cases h1:i=9∧c.toNat≠1∨0<i∧c.toNat=0
  ·rw[ao h1]at h;simp at h
  ·rw[aw h1]at h⊢;by_cases h2:c.toNat<128
   ·rw[ao h2];refine⟨c.toNat,?_,ak,?_,aa,aa3⟩
    ·show acc+c.toNat%128*128^i=_;rw[i_ h2]
    ·show aS c.toNat=List.take (i+1-i) (c::r);rw[ox h2,yg];simp
   ·rw[aw h2]at h⊢;obtain⟨y,e1,e2,e3,e4,e5⟩:=ih _ _ h;have hy:=e4 aa;refine⟨c.toNat%128+128*y,?_,aa,?_,aa,aa3⟩
    ·rw[e1,nK,mL,NM];congr 2;rw[nL (128^i) 128,←tq,nL y 128]
    ·rw[uX aa];have hc:=c.toNat_lt;rw[show(c.toNat%128+128*y)/128=y by omega,e3,ofNat_toNat c _ aa];generalize hN:(dp (i+1) (acc+c.toNat%128*128^i) r).2.1=N at*;rw[show N-i=(N-(i+1))+1 by omega,rh]
theorem vn{l:al}(h:(cO l).2.2=0):aS (cO l).1=l.take (cO l).2.1:=by
 obtain⟨y,e1,_,e3,_⟩:=KV l 0 0 h;have:(cO l).1=y:=by unfold cO;rw[e1];simp
 rw[this,e3];rfl
theorem G4(r:al):∀(n y i acc:Nat),y≤n→y*128^i<18446744073709551616→(0<i→0<y)→
  dp i acc (aS y++r)=(acc+y*128^i,i+(aS y).length,0):=by
 intro n;induction n with
 |zero=>
  intro y i acc hy h h0;have hy0:y=0:=by omega
  subst hy0;have hi:i=0:=by
   rcases wV i with h'|h'
   ·exact h'
   ·exact absurd (h0 h') aa
  subst hi;rw[ox aa];simp[dp]
 |succ n ih=>
  intro y i acc hy h h0;have hi9:i≤9:=by
   rcases uh 9 i with h'|h'
   ·exfalso;have h1:(128:Nat)^10≤128^i:=la aa aa;have e:(128:Nat)^10=1180591620717411303424:=by decide+kernel
    rw[e]at h1;have h2:1*128^i≤y*128^i:=oA _ (h0 aa);omega
   ·exact h'
  have e9:(128:Nat)^9=9223372036854775808:=by decide+kernel
  have hy9:i=9→y=1:=by
   intro hi;rw[hi,e9]at h;have:=h0 aa;omega
  by_cases fN:y<128
  ·rw[ox fN];have hu:=u8n y aa;show dp i acc (UInt8.ofNat y::r)=_;unfold dp;rw[hu,aw aa,ao fN,i_ fN];rfl
  ·rw[uX aa];have hu:=u8n (128+y%128) aa;show dp i acc (UInt8.ofNat (128+y%128)::(aS (y/128)++r))=_;unfold dp;rw[hu,aw aa,aw aa,show(128+y%128)%128=y%128 by omega];have hd:y=y%128+128*(y/128):=by omega
   have hm:y*128^i=y%128*128^i+y/128*128^(i+1):=by
    conv=>lhs;rw[hd,mL]
    rw[nK,nL (128^i) 128,←tq,nL (y/128) 128]
   rw[ih (y/128) (i+1) _ aa aa aa,hm];simp only[ef];rw[show acc+y%128*128^i+y/128*128^(i+1)=acc+(y%128*128^i+y/128*128^(i+1)) by omega,show i+1+(aS (y/128)).length=i+((aS (y/128)).length+1) by omega]
theorem sq(x:Nat)(hx:x<18446744073709551616)(r:al):cO (aS x++r)=(x,(aS x).length,0):=by
 have:=G4 r x x 0 0 (gi _) (by simpa using hx) aa;simpa[cO]using this
theorem Cs.KL{s:Cs}(h:s.l7.e=0):s.e=0∧(cO s.rest).2.2=0∧s.num=(cO s.rest).1∧s.l7={s with at_:=s.at_+(cO s.rest).2.1}:=by
 unfold Cs.l7 at h⊢;by_cases h0:s.e=0
 ·by_cases he:(cO s.rest).2.2=0
  ·rw[he,Cs.uy h0];exact⟨h0,rfl,by unfold Cs.num;rw[aw Mb],rfl⟩
  ·rw[Cs.Am h0 _ he]at h;exact absurd h he
 ·rw[Cs.Au h0]at h;exact absurd h h0
theorem Cs.ahh{s:Cs}(h:s.xT.e=0):s.e=0∧s.left=0:=by
 unfold Cs.xT at h;split at h
 ·unfold Cs.failed at h;split at h
  ·exact absurd h ak
  ·rename_i h1 h2;exact absurd h h2
 ·exact⟨h,aa⟩
theorem Kz(a b:al):iN (a++b)=iN a+256^a.length*iN b:=by
 induction a with
 |nil=>simp[iN]
 |cons c r ih=>
  simp only[nI,iN,ih,ef,nK];rw[ue,NM];congr 2;rw[←tq,nL 256]
theorem Ez(x:Nat):∀k,iN (fF x k)=x%2^(8*k):=by
 intro k;induction k with
 |zero=>simp[fF,iN,Nat.mod_one]
 |succ k ih=>
  have e7:(256:Nat)^k=2^(8*k):=by rw[show(256:Nat)=2^8 from rfl,←Nat.pow_mul]
  rw[fF,Kz,ih,qb,e7];simp only[iN,Nat.mul_zero,tk];rw[u8n _ (sX _ aa),show 8*(k+1)=8*k+8 by omega,Nat.pow_add,Nat.mod_mul]
theorem Cs.amQ{s:Cs}{x:Nat}{r:al}(h0:s.e=0)(hx:x<18446744073709551616)(hr:s.rest=aS x++r):
  s.num=x∧s.l7={s with at_:=s.at_+(aS x).length}:=by
 unfold Cs.num Cs.l7;rw[hr,sq x hx r,aw Mb];exact⟨rfl,Cs.uy h0 _⟩
theorem Cs.vm{s:Cs}{a r:al}{n:Nat}(hr:s.rest=a++r)(hn:n=a.length):Cs.rest {s with at_:=s.at_+n}=r:=by
 unfold Cs.rest at hr⊢;show s.b.drop (s.at_+n)=r;rw[←qh,hr,hn,BH]
theorem Cs.ajc{s:Cs}{t r:al}(h0:s.e=0){most:Int}(ht:(t.length:Int)≤most)(hm:most≤9223372036854775807)(hr:s.rest=fo t++r):
  s.text most=t∧s.ey most={s with at_:=s.at_+(fo t).length}:=by
 have hs:cO (fo t++r)=(t.length,(aS t.length).length,0):=by
  unfold fo;rw[bV];exact sq _ aa _
 have hl:eu (fo t++r) most=(t.length,(aS t.length).length,0):=by
  unfold eu;rw[hs];simp only[ne_eq,not_true_eq_false,if_false];rw[aw aa]
 have hx:jN (fo t++r) most=(t,(aS t.length).length+t.length,0):=by
  unfold jN;rw[hl];simp only[ne_eq,not_true_eq_false,if_false];rw[aw (by simp only[fo,aY];omega)];have e1:(fo t++r).drop (aS t.length).length=t++r:=by unfold fo;rw[bV,BH]
  rw[e1,yk]
 unfold Cs.text Cs.ey;rw[hr,hx,aw Mb];refine⟨rfl,?_⟩;rw[Cs.uy h0];simp[fo]
theorem Cs.ai'{s:Cs}{t r:al}(h0:s.e=0){n:Int}(hn:n=t.length)(hr:s.rest=t++r):
  s.take n=t∧s.b_ n={s with at_:=s.at_+t.length}:=by
 have ht:ij (t++r) n=0:=by
  unfold ij;rw[aw aa,aw bR]
 unfold Cs.take Cs.b_;rw[hr,ht,aw Mb,aw ak,hn,nH,yk];exact⟨rfl,Cs.uy h0 _⟩
theorem Cs.ab0{s:Cs}(h0:s.e=0)(hr:s.rest=[]):s.xT.e=0:=by
 unfold Cs.xT;have:s.left=0:=by
  have:=dB List.length hr;simp[Cs.rest]at this;unfold Cs.left;omega
 rw[aw aa];exact h0
structure nT(s s':Cs)(p:al):Prop where
 e0:s.e=0
 eq:s'=⟨s.b,s.at_+p.length,0⟩
 rest:s.rest=p++s'.rest
theorem nT.e1{s s':Cs}{p:al}(h:nT s s' p):s'.e=0:=by rw[h.eq]
theorem nT.nil{s:Cs}(h:s.e=0):nT s s []:=⟨h,by cases s;simp at h;simp[h],rfl⟩
theorem nT.trans{s s' s'':Cs}{p q:al}(h:nT s s' p)(k:nT s' s'' q):nT s s'' (p++q):=by
 refine⟨h.e0,?_,by rw[h.rest,k.rest,bV]⟩;rw[k.eq,h.eq,aY,NM]
theorem nT.yC{s:Cs}{k:Nat}{er:Int}{p:al}(h:(s.ew k er).e=0)(hp:er=0→p=s.rest.take k)(hk:er=0→k≤s.rest.length):er=0∧nT s (s.ew k er) p:=by
 by_cases h0:s.e=0
 ·by_cases he:er=0
  ·subst he;have e1:=hp rfl;have e2:=hk rfl;have hl:p.length=k:=by rw[e1,eS];omega
   rw[Cs.uy h0];refine⟨rfl,h0,by rw[hl,←h0],?_⟩;rw[e1];show s.rest=s.rest.take k++s.b.drop (s.at_+k);rw[←qh];exact(jJ k s.rest).symm
  ·rw[Cs.Am h0 _ he]at h;exact absurd h he
 ·rw[Cs.Au h0]at h;exact absurd h h0
theorem nT.cI{s s':Cs}{p r:al}(h:nT s s' p)(hr:s.rest=p++r):s'.rest=r:=by
 have:=h.rest;rw[hr]at this;exact(List.append_cancel_left this).symm
theorem Cs.aii{s:Cs}(h:s.l7.e=0):nT s s.l7 (aS s.num)∧s.num<18446744073709551616:=by
 have h0:=(Cs.KL h).1;have h2:=(Cs.KL h).2.1;have h3:=(Cs.KL h).2.2.1;exact⟨(nT.yC h (fun _=>by rw[h3,vn h2]) (fun _=>(fg _).2.1)).2,by rw[h3];exact(fg _).1⟩
theorem Cs.V4{s:Cs}{x:Nat}{r:al}(h0:s.e=0)(hx:x<18446744073709551616)(hr:s.rest=aS x++r):s.num=x∧nT s s.l7 (aS x):=by
 obtain⟨h1,h2⟩:=Cs.amQ h0 hx hr;refine⟨h1,h0,by rw[h2,h0],?_⟩;rw[h2,Cs.vm hr rfl,hr]
theorem VI{l:al}{m:Int}(h:(eu l m).2.2=0):(cO l).2.2=0∧eu l m=((cO l).1,(cO l).2.1,0)∧((cO l).1:Int)≤m:=by
 unfold eu at h⊢;by_cases h1:(cO l).2.2≠0
 ·rw[ao h1]at h;exact absurd h h1
 ·rw[aw h1]at h⊢;by_cases h2:m<0∨m<(cO l).1
  ·rw[ao h2]at h;simp at h
  ·rw[aw h2]at h⊢;exact⟨C7,rfl,aa⟩
theorem Cs.EJ{s:Cs}{k:Nat}{er:Int}(h:(s.ew k er).e=0):s.e=0∧er=0:=by
 by_cases h0:s.e=0
 ·by_cases he:er=0
  ·exact⟨h0,he⟩
  ·rw[Cs.Am h0 _ he]at h;exact absurd h he
 ·rw[Cs.Au h0]at h;exact absurd h h0
theorem Cs.Ks{s:Cs}{m:Int}(h:(s.bW m).e=0):nT s (s.bW m) (aS (s.int m))∧(s.int m:Int)≤m∧s.int m<18446744073709551616:=by
 obtain⟨h0,he⟩:=Cs.EJ h;obtain⟨h1,h2,h3⟩:=VI he;have hi:s.int m=(cO s.rest).1:=by rw[(Cs.RT h0 m).1,h2]
 refine⟨(nT.yC h (fun _=>by rw[hi,vn h1,h2]) (fun _=>by rw[h2];exact(fg _).2.1)).2,by rw[hi];exact h3,by rw[hi];exact(fg _).1⟩
theorem Cs.iB{s:Cs}{x:Nat}{r:al}(h0:s.e=0){m:Int}(hx:(x:Int)≤m)(hm:m≤9223372036854775807)(hr:s.rest=aS x++r):s.int m=x∧nT s (s.bW m) (aS x):=by
 have hs:=sq x aa r;have hl:eu s.rest m=(x,(aS x).length,0):=by
  unfold eu;rw[hr,hs];simp only[ne_eq,not_true_eq_false,if_false];rw[aw aa]
 have h2:=(Cs.RT h0 m).2;rw[hl]at h2;refine⟨by rw[(Cs.RT h0 m).1,hl],h0,h2,?_⟩;rw[h2,hr];congr 1;exact(Cs.vm hr rfl).symm
theorem Cs.yS{s:Cs}{m:Int}(h:(s.ey m).e=0):nT s (s.ey m) (fo (s.text m))∧((s.text m).length:Int)≤m:=by
 obtain⟨h0,he⟩:=Cs.EJ h;have e:jN s.rest m=FF s.rest (eu s.rest m).1 (eu s.rest m).2.1 (eu s.rest m).2.2:=rfl;rw[e]at he;by_cases hl:(eu s.rest m).2.2=0
 ·obtain⟨h1,h2,h3⟩:=VI hl;by_cases hx:s.rest.length-(eu s.rest m).2.1<(eu s.rest m).1
  ·rw[S4 vO hx]at he;simp at he
  ·have e2:=S5 (l:=s.rest) (x:=(eu s.rest m).1) (k:=(eu s.rest m).2.1) (er:=(eu s.rest m).2.2) vO hx;rw[←e,h2]at e2;rw[h2]at hx;simp only at e2 hx;have hk:=(fg s.rest).2.1;have ht:s.text m=(s.rest.drop (cO s.rest).2.1).take (cO s.rest).1:=by rw[(Cs.ajd h0 m).1,e2]
   have Ce:(s.text m).length=(cO s.rest).1:=by rw[ht,eS,iG];omega
   refine⟨(nT.yC h (fun _=>?_) (fun _=>by rw[e2];simp only;omega)).2,by rw[Ce];exact h3⟩;rw[fo,Ce,vn h1,ht,e2];simp only;rw[List.take_add]
 ·rw[S3 hl]at he;exact absurd he hl
theorem Cs.rG{s:Cs}{t r:al}(h0:s.e=0){m:Int}(ht:(t.length:Int)≤m)(hm:m≤9223372036854775807)(hr:s.rest=fo t++r):s.text m=t∧nT s (s.ey m) (fo t):=by
 obtain⟨h1,h2⟩:=Cs.ajc h0 ht hm hr;refine⟨h1,h0,by rw[h2,h0],?_⟩;rw[h2,Cs.vm hr rfl,hr]
theorem Cs.Pf{s:Cs}{n:Int}(h:(s.b_ n).e=0):nT s (s.b_ n) (s.take n)∧(s.take n).length=n.toNat∧0≤n:=by
 obtain⟨h0,he⟩:=Cs.EJ h;have ht:=w_ he;have e:s.take n=s.rest.take n.toNat:=by rw[WQ h0,mO,aw L7]
 exact⟨(nT.yC h (fun _=>e) (fun _=>ht.2)).2,by rw[e,eS];omega,ht.1⟩
theorem Cs.mz{s:Cs}{t r:al}(h0:s.e=0){n:Int}(hn:n=t.length)(hr:s.rest=t++r):s.take n=t∧nT s (s.b_ n) t:=by
 obtain⟨h1,h2⟩:=Cs.ai' h0 hn hr;refine⟨h1,h0,by rw[h2,h0],?_⟩;rw[h2,Cs.vm hr rfl,hr]
theorem Cs.abn{s:Cs}(h:s.eJ.e=0):nT s s.eJ [s.byte]:=by
 obtain⟨h1,h2,_⟩:=Cs.Pf h;have h3:(s.take 1).length=1:=h2;obtain⟨c,hc⟩:=List.length_eq_one_iff.1 h3;have:s.byte=c:=by unfold Cs.byte;rw[hc];rfl
 rw[this,←hc];exact h1
theorem Cs.mb{s:Cs}{c:UInt8}{r:al}(h0:s.e=0)(hr:s.rest=c::r):s.byte=c∧nT s s.eJ [c]:=by
 obtain⟨h1,h2⟩:=Cs.mz (t:=[c]) (n:=1) h0 rfl hr;exact⟨by unfold Cs.byte;rw[h1];rfl,h2⟩
theorem abX(x:Nat):1≤(aS x).length:=by
 by_cases h:128≤x
 ·rw[uX h];simp
 ·rw[ox aa];simp
theorem M5(t:al):1≤(fo t).length:=by
 have:=abX t.length;unfold fo;rw[aY];omega
def LN(b:al):al×Int:=lB (jo b)
def ZY(b:al):Prop:=(LN b).2=0∧(LN b).1.length<b.length
instance (b:List UInt8):Decidable (ZY b):=inferInstanceAs (Decidable (_∧_))
def kp(b:al)(plain:Bool):UInt8×al:=if plain=false∧ZY b then (1,(LN b).1) else (0,b)
def xB(b:al)(plain:Bool):al:=(kp b plain).1::(aS b.length++aS (kp b plain).2.length)
def jA(b:al)(plain:Bool):al×Int:=if 32768<b.length then ([],6) else (cX (xB b plain++(kp b plain).2),0)
def UX(b:al):Cs:=if 1<(Cs.byte ⟨b,0,0⟩).toNat then (Cs.eJ ⟨b,0,0⟩).failed 2 else Cs.eJ ⟨b,0,0⟩
def frN(b:al):Nat:=(UX b).int 32768
def fr2(b:al):Cs:=(UX b).bW 32768
def zF(b:al):Nat:=(fr2 b).int 32768
def Gb(b:al):Cs:=if 1032*zF b+64<frN b then ((fr2 b).bW 32768).failed 6 else (fr2 b).bW 32768
def PX(b:al):al:=(Gb b).take (zF b)
def Yf(b:al):Cs:=((Gb b).b_ (zF b)).b_ 4
def xY(b:al):Cs:=if (Yf b).e≠0 then Yf b else (Yf b).failed (aJ (b.take (Yf b).at_)).2
noncomputable def Ni(way n p:Nat)(body:al):al×Int:=
 if way=0 then (if n≠p then ([],2) else (body,0))
 else if (fK body n).2≠0 then ([],(fK body n).2)
 else if (kH (fK body n).1 n).2≠0 then ([],(kH (fK body n).1 n).2)
 else if (kH (fK body n).1 n).1.length<n then ([],2) else ((kH (fK body n).1 n).1,0)
noncomputable def Ly(b:al):al×Int:=Ni (Cs.byte ⟨b,0,0⟩).toNat (frN b) (zF b) (PX b)
noncomputable def dK(b:al):al×Nat×Int:=
 if (xY b).e≠0 then ([],0,(xY b).e) else if (Ly b).2≠0 then ([],0,(Ly b).2) else ((Ly b).1,(xY b).at_,0)
theorem xC(b:al)(plain:Bool):(kp b plain).2.length≤b.length:=by
 unfold kp;split
 ·rename_i h;exact Nat.le_of_lt h.2.2
 ·exact gi _
theorem Ye(b:al):(jo b).length≤b.length:=by
 have:=DX b b.length 0 (bS _);unfold jo;omega
theorem aag{l:List bP}{t:bP}(hm:∀t∈l,e_ t)(ht:t∈l):max 1 t.2.1≤129*((vM (fh l) (im l) t).length:Int):=by
 have hc:=Dm ht;have fG:=hm t ht;have fN:(bJ t).1<265:=by
  by_cases h0:t.2.1=0
  ·rw[(vg fG h0).1];have:=lT t.1;simp only;omega
  ·have:=(nM fG h0).2.1;omega
 have h1:=kO (o:=JR l) (N:=265) aa fN hc;have e1:((fh l).getD (bJ t).1 0).toNat≠0:=h1;unfold vM;rw[aY,m8];by_cases h0:t.2.1=0
 ·rw[h0];simp only[show max (1:Int) 0=1 from rfl];omega
 ·obtain⟨k1,k2,k3,k4,k5,k6,k7,k8⟩:=nM fG h0;have hf:=Dk ht (by omega:256<(bJ t).1);have h2:((im l).getD (bJ t).2.2.1 0).toNat≠0:=kO (o:=wH l) (N:=12) aa aa hf;rw[aw aa,aY,aY,m8];unfold e_ at fG;rw[aw h0]at fG;omega
theorem FM{l:List bP}(hm:∀t∈l,e_ t):∀ts:List bP,(∀t∈ts,t∈l)→gO ts≤129*((mP (fh l) (im l) ts).length:Int)
 |[],_=>by
  have e:gO []=0:=rfl;omega
 |t::ts,h=>by
  have e:gO (t::ts)=max 1 t.2.1+gO ts:=rfl;rw[xc,aY,e];have h1:=aag hm (h t ak);have h2:=FM hm ts fun u hu=>h u (by simp[hu]);omega
theorem yH(t:bP)(r:List bP):gO (t::r)=max 1 t.2.1+gO r:=rfl
theorem AI(most:Int):∀(l:List bP) (out:al),(ia most out l).2=0→((ia most out l).1.length:Int)=out.length+gO l
 |[],out,_=>by simp[ia,gO]
 |t::r,out,h=>by
  unfold ia at h⊢;split
  ·rename_i hc;rw[ao hc]at h;simp at h
  ·rename_i hc;rw[aw hc]at h;have fG:e_ t:=jG.1 hc;split
   ·rename_i h1;rw[ao h1]at h;simp at h
   ·rename_i h1;rw[aw h1]at h;split
    ·rename_i h2;rw[ao h2]at h;simp at h
    ·rename_i h2;rw[aw h2]at h;split
     ·rename_i h3;rw[ao h3]at h;have:=AI most r _ h;rw[this,yH,h3];simp;omega
     ·rename_i h3;rw[aw h3]at h;have:=AI most r _ h;rw[this,oF];unfold e_ at fG;rw[aw h3]at fG;rw[yH];have:=nN r;omega
theorem Z0{b:al}(h:(LN b).2=0):b.length≤1032*(LN b).1.length+64:=by
 have hm:∀t∈jo b,e_ t:=xV b b.length 0;have mN:=AI b.length (jo b) [] (by
  have:=w5 b b.length (Int.le_refl _);unfold kH at this;rw[aw aa]at this;rw[this])
 have LC:=w5 b b.length (Int.le_refl _);unfold kH at LC;rw[aw aa]at LC;rw[LC]at mN;unfold LN lB at h⊢;by_cases h1:32768<(jo b).length
 ·rw[ao h1]at h;simp at h
 ·rw[aw h1]at h⊢;rw[ao hm];have atL:=FM hm (jo b) fun t ht=>ht;have Cb:=dJ (qu (jo b));have:(mP (fh (jo b)) (im (jo b)) (jo b)).length≤(qu (jo b)).length:=by unfold qu;simp only[aY];omega
  simp only at mN⊢;rw[Cb];simp only[sd]at mN;omega
theorem XD(b:al)(plain:Bool)(hb:b.length≤32768)(r:al){x:al}(hx:x=(jA b plain).1++r):
  (Cs.byte ⟨x,0,0⟩)=(kp b plain).1∧frN x=b.length∧zF x=(kp b plain).2.length∧PX x=(kp b plain).2∧xY x=⟨x,(jA b plain).1.length,0⟩:=by
 have hyl:=xC b plain;have NF:Cs.rest ⟨x,0,0⟩=(kp b plain).1::(aS b.length++(aS (kp b plain).2.length++((kp b plain).2++(my (pT 0 (xB b plain++(kp b plain).2))++r)))):=by
  unfold Cs.rest;rw[tp,hx];unfold jA;rw[aw aa];unfold cX xB;simp[bV]
 obtain⟨b1,d1⟩:=Cs.mb (s:=⟨x,0,0⟩) rfl NF;have h1:(kp b plain).1.toNat≤1:=by
  unfold kp;split
  ·exact(by decide:(1:UInt8).toNat≤1)
  ·exact(by decide:(0:UInt8).toNat≤1)
 have e1:UX x=Cs.eJ ⟨x,0,0⟩:=by unfold UX;rw[b1,aw aa]
 have r1:=d1.cI (p:=[(kp b plain).1]) NF;obtain⟨n1,d2⟩:=Cs.iB (m:=32768) d1.e1 aa aa r1;have r2:=d2.cI r1;obtain⟨p1,d3⟩:=Cs.iB (m:=32768) d2.e1 aa aa r2;have r3:=d3.cI r2;have eN:frN x=b.length:=by unfold frN;rw[e1];exact n1
 have e2:fr2 x=(Cs.eJ ⟨x,0,0⟩).bW 32768:=by unfold fr2;rw[e1]
 have eP:zF x=(kp b plain).2.length:=by unfold zF;rw[e2];exact p1
 have asV:b.length≤1032*(kp b plain).2.length+64:=by
  unfold kp;split
  ·rename_i h;exact Z0 h.2.1
  ·simp only;omega
 have e3:Gb x=((Cs.eJ ⟨x,0,0⟩).bW 32768).bW 32768:=by unfold Gb;rw[eP,eN,aw aa,e2]
 obtain⟨t1,d4⟩:=Cs.mz (n:=((kp b plain).2.length:Nat)) d3.e1 rfl r3;have r4:=d4.cI r3;obtain⟨t2,d5⟩:=Cs.mz (n:=4) d4.e1 rfl r4;have eB:PX x=(kp b plain).2:=by unfold PX;rw[e3,eP];exact t1
 have e4:Yf x=(((((Cs.eJ ⟨x,0,0⟩).bW 32768).bW 32768).b_ ((kp b plain).2.length:Nat)).b_ 4):=by unfold Yf;rw[e3,eP]
 have mJ:=(((d1.trans d2).trans d3).trans d4).trans d5;have hlen:(jA b plain).1.length=([(kp b plain).1]++aS b.length++aS (kp b plain).2.length++(kp b plain).2++my (pT 0 (xB b plain++(kp b plain).2))).length:=by
  unfold jA;rw[aw aa];unfold cX xB;simp[bV]
 have e4':Yf x=⟨x,(jA b plain).1.length,0⟩:=by
  rw[e4,mJ.eq,←hlen];simp
 have hcut:aJ (x.take (jA b plain).1.length)=(xB b plain++(kp b plain).2,0):=by
  rw[hx,yk];unfold jA;rw[aw aa];exact jt _
 refine⟨b1,eN,eP,eB,?_⟩;unfold xY;rw[e4'];simp only;rw[aw ak,hcut];rfl
theorem Mi(b:al)(plain:Bool)(hb:b.length≤32768)(r:al):dK ((jA b plain).1++r)=(b,(jA b plain).1.length,0):=by
 obtain⟨x,hx⟩:=cK ((jA b plain).1++r);obtain⟨h1,h2,h3,h4,h5⟩:=XD b plain hb r hx;rw[←hx];have hy:Ly x=(b,0):=by
  unfold Ly;rw[h1,h2,h3,h4];unfold Ni kp;by_cases hs:plain=false∧ZY b
  ·rw[ao hs];simp only;have hm:∀t∈jo b,e_ t:=xV b b.length 0;have mN:=zB b b.length 0 (bS _);have hsq:=hs.2.1;have hw:(LN b).1=packed (qu (jo b)):=by
    unfold LN lB at hsq⊢;by_cases h1:32768<(jo b).length
    ·rw[ao h1]at hsq;simp at hsq
    ·rw[aw h1,ao hm]
   have oL:fK (LN b).1 (b.length:Int)=(jo b,0):=by
    rw[hw];exact aak hm (by unfold jo;simpa using mN)
   have hp:=w5 b b.length (Int.le_refl _);rw[aw aB,oL];simp only;rw[hp];simp
  ·rw[aw hs];simp
 unfold dK;rw[h5,hy];simp
abbrev aR:=Int×Bool×Int×Int×Int×Int
def aR.cells(o:aR):cV:=[ah o.1,.bool o.2.1,ah o.2.2.1,ah o.2.2.2.1,ah o.2.2.2.2.1,ah o.2.2.2.2.2]
def h_:aR:=(0,false,0,0,0,0)
def PL(x lo hi:Int):Prop:=lo≤x∧x≤hi
instance (x lo hi:Int):Decidable (PL x lo hi):=inferInstanceAs (Decidable (_∧_))
def anJ(o:aR):Prop:=PL o.2.2.2.1 1 255∧PL o.2.2.2.2.1 0 (255-o.2.2.2.1)∧PL o.2.2.2.2.2 1 4096
instance (o:aR):Decidable (anJ o):=inferInstanceAs (Decidable (_∧_∧_))
def nZ(v:Int)(o:aR):Prop:=
 PL o.1 16 32768∧
 (v=3→anJ o)∧(v=3∨v=2→PL o.2.2.1 1 64)∧
 (¬v=3→o.2.2.2.1=0∧o.2.2.2.2.1=0∧o.2.2.2.2.2=0)∧(v=1→o.2.2.1=0)
instance (v:Int)(o:aR):Decidable (nZ v o):=inferInstanceAs (Decidable (_∧_∧_∧_∧_))
def cB(v:Int)(o:aR):Int:=if v=1∨v=2∨v=3 then (if nZ v o then 0 else 9) else 4
def dY:al:=[70,73,82,75]
def qm(v:Int):al×Int:=if PL v 1 3 then (dY++[UInt8.ofNat v.toNat],0) else ([],4)
def marked(b:al):Int×Int:=
 if b.length≤4 then (0,1) else if¬b.take 4=dY then (0,3) else if¬PL ((b.getD 4 0).toNat:Int) 1 3 then (0,4) else ((b.getD 4 0).toNat,0)
theorem lV{v:Int}(h:PL v 1 3)(r:al):marked ((qm v).1++r)=(v,0):=by
 obtain⟨h1,h2⟩:=h;have hv:v=1∨v=2∨v=3:=by omega
 rcases hv with rfl|rfl|rfl
 ·show marked (70::73::82::75::1::r)=_;unfold marked;rw[aw ak,aw (by simp[dY]),aw (by simp[PL])];rfl
 ·show marked (70::73::82::75::2::r)=_;unfold marked;rw[aw ak,aw (by simp[dY]),aw (by simp[PL])];rfl
 ·show marked (70::73::82::75::3::r)=_;unfold marked;rw[aw ak,aw (by simp[dY]),aw (by simp[PL])];rfl
section
open Go.RowKit Go.ChangeShapes Go.WideShapes Go.ChangeAt
theorem ID:type_of% @Int.toNat_of_nonneg:= @Int.toNat_of_nonneg
theorem jI:type_of% @List.flatMap_cons:= @List.flatMap_cons
theorem sY:type_of% @List.getElem?_append_right:= @List.getElem?_append_right
def Qi(P:Program)(w:World)(t:TypeId){α:Type}(F:α→cV)(Ok:α→Prop):Prop:=
 ∀(H:Type) (enc:TypeId×Value→H) (n:Nat) (cs:cV) (y:DataW H×List MemPlace),
  DataW.trod enc P w 0 (fun _=>true) true n t cs=some y→∃x,cs=F x∧Ok x
section
variable{P:Program}{w:World}{t:TypeId}
theorem abN(ht:P.underlying t=some (.int .u8)):Qi P w t (fun b:UInt8=>[.int .u8 (b.toNat:Int)]) (fun _=>True):=by
 intro H enc n cs y h;obtain⟨m,rfl,_,hw⟩:=DataW.trod_int ht h;have hb:=bounds_u8 hw;refine⟨UInt8.ofNat m.toNat,?_,trivial⟩;have e:(UInt8.ofNat m.toNat).toNat=m.toNat:=by simp;omega
 dsimp only;rw[e,ID hb.1]
theorem Bs{α:Type}{F:α→cV}{size:Nat}(hF:∀x,(F x).length=size):∀(L:List α) (i j:Nat),j<size→(L.flatMap F)[i*size+j]? =(L[i]?).bind fun x=>(F x)[j]? :=by
 intro L;induction L with
 |nil=>intro i j _;simp
 |cons x L ih=>
  intro i j hj;rw[jI];rcases i with _|i
  ·rw[z7 (by rw[hF];omega)];simp
  ·rw[sY (by rw[hF,j8];omega),hF,show(i+1)*size+j-size=i*size+j by rw[j8];omega,ih i j hj];simp
theorem HW{e:TypeId}{α:Type}{F:α→cV}{Ok:α→Prop}{size:Nat}(ht:P.underlying t=some (.slice e))(hc:P.cellsOf e=size)(hs:0<size)(hF:∀x,(F x).length=size)(he:Qi P w e F Ok):
  Qi P w t (fun x:Value×List α=>[x.1]) (fun x=>Rd w w.heap.size size x.1 x.2.length (x.2.flatMap F)∧(∀y∈x.2,Ok y)∧x.2.length≤maxLen):=by
 intro H enc n cs y h;rcases Deep.open_slice ht h with⟨rfl,_⟩|⟨a,len,cap,m,n',D,Pl,rfl,_,hl,hm,hmm,_,Eb⟩
 ·exact⟨(.slice none 0 0,[]),rfl,Rd.Az,ak,ak⟩
 ·simp only[if_true]at hmm;have hex:∀i,i<len→∃x,w.cells? 0 (a.add (i*P.cellsOf e)) (P.cellsOf e)=some (F x)∧Ok x:=by
   intro i hi;obtain⟨cs',h1,h2⟩:=Eb i aa;obtain⟨x,rfl,ho⟩:=he H enc _ _ _ h2;exact⟨x,h1,ho⟩
  have aqr:∀k,k≤len→∃L:List α,L.length=k∧∀i x,L[i]? =some x→w.cells? 0 (a.add (i*P.cellsOf e)) (P.cellsOf e)=some (F x)∧Ok x:=by
   intro k;induction k with
   |zero=>intro _;exact⟨[],rfl,ak⟩
   |succ k ih=>
    intro hk;obtain⟨L,hL,hLi⟩:=ih aa;obtain⟨x,hx⟩:=hex k aa;refine⟨L++[x],by simp[hL],fun i z hz=>?_⟩;rw[List.getElem?_append]at hz;split at hz
    ·exact hLi i z hz
    ·rename_i fN;have:i=k:=by
      have:=(zY.1 hz).1;simp at this;omega
     subst this;simp[hL]at hz;subst hz;exact hx
  obtain⟨L,hL,hLi⟩:=aqr len (gi _);refine⟨(.slice (some a) len cap,L),rfl,⟨some a,cap,by rw[hL],by rw[hL];exact hl,?_,fun hn=>⟨a,rfl,?_,?_⟩⟩,?_,by show L.length≤maxLen;omega⟩
  ·show(L.flatMap F).length=L.length*size;clear hL hLi;induction L with
   |nil=>simp
   |cons x L ih=>simp[ih,hF,j8,sT]
  ·obtain⟨x,hx⟩:∃x,L[0]? =some x:=by
    rcases L with _|⟨x,L⟩
    ·simp at hn
    ·exact⟨x,rfl⟩
   have:=(hLi 0 x hx).1;rw[hc]at this;have:=(World.cells?_some this).2.2 0 hs;simp[Addr.add]at this;rcases uh a.block w.heap.size with fN|wN
   ·exact fN
   ·rw[World.cell?,Array.getElem?_eq_none wN]at this;have h0:=hF x;have:(F x)[0]? =none:=by simpa using this.symm
    have:=List.getElem?_eq_none_iff.1 this;omega
  ·intro j u hu;have hj:j=j/size*size+j%size:=by have:=Nat.div_add_mod j size;rw[nL]at this;omega
   rw[hj,Bs hF L _ _ (sX _ hs)]at hu;obtain⟨x,hx,hu⟩:=Option.bind_eq_some_iff.1 hu;have hcx:=(hLi _ x hx).1;rw[hc]at hcx;have:=(World.cells?_some hcx).2.2 (j%size) (sX _ hs);rw[lG,←hj]at this;rw[this,hu]
  ·intro y hy;obtain⟨i,hi⟩:=List.getElem?_of_mem hy;exact(hLi i y hi).2
theorem DZ(l:al):l.flatMap (fun b:UInt8=>[Value.int .u8 (b.toNat:Int)])=bv l:=by
 induction l with
 |nil=>rfl
 |cons x l ih=>simp[bv]at ih⊢;exact ih
end
section
variable{P:Program}{w:World}{t:TypeId}
theorem Qi.arg{α:Type}{F:α→cV}{Ok:α→Prop}(hd:Qi P w t F Ok){H:Type}{enc:TypeId×Value→H}{v:Value}{d:DataW H}{ps:List MemPlace}(h:DataW.Trod enc P w 0 (fun _=>true) true t v d ps):∃x,v.cells.toList=F x∧Ok x:=by
 obtain⟨n,h⟩:=h;exact hd H enc n _ _ h
theorem Br{v:Value}{x:Value}(a:bj)(n c:Nat)(hv:v= .slice a n c)(h:v.cells.toList=[x]):x=v:=by
 subst hv;simp[Value.cells]at h;exact h.symm
end
section
variable{P:Program}{w:World}{t:TypeId}
end
end
abbrev aI:=Nat×UInt8×al×al
def aI.cells(x:aI):cV:=[.int .u64 x.1,.int .u8 (x.2.1.toNat:Int),.string ⟨x.2.2.1.toArray⟩,.string ⟨x.2.2.2.toArray⟩]
def aI.ok(x:aI):Prop:=x.1<18446744073709551616∧True∧x.2.2.1.length≤maxLen∧x.2.2.2.length≤maxLen
def dh(L:List aI):cV:=L.flatMap aI.cells
def recAt(L:List aI)(k:Nat):aI:=L.getD k (0,0,[],[])
theorem CO{L:List aI}{k:Nat}(hk:k<L.length){j:Nat}(hj:j<4):(dh L)[k*4+j]? =(aI.cells (recAt L k))[j]? :=by
 rw[dh,Bs (size:=4) (fun _=>rfl) L k j hj,recAt,bk,fm hk];rfl
theorem wi:type_of% @List.sum_append:= @List.sum_append
theorem ja:type_of% @List.map_append:= @List.map_append
def aI.w(x:aI):Nat:=16+x.2.2.1.length+x.2.2.2.length
def dU(L:List aI):Nat:=(L.map aI.w).sum
theorem aaI(L:List aI)(x:aI):dU (L++[x])=dU L+x.w:=by simp[dU]
theorem rJ{L:List aI}{k:Nat}(h:k<L.length):dU (L.take (k+1))=dU (L.take k)+(recAt L k).w:=by
 rw[ba h (0,0,[],[]),aaI];rfl
theorem qw(L:List aI)(k:Nat):dU (L.take k)≤dU L:=by
 have h:dU L=dU (L.take k)+dU (L.drop k):=by
  rw[dU,dU,dU,←wi,←ja,jJ]
 omega
theorem vh(x:aI):∀u∈x.cells,u.oneCell'=true:=by simp[aI.cells,Value.oneCell']
theorem lX{L:List aI}{k:Nat}(hk:k<L.length):∀(q:Nat) (u:Value),(aI.cells (recAt L k))[q]? =some u→(dh L)[k*4+q]? =some u:=fun q u h=>by
 have hq:q<4:=by
  have:=(zY.1 h).1;simpa[aI.cells]using this
 rw[CO hk hq];exact h
set_option maxRecDepth 20000 in
theorem agc(L:List aI)(hb:aK B w0 F 4 (.slice A L.length c) L.length (dh L))(hw:dU L<4611686018427387904)(hl:L.length<4611686018427387904):
  a_ B w0 81 [.slice A L.length c] F (fun r K=>r=ah (dU L)∧K=F):=by
 refine fw func81 24 [0] ?_;refine zI ?_;refine aE (fun zf zL zm=>∃(k:Nat),(k≤L.length)∧L.length-k=zm∧Sub zf [(3,ah (dU (L.take k))),(6,.slice A L.length c),(7,ah L.length),(8,ah k)]∧Wk zL (F)) _ ⟨0,bS _,rfl,bp,.refl _⟩ ?_;rintro _ _ _ ⟨k,hk,rfl,hs,hp⟩;refine aU hs hp ?_;clear hs hp;refine bz ?_;refine aj (fun h9=>?_) fun h9=>?_
 ·have hws:=rJ (L:=L) (k:=k) aa;have CE:=qw L (k+1);have pX:=vh (recAt L k);have hrw:(recAt L k).w=16+(recAt L k).2.2.1.length+(recAt L k).2.2.2.length:=rfl;refine bz ?_;refine ab (aC (i:=k) underlying24 ag rfl rfl rfl aa aA) rfl ?_;refine ab (di 4 ag rfl aA aa (aI.cells (recAt L k)) (lX aa) rfl) rfl ?_;refine bc fun g5=>?_;refine Kg ?_;refine ve [3,6,7,8] ?_;refine av ⟨_,aa,k+1,aa,rfl,bp,.skip (.refl _)⟩
 ·refine dc ?_;have B_:k=L.length:=by omega
  subst B_;exact⟨by rw[jS],rfl⟩
theorem abZ{x k:Nat}{pre:al}(h:aS x=pre++aS k)(hk:128≤k):aS x=(pre++[UInt8.ofNat (128+k%128)])++aS (k/128):=by
 rw[h,uX hk];simp
theorem abY{x k:Nat}{pre:al}(h:aS x=pre++aS k)(hk:k<128):aS x=pre++[UInt8.ofNat k]:=by
 rw[h,ox hk]
theorem ahg{x k:Nat}{pre:al}(h:aS x=pre++aS k)(hx:x<18446744073709551616):pre.length≤10:=by
 have h1:=dB List.length h;have h2:=aT hx;rw[aY]at h1;omega
theorem Mp{v:Nat}(hv:v<256)(l:al):bv l++[Value.int .u8 (v:Int)]=bv (l++[UInt8.ofNat v]):=by
 have:(UInt8.ofNat v).toNat=v:=by rw[oi];exact i_ hv
 simp[bv,this]
theorem atf(k:Nat):IntKind.u8.wrap (k:Int)=((k%256:Nat):Int):=by show(k:Int)%256=_;omega
theorem aqU(k:Nat):IntKind.u8.wrap ((BitVec.ofInt IntKind.u8.bits ((k%256:Nat):Int) ||| BitVec.ofInt IntKind.u8.bits 128).toNat:Int)=((128+k%128:Nat):Int):=by
 have h:=u8_or (k%256) 128 aa aa;rw[show((128:Nat):Int)=128 from rfl]at h;have e:=ad8 (k%256) aa;refine(Eq.trans h ?_);rw[e];omega
theorem atB(k:Nat):(k:Int).fdiv (2^min (7:Int).toNat IntKind.u64.bits)=((k/128:Nat):Int):=by
 have e:min (7:Int).toNat IntKind.u64.bits=7:=by decide
 rw[e,we _ aB];rfl
set_option maxRecDepth 20000 in
theorem iO(x:Nat)(hx:x<18446744073709551616):a_ B w0 63 [.int .u64 x] F (fun r L=>∃A c,r= .slice A (aS x).length c∧L= .own 5 1 A (aS x).length c (bv (aS x))::F):=by
 refine fw func63 19 [0] ?_;refine bz ?_;refine aZ 5 1 none ?_;refine bz ?_;refine aE (fun zf zL zm=>∃(k:Nat) (pre:al) (A3:bj) (c3:Nat),(k≤x∧aS x=pre++aS k)∧k=zm∧Sub zf [(0,.int .u64 k),(3,.slice A3 pre.length c3)]∧Wk zL (.own 5 1 A3 pre.length c3 (bv pre)::F)) _ ⟨x,[],none,0,⟨gi _,ak⟩,rfl,bp,ax rfl rfl (.refl _)⟩ ?_;rintro _ _ _ ⟨k,pre,A3,c3,⟨hk,he⟩,rfl,hs,hp⟩;refine aU hs hp ?_;clear hs hp;have mN:=ahg he hx;refine bK ?_;refine aj (fun h5=>?_) fun h5=>?_
 ·have hl:=(show(pre++[UInt8.ofNat (128+k%128)]).length=pre.length+1 by simp)
  refine bK ?_;refine ab (bm underlying60 underlying5 rfl (atf k)) rfl ?_;refine ab (tN rfl rfl (aqU k)) rfl ?_;refine dF cD rfl rfl rfl rfl rfl (fun _=>rfl) aV aa aa ?_;intro _ tG xl;rw[←hl];refine bG ?_;refine ab (dj rfl rfl aa (atB k)) rfl ?_;refine bA ?_;refine av ⟨_,aa,k/128,pre++[UInt8.ofNat (128+k%128)],tG,xl,⟨aa,abZ he aa⟩,rfl,bp,ax rfl (Mp aa pre) (.refl _)⟩
 ·have hl:=(show(pre++[UInt8.ofNat k]).length=pre.length+1 by simp)
  refine bB ?_;refine dF cD rfl rfl rfl rfl rfl (fun _=>rfl) aV aa aa ?_;intro _ tb uU;rw[←hl];refine b8 ?_;have Eb:=abY he aa;rw[Eb];refine aq (ax rfl (Mp aa pre) (.refl _)) ?_;refine aF ?_;exact⟨tb,uU,rfl,rfl⟩
theorem K8(s:al)(hs:s.length≤1099511627776):a_ B w0 143 [.string ⟨s.toArray⟩] F (fun r L=>∃A c,r= .slice A (fo s).length c∧L= .own 5 1 A (fo s).length c (bv (fo s))::F):=by
 have h:=fun w=>anM (⟨s.toArray⟩:ByteArray) (by simpa[ByteArray.size]using hs) w;exact dL.AD fun w _=>h w
theorem Ub{P:Prop}(h:P:=by(simpa using hc)):P:=h
theorem uf:type_of% @List.flatMap_append:= @List.flatMap_append
theorem Yn(w:World):
  Calls Tryz.prog 163 #[.slice none 0 0,ah 0] w fun e w'=>e= .returned (.slice none 0 0)∧w=w':=by
 go_enter func163,Tryz.ntmps163
 go_wp2
 go_ret
 exact⟨rfl,rfl⟩
def ajH(w:World)(e:Ending)(w':World):Prop:=∃v,e= .returned v∧w'.ownsRow w.heap.size 5 1 v 0 []
theorem aea{w:World}{base:Nat}{e:TypeId}{g cap:Nat}{cur:Array Value}(h:w.heap[g]? =some (.cells cur e (0,0)))(hb:base≤g)(hm:cap≤maxLen)(hc:cur.size=cap):
  w.ownsRow base e 1 (.slice (some ⟨g,0,none⟩) 0 cap) 0 []:=
 ⟨rfl,.inr ⟨g,cap,cur,rfl,hb,h,bS _,hm,Ub,ak⟩⟩
set_option maxRecDepth 100000 in
theorem acs(n:Nat)(h:0<n)(hn:n≤1099511627776)(w:World):
  Calls Tryz.prog 163 #[.slice none 0 0,ah n] w fun e w'=>ajH w e w'∧Below w.heap.size w w':=by
 obtain⟨i,hi,hz,hs,Ea⟩:=W8;have th:=Lib.run_append_nil_zeros (P:=Tryz.prog) w 27 3 27 5 i (.int .u8 0) .i64 .i64 underlying27 underlying3 hi hz n h aa aa (by rw[Ea];omega);have wN:=grownCap_ge w n 0 5;have hle:=grownCap_le_maxLen w n 0 5 Bj;generalize hG:grownCap w n 0 5=G at*;have h1:¬((n:Int)<0):=by omega
 have h2:(0:Int)<n:=by omega
 have HR:=jH th;have HG:=jH hG;clear th hG hi hz hs Ea
 go_enter func163,Tryz.ntmps163
 go_wp2_with (at_builtin;refine Lib.wpList_append_run _ rfl _ _ _ _ rfl _ _ rfl rfl _ _ HR.out ?_)
 go_ret
 refine⟨⟨_,rfl,aea (Ev _ _) (gi _) hle ?_⟩,((GX _ _).alloc (gi _) _).drew⟩;simp[size_zeroCells];omega
theorem alU(n:Nat)(hn:n≤1099511627776)(w:World):
  Calls Tryz.prog 163 #[.slice none 0 0,ah n] w fun e w'=>ajH w e w'∧Below w.heap.size w w':=by
 rcases wV n with h|h
 ·subst h;refine(Yn w).mono fun e w' ⟨h1,h2⟩=>?_;subst h2;exact⟨⟨_,h1,World.ownsRow_nil _ _ _ _⟩,GX _ _⟩
 ·exact acs n h hn w
abbrev eh:=List (Value×al)
def eh.Co(P:eh):cV:=P.map (·.1)
def eh.all(P:eh):al:=P.flatMap (·.2)
def eh.ok(P:eh)(w:World)(B:Nat):Prop:=∀x∈P,Rd w B 1 x.1 x.2.length (bv x.2)
theorem eh.vN(P:eh){k:Nat}{x:Value×al}(h:P[k]? =some x):eh.all (P.take (k+1))=eh.all (P.take k)++x.2:=by
 have hk:=(zY.1 h).1;have hx:=(zY.1 h).2;unfold eh.all;rw[List.take_succ_eq_append_getElem hk,uf,hx];simp
theorem eh.Bi(P:eh)(k:Nat):(eh.all (P.take k)).length≤(eh.all P).length:=by
 unfold eh.all
 conv=>rhs;rw[←jJ k P,uf]
 simp
theorem eh.at_{P:eh}{w:World}{B:Nat}{A:bj}{n:Nat}(hr:0<n→∃ad,A=some ad∧ad.block<B∧∀j u,P.Co[j]? =some u→w.cell? (ad.add j)=some u)(hP:P.ok w B)(hn:n=P.length){k:Nat}(hk:k<n):∃ad A' c' x,A=some ad∧ad.block<B∧P[k]? =some x∧w.cell? (ad.add k)=some (.slice A' x.2.length c')∧Rd w B 1 (.slice A' x.2.length c') x.2.length (bv x.2):=by
 obtain⟨ad,rfl,hb,hc⟩:=hr aa;have hx:P[k]? =some (P[k]'aa):=fm aa;have t_:=hP _ (List.mem_of_getElem? hx);have fy:=hc k (P[k]'aa).1 (by simp[eh.Co,hx]);obtain⟨A',c',hv,h4,h5,h6⟩:=t_;rw[hv]at fy;exact⟨ad,A',c',_,rfl,hb,hx,fy,A',c',rfl,h4,h5,h6⟩
set_option maxRecDepth 100000 in
set_option maxHeartbeats 800000 in
theorem MG{B n:Nat}{v:Value}{P:eh}(w:World)(hn:n=P.length)(h:Rd w B 1 v n P.Co)(hP:P.ok w B)(hB:B≤w.heap.size)(hlen:P.all.length≤1099511627776)(D9:P.length≤1099511627776):
  Calls Tryz.prog 93 #[v] w fun e w'=>∃v',e= .returned v'∧w'.ownsRow w.heap.size 5 1 v' P.all.length (bv P.all)∧Below w.heap.size w w':=by
 obtain⟨A,c,rfl,hc,hl,hr⟩:=h;rw[←hn]at D9;have Hr:=jH hr;have HP:=jH hP;have Hn:=jH hn;have Hl:=jH hlen;clear hr hP hn hlen hl
 go_enter func93,Tryz.ntmps93
 go_wp2
 go_loop [3,5,11] (fun z s i=>∃k m:Nat,k≤n∧i=ah k∧z=ah m∧m≤1099511627776∧Hid (m=(eh.all (P.take k)).length)) (fun _ _ i=>n-(intOf i).toNat)
 case atStart=>exact⟨0,0,bS _,rfl,rfl,bS _,by simp[Hid,eh.all]⟩
 case round=>
  obtain⟨k,m,hk,rfl,rfl,hm,HM⟩:=hrel;by_cases fN:k<n
  ·obtain⟨ad,A',c',x,rfl,hab,hx,fy,t_⟩:=eh.at_ Hr.out HP.out Hn.out fN;have e1:=eh.vN P hx;have e2:=eh.Bi P (k+1);have y':m+x.2.length=(eh.all (P.take (k+1))).length:=by rw[e1,aY,HM.out]
   have vE:m+x.2.length≤1099511627776:=by rw[y'];exact jc e2 Hl.out
   have HM2:=jH y';clear y' e1 e2 t_ hx
   go_wp2
   go_round
   case rel=>exact⟨k+1,m+x.2.length,aa,by go_num,by go_num,vE,HM2⟩
   case measure=>simp[intOf];omega
  ·have hkn:k=n:=by omega
   have y':m=P.all.length:=by rw[HM.out,hkn,Hn.out,jS]
   have HM2:=jH y';clear y' hkn
   go_wp2_with (go_at_call 163;refine(alU m aa _).mono ?_;rintro e w1 ⟨⟨v1,rfl,Ee⟩,qd⟩)
   have hwB:=qd.mono hB
   go_loopw [6,8,27] (fun o s i wr=>∃k:Nat,k≤n∧i=ah k∧wr.ownsRow w.heap.size 5 1 o (eh.all (P.take k)).length (bv (eh.all (P.take k)))∧Below w.heap.size w wr) (fun _ _ i _=>n-(intOf i).toNat)
   case atStart=>exact⟨0,bS _,rfl,by simpa[eh.all]using Ee,qd⟩
   case round=>
    obtain⟨k,hk,rfl,mo,hb⟩:=hrel;by_cases fN:k<n
    ·obtain⟨ad,A',c',x,rfl,hab,hx,acK,aqC⟩:=eh.at_ Hr.out HP.out Hn.out fN;have fy:=(hb.cell (p:=ad.add k) (by rw[rV];omega)).trans acK;have t_:=aqC.below (hb.mono hB);have e1:=jH (eh.vN P hx);have e2:=eh.Bi P (k+1);have e3:(eh.all (P.take k)).length+x.2.length≤1099511627776:=by
      rw[e1.out,aY]at e2;exact jc e2 Hl.out
     have iZ:=hb.size;clear e2 aqC acK hx
     go_wp2_with (at_builtin;refine TL WD rfl (.tmp 31) (.tmp 32) rfl rfl mo rfl t_ (qz _) hb (gi _) iZ aa aa ?_;intro v2 w2 Iu oL Nv)
     go_roundw
     case rel=>exact⟨k+1,aa,by go_num,by rw[e1.out,aY,gl];exact Iu,oL⟩
     case measure=>simp[intOf];omega
    ·have hkn:P.take k=P:=fA (by have:=Hn.out;omega);have HK:=jH hkn;clear hkn
     go_wp2
     go_ret
     rw[HK.out]at mo;exact⟨_,rfl,mo,hb⟩
theorem ajJ{B n:Nat}{v:Value}{P:eh}(w:World)(hn:n=P.length)(h:Rd w B 1 v n P.Co)(hP:P.ok w B)(hB:B≤w.heap.size)(hlen:P.all.length≤1099511627776)(D9:P.length≤1099511627776):
  Calls Tryz.prog 52 #[v] w fun e w'=>∃v',e= .returned v'∧w'.ownsRow w.heap.size 5 1 v' P.all.length (bv P.all)∧Below w.heap.size w w':=by
 have h':=h;obtain⟨A,c,rfl,hc,hl,hr⟩:=h;have Hn:=jH hn;clear hr hl hc hn
 go_enter func52,Tryz.ntmps52
 go_wp2_with (go_at_call 93;refine(MG _ Hn.out h' hP hB hlen D9).mono ?_;rintro e w1 ⟨v1,rfl,Ee,qd⟩)
 go_ret
 exact⟨_,rfl,Ee,qd⟩
theorem aou{P:Prop}(h:P:=by(intro y hy;simp only[fk,mv,oj]at hy;rcases hy with rfl|rfl|rfl<;>exact aA)):P:=h
theorem mv:type_of% @List.not_mem_nil:= @List.not_mem_nil
theorem oj:type_of% @or_false:= @or_false
theorem aiG{P:eh}{l:al}(hb:aK B w0 F 1 (.slice A n c) n P.Co)(hP:∀x∈P,aK B w0 F 1 x.1 x.2.length (bv x.2))(hn:n=P.length)(mJ:P.all=l)(hlen:l.length≤1099511627776)(D9:P.length≤1099511627776):
  a_ B w0 52 [.slice A n c] F (fun r L=>∃A' c',r= .slice A' l.length c'∧L= .own 5 1 A' l.length c' (bv l)::F):=by
 subst mJ;exact dL.AD fun w hw=>ajJ (B:=w.heap.size) w hn (hb w hw) (fun x hx=>hP x hx w hw) (gi _) hlen D9
def fO(b:Bool)(x:aI):al:=if b=true then aS x.1++[x.2.1] else []
def lM(b:Bool)(x:aI):al:=fO b x++fo x.2.2.1++fo x.2.2.2
def c_(b:Bool)(L:List aI):al:=L.flatMap (lM b)
theorem nf{s:al}(h:s.length≤100000000000):(fo s).length≤s.length+10:=by
 have:=aT (x:=s.length) aa;unfold fo;rw[aY];omega
theorem BN{b:Bool}{x:aI}(hx:x.1<18446744073709551616):(fO b x).length≤11:=by
 have:=aT hx;unfold fO;split
 ·simp;omega
 ·simp
theorem yJ{b:Bool}{x:aI}(hx:x.1<18446744073709551616)(hw:x.w≤100000000000):(lM b x).length≤2*x.w:=by
 have h:= @BN b x hx;unfold aI.w at hw⊢;have h1:=nf (s:=x.2.2.1) aa;have h2:=nf (s:=x.2.2.2) aa;unfold lM;rw[aY,aY];omega
theorem SK(b:Bool)(L:List aI)(x:aI):c_ b (L++[x])=c_ b L++lM b x:=by simp[c_]
theorem SM{b:Bool}{L:List aI}{k:Nat}(h:k<L.length):c_ b (L.take (k+1))=c_ b (L.take k)++lM b (recAt L k):=by
 rw[ba h (0,0,[],[]),SK];rfl
theorem Bc(x:aI)(L:List aI):dU (x::L)=x.w+dU L:=by simp[dU]
theorem EA:∀L:List aI,16*L.length≤dU L
 |[]=>by simp
 |x::L=>by
  have:=EA L;rw[Bc,ef];unfold aI.w;omega
theorem vi{b:Bool}:∀{L:List aI},(∀x∈L,x.1<18446744073709551616)→dU L≤100000000000→(c_ b L).length≤2*dU L
 |[],_,_=>by simp[c_]
 |x::L,hx,hw=>by
  rw[Bc]at hw⊢;have h1:=yJ (b:=b) (hx x ak) aa;have h2:=vi (b:=b) (fun y hy=>hx y vQ) (by omega:dU L≤100000000000);simp only[c_,jI,aY]at h2⊢;omega
theorem arv{L:List aI}{k:Nat}(h:k<L.length):(recAt L k).w≤dU L:=by
 have h1:=rJ h;have h2:=qw L (k+1);omega
theorem KQ{L:List aI}(h:∀x∈L,x.1<18446744073709551616){k:Nat}(hk:k<L.length):(recAt L k).1<18446744073709551616:=h _ (bg hk _)
theorem Wf(b:Bool)(x:aI)(hx:x.1<18446744073709551616)(hw:x.w≤100000000000):
  a_ B w0 82 [.bool b,.agg (aI.cells x).toArray] F (fun r L=>∃A' c',r= .slice A' (lM b x).length c'∧L= .own 5 1 A' (lM b x).length c' (bv (lM b x))::F):=by
 have jx:=aT hx;have hrl:= @BN b x hx;have hrb:=yJ (b:=b) hx hw;have GP:=hw;unfold aI.w at GP;have tC:=nf (s:=x.2.2.1) aa;have rO:=nf (s:=x.2.2.2) aa;refine fw func82 23 [0,1] ?_;refine be ?_;refine bh fun g3=>?_;refine b8 ?_;refine aZ 5 1 none ?_;refine b8 ?_;refine d_ (fun zf zL=>∃(A5:bj) (c5:Nat),Sub zf [(3,br g3),(5,.slice A5 (fO b x).length c5)]∧Wk zL (.own 5 1 A5 (fO b x).length c5 (bv (fO b x)):: .bE g3 62 (aI.cells x)::F)) ?_ ?_
 ·refine bG ?_;refine gZ (fun h6=>?_) fun h6=>?_
  ·have P3:fO b x=aS x.1++[x.2.1]:=ao h6;refine cF (.bE g3 62 (aI.cells x)::F) ?_;refine ae 0 ?_;refine ae 1 ?_;refine ae 3 ?_;refine ae 4 ?_;refine gS 2 5 ?_ ?_
   ·refine b7 rfl rfl (iO x.1 hx) fun A9 c9=>?_;refine az 5 ?_;refine cR rfl (aG cD [_] rfl rfl cw aa aa) fun PR=>?_;refine az 6 ?_;refine eV rfl (bT cD rfl aV rfl aA cw aa aa) fun xh F9=>?_;rw[show(aS x.1).length+1=(fO b x).length by rw[P3];simp];refine ae 7 ?_;refine aF ?_;exact bD ⟨xh,F9,bp,.skip (ax rfl (by rw[P3];simp[bv]) (.skip (.refl _)))⟩
   ·refine cR rfl (aG cD [_] rfl rfl cw aa aa) fun PR=>?_;refine az 2 ?_;refine b7 rfl rfl (iO x.1 hx) fun A9 c9=>?_;refine az 6 ?_;refine eV rfl (bT cD rfl aV rfl aA cw aa aa) fun xh F9=>?_;rw[show(aS x.1).length+1=(fO b x).length by rw[P3];simp];refine ae 7 ?_;refine aF ?_;exact bD ⟨xh,F9,bp,ax rfl (by rw[P3];simp[bv]) (.skip (.skip (.refl _)))⟩
  ·have P3:fO b x=[]:=aw (by simpa using h6);have hb0:(fO b x).length=0:=by rw[P3];rfl
   refine aF ?_;exact bD ⟨none,0,bp,ax (by rw[P3];rfl) (by rw[P3];rfl) (.refl _)⟩
 ·rintro _ _ ⟨A5,c5,hs,hp⟩;refine aU hs hp ?_;clear hs hp;refine aF ?_;refine cF (.own 5 1 A5 (fO b x).length c5 (bv (fO b x)):: .bE g3 62 (aI.cells x)::F) ?_;refine ae 0 ?_;refine ae 1 ?_;refine ae 2 ?_;refine ae 4 ?_;refine ae 5 ?_;refine az 3 ?_;refine b7 rfl rfl (K8 _ aa) fun TP c17=>?_;refine az 6 ?_;refine b7 rfl rfl (K8 _ aa) fun G' JL=>?_;refine az 7 ?_;refine cR rfl (aG fE [_,_,_] rfl rfl cw aa aa) fun A21=>?_;refine az 8 ?_;refine b7 rfl rfl (aiG (l:=lM b x) (P:=[(.slice A5 (fO b x).length c5,fO b x),(.slice TP (fo x.2.2.1).length c17,fo x.2.2.1),(.slice G' (fo x.2.2.2).length JL,fo x.2.2.2)]) aA aou rfl (by simp[eh.all,lM]) (by unfold aI.w at hrb;omega) ak) fun A22 c22=>?_;refine ae 9 ?_;refine bA ?_;refine aq (L':=.own 5 1 A22 (lM b x).length c22 (bv (lM b x))::F) (.cons (.skip (.skip (.skip (.skip (.skip (.refl _))))))) ?_;refine aF ?_;exact⟨A22,c22,rfl,rfl⟩
theorem I0(b:Bool)(L:List aI)(hb:aK B w0 F 4 (.slice A L.length c) L.length (dh L))(hx:∀x∈L,x.1<18446744073709551616)(hw:dU L≤100000000000):
  a_ B w0 45 [.bool b,.slice A L.length c] F (fun r K=>∃A' c',r= .slice A' (c_ b L).length c'∧K= .own 5 1 A' (c_ b L).length c' (bv (c_ b L))::F):=by
 have hlw:=EA L;refine fw func45 21 [0,1] ?_;refine bz ?_;refine aZ 5 1 none ?_;refine dc ?_;refine aE (fun zf zL zm=>∃(k:Nat) (A5:bj) (c5:Nat),(k≤L.length)∧L.length-k=zm∧Sub zf [(0,.bool b),(5,.slice A5 (c_ b (L.take k)).length c5),(8,.slice A L.length c),(9,ah L.length),(10,ah k)]∧Wk zL (.own 5 1 A5 (c_ b (L.take k)).length c5 (bv (c_ b (L.take k)))::F)) _ ⟨0,none,0,bS _,rfl,bp,ax rfl rfl (.refl _)⟩ ?_;rintro _ _ _ ⟨k,A5,c5,hk,rfl,hs,hp⟩;refine aU hs hp ?_;clear hs hp;refine bz ?_;refine aj (fun pn=>?_) fun pn=>?_
 ·have YN:=KQ hx (k:=k) aa;have YL:=arv (L:=L) (k:=k) aa;have hrb:=yJ (b:=b) YN aa;have hws:=vi (b:=b) (L:=L.take k) (fun x h=>hx x (l6 h)) (by have:=qw L k;omega);have CE:=qw L k;have pX:=vh (recAt L k);refine bz ?_;refine ab (aC (i:=k) (size:=4) underlying24 ag rfl rfl rfl aa aA) rfl ?_;refine ab (di 4 ag rfl aA aa (aI.cells (recAt L k)) (lX aa) rfl) rfl ?_;refine bc fun g7=>?_;refine bK ?_;refine ay rfl (Wf b _ YN aa) fun TP c17=>?_;refine fM (bT cD rfl aV rfl aA cw aa aa) fun tb uU=>?_;refine bI ?_;have e:c_ b (L.take (k+1))=c_ b (L.take k)++lM b (recAt L k):=SM aa;have el:(c_ b (L.take k)).length+(lM b (recAt L k)).length=(c_ b (L.take (k+1))).length:=by rw[e,aY]
  rw[el];refine av ⟨_,aa,k+1,tb,uU,aa,rfl,bp,.skip (.skip (ax rfl (by rw[e,gl]) (.refl _)))⟩
 ·refine cH ?_;have B_:k=L.length:=by omega
  subst B_;rw[jS];refine aF ?_;exact⟨A5,c5,rfl,rfl⟩
def zig(d:Nat):Nat:=if d<9223372036854775808 then 2*d else 2*(18446744073709551615-d)+1
def TN(z:Nat):Nat:=if z%2=1 then 18446744073709551615-z/2 else z/2
theorem TO{d:Nat}(h:d<18446744073709551616):zig d<18446744073709551616:=by unfold zig;split<;>omega
theorem ajG{d:Nat}(h:d<18446744073709551616):TN (zig d)=d:=by
 unfold zig;split
 ·unfold TN;rw[aw aa];omega
 ·unfold TN;rw[ao aa];omega
theorem PQ(a:Nat)(h:a<18446744073709551616):a ^^^ 18446744073709551615=18446744073709551615-a:=by
 have h1:(BitVec.ofNat 64 a ^^^ BitVec.allOnes 64).toNat=(~~~ (BitVec.ofNat 64 a)).toNat:=by rw[BitVec.xor_allOnes]
 rw[BitVec.toNat_xor,BitVec.toNat_not,BitVec.toNat_ofNat,BitVec.toNat_allOnes,i_ (show a<2^64 from h)]at h1;exact h1
theorem agk(x:Nat)(h:x<18446744073709551616):
  bits .xor .u64 (IntKind.u64.wrap ((x:Int)*2)) (IntKind.u64.wrap (-((x:Int)/9223372036854775808)))=((zig x:Nat):Int):=by
 unfold zig;by_cases hx:x<9223372036854775808
 ·rw[ao hx];have e1:IntKind.u64.wrap ((x:Int)*2)=((2*x:Nat):Int):=by show((x:Int)*2)%18446744073709551616=_;omega
  have e2:IntKind.u64.wrap (-((x:Int)/9223372036854775808))=((0:Nat):Int):=by show(-((x:Int)/9223372036854775808))%18446744073709551616=_;omega
  rw[e1,e2,u64_xor _ _ aa aa,Nat.xor_zero]
 ·rw[aw hx];have e1:IntKind.u64.wrap ((x:Int)*2)=((2*x-18446744073709551616:Nat):Int):=by show((x:Int)*2)%18446744073709551616=_;omega
  have e2:IntKind.u64.wrap (-((x:Int)/9223372036854775808))=((18446744073709551615:Nat):Int):=by show(-((x:Int)/9223372036854775808))%18446744073709551616=_;omega
  rw[e1,e2,u64_xor _ _ aa aa,PQ _ aa];omega
theorem agj(x:Nat)(h:x<18446744073709551616):
  bits .xor .u64 ((x:Int)/2) (IntKind.u64.wrap (-(bits .and .u64 (x:Int) 1)))=((TN x:Nat):Int):=by
 have ea:bits .and .u64 (x:Int) 1=((x%2:Nat):Int):=by
  have:=u64_and x 1 h aa;rw[Er]at this;exact this
 rw[ea];unfold TN;by_cases hx:x%2=1
 ·rw[ao hx,hx];have e2:IntKind.u64.wrap (-((1:Nat):Int))=((18446744073709551615:Nat):Int):=by decide+kernel
  rw[e2,show((x:Int)/2)=((x/2:Nat):Int) from by omega,u64_xor _ _ aa aa,PQ _ aa]
 ·rw[aw hx,show x%2=0 from by omega];have e2:IntKind.u64.wrap (-((0:Nat):Int))=((0:Nat):Int):=by decide+kernel
  rw[e2,show((x:Int)/2)=((x/2:Nat):Int) from by omega,u64_xor _ _ aa aa,Nat.xor_zero]
theorem zsh(x:Nat):IntKind.u64.wrap ((x:Int)*2^min (1:Int).toNat IntKind.u64.bits)=IntKind.u64.wrap ((x:Int)*2):=by
 have e:min (1:Int).toNat IntKind.u64.bits=1:=by decide
 rw[e];rfl
theorem zhi(x:Nat):(x:Int).fdiv (2^min (63:Int).toNat IntKind.u64.bits)=(x:Int)/9223372036854775808:=by
 have e:min (63:Int).toNat IntKind.u64.bits=63:=by decide
 rw[e,we _ aB];rfl
theorem zng(x:Nat):IntKind.u64.wrap (0-(x:Int)/9223372036854775808)=IntKind.u64.wrap (-((x:Int)/9223372036854775808)):=by rw[Int.zero_sub]
theorem atH(x:Nat)(hx:x<18446744073709551616):IntKind.u64.wrap ((BitVec.ofInt IntKind.u64.bits (IntKind.u64.wrap ((x:Int)*2)) ^^^ BitVec.ofInt IntKind.u64.bits (IntKind.u64.wrap (-((x:Int)/9223372036854775808)))).toNat:Int)=((zig x:Nat):Int):=agk x hx
set_option maxRecDepth 20000 in
theorem arA(x:Nat)(hx:x<18446744073709551616):a_ B w0 86 [.int .u64 x] F (fun r L=>r= .int .u64 (zig x)∧L=F):=by
 refine fw func86 9 [0] ?_;refine bI ?_;refine ab (ga rfl rfl aa (zsh x)) rfl ?_;refine aF ?_;refine ab (dj rfl rfl aa (zhi x)) rfl ?_;refine ab (UG rfl (zng x)) rfl ?_;refine ab (lD rfl rfl (atH x hx)) rfl ?_;refine bG ?_;exact⟨rfl,rfl⟩
theorem zsr(x:Nat):(x:Int).fdiv (2^min (1:Int).toNat IntKind.u64.bits)=(x:Int)/2:=by
 have e:min (1:Int).toNat IntKind.u64.bits=1:=by decide
 rw[e,we _ aB];rfl
theorem zan(x:Nat)(hx:x<18446744073709551616):IntKind.u64.wrap ((BitVec.ofInt IntKind.u64.bits (x:Int) &&& BitVec.ofInt IntKind.u64.bits 1).toNat:Int)=((x%2:Nat):Int):=by
 have:=u64_and x 1 hx aa;rw[Er]at this;exact this
theorem atG(x:Nat):IntKind.u64.wrap (0-((x%2:Nat):Int))=IntKind.u64.wrap (-((x%2:Nat):Int)):=by rw[Int.zero_sub]
theorem zax(x:Nat)(hx:x<18446744073709551616):IntKind.u64.wrap ((BitVec.ofInt IntKind.u64.bits ((x:Int)/2) ^^^ BitVec.ofInt IntKind.u64.bits (IntKind.u64.wrap (-((x%2:Nat):Int)))).toNat:Int)=((TN x:Nat):Int):=by
 have h:=agj x hx;have ea:bits .and .u64 (x:Int) 1=((x%2:Nat):Int):=zan x hx;rw[ea]at h;exact h
theorem arz(x:Nat)(hx:x<18446744073709551616):a_ B w0 295 [.int .u64 x] F (fun r L=>r= .int .u64 (TN x)∧L=F):=by
 refine fw func295 9 [0] ?_;refine bI ?_;refine ab (dj rfl rfl aa (zsr x)) rfl ?_;refine aF ?_;refine ab (jY rfl rfl (zan x hx)) rfl ?_;refine ab (UG rfl (atG x)) rfl ?_;refine ab (lD rfl rfl (zax x hx)) rfl ?_;refine bG ?_;exact⟨rfl,rfl⟩
def dlt(a b:Nat):Nat:=(a+(18446744073709551616-b))%18446744073709551616
theorem DG(a b:Nat):dlt a b<18446744073709551616:=sX _ aa
theorem abR{a b:Nat}(hb:b<18446744073709551616):IntKind.u64.wrap ((a:Int)-(b:Int))=((dlt a b:Nat):Int):=by
 show((a:Int)-b)%18446744073709551616=_;unfold dlt;omega
def qA:Nat→List aI→al
 |_,[]=>[]
 |was,x::L=>aS (zig (dlt x.1 was))++qA x.1 L
def ui(was:Nat)(L:List aI):Nat:=L.foldl (fun _ x=>x.1) was
theorem HO(x:aI):∀(L:List aI) (was:Nat),qA was (L++[x])=qA was L++aS (zig (dlt x.1 (ui was L)))
 |[],was=>by simp[qA,ui]
 |y::L,was=>by
  rw[nI,qA,qA,HO x L y.1,bV];rfl
theorem Ey(was:Nat)(L:List aI)(x:aI):ui was (L++[x])=x.1:=by simp[ui]
theorem XN{L:List aI}{k:Nat}(h:k<L.length):qA 0 (L.take (k+1))=qA 0 (L.take k)++aS (zig (dlt (recAt L k).1 (ui 0 (L.take k)))):=by
 rw[ba h (0,0,[],[]),HO];rfl
theorem R1{L:List aI}{k:Nat}(h:k<L.length):ui 0 (L.take (k+1))=(recAt L k).1:=by
 rw[ba h (0,0,[],[]),Ey];rfl
theorem adp{L:List aI}(hx:∀x∈L,x.1<18446744073709551616):ui 0 L<18446744073709551616:=by
 rcases List.eq_nil_or_concat L with rfl|⟨M,x,rfl⟩
 ·simp[ui]
 ·rw[List.concat_eq_append,Ey];exact hx x ak
theorem M6(a b:Nat):(aS (zig (dlt a b))).length≤10:=aT (TO (DG a b))
theorem Dr:∀(L:List aI) (was:Nat),(qA was L).length≤10*L.length
 |[],was=>by simp[qA]
 |x::L,was=>by
  have h1:=M6 x.1 was;have h2:=Dr L x.1;rw[qA,aY,ef];omega
def run(x:UInt8):al→Nat
 |[]=>0
 |y::l=>if y=x then run x l+1 else 0
theorem SO(x:UInt8):∀l,run x l≤l.length
 |[]=>gi _
 |y::l=>by
  have:=SO x l;unfold run;split<;>simp<;>omega
def ow:Option UInt8→al→al
 |_,[]=>[]
 |p,x::l=>if p=some x then ow (some x) l else x::(aS (1+run x l)++ow (some x) l)
theorem Dq(x:UInt8):∀l,ow (some x) l=ow none (l.drop (run x l))
 |[]=>rfl
 |y::l=>by
  unfold run;by_cases h:y=x
  ·subst h;rw[ao rfl,Ep,ow,ao rfl];exact Dq y l
  ·rw[aw h,tp,ow,ow,aw (by simpa using fun e=>h e.symm),aw ak]
theorem ME:∀(l:al) (p:Option UInt8),l.length≤1000000000→(ow p l).length≤11*l.length
 |[],p,_=>by cases p<;>simp[ow]
 |x::l,p,h=>by
  simp only[ef]at h;have h1:=ME l (some x) aa;have h2:=aT (x:=1+run x l) (by have:=SO x l;omega);rw[ow];split
  ·simp only[ef];omega
  ·simp only[ef,aY];omega
def lv(L:List aI):al:=L.map (·.2.1)
theorem rs(L:List aI):(lv L).length=L.length:=by simp[lv]
theorem EF(L:List aI)(k:Nat):(recAt L k).2.1=(lv L).getD k 0:=by
 unfold recAt lv;simp only[bk,jq];cases L[k]? <;>rfl
theorem ah9(L:List aI)(k:Nat):lv (L.drop k)=(lv L).drop k:=by simp[lv]
def ku(L:List aI):al:=qA 0 L++ow none (lv L)
theorem qV{L:List aI}(h:L.length≤1000000):(ku L).length≤21*L.length:=by
 have h1:=Dr L 0;have h2:=ME (lv L) none (by rw[rs];omega);rw[rs]at h2;rw[ku,aY];omega
theorem vk:∀(L:List aI) (k:Nat),(dh L).drop (k*4)=dh (L.drop k)
 |L,0=>by simp
 |[],k+1=>by simp[dh]
 |x::L,k+1=>by
  have h:=vk L k;rw[Ep,←h];simp only[dh,jI];rw[j8,sT (k*4) 4,←qh];rfl
theorem XM{l:al}(h:0<l.length):ow none l=(l.getD 0 0)::(aS (1+run (l.getD 0 0) (l.drop 1))++ow none (l.drop (1+run (l.getD 0 0) (l.drop 1)))):=by
 match l,h with
 |x::l,_=>
  rw[ow,aw ak,Dq];simp only[List.getD_cons_zero,Ep,tp];rw[sT 1,Ep]
theorem O1{x:UInt8}{l:al}{k:Nat}(h:k<l.length):run x (l.drop k)=if l.getD k 0=x then run x (l.drop (k+1))+1 else 0:=by
 rw[dx h 0,run]
theorem XS(L:List aI)(hb:aK B w0 F 4 (.slice A L.length c) L.length (dh L))(hx:∀x∈L,x.1<18446744073709551616)(hl:L.length≤1000000):
  a_ B w0 47 [.slice A L.length c] F (fun r K=>∃A' c',r= .slice A' (ku L).length c'∧K= .own 5 1 A' (ku L).length c' (bv (ku L))::F):=by
 have Yy:=qV hl;refine fw func47 61 [0] ?_;refine bz ?_;refine aZ 5 1 none ?_;refine tS ?_;refine aE (fun zf zL zm=>∃(k:Nat) (A3:bj) (c3:Nat),(k≤L.length)∧L.length-k=zm∧Sub zf [(0,.slice A L.length c),(3,.slice A3 (qA 0 (L.take k)).length c3),(4,.int .u64 (ui 0 (L.take k))),(8,.slice A L.length c),(9,ah L.length),(10,ah k)]∧Wk zL (.own 5 1 A3 (qA 0 (L.take k)).length c3 (bv (qA 0 (L.take k)))::F)) _ ⟨0,none,0,bS _,rfl,bp,ax rfl rfl (.refl _)⟩ ?_;rintro _ _ _ ⟨k,A3,c3,hk,rfl,hs,hp⟩;refine aU hs hp ?_;clear hs hp;refine bz ?_;refine aj (fun pn=>?_) fun pn=>?_
 ·have YN:=KQ hx (k:=k) aa;have fN:=adp (L:=L.take k) (fun x h=>hx x (l6 h));have tB:=Dr (L.take k) 0;have Ce:=List.length_take_le k L;have pX:=vh (recAt L k);have e:=XN (L:=L) (k:=k) aa;have e2:=R1 (L:=L) (k:=k) aa;have Eb:=M6 (recAt L k).1 (ui 0 (L.take k));have el:(qA 0 (L.take k)).length+(aS (zig (dlt (recAt L k).1 (ui 0 (L.take k))))).length=(qA 0 (L.take (k+1))).length:=by rw[e,aY]
  refine bz ?_;refine ab (aC (i:=k) (size:=4) underlying24 ag rfl rfl rfl aa aA) rfl ?_;refine ab (di 4 ag rfl aA aa (aI.cells (recAt L k)) (lX aa) rfl) rfl ?_;refine bc fun g6=>?_;refine bO ?_;refine ab (dw rfl rfl (abR fN)) rfl ?_;refine ai rfl (arA _ (DG _ _)) ?_;refine ay rfl (iO _ (TO (DG _ _))) fun G' JL=>?_;refine fM (bT cD rfl aV rfl aA cw aa aa) fun A21 c21=>?_;refine dc ?_;refine ve [0,3,4,8,9,10] ?_;rw[el];refine av ⟨_,aa,k+1,A21,c21,aa,rfl,bp,.skip (.skip (ax rfl (by rw[e,gl]) (.refl _)))⟩
 ·refine bK ?_;refine aE (fun zf zL zm=>∃(M:List aI) (m:Nat) (A0:bj) (c0:Nat) (pre:al) (A4:bj) (c4:Nat),(m=M.length∧m≤L.length∧aK B w0 F 4 (.slice A0 m c0) m (dh M)∧ku L=pre++ow none (lv M))∧m=zm∧Sub zf [(0,.slice A0 m c0),(3,.slice A4 pre.length c4)]∧Wk zL (.own 5 1 A4 pre.length c4 (bv pre)::F)) _ ⟨L,L.length,A,c,qA 0 (L.take k),A3,c3,⟨rfl,gi _,hb,by rw[fA aa];rfl⟩,rfl,bp,.refl _⟩ ?_;rintro _ _ _ ⟨M,m,A0,c0,pre,A4,c4,⟨hm,y',P5,Ef⟩,rfl,hs,hp⟩;refine aU hs hp ?_;clear hs hp;have mN:pre.length≤(ku L).length:=by rw[Ef,aY];omega
  have hlv:(lv M).length=m:=by rw[rs,hm]
  refine bI ?_;refine aj (fun kg=>?_) fun kg=>?_
  ·refine bB ?_;refine aE (fun zf zL zm=>∃(i:Nat),(1≤i∧i≤m∧run ((lv M).getD 0 0) ((lv M).drop 1)=(i-1)+run ((lv M).getD 0 0) ((lv M).drop i))∧m-i=zm∧Sub zf [(0,.slice A0 m c0),(3,.slice A4 pre.length c4),(7,ah i)]∧Wk zL (.own 5 1 A4 pre.length c4 (bv pre)::F)) _ ⟨1,⟨gi _,aa,aa⟩,rfl,bp,.refl _⟩ ?_;rintro _ _ _ ⟨i,⟨hi1,him,th⟩,rfl,hs,hp⟩;refine aU hs hp ?_;clear hs hp;refine bA ?_;refine Cy 16 43 [0,3,7] ((i:Int)<m∧((recAt M i).2.1.toNat:Int)=(recAt M 0).2.1.toNat) ?_ ?_
   ·refine bG ?_;refine nk rfl rfl rfl (fun Bv=>?_) (fun Bv=>?_)
    ·refine bz ?_;refine bZ (fS underlying62 rfl ag rfl aA aa rfl) rfl ?_;refine aF ?_;refine bZ (jO ag rfl aA aa ((CO aa aB).trans rfl)) rfl ?_;refine bA ?_;refine bZ (aC (i:=0) (size:=4) underlying24 ag rfl rfl rfl aa aA) rfl ?_;refine aF ?_;refine bZ (fS underlying62 rfl ag rfl aA aa rfl) rfl ?_;refine aF ?_;refine bZ (jO ag rfl aA aa ((CO aa aB).trans rfl)) rfl ?_;refine bA ?_;exact qC b_8
    ·refine bB ?_;exact qC b_8
   ·refine be ?_;refine aj (fun Rf=>?_) fun Rf=>?_
    ·have hq:(lv M).getD i 0=(lv M).getD 0 0:=by rw[←EF,←EF];exact qf.1 aa
     have hs:=O1 (x:=(lv M).getD 0 0) (l:=lv M) (k:=i) aa;rw[ao hq]at hs;refine bO ?_;refine av ⟨_,aa,i+1,⟨aa,aa,aa⟩,rfl,bp,.refl _⟩
    ·have hz:run ((lv M).getD 0 0) ((lv M).drop i)=0:=by
      by_cases hi:i<m
      ·rw[O1 aa,aw (fun hq=>Rf ⟨aa,by rw[EF,EF,hq]⟩)]
      ·rw[mu aa];rfl
     have hch:=XM (l:=lv M) aa;rw[th,hz,show 1+(i-1+0)=i by omega,←ah9]at hch;have hni:=aT (x:=i) aa;have asJ:=EF M 0;have hcut:=P5.cut (k:=i) aa;rw[vk]at hcut;refine bO ?_;refine ab (aC (i:=0) (size:=4) underlying24 ag rfl rfl rfl aa aA) rfl ?_;refine ab (fS underlying62 rfl ag rfl aA aa rfl) rfl ?_;refine ab (jO ag rfl aA aa ((CO aa aB).trans rfl)) rfl ?_;refine dF cD rfl rfl rfl rfl rfl (fun _=>rfl) aV aa aa ?_;intro _ A52 c52;refine be ?_;refine ay rfl (iO i aa) fun A55 c55=>?_;refine fM (bT cD rfl aV rfl aA cw aa aa) fun A56 c56=>?_;refine bz ?_;refine ab (bQ (i:=i) (size:=4) underlying24 ag rfl rfl rfl aa) rfl ?_;refine aF ?_;refine ve [0,3] ?_;refine aF ?_;have el:pre.length+1+(aS i).length=(pre++((lv M).getD 0 0::aS i)).length:=by simp;omega
     rw[el];refine av ⟨_,aa,M.drop i,m-i,_,_,pre++((lv M).getD 0 0::aS i),A56,c56,⟨by rw[iG,hm],aa,hcut,by rw[Ef,hch];simp⟩,rfl,bp,.skip (ax rfl (by simp[bv,asJ]) (.refl _))⟩
  ·refine cH ?_;have hM:M=[]:=mr aa;subst hM;have asu:ku L=pre:=by rw[Ef];simp[lv,ow]
   rw[asu];refine aF ?_;exact⟨A4,c4,rfl,rfl⟩
theorem aeO{l l2:al}(h1:aK B w0 F 1 (.slice A n c) n (bv l))(h2:aK B w0 F 1 (.slice A2 n2 c2) n2 (bv l2)):
  a_ B w0 11 [.slice A n c,.slice A2 n2 c2] F (fun r L=>r= .bool (decide (l=l2))∧L=F):=by
 refine fw func11 10 [0,1] ?_;refine bI ?_;refine ab (pe underlying27 underlying5 underlying9 rfl aA) rfl ?_;refine aF ?_;refine ab (pe underlying27 underlying5 underlying9 rfl aA) rfl ?_;refine bz ?_;exact⟨rfl,rfl⟩
theorem b_1{P:Prop}(h:P:=by(first|rfl|exact ej (by first|exact .inl (by omega)|exact .inr (.inl jx)|exact⟨fun h=>.inr (.inr (by omega)),fun h=>by rcases h with h|h|h<;>first|omega|exact absurd h jx⟩)|exact eU (by first|exact .inl (by omega)|exact .inr (.inl jx)|exact⟨fun h=>.inr (.inr (by omega)),fun h=>by rcases h with h|h|h<;>first|omega|exact absurd h jx⟩)|exact dN (by first|exact .inl (by omega)|exact .inr (.inl jx)|exact⟨fun h=>.inr (.inr (by omega)),fun h=>by rcases h with h|h|h<;>first|omega|exact absurd h jx⟩)|exact oE (by first|exact .inl (by omega)|exact .inr (.inl jx)|exact⟨fun h=>.inr (.inr (by omega)),fun h=>by rcases h with h|h|h<;>first|omega|exact absurd h jx⟩))):P:=h
def uq(x:aI):Prop:=4000<x.2.2.1.length∨4000<x.2.2.2.length
instance (x:aI):Decidable (uq x):=inferInstanceAs (Decidable (_∨_))
theorem amL(x:aI):a_ B w0 80 [.agg (aI.cells x).toArray] F (fun r L=>r= .bool (decide (uq x))∧L=F):=by
 refine fw func80 13 [0] ?_;refine be ?_;refine bh fun g1=>?_;refine bG ?_;refine bU 10 12 [] ((4000:Int)<(x.2.2.1.length:Int)∨(4000:Int)<(x.2.2.2.length:Int)) ?_ ?_
 ·refine bG ?_;refine aL rfl rfl rfl (fun h7=>?_) (fun h7=>?_)
  ·refine bI ?_;exact aP b_8
  ·refine b8 ?_;exact aP b_8
 ·refine b8 ?_;refine aq (L':=F) (.skip (.refl _)) ?_;refine aF ?_;exact⟨by rw[sc.2 (show((4000:Int)<(x.2.2.1.length:Int)∨(4000:Int)<(x.2.2.2.length:Int))↔uq x by unfold uq;omega)],rfl⟩
theorem ahQ(L:List aI)(hb:aK B w0 F 4 (.slice A L.length c) L.length (dh L))(hl:L.length≤1000000):
  a_ B w0 142 [.slice A L.length c,.func (.func 80) #[] #[]] F (fun r K=>∃v:Int,r=ah v∧K=F∧(0≤v↔∃x∈L,uq x)):=by
 refine fw func142 19 [0,1] ?_;refine dQ ?_;refine aE (fun zf zL zm=>∃(k:Nat),(k≤L.length∧∀i,i<k→¬uq (recAt L i))∧L.length-k=zm∧Sub zf [(0,.slice A L.length c),(1,.func (.func 80) #[] #[]),(7,ah L.length),(8,ah k)]∧Wk zL (F)) _ ⟨0,⟨bS _,fun i h=>absurd h aa⟩,rfl,bp,.refl _⟩ ?_;rintro _ _ _ ⟨k,⟨hk,ND⟩,rfl,hs,hp⟩;refine aU hs hp ?_;clear hs hp;refine bz ?_;refine aj (fun h9=>?_) fun h9=>?_
 ·refine jk ?_;refine ab (aC (i:=k) (size:=4) underlying24 ag rfl rfl rfl aa aA) rfl ?_;refine ab (di 4 ag rfl aA aa (aI.cells (recAt L k)) (lX aa) rfl) rfl ?_;refine uN arU rfl rfl (amL (recAt L k)) rfl ?_;rintro _ _ ⟨rfl,cA⟩;obtain rfl:=cA.symm;refine be ?_;refine aj (fun ki=>?_) fun ki=>?_
  ·refine dc ?_;exact⟨_,rfl,rfl,by constructor;exact fun _=>⟨_,bg (show k<L.length by omega) (0,0,[],[]),ki⟩;exact fun _=>aa⟩
  ·refine bK ?_;refine av ⟨_,aa,k+1,⟨aa,fun i h=>by rcases Nat.lt_succ_iff_lt_or_eq.1 h with h|h;exact ND i h;exact h▸ki⟩,rfl,bp,.refl _⟩
 ·refine cH ?_;refine⟨_,rfl,rfl,fun h=>absurd h aa,fun⟨x,hx,hlx⟩=>?_⟩;obtain⟨i,hi,rfl⟩:=j0 hx;have:=ND i aa;unfold recAt at this;rw[bk,fm hi]at this;exact absurd hlx this
theorem QN(L:List aI)(hb:aK B w0 F 4 (.slice A L.length c) L.length (dh L))(hl:L.length≤1000000):
  a_ B w0 79 [.slice A L.length c,.func (.func 80) #[] #[]] F (fun r K=>r= .bool (decide (∃x∈L,uq x))∧K=F):=by
 refine fw func79 9 [0,1] ?_;refine bO ?_;refine aX ao4 rfl (ahQ L hb hl) rfl ?_;rintro _ _ ⟨v,rfl,cA,hv⟩;obtain rfl:=cA.symm;refine bz ?_;exact⟨by rw[sc.2 hv],rfl⟩
def cP(L:List aI):Int:=if 20000<L.length∨(∃x∈L,uq x)∨1048576<dU L then 6 else 0
theorem F4:∀{L:List aI},(¬∃x∈L,uq x)→dU L≤8016*L.length
 |[],_=>by simp[dU]
 |x::L,h=>by
  have h1:=F4 (L:=L) fun⟨y,hy,hl⟩=>h ⟨y,vQ,hl⟩;have h2:¬uq x:=fun hl=>h ⟨x,ak,hl⟩;unfold uq at h2;rw[Bc,ef];unfold aI.w;omega
theorem oP(L:List aI)(hb:aK B w0 F 4 (.slice A L.length c) L.length (dh L)):
  a_ B w0 42 [.slice A L.length c] F (fun r K=>r=ah (cP L)∧K=F):=by
 refine fw func42 15 [0] ?_;refine bI ?_;refine bU 12 14 [] (20000<L.length∨(∃x∈L,uq x)∨1048576<dU L) ?_ ?_
 ·refine b8 ?_;refine aL rfl rfl rfl (fun h6=>?_) (fun h6=>?_)
  ·refine be ?_;refine ai rfl (QN L hb aa) ?_;refine be ?_;refine aL rfl rfl rfl (fun jx=>?_) (fun jx=>?_)
   ·refine be ?_;refine ai rfl (agc L hb (by have:=F4 jx;omega) aa) ?_;refine bA ?_;exact aP b_1
   ·refine bA ?_;exact aP b_1
  ·refine bK ?_;exact aP b_1
 ·refine be ?_;refine aj (fun jZ=>?_) fun jZ=>?_
  ·refine bI ?_;exact⟨by rw[cP,ao jZ],rfl⟩
  ·refine bO ?_;exact⟨by rw[cP,aw jZ],rfl⟩
def bx(l:bf):cV:=l.map fun(n:Nat)=>Value.int .i64 (n:Int)
@[simp] theorem akw(l k:bf):bx (l++k)=bx l++bx k:=by simp[bx]
@[simp] theorem akx(l:bf):(bx l).length=l.length:=by simp[bx]
theorem adP(l:bf):∀u∈bx l,u.oneCell'=true:=by
 intro u hu;obtain⟨b,_,rfl⟩:=pQ.1 hu;rfl
theorem fB{l:bf}{k:Nat}(h:k<l.length):(bx l)[k*1]? =some (ah (l.getD k 0:Nat)):=by
 simp[bx,List.getD,fm h]
theorem oV{P:Prop}(h:P:=by(exact dN (by first|omega|simp_all))):P:=h
theorem vA{P:Prop}(h:P:=by(exact ej (by first|omega|simp_all))):P:=h
theorem sL{P:Prop}(h:P:=by(simp[bx])):P:=h
theorem BI:type_of% @List.drop_length:= @List.drop_length
def tf(S:Nat):Nat→Nat→bf→bf
 |rL,_,[]=>[rL]
 |rL,hv,n::l=>if hv+n≤S then tf S (rL+1) (hv+n) l else rL::tf S 1 n l
def jw(S:Nat):bf→bf
 |[]=>[]
 |n::l=>tf S 1 n l
def lens(b:Bool)(L:List aI):bf:=L.map fun x=>(lM b x).length
theorem et(b:Bool)(L:List aI):(lens b L).length=L.length:=by simp[lens]
theorem Y_{b:Bool}{L:List aI}{k:Nat}(h:k<L.length):(lens b L).drop k=(lM b (recAt L k)).length::(lens b L).drop (k+1):=by
 rw[dx (l:=lens b L) (by rw[et];exact h) 0];congr 1;unfold recAt lens;simp only[bk,jq,fm h];rfl
theorem aht{S rL hv n:Nat}{l:bf}(h:hv+n≤S):tf S rL hv (n::l)=tf S (rL+1) (hv+n) l:=by rw[tf,ao h]
theorem acu{S rL hv n:Nat}{l:bf}(h:¬hv+n≤S):tf S rL hv (n::l)=rL::jw S (n::l):=by rw[tf,aw h];rfl
theorem dL.forget{P:Program}{B:Nat}{w0:World}{f:FuncId}{args:cV}{F:aQ}{n:Nat}{xs:cV}{e:TypeId}(h:dL P B w0 f args F (fun r L=>∃A' c',r= .slice A' n c'∧L= .own e 1 A' n c' xs::F)):dL P B w0 f args F (fun r L=>∃A' c',r= .slice A' n c'∧L=F):=fun w hw=>
 (h w hw).mono fun e w' ⟨v,L',he,⟨A',c',hr,hL⟩,hs⟩=>by subst hL;exact⟨v,F,he,⟨A',c',hr,rfl⟩,hs.tail⟩
theorem acr(size:Int)(b:Bool)(L:List aI)(hb:aK B w0 F 4 (.slice A L.length c) L.length (dh L))(hx:∀x∈L,x.1<18446744073709551616)(hw:dU L≤1000000000)(S:Nat)(hS:(S:Int)=max 1 size)(hS2:S≤9223372036854775807):
  a_ B w0 43 [ah size,.bool b,.slice A L.length c] F (fun r K=>∃A' c',r= .slice A' (jw S (lens b L)).length c'∧K= .own 3 1 A' (jw S (lens b L)).length c' (bx (jw S (lens b L)))::F):=by
 have hlw:=EA L;have wR:=et b L;refine fw func43 49 [0,1,2] ?_;refine bz ?_;refine aZ 3 1 none ?_;refine tS ?_;refine aE (fun zf zL zm=>∃(k:Nat) (o:bf) (hv:Nat) (A7:bj) (c7:Nat),(k≤L.length∧hv≤2*dU (L.take k)∧o.length≤k∧((k=0∧o=[])∨(∃op rL,o=op++[rL]∧rL≤k∧jw S (lens b L)=op++tf S rL hv ((lens b L).drop k))))∧L.length-k=zm∧Sub zf [(0,ah size),(1,.bool b),(7,.slice A7 o.length c7),(8,ah hv),(12,.slice A L.length c),(13,ah L.length),(14,ah k)]∧Wk zL (.own 3 1 A7 o.length c7 (bx o)::F)) _ ⟨0,[],0,none,0,⟨bS _,bS _,gi _,.inl ⟨rfl,rfl⟩⟩,rfl,bp,ax rfl rfl (.refl _)⟩ ?_;rintro _ _ _ ⟨k,o,hv,A7,c7,⟨hk,hhv,Kl,hG⟩,rfl,hs,hp⟩;refine aU hs hp ?_;clear hs hp;refine bz ?_;refine aj (fun kL=>?_) fun kL=>?_
 ·have YN:=KQ hx (k:=k) aa;have YL:=arv (L:=L) (k:=k) aa;have hrb:=yJ (b:=b) YN aa;have hwt:=rJ (L:=L) (k:=k) aa;have CE:=qw L (k+1);have pX:=vh (recAt L k);have Ge:=Y_ (b:=b) (L:=L) (k:=k) aa;obtain⟨q,hq⟩:=cK ((lM b (recAt L k)).length);rw[←hq]at hrb Ge;refine bz ?_;refine ab (aC (i:=k) (size:=4) underlying24 ag rfl rfl rfl aa aA) rfl ?_;refine ab (di 4 ag rfl aA aa (aI.cells (recAt L k)) (lX aa) rfl) rfl ?_;refine bc fun g10=>?_;refine bK ?_;refine ay rfl ((Wf b _ YN aa).forget) fun G' JL=>?_;refine aF ?_;rw[←hq];refine bA ?_;refine d_ (fun zf zL=>∃(op:bf) (rL Vn:Nat) (A8:bj) (c8:Nat),(Vn+q≤2*dU (L.take (k+1))∧rL≤k∧op.length≤k∧jw S (lens b L)=op++tf S (rL+1) (Vn+q) ((lens b L).drop (k+1)))∧Sub zf [(0,ah size),(1,.bool b),(7,.slice A8 (op.length+1) c8),(8,ah Vn),(11,ah q),(12,.slice A L.length c),(13,ah L.length),(14,ah k)]∧Wk zL (.own 3 1 A8 (op.length+1) c8 (bx op++[ah rL])::F)) ?_ ?_
  ·refine be ?_;refine bU 11 32 [0,1,7,8,11,12,13,14] ((o.length:Int)=0∨max 1 size<(hv:Int)+q) ?_ ?_
   ·refine b8 ?_;refine aL rfl rfl rfl (fun vV=>?_) (fun vV=>?_)
    ·refine bI ?_;refine ab (JW rfl rfl) rfl ?_;refine bA ?_;exact aP oV
    ·refine bz ?_;exact aP vA
   ·refine be ?_;refine aj (fun Bv=>?_) fun Bv=>?_
    ·refine bA ?_;refine dF fJ rfl rfl rfl rfl rfl (fun _=>rfl) aV aa aa ?_;intro _ Lq c35;refine bz ?_;have hG2:jw S (lens b L)=o++tf S (0+1) (0+q) ((lens b L).drop (k+1)):=by
      rcases hG with⟨h1,h2⟩|⟨op,rL,h1,h2,h3⟩
      ·subst h1;subst h2;have:lens b L=q::(lens b L).drop 1:=by rw[←Ge];rfl
       conv=>lhs;rw[this]
       simp[jw]
      ·rw[h3,Ge,acu (by(have:o.length≠0:=(by simp[h1]);omega)),h1];simp[jw]
     exact bD ⟨o,0,0,Lq,c35,⟨aa,bS _,Kl,hG2⟩,bp,.skip (.refl _)⟩
    ·obtain⟨op,rL,ho,acM,hG3⟩:∃op rL,o=op++[rL]∧rL≤k∧jw S (lens b L)=op++tf S rL hv ((lens b L).drop k):=by
      rcases hG with⟨h1,h2⟩|h
      ·subst h2;exact absurd (Or.inl rfl) Bv
      ·exact h
     rw[Ge,aht aa]at hG3;have aqy:o.length=op.length+1:=by rw[ho];simp
     refine aF ?_;exact bD ⟨op,rL,hv,A7,c7,⟨aa,acM,aa,hG3⟩,bp,.skip (ax aqy (by subst ho;simp[bx]) (.refl _))⟩
  ·rintro _ _ ⟨op,rL,Vn,A8,c8,⟨hh2,hcn,hop,hGG⟩,hs,hp⟩;refine aU hs hp ?_;clear hs hp;refine bG ?_;refine ab (dw rfl rfl (r:=(op.length:Int)) ((bF aa aa).trans aa)) rfl ?_;refine ab (aC (i:=op.length) (size:=1) underlying53 ag rfl rfl rfl aa aA) rfl ?_;refine ab (au (v:=ah rL) ag rfl aA aa sL) rfl ?_;refine aF ?_;refine ab (aC (i:=op.length) (size:=1) underlying53 ag rfl rfl rfl aa aA) rfl ?_;refine jk ?_;have el:op.length+1=(op++[rL+1]).length:=by simp
   rw[el];refine av ⟨_,aa,k+1,op++[rL+1],Vn+q,A8,c8,⟨aa,aa,bR,.inr ⟨op,rL+1,rfl,aa,hGG⟩⟩,rfl,bp,ax rfl (by rw[cE,KX _ _ _ _ ak];simp[bx]) (.refl _)⟩
 ·refine cH ?_;have B_:k=L.length:=by omega
  have hoG:o=jw S (lens b L):=by
   rcases hG with⟨h1,h2⟩|⟨op,rL,h1,h2,h3⟩
   ·have:lens b L=[]:=mr aa;rw[this,h2];rfl
   ·rw[h3,mu aa,h1];rfl
  rw[←hoG];refine aF ?_;exact⟨A7,c7,rfl,rfl⟩
def CX(S:Nat):bf→bf→Prop
 |l,[]=>l=[]
 |l,n::g=>1≤n∧n≤l.length∧((l.take n).sum≤S∨n=1)∧(n<l.length→S<(l.take n).sum+l.getD n 0)∧CX S (l.drop n) g
theorem DY(S:Nat):∀(l p:bf) (hv:Nat),1≤p.length→hv=p.sum→(hv≤S∨p.length=1)→CX S (p++l) (tf S p.length hv l)
 |[],p,hv,h1,h2,h3=>by
  rw[tf,gj];exact⟨h1,gi _,by rw[jS,←h2];exact h3,fun h=>absurd h (Nat.lt_irrefl _),by rw[BI];rfl⟩
 |n::l,p,hv,h1,h2,h3=>by
  rw[tf];split
  ·rename_i h;have:=DY S l (p++[n]) (hv+n) ak (by rw[wi,h2];simp) (.inl h);rw[aY,qe,bV]at this;exact this
  ·rename_i h;refine⟨h1,ak,by rw[yk,←h2];exact h3,fun _=>?_,?_⟩
   ·rw[yk,←h2];simp[List.getD];omega
   ·rw[BH];exact DY S l [n] n ak ak (.inr rfl)
theorem ky(S:Nat):∀l,CX S l (jw S l)
 |[]=>rfl
 |n::l=>DY S l [n] n ak ak (.inr rfl)
theorem Kf(S:Nat):∀(l:bf) (rL hv:Nat),(tf S rL hv l).length≤l.length+1
 |[],_,_=>by simp[tf]
 |n::l,rL,hv=>by
  rw[tf];split
  ·have:=Kf S l (rL+1) (hv+n);simp;omega
  ·have:=Kf S l 1 n;simp;omega
theorem mZ(S:Nat):∀l,(jw S l).length≤l.length
 |[]=>by simp[jw]
 |n::l=>by have:=Kf S l 1 n;simp[jw];omega
theorem Fa(b:Bool):∀L,(c_ b L).length=(lens b L).sum
 |[]=>rfl
 |x::L=>by
  have h:=Fa b L;unfold c_ lens at h⊢;rw[jI,aY,h];simp
theorem Jn:∀(L:List aI) (k:Nat),dU (L.drop k)≤dU L:=fun L k=>by
 have h:dU L=dU (L.take k)+dU (L.drop k):=by
  rw[dU,dU,dU,←wi,←ja,jJ]
 omega
theorem AS:∀(L:List aI) (k:Nat),(dh L).take (k*4)=dh (L.take k)
 |L,0=>by simp[dh]
 |[],k+1=>by simp[dh]
 |x::L,k+1=>by
  have h:=AS L k;rw[rh];simp only[dh,jI]at h⊢;rw[←h,j8,sT (k*4) 4,N8,fA (by simp[aI.cells])];simp[aI.cells]
def I'(b:Bool)(s:Cs):Cs:=if b=true then s.l7.eJ else s
def dZ(b:Bool)(s:Cs):aI×Cs:=
 ((if b=true then s.num else 0,if b=true then s.l7.byte else 0,(I' b s).text 4000,((I' b s).ey 4000).text 4000),((I' b s).ey 4000).ey 4000)
def ot(b:Bool):Nat→Cs→List aI→List aI×Int
 |0,_,out=>(out,0)
 |f+1,s,out=>if s.left=0 then (out,0) else if (dZ b s).2.e≠0 then ([],(dZ b s).2.e) else ot b f (dZ b s).2 (out++[(dZ b s).1])
theorem ct.I'{b:Bool}{s:Cs}(h:ct s):ct (I' b s):=by
 unfold Proofs.YtaodmbolhoafcaaGreatDoor.I';split
 ·exact h.l7.eJ
 ·exact h
theorem ct.dZ{b:Bool}{s:Cs}(h:ct s):ct (dZ b s).2:=h.I'.ey.ey
theorem KK(s:Cs):s.l7.b=s.b:=Cs.cN _ _ _
theorem JJ(s:Cs):s.eJ.b=s.b:=Cs.cN _ _ _
theorem vr(s:Cs)(m:Int):(s.ey m).b=s.b:=Cs.cN _ _ _
theorem ae0(b:Bool)(s:Cs):(I' b s).b=s.b:=by unfold I';split<;>simp[KK,JJ]
theorem aiR(b:Bool)(s:Cs):(dZ b s).2.b=s.b:=by unfold dZ;simp[vr,ae0]
theorem aeH(b:Bool)(s:Cs):∃a e,(dZ b s).2=⟨s.b,a,e⟩:=⟨_,_,by rw[←aiR b s]⟩
def aI.fits(x:aI):Prop:=x.1<18446744073709551616∧x.2.2.1.length≤4000∧x.2.2.2.length≤4000
theorem ZR{b:Bool}{s:Cs}(h:(dZ b s).2.e=0):nT s (dZ b s).2 (lM b (dZ b s).1)∧(dZ b s).1.fits∧(b=false→(dZ b s).1.1=0∧(dZ b s).1.2.1=0):=by
 obtain⟨h2,l2⟩:=Cs.yS (s:=(I' b s).ey 4000) h;obtain⟨h1,l1⟩:=Cs.yS (s:=I' b s) h2.e0;cases b with
 |false=>
  refine⟨?_,⟨?_,?_,?_⟩,fun _=>⟨rfl,rfl⟩⟩
  ·have:=h1.trans h2;simpa[lM,fO,dZ,I']using this
  ·simp[dZ]
  ·simp only[dZ];omega
  ·simp only[dZ];omega
 |true=>
  have h0:(s.l7.eJ).e=0:=h1.e0;have hb:=Cs.abn h0;obtain⟨hn,ln⟩:=Cs.aii hb.e0;refine⟨?_,⟨?_,?_,?_⟩,fun h=>kl⟩
  ·have:=((hn.trans hb).trans h1).trans h2;simpa[lM,fO,dZ,I']using this
  ·simpa[dZ]using ln
  ·simp only[dZ];omega
  ·simp only[dZ];omega
def norm(b:Bool)(x:aI):aI:=if b=true then x else (0,0,x.2.2.1,x.2.2.2)
theorem aeG{b:Bool}{s:Cs}{x:aI}{r:al}(h0:s.e=0)(hx:x.fits)(hr:s.rest=lM b x++r):(dZ b s).1=norm b x∧nT s (dZ b s).2 (lM b x):=by
 obtain⟨LG,hx2,hx3⟩:=hx;have hm:(4000:Int)≤9223372036854775807:=by decide
 cases b with
 |false=>
  have tg:s.rest=fo x.2.2.1++(fo x.2.2.2++r):=by rw[hr];simp[lM,fO]
  obtain⟨t1,d1⟩:=Cs.rG (m:=4000) h0 aa hm tg;obtain⟨t2,d2⟩:=Cs.rG (m:=4000) d1.e1 aa hm (d1.cI tg);refine⟨?_,?_⟩
  ·simp only[dZ,norm,I'];simp[t1,t2]
  ·have:=d1.trans d2;simpa[dZ,I',lM,fO]using this
 |true=>
  have tg:s.rest=aS x.1++(x.2.1::(fo x.2.2.1++(fo x.2.2.2++r))):=by rw[hr];simp[lM,fO]
  obtain⟨n1,dn⟩:=Cs.V4 h0 LG tg;have vF:=dn.cI tg;obtain⟨b1,db⟩:=Cs.mb dn.e1 vF;have hr3:=db.cI (p:=[x.2.1]) vF;obtain⟨t1,d1⟩:=Cs.rG (m:=4000) db.e1 aa hm hr3;obtain⟨t2,d2⟩:=Cs.rG (m:=4000) d1.e1 aa hm (d1.cI hr3);refine⟨?_,?_⟩
  ·simp only[dZ,norm,I'];simp[t1,t2,n1,b1]
  ·have:=((dn.trans db).trans d1).trans d2;simpa[dZ,I',lM,fO]using this
theorem OQ(b:Bool)(x:aI):2≤(lM b x).length:=by
 have h1:=M5 x.2.2.1;have h2:=M5 x.2.2.2;unfold lM;rw[aY,aY];omega
theorem nO(s:Cs):s.rest.length=s.left:=by simp[Cs.rest,Cs.left]
theorem Fk{b:Bool}{s:Cs}(h:(dZ b s).2.e=0):(dZ b s).2.left+2≤s.left:=by
 have h1:=(ZR h).1.rest;have h2:=OQ b (dZ b s).1;have:=dB List.length h1;rw[aY,nO,nO]at this;omega
theorem AQ{b:Bool}:∀(f:Nat) (L:List aI) (s:Cs) (out:List aI),s.e=0→s.left<f→(∀x∈L,x.fits)→s.rest=c_ b L→ot b f s out=(out++L.map (norm b),0)
 |0,L,s,out,_,hf,_,_=>absurd hf aa
 |f+1,[],s,out,h0,hf,_,hr=>by
  have:s.left=0:=by rw[←nO,hr];rfl
  unfold ot;rw[ao this];simp
 |f+1,x::L,s,out,h0,hf,hx,hr=>by
  have tg:s.rest=lM b x++c_ b L:=by rw[hr];simp[c_]
  obtain⟨h1,h2⟩:=aeG h0 (hx x ak) tg;have hl:¬s.left=0:=by
   have:=OQ b x;rw[←nO,tg,aY];omega
  have he:(dZ b s).2.e=0:=h2.e1;have acZ:=Fk he;unfold ot;rw[aw hl,aw L7,AQ f L _ _ he aa (fun y hy=>hx y vQ) (h2.cI tg),h1];simp
theorem aew(b:Bool)(ho:ct s)(hb:aK B w0 F 1 (.slice A s.b.length c) s.b.length (bv s.b)):
  a_ B w0 273 [.agg #[br g],.bool b] (Cv g A c s::F) (fun r L=>r= .agg (aI.cells (dZ b s).1).toArray∧L=Cv g A c (dZ b s).2::F):=by
 have qd:∀(s':Cs),s'.b=s.b→aK B w0 F 1 (.slice A s'.b.length c) s'.b.length (bv s'.b):=fun s' h=>by rw[h];exact hb
 refine fw func273 23 [0,1] ?_;refine be ?_;refine bh fun g2=>?_;refine bc fun g4=>?_;refine be ?_;refine d_ (fun zf zL=>Sub zf [(2,br g2),(4,br g4)]∧Wk zL (Cv g A c (I' b s):: .bE g4 62 [.int .u64 (if b=true then s.num else 0:Nat),.int .u8 ((if b=true then s.l7.byte else 0:UInt8).toNat:Int),.string ⟨#[]⟩,.string ⟨#[]⟩]:: .bE g2 366 [br g]::F)) ?_ ?_
 ·refine bG ?_;refine gZ (fun h5=>?_) fun h5=>?_
  ·subst h5;refine b8 ?_;refine ai rfl ((abD ho (.cons (.cons hb))).perm Cm) ?_;refine bK ?_;refine ai rfl (ov ho.l7 (.cons (.cons (qd _ (KK s))))) ?_;refine bA ?_;exact bD ⟨bp,.refl _⟩
  ·subst h5;refine aF ?_;exact bD ⟨bp,.dE Cm⟩
 ·rintro _ _ ⟨hs,hp⟩;refine aU hs hp ?_;clear hs hp;refine b8 ?_;refine ai rfl (Ct ho.I' (.cons (.cons (qd _ (ae0 b s)))) aa aa) ?_;refine bI ?_;refine ai rfl (Ct ho.I'.ey (.cons (.cons (qd _ ((vr _ _).trans (ae0 b s))))) aa aa) ?_;refine cZ ?_;refine I4 rfl rfl ag aV gA (.cons (.skip (.skip (.refl _)))) ?_;exact⟨rfl,rfl⟩
def qO(b:Bool)(l:al):List aI×Int:=ot b (l.length+1) ⟨l,0,0⟩ []
theorem AP{b:Bool}{f:Nat}{s:Cs}{o:List aI}(h:s.left=0):ot b (f+1) s o=(o,0):=by unfold ot;rw[ao h]
theorem AO{b:Bool}{f:Nat}{s:Cs}{o:List aI}(h:¬s.left=0)(he:(dZ b s).2.e≠0):ot b (f+1) s o=([],(dZ b s).2.e):=by unfold ot;rw[aw h,ao he]
theorem E'{b:Bool}{f:Nat}{s:Cs}{o:List aI}(h:¬s.left=0)(he:¬(dZ b s).2.e≠0):ot b (f+1) s o=ot b f (dZ b s).2 (o++[(dZ b s).1]):=by conv=>lhs;unfold ot;rw[aw h,aw he]
theorem ZM(o:List aI)(x:aI):dh (o++[x])=dh o++aI.cells x:=by simp[dh]
theorem ON{l:al}(b:Bool)(hb:eM B w0 F A c l)(hl:l.length≤1000000000):
  a_ B w0 231 [.bool b,.slice A l.length c] F (fun r L=>∃A' c',r= .tuple #[.slice A' (qO b l).1.length c',ah (qO b l).2]∧L= .own 62 4 A' (qO b l).1.length c' (dh (qO b l).1)::F):=by
 refine fw func231 31 [0,1] ?_;refine bO ?_;refine dX rfl (mY hb aa) fun g11 tG xl=>?_;refine ab (eG [(0,_)] [_] rfl rfl ag) rfl ?_;refine bc fun g6=>?_;refine b8 ?_;refine aZ 62 4 none ?_;refine bz ?_;refine aE (fun zf zL zm=>∃(a:Nat) (o:List aI) (A7:bj) (c7:Nat) (m:Nat),(a≤l.length∧l.length-a<m∧o.length+(l.length-a)≤l.length∧ot b m ⟨l,a,0⟩ o=qO b l)∧m=zm∧Sub zf [(0,.bool b),(6,br g6),(7,.slice A7 o.length c7)]∧Wk zL (Cv g11 tG xl ⟨l,a,0⟩:: .own 62 4 A7 o.length c7 (dh o):: .bE g6 366 [br g11]:: .own 5 1 tG l.length xl (bv l)::F)) _ ⟨0,[],none,0,l.length+1,⟨bS _,aa,ak,rfl⟩,rfl,bp,.dE Cm⟩ ?_;rintro _ _ _ ⟨a,o,A7,c7,m,⟨D_,ham,Kl,hG⟩,rfl,hs,hp⟩;refine aU hs hp ?_;clear hs hp;obtain⟨f,rfl⟩:∃f,m=f+1:=⟨m-1,aa⟩
 have ho:ct ⟨l,a,0⟩:=⟨D_,cY⟩
 have akc:Cs.left ⟨l,a,0⟩=l.length-a:=rfl;obtain⟨a',e',Bz⟩:=aeH b ⟨l,a,0⟩;have pX:=vh (dZ b ⟨l,a,0⟩).1;refine bG ?_;refine ai rfl (JN ho aA) ?_;refine bA ?_;refine aj (fun ki=>?_) fun ki=>?_
 ·refine bK ?_;refine ai rfl (aew b ho aA) ?_;rw[Bz];refine bc fun g8=>?_;refine bI ?_;refine ai rfl (gM.perm swp) ?_;refine bO ?_;refine aj (fun oh=>?_) fun oh=>?_
  ·refine bG ?_;refine ve [4,5] ?_;refine bK ?_;have hz:qO b l=([],e'):=by rw[←hG,AO aa (by rw[Bz];exact oh),Bz]
   rw[hz];refine aD 62 4 none ?_;refine aq (L':=.own 62 4 none 0 0 []::F) (.cons (.skip (.skip (.skip (.skip (.skip (.refl _))))))) ?_;refine aF ?_;exact⟨none,0,rfl,rfl⟩
  ·have he0:e'=0:=jG.1 oh;subst he0;have hG2:=E' (b:=b) (f:=f) (s:=⟨l,a,0⟩) (o:=o) aa (by rw[Bz];simp);rw[hG,Bz]at hG2;have acZ:=Fk (b:=b) (s:=⟨l,a,0⟩) (by rw[Bz]);have ho':=ho.dZ (b:=b);rw[Bz]at acZ ho';have asl:a'≤l.length:=ho'.at_;have asH:l.length-a'+2≤l.length-a:=acZ;refine bG ?_;refine rI WC rfl rfl rfl aa cw rfl rfl rfl (fun _=>rfl) aV aa aa ?_;intro _ A29 c29;refine aF ?_;refine ve [0,6,7] ?_;refine aF ?_;have el:o.length+1=(o++[(dZ b ⟨l,a,0⟩).1]).length:=by simp
   rw[el];refine av ⟨_,aa,a',o++[(dZ b ⟨l,a,0⟩).1],A29,c29,f,⟨asl,aa,bR,hG2.symm⟩,rfl,bp,.cons (.skip (ax rfl (ZM _ _).symm (.refl _)))⟩
 ·refine dc ?_;have hz:qO b l=(o,0):=by rw[←hG,AP aa]
  rw[hz];refine aq (L':=.own 62 4 A7 o.length c7 (dh o)::F) (.skip (.cons (.skip (.skip (.refl _))))) ?_;refine aF ?_;exact⟨A7,c7,rfl,rfl⟩
theorem aa7{P:Prop}(h:P:=by(unfold Cs.rest;simp)):P:=h
theorem agF{P:Prop}(h:P:=by(rw[wY];exact f5)):P:=h
theorem C6{P:Prop}(h:P:=by(unfold PL;omega)):P:=h
theorem pt:type_of% @List.map_take:= @List.map_take
theorem yh:type_of% @List.map_drop:= @List.map_drop
theorem rk:type_of% @List.mem_of_mem_drop:= @List.mem_of_mem_drop
theorem bH:type_of% @Classical.byContradiction:= @Classical.byContradiction
theorem qi:type_of% @List.drop_left':= @List.drop_left'
def ju(b plain:Bool):bf→List aI→eH
 |[],_=>[]
 |n::ns,L=>(jA (c_ b (L.take n)) plain).1::ju b plain ns (L.drop n)
def fI(x:Bool):UInt8:=if x then 1 else 0
def dR(o:aR)(b:Bool)(L:List aI):bf:=jw o.1.toNat (lens b L)
def tu(o:aR)(L:List aI):al:=(dY++[1])++(aS o.1.toNat++(fI o.2.1::(aS L.length++aS (dR o true L).length)))
def qI(o:aR)(L:List aI):al:=cX (tu o L++(ju true o.2.1 (dR o true L) L).flatten)
def sm(o:aR)(L:List aI):al×Int:=if cB 1 o≠0 then ([],cB 1 o) else if cP L≠0 then ([],cP L) else (qI o L,0)
def gU(b:al):al×Int:=
 if (marked b).2≠0 then ([],(marked b).2) else if (marked b).1≠1 then ([],4)
 else if (aJ b).2≠0 then ([],(aJ b).2) else if (aJ b).1.length<5 then ([],1) else ((aJ b).1.drop 5,0)
def oh1(x:al):Cs:=Cs.bW ⟨x,0,0⟩ 32768
def Zt(x:al):UInt8:=(oh1 x).byte
def V5(x:al):Cs:=if 1<(Zt x).toNat then (oh1 x).eJ.failed 2 else (oh1 x).eJ
def oh3(x:al):Cs:=(V5 x).bW 20000
def G1(x:al):Nat:=(V5 x).int 20000
def Cg(x:al):Cs:=(oh3 x).bW (G1 x)
def CK(x:al):Nat:=(oh3 x).int (G1 x)
def ohO(x:al):aR:=((Cs.int ⟨x,0,0⟩ 32768:Nat),decide ((Zt x).toNat=1),0,0,0,0)
def ohE(x:al):Int:=if (Cg x).e≠0 then (Cg x).e else cB 1 (ohO x)
noncomputable def jM(s:Cs):List aI×Cs×Int:=
 if (dK s.rest).2.2≠0 then ([],s,(dK s.rest).2.2)
 else if (qO true (dK s.rest).1).2≠0 then ([],s.b_ ((dK s.rest).2.1:Nat),(qO true (dK s.rest).1).2)
 else if (qO true (dK s.rest).1).1=[] then ([],s.b_ ((dK s.rest).2.1:Nat),2)
 else ((qO true (dK s.rest).1).1,s.b_ ((dK s.rest).2.1:Nat),0)
noncomputable def oC:Nat→Cs→List aI→List aI×Cs×Int
 |0,s,out=>(out,s,0)
 |f+1,s,out=>if (jM s).2.2≠0 then ([],(jM s).2.1,(jM s).2.2) else oC f (jM s).2.1 (out++(jM s).1)
noncomputable def kG(x:al):List aI×Int:=
 if (oC (CK x) (Cg x) []).2.2≠0 then ([],(oC (CK x) (Cg x) []).2.2)
 else if 0<(oC (CK x) (Cg x) []).2.1.left∨(oC (CK x) (Cg x) []).1.length≠G1 x then ([],2)
 else if cP (oC (CK x) (Cg x) []).1≠0 then ([],cP (oC (CK x) (Cg x) []).1) else ((oC (CK x) (Cg x) []).1,0)
noncomputable def l8(b:al):aR×List aI×Nat×Int:=
 if (gU b).2≠0 then (h_,[],0,(gU b).2)
 else if ohE (gU b).1≠0 then (h_,[],0,ohE (gU b).1)
 else if (kG (gU b).1).2≠0 then (h_,[],0,(kG (gU b).1).2)
 else (ohO (gU b).1,(kG (gU b).1).1,CK (gU b).1,0)
theorem aev{b:Bool}{x:aI}(hx:x.fits):(lM b x).length≤8100:=by
 obtain⟨h1,h2,h3⟩:=hx;have e1:=nf (s:=x.2.2.1) aa;have e2:=nf (s:=x.2.2.2) aa;have e3:=aT h1;unfold lM fO;split<;>simp only[aY,ef,sd]<;>omega
theorem Zb(b:Bool)(L:List aI)(n:Nat):lens b (L.take n)=(lens b L).take n:=by simp[lens,pt]
theorem wY(b:Bool)(L:List aI)(n:Nat):lens b (L.drop n)=(lens b L).drop n:=by simp[lens,yh]
theorem oJ{S:Nat}(hS:S≤32768){b:Bool}{L:List aI}(hL:∀x∈L,x.fits){n:Nat}(h1:1≤n)(h:((lens b L).take n).sum≤S∨n=1):(c_ b (L.take n)).length≤32768:=by
 rw[Fa,Zb];rcases h with h|h
 ·omega
 ·subst h;cases L with
  |nil=>simp[lens]
  |cons x r=>
   have:=aev (b:=b) (hL x ak);simp[lens];omega
theorem IP{S:Nat}(hS:S≤32768)(plain:Bool):∀(g:bf) (L out:List aI) (s:Cs) (r:al),s.e=0→(∀x∈L,x.fits)→CX S (lens true L) g→s.rest=(ju true plain g L).flatten++r→
  ∃s',oC g.length s out=(out++L,s',0)∧nT s s' (ju true plain g L).flatten
 |[],L,out,s,r,h0,hL,hf,hr=>by
  have:L=[]:=List.map_eq_nil_iff.1 (show lens true L=[] from hf);subst this;exact⟨s,by simp[oC],nT.nil h0⟩
 |n::g,L,out,s,r,h0,hL,hf,hr=>by
  obtain⟨f1,f2,f3,f4,f5⟩:=hf;rw[et]at f2;have Iv:=oJ hS hL f1 f3;have tg:s.rest=(jA (c_ true (L.take n)) plain).1++((ju true plain g (L.drop n)).flatten++r):=by rw[hr];simp[ju]
  have hb:=Mi (c_ true (L.take n)) plain Iv ((ju true plain g (L.drop n)).flatten++r);rw[←tg]at hb;obtain⟨_,ht⟩:=Cs.mz (n:=((jA (c_ true (L.take n)) plain).1.length:Nat)) h0 rfl tg;have t_:qO true (c_ true (L.take n))=(L.take n,0):=by
   unfold qO;rw[AQ _ (L.take n) _ [] rfl (by unfold Cs.left;simp only;omega) (fun x hx=>hL x (l6 hx)) aa7];have:(L.take n).map (norm true)=L.take n:=by
    conv=>rhs;rw[←List.map_id (L.take n)]
    exact sb fun x _=>by simp[norm]
   rw[this,nG]
  have sa:¬L.take n=[]:=by
   intro h;have:=dB List.length h;rw[eS,sd]at this;omega
  have hk:jM s=(L.take n,s.b_ ((jA (c_ true (L.take n)) plain).1.length:Nat),0):=by
   unfold jM;rw[hb];simp only;rw[t_];simp only;rw[aw ak,aw ak,aw sa]
  obtain⟨s',h1,h2⟩:=IP hS plain g (L.drop n) (out++L.take n) _ r ht.e1 (fun x hx=>hL x (rk hx)) agF (ht.cI tg);refine⟨s',?_,by have:=ht.trans h2;simpa[ju]using this⟩;rw[ef,oC,hk,aw ak];simp only;rw[h1,bV,jJ]
theorem ad6{o:aR}{L:List aI}(ho:cB 1 o=0)(hc:cP L=0)(hx:∀x∈L,x.1<18446744073709551616):l8 (qI o L)=(o,L,(dR o true L).length,0):=by
 have fG:nZ 1 o:=by
  unfold cB at ho;rw[ao (.inl rfl)]at ho;exact bH fun h=>by rw[aw h]at ho;simp at ho
 obtain⟨⟨m1,m2⟩,_,_,m5,m6⟩:=fG;obtain⟨k1,k2,k3⟩:=m5 aa;have k6:=m6 rfl;have tB:L.length≤20000∧(∀x∈L,x.fits):=by
  unfold cP at hc;have:¬(20000<L.length∨(∃x∈L,uq x)∨1048576<dU L):=fun h=>by rw[ao h]at hc;simp at hc
  refine⟨aa,fun x h=>⟨hx x h,?_,?_⟩⟩
  ·exact yf fun k=>this (.inr (.inl ⟨x,h,.inl k⟩))
  ·exact yf fun k=>this (.inr (.inl ⟨x,h,.inr k⟩))
 obtain⟨hl,hL⟩:=tB;have hg:(dR o true L).length≤L.length:=by unfold dR;have:=mZ o.1.toNat (lens true L);rwa [et]at this
 obtain⟨Y,hY⟩:=cK (aS o.1.toNat++(fI o.2.1::(aS L.length++(aS (dR o true L).length++(ju true o.2.1 (dR o true L) L).flatten))));have hX:gU (qI o L)=(Y,0):=by
  have e1:marked (qI o L)=(1,0):=by
   have:=lV (v:=1) C6 ((aS o.1.toNat++(fI o.2.1::(aS L.length++aS (dR o true L).length)))++((ju true o.2.1 (dR o true L) L).flatten++my (pT 0 (tu o L++(ju true o.2.1 (dR o true L) L).flatten))));rw[←this];congr 1;unfold qI cX tu;show _=(dY++[1])++_;simp[bV]
  have e2:aJ (qI o L)=(tu o L++(ju true o.2.1 (dR o true L) L).flatten,0):=jt _;have e3:tu o L++(ju true o.2.1 (dR o true L) L).flatten=(dY++[1])++Y:=by rw[hY];unfold tu;simp[bV]
  have e4:((dY++[1]:al)++Y).drop 5=Y:=qi rfl;unfold gU;rw[e1,e2,e3];simp only;rw[aw ak,aw ak,aw ak,aw (by simp[dY]),e4]
 have r0:Cs.rest ⟨Y,0,0⟩=aS o.1.toNat++(fI o.2.1::(aS L.length++(aS (dR o true L).length++(ju true o.2.1 (dR o true L) L).flatten))):=by unfold Cs.rest;rw[tp];exact hY
 obtain⟨n1,d1⟩:=Cs.iB (m:=32768) rfl aa aa r0;have r1:=d1.cI r0;obtain⟨n2,d2⟩:=Cs.mb d1.e1 r1;have r2:=d2.cI (p:=[fI o.2.1]) r1;obtain⟨n3,d3⟩:=Cs.iB (m:=20000) d2.e1 aa aa r2;have r3:=d3.cI r2;obtain⟨n4,d4⟩:=Cs.iB (m:=(L.length:Nat)) d3.e1 aa aa r3;have r4:=d4.cI r3;have l9:(fI o.2.1).toNat≤1∧(decide ((fI o.2.1).toNat=1)=o.2.1):=by cases o.2.1<;>exact⟨aB,aB⟩
 have e1:oh1 Y=Cs.bW ⟨Y,0,0⟩ 32768:=rfl;have ePl:Zt Y=fI o.2.1:=by unfold Zt;rw[e1];exact n2
 have e2:V5 Y=(Cs.bW ⟨Y,0,0⟩ 32768).eJ:=by unfold V5;rw[ePl,aw aa,e1]
 have eR:G1 Y=L.length:=by unfold G1;rw[e2];exact n3
 have e3:oh3 Y=(Cs.bW ⟨Y,0,0⟩ 32768).eJ.bW 20000:=by unfold oh3;rw[e2]
 have eB:CK Y=(dR o true L).length:=by unfold CK;rw[e3,eR];exact n4
 have e4:Cg Y=((Cs.bW ⟨Y,0,0⟩ 32768).eJ.bW 20000).bW (L.length:Nat):=by unfold Cg;rw[e3,eR]
 have eO:ohO Y=o:=by
  unfold ohO;rw[n1,ePl,l9.2];obtain⟨a,b,c,d,e,f⟩:=o;simp only at m1 m2 k1 k2 k3 k6⊢;rw[k1,k2,k3,k6];congr 1;omega
 have eE:ohE Y=0:=by unfold ohE;rw[e4,d4.e1,aw ak,eO];exact ho
 obtain⟨s',h1,h2⟩:=IP (S:=o.1.toNat) aa o.2.1 (dR o true L) L [] (Cg Y) [] (by rw[e4];exact d4.e1) hL (ky _ _) (by rw[e4,r4,gj]);have akc:s'.left=0:=by
  rw[←nO];have:=h2.cI (r:=[]) (by rw[e4,r4,gj]);rw[this];rfl
 have eL:kG Y=(L,0):=by
  unfold kG;rw[eB,h1];simp only;rw[aw ak,eR,aw (by rw[akc];simp),nG,hc,aw ak]
 unfold l8;rw[hX];simp only;rw[aw ak,eE,aw ak,eL,aw ak,eO,eB]
theorem oT{P:Prop}(h:P:=by(decide+kernel)):P:=h
theorem Qw{P:Prop}(h:P:=by(rintro _ _ ⟨rfl,rfl⟩;exact gD)):P:=h
theorem NV:type_of% @List.replicate_zero:= @List.replicate_zero
theorem aog(y:Nat)(hy:y<4294967296):IntKind.u64.wrap ((BitVec.ofInt IntKind.u64.bits (y:Int) &&& BitVec.ofInt IntKind.u64.bits 4294967295).toNat:Int)=(y:Int):=by
 have h:=u64_and y 4294967295 aa aa;rw[show(4294967295:Nat)=2^32-1 from rfl,Nat.and_two_pow_sub_one_eq_mod,i_ (show y<2^32 from hy)]at h;exact h
theorem akI(y:Nat)(hy:y<4294967296):(y:Int).fdiv (2^min (32:Int).toNat IntKind.u64.bits)=0:=by
 have e:min (32:Int).toNat IntKind.u64.bits=32:=by decide
 rw[e,we _ aB];omega
theorem aic(y:Nat)(hy:y<4294967296):a_ B w0 338 [.int .u64 1,.int .u64 y] F (fun r L=>r= .tuple #[.int .u64 0,.int .u64 y]∧L=F):=by
 refine fw func338 51 [0,1] ?_;refine bO ?_;refine ab (jY rfl rfl (r:=1) oT) rfl ?_;refine bz ?_;refine ab (dj rfl rfl aa (r:=0) oT) rfl ?_;refine bz ?_;refine ab (jY rfl rfl (aog y hy)) rfl ?_;refine bz ?_;refine ab (dj rfl rfl aa (akI y hy)) rfl ?_;refine bK ?_;refine ab (eZ rfl rfl (r:=(y:Int)) ((f_ aa aa).trans aa)) rfl ?_;refine bK ?_;refine ab (eZ rfl rfl (r:=0) ((f_ aa aa).trans aa)) rfl ?_;refine aF ?_;refine ab (dj rfl rfl aa (akI y hy)) rfl ?_;refine ab (bX rfl rfl (r:=0) oT) rfl ?_;refine aF ?_;refine ve [0,1,6,7,9,11] ?_;refine b8 ?_;refine ab (jY rfl rfl (r:=0) oT) rfl ?_;refine bz ?_;refine ab (dj rfl rfl aa (r:=0) oT) rfl ?_;refine bI ?_;refine ab (eZ rfl rfl (r:=0) oT) rfl ?_;refine ab (bX rfl rfl (r:=0) oT) rfl ?_;refine bK ?_;refine ab (eZ rfl rfl (r:=0) oT) rfl ?_;refine aF ?_;refine ab (bX rfl rfl (r:=0) oT) rfl ?_;refine aF ?_;refine ab (dj rfl rfl aa (r:=0) oT) rfl ?_;refine ab (bX rfl rfl (r:=0) oT) rfl ?_;refine aF ?_;refine ve [0,1,4] ?_;refine bG ?_;refine ab (eZ rfl rfl (r:=(y:Int)) ((f_ aa aa).trans aa)) rfl ?_;refine bG ?_;exact⟨rfl,rfl⟩
theorem aqR(y:Nat)(hy:y<4294967296):a_ B w0 321 [.int .u64 1,.int .u64 y] F (fun r L=>r= .tuple #[.int .u64 0,.int .u64 y]∧L=F):=by
 refine fw func321 30 [0,1] ?_;refine dQ ?_;refine ai rfl (aic y hy) ?_;refine B9 ?_;exact⟨rfl,rfl⟩
theorem ZN(b:UInt8)(k:Nat):(bv [b]).take (min 1 k)++(List.replicate k (Value.int .u8 0)).drop (min 1 k)=bv (List.replicate (min 1 k) b)++List.replicate (k-min 1 k) (.int .u8 0):=by
 rw[List.drop_replicate];congr 1;rcases wV k with h|h
 ·subst h;rfl
 ·rw[zb h];rfl
theorem aex(b:UInt8){j k q:Nat}(hj:q≤j)(hk:j+q≤k):(bv (List.replicate j b)++List.replicate (k-j) (Value.int .u8 0)).take j++(bv (List.replicate j b)).take q++(bv (List.replicate j b)++List.replicate (k-j) (Value.int .u8 0)).drop (j+q)=bv (List.replicate (j+q) b)++List.replicate (k-(j+q)) (.int .u8 0):=by
 rw[List.take_append_of_le_length ak,fA ak,jX,List.take_replicate,zb hj,←gl,List.replicate_append_replicate];congr 1;rw[List.drop_append,mu ak,nG,List.drop_replicate];congr 1;simp;omega
theorem aey{A:bj}{c:Nat}(b:UInt8)(k:Nat)(hb:aK B w0 F 1 (.slice A 1 c) 1 (bv [b]))(hk:k≤1000000000):
  a_ B w0 297 [.slice A 1 c,ah k] F (fun r L=>∃A' c',r= .slice A' k c'∧L= .own 5 1 A' k c' (bv (List.replicate k b))::F):=by
 refine fw func297 48 [0,1] ?_;refine cH ?_;refine dm fun jx=>?_;refine bz ?_;refine ab (bm underlying3 underlying192 rfl (r:=1) oT) rfl ?_;refine aF ?_;refine ab (bm underlying3 underlying192 rfl (f_ aa aa)) rfl ?_;refine ai rfl (aqR k aa) ?_;refine dc ?_;refine aL rfl rfl rfl (fun m7=>?_) (fun m7=>?_)
 ·refine b8 ?_;refine ve [0,6,26] ?_;refine aF ?_;refine dm fun qc=>?_;refine bG ?_;refine ab (bm underlying192 underlying3 rfl (bF aa aa)) rfl ?_;refine cC (fb cD rfl rfl rfl rfl rfl aa aa aa) fun Qf=>?_;refine bK ?_;refine lO (H8 cD aV rfl rfl aA (qz _)) rfl ?_;rintro _ _ ⟨rfl,rfl⟩;refine bG ?_;refine aE (fun zf zL zm=>∃(j:Nat),(j≤k∧(0<j∨k=0))∧k-j=zm∧Sub zf [(7,.slice Qf k k),(8,ah j)]∧Wk zL (.own 5 1 Qf k k (bv (List.replicate j b)++List.replicate (k-j) (.int .u8 0))::F)) _ ⟨min 1 k,⟨aa,aa⟩,rfl,bp,ax rfl (ZN b k) (.refl _)⟩ ?_;rintro _ _ _ ⟨j,⟨hj,hj0⟩,rfl,hs,hp⟩;refine aU hs hp ?_;clear hs hp;refine bO ?_;refine aj (fun zK=>?_) fun zK=>?_
  ·have CB:∀(L:aQ),Ch.own 5 1 Qf k k (bv (List.replicate j b)++List.replicate (k-j) (.int .u8 0))∈L→aK B w0 L 1 (.slice Qf j k) j (bv (List.replicate j b)):=fun L hm=>by
    have:=(aK.own (B:=B) (w0:=w0) hm).iY (k:=j) aa;rw[cE,List.take_append_of_le_length ak,fA ak]at this;exact this
   refine bA ?_;refine cF F ?_;refine ae 0 ?_;refine ae 1 ?_;refine ae 2 ?_;refine aW 3 rfl (bQ (i:=j) (size:=1) underlying27 ag rfl rfl rfl aa) ?_;refine ae 4 ?_;refine ae 5 ?_;refine aW 6 rfl (bN (i:=j) (size:=1) underlying27 ag rfl rfl rfl aa) ?_;refine az 7 ?_;refine SX rfl .no (MY (i:=j) cD aV rfl aa rfl (CB _ (List.Mem.head _)) (qz _)) rfl Qw ?_;rintro _ _ ⟨rfl,rfl⟩;refine ae 8 ?_;refine ae 9 ?_;refine be ?_;refine av ⟨_,aa,j+min j (k-j),⟨aa,aa⟩,rfl,bp,ax rfl (aex b aa aa) (.refl _)⟩
  ·refine cH ?_;have hjk:j=k:=by omega
   subst hjk;refine aq (ax rfl (by rw[nE,NV,gj]) (.refl _)) ?_;refine aF ?_;exact⟨Qf,j,rfl,rfl⟩
 ·exfalso;exact absurd m7 aB
end Go.Proofs.YtaodmbolhoafcaaGreatDoor

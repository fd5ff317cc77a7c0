/-
  Texts of one proof, joined: part 4. No condition.
-/
import Derived.Test.YtaodmbolhoafcaaGreatDoorZc3
import Derived.ProofKit
import Derived.OpenShut
import Derived.ShutString
import Derived.ChangeOld
import Derived.Deep.Slices
import Derived.Lib.AppendZeros
open Go.RowKit Go.Proofs.Tryz
namespace Go.Proofs.YtaodmbolhoafcaaGreatDoor
set_option linter.unusedVariables false
set_option linter.unusedSimpArgs false
set_option maxRecDepth 20000
variable{B:Nat}{w0:World}{F L0:aP}{A:bj}{n c g h3 h5:Nat}{s:Cs}{C0:Ch}{A2:bj}{n2 c2:Nat}
theorem b_8{P:Prop}(h:P:=by(first|rfl|exact eF (by first|omega|simp_all)|exact eU (by first|omega|simp_all)|exact dN (by first|omega|simp_all)|exact qK (by first|omega|simp_all))):P:=h
theorem yb:type_of% @Nat.add_sub_cancel_left:= @Nat.add_sub_cancel_left
theorem gM:type_of% @Int.eq_ofNat_of_zero_le:= @Int.eq_ofNat_of_zero_le
theorem Cm{a b c:Ch}{L:aP}:(a::b::c::L).Perm (c::a::b::L):=((List.Perm.swap c b L).cons a).trans (.swap c a _)
def Y0(x k:Nat)(er most:Int):Nat×Nat×Int:=if er≠0 then (0,0,er) else if most<0∨most<x then (0,0,6) else (x,k,0)
theorem amn{x k:Nat}{er most:Int}(h:¬er=0):Y0 x k er most=(0,0,er):=ao h
theorem amo{x k:Nat}{er most:Int}(h:¬¬er=0)(h2:most<0∨most<x):Y0 x k er most=(0,0,6):=by unfold Y0;rw[aw h,ao h2]
theorem amp{x k:Nat}{er most:Int}(h:¬¬er=0)(h2:¬(most<0∨most<x)):Y0 x k er most=(x,k,0):=by unfold Y0;rw[aw h,aw h2]
theorem IG{l:al}(hb:aJ B w0 L0 1 (.slice A n c) n (bv l))(hn:n≤1099511627776){most:Int}(hm1:-9223372036854775808≤most)(wM:most≤9223372036854775807):
  a_ B w0 222 [.slice A n c,ah most] L0 (fun r L=>r= .tuple #[ah (et l most).1,ah (et l most).2.1,ah (et l most).2.2]∧L=L0):=by
 have e:et l most=Y0 (cM l).1 (cM l).2.1 (cM l).2.2 most:=rfl;have hs:=aeA hb hn;have hf:=(fg l).1;rw[e];clear e;generalize (cM l).1=x at*;generalize (cM l).2.1=k at*;generalize (cM l).2.2=er at*;refine fw func222 30 [0,1] ?_;refine bA ?_;refine ai rfl (hs) ?_;refine jS ?_;refine aj (fun iF=>?_) fun iF=>?_
 ·refine bz ?_;refine ve [4,5,6] ?_;refine b8 ?_;refine⟨?_,rfl⟩;rw[amn iF];try rfl
 ·refine bG ?_;refine bW 8 26 [7,8] (most<0∨most<(x:Int)) ?_ ?_
  ·refine bF ?_;refine aL rfl rfl rfl (fun lW=>?_) (fun lW=>?_)
   ·refine bJ ?_;exact aQ b_8
   ·refine b8 ?_;exact aQ b_8
  ·refine be ?_;refine aj (fun qU=>?_) fun qU=>?_
   ·refine bA ?_;refine⟨?_,rfl⟩;rw[amo iF qU];try rfl
   ·refine dQ ?_;refine⟨?_,rfl⟩;rw[amp iF qU];try rfl
theorem YG{x0:Value}{l:al}{most:Int}(hb:aJ B w0 (.bD h5 3 [x0]:: .bD h3 3 [ah most]::F) 1 (.slice A n c) n (bv l))(hn:n≤1099511627776)(hm1:-9223372036854775808≤most)(wM:most≤9223372036854775807):
  a_ B w0 221 [.slice A n c,br h3,br h5] (C0:: .bD h5 3 [x0]:: .bD h3 3 [ah most]::F) (fun r L=>r= .tuple #[ah (et l most).2.1,ah (et l most).2.2]∧L=C0:: .bD h5 3 [ah (et l most).1]:: .bD h3 3 [ah most]::F):=by
 refine fw func221 15 [0,1,2] ?_;refine bA ?_;refine ai rfl (IG aB hn hm1 wM) ?_;refine zH ?_;exact⟨rfl,rfl⟩
theorem iH(ho:cu s)(hb:aJ B w0 F 1 (.slice A s.b.length c) s.b.length (bv s.b)){most:Int}(hm1:-9223372036854775808≤most)(wM:most≤9223372036854775807):
  a_ B w0 172 [br g,ah most] (Cv g A c s::F) (fun r L=>r=ah (s.int most)∧L=Cv g A c (s.bX most)::F):=by
 by_cases h0:s.e=0
 ·have hkb:=(jz s.rest most wM).2.1;rw[ho.rest.1]at hkb;have hlb:=ho.rest.2;refine fw func172 13 [0,1] ?_;refine be ?_;refine bh fun g3=>?_;refine bG ?_;refine bc fun g5=>?_;refine bz ?_;refine aX Uo rfl ((xF (F:=.bD g5 3 [ah 0]:: .bD g3 3 [ah most]::F) ho (aJ.cons (aJ.cons hb)) h0 (caps:=[br g3,br g5]) (R':=fun F'=>F'= .bD g5 3 [ah (et s.rest most).1]:: .bD g3 3 [ah most]::F) (k:=(et s.rest most).2.1) (er:=(et s.rest most).2.2) ao2 aa (fun A' c' CA=>(YG CA aa hm1 wM).mono fun r L ⟨h1,h2⟩=>⟨h1,_,rfl,h2⟩)).perm Cm) rfl ?_;rintro _ _ ⟨rfl,_,cA,rfl⟩;obtain rfl:=cA.symm;refine bA ?_;refine aj (fun pg=>?_) fun pg=>?_
  ·refine bL ?_;refine aq (L':=Cv g A c (s.bX most)::F) (.cons (.skip (.skip (.refl _)))) ?_;refine aF ?_;exact⟨by simp[Cs.int,h0,(pt (show(et s.rest most).2.2≠0 from pg)).1],rfl⟩
  ·refine bQ ?_;refine aq (L':=Cv g A c (s.bX most)::F) (.cons (.skip (.skip (.refl _)))) ?_;refine aF ?_;exact⟨by simp[Cs.int,h0],rfl⟩
 ·have e1:s.bX most=s:=by simp[Cs.bX,Cs.eu,h0]
  have e2:s.int most=0:=by simp[Cs.int,h0]
  rw[e1,e2];refine fw func172 13 [0,1] ?_;refine be ?_;refine bh fun g3=>?_;refine bG ?_;refine bc fun g5=>?_;refine bz ?_;refine ai rfl ((uP h0).perm Cm) ?_;refine tP ?_;refine aq (L':=Cv g A c s::F) (.cons (.skip (.skip (.refl _)))) ?_;refine aF ?_;exact⟨rfl,rfl⟩
def FD(l:al)(x k:Nat)(er:Int):al×Nat×Int:=if er≠0 then ([],0,er) else if l.length-k<x then ([],0,1) else ((l.drop k).take x,k+x,0)
theorem SV{l:al}{x k:Nat}{er:Int}(h:¬er=0):FD l x k er=([],0,er):=ao h
theorem SW{l:al}{x k:Nat}{er:Int}(h:¬¬er=0)(h2:l.length-k<x):FD l x k er=([],0,1):=by unfold FD;rw[aw h,ao h2]
theorem SX{l:al}{x k:Nat}{er:Int}(h:¬¬er=0)(h2:¬(l.length-k<x)):FD l x k er=((l.drop k).take x,k+x,0):=by unfold FD;rw[aw h,aw h2]
theorem SZ{l:al}{most:Int}(hb:aJ B w0 (.bD h5 9 [.string ⟨#[]⟩]:: .bD h3 3 [ah most]::F) 1 (.slice A n c) n (bv l))(hn:n≤1099511627776)(hm1:-9223372036854775808≤most)(wM:most≤9223372036854775807):
  a_ B w0 329 [.slice A n c,br h3,br h5] (C0:: .bD h5 9 [.string ⟨#[]⟩]:: .bD h3 3 [ah most]::F) (fun r L=>r= .tuple #[ah (jO l most).2.1,ah (jO l most).2.2]∧L=C0:: .bD h5 9 [.string ⟨(jO l most).1.toArray⟩]:: .bD h3 3 [ah most]::F):=by
 refine dL.xf (L:=C0:: .bD h5 9 [.string ⟨#[]⟩]:: .bD h3 3 [ah most]::F) (aJ.cons hb) fun hc hl=>?_;simp at hl;have e:jO l most=FD l (et l most).1 (et l most).2.1 (et l most).2.2:=rfl;have hs:=IG (B:=B) (w0:=w0) (L0:=C0:: .bD h5 9 [.string ⟨#[]⟩]:: .bD h3 3 [ah most]::F) (l:=l) (aJ.cons hb) hn hm1 wM;have hf:=jz l most wM;rw[e];clear e;generalize (et l most).1=x at*;generalize (et l most).2.1=k at*;generalize (et l most).2.2=er at*;refine fw func329 37 [0,1,2] ?_;refine bA ?_;refine ai rfl (hs) ?_;refine tP ?_;refine aj (fun kh=>?_) fun kh=>?_
 ·refine bG ?_;refine ve [4,5] ?_;refine bG ?_;refine⟨?_,?_⟩
  ·rw[SV kh];try rfl
  ·rw[SV kh];try rfl
 ·refine bQ ?_;refine ve [0,2,6,7,20] ?_;refine aF ?_;refine aj (fun iY=>?_) fun iY=>?_
  ·refine bA ?_;have Kf:l.length-k<x:=by omega
   refine⟨?_,?_⟩
   ·rw[SW kh Kf];try rfl
   ·rw[SW kh Kf];try rfl
  ·have hbt:=(hb.iZ (k:=k+x) aa).cut (k:=k) aa;have ebt:((bv l).take ((k+x)*1)).drop (k*1)=bv ((l.drop k).take x):=by rw[cE,cE,jX,jt,RP,yb]
   rw[ebt]at hbt;refine bA ?_;refine ab (kr (i:=k) (j:=k+x) (size:=1) underlying27 ag rfl rfl rfl rfl rfl aa aa) rfl ?_;refine ab (oZ underlying27 underlying5 underlying9 rfl aB) rfl ?_;refine dQ ?_;have Kf:¬(l.length-k<x):=by omega
   refine⟨?_,?_⟩
   ·rw[SX kh Kf];try rfl
   ·rw[SX kh Kf];try rfl
theorem Ct(ho:cu s)(hb:aJ B w0 F 1 (.slice A s.b.length c) s.b.length (bv s.b)){most:Int}(hm1:-9223372036854775808≤most)(wM:most≤9223372036854775807):
  a_ B w0 304 [br g,ah most] (Cv g A c s::F) (fun r L=>r= .string ⟨(s.text most).toArray⟩∧L=Cv g A c (s.ew most)::F):=by
 by_cases h0:s.e=0
 ·have hkb:(jO s.rest most).2.1≤s.rest.length:=by
   by_cases he:(jO s.rest most).2.2=0
   ·rcases Pf s.rest most he with h|h<;>omega
   ·have:(jO s.rest most).2.1=0:=by
     unfold jO at he⊢;split
     ·rfl
     ·rename_i h1;rw[aw h1]at he;split
      ·rfl
      ·rename_i h2;rw[aw h2]at he;exact absurd rfl he
    omega
  rw[ho.rest.1]at hkb;have hlb:=ho.rest.2;refine fw func304 10 [0,1] ?_;refine be ?_;refine bh fun g3=>?_;refine bG ?_;refine bc fun g5=>?_;refine bL ?_;refine aX Uo rfl ((xF (F:=.bD g5 9 [.string ⟨#[]⟩]:: .bD g3 3 [ah most]::F) ho (aJ.cons (aJ.cons hb)) h0 (caps:=[br g3,br g5]) (R':=fun F'=>F'= .bD g5 9 [.string ⟨(jO s.rest most).1.toArray⟩]:: .bD g3 3 [ah most]::F) (k:=(jO s.rest most).2.1) (er:=(jO s.rest most).2.2) apn aa (fun A' c' CA=>(SZ CA aa hm1 wM).mono fun r L ⟨h1,h2⟩=>⟨h1,_,rfl,h2⟩)).perm Cm) rfl ?_;rintro _ _ ⟨rfl,_,cA,rfl⟩;obtain rfl:=cA.symm;refine bQ ?_;refine aq (L':=Cv g A c (s.ew most)::F) (.cons (.skip (.skip (.refl _)))) ?_;refine aF ?_;exact⟨by simp[Cs.text,h0],rfl⟩
 ·have e1:s.ew most=s:=by simp[Cs.ew,Cs.eu,h0]
  have e2:s.text most=[]:=by simp[Cs.text,h0]
  rw[e1,e2];refine fw func304 10 [0,1] ?_;refine be ?_;refine bh fun g3=>?_;refine bG ?_;refine bc fun g5=>?_;refine bL ?_;refine ai rfl ((uP h0).perm Cm) ?_;refine bQ ?_;refine aq (L':=Cv g A c s::F) (.cons (.skip (.skip (.refl _)))) ?_;refine aF ?_;exact⟨rfl,rfl⟩
def mK(l:al)(n:Int):al:=if ij l n≠0 then [] else l.take n.toNat
def rB(l:al)(n:Int):Nat:=if ij l n≠0 then 0 else n.toNat
def ajx(h3 h5:Nat)(l:al)(m:Int)(F F':aP):Prop:=∃A' c',F'= .own 5 1 A' (mK l m).length c' (bv (mK l m)):: .bD h5 27 [.slice A' (mK l m).length c']:: .bD h3 3 [ah m]::F
theorem SU{l:al}{m:Int}(hb:aJ B w0 (.bD h5 27 [.slice none 0 0]:: .bD h3 3 [ah m]::F) 1 (.slice A n c) n (bv l))(hn:n≤1099511627776)(hm1:-9223372036854775808≤m)(wM:m≤9223372036854775807):
  a_ B w0 220 [.slice A n c,br h3,br h5] (C0:: .bD h5 27 [.slice none 0 0]:: .bD h3 3 [ah m]::F) (fun r L=>r= .tuple #[ah (rB l m),ah (ij l m)]∧∃F',ajx h3 h5 l m F F'∧L=C0::F'):=by
 refine dL.xf (L:=C0:: .bD h5 27 [.slice none 0 0]:: .bD h3 3 [ah m]::F) (aJ.cons hb) fun hc hl=>?_;simp at hl;refine fw func220 17 [0,1,2] ?_;refine de ?_;refine aj (fun h7=>?_) fun h7=>?_
 ·refine bJ ?_;have e1:ij l m=13:=ao h7;have e2:mK l m=[]:=by simp[mK,e1]
  have e3:rB l m=0:=by simp[rB,e1]
  refine aD 5 1 none ?_;refine aq (L':=C0:: .own 5 1 none 0 0 []:: .bD h5 27 [.slice none 0 0]:: .bD h3 3 [ah m]::F) (.swap (.refl _)) ?_;refine aF ?_;exact⟨by rw[e1,e3];try rfl,_,⟨none,0,by rw[e2];try rfl⟩,rfl⟩
 ·obtain⟨q,rfl⟩:=gM (show 0≤m by omega);refine cY ?_;refine aj (fun pg=>?_) fun pg=>?_
  ·refine bJ ?_;have e1:ij l q=1:=by unfold ij;rw[aw h7,ao aa]
   have e2:mK l q=[]:=by simp[mK,e1]
   have e3:rB l q=0:=by simp[rB,e1]
   refine aD 5 1 none ?_;refine aq (L':=C0:: .own 5 1 none 0 0 []:: .bD h5 27 [.slice none 0 0]:: .bD h3 3 [ah q]::F) (.swap (.refl _)) ?_;refine aF ?_;exact⟨by rw[e1,e3];try rfl,_,⟨none,0,by rw[e2];try rfl⟩,rfl⟩
  ·have hbt:=hb.iZ (k:=q) aa;have ebt:(bv l).take (q*1)=bv (l.take q):=by rw[cE,jX]
   rw[ebt]at hbt;refine bz ?_;refine ab (bN (i:=q) (size:=1) underlying27 ag rfl rfl rfl aa) rfl ?_;refine ay rfl (l_ (l.take q) aB aa) fun Bh JH=>?_;refine cY ?_;have e1:ij l q=0:=by unfold ij;rw[aw h7,aw aa]
   have e2:mK l q=l.take q:=by simp[mK,e1]
   have e3:rB l q=q:=by simp[rB,e1]
   have e4:(mK l q).length=q:=by rw[e2,eS];omega
   refine aq (L':=C0:: .own 5 1 Bh (mK l q).length JH (bv (mK l q)):: .bD h5 27 [.slice Bh (mK l q).length JH]:: .bD h3 3 [ah q]::F) (by rw[e4,e2];exact .swap (.refl _)) ?_;refine aF ?_;exact⟨by rw[e1,e3],_,⟨Bh,JH,rfl⟩,rfl⟩
theorem ae0(l:al)(n:Int):rB l n≤l.length:=by
 unfold rB;split
 ·omega
 ·rename_i h;exact(w5 nr).2
theorem WD{s:Cs}{n:Int}(h0:s.e=0):s.take n=mK s.rest n:=by simp[Cs.take,mK,h0]
theorem aeZ{s:Cs}{n:Int}:s.b_ n=s.eu (rB s.rest n) (ij s.rest n):=by
 unfold Cs.b_ Cs.eu rB;split
 ·rfl
 ·split
  ·rfl
  ·rfl
theorem mb(ho:cu s)(hb:aJ B w0 F 1 (.slice A s.b.length c) s.b.length (bv s.b)){m:Int}(hm1:-9223372036854775808≤m)(wM:m≤9223372036854775807):
  a_ B w0 171 [br g,ah m] (Cv g A c s::F) (fun r L=>∃A' c',r= .slice A' (s.take m).length c'∧L=Cv g A c (s.b_ m):: .own 5 1 A' (s.take m).length c' (bv (s.take m))::F):=by
 by_cases h0:s.e=0
 ·have hkb:=ae0 s.rest m;rw[ho.rest.1]at hkb;have hlb:=ho.rest.2;rw[WD h0,aeZ];refine fw func171 10 [0,1] ?_;refine be ?_;refine bh fun g3=>?_;refine bG ?_;refine bc fun g5=>?_;refine bz ?_;refine aX Uo rfl ((xF (F:=.bD g5 27 [.slice none 0 0]:: .bD g3 3 [ah m]::F) ho (aJ.cons (aJ.cons hb)) h0 (caps:=[br g3,br g5]) (R':=ajx g3 g5 s.rest m F) (k:=rB s.rest m) (er:=ij s.rest m) ao1 aa (fun A' c' CA=>SU CA aa hm1 wM)).perm Cm) rfl ?_;rintro _ _ ⟨rfl,_,⟨A8,c8,cA⟩,rfl⟩;obtain rfl:=cA.symm;refine bQ ?_;refine aq (L':=Cv g A c (s.eu (rB s.rest m) (ij s.rest m)):: .own 5 1 A8 (mK s.rest m).length c8 (bv (mK s.rest m))::F) (.cons (.cons (.skip (.skip (.refl _))))) ?_;refine aF ?_;exact⟨A8,c8,rfl,rfl⟩
 ·have e1:s.b_ m=s:=by simp[Cs.b_,Cs.eu,h0]
  have e2:s.take m=[]:=by simp[Cs.take,h0]
  rw[e1,e2];refine fw func171 10 [0,1] ?_;refine be ?_;refine bh fun g3=>?_;refine bG ?_;refine bc fun g5=>?_;refine bz ?_;refine ai rfl ((uP h0).perm Cm) ?_;refine bQ ?_;refine aD 5 1 none ?_;refine aq (L':=Cv g A c s:: .own 5 1 none 0 0 []::F) (.swap (.cons (.swap (.skip (.swap (.skip (.refl _))))))) ?_;refine aF ?_;exact⟨none,0,rfl,rfl⟩
theorem ZX(s:Cs):(s.take 1).length≤1:=by
 unfold Cs.take;split
 ·simp
 ·split
  ·simp
  ·simp only[eS];exact Nat.min_le_left _ _
theorem oo(ho:cu s)(hb:aJ B w0 F 1 (.slice A s.b.length c) s.b.length (bv s.b)):
  a_ B w0 173 [br g] (Cv g A c s::F) (fun r L=>r= .int .u8 (s.byte.toNat:Int)∧L=Cv g A c s.eJ::F):=by
 have h1:=ZX s;have eb:s.byte=((s.take 1).head?).getD 0:=rfl;have eb':s.eJ=s.b_ 1:=rfl;rw[eb,eb'];refine fw func173 12 [0] ?_;refine bQ ?_;refine ay rfl (mb ho hb (m:=1) aa aa) fun A5 c5=>?_;refine bA ?_;refine aj (fun h8=>?_) fun h8=>?_
 ·refine bF ?_;refine ab (aC (i:=0) (size:=1) underlying27 ag rfl rfl rfl aa aB) rfl ?_;refine bz ?_;refine aq (L':=Cv g A c (s.b_ 1)::F) (.cons (.skip (.refl _))) ?_;refine aF ?_;exact⟨by simp[List.getD,List.head?_eq_getElem?],rfl⟩
 ·refine bJ ?_;refine aq (L':=Cv g A c (s.b_ 1)::F) (.cons (.skip (.refl _))) ?_;refine aF ?_;have e0:s.take 1=[]:=mm aa;exact⟨by rw[e0];rfl,rfl⟩
theorem mU{l:al}(hb:eM B w0 F A c l)(hl:l.length≤1099511627776):
  a_ B w0 109 [.slice A l.length c] F (fun r L=>∃g A' c',r=br g∧L=Cv g A' c' ⟨l,0,0⟩:: .own 5 1 A' l.length c' (bv l)::F):=by
 refine fw func109 8 [0] ?_;refine bJ ?_;refine ay rfl (l_ l hb hl) fun A4 c4=>?_;refine ab (bw [(0,_)] [.slice none 0 0,ah 0] [0] [_,_] rfl rfl ag) rfl ?_;refine ab (bw [(0,_)] [.slice none 0 0,ah 0,ah 0] [0] [_,_,_] rfl rfl ag) rfl ?_;refine bh fun g7=>?_;refine bG ?_;exact⟨g7,A4,c4,rfl,rfl⟩
theorem Cs.Oo{s:Cs}(h:s.e=0){k:Nat}{e:Int}(hk:e≠0→k=0):s.eu k e=⟨s.b,s.at_+k,e⟩:=by
 unfold Cs.eu;rw[aw (by simp[h])];split
 ·rename_i he;rw[hk he];rfl
 ·rename_i he;have:e=0:=by simpa using he
  rw[this,←h]
theorem Cs.RK{s:Cs}(h:s.e=0)(m:Int):s.int m=(et s.rest m).1∧s.bX m=⟨s.b,s.at_+(et s.rest m).2.1,(et s.rest m).2.2⟩:=⟨by simp[Cs.int,h],Cs.Oo h fun he=>(pt he).2⟩
theorem ae2{l:al}{x k:Nat}{er:Int}(h:(FD l x k er).2.2≠0):(FD l x k er).1=[]∧(FD l x k er).2.1=0:=by
 unfold FD at h⊢;split
 ·exact⟨rfl,rfl⟩
 ·split
  ·exact⟨rfl,rfl⟩
  ·rename_i h1 h2;rw[aw h1,aw h2]at h;exact absurd rfl h
theorem Cs.ai2{s:Cs}(h:s.e=0)(m:Int):s.text m=(jO s.rest m).1∧s.ew m=⟨s.b,s.at_+(jO s.rest m).2.1,(jO s.rest m).2.2⟩:=⟨by simp[Cs.text,h],Cs.Oo h fun he=>(ae2 he).2⟩
theorem Cs.bad{s:Cs}(h:¬s.e=0):s.num=0∧s.lY=s∧(∀m,s.int m=0∧s.bX m=s∧s.text m=[]∧s.ew m=s∧s.take m=[]∧s.b_ m=s):=by
 refine⟨by simp[Cs.num,h],by simp[Cs.lY,Cs.eu,h],fun m=>⟨by simp[Cs.int,h],by simp[Cs.bX,Cs.eu,h],by simp[Cs.text,h],by simp[Cs.ew,Cs.eu,h],by simp[Cs.take,h],by simp[Cs.b_,Cs.eu,h]⟩⟩
theorem Ma{P:Prop}(h:P:=by(simp[h0])):P:=h
theorem L6{P:Prop}(h:P:=by(simpa using he)):P:=h
theorem qa:type_of% @List.drop_drop:= @List.drop_drop
theorem Cs.Au{s:Cs}(h:s.e=0)(n:Nat){er:Int}(he:er≠0):s.eu n er={s with e:=er}:=by unfold Cs.eu;rw[aw (by simp[h]),ao he]
theorem Cs.ur{s:Cs}(h:s.e=0)(n:Nat):s.eu n 0={s with at_:=s.at_+n}:=by unfold Cs.eu;rw[aw (by simp[h]),aw ak]
theorem Cs.Av{s:Cs}(h:s.e≠0)(n:Nat)(er:Int):s.eu n er=s:=by unfold Cs.eu;rw[ao h]
theorem ofNat_toNat(c:UInt8)(n:Nat)(h:n=c.toNat):UInt8.ofNat n=c:=by subst h;simp
theorem KT:∀(l:al) (i acc:Nat),(dp i acc l).2.2=0→
  ∃y,(dp i acc l).1=acc+y*128^i∧i≤(dp i acc l).2.1∧aS y=l.take ((dp i acc l).2.1-i)∧(0<i→0<y)∧(dp i acc l).2.1≤i+l.length:=by
 intro l;induction l with
 |nil=>intro i acc h;simp[dp]at h
 |cons c r ih=>
  intro i acc h;unfold dp at h⊢;by_cases h1:i=9∧c.toNat≠1∨0<i∧c.toNat=0
  ·rw[ao h1]at h;simp at h
  ·rw[aw h1]at h⊢;by_cases h2:c.toNat<128
   ·rw[ao h2];refine⟨c.toNat,?_,ak,?_,aa,aaP⟩
    ·show acc+c.toNat%128*128^i=_;rw[ja h2]
    ·show aS c.toNat=List.take (i+1-i) (c::r);rw[ot h2,yb];simp
   ·rw[aw h2]at h⊢;obtain⟨y,e1,e2,e3,e4,e5⟩:=ih _ _ h;have hy:=e4 aa;refine⟨c.toNat%128+128*y,?_,aa,?_,aa,aaP⟩
    ·rw[e1,nD,mH,NL];congr 2;rw[nE (128^i) 128,←tc,nE y 128]
    ·rw[uR aa];have hc:=c.toNat_lt;rw[show(c.toNat%128+128*y)/128=y by omega,e3,ofNat_toNat c _ aa];generalize hN:(dp (i+1) (acc+c.toNat%128*128^i) r).2.1=N at*;rw[show N-i=(N-(i+1))+1 by omega,q9]
theorem vg{l:al}(h:(cM l).2.2=0):aS (cM l).1=l.take (cM l).2.1:=by
 obtain⟨y,e1,_,e3,_⟩:=KT l 0 0 h;have:(cM l).1=y:=by unfold cM;rw[e1];simp
 rw[this,e3];rfl
theorem G3(r:al):∀(n y i acc:Nat),y≤n→y*128^i<18446744073709551616→(0<i→0<y)→
  dp i acc (aS y++r)=(acc+y*128^i,i+(aS y).length,0):=by
 intro n;induction n with
 |zero=>
  intro y i acc hy h h0;have hy0:y=0:=by omega
  subst hy0;have hi:i=0:=by
   rcases wQ i with h'|h'
   ·exact h'
   ·exact absurd (h0 h') aa
  subst hi;rw[ot aa];simp[dp]
 |succ n ih=>
  intro y i acc hy h h0;have hi9:i≤9:=by
   rcases ub 9 i with h'|h'
   ·exfalso;have h1:(128:Nat)^10≤128^i:=kZ aa aa;have e:(128:Nat)^10=1180591620717411303424:=by decide+kernel
    rw[e]at h1;have h2:1*128^i≤y*128^i:=ow _ (h0 aa);omega
   ·exact h'
  have e9:(128:Nat)^9=9223372036854775808:=by decide+kernel
  have hy9:i=9→y=1:=by
   intro hi;rw[hi,e9]at h;have:=h0 aa;omega
  by_cases fE:y<128
  ·rw[ot fE];have hu:=u8n y aa;show dp i acc (UInt8.ofNat y::r)=_;unfold dp;rw[hu,aw aa,ao fE,ja fE];rfl
  ·rw[uR aa];have hu:=u8n (128+y%128) aa;show dp i acc (UInt8.ofNat (128+y%128)::(aS (y/128)++r))=_;unfold dp;rw[hu,aw aa,aw aa,show(128+y%128)%128=y%128 by omega];have hd:y=y%128+128*(y/128):=by omega
   have hm:y*128^i=y%128*128^i+y/128*128^(i+1):=by
    conv=>lhs;rw[hd,mH]
    rw[nD,nE (128^i) 128,←tc,nE (y/128) 128]
   rw[ih (y/128) (i+1) _ aa aa aa,hm];simp only[ef];rw[show acc+y%128*128^i+y/128*128^(i+1)=acc+(y%128*128^i+y/128*128^(i+1)) by omega,show i+1+(aS (y/128)).length=i+((aS (y/128)).length+1) by omega]
theorem sj(x:Nat)(hx:x<18446744073709551616)(r:al):cM (aS x++r)=(x,(aS x).length,0):=by
 have:=G3 r x x 0 0 (gj _) (by simpa using hx) aa;simpa[cM]using this
theorem Cs.KJ{s:Cs}(h:s.lY.e=0):s.e=0∧(cM s.rest).2.2=0∧s.num=(cM s.rest).1∧s.lY={s with at_:=s.at_+(cM s.rest).2.1}:=by
 unfold Cs.lY at h⊢;by_cases h0:s.e=0
 ·by_cases he:(cM s.rest).2.2=0
  ·rw[he,Cs.ur h0];exact⟨h0,rfl,by unfold Cs.num;rw[aw Ma],rfl⟩
  ·rw[Cs.Au h0 _ he]at h;exact absurd h he
 ·rw[Cs.Av h0]at h;exact absurd h h0
theorem Cs.ag6{s:Cs}(h:s.xO.e=0):s.e=0∧s.left=0:=by
 unfold Cs.xO at h;split at h
 ·unfold Cs.failed at h;split at h
  ·exact absurd h ak
  ·rename_i h1 h2;exact absurd h h2
 ·exact⟨h,aa⟩
theorem Kx(a b:al):iM (a++b)=iM a+256^a.length*iM b:=by
 induction a with
 |nil=>simp[iM]
 |cons c r ih=>
  simp only[nC,iM,ih,ef,nD];rw[t_,NL];congr 2;rw[←tc,nE 256]
theorem Ex(x:Nat):∀k,iM (fF x k)=x%2^(8*k):=by
 intro k;induction k with
 |zero=>simp[fF,iM,Nat.mod_one]
 |succ k ih=>
  have e7:(256:Nat)^k=2^(8*k):=by rw[show(256:Nat)=2^8 from rfl,←Nat.pow_mul]
  rw[fF,Kx,ih,p8,e7];simp only[iM,Nat.mul_zero,ta];rw[u8n _ (sN _ aa),show 8*(k+1)=8*k+8 by omega,Nat.pow_add,Nat.mod_mul]
theorem Cs.amz{s:Cs}{x:Nat}{r:al}(h0:s.e=0)(hx:x<18446744073709551616)(hr:s.rest=aS x++r):
  s.num=x∧s.lY={s with at_:=s.at_+(aS x).length}:=by
 unfold Cs.num Cs.lY;rw[hr,sj x hx r,aw Ma];exact⟨rfl,Cs.ur h0 _⟩
theorem Cs.vf{s:Cs}{a r:al}{n:Nat}(hr:s.rest=a++r)(hn:n=a.length):Cs.rest {s with at_:=s.at_+n}=r:=by
 unfold Cs.rest at hr⊢;show s.b.drop (s.at_+n)=r;rw[←qa,hr,hn,BI]
theorem Cs.ai1{s:Cs}{t r:al}(h0:s.e=0){most:Int}(ht:(t.length:Int)≤most)(hm:most≤9223372036854775807)(hr:s.rest=fo t++r):
  s.text most=t∧s.ew most={s with at_:=s.at_+(fo t).length}:=by
 have hs:cM (fo t++r)=(t.length,(aS t.length).length,0):=by
  unfold fo;rw[bV];exact sj _ aa _
 have hl:et (fo t++r) most=(t.length,(aS t.length).length,0):=by
  unfold et;rw[hs];simp only[ne_eq,not_true_eq_false,if_false];rw[aw aa]
 have hx:jO (fo t++r) most=(t,(aS t.length).length+t.length,0):=by
  unfold jO;rw[hl];simp only[ne_eq,not_true_eq_false,if_false];rw[aw (by simp only[fo,aY];omega)];have e1:(fo t++r).drop (aS t.length).length=t++r:=by unfold fo;rw[bV,BI]
  rw[e1,yf]
 unfold Cs.text Cs.ew;rw[hr,hx,aw Ma];refine⟨rfl,?_⟩;rw[Cs.ur h0];simp[fo]
theorem Cs.aiY{s:Cs}{t r:al}(h0:s.e=0){n:Int}(hn:n=t.length)(hr:s.rest=t++r):
  s.take n=t∧s.b_ n={s with at_:=s.at_+t.length}:=by
 have ht:ij (t++r) n=0:=by
  unfold ij;rw[aw aa,aw bR]
 unfold Cs.take Cs.b_;rw[hr,ht,aw Ma,aw ak,hn,nB,yf];exact⟨rfl,Cs.ur h0 _⟩
theorem Cs.abL{s:Cs}(h0:s.e=0)(hr:s.rest=[]):s.xO.e=0:=by
 unfold Cs.xO;have:s.left=0:=by
  have:=ek List.length hr;simp[Cs.rest]at this;unfold Cs.left;omega
 rw[aw aa];exact h0
structure nO(s s':Cs)(p:al):Prop where
 e0:s.e=0
 eq:s'=⟨s.b,s.at_+p.length,0⟩
 rest:s.rest=p++s'.rest
theorem nO.e1{s s':Cs}{p:al}(h:nO s s' p):s'.e=0:=by rw[h.eq]
theorem nO.nil{s:Cs}(h:s.e=0):nO s s []:=⟨h,by cases s;simp at h;simp[h],rfl⟩
theorem nO.trans{s s' s'':Cs}{p q:al}(h:nO s s' p)(k:nO s' s'' q):nO s s'' (p++q):=by
 refine⟨h.e0,?_,by rw[h.rest,k.rest,bV]⟩;rw[k.eq,h.eq,aY,NL]
theorem nO.yx{s:Cs}{k:Nat}{er:Int}{p:al}(h:(s.eu k er).e=0)(hp:er=0→p=s.rest.take k)(hk:er=0→k≤s.rest.length):er=0∧nO s (s.eu k er) p:=by
 by_cases h0:s.e=0
 ·by_cases he:er=0
  ·subst he;have e1:=hp rfl;have e2:=hk rfl;have hl:p.length=k:=by rw[e1,eS];omega
   rw[Cs.ur h0];refine⟨rfl,h0,by rw[hl,←h0],?_⟩;rw[e1];show s.rest=s.rest.take k++s.b.drop (s.at_+k);rw[←qa];exact(jK k s.rest).symm
  ·rw[Cs.Au h0 _ he]at h;exact absurd h he
 ·rw[Cs.Av h0]at h;exact absurd h h0
theorem nO.cH{s s':Cs}{p r:al}(h:nO s s' p)(hr:s.rest=p++r):s'.rest=r:=by
 have:=h.rest;rw[hr]at this;exact(List.append_cancel_left this).symm
theorem Cs.ah7{s:Cs}(h:s.lY.e=0):nO s s.lY (aS s.num)∧s.num<18446744073709551616:=by
 have h0:=(Cs.KJ h).1;have h2:=(Cs.KJ h).2.1;have h3:=(Cs.KJ h).2.2.1;exact⟨(nO.yx h (fun _=>by rw[h3,vg h2]) (fun _=>(fg _).2.1)).2,by rw[h3];exact(fg _).1⟩
theorem Cs.VP{s:Cs}{x:Nat}{r:al}(h0:s.e=0)(hx:x<18446744073709551616)(hr:s.rest=aS x++r):s.num=x∧nO s s.lY (aS x):=by
 obtain⟨h1,h2⟩:=Cs.amz h0 hx hr;refine⟨h1,h0,by rw[h2,h0],?_⟩;rw[h2,Cs.vf hr rfl,hr]
theorem Vv{l:al}{m:Int}(h:(et l m).2.2=0):(cM l).2.2=0∧et l m=((cM l).1,(cM l).2.1,0)∧((cM l).1:Int)≤m:=by
 unfold et at h⊢;by_cases h1:(cM l).2.2≠0
 ·rw[ao h1]at h;exact absurd h h1
 ·rw[aw h1]at h⊢;by_cases h2:m<0∨m<(cM l).1
  ·rw[ao h2]at h;simp at h
  ·rw[aw h2]at h⊢;exact⟨C4,rfl,aa⟩
theorem Cs.EH{s:Cs}{k:Nat}{er:Int}(h:(s.eu k er).e=0):s.e=0∧er=0:=by
 by_cases h0:s.e=0
 ·by_cases he:er=0
  ·exact⟨h0,he⟩
  ·rw[Cs.Au h0 _ he]at h;exact absurd h he
 ·rw[Cs.Av h0]at h;exact absurd h h0
theorem Cs.Kq{s:Cs}{m:Int}(h:(s.bX m).e=0):nO s (s.bX m) (aS (s.int m))∧(s.int m:Int)≤m∧s.int m<18446744073709551616:=by
 obtain⟨h0,he⟩:=Cs.EH h;obtain⟨h1,h2,h3⟩:=Vv he;have hi:s.int m=(cM s.rest).1:=by rw[(Cs.RK h0 m).1,h2]
 refine⟨(nO.yx h (fun _=>by rw[hi,vg h1,h2]) (fun _=>by rw[h2];exact(fg _).2.1)).2,by rw[hi];exact h3,by rw[hi];exact(fg _).1⟩
theorem Cs.iB{s:Cs}{x:Nat}{r:al}(h0:s.e=0){m:Int}(hx:(x:Int)≤m)(hm:m≤9223372036854775807)(hr:s.rest=aS x++r):s.int m=x∧nO s (s.bX m) (aS x):=by
 have hs:=sj x aa r;have hl:et s.rest m=(x,(aS x).length,0):=by
  unfold et;rw[hr,hs];simp only[ne_eq,not_true_eq_false,if_false];rw[aw aa]
 have h2:=(Cs.RK h0 m).2;rw[hl]at h2;refine⟨by rw[(Cs.RK h0 m).1,hl],h0,h2,?_⟩;rw[h2,hr];congr 1;exact(Cs.vf hr rfl).symm
theorem Cs.yO{s:Cs}{m:Int}(h:(s.ew m).e=0):nO s (s.ew m) (fo (s.text m))∧((s.text m).length:Int)≤m:=by
 obtain⟨h0,he⟩:=Cs.EH h;have e:jO s.rest m=FD s.rest (et s.rest m).1 (et s.rest m).2.1 (et s.rest m).2.2:=rfl;rw[e]at he;by_cases hl:(et s.rest m).2.2=0
 ·obtain⟨h1,h2,h3⟩:=Vv hl;by_cases hx:s.rest.length-(et s.rest m).2.1<(et s.rest m).1
  ·rw[SW vI hx]at he;simp at he
  ·have e2:=SX (l:=s.rest) (x:=(et s.rest m).1) (k:=(et s.rest m).2.1) (er:=(et s.rest m).2.2) vI hx;rw[←e,h2]at e2;rw[h2]at hx;simp only at e2 hx;have hk:=(fg s.rest).2.1;have ht:s.text m=(s.rest.drop (cM s.rest).2.1).take (cM s.rest).1:=by rw[(Cs.ai2 h0 m).1,e2]
   have Ce:(s.text m).length=(cM s.rest).1:=by rw[ht,eS,iG];omega
   refine⟨(nO.yx h (fun _=>?_) (fun _=>by rw[e2];simp only;omega)).2,by rw[Ce];exact h3⟩;rw[fo,Ce,vg h1,ht,e2];simp only;rw[List.take_add]
 ·rw[SV hl]at he;exact absurd he hl
theorem Cs.rC{s:Cs}{t r:al}(h0:s.e=0){m:Int}(ht:(t.length:Int)≤m)(hm:m≤9223372036854775807)(hr:s.rest=fo t++r):s.text m=t∧nO s (s.ew m) (fo t):=by
 obtain⟨h1,h2⟩:=Cs.ai1 h0 ht hm hr;refine⟨h1,h0,by rw[h2,h0],?_⟩;rw[h2,Cs.vf hr rfl,hr]
theorem Cs.Pd{s:Cs}{n:Int}(h:(s.b_ n).e=0):nO s (s.b_ n) (s.take n)∧(s.take n).length=n.toNat∧0≤n:=by
 obtain⟨h0,he⟩:=Cs.EH h;have ht:=w5 he;have e:s.take n=s.rest.take n.toNat:=by rw[WD h0,mK,aw L6]
 exact⟨(nO.yx h (fun _=>e) (fun _=>ht.2)).2,by rw[e,eS];omega,ht.1⟩
theorem Cs.mv{s:Cs}{t r:al}(h0:s.e=0){n:Int}(hn:n=t.length)(hr:s.rest=t++r):s.take n=t∧nO s (s.b_ n) t:=by
 obtain⟨h1,h2⟩:=Cs.aiY h0 hn hr;refine⟨h1,h0,by rw[h2,h0],?_⟩;rw[h2,Cs.vf hr rfl,hr]
theorem Cs.aa'{s:Cs}(h:s.eJ.e=0):nO s s.eJ [s.byte]:=by
 obtain⟨h1,h2,_⟩:=Cs.Pd h;have h3:(s.take 1).length=1:=h2;obtain⟨c,hc⟩:=List.length_eq_one_iff.1 h3;have:s.byte=c:=by unfold Cs.byte;rw[hc];rfl
 rw[this,←hc];exact h1
theorem Cs.l8{s:Cs}{c:UInt8}{r:al}(h0:s.e=0)(hr:s.rest=c::r):s.byte=c∧nO s s.eJ [c]:=by
 obtain⟨h1,h2⟩:=Cs.mv (t:=[c]) (n:=1) h0 rfl hr;exact⟨by unfold Cs.byte;rw[h1];rfl,h2⟩
theorem abI(x:Nat):1≤(aS x).length:=by
 by_cases h:128≤x
 ·rw[uR h];simp
 ·rw[ot aa];simp
theorem M4(t:al):1≤(fo t).length:=by
 have:=abI t.length;unfold fo;rw[aY];omega
def LK(b:al):al×Int:=lx (jq b)
def ZL(b:al):Prop:=(LK b).2=0∧(LK b).1.length<b.length
instance (b:List UInt8):Decidable (ZL b):=inferInstanceAs (Decidable (_∧_))
def kl(b:al)(plain:Bool):UInt8×al:=if plain=false∧ZL b then (1,(LK b).1) else (0,b)
def xu(b:al)(plain:Bool):al:=(kl b plain).1::(aS b.length++aS (kl b plain).2.length)
def jA(b:al)(plain:Bool):al×Int:=if 32768<b.length then ([],6) else (cX (xu b plain++(kl b plain).2),0)
def UO(b:al):Cs:=if 1<(Cs.byte ⟨b,0,0⟩).toNat then (Cs.eJ ⟨b,0,0⟩).failed 2 else Cs.eJ ⟨b,0,0⟩
def frN(b:al):Nat:=(UO b).int 32768
def fr2(b:al):Cs:=(UO b).bX 32768
def zE(b:al):Nat:=(fr2 b).int 32768
def F_(b:al):Cs:=if 1032*zE b+64<frN b then ((fr2 b).bX 32768).failed 6 else (fr2 b).bX 32768
def PU(b:al):al:=(F_ b).take (zE b)
def X2(b:al):Cs:=((F_ b).b_ (zE b)).b_ 4
def xT(b:al):Cs:=if (X2 b).e≠0 then X2 b else (X2 b).failed (aI (b.take (X2 b).at_)).2
noncomputable def Nh(way n p:Nat)(body:al):al×Int:=
 if way=0 then (if n≠p then ([],2) else (body,0))
 else if (fK body n).2≠0 then ([],(fK body n).2)
 else if (kF (fK body n).1 n).2≠0 then ([],(kF (fK body n).1 n).2)
 else if (kF (fK body n).1 n).1.length<n then ([],2) else ((kF (fK body n).1 n).1,0)
noncomputable def Lw(b:al):al×Int:=Nh (Cs.byte ⟨b,0,0⟩).toNat (frN b) (zE b) (PU b)
noncomputable def dK(b:al):al×Nat×Int:=
 if (xT b).e≠0 then ([],0,(xT b).e) else if (Lw b).2≠0 then ([],0,(Lw b).2) else ((Lw b).1,(xT b).at_,0)
theorem xx(b:al)(plain:Bool):(kl b plain).2.length≤b.length:=by
 unfold kl;split
 ·rename_i h;exact Nat.le_of_lt h.2.2
 ·exact gj _
theorem X1(b:al):(jq b).length≤b.length:=by
 have:=DV b b.length 0 (bT _);unfold jq;omega
theorem Z6{l:List bO}{t:bO}(hm:∀t∈l,e_ t)(ht:t∈l):max 1 t.2.1≤129*((vF (fh l) (im l) t).length:Int):=by
 have hc:=Dk ht;have fG:=hm t ht;have fE:(bK t).1<265:=by
  by_cases h0:t.2.1=0
  ·rw[(u7 fG h0).1];have:=lQ t.1;simp only;omega
  ·have:=(nF fG h0).2.1;omega
 have h1:=kK (o:=JO l) (N:=265) aa fE hc;have e1:((fh l).getD (bK t).1 0).toNat≠0:=h1;unfold vF;rw[aY,mW];by_cases h0:t.2.1=0
 ·rw[h0];simp only[show max (1:Int) 0=1 from rfl];omega
 ·obtain⟨k1,k2,k3,k4,k5,k6,k7,k8⟩:=nF fG h0;have hf:=Di ht (by omega:256<(bK t).1);have h2:((im l).getD (bK t).2.2.1 0).toNat≠0:=kK (o:=wB l) (N:=12) aa aa hf;rw[aw aa,aY,aY,mW];unfold e_ at fG;rw[aw h0]at fG;omega
theorem FK{l:List bO}(hm:∀t∈l,e_ t):∀ts:List bO,(∀t∈ts,t∈l)→gS ts≤129*((mL (fh l) (im l) ts).length:Int)
 |[],_=>by
  have e:gS []=0:=rfl;omega
 |t::ts,h=>by
  have e:gS (t::ts)=max 1 t.2.1+gS ts:=rfl;rw[w7,aY,e];have h1:=Z6 hm (h t ak);have h2:=FK hm ts fun u hu=>h u (by simp[hu]);omega
theorem yC(t:bO)(r:List bO):gS (t::r)=max 1 t.2.1+gS r:=rfl
theorem AJ(most:Int):∀(l:List bO) (out:al),(ia most out l).2=0→((ia most out l).1.length:Int)=out.length+gS l
 |[],out,_=>by simp[ia,gS]
 |t::r,out,h=>by
  unfold ia at h⊢;split
  ·rename_i hc;rw[ao hc]at h;simp at h
  ·rename_i hc;rw[aw hc]at h;have fG:e_ t:=kR.1 hc;split
   ·rename_i h1;rw[ao h1]at h;simp at h
   ·rename_i h1;rw[aw h1]at h;split
    ·rename_i h2;rw[ao h2]at h;simp at h
    ·rename_i h2;rw[aw h2]at h;split
     ·rename_i h3;rw[ao h3]at h;have:=AJ most r _ h;rw[this,yC,h3];simp;omega
     ·rename_i h3;rw[aw h3]at h;have:=AJ most r _ h;rw[this,oB];unfold e_ at fG;rw[aw h3]at fG;rw[yC];have:=nG r;omega
theorem ZN{b:al}(h:(LK b).2=0):b.length≤1032*(LK b).1.length+64:=by
 have hm:∀t∈jq b,e_ t:=xQ b b.length 0;have mJ:=AJ b.length (jq b) [] (by
  have:=wX b b.length (Int.le_refl _);unfold kF at this;rw[aw aa]at this;rw[this])
 have LA:=wX b b.length (Int.le_refl _);unfold kF at LA;rw[aw aa]at LA;rw[LA]at mJ;unfold LK lx at h⊢;by_cases h1:32768<(jq b).length
 ·rw[ao h1]at h;simp at h
 ·rw[aw h1]at h⊢;rw[ao hm];have atx:=FK hm (jq b) fun t ht=>ht;have y_:=dJ (qm (jq b));have:(mL (fh (jq b)) (im (jq b)) (jq b)).length≤(qm (jq b)).length:=by unfold qm;simp only[aY];omega
  simp only at mJ⊢;rw[y_];simp only[r_]at mJ;omega
theorem Xo(b:al)(plain:Bool)(hb:b.length≤32768)(r:al){x:al}(hx:x=(jA b plain).1++r):
  (Cs.byte ⟨x,0,0⟩)=(kl b plain).1∧frN x=b.length∧zE x=(kl b plain).2.length∧PU x=(kl b plain).2∧xT x=⟨x,(jA b plain).1.length,0⟩:=by
 have hyl:=xx b plain;have ND:Cs.rest ⟨x,0,0⟩=(kl b plain).1::(aS b.length++(aS (kl b plain).2.length++((kl b plain).2++(mu (pP 0 (xu b plain++(kl b plain).2))++r)))):=by
  unfold Cs.rest;rw[tb,hx];unfold jA;rw[aw aa];unfold cX xu;simp[bV]
 obtain⟨b1,d1⟩:=Cs.l8 (s:=⟨x,0,0⟩) rfl ND;have h1:(kl b plain).1.toNat≤1:=by
  unfold kl;split
  ·exact(by decide:(1:UInt8).toNat≤1)
  ·exact(by decide:(0:UInt8).toNat≤1)
 have e1:UO x=Cs.eJ ⟨x,0,0⟩:=by unfold UO;rw[b1,aw aa]
 have r1:=d1.cH (p:=[(kl b plain).1]) ND;obtain⟨n1,d2⟩:=Cs.iB (m:=32768) d1.e1 aa aa r1;have r2:=d2.cH r1;obtain⟨p1,d3⟩:=Cs.iB (m:=32768) d2.e1 aa aa r2;have r3:=d3.cH r2;have eN:frN x=b.length:=by unfold frN;rw[e1];exact n1
 have e2:fr2 x=(Cs.eJ ⟨x,0,0⟩).bX 32768:=by unfold fr2;rw[e1]
 have eP:zE x=(kl b plain).2.length:=by unfold zE;rw[e2];exact p1
 have asJ:b.length≤1032*(kl b plain).2.length+64:=by
  unfold kl;split
  ·rename_i h;exact ZN h.2.1
  ·simp only;omega
 have e3:F_ x=((Cs.eJ ⟨x,0,0⟩).bX 32768).bX 32768:=by unfold F_;rw[eP,eN,aw aa,e2]
 obtain⟨t1,d4⟩:=Cs.mv (n:=((kl b plain).2.length:Nat)) d3.e1 rfl r3;have r4:=d4.cH r3;obtain⟨t2,d5⟩:=Cs.mv (n:=4) d4.e1 rfl r4;have eB:PU x=(kl b plain).2:=by unfold PU;rw[e3,eP];exact t1
 have e4:X2 x=(((((Cs.eJ ⟨x,0,0⟩).bX 32768).bX 32768).b_ ((kl b plain).2.length:Nat)).b_ 4):=by unfold X2;rw[e3,eP]
 have mF:=(((d1.trans d2).trans d3).trans d4).trans d5;have hlen:(jA b plain).1.length=([(kl b plain).1]++aS b.length++aS (kl b plain).2.length++(kl b plain).2++mu (pP 0 (xu b plain++(kl b plain).2))).length:=by
  unfold jA;rw[aw aa];unfold cX xu;simp[bV]
 have e4':X2 x=⟨x,(jA b plain).1.length,0⟩:=by
  rw[e4,mF.eq,←hlen];simp
 have hcut:aI (x.take (jA b plain).1.length)=(xu b plain++(kl b plain).2,0):=by
  rw[hx,yf];unfold jA;rw[aw aa];exact ju _
 refine⟨b1,eN,eP,eB,?_⟩;unfold xT;rw[e4'];simp only;rw[aw ak,hcut];rfl
theorem Mh(b:al)(plain:Bool)(hb:b.length≤32768)(r:al):dK ((jA b plain).1++r)=(b,(jA b plain).1.length,0):=by
 obtain⟨x,hx⟩:=cN ((jA b plain).1++r);obtain⟨h1,h2,h3,h4,h5⟩:=Xo b plain hb r hx;rw[←hx];have hy:Lw x=(b,0):=by
  unfold Lw;rw[h1,h2,h3,h4];unfold Nh kl;by_cases hs:plain=false∧ZL b
  ·rw[ao hs];simp only;have hm:∀t∈jq b,e_ t:=xQ b b.length 0;have mJ:=zA b b.length 0 (bT _);have hsq:=hs.2.1;have hw:(LK b).1=packed (qm (jq b)):=by
    unfold LK lx at hsq⊢;by_cases h1:32768<(jq b).length
    ·rw[ao h1]at hsq;simp at hsq
    ·rw[aw h1,ao hm]
   have oH:fK (LK b).1 (b.length:Int)=(jq b,0):=by
    rw[hw];exact Z_ hm (by unfold jq;simpa using mJ)
   have hp:=wX b b.length (Int.le_refl _);rw[aw aA,oH];simp only;rw[hp];simp
  ·rw[aw hs];simp
 unfold dK;rw[h5,hy];simp
abbrev aR:=Int×Bool×Int×Int×Int×Int
def aR.cells(o:aR):cV:=[ah o.1,.bool o.2.1,ah o.2.2.1,ah o.2.2.2.1,ah o.2.2.2.2.1,ah o.2.2.2.2.2]
def gR:aR:=(0,false,0,0,0,0)
def PI(x lo hi:Int):Prop:=lo≤x∧x≤hi
instance (x lo hi:Int):Decidable (PI x lo hi):=inferInstanceAs (Decidable (_∧_))
def anr(o:aR):Prop:=PI o.2.2.2.1 1 255∧PI o.2.2.2.2.1 0 (255-o.2.2.2.1)∧PI o.2.2.2.2.2 1 4096
instance (o:aR):Decidable (anr o):=inferInstanceAs (Decidable (_∧_∧_))
def nV(v:Int)(o:aR):Prop:=
 PI o.1 16 32768∧
 (v=3→anr o)∧(v=3∨v=2→PI o.2.2.1 1 64)∧
 (¬v=3→o.2.2.2.1=0∧o.2.2.2.2.1=0∧o.2.2.2.2.2=0)∧(v=1→o.2.2.1=0)
instance (v:Int)(o:aR):Decidable (nV v o):=inferInstanceAs (Decidable (_∧_∧_∧_∧_))
def cB(v:Int)(o:aR):Int:=if v=1∨v=2∨v=3 then (if nV v o then 0 else 9) else 4
def dY:al:=[70,73,82,75]
def qf(v:Int):al×Int:=if PI v 1 3 then (dY++[UInt8.ofNat v.toNat],0) else ([],4)
def marked(b:al):Int×Int:=
 if b.length≤4 then (0,1) else if¬b.take 4=dY then (0,3) else if¬PI ((b.getD 4 0).toNat:Int) 1 3 then (0,4) else ((b.getD 4 0).toNat,0)
theorem lS{v:Int}(h:PI v 1 3)(r:al):marked ((qf v).1++r)=(v,0):=by
 obtain⟨h1,h2⟩:=h;have hv:v=1∨v=2∨v=3:=by omega
 rcases hv with rfl|rfl|rfl
 ·show marked (70::73::82::75::1::r)=_;unfold marked;rw[aw ak,aw (by simp[dY]),aw (by simp[PI])];rfl
 ·show marked (70::73::82::75::2::r)=_;unfold marked;rw[aw ak,aw (by simp[dY]),aw (by simp[PI])];rfl
 ·show marked (70::73::82::75::3::r)=_;unfold marked;rw[aw ak,aw (by simp[dY]),aw (by simp[PI])];rfl
section
open Go.RowKit Go.ChangeShapes Go.WideShapes Go.ChangeAt
theorem IB:type_of% @Int.toNat_of_nonneg:= @Int.toNat_of_nonneg
theorem jJ:type_of% @List.flatMap_cons:= @List.flatMap_cons
theorem sO:type_of% @List.getElem?_append_right:= @List.getElem?_append_right
def W9(P:Program)(w:World)(t:TypeId){α:Type}(F:α→cV)(Ok:α→Prop):Prop:=
 ∀(H:Type) (enc:TypeId×Value→H) (n:Nat) (cs:cV) (y:DataW H×List MemPlace),
  DataW.trod enc P w 0 (fun _=>true) true n t cs=some y→∃x,cs=F x∧Ok x
section
variable{P:Program}{w:World}{t:TypeId}
theorem alk(ht:P.underlying t=some (.int .u8)):W9 P w t (fun b:UInt8=>[.int .u8 (b.toNat:Int)]) (fun _=>True):=by
 intro H enc n cs y h;obtain⟨m,rfl,_,hw⟩:=DataW.trod_int ht h;have hb:=bounds_u8 hw;refine⟨UInt8.ofNat m.toNat,?_,trivial⟩;have e:(UInt8.ofNat m.toNat).toNat=m.toNat:=by simp;omega
 dsimp only;rw[e,IB hb.1]
theorem Bt{α:Type}{F:α→cV}{size:Nat}(hF:∀x,(F x).length=size):∀(L:List α) (i j:Nat),j<size→(L.flatMap F)[i*size+j]? =(L[i]?).bind fun x=>(F x)[j]? :=by
 intro L;induction L with
 |nil=>intro i j _;simp
 |cons x L ih=>
  intro i j hj;rw[jJ];rcases i with _|i
  ·rw[z8 (by rw[hF];omega)];simp
  ·rw[sO (by rw[hF,j0];omega),hF,show(i+1)*size+j-size=i*size+j by rw[j0];omega,ih i j hj];simp
theorem XF{e:TypeId}{α:Type}{F:α→cV}{Ok:α→Prop}{size:Nat}(ht:P.underlying t=some (.slice e))(hc:P.cellsOf e=size)(hs:0<size)(hF:∀x,(F x).length=size)(he:W9 P w e F Ok):
  W9 P w t (fun x:Value×List α=>[x.1]) (fun x=>Rd w w.heap.size size x.1 x.2.length (x.2.flatMap F)∧(∀y∈x.2,Ok y)∧x.2.length≤maxLen):=by
 intro H enc n cs y h;rcases Deep.open_slice ht h with⟨rfl,_⟩|⟨a,len,cap,m,n',D,Pl,rfl,_,hl,hm,hmm,_,D9⟩
 ·exact⟨(.slice none 0 0,[]),rfl,Rd.AA,ak,ak⟩
 ·simp only[if_true]at hmm;have hex:∀i,i<len→∃x,w.cells? 0 (a.add (i*P.cellsOf e)) (P.cellsOf e)=some (F x)∧Ok x:=by
   intro i hi;obtain⟨cs',h1,h2⟩:=D9 i aa;obtain⟨x,rfl,ho⟩:=he H enc _ _ _ h2;exact⟨x,h1,ho⟩
  have aqc:∀k,k≤len→∃L:List α,L.length=k∧∀i x,L[i]? =some x→w.cells? 0 (a.add (i*P.cellsOf e)) (P.cellsOf e)=some (F x)∧Ok x:=by
   intro k;induction k with
   |zero=>intro _;exact⟨[],rfl,ak⟩
   |succ k ih=>
    intro hk;obtain⟨L,hL,hLi⟩:=ih aa;obtain⟨x,hx⟩:=hex k aa;refine⟨L++[x],by simp[hL],fun i z hz=>?_⟩;rw[List.getElem?_append]at hz;split at hz
    ·exact hLi i z hz
    ·rename_i fE;have:i=k:=by
      have:=(zY.1 hz).1;simp at this;omega
     subst this;simp[hL]at hz;subst hz;exact hx
  obtain⟨L,hL,hLi⟩:=aqc len (gj _);refine⟨(.slice (some a) len cap,L),rfl,⟨some a,cap,by rw[hL],by rw[hL];exact hl,?_,fun hn=>⟨a,rfl,?_,?_⟩⟩,?_,by show L.length≤maxLen;omega⟩
  ·show(L.flatMap F).length=L.length*size;clear hL hLi;induction L with
   |nil=>simp
   |cons x L ih=>simp[ih,hF,j0,sL]
  ·obtain⟨x,hx⟩:∃x,L[0]? =some x:=by
    rcases L with _|⟨x,L⟩
    ·simp at hn
    ·exact⟨x,rfl⟩
   have:=(hLi 0 x hx).1;rw[hc]at this;have:=(World.cells?_some this).2.2 0 hs;simp[Addr.add]at this;rcases ub a.block w.heap.size with fE|wH
   ·exact fE
   ·rw[World.cell?,Array.getElem?_eq_none wH]at this;have h0:=hF x;have:(F x)[0]? =none:=by simpa using this.symm
    have:=List.getElem?_eq_none_iff.1 this;omega
  ·intro j u hu;have hj:j=j/size*size+j%size:=by have:=Nat.div_add_mod j size;rw[nE]at this;omega
   rw[hj,Bt hF L _ _ (sN _ hs)]at hu;obtain⟨x,hx,hu⟩:=Option.bind_eq_some_iff.1 hu;have hcx:=(hLi _ x hx).1;rw[hc]at hcx;have:=(World.cells?_some hcx).2.2 (j%size) (sN _ hs);rw[lD,←hj]at this;rw[this,hu]
  ·intro y hy;obtain⟨i,hi⟩:=List.getElem?_of_mem hy;exact(hLi i y hi).2
theorem Q4(l:al):l.flatMap (fun b:UInt8=>[Value.int .u8 (b.toNat:Int)])=bv l:=by
 induction l with
 |nil=>rfl
 |cons x l ih=>simp[bv]at ih⊢;exact ih
end
section
variable{P:Program}{w:World}{t:TypeId}
theorem W9.arg{α:Type}{F:α→cV}{Ok:α→Prop}(hd:W9 P w t F Ok){H:Type}{enc:TypeId×Value→H}{v:Value}{d:DataW H}{ps:List MemPlace}(h:DataW.Trod enc P w 0 (fun _=>true) true t v d ps):∃x,v.cells.toList=F x∧Ok x:=by
 obtain⟨n,h⟩:=h;exact hd H enc n _ _ h
theorem Mw{v:Value}{x:Value}(a:bj)(n c:Nat)(hv:v= .slice a n c)(h:v.cells.toList=[x]):x=v:=by
 subst hv;simp[Value.cells]at h;exact h.symm
end
section
variable{P:Program}{w:World}{t:TypeId}
end
end
abbrev aK:=Nat×UInt8×al×al
def aK.cells(x:aK):cV:=[.int .u64 x.1,.int .u8 (x.2.1.toNat:Int),.string ⟨x.2.2.1.toArray⟩,.string ⟨x.2.2.2.toArray⟩]
def aK.ok(x:aK):Prop:=x.1<18446744073709551616∧True∧x.2.2.1.length≤maxLen∧x.2.2.2.length≤maxLen
def di(L:List aK):cV:=L.flatMap aK.cells
def recAt(L:List aK)(k:Nat):aK:=L.getD k (0,0,[],[])
theorem CN{L:List aK}{k:Nat}(hk:k<L.length){j:Nat}(hj:j<4):(di L)[k*4+j]? =(aK.cells (recAt L k))[j]? :=by
 rw[di,Bt (size:=4) (fun _=>rfl) L k j hj,recAt,bk,fm hk];rfl
theorem vW:type_of% @List.sum_append:= @List.sum_append
theorem jb:type_of% @List.map_append:= @List.map_append
def aK.w(x:aK):Nat:=16+x.2.2.1.length+x.2.2.2.length
def dU(L:List aK):Nat:=(L.map aK.w).sum
theorem aaw(L:List aK)(x:aK):dU (L++[x])=dU L+x.w:=by simp[dU]
theorem rF{L:List aK}{k:Nat}(h:k<L.length):dU (L.take (k+1))=dU (L.take k)+(recAt L k).w:=by
 rw[ba h (0,0,[],[]),aaw];rfl
theorem qo(L:List aK)(k:Nat):dU (L.take k)≤dU L:=by
 have h:dU L=dU (L.take k)+dU (L.drop k):=by
  rw[dU,dU,dU,←vW,←jb,jK]
 omega
theorem yF(x:aK):∀u∈x.cells,u.oneCell'=true:=by simp[aK.cells,Value.oneCell']
theorem oL{L:List aK}{k:Nat}(hk:k<L.length):∀(q:Nat) (u:Value),(aK.cells (recAt L k))[q]? =some u→(di L)[k*4+q]? =some u:=fun q u h=>by
 have hq:q<4:=by
  have:=(zY.1 h).1;simpa[aK.cells]using this
 rw[CN hk hq];exact h
set_option maxRecDepth 20000 in
theorem afZ(L:List aK)(hb:aJ B w0 F 4 (.slice A L.length c) L.length (di L))(hw:dU L<4611686018427387904)(hl:L.length<4611686018427387904):
  a_ B w0 81 [.slice A L.length c] F (fun r K=>r=ah (dU L)∧K=F):=by
 refine fw func81 24 [0] ?_;refine zH ?_;refine aE (fun zf zL zm=>∃(k:Nat),(k≤L.length)∧L.length-k=zm∧Sub zf [(3,ah (dU (L.take k))),(6,.slice A L.length c),(7,ah L.length),(8,ah k)]∧Wk zL (F)) _ ⟨0,bT _,rfl,bp,.refl _⟩ ?_;rintro _ _ _ ⟨k,hk,rfl,hs,hp⟩;refine aU hs hp ?_;clear hs hp;refine bz ?_;refine aj (fun h9=>?_) fun h9=>?_
 ·have hws:=rF (L:=L) (k:=k) aa;have CD:=qo L (k+1);have qy:=yF (recAt L k);have hrw:(recAt L k).w=16+(recAt L k).2.2.1.length+(recAt L k).2.2.2.length:=rfl;refine bz ?_;refine ab (aC (i:=k) underlying24 ag rfl rfl rfl aa aB) rfl ?_;refine ab (dI 4 ag rfl aB aa (aK.cells (recAt L k)) (oL aa) rfl) rfl ?_;refine bc fun g5=>?_;refine Ke ?_;refine ve [3,6,7,8] ?_;refine av ⟨_,aa,k+1,aa,rfl,bp,.skip (.refl _)⟩
 ·refine de ?_;have Ca:k=L.length:=by omega
  subst Ca;exact⟨by rw[jU],rfl⟩
theorem abK{x k:Nat}{pre:al}(h:aS x=pre++aS k)(hk:128≤k):aS x=(pre++[UInt8.ofNat (128+k%128)])++aS (k/128):=by
 rw[h,uR hk];simp
theorem abJ{x k:Nat}{pre:al}(h:aS x=pre++aS k)(hk:k<128):aS x=pre++[UInt8.ofNat k]:=by
 rw[h,ot hk]
theorem ag5{x k:Nat}{pre:al}(h:aS x=pre++aS k)(hx:x<18446744073709551616):pre.length≤10:=by
 have h1:=ek List.length h;have h2:=aT hx;rw[aY]at h1;omega
theorem Mo{v:Nat}(hv:v<256)(l:al):bv l++[Value.int .u8 (v:Int)]=bv (l++[UInt8.ofNat v]):=by
 have:(UInt8.ofNat v).toNat=v:=by rw[od];exact ja hv
 simp[bv,this]
theorem as2(k:Nat):IntKind.u8.wrap (k:Int)=((k%256:Nat):Int):=by show(k:Int)%256=_;omega
theorem aqI(k:Nat):IntKind.u8.wrap ((BitVec.ofInt IntKind.u8.bits ((k%256:Nat):Int) ||| BitVec.ofInt IntKind.u8.bits 128).toNat:Int)=((128+k%128:Nat):Int):=by
 have h:=u8_or (k%256) 128 aa aa;rw[show((128:Nat):Int)=128 from rfl]at h;have e:=adT (k%256) aa;refine(Eq.trans h ?_);rw[e];omega
theorem atm(k:Nat):(k:Int).fdiv (2^min (7:Int).toNat IntKind.u64.bits)=((k/128:Nat):Int):=by
 have e:min (7:Int).toNat IntKind.u64.bits=7:=by decide
 rw[e,vT _ aA];rfl
set_option maxRecDepth 20000 in
theorem iN(x:Nat)(hx:x<18446744073709551616):a_ B w0 63 [.int .u64 x] F (fun r L=>∃A c,r= .slice A (aS x).length c∧L= .own 5 1 A (aS x).length c (bv (aS x))::F):=by
 refine fw func63 19 [0] ?_;refine bz ?_;refine aZ 5 1 none ?_;refine bz ?_;refine aE (fun zf zL zm=>∃(k:Nat) (pre:al) (A3:bj) (c3:Nat),(k≤x∧aS x=pre++aS k)∧k=zm∧Sub zf [(0,.int .u64 k),(3,.slice A3 pre.length c3)]∧Wk zL (.own 5 1 A3 pre.length c3 (bv pre)::F)) _ ⟨x,[],none,0,⟨gj _,ak⟩,rfl,bp,ax rfl rfl (.refl _)⟩ ?_;rintro _ _ _ ⟨k,pre,A3,c3,⟨hk,he⟩,rfl,hs,hp⟩;refine aU hs hp ?_;clear hs hp;have mJ:=ag5 he hx;refine bL ?_;refine aj (fun h5=>?_) fun h5=>?_
 ·have hl:=(show(pre++[UInt8.ofNat (128+k%128)]).length=pre.length+1 by simp)
  refine bL ?_;refine ab (bm underlying60 underlying5 rfl (as2 k)) rfl ?_;refine ab (tK rfl rfl (aqI k)) rfl ?_;refine dE cD rfl rfl rfl rfl rfl (fun _=>rfl) aV aa aa ?_;intro _ tz xg;rw[←hl];refine bG ?_;refine ab (dj rfl rfl aa (atm k)) rfl ?_;refine bF ?_;refine av ⟨_,aa,k/128,pre++[UInt8.ofNat (128+k%128)],tz,xg,⟨aa,abK he aa⟩,rfl,bp,ax rfl (Mo aa pre) (.refl _)⟩
 ·have hl:=(show(pre++[UInt8.ofNat k]).length=pre.length+1 by simp)
  refine bA ?_;refine dE cD rfl rfl rfl rfl rfl (fun _=>rfl) aV aa aa ?_;intro _ sX uO;rw[←hl];refine b8 ?_;have D9:=abJ he aa;rw[D9];refine aq (ax rfl (Mo aa pre) (.refl _)) ?_;refine aF ?_;exact⟨sX,uO,rfl,rfl⟩
theorem K6(s:al)(hs:s.length≤1099511627776):a_ B w0 143 [.string ⟨s.toArray⟩] F (fun r L=>∃A c,r= .slice A (fo s).length c∧L= .own 5 1 A (fo s).length c (bv (fo s))::F):=by
 have h:=fun w=>anu (⟨s.toArray⟩:ByteArray) (by simpa[ByteArray.size]using hs) w;exact dL.AE fun w _=>h w
theorem T5{P:Prop}(h:P:=by(simpa using hc)):P:=h
theorem ua:type_of% @List.flatMap_append:= @List.flatMap_append
theorem X_(w:World):
  Calls Tryz.prog 163 #[.slice none 0 0,ah 0] w fun e w'=>e= .returned (.slice none 0 0)∧w=w':=by
 go_enter func163,Tryz.ntmps163
 go_wp2
 go_ret
 exact⟨rfl,rfl⟩
def ajw(w:World)(e:Ending)(w':World):Prop:=∃v,e= .returned v∧w'.ownsRow w.heap.size 5 1 v 0 []
theorem adW{w:World}{base:Nat}{e:TypeId}{g cap:Nat}{cur:Array Value}(h:w.heap[g]? =some (.cells cur e (0,0)))(hb:base≤g)(hm:cap≤maxLen)(hc:cur.size=cap):
  w.ownsRow base e 1 (.slice (some ⟨g,0,none⟩) 0 cap) 0 []:=
 ⟨rfl,.inr ⟨g,cap,cur,rfl,hb,h,bT _,hm,T5,ak⟩⟩
set_option maxRecDepth 100000 in
theorem acb(n:Nat)(h:0<n)(hn:n≤1099511627776)(w:World):
  Calls Tryz.prog 163 #[.slice none 0 0,ah n] w fun e w'=>ajw w e w'∧Below w.heap.size w w':=by
 obtain⟨i,hi,hz,hs,D8⟩:=WV;have s7:=Lib.run_append_nil_zeros (P:=Tryz.prog) w 27 3 27 5 i (.int .u8 0) .i64 .i64 underlying27 underlying3 hi hz n h aa aa (by rw[D8];omega);have wH:=grownCap_ge w n 0 5;have hle:=grownCap_le_maxLen w n 0 5 Bl;generalize hG:grownCap w n 0 5=G at*;have h1:¬((n:Int)<0):=by omega
 have h2:(0:Int)<n:=by omega
 have HR:=jI s7;have HG:=jI hG;clear s7 hG hi hz hs D8
 go_enter func163,Tryz.ntmps163
 go_wp2_with (at_builtin;refine Lib.wpList_append_run _ rfl _ _ _ _ rfl _ _ rfl rfl _ _ HR.out ?_)
 go_ret
 refine⟨⟨_,rfl,adW (Es _ _) (gj _) hle ?_⟩,((GW _ _).alloc (gj _) _).drew⟩;simp[size_zeroCells];omega
theorem alC(n:Nat)(hn:n≤1099511627776)(w:World):
  Calls Tryz.prog 163 #[.slice none 0 0,ah n] w fun e w'=>ajw w e w'∧Below w.heap.size w w':=by
 rcases wQ n with h|h
 ·subst h;refine(X_ w).mono fun e w' ⟨h1,h2⟩=>?_;subst h2;exact⟨⟨_,h1,World.ownsRow_nil _ _ _ _⟩,GW _ _⟩
 ·exact acb n h hn w
abbrev eh:=List (Value×al)
def eh.Co(P:eh):cV:=P.map (·.1)
def eh.all(P:eh):al:=P.flatMap (·.2)
def eh.ok(P:eh)(w:World)(B:Nat):Prop:=∀x∈P,Rd w B 1 x.1 x.2.length (bv x.2)
theorem eh.vH(P:eh){k:Nat}{x:Value×al}(h:P[k]? =some x):eh.all (P.take (k+1))=eh.all (P.take k)++x.2:=by
 have hk:=(zY.1 h).1;have hx:=(zY.1 h).2;unfold eh.all;rw[List.take_succ_eq_append_getElem hk,ua,hx];simp
theorem eh.Bk(P:eh)(k:Nat):(eh.all (P.take k)).length≤(eh.all P).length:=by
 unfold eh.all
 conv=>rhs;rw[←jK k P,ua]
 simp
theorem eh.at_{P:eh}{w:World}{B:Nat}{A:bj}{n:Nat}(hr:0<n→∃ad,A=some ad∧ad.block<B∧∀j u,P.Co[j]? =some u→w.cell? (ad.add j)=some u)(hP:P.ok w B)(hn:n=P.length){k:Nat}(hk:k<n):∃ad A' c' x,A=some ad∧ad.block<B∧P[k]? =some x∧w.cell? (ad.add k)=some (.slice A' x.2.length c')∧Rd w B 1 (.slice A' x.2.length c') x.2.length (bv x.2):=by
 obtain⟨ad,rfl,hb,hc⟩:=hr aa;have hx:P[k]? =some (P[k]'aa):=fm aa;have tW:=hP _ (List.mem_of_getElem? hx);have fy:=hc k (P[k]'aa).1 (by simp[eh.Co,hx]);obtain⟨A',c',hv,h4,h5,h6⟩:=tW;rw[hv]at fy;exact⟨ad,A',c',_,rfl,hb,hx,fy,A',c',rfl,h4,h5,h6⟩
set_option maxRecDepth 100000 in
set_option maxHeartbeats 800000 in
theorem MF{B n:Nat}{v:Value}{P:eh}(w:World)(hn:n=P.length)(h:Rd w B 1 v n P.Co)(hP:P.ok w B)(hB:B≤w.heap.size)(hlen:P.all.length≤1099511627776)(D6:P.length≤1099511627776):
  Calls Tryz.prog 93 #[v] w fun e w'=>∃v',e= .returned v'∧w'.ownsRow w.heap.size 5 1 v' P.all.length (bv P.all)∧Below w.heap.size w w':=by
 obtain⟨A,c,rfl,hc,hl,hr⟩:=h;rw[←hn]at D6;have Hr:=jI hr;have HP:=jI hP;have Hn:=jI hn;have Hl:=jI hlen;clear hr hP hn hlen hl
 go_enter func93,Tryz.ntmps93
 go_wp2
 go_loop [3,5,11] (fun z s i=>∃k m:Nat,k≤n∧i=ah k∧z=ah m∧m≤1099511627776∧Hid (m=(eh.all (P.take k)).length)) (fun _ _ i=>n-(intOf i).toNat)
 case atStart=>exact⟨0,0,bT _,rfl,rfl,bT _,by simp[Hid,eh.all]⟩
 case round=>
  obtain⟨k,m,hk,rfl,rfl,hm,HM⟩:=hrel;by_cases fE:k<n
  ·obtain⟨ad,A',c',x,rfl,hab,hx,fy,tW⟩:=eh.at_ Hr.out HP.out Hn.out fE;have e1:=eh.vH P hx;have e2:=eh.Bk P (k+1);have y9:m+x.2.length=(eh.all (P.take (k+1))).length:=by rw[e1,aY,HM.out]
   have wM:m+x.2.length≤1099511627776:=by rw[y9];exact jd e2 Hl.out
   have HM2:=jI y9;clear y9 e1 e2 tW hx
   go_wp2
   go_round
   case rel=>exact⟨k+1,m+x.2.length,aa,by go_num,by go_num,wM,HM2⟩
   case measure=>simp[intOf];omega
  ·have hkn:k=n:=by omega
   have y9:m=P.all.length:=by rw[HM.out,hkn,Hn.out,jU]
   have HM2:=jI y9;clear y9 hkn
   go_wp2_with (go_at_call 163;refine(alC m aa _).mono ?_;rintro e w1 ⟨⟨v1,rfl,Eb⟩,p9⟩)
   have hwB:=p9.mono hB
   go_loopw [6,8,27] (fun o s i wr=>∃k:Nat,k≤n∧i=ah k∧wr.ownsRow w.heap.size 5 1 o (eh.all (P.take k)).length (bv (eh.all (P.take k)))∧Below w.heap.size w wr) (fun _ _ i _=>n-(intOf i).toNat)
   case atStart=>exact⟨0,bT _,rfl,by simpa[eh.all]using Eb,p9⟩
   case round=>
    obtain⟨k,hk,rfl,mj,hb⟩:=hrel;by_cases fE:k<n
    ·obtain⟨ad,A',c',x,rfl,hab,hx,acv,aqp⟩:=eh.at_ Hr.out HP.out Hn.out fE;have fy:=(hb.cell (p:=ad.add k) (by rw[rR];omega)).trans acv;have tW:=aqp.below (hb.mono hB);have e1:=jI (eh.vH P hx);have e2:=eh.Bk P (k+1);have e3:(eh.all (P.take k)).length+x.2.length≤1099511627776:=by
      rw[e1.out,aY]at e2;exact jd e2 Hl.out
     have i_:=hb.size;clear e2 aqp acv hx
     go_wp2_with (at_builtin;refine TC Wp rfl (.tmp 31) (.tmp 32) rfl rfl mj rfl tW (qs _) hb (gj _) i_ aa aa ?_;intro v2 w2 Is oH Nu)
     go_roundw
     case rel=>exact⟨k+1,aa,by go_num,by rw[e1.out,aY,gv];exact Is,oH⟩
     case measure=>simp[intOf];omega
    ·have hkn:P.take k=P:=fL (by have:=Hn.out;omega);have HK:=jI hkn;clear hkn
     go_wp2
     go_ret
     rw[HK.out]at mj;exact⟨_,rfl,mj,hb⟩
theorem ajy{B n:Nat}{v:Value}{P:eh}(w:World)(hn:n=P.length)(h:Rd w B 1 v n P.Co)(hP:P.ok w B)(hB:B≤w.heap.size)(hlen:P.all.length≤1099511627776)(D6:P.length≤1099511627776):
  Calls Tryz.prog 52 #[v] w fun e w'=>∃v',e= .returned v'∧w'.ownsRow w.heap.size 5 1 v' P.all.length (bv P.all)∧Below w.heap.size w w':=by
 have h':=h;obtain⟨A,c,rfl,hc,hl,hr⟩:=h;have Hn:=jI hn;clear hr hl hc hn
 go_enter func52,Tryz.ntmps52
 go_wp2_with (go_at_call 93;refine(MF _ Hn.out h' hP hB hlen D6).mono ?_;rintro e w1 ⟨v1,rfl,Eb,p9⟩)
 go_ret
 exact⟨_,rfl,Eb,p9⟩
theorem aod{P:Prop}(h:P:=by(intro y hy;simp only[fk,mo,oe]at hy;rcases hy with rfl|rfl|rfl<;>exact aB)):P:=h
theorem mo:type_of% @List.not_mem_nil:= @List.not_mem_nil
theorem oe:type_of% @or_false:= @or_false
theorem ait{P:eh}{l:al}(hb:aJ B w0 F 1 (.slice A n c) n P.Co)(hP:∀x∈P,aJ B w0 F 1 x.1 x.2.length (bv x.2))(hn:n=P.length)(mF:P.all=l)(hlen:l.length≤1099511627776)(D6:P.length≤1099511627776):
  a_ B w0 52 [.slice A n c] F (fun r L=>∃A' c',r= .slice A' l.length c'∧L= .own 5 1 A' l.length c' (bv l)::F):=by
 subst mF;exact dL.AE fun w hw=>ajy (B:=w.heap.size) w hn (hb w hw) (fun x hx=>hP x hx w hw) (gj _) hlen D6
def fO(b:Bool)(x:aK):al:=if b=true then aS x.1++[x.2.1] else []
def lJ(b:Bool)(x:aK):al:=fO b x++fo x.2.2.1++fo x.2.2.2
def dc(b:Bool)(L:List aK):al:=L.flatMap (lJ b)
theorem m8{s:al}(h:s.length≤100000000000):(fo s).length≤s.length+10:=by
 have:=aT (x:=s.length) aa;unfold fo;rw[aY];omega
theorem BP{b:Bool}{x:aK}(hx:x.1<18446744073709551616):(fO b x).length≤11:=by
 have:=aT hx;unfold fO;split
 ·simp;omega
 ·simp
theorem yE{b:Bool}{x:aK}(hx:x.1<18446744073709551616)(hw:x.w≤100000000000):(lJ b x).length≤2*x.w:=by
 have h:= @BP b x hx;unfold aK.w at hw⊢;have h1:=m8 (s:=x.2.2.1) aa;have h2:=m8 (s:=x.2.2.2) aa;unfold lJ;rw[aY,aY];omega
theorem SC(b:Bool)(L:List aK)(x:aK):dc b (L++[x])=dc b L++lJ b x:=by simp[dc]
theorem SD{b:Bool}{L:List aK}{k:Nat}(h:k<L.length):dc b (L.take (k+1))=dc b (L.take k)++lJ b (recAt L k):=by
 rw[ba h (0,0,[],[]),SC];rfl
theorem Be(x:aK)(L:List aK):dU (x::L)=x.w+dU L:=by simp[dU]
theorem Ey:∀L:List aK,16*L.length≤dU L
 |[]=>by simp
 |x::L=>by
  have:=Ey L;rw[Be,ef];unfold aK.w;omega
theorem u9{b:Bool}:∀{L:List aK},(∀x∈L,x.1<18446744073709551616)→dU L≤100000000000→(dc b L).length≤2*dU L
 |[],_,_=>by simp[dc]
 |x::L,hx,hw=>by
  rw[Be]at hw⊢;have h1:=yE (b:=b) (hx x ak) aa;have h2:=u9 (b:=b) (fun y hy=>hx y vK) (by omega:dU L≤100000000000);simp only[dc,jJ,aY]at h2⊢;omega
theorem arh{L:List aK}{k:Nat}(h:k<L.length):(recAt L k).w≤dU L:=by
 have h1:=rF h;have h2:=qo L (k+1);omega
theorem KO{L:List aK}(h:∀x∈L,x.1<18446744073709551616){k:Nat}(hk:k<L.length):(recAt L k).1<18446744073709551616:=h _ (bg hk _)
theorem V6(b:Bool)(x:aK)(hx:x.1<18446744073709551616)(hw:x.w≤100000000000):
  a_ B w0 82 [.bool b,.agg (aK.cells x).toArray] F (fun r L=>∃A' c',r= .slice A' (lJ b x).length c'∧L= .own 5 1 A' (lJ b x).length c' (bv (lJ b x))::F):=by
 have jF:=aT hx;have hrl:= @BP b x hx;have hrb:=yE (b:=b) hx hw;have GO:=hw;unfold aK.w at GO;have tu:=m8 (s:=x.2.2.1) aa;have rK:=m8 (s:=x.2.2.2) aa;refine fw func82 23 [0,1] ?_;refine be ?_;refine bh fun g3=>?_;refine b8 ?_;refine aZ 5 1 none ?_;refine b8 ?_;refine d_ (fun zf zL=>∃(A5:bj) (c5:Nat),Sub zf [(3,br g3),(5,.slice A5 (fO b x).length c5)]∧Wk zL (.own 5 1 A5 (fO b x).length c5 (bv (fO b x)):: .bD g3 62 (aK.cells x)::F)) ?_ ?_
 ·refine bG ?_;refine gD (fun h6=>?_) fun h6=>?_
  ·have PY:fO b x=aS x.1++[x.2.1]:=ao h6;refine cF (.bD g3 62 (aK.cells x)::F) ?_;refine ae 0 ?_;refine ae 1 ?_;refine ae 3 ?_;refine ae 4 ?_;refine gV 2 5 ?_ ?_
   ·refine bZ rfl rfl (iN x.1 hx) fun A9 c9=>?_;refine az 5 ?_;refine cR rfl (aG cD [_] rfl rfl cw aa aa) fun PN=>?_;refine az 6 ?_;refine eV rfl (bS cD rfl aV rfl aB cw aa aa) fun xc F7=>?_;rw[show(aS x.1).length+1=(fO b x).length by rw[PY];simp];refine ae 7 ?_;refine aF ?_;exact bC ⟨xc,F7,bp,.skip (ax rfl (by rw[PY];simp[bv]) (.skip (.refl _)))⟩
   ·refine cR rfl (aG cD [_] rfl rfl cw aa aa) fun PN=>?_;refine az 2 ?_;refine bZ rfl rfl (iN x.1 hx) fun A9 c9=>?_;refine az 6 ?_;refine eV rfl (bS cD rfl aV rfl aB cw aa aa) fun xc F7=>?_;rw[show(aS x.1).length+1=(fO b x).length by rw[PY];simp];refine ae 7 ?_;refine aF ?_;exact bC ⟨xc,F7,bp,ax rfl (by rw[PY];simp[bv]) (.skip (.skip (.refl _)))⟩
  ·have PY:fO b x=[]:=aw (by simpa using h6);have hb0:(fO b x).length=0:=by rw[PY];rfl
   refine aF ?_;exact bC ⟨none,0,bp,ax (by rw[PY];rfl) (by rw[PY];rfl) (.refl _)⟩
 ·rintro _ _ ⟨A5,c5,hs,hp⟩;refine aU hs hp ?_;clear hs hp;refine aF ?_;refine cF (.own 5 1 A5 (fO b x).length c5 (bv (fO b x)):: .bD g3 62 (aK.cells x)::F) ?_;refine ae 0 ?_;refine ae 1 ?_;refine ae 2 ?_;refine ae 4 ?_;refine ae 5 ?_;refine az 3 ?_;refine bZ rfl rfl (K6 _ aa) fun TI c17=>?_;refine az 6 ?_;refine bZ rfl rfl (K6 _ aa) fun G_ JI=>?_;refine az 7 ?_;refine cR rfl (aG fD [_,_,_] rfl rfl cw aa aa) fun A21=>?_;refine az 8 ?_;refine bZ rfl rfl (ait (l:=lJ b x) (P:=[(.slice A5 (fO b x).length c5,fO b x),(.slice TI (fo x.2.2.1).length c17,fo x.2.2.1),(.slice G_ (fo x.2.2.2).length JI,fo x.2.2.2)]) aB aod rfl (by simp[eh.all,lJ]) (by unfold aK.w at hrb;omega) ak) fun A22 c22=>?_;refine ae 9 ?_;refine bF ?_;refine aq (L':=.own 5 1 A22 (lJ b x).length c22 (bv (lJ b x))::F) (.cons (.skip (.skip (.skip (.skip (.skip (.refl _))))))) ?_;refine aF ?_;exact⟨A22,c22,rfl,rfl⟩
theorem IY(b:Bool)(L:List aK)(hb:aJ B w0 F 4 (.slice A L.length c) L.length (di L))(hx:∀x∈L,x.1<18446744073709551616)(hw:dU L≤100000000000):
  a_ B w0 45 [.bool b,.slice A L.length c] F (fun r K=>∃A' c',r= .slice A' (dc b L).length c'∧K= .own 5 1 A' (dc b L).length c' (bv (dc b L))::F):=by
 have hlw:=Ey L;refine fw func45 21 [0,1] ?_;refine bz ?_;refine aZ 5 1 none ?_;refine de ?_;refine aE (fun zf zL zm=>∃(k:Nat) (A5:bj) (c5:Nat),(k≤L.length)∧L.length-k=zm∧Sub zf [(0,.bool b),(5,.slice A5 (dc b (L.take k)).length c5),(8,.slice A L.length c),(9,ah L.length),(10,ah k)]∧Wk zL (.own 5 1 A5 (dc b (L.take k)).length c5 (bv (dc b (L.take k)))::F)) _ ⟨0,none,0,bT _,rfl,bp,ax rfl rfl (.refl _)⟩ ?_;rintro _ _ _ ⟨k,A5,c5,hk,rfl,hs,hp⟩;refine aU hs hp ?_;clear hs hp;refine bz ?_;refine aj (fun pg=>?_) fun pg=>?_
 ·have YA:=KO hx (k:=k) aa;have Yy:=arh (L:=L) (k:=k) aa;have hrb:=yE (b:=b) YA aa;have hws:=u9 (b:=b) (L:=L.take k) (fun x h=>hx x (lX h)) (by have:=qo L k;omega);have CD:=qo L k;have qy:=yF (recAt L k);refine bz ?_;refine ab (aC (i:=k) (size:=4) underlying24 ag rfl rfl rfl aa aB) rfl ?_;refine ab (dI 4 ag rfl aB aa (aK.cells (recAt L k)) (oL aa) rfl) rfl ?_;refine bc fun g7=>?_;refine bL ?_;refine ay rfl (V6 b _ YA aa) fun TI c17=>?_;refine fN (bS cD rfl aV rfl aB cw aa aa) fun sX uO=>?_;refine bJ ?_;have e:dc b (L.take (k+1))=dc b (L.take k)++lJ b (recAt L k):=SD aa;have el:(dc b (L.take k)).length+(lJ b (recAt L k)).length=(dc b (L.take (k+1))).length:=by rw[e,aY]
  rw[el];refine av ⟨_,aa,k+1,sX,uO,aa,rfl,bp,.skip (.skip (ax rfl (by rw[e,gv]) (.refl _)))⟩
 ·refine cJ ?_;have Ca:k=L.length:=by omega
  subst Ca;rw[jU];refine aF ?_;exact⟨A5,c5,rfl,rfl⟩
def zig(d:Nat):Nat:=if d<9223372036854775808 then 2*d else 2*(18446744073709551615-d)+1
def TF(z:Nat):Nat:=if z%2=1 then 18446744073709551615-z/2 else z/2
theorem TH{d:Nat}(h:d<18446744073709551616):zig d<18446744073709551616:=by unfold zig;split<;>omega
theorem ajv{d:Nat}(h:d<18446744073709551616):TF (zig d)=d:=by
 unfold zig;split
 ·unfold TF;rw[aw aa];omega
 ·unfold TF;rw[ao aa];omega
theorem PM(a:Nat)(h:a<18446744073709551616):a ^^^ 18446744073709551615=18446744073709551615-a:=by
 have h1:(BitVec.ofNat 64 a ^^^ BitVec.allOnes 64).toNat=(~~~ (BitVec.ofNat 64 a)).toNat:=by rw[BitVec.xor_allOnes]
 rw[BitVec.toNat_xor,BitVec.toNat_not,BitVec.toNat_ofNat,BitVec.toNat_allOnes,ja (show a<2^64 from h)]at h1;exact h1
theorem af8(x:Nat)(h:x<18446744073709551616):
  bits .xor .u64 (IntKind.u64.wrap ((x:Int)*2)) (IntKind.u64.wrap (-((x:Int)/9223372036854775808)))=((zig x:Nat):Int):=by
 unfold zig;by_cases hx:x<9223372036854775808
 ·rw[ao hx];have e1:IntKind.u64.wrap ((x:Int)*2)=((2*x:Nat):Int):=by show((x:Int)*2)%18446744073709551616=_;omega
  have e2:IntKind.u64.wrap (-((x:Int)/9223372036854775808))=((0:Nat):Int):=by show(-((x:Int)/9223372036854775808))%18446744073709551616=_;omega
  rw[e1,e2,u64_xor _ _ aa aa,Nat.xor_zero]
 ·rw[aw hx];have e1:IntKind.u64.wrap ((x:Int)*2)=((2*x-18446744073709551616:Nat):Int):=by show((x:Int)*2)%18446744073709551616=_;omega
  have e2:IntKind.u64.wrap (-((x:Int)/9223372036854775808))=((18446744073709551615:Nat):Int):=by show(-((x:Int)/9223372036854775808))%18446744073709551616=_;omega
  rw[e1,e2,u64_xor _ _ aa aa,PM _ aa];omega
theorem af7(x:Nat)(h:x<18446744073709551616):
  bits .xor .u64 ((x:Int)/2) (IntKind.u64.wrap (-(bits .and .u64 (x:Int) 1)))=((TF x:Nat):Int):=by
 have ea:bits .and .u64 (x:Int) 1=((x%2:Nat):Int):=by
  have:=u64_and x 1 h aa;rw[En]at this;exact this
 rw[ea];unfold TF;by_cases hx:x%2=1
 ·rw[ao hx,hx];have e2:IntKind.u64.wrap (-((1:Nat):Int))=((18446744073709551615:Nat):Int):=by decide+kernel
  rw[e2,show((x:Int)/2)=((x/2:Nat):Int) from by omega,u64_xor _ _ aa aa,PM _ aa]
 ·rw[aw hx,show x%2=0 from by omega];have e2:IntKind.u64.wrap (-((0:Nat):Int))=((0:Nat):Int):=by decide+kernel
  rw[e2,show((x:Int)/2)=((x/2:Nat):Int) from by omega,u64_xor _ _ aa aa,Nat.xor_zero]
theorem zsh(x:Nat):IntKind.u64.wrap ((x:Int)*2^min (1:Int).toNat IntKind.u64.bits)=IntKind.u64.wrap ((x:Int)*2):=by
 have e:min (1:Int).toNat IntKind.u64.bits=1:=by decide
 rw[e];rfl
theorem zhi(x:Nat):(x:Int).fdiv (2^min (63:Int).toNat IntKind.u64.bits)=(x:Int)/9223372036854775808:=by
 have e:min (63:Int).toNat IntKind.u64.bits=63:=by decide
 rw[e,vT _ aA];rfl
theorem zng(x:Nat):IntKind.u64.wrap (0-(x:Int)/9223372036854775808)=IntKind.u64.wrap (-((x:Int)/9223372036854775808)):=by rw[Int.zero_sub]
theorem att(x:Nat)(hx:x<18446744073709551616):IntKind.u64.wrap ((BitVec.ofInt IntKind.u64.bits (IntKind.u64.wrap ((x:Int)*2)) ^^^ BitVec.ofInt IntKind.u64.bits (IntKind.u64.wrap (-((x:Int)/9223372036854775808)))).toNat:Int)=((zig x:Nat):Int):=af8 x hx
set_option maxRecDepth 20000 in
theorem arn(x:Nat)(hx:x<18446744073709551616):a_ B w0 86 [.int .u64 x] F (fun r L=>r= .int .u64 (zig x)∧L=F):=by
 refine fw func86 9 [0] ?_;refine bJ ?_;refine ab (ga rfl rfl aa (zsh x)) rfl ?_;refine aF ?_;refine ab (dj rfl rfl aa (zhi x)) rfl ?_;refine ab (Uy rfl (zng x)) rfl ?_;refine ab (ly rfl rfl (att x hx)) rfl ?_;refine bG ?_;exact⟨rfl,rfl⟩
theorem zsr(x:Nat):(x:Int).fdiv (2^min (1:Int).toNat IntKind.u64.bits)=(x:Int)/2:=by
 have e:min (1:Int).toNat IntKind.u64.bits=1:=by decide
 rw[e,vT _ aA];rfl
theorem zan(x:Nat)(hx:x<18446744073709551616):IntKind.u64.wrap ((BitVec.ofInt IntKind.u64.bits (x:Int) &&& BitVec.ofInt IntKind.u64.bits 1).toNat:Int)=((x%2:Nat):Int):=by
 have:=u64_and x 1 hx aa;rw[En]at this;exact this
theorem atr(x:Nat):IntKind.u64.wrap (0-((x%2:Nat):Int))=IntKind.u64.wrap (-((x%2:Nat):Int)):=by rw[Int.zero_sub]
theorem zax(x:Nat)(hx:x<18446744073709551616):IntKind.u64.wrap ((BitVec.ofInt IntKind.u64.bits ((x:Int)/2) ^^^ BitVec.ofInt IntKind.u64.bits (IntKind.u64.wrap (-((x%2:Nat):Int)))).toNat:Int)=((TF x:Nat):Int):=by
 have h:=af7 x hx;have ea:bits .and .u64 (x:Int) 1=((x%2:Nat):Int):=zan x hx;rw[ea]at h;exact h
theorem arl(x:Nat)(hx:x<18446744073709551616):a_ B w0 295 [.int .u64 x] F (fun r L=>r= .int .u64 (TF x)∧L=F):=by
 refine fw func295 9 [0] ?_;refine bJ ?_;refine ab (dj rfl rfl aa (zsr x)) rfl ?_;refine aF ?_;refine ab (jY rfl rfl (zan x hx)) rfl ?_;refine ab (Uy rfl (atr x)) rfl ?_;refine ab (ly rfl rfl (zax x hx)) rfl ?_;refine bG ?_;exact⟨rfl,rfl⟩
def dlt(a b:Nat):Nat:=(a+(18446744073709551616-b))%18446744073709551616
theorem DE(a b:Nat):dlt a b<18446744073709551616:=sN _ aa
theorem abC{a b:Nat}(hb:b<18446744073709551616):IntKind.u64.wrap ((a:Int)-(b:Int))=((dlt a b:Nat):Int):=by
 show((a:Int)-b)%18446744073709551616=_;unfold dlt;omega
def qt:Nat→List aK→al
 |_,[]=>[]
 |was,x::L=>aS (zig (dlt x.1 was))++qt x.1 L
def ud(was:Nat)(L:List aK):Nat:=L.foldl (fun _ x=>x.1) was
theorem HN(x:aK):∀(L:List aK) (was:Nat),qt was (L++[x])=qt was L++aS (zig (dlt x.1 (ud was L)))
 |[],was=>by simp[qt,ud]
 |y::L,was=>by
  rw[nC,qt,qt,HN x L y.1,bV];rfl
theorem Ew(was:Nat)(L:List aK)(x:aK):ud was (L++[x])=x.1:=by simp[ud]
theorem Xy{L:List aK}{k:Nat}(h:k<L.length):qt 0 (L.take (k+1))=qt 0 (L.take k)++aS (zig (dlt (recAt L k).1 (ud 0 (L.take k)))):=by
 rw[ba h (0,0,[],[]),HN];rfl
theorem RU{L:List aK}{k:Nat}(h:k<L.length):ud 0 (L.take (k+1))=(recAt L k).1:=by
 rw[ba h (0,0,[],[]),Ew];rfl
theorem ac_{L:List aK}(hx:∀x∈L,x.1<18446744073709551616):ud 0 L<18446744073709551616:=by
 rcases List.eq_nil_or_concat L with rfl|⟨M,x,rfl⟩
 ·simp[ud]
 ·rw[List.concat_eq_append,Ew];exact hx x ak
theorem M5(a b:Nat):(aS (zig (dlt a b))).length≤10:=aT (TH (DE a b))
theorem Dp:∀(L:List aK) (was:Nat),(qt was L).length≤10*L.length
 |[],was=>by simp[qt]
 |x::L,was=>by
  have h1:=M5 x.1 was;have h2:=Dp L x.1;rw[qt,aY,ef];omega
def run(x:UInt8):al→Nat
 |[]=>0
 |y::l=>if y=x then run x l+1 else 0
theorem SG(x:UInt8):∀l,run x l≤l.length
 |[]=>gj _
 |y::l=>by
  have:=SG x l;unfold run;split<;>simp<;>omega
def oq:Option UInt8→al→al
 |_,[]=>[]
 |p,x::l=>if p=some x then oq (some x) l else x::(aS (1+run x l)++oq (some x) l)
theorem Dn(x:UInt8):∀l,oq (some x) l=oq none (l.drop (run x l))
 |[]=>rfl
 |y::l=>by
  unfold run;by_cases h:y=x
  ·subst h;rw[ao rfl,Em,oq,ao rfl];exact Dn y l
  ·rw[aw h,tb,oq,oq,aw (by simpa using fun e=>h e.symm),aw ak]
theorem MD:∀(l:al) (p:Option UInt8),l.length≤1000000000→(oq p l).length≤11*l.length
 |[],p,_=>by cases p<;>simp[oq]
 |x::l,p,h=>by
  simp only[ef]at h;have h1:=MD l (some x) aa;have h2:=aT (x:=1+run x l) (by have:=SG x l;omega);rw[oq];split
  ·simp only[ef];omega
  ·simp only[ef,aY];omega
def lv(L:List aK):al:=L.map (·.2.1)
theorem rn(L:List aK):(lv L).length=L.length:=by simp[lv]
theorem ED(L:List aK)(k:Nat):(recAt L k).2.1=(lv L).getD k 0:=by
 unfold recAt lv;simp only[bk,jr];cases L[k]? <;>rfl
theorem ahX(L:List aK)(k:Nat):lv (L.drop k)=(lv L).drop k:=by simp[lv]
def kq(L:List aK):al:=qt 0 L++oq none (lv L)
theorem qO{L:List aK}(h:L.length≤1000000):(kq L).length≤21*L.length:=by
 have h1:=Dp L 0;have h2:=MD (lv L) none (by rw[rn];omega);rw[rn]at h2;rw[kq,aY];omega
theorem vd:∀(L:List aK) (k:Nat),(di L).drop (k*4)=di (L.drop k)
 |L,0=>by simp
 |[],k+1=>by simp[di]
 |x::L,k+1=>by
  have h:=vd L k;rw[Em,←h];simp only[di,jJ];rw[j0,sL (k*4) 4,←qa];rfl
theorem Xx{l:al}(h:0<l.length):oq none l=(l.getD 0 0)::(aS (1+run (l.getD 0 0) (l.drop 1))++oq none (l.drop (1+run (l.getD 0 0) (l.drop 1)))):=by
 match l,h with
 |x::l,_=>
  rw[oq,aw ak,Dn];simp only[List.getD_cons_zero,Em,tb];rw[sL 1,Em]
theorem OZ{x:UInt8}{l:al}{k:Nat}(h:k<l.length):run x (l.drop k)=if l.getD k 0=x then run x (l.drop (k+1))+1 else 0:=by
 rw[dx h 0,run]
theorem XD(L:List aK)(hb:aJ B w0 F 4 (.slice A L.length c) L.length (di L))(hx:∀x∈L,x.1<18446744073709551616)(hl:L.length≤1000000):
  a_ B w0 47 [.slice A L.length c] F (fun r K=>∃A' c',r= .slice A' (kq L).length c'∧K= .own 5 1 A' (kq L).length c' (bv (kq L))::F):=by
 have Yl:=qO hl;refine fw func47 61 [0] ?_;refine bz ?_;refine aZ 5 1 none ?_;refine tP ?_;refine aE (fun zf zL zm=>∃(k:Nat) (A3:bj) (c3:Nat),(k≤L.length)∧L.length-k=zm∧Sub zf [(0,.slice A L.length c),(3,.slice A3 (qt 0 (L.take k)).length c3),(4,.int .u64 (ud 0 (L.take k))),(8,.slice A L.length c),(9,ah L.length),(10,ah k)]∧Wk zL (.own 5 1 A3 (qt 0 (L.take k)).length c3 (bv (qt 0 (L.take k)))::F)) _ ⟨0,none,0,bT _,rfl,bp,ax rfl rfl (.refl _)⟩ ?_;rintro _ _ _ ⟨k,A3,c3,hk,rfl,hs,hp⟩;refine aU hs hp ?_;clear hs hp;refine bz ?_;refine aj (fun pg=>?_) fun pg=>?_
 ·have YA:=KO hx (k:=k) aa;have fE:=ac_ (L:=L.take k) (fun x h=>hx x (lX h));have r7:=Dp (L.take k) 0;have Ce:=List.length_take_le k L;have qy:=yF (recAt L k);have e:=Xy (L:=L) (k:=k) aa;have e2:=RU (L:=L) (k:=k) aa;have D9:=M5 (recAt L k).1 (ud 0 (L.take k));have el:(qt 0 (L.take k)).length+(aS (zig (dlt (recAt L k).1 (ud 0 (L.take k))))).length=(qt 0 (L.take (k+1))).length:=by rw[e,aY]
  refine bz ?_;refine ab (aC (i:=k) (size:=4) underlying24 ag rfl rfl rfl aa aB) rfl ?_;refine ab (dI 4 ag rfl aB aa (aK.cells (recAt L k)) (oL aa) rfl) rfl ?_;refine bc fun g6=>?_;refine bQ ?_;refine ab (dw rfl rfl (abC fE)) rfl ?_;refine ai rfl (arn _ (DE _ _)) ?_;refine ay rfl (iN _ (TH (DE _ _))) fun G_ JI=>?_;refine fN (bS cD rfl aV rfl aB cw aa aa) fun A21 c21=>?_;refine de ?_;refine ve [0,3,4,8,9,10] ?_;rw[el];refine av ⟨_,aa,k+1,A21,c21,aa,rfl,bp,.skip (.skip (ax rfl (by rw[e,gv]) (.refl _)))⟩
 ·refine bL ?_;refine aE (fun zf zL zm=>∃(M:List aK) (m:Nat) (A0:bj) (c0:Nat) (pre:al) (A4:bj) (c4:Nat),(m=M.length∧m≤L.length∧aJ B w0 F 4 (.slice A0 m c0) m (di M)∧kq L=pre++oq none (lv M))∧m=zm∧Sub zf [(0,.slice A0 m c0),(3,.slice A4 pre.length c4)]∧Wk zL (.own 5 1 A4 pre.length c4 (bv pre)::F)) _ ⟨L,L.length,A,c,qt 0 (L.take k),A3,c3,⟨rfl,gj _,hb,by rw[fL aa];rfl⟩,rfl,bp,.refl _⟩ ?_;rintro _ _ _ ⟨M,m,A0,c0,pre,A4,c4,⟨hm,y9,P3,Ec⟩,rfl,hs,hp⟩;refine aU hs hp ?_;clear hs hp;have mJ:pre.length≤(kq L).length:=by rw[Ec,aY];omega
  have hlv:(lv M).length=m:=by rw[rn,hm]
  refine bJ ?_;refine aj (fun ka=>?_) fun ka=>?_
  ·refine bA ?_;refine aE (fun zf zL zm=>∃(i:Nat),(1≤i∧i≤m∧run ((lv M).getD 0 0) ((lv M).drop 1)=(i-1)+run ((lv M).getD 0 0) ((lv M).drop i))∧m-i=zm∧Sub zf [(0,.slice A0 m c0),(3,.slice A4 pre.length c4),(7,ah i)]∧Wk zL (.own 5 1 A4 pre.length c4 (bv pre)::F)) _ ⟨1,⟨gj _,aa,aa⟩,rfl,bp,.refl _⟩ ?_;rintro _ _ _ ⟨i,⟨hi1,him,s7⟩,rfl,hs,hp⟩;refine aU hs hp ?_;clear hs hp;refine bF ?_;refine xW 16 43 [0,3,7] ((i:Int)<m∧((recAt M i).2.1.toNat:Int)=(recAt M 0).2.1.toNat) ?_ ?_
   ·refine bG ?_;refine jR rfl rfl rfl (fun Bw=>?_) (fun Bw=>?_)
    ·refine bz ?_;refine b7 (fS underlying62 rfl ag rfl aB aa rfl) rfl ?_;refine aF ?_;refine b7 (jP ag rfl aB aa ((CN aa aA).trans rfl)) rfl ?_;refine bF ?_;refine b7 (aC (i:=0) (size:=4) underlying24 ag rfl rfl rfl aa aB) rfl ?_;refine aF ?_;refine b7 (fS underlying62 rfl ag rfl aB aa rfl) rfl ?_;refine aF ?_;refine b7 (jP ag rfl aB aa ((CN aa aA).trans rfl)) rfl ?_;refine bF ?_;exact nS b_8
    ·refine bA ?_;exact nS b_8
   ·refine be ?_;refine aj (fun Yb=>?_) fun Yb=>?_
    ·have hq:(lv M).getD i 0=(lv M).getD 0 0:=by rw[←ED,←ED];exact ra.1 aa
     have hs:=OZ (x:=(lv M).getD 0 0) (l:=lv M) (k:=i) aa;rw[ao hq]at hs;refine bQ ?_;refine av ⟨_,aa,i+1,⟨aa,aa,aa⟩,rfl,bp,.refl _⟩
    ·have hz:run ((lv M).getD 0 0) ((lv M).drop i)=0:=by
      by_cases hi:i<m
      ·rw[OZ aa,aw (fun hq=>Yb ⟨aa,by rw[ED,ED,hq]⟩)]
      ·rw[mn aa];rfl
     have hch:=Xx (l:=lv M) aa;rw[s7,hz,show 1+(i-1+0)=i by omega,←ahX]at hch;have hni:=aT (x:=i) aa;have asx:=ED M 0;have hcut:=P3.cut (k:=i) aa;rw[vd]at hcut;refine bQ ?_;refine ab (aC (i:=0) (size:=4) underlying24 ag rfl rfl rfl aa aB) rfl ?_;refine ab (fS underlying62 rfl ag rfl aB aa rfl) rfl ?_;refine ab (jP ag rfl aB aa ((CN aa aA).trans rfl)) rfl ?_;refine dE cD rfl rfl rfl rfl rfl (fun _=>rfl) aV aa aa ?_;intro _ A52 c52;refine be ?_;refine ay rfl (iN i aa) fun A55 c55=>?_;refine fN (bS cD rfl aV rfl aB cw aa aa) fun A56 c56=>?_;refine bz ?_;refine ab (bP (i:=i) (size:=4) underlying24 ag rfl rfl rfl aa) rfl ?_;refine aF ?_;refine ve [0,3] ?_;refine aF ?_;have el:pre.length+1+(aS i).length=(pre++((lv M).getD 0 0::aS i)).length:=by simp;omega
     rw[el];refine av ⟨_,aa,M.drop i,m-i,_,_,pre++((lv M).getD 0 0::aS i),A56,c56,⟨by rw[iG,hm],aa,hcut,by rw[Ec,hch];simp⟩,rfl,bp,.skip (ax rfl (by simp[bv,asx]) (.refl _))⟩
  ·refine cJ ?_;have hM:M=[]:=mm aa;subst hM;have ash:kq L=pre:=by rw[Ec];simp[lv,oq]
   rw[ash];refine aF ?_;exact⟨A4,c4,rfl,rfl⟩
theorem aey{l l2:al}(h1:aJ B w0 F 1 (.slice A n c) n (bv l))(h2:aJ B w0 F 1 (.slice A2 n2 c2) n2 (bv l2)):
  a_ B w0 11 [.slice A n c,.slice A2 n2 c2] F (fun r L=>r= .bool (decide (l=l2))∧L=F):=by
 refine fw func11 10 [0,1] ?_;refine bJ ?_;refine ab (oZ underlying27 underlying5 underlying9 rfl aB) rfl ?_;refine aF ?_;refine ab (oZ underlying27 underlying5 underlying9 rfl aB) rfl ?_;refine bz ?_;exact⟨rfl,rfl⟩
theorem b_1{P:Prop}(h:P:=by(first|rfl|exact eF (by first|exact .inl (by omega)|exact .inr (.inl jF)|exact⟨fun h=>.inr (.inr (by omega)),fun h=>by rcases h with h|h|h<;>first|omega|exact absurd h jF⟩)|exact eU (by first|exact .inl (by omega)|exact .inr (.inl jF)|exact⟨fun h=>.inr (.inr (by omega)),fun h=>by rcases h with h|h|h<;>first|omega|exact absurd h jF⟩)|exact dN (by first|exact .inl (by omega)|exact .inr (.inl jF)|exact⟨fun h=>.inr (.inr (by omega)),fun h=>by rcases h with h|h|h<;>first|omega|exact absurd h jF⟩)|exact qK (by first|exact .inl (by omega)|exact .inr (.inl jF)|exact⟨fun h=>.inr (.inr (by omega)),fun h=>by rcases h with h|h|h<;>first|omega|exact absurd h jF⟩))):P:=h
def uh(x:aK):Prop:=4000<x.2.2.1.length∨4000<x.2.2.2.length
instance (x:aK):Decidable (uh x):=inferInstanceAs (Decidable (_∨_))
theorem amu(x:aK):a_ B w0 80 [.agg (aK.cells x).toArray] F (fun r L=>r= .bool (decide (uh x))∧L=F):=by
 refine fw func80 13 [0] ?_;refine be ?_;refine bh fun g1=>?_;refine bG ?_;refine bW 10 12 [] ((4000:Int)<(x.2.2.1.length:Int)∨(4000:Int)<(x.2.2.2.length:Int)) ?_ ?_
 ·refine bG ?_;refine aL rfl rfl rfl (fun h7=>?_) (fun h7=>?_)
  ·refine bJ ?_;exact aQ b_8
  ·refine b8 ?_;exact aQ b_8
 ·refine b8 ?_;refine aq (L':=F) (.skip (.refl _)) ?_;refine aF ?_;exact⟨by rw[z7.2 (show((4000:Int)<(x.2.2.1.length:Int)∨(4000:Int)<(x.2.2.2.length:Int))↔uh x by unfold uh;omega)],rfl⟩
theorem ahE(L:List aK)(hb:aJ B w0 F 4 (.slice A L.length c) L.length (di L))(hl:L.length≤1000000):
  a_ B w0 142 [.slice A L.length c,.func (.func 80) #[] #[]] F (fun r K=>∃v:Int,r=ah v∧K=F∧(0≤v↔∃x∈L,uh x)):=by
 refine fw func142 19 [0,1] ?_;refine dQ ?_;refine aE (fun zf zL zm=>∃(k:Nat),(k≤L.length∧∀i,i<k→¬uh (recAt L i))∧L.length-k=zm∧Sub zf [(0,.slice A L.length c),(1,.func (.func 80) #[] #[]),(7,ah L.length),(8,ah k)]∧Wk zL (F)) _ ⟨0,⟨bT _,fun i h=>absurd h aa⟩,rfl,bp,.refl _⟩ ?_;rintro _ _ _ ⟨k,⟨hk,NC⟩,rfl,hs,hp⟩;refine aU hs hp ?_;clear hs hp;refine bz ?_;refine aj (fun h9=>?_) fun h9=>?_
 ·refine jy ?_;refine ab (aC (i:=k) (size:=4) underlying24 ag rfl rfl rfl aa aB) rfl ?_;refine ab (dI 4 ag rfl aB aa (aK.cells (recAt L k)) (oL aa) rfl) rfl ?_;refine uH arJ rfl rfl (amu (recAt L k)) rfl ?_;rintro _ _ ⟨rfl,cA⟩;obtain rfl:=cA.symm;refine be ?_;refine aj (fun kh=>?_) fun kh=>?_
  ·refine de ?_;exact⟨_,rfl,rfl,by constructor;exact fun _=>⟨_,bg (show k<L.length by omega) (0,0,[],[]),kh⟩;exact fun _=>aa⟩
  ·refine bL ?_;refine av ⟨_,aa,k+1,⟨aa,fun i h=>by rcases Nat.lt_succ_iff_lt_or_eq.1 h with h|h;exact NC i h;exact h▸kh⟩,rfl,bp,.refl _⟩
 ·refine cJ ?_;refine⟨_,rfl,rfl,fun h=>absurd h aa,fun⟨x,hx,hlx⟩=>?_⟩;obtain⟨i,hi,rfl⟩:=jZ hx;have:=NC i aa;unfold recAt at this;rw[bk,fm hi]at this;exact absurd hlx this
theorem QI(L:List aK)(hb:aJ B w0 F 4 (.slice A L.length c) L.length (di L))(hl:L.length≤1000000):
  a_ B w0 79 [.slice A L.length c,.func (.func 80) #[] #[]] F (fun r K=>r= .bool (decide (∃x∈L,uh x))∧K=F):=by
 refine fw func79 9 [0,1] ?_;refine bQ ?_;refine aX aoO rfl (ahE L hb hl) rfl ?_;rintro _ _ ⟨v,rfl,cA,hv⟩;obtain rfl:=cA.symm;refine bz ?_;exact⟨by rw[z7.2 hv],rfl⟩
def cO(L:List aK):Int:=if 20000<L.length∨(∃x∈L,uh x)∨1048576<dU L then 6 else 0
theorem F2:∀{L:List aK},(¬∃x∈L,uh x)→dU L≤8016*L.length
 |[],_=>by simp[dU]
 |x::L,h=>by
  have h1:=F2 (L:=L) fun⟨y,hy,hl⟩=>h ⟨y,vK,hl⟩;have h2:¬uh x:=fun hl=>h ⟨x,ak,hl⟩;unfold uh at h2;rw[Be,ef];unfold aK.w;omega
theorem oK(L:List aK)(hb:aJ B w0 F 4 (.slice A L.length c) L.length (di L)):
  a_ B w0 42 [.slice A L.length c] F (fun r K=>r=ah (cO L)∧K=F):=by
 refine fw func42 15 [0] ?_;refine bJ ?_;refine bW 12 14 [] (20000<L.length∨(∃x∈L,uh x)∨1048576<dU L) ?_ ?_
 ·refine b8 ?_;refine aL rfl rfl rfl (fun h6=>?_) (fun h6=>?_)
  ·refine be ?_;refine ai rfl (QI L hb aa) ?_;refine be ?_;refine aL rfl rfl rfl (fun jF=>?_) (fun jF=>?_)
   ·refine be ?_;refine ai rfl (afZ L hb (by have:=F2 jF;omega) aa) ?_;refine bF ?_;exact aQ b_1
   ·refine bF ?_;exact aQ b_1
  ·refine bL ?_;exact aQ b_1
 ·refine be ?_;refine aj (fun kg=>?_) fun kg=>?_
  ·refine bJ ?_;exact⟨by rw[cO,ao kg],rfl⟩
  ·refine bQ ?_;exact⟨by rw[cO,aw kg],rfl⟩
def bx(l:bf):cV:=l.map fun(n:Nat)=>Value.int .i64 (n:Int)
@[simp] theorem akf(l k:bf):bx (l++k)=bx l++bx k:=by simp[bx]
@[simp] theorem akg(l:bf):(bx l).length=l.length:=by simp[bx]
theorem adA(l:bf):∀u∈bx l,u.oneCell'=true:=by
 intro u hu;obtain⟨b,_,rfl⟩:=pM.1 hu;rfl
theorem fA{l:bf}{k:Nat}(h:k<l.length):(bx l)[k*1]? =some (ah (l.getD k 0:Nat)):=by
 simp[bx,List.getD,fm h]
theorem oS{P:Prop}(h:P:=by(exact dN (by first|omega|simp_all))):P:=h
theorem vu{P:Prop}(h:P:=by(exact eF (by first|omega|simp_all))):P:=h
theorem sD{P:Prop}(h:P:=by(simp[bx])):P:=h
theorem BJ:type_of% @List.drop_length:= @List.drop_length
def s6(S:Nat):Nat→Nat→bf→bf
 |rH,_,[]=>[rH]
 |rH,hv,n::l=>if hv+n≤S then s6 S (rH+1) (hv+n) l else rH::s6 S 1 n l
def jx(S:Nat):bf→bf
 |[]=>[]
 |n::l=>s6 S 1 n l
def lens(b:Bool)(L:List aK):bf:=L.map fun x=>(lJ b x).length
theorem eo(b:Bool)(L:List aK):(lens b L).length=L.length:=by simp[lens]
theorem YV{b:Bool}{L:List aK}{k:Nat}(h:k<L.length):(lens b L).drop k=(lJ b (recAt L k)).length::(lens b L).drop (k+1):=by
 rw[dx (l:=lens b L) (by rw[eo];exact h) 0];congr 1;unfold recAt lens;simp only[bk,jr,fm h];rfl
theorem ahg{S rH hv n:Nat}{l:bf}(h:hv+n≤S):s6 S rH hv (n::l)=s6 S (rH+1) (hv+n) l:=by rw[s6,ao h]
theorem acd{S rH hv n:Nat}{l:bf}(h:¬hv+n≤S):s6 S rH hv (n::l)=rH::jx S (n::l):=by rw[s6,aw h];rfl
theorem dL.forget{P:Program}{B:Nat}{w0:World}{f:FuncId}{args:cV}{F:aP}{n:Nat}{xs:cV}{e:TypeId}(h:dL P B w0 f args F (fun r L=>∃A' c',r= .slice A' n c'∧L= .own e 1 A' n c' xs::F)):dL P B w0 f args F (fun r L=>∃A' c',r= .slice A' n c'∧L=F):=fun w hw=>
 (h w hw).mono fun e w' ⟨v,L',he,⟨A',c',hr,hL⟩,hs⟩=>by subst hL;exact⟨v,F,he,⟨A',c',hr,rfl⟩,hs.tail⟩
theorem aca(size:Int)(b:Bool)(L:List aK)(hb:aJ B w0 F 4 (.slice A L.length c) L.length (di L))(hx:∀x∈L,x.1<18446744073709551616)(hw:dU L≤1000000000)(S:Nat)(hS:(S:Int)=max 1 size)(hS2:S≤9223372036854775807):
  a_ B w0 43 [ah size,.bool b,.slice A L.length c] F (fun r K=>∃A' c',r= .slice A' (jx S (lens b L)).length c'∧K= .own 3 1 A' (jx S (lens b L)).length c' (bx (jx S (lens b L)))::F):=by
 have hlw:=Ey L;have wL:=eo b L;refine fw func43 49 [0,1,2] ?_;refine bz ?_;refine aZ 3 1 none ?_;refine tP ?_;refine aE (fun zf zL zm=>∃(k:Nat) (o:bf) (hv:Nat) (A7:bj) (c7:Nat),(k≤L.length∧hv≤2*dU (L.take k)∧o.length≤k∧((k=0∧o=[])∨(∃op rH,o=op++[rH]∧rH≤k∧jx S (lens b L)=op++s6 S rH hv ((lens b L).drop k))))∧L.length-k=zm∧Sub zf [(0,ah size),(1,.bool b),(7,.slice A7 o.length c7),(8,ah hv),(12,.slice A L.length c),(13,ah L.length),(14,ah k)]∧Wk zL (.own 3 1 A7 o.length c7 (bx o)::F)) _ ⟨0,[],0,none,0,⟨bT _,bT _,gj _,.inl ⟨rfl,rfl⟩⟩,rfl,bp,ax rfl rfl (.refl _)⟩ ?_;rintro _ _ _ ⟨k,o,hv,A7,c7,⟨hk,hhv,Kj,hG⟩,rfl,hs,hp⟩;refine aU hs hp ?_;clear hs hp;refine bz ?_;refine aj (fun jG=>?_) fun jG=>?_
 ·have YA:=KO hx (k:=k) aa;have Yy:=arh (L:=L) (k:=k) aa;have hrb:=yE (b:=b) YA aa;have hwt:=rF (L:=L) (k:=k) aa;have CD:=qo L (k+1);have qy:=yF (recAt L k);have Gc:=YV (b:=b) (L:=L) (k:=k) aa;obtain⟨q,hq⟩:=cN ((lJ b (recAt L k)).length);rw[←hq]at hrb Gc;refine bz ?_;refine ab (aC (i:=k) (size:=4) underlying24 ag rfl rfl rfl aa aB) rfl ?_;refine ab (dI 4 ag rfl aB aa (aK.cells (recAt L k)) (oL aa) rfl) rfl ?_;refine bc fun g10=>?_;refine bL ?_;refine ay rfl ((V6 b _ YA aa).forget) fun G_ JI=>?_;refine aF ?_;rw[←hq];refine bF ?_;refine d_ (fun zf zL=>∃(op:bf) (rH Vd:Nat) (A8:bj) (c8:Nat),(Vd+q≤2*dU (L.take (k+1))∧rH≤k∧op.length≤k∧jx S (lens b L)=op++s6 S (rH+1) (Vd+q) ((lens b L).drop (k+1)))∧Sub zf [(0,ah size),(1,.bool b),(7,.slice A8 (op.length+1) c8),(8,ah Vd),(11,ah q),(12,.slice A L.length c),(13,ah L.length),(14,ah k)]∧Wk zL (.own 3 1 A8 (op.length+1) c8 (bx op++[ah rH])::F)) ?_ ?_
  ·refine be ?_;refine bW 11 32 [0,1,7,8,11,12,13,14] ((o.length:Int)=0∨max 1 size<(hv:Int)+q) ?_ ?_
   ·refine b8 ?_;refine aL rfl rfl rfl (fun zJ=>?_) (fun zJ=>?_)
    ·refine bJ ?_;refine ab (JU rfl rfl) rfl ?_;refine bF ?_;exact aQ oS
    ·refine bz ?_;exact aQ vu
   ·refine be ?_;refine aj (fun Bw=>?_) fun Bw=>?_
    ·refine bF ?_;refine dE fJ rfl rfl rfl rfl rfl (fun _=>rfl) aV aa aa ?_;intro _ Lo c35;refine bz ?_;have hG2:jx S (lens b L)=o++s6 S (0+1) (0+q) ((lens b L).drop (k+1)):=by
      rcases hG with⟨h1,h2⟩|⟨op,rH,h1,h2,h3⟩
      ·subst h1;subst h2;have:lens b L=q::(lens b L).drop 1:=by rw[←Gc];rfl
       conv=>lhs;rw[this]
       simp[jx]
      ·rw[h3,Gc,acd (by(have:o.length≠0:=(by simp[h1]);omega)),h1];simp[jx]
     exact bC ⟨o,0,0,Lo,c35,⟨aa,bT _,Kj,hG2⟩,bp,.skip (.refl _)⟩
    ·obtain⟨op,rH,ho,acx,hG3⟩:∃op rH,o=op++[rH]∧rH≤k∧jx S (lens b L)=op++s6 S rH hv ((lens b L).drop k):=by
      rcases hG with⟨h1,h2⟩|h
      ·subst h2;exact absurd (Or.inl rfl) Bw
      ·exact h
     rw[Gc,ahg aa]at hG3;have aqj:o.length=op.length+1:=by rw[ho];simp
     refine aF ?_;exact bC ⟨op,rH,hv,A7,c7,⟨aa,acx,aa,hG3⟩,bp,.skip (ax aqj (by subst ho;simp[bx]) (.refl _))⟩
  ·rintro _ _ ⟨op,rH,Vd,A8,c8,⟨hh2,hcn,hop,hGG⟩,hs,hp⟩;refine aU hs hp ?_;clear hs hp;refine bG ?_;refine ab (dw rfl rfl (r:=(op.length:Int)) ((bE aa aa).trans aa)) rfl ?_;refine ab (aC (i:=op.length) (size:=1) underlying53 ag rfl rfl rfl aa aB) rfl ?_;refine ab (au (v:=ah rH) ag rfl aB aa sD) rfl ?_;refine aF ?_;refine ab (aC (i:=op.length) (size:=1) underlying53 ag rfl rfl rfl aa aB) rfl ?_;refine jy ?_;have el:op.length+1=(op++[rH+1]).length:=by simp
   rw[el];refine av ⟨_,aa,k+1,op++[rH+1],Vd+q,A8,c8,⟨aa,aa,bR,.inr ⟨op,rH+1,rfl,aa,hGG⟩⟩,rfl,bp,ax rfl (by rw[cE,KV _ _ _ _ ak];simp[bx]) (.refl _)⟩
 ·refine cJ ?_;have Ca:k=L.length:=by omega
  have hoG:o=jx S (lens b L):=by
   rcases hG with⟨h1,h2⟩|⟨op,rH,h1,h2,h3⟩
   ·have:lens b L=[]:=mm aa;rw[this,h2];rfl
   ·rw[h3,mn aa,h1];rfl
  rw[←hoG];refine aF ?_;exact⟨A7,c7,rfl,rfl⟩
def CW(S:Nat):bf→bf→Prop
 |l,[]=>l=[]
 |l,n::g=>1≤n∧n≤l.length∧((l.take n).sum≤S∨n=1)∧(n<l.length→S<(l.take n).sum+l.getD n 0)∧CW S (l.drop n) g
theorem DW(S:Nat):∀(l p:bf) (hv:Nat),1≤p.length→hv=p.sum→(hv≤S∨p.length=1)→CW S (p++l) (s6 S p.length hv l)
 |[],p,hv,h1,h2,h3=>by
  rw[s6,gk];exact⟨h1,gj _,by rw[jU,←h2];exact h3,fun h=>absurd h (Nat.lt_irrefl _),by rw[BJ];rfl⟩
 |n::l,p,hv,h1,h2,h3=>by
  rw[s6];split
  ·rename_i h;have:=DW S l (p++[n]) (hv+n) ak (by rw[vW,h2];simp) (.inl h);rw[aY,p_,bV]at this;exact this
  ·rename_i h;refine⟨h1,ak,by rw[yf,←h2];exact h3,fun _=>?_,?_⟩
   ·rw[yf,←h2];simp[List.getD];omega
   ·rw[BI];exact DW S l [n] n ak ak (.inr rfl)
theorem kv(S:Nat):∀l,CW S l (jx S l)
 |[]=>rfl
 |n::l=>DW S l [n] n ak ak (.inr rfl)
theorem Kd(S:Nat):∀(l:bf) (rH hv:Nat),(s6 S rH hv l).length≤l.length+1
 |[],_,_=>by simp[s6]
 |n::l,rH,hv=>by
  rw[s6];split
  ·have:=Kd S l (rH+1) (hv+n);simp;omega
  ·have:=Kd S l 1 n;simp;omega
theorem mV(S:Nat):∀l,(jx S l).length≤l.length
 |[]=>by simp[jx]
 |n::l=>by have:=Kd S l 1 n;simp[jx];omega
theorem E_(b:Bool):∀L,(dc b L).length=(lens b L).sum
 |[]=>rfl
 |x::L=>by
  have h:=E_ b L;unfold dc lens at h⊢;rw[jJ,aY,h];simp
theorem Jl:∀(L:List aK) (k:Nat),dU (L.drop k)≤dU L:=fun L k=>by
 have h:dU L=dU (L.take k)+dU (L.drop k):=by
  rw[dU,dU,dU,←vW,←jb,jK]
 omega
theorem AU:∀(L:List aK) (k:Nat),(di L).take (k*4)=di (L.take k)
 |L,0=>by simp[di]
 |[],k+1=>by simp[di]
 |x::L,k+1=>by
  have h:=AU L k;rw[q9];simp only[di,jJ]at h⊢;rw[←h,j0,sL (k*4) 4,N7,fL (by simp[aK.cells])];simp[aK.cells]
def I9(b:Bool)(s:Cs):Cs:=if b=true then s.lY.eJ else s
def dZ(b:Bool)(s:Cs):aK×Cs:=
 ((if b=true then s.num else 0,if b=true then s.lY.byte else 0,(I9 b s).text 4000,((I9 b s).ew 4000).text 4000),((I9 b s).ew 4000).ew 4000)
def oj(b:Bool):Nat→Cs→List aK→List aK×Int
 |0,_,out=>(out,0)
 |f+1,s,out=>if s.left=0 then (out,0) else if (dZ b s).2.e≠0 then ([],(dZ b s).2.e) else oj b f (dZ b s).2 (out++[(dZ b s).1])
theorem cu.I9{b:Bool}{s:Cs}(h:cu s):cu (I9 b s):=by
 unfold Proofs.YtaodmbolhoafcaaGreatDoor.I9;split
 ·exact h.lY.eJ
 ·exact h
theorem cu.dZ{b:Bool}{s:Cs}(h:cu s):cu (dZ b s).2:=h.I9.ew.ew
theorem KI(s:Cs):s.lY.b=s.b:=Cs.cK _ _ _
theorem JG(s:Cs):s.eJ.b=s.b:=Cs.cK _ _ _
theorem vj(s:Cs)(m:Int):(s.ew m).b=s.b:=Cs.cK _ _ _
theorem aeK(b:Bool)(s:Cs):(I9 b s).b=s.b:=by unfold I9;split<;>simp[KI,JG]
theorem aiE(b:Bool)(s:Cs):(dZ b s).2.b=s.b:=by unfold dZ;simp[vj,aeK]
theorem aes(b:Bool)(s:Cs):∃a e,(dZ b s).2=⟨s.b,a,e⟩:=⟨_,_,by rw[←aiE b s]⟩
def aK.fits(x:aK):Prop:=x.1<18446744073709551616∧x.2.2.1.length≤4000∧x.2.2.2.length≤4000
theorem ZE{b:Bool}{s:Cs}(h:(dZ b s).2.e=0):nO s (dZ b s).2 (lJ b (dZ b s).1)∧(dZ b s).1.fits∧(b=false→(dZ b s).1.1=0∧(dZ b s).1.2.1=0):=by
 obtain⟨h2,l2⟩:=Cs.yO (s:=(I9 b s).ew 4000) h;obtain⟨h1,l1⟩:=Cs.yO (s:=I9 b s) h2.e0;cases b with
 |false=>
  refine⟨?_,⟨?_,?_,?_⟩,fun _=>⟨rfl,rfl⟩⟩
  ·have:=h1.trans h2;simpa[lJ,fO,dZ,I9]using this
  ·simp[dZ]
  ·simp only[dZ];omega
  ·simp only[dZ];omega
 |true=>
  have h0:(s.lY.eJ).e=0:=h1.e0;have hb:=Cs.aa' h0;obtain⟨hn,ln⟩:=Cs.ah7 hb.e0;refine⟨?_,⟨?_,?_,?_⟩,fun h=>ki⟩
  ·have:=((hn.trans hb).trans h1).trans h2;simpa[lJ,fO,dZ,I9]using this
  ·simpa[dZ]using ln
  ·simp only[dZ];omega
  ·simp only[dZ];omega
def norm(b:Bool)(x:aK):aK:=if b=true then x else (0,0,x.2.2.1,x.2.2.2)
theorem aer{b:Bool}{s:Cs}{x:aK}{r:al}(h0:s.e=0)(hx:x.fits)(hr:s.rest=lJ b x++r):(dZ b s).1=norm b x∧nO s (dZ b s).2 (lJ b x):=by
 obtain⟨LD,hx2,hx3⟩:=hx;have hm:(4000:Int)≤9223372036854775807:=by decide
 cases b with
 |false=>
  have uZ:s.rest=fo x.2.2.1++(fo x.2.2.2++r):=by rw[hr];simp[lJ,fO]
  obtain⟨t1,d1⟩:=Cs.rC (m:=4000) h0 aa hm uZ;obtain⟨t2,d2⟩:=Cs.rC (m:=4000) d1.e1 aa hm (d1.cH uZ);refine⟨?_,?_⟩
  ·simp only[dZ,norm,I9];simp[t1,t2]
  ·have:=d1.trans d2;simpa[dZ,I9,lJ,fO]using this
 |true=>
  have uZ:s.rest=aS x.1++(x.2.1::(fo x.2.2.1++(fo x.2.2.2++r))):=by rw[hr];simp[lJ,fO]
  obtain⟨n1,dn⟩:=Cs.VP h0 LD uZ;have xm:=dn.cH uZ;obtain⟨b1,db⟩:=Cs.l8 dn.e1 xm;have hr3:=db.cH (p:=[x.2.1]) xm;obtain⟨t1,d1⟩:=Cs.rC (m:=4000) db.e1 aa hm hr3;obtain⟨t2,d2⟩:=Cs.rC (m:=4000) d1.e1 aa hm (d1.cH hr3);refine⟨?_,?_⟩
  ·simp only[dZ,norm,I9];simp[t1,t2,n1,b1]
  ·have:=((dn.trans db).trans d1).trans d2;simpa[dZ,I9,lJ,fO]using this
theorem OO(b:Bool)(x:aK):2≤(lJ b x).length:=by
 have h1:=M4 x.2.2.1;have h2:=M4 x.2.2.2;unfold lJ;rw[aY,aY];omega
theorem nH(s:Cs):s.rest.length=s.left:=by simp[Cs.rest,Cs.left]
theorem Fi{b:Bool}{s:Cs}(h:(dZ b s).2.e=0):(dZ b s).2.left+2≤s.left:=by
 have h1:=(ZE h).1.rest;have h2:=OO b (dZ b s).1;have:=ek List.length h1;rw[aY,nH,nH]at this;omega
theorem AR{b:Bool}:∀(f:Nat) (L:List aK) (s:Cs) (out:List aK),s.e=0→s.left<f→(∀x∈L,x.fits)→s.rest=dc b L→oj b f s out=(out++L.map (norm b),0)
 |0,L,s,out,_,hf,_,_=>absurd hf aa
 |f+1,[],s,out,h0,hf,_,hr=>by
  have:s.left=0:=by rw[←nH,hr];rfl
  unfold oj;rw[ao this];simp
 |f+1,x::L,s,out,h0,hf,hx,hr=>by
  have uZ:s.rest=lJ b x++dc b L:=by rw[hr];simp[dc]
  obtain⟨h1,h2⟩:=aer h0 (hx x ak) uZ;have hl:¬s.left=0:=by
   have:=OO b x;rw[←nH,uZ,aY];omega
  have he:(dZ b s).2.e=0:=h2.e1;have acK:=Fi he;unfold oj;rw[aw hl,aw L6,AR f L _ _ he aa (fun y hy=>hx y vK) (h2.cH uZ),h1];simp
theorem aeh(b:Bool)(ho:cu s)(hb:aJ B w0 F 1 (.slice A s.b.length c) s.b.length (bv s.b)):
  a_ B w0 273 [.agg #[br g],.bool b] (Cv g A c s::F) (fun r L=>r= .agg (aK.cells (dZ b s).1).toArray∧L=Cv g A c (dZ b s).2::F):=by
 have p9:∀(s':Cs),s'.b=s.b→aJ B w0 F 1 (.slice A s'.b.length c) s'.b.length (bv s'.b):=fun s' h=>by rw[h];exact hb
 refine fw func273 23 [0,1] ?_;refine be ?_;refine bh fun g2=>?_;refine bc fun g4=>?_;refine be ?_;refine d_ (fun zf zL=>Sub zf [(2,br g2),(4,br g4)]∧Wk zL (Cv g A c (I9 b s):: .bD g4 62 [.int .u64 (if b=true then s.num else 0:Nat),.int .u8 ((if b=true then s.lY.byte else 0:UInt8).toNat:Int),.string ⟨#[]⟩,.string ⟨#[]⟩]:: .bD g2 366 [br g]::F)) ?_ ?_
 ·refine bG ?_;refine gD (fun h5=>?_) fun h5=>?_
  ·subst h5;refine b8 ?_;refine ai rfl ((abo ho (.cons (.cons hb))).perm Cm) ?_;refine bL ?_;refine ai rfl (oo ho.lY (.cons (.cons (p9 _ (KI s))))) ?_;refine bF ?_;exact bC ⟨bp,.refl _⟩
  ·subst h5;refine aF ?_;exact bC ⟨bp,.dD Cm⟩
 ·rintro _ _ ⟨hs,hp⟩;refine aU hs hp ?_;clear hs hp;refine b8 ?_;refine ai rfl (Ct ho.I9 (.cons (.cons (p9 _ (aeK b s)))) aa aa) ?_;refine bJ ?_;refine ai rfl (Ct ho.I9.ew (.cons (.cons (p9 _ ((vj _ _).trans (aeK b s))))) aa aa) ?_;refine cY ?_;refine I2 rfl rfl ag aV gC (.cons (.skip (.skip (.refl _)))) ?_;exact⟨rfl,rfl⟩
def qH(b:Bool)(l:al):List aK×Int:=oj b (l.length+1) ⟨l,0,0⟩ []
theorem AQ{b:Bool}{f:Nat}{s:Cs}{o:List aK}(h:s.left=0):oj b (f+1) s o=(o,0):=by unfold oj;rw[ao h]
theorem AP{b:Bool}{f:Nat}{s:Cs}{o:List aK}(h:¬s.left=0)(he:(dZ b s).2.e≠0):oj b (f+1) s o=([],(dZ b s).2.e):=by unfold oj;rw[aw h,ao he]
theorem E9{b:Bool}{f:Nat}{s:Cs}{o:List aK}(h:¬s.left=0)(he:¬(dZ b s).2.e≠0):oj b (f+1) s o=oj b f (dZ b s).2 (o++[(dZ b s).1]):=by conv=>lhs;unfold oj;rw[aw h,aw he]
theorem Zz(o:List aK)(x:aK):di (o++[x])=di o++aK.cells x:=by simp[di]
theorem OL{l:al}(b:Bool)(hb:eM B w0 F A c l)(hl:l.length≤1000000000):
  a_ B w0 231 [.bool b,.slice A l.length c] F (fun r L=>∃A' c',r= .tuple #[.slice A' (qH b l).1.length c',ah (qH b l).2]∧L= .own 62 4 A' (qH b l).1.length c' (di (qH b l).1)::F):=by
 refine fw func231 31 [0,1] ?_;refine bQ ?_;refine dX rfl (mU hb aa) fun g11 tz xg=>?_;refine ab (eG [(0,_)] [_] rfl rfl ag) rfl ?_;refine bc fun g6=>?_;refine b8 ?_;refine aZ 62 4 none ?_;refine bz ?_;refine aE (fun zf zL zm=>∃(a:Nat) (o:List aK) (A7:bj) (c7:Nat) (m:Nat),(a≤l.length∧l.length-a<m∧o.length+(l.length-a)≤l.length∧oj b m ⟨l,a,0⟩ o=qH b l)∧m=zm∧Sub zf [(0,.bool b),(6,br g6),(7,.slice A7 o.length c7)]∧Wk zL (Cv g11 tz xg ⟨l,a,0⟩:: .own 62 4 A7 o.length c7 (di o):: .bD g6 366 [br g11]:: .own 5 1 tz l.length xg (bv l)::F)) _ ⟨0,[],none,0,l.length+1,⟨bT _,aa,ak,rfl⟩,rfl,bp,.dD Cm⟩ ?_;rintro _ _ _ ⟨a,o,A7,c7,m,⟨Ga,ham,Kj,hG⟩,rfl,hs,hp⟩;refine aU hs hp ?_;clear hs hp;obtain⟨f,rfl⟩:∃f,m=f+1:=⟨m-1,aa⟩
 have ho:cu ⟨l,a,0⟩:=⟨Ga,cZ⟩
 have aj3:Cs.left ⟨l,a,0⟩=l.length-a:=rfl;obtain⟨a',e',BA⟩:=aes b ⟨l,a,0⟩;have qy:=yF (dZ b ⟨l,a,0⟩).1;refine bG ?_;refine ai rfl (JK ho aB) ?_;refine bF ?_;refine aj (fun kh=>?_) fun kh=>?_
 ·refine bL ?_;refine ai rfl (aeh b ho aB) ?_;rw[BA];refine bc fun g8=>?_;refine bJ ?_;refine ai rfl (gO.perm swp) ?_;refine bQ ?_;refine aj (fun oc=>?_) fun oc=>?_
  ·refine bG ?_;refine ve [4,5] ?_;refine bL ?_;have hz:qH b l=([],e'):=by rw[←hG,AP aa (by rw[BA];exact oc),BA]
   rw[hz];refine aD 62 4 none ?_;refine aq (L':=.own 62 4 none 0 0 []::F) (.cons (.skip (.skip (.skip (.skip (.skip (.refl _))))))) ?_;refine aF ?_;exact⟨none,0,rfl,rfl⟩
  ·have he0:e'=0:=kR.1 oc;subst he0;have hG2:=E9 (b:=b) (f:=f) (s:=⟨l,a,0⟩) (o:=o) aa (by rw[BA];simp);rw[hG,BA]at hG2;have acK:=Fi (b:=b) (s:=⟨l,a,0⟩) (by rw[BA]);have ho':=ho.dZ (b:=b);rw[BA]at acK ho';have ar':a'≤l.length:=ho'.at_;have asv:l.length-a'+2≤l.length-a:=acK;refine bG ?_;refine rE Wo rfl rfl rfl aa cw rfl rfl rfl (fun _=>rfl) aV aa aa ?_;intro _ A29 c29;refine aF ?_;refine ve [0,6,7] ?_;refine aF ?_;have el:o.length+1=(o++[(dZ b ⟨l,a,0⟩).1]).length:=by simp
   rw[el];refine av ⟨_,aa,a',o++[(dZ b ⟨l,a,0⟩).1],A29,c29,f,⟨ar',aa,bR,hG2.symm⟩,rfl,bp,.cons (.skip (ax rfl (Zz _ _).symm (.refl _)))⟩
 ·refine de ?_;have hz:qH b l=(o,0):=by rw[←hG,AQ aa]
  rw[hz];refine aq (L':=.own 62 4 A7 o.length c7 (di o)::F) (.skip (.cons (.skip (.skip (.refl _))))) ?_;refine aF ?_;exact⟨A7,c7,rfl,rfl⟩
theorem aaT{P:Prop}(h:P:=by(unfold Cs.rest;simp)):P:=h
theorem ags{P:Prop}(h:P:=by(rw[wT];exact f5)):P:=h
theorem C3{P:Prop}(h:P:=by(unfold PI;omega)):P:=h
theorem pn:type_of% @List.map_take:= @List.map_take
theorem yc:type_of% @List.map_drop:= @List.map_drop
theorem rf:type_of% @List.mem_of_mem_drop:= @List.mem_of_mem_drop
theorem bH:type_of% @Classical.byContradiction:= @Classical.byContradiction
theorem qb:type_of% @List.drop_left':= @List.drop_left'
def jv(b plain:Bool):bf→List aK→eH
 |[],_=>[]
 |n::ns,L=>(jA (dc b (L.take n)) plain).1::jv b plain ns (L.drop n)
def fI(x:Bool):UInt8:=if x then 1 else 0
def dR(o:aR)(b:Bool)(L:List aK):bf:=jx o.1.toNat (lens b L)
def tf(o:aR)(L:List aK):al:=(dY++[1])++(aS o.1.toNat++(fI o.2.1::(aS L.length++aS (dR o true L).length)))
def qB(o:aR)(L:List aK):al:=cX (tf o L++(jv true o.2.1 (dR o true L) L).flatten)
def tg(o:aR)(L:List aK):al×Int:=if cB 1 o≠0 then ([],cB 1 o) else if cO L≠0 then ([],cO L) else (qB o L,0)
def gW(b:al):al×Int:=
 if (marked b).2≠0 then ([],(marked b).2) else if (marked b).1≠1 then ([],4)
 else if (aI b).2≠0 then ([],(aI b).2) else if (aI b).1.length<5 then ([],1) else ((aI b).1.drop 5,0)
def oh1(x:al):Cs:=Cs.bX ⟨x,0,0⟩ 32768
def Zf(x:al):UInt8:=(oh1 x).byte
def VS(x:al):Cs:=if 1<(Zf x).toNat then (oh1 x).eJ.failed 2 else (oh1 x).eJ
def oh3(x:al):Cs:=(VS x).bX 20000
def G0(x:al):Nat:=(VS x).int 20000
def Cg(x:al):Cs:=(oh3 x).bX (G0 x)
def CJ(x:al):Nat:=(oh3 x).int (G0 x)
def ohO(x:al):aR:=((Cs.int ⟨x,0,0⟩ 32768:Nat),decide ((Zf x).toNat=1),0,0,0,0)
def ohE(x:al):Int:=if (Cg x).e≠0 then (Cg x).e else cB 1 (ohO x)
noncomputable def jN(s:Cs):List aK×Cs×Int:=
 if (dK s.rest).2.2≠0 then ([],s,(dK s.rest).2.2)
 else if (qH true (dK s.rest).1).2≠0 then ([],s.b_ ((dK s.rest).2.1:Nat),(qH true (dK s.rest).1).2)
 else if (qH true (dK s.rest).1).1=[] then ([],s.b_ ((dK s.rest).2.1:Nat),2)
 else ((qH true (dK s.rest).1).1,s.b_ ((dK s.rest).2.1:Nat),0)
noncomputable def oz:Nat→Cs→List aK→List aK×Cs×Int
 |0,s,out=>(out,s,0)
 |f+1,s,out=>if (jN s).2.2≠0 then ([],(jN s).2.1,(jN s).2.2) else oz f (jN s).2.1 (out++(jN s).1)
noncomputable def kE(x:al):List aK×Int:=
 if (oz (CJ x) (Cg x) []).2.2≠0 then ([],(oz (CJ x) (Cg x) []).2.2)
 else if 0<(oz (CJ x) (Cg x) []).2.1.left∨(oz (CJ x) (Cg x) []).1.length≠G0 x then ([],2)
 else if cO (oz (CJ x) (Cg x) []).1≠0 then ([],cO (oz (CJ x) (Cg x) []).1) else ((oz (CJ x) (Cg x) []).1,0)
noncomputable def lZ(b:al):aR×List aK×Nat×Int:=
 if (gW b).2≠0 then (gR,[],0,(gW b).2)
 else if ohE (gW b).1≠0 then (gR,[],0,ohE (gW b).1)
 else if (kE (gW b).1).2≠0 then (gR,[],0,(kE (gW b).1).2)
 else (ohO (gW b).1,(kE (gW b).1).1,CJ (gW b).1,0)
theorem aeg{b:Bool}{x:aK}(hx:x.fits):(lJ b x).length≤8100:=by
 obtain⟨h1,h2,h3⟩:=hx;have e1:=m8 (s:=x.2.2.1) aa;have e2:=m8 (s:=x.2.2.2) aa;have e3:=aT h1;unfold lJ fO;split<;>simp only[aY,ef,r_]<;>omega
theorem YX(b:Bool)(L:List aK)(n:Nat):lens b (L.take n)=(lens b L).take n:=by simp[lens,pn]
theorem wT(b:Bool)(L:List aK)(n:Nat):lens b (L.drop n)=(lens b L).drop n:=by simp[lens,yc]
theorem oF{S:Nat}(hS:S≤32768){b:Bool}{L:List aK}(hL:∀x∈L,x.fits){n:Nat}(h1:1≤n)(h:((lens b L).take n).sum≤S∨n=1):(dc b (L.take n)).length≤32768:=by
 rw[E_,YX];rcases h with h|h
 ·omega
 ·subst h;cases L with
  |nil=>simp[lens]
  |cons x r=>
   have:=aeg (b:=b) (hL x ak);simp[lens];omega
theorem IM{S:Nat}(hS:S≤32768)(plain:Bool):∀(g:bf) (L out:List aK) (s:Cs) (r:al),s.e=0→(∀x∈L,x.fits)→CW S (lens true L) g→s.rest=(jv true plain g L).flatten++r→
  ∃s',oz g.length s out=(out++L,s',0)∧nO s s' (jv true plain g L).flatten
 |[],L,out,s,r,h0,hL,hf,hr=>by
  have:L=[]:=List.map_eq_nil_iff.1 (show lens true L=[] from hf);subst this;exact⟨s,by simp[oz],nO.nil h0⟩
 |n::g,L,out,s,r,h0,hL,hf,hr=>by
  obtain⟨f1,f2,f3,f4,f5⟩:=hf;rw[eo]at f2;have It:=oF hS hL f1 f3;have uZ:s.rest=(jA (dc true (L.take n)) plain).1++((jv true plain g (L.drop n)).flatten++r):=by rw[hr];simp[jv]
  have hb:=Mh (dc true (L.take n)) plain It ((jv true plain g (L.drop n)).flatten++r);rw[←uZ]at hb;obtain⟨_,ht⟩:=Cs.mv (n:=((jA (dc true (L.take n)) plain).1.length:Nat)) h0 rfl uZ;have tW:qH true (dc true (L.take n))=(L.take n,0):=by
   unfold qH;rw[AR _ (L.take n) _ [] rfl (by unfold Cs.left;simp only;omega) (fun x hx=>hL x (lX hx)) aaT];have:(L.take n).map (norm true)=L.take n:=by
    conv=>rhs;rw[←List.map_id (L.take n)]
    exact r9 fun x _=>by simp[norm]
   rw[this,nA]
  have r8:¬L.take n=[]:=by
   intro h;have:=ek List.length h;rw[eS,r_]at this;omega
  have hk:jN s=(L.take n,s.b_ ((jA (dc true (L.take n)) plain).1.length:Nat),0):=by
   unfold jN;rw[hb];simp only;rw[tW];simp only;rw[aw ak,aw ak,aw r8]
  obtain⟨s',h1,h2⟩:=IM hS plain g (L.drop n) (out++L.take n) _ r ht.e1 (fun x hx=>hL x (rf hx)) ags (ht.cH uZ);refine⟨s',?_,by have:=ht.trans h2;simpa[jv]using this⟩;rw[ef,oz,hk,aw ak];simp only;rw[h1,bV,jK]
theorem adR{o:aR}{L:List aK}(ho:cB 1 o=0)(hc:cO L=0)(hx:∀x∈L,x.1<18446744073709551616):lZ (qB o L)=(o,L,(dR o true L).length,0):=by
 have fG:nV 1 o:=by
  unfold cB at ho;rw[ao (.inl rfl)]at ho;exact bH fun h=>by rw[aw h]at ho;simp at ho
 obtain⟨⟨m1,m2⟩,_,_,m5,m6⟩:=fG;obtain⟨k1,k2,k3⟩:=m5 aa;have k6:=m6 rfl;have r7:L.length≤20000∧(∀x∈L,x.fits):=by
  unfold cO at hc;have:¬(20000<L.length∨(∃x∈L,uh x)∨1048576<dU L):=fun h=>by rw[ao h]at hc;simp at hc
  refine⟨aa,fun x h=>⟨hx x h,?_,?_⟩⟩
  ·exact ya fun k=>this (.inr (.inl ⟨x,h,.inl k⟩))
  ·exact ya fun k=>this (.inr (.inl ⟨x,h,.inr k⟩))
 obtain⟨hl,hL⟩:=r7;have hg:(dR o true L).length≤L.length:=by unfold dR;have:=mV o.1.toNat (lens true L);rwa [eo]at this
 obtain⟨Y,hY⟩:=cN (aS o.1.toNat++(fI o.2.1::(aS L.length++(aS (dR o true L).length++(jv true o.2.1 (dR o true L) L).flatten))));have hX:gW (qB o L)=(Y,0):=by
  have e1:marked (qB o L)=(1,0):=by
   have:=lS (v:=1) C3 ((aS o.1.toNat++(fI o.2.1::(aS L.length++aS (dR o true L).length)))++((jv true o.2.1 (dR o true L) L).flatten++mu (pP 0 (tf o L++(jv true o.2.1 (dR o true L) L).flatten))));rw[←this];congr 1;unfold qB cX tf;show _=(dY++[1])++_;simp[bV]
  have e2:aI (qB o L)=(tf o L++(jv true o.2.1 (dR o true L) L).flatten,0):=ju _;have e3:tf o L++(jv true o.2.1 (dR o true L) L).flatten=(dY++[1])++Y:=by rw[hY];unfold tf;simp[bV]
  have e4:((dY++[1]:al)++Y).drop 5=Y:=qb rfl;unfold gW;rw[e1,e2,e3];simp only;rw[aw ak,aw ak,aw ak,aw (by simp[dY]),e4]
 have r0:Cs.rest ⟨Y,0,0⟩=aS o.1.toNat++(fI o.2.1::(aS L.length++(aS (dR o true L).length++(jv true o.2.1 (dR o true L) L).flatten))):=by unfold Cs.rest;rw[tb];exact hY
 obtain⟨n1,d1⟩:=Cs.iB (m:=32768) rfl aa aa r0;have r1:=d1.cH r0;obtain⟨n2,d2⟩:=Cs.l8 d1.e1 r1;have r2:=d2.cH (p:=[fI o.2.1]) r1;obtain⟨n3,d3⟩:=Cs.iB (m:=20000) d2.e1 aa aa r2;have r3:=d3.cH r2;obtain⟨n4,d4⟩:=Cs.iB (m:=(L.length:Nat)) d3.e1 aa aa r3;have r4:=d4.cH r3;have l0:(fI o.2.1).toNat≤1∧(decide ((fI o.2.1).toNat=1)=o.2.1):=by cases o.2.1<;>exact⟨aA,aA⟩
 have e1:oh1 Y=Cs.bX ⟨Y,0,0⟩ 32768:=rfl;have ePl:Zf Y=fI o.2.1:=by unfold Zf;rw[e1];exact n2
 have e2:VS Y=(Cs.bX ⟨Y,0,0⟩ 32768).eJ:=by unfold VS;rw[ePl,aw aa,e1]
 have eR:G0 Y=L.length:=by unfold G0;rw[e2];exact n3
 have e3:oh3 Y=(Cs.bX ⟨Y,0,0⟩ 32768).eJ.bX 20000:=by unfold oh3;rw[e2]
 have eB:CJ Y=(dR o true L).length:=by unfold CJ;rw[e3,eR];exact n4
 have e4:Cg Y=((Cs.bX ⟨Y,0,0⟩ 32768).eJ.bX 20000).bX (L.length:Nat):=by unfold Cg;rw[e3,eR]
 have eO:ohO Y=o:=by
  unfold ohO;rw[n1,ePl,l0.2];obtain⟨a,b,c,d,e,f⟩:=o;simp only at m1 m2 k1 k2 k3 k6⊢;rw[k1,k2,k3,k6];congr 1;omega
 have eE:ohE Y=0:=by unfold ohE;rw[e4,d4.e1,aw ak,eO];exact ho
 obtain⟨s',h1,h2⟩:=IM (S:=o.1.toNat) aa o.2.1 (dR o true L) L [] (Cg Y) [] (by rw[e4];exact d4.e1) hL (kv _ _) (by rw[e4,r4,gk]);have aj3:s'.left=0:=by
  rw[←nH];have:=h2.cH (r:=[]) (by rw[e4,r4,gk]);rw[this];rfl
 have eL:kE Y=(L,0):=by
  unfold kE;rw[eB,h1];simp only;rw[aw ak,eR,aw (by rw[aj3];simp),nA,hc,aw ak]
 unfold lZ;rw[hX];simp only;rw[aw ak,eE,aw ak,eL,aw ak,eO,eB]
theorem oR{P:Prop}(h:P:=by(decide+kernel)):P:=h
theorem Qr{P:Prop}(h:P:=by(rintro _ _ ⟨rfl,rfl⟩;exact gF)):P:=h
theorem NU:type_of% @List.replicate_zero:= @List.replicate_zero
theorem an0(y:Nat)(hy:y<4294967296):IntKind.u64.wrap ((BitVec.ofInt IntKind.u64.bits (y:Int) &&& BitVec.ofInt IntKind.u64.bits 4294967295).toNat:Int)=(y:Int):=by
 have h:=u64_and y 4294967295 aa aa;rw[show(4294967295:Nat)=2^32-1 from rfl,Nat.and_two_pow_sub_one_eq_mod,ja (show y<2^32 from hy)]at h;exact h
theorem akr(y:Nat)(hy:y<4294967296):(y:Int).fdiv (2^min (32:Int).toNat IntKind.u64.bits)=0:=by
 have e:min (32:Int).toNat IntKind.u64.bits=32:=by decide
 rw[e,vT _ aA];omega
theorem ah2(y:Nat)(hy:y<4294967296):a_ B w0 338 [.int .u64 1,.int .u64 y] F (fun r L=>r= .tuple #[.int .u64 0,.int .u64 y]∧L=F):=by
 refine fw func338 51 [0,1] ?_;refine bQ ?_;refine ab (jY rfl rfl (r:=1) oR) rfl ?_;refine bz ?_;refine ab (dj rfl rfl aa (r:=0) oR) rfl ?_;refine bz ?_;refine ab (jY rfl rfl (an0 y hy)) rfl ?_;refine bz ?_;refine ab (dj rfl rfl aa (akr y hy)) rfl ?_;refine bL ?_;refine ab (eZ rfl rfl (r:=(y:Int)) ((f_ aa aa).trans aa)) rfl ?_;refine bL ?_;refine ab (eZ rfl rfl (r:=0) ((f_ aa aa).trans aa)) rfl ?_;refine aF ?_;refine ab (dj rfl rfl aa (akr y hy)) rfl ?_;refine ab (bY rfl rfl (r:=0) oR) rfl ?_;refine aF ?_;refine ve [0,1,6,7,9,11] ?_;refine b8 ?_;refine ab (jY rfl rfl (r:=0) oR) rfl ?_;refine bz ?_;refine ab (dj rfl rfl aa (r:=0) oR) rfl ?_;refine bJ ?_;refine ab (eZ rfl rfl (r:=0) oR) rfl ?_;refine ab (bY rfl rfl (r:=0) oR) rfl ?_;refine bL ?_;refine ab (eZ rfl rfl (r:=0) oR) rfl ?_;refine aF ?_;refine ab (bY rfl rfl (r:=0) oR) rfl ?_;refine aF ?_;refine ab (dj rfl rfl aa (r:=0) oR) rfl ?_;refine ab (bY rfl rfl (r:=0) oR) rfl ?_;refine aF ?_;refine ve [0,1,4] ?_;refine bG ?_;refine ab (eZ rfl rfl (r:=(y:Int)) ((f_ aa aa).trans aa)) rfl ?_;refine bG ?_;exact⟨rfl,rfl⟩
theorem aqF(y:Nat)(hy:y<4294967296):a_ B w0 321 [.int .u64 1,.int .u64 y] F (fun r L=>r= .tuple #[.int .u64 0,.int .u64 y]∧L=F):=by
 refine fw func321 30 [0,1] ?_;refine dQ ?_;refine ai rfl (ah2 y hy) ?_;refine B_ ?_;exact⟨rfl,rfl⟩
theorem ZA(b:UInt8)(k:Nat):(bv [b]).take (min 1 k)++(List.replicate k (Value.int .u8 0)).drop (min 1 k)=bv (List.replicate (min 1 k) b)++List.replicate (k-min 1 k) (.int .u8 0):=by
 rw[List.drop_replicate];congr 1;rcases wQ k with h|h
 ·subst h;rfl
 ·rw[za h];rfl
theorem aei(b:UInt8){j k q:Nat}(hj:q≤j)(hk:j+q≤k):(bv (List.replicate j b)++List.replicate (k-j) (Value.int .u8 0)).take j++(bv (List.replicate j b)).take q++(bv (List.replicate j b)++List.replicate (k-j) (Value.int .u8 0)).drop (j+q)=bv (List.replicate (j+q) b)++List.replicate (k-(j+q)) (.int .u8 0):=by
 rw[List.take_append_of_le_length ak,fL ak,jX,List.take_replicate,za hj,←gv,List.replicate_append_replicate];congr 1;rw[List.drop_append,mn ak,nA,List.drop_replicate];congr 1;simp;omega
theorem aej{A:bj}{c:Nat}(b:UInt8)(k:Nat)(hb:aJ B w0 F 1 (.slice A 1 c) 1 (bv [b]))(hk:k≤1000000000):
  a_ B w0 297 [.slice A 1 c,ah k] F (fun r L=>∃A' c',r= .slice A' k c'∧L= .own 5 1 A' k c' (bv (List.replicate k b))::F):=by
 refine fw func297 48 [0,1] ?_;refine cJ ?_;refine dm fun jF=>?_;refine bz ?_;refine ab (bm underlying3 underlying192 rfl (r:=1) oR) rfl ?_;refine aF ?_;refine ab (bm underlying3 underlying192 rfl (f_ aa aa)) rfl ?_;refine ai rfl (aqF k aa) ?_;refine de ?_;refine aL rfl rfl rfl (fun nM=>?_) (fun nM=>?_)
 ·refine b8 ?_;refine ve [0,6,26] ?_;refine aF ?_;refine dm fun qU=>?_;refine bG ?_;refine ab (bm underlying192 underlying3 rfl (bE aa aa)) rfl ?_;refine cC (fb cD rfl rfl rfl rfl rfl aa aa aa) fun Qc=>?_;refine bL ?_;refine lL (H6 cD aV rfl rfl aB (qs _)) rfl ?_;rintro _ _ ⟨rfl,rfl⟩;refine bG ?_;refine aE (fun zf zL zm=>∃(j:Nat),(j≤k∧(0<j∨k=0))∧k-j=zm∧Sub zf [(7,.slice Qc k k),(8,ah j)]∧Wk zL (.own 5 1 Qc k k (bv (List.replicate j b)++List.replicate (k-j) (.int .u8 0))::F)) _ ⟨min 1 k,⟨aa,aa⟩,rfl,bp,ax rfl (ZA b k) (.refl _)⟩ ?_;rintro _ _ _ ⟨j,⟨hj,hj0⟩,rfl,hs,hp⟩;refine aU hs hp ?_;clear hs hp;refine bQ ?_;refine aj (fun zK=>?_) fun zK=>?_
  ·have CA:∀(L:aP),Ch.own 5 1 Qc k k (bv (List.replicate j b)++List.replicate (k-j) (.int .u8 0))∈L→aJ B w0 L 1 (.slice Qc j k) j (bv (List.replicate j b)):=fun L hm=>by
    have:=(aJ.own (B:=B) (w0:=w0) hm).iZ (k:=j) aa;rw[cE,List.take_append_of_le_length ak,fL ak]at this;exact this
   refine bF ?_;refine cF F ?_;refine ae 0 ?_;refine ae 1 ?_;refine ae 2 ?_;refine aW 3 rfl (bP (i:=j) (size:=1) underlying27 ag rfl rfl rfl aa) ?_;refine ae 4 ?_;refine ae 5 ?_;refine aW 6 rfl (bN (i:=j) (size:=1) underlying27 ag rfl rfl rfl aa) ?_;refine az 7 ?_;refine SP rfl .no (MX (i:=j) cD aV rfl aa rfl (CA _ (List.Mem.head _)) (qs _)) rfl Qr ?_;rintro _ _ ⟨rfl,rfl⟩;refine ae 8 ?_;refine ae 9 ?_;refine be ?_;refine av ⟨_,aa,j+min j (k-j),⟨aa,aa⟩,rfl,bp,ax rfl (aei b aa aa) (.refl _)⟩
  ·refine cJ ?_;have hjk:j=k:=by omega
   subst hjk;refine aq (ax rfl (by rw[nx,NU,gk]) (.refl _)) ?_;refine aF ?_;exact⟨Qc,j,rfl,rfl⟩
 ·exfalso;exact absurd nM aA
end Go.Proofs.YtaodmbolhoafcaaGreatDoor

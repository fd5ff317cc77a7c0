/-
  Texts of one proof, joined: part 4. No condition.
-/
import Derived.Test.YtaodmbolhoafcaaGreatDoorZr3
import Derived.ProofKit
import Derived.OpenShut
import Derived.ShutString
import Derived.ChangeOld
import Derived.Deep.Slices
import Derived.Lib.AppendZeros
open Go.RowKit Go.Proofs.Tryz
namespace Go.Proofs.YtaodmbolhoafcaaGreatDoor
set_option linter.unusedVariables false
set_option linter.unusedSimpArgs false
set_option maxRecDepth 20000
variable{B:Nat}{w0:World}{F L0:aR}{A:bj}{n c g h3 h5:Nat}{s:Cs}{C0:Ch}{A2:bj}{n2 c2:Nat}
theorem b_8{P:Prop}(h:P:=by(first|rfl|exact eU (by first|omega|simp_all)|exact eT (by first|omega|simp_all)|exact dU (by first|omega|simp_all)|exact oG (by first|omega|simp_all))):P:=h
theorem yi:type_of% @Nat.add_sub_cancel_left:= @Nat.add_sub_cancel_left
theorem gM:type_of% @Int.eq_ofNat_of_zero_le:= @Int.eq_ofNat_of_zero_le
theorem Cj{a b c:Ch}{L:aR}:(a::b::c::L).Perm (c::a::b::L):=((List.Perm.swap c b L).cons a).trans (.swap c a _)
def Zc(x k:Nat)(er most:Int):Nat×Nat×Int:=if er≠0 then (0,0,er) else if most<0∨most<x then (0,0,6) else (x,k,0)
theorem amG{x k:Nat}{er most:Int}(h:¬er=0):Zc x k er most=(0,0,er):=aq h
theorem amH{x k:Nat}{er most:Int}(h:¬¬er=0)(h2:most<0∨most<x):Zc x k er most=(0,0,6):=by unfold Zc;rw[aw h,aq h2]
theorem amI{x k:Nat}{er most:Int}(h:¬¬er=0)(h2:¬(most<0∨most<x)):Zc x k er most=(x,k,0):=by unfold Zc;rw[aw h,aw h2]
theorem IM{l:al}(hb:aL B w0 L0 1 (.slice A n c) n (bv l))(hn:n≤1099511627776){most:Int}(hm1:-9223372036854775808≤most)(vC:most≤9223372036854775807):
  a_ B w0 222 [.slice A n c,ah most] L0 (fun r L=>r= .tuple #[ah (eu l most).1,ah (eu l most).2.1,ah (eu l most).2.2]∧L=L0):=by
 have e:eu l most=Zc (cM l).1 (cM l).2.1 (cM l).2.2 most:=rfl;have hs:=aeP hb hn;have hf:=(fh l).1;rw[e];clear e;generalize (cM l).1=x at*;generalize (cM l).2.1=k at*;generalize (cM l).2.2=er at*;refine fw func222 30 [0,1] ?_;refine bz ?_;refine ai rfl (hs) ?_;refine jU ?_;refine aj (fun iy=>?_) fun iy=>?_
 ·refine bB ?_;refine ve [4,5,6] ?_;refine b8 ?_;refine⟨?_,rfl⟩;rw[amG iy];try rfl
 ·refine bI ?_;refine bR 8 26 [7,8] (most<0∨most<(x:Int)) ?_ ?_
  ·refine bH ?_;refine aI rfl rfl rfl (fun lV=>?_) (fun lV=>?_)
   ·refine bM ?_;exact aM b_8
   ·refine b8 ?_;exact aM b_8
  ·refine be ?_;refine aj (fun qG=>?_) fun qG=>?_
   ·refine bz ?_;refine⟨?_,rfl⟩;rw[amH iy qG];try rfl
   ·refine dX ?_;refine⟨?_,rfl⟩;rw[amI iy qG];try rfl
theorem YS{x0:Value}{l:al}{most:Int}(hb:aL B w0 (.bE h5 3 [x0]:: .bE h3 3 [ah most]::F) 1 (.slice A n c) n (bv l))(hn:n≤1099511627776)(hm1:-9223372036854775808≤most)(vC:most≤9223372036854775807):
  a_ B w0 221 [.slice A n c,bq h3,bq h5] (C0:: .bE h5 3 [x0]:: .bE h3 3 [ah most]::F) (fun r L=>r= .tuple #[ah (eu l most).2.1,ah (eu l most).2.2]∧L=C0:: .bE h5 3 [ah (eu l most).1]:: .bE h3 3 [ah most]::F):=by
 refine fw func221 15 [0,1,2] ?_;refine bz ?_;refine ai rfl (IM aB hn hm1 vC) ?_;refine zM ?_;exact⟨rfl,rfl⟩
theorem iI(ho:cu s)(hb:aL B w0 F 1 (.slice A s.b.length c) s.b.length (bv s.b)){most:Int}(hm1:-9223372036854775808≤most)(vC:most≤9223372036854775807):
  a_ B w0 172 [bq g,ah most] (Cv g A c s::F) (fun r L=>r=ah (s.int most)∧L=Cv g A c (s.bX most)::F):=by
 by_cases h0:s.e=0
 ·have hkb:=(jD s.rest most vC).2.1;rw[ho.rest.1]at hkb;have hlb:=ho.rest.2;refine fw func172 13 [0,1] ?_;refine be ?_;refine bf fun g3=>?_;refine bI ?_;refine bg fun g5=>?_;refine bB ?_;refine ba UD rfl ((xL (F:=.bE g5 3 [ah 0]:: .bE g3 3 [ah most]::F) ho (aL.cons (aL.cons hb)) h0 (caps:=[bq g3,bq g5]) (R':=fun F'=>F'= .bE g5 3 [ah (eu s.rest most).1]:: .bE g3 3 [ah most]::F) (k:=(eu s.rest most).2.1) (er:=(eu s.rest most).2.2) ao7 aa (fun A' c' Cz=>(YS Cz aa hm1 vC).mono fun r L ⟨h1,h2⟩=>⟨h1,_,rfl,h2⟩)).perm Cj) rfl ?_;rintro _ _ ⟨rfl,_,cJ,rfl⟩;obtain rfl:=cJ.symm;refine bz ?_;refine aj (fun pq=>?_) fun pq=>?_
  ·refine bD ?_;refine ao (L':=Cv g A c (s.bX most)::F) (.cons (.skip (.skip (.refl _)))) ?_;refine aE ?_;exact⟨by simp[Cs.int,h0,(pC (show(eu s.rest most).2.2≠0 from pq)).1],rfl⟩
  ·refine bP ?_;refine ao (L':=Cv g A c (s.bX most)::F) (.cons (.skip (.skip (.refl _)))) ?_;refine aE ?_;exact⟨by simp[Cs.int,h0],rfl⟩
 ·have e1:s.bX most=s:=by simp[Cs.bX,Cs.ew,h0]
  have e2:s.int most=0:=by simp[Cs.int,h0]
  rw[e1,e2];refine fw func172 13 [0,1] ?_;refine be ?_;refine bf fun g3=>?_;refine bI ?_;refine bg fun g5=>?_;refine bB ?_;refine ai rfl ((uS h0).perm Cj) ?_;refine tQ ?_;refine ao (L':=Cv g A c s::F) (.cons (.skip (.skip (.refl _)))) ?_;refine aE ?_;exact⟨rfl,rfl⟩
def FE(l:al)(x k:Nat)(er:Int):al×Nat×Int:=if er≠0 then ([],0,er) else if l.length-k<x then ([],0,1) else ((l.drop k).take x,k+x,0)
theorem Te{l:al}{x k:Nat}{er:Int}(h:¬er=0):FE l x k er=([],0,er):=aq h
theorem Tf{l:al}{x k:Nat}{er:Int}(h:¬¬er=0)(h2:l.length-k<x):FE l x k er=([],0,1):=by unfold FE;rw[aw h,aq h2]
theorem Tg{l:al}{x k:Nat}{er:Int}(h:¬¬er=0)(h2:¬(l.length-k<x)):FE l x k er=((l.drop k).take x,k+x,0):=by unfold FE;rw[aw h,aw h2]
theorem Th{l:al}{most:Int}(hb:aL B w0 (.bE h5 9 [.string ⟨#[]⟩]:: .bE h3 3 [ah most]::F) 1 (.slice A n c) n (bv l))(hn:n≤1099511627776)(hm1:-9223372036854775808≤most)(vC:most≤9223372036854775807):
  a_ B w0 329 [.slice A n c,bq h3,bq h5] (C0:: .bE h5 9 [.string ⟨#[]⟩]:: .bE h3 3 [ah most]::F) (fun r L=>r= .tuple #[ah (jS l most).2.1,ah (jS l most).2.2]∧L=C0:: .bE h5 9 [.string ⟨(jS l most).1.toArray⟩]:: .bE h3 3 [ah most]::F):=by
 refine dP.zk (L:=C0:: .bE h5 9 [.string ⟨#[]⟩]:: .bE h3 3 [ah most]::F) (aL.cons hb) fun hc hl=>?_;simp at hl;have e:jS l most=FE l (eu l most).1 (eu l most).2.1 (eu l most).2.2:=rfl;have hs:=IM (B:=B) (w0:=w0) (L0:=C0:: .bE h5 9 [.string ⟨#[]⟩]:: .bE h3 3 [ah most]::F) (l:=l) (aL.cons hb) hn hm1 vC;have hf:=jD l most vC;rw[e];clear e;generalize (eu l most).1=x at*;generalize (eu l most).2.1=k at*;generalize (eu l most).2.2=er at*;refine fw func329 37 [0,1,2] ?_;refine bz ?_;refine ai rfl (hs) ?_;refine tQ ?_;refine aj (fun kH=>?_) fun kH=>?_
 ·refine bI ?_;refine ve [4,5] ?_;refine bI ?_;refine⟨?_,?_⟩
  ·rw[Te kH];try rfl
  ·rw[Te kH];try rfl
 ·refine bP ?_;refine ve [0,2,6,7,20] ?_;refine aE ?_;refine aj (fun ja=>?_) fun ja=>?_
  ·refine bz ?_;have Kg:l.length-k<x:=by omega
   refine⟨?_,?_⟩
   ·rw[Tf kH Kg];try rfl
   ·rw[Tf kH Kg];try rfl
  ·have hbt:=(hb.js (k:=k+x) aa).cut (k:=k) aa;have ebt:((bv l).take ((k+x)*1)).drop (k*1)=bv ((l.drop k).take x):=by rw[cE,cE,kI,jv,R9,yi]
   rw[ebt]at hbt;refine bz ?_;refine ae (kp (i:=k) (j:=k+x) (size:=1) underlying27 ag rfl rfl rfl rfl rfl aa aa) rfl ?_;refine ae (pg underlying27 underlying5 underlying9 rfl aB) rfl ?_;refine dX ?_;have Kg:¬(l.length-k<x):=by omega
   refine⟨?_,?_⟩
   ·rw[Tg kH Kg];try rfl
   ·rw[Tg kH Kg];try rfl
theorem Cr(ho:cu s)(hb:aL B w0 F 1 (.slice A s.b.length c) s.b.length (bv s.b)){most:Int}(hm1:-9223372036854775808≤most)(vC:most≤9223372036854775807):
  a_ B w0 304 [bq g,ah most] (Cv g A c s::F) (fun r L=>r= .string ⟨(s.text most).toArray⟩∧L=Cv g A c (s.ey most)::F):=by
 by_cases h0:s.e=0
 ·have hkb:(jS s.rest most).2.1≤s.rest.length:=by
   by_cases he:(jS s.rest most).2.2=0
   ·rcases Pw s.rest most he with h|h<;>omega
   ·have:(jS s.rest most).2.1=0:=by
     unfold jS at he⊢;split
     ·rfl
     ·rename_i h1;rw[aw h1]at he;split
      ·rfl
      ·rename_i h2;rw[aw h2]at he;exact absurd rfl he
    omega
  rw[ho.rest.1]at hkb;have hlb:=ho.rest.2;refine fw func304 10 [0,1] ?_;refine be ?_;refine bf fun g3=>?_;refine bI ?_;refine bg fun g5=>?_;refine bD ?_;refine ba UD rfl ((xL (F:=.bE g5 9 [.string ⟨#[]⟩]:: .bE g3 3 [ah most]::F) ho (aL.cons (aL.cons hb)) h0 (caps:=[bq g3,bq g5]) (R':=fun F'=>F'= .bE g5 9 [.string ⟨(jS s.rest most).1.toArray⟩]:: .bE g3 3 [ah most]::F) (k:=(jS s.rest most).2.1) (er:=(jS s.rest most).2.2) aps aa (fun A' c' Cz=>(Th Cz aa hm1 vC).mono fun r L ⟨h1,h2⟩=>⟨h1,_,rfl,h2⟩)).perm Cj) rfl ?_;rintro _ _ ⟨rfl,_,cJ,rfl⟩;obtain rfl:=cJ.symm;refine bP ?_;refine ao (L':=Cv g A c (s.ey most)::F) (.cons (.skip (.skip (.refl _)))) ?_;refine aE ?_;exact⟨by simp[Cs.text,h0],rfl⟩
 ·have e1:s.ey most=s:=by simp[Cs.ey,Cs.ew,h0]
  have e2:s.text most=[]:=by simp[Cs.text,h0]
  rw[e1,e2];refine fw func304 10 [0,1] ?_;refine be ?_;refine bf fun g3=>?_;refine bI ?_;refine bg fun g5=>?_;refine bD ?_;refine ai rfl ((uS h0).perm Cj) ?_;refine bP ?_;refine ao (L':=Cv g A c s::F) (.cons (.skip (.skip (.refl _)))) ?_;refine aE ?_;exact⟨rfl,rfl⟩
def mI(l:al)(n:Int):al:=if im l n≠0 then [] else l.take n.toNat
def rG(l:al)(n:Int):Nat:=if im l n≠0 then 0 else n.toNat
def ajN(h3 h5:Nat)(l:al)(m:Int)(F F':aR):Prop:=∃A' c',F'= .own 5 1 A' (mI l m).length c' (bv (mI l m)):: .bE h5 27 [.slice A' (mI l m).length c']:: .bE h3 3 [ah m]::F
theorem Td{l:al}{m:Int}(hb:aL B w0 (.bE h5 27 [.slice none 0 0]:: .bE h3 3 [ah m]::F) 1 (.slice A n c) n (bv l))(hn:n≤1099511627776)(hm1:-9223372036854775808≤m)(vC:m≤9223372036854775807):
  a_ B w0 220 [.slice A n c,bq h3,bq h5] (C0:: .bE h5 27 [.slice none 0 0]:: .bE h3 3 [ah m]::F) (fun r L=>r= .tuple #[ah (rG l m),ah (im l m)]∧∃F',ajN h3 h5 l m F F'∧L=C0::F'):=by
 refine dP.zk (L:=C0:: .bE h5 27 [.slice none 0 0]:: .bE h3 3 [ah m]::F) (aL.cons hb) fun hc hl=>?_;simp at hl;refine fw func220 17 [0,1,2] ?_;refine c_ ?_;refine aj (fun h7=>?_) fun h7=>?_
 ·refine bM ?_;have e1:im l m=13:=aq h7;have e2:mI l m=[]:=by simp[mI,e1]
  have e3:rG l m=0:=by simp[rG,e1]
  refine aC 5 1 none ?_;refine ao (L':=C0:: .own 5 1 none 0 0 []:: .bE h5 27 [.slice none 0 0]:: .bE h3 3 [ah m]::F) (.swap (.refl _)) ?_;refine aE ?_;exact⟨by rw[e1,e3];try rfl,_,⟨none,0,by rw[e2];try rfl⟩,rfl⟩
 ·obtain⟨q,rfl⟩:=gM (show 0≤m by omega);refine dm ?_;refine aj (fun pq=>?_) fun pq=>?_
  ·refine bM ?_;have e1:im l q=1:=by unfold im;rw[aw h7,aq aa]
   have e2:mI l q=[]:=by simp[mI,e1]
   have e3:rG l q=0:=by simp[rG,e1]
   refine aC 5 1 none ?_;refine ao (L':=C0:: .own 5 1 none 0 0 []:: .bE h5 27 [.slice none 0 0]:: .bE h3 3 [ah q]::F) (.swap (.refl _)) ?_;refine aE ?_;exact⟨by rw[e1,e3];try rfl,_,⟨none,0,by rw[e2];try rfl⟩,rfl⟩
  ·have hbt:=hb.js (k:=q) aa;have ebt:(bv l).take (q*1)=bv (l.take q):=by rw[cE,kI]
   rw[ebt]at hbt;refine bB ?_;refine ae (bZ (i:=q) (size:=1) underlying27 ag rfl rfl rfl aa) rfl ?_;refine ay rfl (l9 (l.take q) aB aa) fun Bg JL=>?_;refine dm ?_;have e1:im l q=0:=by unfold im;rw[aw h7,aw aa]
   have e2:mI l q=l.take q:=by simp[mI,e1]
   have e3:rG l q=q:=by simp[rG,e1]
   have e4:(mI l q).length=q:=by rw[e2,eV];omega
   refine ao (L':=C0:: .own 5 1 Bg (mI l q).length JL (bv (mI l q)):: .bE h5 27 [.slice Bg (mI l q).length JL]:: .bE h3 3 [ah q]::F) (by rw[e4,e2];exact .swap (.refl _)) ?_;refine aE ?_;exact⟨by rw[e1,e3],_,⟨Bg,JL,rfl⟩,rfl⟩
theorem afd(l:al)(n:Int):rG l n≤l.length:=by
 unfold rG;split
 ·omega
 ·rename_i h;exact(xa nu).2
theorem WQ{s:Cs}{n:Int}(h0:s.e=0):s.take n=mI s.rest n:=by simp[Cs.take,mI,h0]
theorem afc{s:Cs}{n:Int}:s.b_ n=s.ew (rG s.rest n) (im s.rest n):=by
 unfold Cs.b_ Cs.ew rG;split
 ·rfl
 ·split
  ·rfl
  ·rfl
theorem ma(ho:cu s)(hb:aL B w0 F 1 (.slice A s.b.length c) s.b.length (bv s.b)){m:Int}(hm1:-9223372036854775808≤m)(vC:m≤9223372036854775807):
  a_ B w0 171 [bq g,ah m] (Cv g A c s::F) (fun r L=>∃A' c',r= .slice A' (s.take m).length c'∧L=Cv g A c (s.b_ m):: .own 5 1 A' (s.take m).length c' (bv (s.take m))::F):=by
 by_cases h0:s.e=0
 ·have hkb:=afd s.rest m;rw[ho.rest.1]at hkb;have hlb:=ho.rest.2;rw[WQ h0,afc];refine fw func171 10 [0,1] ?_;refine be ?_;refine bf fun g3=>?_;refine bI ?_;refine bg fun g5=>?_;refine bB ?_;refine ba UD rfl ((xL (F:=.bE g5 27 [.slice none 0 0]:: .bE g3 3 [ah m]::F) ho (aL.cons (aL.cons hb)) h0 (caps:=[bq g3,bq g5]) (R':=ajN g3 g5 s.rest m F) (k:=rG s.rest m) (er:=im s.rest m) ao6 aa (fun A' c' Cz=>Td Cz aa hm1 vC)).perm Cj) rfl ?_;rintro _ _ ⟨rfl,_,⟨A8,c8,cJ⟩,rfl⟩;obtain rfl:=cJ.symm;refine bP ?_;refine ao (L':=Cv g A c (s.ew (rG s.rest m) (im s.rest m)):: .own 5 1 A8 (mI s.rest m).length c8 (bv (mI s.rest m))::F) (.cons (.cons (.skip (.skip (.refl _))))) ?_;refine aE ?_;exact⟨A8,c8,rfl,rfl⟩
 ·have e1:s.b_ m=s:=by simp[Cs.b_,Cs.ew,h0]
  have e2:s.take m=[]:=by simp[Cs.take,h0]
  rw[e1,e2];refine fw func171 10 [0,1] ?_;refine be ?_;refine bf fun g3=>?_;refine bI ?_;refine bg fun g5=>?_;refine bB ?_;refine ai rfl ((uS h0).perm Cj) ?_;refine bP ?_;refine aC 5 1 none ?_;refine ao (L':=Cv g A c s:: .own 5 1 none 0 0 []::F) (.swap (.cons (.swap (.skip (.swap (.skip (.refl _))))))) ?_;refine aE ?_;exact⟨none,0,rfl,rfl⟩
theorem Z9(s:Cs):(s.take 1).length≤1:=by
 unfold Cs.take;split
 ·simp
 ·split
  ·simp
  ·simp only[eV];exact Nat.min_le_left _ _
theorem ov(ho:cu s)(hb:aL B w0 F 1 (.slice A s.b.length c) s.b.length (bv s.b)):
  a_ B w0 173 [bq g] (Cv g A c s::F) (fun r L=>r= .int .u8 (s.byte.toNat:Int)∧L=Cv g A c s.eJ::F):=by
 have h1:=Z9 s;have eb:s.byte=((s.take 1).head?).getD 0:=rfl;have eb':s.eJ=s.b_ 1:=rfl;rw[eb,eb'];refine fw func173 12 [0] ?_;refine bP ?_;refine ay rfl (ma ho hb (m:=1) aa aa) fun A5 c5=>?_;refine bz ?_;refine aj (fun h8=>?_) fun h8=>?_
 ·refine bH ?_;refine ae (aG (i:=0) (size:=1) underlying27 ag rfl rfl rfl aa aB) rfl ?_;refine bB ?_;refine ao (L':=Cv g A c (s.b_ 1)::F) (.cons (.skip (.refl _))) ?_;refine aE ?_;exact⟨by simp[List.getD,List.head?_eq_getElem?],rfl⟩
 ·refine bM ?_;refine ao (L':=Cv g A c (s.b_ 1)::F) (.cons (.skip (.refl _))) ?_;refine aE ?_;have e0:s.take 1=[]:=mi aa;exact⟨by rw[e0];rfl,rfl⟩
theorem mT{l:al}(hb:fq B w0 F A c l)(hl:l.length≤1099511627776):
  a_ B w0 109 [.slice A l.length c] F (fun r L=>∃g A' c',r=bq g∧L=Cv g A' c' ⟨l,0,0⟩:: .own 5 1 A' l.length c' (bv l)::F):=by
 refine fw func109 8 [0] ?_;refine bM ?_;refine ay rfl (l9 l hb hl) fun A4 c4=>?_;refine ae (br [(0,_)] [.slice none 0 0,ah 0] [0] [_,_] rfl rfl ag) rfl ?_;refine ae (br [(0,_)] [.slice none 0 0,ah 0,ah 0] [0] [_,_,_] rfl rfl ag) rfl ?_;refine bf fun g7=>?_;refine bI ?_;exact⟨g7,A4,c4,rfl,rfl⟩
theorem Cs.Oz{s:Cs}(h:s.e=0){k:Nat}{e:Int}(hk:e≠0→k=0):s.ew k e=⟨s.b,s.at_+k,e⟩:=by
 unfold Cs.ew;rw[aw (by simp[h])];split
 ·rename_i he;rw[hk he];rfl
 ·rename_i he;have:e=0:=by simpa using he
  rw[this,←h]
theorem Cs.R5{s:Cs}(h:s.e=0)(m:Int):s.int m=(eu s.rest m).1∧s.bX m=⟨s.b,s.at_+(eu s.rest m).2.1,(eu s.rest m).2.2⟩:=⟨by simp[Cs.int,h],Cs.Oz h fun he=>(pC he).2⟩
theorem aff{l:al}{x k:Nat}{er:Int}(h:(FE l x k er).2.2≠0):(FE l x k er).1=[]∧(FE l x k er).2.1=0:=by
 unfold FE at h⊢;split
 ·exact⟨rfl,rfl⟩
 ·split
  ·exact⟨rfl,rfl⟩
  ·rename_i h1 h2;rw[aw h1,aw h2]at h;exact absurd rfl h
theorem Cs.ajg{s:Cs}(h:s.e=0)(m:Int):s.text m=(jS s.rest m).1∧s.ey m=⟨s.b,s.at_+(jS s.rest m).2.1,(jS s.rest m).2.2⟩:=⟨by simp[Cs.text,h],Cs.Oz h fun he=>(aff he).2⟩
theorem Cs.bad{s:Cs}(h:¬s.e=0):s.num=0∧s.lX=s∧(∀m,s.int m=0∧s.bX m=s∧s.text m=[]∧s.ey m=s∧s.take m=[]∧s.b_ m=s):=by
 refine⟨by simp[Cs.num,h],by simp[Cs.lX,Cs.ew,h],fun m=>⟨by simp[Cs.int,h],by simp[Cs.bX,Cs.ew,h],by simp[Cs.text,h],by simp[Cs.ey,Cs.ew,h],by simp[Cs.take,h],by simp[Cs.b_,Cs.ew,h]⟩⟩
theorem Mf{P:Prop}(h:P:=by(simp[h0])):P:=h
theorem Ma{P:Prop}(h:P:=by(simpa using he)):P:=h
theorem qj:type_of% @List.drop_drop:= @List.drop_drop
theorem Cs.Aw{s:Cs}(h:s.e=0)(n:Nat){er:Int}(he:er≠0):s.ew n er={s with e:=er}:=by unfold Cs.ew;rw[aw (by simp[h]),aq he]
theorem Cs.uv{s:Cs}(h:s.e=0)(n:Nat):s.ew n 0={s with at_:=s.at_+n}:=by unfold Cs.ew;rw[aw (by simp[h]),aw ak]
theorem Cs.Az{s:Cs}(h:s.e≠0)(n:Nat)(er:Int):s.ew n er=s:=by unfold Cs.ew;rw[aq h]
theorem ofNat_toNat(c:UInt8)(n:Nat)(h:n=c.toNat):UInt8.ofNat n=c:=by subst h;simp
theorem KX:∀(l:al) (i acc:Nat),(dp i acc l).2.2=0→
  ∃y,(dp i acc l).1=acc+y*128^i∧i≤(dp i acc l).2.1∧aS y=l.take ((dp i acc l).2.1-i)∧(0<i→0<y)∧(dp i acc l).2.1≤i+l.length:=by
 intro l;induction l with
 |nil=>intro i acc h;simp[dp]at h
 |cons c r ih=>
  intro i acc h;unfold dp at h⊢;by_cases h1:i=9∧c.toNat≠1∨0<i∧c.toNat=0
  ·rw[aq h1]at h;simp at h
  ·rw[aw h1]at h⊢;by_cases h2:c.toNat<128
   ·rw[aq h2];refine⟨c.toNat,?_,ak,?_,aa,alo⟩
    ·show acc+c.toNat%128*128^i=_;rw[jc h2]
    ·show aS c.toNat=List.take (i+1-i) (c::r);rw[ox h2,yi];simp
   ·rw[aw h2]at h⊢;obtain⟨y,e1,e2,e3,e4,e5⟩:=ih _ _ h;have hy:=e4 aa;refine⟨c.toNat%128+128*y,?_,aa,?_,aa,alo⟩
    ·rw[e1,nF,mD,NU];congr 2;rw[nG (128^i) 128,←th,nG y 128]
    ·rw[uU aa];have hc:=c.toNat_lt;rw[show(c.toNat%128+128*y)/128=y by omega,e3,ofNat_toNat c _ aa];generalize hN:(dp (i+1) (acc+c.toNat%128*128^i) r).2.1=N at*;rw[show N-i=(N-(i+1))+1 by omega,ri]
theorem vk{l:al}(h:(cM l).2.2=0):aS (cM l).1=l.take (cM l).2.1:=by
 obtain⟨y,e1,_,e3,_⟩:=KX l 0 0 h;have:(cM l).1=y:=by unfold cM;rw[e1];simp
 rw[this,e3];rfl
theorem G_(r:al):∀(n y i acc:Nat),y≤n→y*128^i<18446744073709551616→(0<i→0<y)→
  dp i acc (aS y++r)=(acc+y*128^i,i+(aS y).length,0):=by
 intro n;induction n with
 |zero=>
  intro y i acc hy h h0;have hy0:y=0:=by omega
  subst hy0;have hi:i=0:=by
   rcases wV i with h'|h'
   ·exact h'
   ·exact absurd (h0 h') aa
  subst hi;rw[ox aa];simp[dp]
 |succ n ih=>
  intro y i acc hy h h0;have hi9:i≤9:=by
   rcases ue 9 i with h'|h'
   ·exfalso;have h1:(128:Nat)^10≤128^i:=k_ aa aa;have e:(128:Nat)^10=1180591620717411303424:=by decide+kernel
    rw[e]at h1;have h2:1*128^i≤y*128^i:=oC _ (h0 aa);omega
   ·exact h'
  have e9:(128:Nat)^9=9223372036854775808:=by decide+kernel
  have hy9:i=9→y=1:=by
   intro hi;rw[hi,e9]at h;have:=h0 aa;omega
  by_cases fP:y<128
  ·rw[ox fP];have hu:=u8n y aa;show dp i acc (UInt8.ofNat y::r)=_;unfold dp;rw[hu,aw aa,aq fP,jc fP];rfl
  ·rw[uU aa];have hu:=u8n (128+y%128) aa;show dp i acc (UInt8.ofNat (128+y%128)::(aS (y/128)++r))=_;unfold dp;rw[hu,aw aa,aw aa,show(128+y%128)%128=y%128 by omega];have hd:y=y%128+128*(y/128):=by omega
   have hm:y*128^i=y%128*128^i+y/128*128^(i+1):=by
    conv=>lhs;rw[hd,mD]
    rw[nF,nG (128^i) 128,←th,nG (y/128) 128]
   rw[ih (y/128) (i+1) _ aa aa aa,hm];simp only[eh];rw[show acc+y%128*128^i+y/128*128^(i+1)=acc+(y%128*128^i+y/128*128^(i+1)) by omega,show i+1+(aS (y/128)).length=i+((aS (y/128)).length+1) by omega]
theorem sn(x:Nat)(hx:x<18446744073709551616)(r:al):cM (aS x++r)=(x,(aS x).length,0):=by
 have:=G_ r x x 0 0 (gj _) (by simpa using hx) aa;simpa[cM]using this
theorem Cs.KM{s:Cs}(h:s.lX.e=0):s.e=0∧(cM s.rest).2.2=0∧s.num=(cM s.rest).1∧s.lX={s with at_:=s.at_+(cM s.rest).2.1}:=by
 unfold Cs.lX at h⊢;by_cases h0:s.e=0
 ·by_cases he:(cM s.rest).2.2=0
  ·rw[he,Cs.uv h0];exact⟨h0,rfl,by unfold Cs.num;rw[aw Mf],rfl⟩
  ·rw[Cs.Aw h0 _ he]at h;exact absurd h he
 ·rw[Cs.Az h0]at h;exact absurd h h0
theorem Cs.ahk{s:Cs}(h:s.xV.e=0):s.e=0∧s.left=0:=by
 unfold Cs.xV at h;split at h
 ·unfold Cs.failed at h;split at h
  ·exact absurd h ak
  ·rename_i h1 h2;exact absurd h h2
 ·exact⟨h,aa⟩
theorem KA(a b:al):iO (a++b)=iO a+256^a.length*iO b:=by
 induction a with
 |nil=>simp[iO]
 |cons c r ih=>
  simp only[nE,iO,ih,eh,nF];rw[ub,NU];congr 2;rw[←th,nG 256]
theorem Ew(x:Nat):∀k,iO (fI x k)=x%2^(8*k):=by
 intro k;induction k with
 |zero=>simp[fI,iO,Nat.mod_one]
 |succ k ih=>
  have e7:(256:Nat)^k=2^(8*k):=by rw[show(256:Nat)=2^8 from rfl,←Nat.pow_mul]
  rw[fI,KA,ih,qe,e7];simp only[iO,Nat.mul_zero,tf];rw[u8n _ (sS _ aa),show 8*(k+1)=8*k+8 by omega,Nat.pow_add,Nat.mod_mul]
theorem Cs.amS{s:Cs}{x:Nat}{r:al}(h0:s.e=0)(hx:x<18446744073709551616)(hr:s.rest=aS x++r):
  s.num=x∧s.lX={s with at_:=s.at_+(aS x).length}:=by
 unfold Cs.num Cs.lX;rw[hr,sn x hx r,aw Mf];exact⟨rfl,Cs.uv h0 _⟩
theorem Cs.vj{s:Cs}{a r:al}{n:Nat}(hr:s.rest=a++r)(hn:n=a.length):Cs.rest {s with at_:=s.at_+n}=r:=by
 unfold Cs.rest at hr⊢;show s.b.drop (s.at_+n)=r;rw[←qj,hr,hn,BI]
theorem Cs.ajf{s:Cs}{t r:al}(h0:s.e=0){most:Int}(ht:(t.length:Int)≤most)(hm:most≤9223372036854775807)(hr:s.rest=ft t++r):
  s.text most=t∧s.ey most={s with at_:=s.at_+(ft t).length}:=by
 have hs:cM (ft t++r)=(t.length,(aS t.length).length,0):=by
  unfold ft;rw[bV];exact sn _ aa _
 have hl:eu (ft t++r) most=(t.length,(aS t.length).length,0):=by
  unfold eu;rw[hs];simp only[ne_eq,not_true_eq_false,if_false];rw[aw aa]
 have hx:jS (ft t++r) most=(t,(aS t.length).length+t.length,0):=by
  unfold jS;rw[hl];simp only[ne_eq,not_true_eq_false,if_false];rw[aw (by simp only[ft,aX];omega)];have e1:(ft t++r).drop (aS t.length).length=t++r:=by unfold ft;rw[bV,BI]
  rw[e1,yo]
 unfold Cs.text Cs.ey;rw[hr,hx,aw Mf];refine⟨rfl,?_⟩;rw[Cs.uv h0];simp[ft]
theorem Cs.ajc{s:Cs}{t r:al}(h0:s.e=0){n:Int}(hn:n=t.length)(hr:s.rest=t++r):
  s.take n=t∧s.b_ n={s with at_:=s.at_+t.length}:=by
 have ht:im (t++r) n=0:=by
  unfold im;rw[aw aa,aw bO]
 unfold Cs.take Cs.b_;rw[hr,ht,aw Mf,aw ak,hn,nC,yo];exact⟨rfl,Cs.uv h0 _⟩
theorem Cs.abY{s:Cs}(h0:s.e=0)(hr:s.rest=[]):s.xV.e=0:=by
 unfold Cs.xV;have:s.left=0:=by
  have:=dC List.length hr;simp[Cs.rest]at this;unfold Cs.left;omega
 rw[aw aa];exact h0
structure nQ(s s':Cs)(p:al):Prop where
 e0:s.e=0
 eq:s'=⟨s.b,s.at_+p.length,0⟩
 rest:s.rest=p++s'.rest
theorem nQ.e1{s s':Cs}{p:al}(h:nQ s s' p):s'.e=0:=by rw[h.eq]
theorem nQ.nil{s:Cs}(h:s.e=0):nQ s s []:=⟨h,by cases s;simp at h;simp[h],rfl⟩
theorem nQ.trans{s s' s'':Cs}{p q:al}(h:nQ s s' p)(k:nQ s' s'' q):nQ s s'' (p++q):=by
 refine⟨h.e0,?_,by rw[h.rest,k.rest,bV]⟩;rw[k.eq,h.eq,aX,NU]
theorem nQ.yF{s:Cs}{k:Nat}{er:Int}{p:al}(h:(s.ew k er).e=0)(hp:er=0→p=s.rest.take k)(hk:er=0→k≤s.rest.length):er=0∧nQ s (s.ew k er) p:=by
 by_cases h0:s.e=0
 ·by_cases he:er=0
  ·subst he;have e1:=hp rfl;have e2:=hk rfl;have hl:p.length=k:=by rw[e1,eV];omega
   rw[Cs.uv h0];refine⟨rfl,h0,by rw[hl,←h0],?_⟩;rw[e1];show s.rest=s.rest.take k++s.b.drop (s.at_+k);rw[←qj];exact(jO k s.rest).symm
  ·rw[Cs.Aw h0 _ he]at h;exact absurd h he
 ·rw[Cs.Az h0]at h;exact absurd h h0
theorem nQ.cF{s s':Cs}{p r:al}(h:nQ s s' p)(hr:s.rest=p++r):s'.rest=r:=by
 have:=h.rest;rw[hr]at this;exact(List.append_cancel_left this).symm
theorem Cs.ain{s:Cs}(h:s.lX.e=0):nQ s s.lX (aS s.num)∧s.num<18446744073709551616:=by
 have h0:=(Cs.KM h).1;have h2:=(Cs.KM h).2.1;have h3:=(Cs.KM h).2.2.1;exact⟨(nQ.yF h (fun _=>by rw[h3,vk h2]) (fun _=>(fh _).2.1)).2,by rw[h3];exact(fh _).1⟩
theorem Cs.V6{s:Cs}{x:Nat}{r:al}(h0:s.e=0)(hx:x<18446744073709551616)(hr:s.rest=aS x++r):s.num=x∧nQ s s.lX (aS x):=by
 obtain⟨h1,h2⟩:=Cs.amS h0 hx hr;refine⟨h1,h0,by rw[h2,h0],?_⟩;rw[h2,Cs.vj hr rfl,hr]
theorem VK{l:al}{m:Int}(h:(eu l m).2.2=0):(cM l).2.2=0∧eu l m=((cM l).1,(cM l).2.1,0)∧((cM l).1:Int)≤m:=by
 unfold eu at h⊢;by_cases h1:(cM l).2.2≠0
 ·rw[aq h1]at h;exact absurd h h1
 ·rw[aw h1]at h⊢;by_cases h2:m<0∨m<(cM l).1
  ·rw[aq h2]at h;simp at h
  ·rw[aw h2]at h⊢;exact⟨C2,rfl,aa⟩
theorem Cs.EH{s:Cs}{k:Nat}{er:Int}(h:(s.ew k er).e=0):s.e=0∧er=0:=by
 by_cases h0:s.e=0
 ·by_cases he:er=0
  ·exact⟨h0,he⟩
  ·rw[Cs.Aw h0 _ he]at h;exact absurd h he
 ·rw[Cs.Az h0]at h;exact absurd h h0
theorem Cs.Ks{s:Cs}{m:Int}(h:(s.bX m).e=0):nQ s (s.bX m) (aS (s.int m))∧(s.int m:Int)≤m∧s.int m<18446744073709551616:=by
 obtain⟨h0,he⟩:=Cs.EH h;obtain⟨h1,h2,h3⟩:=VK he;have hi:s.int m=(cM s.rest).1:=by rw[(Cs.R5 h0 m).1,h2]
 refine⟨(nQ.yF h (fun _=>by rw[hi,vk h1,h2]) (fun _=>by rw[h2];exact(fh _).2.1)).2,by rw[hi];exact h3,by rw[hi];exact(fh _).1⟩
theorem Cs.iE{s:Cs}{x:Nat}{r:al}(h0:s.e=0){m:Int}(hx:(x:Int)≤m)(hm:m≤9223372036854775807)(hr:s.rest=aS x++r):s.int m=x∧nQ s (s.bX m) (aS x):=by
 have hs:=sn x aa r;have hl:eu s.rest m=(x,(aS x).length,0):=by
  unfold eu;rw[hr,hs];simp only[ne_eq,not_true_eq_false,if_false];rw[aw aa]
 have h2:=(Cs.R5 h0 m).2;rw[hl]at h2;refine⟨by rw[(Cs.R5 h0 m).1,hl],h0,h2,?_⟩;rw[h2,hr];congr 1;exact(Cs.vj hr rfl).symm
theorem Cs.yT{s:Cs}{m:Int}(h:(s.ey m).e=0):nQ s (s.ey m) (ft (s.text m))∧((s.text m).length:Int)≤m:=by
 obtain⟨h0,he⟩:=Cs.EH h;have e:jS s.rest m=FE s.rest (eu s.rest m).1 (eu s.rest m).2.1 (eu s.rest m).2.2:=rfl;rw[e]at he;by_cases hl:(eu s.rest m).2.2=0
 ·obtain⟨h1,h2,h3⟩:=VK hl;by_cases hx:s.rest.length-(eu s.rest m).2.1<(eu s.rest m).1
  ·rw[Tf vP hx]at he;simp at he
  ·have e2:=Tg (l:=s.rest) (x:=(eu s.rest m).1) (k:=(eu s.rest m).2.1) (er:=(eu s.rest m).2.2) vP hx;rw[←e,h2]at e2;rw[h2]at hx;simp only at e2 hx;have hk:=(fh s.rest).2.1;have ht:s.text m=(s.rest.drop (cM s.rest).2.1).take (cM s.rest).1:=by rw[(Cs.ajg h0 m).1,e2]
   have Cc:(s.text m).length=(cM s.rest).1:=by rw[ht,eV,iN];omega
   refine⟨(nQ.yF h (fun _=>?_) (fun _=>by rw[e2];simp only;omega)).2,by rw[Cc];exact h3⟩;rw[ft,Cc,vk h1,ht,e2];simp only;rw[List.take_add]
 ·rw[Te hl]at he;exact absurd he hl
theorem Cs.rH{s:Cs}{t r:al}(h0:s.e=0){m:Int}(ht:(t.length:Int)≤m)(hm:m≤9223372036854775807)(hr:s.rest=ft t++r):s.text m=t∧nQ s (s.ey m) (ft t):=by
 obtain⟨h1,h2⟩:=Cs.ajf h0 ht hm hr;refine⟨h1,h0,by rw[h2,h0],?_⟩;rw[h2,Cs.vj hr rfl,hr]
theorem Cs.Pu{s:Cs}{n:Int}(h:(s.b_ n).e=0):nQ s (s.b_ n) (s.take n)∧(s.take n).length=n.toNat∧0≤n:=by
 obtain⟨h0,he⟩:=Cs.EH h;have ht:=xa he;have e:s.take n=s.rest.take n.toNat:=by rw[WQ h0,mI,aw Ma]
 exact⟨(nQ.yF h (fun _=>e) (fun _=>ht.2)).2,by rw[e,eV];omega,ht.1⟩
theorem Cs.mo{s:Cs}{t r:al}(h0:s.e=0){n:Int}(hn:n=t.length)(hr:s.rest=t++r):s.take n=t∧nQ s (s.b_ n) t:=by
 obtain⟨h1,h2⟩:=Cs.ajc h0 hn hr;refine⟨h1,h0,by rw[h2,h0],?_⟩;rw[h2,Cs.vj hr rfl,hr]
theorem Cs.abl{s:Cs}(h:s.eJ.e=0):nQ s s.eJ [s.byte]:=by
 obtain⟨h1,h2,_⟩:=Cs.Pu h;have h3:(s.take 1).length=1:=h2;obtain⟨c,hc⟩:=List.length_eq_one_iff.1 h3;have:s.byte=c:=by unfold Cs.byte;rw[hc];rfl
 rw[this,←hc];exact h1
theorem Cs.l7{s:Cs}{c:UInt8}{r:al}(h0:s.e=0)(hr:s.rest=c::r):s.byte=c∧nQ s s.eJ [c]:=by
 obtain⟨h1,h2⟩:=Cs.mo (t:=[c]) (n:=1) h0 rfl hr;exact⟨by unfold Cs.byte;rw[h1];rfl,h2⟩
theorem abV(x:Nat):1≤(aS x).length:=by
 by_cases h:128≤x
 ·rw[uU h];simp
 ·rw[ox aa];simp
theorem Nc(t:al):1≤(ft t).length:=by
 have:=abV t.length;unfold ft;rw[aX];omega
def LR(b:al):al×Int:=ly (jr b)
def ZX(b:al):Prop:=(LR b).2=0∧(LR b).1.length<b.length
instance (b:List UInt8):Decidable (ZX b):=inferInstanceAs (Decidable (_∧_))
def ki(b:al)(plain:Bool):UInt8×al:=if plain=false∧ZX b then (1,(LR b).1) else (0,b)
def xC(b:al)(plain:Bool):al:=(ki b plain).1::(aS b.length++aS (ki b plain).2.length)
def jF(b:al)(plain:Bool):al×Int:=if 32768<b.length then ([],6) else (cY (xC b plain++(ki b plain).2),0)
def U4(b:al):Cs:=if 1<(Cs.byte ⟨b,0,0⟩).toNat then (Cs.eJ ⟨b,0,0⟩).failed 2 else Cs.eJ ⟨b,0,0⟩
def frN(b:al):Nat:=(U4 b).int 32768
def fr2(b:al):Cs:=(U4 b).bX 32768
def zH(b:al):Nat:=(fr2 b).int 32768
def Gg(b:al):Cs:=if 1032*zH b+64<frN b then ((fr2 b).bX 32768).failed 6 else (fr2 b).bX 32768
def Qa(b:al):al:=(Gg b).take (zH b)
def Ye(b:al):Cs:=((Gg b).b_ (zH b)).b_ 4
def x6(b:al):Cs:=if (Ye b).e≠0 then Ye b else (Ye b).failed (aK (b.take (Ye b).at_)).2
noncomputable def Nq(way n p:Nat)(body:al):al×Int:=
 if way=0 then (if n≠p then ([],2) else (body,0))
 else if (fN body n).2≠0 then ([],(fN body n).2)
 else if (kE (fN body n).1 n).2≠0 then ([],(kE (fN body n).1 n).2)
 else if (kE (fN body n).1 n).1.length<n then ([],2) else ((kE (fN body n).1 n).1,0)
noncomputable def LC(b:al):al×Int:=Nq (Cs.byte ⟨b,0,0⟩).toNat (frN b) (zH b) (Qa b)
noncomputable def dL(b:al):al×Nat×Int:=
 if (x6 b).e≠0 then ([],0,(x6 b).e) else if (LC b).2≠0 then ([],0,(LC b).2) else ((LC b).1,(x6 b).at_,0)
theorem xD(b:al)(plain:Bool):(ki b plain).2.length≤b.length:=by
 unfold ki;split
 ·rename_i h;exact Nat.le_of_lt h.2.2
 ·exact gj _
theorem Yd(b:al):(jr b).length≤b.length:=by
 have:=DT b b.length 0 (bS _);unfold jr;omega
theorem aaf{l:List bN}{t:bN}(hm:∀t∈l,fa t)(ht:t∈l):max 1 t.2.1≤129*((vK (fi l) (ir l) t).length:Int):=by
 have hc:=Di ht;have fJ:=hm t ht;have fP:(bJ t).1<265:=by
  by_cases h0:t.2.1=0
  ·rw[(vd fJ h0).1];have:=mH t.1;simp only;omega
  ·have:=(nH fJ h0).2.1;omega
 have h1:=kL (o:=JR l) (N:=265) aa fP hc;have e1:((fi l).getD (bJ t).1 0).toNat≠0:=h1;unfold vK;rw[aX,mV];by_cases h0:t.2.1=0
 ·rw[h0];simp only[show max (1:Int) 0=1 from rfl];omega
 ·obtain⟨k1,k2,k3,k4,k5,k6,k7,k8⟩:=nH fJ h0;have hf:=Dg ht (by omega:256<(bJ t).1);have h2:((ir l).getD (bJ t).2.2.1 0).toNat≠0:=kL (o:=wH l) (N:=12) aa aa hf;rw[aw aa,aX,aX,mV];unfold fa at fJ;rw[aw h0]at fJ;omega
theorem FL{l:List bN}(hm:∀t∈l,fa t):∀ts:List bN,(∀t∈ts,t∈l)→gR ts≤129*((mJ (fi l) (ir l) ts).length:Int)
 |[],_=>by
  have e:gR []=0:=rfl;omega
 |t::ts,h=>by
  have e:gR (t::ts)=max 1 t.2.1+gR ts:=rfl;rw[xd,aX,e];have h1:=aaf hm (h t ak);have h2:=FL hm ts fun u hu=>h u (by simp[hu]);omega
theorem yJ(t:bN)(r:List bN):gR (t::r)=max 1 t.2.1+gR r:=rfl
theorem AK(most:Int):∀(l:List bN) (out:al),(ic most out l).2=0→((ic most out l).1.length:Int)=out.length+gR l
 |[],out,_=>by simp[ic,gR]
 |t::r,out,h=>by
  unfold ic at h⊢;split
  ·rename_i hc;rw[aq hc]at h;simp at h
  ·rename_i hc;rw[aw hc]at h;have fJ:fa t:=j0.1 hc;split
   ·rename_i h1;rw[aq h1]at h;simp at h
   ·rename_i h1;rw[aw h1]at h;split
    ·rename_i h2;rw[aq h2]at h;simp at h
    ·rename_i h2;rw[aw h2]at h;split
     ·rename_i h3;rw[aq h3]at h;have:=AK most r _ h;rw[this,yJ,h3];simp;omega
     ·rename_i h3;rw[aw h3]at h;have:=AK most r _ h;rw[this,oH];unfold fa at fJ;rw[aw h3]at fJ;rw[yJ];have:=nI r;omega
theorem ZZ{b:al}(h:(LR b).2=0):b.length≤1032*(LR b).1.length+64:=by
 have hm:∀t∈jr b,fa t:=xX b b.length 0;have mG:=AK b.length (jr b) [] (by
  have:=w6 b b.length (Int.le_refl _);unfold kE at this;rw[aw aa]at this;rw[this])
 have LH:=w6 b b.length (Int.le_refl _);unfold kE at LH;rw[aw aa]at LH;rw[LH]at mG;unfold LR ly at h⊢;by_cases h1:32768<(jr b).length
 ·rw[aq h1]at h;simp at h
 ·rw[aw h1]at h⊢;rw[aq hm];have atC:=FL hm (jr b) fun t ht=>ht;have x':=dJ (qx (jr b));have:(mJ (fi (jr b)) (ir (jr b)) (jr b)).length≤(qx (jr b)).length:=by unfold qx;simp only[aX];omega
  simp only at mG⊢;rw[x'];simp only[sb]at mG;omega
theorem XB(b:al)(plain:Bool)(hb:b.length≤32768)(r:al){x:al}(hx:x=(jF b plain).1++r):
  (Cs.byte ⟨x,0,0⟩)=(ki b plain).1∧frN x=b.length∧zH x=(ki b plain).2.length∧Qa x=(ki b plain).2∧x6 x=⟨x,(jF b plain).1.length,0⟩:=by
 have hyl:=xD b plain;have NM:Cs.rest ⟨x,0,0⟩=(ki b plain).1::(aS b.length++(aS (ki b plain).2.length++((ki b plain).2++(mn (pV 0 (xC b plain++(ki b plain).2))++r)))):=by
  unfold Cs.rest;rw[tg,hx];unfold jF;rw[aw aa];unfold cY xC;simp[bV]
 obtain⟨b1,d1⟩:=Cs.l7 (s:=⟨x,0,0⟩) rfl NM;have h1:(ki b plain).1.toNat≤1:=by
  unfold ki;split
  ·exact(by decide:(1:UInt8).toNat≤1)
  ·exact(by decide:(0:UInt8).toNat≤1)
 have e1:U4 x=Cs.eJ ⟨x,0,0⟩:=by unfold U4;rw[b1,aw aa]
 have r1:=d1.cF (p:=[(ki b plain).1]) NM;obtain⟨n1,d2⟩:=Cs.iE (m:=32768) d1.e1 aa aa r1;have r2:=d2.cF r1;obtain⟨p1,d3⟩:=Cs.iE (m:=32768) d2.e1 aa aa r2;have r3:=d3.cF r2;have eN:frN x=b.length:=by unfold frN;rw[e1];exact n1
 have e2:fr2 x=(Cs.eJ ⟨x,0,0⟩).bX 32768:=by unfold fr2;rw[e1]
 have eP:zH x=(ki b plain).2.length:=by unfold zH;rw[e2];exact p1
 have asN:b.length≤1032*(ki b plain).2.length+64:=by
  unfold ki;split
  ·rename_i h;exact ZZ h.2.1
  ·simp only;omega
 have e3:Gg x=((Cs.eJ ⟨x,0,0⟩).bX 32768).bX 32768:=by unfold Gg;rw[eP,eN,aw aa,e2]
 obtain⟨t1,d4⟩:=Cs.mo (n:=((ki b plain).2.length:Nat)) d3.e1 rfl r3;have r4:=d4.cF r3;obtain⟨t2,d5⟩:=Cs.mo (n:=4) d4.e1 rfl r4;have eB:Qa x=(ki b plain).2:=by unfold Qa;rw[e3,eP];exact t1
 have e4:Ye x=(((((Cs.eJ ⟨x,0,0⟩).bX 32768).bX 32768).b_ ((ki b plain).2.length:Nat)).b_ 4):=by unfold Ye;rw[e3,eP]
 have mA:=(((d1.trans d2).trans d3).trans d4).trans d5;have hlen:(jF b plain).1.length=([(ki b plain).1]++aS b.length++aS (ki b plain).2.length++(ki b plain).2++mn (pV 0 (xC b plain++(ki b plain).2))).length:=by
  unfold jF;rw[aw aa];unfold cY xC;simp[bV]
 have e4':Ye x=⟨x,(jF b plain).1.length,0⟩:=by
  rw[e4,mA.eq,←hlen];simp
 have hcut:aK (x.take (jF b plain).1.length)=(xC b plain++(ki b plain).2,0):=by
  rw[hx,yo];unfold jF;rw[aw aa];exact jw _
 refine⟨b1,eN,eP,eB,?_⟩;unfold x6;rw[e4'];simp only;rw[aw ak,hcut];rfl
theorem Mm(b:al)(plain:Bool)(hb:b.length≤32768)(r:al):dL ((jF b plain).1++r)=(b,(jF b plain).1.length,0):=by
 obtain⟨x,hx⟩:=cR ((jF b plain).1++r);obtain⟨h1,h2,h3,h4,h5⟩:=XB b plain hb r hx;rw[←hx];have hy:LC x=(b,0):=by
  unfold LC;rw[h1,h2,h3,h4];unfold Nq ki;by_cases hs:plain=false∧ZX b
  ·rw[aq hs];simp only;have hm:∀t∈jr b,fa t:=xX b b.length 0;have mG:=zD b b.length 0 (bS _);have hsq:=hs.2.1;have hw:(LR b).1=packed (qx (jr b)):=by
    unfold LR ly at hsq⊢;by_cases h1:32768<(jr b).length
    ·rw[aq h1]at hsq;simp at hsq
    ·rw[aw h1,aq hm]
   have oP:fN (LR b).1 (b.length:Int)=(jr b,0):=by
    rw[hw];exact aaj hm (by unfold jr;simpa using mG)
   have hp:=w6 b b.length (Int.le_refl _);rw[aw aA,oP];simp only;rw[hp];simp
  ·rw[aw hs];simp
 unfold dL;rw[h5,hy];simp
abbrev aO:=Int×Bool×Int×Int×Int×Int
def aO.cells(o:aO):cV:=[ah o.1,.bool o.2.1,ah o.2.2.1,ah o.2.2.2.1,ah o.2.2.2.2.1,ah o.2.2.2.2.2]
def ib:aO:=(0,false,0,0,0,0)
def F7(x lo hi:Int):Prop:=lo≤x∧x≤hi
instance (x lo hi:Int):Decidable (F7 x lo hi):=inferInstanceAs (Decidable (_∧_))
def K8(o:aO):Prop:=F7 o.2.2.2.1 1 255∧F7 o.2.2.2.2.1 0 (255-o.2.2.2.1)∧F7 o.2.2.2.2.2 1 4096
instance (o:aO):Decidable (K8 o):=inferInstanceAs (Decidable (_∧_∧_))
def ji(v:Int)(o:aO):Prop:=
 F7 o.1 16 32768∧
 (v=3→K8 o)∧(v=3∨v=2→F7 o.2.2.1 1 64)∧
 (¬v=3→o.2.2.2.1=0∧o.2.2.2.2.1=0∧o.2.2.2.2.2=0)∧(v=1→o.2.2.1=0)
instance (v:Int)(o:aO):Decidable (ji v o):=inferInstanceAs (Decidable (_∧_∧_∧_∧_))
def cm(v:Int)(o:aO):Int:=if v=1∨v=2∨v=3 then (if ji v o then 0 else 9) else 4
def dY:al:=[70,73,82,75]
def qo(v:Int):al×Int:=if F7 v 1 3 then (dY++[UInt8.ofNat v.toNat],0) else ([],4)
def marked(b:al):Int×Int:=
 if b.length≤4 then (0,1) else if¬b.take 4=dY then (0,3) else if¬F7 ((b.getD 4 0).toNat:Int) 1 3 then (0,4) else ((b.getD 4 0).toNat,0)
theorem lQ{v:Int}(h:F7 v 1 3)(r:al):marked ((qo v).1++r)=(v,0):=by
 obtain⟨h1,h2⟩:=h;have hv:v=1∨v=2∨v=3:=by omega
 rcases hv with rfl|rfl|rfl
 ·show marked (70::73::82::75::1::r)=_;unfold marked;rw[aw ak,aw (by simp[dY]),aw (by simp[F7])];rfl
 ·show marked (70::73::82::75::2::r)=_;unfold marked;rw[aw ak,aw (by simp[dY]),aw (by simp[F7])];rfl
 ·show marked (70::73::82::75::3::r)=_;unfold marked;rw[aw ak,aw (by simp[dY]),aw (by simp[F7])];rfl
section
open Go.RowKit Go.ChangeShapes Go.WideShapes Go.ChangeAt
theorem Er:type_of% @Int.toNat_of_nonneg:= @Int.toNat_of_nonneg
theorem jM:type_of% @List.flatMap_cons:= @List.flatMap_cons
theorem sT:type_of% @List.getElem?_append_right:= @List.getElem?_append_right
def nr(P:Program)(w:World)(t:TypeId){α:Type}(F:α→cV)(Ok:α→Prop):Prop:=
 ∀(H:Type) (enc:TypeId×Value→H) (n:Nat) (cs:cV) (y:DataW H×List MemPlace),
  DataW.trod enc P w 0 (fun _=>true) true n t cs=some y→∃x,cs=F x∧Ok x
section
variable{P:Program}{w:World}{t:TypeId}
theorem alF(ht:P.underlying t=some (.int .u8)):nr P w t (fun b:UInt8=>[.int .u8 (b.toNat:Int)]) (fun _=>True):=by
 intro H enc n cs y h;obtain⟨m,rfl,_,hw⟩:=DataW.trod_int ht h;have hb:=bounds_u8 hw;refine⟨UInt8.ofNat m.toNat,?_,trivial⟩;have e:(UInt8.ofNat m.toNat).toNat=m.toNat:=by simp;omega
 dsimp only;rw[e,Er hb.1]
theorem ag'(ht:P.underlying t=some (.int .u64)):nr P w t (fun x:Nat=>[.int .u64 (x:Int)]) (fun x=>x<18446744073709551616):=by
 intro H enc n cs y h;obtain⟨m,rfl,_,hw⟩:=DataW.trod_int ht h;have hb:=bounds_u64 hw;exact⟨m.toNat,by dsimp only;rw[Er hb.1],aa⟩
theorem xM(ht:P.underlying t=some (.int .i64)):nr P w t (fun x:Int=>[ah x]) (fun x=>-9223372036854775808≤x∧x≤9223372036854775807):=by
 intro H enc n cs y h;obtain⟨m,rfl,_,hw⟩:=DataW.trod_int ht h;exact⟨m,rfl,bounds_i64 hw⟩
theorem abL(ht:P.underlying t=some .bool):nr P w t (fun b:Bool=>[.bool b]) (fun _=>True):=by
 intro H enc n cs y h;obtain⟨b,rfl,_⟩:=DataW.trod_bool ht h;exact⟨b,rfl,trivial⟩
theorem QZ(ht:P.underlying t=some .string):nr P w t (fun s:ByteArray=>[.string s]) (fun s=>s.size≤maxLen):=by
 intro H enc n cs y h;obtain⟨s,rfl,_,hs⟩:=DataW.trod_string ht h;exact⟨s,rfl,hs⟩
theorem Bs{α:Type}{F:α→cV}{size:Nat}(hF:∀x,(F x).length=size):∀(L:List α) (i j:Nat),j<size→(L.flatMap F)[i*size+j]? =(L[i]?).bind fun x=>(F x)[j]? :=by
 intro L;induction L with
 |nil=>intro i j _;simp
 |cons x L ih=>
  intro i j hj;rw[jM];rcases i with _|i
  ·rw[z' (by rw[hF];omega)];simp
  ·rw[sT (by rw[hF,j9];omega),hF,show(i+1)*size+j-size=i*size+j by rw[j9];omega,ih i j hj];simp
theorem XS{e:TypeId}{α:Type}{F:α→cV}{Ok:α→Prop}{size:Nat}(ht:P.underlying t=some (.slice e))(hc:P.cellsOf e=size)(hs:0<size)(hF:∀x,(F x).length=size)(he:nr P w e F Ok):
  nr P w t (fun x:Value×List α=>[x.1]) (fun x=>Rd w w.heap.size size x.1 x.2.length (x.2.flatMap F)∧(∀y∈x.2,Ok y)∧x.2.length≤maxLen):=by
 intro H enc n cs y h;rcases Deep.open_slice ht h with⟨rfl,_⟩|⟨a,len,cap,m,n',D,Pl,rfl,_,hl,hm,hmm,_,D8⟩
 ·exact⟨(.slice none 0 0,[]),rfl,Rd.AE,ak,ak⟩
 ·simp only[if_true]at hmm;have hex:∀i,i<len→∃x,w.cells? 0 (a.add (i*P.cellsOf e)) (P.cellsOf e)=some (F x)∧Ok x:=by
   intro i hi;obtain⟨cs',h1,h2⟩:=D8 i aa;obtain⟨x,rfl,ho⟩:=he H enc _ _ _ h2;exact⟨x,h1,ho⟩
  have aqh:∀k,k≤len→∃L:List α,L.length=k∧∀i x,L[i]? =some x→w.cells? 0 (a.add (i*P.cellsOf e)) (P.cellsOf e)=some (F x)∧Ok x:=by
   intro k;induction k with
   |zero=>intro _;exact⟨[],rfl,ak⟩
   |succ k ih=>
    intro hk;obtain⟨L,hL,hLi⟩:=ih aa;obtain⟨x,hx⟩:=hex k aa;refine⟨L++[x],by simp[hL],fun i z hz=>?_⟩;rw[List.getElem?_append]at hz;split at hz
    ·exact hLi i z hz
    ·rename_i fP;have:i=k:=by
      have:=(z6.1 hz).1;simp at this;omega
     subst this;simp[hL]at hz;subst hz;exact hx
  obtain⟨L,hL,hLi⟩:=aqh len (gj _);refine⟨(.slice (some a) len cap,L),rfl,⟨some a,cap,by rw[hL],by rw[hL];exact hl,?_,fun hn=>⟨a,rfl,?_,?_⟩⟩,?_,by show L.length≤maxLen;omega⟩
  ·show(L.flatMap F).length=L.length*size;clear hL hLi;induction L with
   |nil=>simp
   |cons x L ih=>simp[ih,hF,j9,sQ]
  ·obtain⟨x,hx⟩:∃x,L[0]? =some x:=by
    rcases L with _|⟨x,L⟩
    ·simp at hn
    ·exact⟨x,rfl⟩
   have:=(hLi 0 x hx).1;rw[hc]at this;have:=(World.cells?_some this).2.2 0 hs;simp[Addr.add]at this;rcases ue a.block w.heap.size with fP|wN
   ·exact fP
   ·rw[World.cell?,Array.getElem?_eq_none wN]at this;have h0:=hF x;have:(F x)[0]? =none:=by simpa using this.symm
    have:=List.getElem?_eq_none_iff.1 this;omega
  ·intro j u hu;have hj:j=j/size*size+j%size:=by have:=Nat.div_add_mod j size;rw[nG]at this;omega
   rw[hj,Bs hF L _ _ (sS _ hs)]at hu;obtain⟨x,hx,hu⟩:=Option.bind_eq_some_iff.1 hu;have hcx:=(hLi _ x hx).1;rw[hc]at hcx;have:=(World.cells?_some hcx).2.2 (j%size) (sS _ hs);rw[lA,←hj]at this;rw[this,hu]
  ·intro y hy;obtain⟨i,hi⟩:=List.getElem?_of_mem hy;exact(hLi i y hi).2
end
section
variable{P:Program}{w:World}{t:TypeId}
theorem nr.arg{α:Type}{F:α→cV}{Ok:α→Prop}(hd:nr P w t F Ok){H:Type}{enc:TypeId×Value→H}{v:Value}{d:DataW H}{ps:List MemPlace}(h:DataW.Trod enc P w 0 (fun _=>true) true t v d ps):∃x,v.cells.toList=F x∧Ok x:=by
 obtain⟨n,h⟩:=h;exact hd H enc n _ _ h
theorem MC{v:Value}{x:Value}(a:bj)(n c:Nat)(hv:v= .slice a n c)(h:v.cells.toList=[x]):x=v:=by
 subst hv;simp[Value.cells]at h;exact h.symm
end
section
variable{P:Program}{w:World}{t:TypeId}
theorem MP{α β γ δ:Type}{f0 f1 f2 f3:Field}{F0:α→Value}{F1:β→Value}{F2:γ→Value}{F3:δ→Value}{O0:α→Prop}{O1:β→Prop}{O2:γ→Prop}{O3:δ→Prop}(ht:P.underlying t=some (.struct #[f0,f1,f2,f3]))(hc:P.cellsOf t=4)(h0:f0.offset=0∧P.cellsOf f0.type=1)(h1:f1.offset=1∧P.cellsOf f1.type=1)(h2:f2.offset=2∧P.cellsOf f2.type=1)(h3:f3.offset=3∧P.cellsOf f3.type=1)(d0:nr P w f0.type (fun x=>[F0 x]) O0)(d1:nr P w f1.type (fun x=>[F1 x]) O1)(d2:nr P w f2.type (fun x=>[F2 x]) O2)(d3:nr P w f3.type (fun x=>[F3 x]) O3):
  nr P w t (fun x:α×β×γ×δ=>[F0 x.1,F1 x.2.1,F2 x.2.2.1,F3 x.2.2.2]) (fun x=>O0 x.1∧O1 x.2.1∧O2 x.2.2.1∧O3 x.2.2.2):=by
 intro H enc n cs y h;obtain⟨xs,n',_,_,hl,hx,hf⟩:=DataW.trod_struct ht h;rw[hc]at hl;obtain⟨c0,c1,c2,c3,rfl⟩:∃c0 c1 c2 c3,cs=[c0,c1,c2,c3]:=by
  match cs,hl with
  |[c0,c1,c2,c3],_=>exact⟨c0,c1,c2,c3,rfl⟩
 obtain⟨y0,y1,y2,y3,rfl⟩:∃y0 y1 y2 y3,xs=[y0,y1,y2,y3]:=by
  match xs,hx with
  |[y0,y1,y2,y3],_=>exact⟨y0,y1,y2,y3,rfl⟩
 have g0:=hf 0 f0 rfl;have g1:=hf 1 f1 rfl;have g2:=hf 2 f2 rfl;have g3:=hf 3 f3 rfl;rw[h0.1,h0.2]at g0;rw[h1.1,h1.2]at g1;rw[h2.1,h2.2]at g2;rw[h3.1,h3.2]at g3;obtain⟨a,ea,oa⟩:=d0 H enc _ _ _ g0;obtain⟨b,eb,ob⟩:=d1 H enc _ _ _ g1;obtain⟨c,ec,oc⟩:=d2 H enc _ _ _ g2;obtain⟨d,ed,od⟩:=d3 H enc _ _ _ g3;simp at ea eb ec ed;exact⟨(a,b,c,d),by simp[ea,eb,ec,ed],oa,ob,oc,od⟩
end
end
abbrev aH:=Nat×UInt8×al×al
def aH.cells(x:aH):cV:=[.int .u64 x.1,.int .u8 (x.2.1.toNat:Int),.string ⟨x.2.2.1.toArray⟩,.string ⟨x.2.2.2.toArray⟩]
def aH.ok(x:aH):Prop:=x.1<18446744073709551616∧True∧x.2.2.1.length≤maxLen∧x.2.2.2.length≤maxLen
theorem MO{P:Program}{w:World}{t:TypeId}(ht:P.underlying t=some .string):nr P w t (fun s:al=>[.string ⟨s.toArray⟩]) (fun s=>s.length≤maxLen):=by
 intro H enc n cs y h;obtain⟨s,h1,h2⟩:=QZ ht H enc n cs y h;refine⟨s.data.toList,?_,?_⟩
 ·rw[h1]
 ·have e:s.data.toList.length=s.size:=by rw[Kw];rfl
  show s.data.toList.length≤maxLen;rw[e];exact h2
theorem ag_(w:World):nr Tryz.prog w 62 aH.cells aH.ok:=
 MP underlying62 ag ⟨rfl,ag⟩ ⟨rfl,ag⟩ ⟨rfl,ag⟩ ⟨rfl,ag⟩ (ag' underlying60) (alF underlying5) (MO underlying9) (MO underlying9)
def cU(L:List aH):cV:=L.flatMap aH.cells
def recAt(L:List aH)(k:Nat):aH:=L.getD k (0,0,[],[])
theorem qv{L:List aH}{k:Nat}(hk:k<L.length){j:Nat}(hj:j<4):(cU L)[k*4+j]? =(aH.cells (recAt L k))[j]? :=by
 rw[cU,Bs (size:=4) (fun _=>rfl) L k j hj,recAt,bk,fo hk];rfl
theorem Xw{P:Prop}(h:P:=by(exact eU (by first|omega|(exact⟨fun h=>by omega,fun h=>by omega⟩)))):P:=h
theorem wj:type_of% @List.sum_append:= @List.sum_append
theorem jd:type_of% @List.map_append:= @List.map_append
def aH.w(x:aH):Nat:=16+x.2.2.1.length+x.2.2.2.length
def dF(L:List aH):Nat:=(L.map aH.w).sum
theorem aaH(L:List aH)(x:aH):dF (L++[x])=dF L+x.w:=by simp[dF]
theorem oU{L:List aH}{k:Nat}(h:k<L.length):dF (L.take (k+1))=dF (L.take k)+(recAt L k).w:=by
 rw[aZ h (0,0,[],[]),aaH];rfl
theorem np(L:List aH)(k:Nat):dF (L.take k)≤dF L:=by
 have h:dF L=dF (L.take k)+dF (L.drop k):=by
  rw[dF,dF,dF,←wj,←jd,jO]
 omega
theorem vf(x:aH):∀u∈x.cells,u.oneCell'=true:=by simp[aH.cells,Value.oneCell']
theorem lS{L:List aH}{k:Nat}(hk:k<L.length):∀(q:Nat) (u:Value),(aH.cells (recAt L k))[q]? =some u→(cU L)[k*4+q]? =some u:=fun q u h=>by
 have hq:q<4:=by
  have:=(z6.1 h).1;simpa[aH.cells]using this
 rw[qv hk hq];exact h
set_option maxRecDepth 20000 in
theorem agc(L:List aH)(hb:aL B w0 F 4 (.slice A L.length c) L.length (cU L))(hw:dF L<4611686018427387904)(hl:L.length<4611686018427387904):
  a_ B w0 81 [.slice A L.length c] F (fun r K=>r=ah (dF L)∧K=F):=by
 refine fw func81 24 [0] ?_;refine zM ?_;refine aD (fun zf zL zm=>∃(k:Nat),(k≤L.length)∧L.length-k=zm∧Sub zf [(3,ah (dF (L.take k))),(6,.slice A L.length c),(7,ah L.length),(8,ah k)]∧Wk zL (F)) _ ⟨0,bS _,rfl,bm,.refl _⟩ ?_;rintro _ _ _ ⟨k,hk,rfl,hs,hp⟩;refine aU hs hp ?_;clear hs hp;refine bB ?_;refine aj (fun h9=>?_) fun h9=>?_
 ·have hws:=oU (L:=L) (k:=k) aa;have CC:=np L (k+1);have oB:=vf (recAt L k);have hrw:(recAt L k).w=16+(recAt L k).2.2.1.length+(recAt L k).2.2.2.length:=rfl;refine bB ?_;refine ae (aG (i:=k) underlying24 ag rfl rfl rfl aa aB) rfl ?_;refine ae (dg 4 ag rfl aB aa (aH.cells (recAt L k)) (lS aa) rfl) rfl ?_;refine bg fun g5=>?_;refine GL ?_;refine ve [3,6,7,8] ?_;refine av ⟨_,aa,k+1,aa,rfl,bm,.skip (.refl _)⟩
 ·refine c_ ?_;have zQ:k=L.length:=by omega
  subst zQ;exact⟨by rw[jN],rfl⟩
set_option maxRecDepth 20000 in
theorem ZQ(L:List aH)(hb:aL B w0 F 4 (.slice A L.length c) L.length (cU L))(hl:L.length<4611686018427387904):
  a_ B w0 37 [.slice A L.length c] F (fun r K=>∃v:Int,r=ah v∧K=F∧(v=2199023255552∧1099511627776<dF L∨v=dF L∧dF L<4611686018427387904)):=by
 refine fw func37 48 [0] ?_;refine zK ?_;refine aD (fun zf zL zm=>∃(k:Nat),(k≤L.length∧dF (L.take k)≤4398046511104)∧L.length-k=zm∧Sub zf [(0,.slice A L.length c),(3,ah (dF (L.take k))),(4,ah k)]∧Wk zL (F)) _ ⟨0,⟨bS _,by simp[dF]⟩,rfl,bm,.refl _⟩ ?_;rintro _ _ _ ⟨k,⟨hk,RZ⟩,rfl,hs,hp⟩;refine aU hs hp ?_;clear hs hp;refine bP ?_;refine aj (fun h8=>?_) fun h8=>?_
 ·have hws:=oU (L:=L) (k:=k) aa;have hrw:(recAt L k).w=16+(recAt L k).2.2.1.length+(recAt L k).2.2.2.length:=rfl;refine bD ?_;refine bR 20 30 [0,3,4] (1099511627776<dF (L.take k)∨1099511627776<(recAt L k).2.2.1.length∨1099511627776<(recAt L k).2.2.2.length) ?_ ?_
  ·refine bH ?_;refine aI rfl rfl rfl (fun nh=>?_) (fun nh=>?_)
   ·refine bB ?_;refine ae (dv underlying62 rfl ag rfl aB aa rfl) rfl ?_;refine aE ?_;refine ae (fz ag rfl aB aa ((qv aa aA).trans rfl)) rfl ?_;refine bB ?_;refine aI rfl rfl rfl (fun pX=>?_) (fun pX=>?_)
    ·refine bB ?_;refine ae (dv underlying62 rfl ag rfl aB aa rfl) rfl ?_;refine aE ?_;refine ae (fz ag rfl aB aa ((qv aa aA).trans rfl)) rfl ?_;refine bI ?_;exact aM Xx
    ·refine bD ?_;exact aM Xw
   ·refine jU ?_;exact aM Xw
  ·refine be ?_;refine aj (fun y'=>?_) fun y'=>?_
   ·refine c_ ?_;have aud:=np L k;have aue:=np L (k+1);exact⟨_,rfl,rfl,.inl ⟨rfl,aa⟩⟩
   ·refine bM ?_;refine bU (dv underlying62 rfl ag rfl aB aa rfl) rfl ?_;refine bU (fz ag rfl aB aa ((qv aa aA).trans rfl)) rfl ?_;refine bI ?_;refine bU (dv underlying62 rfl ag rfl aB aa rfl) rfl ?_;refine bU (fz ag rfl aB aa ((qv aa aA).trans rfl)) rfl ?_;refine bH ?_;refine mu [(0,_),(3,_),(4,_)] ⟨rfl,rfl,rfl,trivial⟩ ?_;refine bD ?_;refine av ⟨_,aa,k+1,⟨aa,aa⟩,rfl,bm,.refl _⟩
 ·refine c_ ?_;have zQ:k=L.length:=by omega
  subst zQ;rw[jN]at RZ⊢;exact⟨_,rfl,rfl,.inr ⟨rfl,aa⟩⟩
theorem ahw(L:List aH)(hb:aL B w0 F 4 (.slice A L.length c) L.length (cU L))(n1 n2:Nat)(h1:n1≤1099511627776)(h2:n2≤1099511627776):
  a_ B w0 20 [.slice A L.length c,ah n1,ah n2] F (fun r K=>∃b,r= .bool b∧K=F∧(b=false→L.length≤n1∧dF L≤n2)):=by
 refine fw func20 17 [0,1,2] ?_;refine cD ?_;refine aI rfl rfl rfl (fun pq=>?_) (fun pq=>?_)
 ·refine be ?_;refine ba arI rfl (ZQ L hb aa) rfl ?_;rintro _ _ ⟨v,rfl,cJ,hv⟩;obtain rfl:=cJ.symm;refine bz ?_;refine⟨_,rfl,rfl,fun h=>?_⟩;have h':=R8 h;exact⟨aa,aa⟩
 ·refine bP ?_;exact⟨_,rfl,rfl,fun h=>jY⟩
theorem abX{x k:Nat}{pre:al}(h:aS x=pre++aS k)(hk:128≤k):aS x=(pre++[UInt8.ofNat (128+k%128)])++aS (k/128):=by
 rw[h,uU hk];simp
theorem abW{x k:Nat}{pre:al}(h:aS x=pre++aS k)(hk:k<128):aS x=pre++[UInt8.ofNat k]:=by
 rw[h,ox hk]
theorem ahj{x k:Nat}{pre:al}(h:aS x=pre++aS k)(hx:x<18446744073709551616):pre.length≤10:=by
 have h1:=dC List.length h;have h2:=aT hx;rw[aX]at h1;omega
theorem Mt{v:Nat}(hv:v<256)(l:al):bv l++[Value.int .u8 (v:Int)]=bv (l++[UInt8.ofNat v]):=by
 have:(UInt8.ofNat v).toNat=v:=by rw[oi];exact jc hv
 simp[bv,this]
theorem as7(k:Nat):IntKind.u8.wrap (k:Int)=((k%256:Nat):Int):=by show(k:Int)%256=_;omega
theorem aqM(k:Nat):IntKind.u8.wrap ((BitVec.ofInt IntKind.u8.bits ((k%256:Nat):Int) ||| BitVec.ofInt IntKind.u8.bits 128).toNat:Int)=((128+k%128:Nat):Int):=by
 have h:=u8_or (k%256) 128 aa aa;rw[show((128:Nat):Int)=128 from rfl]at h;have e:=ad6 (k%256) aa;refine(Eq.trans h ?_);rw[e];omega
theorem atr(k:Nat):(k:Int).fdiv (2^min (7:Int).toNat IntKind.u64.bits)=((k/128:Nat):Int):=by
 have e:min (7:Int).toNat IntKind.u64.bits=7:=by decide
 rw[e,wg _ aA];rfl
set_option maxRecDepth 20000 in
theorem iP(x:Nat)(hx:x<18446744073709551616):a_ B w0 63 [.int .u64 x] F (fun r L=>∃A c,r= .slice A (aS x).length c∧L= .own 5 1 A (aS x).length c (bv (aS x))::F):=by
 refine fw func63 19 [0] ?_;refine bB ?_;refine aY 5 1 none ?_;refine bB ?_;refine aD (fun zf zL zm=>∃(k:Nat) (pre:al) (A3:bj) (c3:Nat),(k≤x∧aS x=pre++aS k)∧k=zm∧Sub zf [(0,.int .u64 k),(3,.slice A3 pre.length c3)]∧Wk zL (.own 5 1 A3 pre.length c3 (bv pre)::F)) _ ⟨x,[],none,0,⟨gj _,ak⟩,rfl,bm,ax rfl rfl (.refl _)⟩ ?_;rintro _ _ _ ⟨k,pre,A3,c3,⟨hk,he⟩,rfl,hs,hp⟩;refine aU hs hp ?_;clear hs hp;have mG:=ahj he hx;refine bD ?_;refine aj (fun h5=>?_) fun h5=>?_
 ·have hl:=(show(pre++[UInt8.ofNat (128+k%128)]).length=pre.length+1 by simp)
  refine bD ?_;refine ae (bw underlying60 underlying5 rfl (as7 k)) rfl ?_;refine ae (tL rfl rfl (aqM k)) rfl ?_;refine dK cN rfl rfl rfl rfl rfl (fun _=>rfl) aV aa aa ?_;intro _ tE xl;rw[←hl];refine bI ?_;refine ae (di rfl rfl aa (atr k)) rfl ?_;refine bH ?_;refine av ⟨_,aa,k/128,pre++[UInt8.ofNat (128+k%128)],tE,xl,⟨aa,abX he aa⟩,rfl,bm,ax rfl (Mt aa pre) (.refl _)⟩
 ·have hl:=(show(pre++[UInt8.ofNat k]).length=pre.length+1 by simp)
  refine bz ?_;refine dK cN rfl rfl rfl rfl rfl (fun _=>rfl) aV aa aa ?_;intro _ s8 uR;rw[←hl];refine b8 ?_;have D8:=abW he aa;rw[D8];refine ao (ax rfl (Mt aa pre) (.refl _)) ?_;refine aE ?_;exact⟨s8,uR,rfl,rfl⟩
theorem K_(s:al)(hs:s.length≤1099511627776):a_ B w0 143 [.string ⟨s.toArray⟩] F (fun r L=>∃A c,r= .slice A (ft s).length c∧L= .own 5 1 A (ft s).length c (bv (ft s))::F):=by
 have h:=fun w=>anH (⟨s.toArray⟩:ByteArray) (by simpa[ByteArray.size]using hs) w;exact dP.AH fun w _=>h w
theorem Ui{P:Prop}(h:P:=by(simpa using hc)):P:=h
theorem ud:type_of% @List.flatMap_append:= @List.flatMap_append
theorem Ym(w:World):
  Calls Tryz.prog 163 #[.slice none 0 0,ah 0] w fun e w'=>e= .returned (.slice none 0 0)∧w=w':=by
 go_enter func163,Tryz.ntmps163
 go_wp2
 go_ret
 exact⟨rfl,rfl⟩
def ajM(w:World)(e:Ending)(w':World):Prop:=∃v,e= .returned v∧w'.ownsRow w.heap.size 5 1 v 0 []
theorem ad9{w:World}{base:Nat}{e:TypeId}{g cap:Nat}{cur:Array Value}(h:w.heap[g]? =some (.cells cur e (0,0)))(hb:base≤g)(hm:cap≤maxLen)(hc:cur.size=cap):
  w.ownsRow base e 1 (.slice (some ⟨g,0,none⟩) 0 cap) 0 []:=
 ⟨rfl,.inr ⟨g,cap,cur,rfl,hb,h,bS _,hm,Ui,ak⟩⟩
set_option maxRecDepth 100000 in
theorem acq(n:Nat)(h:0<n)(hn:n≤1099511627776)(w:World):
  Calls Tryz.prog 163 #[.slice none 0 0,ah n] w fun e w'=>ajM w e w'∧Below w.heap.size w w':=by
 obtain⟨i,hi,hz,hs,D7⟩:=W6;have tc:=Lib.run_append_nil_zeros (P:=Tryz.prog) w 27 3 27 5 i (.int .u8 0) .i64 .i64 underlying27 underlying3 hi hz n h aa aa (by rw[D7];omega);have wN:=grownCap_ge w n 0 5;have hle:=grownCap_le_maxLen w n 0 5 Bk;generalize hG:grownCap w n 0 5=G at*;have h1:¬((n:Int)<0):=by omega
 have h2:(0:Int)<n:=by omega
 have HR:=jL tc;have HG:=jL hG;clear tc hG hi hz hs D7
 go_enter func163,Tryz.ntmps163
 go_wp2_with (at_builtin;refine Lib.wpList_append_run _ rfl _ _ _ _ rfl _ _ rfl rfl _ _ HR.out ?_)
 go_ret
 refine⟨⟨_,rfl,ad9 (Es _ _) (gj _) hle ?_⟩,((G3 _ _).alloc (gj _) _).drew⟩;simp[size_zeroCells];omega
theorem alX(n:Nat)(hn:n≤1099511627776)(w:World):
  Calls Tryz.prog 163 #[.slice none 0 0,ah n] w fun e w'=>ajM w e w'∧Below w.heap.size w w':=by
 rcases wV n with h|h
 ·subst h;refine(Ym w).mono fun e w' ⟨h1,h2⟩=>?_;subst h2;exact⟨⟨_,h1,World.ownsRow_nil _ _ _ _⟩,G3 _ _⟩
 ·exact acq n h hn w
abbrev ei:=List (Value×al)
def ei.Cm(P:ei):cV:=P.map (·.1)
def ei.all(P:ei):al:=P.flatMap (·.2)
def ei.ok(P:ei)(w:World)(B:Nat):Prop:=∀x∈P,Rd w B 1 x.1 x.2.length (bv x.2)
theorem ei.vN(P:ei){k:Nat}{x:Value×al}(h:P[k]? =some x):ei.all (P.take (k+1))=ei.all (P.take k)++x.2:=by
 have hk:=(z6.1 h).1;have hx:=(z6.1 h).2;unfold ei.all;rw[List.take_succ_eq_append_getElem hk,ud,hx];simp
theorem ei.Bj(P:ei)(k:Nat):(ei.all (P.take k)).length≤(ei.all P).length:=by
 unfold ei.all
 conv=>rhs;rw[←jO k P,ud]
 simp
theorem ei.at_{P:ei}{w:World}{B:Nat}{A:bj}{n:Nat}(hr:0<n→∃ad,A=some ad∧ad.block<B∧∀j u,P.Cm[j]? =some u→w.cell? (ad.add j)=some u)(hP:P.ok w B)(hn:n=P.length){k:Nat}(hk:k<n):∃ad A' c' x,A=some ad∧ad.block<B∧P[k]? =some x∧w.cell? (ad.add k)=some (.slice A' x.2.length c')∧Rd w B 1 (.slice A' x.2.length c') x.2.length (bv x.2):=by
 obtain⟨ad,rfl,hb,hc⟩:=hr aa;have hx:P[k]? =some (P[k]'aa):=fo aa;have tY:=hP _ (List.mem_of_getElem? hx);have fB:=hc k (P[k]'aa).1 (by simp[ei.Cm,hx]);obtain⟨A',c',hv,h4,h5,h6⟩:=tY;rw[hv]at fB;exact⟨ad,A',c',_,rfl,hb,hx,fB,A',c',rfl,h4,h5,h6⟩
set_option maxRecDepth 100000 in
set_option maxHeartbeats 800000 in
theorem ML{B n:Nat}{v:Value}{P:ei}(w:World)(hn:n=P.length)(h:Rd w B 1 v n P.Cm)(hP:P.ok w B)(hB:B≤w.heap.size)(hlen:P.all.length≤1099511627776)(D6:P.length≤1099511627776):
  Calls Tryz.prog 93 #[v] w fun e w'=>∃v',e= .returned v'∧w'.ownsRow w.heap.size 5 1 v' P.all.length (bv P.all)∧Below w.heap.size w w':=by
 obtain⟨A,c,rfl,hc,hl,hr⟩:=h;rw[←hn]at D6;have Hr:=jL hr;have HP:=jL hP;have Hn:=jL hn;have Hl:=jL hlen;clear hr hP hn hlen hl
 go_enter func93,Tryz.ntmps93
 go_wp2
 go_loop [3,5,11] (fun z s i=>∃k m:Nat,k≤n∧i=ah k∧z=ah m∧m≤1099511627776∧Hid (m=(ei.all (P.take k)).length)) (fun _ _ i=>n-(intOf i).toNat)
 case atStart=>exact⟨0,0,bS _,rfl,rfl,bS _,by simp[Hid,ei.all]⟩
 case round=>
  obtain⟨k,m,hk,rfl,rfl,hm,HM⟩:=hrel;by_cases fP:k<n
  ·obtain⟨ad,A',c',x,rfl,hab,hx,fB,tY⟩:=ei.at_ Hr.out HP.out Hn.out fP;have e1:=ei.vN P hx;have e2:=ei.Bj P (k+1);have By:m+x.2.length=(ei.all (P.take (k+1))).length:=by rw[e1,aX,HM.out]
   have vC:m+x.2.length≤1099511627776:=by rw[By];exact jf e2 Hl.out
   have HM2:=jL By;clear By e1 e2 tY hx
   go_wp2
   go_round
   case rel=>exact⟨k+1,m+x.2.length,aa,by go_num,by go_num,vC,HM2⟩
   case measure=>simp[intOf];omega
  ·have hkn:k=n:=by omega
   have By:m=P.all.length:=by rw[HM.out,hkn,Hn.out,jN]
   have HM2:=jL By;clear By hkn
   go_wp2_with (go_at_call 163;refine(alX m aa _).mono ?_;rintro e w1 ⟨⟨v1,rfl,Ea⟩,qf⟩)
   have hwB:=qf.mono hB
   go_loopw [6,8,27] (fun o s i wr=>∃k:Nat,k≤n∧i=ah k∧wr.ownsRow w.heap.size 5 1 o (ei.all (P.take k)).length (bv (ei.all (P.take k)))∧Below w.heap.size w wr) (fun _ _ i _=>n-(intOf i).toNat)
   case atStart=>exact⟨0,bS _,rfl,by simpa[ei.all]using Ea,qf⟩
   case round=>
    obtain⟨k,hk,rfl,mg,hb⟩:=hrel;by_cases fP:k<n
    ·obtain⟨ad,A',c',x,rfl,hab,hx,acI,aqt⟩:=ei.at_ Hr.out HP.out Hn.out fP;have fB:=(hb.cell (p:=ad.add k) (by rw[rV];omega)).trans acI;have tY:=aqt.below (hb.mono hB);have e1:=jL (ei.vN P hx);have e2:=ei.Bj P (k+1);have e3:(ei.all (P.take k)).length+x.2.length≤1099511627776:=by
      rw[e1.out,aX]at e2;exact jf e2 Hl.out
     have jb:=hb.size;clear e2 aqt acI hx
     go_wp2_with (at_builtin;refine TX WE rfl (.tmp 31) (.tmp 32) rfl rfl mg rfl tY (rW _) hb (gj _) jb aa aa ?_;intro v2 w2 Iz oP NC)
     go_roundw
     case rel=>exact⟨k+1,aa,by go_num,by rw[e1.out,aX,gv];exact Iz,oP⟩
     case measure=>simp[intOf];omega
    ·have hkn:P.take k=P:=fD (by have:=Hn.out;omega);have HK:=jL hkn;clear hkn
     go_wp2
     go_ret
     rw[HK.out]at mg;exact⟨_,rfl,mg,hb⟩
theorem ajO{B n:Nat}{v:Value}{P:ei}(w:World)(hn:n=P.length)(h:Rd w B 1 v n P.Cm)(hP:P.ok w B)(hB:B≤w.heap.size)(hlen:P.all.length≤1099511627776)(D6:P.length≤1099511627776):
  Calls Tryz.prog 52 #[v] w fun e w'=>∃v',e= .returned v'∧w'.ownsRow w.heap.size 5 1 v' P.all.length (bv P.all)∧Below w.heap.size w w':=by
 have h':=h;obtain⟨A,c,rfl,hc,hl,hr⟩:=h;have Hn:=jL hn;clear hr hl hc hn
 go_enter func52,Tryz.ntmps52
 go_wp2_with (go_at_call 93;refine(ML _ Hn.out h' hP hB hlen D6).mono ?_;rintro e w1 ⟨v1,rfl,Ea,qf⟩)
 go_ret
 exact⟨_,rfl,Ea,qf⟩
theorem aoo{P:Prop}(h:P:=by(intro y hy;simp only[fm,ml,oj]at hy;rcases hy with rfl|rfl|rfl<;>exact aB)):P:=h
theorem ml:type_of% @List.not_mem_nil:= @List.not_mem_nil
theorem oj:type_of% @or_false:= @or_false
theorem aiK{P:ei}{l:al}(hb:aL B w0 F 1 (.slice A n c) n P.Cm)(hP:∀x∈P,aL B w0 F 1 x.1 x.2.length (bv x.2))(hn:n=P.length)(mA:P.all=l)(hlen:l.length≤1099511627776)(D6:P.length≤1099511627776):
  a_ B w0 52 [.slice A n c] F (fun r L=>∃A' c',r= .slice A' l.length c'∧L= .own 5 1 A' l.length c' (bv l)::F):=by
 subst mA;exact dP.AH fun w hw=>ajO (B:=w.heap.size) w hn (hb w hw) (fun x hx=>hP x hx w hw) (gj _) hlen D6
def fQ(b:Bool)(x:aH):al:=if b=true then aS x.1++[x.2.1] else []
def lH(b:Bool)(x:aH):al:=fQ b x++ft x.2.2.1++ft x.2.2.2
def dc(b:Bool)(L:List aH):al:=L.flatMap (lH b)
theorem m7{s:al}(h:s.length≤100000000000):(ft s).length≤s.length+10:=by
 have:=aT (x:=s.length) aa;unfold ft;rw[aX];omega
theorem BP{b:Bool}{x:aH}(hx:x.1<18446744073709551616):(fQ b x).length≤11:=by
 have:=aT hx;unfold fQ;split
 ·simp;omega
 ·simp
theorem yL{b:Bool}{x:aH}(hx:x.1<18446744073709551616)(hw:x.w≤100000000000):(lH b x).length≤2*x.w:=by
 have h:= @BP b x hx;unfold aH.w at hw⊢;have h1:=m7 (s:=x.2.2.1) aa;have h2:=m7 (s:=x.2.2.2) aa;unfold lH;rw[aX,aX];omega
theorem SX(b:Bool)(L:List aH)(x:aH):dc b (L++[x])=dc b L++lH b x:=by simp[dc]
theorem SZ{b:Bool}{L:List aH}{k:Nat}(h:k<L.length):dc b (L.take (k+1))=dc b (L.take k)++lH b (recAt L k):=by
 rw[aZ h (0,0,[],[]),SX];rfl
theorem Bd(x:aH)(L:List aH):dF (x::L)=x.w+dF L:=by simp[dF]
theorem Ex:∀L:List aH,16*L.length≤dF L
 |[]=>by simp
 |x::L=>by
  have:=Ex L;rw[Bd,eh];unfold aH.w;omega
theorem vg{b:Bool}:∀{L:List aH},(∀x∈L,x.1<18446744073709551616)→dF L≤100000000000→(dc b L).length≤2*dF L
 |[],_,_=>by simp[dc]
 |x::L,hx,hw=>by
  rw[Bd]at hw⊢;have h1:=yL (b:=b) (hx x ak) aa;have h2:=vg (b:=b) (fun y hy=>hx y vR) (by omega:dF L≤100000000000);simp only[dc,jM,aX]at h2⊢;omega
theorem arl{L:List aH}{k:Nat}(h:k<L.length):(recAt L k).w≤dF L:=by
 have h1:=oU h;have h2:=np L (k+1);omega
theorem KR{L:List aH}(h:∀x∈L,x.1<18446744073709551616){k:Nat}(hk:k<L.length):(recAt L k).1<18446744073709551616:=h _ (bh hk _)
theorem Wg(b:Bool)(x:aH)(hx:x.1<18446744073709551616)(hw:x.w≤100000000000):
  a_ B w0 82 [.bool b,.agg (aH.cells x).toArray] F (fun r L=>∃A' c',r= .slice A' (lH b x).length c'∧L= .own 5 1 A' (lH b x).length c' (bv (lH b x))::F):=by
 have jB:=aT hx;have hrl:= @BP b x hx;have hrb:=yL (b:=b) hx hw;have GX:=hw;unfold aH.w at GX;have tA:=m7 (s:=x.2.2.1) aa;have rN:=m7 (s:=x.2.2.2) aa;refine fw func82 23 [0,1] ?_;refine be ?_;refine bf fun g3=>?_;refine b8 ?_;refine aY 5 1 none ?_;refine b8 ?_;refine d_ (fun zf zL=>∃(A5:bj) (c5:Nat),Sub zf [(3,bq g3),(5,.slice A5 (fQ b x).length c5)]∧Wk zL (.own 5 1 A5 (fQ b x).length c5 (bv (fQ b x)):: .bE g3 62 (aH.cells x)::F)) ?_ ?_
 ·refine bI ?_;refine h_ (fun h6=>?_) fun h6=>?_
  ·have Qc:fQ b x=aS x.1++[x.2.1]:=aq h6;refine cC (.bE g3 62 (aH.cells x)::F) ?_;refine ab 0 ?_;refine ab 1 ?_;refine ab 3 ?_;refine ab 4 ?_;refine gU 2 5 ?_ ?_
   ·refine b7 rfl rfl (iP x.1 hx) fun A9 c9=>?_;refine az 5 ?_;refine cQ rfl (aF cN [_] rfl rfl cA aa aa) fun P5=>?_;refine az 6 ?_;refine eW rfl (bW cN rfl aV rfl aB cA aa aa) fun xi Gc=>?_;rw[show(aS x.1).length+1=(fQ b x).length by rw[Qc];simp];refine ab 7 ?_;refine aE ?_;exact bC ⟨xi,Gc,bm,.skip (ax rfl (by rw[Qc];simp[bv]) (.skip (.refl _)))⟩
   ·refine cQ rfl (aF cN [_] rfl rfl cA aa aa) fun P5=>?_;refine az 2 ?_;refine b7 rfl rfl (iP x.1 hx) fun A9 c9=>?_;refine az 6 ?_;refine eW rfl (bW cN rfl aV rfl aB cA aa aa) fun xi Gc=>?_;rw[show(aS x.1).length+1=(fQ b x).length by rw[Qc];simp];refine ab 7 ?_;refine aE ?_;exact bC ⟨xi,Gc,bm,ax rfl (by rw[Qc];simp[bv]) (.skip (.skip (.refl _)))⟩
  ·have Qc:fQ b x=[]:=aw (by simpa using h6);have hb0:(fQ b x).length=0:=by rw[Qc];rfl
   refine aE ?_;exact bC ⟨none,0,bm,ax (by rw[Qc];rfl) (by rw[Qc];rfl) (.refl _)⟩
 ·rintro _ _ ⟨A5,c5,hs,hp⟩;refine aU hs hp ?_;clear hs hp;refine aE ?_;refine cC (.own 5 1 A5 (fQ b x).length c5 (bv (fQ b x)):: .bE g3 62 (aH.cells x)::F) ?_;refine ab 0 ?_;refine ab 1 ?_;refine ab 2 ?_;refine ab 4 ?_;refine ab 5 ?_;refine az 3 ?_;refine b7 rfl rfl (K_ _ aa) fun T4 c17=>?_;refine az 6 ?_;refine b7 rfl rfl (K_ _ aa) fun Ls Mw=>?_;refine az 7 ?_;refine cQ rfl (aF fH [_,_,_] rfl rfl cA aa aa) fun A21=>?_;refine az 8 ?_;refine b7 rfl rfl (aiK (l:=lH b x) (P:=[(.slice A5 (fQ b x).length c5,fQ b x),(.slice T4 (ft x.2.2.1).length c17,ft x.2.2.1),(.slice Ls (ft x.2.2.2).length Mw,ft x.2.2.2)]) aB aoo rfl (by simp[ei.all,lH]) (by unfold aH.w at hrb;omega) ak) fun A22 c22=>?_;refine ab 9 ?_;refine bH ?_;refine ao (L':=.own 5 1 A22 (lH b x).length c22 (bv (lH b x))::F) (.cons (.skip (.skip (.skip (.skip (.skip (.refl _))))))) ?_;refine aE ?_;exact⟨A22,c22,rfl,rfl⟩
theorem I4(b:Bool)(L:List aH)(hb:aL B w0 F 4 (.slice A L.length c) L.length (cU L))(hx:∀x∈L,x.1<18446744073709551616)(hw:dF L≤100000000000):
  a_ B w0 45 [.bool b,.slice A L.length c] F (fun r K=>∃A' c',r= .slice A' (dc b L).length c'∧K= .own 5 1 A' (dc b L).length c' (bv (dc b L))::F):=by
 have hlw:=Ex L;refine fw func45 21 [0,1] ?_;refine bB ?_;refine aY 5 1 none ?_;refine c_ ?_;refine aD (fun zf zL zm=>∃(k:Nat) (A5:bj) (c5:Nat),(k≤L.length)∧L.length-k=zm∧Sub zf [(0,.bool b),(5,.slice A5 (dc b (L.take k)).length c5),(8,.slice A L.length c),(9,ah L.length),(10,ah k)]∧Wk zL (.own 5 1 A5 (dc b (L.take k)).length c5 (bv (dc b (L.take k)))::F)) _ ⟨0,none,0,bS _,rfl,bm,ax rfl rfl (.refl _)⟩ ?_;rintro _ _ _ ⟨k,A5,c5,hk,rfl,hs,hp⟩;refine aU hs hp ?_;clear hs hp;refine bB ?_;refine aj (fun pq=>?_) fun pq=>?_
 ·have YM:=KR hx (k:=k) aa;have RZ:=arl (L:=L) (k:=k) aa;have hrb:=yL (b:=b) YM aa;have hws:=vg (b:=b) (L:=L.take k) (fun x h=>hx x (lW h)) (by have:=np L k;omega);have CC:=np L k;have oB:=vf (recAt L k);refine bB ?_;refine ae (aG (i:=k) (size:=4) underlying24 ag rfl rfl rfl aa aB) rfl ?_;refine ae (dg 4 ag rfl aB aa (aH.cells (recAt L k)) (lS aa) rfl) rfl ?_;refine bg fun g7=>?_;refine bD ?_;refine ay rfl (Wg b _ YM aa) fun T4 c17=>?_;refine gw (bW cN rfl aV rfl aB cA aa aa) fun s8 uR=>?_;refine bM ?_;have e:dc b (L.take (k+1))=dc b (L.take k)++lH b (recAt L k):=SZ aa;have el:(dc b (L.take k)).length+(lH b (recAt L k)).length=(dc b (L.take (k+1))).length:=by rw[e,aX]
  rw[el];refine av ⟨_,aa,k+1,s8,uR,aa,rfl,bm,.skip (.skip (ax rfl (by rw[e,gv]) (.refl _)))⟩
 ·refine cD ?_;have zQ:k=L.length:=by omega
  subst zQ;rw[jN];refine aE ?_;exact⟨A5,c5,rfl,rfl⟩
def zig(d:Nat):Nat:=if d<9223372036854775808 then 2*d else 2*(18446744073709551615-d)+1
def TZ(z:Nat):Nat:=if z%2=1 then 18446744073709551615-z/2 else z/2
theorem T3{d:Nat}(h:d<18446744073709551616):zig d<18446744073709551616:=by unfold zig;split<;>omega
theorem ajL{d:Nat}(h:d<18446744073709551616):TZ (zig d)=d:=by
 unfold zig;split
 ·unfold TZ;rw[aw aa];omega
 ·unfold TZ;rw[aq aa];omega
theorem P4(a:Nat)(h:a<18446744073709551616):a ^^^ 18446744073709551615=18446744073709551615-a:=by
 have h1:(BitVec.ofNat 64 a ^^^ BitVec.allOnes 64).toNat=(~~~ (BitVec.ofNat 64 a)).toNat:=by rw[BitVec.xor_allOnes]
 rw[BitVec.toNat_xor,BitVec.toNat_not,BitVec.toNat_ofNat,BitVec.toNat_allOnes,jc (show a<2^64 from h)]at h1;exact h1
theorem agl(x:Nat)(h:x<18446744073709551616):
  bits .xor .u64 (IntKind.u64.wrap ((x:Int)*2)) (IntKind.u64.wrap (-((x:Int)/9223372036854775808)))=((zig x:Nat):Int):=by
 unfold zig;by_cases hx:x<9223372036854775808
 ·rw[aq hx];have e1:IntKind.u64.wrap ((x:Int)*2)=((2*x:Nat):Int):=by show((x:Int)*2)%18446744073709551616=_;omega
  have e2:IntKind.u64.wrap (-((x:Int)/9223372036854775808))=((0:Nat):Int):=by show(-((x:Int)/9223372036854775808))%18446744073709551616=_;omega
  rw[e1,e2,u64_xor _ _ aa aa,Nat.xor_zero]
 ·rw[aw hx];have e1:IntKind.u64.wrap ((x:Int)*2)=((2*x-18446744073709551616:Nat):Int):=by show((x:Int)*2)%18446744073709551616=_;omega
  have e2:IntKind.u64.wrap (-((x:Int)/9223372036854775808))=((18446744073709551615:Nat):Int):=by show(-((x:Int)/9223372036854775808))%18446744073709551616=_;omega
  rw[e1,e2,u64_xor _ _ aa aa,P4 _ aa];omega
theorem agk(x:Nat)(h:x<18446744073709551616):
  bits .xor .u64 ((x:Int)/2) (IntKind.u64.wrap (-(bits .and .u64 (x:Int) 1)))=((TZ x:Nat):Int):=by
 have ea:bits .and .u64 (x:Int) 1=((x%2:Nat):Int):=by
  have:=u64_and x 1 h aa;rw[Em]at this;exact this
 rw[ea];unfold TZ;by_cases hx:x%2=1
 ·rw[aq hx,hx];have e2:IntKind.u64.wrap (-((1:Nat):Int))=((18446744073709551615:Nat):Int):=by decide+kernel
  rw[e2,show((x:Int)/2)=((x/2:Nat):Int) from by omega,u64_xor _ _ aa aa,P4 _ aa]
 ·rw[aw hx,show x%2=0 from by omega];have e2:IntKind.u64.wrap (-((0:Nat):Int))=((0:Nat):Int):=by decide+kernel
  rw[e2,show((x:Int)/2)=((x/2:Nat):Int) from by omega,u64_xor _ _ aa aa,Nat.xor_zero]
theorem zsh(x:Nat):IntKind.u64.wrap ((x:Int)*2^min (1:Int).toNat IntKind.u64.bits)=IntKind.u64.wrap ((x:Int)*2):=by
 have e:min (1:Int).toNat IntKind.u64.bits=1:=by decide
 rw[e];rfl
theorem zhi(x:Nat):(x:Int).fdiv (2^min (63:Int).toNat IntKind.u64.bits)=(x:Int)/9223372036854775808:=by
 have e:min (63:Int).toNat IntKind.u64.bits=63:=by decide
 rw[e,wg _ aA];rfl
theorem zng(x:Nat):IntKind.u64.wrap (0-(x:Int)/9223372036854775808)=IntKind.u64.wrap (-((x:Int)/9223372036854775808)):=by rw[Int.zero_sub]
theorem aty(x:Nat)(hx:x<18446744073709551616):IntKind.u64.wrap ((BitVec.ofInt IntKind.u64.bits (IntKind.u64.wrap ((x:Int)*2)) ^^^ BitVec.ofInt IntKind.u64.bits (IntKind.u64.wrap (-((x:Int)/9223372036854775808)))).toNat:Int)=((zig x:Nat):Int):=agl x hx
set_option maxRecDepth 20000 in
theorem ars(x:Nat)(hx:x<18446744073709551616):a_ B w0 86 [.int .u64 x] F (fun r L=>r= .int .u64 (zig x)∧L=F):=by
 refine fw func86 9 [0] ?_;refine bM ?_;refine ae (gb rfl rfl aa (zsh x)) rfl ?_;refine aE ?_;refine ae (di rfl rfl aa (zhi x)) rfl ?_;refine ae (UL rfl (zng x)) rfl ?_;refine ae (ng rfl rfl (aty x hx)) rfl ?_;refine bI ?_;exact⟨rfl,rfl⟩
theorem zsr(x:Nat):(x:Int).fdiv (2^min (1:Int).toNat IntKind.u64.bits)=(x:Int)/2:=by
 have e:min (1:Int).toNat IntKind.u64.bits=1:=by decide
 rw[e,wg _ aA];rfl
theorem zan(x:Nat)(hx:x<18446744073709551616):IntKind.u64.wrap ((BitVec.ofInt IntKind.u64.bits (x:Int) &&& BitVec.ofInt IntKind.u64.bits 1).toNat:Int)=((x%2:Nat):Int):=by
 have:=u64_and x 1 hx aa;rw[Em]at this;exact this
theorem atx(x:Nat):IntKind.u64.wrap (0-((x%2:Nat):Int))=IntKind.u64.wrap (-((x%2:Nat):Int)):=by rw[Int.zero_sub]
theorem zax(x:Nat)(hx:x<18446744073709551616):IntKind.u64.wrap ((BitVec.ofInt IntKind.u64.bits ((x:Int)/2) ^^^ BitVec.ofInt IntKind.u64.bits (IntKind.u64.wrap (-((x%2:Nat):Int)))).toNat:Int)=((TZ x:Nat):Int):=by
 have h:=agk x hx;have ea:bits .and .u64 (x:Int) 1=((x%2:Nat):Int):=zan x hx;rw[ea]at h;exact h
theorem arq(x:Nat)(hx:x<18446744073709551616):a_ B w0 295 [.int .u64 x] F (fun r L=>r= .int .u64 (TZ x)∧L=F):=by
 refine fw func295 9 [0] ?_;refine bM ?_;refine ae (di rfl rfl aa (zsr x)) rfl ?_;refine aE ?_;refine ae (jZ rfl rfl (zan x hx)) rfl ?_;refine ae (UL rfl (atx x)) rfl ?_;refine ae (ng rfl rfl (zax x hx)) rfl ?_;refine bI ?_;exact⟨rfl,rfl⟩
def dlt(a b:Nat):Nat:=(a+(18446744073709551616-b))%18446744073709551616
theorem DC(a b:Nat):dlt a b<18446744073709551616:=sS _ aa
theorem abP{a b:Nat}(hb:b<18446744073709551616):IntKind.u64.wrap ((a:Int)-(b:Int))=((dlt a b:Nat):Int):=by
 show((a:Int)-b)%18446744073709551616=_;unfold dlt;omega
def qB:Nat→List aH→al
 |_,[]=>[]
 |was,x::L=>aS (zig (dlt x.1 was))++qB x.1 L
def uf(was:Nat)(L:List aH):Nat:=L.foldl (fun _ x=>x.1) was
theorem HX(x:aH):∀(L:List aH) (was:Nat),qB was (L++[x])=qB was L++aS (zig (dlt x.1 (uf was L)))
 |[],was=>by simp[qB,uf]
 |y::L,was=>by
  rw[nE,qB,qB,HX x L y.1,bV];rfl
theorem Ev(was:Nat)(L:List aH)(x:aH):uf was (L++[x])=x.1:=by simp[uf]
theorem XL{L:List aH}{k:Nat}(h:k<L.length):qB 0 (L.take (k+1))=qB 0 (L.take k)++aS (zig (dlt (recAt L k).1 (uf 0 (L.take k)))):=by
 rw[aZ h (0,0,[],[]),HX];rfl
theorem Sd{L:List aH}{k:Nat}(h:k<L.length):uf 0 (L.take (k+1))=(recAt L k).1:=by
 rw[aZ h (0,0,[],[]),Ev];rfl
theorem adn{L:List aH}(hx:∀x∈L,x.1<18446744073709551616):uf 0 L<18446744073709551616:=by
 rcases List.eq_nil_or_concat L with rfl|⟨M,x,rfl⟩
 ·simp[uf]
 ·rw[List.concat_eq_append,Ev];exact hx x ak
theorem Nd(a b:Nat):(aS (zig (dlt a b))).length≤10:=aT (T3 (DC a b))
theorem Dm:∀(L:List aH) (was:Nat),(qB was L).length≤10*L.length
 |[],was=>by simp[qB]
 |x::L,was=>by
  have h1:=Nd x.1 was;have h2:=Dm L x.1;rw[qB,aX,eh];omega
def run(x:UInt8):al→Nat
 |[]=>0
 |y::l=>if y=x then run x l+1 else 0
theorem S2(x:UInt8):∀l,run x l≤l.length
 |[]=>gj _
 |y::l=>by
  have:=S2 x l;unfold run;split<;>simp<;>omega
def ow:Option UInt8→al→al
 |_,[]=>[]
 |p,x::l=>if p=some x then ow (some x) l else x::(aS (1+run x l)++ow (some x) l)
theorem Dl(x:UInt8):∀l,ow (some x) l=ow none (l.drop (run x l))
 |[]=>rfl
 |y::l=>by
  unfold run;by_cases h:y=x
  ·subst h;rw[aq rfl,El,ow,aq rfl];exact Dl y l
  ·rw[aw h,tg,ow,ow,aw (by simpa using fun e=>h e.symm),aw ak]
theorem MJ:∀(l:al) (p:Option UInt8),l.length≤1000000000→(ow p l).length≤11*l.length
 |[],p,_=>by cases p<;>simp[ow]
 |x::l,p,h=>by
  simp only[eh]at h;have h1:=MJ l (some x) aa;have h2:=aT (x:=1+run x l) (by have:=S2 x l;omega);rw[ow];split
  ·simp only[eh];omega
  ·simp only[eh,aX];omega
def lv(L:List aH):al:=L.map (·.2.1)
theorem ru(L:List aH):(lv L).length=L.length:=by simp[lv]
theorem ED(L:List aH)(k:Nat):(recAt L k).2.1=(lv L).getD k 0:=by
 unfold recAt lv;simp only[bk,jt];cases L[k]? <;>rfl
theorem aic(L:List aH)(k:Nat):lv (L.drop k)=(lv L).drop k:=by simp[lv]
def ko(L:List aH):al:=qB 0 L++ow none (lv L)
theorem qW{L:List aH}(h:L.length≤1000000):(ko L).length≤21*L.length:=by
 have h1:=Dm L 0;have h2:=MJ (lv L) none (by rw[ru];omega);rw[ru]at h2;rw[ko,aX];omega
theorem vi:∀(L:List aH) (k:Nat),(cU L).drop (k*4)=cU (L.drop k)
 |L,0=>by simp
 |[],k+1=>by simp[cU]
 |x::L,k+1=>by
  have h:=vi L k;rw[El,←h];simp only[cU,jM];rw[j9,sQ (k*4) 4,←qj];rfl
theorem XK{l:al}(h:0<l.length):ow none l=(l.getD 0 0)::(aS (1+run (l.getD 0 0) (l.drop 1))++ow none (l.drop (1+run (l.getD 0 0) (l.drop 1)))):=by
 match l,h with
 |x::l,_=>
  rw[ow,aw ak,Dl];simp only[List.getD_cons_zero,El,tg];rw[sQ 1,El]
theorem Pb{x:UInt8}{l:al}{k:Nat}(h:k<l.length):run x (l.drop k)=if l.getD k 0=x then run x (l.drop (k+1))+1 else 0:=by
 rw[dw h 0,run]
theorem XQ(L:List aH)(hb:aL B w0 F 4 (.slice A L.length c) L.length (cU L))(hx:∀x∈L,x.1<18446744073709551616)(hl:L.length≤1000000):
  a_ B w0 47 [.slice A L.length c] F (fun r K=>∃A' c',r= .slice A' (ko L).length c'∧K= .own 5 1 A' (ko L).length c' (bv (ko L))::F):=by
 have Yy:=qW hl;refine fw func47 61 [0] ?_;refine bB ?_;refine aY 5 1 none ?_;refine tQ ?_;refine aD (fun zf zL zm=>∃(k:Nat) (A3:bj) (c3:Nat),(k≤L.length)∧L.length-k=zm∧Sub zf [(0,.slice A L.length c),(3,.slice A3 (qB 0 (L.take k)).length c3),(4,.int .u64 (uf 0 (L.take k))),(8,.slice A L.length c),(9,ah L.length),(10,ah k)]∧Wk zL (.own 5 1 A3 (qB 0 (L.take k)).length c3 (bv (qB 0 (L.take k)))::F)) _ ⟨0,none,0,bS _,rfl,bm,ax rfl rfl (.refl _)⟩ ?_;rintro _ _ _ ⟨k,A3,c3,hk,rfl,hs,hp⟩;refine aU hs hp ?_;clear hs hp;refine bB ?_;refine aj (fun pq=>?_) fun pq=>?_
 ·have YM:=KR hx (k:=k) aa;have fP:=adn (L:=L.take k) (fun x h=>hx x (lW h));have tz:=Dm (L.take k) 0;have Cc:=List.length_take_le k L;have oB:=vf (recAt L k);have e:=XL (L:=L) (k:=k) aa;have e2:=Sd (L:=L) (k:=k) aa;have D8:=Nd (recAt L k).1 (uf 0 (L.take k));have el:(qB 0 (L.take k)).length+(aS (zig (dlt (recAt L k).1 (uf 0 (L.take k))))).length=(qB 0 (L.take (k+1))).length:=by rw[e,aX]
  refine bB ?_;refine ae (aG (i:=k) (size:=4) underlying24 ag rfl rfl rfl aa aB) rfl ?_;refine ae (dg 4 ag rfl aB aa (aH.cells (recAt L k)) (lS aa) rfl) rfl ?_;refine bg fun g6=>?_;refine bP ?_;refine ae (dQ rfl rfl (abP fP)) rfl ?_;refine ai rfl (ars _ (DC _ _)) ?_;refine ay rfl (iP _ (T3 (DC _ _))) fun Ls Mw=>?_;refine gw (bW cN rfl aV rfl aB cA aa aa) fun A21 c21=>?_;refine c_ ?_;refine ve [0,3,4,8,9,10] ?_;rw[el];refine av ⟨_,aa,k+1,A21,c21,aa,rfl,bm,.skip (.skip (ax rfl (by rw[e,gv]) (.refl _)))⟩
 ·refine bD ?_;refine aD (fun zf zL zm=>∃(M:List aH) (m:Nat) (A0:bj) (c0:Nat) (pre:al) (A4:bj) (c4:Nat),(m=M.length∧m≤L.length∧aL B w0 F 4 (.slice A0 m c0) m (cU M)∧ko L=pre++ow none (lv M))∧m=zm∧Sub zf [(0,.slice A0 m c0),(3,.slice A4 pre.length c4)]∧Wk zL (.own 5 1 A4 pre.length c4 (bv pre)::F)) _ ⟨L,L.length,A,c,qB 0 (L.take k),A3,c3,⟨rfl,gj _,hb,by rw[fD aa];rfl⟩,rfl,bm,.refl _⟩ ?_;rintro _ _ _ ⟨M,m,A0,c0,pre,A4,c4,⟨hm,By,Qe,Eb⟩,rfl,hs,hp⟩;refine aU hs hp ?_;clear hs hp;have mG:pre.length≤(ko L).length:=by rw[Eb,aX];omega
  have hlv:(lv M).length=m:=by rw[ru,hm]
  refine bM ?_;refine aj (fun ku=>?_) fun ku=>?_
  ·refine bz ?_;refine aD (fun zf zL zm=>∃(i:Nat),(1≤i∧i≤m∧run ((lv M).getD 0 0) ((lv M).drop 1)=(i-1)+run ((lv M).getD 0 0) ((lv M).drop i))∧m-i=zm∧Sub zf [(0,.slice A0 m c0),(3,.slice A4 pre.length c4),(7,ah i)]∧Wk zL (.own 5 1 A4 pre.length c4 (bv pre)::F)) _ ⟨1,⟨gj _,aa,aa⟩,rfl,bm,.refl _⟩ ?_;rintro _ _ _ ⟨i,⟨hi1,him,tc⟩,rfl,hs,hp⟩;refine aU hs hp ?_;clear hs hp;refine bH ?_;refine Cw 16 43 [0,3,7] ((i:Int)<m∧((recAt M i).2.1.toNat:Int)=(recAt M 0).2.1.toNat) ?_ ?_
   ·refine bI ?_;refine m_ rfl rfl rfl (fun Bu=>?_) (fun Bu=>?_)
    ·refine bB ?_;refine bU (dv underlying62 rfl ag rfl aB aa rfl) rfl ?_;refine aE ?_;refine bU (fz ag rfl aB aa ((qv aa aA).trans rfl)) rfl ?_;refine bH ?_;refine bU (aG (i:=0) (size:=4) underlying24 ag rfl rfl rfl aa aB) rfl ?_;refine aE ?_;refine bU (dv underlying62 rfl ag rfl aB aa rfl) rfl ?_;refine aE ?_;refine bU (fz ag rfl aB aa ((qv aa aA).trans rfl)) rfl ?_;refine bH ?_;exact qD b_8
    ·refine bz ?_;exact qD b_8
   ·refine be ?_;refine aj (fun Yn=>?_) fun Yn=>?_
    ·have hq:(lv M).getD i 0=(lv M).getD 0 0:=by rw[←ED,←ED];exact qh.1 aa
     have hs:=Pb (x:=(lv M).getD 0 0) (l:=lv M) (k:=i) aa;rw[aq hq]at hs;refine bP ?_;refine av ⟨_,aa,i+1,⟨aa,aa,aa⟩,rfl,bm,.refl _⟩
    ·have hz:run ((lv M).getD 0 0) ((lv M).drop i)=0:=by
      by_cases hi:i<m
      ·rw[Pb aa,aw (fun hq=>Yn ⟨aa,by rw[ED,ED,hq]⟩)]
      ·rw[mj aa];rfl
     have hch:=XK (l:=lv M) aa;rw[tc,hz,show 1+(i-1+0)=i by omega,←aic]at hch;have hni:=aT (x:=i) aa;have asB:=ED M 0;have hcut:=Qe.cut (k:=i) aa;rw[vi]at hcut;refine bP ?_;refine ae (aG (i:=0) (size:=4) underlying24 ag rfl rfl rfl aa aB) rfl ?_;refine ae (dv underlying62 rfl ag rfl aB aa rfl) rfl ?_;refine ae (fz ag rfl aB aa ((qv aa aA).trans rfl)) rfl ?_;refine dK cN rfl rfl rfl rfl rfl (fun _=>rfl) aV aa aa ?_;intro _ A52 c52;refine be ?_;refine ay rfl (iP i aa) fun A55 c55=>?_;refine gw (bW cN rfl aV rfl aB cA aa aa) fun A56 c56=>?_;refine bB ?_;refine ae (bT (i:=i) (size:=4) underlying24 ag rfl rfl rfl aa) rfl ?_;refine aE ?_;refine ve [0,3] ?_;refine aE ?_;have el:pre.length+1+(aS i).length=(pre++((lv M).getD 0 0::aS i)).length:=by simp;omega
     rw[el];refine av ⟨_,aa,M.drop i,m-i,_,_,pre++((lv M).getD 0 0::aS i),A56,c56,⟨by rw[iN,hm],aa,hcut,by rw[Eb,hch];simp⟩,rfl,bm,.skip (ax rfl (by simp[bv,asB]) (.refl _))⟩
  ·refine cD ?_;have hM:M=[]:=mi aa;subst hM;have asm:ko L=pre:=by rw[Eb];simp[lv,ow]
   rw[asm];refine aE ?_;exact⟨A4,c4,rfl,rfl⟩
theorem anp{l l2:al}(h1:aL B w0 F 1 (.slice A n c) n (bv l))(h2:aL B w0 F 1 (.slice A2 n2 c2) n2 (bv l2)):
  a_ B w0 11 [.slice A n c,.slice A2 n2 c2] F (fun r L=>r= .bool (decide (l=l2))∧L=F):=by
 refine fw func11 10 [0,1] ?_;refine bM ?_;refine ae (pg underlying27 underlying5 underlying9 rfl aB) rfl ?_;refine aE ?_;refine ae (pg underlying27 underlying5 underlying9 rfl aB) rfl ?_;refine bB ?_;exact⟨rfl,rfl⟩
theorem b_1{P:Prop}(h:P:=by(first|rfl|exact eU (by first|exact .inl (by omega)|exact .inr (.inl jB)|exact⟨fun h=>.inr (.inr (by omega)),fun h=>by rcases h with h|h|h<;>first|omega|exact absurd h jB⟩)|exact eT (by first|exact .inl (by omega)|exact .inr (.inl jB)|exact⟨fun h=>.inr (.inr (by omega)),fun h=>by rcases h with h|h|h<;>first|omega|exact absurd h jB⟩)|exact dU (by first|exact .inl (by omega)|exact .inr (.inl jB)|exact⟨fun h=>.inr (.inr (by omega)),fun h=>by rcases h with h|h|h<;>first|omega|exact absurd h jB⟩)|exact oG (by first|exact .inl (by omega)|exact .inr (.inl jB)|exact⟨fun h=>.inr (.inr (by omega)),fun h=>by rcases h with h|h|h<;>first|omega|exact absurd h jB⟩))):P:=h
def uj(x:aH):Prop:=4000<x.2.2.1.length∨4000<x.2.2.2.length
instance (x:aH):Decidable (uj x):=inferInstanceAs (Decidable (_∨_))
theorem amN(x:aH):a_ B w0 80 [.agg (aH.cells x).toArray] F (fun r L=>r= .bool (decide (uj x))∧L=F):=by
 refine fw func80 13 [0] ?_;refine be ?_;refine bf fun g1=>?_;refine bI ?_;refine bR 10 12 [] ((4000:Int)<(x.2.2.1.length:Int)∨(4000:Int)<(x.2.2.2.length:Int)) ?_ ?_
 ·refine bI ?_;refine aI rfl rfl rfl (fun h7=>?_) (fun h7=>?_)
  ·refine bM ?_;exact aM b_8
  ·refine b8 ?_;exact aM b_8
 ·refine b8 ?_;refine ao (L':=F) (.skip (.refl _)) ?_;refine aE ?_;exact⟨by rw[z_.2 (show((4000:Int)<(x.2.2.1.length:Int)∨(4000:Int)<(x.2.2.2.length:Int))↔uj x by unfold uj;omega)],rfl⟩
theorem ahV(L:List aH)(hb:aL B w0 F 4 (.slice A L.length c) L.length (cU L))(hl:L.length≤1000000):
  a_ B w0 142 [.slice A L.length c,.func (.func 80) #[] #[]] F (fun r K=>∃v:Int,r=ah v∧K=F∧(0≤v↔∃x∈L,uj x)):=by
 refine fw func142 19 [0,1] ?_;refine dX ?_;refine aD (fun zf zL zm=>∃(k:Nat),(k≤L.length∧∀i,i<k→¬uj (recAt L i))∧L.length-k=zm∧Sub zf [(0,.slice A L.length c),(1,.func (.func 80) #[] #[]),(7,ah L.length),(8,ah k)]∧Wk zL (F)) _ ⟨0,⟨bS _,fun i h=>absurd h aa⟩,rfl,bm,.refl _⟩ ?_;rintro _ _ _ ⟨k,⟨hk,NL⟩,rfl,hs,hp⟩;refine aU hs hp ?_;clear hs hp;refine bB ?_;refine aj (fun h9=>?_) fun h9=>?_
 ·refine i_ ?_;refine ae (aG (i:=k) (size:=4) underlying24 ag rfl rfl rfl aa aB) rfl ?_;refine ae (dg 4 ag rfl aB aa (aH.cells (recAt L k)) (lS aa) rfl) rfl ?_;refine uK arM rfl rfl (amN (recAt L k)) rfl ?_;rintro _ _ ⟨rfl,cJ⟩;obtain rfl:=cJ.symm;refine be ?_;refine aj (fun kH=>?_) fun kH=>?_
  ·refine c_ ?_;exact⟨_,rfl,rfl,by constructor;exact fun _=>⟨_,bh (show k<L.length by omega) (0,0,[],[]),kH⟩;exact fun _=>aa⟩
  ·refine bD ?_;refine av ⟨_,aa,k+1,⟨aa,fun i h=>by rcases Nat.lt_succ_iff_lt_or_eq.1 h with h|h;exact NL i h;exact h▸kH⟩,rfl,bm,.refl _⟩
 ·refine cD ?_;refine⟨_,rfl,rfl,fun h=>absurd h aa,fun⟨x,hx,hlx⟩=>?_⟩;obtain⟨i,hi,rfl⟩:=j8 hx;have:=NL i aa;unfold recAt at this;rw[bk,fo hi]at this;exact absurd hlx this
theorem QX(L:List aH)(hb:aL B w0 F 4 (.slice A L.length c) L.length (cU L))(hl:L.length≤1000000):
  a_ B w0 79 [.slice A L.length c,.func (.func 80) #[] #[]] F (fun r K=>r= .bool (decide (∃x∈L,uj x))∧K=F):=by
 refine fw func79 9 [0,1] ?_;refine bP ?_;refine ba aoV rfl (ahV L hb hl) rfl ?_;rintro _ _ ⟨v,rfl,cJ,hv⟩;obtain rfl:=cJ.symm;refine bB ?_;exact⟨by rw[z_.2 hv],rfl⟩
def cO(L:List aH):Int:=if 20000<L.length∨(∃x∈L,uj x)∨1048576<dF L then 6 else 0
theorem F9:∀{L:List aH},(¬∃x∈L,uj x)→dF L≤8016*L.length
 |[],_=>by simp[dF]
 |x::L,h=>by
  have h1:=F9 (L:=L) fun⟨y,hy,hl⟩=>h ⟨y,vR,hl⟩;have h2:¬uj x:=fun hl=>h ⟨x,ak,hl⟩;unfold uj at h2;rw[Bd,eh];unfold aH.w;omega
theorem oS(L:List aH)(hb:aL B w0 F 4 (.slice A L.length c) L.length (cU L)):
  a_ B w0 42 [.slice A L.length c] F (fun r K=>r=ah (cO L)∧K=F):=by
 refine fw func42 15 [0] ?_;refine bM ?_;refine bR 12 14 [] (20000<L.length∨(∃x∈L,uj x)∨1048576<dF L) ?_ ?_
 ·refine b8 ?_;refine aI rfl rfl rfl (fun h6=>?_) (fun h6=>?_)
  ·refine be ?_;refine ai rfl (QX L hb aa) ?_;refine be ?_;refine aI rfl rfl rfl (fun jB=>?_) (fun jB=>?_)
   ·refine be ?_;refine ai rfl (agc L hb (by have:=F9 jB;omega) aa) ?_;refine bH ?_;exact aM b_1
   ·refine bH ?_;exact aM b_1
  ·refine bD ?_;exact aM b_1
 ·refine be ?_;refine aj (fun jC=>?_) fun jC=>?_
  ·refine bM ?_;exact⟨by rw[cO,aq jC],rfl⟩
  ·refine bP ?_;exact⟨by rw[cO,aw jC],rfl⟩
def bx(l:bc):cV:=l.map fun(n:Nat)=>Value.int .i64 (n:Int)
@[simp] theorem akx(l k:bc):bx (l++k)=bx l++bx k:=by simp[bx]
@[simp] theorem aky(l:bc):(bx l).length=l.length:=by simp[bx]
theorem adN(l:bc):∀u∈bx l,u.oneCell'=true:=by
 intro u hu;obtain⟨b,_,rfl⟩:=pS.1 hu;rfl
theorem fE{l:bc}{k:Nat}(h:k<l.length):(bx l)[k*1]? =some (ah (l.getD k 0:Nat)):=by
 simp[bx,List.getD,fo h]
theorem oY{P:Prop}(h:P:=by(exact dU (by first|omega|simp_all))):P:=h
theorem vy{P:Prop}(h:P:=by(exact eU (by first|omega|simp_all))):P:=h
theorem sG{P:Prop}(h:P:=by(simp[bx])):P:=h
theorem BJ:type_of% @List.drop_length:= @List.drop_length
def tb(S:Nat):Nat→Nat→bc→bc
 |rL,_,[]=>[rL]
 |rL,hv,n::l=>if hv+n≤S then tb S (rL+1) (hv+n) l else rL::tb S 1 n l
def jA(S:Nat):bc→bc
 |[]=>[]
 |n::l=>tb S 1 n l
def lens(b:Bool)(L:List aH):bc:=L.map fun x=>(lH b x).length
theorem et(b:Bool)(L:List aH):(lens b L).length=L.length:=by simp[lens]
theorem Y8{b:Bool}{L:List aH}{k:Nat}(h:k<L.length):(lens b L).drop k=(lH b (recAt L k)).length::(lens b L).drop (k+1):=by
 rw[dw (l:=lens b L) (by rw[et];exact h) 0];congr 1;unfold recAt lens;simp only[bk,jt,fo h];rfl
theorem ahx{S rL hv n:Nat}{l:bc}(h:hv+n≤S):tb S rL hv (n::l)=tb S (rL+1) (hv+n) l:=by rw[tb,aq h]
theorem acr{S rL hv n:Nat}{l:bc}(h:¬hv+n≤S):tb S rL hv (n::l)=rL::jA S (n::l):=by rw[tb,aw h];rfl
theorem dP.forget{P:Program}{B:Nat}{w0:World}{f:FuncId}{args:cV}{F:aR}{n:Nat}{xs:cV}{e:TypeId}(h:dP P B w0 f args F (fun r L=>∃A' c',r= .slice A' n c'∧L= .own e 1 A' n c' xs::F)):dP P B w0 f args F (fun r L=>∃A' c',r= .slice A' n c'∧L=F):=fun w hw=>
 (h w hw).mono fun e w' ⟨v,L',he,⟨A',c',hr,hL⟩,hs⟩=>by subst hL;exact⟨v,F,he,⟨A',c',hr,rfl⟩,hs.tail⟩
theorem acp(size:Int)(b:Bool)(L:List aH)(hb:aL B w0 F 4 (.slice A L.length c) L.length (cU L))(hx:∀x∈L,x.1<18446744073709551616)(hw:dF L≤1000000000)(S:Nat)(hS:(S:Int)=max 1 size)(hS2:S≤9223372036854775807):
  a_ B w0 43 [ah size,.bool b,.slice A L.length c] F (fun r K=>∃A' c',r= .slice A' (jA S (lens b L)).length c'∧K= .own 3 1 A' (jA S (lens b L)).length c' (bx (jA S (lens b L)))::F):=by
 have hlw:=Ex L;have wR:=et b L;refine fw func43 49 [0,1,2] ?_;refine bB ?_;refine aY 3 1 none ?_;refine tQ ?_;refine aD (fun zf zL zm=>∃(k:Nat) (o:bc) (hv:Nat) (A7:bj) (c7:Nat),(k≤L.length∧hv≤2*dF (L.take k)∧o.length≤k∧((k=0∧o=[])∨(∃op rL,o=op++[rL]∧rL≤k∧jA S (lens b L)=op++tb S rL hv ((lens b L).drop k))))∧L.length-k=zm∧Sub zf [(0,ah size),(1,.bool b),(7,.slice A7 o.length c7),(8,ah hv),(12,.slice A L.length c),(13,ah L.length),(14,ah k)]∧Wk zL (.own 3 1 A7 o.length c7 (bx o)::F)) _ ⟨0,[],0,none,0,⟨bS _,bS _,gj _,.inl ⟨rfl,rfl⟩⟩,rfl,bm,ax rfl rfl (.refl _)⟩ ?_;rintro _ _ _ ⟨k,o,hv,A7,c7,⟨hk,hhv,Kl,hG⟩,rfl,hs,hp⟩;refine aU hs hp ?_;clear hs hp;refine bB ?_;refine aj (fun kS=>?_) fun kS=>?_
 ·have YM:=KR hx (k:=k) aa;have RZ:=arl (L:=L) (k:=k) aa;have hrb:=yL (b:=b) YM aa;have hwt:=oU (L:=L) (k:=k) aa;have CC:=np L (k+1);have oB:=vf (recAt L k);have Gk:=Y8 (b:=b) (L:=L) (k:=k) aa;obtain⟨q,hq⟩:=cR ((lH b (recAt L k)).length);rw[←hq]at hrb Gk;refine bB ?_;refine ae (aG (i:=k) (size:=4) underlying24 ag rfl rfl rfl aa aB) rfl ?_;refine ae (dg 4 ag rfl aB aa (aH.cells (recAt L k)) (lS aa) rfl) rfl ?_;refine bg fun g10=>?_;refine bD ?_;refine ay rfl ((Wg b _ YM aa).forget) fun Ls Mw=>?_;refine aE ?_;rw[←hq];refine bH ?_;refine d_ (fun zf zL=>∃(op:bc) (rL Vp:Nat) (A8:bj) (c8:Nat),(Vp+q≤2*dF (L.take (k+1))∧rL≤k∧op.length≤k∧jA S (lens b L)=op++tb S (rL+1) (Vp+q) ((lens b L).drop (k+1)))∧Sub zf [(0,ah size),(1,.bool b),(7,.slice A8 (op.length+1) c8),(8,ah Vp),(11,ah q),(12,.slice A L.length c),(13,ah L.length),(14,ah k)]∧Wk zL (.own 3 1 A8 (op.length+1) c8 (bx op++[ah rL])::F)) ?_ ?_
  ·refine be ?_;refine bR 11 32 [0,1,7,8,11,12,13,14] ((o.length:Int)=0∨max 1 size<(hv:Int)+q) ?_ ?_
   ·refine b8 ?_;refine aI rfl rfl rfl (fun vW=>?_) (fun vW=>?_)
    ·refine bM ?_;refine ae (JW rfl rfl) rfl ?_;refine bH ?_;exact aM oY
    ·refine bB ?_;exact aM vy
   ·refine be ?_;refine aj (fun Bu=>?_) fun Bu=>?_
    ·refine bH ?_;refine dK fM rfl rfl rfl rfl rfl (fun _=>rfl) aV aa aa ?_;intro _ Lt c35;refine bB ?_;have hG2:jA S (lens b L)=o++tb S (0+1) (0+q) ((lens b L).drop (k+1)):=by
      rcases hG with⟨h1,h2⟩|⟨op,rL,h1,h2,h3⟩
      ·subst h1;subst h2;have:lens b L=q::(lens b L).drop 1:=by rw[←Gk];rfl
       conv=>lhs;rw[this]
       simp[jA]
      ·rw[h3,Gk,acr (by(have:o.length≠0:=(by simp[h1]);omega)),h1];simp[jA]
     exact bC ⟨o,0,0,Lt,c35,⟨aa,bS _,Kl,hG2⟩,bm,.skip (.refl _)⟩
    ·obtain⟨op,rL,ho,acK,hG3⟩:∃op rL,o=op++[rL]∧rL≤k∧jA S (lens b L)=op++tb S rL hv ((lens b L).drop k):=by
      rcases hG with⟨h1,h2⟩|h
      ·subst h2;exact absurd (Or.inl rfl) Bu
      ·exact h
     rw[Gk,ahx aa]at hG3;have aqo:o.length=op.length+1:=by rw[ho];simp
     refine aE ?_;exact bC ⟨op,rL,hv,A7,c7,⟨aa,acK,aa,hG3⟩,bm,.skip (ax aqo (by subst ho;simp[bx]) (.refl _))⟩
  ·rintro _ _ ⟨op,rL,Vp,A8,c8,⟨hh2,hcn,hop,hGG⟩,hs,hp⟩;refine aU hs hp ?_;clear hs hp;refine bI ?_;refine ae (dQ rfl rfl (r:=(op.length:Int)) ((bG aa aa).trans aa)) rfl ?_;refine ae (aG (i:=op.length) (size:=1) underlying53 ag rfl rfl rfl aa aB) rfl ?_;refine ae (au (v:=ah rL) ag rfl aB aa sG) rfl ?_;refine aE ?_;refine ae (aG (i:=op.length) (size:=1) underlying53 ag rfl rfl rfl aa aB) rfl ?_;refine i_ ?_;have el:op.length+1=(op++[rL+1]).length:=by simp
   rw[el];refine av ⟨_,aa,k+1,op++[rL+1],Vp+q,A8,c8,⟨aa,aa,bO,.inr ⟨op,rL+1,rfl,aa,hGG⟩⟩,rfl,bm,ax rfl (by rw[cE,KZ _ _ _ _ ak];simp[bx]) (.refl _)⟩
 ·refine cD ?_;have zQ:k=L.length:=by omega
  have hoG:o=jA S (lens b L):=by
   rcases hG with⟨h1,h2⟩|⟨op,rL,h1,h2,h3⟩
   ·have:lens b L=[]:=mi aa;rw[this,h2];rfl
   ·rw[h3,mj aa,h1];rfl
  rw[←hoG];refine aE ?_;exact⟨A7,c7,rfl,rfl⟩
def CU(S:Nat):bc→bc→Prop
 |l,[]=>l=[]
 |l,n::g=>1≤n∧n≤l.length∧((l.take n).sum≤S∨n=1)∧(n<l.length→S<(l.take n).sum+l.getD n 0)∧CU S (l.drop n) g
theorem DU(S:Nat):∀(l p:bc) (hv:Nat),1≤p.length→hv=p.sum→(hv≤S∨p.length=1)→CU S (p++l) (tb S p.length hv l)
 |[],p,hv,h1,h2,h3=>by
  rw[tb,gk];exact⟨h1,gj _,by rw[jN,←h2];exact h3,fun h=>absurd h (Nat.lt_irrefl _),by rw[BJ];rfl⟩
 |n::l,p,hv,h1,h2,h3=>by
  rw[tb];split
  ·rename_i h;have:=DU S l (p++[n]) (hv+n) ak (by rw[wj,h2];simp) (.inl h);rw[aX,qg,bV]at this;exact this
  ·rename_i h;refine⟨h1,ak,by rw[yo,←h2];exact h3,fun _=>?_,?_⟩
   ·rw[yo,←h2];simp[List.getD];omega
   ·rw[BI];exact DU S l [n] n ak ak (.inr rfl)
theorem kr(S:Nat):∀l,CU S l (jA S l)
 |[]=>rfl
 |n::l=>DU S l [n] n ak ak (.inr rfl)
theorem Kf(S:Nat):∀(l:bc) (rL hv:Nat),(tb S rL hv l).length≤l.length+1
 |[],_,_=>by simp[tb]
 |n::l,rL,hv=>by
  rw[tb];split
  ·have:=Kf S l (rL+1) (hv+n);simp;omega
  ·have:=Kf S l 1 n;simp;omega
theorem mU(S:Nat):∀l,(jA S l).length≤l.length
 |[]=>by simp[jA]
 |n::l=>by have:=Kf S l 1 n;simp[jA];omega
theorem E'(b:Bool):∀L,(dc b L).length=(lens b L).sum
 |[]=>rfl
 |x::L=>by
  have h:=E' b L;unfold dc lens at h⊢;rw[jM,aX,h];simp
theorem Jq:∀(L:List aH) (k:Nat),dF (L.drop k)≤dF L:=fun L k=>by
 have h:dF L=dF (L.take k)+dF (L.drop k):=by
  rw[dF,dF,dF,←wj,←jd,jO]
 omega
theorem AU:∀(L:List aH) (k:Nat),(cU L).take (k*4)=cU (L.take k)
 |L,0=>by simp[cU]
 |[],k+1=>by simp[cU]
 |x::L,k+1=>by
  have h:=AU L k;rw[ri];simp only[cU,jM]at h⊢;rw[←h,j9,sQ (k*4) 4,Oe,fD (by simp[aH.cells])];simp[aH.cells]
def Jc(b:Bool)(s:Cs):Cs:=if b=true then s.lX.eJ else s
def dZ(b:Bool)(s:Cs):aH×Cs:=
 ((if b=true then s.num else 0,if b=true then s.lX.byte else 0,(Jc b s).text 4000,((Jc b s).ey 4000).text 4000),((Jc b s).ey 4000).ey 4000)
def ot(b:Bool):Nat→Cs→List aH→List aH×Int
 |0,_,out=>(out,0)
 |f+1,s,out=>if s.left=0 then (out,0) else if (dZ b s).2.e≠0 then ([],(dZ b s).2.e) else ot b f (dZ b s).2 (out++[(dZ b s).1])
theorem cu.Jc{b:Bool}{s:Cs}(h:cu s):cu (Jc b s):=by
 unfold Proofs.YtaodmbolhoafcaaGreatDoor.Jc;split
 ·exact h.lX.eJ
 ·exact h
theorem cu.dZ{b:Bool}{s:Cs}(h:cu s):cu (dZ b s).2:=h.Jc.ey.ey
theorem KL(s:Cs):s.lX.b=s.b:=Cs.cK _ _ _
theorem JK(s:Cs):s.eJ.b=s.b:=Cs.cK _ _ _
theorem vp(s:Cs)(m:Int):(s.ey m).b=s.b:=Cs.cK _ _ _
theorem aeZ(b:Bool)(s:Cs):(Jc b s).b=s.b:=by unfold Jc;split<;>simp[KL,JK]
theorem aiU(b:Bool)(s:Cs):(dZ b s).2.b=s.b:=by unfold dZ;simp[vp,aeZ]
theorem aeH(b:Bool)(s:Cs):∃a e,(dZ b s).2=⟨s.b,a,e⟩:=⟨_,_,by rw[←aiU b s]⟩
def aH.fits(x:aH):Prop:=x.1<18446744073709551616∧x.2.2.1.length≤4000∧x.2.2.2.length≤4000
theorem ZP{b:Bool}{s:Cs}(h:(dZ b s).2.e=0):nQ s (dZ b s).2 (lH b (dZ b s).1)∧(dZ b s).1.fits∧(b=false→(dZ b s).1.1=0∧(dZ b s).1.2.1=0):=by
 obtain⟨h2,l2⟩:=Cs.yT (s:=(Jc b s).ey 4000) h;obtain⟨h1,l1⟩:=Cs.yT (s:=Jc b s) h2.e0;cases b with
 |false=>
  refine⟨?_,⟨?_,?_,?_⟩,fun _=>⟨rfl,rfl⟩⟩
  ·have:=h1.trans h2;simpa[lH,fQ,dZ,Jc]using this
  ·simp[dZ]
  ·simp only[dZ];omega
  ·simp only[dZ];omega
 |true=>
  have h0:(s.lX.eJ).e=0:=h1.e0;have hb:=Cs.abl h0;obtain⟨hn,ln⟩:=Cs.ain hb.e0;refine⟨?_,⟨?_,?_,?_⟩,fun h=>jY⟩
  ·have:=((hn.trans hb).trans h1).trans h2;simpa[lH,fQ,dZ,Jc]using this
  ·simpa[dZ]using ln
  ·simp only[dZ];omega
  ·simp only[dZ];omega
def norm(b:Bool)(x:aH):aH:=if b=true then x else (0,0,x.2.2.1,x.2.2.2)
theorem aeG{b:Bool}{s:Cs}{x:aH}{r:al}(h0:s.e=0)(hx:x.fits)(hr:s.rest=lH b x++r):(dZ b s).1=norm b x∧nQ s (dZ b s).2 (lH b x):=by
 obtain⟨LK,hx2,hx3⟩:=hx;have hm:(4000:Int)≤9223372036854775807:=by decide
 cases b with
 |false=>
  have u5:s.rest=ft x.2.2.1++(ft x.2.2.2++r):=by rw[hr];simp[lH,fQ]
  obtain⟨t1,d1⟩:=Cs.rH (m:=4000) h0 aa hm u5;obtain⟨t2,d2⟩:=Cs.rH (m:=4000) d1.e1 aa hm (d1.cF u5);refine⟨?_,?_⟩
  ·simp only[dZ,norm,Jc];simp[t1,t2]
  ·have:=d1.trans d2;simpa[dZ,Jc,lH,fQ]using this
 |true=>
  have u5:s.rest=aS x.1++(x.2.1::(ft x.2.2.1++(ft x.2.2.2++r))):=by rw[hr];simp[lH,fQ]
  obtain⟨n1,dn⟩:=Cs.V6 h0 LK u5;have vZ:=dn.cF u5;obtain⟨b1,db⟩:=Cs.l7 dn.e1 vZ;have hr3:=db.cF (p:=[x.2.1]) vZ;obtain⟨t1,d1⟩:=Cs.rH (m:=4000) db.e1 aa hm hr3;obtain⟨t2,d2⟩:=Cs.rH (m:=4000) d1.e1 aa hm (d1.cF hr3);refine⟨?_,?_⟩
  ·simp only[dZ,norm,Jc];simp[t1,t2,n1,b1]
  ·have:=((dn.trans db).trans d1).trans d2;simpa[dZ,Jc,lH,fQ]using this
theorem OX(b:Bool)(x:aH):2≤(lH b x).length:=by
 have h1:=Nc x.2.2.1;have h2:=Nc x.2.2.2;unfold lH;rw[aX,aX];omega
theorem nK(s:Cs):s.rest.length=s.left:=by simp[Cs.rest,Cs.left]
theorem Fj{b:Bool}{s:Cs}(h:(dZ b s).2.e=0):(dZ b s).2.left+2≤s.left:=by
 have h1:=(ZP h).1.rest;have h2:=OX b (dZ b s).1;have:=dC List.length h1;rw[aX,nK,nK]at this;omega
theorem AR{b:Bool}:∀(f:Nat) (L:List aH) (s:Cs) (out:List aH),s.e=0→s.left<f→(∀x∈L,x.fits)→s.rest=dc b L→ot b f s out=(out++L.map (norm b),0)
 |0,L,s,out,_,hf,_,_=>absurd hf aa
 |f+1,[],s,out,h0,hf,_,hr=>by
  have:s.left=0:=by rw[←nK,hr];rfl
  unfold ot;rw[aq this];simp
 |f+1,x::L,s,out,h0,hf,hx,hr=>by
  have u5:s.rest=lH b x++dc b L:=by rw[hr];simp[dc]
  obtain⟨h1,h2⟩:=aeG h0 (hx x ak) u5;have hl:¬s.left=0:=by
   have:=OX b x;rw[←nK,u5,aX];omega
  have he:(dZ b s).2.e=0:=h2.e1;have acX:=Fj he;unfold ot;rw[aw hl,aw Ma,AR f L _ _ he aa (fun y hy=>hx y vR) (h2.cF u5),h1];simp
theorem aeu(b:Bool)(ho:cu s)(hb:aL B w0 F 1 (.slice A s.b.length c) s.b.length (bv s.b)):
  a_ B w0 273 [.agg #[bq g],.bool b] (Cv g A c s::F) (fun r L=>r= .agg (aH.cells (dZ b s).1).toArray∧L=Cv g A c (dZ b s).2::F):=by
 have qf:∀(s':Cs),s'.b=s.b→aL B w0 F 1 (.slice A s'.b.length c) s'.b.length (bv s'.b):=fun s' h=>by rw[h];exact hb
 refine fw func273 23 [0,1] ?_;refine be ?_;refine bf fun g2=>?_;refine bg fun g4=>?_;refine be ?_;refine d_ (fun zf zL=>Sub zf [(2,bq g2),(4,bq g4)]∧Wk zL (Cv g A c (Jc b s):: .bE g4 62 [.int .u64 (if b=true then s.num else 0:Nat),.int .u8 ((if b=true then s.lX.byte else 0:UInt8).toNat:Int),.string ⟨#[]⟩,.string ⟨#[]⟩]:: .bE g2 366 [bq g]::F)) ?_ ?_
 ·refine bI ?_;refine h_ (fun h5=>?_) fun h5=>?_
  ·subst h5;refine b8 ?_;refine ai rfl ((abB ho (.cons (.cons hb))).perm Cj) ?_;refine bD ?_;refine ai rfl (ov ho.lX (.cons (.cons (qf _ (KL s))))) ?_;refine bH ?_;exact bC ⟨bm,.refl _⟩
  ·subst h5;refine aE ?_;exact bC ⟨bm,.dE Cj⟩
 ·rintro _ _ ⟨hs,hp⟩;refine aU hs hp ?_;clear hs hp;refine b8 ?_;refine ai rfl (Cr ho.Jc (.cons (.cons (qf _ (aeZ b s)))) aa aa) ?_;refine bM ?_;refine ai rfl (Cr ho.Jc.ey (.cons (.cons (qf _ ((vp _ _).trans (aeZ b s))))) aa aa) ?_;refine dm ?_;refine I8 rfl rfl ag aV gD (.cons (.skip (.skip (.refl _)))) ?_;exact⟨rfl,rfl⟩
def qQ(b:Bool)(l:al):List aH×Int:=ot b (l.length+1) ⟨l,0,0⟩ []
theorem AQ{b:Bool}{f:Nat}{s:Cs}{o:List aH}(h:s.left=0):ot b (f+1) s o=(o,0):=by unfold ot;rw[aq h]
theorem AP{b:Bool}{f:Nat}{s:Cs}{o:List aH}(h:¬s.left=0)(he:(dZ b s).2.e≠0):ot b (f+1) s o=([],(dZ b s).2.e):=by unfold ot;rw[aw h,aq he]
theorem E_{b:Bool}{f:Nat}{s:Cs}{o:List aH}(h:¬s.left=0)(he:¬(dZ b s).2.e≠0):ot b (f+1) s o=ot b f (dZ b s).2 (o++[(dZ b s).1]):=by conv=>lhs;unfold ot;rw[aw h,aw he]
theorem ZK(o:List aH)(x:aH):cU (o++[x])=cU o++aH.cells x:=by simp[cU]
theorem OU{l:al}(b:Bool)(hb:fq B w0 F A c l)(hl:l.length≤1000000000):
  a_ B w0 231 [.bool b,.slice A l.length c] F (fun r L=>∃A' c',r= .tuple #[.slice A' (qQ b l).1.length c',ah (qQ b l).2]∧L= .own 62 4 A' (qQ b l).1.length c' (cU (qQ b l).1)::F):=by
 refine fw func231 31 [0,1] ?_;refine bP ?_;refine eK rfl (mT hb aa) fun g11 tE xl=>?_;refine ae (eG [(0,_)] [_] rfl rfl ag) rfl ?_;refine bg fun g6=>?_;refine b8 ?_;refine aY 62 4 none ?_;refine bB ?_;refine aD (fun zf zL zm=>∃(a:Nat) (o:List aH) (A7:bj) (c7:Nat) (m:Nat),(a≤l.length∧l.length-a<m∧o.length+(l.length-a)≤l.length∧ot b m ⟨l,a,0⟩ o=qQ b l)∧m=zm∧Sub zf [(0,.bool b),(6,bq g6),(7,.slice A7 o.length c7)]∧Wk zL (Cv g11 tE xl ⟨l,a,0⟩:: .own 62 4 A7 o.length c7 (cU o):: .bE g6 366 [bq g11]:: .own 5 1 tE l.length xl (bv l)::F)) _ ⟨0,[],none,0,l.length+1,⟨bS _,aa,ak,rfl⟩,rfl,bm,.dE Cj⟩ ?_;rintro _ _ _ ⟨a,o,A7,c7,m,⟨GP,ham,Kl,hG⟩,rfl,hs,hp⟩;refine aU hs hp ?_;clear hs hp;obtain⟨f,rfl⟩:∃f,m=f+1:=⟨m-1,aa⟩
 have ho:cu ⟨l,a,0⟩:=⟨GP,cZ⟩
 have akj:Cs.left ⟨l,a,0⟩=l.length-a:=rfl;obtain⟨a',e',Bz⟩:=aeH b ⟨l,a,0⟩;have oB:=vf (dZ b ⟨l,a,0⟩).1;refine bI ?_;refine ai rfl (JN ho aB) ?_;refine bH ?_;refine aj (fun kH=>?_) fun kH=>?_
 ·refine bD ?_;refine ai rfl (aeu b ho aB) ?_;rw[Bz];refine bg fun g8=>?_;refine bM ?_;refine ai rfl (gO.perm swp) ?_;refine bP ?_;refine aj (fun oh=>?_) fun oh=>?_
  ·refine bI ?_;refine ve [4,5] ?_;refine bD ?_;have hz:qQ b l=([],e'):=by rw[←hG,AP aa (by rw[Bz];exact oh),Bz]
   rw[hz];refine aC 62 4 none ?_;refine ao (L':=.own 62 4 none 0 0 []::F) (.cons (.skip (.skip (.skip (.skip (.skip (.refl _))))))) ?_;refine aE ?_;exact⟨none,0,rfl,rfl⟩
  ·have he0:e'=0:=j0.1 oh;subst he0;have hG2:=E_ (b:=b) (f:=f) (s:=⟨l,a,0⟩) (o:=o) aa (by rw[Bz];simp);rw[hG,Bz]at hG2;have acX:=Fj (b:=b) (s:=⟨l,a,0⟩) (by rw[Bz]);have ho':=ho.dZ (b:=b);rw[Bz]at acX ho';have asd:a'≤l.length:=ho'.at_;have asz:l.length-a'+2≤l.length-a:=acX;refine bI ?_;refine rJ WD rfl rfl rfl aa cA rfl rfl rfl (fun _=>rfl) aV aa aa ?_;intro _ A29 c29;refine aE ?_;refine ve [0,6,7] ?_;refine aE ?_;have el:o.length+1=(o++[(dZ b ⟨l,a,0⟩).1]).length:=by simp
   rw[el];refine av ⟨_,aa,a',o++[(dZ b ⟨l,a,0⟩).1],A29,c29,f,⟨asd,aa,bO,hG2.symm⟩,rfl,bm,.cons (.skip (ax rfl (ZK _ _).symm (.refl _)))⟩
 ·refine c_ ?_;have hz:qQ b l=(o,0):=by rw[←hG,AQ aa]
  rw[hz];refine ao (L':=.own 62 4 A7 o.length c7 (cU o)::F) (.skip (.cons (.skip (.skip (.refl _))))) ?_;refine aE ?_;exact⟨A7,c7,rfl,rfl⟩
theorem aa4{P:Prop}(h:P:=by(unfold Cs.rest;simp)):P:=h
theorem agF{P:Prop}(h:P:=by(rw[wY];exact f5)):P:=h
theorem C1{P:Prop}(h:P:=by(unfold F7;omega)):P:=h
theorem pw:type_of% @List.map_take:= @List.map_take
theorem yj:type_of% @List.map_drop:= @List.map_drop
theorem rl:type_of% @List.mem_of_mem_drop:= @List.mem_of_mem_drop
theorem bF:type_of% @Classical.byContradiction:= @Classical.byContradiction
theorem qk:type_of% @List.drop_left':= @List.drop_left'
def jy(b plain:Bool):bc→List aH→eH
 |[],_=>[]
 |n::ns,L=>(jF (dc b (L.take n)) plain).1::jy b plain ns (L.drop n)
def fL(x:Bool):UInt8:=if x then 1 else 0
def dR(o:aO)(b:Bool)(L:List aH):bc:=jA o.1.toNat (lens b L)
def tk(o:aO)(L:List aH):al:=(dY++[1])++(aS o.1.toNat++(fL o.2.1::(aS L.length++aS (dR o true L).length)))
def qK(o:aO)(L:List aH):al:=cY (tk o L++(jy true o.2.1 (dR o true L) L).flatten)
def tp(o:aO)(L:List aH):al×Int:=if cm 1 o≠0 then ([],cm 1 o) else if cO L≠0 then ([],cO L) else (qK o L,0)
def gW(b:al):al×Int:=
 if (marked b).2≠0 then ([],(marked b).2) else if (marked b).1≠1 then ([],4)
 else if (aK b).2≠0 then ([],(aK b).2) else if (aK b).1.length<5 then ([],1) else ((aK b).1.drop 5,0)
def oh1(x:al):Cs:=Cs.bX ⟨x,0,0⟩ 32768
def Zr(x:al):UInt8:=(oh1 x).byte
def V7(x:al):Cs:=if 1<(Zr x).toNat then (oh1 x).eJ.failed 2 else (oh1 x).eJ
def oh3(x:al):Cs:=(V7 x).bX 20000
def G7(x:al):Nat:=(V7 x).int 20000
def Ce(x:al):Cs:=(oh3 x).bX (G7 x)
def CI(x:al):Nat:=(oh3 x).int (G7 x)
def ohO(x:al):aO:=((Cs.int ⟨x,0,0⟩ 32768:Nat),decide ((Zr x).toNat=1),0,0,0,0)
def ohE(x:al):Int:=if (Ce x).e≠0 then (Ce x).e else cm 1 (ohO x)
noncomputable def jR(s:Cs):List aH×Cs×Int:=
 if (dL s.rest).2.2≠0 then ([],s,(dL s.rest).2.2)
 else if (qQ true (dL s.rest).1).2≠0 then ([],s.b_ ((dL s.rest).2.1:Nat),(qQ true (dL s.rest).1).2)
 else if (qQ true (dL s.rest).1).1=[] then ([],s.b_ ((dL s.rest).2.1:Nat),2)
 else ((qQ true (dL s.rest).1).1,s.b_ ((dL s.rest).2.1:Nat),0)
noncomputable def oE:Nat→Cs→List aH→List aH×Cs×Int
 |0,s,out=>(out,s,0)
 |f+1,s,out=>if (jR s).2.2≠0 then ([],(jR s).2.1,(jR s).2.2) else oE f (jR s).2.1 (out++(jR s).1)
noncomputable def kD(x:al):List aH×Int:=
 if (oE (CI x) (Ce x) []).2.2≠0 then ([],(oE (CI x) (Ce x) []).2.2)
 else if 0<(oE (CI x) (Ce x) []).2.1.left∨(oE (CI x) (Ce x) []).1.length≠G7 x then ([],2)
 else if cO (oE (CI x) (Ce x) []).1≠0 then ([],cO (oE (CI x) (Ce x) []).1) else ((oE (CI x) (Ce x) []).1,0)
noncomputable def lY(b:al):aO×List aH×Nat×Int:=
 if (gW b).2≠0 then (ib,[],0,(gW b).2)
 else if ohE (gW b).1≠0 then (ib,[],0,ohE (gW b).1)
 else if (kD (gW b).1).2≠0 then (ib,[],0,(kD (gW b).1).2)
 else (ohO (gW b).1,(kD (gW b).1).1,CI (gW b).1,0)
theorem aet{b:Bool}{x:aH}(hx:x.fits):(lH b x).length≤8100:=by
 obtain⟨h1,h2,h3⟩:=hx;have e1:=m7 (s:=x.2.2.1) aa;have e2:=m7 (s:=x.2.2.2) aa;have e3:=aT h1;unfold lH fQ;split<;>simp only[aX,eh,sb]<;>omega
theorem Y_(b:Bool)(L:List aH)(n:Nat):lens b (L.take n)=(lens b L).take n:=by simp[lens,pw]
theorem wY(b:Bool)(L:List aH)(n:Nat):lens b (L.drop n)=(lens b L).drop n:=by simp[lens,yj]
theorem oL{S:Nat}(hS:S≤32768){b:Bool}{L:List aH}(hL:∀x∈L,x.fits){n:Nat}(h1:1≤n)(h:((lens b L).take n).sum≤S∨n=1):(dc b (L.take n)).length≤32768:=by
 rw[E',Y_];rcases h with h|h
 ·omega
 ·subst h;cases L with
  |nil=>simp[lens]
  |cons x r=>
   have:=aet (b:=b) (hL x ak);simp[lens];omega
theorem IU{S:Nat}(hS:S≤32768)(plain:Bool):∀(g:bc) (L out:List aH) (s:Cs) (r:al),s.e=0→(∀x∈L,x.fits)→CU S (lens true L) g→s.rest=(jy true plain g L).flatten++r→
  ∃s',oE g.length s out=(out++L,s',0)∧nQ s s' (jy true plain g L).flatten
 |[],L,out,s,r,h0,hL,hf,hr=>by
  have:L=[]:=List.map_eq_nil_iff.1 (show lens true L=[] from hf);subst this;exact⟨s,by simp[oE],nQ.nil h0⟩
 |n::g,L,out,s,r,h0,hL,hf,hr=>by
  obtain⟨f1,f2,f3,f4,f5⟩:=hf;rw[et]at f2;have IA:=oL hS hL f1 f3;have u5:s.rest=(jF (dc true (L.take n)) plain).1++((jy true plain g (L.drop n)).flatten++r):=by rw[hr];simp[jy]
  have hb:=Mm (dc true (L.take n)) plain IA ((jy true plain g (L.drop n)).flatten++r);rw[←u5]at hb;obtain⟨_,ht⟩:=Cs.mo (n:=((jF (dc true (L.take n)) plain).1.length:Nat)) h0 rfl u5;have tY:qQ true (dc true (L.take n))=(L.take n,0):=by
   unfold qQ;rw[AR _ (L.take n) _ [] rfl (by unfold Cs.left;simp only;omega) (fun x hx=>hL x (lW hx)) aa4];have:(L.take n).map (norm true)=L.take n:=by
    conv=>rhs;rw[←List.map_id (L.take n)]
    exact sa fun x _=>by simp[norm]
   rw[this,nU]
  have r':¬L.take n=[]:=by
   intro h;have:=dC List.length h;rw[eV,sb]at this;omega
  have hk:jR s=(L.take n,s.b_ ((jF (dc true (L.take n)) plain).1.length:Nat),0):=by
   unfold jR;rw[hb];simp only;rw[tY];simp only;rw[aw ak,aw ak,aw r']
  obtain⟨s',h1,h2⟩:=IU hS plain g (L.drop n) (out++L.take n) _ r ht.e1 (fun x hx=>hL x (rl hx)) agF (ht.cF u5);refine⟨s',?_,by have:=ht.trans h2;simpa[jy]using this⟩;rw[eh,oE,hk,aw ak];simp only;rw[h1,bV,jO]
theorem ad4{o:aO}{L:List aH}(ho:cm 1 o=0)(hc:cO L=0)(hx:∀x∈L,x.1<18446744073709551616):lY (qK o L)=(o,L,(dR o true L).length,0):=by
 have fJ:ji 1 o:=by
  unfold cm at ho;rw[aq (.inl rfl)]at ho;exact bF fun h=>by rw[aw h]at ho;simp at ho
 obtain⟨⟨m1,m2⟩,_,_,m5,m6⟩:=fJ;obtain⟨k1,k2,k3⟩:=m5 aa;have k6:=m6 rfl;have tz:L.length≤20000∧(∀x∈L,x.fits):=by
  unfold cO at hc;have:¬(20000<L.length∨(∃x∈L,uj x)∨1048576<dF L):=fun h=>by rw[aq h]at hc;simp at hc
  refine⟨aa,fun x h=>⟨hx x h,?_,?_⟩⟩
  ·exact yh fun k=>this (.inr (.inl ⟨x,h,.inl k⟩))
  ·exact yh fun k=>this (.inr (.inl ⟨x,h,.inr k⟩))
 obtain⟨hl,hL⟩:=tz;have hg:(dR o true L).length≤L.length:=by unfold dR;have:=mU o.1.toNat (lens true L);rwa [et]at this
 obtain⟨Y,hY⟩:=cR (aS o.1.toNat++(fL o.2.1::(aS L.length++(aS (dR o true L).length++(jy true o.2.1 (dR o true L) L).flatten))));have hX:gW (qK o L)=(Y,0):=by
  have e1:marked (qK o L)=(1,0):=by
   have:=lQ (v:=1) C1 ((aS o.1.toNat++(fL o.2.1::(aS L.length++aS (dR o true L).length)))++((jy true o.2.1 (dR o true L) L).flatten++mn (pV 0 (tk o L++(jy true o.2.1 (dR o true L) L).flatten))));rw[←this];congr 1;unfold qK cY tk;show _=(dY++[1])++_;simp[bV]
  have e2:aK (qK o L)=(tk o L++(jy true o.2.1 (dR o true L) L).flatten,0):=jw _;have e3:tk o L++(jy true o.2.1 (dR o true L) L).flatten=(dY++[1])++Y:=by rw[hY];unfold tk;simp[bV]
  have e4:((dY++[1]:al)++Y).drop 5=Y:=qk rfl;unfold gW;rw[e1,e2,e3];simp only;rw[aw ak,aw ak,aw ak,aw (by simp[dY]),e4]
 have r0:Cs.rest ⟨Y,0,0⟩=aS o.1.toNat++(fL o.2.1::(aS L.length++(aS (dR o true L).length++(jy true o.2.1 (dR o true L) L).flatten))):=by unfold Cs.rest;rw[tg];exact hY
 obtain⟨n1,d1⟩:=Cs.iE (m:=32768) rfl aa aa r0;have r1:=d1.cF r0;obtain⟨n2,d2⟩:=Cs.l7 d1.e1 r1;have r2:=d2.cF (p:=[fL o.2.1]) r1;obtain⟨n3,d3⟩:=Cs.iE (m:=20000) d2.e1 aa aa r2;have r3:=d3.cF r2;obtain⟨n4,d4⟩:=Cs.iE (m:=(L.length:Nat)) d3.e1 aa aa r3;have r4:=d4.cF r3;have lZ:(fL o.2.1).toNat≤1∧(decide ((fL o.2.1).toNat=1)=o.2.1):=by cases o.2.1<;>exact⟨aA,aA⟩
 have e1:oh1 Y=Cs.bX ⟨Y,0,0⟩ 32768:=rfl;have ePl:Zr Y=fL o.2.1:=by unfold Zr;rw[e1];exact n2
 have e2:V7 Y=(Cs.bX ⟨Y,0,0⟩ 32768).eJ:=by unfold V7;rw[ePl,aw aa,e1]
 have eR:G7 Y=L.length:=by unfold G7;rw[e2];exact n3
 have e3:oh3 Y=(Cs.bX ⟨Y,0,0⟩ 32768).eJ.bX 20000:=by unfold oh3;rw[e2]
 have eB:CI Y=(dR o true L).length:=by unfold CI;rw[e3,eR];exact n4
 have e4:Ce Y=((Cs.bX ⟨Y,0,0⟩ 32768).eJ.bX 20000).bX (L.length:Nat):=by unfold Ce;rw[e3,eR]
 have eO:ohO Y=o:=by
  unfold ohO;rw[n1,ePl,lZ.2];obtain⟨a,b,c,d,e,f⟩:=o;simp only at m1 m2 k1 k2 k3 k6⊢;rw[k1,k2,k3,k6];congr 1;omega
 have eE:ohE Y=0:=by unfold ohE;rw[e4,d4.e1,aw ak,eO];exact ho
 obtain⟨s',h1,h2⟩:=IU (S:=o.1.toNat) aa o.2.1 (dR o true L) L [] (Ce Y) [] (by rw[e4];exact d4.e1) hL (kr _ _) (by rw[e4,r4,gk]);have akj:s'.left=0:=by
  rw[←nK];have:=h2.cF (r:=[]) (by rw[e4,r4,gk]);rw[this];rfl
 have eL:kD Y=(L,0):=by
  unfold kD;rw[eB,h1];simp only;rw[aw ak,eR,aw (by rw[akj];simp),nU,hc,aw ak]
 unfold lY;rw[hX];simp only;rw[aw ak,eE,aw ak,eL,aw ak,eO,eB]
end Go.Proofs.YtaodmbolhoafcaaGreatDoor

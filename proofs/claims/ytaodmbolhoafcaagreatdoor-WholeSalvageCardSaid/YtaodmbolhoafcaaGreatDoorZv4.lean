/-
  Texts of one proof, joined: part 4. No condition.
-/
import Derived.Test.YtaodmbolhoafcaaGreatDoorZv3
import Derived.ProofKit
import Derived.OpenShut
import Derived.ShutString
import Derived.ChangeOld
import Derived.Deep.Slices
import Derived.Lib.AppendZeros
open List renaming length→E
open Go.RowKit Go.Proofs.Tryz
namespace Go.Proofs.YtaodmbolhoafcaaGreatDoor
set_option linter.unusedVariables false
set_option linter.unusedSimpArgs false
set_option maxRecDepth 20000
variable{l r:aq}{P:Prop}{er most:Int}{b:Bool}{m:Int}{t p:aq}{s':Cs}{v:Value}{pre:aq}{S hv f B:Nat}{w0:World}{F L0:aN}{A:bh}{n c g h3 h5:Nat}{s:Cs}{C0:Ch}{A2:bh}{n2 c2:Nat}
theorem Vl(h:P:=by(first|rfl|exact dT (by first|omega|simp_all)|exact dS (by first|omega|simp_all)|exact dG (by first|omega|simp_all)|exact oW (by first|omega|simp_all))):P:=h
theorem uJ:type_of% @Nat.add_sub_cancel_left:= @Nat.add_sub_cancel_left
theorem gl:type_of% @Int.eq_ofNat_of_zero_le:= @Int.eq_ofNat_of_zero_le
theorem C9{a b c:Ch}{L:aN}:(a::b::c::L).Perm (c::a::b::L):=((List.Perm.swap c b L).cons a).trans (.swap c a _)
def Ts(x k:Nat)(er most:Int):Nat×Nat×Int:=if er≠0 then (0,0,er) else if most<0\/most<x then (0,0,6) else (x,k,0)
theorem aec{x k:Nat}(h:¬er=0):Ts x k er most=(0,0,er):=av h
theorem aed{x k:Nat}(h:¬¬er=0)(h2:most<0\/most<x):Ts x k er most=(0,0,6):=by unfold Ts;rw[aB h,av h2]
theorem aee{x k:Nat}(h:¬¬er=0)(h2:¬(most<0\/most<x)):Ts x k er most=(x,k,0):=by unfold Ts;rw[aB h,aB h2]
theorem Je(hb:aJ B w0 L0 1 (.slice A n c) n (bv l))(hn:n<=1099511627776)(zZ:-9223372036854775808<=most)(oh:most<=9223372036854775807):
  bg B w0 222 [.slice A n c,ah most] L0 (λr L=>r= .tuple #[ah (eU l most).1,ah (eU l most).2.1,ah (eU l most).2.2]/\L=L0):=by
 have e:eU l most=Ts (b8 l).1 (b8 l).2.1 (b8 l).2.2 most:=rfl;have hs:=afC hb hn;have hf:=(fG l).1;rw[e];clear e;generalize (b8 l).1=x at*;generalize (b8 l).2.1=k at*;generalize (b8 l).2.2=er at*;refine ba func222 30 [0,1] 10 ?_;refine ai rfl (hs) (ag 16 (λgH=>?_) λgH=>?_)
 ·refine aD 6 [4,5,6] 4 ?_;refine⟨?_,rfl⟩;rw[aec gH];try rfl
 ·refine bf 5 8 26 [7,8] (most<0\/most<(x:Int)) ?_ ?_
  ·refine bk 3 (λmQ=>?_) (λmQ=>?_)
   ·exact ax 8 (k:=Vl)
   ·exact ax 4 (k:=Vl)
  ·refine ag 2 (λq7=>?_) λq7=>?_
   ·refine dh ?_;refine⟨?_,rfl⟩;rw[aed gH q7];try rfl
   ·refine bK 14 ?_;refine⟨?_,rfl⟩;rw[aee gH q7];try rfl
theorem ZB{x0:Value}(hb:aJ B w0 (.bI h5 3 [x0]:: .bI h3 3 [ah most]::F) 1 (.slice A n c) n (bv l))(hn:n<=1099511627776)(zZ:-9223372036854775808<=most)(oh:most<=9223372036854775807):
  bg B w0 221 [.slice A n c,bq h3,bq h5] (C0:: .bI h5 3 [x0]:: .bI h3 3 [ah most]::F) (λr L=>r= .tuple #[ah (eU l most).2.1,ah (eU l most).2.2]/\L=C0:: .bI h5 3 [ah (eU l most).1]:: .bI h3 3 [ah most]::F):=by
 refine ba func221 15 [0,1,2] 10 ?_;refine ai rfl (Je aA hn zZ oh) ?_;exact cm 19
theorem jb(ho:cw s)(hb:aJ B w0 F 1 (.slice A (E s.b) c) (E s.b) (bv s.b))(zZ:-9223372036854775808<=most)(oh:most<=9223372036854775807):
  bg B w0 172 [bq g,ah most] (Cv g A c s::F) (λr L=>r=ah (s.int most)/\L=Cv g A c (s.bX most)::F):=by
 by_cases h0:s.e=0
 ·have hkb:=(jN s.rest most oh).2.1;rw[ho.rest.1]at hkb;have hlb:=ho.rest.2;refine fw func172 13 [0,1] ?_;refine bM 2 λg3=>?_;refine bW 5 λg5=>?_;refine dw ?_;refine bp VB rfl ((yu (F:=.bI g5 3 [ah 0]:: .bI g3 3 [ah most]::F) ho (aJ.cons (aJ.cons hb)) h0 (caps:=[bq g3,bq g5]) (R':=λF'=>F'= .bI g5 3 [ah (eU s.rest most).1]:: .bI g3 3 [ah most]::F) (k:=(eU s.rest most).2.1) (er:=(eU s.rest most).2.2) aqv aa (λA' c' Dn=>(ZB Dn aa zZ oh).mono λr L ⟨h1,h2⟩=>⟨h1,_,rfl,h2⟩)).perm C9) rfl ?_;rintro _ _ ⟨rfl,_,cR,rfl⟩;obtain rfl:=cR.symm;refine ag 10 (λoA=>?_) λoA=>?_
  ·refine dg ?_;refine ak (L':=Cv g A c (s.bX most)::F) (.cons (.s2 (.refl _))) (aX ?_);exact⟨by simp[Cs.int,h0,(pP (show(eU s.rest most).2.2≠0 from oA)).1],rfl⟩
  ·refine dA ?_;refine ak (L':=Cv g A c (s.bX most)::F) (.cons (.s2 (.refl _))) (aX ?_);exact⟨by simp[Cs.int,h0],rfl⟩
 ·have e1:s.bX most=s:=by simp[Cs.bX,Cs.d_,h0]
  have e2:s.int most=0:=by simp[Cs.int,h0]
  rw[e1,e2];refine fw func172 13 [0,1] ?_;refine bM 2 λg3=>?_;refine bW 5 λg5=>?_;refine dw ?_;refine ai rfl ((vD h0).perm C9) (bK 18 ?_);exact ak (L':=Cv g A c s::F) (.cons (.s2 (.refl _))) (cm 1)
def Ga(l:aq)(x k:Nat)(er:Int):aq×Nat×Int:=if er≠0 then ([],0,er) else if E l-k<x then ([],0,1) else ((l.drop k).take x,k+x,0)
theorem Uo{x k:Nat}(h:¬er=0):Ga l x k er=([],0,er):=av h
theorem Up{x k:Nat}(h:¬¬er=0)(h2:E l-k<x):Ga l x k er=([],0,1):=by unfold Ga;rw[aB h,av h2]
theorem Uq{x k:Nat}(h:¬¬er=0)(h2:¬(E l-k<x)):Ga l x k er=((l.drop k).take x,k+x,0):=by unfold Ga;rw[aB h,aB h2]
theorem Ur(hb:aJ B w0 (.bI h5 9 [.string ⟨#[]⟩]:: .bI h3 3 [ah most]::F) 1 (.slice A n c) n (bv l))(hn:n<=1099511627776)(zZ:-9223372036854775808<=most)(oh:most<=9223372036854775807):
  bg B w0 329 [.slice A n c,bq h3,bq h5] (C0:: .bI h5 9 [.string ⟨#[]⟩]:: .bI h3 3 [ah most]::F) (λr L=>r= .tuple #[ah (jW l most).2.1,ah (jW l most).2.2]/\L=C0:: .bI h5 9 [.string ⟨(jW l most).1.toArray⟩]:: .bI h3 3 [ah most]::F):=by
 refine dQ.yk (L:=C0:: .bI h5 9 [.string ⟨#[]⟩]:: .bI h3 3 [ah most]::F) (aJ.cons hb) λhc hl=>?_;simp at hl;have e:jW l most=Ga l (eU l most).1 (eU l most).2.1 (eU l most).2.2:=rfl;have hs:=Je (B:=B) (w0:=w0) (L0:=C0:: .bI h5 9 [.string ⟨#[]⟩]:: .bI h3 3 [ah most]::F) (l:=l) (aJ.cons hb) hn zZ oh;have hf:=jN l most oh;rw[e];clear e;generalize (eU l most).1=x at*;generalize (eU l most).2.1=k at*;generalize (eU l most).2.2=er at*;refine ba func329 37 [0,1,2] 10 ?_;refine ai rfl (hs) (ag 18 (λj0=>?_) λj0=>?_)
 ·refine aD 5 [4,5] 5 ?_;refine⟨?_,?_⟩
  ·rw[Uo j0];try rfl
  ·rw[Uo j0];try rfl
 ·refine aD 9 [0,2,6,7,20] 0 ?_;refine ag 1 (λkp=>?_) λkp=>?_
  ·refine dh ?_;have KF:E l-k<x:=by omega
   refine⟨?_,?_⟩
   ·rw[Up j0 KF];try rfl
   ·rw[Up j0 KF];try rfl
  ·have hbt:=(hb.h_ (k:=k+x) aa).cut (k:=k) aa;have ebt:((bv l).take ((k+x)*1)).drop (k*1)=bv ((l.drop k).take x):=by rw[cH,cH,jK,jJ,Hk,uJ]
   rw[ebt]at hbt;refine dh ?_;refine ab (fR (i:=k) (j:=k+x) (size:=1) underlying27 ae rfl rfl rfl rfl rfl aa aa) rfl (ab (pz underlying27 underlying5 underlying9 rfl aA) rfl ?_);refine bK 14 ?_;have KF:¬(E l-k<x):=by omega
   refine⟨?_,?_⟩
   ·rw[Uq j0 KF];try rfl
   ·rw[Uq j0 KF];try rfl
theorem Dl(ho:cw s)(hb:aJ B w0 F 1 (.slice A (E s.b) c) (E s.b) (bv s.b))(zZ:-9223372036854775808<=most)(oh:most<=9223372036854775807):
  bg B w0 304 [bq g,ah most] (Cv g A c s::F) (λr L=>r= .string ⟨(s.text most).toArray⟩/\L=Cv g A c (s.fa most)::F):=by
 by_cases h0:s.e=0
 ·have hkb:(jW s.rest most).2.1<=E s.rest:=by
   by_cases he:(jW s.rest most).2.2=0
   ·rcases Qw s.rest most he with h|h<;>omega
   ·have:(jW s.rest most).2.1=0:=by
     unfold jW at he⊢;split
     ·rfl
     ·rename_i h1;rw[aB h1]at he;split
      ·rfl
      ·rename_i h2;rw[aB h2]at he;exact absurd rfl he
    omega
  rw[ho.rest.1]at hkb;have hlb:=ho.rest.2;refine fw func304 10 [0,1] ?_;refine bM 2 λg3=>?_;refine bW 5 λg5=>?_;refine dg ?_;refine bp VB rfl ((yu (F:=.bI g5 9 [.string ⟨#[]⟩]:: .bI g3 3 [ah most]::F) ho (aJ.cons (aJ.cons hb)) h0 (caps:=[bq g3,bq g5]) (R':=λF'=>F'= .bI g5 9 [.string ⟨(jW s.rest most).1.toArray⟩]:: .bI g3 3 [ah most]::F) (k:=(jW s.rest most).2.1) (er:=(jW s.rest most).2.2) aqP aa (λA' c' Dn=>(Ur Dn aa zZ oh).mono λr L ⟨h1,h2⟩=>⟨h1,_,rfl,h2⟩)).perm C9) rfl ?_;rintro _ _ ⟨rfl,_,cR,rfl⟩;obtain rfl:=cR.symm;refine dA ?_;refine ak (L':=Cv g A c (s.fa most)::F) (.cons (.s2 (.refl _))) (aX ?_);exact⟨by simp[Cs.text,h0],rfl⟩
 ·have e1:s.fa most=s:=by simp[Cs.fa,Cs.d_,h0]
  have e2:s.text most=[]:=by simp[Cs.text,h0]
  rw[e1,e2];refine fw func304 10 [0,1] ?_;refine bM 2 λg3=>?_;refine bW 5 λg5=>?_;refine dg ?_;refine ai rfl ((vD h0).perm C9) (dA ?_);exact ak (L':=Cv g A c s::F) (.cons (.s2 (.refl _))) (cm 1)
def jV(l:aq)(n:Int):aq:=if fC l n≠0 then [] else l.take n.toNat
def lP(l:aq)(n:Int):Nat:=if fC l n≠0 then 0 else n.toNat
def akS(h3 h5:Nat)(l:aq)(m:Int)(F F':aN):Prop:=∃A' c',F'= .own 5 1 A' (E (jV l m)) c' (bv (jV l m)):: .bI h5 27 [.slice A' (E (jV l m)) c']:: .bI h3 3 [ah m]::F
theorem Ul(hb:aJ B w0 (.bI h5 27 [.slice none 0 0]:: .bI h3 3 [ah m]::F) 1 (.slice A n c) n (bv l))(hn:n<=1099511627776)(zZ:-9223372036854775808<=m)(oh:m<=9223372036854775807):
  bg B w0 220 [.slice A n c,bq h3,bq h5] (C0:: .bI h5 27 [.slice none 0 0]:: .bI h3 3 [ah m]::F) (λr L=>r= .tuple #[ah (lP l m),ah (fC l m)]/\∃F',akS h3 h5 l m F F'/\L=C0::F'):=by
 refine dQ.yk (L:=C0:: .bI h5 27 [.slice none 0 0]:: .bI h3 3 [ah m]::F) (aJ.cons hb) λhc hl=>?_;simp at hl;refine fw func220 17 [0,1,2] ?_;refine ag 13 (λh7=>?_) λh7=>?_
 ·refine cY ?_;have e1:fC l m=13:=av h7;have e2:jV l m=[]:=by simp[jV,e1]
  have e3:lP l m=0:=by simp[lP,e1]
  refine aH 5 1 none (ak (L':=C0:: .own 5 1 none 0 0 []:: .bI h5 27 [.slice none 0 0]:: .bI h3 3 [ah m]::F) (.swap (.refl _)) (aX ?_));exact⟨by rw[e1,e3];try rfl,_,⟨none,0,by rw[e2];try rfl⟩,rfl⟩
 ·obtain⟨q,rfl⟩:=gl (show 0<=m by omega);refine ag 11 (λoA=>?_) λoA=>?_
  ·refine cY ?_;have e1:fC l q=1:=by unfold fC;rw[aB h7,av aa]
   have e2:jV l q=[]:=by simp[jV,e1]
   have e3:lP l q=0:=by simp[lP,e1]
   refine aH 5 1 none (ak (L':=C0:: .own 5 1 none 0 0 []:: .bI h5 27 [.slice none 0 0]:: .bI h3 3 [ah q]::F) (.swap (.refl _)) (aX ?_));exact⟨by rw[e1,e3];try rfl,_,⟨none,0,by rw[e2];try rfl⟩,rfl⟩
  ·have hbt:=hb.h_ (k:=q) aa;have ebt:(bv l).take (q*1)=bv (l.take q):=by rw[cH,jK]
   rw[ebt]at hbt;refine dw ?_;refine ab (bQ (i:=q) (size:=1) underlying27 ae rfl rfl rfl aa) rfl (ay rfl (mu (l.take q) aA aa) λqh tX=>fF ?_);have e1:fC l q=0:=by unfold fC;rw[aB h7,aB aa]
   have e2:jV l q=l.take q:=by simp[jV,e1]
   have e3:lP l q=q:=by simp[lP,e1]
   have e4:E (jV l q)=q:=by rw[e2,fZ];omega
   refine ak (L':=C0:: .own 5 1 qh (E (jV l q)) tX (bv (jV l q)):: .bI h5 27 [.slice qh (E (jV l q)) tX]:: .bI h3 3 [ah q]::F) (by rw[e4,e2];exact .swap (.refl _)) (aX ?_);exact⟨by rw[e1,e3],_,⟨qh,tX,rfl⟩,rfl⟩
theorem af6(l:aq)(n:Int):lP l n<=E l:=by
 unfold lP;split
 ·omega
 ·rename_i h;exact(xQ ml).2
theorem LQ{n:Int}(h0:s.e=0):s.take n=jV s.rest n:=by simp[Cs.take,jV,h0]
theorem Qt{n:Int}:s.bR n=s.d_ (lP s.rest n) (fC s.rest n):=by
 unfold Cs.bR Cs.d_ lP;split
 ·rfl
 ·split
  ·rfl
  ·rfl
theorem mx(ho:cw s)(hb:aJ B w0 F 1 (.slice A (E s.b) c) (E s.b) (bv s.b))(zZ:-9223372036854775808<=m)(oh:m<=9223372036854775807):
  bg B w0 171 [bq g,ah m] (Cv g A c s::F) (λr L=>∃A' c',r= .slice A' (E (s.take m)) c'/\L=Cv g A c (s.bR m):: .own 5 1 A' (E (s.take m)) c' (bv (s.take m))::F):=by
 by_cases h0:s.e=0
 ·have hkb:=af6 s.rest m;rw[ho.rest.1]at hkb;have hlb:=ho.rest.2;rw[LQ h0,Qt];refine fw func171 10 [0,1] ?_;refine bM 2 λg3=>?_;refine bW 5 λg5=>?_;refine dw ?_;refine bp VB rfl ((yu (F:=.bI g5 27 [.slice none 0 0]:: .bI g3 3 [ah m]::F) ho (aJ.cons (aJ.cons hb)) h0 (caps:=[bq g3,bq g5]) (R':=akS g3 g5 s.rest m F) (k:=lP s.rest m) (er:=fC s.rest m) aqu aa (λA' c' Dn=>Ul Dn aa zZ oh)).perm C9) rfl ?_;rintro _ _ ⟨rfl,_,⟨A8,c8,cR⟩,rfl⟩;obtain rfl:=cR.symm;refine dA ?_;exact ak (L':=Cv g A c (s.d_ (lP s.rest m) (fC s.rest m)):: .own 5 1 A8 (E (jV s.rest m)) c8 (bv (jV s.rest m))::F) (.cons (.cons (.s2 (.refl _)))) (bO 1)
 ·have e1:s.bR m=s:=by simp[Cs.bR,Cs.d_,h0]
  have e2:s.take m=[]:=by simp[Cs.take,h0]
  rw[e1,e2];refine fw func171 10 [0,1] ?_;refine bM 2 λg3=>?_;refine bW 5 λg5=>?_;refine dw ?_;refine ai rfl ((vD h0).perm C9) (dA ?_);exact aH 5 1 none (ak (L':=Cv g A c s:: .own 5 1 none 0 0 []::F) (.swap (.cons (.swap (.skip (.swap (.skip (.refl _))))))) (bO 1))
theorem JK(s:Cs):E (s.take 1)<=1:=by
 unfold Cs.take;split
 ·simp
 ·split
  ·simp
  ·simp only[fZ];exact Nat.min_le_left _ _
theorem oK(ho:cw s)(hb:aJ B w0 F 1 (.slice A (E s.b) c) (E s.b) (bv s.b)):
  bg B w0 173 [bq g] (Cv g A c s::F) (λr L=>r= .int .u8 (s.byte.toNat:Int)/\L=Cv g A c s.eV::F):=by
 have h1:=JK s;have eb:s.byte=((s.take 1).head?).getD 0:=rfl;have eb':s.eV=s.bR 1:=rfl;rw[eb,eb'];refine ba func173 12 [0] 9 ?_;refine ay rfl (mx ho hb (m:=1) aa aa) λA5 c5=>ag 10 (λh8=>?_) λh8=>?_
 ·refine fc ?_;refine ab (az (i:=0) (size:=1) underlying27 ae rfl rfl rfl aa aA) rfl (dw ?_);refine ak (L':=Cv g A c (s.bR 1)::F) (.cons (.skip (.refl _))) (aX ?_);exact⟨by simp[List.getD,List.head?_eq_getElem?],rfl⟩
 ·refine cY ?_;refine ak (L':=Cv g A c (s.bR 1)::F) (.cons (.skip (.refl _))) (aX ?_);have e0:s.take 1=[]:=mg aa;exact⟨by rw[e0];rfl,rfl⟩
theorem n_(hb:gw B w0 F A c l)(hl:E l<=1099511627776):
  bg B w0 109 [.slice A (E l) c] F (λr L=>∃g A' c',r=bq g/\L=Cv g A' c' ⟨l,0,0⟩:: .own 5 1 A' (E l) c' (bv l)::F):=by
 refine ba func109 8 [0] 8 ?_;refine ay rfl (mu l hb hl) λA4 c4=>ab (bw [(0,_)] [.slice none 0 0,ah 0] [0] [_,_] rfl rfl ae) rfl (ab (bw [(0,_)] [.slice none 0 0,ah 0,ah 0] [0] [_,_,_] rfl rfl ae) rfl (fM λg7=>?_));exact nI 5
theorem Cs.zn(h:s.e=0){k:Nat}{e:Int}(hk:e≠0->k=0):s.d_ k e=⟨s.b,s.at_+k,e⟩:=by
 unfold Cs.d_;rw[aB (by simp[h])];split
 ·rename_i he;rw[hk he];rfl
 ·rename_i he;have:e=0:=by simpa using he
  rw[this,<-h]
theorem Cs.Li(h:s.e=0):s.num=(b8 s.rest).1/\s.lK=⟨s.b,s.at_+(b8 s.rest).2.1,(b8 s.rest).2.2⟩:=⟨by simp[Cs.num,h],Cs.zn h λhe=>(BJ he).2⟩
theorem Cs.ER(h:s.e=0)(m:Int):s.int m=(eU s.rest m).1/\s.bX m=⟨s.b,s.at_+(eU s.rest m).2.1,(eU s.rest m).2.2⟩:=⟨by simp[Cs.int,h],Cs.zn h λhe=>(pP he).2⟩
theorem af8{x k:Nat}(h:(Ga l x k er).2.2≠0):(Ga l x k er).1=[]/\(Ga l x k er).2.1=0:=by
 unfold Ga at h⊢;split
 ·exact⟨rfl,rfl⟩
 ·split
  ·exact⟨rfl,rfl⟩
  ·rename_i h1 h2;rw[aB h1,aB h2]at h;exact absurd rfl h
theorem Cs.aki(h:s.e=0)(m:Int):s.text m=(jW s.rest m).1/\s.fa m=⟨s.b,s.at_+(jW s.rest m).2.1,(jW s.rest m).2.2⟩:=⟨by simp[Cs.text,h],Cs.zn h λhe=>(af8 he).2⟩
theorem Cs.take_mk(h:s.e=0)(m:Int):s.take m=jV s.rest m/\s.bR m=⟨s.b,s.at_+lP s.rest m,fC s.rest m⟩:=⟨LQ h,by rw[Qt];exact Cs.zn h λhe=>by simp[lP,he]⟩
theorem Cs.bad(h:¬s.e=0):s.num=0/\s.lK=s/\(∀m,s.int m=0/\s.bX m=s/\s.text m=[]/\s.fa m=s/\s.take m=[]/\s.bR m=s):=by
 refine⟨by simp[Cs.num,h],by simp[Cs.lK,Cs.d_,h],λm=>⟨by simp[Cs.int,h],by simp[Cs.bX,Cs.d_,h],by simp[Cs.text,h],by simp[Cs.fa,Cs.d_,h],by simp[Cs.take,h],by simp[Cs.bR,Cs.d_,h]⟩⟩
theorem MS(h:P:=by(simpa using he)):P:=h
theorem mX:type_of% @List.drop_drop:= @List.drop_drop
theorem I_:type_of% @List.take_add:= @List.take_add
theorem Cs.Bl(h:s.e=0)(n:Nat)(he:er≠0):s.d_ n er={s with e:=er}:=by unfold Cs.d_;rw[aB (by simp[h]),av he]
theorem Cs.uY(h:s.e=0)(n:Nat):s.d_ n 0={s with at_:=s.at_+n}:=by unfold Cs.d_;rw[aB (by simp[h]),aB ao]
theorem Cs.Bm(h:s.e≠0)(n:Nat)(er:Int):s.d_ n er=s:=by unfold Cs.d_;rw[av h]
theorem ofNat_toNat(c:UInt8)(n:Nat)(h:n=c.toNat):UInt8.ofNat n=c:=by subst h;simp
theorem LB:∀(l:aq) (i acc:Nat),(dv i acc l).2.2=0->
  ∃y,(dv i acc l).1=acc+y*128^i/\i<=(dv i acc l).2.1/\aW y=l.take ((dv i acc l).2.1-i)/\(0<i->0<y)/\(dv i acc l).2.1<=i+E l:=by
 intro l;induction l with
 |nil=>intro i acc h;simp[dv]at h
 |cons c r ih=>
  intro i acc h;unfold dv at h⊢;by_cases h1:i=9/\c.toNat≠1\/0<i/\c.toNat=0
  ·rw[av h1]at h;simp at h
  ·rw[aB h1]at h⊢;by_cases h2:c.toNat<128
   ·rw[av h2];refine⟨c.toNat,?_,ao,?_,aa,U9⟩
    ·show acc+c.toNat%128*128^i=_;rw[ly h2]
    ·show aW c.toNat=List.take (i+1-i) (c::r);rw[nA h2,uJ];simp
   ·rw[aB h2]at h⊢;obtain⟨y,e1,e2,e3,e4,e5⟩:=ih _ _ h;have hy:=e4 aa;refine⟨c.toNat%128+128*y,?_,aa,?_,aa,U9⟩
    ·rw[e1,ki,qR,OJ];congr 2;rw[mi (128^i) 128,<-rN,mi y 128]
    ·rw[vF aa];have hc:=c.toNat_lt;rw[show(c.toNat%128+128*y)/128=y by omega,e3,ofNat_toNat c _ aa];generalize hN:(dv (i+1) (acc+c.toNat%128*128^i) r).2.1=N at*;rw[show N-i=(N-(i+1))+1 by omega,nK]
theorem vV(h:(b8 l).2.2=0):aW (b8 l).1=l.take (b8 l).2.1:=by
 obtain⟨y,e1,_,e3,_⟩:=LB l 0 0 h;have:(b8 l).1=y:=by unfold b8;rw[e1];simp
 rw[this,e3];rfl
theorem Hv(r:aq):∀(n y i acc:Nat),y<=n->y*128^i<18446744073709551616->(0<i->0<y)->
  dv i acc (aW y++r)=(acc+y*128^i,i+E (aW y),0):=by
 intro n;induction n with
 |zero=>
  intro y i acc hy h h0;have hy0:y=0:=by omega
  subst hy0;have hi:i=0:=by
   rcases Be i with h'|h'
   ·exact h'
   ·exact absurd (h0 h') aa
  subst hi;rw[nA aa];simp[dv]
 |succ n ih=>
  intro y i acc hy h h0;have hi9:i<=9:=by
   rcases qe 9 i with h'|h'
   ·exfalso;have h1:(128:Nat)^10<=128^i:=gz aa aa;have e:(128:Nat)^10=1180591620717411303424:=by decide+kernel
    rw[e]at h1;have h2:1*128^i<=y*128^i:=C3 _ (h0 aa);omega
   ·exact h'
  have e9:(128:Nat)^9=9223372036854775808:=by decide+kernel
  have hy9:i=9->y=1:=by
   intro hi;rw[hi,e9]at h;have:=h0 aa;omega
  by_cases gU:y<128
  ·rw[nA gU];have hu:=u8n y aa;show dv i acc (UInt8.ofNat y::r)=_;unfold dv;rw[hu,aB aa,av gU,ly gU];rfl
  ·rw[vF aa];have hu:=u8n (128+y%128) aa;show dv i acc (UInt8.ofNat (128+y%128)::(aW (y/128)++r))=_;unfold dv;rw[hu,aB aa,aB aa,show(128+y%128)%128=y%128 by omega];have hd:y=y%128+128*(y/128):=by omega
   have hm:y*128^i=y%128*128^i+y/128*128^(i+1):=by
    conv=>lhs;rw[hd,qR]
    rw[ki,mi (128^i) 128,<-rN,mi (y/128) 128]
   rw[ih (y/128) (i+1) _ aa aa aa,hm];simp only[ei];rw[show acc+y%128*128^i+y/128*128^(i+1)=acc+(y%128*128^i+y/128*128^(i+1)) by omega,show i+1+E (aW (y/128))=i+(E (aW (y/128))+1) by omega]
theorem sX(x:Nat)(hx:x<18446744073709551616)(r:aq):b8 (aW x++r)=(x,E (aW x),0):=by
 have:=Hv r x x 0 0 (ga _) (by simpa using hx) aa;simpa[b8]using this
theorem Cs.Lh(h:s.lK.e=0):s.e=0/\(b8 s.rest).2.2=0/\s.num=(b8 s.rest).1/\s.lK={s with at_:=s.at_+(b8 s.rest).2.1}:=by
 unfold Cs.lK at h⊢;by_cases h0:s.e=0
 ·by_cases he:(b8 s.rest).2.2=0
  ·rw[he,Cs.uY h0];exact⟨h0,rfl,by unfold Cs.num;rw[aB (by simp[h0])],rfl⟩
  ·rw[Cs.Bl h0 _ he]at h;exact absurd h he
 ·rw[Cs.Bm h0]at h;exact absurd h h0
theorem Cs.aib(h:s.yE.e=0):s.e=0/\s.left=0:=by
 unfold Cs.yE at h;split at h
 ·unfold Cs.failed at h;split at h
  ·exact absurd h ao
  ·rename_i h1 h2;exact absurd h h2
 ·exact⟨h,aa⟩
theorem K0(a b:aq):jh (a++b)=jh a+256^(E a)*jh b:=by
 induction a with
 |nil=>simp[jh]
 |cons c r ih=>
  simp only[nM,jh,ih,ei,ki];rw[wU,OJ];congr 2;rw[<-rN,mi 256]
theorem E5(x:Nat):∀k,jh (fT x k)=x%2^(8*k):=by
 intro k;induction k with
 |zero=>simp[fT,jh,Nat.mod_one]
 |succ k ih=>
  have e7:(256:Nat)^k=2^(8*k):=by rw[show(256:Nat)=2^8 from rfl,<-Nat.pow_mul]
  rw[fT,K0,ih,ql,e7];simp only[jh,Nat.mul_zero,rM];rw[u8n _ (rG _ aa),show 8*(k+1)=8*k+8 by omega,Nat.pow_add,Nat.mod_mul]
theorem Cs.anV{x:Nat}(h0:s.e=0)(hx:x<18446744073709551616)(hr:s.rest=aW x++r):
  s.num=x/\s.lK={s with at_:=s.at_+E (aW x)}:=by
 unfold Cs.num Cs.lK;rw[hr,sX x hx r,aB (by simp[h0])];exact⟨rfl,Cs.uY h0 _⟩
theorem Cs.vT{a:aq}(hr:s.rest=a++r)(hn:n=E a):Cs.rest {s with at_:=s.at_+n}=r:=by
 unfold Cs.rest at hr⊢;show s.b.drop (s.at_+n)=r;rw[<-mX,hr,hn,y8]
theorem Cs.akh(h0:s.e=0)(ht:(E t:Int)<=most)(hm:most<=9223372036854775807)(hr:s.rest=fg t++r):
  s.text most=t/\s.fa most={s with at_:=s.at_+E (fg t)}:=by
 have hs:b8 (fg t++r)=(E t,E (aW (E t)),0):=by
  unfold fg;rw[bT];exact sX _ aa _
 have hl:eU (fg t++r) most=(E t,E (aW (E t)),0):=by
  unfold eU;rw[hs];simp only[ne_eq,not_true_eq_false,if_false];rw[aB aa]
 have hx:jW (fg t++r) most=(t,E (aW (E t))+E t,0):=by
  unfold jW;rw[hl];simp only[ne_eq,not_true_eq_false,if_false];rw[aB (by simp only[fg,bm];omega)];have e1:(fg t++r).drop (E (aW (E t)))=t++r:=by unfold fg;rw[bT,y8]
  rw[e1,y']
 unfold Cs.text Cs.fa;rw[hr,hx,aB (by simp[h0])];refine⟨rfl,?_⟩;rw[Cs.uY h0];simp[fg]
theorem Cs.ake(h0:s.e=0){n:Int}(hn:n=E t)(hr:s.rest=t++r):
  s.take n=t/\s.bR n={s with at_:=s.at_+E t}:=by
 have ht:fC (t++r) n=0:=by
  unfold fC;rw[aB aa,aB bS]
 unfold Cs.take Cs.bR;rw[hr,ht,aB (by simp[h0]),aB ao,hn,lJ,y'];exact⟨rfl,Cs.uY h0 _⟩
theorem Cs.acJ(h0:s.e=0)(hr:s.rest=[]):s.yE.e=0:=by
 unfold Cs.yE;have:s.left=0:=by
  have:=eG List.length hr;simp[Cs.rest]at this;unfold Cs.left;omega
 rw[aB aa];exact h0
structure nX(s s':Cs)(p:aq):Prop where
 e0:s.e=0
 eq:s'=⟨s.b,s.at_+E p,0⟩
 rest:s.rest=p++s'.rest
theorem nX.e1(h:nX s s' p):s'.e=0:=by rw[h.eq]
theorem nX.nil(h:s.e=0):nX s s []:=⟨h,by cases s;simp at h;simp[h],rfl⟩
theorem nX.trans{s'':Cs}{q:aq}(h:nX s s' p)(k:nX s' s'' q):nX s s'' (p++q):=by
 refine⟨h.e0,?_,by rw[h.rest,k.rest,bT]⟩;rw[k.eq,h.eq,bm,OJ]
theorem nX.zw{k:Nat}(h:(s.d_ k er).e=0)(hp:er=0->p=s.rest.take k)(hk:er=0->k<=E s.rest):er=0/\nX s (s.d_ k er) p:=by
 by_cases h0:s.e=0
 ·by_cases he:er=0
  ·subst he;have e1:=hp rfl;have e2:=hk rfl;have hl:E p=k:=by rw[e1,fZ];omega
   rw[Cs.uY h0];refine⟨rfl,h0,by rw[hl,<-h0],?_⟩;rw[e1];show s.rest=s.rest.take k++s.b.drop (s.at_+k);rw[<-mX];exact(kH k s.rest).symm
  ·rw[Cs.Bl h0 _ he]at h;exact absurd h he
 ·rw[Cs.Bm h0]at h;exact absurd h h0
theorem nX.cP(h:nX s s' p)(hr:s.rest=p++r):s'.rest=r:=by
 have:=h.rest;rw[hr]at this;exact(List.append_cancel_left this).symm
theorem Cs.ajj(h:s.lK.e=0):nX s s.lK (aW s.num)/\s.num<18446744073709551616:=by
 have h0:=(Cs.Lh h).1;have h2:=(Cs.Lh h).2.1;have h3:=(Cs.Lh h).2.2.1;exact⟨(nX.zw h (λ_=>by rw[h3,vV h2]) (λ_=>(fG _).2.1)).2,by rw[h3];exact(fG _).1⟩
theorem Cs.W8{x:Nat}(h0:s.e=0)(hx:x<18446744073709551616)(hr:s.rest=aW x++r):s.num=x/\nX s s.lK (aW x):=by
 obtain⟨h1,h2⟩:=Cs.anV h0 hx hr;refine⟨h1,h0,by rw[h2,h0],?_⟩;rw[h2,Cs.vT hr rfl,hr]
theorem WS(h:(eU l m).2.2=0):(b8 l).2.2=0/\eU l m=((b8 l).1,(b8 l).2.1,0)/\((b8 l).1:Int)<=m:=by
 unfold eU at h⊢;by_cases h1:(b8 l).2.2≠0
 ·rw[av h1]at h;exact absurd h h1
 ·rw[aB h1]at h⊢;by_cases h2:m<0\/m<(b8 l).1
  ·rw[av h2]at h;simp at h
  ·rw[aB h2]at h⊢;exact⟨DM,rfl,aa⟩
theorem Cs.E'{k:Nat}(h:(s.d_ k er).e=0):s.e=0/\er=0:=by
 by_cases h0:s.e=0
 ·by_cases he:er=0
  ·exact⟨h0,he⟩
  ·rw[Cs.Bl h0 _ he]at h;exact absurd h he
 ·rw[Cs.Bm h0]at h;exact absurd h h0
theorem Cs.KS(h:(s.bX m).e=0):nX s (s.bX m) (aW (s.int m))/\(s.int m:Int)<=m/\s.int m<18446744073709551616:=by
 obtain⟨h0,he⟩:=Cs.E' h;obtain⟨h1,h2,h3⟩:=WS he;have hi:s.int m=(b8 s.rest).1:=by rw[(Cs.ER h0 m).1,h2]
 refine⟨(nX.zw h (λ_=>by rw[hi,vV h1,h2]) (λ_=>by rw[h2];exact(fG _).2.1)).2,by rw[hi];exact h3,by rw[hi];exact(fG _).1⟩
theorem Cs.iW{x:Nat}(h0:s.e=0)(hx:(x:Int)<=m)(hm:m<=9223372036854775807)(hr:s.rest=aW x++r):s.int m=x/\nX s (s.bX m) (aW x):=by
 have hs:=sX x aa r;have hl:eU s.rest m=(x,E (aW x),0):=by
  unfold eU;rw[hr,hs];simp only[ne_eq,not_true_eq_false,if_false];rw[aB aa]
 have h2:=(Cs.ER h0 m).2;rw[hl]at h2;refine⟨by rw[(Cs.ER h0 m).1,hl],h0,h2,?_⟩;rw[h2,hr];congr 1;exact(Cs.vT hr rfl).symm
theorem Cs.zI(h:(s.fa m).e=0):nX s (s.fa m) (fg (s.text m))/\(E (s.text m):Int)<=m:=by
 obtain⟨h0,he⟩:=Cs.E' h;have e:jW s.rest m=Ga s.rest (eU s.rest m).1 (eU s.rest m).2.1 (eU s.rest m).2.2:=rfl;rw[e]at he;by_cases hl:(eU s.rest m).2.2=0
 ·obtain⟨h1,h2,h3⟩:=WS hl;by_cases hx:E s.rest-(eU s.rest m).2.1<(eU s.rest m).1
  ·rw[Up wI hx]at he;simp at he
  ·have e2:=Uq (l:=s.rest) (x:=(eU s.rest m).1) (k:=(eU s.rest m).2.1) (er:=(eU s.rest m).2.2) wI hx;rw[<-e,h2]at e2;rw[h2]at hx;simp only at e2 hx;have hk:=(fG s.rest).2.1;have ht:s.text m=(s.rest.drop (b8 s.rest).2.1).take (b8 s.rest).1:=by rw[(Cs.aki h0 m).1,e2]
   have CW:E (s.text m)=(b8 s.rest).1:=by rw[ht,fZ,jM];omega
   refine⟨(nX.zw h (λ_=>?_) (λ_=>by rw[e2];simp only;omega)).2,by rw[CW];exact h3⟩;rw[fg,CW,vV h1,ht,e2];simp only;rw[I_]
 ·rw[Uo hl]at he;exact absurd he hl
theorem Cs.sc(h0:s.e=0)(ht:(E t:Int)<=m)(hm:m<=9223372036854775807)(hr:s.rest=fg t++r):s.text m=t/\nX s (s.fa m) (fg t):=by
 obtain⟨h1,h2⟩:=Cs.akh h0 ht hm hr;refine⟨h1,h0,by rw[h2,h0],?_⟩;rw[h2,Cs.vT hr rfl,hr]
theorem Cs.Qu{n:Int}(h:(s.bR n).e=0):nX s (s.bR n) (s.take n)/\E (s.take n)=n.toNat/\0<=n:=by
 obtain⟨h0,he⟩:=Cs.E' h;have ht:=xQ he;have e:s.take n=s.rest.take n.toNat:=by rw[LQ h0,jV,aB MS]
 exact⟨(nX.zw h (λ_=>e) (λ_=>ht.2)).2,by rw[e,fZ];omega,ht.1⟩
theorem Cs.mK(h0:s.e=0){n:Int}(hn:n=E t)(hr:s.rest=t++r):s.take n=t/\nX s (s.bR n) t:=by
 obtain⟨h1,h2⟩:=Cs.ake h0 hn hr;refine⟨h1,h0,by rw[h2,h0],?_⟩;rw[h2,Cs.vT hr rfl,hr]
theorem Cs.ab7(h:s.eV.e=0):nX s s.eV [s.byte]:=by
 obtain⟨h1,h2,_⟩:=Cs.Qu h;have h3:E (s.take 1)=1:=h2;obtain⟨c,hc⟩:=List.length_eq_one_iff.1 h3;have:s.byte=c:=by unfold Cs.byte;rw[hc];rfl
 rw[this,<-hc];exact h1
theorem Cs.mo{c:UInt8}(h0:s.e=0)(hr:s.rest=c::r):s.byte=c/\nX s s.eV [c]:=by
 obtain⟨h1,h2⟩:=Cs.mK (t:=[c]) (n:=1) h0 rfl hr;exact⟨by unfold Cs.byte;rw[h1];rfl,h2⟩
theorem acI(x:Nat):1<=E (aW x):=by
 by_cases h:128<=x
 ·rw[vF h];simp
 ·rw[nA aa];simp
theorem NN(t:aq):1<=E (fg t):=by
 have:=acI (E t);unfold fg;rw[bm];omega
def Hx(b:aq):aq×Int:=lR (fS b)
def Ue(b:aq):Prop:=(Hx b).2=0/\E (Hx b).1<E b
instance (b:List UInt8):Decidable (Ue b):=inferInstanceAs (Decidable (_/\_))
def jl(b:aq)(plain:Bool):UInt8×aq:=if plain=false/\Ue b then (1,(Hx b).1) else (0,b)
def uh(b:aq)(plain:Bool):aq:=(jl b plain).1::(aW (E b)++aW (E (jl b plain).2))
def ij(b:aq)(plain:Bool):aq×Int:=if 32768<E b then ([],6) else (b7 (uh b plain++(jl b plain).2),0)
def IQ(b:aq):Cs:=if 1<(Cs.byte ⟨b,0,0⟩).toNat then (Cs.eV ⟨b,0,0⟩).failed 2 else Cs.eV ⟨b,0,0⟩
def wq(b:aq):Nat:=(IQ b).int 32768
def Wb(b:aq):Cs:=(IQ b).bX 32768
def oO(b:aq):Nat:=(Wb b).int 32768
def qZ(b:aq):Cs:=if 1032*oO b+64<wq b then ((Wb b).bX 32768).failed 6 else (Wb b).bX 32768
def zW(b:aq):aq:=(qZ b).take (oO b)
def G2(b:aq):Cs:=((qZ b).bR (oO b)).bR 4
def sj(b:aq):Cs:=if (G2 b).e≠0 then G2 b else (G2 b).failed (aT (b.take (G2 b).at_)).2
noncomputable def IT(way n p:Nat)(body:aq):aq×Int:=
 if way=0 then (if n≠p then ([],2) else (body,0))
 else if (eh body n).2≠0 then ([],(eh body n).2)
 else if (gP (eh body n).1 n).2≠0 then ([],(gP (eh body n).1 n).2)
 else if E (gP (eh body n).1 n).1<n then ([],2) else ((gP (eh body n).1 n).1,0)
noncomputable def G3(b:aq):aq×Int:=IT (Cs.byte ⟨b,0,0⟩).toNat (wq b) (oO b) (zW b)
noncomputable def du(b:aq):aq×Nat×Int:=
 if (sj b).e≠0 then ([],0,(sj b).e) else if (G3 b).2≠0 then ([],0,(G3 b).2) else ((G3 b).1,(sj b).at_,0)
theorem yj(b:aq)(plain:Bool):E (jl b plain).2<=E b:=by
 unfold jl;split
 ·rename_i h;exact Nat.le_of_lt h.2.2
 ·exact ga _
theorem IK(b:aq):E (fS b)<=E b:=by
 have:=Et b (E b) 0 (bD _);unfold fS;omega
theorem aaR{l:List bG}{t:bG}(hm:∀t∈l,dX t)(ht:t∈l):max 1 t.2.1<=129*(E (qW (cI l) (dE l) t):Int):=by
 have hc:=D0 ht;have eu:=hm t ht;have gU:(bE t).1<265:=by
  by_cases h0:t.2.1=0
  ·rw[(pf eu h0).1];have:=kR t.1;simp only;omega
  ·have:=(kV eu h0).2.1;omega
 have h1:=ka (o:=CQ l) (N:=265) aa gU hc;have e1:((cI l).getD (bE t).1 0).toNat≠0:=h1;unfold qW;rw[bm,j9];by_cases h0:t.2.1=0
 ·rw[h0];simp only[show max (1:Int) 0=1 from rfl];omega
 ·obtain⟨k1,k2,k3,k4,k5,k6,k7,k8⟩:=kV eu h0;have hf:=DY ht (by omega:256<(bE t).1);have h2:((dE l).getD (bE t).2.2.1 0).toNat≠0:=ka (o:=uo l) (N:=12) aa aa hf;rw[aB aa,bm,bm,j9];unfold dX at eu;rw[aB h0]at eu;omega
theorem Gg{l:List bG}(hm:∀t∈l,dX t):∀ts:List bG,(∀t∈ts,t∈l)->ir ts<=129*(E (lQ (cI l) (dE l) ts):Int)
 |[],_=>by
  have e:ir []=0:=rfl;omega
 |t::ts,h=>by
  have e:ir (t::ts)=max 1 t.2.1+ir ts:=rfl;rw[xS,bm,e];have h1:=aaR hm (h t ao);have h2:=Gg hm ts λu hu=>h u (by simp[hu]);omega
theorem zz(t:bG)(r:List bG):ir (t::r)=max 1 t.2.1+ir r:=rfl
theorem BC(most:Int):∀(l:List bG) (out:aq),(gO most out l).2=0->(E (gO most out l).1:Int)=E out+ir l
 |[],out,_=>by simp[gO,ir]
 |t::r,out,h=>by
  unfold gO at h⊢;split
  ·rename_i hc;rw[av hc]at h;simp at h
  ·rename_i hc;rw[aB hc]at h;have eu:dX t:=gE.1 hc;split
   ·rename_i h1;rw[av h1]at h;simp at h
   ·rename_i h1;rw[aB h1]at h;split
    ·rename_i h2;rw[av h2]at h;simp at h
    ·rename_i h2;rw[aB h2]at h;split
     ·rename_i h3;rw[av h3]at h;have:=BC most r _ h;rw[this,zz,h3];simp;omega
     ·rename_i h3;rw[aB h3]at h;have:=BC most r _ h;rw[this,ld];unfold dX at eu;rw[aB h3]at eu;rw[zz];have:=nP r;omega
theorem aaB{b:aq}(h:(Hx b).2=0):E b<=1032*E (Hx b).1+64:=by
 have hm:∀t∈fS b,dX t:=uz b (E b) 0;have kh:=BC (E b) (fS b) [] (by
  have:=xJ b (E b) (Int.le_refl _);unfold gP at this;rw[aB aa]at this;rw[this])
 have Oy:=xJ b (E b) (Int.le_refl _);unfold gP at Oy;rw[aB aa]at Oy;rw[Oy]at kh;unfold Hx lR at h⊢;by_cases h1:32768<E (fS b)
 ·rw[av h1]at h;simp at h
 ·rw[aB h1]at h⊢;rw[av hm];have av2:=Gg hm (fS b) λt ht=>ht;have vN:=dz (kB (fS b));have:E (lQ (cI (fS b)) (dE (fS b)) (fS b))<=E (kB (fS b)):=by unfold kB;simp only[bm];omega
  simp only at kh⊢;rw[vN];simp only[tT]at kh;omega
theorem Yd(b:aq)(plain:Bool)(hb:E b<=32768)(r:aq){x:aq}(hx:x=(ij b plain).1++r):
  (Cs.byte ⟨x,0,0⟩)=(jl b plain).1/\wq x=E b/\oO x=E (jl b plain).2/\zW x=(jl b plain).2/\sj x=⟨x,E (ij b plain).1,0⟩:=by
 have He:=yj b plain;have Cl:Cs.rest ⟨x,0,0⟩=(jl b plain).1::(aW (E b)++(aW (E (jl b plain).2)++((jl b plain).2++(kz (mw 0 (uh b plain++(jl b plain).2))++r)))):=by
  unfold Cs.rest;rw[qS,hx];unfold ij;rw[aB aa];unfold b7 uh;simp[bT]
 obtain⟨b1,d1⟩:=Cs.mo (s:=⟨x,0,0⟩) rfl Cl;have h1:(jl b plain).1.toNat<=1:=by
  unfold jl;split
  ·exact(by decide:(1:UInt8).toNat<=1)
  ·exact(by decide:(0:UInt8).toNat<=1)
 have e1:IQ x=Cs.eV ⟨x,0,0⟩:=by unfold IQ;rw[b1,aB aa]
 have r1:=d1.cP (p:=[(jl b plain).1]) Cl;obtain⟨n1,d2⟩:=Cs.iW (m:=32768) d1.e1 aa aa r1;have r2:=d2.cP r1;obtain⟨p1,d3⟩:=Cs.iW (m:=32768) d2.e1 aa aa r2;have r3:=d3.cP r2;have eN:wq x=E b:=by unfold wq;rw[e1];exact n1
 have e2:Wb x=(Cs.eV ⟨x,0,0⟩).bX 32768:=by unfold Wb;rw[e1]
 have eP:oO x=E (jl b plain).2:=by unfold oO;rw[e2];exact p1
 have au8:E b<=1032*E (jl b plain).2+64:=by
  unfold jl;split
  ·rename_i h;exact aaB h.2.1
  ·simp only;omega
 have e3:qZ x=((Cs.eV ⟨x,0,0⟩).bX 32768).bX 32768:=by unfold qZ;rw[eP,eN,aB aa,e2]
 obtain⟨t1,d4⟩:=Cs.mK (n:=(E (jl b plain).2:Nat)) d3.e1 rfl r3;have r4:=d4.cP r3;obtain⟨t2,d5⟩:=Cs.mK (n:=4) d4.e1 rfl r4;have eB:zW x=(jl b plain).2:=by unfold zW;rw[e3,eP];exact t1
 have e4:G2 x=(((((Cs.eV ⟨x,0,0⟩).bX 32768).bX 32768).bR (E (jl b plain).2:Nat)).bR 4):=by unfold G2;rw[e3,eP]
 have pF:=(((d1.trans d2).trans d3).trans d4).trans d5;have hlen:E (ij b plain).1=E ([(jl b plain).1]++aW (E b)++aW (E (jl b plain).2)++(jl b plain).2++kz (mw 0 (uh b plain++(jl b plain).2))):=by
  unfold ij;rw[aB aa];unfold b7 uh;simp[bT]
 have e4':G2 x=⟨x,E (ij b plain).1,0⟩:=by
  rw[e4,pF.eq,<-hlen];simp
 have hcut:aT (x.take (E (ij b plain).1))=(uh b plain++(jl b plain).2,0):=by
  rw[hx,y'];unfold ij;rw[aB aa];exact kN _
 refine⟨b1,eN,eP,eB,?_⟩;unfold sj;rw[e4'];simp only;rw[aB ao,hcut];rfl
theorem M4(b:aq)(plain:Bool)(hb:E b<=32768)(r:aq):du ((ij b plain).1++r)=(b,E (ij b plain).1,0):=by
 obtain⟨x,hx⟩:=cM ((ij b plain).1++r);obtain⟨h1,h2,h3,h4,h5⟩:=Yd b plain hb r hx;rw[<-hx];have hy:G3 x=(b,0):=by
  unfold G3;rw[h1,h2,h3,h4];unfold IT jl;by_cases hs:plain=false/\Ue b
  ·rw[av hs];simp only;have hm:∀t∈fS b,dX t:=uz b (E b) 0;have kh:=AP b (E b) 0 (bD _);have hsq:=hs.2.1;have hw:(Hx b).1=packed (kB (fS b)):=by
    unfold Hx lR at hsq⊢;by_cases h1:32768<E (fS b)
    ·rw[av h1]at hsq;simp at hsq
    ·rw[aB h1,av hm]
   have nD:eh (Hx b).1 (E b:Int)=(fS b,0):=by
    rw[hw];exact aaV hm (by unfold fS;simpa using kh)
   have hp:=xJ b (E b) (Int.le_refl _);rw[aB aE,nD];simp only;rw[hp];simp
  ·rw[aB hs];simp
 unfold du;rw[h5,hy];simp
abbrev aZ:=Int×Bool×Int×Int×Int×Int
def aZ.cells(o:aZ):cQ:=[ah o.1,.bool o.2.1,ah o.2.2.1,ah o.2.2.2.1,ah o.2.2.2.2.1,ah o.2.2.2.2.2]
def Bs:aZ:=(0,false,0,0,0,0)
def GI(x lo hi:Int):Prop:=lo<=x/\x<=hi
instance (x lo hi:Int):Decidable (GI x lo hi):=inferInstanceAs (Decidable (_/\_))
def LN(o:aZ):Prop:=GI o.2.2.2.1 1 255/\GI o.2.2.2.2.1 0 (255-o.2.2.2.1)/\GI o.2.2.2.2.2 1 4096
instance (o:aZ):Decidable (LN o):=inferInstanceAs (Decidable (_/\_/\_))
def ju(v:Int)(o:aZ):Prop:=
 GI o.1 16 32768/\
 (v=3->LN o)/\(v=3\/v=2->GI o.2.2.1 1 64)/\
 (¬v=3->o.2.2.2.1=0/\o.2.2.2.2.1=0/\o.2.2.2.2.2=0)/\(v=1->o.2.2.1=0)
instance (v:Int)(o:aZ):Decidable (ju v o):=inferInstanceAs (Decidable (_/\_/\_/\_/\_))
def dF(v:Int)(o:aZ):Int:=if v=1\/v=2\/v=3 then (if ju v o then 0 else 9) else 4
def eK:aq:=[70,73,82,75]
def qu(v:Int):aq×Int:=if GI v 1 3 then (eK++[UInt8.ofNat v.toNat],0) else ([],4)
def marked(b:aq):Int×Int:=
 if E b<=4 then (0,1) else if¬b.take 4=eK then (0,3) else if¬GI ((b.getD 4 0).toNat:Int) 1 3 then (0,4) else ((b.getD 4 0).toNat,0)
theorem nN{v:Int}(h:GI v 1 3)(r:aq):marked ((qu v).1++r)=(v,0):=by
 obtain⟨h1,h2⟩:=h;have hv:v=1\/v=2\/v=3:=by omega
 rcases hv with rfl|rfl|rfl
 ·show marked (70::73::82::75::1::r)=_;unfold marked;rw[aB ao,aB (by simp[eK]),aB (by simp[GI])];rfl
 ·show marked (70::73::82::75::2::r)=_;unfold marked;rw[aB ao,aB (by simp[eK]),aB (by simp[GI])];rfl
 ·show marked (70::73::82::75::3::r)=_;unfold marked;rw[aB ao,aB (by simp[eK]),aB (by simp[GI])];rfl
section
open Go.RowKit Go.ChangeShapes Go.WideShapes Go.ChangeAt
theorem Ct:type_of% @Int.toNat_of_nonneg:= @Int.toNat_of_nonneg
theorem iX:type_of% @List.flatMap_cons:= @List.flatMap_cons
theorem I':type_of% @List.getElem?_append_right:= @List.getElem?_append_right
def lE(P:Program)(w:World)(t:TypeId){α:Type}(F:α->cQ)(Ok:α->Prop):Prop:=
 ∀(H:Type) (enc:TypeId×Value->H) (n:Nat) (cs:cQ) (y:DataW H×List MemPlace),
  DataW.trod enc P w 0 (λ_=>true) true n t cs=some y->∃x,cs=F x/\Ok x
section
variable{P:Program}{w:World}{t:TypeId}
theorem acy(ht:P.underlying t=some (.int .u8)):lE P w t (λb:UInt8=>[.int .u8 (b.toNat:Int)]) (λ_=>True):=by
 intro H enc n cs y h;obtain⟨m,rfl,_,hw⟩:=DataW.trod_int ht h;have hb:=bounds_u8 hw;refine⟨UInt8.ofNat m.toNat,?_,trivial⟩;have e:(UInt8.ofNat m.toNat).toNat=m.toNat:=by simp;omega
 dsimp only;rw[e,Ct hb.1]
theorem ah1(ht:P.underlying t=some (.int .u16)):lE P w t (λx:Nat=>[.int .u16 (x:Int)]) (λx=>x<65536):=by
 intro H enc n cs y h;obtain⟨m,rfl,_,hw⟩:=DataW.trod_int ht h;have hb:=bounds_u16 hw;exact⟨m.toNat,by dsimp only;rw[Ct hb.1],aa⟩
theorem ah2(ht:P.underlying t=some (.int .u64)):lE P w t (λx:Nat=>[.int .u64 (x:Int)]) (λx=>x<18446744073709551616):=by
 intro H enc n cs y h;obtain⟨m,rfl,_,hw⟩:=DataW.trod_int ht h;have hb:=bounds_u64 hw;exact⟨m.toNat,by dsimp only;rw[Ct hb.1],aa⟩
theorem yw(ht:P.underlying t=some (.int .i64)):lE P w t (λx:Int=>[ah x]) (λx=>-9223372036854775808<=x/\x<=9223372036854775807):=by
 intro H enc n cs y h;obtain⟨m,rfl,_,hw⟩:=DataW.trod_int ht h;exact⟨m,rfl,bounds_i64 hw⟩
theorem acw(ht:P.underlying t=some .bool):lE P w t (λb:Bool=>[.bool b]) (λ_=>True):=by
 intro H enc n cs y h;obtain⟨b,rfl,_⟩:=DataW.trod_bool ht h;exact⟨b,rfl,trivial⟩
theorem R4(ht:P.underlying t=some .string):lE P w t (λs:ByteArray=>[.string s]) (λs=>s.size<=maxLen):=by
 intro H enc n cs y h;obtain⟨s,rfl,_,hs⟩:=DataW.trod_string ht h;exact⟨s,rfl,hs⟩
theorem qm{α:Type}{F:α->cQ}{size:Nat}(hF:∀x,E (F x)=size):∀(L:List α) (i j:Nat),j<size->(L.flatMap F)[i*size+j]? =(L[i]?).bind λx=>(F x)[j]? :=by
 intro L;induction L with
 |nil=>intro i j _;simp
 |cons x L ih=>
  intro i j hj;rw[iX];rcases i with _|i
  ·rw[Ti (by rw[hF];omega)];simp
  ·rw[I' (by rw[hF,jR];omega),hF,show(i+1)*size+j-size=i*size+j by rw[jR];omega,ih i j hj];simp
theorem Ir{e:TypeId}{α:Type}{F:α->cQ}{Ok:α->Prop}{size:Nat}(ht:P.underlying t=some (.slice e))(hc:P.cellsOf e=size)(hs:0<size)(hF:∀x,E (F x)=size)(he:lE P w e F Ok):
  lE P w t (λx:Value×List α=>[x.1]) (λx=>Rd w w.heap.size size x.1 (E x.2) (x.2.flatMap F)/\(∀y∈x.2,Ok y)/\E x.2<=maxLen):=by
 intro H enc n cs y h;rcases Deep.open_slice ht h with⟨rfl,_⟩|⟨a,len,cap,m,n',D,Pl,rfl,_,hl,hm,hmm,_,CV⟩
 ·exact⟨(.slice none 0 0,[]),rfl,Rd.C4,ao,ao⟩
 ·simp only[if_true]at hmm;have hex:∀i,i<len->∃x,w.cells? 0 (a.add (i*P.cellsOf e)) (P.cellsOf e)=some (F x)/\Ok x:=by
   intro i hi;obtain⟨cs',h1,h2⟩:=CV i aa;obtain⟨x,rfl,ho⟩:=he H enc _ _ _ h2;exact⟨x,h1,ho⟩
  have arQ:∀k,k<=len->∃L:List α,E L=k/\∀i x,L[i]? =some x->w.cells? 0 (a.add (i*P.cellsOf e)) (P.cellsOf e)=some (F x)/\Ok x:=by
   intro k;induction k with
   |zero=>intro _;exact⟨[],rfl,ao⟩
   |succ k ih=>
    intro hk;obtain⟨L,hL,hLi⟩:=ih aa;obtain⟨x,hx⟩:=hex k aa;refine⟨L++[x],by simp[hL],λi z hz=>?_⟩;rw[List.getElem?_append]at hz;split at hz
    ·exact hLi i z hz
    ·rename_i gU;have:i=k:=by
      have:=(Hi.1 hz).1;simp at this;omega
     subst this;simp[hL]at hz;subst hz;exact hx
  obtain⟨L,hL,hLi⟩:=arQ len (ga _);refine⟨(.slice (some a) len cap,L),rfl,⟨some a,cap,by rw[hL],by rw[hL];exact hl,?_,λhn=>⟨a,rfl,?_,?_⟩⟩,?_,by show E L<=maxLen;omega⟩
  ·show(L.flatMap F).length=E L*size;clear hL hLi;induction L with
   |nil=>simp
   |cons x L ih=>simp[ih,hF,jR,tx]
  ·obtain⟨x,hx⟩:∃x,L[0]? =some x:=by
    rcases L with _|⟨x,L⟩
    ·simp at hn
    ·exact⟨x,rfl⟩
   have:=(hLi 0 x hx).1;rw[hc]at this;have:=(World.cells?_some this).2.2 0 hs;simp[Addr.add]at this;rcases qe a.block w.heap.size with gU|x7
   ·exact gU
   ·rw[World.cell?,Array.getElem?_eq_none x7]at this;have h0:=hF x;have:(F x)[0]? =none:=by simpa using this.symm
    have:=List.getElem?_eq_none_iff.1 this;omega
  ·intro j u hu;have hj:j=j/size*size+j%size:=by have:=Nat.div_add_mod j size;rw[mi]at this;omega
   rw[hj,qm hF L _ _ (rG _ hs)]at hu;obtain⟨x,hx,hu⟩:=Option.bind_eq_some_iff.1 hu;have hcx:=(hLi _ x hx).1;rw[hc]at hcx;have:=(World.cells?_some hcx).2.2 (j%size) (rG _ hs);rw[lV,<-hj]at this;rw[this,hu]
  ·intro y hy;obtain⟨i,hi⟩:=List.getElem?_of_mem hy;exact(hLi i y hi).2
end
section
variable{P:Program}{w:World}{t:TypeId}
theorem lE.arg{α:Type}{F:α->cQ}{Ok:α->Prop}(hd:lE P w t F Ok){H:Type}{enc:TypeId×Value->H}{d:DataW H}{ps:List MemPlace}(h:DataW.Trod enc P w 0 (λ_=>true) true t v d ps):∃x,v.cells.toList=F x/\Ok x:=by
 obtain⟨n,h⟩:=h;exact hd H enc n _ _ h
theorem Cb{x:Value}(a:bh)(n c:Nat)(hv:v= .slice a n c)(h:v.cells.toList=[x]):x=v:=by
 subst hv;simp[Value.cells]at h;exact h.symm
end
section
variable{P:Program}{w:World}{t:TypeId}
theorem Nq{α β γ δ:Type}{f0 f1 f2 f3:Field}{F0:α->Value}{F1:β->Value}{F2:γ->Value}{F3:δ->Value}{O0:α->Prop}{O1:β->Prop}{O2:γ->Prop}{O3:δ->Prop}(ht:P.underlying t=some (.struct #[f0,f1,f2,f3]))(hc:P.cellsOf t=4)(h0:f0.offset=0/\P.cellsOf f0.type=1)(h1:f1.offset=1/\P.cellsOf f1.type=1)(h2:f2.offset=2/\P.cellsOf f2.type=1)(h3:f3.offset=3/\P.cellsOf f3.type=1)(d0:lE P w f0.type (λx=>[F0 x]) O0)(d1:lE P w f1.type (λx=>[F1 x]) O1)(d2:lE P w f2.type (λx=>[F2 x]) O2)(d3:lE P w f3.type (λx=>[F3 x]) O3):
  lE P w t (λx:α×β×γ×δ=>[F0 x.1,F1 x.2.1,F2 x.2.2.1,F3 x.2.2.2]) (λx=>O0 x.1/\O1 x.2.1/\O2 x.2.2.1/\O3 x.2.2.2):=by
 intro H enc n cs y h;obtain⟨xs,n',_,_,hl,hx,hf⟩:=DataW.trod_struct ht h;rw[hc]at hl;obtain⟨c0,c1,c2,c3,rfl⟩:∃c0 c1 c2 c3,cs=[c0,c1,c2,c3]:=by
  match cs,hl with
  |[c0,c1,c2,c3],_=>exact⟨c0,c1,c2,c3,rfl⟩
 obtain⟨y0,y1,y2,y3,rfl⟩:∃y0 y1 y2 y3,xs=[y0,y1,y2,y3]:=by
  match xs,hx with
  |[y0,y1,y2,y3],_=>exact⟨y0,y1,y2,y3,rfl⟩
 have g0:=hf 0 f0 rfl;have g1:=hf 1 f1 rfl;have g2:=hf 2 f2 rfl;have g3:=hf 3 f3 rfl;rw[h0.1,h0.2]at g0;rw[h1.1,h1.2]at g1;rw[h2.1,h2.2]at g2;rw[h3.1,h3.2]at g3;obtain⟨a,ea,oa⟩:=d0 H enc _ _ _ g0;obtain⟨b,eb,ob⟩:=d1 H enc _ _ _ g1;obtain⟨c,ec,oc⟩:=d2 H enc _ _ _ g2;obtain⟨d,ed,od⟩:=d3 H enc _ _ _ g3;simp at ea eb ec ed;exact⟨(a,b,c,d),by simp[ea,eb,ec,ed],oa,ob,oc,od⟩
end
end
abbrev aI:=Nat×UInt8×aq×aq
def aI.cells(x:aI):cQ:=[.int .u64 x.1,.int .u8 (x.2.1.toNat:Int),.string ⟨x.2.2.1.toArray⟩,.string ⟨x.2.2.2.toArray⟩]
def aI.ok(x:aI):Prop:=x.1<18446744073709551616/\True/\E x.2.2.1<=maxLen/\E x.2.2.2<=maxLen
theorem Np{P:Program}{w:World}{t:TypeId}(ht:P.underlying t=some .string):lE P w t (λs:aq=>[.string ⟨s.toArray⟩]) (λs=>E s<=maxLen):=by
 intro H enc n cs y h;obtain⟨s,h1,h2⟩:=R4 ht H enc n cs y h;refine⟨s.data.toList,?_,?_⟩
 ·rw[h1]
 ·have e:E s.data.toList=s.size:=by rw[Hj];rfl
  show E s.data.toList<=maxLen;rw[e];exact h2
theorem ah0(w:World):lE Tryz.prog w 62 aI.cells aI.ok:=
 Nq underlying62 ae ⟨rfl,ae⟩ ⟨rfl,ae⟩ ⟨rfl,ae⟩ ⟨rfl,ae⟩ (ah2 underlying60) (acy underlying5) (Np underlying9) (Np underlying9)
def cD(L:List aI):cQ:=L.flatMap aI.cells
def recAt(L:List aI)(k:Nat):aI:=L.getD k (0,0,[],[])
theorem qB{L:List aI}{k:Nat}(hk:k<E L){j:Nat}(hj:j<4):(cD L)[k*4+j]? =(aI.cells (recAt L k))[j]? :=by
 rw[cD,qm (size:=4) (λ_=>rfl) L k j hj,recAt,bz,fx hk];rfl
theorem J5(h:P:=by(exact dT (by first|omega|(exact⟨λh=>by omega,λh=>by omega⟩)))):P:=h
theorem pJ:type_of% @List.sum_append:= @List.sum_append
theorem iF:type_of% @List.map_append:= @List.map_append
def aI.w(x:aI):Nat:=16+E x.2.2.1+E x.2.2.2
def dJ(L:List aI):Nat:=(L.map aI.w).sum
theorem abd(L:List aI)(x:aI):dJ (L++[x])=dJ L+x.w:=by simp[dJ]
theorem mc{L:List aI}{k:Nat}(h:k<E L):dJ (L.take (k+1))=dJ (L.take k)+(recAt L k).w:=by
 rw[aP h (0,0,[],[]),abd];rfl
theorem kE(L:List aI)(k:Nat):dJ (L.take k)<=dJ L:=by
 have h:dJ L=dJ (L.take k)+dJ (L.drop k):=by
  rw[dJ,dJ,dJ,<-pJ,<-iF,kH]
 omega
theorem oR(x:aI):∀u∈x.cells,u.oneCell'=true:=by simp[aI.cells,Value.oneCell']
theorem iS{L:List aI}{k:Nat}(hk:k<E L):∀(q:Nat) (u:Value),(aI.cells (recAt L k))[q]? =some u->(cD L)[k*4+q]? =some u:=λq u h=>by
 have hq:q<4:=by
  have:=(Hi.1 h).1;simpa[aI.cells]using this
 rw[qB hk hq];exact h
set_option maxRecDepth 20000 in
theorem agY(L:List aI)(hb:aJ B w0 F 4 (.slice A (E L) c) (E L) (cD L))(hw:dJ L<4611686018427387904)(hl:E L<4611686018427387904):
  bg B w0 81 [.slice A (E L) c] F (λr K=>r=ah (dJ L)/\K=F):=by
 refine ba func81 24 [0] 19 ?_;refine aw (λzf zL zm=>∃(k:Nat),(k<=E L)/\E L-k=zm/\Sub zf [(3,ah (dJ (L.take k))),(6,.slice A (E L) c),(7,ah (E L)),(8,ah k)]/\Wk zL (F)) _ ⟨0,bD _,rfl,a_,.refl _⟩ ?_;rintro _ _ _ ⟨k,hk,rfl,hs,hp⟩;refine aL hs hp (ag 6 (λh9=>?_) λh9=>?_)
 ·have hws:=mc (L:=L) (k:=k) aa;have x_:=kE L (k+1);have pG:=oR (recAt L k);have hrw:(recAt L k).w=16+E (recAt L k).2.2.1+E (recAt L k).2.2.2:=rfl;refine dw ?_;refine ab (az (i:=k) underlying24 ae rfl rfl rfl aa aA) rfl ?_;refine ab (bU 4 ae rfl aA aa (aI.cells (recAt L k)) (iS aa) rfl) rfl ?_;refine fo λg5=>?_;refine aD 21 [3,6,7,8] 0 ?_;refine aj ⟨_,aa,k+1,aa,rfl,a_,.skip (.refl _)⟩
 ·refine bK 13 ?_;have x8:k=E L:=by omega
  subst x8;exact⟨by rw[js],rfl⟩
set_option maxRecDepth 20000 in
theorem aau(L:List aI)(hb:aJ B w0 F 4 (.slice A (E L) c) (E L) (cD L))(hl:E L<4611686018427387904):
  bg B w0 37 [.slice A (E L) c] F (λr K=>∃v:Int,r=ah v/\K=F/\(v=2199023255552/\1099511627776<dJ L\/v=dJ L/\dJ L<4611686018427387904)):=by
 refine ba func37 48 [0] 17 ?_;refine aw (λzf zL zm=>∃(k:Nat),(k<=E L/\dJ (L.take k)<=4398046511104)/\E L-k=zm/\Sub zf [(0,.slice A (E L) c),(3,ah (dJ (L.take k))),(4,ah k)]/\Wk zL (F)) _ ⟨0,⟨bD _,by simp[dJ]⟩,rfl,a_,.refl _⟩ ?_;rintro _ _ _ ⟨k,⟨hk,OC⟩,rfl,hs,hp⟩;refine aL hs hp (ag 9 (λh8=>?_) λh8=>?_)
 ·have hws:=mc (L:=L) (k:=k) aa;have hrw:(recAt L k).w=16+E (recAt L k).2.2.1+E (recAt L k).2.2.2:=rfl;refine bf 7 20 30 [0,3,4] (1099511627776<dJ (L.take k)\/1099511627776<E (recAt L k).2.2.1\/1099511627776<E (recAt L k).2.2.2) ?_ ?_
  ·refine bk 3 (λnj=>?_) (λnj=>?_)
   ·refine dw ?_;refine ab (aV underlying62 rfl ae rfl aA aa rfl) rfl (aX ?_);refine ab (bH ae rfl aA aa ((qB aa aE).trans rfl)) rfl ?_;refine bk 6 (λrq=>?_) (λrq=>?_)
    ·refine dw ?_;refine ab (aV underlying62 rfl ae rfl aA aa rfl) rfl (aX ?_);refine ab (bH ae rfl aA aa ((qB aa aE).trans rfl)) rfl ?_;exact ax 5 (k:=DN)
    ·exact ax 7 (k:=J5)
   ·exact ax 16 (k:=J5)
  ·refine ag 2 (λwv=>?_) λwv=>?_
   ·refine bK 13 ?_;have awU:=kE L k;have awV:=kE L (k+1);exact⟨_,rfl,rfl,.inl ⟨rfl,aa⟩⟩
   ·refine cY ?_;refine bJ (aV underlying62 rfl ae rfl aA aa rfl) rfl ?_;refine bJ (bH ae rfl aA aa ((qB aa aE).trans rfl)) rfl (dx ?_);refine bJ (aV underlying62 rfl ae rfl aA aa rfl) rfl ?_;refine bJ (bH ae rfl aA aa ((qB aa aE).trans rfl)) rfl (fc ?_);refine lD [(0,_),(3,_),(4,_)] ⟨rfl,rfl,rfl,trivial⟩ ?_;refine dg ?_;refine aj ⟨_,aa,k+1,⟨aa,aa⟩,rfl,a_,.refl _⟩
 ·refine bK 13 ?_;have x8:k=E L:=by omega
  subst x8;rw[js]at OC⊢;exact⟨_,rfl,rfl,.inr ⟨rfl,aa⟩⟩
theorem aiq(L:List aI)(hb:aJ B w0 F 4 (.slice A (E L) c) (E L) (cD L))(n1 n2:Nat)(h1:n1<=1099511627776)(h2:n2<=1099511627776):
  bg B w0 20 [.slice A (E L) c,ah n1,ah n2] F (λr K=>∃b,r= .bool b/\K=F/\(b=false->E L<=n1/\dJ L<=n2)):=by
 refine fw func20 17 [0,1,2] ?_;refine bk 12 (λoA=>?_) (λoA=>?_)
 ·refine ew ?_;refine bp atI rfl (aau L hb aa) rfl ?_;rintro _ _ ⟨v,rfl,cR,hv⟩;obtain rfl:=cR.symm;refine dh ?_;refine⟨_,rfl,rfl,λh=>?_⟩;have h':=O7 h;exact⟨aa,aa⟩
 ·refine dA ?_;exact⟨_,rfl,rfl,λh=>jB⟩
theorem NR{x k:Nat}(h:aW x=pre++aW k)(hk:128<=k):aW x=(pre++[UInt8.ofNat (128+k%128)])++aW (k/128):=by
 rw[h,vF hk];simp
theorem NP{x k:Nat}(h:aW x=pre++aW k)(hk:k<128):aW x=pre++[UInt8.ofNat k]:=by
 rw[h,nA hk]
theorem V7{x k:Nat}(h:aW x=pre++aW k)(hx:x<18446744073709551616):E pre<=10:=by
 have h1:=eG List.length h;have h2:=aY hx;rw[bm]at h1;omega
theorem ym{v:Nat}(hv:v<256)(l:aq):bv l++[Value.int .u8 (v:Int)]=bv (l++[UInt8.ofNat v]):=by
 have:(UInt8.ofNat v).toNat=v:=by rw[rD];exact ly hv
 simp[bv,this]
theorem avt(k:Nat):IntKind.u8.wrap (k:Int)=((k%256:Nat):Int):=by show(k:Int)%256=_;omega
theorem asx(k:Nat):IntKind.u8.wrap ((BitVec.ofInt IntKind.u8.bits ((k%256:Nat):Int) ||| BitVec.ofInt IntKind.u8.bits 128).toNat:Int)=((128+k%128:Nat):Int):=by
 have h:=u8_or (k%256) 128 aa aa;rw[show((128:Nat):Int)=128 from rfl]at h;have e:=aeQ (k%256) aa;refine(Eq.trans h ?_);rw[e];omega
theorem avP(k:Nat):(k:Int).fdiv (2^min (7:Int).toNat IntKind.u64.bits)=((k/128:Nat):Int):=by
 have e:min (7:Int).toNat IntKind.u64.bits=7:=by decide
 rw[e,wS _ aE];rfl
set_option maxRecDepth 20000 in
theorem ji(x:Nat)(hx:x<18446744073709551616):bg B w0 63 [.int .u64 x] F (λr L=>∃A c,r= .slice A (E (aW x)) c/\L= .own 5 1 A (E (aW x)) c (bv (aW x))::F):=by
 refine ba func63 19 [0] 6 ?_;refine aM 5 1 none (dw ?_);refine aw (λzf zL zm=>∃(k:Nat) (pre:aq) (A3:bh) (c3:Nat),(k<=x/\aW x=pre++aW k)/\k=zm/\Sub zf [(0,.int .u64 k),(3,.slice A3 (E pre) c3)]/\Wk zL (.own 5 1 A3 (E pre) c3 (bv pre)::F)) _ ⟨x,[],none,0,⟨ga _,ao⟩,rfl,a_,au rfl rfl (.refl _)⟩ ?_;rintro _ _ _ ⟨k,pre,A3,c3,⟨hk,he⟩,rfl,hs,hp⟩;refine aL hs hp ?_;have kh:=V7 he hx;refine ag 7 (λh5=>?_) λh5=>?_
 ·have hl:=(show(pre++[UInt8.ofNat (128+k%128)]).length=E pre+1 by simp)
  refine dg ?_;refine ab (be underlying60 underlying5 rfl (avt k)) rfl (ab (uv rfl rfl (asx k)) rfl (cC bP rfl rfl rfl rfl rfl (λ_=>rfl) aU aa aa ?_));intro _ tH zU;rw[<-hl];refine dx ?_;refine ab (dH rfl rfl aa (avP k)) rfl (fc ?_);refine aj ⟨_,aa,k/128,pre++[UInt8.ofNat (128+k%128)],tH,zU,⟨aa,NR he aa⟩,rfl,a_,au rfl (ym aa pre) (.refl _)⟩
 ·have hl:=(show(pre++[UInt8.ofNat k]).length=E pre+1 by simp)
  refine dh ?_;refine cC bP rfl rfl rfl rfl rfl (λ_=>rfl) aU aa aa ?_;intro _ uc wK;rw[<-hl];refine fb ?_;have CV:=NP he aa;rw[CV];exact ak (au rfl (ym aa pre) (.refl _)) (bO 1)
theorem as5(n:Nat):(n:Int).tmod 128=((n%128:Nat):Int):=by rw[WN aa];omega
theorem as3(h:n<18446744073709551616):IntKind.u64.wrap ((n:Int).tdiv 128)=((n/128:Nat):Int):=by
 have e:(n:Int).tdiv 128=((n/128:Nat):Int):=(Int.ofNat_tdiv n 128).symm;rw[e];exact eQ aa aa
set_option maxRecDepth 20000 in
theorem T_(x:Nat)(hx:x<18446744073709551616):bg B w0 77 [.int .u64 x] F (λr L=>∃A c,r= .slice A (E (aW x)) c/\L= .own 5 1 A (E (aW x)) c (bv (aW x))::F):=by
 refine ba func77 20 [0] 6 ?_;refine aM 5 1 none (dw ?_);refine aw (λzf zL zm=>∃(k:Nat) (pre:aq) (A3:bh) (c3:Nat),(k<=x/\aW x=pre++aW k)/\k=zm/\Sub zf [(0,.int .u64 k),(3,.slice A3 (E pre) c3)]/\Wk zL (.own 5 1 A3 (E pre) c3 (bv pre)::F)) _ ⟨x,[],none,0,⟨ga _,ao⟩,rfl,a_,au rfl rfl (.refl _)⟩ ?_;rintro _ _ _ ⟨k,pre,A3,c3,⟨hk,he⟩,rfl,hs,hp⟩;refine aL hs hp ?_;have kh:=V7 he hx;refine ag 7 (λh5=>?_) λh5=>?_
 ·have hl:=(show(pre++[UInt8.ofNat (128+k%128)]).length=E pre+1 by simp)
  refine dg ?_;refine ab (kl rfl rfl aa (as5 k)) rfl (ab (bF rfl rfl (r:=((128+k%128:Nat):Int)) ((eQ aa aa).trans aa)) rfl (aX ?_));refine cC bP rfl rfl rfl rfl rfl (λ_=>rfl) aU aa aa ?_;intro _ Rn c12;rw[<-hl];refine dx ?_;refine ab (iq rfl rfl aa (as3 aa)) rfl (fc ?_);refine aj ⟨_,aa,k/128,pre++[UInt8.ofNat (128+k%128)],Rn,c12,⟨aa,NR he aa⟩,rfl,a_,au rfl (ym aa pre) (.refl _)⟩
 ·have hl:=(show(pre++[UInt8.ofNat k]).length=E pre+1 by simp)
  refine dh ?_;refine cC bP rfl rfl rfl rfl rfl (λ_=>rfl) aU aa aa ?_;intro _ GA Q4;rw[<-hl];refine fb ?_;have CV:=NP he aa;rw[CV];exact ak (au rfl (ym aa pre) (.refl _)) (bO 1)
theorem LR(s:aq)(hs:E s<=1099511627776):bg B w0 143 [.string ⟨s.toArray⟩] F (λr L=>∃A c,r= .slice A (E (fg s)) c/\L= .own 5 1 A (E (fg s)) c (bv (fg s))::F):=by
 have h:=λw=>aoF (⟨s.toArray⟩:ByteArray) (by simpa[ByteArray.size]using hs) w;exact dQ.Bt λw _=>h w
theorem Xt(s:aq)(hs:E s<=1099511627776):bg B w0 133 [.string ⟨s.toArray⟩] F (λr L=>∃A c,r= .slice A (E (fg s)) c/\L= .own 5 1 A (E (fg s)) c (bv (fg s))::F):=by
 have h:=λw=>ajX (⟨s.toArray⟩:ByteArray) (by simpa[ByteArray.size]using hs) w;exact dQ.Bt λw _=>h w
theorem tB:type_of% @List.flatMap_append:= @List.flatMap_append
theorem Y5(w:World):
  Calls Tryz.prog 163 #[.slice none 0 0,ah 0] w λe w'=>e= .returned (.slice none 0 0)/\w=w':=by
 go_enter func163,Tryz.ntmps163
 go_wp2
 go_ret
 exact⟨rfl,rfl⟩
def akR(w:World)(e:Ending)(w':World):Prop:=∃v,e= .returned v/\w'.ownsRow w.heap.size 5 1 v 0 []
theorem aeV{w:World}{base:Nat}{e:TypeId}{cap:Nat}{cur:Array Value}(h:w.heap[g]? =some (.cells cur e (0,0)))(hb:base<=g)(hm:cap<=maxLen)(hc:cur.size=cap):
  w.ownsRow base e 1 (.slice (some ⟨g,0,none⟩) 0 cap) 0 []:=
 ⟨rfl,.inr ⟨g,cap,cur,rfl,hb,h,bD _,hm,by simpa using hc,ao⟩⟩
set_option maxRecDepth 100000 in
theorem adb(n:Nat)(h:0<n)(hn:n<=1099511627776)(w:World):
  Calls Tryz.prog 163 #[.slice none 0 0,ah n] w λe w'=>akR w e w'/\Below w.heap.size w w':=by
 obtain⟨i,hi,hz,hs,GF⟩:=L6;have tP:=Lib.run_append_nil_zeros (P:=Tryz.prog) w 27 3 27 5 i (.int .u8 0) .i64 .i64 underlying27 underlying3 hi hz n h aa aa (by rw[GF];omega);have x7:=grownCap_ge w n 0 5;have hle:=grownCap_le_maxLen w n 0 5 yd;generalize hG:grownCap w n 0 5=G at*;have h1:¬((n:Int)<0):=by omega
 have h2:(0:Int)<n:=by omega
 have HR:=gM tP;have HG:=gM hG;clear tP hG hi hz hs GF
 go_enter func163,Tryz.ntmps163
 go_wp2_with (at_builtin;refine Lib.wpList_append_run _ rfl _ _ _ _ rfl _ _ rfl rfl _ _ HR.out ?_)
 go_ret
 refine⟨⟨_,rfl,aeV (EY _ _) (ga _) hle ?_⟩,((EZ _ _).alloc (ga _) _).drew⟩;simp[size_zeroCells];omega
theorem amZ(n:Nat)(hn:n<=1099511627776)(w:World):
  Calls Tryz.prog 163 #[.slice none 0 0,ah n] w λe w'=>akR w e w'/\Below w.heap.size w w':=by
 rcases Be n with h|h
 ·subst h;refine(Y5 w).mono λe w' ⟨h1,h2⟩=>?_;subst h2;exact⟨⟨_,h1,World.ownsRow_nil _ _ _ _⟩,EZ _ _⟩
 ·exact adb n h hn w
abbrev eH:=List (Value×aq)
def eH.Dc(P:eH):cQ:=P.map (·.1)
def eH.all(P:eH):aq:=P.flatMap (·.2)
def eH.ok(P:eH)(w:World)(B:Nat):Prop:=∀x∈P,Rd w B 1 x.1 (E x.2) (bv x.2)
theorem eH.wG(P:eH){k:Nat}{x:Value×aq}(h:P[k]? =some x):eH.all (P.take (k+1))=eH.all (P.take k)++x.2:=by
 have hk:=(Hi.1 h).1;have hx:=(Hi.1 h).2;unfold eH.all;rw[List.take_succ_eq_append_getElem hk,tB,hx];simp
theorem eH.B4(P:eH)(k:Nat):E (eH.all (P.take k))<=E (eH.all P):=by
 unfold eH.all
 conv=>rhs;rw[<-kH k P,tB]
 simp
theorem eH.at_{P:eH}{w:World}(hr:0<n->∃ad,A=some ad/\ad.block<B/\∀j u,P.Dc[j]? =some u->w.cell? (ad.add j)=some u)(hP:P.ok w B)(hn:n=E P){k:Nat}(hk:k<n):∃ad A' c' x,A=some ad/\ad.block<B/\P[k]? =some x/\w.cell? (ad.add k)=some (.slice A' (E x.2) c')/\Rd w B 1 (.slice A' (E x.2) c') (E x.2) (bv x.2):=by
 obtain⟨ad,rfl,hb,hc⟩:=hr aa;have hx:P[k]? =some (P[k]'aa):=fx aa;have xp:=hP _ (List.mem_of_getElem? hx);have iw:=hc k (P[k]'aa).1 (by simp[eH.Dc,hx]);obtain⟨A',c',hv,h4,h5,h6⟩:=xp;rw[hv]at iw;exact⟨ad,A',c',_,rfl,hb,hx,iw,A',c',rfl,h4,h5,h6⟩
set_option maxRecDepth 100000 in
set_option maxHeartbeats 800000 in
theorem Nn{B n:Nat}{v:Value}{P:eH}(w:World)(hn:n=E P)(h:Rd w B 1 v n P.Dc)(hP:P.ok w B)(hB:B<=w.heap.size)(hlen:E P.all<=1099511627776)(yL:E P<=1099511627776):
  Calls Tryz.prog 93 #[v] w λe w'=>∃v',e= .returned v'/\w'.ownsRow w.heap.size 5 1 v' (E P.all) (bv P.all)/\Below w.heap.size w w':=by
 obtain⟨A,c,rfl,hc,hl,hr⟩:=h;rw[<-hn]at yL;have Hr:=gM hr;have HP:=gM hP;have Hn:=gM hn;have Hl:=gM hlen;clear hr hP hn hlen hl
 go_enter func93,Tryz.ntmps93
 go_wp2
 go_loop [3,5,11] (λz s i=>∃k m:Nat,k<=n/\i=ah k/\z=ah m/\m<=1099511627776/\Hid (m=E (eH.all (P.take k)))) (λ_ _ i=>n-(intOf i).toNat)
 case atStart=>exact⟨0,0,bD _,rfl,rfl,bD _,by simp[Hid,eH.all]⟩
 case round=>
  obtain⟨k,m,hk,rfl,rfl,hm,HM⟩:=hrel;by_cases gU:k<n
  ·obtain⟨ad,A',c',x,rfl,hab,hx,iw,xp⟩:=eH.at_ Hr.out HP.out Hn.out gU;have e1:=eH.wG P hx;have e2:=eH.B4 P (k+1);have G7:m+E x.2=E (eH.all (P.take (k+1))):=by rw[e1,bm,HM.out]
   have oh:m+E x.2<=1099511627776:=by rw[G7];exact iY e2 Hl.out
   have HM2:=gM G7;clear G7 e1 e2 xp hx
   go_wp2
   go_round
   case rel=>exact⟨k+1,m+E x.2,aa,yg,yg,oh,HM2⟩
   case measure=>simp[intOf];omega
  ·have hkn:k=n:=by omega
   have G7:m=E P.all:=by rw[HM.out,hkn,Hn.out,js]
   have HM2:=gM G7;clear G7 hkn
   go_wp2_with (go_at_call 163;refine(amZ m aa _).mono ?_;rintro e w1 ⟨⟨v1,rfl,uF⟩,nC⟩)
   have hwB:=nC.mono hB
   go_loopw [6,8,27] (λo s i wr=>∃k:Nat,k<=n/\i=ah k/\wr.ownsRow w.heap.size 5 1 o (E (eH.all (P.take k))) (bv (eH.all (P.take k)))/\Below w.heap.size w wr) (λ_ _ i _=>n-(intOf i).toNat)
   case atStart=>exact⟨0,bD _,rfl,by simpa[eH.all]using uF,nC⟩
   case round=>
    obtain⟨k,hk,rfl,kQ,hb⟩:=hrel;by_cases gU:k<n
    ·obtain⟨ad,A',c',x,rfl,hab,hx,adw,ar6⟩:=eH.at_ Hr.out HP.out Hn.out gU;have iw:=(hb.cell (p:=ad.add k) (by rw[sw];omega)).trans adw;have xp:=ar6.below (hb.mono hB);have e1:=gM (eH.wG P hx);have e2:=eH.B4 P (k+1);have e3:E (eH.all (P.take k))+E x.2<=1099511627776:=by
      rw[e1.out,bm]at e2;exact iY e2 Hl.out
     have iy:=hb.size;clear e2 ar6 adw hx
     go_wp2_with (at_builtin;refine UJ JF rfl (.tmp 31) (.tmp 32) rfl rfl kQ rfl xp (uk _) hb (ga _) iy aa aa ?_;intro v2 w2 Cj nD AW)
     go_roundw
     case rel=>exact⟨k+1,aa,yg,by rw[e1.out,bm,jn];exact Cj,nD⟩
     case measure=>simp[intOf];omega
    ·have hkn:P.take k=P:=gv (by have:=Hn.out;omega);have HK:=gM hkn;clear hkn
     go_wp2
     go_ret
     rw[HK.out]at kQ;exact⟨_,rfl,kQ,hb⟩
theorem akT{P:eH}(w:World)(hn:n=E P)(h:Rd w B 1 v n P.Dc)(hP:P.ok w B)(hB:B<=w.heap.size)(hlen:E P.all<=1099511627776)(yL:E P<=1099511627776):
  Calls Tryz.prog 52 #[v] w λe w'=>∃v',e= .returned v'/\w'.ownsRow w.heap.size 5 1 v' (E P.all) (bv P.all)/\Below w.heap.size w w':=by
 have h':=h;obtain⟨A,c,rfl,hc,hl,hr⟩:=h;have Hn:=gM hn;clear hr hl hc hn
 go_enter func52,Tryz.ntmps52
 go_wp2_with (go_at_call 93;refine(Nn _ Hn.out h' hP hB hlen yL).mono ?_;rintro e w1 ⟨v1,rfl,uF,nC⟩)
 go_ret
 exact⟨_,rfl,uF,nC⟩
theorem Vi(h:P:=by(rw[IW];rfl)):P:=h
theorem apE(h:P:=by(intro y hy;simp only[fq,kS,nL]at hy;rcases hy with rfl|rfl|rfl<;>exact aA)):P:=h
theorem kS:type_of% @List.not_mem_nil:= @List.not_mem_nil
theorem nL:type_of% @or_false:= @or_false
theorem ajI{P:eH}(hb:aJ B w0 F 1 (.slice A n c) n P.Dc)(hP:∀x∈P,aJ B w0 F 1 x.1 (E x.2) (bv x.2))(hn:n=E P)(pF:P.all=l)(hlen:E l<=1099511627776)(yL:E P<=1099511627776):
  bg B w0 52 [.slice A n c] F (λr L=>∃A' c',r= .slice A' (E l) c'/\L= .own 5 1 A' (E l) c' (bv l)::F):=by
 subst pF;exact dQ.Bt λw hw=>akT (B:=w.heap.size) w hn (hb w hw) (λx hx=>hP x hx w hw) (ga _) hlen yL
def ef(b:Bool)(x:aI):aq:=if b=true then aW x.1++[x.2.1] else []
def i_(b:Bool)(x:aI):aq:=ef b x++fg x.2.2.1++fg x.2.2.2
def ct(b:Bool)(L:List aI):aq:=L.flatMap (i_ b)
theorem kW{s:aq}(h:E s<=100000000000):E (fg s)<=E s+10:=by
 have:=aY (x:=E s) aa;unfold fg;rw[bm];omega
theorem u_{b:Bool}{x:aI}(hx:x.1<18446744073709551616):E (ef b x)<=11:=by
 have:=aY hx;unfold ef;split
 ·simp;omega
 ·simp
theorem pX{x:aI}(hx:x.1<18446744073709551616)(hw:x.w<=100000000000):E (i_ b x)<=2*x.w:=by
 have h:= @u_ b x hx;unfold aI.w at hw⊢;have h1:=kW (s:=x.2.2.1) aa;have h2:=kW (s:=x.2.2.2) aa;unfold i_;rw[bm,bm];omega
theorem T7(b:Bool)(L:List aI)(x:aI):ct b (L++[x])=ct b L++i_ b x:=by simp[ct]
theorem FK{L:List aI}{k:Nat}(h:k<E L):ct b (L.take (k+1))=ct b (L.take k)++i_ b (recAt L k):=by
 rw[aP h (0,0,[],[]),T7];rfl
theorem BW(x:aI)(L:List aI):dJ (x::L)=x.w+dJ L:=by simp[dJ]
theorem uQ:∀L:List aI,16*E L<=dJ L
 |[]=>by simp
 |x::L=>by
  have:=uQ L;rw[BW,ei];unfold aI.w;omega
theorem r7{b:Bool}:∀{L:List aI},(∀x∈L,x.1<18446744073709551616)->dJ L<=100000000000->E (ct b L)<=2*dJ L
 |[],_,_=>by simp[ct]
 |x::L,hx,hw=>by
  rw[BW]at hw⊢;have h1:=pX (b:=b) (hx x ao) aa;have h2:=r7 (b:=b) (λy hy=>hx y B8) (by omega:dJ L<=100000000000);simp only[ct,iX,bm]at h2⊢;omega
theorem agX{L:List aI}{k:Nat}(h:k<E L):(recAt L k).w<=dJ L:=by
 have h1:=mc h;have h2:=kE L (k+1);omega
theorem vQ{L:List aI}(h:∀x∈L,x.1<18446744073709551616){k:Nat}(hk:k<E L):(recAt L k).1<18446744073709551616:=h _ (bc hk _)
theorem Xk(b:Bool)(x:aI)(hx:x.1<18446744073709551616)(hw:x.w<=100000000000):
  bg B w0 82 [.bool b,.agg (aI.cells x).toArray] F (λr L=>∃A' c',r= .slice A' (E (i_ b x)) c'/\L= .own 5 1 A' (E (i_ b x)) c' (bv (i_ b x))::F):=by
 have ig:=aY hx;have KL:= @u_ b x hx;have hrb:=pX (b:=b) hx hw;have EJ:=hw;unfold aI.w at EJ;have q9:=kW (s:=x.2.2.1) aa;have oB:=kW (s:=x.2.2.2) aa;refine fw func82 23 [0,1] ?_;refine bM 2 λg3=>?_;refine fb ?_;refine aM 5 1 none (fb ?_);refine dq (λzf zL=>∃(A5:bh) (c5:Nat),Sub zf [(3,bq g3),(5,.slice A5 (E (ef b x)) c5)]/\Wk zL (.own 5 1 A5 (E (ef b x)) c5 (bv (ef b x)):: .bI g3 62 (aI.cells x)::F)) ?_ ?_
 ·refine fB 5 (λh6=>?_) λh6=>?_
  ·have IW:ef b x=aW x.1++[x.2.1]:=av h6;refine lx (.bI g3 62 (aI.cells x)::F) ?_;refine aF 0 2 ?_;refine aF 3 2 ?_;refine iv 2 5 ?_ ?_
   ·refine cj rfl rfl (ji x.1 hx) λA9 c9=>aC 5 (cF rfl (aG bP [_] rfl rfl bY aa aa) λRn=>aC 6 (fh rfl (bB bP rfl aU rfl aA bY aa aa) λso xd=>?_));rw[show(aW x.1).length+1=E (ef b x) by rw[IW];simp];refine dI 7 ?_;refine aX ?_;exact bo ⟨so,xd,a_,.skip (au rfl (by rw[IW];simp[bv]) (.skip (.refl _)))⟩
   ·refine cF rfl (aG bP [_] rfl rfl bY aa aa) λRn=>aC 2 (cj rfl rfl (ji x.1 hx) λA9 c9=>aC 6 (fh rfl (bB bP rfl aU rfl aA bY aa aa) λso xd=>?_));rw[show(aW x.1).length+1=E (ef b x) by rw[IW];simp];refine dI 7 ?_;refine aX ?_;exact bo ⟨so,xd,a_,au rfl (by rw[IW];simp[bv]) (.s2 (.refl _))⟩
  ·have IW:ef b x=[]:=aB (by simpa using h6);have SB:E (ef b x)=0:=by rw[IW];rfl
   refine aX ?_;exact bo ⟨none,0,a_,au Vi Vi (.refl _)⟩
 ·rintro _ _ ⟨A5,c5,hs,hp⟩;refine aL hs hp (cN 1 (.own 5 1 A5 (E (ef b x)) c5 (bv (ef b x)):: .bI g3 62 (aI.cells x)::F) ?_);refine aF 0 3 ?_;refine aF 4 2 ?_;refine aC 3 (cj rfl rfl (LR _ aa) λUS c17=>aC 6 (cj rfl rfl (LR _ aa) λBZ CP=>aC 7 (cF rfl (aG fO [_,_,_] rfl rfl bY aa aa) λA21=>aC 8 (cj rfl rfl (ajI (l:=i_ b x) (P:=[(.slice A5 (E (ef b x)) c5,ef b x),(.slice US (E (fg x.2.2.1)) c17,fg x.2.2.1),(.slice BZ (E (fg x.2.2.2)) CP,fg x.2.2.2)]) aA apE rfl (by simp[eH.all,i_]) (by unfold aI.w at hrb;omega) ao) λUT Vs=>?_))));refine dI 9 ?_;refine fc ?_;exact ak (L':=.own 5 1 UT (E (i_ b x)) Vs (bv (i_ b x))::F) (.cons (.s5 (.refl _))) (bO 1)
theorem zB(b:Bool)(x:aI)(hx:x.1<18446744073709551616)(hw:x.w<=100000000000):
  bg B w0 74 [.bool b,.agg (aI.cells x).toArray] F (λr L=>∃A' c',r= .slice A' (E (i_ b x)) c'/\L= .own 5 1 A' (E (i_ b x)) c' (bv (i_ b x))::F):=by
 have ig:=aY hx;have KL:= @u_ b x hx;have EJ:=hw;unfold aI.w at EJ;have q9:=kW (s:=x.2.2.1) aa;have oB:=kW (s:=x.2.2.2) aa;refine fw func74 27 [0,1] ?_;refine bM 2 λg3=>?_;refine fb ?_;refine aM 5 1 none (fb ?_);refine dq (λzf zL=>∃(A5:bh) (c5:Nat),Sub zf [(3,bq g3),(5,.slice A5 (E (ef b x)) c5)]/\Wk zL (.own 5 1 A5 (E (ef b x)) c5 (bv (ef b x)):: .bI g3 62 (aI.cells x)::F)) ?_ ?_
 ·refine fB 5 (λh6=>?_) λh6=>?_
  ·have IW:ef b x=aW x.1++[x.2.1]:=av h6;refine dx ?_;refine ay rfl (T_ x.1 hx) λz' RQ=>dB (bB bP rfl aU rfl aA bY aa aa) λtH zU=>dg ?_;refine cC bP rfl rfl rfl rfl rfl (λ_=>rfl) aU aa aa ?_;intro _ Ro Vr;rw[show 0+E (aW x.1)+1=E (ef b x) by rw[IW];simp];refine ew ?_;exact bo ⟨Ro,Vr,a_,.skip (au rfl (by rw[IW];simp[bv]) (.refl _))⟩
  ·have IW:ef b x=[]:=aB (by simpa using h6);have SB:E (ef b x)=0:=by rw[IW];rfl
   refine aX ?_;exact bo ⟨none,0,a_,au Vi Vi (.refl _)⟩
 ·rintro _ _ ⟨A5,c5,hs,hp⟩;refine aL hs hp (dx ?_);refine ay rfl (Xt _ aa) λBZ CP=>dB (bB bP rfl aU rfl aA bY aa aa) λA21 c21=>cY ?_;refine ay rfl (Xt _ aa) λX9 c25=>dB (bB bP rfl aU rfl aA bY aa aa) λsp zV=>fb ?_;have e:E (ef b x)+E (fg x.2.2.1)+E (fg x.2.2.2)=E (i_ b x):=by unfold i_;rw[bm,bm]
  rw[e];exact ak (L':=.own 5 1 sp (E (i_ b x)) zV (bv (i_ b x))::F) (.s2 (au rfl (by simp[i_]) (.skip (.refl _)))) (bO 1)
theorem Jt(b:Bool)(L:List aI)(hb:aJ B w0 F 4 (.slice A (E L) c) (E L) (cD L))(hx:∀x∈L,x.1<18446744073709551616)(hw:dJ L<=100000000000):
  bg B w0 45 [.bool b,.slice A (E L) c] F (λr K=>∃A' c',r= .slice A' (E (ct b L)) c'/\K= .own 5 1 A' (E (ct b L)) c' (bv (ct b L))::F):=by
 have hlw:=uQ L;refine ba func45 21 [0,1] 6 ?_;refine aM 5 1 none (bK 13 ?_);refine aw (λzf zL zm=>∃(k:Nat) (A5:bh) (c5:Nat),(k<=E L)/\E L-k=zm/\Sub zf [(0,.bool b),(5,.slice A5 (E (ct b (L.take k))) c5),(8,.slice A (E L) c),(9,ah (E L)),(10,ah k)]/\Wk zL (.own 5 1 A5 (E (ct b (L.take k))) c5 (bv (ct b (L.take k)))::F)) _ ⟨0,none,0,bD _,rfl,a_,au rfl rfl (.refl _)⟩ ?_;rintro _ _ _ ⟨k,A5,c5,hk,rfl,hs,hp⟩;refine aL hs hp (ag 6 (λoA=>?_) λoA=>?_)
 ·have EK:=vQ hx (k:=k) aa;have OC:=agX (L:=L) (k:=k) aa;have hrb:=pX (b:=b) EK aa;have hws:=r7 (b:=b) (L:=L.take k) (λx h=>hx x (ia h)) (by have:=kE L k;omega);have x_:=kE L k;have pG:=oR (recAt L k);refine dw ?_;refine ab (az (i:=k) (size:=4) underlying24 ae rfl rfl rfl aa aA) rfl ?_;refine ab (bU 4 ae rfl aA aa (aI.cells (recAt L k)) (iS aa) rfl) rfl ?_;refine fo λg7=>?_;refine dg ?_;refine ay rfl (Xk b _ EK aa) λUS c17=>dB (bB bP rfl aU rfl aA bY aa aa) λuc wK=>cY ?_;have e:ct b (L.take (k+1))=ct b (L.take k)++i_ b (recAt L k):=FK aa;have el:E (ct b (L.take k))+E (i_ b (recAt L k))=E (ct b (L.take (k+1))):=by rw[e,bm]
  rw[el];refine aj ⟨_,aa,k+1,uc,wK,aa,rfl,a_,.s2 (au rfl (by rw[e,jn]) (.refl _))⟩
 ·refine dM ?_;have x8:k=E L:=by omega
  subst x8;rw[js];exact bO 1
theorem T3(b:Bool)(L:List aI)(hb:aJ B w0 F 4 (.slice A (E L) c) (E L) (cD L))(hx:∀x∈L,x.1<18446744073709551616)(hw:dJ L<=100000000000):
  bg B w0 40 [.bool b,.slice A (E L) c] F (λr K=>∃A' c',r= .slice A' (E (ct b L)) c'/\K= .own 5 1 A' (E (ct b L)) c' (bv (ct b L))::F):=by
 have hlw:=uQ L;refine ba func40 22 [0,1] 6 ?_;refine aM 5 1 none (fF ?_);refine aw (λzf zL zm=>∃(k:Nat) (A5:bh) (c5:Nat),(k<=E L)/\E L-k=zm/\Sub zf [(0,.bool b),(1,.slice A (E L) c),(5,.slice A5 (E (ct b (L.take k))) c5),(6,ah k)]/\Wk zL (.own 5 1 A5 (E (ct b (L.take k))) c5 (bv (ct b (L.take k)))::F)) _ ⟨0,none,0,bD _,rfl,a_,au rfl rfl (.refl _)⟩ ?_;rintro _ _ _ ⟨k,A5,c5,hk,rfl,hs,hp⟩;refine aL hs hp (ag 9 (λig=>?_) λig=>?_)
 ·have EK:=vQ hx (k:=k) aa;have OC:=agX (L:=L) (k:=k) aa;have hrb:=pX (b:=b) EK aa;have hws:=r7 (b:=b) (L:=L.take k) (λx h=>hx x (ia h)) (by have:=kE L k;omega);have x_:=kE L k;have pG:=oR (recAt L k);refine dA ?_;refine ab (az (i:=k) (size:=4) underlying24 ae rfl rfl rfl aa aA) rfl ?_;refine ab (bU 4 ae rfl aA aa (aI.cells (recAt L k)) (iS aa) rfl) rfl ?_;refine ay rfl (zB b _ EK aa) λGA Q4=>dB (bB bP rfl aU rfl aA bY aa aa) λBZ CP=>dA ?_;have e:ct b (L.take (k+1))=ct b (L.take k)++i_ b (recAt L k):=FK aa;have el:E (ct b (L.take k))+E (i_ b (recAt L k))=E (ct b (L.take (k+1))):=by rw[e,bm]
  rw[el];refine aj ⟨_,aa,k+1,BZ,CP,aa,rfl,a_,.skip (au rfl (by rw[e,jn]) (.refl _))⟩
 ·refine dM ?_;have x8:k=E L:=by omega
  subst x8;rw[js];exact bO 1
def zig(d:Nat):Nat:=if d<9223372036854775808 then 2*d else 2*(18446744073709551615-d)+1
def UQ(z:Nat):Nat:=if z%2=1 then 18446744073709551615-z/2 else z/2
theorem UR{d:Nat}(h:d<18446744073709551616):zig d<18446744073709551616:=by unfold zig;split<;>omega
theorem akQ{d:Nat}(h:d<18446744073709551616):UQ (zig d)=d:=by
 unfold zig;split
 ·unfold UQ;rw[aB aa];omega
 ·unfold UQ;rw[av aa];omega
theorem QW(a:Nat)(h:a<18446744073709551616):a ^^^ 18446744073709551615=18446744073709551615-a:=by
 have h1:(BitVec.ofNat 64 a ^^^ BitVec.allOnes 64).toNat=(~~~ (BitVec.ofNat 64 a)).toNat:=by rw[BitVec.xor_allOnes]
 rw[BitVec.toNat_xor,BitVec.toNat_not,BitVec.toNat_ofNat,BitVec.toNat_allOnes,ly (show a<2^64 from h)]at h1;exact h1
theorem ahc(x:Nat)(h:x<18446744073709551616):
  bits .xor .u64 (IntKind.u64.wrap ((x:Int)*2)) (IntKind.u64.wrap (-((x:Int)/9223372036854775808)))=((zig x:Nat):Int):=by
 unfold zig;by_cases hx:x<9223372036854775808
 ·rw[av hx];have e1:IntKind.u64.wrap ((x:Int)*2)=((2*x:Nat):Int):=by show((x:Int)*2)%18446744073709551616=_;omega
  have e2:IntKind.u64.wrap (-((x:Int)/9223372036854775808))=((0:Nat):Int):=by show(-((x:Int)/9223372036854775808))%18446744073709551616=_;omega
  rw[e1,e2,u64_xor _ _ aa aa,Nat.xor_zero]
 ·rw[aB hx];have e1:IntKind.u64.wrap ((x:Int)*2)=((2*x-18446744073709551616:Nat):Int):=by show((x:Int)*2)%18446744073709551616=_;omega
  have e2:IntKind.u64.wrap (-((x:Int)/9223372036854775808))=((18446744073709551615:Nat):Int):=by show(-((x:Int)/9223372036854775808))%18446744073709551616=_;omega
  rw[e1,e2,u64_xor _ _ aa aa,QW _ aa];omega
theorem ahb(x:Nat)(h:x<18446744073709551616):
  bits .xor .u64 ((x:Int)/2) (IntKind.u64.wrap (-(bits .and .u64 (x:Int) 1)))=((UQ x:Nat):Int):=by
 have ea:bits .and .u64 (x:Int) 1=((x%2:Nat):Int):=by
  have:=u64_and x 1 h aa;rw[EV]at this;exact this
 rw[ea];unfold UQ;by_cases hx:x%2=1
 ·rw[av hx,hx];have e2:IntKind.u64.wrap (-((1:Nat):Int))=((18446744073709551615:Nat):Int):=by decide+kernel
  rw[e2,show((x:Int)/2)=((x/2:Nat):Int) from by omega,u64_xor _ _ aa aa,QW _ aa]
 ·rw[aB hx,show x%2=0 from by omega];have e2:IntKind.u64.wrap (-((0:Nat):Int))=((0:Nat):Int):=by decide+kernel
  rw[e2,show((x:Int)/2)=((x/2:Nat):Int) from by omega,u64_xor _ _ aa aa,Nat.xor_zero]
theorem zsh(x:Nat):IntKind.u64.wrap ((x:Int)*2^min (1:Int).toNat IntKind.u64.bits)=IntKind.u64.wrap ((x:Int)*2):=by
 have e:min (1:Int).toNat IntKind.u64.bits=1:=by decide
 rw[e];rfl
theorem zhi(x:Nat):(x:Int).fdiv (2^min (63:Int).toNat IntKind.u64.bits)=(x:Int)/9223372036854775808:=by
 have e:min (63:Int).toNat IntKind.u64.bits=63:=by decide
 rw[e,wS _ aE];rfl
theorem zng(x:Nat):IntKind.u64.wrap (0-(x:Int)/9223372036854775808)=IntKind.u64.wrap (-((x:Int)/9223372036854775808)):=by rw[Int.zero_sub]
theorem avX(x:Nat)(hx:x<18446744073709551616):IntKind.u64.wrap ((BitVec.ofInt IntKind.u64.bits (IntKind.u64.wrap ((x:Int)*2)) ^^^ BitVec.ofInt IntKind.u64.bits (IntKind.u64.wrap (-((x:Int)/9223372036854775808)))).toNat:Int)=((zig x:Nat):Int):=ahc x hx
set_option maxRecDepth 20000 in
theorem atf(x:Nat)(hx:x<18446744073709551616):bg B w0 86 [.int .u64 x] F (λr L=>r= .int .u64 (zig x)/\L=F):=by
 refine ba func86 9 [0] 8 ?_;refine ab (gG rfl rfl aa (zsh x)) rfl (aX ?_);exact ab (dH rfl rfl aa (zhi x)) rfl (ab (VU rfl (zng x)) rfl (ab (lg rfl rfl (avX x hx)) rfl (cm 5)))
theorem zsr(x:Nat):(x:Int).fdiv (2^min (1:Int).toNat IntKind.u64.bits)=(x:Int)/2:=by
 have e:min (1:Int).toNat IntKind.u64.bits=1:=by decide
 rw[e,wS _ aE];rfl
theorem zan(x:Nat)(hx:x<18446744073709551616):IntKind.u64.wrap ((BitVec.ofInt IntKind.u64.bits (x:Int) &&& BitVec.ofInt IntKind.u64.bits 1).toNat:Int)=((x%2:Nat):Int):=by
 have:=u64_and x 1 hx aa;rw[EV]at this;exact this
theorem avW(x:Nat):IntKind.u64.wrap (0-((x%2:Nat):Int))=IntKind.u64.wrap (-((x%2:Nat):Int)):=by rw[Int.zero_sub]
theorem zax(x:Nat)(hx:x<18446744073709551616):IntKind.u64.wrap ((BitVec.ofInt IntKind.u64.bits ((x:Int)/2) ^^^ BitVec.ofInt IntKind.u64.bits (IntKind.u64.wrap (-((x%2:Nat):Int)))).toNat:Int)=((UQ x:Nat):Int):=by
 have h:=ahb x hx;have ea:bits .and .u64 (x:Int) 1=((x%2:Nat):Int):=zan x hx;rw[ea]at h;exact h
theorem ate(x:Nat)(hx:x<18446744073709551616):bg B w0 295 [.int .u64 x] F (λr L=>r= .int .u64 (UQ x)/\L=F):=by
 refine ba func295 9 [0] 8 ?_;refine ab (dH rfl rfl aa (zsr x)) rfl (aX ?_);exact ab (kj rfl rfl (zan x hx)) rfl (ab (VU rfl (avW x)) rfl (ab (lg rfl rfl (zax x hx)) rfl (cm 5)))
def dlt(a b:Nat):Nat:=(a+(18446744073709551616-b))%18446744073709551616
theorem Eg(a b:Nat):dlt a b<18446744073709551616:=rG _ aa
theorem acC{a b:Nat}(hb:b<18446744073709551616):IntKind.u64.wrap ((a:Int)-(b:Int))=((dlt a b:Nat):Int):=by
 show((a:Int)-b)%18446744073709551616=_;unfold dlt;omega
def qI:Nat->List aI->aq
 |_,[]=>[]
 |was,x::L=>aW (zig (dlt x.1 was))++qI x.1 L
def uM(was:Nat)(L:List aI):Nat:=L.foldl (λ_ x=>x.1) was
theorem Io(x:aI):∀(L:List aI) (was:Nat),qI was (L++[x])=qI was L++aW (zig (dlt x.1 (uM was L)))
 |[],was=>by simp[qI,uM]
 |y::L,was=>by
  rw[nM,qI,qI,Io x L y.1,bT];rfl
theorem E4(was:Nat)(L:List aI)(x:aI):uM was (L++[x])=x.1:=by simp[uM]
theorem Yu{L:List aI}{k:Nat}(h:k<E L):qI 0 (L.take (k+1))=qI 0 (L.take k)++aW (zig (dlt (recAt L k).1 (uM 0 (L.take k)))):=by
 rw[aP h (0,0,[],[]),Io];rfl
theorem Tn{L:List aI}{k:Nat}(h:k<E L):uM 0 (L.take (k+1))=(recAt L k).1:=by
 rw[aP h (0,0,[],[]),E4];rfl
theorem ad5{L:List aI}(hx:∀x∈L,x.1<18446744073709551616):uM 0 L<18446744073709551616:=by
 rcases List.eq_nil_or_concat L with rfl|⟨M,x,rfl⟩
 ·simp[uM]
 ·rw[List.concat_eq_append,E4];exact hx x ao
theorem NO(a b:Nat):E (aW (zig (dlt a b)))<=10:=aY (UR (Eg a b))
theorem D5:∀(L:List aI) (was:Nat),E (qI was L)<=10*E L
 |[],was=>by simp[qI]
 |x::L,was=>by
  have h1:=NO x.1 was;have h2:=D5 L x.1;rw[qI,bm,ei];omega
def run(x:UInt8):aq->Nat
 |[]=>0
 |y::l=>if y=x then run x l+1 else 0
theorem Ua(x:UInt8):∀l,run x l<=E l
 |[]=>ga _
 |y::l=>by
  have:=Ua x l;unfold run;split<;>simp<;>omega
def oL:Option UInt8->aq->aq
 |_,[]=>[]
 |p,x::l=>if p=some x then oL (some x) l else x::(aW (1+run x l)++oL (some x) l)
theorem D4(x:UInt8):∀l,oL (some x) l=oL none (l.drop (run x l))
 |[]=>rfl
 |y::l=>by
  unfold run;by_cases h:y=x
  ·subst h;rw[av rfl,Co,oL,av rfl];exact D4 y l
  ·rw[aB h,qS,oL,oL,aB (by simpa using λe=>h e.symm),aB ao]
theorem Nm:∀(l:aq) (p:Option UInt8),E l<=1000000000->E (oL p l)<=11*E l
 |[],p,_=>by cases p<;>simp[oL]
 |x::l,p,h=>by
  simp only[ei]at h;have h1:=Nm l (some x) aa;have h2:=aY (x:=1+run x l) (by have:=Ua x l;omega);rw[oL];split
  ·simp only[ei];omega
  ·simp only[ei,bm];omega
def lv(L:List aI):aq:=L.map (·.2.1)
theorem rV(L:List aI):E (lv L)=E L:=by simp[lv]
theorem E_(L:List aI)(k:Nat):(recAt L k).2.1=(lv L).getD k 0:=by
 unfold recAt lv;simp only[bz,ib];cases L[k]? <;>rfl
theorem ai9(L:List aI)(k:Nat):lv (L.drop k)=(lv L).drop k:=by simp[lv]
def kM(L:List aI):aq:=qI 0 L++oL none (lv L)
theorem rj{L:List aI}(h:E L<=1000000):E (kM L)<=21*E L:=by
 have h1:=D5 L 0;have h2:=Nm (lv L) none (by rw[rV];omega);rw[rV]at h2;rw[kM,bm];omega
theorem pj:∀(L:List aI) (k:Nat),(cD L).drop (k*4)=cD (L.drop k)
 |L,0=>by simp
 |[],k+1=>by simp[cD]
 |x::L,k+1=>by
  have h:=pj L k;rw[Co,<-h];simp only[cD,iX];rw[jR,tx (k*4) 4,<-mX];rfl
theorem Yt(h:0<E l):oL none l=(l.getD 0 0)::(aW (1+run (l.getD 0 0) (l.drop 1))++oL none (l.drop (1+run (l.getD 0 0) (l.drop 1)))):=by
 match l,h with
 |x::l,_=>
  rw[oL,aB ao,D4];simp only[List.getD_cons_zero,Co,qS];rw[tx 1,Co]
theorem P7{x:UInt8}{k:Nat}(h:k<E l):run x (l.drop k)=if l.getD k 0=x then run x (l.drop (k+1))+1 else 0:=by
 rw[cy h 0,run]
theorem YA(L:List aI)(hb:aJ B w0 F 4 (.slice A (E L) c) (E L) (cD L))(hx:∀x∈L,x.1<18446744073709551616)(hl:E L<=1000000):
  bg B w0 47 [.slice A (E L) c] F (λr K=>∃A' c',r= .slice A' (E (kM L)) c'/\K= .own 5 1 A' (E (kM L)) c' (bv (kM L))::F):=by
 have hcb:=rj hl;refine ba func47 61 [0] 6 ?_;refine aM 5 1 none (bK 18 ?_);refine aw (λzf zL zm=>∃(k:Nat) (A3:bh) (c3:Nat),(k<=E L)/\E L-k=zm/\Sub zf [(0,.slice A (E L) c),(3,.slice A3 (E (qI 0 (L.take k))) c3),(4,.int .u64 (uM 0 (L.take k))),(8,.slice A (E L) c),(9,ah (E L)),(10,ah k)]/\Wk zL (.own 5 1 A3 (E (qI 0 (L.take k))) c3 (bv (qI 0 (L.take k)))::F)) _ ⟨0,none,0,bD _,rfl,a_,au rfl rfl (.refl _)⟩ ?_;rintro _ _ _ ⟨k,A3,c3,hk,rfl,hs,hp⟩;refine aL hs hp ?_;clear hs hp;refine ag 6 (λoA=>?_) λoA=>?_
 ·have EK:=vQ hx (k:=k) aa;have gU:=ad5 (L:=L.take k) (λx h=>hx x (ia h));have yO:=D5 (L.take k) 0;have CW:=List.length_take_le k L;have pG:=oR (recAt L k);have e:=Yu (L:=L) (k:=k) aa;have e2:=Tn (L:=L) (k:=k) aa;have CV:=NO (recAt L k).1 (uM 0 (L.take k));have el:E (qI 0 (L.take k))+E (aW (zig (dlt (recAt L k).1 (uM 0 (L.take k)))))=E (qI 0 (L.take (k+1))):=by rw[e,bm]
  refine dw ?_;refine ab (az (i:=k) (size:=4) underlying24 ae rfl rfl rfl aa aA) rfl ?_;refine ab (bU 4 ae rfl aA aa (aI.cells (recAt L k)) (iS aa) rfl) rfl ?_;refine fo λg6=>?_;refine dA ?_;refine ab (cU rfl rfl (acC gU)) rfl (ai rfl (atf _ (Eg _ _)) (ay rfl (ji _ (UR (Eg _ _))) λBZ CP=>dB (bB bP rfl aU rfl aA bY aa aa) λA21 c21=>?_));refine aD 13 [0,3,4,8,9,10] 0 ?_;rw[el];refine aj ⟨_,aa,k+1,A21,c21,aa,rfl,a_,.s2 (au rfl (by rw[e,jn]) (.refl _))⟩
 ·refine dg ?_;refine aw (λzf zL zm=>∃(M:List aI) (m:Nat) (A0:bh) (c0:Nat) (pre:aq) (A4:bh) (c4:Nat),(m=E M/\m<=E L/\aJ B w0 F 4 (.slice A0 m c0) m (cD M)/\kM L=pre++oL none (lv M))/\m=zm/\Sub zf [(0,.slice A0 m c0),(3,.slice A4 (E pre) c4)]/\Wk zL (.own 5 1 A4 (E pre) c4 (bv pre)::F)) _ ⟨L,E L,A,c,qI 0 (L.take k),A3,c3,⟨rfl,ga _,hb,by rw[gv aa];rfl⟩,rfl,a_,.refl _⟩ ?_;rintro _ _ _ ⟨M,m,A0,c0,pre,A4,c4,⟨hm,G7,hbm,EG⟩,rfl,hs,hp⟩;refine aL hs hp ?_;clear hs hp;have kh:E pre<=E (kM L):=by rw[EG,bm];omega
  have hlv:E (lv M)=m:=by rw[rV,hm]
  refine ag 8 (λkq=>?_) λkq=>?_
  ·refine dh ?_;refine aw (λzf zL zm=>∃(i:Nat),(1<=i/\i<=m/\run ((lv M).getD 0 0) ((lv M).drop 1)=(i-1)+run ((lv M).getD 0 0) ((lv M).drop i))/\m-i=zm/\Sub zf [(0,.slice A0 m c0),(3,.slice A4 (E pre) c4),(7,ah i)]/\Wk zL (.own 5 1 A4 (E pre) c4 (bv pre)::F)) _ ⟨1,⟨ga _,aa,aa⟩,rfl,a_,.refl _⟩ ?_;rintro _ _ _ ⟨i,⟨hi1,him,tP⟩,rfl,hs,hp⟩;refine aL hs hp ?_;clear hs hp;refine fc ?_;refine sE 16 43 [0,3,7] ((i:Int)<m/\((recAt M i).2.1.toNat:Int)=(recAt M 0).2.1.toNat) ?_ ?_
   ·refine dx ?_;refine jy rfl rfl rfl (λvJ=>?_) (λvJ=>?_)
    ·refine dw ?_;refine bJ (aV underlying62 rfl ae rfl aA aa rfl) rfl (aX ?_);refine bJ (bH ae rfl aA aa ((qB aa aE).trans rfl)) rfl (fc ?_);refine bJ (az (i:=0) (size:=4) underlying24 ae rfl rfl rfl aa aA) rfl (aX ?_);refine bJ (aV underlying62 rfl ae rfl aA aa rfl) rfl (aX ?_);refine bJ (bH ae rfl aA aa ((qB aa aE).trans rfl)) rfl (fc ?_);exact ke Vl
    ·refine dh ?_;exact ke Vl
   ·refine ag 2 (λGC=>?_) λGC=>?_
    ·have hq:(lv M).getD i 0=(lv M).getD 0 0:=by rw[<-E_,<-E_];exact oF.1 aa
     have hs:=P7 (x:=(lv M).getD 0 0) (l:=lv M) (k:=i) aa;rw[av hq]at hs;refine dA ?_;refine aj ⟨_,aa,i+1,⟨aa,aa,aa⟩,rfl,a_,.refl _⟩
    ·have hz:run ((lv M).getD 0 0) ((lv M).drop i)=0:=by
      by_cases hi:i<m
      ·rw[P7 aa,aB (λhq=>GC ⟨aa,by rw[E_,E_,hq]⟩)]
      ·rw[kr aa];rfl
     have hch:=Yt (l:=lv M) aa;rw[tP,hz,show 1+(i-1+0)=i by omega,<-ai9]at hch;have hni:=aY (x:=i) aa;have auQ:=E_ M 0;have hcut:=hbm.cut (k:=i) aa;rw[pj]at hcut;refine dA ?_;refine ab (az (i:=0) (size:=4) underlying24 ae rfl rfl rfl aa aA) rfl ?_;refine ab (aV underlying62 rfl ae rfl aA aa rfl) rfl ?_;refine ab (bH ae rfl aA aa ((qB aa aE).trans rfl)) rfl ?_;refine cC bP rfl rfl rfl rfl rfl (λ_=>rfl) aU aa aa ?_;intro _ Q2 Vt;refine ew ?_;refine ay rfl (ji i aa) λA55 c55=>dB (bB bP rfl aU rfl aA bY aa aa) λA56 c56=>dw ?_;refine ab (bV (i:=i) (size:=4) underlying24 ae rfl rfl rfl aa) rfl (aD 1 [0,3] 1 ?_);have el:E pre+1+E (aW i)=E (pre++((lv M).getD 0 0::aW i)):=by simp;omega
     rw[el];refine aj ⟨_,aa,M.drop i,m-i,_,_,pre++((lv M).getD 0 0::aW i),A56,c56,⟨by rw[jM,hm],aa,hcut,by rw[EG,hch];simp⟩,rfl,a_,.skip (au rfl (by simp[bv,auQ]) (.refl _))⟩
  ·refine dM ?_;have hM:M=[]:=mg aa;subst hM;have auz:kM L=pre:=by rw[EG];simp[lv,oL]
   rw[auz];exact bO 1
theorem afB{l2:aq}(h1:aJ B w0 F 1 (.slice A n c) n (bv l))(h2:aJ B w0 F 1 (.slice A2 n2 c2) n2 (bv l2)):
  bg B w0 11 [.slice A n c,.slice A2 n2 c2] F (λr L=>r= .bool (decide (l=l2))/\L=F):=by
 refine ba func11 10 [0,1] 8 ?_;refine ab (pz underlying27 underlying5 underlying9 rfl aA) rfl (aX ?_);refine ab (pz underlying27 underlying5 underlying9 rfl aA) rfl ?_;exact cm 6
theorem b_1(h:P:=by(first|rfl|exact dT (by first|exact .inl (by omega)|exact .inr (.inl ig)|exact⟨λh=>.inr (.inr (by omega)),λh=>by rcases h with h|h|h<;>first|omega|exact absurd h ig⟩)|exact dS (by first|exact .inl (by omega)|exact .inr (.inl ig)|exact⟨λh=>.inr (.inr (by omega)),λh=>by rcases h with h|h|h<;>first|omega|exact absurd h ig⟩)|exact dG (by first|exact .inl (by omega)|exact .inr (.inl ig)|exact⟨λh=>.inr (.inr (by omega)),λh=>by rcases h with h|h|h<;>first|omega|exact absurd h ig⟩)|exact oW (by first|exact .inl (by omega)|exact .inr (.inl ig)|exact⟨λh=>.inr (.inr (by omega)),λh=>by rcases h with h|h|h<;>first|omega|exact absurd h ig⟩))):P:=h
theorem OU:type_of% @Nat.lt_succ_iff_lt_or_eq:= @Nat.lt_succ_iff_lt_or_eq
def uS(x:aI):Prop:=4000<E x.2.2.1\/4000<E x.2.2.2
instance (x:aI):Decidable (uS x):=inferInstanceAs (Decidable (_\/_))
theorem anQ(x:aI):bg B w0 80 [.agg (aI.cells x).toArray] F (λr L=>r= .bool (decide (uS x))/\L=F):=by
 refine fw func80 13 [0] ?_;refine bM 2 λg1=>?_;refine bf 5 10 12 [] ((4000:Int)<(E x.2.2.1:Int)\/(4000:Int)<(E x.2.2.2:Int)) ?_ ?_
 ·refine bk 5 (λh7=>?_) (λh7=>?_)
  ·exact ax 8 (k:=Vl)
  ·exact ax 4 (k:=Vl)
 ·refine fb ?_;refine ak (L':=F) (.skip (.refl _)) (aX ?_);exact⟨by rw[xz.2 (show((4000:Int)<(E x.2.2.1:Int)\/(4000:Int)<(E x.2.2.2:Int))↔uS x by unfold uS;omega)],rfl⟩
theorem aiO(L:List aI)(hb:aJ B w0 F 4 (.slice A (E L) c) (E L) (cD L))(hl:E L<=1000000):
  bg B w0 142 [.slice A (E L) c,.func (.func 80) #[] #[]] F (λr K=>∃v:Int,r=ah v/\K=F/\(0<=v↔∃x∈L,uS x)):=by
 refine ba func142 19 [0,1] 14 ?_;refine aw (λzf zL zm=>∃(k:Nat),(k<=E L/\∀i,i<k->¬uS (recAt L i))/\E L-k=zm/\Sub zf [(0,.slice A (E L) c),(1,.func (.func 80) #[] #[]),(7,ah (E L)),(8,ah k)]/\Wk zL (F)) _ ⟨0,⟨bD _,λi h=>absurd h aa⟩,rfl,a_,.refl _⟩ ?_;rintro _ _ _ ⟨k,⟨hk,rz⟩,rfl,hs,hp⟩;refine aL hs hp (ag 6 (λh9=>?_) λh9=>?_)
 ·refine bK 15 ?_;refine ab (az (i:=k) (size:=4) underlying24 ae rfl rfl rfl aa aA) rfl ?_;refine ab (bU 4 ae rfl aA aa (aI.cells (recAt L k)) (iS aa) rfl) rfl ?_;refine vr atO rfl rfl (anQ (recAt L k)) rfl ?_;rintro _ _ ⟨rfl,cR⟩;obtain rfl:=cR.symm;refine ag 2 (λj0=>?_) λj0=>?_
  ·refine bK 13 ?_;exact⟨_,rfl,rfl,by constructor;exact λ_=>⟨_,bc (show k<E L by omega) (0,0,[],[]),j0⟩;exact λ_=>aa⟩
  ·refine dg ?_;refine aj ⟨_,aa,k+1,⟨aa,λi h=>by rcases OU.1 h with h|h;exact rz i h;exact h▸j0⟩,rfl,a_,.refl _⟩
 ·refine dM ?_;refine⟨_,rfl,rfl,λh=>absurd h aa,λ⟨x,hx,hlx⟩=>?_⟩;obtain⟨i,hi,rfl⟩:=mF hx;have:=rz i aa;unfold recAt at this;rw[bz,fx hi]at this;exact absurd hlx this
theorem R1(L:List aI)(hb:aJ B w0 F 4 (.slice A (E L) c) (E L) (cD L))(hl:E L<=1000000):
  bg B w0 79 [.slice A (E L) c,.func (.func 80) #[] #[]] F (λr K=>r= .bool (decide (∃x∈L,uS x))/\K=F):=by
 refine ba func79 9 [0,1] 9 ?_;refine bp aqe rfl (aiO L hb hl) rfl ?_;rintro _ _ ⟨v,rfl,cR,hv⟩;obtain rfl:=cR.symm;refine dw ?_;exact⟨by rw[xz.2 hv],rfl⟩
def dC(L:List aI):Int:=if 20000<E L\/(∃x∈L,uS x)\/1048576<dJ L then 6 else 0
theorem Gy:∀{L:List aI},(¬∃x∈L,uS x)->dJ L<=8016*E L
 |[],_=>by simp[dJ]
 |x::L,h=>by
  have h1:=Gy (L:=L) λ⟨y,hy,hl⟩=>h ⟨y,B8,hl⟩;have h2:¬uS x:=λhl=>h ⟨x,ao,hl⟩;unfold uS at h2;rw[BW,ei];unfold aI.w;omega
theorem pg(L:List aI)(hb:aJ B w0 F 4 (.slice A (E L) c) (E L) (cD L)):
  bg B w0 42 [.slice A (E L) c] F (λr K=>r=ah (dC L)/\K=F):=by
 refine fw func42 15 [0] ?_;refine bf 8 12 14 [] (20000<E L\/(∃x∈L,uS x)\/1048576<dJ L) ?_ ?_
 ·refine bk 4 (λh6=>?_) (λh6=>?_)
  ·refine ew ?_;refine ai rfl (R1 L hb aa) (bk 2 (λig=>?_) (λig=>?_))
   ·refine ew ?_;exact ai rfl (agY L hb (by have:=Gy ig;omega) aa) (ax 3 (k:=b_1))
   ·exact ax 3 (k:=b_1)
  ·exact ax 7 (k:=b_1)
 ·refine ag 2 (λgT=>?_) λgT=>?_
  ·refine cY ?_;exact⟨by rw[dC,av gT],rfl⟩
  ·refine dA ?_;exact⟨by rw[dC,aB gT],rfl⟩
def bN(l:br):cQ:=l.map λ(n:Nat)=>Value.int .i64 (n:Int)
@[simp] theorem alK(l k:br):bN (l++k)=bN l++bN k:=by simp[bN]
@[simp] theorem alL(l:br):E (bN l)=E l:=by simp[bN]
theorem Fg(l:br):∀u∈bN l,u.oneCell'=true:=by
 intro u hu;obtain⟨b,_,rfl⟩:=qd.1 hu;rfl
theorem fV{l:br}{k:Nat}(h:k<E l):(bN l)[k*1]? =some (ah (l.getD k 0:Nat)):=by
 simp[bN,List.getD,fx h]
theorem oJ(h:P:=by(exact dG (by first|omega|simp_all))):P:=h
theorem wm(h:P:=by(exact dT (by first|omega|simp_all))):P:=h
theorem qj(h:P:=by(simp[bN])):P:=h
theorem wo(h:P:=by(exact dS (by first|omega|simp_all))):P:=h
theorem Cu:type_of% @List.drop_length:= @List.drop_length
def rp(S:Nat):Nat->Nat->br->br
 |qH,_,[]=>[qH]
 |qH,hv,n::l=>if hv+n<=S then rp S (qH+1) (hv+n) l else qH::rp S 1 n l
def fz(S:Nat):br->br
 |[]=>[]
 |n::l=>rp S 1 n l
def lens(b:Bool)(L:List aI):br:=L.map λx=>E (i_ b x)
theorem dP(b:Bool)(L:List aI):E (lens b L)=E L:=by simp[lens]
theorem Bk{L:List aI}{k:Nat}(h:k<E L):(lens b L).drop k=E (i_ b (recAt L k))::(lens b L).drop (k+1):=by
 rw[cy (l:=lens b L) (by rw[dP];exact h) 0];congr 1;unfold recAt lens;simp only[bz,ib,fx h];rfl
theorem Wl{qH:Nat}{l:br}(h:hv+n<=S):rp S qH hv (n::l)=rp S (qH+1) (hv+n) l:=by rw[rp,av h]
theorem N'{qH:Nat}{l:br}(h:¬hv+n<=S):rp S qH hv (n::l)=qH::fz S (n::l):=by rw[rp,aB h];rfl
theorem ade{qH:Nat}:rp S qH hv []=qH::fz S []:=rfl
theorem dQ.forget{P:Program}{f:FuncId}{args:cQ}{xs:cQ}{e:TypeId}(h:dQ P B w0 f args F (λr L=>∃A' c',r= .slice A' n c'/\L= .own e 1 A' n c' xs::F)):dQ P B w0 f args F (λr L=>∃A' c',r= .slice A' n c'/\L=F):=λw hw=>
 (h w hw).mono λe w' ⟨v,L',he,⟨A',c',hr,hL⟩,hs⟩=>by subst hL;exact⟨v,F,he,⟨A',c',hr,rfl⟩,hs.tail⟩
theorem ada(size:Int)(b:Bool)(L:List aI)(hb:aJ B w0 F 4 (.slice A (E L) c) (E L) (cD L))(hx:∀x∈L,x.1<18446744073709551616)(hw:dJ L<=1000000000)(S:Nat)(hS:(S:Int)=max 1 size)(hS2:S<=9223372036854775807):
  bg B w0 43 [ah size,.bool b,.slice A (E L) c] F (λr K=>∃A' c',r= .slice A' (E (fz S (lens b L))) c'/\K= .own 3 1 A' (E (fz S (lens b L))) c' (bN (fz S (lens b L)))::F):=by
 have hlw:=uQ L;have qc:=dP b L;refine ba func43 49 [0,1,2] 6 ?_;refine aM 3 1 none (bK 18 ?_);refine aw (λzf zL zm=>∃(k:Nat) (o:br) (hv:Nat) (A7:bh) (c7:Nat),(k<=E L/\hv<=2*dJ (L.take k)/\E o<=k/\((k=0/\o=[])\/(∃op qH,o=op++[qH]/\qH<=k/\fz S (lens b L)=op++rp S qH hv ((lens b L).drop k))))/\E L-k=zm/\Sub zf [(0,ah size),(1,.bool b),(7,.slice A7 (E o) c7),(8,ah hv),(12,.slice A (E L) c),(13,ah (E L)),(14,ah k)]/\Wk zL (.own 3 1 A7 (E o) c7 (bN o)::F)) _ ⟨0,[],0,none,0,⟨bD _,bD _,ga _,.inl ⟨rfl,rfl⟩⟩,rfl,a_,au rfl rfl (.refl _)⟩ ?_;rintro _ _ _ ⟨k,o,hv,A7,c7,⟨hk,hhv,G9,hG⟩,rfl,hs,hp⟩;refine aL hs hp (ag 6 (λmj=>?_) λmj=>?_)
 ·have EK:=vQ hx (k:=k) aa;have OC:=agX (L:=L) (k:=k) aa;have hrb:=pX (b:=b) EK aa;have S3:=mc (L:=L) (k:=k) aa;have x_:=kE L (k+1);have pG:=oR (recAt L k);have Dp:=Bk (b:=b) (L:=L) (k:=k) aa;obtain⟨q,hq⟩:=cM (E (i_ b (recAt L k)));rw[<-hq]at hrb Dp;refine dw ?_;refine ab (az (i:=k) (size:=4) underlying24 ae rfl rfl rfl aa aA) rfl ?_;refine ab (bU 4 ae rfl aA aa (aI.cells (recAt L k)) (iS aa) rfl) rfl ?_;refine fo λQ8=>?_;refine dg ?_;refine ay rfl ((Xk b _ EK aa).forget) λBZ CP=>aX ?_;rw[<-hq];refine fc ?_;refine dq (λzf zL=>∃(op:br) (qH KN:Nat) (A8:bh) (c8:Nat),(KN+q<=2*dJ (L.take (k+1))/\qH<=k/\E op<=k/\fz S (lens b L)=op++rp S (qH+1) (KN+q) ((lens b L).drop (k+1)))/\Sub zf [(0,ah size),(1,.bool b),(7,.slice A8 (E op+1) c8),(8,ah KN),(11,ah q),(12,.slice A (E L) c),(13,ah (E L)),(14,ah k)]/\Wk zL (.own 3 1 A8 (E op+1) c8 (bN op++[ah qH])::F)) ?_ ?_
  ·refine bf 2 11 32 [0,1,7,8,11,12,13,14] ((E o:Int)=0\/max 1 size<(hv:Int)+q) ?_ ?_
   ·refine bk 4 (λqn=>?_) (λqn=>?_)
    ·refine cY ?_;exact ab (Kj rfl rfl) rfl (ax 3 (k:=oJ))
    ·exact ax 6 (k:=wm)
   ·refine ag 2 (λvJ=>?_) λvJ=>?_
    ·refine fc ?_;refine cC gF rfl rfl rfl rfl rfl (λ_=>rfl) aU aa aa ?_;intro _ De c35;refine dw ?_;have hG2:fz S (lens b L)=o++rp S (0+1) (0+q) ((lens b L).drop (k+1)):=by
      rcases hG with⟨h1,h2⟩|⟨op,qH,h1,h2,h3⟩
      ·subst h1;subst h2;have:lens b L=q::(lens b L).drop 1:=by rw[<-Dp];rfl
       conv=>lhs;rw[this]
       simp[fz]
      ·rw[h3,Dp,N' (by(have:E o≠0:=(by simp[h1]);omega)),h1];simp[fz]
     exact bo ⟨o,0,0,De,c35,⟨aa,bD _,G9,hG2⟩,a_,.skip (.refl _)⟩
    ·obtain⟨op,qH,ho,SG,hG3⟩:∃op qH,o=op++[qH]/\qH<=k/\fz S (lens b L)=op++rp S qH hv ((lens b L).drop k):=by
      rcases hG with⟨h1,h2⟩|h
      ·subst h2;exact absurd (Or.inl rfl) vJ
      ·exact h
     rw[Dp,Wl aa]at hG3;have arY:E o=E op+1:=by rw[ho];simp
     refine aX ?_;exact bo ⟨op,qH,hv,A7,c7,⟨aa,SG,aa,hG3⟩,a_,.skip (au arY (by subst ho;simp[bN]) (.refl _))⟩
  ·rintro _ _ ⟨op,qH,KN,A8,c8,⟨hh2,hcn,Mw,hGG⟩,hs,hp⟩;refine aL hs hp (dx ?_);refine ab (cU rfl rfl (r:=(E op:Int)) ((bj aa aa).trans aa)) rfl (ab (az (i:=E op) (size:=1) underlying53 ae rfl rfl rfl aa aA) rfl ?_);refine ab (al (v:=ah qH) ae rfl aA aa qj) rfl (aX ?_);refine ab (az (i:=E op) (size:=1) underlying53 ae rfl rfl rfl aa aA) rfl ?_;refine bK 15 ?_;have el:E op+1=E (op++[qH+1]):=by simp
   rw[el];refine aj ⟨_,aa,k+1,op++[qH+1],KN+q,A8,c8,⟨aa,aa,bS,.inr ⟨op,qH+1,rfl,aa,hGG⟩⟩,rfl,a_,au rfl (by rw[cH,LD _ _ _ _ ao];simp[bN]) (.refl _)⟩
 ·refine dM ?_;have x8:k=E L:=by omega
  have hoG:o=fz S (lens b L):=by
   rcases hG with⟨h1,h2⟩|⟨op,qH,h1,h2,h3⟩
   ·have:lens b L=[]:=mg aa;rw[this,h2];rfl
   ·rw[h3,kr aa,h1];rfl
  rw[<-hoG];exact bO 1
theorem aao(size:Int)(b:Bool)(L:List aI)(hb:aJ B w0 F 4 (.slice A (E L) c) (E L) (cD L))(hx:∀x∈L,x.1<18446744073709551616)(hw:dJ L<=1000000000)(S:Nat)(hS:(S:Int)=max 1 size)(hS2:S<=9223372036854775807):
  bg B w0 38 [ah size,.bool b,.slice A (E L) c] F (λr K=>∃A' c',r= .slice A' (E (fz S (lens b L))) c'/\K= .own 3 1 A' (E (fz S (lens b L))) c' (bN (fz S (lens b L)))::F):=by
 have hlw:=uQ L;have qc:=dP b L;refine ba func38 66 [0,1,2] 5 ?_;refine dq (λzf zL=>Sub zf [(0,ah S),(1,.bool b),(2,.slice A (E L) c)]/\Wk zL (F)) ?_ ?_
 ·refine ag 6 (λjZ=>?_) λjZ=>?_
  ·refine fc ?_;exact bo ⟨a_,.refl _⟩
  ·refine aX ?_;exact bo ⟨a_,.refl _⟩
 ·rintro _ _ ⟨hs,hp⟩;refine aL hs hp (aX ?_);refine aM 3 1 none (fF ?_);refine aw (λzf zL zm=>∃(i:Nat) (o:br) (A7:bh) (c7:Nat),(i<=E L/\E o<=i/\fz S (lens b L)=o++fz S ((lens b L).drop i))/\E L-i=zm/\Sub zf [(0,ah S),(1,.bool b),(2,.slice A (E L) c),(7,.slice A7 (E o) c7),(8,ah i)]/\Wk zL (.own 3 1 A7 (E o) c7 (bN o)::F)) _ ⟨0,[],none,0,⟨bD _,ga _,rfl⟩,rfl,a_,au rfl rfl (.refl _)⟩ ?_;rintro _ _ _ ⟨i,o,A7,c7,⟨hi,G9,hG⟩,rfl,hs,hp⟩;refine aL hs hp (ag 9 (λj0=>?_) λj0=>?_)
  ·have EK:=vQ hx (k:=i) aa;have OC:=agX (L:=L) (k:=i) aa;have hrb:=pX (b:=b) EK aa;have pG:=oR (recAt L i);have Dp:=Bk (b:=b) (L:=L) (k:=i) aa;refine cY ?_;refine ab (az (i:=i) (size:=4) underlying24 ae rfl rfl rfl aa aA) rfl ?_;refine ab (bU 4 ae rfl aA aa (aI.cells (recAt L i)) (iS aa) rfl) rfl ?_;refine ay rfl ((zB b _ EK aa).forget) λUT Vs=>dg ?_;refine aw (λzf zL zm=>∃(n sum:Nat),(1<=n/\i+n<=E L/\sum<=2*dJ (L.take (i+n))/\fz S (lens b L)=o++rp S n sum ((lens b L).drop (i+n)))/\E L-n=zm/\Sub zf [(0,ah S),(1,.bool b),(2,.slice A (E L) c),(7,.slice A7 (E o) c7),(8,ah i),(9,ah n),(10,ah sum)]/\Wk zL (.own 3 1 A7 (E o) c7 (bN o)::F)) _ ⟨1,E (i_ b (recAt L i)),⟨ga _,aa,by have:=mc (L:=L) (k:=i) aa;omega,by rw[hG,Dp];rfl⟩,rfl,a_,.refl _⟩ ?_;rintro _ _ _ ⟨n,sum,⟨Zl,Wy,xq,hGn⟩,rfl,hs,hp⟩;refine aL hs hp ?_;have x_:=kE L (i+n);have hxn:=λ(h:i+n<E L)=>vQ hx (k:=i+n) h;have hwn:=λ(h:i+n<E L)=>agX (L:=L) (k:=i+n) h;have hrn:=λ(h:i+n<E L)=>pX (b:=b) (hxn h) (iY (hwn h) aa);have arO:=λ(h:i+n<E L)=>Bk (b:=b) (L:=L) (k:=i+n) h;have avn:=λ(h:i+n<E L)=>mc (L:=L) (k:=i+n) h;have av4:=oR (recAt L (i+n));refine bf 3 21 44 [0,1,2,7,8,9,10] ((i:Int)+n<E L/\(sum:Int)+E (i_ b (recAt L (i+n)))<=S) ?_ ?_
   ·refine bC 7 (λwv=>?_) λwv=>?_
    ·have au9:=hrn aa;have avm:=hwn aa;refine dM ?_;refine ab (az (i:=i+n) (size:=4) underlying24 ae rfl rfl rfl aa aA) rfl (aX ?_);refine ab (bU 4 ae rfl aA aa (aI.cells (recAt L (i+n))) (iS aa) rfl) rfl (aX ?_);exact ay rfl ((zB b _ (hxn aa) (by have:=hwn aa;omega)).forget) λMG RR=>ax 9 (k:=oJ)
    ·exact ax 13 (k:=wo)
   ·refine ag 2 (λsm=>?_) λsm=>?_
    ·have auN:=arO aa;have awW:=avn aa;have au9:=hrn aa;have avm:=hwn aa;have awT:=kE L (i+n+1);rw[auN,Wl aa]at hGn;refine fF ?_;refine ab (az (i:=i+n) (size:=4) underlying24 ae rfl rfl rfl aa aA) rfl ?_;refine ab (bU 4 ae rfl aA aa (aI.cells (recAt L (i+n))) (iS aa) rfl) rfl ?_;refine ay rfl ((zB b _ (hxn aa) aa).forget) λA53 c53=>fF ?_;refine aj ⟨_,aa,n+1,sum+E (i_ b (recAt L (i+n))),⟨aa,aa,by rw[show i+(n+1)=i+n+1 by omega];omega,hGn⟩,rfl,a_,.refl _⟩
    ·have hGo:fz S (lens b L)=(o++[n])++fz S ((lens b L).drop (i+n)):=by
      rw[hGn];by_cases h:i+n<E L
      ·rw[arO h,N' (by have:=hrn h;omega)];simp
      ·rw[kr aa,ade];simp
     refine dA ?_;refine cC gF rfl rfl rfl rfl rfl (λ_=>rfl) aU aa aa ?_;intro _ A61 c61;refine dh ?_;have el:E o+1=E (o++[n]):=by simp
     rw[el];refine aj ⟨_,aa,i+n,o++[n],A61,c61,⟨aa,bS,hGo⟩,rfl,a_,au rfl qj (.refl _)⟩
  ·refine dM ?_;have hoG:o=fz S (lens b L):=by rw[hG,kr aa];simp[fz]
   rw[<-hoG];exact bO 1
def w6(S:Nat):br->br->Prop
 |l,[]=>l=[]
 |l,n::g=>1<=n/\n<=E l/\((l.take n).sum<=S\/n=1)/\(n<E l->S<(l.take n).sum+l.getD n 0)/\w6 S (l.drop n) g
theorem Ev(S:Nat):∀(l p:br) (hv:Nat),1<=E p->hv=p.sum->(hv<=S\/E p=1)->w6 S (p++l) (rp S (E p) hv l)
 |[],p,hv,h1,h2,h3=>by
  rw[rp,gN];exact⟨h1,ga _,by rw[js,<-h2];exact h3,λh=>absurd h (Nat.lt_irrefl _),by rw[Cu];rfl⟩
 |n::l,p,hv,h1,h2,h3=>by
  rw[rp];split
  ·rename_i h;have:=Ev S l (p++[n]) (hv+n) ao (by rw[pJ,h2];simp) (.inl h);rw[bm,tz,bT]at this;exact this
  ·rename_i h;refine⟨h1,ao,by rw[y',<-h2];exact h3,λ_=>?_,?_⟩
   ·rw[y',<-h2];simp[List.getD];omega
   ·rw[y8];exact Ev S l [n] n ao ao (.inr rfl)
theorem jd(S:Nat):∀l,w6 S l (fz S l)
 |[]=>rfl
 |n::l=>Ev S l [n] n ao ao (.inr rfl)
theorem KE(S:Nat):∀(l:br) (qH hv:Nat),E (rp S qH hv l)<=E l+1
 |[],_,_=>by simp[rp]
 |n::l,qH,hv=>by
  rw[rp];split
  ·have:=KE S l (qH+1) (hv+n);simp;omega
  ·have:=KE S l 1 n;simp;omega
theorem lh(S:Nat):∀l,E (fz S l)<=E l
 |[]=>by simp[fz]
 |n::l=>by have:=KE S l 1 n;simp[fz];omega
theorem FJ(b:Bool):∀L,E (ct b L)=(lens b L).sum
 |[]=>rfl
 |x::L=>by
  have h:=FJ b L;unfold ct lens at h⊢;rw[iX,bm,h];simp
theorem JW:∀(L:List aI) (k:Nat),dJ (L.drop k)<=dJ L:=λL k=>by
 have h:dJ L=dJ (L.take k)+dJ (L.drop k):=by
  rw[dJ,dJ,dJ,<-pJ,<-iF,kH]
 omega
theorem r8:∀(L:List aI) (k:Nat),(cD L).take (k*4)=cD (L.take k)
 |L,0=>by simp[cD]
 |[],k+1=>by simp[cD]
 |x::L,k+1=>by
  have h:=r8 L k;rw[nK];simp only[cD,iX]at h⊢;rw[<-h,jR,tx (k*4) 4,I4,gv (by simp[aI.cells])];simp[aI.cells]
def JI(b:Bool)(s:Cs):Cs:=if b=true then s.lK.eV else s
def e_(b:Bool)(s:Cs):aI×Cs:=
 ((if b=true then s.num else 0,if b=true then s.lK.byte else 0,(JI b s).text 4000,((JI b s).fa 4000).text 4000),((JI b s).fa 4000).fa 4000)
def pW(b:Bool):Nat->Cs->List aI->List aI×Int
 |0,_,out=>(out,0)
 |f+1,s,out=>if s.left=0 then (out,0) else if (e_ b s).2.e≠0 then ([],(e_ b s).2.e) else pW b f (e_ b s).2 (out++[(e_ b s).1])
theorem cw.JI{b:Bool}{s:Cs}(h:cw s):cw (JI b s):=by
 unfold Proofs.YtaodmbolhoafcaaGreatDoor.JI;split
 ·exact h.lK.eV
 ·exact h
theorem cw.e_{b:Bool}{s:Cs}(h:cw s):cw (e_ b s).2:=h.JI.fa.fa
theorem Lg(s:Cs):s.lK.b=s.b:=Cs.cO _ _ _
theorem Kb(s:Cs):s.eV.b=s.b:=Cs.cO _ _ _
theorem v_(s:Cs)(m:Int):(s.fa m).b=s.b:=Cs.cO _ _ _
theorem afP(b:Bool)(s:Cs):(JI b s).b=s.b:=by unfold JI;split<;>simp[Lg,Kb]
theorem ajW(b:Bool)(s:Cs):(e_ b s).2.b=s.b:=by unfold e_;simp[v_,afP]
theorem aft(b:Bool)(s:Cs):∃a e,(e_ b s).2=⟨s.b,a,e⟩:=⟨_,_,by rw[<-ajW b s]⟩
def aI.fits(x:aI):Prop:=x.1<18446744073709551616/\E x.2.2.1<=4000/\E x.2.2.2<=4000
theorem aas(h:(e_ b s).2.e=0):nX s (e_ b s).2 (i_ b (e_ b s).1)/\(e_ b s).1.fits/\(b=false->(e_ b s).1.1=0/\(e_ b s).1.2.1=0):=by
 obtain⟨h2,l2⟩:=Cs.zI (s:=(JI b s).fa 4000) h;obtain⟨h1,l1⟩:=Cs.zI (s:=JI b s) h2.e0;cases b with
 |false=>
  refine⟨?_,⟨?_,?_,?_⟩,λ_=>⟨rfl,rfl⟩⟩
  ·have:=h1.trans h2;simpa[i_,ef,e_,JI]using this
  ·simp[e_]
  ·simp only[e_];omega
  ·simp only[e_];omega
 |true=>
  have h0:(s.lK.eV).e=0:=h1.e0;have hb:=Cs.ab7 h0;obtain⟨hn,ln⟩:=Cs.ajj hb.e0;refine⟨?_,⟨?_,?_,?_⟩,λh=>jB⟩
  ·have:=((hn.trans hb).trans h1).trans h2;simpa[i_,ef,e_,JI]using this
  ·simpa[e_]using ln
  ·simp only[e_];omega
  ·simp only[e_];omega
def norm(b:Bool)(x:aI):aI:=if b=true then x else (0,0,x.2.2.1,x.2.2.2)
theorem afs{x:aI}(h0:s.e=0)(hx:x.fits)(hr:s.rest=i_ b x++r):(e_ b s).1=norm b x/\nX s (e_ b s).2 (i_ b x):=by
 obtain⟨AZ,WE,hx3⟩:=hx;have hm:(4000:Int)<=9223372036854775807:=by decide
 cases b with
 |false=>
  have uG:s.rest=fg x.2.2.1++(fg x.2.2.2++r):=by rw[hr];simp[i_,ef]
  obtain⟨t1,d1⟩:=Cs.sc (m:=4000) h0 aa hm uG;obtain⟨t2,d2⟩:=Cs.sc (m:=4000) d1.e1 aa hm (d1.cP uG);refine⟨?_,?_⟩
  ·simp only[e_,norm,JI];simp[t1,t2]
  ·have:=d1.trans d2;simpa[e_,JI,i_,ef]using this
 |true=>
  have uG:s.rest=aW x.1++(x.2.1::(fg x.2.2.1++(fg x.2.2.2++r))):=by rw[hr];simp[i_,ef]
  obtain⟨n1,dn⟩:=Cs.W8 h0 AZ uG;have z6:=dn.cP uG;obtain⟨b1,db⟩:=Cs.mo dn.e1 z6;have hr3:=db.cP (p:=[x.2.1]) z6;obtain⟨t1,d1⟩:=Cs.sc (m:=4000) db.e1 aa hm hr3;obtain⟨t2,d2⟩:=Cs.sc (m:=4000) d1.e1 aa hm (d1.cP hr3);refine⟨?_,?_⟩
  ·simp only[e_,norm,JI];simp[t1,t2,n1,b1]
  ·have:=((dn.trans db).trans d1).trans d2;simpa[e_,JI,i_,ef]using this
theorem PU(b:Bool)(x:aI):2<=E (i_ b x):=by
 have h1:=NN x.2.2.1;have h2:=NN x.2.2.2;unfold i_;rw[bm,bm];omega
theorem nQ(s:Cs):E s.rest=s.left:=by simp[Cs.rest,Cs.left]
theorem FQ(h:(e_ b s).2.e=0):(e_ b s).2.left+2<=s.left:=by
 have h1:=(aas h).1.rest;have h2:=PU b (e_ b s).1;have:=eG List.length h1;rw[bm,nQ,nQ]at this;omega
theorem BG{b:Bool}:∀(f:Nat) (L:List aI) (s:Cs) (out:List aI),s.e=0->s.left<f->(∀x∈L,x.fits)->s.rest=ct b L->pW b f s out=(out++L.map (norm b),0)
 |0,L,s,out,_,hf,_,_=>absurd hf aa
 |f+1,[],s,out,h0,hf,_,hr=>by
  have:s.left=0:=by rw[<-nQ,hr];rfl
  unfold pW;rw[av this];simp
 |f+1,x::L,s,out,h0,hf,hx,hr=>by
  have uG:s.rest=i_ b x++ct b L:=by rw[hr];simp[ct]
  obtain⟨h1,h2⟩:=afs h0 (hx x ao) uG;have hl:¬s.left=0:=by
   have:=PU b x;rw[<-nQ,uG,bm];omega
  have he:(e_ b s).2.e=0:=h2.e1;have adI:=FQ he;unfold pW;rw[aB hl,aB MS,BG f L _ _ he aa (λy hy=>hx y B8) (h2.cP uG),h1];simp
theorem aff(b:Bool)(ho:cw s)(hb:aJ B w0 F 1 (.slice A (E s.b) c) (E s.b) (bv s.b)):
  bg B w0 273 [.agg #[bq g],.bool b] (Cv g A c s::F) (λr L=>r= .agg (aI.cells (e_ b s).1).toArray/\L=Cv g A c (e_ b s).2::F):=by
 have nC:∀(s':Cs),s'.b=s.b->aJ B w0 F 1 (.slice A (E s'.b) c) (E s'.b) (bv s'.b):=λs' h=>by rw[h];exact hb
 refine fw func273 23 [0,1] ?_;refine bM 2 λg2=>?_;refine fo λg4=>?_;refine ew ?_;refine dq (λzf zL=>Sub zf [(2,bq g2),(4,bq g4)]/\Wk zL (Cv g A c (JI b s):: .bI g4 62 [.int .u64 (if b=true then s.num else 0:Nat),.int .u8 ((if b=true then s.lK.byte else 0:UInt8).toNat:Int),.string ⟨#[]⟩,.string ⟨#[]⟩]:: .bI g2 366 [bq g]::F)) ?_ ?_
 ·refine fB 5 (λh5=>?_) λh5=>?_
  ·subst h5;refine fb ?_;refine ai rfl ((acg ho (.cons (.cons hb))).perm C9) (dg ?_);refine ai rfl (oK ho.lK (.cons (.cons (nC _ (Lg s))))) (fc ?_);exact bo ⟨a_,.refl _⟩
  ·subst h5;refine aX ?_;exact bo ⟨a_,.c_ C9⟩
 ·rintro _ _ ⟨hs,hp⟩;refine aL hs hp (fb ?_);refine ai rfl (Dl ho.JI (.cons (.cons (nC _ (afP b s)))) aa aa) (cY ?_);refine ai rfl (Dl ho.JI.fa (.cons (.cons (nC _ ((v_ _ _).trans (afP b s))))) aa aa) (fF ?_);refine PW rfl rfl ae aU jI (.cons (.s2 (.refl _))) ?_;exact⟨rfl,rfl⟩
def rZ(b:Bool)(l:aq):List aI×Int:=pW b (E l+1) ⟨l,0,0⟩ []
theorem Jv{o:List aI}(h:s.left=0):pW b (f+1) s o=(o,0):=by unfold pW;rw[av h]
theorem Ju{o:List aI}(h:¬s.left=0)(he:(e_ b s).2.e≠0):pW b (f+1) s o=([],(e_ b s).2.e):=by unfold pW;rw[aB h,av he]
theorem PT{o:List aI}(h:¬s.left=0)(he:¬(e_ b s).2.e≠0):pW b (f+1) s o=pW b f (e_ b s).2 (o++[(e_ b s).1]):=by conv=>lhs;unfold pW;rw[aB h,aB he]
theorem aam(o:List aI)(x:aI):cD (o++[x])=cD o++aI.cells x:=by simp[cD]
theorem PO(b:Bool)(hb:gw B w0 F A c l)(hl:E l<=1000000000):
  bg B w0 231 [.bool b,.slice A (E l) c] F (λr L=>∃A' c',r= .tuple #[.slice A' (E (rZ b l).1) c',ah (rZ b l).2]/\L= .own 62 4 A' (E (rZ b l).1) c' (cD (rZ b l).1)::F):=by
 refine ba func231 31 [0,1] 9 ?_;refine dV rfl (n_ hb aa) λg11 tH zU=>ab (eJ [(0,_)] [_] rfl rfl ae) rfl (fo λg6=>?_);refine fb ?_;refine aM 62 4 none (dw ?_);refine aw (λzf zL zm=>∃(a:Nat) (o:List aI) (A7:bh) (c7:Nat) (m:Nat),(a<=E l/\E l-a<m/\E o+(E l-a)<=E l/\pW b m ⟨l,a,0⟩ o=rZ b l)/\m=zm/\Sub zf [(0,.bool b),(6,bq g6),(7,.slice A7 (E o) c7)]/\Wk zL (Cv g11 tH zU ⟨l,a,0⟩:: .own 62 4 A7 (E o) c7 (cD o):: .bI g6 366 [bq g11]:: .own 5 1 tH (E l) zU (bv l)::F)) _ ⟨0,[],none,0,E l+1,⟨bD _,aa,ao,rfl⟩,rfl,a_,.c_ C9⟩ ?_;rintro _ _ _ ⟨a,o,A7,c7,m,⟨CU,ham,G9,hG⟩,rfl,hs,hp⟩;refine aL hs hp ?_;clear hs hp;obtain⟨f,rfl⟩:∃f,m=f+1:=⟨m-1,aa⟩
 have ho:cw ⟨l,a,0⟩:=⟨CU,cX⟩
 have alv:Cs.left ⟨l,a,0⟩=E l-a:=rfl;obtain⟨a',e',Cm⟩:=aft b ⟨l,a,0⟩;have pG:=oR (e_ b ⟨l,a,0⟩).1;refine dx ?_;refine ai rfl (Kd ho aA) ?_;refine ag 3 (λj0=>?_) λj0=>?_
 ·refine dg ?_;refine ai rfl (aff b ho aA) ?_;rw[Cm];refine fo λg8=>?_;refine cY ?_;refine ai rfl (ik.perm swp) (ag 9 (λkJ=>?_) λkJ=>?_)
  ·refine aD 5 [4,5] 7 ?_;have hz:rZ b l=([],e'):=by rw[<-hG,Ju aa (by rw[Cm];exact kJ),Cm]
   rw[hz];exact aH 62 4 none (ak (L':=.own 62 4 none 0 0 []::F) (.cons (.s5 (.refl _))) (bO 1))
  ·have he0:e'=0:=gE.1 kJ;subst he0;have hG2:=PT (b:=b) (f:=f) (s:=⟨l,a,0⟩) (o:=o) aa (by rw[Cm];simp);rw[hG,Cm]at hG2;have adI:=FQ (b:=b) (s:=⟨l,a,0⟩) (by rw[Cm]);have ho':=ho.e_ (b:=b);rw[Cm]at adI ho';have auq:a'<=E l:=ho'.at_;have auO:E l-a'+2<=E l-a:=adI;refine dx ?_;refine jX JE rfl rfl rfl aa bY rfl rfl rfl (λ_=>rfl) aU aa aa ?_;intro _ A29 c29;refine aD 1 [0,6,7] 1 ?_;have el:E o+1=E (o++[(e_ b ⟨l,a,0⟩).1]):=by simp
   rw[el];refine aj ⟨_,aa,a',o++[(e_ b ⟨l,a,0⟩).1],A29,c29,f,⟨auq,aa,bS,hG2.symm⟩,rfl,a_,.cons (.skip (au rfl (aam _ _).symm (.refl _)))⟩
 ·refine bK 13 ?_;have hz:rZ b l=(o,0):=by rw[<-hG,Jv aa]
  rw[hz];exact ak (L':=.own 62 4 A7 (E o) c7 (cD o)::F) (.skip (.cons (.s2 (.refl _)))) (bO 1)
end Go.Proofs.YtaodmbolhoafcaaGreatDoor

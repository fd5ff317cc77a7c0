/-
  Texts of one proof, joined: part 14. No condition.
-/
import Derived.Test.YtaodmbolhoafcaaGreatDoorZr13
open Go.RowKit Go.Proofs.Tryz
namespace Go.Proofs.YtaodmbolhoafcaaGreatDoor
set_option linter.unusedVariables false
set_option linter.unusedSimpArgs false
set_option maxRecDepth 20000
variable{B:Nat}{w0:World}{F L0:aR}{A A1 A2 Ao:bj}{n c c1 c2 co g gc r k m N n2:Nat}
section
theorem mN{P:Program}{ops:Array Oper}{Q:Exit→Act→World→Prop}{md:Region.Mode}(ds:List Deferred):∀(fuel:Nat) (li:Array Bool) (a:Act) (w:World),wpAny P md ops Q fuel li a w→
  wpAny P md ops (fun e a' w'=>∃a0:Act,a'={a0 with defers:=a0.defers++ds}∧Q e a0 w') fuel li {a with defers:=a.defers++ds} w
 |0,li,a,w,h=>⟨h.1,a,rfl,h.2⟩
 |fuel+1,li,a,w,h=>by
  refine⟨fun hr=>⟨a,rfl,h.1 hr⟩,fun i hi=>?_⟩;have h:=h.2 i hi;unfold wpOp at h⊢;cases ho:ops[i]? with
  |none=>
   simp only[ho]at h⊢;exact mN ds fuel _ a w h
  |some o=>
   simp only[ho]at h⊢;by_cases hw:Region.wanted o (yielded ops a.tmps)=true
   ·rw[aq hw]at h;rw[aq (show Region.wanted o (yielded ops ({a with defers:=a.defers++ds}:Act).tmps)=true from hw)];rcases h with h|⟨h1,a1,w1,h2⟩
    ·refine .inl ?_;have he:({a with defers:=a.defers++ds}:Act).eval=a.eval:=rfl;unfold Oper.wp at h⊢;rw[he];generalize (execOp a.eval o).run P w=res at*;cases res with
     |ok x w'=>
      cases x<;>simp only[Oper.upon]at h⊢<;>first
       |(rw[put_defers];exact mN ds fuel _ _ _ h)
       |(
        refine Ku h fun e w'' he=>?_;cases e<;>dsimp only at he⊢<;>first
         |(rw[put_defers];exact mN ds fuel _ _ _ he)
         |exact⟨_,rfl,he⟩
         |(obtain⟨a1,w1,h2⟩:=he;exact⟨_,w1,a1,rfl,h2⟩))
       |exact Rows.mono h fun v w'' he=>by rw[put_defers];exact mN ds fuel _ _ _ he
       |(have h2:=mN ds fuel _ _ _ h;rw[←put_defers]at h2;exact h2)
     |halt x w'=>cases x<;>simp only[Oper.upon]at h⊢<;>first|exact⟨_,rfl,h⟩|exact h
    ·exact .inr ⟨h1,_,w1,a1,rfl,h2⟩
   ·rw[aw hw]at h;rw[aw (show¬Region.wanted o (yielded ops ({a with defers:=a.defers++ds}:Act).tmps)=true from hw),put_defers];exact mN ds fuel _ _ _ h
def MQ(D:Nat)(C:Cx)(Q:Exit→Fr→aR→Prop):Exit→Act→World→Prop:=fun e a w=>∃fr L,a.defers=[mark D]∧pT C.N fr {a with defers:=[]}∧SL C.B C.w0 L w∧Q e fr L
def xk(C:Cx)(D:Nat)(c:Code)(Q:Exit→Fr→aR→Prop)(fr:Fr)(L:aR):Prop:=∀a w,a.defers=[mark D]→pT C.N fr {a with defers:=[]}→SL C.B C.w0 L w→c.wp C.P (MQ D C Q) a w
def T8(D:Nat)(C:Cx)(y:Code)(Q:Exit→Fr→aR→Prop):Exit→Fr→aR→Prop
 | .normal,fr,L=>xk C D y Q fr L
 |e,fr,L=>Q e fr L
section
variable{C:Cx}{D:Nat}{Q:Exit→Fr→aR→Prop}{fr jH:Fr}{L L' S:aR}{x y cd Gf:Code}
theorem aku{e:Exit}{a':Act}{w':World}(h:∃a0:Act,a'={a0 with defers:=a0.defers++[mark D]}∧lift C Q e a0 w'):MQ D C Q e a' w':=by
 obtain⟨a0,rfl,fr,L,ha,hs,hq⟩:=h;refine⟨fr,L,by simp[ha.defers],?_,hs,hq⟩;have e0:({({a0 with defers:=a0.defers++[mark D]}:Act)with defers:=[]}:Act)=a0:=by rw[←ha.defers]
 rw[e0];exact ha
theorem gH{id:Nat}{sZ:sD}(h:VL C sZ.toArray Q sZ fr L):xk C D (.region id sZ.toArray false) Q fr L:=fun a w hd ha hs=>by
 have h1:=lF [mark D] sZ _ w (h {a with defers:=[]} w ha hs);rw[show({({a with defers:=[]}:Act)with defers:=({a with defers:=[]}:Act).defers++[mark D]}:Act)=a by rw[←hd];rfl]at h1;exact ym (wp_region_lit h1) fun e a w h=>aku h
theorem PW{id:Nat}{l:sD}(hm:C.P.follows .mixedOrders=true)(hS:S.Sublist L)(h:VH C l.toArray S Q l.toArray.size (Array.replicate l.toArray.size false) fr L):xk C D (.region id l.toArray true) Q fr L:=fun a w hd ha hs=>by
 have h1:=mN [mark D] _ _ _ _ (wpAny_of_held _ _ _ _ (h {a with defers:=[]} _ ha (hs.drewN 1) ((hs.drewN 1).sub hS)));rw[show({({a with defers:=[]}:Act)with defers:=({a with defers:=[]}:Act).defers++[mark D]}:Act)=a by rw[←hd];rfl]at h1;refine ym (wp_region_any hm h1) fun e a w ⟨a0,h2,h3⟩=>aku ⟨a0,h2,NoPanic.imp _ _ _ h3⟩
theorem iV(h:xk C D x (T8 D C y Q) fr L):xk C D (.seq x y) Q fr L:=fun a w hd ha hs=>by
 refine wp_seq (ym (h a w hd ha hs) fun e a w ⟨fr,L,hd,ha,hs,hq⟩=>?_);cases e<;>first|exact hq a w hd ha hs|exact⟨fr,L,hd,ha,hs,hq⟩
theorem Jm{id:Nat}(h:xk C D x (InB id Q) fr L):xk C D (.block id x) Q fr L:=fun a w hd ha hs=>by
 refine wp_block (ym (h a w hd ha hs) fun e a w ⟨fr,L,hd,ha,hs,hq⟩=>?_);cases e with
 |exit i=>
  unfold Exit.inBlock InB at*;simp only at hq⊢;split
  ·rename_i hi;rw[aq hi]at hq;exact⟨fr,L,hd,ha,hs,hq⟩
  ·rename_i hi;rw[aw hi]at hq;exact⟨fr,L,hd,ha,hs,hq⟩
 |_=>exact⟨fr,L,hd,ha,hs,hq⟩
theorem yZ(h:Q .normal fr L):xk C D .skip Q fr L:=fun a w hd ha hs=>wp_skip ⟨fr,L,hd,ha,hs,h⟩
theorem af9{id:Nat}(h:Q (.exit id) fr L):xk C D (.exit id) Q fr L:=fun a w hd ha hs=>wp_exit ⟨fr,L,hd,ha,hs,h⟩
theorem yY(h:Q .ret fr L):xk C D .ret Q fr L:=fun a w hd ha hs=>wp_ret ⟨fr,L,hd,ha,hs,h⟩
theorem pT.arf{N:Nat}{a:Act}(h:pT N fr {a with defers:=[]}){o:Operand}{v:Value}(he:ev fr o=some v):a.eval o=v:=by
 have:=h.tmp he;exact this
theorem TP{c:Operand}(hc:ev fr c=some (.bool false))(h:xk C D y Q fr L):xk C D (.cond c x y) Q fr L:=fun a w hd ha hs=>wp_cond_false (ha.arf hc) (h a w hd ha hs)
theorem aaB{tt:Nat}{b:Bool}(hc:look tt fr=some (.bool b))(ht:b=true→xk C D cd Q ((tt,.bool true)::fr) L)(hf:b=false→xk C D Gf Q ((tt,.bool false)::fr) L):xk C D (.cond (.tmp tt) cd Gf) Q fr L:=fun a w hd ha hw=>
 wp_cond_split (ha.arf (o:=.tmp tt) hc) (fun h=>ht h a w hd (ha.bool hc h) hw) (fun h=>hf h a w hd (ha.bool hc h) hw)
theorem uL{tt:Nat}{p:Prop}[Decidable p](hc:look tt fr=some (.bool (decide p)))(ht:p→xk C D cd Q ((tt,.bool true)::fr) L)(hf:¬p→xk C D Gf Q ((tt,.bool false)::fr) L):xk C D (.cond (.tmp tt) cd Gf) Q fr L:=
 aaB hc (fun h=>ht (yn h)) (fun h=>hf (R8 h))
theorem aaC(J:Fr→aR→Nat→Prop)(n0:Nat)(h0:J fr L n0)(round:∀n fr L,J fr L n→xk C D cd (InJ J n Q) fr L):xk C D (.loop cd) Q fr L:=fun a w hd ha hw=>by
 refine wp_loop_ghost (fun n a w=>∃fr L,J fr L n∧a.defers=[mark D]∧pT C.N fr {a with defers:=[]}∧SL C.B C.w0 L w) n0 ⟨fr,L,h0,hd,ha,hw⟩ ?_;rintro n a w ⟨fr,L,hJ,hd,ha,hw⟩;refine ym (round n fr L hJ a w hd ha hw) fun e a w ⟨fr,L,hd,ha,hs,hq⟩=>?_;cases e with
 |normal=>
  obtain⟨n',k1,k2⟩:=hq;exact⟨n',k1,fr,L,k2,hd,ha,hs⟩
 |_=>exact⟨fr,L,hd,ha,hs,hq⟩
theorem dH(h:xk C D y Q fr L):T8 D C y Q .normal fr L:=h
theorem Tj{i:Nat}(h:Q (.exit i) fr L):T8 D C y Q (.exit i) fr L:=h
theorem AY(h:Q .ret fr L):T8 D C y Q .ret fr L:=h
theorem TQ(jH:Fr)(hs:Sub fr jH)(h:xk C D x Q jH L):xk C D x Q fr L:=fun a w hd ha hw=>h a w hd (ha.sub hs) hw
theorem af_(hs:L.Perm L')(h:xk C D x Q fr L'):xk C D x Q fr L:=fun a w hd ha hw=>h a w hd ha (hw.perm hs)
theorem anU(h:Wk L L')(k:xk C D x Q fr L'):xk C D x Q fr L:=fun a w hd ha hw=>k a w hd ha (h.sl hw)
theorem ajF{size nn c:Nat}{A:bj}{xs:cV}(hb:aL C.B C.w0 L size (.slice A nn c) nn xs)(h:nn≤c→xs.length=nn*size→xk C D x Q fr L):xk C D x Q fr L:=fun a w hd ha hw=>by
 obtain⟨A',c',e,h1,h2,_⟩:=hb w hw;injection e with e1 e2 e3;subst e3;exact h h1 h2 a w hd ha hw
def RM(D:Nat)(P:Program)(fn:Func)(R:qR):Exit→Fr→aR→Prop
 | .ret,fr,L=>∃L',L.Perm (.obj D (.deferred (some []))::L')∧Cn P fn R .ret fr L'
 |_,_,_=>False
theorem aaA{fn:Func}{R:qR}{P:Program}{B N:Nat}{w0:World}{c:Code}(hN:fn.ntmps=N)(h:xk ⟨P,N,B,w0⟩ D c (RM D P fn R) fr L):VM ⟨P,N,B,w0⟩ D c (FG ⟨P,N,B,w0⟩ fn R) fr L:=fun a w hd ha hs=>by
 subst hN;refine ym (h a w hd ha hs) fun e a w ⟨fr,L,hd,ha,hs,hq⟩=>?_;cases e<;>first
  |exact hq.elim
  |obtain⟨L',hp,h⟩:=hq
   have Bz:=hs.perm hp;obtain⟨v,L'',h1,h2,h3⟩:=h B w0 _ _ ha Bz.afU;show LeavesInM _ _ _ _ _ _ a.defers _ _;rw[hd];exact⟨ak,.inl ⟨D,_,rfl,run_takeDeferred Bz.head.2,v,h1,v,L'',rfl,h2,h3⟩⟩
end
end
section
variable{ch:Nat}
theorem aoy{P:Prop}(h:P:=by(repeat (first|exact j_ _ (je (f:=fx) he)|apply List.Mem.tail))):P:=h
theorem Me{P:Prop}(h:P:=by(rw[E9])):P:=h
def JM(sz:Nat)(x:al)(i:Nat):al:=(x.drop (i*sz)).take sz
theorem MD(sz p:Nat)(x:al):my sz p x=(List.range p).map (JM sz x):=by
 rw[←pE (my sz p x),kl];exact sa fun i hi=>xG sz p i x (ky.1 hi)
def gP(sz:Nat)(x:al)(ks:bc):eH:=ks.map fun i=>(aK (JM sz x i)).1
def gG(sz:Nat)(x:al)(ks:bc):List Bool:=ks.map fun i=>decide ((aK (JM sz x i)).2=0)
theorem aes(k m ch:Nat)(x:al):rdP k m ch x=gP (ch+4) x (List.range (k+m)):=by unfold rdP gP;rw[MD,vF];rfl
theorem E9(k m ch:Nat)(x:al):OW k m ch x=gG (ch+4) x (List.range (k+m)):=by unfold OW gG;rw[MD,vF];rfl
theorem SS(a:Nat)(l:List Bool)(b:Bool):dO a (l++[b])=dO a l++(if b=true then [] else [a+l.length]):=by
 unfold dO;rw[aX,qg,lk,En,jd];congr 1
 ·congr 1;refine List.filter_congr fun i hi=>?_;have:=ky.1 hi;simp[bk,z' this]
 ·cases b<;>simp[bk]
theorem adU{q:Ch}{PB:List kP}(h:q.isObj=true):q∈PB.map fx++F↔q∈F:=by
 refine⟨fun hq=>?_,nB _⟩;rcases dy.1 hq with hq|hq
 ·obtain⟨e,_,rfl⟩:=pS.1 hq;cases h
 ·exact hq
theorem Dr{x:al}(h:(aK x).2=0):(aK x).1.length=x.length-4:=by
 unfold aK at h⊢;by_cases h1:x.length<4
 ·rw[aq h1]at h;simp at h
 ·rw[aw h1]at h⊢;by_cases h2:x.drop (x.length-4)=mn (pV 0 (x.take (x.length-4)))
  ·rw[aq h2];simp
  ·rw[aw h2]at h;simp at h
theorem bK.later{w1:World}(h:bK B w0)(hb:Below B w0 w1):bK B w1:=aL.later h hb
theorem Bt{m:Nat}:∀PB:List kP,(∀e∈PB,e.2.2.length≤m)→(PB.map (·.2.2)).flatten.length≤m*PB.length
 |[],_=>by simp
 |e::r,h=>by
  have h1:=h e ak;have h2:=Bt r fun x hx=>h x oe;simp only[kz,wo,aX,eh,ub,cE];omega
theorem Rj(k m:Nat)(good:List Bool):∀i∈dG k good,i∈dG (k+m) good:=fun i hi=>by
 unfold dG at hi⊢;have e:k=min k (k+m):=by omega
 rw[e,←IE]at hi;exact lW hi
theorem Sw{parts:eH}{good:List Bool}{n:Nat}(hk:1≤k)(ha:∀b∈iw (k+m) parts good,b.length=n)(h0:(qp k m parts good).2=0):(qp k m parts good).1.length=k+m∧∀b∈(qp k m parts good).1,b.length=n:=by
 unfold qp at h0⊢;by_cases h1:¬rS (iw (k+m) parts good)
 ·rw[aq h1]at h0;simp at h0
 ·rw[aw h1]at h0⊢;by_cases h2:(iw (k+m) parts good).length<k
  ·rw[aq h2]at h0;simp at h0
  ·rw[aw h2];have lZ:(dG k good).length=k:=by
    unfold iw at h2;rw[eM]at h2;unfold dG at h2⊢;rw[eV]at h2⊢;omega
   obtain⟨d1,d2⟩:=Sv (m:=m) (n:=n) (parts:=parts) (good:=good) aa (fun b hb=>by
    obtain⟨i,hi,rfl⟩:=pS.1 hb;exact ha _ (je (f:=fun i=>parts.getD i []) (Rj k m good i hi))) lZ
   refine⟨by rw[aX,mZ,d1],fun b hb=>?_⟩;rcases dy.1 hb with hb|hb
   ·exact d2 b hb
   ·exact yH aa d2 b hb
theorem Fs{x:al}(hk:1≤k)(hx:x.length=(k+m)*(ch+4))(h0:(BS k m ch x).2=0):(BS k m ch x).1.length=k+m∧∀b∈(BS k m ch x).1,b.length=ch:=by
 refine Sw hk (fun b hb=>?_) h0;obtain⟨i,hi,rfl⟩:=pS.1 hb;obtain⟨h1,h2⟩:=zE i hi;rw[E9]at h1 h2;have hik:i<k+m:=by simpa[gG]using h1
 have hr:=fO (k:=ch+4) hik;rw[aes];simp only[gG,gP,bk,jt,yg hik,sP,vG]at h2⊢;rw[Dr oW];unfold JM;rw[eV,iN,hx];omega
def StA(k m ch:Nat)(x out:al)(bad:bc)(at_ g:Nat)(F:aR)(v:Value)(L:aR):Prop:=
 ∃(Ao:bj) (co:Nat) (Ab:bj) (cb:Nat) (aix:al),v=ah (LQ k m ch x)∧
  L=Gu g k m ch (.slice Ao aix.length co) (.slice Ab (bad++dO at_ (OW k m ch x)).length cb) (at_+(k+m)):: .own 5 1 Ao aix.length co (bv aix):: .own 3 1 Ab (bad++dO at_ (OW k m ch x)).length cb (bx (bad++dO at_ (OW k m ch x)))::F∧
  (LQ k m ch x=0→aix=out++((BS k m ch x).1.take k).flatten)
set_option maxHeartbeats 2000000 in
theorem ae1(HT:bK B w0)(h:Gv k m ch){x out:al}{bad:bc}{at_:Nat}(Ql:x.length=(k+m)*(ch+4))(hxc:x.length≤c)(hx:aL B w0 F 1 (.slice A x.length c) x.length (bv x))(GQ:at_≤100000000)(dh:bad.length≤100000000)(Kl:out.length≤100000000):
  a_ B w0 198 [bq g,.slice A x.length c] (Gu g k m ch (.slice Ao out.length co) (.slice A1 bad.length c1) at_:: .own 5 1 Ao out.length co (bv out):: .own 3 1 A1 bad.length c1 (bx bad)::F) (StA k m ch x out bad at_ g F):=by
 obtain⟨k1,km,ch1,ch2⟩:=h;have h:Gv k m ch:=⟨k1,km,ch1,ch2⟩
 have Gk:=h.laid;have hN:gT (ch+4) x.length=k+m:=by rw[Ql];exact Ut aa
 have acL:LQ k m ch x=(if (BS k m ch x).2≠0 then (BS k m ch x).2 else @ite _ (xe k m ch x) (Classical.propDecidable _) 2 0):=rfl;have hsr:BS k m ch x=qp k m (gP (ch+4) x (List.range (k+m))) (gG (ch+4) x (List.range (k+m))):=by unfold BS;rw[aes,E9]
 refine xZ func198 93 rfl rfl rfl [(0,bq g),(1,.slice A x.length c)] ⟨⟨rfl,rfl⟩,⟨rfl,rfl⟩,trivial⟩ ?_;refine qN ?_;refine aE ?_;refine bf fun g2=>?_;refine be ?_;refine lz ?_;refine qN ?_;refine aE ?_;refine bg fun g5=>?_;refine aE ?_;refine lz ?_;refine qN ?_;refine aE ?_;refine bg fun g6=>?_;refine aE ?_;refine lz ?_;refine Lh ?_;refine aY 27 1 none ?_;refine aY 4 1 none ?_;refine bD ?_;refine ae (bY rfl rfl (r:=((ch+4:Nat):Int)) ((bG aa aa).trans aa)) rfl ?_;refine ay rfl (MG (sz:=ch+4) aa) fun gp gq=>?_;refine aE ?_;refine lz ?_;refine FU (N:=gT (ch+4) x.length) ajY rfl rfl rfl (fun i:Fin (gT (ch+4) x.length)=>GA A (ch+4) x.length i.val) (fun xs=>xs.map (·.val)=List.range (gT (ch+4) x.length)) (fun _=>True) [.bE gp 27 [.slice A x.length c],.bE gq 3 [ah ((ch+4:Nat):Int)]]
  (fun w hw=>xJ aa aa aa hxc (fun e=>aos) w (hw.all _ (ll _ rp)) (hw.all _ rp))
  (fun(pre:List (Fin (gT (ch+4) x.length))) (s:(bj×Nat)×(bj×Nat)×(bj×Nat)×List kP)=>s.2.2.2.map (·.2.2)=gP (ch+4) x (pre.map (·.val))) (fun pre s=>.bE gq 3 [ah ((ch+4:Nat):Int)]:: .bE gp 27 [.slice A x.length c]:: .own 4 1 s.1.1 (gG (ch+4) x (pre.map (·.val))).length s.1.2 (sH (gG (ch+4) x (pre.map (·.val)))):: .own 27 1 s.2.1.1 s.2.2.2.length s.2.1.2 ((s.2.2.2).map dq):: .bE g6 186 [.slice s.1.1 (gG (ch+4) x (pre.map (·.val))).length s.1.2]:: .bE g5 52 [.slice s.2.1.1 (s.2.2.2).length s.2.1.2]:: .bE g2 278 [bq g]::Gu g k m ch (.slice Ao out.length co) (.slice s.2.2.1.1 (bad++dO at_ (gG (ch+4) x (pre.map (·.val)))).length s.2.2.1.2) (at_+pre.length):: .own 5 1 Ao out.length co (bv out):: .own 3 1 s.2.2.1.1 (bad++dO at_ (gG (ch+4) x (pre.map (·.val)))).length s.2.2.1.2 (bx (bad++dO at_ (gG (ch+4) x (pre.map (·.val)))))::(s.2.2.2.map fx++F))
  (fun pre s q hq=>by simp only[KO hq,KN hq,adU hq]) (fun q hq=>by
   simp only[fm,ml,oj]at hq;rcases hq with rfl|rfl
   ·exact⟨rfl,fun pre s=>ll _ rp⟩
   ·exact⟨rfl,fun pre s=>rp⟩)
  ((none,0),(none,0),(A1,c1),[]) rfl (.trans ((ef (ef (ef (ef (ef (ef (ef (ef (ef (ef (.refl _)))))))))))) (.cons (.cons (ax rfl rfl (ax rfl rfl (bp rfl (bp rfl (.cons (bp (by simp[gG,dO]) (.cons (ax (by simp[gG,dO]) (by simp[gG,dO]) (.refl _)))))))))))) ?_ ?_
 ·rintro l' pre y ⟨⟨Ag,cg⟩,⟨Ap,cp⟩,⟨Ab,cb⟩,PB⟩ w1 kT mG acG F';have RT:pre.length<k+m:=Nat.lt_of_lt_of_eq mG hN;have hy:y.val<k+m:=Nat.lt_of_lt_of_eq y.isLt hN;have hyl:=fO (k:=ch+4) hy;have as6:y.val*(ch+4)+(ch+4)≤x.length:=jf hyl (Nat.le_of_eq Ql.symm);have Vj:(JM (ch+4) x y.val).length=ch+4:=by unfold JM;rw[eV,iN];omega
  have hbx:aL B w1 (PB.map fx++(F++F')) 1 (.slice (A.map (·.add (y.val*(ch+4)))) (JM (ch+4) x y.val).length (ch+4)) (JM (ch+4) x y.val).length (bv (JM (ch+4) x y.val)):=by
   rw[Vj];exact((Uq hx aa as6).later acG).mono (.trans (vH F F') (gz _ _))
  have hvX:GA A (ch+4) x.length y.val= .slice (A.map (·.add (y.val*(ch+4)))) (JM (ch+4) x y.val).length (ch+4):=by
   unfold GA xm;rw[Vj,show min (ch+4) (x.length-y.val*(ch+4))=ch+4 by omega]
  have hmp:(pre++[y]).map (·.val)=pre.map (·.val)++[y.val]:=by simp
  have By:(pre++[y]).length=pre.length+1:=by simp
  have Qg:gG (ch+4) x (pre.map (·.val)++[y.val])=gG (ch+4) x (pre.map (·.val))++[decide ((aK (JM (ch+4) x y.val)).2=0)]:=by simp[gG]
  have hps:gP (ch+4) x (pre.map (·.val)++[y.val])=gP (ch+4) x (pre.map (·.val))++[(aK (JM (ch+4) x y.val)).1]:=by simp[gP]
  have GU:(gG (ch+4) x (pre.map (·.val))).length=pre.length:=by simp[gG]
  have D6:PB.length=pre.length:=by have:=dC List.length kT;simpa[gP]using this
  have Qd:bad++dO at_ (gG (ch+4) x (pre.map (·.val))++[decide ((aK (JM (ch+4) x y.val)).2=0)])=B7 (JM (ch+4) x y.val) (at_+pre.length) (bad++dO at_ (gG (ch+4) x (pre.map (·.val)))):=by
   rw[SS,GU];unfold B7;by_cases hz:(aK (JM (ch+4) x y.val)).2=0
   ·rw[aq vQ,aw vQ,gk]
   ·rw[aw vQ,aq hz,bV]
  have asg:(bad++dO at_ (gG (ch+4) x (pre.map (·.val)))).length≤100000000+(k+m):=by
   have:=BH (fun i=> !(gG (ch+4) x (pre.map (·.val))).getD i false) (List.range (gG (ch+4) x (pre.map (·.val))).length);rw[wm]at this;rw[aX];unfold dO;rw[eM];omega
  simp only[hmp,By,Qd,Qg,hps,hvX,nE,bV];generalize gG (ch+4) x (pre.map (·.val))=GG at*;obtain⟨BD,hBD⟩:=cR (bad++dO at_ GG);rw[←hBD]at asg⊢;refine FX ?_;refine Li ?_;refine na ag ?_;refine be ?_;refine ba apb rfl (.perm (ang (HT.later acG) (k:=k) (m:=m) (ch:=ch) (vo:=.slice Ao out.length co) (bad:=BD) (at_:=at_+pre.length) (x:=JM (ch+4) x y.val) (by repeat (first|exact hbx|apply aL.cons)) aa aa aa) ((pu7 (pu8 (fT (fT (fT (fT (fT (fT (fT (fT (.refl _))))))))))))) rfl ?_;rintro _ _ ⟨s_,Bp,Gn,Ly,rfl,cJ⟩;obtain rfl:=cJ.symm;refine bI ?_;refine ve [5,6,8,9] ?_;refine nq ?_;refine Li ?_;refine na ag ?_;refine be ?_;refine dK fH rfl rfl rfl rfl rfl (fun _=>rfl) aV aa aa ?_;intro _ LS Mx;refine be ?_;refine nq ?_;refine na ag ?_;refine be ?_;refine dK S8 rfl rfl rfl rfl rfl (fun _=>rfl) aV aa aa ?_;intro _ A36 c36;refine be ?_;refine nq ?_;refine⟨((A36,c36),(LS,Mx),(Gn,Ly),PB++[((s_,Bp,(aK (JM (ch+4) x y.val)).1):kP)]),by rw[jd,kT];rfl,?_⟩;refine .trans ((tD (tD (tD (tD (tD (tD (tD (gl (rP (gl (ef (.refl _))))))))))))) ?_;exact .cons (.cons (ax ak (by simp[sH]) (ax ak ak (bp ak (bp ak (.cons (.cons (.cons (.cons (qy (PB:=PB) (F:=F++F') (e:=((s_,Bp,(aK (JM (ch+4) x y.val)).1):kP)) []))))))))))
 ·rintro D xs ⟨⟨Ag,cg⟩,⟨Ap,cp⟩,⟨Ab,cb⟩,PB⟩ hS kT;have e:List.range (gT (ch+4) x.length)=List.range (k+m):=dC List.range hN;have RN:=hS.trans e;have as3:xs.length=k+m:=by have:=dC List.length RN;simpa using this
  rw[RN]at kT;have D6:PB.length=k+m:=by have:=dC List.length kT;simpa[gP]using this
  simp only[RN,as3];have hGl:(gG (ch+4) x (List.range (k+m))).length=k+m:=by simp[gG]
  have Ix:∀i,i<k+m→(gG (ch+4) x (List.range (k+m))).getD i false=true→(PB.getD i iR).2.2.length=ch:=fun i hi hg=>by
   have hr:=fO (k:=ch+4) hi;rw[←ET,kT];simp only[gG,gP,bk,jt,yg hi,sP,vG]at hg⊢;rw[Dr (by simpa using hg)];unfold JM;rw[eV,iN,Ql];omega
  have tV:bad++dO at_ (gG (ch+4) x (List.range (k+m)))=bad++dO at_ (OW k m ch x):=by rw[E9]
  refine aaA rfl ?_;refine iV ?_;refine PW (S:=.obj D (.deferred (some [])):: .bE gq 3 [ah ((ch+4:Nat):Int)]:: .bE gp 27 [.slice A x.length c]:: .own 4 1 Ag (gG (ch+4) x (List.range (k+m))).length cg (sH (gG (ch+4) x (List.range (k+m)))):: .own 27 1 Ap PB.length cp ((PB).map dq):: .bE g6 186 [.slice Ag (gG (ch+4) x (List.range (k+m))).length cg]:: .bE g5 52 [.slice Ap (PB).length cp]:: .bE g2 278 [bq g]::Gu g k m ch (.slice Ao out.length co) (.slice Ab (bad++dO at_ (gG (ch+4) x (List.range (k+m)))).length cb) (at_+(k+m)):: .own 5 1 Ao out.length co (bv out):: .own 3 1 Ab (bad++dO at_ (gG (ch+4) x (List.range (k+m)))).length cb (bx (bad++dO at_ (gG (ch+4) x (List.range (k+m)))))::(PB.map fx++F)) ag gF ?_;refine ab 0 ?_;refine ab 1 ?_;refine ab 2 ?_;refine ab 3 ?_;refine ab 4 ?_;refine ab 5 ?_;refine ab 6 ?_;refine ab 7 ?_;refine ab 8 ?_;refine ab 9 ?_;refine ab 10 ?_;refine ab 11 ?_;refine az 12 ?_;refine gC rfl .no apc rfl (aeF (PB:=PB) (good:=gG (ch+4) x (List.range (k+m))) (nn:=ch) k1 km D6 hGl aa Ix aB (fun e he=>aL.own aoy) aB) rfl (by rintro _ _ ⟨BZ,Ge,FB,rfl,rfl,sM⟩;exact gF) ?_;rintro _ _ ⟨BZ,Ge,FB,rfl,cJ,sM⟩;obtain rfl:=cJ.symm;refine ab 13 ?_;refine ab 14 ?_;refine ab 15 ?_;refine ab 16 ?_;refine ab 17 ?_;refine cP [2,5,6,10,11] ?_;refine dH ?_;refine iV ?_;refine iV ?_;rw[kT,←hsr]at sM⊢;refine gH ?_;refine bH ?_;refine dH ?_;refine uL rfl (fun h54=>?_) (fun h54=>?_)
  ·refine iV ?_;refine gH ?_;refine bH ?_;refine dH ?_;refine yY ?_;refine AY ?_;refine⟨_,(List.perm_middle.cons _).trans (.swap ..),?_⟩;refine ao (.skip ((dA _ _).trans (.skip (.skip (.skip (.skip (.skip (.skip (.skip (.cons (.cons (.cons (dA _ _))))))))))))) ?_;have eE:LQ k m ch x=(BS k m ch x).2:=by rw[acL,aq h54]
   refine aE ?_;exact⟨Ao,co,Ab,cb,out,by rw[eE],Me,fun k=>absurd (eE.symm.trans k) h54⟩
  ·have e0:(BS k m ch x).2=0:=bF h54;obtain⟨k9,jK⟩:=Fs k1 Ql e0;have Rv:FB.length=k+m:=by have:=dC List.length sM;rw[eM]at this;omega
   have hFe:∀e∈FB,e.2.2.length=ch:=fun e he=>jK _ (sM▸je (f:=fun y:kP=>y.2.2) he);refine af_ (om (_::FB.map fx) [_,_,_,_,_,_,_,_,_,_,_] _) ?_;simp only[nE,nU];have aqd:xe k m ch x↔∃i,i<FB.length∧(gG (ch+4) x (List.range (k+m))).getD i false=true∧(FB.getD i iR).2.2≠(PB.getD i iR).2.2:=by
    unfold xe;rw[←sM,E9,aes,←kT,eM];simp only[ET]
   refine yZ ?_;refine dH ?_;refine iV ?_;refine iV ?_;refine gH ?_;refine b8 ?_;refine dH ?_;refine Jm ?_;refine aaC (fun zf zL zm=>∃(i:Nat),(i≤FB.length∧∀j,j<i→¬((gG (ch+4) x (List.range (k+m))).getD j false=true∧(FB.getD j iR).2.2≠(PB.getD j iR).2.2))∧FB.length-i=zm∧Sub zf [(2,bq g2),(5,bq g5),(6,bq g6),(10,.slice BZ FB.length Ge),(56,.slice BZ FB.length Ge),(57,ah FB.length),(58,ah (i:Int))]∧Wk zL (.obj D (.deferred (some [])):: .bE gq 3 [ah ((ch+4:Nat):Int)]:: .bE gp 27 [.slice A x.length c]:: .own 4 1 Ag (gG (ch+4) x (List.range (k+m))).length cg (sH (gG (ch+4) x (List.range (k+m)))):: .own 27 1 Ap PB.length cp ((PB).map dq):: .bE g6 186 [.slice Ag (gG (ch+4) x (List.range (k+m))).length cg]:: .bE g5 52 [.slice Ap (PB).length cp]:: .bE g2 278 [bq g]::Gu g k m ch (.slice Ao out.length co) (.slice Ab (bad++dO at_ (gG (ch+4) x (List.range (k+m)))).length cb) (at_+(k+m)):: .own 5 1 Ao out.length co (bv out):: .own 3 1 Ab (bad++dO at_ (gG (ch+4) x (List.range (k+m)))).length cb (bx (bad++dO at_ (gG (ch+4) x (List.range (k+m))))):: .own 27 1 BZ FB.length Ge (FB.map dq)::(FB.map fx++(PB.map fx++F)))) _ ⟨0,⟨bS _,fun j hj=>aa⟩,rfl,bm,.refl _⟩ ?_;rintro _ _ _ ⟨i,⟨hi,NL⟩,rfl,hs,hp⟩;refine TQ _ hs (anU hp ?_);clear hs hp;refine iV ?_;refine gH ?_;refine be ?_;refine dH ?_;refine iV ?_;refine uL rfl (fun h59=>?_) (fun h59=>?_)
   ·have hgF:=G8 (PB:=FB) (i:=i) aa;have hgP:=G8 (PB:=PB) (i:=i) aa;have hmF:=bh (l:=FB) (show i<FB.length by omega) iR;have hmP:=bh (l:=PB) (show i<PB.length by omega) iR;obtain⟨P,hP⟩:=cR (FB.getD i iR);obtain⟨Q,hQ⟩:=cR (PB.getD i iR);rw[←hP]at hgF hmF;rw[←hQ]at hgP hmP;have hlP:=hFe P hmF;refine yZ ?_;refine dH ?_;refine iV ?_;refine Jm ?_;refine iV ?_;refine gH ?_;refine be ?_;refine ae (au ag rfl aB aa hgF) rfl ?_;refine bH ?_;refine dH ?_;refine iV ?_;refine gH ?_;refine bI ?_;refine nN rfl rfl rfl (fun Vf=>?_) (fun Vf=>?_)
    ·refine bM ?_;refine ae (au ag rfl aB aa hgP) rfl ?_;refine aE ?_;refine ai rfl (ab0 (l:=P.2.2) (l2:=Q.2.2) rfl rfl rfl rfl (aL.own (by repeat (first|exact j_ _ (je (f:=fx) hmF)|apply List.Mem.tail))) (aL.own (by repeat (first|exact nB _ (j_ _ (je (f:=fx) hmP))|apply List.Mem.tail))) aa) ?_;refine bH ?_;refine ve [2,5,6,10,56,57,58,75] ?_;refine dH ?_;refine uL rfl (fun h75=>?_) (fun h75=>?_)
     ·have eE:LQ k m ch x=2:=by
       have hu:xe k m ch x:=aqd.2 ⟨i,aa,Vf,by rw[←hP,←hQ];exact h75⟩;rw[acL,aw aa,aq hu]
      refine iV ?_;refine gH ?_;refine be ?_;refine dH ?_;refine yY ?_;refine aE ?_;refine AY ?_;refine be ?_;refine AY ?_;refine⟨_,.refl _,?_⟩;refine ao (.skip (.skip (.skip (.skip (.skip (.skip (.skip (.cons (.cons (.cons (.skip ((dA _ _).trans (dA _ _))))))))))))) ?_;refine aE ?_;exact⟨Ao,co,Ab,cb,out,by rw[eE],Me,fun k=>absurd (eE.symm.trans k) aA⟩
     ·refine yZ ?_;refine aE ?_;refine dH ?_;refine gH ?_;refine bH ?_;refine av ⟨_,aa,i+1,⟨aa,fun j hj=>by
       by_cases e:j=i
       ·subst e;rw[←hP,←hQ];rintro⟨u1,u2⟩;first|exact h75 u2|(rw[Vf]at u1;cases u1)
       ·exact NL j aa⟩,rfl,bm,.refl _⟩
    ·refine bD ?_;refine ve [2,5,6,10,56,57,58,75] ?_;refine dH ?_;refine TP rfl ?_;refine yZ ?_;refine aE ?_;refine dH ?_;refine gH ?_;refine bH ?_;refine av ⟨_,aa,i+1,⟨aa,fun j hj=>by
      by_cases e:j=i
      ·subst e;rw[←hP,←hQ];rintro⟨u1,u2⟩;first|exact h75 u2|(rw[Vf]at u1;cases u1)
      ·exact NL j aa⟩,rfl,bm,.refl _⟩
   ·have hie:i=FB.length:=by omega
    have eE:LQ k m ch x=0:=by
     have hu:¬xe k m ch x:=fun hh=>by
      obtain⟨j,hj,u1,u2⟩:=aqd.1 hh;exact NL j aa ⟨u1,u2⟩
     rw[acL,aw aa,aw hu]
    refine ajF (A:=BZ) (nn:=FB.length) (c:=Ge) (size:=1) (xs:=FB.map dq) aB fun hcF _=>?_;have RF:aL B w0 (.obj D (.deferred (some [])):: .bE gq 3 [ah ((ch+4:Nat):Int)]:: .bE gp 27 [.slice A x.length c]:: .own 4 1 Ag (gG (ch+4) x (List.range (k+m))).length cg (sH (gG (ch+4) x (List.range (k+m)))):: .own 27 1 Ap PB.length cp ((PB).map dq):: .bE g6 186 [.slice Ag (gG (ch+4) x (List.range (k+m))).length cg]:: .bE g5 52 [.slice Ap (PB).length cp]:: .bE g2 278 [bq g]::Gu g k m ch (.slice Ao out.length co) (.slice Ab (bad++dO at_ (gG (ch+4) x (List.range (k+m)))).length cb) (at_+(k+m)):: .own 5 1 Ao out.length co (bv out):: .own 3 1 Ab (bad++dO at_ (gG (ch+4) x (List.range (k+m)))).length cb (bx (bad++dO at_ (gG (ch+4) x (List.range (k+m))))):: .own 27 1 BZ FB.length Ge (FB.map dq)::(FB.map fx++(PB.map fx++F))) 1 (.slice BZ k Ge) k (OS (FB.take k)).Cm:=by
     have h1:aL B w0 (.obj D (.deferred (some [])):: .bE gq 3 [ah ((ch+4:Nat):Int)]:: .bE gp 27 [.slice A x.length c]:: .own 4 1 Ag (gG (ch+4) x (List.range (k+m))).length cg (sH (gG (ch+4) x (List.range (k+m)))):: .own 27 1 Ap PB.length cp ((PB).map dq):: .bE g6 186 [.slice Ag (gG (ch+4) x (List.range (k+m))).length cg]:: .bE g5 52 [.slice Ap (PB).length cp]:: .bE g2 278 [bq g]::Gu g k m ch (.slice Ao out.length co) (.slice Ab (bad++dO at_ (gG (ch+4) x (List.range (k+m)))).length cb) (at_+(k+m)):: .own 5 1 Ao out.length co (bv out):: .own 3 1 Ab (bad++dO at_ (gG (ch+4) x (List.range (k+m)))).length cb (bx (bad++dO at_ (gG (ch+4) x (List.range (k+m))))):: .own 27 1 BZ FB.length Ge (FB.map dq)::(FB.map fx++(PB.map fx++F))) 1 (.slice BZ FB.length Ge) FB.length (FB.map dq):=aB;have h2:=h1.js (k:=k) aa;rw[cE,←pw,←E0 (FB.take k)]at h2;exact h2
    have hcr:∀y∈OS (FB.take k),aL B w0 (.obj D (.deferred (some [])):: .bE gq 3 [ah ((ch+4:Nat):Int)]:: .bE gp 27 [.slice A x.length c]:: .own 4 1 Ag (gG (ch+4) x (List.range (k+m))).length cg (sH (gG (ch+4) x (List.range (k+m)))):: .own 27 1 Ap PB.length cp ((PB).map dq):: .bE g6 186 [.slice Ag (gG (ch+4) x (List.range (k+m))).length cg]:: .bE g5 52 [.slice Ap (PB).length cp]:: .bE g2 278 [bq g]::Gu g k m ch (.slice Ao out.length co) (.slice Ab (bad++dO at_ (gG (ch+4) x (List.range (k+m)))).length cb) (at_+(k+m)):: .own 5 1 Ao out.length co (bv out):: .own 3 1 Ab (bad++dO at_ (gG (ch+4) x (List.range (k+m)))).length cb (bx (bad++dO at_ (gG (ch+4) x (List.range (k+m))))):: .own 27 1 BZ FB.length Ge (FB.map dq)::(FB.map fx++(PB.map fx++F))) 1 y.1 y.2.length (bv y.2):=fun y hy=>by
     obtain⟨e,he,rfl⟩:=pS.1 hy;have he:=lW he;exact aL.own aoy
    have hz:(OS (FB.take k)).all=((BS k m ch x).1.take k).flatten:=by rw[CK,pw,sM]
    have hzl:((BS k m ch x).1.take k).flatten.length≤2000000:=by
     rw[←hz,CK];have:=Bt (m:=ch) (FB.take k) (fun e he=>Nat.le_of_eq (hFe e (lW he)));have h3:(FB.take k).length=k:=by rw[eV];omega
     rw[h3]at this;have h4:ch*k≤4096*255:=gN ch2 aa;omega
    obtain⟨z,hzz⟩:=cR (((BS k m ch x).1.take k).flatten);rw[←hzz]at hz hzl;have hoz:(out++z).length=out.length+z.length:=aX;refine af9 ?_;refine Tj ?_;refine be ?_;refine dH ?_;refine iV ?_;refine PW (S:=([.bE g2 278 [bq g]]:aR)) ag gF ?_;refine ab 0 ?_;refine ab 1 ?_;refine ab 2 ?_;refine ab 3 ?_;refine ab 5 ?_;refine ab 6 ?_;refine ab 7 ?_;refine ab 8 ?_;refine ab 9 ?_;refine gU 4 10 ?_ ?_
    ·refine aE ?_;refine az 10 ?_;refine aE ?_;refine aW 11 rfl (bZ (i:=k) (size:=1) underlying52 ag rfl rfl rfl aa) ?_;refine az 12 ?_;refine b7 rfl rfl (zr (P:=OS (FB.take k)) (l:=z) RF hcr Bl hz aa Bl) fun A89 c89=>?_;refine az 13 ?_;refine eW rfl (bW cN rfl aV rfl aB cA aa aa) fun A90 c90=>?_;refine ab 14 ?_;refine ab 15 ?_;refine az 16 ?_;refine aE ?_;refine cP [] ?_;refine dH ?_;refine iV ?_;refine gH ?_;refine be ?_;refine dH ?_;refine yY ?_;refine⟨_,.swap ..,?_⟩;refine ao (L':=Gu g k m ch (.slice A90 (out++z).length c90) (.slice Ab (bad++dO at_ (gG (ch+4) x (List.range (k+m)))).length cb) (at_+(k+m)):: .own 5 1 A90 (out++z).length c90 (bv (out++z)):: .own 3 1 Ab (bad++dO at_ (gG (ch+4) x (List.range (k+m)))).length cb (bx (bad++dO at_ (gG (ch+4) x (List.range (k+m)))))::F) (.skip (.skip (.skip (.skip (.skip (.skip (.skip (.skip (bp (by rw[hoz];rfl) (ax (by rw[hoz]) ak (.cons (.skip ((dA _ _).trans (dA _ _)))))))))))))) ?_;refine aE ?_;exact⟨A90,c90,Ab,cb,out++z,by rw[eE],Me,fun _=>by rw[hzz]⟩
    ·refine aE ?_;refine aW 11 rfl (bZ (i:=k) (size:=1) underlying52 ag rfl rfl rfl aa) ?_;refine gU 4 12 ?_ ?_
     ·refine aE ?_;refine az 12 ?_;refine b7 rfl rfl (zr (P:=OS (FB.take k)) (l:=z) RF hcr Bl hz aa Bl) fun A89 c89=>?_;refine az 13 ?_;refine eW rfl (bW cN rfl aV rfl aB cA aa aa) fun A90 c90=>?_;refine ab 14 ?_;refine ab 15 ?_;refine az 16 ?_;refine aE ?_;refine cP [] ?_;refine dH ?_;refine iV ?_;refine gH ?_;refine be ?_;refine dH ?_;refine yY ?_;refine⟨_,.swap ..,?_⟩;refine ao (L':=Gu g k m ch (.slice A90 (out++z).length c90) (.slice Ab (bad++dO at_ (gG (ch+4) x (List.range (k+m)))).length cb) (at_+(k+m)):: .own 5 1 A90 (out++z).length c90 (bv (out++z)):: .own 3 1 Ab (bad++dO at_ (gG (ch+4) x (List.range (k+m)))).length cb (bx (bad++dO at_ (gG (ch+4) x (List.range (k+m)))))::F) (.skip (.skip (.skip (.skip (.skip (.skip (.skip (.skip (bp (by rw[hoz];rfl) (ax (by rw[hoz]) ak (.cons (.skip ((dA _ _).trans (dA _ _)))))))))))))) ?_;refine aE ?_;exact⟨A90,c90,Ab,cb,out++z,by rw[eE],Me,fun _=>by rw[hzz]⟩
     ·refine b7 rfl rfl (zr (P:=OS (FB.take k)) (l:=z) RF hcr Bl hz aa Bl) fun A89 c89=>?_;refine az 4 ?_;refine aE ?_;refine az 13 ?_;refine eW rfl (bW cN rfl aV rfl aB cA aa aa) fun A90 c90=>?_;refine ab 14 ?_;refine ab 15 ?_;refine az 16 ?_;refine aE ?_;refine cP [] ?_;refine dH ?_;refine iV ?_;refine gH ?_;refine be ?_;refine dH ?_;refine yY ?_;refine⟨_,.swap ..,?_⟩;refine ao (L':=Gu g k m ch (.slice A90 (out++z).length c90) (.slice Ab (bad++dO at_ (gG (ch+4) x (List.range (k+m)))).length cb) (at_+(k+m)):: .own 5 1 A90 (out++z).length c90 (bv (out++z)):: .own 3 1 Ab (bad++dO at_ (gG (ch+4) x (List.range (k+m)))).length cb (bx (bad++dO at_ (gG (ch+4) x (List.range (k+m)))))::F) (.skip (.skip (.skip (.skip (.skip (.skip (.skip (.skip (bp (by rw[hoz];rfl) (ax (by rw[hoz]) ak (.cons (.skip ((dA _ _).trans (dA _ _)))))))))))))) ?_;refine aE ?_;exact⟨A90,c90,Ab,cb,out++z,by rw[eE],Me,fun _=>by rw[hzz]⟩
end
section
variable{ch:Nat}
theorem OZ{f:Nat}{s out:al}{bad:bc}{a:Nat}(h:LQ k m ch (s.take ((k+m)*(ch+4)))≠0):tq k m ch (f+1) s out bad a=([],[],LQ k m ch (s.take ((k+m)*(ch+4)))):=by rw[tq,aq h]
theorem Wn{f:Nat}{s out:al}{bad:bc}{a:Nat}(h:LQ k m ch (s.take ((k+m)*(ch+4)))=0):tq k m ch (f+1) s out bad a=tq k m ch f (s.drop ((k+m)*(ch+4))) (out++((BS k m ch (s.take ((k+m)*(ch+4)))).1.take k).flatten) (bad++dO a (OW k m ch (s.take ((k+m)*(ch+4))))) (a+(k+m)):=by
 rw[tq,aw aa]
theorem OV(a:Nat)(G:List Bool):(dO a G).length≤G.length:=by
 have:=BH (fun i=> !G.getD i false) (List.range G.length);rw[wm]at this;unfold dO;rw[eM];exact this
theorem akD{x:al}(h:LQ k m ch x=0):(BS k m ch x).2=0:=by
 have acL:LQ k m ch x=(if (BS k m ch x).2≠0 then (BS k m ch x).2 else @ite _ (xe k m ch x) (Classical.propDecidable _) 2 0):=rfl;by_cases h1:(BS k m ch x).2≠0
 ·rw[acL,aq h1]at h;exact h
 ·exact bF h1
theorem zG{c:Nat}:∀l:eH,(∀b∈l,b.length=c)→l.flatten.length=l.length*c
 |[],_=>by simp
 |b::l,h=>by
  rw[wo,aX,zG l (fun x hx=>h x oe),h b ak,eh,kA];omega
set_option maxHeartbeats 1000000 in
theorem ai2(HT:bK B w0)(h:Gv k m ch){s:al}(hn:n≤4611686018427387904)(hb:fq B w0 F A c s):
  a_ B w0 130 [ah (k:Int),ah (m:Int),ah (ch:Int),ah (n:Int),.slice A s.length c] F (fun v L=>∃A1 c1 A2 c2,v= .tuple #[.slice A1 (jX k m ch n s).1.length c1,.slice A2 (jX k m ch n s).2.1.length c2,ah (jX k m ch n s).2.2]∧L= .own 5 1 A1 (jX k m ch n s).1.length c1 (bv (jX k m ch n s).1):: .own 3 1 A2 (jX k m ch n s).2.1.length c2 (bx (jX k m ch n s).2.1)::F):=by
 obtain⟨k1,km,ch1,ch2⟩:=h;have h:Gv k m ch:=⟨k1,km,ch1,ch2⟩
 have hkc:=h.kc;have Gk:=h.laid;refine dP.zk hb fun oA _=>?_;refine fw func130 94 [0,1,2,3,4] ?_;refine c_ ?_;refine ai rfl (WH h aa) ?_;refine jU ?_;refine aj (fun ku=>?_) fun ku=>?_
 ·have e:jX k m ch n s=([],[],zg k m ch n):=by unfold jX;rw[aq ku]
  refine bB ?_;refine ve [10,11,12] ?_;refine b8 ?_;refine aC 3 1 none ?_;refine aC 5 1 none ?_;refine aE ?_;rw[e];exact⟨none,0,none,0,rfl,rfl⟩
 ·have e0:zg k m ch n=0:=bF ku;rw[aq e0];have tW:n≤8388608:=by
   refine bF fun hh=>?_;unfold zg at e0;rw[aq aa]at e0;exact absurd e0 aA
  have ac7:jk k m ch n≤16777216:=by
   refine bF fun hh=>?_;unfold zg at e0;rw[aw aa,aq aa]at e0;exact absurd e0 aA
  refine bD ?_;refine ve [0,1,2,3,4,13,31] ?_;refine aE ?_;refine aj (fun D4=>?_) fun D4=>?_
  ·have e:jX k m ch n s=([],[],1):=by unfold jX;rw[aw ku,aq aa]
   refine bz ?_;refine aC 3 1 none ?_;refine aC 5 1 none ?_;refine aE ?_;rw[e];exact⟨none,0,none,0,rfl,rfl⟩
  ·refine bP ?_;refine aj (fun za=>?_) fun za=>?_
   ·have e:jX k m ch n s=([],[],2):=by unfold jX;rw[aw ku,aw aa,aq aa]
    refine bz ?_;refine aC 3 1 none ?_;refine aC 5 1 none ?_;refine aE ?_;rw[e];exact⟨none,0,none,0,rfl,rfl⟩
   ·have hse:s.length=jk k m ch n:=by omega
    have e:jX k m ch n s=if (oF k m ch n s).2.2≠0 then ([],[],(oF k m ch n s).2.2) else if∃x∈(oF k m ch n s).1.drop n,x≠0 then ([],[],2) else ((oF k m ch n s).1.take n,(oF k m ch n s).2.1,0):=by
     unfold jX;rw[aw ku,aw aa,aw aa]
    have wN:=CO (k:=k) (ch:=ch) (n:=n) aa;have hrA:oF k m ch n s=tq k m ch (lJ k ch n) s [] [] 0:=rfl;unfold jk at ac7 hse;obtain⟨S,hS⟩:=cR (lJ k ch n);obtain⟨D,hD⟩:=cR (k*ch);obtain⟨Ld,Vg⟩:=cR ((k+m)*(ch+4));have hDL:D≤Ld:=by rw[hD,Vg];exact gN aa aa
    have hKL:k+m≤Ld:=by rw[Vg];exact ah1 _ aa
    rw[←hS]at ac7 hse wN hrA;rw[←Vg]at ac7 hse Gk;rw[←hD]at hkc wN;refine b8 ?_;refine aY 3 1 none ?_;refine aY 5 1 none ?_;refine b8 ?_;refine ae (eG [(0,_),(1,_),(2,_)] [_,_,_] rfl rfl ag) rfl ?_;refine ae (br [(0,_)] [ah 0,ah 0,ah 0,.slice none 0 0,.slice none 0 0,ah 0] [0] [_,_,_,_,_,_] rfl rfl ag) rfl ?_;refine bf fun U8=>?_;refine bI ?_;refine aD (fun zf zL zm=>∃(j:Nat) (R:al) (Ar:bj) (cr:Nat) (out:al) (Ao:bj) (co:Nat) (bad:bc) (Ab:bj) (cb:Nat),(j≤S∧R.length=(S-j)*Ld∧R.length≤cr∧aL B w0 F 1 (.slice Ar R.length cr) R.length (bv R)∧out.length=j*D∧bad.length≤j*(k+m)∧tq k m ch (S-j) R out bad (j*(k+m))=oF k m ch n s)∧S-j=zm∧Sub zf [(3,ah (n:Int)),(4,.slice Ar R.length cr),(15,bq U8)]∧Wk zL (Gu U8 k m ch (.slice Ao out.length co) (.slice Ab bad.length cb) (j*(k+m)):: .own 5 1 Ao out.length co (bv out):: .own 3 1 Ab bad.length cb (bx bad)::F)) _ ⟨0,s,A,c,[],none,0,[],none,0,⟨bS _,by rw[Ek];exact hse,oA,hb,ak,ak,by rw[Ek,sc];exact hrA.symm⟩,rfl,bm,bp ak (.refl _)⟩ ?_;rintro _ _ _ ⟨j,R,Ar,cr,out,Ao,co,bad,Ab,cb,⟨hj,Vi,hRc,Vh,Kl,dh,ac2⟩,rfl,hs,hp⟩;refine aU hs hp ?_;clear hs hp;refine bM ?_;refine aj (fun Yp=>?_) fun Yp=>?_
    ·have hjS:j<S:=by
      refine bF fun hh=>?_;have:S-j=0:=by omega
      rw[this,sc]at Vi;omega
     have hSj:S-j=(S-(j+1))+1:=by omega
     rw[hSj,kA]at Vi;rw[hSj]at ac2;have hLj:(j+1)*Ld≤S*Ld:=oC _ hjS;have hDj:(j+1)*D≤(j+1)*Ld:=yk _ hDL;have hKj:(j+1)*(k+m)≤(j+1)*Ld:=yk _ hKL;rw[kA]at hLj hDj hKj;rw[kA]at hKj hDj;obtain⟨X,hX⟩:=cR (R.take Ld);have Vj:X.length=Ld:=by rw[hX,eV];omega
     have hXb:aL B w0 F 1 (.slice Ar X.length cr) X.length (bv X):=by
      have:=Vh.js (k:=Ld) aa;rw[cE,kI,←hX]at this;rw[Vj];exact this
     have hXk:X.length=(k+m)*(ch+4):=by rw[Vj,Vg]
     refine dm ?_;refine ae (bQ 3 ag rfl aV [ah (k:Int),ah (m:Int),ah (ch:Int)] rfl rfl) rfl ?_;refine ai rfl (K4 h) ?_;refine ae (bZ (i:=(k+m)*(ch+4)) (size:=1) underlying27 ag rfl rfl rfl aa) rfl ?_;rw[←hXk];refine ba ao2 rfl (ae1 HT h hXk aa hXb aa aa aa) rfl ?_;rintro _ _ ⟨Ao2,co2,Ab2,cb2,aqP,rfl,cJ,ahO⟩;obtain rfl:=cJ.symm;refine bP ?_;refine aj (fun h60=>?_) fun h60=>?_
     ·have hE2:oF k m ch n s=([],[],LQ k m ch X):=by rw[←ac2,OZ (by rw[←Vg,←hX];exact h60),←Vg,←hX]
      rw[hE2,aq h60]at e;refine bB ?_;refine ve [10,11,12] ?_;refine bD ?_;refine aC 3 1 none ?_;refine aC 5 1 none ?_;refine ao (.cons (.cons (.skip (.skip (.skip (.refl _)))))) ?_;refine aE ?_;rw[e];exact⟨none,0,none,0,rfl,rfl⟩
     ·have hz:LQ k m ch X=0:=bF h60;have hE2:=Wn (k:=k) (m:=m) (ch:=ch) (f:=S-(j+1)) (s:=R) (out:=out) (bad:=bad) (a:=j*(k+m)) (by rw[←Vg,←hX];exact hz);rw[←Vg,←hX,←ahO hz]at hE2;obtain⟨k9,jK⟩:=Fs k1 hXk (akD hz);have asL:aqP.length=(j+1)*D:=by
       rw[ahO hz,aX,zG (c:=ch) _ (fun b hb=>jK b (lW hb)),eV,k9,kA,hD,←hD,Kl,zd aa,←hD]
      have GR:(bad++dO (j*(k+m)) (OW k m ch X)).length≤(j+1)*(k+m):=by
       have:=OV (j*(k+m)) (OW k m ch X);have h2:(OW k m ch X).length=k+m:=by rw[E9];simp[gG]
       rw[aX,kA];omega
      refine bD ?_;refine ae (bQ 3 ag rfl aV [ah (k:Int),ah (m:Int),ah (ch:Int)] rfl rfl) rfl ?_;refine ai rfl (K4 h) ?_;refine ae (bT (i:=(k+m)*(ch+4)) (size:=1) underlying27 ag rfl rfl rfl aa) rfl ?_;refine aE ?_;refine ve [3,4,15] ?_;refine aE ?_;have Bv:(R.drop Ld).length=(S-(j+1))*Ld:=by rw[iN];omega
      have hcut:=Vh.cut (k:=Ld) aa;rw[cE,jv]at hcut;have acA:R.length-Ld=(R.drop Ld).length:=by rw[iN]
      rw[acA]at hcut;rw[←Vg,acA,cE Ld];have hjk:j*(k+m)+(k+m)=(j+1)*(k+m):=by rw[kA]
      rw[hjk];refine av ⟨_,aa,j+1,R.drop Ld,_,_,aqP,Ao2,co2,bad++dO (j*(k+m)) (OW k m ch X),Ab2,cb2,(by exact⟨hjS,Bv,aa,hcut,asL,GR,by rw[←ac2,hE2,hjk]⟩),rfl,bm,.refl _⟩
    ·have hjS:j=S:=by
      refine bF fun hh=>?_;have:1*Ld≤(S-j)*Ld:=oC _ aa;omega
     subst hjS;rw[nA,tq]at ac2;rw[←ac2,aw ak]at e;have hKj:j*(k+m)≤j*Ld:=yk _ hKL;have hDj:j*D≤j*Ld:=yk _ hDL;have hdl:(out.drop n).length=out.length-n:=iN;have hcut:aL B w0 (Gu U8 k m ch (.slice Ao out.length co) (.slice Ab bad.length cb) (j*(k+m)):: .own 5 1 Ao out.length co (bv out):: .own 3 1 Ab bad.length cb (bx bad)::F) 1 (.slice (if co=n then Ao else Ao.map (·.add (n*1))) (out.length-n) (co-n)) (out.length-n) (bv (out.drop n)):=by
      have:=(aL.own (B:=B) (w0:=w0) (L:=Gu U8 k m ch (.slice Ao out.length co) (.slice Ab bad.length cb) (j*(k+m)):: .own 5 1 Ao out.length co (bv out):: .own 3 1 Ab bad.length cb (bx bad)::F) (.tail _ (.head _))).cut (k:=n) aa;rw[jv,cE]at this;rw[cE];exact this
     refine c_ ?_;refine ae (bT (i:=n) (size:=1) underlying27 ag rfl rfl rfl aa) rfl ?_;refine bI ?_;refine aD (fun zf zL zm=>∃(q:Nat),(q≤out.length-n∧∀p,p<q→(out.drop n).getD p 0=0)∧out.length-n-q=zm∧Sub zf [(3,ah (n:Int)),(15,bq U8),(74,.slice (if co=n then Ao else Ao.map (·.add (n*1))) (out.length-n) (co-n)),(75,ah ((out.length-n:Nat):Int)),(76,ah (q:Int))]∧Wk zL (Gu U8 k m ch (.slice Ao out.length co) (.slice Ab bad.length cb) (j*(k+m)):: .own 5 1 Ao out.length co (bv out):: .own 3 1 Ab bad.length cb (bx bad)::F)) _ ⟨0,⟨bS _,fun p hp=>aa⟩,rfl,bm,.refl _⟩ ?_;rintro _ _ _ ⟨q,⟨hq,hz0⟩,rfl,hs,hp⟩;refine aU hs hp ?_;clear hs hp;refine bB ?_;refine aj (fun h77=>?_) fun h77=>?_
     ·obtain⟨u,hu⟩:=cR ((out.drop n).getD q 0);refine bB ?_;refine ae (aG (i:=q) (size:=1) underlying27 ag rfl rfl rfl aa hcut) rfl ?_;refine ae (jq ag rfl hcut aa) rfl ?_;rw[←hu];refine bP ?_;refine aj (fun h81=>?_) fun h81=>?_
      ·have hex:∃x∈out.drop n,x≠0:=⟨u,hu▸bh aa 0,fun k=>h81 (by rw[k];rfl)⟩
       rw[aq hex]at e;refine c_ ?_;refine aC 3 1 none ?_;refine aC 5 1 none ?_;refine ao (.cons (.cons (.skip (.skip (.skip (.refl _)))))) ?_;refine aE ?_;rw[e];exact⟨none,0,none,0,rfl,rfl⟩
      ·refine bD ?_;refine av ⟨_,aa,q+1,⟨aa,fun p hp=>by
        by_cases e:p=q
        ·subst e;rw[←hu];exact nZ (by show u.toNat=0;omega)
        ·exact hz0 p aa⟩,rfl,bm,.refl _⟩
     ·have hex:¬∃x∈out.drop n,x≠0:=fun⟨x,hx,hx0⟩=>by
       obtain⟨p,hp,rfl⟩:=j8 hx;have:=hz0 p aa;rw[bk,fo hp]at this;exact hx0 this
      rw[aw hex]at e;have Cc:(out.take n).length=n:=by rw[eV];omega
      have acU:aL B w0 (Gu U8 k m ch (.slice Ao out.length co) (.slice Ab bad.length cb) (j*(k+m)):: .own 5 1 Ao out.length co (bv out):: .own 3 1 Ab bad.length cb (bx bad)::F) 1 (.slice Ao n co) n (bv (out.take n)):=by
       have:=(aL.own (B:=B) (w0:=w0) (L:=Gu U8 k m ch (.slice Ao out.length co) (.slice Ab bad.length cb) (j*(k+m)):: .own 5 1 Ao out.length co (bv out):: .own 3 1 Ab bad.length cb (bx bad)::F) (.tail _ (.head _))).js (k:=n) aa;rw[kI,cE]at this;exact this
      refine TK (A:=Ao) (nn:=out.length) (c:=co) (size:=1) (xs:=bv out) (aL.own (.tail _ (.head _))) fun hcF _=>?_;refine bB ?_;refine cC (Gu U8 k m ch (.slice Ao out.length co) (.slice Ab bad.length cb) (j*(k+m)):: .own 5 1 Ao out.length co (bv out):: .own 3 1 Ab bad.length cb (bx bad)::F) ?_;refine ab 0 ?_;refine ab 1 ?_;refine ab 2 ?_;refine ab 3 ?_;refine ab 4 ?_;refine aW 5 rfl (bZ (i:=n) (size:=1) underlying27 ag rfl rfl rfl aa) ?_;refine ab 7 ?_;refine ab 8 ?_;refine ab 9 ?_;refine ab 10 ?_;refine az 6 ?_;refine b7 rfl rfl (uu (l:=out.take n) Cc.symm rfl acU aa) fun A89 c89=>?_;refine ab 11 ?_;refine ab 12 ?_;refine ab 13 ?_;refine cP [10,11,12] ?_;refine be ?_;refine ao (.cons (.skip (.skip (.refl _)))) ?_;refine aE ?_;rw[e];exact⟨A89,c89,Ab,cb,rfl,rfl⟩
end
theorem Oh{k m ch:Nat}{b:al}(hk:0<k)(hc:0<ch)(h:(p7 k m ch b).2=0):(p7 k m ch b).1.length≤16777216∧b.length≤8388608:=by
 unfold p7 at h⊢;by_cases e:zg k m ch b.length≠0
 ·rw[aq e]at h;exact absurd h e
 ·rw[aw e];have e':zg k m ch b.length=0:=bF e;unfold zg at e';have hb:b.length≤8388608:=bF fun q=>by rw[aq aa]at e';exact absurd e' aA
  rw[aw aa]at e';have hs:jk k m ch b.length≤16777216:=bF fun q=>by rw[aq aa]at e';exact absurd e' aA
  refine⟨?_,hb⟩;show(ug k m ch (lJ k ch b.length) (sj k ch b)).length≤_;rw[yr hk _ _ (uA (N' hk hc) b)];exact hs
theorem afm(HT:bK B w0){o:aO}{n p:Nat}(ho:cm 3 o=0)(hn:n<4294967296){l:al}(e:n2=l.length)(hb:aL B w0 F 1 (.slice A n2 c) n2 (bv l))(hl:l.length≤1000000000):
  a_ B w0 67 [bq g,.slice A n2 c] (Hb g o n p::F) (Gp (jo o n++(l++jo o n)) (Hb g o n p::F)):=by
 subst e;have h1:=FI o n;refine cB func67 12 rfl rfl rfl [(0,bq g),(1,.slice A l.length c)] ⟨⟨rfl,rfl⟩,⟨rfl,rfl⟩,trivial⟩ ?_;refine bM ?_;refine ay rfl (Jf HT ho hn) fun A6 c6=>?_;refine be ?_;refine ay rfl (.perm (Jf HT ho hn) ((l0 (fT (.refl _))))) fun A9 c9=>?_;refine cH (aF fH [_,_,_] rfl rfl cA aa aa) fun xq=>?_;refine ay rfl (Jv (l1:=jo o n) (l2:=l) (l3:=jo o n) aB aB (hb.cons.cons.cons.cons) aB rfl aa_) fun tE xl=>?_;refine b8 ?_;refine ao ((ef (rP (.skip (.skip (.skip (.refl _))))))) ?_;refine aE ?_;exact⟨tE,xl,rfl,rfl⟩
theorem Tq{o:aO}{L:List aH}(h:cm 3 o≠0):tv o L=([],cm 3 o):=by unfold tv;rw[aq h]
theorem afz{o:aO}{L:List aH}(h:cm 3 o=0)(h2:(fY o L).2≠0):tv o L=([],(fY o L).2):=by unfold tv;rw[aw aa,aq h2]
theorem afA{o:aO}{L:List aH}(h:cm 3 o=0)(h2:¬(fY o L).2≠0)(h3:(ij o (dx o L)).2≠0):tv o L=([],(ij o (dx o L)).2):=by unfold tv;rw[aw aa,aw h2,aq h3]
theorem Tr{o:aO}{L:List aH}(h:cm 3 o=0)(h2:¬(fY o L).2≠0)(h3:¬(ij o (dx o L)).2≠0):tv o L=(lf o (dx o L),0):=by unfold tv;rw[aw aa,aw h2,aw h3]
theorem afs{o:aO}{L:List aH}{v:Value}(h:cm 3 o≠0):a_ B w0 28 [.agg (aO.cells o).toArray,v] F (LV (tv o L) F):=by
 have e:=Tq (L:=L) h;obtain⟨bl,pl,bu,da,pa,ch⟩:=o;refine cB func28 45 rfl rfl rfl [(0,.agg #[ah bl,.bool pl,ah bu,ah da,ah pa,ah ch]),(1,v)] ⟨⟨rfl,rfl⟩,⟨rfl,rfl⟩,trivial⟩ ?_;refine be ?_;refine bf fun g2=>?_;refine bM ?_;refine ai rfl (kC 3 (bl,pl,bu,da,pa,ch)) ?_;refine bP ?_;refine aj (fun nh=>?_) fun nh=>?_
 ·refine bP ?_;refine aC 5 1 none ?_;refine ao (.cons (.skip (.refl _))) ?_;refine aE ?_;rw[e];exact⟨none,0,rfl,rfl⟩
 ·exfalso;exact nh h
theorem Mq{o:aO}{L:List aH}(h2:¬(fY o L).2≠0):(fY o L).1=dx o L∧cO L=0:=by
 unfold fY at h2⊢;by_cases q1:cm 2 (o2 o)≠0
 ·rw[aq q1]at h2;exact absurd q1 h2
 ·by_cases q2:cO L≠0
  ·rw[aw q1,aq q2]at h2;exact absurd q2 h2
  ·rw[aw q1,aw q2];exact⟨rfl,bF q2⟩
theorem S6{o:aO}(h:cm 3 o=0):Gv o.2.2.2.1.toNat o.2.2.2.2.1.toNat o.2.2.2.2.2.toNat∧0≤o.2.2.2.1∧0≤o.2.2.2.2.1∧0≤o.2.2.2.2.2:=by
 obtain⟨_,m3,_⟩:=(lR h).1;obtain⟨⟨k1,k2⟩,⟨k3,k4⟩,⟨k5,k6⟩⟩:=m3 rfl;exact⟨⟨aa,aa,aa,aa⟩,aa,aa,aa⟩
theorem aft(HT:bK B w0){o:aO}{L:List aH}(ho:cm 3 o=0)(hx:∀x∈L,x.1<18446744073709551616)(hb:aL B w0 F 4 (.slice A L.length c) L.length (cU L)):a_ B w0 28 [.agg (aO.cells o).toArray,.slice A L.length c] F (LV (tv o L) F):=by
 have hO2:=afz (L:=L) ho;have hO3:=afA (L:=L) ho;have hO4:=Tr (L:=L) ho;obtain⟨W,hW⟩:=cR (tv o L);rw[←hW]at hO2 hO3 hO4⊢;obtain⟨Y,hY⟩:=cR (fY o L);have NJ:=fun M (hb:aL B w0 M 4 (.slice A L.length c) L.length (cU L))=>C_ (F:=M) HT (o:=o) hx hb;have hbw:=Mq (o:=o) (L:=L);rw[←hY]at hO2 hO3 hO4 hbw;simp only[←hY]at NJ;have Nz:=fun hc=>HA (o:=o) (L:=L) (lR ho).2 hc hx;obtain⟨Cb,p1,p2,p3⟩:=S6 ho;obtain⟨bl,pl,bu,da,pa,ch⟩:=o;obtain⟨d,rfl⟩:=gM (show 0≤da from p1);obtain⟨q,rfl⟩:=gM (show 0≤pa from p2);obtain⟨hc,rfl⟩:=gM (show 0≤ch from p3);have Cb:Gv d q hc:=Cb;have Gk:∀b,ij (bl,pl,bu,(d:Int),(q:Int),(hc:Int)) b=p7 d q hc b:=fun _=>rfl;have hA:∀b,lf (bl,pl,bu,(d:Int),(q:Int),(hc:Int)) b=jo (bl,pl,bu,(d:Int),(q:Int),(hc:Int)) b.length++((p7 d q hc b).1++jo (bl,pl,bu,(d:Int),(q:Int),(hc:Int)) b.length):=fun _=>rfl;refine cB func28 45 rfl rfl rfl [(0,.agg #[ah bl,.bool pl,ah bu,ah (d:Int),ah (q:Int),ah (hc:Int)]),(1,.slice A L.length c)] ⟨⟨rfl,rfl⟩,⟨rfl,rfl⟩,trivial⟩ ?_;refine be ?_;refine bf fun g2=>?_;refine bM ?_;refine ai rfl (kC 3 (bl,pl,bu,(d:Int),(q:Int),(hc:Int))) ?_;refine bP ?_;refine aj (fun nh=>?_) fun nh=>?_
 ·exfalso;exact nh ho
 ·refine bB ?_;refine ay rfl (NJ _ hb.cons) fun s8 uR=>?_;refine dX ?_;refine aj (fun pX=>?_) fun pX=>?_
  ·refine bI ?_;refine ve [4,5] ?_;refine bH ?_;refine aC 5 1 none ?_;refine ao (.cons (.skip (.skip (.refl _)))) ?_;refine aE ?_;rw[hO2 pX];exact⟨none,0,rfl,rfl⟩
  ·obtain⟨hB1,hB2⟩:=hbw pX;have Nz:=Nz hB2;have hO3:=hO3 pX;have hO4:=hO4 pX;rw[←hB1]at Nz hO3 hO4;rw[Gk]at hO3 hO4;refine dm ?_;refine ay rfl (anB HT Cb (b:=Y.1) (aL.own (.head _)) aa) fun LS Mx=>?_;refine bI ?_;refine ve [2,7,8,9] ?_;refine bM ?_;refine aj (fun za=>?_) fun za=>?_
   ·refine bP ?_;refine aC 5 1 none ?_;refine ao (.cons (.skip (.skip (.skip (.refl _))))) ?_;refine aE ?_;rw[hO3 za];exact⟨none,0,rfl,rfl⟩
   ·obtain⟨tA,rN⟩:=Oh Cb.k1 Cb.c1 (bF za);refine bD ?_;refine ae (br [(0,_),(1,_)] [ah 0,.bool false,ah 0,ah 0,ah 0,ah 0,ah 0,.int .u8 0] [0,6] [_,_,_,_,_,_,_,_] rfl rfl ag) rfl ?_;refine bf fun g42=>?_;refine aE ?_;refine ay rfl (afm HT (p:=0) ho aa (l:=(p7 d q hc Y.1).1) rfl (aL.own (.head _)) aa) fun A44 c44=>?_;refine bI ?_;refine ao ((ef (.skip (.skip (.skip (.skip (.refl _))))))) ?_;refine aE ?_;rw[hO4 za,hA];exact⟨A44,c44,rfl,rfl⟩
theorem afu(HT:bK B w0){o:aO}{L:List aH}(hx:∀x∈L,x.1<18446744073709551616)(hb:aL B w0 F 4 (.slice A L.length c) L.length (cU L)):a_ B w0 28 [.agg (aO.cells o).toArray,.slice A L.length c] F (LV (tv o L) F):=by
 by_cases h:cm 3 o=0
 ·exact aft HT h hx hb
 ·exact afs h
section
theorem O7{k m ch:Nat}(hk:1≤k):∀(f:Nat) (s out:al) (bad:bc) (a:Nat),s.length=f*((k+m)*(ch+4))→(tq k m ch f s out bad a).2.2=0→
  (tq k m ch f s out bad a).1.length=out.length+f*(k*ch)∧(tq k m ch f s out bad a).2.1.length≤bad.length+f*(k+m)
 |0,s,out,bad,a,_,_=>by simp[tq]
 |f+1,s,out,bad,a,hs,h=>by
  rw[kA]at hs;by_cases hz:LQ k m ch (s.take ((k+m)*(ch+4)))=0
  ·rw[Wn hz]at h⊢;have hX:(s.take ((k+m)*(ch+4))).length=(k+m)*(ch+4):=by rw[eV];omega
   obtain⟨h1,h2⟩:=Fs hk hX (akD hz);obtain⟨r1,r2⟩:=O7 hk f _ _ _ _ kR h;have e1:(((BS k m ch (s.take ((k+m)*(ch+4)))).1.take k).flatten).length=k*ch:=by
    rw[zG (c:=ch) _ (fun b hb=>h2 b (lW hb)),eV,h1,zd aa]
   have e2:(dO a (OW k m ch (s.take ((k+m)*(ch+4))))).length≤k+m:=by
    refine jf (OV _ _) ?_;rw[E9];simp[gG]
   rw[aX,e1]at r1;rw[aX]at r2;rw[kA,kA];exact⟨aa,aa⟩
  ·rw[OZ hz]at h;exact absurd h hz
theorem O8{k m ch n:Nat}{s:al}(hk:1≤k)(hc:1≤ch)(h:(jX k m ch n s).2.2=0):(jX k m ch n s).1.length=n∧(jX k m ch n s).2.1.length≤16777216∧n≤8388608∧n≤s.length:=by
 by_cases q1:zg k m ch n≠0
 ·unfold jX at h;rw[aq q1]at h;exact absurd h q1
 ·have e':zg k m ch n=0:=bF q1;unfold zg at e';have hb:n≤8388608:=bF fun q=>by rw[aq aa]at e';exact absurd e' aA
  rw[aw aa]at e';have jb:jk k m ch n≤16777216:=bF fun q=>by rw[aq aa]at e';exact absurd e' aA
  by_cases q2:s.length<jk k m ch n
  ·unfold jX at h;rw[aw q1,aq q2]at h;exact absurd h aA
  ·by_cases q3:jk k m ch n<s.length
   ·unfold jX at h;rw[aw q1,aw q2,aq q3]at h;exact absurd h aA
   ·by_cases q4:(oF k m ch n s).2.2≠0
    ·unfold jX at h;rw[aw q1,aw q2,aw q3,aq q4]at h;exact absurd h q4
    ·by_cases q5:∃x∈(oF k m ch n s).1.drop n,x≠0
     ·unfold jX at h;rw[aw q1,aw q2,aw q3,aw q4,aq q5]at h;exact absurd h aA
     ·have e:jX k m ch n s=((oF k m ch n s).1.take n,(oF k m ch n s).2.1,0):=by
       unfold jX;rw[aw q1,aw q2,aw q3,aw q4,aw q5]
      rw[e];have wN:=CO (k:=k) (ch:=ch) (n:=n) (N' hk hc);obtain⟨r1,r2⟩:=O7 hk (lJ k ch n) s [] [] 0 (by unfold jk at q2 q3;omega) (bF q4);have u5:(oF k m ch n s).1.length=lJ k ch n*(k*ch):=by rw[show oF k m ch n s=tq k m ch (lJ k ch n) s [] [] 0 from rfl,r1];simp
      have vZ:(oF k m ch n s).2.1.length≤lJ k ch n*(k+m):=by
       have:=r2;rw[sb,mC]at this;exact this
      have hm:lJ k ch n*(k+m)≤lJ k ch n*((k+m)*(ch+4)):=yk _ (ah1 _ aa);unfold jk at jb;have vC:lJ k ch n*(k*ch)≤lJ k ch n*((k+m)*(ch+4)):=yk _ (gN aa aa);unfold jk at q2 q3;refine⟨?_,?_,hb,aa⟩
      ·show((oF k m ch n s).1.take n).length=n;rw[eV];omega
      ·show(oF k m ch n s).2.1.length≤_;omega
section
variable{b:al}
theorem FJ(h:(ek b).2≠0):dI b=(ib,[],0,(ek b).2):=by unfold dI;rw[aq h]
theorem La(h:¬(ek b).2≠0)(h2:hE (ek b).1≠0):dI b=(ib,[],0,hE (ek b).1):=by unfold dI;rw[aw h,aq h2]
theorem Tl(h:¬(ek b).2≠0)(h2:¬hE (ek b).1≠0)(h3:(Bv b).2.2≠0):dI b=(ib,[],0,(Bv b).2.2):=by unfold dI;rw[aw h,aw h2,aq h3]
theorem Tm(h:¬(ek b).2≠0)(h2:¬hE (ek b).1≠0)(h3:¬(Bv b).2.2≠0):dI b=(hO (ek b).1,(Bv b).1,(Bv b).2.1.length+Ki b,0):=by unfold dI;rw[aw h,aw h2,aw h3]
end
theorem acy{c:al}(h:hE c=0):cm 3 (hO c)=0:=by
 unfold hE at h;by_cases q:1<(D6 c).toNat
 ·rw[aq q]at h;exact absurd h aA
 ·rw[aw q]at h;exact h
theorem ME{b:al}(h:(ek b).2=0):42≤b.length∧(ek b).1.length=21:=by
 by_cases q:b.length<42
 ·rw[abr q]at h;exact absurd h aA
 ·refine⟨aa,?_⟩;by_cases q2:zq (b.take 21)
  ·rw[abt q q2];simp;omega
  ·by_cases q3:zq (b.drop (b.length-21))
   ·rw[abu q q2 q3];simp;omega
   ·rw[abv q q2 q3]at h;exact absurd h aA
theorem vq{b:al}(h:(dI b).2.2.2=0):cm 3 (dI b).1=0∧(dI b).2.1.length≤8388608∧(dI b).2.2.1≤16777217∧(dI b).2.1.length≤b.length:=by
 by_cases q1:(ek b).2≠0
 ·rw[FJ q1]at h;exact absurd h q1
 ·by_cases q2:hE (ek b).1≠0
  ·rw[La q1 q2]at h;exact absurd h q2
  ·by_cases q3:(Bv b).2.2≠0
   ·rw[Tl q1 q2 q3]at h;exact absurd h q3
   ·rw[Tm q1 q2 q3];have ho:=acy (bF q2);obtain⟨⟨s1,s2,s3,s4⟩,_⟩:=S6 ho;obtain⟨r1,r2,r3,r4⟩:=O8 s1 s3 (bF q3);have r4:=jf r4 (show((b.take (b.length-21)).drop 21).length≤b.length by rw[iN,eV];omega);refine⟨ho,?_,?_,?_⟩
    ·show(Bv b).1.length≤_;unfold Bv;omega
    ·show(Bv b).2.1.length+Ki b≤_;have:Ki b≤1:=by unfold Ki;split<;>omega
     unfold Bv;omega
    ·show(Bv b).1.length≤_;unfold Bv;omega
end
theorem ai3(HT:bK B w0){k m ch n:Nat}(h:Gv k m ch){s:al}(e:n2=s.length)(hn:n≤4611686018427387904)(hb:aL B w0 F 1 (.slice A n2 c) n2 (bv s)):
  a_ B w0 130 [ah (k:Int),ah (m:Int),ah (ch:Int),ah (n:Int),.slice A n2 c] F (fun v L=>∃A1 c1 A2 c2,v= .tuple #[.slice A1 (jX k m ch n s).1.length c1,.slice A2 (jX k m ch n s).2.1.length c2,ah (jX k m ch n s).2.2]∧L= .own 5 1 A1 (jX k m ch n s).1.length c1 (bv (jX k m ch n s).1):: .own 3 1 A2 (jX k m ch n s).2.1.length c2 (bx (jX k m ch n s).2.1)::F):=by
 subst e;exact ai2 HT h hn hb
def MdE(e:Int)(F:aR)(r:Value)(L:aR):Prop:=r= .tuple #[.pointer none,.slice none 0 0,ah 0,ah e]∧L=F
def MdK(R:aO×al×Nat×Int)(F:aR)(r:Value)(L:aR):Prop:=∃g A' c' p,r= .tuple #[bq g,.slice A' R.2.1.length c',ah (R.2.2.1:Int),ah 0]∧L= .own 5 1 A' R.2.1.length c' (bv R.2.1)::Hb g R.1 R.2.1.length p::F
theorem arc(HT:bK B w0){b:al}(hb:fq B w0 F A c b)(dh:b.length≤1000000000)(h:(ek b).2≠0):a_ B w0 73 [.slice A b.length c] F (MdE (dI b).2.2.2 F):=by
 refine fw func73 80 [0] ?_;refine dm ?_;refine ba UA rfl (xI HT hb dh) rfl ?_;rintro _ _ ⟨T4,c17,rfl,cJ,Yy⟩;obtain rfl:=cJ.symm;refine dX ?_;refine aj (fun lV=>?_) fun lV=>?_
 ·refine cD ?_;rw[FJ h];exact⟨rfl,rfl⟩
 ·exfalso;exact lV h
theorem ard(HT:bK B w0){b:al}(hb:fq B w0 F A c b)(dh:b.length≤1000000000)(h:¬(ek b).2≠0)(h2:hE (ek b).1≠0):a_ B w0 73 [.slice A b.length c] F (MdE (dI b).2.2.2 F):=by
 obtain⟨ap5,asl⟩:=ME (bF h);have tY:=fun M T4 c17 (Yy:aL B w0 M 1 (.slice T4 (ek b).1.length c17) (ek b).1.length (bv (ek b).1))=>(Pz (F:=M) rfl aa Yy aa).mono fun r L hr=>hr.elim (fun q=>q.2) fun q=>absurd q.1 h2;refine fw func73 80 [0] ?_;refine dm ?_;refine ba UA rfl (xI HT hb dh) rfl ?_;rintro _ _ ⟨T4,c17,rfl,cJ,Yy⟩;obtain rfl:=cJ.symm;refine dX ?_;refine aj (fun lV=>?_) fun lV=>?_
 ·exfalso;exact h lV
 ·refine bI ?_;refine ay rfl (tY _ _ _ Yy) fun Y vY=>?_;refine bI ?_;refine ve [0,7,8] ?_;refine bM ?_;refine aj (fun qH=>?_) fun qH=>?_
  ·refine dm ?_;refine ao (dA Y F) ?_;refine aE ?_;rw[La h h2];exact⟨rfl,rfl⟩
  ·exfalso;exact qH h2
theorem aji{b:al}(h:42≤b.length)(hb:fq B w0 F A c b):aL B w0 F 1 (.slice (if c=21 then A else A.map (·.add (21*1))) (b.length-21-21) (c-21)) (b.length-21-21) (bv ((b.take (b.length-21)).drop 21)):=by
 have h1:=hb.js (k:=b.length-21) aa;rw[kI,cE]at h1;have h2:=h1.cut (k:=21) aa;rw[jv,cE]at h2;rw[cE];exact h2
theorem are(HT:bK B w0){b:al}(hb:fq B w0 F A c b)(dh:b.length≤1000000000)(h:¬(ek b).2≠0)(h2:¬hE (ek b).1≠0):a_ B w0 73 [.slice A b.length c] F (fun r L=>((dI b).2.2.2≠0∧MdE (dI b).2.2.2 F r L)∨((dI b).2.2.2=0∧MdK (dI b) F r L)):=by
 obtain⟨ap5,asl⟩:=ME (bF h);have tY:=fun M T4 c17 (Yy:aL B w0 M 1 (.slice T4 (ek b).1.length c17) (ek b).1.length (bv (ek b).1))=>(Pz (F:=M) rfl aa Yy aa).mono fun r L hr=>hr.elim (fun q=>absurd q.1 h2) fun q=>q.2;have RQ:=aji ap5 hb;have By:b.length-21-21=((b.take (b.length-21)).drop 21).length:=by rw[iN,eV];omega
 have hoo:=acy (bF h2);obtain⟨Cb,p1,p2,p3⟩:=S6 hoo;have Vn:=ap1 (ek b).1;have Vo:=O8 (k:=(hO (ek b).1).2.2.2.1.toNat) (m:=(hO (ek b).1).2.2.2.2.1.toNat) (ch:=(hO (ek b).1).2.2.2.2.2.toNat) (n:=hN (ek b).1) (s:=(b.take (b.length-21)).drop 21) Cb.k1 Cb.c1;have hM3:=Tl (b:=b) h h2;have hM4:=Tm (b:=b) h h2;obtain⟨M,hM⟩:=cR (dI b);have al':Ki b=if b.take 21=b.drop (b.length-21) then 0 else 1:=rfl
 have ha:=aj_ (A:=A) (c:=c) (B:=B) (w0:=w0) (F:=F) (b:=b) aa hb;have hz:=aj' (A:=A) (c:=c) (B:=B) (w0:=w0) (F:=F) (b:=b) aa hb;have l1:(b.take 21).length=21:=by rw[eV];omega
 have l2:(b.drop (b.length-21)).length=b.length-(b.length-21):=by rw[iN]
 have Rx:Bv b=jX (hO (ek b).1).2.2.2.1.toNat (hO (ek b).1).2.2.2.2.1.toNat (hO (ek b).1).2.2.2.2.2.toNat (hN (ek b).1) ((b.take (b.length-21)).drop 21):=rfl;rw[←Rx]at Vo;rw[←hM]at hM3 hM4⊢;obtain⟨Q,hQ⟩:=cR ((b.take (b.length-21)).drop 21);rw[←hQ]at RQ By Rx;obtain⟨o,ho⟩:=cR (hO (ek b).1);rw[←ho]at hoo Cb p1 p2 p3 hM4 tY Rx;obtain⟨bl,pl,bu,da,pa,ch⟩:=o;obtain⟨d,rfl⟩:=gM (show 0≤da from p1);obtain⟨q,rfl⟩:=gM (show 0≤pa from p2);obtain⟨hc,rfl⟩:=gM (show 0≤ch from p3);have Cb:Gv d q hc:=Cb;have Rx:Bv b=jX d q hc (hN (ek b).1) Q:=Rx;obtain⟨R,hR⟩:=cR (Bv b);rw[←hR]at hM3 hM4 Rx Vo;have hsr:=fun M (RQ:aL B w0 M 1 (.slice (if c=21 then A else A.map (·.add (21*1))) (b.length-21-21) (c-21)) (b.length-21-21) (bv Q))=>ai3 (F:=M) (n:=hN (ek b).1) HT Cb By aa RQ;simp only[←Rx]at hsr;obtain⟨nn,Qj⟩:=cR (hN (ek b).1);rw[←Qj]at Vn Vo tY hsr;obtain⟨df,hdf⟩:=cR (Ki b);rw[←hdf]at al' hM4;refine dP.zk hb fun oA _=>?_;refine fw func73 80 [0] ?_;refine dm ?_;refine ba UA rfl (xI HT hb dh) rfl ?_;rintro _ _ ⟨T4,c17,rfl,cJ,Yy⟩;obtain rfl:=cJ.symm;refine dX ?_;refine aj (fun lV=>?_) fun lV=>?_
 ·exfalso;exact h lV
 ·refine bI ?_;refine ba aoT rfl (tY _ _ _ Yy) rfl ?_;rintro _ _ ⟨g25,rfl,cJ⟩;obtain rfl:=cJ.symm;refine bI ?_;refine ve [0,7,8] ?_;refine bM ?_;refine aj (fun qH=>?_) fun qH=>?_
  ·exfalso;exact qH rfl
  ·refine bH ?_;refine cC (Hb g25 (bl,pl,bu,(d:Int),(q:Int),(hc:Int)) nn (D6 (ek b).1).toNat::F) ?_;refine ab 0 ?_;refine ab 1 ?_;refine ab 2 ?_;refine ab 3 ?_;refine ab 4 ?_;refine ab 5 ?_;refine ab 6 ?_;refine ab 7 ?_;refine ab 8 ?_;refine ab 9 ?_;refine ab 10 ?_;refine ab 11 ?_;refine ab 12 ?_;refine ab 13 ?_;refine ab 14 ?_;refine ab 15 ?_;refine ab 16 ?_;refine ab 17 ?_;refine ab 18 ?_;refine ab 19 ?_;refine ab 20 ?_;refine ab 21 ?_;refine aW 22 rfl (dQ rfl rfl (r:=((b.length-21:Nat):Int)) ((bG aa aa).trans aa)) ?_;refine aW 23 rfl (kp (i:=21) (j:=b.length-21) (size:=1) underlying27 ag rfl rfl rfl rfl rfl aa aa) ?_;refine az 24 ?_;refine gC rfl .no aoU rfl (hsr _ RQ.cons) rfl (by rintro _ _ ⟨A56,c56,arx,arF,rfl,rfl⟩;exact gF) ?_;rintro _ _ ⟨A56,c56,arx,arF,rfl,cJ⟩;obtain rfl:=cJ.symm;refine ab 25 ?_;refine ab 26 ?_;refine ab 27 ?_;refine ab 28 ?_;refine ab 29 ?_;refine ab 30 ?_;refine ab 31 ?_;refine cP [0,7,8,9,10] ?_;refine bM ?_;refine aj (fun h61=>?_) fun h61=>?_
   ·refine dm ?_;refine ao (.skip (.skip (.skip (.refl _)))) ?_;refine aE ?_;rw[hM3 h61];exact .inl ⟨h61,rfl,rfl⟩
   ·obtain⟨r1,r2,r3,r4⟩:=Vo (bF h61);have hM4:=hM4 h61;subst r1;refine c_ ?_;refine ai rfl (MM aa oA aa) ?_;refine c_ ?_;refine ai rfl (ab0 (l:=b.take 21) (l2:=b.drop (b.length-21)) l1.symm rfl l2.symm rfl ha.cons.cons.cons hz.cons.cons.cons aa) ?_;refine aE ?_;refine ve [8,9,11,74] ?_;refine aE ?_;refine aj (fun h74=>?_) fun h74=>?_
    ·obtain rfl:df=1:=by rw[al',aw h74]
     refine be ?_;refine ae (bY rfl rfl (r:=((R.2.1.length+1:Nat):Int)) ((bG aa aa).trans aa)) rfl ?_;refine i_ ?_;refine ao ((ef (gl (.skip (.refl _))))) ?_;refine aE ?_;rw[hM4];exact .inr ⟨rfl,g25,A56,c56,_,rfl,rfl⟩
    ·obtain rfl:df=0:=by rw[al',aq (bF h74)]
     refine dX ?_;refine ao ((ef (gl (.skip (.refl _))))) ?_;refine aE ?_;rw[hM4];exact .inr ⟨rfl,g25,A56,c56,_,rfl,rfl⟩
theorem FF(HT:bK B w0){b:al}(hb:fq B w0 F A c b)(dh:b.length≤1000000000):a_ B w0 73 [.slice A b.length c] F (fun r L=>((dI b).2.2.2≠0∧MdE (dI b).2.2.2 F r L)∨((dI b).2.2.2=0∧MdK (dI b) F r L)):=by
 by_cases h:(ek b).2≠0
 ·exact(arc HT hb dh h).mono fun r L hr=>.inl ⟨by rw[FJ h];exact h,hr⟩
 ·by_cases h2:hE (ek b).1≠0
  ·exact(ard HT hb dh h h2).mono fun r L hr=>.inl ⟨by rw[La h h2];exact h2,hr⟩
  ·exact are HT hb dh h h2
theorem Tk(HT:bK B w0){b:al}(hb:fq B w0 F A c b)(dh:b.length≤1000000000)(h:(dI b).2.2.2≠0):a_ B w0 73 [.slice A b.length c] F (MdE (dI b).2.2.2 F):=
 (FF HT hb dh).mono fun r L hr=>hr.elim (fun q=>q.2) fun q=>absurd q.1 h
theorem FH(HT:bK B w0){b:al}(hb:fq B w0 F A c b)(dh:b.length≤1000000000)(h:(dI b).2.2.2=0):a_ B w0 73 [.slice A b.length c] F (MdK (dI b) F):=
 (FF HT hb dh).mono fun r L hr=>hr.elim (fun q=>absurd h q.1) fun q=>q.2
theorem ajh(HT:bK B w0){b:al}(hb:fq B w0 F A c b)(dh:b.length≤1000000000):a_ B w0 108 [.slice A b.length c] F (fun r L=>r= .bool (decide ((ek b).2=0))∧L=F):=by
 refine fw func108 12 [0] ?_;refine bM ?_;refine ba UA rfl (xI HT hb dh) rfl ?_;rintro _ _ ⟨A7,c7,rfl,cJ,Yy⟩;obtain rfl:=cJ.symm;refine jU ?_;exact⟨rfl,rfl⟩
section
section
variable{b:al}
theorem Tn(h:(dI b).2.2.2≠0):ik b=(ib,.nil,0,(dI b).2.2.2):=by unfold ik;rw[aq h]
theorem To(h:¬(dI b).2.2.2≠0)(h2:(ej (dI b).1 (dI b).2.1).2≠0):ik b=(ib,.nil,0,(ej (dI b).1 (dI b).2.1).2):=by unfold ik;rw[aw h,aq h2]
theorem Tp(h:¬(dI b).2.2.2≠0)(h2:¬(ej (dI b).1 (dI b).2.1).2≠0):ik b=((dI b).1,(ej (dI b).1 (dI b).2.1).1,(dI b).2.2.1,0):=by unfold ik;rw[aw h,aw h2]
theorem afw(h:(ik b).2.2.2≠0):lg b=(ib,[],0,0,(ik b).2.2.2):=by unfold lg;rw[aq h]
theorem afx(h:¬(ik b).2.2.2≠0)(h2:(jn (ik b).2.1).2≠0):lg b=(ib,[],0,0,(jn (ik b).2.1).2):=by unfold lg;rw[aw h,aq h2]
theorem afy(h:¬(ik b).2.2.2≠0)(h2:¬(jn (ik b).2.1).2≠0):lg b=((ik b).1,(jn (ik b).2.1).1,(ik b).2.1.ns.length,(ik b).2.2.1,0):=by unfold lg;rw[aw h,aw h2]
end
def arz(o:aO)(x:iv)(df:Nat)(B:Nat)(w0:World)(F:aR)(r:Value)(L:aR):Prop:=∃g N,r= .tuple #[.agg (aO.cells o).toArray,bq g,ah (df:Int),ah 0]∧L=N++F∧CS B w0 N g x
def ak7(e:Int)(F:aR)(r:Value)(L:aR):Prop:=r= .tuple #[.agg (aO.cells ib).toArray,.pointer none,ah 0,ah e]∧L=F
theorem afo(HT:bK B w0){b:al}(hb:fq B w0 F A c b)(dh:b.length≤1000000000)(Qe:(dI b).2.1.length≤1000000)(h:(dI b).2.2.2≠0):a_ B w0 58 [.slice A b.length c] F (ak7 (ik b).2.2.2 F):=by
 have D_:=fF ib;refine fw func58 41 [0] ?_;refine be ?_;refine bg fun g2=>?_;refine bM ?_;refine ai rfl (Tk HT hb.cons aa h) ?_;refine tQ ?_;refine aj (fun sL=>?_) fun sL=>?_
 ·refine be ?_;refine ae (cv [ah 0,.bool false,ah 0,ah 0,ah 0,ah 0] ag) rfl ?_;refine bI ?_;refine ve [2,3,4,5] ?_;refine bH ?_;refine nk rfl rfl ag aV gD rfl rfl rfl (.skip (.refl _)) ?_;rw[Tn h];exact⟨rfl,rfl⟩
 ·exfalso;exact sL h
theorem afp(HT:bK B w0){b:al}(hb:fq B w0 F A c b)(dh:b.length≤1000000000)(Qe:(dI b).2.1.length≤1000000)(h:(dI b).2.2.2=0)(h2:(ej (dI b).1 (dI b).2.1).2≠0):a_ B w0 58 [.slice A b.length c] F (ak7 (ik b).2.2.2 F):=by
 have D_:=fF ib;obtain⟨hoo,GU,NC,hg3⟩:=vq h;refine fw func58 41 [0] ?_;refine be ?_;refine bg fun g2=>?_;refine bM ?_;refine ba apu rfl (FH HT hb.cons aa h) rfl ?_;rintro _ _ ⟨g13,xi,Gc,p13,rfl,cJ⟩;obtain rfl:=cJ.symm;refine tQ ?_;refine aj (fun sL=>?_) fun sL=>?_
 ·exfalso;exact sL rfl
 ·refine bD ?_;refine ae (bQ 6 ag rfl aV (aO.cells (dI b).1) rfl rfl) rfl ?_;refine aE ?_;refine ai rfl (Uo HT (b:=(dI b).2.1) rfl (aL.own (.head _)) aa h2) ?_;refine bI ?_;refine ve [2,6,8,9,10] ?_;refine bM ?_;refine aj (fun Bu=>?_) fun Bu=>?_
  ·refine be ?_;refine ae (cv [ah 0,.bool false,ah 0,ah 0,ah 0,ah 0] ag) rfl ?_;refine bP ?_;refine nk rfl rfl ag aV gD rfl rfl rfl (.skip (.skip (.skip (.refl _)))) ?_;rw[To (fun q=>q h) h2];exact⟨rfl,rfl⟩
  ·exfalso;exact Bu h2
theorem afr(HT:bK B w0){b:al}(hb:fq B w0 F A c b)(dh:b.length≤1000000000)(Qe:(dI b).2.1.length≤1000000)(h:(ik b).2.2.2=0):a_ B w0 58 [.slice A b.length c] F (arz (ik b).1 (ik b).2.1 (ik b).2.2.1 B w0 F):=by
 have hm:(dI b).2.2.2=0:=bF fun q=>by rw[Tn q]at h;exact q h
 have h2:(ej (dI b).1 (dI b).2.1).2=0:=bF fun q=>by rw[To (fun q=>q hm) q]at h;exact q h
 have oB:=fF (dI b).1;obtain⟨hoo,GU,NC,hg3⟩:=vq hm;refine fw func58 41 [0] ?_;refine be ?_;refine bg fun g2=>?_;refine bM ?_;refine ba apu rfl (FH HT hb.cons aa hm) rfl ?_;rintro _ _ ⟨g13,xi,Gc,p13,rfl,cJ⟩;obtain rfl:=cJ.symm;refine tQ ?_;refine aj (fun sL=>?_) fun sL=>?_
 ·exfalso;exact sL rfl
 ·refine bD ?_;refine ae (bQ 6 ag rfl aV (aO.cells (dI b).1) rfl rfl) rfl ?_;refine aE ?_;refine ba ajR rfl (Up HT (b:=(dI b).2.1) rfl (aL.own (.head _)) aa h2) rfl ?_;rintro _ _ ⟨gB,N,rfl,cJ,hBB⟩;obtain rfl:=cJ.symm;refine bI ?_;refine ve [2,6,8,9,10] ?_;refine bH ?_;refine fR IK ?_;rw[nE,nE,nE];refine bI ?_;refine aj (fun Bu=>?_) fun Bu=>?_
  ·exfalso;exact Bu rfl
  ·refine bD ?_;refine ae (bQ 6 ag rfl aV (aO.cells (dI b).1) rfl rfl) rfl ?_;refine bP ?_;refine nk rfl rfl ag aV gD rfl rfl rfl (.skip (.skip (.skip (.dE IK)))) ?_;rw[Tp (fun q=>q hm) (fun q=>q h2)];exact⟨gB,N,rfl,rfl,hBB⟩
theorem afq(HT:bK B w0){b:al}(hb:fq B w0 F A c b)(dh:b.length≤1000000000)(Qe:(dI b).2.1.length≤1000000)(h:(ik b).2.2.2≠0):a_ B w0 58 [.slice A b.length c] F (ak7 (ik b).2.2.2 F):=by
 by_cases q:(dI b).2.2.2=0
 ·exact afp HT hb dh Qe q fun k=>h (by rw[Tp (fun t=>t q) (fun t=>t k)])
 ·exact afo HT hb dh Qe q
theorem Py{b:al}(Qe:(dI b).2.1.length≤1000000)(h:(ik b).2.2.2=0):sC (ik b).2.1:=by
 have hm:(dI b).2.2.2=0:=bF fun q=>by rw[Tn q]at h;exact q h
 have h2:(ej (dI b).1 (dI b).2.1).2=0:=bF fun q=>by rw[To (fun q=>q hm) q]at h;exact q h
 obtain⟨hoo,GU,NC,hg3⟩:=vq hm;rw[Tp (fun q=>q hm) (fun q=>q h2)];exact HC aa h2
def ak8(R:aO×List aH×Nat×Nat×Int)(F:aR)(r:Value)(L:aR):Prop:=∃A' c',r= .tuple #[.agg (aO.cells R.1).toArray,.slice A' R.2.1.length c',ah (R.2.2.1:Int),ah (R.2.2.2.1:Int),ah R.2.2.2.2]∧L= .own 62 4 A' R.2.1.length c' (cU R.2.1)::F
theorem Tu(HT:bK B w0){b:al}(hb:fq B w0 F A c b)(dh:b.length≤1000000000)(Qe:(dI b).2.1.length≤1000000)(h:(ik b).2.2.2≠0):a_ B w0 70 [.slice A b.length c] F (ak8 (lg b) F):=by
 have D_:=fF ib;refine fw func70 38 [0] ?_;refine be ?_;refine bg fun g2=>?_;refine bP ?_;refine ai rfl (afq HT hb.cons dh Qe h) ?_;refine bI ?_;refine bg fun g7=>?_;refine c_ ?_;refine aj (fun ja=>?_) fun ja=>?_
 ·refine be ?_;refine ae (cv [ah 0,.bool false,ah 0,ah 0,ah 0,ah 0] ag) rfl ?_;refine bB ?_;refine ve [2,3,4,5,6] ?_;refine bH ?_;refine aC 62 4 none ?_;refine KU rfl rfl ag aV gD rfl rfl rfl rfl (.cons (.skip (.skip (.refl _)))) ?_;rw[afw h];exact⟨none,0,rfl,rfl⟩
 ·exfalso;exact ja h
theorem Tv(HT:bK B w0){b:al}(hb:fq B w0 F A c b)(dh:b.length≤1000000000)(Qe:(dI b).2.1.length≤1000000)(h:(ik b).2.2.2=0):a_ B w0 70 [.slice A b.length c] F (ak8 (lg b) F):=by
 have kT:=Py Qe h;have oB:=fF (ik b).1;refine fw func70 38 [0] ?_;refine be ?_;refine bg fun g2=>?_;refine bP ?_;refine ba arK rfl (afr HT hb.cons dh Qe h) rfl ?_;rintro _ _ ⟨gB,N,rfl,cJ,hBB⟩;obtain rfl:=cJ.symm;refine bI ?_;refine bg fun g7=>?_;refine bM ?_;refine fR (List.perm_middle.cons _) ?_;refine bI ?_;refine aj (fun ja=>?_) fun ja=>?_
 ·exfalso;exact ja rfl
 ·refine bI ?_;refine ay rfl (abf HT kT (hBB.mono (((vH _ _).cons _).cons _))) fun Ar cr=>?_;refine bI ?_;refine ve [2,7,8,9,10,11] ?_;refine bM ?_;refine aj (fun qH=>?_) fun qH=>?_
  ·refine be ?_;refine ae (cv [ah 0,.bool false,ah 0,ah 0,ah 0,ah 0] ag) rfl ?_;refine bz ?_;refine aC 62 4 none ?_;refine KU rfl rfl ag aV gD rfl rfl rfl rfl (.cons (.skip (.skip (.skip (dA N F))))) ?_;rw[afx Mc qH];exact⟨none,0,rfl,rfl⟩
  ·refine bH ?_;refine cC (.own 62 4 Ar (jn (ik b).2.1).1.length cr (cU (jn (ik b).2.1).1):: .bE g7 23 (aO.cells (ik b).1)::(N++F)) ?_;refine aW 0 rfl (bQ 6 ag rfl aV (aO.cells (ik b).1) rfl rfl) ?_;refine ab 1 ?_;refine ab 2 ?_;refine ab 5 ?_;refine az 3 ?_;refine b7 rfl rfl (Hx kT (hBB.mono (((((vH _ _)).cons _).cons _).cons _))) fun Ak ck=>?_;refine ab 4 ?_;refine az 6 ?_;refine aE ?_;refine ab 7 ?_;refine ab 8 ?_;refine ab 9 ?_;refine ab 10 ?_;refine bH ?_;refine KU rfl rfl ag aV gD rfl rfl rfl rfl (.skip (.cons (.skip (.skip (dA N F))))) ?_;rw[afy Mc qH];exact⟨Ar,cr,rfl,rfl⟩
theorem Tt(HT:bK B w0){b:al}(hb:fq B w0 F A c b)(dh:b.length≤1000000000)(Qe:(dI b).2.1.length≤1000000):a_ B w0 70 [.slice A b.length c] F (ak8 (lg b) F):=by
 by_cases h:(ik b).2.2.2=0
 ·exact Tv HT hb dh Qe h
 ·exact Tu HT hb dh Qe h
end
theorem aox{P:Prop}(h:P:=by(first|exact .inl jC|exact⟨fun k=>.inr k,fun k=>k.resolve_left jC⟩)):P:=h
def fX(b:al):Int×Int:=if (marked b).1=1∨(marked b).1=2 then ((marked b).1,0) else if (ek b).2=0 then (3,0) else if (marked b).1=3 then (0,5) else (0,(marked b).2)
def iW(v:Int)(o:aO)(L:List aH):al×Int:=if v=1 then tp o L else if v=2 then vL o L else if v=3 then tv o L else ([],4)
structure Fits(b:al):Prop where
 all:b.length≤1000000000
 few:fX b≠(3,0)→b.length≤1000000
 in3:(dI b).2.1.length≤1000000
theorem Fits.OG{b:al}(h:b.length≤1000000):Fits b:=by
 refine⟨aa,fun _=>h,?_⟩;by_cases q:(dI b).2.2.2=0
 ·have:=(vq q).2.2.2;omega
 ·by_cases q1:(ek b).2≠0
  ·rw[FJ q1];exact bS _
  ·by_cases q2:hE (ek b).1≠0
   ·rw[La q1 q2];exact bS _
   ·by_cases q3:(Bv b).2.2≠0
    ·rw[Tl q1 q2 q3];exact bS _
    ·rw[Tm q1 q2 q3]at q;exact absurd rfl q
noncomputable def eo(b:al):Int×aO×List aH×Nat×Nat×Int:=
 if (fX b).1=1 then (1,(lY b).1,(lY b).2.1,(lY b).2.2.1,0,(lY b).2.2.2)
 else if (fX b).1=2 then (2,(mq b).1,(mq b).2.1,(mq b).2.2.1,0,(mq b).2.2.2)
 else if (fX b).1=3 then (3,(lg b).1,(lg b).2.1,(lg b).2.2.1,(lg b).2.2.2.1,(lg b).2.2.2.2)
 else (0,ib,[],0,0,(fX b).2)
theorem Xp(b:al):fX b=(1,0)∨fX b=(2,0)∨fX b=(3,0)∨((fX b).1=0∧(fX b).2≠0):=by
 unfold fX;by_cases h1:(marked b).1=1∨(marked b).1=2
 ·rw[aq h1];rcases h1 with h|h<;>rw[h]<;>simp
 ·rw[aw h1];by_cases h2:(ek b).2=0
  ·rw[aq h2];simp
  ·rw[aw h2];by_cases h3:(marked b).1=3
   ·rw[aq h3];simp
   ·rw[aw h3];refine .inr (.inr (.inr ⟨rfl,?_⟩));show(marked b).2≠0;unfold marked at h1 h3⊢;split
    ·decide
    ·split
     ·decide
     ·split
      ·decide
      ·rename_i q1 q2 q3;rw[aw q1,aw q2,aw q3]at h1 h3;simp only at h1 h3;exfalso;exact q3 (fun k=>by unfold F7 at k;omega)
theorem uP(HT:bK B w0){b:al}(hb:fq B w0 F A c b)(dh:b.length≤1000000000):a_ B w0 56 [.slice A b.length c] F (fun r L=>r= .tuple #[ah (fX b).1,ah (fX b).2]∧L=F):=by
 have e1:∀(h:(marked b).1=1∨(marked b).1=2),fX b=((marked b).1,0):=fun h=>by unfold fX;rw[aq h]
 have e2:∀(h:¬((marked b).1=1∨(marked b).1=2)) (h2:(ek b).2=0),fX b=(3,0):=fun h h2=>by unfold fX;rw[aw h,aq h2]
 have e3:∀(h:¬((marked b).1=1∨(marked b).1=2)) (h2:¬(ek b).2=0) (h3:(marked b).1=3),fX b=(0,5):=fun h h2 h3=>by unfold fX;rw[aw h,aw h2,aq h3]
 have e4:∀(h:¬((marked b).1=1∨(marked b).1=2)) (h2:¬(ek b).2=0) (h3:¬(marked b).1=3),fX b=(0,(marked b).2):=fun h h2 h3=>by unfold fX;rw[aw h,aw h2,aw h3]
 refine fw func56 26 [0] ?_;refine bP ?_;refine ai rfl (uq hb aa) ?_;refine dm ?_;refine bR 6 17 [0,4,5] ((marked b).1=1∨(marked b).1=2) ?_ ?_
 ·refine bH ?_;refine aI rfl rfl rfl (fun jC=>?_) (fun jC=>?_)
  ·refine b8 ?_;exact aM (by exact dU aox)
  ·refine be ?_;exact aM (by exact eU aox)
 ·refine bH ?_;refine aj (fun pq=>?_) fun pq=>?_
  ·refine dm ?_;rw[e1 pq];exact⟨rfl,rfl⟩
  ·refine bH ?_;refine ai rfl (ajh HT hb dh) ?_;refine bH ?_;refine aj (fun sL=>?_) fun sL=>?_
   ·refine bz ?_;rw[e2 pq sL];exact⟨rfl,rfl⟩
   ·refine bD ?_;refine aj (fun pX=>?_) fun pX=>?_
    ·refine bz ?_;rw[e3 pq sL pX];exact⟨rfl,rfl⟩
    ·refine cD ?_;rw[e4 pq sL pX];exact⟨rfl,rfl⟩
theorem QB(HT:bK B w0){o:aO}{L:List aH}(hx:∀x∈L,x.1<18446744073709551616)(hb:aL B w0 F 4 (.slice A L.length c) L.length (cU L)):a_ B w0 10 [ah 1,.agg (aO.cells o).toArray,.slice A L.length c] F (LV (iW 1 o L) F):=by
 have e:iW 1 o L=tp o L:=rfl;rw[e];have x':=fun M (hb:aL B w0 M 4 (.slice A L.length c) L.length (cU L))=>Zy (F:=M) (o:=o) HT hx hb;obtain⟨W,hW⟩:=cR (tp o L);rw[←hW];simp only[←hW]at x';have oB:=fF o;refine fw func10 30 [0,1,2] ?_;refine be ?_;refine bf fun g4=>?_;refine zK ?_;refine aj (fun h9=>?_) fun h9=>?_
 ·refine be ?_;refine ae (bQ 6 ag rfl aV (aO.cells o) rfl rfl) rfl ?_;refine aE ?_;refine ay rfl (x' _ hb.cons) fun xi Gc=>?_;refine bP ?_;refine ao (.cons (.skip (.refl _))) ?_;refine aE ?_;exact⟨xi,Gc,rfl,rfl⟩
 ·exfalso;exact h9 rfl
theorem QC(HT:bK B w0){o:aO}{L:List aH}(hx:∀x∈L,x.1<18446744073709551616)(hb:aL B w0 F 4 (.slice A L.length c) L.length (cU L)):a_ B w0 10 [ah 2,.agg (aO.cells o).toArray,.slice A L.length c] F (LV (iW 2 o L) F):=by
 have e:iW 2 o L=vL o L:=rfl;rw[e];have x':=fun M (hb:aL B w0 M 4 (.slice A L.length c) L.length (cU L))=>aas (F:=M) (o:=o) HT hx hb;obtain⟨W,hW⟩:=cR (vL o L);rw[←hW];simp only[←hW]at x';have oB:=fF o;refine fw func10 30 [0,1,2] ?_;refine be ?_;refine bf fun g4=>?_;refine zK ?_;refine aj (fun h9=>?_) fun h9=>?_
 ·exfalso;exact absurd h9 aA
 ·refine bB ?_;refine aj (fun kH=>?_) fun kH=>?_
  ·refine be ?_;refine ae (bQ 6 ag rfl aV (aO.cells o) rfl rfl) rfl ?_;refine aE ?_;refine ay rfl (x' _ hb.cons) fun xi Gc=>?_;refine bP ?_;refine ao (.cons (.skip (.refl _))) ?_;refine aE ?_;exact⟨xi,Gc,rfl,rfl⟩
  ·exfalso;exact kH rfl
theorem QD(HT:bK B w0){o:aO}{L:List aH}(hx:∀x∈L,x.1<18446744073709551616)(hb:aL B w0 F 4 (.slice A L.length c) L.length (cU L)):a_ B w0 10 [ah 3,.agg (aO.cells o).toArray,.slice A L.length c] F (LV (iW 3 o L) F):=by
 have e:iW 3 o L=tv o L:=rfl;rw[e];have x':=fun M (hb:aL B w0 M 4 (.slice A L.length c) L.length (cU L))=>afu (F:=M) (o:=o) HT hx hb;obtain⟨W,hW⟩:=cR (tv o L);rw[←hW];simp only[←hW]at x';have oB:=fF o;refine fw func10 30 [0,1,2] ?_;refine be ?_;refine bf fun g4=>?_;refine zK ?_;refine aj (fun h9=>?_) fun h9=>?_
 ·exfalso;exact absurd h9 aA
 ·refine bB ?_;refine aj (fun kH=>?_) fun kH=>?_
  ·exfalso;exact absurd kH aA
  ·refine bB ?_;refine aj (fun oO=>?_) fun oO=>?_
   ·refine be ?_;refine ae (bQ 6 ag rfl aV (aO.cells o) rfl rfl) rfl ?_;refine aE ?_;refine ay rfl (x' _ hb.cons) fun xi Gc=>?_;refine b8 ?_;refine ve [6,7] ?_;refine b8 ?_;refine ao (.cons (.skip (.refl _))) ?_;refine aE ?_;exact⟨xi,Gc,rfl,rfl⟩
   ·exfalso;exact oO rfl
theorem QE{v:Int}{o:aO}{L:List aH}(h1:¬v=1)(h2:¬v=2)(h3:¬v=3):a_ B w0 10 [ah v,.agg (aO.cells o).toArray,.slice A L.length c] F (LV (iW v o L) F):=by
 have e:iW v o L=([],4):=by unfold iW;rw[aw h1,aw h2,aw h3]
 rw[e];refine fw func10 30 [0,1,2] ?_;refine be ?_;refine bf fun g4=>?_;refine zK ?_;refine aj (fun h9=>?_) fun h9=>?_
 ·exfalso;exact h1 h9
 ·refine bB ?_;refine aj (fun kH=>?_) fun kH=>?_
  ·exfalso;exact h2 kH
  ·refine bB ?_;refine aj (fun oO=>?_) fun oO=>?_
   ·exfalso;exact h3 oO
   ·refine bz ?_;refine aC 5 1 none ?_;refine ao (.cons (.skip (.refl _))) ?_;refine aE ?_;exact⟨none,0,rfl,rfl⟩
theorem wy(HT:bK B w0){v:Int}{o:aO}{L:List aH}(hx:∀x∈L,x.1<18446744073709551616)(hb:aL B w0 F 4 (.slice A L.length c) L.length (cU L)):a_ B w0 10 [ah v,.agg (aO.cells o).toArray,.slice A L.length c] F (LV (iW v o L) F):=by
 by_cases h1:v=1
 ·subst h1;exact QB HT hx hb
 ·by_cases h2:v=2
  ·subst h2;exact QC HT hx hb
  ·by_cases h3:v=3
   ·subst h3;exact QD HT hx hb
   ·exact QE h1 h2 h3
theorem zA{C:Cx}{fr:Fr}{L:aR}{f:Ch→aR}{x y:Operand}{t ty bt:TypeId}{o:aO}{c0 c1 c2 c3 c4 x0 x1 x2 x3 x4 x5 va:Value}(hs:pt C.P t 6=true)(he:ev fr x=some (.pointer (some ⟨g,5,none⟩)))(hv:ev fr y=some (.agg (aO.cells o).toArray))(hm:mx (.bE g bt [c0,c1,c2,c3,c4,x0,x1,x2,x3,x4,x5,va]) L f):
  qz C fr L (.store t x y) ty (fun p L'=>L'=f (.bE g bt [c0,c1,c2,c3,c4,ah o.1,.bool o.2.1,ah o.2.2.1,ah o.2.2.2.1,ah o.2.2.2.2.1,ah o.2.2.2.2.2,va])):=
 pk 6 hs he hv (fF o) hm rfl ak
abbrev Upb(g:Nat)(v:Int)(m nb bad:Nat)(cl:Bool)(o:aO)(va:Value):Ch:=.bE g 69 [ah v,ah (m:Int),ah (nb:Int),ah (bad:Int),.bool cl,ah o.1,.bool o.2.1,ah o.2.2.1,ah o.2.2.2.1,ah o.2.2.2.2.1,ah o.2.2.2.2.2,va]
def UpE(e:Int)(F:aR)(r:Value)(L:aR):Prop:=∃Y,r= .tuple #[.pointer none,ah e]∧L=Y++F
def UpK(v:Int)(o:aO)(l:List aH)(nb bad:Nat)(F:aR)(r:Value)(L:aR):Prop:=∃g A' c',r= .tuple #[bq g,ah 0]∧L=Upb g v l.length nb bad false o (.slice A' l.length c'):: .own 62 4 A' l.length c' (cU l)::F
def agp(v:Int)(o:aO)(l:List aH)(nb bad:Nat)(e:Int)(F:aR)(r:Value)(L:aR):Prop:=(e≠0∧UpE e F r L)∨(e=0∧UpK v o l nb bad F r L)
theorem PN(HT:bK B w0){b:al}(hb:fq B w0 F A c b)(dh:b.length≤1000000):a_ B w0 69 [.slice A b.length c] F (UnA (mq b) F):=by
 by_cases h:(iu b).2.2=0
 ·exact PQ HT hb dh h
 ·exact PO HT hb dh h
theorem aaX(HT:bK B w0){b:al}(hb:fq B w0 F A c b)(hf:Fits b)(hV:fX b=(1,0)):a_ B w0 29 [.slice A b.length c] F (agp 1 (lY b).1 (lY b).2.1 (lY b).2.2.1 0 (lY b).2.2.2 F):=by
 have dh:=hf.all;have ya:=uP (F:=F) HT hb dh;rw[hV]at ya;have RY:=fun M (hb:fq B w0 M A c b)=>OK (F:=M) HT hb (hf.few (by rw[hV];decide));obtain⟨R,hR⟩:=cR (lY b);rw[←hR];simp only[←hR]at RY;have oB:=fF R.1;refine fw func29 92 [0] ?_;refine bP ?_;refine ai rfl (ya) ?_;refine bz ?_;refine ae (br [(0,_)] [ah 0,ah 0,ah 0,ah 0,.bool false] [0] [_,_,_,_,_] rfl rfl ag) rfl ?_;refine ae (br [(0,_)] [ah 0,ah 0,ah 0,ah 0,.bool false,ah 0,.bool false,ah 0,ah 0,ah 0,ah 0,.slice none 0 0] [0] [_,_,_,_,_,_,_,_,_,_,_,_] rfl rfl ag) rfl ?_;refine bf fun g15=>?_;refine jU ?_;refine aj (fun iy=>?_) fun iy=>?_
 ·refine bI ?_;refine ay rfl (RY _ hb.cons) fun Bh Dc=>?_;refine bD ?_;refine kK (zA (o:=R.1) ag rfl rfl aV) ?_;refine bM ?_;refine ve [5,6] ?_;refine bP ?_;refine aj (fun Kh=>?_) fun Kh=>?_
  ·refine bz ?_;exact .inl ⟨Kh,[_,_],rfl,rfl⟩
  ·refine acu ?_;refine ao ((gl (ef (.refl _)))) ?_;refine aE ?_;exact .inr ⟨bF Kh,_,Bh,Dc,rfl,rfl⟩
 ·exfalso;exact iy rfl
theorem aaY(HT:bK B w0){b:al}(hb:fq B w0 F A c b)(hf:Fits b)(hV:fX b=(2,0)):a_ B w0 29 [.slice A b.length c] F (agp 2 (mq b).1 (mq b).2.1 (mq b).2.2.1 0 (mq b).2.2.2 F):=by
 have dh:=hf.all;have ya:=uP (F:=F) HT hb dh;rw[hV]at ya;have RY:=fun M (hb:fq B w0 M A c b)=>PN (F:=M) HT hb (hf.few (by rw[hV];decide));obtain⟨R,hR⟩:=cR (mq b);rw[←hR];simp only[←hR]at RY;have oB:=fF R.1;refine fw func29 92 [0] ?_;refine bP ?_;refine ai rfl (ya) ?_;refine bz ?_;refine ae (br [(0,_)] [ah 0,ah 0,ah 0,ah 0,.bool false] [0] [_,_,_,_,_] rfl rfl ag) rfl ?_;refine ae (br [(0,_)] [ah 0,ah 0,ah 0,ah 0,.bool false,ah 0,.bool false,ah 0,ah 0,ah 0,ah 0,.slice none 0 0] [0] [_,_,_,_,_,_,_,_,_,_,_,_] rfl rfl ag) rfl ?_;refine bf fun g15=>?_;refine jU ?_;refine aj (fun iy=>?_) fun iy=>?_
 ·exfalso;exact absurd iy aA
 ·refine bB ?_;refine aj (fun za=>?_) fun za=>?_
  ·refine bI ?_;refine ay rfl (RY _ hb.cons) fun Bh Dc=>?_;refine bD ?_;refine kK (zA (o:=R.1) ag rfl rfl aV) ?_;refine bM ?_;refine ve [5,6] ?_;refine bP ?_;refine aj (fun Kh=>?_) fun Kh=>?_
   ·refine bz ?_;exact .inl ⟨Kh,[_,_],rfl,rfl⟩
   ·refine acu ?_;refine ao ((gl (ef (.refl _)))) ?_;refine aE ?_;exact .inr ⟨bF Kh,_,Bh,Dc,rfl,rfl⟩
  ·exfalso;exact za rfl
theorem aaZ(HT:bK B w0){b:al}(hb:fq B w0 F A c b)(hf:Fits b)(hV:fX b=(3,0)):a_ B w0 29 [.slice A b.length c] F (agp 3 (lg b).1 (lg b).2.1 (lg b).2.2.1 (lg b).2.2.2.1 (lg b).2.2.2.2 F):=by
 have dh:=hf.all;have ya:=uP (F:=F) HT hb dh;rw[hV]at ya;have RY:=fun M (hb:fq B w0 M A c b)=>Tt (F:=M) HT hb dh hf.in3;obtain⟨R,hR⟩:=cR (lg b);rw[←hR];simp only[←hR]at RY;have oB:=fF R.1;refine fw func29 92 [0] ?_;refine bP ?_;refine ai rfl (ya) ?_;refine bz ?_;refine ae (br [(0,_)] [ah 0,ah 0,ah 0,ah 0,.bool false] [0] [_,_,_,_,_] rfl rfl ag) rfl ?_;refine ae (br [(0,_)] [ah 0,ah 0,ah 0,ah 0,.bool false,ah 0,.bool false,ah 0,ah 0,ah 0,ah 0,.slice none 0 0] [0] [_,_,_,_,_,_,_,_,_,_,_,_] rfl rfl ag) rfl ?_;refine bf fun g15=>?_;refine jU ?_;refine aj (fun iy=>?_) fun iy=>?_
 ·exfalso;exact absurd iy aA
 ·refine bB ?_;refine aj (fun za=>?_) fun za=>?_
  ·exfalso;exact absurd za aA
  ·refine b8 ?_;refine ve [0,5,6,55] ?_;refine aE ?_;refine aj (fun Yq=>?_) fun Yq=>?_
   ·refine bB ?_;refine ay rfl (RY _ hb.cons) fun Bh Dc=>?_;refine bM ?_;refine kK (zA (o:=R.1) ag rfl rfl aV) ?_;refine cD ?_;refine ve [5,6] ?_;refine bP ?_;refine aj (fun Kh=>?_) fun Kh=>?_
    ·refine bz ?_;exact .inl ⟨Kh,[_,_],rfl,rfl⟩
    ·refine acu ?_;refine ao ((gl (ef (.refl _)))) ?_;refine aE ?_;exact .inr ⟨bF Kh,_,Bh,Dc,rfl,rfl⟩
   ·exfalso;exact Yq rfl
theorem aa0(HT:bK B w0){b:al}(hb:fq B w0 F A c b)(hf:Fits b)(hV:(fX b).1=0)(hV2:(fX b).2≠0):a_ B w0 29 [.slice A b.length c] F (UpE (fX b).2 F):=by
 have ya:=uP (F:=F) HT hb hf.all;rw[hV]at ya;refine fw func29 92 [0] ?_;refine bP ?_;refine ai rfl (ya) ?_;refine bz ?_;refine ae (br [(0,_)] [ah 0,ah 0,ah 0,ah 0,.bool false] [0] [_,_,_,_,_] rfl rfl ag) rfl ?_;refine ae (br [(0,_)] [ah 0,ah 0,ah 0,ah 0,.bool false,ah 0,.bool false,ah 0,ah 0,ah 0,ah 0,.slice none 0 0] [0] [_,_,_,_,_,_,_,_,_,_,_,_] rfl rfl ag) rfl ?_;refine bf fun g15=>?_;refine jU ?_;refine aj (fun iy=>?_) fun iy=>?_
 ·exfalso;exact absurd iy aA
 ·refine bB ?_;refine aj (fun za=>?_) fun za=>?_
  ·exfalso;exact absurd za aA
  ·refine b8 ?_;refine ve [0,5,6,55] ?_;refine aE ?_;refine aj (fun Yq=>?_) fun Yq=>?_
   ·exfalso;exact absurd Yq aA
   ·refine bz ?_;refine aj (fun Kh=>?_) fun Kh=>?_
    ·refine bz ?_;exact⟨[_],rfl,rfl⟩
    ·exfalso;exact Kh hV2
def UpR(R:Int×aO×List aH×Nat×Nat×Int)(F:aR)(r:Value)(L:aR):Prop:=agp R.1 R.2.1 R.2.2.1 R.2.2.2.1 R.2.2.2.2.1 R.2.2.2.2.2 F r L
theorem L7(HT:bK B w0){b:al}(hb:fq B w0 F A c b)(hf:Fits b):a_ B w0 29 [.slice A b.length c] F (UpR (eo b) F):=by
 rcases Xp b with h|h|h|⟨h,h2⟩
 ·have e:eo b=(1,(lY b).1,(lY b).2.1,(lY b).2.2.1,0,(lY b).2.2.2):=by unfold eo;rw[h];rfl
  rw[e];exact aaX HT hb hf h
 ·have e:eo b=(2,(mq b).1,(mq b).2.1,(mq b).2.2.1,0,(mq b).2.2.2):=by unfold eo;rw[h];rfl
  rw[e];exact aaY HT hb hf h
 ·have e:eo b=(3,(lg b).1,(lg b).2.1,(lg b).2.2.1,(lg b).2.2.2.1,(lg b).2.2.2.2):=by unfold eo;rw[h];rfl
  rw[e];exact aaZ HT hb hf h
 ·have e:eo b=(0,ib,[],0,0,(fX b).2):=by unfold eo;rw[h];rfl
  rw[e];exact(aa0 HT hb hf h h2).mono fun r L hr=>.inl ⟨h2,hr⟩
abbrev Qo(l:List aH):Prop:=∀r∈l,r.1<18446744073709551616
theorem adQ(s:Cs):s.num<18446744073709551616:=by
 unfold Cs.num;split
 ·omega
 ·exact(fh _).1
theorem I6(b:Bool):∀(f:Nat) (s:Cs) (o:List aH),Qo o→Qo (ot b f s o).1
 |0,s,o,h=>h
 |f+1,s,o,h=>by
  by_cases h1:s.left=0
  ·rw[AQ h1];exact h
  ·by_cases he:(dZ b s).2.e≠0
   ·rw[AP h1 he];intro r hr;cases hr
   ·rw[E_ h1 he];refine I6 b f _ _ fun r hr=>?_;rcases dy.1 hr with hr|hr
    ·exact h r hr
    ·rw[lE]at hr;subst hr;unfold dZ;simp only;split
     ·exact adQ _
     ·omega
theorem aiP(b:Bool)(l:al):Qo (qQ b l).1:=I6 b _ _ _ fun r hr=>by cases hr
theorem ad2(s:Cs):Qo (jR s).1:=by
 unfold jR;split
 ·intro r hr;cases hr
 ·split
  ·intro r hr;cases hr
  ·split
   ·intro r hr;cases hr
   ·exact aiP _ _
theorem OJ:∀(f:Nat) (s:Cs) (o:List aH),Qo o→Qo (oE f s o).1
 |0,s,o,h=>h
 |f+1,s,o,h=>by
  rw[oE];split
  ·intro r hr;cases hr
  ·refine OJ f _ _ fun r hr=>?_;rcases dy.1 hr with hr|hr
   ·exact h r hr
   ·exact ad2 s r hr
theorem Zt(b:al):Qo (lY b).2.1:=by
 unfold lY;split
 ·intro r hr;cases hr
 ·split
  ·intro r hr;cases hr
  ·split
   ·intro r hr;cases hr
   ·show Qo (kD (gW b).1).1;unfold kD;split
    ·intro r hr;cases hr
    ·split
     ·intro r hr;cases hr
     ·split
      ·intro r hr;cases hr
      ·exact OJ _ _ _ fun r hr=>by cases hr
theorem aan{b:al}(dh:b.length≤1000000):Qo (mq b).2.1:=by
 by_cases h:(iu b).2.2≠0
 ·rw[afM h];intro r hr;cases hr
 ·by_cases h2:(jn (iu b).2.1).2≠0
  ·rw[afN h h2];intro r hr;cases hr
  ·rw[afO h h2];exact VS (PM dh (bF h))
theorem aac{b:al}(dh:(dI b).2.1.length≤1000000):Qo (lg b).2.1:=by
 by_cases h:(ik b).2.2.2≠0
 ·rw[afw h];intro r hr;cases hr
 ·by_cases h2:(jn (ik b).2.1).2≠0
  ·rw[afx h h2];intro r hr;cases hr
  ·rw[afy h h2];exact VS (Py dh (bF h))
theorem QA{b:al}(hf:Fits b):Qo (eo b).2.2.1:=by
 unfold eo;split
 ·exact Zt b
 ·split
  ·rename_i q2;exact aan (hf.few fun k=>by rw[k]at q2;exact absurd q2 aA)
  ·split
   ·exact aac hf.in3
   ·intro r hr;cases hr
noncomputable abbrev Cp(b:al):Int:=(eo b).2.2.2.2.2
noncomputable def xy(b:al):List aH×Int×Int:=if Cp b≠0 then ([],0,Cp b) else ((eo b).2.2.1,(eo b).1,0)
noncomputable def xx(b:al):aO×Int:=if Cp b≠0 then (ib,Cp b) else ((eo b).2.1,0)
noncomputable def Hp(b:al):Bool:=decide (iW (eo b).1 (eo b).2.1 (eo b).2.2.1=(b,0))
abbrev Js:=Int×Nat×Nat×Nat×Bool
def Js.cells(r:Js):cV:=[ah r.1,ah (r.2.1:Int),ah (r.2.2.1:Int),ah (r.2.2.2.1:Int),.bool r.2.2.2.2]
noncomputable def vO(b:al):Js×Int:=if Cp b≠0 then ((0,0,0,0,false),Cp b) else (((eo b).1,(eo b).2.2.1.length,(eo b).2.2.2.1,(eo b).2.2.2.2.1,Hp b),0)
theorem CY(HT:bK B w0){b:al}(hb:fq B w0 F A c b)(hf:Fits b)(h:Cp b≠0):a_ B w0 29 [.slice A b.length c] F (UpE (Cp b) F):=
 (L7 HT hb hf).mono fun r L hr=>hr.elim (fun q=>q.2) fun q=>absurd q.1 h
theorem CZ(HT:bK B w0){b:al}(hb:fq B w0 F A c b)(hf:Fits b)(h:Cp b=0):a_ B w0 29 [.slice A b.length c] F (UpK (eo b).1 (eo b).2.1 (eo b).2.2.1 (eo b).2.2.2.1 (eo b).2.2.2.2.1 F):=
 (L7 HT hb hf).mono fun r L hr=>hr.elim (fun q=>absurd h q.1) fun q=>q.2
def AxA(R:List aH×Int×Int)(F:aR)(r:Value)(L:aR):Prop:=∃A' c',r= .tuple #[.slice A' R.1.length c',ah R.2.1,ah R.2.2]∧L= .own 62 4 A' R.1.length c' (cU R.1)::F
theorem Xr(HT:bK B w0){b:al}(hb:fq B w0 F A c b)(hf:Fits b)(h:Cp b≠0):a_ B w0 13 [.slice A b.length c] F (AxA (xy b) F):=by
 have e:xy b=([],0,Cp b):=by unfold xy;rw[aq h]
 refine fw func13 24 [0] ?_;refine bz ?_;refine ba alB rfl (CY HT hb hf h) rfl ?_;rintro _ _ ⟨Y,rfl,cJ⟩;obtain rfl:=cJ.symm;refine dX ?_;refine aj (fun nh=>?_) fun nh=>?_
 ·refine bz ?_;refine aC 62 4 none ?_;refine ao (.cons (dA Y F)) ?_;refine aE ?_;rw[e];exact⟨none,0,rfl,rfl⟩
 ·exfalso;exact nh h
theorem Xs(HT:bK B w0){b:al}(hb:fq B w0 F A c b)(hf:Fits b)(h:Cp b=0):a_ B w0 13 [.slice A b.length c] F (AxA (xy b) F):=by
 have e:xy b=((eo b).2.2.1,(eo b).1,0):=by unfold xy;rw[aw (fun q=>q h)]
 rw[e];refine fw func13 24 [0] ?_;refine bz ?_;refine eK rfl (CZ HT hb hf h) fun g9 A9 c9=>?_;refine dX ?_;refine aj (fun nh=>?_) fun nh=>?_
 ·exfalso;exact nh rfl
 ·refine jU ?_;refine mu [(2,_),(3,_),(4,_)] ⟨rfl,rfl,rfl,trivial⟩ ?_;refine be ?_;refine ao (.skip (.refl _)) ?_;refine aE ?_;exact⟨A9,c9,rfl,rfl⟩
theorem Xq(HT:bK B w0){b:al}(hb:fq B w0 F A c b)(hf:Fits b):a_ B w0 13 [.slice A b.length c] F (AxA (xy b) F):=by
 by_cases h:Cp b=0
 ·exact Xs HT hb hf h
 ·exact Xr HT hb hf h
def AoA(R:aO×Int)(F:aR)(r:Value)(L:aR):Prop:=r= .tuple #[.agg (aO.cells R.1).toArray,ah R.2]∧L=F
theorem agx(HT:bK B w0){b:al}(hb:fq B w0 F A c b)(hf:Fits b)(h:Cp b≠0):a_ B w0 14 [.slice A b.length c] F (AoA (xx b) F):=by
 have D_:=fF ib;have e:xx b=(ib,Cp b):=by unfold xx;rw[aq h]
 refine fw func14 19 [0] ?_;refine be ?_;refine bg fun g2=>?_;refine bB ?_;refine ba alB rfl (CY HT hb.cons hf h) rfl ?_;rintro _ _ ⟨Y,rfl,cJ⟩;obtain rfl:=cJ.symm;refine bP ?_;refine fR yp ?_;refine bI ?_;refine aj (fun mF=>?_) fun mF=>?_
 ·refine be ?_;refine ae (cv [ah 0,.bool false,ah 0,ah 0,ah 0,ah 0] ag) rfl ?_;refine bD ?_;refine gS rfl rfl ag aV gD rfl (.skip (dA Y F)) ?_;rw[e];exact⟨rfl,rfl⟩
 ·exfalso;exact mF h
theorem agy(HT:bK B w0){b:al}(hb:fq B w0 F A c b)(hf:Fits b)(h:Cp b=0):a_ B w0 14 [.slice A b.length c] F (AoA (xx b) F):=by
 have e:xx b=((eo b).2.1,0):=by unfold xx;rw[aw (fun q=>q h)]
 have oB:=fF (eo b).2.1;refine fw func14 19 [0] ?_;refine be ?_;refine bg fun g2=>?_;refine bB ?_;refine eK rfl (CZ HT hb.cons hf h) fun g8 A8 c8=>?_;refine dX ?_;refine aj (fun mF=>?_) fun mF=>?_
 ·exfalso;exact mF rfl
 ·refine bD ?_;refine ae (bQ 6 ag rfl aV (aO.cells (eo b).2.1) rfl rfl) rfl ?_;refine bI ?_;refine gS rfl rfl ag aV gD rfl (.skip (.skip (.skip (.refl _)))) ?_;rw[e];exact⟨rfl,rfl⟩
theorem agw(HT:bK B w0){b:al}(hb:fq B w0 F A c b)(hf:Fits b):a_ B w0 14 [.slice A b.length c] F (AoA (xx b) F):=by
 by_cases h:Cp b=0
 ·exact agy HT hb hf h
 ·exact agx HT hb hf h
theorem aoq{P:Prop}(h:P:=by(first|exact fun k=>za (by rw[k])|exact⟨fun k=>Prod.ext k za,fun k=>by rw[k]⟩)):P:=h
theorem KT(r:Js):∀u∈Js.cells r,u.oneCell'=true:=by simp[Js.cells,Value.oneCell']
theorem aba{l l2:al}(e1:n=l.length)(e2:n2=l2.length)(h1:aL B w0 F 1 (.slice A n c) n (bv l))(h2:aL B w0 F 1 (.slice A2 n2 c2) n2 (bv l2)):a_ B w0 32 [.slice A n c,.slice A2 n2 c2] F (fun r L=>r= .bool (decide (l=l2))∧L=F):=by
 refine fw func32 10 [0,1] ?_;refine bM ?_;refine ae (pg underlying27 underlying5 underlying9 rfl h1) rfl ?_;refine aE ?_;refine ae (pg underlying27 underlying5 underlying9 rfl h2) rfl ?_;refine bB ?_;exact⟨rfl,rfl⟩
def VeA(R:Js×Int)(F:aR)(r:Value)(L:aR):Prop:=r= .tuple #[.agg (Js.cells R.1).toArray,ah R.2]∧L=F
theorem Xu(HT:bK B w0){b:al}(hb:fq B w0 F A c b)(hf:Fits b)(h:Cp b≠0):a_ B w0 17 [.slice A b.length c] F (VeA (vO b) F):=by
 have D_:=KT (0,0,0,0,false);have e:vO b=((0,0,0,0,false),Cp b):=by unfold vO;rw[aq h]
 refine fw func17 48 [0] ?_;refine be ?_;refine bg fun g2=>?_;refine bB ?_;refine ba alB rfl (CY HT hb.cons hf h) rfl ?_;rintro _ _ ⟨Y,rfl,cJ⟩;obtain rfl:=cJ.symm;refine bP ?_;refine fR yp ?_;refine bI ?_;refine aj (fun nh=>?_) fun nh=>?_
 ·refine be ?_;refine ae (cv [ah 0,ah 0,ah 0,ah 0,.bool false] ag) rfl ?_;refine bD ?_;refine gS rfl rfl ag aV gD rfl (.skip (dA Y F)) ?_;rw[e];exact⟨rfl,rfl⟩
 ·exfalso;exact nh h
theorem Xv(HT:bK B w0){b:al}(hb:fq B w0 F A c b)(hf:Fits b)(h:Cp b=0):a_ B w0 17 [.slice A b.length c] F (VeA (vO b) F):=by
 have hC:Hp b=decide (iW (eo b).1 (eo b).2.1 (eo b).2.2.1=(b,0)):=rfl;have e:vO b=(((eo b).1,(eo b).2.2.1.length,(eo b).2.2.2.1,(eo b).2.2.2.2.1,Hp b),0):=by unfold vO;rw[aw (fun q=>q h)]
 have fP:=QA hf;have RY:=fun M (hb:fq B w0 M A c b)=>CZ (F:=M) HT hb hf h;obtain⟨V,hV⟩:=cR (eo b);rw[←hV]at hC e fP;simp only[←hV]at RY;obtain⟨v,o,l,nb,bad,er⟩:=V;simp only at hC e fP RY;have x':=fun M A8 c8 (hb:aL B w0 M 4 (.slice A8 l.length c8) l.length (cU l))=>wy (F:=M) (v:=v) (o:=o) HT fP hb;obtain⟨W,hW⟩:=cR (iW v o l);rw[←hW]at hC;simp only[←hW]at x';obtain⟨cl,tz⟩:=cR (Hp b);rw[←tz]at hC e;rw[e];have oB:=KT (v,l.length,nb,bad,cl);refine fw func17 48 [0] ?_;refine be ?_;refine bg fun g2=>?_;refine bB ?_;refine eK rfl (RY _ hb.cons) fun g8 A8 c8=>?_;refine dX ?_;refine aj (fun nh=>?_) fun nh=>?_
 ·exfalso;exact nh rfl
 ·refine bH ?_;refine cC (Upb g8 v l.length nb bad false o (.slice A8 l.length c8):: .own 62 4 A8 l.length c8 (cU l):: .bE g2 41 [ah 0,ah 0,ah 0,ah 0,.bool false]::F) ?_;refine ab 0 ?_;refine ab 1 ?_;refine ab 2 ?_;refine ab 3 ?_;refine ab 4 ?_;refine ab 5 ?_;refine ab 6 ?_;refine ab 7 ?_;refine aW 8 rfl (bQ 6 ag rfl aV (aO.cells o) rfl rfl) ?_;refine ab 9 ?_;refine ab 10 ?_;refine ab 11 ?_;refine ab 12 ?_;refine az 13 ?_;refine b7 rfl rfl (x' _ _ _ (aL.own (.tail _ (.head _)))) fun Qp c30=>?_;refine ab 14 ?_;refine ab 15 ?_;refine ab 16 ?_;refine ab 17 ?_;refine ab 18 ?_;refine cP [0,2,4,5,6] ?_;refine b8 ?_;refine bR 7 40 [2,4,33] (W=(b,0)) ?_ ?_
  ·refine bH ?_;refine ct (fun za=>?_) fun za=>?_
   ·refine b8 ?_;refine ai rfl (aba (l:=W.1) (l2:=b) rfl rfl (aL.own (.head _)) hb.cons.cons.cons.cons) ?_;refine aE ?_;exact aM (by exact dU aoq)
   ·refine bH ?_;exact aM (by exact eT aoq)
  ·refine bD ?_;rw[←hC];refine b8 ?_;refine ae (bQ 5 ag rfl aV (Js.cells (v,l.length,nb,bad,cl)) rfl rfl) rfl ?_;refine bI ?_;refine gS rfl rfl ag aV gD rfl (.skip (.skip (.skip (.skip (.refl _))))) ?_;exact⟨rfl,rfl⟩
theorem Xt(HT:bK B w0){b:al}(hb:fq B w0 F A c b)(hf:Fits b):a_ B w0 17 [.slice A b.length c] F (VeA (vO b) F):=by
 by_cases h:Cp b=0
 ·exact Xv HT hb hf h
 ·exact Xu HT hb hf h
theorem Df{L:List aH}(h:cO L=0):dF L≤1048576∧L.length≤20000:=by
 unfold cO at h;by_cases q:20000<L.length∨(∃x∈L,uj x)∨1048576<dF L
 ·rw[aq q]at h;exact absurd h aA
 ·exact⟨aa,aa⟩
theorem Zs(o:aO)(L:List aH):marked (qK o L)=(1,0):=by
 have:=lQ (v:=1) C1 ((aS o.1.toNat++(fL o.2.1::(aS L.length++aS (dR o true L).length)))++((jy true o.2.1 (dR o true L) L).flatten++mn (pV 0 (tk o L++(jy true o.2.1 (dR o true L) L).flatten))));rw[←this];congr 1;unfold qK cY;show _=(dY++[1])++_;unfold tk;simp[bV]
theorem aam(o:aO)(L:List aH):marked (p8 o L)=(2,0):=by
 have:=lQ (v:=2) C1 ((aS o.1.toNat++(fL o.2.1::aS o.2.2.1.toNat))++(mn (pV 0 (ou o))++dx o L));rw[←this];congr 1;unfold p8 sr cY ou;show _=(dY++[2])++_;simp[bV]
theorem Jg(o:aO)(b:al):marked (lf o b)=(3,0):=by
 have:=lQ (v:=3) C1 ((([fL o.2.1,UInt8.ofNat o.2.2.1.toNat,UInt8.ofNat o.2.2.2.1.toNat,UInt8.ofNat o.2.2.2.2.1.toNat]++(fI o.2.2.2.2.2.toNat 2++(fI o.1.toNat 2++fI b.length 4)))++mn (pV 0 (wq o b.length)))++((ij o b).1++jo o b.length));rw[←this];congr 1
theorem Px{o:aO}{b:al}(ho:cm 3 o=0)(hl:(ij o b).2=0):(ek (lf o b)).2=0:=by
 have h:=AZ ho hl;exact bF fun q=>by
  rw[FJ q]at h;exact q (dC (fun x=>x.2.2.2) h)
theorem aiv{o:aO}{L:List aH}{b:al}(h:tp o L=(b,0)):cm 1 o=0∧cO L=0∧b=qK o L:=by
 unfold tp at h;by_cases q1:cm 1 o≠0
 ·rw[aq q1]at h;exact absurd (dC Prod.snd h) q1
 ·by_cases q2:cO L≠0
  ·rw[aw q1,aq q2]at h;exact absurd (dC Prod.snd h) q2
  ·rw[aw q1,aw q2]at h;exact⟨bF q1,bF q2,(dC Prod.fst h).symm⟩
theorem HD{o:aO}{L:List aH}(h2:¬(fY o L).2≠0):cO L=0:=(Mq h2).2
theorem ajv{o:aO}{L:List aH}{b:al}(h:vL o L=(b,0)):cm 2 o=0∧cO L=0∧b=p8 o L:=by
 unfold vL at h;by_cases q1:cm 2 o≠0
 ·rw[aq q1]at h;exact absurd (dC Prod.snd h) q1
 ·by_cases q2:(fY o L).2≠0
  ·rw[aw q1,aq q2]at h;exact absurd (dC Prod.snd h) q2
  ·rw[aw q1,aw q2]at h;exact⟨bF q1,HD q2,(dC Prod.fst h).symm⟩
theorem ajj{o:aO}{L:List aH}{b:al}(h:tv o L=(b,0)):cm 3 o=0∧cO L=0∧(ij o (dx o L)).2=0∧b=lf o (dx o L):=by
 by_cases q1:cm 3 o=0
 ·by_cases q2:(fY o L).2≠0
  ·rw[afz q1 q2]at h;exact absurd (dC Prod.snd h) q2
  ·by_cases q3:(ij o (dx o L)).2≠0
   ·rw[afA q1 q2 q3]at h;exact absurd (dC Prod.snd h) q3
   ·rw[Tr q1 q2 q3]at h;exact⟨q1,HD q2,bF q3,(dC Prod.fst h).symm⟩
 ·rw[Tq q1]at h;exact absurd (dC Prod.snd h) q1
theorem agz{v:Int}{o:aO}{L:List aH}{b:al}(h:iW v o L=(b,0)):v=1∨v=2∨v=3:=by
 unfold iW at h;by_cases h1:v=1
 ·exact .inl h1
 ·by_cases h2:v=2
  ·exact .inr (.inl h2)
  ·by_cases h3:v=3
   ·exact .inr (.inr h3)
   ·rw[aw h1,aw h2,aw h3]at h;exact absurd (dC Prod.snd h) (show(4:Int)≠0 by decide)
theorem Hq{v:Int}{o:aO}{L:List aH}{b:al}(hx:Qo L)(hlen:v=2→b.length≤8388608)(hp:iW v o L=(b,0)):∃nb,eo b=(v,o,L,nb,0,0):=by
 rcases agz hp with rfl|rfl|rfl
 ·obtain⟨h1,h2,rfl⟩:=aiv (show tp o L=(b,0) from hp);have hV:fX (qK o L)=(1,0):=by unfold fX;rw[Zs,aq (.inl rfl)]
  have e:eo (qK o L)=(1,(lY (qK o L)).1,(lY (qK o L)).2.1,(lY (qK o L)).2.2.1,0,(lY (qK o L)).2.2.2):=by unfold eo;rw[hV];rfl
  rw[e,ad4 h1 h2 hx];exact⟨_,rfl⟩
 ·obtain⟨h1,h2,rfl⟩:=ajv (show vL o L=(b,0) from hp);have hl:=hlen rfl;unfold p8 at hl;rw[aX]at hl;have hV:fX (p8 o L)=(2,0):=by unfold fX;rw[aam,aq (.inr rfl)]
  have e:eo (p8 o L)=(2,(mq (p8 o L)).1,(mq (p8 o L)).2.1,(mq (p8 o L)).2.2.1,0,(mq (p8 o L)).2.2.2):=by unfold eo;rw[hV];rfl
  rw[e,afP h1 h2 hx (Df h2).1 aa];exact⟨_,rfl⟩
 ·obtain⟨h1,h2,h3,rfl⟩:=ajj (show tv o L=(b,0) from hp);obtain⟨b,hb⟩:=cR (lf o (dx o L));have hV:fX (lf o (dx o L))=(3,0):=by
   unfold fX;rw[Jg,aw aA,aq (Px h1 h3)]
  have e:eo (lf o (dx o L))=(3,(lg (lf o (dx o L))).1,(lg (lf o (dx o L))).2.1,(lg (lf o (dx o L))).2.2.1,(lg (lf o (dx o L))).2.2.2.1,(lg (lf o (dx o L))).2.2.2.2):=by unfold eo;rw[hV];rfl
  rw[e,Ts h1 h2 hx (Df h2).1 h3];exact⟨_,rfl⟩
theorem Qz{v:Int}{o:aO}{L:List aH}{b:al}(hx:Qo L)(hlen:v=2→b.length≤8388608)(hp:iW v o L=(b,0)):∃nb,vO b=((v,L.length,nb,0,true),0):=by
 obtain⟨nb,e⟩:=Hq hx hlen hp;have hC:Hp b=true:=by unfold Hp;rw[e];exact lD hp
 refine⟨nb,?_⟩;unfold vO Cp;rw[e,aw ak,hC]
theorem XC{b:al}{pl:Bool}(h:b.length≤32768):(jF b pl).1.length≤b.length+50:=by
 have hy:=xD b pl;have e1:=aT (x:=b.length) aa;have e2:=aT (x:=(ki b pl).2.length) aa;rw[JD aa];show(cY _).length≤_;rw[du,aX];unfold xC;rw[eh,aX];omega
theorem DX{S:Nat}(hS:S≤32768)(b pl:Bool):∀(g:bc) (L:List aH),(∀x∈L,x.fits)→CU S (lens b L) g→(jy b pl g L).flatten.length≤(dc b L).length+60*g.length
 |[],_,_,_=>by simp[jy]
 |n::g,L,hL,hf=>by
  obtain⟨f1,f2,f3,f4,f5⟩:=hf;have IA:=oL (b:=b) hS hL f1 f3;have h1:=XC (b:=dc b (L.take n)) (pl:=pl) IA;have h2:=DX hS b pl g (L.drop n) (fun x hx=>hL x (rl hx)) agF;have h3:(dc b L).length=(dc b (L.take n)).length+(dc b (L.drop n)).length:=by
   conv=>lhs;rw[←jO n L]
   unfold dc;rw[ud,aX]
  rw[jy,wo,aX,eh,ub,cE];omega
theorem QI{o:aO}{L:List aH}{M:Nat}(ho:cm 2 (o2 o)=0)(hc:cO L=0)(hx:∀x∈L,x.1<18446744073709551616)(hi:(qJ o L).length≤M)(hM:M≤100000000000):
  (dx o L).length≤2*dF L+60*L.length+40*L.length+M+1000+(ko L).length:=by
 obtain⟨tA,rN,LG⟩:=kj hc hx;have hom:=w4 (.inr (.inl rfl)) ho;obtain⟨⟨m1,m2⟩,_,m4,_⟩:=hom;have m1:16≤o.1:=m1;have m2:o.1≤32768:=m2;have GU:(dR o false L).length≤L.length:=by unfold dR;have:=mU o.1.toNat (lens false L);rwa [et]at this
 have hrb:=vg (b:=false) hx (by have:=(Df hc).1;omega);have It:=DX (S:=o.1.toNat) aa false o.2.1 (dR o false L) L rN (kr _ _);have hss:∀x∈(eQ o L).map List.length,x≤2*dF L+60*L.length:=fun x hx=>by
  have h1:=pF hx;rw[←List.length_flatten]at h1;exact jf h1 (by show(jy false o.2.1 (dR o false L) L).flatten.length≤_;omega)
 have wT:=Cy o false L;have tz:=qW (L:=L) aa;have hCl:(oZ L).length=(ko L).length+4:=du _;have hIl:(pb o L).length=(qJ o L).length+4:=du _;have hDl:(qa o L).length≤60+20*L.length+4:=by
  unfold qa;rw[du];have h1:=y_ (dR o false L) ((eQ o L).map List.length) (fun n hn=>Xy) (fun n hn=>by have:=hss n hn;omega) (dR o false L).length;have h2:uO (dR o false L) ((eQ o L).map List.length) (dR o false L).length=((dR o false L).zip ((eQ o L).map List.length)).flatMap fun p=>aS p.1++aS p.2:=by
   unfold uO;rw[fD (by rw[List.length_zip];omega)]
  rw[h2]at h1;have h3:=aT (x:=(dR o false L).sum) aa;have h4:=aT (x:=(dR o false L).length) aa;have h5:=aT (x:=(oZ L).length) aa;have h6:=aT (x:=(pb o L).length) aa;unfold xR;simp only[aX];omega
 unfold dx;have acO:(eQ o L).flatten.length≤2*dF L+60*L.length:=by show(jy false o.2.1 (dR o false L) L).flatten.length≤_;omega
 simp only[aX,qe];omega
structure rQ(L:List aH):Prop where
 few:L.length≤30
 w:dF L≤2000
 t:Qo L
theorem rQ.chk{L:List aH}(h:rQ L):cO L=0:=by
 unfold cO;rw[aw];rintro(q|q|q)
 ·have:=h.few;omega
 ·obtain⟨x,hx,hl⟩:=q;have h1:x.w≤dF L:=by
   unfold dF;exact pF (je hx)
  have h2:=h.w;unfold uj at hl;unfold aH.w at h1;omega
 ·have:=h.w;omega
theorem Ez{o:aO}{L:List aH}(h:rQ L)(ho:cm 2 (o2 o)=0)(h1:1≤o.2.2.1)(h2:o.2.2.1≤64):(dx o L).length≤320000:=by
 have hf:=h.few;have hw:=h.w;have hi:=(R3 (o:=o) h1 h2 hw aa).2 hf;have:=QI ho h.chk h.t hi aa;have hc:=qW (L:=L) aa;omega
theorem Za{o:aO}{L:List aH}(h:rQ L)(ho:cm 1 o=0):(qK o L).length≤10000:=by
 have hf:=h.few;have hw:=h.w;have fJ:ji 1 o:=by
  unfold cm at ho;rw[aq (.inl rfl)]at ho;exact bF fun h=>by rw[aw h]at ho;simp at ho
 obtain⟨⟨m1,m2⟩,_⟩:=fJ;obtain⟨tA,rN,LG⟩:=kj h.chk h.t;have hrb:=vg (b:=true) h.t aa;have It:=DX (S:=o.1.toNat) aa true o.2.1 (dR o true L) L rN (kr _ _);have GU:(dR o true L).length≤L.length:=by unfold dR;have:=mU o.1.toNat (lens true L);rwa [et]at this
 have n1:=aT (x:=o.1.toNat) aa;have n2:=aT (x:=L.length) aa;have n3:=aT (x:=(dR o true L).length) aa;unfold qK tk;rw[du];simp only[aX,eh,sb,dY];omega
theorem Zb{o:aO}{L:List aH}(h:rQ L)(ho:cm 2 o=0):(p8 o L).length≤330000:=by
 obtain⟨fJ,he⟩:=CJ ho;obtain⟨⟨m1,m2⟩,_,m4,_,_⟩:=fJ;obtain⟨m5,m6⟩:=m4 (.inr rfl);have hb:=Ez (o:=o) h (by rw[he];exact ho) m5 m6;have n1:=aT (x:=o.1.toNat) aa;have n2:=aT (x:=o.2.2.1.toNat) aa;unfold p8 sr ou;rw[aX,du];simp only[aX,eh,sb,dY];omega
def uG(o:aO):Prop:=o.2.2.2.1≤8∧o.2.2.2.2.1≤8∧o.2.2.2.2.1≤4*o.2.2.2.1∧4≤o.2.2.2.2.2∧o.2.2.2.2.2≤100
theorem ZU{k m ch n:Nat}(hk:1≤k)(hm:m≤4*k)(hc:4≤ch)(Iw:k≤8)(hc2:ch≤100)(hn:n≤320000):jk k m ch n≤3500000∧zg k m ch n=0:=by
 have hD:1≤k*ch:=N' hk aa;have hD2:k*ch≤800:=gN Iw hc2;have h1:(k+m)*(ch+4)≤(5*k)*(2*ch):=gN aa aa;have h2:(5*k)*(2*ch)=10*(k*ch):=by
  rw[Nat.mul_mul_mul_comm]
 have h3:lJ k ch n*(k*ch)≤n+k*ch-1:=Nat.div_mul_le_self _ _;have h4:jk k m ch n≤3500000:=by
  unfold jk;have h5:lJ k ch n*((k+m)*(ch+4))≤lJ k ch n*(10*(k*ch)):=yk _ aa;have h6:lJ k ch n*(10*(k*ch))=10*(lJ k ch n*(k*ch)):=by
   rw[Nat.mul_left_comm]
  omega
 refine⟨h4,?_⟩;unfold zg;rw[aw aa,aw aa]
theorem On{o:aO}{L:List aH}(h:rQ L)(ho:cm 3 o=0)(hs:uG o):(dx o L).length≤320000∧(ij o (dx o L)).2=0∧(lf o (dx o L)).length≤4000000:=by
 obtain⟨fJ,h2⟩:=lR ho;obtain⟨_,m3,m4,_,_⟩:=fJ;obtain⟨⟨k1,k2⟩,⟨k3,k4⟩,⟨k5,k6⟩⟩:=m3 rfl;obtain⟨m5,m6⟩:=m4 (.inl rfl);obtain⟨s1,s2,s3,s4,s5⟩:=hs;have hb:=Ez (o:=o) h h2 m5 m6;obtain⟨z1,z2⟩:=ZU (k:=o.2.2.2.1.toNat) (m:=o.2.2.2.2.1.toNat) (ch:=o.2.2.2.2.2.toNat) (n:=(dx o L).length) aa aa aa aa aa hb;have hl:(ij o (dx o L)).2=0:=by
  unfold ij p7;rw[aw (by rw[z2];simp)]
 refine⟨hb,hl,?_⟩;have hA:=(Oh (k:=o.2.2.2.1.toNat) (m:=o.2.2.2.2.1.toNat) (ch:=o.2.2.2.2.2.toNat) (b:=dx o L) aa aa hl)
 have atU:(ij o (dx o L)).1.length≤3500000:=by
  unfold ij p7;rw[aw (by rw[z2];simp)];show(ug _ _ _ _ _).length≤_;rw[yr aa _ _ (uA (N' aa aa) _)];exact z1
 unfold lf;simp only[aX,FI];omega
structure LY(v:Int)(o:aO)(R:al×Int):Prop where
 e:R.2=cm v o
 none:R.2≠0→R.1=[]
 fits:R.2=0→Fits R.1∧R.1.length≤4000000
theorem EA{v:Int}{o:aO}{L:List aH}(h:rQ L)(hs:v=3→cm 3 o=0→uG o):LY v o (iW v o L):=by
 have hc:=h.chk;by_cases h1:v=1
 ·subst h1;show LY 1 o (tp o L);unfold tp;by_cases q:cm 1 o≠0
  ·rw[aq q];exact⟨rfl,fun _=>rfl,fun k=>absurd k q⟩
  ·have q':cm 1 o=0:=bF q;rw[aw q,aw aa];have:=Za h q';exact⟨q'.symm,fun k=>absurd rfl k,fun _=>⟨Fits.OG (by show(qK o L).length≤_;omega),by show(qK o L).length≤_;omega⟩⟩
 ·by_cases h2:v=2
  ·subst h2;show LY 2 o (vL o L);unfold vL;by_cases q:cm 2 o≠0
   ·rw[aq q];exact⟨rfl,fun _=>rfl,fun k=>absurd k q⟩
   ·have q':cm 2 o=0:=bF q;have hb:(fY o L).2=0:=by
     unfold fY;rw[(CJ q').2,aw q,aw aa]
    rw[aw q,aw aa];have:=Zb h q';exact⟨q'.symm,fun k=>absurd rfl k,fun _=>⟨Fits.OG (by show(p8 o L).length≤_;omega),by show(p8 o L).length≤_;omega⟩⟩
  ·by_cases h3:v=3
   ·subst h3;show LY 3 o (tv o L);by_cases q:cm 3 o=0
    ·obtain⟨b1,b2,b3⟩:=On h q (hs rfl q);have hb:(fY o L).2=0:=by
      unfold fY;rw[aw (by rw[(lR q).2];simp),aw aa]
     rw[Tr q aa aa];refine⟨q.symm,fun k=>absurd rfl k,fun _=>⟨⟨?_,?_,?_⟩,b3⟩⟩
     ·show(lf o (dx o L)).length≤_;omega
     ·intro k;refine absurd ?_ k;show fX (lf o (dx o L))=(3,0);unfold fX;rw[Jg,aw aA,aq (Px q b2)]
     ·show(dI (lf o (dx o L))).2.1.length≤_;rw[AZ q b2];show(dx o L).length≤_;omega
    ·rw[Tq q];exact⟨rfl,fun _=>rfl,fun k=>absurd k q⟩
   ·have e:iW v o L=([],4):=by unfold iW;rw[aw h1,aw h2,aw h3]
    have e2:cm v o=4:=by unfold cm;rw[aw aa]
    rw[e];exact⟨e2.symm,fun _=>rfl,fun k=>absurd k (show(4:Int)≠0 by decide)⟩
def CX:List aH:=[(5,1,[100,98],[100,105,115,107,32,102,117,108,108]),(3,0,[],[100,105,115,107,32,111,107])]
def P7(k:Nat):aO:=if k=0 then (64,false,0,0,0,0) else if k=1 then (64,false,2,0,0,0) else (64,false,2,2,1,16)
def alR:cV:=aO.cells (P7 0)++(aO.cells (P7 1)++aO.cells (P7 2))
theorem wx:rQ CX:=⟨aA,aA,by unfold CX;intro r hr;simp at hr;rcases hr with rfl|rfl<;>decide⟩
theorem ags{k:Nat}(hk:k<3):∃b nb,iW ((k+1:Nat):Int) (P7 k) CX=(b,0)∧Fits b∧vO b=((((k+1:Nat):Int),2,nb,0,true),0):=by
 have ho:cm ((k+1:Nat):Int) (P7 k)=0:=by
  have:k=0∨k=1∨k=2:=by omega
  rcases this with rfl|rfl|rfl<;>decide
 have hs:(((k+1:Nat):Int))=3→cm 3 (P7 k)=0→uG (P7 k):=fun q _=>by
  obtain rfl:k=2:=by omega
  unfold uG;decide
 have hp:=EA (v:=((k+1:Nat):Int)) (o:=P7 k) wx hs;have e:=hp.e;rw[ho]at e;obtain⟨f1,f2⟩:=hp.fits e;have hW:iW ((k+1:Nat):Int) (P7 k) CX=((iW ((k+1:Nat):Int) (P7 k) CX).1,0):=Prod.ext rfl e;obtain⟨nb,hR⟩:=Qz wx.t (fun _=>aa) hW;exact⟨_,nb,hW,f1,hR⟩
theorem ak'{k:Nat}(hk:k<3):∀q u,(aO.cells (P7 k))[q]? =some u→alR[k*6+q]? =some u:=fun q u h=>by
 have hq:q<6:=by
  have:=z6.1 h;obtain⟨h1,_⟩:=this;exact h1
 have:k=0∨k=1∨k=2:=by omega
 have h6:q=0∨q=1∨q=2∨q=3∨q=4∨q=5:=by omega
 rcases this with rfl|rfl|rfl<;>rcases h6 with rfl|rfl|rfl|rfl|rfl|rfl<;>exact h
theorem aaU(HT:bK B w0):a_ B w0 8 [] F (fun r L=>r= .bool true∧L=F):=by
 refine fw func8 57 [] ?_;refine bD ?_;refine ae (eG [(0,_),(1,_),(2,_),(3,_)] [_,_,_,_] rfl rfl ag) rfl ?_;refine ae (br [(0,_),(3,_)] [.int .u64 0,.int .u8 0,.string ⟨#[]⟩,.string ⟨#[]⟩] [0,3] [_,_,_,_] rfl rfl ag) rfl ?_;refine cH (mb (size:=4) (kk:=2) (parts:=[(0,.tmp 8),(1,.tmp 9)]) (us:=[(0,.agg (aH.cells (recAt CX 0)).toArray),(1,.agg (aH.cells (recAt CX 1)).toArray)]) (cs:=cU CX) (WD).ht ag aA aA aA (zv:=(.agg #[.int .u64 0,.int .u8 0,.string ByteArray.empty,.string ByteArray.empty])) ag rfl ag rfl) fun xq=>?_;refine bI ?_;refine ae (br [(0,_)] [ah 0,.bool false,ah 0,ah 0,ah 0,ah 0] [0] [_,_,_,_,_,_] rfl rfl ag) rfl ?_;refine ae (br [(0,_),(2,_)] [ah 0,.bool false,ah 0,ah 0,ah 0,ah 0] [0,2] [_,_,_,_,_,_] rfl rfl ag) rfl ?_;refine ae (br [(0,_),(2,_),(3,_),(4,_),(5,_)] [ah 0,.bool false,ah 0,ah 0,ah 0,ah 0] [0,2,3,4,5] [_,_,_,_,_,_] rfl rfl ag) rfl ?_;refine cH (mb (size:=6) (kk:=3) (parts:=[(0,.tmp 11),(1,.tmp 12),(2,.tmp 13)]) (us:=[(0,.agg (aO.cells (P7 0)).toArray),(1,.agg (aO.cells (P7 1)).toArray),(2,.agg (aO.cells (P7 2)).toArray)]) (cs:=alR) (aq7).ht ag aA aA aA (zv:=(.agg #[ah 0,.bool false,ah 0,ah 0,ah 0,ah 0])) ag rfl ag rfl) fun A14=>?_;refine bz ?_;refine aD (fun zf zL zm=>∃(k:Nat),(k≤3)∧3-k=zm∧Sub zf [(1,.slice xq 2 2),(2,.slice A14 3 3),(3,ah ((k+1:Nat):Int))]∧Wk zL (.own 23 6 A14 3 3 alR:: .own 62 4 xq 2 2 (cU CX)::F)) _ ⟨0,bS _,rfl,bm,.refl _⟩ ?_;rintro _ _ _ ⟨k,hk,rfl,hs,hp⟩;refine aU hs hp ?_;clear hs hp;refine bD ?_;refine aj (fun kH=>?_) fun kH=>?_
 ·obtain⟨b,nb,hP,hf,hR⟩:=ags (k:=k) aa;have x':=fun M (hb:aL B w0 M 4 (.slice xq 2 2) 2 (cU CX))=>wy (F:=M) (L:=CX) (v:=((k+1:Nat):Int)) (o:=P7 k) HT wx.t hb;simp only[hP]at x';have ya:=fun M Gn Ly (hb:fq B w0 M Gn Ly b)=>Xt (F:=M) HT hb hf;simp only[hR]at ya;have oB:=KT (((k+1:Nat):Int),2,nb,0,true);refine bP ?_;refine ae (dQ rfl rfl (r:=((k:Nat):Int)) ((bG aa aa).trans aa)) rfl ?_;refine ae (aG (i:=k) (size:=6) underlying63 ag rfl rfl rfl aa aB) rfl ?_;refine ae (dg 6 ag rfl aB aa (aO.cells (P7 k)) (ak' aa) rfl) rfl ?_;refine aE ?_;refine ay rfl (x' _ (aL.own (.tail _ (.head _)))) fun Gn Ly=>?_;refine bz ?_;refine ai rfl (ya _ _ _ (aL.own (.head _))) ?_;refine bH ?_;refine bg fun g6=>?_;refine be ?_;refine ve [1,2,3,5,6,7] ?_;refine bB ?_;refine aI rfl rfl rfl (fun D5=>?_) (fun D5=>?_)
  ·refine bI ?_;refine aI rfl rfl rfl (fun GN=>?_) (fun GN=>?_)
   ·refine b8 ?_;refine ae (jx rfl) rfl ?_;refine be ?_;refine nN rfl rfl rfl (fun Yo=>?_) (fun Yo=>?_)
    ·refine bP ?_;refine aI rfl rfl rfl (fun h52=>?_) (fun h52=>?_)
     ·refine bB ?_;refine ve [1,2,3,56] ?_;refine aE ?_;refine aj (fun Ru=>?_) fun Ru=>?_
      ·exfalso;exact Ru rfl
      ·refine bM ?_;refine av ⟨_,aa,k+1,aa,rfl,bm,.skip (.skip (.refl _))⟩
     ·exfalso;exact h52 rfl
    ·exfalso;simp at Yo
   ·exfalso;exact GN rfl
  ·exfalso;exact D5 rfl
 ·refine dm ?_;refine ao (.skip (.skip (.refl _))) ?_;refine aE ?_;exact⟨rfl,rfl⟩
end Go.Proofs.YtaodmbolhoafcaaGreatDoor

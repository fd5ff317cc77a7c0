/-
  Texts of one proof, joined: part 14. No condition.
-/
import Derived.Test.YtaodmbolhoafcaaGreatDoorZo13
open Go.RowKit Go.Proofs.Tryz
namespace Go.Proofs.YtaodmbolhoafcaaGreatDoor
set_option linter.unusedVariables false
set_option linter.unusedSimpArgs false
set_option maxRecDepth 20000
variable{B:Nat}{w0:World}{F L0:aQ}{A A1 A2 Ao:bj}{n c c1 c2 co g gc r k m N n2:Nat}
section
theorem mT{P:Program}{ops:Array Oper}{Q:Exit→Act→World→Prop}{md:Region.Mode}(ds:List Deferred):∀(fuel:Nat) (li:Array Bool) (a:Act) (w:World),wpAny P md ops Q fuel li a w→
  wpAny P md ops (fun e a' w'=>∃a0:Act,a'={a0 with defers:=a0.defers++ds}∧Q e a0 w') fuel li {a with defers:=a.defers++ds} w
 |0,li,a,w,h=>⟨h.1,a,rfl,h.2⟩
 |fuel+1,li,a,w,h=>by
  refine⟨fun hr=>⟨a,rfl,h.1 hr⟩,fun i hi=>?_⟩;have h:=h.2 i hi;unfold wpOp at h⊢;cases ho:ops[i]? with
  |none=>
   simp only[ho]at h⊢;exact mT ds fuel _ a w h
  |some o=>
   simp only[ho]at h⊢;by_cases hw:Region.wanted o (yielded ops a.tmps)=true
   ·rw[ao hw]at h;rw[ao (show Region.wanted o (yielded ops ({a with defers:=a.defers++ds}:Act).tmps)=true from hw)];rcases h with h|⟨h1,a1,w1,h2⟩
    ·refine .inl ?_;have he:({a with defers:=a.defers++ds}:Act).eval=a.eval:=rfl;unfold Oper.wp at h⊢;rw[he];generalize (execOp a.eval o).run P w=res at*;cases res with
     |ok x w'=>
      cases x<;>simp only[Oper.upon]at h⊢<;>first
       |(rw[put_defers];exact mT ds fuel _ _ _ h)
       |(
        refine Ku h fun e w'' he=>?_;cases e<;>dsimp only at he⊢<;>first
         |(rw[put_defers];exact mT ds fuel _ _ _ he)
         |exact⟨_,rfl,he⟩
         |(obtain⟨a1,w1,h2⟩:=he;exact⟨_,w1,a1,rfl,h2⟩))
       |exact Rows.mono h fun v w'' he=>by rw[put_defers];exact mT ds fuel _ _ _ he
       |(have h2:=mT ds fuel _ _ _ h;rw[←put_defers]at h2;exact h2)
     |halt x w'=>cases x<;>simp only[Oper.upon]at h⊢<;>first|exact⟨_,rfl,h⟩|exact h
    ·exact .inr ⟨h1,_,w1,a1,rfl,h2⟩
   ·rw[aw hw]at h;rw[aw (show¬Region.wanted o (yielded ops ({a with defers:=a.defers++ds}:Act).tmps)=true from hw),put_defers];exact mT ds fuel _ _ _ h
def MQ(D:Nat)(C:Cx)(Q:Exit→Fr→aQ→Prop):Exit→Act→World→Prop:=fun e a w=>∃fr L,a.defers=[mark D]∧pR C.N fr {a with defers:=[]}∧SL C.B C.w0 L w∧Q e fr L
def xj(C:Cx)(D:Nat)(c:Code)(Q:Exit→Fr→aQ→Prop)(fr:Fr)(L:aQ):Prop:=∀a w,a.defers=[mark D]→pR C.N fr {a with defers:=[]}→SL C.B C.w0 L w→c.wp C.P (MQ D C Q) a w
def TV(D:Nat)(C:Cx)(y:Code)(Q:Exit→Fr→aQ→Prop):Exit→Fr→aQ→Prop
 | .normal,fr,L=>xj C D y Q fr L
 |e,fr,L=>Q e fr L
section
variable{C:Cx}{D:Nat}{Q:Exit→Fr→aQ→Prop}{fr jC:Fr}{L L' S:aQ}{x y cd Ga:Code}
theorem akt{e:Exit}{a':Act}{w':World}(h:∃a0:Act,a'={a0 with defers:=a0.defers++[mark D]}∧lift C Q e a0 w'):MQ D C Q e a' w':=by
 obtain⟨a0,rfl,fr,L,ha,hs,hq⟩:=h;refine⟨fr,L,by simp[ha.defers],?_,hs,hq⟩;have e0:({({a0 with defers:=a0.defers++[mark D]}:Act)with defers:=[]}:Act)=a0:=by rw[←ha.defers]
 rw[e0];exact ha
theorem gE{id:Nat}{s8:sH}(h:VL C s8.toArray Q s8 fr L):xj C D (.region id s8.toArray false) Q fr L:=fun a w hd ha hs=>by
 have h1:=lK [mark D] s8 _ w (h {a with defers:=[]} w ha hs);rw[show({({a with defers:=[]}:Act)with defers:=({a with defers:=[]}:Act).defers++[mark D]}:Act)=a by rw[←hd];rfl]at h1;exact yj (wp_region_lit h1) fun e a w h=>akt h
theorem PJ{id:Nat}{l:sH}(hm:C.P.follows .mixedOrders=true)(hS:S.Sublist L)(h:VH C l.toArray S Q l.toArray.size (Array.replicate l.toArray.size false) fr L):xj C D (.region id l.toArray true) Q fr L:=fun a w hd ha hs=>by
 have h1:=mT [mark D] _ _ _ _ (wpAny_of_held _ _ _ _ (h {a with defers:=[]} _ ha (hs.drewN 1) ((hs.drewN 1).sub hS)));rw[show({({a with defers:=[]}:Act)with defers:=({a with defers:=[]}:Act).defers++[mark D]}:Act)=a by rw[←hd];rfl]at h1;refine yj (wp_region_any hm h1) fun e a w ⟨a0,h2,h3⟩=>akt ⟨a0,h2,NoPanic.imp _ _ _ h3⟩
theorem iU(h:xj C D x (TV D C y Q) fr L):xj C D (.seq x y) Q fr L:=fun a w hd ha hs=>by
 refine wp_seq (yj (h a w hd ha hs) fun e a w ⟨fr,L,hd,ha,hs,hq⟩=>?_);cases e<;>first|exact hq a w hd ha hs|exact⟨fr,L,hd,ha,hs,hq⟩
theorem Jj{id:Nat}(h:xj C D x (InB id Q) fr L):xj C D (.block id x) Q fr L:=fun a w hd ha hs=>by
 refine wp_block (yj (h a w hd ha hs) fun e a w ⟨fr,L,hd,ha,hs,hq⟩=>?_);cases e with
 |exit i=>
  unfold Exit.inBlock InB at*;simp only at hq⊢;split
  ·rename_i hi;rw[ao hi]at hq;exact⟨fr,L,hd,ha,hs,hq⟩
  ·rename_i hi;rw[aw hi]at hq;exact⟨fr,L,hd,ha,hs,hq⟩
 |_=>exact⟨fr,L,hd,ha,hs,hq⟩
theorem yX(h:Q .normal fr L):xj C D .skip Q fr L:=fun a w hd ha hs=>wp_skip ⟨fr,L,hd,ha,hs,h⟩
theorem af_{id:Nat}(h:Q (.exit id) fr L):xj C D (.exit id) Q fr L:=fun a w hd ha hs=>wp_exit ⟨fr,L,hd,ha,hs,h⟩
theorem yW(h:Q .ret fr L):xj C D .ret Q fr L:=fun a w hd ha hs=>wp_ret ⟨fr,L,hd,ha,hs,h⟩
theorem pR.arp{N:Nat}{a:Act}(h:pR N fr {a with defers:=[]}){o:Operand}{v:Value}(he:ev fr o=some v):a.eval o=v:=by
 have:=h.tmp he;exact this
theorem TC{c:Operand}(hc:ev fr c=some (.bool false))(h:xj C D y Q fr L):xj C D (.cond c x y) Q fr L:=fun a w hd ha hs=>wp_cond_false (ha.arp hc) (h a w hd ha hs)
theorem aaC{tt:Nat}{b:Bool}(hc:look tt fr=some (.bool b))(ht:b=true→xj C D cd Q ((tt,.bool true)::fr) L)(hf:b=false→xj C D Ga Q ((tt,.bool false)::fr) L):xj C D (.cond (.tmp tt) cd Ga) Q fr L:=fun a w hd ha hw=>
 wp_cond_split (ha.arp (o:=.tmp tt) hc) (fun h=>ht h a w hd (ha.bool hc h) hw) (fun h=>hf h a w hd (ha.bool hc h) hw)
theorem uO{tt:Nat}{p:Prop}[Decidable p](hc:look tt fr=some (.bool (decide p)))(ht:p→xj C D cd Q ((tt,.bool true)::fr) L)(hf:¬p→xj C D Ga Q ((tt,.bool false)::fr) L):xj C D (.cond (.tmp tt) cd Ga) Q fr L:=
 aaC hc (fun h=>ht (zW h)) (fun h=>hf (Y3 h))
theorem aaD(J:Fr→aQ→Nat→Prop)(n0:Nat)(h0:J fr L n0)(round:∀n fr L,J fr L n→xj C D cd (InJ J n Q) fr L):xj C D (.loop cd) Q fr L:=fun a w hd ha hw=>by
 refine wp_loop_ghost (fun n a w=>∃fr L,J fr L n∧a.defers=[mark D]∧pR C.N fr {a with defers:=[]}∧SL C.B C.w0 L w) n0 ⟨fr,L,h0,hd,ha,hw⟩ ?_;rintro n a w ⟨fr,L,hJ,hd,ha,hw⟩;refine yj (round n fr L hJ a w hd ha hw) fun e a w ⟨fr,L,hd,ha,hs,hq⟩=>?_;cases e with
 |normal=>
  obtain⟨n',k1,k2⟩:=hq;exact⟨n',k1,fr,L,k2,hd,ha,hs⟩
 |_=>exact⟨fr,L,hd,ha,hs,hq⟩
theorem dH(h:xj C D y Q fr L):TV D C y Q .normal fr L:=h
theorem S8{i:Nat}(h:Q (.exit i) fr L):TV D C y Q (.exit i) fr L:=h
theorem AX(h:Q .ret fr L):TV D C y Q .ret fr L:=h
theorem TD(jC:Fr)(hs:Sub fr jC)(h:xj C D x Q jC L):xj C D x Q fr L:=fun a w hd ha hw=>h a w hd (ha.sub hs) hw
theorem af'(hs:L.Perm L')(h:xj C D x Q fr L'):xj C D x Q fr L:=fun a w hd ha hw=>h a w hd ha (hw.perm hs)
theorem anZ(h:Wk L L')(k:xj C D x Q fr L'):xj C D x Q fr L:=fun a w hd ha hw=>k a w hd ha (h.sl hw)
theorem ajA{size nn c:Nat}{A:bj}{xs:cV}(hb:aK C.B C.w0 L size (.slice A nn c) nn xs)(h:nn≤c→xs.length=nn*size→xj C D x Q fr L):xj C D x Q fr L:=fun a w hd ha hw=>by
 obtain⟨A',c',e,h1,h2,_⟩:=hb w hw;injection e with e1 e2 e3;subst e3;exact h h1 h2 a w hd ha hw
def RM(D:Nat)(P:Program)(fn:Func)(R:qP):Exit→Fr→aQ→Prop
 | .ret,fr,L=>∃L',L.Perm (.obj D (.deferred (some []))::L')∧Cp P fn R .ret fr L'
 |_,_,_=>False
theorem aaB{fn:Func}{R:qP}{P:Program}{B N:Nat}{w0:World}{c:Code}(hN:fn.ntmps=N)(h:xj ⟨P,N,B,w0⟩ D c (RM D P fn R) fr L):VM ⟨P,N,B,w0⟩ D c (FG ⟨P,N,B,w0⟩ fn R) fr L:=fun a w hd ha hs=>by
 subst hN;refine yj (h a w hd ha hs) fun e a w ⟨fr,L,hd,ha,hs,hq⟩=>?_;cases e<;>first
  |exact hq.elim
  |obtain⟨L',hp,h⟩:=hq
   have Bz:=hs.perm hp;obtain⟨v,L'',h1,h2,h3⟩:=h B w0 _ _ ha Bz.afV;show LeavesInM _ _ _ _ _ _ a.defers _ _;rw[hd];exact⟨ak,.inl ⟨D,_,rfl,run_takeDeferred Bz.head.2,v,h1,v,L'',rfl,h2,h3⟩⟩
end
end
section
variable{ch:Nat}
theorem aoG{P:Prop}(h:P:=by(repeat (first|exact j9 _ (jb (f:=fq) he)|apply List.Mem.tail))):P:=h
theorem Ma{P:Prop}(h:P:=by(rw[E_])):P:=h
def JM(sz:Nat)(x:al)(i:Nat):al:=(x.drop (i*sz)).take sz
theorem My(sz p:Nat)(x:al):mH sz p x=(List.range p).map (JM sz x):=by
 rw[←pC (mH sz p x),kr];exact sb fun i hi=>xF sz p i x (kB.1 hi)
def gP(sz:Nat)(x:al)(ks:bf):eH:=ks.map fun i=>(aJ (JM sz x i)).1
def gG(sz:Nat)(x:al)(ks:bf):List Bool:=ks.map fun i=>decide ((aJ (JM sz x i)).2=0)
theorem aeu(k m ch:Nat)(x:al):rdP k m ch x=gP (ch+4) x (List.range (k+m)):=by unfold rdP gP;rw[My,vH];rfl
theorem E_(k m ch:Nat)(x:al):OP k m ch x=gG (ch+4) x (List.range (k+m)):=by unfold OP gG;rw[My,vH];rfl
theorem SG(a:Nat)(l:List Bool)(b:Bool):dP a (l++[b])=dP a l++(if b=true then [] else [a+l.length]):=by
 unfold dP;rw[aY,qe,lq,Es,ja];congr 1
 ·congr 1;refine List.filter_congr fun i hi=>?_;have:=kB.1 hi;simp[bk,z7 this]
 ·cases b<;>simp[bk]
theorem adW{q:Ch}{PB:List kS}(h:q.isObj=true):q∈PB.map fq++F↔q∈F:=by
 refine⟨fun hq=>?_,nF _⟩;rcases dz.1 hq with hq|hq
 ·obtain⟨e,_,rfl⟩:=pQ.1 hq;cases h
 ·exact hq
theorem Dv{x:al}(h:(aJ x).2=0):(aJ x).1.length=x.length-4:=by
 unfold aJ at h⊢;by_cases h1:x.length<4
 ·rw[ao h1]at h;simp at h
 ·rw[aw h1]at h⊢;by_cases h2:x.drop (x.length-4)=my (pT 0 (x.take (x.length-4)))
  ·rw[ao h2];simp
  ·rw[aw h2]at h;simp at h
theorem bL.later{w1:World}(h:bL B w0)(hb:Below B w0 w1):bL B w1:=aK.later h hb
theorem Bt{m:Nat}:∀PB:List kS,(∀e∈PB,e.2.2.length≤m)→(PB.map (·.2.2)).flatten.length≤m*PB.length
 |[],_=>by simp
 |e::r,h=>by
  have h1:=h e ak;have h2:=Bt r fun x hx=>h x oe;simp only[kC,wm,aY,ef,ue,cE];omega
theorem Q8(k m:Nat)(good:List Bool):∀i∈dG k good,i∈dG (k+m) good:=fun i hi=>by
 unfold dG at hi⊢;have e:k=min k (k+m):=by omega
 rw[e,←Iz]at hi;exact l6 hi
theorem Si{parts:eH}{good:List Bool}{n:Nat}(hk:1≤k)(ha:∀b∈iu (k+m) parts good,b.length=n)(h0:(qn k m parts good).2=0):(qn k m parts good).1.length=k+m∧∀b∈(qn k m parts good).1,b.length=n:=by
 unfold qn at h0⊢;by_cases h1:¬rS (iu (k+m) parts good)
 ·rw[ao h1]at h0;simp at h0
 ·rw[aw h1]at h0⊢;by_cases h2:(iu (k+m) parts good).length<k
  ·rw[ao h2]at h0;simp at h0
  ·rw[aw h2];have l9:(dG k good).length=k:=by
    unfold iu at h2;rw[eK]at h2;unfold dG at h2⊢;rw[eS]at h2⊢;omega
   obtain⟨d1,d2⟩:=Sh (m:=m) (n:=n) (parts:=parts) (good:=good) aa (fun b hb=>by
    obtain⟨i,hi,rfl⟩:=pQ.1 hb;exact ha _ (jb (f:=fun i=>parts.getD i []) (Q8 k m good i hi))) l9
   refine⟨by rw[aY,nc,d1],fun b hb=>?_⟩;rcases dz.1 hb with hb|hb
   ·exact d2 b hb
   ·exact yF aa d2 b hb
theorem Fu{x:al}(hk:1≤k)(hx:x.length=(k+m)*(ch+4))(h0:(BR k m ch x).2=0):(BR k m ch x).1.length=k+m∧∀b∈(BR k m ch x).1,b.length=ch:=by
 refine Si hk (fun b hb=>?_) h0;obtain⟨i,hi,rfl⟩:=pQ.1 hb;obtain⟨h1,h2⟩:=zC i hi;rw[E_]at h1 h2;have hik:i<k+m:=by simpa[gG]using h1
 have hr:=fL (k:=ch+4) hik;rw[aeu];simp only[gG,gP,bk,jq,ye hik,sS,vI]at h2⊢;rw[Dv oS];unfold JM;rw[eS,iG,hx];omega
def StA(k m ch:Nat)(x out:al)(bad:bf)(at_ g:Nat)(F:aQ)(v:Value)(L:aQ):Prop:=
 ∃(Ao:bj) (co:Nat) (Ab:bj) (cb:Nat) (ait:al),v=ah (LM k m ch x)∧
  L=Gn g k m ch (.slice Ao ait.length co) (.slice Ab (bad++dP at_ (OP k m ch x)).length cb) (at_+(k+m)):: .own 5 1 Ao ait.length co (bv ait):: .own 3 1 Ab (bad++dP at_ (OP k m ch x)).length cb (bx (bad++dP at_ (OP k m ch x)))::F∧
  (LM k m ch x=0→ait=out++((BR k m ch x).1.take k).flatten)
set_option maxHeartbeats 2000000 in
theorem ae2(HT:bL B w0)(h:Gp k m ch){x out:al}{bad:bf}{at_:Nat}(Qc:x.length=(k+m)*(ch+4))(hxc:x.length≤c)(hx:aK B w0 F 1 (.slice A x.length c) x.length (bv x))(GJ:at_≤100000000)(de:bad.length≤100000000)(Kl:out.length≤100000000):
  a_ B w0 198 [br g,.slice A x.length c] (Gn g k m ch (.slice Ao out.length co) (.slice A1 bad.length c1) at_:: .own 5 1 Ao out.length co (bv out):: .own 3 1 A1 bad.length c1 (bx bad)::F) (StA k m ch x out bad at_ g F):=by
 obtain⟨k1,km,ch1,ch2⟩:=h;have h:Gp k m ch:=⟨k1,km,ch1,ch2⟩
 have Ge:=h.laid;have hN:gR (ch+4) x.length=k+m:=by rw[Qc];exact Um aa
 have acN:LM k m ch x=(if (BR k m ch x).2≠0 then (BR k m ch x).2 else @ite _ (xd k m ch x) (Classical.propDecidable _) 2 0):=rfl;have hsr:BR k m ch x=qn k m (gP (ch+4) x (List.range (k+m))) (gG (ch+4) x (List.range (k+m))):=by unfold BR;rw[aeu,E_]
 refine xX func198 93 rfl rfl rfl [(0,br g),(1,.slice A x.length c)] ⟨⟨rfl,rfl⟩,⟨rfl,rfl⟩,trivial⟩ ?_;refine qL ?_;refine aF ?_;refine bh fun g2=>?_;refine be ?_;refine lF ?_;refine qL ?_;refine aF ?_;refine bc fun g5=>?_;refine aF ?_;refine lF ?_;refine qL ?_;refine aF ?_;refine bc fun g6=>?_;refine aF ?_;refine lF ?_;refine Lf ?_;refine aZ 27 1 none ?_;refine aZ 4 1 none ?_;refine bK ?_;refine ab (bX rfl rfl (r:=((ch+4:Nat):Int)) ((bF aa aa).trans aa)) rfl ?_;refine ay rfl (MB (sz:=ch+4) aa) fun gp gq=>?_;refine aF ?_;refine lF ?_;refine FV (N:=gR (ch+4) x.length) ajT rfl rfl rfl (fun i:Fin (gR (ch+4) x.length)=>Gu A (ch+4) x.length i.val) (fun xs=>xs.map (·.val)=List.range (gR (ch+4) x.length)) (fun _=>True) [.bE gp 27 [.slice A x.length c],.bE gq 3 [ah ((ch+4:Nat):Int)]]
  (fun w hw=>xI aa aa aa hxc (fun e=>aoy) w (hw.all _ (lr _ rn)) (hw.all _ rn))
  (fun(pre:List (Fin (gR (ch+4) x.length))) (s:(bj×Nat)×(bj×Nat)×(bj×Nat)×List kS)=>s.2.2.2.map (·.2.2)=gP (ch+4) x (pre.map (·.val))) (fun pre s=>.bE gq 3 [ah ((ch+4:Nat):Int)]:: .bE gp 27 [.slice A x.length c]:: .own 4 1 s.1.1 (gG (ch+4) x (pre.map (·.val))).length s.1.2 (sM (gG (ch+4) x (pre.map (·.val)))):: .own 27 1 s.2.1.1 s.2.2.2.length s.2.1.2 ((s.2.2.2).map dq):: .bE g6 186 [.slice s.1.1 (gG (ch+4) x (pre.map (·.val))).length s.1.2]:: .bE g5 52 [.slice s.2.1.1 (s.2.2.2).length s.2.1.2]:: .bE g2 278 [br g]::Gn g k m ch (.slice Ao out.length co) (.slice s.2.2.1.1 (bad++dP at_ (gG (ch+4) x (pre.map (·.val)))).length s.2.2.1.2) (at_+pre.length):: .own 5 1 Ao out.length co (bv out):: .own 3 1 s.2.2.1.1 (bad++dP at_ (gG (ch+4) x (pre.map (·.val)))).length s.2.2.1.2 (bx (bad++dP at_ (gG (ch+4) x (pre.map (·.val)))))::(s.2.2.2.map fq++F))
  (fun pre s q hq=>by simp only[KN hq,KM hq,adW hq]) (fun q hq=>by
   simp only[fk,mv,oj]at hq;rcases hq with rfl|rfl
   ·exact⟨rfl,fun pre s=>lr _ rn⟩
   ·exact⟨rfl,fun pre s=>rn⟩)
  ((none,0),(none,0),(A1,c1),[]) rfl (.trans ((ed (ed (ed (ed (ed (ed (ed (ed (ed (ed (.refl _)))))))))))) (.cons (.cons (ax rfl rfl (ax rfl rfl (bq rfl (bq rfl (.cons (bq (by simp[gG,dP]) (.cons (ax (by simp[gG,dP]) (by simp[gG,dP]) (.refl _)))))))))))) ?_ ?_
 ·rintro l' pre y ⟨⟨Ag,cg⟩,⟨Ap,cp⟩,⟨Ab,cb⟩,PB⟩ w1 lj mN acI F';have RF:pre.length<k+m:=Nat.lt_of_lt_of_eq mN hN;have hy:y.val<k+m:=Nat.lt_of_lt_of_eq y.isLt hN;have hyl:=fL (k:=ch+4) hy;have ate:y.val*(ch+4)+(ch+4)≤x.length:=jc hyl (Nat.le_of_eq Qc.symm);have Vf:(JM (ch+4) x y.val).length=ch+4:=by unfold JM;rw[eS,iG];omega
  have hbx:aK B w1 (PB.map fq++(F++F')) 1 (.slice (A.map (·.add (y.val*(ch+4)))) (JM (ch+4) x y.val).length (ch+4)) (JM (ch+4) x y.val).length (bv (JM (ch+4) x y.val)):=by
   rw[Vf];exact((Uj hx aa ate).later acI).mono (.trans (vJ F F') (gx _ _))
  have hvX:Gu A (ch+4) x.length y.val= .slice (A.map (·.add (y.val*(ch+4)))) (JM (ch+4) x y.val).length (ch+4):=by
   unfold Gu xn;rw[Vf,show min (ch+4) (x.length-y.val*(ch+4))=ch+4 by omega]
  have hmp:(pre++[y]).map (·.val)=pre.map (·.val)++[y.val]:=by simp
  have y':(pre++[y]).length=pre.length+1:=by simp
  have P8:gG (ch+4) x (pre.map (·.val)++[y.val])=gG (ch+4) x (pre.map (·.val))++[decide ((aJ (JM (ch+4) x y.val)).2=0)]:=by simp[gG]
  have hps:gP (ch+4) x (pre.map (·.val)++[y.val])=gP (ch+4) x (pre.map (·.val))++[(aJ (JM (ch+4) x y.val)).1]:=by simp[gP]
  have GM:(gG (ch+4) x (pre.map (·.val))).length=pre.length:=by simp[gG]
  have D9:PB.length=pre.length:=by have:=dB List.length lj;simpa[gP]using this
  have P4:bad++dP at_ (gG (ch+4) x (pre.map (·.val))++[decide ((aJ (JM (ch+4) x y.val)).2=0)])=B6 (JM (ch+4) x y.val) (at_+pre.length) (bad++dP at_ (gG (ch+4) x (pre.map (·.val)))):=by
   rw[SG,GM];unfold B6;by_cases hz:(aJ (JM (ch+4) x y.val)).2=0
   ·rw[ao vP,aw vP,gj]
   ·rw[aw vP,ao hz,bV]
  have aso:(bad++dP at_ (gG (ch+4) x (pre.map (·.val)))).length≤100000000+(k+m):=by
   have:=BG (fun i=> !(gG (ch+4) x (pre.map (·.val))).getD i false) (List.range (gG (ch+4) x (pre.map (·.val))).length);rw[wk]at this;rw[aY];unfold dP;rw[eK];omega
  simp only[hmp,y',P4,P8,hps,hvX,nI,bV];generalize gG (ch+4) x (pre.map (·.val))=GG at*;obtain⟨BD,hBD⟩:=cK (bad++dP at_ GG);rw[←hBD]at aso⊢;refine FY ?_;refine Lg ?_;refine nm ag ?_;refine be ?_;refine aX apm rfl (.perm (ane (HT.later acI) (k:=k) (m:=m) (ch:=ch) (vo:=.slice Ao out.length co) (bad:=BD) (at_:=at_+pre.length) (x:=JM (ch+4) x y.val) (by repeat (first|exact hbx|apply aK.cons)) aa aa aa) ((pu7 (pu8 (fR (fR (fR (fR (fR (fR (fR (fR (.refl _))))))))))))) rfl ?_;rintro _ _ ⟨tc,Bn,Hc,Ms,rfl,cA⟩;obtain rfl:=cA.symm;refine bG ?_;refine ve [5,6,8,9] ?_;refine nq ?_;refine Lg ?_;refine nm ag ?_;refine be ?_;refine dF fE rfl rfl rfl rfl rfl (fun _=>rfl) aV aa aa ?_;intro _ LO Mt;refine be ?_;refine nq ?_;refine nm ag ?_;refine be ?_;refine dF SW rfl rfl rfl rfl rfl (fun _=>rfl) aV aa aa ?_;intro _ A36 c36;refine be ?_;refine nq ?_;refine⟨((A36,c36),(LO,Mt),(Hc,Ms),PB++[((tc,Bn,(aJ (JM (ch+4) x y.val)).1):kS)]),by rw[ja,lj];rfl,?_⟩;refine .trans ((tF (tF (tF (tF (tF (tF (tF (gk (rQ (gk (ed (.refl _))))))))))))) ?_;exact .cons (.cons (ax ak (by simp[sM]) (ax ak ak (bq ak (bq ak (.cons (.cons (.cons (.cons (qv (PB:=PB) (F:=F++F') (e:=((tc,Bn,(aJ (JM (ch+4) x y.val)).1):kS)) []))))))))))
 ·rintro D xs ⟨⟨Ag,cg⟩,⟨Ap,cp⟩,⟨Ab,cb⟩,PB⟩ hS lj;have e:List.range (gR (ch+4) x.length)=List.range (k+m):=dB List.range hN;have Rx:=hS.trans e;have atb:xs.length=k+m:=by have:=dB List.length Rx;simpa using this
  rw[Rx]at lj;have D9:PB.length=k+m:=by have:=dB List.length lj;simpa[gP]using this
  simp only[Rx,atb];have hGl:(gG (ch+4) x (List.range (k+m))).length=k+m:=by simp[gG]
  have Is:∀i,i<k+m→(gG (ch+4) x (List.range (k+m))).getD i false=true→(PB.getD i iQ).2.2.length=ch:=fun i hi hg=>by
   have hr:=fL (k:=ch+4) hi;rw[←EV,lj];simp only[gG,gP,bk,jq,ye hi,sS,vI]at hg⊢;rw[Dv (by simpa using hg)];unfold JM;rw[eS,iG,Qc];omega
  have tX:bad++dP at_ (gG (ch+4) x (List.range (k+m)))=bad++dP at_ (OP k m ch x):=by rw[E_]
  refine aaB rfl ?_;refine iU ?_;refine PJ (S:=.obj D (.deferred (some [])):: .bE gq 3 [ah ((ch+4:Nat):Int)]:: .bE gp 27 [.slice A x.length c]:: .own 4 1 Ag (gG (ch+4) x (List.range (k+m))).length cg (sM (gG (ch+4) x (List.range (k+m)))):: .own 27 1 Ap PB.length cp ((PB).map dq):: .bE g6 186 [.slice Ag (gG (ch+4) x (List.range (k+m))).length cg]:: .bE g5 52 [.slice Ap (PB).length cp]:: .bE g2 278 [br g]::Gn g k m ch (.slice Ao out.length co) (.slice Ab (bad++dP at_ (gG (ch+4) x (List.range (k+m)))).length cb) (at_+(k+m)):: .own 5 1 Ao out.length co (bv out):: .own 3 1 Ab (bad++dP at_ (gG (ch+4) x (List.range (k+m)))).length cb (bx (bad++dP at_ (gG (ch+4) x (List.range (k+m)))))::(PB.map fq++F)) ag gD ?_;refine ae 0 ?_;refine ae 1 ?_;refine ae 2 ?_;refine ae 3 ?_;refine ae 4 ?_;refine ae 5 ?_;refine ae 6 ?_;refine ae 7 ?_;refine ae 8 ?_;refine ae 9 ?_;refine ae 10 ?_;refine ae 11 ?_;refine az 12 ?_;refine gz rfl .no apn rfl (aeF (PB:=PB) (good:=gG (ch+4) x (List.range (k+m))) (nn:=ch) k1 km D9 hGl aa Is aA (fun e he=>aK.own aoG) aA) rfl (by rintro _ _ ⟨BY,F_,FB,rfl,rfl,sP⟩;exact gD) ?_;rintro _ _ ⟨BY,F_,FB,rfl,cA,sP⟩;obtain rfl:=cA.symm;refine ae 13 ?_;refine ae 14 ?_;refine ae 15 ?_;refine ae 16 ?_;refine ae 17 ?_;refine cQ [2,5,6,10,11] ?_;refine dH ?_;refine iU ?_;refine iU ?_;rw[lj,←hsr]at sP⊢;refine gE ?_;refine bA ?_;refine dH ?_;refine uO rfl (fun h54=>?_) (fun h54=>?_)
  ·refine iU ?_;refine gE ?_;refine bA ?_;refine dH ?_;refine yW ?_;refine AX ?_;refine⟨_,(List.perm_middle.cons _).trans (.swap ..),?_⟩;refine aq (.skip ((dv _ _).trans (.skip (.skip (.skip (.skip (.skip (.skip (.skip (.cons (.cons (.cons (dv _ _))))))))))))) ?_;have eE:LM k m ch x=(BR k m ch x).2:=by rw[acN,ao h54]
   refine aF ?_;exact⟨Ao,co,Ab,cb,out,by rw[eE],Ma,fun k=>absurd (eE.symm.trans k) h54⟩
  ·have e0:(BR k m ch x).2=0:=bH h54;obtain⟨k_,jF⟩:=Fu k1 Qc e0;have Rg:FB.length=k+m:=by have:=dB List.length sP;rw[eK]at this;omega
   have hFe:∀e∈FB,e.2.2.length=ch:=fun e he=>jF _ (sP▸jb (f:=fun y:kS=>y.2.2) he);refine af' (om (_::FB.map fq) [_,_,_,_,_,_,_,_,_,_,_] _) ?_;simp only[nI,nG];have q_:xd k m ch x↔∃i,i<FB.length∧(gG (ch+4) x (List.range (k+m))).getD i false=true∧(FB.getD i iQ).2.2≠(PB.getD i iQ).2.2:=by
    unfold xd;rw[←sP,E_,aeu,←lj,eK];simp only[EV]
   refine yX ?_;refine dH ?_;refine iU ?_;refine iU ?_;refine gE ?_;refine b8 ?_;refine dH ?_;refine Jj ?_;refine aaD (fun zf zL zm=>∃(i:Nat),(i≤FB.length∧∀j,j<i→¬((gG (ch+4) x (List.range (k+m))).getD j false=true∧(FB.getD j iQ).2.2≠(PB.getD j iQ).2.2))∧FB.length-i=zm∧Sub zf [(2,br g2),(5,br g5),(6,br g6),(10,.slice BY FB.length F_),(56,.slice BY FB.length F_),(57,ah FB.length),(58,ah (i:Int))]∧Wk zL (.obj D (.deferred (some [])):: .bE gq 3 [ah ((ch+4:Nat):Int)]:: .bE gp 27 [.slice A x.length c]:: .own 4 1 Ag (gG (ch+4) x (List.range (k+m))).length cg (sM (gG (ch+4) x (List.range (k+m)))):: .own 27 1 Ap PB.length cp ((PB).map dq):: .bE g6 186 [.slice Ag (gG (ch+4) x (List.range (k+m))).length cg]:: .bE g5 52 [.slice Ap (PB).length cp]:: .bE g2 278 [br g]::Gn g k m ch (.slice Ao out.length co) (.slice Ab (bad++dP at_ (gG (ch+4) x (List.range (k+m)))).length cb) (at_+(k+m)):: .own 5 1 Ao out.length co (bv out):: .own 3 1 Ab (bad++dP at_ (gG (ch+4) x (List.range (k+m)))).length cb (bx (bad++dP at_ (gG (ch+4) x (List.range (k+m))))):: .own 27 1 BY FB.length F_ (FB.map dq)::(FB.map fq++(PB.map fq++F)))) _ ⟨0,⟨bS _,fun j hj=>aa⟩,rfl,bp,.refl _⟩ ?_;rintro _ _ _ ⟨i,⟨hi,ND⟩,rfl,hs,hp⟩;refine TD _ hs (anZ hp ?_);clear hs hp;refine iU ?_;refine gE ?_;refine be ?_;refine dH ?_;refine iU ?_;refine uO rfl (fun h59=>?_) (fun h59=>?_)
   ·have hgF:=G2 (PB:=FB) (i:=i) aa;have hgP:=G2 (PB:=PB) (i:=i) aa;have hmF:=bg (l:=FB) (show i<FB.length by omega) iQ;have hmP:=bg (l:=PB) (show i<PB.length by omega) iQ;obtain⟨P,hP⟩:=cK (FB.getD i iQ);obtain⟨Q,hQ⟩:=cK (PB.getD i iQ);rw[←hP]at hgF hmF;rw[←hQ]at hgP hmP;have hlP:=hFe P hmF;refine yX ?_;refine dH ?_;refine iU ?_;refine Jj ?_;refine iU ?_;refine gE ?_;refine be ?_;refine ab (au ag rfl aA aa hgF) rfl ?_;refine bA ?_;refine dH ?_;refine iU ?_;refine gE ?_;refine bG ?_;refine kK rfl rfl rfl (fun Vb=>?_) (fun Vb=>?_)
    ·refine bI ?_;refine ab (au ag rfl aA aa hgP) rfl ?_;refine aF ?_;refine ai rfl (ab2 (l:=P.2.2) (l2:=Q.2.2) rfl rfl rfl rfl (aK.own (by repeat (first|exact j9 _ (jb (f:=fq) hmF)|apply List.Mem.tail))) (aK.own (by repeat (first|exact nF _ (j9 _ (jb (f:=fq) hmP))|apply List.Mem.tail))) aa) ?_;refine bA ?_;refine ve [2,5,6,10,56,57,58,75] ?_;refine dH ?_;refine uO rfl (fun h75=>?_) (fun h75=>?_)
     ·have eE:LM k m ch x=2:=by
       have hu:xd k m ch x:=q_.2 ⟨i,aa,Vb,by rw[←hP,←hQ];exact h75⟩;rw[acN,aw aa,ao hu]
      refine iU ?_;refine gE ?_;refine be ?_;refine dH ?_;refine yW ?_;refine aF ?_;refine AX ?_;refine be ?_;refine AX ?_;refine⟨_,.refl _,?_⟩;refine aq (.skip (.skip (.skip (.skip (.skip (.skip (.skip (.cons (.cons (.cons (.skip ((dv _ _).trans (dv _ _))))))))))))) ?_;refine aF ?_;exact⟨Ao,co,Ab,cb,out,by rw[eE],Ma,fun k=>absurd (eE.symm.trans k) aB⟩
     ·refine yX ?_;refine aF ?_;refine dH ?_;refine gE ?_;refine bA ?_;refine av ⟨_,aa,i+1,⟨aa,fun j hj=>by
       by_cases e:j=i
       ·subst e;rw[←hP,←hQ];rintro⟨u1,u2⟩;first|exact h75 u2|(rw[Vb]at u1;cases u1)
       ·exact ND j aa⟩,rfl,bp,.refl _⟩
    ·refine bK ?_;refine ve [2,5,6,10,56,57,58,75] ?_;refine dH ?_;refine TC rfl ?_;refine yX ?_;refine aF ?_;refine dH ?_;refine gE ?_;refine bA ?_;refine av ⟨_,aa,i+1,⟨aa,fun j hj=>by
      by_cases e:j=i
      ·subst e;rw[←hP,←hQ];rintro⟨u1,u2⟩;first|exact h75 u2|(rw[Vb]at u1;cases u1)
      ·exact ND j aa⟩,rfl,bp,.refl _⟩
   ·have hie:i=FB.length:=by omega
    have eE:LM k m ch x=0:=by
     have hu:¬xd k m ch x:=fun hh=>by
      obtain⟨j,hj,u1,u2⟩:=q_.1 hh;exact ND j aa ⟨u1,u2⟩
     rw[acN,aw aa,aw hu]
    refine ajA (A:=BY) (nn:=FB.length) (c:=F_) (size:=1) (xs:=FB.map dq) aA fun hcF _=>?_;have Rs:aK B w0 (.obj D (.deferred (some [])):: .bE gq 3 [ah ((ch+4:Nat):Int)]:: .bE gp 27 [.slice A x.length c]:: .own 4 1 Ag (gG (ch+4) x (List.range (k+m))).length cg (sM (gG (ch+4) x (List.range (k+m)))):: .own 27 1 Ap PB.length cp ((PB).map dq):: .bE g6 186 [.slice Ag (gG (ch+4) x (List.range (k+m))).length cg]:: .bE g5 52 [.slice Ap (PB).length cp]:: .bE g2 278 [br g]::Gn g k m ch (.slice Ao out.length co) (.slice Ab (bad++dP at_ (gG (ch+4) x (List.range (k+m)))).length cb) (at_+(k+m)):: .own 5 1 Ao out.length co (bv out):: .own 3 1 Ab (bad++dP at_ (gG (ch+4) x (List.range (k+m)))).length cb (bx (bad++dP at_ (gG (ch+4) x (List.range (k+m))))):: .own 27 1 BY FB.length F_ (FB.map dq)::(FB.map fq++(PB.map fq++F))) 1 (.slice BY k F_) k (OL (FB.take k)).Co:=by
     have h1:aK B w0 (.obj D (.deferred (some [])):: .bE gq 3 [ah ((ch+4:Nat):Int)]:: .bE gp 27 [.slice A x.length c]:: .own 4 1 Ag (gG (ch+4) x (List.range (k+m))).length cg (sM (gG (ch+4) x (List.range (k+m)))):: .own 27 1 Ap PB.length cp ((PB).map dq):: .bE g6 186 [.slice Ag (gG (ch+4) x (List.range (k+m))).length cg]:: .bE g5 52 [.slice Ap (PB).length cp]:: .bE g2 278 [br g]::Gn g k m ch (.slice Ao out.length co) (.slice Ab (bad++dP at_ (gG (ch+4) x (List.range (k+m)))).length cb) (at_+(k+m)):: .own 5 1 Ao out.length co (bv out):: .own 3 1 Ab (bad++dP at_ (gG (ch+4) x (List.range (k+m)))).length cb (bx (bad++dP at_ (gG (ch+4) x (List.range (k+m))))):: .own 27 1 BY FB.length F_ (FB.map dq)::(FB.map fq++(PB.map fq++F))) 1 (.slice BY FB.length F_) FB.length (FB.map dq):=aA;have h2:=h1.iY (k:=k) aa;rw[cE,←pt,←E2 (FB.take k)]at h2;exact h2
    have hcr:∀y∈OL (FB.take k),aK B w0 (.obj D (.deferred (some [])):: .bE gq 3 [ah ((ch+4:Nat):Int)]:: .bE gp 27 [.slice A x.length c]:: .own 4 1 Ag (gG (ch+4) x (List.range (k+m))).length cg (sM (gG (ch+4) x (List.range (k+m)))):: .own 27 1 Ap PB.length cp ((PB).map dq):: .bE g6 186 [.slice Ag (gG (ch+4) x (List.range (k+m))).length cg]:: .bE g5 52 [.slice Ap (PB).length cp]:: .bE g2 278 [br g]::Gn g k m ch (.slice Ao out.length co) (.slice Ab (bad++dP at_ (gG (ch+4) x (List.range (k+m)))).length cb) (at_+(k+m)):: .own 5 1 Ao out.length co (bv out):: .own 3 1 Ab (bad++dP at_ (gG (ch+4) x (List.range (k+m)))).length cb (bx (bad++dP at_ (gG (ch+4) x (List.range (k+m))))):: .own 27 1 BY FB.length F_ (FB.map dq)::(FB.map fq++(PB.map fq++F))) 1 y.1 y.2.length (bv y.2):=fun y hy=>by
     obtain⟨e,he,rfl⟩:=pQ.1 hy;have he:=l6 he;exact aK.own aoG
    have hz:(OL (FB.take k)).all=((BR k m ch x).1.take k).flatten:=by rw[CM,pt,sP]
    have hzl:((BR k m ch x).1.take k).flatten.length≤2000000:=by
     rw[←hz,CM];have:=Bt (m:=ch) (FB.take k) (fun e he=>Nat.le_of_eq (hFe e (l6 he)));have h3:(FB.take k).length=k:=by rw[eS];omega
     rw[h3]at this;have h4:ch*k≤4096*255:=gL ch2 aa;omega
    obtain⟨z,hzz⟩:=cK (((BR k m ch x).1.take k).flatten);rw[←hzz]at hz hzl;have hoz:(out++z).length=out.length+z.length:=aY;refine af_ ?_;refine S8 ?_;refine be ?_;refine dH ?_;refine iU ?_;refine PJ (S:=([.bE g2 278 [br g]]:aQ)) ag gD ?_;refine ae 0 ?_;refine ae 1 ?_;refine ae 2 ?_;refine ae 3 ?_;refine ae 5 ?_;refine ae 6 ?_;refine ae 7 ?_;refine ae 8 ?_;refine ae 9 ?_;refine gS 4 10 ?_ ?_
    ·refine aF ?_;refine az 10 ?_;refine aF ?_;refine aW 11 rfl (bN (i:=k) (size:=1) underlying52 ag rfl rfl rfl aa) ?_;refine az 12 ?_;refine b7 rfl rfl (zp (P:=OL (FB.take k)) (l:=z) Rs hcr Bk hz aa Bk) fun A89 c89=>?_;refine az 13 ?_;refine eV rfl (bT cD rfl aV rfl aA cw aa aa) fun A90 c90=>?_;refine ae 14 ?_;refine ae 15 ?_;refine az 16 ?_;refine aF ?_;refine cQ [] ?_;refine dH ?_;refine iU ?_;refine gE ?_;refine be ?_;refine dH ?_;refine yW ?_;refine⟨_,.swap ..,?_⟩;refine aq (L':=Gn g k m ch (.slice A90 (out++z).length c90) (.slice Ab (bad++dP at_ (gG (ch+4) x (List.range (k+m)))).length cb) (at_+(k+m)):: .own 5 1 A90 (out++z).length c90 (bv (out++z)):: .own 3 1 Ab (bad++dP at_ (gG (ch+4) x (List.range (k+m)))).length cb (bx (bad++dP at_ (gG (ch+4) x (List.range (k+m)))))::F) (.skip (.skip (.skip (.skip (.skip (.skip (.skip (.skip (bq (by rw[hoz];rfl) (ax (by rw[hoz]) ak (.cons (.skip ((dv _ _).trans (dv _ _)))))))))))))) ?_;refine aF ?_;exact⟨A90,c90,Ab,cb,out++z,by rw[eE],Ma,fun _=>by rw[hzz]⟩
    ·refine aF ?_;refine aW 11 rfl (bN (i:=k) (size:=1) underlying52 ag rfl rfl rfl aa) ?_;refine gS 4 12 ?_ ?_
     ·refine aF ?_;refine az 12 ?_;refine b7 rfl rfl (zp (P:=OL (FB.take k)) (l:=z) Rs hcr Bk hz aa Bk) fun A89 c89=>?_;refine az 13 ?_;refine eV rfl (bT cD rfl aV rfl aA cw aa aa) fun A90 c90=>?_;refine ae 14 ?_;refine ae 15 ?_;refine az 16 ?_;refine aF ?_;refine cQ [] ?_;refine dH ?_;refine iU ?_;refine gE ?_;refine be ?_;refine dH ?_;refine yW ?_;refine⟨_,.swap ..,?_⟩;refine aq (L':=Gn g k m ch (.slice A90 (out++z).length c90) (.slice Ab (bad++dP at_ (gG (ch+4) x (List.range (k+m)))).length cb) (at_+(k+m)):: .own 5 1 A90 (out++z).length c90 (bv (out++z)):: .own 3 1 Ab (bad++dP at_ (gG (ch+4) x (List.range (k+m)))).length cb (bx (bad++dP at_ (gG (ch+4) x (List.range (k+m)))))::F) (.skip (.skip (.skip (.skip (.skip (.skip (.skip (.skip (bq (by rw[hoz];rfl) (ax (by rw[hoz]) ak (.cons (.skip ((dv _ _).trans (dv _ _)))))))))))))) ?_;refine aF ?_;exact⟨A90,c90,Ab,cb,out++z,by rw[eE],Ma,fun _=>by rw[hzz]⟩
     ·refine b7 rfl rfl (zp (P:=OL (FB.take k)) (l:=z) Rs hcr Bk hz aa Bk) fun A89 c89=>?_;refine az 4 ?_;refine aF ?_;refine az 13 ?_;refine eV rfl (bT cD rfl aV rfl aA cw aa aa) fun A90 c90=>?_;refine ae 14 ?_;refine ae 15 ?_;refine az 16 ?_;refine aF ?_;refine cQ [] ?_;refine dH ?_;refine iU ?_;refine gE ?_;refine be ?_;refine dH ?_;refine yW ?_;refine⟨_,.swap ..,?_⟩;refine aq (L':=Gn g k m ch (.slice A90 (out++z).length c90) (.slice Ab (bad++dP at_ (gG (ch+4) x (List.range (k+m)))).length cb) (at_+(k+m)):: .own 5 1 A90 (out++z).length c90 (bv (out++z)):: .own 3 1 Ab (bad++dP at_ (gG (ch+4) x (List.range (k+m)))).length cb (bx (bad++dP at_ (gG (ch+4) x (List.range (k+m)))))::F) (.skip (.skip (.skip (.skip (.skip (.skip (.skip (.skip (bq (by rw[hoz];rfl) (ax (by rw[hoz]) ak (.cons (.skip ((dv _ _).trans (dv _ _)))))))))))))) ?_;refine aF ?_;exact⟨A90,c90,Ab,cb,out++z,by rw[eE],Ma,fun _=>by rw[hzz]⟩
end
section
variable{ch:Nat}
theorem OS{f:Nat}{s out:al}{bad:bf}{a:Nat}(h:LM k m ch (s.take ((k+m)*(ch+4)))≠0):tv k m ch (f+1) s out bad a=([],[],LM k m ch (s.take ((k+m)*(ch+4)))):=by rw[tv,ao h]
theorem Wm{f:Nat}{s out:al}{bad:bf}{a:Nat}(h:LM k m ch (s.take ((k+m)*(ch+4)))=0):tv k m ch (f+1) s out bad a=tv k m ch f (s.drop ((k+m)*(ch+4))) (out++((BR k m ch (s.take ((k+m)*(ch+4)))).1.take k).flatten) (bad++dP a (OP k m ch (s.take ((k+m)*(ch+4))))) (a+(k+m)):=by
 rw[tv,aw aa]
theorem OO(a:Nat)(G:List Bool):(dP a G).length≤G.length:=by
 have:=BG (fun i=> !G.getD i false) (List.range G.length);rw[wk]at this;unfold dP;rw[eK];exact this
theorem akC{x:al}(h:LM k m ch x=0):(BR k m ch x).2=0:=by
 have acN:LM k m ch x=(if (BR k m ch x).2≠0 then (BR k m ch x).2 else @ite _ (xd k m ch x) (Classical.propDecidable _) 2 0):=rfl;by_cases h1:(BR k m ch x).2≠0
 ·rw[acN,ao h1]at h;exact h
 ·exact bH h1
theorem zE{c:Nat}:∀l:eH,(∀b∈l,b.length=c)→l.flatten.length=l.length*c
 |[],_=>by simp
 |b::l,h=>by
  rw[wm,aY,zE l (fun x hx=>h x oe),h b ak,ef,kD];omega
set_option maxHeartbeats 1000000 in
theorem aiZ(HT:bL B w0)(h:Gp k m ch){s:al}(hn:n≤4611686018427387904)(hb:eM B w0 F A c s):
  a_ B w0 130 [ah (k:Int),ah (m:Int),ah (ch:Int),ah (n:Int),.slice A s.length c] F (fun v L=>∃A1 c1 A2 c2,v= .tuple #[.slice A1 (jV k m ch n s).1.length c1,.slice A2 (jV k m ch n s).2.1.length c2,ah (jV k m ch n s).2.2]∧L= .own 5 1 A1 (jV k m ch n s).1.length c1 (bv (jV k m ch n s).1):: .own 3 1 A2 (jV k m ch n s).2.1.length c2 (bx (jV k m ch n s).2.1)::F):=by
 obtain⟨k1,km,ch1,ch2⟩:=h;have h:Gp k m ch:=⟨k1,km,ch1,ch2⟩
 have hkc:=h.kc;have Ge:=h.laid;refine dL.xk hb fun mm _=>?_;refine fw func130 94 [0,1,2,3,4] ?_;refine dc ?_;refine ai rfl (WG h aa) ?_;refine jQ ?_;refine aj (fun kg=>?_) fun kg=>?_
 ·have e:jV k m ch n s=([],[],zd k m ch n):=by unfold jV;rw[ao kg]
  refine bz ?_;refine ve [10,11,12] ?_;refine b8 ?_;refine aD 3 1 none ?_;refine aD 5 1 none ?_;refine aF ?_;rw[e];exact⟨none,0,none,0,rfl,rfl⟩
 ·have e0:zd k m ch n=0:=bH kg;rw[ao e0];have tY:n≤8388608:=by
   refine bH fun hh=>?_;unfold zd at e0;rw[ao aa]at e0;exact absurd e0 aB
  have ac9:jg k m ch n≤16777216:=by
   refine bH fun hh=>?_;unfold zd at e0;rw[aw aa,ao aa]at e0;exact absurd e0 aB
  refine bK ?_;refine ve [0,1,2,3,4,13,31] ?_;refine aF ?_;refine aj (fun D8=>?_) fun D8=>?_
  ·have e:jV k m ch n s=([],[],1):=by unfold jV;rw[aw kg,ao aa]
   refine bB ?_;refine aD 3 1 none ?_;refine aD 5 1 none ?_;refine aF ?_;rw[e];exact⟨none,0,none,0,rfl,rfl⟩
  ·refine bO ?_;refine aj (fun y_=>?_) fun y_=>?_
   ·have e:jV k m ch n s=([],[],2):=by unfold jV;rw[aw kg,aw aa,ao aa]
    refine bB ?_;refine aD 3 1 none ?_;refine aD 5 1 none ?_;refine aF ?_;rw[e];exact⟨none,0,none,0,rfl,rfl⟩
   ·have hse:s.length=jg k m ch n:=by omega
    have e:jV k m ch n s=if (oD k m ch n s).2.2≠0 then ([],[],(oD k m ch n s).2.2) else if∃x∈(oD k m ch n s).1.drop n,x≠0 then ([],[],2) else ((oD k m ch n s).1.take n,(oD k m ch n s).2.1,0):=by
     unfold jV;rw[aw kg,aw aa,aw aa]
    have wN:=CR (k:=k) (ch:=ch) (n:=n) aa;have hrA:oD k m ch n s=tv k m ch (lN k ch n) s [] [] 0:=rfl;unfold jg at ac9 hse;obtain⟨S,hS⟩:=cK (lN k ch n);obtain⟨D,hD⟩:=cK (k*ch);obtain⟨Ld,Vc⟩:=cK ((k+m)*(ch+4));have hDL:D≤Ld:=by rw[hD,Vc];exact gL aa aa
    have hKL:k+m≤Ld:=by rw[Vc];exact ahW _ aa
    rw[←hS]at ac9 hse wN hrA;rw[←Vc]at ac9 hse Ge;rw[←hD]at hkc wN;refine b8 ?_;refine aZ 3 1 none ?_;refine aZ 5 1 none ?_;refine b8 ?_;refine ab (eG [(0,_),(1,_),(2,_)] [_,_,_] rfl rfl ag) rfl ?_;refine ab (bw [(0,_)] [ah 0,ah 0,ah 0,.slice none 0 0,.slice none 0 0,ah 0] [0] [_,_,_,_,_,_] rfl rfl ag) rfl ?_;refine bh fun U3=>?_;refine bG ?_;refine aE (fun zf zL zm=>∃(j:Nat) (R:al) (Ar:bj) (cr:Nat) (out:al) (Ao:bj) (co:Nat) (bad:bf) (Ab:bj) (cb:Nat),(j≤S∧R.length=(S-j)*Ld∧R.length≤cr∧aK B w0 F 1 (.slice Ar R.length cr) R.length (bv R)∧out.length=j*D∧bad.length≤j*(k+m)∧tv k m ch (S-j) R out bad (j*(k+m))=oD k m ch n s)∧S-j=zm∧Sub zf [(3,ah (n:Int)),(4,.slice Ar R.length cr),(15,br U3)]∧Wk zL (Gn U3 k m ch (.slice Ao out.length co) (.slice Ab bad.length cb) (j*(k+m)):: .own 5 1 Ao out.length co (bv out):: .own 3 1 Ab bad.length cb (bx bad)::F)) _ ⟨0,s,A,c,[],none,0,[],none,0,⟨bS _,by rw[Eo];exact hse,mm,hb,ak,ak,by rw[Eo,se];exact hrA.symm⟩,rfl,bp,bq ak (.refl _)⟩ ?_;rintro _ _ _ ⟨j,R,Ar,cr,out,Ao,co,bad,Ab,cb,⟨hj,Ve,hRc,Vd,Kl,de,ac4⟩,rfl,hs,hp⟩;refine aU hs hp ?_;clear hs hp;refine bI ?_;refine aj (fun Yo=>?_) fun Yo=>?_
    ·have hjS:j<S:=by
      refine bH fun hh=>?_;have:S-j=0:=by omega
      rw[this,se]at Ve;omega
     have hSj:S-j=(S-(j+1))+1:=by omega
     rw[hSj,kD]at Ve;rw[hSj]at ac4;have hLj:(j+1)*Ld≤S*Ld:=oA _ hjS;have hDj:(j+1)*D≤(j+1)*Ld:=yi _ hDL;have hKj:(j+1)*(k+m)≤(j+1)*Ld:=yi _ hKL;rw[kD]at hLj hDj hKj;rw[kD]at hKj hDj;obtain⟨X,hX⟩:=cK (R.take Ld);have Vf:X.length=Ld:=by rw[hX,eS];omega
     have hXb:aK B w0 F 1 (.slice Ar X.length cr) X.length (bv X):=by
      have:=Vd.iY (k:=Ld) aa;rw[cE,jX,←hX]at this;rw[Vf];exact this
     have hXk:X.length=(k+m)*(ch+4):=by rw[Vf,Vc]
     refine cZ ?_;refine ab (bY 3 ag rfl aV [ah (k:Int),ah (m:Int),ah (ch:Int)] rfl rfl) rfl ?_;refine ai rfl (KZ h) ?_;refine ab (bN (i:=(k+m)*(ch+4)) (size:=1) underlying27 ag rfl rfl rfl aa) rfl ?_;rw[←hXk];refine aX apa rfl (ae2 HT h hXk aa hXb aa aa aa) rfl ?_;rintro _ _ ⟨Ao2,co2,Ab2,cb2,aqX,rfl,cA,ahK⟩;obtain rfl:=cA.symm;refine bO ?_;refine aj (fun h60=>?_) fun h60=>?_
     ·have hE2:oD k m ch n s=([],[],LM k m ch X):=by rw[←ac4,OS (by rw[←Vc,←hX];exact h60),←Vc,←hX]
      rw[hE2,ao h60]at e;refine bz ?_;refine ve [10,11,12] ?_;refine bK ?_;refine aD 3 1 none ?_;refine aD 5 1 none ?_;refine aq (.cons (.cons (.skip (.skip (.skip (.refl _)))))) ?_;refine aF ?_;rw[e];exact⟨none,0,none,0,rfl,rfl⟩
     ·have hz:LM k m ch X=0:=bH h60;have hE2:=Wm (k:=k) (m:=m) (ch:=ch) (f:=S-(j+1)) (s:=R) (out:=out) (bad:=bad) (a:=j*(k+m)) (by rw[←Vc,←hX];exact hz);rw[←Vc,←hX,←ahK hz]at hE2;obtain⟨k_,jF⟩:=Fu k1 hXk (akC hz);have asT:aqX.length=(j+1)*D:=by
       rw[ahK hz,aY,zE (c:=ch) _ (fun b hb=>jF b (l6 hb)),eS,k_,kD,hD,←hD,Kl,zb aa,←hD]
      have GK:(bad++dP (j*(k+m)) (OP k m ch X)).length≤(j+1)*(k+m):=by
       have:=OO (j*(k+m)) (OP k m ch X);have h2:(OP k m ch X).length=k+m:=by rw[E_];simp[gG]
       rw[aY,kD];omega
      refine bK ?_;refine ab (bY 3 ag rfl aV [ah (k:Int),ah (m:Int),ah (ch:Int)] rfl rfl) rfl ?_;refine ai rfl (KZ h) ?_;refine ab (bQ (i:=(k+m)*(ch+4)) (size:=1) underlying27 ag rfl rfl rfl aa) rfl ?_;refine aF ?_;refine ve [3,4,15] ?_;refine aF ?_;have Bw:(R.drop Ld).length=(S-(j+1))*Ld:=by rw[iG];omega
      have hcut:=Vd.cut (k:=Ld) aa;rw[cE,js]at hcut;have acC:R.length-Ld=(R.drop Ld).length:=by rw[iG]
      rw[acC]at hcut;rw[←Vc,acC,cE Ld];have hjk:j*(k+m)+(k+m)=(j+1)*(k+m):=by rw[kD]
      rw[hjk];refine av ⟨_,aa,j+1,R.drop Ld,_,_,aqX,Ao2,co2,bad++dP (j*(k+m)) (OP k m ch X),Ab2,cb2,(by exact⟨hjS,Bw,aa,hcut,asT,GK,by rw[←ac4,hE2,hjk]⟩),rfl,bp,.refl _⟩
    ·have hjS:j=S:=by
      refine bH fun hh=>?_;have:1*Ld≤(S-j)*Ld:=oA _ aa;omega
     subst hjS;rw[nE,tv]at ac4;rw[←ac4,aw ak]at e;have hKj:j*(k+m)≤j*Ld:=yi _ hKL;have hDj:j*D≤j*Ld:=yi _ hDL;have hdl:(out.drop n).length=out.length-n:=iG;have hcut:aK B w0 (Gn U3 k m ch (.slice Ao out.length co) (.slice Ab bad.length cb) (j*(k+m)):: .own 5 1 Ao out.length co (bv out):: .own 3 1 Ab bad.length cb (bx bad)::F) 1 (.slice (if co=n then Ao else Ao.map (·.add (n*1))) (out.length-n) (co-n)) (out.length-n) (bv (out.drop n)):=by
      have:=(aK.own (B:=B) (w0:=w0) (L:=Gn U3 k m ch (.slice Ao out.length co) (.slice Ab bad.length cb) (j*(k+m)):: .own 5 1 Ao out.length co (bv out):: .own 3 1 Ab bad.length cb (bx bad)::F) (.tail _ (.head _))).cut (k:=n) aa;rw[js,cE]at this;rw[cE];exact this
     refine dc ?_;refine ab (bQ (i:=n) (size:=1) underlying27 ag rfl rfl rfl aa) rfl ?_;refine bG ?_;refine aE (fun zf zL zm=>∃(q:Nat),(q≤out.length-n∧∀p,p<q→(out.drop n).getD p 0=0)∧out.length-n-q=zm∧Sub zf [(3,ah (n:Int)),(15,br U3),(74,.slice (if co=n then Ao else Ao.map (·.add (n*1))) (out.length-n) (co-n)),(75,ah ((out.length-n:Nat):Int)),(76,ah (q:Int))]∧Wk zL (Gn U3 k m ch (.slice Ao out.length co) (.slice Ab bad.length cb) (j*(k+m)):: .own 5 1 Ao out.length co (bv out):: .own 3 1 Ab bad.length cb (bx bad)::F)) _ ⟨0,⟨bS _,fun p hp=>aa⟩,rfl,bp,.refl _⟩ ?_;rintro _ _ _ ⟨q,⟨hq,hz0⟩,rfl,hs,hp⟩;refine aU hs hp ?_;clear hs hp;refine bz ?_;refine aj (fun h77=>?_) fun h77=>?_
     ·obtain⟨u,hu⟩:=cK ((out.drop n).getD q 0);refine bz ?_;refine ab (aC (i:=q) (size:=1) underlying27 ag rfl rfl rfl aa hcut) rfl ?_;refine ab (jn ag rfl hcut aa) rfl ?_;rw[←hu];refine bO ?_;refine aj (fun h81=>?_) fun h81=>?_
      ·have hex:∃x∈out.drop n,x≠0:=⟨u,hu▸bg aa 0,fun k=>h81 (by rw[k];rfl)⟩
       rw[ao hex]at e;refine dc ?_;refine aD 3 1 none ?_;refine aD 5 1 none ?_;refine aq (.cons (.cons (.skip (.skip (.skip (.refl _)))))) ?_;refine aF ?_;rw[e];exact⟨none,0,none,0,rfl,rfl⟩
      ·refine bK ?_;refine av ⟨_,aa,q+1,⟨aa,fun p hp=>by
        by_cases e:p=q
        ·subst e;rw[←hu];exact ob (by show u.toNat=0;omega)
        ·exact hz0 p aa⟩,rfl,bp,.refl _⟩
     ·have hex:¬∃x∈out.drop n,x≠0:=fun⟨x,hx,YM⟩=>by
       obtain⟨p,hp,rfl⟩:=j0 hx;have:=hz0 p aa;rw[bk,fm hp]at this;exact YM this
      rw[aw hex]at e;have Ce:(out.take n).length=n:=by rw[eS];omega
      have acW:aK B w0 (Gn U3 k m ch (.slice Ao out.length co) (.slice Ab bad.length cb) (j*(k+m)):: .own 5 1 Ao out.length co (bv out):: .own 3 1 Ab bad.length cb (bx bad)::F) 1 (.slice Ao n co) n (bv (out.take n)):=by
       have:=(aK.own (B:=B) (w0:=w0) (L:=Gn U3 k m ch (.slice Ao out.length co) (.slice Ab bad.length cb) (j*(k+m)):: .own 5 1 Ao out.length co (bv out):: .own 3 1 Ab bad.length cb (bx bad)::F) (.tail _ (.head _))).iY (k:=n) aa;rw[jX,cE]at this;exact this
      refine Tw (A:=Ao) (nn:=out.length) (c:=co) (size:=1) (xs:=bv out) (aK.own (.tail _ (.head _))) fun hcF _=>?_;refine bz ?_;refine cF (Gn U3 k m ch (.slice Ao out.length co) (.slice Ab bad.length cb) (j*(k+m)):: .own 5 1 Ao out.length co (bv out):: .own 3 1 Ab bad.length cb (bx bad)::F) ?_;refine ae 0 ?_;refine ae 1 ?_;refine ae 2 ?_;refine ae 3 ?_;refine ae 4 ?_;refine aW 5 rfl (bN (i:=n) (size:=1) underlying27 ag rfl rfl rfl aa) ?_;refine ae 7 ?_;refine ae 8 ?_;refine ae 9 ?_;refine ae 10 ?_;refine az 6 ?_;refine b7 rfl rfl (ux (l:=out.take n) Ce.symm rfl acW aa) fun A89 c89=>?_;refine ae 11 ?_;refine ae 12 ?_;refine ae 13 ?_;refine cQ [10,11,12] ?_;refine be ?_;refine aq (.cons (.skip (.skip (.refl _)))) ?_;refine aF ?_;rw[e];exact⟨A89,c89,Ab,cb,rfl,rfl⟩
end
theorem N'{k m ch:Nat}{b:al}(hk:0<k)(hc:0<ch)(h:(p6 k m ch b).2=0):(p6 k m ch b).1.length≤16777216∧b.length≤8388608:=by
 unfold p6 at h⊢;by_cases e:zd k m ch b.length≠0
 ·rw[ao e]at h;exact absurd h e
 ·rw[aw e];have e':zd k m ch b.length=0:=bH e;unfold zd at e';have hb:b.length≤8388608:=bH fun q=>by rw[ao aa]at e';exact absurd e' aB
  rw[aw aa]at e';have hs:jg k m ch b.length≤16777216:=bH fun q=>by rw[ao aa]at e';exact absurd e' aB
  refine⟨?_,hb⟩;show(uj k m ch (lN k ch b.length) (sn k ch b)).length≤_;rw[yo hk _ _ (uD (N4 hk hc) b)];exact hs
theorem afn(HT:bL B w0){o:aR}{n p:Nat}(ho:cB 3 o=0)(hn:n<4294967296){l:al}(e:n2=l.length)(hb:aK B w0 F 1 (.slice A n2 c) n2 (bv l))(hl:l.length≤1000000000):
  a_ B w0 67 [br g,.slice A n2 c] (Hb g o n p::F) (Gh (jm o n++(l++jm o n)) (Hb g o n p::F)):=by
 subst e;have h1:=FJ o n;refine cm func67 12 rfl rfl rfl [(0,br g),(1,.slice A l.length c)] ⟨⟨rfl,rfl⟩,⟨rfl,rfl⟩,trivial⟩ ?_;refine bI ?_;refine ay rfl (Jc HT ho hn) fun A6 c6=>?_;refine be ?_;refine ay rfl (.perm (Jc HT ho hn) ((l_ (fR (.refl _))))) fun A9 c9=>?_;refine cC (aG fE [_,_,_] rfl rfl cw aa aa) fun wu=>?_;refine ay rfl (Jt (l1:=jm o n) (l2:=l) (l3:=jm o n) aA aA (hb.cons.cons.cons.cons) aA rfl L3) fun tG xl=>?_;refine b8 ?_;refine aq ((ed (rQ (.skip (.skip (.skip (.refl _))))))) ?_;refine aF ?_;exact⟨tG,xl,rfl,rfl⟩
theorem Tf{o:aR}{L:List aI}(h:cB 3 o≠0):sA o L=([],cB 3 o):=by unfold sA;rw[ao h]
theorem afA{o:aR}{L:List aI}(h:cB 3 o=0)(h2:(fX o L).2≠0):sA o L=([],(fX o L).2):=by unfold sA;rw[aw aa,ao h2]
theorem afB{o:aR}{L:List aI}(h:cB 3 o=0)(h2:¬(fX o L).2≠0)(h3:(ic o (dy o L)).2≠0):sA o L=([],(ic o (dy o L)).2):=by unfold sA;rw[aw aa,aw h2,ao h3]
theorem Tg{o:aR}{L:List aI}(h:cB 3 o=0)(h2:¬(fX o L).2≠0)(h3:¬(ic o (dy o L)).2≠0):sA o L=(lg o (dy o L),0):=by unfold sA;rw[aw aa,aw h2,aw h3]
theorem aft{o:aR}{L:List aI}{v:Value}(h:cB 3 o≠0):a_ B w0 28 [.agg (aR.cells o).toArray,v] F (LQ (sA o L) F):=by
 have e:=Tf (L:=L) h;obtain⟨bl,pl,bu,da,pa,ch⟩:=o;refine cm func28 45 rfl rfl rfl [(0,.agg #[ah bl,.bool pl,ah bu,ah da,ah pa,ah ch]),(1,v)] ⟨⟨rfl,rfl⟩,⟨rfl,rfl⟩,trivial⟩ ?_;refine be ?_;refine bh fun g2=>?_;refine bI ?_;refine ai rfl (kF 3 (bl,pl,bu,da,pa,ch)) ?_;refine bO ?_;refine aj (fun mE=>?_) fun mE=>?_
 ·refine bO ?_;refine aD 5 1 none ?_;refine aq (.cons (.skip (.refl _))) ?_;refine aF ?_;rw[e];exact⟨none,0,rfl,rfl⟩
 ·exfalso;exact mE h
theorem Mm{o:aR}{L:List aI}(h2:¬(fX o L).2≠0):(fX o L).1=dy o L∧cP L=0:=by
 unfold fX at h2⊢;by_cases q1:cB 2 (o2 o)≠0
 ·rw[ao q1]at h2;exact absurd q1 h2
 ·by_cases q2:cP L≠0
  ·rw[aw q1,ao q2]at h2;exact absurd q2 h2
  ·rw[aw q1,aw q2];exact⟨rfl,bH q2⟩
theorem SU{o:aR}(h:cB 3 o=0):Gp o.2.2.2.1.toNat o.2.2.2.2.1.toNat o.2.2.2.2.2.toNat∧0≤o.2.2.2.1∧0≤o.2.2.2.2.1∧0≤o.2.2.2.2.2:=by
 obtain⟨_,m3,_⟩:=(lW h).1;obtain⟨⟨k1,k2⟩,⟨k3,k4⟩,⟨k5,k6⟩⟩:=m3 rfl;exact⟨⟨aa,aa,aa,aa⟩,aa,aa,aa⟩
theorem afu(HT:bL B w0){o:aR}{L:List aI}(ho:cB 3 o=0)(hx:∀x∈L,x.1<18446744073709551616)(hb:aK B w0 F 4 (.slice A L.length c) L.length (dh L)):a_ B w0 28 [.agg (aR.cells o).toArray,.slice A L.length c] F (LQ (sA o L) F):=by
 have hO2:=afA (L:=L) ho;have hO3:=afB (L:=L) ho;have hO4:=Tg (L:=L) ho;obtain⟨W,hW⟩:=cK (sA o L);rw[←hW]at hO2 hO3 hO4⊢;obtain⟨Y,hY⟩:=cK (fX o L);have NB:=fun M (hb:aK B w0 M 4 (.slice A L.length c) L.length (dh L))=>Df (F:=M) HT (o:=o) hx hb;have hbw:=Mm (o:=o) (L:=L);rw[←hY]at hO2 hO3 hO4 hbw;simp only[←hY]at NB;have Ns:=fun hc=>Hw (o:=o) (L:=L) (lW ho).2 hc hx;obtain⟨Cd,p1,p2,p3⟩:=SU ho;obtain⟨bl,pl,bu,da,pa,ch⟩:=o;obtain⟨d,rfl⟩:=gJ (show 0≤da from p1);obtain⟨q,rfl⟩:=gJ (show 0≤pa from p2);obtain⟨hc,rfl⟩:=gJ (show 0≤ch from p3);have Cd:Gp d q hc:=Cd;have Ge:∀b,ic (bl,pl,bu,(d:Int),(q:Int),(hc:Int)) b=p6 d q hc b:=fun _=>rfl;have hA:∀b,lg (bl,pl,bu,(d:Int),(q:Int),(hc:Int)) b=jm (bl,pl,bu,(d:Int),(q:Int),(hc:Int)) b.length++((p6 d q hc b).1++jm (bl,pl,bu,(d:Int),(q:Int),(hc:Int)) b.length):=fun _=>rfl;refine cm func28 45 rfl rfl rfl [(0,.agg #[ah bl,.bool pl,ah bu,ah (d:Int),ah (q:Int),ah (hc:Int)]),(1,.slice A L.length c)] ⟨⟨rfl,rfl⟩,⟨rfl,rfl⟩,trivial⟩ ?_;refine be ?_;refine bh fun g2=>?_;refine bI ?_;refine ai rfl (kF 3 (bl,pl,bu,(d:Int),(q:Int),(hc:Int))) ?_;refine bO ?_;refine aj (fun mE=>?_) fun mE=>?_
 ·exfalso;exact mE ho
 ·refine bz ?_;refine ay rfl (NB _ hb.cons) fun tb uU=>?_;refine dQ ?_;refine aj (fun rN=>?_) fun rN=>?_
  ·refine bG ?_;refine ve [4,5] ?_;refine bA ?_;refine aD 5 1 none ?_;refine aq (.cons (.skip (.skip (.refl _)))) ?_;refine aF ?_;rw[hO2 rN];exact⟨none,0,rfl,rfl⟩
  ·obtain⟨hB1,hB2⟩:=hbw rN;have Ns:=Ns hB2;have hO3:=hO3 rN;have hO4:=hO4 rN;rw[←hB1]at Ns hO3 hO4;rw[Ge]at hO3 hO4;refine cZ ?_;refine ay rfl (anF HT Cd (b:=Y.1) (aK.own (.head _)) aa) fun LO Mt=>?_;refine bG ?_;refine ve [2,7,8,9] ?_;refine bI ?_;refine aj (fun y_=>?_) fun y_=>?_
   ·refine bO ?_;refine aD 5 1 none ?_;refine aq (.cons (.skip (.skip (.skip (.refl _))))) ?_;refine aF ?_;rw[hO3 y_];exact⟨none,0,rfl,rfl⟩
   ·obtain⟨tC,rO⟩:=N' Cd.k1 Cd.c1 (bH y_);refine bK ?_;refine ab (bw [(0,_),(1,_)] [ah 0,.bool false,ah 0,ah 0,ah 0,ah 0,ah 0,.int .u8 0] [0,6] [_,_,_,_,_,_,_,_] rfl rfl ag) rfl ?_;refine bh fun g42=>?_;refine aF ?_;refine ay rfl (afn HT (p:=0) ho aa (l:=(p6 d q hc Y.1).1) rfl (aK.own (.head _)) aa) fun A44 c44=>?_;refine bG ?_;refine aq ((ed (.skip (.skip (.skip (.skip (.refl _))))))) ?_;refine aF ?_;rw[hO4 y_,hA];exact⟨A44,c44,rfl,rfl⟩
theorem afv(HT:bL B w0){o:aR}{L:List aI}(hx:∀x∈L,x.1<18446744073709551616)(hb:aK B w0 F 4 (.slice A L.length c) L.length (dh L)):a_ B w0 28 [.agg (aR.cells o).toArray,.slice A L.length c] F (LQ (sA o L) F):=by
 by_cases h:cB 3 o=0
 ·exact afu HT h hx hb
 ·exact aft h
section
theorem OU{k m ch:Nat}(hk:1≤k):∀(f:Nat) (s out:al) (bad:bf) (a:Nat),s.length=f*((k+m)*(ch+4))→(tv k m ch f s out bad a).2.2=0→
  (tv k m ch f s out bad a).1.length=out.length+f*(k*ch)∧(tv k m ch f s out bad a).2.1.length≤bad.length+f*(k+m)
 |0,s,out,bad,a,_,_=>by simp[tv]
 |f+1,s,out,bad,a,hs,h=>by
  rw[kD]at hs;by_cases hz:LM k m ch (s.take ((k+m)*(ch+4)))=0
  ·rw[Wm hz]at h⊢;have hX:(s.take ((k+m)*(ch+4))).length=(k+m)*(ch+4):=by rw[eS];omega
   obtain⟨h1,h2⟩:=Fu hk hX (akC hz);obtain⟨r1,r2⟩:=OU hk f _ _ _ _ kU h;have e1:(((BR k m ch (s.take ((k+m)*(ch+4)))).1.take k).flatten).length=k*ch:=by
    rw[zE (c:=ch) _ (fun b hb=>h2 b (l6 hb)),eS,h1,zb aa]
   have e2:(dP a (OP k m ch (s.take ((k+m)*(ch+4))))).length≤k+m:=by
    refine jc (OO _ _) ?_;rw[E_];simp[gG]
   rw[aY,e1]at r1;rw[aY]at r2;rw[kD,kD];exact⟨aa,aa⟩
  ·rw[OS hz]at h;exact absurd h hz
theorem OV{k m ch n:Nat}{s:al}(hk:1≤k)(hc:1≤ch)(h:(jV k m ch n s).2.2=0):(jV k m ch n s).1.length=n∧(jV k m ch n s).2.1.length≤16777216∧n≤8388608∧n≤s.length:=by
 by_cases q1:zd k m ch n≠0
 ·unfold jV at h;rw[ao q1]at h;exact absurd h q1
 ·have e':zd k m ch n=0:=bH q1;unfold zd at e';have hb:n≤8388608:=bH fun q=>by rw[ao aa]at e';exact absurd e' aB
  rw[aw aa]at e';have iZ:jg k m ch n≤16777216:=bH fun q=>by rw[ao aa]at e';exact absurd e' aB
  by_cases q2:s.length<jg k m ch n
  ·unfold jV at h;rw[aw q1,ao q2]at h;exact absurd h aB
  ·by_cases q3:jg k m ch n<s.length
   ·unfold jV at h;rw[aw q1,aw q2,ao q3]at h;exact absurd h aB
   ·by_cases q4:(oD k m ch n s).2.2≠0
    ·unfold jV at h;rw[aw q1,aw q2,aw q3,ao q4]at h;exact absurd h q4
    ·by_cases q5:∃x∈(oD k m ch n s).1.drop n,x≠0
     ·unfold jV at h;rw[aw q1,aw q2,aw q3,aw q4,ao q5]at h;exact absurd h aB
     ·have e:jV k m ch n s=((oD k m ch n s).1.take n,(oD k m ch n s).2.1,0):=by
       unfold jV;rw[aw q1,aw q2,aw q3,aw q4,aw q5]
      rw[e];have wN:=CR (k:=k) (ch:=ch) (n:=n) (N4 hk hc);obtain⟨r1,r2⟩:=OU hk (lN k ch n) s [] [] 0 (by unfold jg at q2 q3;omega) (bH q4);have tg:(oD k m ch n s).1.length=lN k ch n*(k*ch):=by rw[show oD k m ch n s=tv k m ch (lN k ch n) s [] [] 0 from rfl,r1];simp
      have vF:(oD k m ch n s).2.1.length≤lN k ch n*(k+m):=by
       have:=r2;rw[sd,mw]at this;exact this
      have hm:lN k ch n*(k+m)≤lN k ch n*((k+m)*(ch+4)):=yi _ (ahW _ aa);unfold jg at iZ;have vE:lN k ch n*(k*ch)≤lN k ch n*((k+m)*(ch+4)):=yi _ (gL aa aa);unfold jg at q2 q3;refine⟨?_,?_,hb,aa⟩
      ·show((oD k m ch n s).1.take n).length=n;rw[eS];omega
      ·show(oD k m ch n s).2.1.length≤_;omega
section
variable{b:al}
theorem FK(h:(ek b).2≠0):dI b=(h_,[],0,(ek b).2):=by unfold dI;rw[ao h]
theorem K9(h:¬(ek b).2≠0)(h2:hE (ek b).1≠0):dI b=(h_,[],0,hE (ek b).1):=by unfold dI;rw[aw h,ao h2]
theorem S_(h:¬(ek b).2≠0)(h2:¬hE (ek b).1≠0)(h3:(Bw b).2.2≠0):dI b=(h_,[],0,(Bw b).2.2):=by unfold dI;rw[aw h,aw h2,ao h3]
theorem Ta(h:¬(ek b).2≠0)(h2:¬hE (ek b).1≠0)(h3:¬(Bw b).2.2≠0):dI b=(hO (ek b).1,(Bw b).1,(Bw b).2.1.length+Ki b,0):=by unfold dI;rw[aw h,aw h2,aw h3]
end
theorem acA{c:al}(h:hE c=0):cB 3 (hO c)=0:=by
 unfold hE at h;by_cases q:1<(D9 c).toNat
 ·rw[ao q]at h;exact absurd h aB
 ·rw[aw q]at h;exact h
theorem Mz{b:al}(h:(ek b).2=0):42≤b.length∧(ek b).1.length=21:=by
 by_cases q:b.length<42
 ·rw[abu q]at h;exact absurd h aB
 ·refine⟨aa,?_⟩;by_cases q2:zo (b.take 21)
  ·rw[abv q q2];simp;omega
  ·by_cases q3:zo (b.drop (b.length-21))
   ·rw[abw q q2 q3];simp;omega
   ·rw[abx q q2 q3]at h;exact absurd h aB
theorem vt{b:al}(h:(dI b).2.2.2=0):cB 3 (dI b).1=0∧(dI b).2.1.length≤8388608∧(dI b).2.2.1≤16777217∧(dI b).2.1.length≤b.length:=by
 by_cases q1:(ek b).2≠0
 ·rw[FK q1]at h;exact absurd h q1
 ·by_cases q2:hE (ek b).1≠0
  ·rw[K9 q1 q2]at h;exact absurd h q2
  ·by_cases q3:(Bw b).2.2≠0
   ·rw[S_ q1 q2 q3]at h;exact absurd h q3
   ·rw[Ta q1 q2 q3];have ho:=acA (bH q2);obtain⟨⟨s1,s2,s3,s4⟩,_⟩:=SU ho;obtain⟨r1,r2,r3,r4⟩:=OV s1 s3 (bH q3);have r4:=jc r4 (show((b.take (b.length-21)).drop 21).length≤b.length by rw[iG,eS];omega);refine⟨ho,?_,?_,?_⟩
    ·show(Bw b).1.length≤_;unfold Bw;omega
    ·show(Bw b).2.1.length+Ki b≤_;have:Ki b≤1:=by unfold Ki;split<;>omega
     unfold Bw;omega
    ·show(Bw b).1.length≤_;unfold Bw;omega
end
theorem ai0(HT:bL B w0){k m ch n:Nat}(h:Gp k m ch){s:al}(e:n2=s.length)(hn:n≤4611686018427387904)(hb:aK B w0 F 1 (.slice A n2 c) n2 (bv s)):
  a_ B w0 130 [ah (k:Int),ah (m:Int),ah (ch:Int),ah (n:Int),.slice A n2 c] F (fun v L=>∃A1 c1 A2 c2,v= .tuple #[.slice A1 (jV k m ch n s).1.length c1,.slice A2 (jV k m ch n s).2.1.length c2,ah (jV k m ch n s).2.2]∧L= .own 5 1 A1 (jV k m ch n s).1.length c1 (bv (jV k m ch n s).1):: .own 3 1 A2 (jV k m ch n s).2.1.length c2 (bx (jV k m ch n s).2.1)::F):=by
 subst e;exact aiZ HT h hn hb
def MdE(e:Int)(F:aQ)(r:Value)(L:aQ):Prop:=r= .tuple #[.pointer none,.slice none 0 0,ah 0,ah e]∧L=F
def MdK(R:aR×al×Nat×Int)(F:aQ)(r:Value)(L:aQ):Prop:=∃g A' c' p,r= .tuple #[br g,.slice A' R.2.1.length c',ah (R.2.2.1:Int),ah 0]∧L= .own 5 1 A' R.2.1.length c' (bv R.2.1)::Hb g R.1 R.2.1.length p::F
theorem arl(HT:bL B w0){b:al}(hb:eM B w0 F A c b)(de:b.length≤1000000000)(h:(ek b).2≠0):a_ B w0 73 [.slice A b.length c] F (MdE (dI b).2.2.2 F):=by
 refine fw func73 80 [0] ?_;refine cZ ?_;refine aX Ut rfl (xH HT hb de) rfl ?_;rintro _ _ ⟨TP,c17,rfl,cA,Yy⟩;obtain rfl:=cA.symm;refine dQ ?_;refine aj (fun l0=>?_) fun l0=>?_
 ·refine cH ?_;rw[FK h];exact⟨rfl,rfl⟩
 ·exfalso;exact l0 h
theorem arn(HT:bL B w0){b:al}(hb:eM B w0 F A c b)(de:b.length≤1000000000)(h:¬(ek b).2≠0)(h2:hE (ek b).1≠0):a_ B w0 73 [.slice A b.length c] F (MdE (dI b).2.2.2 F):=by
 obtain⟨aqe,ast⟩:=Mz (bH h);have t_:=fun M TP c17 (Yy:aK B w0 M 1 (.slice TP (ek b).1.length c17) (ek b).1.length (bv (ek b).1))=>(Pm (F:=M) rfl aa Yy aa).mono fun r L hr=>hr.elim (fun q=>q.2) fun q=>absurd q.1 h2;refine fw func73 80 [0] ?_;refine cZ ?_;refine aX Ut rfl (xH HT hb de) rfl ?_;rintro _ _ ⟨TP,c17,rfl,cA,Yy⟩;obtain rfl:=cA.symm;refine dQ ?_;refine aj (fun l0=>?_) fun l0=>?_
 ·exfalso;exact h l0
 ·refine bG ?_;refine ay rfl (t_ _ _ _ Yy) fun Y vY=>?_;refine bG ?_;refine ve [0,7,8] ?_;refine bI ?_;refine aj (fun r'=>?_) fun r'=>?_
  ·refine cZ ?_;refine aq (dv Y F) ?_;refine aF ?_;rw[K9 h h2];exact⟨rfl,rfl⟩
  ·exfalso;exact r' h2
theorem ajf{b:al}(h:42≤b.length)(hb:eM B w0 F A c b):aK B w0 F 1 (.slice (if c=21 then A else A.map (·.add (21*1))) (b.length-21-21) (c-21)) (b.length-21-21) (bv ((b.take (b.length-21)).drop 21)):=by
 have h1:=hb.iY (k:=b.length-21) aa;rw[jX,cE]at h1;have h2:=h1.cut (k:=21) aa;rw[js,cE]at h2;rw[cE];exact h2
theorem aro(HT:bL B w0){b:al}(hb:eM B w0 F A c b)(de:b.length≤1000000000)(h:¬(ek b).2≠0)(h2:¬hE (ek b).1≠0):a_ B w0 73 [.slice A b.length c] F (fun r L=>((dI b).2.2.2≠0∧MdE (dI b).2.2.2 F r L)∨((dI b).2.2.2=0∧MdK (dI b) F r L)):=by
 obtain⟨aqe,ast⟩:=Mz (bH h);have t_:=fun M TP c17 (Yy:aK B w0 M 1 (.slice TP (ek b).1.length c17) (ek b).1.length (bv (ek b).1))=>(Pm (F:=M) rfl aa Yy aa).mono fun r L hr=>hr.elim (fun q=>absurd q.1 h2) fun q=>q.2;have RD:=ajf aqe hb;have y':b.length-21-21=((b.take (b.length-21)).drop 21).length:=by rw[iG,eS];omega
 have hoo:=acA (bH h2);obtain⟨Cd,p1,p2,p3⟩:=SU hoo;have Vk:=aqa (ek b).1;have Vm:=OV (k:=(hO (ek b).1).2.2.2.1.toNat) (m:=(hO (ek b).1).2.2.2.2.1.toNat) (ch:=(hO (ek b).1).2.2.2.2.2.toNat) (n:=hN (ek b).1) (s:=(b.take (b.length-21)).drop 21) Cd.k1 Cd.c1;have hM3:=S_ (b:=b) h h2;have hM4:=Ta (b:=b) h h2;obtain⟨M,hM⟩:=cK (dI b);have al8:Ki b=if b.take 21=b.drop (b.length-21) then 0 else 1:=rfl
 have ha:=Uz (A:=A) (c:=c) (B:=B) (w0:=w0) (F:=F) (b:=b) aa hb;have hz:=UA (A:=A) (c:=c) (B:=B) (w0:=w0) (F:=F) (b:=b) aa hb;have l1:(b.take 21).length=21:=by rw[eS];omega
 have l2:(b.drop (b.length-21)).length=b.length-(b.length-21):=by rw[iG]
 have Rj:Bw b=jV (hO (ek b).1).2.2.2.1.toNat (hO (ek b).1).2.2.2.2.1.toNat (hO (ek b).1).2.2.2.2.2.toNat (hN (ek b).1) ((b.take (b.length-21)).drop 21):=rfl;rw[←Rj]at Vm;rw[←hM]at hM3 hM4⊢;obtain⟨Q,hQ⟩:=cK ((b.take (b.length-21)).drop 21);rw[←hQ]at RD y' Rj;obtain⟨o,ho⟩:=cK (hO (ek b).1);rw[←ho]at hoo Cd p1 p2 p3 hM4 t_ Rj;obtain⟨bl,pl,bu,da,pa,ch⟩:=o;obtain⟨d,rfl⟩:=gJ (show 0≤da from p1);obtain⟨q,rfl⟩:=gJ (show 0≤pa from p2);obtain⟨hc,rfl⟩:=gJ (show 0≤ch from p3);have Cd:Gp d q hc:=Cd;have Rj:Bw b=jV d q hc (hN (ek b).1) Q:=Rj;obtain⟨R,hR⟩:=cK (Bw b);rw[←hR]at hM3 hM4 Rj Vm;have hsr:=fun M (RD:aK B w0 M 1 (.slice (if c=21 then A else A.map (·.add (21*1))) (b.length-21-21) (c-21)) (b.length-21-21) (bv Q))=>ai0 (F:=M) (n:=hN (ek b).1) HT Cd y' aa RD;simp only[←Rj]at hsr;obtain⟨nn,Qa⟩:=cK (hN (ek b).1);rw[←Qa]at Vk Vm t_ hsr;obtain⟨df,hdf⟩:=cK (Ki b);rw[←hdf]at al8 hM4;refine dL.xk hb fun mm _=>?_;refine fw func73 80 [0] ?_;refine cZ ?_;refine aX Ut rfl (xH HT hb de) rfl ?_;rintro _ _ ⟨TP,c17,rfl,cA,Yy⟩;obtain rfl:=cA.symm;refine dQ ?_;refine aj (fun l0=>?_) fun l0=>?_
 ·exfalso;exact h l0
 ·refine bG ?_;refine aX ao1 rfl (t_ _ _ _ Yy) rfl ?_;rintro _ _ ⟨g25,rfl,cA⟩;obtain rfl:=cA.symm;refine bG ?_;refine ve [0,7,8] ?_;refine bI ?_;refine aj (fun r'=>?_) fun r'=>?_
  ·exfalso;exact r' rfl
  ·refine bA ?_;refine cF (Hb g25 (bl,pl,bu,(d:Int),(q:Int),(hc:Int)) nn (D9 (ek b).1).toNat::F) ?_;refine ae 0 ?_;refine ae 1 ?_;refine ae 2 ?_;refine ae 3 ?_;refine ae 4 ?_;refine ae 5 ?_;refine ae 6 ?_;refine ae 7 ?_;refine ae 8 ?_;refine ae 9 ?_;refine ae 10 ?_;refine ae 11 ?_;refine ae 12 ?_;refine ae 13 ?_;refine ae 14 ?_;refine ae 15 ?_;refine ae 16 ?_;refine ae 17 ?_;refine ae 18 ?_;refine ae 19 ?_;refine ae 20 ?_;refine ae 21 ?_;refine aW 22 rfl (dw rfl rfl (r:=((b.length-21:Nat):Int)) ((bF aa aa).trans aa)) ?_;refine aW 23 rfl (kv (i:=21) (j:=b.length-21) (size:=1) underlying27 ag rfl rfl rfl rfl rfl aa aa) ?_;refine az 24 ?_;refine gz rfl .no ao2 rfl (hsr _ RD.cons) rfl (by rintro _ _ ⟨A56,c56,arF,arN,rfl,rfl⟩;exact gD) ?_;rintro _ _ ⟨A56,c56,arF,arN,rfl,cA⟩;obtain rfl:=cA.symm;refine ae 25 ?_;refine ae 26 ?_;refine ae 27 ?_;refine ae 28 ?_;refine ae 29 ?_;refine ae 30 ?_;refine ae 31 ?_;refine cQ [0,7,8,9,10] ?_;refine bI ?_;refine aj (fun h61=>?_) fun h61=>?_
   ·refine cZ ?_;refine aq (.skip (.skip (.skip (.refl _)))) ?_;refine aF ?_;rw[hM3 h61];exact .inl ⟨h61,rfl,rfl⟩
   ·obtain⟨r1,r2,r3,r4⟩:=Vm (bH h61);have hM4:=hM4 h61;subst r1;refine dc ?_;refine ai rfl (MH aa mm aa) ?_;refine dc ?_;refine ai rfl (ab2 (l:=b.take 21) (l2:=b.drop (b.length-21)) l1.symm rfl l2.symm rfl ha.cons.cons.cons hz.cons.cons.cons aa) ?_;refine aF ?_;refine ve [8,9,11,74] ?_;refine aF ?_;refine aj (fun h74=>?_) fun h74=>?_
    ·obtain rfl:df=1:=by rw[al8,aw h74]
     refine be ?_;refine ab (bX rfl rfl (r:=((R.2.1.length+1:Nat):Int)) ((bF aa aa).trans aa)) rfl ?_;refine jk ?_;refine aq ((ed (gk (.skip (.refl _))))) ?_;refine aF ?_;rw[hM4];exact .inr ⟨rfl,g25,A56,c56,_,rfl,rfl⟩
    ·obtain rfl:df=0:=by rw[al8,ao (bH h74)]
     refine dQ ?_;refine aq ((ed (gk (.skip (.refl _))))) ?_;refine aF ?_;rw[hM4];exact .inr ⟨rfl,g25,A56,c56,_,rfl,rfl⟩
theorem FH(HT:bL B w0){b:al}(hb:eM B w0 F A c b)(de:b.length≤1000000000):a_ B w0 73 [.slice A b.length c] F (fun r L=>((dI b).2.2.2≠0∧MdE (dI b).2.2.2 F r L)∨((dI b).2.2.2=0∧MdK (dI b) F r L)):=by
 by_cases h:(ek b).2≠0
 ·exact(arl HT hb de h).mono fun r L hr=>.inl ⟨by rw[FK h];exact h,hr⟩
 ·by_cases h2:hE (ek b).1≠0
  ·exact(arn HT hb de h h2).mono fun r L hr=>.inl ⟨by rw[K9 h h2];exact h2,hr⟩
  ·exact aro HT hb de h h2
theorem S9(HT:bL B w0){b:al}(hb:eM B w0 F A c b)(de:b.length≤1000000000)(h:(dI b).2.2.2≠0):a_ B w0 73 [.slice A b.length c] F (MdE (dI b).2.2.2 F):=
 (FH HT hb de).mono fun r L hr=>hr.elim (fun q=>q.2) fun q=>absurd q.1 h
theorem FI(HT:bL B w0){b:al}(hb:eM B w0 F A c b)(de:b.length≤1000000000)(h:(dI b).2.2.2=0):a_ B w0 73 [.slice A b.length c] F (MdK (dI b) F):=
 (FH HT hb de).mono fun r L hr=>hr.elim (fun q=>absurd h q.1) fun q=>q.2
theorem aje(HT:bL B w0){b:al}(hb:eM B w0 F A c b)(de:b.length≤1000000000):a_ B w0 108 [.slice A b.length c] F (fun r L=>r= .bool (decide ((ek b).2=0))∧L=F):=by
 refine fw func108 12 [0] ?_;refine bI ?_;refine aX Ut rfl (xH HT hb de) rfl ?_;rintro _ _ ⟨A7,c7,rfl,cA,Yy⟩;obtain rfl:=cA.symm;refine jQ ?_;exact⟨rfl,rfl⟩
section
section
variable{b:al}
theorem Tc(h:(dI b).2.2.2≠0):ig b=(h_,.nil,0,(dI b).2.2.2):=by unfold ig;rw[ao h]
theorem Td(h:¬(dI b).2.2.2≠0)(h2:(ei (dI b).1 (dI b).2.1).2≠0):ig b=(h_,.nil,0,(ei (dI b).1 (dI b).2.1).2):=by unfold ig;rw[aw h,ao h2]
theorem Te(h:¬(dI b).2.2.2≠0)(h2:¬(ei (dI b).1 (dI b).2.1).2≠0):ig b=((dI b).1,(ei (dI b).1 (dI b).2.1).1,(dI b).2.2.1,0):=by unfold ig;rw[aw h,aw h2]
theorem afx(h:(ig b).2.2.2≠0):lh b=(h_,[],0,0,(ig b).2.2.2):=by unfold lh;rw[ao h]
theorem afy(h:¬(ig b).2.2.2≠0)(h2:(jl (ig b).2.1).2≠0):lh b=(h_,[],0,0,(jl (ig b).2.1).2):=by unfold lh;rw[aw h,ao h2]
theorem afz(h:¬(ig b).2.2.2≠0)(h2:¬(jl (ig b).2.1).2≠0):lh b=((ig b).1,(jl (ig b).2.1).1,(ig b).2.1.ns.length,(ig b).2.2.1,0):=by unfold lh;rw[aw h,aw h2]
end
def arH(o:aR)(x:ir)(df:Nat)(B:Nat)(w0:World)(F:aQ)(r:Value)(L:aQ):Prop:=∃g N,r= .tuple #[.agg (aR.cells o).toArray,br g,ah (df:Int),ah 0]∧L=N++F∧CV B w0 N g x
def ak6(e:Int)(F:aQ)(r:Value)(L:aQ):Prop:=r= .tuple #[.agg (aR.cells h_).toArray,.pointer none,ah 0,ah e]∧L=F
theorem afp(HT:bL B w0){b:al}(hb:eM B w0 F A c b)(de:b.length≤1000000000)(P5:(dI b).2.1.length≤1000000)(h:(dI b).2.2.2≠0):a_ B w0 58 [.slice A b.length c] F (ak6 (ig b).2.2.2 F):=by
 have Ed:=fC h_;refine fw func58 41 [0] ?_;refine be ?_;refine bc fun g2=>?_;refine bI ?_;refine ai rfl (S9 HT hb.cons aa h) ?_;refine tS ?_;refine aj (fun pV=>?_) fun pV=>?_
 ·refine be ?_;refine ab (cu [ah 0,.bool false,ah 0,ah 0,ah 0,ah 0] ag) rfl ?_;refine bG ?_;refine ve [2,3,4,5] ?_;refine bA ?_;refine nv rfl rfl ag aV gA rfl rfl rfl (.skip (.refl _)) ?_;rw[Tc h];exact⟨rfl,rfl⟩
 ·exfalso;exact pV h
theorem afq(HT:bL B w0){b:al}(hb:eM B w0 F A c b)(de:b.length≤1000000000)(P5:(dI b).2.1.length≤1000000)(h:(dI b).2.2.2=0)(h2:(ei (dI b).1 (dI b).2.1).2≠0):a_ B w0 58 [.slice A b.length c] F (ak6 (ig b).2.2.2 F):=by
 have Ed:=fC h_;obtain⟨hoo,GM,Nv,hg3⟩:=vt h;refine fw func58 41 [0] ?_;refine be ?_;refine bc fun g2=>?_;refine bI ?_;refine aX apG rfl (FI HT hb.cons aa h) rfl ?_;rintro _ _ ⟨g13,xh,F9,p13,rfl,cA⟩;obtain rfl:=cA.symm;refine tS ?_;refine aj (fun pV=>?_) fun pV=>?_
 ·exfalso;exact pV rfl
 ·refine bK ?_;refine ab (bY 6 ag rfl aV (aR.cells (dI b).1) rfl rfl) rfl ?_;refine aF ?_;refine ai rfl (Uh HT (b:=(dI b).2.1) rfl (aK.own (.head _)) aa h2) ?_;refine bG ?_;refine ve [2,6,8,9,10] ?_;refine bI ?_;refine aj (fun Bv=>?_) fun Bv=>?_
  ·refine be ?_;refine ab (cu [ah 0,.bool false,ah 0,ah 0,ah 0,ah 0] ag) rfl ?_;refine bO ?_;refine nv rfl rfl ag aV gA rfl rfl rfl (.skip (.skip (.skip (.refl _)))) ?_;rw[Td (fun q=>q h) h2];exact⟨rfl,rfl⟩
  ·exfalso;exact Bv h2
theorem afs(HT:bL B w0){b:al}(hb:eM B w0 F A c b)(de:b.length≤1000000000)(P5:(dI b).2.1.length≤1000000)(h:(ig b).2.2.2=0):a_ B w0 58 [.slice A b.length c] F (arH (ig b).1 (ig b).2.1 (ig b).2.2.1 B w0 F):=by
 have hm:(dI b).2.2.2=0:=bH fun q=>by rw[Tc q]at h;exact q h
 have h2:(ei (dI b).1 (dI b).2.1).2=0:=bH fun q=>by rw[Td (fun q=>q hm) q]at h;exact q h
 have pX:=fC (dI b).1;obtain⟨hoo,GM,Nv,hg3⟩:=vt hm;refine fw func58 41 [0] ?_;refine be ?_;refine bc fun g2=>?_;refine bI ?_;refine aX apG rfl (FI HT hb.cons aa hm) rfl ?_;rintro _ _ ⟨g13,xh,F9,p13,rfl,cA⟩;obtain rfl:=cA.symm;refine tS ?_;refine aj (fun pV=>?_) fun pV=>?_
 ·exfalso;exact pV rfl
 ·refine bK ?_;refine ab (bY 6 ag rfl aV (aR.cells (dI b).1) rfl rfl) rfl ?_;refine aF ?_;refine aX ajM rfl (Ui HT (b:=(dI b).2.1) rfl (aK.own (.head _)) aa h2) rfl ?_;rintro _ _ ⟨gB,N,rfl,cA,hBB⟩;obtain rfl:=cA.symm;refine bG ?_;refine ve [2,6,8,9,10] ?_;refine bA ?_;refine fP IG ?_;rw[nI,nI,nI];refine bG ?_;refine aj (fun Bv=>?_) fun Bv=>?_
  ·exfalso;exact Bv rfl
  ·refine bK ?_;refine ab (bY 6 ag rfl aV (aR.cells (dI b).1) rfl rfl) rfl ?_;refine bO ?_;refine nv rfl rfl ag aV gA rfl rfl rfl (.skip (.skip (.skip (.dE IG)))) ?_;rw[Te (fun q=>q hm) (fun q=>q h2)];exact⟨gB,N,rfl,rfl,hBB⟩
theorem afr(HT:bL B w0){b:al}(hb:eM B w0 F A c b)(de:b.length≤1000000000)(P5:(dI b).2.1.length≤1000000)(h:(ig b).2.2.2≠0):a_ B w0 58 [.slice A b.length c] F (ak6 (ig b).2.2.2 F):=by
 by_cases q:(dI b).2.2.2=0
 ·exact afq HT hb de P5 q fun k=>h (by rw[Te (fun t=>t q) (fun t=>t k)])
 ·exact afp HT hb de P5 q
theorem Pk{b:al}(P5:(dI b).2.1.length≤1000000)(h:(ig b).2.2.2=0):sG (ig b).2.1:=by
 have hm:(dI b).2.2.2=0:=bH fun q=>by rw[Tc q]at h;exact q h
 have h2:(ei (dI b).1 (dI b).2.1).2=0:=bH fun q=>by rw[Td (fun q=>q hm) q]at h;exact q h
 obtain⟨hoo,GM,Nv,hg3⟩:=vt hm;rw[Te (fun q=>q hm) (fun q=>q h2)];exact Hy aa h2
def ak7(R:aR×List aI×Nat×Nat×Int)(F:aQ)(r:Value)(L:aQ):Prop:=∃A' c',r= .tuple #[.agg (aR.cells R.1).toArray,.slice A' R.2.1.length c',ah (R.2.2.1:Int),ah (R.2.2.2.1:Int),ah R.2.2.2.2]∧L= .own 62 4 A' R.2.1.length c' (dh R.2.1)::F
theorem Tj(HT:bL B w0){b:al}(hb:eM B w0 F A c b)(de:b.length≤1000000000)(P5:(dI b).2.1.length≤1000000)(h:(ig b).2.2.2≠0):a_ B w0 70 [.slice A b.length c] F (ak7 (lh b) F):=by
 have Ed:=fC h_;refine fw func70 38 [0] ?_;refine be ?_;refine bc fun g2=>?_;refine bO ?_;refine ai rfl (afr HT hb.cons de P5 h) ?_;refine bG ?_;refine bc fun g7=>?_;refine dc ?_;refine aj (fun iM=>?_) fun iM=>?_
 ·refine be ?_;refine ab (cu [ah 0,.bool false,ah 0,ah 0,ah 0,ah 0] ag) rfl ?_;refine bz ?_;refine ve [2,3,4,5,6] ?_;refine bA ?_;refine aD 62 4 none ?_;refine KS rfl rfl ag aV gA rfl rfl rfl rfl (.cons (.skip (.skip (.refl _)))) ?_;rw[afx h];exact⟨none,0,rfl,rfl⟩
 ·exfalso;exact iM h
theorem Tk(HT:bL B w0){b:al}(hb:eM B w0 F A c b)(de:b.length≤1000000000)(P5:(dI b).2.1.length≤1000000)(h:(ig b).2.2.2=0):a_ B w0 70 [.slice A b.length c] F (ak7 (lh b) F):=by
 have lj:=Pk P5 h;have pX:=fC (ig b).1;refine fw func70 38 [0] ?_;refine be ?_;refine bc fun g2=>?_;refine bO ?_;refine aX arR rfl (afs HT hb.cons de P5 h) rfl ?_;rintro _ _ ⟨gB,N,rfl,cA,hBB⟩;obtain rfl:=cA.symm;refine bG ?_;refine bc fun g7=>?_;refine bI ?_;refine fP (List.perm_middle.cons _) ?_;refine bG ?_;refine aj (fun iM=>?_) fun iM=>?_
 ·exfalso;exact iM rfl
 ·refine bG ?_;refine ay rfl (abi HT lj (hBB.mono (((vJ _ _).cons _).cons _))) fun Ar cr=>?_;refine bG ?_;refine ve [2,7,8,9,10,11] ?_;refine bI ?_;refine aj (fun r'=>?_) fun r'=>?_
  ·refine be ?_;refine ab (cu [ah 0,.bool false,ah 0,ah 0,ah 0,ah 0] ag) rfl ?_;refine bB ?_;refine aD 62 4 none ?_;refine KS rfl rfl ag aV gA rfl rfl rfl rfl (.cons (.skip (.skip (.skip (dv N F))))) ?_;rw[afy L9 r'];exact⟨none,0,rfl,rfl⟩
  ·refine bA ?_;refine cF (.own 62 4 Ar (jl (ig b).2.1).1.length cr (dh (jl (ig b).2.1).1):: .bE g7 23 (aR.cells (ig b).1)::(N++F)) ?_;refine aW 0 rfl (bY 6 ag rfl aV (aR.cells (ig b).1) rfl rfl) ?_;refine ae 1 ?_;refine ae 2 ?_;refine ae 5 ?_;refine az 3 ?_;refine b7 rfl rfl (Ht lj (hBB.mono (((((vJ _ _)).cons _).cons _).cons _))) fun Ak ck=>?_;refine ae 4 ?_;refine az 6 ?_;refine aF ?_;refine ae 7 ?_;refine ae 8 ?_;refine ae 9 ?_;refine ae 10 ?_;refine bA ?_;refine KS rfl rfl ag aV gA rfl rfl rfl rfl (.skip (.cons (.skip (.skip (dv N F))))) ?_;rw[afz L9 r'];exact⟨Ar,cr,rfl,rfl⟩
theorem Ti(HT:bL B w0){b:al}(hb:eM B w0 F A c b)(de:b.length≤1000000000)(P5:(dI b).2.1.length≤1000000):a_ B w0 70 [.slice A b.length c] F (ak7 (lh b) F):=by
 by_cases h:(ig b).2.2.2=0
 ·exact Tk HT hb de P5 h
 ·exact Tj HT hb de P5 h
end
theorem aoD{P:Prop}(h:P:=by(first|exact .inl jZ|exact⟨fun k=>.inr k,fun k=>k.resolve_left jZ⟩)):P:=h
def fW(b:al):Int×Int:=if (marked b).1=1∨(marked b).1=2 then ((marked b).1,0) else if (ek b).2=0 then (3,0) else if (marked b).1=3 then (0,5) else (0,(marked b).2)
def jW(v:Int)(o:aR)(L:List aI):al×Int:=if v=1 then sm o L else if v=2 then uM o L else if v=3 then sA o L else ([],4)
structure Fits(b:al):Prop where
 all:b.length≤1000000000
 few:fW b≠(3,0)→b.length≤1000000
 in3:(dI b).2.1.length≤1000000
theorem Fits.yD{b:al}(h:b.length≤1000000):Fits b:=by
 refine⟨aa,fun _=>h,?_⟩;by_cases q:(dI b).2.2.2=0
 ·have:=(vt q).2.2.2;omega
 ·by_cases q1:(ek b).2≠0
  ·rw[FK q1];exact bS _
  ·by_cases q2:hE (ek b).1≠0
   ·rw[K9 q1 q2];exact bS _
   ·by_cases q3:(Bw b).2.2≠0
    ·rw[S_ q1 q2 q3];exact bS _
    ·rw[Ta q1 q2 q3]at q;exact absurd rfl q
noncomputable def eo(b:al):Int×aR×List aI×Nat×Nat×Int:=
 if (fW b).1=1 then (1,(l8 b).1,(l8 b).2.1,(l8 b).2.2.1,0,(l8 b).2.2.2)
 else if (fW b).1=2 then (2,(mA b).1,(mA b).2.1,(mA b).2.2.1,0,(mA b).2.2.2)
 else if (fW b).1=3 then (3,(lh b).1,(lh b).2.1,(lh b).2.2.1,(lh b).2.2.2.1,(lh b).2.2.2.2)
 else (0,h_,[],0,0,(fW b).2)
theorem Xs(b:al):fW b=(1,0)∨fW b=(2,0)∨fW b=(3,0)∨((fW b).1=0∧(fW b).2≠0):=by
 unfold fW;by_cases h1:(marked b).1=1∨(marked b).1=2
 ·rw[ao h1];rcases h1 with h|h<;>rw[h]<;>simp
 ·rw[aw h1];by_cases h2:(ek b).2=0
  ·rw[ao h2];simp
  ·rw[aw h2];by_cases h3:(marked b).1=3
   ·rw[ao h3];simp
   ·rw[aw h3];refine .inr (.inr (.inr ⟨rfl,?_⟩));show(marked b).2≠0;unfold marked at h1 h3⊢;split
    ·decide
    ·split
     ·decide
     ·split
      ·decide
      ·rename_i q1 q2 q3;rw[aw q1,aw q2,aw q3]at h1 h3;simp only at h1 h3;exfalso;exact q3 (fun k=>by unfold PL at k;omega)
theorem uS(HT:bL B w0){b:al}(hb:eM B w0 F A c b)(de:b.length≤1000000000):a_ B w0 56 [.slice A b.length c] F (fun r L=>r= .tuple #[ah (fW b).1,ah (fW b).2]∧L=F):=by
 have e1:∀(h:(marked b).1=1∨(marked b).1=2),fW b=((marked b).1,0):=fun h=>by unfold fW;rw[ao h]
 have e2:∀(h:¬((marked b).1=1∨(marked b).1=2)) (h2:(ek b).2=0),fW b=(3,0):=fun h h2=>by unfold fW;rw[aw h,ao h2]
 have e3:∀(h:¬((marked b).1=1∨(marked b).1=2)) (h2:¬(ek b).2=0) (h3:(marked b).1=3),fW b=(0,5):=fun h h2 h3=>by unfold fW;rw[aw h,aw h2,ao h3]
 have e4:∀(h:¬((marked b).1=1∨(marked b).1=2)) (h2:¬(ek b).2=0) (h3:¬(marked b).1=3),fW b=(0,(marked b).2):=fun h h2 h3=>by unfold fW;rw[aw h,aw h2,aw h3]
 refine fw func56 26 [0] ?_;refine bO ?_;refine ai rfl (uv hb aa) ?_;refine cZ ?_;refine bU 6 17 [0,4,5] ((marked b).1=1∨(marked b).1=2) ?_ ?_
 ·refine bA ?_;refine aL rfl rfl rfl (fun jZ=>?_) (fun jZ=>?_)
  ·refine b8 ?_;exact aP (by exact dN aoD)
  ·refine be ?_;exact aP (by exact ej aoD)
 ·refine bA ?_;refine aj (fun pn=>?_) fun pn=>?_
  ·refine cZ ?_;rw[e1 pn];exact⟨rfl,rfl⟩
  ·refine bA ?_;refine ai rfl (aje HT hb de) ?_;refine bA ?_;refine aj (fun pV=>?_) fun pV=>?_
   ·refine bB ?_;rw[e2 pn pV];exact⟨rfl,rfl⟩
   ·refine bK ?_;refine aj (fun rN=>?_) fun rN=>?_
    ·refine bB ?_;rw[e3 pn pV rN];exact⟨rfl,rfl⟩
    ·refine cH ?_;rw[e4 pn pV rN];exact⟨rfl,rfl⟩
theorem Qs(HT:bL B w0){o:aR}{L:List aI}(hx:∀x∈L,x.1<18446744073709551616)(hb:aK B w0 F 4 (.slice A L.length c) L.length (dh L)):a_ B w0 10 [ah 1,.agg (aR.cells o).toArray,.slice A L.length c] F (LQ (jW 1 o L) F):=by
 have e:jW 1 o L=sm o L:=rfl;rw[e];have Cb:=fun M (hb:aK B w0 M 4 (.slice A L.length c) L.length (dh L))=>ZA (F:=M) (o:=o) HT hx hb;obtain⟨W,hW⟩:=cK (sm o L);rw[←hW];simp only[←hW]at Cb;have pX:=fC o;refine fw func10 30 [0,1,2] ?_;refine be ?_;refine bh fun g4=>?_;refine B9 ?_;refine aj (fun h9=>?_) fun h9=>?_
 ·refine be ?_;refine ab (bY 6 ag rfl aV (aR.cells o) rfl rfl) rfl ?_;refine aF ?_;refine ay rfl (Cb _ hb.cons) fun xh F9=>?_;refine bO ?_;refine aq (.cons (.skip (.refl _))) ?_;refine aF ?_;exact⟨xh,F9,rfl,rfl⟩
 ·exfalso;exact h9 rfl
theorem Qt(HT:bL B w0){o:aR}{L:List aI}(hx:∀x∈L,x.1<18446744073709551616)(hb:aK B w0 F 4 (.slice A L.length c) L.length (dh L)):a_ B w0 10 [ah 2,.agg (aR.cells o).toArray,.slice A L.length c] F (LQ (jW 2 o L) F):=by
 have e:jW 2 o L=uM o L:=rfl;rw[e];have Cb:=fun M (hb:aK B w0 M 4 (.slice A L.length c) L.length (dh L))=>aat (F:=M) (o:=o) HT hx hb;obtain⟨W,hW⟩:=cK (uM o L);rw[←hW];simp only[←hW]at Cb;have pX:=fC o;refine fw func10 30 [0,1,2] ?_;refine be ?_;refine bh fun g4=>?_;refine B9 ?_;refine aj (fun h9=>?_) fun h9=>?_
 ·exfalso;exact absurd h9 aB
 ·refine bz ?_;refine aj (fun ki=>?_) fun ki=>?_
  ·refine be ?_;refine ab (bY 6 ag rfl aV (aR.cells o) rfl rfl) rfl ?_;refine aF ?_;refine ay rfl (Cb _ hb.cons) fun xh F9=>?_;refine bO ?_;refine aq (.cons (.skip (.refl _))) ?_;refine aF ?_;exact⟨xh,F9,rfl,rfl⟩
  ·exfalso;exact ki rfl
theorem Qu(HT:bL B w0){o:aR}{L:List aI}(hx:∀x∈L,x.1<18446744073709551616)(hb:aK B w0 F 4 (.slice A L.length c) L.length (dh L)):a_ B w0 10 [ah 3,.agg (aR.cells o).toArray,.slice A L.length c] F (LQ (jW 3 o L) F):=by
 have e:jW 3 o L=sA o L:=rfl;rw[e];have Cb:=fun M (hb:aK B w0 M 4 (.slice A L.length c) L.length (dh L))=>afv (F:=M) (o:=o) HT hx hb;obtain⟨W,hW⟩:=cK (sA o L);rw[←hW];simp only[←hW]at Cb;have pX:=fC o;refine fw func10 30 [0,1,2] ?_;refine be ?_;refine bh fun g4=>?_;refine B9 ?_;refine aj (fun h9=>?_) fun h9=>?_
 ·exfalso;exact absurd h9 aB
 ·refine bz ?_;refine aj (fun ki=>?_) fun ki=>?_
  ·exfalso;exact absurd ki aB
  ·refine bz ?_;refine aj (fun m7=>?_) fun m7=>?_
   ·refine be ?_;refine ab (bY 6 ag rfl aV (aR.cells o) rfl rfl) rfl ?_;refine aF ?_;refine ay rfl (Cb _ hb.cons) fun xh F9=>?_;refine b8 ?_;refine ve [6,7] ?_;refine b8 ?_;refine aq (.cons (.skip (.refl _))) ?_;refine aF ?_;exact⟨xh,F9,rfl,rfl⟩
   ·exfalso;exact m7 rfl
theorem Qv{v:Int}{o:aR}{L:List aI}(h1:¬v=1)(h2:¬v=2)(h3:¬v=3):a_ B w0 10 [ah v,.agg (aR.cells o).toArray,.slice A L.length c] F (LQ (jW v o L) F):=by
 have e:jW v o L=([],4):=by unfold jW;rw[aw h1,aw h2,aw h3]
 rw[e];refine fw func10 30 [0,1,2] ?_;refine be ?_;refine bh fun g4=>?_;refine B9 ?_;refine aj (fun h9=>?_) fun h9=>?_
 ·exfalso;exact h1 h9
 ·refine bz ?_;refine aj (fun ki=>?_) fun ki=>?_
  ·exfalso;exact h2 ki
  ·refine bz ?_;refine aj (fun m7=>?_) fun m7=>?_
   ·exfalso;exact h3 m7
   ·refine bB ?_;refine aD 5 1 none ?_;refine aq (.cons (.skip (.refl _))) ?_;refine aF ?_;exact⟨none,0,rfl,rfl⟩
theorem C2(HT:bL B w0){v:Int}{o:aR}{L:List aI}(hx:∀x∈L,x.1<18446744073709551616)(hb:aK B w0 F 4 (.slice A L.length c) L.length (dh L)):a_ B w0 10 [ah v,.agg (aR.cells o).toArray,.slice A L.length c] F (LQ (jW v o L) F):=by
 by_cases h1:v=1
 ·subst h1;exact Qs HT hx hb
 ·by_cases h2:v=2
  ·subst h2;exact Qt HT hx hb
  ·by_cases h3:v=3
   ·subst h3;exact Qu HT hx hb
   ·exact Qv h1 h2 h3
theorem zy{C:Cx}{fr:Fr}{L:aQ}{f:Ch→aQ}{x y:Operand}{t ty bt:TypeId}{o:aR}{c0 c1 c2 c3 c4 x0 x1 x2 x3 x4 x5 va:Value}(hs:pq C.P t 6=true)(he:ev fr x=some (.pointer (some ⟨g,5,none⟩)))(hv:ev fr y=some (.agg (aR.cells o).toArray))(hm:mG (.bE g bt [c0,c1,c2,c3,c4,x0,x1,x2,x3,x4,x5,va]) L f):
  qx C fr L (.store t x y) ty (fun p L'=>L'=f (.bE g bt [c0,c1,c2,c3,c4,ah o.1,.bool o.2.1,ah o.2.2.1,ah o.2.2.2.1,ah o.2.2.2.2.1,ah o.2.2.2.2.2,va])):=
 ph 6 hs he hv (fC o) hm rfl ak
abbrev Upb(g:Nat)(v:Int)(m nb bad:Nat)(cl:Bool)(o:aR)(va:Value):Ch:=.bE g 69 [ah v,ah (m:Int),ah (nb:Int),ah (bad:Int),.bool cl,ah o.1,.bool o.2.1,ah o.2.2.1,ah o.2.2.2.1,ah o.2.2.2.2.1,ah o.2.2.2.2.2,va]
def UpE(e:Int)(F:aQ)(r:Value)(L:aQ):Prop:=∃Y,r= .tuple #[.pointer none,ah e]∧L=Y++F
def UpK(v:Int)(o:aR)(l:List aI)(nb bad:Nat)(F:aQ)(r:Value)(L:aQ):Prop:=∃g A' c',r= .tuple #[br g,ah 0]∧L=Upb g v l.length nb bad false o (.slice A' l.length c'):: .own 62 4 A' l.length c' (dh l)::F
def ago(v:Int)(o:aR)(l:List aI)(nb bad:Nat)(e:Int)(F:aQ)(r:Value)(L:aQ):Prop:=(e≠0∧UpE e F r L)∨(e=0∧UpK v o l nb bad F r L)
theorem Py(HT:bL B w0){b:al}(hb:eM B w0 F A c b)(de:b.length≤1000000):a_ B w0 69 [.slice A b.length c] F (UnA (mA b) F):=by
 by_cases h:(iq b).2.2=0
 ·exact PD HT hb de h
 ·exact Pz HT hb de h
theorem aaY(HT:bL B w0){b:al}(hb:eM B w0 F A c b)(hf:Fits b)(hV:fW b=(1,0)):a_ B w0 29 [.slice A b.length c] F (ago 1 (l8 b).1 (l8 b).2.1 (l8 b).2.2.1 0 (l8 b).2.2.2 F):=by
 have de:=hf.all;have x_:=uS (F:=F) HT hb de;rw[hV]at x_;have hup:=fun M (hb:eM B w0 M A c b)=>OD (F:=M) HT hb (hf.few (by rw[hV];decide));obtain⟨R,hR⟩:=cK (l8 b);rw[←hR];simp only[←hR]at hup;have pX:=fC R.1;refine fw func29 92 [0] ?_;refine bO ?_;refine ai rfl (x_) ?_;refine bB ?_;refine ab (bw [(0,_)] [ah 0,ah 0,ah 0,ah 0,.bool false] [0] [_,_,_,_,_] rfl rfl ag) rfl ?_;refine ab (bw [(0,_)] [ah 0,ah 0,ah 0,ah 0,.bool false,ah 0,.bool false,ah 0,ah 0,ah 0,ah 0,.slice none 0 0] [0] [_,_,_,_,_,_,_,_,_,_,_,_] rfl rfl ag) rfl ?_;refine bh fun g15=>?_;refine jQ ?_;refine aj (fun iF=>?_) fun iF=>?_
 ·refine bG ?_;refine ay rfl (hup _ hb.cons) fun Bg Di=>?_;refine bK ?_;refine kN (zy (o:=R.1) ag rfl rfl aV) ?_;refine bI ?_;refine ve [5,6] ?_;refine bO ?_;refine aj (fun PZ=>?_) fun PZ=>?_
  ·refine bB ?_;exact .inl ⟨PZ,[_,_],rfl,rfl⟩
  ·refine acw ?_;refine aq ((gk (ed (.refl _)))) ?_;refine aF ?_;exact .inr ⟨bH PZ,_,Bg,Di,rfl,rfl⟩
 ·exfalso;exact iF rfl
theorem aaZ(HT:bL B w0){b:al}(hb:eM B w0 F A c b)(hf:Fits b)(hV:fW b=(2,0)):a_ B w0 29 [.slice A b.length c] F (ago 2 (mA b).1 (mA b).2.1 (mA b).2.2.1 0 (mA b).2.2.2 F):=by
 have de:=hf.all;have x_:=uS (F:=F) HT hb de;rw[hV]at x_;have hup:=fun M (hb:eM B w0 M A c b)=>Py (F:=M) HT hb (hf.few (by rw[hV];decide));obtain⟨R,hR⟩:=cK (mA b);rw[←hR];simp only[←hR]at hup;have pX:=fC R.1;refine fw func29 92 [0] ?_;refine bO ?_;refine ai rfl (x_) ?_;refine bB ?_;refine ab (bw [(0,_)] [ah 0,ah 0,ah 0,ah 0,.bool false] [0] [_,_,_,_,_] rfl rfl ag) rfl ?_;refine ab (bw [(0,_)] [ah 0,ah 0,ah 0,ah 0,.bool false,ah 0,.bool false,ah 0,ah 0,ah 0,ah 0,.slice none 0 0] [0] [_,_,_,_,_,_,_,_,_,_,_,_] rfl rfl ag) rfl ?_;refine bh fun g15=>?_;refine jQ ?_;refine aj (fun iF=>?_) fun iF=>?_
 ·exfalso;exact absurd iF aB
 ·refine bz ?_;refine aj (fun y_=>?_) fun y_=>?_
  ·refine bG ?_;refine ay rfl (hup _ hb.cons) fun Bg Di=>?_;refine bK ?_;refine kN (zy (o:=R.1) ag rfl rfl aV) ?_;refine bI ?_;refine ve [5,6] ?_;refine bO ?_;refine aj (fun PZ=>?_) fun PZ=>?_
   ·refine bB ?_;exact .inl ⟨PZ,[_,_],rfl,rfl⟩
   ·refine acw ?_;refine aq ((gk (ed (.refl _)))) ?_;refine aF ?_;exact .inr ⟨bH PZ,_,Bg,Di,rfl,rfl⟩
  ·exfalso;exact y_ rfl
theorem aa0(HT:bL B w0){b:al}(hb:eM B w0 F A c b)(hf:Fits b)(hV:fW b=(3,0)):a_ B w0 29 [.slice A b.length c] F (ago 3 (lh b).1 (lh b).2.1 (lh b).2.2.1 (lh b).2.2.2.1 (lh b).2.2.2.2 F):=by
 have de:=hf.all;have x_:=uS (F:=F) HT hb de;rw[hV]at x_;have hup:=fun M (hb:eM B w0 M A c b)=>Ti (F:=M) HT hb de hf.in3;obtain⟨R,hR⟩:=cK (lh b);rw[←hR];simp only[←hR]at hup;have pX:=fC R.1;refine fw func29 92 [0] ?_;refine bO ?_;refine ai rfl (x_) ?_;refine bB ?_;refine ab (bw [(0,_)] [ah 0,ah 0,ah 0,ah 0,.bool false] [0] [_,_,_,_,_] rfl rfl ag) rfl ?_;refine ab (bw [(0,_)] [ah 0,ah 0,ah 0,ah 0,.bool false,ah 0,.bool false,ah 0,ah 0,ah 0,ah 0,.slice none 0 0] [0] [_,_,_,_,_,_,_,_,_,_,_,_] rfl rfl ag) rfl ?_;refine bh fun g15=>?_;refine jQ ?_;refine aj (fun iF=>?_) fun iF=>?_
 ·exfalso;exact absurd iF aB
 ·refine bz ?_;refine aj (fun y_=>?_) fun y_=>?_
  ·exfalso;exact absurd y_ aB
  ·refine b8 ?_;refine ve [0,5,6,55] ?_;refine aF ?_;refine aj (fun Yp=>?_) fun Yp=>?_
   ·refine bz ?_;refine ay rfl (hup _ hb.cons) fun Bg Di=>?_;refine bI ?_;refine kN (zy (o:=R.1) ag rfl rfl aV) ?_;refine cH ?_;refine ve [5,6] ?_;refine bO ?_;refine aj (fun PZ=>?_) fun PZ=>?_
    ·refine bB ?_;exact .inl ⟨PZ,[_,_],rfl,rfl⟩
    ·refine acw ?_;refine aq ((gk (ed (.refl _)))) ?_;refine aF ?_;exact .inr ⟨bH PZ,_,Bg,Di,rfl,rfl⟩
   ·exfalso;exact Yp rfl
theorem aa1(HT:bL B w0){b:al}(hb:eM B w0 F A c b)(hf:Fits b)(hV:(fW b).1=0)(hV2:(fW b).2≠0):a_ B w0 29 [.slice A b.length c] F (UpE (fW b).2 F):=by
 have x_:=uS (F:=F) HT hb hf.all;rw[hV]at x_;refine fw func29 92 [0] ?_;refine bO ?_;refine ai rfl (x_) ?_;refine bB ?_;refine ab (bw [(0,_)] [ah 0,ah 0,ah 0,ah 0,.bool false] [0] [_,_,_,_,_] rfl rfl ag) rfl ?_;refine ab (bw [(0,_)] [ah 0,ah 0,ah 0,ah 0,.bool false,ah 0,.bool false,ah 0,ah 0,ah 0,ah 0,.slice none 0 0] [0] [_,_,_,_,_,_,_,_,_,_,_,_] rfl rfl ag) rfl ?_;refine bh fun g15=>?_;refine jQ ?_;refine aj (fun iF=>?_) fun iF=>?_
 ·exfalso;exact absurd iF aB
 ·refine bz ?_;refine aj (fun y_=>?_) fun y_=>?_
  ·exfalso;exact absurd y_ aB
  ·refine b8 ?_;refine ve [0,5,6,55] ?_;refine aF ?_;refine aj (fun Yp=>?_) fun Yp=>?_
   ·exfalso;exact absurd Yp aB
   ·refine bB ?_;refine aj (fun PZ=>?_) fun PZ=>?_
    ·refine bB ?_;exact⟨[_],rfl,rfl⟩
    ·exfalso;exact PZ hV2
def UpR(R:Int×aR×List aI×Nat×Nat×Int)(F:aQ)(r:Value)(L:aQ):Prop:=ago R.1 R.2.1 R.2.2.1 R.2.2.2.1 R.2.2.2.2.1 R.2.2.2.2.2 F r L
theorem LZ(HT:bL B w0){b:al}(hb:eM B w0 F A c b)(hf:Fits b):a_ B w0 29 [.slice A b.length c] F (UpR (eo b) F):=by
 rcases Xs b with h|h|h|⟨h,h2⟩
 ·have e:eo b=(1,(l8 b).1,(l8 b).2.1,(l8 b).2.2.1,0,(l8 b).2.2.2):=by unfold eo;rw[h];rfl
  rw[e];exact aaY HT hb hf h
 ·have e:eo b=(2,(mA b).1,(mA b).2.1,(mA b).2.2.1,0,(mA b).2.2.2):=by unfold eo;rw[h];rfl
  rw[e];exact aaZ HT hb hf h
 ·have e:eo b=(3,(lh b).1,(lh b).2.1,(lh b).2.2.1,(lh b).2.2.2.1,(lh b).2.2.2.2):=by unfold eo;rw[h];rfl
  rw[e];exact aa0 HT hb hf h
 ·have e:eo b=(0,h_,[],0,0,(fW b).2):=by unfold eo;rw[h];rfl
  rw[e];exact(aa1 HT hb hf h h2).mono fun r L hr=>.inl ⟨h2,hr⟩
abbrev WO(l:List aI):Prop:=∀r∈l,r.1<18446744073709551616
theorem adS(s:Cs):s.num<18446744073709551616:=by
 unfold Cs.num;split
 ·omega
 ·exact(fg _).1
theorem I2(b:Bool):∀(f:Nat) (s:Cs) (o:List aI),WO o→WO (ot b f s o).1
 |0,s,o,h=>h
 |f+1,s,o,h=>by
  by_cases h1:s.left=0
  ·rw[AP h1];exact h
  ·by_cases he:(dZ b s).2.e≠0
   ·rw[AO h1 he];intro r hr;cases hr
   ·rw[E' h1 he];refine I2 b f _ _ fun r hr=>?_;rcases dz.1 hr with hr|hr
    ·exact h r hr
    ·rw[lJ]at hr;subst hr;unfold dZ;simp only;split
     ·exact adS _
     ·omega
theorem aiL(b:Bool)(l:al):WO (qO b l).1:=I2 b _ _ _ fun r hr=>by cases hr
theorem ad4(s:Cs):WO (jM s).1:=by
 unfold jM;split
 ·intro r hr;cases hr
 ·split
  ·intro r hr;cases hr
  ·split
   ·intro r hr;cases hr
   ·exact aiL _ _
theorem OC:∀(f:Nat) (s:Cs) (o:List aI),WO o→WO (oC f s o).1
 |0,s,o,h=>h
 |f+1,s,o,h=>by
  rw[oC];split
  ·intro r hr;cases hr
  ·refine OC f _ _ fun r hr=>?_;rcases dz.1 hr with hr|hr
   ·exact h r hr
   ·exact ad4 s r hr
theorem Zv(b:al):WO (l8 b).2.1:=by
 unfold l8;split
 ·intro r hr;cases hr
 ·split
  ·intro r hr;cases hr
  ·split
   ·intro r hr;cases hr
   ·show WO (kG (gU b).1).1;unfold kG;split
    ·intro r hr;cases hr
    ·split
     ·intro r hr;cases hr
     ·split
      ·intro r hr;cases hr
      ·exact OC _ _ _ fun r hr=>by cases hr
theorem aao{b:al}(de:b.length≤1000000):WO (mA b).2.1:=by
 by_cases h:(iq b).2.2≠0
 ·rw[afN h];intro r hr;cases hr
 ·by_cases h2:(jl (iq b).2.1).2≠0
  ·rw[afO h h2];intro r hr;cases hr
  ·rw[afP h h2];exact VO (Px de (bH h))
theorem aad{b:al}(de:(dI b).2.1.length≤1000000):WO (lh b).2.1:=by
 by_cases h:(ig b).2.2.2≠0
 ·rw[afx h];intro r hr;cases hr
 ·by_cases h2:(jl (ig b).2.1).2≠0
  ·rw[afy h h2];intro r hr;cases hr
  ·rw[afz h h2];exact VO (Pk de (bH h))
theorem Qr{b:al}(hf:Fits b):WO (eo b).2.2.1:=by
 unfold eo;split
 ·exact Zv b
 ·split
  ·rename_i q2;exact aao (hf.few fun k=>by rw[k]at q2;exact absurd q2 aB)
  ·split
   ·exact aad hf.in3
   ·intro r hr;cases hr
noncomputable abbrev C5(b:al):Int:=(eo b).2.2.2.2.2
noncomputable def od(b:al):List aI×Int×Int:=if C5 b≠0 then ([],0,C5 b) else ((eo b).2.2.1,(eo b).1,0)
noncomputable def sK(b:al):aR×Int:=if C5 b≠0 then (h_,C5 b) else ((eo b).2.1,0)
noncomputable def xx(b:al):Bool:=decide (jW (eo b).1 (eo b).2.1 (eo b).2.2.1=(b,0))
abbrev Jq:=Int×Nat×Nat×Nat×Bool
def Jq.cells(r:Jq):cV:=[ah r.1,ah (r.2.1:Int),ah (r.2.2.1:Int),ah (r.2.2.2.1:Int),.bool r.2.2.2.2]
noncomputable def kj(b:al):Jq×Int:=if C5 b≠0 then ((0,0,0,0,false),C5 b) else (((eo b).1,(eo b).2.2.1.length,(eo b).2.2.2.1,(eo b).2.2.2.2.1,xx b),0)
theorem C3(HT:bL B w0){b:al}(hb:eM B w0 F A c b)(hf:Fits b)(h:C5 b≠0):a_ B w0 29 [.slice A b.length c] F (UpE (C5 b) F):=
 (LZ HT hb hf).mono fun r L hr=>hr.elim (fun q=>q.2) fun q=>absurd q.1 h
theorem C4(HT:bL B w0){b:al}(hb:eM B w0 F A c b)(hf:Fits b)(h:C5 b=0):a_ B w0 29 [.slice A b.length c] F (UpK (eo b).1 (eo b).2.1 (eo b).2.2.1 (eo b).2.2.2.1 (eo b).2.2.2.2.1 F):=
 (LZ HT hb hf).mono fun r L hr=>hr.elim (fun q=>absurd h q.1) fun q=>q.2
def AxA(R:List aI×Int×Int)(F:aQ)(r:Value)(L:aQ):Prop:=∃A' c',r= .tuple #[.slice A' R.1.length c',ah R.2.1,ah R.2.2]∧L= .own 62 4 A' R.1.length c' (dh R.1)::F
theorem Xu(HT:bL B w0){b:al}(hb:eM B w0 F A c b)(hf:Fits b)(h:C5 b≠0):a_ B w0 13 [.slice A b.length c] F (AxA (od b) F):=by
 have e:od b=([],0,C5 b):=by unfold od;rw[ao h]
 refine fw func13 24 [0] ?_;refine bB ?_;refine aX aly rfl (C3 HT hb hf h) rfl ?_;rintro _ _ ⟨Y,rfl,cA⟩;obtain rfl:=cA.symm;refine dQ ?_;refine aj (fun mE=>?_) fun mE=>?_
 ·refine bB ?_;refine aD 62 4 none ?_;refine aq (.cons (dv Y F)) ?_;refine aF ?_;rw[e];exact⟨none,0,rfl,rfl⟩
 ·exfalso;exact mE h
theorem Xv(HT:bL B w0){b:al}(hb:eM B w0 F A c b)(hf:Fits b)(h:C5 b=0):a_ B w0 13 [.slice A b.length c] F (AxA (od b) F):=by
 have e:od b=((eo b).2.2.1,(eo b).1,0):=by unfold od;rw[aw (fun q=>q h)]
 rw[e];refine fw func13 24 [0] ?_;refine bB ?_;refine dX rfl (C4 HT hb hf h) fun g9 A9 c9=>?_;refine dQ ?_;refine aj (fun mE=>?_) fun mE=>?_
 ·exfalso;exact mE rfl
 ·refine jQ ?_;refine nj [(2,_),(3,_),(4,_)] ⟨rfl,rfl,rfl,trivial⟩ ?_;refine be ?_;refine aq (.skip (.refl _)) ?_;refine aF ?_;exact⟨A9,c9,rfl,rfl⟩
theorem Hj(HT:bL B w0){b:al}(hb:eM B w0 F A c b)(hf:Fits b):a_ B w0 13 [.slice A b.length c] F (AxA (od b) F):=by
 by_cases h:C5 b=0
 ·exact Xv HT hb hf h
 ·exact Xu HT hb hf h
def AoA(R:aR×Int)(F:aQ)(r:Value)(L:aQ):Prop:=r= .tuple #[.agg (aR.cells R.1).toArray,ah R.2]∧L=F
theorem agv(HT:bL B w0){b:al}(hb:eM B w0 F A c b)(hf:Fits b)(h:C5 b≠0):a_ B w0 14 [.slice A b.length c] F (AoA (sK b) F):=by
 have Ed:=fC h_;have e:sK b=(h_,C5 b):=by unfold sK;rw[ao h]
 refine fw func14 19 [0] ?_;refine be ?_;refine bc fun g2=>?_;refine bz ?_;refine aX aly rfl (C3 HT hb.cons hf h) rfl ?_;rintro _ _ ⟨Y,rfl,cA⟩;obtain rfl:=cA.symm;refine bO ?_;refine fP ym ?_;refine bG ?_;refine aj (fun mD=>?_) fun mD=>?_
 ·refine be ?_;refine ab (cu [ah 0,.bool false,ah 0,ah 0,ah 0,ah 0] ag) rfl ?_;refine bK ?_;refine gQ rfl rfl ag aV gA rfl (.skip (dv Y F)) ?_;rw[e];exact⟨rfl,rfl⟩
 ·exfalso;exact mD h
theorem agw(HT:bL B w0){b:al}(hb:eM B w0 F A c b)(hf:Fits b)(h:C5 b=0):a_ B w0 14 [.slice A b.length c] F (AoA (sK b) F):=by
 have e:sK b=((eo b).2.1,0):=by unfold sK;rw[aw (fun q=>q h)]
 have pX:=fC (eo b).2.1;refine fw func14 19 [0] ?_;refine be ?_;refine bc fun g2=>?_;refine bz ?_;refine dX rfl (C4 HT hb.cons hf h) fun g8 A8 c8=>?_;refine dQ ?_;refine aj (fun mD=>?_) fun mD=>?_
 ·exfalso;exact mD rfl
 ·refine bK ?_;refine ab (bY 6 ag rfl aV (aR.cells (eo b).2.1) rfl rfl) rfl ?_;refine bG ?_;refine gQ rfl rfl ag aV gA rfl (.skip (.skip (.skip (.refl _)))) ?_;rw[e];exact⟨rfl,rfl⟩
theorem TY(HT:bL B w0){b:al}(hb:eM B w0 F A c b)(hf:Fits b):a_ B w0 14 [.slice A b.length c] F (AoA (sK b) F):=by
 by_cases h:C5 b=0
 ·exact agw HT hb hf h
 ·exact agv HT hb hf h
theorem aow{P:Prop}(h:P:=by(first|exact fun k=>y_ (by rw[k])|exact⟨fun k=>Prod.ext k y_,fun k=>by rw[k]⟩)):P:=h
theorem yK(r:Jq):∀u∈Jq.cells r,u.oneCell'=true:=by simp[Jq.cells,Value.oneCell']
theorem abd{l l2:al}(e1:n=l.length)(e2:n2=l2.length)(h1:aK B w0 F 1 (.slice A n c) n (bv l))(h2:aK B w0 F 1 (.slice A2 n2 c2) n2 (bv l2)):a_ B w0 32 [.slice A n c,.slice A2 n2 c2] F (fun r L=>r= .bool (decide (l=l2))∧L=F):=by
 refine fw func32 10 [0,1] ?_;refine bI ?_;refine ab (pe underlying27 underlying5 underlying9 rfl h1) rfl ?_;refine aF ?_;refine ab (pe underlying27 underlying5 underlying9 rfl h2) rfl ?_;refine bz ?_;exact⟨rfl,rfl⟩
def VeA(R:Jq×Int)(F:aQ)(r:Value)(L:aQ):Prop:=r= .tuple #[.agg (Jq.cells R.1).toArray,ah R.2]∧L=F
theorem Xw(HT:bL B w0){b:al}(hb:eM B w0 F A c b)(hf:Fits b)(h:C5 b≠0):a_ B w0 17 [.slice A b.length c] F (VeA (kj b) F):=by
 have Ed:=yK (0,0,0,0,false);have e:kj b=((0,0,0,0,false),C5 b):=by unfold kj;rw[ao h]
 refine fw func17 48 [0] ?_;refine be ?_;refine bc fun g2=>?_;refine bz ?_;refine aX aly rfl (C3 HT hb.cons hf h) rfl ?_;rintro _ _ ⟨Y,rfl,cA⟩;obtain rfl:=cA.symm;refine bO ?_;refine fP ym ?_;refine bG ?_;refine aj (fun mE=>?_) fun mE=>?_
 ·refine be ?_;refine ab (cu [ah 0,ah 0,ah 0,ah 0,.bool false] ag) rfl ?_;refine bK ?_;refine gQ rfl rfl ag aV gA rfl (.skip (dv Y F)) ?_;rw[e];exact⟨rfl,rfl⟩
 ·exfalso;exact mE h
theorem Xx(HT:bL B w0){b:al}(hb:eM B w0 F A c b)(hf:Fits b)(h:C5 b=0):a_ B w0 17 [.slice A b.length c] F (VeA (kj b) F):=by
 have hC:xx b=decide (jW (eo b).1 (eo b).2.1 (eo b).2.2.1=(b,0)):=rfl;have e:kj b=(((eo b).1,(eo b).2.2.1.length,(eo b).2.2.2.1,(eo b).2.2.2.2.1,xx b),0):=by unfold kj;rw[aw (fun q=>q h)]
 have fN:=Qr hf;have hup:=fun M (hb:eM B w0 M A c b)=>C4 (F:=M) HT hb hf h;obtain⟨V,hV⟩:=cK (eo b);rw[←hV]at hC e fN;simp only[←hV]at hup;obtain⟨v,o,l,nb,bad,er⟩:=V;simp only at hC e fN hup;have Cb:=fun M A8 c8 (hb:aK B w0 M 4 (.slice A8 l.length c8) l.length (dh l))=>C2 (F:=M) (v:=v) (o:=o) HT fN hb;obtain⟨W,hW⟩:=cK (jW v o l);rw[←hW]at hC;simp only[←hW]at Cb;obtain⟨cl,tB⟩:=cK (xx b);rw[←tB]at hC e;rw[e];have pX:=yK (v,l.length,nb,bad,cl);refine fw func17 48 [0] ?_;refine be ?_;refine bc fun g2=>?_;refine bz ?_;refine dX rfl (hup _ hb.cons) fun g8 A8 c8=>?_;refine dQ ?_;refine aj (fun mE=>?_) fun mE=>?_
 ·exfalso;exact mE rfl
 ·refine bA ?_;refine cF (Upb g8 v l.length nb bad false o (.slice A8 l.length c8):: .own 62 4 A8 l.length c8 (dh l):: .bE g2 41 [ah 0,ah 0,ah 0,ah 0,.bool false]::F) ?_;refine ae 0 ?_;refine ae 1 ?_;refine ae 2 ?_;refine ae 3 ?_;refine ae 4 ?_;refine ae 5 ?_;refine ae 6 ?_;refine ae 7 ?_;refine aW 8 rfl (bY 6 ag rfl aV (aR.cells o) rfl rfl) ?_;refine ae 9 ?_;refine ae 10 ?_;refine ae 11 ?_;refine ae 12 ?_;refine az 13 ?_;refine b7 rfl rfl (Cb _ _ _ (aK.own (.tail _ (.head _)))) fun Qf c30=>?_;refine ae 14 ?_;refine ae 15 ?_;refine ae 16 ?_;refine ae 17 ?_;refine ae 18 ?_;refine cQ [0,2,4,5,6] ?_;refine b8 ?_;refine bU 7 40 [2,4,33] (W=(b,0)) ?_ ?_
  ·refine bA ?_;refine cM (fun y_=>?_) fun y_=>?_
   ·refine b8 ?_;refine ai rfl (abd (l:=W.1) (l2:=b) rfl rfl (aK.own (.head _)) hb.cons.cons.cons.cons) ?_;refine aF ?_;exact aP (by exact dN aow)
   ·refine bA ?_;exact aP (by exact eU aow)
  ·refine bK ?_;rw[←hC];refine b8 ?_;refine ab (bY 5 ag rfl aV (Jq.cells (v,l.length,nb,bad,cl)) rfl rfl) rfl ?_;refine bG ?_;refine gQ rfl rfl ag aV gA rfl (.skip (.skip (.skip (.skip (.refl _))))) ?_;exact⟨rfl,rfl⟩
theorem zi(HT:bL B w0){b:al}(hb:eM B w0 F A c b)(hf:Fits b):a_ B w0 17 [.slice A b.length c] F (VeA (kj b) F):=by
 by_cases h:C5 b=0
 ·exact Xx HT hb hf h
 ·exact Xw HT hb hf h
theorem qS{L:List aI}(h:cP L=0):dU L≤1048576∧L.length≤20000:=by
 unfold cP at h;by_cases q:20000<L.length∨(∃x∈L,uq x)∨1048576<dU L
 ·rw[ao q]at h;exact absurd h aB
 ·exact⟨aa,aa⟩
theorem Zu(o:aR)(L:List aI):marked (qI o L)=(1,0):=by
 have:=lV (v:=1) C6 ((aS o.1.toNat++(fI o.2.1::(aS L.length++aS (dR o true L).length)))++((ju true o.2.1 (dR o true L) L).flatten++my (pT 0 (tu o L++(ju true o.2.1 (dR o true L) L).flatten))));rw[←this];congr 1;unfold qI cX;show _=(dY++[1])++_;unfold tu;simp[bV]
theorem aan(o:aR)(L:List aI):marked (p7 o L)=(2,0):=by
 have:=lV (v:=2) C6 ((aS o.1.toNat++(fI o.2.1::aS o.2.2.1.toNat))++(my (pT 0 (ou o))++dy o L));rw[←this];congr 1;unfold p7 sB cX ou;show _=(dY++[2])++_;simp[bV]
theorem Jd(o:aR)(b:al):marked (lg o b)=(3,0):=by
 have:=lV (v:=3) C6 ((([fI o.2.1,UInt8.ofNat o.2.2.1.toNat,UInt8.ofNat o.2.2.2.1.toNat,UInt8.ofNat o.2.2.2.2.1.toNat]++(fF o.2.2.2.2.2.toNat 2++(fF o.1.toNat 2++fF b.length 4)))++my (pT 0 (wo o b.length)))++((ic o b).1++jm o b.length));rw[←this];congr 1
theorem Pj{o:aR}{b:al}(ho:cB 3 o=0)(hl:(ic o b).2=0):(ek (lg o b)).2=0:=by
 have h:=AY ho hl;exact bH fun q=>by
  rw[FK q]at h;exact q (dB (fun x=>x.2.2.2) h)
theorem V7{o:aR}{L:List aI}{b:al}(h:sm o L=(b,0)):cB 1 o=0∧cP L=0∧b=qI o L:=by
 unfold sm at h;by_cases q1:cB 1 o≠0
 ·rw[ao q1]at h;exact absurd (dB Prod.snd h) q1
 ·by_cases q2:cP L≠0
  ·rw[aw q1,ao q2]at h;exact absurd (dB Prod.snd h) q2
  ·rw[aw q1,aw q2]at h;exact⟨bH q1,bH q2,(dB Prod.fst h).symm⟩
theorem Hz{o:aR}{L:List aI}(h2:¬(fX o L).2≠0):cP L=0:=(Mm h2).2
theorem W7{o:aR}{L:List aI}{b:al}(h:uM o L=(b,0)):cB 2 o=0∧cP L=0∧b=p7 o L:=by
 unfold uM at h;by_cases q1:cB 2 o≠0
 ·rw[ao q1]at h;exact absurd (dB Prod.snd h) q1
 ·by_cases q2:(fX o L).2≠0
  ·rw[aw q1,ao q2]at h;exact absurd (dB Prod.snd h) q2
  ·rw[aw q1,aw q2]at h;exact⟨bH q1,Hz q2,(dB Prod.fst h).symm⟩
theorem WV{o:aR}{L:List aI}{b:al}(h:sA o L=(b,0)):cB 3 o=0∧cP L=0∧(ic o (dy o L)).2=0∧b=lg o (dy o L):=by
 by_cases q1:cB 3 o=0
 ·by_cases q2:(fX o L).2≠0
  ·rw[afA q1 q2]at h;exact absurd (dB Prod.snd h) q2
  ·by_cases q3:(ic o (dy o L)).2≠0
   ·rw[afB q1 q2 q3]at h;exact absurd (dB Prod.snd h) q3
   ·rw[Tg q1 q2 q3]at h;exact⟨q1,Hz q2,bH q3,(dB Prod.fst h).symm⟩
 ·rw[Tf q1]at h;exact absurd (dB Prod.snd h) q1
theorem TZ{v:Int}{o:aR}{L:List aI}{b:al}(h:jW v o L=(b,0)):v=1∨v=2∨v=3:=by
 unfold jW at h;by_cases h1:v=1
 ·exact .inl h1
 ·by_cases h2:v=2
  ·exact .inr (.inl h2)
  ·by_cases h3:v=3
   ·exact .inr (.inr h3)
   ·rw[aw h1,aw h2,aw h3]at h;exact absurd (dB Prod.snd h) (show(4:Int)≠0 by decide)
theorem Xt{v:Int}{o:aR}{L:List aI}{b:al}(hx:WO L)(hlen:v=2→b.length≤8388608)(hp:jW v o L=(b,0)):∃nb,eo b=(v,o,L,nb,0,0):=by
 rcases TZ hp with rfl|rfl|rfl
 ·obtain⟨h1,h2,rfl⟩:=V7 (show sm o L=(b,0) from hp);have hV:fW (qI o L)=(1,0):=by unfold fW;rw[Zu,ao (.inl rfl)]
  have e:eo (qI o L)=(1,(l8 (qI o L)).1,(l8 (qI o L)).2.1,(l8 (qI o L)).2.2.1,0,(l8 (qI o L)).2.2.2):=by unfold eo;rw[hV];rfl
  rw[e,ad6 h1 h2 hx];exact⟨_,rfl⟩
 ·obtain⟨h1,h2,rfl⟩:=W7 (show uM o L=(b,0) from hp);have hl:=hlen rfl;unfold p7 at hl;rw[aY]at hl;have hV:fW (p7 o L)=(2,0):=by unfold fW;rw[aan,ao (.inr rfl)]
  have e:eo (p7 o L)=(2,(mA (p7 o L)).1,(mA (p7 o L)).2.1,(mA (p7 o L)).2.2.1,0,(mA (p7 o L)).2.2.2):=by unfold eo;rw[hV];rfl
  rw[e,afQ h1 h2 hx (qS h2).1 aa];exact⟨_,rfl⟩
 ·obtain⟨h1,h2,h3,rfl⟩:=WV (show sA o L=(b,0) from hp);obtain⟨b,hb⟩:=cK (lg o (dy o L));have hV:fW (lg o (dy o L))=(3,0):=by
   unfold fW;rw[Jd,aw aB,ao (Pj h1 h3)]
  have e:eo (lg o (dy o L))=(3,(lh (lg o (dy o L))).1,(lh (lg o (dy o L))).2.1,(lh (lg o (dy o L))).2.2.1,(lh (lg o (dy o L))).2.2.2.1,(lh (lg o (dy o L))).2.2.2.2):=by unfold eo;rw[hV];rfl
  rw[e,Th h1 h2 hx (qS h2).1 h3];exact⟨_,rfl⟩
theorem Qq{v:Int}{o:aR}{L:List aI}{b:al}(hx:WO L)(hlen:v=2→b.length≤8388608)(hp:jW v o L=(b,0)):∃nb,kj b=((v,L.length,nb,0,true),0):=by
 obtain⟨nb,e⟩:=Xt hx hlen hp;have hC:xx b=true:=by unfold xx;rw[e];exact jT hp
 refine⟨nb,?_⟩;unfold kj C5;rw[e,aw ak,hC]
theorem XE{b:al}{pl:Bool}(h:b.length≤32768):(jA b pl).1.length≤b.length+50:=by
 have hy:=xC b pl;have e1:=aT (x:=b.length) aa;have e2:=aT (x:=(kp b pl).2.length) aa;rw[JB aa];show(cX _).length≤_;rw[du,aY];unfold xB;rw[ef,aY];omega
theorem D3{S:Nat}(hS:S≤32768)(b pl:Bool):∀(g:bf) (L:List aI),(∀x∈L,x.fits)→CX S (lens b L) g→(ju b pl g L).flatten.length≤(c_ b L).length+60*g.length
 |[],_,_,_=>by simp[ju]
 |n::g,L,hL,hf=>by
  obtain⟨f1,f2,f3,f4,f5⟩:=hf;have Iv:=oJ (b:=b) hS hL f1 f3;have h1:=XE (b:=c_ b (L.take n)) (pl:=pl) Iv;have h2:=D3 hS b pl g (L.drop n) (fun x hx=>hL x (rk hx)) agF;have h3:(c_ b L).length=(c_ b (L.take n)).length+(c_ b (L.drop n)).length:=by
   conv=>lhs;rw[←jJ n L]
   unfold c_;rw[uf,aY]
  rw[ju,wm,aY,ef,ue,cE];omega
theorem Qy{o:aR}{L:List aI}{M:Nat}(ho:cB 2 (o2 o)=0)(hc:cP L=0)(hx:∀x∈L,x.1<18446744073709551616)(hi:(qH o L).length≤M)(hM:M≤100000000000):
  (dy o L).length≤2*dU L+60*L.length+40*L.length+M+1000+(ku L).length:=by
 obtain⟨tC,rO,LB⟩:=kq hc hx;have hom:=AE (.inr (.inl rfl)) ho;obtain⟨⟨m1,m2⟩,_,m4,_⟩:=hom;have m1:16≤o.1:=m1;have m2:o.1≤32768:=m2;have GM:(dR o false L).length≤L.length:=by unfold dR;have:=mZ o.1.toNat (lens false L);rwa [et]at this
 have hrb:=vi (b:=false) hx (by have:=(qS hc).1;omega);have Io:=D3 (S:=o.1.toNat) aa false o.2.1 (dR o false L) L rO (ky _ _);have hss:∀x∈(eQ o L).map List.length,x≤2*dU L+60*L.length:=fun x hx=>by
  have h1:=pD hx;rw[←List.length_flatten]at h1;exact jc h1 (by show(ju false o.2.1 (dR o false L) L).flatten.length≤_;omega)
 have wT:=Cz o false L;have tB:=qV (L:=L) aa;have hCl:(oW L).length=(ku L).length+4:=du _;have hIl:(oY o L).length=(qH o L).length+4:=du _;have hDl:(p_ o L).length≤60+20*L.length+4:=by
  unfold p_;rw[du];have h1:=y9 (dR o false L) ((eQ o L).map List.length) (fun n hn=>Xy) (fun n hn=>by have:=hss n hn;omega) (dR o false L).length;have h2:uR (dR o false L) ((eQ o L).map List.length) (dR o false L).length=((dR o false L).zip ((eQ o L).map List.length)).flatMap fun p=>aS p.1++aS p.2:=by
   unfold uR;rw[fA (by rw[List.length_zip];omega)]
  rw[h2]at h1;have h3:=aT (x:=(dR o false L).sum) aa;have h4:=aT (x:=(dR o false L).length) aa;have h5:=aT (x:=(oW L).length) aa;have h6:=aT (x:=(oY o L).length) aa;unfold xP;simp only[aY];omega
 unfold dy;have acQ:(eQ o L).flatten.length≤2*dU L+60*L.length:=by show(ju false o.2.1 (dR o false L) L).flatten.length≤_;omega
 simp only[aY,qb];omega
structure tH(L:List aI):Prop where
 few:L.length≤30
 w:dU L≤2000
 t:WO L
theorem tH.chk{L:List aI}(h:tH L):cP L=0:=by
 unfold cP;rw[aw];rintro(q|q|q)
 ·have:=h.few;omega
 ·obtain⟨x,hx,hl⟩:=q;have h1:x.w≤dU L:=by
   unfold dU;exact pD (jb hx)
  have h2:=h.w;unfold uq at hl;unfold aI.w at h1;omega
 ·have:=h.w;omega
theorem EC{o:aR}{L:List aI}(h:tH L)(ho:cB 2 (o2 o)=0)(h1:1≤o.2.2.1)(h2:o.2.2.1≤64):(dy o L).length≤320000:=by
 have hf:=h.few;have hw:=h.w;have hi:=(RR (o:=o) h1 h2 hw aa).2 hf;have:=Qy ho h.chk h.t hi aa;have hc:=qV (L:=L) aa;omega
theorem Zc{o:aR}{L:List aI}(h:tH L)(ho:cB 1 o=0):(qI o L).length≤10000:=by
 have hf:=h.few;have hw:=h.w;have fG:nZ 1 o:=by
  unfold cB at ho;rw[ao (.inl rfl)]at ho;exact bH fun h=>by rw[aw h]at ho;simp at ho
 obtain⟨⟨m1,m2⟩,_⟩:=fG;obtain⟨tC,rO,LB⟩:=kq h.chk h.t;have hrb:=vi (b:=true) h.t aa;have Io:=D3 (S:=o.1.toNat) aa true o.2.1 (dR o true L) L rO (ky _ _);have GM:(dR o true L).length≤L.length:=by unfold dR;have:=mZ o.1.toNat (lens true L);rwa [et]at this
 have n1:=aT (x:=o.1.toNat) aa;have n2:=aT (x:=L.length) aa;have n3:=aT (x:=(dR o true L).length) aa;unfold qI tu;rw[du];simp only[aY,ef,sd,dY];omega
theorem Zd{o:aR}{L:List aI}(h:tH L)(ho:cB 2 o=0):(p7 o L).length≤330000:=by
 obtain⟨fG,he⟩:=CL ho;obtain⟨⟨m1,m2⟩,_,m4,_,_⟩:=fG;obtain⟨m5,m6⟩:=m4 (.inr rfl);have hb:=EC (o:=o) h (by rw[he];exact ho) m5 m6;have n1:=aT (x:=o.1.toNat) aa;have n2:=aT (x:=o.2.2.1.toNat) aa;unfold p7 sB ou;rw[aY,du];simp only[aY,ef,sd,dY];omega
def K0(o:aR):Prop:=o.2.2.2.1≤8∧o.2.2.2.2.1≤8∧o.2.2.2.2.1≤4*o.2.2.2.1∧4≤o.2.2.2.2.2∧o.2.2.2.2.2≤100
theorem ZV{k m ch n:Nat}(hk:1≤k)(hm:m≤4*k)(hc:4≤ch)(Ir:k≤8)(hc2:ch≤100)(hn:n≤320000):jg k m ch n≤3500000∧zd k m ch n=0:=by
 have hD:1≤k*ch:=N4 hk aa;have hD2:k*ch≤800:=gL Ir hc2;have h1:(k+m)*(ch+4)≤(5*k)*(2*ch):=gL aa aa;have h2:(5*k)*(2*ch)=10*(k*ch):=by
  rw[Nat.mul_mul_mul_comm]
 have h3:lN k ch n*(k*ch)≤n+k*ch-1:=Nat.div_mul_le_self _ _;have h4:jg k m ch n≤3500000:=by
  unfold jg;have h5:lN k ch n*((k+m)*(ch+4))≤lN k ch n*(10*(k*ch)):=yi _ aa;have h6:lN k ch n*(10*(k*ch))=10*(lN k ch n*(k*ch)):=by
   rw[Nat.mul_left_comm]
  omega
 refine⟨h4,?_⟩;unfold zd;rw[aw aa,aw aa]
theorem Of{o:aR}{L:List aI}(h:tH L)(ho:cB 3 o=0)(hs:K0 o):(dy o L).length≤320000∧(ic o (dy o L)).2=0∧(lg o (dy o L)).length≤4000000:=by
 obtain⟨fG,h2⟩:=lW ho;obtain⟨_,m3,m4,_,_⟩:=fG;obtain⟨⟨k1,k2⟩,⟨k3,k4⟩,⟨k5,k6⟩⟩:=m3 rfl;obtain⟨m5,m6⟩:=m4 (.inl rfl);obtain⟨s1,s2,s3,s4,s5⟩:=hs;have hb:=EC (o:=o) h h2 m5 m6;obtain⟨z1,z2⟩:=ZV (k:=o.2.2.2.1.toNat) (m:=o.2.2.2.2.1.toNat) (ch:=o.2.2.2.2.2.toNat) (n:=(dy o L).length) aa aa aa aa aa hb;have hl:(ic o (dy o L)).2=0:=by
  unfold ic p6;rw[aw (by rw[z2];simp)]
 refine⟨hb,hl,?_⟩;have hA:=(N' (k:=o.2.2.2.1.toNat) (m:=o.2.2.2.2.1.toNat) (ch:=o.2.2.2.2.2.toNat) (b:=dy o L) aa aa hl)
 have aua:(ic o (dy o L)).1.length≤3500000:=by
  unfold ic p6;rw[aw (by rw[z2];simp)];show(uj _ _ _ _ _).length≤_;rw[yo aa _ _ (uD (N4 aa aa) _)];exact z1
 unfold lg;simp only[aY,FJ];omega
structure TR(v:Int)(o:aR)(R:al×Int):Prop where
 e:R.2=cB v o
 none:R.2≠0→R.1=[]
 fits:R.2=0→Fits R.1∧R.1.length≤4000000
theorem R4{v:Int}{o:aR}{L:List aI}(h:tH L)(hs:v=3→cB 3 o=0→K0 o):TR v o (jW v o L):=by
 have hc:=h.chk;by_cases h1:v=1
 ·subst h1;show TR 1 o (sm o L);unfold sm;by_cases q:cB 1 o≠0
  ·rw[ao q];exact⟨rfl,fun _=>rfl,fun k=>absurd k q⟩
  ·have q':cB 1 o=0:=bH q;rw[aw q,aw aa];have:=Zc h q';exact⟨q'.symm,fun k=>absurd rfl k,fun _=>⟨Fits.yD (by show(qI o L).length≤_;omega),by show(qI o L).length≤_;omega⟩⟩
 ·by_cases h2:v=2
  ·subst h2;show TR 2 o (uM o L);unfold uM;by_cases q:cB 2 o≠0
   ·rw[ao q];exact⟨rfl,fun _=>rfl,fun k=>absurd k q⟩
   ·have q':cB 2 o=0:=bH q;have hb:(fX o L).2=0:=by
     unfold fX;rw[(CL q').2,aw q,aw aa]
    rw[aw q,aw aa];have:=Zd h q';exact⟨q'.symm,fun k=>absurd rfl k,fun _=>⟨Fits.yD (by show(p7 o L).length≤_;omega),by show(p7 o L).length≤_;omega⟩⟩
  ·by_cases h3:v=3
   ·subst h3;show TR 3 o (sA o L);by_cases q:cB 3 o=0
    ·obtain⟨b1,b2,b3⟩:=Of h q (hs rfl q);have hb:(fX o L).2=0:=by
      unfold fX;rw[aw (by rw[(lW q).2];simp),aw aa]
     rw[Tg q aa aa];refine⟨q.symm,fun k=>absurd rfl k,fun _=>⟨⟨?_,?_,?_⟩,b3⟩⟩
     ·show(lg o (dy o L)).length≤_;omega
     ·intro k;refine absurd ?_ k;show fW (lg o (dy o L))=(3,0);unfold fW;rw[Jd,aw aB,ao (Pj q b2)]
     ·show(dI (lg o (dy o L))).2.1.length≤_;rw[AY q b2];show(dy o L).length≤_;omega
    ·rw[Tf q];exact⟨rfl,fun _=>rfl,fun k=>absurd k q⟩
   ·have e:jW v o L=([],4):=by unfold jW;rw[aw h1,aw h2,aw h3]
    have e2:cB v o=4:=by unfold cB;rw[aw aa]
    rw[e];exact⟨e2.symm,fun _=>rfl,fun k=>absurd k (show(4:Int)≠0 by decide)⟩
end Go.Proofs.YtaodmbolhoafcaaGreatDoor

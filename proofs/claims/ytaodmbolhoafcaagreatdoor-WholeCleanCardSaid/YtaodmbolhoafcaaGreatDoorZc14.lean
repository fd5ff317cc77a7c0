/-
  Texts of one proof, joined: part 14. No condition.
-/
import Derived.Test.YtaodmbolhoafcaaGreatDoorZc13
open Go.RowKit Go.Proofs.Tryz
namespace Go.Proofs.YtaodmbolhoafcaaGreatDoor
set_option linter.unusedVariables false
set_option linter.unusedSimpArgs false
set_option maxRecDepth 20000
variable{B:Nat}{w0:World}{F L0:aP}{A A1 A2 Ao:bj}{n c c1 c2 co g gc r k m N n2:Nat}
section
theorem mP{P:Program}{ops:Array Oper}{Q:Exit→Act→World→Prop}{md:Region.Mode}(ds:List Deferred):∀(fuel:Nat) (li:Array Bool) (a:Act) (w:World),wpAny P md ops Q fuel li a w→
  wpAny P md ops (fun e a' w'=>∃a0:Act,a'={a0 with defers:=a0.defers++ds}∧Q e a0 w') fuel li {a with defers:=a.defers++ds} w
 |0,li,a,w,h=>⟨h.1,a,rfl,h.2⟩
 |fuel+1,li,a,w,h=>by
  refine⟨fun hr=>⟨a,rfl,h.1 hr⟩,fun i hi=>?_⟩;have h:=h.2 i hi;unfold wpOp at h⊢;cases ho:ops[i]? with
  |none=>
   simp only[ho]at h⊢;exact mP ds fuel _ a w h
  |some o=>
   simp only[ho]at h⊢;by_cases hw:Region.wanted o (yielded ops a.tmps)=true
   ·rw[ao hw]at h;rw[ao (show Region.wanted o (yielded ops ({a with defers:=a.defers++ds}:Act).tmps)=true from hw)];rcases h with h|⟨h1,a1,w1,h2⟩
    ·refine .inl ?_;have he:({a with defers:=a.defers++ds}:Act).eval=a.eval:=rfl;unfold Oper.wp at h⊢;rw[he];generalize (execOp a.eval o).run P w=res at*;cases res with
     |ok x w'=>
      cases x<;>simp only[Oper.upon]at h⊢<;>first
       |(rw[put_defers];exact mP ds fuel _ _ _ h)
       |(
        refine Ks h fun e w'' he=>?_;cases e<;>dsimp only at he⊢<;>first
         |(rw[put_defers];exact mP ds fuel _ _ _ he)
         |exact⟨_,rfl,he⟩
         |(obtain⟨a1,w1,h2⟩:=he;exact⟨_,w1,a1,rfl,h2⟩))
       |exact Rows.mono h fun v w'' he=>by rw[put_defers];exact mP ds fuel _ _ _ he
       |(have h2:=mP ds fuel _ _ _ h;rw[←put_defers]at h2;exact h2)
     |halt x w'=>cases x<;>simp only[Oper.upon]at h⊢<;>first|exact⟨_,rfl,h⟩|exact h
    ·exact .inr ⟨h1,_,w1,a1,rfl,h2⟩
   ·rw[aw hw]at h;rw[aw (show¬Region.wanted o (yielded ops ({a with defers:=a.defers++ds}:Act).tmps)=true from hw),put_defers];exact mP ds fuel _ _ _ h
def MQ(D:Nat)(C:Cx)(Q:Exit→Fr→aP→Prop):Exit→Act→World→Prop:=fun e a w=>∃fr L,a.defers=[mark D]∧pN C.N fr {a with defers:=[]}∧SL C.B C.w0 L w∧Q e fr L
def xe(C:Cx)(D:Nat)(c:Code)(Q:Exit→Fr→aP→Prop)(fr:Fr)(L:aP):Prop:=∀a w,a.defers=[mark D]→pN C.N fr {a with defers:=[]}→SL C.B C.w0 L w→c.wp C.P (MQ D C Q) a w
def TO(D:Nat)(C:Cx)(y:Code)(Q:Exit→Fr→aP→Prop):Exit→Fr→aP→Prop
 | .normal,fr,L=>xe C D y Q fr L
 |e,fr,L=>Q e fr L
section
variable{C:Cx}{D:Nat}{Q:Exit→Fr→aP→Prop}{fr jC:Fr}{L L' S:aP}{x y cd F9:Code}
theorem akc{e:Exit}{a':Act}{w':World}(h:∃a0:Act,a'={a0 with defers:=a0.defers++[mark D]}∧lift C Q e a0 w'):MQ D C Q e a' w':=by
 obtain⟨a0,rfl,fr,L,ha,hs,hq⟩:=h;refine⟨fr,L,by simp[ha.defers],?_,hs,hq⟩;have e0:({({a0 with defers:=a0.defers++[mark D]}:Act)with defers:=[]}:Act)=a0:=by rw[←ha.defers]
 rw[e0];exact ha
theorem gH{id:Nat}{sS:sA}(h:VL C sS.toArray Q sS fr L):xe C D (.region id sS.toArray false) Q fr L:=fun a w hd ha hs=>by
 have h1:=lG [mark D] sS _ w (h {a with defers:=[]} w ha hs);rw[show({({a with defers:=[]}:Act)with defers:=({a with defers:=[]}:Act).defers++[mark D]}:Act)=a by rw[←hd];rfl]at h1;exact ye (wp_region_lit h1) fun e a w h=>akc h
theorem PH{id:Nat}{l:sA}(hm:C.P.follows .mixedOrders=true)(hS:S.Sublist L)(h:VH C l.toArray S Q l.toArray.size (Array.replicate l.toArray.size false) fr L):xe C D (.region id l.toArray true) Q fr L:=fun a w hd ha hs=>by
 have h1:=mP [mark D] _ _ _ _ (wpAny_of_held _ _ _ _ (h {a with defers:=[]} _ ha (hs.drewN 1) ((hs.drewN 1).sub hS)));rw[show({({a with defers:=[]}:Act)with defers:=({a with defers:=[]}:Act).defers++[mark D]}:Act)=a by rw[←hd];rfl]at h1;refine ye (wp_region_any hm h1) fun e a w ⟨a0,h2,h3⟩=>akc ⟨a0,h2,NoPanic.imp _ _ _ h3⟩
theorem iT(h:xe C D x (TO D C y Q) fr L):xe C D (.seq x y) Q fr L:=fun a w hd ha hs=>by
 refine wp_seq (ye (h a w hd ha hs) fun e a w ⟨fr,L,hd,ha,hs,hq⟩=>?_);cases e<;>first|exact hq a w hd ha hs|exact⟨fr,L,hd,ha,hs,hq⟩
theorem Jh{id:Nat}(h:xe C D x (InB id Q) fr L):xe C D (.block id x) Q fr L:=fun a w hd ha hs=>by
 refine wp_block (ye (h a w hd ha hs) fun e a w ⟨fr,L,hd,ha,hs,hq⟩=>?_);cases e with
 |exit i=>
  unfold Exit.inBlock InB at*;simp only at hq⊢;split
  ·rename_i hi;rw[ao hi]at hq;exact⟨fr,L,hd,ha,hs,hq⟩
  ·rename_i hi;rw[aw hi]at hq;exact⟨fr,L,hd,ha,hs,hq⟩
 |_=>exact⟨fr,L,hd,ha,hs,hq⟩
theorem yT(h:Q .normal fr L):xe C D .skip Q fr L:=fun a w hd ha hs=>wp_skip ⟨fr,L,hd,ha,hs,h⟩
theorem afS{id:Nat}(h:Q (.exit id) fr L):xe C D (.exit id) Q fr L:=fun a w hd ha hs=>wp_exit ⟨fr,L,hd,ha,hs,h⟩
theorem yS(h:Q .ret fr L):xe C D .ret Q fr L:=fun a w hd ha hs=>wp_ret ⟨fr,L,hd,ha,hs,h⟩
theorem pN.arb{N:Nat}{a:Act}(h:pN N fr {a with defers:=[]}){o:Operand}{v:Value}(he:ev fr o=some v):a.eval o=v:=by
 have:=h.tmp he;exact this
theorem Tu{c:Operand}(hc:ev fr c=some (.bool false))(h:xe C D y Q fr L):xe C D (.cond c x y) Q fr L:=fun a w hd ha hs=>wp_cond_false (ha.arb hc) (h a w hd ha hs)
theorem aaq{tt:Nat}{b:Bool}(hc:look tt fr=some (.bool b))(ht:b=true→xe C D cd Q ((tt,.bool true)::fr) L)(hf:b=false→xe C D F9 Q ((tt,.bool false)::fr) L):xe C D (.cond (.tmp tt) cd F9) Q fr L:=fun a w hd ha hw=>
 wp_cond_split (ha.arb (o:=.tmp tt) hc) (fun h=>ht h a w hd (ha.bool hc h) hw) (fun h=>hf h a w hd (ha.bool hc h) hw)
theorem uI{tt:Nat}{p:Prop}[Decidable p](hc:look tt fr=some (.bool (decide p)))(ht:p→xe C D cd Q ((tt,.bool true)::fr) L)(hf:¬p→xe C D F9 Q ((tt,.bool false)::fr) L):xe C D (.cond (.tmp tt) cd F9) Q fr L:=
 aaq hc (fun h=>ht (Eu h)) (fun h=>hf (YO h))
theorem aar(J:Fr→aP→Nat→Prop)(n0:Nat)(h0:J fr L n0)(round:∀n fr L,J fr L n→xe C D cd (InJ J n Q) fr L):xe C D (.loop cd) Q fr L:=fun a w hd ha hw=>by
 refine wp_loop_ghost (fun n a w=>∃fr L,J fr L n∧a.defers=[mark D]∧pN C.N fr {a with defers:=[]}∧SL C.B C.w0 L w) n0 ⟨fr,L,h0,hd,ha,hw⟩ ?_;rintro n a w ⟨fr,L,hJ,hd,ha,hw⟩;refine ye (round n fr L hJ a w hd ha hw) fun e a w ⟨fr,L,hd,ha,hs,hq⟩=>?_;cases e with
 |normal=>
  obtain⟨n',k1,k2⟩:=hq;exact⟨n',k1,fr,L,k2,hd,ha,hs⟩
 |_=>exact⟨fr,L,hd,ha,hs,hq⟩
theorem dG(h:xe C D y Q fr L):TO D C y Q .normal fr L:=h
theorem S1{i:Nat}(h:Q (.exit i) fr L):TO D C y Q (.exit i) fr L:=h
theorem AZ(h:Q .ret fr L):TO D C y Q .ret fr L:=h
theorem Tv(jC:Fr)(hs:Sub fr jC)(h:xe C D x Q jC L):xe C D x Q fr L:=fun a w hd ha hw=>h a w hd (ha.sub hs) hw
theorem afT(hs:L.Perm L')(h:xe C D x Q fr L'):xe C D x Q fr L:=fun a w hd ha hw=>h a w hd ha (hw.perm hs)
theorem anI(h:Wk L L')(k:xe C D x Q fr L'):xe C D x Q fr L:=fun a w hd ha hw=>k a w hd ha (h.sl hw)
theorem ajp{size nn c:Nat}{A:bj}{xs:cV}(hb:aJ C.B C.w0 L size (.slice A nn c) nn xs)(h:nn≤c→xs.length=nn*size→xe C D x Q fr L):xe C D x Q fr L:=fun a w hd ha hw=>by
 obtain⟨A',c',e,h1,h2,_⟩:=hb w hw;injection e with e1 e2 e3;subst e3;exact h h1 h2 a w hd ha hw
def RM(D:Nat)(P:Program)(fn:Func)(R:qI):Exit→Fr→aP→Prop
 | .ret,fr,L=>∃L',L.Perm (.obj D (.deferred (some []))::L')∧Cp P fn R .ret fr L'
 |_,_,_=>False
theorem aap{fn:Func}{R:qI}{P:Program}{B N:Nat}{w0:World}{c:Code}(hN:fn.ntmps=N)(h:xe ⟨P,N,B,w0⟩ D c (RM D P fn R) fr L):VM ⟨P,N,B,w0⟩ D c (FG ⟨P,N,B,w0⟩ fn R) fr L:=fun a w hd ha hs=>by
 subst hN;refine ye (h a w hd ha hs) fun e a w ⟨fr,L,hd,ha,hs,hq⟩=>?_;cases e<;>first
  |exact hq.elim
  |obtain⟨L',hp,h⟩:=hq
   have BA:=hs.perm hp;obtain⟨v,L'',h1,h2,h3⟩:=h B w0 _ _ ha BA.afF;show LeavesInM _ _ _ _ _ _ a.defers _ _;rw[hd];exact⟨ak,.inl ⟨D,_,rfl,run_takeDeferred BA.head.2,v,h1,v,L'',rfl,h2,h3⟩⟩
end
end
section
variable{ch:Nat}
theorem aop{P:Prop}(h:P:=by(repeat (first|exact j8 _ (jc (f:=fq) he)|apply List.Mem.tail))):P:=h
theorem L_{P:Prop}(h:P:=by(rw[E8])):P:=h
def JJ(sz:Nat)(x:al)(i:Nat):al:=(x.drop (i*sz)).take sz
theorem Mx(sz p:Nat)(x:al):mD sz p x=(List.range p).map (JJ sz x):=by
 rw[←pw (mD sz p x),kp];exact r9 fun i hi=>xA sz p i x (kz.1 hi)
def gP(sz:Nat)(x:al)(ks:bf):eH:=ks.map fun i=>(aI (JJ sz x i)).1
def gG(sz:Nat)(x:al)(ks:bf):List Bool:=ks.map fun i=>decide ((aI (JJ sz x i)).2=0)
theorem aef(k m ch:Nat)(x:al):rdP k m ch x=gP (ch+4) x (List.range (k+m)):=by unfold rdP gP;rw[Mx,vA];rfl
theorem E8(k m ch:Nat)(x:al):ON k m ch x=gG (ch+4) x (List.range (k+m)):=by unfold ON gG;rw[Mx,vA];rfl
theorem Sz(a:Nat)(l:List Bool)(b:Bool):dP a (l++[b])=dP a l++(if b=true then [] else [a+l.length]):=by
 unfold dP;rw[aY,p_,lj,Eo,jb];congr 1
 ·congr 1;refine List.filter_congr fun i hi=>?_;have:=kz.1 hi;simp[bk,z8 this]
 ·cases b<;>simp[bk]
theorem adH{q:Ch}{PB:List kO}(h:q.isObj=true):q∈PB.map fq++F↔q∈F:=by
 refine⟨fun hq=>?_,ny _⟩;rcases dz.1 hq with hq|hq
 ·obtain⟨e,_,rfl⟩:=pM.1 hq;cases h
 ·exact hq
theorem Dt{x:al}(h:(aI x).2=0):(aI x).1.length=x.length-4:=by
 unfold aI at h⊢;by_cases h1:x.length<4
 ·rw[ao h1]at h;simp at h
 ·rw[aw h1]at h⊢;by_cases h2:x.drop (x.length-4)=mu (pP 0 (x.take (x.length-4)))
  ·rw[ao h2];simp
  ·rw[aw h2]at h;simp at h
theorem bI.later{w1:World}(h:bI B w0)(hb:Below B w0 w1):bI B w1:=aJ.later h hb
theorem Bu{m:Nat}:∀PB:List kO,(∀e∈PB,e.2.2.length≤m)→(PB.map (·.2.2)).flatten.length≤m*PB.length
 |[],_=>by simp
 |e::r,h=>by
  have h1:=h e ak;have h2:=Bu r fun x hx=>h x oa;simp only[kA,v_,aY,ef,t_,cE];omega
theorem Q3(k m:Nat)(good:List Bool):∀i∈dF k good,i∈dF (k+m) good:=fun i hi=>by
 unfold dF at hi⊢;have e:k=min k (k+m):=by omega
 rw[e,←Ix]at hi;exact lX hi
theorem Sa{parts:eH}{good:List Bool}{n:Nat}(hk:1≤k)(ha:∀b∈iu (k+m) parts good,b.length=n)(h0:(qg k m parts good).2=0):(qg k m parts good).1.length=k+m∧∀b∈(qg k m parts good).1,b.length=n:=by
 unfold qg at h0⊢;by_cases h1:¬rO (iu (k+m) parts good)
 ·rw[ao h1]at h0;simp at h0
 ·rw[aw h1]at h0⊢;by_cases h2:(iu (k+m) parts good).length<k
  ·rw[ao h2]at h0;simp at h0
  ·rw[aw h2];have l0:(dF k good).length=k:=by
    unfold iu at h2;rw[eK]at h2;unfold dF at h2⊢;rw[eS]at h2⊢;omega
   obtain⟨d1,d2⟩:=R_ (m:=m) (n:=n) (parts:=parts) (good:=good) aa (fun b hb=>by
    obtain⟨i,hi,rfl⟩:=pM.1 hb;exact ha _ (jc (f:=fun i=>parts.getD i []) (Q3 k m good i hi))) l0
   refine⟨by rw[aY,m7,d1],fun b hb=>?_⟩;rcases dz.1 hb with hb|hb
   ·exact d2 b hb
   ·exact yA aa d2 b hb
theorem Fq{x:al}(hk:1≤k)(hx:x.length=(k+m)*(ch+4))(h0:(BS k m ch x).2=0):(BS k m ch x).1.length=k+m∧∀b∈(BS k m ch x).1,b.length=ch:=by
 refine Sa hk (fun b hb=>?_) h0;obtain⟨i,hi,rfl⟩:=pM.1 hb;obtain⟨h1,h2⟩:=zB i hi;rw[E8]at h1 h2;have hik:i<k+m:=by simpa[gG]using h1
 have hr:=fM (k:=ch+4) hik;rw[aef];simp only[gG,gP,bk,jr,x' hik,sK,vB]at h2⊢;rw[Dt oQ];unfold JJ;rw[eS,iG,hx];omega
def StA(k m ch:Nat)(x out:al)(bad:bf)(at_ g:Nat)(F:aP)(v:Value)(L:aP):Prop:=
 ∃(Ao:bj) (co:Nat) (Ab:bj) (cb:Nat) (aif:al),v=ah (LJ k m ch x)∧
  L=Gm g k m ch (.slice Ao aif.length co) (.slice Ab (bad++dP at_ (ON k m ch x)).length cb) (at_+(k+m)):: .own 5 1 Ao aif.length co (bv aif):: .own 3 1 Ab (bad++dP at_ (ON k m ch x)).length cb (bx (bad++dP at_ (ON k m ch x)))::F∧
  (LJ k m ch x=0→aif=out++((BS k m ch x).1.take k).flatten)
set_option maxHeartbeats 2000000 in
theorem aeM(HT:bI B w0)(h:Gn k m ch){x out:al}{bad:bf}{at_:Nat}(P_:x.length=(k+m)*(ch+4))(hxc:x.length≤c)(hx:aJ B w0 F 1 (.slice A x.length c) x.length (bv x))(GI:at_≤100000000)(c_:bad.length≤100000000)(Kj:out.length≤100000000):
  a_ B w0 198 [br g,.slice A x.length c] (Gm g k m ch (.slice Ao out.length co) (.slice A1 bad.length c1) at_:: .own 5 1 Ao out.length co (bv out):: .own 3 1 A1 bad.length c1 (bx bad)::F) (StA k m ch x out bad at_ g F):=by
 obtain⟨k1,km,ch1,ch2⟩:=h;have h:Gn k m ch:=⟨k1,km,ch1,ch2⟩
 have Gc:=h.laid;have hN:gU (ch+4) x.length=k+m:=by rw[P_];exact Ue aa
 have acy:LJ k m ch x=(if (BS k m ch x).2≠0 then (BS k m ch x).2 else @ite _ (w8 k m ch x) (Classical.propDecidable _) 2 0):=rfl;have hsr:BS k m ch x=qg k m (gP (ch+4) x (List.range (k+m))) (gG (ch+4) x (List.range (k+m))):=by unfold BS;rw[aef,E8]
 refine xS func198 93 rfl rfl rfl [(0,br g),(1,.slice A x.length c)] ⟨⟨rfl,rfl⟩,⟨rfl,rfl⟩,trivial⟩ ?_;refine qE ?_;refine aF ?_;refine bh fun g2=>?_;refine be ?_;refine lB ?_;refine qE ?_;refine aF ?_;refine bc fun g5=>?_;refine aF ?_;refine lB ?_;refine qE ?_;refine aF ?_;refine bc fun g6=>?_;refine aF ?_;refine lB ?_;refine Lc ?_;refine aZ 27 1 none ?_;refine aZ 4 1 none ?_;refine bL ?_;refine ab (bY rfl rfl (r:=((ch+4:Nat):Int)) ((bE aa aa).trans aa)) rfl ?_;refine ay rfl (MA (sz:=ch+4) aa) fun gp gq=>?_;refine aF ?_;refine lB ?_;refine FT (N:=gU (ch+4) x.length) ajI rfl rfl rfl (fun i:Fin (gU (ch+4) x.length)=>Gt A (ch+4) x.length i.val) (fun xs=>xs.map (·.val)=List.range (gU (ch+4) x.length)) (fun _=>True) [.bD gp 27 [.slice A x.length c],.bD gq 3 [ah ((ch+4:Nat):Int)]]
  (fun w hw=>xD aa aa aa hxc (fun e=>aoh) w (hw.all _ (lk _ rj)) (hw.all _ rj))
  (fun(pre:List (Fin (gU (ch+4) x.length))) (s:(bj×Nat)×(bj×Nat)×(bj×Nat)×List kO)=>s.2.2.2.map (·.2.2)=gP (ch+4) x (pre.map (·.val))) (fun pre s=>.bD gq 3 [ah ((ch+4:Nat):Int)]:: .bD gp 27 [.slice A x.length c]:: .own 4 1 s.1.1 (gG (ch+4) x (pre.map (·.val))).length s.1.2 (sE (gG (ch+4) x (pre.map (·.val)))):: .own 27 1 s.2.1.1 s.2.2.2.length s.2.1.2 ((s.2.2.2).map dq):: .bD g6 186 [.slice s.1.1 (gG (ch+4) x (pre.map (·.val))).length s.1.2]:: .bD g5 52 [.slice s.2.1.1 (s.2.2.2).length s.2.1.2]:: .bD g2 278 [br g]::Gm g k m ch (.slice Ao out.length co) (.slice s.2.2.1.1 (bad++dP at_ (gG (ch+4) x (pre.map (·.val)))).length s.2.2.1.2) (at_+pre.length):: .own 5 1 Ao out.length co (bv out):: .own 3 1 s.2.2.1.1 (bad++dP at_ (gG (ch+4) x (pre.map (·.val)))).length s.2.2.1.2 (bx (bad++dP at_ (gG (ch+4) x (pre.map (·.val)))))::(s.2.2.2.map fq++F))
  (fun pre s q hq=>by simp only[KL hq,KK hq,adH hq]) (fun q hq=>by
   simp only[fk,mo,oe]at hq;rcases hq with rfl|rfl
   ·exact⟨rfl,fun pre s=>lk _ rj⟩
   ·exact⟨rfl,fun pre s=>rj⟩)
  ((none,0),(none,0),(A1,c1),[]) rfl (.trans ((ed (ed (ed (ed (ed (ed (ed (ed (ed (ed (.refl _)))))))))))) (.cons (.cons (ax rfl rfl (ax rfl rfl (bq rfl (bq rfl (.cons (bq (by simp[gG,dP]) (.cons (ax (by simp[gG,dP]) (by simp[gG,dP]) (.refl _)))))))))))) ?_ ?_
 ·rintro l' pre y ⟨⟨Ag,cg⟩,⟨Ap,cp⟩,⟨Ab,cb⟩,PB⟩ w1 lf mJ acs F';have Rx:pre.length<k+m:=Nat.lt_of_lt_of_eq mJ hN;have hy:y.val<k+m:=Nat.lt_of_lt_of_eq y.isLt hN;have hyl:=fM (k:=ch+4) hy;have as1:y.val*(ch+4)+(ch+4)≤x.length:=jd hyl (Nat.le_of_eq P_.symm);have U8:(JJ (ch+4) x y.val).length=ch+4:=by unfold JJ;rw[eS,iG];omega
  have hbx:aJ B w1 (PB.map fq++(F++F')) 1 (.slice (A.map (·.add (y.val*(ch+4)))) (JJ (ch+4) x y.val).length (ch+4)) (JJ (ch+4) x y.val).length (bv (JJ (ch+4) x y.val)):=by
   rw[U8];exact((Ub hx aa as1).later acs).mono (.trans (vC F F') (gy _ _))
  have hvX:Gt A (ch+4) x.length y.val= .slice (A.map (·.add (y.val*(ch+4)))) (JJ (ch+4) x y.val).length (ch+4):=by
   unfold Gt xi;rw[U8,show min (ch+4) (x.length-y.val*(ch+4))=ch+4 by omega]
  have hmp:(pre++[y]).map (·.val)=pre.map (·.val)++[y.val]:=by simp
  have y9:(pre++[y]).length=pre.length+1:=by simp
  have P5:gG (ch+4) x (pre.map (·.val)++[y.val])=gG (ch+4) x (pre.map (·.val))++[decide ((aI (JJ (ch+4) x y.val)).2=0)]:=by simp[gG]
  have hps:gP (ch+4) x (pre.map (·.val)++[y.val])=gP (ch+4) x (pre.map (·.val))++[(aI (JJ (ch+4) x y.val)).1]:=by simp[gP]
  have GL:(gG (ch+4) x (pre.map (·.val))).length=pre.length:=by simp[gG]
  have D6:PB.length=pre.length:=by have:=ek List.length lf;simpa[gP]using this
  have PZ:bad++dP at_ (gG (ch+4) x (pre.map (·.val))++[decide ((aI (JJ (ch+4) x y.val)).2=0)])=B7 (JJ (ch+4) x y.val) (at_+pre.length) (bad++dP at_ (gG (ch+4) x (pre.map (·.val)))):=by
   rw[Sz,GL];unfold B7;by_cases hz:(aI (JJ (ch+4) x y.val)).2=0
   ·rw[ao vJ,aw vJ,gk]
   ·rw[aw vJ,ao hz,bV]
  have asc:(bad++dP at_ (gG (ch+4) x (pre.map (·.val)))).length≤100000000+(k+m):=by
   have:=BH (fun i=> !(gG (ch+4) x (pre.map (·.val))).getD i false) (List.range (gG (ch+4) x (pre.map (·.val))).length);rw[vZ]at this;rw[aY];unfold dP;rw[eK];omega
  simp only[hmp,y9,PZ,P5,hps,hvX,nC,bV];generalize gG (ch+4) x (pre.map (·.val))=GG at*;obtain⟨BD,hBD⟩:=cN (bad++dP at_ GG);rw[←hBD]at asc⊢;refine FW ?_;refine Le ?_;refine nc ag ?_;refine be ?_;refine aX ao8 rfl (.perm (amY (HT.later acs) (k:=k) (m:=m) (ch:=ch) (vo:=.slice Ao out.length co) (bad:=BD) (at_:=at_+pre.length) (x:=JJ (ch+4) x y.val) (by repeat (first|exact hbx|apply aJ.cons)) aa aa aa) ((pu7 (pu8 (fR (fR (fR (fR (fR (fR (fR (fR (.refl _))))))))))))) rfl ?_;rintro _ _ ⟨sY,Bq,Ha,Mq,rfl,cA⟩;obtain rfl:=cA.symm;refine bG ?_;refine ve [5,6,8,9] ?_;refine nq ?_;refine Le ?_;refine nc ag ?_;refine be ?_;refine dE fD rfl rfl rfl rfl rfl (fun _=>rfl) aV aa aa ?_;intro _ LM Mr;refine be ?_;refine nq ?_;refine nc ag ?_;refine be ?_;refine dE SO rfl rfl rfl rfl rfl (fun _=>rfl) aV aa aa ?_;intro _ A36 c36;refine be ?_;refine nq ?_;refine⟨((A36,c36),(LM,Mr),(Ha,Mq),PB++[((sY,Bq,(aI (JJ (ch+4) x y.val)).1):kO)]),by rw[jb,lf];rfl,?_⟩;refine .trans ((tx (tx (tx (tx (tx (tx (tx (gl (rM (gl (ed (.refl _))))))))))))) ?_;exact .cons (.cons (ax ak (by simp[sE]) (ax ak ak (bq ak (bq ak (.cons (.cons (.cons (.cons (qn (PB:=PB) (F:=F++F') (e:=((sY,Bq,(aI (JJ (ch+4) x y.val)).1):kO)) []))))))))))
 ·rintro D xs ⟨⟨Ag,cg⟩,⟨Ap,cp⟩,⟨Ab,cb⟩,PB⟩ hS lf;have e:List.range (gU (ch+4) x.length)=List.range (k+m):=ek List.range hN;have Rq:=hS.trans e;have asY:xs.length=k+m:=by have:=ek List.length Rq;simpa using this
  rw[Rq]at lf;have D6:PB.length=k+m:=by have:=ek List.length lf;simpa[gP]using this
  simp only[Rq,asY];have hGl:(gG (ch+4) x (List.range (k+m))).length=k+m:=by simp[gG]
  have Iq:∀i,i<k+m→(gG (ch+4) x (List.range (k+m))).getD i false=true→(PB.getD i iP).2.2.length=ch:=fun i hi hg=>by
   have hr:=fM (k:=ch+4) hi;rw[←ET,lf];simp only[gG,gP,bk,jr,x' hi,sK,vB]at hg⊢;rw[Dt (by simpa using hg)];unfold JJ;rw[eS,iG,P_];omega
  have tT:bad++dP at_ (gG (ch+4) x (List.range (k+m)))=bad++dP at_ (ON k m ch x):=by rw[E8]
  refine aap rfl ?_;refine iT ?_;refine PH (S:=.obj D (.deferred (some [])):: .bD gq 3 [ah ((ch+4:Nat):Int)]:: .bD gp 27 [.slice A x.length c]:: .own 4 1 Ag (gG (ch+4) x (List.range (k+m))).length cg (sE (gG (ch+4) x (List.range (k+m)))):: .own 27 1 Ap PB.length cp ((PB).map dq):: .bD g6 186 [.slice Ag (gG (ch+4) x (List.range (k+m))).length cg]:: .bD g5 52 [.slice Ap (PB).length cp]:: .bD g2 278 [br g]::Gm g k m ch (.slice Ao out.length co) (.slice Ab (bad++dP at_ (gG (ch+4) x (List.range (k+m)))).length cb) (at_+(k+m)):: .own 5 1 Ao out.length co (bv out):: .own 3 1 Ab (bad++dP at_ (gG (ch+4) x (List.range (k+m)))).length cb (bx (bad++dP at_ (gG (ch+4) x (List.range (k+m)))))::(PB.map fq++F)) ag gF ?_;refine ae 0 ?_;refine ae 1 ?_;refine ae 2 ?_;refine ae 3 ?_;refine ae 4 ?_;refine ae 5 ?_;refine ae 6 ?_;refine ae 7 ?_;refine ae 8 ?_;refine ae 9 ?_;refine ae 10 ?_;refine ae 11 ?_;refine az 12 ?_;refine gA rfl .no ao9 rfl (aeq (PB:=PB) (good:=gG (ch+4) x (List.range (k+m))) (nn:=ch) k1 km D6 hGl aa Iq aB (fun e he=>aJ.own aop) aB) rfl (by rintro _ _ ⟨BZ,F8,FB,rfl,rfl,sH⟩;exact gF) ?_;rintro _ _ ⟨BZ,F8,FB,rfl,cA,sH⟩;obtain rfl:=cA.symm;refine ae 13 ?_;refine ae 14 ?_;refine ae 15 ?_;refine ae 16 ?_;refine ae 17 ?_;refine cQ [2,5,6,10,11] ?_;refine dG ?_;refine iT ?_;refine iT ?_;rw[lf,←hsr]at sH⊢;refine gH ?_;refine bF ?_;refine dG ?_;refine uI rfl (fun h54=>?_) (fun h54=>?_)
  ·refine iT ?_;refine gH ?_;refine bF ?_;refine dG ?_;refine yS ?_;refine AZ ?_;refine⟨_,(List.perm_middle.cons _).trans (.swap ..),?_⟩;refine aq (.skip ((dv _ _).trans (.skip (.skip (.skip (.skip (.skip (.skip (.skip (.cons (.cons (.cons (dv _ _))))))))))))) ?_;have eE:LJ k m ch x=(BS k m ch x).2:=by rw[acy,ao h54]
   refine aF ?_;exact⟨Ao,co,Ab,cb,out,by rw[eE],L_,fun k=>absurd (eE.symm.trans k) h54⟩
  ·have e0:(BS k m ch x).2=0:=bH h54;obtain⟨kY,jH⟩:=Fq k1 P_ e0;have Ra:FB.length=k+m:=by have:=ek List.length sH;rw[eK]at this;omega
   have hFe:∀e∈FB,e.2.2.length=ch:=fun e he=>jH _ (sH▸jc (f:=fun y:kO=>y.2.2) he);refine afT (og (_::FB.map fq) [_,_,_,_,_,_,_,_,_,_,_] _) ?_;simp only[nC,nA];have ap_:w8 k m ch x↔∃i,i<FB.length∧(gG (ch+4) x (List.range (k+m))).getD i false=true∧(FB.getD i iP).2.2≠(PB.getD i iP).2.2:=by
    unfold w8;rw[←sH,E8,aef,←lf,eK];simp only[ET]
   refine yT ?_;refine dG ?_;refine iT ?_;refine iT ?_;refine gH ?_;refine b8 ?_;refine dG ?_;refine Jh ?_;refine aar (fun zf zL zm=>∃(i:Nat),(i≤FB.length∧∀j,j<i→¬((gG (ch+4) x (List.range (k+m))).getD j false=true∧(FB.getD j iP).2.2≠(PB.getD j iP).2.2))∧FB.length-i=zm∧Sub zf [(2,br g2),(5,br g5),(6,br g6),(10,.slice BZ FB.length F8),(56,.slice BZ FB.length F8),(57,ah FB.length),(58,ah (i:Int))]∧Wk zL (.obj D (.deferred (some [])):: .bD gq 3 [ah ((ch+4:Nat):Int)]:: .bD gp 27 [.slice A x.length c]:: .own 4 1 Ag (gG (ch+4) x (List.range (k+m))).length cg (sE (gG (ch+4) x (List.range (k+m)))):: .own 27 1 Ap PB.length cp ((PB).map dq):: .bD g6 186 [.slice Ag (gG (ch+4) x (List.range (k+m))).length cg]:: .bD g5 52 [.slice Ap (PB).length cp]:: .bD g2 278 [br g]::Gm g k m ch (.slice Ao out.length co) (.slice Ab (bad++dP at_ (gG (ch+4) x (List.range (k+m)))).length cb) (at_+(k+m)):: .own 5 1 Ao out.length co (bv out):: .own 3 1 Ab (bad++dP at_ (gG (ch+4) x (List.range (k+m)))).length cb (bx (bad++dP at_ (gG (ch+4) x (List.range (k+m))))):: .own 27 1 BZ FB.length F8 (FB.map dq)::(FB.map fq++(PB.map fq++F)))) _ ⟨0,⟨bT _,fun j hj=>aa⟩,rfl,bp,.refl _⟩ ?_;rintro _ _ _ ⟨i,⟨hi,NC⟩,rfl,hs,hp⟩;refine Tv _ hs (anI hp ?_);clear hs hp;refine iT ?_;refine gH ?_;refine be ?_;refine dG ?_;refine iT ?_;refine uI rfl (fun h59=>?_) (fun h59=>?_)
   ·have hgF:=G1 (PB:=FB) (i:=i) aa;have hgP:=G1 (PB:=PB) (i:=i) aa;have hmF:=bg (l:=FB) (show i<FB.length by omega) iP;have hmP:=bg (l:=PB) (show i<PB.length by omega) iP;obtain⟨P,hP⟩:=cN (FB.getD i iP);obtain⟨Q,hQ⟩:=cN (PB.getD i iP);rw[←hP]at hgF hmF;rw[←hQ]at hgP hmP;have hlP:=hFe P hmF;refine yT ?_;refine dG ?_;refine iT ?_;refine Jh ?_;refine iT ?_;refine gH ?_;refine be ?_;refine ab (au ag rfl aB aa hgF) rfl ?_;refine bF ?_;refine dG ?_;refine iT ?_;refine gH ?_;refine bG ?_;refine my rfl rfl rfl (fun U4=>?_) (fun U4=>?_)
    ·refine bJ ?_;refine ab (au ag rfl aB aa hgP) rfl ?_;refine aF ?_;refine ai rfl (abN (l:=P.2.2) (l2:=Q.2.2) rfl rfl rfl rfl (aJ.own (by repeat (first|exact j8 _ (jc (f:=fq) hmF)|apply List.Mem.tail))) (aJ.own (by repeat (first|exact ny _ (j8 _ (jc (f:=fq) hmP))|apply List.Mem.tail))) aa) ?_;refine bF ?_;refine ve [2,5,6,10,56,57,58,75] ?_;refine dG ?_;refine uI rfl (fun h75=>?_) (fun h75=>?_)
     ·have eE:LJ k m ch x=2:=by
       have hu:w8 k m ch x:=ap_.2 ⟨i,aa,U4,by rw[←hP,←hQ];exact h75⟩;rw[acy,aw aa,ao hu]
      refine iT ?_;refine gH ?_;refine be ?_;refine dG ?_;refine yS ?_;refine aF ?_;refine AZ ?_;refine be ?_;refine AZ ?_;refine⟨_,.refl _,?_⟩;refine aq (.skip (.skip (.skip (.skip (.skip (.skip (.skip (.cons (.cons (.cons (.skip ((dv _ _).trans (dv _ _))))))))))))) ?_;refine aF ?_;exact⟨Ao,co,Ab,cb,out,by rw[eE],L_,fun k=>absurd (eE.symm.trans k) aA⟩
     ·refine yT ?_;refine aF ?_;refine dG ?_;refine gH ?_;refine bF ?_;refine av ⟨_,aa,i+1,⟨aa,fun j hj=>by
       by_cases e:j=i
       ·subst e;rw[←hP,←hQ];rintro⟨u1,u2⟩;first|exact h75 u2|(rw[U4]at u1;cases u1)
       ·exact NC j aa⟩,rfl,bp,.refl _⟩
    ·refine bL ?_;refine ve [2,5,6,10,56,57,58,75] ?_;refine dG ?_;refine Tu rfl ?_;refine yT ?_;refine aF ?_;refine dG ?_;refine gH ?_;refine bF ?_;refine av ⟨_,aa,i+1,⟨aa,fun j hj=>by
      by_cases e:j=i
      ·subst e;rw[←hP,←hQ];rintro⟨u1,u2⟩;first|exact h75 u2|(rw[U4]at u1;cases u1)
      ·exact NC j aa⟩,rfl,bp,.refl _⟩
   ·have hie:i=FB.length:=by omega
    have eE:LJ k m ch x=0:=by
     have hu:¬w8 k m ch x:=fun hh=>by
      obtain⟨j,hj,u1,u2⟩:=ap_.1 hh;exact NC j aa ⟨u1,u2⟩
     rw[acy,aw aa,aw hu]
    refine ajp (A:=BZ) (nn:=FB.length) (c:=F8) (size:=1) (xs:=FB.map dq) aB fun hcF _=>?_;have Rj:aJ B w0 (.obj D (.deferred (some [])):: .bD gq 3 [ah ((ch+4:Nat):Int)]:: .bD gp 27 [.slice A x.length c]:: .own 4 1 Ag (gG (ch+4) x (List.range (k+m))).length cg (sE (gG (ch+4) x (List.range (k+m)))):: .own 27 1 Ap PB.length cp ((PB).map dq):: .bD g6 186 [.slice Ag (gG (ch+4) x (List.range (k+m))).length cg]:: .bD g5 52 [.slice Ap (PB).length cp]:: .bD g2 278 [br g]::Gm g k m ch (.slice Ao out.length co) (.slice Ab (bad++dP at_ (gG (ch+4) x (List.range (k+m)))).length cb) (at_+(k+m)):: .own 5 1 Ao out.length co (bv out):: .own 3 1 Ab (bad++dP at_ (gG (ch+4) x (List.range (k+m)))).length cb (bx (bad++dP at_ (gG (ch+4) x (List.range (k+m))))):: .own 27 1 BZ FB.length F8 (FB.map dq)::(FB.map fq++(PB.map fq++F))) 1 (.slice BZ k F8) k (OJ (FB.take k)).Co:=by
     have h1:aJ B w0 (.obj D (.deferred (some [])):: .bD gq 3 [ah ((ch+4:Nat):Int)]:: .bD gp 27 [.slice A x.length c]:: .own 4 1 Ag (gG (ch+4) x (List.range (k+m))).length cg (sE (gG (ch+4) x (List.range (k+m)))):: .own 27 1 Ap PB.length cp ((PB).map dq):: .bD g6 186 [.slice Ag (gG (ch+4) x (List.range (k+m))).length cg]:: .bD g5 52 [.slice Ap (PB).length cp]:: .bD g2 278 [br g]::Gm g k m ch (.slice Ao out.length co) (.slice Ab (bad++dP at_ (gG (ch+4) x (List.range (k+m)))).length cb) (at_+(k+m)):: .own 5 1 Ao out.length co (bv out):: .own 3 1 Ab (bad++dP at_ (gG (ch+4) x (List.range (k+m)))).length cb (bx (bad++dP at_ (gG (ch+4) x (List.range (k+m))))):: .own 27 1 BZ FB.length F8 (FB.map dq)::(FB.map fq++(PB.map fq++F))) 1 (.slice BZ FB.length F8) FB.length (FB.map dq):=aB;have h2:=h1.iZ (k:=k) aa;rw[cE,←pn,←E0 (FB.take k)]at h2;exact h2
    have hcr:∀y∈OJ (FB.take k),aJ B w0 (.obj D (.deferred (some [])):: .bD gq 3 [ah ((ch+4:Nat):Int)]:: .bD gp 27 [.slice A x.length c]:: .own 4 1 Ag (gG (ch+4) x (List.range (k+m))).length cg (sE (gG (ch+4) x (List.range (k+m)))):: .own 27 1 Ap PB.length cp ((PB).map dq):: .bD g6 186 [.slice Ag (gG (ch+4) x (List.range (k+m))).length cg]:: .bD g5 52 [.slice Ap (PB).length cp]:: .bD g2 278 [br g]::Gm g k m ch (.slice Ao out.length co) (.slice Ab (bad++dP at_ (gG (ch+4) x (List.range (k+m)))).length cb) (at_+(k+m)):: .own 5 1 Ao out.length co (bv out):: .own 3 1 Ab (bad++dP at_ (gG (ch+4) x (List.range (k+m)))).length cb (bx (bad++dP at_ (gG (ch+4) x (List.range (k+m))))):: .own 27 1 BZ FB.length F8 (FB.map dq)::(FB.map fq++(PB.map fq++F))) 1 y.1 y.2.length (bv y.2):=fun y hy=>by
     obtain⟨e,he,rfl⟩:=pM.1 hy;have he:=lX he;exact aJ.own aop
    have hz:(OJ (FB.take k)).all=((BS k m ch x).1.take k).flatten:=by rw[CL,pn,sH]
    have hzl:((BS k m ch x).1.take k).flatten.length≤2000000:=by
     rw[←hz,CL];have:=Bu (m:=ch) (FB.take k) (fun e he=>Nat.le_of_eq (hFe e (lX he)));have h3:(FB.take k).length=k:=by rw[eS];omega
     rw[h3]at this;have h4:ch*k≤4096*255:=gN ch2 aa;omega
    obtain⟨z,hzz⟩:=cN (((BS k m ch x).1.take k).flatten);rw[←hzz]at hz hzl;have hoz:(out++z).length=out.length+z.length:=aY;refine afS ?_;refine S1 ?_;refine be ?_;refine dG ?_;refine iT ?_;refine PH (S:=([.bD g2 278 [br g]]:aP)) ag gF ?_;refine ae 0 ?_;refine ae 1 ?_;refine ae 2 ?_;refine ae 3 ?_;refine ae 5 ?_;refine ae 6 ?_;refine ae 7 ?_;refine ae 8 ?_;refine ae 9 ?_;refine gV 4 10 ?_ ?_
    ·refine aF ?_;refine az 10 ?_;refine aF ?_;refine aW 11 rfl (bN (i:=k) (size:=1) underlying52 ag rfl rfl rfl aa) ?_;refine az 12 ?_;refine bZ rfl rfl (zo (P:=OJ (FB.take k)) (l:=z) Rj hcr Bm hz aa Bm) fun A89 c89=>?_;refine az 13 ?_;refine eV rfl (bS cD rfl aV rfl aB cw aa aa) fun A90 c90=>?_;refine ae 14 ?_;refine ae 15 ?_;refine az 16 ?_;refine aF ?_;refine cQ [] ?_;refine dG ?_;refine iT ?_;refine gH ?_;refine be ?_;refine dG ?_;refine yS ?_;refine⟨_,.swap ..,?_⟩;refine aq (L':=Gm g k m ch (.slice A90 (out++z).length c90) (.slice Ab (bad++dP at_ (gG (ch+4) x (List.range (k+m)))).length cb) (at_+(k+m)):: .own 5 1 A90 (out++z).length c90 (bv (out++z)):: .own 3 1 Ab (bad++dP at_ (gG (ch+4) x (List.range (k+m)))).length cb (bx (bad++dP at_ (gG (ch+4) x (List.range (k+m)))))::F) (.skip (.skip (.skip (.skip (.skip (.skip (.skip (.skip (bq (by rw[hoz];rfl) (ax (by rw[hoz]) ak (.cons (.skip ((dv _ _).trans (dv _ _)))))))))))))) ?_;refine aF ?_;exact⟨A90,c90,Ab,cb,out++z,by rw[eE],L_,fun _=>by rw[hzz]⟩
    ·refine aF ?_;refine aW 11 rfl (bN (i:=k) (size:=1) underlying52 ag rfl rfl rfl aa) ?_;refine gV 4 12 ?_ ?_
     ·refine aF ?_;refine az 12 ?_;refine bZ rfl rfl (zo (P:=OJ (FB.take k)) (l:=z) Rj hcr Bm hz aa Bm) fun A89 c89=>?_;refine az 13 ?_;refine eV rfl (bS cD rfl aV rfl aB cw aa aa) fun A90 c90=>?_;refine ae 14 ?_;refine ae 15 ?_;refine az 16 ?_;refine aF ?_;refine cQ [] ?_;refine dG ?_;refine iT ?_;refine gH ?_;refine be ?_;refine dG ?_;refine yS ?_;refine⟨_,.swap ..,?_⟩;refine aq (L':=Gm g k m ch (.slice A90 (out++z).length c90) (.slice Ab (bad++dP at_ (gG (ch+4) x (List.range (k+m)))).length cb) (at_+(k+m)):: .own 5 1 A90 (out++z).length c90 (bv (out++z)):: .own 3 1 Ab (bad++dP at_ (gG (ch+4) x (List.range (k+m)))).length cb (bx (bad++dP at_ (gG (ch+4) x (List.range (k+m)))))::F) (.skip (.skip (.skip (.skip (.skip (.skip (.skip (.skip (bq (by rw[hoz];rfl) (ax (by rw[hoz]) ak (.cons (.skip ((dv _ _).trans (dv _ _)))))))))))))) ?_;refine aF ?_;exact⟨A90,c90,Ab,cb,out++z,by rw[eE],L_,fun _=>by rw[hzz]⟩
     ·refine bZ rfl rfl (zo (P:=OJ (FB.take k)) (l:=z) Rj hcr Bm hz aa Bm) fun A89 c89=>?_;refine az 4 ?_;refine aF ?_;refine az 13 ?_;refine eV rfl (bS cD rfl aV rfl aB cw aa aa) fun A90 c90=>?_;refine ae 14 ?_;refine ae 15 ?_;refine az 16 ?_;refine aF ?_;refine cQ [] ?_;refine dG ?_;refine iT ?_;refine gH ?_;refine be ?_;refine dG ?_;refine yS ?_;refine⟨_,.swap ..,?_⟩;refine aq (L':=Gm g k m ch (.slice A90 (out++z).length c90) (.slice Ab (bad++dP at_ (gG (ch+4) x (List.range (k+m)))).length cb) (at_+(k+m)):: .own 5 1 A90 (out++z).length c90 (bv (out++z)):: .own 3 1 Ab (bad++dP at_ (gG (ch+4) x (List.range (k+m)))).length cb (bx (bad++dP at_ (gG (ch+4) x (List.range (k+m)))))::F) (.skip (.skip (.skip (.skip (.skip (.skip (.skip (.skip (bq (by rw[hoz];rfl) (ax (by rw[hoz]) ak (.cons (.skip ((dv _ _).trans (dv _ _)))))))))))))) ?_;refine aF ?_;exact⟨A90,c90,Ab,cb,out++z,by rw[eE],L_,fun _=>by rw[hzz]⟩
end
section
variable{ch:Nat}
theorem OQ{f:Nat}{s out:al}{bad:bf}{a:Nat}(h:LJ k m ch (s.take ((k+m)*(ch+4)))≠0):th k m ch (f+1) s out bad a=([],[],LJ k m ch (s.take ((k+m)*(ch+4)))):=by rw[th,ao h]
theorem Wa{f:Nat}{s out:al}{bad:bf}{a:Nat}(h:LJ k m ch (s.take ((k+m)*(ch+4)))=0):th k m ch (f+1) s out bad a=th k m ch f (s.drop ((k+m)*(ch+4))) (out++((BS k m ch (s.take ((k+m)*(ch+4)))).1.take k).flatten) (bad++dP a (ON k m ch (s.take ((k+m)*(ch+4))))) (a+(k+m)):=by
 rw[th,aw aa]
theorem OM(a:Nat)(G:List Bool):(dP a G).length≤G.length:=by
 have:=BH (fun i=> !G.getD i false) (List.range G.length);rw[vZ]at this;unfold dP;rw[eK];exact this
theorem akl{x:al}(h:LJ k m ch x=0):(BS k m ch x).2=0:=by
 have acy:LJ k m ch x=(if (BS k m ch x).2≠0 then (BS k m ch x).2 else @ite _ (w8 k m ch x) (Classical.propDecidable _) 2 0):=rfl;by_cases h1:(BS k m ch x).2≠0
 ·rw[acy,ao h1]at h;exact h
 ·exact bH h1
theorem zD{c:Nat}:∀l:eH,(∀b∈l,b.length=c)→l.flatten.length=l.length*c
 |[],_=>by simp
 |b::l,h=>by
  rw[v_,aY,zD l (fun x hx=>h x oa),h b ak,ef,kB];omega
set_option maxHeartbeats 1000000 in
theorem aiM(HT:bI B w0)(h:Gn k m ch){s:al}(hn:n≤4611686018427387904)(hb:eM B w0 F A c s):
  a_ B w0 130 [ah (k:Int),ah (m:Int),ah (ch:Int),ah (n:Int),.slice A s.length c] F (fun v L=>∃A1 c1 A2 c2,v= .tuple #[.slice A1 (jW k m ch n s).1.length c1,.slice A2 (jW k m ch n s).2.1.length c2,ah (jW k m ch n s).2.2]∧L= .own 5 1 A1 (jW k m ch n s).1.length c1 (bv (jW k m ch n s).1):: .own 3 1 A2 (jW k m ch n s).2.1.length c2 (bx (jW k m ch n s).2.1)::F):=by
 obtain⟨k1,km,ch1,ch2⟩:=h;have h:Gn k m ch:=⟨k1,km,ch1,ch2⟩
 have hkc:=h.kc;have Gc:=h.laid;refine dL.xf hb fun mh _=>?_;refine fw func130 94 [0,1,2,3,4] ?_;refine de ?_;refine ai rfl (Ws h aa) ?_;refine jS ?_;refine aj (fun ka=>?_) fun ka=>?_
 ·have e:jW k m ch n s=([],[],zc k m ch n):=by unfold jW;rw[ao ka]
  refine bz ?_;refine ve [10,11,12] ?_;refine b8 ?_;refine aD 3 1 none ?_;refine aD 5 1 none ?_;refine aF ?_;rw[e];exact⟨none,0,none,0,rfl,rfl⟩
 ·have e0:zc k m ch n=0:=bH ka;rw[ao e0];have tU:n≤8388608:=by
   refine bH fun hh=>?_;unfold zc at e0;rw[ao aa]at e0;exact absurd e0 aA
  have acU:jh k m ch n≤16777216:=by
   refine bH fun hh=>?_;unfold zc at e0;rw[aw aa,ao aa]at e0;exact absurd e0 aA
  refine bL ?_;refine ve [0,1,2,3,4,13,31] ?_;refine aF ?_;refine aj (fun D5=>?_) fun D5=>?_
  ·have e:jW k m ch n s=([],[],1):=by unfold jW;rw[aw ka,ao aa]
   refine bA ?_;refine aD 3 1 none ?_;refine aD 5 1 none ?_;refine aF ?_;rw[e];exact⟨none,0,none,0,rfl,rfl⟩
  ·refine bQ ?_;refine aj (fun y8=>?_) fun y8=>?_
   ·have e:jW k m ch n s=([],[],2):=by unfold jW;rw[aw ka,aw aa,ao aa]
    refine bA ?_;refine aD 3 1 none ?_;refine aD 5 1 none ?_;refine aF ?_;rw[e];exact⟨none,0,none,0,rfl,rfl⟩
   ·have hse:s.length=jh k m ch n:=by omega
    have e:jW k m ch n s=if (oA k m ch n s).2.2≠0 then ([],[],(oA k m ch n s).2.2) else if∃x∈(oA k m ch n s).1.drop n,x≠0 then ([],[],2) else ((oA k m ch n s).1.take n,(oA k m ch n s).2.1,0):=by
     unfold jW;rw[aw ka,aw aa,aw aa]
    have wH:=CQ (k:=k) (ch:=ch) (n:=n) aa;have hrA:oA k m ch n s=th k m ch (lK k ch n) s [] [] 0:=rfl;unfold jh at acU hse;obtain⟨S,hS⟩:=cN (lK k ch n);obtain⟨D,hD⟩:=cN (k*ch);obtain⟨Ld,U5⟩:=cN ((k+m)*(ch+4));have hDL:D≤Ld:=by rw[hD,U5];exact gN aa aa
    have hKL:k+m≤Ld:=by rw[U5];exact ahK _ aa
    rw[←hS]at acU hse wH hrA;rw[←U5]at acU hse Gc;rw[←hD]at hkc wH;refine b8 ?_;refine aZ 3 1 none ?_;refine aZ 5 1 none ?_;refine b8 ?_;refine ab (eG [(0,_),(1,_),(2,_)] [_,_,_] rfl rfl ag) rfl ?_;refine ab (bw [(0,_)] [ah 0,ah 0,ah 0,.slice none 0 0,.slice none 0 0,ah 0] [0] [_,_,_,_,_,_] rfl rfl ag) rfl ?_;refine bh fun US=>?_;refine bG ?_;refine aE (fun zf zL zm=>∃(j:Nat) (R:al) (Ar:bj) (cr:Nat) (out:al) (Ao:bj) (co:Nat) (bad:bf) (Ab:bj) (cb:Nat),(j≤S∧R.length=(S-j)*Ld∧R.length≤cr∧aJ B w0 F 1 (.slice Ar R.length cr) R.length (bv R)∧out.length=j*D∧bad.length≤j*(k+m)∧th k m ch (S-j) R out bad (j*(k+m))=oA k m ch n s)∧S-j=zm∧Sub zf [(3,ah (n:Int)),(4,.slice Ar R.length cr),(15,br US)]∧Wk zL (Gm US k m ch (.slice Ao out.length co) (.slice Ab bad.length cb) (j*(k+m)):: .own 5 1 Ao out.length co (bv out):: .own 3 1 Ab bad.length cb (bx bad)::F)) _ ⟨0,s,A,c,[],none,0,[],none,0,⟨bT _,by rw[El];exact hse,mh,hb,ak,ak,by rw[El,r'];exact hrA.symm⟩,rfl,bp,bq ak (.refl _)⟩ ?_;rintro _ _ _ ⟨j,R,Ar,cr,out,Ao,co,bad,Ab,cb,⟨hj,U7,hRc,U6,Kj,c_,acP⟩,rfl,hs,hp⟩;refine aU hs hp ?_;clear hs hp;refine bJ ?_;refine aj (fun Yc=>?_) fun Yc=>?_
    ·have hjS:j<S:=by
      refine bH fun hh=>?_;have:S-j=0:=by omega
      rw[this,r']at U7;omega
     have hSj:S-j=(S-(j+1))+1:=by omega
     rw[hSj,kB]at U7;rw[hSj]at acP;have hLj:(j+1)*Ld≤S*Ld:=ow _ hjS;have hDj:(j+1)*D≤(j+1)*Ld:=yd _ hDL;have hKj:(j+1)*(k+m)≤(j+1)*Ld:=yd _ hKL;rw[kB]at hLj hDj hKj;rw[kB]at hKj hDj;obtain⟨X,hX⟩:=cN (R.take Ld);have U8:X.length=Ld:=by rw[hX,eS];omega
     have hXb:aJ B w0 F 1 (.slice Ar X.length cr) X.length (bv X):=by
      have:=U6.iZ (k:=Ld) aa;rw[cE,jX,←hX]at this;rw[U8];exact this
     have hXk:X.length=(k+m)*(ch+4):=by rw[U8,U5]
     refine cY ?_;refine ab (bU 3 ag rfl aV [ah (k:Int),ah (m:Int),ah (ch:Int)] rfl rfl) rfl ?_;refine ai rfl (KX h) ?_;refine ab (bN (i:=(k+m)*(ch+4)) (size:=1) underlying27 ag rfl rfl rfl aa) rfl ?_;rw[←hXk];refine aX aoW rfl (aeM HT h hXk aa hXb aa aa aa) rfl ?_;rintro _ _ ⟨Ao2,co2,Ab2,cb2,aqL,rfl,cA,ahx⟩;obtain rfl:=cA.symm;refine bQ ?_;refine aj (fun h60=>?_) fun h60=>?_
     ·have hE2:oA k m ch n s=([],[],LJ k m ch X):=by rw[←acP,OQ (by rw[←U5,←hX];exact h60),←U5,←hX]
      rw[hE2,ao h60]at e;refine bz ?_;refine ve [10,11,12] ?_;refine bL ?_;refine aD 3 1 none ?_;refine aD 5 1 none ?_;refine aq (.cons (.cons (.skip (.skip (.skip (.refl _)))))) ?_;refine aF ?_;rw[e];exact⟨none,0,none,0,rfl,rfl⟩
     ·have hz:LJ k m ch X=0:=bH h60;have hE2:=Wa (k:=k) (m:=m) (ch:=ch) (f:=S-(j+1)) (s:=R) (out:=out) (bad:=bad) (a:=j*(k+m)) (by rw[←U5,←hX];exact hz);rw[←U5,←hX,←ahx hz]at hE2;obtain⟨kY,jH⟩:=Fq k1 hXk (akl hz);have asH:aqL.length=(j+1)*D:=by
       rw[ahx hz,aY,zD (c:=ch) _ (fun b hb=>jH b (lX hb)),eS,kY,kB,hD,←hD,Kj,za aa,←hD]
      have GJ:(bad++dP (j*(k+m)) (ON k m ch X)).length≤(j+1)*(k+m):=by
       have:=OM (j*(k+m)) (ON k m ch X);have h2:(ON k m ch X).length=k+m:=by rw[E8];simp[gG]
       rw[aY,kB];omega
      refine bL ?_;refine ab (bU 3 ag rfl aV [ah (k:Int),ah (m:Int),ah (ch:Int)] rfl rfl) rfl ?_;refine ai rfl (KX h) ?_;refine ab (bP (i:=(k+m)*(ch+4)) (size:=1) underlying27 ag rfl rfl rfl aa) rfl ?_;refine aF ?_;refine ve [3,4,15] ?_;refine aF ?_;have Bx:(R.drop Ld).length=(S-(j+1))*Ld:=by rw[iG];omega
      have hcut:=U6.cut (k:=Ld) aa;rw[cE,jt]at hcut;have acm:R.length-Ld=(R.drop Ld).length:=by rw[iG]
      rw[acm]at hcut;rw[←U5,acm,cE Ld];have hjk:j*(k+m)+(k+m)=(j+1)*(k+m):=by rw[kB]
      rw[hjk];refine av ⟨_,aa,j+1,R.drop Ld,_,_,aqL,Ao2,co2,bad++dP (j*(k+m)) (ON k m ch X),Ab2,cb2,(by exact⟨hjS,Bx,aa,hcut,asH,GJ,by rw[←acP,hE2,hjk]⟩),rfl,bp,.refl _⟩
    ·have hjS:j=S:=by
      refine bH fun hh=>?_;have:1*Ld≤(S-j)*Ld:=ow _ aa;omega
     subst hjS;rw[nx,th]at acP;rw[←acP,aw ak]at e;have hKj:j*(k+m)≤j*Ld:=yd _ hKL;have hDj:j*D≤j*Ld:=yd _ hDL;have hdl:(out.drop n).length=out.length-n:=iG;have hcut:aJ B w0 (Gm US k m ch (.slice Ao out.length co) (.slice Ab bad.length cb) (j*(k+m)):: .own 5 1 Ao out.length co (bv out):: .own 3 1 Ab bad.length cb (bx bad)::F) 1 (.slice (if co=n then Ao else Ao.map (·.add (n*1))) (out.length-n) (co-n)) (out.length-n) (bv (out.drop n)):=by
      have:=(aJ.own (B:=B) (w0:=w0) (L:=Gm US k m ch (.slice Ao out.length co) (.slice Ab bad.length cb) (j*(k+m)):: .own 5 1 Ao out.length co (bv out):: .own 3 1 Ab bad.length cb (bx bad)::F) (.tail _ (.head _))).cut (k:=n) aa;rw[jt,cE]at this;rw[cE];exact this
     refine de ?_;refine ab (bP (i:=n) (size:=1) underlying27 ag rfl rfl rfl aa) rfl ?_;refine bG ?_;refine aE (fun zf zL zm=>∃(q:Nat),(q≤out.length-n∧∀p,p<q→(out.drop n).getD p 0=0)∧out.length-n-q=zm∧Sub zf [(3,ah (n:Int)),(15,br US),(74,.slice (if co=n then Ao else Ao.map (·.add (n*1))) (out.length-n) (co-n)),(75,ah ((out.length-n:Nat):Int)),(76,ah (q:Int))]∧Wk zL (Gm US k m ch (.slice Ao out.length co) (.slice Ab bad.length cb) (j*(k+m)):: .own 5 1 Ao out.length co (bv out):: .own 3 1 Ab bad.length cb (bx bad)::F)) _ ⟨0,⟨bT _,fun p hp=>aa⟩,rfl,bp,.refl _⟩ ?_;rintro _ _ _ ⟨q,⟨hq,hz0⟩,rfl,hs,hp⟩;refine aU hs hp ?_;clear hs hp;refine bz ?_;refine aj (fun h77=>?_) fun h77=>?_
     ·obtain⟨u,hu⟩:=cN ((out.drop n).getD q 0);refine bz ?_;refine ab (aC (i:=q) (size:=1) underlying27 ag rfl rfl rfl aa hcut) rfl ?_;refine ab (jo ag rfl hcut aa) rfl ?_;rw[←hu];refine bQ ?_;refine aj (fun h81=>?_) fun h81=>?_
      ·have hex:∃x∈out.drop n,x≠0:=⟨u,hu▸bg aa 0,fun k=>h81 (by rw[k];rfl)⟩
       rw[ao hex]at e;refine de ?_;refine aD 3 1 none ?_;refine aD 5 1 none ?_;refine aq (.cons (.cons (.skip (.skip (.skip (.refl _)))))) ?_;refine aF ?_;rw[e];exact⟨none,0,none,0,rfl,rfl⟩
      ·refine bL ?_;refine av ⟨_,aa,q+1,⟨aa,fun p hp=>by
        by_cases e:p=q
        ·subst e;rw[←hu];exact nZ (by show u.toNat=0;omega)
        ·exact hz0 p aa⟩,rfl,bp,.refl _⟩
     ·have hex:¬∃x∈out.drop n,x≠0:=fun⟨x,hx,Yz⟩=>by
       obtain⟨p,hp,rfl⟩:=jZ hx;have:=hz0 p aa;rw[bk,fm hp]at this;exact Yz this
      rw[aw hex]at e;have Ce:(out.take n).length=n:=by rw[eS];omega
      have acH:aJ B w0 (Gm US k m ch (.slice Ao out.length co) (.slice Ab bad.length cb) (j*(k+m)):: .own 5 1 Ao out.length co (bv out):: .own 3 1 Ab bad.length cb (bx bad)::F) 1 (.slice Ao n co) n (bv (out.take n)):=by
       have:=(aJ.own (B:=B) (w0:=w0) (L:=Gm US k m ch (.slice Ao out.length co) (.slice Ab bad.length cb) (j*(k+m)):: .own 5 1 Ao out.length co (bv out):: .own 3 1 Ab bad.length cb (bx bad)::F) (.tail _ (.head _))).iZ (k:=n) aa;rw[jX,cE]at this;exact this
      refine Tp (A:=Ao) (nn:=out.length) (c:=co) (size:=1) (xs:=bv out) (aJ.own (.tail _ (.head _))) fun hcF _=>?_;refine bz ?_;refine cF (Gm US k m ch (.slice Ao out.length co) (.slice Ab bad.length cb) (j*(k+m)):: .own 5 1 Ao out.length co (bv out):: .own 3 1 Ab bad.length cb (bx bad)::F) ?_;refine ae 0 ?_;refine ae 1 ?_;refine ae 2 ?_;refine ae 3 ?_;refine ae 4 ?_;refine aW 5 rfl (bN (i:=n) (size:=1) underlying27 ag rfl rfl rfl aa) ?_;refine ae 7 ?_;refine ae 8 ?_;refine ae 9 ?_;refine ae 10 ?_;refine az 6 ?_;refine bZ rfl rfl (uq (l:=out.take n) Ce.symm rfl acH aa) fun A89 c89=>?_;refine ae 11 ?_;refine ae 12 ?_;refine ae 13 ?_;refine cQ [10,11,12] ?_;refine be ?_;refine aq (.cons (.skip (.skip (.refl _)))) ?_;refine aF ?_;rw[e];exact⟨A89,c89,Ab,cb,rfl,rfl⟩
end
theorem N_{k m ch:Nat}{b:al}(hk:0<k)(hc:0<ch)(h:(pW k m ch b).2=0):(pW k m ch b).1.length≤16777216∧b.length≤8388608:=by
 unfold pW at h⊢;by_cases e:zc k m ch b.length≠0
 ·rw[ao e]at h;exact absurd h e
 ·rw[aw e];have e':zc k m ch b.length=0:=bH e;unfold zc at e';have hb:b.length≤8388608:=bH fun q=>by rw[ao aa]at e';exact absurd e' aA
  rw[aw aa]at e';have hs:jh k m ch b.length≤16777216:=bH fun q=>by rw[ao aa]at e';exact absurd e' aA
  refine⟨?_,hb⟩;show(ue k m ch (lK k ch b.length) (sg k ch b)).length≤_;rw[yi hk _ _ (uy (N3 hk hc) b)];exact hs
theorem ae9(HT:bI B w0){o:aR}{n p:Nat}(ho:cB 3 o=0)(hn:n<4294967296){l:al}(e:n2=l.length)(hb:aJ B w0 F 1 (.slice A n2 c) n2 (bv l))(hl:l.length≤1000000000):
  a_ B w0 67 [br g,.slice A n2 c] (Hb g o n p::F) (Gg (jm o n++(l++jm o n)) (Hb g o n p::F)):=by
 subst e;have h1:=FH o n;refine ct func67 12 rfl rfl rfl [(0,br g),(1,.slice A l.length c)] ⟨⟨rfl,rfl⟩,⟨rfl,rfl⟩,trivial⟩ ?_;refine bJ ?_;refine ay rfl (Ja HT ho hn) fun A6 c6=>?_;refine be ?_;refine ay rfl (.perm (Ja HT ho hn) ((l6 (fR (.refl _))))) fun A9 c9=>?_;refine cC (aG fD [_,_,_] rfl rfl cw aa aa) fun wh=>?_;refine ay rfl (Jq (l1:=jm o n) (l2:=l) (l3:=jm o n) aB aB (hb.cons.cons.cons.cons) aB rfl LZ) fun tz xg=>?_;refine b8 ?_;refine aq ((ed (rM (.skip (.skip (.skip (.refl _))))))) ?_;refine aF ?_;exact⟨tz,xg,rfl,rfl⟩
theorem S8{o:aR}{L:List aK}(h:cB 3 o≠0):tp o L=([],cB 3 o):=by unfold tp;rw[ao h]
theorem afk{o:aR}{L:List aK}(h:cB 3 o=0)(h2:(fX o L).2≠0):tp o L=([],(fX o L).2):=by unfold tp;rw[aw aa,ao h2]
theorem afl{o:aR}{L:List aK}(h:cB 3 o=0)(h2:¬(fX o L).2≠0)(h3:(ic o (dy o L)).2≠0):tp o L=([],(ic o (dy o L)).2):=by unfold tp;rw[aw aa,aw h2,ao h3]
theorem S9{o:aR}{L:List aK}(h:cB 3 o=0)(h2:¬(fX o L).2≠0)(h3:¬(ic o (dy o L)).2≠0):tp o L=(la o (dy o L),0):=by unfold tp;rw[aw aa,aw h2,aw h3]
theorem afd{o:aR}{L:List aK}{v:Value}(h:cB 3 o≠0):a_ B w0 28 [.agg (aR.cells o).toArray,v] F (LO (tp o L) F):=by
 have e:=S8 (L:=L) h;obtain⟨bl,pl,bu,da,pa,ch⟩:=o;refine ct func28 45 rfl rfl rfl [(0,.agg #[ah bl,.bool pl,ah bu,ah da,ah pa,ah ch]),(1,v)] ⟨⟨rfl,rfl⟩,⟨rfl,rfl⟩,trivial⟩ ?_;refine be ?_;refine bh fun g2=>?_;refine bJ ?_;refine ai rfl (kD 3 (bl,pl,bu,da,pa,ch)) ?_;refine bQ ?_;refine aj (fun lA=>?_) fun lA=>?_
 ·refine bQ ?_;refine aD 5 1 none ?_;refine aq (.cons (.skip (.refl _))) ?_;refine aF ?_;rw[e];exact⟨none,0,rfl,rfl⟩
 ·exfalso;exact lA h
theorem Ml{o:aR}{L:List aK}(h2:¬(fX o L).2≠0):(fX o L).1=dy o L∧cO L=0:=by
 unfold fX at h2⊢;by_cases q1:cB 2 (o2 o)≠0
 ·rw[ao q1]at h2;exact absurd q1 h2
 ·by_cases q2:cO L≠0
  ·rw[aw q1,ao q2]at h2;exact absurd q2 h2
  ·rw[aw q1,aw q2];exact⟨rfl,bH q2⟩
theorem SM{o:aR}(h:cB 3 o=0):Gn o.2.2.2.1.toNat o.2.2.2.2.1.toNat o.2.2.2.2.2.toNat∧0≤o.2.2.2.1∧0≤o.2.2.2.2.1∧0≤o.2.2.2.2.2:=by
 obtain⟨_,m3,_⟩:=(lT h).1;obtain⟨⟨k1,k2⟩,⟨k3,k4⟩,⟨k5,k6⟩⟩:=m3 rfl;exact⟨⟨aa,aa,aa,aa⟩,aa,aa,aa⟩
theorem afe(HT:bI B w0){o:aR}{L:List aK}(ho:cB 3 o=0)(hx:∀x∈L,x.1<18446744073709551616)(hb:aJ B w0 F 4 (.slice A L.length c) L.length (di L)):a_ B w0 28 [.agg (aR.cells o).toArray,.slice A L.length c] F (LO (tp o L) F):=by
 have hO2:=afk (L:=L) ho;have hO3:=afl (L:=L) ho;have hO4:=S9 (L:=L) ho;obtain⟨W,hW⟩:=cN (tp o L);rw[←hW]at hO2 hO3 hO4⊢;obtain⟨Y,hY⟩:=cN (fX o L);have NA:=fun M (hb:aJ B w0 M 4 (.slice A L.length c) L.length (di L))=>Da (F:=M) HT (o:=o) hx hb;have hbw:=Ml (o:=o) (L:=L);rw[←hY]at hO2 hO3 hO4 hbw;simp only[←hY]at NA;have Nq:=fun hc=>Hv (o:=o) (L:=L) (lT ho).2 hc hx;obtain⟨Cd,p1,p2,p3⟩:=SM ho;obtain⟨bl,pl,bu,da,pa,ch⟩:=o;obtain⟨d,rfl⟩:=gM (show 0≤da from p1);obtain⟨q,rfl⟩:=gM (show 0≤pa from p2);obtain⟨hc,rfl⟩:=gM (show 0≤ch from p3);have Cd:Gn d q hc:=Cd;have Gc:∀b,ic (bl,pl,bu,(d:Int),(q:Int),(hc:Int)) b=pW d q hc b:=fun _=>rfl;have hA:∀b,la (bl,pl,bu,(d:Int),(q:Int),(hc:Int)) b=jm (bl,pl,bu,(d:Int),(q:Int),(hc:Int)) b.length++((pW d q hc b).1++jm (bl,pl,bu,(d:Int),(q:Int),(hc:Int)) b.length):=fun _=>rfl;refine ct func28 45 rfl rfl rfl [(0,.agg #[ah bl,.bool pl,ah bu,ah (d:Int),ah (q:Int),ah (hc:Int)]),(1,.slice A L.length c)] ⟨⟨rfl,rfl⟩,⟨rfl,rfl⟩,trivial⟩ ?_;refine be ?_;refine bh fun g2=>?_;refine bJ ?_;refine ai rfl (kD 3 (bl,pl,bu,(d:Int),(q:Int),(hc:Int))) ?_;refine bQ ?_;refine aj (fun lA=>?_) fun lA=>?_
 ·exfalso;exact lA ho
 ·refine bz ?_;refine ay rfl (NA _ hb.cons) fun sX uO=>?_;refine dQ ?_;refine aj (fun rJ=>?_) fun rJ=>?_
  ·refine bG ?_;refine ve [4,5] ?_;refine bF ?_;refine aD 5 1 none ?_;refine aq (.cons (.skip (.skip (.refl _)))) ?_;refine aF ?_;rw[hO2 rJ];exact⟨none,0,rfl,rfl⟩
  ·obtain⟨hB1,hB2⟩:=hbw rJ;have Nq:=Nq hB2;have hO3:=hO3 rJ;have hO4:=hO4 rJ;rw[←hB1]at Nq hO3 hO4;rw[Gc]at hO3 hO4;refine cY ?_;refine ay rfl (ann HT Cd (b:=Y.1) (aJ.own (.head _)) aa) fun LM Mr=>?_;refine bG ?_;refine ve [2,7,8,9] ?_;refine bJ ?_;refine aj (fun y8=>?_) fun y8=>?_
   ·refine bQ ?_;refine aD 5 1 none ?_;refine aq (.cons (.skip (.skip (.skip (.refl _))))) ?_;refine aF ?_;rw[hO3 y8];exact⟨none,0,rfl,rfl⟩
   ·obtain⟨tu,rK⟩:=N_ Cd.k1 Cd.c1 (bH y8);refine bL ?_;refine ab (bw [(0,_),(1,_)] [ah 0,.bool false,ah 0,ah 0,ah 0,ah 0,ah 0,.int .u8 0] [0,6] [_,_,_,_,_,_,_,_] rfl rfl ag) rfl ?_;refine bh fun g42=>?_;refine aF ?_;refine ay rfl (ae9 HT (p:=0) ho aa (l:=(pW d q hc Y.1).1) rfl (aJ.own (.head _)) aa) fun A44 c44=>?_;refine bG ?_;refine aq ((ed (.skip (.skip (.skip (.skip (.refl _))))))) ?_;refine aF ?_;rw[hO4 y8,hA];exact⟨A44,c44,rfl,rfl⟩
theorem aff(HT:bI B w0){o:aR}{L:List aK}(hx:∀x∈L,x.1<18446744073709551616)(hb:aJ B w0 F 4 (.slice A L.length c) L.length (di L)):a_ B w0 28 [.agg (aR.cells o).toArray,.slice A L.length c] F (LO (tp o L) F):=by
 by_cases h:cB 3 o=0
 ·exact afe HT h hx hb
 ·exact afd h
section
theorem OS{k m ch:Nat}(hk:1≤k):∀(f:Nat) (s out:al) (bad:bf) (a:Nat),s.length=f*((k+m)*(ch+4))→(th k m ch f s out bad a).2.2=0→
  (th k m ch f s out bad a).1.length=out.length+f*(k*ch)∧(th k m ch f s out bad a).2.1.length≤bad.length+f*(k+m)
 |0,s,out,bad,a,_,_=>by simp[th]
 |f+1,s,out,bad,a,hs,h=>by
  rw[kB]at hs;by_cases hz:LJ k m ch (s.take ((k+m)*(ch+4)))=0
  ·rw[Wa hz]at h⊢;have hX:(s.take ((k+m)*(ch+4))).length=(k+m)*(ch+4):=by rw[eS];omega
   obtain⟨h1,h2⟩:=Fq hk hX (akl hz);obtain⟨r1,r2⟩:=OS hk f _ _ _ _ kQ h;have e1:(((BS k m ch (s.take ((k+m)*(ch+4)))).1.take k).flatten).length=k*ch:=by
    rw[zD (c:=ch) _ (fun b hb=>h2 b (lX hb)),eS,h1,za aa]
   have e2:(dP a (ON k m ch (s.take ((k+m)*(ch+4))))).length≤k+m:=by
    refine jd (OM _ _) ?_;rw[E8];simp[gG]
   rw[aY,e1]at r1;rw[aY]at r2;rw[kB,kB];exact⟨aa,aa⟩
  ·rw[OQ hz]at h;exact absurd h hz
theorem OT{k m ch n:Nat}{s:al}(hk:1≤k)(hc:1≤ch)(h:(jW k m ch n s).2.2=0):(jW k m ch n s).1.length=n∧(jW k m ch n s).2.1.length≤16777216∧n≤8388608∧n≤s.length:=by
 by_cases q1:zc k m ch n≠0
 ·unfold jW at h;rw[ao q1]at h;exact absurd h q1
 ·have e':zc k m ch n=0:=bH q1;unfold zc at e';have hb:n≤8388608:=bH fun q=>by rw[ao aa]at e';exact absurd e' aA
  rw[aw aa]at e';have i_:jh k m ch n≤16777216:=bH fun q=>by rw[ao aa]at e';exact absurd e' aA
  by_cases q2:s.length<jh k m ch n
  ·unfold jW at h;rw[aw q1,ao q2]at h;exact absurd h aA
  ·by_cases q3:jh k m ch n<s.length
   ·unfold jW at h;rw[aw q1,aw q2,ao q3]at h;exact absurd h aA
   ·by_cases q4:(oA k m ch n s).2.2≠0
    ·unfold jW at h;rw[aw q1,aw q2,aw q3,ao q4]at h;exact absurd h q4
    ·by_cases q5:∃x∈(oA k m ch n s).1.drop n,x≠0
     ·unfold jW at h;rw[aw q1,aw q2,aw q3,aw q4,ao q5]at h;exact absurd h aA
     ·have e:jW k m ch n s=((oA k m ch n s).1.take n,(oA k m ch n s).2.1,0):=by
       unfold jW;rw[aw q1,aw q2,aw q3,aw q4,aw q5]
      rw[e];have wH:=CQ (k:=k) (ch:=ch) (n:=n) (N3 hk hc);obtain⟨r1,r2⟩:=OS hk (lK k ch n) s [] [] 0 (by unfold jh at q2 q3;omega) (bH q4);have uZ:(oA k m ch n s).1.length=lK k ch n*(k*ch):=by rw[show oA k m ch n s=th k m ch (lK k ch n) s [] [] 0 from rfl,r1];simp
      have xm:(oA k m ch n s).2.1.length≤lK k ch n*(k+m):=by
       have:=r2;rw[r_,mq]at this;exact this
      have hm:lK k ch n*(k+m)≤lK k ch n*((k+m)*(ch+4)):=yd _ (ahK _ aa);unfold jh at i_;have wM:lK k ch n*(k*ch)≤lK k ch n*((k+m)*(ch+4)):=yd _ (gN aa aa);unfold jh at q2 q3;refine⟨?_,?_,hb,aa⟩
      ·show((oA k m ch n s).1.take n).length=n;rw[eS];omega
      ·show(oA k m ch n s).2.1.length≤_;omega
section
variable{b:al}
theorem FI(h:(ej b).2≠0):dH b=(gR,[],0,(ej b).2):=by unfold dH;rw[ao h]
theorem K7(h:¬(ej b).2≠0)(h2:hE (ej b).1≠0):dH b=(gR,[],0,hE (ej b).1):=by unfold dH;rw[aw h,ao h2]
theorem S3(h:¬(ej b).2≠0)(h2:¬hE (ej b).1≠0)(h3:(Bx b).2.2≠0):dH b=(gR,[],0,(Bx b).2.2):=by unfold dH;rw[aw h,aw h2,ao h3]
theorem S4(h:¬(ej b).2≠0)(h2:¬hE (ej b).1≠0)(h3:¬(Bx b).2.2≠0):dH b=(hO (ej b).1,(Bx b).1,(Bx b).2.1.length+Kg b,0):=by unfold dH;rw[aw h,aw h2,aw h3]
end
theorem acj{c:al}(h:hE c=0):cB 3 (hO c)=0:=by
 unfold hE at h;by_cases q:1<(D6 c).toNat
 ·rw[ao q]at h;exact absurd h aA
 ·rw[aw q]at h;exact h
theorem My{b:al}(h:(ej b).2=0):42≤b.length∧(ej b).1.length=21:=by
 by_cases q:b.length<42
 ·rw[abf q]at h;exact absurd h aA
 ·refine⟨aa,?_⟩;by_cases q2:zn (b.take 21)
  ·rw[abg q q2];simp;omega
  ·by_cases q3:zn (b.drop (b.length-21))
   ·rw[abh q q2 q3];simp;omega
   ·rw[abi q q2 q3]at h;exact absurd h aA
theorem vk{b:al}(h:(dH b).2.2.2=0):cB 3 (dH b).1=0∧(dH b).2.1.length≤8388608∧(dH b).2.2.1≤16777217∧(dH b).2.1.length≤b.length:=by
 by_cases q1:(ej b).2≠0
 ·rw[FI q1]at h;exact absurd h q1
 ·by_cases q2:hE (ej b).1≠0
  ·rw[K7 q1 q2]at h;exact absurd h q2
  ·by_cases q3:(Bx b).2.2≠0
   ·rw[S3 q1 q2 q3]at h;exact absurd h q3
   ·rw[S4 q1 q2 q3];have ho:=acj (bH q2);obtain⟨⟨s1,s2,s3,s4⟩,_⟩:=SM ho;obtain⟨r1,r2,r3,r4⟩:=OT s1 s3 (bH q3);have r4:=jd r4 (show((b.take (b.length-21)).drop 21).length≤b.length by rw[iG,eS];omega);refine⟨ho,?_,?_,?_⟩
    ·show(Bx b).1.length≤_;unfold Bx;omega
    ·show(Bx b).2.1.length+Kg b≤_;have:Kg b≤1:=by unfold Kg;split<;>omega
     unfold Bx;omega
    ·show(Bx b).1.length≤_;unfold Bx;omega
end
theorem aiN(HT:bI B w0){k m ch n:Nat}(h:Gn k m ch){s:al}(e:n2=s.length)(hn:n≤4611686018427387904)(hb:aJ B w0 F 1 (.slice A n2 c) n2 (bv s)):
  a_ B w0 130 [ah (k:Int),ah (m:Int),ah (ch:Int),ah (n:Int),.slice A n2 c] F (fun v L=>∃A1 c1 A2 c2,v= .tuple #[.slice A1 (jW k m ch n s).1.length c1,.slice A2 (jW k m ch n s).2.1.length c2,ah (jW k m ch n s).2.2]∧L= .own 5 1 A1 (jW k m ch n s).1.length c1 (bv (jW k m ch n s).1):: .own 3 1 A2 (jW k m ch n s).2.1.length c2 (bx (jW k m ch n s).2.1)::F):=by
 subst e;exact aiM HT h hn hb
def MdE(e:Int)(F:aP)(r:Value)(L:aP):Prop:=r= .tuple #[.pointer none,.slice none 0 0,ah 0,ah e]∧L=F
def MdK(R:aR×al×Nat×Int)(F:aP)(r:Value)(L:aP):Prop:=∃g A' c' p,r= .tuple #[br g,.slice A' R.2.1.length c',ah (R.2.2.1:Int),ah 0]∧L= .own 5 1 A' R.2.1.length c' (bv R.2.1)::Hb g R.1 R.2.1.length p::F
theorem aq_(HT:bI B w0){b:al}(hb:eM B w0 F A c b)(c_:b.length≤1000000000)(h:(ej b).2≠0):a_ B w0 73 [.slice A b.length c] F (MdE (dH b).2.2.2 F):=by
 refine fw func73 80 [0] ?_;refine cY ?_;refine aX Ul rfl (xC HT hb c_) rfl ?_;rintro _ _ ⟨TI,c17,rfl,cA,Yl⟩;obtain rfl:=cA.symm;refine dQ ?_;refine aj (fun lW=>?_) fun lW=>?_
 ·refine cJ ?_;rw[FI h];exact⟨rfl,rfl⟩
 ·exfalso;exact lW h
theorem aq'(HT:bI B w0){b:al}(hb:eM B w0 F A c b)(c_:b.length≤1000000000)(h:¬(ej b).2≠0)(h2:hE (ej b).1≠0):a_ B w0 73 [.slice A b.length c] F (MdE (dH b).2.2.2 F):=by
 obtain⟨ap0,asg⟩:=My (bH h);have tW:=fun M TI c17 (Yl:aJ B w0 M 1 (.slice TI (ej b).1.length c17) (ej b).1.length (bv (ej b).1))=>(Pj (F:=M) rfl aa Yl aa).mono fun r L hr=>hr.elim (fun q=>q.2) fun q=>absurd q.1 h2;refine fw func73 80 [0] ?_;refine cY ?_;refine aX Ul rfl (xC HT hb c_) rfl ?_;rintro _ _ ⟨TI,c17,rfl,cA,Yl⟩;obtain rfl:=cA.symm;refine dQ ?_;refine aj (fun lW=>?_) fun lW=>?_
 ·exfalso;exact h lW
 ·refine bG ?_;refine ay rfl (tW _ _ _ Yl) fun Y vY=>?_;refine bG ?_;refine ve [0,7,8] ?_;refine bJ ?_;refine aj (fun rZ=>?_) fun rZ=>?_
  ·refine cY ?_;refine aq (dv Y F) ?_;refine aF ?_;rw[K7 h h2];exact⟨rfl,rfl⟩
  ·exfalso;exact rZ h2
theorem ai4{b:al}(h:42≤b.length)(hb:eM B w0 F A c b):aJ B w0 F 1 (.slice (if c=21 then A else A.map (·.add (21*1))) (b.length-21-21) (c-21)) (b.length-21-21) (bv ((b.take (b.length-21)).drop 21)):=by
 have h1:=hb.iZ (k:=b.length-21) aa;rw[jX,cE]at h1;have h2:=h1.cut (k:=21) aa;rw[jt,cE]at h2;rw[cE];exact h2
theorem ara(HT:bI B w0){b:al}(hb:eM B w0 F A c b)(c_:b.length≤1000000000)(h:¬(ej b).2≠0)(h2:¬hE (ej b).1≠0):a_ B w0 73 [.slice A b.length c] F (fun r L=>((dH b).2.2.2≠0∧MdE (dH b).2.2.2 F r L)∨((dH b).2.2.2=0∧MdK (dH b) F r L)):=by
 obtain⟨ap0,asg⟩:=My (bH h);have tW:=fun M TI c17 (Yl:aJ B w0 M 1 (.slice TI (ej b).1.length c17) (ej b).1.length (bv (ej b).1))=>(Pj (F:=M) rfl aa Yl aa).mono fun r L hr=>hr.elim (fun q=>absurd q.1 h2) fun q=>q.2;have Ru:=ai4 ap0 hb;have y9:b.length-21-21=((b.take (b.length-21)).drop 21).length:=by rw[iG,eS];omega
 have hoo:=acj (bH h2);obtain⟨Cd,p1,p2,p3⟩:=SM hoo;have Va:=apW (ej b).1;have Vc:=OT (k:=(hO (ej b).1).2.2.2.1.toNat) (m:=(hO (ej b).1).2.2.2.2.1.toNat) (ch:=(hO (ej b).1).2.2.2.2.2.toNat) (n:=hN (ej b).1) (s:=(b.take (b.length-21)).drop 21) Cd.k1 Cd.c1;have hM3:=S3 (b:=b) h h2;have hM4:=S4 (b:=b) h h2;obtain⟨M,hM⟩:=cN (dH b);have alS:Kg b=if b.take 21=b.drop (b.length-21) then 0 else 1:=rfl
 have ha:=Ur (A:=A) (c:=c) (B:=B) (w0:=w0) (F:=F) (b:=b) aa hb;have hz:=Us (A:=A) (c:=c) (B:=B) (w0:=w0) (F:=F) (b:=b) aa hb;have l1:(b.take 21).length=21:=by rw[eS];omega
 have l2:(b.drop (b.length-21)).length=b.length-(b.length-21):=by rw[iG]
 have Rc:Bx b=jW (hO (ej b).1).2.2.2.1.toNat (hO (ej b).1).2.2.2.2.1.toNat (hO (ej b).1).2.2.2.2.2.toNat (hN (ej b).1) ((b.take (b.length-21)).drop 21):=rfl;rw[←Rc]at Vc;rw[←hM]at hM3 hM4⊢;obtain⟨Q,hQ⟩:=cN ((b.take (b.length-21)).drop 21);rw[←hQ]at Ru y9 Rc;obtain⟨o,ho⟩:=cN (hO (ej b).1);rw[←ho]at hoo Cd p1 p2 p3 hM4 tW Rc;obtain⟨bl,pl,bu,da,pa,ch⟩:=o;obtain⟨d,rfl⟩:=gM (show 0≤da from p1);obtain⟨q,rfl⟩:=gM (show 0≤pa from p2);obtain⟨hc,rfl⟩:=gM (show 0≤ch from p3);have Cd:Gn d q hc:=Cd;have Rc:Bx b=jW d q hc (hN (ej b).1) Q:=Rc;obtain⟨R,hR⟩:=cN (Bx b);rw[←hR]at hM3 hM4 Rc Vc;have hsr:=fun M (Ru:aJ B w0 M 1 (.slice (if c=21 then A else A.map (·.add (21*1))) (b.length-21-21) (c-21)) (b.length-21-21) (bv Q))=>aiN (F:=M) (n:=hN (ej b).1) HT Cd y9 aa Ru;simp only[←Rc]at hsr;obtain⟨nn,P8⟩:=cN (hN (ej b).1);rw[←P8]at Va Vc tW hsr;obtain⟨df,hdf⟩:=cN (Kg b);rw[←hdf]at alS hM4;refine dL.xf hb fun mh _=>?_;refine fw func73 80 [0] ?_;refine cY ?_;refine aX Ul rfl (xC HT hb c_) rfl ?_;rintro _ _ ⟨TI,c17,rfl,cA,Yl⟩;obtain rfl:=cA.symm;refine dQ ?_;refine aj (fun lW=>?_) fun lW=>?_
 ·exfalso;exact h lW
 ·refine bG ?_;refine aX aoL rfl (tW _ _ _ Yl) rfl ?_;rintro _ _ ⟨g25,rfl,cA⟩;obtain rfl:=cA.symm;refine bG ?_;refine ve [0,7,8] ?_;refine bJ ?_;refine aj (fun rZ=>?_) fun rZ=>?_
  ·exfalso;exact rZ rfl
  ·refine bF ?_;refine cF (Hb g25 (bl,pl,bu,(d:Int),(q:Int),(hc:Int)) nn (D6 (ej b).1).toNat::F) ?_;refine ae 0 ?_;refine ae 1 ?_;refine ae 2 ?_;refine ae 3 ?_;refine ae 4 ?_;refine ae 5 ?_;refine ae 6 ?_;refine ae 7 ?_;refine ae 8 ?_;refine ae 9 ?_;refine ae 10 ?_;refine ae 11 ?_;refine ae 12 ?_;refine ae 13 ?_;refine ae 14 ?_;refine ae 15 ?_;refine ae 16 ?_;refine ae 17 ?_;refine ae 18 ?_;refine ae 19 ?_;refine ae 20 ?_;refine ae 21 ?_;refine aW 22 rfl (dw rfl rfl (r:=((b.length-21:Nat):Int)) ((bE aa aa).trans aa)) ?_;refine aW 23 rfl (kr (i:=21) (j:=b.length-21) (size:=1) underlying27 ag rfl rfl rfl rfl rfl aa aa) ?_;refine az 24 ?_;refine gA rfl .no aoM rfl (hsr _ Ru.cons) rfl (by rintro _ _ ⟨A56,c56,art,arB,rfl,rfl⟩;exact gF) ?_;rintro _ _ ⟨A56,c56,art,arB,rfl,cA⟩;obtain rfl:=cA.symm;refine ae 25 ?_;refine ae 26 ?_;refine ae 27 ?_;refine ae 28 ?_;refine ae 29 ?_;refine ae 30 ?_;refine ae 31 ?_;refine cQ [0,7,8,9,10] ?_;refine bJ ?_;refine aj (fun h61=>?_) fun h61=>?_
   ·refine cY ?_;refine aq (.skip (.skip (.skip (.refl _)))) ?_;refine aF ?_;rw[hM3 h61];exact .inl ⟨h61,rfl,rfl⟩
   ·obtain⟨r1,r2,r3,r4⟩:=Vc (bH h61);have hM4:=hM4 h61;subst r1;refine de ?_;refine ai rfl (MG aa mh aa) ?_;refine de ?_;refine ai rfl (abN (l:=b.take 21) (l2:=b.drop (b.length-21)) l1.symm rfl l2.symm rfl ha.cons.cons.cons hz.cons.cons.cons aa) ?_;refine aF ?_;refine ve [8,9,11,74] ?_;refine aF ?_;refine aj (fun h74=>?_) fun h74=>?_
    ·obtain rfl:df=1:=by rw[alS,aw h74]
     refine be ?_;refine ab (bY rfl rfl (r:=((R.2.1.length+1:Nat):Int)) ((bE aa aa).trans aa)) rfl ?_;refine jy ?_;refine aq ((ed (gl (.skip (.refl _))))) ?_;refine aF ?_;rw[hM4];exact .inr ⟨rfl,g25,A56,c56,_,rfl,rfl⟩
    ·obtain rfl:df=0:=by rw[alS,ao (bH h74)]
     refine dQ ?_;refine aq ((ed (gl (.skip (.refl _))))) ?_;refine aF ?_;rw[hM4];exact .inr ⟨rfl,g25,A56,c56,_,rfl,rfl⟩
theorem FE(HT:bI B w0){b:al}(hb:eM B w0 F A c b)(c_:b.length≤1000000000):a_ B w0 73 [.slice A b.length c] F (fun r L=>((dH b).2.2.2≠0∧MdE (dH b).2.2.2 F r L)∨((dH b).2.2.2=0∧MdK (dH b) F r L)):=by
 by_cases h:(ej b).2≠0
 ·exact(aq_ HT hb c_ h).mono fun r L hr=>.inl ⟨by rw[FI h];exact h,hr⟩
 ·by_cases h2:hE (ej b).1≠0
  ·exact(aq' HT hb c_ h h2).mono fun r L hr=>.inl ⟨by rw[K7 h h2];exact h2,hr⟩
  ·exact ara HT hb c_ h h2
theorem S2(HT:bI B w0){b:al}(hb:eM B w0 F A c b)(c_:b.length≤1000000000)(h:(dH b).2.2.2≠0):a_ B w0 73 [.slice A b.length c] F (MdE (dH b).2.2.2 F):=
 (FE HT hb c_).mono fun r L hr=>hr.elim (fun q=>q.2) fun q=>absurd q.1 h
theorem FF(HT:bI B w0){b:al}(hb:eM B w0 F A c b)(c_:b.length≤1000000000)(h:(dH b).2.2.2=0):a_ B w0 73 [.slice A b.length c] F (MdK (dH b) F):=
 (FE HT hb c_).mono fun r L hr=>hr.elim (fun q=>absurd h q.1) fun q=>q.2
theorem ai3(HT:bI B w0){b:al}(hb:eM B w0 F A c b)(c_:b.length≤1000000000):a_ B w0 108 [.slice A b.length c] F (fun r L=>r= .bool (decide ((ej b).2=0))∧L=F):=by
 refine fw func108 12 [0] ?_;refine bJ ?_;refine aX Ul rfl (xC HT hb c_) rfl ?_;rintro _ _ ⟨A7,c7,rfl,cA,Yl⟩;obtain rfl:=cA.symm;refine jS ?_;exact⟨rfl,rfl⟩
section
section
variable{b:al}
theorem S5(h:(dH b).2.2.2≠0):ig b=(gR,.nil,0,(dH b).2.2.2):=by unfold ig;rw[ao h]
theorem S6(h:¬(dH b).2.2.2≠0)(h2:(ei (dH b).1 (dH b).2.1).2≠0):ig b=(gR,.nil,0,(ei (dH b).1 (dH b).2.1).2):=by unfold ig;rw[aw h,ao h2]
theorem S7(h:¬(dH b).2.2.2≠0)(h2:¬(ei (dH b).1 (dH b).2.1).2≠0):ig b=((dH b).1,(ei (dH b).1 (dH b).2.1).1,(dH b).2.2.1,0):=by unfold ig;rw[aw h,aw h2]
theorem afh(h:(ig b).2.2.2≠0):ld b=(gR,[],0,0,(ig b).2.2.2):=by unfold ld;rw[ao h]
theorem afi(h:¬(ig b).2.2.2≠0)(h2:(jl (ig b).2.1).2≠0):ld b=(gR,[],0,0,(jl (ig b).2.1).2):=by unfold ld;rw[aw h,ao h2]
theorem afj(h:¬(ig b).2.2.2≠0)(h2:¬(jl (ig b).2.1).2≠0):ld b=((ig b).1,(jl (ig b).2.1).1,(ig b).2.1.ns.length,(ig b).2.2.1,0):=by unfold ld;rw[aw h,aw h2]
end
def arv(o:aR)(x:ir)(df:Nat)(B:Nat)(w0:World)(F:aP)(r:Value)(L:aP):Prop:=∃g N,r= .tuple #[.agg (aR.cells o).toArray,br g,ah (df:Int),ah 0]∧L=N++F∧CU B w0 N g x
def akP(e:Int)(F:aP)(r:Value)(L:aP):Prop:=r= .tuple #[.agg (aR.cells gR).toArray,.pointer none,ah 0,ah e]∧L=F
theorem ae'(HT:bI B w0){b:al}(hb:eM B w0 F A c b)(c_:b.length≤1000000000)(P3:(dH b).2.1.length≤1000000)(h:(dH b).2.2.2≠0):a_ B w0 58 [.slice A b.length c] F (akP (ig b).2.2.2 F):=by
 have Ea:=fB gR;refine fw func58 41 [0] ?_;refine be ?_;refine bc fun g2=>?_;refine bJ ?_;refine ai rfl (S2 HT hb.cons aa h) ?_;refine tP ?_;refine aj (fun pR=>?_) fun pR=>?_
 ·refine be ?_;refine ab (cj [ah 0,.bool false,ah 0,ah 0,ah 0,ah 0] ag) rfl ?_;refine bG ?_;refine ve [2,3,4,5] ?_;refine bF ?_;refine nk rfl rfl ag aV gC rfl rfl rfl (.skip (.refl _)) ?_;rw[S5 h];exact⟨rfl,rfl⟩
 ·exfalso;exact pR h
theorem afa(HT:bI B w0){b:al}(hb:eM B w0 F A c b)(c_:b.length≤1000000000)(P3:(dH b).2.1.length≤1000000)(h:(dH b).2.2.2=0)(h2:(ei (dH b).1 (dH b).2.1).2≠0):a_ B w0 58 [.slice A b.length c] F (akP (ig b).2.2.2 F):=by
 have Ea:=fB gR;obtain⟨hoo,GL,Nu,hg3⟩:=vk h;refine fw func58 41 [0] ?_;refine be ?_;refine bc fun g2=>?_;refine bJ ?_;refine aX apq rfl (FF HT hb.cons aa h) rfl ?_;rintro _ _ ⟨g13,xc,F7,p13,rfl,cA⟩;obtain rfl:=cA.symm;refine tP ?_;refine aj (fun pR=>?_) fun pR=>?_
 ·exfalso;exact pR rfl
 ·refine bL ?_;refine ab (bU 6 ag rfl aV (aR.cells (dH b).1) rfl rfl) rfl ?_;refine aF ?_;refine ai rfl (T' HT (b:=(dH b).2.1) rfl (aJ.own (.head _)) aa h2) ?_;refine bG ?_;refine ve [2,6,8,9,10] ?_;refine bJ ?_;refine aj (fun Bw=>?_) fun Bw=>?_
  ·refine be ?_;refine ab (cj [ah 0,.bool false,ah 0,ah 0,ah 0,ah 0] ag) rfl ?_;refine bQ ?_;refine nk rfl rfl ag aV gC rfl rfl rfl (.skip (.skip (.skip (.refl _)))) ?_;rw[S6 (fun q=>q h) h2];exact⟨rfl,rfl⟩
  ·exfalso;exact Bw h2
theorem afc(HT:bI B w0){b:al}(hb:eM B w0 F A c b)(c_:b.length≤1000000000)(P3:(dH b).2.1.length≤1000000)(h:(ig b).2.2.2=0):a_ B w0 58 [.slice A b.length c] F (arv (ig b).1 (ig b).2.1 (ig b).2.2.1 B w0 F):=by
 have hm:(dH b).2.2.2=0:=bH fun q=>by rw[S5 q]at h;exact q h
 have h2:(ei (dH b).1 (dH b).2.1).2=0:=bH fun q=>by rw[S6 (fun q=>q hm) q]at h;exact q h
 have qy:=fB (dH b).1;obtain⟨hoo,GL,Nu,hg3⟩:=vk hm;refine fw func58 41 [0] ?_;refine be ?_;refine bc fun g2=>?_;refine bJ ?_;refine aX apq rfl (FF HT hb.cons aa hm) rfl ?_;rintro _ _ ⟨g13,xc,F7,p13,rfl,cA⟩;obtain rfl:=cA.symm;refine tP ?_;refine aj (fun pR=>?_) fun pR=>?_
 ·exfalso;exact pR rfl
 ·refine bL ?_;refine ab (bU 6 ag rfl aV (aR.cells (dH b).1) rfl rfl) rfl ?_;refine aF ?_;refine aX ajB rfl (Ua HT (b:=(dH b).2.1) rfl (aJ.own (.head _)) aa h2) rfl ?_;rintro _ _ ⟨gB,N,rfl,cA,hBB⟩;obtain rfl:=cA.symm;refine bG ?_;refine ve [2,6,8,9,10] ?_;refine bF ?_;refine fP IE ?_;rw[nC,nC,nC];refine bG ?_;refine aj (fun Bw=>?_) fun Bw=>?_
  ·exfalso;exact Bw rfl
  ·refine bL ?_;refine ab (bU 6 ag rfl aV (aR.cells (dH b).1) rfl rfl) rfl ?_;refine bQ ?_;refine nk rfl rfl ag aV gC rfl rfl rfl (.skip (.skip (.skip (.dD IE)))) ?_;rw[S7 (fun q=>q hm) (fun q=>q h2)];exact⟨gB,N,rfl,rfl,hBB⟩
theorem afb(HT:bI B w0){b:al}(hb:eM B w0 F A c b)(c_:b.length≤1000000000)(P3:(dH b).2.1.length≤1000000)(h:(ig b).2.2.2≠0):a_ B w0 58 [.slice A b.length c] F (akP (ig b).2.2.2 F):=by
 by_cases q:(dH b).2.2.2=0
 ·exact afa HT hb c_ P3 q fun k=>h (by rw[S7 (fun t=>t q) (fun t=>t k)])
 ·exact ae' HT hb c_ P3 q
theorem Ph{b:al}(P3:(dH b).2.1.length≤1000000)(h:(ig b).2.2.2=0):sw (ig b).2.1:=by
 have hm:(dH b).2.2.2=0:=bH fun q=>by rw[S5 q]at h;exact q h
 have h2:(ei (dH b).1 (dH b).2.1).2=0:=bH fun q=>by rw[S6 (fun q=>q hm) q]at h;exact q h
 obtain⟨hoo,GL,Nu,hg3⟩:=vk hm;rw[S7 (fun q=>q hm) (fun q=>q h2)];exact Hx aa h2
def akQ(R:aR×List aK×Nat×Nat×Int)(F:aP)(r:Value)(L:aP):Prop:=∃A' c',r= .tuple #[.agg (aR.cells R.1).toArray,.slice A' R.2.1.length c',ah (R.2.2.1:Int),ah (R.2.2.2.1:Int),ah R.2.2.2.2]∧L= .own 62 4 A' R.2.1.length c' (di R.2.1)::F
theorem Tc(HT:bI B w0){b:al}(hb:eM B w0 F A c b)(c_:b.length≤1000000000)(P3:(dH b).2.1.length≤1000000)(h:(ig b).2.2.2≠0):a_ B w0 70 [.slice A b.length c] F (akQ (ld b) F):=by
 have Ea:=fB gR;refine fw func70 38 [0] ?_;refine be ?_;refine bc fun g2=>?_;refine bQ ?_;refine ai rfl (afb HT hb.cons c_ P3 h) ?_;refine bG ?_;refine bc fun g7=>?_;refine de ?_;refine aj (fun iY=>?_) fun iY=>?_
 ·refine be ?_;refine ab (cj [ah 0,.bool false,ah 0,ah 0,ah 0,ah 0] ag) rfl ?_;refine bz ?_;refine ve [2,3,4,5,6] ?_;refine bF ?_;refine aD 62 4 none ?_;refine KQ rfl rfl ag aV gC rfl rfl rfl rfl (.cons (.skip (.skip (.refl _)))) ?_;rw[afh h];exact⟨none,0,rfl,rfl⟩
 ·exfalso;exact iY h
theorem Td(HT:bI B w0){b:al}(hb:eM B w0 F A c b)(c_:b.length≤1000000000)(P3:(dH b).2.1.length≤1000000)(h:(ig b).2.2.2=0):a_ B w0 70 [.slice A b.length c] F (akQ (ld b) F):=by
 have lf:=Ph P3 h;have qy:=fB (ig b).1;refine fw func70 38 [0] ?_;refine be ?_;refine bc fun g2=>?_;refine bQ ?_;refine aX arG rfl (afc HT hb.cons c_ P3 h) rfl ?_;rintro _ _ ⟨gB,N,rfl,cA,hBB⟩;obtain rfl:=cA.symm;refine bG ?_;refine bc fun g7=>?_;refine bJ ?_;refine fP (List.perm_middle.cons _) ?_;refine bG ?_;refine aj (fun iY=>?_) fun iY=>?_
 ·exfalso;exact iY rfl
 ·refine bG ?_;refine ay rfl (aa6 HT lf (hBB.mono (((vC _ _).cons _).cons _))) fun Ar cr=>?_;refine bG ?_;refine ve [2,7,8,9,10,11] ?_;refine bJ ?_;refine aj (fun rZ=>?_) fun rZ=>?_
  ·refine be ?_;refine ab (cj [ah 0,.bool false,ah 0,ah 0,ah 0,ah 0] ag) rfl ?_;refine bA ?_;refine aD 62 4 none ?_;refine KQ rfl rfl ag aV gC rfl rfl rfl rfl (.cons (.skip (.skip (.skip (dv N F))))) ?_;rw[afi L8 rZ];exact⟨none,0,rfl,rfl⟩
  ·refine bF ?_;refine cF (.own 62 4 Ar (jl (ig b).2.1).1.length cr (di (jl (ig b).2.1).1):: .bD g7 23 (aR.cells (ig b).1)::(N++F)) ?_;refine aW 0 rfl (bU 6 ag rfl aV (aR.cells (ig b).1) rfl rfl) ?_;refine ae 1 ?_;refine ae 2 ?_;refine ae 5 ?_;refine az 3 ?_;refine bZ rfl rfl (Hs lf (hBB.mono (((((vC _ _)).cons _).cons _).cons _))) fun Ak ck=>?_;refine ae 4 ?_;refine az 6 ?_;refine aF ?_;refine ae 7 ?_;refine ae 8 ?_;refine ae 9 ?_;refine ae 10 ?_;refine bF ?_;refine KQ rfl rfl ag aV gC rfl rfl rfl rfl (.skip (.cons (.skip (.skip (dv N F))))) ?_;rw[afj L8 rZ];exact⟨Ar,cr,rfl,rfl⟩
theorem Ta(HT:bI B w0){b:al}(hb:eM B w0 F A c b)(c_:b.length≤1000000000)(P3:(dH b).2.1.length≤1000000):a_ B w0 70 [.slice A b.length c] F (akQ (ld b) F):=by
 by_cases h:(ig b).2.2.2=0
 ·exact Td HT hb c_ P3 h
 ·exact Tc HT hb c_ P3 h
end
theorem aom{P:Prop}(h:P:=by(first|exact .inl kg|exact⟨fun k=>.inr k,fun k=>k.resolve_left kg⟩)):P:=h
def fW(b:al):Int×Int:=if (marked b).1=1∨(marked b).1=2 then ((marked b).1,0) else if (ej b).2=0 then (3,0) else if (marked b).1=3 then (0,5) else (0,(marked b).2)
def jn(v:Int)(o:aR)(L:List aK):al×Int:=if v=1 then tg o L else if v=2 then vG o L else if v=3 then tp o L else ([],4)
structure Fits(b:al):Prop where
 all:b.length≤1000000000
 few:fW b≠(3,0)→b.length≤1000000
 in3:(dH b).2.1.length≤1000000
theorem Fits.yy{b:al}(h:b.length≤1000000):Fits b:=by
 refine⟨aa,fun _=>h,?_⟩;by_cases q:(dH b).2.2.2=0
 ·have:=(vk q).2.2.2;omega
 ·by_cases q1:(ej b).2≠0
  ·rw[FI q1];exact bT _
  ·by_cases q2:hE (ej b).1≠0
   ·rw[K7 q1 q2];exact bT _
   ·by_cases q3:(Bx b).2.2≠0
    ·rw[S3 q1 q2 q3];exact bT _
    ·rw[S4 q1 q2 q3]at q;exact absurd rfl q
noncomputable def dg(b:al):Int×aR×List aK×Nat×Nat×Int:=
 if (fW b).1=1 then (1,(lZ b).1,(lZ b).2.1,(lZ b).2.2.1,0,(lZ b).2.2.2)
 else if (fW b).1=2 then (2,(mw b).1,(mw b).2.1,(mw b).2.2.1,0,(mw b).2.2.2)
 else if (fW b).1=3 then (3,(ld b).1,(ld b).2.1,(ld b).2.2.1,(ld b).2.2.2.1,(ld b).2.2.2.2)
 else (0,gR,[],0,0,(fW b).2)
theorem Xg(b:al):fW b=(1,0)∨fW b=(2,0)∨fW b=(3,0)∨((fW b).1=0∧(fW b).2≠0):=by
 unfold fW;by_cases h1:(marked b).1=1∨(marked b).1=2
 ·rw[ao h1];rcases h1 with h|h<;>rw[h]<;>simp
 ·rw[aw h1];by_cases h2:(ej b).2=0
  ·rw[ao h2];simp
  ·rw[aw h2];by_cases h3:(marked b).1=3
   ·rw[ao h3];simp
   ·rw[aw h3];refine .inr (.inr (.inr ⟨rfl,?_⟩));show(marked b).2≠0;unfold marked at h1 h3⊢;split
    ·decide
    ·split
     ·decide
     ·split
      ·decide
      ·rename_i q1 q2 q3;rw[aw q1,aw q2,aw q3]at h1 h3;simp only at h1 h3;exfalso;exact q3 (fun k=>by unfold PI at k;omega)
theorem uM(HT:bI B w0){b:al}(hb:eM B w0 F A c b)(c_:b.length≤1000000000):a_ B w0 56 [.slice A b.length c] F (fun r L=>r= .tuple #[ah (fW b).1,ah (fW b).2]∧L=F):=by
 have e1:∀(h:(marked b).1=1∨(marked b).1=2),fW b=((marked b).1,0):=fun h=>by unfold fW;rw[ao h]
 have e2:∀(h:¬((marked b).1=1∨(marked b).1=2)) (h2:(ej b).2=0),fW b=(3,0):=fun h h2=>by unfold fW;rw[aw h,ao h2]
 have e3:∀(h:¬((marked b).1=1∨(marked b).1=2)) (h2:¬(ej b).2=0) (h3:(marked b).1=3),fW b=(0,5):=fun h h2 h3=>by unfold fW;rw[aw h,aw h2,ao h3]
 have e4:∀(h:¬((marked b).1=1∨(marked b).1=2)) (h2:¬(ej b).2=0) (h3:¬(marked b).1=3),fW b=(0,(marked b).2):=fun h h2 h3=>by unfold fW;rw[aw h,aw h2,aw h3]
 refine fw func56 26 [0] ?_;refine bQ ?_;refine ai rfl (uk hb aa) ?_;refine cY ?_;refine bW 6 17 [0,4,5] ((marked b).1=1∨(marked b).1=2) ?_ ?_
 ·refine bF ?_;refine aL rfl rfl rfl (fun kg=>?_) (fun kg=>?_)
  ·refine b8 ?_;exact aQ (by exact dN aom)
  ·refine be ?_;exact aQ (by exact eF aom)
 ·refine bF ?_;refine aj (fun pg=>?_) fun pg=>?_
  ·refine cY ?_;rw[e1 pg];exact⟨rfl,rfl⟩
  ·refine bF ?_;refine ai rfl (ai3 HT hb c_) ?_;refine bF ?_;refine aj (fun pR=>?_) fun pR=>?_
   ·refine bA ?_;rw[e2 pg pR];exact⟨rfl,rfl⟩
   ·refine bL ?_;refine aj (fun rJ=>?_) fun rJ=>?_
    ·refine bA ?_;rw[e3 pg pR rJ];exact⟨rfl,rfl⟩
    ·refine cJ ?_;rw[e4 pg pR rJ];exact⟨rfl,rfl⟩
theorem Qn(HT:bI B w0){o:aR}{L:List aK}(hx:∀x∈L,x.1<18446744073709551616)(hb:aJ B w0 F 4 (.slice A L.length c) L.length (di L)):a_ B w0 10 [ah 1,.agg (aR.cells o).toArray,.slice A L.length c] F (LO (jn 1 o L) F):=by
 have e:jn 1 o L=tg o L:=rfl;rw[e];have y_:=fun M (hb:aJ B w0 M 4 (.slice A L.length c) L.length (di L))=>Zm (F:=M) (o:=o) HT hx hb;obtain⟨W,hW⟩:=cN (tg o L);rw[←hW];simp only[←hW]at y_;have qy:=fB o;refine fw func10 30 [0,1,2] ?_;refine be ?_;refine bh fun g4=>?_;refine B_ ?_;refine aj (fun h9=>?_) fun h9=>?_
 ·refine be ?_;refine ab (bU 6 ag rfl aV (aR.cells o) rfl rfl) rfl ?_;refine aF ?_;refine ay rfl (y_ _ hb.cons) fun xc F7=>?_;refine bQ ?_;refine aq (.cons (.skip (.refl _))) ?_;refine aF ?_;exact⟨xc,F7,rfl,rfl⟩
 ·exfalso;exact h9 rfl
theorem Qo(HT:bI B w0){o:aR}{L:List aK}(hx:∀x∈L,x.1<18446744073709551616)(hb:aJ B w0 F 4 (.slice A L.length c) L.length (di L)):a_ B w0 10 [ah 2,.agg (aR.cells o).toArray,.slice A L.length c] F (LO (jn 2 o L) F):=by
 have e:jn 2 o L=vG o L:=rfl;rw[e];have y_:=fun M (hb:aJ B w0 M 4 (.slice A L.length c) L.length (di L))=>aah (F:=M) (o:=o) HT hx hb;obtain⟨W,hW⟩:=cN (vG o L);rw[←hW];simp only[←hW]at y_;have qy:=fB o;refine fw func10 30 [0,1,2] ?_;refine be ?_;refine bh fun g4=>?_;refine B_ ?_;refine aj (fun h9=>?_) fun h9=>?_
 ·exfalso;exact absurd h9 aA
 ·refine bz ?_;refine aj (fun kh=>?_) fun kh=>?_
  ·refine be ?_;refine ab (bU 6 ag rfl aV (aR.cells o) rfl rfl) rfl ?_;refine aF ?_;refine ay rfl (y_ _ hb.cons) fun xc F7=>?_;refine bQ ?_;refine aq (.cons (.skip (.refl _))) ?_;refine aF ?_;exact⟨xc,F7,rfl,rfl⟩
  ·exfalso;exact kh rfl
theorem Qp(HT:bI B w0){o:aR}{L:List aK}(hx:∀x∈L,x.1<18446744073709551616)(hb:aJ B w0 F 4 (.slice A L.length c) L.length (di L)):a_ B w0 10 [ah 3,.agg (aR.cells o).toArray,.slice A L.length c] F (LO (jn 3 o L) F):=by
 have e:jn 3 o L=tp o L:=rfl;rw[e];have y_:=fun M (hb:aJ B w0 M 4 (.slice A L.length c) L.length (di L))=>aff (F:=M) (o:=o) HT hx hb;obtain⟨W,hW⟩:=cN (tp o L);rw[←hW];simp only[←hW]at y_;have qy:=fB o;refine fw func10 30 [0,1,2] ?_;refine be ?_;refine bh fun g4=>?_;refine B_ ?_;refine aj (fun h9=>?_) fun h9=>?_
 ·exfalso;exact absurd h9 aA
 ·refine bz ?_;refine aj (fun kh=>?_) fun kh=>?_
  ·exfalso;exact absurd kh aA
  ·refine bz ?_;refine aj (fun nM=>?_) fun nM=>?_
   ·refine be ?_;refine ab (bU 6 ag rfl aV (aR.cells o) rfl rfl) rfl ?_;refine aF ?_;refine ay rfl (y_ _ hb.cons) fun xc F7=>?_;refine b8 ?_;refine ve [6,7] ?_;refine b8 ?_;refine aq (.cons (.skip (.refl _))) ?_;refine aF ?_;exact⟨xc,F7,rfl,rfl⟩
   ·exfalso;exact nM rfl
theorem Qq{v:Int}{o:aR}{L:List aK}(h1:¬v=1)(h2:¬v=2)(h3:¬v=3):a_ B w0 10 [ah v,.agg (aR.cells o).toArray,.slice A L.length c] F (LO (jn v o L) F):=by
 have e:jn v o L=([],4):=by unfold jn;rw[aw h1,aw h2,aw h3]
 rw[e];refine fw func10 30 [0,1,2] ?_;refine be ?_;refine bh fun g4=>?_;refine B_ ?_;refine aj (fun h9=>?_) fun h9=>?_
 ·exfalso;exact h1 h9
 ·refine bz ?_;refine aj (fun kh=>?_) fun kh=>?_
  ·exfalso;exact h2 kh
  ·refine bz ?_;refine aj (fun nM=>?_) fun nM=>?_
   ·exfalso;exact h3 nM
   ·refine bA ?_;refine aD 5 1 none ?_;refine aq (.cons (.skip (.refl _))) ?_;refine aF ?_;exact⟨none,0,rfl,rfl⟩
theorem wq(HT:bI B w0){v:Int}{o:aR}{L:List aK}(hx:∀x∈L,x.1<18446744073709551616)(hb:aJ B w0 F 4 (.slice A L.length c) L.length (di L)):a_ B w0 10 [ah v,.agg (aR.cells o).toArray,.slice A L.length c] F (LO (jn v o L) F):=by
 by_cases h1:v=1
 ·subst h1;exact Qn HT hx hb
 ·by_cases h2:v=2
  ·subst h2;exact Qo HT hx hb
  ·by_cases h3:v=3
   ·subst h3;exact Qp HT hx hb
   ·exact Qq h1 h2 h3
theorem zx{C:Cx}{fr:Fr}{L:aP}{f:Ch→aP}{x y:Operand}{t ty bt:TypeId}{o:aR}{c0 c1 c2 c3 c4 x0 x1 x2 x3 x4 x5 va:Value}(hs:pj C.P t 6=true)(he:ev fr x=some (.pointer (some ⟨g,5,none⟩)))(hv:ev fr y=some (.agg (aR.cells o).toArray))(hm:mC (.bD g bt [c0,c1,c2,c3,c4,x0,x1,x2,x3,x4,x5,va]) L f):
  qp C fr L (.store t x y) ty (fun p L'=>L'=f (.bD g bt [c0,c1,c2,c3,c4,ah o.1,.bool o.2.1,ah o.2.2.1,ah o.2.2.2.1,ah o.2.2.2.2.1,ah o.2.2.2.2.2,va])):=
 pd 6 hs he hv (fB o) hm rfl ak
abbrev Upb(g:Nat)(v:Int)(m nb bad:Nat)(cl:Bool)(o:aR)(va:Value):Ch:=.bD g 69 [ah v,ah (m:Int),ah (nb:Int),ah (bad:Int),.bool cl,ah o.1,.bool o.2.1,ah o.2.2.1,ah o.2.2.2.1,ah o.2.2.2.2.1,ah o.2.2.2.2.2,va]
def UpE(e:Int)(F:aP)(r:Value)(L:aP):Prop:=∃Y,r= .tuple #[.pointer none,ah e]∧L=Y++F
def UpK(v:Int)(o:aR)(l:List aK)(nb bad:Nat)(F:aP)(r:Value)(L:aP):Prop:=∃g A' c',r= .tuple #[br g,ah 0]∧L=Upb g v l.length nb bad false o (.slice A' l.length c'):: .own 62 4 A' l.length c' (di l)::F
def aga(v:Int)(o:aR)(l:List aK)(nb bad:Nat)(e:Int)(F:aP)(r:Value)(L:aP):Prop:=(e≠0∧UpE e F r L)∨(e=0∧UpK v o l nb bad F r L)
theorem Pw(HT:bI B w0){b:al}(hb:eM B w0 F A c b)(c_:b.length≤1000000):a_ B w0 69 [.slice A b.length c] F (UnA (mw b) F):=by
 by_cases h:(iq b).2.2=0
 ·exact Py HT hb c_ h
 ·exact Px HT hb c_ h
theorem aaL(HT:bI B w0){b:al}(hb:eM B w0 F A c b)(hf:Fits b)(hV:fW b=(1,0)):a_ B w0 29 [.slice A b.length c] F (aga 1 (lZ b).1 (lZ b).2.1 (lZ b).2.2.1 0 (lZ b).2.2.2 F):=by
 have c_:=hf.all;have pT:=uM (F:=F) HT hb c_;rw[hV]at pT;have hup:=fun M (hb:eM B w0 M A c b)=>OA (F:=M) HT hb (hf.few (by rw[hV];decide));obtain⟨R,hR⟩:=cN (lZ b);rw[←hR];simp only[←hR]at hup;have qy:=fB R.1;refine fw func29 92 [0] ?_;refine bQ ?_;refine ai rfl (pT) ?_;refine bA ?_;refine ab (bw [(0,_)] [ah 0,ah 0,ah 0,ah 0,.bool false] [0] [_,_,_,_,_] rfl rfl ag) rfl ?_;refine ab (bw [(0,_)] [ah 0,ah 0,ah 0,ah 0,.bool false,ah 0,.bool false,ah 0,ah 0,ah 0,ah 0,.slice none 0 0] [0] [_,_,_,_,_,_,_,_,_,_,_,_] rfl rfl ag) rfl ?_;refine bh fun g15=>?_;refine jS ?_;refine aj (fun iF=>?_) fun iF=>?_
 ·refine bG ?_;refine ay rfl (hup _ hb.cons) fun Bi Df=>?_;refine bL ?_;refine kJ (zx (o:=R.1) ag rfl rfl aV) ?_;refine bJ ?_;refine ve [5,6] ?_;refine bQ ?_;refine aj (fun PX=>?_) fun PX=>?_
  ·refine bA ?_;exact .inl ⟨PX,[_,_],rfl,rfl⟩
  ·refine acf ?_;refine aq ((gl (ed (.refl _)))) ?_;refine aF ?_;exact .inr ⟨bH PX,_,Bi,Df,rfl,rfl⟩
 ·exfalso;exact iF rfl
theorem aaM(HT:bI B w0){b:al}(hb:eM B w0 F A c b)(hf:Fits b)(hV:fW b=(2,0)):a_ B w0 29 [.slice A b.length c] F (aga 2 (mw b).1 (mw b).2.1 (mw b).2.2.1 0 (mw b).2.2.2 F):=by
 have c_:=hf.all;have pT:=uM (F:=F) HT hb c_;rw[hV]at pT;have hup:=fun M (hb:eM B w0 M A c b)=>Pw (F:=M) HT hb (hf.few (by rw[hV];decide));obtain⟨R,hR⟩:=cN (mw b);rw[←hR];simp only[←hR]at hup;have qy:=fB R.1;refine fw func29 92 [0] ?_;refine bQ ?_;refine ai rfl (pT) ?_;refine bA ?_;refine ab (bw [(0,_)] [ah 0,ah 0,ah 0,ah 0,.bool false] [0] [_,_,_,_,_] rfl rfl ag) rfl ?_;refine ab (bw [(0,_)] [ah 0,ah 0,ah 0,ah 0,.bool false,ah 0,.bool false,ah 0,ah 0,ah 0,ah 0,.slice none 0 0] [0] [_,_,_,_,_,_,_,_,_,_,_,_] rfl rfl ag) rfl ?_;refine bh fun g15=>?_;refine jS ?_;refine aj (fun iF=>?_) fun iF=>?_
 ·exfalso;exact absurd iF aA
 ·refine bz ?_;refine aj (fun y8=>?_) fun y8=>?_
  ·refine bG ?_;refine ay rfl (hup _ hb.cons) fun Bi Df=>?_;refine bL ?_;refine kJ (zx (o:=R.1) ag rfl rfl aV) ?_;refine bJ ?_;refine ve [5,6] ?_;refine bQ ?_;refine aj (fun PX=>?_) fun PX=>?_
   ·refine bA ?_;exact .inl ⟨PX,[_,_],rfl,rfl⟩
   ·refine acf ?_;refine aq ((gl (ed (.refl _)))) ?_;refine aF ?_;exact .inr ⟨bH PX,_,Bi,Df,rfl,rfl⟩
  ·exfalso;exact y8 rfl
theorem aaN(HT:bI B w0){b:al}(hb:eM B w0 F A c b)(hf:Fits b)(hV:fW b=(3,0)):a_ B w0 29 [.slice A b.length c] F (aga 3 (ld b).1 (ld b).2.1 (ld b).2.2.1 (ld b).2.2.2.1 (ld b).2.2.2.2 F):=by
 have c_:=hf.all;have pT:=uM (F:=F) HT hb c_;rw[hV]at pT;have hup:=fun M (hb:eM B w0 M A c b)=>Ta (F:=M) HT hb c_ hf.in3;obtain⟨R,hR⟩:=cN (ld b);rw[←hR];simp only[←hR]at hup;have qy:=fB R.1;refine fw func29 92 [0] ?_;refine bQ ?_;refine ai rfl (pT) ?_;refine bA ?_;refine ab (bw [(0,_)] [ah 0,ah 0,ah 0,ah 0,.bool false] [0] [_,_,_,_,_] rfl rfl ag) rfl ?_;refine ab (bw [(0,_)] [ah 0,ah 0,ah 0,ah 0,.bool false,ah 0,.bool false,ah 0,ah 0,ah 0,ah 0,.slice none 0 0] [0] [_,_,_,_,_,_,_,_,_,_,_,_] rfl rfl ag) rfl ?_;refine bh fun g15=>?_;refine jS ?_;refine aj (fun iF=>?_) fun iF=>?_
 ·exfalso;exact absurd iF aA
 ·refine bz ?_;refine aj (fun y8=>?_) fun y8=>?_
  ·exfalso;exact absurd y8 aA
  ·refine b8 ?_;refine ve [0,5,6,55] ?_;refine aF ?_;refine aj (fun Yd=>?_) fun Yd=>?_
   ·refine bz ?_;refine ay rfl (hup _ hb.cons) fun Bi Df=>?_;refine bJ ?_;refine kJ (zx (o:=R.1) ag rfl rfl aV) ?_;refine cJ ?_;refine ve [5,6] ?_;refine bQ ?_;refine aj (fun PX=>?_) fun PX=>?_
    ·refine bA ?_;exact .inl ⟨PX,[_,_],rfl,rfl⟩
    ·refine acf ?_;refine aq ((gl (ed (.refl _)))) ?_;refine aF ?_;exact .inr ⟨bH PX,_,Bi,Df,rfl,rfl⟩
   ·exfalso;exact Yd rfl
theorem aaO(HT:bI B w0){b:al}(hb:eM B w0 F A c b)(hf:Fits b)(hV:(fW b).1=0)(hV2:(fW b).2≠0):a_ B w0 29 [.slice A b.length c] F (UpE (fW b).2 F):=by
 have pT:=uM (F:=F) HT hb hf.all;rw[hV]at pT;refine fw func29 92 [0] ?_;refine bQ ?_;refine ai rfl (pT) ?_;refine bA ?_;refine ab (bw [(0,_)] [ah 0,ah 0,ah 0,ah 0,.bool false] [0] [_,_,_,_,_] rfl rfl ag) rfl ?_;refine ab (bw [(0,_)] [ah 0,ah 0,ah 0,ah 0,.bool false,ah 0,.bool false,ah 0,ah 0,ah 0,ah 0,.slice none 0 0] [0] [_,_,_,_,_,_,_,_,_,_,_,_] rfl rfl ag) rfl ?_;refine bh fun g15=>?_;refine jS ?_;refine aj (fun iF=>?_) fun iF=>?_
 ·exfalso;exact absurd iF aA
 ·refine bz ?_;refine aj (fun y8=>?_) fun y8=>?_
  ·exfalso;exact absurd y8 aA
  ·refine b8 ?_;refine ve [0,5,6,55] ?_;refine aF ?_;refine aj (fun Yd=>?_) fun Yd=>?_
   ·exfalso;exact absurd Yd aA
   ·refine bA ?_;refine aj (fun PX=>?_) fun PX=>?_
    ·refine bA ?_;exact⟨[_],rfl,rfl⟩
    ·exfalso;exact PX hV2
def UpR(R:Int×aR×List aK×Nat×Nat×Int)(F:aP)(r:Value)(L:aP):Prop:=aga R.1 R.2.1 R.2.2.1 R.2.2.2.1 R.2.2.2.2.1 R.2.2.2.2.2 F r L
theorem LY(HT:bI B w0){b:al}(hb:eM B w0 F A c b)(hf:Fits b):a_ B w0 29 [.slice A b.length c] F (UpR (dg b) F):=by
 rcases Xg b with h|h|h|⟨h,h2⟩
 ·have e:dg b=(1,(lZ b).1,(lZ b).2.1,(lZ b).2.2.1,0,(lZ b).2.2.2):=by unfold dg;rw[h];rfl
  rw[e];exact aaL HT hb hf h
 ·have e:dg b=(2,(mw b).1,(mw b).2.1,(mw b).2.2.1,0,(mw b).2.2.2):=by unfold dg;rw[h];rfl
  rw[e];exact aaM HT hb hf h
 ·have e:dg b=(3,(ld b).1,(ld b).2.1,(ld b).2.2.1,(ld b).2.2.2.1,(ld b).2.2.2.2):=by unfold dg;rw[h];rfl
  rw[e];exact aaN HT hb hf h
 ·have e:dg b=(0,gR,[],0,0,(fW b).2):=by unfold dg;rw[h];rfl
  rw[e];exact(aaO HT hb hf h h2).mono fun r L hr=>.inl ⟨h2,hr⟩
abbrev WC(l:List aK):Prop:=∀r∈l,r.1<18446744073709551616
theorem adD(s:Cs):s.num<18446744073709551616:=by
 unfold Cs.num;split
 ·omega
 ·exact(fg _).1
theorem I0(b:Bool):∀(f:Nat) (s:Cs) (o:List aK),WC o→WC (oj b f s o).1
 |0,s,o,h=>h
 |f+1,s,o,h=>by
  by_cases h1:s.left=0
  ·rw[AQ h1];exact h
  ·by_cases he:(dZ b s).2.e≠0
   ·rw[AP h1 he];intro r hr;cases hr
   ·rw[E9 h1 he];refine I0 b f _ _ fun r hr=>?_;rcases dz.1 hr with hr|hr
    ·exact h r hr
    ·rw[lF]at hr;subst hr;unfold dZ;simp only;split
     ·exact adD _
     ·omega
theorem aiy(b:Bool)(l:al):WC (qH b l).1:=I0 b _ _ _ fun r hr=>by cases hr
theorem adP(s:Cs):WC (jN s).1:=by
 unfold jN;split
 ·intro r hr;cases hr
 ·split
  ·intro r hr;cases hr
  ·split
   ·intro r hr;cases hr
   ·exact aiy _ _
theorem Oz:∀(f:Nat) (s:Cs) (o:List aK),WC o→WC (oz f s o).1
 |0,s,o,h=>h
 |f+1,s,o,h=>by
  rw[oz];split
  ·intro r hr;cases hr
  ·refine Oz f _ _ fun r hr=>?_;rcases dz.1 hr with hr|hr
   ·exact h r hr
   ·exact adP s r hr
theorem Zh(b:al):WC (lZ b).2.1:=by
 unfold lZ;split
 ·intro r hr;cases hr
 ·split
  ·intro r hr;cases hr
  ·split
   ·intro r hr;cases hr
   ·show WC (kE (gW b).1).1;unfold kE;split
    ·intro r hr;cases hr
    ·split
     ·intro r hr;cases hr
     ·split
      ·intro r hr;cases hr
      ·exact Oz _ _ _ fun r hr=>by cases hr
theorem aac{b:al}(c_:b.length≤1000000):WC (mw b).2.1:=by
 by_cases h:(iq b).2.2≠0
 ·rw[afx h];intro r hr;cases hr
 ·by_cases h2:(jl (iq b).2.1).2≠0
  ·rw[afy h h2];intro r hr;cases hr
  ·rw[afz h h2];exact Vz (Pv c_ (bH h))
theorem Z2{b:al}(c_:(dH b).2.1.length≤1000000):WC (ld b).2.1:=by
 by_cases h:(ig b).2.2.2≠0
 ·rw[afh h];intro r hr;cases hr
 ·by_cases h2:(jl (ig b).2.1).2≠0
  ·rw[afi h h2];intro r hr;cases hr
  ·rw[afj h h2];exact Vz (Ph c_ (bH h))
theorem wo{b:al}(hf:Fits b):WC (dg b).2.2.1:=by
 unfold dg;split
 ·exact Zh b
 ·split
  ·rename_i q2;exact aac (hf.few fun k=>by rw[k]at q2;exact absurd q2 aA)
  ·split
   ·exact Z2 hf.in3
   ·intro r hr;cases hr
noncomputable abbrev y7(b:al):Int:=(dg b).2.2.2.2.2
noncomputable def tD(b:al):List aK×Int×Int:=if y7 b≠0 then ([],0,y7 b) else ((dg b).2.2.1,(dg b).1,0)
noncomputable def tC(b:al):aR×Int:=if y7 b≠0 then (gR,y7 b) else ((dg b).2.1,0)
noncomputable def tB(b:al):Bool:=decide (jn (dg b).1 (dg b).2.1 (dg b).2.2.1=(b,0))
abbrev oO:=Int×Nat×Nat×Nat×Bool
def oO.cells(r:oO):cV:=[ah r.1,ah (r.2.1:Int),ah (r.2.2.1:Int),ah (r.2.2.2.1:Int),.bool r.2.2.2.2]
noncomputable def p6(b:al):oO×Int:=if y7 b≠0 then ((0,0,0,0,false),y7 b) else (((dg b).1,(dg b).2.2.1.length,(dg b).2.2.2.1,(dg b).2.2.2.2.1,tB b),0)
theorem C1(HT:bI B w0){b:al}(hb:eM B w0 F A c b)(hf:Fits b)(h:y7 b≠0):a_ B w0 29 [.slice A b.length c] F (UpE (y7 b) F):=
 (LY HT hb hf).mono fun r L hr=>hr.elim (fun q=>q.2) fun q=>absurd q.1 h
theorem C2(HT:bI B w0){b:al}(hb:eM B w0 F A c b)(hf:Fits b)(h:y7 b=0):a_ B w0 29 [.slice A b.length c] F (UpK (dg b).1 (dg b).2.1 (dg b).2.2.1 (dg b).2.2.2.1 (dg b).2.2.2.2.1 F):=
 (LY HT hb hf).mono fun r L hr=>hr.elim (fun q=>absurd h q.1) fun q=>q.2
def AxA(R:List aK×Int×Int)(F:aP)(r:Value)(L:aP):Prop:=∃A' c',r= .tuple #[.slice A' R.1.length c',ah R.2.1,ah R.2.2]∧L= .own 62 4 A' R.1.length c' (di R.1)::F
theorem Xh(HT:bI B w0){b:al}(hb:eM B w0 F A c b)(hf:Fits b)(h:y7 b≠0):a_ B w0 13 [.slice A b.length c] F (AxA (tD b) F):=by
 have e:tD b=([],0,y7 b):=by unfold tD;rw[ao h]
 refine fw func13 24 [0] ?_;refine bA ?_;refine aX alf rfl (C1 HT hb hf h) rfl ?_;rintro _ _ ⟨Y,rfl,cA⟩;obtain rfl:=cA.symm;refine dQ ?_;refine aj (fun lA=>?_) fun lA=>?_
 ·refine bA ?_;refine aD 62 4 none ?_;refine aq (.cons (dv Y F)) ?_;refine aF ?_;rw[e];exact⟨none,0,rfl,rfl⟩
 ·exfalso;exact lA h
theorem Xi(HT:bI B w0){b:al}(hb:eM B w0 F A c b)(hf:Fits b)(h:y7 b=0):a_ B w0 13 [.slice A b.length c] F (AxA (tD b) F):=by
 have e:tD b=((dg b).2.2.1,(dg b).1,0):=by unfold tD;rw[aw (fun q=>q h)]
 rw[e];refine fw func13 24 [0] ?_;refine bA ?_;refine dX rfl (C2 HT hb hf h) fun g9 A9 c9=>?_;refine dQ ?_;refine aj (fun lA=>?_) fun lA=>?_
 ·exfalso;exact lA rfl
 ·refine jS ?_;refine na [(2,_),(3,_),(4,_)] ⟨rfl,rfl,rfl,trivial⟩ ?_;refine be ?_;refine aq (.skip (.refl _)) ?_;refine aF ?_;exact⟨A9,c9,rfl,rfl⟩
theorem Hj(HT:bI B w0){b:al}(hb:eM B w0 F A c b)(hf:Fits b):a_ B w0 13 [.slice A b.length c] F (AxA (tD b) F):=by
 by_cases h:y7 b=0
 ·exact Xi HT hb hf h
 ·exact Xh HT hb hf h
def AoA(R:aR×Int)(F:aP)(r:Value)(L:aP):Prop:=r= .tuple #[.agg (aR.cells R.1).toArray,ah R.2]∧L=F
theorem agi(HT:bI B w0){b:al}(hb:eM B w0 F A c b)(hf:Fits b)(h:y7 b≠0):a_ B w0 14 [.slice A b.length c] F (AoA (tC b) F):=by
 have Ea:=fB gR;have e:tC b=(gR,y7 b):=by unfold tC;rw[ao h]
 refine fw func14 19 [0] ?_;refine be ?_;refine bc fun g2=>?_;refine bz ?_;refine aX alf rfl (C1 HT hb.cons hf h) rfl ?_;rintro _ _ ⟨Y,rfl,cA⟩;obtain rfl:=cA.symm;refine bQ ?_;refine fP yg ?_;refine bG ?_;refine aj (fun mA=>?_) fun mA=>?_
 ·refine be ?_;refine ab (cj [ah 0,.bool false,ah 0,ah 0,ah 0,ah 0] ag) rfl ?_;refine bL ?_;refine gT rfl rfl ag aV gC rfl (.skip (dv Y F)) ?_;rw[e];exact⟨rfl,rfl⟩
 ·exfalso;exact mA h
theorem agj(HT:bI B w0){b:al}(hb:eM B w0 F A c b)(hf:Fits b)(h:y7 b=0):a_ B w0 14 [.slice A b.length c] F (AoA (tC b) F):=by
 have e:tC b=((dg b).2.1,0):=by unfold tC;rw[aw (fun q=>q h)]
 have qy:=fB (dg b).2.1;refine fw func14 19 [0] ?_;refine be ?_;refine bc fun g2=>?_;refine bz ?_;refine dX rfl (C2 HT hb.cons hf h) fun g8 A8 c8=>?_;refine dQ ?_;refine aj (fun mA=>?_) fun mA=>?_
 ·exfalso;exact mA rfl
 ·refine bL ?_;refine ab (bU 6 ag rfl aV (aR.cells (dg b).2.1) rfl rfl) rfl ?_;refine bG ?_;refine gT rfl rfl ag aV gC rfl (.skip (.skip (.skip (.refl _)))) ?_;rw[e];exact⟨rfl,rfl⟩
theorem TR(HT:bI B w0){b:al}(hb:eM B w0 F A c b)(hf:Fits b):a_ B w0 14 [.slice A b.length c] F (AoA (tC b) F):=by
 by_cases h:y7 b=0
 ·exact agj HT hb hf h
 ·exact agi HT hb hf h
theorem aof{P:Prop}(h:P:=by(first|exact fun k=>y8 (by rw[k])|exact⟨fun k=>Prod.ext k y8,fun k=>by rw[k]⟩)):P:=h
theorem yG(r:oO):∀u∈oO.cells r,u.oneCell'=true:=by simp[oO.cells,Value.oneCell']
theorem aa1{l l2:al}(e1:n=l.length)(e2:n2=l2.length)(h1:aJ B w0 F 1 (.slice A n c) n (bv l))(h2:aJ B w0 F 1 (.slice A2 n2 c2) n2 (bv l2)):a_ B w0 32 [.slice A n c,.slice A2 n2 c2] F (fun r L=>r= .bool (decide (l=l2))∧L=F):=by
 refine fw func32 10 [0,1] ?_;refine bJ ?_;refine ab (oZ underlying27 underlying5 underlying9 rfl h1) rfl ?_;refine aF ?_;refine ab (oZ underlying27 underlying5 underlying9 rfl h2) rfl ?_;refine bz ?_;exact⟨rfl,rfl⟩
def VeA(R:oO×Int)(F:aP)(r:Value)(L:aP):Prop:=r= .tuple #[.agg (oO.cells R.1).toArray,ah R.2]∧L=F
theorem Xj(HT:bI B w0){b:al}(hb:eM B w0 F A c b)(hf:Fits b)(h:y7 b≠0):a_ B w0 17 [.slice A b.length c] F (VeA (p6 b) F):=by
 have Ea:=yG (0,0,0,0,false);have e:p6 b=((0,0,0,0,false),y7 b):=by unfold p6;rw[ao h]
 refine fw func17 48 [0] ?_;refine be ?_;refine bc fun g2=>?_;refine bz ?_;refine aX alf rfl (C1 HT hb.cons hf h) rfl ?_;rintro _ _ ⟨Y,rfl,cA⟩;obtain rfl:=cA.symm;refine bQ ?_;refine fP yg ?_;refine bG ?_;refine aj (fun lA=>?_) fun lA=>?_
 ·refine be ?_;refine ab (cj [ah 0,ah 0,ah 0,ah 0,.bool false] ag) rfl ?_;refine bL ?_;refine gT rfl rfl ag aV gC rfl (.skip (dv Y F)) ?_;rw[e];exact⟨rfl,rfl⟩
 ·exfalso;exact lA h
theorem Xk(HT:bI B w0){b:al}(hb:eM B w0 F A c b)(hf:Fits b)(h:y7 b=0):a_ B w0 17 [.slice A b.length c] F (VeA (p6 b) F):=by
 have hC:tB b=decide (jn (dg b).1 (dg b).2.1 (dg b).2.2.1=(b,0)):=rfl;have e:p6 b=(((dg b).1,(dg b).2.2.1.length,(dg b).2.2.2.1,(dg b).2.2.2.2.1,tB b),0):=by unfold p6;rw[aw (fun q=>q h)]
 have fE:=wo hf;have hup:=fun M (hb:eM B w0 M A c b)=>C2 (F:=M) HT hb hf h;obtain⟨V,hV⟩:=cN (dg b);rw[←hV]at hC e fE;simp only[←hV]at hup;obtain⟨v,o,l,nb,bad,er⟩:=V;simp only at hC e fE hup;have y_:=fun M A8 c8 (hb:aJ B w0 M 4 (.slice A8 l.length c8) l.length (di l))=>wq (F:=M) (v:=v) (o:=o) HT fE hb;obtain⟨W,hW⟩:=cN (jn v o l);rw[←hW]at hC;simp only[←hW]at y_;obtain⟨cl,r7⟩:=cN (tB b);rw[←r7]at hC e;rw[e];have qy:=yG (v,l.length,nb,bad,cl);refine fw func17 48 [0] ?_;refine be ?_;refine bc fun g2=>?_;refine bz ?_;refine dX rfl (hup _ hb.cons) fun g8 A8 c8=>?_;refine dQ ?_;refine aj (fun lA=>?_) fun lA=>?_
 ·exfalso;exact lA rfl
 ·refine bF ?_;refine cF (Upb g8 v l.length nb bad false o (.slice A8 l.length c8):: .own 62 4 A8 l.length c8 (di l):: .bD g2 41 [ah 0,ah 0,ah 0,ah 0,.bool false]::F) ?_;refine ae 0 ?_;refine ae 1 ?_;refine ae 2 ?_;refine ae 3 ?_;refine ae 4 ?_;refine ae 5 ?_;refine ae 6 ?_;refine ae 7 ?_;refine aW 8 rfl (bU 6 ag rfl aV (aR.cells o) rfl rfl) ?_;refine ae 9 ?_;refine ae 10 ?_;refine ae 11 ?_;refine ae 12 ?_;refine az 13 ?_;refine bZ rfl rfl (y_ _ _ _ (aJ.own (.tail _ (.head _)))) fun Qc c30=>?_;refine ae 14 ?_;refine ae 15 ?_;refine ae 16 ?_;refine ae 17 ?_;refine ae 18 ?_;refine cQ [0,2,4,5,6] ?_;refine b8 ?_;refine bW 7 40 [2,4,33] (W=(b,0)) ?_ ?_
  ·refine bF ?_;refine cP (fun y8=>?_) fun y8=>?_
   ·refine b8 ?_;refine ai rfl (aa1 (l:=W.1) (l2:=b) rfl rfl (aJ.own (.head _)) hb.cons.cons.cons.cons) ?_;refine aF ?_;exact aQ (by exact dN aof)
   ·refine bF ?_;exact aQ (by exact eU aof)
  ·refine bL ?_;rw[←hC];refine b8 ?_;refine ab (bU 5 ag rfl aV (oO.cells (v,l.length,nb,bad,cl)) rfl rfl) rfl ?_;refine bG ?_;refine gT rfl rfl ag aV gC rfl (.skip (.skip (.skip (.skip (.refl _))))) ?_;exact⟨rfl,rfl⟩
theorem zh(HT:bI B w0){b:al}(hb:eM B w0 F A c b)(hf:Fits b):a_ B w0 17 [.slice A b.length c] F (VeA (p6 b) F):=by
 by_cases h:y7 b=0
 ·exact Xk HT hb hf h
 ·exact Xj HT hb hf h
theorem Dh{L:List aK}(h:cO L=0):dU L≤1048576∧L.length≤20000:=by
 unfold cO at h;by_cases q:20000<L.length∨(∃x∈L,uh x)∨1048576<dU L
 ·rw[ao q]at h;exact absurd h aA
 ·exact⟨aa,aa⟩
theorem Zg(o:aR)(L:List aK):marked (qB o L)=(1,0):=by
 have:=lS (v:=1) C3 ((aS o.1.toNat++(fI o.2.1::(aS L.length++aS (dR o true L).length)))++((jv true o.2.1 (dR o true L) L).flatten++mu (pP 0 (tf o L++(jv true o.2.1 (dR o true L) L).flatten))));rw[←this];congr 1;unfold qB cX;show _=(dY++[1])++_;unfold tf;simp[bV]
theorem aab(o:aR)(L:List aK):marked (pX o L)=(2,0):=by
 have:=lS (v:=2) C3 ((aS o.1.toNat++(fI o.2.1::aS o.2.2.1.toNat))++(mu (pP 0 (om o))++dy o L));rw[←this];congr 1;unfold pX so cX om;show _=(dY++[2])++_;simp[bV]
theorem Jb(o:aR)(b:al):marked (la o b)=(3,0):=by
 have:=lS (v:=3) C3 ((([fI o.2.1,UInt8.ofNat o.2.2.1.toNat,UInt8.ofNat o.2.2.2.1.toNat,UInt8.ofNat o.2.2.2.2.1.toNat]++(fF o.2.2.2.2.2.toNat 2++(fF o.1.toNat 2++fF b.length 4)))++mu (pP 0 (we o b.length)))++((ic o b).1++jm o b.length));rw[←this];congr 1
theorem Pg{o:aR}{b:al}(ho:cB 3 o=0)(hl:(ic o b).2=0):(ej (la o b)).2=0:=by
 have h:=A_ ho hl;exact bH fun q=>by
  rw[FI q]at h;exact q (ek (fun x=>x.2.2.2) h)
theorem aid{o:aR}{L:List aK}{b:al}(h:tg o L=(b,0)):cB 1 o=0∧cO L=0∧b=qB o L:=by
 unfold tg at h;by_cases q1:cB 1 o≠0
 ·rw[ao q1]at h;exact absurd (ek Prod.snd h) q1
 ·by_cases q2:cO L≠0
  ·rw[aw q1,ao q2]at h;exact absurd (ek Prod.snd h) q2
  ·rw[aw q1,aw q2]at h;exact⟨bH q1,bH q2,(ek Prod.fst h).symm⟩
theorem Hy{o:aR}{L:List aK}(h2:¬(fX o L).2≠0):cO L=0:=(Ml h2).2
theorem ajf{o:aR}{L:List aK}{b:al}(h:vG o L=(b,0)):cB 2 o=0∧cO L=0∧b=pX o L:=by
 unfold vG at h;by_cases q1:cB 2 o≠0
 ·rw[ao q1]at h;exact absurd (ek Prod.snd h) q1
 ·by_cases q2:(fX o L).2≠0
  ·rw[aw q1,ao q2]at h;exact absurd (ek Prod.snd h) q2
  ·rw[aw q1,aw q2]at h;exact⟨bH q1,Hy q2,(ek Prod.fst h).symm⟩
theorem ai5{o:aR}{L:List aK}{b:al}(h:tp o L=(b,0)):cB 3 o=0∧cO L=0∧(ic o (dy o L)).2=0∧b=la o (dy o L):=by
 by_cases q1:cB 3 o=0
 ·by_cases q2:(fX o L).2≠0
  ·rw[afk q1 q2]at h;exact absurd (ek Prod.snd h) q2
  ·by_cases q3:(ic o (dy o L)).2≠0
   ·rw[afl q1 q2 q3]at h;exact absurd (ek Prod.snd h) q3
   ·rw[S9 q1 q2 q3]at h;exact⟨q1,Hy q2,bH q3,(ek Prod.fst h).symm⟩
 ·rw[S8 q1]at h;exact absurd (ek Prod.snd h) q1
theorem agk{v:Int}{o:aR}{L:List aK}{b:al}(h:jn v o L=(b,0)):v=1∨v=2∨v=3:=by
 unfold jn at h;by_cases h1:v=1
 ·exact .inl h1
 ·by_cases h2:v=2
  ·exact .inr (.inl h2)
  ·by_cases h3:v=3
   ·exact .inr (.inr h3)
   ·rw[aw h1,aw h2,aw h3]at h;exact absurd (ek Prod.snd h) (show(4:Int)≠0 by decide)
theorem Hi{v:Int}{o:aR}{L:List aK}{b:al}(hx:WC L)(hlen:v=2→b.length≤8388608)(hp:jn v o L=(b,0)):∃nb,dg b=(v,o,L,nb,0,0):=by
 rcases agk hp with rfl|rfl|rfl
 ·obtain⟨h1,h2,rfl⟩:=aid (show tg o L=(b,0) from hp);have hV:fW (qB o L)=(1,0):=by unfold fW;rw[Zg,ao (.inl rfl)]
  have e:dg (qB o L)=(1,(lZ (qB o L)).1,(lZ (qB o L)).2.1,(lZ (qB o L)).2.2.1,0,(lZ (qB o L)).2.2.2):=by unfold dg;rw[hV];rfl
  rw[e,adR h1 h2 hx];exact⟨_,rfl⟩
 ·obtain⟨h1,h2,rfl⟩:=ajf (show vG o L=(b,0) from hp);have hl:=hlen rfl;unfold pX at hl;rw[aY]at hl;have hV:fW (pX o L)=(2,0):=by unfold fW;rw[aab,ao (.inr rfl)]
  have e:dg (pX o L)=(2,(mw (pX o L)).1,(mw (pX o L)).2.1,(mw (pX o L)).2.2.1,0,(mw (pX o L)).2.2.2):=by unfold dg;rw[hV];rfl
  rw[e,afA h1 h2 hx (Dh h2).1 aa];exact⟨_,rfl⟩
 ·obtain⟨h1,h2,h3,rfl⟩:=ai5 (show tp o L=(b,0) from hp);obtain⟨b,hb⟩:=cN (la o (dy o L));have hV:fW (la o (dy o L))=(3,0):=by
   unfold fW;rw[Jb,aw aA,ao (Pg h1 h3)]
  have e:dg (la o (dy o L))=(3,(ld (la o (dy o L))).1,(ld (la o (dy o L))).2.1,(ld (la o (dy o L))).2.2.1,(ld (la o (dy o L))).2.2.2.1,(ld (la o (dy o L))).2.2.2.2):=by unfold dg;rw[hV];rfl
  rw[e,S_ h1 h2 hx (Dh h2).1 h3];exact⟨_,rfl⟩
theorem Xf{b:al}(hf:Fits b)(hlen:b.length≤8388608)(h:tB b=true):(dg b).2.2.2.2.1=0:=by
 have hp:jn (dg b).1 (dg b).2.1 (dg b).2.2.1=(b,0):=Eu h;obtain⟨nb,e⟩:=Hi (wo hf) (fun _=>hlen) hp;rw[e]
theorem Qm{v:Int}{o:aR}{L:List aK}{b:al}(hx:WC L)(hlen:v=2→b.length≤8388608)(hp:jn v o L=(b,0)):∃nb,p6 b=((v,L.length,nb,0,true),0):=by
 obtain⟨nb,e⟩:=Hi hx hlen hp;have hC:tB b=true:=by unfold tB;rw[e];exact ox hp
 refine⟨nb,?_⟩;unfold p6 y7;rw[e,aw ak,hC]
theorem Xp{b:al}{pl:Bool}(h:b.length≤32768):(jA b pl).1.length≤b.length+50:=by
 have hy:=xx b pl;have e1:=aT (x:=b.length) aa;have e2:=aT (x:=(kl b pl).2.length) aa;rw[Jy aa];show(cX _).length≤_;rw[du,aY];unfold xu;rw[ef,aY];omega
theorem DZ{S:Nat}(hS:S≤32768)(b pl:Bool):∀(g:bf) (L:List aK),(∀x∈L,x.fits)→CW S (lens b L) g→(jv b pl g L).flatten.length≤(dc b L).length+60*g.length
 |[],_,_,_=>by simp[jv]
 |n::g,L,hL,hf=>by
  obtain⟨f1,f2,f3,f4,f5⟩:=hf;have It:=oF (b:=b) hS hL f1 f3;have h1:=Xp (b:=dc b (L.take n)) (pl:=pl) It;have h2:=DZ hS b pl g (L.drop n) (fun x hx=>hL x (rf hx)) ags;have h3:(dc b L).length=(dc b (L.take n)).length+(dc b (L.drop n)).length:=by
   conv=>lhs;rw[←jK n L]
   unfold dc;rw[ua,aY]
  rw[jv,v_,aY,ef,t_,cE];omega
theorem Qt{o:aR}{L:List aK}{M:Nat}(ho:cB 2 (o2 o)=0)(hc:cO L=0)(hx:∀x∈L,x.1<18446744073709551616)(hi:(qA o L).length≤M)(hM:M≤100000000000):
  (dy o L).length≤2*dU L+60*L.length+40*L.length+M+1000+(kq L).length:=by
 obtain⟨tu,rK,Lz⟩:=ko hc hx;have hom:=AF (.inr (.inl rfl)) ho;obtain⟨⟨m1,m2⟩,_,m4,_⟩:=hom;have m1:16≤o.1:=m1;have m2:o.1≤32768:=m2;have GL:(dR o false L).length≤L.length:=by unfold dR;have:=mV o.1.toNat (lens false L);rwa [eo]at this
 have hrb:=u9 (b:=false) hx (by have:=(Dh hc).1;omega);have Il:=DZ (S:=o.1.toNat) aa false o.2.1 (dR o false L) L rK (kv _ _);have hss:∀x∈(eQ o L).map List.length,x≤2*dU L+60*L.length:=fun x hx=>by
  have h1:=pz hx;rw[←List.length_flatten]at h1;exact jd h1 (by show(jv false o.2.1 (dR o false L) L).flatten.length≤_;omega)
 have wO:=Cy o false L;have r7:=qO (L:=L) aa;have hCl:(oT L).length=(kq L).length+4:=du _;have hIl:(oV o L).length=(qA o L).length+4:=du _;have hDl:(p7 o L).length≤60+20*L.length+4:=by
  unfold p7;rw[du];have h1:=yZ (dR o false L) ((eQ o L).map List.length) (fun n hn=>Xl) (fun n hn=>by have:=hss n hn;omega) (dR o false L).length;have h2:uL (dR o false L) ((eQ o L).map List.length) (dR o false L).length=((dR o false L).zip ((eQ o L).map List.length)).flatMap fun p=>aS p.1++aS p.2:=by
   unfold uL;rw[fL (by rw[List.length_zip];omega)]
  rw[h2]at h1;have h3:=aT (x:=(dR o false L).sum) aa;have h4:=aT (x:=(dR o false L).length) aa;have h5:=aT (x:=(oT L).length) aa;have h6:=aT (x:=(oV o L).length) aa;unfold xK;simp only[aY];omega
 unfold dy;have acB:(eQ o L).flatten.length≤2*dU L+60*L.length:=by show(jv false o.2.1 (dR o false L) L).flatten.length≤_;omega
 simp only[aY,p8];omega
structure tA(L:List aK):Prop where
 few:L.length≤30
 w:dU L≤2000
 t:WC L
theorem tA.chk{L:List aK}(h:tA L):cO L=0:=by
 unfold cO;rw[aw];rintro(q|q|q)
 ·have:=h.few;omega
 ·obtain⟨x,hx,hl⟩:=q;have h1:x.w≤dU L:=by
   unfold dU;exact pz (jc hx)
  have h2:=h.w;unfold uh at hl;unfold aK.w at h1;omega
 ·have:=h.w;omega
theorem EA{o:aR}{L:List aK}(h:tA L)(ho:cB 2 (o2 o)=0)(h1:1≤o.2.2.1)(h2:o.2.2.1≤64):(dy o L).length≤320000:=by
 have hf:=h.few;have hw:=h.w;have hi:=(RI (o:=o) h1 h2 hw aa).2 hf;have:=Qt ho h.chk h.t hi aa;have hc:=qO (L:=L) aa;omega
theorem YY{o:aR}{L:List aK}(h:tA L)(ho:cB 1 o=0):(qB o L).length≤10000:=by
 have hf:=h.few;have hw:=h.w;have fG:nV 1 o:=by
  unfold cB at ho;rw[ao (.inl rfl)]at ho;exact bH fun h=>by rw[aw h]at ho;simp at ho
 obtain⟨⟨m1,m2⟩,_⟩:=fG;obtain⟨tu,rK,Lz⟩:=ko h.chk h.t;have hrb:=u9 (b:=true) h.t aa;have Il:=DZ (S:=o.1.toNat) aa true o.2.1 (dR o true L) L rK (kv _ _);have GL:(dR o true L).length≤L.length:=by unfold dR;have:=mV o.1.toNat (lens true L);rwa [eo]at this
 have n1:=aT (x:=o.1.toNat) aa;have n2:=aT (x:=L.length) aa;have n3:=aT (x:=(dR o true L).length) aa;unfold qB tf;rw[du];simp only[aY,ef,r_,dY];omega
theorem YZ{o:aR}{L:List aK}(h:tA L)(ho:cB 2 o=0):(pX o L).length≤330000:=by
 obtain⟨fG,he⟩:=CK ho;obtain⟨⟨m1,m2⟩,_,m4,_,_⟩:=fG;obtain⟨m5,m6⟩:=m4 (.inr rfl);have hb:=EA (o:=o) h (by rw[he];exact ho) m5 m6;have n1:=aT (x:=o.1.toNat) aa;have n2:=aT (x:=o.2.2.1.toNat) aa;unfold pX so om;rw[aY,du];simp only[aY,ef,r_,dY];omega
def KY(o:aR):Prop:=o.2.2.2.1≤8∧o.2.2.2.2.1≤8∧o.2.2.2.2.1≤4*o.2.2.2.1∧4≤o.2.2.2.2.2∧o.2.2.2.2.2≤100
theorem ZI{k m ch n:Nat}(hk:1≤k)(hm:m≤4*k)(hc:4≤ch)(Ip:k≤8)(hc2:ch≤100)(hn:n≤320000):jh k m ch n≤3500000∧zc k m ch n=0:=by
 have hD:1≤k*ch:=N3 hk aa;have hD2:k*ch≤800:=gN Ip hc2;have h1:(k+m)*(ch+4)≤(5*k)*(2*ch):=gN aa aa;have h2:(5*k)*(2*ch)=10*(k*ch):=by
  rw[Nat.mul_mul_mul_comm]
 have h3:lK k ch n*(k*ch)≤n+k*ch-1:=Nat.div_mul_le_self _ _;have h4:jh k m ch n≤3500000:=by
  unfold jh;have h5:lK k ch n*((k+m)*(ch+4))≤lK k ch n*(10*(k*ch)):=yd _ aa;have h6:lK k ch n*(10*(k*ch))=10*(lK k ch n*(k*ch)):=by
   rw[Nat.mul_left_comm]
  omega
 refine⟨h4,?_⟩;unfold zc;rw[aw aa,aw aa]
theorem Oe{o:aR}{L:List aK}(h:tA L)(ho:cB 3 o=0)(hs:KY o):(dy o L).length≤320000∧(ic o (dy o L)).2=0∧(la o (dy o L)).length≤4000000:=by
 obtain⟨fG,h2⟩:=lT ho;obtain⟨_,m3,m4,_,_⟩:=fG;obtain⟨⟨k1,k2⟩,⟨k3,k4⟩,⟨k5,k6⟩⟩:=m3 rfl;obtain⟨m5,m6⟩:=m4 (.inl rfl);obtain⟨s1,s2,s3,s4,s5⟩:=hs;have hb:=EA (o:=o) h h2 m5 m6;obtain⟨z1,z2⟩:=ZI (k:=o.2.2.2.1.toNat) (m:=o.2.2.2.2.1.toNat) (ch:=o.2.2.2.2.2.toNat) (n:=(dy o L).length) aa aa aa aa aa hb;have hl:(ic o (dy o L)).2=0:=by
  unfold ic pW;rw[aw (by rw[z2];simp)]
 refine⟨hb,hl,?_⟩;have hA:=(N_ (k:=o.2.2.2.1.toNat) (m:=o.2.2.2.2.1.toNat) (ch:=o.2.2.2.2.2.toNat) (b:=dy o L) aa aa hl)
 have atO:(ic o (dy o L)).1.length≤3500000:=by
  unfold ic pW;rw[aw (by rw[z2];simp)];show(ue _ _ _ _ _).length≤_;rw[yi aa _ _ (uy (N3 aa aa) _)];exact z1
 unfold la;simp only[aY,FH];omega
structure TL(v:Int)(o:aR)(R:al×Int):Prop where
 e:R.2=cB v o
 none:R.2≠0→R.1=[]
 fits:R.2=0→Fits R.1∧R.1.length≤4000000
theorem RW{v:Int}{o:aR}{L:List aK}(h:tA L)(hs:v=3→cB 3 o=0→KY o):TL v o (jn v o L):=by
 have hc:=h.chk;by_cases h1:v=1
 ·subst h1;show TL 1 o (tg o L);unfold tg;by_cases q:cB 1 o≠0
  ·rw[ao q];exact⟨rfl,fun _=>rfl,fun k=>absurd k q⟩
  ·have q':cB 1 o=0:=bH q;rw[aw q,aw aa];have:=YY h q';exact⟨q'.symm,fun k=>absurd rfl k,fun _=>⟨Fits.yy (by show(qB o L).length≤_;omega),by show(qB o L).length≤_;omega⟩⟩
 ·by_cases h2:v=2
  ·subst h2;show TL 2 o (vG o L);unfold vG;by_cases q:cB 2 o≠0
   ·rw[ao q];exact⟨rfl,fun _=>rfl,fun k=>absurd k q⟩
   ·have q':cB 2 o=0:=bH q;have hb:(fX o L).2=0:=by
     unfold fX;rw[(CK q').2,aw q,aw aa]
    rw[aw q,aw aa];have:=YZ h q';exact⟨q'.symm,fun k=>absurd rfl k,fun _=>⟨Fits.yy (by show(pX o L).length≤_;omega),by show(pX o L).length≤_;omega⟩⟩
  ·by_cases h3:v=3
   ·subst h3;show TL 3 o (tp o L);by_cases q:cB 3 o=0
    ·obtain⟨b1,b2,b3⟩:=Oe h q (hs rfl q);have hb:(fX o L).2=0:=by
      unfold fX;rw[aw (by rw[(lT q).2];simp),aw aa]
     rw[S9 q aa aa];refine⟨q.symm,fun k=>absurd rfl k,fun _=>⟨⟨?_,?_,?_⟩,b3⟩⟩
     ·show(la o (dy o L)).length≤_;omega
     ·intro k;refine absurd ?_ k;show fW (la o (dy o L))=(3,0);unfold fW;rw[Jb,aw aA,ao (Pg q b2)]
     ·show(dH (la o (dy o L))).2.1.length≤_;rw[A_ q b2];show(dy o L).length≤_;omega
    ·rw[S8 q];exact⟨rfl,fun _=>rfl,fun k=>absurd k q⟩
   ·have e:jn v o L=([],4):=by unfold jn;rw[aw h1,aw h2,aw h3]
    have e2:cB v o=4:=by unfold cB;rw[aw aa]
    rw[e];exact⟨e2.symm,fun _=>rfl,fun k=>absurd k (show(4:Int)≠0 by decide)⟩
end Go.Proofs.YtaodmbolhoafcaaGreatDoor

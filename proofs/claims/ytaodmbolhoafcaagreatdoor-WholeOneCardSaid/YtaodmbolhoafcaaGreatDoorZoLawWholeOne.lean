/-
  'WholeOne': two rows of bytes that are clean, of the same log, version and options, are the same. No condition but the row's own: the table of the sums as the program's text lays it.
-/
import Derived.Test.YtaodmbolhoafcaaGreatDoorZo15
import Derived.Test.YtaodmbolhoafcaaGreatDoorRows
import Derived.Test.YtaodmbolhoafcaaGreatDoorTie
import Derived.Test.YtaodmbolhoafcaaGreatDoorCards
import Derived.Lib.LaidTab
import Derived.SevenTiedAt
import Derived.LaidLaws
import Derived.Handed
namespace Go.Proofs.YtaodmbolhoafcaaGreatDoor.lawWholeOne
open Go.ChangeShapes Go.WideShapes Go.ChangeAt Go.RowKit
open Go.ChangeMaps (open_string shut_string)
set_option linter.unusedVariables false
set_option maxRecDepth 20000
theorem walk(w:World)(HT:bL w.heap.size w)(v:Value)(l:List UInt8)(hr:Rd w w.heap.size 1 v l.length (bv l))(hm:l.length≤maxLen)(v2:Value)(l2:List UInt8)(vF:Rd w w.heap.size 1 v2 l2.length (bv l2))(vE:l2.length≤maxLen):
  Calls Tryz.prog 5 #[v,v2] w fun e w'=>e= .returned (.bool true)∧Below w.heap.size w w':=by
 obtain⟨A0,c0,rfl,qM⟩:=hr.form;obtain⟨A1,c1,rfl,P6⟩:=vF.form;have hbo:aK w.heap.size w [] 1 (.slice A0 l.length c0) l.length (bv l):=aK.in_ hr;have asq:aK w.heap.size w [] 1 (.slice A1 l2.length c1) l2.length (bv l2):=aK.in_ vF;simp only[maxLen]at hm vE;exact dL.law (args:=[.slice A0 l.length c0,.slice A1 l2.length c1]) (an3 HT hbo asq aa aa)
theorem own:ownKnob Tryz.prog.godebug=none:=by kernel_rfl
theorem laidOut:laidOutB Tryz.prog=true:=by kernel_rfl
theorem aty(xs:List (String×DataW Unit)):xs=xs:=rfl
def shN:String:=match Rows.wholeOneRow.laid with|x::_=>x.1|[]=> ""
def shZ:List Int:=[0,498536548,997073096,651767980,1994146192,1802195444,1303535960,1342533948,3988292384,4027552580,3604390888,3412177804,2607071920,2262029012,2685067896,3183342108]
theorem aq_:Tryz.prog.globalNamed shN=some 0:=by kernel_rfl
theorem atz:(Tryz.prog.globals[0]?).map (·.type)=some 303:=by kernel_rfl
theorem aiW:Rows.wholeOneRow.laid=[(shN,Lib.tabData .u32 shZ)]:=rfl
abbrev shX(w:World):Prop:=laidMet Tryz.prog Rows.wholeOneRow.laid w
theorem Wy{W:World}(h:shX W)(i:Nat)(hi:i<16):W.cell? ⟨0,i,none⟩=some (.int .u32 (shZ.getD i 0)):=by
 have h2:laidMet Tryz.prog [(shN,Lib.tabData .u32 shZ)] W:=aiW▸h;have ht:Lib.TabIs Tryz.prog W shN .u32 shZ:=Lib.tabIs_of_head (rest:=[]) (e:=135) (n:=16) aq_ atz Tryz.underlying303 Tryz.underlying135 ag ag h2;exact ht.cell aq_ i hi
theorem anz{W:World}(h:shX W):bL W.heap.size W:=by
 refine aK.in_ ⟨_,_,rfl,Nat.le_refl _,rfl,fun _=>⟨_,rfl,World.block_lt_of_cell? W _ (Wy h 0 aB),fun j u hu=>?_⟩⟩;have hj:j<16:=by
  have:=(List.getElem?_eq_some_iff.1 hu).1;exact this
 rw[Pd hj]at hu;injection hu with hu;subst hu;rw[Addr.add_lit];have:=Wy h j hj;rw[show(0:Nat)+j=j by omega,this];have mJ:∀i,i<16→shZ.getD i 0=((yR.getD i 0:Nat):Int):=by decide
 rw[mJ j hj]
noncomputable def shW(os:Os):World:=
 {World.holding Tryz.prog os ⟨#[],#[],[]⟩with heap:=(World.holding Tryz.prog os ⟨#[],#[],[]⟩).heap.modify 0 fun
  | .cells _ t frozen=>.cells (shZ.map fun z=>Value.int .u32 z).toArray t frozen
  |o=>o}
theorem anx(os:Os)(args:Array Value):shX ((shW os).forCall (fun _ _=>0) ⟨#[],args,[]⟩).memory:=
 laidMet_of_run' 8 ag ag
set_option maxRecDepth 100000 in
theorem lifted(os:Os)(started:os.Started)(H:Type)(enc:TypeId×Value→H):
  ReturnsInHanded {} Tryz.checked os 5 .any (fun w args=>(Rows.wholeOneSpec.pre enc Tryz.prog Tryz.f5 Rows.wholeOneRow.domain false w args∧shX w)∧sizedMet enc Tryz.prog Tryz.f5 (OpenSpec.ofChange Rows.wholeOneSpec) false w args)
   (Rows.wholeOneSpec.post enc Tryz.prog Tryz.f5 false true false false):=by
 refine returnsInHanded_of_change_and (C:=Tryz.checked) (X:=fun w _=>shX w) (fun _ _ _ hh h=>h.of_heap hh) own started ag Tryz.func5
  (ChangeSpec.witness_at (enc:=enc) (C:=Tryz.checked) (os:=os) (X:=fun w _=>shX w) false (shW os) #[.slice none 0 0,.slice none 0 0] 8 rfl ag ag ag ag ag (anx os _)) ?_
 intro W base args ds gs before aki hW at1 _ hL _;have amr:∀(j:Nat) t v,Tryz.f5.params[j]? =some t→args[j]? =some v→Value.okWide Tryz.prog W .any base t v:=aki;have hW':=hW;obtain⟨p,q,hA0,hV,rfl,hfz,hnd⟩:=hW;have hA:DataW.TrodAll enc Tryz.prog W 0 (fun _=>true) true Tryz.f5.params.toList args.toList ds p:=hA0;rw[Tryz.params5]at hA amr;obtain⟨v0',vs0,d0,ds0,p0,q0,atI,rfl,rfl,h0',r0⟩:=trodAll_cons hA;obtain⟨v1',vs1,d1,ds1,p1,q1,rfl,rfl,rfl,Rc,r1⟩:=trodAll_cons r0;obtain⟨rfl,rfl,rfl⟩:=trodAll_nil r1;obtain rfl:args= #[v0',v1']:=by cases args;simp_all
 obtain⟨rfl,rfl⟩:=trodVars_none hV;have k0:=h0';have lt0:∀x∈p0,x.block<W.heap.size:=by obtain⟨m,hm⟩:=k0;exact DataW.trod_lt m _ _ _ hm
 obtain⟨A0,n0,c0,rfl⟩:=okWide_slice Tryz.underlying27 (amr 0 27 v0' rfl rfl);obtain⟨⟨u0,L0⟩,e0,hr0,ho0,hm0⟩:=Qi.arg (HW Tryz.underlying27 (by kernel_rfl:Tryz.prog.cellsOf 5=1) aa (fun _=>rfl) (abN (w:=W) Tryz.underlying5)) k0;obtain rfl:=Br A0 n0 c0 rfl e0;rw[DZ]at hr0;have k1:=Rc;have lt1:∀x∈p1,x.block<W.heap.size:=by obtain⟨m,hm⟩:=k1;exact DataW.trod_lt m _ _ _ hm
 obtain⟨A1,n1,c1,rfl⟩:=okWide_slice Tryz.underlying27 (amr 1 27 v1' rfl rfl);obtain⟨⟨u1,L1⟩,e1,tg,ho1,Vj⟩:=Qi.arg (HW Tryz.underlying27 (by kernel_rfl:Tryz.prog.cellsOf 5=1) aa (fun _=>rfl) (abN (w:=W) Tryz.underlying5)) k1;obtain rfl:=Br A1 n1 c1 rfl e1;rw[DZ]at tg;clear hA0 aki;refine(walk W (anz hL) _ L0 hr0 hm0 _ L1 tg Vj).mono fun e W' ⟨he,bel⟩=>?_;subst he;exact⟨_,rfl,_,_,_,[],_,[],hW',trodAll_mk1 (shut_bool Tryz.underlying4 _),(trodAll_cons_mk (Below.trod laidOut ag (of_decide_eq_true ag) k0 bel lt0) (trodAll_cons_mk (Below.trod laidOut ag (of_decide_eq_true ag) k1 bel lt1) trodAll_mk0)),rfl,bel.frame _,fun h=>kl⟩
theorem over:Rows.wholeOneRow.holds Tryz.pinned (OpenSpec.ofChange Rows.wholeOneSpec):=
 OpenClaim.holds_of_wide 5 Tryz.f5 rfl rfl rfl rfl rfl rfl rfl ⟨rfl,rfl,rfl,rfl,rfl⟩ rfl rfl rfl rfl rfl aqZ Tryz.func5 atk ati atj
  (fun os started H enc _=>lifted os started H enc)
theorem proved:Rows.WholeOneCardSaid:=
 Claim7.holds_tied_plain_at .later [] [.data] true Rows.wholeOneCard.stood.harness false
  over (fun _ h=>kl) atm (fun _ h=>kl) wholeOne_row_tie rfl ⟨rfl,rfl⟩ atn rfl
  (fun f fn hf hfn=>by
   obtain rfl:f=5:=(Option.some.inj (aqZ.symm.trans hf)).symm;obtain rfl:fn=Tryz.f5:=(Option.some.inj (Tryz.func5.symm.trans hfn)).symm;exact⟨ato,fun j t ht=>by
    rw[Tryz.params5]at ht;refine atp ?_;have:=List.mem_of_getElem? (l:=[27,27]) (i:=j) (a:=t) (by simpa using ht);exact this⟩)
  atq
#print axioms proved
end Go.Proofs.YtaodmbolhoafcaaGreatDoor.lawWholeOne

/-
  'WholeClean': bytes that are clean are just what is packed of the log, the version and the options that they have. No condition but the row's own: the table of the sums as the program's text lays it.
-/
import Derived.Test.YtaodmbolhoafcaaGreatDoorZc15
import Derived.Test.YtaodmbolhoafcaaGreatDoorRows
import Derived.Test.YtaodmbolhoafcaaGreatDoorTie
import Derived.Test.YtaodmbolhoafcaaGreatDoorCards
import Derived.Lib.LaidTab
import Derived.SevenTiedAt
import Derived.LaidLaws
import Derived.Handed
namespace Go.Proofs.YtaodmbolhoafcaaGreatDoor.lawWholeClean
open Go.ChangeShapes Go.WideShapes Go.ChangeAt Go.RowKit
open Go.ChangeMaps (open_string shut_string)
set_option linter.unusedVariables false
set_option maxRecDepth 20000
theorem walk(w:World)(HT:bI w.heap.size w)(v:Value)(l:List UInt8)(hr:Rd w w.heap.size 1 v l.length (bv l))(hm:l.length≤maxLen):
  Calls Tryz.prog 4 #[v] w fun e w'=>e= .returned (.bool true)∧Below w.heap.size w w':=by
 obtain⟨A0,c0,rfl,qF⟩:=hr.form;have hbo:aJ w.heap.size w [] 1 (.slice A0 l.length c0) l.length (bv l):=aJ.in_ hr;simp only[maxLen]at hm;exact dL.law (args:=[.slice A0 l.length c0]) (afW HT hbo aa)
theorem own:ownKnob Tryz.prog.godebug=none:=by kernel_rfl
theorem laidOut:laidOutB Tryz.prog=true:=by kernel_rfl
theorem atj(xs:List (String×DataW Unit)):xs=xs:=rfl
def shN:String:=match Rows.wholeCleanRow.laid with|x::_=>x.1|[]=> ""
def shZ:List Int:=[0,498536548,997073096,651767980,1994146192,1802195444,1303535960,1342533948,3988292384,4027552580,3604390888,3412177804,2607071920,2262029012,2685067896,3183342108]
theorem aqY:Tryz.prog.globalNamed shN=some 0:=by kernel_rfl
theorem atk:(Tryz.prog.globals[0]?).map (·.type)=some 303:=by kernel_rfl
theorem aiJ:Rows.wholeCleanRow.laid=[(shN,Lib.tabData .u32 shZ)]:=rfl
abbrev shX(w:World):Prop:=laidMet Tryz.prog Rows.wholeCleanRow.laid w
theorem Wj{W:World}(h:shX W)(i:Nat)(hi:i<16):W.cell? ⟨0,i,none⟩=some (.int .u32 (shZ.getD i 0)):=by
 have h2:laidMet Tryz.prog [(shN,Lib.tabData .u32 shZ)] W:=aiJ▸h;have ht:Lib.TabIs Tryz.prog W shN .u32 shZ:=Lib.tabIs_of_head (rest:=[]) (e:=135) (n:=16) aqY atk Tryz.underlying303 Tryz.underlying135 ag ag h2;exact ht.cell aqY i hi
theorem anh{W:World}(h:shX W):bI W.heap.size W:=by
 refine aJ.in_ ⟨_,_,rfl,Nat.le_refl _,rfl,fun _=>⟨_,rfl,World.block_lt_of_cell? W _ (Wj h 0 aA),fun j u hu=>?_⟩⟩;have hj:j<16:=by
  have:=(List.getElem?_eq_some_iff.1 hu).1;exact this
 rw[Pb hj]at hu;injection hu with hu;subst hu;rw[Addr.add_lit];have:=Wj h j hj;rw[show(0:Nat)+j=j by omega,this];have mF:∀i,i<16→shZ.getD i 0=((yN.getD i 0:Nat):Int):=by decide
 rw[mF j hj]
noncomputable def shW(os:Os):World:=
 {World.holding Tryz.prog os ⟨#[],#[],[]⟩with heap:=(World.holding Tryz.prog os ⟨#[],#[],[]⟩).heap.modify 0 fun
  | .cells _ t frozen=>.cells (shZ.map fun z=>Value.int .u32 z).toArray t frozen
  |o=>o}
theorem ang(os:Os)(args:Array Value):shX ((shW os).forCall (fun _ _=>0) ⟨#[],args,[]⟩).memory:=
 laidMet_of_run' 8 ag ag
set_option maxRecDepth 100000 in
theorem lifted(os:Os)(started:os.Started)(H:Type)(enc:TypeId×Value→H):
  ReturnsInHanded {} Tryz.checked os 4 .any (fun w args=>(Rows.wholeCleanSpec.pre enc Tryz.prog Tryz.f4 Rows.wholeCleanRow.domain false w args∧shX w)∧sizedMet enc Tryz.prog Tryz.f4 (OpenSpec.ofChange Rows.wholeCleanSpec) false w args)
   (Rows.wholeCleanSpec.post enc Tryz.prog Tryz.f4 false true false false):=by
 refine returnsInHanded_of_change_and (C:=Tryz.checked) (X:=fun w _=>shX w) (fun _ _ _ hh h=>h.of_heap hh) own started ag Tryz.func4
  (ChangeSpec.witness_at (enc:=enc) (C:=Tryz.checked) (os:=os) (X:=fun w _=>shX w) false (shW os) #[.slice none 0 0] 8 rfl ag ag ag ag ag (ang os _)) ?_
 intro W base args ds gs before aj5 hW atI _ hL _;have aqs:∀(j:Nat) t v,Tryz.f4.params[j]? =some t→args[j]? =some v→Value.okWide Tryz.prog W .any base t v:=aj5;have hW':=hW;obtain⟨p,q,hA0,hV,rfl,hfz,hnd⟩:=hW;have hA:DataW.TrodAll enc Tryz.prog W 0 (fun _=>true) true Tryz.f4.params.toList args.toList ds p:=hA0;rw[Tryz.params4]at hA aqs;obtain⟨v0',vs0,d0,ds0,p0,q0,atu,rfl,rfl,h0',r0⟩:=trodAll_cons hA;obtain⟨rfl,rfl,rfl⟩:=trodAll_nil r0;obtain rfl:args= #[v0']:=by cases args;simp_all
 obtain⟨rfl,rfl⟩:=trodVars_none hV;have k0:=h0';have lt0:∀x∈p0,x.block<W.heap.size:=by obtain⟨m,hm⟩:=k0;exact DataW.trod_lt m _ _ _ hm
 obtain⟨A0,n0,c0,rfl⟩:=okWide_slice Tryz.underlying27 (aqs 0 27 v0' rfl rfl);obtain⟨⟨u0,L0⟩,e0,hr0,ho0,hm0⟩:=W9.arg (XF Tryz.underlying27 (by kernel_rfl:Tryz.prog.cellsOf 5=1) aa (fun _=>rfl) (alk (w:=W) Tryz.underlying5)) k0;obtain rfl:=Mw A0 n0 c0 rfl e0;rw[Q4]at hr0;clear hA0 aj5;refine(walk W (anh hL) _ L0 hr0 hm0).mono fun e W' ⟨he,bel⟩=>?_;subst he;exact⟨_,rfl,_,_,_,[],_,[],hW',trodAll_mk1 (shut_bool Tryz.underlying4 _),(trodAll_cons_mk (Below.trod laidOut ag (of_decide_eq_true ag) k0 bel lt0) trodAll_mk0),rfl,bel.frame _,fun h=>ki⟩
theorem over:Rows.wholeCleanRow.holds Tryz.pinned (OpenSpec.ofChange Rows.wholeCleanSpec):=
 OpenClaim.holds_of_wide 4 Tryz.f4 rfl rfl rfl rfl rfl rfl rfl ⟨rfl,rfl,rfl,rfl,rfl⟩ rfl rfl rfl rfl rfl aqN Tryz.func4 as7 as5 as6
  (fun os started H enc _=>lifted os started H enc)
theorem proved:Rows.WholeCleanCardSaid:=
 Claim7.holds_tied_plain_at .later [] [.data] true Rows.wholeCleanCard.stood.harness false
  over (fun _ h=>ki) as9 (fun _ h=>ki) wholeClean_row_tie rfl ⟨rfl,rfl⟩ as' rfl
  (fun f fn hf hfn=>by
   obtain rfl:f=4:=(Option.some.inj (aqN.symm.trans hf)).symm;obtain rfl:fn=Tryz.f4:=(Option.some.inj (Tryz.func4.symm.trans hfn)).symm;exact⟨ata,fun j t ht=>by
    rw[Tryz.params4]at ht;refine atb ?_;have:=List.mem_of_getElem? (l:=[27]) (i:=j) (a:=t) (by simpa using ht);exact this⟩)
  atc
#print axioms proved
end Go.Proofs.YtaodmbolhoafcaaGreatDoor.lawWholeClean

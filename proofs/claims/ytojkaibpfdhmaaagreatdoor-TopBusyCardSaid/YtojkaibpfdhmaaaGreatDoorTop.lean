/- The statement of TopBusy, of every input; it lists what four package-level variables hold as the call begins, tied to the program's text. No further conditions. -/
import Derived.Test.YtojkaibpfdhmaaaGreatDoorTie
import Derived.Test.YtojkaibpfdhmaaaGreatDoorCards
import Derived.Test.YtojkaibpfdhmaaaGreatDoorP48
import Derived.Test.YtojkaibpfdhmaaaGreatDoorP47
import Derived.ProofKit
import Derived.OpenShut
import Derived.LaidMore
import Derived.Lay
import Derived.SevenTiedAt
import Derived.Stop.Joined
namespace Go.Proofs.YtojkaibpfdhmaaaGreatDoor
open Go.RowKit
set_option maxRecDepth 100000
set_option maxHeartbeats 16000000
section
open Go.ChangeShapes Go.WideShapes Go.ChangeAt
theorem Tryz.own:ownKnob Tryz.prog.godebug=none:=by kernel_rfl
theorem Tryz.laidOut:laidOutB Tryz.prog=true:=by kernel_rfl
section
variable{H:Type}{enc:TypeId × Value→H}{P:Program}
theorem qg(hl:laidOutB P=true){W W':World}(hb:Below W.heap.size W W'):∀{ts:List TypeId}{vs:List Value}{ds:List (DataW H)}{ps:List MemPlace},
  (ts.all fun t=>P.readableRec t&&decide (t<P.types.size))=true→DataW.TrodAll enc P W 0 (fun _=>true) true ts vs ds ps→(∀x∈ps,x.block<W.heap.size) →
  DataW.TrodAll enc P W' 0 (fun b=>decide (b<W.heap.size)) true ts vs ds ps
 | [],[],[],_,_,h,_=>h
 | t::ts,v::vs,d::ds,ps,hok,h,hlt=>by
  obtain⟨p,q,h0,hr,rfl⟩:=h;simp only[List.all_cons,Bool.and_eq_true,decide_eq_true_eq] at hok;exact⟨p,q,Below.trod hl hok.1.1 hok.1.2 h0 hb (fun x hx=>hlt x (by simp[hx])),qg hl hb hok.2 hr (fun x hx=>hlt x (by simp[hx])),rfl⟩
 | [],_::_,_,_,_,h,_=>h.elim
 | [],[],_::_,_,_,h,_=>h.elim
 | _::_,[],_,_,_,h,_=>h.elim
 | _::_,_::_,[],_,_,h,_=>h.elim
theorem c2a(hl:laidOutB P=true){f:Func}{s:ChangeSpec}{W W':World}{args:Array Value}{ds gs:List (DataW H)}{before:List MemPlace}{tb:TypeId}(hok:(f.params.toList.all fun t=>P.readableRec t&&decide (t<P.types.size))=true)(hvars:s.vars=[])(hres:f.resultTypes=#[tb])(hbool:P.underlying tb=some .bool)(hW:DataW.Whole enc P f.params.toList s.vars false W args.toList ds gs before)(hb:Below W.heap.size W W')(hspec:s.fn H (ds++gs)={results:=[.lit (.bool true)],args:=ds}):s.post enc P f false true false false W args (.bool true) W':=by
 have hlt:∀p∈before,p.block<W.heap.size:=fun p hp=>hW.lt p hp;have hW':=hW;obtain⟨p,q,hA,hV,rfl,hfz,hnd⟩:=hW;rw[hvars] at hV;obtain⟨rfl,rfl⟩:=trodVars_none hV;refine⟨ds,[],_,[],p,[],hW',?_,?_,?_,World.keptBut_mono (fun x hx=>hx) (hb.frame _),fun h=>by cases h⟩
 ·rw[hspec,hres];exact trodAll_mk1 (shut_bool hbool true)
 ·rw[hspec];exact qg hl hb hok hA (fun x hx=>hlt x (by simp[hx]))
 ·rw[hspec,hvars]
  rfl
theorem b5h{n fuel:Nat}{t e:TypeId}{w:World}{base:Nat}{spare:Nat→Bool}{held:Bool}{cs:List Value}{d:DataW H}{p:List MemPlace}(ht:P.underlying t=some (.array n e)){sz:Nat}(hc:P.cellsOf e=sz)(h:DataW.trod enc P w base spare held fuel t cs=some (d,p))(i:Nat)(hi:i<n):∃(m:Nat)(y:DataW H × List MemPlace)(ys:List (DataW H)),d=.agg ys∧ys[i]?=some y.1∧DataW.trod enc P w base spare held m e ((cs.drop (i*sz)).take sz)=some y:=by
 obtain⟨xs,m,_,ex,_,hl,hel⟩:=DataW.trod_array ht h;have hE:=hel i hi;rw[hc,cz (by omega)] at hE;refine⟨m,_,xs.map (·.1),(Prod.mk.inj ex).1,?_,hE⟩;rw[List.getElem?_map,cz (by omega)]
 rfl
end
theorem b8u{W:World}(h:laidMetH Tryz.prog Rows.topBusyRow.laid W):jj W∧j7 W:=by
 rw[MakeChecks.laidMetH_plain _ _ _ (by kernel_rfl)] at h;obtain⟨ps,⟨_,_,_,_,_,_,_,_,_,_,⟨g,t,cs,fuel,p,q,hg,ht,hv,hd,⟨g2,t2,cs2,fuel2,p2,q2,hg2,ht2,hv2,hd2,_,_⟩,_⟩,_⟩,_,_⟩:=h;have eg:some 4=some g:=Eq.trans (by kernel_rfl) hg;obtain rfl:=Option.some.inj eg;obtain rfl:=Option.some.inj ((show (Tryz.prog.globals[4]?).map (·.type)=some 326 by kernel_rfl).symm.trans ht);have eg2:some 0=some g2:=Eq.trans (by kernel_rfl) hg2;obtain rfl:=Option.some.inj eg2;obtain rfl:=Option.some.inj ((show (Tryz.prog.globals[0]?).map (·.type)=some 137 by kernel_rfl).symm.trans ht2);refine⟨⟨fun i j hi hj=>?_⟩,?_⟩
 ·obtain⟨m,y,_,_,_,h1⟩:=b5h Tryz.underlying326 (sz:=8) (by kernel_rfl) hd i hi;obtain⟨m2,y2,_,_,_,h2⟩:=b5h (d:=y.1) (p:=y.2) Tryz.underlying325 (sz:=1) (by kernel_rfl) h1 j hj;obtain⟨z,e1,_⟩:=DataW.trod_int Tryz.underlying3 h2;refine⟨z,?_⟩;rw[World.var?_cell hg hv];have h3:=nv e1;rw[Nat.mul_one,List.getElem?_take_of_lt hj,List.getElem?_drop] at h3
  simpa using h3
 ·have key:∀i,i<10→∃(z:Int),W.cell? (ae 0 i)=some (ci z)∧∃ys:List (DataW Unit),Rows.laid_aileron_call_fields=.agg ys∧ys[i]?=some (.lit (Lit.int .i64 z)):=fun i hi=>by
   obtain⟨m,y,ys,k1,k2,h1⟩:=b5h Tryz.underlying137 (sz:=1) (by kernel_rfl) hd2 i hi;obtain⟨z,e1,e2,_⟩:=DataW.trod_int Tryz.underlying3 h1;refine⟨z,?_,ys,k1,?_⟩
   ·rw[World.var?_cell hg2 hv2];have h3:=nv e1;rw[Nat.mul_one] at h3
    simpa using h3
   ·rw[k2,e2]
  have val:∀(i:Nat)(z0:Int),i<10→([1,513,1,256,13,0,2,176,64,0]:List Int)[i]?=some z0→W.cell? (ae 0 i)=some (ci z0):=fun i z0 hi hz=>by
   obtain⟨z,h1,ys,h2,h3⟩:=key i hi;have h4:ys=([1,513,1,256,13,0,2,176,64,0]:List Int).map fun z=>.lit (Lit.int .i64 z):=(DataW.agg.inj h2).symm;rw[h4,List.getElem?_map,hz] at h3;have h5:z0=z:=by simpa using h3
   rw[h5];exact h1
  exact⟨fun i hi=>by obtain⟨z,h1,_⟩:=key i hi;exact⟨z,h1⟩,val 0 1 (by decide) rfl,val 1 513 (by decide) rfl,val 2 1 (by decide) rfl⟩
theorem xi(os:Os)(started:os.Started)(H:Type)(enc:TypeId × Value→H):ReturnsInHanded {} Tryz.checked os 3 .any (fun w args=>(Rows.topBusySpec.pre enc Tryz.prog Tryz.f3 Rows.topBusyRow.domain false w args∧laidMetH Tryz.prog Rows.topBusyRow.laid w)∧sizedMet enc Tryz.prog Tryz.f3 (OpenSpec.ofChange Rows.topBusySpec) false w args)
   (Rows.topBusySpec.post enc Tryz.prog Tryz.f3 false true false false):=by
 refine returnsInHanded_of_change_and (C:=Tryz.checked) (X:=fun w _=>laidMetH Tryz.prog Rows.topBusyRow.laid w) (fun _ _ _ hh h=>h.of_heap hh) Tryz.own started (by kernel_rfl) Tryz.func3
  (ChangeSpec.witness_shaped (enc:=enc) (C:=Tryz.checked) (os:=os) (X:=fun w _=>laidMetH Tryz.prog Rows.topBusyRow.laid w) false (World.laidAll Tryz.prog os Rows.topBusyRow.laid) #[.agg #[ci 0,zn,ci 0,ci 0,zn,zn]] 8 (World.laidAll_os _ _ _)
   (World.shaped_of_ZipB (by kernel_rfl) (by kernel_rfl)) (by kernel_rfl) (by kernel_rfl) (by kernel_rfl)
   (by rw[MakeChecks.laidMetH_plain _ _ _ (by kernel_rfl)];exact laidMet_laidAll _ (by kernel_rfl) (by kernel_rfl))) ?_
 intro W base args ds gs before hval0 hW hc _ hL _;have hval:∀(j:Nat) t v,Tryz.f3.params[j]?=some t→args[j]?=some v→Value.okWide Tryz.prog W .any base t v:=hval0;have hW':=hW;obtain⟨p,q,hA0,hV,rfl,_,_⟩:=hW;have hA:DataW.TrodAll enc Tryz.prog W 0 (fun _=>true) true Tryz.f3.params.toList args.toList ds p:=hA0;rw[Tryz.params3] at hA hval;obtain⟨v0,d0,rfl,rfl,h0⟩:=trodAll_one hA;obtain⟨rfl,rfl⟩:=trodVars_none hV;obtain⟨T,tr,lg,a,c,l,pa,pc,ps,ka,kc,xs,rfl,hs⟩:=b2z (hval 0 28 v0 rfl rfl) h0;obtain⟨hw,hf⟩:=b8u hL;clear hA0 hval0;refine(d0o W T tr lg a c l pa pc ps ka kc xs hs hw hf).mono fun e W' ⟨he,hb⟩=>?_;subst he;exact⟨_,rfl,c2a Tryz.laidOut (by kernel_rfl) rfl rfl Tryz.underlying4 hW' hb rfl⟩
theorem topBusy_said:Rows.TopBusySaid:=
 OpenClaim.holds_of_wide 3 Tryz.f3 rfl rfl rfl rfl rfl rfl rfl ⟨rfl,rfl,rfl,rfl,rfl⟩ rfl rfl rfl rfl rfl (by kernel_rfl) Tryz.func3 (by kernel_rfl)
  (of_decide_eq_true (by kernel_rfl)) (by unfold Func.isWrapper;rw[if_neg (of_decide_eq_false (by kernel_rfl))];exact⟨rfl,rfl⟩)
  (fun os started H enc _=>xi os started H enc)
theorem topBusy_holds:Rows.TopBusyCardSaid:=
 Claim7.holds_tied_plain_at .later [] [.data, .data, .data, .pinned] true (true, "6e3cb7fad44625996eb2f6cba451d72c9ab23cb0384bd1ffed8d330e8b014f98") false topBusy_said (fun _ h => by cases h) (by kernel_rfl) (fun _ h => by cases h) topBusy_row_tie rfl ⟨rfl, rfl⟩ (by kernel_rfl) rfl
  (fun f fn hf hfn=>by
   have ef:some 3=some f:=Eq.trans (by kernel_rfl) hf;obtain rfl:f=3:=(Option.some.inj ef).symm;obtain rfl:fn=Tryz.f3:=(Option.some.inj (Tryz.func3.symm.trans hfn)).symm
   exact⟨by kernel_rfl,fun j t ht=>by
    rw[Tryz.params3] at ht;have hm:t∈[28]:=by simpa using Array.mem_of_getElem? ht
    have hall:([28].all fun u=>!Tryz.prog.wantsStandIn u)=true:=by kernel_rfl
    exact(show Tryz.prog.wantsStandIn t=false by simpa using List.all_eq_true.1 hall t hm)⟩)
  (by kernel_rfl)
#print axioms topBusy_holds
end
end Go.Proofs.YtojkaibpfdhmaaaGreatDoor

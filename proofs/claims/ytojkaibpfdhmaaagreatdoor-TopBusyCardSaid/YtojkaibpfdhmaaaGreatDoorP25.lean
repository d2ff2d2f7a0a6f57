/- How Advertise, Publish and Copy begin. -/
import Derived.Test.YtojkaibpfdhmaaaGreatDoorP16
import Derived.Test.YtojkaibpfdhmaaaGreatDoorP24
import Derived.Test.YtojkaibpfdhmaaaGreatDoorP19
import Derived.Test.YtojkaibpfdhmaaaGreatDoorP04
import Derived.Laws.EntriesVeiled
import Derived.WideLaws
namespace Go.Proofs.YtojkaibpfdhmaaaGreatDoor
open Go.RowKit
set_option maxRecDepth 100000
set_option maxHeartbeats 16000000
theorem ak{W W':World}{a:Addr}{v:Value}(h:W.cell? a=some v)(hb:Below W.heap.size W W'):W'.cell? a=some v:=(hb.cell (blc h)).trans h
def AOp.eff(x:AOp):Nat:=if x.how=1 then x.steps else 0
theorem c6x(w:World)(P:Nat)(o:AOp)(hr:Row w P 239 o.cells):Calls Tryz.prog 104 #[pt P] w fun e w'=>e=.returned (ci o.eff)∧w=w':=c9x w P o hr
def Logs(w w':World)(O V i bo:Nat)(v:dg)(o:OpC)(x':AOp):Prop:=∃bl P2 wd,w.heap.size≤bl∧w.heap.size≤P2∧Row w' bl 190 #[pt P2]∧Row w' P2 248 (LOp.cells ⟨⟨0,1,v.lg,zl v.G v.k v.gk,v.sz⟩,x'.state,wd,0⟩) ∧
     Row w' O 122 (OpC.cells {o with st:=x'.state,code:=x'.err,at_:=x'.eff,next:=.func (.func 106) #[] #[pt bl,pt bo]} V v.Y i)
theorem c6y(w:World)(O V i ba bo bw P A:Nat)(v:dg)(o:OpC)(x:AOp)(wr:Bool)(ws:List Nat)(Qp:Int→AOp→List Nat→Prop)(hr:Row w O 122 (o.cells V v.Y i))(h1:Row w ba 180 #[pt P])(h2:Row w bo 95 #[pt O])(h3:Row w bw 4 #[.bool wr])(hv:Row w V 92 v.cells)(hb:bv w v.B A ws)(hq:Row w P 239 x.cells)(hnx:o.next=.func (.func 101) #[] #[pt ba,pt bo,pt bw])(hl1:1≤v.lg)(hl2:v.lg≤64)(hstep:∀W,ab [] w W→Calls Tryz.prog 102 #[pt P,pt v.B] W fun e W'=>∃(c:Int)(x':AOp)(ws':List Nat),e=.returned (ci c)∧ab [v.B,A,P] W W'∧Row W' P 239 x'.cells∧bv W' v.B A ws'∧Qp c x' ws'):Calls Tryz.prog 101 #[pt ba,pt bo,pt bw] w fun e w'=>∃(c:Int)(x':AOp)(ws':List Nat),Qp c x' ws'∧bv w' v.B A ws'∧ab [v.B,A,P,O] w w'∧Row w' P 239 x'.cells ∧
   ((c=0∧e=.returned (.bool false)∧Row w' O 122 (o.cells V v.Y i)) ∨
    (c≠0∧e=.returned (.bool true)∧Row w' O 122 (OpC.cells {o with st:=x'.state,code:=x'.err,at_:=x'.eff} V v.Y i)) ∨
    (c≠0∧e=.returned (.bool false)∧(wr=true∧x'.err=0)∧Logs w w' O V i bo v o x')):=by
 obtain⟨kd,tp,sb,cp,rk,sr,mo,fl,fb,se,wy,nx,en,co,su,ge,cn,lo,⟨zm,zs,zh,zf,ze⟩,gv,av,st,at_⟩:=o;obtain⟨T,tr,lg,tv,G,k,gk,sz,B,Y,yk⟩:=v;simp only at hnx;subst hnx;simp only[OpC.cells,dg.cells] at *;obtain⟨kb,hkb⟩:=hb.hd
 have n3:∀b t cs,Row w b t cs→t≠119→t≠41→t≠239→b∉[B,A,P]:=fun b t cs h g1 g2 g3=>by
  simp only[List.mem_cons,List.not_mem_nil,or_false,not_or];exact⟨h.ne hkb g1,h.ne hb.wd g2,h.ne hq g3⟩
 have nb_O:=n3 _ _ _ hr (by decide) (by decide) (by decide);have nb_ba:=n3 _ _ _ h1 (by decide) (by decide) (by decide);have nb_bo:=n3 _ _ _ h2 (by decide) (by decide) (by decide);have nb_bw:=n3 _ _ _ h3 (by decide) (by decide) (by decide);have nb_V:=n3 _ _ _ hv (by decide) (by decide) (by decide);have ne_ba_O:=h1.ne hr (by decide);have ne_bo_O:=h2.ne hr (by decide);have ne_bw_O:=h3.ne hr (by decide);have ne_V_O:=hv.ne hr (by decide);have ne_P_O:=hq.ne hr (by decide);have ne_B_O:=hkb.ne hr (by decide);have ne_A_O:=hb.wd.ne hr (by decide);have hOl:=hr.lt;have HR:=qh hr;have H1:=qh h1;have H2:=qh h2;have H3:=qh h3;have HV:=qh hv;have HB:=qh hb;have HQ:=qh hq;have HE:=qh (ab.refl [] w);have HS:=qh (ab.refl [B,A,P,O] w);have HST:=qh hstep;clear hr h1 h2 h3 hv hb hq hkb n3 hstep
 go_enter Tryz.func101,Tryz.ntmps101
 go_wp2_with fail;revert HR;revert H1;revert H2;revert H3;revert HV;revert HB;revert HQ;revert HE;revert HS
 refine cq (sdz w) ?_;intro HS HE HQ HB HV H3 H2 H1 HR;have hU:UD (fun W=>W.cell? (ae ba 0)=some (pt P)∧W.cell? (ae bo 0)=some (pt O)∧W.cell? (ae O 0)=some (pt V)∧W.cell? (ae V 9)=some (pt B)):=al fun W n h=>h;have hC0:=hU.at _ ⟨H1.k 0,H2.k 0,HR.k 0,HV.k 9⟩;refine dw aj hU hC0 ?_;intro S;generalize w.drew=u0 at *;refine ao S hU [0,1,2,3,4,5,6,7] 66 2 hC0 ?_;constructor
 ·intro W' hW';simp only[pick,List.filterMap,gq1,gq2,gq3];obtain⟨q0,q1,q2,q3⟩:=hW'
  repeat (go_big_quiet_step (fail))
  exact wpQuiet_nil rfl
 refine az S hU 8 1 rfl hC0 fun n0 K1 hK1=>?_;go_wp2_with fail;refine(HST.o (u0.drewN n0) (HE.o.drewN n0)).mono ?_;rintro e W4 ⟨c,x',ws',rfl,hs4,hq4,hb4,hQ⟩;go_wp2_with fail;replace HB:=qh hb4;replace HQ:=qh hq4;replace HE:=qh (ab.refl [] W4);revert HS HV H3 H2 H1 HR;refine cm (ssm hs4) ⟨(fun y hy _=>by simp at hy ⊢;first|omega|simp[hy]),nb_V,nb_bw,nb_bo,nb_ba,nb_O,trivial⟩ ?_;intro HS HV H3 H2 H1 HR;have hC1:=hU.at _ ⟨H1.k 0,H2.k 0,HR.k 0,HV.k 9⟩;refine hK1 _ _ hC1 ?_;clear hK1 hC0;clear hs4 hb4 hq4;refine ao S hU [9] 66 0 hC1 ?_;constructor
 ·intro W' hW';simp only[pick,List.filterMap,gq1,gq2,gq3];obtain⟨q0,q1,q2,q3⟩:=hW'
  repeat (go_big_quiet_step (fail))
  exact wpQuiet_nil rfl
 refine dd fun n9=>?_;revert HB HQ HE HS HV H3 H2 H1 HR;refine cq (sdw W4 n9) ?_;intro HB HQ HE HS HV H3 H2 H1 HR;clear S hU hC1;generalize W4.drewN n9=w9 at *;clear HST HE;have HQP:=qh hQ;clear hQ;by_cases c0:c=0
 ·subst c0;go_wp2_with fail;go_ret;exact⟨0,x',ws',HQP.o,HB.o,HS.o,HQ.o,Or.inl ⟨rfl,rfl,HR.o⟩⟩
 ·have e0:(c==0)=false:=bfn.2 c0;go_wp2_with fail;revert HR;revert H1;revert H2;revert H3;revert HV;revert HB;revert HQ;revert HS
  refine cq (sdz w9) ?_;intro HS HQ HB HV H3 H2 H1 HR;have hU:UD (fun W=>W.cell? (ae ba 0)=some (pt P)∧W.cell? (ae bo 0)=some (pt O)):=al fun W n h=>h;have hC0:=hU.at _ ⟨H1.k 0,H2.k 0⟩;refine dw aj hU hC0 ?_;intro S;generalize w9.drew=u0 at *;refine ao S hU [0,1,2] 66 12 hC0 ?_;constructor
  ·intro W' hW';simp only[pick,List.filterMap,gq1,gq2,gq3];obtain⟨q0,q1⟩:=hW'
   repeat (go_big_quiet_step (fail))
   exact wpQuiet_nil rfl
  refine az S hU 3 11 rfl hC0 fun n0 K1 hK1=>?_;go_wp2_with fail;refine(c5j (u0.drewN n0) P x' (HQ.o.drewN n0)).mono ?_;rintro e W5 ⟨rfl,hb⟩;simp only[St.cells];go_wp2_with fail;revert HS HQ HB HV H3 H2 H1 HR;refine cq (sbl hb) ?_;intro HS HQ HB HV H3 H2 H1 HR;have hC1:=hU.at _ ⟨H1.k 0,H2.k 0⟩;refine hK1 _ _ hC1 ?_;clear hK1 hC0;clear hb ;refine ao S hU [4,5,6,7,8,9] 66 5 hC1 ?_;constructor
  ·intro W' hW';simp only[pick,List.filterMap,gq1,gq2,gq3];obtain⟨q0,q1⟩:=hW'
   repeat (go_big_quiet_step (fail))
   exact wpQuiet_nil rfl
  refine az S hU 10 4 rfl hC1 fun n1 K1 hK1=>?_;have hfz:=(HR.o.drewN n1).free;have hcw0:=(HR.o.drewN n1).k 21;have hcw1:=(HR.o.drewN n1).k 22;have hcw2:=(HR.o.drewN n1).k 23;have hcw3:=(HR.o.drewN n1).k 24;have hcw4:=(HR.o.drewN n1).k 25;go_wp2_with fail;clear hfz hcw0 hcw1 hcw2 hcw3 hcw4;have hsN:=((((sst W5 n1 O 21 ((ci x'.state.m))).sc O 22 ((ci x'.state.s))).sc O 23 ((.bool x'.state.h))).sc O 24 ((ci x'.state.f))).sc O 25 ((cu x'.state.e))
  replace HR:=qh (((((((HR.o.drewN n1).set 21 ((ci x'.state.m))).set 22 ((ci x'.state.s))).set 23 ((.bool x'.state.h))).set 24 ((ci x'.state.f))).set 25 ((cu x'.state.e))).to (cs':=#[pt V,.pointer (some ⟨Y,i*3,none⟩),ci i,ci kd,ci tp,ci sb,ci cp,ci rk,ci sr,ci mo,ci fl,.bool fb,se,wy,.func (.func 101) #[] #[pt ba,pt bo,pt bw],.bool en,ci co,ci su,cu ge,ci cn,cu lo,(ci x'.state.m),(ci x'.state.s),(.bool x'.state.h),(ci x'.state.f),(cu x'.state.e),gv,av,ci st,ci at_]) rfl);revert HS HQ HB HV H3 H2 H1;refine cm (hsN) ⟨mm (by simp),nn ne_P_O,⟨nn ne_B_O,nn ne_A_O⟩,nn ne_V_O,nn ne_bw_O,nn ne_bo_O,nn ne_ba_O,trivial⟩ ?_;intro HS HQ HB HV H3 H2 H1;have hC2:=hU.at _ ⟨H1.k 0,H2.k 0⟩;refine hK1 _ _ hC2 ?_;clear hK1 hC1
  generalize ((((((W5.drewN n1).setCell ⟨O,21,none⟩ ((ci x'.state.m))).setCell ⟨O,22,none⟩ ((ci x'.state.s))).setCell ⟨O,23,none⟩ ((.bool x'.state.h))).setCell ⟨O,24,none⟩ ((ci x'.state.f))).setCell ⟨O,25,none⟩ ((cu x'.state.e)))=u2 at *;clear hsN;refine ao S hU [11,12,13] 66 1 hC2 ?_;constructor
  ·intro W' hW';simp only[pick,List.filterMap,gq1,gq2,gq3];obtain⟨q0,q1⟩:=hW'
   repeat (go_big_quiet_step (fail))
   exact wpQuiet_nil rfl
  refine az S hU 14 0 rfl hC2 fun n2 K1 hK1=>?_;have hfz:=(HR.o.drewN n2).free;have hcw:=(HR.o.drewN n2).k 16;go_wp2_with fail;clear hfz hcw;replace HR:=qh (((HR.o.drewN n2).set 16 (ci x'.err)).to (cs':=#[pt V,.pointer (some ⟨Y,i*3,none⟩),ci i,ci kd,ci tp,ci sb,ci cp,ci rk,ci sr,ci mo,ci fl,.bool fb,se,wy,.func (.func 101) #[] #[pt ba,pt bo,pt bw],.bool en,ci x'.err,ci su,cu ge,ci cn,cu lo,(ci x'.state.m),(ci x'.state.s),(.bool x'.state.h),(ci x'.state.f),(cu x'.state.e),gv,av,ci st,ci at_]) rfl);revert HS HQ HB HV H3 H2 H1;refine cm (sst u2 n2 O 16 (ci x'.err)) ⟨mm (by simp),nn ne_P_O,⟨nn ne_B_O,nn ne_A_O⟩,nn ne_V_O,nn ne_bw_O,nn ne_bo_O,nn ne_ba_O,trivial⟩ ?_;intro HS HQ HB HV H3 H2 H1;have hC3:=hU.at _ ⟨H1.k 0,H2.k 0⟩;refine hK1 _ _ hC3 ?_;clear hK1 hC2;generalize ((u2.drewN n2).setCell ⟨O,16,none⟩ (ci x'.err))=u3 at *;refine dd fun n9=>?_;revert HR HS HQ HB HV H3 H2 H1
  refine cq (sdw u3 n9) ?_;intro HR HS HQ HB HV H3 H2 H1;clear S hU hC3;generalize u3.drewN n9=wa at *;go_wp2_with fail;revert HR;revert H1;revert H2;revert H3;revert HV;revert HB;revert HQ;revert HS
  refine cq (sdz wa) ?_;intro HS HQ HB HV H3 H2 H1 HR;have hU:UD (fun W=>W.cell? (ae ba 0)=some (pt P)∧W.cell? (ae bo 0)=some (pt O)):=al fun W n h=>h;have hC0:=hU.at _ ⟨H1.k 0,H2.k 0⟩;refine dw aj hU hC0 ?_;intro S;generalize wa.drew=u0 at *;refine ao S hU [0,1] 66 4 hC0 ?_;constructor
  ·intro W' hW';simp only[pick,List.filterMap,gq1,gq2,gq3];obtain⟨q0,q1⟩:=hW'
   repeat (go_big_quiet_step (fail))
   exact wpQuiet_nil rfl
  refine az S hU 2 3 rfl hC0 fun n0 K1 hK1=>?_;go_wp2_with fail;refine(c6x (u0.drewN n0) P x' (HQ.o.drewN n0)).mono ?_;rintro e w_ ⟨rfl,rfl⟩;go_wp2_with fail;revert HS HQ HB HV H3 H2 H1 HR;refine cq (sdw u0 n0) ?_;intro HS HQ HB HV H3 H2 H1 HR;have hC1:=hU.at _ ⟨H1.k 0,H2.k 0⟩;refine hK1 _ _ hC1 ?_;clear hK1 hC0;generalize (u0.drewN n0)=v1 at *;refine ao S hU [3,4] 66 1 hC1 ?_;constructor
  ·intro W' hW';simp only[pick,List.filterMap,gq1,gq2,gq3];obtain⟨q0,q1⟩:=hW'
   repeat (go_big_quiet_step (fail))
   exact wpQuiet_nil rfl
  refine az S hU 5 0 rfl hC1 fun n1 K1 hK1=>?_;have hfz:=(HR.o.drewN n1).free;have hcw:=(HR.o.drewN n1).k 29;go_wp2_with fail;clear hfz hcw;replace HR:=qh (((HR.o.drewN n1).set 29 (ci x'.eff)).to (cs':=#[pt V,.pointer (some ⟨Y,i*3,none⟩),ci i,ci kd,ci tp,ci sb,ci cp,ci rk,ci sr,ci mo,ci fl,.bool fb,se,wy,.func (.func 101) #[] #[pt ba,pt bo,pt bw],.bool en,ci x'.err,ci su,cu ge,ci cn,cu lo,(ci x'.state.m),(ci x'.state.s),(.bool x'.state.h),(ci x'.state.f),(cu x'.state.e),gv,av,ci st,ci x'.eff]) rfl);revert HS HQ HB HV H3 H2 H1;refine cm (sst v1 n1 O 29 (ci x'.eff)) ⟨mm (by simp),nn ne_P_O,⟨nn ne_B_O,nn ne_A_O⟩,nn ne_V_O,nn ne_bw_O,nn ne_bo_O,nn ne_ba_O,trivial⟩ ?_;intro HS HQ HB HV H3 H2 H1;have hC2:=hU.at _ ⟨H1.k 0,H2.k 0⟩;refine hK1 _ _ hC2 ?_;clear hK1 hC1;generalize ((v1.drewN n1).setCell ⟨O,29,none⟩ (ci x'.eff))=u2 at *;refine dd fun n9=>?_;revert HR HS HQ HB HV H3 H2 H1
  refine cq (sdw u2 n9) ?_;intro HR HS HQ HB HV H3 H2 H1;clear S hU hC2;generalize u2.drewN n9=wb at *;have d3:=H3.k 0;have d2:=H2.k 0;have d16:=HR.k 16;cases wr
  ·clear HV;go_wp2_with fail;go_ret;exact⟨c,x',ws',HQP.o,HB.o,HS.o,HQ.o,Or.inr (Or.inl ⟨c0,rfl,HR.o⟩)⟩
  ·by_cases er0:x'.err=0
   ·have t1:(x'.err==0)=true:=beq_iff_eq.2 er0;go_wp2_with fail;clear d2 d3 d16;have lt_B:B<wb.heap.size:=by obtain⟨kb,hkb⟩:=HB.o.hd;exact hkb.lt
    have lt_A:A<wb.heap.size:=HB.o.wd.lt;have HSW:=qh HS.o.size;have lt_O:O<wb.heap.size:=HR.o.lt;have lt_bo:bo<wb.heap.size:=H2.o.lt;have lt_V:V<wb.heap.size:=HV.o.lt;have lt_P:P<wb.heap.size:=HQ.o.lt;have HBL:=qh (brf wb);revert HR;revert H2;revert HV;revert HB;revert HQ;revert HS;revert HBL
    refine cq (sdz wb) ?_;intro HBL HS HQ HB HV H2 HR
    have hU:Ups (fun W W'=>∃g:ag W,W'=g.to) (fun W=>Below wb.heap.size wb W∧W.cell? (ae bo 0)=some (pt O)∧W.cell? (ae O 0)=some (pt V)∧W.cell? (ae O 21)=some ((ci x'.state.m))∧W.cell? (ae O 22)=some ((ci x'.state.s))∧W.cell? (ae O 23)=some ((.bool x'.state.h))∧W.cell? (ae O 24)=some ((ci x'.state.f))∧W.cell? (ae O 25)=some ((cu x'.state.e))∧W.cell? (ae V 4)=some (ci 0)∧W.cell? (ae V 5)=some (ci 1)∧W.cell? (ae V 6)=some (ci lg)∧W.cell? (ae V 7)=some (zl G k gk)∧W.cell? (ae V 8)=some (ci sz)):=dj fun h hb=>⟨bt h.1 hb,ak h.2.1 hb,ak h.2.2.1 hb,ak h.2.2.2.1 hb,ak h.2.2.2.2.1 hb,ak h.2.2.2.2.2.1 hb,ak h.2.2.2.2.2.2.1 hb,ak h.2.2.2.2.2.2.2.1 hb,ak h.2.2.2.2.2.2.2.2.1 hb,ak h.2.2.2.2.2.2.2.2.2.1 hb,ak h.2.2.2.2.2.2.2.2.2.2.1 hb,ak h.2.2.2.2.2.2.2.2.2.2.2.1 hb,ak h.2.2.2.2.2.2.2.2.2.2.2.2 hb⟩
    have hC0:=hU.at _ ⟨HBL.o,H2.k 0,HR.k 0,HR.k 21,HR.k 22,HR.k 23,HR.k 24,HR.k 25,HV.k 4,HV.k 5,HV.k 6,HV.k 7,HV.k 8⟩;refine tx 16 (some 4) wb 190 #[.pointer none] hU hC0 ?_ ?_
    ·intro K a W hCW hK;unfold wpOp;go_simp;exact Or.inl (hK _ _ (af (Below.refl _ W) _) ⟨hCW.1.size,Row.new W 190 _⟩)
    intro S;generalize wb.drew=u0 at *;refine ao S hU [0,1,2,3,4,5,6,7,8,9,10,11] 66 7 hC0 ?_;constructor
    ·intro W' hW';simp only[pick,List.filterMap,gq1,gq2,gq3];obtain⟨-,q0,q1,q2,q3,q4,q5,q6,q7,q8,q9,q10,q11⟩:=hW';have q0:=ln q0;have q1:=ln q1;have q2:=ln q2;have q3:=ln q3;have q4:=ln q4;have q5:=ln q5;have q6:=ln q6;have q7:=ln q7;have q8:=ln q8;have q9:=ln q9;have q10:=ln q10;have q11:=ln q11
     repeat (go_big_quiet_step (fail))
     exact wpQuiet_nil rfl
    refine b0g S hU 12 6 rfl fun W1 hbW K1 hK1=>?_;revert HBL HS HQ HB HV H2 HR;refine cq (sbb hbW) ?_;intro HBL HS HQ HB HV H2 HR;clear hbW;go_wp2_with fail;refine(b8j ⟨0,1,lg,zl G k gk,sz⟩ hl1 hl2 (show 1≤1048576 by omega) x'.state W1).mono ?_;rintro e W6 ⟨pv,er,rfl,hb,hor⟩;have hW1s:=HS.o.size;obtain⟨pa,rfl⟩:∃pa,pv=.pointer pa:=by rcases hor with ⟨_,h⟩|⟨_,P2,wd,h,_⟩<;>exact⟨_,h⟩
    obtain⟨P2,t2,cs2,hrw,ht2,hor2⟩:∃(b:Nat)(t:TypeId)(cs:Array Value),Row W6 b t cs∧t≠190∧(er=0→pa=some ⟨b,0,none⟩∧t=248∧W1.heap.size≤b∧∃wd,cs=LOp.cells ⟨⟨0,1,lg,zl G k gk,sz⟩,x'.state,wd,0⟩):=by
     rcases hor with ⟨h,_⟩|⟨_,P2,wd,h,h2,h3⟩
     ·exact⟨O,122,_,HR.o.bel hb,by decide,fun h0=>absurd h0 h⟩
     ·exact⟨P2,248,_,h3,by decide,fun _=>⟨by cases h;rfl,rfl,h2,wd,rfl⟩⟩
    have HOR:=qh hor2;clear hor hor2;go_wp2_with fail;have HRW:=qh hrw;revert HBL HS HQ HB HV H2 HR;refine cq (sbb hb) ?_;intro HBL HS HQ HB HV H2 HR;have hC1:=hU.at _ ⟨HBL.o,H2.k 0,HR.k 0,HR.k 21,HR.k 22,HR.k 23,HR.k 24,HR.k 25,HV.k 4,HV.k 5,HV.k 6,HV.k 7,HV.k 8⟩;refine hK1 _ _ hC1 (fun _ p hp=>⟨hp.1,hp.2.bel hb⟩) ?_;clear hK1 hC0;clear hb hrw;refine ao S hU [13,14,15] 66 3 hC1 ?_;constructor
    ·intro W' hW';simp only[pick,List.filterMap,gq1,gq2,gq3];obtain⟨-,q0,q1,q2,q3,q4,q5,q6,q7,q8,q9,q10,q11⟩:=hW';have q0:=ln q0;have q1:=ln q1;have q2:=ln q2;have q3:=ln q3;have q4:=ln q4;have q5:=ln q5;have q6:=ln q6;have q7:=ln q7;have q8:=ln q8;have q9:=ln q9;have q10:=ln q10;have q11:=ln q11
     repeat (go_big_quiet_step (fail))
     exact wpQuiet_nil rfl
    refine ip hU 2 _ _ _ (by kernel_rfl) hC1 (fun pl W5 hr hc hp=>?_);have hbW:=a7 hr;clear hr;have lo_pl:=hp.1;have HN:=qh (hp.2);revert HRW HBL HS HQ HB HV H2 HR;refine cq (sbb hbW) ?_;intro HRW HBL HS HQ HB HV H2 HR;clear hc hp hbW hC1;have hC2:=hU.at _ ⟨HBL.o,H2.k 0,HR.k 0,HR.k 21,HR.k 22,HR.k 23,HR.k 24,HR.k 25,HV.k 4,HV.k 5,HV.k 6,HV.k 7,HV.k 8⟩;have lo_pl2:w.heap.size≤pl:=nlt HSW.o lo_pl;have ne_P2_pl:P2≠pl:=HRW.o.ne HN.o ht2;have ne_O_pl:O≠pl:=by have:=lt_O;omega
    have ne_bo_pl:bo≠pl:=by have:=lt_bo;omega
    have ne_V_pl:V≠pl:=by have:=lt_V;omega
    have ne_P_pl:P≠pl:=by have:=lt_P;omega
    have ne_B_pl:B≠pl:=by have:=lt_B;omega
    have ne_A_pl:A≠pl:=by have:=lt_A;omega
    refine re S hU 17 1 rfl hC2 fun W1 hbW K1 hK1=>?_;revert HN HRW HBL HS HQ HB HV H2 HR;refine cq (sbb hbW) ?_;intro HN HRW HBL HS HQ HB HV H2 HR;clear hbW;have hfz:=HN.o.free;have hcw:=HN.k 0;go_wp2_with fail;clear hfz hcw;replace HN:=qh ((HN.o.set 0 (.pointer pa)).to (cs':=#[.pointer pa]) rfl);revert HRW HBL HQ HB HV H2 HR;refine cm (sk W1 pl 0 (.pointer pa)) ⟨nn ne_P2_pl,mn lo_pl,nn ne_P_pl,⟨nn ne_B_pl,nn ne_A_pl⟩,nn ne_V_pl,nn ne_bo_pl,nn ne_O_pl,trivial⟩ ?_;intro HRW HBL HQ HB HV H2 HR;revert HS;refine cm (sk W1 pl 0 (.pointer pa)) ⟨(fun y hy h=>by simp only[List.mem_singleton] at hy;subst hy;exact absurd h (by omega)),trivial⟩ ?_;intro HS;have hC3:=hU.at _ ⟨HBL.o,H2.k 0,HR.k 0,HR.k 21,HR.k 22,HR.k 23,HR.k 24,HR.k 25,HV.k 4,HV.k 5,HV.k 6,HV.k 7,HV.k 8⟩;refine hK1 _ _ hC3  ?_;clear hK1 hC2;generalize (W1.setCell ⟨pl,0,none⟩ (.pointer pa))=v3 at *
    refine ao S hU [18] 66 0 hC3 ?_;constructor
    ·intro W' hW';simp only[pick,List.filterMap,gq1,gq2,gq3];obtain⟨-,q0,q1,q2,q3,q4,q5,q6,q7,q8,q9,q10,q11⟩:=hW';have q0:=ln q0;have q1:=ln q1;have q2:=ln q2;have q3:=ln q3;have q4:=ln q4;have q5:=ln q5;have q6:=ln q6;have q7:=ln q7;have q8:=ln q8;have q9:=ln q9;have q10:=ln q10;have q11:=ln q11
     repeat (go_big_quiet_step (fail))
     exact wpQuiet_nil rfl
    refine rh fun wc hb9=>?_;revert HN HRW HBL HQ HB HV H2 HR HS;refine cq (sbb hb9) ?_;intro HN HRW HBL HQ HB HV H2 HR HS;clear S hU hC3 hb9;by_cases er1:er=0
    ·subst er1;obtain⟨hpa,rfl,hP2,wd2,rfl⟩:=HOR.o rfl;subst hpa;clear HOR;have d2:=H2.k 0;have hfz:=HR.o.free;have hcw:=HR.k 14;have ne_pl_O:=ne_O_pl.symm;have ne_P2_O:=HRW.o.ne HR.o (by decide);have HR2:=qh ((HR.o.set 14 (.func (.func 106) #[] #[pt pl,pt bo])).to (cs':=#[pt V,.pointer (some ⟨Y,i*3,none⟩),ci i,ci kd,ci tp,ci sb,ci cp,ci rk,ci sr,ci mo,ci fl,.bool fb,se,wy,(.func (.func 106) #[] #[pt pl,pt bo]),.bool en,ci x'.err,ci su,cu ge,ci cn,cu lo,(ci x'.state.m),(ci x'.state.s),(.bool x'.state.h),(ci x'.state.f),(cu x'.state.e),gv,av,ci st,ci x'.eff]) rfl);have HS2:=qh (HS.o.sc O 14 (.func (.func 106) #[] #[pt pl,pt bo]));have HB2:=qh (HB.o.same (sj O 14 (.func (.func 106) #[] #[pt pl,pt bo])) (nn ne_B_O) (nn ne_A_O));have HQ2:=qh (HQ.o.ot ne_P_O 14 (.func (.func 106) #[] #[pt pl,pt bo]));have HN2:=qh (HN.o.ot ne_pl_O 14 (.func (.func 106) #[] #[pt pl,pt bo]))
     have HRW2:=qh (HRW.o.ot ne_P2_O 14 (.func (.func 106) #[] #[pt pl,pt bo]));clear HR HS HB HQ HN HRW;go_wp2_with fail;go_ret;exact⟨c,x',ws',HQP.o,HB2.o,HS2.o,HQ2.o,Or.inr (Or.inr ⟨c0,rfl,er0,by unfold Logs;exact⟨pl,P2,wd2,lo_pl2,nlt hW1s hP2,HN2.o,HRW2.o,HR2.o⟩⟩)⟩
    ·have t2:(er==0)=false:=bfn.2 er1;go_wp2_with fail;go_ret;exact⟨c,x',ws',HQP.o,HB.o,HS.o,HQ.o,Or.inr (Or.inl ⟨c0,rfl,HR.o⟩)⟩
   ·have t1:(x'.err==0)=false:=bfn.2 er0;go_wp2_with fail;go_ret;exact⟨c,x',ws',HQP.o,HB.o,HS.o,HQ.o,Or.inr (Or.inl ⟨c0,rfl,HR.o⟩)⟩
theorem c6z(w:World)(O V i bl bo P A:Nat)(v:dg)(o:OpC)(x:LOp)(ws:List Nat)(hr:Row w O 122 (o.cells V v.Y i))(h1:Row w bl 190 #[pt P])(h2:Row w bo 95 #[pt O])(hv:Row w V 92 v.cells)(hb:bv w v.B A ws)(hq:Row w P 248 x.cells)(hl1:1≤x.p.long)(hl2:x.p.long≤64)(hl3:x.p.log≤1048576)(hl:x.p.log+x.p.long≤ws.length)(h0:x.how=0):Calls Tryz.prog 106 #[pt bl,pt bo] w fun e w'=>e=.returned (.bool true)∧ab [v.B,A,P] w w'∧(∃j,j<x.p.long∧bv w' v.B A (ws.set (x.p.log+j) x.word))∧Row w' O 122 (o.cells V v.Y i):=by
 obtain⟨kd,tp,sb,cp,rk,sr,mo,fl,fb,se,wy,nx,en,co,su,ge,cn,lo,⟨zm,zs,zh,zf,ze⟩,gv,av,st,at_⟩:=o;obtain⟨T,tr,lg,tv,G,k,gk,sz,B,Y,yk⟩:=v;simp only[OpC.cells,dg.cells] at *;obtain⟨kb,hkb⟩:=hb.hd;have hP:P≠B∧P≠A:=⟨hq.ne hkb (by decide),hq.ne hb.wd (by decide)⟩
 have n3:∀b t cs,Row w b t cs→t≠119→t≠41→t≠248→b∉[B,A,P]:=fun b t cs h g1 g2 g3=>by
  simp only[List.mem_cons,List.not_mem_nil,or_false,not_or];exact⟨h.ne hkb g1,h.ne hb.wd g2,h.ne hq g3⟩
 have nb_O:=n3 _ _ _ hr (by decide) (by decide) (by decide);have nb_bl:=n3 _ _ _ h1 (by decide) (by decide) (by decide);have nb_bo:=n3 _ _ _ h2 (by decide) (by decide) (by decide);have nb_V:=n3 _ _ _ hv (by decide) (by decide) (by decide);have HR:=qh hr;have H1:=qh h1;have H2:=qh h2;have HV:=qh hv;have HB:=qh hb;have HQ:=qh hq;have HS:=qh (ab.refl [B,A,P] w);clear hr h1 h2 hv hb hq hkb n3
 go_enter Tryz.func106,Tryz.ntmps106
 go_wp2_with fail;revert HR;revert H1;revert H2;revert HV;revert HB;revert HQ;revert HS
 refine cq (sdz w) ?_;intro HS HQ HB HV H2 H1 HR;have hU:UD (fun W=>W.cell? (ae bl 0)=some (pt P)∧W.cell? (ae bo 0)=some (pt O)∧W.cell? (ae O 0)=some (pt V)∧W.cell? (ae V 9)=some (pt B)):=al fun W n h=>h;have hC0:=hU.at _ ⟨H1.k 0,H2.k 0,HR.k 0,HV.k 9⟩;refine dw aj hU hC0 ?_;intro S;generalize w.drew=u0 at *;refine ao S hU [0,1,2,3,4,5,6,7] 12 1 hC0 ?_;constructor
 ·intro W' hW';simp only[pick,List.filterMap,gq1,gq2,gq3];obtain⟨q0,q1,q2,q3⟩:=hW'
  repeat (go_big_quiet_step (fail))
  exact wpQuiet_nil rfl
 refine az S hU 8 0 rfl hC0 fun n0 K1 hK1=>?_;go_wp2_with fail;refine(c1l (u0.drewN n0) P B A ws x (HB.o.d0 n0) hl1 hl2 hl3 hl hP h0 (HQ.o.drewN n0)).mono ?_;rintro e W4 ⟨rfl,hs4,⟨j,hj,hb4⟩,hq4⟩;go_wp2_with fail;replace HB:=qh hb4;replace HQ:=qh hq4;revert HS HV H2 H1 HR;refine cm (ssm hs4) ⟨(fun y hy _=>by simp at hy ⊢;first|omega|simp[hy]),nb_V,nb_bo,nb_bl,nb_O,trivial⟩ ?_;intro HS HV H2 H1 HR;have hC1:=hU.at _ ⟨H1.k 0,H2.k 0,HR.k 0,HV.k 9⟩;refine hK1 _ _ hC1 ?_;clear hK1 hC0;clear hs4 hb4 hq4;refine dd fun n9=>?_;revert HB HQ HS HV H2 H1 HR;refine cq (sdw W4 n9) ?_;intro HB HQ HS HV H2 H1 HR;clear S hU hC1;generalize W4.drewN n9=w9 at *;go_wp2_with fail;go_ret;exact⟨rfl,HS.o,⟨j,hj,HB.o⟩,HR.o⟩
theorem ma(w:World)(O V i:Nat)(v:dg)(o:OpC)(n:Int)(hr:Row w O 122 (o.cells V v.Y i))(hv:Row w V 92 v.cells):Calls Tryz.prog 48 #[pt O,ci n] w fun e w'=>e=.returned (.bool (decide (0≤n∧n<v.k)))∧w=w':=by
 have c0:w.cell? (ae O 0)=some (pt V):=hr.k 0;have c1:w.cell? (ae V 7)=some (zl v.G v.k v.gk):=hv.k 7;clear hr hv;by_cases h:0≤n
 ·have h':decide (0≤n)=true:=dqt h
  go_enter Tryz.func48,Tryz.ntmps48
  go_wp2;go_ret;exact⟨bq (by simp[h]),rfl⟩
 ·have h':decide (0≤n)=false:=dqf h
  go_enter Tryz.func48,Tryz.ntmps48
  go_wp2;go_ret;exact⟨bq (by simp),rfl⟩
def oe(W:World)(T:Nat→Prop)(O:Nat)(er:Int)(fv:Value):Prop:=
 ∃be bo,fv=.func (.func 61) #[] #[pt be,pt bo]∧T be∧T bo∧Row W be 40 #[ci er]∧Row W bo 95 #[pt O]
def RefF(W:World)(T:Nat→Prop)(O:Nat)(fv:Value):Prop:=∃er,(js er∧er≠0)∧oe W T O er fv
def ul(W:World)(T:Nat→Prop)(O:Nat)(fv:Value):Prop:=
 ∃ba bo bp,fv=.func (.func 116) #[] #[pt ba,pt bo]∧T ba∧T bo∧T bp∧Row W ba 107 #[.func (.func 63) #[] #[pt bp]]∧Row W bo 95 #[pt O]∧Row W bp 95 #[pt O]
def c7a(b:Bool)(W:World)(T:Nat→Prop)(O:Nat)(fv:Value):Prop:=(b=true∧oe W T O 15 fv)∨(b=false∧ul W T O fv)
def ki(W:World)(T:Nat→Prop)(O ty P fd:Nat)(dc:Array Value)(fv:Value):Prop:=
 ∃bm bo bd,fv=.func (.func 120) #[] #[pt bm,pt bo,pt bd]∧T bm∧T bo∧T bd∧T P∧Row W bm 212 #[.iface ty (pt P)]∧Row W bo 95 #[pt O]∧Row W bd 1 #[.func (.func fd) #[] dc]
theorem d1c(w:World)(O V i M nm:Nat)(v:dg)(o:OpC)(t:Nat)(ows:List Own)(ow:Own)(fm:Lit→Option Value)(hr:Row w O 122 (o.cells V v.Y i))(hto:o.topic=t)(htl:t≤1000)(hy:f7 w v.Y ows)(hi:ows[i]?=some ow)(hmo:ow.m=M)(hm:a8 Tryz.prog 3 w M nm fm):Calls Tryz.prog 49 #[pt O] w fun e w'=>∃fv k,e=.returned (.tuple #[fv,ci k])∧Below w.heap.size w w'∧c7a (fm (ig t)).isSome w' (fun b=>w.heap.size≤b) O fv:=by
 obtain⟨kd,tp,sb,cp,rk,sr,mo,fl,fb,se,wy,nx,en,co,su,ge,cn,lo,⟨zm,zs,zh,zf,ze⟩,gv,av,st,at_⟩:=o;obtain⟨T,tr,lg,tv,G,k,gk,sz,B,Y,yk⟩:=v;simp only at hto;subst hto;have htw:(Lit.int .i64 (t:Int)).wf=true:=ux (by omega) (by omega);simp only[OpC.cells] at *;have HB:=qh (brf w);have H2:=qh (Row.new w 95 #[pt O]);have HR:=qh hr;have HY:=qh hy;have HM:=qh hm;revert HB;revert HR;revert HY;revert HM
 refine cq (sa1 w (.cells #[pt O] 95)) ?_;intro HM HY HR HB;have HI:=qh hi;clear hr hy hm hi
 go_enter Tryz.func49,Tryz.ntmps49
 go_wp2_with fail;generalize hbo':w.heap.size=bo at H2 ⊢;have hbo:w.heap.size≤bo:=by omega
 generalize w.alloc (.cells #[pt O] 95)=w1 at *;cases hf:fm (ig (t:Int))
 ·have HBz:=qh (below_drewN HB.o 1);have hd1:w1.drewN 1=w1.drew:=rfl;rw[hd1] at HBz;clear hd1 HB;revert HR;revert H2;revert HY;revert HM
  refine cq (sdz w1) ?_;intro HM HY H2 HR;have hU:UD (fun W=>W.cell? (ae bo 0)=some (pt O)∧W.cell? (ae O 1)=some (.pointer (some ⟨Y,i*3,none⟩))∧W.cell? (ae O 4)=some (ci (t:Int))∧W.cell? (ae Y (i*3))=some (.map (some M))∧a8 Tryz.prog 3 W M nm fm):=al fun W n h=>⟨h.1,h.2.1,h.2.2.1,h.2.2.2.1,h.2.2.2.2.drewN n⟩;have hC0:=hU.at _ ⟨H2.k 0,HR.k 1,HR.k 4,by rw[←hmo];exact(f7.c HY.o HI.o).1,HM.o⟩;refine dw aj hU hC0 ?_;intro S;generalize w1.drew=u0 at *;refine ao S hU [0,1,2,3,4,5,6,7,8,9,10,11,12,13,14,15,16,17] 32 0 hC0 ?_;constructor
  ·intro W' hW';simp only[pick,List.filterMap,gq1,gq2,gq3];obtain⟨q0,q1,q2,q3,q4⟩:=hW';have el:=fun (m:Nat)=>by have h:=(q4.drewN m).look_ok (t:=93) (Maps.int_keyed Tryz.underlying3) Tryz.underlying93 (z:=ci 0) rfl (jd (t:Int) htw);rw[hf] at h;exact h
   simp only[Option.isSome_none,Option.getD_none] at el
   repeat (go_big_quiet_step (fail))
   exact wpQuiet_nil rfl
  refine dd fun n9=>?_;revert HM HY H2 HR;refine cq (sdw u0 n9) ?_;intro HM HY H2 HR;clear S hU hC0;have HB:=qh (below_drewN HBz.o n9);clear HBz;generalize u0.drewN n9=w2 at *;have co:=H2.k 0
  go_wp2_with (first|(go_at_call 62;refine(b5n _ _ 63 #[pt bo]).mono ?_;rintro e w_ ⟨rfl,hb,hr1,hr2⟩))
  go_ret2
  exact⟨_,1,rfl,bt HB.o hb,Or.inr ⟨by rw[hf];rfl,_,_,bo,rfl,nlt HB.o.size (Nat.le_succ _),HB.o.size,hbo,hr2,hr1,H2.o.bel hb⟩⟩
 ·have HBz:=qh (below_drewN HB.o 1);have hd1:w1.drewN 1=w1.drew:=rfl;rw[hd1] at HBz;clear hd1 HB;revert HR;revert H2;revert HY;revert HM
  refine cq (sdz w1) ?_;intro HM HY H2 HR;have hU:UD (fun W=>W.cell? (ae bo 0)=some (pt O)∧W.cell? (ae O 1)=some (.pointer (some ⟨Y,i*3,none⟩))∧W.cell? (ae O 4)=some (ci (t:Int))∧W.cell? (ae Y (i*3))=some (.map (some M))∧a8 Tryz.prog 3 W M nm fm):=al fun W n h=>⟨h.1,h.2.1,h.2.2.1,h.2.2.2.1,h.2.2.2.2.drewN n⟩;have hC0:=hU.at _ ⟨H2.k 0,HR.k 1,HR.k 4,by rw[←hmo];exact(f7.c HY.o HI.o).1,HM.o⟩;refine dw aj hU hC0 ?_;intro S;generalize w1.drew=u0 at *;refine ao S hU [0,1,2,3,4,5,6,7,8,9,10,11,12,13,14,15,16,17] 32 0 hC0 ?_;constructor
  ·intro W' hW';simp only[pick,List.filterMap,gq1,gq2,gq3];obtain⟨q0,q1,q2,q3,q4⟩:=hW';have el:=fun (m:Nat)=>by have h:=(q4.drewN m).look_ok (t:=93) (Maps.int_keyed Tryz.underlying3) Tryz.underlying93 (z:=ci 0) rfl (jd (t:Int) htw);rw[hf] at h;exact h
   simp only[Option.isSome_some,Option.getD_some] at el
   repeat (go_big_quiet_step (fail))
   exact wpQuiet_nil rfl
  refine dd fun n9=>?_;revert HM HY H2 HR;refine cq (sdw u0 n9) ?_;intro HM HY H2 HR;clear S hU hC0;have HB:=qh (below_drewN HBz.o n9);clear HBz;generalize u0.drewN n9=w2 at *;have co:=H2.k 0
  go_wp2_with (first|(go_at_call 47;refine(fy _ _ _).mono ?_;rintro e w_ ⟨rfl,hb,hr1,hr2⟩))
  go_ret2
  exact⟨_,1,rfl,bt HB.o hb,Or.inl ⟨by rw[hf];rfl,_,_,rfl,nlt HB.o.size (Nat.le_succ _),HB.o.size,hr2,hr1⟩⟩
end Go.Proofs.YtojkaibpfdhmaaaGreatDoor

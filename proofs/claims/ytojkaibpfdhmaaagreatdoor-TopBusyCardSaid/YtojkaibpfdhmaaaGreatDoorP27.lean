/- How a Request, a Health and a Mode begin. -/
import Derived.Test.YtojkaibpfdhmaaaGreatDoorP16
import Derived.Test.YtojkaibpfdhmaaaGreatDoorP25
namespace Go.Proofs.YtojkaibpfdhmaaaGreatDoor
open Go.RowKit
set_option maxRecDepth 100000
set_option maxHeartbeats 16000000
def zu(T:Nat→Prop)(W:World)(v:Value):Prop:=v=.nilFunc∨(∃(b:Nat)(a:Ask),T b∧v=.func (.func 144) #[] #[pt b]∧Row W b 185 a.cells)∨∃(b:Nat)(fl:Int),T b∧v=.func (.func 146) #[] #[pt b]∧Row W b 3 #[ci fl]
theorem zu.dec{T:Nat→Prop}{W:World}{v:Value}(h:zu T W v):Dec W v:=by
 rcases h with h|⟨b,a,_,h1,h2⟩|⟨b,fl,_,h1,h2⟩
 ·exact Or.inl h
 ·exact Or.inr (Or.inl ⟨b,a,h1,h2⟩)
 ·exact Or.inr (Or.inr ⟨b,fl,h1,h2⟩)
def zv(W:World)(T:Nat→Prop)(O:Nat)(wr:Bool)(x:AOp)(fv:Value):Prop:=
 ∃P ba bo bw,fv=.func (.func 101) #[] #[pt ba,pt bo,pt bw]∧T P∧T ba∧T bo∧T bw∧Row W ba 180 #[pt P]∧Row W bo 95 #[pt O]∧Row W bw 4 #[.bool wr]∧Row W P 239 x.cells∧zu T W x.dec
def ub(md:Bool)(tr:Nat)(W:World)(T:Nat→Prop)(O:Nat)(fv:Value):Prop:=RefF W T O fv∨∃dec,zv W T O (!md) ⟨0,if md then 0 else tr,dec,false,0,St.zero,0,St.zero,0,0⟩ fv∧(md=true→dec=.nilFunc)
theorem b5i(n t:Nat)(qs qm:Int)(qf:Bool)(h1:1≤t)(h2:t≤16)(h3:0≤qs∧qs<4)(h4:0≤qm∧qm<8)(w:World):Calls Tryz.prog 99 #[ci n,.agg #[ci qs,ci qm,.bool qf],ci t] w fun e w'=>∃P,e=.returned (.tuple #[pt P,ci 0])∧Below w.heap.size w w'∧w.heap.size≤P∧∃b,w.heap.size≤b∧Row w' b 185 #[ci qs,ci qm,.bool qf]∧Row w' P 239 (AOp.cells ⟨n,t,.func (.func 144) #[] #[pt b],false,0,St.zero,0,St.zero,0,0⟩):=by
 have hm:=xj t h1 h2;obtain⟨a1,a2⟩:=h3;obtain⟨a3,a4⟩:=h4;have R0:=qh (Row.new w 185 #[ci qs,ci qm,.bool qf])
 go_enter Tryz.func99,Tryz.ntmps99
 go_wp2_with (first|(go_at_call 143;refine(hm _).mono ?_;rintro e w_ ⟨rfl,rfl⟩))
 go_ret2
 have hz:(w.alloc (.cells #[ci qs,ci qm,.bool qf] 185)).heap.size=w.heap.size+1:=by simp
 refine⟨w.heap.size+1,rfl,af (af (Below.refl _ w) _) _,by omega,w.heap.size,nlr _,R0.o.alloc _,?_⟩;have:=Row.new (w.alloc (.cells #[ci qs,ci qm,.bool qf] 185)) 239 (AOp.cells ⟨n,t,.func (.func 144) #[] #[pt w.heap.size],false,0,St.zero,0,St.zero,0,0⟩);rw[hz] at this;exact this
theorem b5j(n t:Nat)(fl:Int)(h1:1≤t)(h2:t≤16)(h3:0≤fl∧fl≤63)(w:World):Calls Tryz.prog 100 #[ci n,ci fl,ci t] w fun e w'=>∃P,e=.returned (.tuple #[pt P,ci 0])∧Below w.heap.size w w'∧w.heap.size≤P∧∃b,w.heap.size≤b∧Row w' b 3 #[ci fl]∧Row w' P 239 (AOp.cells ⟨n,t,.func (.func 146) #[] #[pt b],false,0,St.zero,0,St.zero,0,0⟩):=by
 have hm:=xj t h1 h2;obtain⟨a1,a2⟩:=h3;have R0:=qh (Row.new w 3 #[ci fl])
 go_enter Tryz.func100,Tryz.ntmps100
 go_wp2_with (first|(go_at_call 143;refine(hm _).mono ?_;rintro e w_ ⟨rfl,rfl⟩))
 go_ret2
 have hz:(w.alloc (.cells #[ci fl] 3)).heap.size=w.heap.size+1:=by simp
 refine⟨w.heap.size+1,rfl,af (af (Below.refl _ w) _) _,by omega,w.heap.size,nlr _,R0.o.alloc _,?_⟩;have:=Row.new (w.alloc (.cells #[ci fl] 3)) 239 (AOp.cells ⟨n,t,.func (.func 146) #[] #[pt w.heap.size],false,0,St.zero,0,St.zero,0,0⟩);rw[hz] at this;exact this
theorem b1h(n t:Nat)(qs qm:Int)(qf:Bool)(h1:1≤t)(h2:t≤16)(h3:¬ ((0≤qs∧qs<4)∧(0≤qm∧qm<8)))(w:World):Calls Tryz.prog 99 #[ci n,.agg #[ci qs,ci qm,.bool qf],ci t] w fun e w'=>e=.returned (.tuple #[.pointer none,ci 10])∧Below w.heap.size w w':=by
 have hm:=xj t h1 h2;have R0:=qh (af (brf w) (.cells #[ci qs,ci qm,.bool qf] 185));by_cases q0:qs<0
 ·have e0:decide (qs<0)=true:=dqt q0
  go_enter Tryz.func99,Tryz.ntmps99
  go_wp2_with (first|(go_at_call 143;refine(hm _).mono ?_;rintro e w_ ⟨rfl,rfl⟩))
  go_ret2
  exact⟨rfl,R0.o⟩
 ·by_cases q1:4≤qs
  ·have e0:decide (qs<0)=false:=dqf q0;have e1:decide (4≤qs)=true:=dqt q1
   go_enter Tryz.func99,Tryz.ntmps99
   go_wp2_with (first|(go_at_call 143;refine(hm _).mono ?_;rintro e w_ ⟨rfl,rfl⟩))
   go_ret2
   exact⟨rfl,R0.o⟩
  ·by_cases q2:qm<0
   ·have e0:decide (qs<0)=false:=dqf q0;have e1:decide (4≤qs)=false:=dqf q1;have e2:decide (qm<0)=true:=dqt q2
    go_enter Tryz.func99,Tryz.ntmps99
    go_wp2_with (first|(go_at_call 143;refine(hm _).mono ?_;rintro e w_ ⟨rfl,rfl⟩))
    go_ret2
    exact⟨rfl,R0.o⟩
   ·have q3:8≤qm:=by omega
    have e0:decide (qs<0)=false:=dqf q0;have e1:decide (4≤qs)=false:=dqf q1;have e2:decide (qm<0)=false:=dqf q2;have e3:decide (8≤qm)=true:=dqt q3
    go_enter Tryz.func99,Tryz.ntmps99
    go_wp2_with (first|(go_at_call 143;refine(hm _).mono ?_;rintro e w_ ⟨rfl,rfl⟩))
    go_ret2
    exact⟨rfl,R0.o⟩
theorem b1i(n t:Nat)(fl:Int)(h1:1≤t)(h2:t≤16)(h3:¬ (0≤fl∧fl≤63))(w:World):Calls Tryz.prog 100 #[ci n,ci fl,ci t] w fun e w'=>e=.returned (.tuple #[.pointer none,ci 10])∧Below w.heap.size w w':=by
 have hm:=xj t h1 h2;have R0:=qh (af (brf w) (.cells #[ci fl] 3));by_cases q0:fl<0
 ·have e0:decide (fl<0)=true:=dqt q0
  go_enter Tryz.func100,Tryz.ntmps100
  go_wp2_with (first|(go_at_call 143;refine(hm _).mono ?_;rintro e w_ ⟨rfl,rfl⟩))
  go_ret2
  exact⟨rfl,R0.o⟩
 ·have q1:63<fl:=by omega
  have e0:decide (fl<0)=false:=dqf q0;have e1:decide (63<fl)=true:=dqt q1
  go_enter Tryz.func100,Tryz.ntmps100
  go_wp2_with (first|(go_at_call 143;refine(hm _).mono ?_;rintro e w_ ⟨rfl,rfl⟩))
  go_ret2
  exact⟨rfl,R0.o⟩
theorem c2b(w:World)(O V i:Nat)(v:dg)(o:OpC)(hr:Row w O 122 (o.cells V v.Y i))(hv:Row w V 92 v.cells)(ht1:1≤v.tr)(ht2:v.tr≤16)(hkd:o.kind=9):Calls Tryz.prog 56 #[pt O] w fun e w'=>∃fv k,e=.returned (.tuple #[fv,ci k])∧Below w.heap.size w w'∧ub true v.tr w' (fun b=>w.heap.size≤b) O fv:=by
 obtain⟨kd,tp,sb,cp,rk,sr,mo,fl,fb,se,wy,nx,en,co,su,ge,cn,lo,⟨zm,zs,zh,zf,ze⟩,gv,av,st,at_⟩:=o;obtain⟨T,tr,lg,tv,G,k,gk,sz,B,Y,yk⟩:=v;simp only at hkd ht1 ht2;subst hkd;simp only[OpC.cells,dg.cells] at *;have hz1:(w.alloc (.cells #[pt O] 95)).heap.size=w.heap.size+1:=by simp
 have hz2:((w.alloc (.cells #[pt O] 95)).alloc (.cells #[.pointer none] 180)).heap.size=w.heap.size+1+1:=by simp
 have rab:=Row.new (w.alloc (.cells #[pt O] 95)) 180 #[.pointer none];rw[hz1] at rab;have rwb:=Row.new ((w.alloc (.cells #[pt O] 95)).alloc (.cells #[.pointer none] 180)) 4 #[.bool true];rw[hz2] at rwb;have H2b:=qh (((Row.new w 95 #[pt O]).alloc (.cells #[.pointer none] 180)).alloc (.cells #[.bool true] 4));have HRb:=qh hr;have HVb:=qh hv;have HAb:=qh (rab.alloc (.cells #[.bool true] 4));have HWb:=qh rwb;have HBb:=qh (brf w);revert HRb;revert HVb;revert HBb
 refine cq (sa3 w (.cells #[pt O] 95) (.cells #[.pointer none] 180) (.cells #[.bool true] 4)) ?_;intro HBb HVb HRb;have cob:=H2b.k 0;have c0b:=HRb.k 0;have c3b:=HRb.k 3;have cvb:=HVb.k 2;have cv4b:=HVb.k 4;clear rab rwb;have ra:=Row.new (w.alloc (.cells #[pt O] 95)) 180 #[.pointer none];rw[hz1] at ra;have rw:=Row.new ((w.alloc (.cells #[pt O] 95)).alloc (.cells #[.pointer none] 180)) 4 #[.bool false];rw[hz2] at rw;have H2:=qh (((Row.new w 95 #[pt O]).alloc (.cells #[.pointer none] 180)).alloc (.cells #[.bool false] 4));have HR:=qh hr;have HV:=qh hv;have HA:=qh (ra.alloc (.cells #[.bool false] 4));have HW:=qh rw;have HB:=qh (brf w);revert HR;revert HV;revert HB
 refine cq (sa3 w (.cells #[pt O] 95) (.cells #[.pointer none] 180) (.cells #[.bool false] 4)) ?_;intro HB HV HR;have co:=H2.k 0;have c0:=HR.k 0;have c3:=HR.k 3;have cv:=HV.k 2;have cv4:=HV.k 4;clear ra rw;clear hr hv hz1 hz2;have hmo:=xo tr ht1 ht2
 go_enter Tryz.func56,Tryz.ntmps56
 go_wp2_with (first|(go_at_call 97;refine(hmo _).mono ?_;rintro e w_ ⟨rfl,rfl⟩))
 clear H2b HRb HVb HAb HWb HBb cob c0b c3b cvb cv4b;clear co c0 c3 cv cv4 hmo;generalize hbw:w.heap.size+1+1=bw at HW ⊢;generalize hba:w.heap.size+1=ba at HA ⊢;generalize hbo:w.heap.size=bo at H2 ⊢;have lo_bo:w.heap.size≤bo:=by omega
 have lo_ba:w.heap.size≤ba:=by omega
 have lo_bw:w.heap.size≤bw:=by omega
 clear hbw hba hbo;generalize ((w.alloc (.cells #[pt O] 95)).alloc (.cells #[.pointer none] 180)).alloc (.cells #[.bool false] 4)=wx at *;have ne_O_ba:=HR.o.ne HA.o (by decide);have ne_bo_ba:=H2.o.ne HA.o (by decide);have ne_V_ba:=HV.o.ne HA.o (by decide);have ne_bw_ba:=HW.o.ne HA.o (by decide);refine(c8o 0 wx).mono ?_;rintro e W4 ⟨rfl,hb,hp⟩;have P2:w.heap.size≤wx.heap.size:=HB.o.size;have ne_P_ba:wx.heap.size≠ba:=hp.ne (HA.o.bel hb) (by decide);have HP:=qh (hp.ot ne_P_ba 0 (pt wx.heap.size));have H2x:=qh ((H2.o.bel hb).ot ne_bo_ba 0 (pt wx.heap.size));have HWx:=qh ((HW.o.bel hb).ot ne_bw_ba 0 (pt wx.heap.size));have HAx:=qh (((HA.o.bel hb).set 0 (pt wx.heap.size)).to (cs':=#[(pt wx.heap.size)]) rfl);have HBx:=qh (bf (bt HB.o hb) lo_ba 0 (pt wx.heap.size));have hfz:=(HA.o.bel hb).free;have hcw:=(HA.o.bel hb).k 0;go_wp2_with fail
 go_ret2
 exact⟨_,_,rfl,HBx.o,Or.inr ⟨_,⟨wx.heap.size,ba,bo,bw,rfl,P2,lo_ba,lo_bo,lo_bw,HAx.o,H2x.o,HWx.o,HP.o,Or.inl rfl⟩,fun _=>rfl⟩⟩
theorem c2c(w:World)(O V i:Nat)(v:dg)(o:OpC)(hr:Row w O 122 (o.cells V v.Y i))(hv:Row w V 92 v.cells)(ht1:1≤v.tr)(ht2:v.tr≤16)(hkd:o.kind=7)(HH:(0≤o.src∧o.src<4)∧(0≤o.mode∧o.mode<8)):Calls Tryz.prog 56 #[pt O] w fun e w'=>∃fv k,e=.returned (.tuple #[fv,ci k])∧Below w.heap.size w w'∧ub false v.tr w' (fun b=>w.heap.size≤b) O fv:=by
 obtain⟨kd,tp,sb,cp,rk,sr,mo,fl,fb,se,wy,nx,en,co,su,ge,cn,lo,⟨zm,zs,zh,zf,ze⟩,gv,av,st,at_⟩:=o;obtain⟨T,tr,lg,tv,G,k,gk,sz,B,Y,yk⟩:=v;simp only at hkd ht1 ht2 HH;subst hkd;simp only[OpC.cells,dg.cells] at *;have hz1:(w.alloc (.cells #[pt O] 95)).heap.size=w.heap.size+1:=by simp
 have hz2:((w.alloc (.cells #[pt O] 95)).alloc (.cells #[.pointer none] 180)).heap.size=w.heap.size+1+1:=by simp
 have ra:=Row.new (w.alloc (.cells #[pt O] 95)) 180 #[.pointer none];rw[hz1] at ra;have rw:=Row.new ((w.alloc (.cells #[pt O] 95)).alloc (.cells #[.pointer none] 180)) 4 #[.bool true];rw[hz2] at rw;have H2:=qh (((Row.new w 95 #[pt O]).alloc (.cells #[.pointer none] 180)).alloc (.cells #[.bool true] 4));have HR:=qh hr;have HV:=qh hv;have HA:=qh (ra.alloc (.cells #[.bool true] 4));have HW:=qh rw;have HB:=qh (brf w);revert HR;revert HV;revert HB
 refine cq (sa3 w (.cells #[pt O] 95) (.cells #[.pointer none] 180) (.cells #[.bool true] 4)) ?_;intro HB HV HR;have co:=H2.k 0;have c0:=HR.k 0;have c3:=HR.k 3;have cv:=HV.k 2;have cv4:=HV.k 4;clear ra rw;clear hr hv hz1 hz2;have hmo:=xo tr ht1 ht2
 go_enter Tryz.func56,Tryz.ntmps56
 go_wp2_with (first|(go_at_call 97;refine(hmo _).mono ?_;rintro e w_ ⟨rfl,rfl⟩))
 clear co c0 c3 cv cv4 hmo;generalize hbw:w.heap.size+1+1=bw at HW ⊢;generalize hba:w.heap.size+1=ba at HA ⊢;generalize hbo:w.heap.size=bo at H2 ⊢;have lo_bo:w.heap.size≤bo:=by omega
 have lo_ba:w.heap.size≤ba:=by omega
 have lo_bw:w.heap.size≤bw:=by omega
 clear hbw hba hbo;generalize ((w.alloc (.cells #[pt O] 95)).alloc (.cells #[.pointer none] 180)).alloc (.cells #[.bool true] 4)=wx at *;have ne_O_ba:=HR.o.ne HA.o (by decide);have ne_bo_ba:=H2.o.ne HA.o (by decide);have ne_V_ba:=HV.o.ne HA.o (by decide);have ne_bw_ba:=HW.o.ne HA.o (by decide);revert HR;revert H2;revert HV;revert HA;revert HW;revert HB
 refine cq (sdz wx) ?_;intro HB HW HA HV H2 HR;have hU:UD (fun W=>W.cell? (ae bo 0)=some (pt O)∧W.cell? (ae O 0)=some (pt V)∧W.cell? (ae O 8)=some (ci sr)∧W.cell? (ae O 9)=some (ci mo)∧W.cell? (ae O 11)=some (.bool fb)∧W.cell? (ae V 4)=some (ci 0)∧W.cell? (ae V 2)=some (ci tr)):=al fun W n h=>h;have hC0:=hU.at _ ⟨H2.k 0,HR.k 0,HR.k 8,HR.k 9,HR.k 11,HV.k 4,HV.k 2⟩;refine dw aj hU hC0 ?_;intro S;generalize wx.drew=u0 at *;refine ao S hU [0,1,2,3,4,5,6,7,8,9,10,11,12,13,14,15,16,17,18,19,20,21,22,23,24,25,26,27,28,29,30,31] 109 6 hC0 ?_;constructor
 ·intro W' hW';simp only[pick,List.filterMap,gq1,gq2,gq3];obtain⟨q0,q1,q2,q3,q4,q5,q6⟩:=hW'
  repeat (go_big_quiet_step (fail))
  exact wpQuiet_nil rfl
 refine az S hU 32 5 rfl hC0 fun n0 K1 hK1=>?_;go_wp2_with fail;refine(b5i 0 tr sr mo fb ht1 ht2 HH.1 HH.2 _).mono ?_;rintro e W4 ⟨P,rfl,hb,hP,bd,hbd,hrb,hrp⟩;have ne_P_ba:P≠ba:=hrp.ne ((HA.o.drewN n0).bel hb) (by decide);have ne_bd_ba:bd≠ba:=hrb.ne ((HA.o.drewN n0).bel hb) (by decide);have hsz:=(below_drewN HB.o n0).size;have P2:w.heap.size≤P:=by omega
 have D2:w.heap.size≤bd:=by omega
 clear hsz hP hbd;go_wp2_with fail;have HP:=qh hrp;have HD:=qh hrb;revert HB HW HA HV H2 HR;refine cq (sbl hb) ?_;intro HB HW HA HV H2 HR;have hC1:=hU.at _ ⟨H2.k 0,HR.k 0,HR.k 8,HR.k 9,HR.k 11,HV.k 4,HV.k 2⟩;refine hK1 _ _ hC1 ?_;clear hK1 hC0;clear hb hrp hrb;refine ao S hU [33,34,35] 109 2 hC1 ?_;constructor
 ·intro W' hW';simp only[pick,List.filterMap,gq1,gq2,gq3];obtain⟨q0,q1,q2,q3,q4,q5,q6⟩:=hW'
  repeat (go_big_quiet_step (fail))
  exact wpQuiet_nil rfl
 refine az S hU 36 1 rfl hC1 fun n1 K1 hK1=>?_;have hfz:=(HA.o.drewN n1).free;have hcw:=(HA.o.drewN n1).k 0;go_wp2_with fail;clear hfz hcw;replace HA:=qh (((HA.o.drewN n1).set 0 (pt P)).to (cs':=#[pt P]) rfl);revert HP HD HB HW HV H2 HR;refine cm (sst W4 n1 ba 0 (pt P)) ⟨nn ne_P_ba,nn ne_bd_ba,mn lo_ba,nn ne_bw_ba,nn ne_V_ba,nn ne_bo_ba,nn ne_O_ba,trivial⟩ ?_;intro HP HD HB HW HV H2 HR;have hC2:=hU.at _ ⟨H2.k 0,HR.k 0,HR.k 8,HR.k 9,HR.k 11,HV.k 4,HV.k 2⟩;refine hK1 _ _ hC2 ?_;clear hK1 hC1;generalize ((W4.drewN n1).setCell ⟨ba,0,none⟩ (pt P))=u2 at *;refine ao S hU [37] 109 0 hC2 ?_;constructor
 ·intro W' hW';simp only[pick,List.filterMap,gq1,gq2,gq3];obtain⟨q0,q1,q2,q3,q4,q5,q6⟩:=hW'
  repeat (go_big_quiet_step (fail))
  exact wpQuiet_nil rfl
 refine dd fun n9=>?_;revert HA HP HD HB HW HV H2 HR;refine cq (sdw u2 n9) ?_;intro HA HP HD HB HW HV H2 HR;clear S hU hC2;generalize u2.drewN n9=wz at *;go_wp2_with fail
 go_ret2
 exact⟨_,_,rfl,HB.o,Or.inr ⟨_,⟨P,ba,bo,bw,rfl,P2,lo_ba,lo_bo,lo_bw,HA.o,H2.o,HW.o,HP.o,Or.inr (Or.inl ⟨bd,⟨sr,mo,fb⟩,D2,rfl,HD.o⟩)⟩,fun h=>by cases h⟩⟩
theorem b8v(w:World)(O V i:Nat)(v:dg)(o:OpC)(hr:Row w O 122 (o.cells V v.Y i))(hv:Row w V 92 v.cells)(ht1:1≤v.tr)(ht2:v.tr≤16)(hkd:o.kind=7)(HH:¬ ((0≤o.src∧o.src<4)∧(0≤o.mode∧o.mode<8))):Calls Tryz.prog 56 #[pt O] w fun e w'=>∃fv k,e=.returned (.tuple #[fv,ci k])∧Below w.heap.size w w'∧ub false v.tr w' (fun b=>w.heap.size≤b) O fv:=by
 obtain⟨kd,tp,sb,cp,rk,sr,mo,fl,fb,se,wy,nx,en,co,su,ge,cn,lo,⟨zm,zs,zh,zf,ze⟩,gv,av,st,at_⟩:=o;obtain⟨T,tr,lg,tv,G,k,gk,sz,B,Y,yk⟩:=v;simp only at hkd ht1 ht2 HH;subst hkd;simp only[OpC.cells,dg.cells] at *;have hz1:(w.alloc (.cells #[pt O] 95)).heap.size=w.heap.size+1:=by simp
 have hz2:((w.alloc (.cells #[pt O] 95)).alloc (.cells #[.pointer none] 180)).heap.size=w.heap.size+1+1:=by simp
 have ra:=Row.new (w.alloc (.cells #[pt O] 95)) 180 #[.pointer none];rw[hz1] at ra;have rw:=Row.new ((w.alloc (.cells #[pt O] 95)).alloc (.cells #[.pointer none] 180)) 4 #[.bool true];rw[hz2] at rw;have H2:=qh (((Row.new w 95 #[pt O]).alloc (.cells #[.pointer none] 180)).alloc (.cells #[.bool true] 4));have HR:=qh hr;have HV:=qh hv;have HA:=qh (ra.alloc (.cells #[.bool true] 4));have HW:=qh rw;have HB:=qh (brf w);revert HR;revert HV;revert HB
 refine cq (sa3 w (.cells #[pt O] 95) (.cells #[.pointer none] 180) (.cells #[.bool true] 4)) ?_;intro HB HV HR;have co:=H2.k 0;have c0:=HR.k 0;have c3:=HR.k 3;have cv:=HV.k 2;have cv4:=HV.k 4;clear ra rw;clear hr hv hz1 hz2;have hmo:=xo tr ht1 ht2
 go_enter Tryz.func56,Tryz.ntmps56
 go_wp2_with (first|(go_at_call 97;refine(hmo _).mono ?_;rintro e w_ ⟨rfl,rfl⟩))
 clear co c0 c3 cv cv4 hmo;generalize hbw:w.heap.size+1+1=bw at HW ⊢;generalize hba:w.heap.size+1=ba at HA ⊢;generalize hbo:w.heap.size=bo at H2 ⊢;have lo_bo:w.heap.size≤bo:=by omega
 have lo_ba:w.heap.size≤ba:=by omega
 have lo_bw:w.heap.size≤bw:=by omega
 clear hbw hba hbo;generalize ((w.alloc (.cells #[pt O] 95)).alloc (.cells #[.pointer none] 180)).alloc (.cells #[.bool true] 4)=wx at *;have ne_O_ba:=HR.o.ne HA.o (by decide);have ne_bo_ba:=H2.o.ne HA.o (by decide);have ne_V_ba:=HV.o.ne HA.o (by decide);have ne_bw_ba:=HW.o.ne HA.o (by decide);revert HR;revert H2;revert HV;revert HA;revert HW;revert HB
 refine cq (sdz wx) ?_;intro HB HW HA HV H2 HR;have hU:UD (fun W=>W.cell? (ae bo 0)=some (pt O)∧W.cell? (ae O 0)=some (pt V)∧W.cell? (ae O 8)=some (ci sr)∧W.cell? (ae O 9)=some (ci mo)∧W.cell? (ae O 11)=some (.bool fb)∧W.cell? (ae V 4)=some (ci 0)∧W.cell? (ae V 2)=some (ci tr)):=al fun W n h=>h;have hC0:=hU.at _ ⟨H2.k 0,HR.k 0,HR.k 8,HR.k 9,HR.k 11,HV.k 4,HV.k 2⟩;refine dw aj hU hC0 ?_;intro S;generalize wx.drew=u0 at *;refine ao S hU [0,1,2,3,4,5,6,7,8,9,10,11,12,13,14,15,16,17,18,19,20,21,22,23,24,25,26,27,28,29,30,31] 109 6 hC0 ?_;constructor
 ·intro W' hW';simp only[pick,List.filterMap,gq1,gq2,gq3];obtain⟨q0,q1,q2,q3,q4,q5,q6⟩:=hW'
  repeat (go_big_quiet_step (fail))
  exact wpQuiet_nil rfl
 refine az S hU 32 5 rfl hC0 fun n0 K1 hK1=>?_;go_wp2_with fail;refine(b1h 0 tr sr mo fb ht1 ht2 HH _).mono ?_;rintro e W4 ⟨rfl,hb⟩;go_wp2_with fail;revert HB HW HA HV H2 HR;refine cq (sbl hb) ?_;intro HB HW HA HV H2 HR;have hC1:=hU.at _ ⟨H2.k 0,HR.k 0,HR.k 8,HR.k 9,HR.k 11,HV.k 4,HV.k 2⟩;refine hK1 _ _ hC1 ?_;clear hK1 hC0;clear hb ;refine ao S hU [33,34,35] 109 2 hC1 ?_;constructor
 ·intro W' hW';simp only[pick,List.filterMap,gq1,gq2,gq3];obtain⟨q0,q1,q2,q3,q4,q5,q6⟩:=hW'
  repeat (go_big_quiet_step (fail))
  exact wpQuiet_nil rfl
 refine az S hU 36 1 rfl hC1 fun n1 K1 hK1=>?_;have hfz:=(HA.o.drewN n1).free;have hcw:=(HA.o.drewN n1).k 0;go_wp2_with fail;clear hfz hcw;replace HA:=qh (((HA.o.drewN n1).set 0 (.pointer none)).to (cs':=#[.pointer none]) rfl);revert HB HW HV H2 HR;refine cm (sst W4 n1 ba 0 (.pointer none)) ⟨mn lo_ba,nn ne_bw_ba,nn ne_V_ba,nn ne_bo_ba,nn ne_O_ba,trivial⟩ ?_;intro HB HW HV H2 HR;have hC2:=hU.at _ ⟨H2.k 0,HR.k 0,HR.k 8,HR.k 9,HR.k 11,HV.k 4,HV.k 2⟩;refine hK1 _ _ hC2 ?_;clear hK1 hC1;generalize ((W4.drewN n1).setCell ⟨ba,0,none⟩ (.pointer none))=u2 at *;refine ao S hU [37] 109 0 hC2 ?_;constructor
 ·intro W' hW';simp only[pick,List.filterMap,gq1,gq2,gq3];obtain⟨q0,q1,q2,q3,q4,q5,q6⟩:=hW'
  repeat (go_big_quiet_step (fail))
  exact wpQuiet_nil rfl
 refine dd fun n9=>?_;revert HA HB HW HV H2 HR;refine cq (sdw u2 n9) ?_;intro HA HB HW HV H2 HR;clear S hU hC2;generalize u2.drewN n9=wz at *;have co:=H2.k 0;go_wp2_with fail;refine(fy _ _ _).mono ?_;rintro e w_ ⟨rfl,hb,hr1,hr2⟩;go_wp2_with fail
 go_ret2
 exact⟨_,1,rfl,bt HB.o hb,Or.inl ⟨_,⟨by constructor<;>decide,by decide⟩,_,_,rfl,nlt HB.o.size (Nat.le_succ _),HB.o.size,hr2,hr1⟩⟩
theorem c2d(w:World)(O V i:Nat)(v:dg)(o:OpC)(hr:Row w O 122 (o.cells V v.Y i))(hv:Row w V 92 v.cells)(ht1:1≤v.tr)(ht2:v.tr≤16)(hkd:o.kind=8)(HH:0≤o.flags∧o.flags≤63):Calls Tryz.prog 56 #[pt O] w fun e w'=>∃fv k,e=.returned (.tuple #[fv,ci k])∧Below w.heap.size w w'∧ub false v.tr w' (fun b=>w.heap.size≤b) O fv:=by
 obtain⟨kd,tp,sb,cp,rk,sr,mo,fl,fb,se,wy,nx,en,co,su,ge,cn,lo,⟨zm,zs,zh,zf,ze⟩,gv,av,st,at_⟩:=o;obtain⟨T,tr,lg,tv,G,k,gk,sz,B,Y,yk⟩:=v;simp only at hkd ht1 ht2 HH;subst hkd;simp only[OpC.cells,dg.cells] at *;have hz1:(w.alloc (.cells #[pt O] 95)).heap.size=w.heap.size+1:=by simp
 have hz2:((w.alloc (.cells #[pt O] 95)).alloc (.cells #[.pointer none] 180)).heap.size=w.heap.size+1+1:=by simp
 have ra:=Row.new (w.alloc (.cells #[pt O] 95)) 180 #[.pointer none];rw[hz1] at ra;have rw:=Row.new ((w.alloc (.cells #[pt O] 95)).alloc (.cells #[.pointer none] 180)) 4 #[.bool true];rw[hz2] at rw;have H2:=qh (((Row.new w 95 #[pt O]).alloc (.cells #[.pointer none] 180)).alloc (.cells #[.bool true] 4));have HR:=qh hr;have HV:=qh hv;have HA:=qh (ra.alloc (.cells #[.bool true] 4));have HW:=qh rw;have HB:=qh (brf w);revert HR;revert HV;revert HB
 refine cq (sa3 w (.cells #[pt O] 95) (.cells #[.pointer none] 180) (.cells #[.bool true] 4)) ?_;intro HB HV HR;have co:=H2.k 0;have c0:=HR.k 0;have c3:=HR.k 3;have cv:=HV.k 2;have cv4:=HV.k 4;clear ra rw;clear hr hv hz1 hz2;have hmo:=xo tr ht1 ht2
 go_enter Tryz.func56,Tryz.ntmps56
 go_wp2_with (first|(go_at_call 97;refine(hmo _).mono ?_;rintro e w_ ⟨rfl,rfl⟩))
 clear co c0 c3 cv cv4 hmo;generalize hbw:w.heap.size+1+1=bw at HW ⊢;generalize hba:w.heap.size+1=ba at HA ⊢;generalize hbo:w.heap.size=bo at H2 ⊢;have lo_bo:w.heap.size≤bo:=by omega
 have lo_ba:w.heap.size≤ba:=by omega
 have lo_bw:w.heap.size≤bw:=by omega
 clear hbw hba hbo;generalize ((w.alloc (.cells #[pt O] 95)).alloc (.cells #[.pointer none] 180)).alloc (.cells #[.bool true] 4)=wx at *;have ne_O_ba:=HR.o.ne HA.o (by decide);have ne_bo_ba:=H2.o.ne HA.o (by decide);have ne_V_ba:=HV.o.ne HA.o (by decide);have ne_bw_ba:=HW.o.ne HA.o (by decide);revert HR;revert H2;revert HV;revert HA;revert HW;revert HB
 refine cq (sdz wx) ?_;intro HB HW HA HV H2 HR;have hU:UD (fun W=>W.cell? (ae bo 0)=some (pt O)∧W.cell? (ae O 0)=some (pt V)∧W.cell? (ae O 10)=some (ci fl)∧W.cell? (ae V 4)=some (ci 0)∧W.cell? (ae V 2)=some (ci tr)):=al fun W n h=>h;have hC0:=hU.at _ ⟨H2.k 0,HR.k 0,HR.k 10,HV.k 4,HV.k 2⟩;refine dw aj hU hC0 ?_;intro S;generalize wx.drew=u0 at *;refine ao S hU [0,1,2,3,4,5,6,7,8,9,10,11,12,13,14,15,16,17,18,19,20] 109 6 hC0 ?_;constructor
 ·intro W' hW';simp only[pick,List.filterMap,gq1,gq2,gq3];obtain⟨q0,q1,q2,q3,q4⟩:=hW'
  repeat (go_big_quiet_step (fail))
  exact wpQuiet_nil rfl
 refine az S hU 21 5 rfl hC0 fun n0 K1 hK1=>?_;go_wp2_with fail;refine(b5j 0 tr fl ht1 ht2 HH _).mono ?_;rintro e W4 ⟨P,rfl,hb,hP,bd,hbd,hrb,hrp⟩;have ne_P_ba:P≠ba:=hrp.ne ((HA.o.drewN n0).bel hb) (by decide);have ne_bd_ba:bd≠ba:=hrb.ne ((HA.o.drewN n0).bel hb) (by decide);have hsz:=(below_drewN HB.o n0).size;have P2:w.heap.size≤P:=by omega
 have D2:w.heap.size≤bd:=by omega
 clear hsz hP hbd;go_wp2_with fail;have HP:=qh hrp;have HD:=qh hrb;revert HB HW HA HV H2 HR;refine cq (sbl hb) ?_;intro HB HW HA HV H2 HR;have hC1:=hU.at _ ⟨H2.k 0,HR.k 0,HR.k 10,HV.k 4,HV.k 2⟩;refine hK1 _ _ hC1 ?_;clear hK1 hC0;clear hb hrp hrb;refine ao S hU [22,23,24] 109 2 hC1 ?_;constructor
 ·intro W' hW';simp only[pick,List.filterMap,gq1,gq2,gq3];obtain⟨q0,q1,q2,q3,q4⟩:=hW'
  repeat (go_big_quiet_step (fail))
  exact wpQuiet_nil rfl
 refine az S hU 25 1 rfl hC1 fun n1 K1 hK1=>?_;have hfz:=(HA.o.drewN n1).free;have hcw:=(HA.o.drewN n1).k 0;go_wp2_with fail;clear hfz hcw;replace HA:=qh (((HA.o.drewN n1).set 0 (pt P)).to (cs':=#[pt P]) rfl);revert HP HD HB HW HV H2 HR;refine cm (sst W4 n1 ba 0 (pt P)) ⟨nn ne_P_ba,nn ne_bd_ba,mn lo_ba,nn ne_bw_ba,nn ne_V_ba,nn ne_bo_ba,nn ne_O_ba,trivial⟩ ?_;intro HP HD HB HW HV H2 HR;have hC2:=hU.at _ ⟨H2.k 0,HR.k 0,HR.k 10,HV.k 4,HV.k 2⟩;refine hK1 _ _ hC2 ?_;clear hK1 hC1;generalize ((W4.drewN n1).setCell ⟨ba,0,none⟩ (pt P))=u2 at *;refine ao S hU [26] 109 0 hC2 ?_;constructor
 ·intro W' hW';simp only[pick,List.filterMap,gq1,gq2,gq3];obtain⟨q0,q1,q2,q3,q4⟩:=hW'
  repeat (go_big_quiet_step (fail))
  exact wpQuiet_nil rfl
 refine dd fun n9=>?_;revert HA HP HD HB HW HV H2 HR;refine cq (sdw u2 n9) ?_;intro HA HP HD HB HW HV H2 HR;clear S hU hC2;generalize u2.drewN n9=wz at *;go_wp2_with fail
 go_ret2
 exact⟨_,_,rfl,HB.o,Or.inr ⟨_,⟨P,ba,bo,bw,rfl,P2,lo_ba,lo_bo,lo_bw,HA.o,H2.o,HW.o,HP.o,Or.inr (Or.inr ⟨bd,fl,D2,rfl,HD.o⟩)⟩,fun h=>by cases h⟩⟩
theorem b8w(w:World)(O V i:Nat)(v:dg)(o:OpC)(hr:Row w O 122 (o.cells V v.Y i))(hv:Row w V 92 v.cells)(ht1:1≤v.tr)(ht2:v.tr≤16)(hkd:o.kind=8)(HH:¬ (0≤o.flags∧o.flags≤63)):Calls Tryz.prog 56 #[pt O] w fun e w'=>∃fv k,e=.returned (.tuple #[fv,ci k])∧Below w.heap.size w w'∧ub false v.tr w' (fun b=>w.heap.size≤b) O fv:=by
 obtain⟨kd,tp,sb,cp,rk,sr,mo,fl,fb,se,wy,nx,en,co,su,ge,cn,lo,⟨zm,zs,zh,zf,ze⟩,gv,av,st,at_⟩:=o;obtain⟨T,tr,lg,tv,G,k,gk,sz,B,Y,yk⟩:=v;simp only at hkd ht1 ht2 HH;subst hkd;simp only[OpC.cells,dg.cells] at *;have hz1:(w.alloc (.cells #[pt O] 95)).heap.size=w.heap.size+1:=by simp
 have hz2:((w.alloc (.cells #[pt O] 95)).alloc (.cells #[.pointer none] 180)).heap.size=w.heap.size+1+1:=by simp
 have ra:=Row.new (w.alloc (.cells #[pt O] 95)) 180 #[.pointer none];rw[hz1] at ra;have rw:=Row.new ((w.alloc (.cells #[pt O] 95)).alloc (.cells #[.pointer none] 180)) 4 #[.bool true];rw[hz2] at rw;have H2:=qh (((Row.new w 95 #[pt O]).alloc (.cells #[.pointer none] 180)).alloc (.cells #[.bool true] 4));have HR:=qh hr;have HV:=qh hv;have HA:=qh (ra.alloc (.cells #[.bool true] 4));have HW:=qh rw;have HB:=qh (brf w);revert HR;revert HV;revert HB
 refine cq (sa3 w (.cells #[pt O] 95) (.cells #[.pointer none] 180) (.cells #[.bool true] 4)) ?_;intro HB HV HR;have co:=H2.k 0;have c0:=HR.k 0;have c3:=HR.k 3;have cv:=HV.k 2;have cv4:=HV.k 4;clear ra rw;clear hr hv hz1 hz2;have hmo:=xo tr ht1 ht2
 go_enter Tryz.func56,Tryz.ntmps56
 go_wp2_with (first|(go_at_call 97;refine(hmo _).mono ?_;rintro e w_ ⟨rfl,rfl⟩))
 clear co c0 c3 cv cv4 hmo;generalize hbw:w.heap.size+1+1=bw at HW ⊢;generalize hba:w.heap.size+1=ba at HA ⊢;generalize hbo:w.heap.size=bo at H2 ⊢;have lo_bo:w.heap.size≤bo:=by omega
 have lo_ba:w.heap.size≤ba:=by omega
 have lo_bw:w.heap.size≤bw:=by omega
 clear hbw hba hbo;generalize ((w.alloc (.cells #[pt O] 95)).alloc (.cells #[.pointer none] 180)).alloc (.cells #[.bool true] 4)=wx at *;have ne_O_ba:=HR.o.ne HA.o (by decide);have ne_bo_ba:=H2.o.ne HA.o (by decide);have ne_V_ba:=HV.o.ne HA.o (by decide);have ne_bw_ba:=HW.o.ne HA.o (by decide);revert HR;revert H2;revert HV;revert HA;revert HW;revert HB
 refine cq (sdz wx) ?_;intro HB HW HA HV H2 HR;have hU:UD (fun W=>W.cell? (ae bo 0)=some (pt O)∧W.cell? (ae O 0)=some (pt V)∧W.cell? (ae O 10)=some (ci fl)∧W.cell? (ae V 4)=some (ci 0)∧W.cell? (ae V 2)=some (ci tr)):=al fun W n h=>h;have hC0:=hU.at _ ⟨H2.k 0,HR.k 0,HR.k 10,HV.k 4,HV.k 2⟩;refine dw aj hU hC0 ?_;intro S;generalize wx.drew=u0 at *;refine ao S hU [0,1,2,3,4,5,6,7,8,9,10,11,12,13,14,15,16,17,18,19,20] 109 6 hC0 ?_;constructor
 ·intro W' hW';simp only[pick,List.filterMap,gq1,gq2,gq3];obtain⟨q0,q1,q2,q3,q4⟩:=hW'
  repeat (go_big_quiet_step (fail))
  exact wpQuiet_nil rfl
 refine az S hU 21 5 rfl hC0 fun n0 K1 hK1=>?_;go_wp2_with fail;refine(b1i 0 tr fl ht1 ht2 HH _).mono ?_;rintro e W4 ⟨rfl,hb⟩;go_wp2_with fail;revert HB HW HA HV H2 HR;refine cq (sbl hb) ?_;intro HB HW HA HV H2 HR;have hC1:=hU.at _ ⟨H2.k 0,HR.k 0,HR.k 10,HV.k 4,HV.k 2⟩;refine hK1 _ _ hC1 ?_;clear hK1 hC0;clear hb ;refine ao S hU [22,23,24] 109 2 hC1 ?_;constructor
 ·intro W' hW';simp only[pick,List.filterMap,gq1,gq2,gq3];obtain⟨q0,q1,q2,q3,q4⟩:=hW'
  repeat (go_big_quiet_step (fail))
  exact wpQuiet_nil rfl
 refine az S hU 25 1 rfl hC1 fun n1 K1 hK1=>?_;have hfz:=(HA.o.drewN n1).free;have hcw:=(HA.o.drewN n1).k 0;go_wp2_with fail;clear hfz hcw;replace HA:=qh (((HA.o.drewN n1).set 0 (.pointer none)).to (cs':=#[.pointer none]) rfl);revert HB HW HV H2 HR;refine cm (sst W4 n1 ba 0 (.pointer none)) ⟨mn lo_ba,nn ne_bw_ba,nn ne_V_ba,nn ne_bo_ba,nn ne_O_ba,trivial⟩ ?_;intro HB HW HV H2 HR;have hC2:=hU.at _ ⟨H2.k 0,HR.k 0,HR.k 10,HV.k 4,HV.k 2⟩;refine hK1 _ _ hC2 ?_;clear hK1 hC1;generalize ((W4.drewN n1).setCell ⟨ba,0,none⟩ (.pointer none))=u2 at *;refine ao S hU [26] 109 0 hC2 ?_;constructor
 ·intro W' hW';simp only[pick,List.filterMap,gq1,gq2,gq3];obtain⟨q0,q1,q2,q3,q4⟩:=hW'
  repeat (go_big_quiet_step (fail))
  exact wpQuiet_nil rfl
 refine dd fun n9=>?_;revert HA HB HW HV H2 HR;refine cq (sdw u2 n9) ?_;intro HA HB HW HV H2 HR;clear S hU hC2;generalize u2.drewN n9=wz at *;have co:=H2.k 0;go_wp2_with fail;refine(fy _ _ _).mono ?_;rintro e w_ ⟨rfl,hb,hr1,hr2⟩;go_wp2_with fail
 go_ret2
 exact⟨_,1,rfl,bt HB.o hb,Or.inl ⟨_,⟨by constructor<;>decide,by decide⟩,_,_,rfl,nlt HB.o.size (Nat.le_succ _),HB.o.size,hr2,hr1⟩⟩
end Go.Proofs.YtojkaibpfdhmaaaGreatDoor

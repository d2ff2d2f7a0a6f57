/- A call is begun: Vehicle.Begin. -/
import Derived.Test.YtojkaibpfdhmaaaGreatDoorP16
import Derived.Test.YtojkaibpfdhmaaaGreatDoorP36
import Derived.Test.YtojkaibpfdhmaaaGreatDoorP29
import Derived.Test.YtojkaibpfdhmaaaGreatDoorP01
import Derived.Laws.EntriesVeiled
namespace Go.Proofs.YtojkaibpfdhmaaaGreatDoor
open Go.RowKit
set_option maxRecDepth 100000
set_option maxHeartbeats 16000000
theorem vp(l:List Int):∀u∈l.map (Value.int .i64),u.oneCell'=true:=by
 intro u hu;obtain⟨x,_,rfl⟩:=List.mem_map.1 hu
 rfl
theorem pj{W:World}{sz n:Nat}{v:Value}{cs:List Value}(h:Has W sz v n cs):∃a c,v=.slice a n c:=by
 rcases h.shape with ⟨h1,h2⟩|⟨a,c,h1,_⟩
 ·exact⟨none,0,by rw[h1,h2]⟩
 ·exact⟨_,_,h1⟩
theorem f9{W:World}{base base' E sz n:Nat}{v:Value}{cs:List Value}(h:W.ownsRow base E sz v n cs)(hb:base'≤base):W.ownsRow base' E sz v n cs:=⟨h.1,by
 rcases h.2 with e|⟨g,cap,cur,e,h1,h2⟩
 ·exact Or.inl e
 ·exact Or.inr ⟨g,cap,cur,e,nlt hb h1,h2⟩⟩
theorem c4v{E:Env}{w:World}{T:Nat→Prop}{V A i c:Nat}{v:dg}{ws:List Nat}{ows:List Own}{ow:Own}{f:Int→Bool}{sl:List Sub}{SL:List Int}{wl:List Nat}(kd tp sb cp rk sr mo fl:Int)(fb:Bool)(setv wordsv:Value)(hveh:jw E w V v A ws ows)(hi:ows[i]?=some ow)(hop:ow.op=none)(hown:ke E w T ow f sl c)(hT:∀b,T b→b<w.heap.size∧4<b∧b≠V∧b≠v.B∧b≠A∧b≠v.G∧b≠v.Y)(hseqs:∀s∈E.spots,wat ws s.seq≤1000000)(hE:E.Ok)(hc:c≤1000)(hset:Has w 1 setv SL.length (SL.map (Value.int .i64)))(hwords:Has w 1 wordsv wl.length (bj wl).toList)(hSL:SL.length≤1000)(hwl:wl.length≤1000):Calls Tryz.prog 29 #[pt V,ci i,.agg #[ci kd,ci tp,ci sb,ci cp,ci rk,ci sr,ci mo,ci fl,.bool fb,setv,wordsv]] w fun e w'=>∃O o,e=.returned (.tuple #[pt O,ci 0])∧w.heap.size≤O∧ab [v.Y] w w'∧Row w' O 122 (o.cells V v.Y i)∧o.steps=0∧o.ended=false∧jw E w' V v A ws (ows.set i {ow with op:=some O}) ∧
   ∃m,jy E ⟨kd,tp,sb,cp,rk,sr,mo,fl,fb,SL,wl.length⟩ f m∧eh E w' (fun b=>T b∨(w.heap.size≤b∧b≠O)) O 0 v o sl.length m:=by
 obtain⟨sa0,sc0,rfl⟩:=pj hset;obtain⟨wa0,wc0,rfl⟩:=pj hwords;have hil:=(bk.1 hi).1;have hiT:(i:Int)<v.T:=by rw[hveh.tk,←hveh.len];omega
 have hi0:(0:Int)≤i:=by omega
 have hd37:decide (0≤(i:Int)∧(i:Int)<v.T)=true:=dqt ⟨hi0,hiT⟩;have hhas:=qh (fun W (h:Row W V 92 v.cells)=>d0f W V v i h);have HVEH:=qh hveh;have HOWN:=qh hown;have HSET:=qh hset;have HWDS:=qh hwords;have HI:=qh hi;have HV:Hd (Row (w.alloc (.cells #[ci kd,ci tp,ci sb,ci cp,ci rk,ci sr,ci mo,ci fl,.bool fb,.slice sa0 SL.length sc0,.slice wa0 wl.length wc0] 39)) V 92 #[ci v.T,v.tv,ci v.tr,ci v.lg,ci 0,ci 1,ci v.lg,zl v.G v.k v.gk,ci v.sz,pt v.B,zl v.Y v.T v.yk]):=qh (hveh.hv.alloc (.cells #[ci kd,ci tp,ci sb,ci cp,ci rk,ci sr,ci mo,ci fl,.bool fb,.slice sa0 SL.length sc0,.slice wa0 wl.length wc0] 39));have HC:=qh (Row.new w 39 #[ci kd,ci tp,ci sb,ci cp,ci rk,ci sr,ci mo,ci fl,.bool fb,.slice sa0 SL.length sc0,.slice wa0 wl.length wc0]);have HB:=qh (af (brf w) (.cells #[ci kd,ci tp,ci sb,ci cp,ci rk,ci sr,ci mo,ci fl,.bool fb,.slice sa0 SL.length sc0,.slice wa0 wl.length wc0] 39))
 have cy:=(f7.c (hveh.owns.alloc (.cells #[ci kd,ci tp,ci sb,ci cp,ci rk,ci sr,ci mo,ci fl,.bool fb,.slice sa0 SL.length sc0,.slice wa0 wl.length wc0] 39)) hi).2.2;rw[hop] at cy;have cy:(w.alloc (.cells #[ci kd,ci tp,ci sb,ci cp,ci rk,ci sr,ci mo,ci fl,.bool fb,.slice sa0 SL.length sc0,.slice wa0 wl.length wc0] 39)).cell? (ae v.Y (i*3+2))=some (.pointer none):=cy;have cvt:=HV.k 10;clear hveh hown hset hwords
 go_enter Tryz.func29,Tryz.ntmps29
 go_wp2_with (first|(go_at_call 37;refine(hhas.o _ HV.o).mono ?_;rintro e w_ ⟨rfl,rfl⟩;rw[hd37]))
 clear cy cvt hhas hd37;generalize hbc:w.heap.size=bc at HC ⊢;have lo_bc:w.heap.size≤bc:=by omega
 clear hbc;generalize w.alloc (.cells #[ci kd,ci tp,ci sb,ci cp,ci rk,ci sr,ci mo,ci fl,.bool fb,.slice sa0 SL.length sc0,.slice wa0 wl.length wc0] 39)=w1 at *;have ne_V_bc:=HV.o.ne HC.o (by decide);clear hil;revert HC;revert HB;revert HV
 refine cq (sdz w1) ?_;intro HV HB HC;have hU:UD (fun W=>True):=al fun W n h=>h;have hC0:=hU.at (w1.drew) trivial;refine dw aj hU hC0 ?_;intro S;generalize w1.drew=u0 at *;refine ao S hU [0,3] 62 8 hC0 ?_;constructor
 ·intro W' hW';simp only[pick,List.filterMap,gq1,gq2,gq3]
  repeat (go_big_quiet_step (fail))
  exact wpQuiet_nil rfl
 refine rg_b hU 1 4 _ _ 7 _ _ _ rfl rfl (by kernel_rfl) (by kernel_rfl) hC0 ?_ ?_
 ·intro W1 hrW1 hcW1 K1 hK1;obtain⟨n0,rfl⟩:=hrW1;clear hcW1;have hcw:=(HC.o.drewN n0).k 9;go_wp2_with fail;revert HV HB HC;refine cq (sdw u0 n0) ?_;intro HV HB HC;have hC1:=hU.at (u0.drewN n0) trivial;refine hK1 _ _ hC1 ?_;clear hK1 hC0;generalize (u0.drewN n0)=v1 at *;clear hcw;refine rg_b hU 2 4 _ _ 6 _ _ _ rfl rfl (by kernel_rfl) (by kernel_rfl) hC1 ?_ ?_
  ·intro W1 hrW1 hcW1 K1 hK1;obtain⟨n1,rfl⟩:=hrW1;clear hcW1;go_wp2_with fail;refine(lh ((HSET).o.bel (below_drewN HB.o n1)) (vp SL) (by omega)).mono ?_;rintro e W2x ⟨v2,rfl,hb,hown,-⟩;obtain⟨sa,sc,rfl⟩:=ax hown;go_wp2_with fail;have HS1:=qh (f9 hown ((below_drewN HB.o n1).size));revert HV HB HC;refine cq (sbl hb) ?_;intro HV HB HC;have hC2:=hU.at (W2x) trivial;refine hK1 _ _ hC2 ?_;clear hK1 hC1;clear hb hown;refine az S hU 4 5 rfl hC2 fun n2 K1 hK1=>?_;have hcw:=(HC.o.drewN n2).k 10;go_wp2_with fail;revert HS1 HV HB HC;refine cq (sdw W2x n2) ?_;intro HS1 HV HB HC;have hC3:=hU.at (W2x.drewN n2) trivial;refine hK1 _ _ hC3 ?_;clear hK1 hC2;generalize (W2x.drewN n2)=v3 at *;clear hcw;refine ao S hU [6] 62 4 hC3 ?_;constructor
   ·intro W' hW';simp only[pick,List.filterMap,gq1,gq2,gq3]
    repeat (go_big_quiet_step (fail))
    exact wpQuiet_nil rfl
   refine az S hU 5 3 rfl hC3 fun n3 K1 hK1=>?_;go_wp2_with fail;refine(ez ((HWDS).o.bel (below_drewN HB.o n3)) (je wl) (by omega)).mono ?_;rintro e W5x ⟨v5,rfl,hb,hown,-⟩;obtain⟨wa,wc,rfl⟩:=ax hown;go_wp2_with fail;have HS2:=qh (f9 hown ((below_drewN HB.o n3).size));revert HS1 HV HB HC;refine cq (sbl hb) ?_;intro HS1 HV HB HC;have hC4:=hU.at (W5x) trivial;refine hK1 _ _ hC4 ?_;clear hK1 hC3;clear hb hown;have ne_HS1_bc:=a6 HS1.o HC.o (by decide);have ne_HS2_bc:=a6 HS2.o HC.o (by decide);refine az S hU 7 2 rfl hC4 fun n4 K1 hK1=>?_;have hfz:=(HC.o.drewN n4).free;have hcw:=(HC.o.drewN n4).k 9;go_wp2_with fail;clear hfz hcw;replace HC:=qh (((HC.o.drewN n4).set 9 (.slice sa SL.length sc)).to (cs':=#[ci kd,ci tp,ci sb,ci cp,ci rk,ci sr,ci mo,ci fl,.bool fb,.slice sa SL.length sc,.slice wa0 wl.length wc0]) rfl);revert HS2 HS1 HV HB
   refine cm (sst W5x n4 bc 9 (.slice sa SL.length sc)) ⟨no1 ne_HS2_bc,no1 ne_HS1_bc,nn ne_V_bc,mn lo_bc,trivial⟩ ?_;intro HS2 HS1 HV HB;have hC5:=hU.at ((W5x.drewN n4).setCell ⟨bc,9,none⟩ (.slice sa SL.length sc)) trivial;refine hK1 _ _ hC5 ?_;clear hK1 hC4;generalize ((W5x.drewN n4).setCell ⟨bc,9,none⟩ (.slice sa SL.length sc))=u5 at *;refine ao S hU [8] 62 1 hC5 ?_;constructor
   ·intro W' hW';simp only[pick,List.filterMap,gq1,gq2,gq3]
    repeat (go_big_quiet_step (fail))
    exact wpQuiet_nil rfl
   have ne_HS1_bc:=a6 HS1.o HC.o (by decide);have ne_HS2_bc:=a6 HS2.o HC.o (by decide);refine az S hU 9 0 rfl hC5 fun n5 K1 hK1=>?_;have hfz:=(HC.o.drewN n5).free;have hcw:=(HC.o.drewN n5).k 10;go_wp2_with fail;clear hfz hcw;replace HC:=qh (((HC.o.drewN n5).set 10 (.slice wa wl.length wc)).to (cs':=#[ci kd,ci tp,ci sb,ci cp,ci rk,ci sr,ci mo,ci fl,.bool fb,.slice sa SL.length sc,.slice wa wl.length wc]) rfl);revert HS2 HS1 HV HB;refine cm (sst u5 n5 bc 10 (.slice wa wl.length wc)) ⟨no1 ne_HS2_bc,no1 ne_HS1_bc,nn ne_V_bc,mn lo_bc,trivial⟩ ?_;intro HS2 HS1 HV HB;have hC6:=hU.at ((u5.drewN n5).setCell ⟨bc,10,none⟩ (.slice wa wl.length wc)) trivial;refine hK1 _ _ hC6 ?_;clear hK1 hC5;generalize ((u5.drewN n5).setCell ⟨bc,10,none⟩ (.slice wa wl.length wc))=u6 at *;refine dd fun n9=>?_;revert HC HS2 HS1 HV HB;refine cq (sdw u6 n9) ?_;intro HC HS2 HS1 HV HB;clear S hU hC6
   generalize u6.drewN n9=w2 at *;go_wp2_with fail;revert HC;revert HB;revert HV;revert HS1;revert HS2
   refine cq (sdz w2) ?_;intro HS2 HS1 HV HB HC;have hU:UD (fun W=>W.cell? (ae V 10)=some (zl v.Y v.T v.yk)∧W.cell? (ae bc 0)=some (ci kd)∧W.cell? (ae bc 1)=some (ci tp)∧W.cell? (ae bc 2)=some (ci sb)∧W.cell? (ae bc 3)=some (ci cp)∧W.cell? (ae bc 4)=some (ci rk)∧W.cell? (ae bc 5)=some (ci sr)∧W.cell? (ae bc 6)=some (ci mo)∧W.cell? (ae bc 7)=some (ci fl)∧W.cell? (ae bc 8)=some (.bool fb)∧W.cell? (ae bc 9)=some (.slice sa SL.length sc)∧W.cell? (ae bc 10)=some (.slice wa wl.length wc)):=al fun W n h=>h;have hC0:=hU.at _ ⟨HV.k 10,HC.k 0,HC.k 1,HC.k 2,HC.k 3,HC.k 4,HC.k 5,HC.k 6,HC.k 7,HC.k 8,HC.k 9,HC.k 10⟩;refine dw aj hU hC0 ?_;intro S;generalize w2.drew=u0 at *;refine ao S hU [0,1,2,3,4,5,6,7,8,9] 62 2 hC0 ?_;constructor
   ·intro W' hW';simp only[pick,List.filterMap,gq1,gq2,gq3];obtain⟨q0,q1,q2,q3,q4,q5,q6,q7,q8,q9,q10,q11⟩:=hW'
    repeat (go_big_quiet_step (fail))
    exact wpQuiet_nil rfl
   refine az S hU 10 1 rfl hC0 fun n0 K1 hK1=>?_;have lo_O:w.heap.size≤((u0.drewN n0)).heap.size:=(below_drewN HB.o n0).size;go_wp2_with fail;have ne_bc_O:bc≠(u0.drewN n0).heap.size:=nnl (HC.o.drewN n0).lt;have ne_O_bc:=ne_bc_O.symm;have ne_V_O:V≠(u0.drewN n0).heap.size:=nnl (HV.o.drewN n0).lt;have ne_O_V:=ne_V_O.symm;have HO:=qh (Row.new (u0.drewN n0) 122 #[pt V,.pointer (some ⟨v.Y,i*3,none⟩),ci i,ci kd,ci tp,ci sb,ci cp,ci rk,ci sr,ci mo,ci fl,.bool fb,.slice sa SL.length sc,.slice wa wl.length wc,.nilFunc,.bool false,ci 0,ci 0,cu 0,ci 0,cu 0,ci 0,ci 0,.bool false,ci 0,cu 0,zn,zn,ci 0,ci 0]);revert HS2 HS1 HV HB HC
   refine cq (sal u0 n0 (.cells #[pt V,.pointer (some ⟨v.Y,i*3,none⟩),ci i,ci kd,ci tp,ci sb,ci cp,ci rk,ci sr,ci mo,ci fl,.bool fb,.slice sa SL.length sc,.slice wa wl.length wc,.nilFunc,.bool false,ci 0,ci 0,cu 0,ci 0,cu 0,ci 0,ci 0,.bool false,ci 0,cu 0,zn,zn,ci 0,ci 0] 122)) ?_;intro HS2 HS1 HV HB HC;have hC1:=hU.at _ ⟨HV.k 10,HC.k 0,HC.k 1,HC.k 2,HC.k 3,HC.k 4,HC.k 5,HC.k 6,HC.k 7,HC.k 8,HC.k 9,HC.k 10⟩;refine hK1 _ _ hC1 ?_;clear hK1 hC0;have hzN:(u0.drewN n0).heap.size=u0.heap.size:=rfl;simp only[hzN] at *;clear hzN;generalize u0.heap.size=O at *;generalize ((u0.drewN n0).alloc (.cells #[pt V,.pointer (some ⟨v.Y,i*3,none⟩),ci i,ci kd,ci tp,ci sb,ci cp,ci rk,ci sr,ci mo,ci fl,.bool fb,.slice sa SL.length sc,.slice wa wl.length wc,.nilFunc,.bool false,ci 0,ci 0,cu 0,ci 0,cu 0,ci 0,ci 0,.bool false,ci 0,cu 0,zn,zn,ci 0,ci 0] 122))=u1 at *;refine ao S hU [11] 62 0 hC1 ?_
   constructor
   ·intro W' hW';simp only[pick,List.filterMap,gq1,gq2,gq3];obtain⟨q0,q1,q2,q3,q4,q5,q6,q7,q8,q9,q10,q11⟩:=hW'
    repeat (go_big_quiet_step (fail))
    exact wpQuiet_nil rfl
   refine dd fun n9=>?_;revert HS2 HS1 HV HB HC HO;refine cq (sdw u1 n9) ?_;intro HS2 HS1 HV HB HC HO;clear S hU hC1;generalize u1.drewN n9=w3 at *;go_wp2_with fail;have hs3:ab [] w w3:=ab.of_below HB.o;have lV:=HVEH.o.hv.lt;have lA:=HVEH.o.bank.wd.lt
   have lB:v.B<w.heap.size:=by
    obtain⟨k,hk⟩:=HVEH.o.bank.hd;exact hk.lt
   have lG:v.G<w.heap.size:=by
    obtain⟨cur,hr,_⟩:=HVEH.o.spots.ex;exact hr.lt
   have lY:v.Y<w.heap.size:=by
    obtain⟨cur,hr,_⟩:=HVEH.o.owns.ex;exact hr.lt
   have low:=HVEH.o.low;have lO3:=HO.o.lt
   have hsep:∀b,(T b∨(w.heap.size≤b∧b≠O))→4<b∧b≠V∧b≠v.B∧b≠A∧b≠v.G∧b≠v.Y∧b≠O:=fun b hb=>by
    rcases hb with hb|⟨hb,hne⟩
    ·have:=hT b hb;omega
    ·omega
   have hnil:jw E w3 V v A ws ows:=HVEH.o.turn hs3 (HVEH.o.bank.same hs3 (by simp) (by simp)) rfl (HVEH.o.owns.same hs3 (by simp)) rfl (fun _ hb=>by cases hb)
   have hBC:qn E w3 (fun b=>T b∨(w.heap.size≤b∧b≠O)) V v A ws ows i O ⟨kd,tp,sb,cp,rk,sr,mo,fl,fb,.slice sa SL.length sc,.slice wa wl.length wc,.nilFunc,false,0,0,0,0,0,⟨0,0,false,0,0⟩,zn,zn,0,0⟩ ow f sl c SL wl:=
    ⟨⟨HO.o,hnil,HI.o,HOWN.o.same hs3 (io T) (fun b h=>Or.inl h),hsep,by omega,hseqs,hE,hc,by show (0:Nat)≤1000;omega⟩,⟨rfl,rfl,rfl,rfl,rfl⟩,by
     have hoff:=ck HS1.o HO.o (by decide);have hge:=fw HS1.o;rcases HS1.o.2 with ⟨e1,e2⟩|⟨g,cap,cur,e,g1,g2,g3,g4,g5,g6⟩
     ·exact Or.inl ⟨e1,List.length_eq_zero_iff.1 e2⟩
     ·refine Or.inr ⟨g,cap,e,g3,Or.inr ⟨g1,fun h=>?_⟩,⟨cur,Row.mk g2,by rw[qu];exact g6⟩⟩;subst h;exact absurd ((Row.mk g2).inj HO.o).1 (by decide),j5 HS2.o⟩
   have HBC:=qh hBC;clear hBC hnil;refine(b0r HBC.o hSL).mono ?_;rintro e W4 ⟨fv,k2,rfl,hb,m,hbeg,hmach⟩;obtain⟨fd,caps,hfv,-⟩:=hmach.fn;have hfv:fv=_:=hfv;subst hfv;have HM:=qh hmach;have HBG:=qh hbeg;clear hmach hbeg;have ho4:=HO.o.bel hb;have hf1:=ho4.free;have c14:=ho4.k 14;have ne_O_Y:O≠v.Y:=by omega
   have hy4:=(HVEH.o.owns.same hs3 (by simp)).bel hb;have R1:=qh ((ho4.set 14 (.func (.func fd) #[] caps)).to (cs':=#[pt V,.pointer (some ⟨v.Y,i*3,none⟩),ci i,ci kd,ci tp,ci sb,ci cp,ci rk,ci sr,ci mo,ci fl,.bool fb,.slice sa SL.length sc,.slice wa wl.length wc,.func (.func fd) #[] caps,.bool false,ci 0,ci 0,cu 0,ci 0,cu 0,ci 0,ci 0,.bool false,ci 0,cu 0,zn,zn,ci 0,ci 0]) rfl);have Y1:=qh (hy4.other (a:=⟨O,14,none⟩) ne_O_Y.symm (.func (.func fd) #[] caps));have S1:=qh ((ab.refl [O,v.Y] W4).sc O 14 (.func (.func fd) #[] caps));have c1:=R1.k 1;have hf2:=Y1.o.free;have cy:=(f7.c Y1.o HI.o).2.2;have R2:=qh (R1.o.ot ne_O_Y (i*3+2) (pt O));have Y2:=qh (Y1.o.set Own.enc_len (k:=i) (j:=2) (x:=ow) (x':={ow with op:=some O}) (v:=pt O) HI.o (by decide) rfl);have S2:=qh (S1.o.sc v.Y (i*3+2) (pt O));go_wp2_with fail
   go_ret2
   have hs5:ab [O,v.Y] w _:=(hs3.bel hb).trans S2.o;obtain⟨p1,p2,p3,p4,p5,p6,p7,p8,p9,p10,p11,p12,p13,p14⟩:=HBC.o.x.neO;have hw4:=hb.size;refine⟨O,(⟨kd,tp,sb,cp,rk,sr,mo,fl,fb,.slice sa SL.length sc,.slice wa wl.length wc,.func (.func fd) #[] caps,false,0,0,0,0,0,⟨0,0,false,0,0⟩,zn,zn,0,0⟩:OpC),rfl,lo_O,hs5.mono (fun x hx hl=>?_),R2.o,rfl,rfl,?_,m,HBG.o,?_⟩
   ·simp only[List.mem_cons,List.not_mem_nil,or_false] at hx ⊢;omega
   ·refine HVEH.o.turn hs5 (HVEH.o.bank.same hs5 ?_ ?_) rfl Y2.o (by simp) fun b hx=>?_
    ·simp only[List.mem_cons,List.not_mem_nil,or_false,not_or];omega
    ·simp only[List.mem_cons,List.not_mem_nil,or_false,not_or];omega
    ·simp only[List.mem_cons,List.not_mem_nil,or_false] at hx;omega
   ·refine HM.o.same S2.o (fun b hx ht=>?_) (fun b ht=>?_)
    ·have hb':b=O∨b=v.Y:=by simpa using hx
     rcases ht with ht|ht
     ·have:=hsep b ht;omega
     ·omega
    ·rcases ht with ht|ht
     ·exact ht
     ·exact Or.inr (by have:=HB.o.size;omega)
  ·intro W1 hrW1 hcW1 K1 hK1;obtain⟨n1,rfl⟩:=hrW1;clear hcW1;have hcw:=(HC.o.drewN n1).k 10;go_wp2_with fail;revert HV HB HC;refine cq (sdw v1 n1) ?_;intro HV HB HC;have hC2:(fun W=>True) (v1.drewN n1):=trivial;refine hK1 _ _ hC2 ?_;clear hK1 hC1;generalize (v1.drewN n1)=v2 at *;clear hcw;refine az S hU 2 5 rfl hC2 fun n2 K1 hK1=>?_;go_wp2_with fail;refine(lh ((HSET).o.bel (below_drewN HB.o n2)) (vp SL) (by omega)).mono ?_;rintro e W2x ⟨v2,rfl,hb,hown,-⟩;obtain⟨sa,sc,rfl⟩:=ax hown;go_wp2_with fail;have HS1:=qh (f9 hown ((below_drewN HB.o n2).size));revert HV HB HC;refine cq (sbl hb) ?_;intro HV HB HC;have hC3:(fun W=>True) W2x:=trivial;refine hK1 _ _ hC3 ?_;clear hK1 hC2;clear hb hown;refine ao S hU [6] 62 4 hC3 ?_;constructor
   ·intro W' hW';simp only[pick,List.filterMap,gq1,gq2,gq3]
    repeat (go_big_quiet_step (fail))
    exact wpQuiet_nil rfl
   refine az S hU 5 3 rfl hC3 fun n3 K1 hK1=>?_;go_wp2_with fail;refine(ez ((HWDS).o.bel (below_drewN HB.o n3)) (je wl) (by omega)).mono ?_;rintro e W5x ⟨v5,rfl,hb,hown,-⟩;obtain⟨wa,wc,rfl⟩:=ax hown;go_wp2_with fail;have HS2:=qh (f9 hown ((below_drewN HB.o n3).size));revert HS1 HV HB HC;refine cq (sbl hb) ?_;intro HS1 HV HB HC;have hC4:(fun W=>True) W5x:=trivial;refine hK1 _ _ hC4 ?_;clear hK1 hC3;clear hb hown;have ne_HS1_bc:=a6 HS1.o HC.o (by decide);have ne_HS2_bc:=a6 HS2.o HC.o (by decide);refine az S hU 7 2 rfl hC4 fun n4 K1 hK1=>?_;have hfz:=(HC.o.drewN n4).free;have hcw:=(HC.o.drewN n4).k 9;go_wp2_with fail;clear hfz hcw;replace HC:=qh (((HC.o.drewN n4).set 9 (.slice sa SL.length sc)).to (cs':=#[ci kd,ci tp,ci sb,ci cp,ci rk,ci sr,ci mo,ci fl,.bool fb,.slice sa SL.length sc,.slice wa0 wl.length wc0]) rfl);revert HS2 HS1 HV HB
   refine cm (sst W5x n4 bc 9 (.slice sa SL.length sc)) ⟨no1 ne_HS2_bc,no1 ne_HS1_bc,nn ne_V_bc,mn lo_bc,trivial⟩ ?_;intro HS2 HS1 HV HB;have hC5:(fun W=>True) ((W5x.drewN n4).setCell ⟨bc,9,none⟩ (.slice sa SL.length sc)):=trivial;refine hK1 _ _ hC5 ?_;clear hK1 hC4;generalize ((W5x.drewN n4).setCell ⟨bc,9,none⟩ (.slice sa SL.length sc))=u5 at *;refine ao S hU [8] 62 1 hC5 ?_;constructor
   ·intro W' hW';simp only[pick,List.filterMap,gq1,gq2,gq3]
    repeat (go_big_quiet_step (fail))
    exact wpQuiet_nil rfl
   have ne_HS1_bc:=a6 HS1.o HC.o (by decide);have ne_HS2_bc:=a6 HS2.o HC.o (by decide);refine az S hU 9 0 rfl hC5 fun n5 K1 hK1=>?_;have hfz:=(HC.o.drewN n5).free;have hcw:=(HC.o.drewN n5).k 10;go_wp2_with fail;clear hfz hcw;replace HC:=qh (((HC.o.drewN n5).set 10 (.slice wa wl.length wc)).to (cs':=#[ci kd,ci tp,ci sb,ci cp,ci rk,ci sr,ci mo,ci fl,.bool fb,.slice sa SL.length sc,.slice wa wl.length wc]) rfl);revert HS2 HS1 HV HB;refine cm (sst u5 n5 bc 10 (.slice wa wl.length wc)) ⟨no1 ne_HS2_bc,no1 ne_HS1_bc,nn ne_V_bc,mn lo_bc,trivial⟩ ?_;intro HS2 HS1 HV HB;have hC6:(fun W=>True) ((u5.drewN n5).setCell ⟨bc,10,none⟩ (.slice wa wl.length wc)):=trivial;refine hK1 _ _ hC6 ?_;clear hK1 hC5;generalize ((u5.drewN n5).setCell ⟨bc,10,none⟩ (.slice wa wl.length wc))=u6 at *;refine dd fun n9=>?_;revert HC HS2 HS1 HV HB;refine cq (sdw u6 n9) ?_;intro HC HS2 HS1 HV HB
   clear S hU hC6;generalize u6.drewN n9=w2 at *;go_wp2_with fail;revert HC;revert HB;revert HV;revert HS1;revert HS2
   refine cq (sdz w2) ?_;intro HS2 HS1 HV HB HC;have hU:UD (fun W=>W.cell? (ae V 10)=some (zl v.Y v.T v.yk)∧W.cell? (ae bc 0)=some (ci kd)∧W.cell? (ae bc 1)=some (ci tp)∧W.cell? (ae bc 2)=some (ci sb)∧W.cell? (ae bc 3)=some (ci cp)∧W.cell? (ae bc 4)=some (ci rk)∧W.cell? (ae bc 5)=some (ci sr)∧W.cell? (ae bc 6)=some (ci mo)∧W.cell? (ae bc 7)=some (ci fl)∧W.cell? (ae bc 8)=some (.bool fb)∧W.cell? (ae bc 9)=some (.slice sa SL.length sc)∧W.cell? (ae bc 10)=some (.slice wa wl.length wc)):=al fun W n h=>h;have hC0:=hU.at _ ⟨HV.k 10,HC.k 0,HC.k 1,HC.k 2,HC.k 3,HC.k 4,HC.k 5,HC.k 6,HC.k 7,HC.k 8,HC.k 9,HC.k 10⟩;refine dw aj hU hC0 ?_;intro S;generalize w2.drew=u0 at *;refine ao S hU [0,1,2,3,4,5,6,7,8,9] 62 2 hC0 ?_;constructor
   ·intro W' hW';simp only[pick,List.filterMap,gq1,gq2,gq3];obtain⟨q0,q1,q2,q3,q4,q5,q6,q7,q8,q9,q10,q11⟩:=hW'
    repeat (go_big_quiet_step (fail))
    exact wpQuiet_nil rfl
   refine az S hU 10 1 rfl hC0 fun n0 K1 hK1=>?_;have lo_O:w.heap.size≤((u0.drewN n0)).heap.size:=(below_drewN HB.o n0).size;go_wp2_with fail;have ne_bc_O:bc≠(u0.drewN n0).heap.size:=nnl (HC.o.drewN n0).lt;have ne_O_bc:=ne_bc_O.symm;have ne_V_O:V≠(u0.drewN n0).heap.size:=nnl (HV.o.drewN n0).lt;have ne_O_V:=ne_V_O.symm;have HO:=qh (Row.new (u0.drewN n0) 122 #[pt V,.pointer (some ⟨v.Y,i*3,none⟩),ci i,ci kd,ci tp,ci sb,ci cp,ci rk,ci sr,ci mo,ci fl,.bool fb,.slice sa SL.length sc,.slice wa wl.length wc,.nilFunc,.bool false,ci 0,ci 0,cu 0,ci 0,cu 0,ci 0,ci 0,.bool false,ci 0,cu 0,zn,zn,ci 0,ci 0]);revert HS2 HS1 HV HB HC
   refine cq (sal u0 n0 (.cells #[pt V,.pointer (some ⟨v.Y,i*3,none⟩),ci i,ci kd,ci tp,ci sb,ci cp,ci rk,ci sr,ci mo,ci fl,.bool fb,.slice sa SL.length sc,.slice wa wl.length wc,.nilFunc,.bool false,ci 0,ci 0,cu 0,ci 0,cu 0,ci 0,ci 0,.bool false,ci 0,cu 0,zn,zn,ci 0,ci 0] 122)) ?_;intro HS2 HS1 HV HB HC;have hC1:=hU.at _ ⟨HV.k 10,HC.k 0,HC.k 1,HC.k 2,HC.k 3,HC.k 4,HC.k 5,HC.k 6,HC.k 7,HC.k 8,HC.k 9,HC.k 10⟩;refine hK1 _ _ hC1 ?_;clear hK1 hC0;have hzN:(u0.drewN n0).heap.size=u0.heap.size:=rfl;simp only[hzN] at *;clear hzN;generalize u0.heap.size=O at *;generalize ((u0.drewN n0).alloc (.cells #[pt V,.pointer (some ⟨v.Y,i*3,none⟩),ci i,ci kd,ci tp,ci sb,ci cp,ci rk,ci sr,ci mo,ci fl,.bool fb,.slice sa SL.length sc,.slice wa wl.length wc,.nilFunc,.bool false,ci 0,ci 0,cu 0,ci 0,cu 0,ci 0,ci 0,.bool false,ci 0,cu 0,zn,zn,ci 0,ci 0] 122))=u1 at *;refine ao S hU [11] 62 0 hC1 ?_
   constructor
   ·intro W' hW';simp only[pick,List.filterMap,gq1,gq2,gq3];obtain⟨q0,q1,q2,q3,q4,q5,q6,q7,q8,q9,q10,q11⟩:=hW'
    repeat (go_big_quiet_step (fail))
    exact wpQuiet_nil rfl
   refine dd fun n9=>?_;revert HS2 HS1 HV HB HC HO;refine cq (sdw u1 n9) ?_;intro HS2 HS1 HV HB HC HO;clear S hU hC1;generalize u1.drewN n9=w3 at *;go_wp2_with fail;have hs3:ab [] w w3:=ab.of_below HB.o;have lV:=HVEH.o.hv.lt;have lA:=HVEH.o.bank.wd.lt
   have lB:v.B<w.heap.size:=by
    obtain⟨k,hk⟩:=HVEH.o.bank.hd;exact hk.lt
   have lG:v.G<w.heap.size:=by
    obtain⟨cur,hr,_⟩:=HVEH.o.spots.ex;exact hr.lt
   have lY:v.Y<w.heap.size:=by
    obtain⟨cur,hr,_⟩:=HVEH.o.owns.ex;exact hr.lt
   have low:=HVEH.o.low;have lO3:=HO.o.lt
   have hsep:∀b,(T b∨(w.heap.size≤b∧b≠O))→4<b∧b≠V∧b≠v.B∧b≠A∧b≠v.G∧b≠v.Y∧b≠O:=fun b hb=>by
    rcases hb with hb|⟨hb,hne⟩
    ·have:=hT b hb;omega
    ·omega
   have hnil:jw E w3 V v A ws ows:=HVEH.o.turn hs3 (HVEH.o.bank.same hs3 (by simp) (by simp)) rfl (HVEH.o.owns.same hs3 (by simp)) rfl (fun _ hb=>by cases hb)
   have hBC:qn E w3 (fun b=>T b∨(w.heap.size≤b∧b≠O)) V v A ws ows i O ⟨kd,tp,sb,cp,rk,sr,mo,fl,fb,.slice sa SL.length sc,.slice wa wl.length wc,.nilFunc,false,0,0,0,0,0,⟨0,0,false,0,0⟩,zn,zn,0,0⟩ ow f sl c SL wl:=
    ⟨⟨HO.o,hnil,HI.o,HOWN.o.same hs3 (io T) (fun b h=>Or.inl h),hsep,by omega,hseqs,hE,hc,by show (0:Nat)≤1000;omega⟩,⟨rfl,rfl,rfl,rfl,rfl⟩,by
     have hoff:=ck HS1.o HO.o (by decide);have hge:=fw HS1.o;rcases HS1.o.2 with ⟨e1,e2⟩|⟨g,cap,cur,e,g1,g2,g3,g4,g5,g6⟩
     ·exact Or.inl ⟨e1,List.length_eq_zero_iff.1 e2⟩
     ·refine Or.inr ⟨g,cap,e,g3,Or.inr ⟨g1,fun h=>?_⟩,⟨cur,Row.mk g2,by rw[qu];exact g6⟩⟩;subst h;exact absurd ((Row.mk g2).inj HO.o).1 (by decide),j5 HS2.o⟩
   have HBC:=qh hBC;clear hBC hnil;refine(b0r HBC.o hSL).mono ?_;rintro e W4 ⟨fv,k2,rfl,hb,m,hbeg,hmach⟩;obtain⟨fd,caps,hfv,-⟩:=hmach.fn;have hfv:fv=_:=hfv;subst hfv;have HM:=qh hmach;have HBG:=qh hbeg;clear hmach hbeg;have ho4:=HO.o.bel hb;have hf1:=ho4.free;have c14:=ho4.k 14;have ne_O_Y:O≠v.Y:=by omega
   have hy4:=(HVEH.o.owns.same hs3 (by simp)).bel hb;have R1:=qh ((ho4.set 14 (.func (.func fd) #[] caps)).to (cs':=#[pt V,.pointer (some ⟨v.Y,i*3,none⟩),ci i,ci kd,ci tp,ci sb,ci cp,ci rk,ci sr,ci mo,ci fl,.bool fb,.slice sa SL.length sc,.slice wa wl.length wc,.func (.func fd) #[] caps,.bool false,ci 0,ci 0,cu 0,ci 0,cu 0,ci 0,ci 0,.bool false,ci 0,cu 0,zn,zn,ci 0,ci 0]) rfl);have Y1:=qh (hy4.other (a:=⟨O,14,none⟩) ne_O_Y.symm (.func (.func fd) #[] caps));have S1:=qh ((ab.refl [O,v.Y] W4).sc O 14 (.func (.func fd) #[] caps));have c1:=R1.k 1;have hf2:=Y1.o.free;have cy:=(f7.c Y1.o HI.o).2.2;have R2:=qh (R1.o.ot ne_O_Y (i*3+2) (pt O));have Y2:=qh (Y1.o.set Own.enc_len (k:=i) (j:=2) (x:=ow) (x':={ow with op:=some O}) (v:=pt O) HI.o (by decide) rfl);have S2:=qh (S1.o.sc v.Y (i*3+2) (pt O));go_wp2_with fail
   go_ret2
   have hs5:ab [O,v.Y] w _:=(hs3.bel hb).trans S2.o;obtain⟨p1,p2,p3,p4,p5,p6,p7,p8,p9,p10,p11,p12,p13,p14⟩:=HBC.o.x.neO;have hw4:=hb.size;refine⟨O,(⟨kd,tp,sb,cp,rk,sr,mo,fl,fb,.slice sa SL.length sc,.slice wa wl.length wc,.func (.func fd) #[] caps,false,0,0,0,0,0,⟨0,0,false,0,0⟩,zn,zn,0,0⟩:OpC),rfl,lo_O,hs5.mono (fun x hx hl=>?_),R2.o,rfl,rfl,?_,m,HBG.o,?_⟩
   ·simp only[List.mem_cons,List.not_mem_nil,or_false] at hx ⊢;omega
   ·refine HVEH.o.turn hs5 (HVEH.o.bank.same hs5 ?_ ?_) rfl Y2.o (by simp) fun b hx=>?_
    ·simp only[List.mem_cons,List.not_mem_nil,or_false,not_or];omega
    ·simp only[List.mem_cons,List.not_mem_nil,or_false,not_or];omega
    ·simp only[List.mem_cons,List.not_mem_nil,or_false] at hx;omega
   ·refine HM.o.same S2.o (fun b hx ht=>?_) (fun b ht=>?_)
    ·have hb':b=O∨b=v.Y:=by simpa using hx
     rcases ht with ht|ht
     ·have:=hsep b ht;omega
     ·omega
    ·rcases ht with ht|ht
     ·exact ht
     ·exact Or.inr (by have:=HB.o.size;omega)
 ·intro W1 hrW1 hcW1 K1 hK1;obtain⟨n0,rfl⟩:=hrW1;clear hcW1;have hcw:=(HC.o.drewN n0).k 10;go_wp2_with fail;revert HV HB HC;refine cq (sdw u0 n0) ?_;intro HV HB HC;have hC1:(fun W=>True) (u0.drewN n0):=trivial;refine hK1 _ _ hC1 ?_;clear hK1 hC0;generalize (u0.drewN n0)=v1 at *;clear hcw;refine az S hU 1 6 rfl hC1 fun n1 K1 hK1=>?_;have hcw:=(HC.o.drewN n1).k 9;go_wp2_with fail;revert HV HB HC;refine cq (sdw v1 n1) ?_;intro HV HB HC;have hC2:(fun W=>True) (v1.drewN n1):=trivial;refine hK1 _ _ hC2 ?_;clear hK1 hC1;generalize (v1.drewN n1)=v2 at *;clear hcw;refine az S hU 2 5 rfl hC2 fun n2 K1 hK1=>?_;go_wp2_with fail;refine(lh ((HSET).o.bel (below_drewN HB.o n2)) (vp SL) (by omega)).mono ?_;rintro e W2x ⟨v2,rfl,hb,hown,-⟩;obtain⟨sa,sc,rfl⟩:=ax hown;go_wp2_with fail;have HS1:=qh (f9 hown ((below_drewN HB.o n2).size));revert HV HB HC
  refine cq (sbl hb) ?_;intro HV HB HC;have hC3:(fun W=>True) W2x:=trivial;refine hK1 _ _ hC3 ?_;clear hK1 hC2;clear hb hown;refine ao S hU [6] 62 4 hC3 ?_;constructor
  ·intro W' hW';simp only[pick,List.filterMap,gq1,gq2,gq3]
   repeat (go_big_quiet_step (fail))
   exact wpQuiet_nil rfl
  refine az S hU 5 3 rfl hC3 fun n3 K1 hK1=>?_;go_wp2_with fail;refine(ez ((HWDS).o.bel (below_drewN HB.o n3)) (je wl) (by omega)).mono ?_;rintro e W5x ⟨v5,rfl,hb,hown,-⟩;obtain⟨wa,wc,rfl⟩:=ax hown;go_wp2_with fail;have HS2:=qh (f9 hown ((below_drewN HB.o n3).size));revert HS1 HV HB HC;refine cq (sbl hb) ?_;intro HS1 HV HB HC;have hC4:(fun W=>True) W5x:=trivial;refine hK1 _ _ hC4 ?_;clear hK1 hC3;clear hb hown;have ne_HS1_bc:=a6 HS1.o HC.o (by decide);have ne_HS2_bc:=a6 HS2.o HC.o (by decide);refine az S hU 7 2 rfl hC4 fun n4 K1 hK1=>?_;have hfz:=(HC.o.drewN n4).free;have hcw:=(HC.o.drewN n4).k 9;go_wp2_with fail;clear hfz hcw;replace HC:=qh (((HC.o.drewN n4).set 9 (.slice sa SL.length sc)).to (cs':=#[ci kd,ci tp,ci sb,ci cp,ci rk,ci sr,ci mo,ci fl,.bool fb,.slice sa SL.length sc,.slice wa0 wl.length wc0]) rfl);revert HS2 HS1 HV HB
  refine cm (sst W5x n4 bc 9 (.slice sa SL.length sc)) ⟨no1 ne_HS2_bc,no1 ne_HS1_bc,nn ne_V_bc,mn lo_bc,trivial⟩ ?_;intro HS2 HS1 HV HB;have hC5:(fun W=>True) ((W5x.drewN n4).setCell ⟨bc,9,none⟩ (.slice sa SL.length sc)):=trivial;refine hK1 _ _ hC5 ?_;clear hK1 hC4;generalize ((W5x.drewN n4).setCell ⟨bc,9,none⟩ (.slice sa SL.length sc))=u5 at *;refine ao S hU [8] 62 1 hC5 ?_;constructor
  ·intro W' hW';simp only[pick,List.filterMap,gq1,gq2,gq3]
   repeat (go_big_quiet_step (fail))
   exact wpQuiet_nil rfl
  have ne_HS1_bc:=a6 HS1.o HC.o (by decide);have ne_HS2_bc:=a6 HS2.o HC.o (by decide);refine az S hU 9 0 rfl hC5 fun n5 K1 hK1=>?_;have hfz:=(HC.o.drewN n5).free;have hcw:=(HC.o.drewN n5).k 10;go_wp2_with fail;clear hfz hcw;replace HC:=qh (((HC.o.drewN n5).set 10 (.slice wa wl.length wc)).to (cs':=#[ci kd,ci tp,ci sb,ci cp,ci rk,ci sr,ci mo,ci fl,.bool fb,.slice sa SL.length sc,.slice wa wl.length wc]) rfl);revert HS2 HS1 HV HB;refine cm (sst u5 n5 bc 10 (.slice wa wl.length wc)) ⟨no1 ne_HS2_bc,no1 ne_HS1_bc,nn ne_V_bc,mn lo_bc,trivial⟩ ?_;intro HS2 HS1 HV HB;have hC6:(fun W=>True) ((u5.drewN n5).setCell ⟨bc,10,none⟩ (.slice wa wl.length wc)):=trivial;refine hK1 _ _ hC6 ?_;clear hK1 hC5;generalize ((u5.drewN n5).setCell ⟨bc,10,none⟩ (.slice wa wl.length wc))=u6 at *;refine dd fun n9=>?_;revert HC HS2 HS1 HV HB;refine cq (sdw u6 n9) ?_;intro HC HS2 HS1 HV HB
  clear S hU hC6;generalize u6.drewN n9=w2 at *;go_wp2_with fail;revert HC;revert HB;revert HV;revert HS1;revert HS2
  refine cq (sdz w2) ?_;intro HS2 HS1 HV HB HC;have hU:UD (fun W=>W.cell? (ae V 10)=some (zl v.Y v.T v.yk)∧W.cell? (ae bc 0)=some (ci kd)∧W.cell? (ae bc 1)=some (ci tp)∧W.cell? (ae bc 2)=some (ci sb)∧W.cell? (ae bc 3)=some (ci cp)∧W.cell? (ae bc 4)=some (ci rk)∧W.cell? (ae bc 5)=some (ci sr)∧W.cell? (ae bc 6)=some (ci mo)∧W.cell? (ae bc 7)=some (ci fl)∧W.cell? (ae bc 8)=some (.bool fb)∧W.cell? (ae bc 9)=some (.slice sa SL.length sc)∧W.cell? (ae bc 10)=some (.slice wa wl.length wc)):=al fun W n h=>h;have hC0:=hU.at _ ⟨HV.k 10,HC.k 0,HC.k 1,HC.k 2,HC.k 3,HC.k 4,HC.k 5,HC.k 6,HC.k 7,HC.k 8,HC.k 9,HC.k 10⟩;refine dw aj hU hC0 ?_;intro S;generalize w2.drew=u0 at *;refine ao S hU [0,1,2,3,4,5,6,7,8,9] 62 2 hC0 ?_;constructor
  ·intro W' hW';simp only[pick,List.filterMap,gq1,gq2,gq3];obtain⟨q0,q1,q2,q3,q4,q5,q6,q7,q8,q9,q10,q11⟩:=hW'
   repeat (go_big_quiet_step (fail))
   exact wpQuiet_nil rfl
  refine az S hU 10 1 rfl hC0 fun n0 K1 hK1=>?_;have lo_O:w.heap.size≤((u0.drewN n0)).heap.size:=(below_drewN HB.o n0).size;go_wp2_with fail;have ne_bc_O:bc≠(u0.drewN n0).heap.size:=nnl (HC.o.drewN n0).lt;have ne_O_bc:=ne_bc_O.symm;have ne_V_O:V≠(u0.drewN n0).heap.size:=nnl (HV.o.drewN n0).lt;have ne_O_V:=ne_V_O.symm;have HO:=qh (Row.new (u0.drewN n0) 122 #[pt V,.pointer (some ⟨v.Y,i*3,none⟩),ci i,ci kd,ci tp,ci sb,ci cp,ci rk,ci sr,ci mo,ci fl,.bool fb,.slice sa SL.length sc,.slice wa wl.length wc,.nilFunc,.bool false,ci 0,ci 0,cu 0,ci 0,cu 0,ci 0,ci 0,.bool false,ci 0,cu 0,zn,zn,ci 0,ci 0]);revert HS2 HS1 HV HB HC
  refine cq (sal u0 n0 (.cells #[pt V,.pointer (some ⟨v.Y,i*3,none⟩),ci i,ci kd,ci tp,ci sb,ci cp,ci rk,ci sr,ci mo,ci fl,.bool fb,.slice sa SL.length sc,.slice wa wl.length wc,.nilFunc,.bool false,ci 0,ci 0,cu 0,ci 0,cu 0,ci 0,ci 0,.bool false,ci 0,cu 0,zn,zn,ci 0,ci 0] 122)) ?_;intro HS2 HS1 HV HB HC;have hC1:=hU.at _ ⟨HV.k 10,HC.k 0,HC.k 1,HC.k 2,HC.k 3,HC.k 4,HC.k 5,HC.k 6,HC.k 7,HC.k 8,HC.k 9,HC.k 10⟩;refine hK1 _ _ hC1 ?_;clear hK1 hC0;have hzN:(u0.drewN n0).heap.size=u0.heap.size:=rfl;simp only[hzN] at *;clear hzN;generalize u0.heap.size=O at *;generalize ((u0.drewN n0).alloc (.cells #[pt V,.pointer (some ⟨v.Y,i*3,none⟩),ci i,ci kd,ci tp,ci sb,ci cp,ci rk,ci sr,ci mo,ci fl,.bool fb,.slice sa SL.length sc,.slice wa wl.length wc,.nilFunc,.bool false,ci 0,ci 0,cu 0,ci 0,cu 0,ci 0,ci 0,.bool false,ci 0,cu 0,zn,zn,ci 0,ci 0] 122))=u1 at *;refine ao S hU [11] 62 0 hC1 ?_;constructor
  ·intro W' hW';simp only[pick,List.filterMap,gq1,gq2,gq3];obtain⟨q0,q1,q2,q3,q4,q5,q6,q7,q8,q9,q10,q11⟩:=hW'
   repeat (go_big_quiet_step (fail))
   exact wpQuiet_nil rfl
  refine dd fun n9=>?_;revert HS2 HS1 HV HB HC HO;refine cq (sdw u1 n9) ?_;intro HS2 HS1 HV HB HC HO;clear S hU hC1;generalize u1.drewN n9=w3 at *;go_wp2_with fail;have hs3:ab [] w w3:=ab.of_below HB.o;have lV:=HVEH.o.hv.lt;have lA:=HVEH.o.bank.wd.lt
  have lB:v.B<w.heap.size:=by
   obtain⟨k,hk⟩:=HVEH.o.bank.hd;exact hk.lt
  have lG:v.G<w.heap.size:=by
   obtain⟨cur,hr,_⟩:=HVEH.o.spots.ex;exact hr.lt
  have lY:v.Y<w.heap.size:=by
   obtain⟨cur,hr,_⟩:=HVEH.o.owns.ex;exact hr.lt
  have low:=HVEH.o.low;have lO3:=HO.o.lt
  have hsep:∀b,(T b∨(w.heap.size≤b∧b≠O))→4<b∧b≠V∧b≠v.B∧b≠A∧b≠v.G∧b≠v.Y∧b≠O:=fun b hb=>by
   rcases hb with hb|⟨hb,hne⟩
   ·have:=hT b hb;omega
   ·omega
  have hnil:jw E w3 V v A ws ows:=HVEH.o.turn hs3 (HVEH.o.bank.same hs3 (by simp) (by simp)) rfl (HVEH.o.owns.same hs3 (by simp)) rfl (fun _ hb=>by cases hb)
  have hBC:qn E w3 (fun b=>T b∨(w.heap.size≤b∧b≠O)) V v A ws ows i O ⟨kd,tp,sb,cp,rk,sr,mo,fl,fb,.slice sa SL.length sc,.slice wa wl.length wc,.nilFunc,false,0,0,0,0,0,⟨0,0,false,0,0⟩,zn,zn,0,0⟩ ow f sl c SL wl:=
   ⟨⟨HO.o,hnil,HI.o,HOWN.o.same hs3 (io T) (fun b h=>Or.inl h),hsep,by omega,hseqs,hE,hc,by show (0:Nat)≤1000;omega⟩,⟨rfl,rfl,rfl,rfl,rfl⟩,by
    have hoff:=ck HS1.o HO.o (by decide);have hge:=fw HS1.o;rcases HS1.o.2 with ⟨e1,e2⟩|⟨g,cap,cur,e,g1,g2,g3,g4,g5,g6⟩
    ·exact Or.inl ⟨e1,List.length_eq_zero_iff.1 e2⟩
    ·refine Or.inr ⟨g,cap,e,g3,Or.inr ⟨g1,fun h=>?_⟩,⟨cur,Row.mk g2,by rw[qu];exact g6⟩⟩;subst h;exact absurd ((Row.mk g2).inj HO.o).1 (by decide),j5 HS2.o⟩
  have HBC:=qh hBC;clear hBC hnil;refine(b0r HBC.o hSL).mono ?_;rintro e W4 ⟨fv,k2,rfl,hb,m,hbeg,hmach⟩;obtain⟨fd,caps,hfv,-⟩:=hmach.fn;have hfv:fv=_:=hfv;subst hfv;have HM:=qh hmach;have HBG:=qh hbeg;clear hmach hbeg;have ho4:=HO.o.bel hb;have hf1:=ho4.free;have c14:=ho4.k 14;have ne_O_Y:O≠v.Y:=by omega
  have hy4:=(HVEH.o.owns.same hs3 (by simp)).bel hb;have R1:=qh ((ho4.set 14 (.func (.func fd) #[] caps)).to (cs':=#[pt V,.pointer (some ⟨v.Y,i*3,none⟩),ci i,ci kd,ci tp,ci sb,ci cp,ci rk,ci sr,ci mo,ci fl,.bool fb,.slice sa SL.length sc,.slice wa wl.length wc,.func (.func fd) #[] caps,.bool false,ci 0,ci 0,cu 0,ci 0,cu 0,ci 0,ci 0,.bool false,ci 0,cu 0,zn,zn,ci 0,ci 0]) rfl);have Y1:=qh (hy4.other (a:=⟨O,14,none⟩) ne_O_Y.symm (.func (.func fd) #[] caps));have S1:=qh ((ab.refl [O,v.Y] W4).sc O 14 (.func (.func fd) #[] caps));have c1:=R1.k 1;have hf2:=Y1.o.free;have cy:=(f7.c Y1.o HI.o).2.2;have R2:=qh (R1.o.ot ne_O_Y (i*3+2) (pt O));have Y2:=qh (Y1.o.set Own.enc_len (k:=i) (j:=2) (x:=ow) (x':={ow with op:=some O}) (v:=pt O) HI.o (by decide) rfl);have S2:=qh (S1.o.sc v.Y (i*3+2) (pt O));go_wp2_with fail
  go_ret2
  have hs5:ab [O,v.Y] w _:=(hs3.bel hb).trans S2.o;obtain⟨p1,p2,p3,p4,p5,p6,p7,p8,p9,p10,p11,p12,p13,p14⟩:=HBC.o.x.neO;have hw4:=hb.size;refine⟨O,(⟨kd,tp,sb,cp,rk,sr,mo,fl,fb,.slice sa SL.length sc,.slice wa wl.length wc,.func (.func fd) #[] caps,false,0,0,0,0,0,⟨0,0,false,0,0⟩,zn,zn,0,0⟩:OpC),rfl,lo_O,hs5.mono (fun x hx hl=>?_),R2.o,rfl,rfl,?_,m,HBG.o,?_⟩
  ·simp only[List.mem_cons,List.not_mem_nil,or_false] at hx ⊢;omega
  ·refine HVEH.o.turn hs5 (HVEH.o.bank.same hs5 ?_ ?_) rfl Y2.o (by simp) fun b hx=>?_
   ·simp only[List.mem_cons,List.not_mem_nil,or_false,not_or];omega
   ·simp only[List.mem_cons,List.not_mem_nil,or_false,not_or];omega
   ·simp only[List.mem_cons,List.not_mem_nil,or_false] at hx;omega
  ·refine HM.o.same S2.o (fun b hx ht=>?_) (fun b ht=>?_)
   ·have hb':b=O∨b=v.Y:=by simpa using hx
    rcases ht with ht|ht
    ·have:=hsep b ht;omega
    ·omega
   ·rcases ht with ht|ht
    ·exact ht
    ·exact Or.inr (by have:=HB.o.size;omega)
end Go.Proofs.YtojkaibpfdhmaaaGreatDoor

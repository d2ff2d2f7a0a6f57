/- How many records were published up to a time: the law's newest. -/
import Derived.Test.YtojkaibpfdhmaaaGreatDoorP16
import Derived.Test.YtojkaibpfdhmaaaGreatDoorP24
import Derived.Test.YtojkaibpfdhmaaaGreatDoorP33
import Derived.Test.YtojkaibpfdhmaaaGreatDoorP21
namespace Go.Proofs.YtojkaibpfdhmaaaGreatDoor
open Go.RowKit
set_option maxRecDepth 100000
set_option maxHeartbeats 16000000
theorem c9t(w:World)(O V Y i bp bo P g1 m1 k1 g2 m2 k2 nw:Nat)(wv:Value)(x:POp)(l:List Sub)(ts:List Tpc)(us:List Nat)(o:OpC)(ows:List Own)(ow:Own)(hr:Row w O 122 (o.cells V Y i))(h1:Row w bp 171 #[pt P])(h2:Row w bo 95 #[pt O])(hq:Row w P 228 (x.cells g1 m1 k1 g2 m2 k2 wv))(hs:eu w g1 l)(ht:ia w g2 ts)(hw:w.ownsRow 0 41 1 wv nw (bj us).toList)(hnw:nw≤64)(ho:x.how=1)(hm1:l.length=m1)(hm2:ts.length=m2)(hl1:1≤m1)(hl:m1≤64)(hl2:m2≤64)(hall:∀s∈l,∃t∈ts,t.n=s.topic)(hgen:∀t∈ts,t.gen≤1000000)(hp1:-1≤x.pick)(hp2:x.pick<m1)(hy:f7 w Y ows)(hi:ows[i]?=some ow):Calls Tryz.prog 89 #[pt bp,pt bo] w fun e w'=>∃(v' av':Value)(co' su' cn' lo':Int)(ge':Nat),e=.returned (.tuple #[])∧ab [O,Y] w w'∧Row w' O 122 (OpC.cells {o with code:=co',asub:=su',gen:=ge',count:=cn',lost:=lo',awords:=av',at_:=x.at_} V Y i) ∧
   (co'=o.code∨co'=14)∧(av'=o.awords∨w'.ownsRow w.heap.size 41 1 av' nw (bj us).toList)∧f7 w' Y (ows.set i {ow with sv:=v'})∧w'.ownsRow w.heap.size 170 6 v' m1 (l.flatMap Sub.enc):=by
 obtain⟨kd,tp,sb,cp,rk,sr,mo,fl,fb,se,wy,nx,en,co,su,ge,cn,lo,⟨zm,zs,zh,zf,ze⟩,gv,av,st,at_⟩:=o;obtain⟨om,sv,oop⟩:=ow;have ne_bo_O:=h2.ne hr (by decide);have ne_bp_O:=h1.ne hr (by decide);have ne_P_O:=hq.ne hr (by decide);have ne_g1_O:=Row.ne_arr hs hr (by decide);have ne_g2_O:=Row.ne_arr ht hr (by decide);have ne_Y_O:=Row.ne_arr hy hr (by decide);have ne_wv_O:=a6 hw hr (by decide);have ne_O_Y:=ne_Y_O.symm;have ne_bo_Y:=(Row.ne_arr hy h2 (by decide)).symm;have ne_bp_Y:=(Row.ne_arr hy h1 (by decide)).symm;have ne_P_Y:=(Row.ne_arr hy hq (by decide)).symm;have ne_wv_Y:=du hw hy (by decide);obtain⟨cy,hcy,_⟩:=hy.ex;have ne_g1_Y:=Row.ne_arr hs hcy (by decide);have ne_g2_Y:=Row.ne_arr ht hcy (by decide);have hgot:=qh (fun W (hq:Row W P 228 (x.cells g1 m1 k1 g2 m2 k2 wv)) (hw:W.ownsRow 0 41 1 wv nw (bj us).toList)=>c2j W P g1 m1 k1 g2 m2 k2 nw wv x ho hq us hw hnw)
 have hat:=qh (fun W (hq:Row W P 228 (x.cells g1 m1 k1 g2 m2 k2 wv))=>c5t W P g1 m1 k1 g2 m2 k2 wv x ho hq);have hsub:=qh (fun W (hq:Row W P 228 (x.cells g1 m1 k1 g2 m2 k2 wv)) (hs:eu W g1 l)=>b9b W P g1 m1 k1 g2 m2 k2 wv x ho hq (l.flatMap Sub.enc) (by have:=hs.has Sub.enc_len k1;rwa [hm1] at this) (Sub.enc_one l) hl);have hgens:=qh (fun W (hq:Row W P 228 (x.cells g1 m1 k1 g2 m2 k2 wv)) (hs:eu W g1 l) (ht:ia W g2 ts)=>b9c W P g1 m1 k1 g2 m2 k2 wv x l ts ho hq hm1 hm2 hl hl2 hall hs ht);have hgle:=qh (pu (l:=l) hgen);have hglen:(fk l ts).length=m1:=by simp[fk,hm1]
 generalize x.pick=pk at *;generalize x.gen=gn at *;generalize x.at_=ta at *;simp only[OpC.cells] at *;have hOl:=hr.lt;have HR:=qh hr;have H1:=qh h1;have H2:=qh h2;have HQ:=qh hq;have HG1:=qh hs;have HG2:=qh ht;have HWV:=qh hw;have HY:=qh hy;have HS:=qh (ab.refl [O,Y] w);have HI:=qh hi;have c1:=h1.k 0;clear hr h1 h2 hq hs ht hw hy hi hall hgen ho hcy
 go_enter Tryz.func89,Tryz.ntmps89
 go_wp2_with fail;refine(hgot.o w HQ.o HWV.o).mono ?_;rintro e wa ⟨gwv,rfl,hb,hv1⟩;obtain⟨ga,gc,rfl⟩:=ax hv1;clear c1 hgot;have HV1:=qh hv1;clear hv1 HWV;revert HR;revert H1;revert H2;revert HQ;revert HG1;revert HG2;revert HY;revert HS
 refine cq (sbb hb) ?_;intro HS HY HG2 HG1 HQ H2 H1 HR;clear hb;have ne_gwv_O:=a6 HV1.o HR.o (by decide);have ne_gwv_Y:=du HV1.o HY.o (by decide);go_wp2_with fail;revert HR;revert H1;revert H2;revert HQ;revert HG1;revert HG2;revert HY;revert HS;revert HV1
 refine cq (sdz wa) ?_;intro HV1 HS HY HG2 HG1 HQ H2 H1 HR;have hU:UD (fun W=>W.cell? (ae bp 0)=some (pt P)∧W.cell? (ae bo 0)=some (pt O)):=al fun W n h=>h;have hC0:=hU.at _ ⟨H1.k 0,H2.k 0⟩;refine dw aj hU hC0 ?_;intro S;generalize wa.drew=u0 at *;refine ao S hU [0,1] 74 4 hC0 ?_;constructor
 ·intro W' hW';simp only[pick,List.filterMap,gq1,gq2,gq3];obtain⟨q0,q1⟩:=hW'
  repeat (go_big_quiet_step (fail))
  exact wpQuiet_nil rfl
 refine az S hU 2 3 rfl hC0 fun n0 K1 hK1=>?_;go_wp2_with fail;refine(hat.o (u0.drewN n0) (HQ.o.drewN n0)).mono ?_;rintro e w_ ⟨rfl,rfl⟩;go_wp2_with fail;revert HV1 HS HY HG2 HG1 HQ H2 H1 HR;refine cq (sdw u0 n0) ?_;intro HV1 HS HY HG2 HG1 HQ H2 H1 HR;have hC1:=hU.at _ ⟨H1.k 0,H2.k 0⟩;refine hK1 _ _ hC1 ?_;clear hK1 hC0;generalize (u0.drewN n0)=v1 at *;refine ao S hU [3,4] 74 1 hC1 ?_;constructor
 ·intro W' hW';simp only[pick,List.filterMap,gq1,gq2,gq3];obtain⟨q0,q1⟩:=hW'
  repeat (go_big_quiet_step (fail))
  exact wpQuiet_nil rfl
 refine az S hU 5 0 rfl hC1 fun n1 K1 hK1=>?_;have hfz:=(HR.o.drewN n1).free;have hcw:=(HR.o.drewN n1).k 29;go_wp2_with fail;clear hfz hcw;replace HR:=qh (((HR.o.drewN n1).set 29 (ci ta)).to (cs':=#[pt V,.pointer (some ⟨Y,i*3,none⟩),ci i,ci kd,ci tp,ci sb,ci cp,ci rk,ci sr,ci mo,ci fl,.bool fb,se,wy,nx,.bool en,ci co,ci su,cu ge,ci cn,cu lo,ci zm,ci zs,.bool zh,ci zf,cu ze,gv,av,ci st,ci ta]) rfl);revert HV1 HS HY HG2 HG1 HQ H2 H1;refine cm (sst v1 n1 O 29 (ci ta)) ⟨no1 ne_gwv_O,mm (by simp),nn ne_Y_O,nn ne_g2_O,nn ne_g1_O,nn ne_P_O,nn ne_bo_O,nn ne_bp_O,trivial⟩ ?_;intro HV1 HS HY HG2 HG1 HQ H2 H1;have hC2:=hU.at _ ⟨H1.k 0,H2.k 0⟩;refine hK1 _ _ hC2 ?_;clear hK1 hC1;generalize ((v1.drewN n1).setCell ⟨O,29,none⟩ (ci ta))=u2 at *;refine dd fun n9=>?_;revert HR HV1 HS HY HG2 HG1 HQ H2 H1;refine cq (sdw u2 n9) ?_;intro HR HV1 HS HY HG2 HG1 HQ H2 H1;clear S hU hC2
 generalize u2.drewN n9=wb at *;go_wp2_with fail;revert HR;revert H1;revert H2;revert HQ;revert HG1;revert HG2;revert HY;revert HS;revert HV1
 refine cq (sdz wb) ?_;intro HV1 HS HY HG2 HG1 HQ H2 H1 HR;have hU:UD (fun W=>W.cell? (ae bp 0)=some (pt P)∧W.cell? (ae bo 0)=some (pt O)∧W.cell? (ae O 1)=some (.pointer (some ⟨Y,i*3,none⟩))):=al fun W n h=>h;have hC0:=hU.at _ ⟨H1.k 0,H2.k 0,HR.k 1⟩;refine dw aj hU hC0 ?_;intro S;generalize wb.drew=u0 at *;refine ao S hU [0,1,2,3,4] 74 4 hC0 ?_;constructor
 ·intro W' hW';simp only[pick,List.filterMap,gq1,gq2,gq3];obtain⟨q0,q1,q2⟩:=hW'
  repeat (go_big_quiet_step (fail))
  exact wpQuiet_nil rfl
 refine az S hU 5 3 rfl hC0 fun n0 K1 hK1=>?_;go_wp2_with fail;refine(hsub.o (u0.drewN n0) (HQ.o.drewN n0) (HG1.o.drewN n0)).mono ?_;rintro e wc ⟨v2,rfl,hb,hv2,-⟩;obtain⟨G,GC,rfl,hG,hGC,hA⟩:=Arr.of_own (E:=170) (enc:=Sub.enc) (l:=l) hv2 hm1.symm hl1;have hszc:=(HS.o.drewN n0).size;go_wp2_with fail;have HV2:=qh hv2;have HA:=qh hA;revert HV1 HS HY HG2 HG1 HQ H2 H1 HR;refine cq (sbl hb) ?_;intro HV1 HS HY HG2 HG1 HQ H2 H1 HR;have hC1:=hU.at _ ⟨H1.k 0,H2.k 0,HR.k 1⟩;refine hK1 _ _ hC1 ?_;clear hK1 hC0;clear hb hv2 hA;refine ao S hU [6,7] 74 1 hC1 ?_;constructor
 ·intro W' hW';simp only[pick,List.filterMap,gq1,gq2,gq3];obtain⟨q0,q1,q2⟩:=hW'
  repeat (go_big_quiet_step (fail))
  exact wpQuiet_nil rfl
 obtain⟨cy,hcy,_⟩:=HY.o.ex;have ne_v2_Y:=a6 HV2.o hcy (by decide);have ne_v2_O:=a6 HV2.o HR.o (by decide);have ne_G_Y:=Row.ne_arr HA.o hcy (by decide);have ne_G_O:=Row.ne_arr HA.o HR.o (by decide);clear hcy;refine ti S hU 8 rfl hC1 fun n1 K1 hK1=>?_;have hfz:=(HY.o.drewN n1).free;have hcw:=(f7.c (HY.o.drewN n1) HI.o).2.1;go_wp2_with fail;clear hfz hcw;replace HY:=qh (((HY.o.drewN n1)).set Own.enc_len (k:=i) (j:=1) (x:=⟨om,sv,oop⟩) (x':=⟨om,(Value.slice (some ⟨G,0,none⟩) m1 GC),oop⟩) (v:=(Value.slice (some ⟨G,0,none⟩) m1 GC)) HI.o (by decide) rfl);revert HV2 HA HV1 HS HG2 HG1 HQ H2 H1 HR;refine cm (sst wc n1 Y (i*3+1) ((Value.slice (some ⟨G,0,none⟩) m1 GC))) ⟨no1 ne_v2_Y,nn ne_G_Y,no1 ne_gwv_Y,mm (by simp),nn ne_g2_Y,nn ne_g1_Y,nn ne_P_Y,nn ne_bo_Y,nn ne_bp_Y,nn ne_O_Y,trivial⟩ ?_;intro HV2 HA HV1 HS HG2 HG1 HQ H2 H1 HR;refine hK1 _ _ ?_;clear hK1 hC1
 generalize ((wc.drewN n1).setCell ⟨Y,i*3+1,none⟩ ((Value.slice (some ⟨G,0,none⟩) m1 GC)))=u2 at *;refine dd fun n9=>?_;revert HY HV2 HA HV1 HS HG2 HG1 HQ H2 H1 HR;refine cq (sdw u2 n9) ?_;intro HY HV2 HA HV1 HS HG2 HG1 HQ H2 H1 HR;clear S hU;generalize u2.drewN n9=wd at *;have hIL:=(bk.1 HI.o).1;have HI2:=qh (show (ows.set i (⟨om,(Value.slice (some ⟨G,0,none⟩) m1 GC),oop⟩:Own))[i]?=some ⟨om,(Value.slice (some ⟨G,0,none⟩) m1 GC),oop⟩ from by simp[hIL]);by_cases hpk:pk<0
 ·have co:=H2.k 0;have hfz:=HR.o.free;have hcw:=HR.k 16;have HR2:=qh ((HR.o.set 16 (ci 14)).to (cs':=#[pt V,.pointer (some ⟨Y,i*3,none⟩),ci i,ci kd,ci tp,ci sb,ci cp,ci rk,ci sr,ci mo,ci fl,.bool fb,se,wy,nx,.bool en,ci 14,ci su,cu ge,ci cn,cu lo,ci zm,ci zs,.bool zh,ci zf,cu ze,gv,av,ci st,ci ta]) rfl);have HS2:=qh (HS.o.sc O 16 (ci 14));have HY2:=qh (HY.o.ot ne_Y_O 16 (ci 14));have HV2b:=qh (ai HV2.o (sj O 16 (ci 14)) (no1 ne_v2_O));clear HR HS HY H1 HQ HG1 HG2 HV1 HA HV2;go_wp2_with fail
  go_returns
  exact⟨_,_,14,_,_,_,_,rfl,HS2.o,HR2.o,Or.inr rfl,Or.inl rfl,HY2.o,kj HV2b.o (by omega)⟩
 ·obtain⟨k,rfl⟩:∃k:Nat,pk=k:=⟨pk.toNat,by omega⟩;have hkn:k<m1:=by omega
  have hx:l[k]?=some l[k]:=cz (by omega);obtain⟨d0,d1,d2,d3,d4,d5⟩:=eu.c HA.o hx;have HX:=qh hx;clear hx;generalize l[k]=sx at *;have y1:=(f7.c HY.o HI2.o).2.1;have r1:=HR.k 1;have co:=H2.k 0;have k0:(k:Int)<m1:=by omega
  go_wp2_with fail;clear d0 d1 d2 d3 d4 d5 y1 r1 co;have ne_O_bc:O≠wd.heap.size:=nnl HR.o.lt;have ne_bc_O:=ne_O_bc.symm;have ne_bp_bc:bp≠wd.heap.size:=nnl H1.o.lt;have ne_bc_bp:=ne_bp_bc.symm;have ne_bo_bc:bo≠wd.heap.size:=nnl H2.o.lt;have ne_bc_bo:=ne_bo_bc.symm;have ne_P_bc:P≠wd.heap.size:=nnl HQ.o.lt;have ne_bc_P:=ne_P_bc.symm;have ne_g1_bc:g1≠wd.heap.size:=nnl HG1.o.lt;have ne_bc_g1:=ne_g1_bc.symm;have ne_g2_bc:g2≠wd.heap.size:=nnl HG2.o.lt;have ne_bc_g2:=ne_g2_bc.symm;have ne_Y_bc:Y≠wd.heap.size:=nnl HY.o.lt;have ne_bc_Y:=ne_Y_bc.symm;have ne_G_bc:G≠wd.heap.size:=nnl HA.o.lt;have ne_bc_G:=ne_G_bc.symm;revert HR;revert H1;revert H2;revert HQ;revert HG1;revert HG2;revert HY;revert HS;revert HV1;revert HV2;revert HA
  refine cq (ab.alloc (M:=[]) wd (.cells #[cu sx.cur.next,ci sx.cur.cap,cu sx.cur.got,cu sx.cur.lost] 166)) ?_;intro HA HV2 HV1 HS HY HG2 HG1 HQ H2 H1 HR;have HC:=qh (Row.new wd 166 #[cu sx.cur.next,ci sx.cur.cap,cu sx.cur.got,cu sx.cur.lost]);generalize wd.heap.size=bc at *;generalize wd.alloc (.cells #[cu sx.cur.next,ci sx.cur.cap,cu sx.cur.got,cu sx.cur.lost] 166)=we at *;revert HR;revert H1;revert H2;revert HQ;revert HG1;revert HG2;revert HY;revert HS;revert HV1;revert HV2;revert HA;revert HC
  refine cq (sdz we) ?_;intro HC HA HV2 HV1 HS HY HG2 HG1 HQ H2 H1 HR;have hU:UD (fun W=>W.cell? (ae bo 0)=some (pt O)∧W.cell? (ae bc 3)=some (cu sx.cur.lost)):=al fun W n h=>h;have hC0:=hU.at _ ⟨H2.k 0,HC.k 3⟩;refine dw aj hU hC0 ?_;intro S;generalize we.drew=u0 at *;refine ao S hU [0,1,2,3,4,5,6,7,8,9,10,11] 74 13 hC0 ?_;constructor
  ·intro W' hW';simp only[pick,List.filterMap,gq1,gq2,gq3];obtain⟨q0,q1⟩:=hW'
   repeat (go_big_quiet_step (fail))
   exact wpQuiet_nil rfl
  refine az S hU 12 12 rfl hC0 fun n0 K1 hK1=>?_;have hfz:=(HR.o.drewN n0).free;have hcw:=(HR.o.drewN n0).k 17;go_wp2_with fail;clear hfz hcw;replace HR:=qh (((HR.o.drewN n0).set 17 (ci (k:Int))).to (cs':=#[pt V,.pointer (some ⟨Y,i*3,none⟩),ci i,ci kd,ci tp,ci sb,ci cp,ci rk,ci sr,ci mo,ci fl,.bool fb,se,wy,nx,.bool en,ci co,ci (k:Int),cu ge,ci cn,cu lo,ci zm,ci zs,.bool zh,ci zf,cu ze,gv,av,ci st,ci ta]) rfl);revert HC HA HV2 HV1 HS HY HG2 HG1 HQ H2 H1;refine cm (sst u0 n0 O 17 (ci (k:Int))) ⟨nn ne_bc_O,nn ne_G_O,no1 ne_v2_O,no1 ne_gwv_O,mm (by simp),nn ne_Y_O,nn ne_g2_O,nn ne_g1_O,nn ne_P_O,nn ne_bo_O,nn ne_bp_O,trivial⟩ ?_;intro HC HA HV2 HV1 HS HY HG2 HG1 HQ H2 H1;have hC1:=hU.at _ ⟨H2.k 0,HC.k 3⟩;refine hK1 _ _ hC1 ?_;clear hK1 hC0;generalize ((u0.drewN n0).setCell ⟨O,17,none⟩ (ci (k:Int)))=u1 at *;refine ao S hU [13,14,15] 74 9 hC1 ?_;constructor
  ·intro W' hW';simp only[pick,List.filterMap,gq1,gq2,gq3];obtain⟨q0,q1⟩:=hW'
   repeat (go_big_quiet_step (fail))
   exact wpQuiet_nil rfl
  refine az S hU 16 8 rfl hC1 fun n1 K1 hK1=>?_;have hfz:=(HR.o.drewN n1).free;have hcw:=(HR.o.drewN n1).k 18;go_wp2_with fail;clear hfz hcw;replace HR:=qh (((HR.o.drewN n1).set 18 (cu gn)).to (cs':=#[pt V,.pointer (some ⟨Y,i*3,none⟩),ci i,ci kd,ci tp,ci sb,ci cp,ci rk,ci sr,ci mo,ci fl,.bool fb,se,wy,nx,.bool en,ci co,ci (k:Int),cu gn,ci cn,cu lo,ci zm,ci zs,.bool zh,ci zf,cu ze,gv,av,ci st,ci ta]) rfl);revert HC HA HV2 HV1 HS HY HG2 HG1 HQ H2 H1;refine cm (sst u1 n1 O 18 (cu gn)) ⟨nn ne_bc_O,nn ne_G_O,no1 ne_v2_O,no1 ne_gwv_O,mm (by simp),nn ne_Y_O,nn ne_g2_O,nn ne_g1_O,nn ne_P_O,nn ne_bo_O,nn ne_bp_O,trivial⟩ ?_;intro HC HA HV2 HV1 HS HY HG2 HG1 HQ H2 H1;have hC2:=hU.at _ ⟨H2.k 0,HC.k 3⟩;refine hK1 _ _ hC2 ?_;clear hK1 hC1;generalize ((u1.drewN n1).setCell ⟨O,18,none⟩ (cu gn))=u2 at *;refine ao S hU [17,18,19] 74 5 hC2 ?_;constructor
  ·intro W' hW';simp only[pick,List.filterMap,gq1,gq2,gq3];obtain⟨q0,q1⟩:=hW'
   repeat (go_big_quiet_step (fail))
   exact wpQuiet_nil rfl
  refine az S hU 20 4 rfl hC2 fun n2 K1 hK1=>?_;have hfz:=(HR.o.drewN n2).free;have hcw:=(HR.o.drewN n2).k 27;go_wp2_with fail;clear hfz hcw;replace HR:=qh (((HR.o.drewN n2).set 27 ((Value.slice ga nw gc))).to (cs':=#[pt V,.pointer (some ⟨Y,i*3,none⟩),ci i,ci kd,ci tp,ci sb,ci cp,ci rk,ci sr,ci mo,ci fl,.bool fb,se,wy,nx,.bool en,ci co,ci (k:Int),cu gn,ci cn,cu lo,ci zm,ci zs,.bool zh,ci zf,cu ze,gv,(Value.slice ga nw gc),ci st,ci ta]) rfl);revert HC HA HV2 HV1 HS HY HG2 HG1 HQ H2 H1;refine cm (sst u2 n2 O 27 ((Value.slice ga nw gc))) ⟨nn ne_bc_O,nn ne_G_O,no1 ne_v2_O,no1 ne_gwv_O,mm (by simp),nn ne_Y_O,nn ne_g2_O,nn ne_g1_O,nn ne_P_O,nn ne_bo_O,nn ne_bp_O,trivial⟩ ?_;intro HC HA HV2 HV1 HS HY HG2 HG1 HQ H2 H1;have hC3:=hU.at _ ⟨H2.k 0,HC.k 3⟩;refine hK1 _ _ hC3 ?_;clear hK1 hC2;generalize ((u2.drewN n2).setCell ⟨O,27,none⟩ ((Value.slice ga nw gc)))=u3 at *
  refine ao S hU [21,22,23] 74 1 hC3 ?_;constructor
  ·intro W' hW';simp only[pick,List.filterMap,gq1,gq2,gq3];obtain⟨q0,q1⟩:=hW'
   repeat (go_big_quiet_step (fail))
   exact wpQuiet_nil rfl
  refine az S hU 24 0 rfl hC3 fun n3 K1 hK1=>?_;have hfz:=(HR.o.drewN n3).free;have hcw:=(HR.o.drewN n3).k 20;go_wp2_with fail;clear hfz hcw;replace HR:=qh (((HR.o.drewN n3).set 20 (cu sx.cur.lost)).to (cs':=#[pt V,.pointer (some ⟨Y,i*3,none⟩),ci i,ci kd,ci tp,ci sb,ci cp,ci rk,ci sr,ci mo,ci fl,.bool fb,se,wy,nx,.bool en,ci co,ci (k:Int),cu gn,ci cn,cu sx.cur.lost,ci zm,ci zs,.bool zh,ci zf,cu ze,gv,(Value.slice ga nw gc),ci st,ci ta]) rfl);revert HC HA HV2 HV1 HS HY HG2 HG1 HQ H2 H1;refine cm (sst u3 n3 O 20 (cu sx.cur.lost)) ⟨nn ne_bc_O,nn ne_G_O,no1 ne_v2_O,no1 ne_gwv_O,mm (by simp),nn ne_Y_O,nn ne_g2_O,nn ne_g1_O,nn ne_P_O,nn ne_bo_O,nn ne_bp_O,trivial⟩ ?_;intro HC HA HV2 HV1 HS HY HG2 HG1 HQ H2 H1;have hC4:=hU.at _ ⟨H2.k 0,HC.k 3⟩;refine hK1 _ _ hC4 ?_;clear hK1 hC3;generalize ((u3.drewN n3).setCell ⟨O,20,none⟩ (cu sx.cur.lost))=u4 at *;refine dd fun n9=>?_
  revert HR HC HA HV2 HV1 HS HY HG2 HG1 HQ H2 H1;refine cq (sdw u4 n9) ?_;intro HR HC HA HV2 HV1 HS HY HG2 HG1 HQ H2 H1;clear S hU hC4;generalize u4.drewN n9=wf at *;go_wp2_with fail;revert HR;revert H1;revert H2;revert HQ;revert HG1;revert HG2;revert HY;revert HS;revert HV1;revert HV2;revert HA;revert HC
  refine cq (sdz wf) ?_;intro HC HA HV2 HV1 HS HY HG2 HG1 HQ H2 H1 HR;have hU:UD (fun W=>W.cell? (ae bo 0)=some (pt O)∧W.cell? (ae bp 0)=some (pt P)∧W.cell? (ae bc 0)=some (cu sx.cur.next)∧W.cell? (ae bc 1)=some (ci sx.cur.cap)∧W.cell? (ae bc 2)=some (cu sx.cur.got)∧W.cell? (ae bc 3)=some (cu sx.cur.lost)):=al fun W n h=>h;have hC0:=hU.at _ ⟨H2.k 0,H1.k 0,HC.k 0,HC.k 1,HC.k 2,HC.k 3⟩;refine dw aj hU hC0 ?_;intro S;generalize wf.drew=u0 at *;refine ao S hU [0,1,2,4] 74 8 hC0 ?_;constructor
  ·intro W' hW';simp only[pick,List.filterMap,gq1,gq2,gq3];obtain⟨q0,q1,q2,q3,q4,q5⟩:=hW'
   repeat (go_big_quiet_step (fail))
   exact wpQuiet_nil rfl
  refine d1e S hU 3 7 rfl hC0 fun n0 K1 hK1=>?_;go_wp2_with fail;refine(hgens.o (u0.drewN n0) (HQ.o.drewN n0) (HG1.o.drewN n0) (HG2.o.drewN n0)).mono ?_;rintro e wg ⟨D,rfl,hD1,hD2,hb⟩;have ne_D_O:D≠O:=fun e=>by have:=Nat.lt_of_lt_of_le (HR.o.drewN n0).lt hD1;omega
  go_wp2_with fail;have HD:=qh hD2;revert HC HA HV2 HV1 HS HY HG2 HG1 HQ H2 H1 HR;refine cq (sbl hb) ?_;intro HC HA HV2 HV1 HS HY HG2 HG1 HQ H2 H1 HR;have hU2:UD (fun W=>(W.cell? (ae bo 0)=some (pt O)∧W.cell? (ae bp 0)=some (pt P)∧W.cell? (ae bc 0)=some (cu sx.cur.next)∧W.cell? (ae bc 1)=some (ci sx.cur.cap)∧W.cell? (ae bc 2)=some (cu sx.cur.got)∧W.cell? (ae bc 3)=some (cu sx.cur.lost))∧W.cell? (ae D k)=some (cu ((wat (fk l ts) k:Nat):Int))):=al fun W n h=>h;have hC1:=hU2.at (wg) ⟨⟨H2.k 0,H1.k 0,HC.k 0,HC.k 1,HC.k 2,HC.k 3⟩,HD.o.cell (ej _ (by omega))⟩;refine hK1 (fun W=>(W.cell? (ae bo 0)=some (pt O)∧W.cell? (ae bp 0)=some (pt P)∧W.cell? (ae bc 0)=some (cu sx.cur.next)∧W.cell? (ae bc 1)=some (ci sx.cur.cap)∧W.cell? (ae bc 2)=some (cu sx.cur.got)∧W.cell? (ae bc 3)=some (cu sx.cur.lost))∧W.cell? (ae D k)=some (cu ((wat (fk l ts) k:Nat):Int))) _ _ (fun _ h=>h.1) hC1 ?_
  clear hK1 hU;have hU:=hU2;clear hU2;clear hC0;clear hb hD2;refine ao S hU [5,6] 74 5 hC1 ?_;constructor
  ·intro W' hW';simp only[pick,List.filterMap,gq1,gq2,gq3];obtain⟨⟨q0,q1,q2,q3,q4,q5⟩,e1_0⟩:=hW'
   repeat (go_big_quiet_step (fail))
   exact wpQuiet_nil rfl
  refine az S hU 7 4 rfl hC1 fun n1 K1 hK1=>?_;go_wp2_with fail;refine(b6m sx.cur (wat (fk l ts) k) (hgle.o _ (uz (by omega))) _).mono ?_;rintro e wh ⟨cnt,rfl,hb⟩;go_wp2_with fail;revert HD HC HA HV2 HV1 HS HY HG2 HG1 HQ H2 H1 HR;refine cq (sbl hb) ?_;intro HD HC HA HV2 HV1 HS HY HG2 HG1 HQ H2 H1 HR;have hC2:=hU.at (wh) ⟨⟨H2.k 0,H1.k 0,HC.k 0,HC.k 1,HC.k 2,HC.k 3⟩,HD.o.cell (ej _ (by omega))⟩;refine hK1 _ _ hC2 ?_;clear hK1 hC1;clear hb ;refine ao S hU [8,9,10] 74 1 hC2 ?_;constructor
  ·intro W' hW';simp only[pick,List.filterMap,gq1,gq2,gq3];obtain⟨⟨q0,q1,q2,q3,q4,q5⟩,e1_0⟩:=hW'
   repeat (go_big_quiet_step (fail))
   exact wpQuiet_nil rfl
  refine az S hU 11 0 rfl hC2 fun n2 K1 hK1=>?_;have hfz:=(HR.o.drewN n2).free;have hcw:=(HR.o.drewN n2).k 19;go_wp2_with fail;clear hfz hcw;replace HR:=qh (((HR.o.drewN n2).set 19 (ci cnt)).to (cs':=#[pt V,.pointer (some ⟨Y,i*3,none⟩),ci i,ci kd,ci tp,ci sb,ci cp,ci rk,ci sr,ci mo,ci fl,.bool fb,se,wy,nx,.bool en,ci co,ci (k:Int),cu gn,ci cnt,cu sx.cur.lost,ci zm,ci zs,.bool zh,ci zf,cu ze,gv,(Value.slice ga nw gc),ci st,ci ta]) rfl);revert HD HC HA HV2 HV1 HS HY HG2 HG1 HQ H2 H1;refine cm (sst wh n2 O 19 (ci cnt)) ⟨nn ne_D_O,nn ne_bc_O,nn ne_G_O,no1 ne_v2_O,no1 ne_gwv_O,mm (by simp),nn ne_Y_O,nn ne_g2_O,nn ne_g1_O,nn ne_P_O,nn ne_bo_O,nn ne_bp_O,trivial⟩ ?_;intro HD HC HA HV2 HV1 HS HY HG2 HG1 HQ H2 H1;have hC3:=hU.at ((wh.drewN n2).setCell ⟨O,19,none⟩ (ci cnt)) ⟨⟨H2.k 0,H1.k 0,HC.k 0,HC.k 1,HC.k 2,HC.k 3⟩,HD.o.cell (ej _ (by omega))⟩;refine hK1 _ _ hC3 ?_;clear hK1 hC2
  generalize ((wh.drewN n2).setCell ⟨O,19,none⟩ (ci cnt))=u3 at *;refine dd fun n9=>?_;revert HR HD HC HA HV2 HV1 HS HY HG2 HG1 HQ H2 H1;refine cq (sdw u3 n9) ?_;intro HR HD HC HA HV2 HV1 HS HY HG2 HG1 HQ H2 H1;clear S hU hC3;generalize u3.drewN n9=wz at *;go_wp2_with fail
  go_end0
  exact⟨_,_,_,_,cnt,_,_,rfl,HS.o,HR.o,Or.inl rfl,Or.inr (kj HV1.o (by omega)),HY.o,kj HV2.o (by omega)⟩
def c7o(w W:World):Prop:=w=W
def pubE(p:Nat × Value):List Value:=[ci p.1,p.2]
theorem b3v(p:Nat × Value):(pubE p).length=2:=rfl
theorem c6t(w:World)(v:Value)(L:List (Nat × Value))(time:Nat)(ho:w.ownsRow 0 57 2 v L.length (L.flatMap pubE))(hl:L.length≤1000)(hs:(L.map (·.1)).Pairwise (· < ·)):Calls Tryz.prog 8 #[v,ci time] w fun e w'=>∃n:Nat,e=.returned (cu n)∧n=(L.countP fun p=>decide (p.1≤time))∧w=w':=by
 obtain⟨sa,sc,rfl⟩:=ax ho
 have hA:Hd (∀(k:Nat)(x:Nat × Value),L[k]?=some x→∃g,sa=some ⟨g,0,none⟩∧w.cell? (ae g (k*2))=some (ci x.1)):=qh fun k x hx=>by
  have hk:=(bk.1 hx).1;obtain⟨g,c,e,-,-,ha⟩:=Arr.of_own (E:=57) ho rfl (by omega);cases e;exact⟨g,rfl,ha.cell b3v (j:=0) hx rfl⟩
 have hs2:=qh hs;clear hs ho
 go_enter Tryz.func8,Tryz.ntmps8
 go_wp2_with fail;have h00:Hd (c7o w w∧∀(j:Nat)(x:Nat × Value),j<0→L[j]?=some x→x.1≤time):=qh ⟨rfl,fun j x h=>by omega⟩
 go_loopw [5] (fun iv W=>∃k:Nat,k≤L.length∧iv=cu k∧Hd (c7o w W∧∀(j:Nat)(x:Nat × Value),j<k→L[j]?=some x→x.1≤time)) (fun iv _=>L.length-(intOf iv).toNat)
 case atStart=>exact⟨0,by omega,rfl,h00⟩
 case round=>
  obtain⟨k,hkl,rfl,hR0⟩:=hrel;obtain⟨hst,hR1⟩:=hR0.o;have hst:w=wr:=hst;subst hst;have hR:=qh hR1;clear hR0 hR1 h00;by_cases hk:k<L.length
  ·obtain⟨g,e,hc⟩:=hA.o k _ (cz hk);subst e;have hx:=cz hk;generalize L[k]=x at *;have HX:=qh hx;clear hx;have i1:(k:Int)<L.length:=by omega
   by_cases ht:x.1≤time
   ·have ht':(x.1:Int)≤time:=by omega
    go_wp2_with fail
    go_roundw
    case rel=>exact⟨k+1,by omega,by go_num,qh ⟨rfl,fun j y hj hy=>by
     by_cases hjk:j=k
     ·subst hjk;rw[HX.o] at hy;cases hy;exact ht
     ·exact hR.o j y (by omega) hy⟩⟩
    case measure=>simp only[intOf];omega
   ·have ht':¬ (x.1:Int)≤time:=by omega
    go_wp2_with fail;go_ret;refine⟨k,rfl,?_,rfl⟩
    have hf:=vx (t:=time) hs2.o (n:=k) (by simpa using hkl) (fun j y hj hy=>by
     rw[List.getElem?_map] at hy;obtain⟨z,hz,rfl⟩:=Option.map_eq_some_iff.1 hy;exact hR.o j z hj hz) (fun y hy=>by
     rw[List.getElem?_map,HX.o] at hy;cases hy;exact Nat.lt_of_not_le ht)
    rw[List.countP_map] at hf;exact hf.symm
  ·have hk':k=L.length:=by omega
   subst hk';go_wp2_with fail;go_ret;refine⟨L.length,rfl,?_,rfl⟩
   have hf:=vx (t:=time) hs2.o (n:=L.length) (by simp) (fun j y hj hy=>by
     rw[List.getElem?_map] at hy;obtain⟨z,hz,rfl⟩:=Option.map_eq_some_iff.1 hy;exact hR.o j z hj hz) (fun y hy=>by
     rw[List.getElem?_eq_none (by simp)] at hy;cases hy)
   rw[List.countP_map] at hf;exact hf.symm
end Go.Proofs.YtojkaibpfdhmaaaGreatDoor

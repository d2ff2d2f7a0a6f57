/- The accesses of Advertise, Subscribe and Updated. -/
import Derived.Test.YtojkaibpfdhmaaaGreatDoorP22
import Derived.Test.YtojkaibpfdhmaaaGreatDoorP04
import Derived.Test.YtojkaibpfdhmaaaGreatDoorP16
namespace Go.Proofs.YtojkaibpfdhmaaaGreatDoor
open Go.RowKit
set_option maxRecDepth 100000
set_option maxHeartbeats 16000000
theorem c8w(w:World)(O V Y i bw bo P D c:Nat)(o:OpC)(x:WOp)(hr:Row w O 122 (o.cells V Y i))(h1:Row w bw 141 #[pt P])(h2:Row w bo 95 #[pt O])(hw:Row w P 210 (x.cells D c))(ho:x.how=1)(hq:x.seq≤1000000):Calls Tryz.prog 68 #[pt bw,pt bo] w fun e w'=>e=.returned (.tuple #[])∧ab [O] w w'∧Row w' O 122 (OpC.cells {o with gen:=x.seq / 2+1,at_:=o.steps} V Y i):=by
 obtain⟨kd,tp,sb,cp,rk,sr,mo,fl,fb,se,wv,nx,en,co,su,ge,cn,lo,⟨zm,zs,zh,zf,ze⟩,gv,av,st,at_⟩:=o;have ne_bo_O:bo≠O:=fun e=>by subst e;exact absurd (hr.inj h2).1 (by decide)
 have ne_bw_O:bw≠O:=fun e=>by subst e;exact absurd (hr.inj h1).1 (by decide)
 have hg:=qh (fun W (h:Row W P 210 (x.cells D c))=>b9d W P D c x ho h hq);generalize x.seq / 2+1=gn at *;simp only[OpC.cells] at *;have HR:=qh hr;have H1:=qh h1;have H2:=qh h2;have HS:=qh (ab.refl [O] w);have HW:=qh hw;clear hr h1 h2 hw
 go_enter Tryz.func68,Tryz.ntmps68
 go_wp2_with fail;have HRz:=qh HR.o.drew;have H1z:=qh H1.o.drew;have H2z:=qh H2.o.drew;have HWz:=qh HW.o.drew;have HSz:=qh HS.o.drew;have hU:UD (fun W=>W.cell? (ae bw 0)=some (pt P)∧W.cell? (ae bo 0)=some (pt O)∧W.cell? (ae O 28)=some (ci st)):=al fun W n h=>h;have hC0:=hU.at _ ⟨H1z.k 0,H2z.k 0,HRz.k 28⟩;refine dw aj hU hC0 ?_;intro S;generalize w.drew=u0 at *;clear HR H1 H2 HW HS;refine ao S hU [0,1,2,4,5,6,7] 15 8 hC0 ?_;constructor
 ·intro W' hW';simp only[pick,List.filterMap,gq1,gq2,gq3];obtain⟨q0,q1,q2⟩:=hW'
  repeat (go_big_quiet_step (fail))
  exact wpQuiet_nil rfl
 refine iy S hU 3 7 rfl hC0 ?_;intro W1 hrW1 hcW1 K1 hK1;obtain⟨n0,rfl⟩:=hrW1;clear hcW1;go_wp2_with fail;refine(hg.o (u0.drewN n0) (HWz.o.drewN n0)).mono ?_;rintro e w_ ⟨rfl,rfl⟩;go_wp2_with fail;have HRc0:=qh (HRz.o.drewN n0);have H1c0:=qh (H1z.o.drewN n0);have H2c0:=qh (H2z.o.drewN n0);have HWc0:=qh (HWz.o.drewN n0);have HSc0:=qh (HSz.o.drewN n0);have hC1:=hU.at _ ⟨H1c0.k 0,H2c0.k 0,HRc0.k 28⟩;refine hK1 _ _ hC1 ?_;clear hK1;clear hC0 HRz H1z H2z HWz HSz;generalize (u0.drewN n0)=v1 at *;clear HWc0;refine ao S hU [8,9,10] 15 4 hC1 ?_;constructor
 ·intro W' hW';simp only[pick,List.filterMap,gq1,gq2,gq3];obtain⟨q0,q1,q2⟩:=hW'
  repeat (go_big_quiet_step (fail))
  exact wpQuiet_nil rfl
 refine iy S hU 11 3 rfl hC1 ?_;intro W1 hrW1 hcW1 K1 hK1;obtain⟨n1,rfl⟩:=hrW1;clear hcW1;have hfz:=(HRc0.o.drewN n1).free;have hcw:=(HRc0.o.drewN n1).k 18;go_wp2_with fail;have HRu2:=qh (((HRc0.o.drewN n1).set 18 (cu gn)).to (cs':=#[pt V,.pointer (some ⟨Y,i*3,none⟩),ci i,ci kd,ci tp,ci sb,ci cp,ci rk,ci sr,ci mo,ci fl,.bool fb,se,wv,nx,.bool en,ci co,ci su,cu gn,ci cn,cu lo,ci zm,ci zs,.bool zh,ci zf,cu ze,gv,av,ci st,ci at_]) rfl);have H1u2:=qh ((H1c0.o.drewN n1).ot ne_bw_O 18 (cu gn));have H2u2:=qh ((H2c0.o.drewN n1).ot ne_bo_O 18 (cu gn));have HSu2:=qh ((HSc0.o.drewN n1).sc O 18 (cu gn));have hC2:=hU.at _ ⟨H1u2.k 0,H2u2.k 0,HRu2.k 28⟩;refine hK1 _ _ hC2 ?_;clear hK1;generalize ((v1.drewN n1).setCell ⟨O,18,none⟩ (cu gn))=u2 at *;clear hfz hcw hC1 HRc0 H1c0 H2c0 HSc0;refine ao S hU [12,13] 15 1 hC2 ?_;constructor
 ·intro W' hW';simp only[pick,List.filterMap,gq1,gq2,gq3];obtain⟨q0,q1,q2⟩:=hW'
  repeat (go_big_quiet_step (fail))
  exact wpQuiet_nil rfl
 refine iy S hU 14 0 rfl hC2 ?_;intro W1 hrW1 hcW1 K1 hK1;obtain⟨n2,rfl⟩:=hrW1;clear hcW1;have hfz:=(HRu2.o.drewN n2).free;have hcw:=(HRu2.o.drewN n2).k 29;go_wp2_with fail;have HRu3:=qh (((HRu2.o.drewN n2).set 29 (ci st)).to (cs':=#[pt V,.pointer (some ⟨Y,i*3,none⟩),ci i,ci kd,ci tp,ci sb,ci cp,ci rk,ci sr,ci mo,ci fl,.bool fb,se,wv,nx,.bool en,ci co,ci su,cu gn,ci cn,cu lo,ci zm,ci zs,.bool zh,ci zf,cu ze,gv,av,ci st,ci st]) rfl);have H1u3:=qh ((H1u2.o.drewN n2).ot ne_bw_O 29 (ci st));have H2u3:=qh ((H2u2.o.drewN n2).ot ne_bo_O 29 (ci st));have HSu3:=qh ((HSu2.o.drewN n2).sc O 29 (ci st));have hC3:=hU.at _ ⟨H1u3.k 0,H2u3.k 0,HRu3.k 28⟩;refine hK1 _ _ hC3 ?_;clear hK1;generalize ((u2.drewN n2).setCell ⟨O,29,none⟩ (ci st))=u3 at *;clear hfz hcw hC2 HRu2 H1u2 H2u2 HSu2;refine jt ?_;intro w9 hrw9;refine NoPanic.normal ?_;obtain⟨n9,rfl⟩:=hrw9;have HR:=qh (HRu3.o.drewN n9)
 have H1:=qh (H1u3.o.drewN n9);have H2:=qh (H2u3.o.drewN n9);have HS:=qh (HSu3.o.drewN n9);clear S hU hC3 HRu3 H1u3 H2u3 HSu3;generalize u3.drewN n9=w9 at *;go_wp2_with fail
 go_end0
 exact⟨rfl,HS.o,HR.o⟩
theorem c8x(w:World)(O V Y i bw bo P D:Nat)(o:OpC)(x:ROp)(gs:List Nat)(hr:Row w O 122 (o.cells V Y i))(h1:Row w bw 147 #[pt P])(h2:Row w bo 95 #[pt O])(hw:Row w P 214 (x.cells D))(hD:Row w D 41 (bj gs))(ho:x.how=1)(hx:x.spot.words≤64)(hg:gs.length=x.spot.words):Calls Tryz.prog 72 #[pt bw,pt bo] w fun e w'=>∃g,e=.returned (.tuple #[])∧ab [O] w w'∧w.heap.size≤g∧Row w' g 41 (bj gs)∧Row w' O 122 (OpC.cells {o with awords:=zl g x.spot.words x.spot.words,gen:=x.gen,at_:=x.begun} V Y i):=by
 obtain⟨kd,tp,sb,cp,rk,sr,mo,fl,fb,se,wv,nx,en,co,su,ge,cn,lo,⟨zm,zs,zh,zf,ze⟩,gv,av,st,at_⟩:=o;have ne_bo_O:bo≠O:=fun e=>by subst e;exact absurd (hr.inj h2).1 (by decide)
 have ne_bw_O:bw≠O:=fun e=>by subst e;exact absurd (hr.inj h1).1 (by decide)
 have ne_P_O:P≠O:=fun e=>by subst e;exact absurd (hr.inj hw).1 (by decide)
 have ne_D_O:D≠O:=fun e=>by subst e;exact absurd (hr.inj hD).1 (by decide)
 have hgot:=qh (fun W (h:Row W P 214 (x.cells D)) (h':Row W D 41 (bj gs))=>c2m W P D x hx ho gs hg h h');have hat:=qh (fun W (h:Row W P 214 (x.cells D))=>c5z W P D x ho h);generalize x.spot.words=nw at *;generalize x.gen=gn at *;generalize x.begun=bg at *;simp only[OpC.cells] at *;have hOl:=hr.lt;have HR:=qh hr;have H1:=qh h1;have H2:=qh h2;have HS:=qh (ab.refl [O] w);have HW:=qh hw;have HD:=qh hD;clear hr h1 h2 hw hD hg hx
 go_enter Tryz.func72,Tryz.ntmps72
 go_wp2_with fail;have HRz:=qh HR.o.drew;have H1z:=qh H1.o.drew;have H2z:=qh H2.o.drew;have HWz:=qh HW.o.drew;have HDz:=qh HD.o.drew;have HSz:=qh HS.o.drew;have hU:UD (fun W=>W.cell? (ae bw 0)=some (pt P)∧W.cell? (ae bo 0)=some (pt O)):=al fun W n h=>h;have hC0:=hU.at _ ⟨H1z.k 0,H2z.k 0⟩;refine dw aj hU hC0 ?_;intro S;generalize w.drew=u0 at *;clear HR H1 H2 HW HD HS;refine ao S hU [0,1,2] 20 12 hC0 ?_;constructor
 ·intro W' hW';simp only[pick,List.filterMap,gq1,gq2,gq3];obtain⟨q0,q1⟩:=hW'
  repeat (go_big_quiet_step (fail))
  exact wpQuiet_nil rfl
 refine iy S hU 3 11 rfl hC0 ?_;intro W1 hrW1 hcW1 K1 hK1;obtain⟨n0,rfl⟩:=hrW1;clear hcW1;go_wp2_with fail;refine(hgot.o (u0.drewN n0) (HWz.o.drewN n0) (HDz.o.drewN n0)).mono ?_;rintro e W4 ⟨g,rfl,hb,hgl,hG⟩;have hgs:w.heap.size≤g:=nlt ((HSz.o.drewN n0)).size hgl;have ne_g_O:g≠O:=fun e=>by omega
 go_wp2_with fail;have HRc0:=qh ((HRz.o.drewN n0).bel hb);have H1c0:=qh ((H1z.o.drewN n0).bel hb);have H2c0:=qh ((H2z.o.drewN n0).bel hb);have HWc0:=qh ((HWz.o.drewN n0).bel hb);have HDc0:=qh ((HDz.o.drewN n0).bel hb);have HGc0:=qh hG;have HSc0:=qh ((HSz.o.drewN n0).bel hb);have hC1:=hU.at _ ⟨H1c0.k 0,H2c0.k 0⟩;refine hK1 _ _ hC1 ?_;clear hK1;clear hC0 HRz H1z H2z HWz HDz HSz;clear hb;clear hG hgl hgot;clear HDc0;refine ao S hU [4,5,6,7,8,9] 20 5 hC1 ?_;constructor
 ·intro W' hW';simp only[pick,List.filterMap,gq1,gq2,gq3];obtain⟨q0,q1⟩:=hW'
  repeat (go_big_quiet_step (fail))
  exact wpQuiet_nil rfl
 refine iy S hU 10 4 rfl hC1 ?_;intro W1 hrW1 hcW1 K1 hK1;obtain⟨n1,rfl⟩:=hrW1;clear hcW1;have hfz:=(HRc0.o.drewN n1).free;have hcw:=(HRc0.o.drewN n1).k 27;go_wp2_with fail;have HRu2:=qh (((HRc0.o.drewN n1).set 27 (zl g nw nw)).to (cs':=#[pt V,.pointer (some ⟨Y,i*3,none⟩),ci i,ci kd,ci tp,ci sb,ci cp,ci rk,ci sr,ci mo,ci fl,.bool fb,se,wv,nx,.bool en,ci co,ci su,cu ge,ci cn,cu lo,ci zm,ci zs,.bool zh,ci zf,cu ze,gv,zl g nw nw,ci st,ci at_]) rfl);have H1u2:=qh ((H1c0.o.drewN n1).ot ne_bw_O 27 (zl g nw nw));have H2u2:=qh ((H2c0.o.drewN n1).ot ne_bo_O 27 (zl g nw nw));have HWu2:=qh ((HWc0.o.drewN n1).ot ne_P_O 27 (zl g nw nw));have HGu2:=qh ((HGc0.o.drewN n1).ot ne_g_O 27 (zl g nw nw));have HSu2:=qh ((HSc0.o.drewN n1).sc O 27 (zl g nw nw));have hC2:=hU.at _ ⟨H1u2.k 0,H2u2.k 0⟩;refine hK1 _ _ hC2 ?_;clear hK1;generalize ((W4.drewN n1).setCell ⟨O,27,none⟩ (zl g nw nw))=u2 at *
 clear hfz hcw hC1 HRc0 H1c0 H2c0 HWc0 HGc0 HSc0;refine ao S hU [11,12,13] 20 1 hC2 ?_;constructor
 ·intro W' hW';simp only[pick,List.filterMap,gq1,gq2,gq3];obtain⟨q0,q1⟩:=hW'
  repeat (go_big_quiet_step (fail))
  exact wpQuiet_nil rfl
 refine iy S hU 14 0 rfl hC2 ?_;intro W1 hrW1 hcW1 K1 hK1;obtain⟨n2,rfl⟩:=hrW1;clear hcW1;have hfz:=(HRu2.o.drewN n2).free;have hcw:=(HRu2.o.drewN n2).k 18;go_wp2_with fail;have HRu3:=qh (((HRu2.o.drewN n2).set 18 (cu gn)).to (cs':=#[pt V,.pointer (some ⟨Y,i*3,none⟩),ci i,ci kd,ci tp,ci sb,ci cp,ci rk,ci sr,ci mo,ci fl,.bool fb,se,wv,nx,.bool en,ci co,ci su,cu gn,ci cn,cu lo,ci zm,ci zs,.bool zh,ci zf,cu ze,gv,zl g nw nw,ci st,ci at_]) rfl);have H1u3:=qh ((H1u2.o.drewN n2).ot ne_bw_O 18 (cu gn));have H2u3:=qh ((H2u2.o.drewN n2).ot ne_bo_O 18 (cu gn));have HWu3:=qh ((HWu2.o.drewN n2).ot ne_P_O 18 (cu gn));have HGu3:=qh ((HGu2.o.drewN n2).ot ne_g_O 18 (cu gn));have HSu3:=qh ((HSu2.o.drewN n2).sc O 18 (cu gn));have hC3:=hU.at _ ⟨H1u3.k 0,H2u3.k 0⟩;refine hK1 _ _ hC3 ?_;clear hK1;generalize ((u2.drewN n2).setCell ⟨O,18,none⟩ (cu gn))=u3 at *;clear hfz hcw hC2 HRu2 H1u2 H2u2 HWu2 HGu2 HSu2
 refine jt ?_;intro w9 hrw9;refine NoPanic.normal ?_;obtain⟨n9,rfl⟩:=hrw9;have HR:=qh (HRu3.o.drewN n9);have H1:=qh (H1u3.o.drewN n9);have H2:=qh (H2u3.o.drewN n9);have HW:=qh (HWu3.o.drewN n9);have HG:=qh (HGu3.o.drewN n9);have HS:=qh (HSu3.o.drewN n9);clear S hU hC3 HRu3 H1u3 H2u3 HWu3 HGu3 HSu3;generalize u3.drewN n9=w9 at *;go_wp2_with fail;have HRz:=qh HR.o.drew;have H1z:=qh H1.o.drew;have H2z:=qh H2.o.drew;have HWz:=qh HW.o.drew;have HGz:=qh HG.o.drew;have HSz:=qh HS.o.drew;have hU:UD (fun W=>W.cell? (ae bw 0)=some (pt P)∧W.cell? (ae bo 0)=some (pt O)):=al fun W n h=>h;have hC0:=hU.at _ ⟨H1z.k 0,H2z.k 0⟩;refine dw aj hU hC0 ?_;intro S;generalize w9.drew=u0 at *;clear HR H1 H2 HW HG HS;refine ao S hU [0,1] 20 4 hC0 ?_;constructor
 ·intro W' hW';simp only[pick,List.filterMap,gq1,gq2,gq3];obtain⟨q0,q1⟩:=hW'
  repeat (go_big_quiet_step (fail))
  exact wpQuiet_nil rfl
 refine iy S hU 2 3 rfl hC0 ?_;intro W1 hrW1 hcW1 K1 hK1;obtain⟨n0,rfl⟩:=hrW1;clear hcW1;go_wp2_with fail;refine(hat.o (u0.drewN n0) (HWz.o.drewN n0)).mono ?_;rintro e w_ ⟨rfl,rfl⟩;go_wp2_with fail;have HRc0:=qh (HRz.o.drewN n0);have H1c0:=qh (H1z.o.drewN n0);have H2c0:=qh (H2z.o.drewN n0);have HWc0:=qh (HWz.o.drewN n0);have HGc0:=qh (HGz.o.drewN n0);have HSc0:=qh (HSz.o.drewN n0);have hC1:=hU.at _ ⟨H1c0.k 0,H2c0.k 0⟩;refine hK1 _ _ hC1 ?_;clear hK1;clear hC0 HRz H1z H2z HWz HGz HSz;generalize (u0.drewN n0)=v1 at *;refine ao S hU [3,4] 20 1 hC1 ?_;constructor
 ·intro W' hW';simp only[pick,List.filterMap,gq1,gq2,gq3];obtain⟨q0,q1⟩:=hW'
  repeat (go_big_quiet_step (fail))
  exact wpQuiet_nil rfl
 refine iy S hU 5 0 rfl hC1 ?_;intro W1 hrW1 hcW1 K1 hK1;obtain⟨n1,rfl⟩:=hrW1;clear hcW1;have hfz:=(HRc0.o.drewN n1).free;have hcw:=(HRc0.o.drewN n1).k 29;go_wp2_with fail;have HRu2:=qh (((HRc0.o.drewN n1).set 29 (ci bg)).to (cs':=#[pt V,.pointer (some ⟨Y,i*3,none⟩),ci i,ci kd,ci tp,ci sb,ci cp,ci rk,ci sr,ci mo,ci fl,.bool fb,se,wv,nx,.bool en,ci co,ci su,cu gn,ci cn,cu lo,ci zm,ci zs,.bool zh,ci zf,cu ze,gv,zl g nw nw,ci st,ci bg]) rfl);have H1u2:=qh ((H1c0.o.drewN n1).ot ne_bw_O 29 (ci bg));have H2u2:=qh ((H2c0.o.drewN n1).ot ne_bo_O 29 (ci bg));have HWu2:=qh ((HWc0.o.drewN n1).ot ne_P_O 29 (ci bg));have HGu2:=qh ((HGc0.o.drewN n1).ot ne_g_O 29 (ci bg));have HSu2:=qh ((HSc0.o.drewN n1).sc O 29 (ci bg));have hC2:=hU.at _ ⟨H1u2.k 0,H2u2.k 0⟩;refine hK1 _ _ hC2 ?_;clear hK1;generalize ((v1.drewN n1).setCell ⟨O,29,none⟩ (ci bg))=u2 at *;clear hfz hcw hC1 HRc0 H1c0 H2c0 HWc0 HGc0 HSc0
 refine jt ?_;intro wz hrwz;refine NoPanic.normal ?_;obtain⟨n9,rfl⟩:=hrwz;have HR:=qh (HRu2.o.drewN n9);have H1:=qh (H1u2.o.drewN n9);have H2:=qh (H2u2.o.drewN n9);have HW:=qh (HWu2.o.drewN n9);have HG:=qh (HGu2.o.drewN n9);have HS:=qh (HSu2.o.drewN n9);clear S hU hC2 HRu2 H1u2 H2u2 HWu2 HGu2 HSu2;generalize u2.drewN n9=wz at *;go_wp2_with fail
 go_end0
 exact⟨g,rfl,HS.o,hgs,HG.o,HR.o⟩
structure dg where
 T:Nat
 tr:Nat
 lg:Nat
 tv:Value
 G:Nat
 k:Nat
 gk:Nat
 sz:Nat
 B:Nat
 Y:Nat
 yk:Nat
abbrev dg.cells(v:dg):Array Value:=#[ci v.T,v.tv,ci v.tr,ci v.lg,ci 0,ci 1,ci v.lg,zl v.G v.k v.gk,ci v.sz,pt v.B,zl v.Y v.T v.yk]
structure Own where
 m:Nat
 sv:Value
 op:Option Nat
def Own.enc(o:Own):List Value:=[.map (some o.m),o.sv,.pointer (o.op.map fun b=>⟨b,0,none⟩)]
theorem Own.enc_len(o:Own):o.enc.length=3:=rfl
abbrev f7(W:World)(Y:Nat)(l:List Own):Prop:=Arr Own.enc 3 W Y 97 l
theorem f7.c{W:World}{Y:Nat}{l:List Own}(h:f7 W Y l){i:Nat}{o:Own}(hk:l[i]?=some o):W.cell? (ae Y (i*3))=some (.map (some o.m))∧W.cell? (ae Y (i*3+1))=some o.sv∧W.cell? (ae Y (i*3+2))=some (.pointer (o.op.map fun b=>⟨b,0,none⟩)):=
 ⟨h.cell Own.enc_len (j:=0) hk rfl,h.cell Own.enc_len (j:=1) hk rfl,h.cell Own.enc_len (j:=2) hk rfl⟩
theorem bv.off{W:World}{B A b:Nat}{ws:List Nat}{t:TypeId}{cs:Array Value}(hb:bv W B A ws)(h:Row W b t cs)(h1:t≠119)(h2:t≠41):b∉[B,A]:=by
 obtain⟨k,hk⟩:=hb.hd;simp only[List.mem_cons,List.not_mem_nil,or_false,not_or];exact⟨fun e=>by subst e;exact h1 (h.inj hk).1,fun e=>by subst e;exact h2 (h.inj hb.wd).1⟩
theorem bv.off_arr{α:Type}{enc:α→List Value}{sz E g:Nat}{l:List α}{W:World}{B A:Nat}{ws:List Nat}(hb:bv W B A ws)(h:Arr enc sz W g E l)(h1:E≠119)(h2:E≠41):g∉[B,A]:=by
 obtain⟨cur,hr,_⟩:=h.ex;exact hb.off hr h1 h2
theorem Row.ne{W:World}{b b':Nat}{t t':TypeId}{cs cs':Array Value}(h:Row W b t cs)(h':Row W b' t' cs')(hne:t≠t'):b≠b':=fun e=>by subst e;exact hne (h.inj h').1
theorem Row.ne_arr{α:Type}{enc:α→List Value}{sz E g:Nat}{l:List α}{W:World}{b:Nat}{t:TypeId}{cs:Array Value}(h:Arr enc sz W g E l)(h':Row W b t cs)(hne:E≠t):g≠b:=by
 obtain⟨cur,hr,_⟩:=h.ex;exact hr.ne h' hne
theorem jd(n:Int)(h:(Lit.int .i64 n).wf=true):keyOf Tryz.prog 3 (ci n)=some (ig n):=Maps.keyOf_int_mk Tryz.underlying3 h
theorem ux{n:Int}(h0:0≤n)(h1:n≤1000000):(Lit.int .i64 n).wf=true:=by
 simp only[Lit.wf,Bool.and_eq_true,decide_eq_true_eq];have e1:IntKind.min .i64 = -9223372036854775808:=by decide
 have e2:IntKind.max .i64=9223372036854775807:=by decide
 rw[e1,e2];omega
theorem a8.ne{P:Program}{k:TypeId}{W:World}{b M n:Nat}{f:Lit→Option Value}{t:TypeId}{cs:Array Value}(h:a8 P k W M n f)(hr:Row W b t cs):b≠M:=fun e=>by
 subst e;obtain⟨D,⟨es,c,h1,h2⟩,h3⟩:=h.ex;rw[hr.at_] at h1;cases h1
theorem a8.ne_arr{P:Program}{k:TypeId}{W:World}{g M n:Nat}{f:Lit→Option Value}{α:Type}{enc:α→List Value}{sz E:Nat}{l:List α}(h:a8 P k W M n f)(hr:Arr enc sz W g E l):g≠M:=by
 obtain⟨cur,hr,_⟩:=hr.ex;exact h.ne hr
theorem d0u(w:World)(O V i bo A M n:Nat)(v:dg)(o:OpC)(t:Nat)(s:am)(ws:List Nat)(l:List am)(ows:List Own)(ow:Own)(fm:Lit→Option Value)(hr:Row w O 122 (o.cells V v.Y i))(h2:Row w bo 95 #[pt O])(hv:Row w V 92 v.cells)(hb:bv w v.B A ws)(hs:au w v.G l)(hk:v.k=l.length)(ht:l[t]?=some s)(hl64:l.length≤64)(hto:o.topic=t)(hso:s.own<ws.length)(hy:f7 w v.Y ows)(hi:ows[i]?=some ow)(hmo:ow.m=M)(hm:a8 Tryz.prog 3 w M n fm)(hn:n<maxLen)(hM:M≠v.B∧M≠A):Calls Tryz.prog 63 #[pt bo] w fun e w'=>∃x,e=.returned (ci 0)∧ab [v.B,A,M] w w'∧bv w' v.B A (ws.set s.own x)∧a8 Tryz.prog 3 w' M (n+1) (il fm (ig t) (some (ci o.steps))):=by
 obtain⟨kd,tp,sb,cp,rk,sr,mo,fl,fb,se,wy,nx,en,co,su,ge,cn,lo,⟨zm,zs,zh,zf,ze⟩,gv,av,st,at_⟩:=o;obtain⟨T,tr,lg,tv,G,k,gk,sz,B,Y,yk⟩:=v;simp only at hto hk;subst hto hk;have htl:(t:Int)<l.length:=by have:=(bk.1 ht).1;omega
 have ht0:(0:Int)≤t:=by omega
 simp only[OpC.cells,dg.cells] at *;have htw:(Lit.int .i64 (t:Int)).wf=true:=ux ht0 (by omega);have ne_O_M:=hm.ne hr;have ne_bo_M:=hm.ne h2;have ne_V_M:=hm.ne hv;have ne_Y_M:=hm.ne_arr hy;have nb_O:=hb.off hr (by decide) (by decide);have nb_bo:=hb.off h2 (by decide) (by decide);have nb_V:=hb.off hv (by decide) (by decide);have nb_G:=hb.off_arr hs (by decide) (by decide);have nb_Y:=hb.off_arr hy (by decide) (by decide);have nb_M:M∉[B,A]:=by simpa using hM
 have HR:=qh hr;have H2:=qh h2;have HV:=qh hv;have HB:=qh hb;have HG:=qh hs;have HY:=qh hy;have HM:=qh hm;have HS:=qh (ab.refl [B,A,M] w);have HT:=qh ht;have HI:=qh hi;clear hr h2 hv hb hs hy hm ht hi
 go_enter Tryz.func63,Tryz.ntmps63
 go_wp2_with fail;revert HR;revert H2;revert HV;revert HB;revert HG;revert HY;revert HM;revert HS
 refine cq (sdz w) ?_;intro HS HM HY HG HB HV H2 HR;have hU:UD (fun W=>W.cell? (ae bo 0)=some (pt O)∧W.cell? (ae V 9)=some (pt B)∧W.cell? (ae V 7)=some (zl G l.length gk)∧W.cell? (ae O 0)=some (pt V)∧W.cell? (ae O 4)=some (ci (t:Int))∧W.cell? (ae O 2)=some (ci i)∧W.cell? (ae G (t*5))=some (ci s.own)):=al fun W n h=>h;have hC0:=hU.at _ ⟨H2.k 0,HV.k 9,HV.k 7,HR.k 0,HR.k 4,HR.k 2,(au.c HG.o HT.o).1⟩;refine dw aj hU hC0 ?_;intro S;generalize w.drew=u0 at *;refine ao S hU [0,1,2,3,4,5,6,7,8,9,10,11,12,13,14,15,16,17,18,19,20,21,22,23,24,25,26,27] 53 6 hC0 ?_;constructor
 ·intro W' hW';simp only[pick,List.filterMap,gq1,gq2,gq3];obtain⟨q0,q1,q2,q3,q4,q5,q6⟩:=hW'
  repeat (go_big_quiet_step (fail))
  exact wpQuiet_nil rfl
 obtain⟨sy,hsy⟩:=vi (2 ^ min i 64);refine az S hU 28 5 rfl hC0 fun n0 K1 hK1=>?_;go_wp2_with fail;refine(c8i _ B A ws s.own sy hso (HB.o.d0 n0)).mono ?_;rintro e W4 ⟨sv,sx,rfl,hs4,hb4⟩;go_wp2_with fail;replace HB:=qh hb4;revert HS HM HY HG HV H2 HR;refine cm (ssm hs4) ⟨(fun y hy _=>by simp at hy ⊢;first|omega|simp[hy]),nb_M,nb_Y,nb_G,nb_V,nb_bo,nb_O,trivial⟩ ?_;intro HS HM HY HG HV H2 HR;have hC1:=hU.at _ ⟨H2.k 0,HV.k 9,HV.k 7,HR.k 0,HR.k 4,HR.k 2,(au.c HG.o HT.o).1⟩;refine hK1 _ _ hC1 ?_;clear hK1 hC0;clear hs4 hb4 hsy;refine ao S hU [29,30,31,32,33] 53 0 hC1 ?_;constructor
 ·intro W' hW';simp only[pick,List.filterMap,gq1,gq2,gq3];obtain⟨q0,q1,q2,q3,q4,q5,q6⟩:=hW'
  repeat (go_big_quiet_step (fail))
  exact wpQuiet_nil rfl
 refine dd fun n9=>?_;revert HB HS HM HY HG HV H2 HR;refine cq (sdw W4 n9) ?_;intro HB HS HM HY HG HV H2 HR;clear S hU hC1;generalize W4.drewN n9=w9 at *;go_wp2_with fail;revert HR;revert H2;revert HB;revert HY;revert HM;revert HS
 refine cq (sdz w9) ?_;intro HS HM HY HB H2 HR;have hU:UD (fun W=>W.cell? (ae bo 0)=some (pt O)∧W.cell? (ae O 1)=some (.pointer (some ⟨Y,i*3,none⟩))∧W.cell? (ae O 4)=some (ci (t:Int))∧W.cell? (ae O 28)=some (ci st)∧W.cell? (ae Y (i*3))=some (.map (some M))):=al fun W n h=>h;have hC0:=hU.at _ ⟨H2.k 0,HR.k 1,HR.k 4,HR.k 28,by rw[←hmo];exact(f7.c HY.o HI.o).1⟩;refine dw aj hU hC0 ?_;intro S;generalize w9.drew=u0 at *;refine ao S hU [0,1,2,3,4,5,6,7,8,9,10,11,12,13,14,15] 53 1 hC0 ?_;constructor
 ·intro W' hW';simp only[pick,List.filterMap,gq1,gq2,gq3];obtain⟨q0,q1,q2,q3,q4⟩:=hW'
  repeat (go_big_quiet_step (fail))
  exact wpQuiet_nil rfl
 refine az S hU 16 0 rfl hC0 fun n0 K1 hK1=>?_;refine ly rfl _ _ _ 93 rfl 3 3 (Maps.int_keyed Tryz.underlying3) Tryz.underlying93 M n fm rfl (HM.o.drewN n0) hn (ci (t:Int)) (ci st) (ig t) rfl rfl (jd _ htw) ?_;intro W5 hm5 hs5;go_wp2_with fail;have nb_O:O∉[M]:=by simpa using ne_O_M
 have nb_bo:bo∉[M]:=by simpa using ne_bo_M
 have nb_Y:Y∉[M]:=by simpa using ne_Y_M
 have nb_B:B∉[M]:=by simpa using hM.1.symm
 have nb_A:A∉[M]:=by simpa using hM.2.symm
 replace HM:=qh hm5;revert HS HY HB H2 HR;refine cm (ssm hs5) ⟨(fun y hy _=>by simp at hy ⊢;first|omega|simp[hy]),nb_Y,⟨nb_B,nb_A⟩,nb_bo,nb_O,trivial⟩ ?_;intro HS HY HB H2 HR;have hC1:=hU.at _ ⟨H2.k 0,HR.k 1,HR.k 4,HR.k 28,by rw[←hmo];exact(f7.c HY.o HI.o).1⟩;refine hK1 _ _ hC1 ?_;clear hK1 hC0;clear hm5 hs5;refine dd fun n9=>?_;revert HM HS HY HB H2 HR;refine cq (sdw W5 n9) ?_;intro HM HS HY HB H2 HR;clear S hU hC1;generalize W5.drewN n9=wz at *;go_wp2_with fail;go_ret;exact⟨sx,rfl,HS.o,HB.o,HM.o⟩
end Go.Proofs.YtojkaibpfdhmaaaGreatDoor

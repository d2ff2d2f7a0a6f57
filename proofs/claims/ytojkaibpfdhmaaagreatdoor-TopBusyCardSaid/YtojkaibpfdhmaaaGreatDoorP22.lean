/- An operation that goes on to its end, step by step. -/
import Derived.Test.YtojkaibpfdhmaaaGreatDoorP21
import Derived.Test.YtojkaibpfdhmaaaGreatDoorP00
import Derived.Test.YtojkaibpfdhmaaaGreatDoorP20
import Derived.Handy
namespace Go.Proofs.YtojkaibpfdhmaaaGreatDoor
open Go.RowKit
set_option maxRecDepth 100000
set_option maxHeartbeats 16000000
structure OpC where
 kind:Int
 topic:Int
 sub:Int
 cap:Int
 rank:Int
 src:Int
 mode:Int
 flags:Int
 free:Bool
 set:Value
 words:Value
 next:Value
 ended:Bool
 code:Int
 asub:Int
 gen:Nat
 count:Int
 lost:Int
 st:St
 gens:Value
 awords:Value
 steps:Nat
 at_:Nat
abbrev OpC.cells(o:OpC)(V Y i:Nat):Array Value:=#[pt V,.pointer (some ⟨Y,i*3,none⟩),ci i,ci o.kind,ci o.topic,ci o.sub,ci o.cap,ci o.rank,ci o.src,ci o.mode,ci o.flags,.bool o.free,o.set,o.words,o.next,.bool o.ended,
 ci o.code,ci o.asub,cu o.gen,ci o.count,cu o.lost,ci o.st.m,ci o.st.s,.bool o.st.h,ci o.st.f,cu o.st.e,o.gens,o.awords,ci o.steps,ci o.at_]
theorem fy(w:World)(O:Nat)(er:Int):Calls Tryz.prog 47 #[pt O,ci er] w fun e w'=>e=.returned (.tuple #[.func (.func 61) #[] #[pt (w.heap.size+1),pt w.heap.size],ci 1])∧Below w.heap.size w w' ∧
  Row w' w.heap.size 95 #[pt O]∧Row w' (w.heap.size+1) 40 #[ci er]:=by
 have HB:=qh (af (af (brf w) (.cells #[pt O] 95)) (.cells #[ci er] 40));have R0:=qh ((Row.new w 95 #[pt O]).alloc (.cells #[ci er] 40));have r1:=Row.new (w.alloc (.cells #[pt O] 95)) 40 #[ci er];have hz:(w.alloc (.cells #[pt O] 95)).heap.size=w.heap.size+1:=by simp
 rw[hz] at r1;have R1:=qh r1;clear r1 hz
 go_enter Tryz.func47,Tryz.ntmps47
 go_wp2_with fail
 go_ret2
 exact⟨rfl,HB.o,R0.o,R1.o⟩
theorem c9q(w:World)(O V Y i be bo:Nat)(er:Int)(o:OpC)(hr:Row w O 122 (o.cells V Y i))(h1:Row w be 40 #[ci er])(h2:Row w bo 95 #[pt O]):Calls Tryz.prog 61 #[pt be,pt bo] w fun e w'=>e=.returned (.bool true)∧ab [O] w w'∧Row w' O 122 (OpC.cells {o with code:=er,at_:=1} V Y i):=by
 obtain⟨kd,tp,sb,cp,rk,sr,mo,fl,fr,se,wo,nx,en,co,su,ge,cn,lo,⟨m,s,h,f,ep⟩,gs,aw,st,at_⟩:=o;simp only[OpC.cells] at *;have HR:=qh hr;have H1:=qh h1;have H2:=qh h2;clear hr h1 h2
 go_enter Tryz.func61,Tryz.ntmps61
 go_wp2_with fail;have HS:=qh (ab.refl [O] w);have ne_be_O:be≠O:=fun e=>by subst e;exact absurd (HR.o.inj H1.o).1 (by decide)
 have ne_bo_O:bo≠O:=fun e=>by subst e;exact absurd (HR.o.inj H2.o).1 (by decide)
 have HRz:=qh HR.o.drew;have H1z:=qh H1.o.drew;have H2z:=qh H2.o.drew;have HSz:=qh HS.o.drew;have hU:UD (fun W=>W.cell? (ae be 0)=some (ci er)∧W.cell? (ae bo 0)=some (pt O)):=al fun W n h=>h;have hC0:=hU.at _ ⟨H1z.k 0,H2z.k 0⟩;refine dw aj hU hC0 ?_;intro S;generalize w.drew=u0 at *;clear HR H1 H2 HS;refine ao S hU [0,1,2,3,4,5] 11 4 hC0 ?_;constructor
 ·intro W' hW';simp only[pick,List.filterMap,gq1,gq2,gq3];obtain⟨q0,q1⟩:=hW'
  repeat (go_big_quiet_step (fail))
  exact wpQuiet_nil rfl
 refine iy S hU 6 3 rfl hC0 ?_;intro W1 hrW1 hcW1 K1 hK1;obtain⟨n0,rfl⟩:=hrW1;clear hcW1;have hfz:=(HRz.o.drewN n0).free;have hcw:=(HRz.o.drewN n0).k 16;go_wp2_with fail;have HRu1:=qh (((HRz.o.drewN n0).set 16 (ci er)).to (cs':=#[pt V,.pointer (some ⟨Y,i*3,none⟩),ci i,ci kd,ci tp,ci sb,ci cp,ci rk,ci sr,ci mo,ci fl,.bool fr,se,wo,nx,.bool en,ci er,ci su,cu ge,ci cn,cu lo,ci m,ci s,.bool h,ci f,cu ep,gs,aw,ci st,ci at_]) rfl);have H1u1:=qh ((H1z.o.drewN n0).ot ne_be_O 16 (ci er));have H2u1:=qh ((H2z.o.drewN n0).ot ne_bo_O 16 (ci er));have HSu1:=qh ((HSz.o.drewN n0).sc O 16 (ci er));have hC1:=hU.at _ ⟨H1u1.k 0,H2u1.k 0⟩;refine hK1 _ _ hC1 ?_;clear hK1;generalize ((u0.drewN n0).setCell ⟨O,16,none⟩ (ci er))=u1 at *;clear hfz hcw hC0 HRz H1z H2z HSz;refine ao S hU [7,8] 11 1 hC1 ?_;constructor
 ·intro W' hW';simp only[pick,List.filterMap,gq1,gq2,gq3];obtain⟨q0,q1⟩:=hW'
  repeat (go_big_quiet_step (fail))
  exact wpQuiet_nil rfl
 refine iy S hU 9 0 rfl hC1 ?_;intro W1 hrW1 hcW1 K1 hK1;obtain⟨n1,rfl⟩:=hrW1;clear hcW1;have hfz:=(HRu1.o.drewN n1).free;have hcw:=(HRu1.o.drewN n1).k 29;go_wp2_with fail;have HRu2:=qh (((HRu1.o.drewN n1).set 29 (ci 1)).to (cs':=#[pt V,.pointer (some ⟨Y,i*3,none⟩),ci i,ci kd,ci tp,ci sb,ci cp,ci rk,ci sr,ci mo,ci fl,.bool fr,se,wo,nx,.bool en,ci er,ci su,cu ge,ci cn,cu lo,ci m,ci s,.bool h,ci f,cu ep,gs,aw,ci st,ci 1]) rfl);have H1u2:=qh ((H1u1.o.drewN n1).ot ne_be_O 29 (ci 1));have H2u2:=qh ((H2u1.o.drewN n1).ot ne_bo_O 29 (ci 1));have HSu2:=qh ((HSu1.o.drewN n1).sc O 29 (ci 1));have hC2:=hU.at _ ⟨H1u2.k 0,H2u2.k 0⟩;refine hK1 _ _ hC2 ?_;clear hK1;generalize ((u1.drewN n1).setCell ⟨O,29,none⟩ (ci 1))=u2 at *;clear hfz hcw hC1 HRu1 H1u1 H2u1 HSu1;refine jt ?_;intro w9 hrw9;refine NoPanic.normal ?_;obtain⟨n9,rfl⟩:=hrw9;have HR:=qh (HRu2.o.drewN n9);have H1:=qh (H1u2.o.drewN n9)
 have H2:=qh (H2u2.o.drewN n9);have HS:=qh (HSu2.o.drewN n9);clear S hU hC2 HRu2 H1u2 H2u2 HSu2;generalize u2.drewN n9=w9 at *;go_wp2_with fail;go_ret;exact⟨rfl,HS.o,HR.o⟩
theorem c3e(caps:Array Value)(W:World):Sem.run Tryz.prog (callFunc 63 caps) W=.ok (.enter 63 caps) W:=by
 go_simp
theorem b5n(w:World)(O:Nat)(fa:Nat)(caps:Array Value):Calls Tryz.prog 62 #[pt O,.func (.func fa) #[] caps] w fun e w'=>e=.returned (.tuple #[.func (.func 116) #[] #[pt (w.heap.size+1),pt w.heap.size],ci 1])∧Below w.heap.size w w' ∧
  Row w' w.heap.size 95 #[pt O]∧Row w' (w.heap.size+1) 107 #[.func (.func fa) #[] caps]:=by
 have HB:=qh (af (af (brf w) (.cells #[pt O] 95)) (.cells #[.func (.func fa) #[] caps] 107));have R0:=qh ((Row.new w 95 #[pt O]).alloc (.cells #[.func (.func fa) #[] caps] 107));have r1:=Row.new (w.alloc (.cells #[pt O] 95)) 107 #[.func (.func fa) #[] caps];have hz:(w.alloc (.cells #[pt O] 95)).heap.size=w.heap.size+1:=by simp
 rw[hz] at r1;have R1:=qh r1;clear r1 hz
 go_enter Tryz.func62,Tryz.ntmps62
 go_wp2_with fail
 go_ret2
 exact⟨rfl,HB.o,R0.o,R1.o⟩
theorem b1p(w:World)(O V Y i ba bo fa:Nat)(caps:Array Value)(o:OpC)(P:World→Int→OpC→Prop)(hfa:∀W,Sem.run Tryz.prog (callFunc fa caps) W=.ok (.enter fa caps) W)(hr:Row w O 122 (o.cells V Y i))(h1:Row w ba 107 #[.func (.func fa) #[] caps])(h2:Row w bo 95 #[pt O])(hacc:∀W,ab [] w W→Calls Tryz.prog fa caps W fun e W'=>∃er o',e=.returned (ci er)∧P W' er o'∧Row W' O 122 (o'.cells V Y i)∧o'.steps=o.steps∧Row W' ba 107 #[.func (.func fa) #[] caps]∧Row W' bo 95 #[pt O]):Calls Tryz.prog 116 #[pt ba,pt bo] w fun e w'=>∃W1 er o',e=.returned (.bool true)∧P W1 er o'∧ab [O] W1 w'∧Row w' O 122 (OpC.cells {o' with code:=er,at_:=o'.steps} V Y i):=by
 obtain⟨kd,tp,sb,cp,rk,sr,mo,fl,fb,se,wv,nx,en,co,su,ge,cn,lo,⟨zm,zs,zh,zf,ze⟩,gv,av,st,at_⟩:=o;have ne_ba_O:ba≠O:=fun e=>by subst e;exact absurd (hr.inj h1).1 (by decide)
 have ne_bo_O:bo≠O:=fun e=>by subst e;exact absurd (hr.inj h2).1 (by decide)
 simp only[OpC.cells] at *;have HR:=qh hr;have H1:=qh h1;have H2:=qh h2;have HS:=qh (ab.refl [] w);have HA:=qh hacc;clear hr h1 h2 hacc
 go_enter Tryz.func116,Tryz.ntmps116
 go_wp2_with fail;have HRz:=qh HR.o.drew;have H1z:=qh H1.o.drew;have H2z:=qh H2.o.drew;have HSz:=qh HS.o.drew;have hU:UD (fun W=>W.cell? (ae ba 0)=some (.func (.func fa) #[] caps)∧W.cell? (ae bo 0)=some (pt O)∧W.cell? (ae O 28)=some (ci st)):=al fun W n h=>h;have hC0:=hU.at _ ⟨H1z.k 0,H2z.k 0,HRz.k 28⟩;refine dw aj hU hC0 ?_;intro S;generalize w.drew=u0 at *;clear HR H1 H2 HS;refine ao S hU [0,1,2,4,5,6,7] 16 8 hC0 ?_;constructor
 ·intro W' hW';simp only[pick,List.filterMap,gq1,gq2,gq3];obtain⟨q0,q1,q2⟩:=hW'
  repeat (go_big_quiet_step (fail))
  exact wpQuiet_nil rfl
 refine iy S hU 3 7 rfl hC0 ?_;intro W1 hrW1 hcW1 K1 hK1;obtain⟨n0,rfl⟩:=hrW1;clear hcW1;go_wp2_with fail;refine(HA.o (u0.drewN n0) (HSz.o.drewN n0)).mono ?_;rintro e W4 ⟨er,⟨kd',tp',sb',cp',rk',sr',mo',fl',fb',se',wv',nx',en',co',su',ge',cn',lo',⟨zm',zs',zh',zf',ze'⟩,gv',av',st,at_'⟩,rfl,hP,hrO,hst,hrA,hrB⟩;simp only at hst hrO;subst hst;have HP:=qh hP;clear hP;go_wp2_with fail;have HRc0:=qh hrO;have H1c0:=qh hrA;have H2c0:=qh hrB;have HSc0:=qh (ab.refl [O] W4);have hC1:=hU.at _ ⟨H1c0.k 0,H2c0.k 0,HRc0.k 28⟩;refine hK1 _ _ hC1 ?_;clear hK1;clear hC0 HRz H1z H2z HSz;clear hrO hrA hrB HA;refine ao S hU [8,9,10] 16 4 hC1 ?_;constructor
 ·intro W' hW';simp only[pick,List.filterMap,gq1,gq2,gq3];obtain⟨q0,q1,q2⟩:=hW'
  repeat (go_big_quiet_step (fail))
  exact wpQuiet_nil rfl
 refine iy S hU 11 3 rfl hC1 ?_;intro W1 hrW1 hcW1 K1 hK1;obtain⟨n1,rfl⟩:=hrW1;clear hcW1;have hfz:=(HRc0.o.drewN n1).free;have hcw:=(HRc0.o.drewN n1).k 16;go_wp2_with fail;have HRu2:=qh (((HRc0.o.drewN n1).set 16 (ci er)).to (cs':=#[pt V,.pointer (some ⟨Y,i*3,none⟩),ci i,ci kd',ci tp',ci sb',ci cp',ci rk',ci sr',ci mo',ci fl',.bool fb',se',wv',nx',.bool en',ci er,ci su',cu ge',ci cn',cu lo',ci zm',ci zs',.bool zh',ci zf',cu ze',gv',av',ci st,ci at_']) rfl);have H1u2:=qh ((H1c0.o.drewN n1).ot ne_ba_O 16 (ci er));have H2u2:=qh ((H2c0.o.drewN n1).ot ne_bo_O 16 (ci er));have HSu2:=qh ((HSc0.o.drewN n1).sc O 16 (ci er));have hC2:=hU.at _ ⟨H1u2.k 0,H2u2.k 0,HRu2.k 28⟩;refine hK1 _ _ hC2 ?_;clear hK1;generalize ((W4.drewN n1).setCell ⟨O,16,none⟩ (ci er))=u2 at *;clear hfz hcw hC1 HRc0 H1c0 H2c0 HSc0;refine ao S hU [12,13] 16 1 hC2 ?_;constructor
 ·intro W' hW';simp only[pick,List.filterMap,gq1,gq2,gq3];obtain⟨q0,q1,q2⟩:=hW'
  repeat (go_big_quiet_step (fail))
  exact wpQuiet_nil rfl
 refine iy S hU 14 0 rfl hC2 ?_;intro W1 hrW1 hcW1 K1 hK1;obtain⟨n2,rfl⟩:=hrW1;clear hcW1;have hfz:=(HRu2.o.drewN n2).free;have hcw:=(HRu2.o.drewN n2).k 29;go_wp2_with fail;have HRu3:=qh (((HRu2.o.drewN n2).set 29 (ci st)).to (cs':=#[pt V,.pointer (some ⟨Y,i*3,none⟩),ci i,ci kd',ci tp',ci sb',ci cp',ci rk',ci sr',ci mo',ci fl',.bool fb',se',wv',nx',.bool en',ci er,ci su',cu ge',ci cn',cu lo',ci zm',ci zs',.bool zh',ci zf',cu ze',gv',av',ci st,ci st]) rfl);have H1u3:=qh ((H1u2.o.drewN n2).ot ne_ba_O 29 (ci st));have H2u3:=qh ((H2u2.o.drewN n2).ot ne_bo_O 29 (ci st));have HSu3:=qh ((HSu2.o.drewN n2).sc O 29 (ci st));have hC3:=hU.at _ ⟨H1u3.k 0,H2u3.k 0,HRu3.k 28⟩;refine hK1 _ _ hC3 ?_;clear hK1;generalize ((u2.drewN n2).setCell ⟨O,29,none⟩ (ci st))=u3 at *;clear hfz hcw hC2 HRu2 H1u2 H2u2 HSu2;refine jt ?_;intro w9 hrw9;refine NoPanic.normal ?_;obtain⟨n9,rfl⟩:=hrw9
 have HR:=qh (HRu3.o.drewN n9);have H1:=qh (H1u3.o.drewN n9);have H2:=qh (H2u3.o.drewN n9);have HS:=qh (HSu3.o.drewN n9);clear S hU hC3 HRu3 H1u3 H2u3 HSu3;generalize u3.drewN n9=w9 at *;go_wp2_with fail;go_ret;exact⟨_,er,_,rfl,HP.o,HS.o,HR.o⟩
section
theorem pr(w:World)(O ty P fa:Nat)(n:Int)(caps:Array Value):Calls Tryz.prog 66 #[pt O,.iface ty (pt P),ci n,.func (.func fa) #[] caps] w fun e w'=>
  e=.returned (.tuple #[.func (.func 120) #[] #[pt (w.heap.size+1),pt w.heap.size,pt (w.heap.size+2)],ci n])∧Below w.heap.size w w' ∧
  Row w' w.heap.size 95 #[pt O]∧Row w' (w.heap.size+1) 212 #[.iface ty (pt P)]∧Row w' (w.heap.size+2) 1 #[.func (.func fa) #[] caps]:=by
 have HB:=qh (af (af (af (brf w) (.cells #[pt O] 95)) (.cells #[.iface ty (pt P)] 212)) (.cells #[.func (.func fa) #[] caps] 1));have R0:=qh (((Row.new w 95 #[pt O]).alloc (.cells #[.iface ty (pt P)] 212)).alloc (.cells #[.func (.func fa) #[] caps] 1));have r1:=(Row.new (w.alloc (.cells #[pt O] 95)) 212 #[.iface ty (pt P)]).alloc (.cells #[.func (.func fa) #[] caps] 1);have r2:=Row.new ((w.alloc (.cells #[pt O] 95)).alloc (.cells #[.iface ty (pt P)] 212)) 1 #[.func (.func fa) #[] caps];have hz:(w.alloc (.cells #[pt O] 95)).heap.size=w.heap.size+1:=by simp
 have hz2:((w.alloc (.cells #[pt O] 95)).alloc (.cells #[.iface ty (pt P)] 212)).heap.size=w.heap.size+2:=by simp
 rw[hz] at r1;rw[hz2] at r2;have R1:=qh r1;have R2:=qh r2;clear r1 r2 hz hz2
 go_enter Tryz.func66,Tryz.ntmps66
 go_wp2_with fail
 go_ret2
 exact⟨rfl,HB.o,R0.o,R1.o,R2.o⟩
theorem c3f(P : Nat)(W : World):Sem.run Tryz.prog (nilAhead 451 141 (pt P) "Step") W = .ok (some false) W := by kernel_rfl
attribute [local go_sem] c3f
theorem b9m(w:World)(O V Y i bm bo bd fd P B:Nat)(dc:Array Value)(o:OpC)(vc:Array Value)(Q:World→Int→Prop)(R:Bool→World→Prop)(hfd:∀W,Sem.run Tryz.prog (callFunc fd dc) W=.ok (.enter fd dc) W)(hr:Row w O 122 (o.cells V Y i))(h1:Row w bm 212 #[.iface 141 (pt P)])(h2:Row w bo 95 #[pt O])(h4:Row w V 92 vc)(h4b:vc[9]?=some (pt B))(hstep:∀W,ab [] w W→Calls Tryz.prog 271 #[pt P,pt B] W fun e W'=>∃v:Int,e=.returned (ci v)∧Q W' v∧Row W' O 122 (o.cells V Y i)∧Row W' bm 212 #[.iface 141 (pt P)]∧Row W' bo 95 #[pt O]∧Row W' bd 1 #[.func (.func fd) #[] dc]∧Row W' V 92 vc)(hz:∀W W',Q W 0→ab [] W W'→Row W' O 122 (o.cells V Y i)→R false W')(ht:∀W W',Q W 2→ab [O] W W'→Row W' O 122 (OpC.cells {o with code:=19} V Y i)→R true W')(hd:∀W W' v,Q W v→v≠0→v≠2→ab [] W W'→Row W' O 122 (o.cells V Y i)→Calls Tryz.prog fd dc W' fun e W''=>e=.returned (.tuple #[])∧R true W''):Calls Tryz.prog 120 #[pt bm,pt bo,pt bd] w fun e w'=>∃b:Bool,e=.returned (.bool b)∧R b w':=by
 obtain⟨kd,tp,sb,cp,rk,sr,mo,fl,fb,se,wv,nx,en,co,su,ge,cn,lo,⟨zm,zs,zh,zf,ze⟩,gv,av,st,at_⟩:=o;simp only[OpC.cells] at *;have HR:=qh hr;have H1:=qh h1;have H2:=qh h2;have HS:=qh (ab.refl [] w);have HA:=qh hstep;have HZ:=qh hz;have HT:=qh ht;have HD:=qh hd;have cB:=h4.cell h4b;have CB:=qh cB;clear hr h1 h2 h4 hstep hz ht hd cB
 go_enter Tryz.func120,Tryz.ntmps120
 go_wp2_with fail;have HSz:=qh HS.o.drew;have H1z:=qh H1.o.drew;have H2z:=qh H2.o.drew;have hU:UD (fun W=>W.cell? (ae bm 0)=some (.iface 141 (pt P))∧W.cell? (ae bo 0)=some (pt O)∧W.cell? (ae O 0)=some (pt V)∧W.cell? (ae V 9)=some (pt B)):=al fun W n h=>h;have hC0:=hU.at _ ⟨H1z.k 0,H2z.k 0,HR.o.drew.k 0,CB.o⟩;refine ei (fun W W'=>∃n,W'=W.drewN n) aj _ hU hC0 (by kernel_rfl) (by kernel_rfl) ?_;intro S;generalize w.drew=u0 at *;clear HR H1 H2 HS H1z H2z CB;refine ao S hU [0,1,2,3,4,5,6,7,8,9,10] 26 1 hC0 ?_;constructor
 ·intro W' hW';simp only[pick,List.filterMap,gq1,gq2,gq3];obtain⟨q0,q1,q2,q3⟩:=hW'
  repeat (go_big_quiet_step (fail))
  exact wpQuiet_nil rfl
 refine iy S hU 11 0 rfl hC0 ?_;intro W1 hrW1 hcW1 K1 hK1;obtain⟨n0,rfl⟩:=hrW1;clear hcW1 hC0;go_wp2_with fail;refine(HA.o (u0.drewN n0) (HSz.o.drewN n0)).mono ?_;rintro e W4 ⟨v,rfl,hQ,hrO,hrM,hrB,hrD,hrV⟩;go_wp2_with fail;refine hK1 _ _ ⟨hrM.k 0,hrB.k 0,hrO.k 0,hrV.cell h4b⟩ ?_;clear hK1 hrM hrV HA HSz hU;have HRo:=qh hrO;have HRb:=qh hrB;have HRd:=qh hrD;have HQ:=qh hQ;clear hrO hrB hrD hQ;refine jt ?_;intro w9 hrw9;refine NoPanic.normal ?_;obtain⟨n9,rfl⟩:=hrw9;clear S;have HS9:=qh ((ab.refl [] W4).drewN n9);have HR9:=qh (HRo.o.drewN n9);have HB9:=qh (HRb.o.drewN n9);have HD9:=qh (HRd.o.drewN n9);clear HRo HRb HRd;by_cases v0:v=0
 ·subst v0;go_wp2_with fail;go_ret;exact⟨false,rfl,HZ.o _ _ HQ.o HS9.o HR9.o⟩
 ·have e0:(v==0)=false:=bfn.2 v0;by_cases v2:v=2
  ·subst v2;clear HD9 HZ HD;have co:=HB9.k 0;have fz:=HR9.o.free;have cw:=HR9.k 16;have HX:=qh (HR9.o.set 16 (ci 19));have HY:=qh (((HS9.o).mono (M':=[O]) (fun _ h _=>by cases h)).sc O 16 (ci 19));clear HB9 HR9 HS9;go_wp2_with fail;go_ret;exact⟨true,rfl,HT.o _ _ HQ.o HY.o (HX.o.to rfl)⟩
  ·have e2:(v==2)=false:=bfn.2 v2;have cd:=HD9.k 0;have HC:=qh (HD.o _ _ v HQ.o v0 v2 HS9.o HR9.o);clear HB9 HR9 HS9 HD9 HZ HT HD;go_wp2_with fail;refine HC.o.mono ?_;rintro e w10 ⟨rfl,hR⟩;go_wp2_with fail;go_ret;exact⟨true,rfl,hR⟩
theorem c3g(P : Nat)(W : World):Sem.run Tryz.prog (nilAhead 451 147 (pt P) "Step") W = .ok (some false) W := by kernel_rfl
attribute [local go_sem] c3g
theorem b9n(w:World)(O V Y i bm bo bd fd P B:Nat)(dc:Array Value)(o:OpC)(vc:Array Value)(Q:World→Int→Prop)(R:Bool→World→Prop)(hfd:∀W,Sem.run Tryz.prog (callFunc fd dc) W=.ok (.enter fd dc) W)(hr:Row w O 122 (o.cells V Y i))(h1:Row w bm 212 #[.iface 147 (pt P)])(h2:Row w bo 95 #[pt O])(h4:Row w V 92 vc)(h4b:vc[9]?=some (pt B))(hstep:∀W,ab [] w W→Calls Tryz.prog 274 #[pt P,pt B] W fun e W'=>∃v:Int,e=.returned (ci v)∧Q W' v∧Row W' O 122 (o.cells V Y i)∧Row W' bm 212 #[.iface 147 (pt P)]∧Row W' bo 95 #[pt O]∧Row W' bd 1 #[.func (.func fd) #[] dc]∧Row W' V 92 vc)(hz:∀W W',Q W 0→ab [] W W'→Row W' O 122 (o.cells V Y i)→R false W')(ht:∀W W',Q W 2→ab [O] W W'→Row W' O 122 (OpC.cells {o with code:=19} V Y i)→R true W')(hd:∀W W' v,Q W v→v≠0→v≠2→ab [] W W'→Row W' O 122 (o.cells V Y i)→Calls Tryz.prog fd dc W' fun e W''=>e=.returned (.tuple #[])∧R true W''):Calls Tryz.prog 120 #[pt bm,pt bo,pt bd] w fun e w'=>∃b:Bool,e=.returned (.bool b)∧R b w':=by
 obtain⟨kd,tp,sb,cp,rk,sr,mo,fl,fb,se,wv,nx,en,co,su,ge,cn,lo,⟨zm,zs,zh,zf,ze⟩,gv,av,st,at_⟩:=o;simp only[OpC.cells] at *;have HR:=qh hr;have H1:=qh h1;have H2:=qh h2;have HS:=qh (ab.refl [] w);have HA:=qh hstep;have HZ:=qh hz;have HT:=qh ht;have HD:=qh hd;have cB:=h4.cell h4b;have CB:=qh cB;clear hr h1 h2 h4 hstep hz ht hd cB
 go_enter Tryz.func120,Tryz.ntmps120
 go_wp2_with fail;have HSz:=qh HS.o.drew;have H1z:=qh H1.o.drew;have H2z:=qh H2.o.drew;have hU:UD (fun W=>W.cell? (ae bm 0)=some (.iface 147 (pt P))∧W.cell? (ae bo 0)=some (pt O)∧W.cell? (ae O 0)=some (pt V)∧W.cell? (ae V 9)=some (pt B)):=al fun W n h=>h;have hC0:=hU.at _ ⟨H1z.k 0,H2z.k 0,HR.o.drew.k 0,CB.o⟩;refine ei (fun W W'=>∃n,W'=W.drewN n) aj _ hU hC0 (by kernel_rfl) (by kernel_rfl) ?_;intro S;generalize w.drew=u0 at *;clear HR H1 H2 HS H1z H2z CB;refine ao S hU [0,1,2,3,4,5,6,7,8,9,10] 26 1 hC0 ?_;constructor
 ·intro W' hW';simp only[pick,List.filterMap,gq1,gq2,gq3];obtain⟨q0,q1,q2,q3⟩:=hW'
  repeat (go_big_quiet_step (fail))
  exact wpQuiet_nil rfl
 refine iy S hU 11 0 rfl hC0 ?_;intro W1 hrW1 hcW1 K1 hK1;obtain⟨n0,rfl⟩:=hrW1;clear hcW1 hC0;go_wp2_with fail;refine(HA.o (u0.drewN n0) (HSz.o.drewN n0)).mono ?_;rintro e W4 ⟨v,rfl,hQ,hrO,hrM,hrB,hrD,hrV⟩;go_wp2_with fail;refine hK1 _ _ ⟨hrM.k 0,hrB.k 0,hrO.k 0,hrV.cell h4b⟩ ?_;clear hK1 hrM hrV HA HSz hU;have HRo:=qh hrO;have HRb:=qh hrB;have HRd:=qh hrD;have HQ:=qh hQ;clear hrO hrB hrD hQ;refine jt ?_;intro w9 hrw9;refine NoPanic.normal ?_;obtain⟨n9,rfl⟩:=hrw9;clear S;have HS9:=qh ((ab.refl [] W4).drewN n9);have HR9:=qh (HRo.o.drewN n9);have HB9:=qh (HRb.o.drewN n9);have HD9:=qh (HRd.o.drewN n9);clear HRo HRb HRd;by_cases v0:v=0
 ·subst v0;go_wp2_with fail;go_ret;exact⟨false,rfl,HZ.o _ _ HQ.o HS9.o HR9.o⟩
 ·have e0:(v==0)=false:=bfn.2 v0;by_cases v2:v=2
  ·subst v2;clear HD9 HZ HD;have co:=HB9.k 0;have fz:=HR9.o.free;have cw:=HR9.k 16;have HX:=qh (HR9.o.set 16 (ci 19));have HY:=qh (((HS9.o).mono (M':=[O]) (fun _ h _=>by cases h)).sc O 16 (ci 19));clear HB9 HR9 HS9;go_wp2_with fail;go_ret;exact⟨true,rfl,HT.o _ _ HQ.o HY.o (HX.o.to rfl)⟩
  ·have e2:(v==2)=false:=bfn.2 v2;have cd:=HD9.k 0;have HC:=qh (HD.o _ _ v HQ.o v0 v2 HS9.o HR9.o);clear HB9 HR9 HS9 HD9 HZ HT HD;go_wp2_with fail;refine HC.o.mono ?_;rintro e w10 ⟨rfl,hR⟩;go_wp2_with fail;go_ret;exact⟨true,rfl,hR⟩
theorem c3h(P : Nat)(W : World):Sem.run Tryz.prog (nilAhead 451 156 (pt P) "Step") W = .ok (some false) W := by kernel_rfl
attribute [local go_sem] c3h
theorem b9o(w:World)(O V Y i bm bo bd fd P B:Nat)(dc:Array Value)(o:OpC)(vc:Array Value)(Q:World→Int→Prop)(R:Bool→World→Prop)(hfd:∀W,Sem.run Tryz.prog (callFunc fd dc) W=.ok (.enter fd dc) W)(hr:Row w O 122 (o.cells V Y i))(h1:Row w bm 212 #[.iface 156 (pt P)])(h2:Row w bo 95 #[pt O])(h4:Row w V 92 vc)(h4b:vc[9]?=some (pt B))(hstep:∀W,ab [] w W→Calls Tryz.prog 280 #[pt P,pt B] W fun e W'=>∃v:Int,e=.returned (ci v)∧Q W' v∧Row W' O 122 (o.cells V Y i)∧Row W' bm 212 #[.iface 156 (pt P)]∧Row W' bo 95 #[pt O]∧Row W' bd 1 #[.func (.func fd) #[] dc]∧Row W' V 92 vc)(hz:∀W W',Q W 0→ab [] W W'→Row W' O 122 (o.cells V Y i)→R false W')(ht:∀W W',Q W 2→ab [O] W W'→Row W' O 122 (OpC.cells {o with code:=19} V Y i)→R true W')(hd:∀W W' v,Q W v→v≠0→v≠2→ab [] W W'→Row W' O 122 (o.cells V Y i)→Calls Tryz.prog fd dc W' fun e W''=>e=.returned (.tuple #[])∧R true W''):Calls Tryz.prog 120 #[pt bm,pt bo,pt bd] w fun e w'=>∃b:Bool,e=.returned (.bool b)∧R b w':=by
 obtain⟨kd,tp,sb,cp,rk,sr,mo,fl,fb,se,wv,nx,en,co,su,ge,cn,lo,⟨zm,zs,zh,zf,ze⟩,gv,av,st,at_⟩:=o;simp only[OpC.cells] at *;have HR:=qh hr;have H1:=qh h1;have H2:=qh h2;have HS:=qh (ab.refl [] w);have HA:=qh hstep;have HZ:=qh hz;have HT:=qh ht;have HD:=qh hd;have cB:=h4.cell h4b;have CB:=qh cB;clear hr h1 h2 h4 hstep hz ht hd cB
 go_enter Tryz.func120,Tryz.ntmps120
 go_wp2_with fail;have HSz:=qh HS.o.drew;have H1z:=qh H1.o.drew;have H2z:=qh H2.o.drew;have hU:UD (fun W=>W.cell? (ae bm 0)=some (.iface 156 (pt P))∧W.cell? (ae bo 0)=some (pt O)∧W.cell? (ae O 0)=some (pt V)∧W.cell? (ae V 9)=some (pt B)):=al fun W n h=>h;have hC0:=hU.at _ ⟨H1z.k 0,H2z.k 0,HR.o.drew.k 0,CB.o⟩;refine ei (fun W W'=>∃n,W'=W.drewN n) aj _ hU hC0 (by kernel_rfl) (by kernel_rfl) ?_;intro S;generalize w.drew=u0 at *;clear HR H1 H2 HS H1z H2z CB;refine ao S hU [0,1,2,3,4,5,6,7,8,9,10] 26 1 hC0 ?_;constructor
 ·intro W' hW';simp only[pick,List.filterMap,gq1,gq2,gq3];obtain⟨q0,q1,q2,q3⟩:=hW'
  repeat (go_big_quiet_step (fail))
  exact wpQuiet_nil rfl
 refine iy S hU 11 0 rfl hC0 ?_;intro W1 hrW1 hcW1 K1 hK1;obtain⟨n0,rfl⟩:=hrW1;clear hcW1 hC0;go_wp2_with fail;refine(HA.o (u0.drewN n0) (HSz.o.drewN n0)).mono ?_;rintro e W4 ⟨v,rfl,hQ,hrO,hrM,hrB,hrD,hrV⟩;go_wp2_with fail;refine hK1 _ _ ⟨hrM.k 0,hrB.k 0,hrO.k 0,hrV.cell h4b⟩ ?_;clear hK1 hrM hrV HA HSz hU;have HRo:=qh hrO;have HRb:=qh hrB;have HRd:=qh hrD;have HQ:=qh hQ;clear hrO hrB hrD hQ;refine jt ?_;intro w9 hrw9;refine NoPanic.normal ?_;obtain⟨n9,rfl⟩:=hrw9;clear S;have HS9:=qh ((ab.refl [] W4).drewN n9);have HR9:=qh (HRo.o.drewN n9);have HB9:=qh (HRb.o.drewN n9);have HD9:=qh (HRd.o.drewN n9);clear HRo HRb HRd;by_cases v0:v=0
 ·subst v0;go_wp2_with fail;go_ret;exact⟨false,rfl,HZ.o _ _ HQ.o HS9.o HR9.o⟩
 ·have e0:(v==0)=false:=bfn.2 v0;by_cases v2:v=2
  ·subst v2;clear HD9 HZ HD;have co:=HB9.k 0;have fz:=HR9.o.free;have cw:=HR9.k 16;have HX:=qh (HR9.o.set 16 (ci 19));have HY:=qh (((HS9.o).mono (M':=[O]) (fun _ h _=>by cases h)).sc O 16 (ci 19));clear HB9 HR9 HS9;go_wp2_with fail;go_ret;exact⟨true,rfl,HT.o _ _ HQ.o HY.o (HX.o.to rfl)⟩
  ·have e2:(v==2)=false:=bfn.2 v2;have cd:=HD9.k 0;have HC:=qh (HD.o _ _ v HQ.o v0 v2 HS9.o HR9.o);clear HB9 HR9 HS9 HD9 HZ HT HD;go_wp2_with fail;refine HC.o.mono ?_;rintro e w10 ⟨rfl,hR⟩;go_wp2_with fail;go_ret;exact⟨true,rfl,hR⟩
theorem c3i(P : Nat)(W : World):Sem.run Tryz.prog (nilAhead 451 171 (pt P) "Step") W = .ok (some false) W := by kernel_rfl
attribute [local go_sem] c3i
theorem b9p(w:World)(O V Y i bm bo bd fd P B:Nat)(dc:Array Value)(o:OpC)(vc:Array Value)(Q:World→Int→Prop)(R:Bool→World→Prop)(hfd:∀W,Sem.run Tryz.prog (callFunc fd dc) W=.ok (.enter fd dc) W)(hr:Row w O 122 (o.cells V Y i))(h1:Row w bm 212 #[.iface 171 (pt P)])(h2:Row w bo 95 #[pt O])(h4:Row w V 92 vc)(h4b:vc[9]?=some (pt B))(hstep:∀W,ab [] w W→Calls Tryz.prog 282 #[pt P,pt B] W fun e W'=>∃v:Int,e=.returned (ci v)∧Q W' v∧Row W' O 122 (o.cells V Y i)∧Row W' bm 212 #[.iface 171 (pt P)]∧Row W' bo 95 #[pt O]∧Row W' bd 1 #[.func (.func fd) #[] dc]∧Row W' V 92 vc)(hz:∀W W',Q W 0→ab [] W W'→Row W' O 122 (o.cells V Y i)→R false W')(ht:∀W W',Q W 2→ab [O] W W'→Row W' O 122 (OpC.cells {o with code:=19} V Y i)→R true W')(hd:∀W W' v,Q W v→v≠0→v≠2→ab [] W W'→Row W' O 122 (o.cells V Y i)→Calls Tryz.prog fd dc W' fun e W''=>e=.returned (.tuple #[])∧R true W''):Calls Tryz.prog 120 #[pt bm,pt bo,pt bd] w fun e w'=>∃b:Bool,e=.returned (.bool b)∧R b w':=by
 obtain⟨kd,tp,sb,cp,rk,sr,mo,fl,fb,se,wv,nx,en,co,su,ge,cn,lo,⟨zm,zs,zh,zf,ze⟩,gv,av,st,at_⟩:=o;simp only[OpC.cells] at *;have HR:=qh hr;have H1:=qh h1;have H2:=qh h2;have HS:=qh (ab.refl [] w);have HA:=qh hstep;have HZ:=qh hz;have HT:=qh ht;have HD:=qh hd;have cB:=h4.cell h4b;have CB:=qh cB;clear hr h1 h2 h4 hstep hz ht hd cB
 go_enter Tryz.func120,Tryz.ntmps120
 go_wp2_with fail;have HSz:=qh HS.o.drew;have H1z:=qh H1.o.drew;have H2z:=qh H2.o.drew;have hU:UD (fun W=>W.cell? (ae bm 0)=some (.iface 171 (pt P))∧W.cell? (ae bo 0)=some (pt O)∧W.cell? (ae O 0)=some (pt V)∧W.cell? (ae V 9)=some (pt B)):=al fun W n h=>h;have hC0:=hU.at _ ⟨H1z.k 0,H2z.k 0,HR.o.drew.k 0,CB.o⟩;refine ei (fun W W'=>∃n,W'=W.drewN n) aj _ hU hC0 (by kernel_rfl) (by kernel_rfl) ?_;intro S;generalize w.drew=u0 at *;clear HR H1 H2 HS H1z H2z CB;refine ao S hU [0,1,2,3,4,5,6,7,8,9,10] 26 1 hC0 ?_;constructor
 ·intro W' hW';simp only[pick,List.filterMap,gq1,gq2,gq3];obtain⟨q0,q1,q2,q3⟩:=hW'
  repeat (go_big_quiet_step (fail))
  exact wpQuiet_nil rfl
 refine iy S hU 11 0 rfl hC0 ?_;intro W1 hrW1 hcW1 K1 hK1;obtain⟨n0,rfl⟩:=hrW1;clear hcW1 hC0;go_wp2_with fail;refine(HA.o (u0.drewN n0) (HSz.o.drewN n0)).mono ?_;rintro e W4 ⟨v,rfl,hQ,hrO,hrM,hrB,hrD,hrV⟩;go_wp2_with fail;refine hK1 _ _ ⟨hrM.k 0,hrB.k 0,hrO.k 0,hrV.cell h4b⟩ ?_;clear hK1 hrM hrV HA HSz hU;have HRo:=qh hrO;have HRb:=qh hrB;have HRd:=qh hrD;have HQ:=qh hQ;clear hrO hrB hrD hQ;refine jt ?_;intro w9 hrw9;refine NoPanic.normal ?_;obtain⟨n9,rfl⟩:=hrw9;clear S;have HS9:=qh ((ab.refl [] W4).drewN n9);have HR9:=qh (HRo.o.drewN n9);have HB9:=qh (HRb.o.drewN n9);have HD9:=qh (HRd.o.drewN n9);clear HRo HRb HRd;by_cases v0:v=0
 ·subst v0;go_wp2_with fail;go_ret;exact⟨false,rfl,HZ.o _ _ HQ.o HS9.o HR9.o⟩
 ·have e0:(v==0)=false:=bfn.2 v0;by_cases v2:v=2
  ·subst v2;clear HD9 HZ HD;have co:=HB9.k 0;have fz:=HR9.o.free;have cw:=HR9.k 16;have HX:=qh (HR9.o.set 16 (ci 19));have HY:=qh (((HS9.o).mono (M':=[O]) (fun _ h _=>by cases h)).sc O 16 (ci 19));clear HB9 HR9 HS9;go_wp2_with fail;go_ret;exact⟨true,rfl,HT.o _ _ HQ.o HY.o (HX.o.to rfl)⟩
  ·have e2:(v==2)=false:=bfn.2 v2;have cd:=HD9.k 0;have HC:=qh (HD.o _ _ v HQ.o v0 v2 HS9.o HR9.o);clear HB9 HR9 HS9 HD9 HZ HT HD;go_wp2_with fail;refine HC.o.mono ?_;rintro e w10 ⟨rfl,hR⟩;go_wp2_with fail;go_ret;exact⟨true,rfl,hR⟩
end
end Go.Proofs.YtojkaibpfdhmaaaGreatDoor

/- Contracts of package poll: New. -/
import Derived.Test.YtojkaibpfdhmaaaGreatDoorP16
import Derived.Test.YtojkaibpfdhmaaaGreatDoorP25
import Derived.Test.YtojkaibpfdhmaaaGreatDoorP17
import Derived.Test.YtojkaibpfdhmaaaGreatDoorP20
namespace Go.Proofs.YtojkaibpfdhmaaaGreatDoor
open Go.RowKit
set_option maxRecDepth 100000
set_option maxHeartbeats 16000000
theorem d0f(w:World)(V:Nat)(v:dg)(n:Int)(hv:Row w V 92 v.cells):Calls Tryz.prog 37 #[pt V,ci n] w fun e w'=>e=.returned (.bool (decide (0≤n∧n<v.T)))∧w=w':=by
 have c1:w.cell? (ae V 10)=some (zl v.Y v.T v.yk):=hv.k 10;clear hv;by_cases h:0≤n
 ·have h':decide (0≤n)=true:=dqt h
  go_enter Tryz.func37,Tryz.ntmps37
  go_wp2;go_ret;exact⟨bq (by simp[h]),rfl⟩
 ·have h':decide (0≤n)=false:=dqf h
  go_enter Tryz.func37,Tryz.ntmps37
  go_wp2;go_ret;exact⟨bq (by simp),rfl⟩
theorem at40(w:World)(O V Y i:Nat)(o:OpC)(hr:Row w O 122 (o.cells V Y i)):Calls Tryz.prog 40 #[pt O] w fun e w'=>e=.returned (ci o.at_)∧w=w':=by
 have c1:w.cell? (ae O 29)=some (ci o.at_):=hr.k 29;clear hr
 go_enter Tryz.func40,Tryz.ntmps40
 go_wp2;go_ret;exact⟨rfl,rfl⟩
theorem c9g(w:World)(O V Y i fd:Nat)(caps:Array Value)(o:OpC)(Q:Bool→World→OpC→List Own→Prop)(hfa:∀W,Sem.run Tryz.prog (callFunc fd caps) W=.ok (.enter fd caps) W)(hr:Row w O 122 (o.cells V Y i))(hen:o.ended=false)(hnx:o.next=.func (.func fd) #[] caps)(hst:o.steps≤1000000)(hcall:∀W,ab [O] w W→Row W O 122 (OpC.cells {o with steps:=o.steps+1} V Y i)→Calls Tryz.prog fd caps W fun e W'=>∃b o' ows' ow',e=.returned (.bool b)∧Q b W' o' ows'∧Row W' O 122 (o'.cells V Y i)∧o'.ended=false∧f7 W' Y ows'∧ows'[i]?=some ow'):Calls Tryz.prog 39 #[pt O] w fun e w'=>∃b W1 o' ows' ow',e=.returned (.bool b)∧Q b W1 o' ows'∧ows'[i]?=some ow'∧ab [O,Y] W1 w'∧(b=false→W1=w')∧(b=true→Row w' O 122 (OpC.cells {o' with ended:=true} V Y i)∧f7 w' Y (ows'.set i {ow' with op:=none})):=by
 obtain⟨kd,tp,sb,cp,rk,sr,mo,fl,fb,se,wy,nx,en,co,su,ge,cn,lo,⟨zm,zs,zh,zf,ze⟩,gv,av,st,at_⟩:=o;simp only at hen hnx hst;subst hen hnx;simp only[OpC.cells] at *;have HR:=qh ((hr.set 28 (ci (st+1:Nat))).to (cs':=#[pt V,.pointer (some ⟨Y,i*3,none⟩),ci i,ci kd,ci tp,ci sb,ci cp,ci rk,ci sr,ci mo,ci fl,.bool fb,se,wy,.func (.func fd) #[] caps,.bool false,ci co,ci su,cu ge,ci cn,cu lo,ci zm,ci zs,.bool zh,ci zf,cu ze,gv,av,ci (st+1:Nat),ci at_]) rfl);have hfz:=hr.free;have hcw:=hr.k 28;have c14:=hr.k 14;have c15:=hr.k 15;have d14:=HR.k 14;have HS:=qh (sj (W:=w) O 28 (ci (st+1:Nat)));have HA:=qh hcall;clear hr hcall
 go_enter Tryz.func39,Tryz.ntmps39
 go_wp2_with fail;clear hfz hcw c14 c15 d14;refine(HA.o _ HS.o HR.o).mono ?_;clear HA HS HR;rintro e W4 ⟨b,⟨kd',tp',sb',cp',rk',sr',mo',fl',fb',se',wy',nx',en',co',su',ge',cn',lo',⟨zm',zs',zh',zf',ze'⟩,gv',av',st',at_'⟩,ows',⟨om,sv,oop⟩,rfl,hq,hrO,hsd,hy,hi⟩;simp only at hsd;subst hsd;have HQ:=qh hq;have HRO:=qh hrO;have HY:=qh hy;have HI:=qh hi;clear hq hrO hy hi;cases b
 ·have c15:=HRO.k 15;go_wp2_with fail;go_ret;exact⟨false,W4,_,ows',_,rfl,HQ.o,HI.o,ab.refl _ _,fun _=>rfl,fun h=>(by cases h)⟩
 ·have ne_O_Y:O≠Y:=fun e=>by
   subst e;obtain⟨cur,hr,_⟩:=HY.o.ex;exact absurd (HRO.o.inj hr).1 (by decide)
  have hf1:=HRO.o.free;have c15:=HRO.k 15;have R1:=qh ((HRO.o.set 15 (.bool true)).to (cs':=#[pt V,.pointer (some ⟨Y,i*3,none⟩),ci i,ci kd',ci tp',ci sb',ci cp',ci rk',ci sr',ci mo',ci fl',.bool fb',se',wy',nx',.bool true,ci co',ci su',cu ge',ci cn',cu lo',ci zm',ci zs',.bool zh',ci zf',cu ze',gv',av',ci st',ci at_']) rfl);have Y1:=qh (HY.o.other (a:=⟨O,15,none⟩) ne_O_Y.symm (.bool true));have S1:=qh ((ab.refl [O,Y] W4).sc O 15 (.bool true));have c1:=R1.k 1;have hf2:=Y1.o.free;have cy:=(f7.c Y1.o HI.o).2.2;have R2:=qh (R1.o.ot ne_O_Y (i*3+2) (.pointer none));have Y2:=qh (Y1.o.set Own.enc_len (k:=i) (j:=2) (x:=⟨om,sv,oop⟩) (x':=⟨om,sv,none⟩) (v:=.pointer none) HI.o (by decide) rfl);have S2:=qh (S1.o.sc Y (i*3+2) (.pointer none));have e15:=R2.k 15;go_wp2_with fail;go_ret;exact⟨true,W4,_,ows',_,rfl,HQ.o,HI.o,S2.o,fun h=>(by cases h),fun _=>⟨R2.o,Y2.o⟩⟩
def xa(l:List Sub)(s:List am)(t:Tpc):Prop:=t.gen=0∧∃(i:Nat)(x:Sub)(y:am),l[i]?=some x∧s[i]?=some y∧t.n=x.topic∧t.spot=y
structure xv(w W:World)(P G C tr:Nat)(l:List Sub)(s:List am)(k:Nat):Prop where
 b:Below w.heap.size w W
 subs:eu W G l
 t:∃(v:Value)(ts:List Tpc),Row W P 228 #[zl G l.length C,v,ci tr,ci 1,ci 0,ci (-1),cu 0,ci 0,ci 0,zn,ci 0,ci 0,ci 0]∧W.ownsRow (P+1) 231 7 v ts.length (ts.flatMap Tpc.enc)∧ts.length≤k∧(1≤k→1≤ts.length)∧(k=0→v=zn)∧(∀t∈ts,xa l s t)∧∀i x,i<k→l[i]?=some x→∃t∈ts,t.n=x.topic
theorem xv.step{w W W':World}{P G C tr:Nat}{l:List Sub}{s:List am}{k:Nat}{M:List Nat}(h:xv w W P G C tr l s k)(hs:ab M W W')(hM:∀b∈M,w.heap.size≤b)(hG:G∉M)(_:True)(ht:∃(v:Value)(ts:List Tpc),Row W' P 228 #[zl G l.length C,v,ci tr,ci 1,ci 0,ci (-1),cu 0,ci 0,ci 0,zn,ci 0,ci 0,ci 0]∧W'.ownsRow (P+1) 231 7 v ts.length (ts.flatMap Tpc.enc)∧ts.length≤k+1∧(1≤k+1→1≤ts.length)∧(k+1=0→v=zn)∧(∀t∈ts,xa l s t)∧∀i x,i<k+1→l[i]?=some x→∃t∈ts,t.n=x.topic):xv w W' P G C tr l s (k+1):=
 ⟨jc h.b hs hM,h.subs.same hs hG,ht⟩
theorem c8r(w:World)(g1 c1 g c tr:Nat)(l:List Sub)(s:List am)(hl:eu w g1 l)(hs:au w g s)(hlen:s.length=l.length)(h1:1≤l.length)(h8:l.length≤8)(hc1:l.length≤c1)(hok:∀x∈s,x.Ok)(ht1:1≤tr)(ht2:tr≤16):Calls Tryz.prog 87 #[zl g1 l.length c1,zl g l.length c,ci tr] w fun e w'=>∃(pv:Value)(er:Int),e=.returned (.tuple #[pv,ci er])∧Below w.heap.size w w' ∧
   ((er=1∧pv=.pointer none)∨(er=0∧∃P G C g2 c2 ts,pv=pt P∧w.heap.size≤P∧w.heap.size≤G∧w.heap.size≤g2∧G≠P∧g2≠P∧G≠g2∧Row w' P 228 (POp.cells ⟨tr,1,0,-1,0,0,0,0,0,0⟩ G l.length C g2 ts.length c2 (zn))∧eu w' G l∧ia w' g2 ts ∧
    1≤ts.length∧ts.length≤l.length∧(∀t∈ts,xa l s t)∧∀x∈l,∃t∈ts,t.n=x.topic)):=by
 have hf:=qh (c5p w g1 c1 g c l s hl hs hlen h1 (by omega) hc1 hok);have hm:=qh (c2i tr);rw[dqt (by omega:1≤(tr:Int)∧(tr:Int)≤16)] at hm;have HL:=qh hl;have HS:=qh hs;have hgl:=hs.lt;have hg1l:=hl.lt;clear hl hs
 go_enter Tryz.func87,Tryz.ntmps87
 go_wp2_with fail;refine hf.o.mono ?_;rintro e w2 ⟨b,rfl,hb2⟩;have HB2:=qh hb2;have HL2:=qh (HL.o.bel hb2);have HS2:=qh (HS.o.bel hb2);clear hb2 hf HL HS;cases b
 ·go_wp2_with fail
  go_ret2
  exact⟨_,1,rfl,HB2.o,Or.inl ⟨rfl,rfl⟩⟩
 ·have hcl:=qh (rq (HL2.o.has Sub.enc_len c1) (Sub.enc_one l) (by omega))
  go_wp2_with (first|(go_at_call 132;refine(hm.o _).mono ?_;rintro e w' ⟨rfl,rfl⟩))
  refine hcl.o.mono ?_;rintro e w3 ⟨v,rfl,hb3,ho3,-⟩;obtain⟨G,C,rfl,hG,hC,hA⟩:=Arr.of_own (E:=170) ho3 rfl h1;have hPs:w3.heap.size=w3.heap.size:=rfl;have HOP:=qh (Row.new w3 228 #[zl G l.length C,zn,ci tr,ci 1,ci 0,ci (-1),cu 0,ci 0,ci 0,zn,ci 0,ci 0,ci 0]);have HA3:=qh (hA.alloc (.cells #[zl G l.length C,zn,ci tr,ci 1,ci 0,ci (-1),cu 0,ci 0,ci 0,zn,ci 0,ci 0,ci 0] 228));have HS3:=qh ((HS2.o.bel hb3).alloc (.cells #[zl G l.length C,zn,ci tr,ci 1,ci 0,ci (-1),cu 0,ci 0,ci 0,zn,ci 0,ci 0,ci 0] 228));have HL3:=qh ((HL2.o.bel hb3).alloc (.cells #[zl G l.length C,zn,ci tr,ci 1,ci 0,ci (-1),cu 0,ci 0,ci 0,zn,ci 0,ci 0,ci 0] 228));have HB3:=qh (af (bt HB2.o hb3) (.cells #[zl G l.length C,zn,ci tr,ci 1,ci 0,ci (-1),cu 0,ci 0,ci 0,zn,ci 0,ci 0,ci 0] 228));have hGl:=hA.lt;have hG2:w.heap.size≤G:=nlt HB2.o.size hG;have hP2:w.heap.size≤w3.heap.size:=nlt hG2 (Nat.le_of_lt hGl)
  clear hb3 ho3 hA hcl HL2 HS2 HB2 hPs hG;go_wp2_with fail;generalize hP:w3.heap.size=P at *;generalize w3.alloc (.cells #[zl G l.length C,zn,ci tr,ci 1,ci 0,ci (-1),cu 0,ci 0,ci 0,zn,ci 0,ci 0,ci 0] 228)=w4 at *;clear hP;have hG0:xv w w4 P G C tr l s 0:=⟨HB3.o,HA3.o,zn,[],HOP.o,World.ownsRow_nil _ _ _ _,nlr _,fun h=>absurd h (by omega),fun _=>rfl,(fun t h=>by cases h),fun i x h=>absurd h (by omega)⟩;have HSL:=qh (And.intro HS3.o HL3.o);have hPl:=HOP.o.lt;clear HOP HA3 HB3
  go_loopw [25] (fun i W=>∃k:Nat,k≤l.length∧i=ci k∧xv w W P G C tr l s k∧Hd (au W g s∧eu W g1 l)) (fun i _=>l.length-(intOf i).toNat)
  case atStart=>exact⟨0,by omega,rfl,hG0,HSL⟩
  case round=>
   clear hG0 HSL;obtain⟨k,hk,rfl,hGk,HSL⟩:=hrel;by_cases hkl:k<l.length
   ·have i1:(k:Int)<l.length:=by omega
    have hx:l[k]?=some l[k]:=cz hkl;have hy:s[k]?=some s[k]:=cz (by omega);obtain⟨d0,d1,d2,d3,d4,d5⟩:=eu.c HSL.o.2 hx;obtain⟨v,ts,hrow,hown,hle,hge,hnil,hpk,hall⟩:=hGk.t;have HX:=qh hx;have HY:=qh hy;clear hx hy;generalize l[k]=sx at *;generalize s[k]=sp at *;have HK:=qh hGk;have HNIL:=qh hnil;have HRW:=qh (hrow.alloc (.cells #[ci sx.topic,ci sx.rank,cu sx.cur.next,ci sx.cur.cap,cu sx.cur.got,cu sx.cur.lost] 170));have HOW:=qh (hown.alloc (.cells #[ci sx.topic,ci sx.rank,cu sx.cur.next,ci sx.cur.cap,cu sx.cur.got,cu sx.cur.lost] 170));have HSB:=qh (Row.new wr 170 #[ci sx.topic,ci sx.rank,cu sx.cur.next,ci sx.cur.cap,cu sx.cur.got,cu sx.cur.lost]);have HSP:=qh (HSL.o.1.alloc (.cells #[ci sx.topic,ci sx.rank,cu sx.cur.next,ci sx.cur.cap,cu sx.cur.got,cu sx.cur.lost] 170))
    have HSX:=qh (ab.alloc (M:=[]) wr (.cells #[ci sx.topic,ci sx.rank,cu sx.cur.next,ci sx.cur.cap,cu sx.cur.got,cu sx.cur.lost] 170));have hrl:=hrow.lt;have HPK:=qh (And.intro hle (And.intro hge (And.intro hpk hall)));clear hGk hrow hown hle hge hpk hall;have cv:=HRW.k 1;go_wp2_with fail;generalize hb:wr.heap.size=b at *;generalize wr.alloc (.cells #[ci sx.topic,ci sx.rank,cu sx.cur.next,ci sx.cur.cap,cu sx.cur.got,cu sx.cur.lost] 170)=w5 at *
    have hcon:Calls Tryz.prog 134 #[v,.func (.func 135) #[] #[pt b]] w5 fun e w'=>∃q:Bool,e=.returned (.bool q)∧Below w5.heap.size w5 w'∧(q=true→∃t∈ts,t.n=sx.topic):=by
     by_cases hn:k=0
     ·rw[hnil hn];refine(uy b w5).mono ?_;rintro e w' ⟨rfl,rfl⟩;exact⟨false,rfl,Below.refl _ _,fun h=>absurd h (by decide)⟩
     ·obtain⟨g2,c2,rfl,-,-,hA⟩:=Arr.of_own (E:=231) HOW.o rfl (HPK.o.2.1 (by omega));exact b3l w5 g2 c2 b sx.topic ts hA (by have:=HPK.o.1;omega) (HSB.k 0)
    have HCON:=qh hcon;clear hcon hnil cv;refine HCON.o.mono ?_;rintro e w6 ⟨q,rfl,hb6,hq⟩;have HQ:=qh hq;have HSX6:=qh (HSX.o.trans (ab.of_below (M:=[]) hb6));have HRW6:=qh (HRW.o.bel hb6);have HOW6:=qh (jb HOW.o hb6);have HSB6:=qh (HSB.o.bel hb6);have HSP6:=qh (HSP.o.bel hb6);have hlt:=ie HOW.o;clear hb6 hq HCON HRW HOW HSB HSP HSX;cases q
    ·go_wp2_with fail;have HGBB:=qh (ck HOW6.o HSB6.o (by decide));have HOW6d:=qh (jb HOW6.o (below_drewN (Below.refl _ _) 1));have HSX6d:Hd (ab ([]++[]) wr w6.drew):=qh (HSX6.o.drew);have hU:UD (fun W=>Row W P 228 #[zl G l.length C,v,ci tr,ci 1,ci 0,ci (-1),cu 0,ci 0,ci 0,zn,ci 0,ci 0,ci 0]∧Row W b 170 #[ci sx.topic,ci sx.rank,cu sx.cur.next,ci sx.cur.cap,cu sx.cur.got,cu sx.cur.lost]∧au W g s):=al fun W n h=>⟨h.1.drewN n,h.2.1.drewN n,h.2.2.same ((ab.refl [] W).drewN n) (by simp)⟩;have hC0:=hU.at _ ⟨HRW6.o.drew,HSB6.o.drew,HSP6.o.drew⟩;refine dw aj hU hC0 ?_;intro S;have hd:w6.drewN 1=w6.drew:=rfl;rw[hd] at HOW6d;generalize w6.drew=wa at *;clear hd HRW6 HSB6 HSP6 HOW6 HSX6;refine ao S hU [0,1,2,3,4,5,6,7,8,9,10,11] 60 5 hC0 ?_;constructor
     ·intro W' hW';simp only[pick,List.filterMap,gq1,gq2,gq3];have e1:=hW'.1.k 1;have f0:=hW'.2.1.k 0;obtain⟨s0,s1,s2,s3,s4⟩:=au.c hW'.2.2 HY.o
      repeat (go_big_quiet_step (fail))
      exact wpQuiet_nil rfl
     refine kf S hU (C':=fun W=>Row W P 228 #[zl G l.length C,v,ci tr,ci 1,ci 0,ci (-1),cu 0,ci 0,ci 0,zn,ci 0,ci 0,ci 0]∧Row W b 170 #[ci sx.topic,ci sx.rank,cu sx.cur.next,ci sx.cur.cap,cu sx.cur.got,cu sx.cur.lost]∧au W g s) (fun _ h=>h) 12 _ 4 _ _ _ rfl (by kernel_rfl) (by kernel_rfl) hC0 ?_;intro W1 hrW1 hcW1 K1 hK1;obtain⟨n1,rfl⟩:=hrW1;have HOW7:=qh ((ai HOW6d.o ((ab.refl [] wa).drewN n1) nm0).alloc (.cells #[ci sx.topic,ci sp.own,ci sp.seq,ci sp.first,ci sp.words,ci sp.depth,cu 0] 231));have HSX7:=qh ((HSX6d.o.drewN n1).allocd (.cells #[ci sx.topic,ci sp.own,ci sp.seq,ci sp.first,ci sp.words,ci sp.depth,cu 0] 231));have hC1:=hU.at ((wa.drewN n1).alloc (.cells #[ci sx.topic,ci sp.own,ci sp.seq,ci sp.first,ci sp.words,ci sp.depth,cu 0] 231)) ⟨hcW1.1.alloc _,hcW1.2.1.alloc _,hcW1.2.2.alloc _⟩
     have HLIT:=qh (jo (w:=wa.drewN n1) (cs:=#[ci sx.topic,ci sp.own,ci sp.seq,ci sp.first,ci sp.words,ci sp.depth,cu 0]) (t:=231) rfl);go_wp2_with fail;refine hK1 _ _ hC1 ?_;clear hK1 HOW6d HSX6d hcW1 hC0;have hzN:(wa.drewN n1).heap.size=wa.heap.size:=rfl;simp only[hzN] at *;clear hzN;generalize wa.heap.size=nb at *;generalize (wa.drewN n1).alloc (.cells #[ci sx.topic,ci sp.own,ci sp.seq,ci sp.first,ci sp.words,ci sp.depth,cu 0] 231)=wb at *;refine kf S hU (C':=fun W=>Row W P 228 #[zl G l.length C,v,ci tr,ci 1,ci 0,ci (-1),cu 0,ci 0,ci 0,zn,ci 0,ci 0,ci 0]∧Row W b 170 #[ci sx.topic,ci sx.rank,cu sx.cur.next,ci sx.cur.cap,cu sx.cur.got,cu sx.cur.lost]∧au W g s) (fun _ h=>h) 13 _ 3 _ _ _ rfl (by kernel_rfl) (by kernel_rfl) hC1 ?_;intro W1 hrW1 hcW1 K1 hK1;obtain⟨n2,rfl⟩:=hrW1;obtain⟨i0,hi0,hz0,hz1,hz2⟩:=info_parts c5u;have hPlt:=hcW1.1.lt
     have HOW8:=qh (ai HOW7.o ((ab.refl [] wb).drewN n2) nm0);have HPK2:=HPK.o.1;refine wpList_append_own_at _ rfl _ _ 226 rfl (P+1) 231 i0 _ 7 56 Tryz.underlying226 hi0 hz0 hz1 hz2 rfl (by decide) v ts.length (ts.flatMap Tpc.enc) rfl HOW8.o ⟨nb,0,none⟩ 1 1 (#[ci sx.topic,ci sp.own,ci sp.seq,ci sp.first,ci sp.words,ci sp.depth,cu 0]).toList rfl rfl (fun j u h=>HLIT.o j u h) (by intro u hu;simp at hu;rcases hu with rfl|rfl|rfl|rfl|rfl|rfl|rfl<;>rfl) (by unfold maxLen;omega) (by omega) (by omega) ?_;intro v9 w9 hown9 hgrow9 _ _;obtain⟨g9,c9,rfl⟩:=gl hown9;have hs9:=ab.grown' hgrow9;have hge9:=fw HOW8.o;have hgP:P∉v.ownBlock.toList:=fun hb=>by have:=hge9 P (by simpa using hb);omega
     have hgb:=HGBB.o;have hgG:∀b,v.ownBlock=some b→b≠G:=fun b hb h=>by have:=hge9 b hb;omega
     have hgg:g∉v.ownBlock.toList:=fun hb=>by have:=hge9 g (by simpa using hb);omega
     have hC9:=hU.at _ ⟨hcW1.1.same hs9 hgP,hcW1.2.1.same hs9 hgb,hcW1.2.2.same hs9 hgg⟩;have HOW9:=qh hown9;have HSX9:=qh ((HSX7.o.drewN n2).trans hs9);go_wp2_with fail;refine hK1 _ _ hC9 ?_;clear hK1 hown9 hgrow9 hs9 HOW8 HOW7 HSX7 hcW1 hC1 HLIT;refine ao S hU [14,15] 60 1 hC9 ?_;constructor
     ·intro W' hW';simp only[pick,List.filterMap,gq1,gq2,gq3]
      repeat (go_big_quiet_step (fail))
      exact wpQuiet_nil rfl
     refine b7o S hU 16 _ _ _ _ rfl (by kernel_rfl) (by kernel_rfl) (by kernel_rfl) hC9 ?_;intro W1 hrW1 hcW1 K1 hK1;obtain⟨n3,rfl⟩:=hrW1;have HRR:=qh hcW1.1;have HGG:=qh hcW1.2.2;have HOWa:=qh (ai HOW9.o ((ab.refl [] w9).drewN n3) nm0);have HSXa:=qh (HSX9.o.drewN n3);have HGE:=qh hge9;have HLO:=qh hgG;clear hcW1 HOW9 HSX9 hC9 hge9 hgP hgb hgg hgG;have hfz:=HRR.o.free;have hcw:=HRR.k 1;go_wp2_with fail;have HRb:=qh ((HRR.o.set 1 (zl g9 (ts.length+1) c9)).to (cs':=#[zl G l.length C,zl g9 (ts.length+1) c9,ci tr,ci 1,ci 0,ci (-1),cu 0,ci 0,ci 0,zn,ci 0,ci 0,ci 0]) rfl);have HOWb:=qh (ai HOWa.o (sj P 1 (zl g9 (ts.length+1) c9)) (fun c hc h=>by simp only[List.mem_singleton] at h;have:=fw HOWa.o c hc;omega));have HSXb:=qh (HSXa.o.trans (sj P 1 (zl g9 (ts.length+1) c9)));have HGb:=qh (HGG.o.same (sj P 1 (zl g9 (ts.length+1) c9)) (by simp;omega));refine hK1 _ _ ?_
     clear hK1 HRR HGG HOWa HSXa hfz hcw;generalize ((w9.drewN n3).setCell ⟨P,1,none⟩ (zl g9 (ts.length+1) c9))=u2 at *;refine jt ?_;intro wy hrwy;refine NoPanic.normal ?_;obtain⟨n4,rfl⟩:=hrwy;have HR:=qh (HRb.o.drewN n4);have HOW:=qh (ai HOWb.o (sdn n4) nm0);have HS:=qh (HSXb.o.drewN n4);have HG:=qh (HGb.o.same (sdn n4) (by simp));clear S hU HRb HOWb HSXb HGb;generalize u2.drewN n4=wy at *;go_wp2_with fail
     go_roundw
     case rel=>
      refine⟨k+1,by omega,by go_num,HK.o.step HS.o (by intro c hc;simp at hc;rcases hc with hc|rfl;exact nlt (by omega) (HGE.o c hc);exact hP2) (by have:=HLO.o;simp;exact⟨fun h=>this _ h rfl,by omega⟩) trivial ⟨_,ts++[⟨sx.topic,sp,0⟩],by simpa using HR.o,by simpa[Tpc.enc] using HOW.o,by simp;exact HPK.o.1,fun _=>by simp,fun h=>absurd h (by omega),fun t ht=>?_,fun i x hi hx=>?_⟩,qh ⟨HG.o,HSL.o.2.same HS.o (by have:=HGE.o;simp;exact⟨fun h=>absurd (this _ h) (by omega),by omega⟩)⟩⟩
      ·rcases List.mem_append.1 ht with h|h
       ·exact HPK.o.2.2.1 t h
       ·simp only[List.mem_singleton] at h;subst h;exact⟨rfl,k,sx,sp,HX.o,HY.o,rfl,rfl⟩
      ·by_cases hik:i=k
       ·subst hik;rw[HX.o] at hx;cases hx;exact⟨_,List.mem_append_right _ (List.mem_singleton.2 rfl),rfl⟩
       ·obtain⟨t,h1,h2⟩:=HPK.o.2.2.2 i x (by omega) hx;exact⟨t,List.mem_append_left _ h1,h2⟩
     case measure=>simp only[intOf];omega
    ·go_wp2_with fail
     go_roundw
     case rel=>
      refine⟨k+1,by omega,by go_num,HK.o.step (M:=[]) HSX6.o (by simp) (by simp) (by simp) ⟨v,ts,HRW6.o,HOW6.o,by have:=HPK.o.1;omega,fun _=>?_,fun h=>absurd h (by omega),HPK.o.2.2.1,fun i x hi hx=>?_⟩,qh ⟨HSP6.o,HSL.o.2.same HSX6.o (by simp)⟩⟩
      ·obtain⟨t,ht,_⟩:=HQ.o trivial;exact List.length_pos_of_mem ht
      ·by_cases hik:i=k
       ·subst hik;rw[HX.o] at hx;cases hx;exact HQ.o trivial
       ·exact HPK.o.2.2.2 i x (by omega) hx
     case measure=>simp only[intOf];omega
   ·have hk':k=l.length:=by omega
    subst hk';obtain⟨v,ts,hrow,hown,hle,hge,-,hpk,hall⟩:=hGk.t;obtain⟨g2,c2,rfl,hg2,hc2,hA2⟩:=Arr.of_own (E:=231) hown rfl (hge h1);have HRW:=qh hrow;have HA2:=qh hA2;have HBB:=qh hGk.b;have HSU:=qh hGk.subs;have HPK:=qh (And.intro hpk hall);have hsort:=qh (fun W (h:ia W g2 ts)=>c6f W g2 c2 ts h (by omega));have ne_g2:g2≠P:=by omega
    have hg2l:1≤ts.length:=hge h1;clear hGk hrow hown hA2 hpk hall hge;have cv:=HRW.k 1;go_wp2_with fail;refine(hsort.o _ HA2.o).mono ?_;rintro e w7 ⟨rfl,ts',hper,hs,ht⟩;have HR7:=qh (HRW.o.same hs (by simpa using ne_g2.symm));have HSU7:=qh (HSU.o.same hs (by simp;omega));have HB7:=qh (jc HBB.o hs (by simp;omega));have HT7:=qh ht;have HPE:=qh hper;clear hs ht hper cv HRW HA2 HBB HSU;go_wp2_with fail
    go_ret2
    have hl':=HPE.o.length_eq;refine⟨_,0,rfl,HB7.o,Or.inr ⟨rfl,P,G,C,g2,c2,ts',rfl,hP2,hG2,by omega,by omega,ne_g2,by omega,?_,HSU7.o,HT7.o,by omega,by omega,fun t ht=>HPK.o.1 t (HPE.o.mem_iff.1 ht),fun x hx=>?_⟩⟩
    ·rw[hl'];exact HR7.o
    ·obtain⟨i,hi⟩:=mig.1 hx;obtain⟨t,h1,h2⟩:=HPK.o.2 i x (bk.1 hi).1 hi;exact⟨t,HPE.o.mem_iff.2 h1,h2⟩
end Go.Proofs.YtojkaibpfdhmaaaGreatDoor

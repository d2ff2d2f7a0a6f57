/- Contracts of package poll: fits. -/
import Derived.Test.YtojkaibpfdhmaaaGreatDoorP15
import Derived.Test.YtojkaibpfdhmaaaGreatDoorP16
namespace Go.Proofs.YtojkaibpfdhmaaaGreatDoor
open Go.RowKit
set_option maxRecDepth 100000
set_option maxHeartbeats 16000000
theorem c8n(a0 a1 a2 a3 a4 b0 b1 b2 b3 b4:Int):∃q:Bool,∀W,(binOp .neq 112 (.agg #[ci a0,ci a1,ci a2,ci a3,ci a4]) (.agg #[ci b0,ci b1,ci b2,ci b3,ci b4])).run Tryz.prog W=.ok (.bool q) W:=by
 refine⟨!(a0==b0&&(a1==b1&&(a2==b2&&(a3==b3&&a4==b4)))),fun W=>?_⟩;go_simp;by_cases h0:a0=b0<;>by_cases h1:a1=b1<;>by_cases h2:a2=b2<;>by_cases h3:a3=b3<;>by_cases h4:a4=b4<;>simp[h0,h1,h2,h3,h4]
theorem c5p(w:World)(g1 c1 g c:Nat)(l:List Sub)(s:List am)(hl:eu w g1 l)(hs:au w g s)(hlen:s.length=l.length)(h1:1≤l.length)(h8:l.length≤64)(hc1:l.length≤c1)(hok:∀x∈s,x.Ok):Calls Tryz.prog 131 #[zl g1 l.length c1,zl g l.length c] w fun e w'=>∃b:Bool,e=.returned (.bool b)∧Below w.heap.size w w':=by
 have t0:((l.length:Int)==0)=false:=bfn.2 (by omega);have HL:=qh hl;have HS:=qh hs;have HO:=qh hok;have HB0:=qh (brf w);clear hl hs hok
 go_enter Tryz.func131,Tryz.ntmps131
 go_wp2_with fail;clear t0
 go_loopw [23] (fun i wr=>∃k:Nat,k≤l.length∧i=ci k∧Hd (Below w.heap.size w wr)) (fun i _=>l.length-(intOf i).toNat)
 case atStart=>exact⟨0,by omega,rfl,HB0⟩
 case round=>
  clear HB0;obtain⟨k,hk,rfl,HB⟩:=hrel;by_cases hkl:k<l.length
  ·have i1:(k:Int)<l.length:=by omega
   have hx:l[k]?=some l[k]:=cz hkl;have hy:s[k]?=some s[k]:=cz (by omega);have hsok:=HO.o _ (List.getElem_mem (show k<s.length by omega));obtain⟨d0,d1,d2,d3,d4,d5⟩:=eu.c (HL.o.bel HB.o) hx;have HS1:=qh (HS.o.bel HB.o);have HY:=qh hy;have HX:=qh hx;clear hx hy;generalize l[k]=sx at *;generalize s[k]=sp at *;have HR:=qh (Row.new wr 170 #[ci sx.topic,ci sx.rank,cu sx.cur.next,ci sx.cur.cap,cu sx.cur.got,cu sx.cur.lost]);have HSa:=qh (HS1.o.alloc (.cells #[ci sx.topic,ci sx.rank,cu sx.cur.next,ci sx.cur.cap,cu sx.cur.got,cu sx.cur.lost] 170));have HBa:=qh (af HB.o (.cells #[ci sx.topic,ci sx.rank,cu sx.cur.next,ci sx.cur.cap,cu sx.cur.got,cu sx.cur.lost] 170));go_wp2_with fail;generalize hb6:wr.heap.size=b6 at *;generalize wr.alloc (.cells #[ci sx.topic,ci sx.rank,cu sx.cur.next,ci sx.cur.cap,cu sx.cur.got,cu sx.cur.lost] 170)=w1 at *
   have hen:=fun W=>b7f hsok (g:=0) (g':=0) rfl W;have t0:decide (((sp.place 0:Nat):Int)<0)=false:=dqf (by omega);have hU:Ups (fun W W'=>∃g:ag W,W'=g.to) (fun W=>Row W b6 170 #[ci sx.topic,ci sx.rank,cu sx.cur.next,ci sx.cur.cap,cu sx.cur.got,cu sx.cur.lost]∧au W g s):=dj fun h hb=>⟨h.1.bel hb,h.2.bel hb⟩;have hC0:=hU.at _ ⟨HR.o.drew,HSa.o.drew⟩;have HBd:Hd (Below w.heap.size w w1.drew):=qh (below_drewN HBa.o 1);refine dw gz hU hC0 ?_;intro S;generalize w1.drew=wa at *;clear HR HSa HBa d0 d1 d2 d3 d4 d5 HS1;refine ao S hU [0,1,2,3,4,5,6,7,8,9,10,11,12,13,14,15,16,17] 101 0 hC0 ?_;constructor
   ·intro W' hW';simp only[pick,List.filterMap,gq1,gq2,gq3];have e3:=ag.cell (hW'.1.k 3);obtain⟨s0,s1,s2,s3,s4⟩:=au.c hW'.2 HY.o;have q0:=ag.cell s0;have q1:=ag.cell s1;have q2:=ag.cell s2;have q3:=ag.cell s3;have q4:=ag.cell s4;clear s0 s1 s2 s3 s4
    repeat (go_big_quiet_step (first|(go_at_call 139;exact Calls.later (hen _))))
    exact wpQuiet_nil rfl
   refine jt ?_;intro w2 hrw2;refine NoPanic.normal ?_;have HC2:=hU.up hrw2 hC0;have HB2:=qh (bt HBd.o (a7 hrw2));have HR2:=qh HC2.1;have HS2:=qh HC2.2;clear hrw2 hC0 HBd S hU hen t0 HC2;obtain⟨c',er,her,hsee⟩:=m4 sx.cur 0 (by omega);simp only[Cur.cells] at hsee;have HSEE:=qh hsee;clear hsee;obtain⟨d0,d1,d2,d3,d4,d5⟩:=HR2.o.c6;cases hg:decide (wrap64 ((sp.depth:Int)-1)<sx.cur.cap)
   ·go_wp2_with fail;refine(HSEE.o w2).mono ?_;rintro e w3 ⟨rfl,hb3⟩;have HB3:=qh (af (bt HB2.o hb3) (.cells #[cu c'.next,ci c'.cap,cu c'.got,cu c'.lost] 166));have HR3:=qh ((HR2.o.bel hb3).alloc (.cells #[cu c'.next,ci c'.cap,cu c'.got,cu c'.lost] 166));clear hb3 d0 d1 d2 d3 d4 d5 HR2 HB2 HSEE;rcases her with rfl|rfl
    ·have i2:(k:Int)≤c1:=by omega
     go_wp2_with fail;have HBX:=qh (And.intro HB3.o HR3.o);generalize w3.alloc (.cells #[cu c'.next,ci c'.cap,cu c'.got,cu c'.lost] 166)=w4 at *;clear HB3 HR3
     go_loopw [58] (fun i W=>∃j:Nat,j≤k∧i=ci j∧Hd (Below w.heap.size w W∧Row W b6 170 #[ci sx.topic,ci sx.rank,cu sx.cur.next,ci sx.cur.cap,cu sx.cur.got,cu sx.cur.lost])) (fun i _=>k-(intOf i).toNat)
     case atStart=>exact⟨0,by omega,rfl,HBX⟩
     case round=>
      clear HBX;obtain⟨j,hj,rfl,HZ⟩:=hrel;by_cases hjk:j<k
      ·have j1:(j:Int)<k:=by omega
       have j2:(j:Int)<l.length:=by omega
       have hx:l[j]?=some l[j]:=cz (by omega);have hy:s[j]?=some s[j]:=cz (by omega);obtain⟨d0,d1,d2,d3,d4,d5⟩:=eu.c (HL.o.bel HZ.o.1) hx;have HS1:=qh (HS.o.bel HZ.o.1);have HYJ:=qh hy;clear hx hy;generalize l[j]=sy at *;generalize s[j]=sq at *;have HR:=qh (HZ.o.2.alloc (.cells #[ci sy.topic,ci sy.rank,cu sy.cur.next,ci sy.cur.cap,cu sy.cur.got,cu sy.cur.lost] 170));have HRJ:=qh (Row.new wr 170 #[ci sy.topic,ci sy.rank,cu sy.cur.next,ci sy.cur.cap,cu sy.cur.got,cu sy.cur.lost]);have HSa:=qh (HS1.o.alloc (.cells #[ci sy.topic,ci sy.rank,cu sy.cur.next,ci sy.cur.cap,cu sy.cur.got,cu sy.cur.lost] 170));have HBa:=qh (af HZ.o.1 (.cells #[ci sy.topic,ci sy.rank,cu sy.cur.next,ci sy.cur.cap,cu sy.cur.got,cu sy.cur.lost] 170));obtain⟨q,hq⟩:=c8n sp.own sp.seq sp.first sp.words sp.depth sq.own sq.seq sq.first sq.words sq.depth;go_wp2_with fail
       generalize wr.heap.size=b7 at *;generalize wr.alloc (.cells #[ci sy.topic,ci sy.rank,cu sy.cur.next,ci sy.cur.cap,cu sy.cur.got,cu sy.cur.lost] 170)=w5 at *;clear d0 d1 d2 d3 d4 d5 HS1 HZ;have fin:True:=trivial;by_cases ht:(sx.topic:Int)=sy.topic
       ·have u0:((sx.topic:Int)==sy.topic)=true:=beq_iff_eq.2 ht;have u1:((sx.topic:Int) != sy.topic)=false:=by rw[bne,u0];rfl
        cases q
        ·have hU:Ups (fun W W'=>∃g:ag W,W'=g.to) (fun W=>Row W b6 170 #[ci sx.topic,ci sx.rank,cu sx.cur.next,ci sx.cur.cap,cu sx.cur.got,cu sx.cur.lost]∧Row W b7 170 #[ci sy.topic,ci sy.rank,cu sy.cur.next,ci sy.cur.cap,cu sy.cur.got,cu sy.cur.lost]∧au W g s):=dj fun h hb=>⟨h.1.bel hb,h.2.1.bel hb,h.2.2.bel hb⟩;have hC0:=hU.at _ ⟨HR.o.drew,HRJ.o.drew,HSa.o.drew⟩;have HBd:Hd (Below w.heap.size w w5.drew):=qh (below_drewN HBa.o 1);refine dw gz hU hC0 ?_;intro S;generalize w5.drew=wa at *;clear HR HRJ HSa HBa;refine ao S hU [0,1,2,3,4,5,6,7,8,9,10,11,12,13,14,15,16,17,18,19,20,21,22,23,24,25,26,27,28,29,30,31,32,33,34,35] 101 0 hC0 ?_;constructor
         ·intro W' hW';simp only[pick,List.filterMap,gq1,gq2,gq3];have e0:=ag.cell (hW'.1.k 0);have f0:=ag.cell (hW'.2.1.k 0);obtain⟨s0,s1,s2,s3,s4⟩:=au.c hW'.2.2 HY.o;have q0:=ag.cell s0;have q1:=ag.cell s1;have q2:=ag.cell s2;have q3:=ag.cell s3;have q4:=ag.cell s4;clear s0 s1 s2 s3 s4;obtain⟨s0,s1,s2,s3,s4⟩:=au.c hW'.2.2 HYJ.o;have p0:=ag.cell s0;have p1:=ag.cell s1;have p2:=ag.cell s2;have p3:=ag.cell s3;have p4:=ag.cell s4;clear s0 s1 s2 s3 s4
          repeat (go_big_quiet_step (fail))
          exact wpQuiet_nil rfl
         refine jt ?_;intro w6 hrw6;refine NoPanic.normal ?_;have HC6:=hU.up hrw6 hC0;have HB6:=qh (bt HBd.o (a7 hrw6));have HR6:=qh HC6.1;clear hrw6 hC0 HBd S hU HC6;go_wp2_with fail
         go_roundw
         case rel=>exact⟨j+1,by omega,by go_num,qh ⟨HB6.o,HR6.o⟩⟩
         case measure=>simp only[intOf];omega
        ·have hU:Ups (fun W W'=>∃g:ag W,W'=g.to) (fun W=>Row W b6 170 #[ci sx.topic,ci sx.rank,cu sx.cur.next,ci sx.cur.cap,cu sx.cur.got,cu sx.cur.lost]∧Row W b7 170 #[ci sy.topic,ci sy.rank,cu sy.cur.next,ci sy.cur.cap,cu sy.cur.got,cu sy.cur.lost]∧au W g s):=dj fun h hb=>⟨h.1.bel hb,h.2.1.bel hb,h.2.2.bel hb⟩;have hC0:=hU.at _ ⟨HR.o.drew,HRJ.o.drew,HSa.o.drew⟩;have HBd:Hd (Below w.heap.size w w5.drew):=qh (below_drewN HBa.o 1);refine dw gz hU hC0 ?_;intro S;generalize w5.drew=wa at *;clear HR HRJ HSa HBa;refine ao S hU [0,1,2,3,4,5,6,7,8,9,10,11,12,13,14,15,16,17,18,19,20,21,22,23,24,25,26,27,28,29,30,31,32,33,34,35] 101 0 hC0 ?_;constructor
         ·intro W' hW';simp only[pick,List.filterMap,gq1,gq2,gq3];have e0:=ag.cell (hW'.1.k 0);have f0:=ag.cell (hW'.2.1.k 0);obtain⟨s0,s1,s2,s3,s4⟩:=au.c hW'.2.2 HY.o;have q0:=ag.cell s0;have q1:=ag.cell s1;have q2:=ag.cell s2;have q3:=ag.cell s3;have q4:=ag.cell s4;clear s0 s1 s2 s3 s4;obtain⟨s0,s1,s2,s3,s4⟩:=au.c hW'.2.2 HYJ.o;have p0:=ag.cell s0;have p1:=ag.cell s1;have p2:=ag.cell s2;have p3:=ag.cell s3;have p4:=ag.cell s4;clear s0 s1 s2 s3 s4
          repeat (go_big_quiet_step (fail))
          exact wpQuiet_nil rfl
         refine jt ?_;intro w6 hrw6;refine NoPanic.normal ?_;have HC6:=hU.up hrw6 hC0;have HB6:=qh (bt HBd.o (a7 hrw6));have HR6:=qh HC6.1;clear hrw6 hC0 HBd S hU HC6;go_wp2_with fail;go_ret;exact⟨_,rfl,HB6.o⟩
       ·have u0:((sx.topic:Int)==sy.topic)=false:=bfn.2 ht;have u1:((sx.topic:Int) != sy.topic)=true:=by rw[bne,u0];rfl
        cases hs:((sp.seq:Int)==sq.seq)
        ·have hU:Ups (fun W W'=>∃g:ag W,W'=g.to) (fun W=>Row W b6 170 #[ci sx.topic,ci sx.rank,cu sx.cur.next,ci sx.cur.cap,cu sx.cur.got,cu sx.cur.lost]∧Row W b7 170 #[ci sy.topic,ci sy.rank,cu sy.cur.next,ci sy.cur.cap,cu sy.cur.got,cu sy.cur.lost]∧au W g s):=dj fun h hb=>⟨h.1.bel hb,h.2.1.bel hb,h.2.2.bel hb⟩;have hC0:=hU.at _ ⟨HR.o.drew,HRJ.o.drew,HSa.o.drew⟩;have HBd:Hd (Below w.heap.size w w5.drew):=qh (below_drewN HBa.o 1);refine dw gz hU hC0 ?_;intro S;generalize w5.drew=wa at *;clear HR HRJ HSa HBa;refine ao S hU [0,1,2,3,4,5,6,7,8,9,10,11,12,13,14,15,16,17,18,19,20,21,22,23,24,25,26,27,28,29,30,31,32,33,34,35] 101 0 hC0 ?_;constructor
         ·intro W' hW';simp only[pick,List.filterMap,gq1,gq2,gq3];have e0:=ag.cell (hW'.1.k 0);have f0:=ag.cell (hW'.2.1.k 0);obtain⟨s0,s1,s2,s3,s4⟩:=au.c hW'.2.2 HY.o;have q0:=ag.cell s0;have q1:=ag.cell s1;have q2:=ag.cell s2;have q3:=ag.cell s3;have q4:=ag.cell s4;clear s0 s1 s2 s3 s4;obtain⟨s0,s1,s2,s3,s4⟩:=au.c hW'.2.2 HYJ.o;have p0:=ag.cell s0;have p1:=ag.cell s1;have p2:=ag.cell s2;have p3:=ag.cell s3;have p4:=ag.cell s4;clear s0 s1 s2 s3 s4
          repeat (go_big_quiet_step (fail))
          exact wpQuiet_nil rfl
         refine jt ?_;intro w6 hrw6;refine NoPanic.normal ?_;have HC6:=hU.up hrw6 hC0;have HB6:=qh (bt HBd.o (a7 hrw6));have HR6:=qh HC6.1;clear hrw6 hC0 HBd S hU HC6;go_wp2_with fail
         go_roundw
         case rel=>exact⟨j+1,by omega,by go_num,qh ⟨HB6.o,HR6.o⟩⟩
         case measure=>simp only[intOf];omega
        ·have hU:Ups (fun W W'=>∃g:ag W,W'=g.to) (fun W=>Row W b6 170 #[ci sx.topic,ci sx.rank,cu sx.cur.next,ci sx.cur.cap,cu sx.cur.got,cu sx.cur.lost]∧Row W b7 170 #[ci sy.topic,ci sy.rank,cu sy.cur.next,ci sy.cur.cap,cu sy.cur.got,cu sy.cur.lost]∧au W g s):=dj fun h hb=>⟨h.1.bel hb,h.2.1.bel hb,h.2.2.bel hb⟩;have hC0:=hU.at _ ⟨HR.o.drew,HRJ.o.drew,HSa.o.drew⟩;have HBd:Hd (Below w.heap.size w w5.drew):=qh (below_drewN HBa.o 1);refine dw gz hU hC0 ?_;intro S;generalize w5.drew=wa at *;clear HR HRJ HSa HBa;refine ao S hU [0,1,2,3,4,5,6,7,8,9,10,11,12,13,14,15,16,17,18,19,20,21,22,23,24,25,26,27,28,29,30,31,32,33,34,35] 101 0 hC0 ?_;constructor
         ·intro W' hW';simp only[pick,List.filterMap,gq1,gq2,gq3];have e0:=ag.cell (hW'.1.k 0);have f0:=ag.cell (hW'.2.1.k 0);obtain⟨s0,s1,s2,s3,s4⟩:=au.c hW'.2.2 HY.o;have q0:=ag.cell s0;have q1:=ag.cell s1;have q2:=ag.cell s2;have q3:=ag.cell s3;have q4:=ag.cell s4;clear s0 s1 s2 s3 s4;obtain⟨s0,s1,s2,s3,s4⟩:=au.c hW'.2.2 HYJ.o;have p0:=ag.cell s0;have p1:=ag.cell s1;have p2:=ag.cell s2;have p3:=ag.cell s3;have p4:=ag.cell s4;clear s0 s1 s2 s3 s4
          repeat (go_big_quiet_step (fail))
          exact wpQuiet_nil rfl
         refine jt ?_;intro w6 hrw6;refine NoPanic.normal ?_;have HC6:=hU.up hrw6 hC0;have HB6:=qh (bt HBd.o (a7 hrw6));have HR6:=qh HC6.1;clear hrw6 hC0 HBd S hU HC6;go_wp2_with fail;go_ret;exact⟨_,rfl,HB6.o⟩
      ·have hj':j=k:=by omega
       subst hj';go_wp2_with fail
       go_roundw
       case rel=>exact⟨j+1,by omega,by go_num,HZ.o.1⟩
       case measure=>simp only[intOf];omega
    ·go_wp2_with fail;go_ret;exact⟨_,rfl,HB3.o⟩
   ·go_wp2_with fail;go_ret;exact⟨_,rfl,HB2.o⟩
  ·have hk':k=l.length:=by omega
   subst hk';go_wp2_with fail;go_ret;exact⟨_,rfl,HB.o⟩
end Go.Proofs.YtojkaibpfdhmaaaGreatDoor

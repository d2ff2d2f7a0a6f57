/- Contracts of package queue: Pick. -/
import Derived.Test.YtojkaibpfdhmaaaGreatDoorP04
import Derived.Test.YtojkaibpfdhmaaaGreatDoorP01
import Derived.Test.YtojkaibpfdhmaaaGreatDoorP00
namespace Go.Proofs.YtojkaibpfdhmaaaGreatDoor
open Go.RowKit
set_option maxRecDepth 100000
set_option maxHeartbeats 16000000
theorem b6m(c:Cur)(g:Nat)(hg:g≤1000000)(w:World):Calls Tryz.prog 93 #[.agg c.cells,cu g] w fun e w'=>∃n,e=.returned (ci n)∧Below w.heap.size w w':=by
 have hs:=c7i c g hg;obtain⟨nx,cp,gt,lo⟩:=c;simp only[Cur.cells] at *;have B1:=af (brf w) (.cells #[cu nx,ci cp,cu gt,cu lo] 166)
 go_enter Tryz.func93,Tryz.ntmps93
 go_wp2_with (go_at_call 96;refine(hs _).mono ?_;rintro e w' ⟨⟨a1,a2,a3,a4⟩,er,rfl,her,hb1⟩;have B2:=bt B1 hb1;clear B1 hb1)
 all_goals (go_ret;exact⟨_,rfl,af B2 _⟩)
theorem ug(c:Cur)(g:Nat)(hg:g≤1000000):∃(v:Nat)(c':Cur)(er:Int),∀w,Calls Tryz.prog 286 #[.agg c.cells,cu g] w fun e w'=>e=.returned (.tuple #[cu v,.agg c'.cells,ci er])∧Below w.heap.size w w':=by
 obtain⟨⟨a1,a2,a3,a4⟩,er,her,hs⟩:=m4 c g hg;obtain⟨nx,cp,gt,lo⟩:=c;simp only[Cur.cells] at *;rcases her with rfl|rfl
 ·by_cases hlt:g<a1
  ·have t3:decide ((g:Int)<a1)=true:=dqt (by omega);refine⟨0,⟨0,0,0,0⟩,14,fun w=>?_⟩;have B1:=af (af (brf w) (.cells #[cu nx,ci cp,cu gt,cu lo] 166)) (.cells #[cu 0,ci 0,cu 0,cu 0] 166);have R1:Row ((w.alloc (.cells #[cu nx,ci cp,cu gt,cu lo] 166)).alloc (.cells #[cu 0,ci 0,cu 0,cu 0] 166)) (w.heap.size+1) 166 #[cu 0,ci 0,cu 0,cu 0]:=by simpa using Row.new (w.alloc (.cells #[cu nx,ci cp,cu gt,cu lo] 166)) 166 #[cu 0,ci 0,cu 0,cu 0]
   have KEEP:∀{W W':World},Below w.heap.size w W→ab [w.heap.size+1] W W'→Below w.heap.size w W':=fun hb hs=>hb.trans (hs.below hb.size (by simp))
   go_enter Tryz.func286,Tryz.ntmps286
   go_wp2_with (go_at_call 96;refine(hs _).mono ?_;rintro e w' ⟨rfl,hb1⟩;have B2:=bt B1 hb1;have r1:=R1.bel hb1;obtain⟨c0,c1,c2,c3⟩:=r1.c4;have fr:=r1.free;have hlt:=r1.lt;have RR1:=qh r1;clear B1 hb1 R1 r1)
   refine bodyPost_ret (jr rfl _ _ (w.heap.size+1) 166 _ (0,0) _ rfl (((((RR1.o.set 0 _).set 1 _).set 2 _).set 3 _).alloc _).at_ Tryz.underlying166 rfl (by kernel_rfl)) rfl ?_;exact⟨rfl,af (KEEP B2 (((((ab.refl [w.heap.size+1] w').setCell (by simp) _).setCell (by simp) _).setCell (by simp) _).setCell (by simp) _)) _⟩
  ·have t3:decide ((g:Int)<a1)=false:=dqf (by omega);refine⟨a1,⟨a1+1,a2,IntKind.u64.wrap (a3+1),a4⟩,0,fun w=>?_⟩;have B1:=af (af (brf w) (.cells #[cu nx,ci cp,cu gt,cu lo] 166)) (.cells #[cu 0,ci 0,cu 0,cu 0] 166);have R1:Row ((w.alloc (.cells #[cu nx,ci cp,cu gt,cu lo] 166)).alloc (.cells #[cu 0,ci 0,cu 0,cu 0] 166)) (w.heap.size+1) 166 #[cu 0,ci 0,cu 0,cu 0]:=by simpa using Row.new (w.alloc (.cells #[cu nx,ci cp,cu gt,cu lo] 166)) 166 #[cu 0,ci 0,cu 0,cu 0]
   have KEEP:∀{W W':World},Below w.heap.size w W→ab [w.heap.size+1] W W'→Below w.heap.size w W':=fun hb hs=>hb.trans (hs.below hb.size (by simp))
   go_enter Tryz.func286,Tryz.ntmps286
   go_wp2_with (go_at_call 96;refine(hs _).mono ?_;rintro e w' ⟨rfl,hb1⟩;have B2:=bt B1 hb1;have r1:=R1.bel hb1;obtain⟨c0,c1,c2,c3⟩:=r1.c4;have fr:=r1.free;have hlt:=r1.lt;have RR1:=qh r1;clear B1 hb1 R1 r1)
   have HB2:=qh B2;have r2:=RR1.o.alloc (.cells #[cu (a1+1),ci a2,cu (IntKind.u64.wrap (a3+1)),cu a4] 166);have r3:=Row.new w' 166 #[cu (a1+1),ci a2,cu (IntKind.u64.wrap (a3+1)),cu a4];have HB3:=qh (af B2 (.cells #[cu (a1+1),ci a2,cu (IntKind.u64.wrap (a3+1)),cu a4] 166));generalize w'.alloc (.cells #[cu (a1+1),ci a2,cu (IntKind.u64.wrap (a3+1)),cu a4] 166)=w3 at *;obtain⟨d0,d1,d2,d3⟩:=r2.c4;obtain⟨e0,e1,e2,e3⟩:=r3.c4;have fr2:=r2.free;have RR2:=qh r2;clear c0 c1 c2 c3 fr r2 r3 B2;refine aq (fun W=>∃n,W=w3.drewN n) 3 (by kernel_rfl) (by kernel_rfl) ⟨1,rfl⟩ ?_;simp only[List.take_succ_cons,List.take_zero,List.drop_succ_cons,List.drop_zero]
   repeat (go_big_quiet_step (fail))
   refine wpQuiet_nil ?_;rintro _ ⟨nz,rfl⟩;go_wp2;refine bodyPost_ret (jr rfl _ _ (w.heap.size+1) 166 _ (0,0) _ rfl (((((RR2.o.drewN nz).set 0 _).set 1 _).set 2 _).set 3 _).at_ Tryz.underlying166 rfl (by kernel_rfl)) rfl ?_;exact⟨rfl,KEEP HB3.o ((((((ab.refl [w.heap.size+1] w3).drewN nz).setCell (by simp) _).setCell (by simp) _).setCell (by simp) _).setCell (by simp) _)⟩
 ·refine⟨0,⟨0,0,0,0⟩,1,fun w=>?_⟩;have B1:=af (af (brf w) (.cells #[cu nx,ci cp,cu gt,cu lo] 166)) (.cells #[cu 0,ci 0,cu 0,cu 0] 166);have R1:Row ((w.alloc (.cells #[cu nx,ci cp,cu gt,cu lo] 166)).alloc (.cells #[cu 0,ci 0,cu 0,cu 0] 166)) (w.heap.size+1) 166 #[cu 0,ci 0,cu 0,cu 0]:=by simpa using Row.new (w.alloc (.cells #[cu nx,ci cp,cu gt,cu lo] 166)) 166 #[cu 0,ci 0,cu 0,cu 0]
  have KEEP:∀{W W':World},Below w.heap.size w W→ab [w.heap.size+1] W W'→Below w.heap.size w W':=fun hb hs=>hb.trans (hs.below hb.size (by simp))
  go_enter Tryz.func286,Tryz.ntmps286
  go_wp2_with (go_at_call 96;refine(hs _).mono ?_;rintro e w' ⟨rfl,hb1⟩;have B2:=bt B1 hb1;have r1:=R1.bel hb1;obtain⟨c0,c1,c2,c3⟩:=r1.c4;have fr:=r1.free;have hlt:=r1.lt;have RR1:=qh r1;clear B1 hb1 R1 r1)
  refine bodyPost_ret (jr rfl _ _ (w.heap.size+1) 166 _ (0,0) _ rfl (((((RR1.o.set 0 _).set 1 _).set 2 _).set 3 _).alloc _).at_ Tryz.underlying166 rfl (by kernel_rfl)) rfl ?_;exact⟨rfl,af (KEEP B2 (((((ab.refl [w.heap.size+1] w').setCell (by simp) _).setCell (by simp) _).setCell (by simp) _).setCell (by simp) _)) _⟩
structure Sub where
 topic:Nat
 rank:Int
 cur:Cur
def Sub.enc(s:Sub):List Value:=[ci s.topic,ci s.rank,cu s.cur.next,ci s.cur.cap,cu s.cur.got,cu s.cur.lost]
theorem Sub.enc_len(s:Sub):s.enc.length=6:=rfl
theorem Sub.enc_one(l:List Sub):∀u∈l.flatMap Sub.enc,u.oneCell'=true:=by
 intro u hu;simp only[List.mem_flatMap,Sub.enc,List.mem_cons,List.not_mem_nil,or_false] at hu;obtain⟨s,_,h|h|h|h|h|h⟩:=hu<;>subst h<;>rfl
abbrev eu(W:World)(g:Nat)(l:List Sub):Prop:=Arr Sub.enc 6 W g 170 l
theorem eu.c{W:World}{g:Nat}{l:List Sub}(h:eu W g l){k:Nat}{s:Sub}(hk:l[k]?=some s):W.cell? (ae g (k*6))=some (ci s.topic)∧W.cell? (ae g (k*6+1))=some (ci s.rank)∧W.cell? (ae g (k*6+2))=some (cu s.cur.next)∧W.cell? (ae g (k*6+3))=some (ci s.cur.cap)∧W.cell? (ae g (k*6+4))=some (cu s.cur.got)∧W.cell? (ae g (k*6+5))=some (cu s.cur.lost):=
 ⟨h.cell Sub.enc_len (j:=0) hk rfl,h.cell Sub.enc_len (j:=1) hk rfl,h.cell Sub.enc_len (j:=2) hk rfl,h.cell Sub.enc_len (j:=3) hk rfl,h.cell Sub.enc_len (j:=4) hk rfl,h.cell Sub.enc_len (j:=5) hk rfl⟩
theorem c4p(w:World)(g c D:Nat)(cd:Nat)(l:List Sub)(gs:List Nat)(hs:eu w g l)(hD:Row w D 41 (bj gs))(hg:gs.length=l.length)(hl:l.length≤64)(hgs:∀x∈gs,x≤1000000):Calls Tryz.prog 285 #[zl g l.length c,zl D l.length cd] w fun e w'=>∃k er:Int,e=.returned (.tuple #[ci k,ci er]) ∧ -1≤k∧k<l.length∧Below w.heap.size w w':=by
 have HS:=qh hs;have HD:=qh hD;have HG:=qh hg;have HGS:=qh hgs;have B0:=qh (brf w);generalize hn:l.length=n at *;have HN:=qh hn;clear hs hD hg hgs hn
 go_enter Tryz.func285,Tryz.ntmps285
 go_wp2_with fail;refine ay 0 ?_;go_wp2_with fail
 go_loopw [20] (fun i wr=>∃k:Nat,k≤n∧i=ci k∧Hd (Below w.heap.size w wr)) (fun i _=>n-(intOf i).toNat)
 case atStart=>exact⟨0,by omega,rfl,B0⟩
 case round=>
  obtain⟨k,hk,rfl,HB⟩:=hrel;by_cases hkn:k<n
  ·obtain⟨s,hs⟩:∃s,l[k]?=some s:=⟨l[k]'(by have:=HN.o;omega),by simp[HN.o,hkn]⟩;obtain⟨c0,c1,c2,c3,c4,c5⟩:=eu.c (HS.o.bel HB.o) hs;have hr:=b2c s.cur;obtain⟨tp,rk,nx,cp,gt,lo⟩:=s;simp only[Cur.cells] at hr;have t1:decide ((k:Int)<n)=true:=dqt (by omega);have i0:(0:Int)≤k:=by omega
   have i1:(k:Int)<n:=by omega
   generalize Cur.rightB ⟨nx,cp,gt,lo⟩=rb at *;cases rb
   ·go_wp2_with (first|(go_at_call 142;refine(hr _).mono ?_;rintro e w1 ⟨rfl,hb1⟩;have HB2:=qh (bt (af HB.o _) hb1);clear hb1))
    refine bh ?_
    go_ret2
    exact⟨0,1,rfl,by omega,by omega,HB2.o⟩
   ·go_wp2_with (first|(go_at_call 142;refine(hr _).mono ?_;rintro e w1 ⟨rfl,hb1⟩;have HB2:=qh (bt (af HB.o _) hb1);clear hb1))
    go_roundw
    case rel=>exact⟨k+1,by omega,by go_num,HB2⟩
    case measure=>simp only[intOf];omega
  ·have t1:decide ((k:Int)<n)=false:=dqf (by omega);go_wp2_with fail;refine wp_label ?_;go_wp2_with fail;have HB0:=HB;clear HB t1 hkn
   go_loopw [8,31] (fun b i wr=>∃(k:Nat)(bb:Int),k≤n∧i=ci k∧b=ci bb ∧ -1≤bb∧bb<k∧Hd (Below w.heap.size w wr)) (fun _ i _=>n-(intOf i).toNat)
   case atStart=>exact⟨0,-1,by omega,rfl,rfl,by omega,by omega,HB0⟩
   case round=>
    clear HB0;obtain⟨k,bb,hk,rfl,rfl,hb1,hb2,HB⟩:=hrel;by_cases hkn:k<n
    ·obtain⟨s,hs⟩:∃s,l[k]?=some s:=⟨l[k]'(by have:=HN.o;omega),by simp[HN.o,hkn]⟩;have SP:=qh (eu.c (HS.o.bel HB.o) hs);obtain⟨c0,c1,c2,c3,c4,c5⟩:=SP.o;have dk:=(HD.o.bel HB.o).cell (ej gs (i:=k) (by have:=HG.o;omega));have hgk:wat gs k≤1000000:=HGS.o _ (uz (by have:=HG.o;omega));obtain⟨⟨nx',cp',gt',lo'⟩,er,her,hsee⟩:=m4 s.cur (wat gs k) hgk;generalize hGW:wat gs k=G at *;have HGW:=qh hGW;clear hGW;obtain⟨tp,rk,nx,cp,gt,lo⟩:=s;simp only[Cur.cells] at hsee;have hgl:=(HS.o.bel HB.o).lt;have hDl:=(HD.o.bel HB.o).lt;have t1:decide ((k:Int)<n)=true:=dqt (by omega);have i0:(0:Int)≤k:=by omega
     have i1:(k:Int)<n:=by omega
     go_wp2_with fail;have B4:=af HB.o (.cells #[ci tp,ci rk,cu nx,ci cp,cu gt,cu lo] 170);have D4:=(HD.o.bel B4).cell (ej gs (i:=k) (by have:=HG.o;omega));rw[HGW.o] at D4;have r4:=Row.new wr 170 #[ci tp,ci rk,cu nx,ci cp,cu gt,cu lo];have S4:=qh (HS.o.bel B4);generalize wr.alloc (.cells #[ci tp,ci rk,cu nx,ci cp,cu gt,cu lo] 170)=w4 at *;obtain⟨-,e1,e2,e3,e4,e5⟩:=r4.c6;have HB4:=qh B4;have hw4:wr.heap.size<w4.heap.size:=r4.lt
     have sv:Hd (∀W,Below w4.heap.size w4 W→Below w4.heap.size w4 W∧W.cell? (ae wr.heap.size 1)=some (ci rk)∧W.cell? (ae wr.heap.size 2)=some (cu nx)∧W.cell? (ae wr.heap.size 3)=some (ci cp)∧W.cell? (ae wr.heap.size 4)=some (cu gt)∧W.cell? (ae wr.heap.size 5)=some (cu lo)∧W.cell? (ae D k)=some (cu G)):=qh fun W hb=>
      ⟨hb,(hb.cell (blc e1)).trans e1,(hb.cell (blc e2)).trans e2,(hb.cell (blc e3)).trans e3,(hb.cell (blc e4)).trans e4,(hb.cell (blc e5)).trans e5,(hb.cell (blc D4)).trans D4⟩
     have BK0:=(brf w4).drew;have KS:∀{W W':World},Below w4.heap.size w4 W→ab [w4.heap.size] W W'→Below w4.heap.size w4 W':=fun hb hs=>hb.trans (hs.below hb.size (by simp));clear c0 c1 c2 c3 c4 c5 dk SP B4 r4 e1 e2 e3 e4 e5 D4
     go_region_held3 (fun W=>Below w4.heap.size w4 W∧W.cell? (ae wr.heap.size 1)=some (ci rk)∧W.cell? (ae wr.heap.size 2)=some (cu nx)∧W.cell? (ae wr.heap.size 3)=some (ci cp)∧W.cell? (ae wr.heap.size 4)=some (cu gt)∧W.cell? (ae wr.heap.size 5)=some (cu lo)∧W.cell? (ae D k)=some (cu G))
      (first|(with_reducible exact sv.o _ BK0)|(with_reducible assumption)|(with_reducible exact sv.o _ (bt BK0 hbw))|(with_reducible exact sv.o _ (af (bt BK0 hbw) _))|(with_reducible exact sv.o _ (mc BK0 _))|(with_reducible exact sv.o _ (bt (mc BK0 _) hbw))|(exact sv.o _ (KS (bt (mc BK0 _) hbw) (((((ab.refl [w4.heap.size] w_).setCell (by simp) _).setCell (by simp) _).setCell (by simp) _).setCell (by simp) _))))
      (first|(go_at_call 96;refine(hsee _).mono ?_;rintro e w_ ⟨rfl,hbw⟩;(try (have rr_:=(Row.new w4 166 #[cu 0,ci 0,cu 0,cu 0]).drew.bel hbw;obtain⟨q0,q1,q2,q3⟩:=rr_.c4;have qf:=rr_.free))))
     ·rename_i hK
      have r5:Row (w_.alloc (.cells #[cu nx',ci cp',cu gt',cu lo'] 166)) w_.heap.size 166 #[cu nx',ci cp',cu gt',cu lo']:=Row.new w_ 166 #[cu nx',ci cp',cu gt',cu lo'];obtain⟨hB5,p1,-,-,-,-,pD⟩:=hK;have HB5:=qh (bt HB4.o hB5);have S5:=S4.o.bel hB5;generalize w_.alloc (.cells #[cu nx',ci cp',cu gt',cu lo'] 166)=w5 at *;obtain⟨a0,-,-,-⟩:=r5.c4;clear hB5 r5 hbw;by_cases hlt:G<nx'
      ·have t2:decide ((G:Int)<nx')=true:=dqt (by omega);rcases her with rfl|rfl
       ·go_wp2_with fail
        go_quiet (fail)
        go_wp2_with fail
        go_roundw
        case rel=>exact⟨k+1,bb,by omega,by go_num,rfl,hb1,by omega,qh (below_drewN HB5.o _)⟩
        case measure=>simp only[intOf];omega
       ·go_wp2_with fail;refine bh ?_
        go_ret2
        exact⟨0,1,rfl,by omega,by omega,HB5.o⟩
      ·have t2:decide ((G:Int)<nx')=false:=dqf (by omega);rcases her with rfl|rfl
       ·by_cases hbb:0≤bb
        ·obtain⟨bn,rfl⟩:∃bn:Nat,bb=bn:=⟨bb.toNat,by omega⟩;have hbn:bn<n:=by omega
         obtain⟨s2,hs2⟩:∃s,l[bn]?=some s:=⟨l[bn]'(by have:=HN.o;omega),by simp[HN.o,hbn]⟩;obtain⟨-,f1,-,-,-,-⟩:=eu.c S5 hs2;obtain⟨tp2,rk2,c2⟩:=s2;simp only at f1;have t3:decide ((0:Int)≤bn)=true:=dqt (by omega);have j0:(0:Int)≤bn:=by omega
         have j1:(bn:Int)<n:=by omega
         clear S5 hs2 hbb;by_cases hrk:rk≤rk2
         ·have t4:decide (rk≤rk2)=true:=dqt hrk;go_wp2_with fail
          go_quiet (fail)
          go_wp2_with fail
          go_quiet (fail)
          go_wp2_with fail
          go_roundw
          case rel=>exact⟨k+1,bn,by omega,by go_num,rfl,by omega,by omega,qh (below_drewN HB5.o _)⟩
          case measure=>simp only[intOf];omega
         ·have t4:decide (rk≤rk2)=false:=dqf hrk;go_wp2_with fail
          go_quiet (fail)
          go_wp2_with fail
          go_quiet (fail)
          go_wp2_with fail
          go_roundw
          case rel=>exact⟨k+1,k,by omega,by go_num,rfl,by omega,by omega,qh (below_drewN HB5.o _)⟩
          case measure=>simp only[intOf];omega
        ·have t3:decide ((0:Int)≤bb)=false:=dqf hbb;go_wp2_with fail
         go_quiet (fail)
         go_wp2_with fail
         go_quiet (fail)
         go_wp2_with fail
         go_roundw
         case rel=>exact⟨k+1,k,by omega,by go_num,rfl,by omega,by omega,qh (below_drewN HB5.o _)⟩
         case measure=>simp only[intOf];omega
       ·go_wp2_with fail;refine bh ?_
        go_ret2
        exact⟨0,1,rfl,by omega,by omega,HB5.o⟩
     ·rename_i hK
      have r5:Row ((((w_.setCell ⟨w4.heap.size,0,none⟩ (cu nx')).setCell ⟨w4.heap.size,1,none⟩ (ci cp')).setCell ⟨w4.heap.size,2,none⟩ (cu gt')).setCell ⟨w4.heap.size,3,none⟩ (cu lo')) w4.heap.size 166 #[cu nx',ci cp',cu gt',cu lo']:=(((rr_.set 0 _).set 1 _).set 2 _).set 3 _;obtain⟨hB5,p1,-,-,-,-,pD⟩:=hK;have HB5:=qh (bt HB4.o hB5);have S5:=S4.o.bel hB5;generalize (((w_.setCell ⟨w4.heap.size,0,none⟩ (cu nx')).setCell ⟨w4.heap.size,1,none⟩ (ci cp')).setCell ⟨w4.heap.size,2,none⟩ (cu gt')).setCell ⟨w4.heap.size,3,none⟩ (cu lo')=w5 at *;obtain⟨a0,-,-,-⟩:=r5.c4;clear hB5 r5 hbw q0 q1 q2 q3 qf rr_;by_cases hlt:G<nx'
      ·have t2:decide ((G:Int)<nx')=true:=dqt (by omega);rcases her with rfl|rfl
       ·go_wp2_with fail
        go_quiet (fail)
        go_wp2_with fail
        go_roundw
        case rel=>exact⟨k+1,bb,by omega,by go_num,rfl,hb1,by omega,qh (below_drewN HB5.o _)⟩
        case measure=>simp only[intOf];omega
       ·go_wp2_with fail;refine bh ?_
        go_ret2
        exact⟨0,1,rfl,by omega,by omega,HB5.o⟩
      ·have t2:decide ((G:Int)<nx')=false:=dqf (by omega);rcases her with rfl|rfl
       ·by_cases hbb:0≤bb
        ·obtain⟨bn,rfl⟩:∃bn:Nat,bb=bn:=⟨bb.toNat,by omega⟩;have hbn:bn<n:=by omega
         obtain⟨s2,hs2⟩:∃s,l[bn]?=some s:=⟨l[bn]'(by have:=HN.o;omega),by simp[HN.o,hbn]⟩;obtain⟨-,f1,-,-,-,-⟩:=eu.c S5 hs2;obtain⟨tp2,rk2,c2⟩:=s2;simp only at f1;have t3:decide ((0:Int)≤bn)=true:=dqt (by omega);have j0:(0:Int)≤bn:=by omega
         have j1:(bn:Int)<n:=by omega
         clear S5 hs2 hbb;by_cases hrk:rk≤rk2
         ·have t4:decide (rk≤rk2)=true:=dqt hrk;go_wp2_with fail
          go_quiet (fail)
          go_wp2_with fail
          go_quiet (fail)
          go_wp2_with fail
          go_roundw
          case rel=>exact⟨k+1,bn,by omega,by go_num,rfl,by omega,by omega,qh (below_drewN HB5.o _)⟩
          case measure=>simp only[intOf];omega
         ·have t4:decide (rk≤rk2)=false:=dqf hrk;go_wp2_with fail
          go_quiet (fail)
          go_wp2_with fail
          go_quiet (fail)
          go_wp2_with fail
          go_roundw
          case rel=>exact⟨k+1,k,by omega,by go_num,rfl,by omega,by omega,qh (below_drewN HB5.o _)⟩
          case measure=>simp only[intOf];omega
        ·have t3:decide ((0:Int)≤bb)=false:=dqf hbb;go_wp2_with fail
         go_quiet (fail)
         go_wp2_with fail
         go_quiet (fail)
         go_wp2_with fail
         go_roundw
         case rel=>exact⟨k+1,k,by omega,by go_num,rfl,by omega,by omega,qh (below_drewN HB5.o _)⟩
         case measure=>simp only[intOf];omega
       ·go_wp2_with fail;refine bh ?_
        go_ret2
        exact⟨0,1,rfl,by omega,by omega,HB5.o⟩
    ·have t1:decide ((k:Int)<n)=false:=dqf (by omega);go_wp2_with fail;refine bh ?_
     go_ret2
     exact⟨bb,0,rfl,hb1,by omega,HB.o⟩
end Go.Proofs.YtojkaibpfdhmaaaGreatDoor

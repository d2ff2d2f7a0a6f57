/- Contracts of package queue: whatever the cursors are. -/
import Derived.Test.YtojkaibpfdhmaaaGreatDoorP03
import Derived.Test.YtojkaibpfdhmaaaGreatDoorP02
import Derived.Test.YtojkaibpfdhmaaaGreatDoorP01
namespace Go.Proofs.YtojkaibpfdhmaaaGreatDoor
open Go.RowKit
set_option maxRecDepth 100000
set_option maxHeartbeats 16000000
theorem ya(s:am)(h:s.Ok)(t:Nat)(ht1:1≤t)(ht2:t≤16)(w:World):Calls Tryz.prog 119 #[.agg s.cells,ci t] w fun e w'=>e=.returned (.bool true)∧Below w.heap.size w w':=by
 obtain⟨o,q,f,wd,d⟩:=s;obtain⟨h1,h2,h3,h4,h5,h6,h7⟩:=h;simp only[am.cells] at *;have hB:=(brf w).alloc (nlr _) (.cells #[ci o,ci q,ci f,ci wd,ci d] 112)
 go_enter Tryz.func119,Tryz.ntmps119
 go_wp2_with (first|(go_at_call 164;refine(b8m _ _ _ ?_ ?_ _).mono ?_;omega;omega;rintro e w' ⟨rfl,rfl⟩))
 go_ret;exact⟨rfl,hB⟩
theorem xq(s:am)(h:s.Ok)(t:Nat)(ht1:1≤t)(ht2:t≤16)(w:World):Calls Tryz.prog 67 #[.agg s.cells,ci t] w fun e w'=>∃n,e=.returned (ci n)∧Below w.heap.size w w':=by
 have hr:=ya s h t ht1 ht2;obtain⟨o,q,f,wd,d⟩:=s;simp only[am.cells] at *;have hB:=(brf w).alloc (nlr _) (.cells #[ci o,ci q,ci f,ci wd,ci d] 112);have hw:=Row.new w 112 #[ci o,ci q,ci f,ci wd,ci d]
 go_enter Tryz.func67,Tryz.ntmps67
 go_wp2_with (first|(go_at_call 119;refine(hr _).mono ?_;rintro e w1 ⟨rfl,hb1⟩;have c:=(hw.bel hb1).c5;obtain⟨-,-,-,c3,-⟩:=c;have HB:=hB.trans (hb1.mono hB.size);clear hB hw hb1))
 go_ret;exact⟨_,rfl,HB⟩
theorem b9f(w:World)(s:am)(h:s.Ok)(t:Nat)(ht1:1≤t)(ht2:t≤16)(v:Value)(cs:List Value)(hv:Has w 1 v s.words cs)(h1:∀u∈cs,u.oneCell'=true):Calls Tryz.prog 65 #[.agg s.cells,v,ci t] w fun e w'=>∃P D c cur,e=.returned (.tuple #[pt P,ci 0])∧Below w.heap.size w w'∧w.heap.size≤P∧w.heap.size≤D ∧
   Row w' P 210 (WOp.cells ⟨0,0,t,0,s,0,0⟩ D c)∧Row w' D 41 cur∧cur.toList.take s.words=cs:=by
 have hr:=ya s h t ht1 ht2;have hw1:=h.w1;have hw2:=h.w2
 obtain⟨a,c,rfl,hc⟩:∃a c,v=.slice (some a) s.words c∧∀j u,cs[j]?=some u→w.cell? (a.add j)=some u:=by
  rcases hv.shape with ⟨rfl,h0⟩|h0
  ·omega
  ·exact h0
 obtain⟨o,q,f,wd,d⟩:=s;simp only[am.cells,WOp.cells] at *;have hB:=(brf w).alloc (nlr _) (.cells #[ci o,ci q,ci f,ci wd,ci d] 112);have hw:=Row.new w 112 #[ci o,ci q,ci f,ci wd,ci d]
 go_enter Tryz.func65,Tryz.ntmps65
 go_wp2_with (first|(go_at_call 119;refine(hr _).mono ?_;rintro e w1 ⟨rfl,hb1⟩;have c:=(hw.bel hb1).c5;obtain⟨c0,c1,c2,c3,c4⟩:=c;have HB:=qh (hB.trans (hb1.mono hB.size));clear hB hw hb1))
 have hcl:∀W,Below w1.heap.size w1 W→Calls Tryz.prog 23 #[.slice (some a) wd c] W fun e w'=>∃g cap cur,e=.returned (zl g wd cap)∧Below W.heap.size W w'∧W.heap.size≤g∧Row w' g 41 cur∧cur.toList.take wd=cs:=fun W hb=>by
  have hh:=hv.bel (bt HB.o hb);refine(b7k W a wd c cs (by simpa using hh.len) ?_ h1 (by omega)).mono ?_
  ·rcases hh.shape with ⟨h0,_⟩|⟨a',c',h0,h2⟩
   ·cases h0
   ·cases h0;exact h2
  ·rintro e w' ⟨g,cap,cur,h1,h2,h3,h4,h5,h6,h7,h8⟩;exact⟨g,cap,cur,h1,h2,h3,h4,by simpa using h8⟩
 have sv:Hd (∀W,Below w1.heap.size w1 W→Below w1.heap.size w1 W∧W.cell? (ae w.heap.size 0)=some (ci o)∧W.cell? (ae w.heap.size 1)=some (ci q)∧W.cell? (ae w.heap.size 2)=some (ci f)∧W.cell? (ae w.heap.size 3)=some (ci wd)∧W.cell? (ae w.heap.size 4)=some (ci d)):=qh fun W hb=>
  ⟨hb,(hb.cell (blc c0)).trans c0,(hb.cell (blc c1)).trans c1,(hb.cell (blc c2)).trans c2,(hb.cell (blc c3)).trans c3,(hb.cell (blc c4)).trans c4⟩
 have HCL:=qh hcl;have H1:=qh h1;clear hcl hc hv h1;have BK0:=(brf w1).drew
 go_region_held3 (fun W=>Below w1.heap.size w1 W∧W.cell? (ae w.heap.size 0)=some (ci o)∧W.cell? (ae w.heap.size 1)=some (ci q)∧W.cell? (ae w.heap.size 2)=some (ci f)∧W.cell? (ae w.heap.size 3)=some (ci wd)∧W.cell? (ae w.heap.size 4)=some (ci d))
  (first|(with_reducible exact sv.o _ BK0)|(with_reducible assumption)|(with_reducible exact sv.o _ (bt (And.left (by assumption)) hbw))|(with_reducible exact sv.o _ (af (And.left (by assumption)) _))|(with_reducible exact sv.o _ (mc (And.left (by assumption)) _)))
  (first|(go_at_call 23;refine(HCL.o _ (And.left (by assumption))).mono ?_;rintro e w_ ⟨gg,cap,cur,rfl,hbw,hgg,hrow,htk⟩))
 rename_i hK
 have hb1:=qh (bt HB.o hK.1);have hsz:=HB.o.size;have hs2:w1.heap.size≤w_.heap.size:=hbw.size;have hgg2:w.heap.size≤gg:=nlt hsz hgg;have hsz3:w.heap.size≤w_.heap.size:=nlt hsz hs2;have HR:=qh (hrow.alloc (.cells #[ci 0,ci 0,ci t,ci 0,ci o,ci q,ci f,ci wd,ci d,zl gg wd cap,cu 0,ci 0] 210));clear hK hbw hrow hgg c0 c1 c2 c3 c4 hsz hs2;go_wp2
 go_ret2
 exact⟨w_.heap.size,gg,cap,cur,rfl,hb1.o,hsz3,hgg2,Row.new _ _ _,HR.o,htk⟩
theorem b9d(w:World)(P D c:Nat)(o:WOp)(ho:o.how=1)(hr:Row w P 210 (o.cells D c))(hq:o.seq≤1000000):Calls Tryz.prog 69 #[pt P] w fun e w'=>e=.returned (cu ((o.seq / 2+1:Nat):Int))∧w=w':=by
 obtain⟨how,next,t,k,s,q,n⟩:=o;simp only[WOp.cells] at *;subst ho;obtain⟨c0,-,-,-,-,-,-,-,-,-,c10,-⟩:=hr.c12
 go_enter Tryz.func69,Tryz.ntmps69
 go_wp2_with (first|(go_at_call 85;refine(iq q _).mono ?_;rintro e w1 ⟨rfl,rfl⟩))
 go_ret;exact⟨by simp,rfl⟩
theorem j9(W:World)(n:Nat)(hn:n≤1048576):(Instr.makeSlice 37 (ci n) (ci n)).run Tryz.prog W=.ok (zl W.heap.size n n) (W.alloc (.cells (bj (List.replicate n 0)) 41)):=by
 obtain⟨i0,hi,hz0,hz1,hz2⟩:=info_parts o6;have h:=run_make (P:=Tryz.prog) W 37 41 i0 _ Tryz.underlying37 hi hz0 .i64 .i64 n n (by omega) (by omega) (by rw[hz2];omega) (by omega);rw[hz1] at h;have e:=c1p n;rw[←e];exact h
theorem b1k(w:World)(s:am)(h:s.Ok)(t:Nat)(ht1:1≤t)(ht2:t≤16)(a:Option Addr)(n c:Nat)(hn:n≠s.words):Calls Tryz.prog 65 #[.agg s.cells,.slice a n c,ci t] w fun e w'=>e=.returned (.tuple #[.pointer none,ci 17])∧Below w.heap.size w w':=by
 have hr:=ya s h t ht1 ht2;obtain⟨o,q,f,wd,d⟩:=s;simp only[am.cells] at *;have t1:((n:Int) != (wd:Int))=true:=by simp[bne];omega
 have hB:=(brf w).alloc (nlr _) (.cells #[ci o,ci q,ci f,ci wd,ci d] 112);have hw:=Row.new w 112 #[ci o,ci q,ci f,ci wd,ci d]
 go_enter Tryz.func65,Tryz.ntmps65
 go_wp2_with (first|(go_at_call 119;refine(hr _).mono ?_;rintro e w1 ⟨rfl,hb1⟩;have c:=(hw.bel hb1).c5;obtain⟨c0,c1,c2,c3,c4⟩:=c;have HB:=qh (hB.trans (hb1.mono hB.size));clear hB hw hb1))
 go_ret2
 exact⟨rfl,HB.o⟩
theorem c9r(w:World)(g:Nat)(hr:Row w g 4 #[.bool true,.bool true,.bool true,.bool true,.bool true,.bool true,.bool true,.bool true,.bool true,.bool true,.bool true,.bool true]):Calls Tryz.prog 165 #[zl g 12 12] w fun e w'=>e=.returned (.bool true)∧w=w':=by
 obtain⟨c0,c1,c2,c3,c4,c5,c6,c7,c8,c9,c10,c11⟩:=hr.c12;clear hr
 go_enter Tryz.func165,Tryz.ntmps165
 go_wp2;refine wp_loop_rounds 13 ?_
 iterate 12 (rw[rounds_succ];go_wp2)
 rw[rounds_succ];go_wp2;go_ret;exact⟨rfl,rfl⟩
theorem b3q(s:am)(h:s.Ok)(t:Nat)(ht1:1≤t)(ht2:t≤16)(w:World):Calls Tryz.prog 121 #[.agg s.cells,ci t] w fun e w'=>e=.returned (.bool true)∧Below w.heap.size w w':=by
 obtain⟨o,q,f,wd,d⟩:=s;obtain⟨h1,h2,h3,h4,h5,h6,h7⟩:=h;simp only[am.cells] at *;have t1:decide ((1:Int)≤wd)=true:=by simp;omega
 have t2:decide ((wd:Int)≤64)=true:=by simp;omega
 have t3:decide ((2:Int)≤d)=true:=by simp;omega
 have t4:decide ((d:Int)≤16)=true:=by simp;omega
 have t5:decide ((0:Int)≤o)=true:=by simp
 have t6:decide ((o:Int)≤1048576)=true:=by simp;omega
 have t7:decide ((0:Int)≤q)=true:=by simp
 have t8:decide ((q:Int)≤1048576)=true:=by simp;omega
 have t9:decide ((0:Int)≤f)=true:=by simp
 have t10:decide ((f:Int)≤1048576)=true:=by simp;omega
 have t11:decide ((1:Int)≤t)=true:=by simp;omega
 have t12:decide ((t:Int)≤16)=true:=by simp;omega
 have hB:=(brf w).alloc (nlr _) (.cells #[ci o,ci q,ci f,ci wd,ci d] 112);have hbs:∀w:World,(Instr.buildSlice 282 12 #[(0,.bool true),(1,.bool true),(2,.bool true),(3,.bool true),(4,.bool true),(5,.bool true),(6,.bool true),(7,.bool true),(8,.bool true),(9,.bool true),(10,.bool true),(11,.bool true)]).run Tryz.prog w=.ok (zl w.heap.size 12 12) (w.alloc (.cells #[.bool true,.bool true,.bool true,.bool true,.bool true,.bool true,.bool true,.bool true,.bool true,.bool true,.bool true,.bool true] 4)):=fun _=>by kernel_rfl
 have hr2:Row ((w.alloc (.cells #[ci o,ci q,ci f,ci wd,ci d] 112)).alloc (.cells #[.bool true,.bool true,.bool true,.bool true,.bool true,.bool true,.bool true,.bool true,.bool true,.bool true,.bool true,.bool true] 4)) (w.heap.size+1) 4 #[.bool true,.bool true,.bool true,.bool true,.bool true,.bool true,.bool true,.bool true,.bool true,.bool true,.bool true,.bool true]:=⟨by simpa using heap_alloc_new (w.alloc (.cells #[ci o,ci q,ci f,ci wd,ci d] 112)) (.cells #[.bool true,.bool true,.bool true,.bool true,.bool true,.bool true,.bool true,.bool true,.bool true,.bool true,.bool true,.bool true] 4)⟩;have hal:=c9r _ _ hr2;clear hr2
 go_enter Tryz.func121,Tryz.ntmps121
 go_wp2_with (first|(go_at_call 165;refine hal.mono ?_;rintro e w' ⟨rfl,rfl⟩))
 go_ret;exact⟨rfl,hB.alloc (by simp) _⟩
theorem b9e(s:am)(h:s.Ok)(t:Nat)(ht1:1≤t)(ht2:t≤16)(w:World):Calls Tryz.prog 71 #[.agg s.cells,ci t] w fun e w'=>∃n,e=.returned (ci n)∧Below w.heap.size w w':=by
 have hr:=b3q s h t ht1 ht2;obtain⟨o,q,f,wd,d⟩:=s;simp only[am.cells] at *;have hB:=(brf w).alloc (nlr _) (.cells #[ci o,ci q,ci f,ci wd,ci d] 112);have hw:=Row.new w 112 #[ci o,ci q,ci f,ci wd,ci d]
 go_enter Tryz.func71,Tryz.ntmps71
 go_wp2_with (first|(go_at_call 121;refine(hr _).mono ?_;rintro e w1 ⟨rfl,hb1⟩;have c:=(hw.bel hb1).c5;obtain⟨-,-,-,c3,-⟩:=c;have HB:=hB.trans (hb1.mono hB.size);clear hB hw hb1))
 go_ret;exact⟨_,rfl,HB⟩
structure ROp where
 spot:am
 tries:Nat
 next:Nat
 gen:Nat
 n:Nat
 begun:Nat
 steps:Nat
 how:Nat
def ROp.cells(o:ROp)(D:Nat):Array Value:=#[ci o.spot.own,ci o.spot.seq,ci o.spot.first,ci o.spot.words,ci o.spot.depth,ci o.tries,ci o.next,cu o.gen,zl D o.spot.words o.spot.words,ci o.n,ci o.begun,ci o.steps,ci o.how]
theorem c2q(w:World)(s:am)(h:s.Ok)(t:Nat)(ht1:1≤t)(ht2:t≤16):Calls Tryz.prog 70 #[.agg s.cells,ci t] w fun e w'=>∃P D,e=.returned (.tuple #[pt P,ci 0])∧Below w.heap.size w w'∧w.heap.size≤P∧w.heap.size≤D ∧
   Row w' P 214 (ROp.cells ⟨s,t,0,0,0,0,0,0⟩ D)∧Row w' D 41 (bj (List.replicate s.words 0)):=by
 have hr:=b3q s h t ht1 ht2;have hw1:=h.w1;have hw2:=h.w2;have hmk:=fun W=>j9 W s.words (by omega);obtain⟨o,q,f,wd,d⟩:=s;simp only[am.cells,ROp.cells] at *;have hB:=(brf w).alloc (nlr _) (.cells #[ci o,ci q,ci f,ci wd,ci d] 112);have hw:=Row.new w 112 #[ci o,ci q,ci f,ci wd,ci d]
 go_enter Tryz.func70,Tryz.ntmps70
 go_wp2_with (first|(go_at_call 121;refine(hr _).mono ?_;rintro e w1 ⟨rfl,hb1⟩;have c:=(hw.bel hb1).c5;obtain⟨c0,c1,c2,c3,c4⟩:=c;have HB:=qh (hB.trans (hb1.mono hB.size));clear hB hw hb1))
 have sv:Hd (∀W,Below w1.heap.size w1 W→Below w1.heap.size w1 W∧W.cell? (ae w.heap.size 0)=some (ci o)∧W.cell? (ae w.heap.size 1)=some (ci q)∧W.cell? (ae w.heap.size 2)=some (ci f)∧W.cell? (ae w.heap.size 3)=some (ci wd)∧W.cell? (ae w.heap.size 4)=some (ci d)):=qh fun W hb=>
  ⟨hb,(hb.cell (blc c0)).trans c0,(hb.cell (blc c1)).trans c1,(hb.cell (blc c2)).trans c2,(hb.cell (blc c3)).trans c3,(hb.cell (blc c4)).trans c4⟩
 have BK0:=(brf w1).drew;have hwr:Row (w1.alloc (.cells (bj (List.replicate wd 0)) 41)) w1.heap.size 41 (bj (List.replicate wd 0)):=Row.new _ _ _;have HWR:=qh hwr;clear hwr;generalize hU:bj (List.replicate wd 0)=U at *;have HU:=qh hU;clear hU
 go_region_held3 (fun W=>Below w1.heap.size w1 W∧W.cell? (ae w.heap.size 0)=some (ci o)∧W.cell? (ae w.heap.size 1)=some (ci q)∧W.cell? (ae w.heap.size 2)=some (ci f)∧W.cell? (ae w.heap.size 3)=some (ci wd)∧W.cell? (ae w.heap.size 4)=some (ci d))
  (first|(with_reducible exact sv.o _ BK0)|(with_reducible assumption)|(with_reducible exact sv.o _ (af (And.left (by assumption)) _))|(with_reducible exact sv.o _ (mc (And.left (by assumption)) _)))
  (fail)
 rename_i hK
 have hb1:=qh (bt HB.o hK.1);have hsz:=HB.o.size;have hsz3:w.heap.size≤w1.heap.size+1:=by omega
 clear hK c0 c1 c2 c3 c4;go_wp2
 go_ret2
 refine⟨w1.heap.size+1,w1.heap.size,rfl,hb1.o,hsz3,hsz,?_,?_⟩
 ·have:=(Row.new (w1.alloc (.cells U 41)) 214 #[ci o,ci q,ci f,ci wd,ci d,ci t,ci 0,cu 0,zl w1.heap.size wd wd,ci 0,ci 0,ci 0,ci 0]).drew
  simpa using this
 ·rw[HU.o];exact(HWR.o.alloc _).drew
theorem pw(w:World)(P D:Nat)(s:am)(t nx g n b k h:Nat)(hn:nx≠1)(hr:Row w P 214 (ROp.cells ⟨s,t,nx,g,n,b,k,h⟩ D)):Calls Tryz.prog 275 #[pt P] w fun e w'=>e=.returned (ci s.seq)∧Below w.heap.size w w':=by
 simp only[ROp.cells] at *;obtain⟨-,c1,-,-,-,-,c6,-⟩:=hr.c13;have t1:((nx:Int)==1)=false:=by simp;omega
 have hB:=brf w;clear hr
 go_enter Tryz.func275,Tryz.ntmps275
 go_wp2;go_ret;exact⟨rfl,hB⟩
theorem un(w:World)(P D:Nat)(s:am)(hok:s.Ok)(t g n b k h:Nat)(hn:n≤64)(hr:Row w P 214 (ROp.cells ⟨s,t,1,g,n,b,k,h⟩ D)):Calls Tryz.prog 275 #[pt P] w fun e w'=>e=.returned (ci (s.place g+n:Nat))∧Below w.heap.size w w':=by
 have hat:=fun W=>b0z s hok g W
 have hpl:s.place g≤2000000:=by
  have:=s.place_lt hok g;have:=hok.w2;have:=hok.d2;have:=hok.f;have:s.words*s.depth≤64*16:=Nat.mul_le_mul (by omega) (by omega);omega
 generalize s.place g=pl at *;obtain⟨o,q,f,wd,d⟩:=s;simp only[ROp.cells,am.cells] at *;obtain⟨c0,c1,c2,c3,c4,-,c6,c7,-,c9,-⟩:=hr.c13;have C0:=ag.cell c0;have C1:=ag.cell c1;have C2:=ag.cell c2;have C3:=ag.cell c3;have C4:=ag.cell c4;have C7:=ag.cell c7;have C9:=ag.cell c9;clear hr
 go_enter Tryz.func275,Tryz.ntmps275
 go_wp2_with fail;refine aq (fun w'=>∃g:ag w,w'=g.to) 14 (by kernel_rfl) (by kernel_rfl) (ag.start _) ?_;simp only[List.take_succ_cons,List.take_zero,List.drop_succ_cons,List.drop_zero]
 repeat (go_big_quiet_step ((go_at_call 139;exact Calls.later (hat _))))
 refine wpQuiet_nil ?_;rintro _ ⟨gg,rfl⟩;have hbl:=gg.2;go_wp2;go_ret;refine⟨nr ?_,hbl⟩;omega
theorem b3r(w:World)(P B A D:Nat)(ws:List Nat)(s:am)(t g n b k:Nat)(hb:bv w B A ws)(hs:s.seq<ws.length)(hP:P≠B∧P≠A)(hk:k≤100000)(hr:Row w P 214 (ROp.cells ⟨s,t,0,g,n,b,k,0⟩ D)):Calls Tryz.prog 274 #[pt P,pt B] w fun e w'=>e=.returned (ci 0)∧ab [B,P] w w'∧bv w' B A ws∧Row w' P 214 (ROp.cells ⟨s,t,1,wat ws s.seq / 2,0,k+1,k+1,0⟩ D):=by
 have hat:=pw w P D s t 0 g n b k 0 (by omega) hr;simp only[ROp.cells] at *;obtain⟨-,-,-,-,-,-,-,-,-,-,-,-,c12⟩:=hr.c13;have hg:=iq (wat ws s.seq);generalize hx:wat ws s.seq=x at *;have HX:=qh hx;have HB:=qh hb;have HR:=qh hr;have HP:=qh hP;clear hr hx hb hP
 go_enter Tryz.func274,Tryz.ntmps274
 go_wp2_with fail;refine ay 2 ?_
 go_wp2_with (first
  | (go_at_call 275;refine hat.mono ?_;rintro e w1 ⟨rfl,hs1⟩;have hb1:=HB.o.b0 hs1;have r1:=HR.o.bel hs1;have HS1:=qh hs1;have HB1:=qh hb1;have R1:=qh r1;clear hs1 hb1 r1 c12 hat)
  | (go_at_call 84;refine(fc _ B A ws s.seq hs HB1.o).mono ?_;rintro e w2 ⟨rfl,hs2,hb2⟩;have r2:=R1.o.same hs2 (by simpa using HP.o.1);obtain⟨d0,d1,d2,d3,d4,d5,d6,d7,d8,d9,d10,d11,d12⟩:=r2.c13;have fr:=r2.free;rw[HX.o];have HS2:=qh ((ab.of_below (M:=[B]) HS1.o).then hs2 (fun _ h _=>h));have HB2:=qh hb2;have R2:=qh r2;clear hs2 hb2 r2))
 refine qd (fun w'=>∃n,w'=(w2.setCell ⟨P,11,none⟩ (ci (k+1))).drewN n) [1,2,3] [0,4,5,6,7,8,9] 10 (by kernel_rfl) (by kernel_rfl) ⟨1,rfl⟩ ?_;simp only[rv,qr,List.cons_append,List.nil_append,List.drop_succ_cons,List.drop_zero]
 repeat (go_big_quiet_step ((go_at_call 85;exact Calls.quiet_same (hg _))))
 refine wpQuiet_nil ?_;rintro _ ⟨nq,rfl⟩;go_wp2;refine NoPanic.normal ?_;go_wp2;refine wp_goto ?_;refine⟨_,rfl,?_⟩;go_wp2;refine bh ?_;go_ret;have n1:B∉[P]:=by simpa using HP.o.1.symm
 have n2:A∉[P]:=by simpa using HP.o.2.symm
 have hs3:ab [P] w2 (((((w2.setCell ⟨P,11,none⟩ (ci (k+1))).drewN nq).setCell ⟨P,7,none⟩ (cu (x / 2))).setCell ⟨P,9,none⟩ (ci 0)).setCell ⟨P,10,none⟩ (ci (k+1))):=
  (((((ab.refl [P] w2).setCell (by simp) _).drewN nq).setCell (by simp) _).setCell (by simp) _).setCell (by simp) _
 have hs4:=hs3.sc P 6 (ci 1);refine⟨rfl,?_,?_,?_⟩
 ·exact((HS2.o.mono (M':=[B,P]) (fun y hy _=>by simp at hy;simp[hy])).then hs4 (by simp))
 ·exact HB2.o.same hs4 n1 n2
 ·exact(((((R2.o.set 11 _).drewN nq).set 7 _).set 9 _).set 10 _).set 6 _
theorem b6b(w:World)(P B A D:Nat)(ws:List Nat)(s:am)(t g n b k:Nat)(hd0:2≤s.depth)(hd1:s.depth≤16)(h64:wat ws s.seq≤18446744073709551615)(hke:oq (wat ws s.seq) g s.depth=true)(hb:bv w B A ws)(hs:s.seq<ws.length)(hP:P≠B∧P≠A)(hk:k≤100000)(hr:Row w P 214 (ROp.cells ⟨s,t,2,g,n,b,k,0⟩ D)):Calls Tryz.prog 274 #[pt P,pt B] w fun e w'=>e=.returned (ci 1)∧ab [B,P] w w'∧bv w' B A ws∧Row w' P 214 (ROp.cells ⟨s,t,2,g,n,b,k+1,1⟩ D):=by
 have hat:=pw w P D s t 2 g n b k 0 (by omega) hr;have hbd:=hb;simp only[ROp.cells] at *;obtain⟨-,-,-,-,-,-,-,-,-,-,-,-,c12⟩:=hr.c13;have hkk:=b0y (wat ws s.seq) g s.depth hd0 hd1 h64;rw[hke] at hkk;generalize hx:wat ws (s.seq)=x at *;have HX:=qh hx;have HB:=qh hb;have HR:=qh hr;have HP:=qh hP;clear hr hx hb hP hbd
 go_enter Tryz.func274,Tryz.ntmps274
 go_wp2_with fail;refine ay 2 ?_
 go_wp2_with (first
  | (go_at_call 275;refine hat.mono ?_;rintro e w1 ⟨rfl,hs1⟩;have hb1:=HB.o.b0 hs1;have r1:=HR.o.bel hs1;have HS1:=qh hs1;have HB1:=qh hb1;have R1:=qh r1;clear hs1 hb1 r1 c12 hat)
  | (go_at_call 84;refine(fc _ B A ws (s.seq) hs HB1.o).mono ?_;rintro e w2 ⟨rfl,hs2,hb2⟩;have r2:=R1.o.same hs2 (by simpa using HP.o.1);obtain⟨d0,d1,d2,d3,d4,d5,d6,d7,d8,d9,d10,d11,d12⟩:=r2.c13;have fr:=r2.free;rw[HX.o];have HS2:=qh ((ab.of_below (M:=[B]) HS1.o).then hs2 (fun _ h _=>h));have HB2:=qh hb2;have R2:=qh r2;clear hs2 hb2 r2))
 go_quiet ((go_at_call 276;exact Calls.quiet_same (hkk _)))
 go_wp2;refine wp_goto ?_;refine⟨_,rfl,?_⟩;go_wp2;refine bh ?_;go_ret;have n1:B∉[P]:=by simpa using HP.o.1.symm
 have n2:A∉[P]:=by simpa using HP.o.2.symm
 have hs4:=(((sj (W:=w2) P 11 (ci (k+1))).drewN nq).sc P 12 (ci 1));refine⟨rfl,?_,?_,?_⟩
 ·exact((HS2.o.mono (M':=[B,P]) (fun y hy _=>by simp at hy;simp[hy])).then hs4 (by simp))
 ·exact HB2.o.same hs4 n1 n2
 ·exact(((R2.o.set 11 _).drewN nq).set 12 _)
theorem b3s(w:World)(P B A D:Nat)(ws:List Nat)(s:am)(t g n b k:Nat)(hd0:2≤s.depth)(hd1:s.depth≤16)(h64:wat ws s.seq≤18446744073709551615)(hke:oq (wat ws s.seq) g s.depth=false)(ht:2≤t)(ht2:t≤16)(hb:bv w B A ws)(hs:s.seq<ws.length)(hP:P≠B∧P≠A)(hk:k≤100000)(hr:Row w P 214 (ROp.cells ⟨s,t,2,g,n,b,k,0⟩ D)):Calls Tryz.prog 274 #[pt P,pt B] w fun e w'=>e=.returned (ci 0)∧ab [B,P] w w'∧bv w' B A ws∧Row w' P 214 (ROp.cells ⟨s,t-1,0,g,n,b,k+1,0⟩ D):=by
 have hat:=pw w P D s t 2 g n b k 0 (by omega) hr;have hbd:=hb;simp only[ROp.cells] at *;obtain⟨-,-,-,-,-,-,-,-,-,-,-,-,c12⟩:=hr.c13;have hkk:=b0y (wat ws s.seq) g s.depth hd0 hd1 h64;rw[hke] at hkk;have tt:decide ((t:Int)-1=0)=false:=dqf (by omega);generalize hx:wat ws (s.seq)=x at *;have HX:=qh hx;have HB:=qh hb;have HR:=qh hr;have HP:=qh hP;clear hr hx hb hP hbd
 go_enter Tryz.func274,Tryz.ntmps274
 go_wp2_with fail;refine ay 2 ?_
 go_wp2_with (first
  | (go_at_call 275;refine hat.mono ?_;rintro e w1 ⟨rfl,hs1⟩;have hb1:=HB.o.b0 hs1;have r1:=HR.o.bel hs1;have HS1:=qh hs1;have HB1:=qh hb1;have R1:=qh r1;clear hs1 hb1 r1 c12 hat)
  | (go_at_call 84;refine(fc _ B A ws (s.seq) hs HB1.o).mono ?_;rintro e w2 ⟨rfl,hs2,hb2⟩;have r2:=R1.o.same hs2 (by simpa using HP.o.1);obtain⟨d0,d1,d2,d3,d4,d5,d6,d7,d8,d9,d10,d11,d12⟩:=r2.c13;have fr:=r2.free;rw[HX.o];have HS2:=qh ((ab.of_below (M:=[B]) HS1.o).then hs2 (fun _ h _=>h));have HB2:=qh hb2;have R2:=qh r2;clear hs2 hb2 r2))
 go_quiet ((go_at_call 276;exact Calls.quiet_same (hkk _)))
 go_wp2;refine wp_label ?_;go_wp2;refine bh ?_;go_ret;have n1:B∉[P]:=by simpa using HP.o.1.symm
 have n2:A∉[P]:=by simpa using HP.o.2.symm
 have hs4:=((((sj (W:=w2) P 11 (ci (k+1))).drewN nq).sc P 6 (ci 0)).sc P 5 (ci (t-1)));refine⟨rfl,?_,?_,?_⟩
 ·exact((HS2.o.mono (M':=[B,P]) (fun y hy _=>by simp at hy;simp[hy])).then hs4 (by simp))
 ·exact HB2.o.same hs4 n1 n2
 ·refine((((R2.o.set 11 _).drewN nq).set 6 _).set 5 _).to ?_;have:((t:Int)-1)=((t-1:Nat):Int):=by omega
  rw[this]
  rfl
theorem b3t(w:World)(P B A D:Nat)(ws:List Nat)(s:am)(t g n b k:Nat)(hd0:2≤s.depth)(hd1:s.depth≤16)(h64:wat ws s.seq≤18446744073709551615)(hke:oq (wat ws s.seq) g s.depth=false)(ht:t=1)(hb:bv w B A ws)(hs:s.seq<ws.length)(hP:P≠B∧P≠A)(hk:k≤100000)(hr:Row w P 214 (ROp.cells ⟨s,t,2,g,n,b,k,0⟩ D)):Calls Tryz.prog 274 #[pt P,pt B] w fun e w'=>e=.returned (ci 2)∧ab [B,P] w w'∧bv w' B A ws∧Row w' P 214 (ROp.cells ⟨s,0,0,g,n,b,k+1,2⟩ D):=by
 have hat:=pw w P D s t 2 g n b k 0 (by omega) hr;have hbd:=hb;simp only[ROp.cells] at *;obtain⟨-,-,-,-,-,-,-,-,-,-,-,-,c12⟩:=hr.c13;have hkk:=b0y (wat ws s.seq) g s.depth hd0 hd1 h64;rw[hke] at hkk;subst ht;generalize hx:wat ws (s.seq)=x at *;have HX:=qh hx;have HB:=qh hb;have HR:=qh hr;have HP:=qh hP;clear hr hx hb hP hbd
 go_enter Tryz.func274,Tryz.ntmps274
 go_wp2_with fail;refine ay 2 ?_
 go_wp2_with (first
  | (go_at_call 275;refine hat.mono ?_;rintro e w1 ⟨rfl,hs1⟩;have hb1:=HB.o.b0 hs1;have r1:=HR.o.bel hs1;have HS1:=qh hs1;have HB1:=qh hb1;have R1:=qh r1;clear hs1 hb1 r1 c12 hat)
  | (go_at_call 84;refine(fc _ B A ws (s.seq) hs HB1.o).mono ?_;rintro e w2 ⟨rfl,hs2,hb2⟩;have r2:=R1.o.same hs2 (by simpa using HP.o.1);obtain⟨d0,d1,d2,d3,d4,d5,d6,d7,d8,d9,d10,d11,d12⟩:=r2.c13;have fr:=r2.free;rw[HX.o];have HS2:=qh ((ab.of_below (M:=[B]) HS1.o).then hs2 (fun _ h _=>h));have HB2:=qh hb2;have R2:=qh r2;clear hs2 hb2 r2))
 go_quiet ((go_at_call 276;exact Calls.quiet_same (hkk _)))
 go_wp2;refine wp_label ?_;go_wp2;refine bh ?_;go_ret;have n1:B∉[P]:=by simpa using HP.o.1.symm
 have n2:A∉[P]:=by simpa using HP.o.2.symm
 have hs4:=(((((sj (W:=w2) P 11 (ci (k+1))).drewN nq).sc P 6 (ci 0)).sc P 5 (ci 0)).sc P 12 (ci 2));refine⟨rfl,?_,?_,?_⟩
 ·exact((HS2.o.mono (M':=[B,P]) (fun y hy _=>by simp at hy;simp[hy])).then hs4 (by simp))
 ·exact HB2.o.same hs4 n1 n2
 ·exact(((((R2.o.set 11 _).drewN nq).set 6 _).set 5 _).set 12 _)
theorem b6c(w:World)(P B A D:Nat)(ws:List Nat)(s:am)(t g n b k:Nat)(gs:List Nat)(hok:s.Ok)(hg:gs.length=s.words)(hD:Row w D 41 (bj gs))(hDA:D≠A)(hn:n+1<s.words)(hb:bv w B A ws)(hs:s.place g+n<ws.length)(hP:P≠B∧P≠A)(hk:k≤100000)(hr:Row w P 214 (ROp.cells ⟨s,t,1,g,n,b,k,0⟩ D)):Calls Tryz.prog 274 #[pt P,pt B] w fun e w'=>e=.returned (ci 0)∧ab [B,D,P] w w'∧bv w' B A ws∧Row w' P 214 (ROp.cells ⟨s,t,1,g,n+1,b,k+1,0⟩ D)∧∃gs',gs'.length=s.words∧Row w' D 41 (bj gs'):=by
 have hat:=un w P D s hok t g n b k 0 (by have:=hok.w2;omega) hr;have hbd:=hb;simp only[ROp.cells] at *;obtain⟨-,-,-,-,-,-,-,-,-,-,-,-,c12⟩:=hr.c13;have hw64:=hok.w2;have iB1:((n:Nat):Int)<s.words:=by omega
 have iB0:(0:Int)≤n:=by omega
 have hDP:D≠P:=fun h=>by subst h;exact absurd (hD.inj hr).1 (by decide)
 have hDB:D≠B:=fun h=>by obtain⟨kk,hk2⟩:=hbd.hd;subst h;exact absurd (hD.inj hk2).1 (by decide)
 have HD:=qh hD;have HDD:=qh (And.intro hDP (And.intro hDB hDA));have hnl:n<gs.length:=by omega
 have HNL:=qh hnl;clear hD hDB hDA hnl;have tt:decide ((n:Int)+1=s.words)=false:=dqf (by omega);generalize hx:wat ws (s.place g+n)=x at *;have HX:=qh hx;have HB:=qh hb;have HR:=qh hr;have HP:=qh hP;clear hr hx hb hP hbd
 go_enter Tryz.func274,Tryz.ntmps274
 go_wp2_with fail;refine ay 2 ?_
 go_wp2_with (first
  | (go_at_call 275;refine hat.mono ?_;rintro e w1 ⟨rfl,hs1⟩;have hb1:=HB.o.b0 hs1;have r1:=HR.o.bel hs1;have HS1:=qh hs1;have HB1:=qh hb1;have R1:=qh r1;clear hs1 hb1 r1 c12 hat)
  | (go_at_call 84;refine(fc _ B A ws (s.place g+n) hs HB1.o).mono ?_;rintro e w2 ⟨rfl,hs2,hb2⟩;have r2:=R1.o.same hs2 (by simpa using HP.o.1);obtain⟨d0,d1,d2,d3,d4,d5,d6,d7,d8,d9,d10,d11,d12⟩:=r2.c13;have fr:=r2.free;rw[HX.o];have D1:=((HD.o.bel HS1.o).same hs2 (by simpa using HDD.o.2.1));have e0:=D1.cell (ej gs HNL.o);have fD:=D1.free;have D2:=qh D1;have HS2:=qh ((ab.of_below (M:=[B]) HS1.o).then hs2 (fun _ h _=>h));have HB2:=qh hb2;have R2:=qh r2;clear hs2 hb2 r2 D1))
 refine aq (fun w'=>∃n,w'=(w2.setCell ⟨P,11,none⟩ (ci (k+1))).drewN n) 10 (by kernel_rfl) (by kernel_rfl) ⟨1,rfl⟩ ?_;simp only[List.take_succ_cons,List.take_zero,List.drop_succ_cons,List.drop_zero]
 repeat (go_big_quiet_step (fail))
 refine wpQuiet_nil ?_;rintro _ ⟨nz,rfl⟩;go_wp2
 go_quiet (fail)
 go_wp2;refine wp_goto ?_;refine⟨_,rfl,?_⟩;go_wp2;refine bh ?_;go_ret;have n1:B∉[D,P]:=by simpa using ⟨HDD.o.2.1.symm,HP.o.1.symm⟩
 have n2:A∉[D,P]:=by simpa using ⟨HDD.o.2.2.symm,HP.o.2.symm⟩
 refine⟨rfl,?_,?_,?_,gs.set n x,?_,?_⟩
 ·exact((HS2.o.mono (M':=[B,D,P]) (fun y hy _=>by simp at hy;simp[hy])).then (((((((ab.refl [D,P] w2).sc P 11 (ci (k+1))).drewN nz).sc D n (cu x)).sc P 9 (ci (n+1))).drewN nq)) (fun y hy _=>by simp at hy ⊢;omega))
 ·exact HB2.o.same (((((((ab.refl [D,P] w2).sc P 11 (ci (k+1))).drewN nz).sc D n (cu x)).sc P 9 (ci (n+1))).drewN nq)) n1 n2
 ·exact(((((R2.o.set 11 _).drewN nz).other hDP.symm _).set 9 _).drewN nq)
 ·simpa using hg
 ·rw[←fo];exact(((((D2.o.other hDP _).drewN nz).set n _).other hDP _).drewN nq)
theorem b6d(w:World)(P B A D:Nat)(ws:List Nat)(s:am)(t g n b k:Nat)(gs:List Nat)(hok:s.Ok)(hg:gs.length=s.words)(hD:Row w D 41 (bj gs))(hDA:D≠A)(hn:n+1=s.words)(hb:bv w B A ws)(hs:s.place g+n<ws.length)(hP:P≠B∧P≠A)(hk:k≤100000)(hr:Row w P 214 (ROp.cells ⟨s,t,1,g,n,b,k,0⟩ D)):Calls Tryz.prog 274 #[pt P,pt B] w fun e w'=>e=.returned (ci 0)∧ab [B,D,P] w w'∧bv w' B A ws∧Row w' P 214 (ROp.cells ⟨s,t,2,g,n+1,b,k+1,0⟩ D)∧∃gs',gs'.length=s.words∧Row w' D 41 (bj gs'):=by
 have hat:=un w P D s hok t g n b k 0 (by have:=hok.w2;omega) hr;have hbd:=hb;simp only[ROp.cells] at *;obtain⟨-,-,-,-,-,-,-,-,-,-,-,-,c12⟩:=hr.c13;have hw64:=hok.w2;have iB1:((n:Nat):Int)<s.words:=by omega
 have iB0:(0:Int)≤n:=by omega
 have hDP:D≠P:=fun h=>by subst h;exact absurd (hD.inj hr).1 (by decide)
 have hDB:D≠B:=fun h=>by obtain⟨kk,hk2⟩:=hbd.hd;subst h;exact absurd (hD.inj hk2).1 (by decide)
 have HD:=qh hD;have HDD:=qh (And.intro hDP (And.intro hDB hDA));have hnl:n<gs.length:=by omega
 have HNL:=qh hnl;clear hD hDB hDA hnl;have tt:decide ((n:Int)+1=s.words)=true:=dqt (by omega);generalize hx:wat ws (s.place g+n)=x at *;have HX:=qh hx;have HB:=qh hb;have HR:=qh hr;have HP:=qh hP;clear hr hx hb hP hbd
 go_enter Tryz.func274,Tryz.ntmps274
 go_wp2_with fail;refine ay 2 ?_
 go_wp2_with (first
  | (go_at_call 275;refine hat.mono ?_;rintro e w1 ⟨rfl,hs1⟩;have hb1:=HB.o.b0 hs1;have r1:=HR.o.bel hs1;have HS1:=qh hs1;have HB1:=qh hb1;have R1:=qh r1;clear hs1 hb1 r1 c12 hat)
  | (go_at_call 84;refine(fc _ B A ws (s.place g+n) hs HB1.o).mono ?_;rintro e w2 ⟨rfl,hs2,hb2⟩;have r2:=R1.o.same hs2 (by simpa using HP.o.1);obtain⟨d0,d1,d2,d3,d4,d5,d6,d7,d8,d9,d10,d11,d12⟩:=r2.c13;have fr:=r2.free;rw[HX.o];have D1:=((HD.o.bel HS1.o).same hs2 (by simpa using HDD.o.2.1));have e0:=D1.cell (ej gs HNL.o);have fD:=D1.free;have D2:=qh D1;have HS2:=qh ((ab.of_below (M:=[B]) HS1.o).then hs2 (fun _ h _=>h));have HB2:=qh hb2;have R2:=qh r2;clear hs2 hb2 r2 D1))
 refine aq (fun w'=>∃n,w'=(w2.setCell ⟨P,11,none⟩ (ci (k+1))).drewN n) 10 (by kernel_rfl) (by kernel_rfl) ⟨1,rfl⟩ ?_;simp only[List.take_succ_cons,List.take_zero,List.drop_succ_cons,List.drop_zero]
 repeat (go_big_quiet_step (fail))
 refine wpQuiet_nil ?_;rintro _ ⟨nz,rfl⟩;go_wp2
 go_quiet (fail)
 go_wp2;refine wp_goto ?_;refine⟨_,rfl,?_⟩;go_wp2;refine bh ?_;go_ret;have n1:B∉[D,P]:=by simpa using ⟨HDD.o.2.1.symm,HP.o.1.symm⟩
 have n2:A∉[D,P]:=by simpa using ⟨HDD.o.2.2.symm,HP.o.2.symm⟩
 refine⟨rfl,?_,?_,?_,gs.set n x,?_,?_⟩
 ·exact((HS2.o.mono (M':=[B,D,P]) (fun y hy _=>by simp at hy;simp[hy])).then (((((((ab.refl [D,P] w2).sc P 11 (ci (k+1))).drewN nz).sc D n (cu x)).sc P 9 (ci (n+1))).drewN nq).sc P 6 (ci 2)) (fun y hy _=>by simp at hy ⊢;omega))
 ·exact HB2.o.same (((((((ab.refl [D,P] w2).sc P 11 (ci (k+1))).drewN nz).sc D n (cu x)).sc P 9 (ci (n+1))).drewN nq).sc P 6 (ci 2)) n1 n2
 ·exact(((((R2.o.set 11 _).drewN nz).other hDP.symm _).set 9 _).drewN nq).set 6 _
 ·simpa using hg
 ·rw[←fo];exact(((((D2.o.other hDP _).drewN nz).set n _).other hDP _).drewN nq).other hDP _
theorem c5z(w:World)(P D:Nat)(o:ROp)(ho:o.how=1)(hr:Row w P 214 (o.cells D)):Calls Tryz.prog 74 #[pt P] w fun e w'=>e=.returned (ci o.begun)∧w=w':=by
 obtain⟨s,t,nx,g,n,b,k,h⟩:=o;simp only[ROp.cells] at *;subst ho;obtain⟨-,-,-,-,-,-,-,-,-,-,c10,-,c12⟩:=hr.c13;clear hr
 go_enter Tryz.func74,Tryz.ntmps74
 go_wp2;go_ret;exact⟨rfl,rfl⟩
theorem c9s:(Tryz.prog.info? 41).map (·.size)=some 1:=by kernel_rfl
theorem je(gs:List Nat):∀v∈(bj gs).toList,v.oneCell'=true:=by
 intro v hv;simp only[bj,List.mem_map] at hv;obtain⟨x,_,rfl⟩:=hv
 rfl
theorem na(gs:List Nat):(bj gs).toList.length=gs.length:=by simp[bj]
theorem b0m(gs:List Nat):(bj gs).size=gs.length:=by simp[bj]
theorem c2m(w:World)(P D:Nat)(o:ROp)(hw:o.spot.words≤64)(ho:o.how=1)(gs:List Nat)(hg:gs.length=o.spot.words)(hr:Row w P 214 (o.cells D))(hD:Row w D 41 (bj gs)):Calls Tryz.prog 73 #[pt P] w fun e w'=>∃g,e=.returned (.tuple #[zl g o.spot.words o.spot.words,cu o.gen])∧Below w.heap.size w w'∧w.heap.size≤g∧Row w' g 41 (bj gs):=by
 obtain⟨⟨so,sq,sf,sw,sd⟩,t,nx,gn,n,b,k,h⟩:=o;simp only[ROp.cells] at *;subst ho;obtain⟨-,-,-,-,-,-,-,c7,c8,-,-,-,c12⟩:=hr.c13;have hmk:=fun W=>j9 W sw (by omega)
 have hX:((bj (List.replicate sw 0)).toList.take 0++((bj gs).toList++(bj (List.replicate sw 0)).toList.drop (0+(bj gs).toList.length))).toArray=bj gs:=by
  rw[List.take_zero,List.nil_append,List.drop_eq_nil_of_le (by simp[b0m,hg])];simp
 have HX:=qh hX;have HN:Hd ((bj gs).toList.length=Nat.min sw sw):=qh (by rw[na,hg];simp);have HF:Hd (0+(bj gs).toList.length≤(bj (List.replicate sw 0)).size):=qh (by rw[na,b0m];simp;omega);have hlt:=hr.lt
 have hsrc:∀o,∀j v,(bj gs).toList[j]?=some v→(w.alloc o).cell? ((⟨D,0,none⟩:Addr).add j)=some v:=by
  intro o j v hv;rw[show (⟨D,0,none⟩:Addr).add j=⟨D,j,none⟩ by simp[Addr.add];omega];exact(hD.alloc o).cell (by simpa using hv)
 have HS:=qh hsrc;have HR:=qh hr;have hB0:=qh (brf w);clear hX hsrc hr hD
 go_enter Tryz.func73,Tryz.ntmps73
 go_wp2_with (first|(refine wpList_copy_own rfl _ _ 37 37 rfl 41 Tryz.underlying37 c9s w.heap.size 0 sw sw ⟨D,0,none⟩ sw sw rfl rfl (bj (List.replicate sw 0)) 41 (heap_alloc_new _ _) (bj gs).toList HN.o (HS.o _) HF.o (je gs) ?_;rw[HX.o];have R2:=qh ((Row.new w 41 (bj (List.replicate sw 0))).setRow (bj gs));have hb:=(hB0.o.alloc (nlr _) (.cells (bj (List.replicate sw 0)) 41));have hb2:=below_setRow hb (nlr _) (bj gs);have r1:=HR.o.bel hb2;generalize World.setRow _ _ _=w2 at *;obtain⟨-,-,-,-,-,-,-,d7,d8,-,-,-,d12⟩:=r1.c13;have HB2:=qh hb2;clear hb hb2 r1 c7 c8 c12))
 go_quiet (fail)
 go_wp2
 go_ret2
 exact⟨w.heap.size,rfl,below_drewN HB2.o _,nlr _,R2.o.drewN _⟩
structure Arr{α:Type}(enc:α→List Value)(sz:Nat)(W:World)(g:Nat)(E:TypeId)(l:List α):Prop where
 ex:∃cur,Row W g E cur∧cur.toList.take (l.length*sz)=l.flatMap enc
section
variable{α:Type}{enc:α→List Value}{sz g E:Nat}{W W':World}{l:List α}{M:List Nat}
theorem mf(hl:∀x,(enc x).length=sz):∀(l:List α)(k j:Nat)(x:α),l[k]?=some x→j<sz→(l.flatMap enc)[k*sz+j]?=(enc x)[j]?
 | [],k,j,x,h,_=>by simp at h
 | y::l,0,j,x,h,hj=>by
  have:y=x:=by simpa using h
  subst this;rw[List.flatMap_cons,Nat.zero_mul,Nat.zero_add,List.getElem?_append_left (by rw[hl];exact hj)]
 | y::l,k+1,j,x,h,hj=>by
  rw[List.flatMap_cons,List.getElem?_append_right (by rw[hl,Nat.succ_mul];omega),hl];rw[show (k+1)*sz+j-sz=k*sz+j by rw[Nat.succ_mul];omega];exact mf hl l k j x (by simpa using h) hj
theorem ik(hl:∀x,(enc x).length=sz):∀l:List α,(l.flatMap enc).length=l.length*sz
 | []=>by simp
 | y::l=>by rw[List.flatMap_cons,List.length_append,hl,ik hl l,List.length_cons,Nat.succ_mul];omega
theorem Arr.cell(h:Arr enc sz W g E l)(hl:∀x,(enc x).length=sz){k j:Nat}{x:α}{v:Value}(hx:l[k]?=some x)(hv:(enc x)[j]?=some v):W.cell? (ae g (k*sz+j))=some v:=by
 obtain⟨cur,hr,ht⟩:=h.ex;have hj:j<sz:=by rw[←hl x];exact(bk.1 hv).1
 have hk:k<l.length:=(bk.1 hx).1;refine hr.cell ?_;have h1:(cur.toList.take (l.length*sz))[k*sz+j]?=some v:=by rw[ht,mf hl l k j x hx hj];exact hv
 have h2:k*sz+j<l.length*sz:=by
  have:(k+1)*sz≤l.length*sz:=Nat.mul_le_mul_right _ hk;rw[Nat.succ_mul] at this;omega
 rw[List.getElem?_take_of_lt h2] at h1
 simpa using h1
theorem Arr.free(h:Arr enc sz W g E l)(i:Nat):W.frozen? ⟨g,i,none⟩=false:=by obtain⟨cur,hr,_⟩:=h.ex;exact hr.free i
theorem Arr.lt(h:Arr enc sz W g E l):g<W.heap.size:=by obtain⟨cur,hr,_⟩:=h.ex;exact hr.lt
theorem Arr.same(h:Arr enc sz W g E l)(hs:ab M W W')(hb:g∉M):Arr enc sz W' g E l:=by obtain⟨cur,hr,ht⟩:=h.ex;exact⟨cur,hr.same hs hb,ht⟩
theorem Arr.bel(h:Arr enc sz W g E l)(hs:Below W.heap.size W W'):Arr enc sz W' g E l:=by obtain⟨cur,hr,ht⟩:=h.ex;exact⟨cur,hr.bel hs,ht⟩
theorem Arr.alloc(h:Arr enc sz W g E l)(o:Obj):Arr enc sz (W.alloc o) g E l:=by obtain⟨cur,hr,ht⟩:=h.ex;exact⟨cur,hr.alloc o,ht⟩
theorem Arr.drew(h:Arr enc sz W g E l):Arr enc sz W.drew g E l:=by obtain⟨cur,hr,ht⟩:=h.ex;exact⟨cur,hr.drew,ht⟩
theorem Arr.has(h:Arr enc sz W g E l)(hl:∀x,(enc x).length=sz)(c:Nat):Has W sz (zl g l.length c) l.length (l.flatMap enc):=by
 refine⟨ik hl l,Or.inr ⟨_,_,rfl,fun j u hu=>?_⟩⟩;obtain⟨cur,hr,ht⟩:=h.ex;rw[show (⟨g,0,none⟩:Addr).add j=⟨g,j,none⟩ by simp[Addr.add];omega];refine hr.cell ?_;rw[←ht] at hu;rw[List.getElem?_take] at hu
 split at hu
 ·simpa using hu
 ·cases hu
theorem Arr.of_own{base:Nat}{v:Value}{n:Nat}(h:W.ownsRow base E sz v n (l.flatMap enc))(hn:n=l.length)(h1:1≤n):∃g c,v=zl g n c∧base≤g∧n≤c∧Arr enc sz W g E l:=by
 obtain⟨g,cap,cur,h2,h3,h4,h5,_,_,h6⟩:=u9 h h1;exact⟨g,cap,h2,h3,h5,⟨cur,h4,by rw[←hn];exact h6⟩⟩
end
def am.enc(s:am):List Value:=[ci s.own,ci s.seq,ci s.first,ci s.words,ci s.depth]
theorem am.enc_len(s:am):s.enc.length=5:=rfl
theorem am.enc_one(l:List am):∀u∈l.flatMap am.enc,u.oneCell'=true:=by
 intro u hu;simp only[List.mem_flatMap,am.enc,List.mem_cons,List.not_mem_nil,or_false] at hu;obtain⟨s,_,h|h|h|h|h⟩:=hu<;>subst h<;>rfl
abbrev au(W:World)(g:Nat)(l:List am):Prop:=Arr am.enc 5 W g 112 l
theorem au.c{W:World}{g:Nat}{l:List am}(h:au W g l){k:Nat}{s:am}(hk:l[k]?=some s):W.cell? (ae g (k*5))=some (ci s.own)∧W.cell? (ae g (k*5+1))=some (ci s.seq)∧W.cell? (ae g (k*5+2))=some (ci s.first)∧W.cell? (ae g (k*5+3))=some (ci s.words)∧W.cell? (ae g (k*5+4))=some (ci s.depth):=
 ⟨h.cell am.enc_len (j:=0) hk rfl,h.cell am.enc_len (j:=1) hk rfl,h.cell am.enc_len (j:=2) hk rfl,h.cell am.enc_len (j:=3) hk rfl,h.cell am.enc_len (j:=4) hk rfl⟩
def gd(l:List am)(k:Nat):Nat:=((l.take k).map am.words).sum
theorem ky{l:List am}{k:Nat}{s:am}(h:l[k]?=some s):gd l (k+1)=gd l k+s.words:=by
 unfold gd;rw[List.take_add_one,h];simp
theorem jq{l:List am}(h:∀s∈l,s.Ok)(k:Nat):gd l k≤64*k:=by
 induction k with
 | zero=>simp[gd]
 | succ k ih=>
  cases hk:l[k]? with
  | none=>
   have:gd l (k+1)=gd l k:=by unfold gd;rw[List.take_add_one,hk];simp
   omega
  | some s=>
   have h1:=(h s (dh hk)).w2;rw[ky hk];omega
theorem b3u(w:World)(g c:Nat)(l:List am)(hok:∀s∈l,s.Ok)(hl:l.length≤64)(hs:au w g l):Calls Tryz.prog 127 #[zl g l.length c] w fun e w'=>e=.returned (ci (gd l l.length))∧Below w.heap.size w w':=by
 have HS:=qh hs;have HO:=qh hok;have B0:=qh (brf w);generalize hn:l.length=n at *;clear hs hok
 go_enter Tryz.func127,Tryz.ntmps127
 go_wp2
 go_loopw [3,8] (fun a i wr=>∃k:Nat,k≤n∧i=ci k∧a=ci (gd l k)∧Hd (Below w.heap.size w wr)) (fun _ i _=>n-(intOf i).toNat)
 case atStart=>exact⟨0,by omega,rfl,rfl,B0⟩
 case round=>
  obtain⟨k,hk,rfl,rfl,HB⟩:=hrel;by_cases hkn:k<n
  ·obtain⟨s,hs⟩:∃s,l[k]?=some s:=⟨l[k],by simp[hn,hkn]⟩;obtain⟨c0,c1,c2,c3,c4⟩:=au.c (HS.o.bel HB.o) hs;have hb1:gd l k≤64*k:=jq HO.o k;have hs2:=(HO.o s (dh hs)).w2;have t1:decide ((k:Int)<n)=true:=dqt (by omega);go_wp2
   go_roundw
   case rel=>exact⟨k+1,by omega,by go_num,by rw[ky hs];go_num,qh (HB.o.alloc HB.o.size _)⟩
   case measure=>simp only[intOf];omega
  ·have t1:decide ((k:Int)<n)=false:=dqf (by omega);have hkn':k=n:=by omega
   subst hkn';go_wp2;go_ret;exact⟨rfl,HB.o⟩
theorem ap{P:Program}{fn:Func}{p q:Tmp}{ty:TypeId}(h:fn.results=#[.cell p ty,.tmp q])(tmps:Array Value)(w:World)(g:Nat)(t:TypeId)(cs:Array Value)(fr:Nat × Nat)(d:TypeDesc)(hp:tmps.getD p undef=pt g)(hg:w.heap[g]?=some (.cells cs t fr))(hu:P.underlying ty=some d)(hd:(match d with | .struct _ | .array _ _=>true|_=>false)=true)(hi:(P.info? ty).map (·.size)=some cs.size):(results fn tmps).run P w=.ok (.tuple #[.agg cs,tmps.getD q undef]) w:=by
 have hp':tmps[p]?.getD undef=pt g:=by simpa using hp
 simp[results,h,hp',asAddr,run_loadVar_row w g t ty cs fr d hg hu hd hi]
theorem jr{P:Program}{fn:Func}{o p q:Tmp}{ty:TypeId}(h:fn.results=#[.tmp o,.cell p ty,.tmp q])(tmps:Array Value)(w:World)(g:Nat)(t:TypeId)(cs:Array Value)(fr:Nat × Nat)(d:TypeDesc)(hp:tmps.getD p undef=pt g)(hg:w.heap[g]?=some (.cells cs t fr))(hu:P.underlying ty=some d)(hd:(match d with | .struct _ | .array _ _=>true|_=>false)=true)(hi:(P.info? ty).map (·.size)=some cs.size):(results fn tmps).run P w=.ok (.tuple #[tmps.getD o undef,.agg cs,tmps.getD q undef]) w:=by
 have hp':tmps[p]?.getD undef=pt g:=by simpa using hp
 simp[results,h,hp',asAddr,run_loadVar_row w g t ty cs fr d hg hu hd hi]
theorem Row.c4{W:World}{b:Nat}{t:TypeId}{v0 v1 v2 v3:Value}(h:Row W b t #[v0,v1,v2,v3]):W.cell? (ae b 0)=some v0∧W.cell? (ae b 1)=some v1∧W.cell? (ae b 2)=some v2∧W.cell? (ae b 3)=some v3:=⟨h.cell rfl,h.cell rfl,h.cell rfl,h.cell rfl⟩
structure Cur where
 next:Nat
 cap:Int
 got:Int
 lost:Int
def Cur.cells(c:Cur):Array Value:=#[cu c.next,ci c.cap,cu c.got,cu c.lost]
def Cur.zero:Cur:=⟨0,0,0,0⟩
def Cur.rightB(c:Cur):Bool:=decide (1≤c.cap∧c.cap≤15∧c.next≤9223372036854775808)
theorem c3j(n:Int)(w:World):Calls Tryz.prog 130 #[ci n] w fun e w'=>e=.returned (.bool (decide (1≤n∧n≤15)))∧w=w':=by
 by_cases hc:1≤n
 ·have t1:decide (1≤n)=true:=dqt hc
  go_enter Tryz.func130,Tryz.ntmps130
  go_wp2;go_ret;exact⟨bq (by simp;omega),rfl⟩
 ·have HC:=qh hc;have t1:decide (1≤n)=false:=dqf hc
  go_enter Tryz.func130,Tryz.ntmps130
  go_wp2;go_ret;exact⟨bq (by simp),rfl⟩
theorem b2c(c:Cur)(w:World):Calls Tryz.prog 142 #[.agg c.cells] w fun e w'=>e=.returned (.bool c.rightB)∧Below w.heap.size w w':=by
 obtain⟨nx,cp,gt,lo⟩:=c;have hm:=c3j cp;have hB:=(brf w).alloc (nlr _) (.cells #[cu nx,ci cp,cu gt,cu lo] 166);simp only[Cur.cells,Cur.rightB] at *;by_cases c:1≤cp∧cp≤15
 ·rw[dqt c] at hm
  go_enter Tryz.func142,Tryz.ntmps142
  go_wp2_with (go_at_call 130;refine(hm _).mono ?_;rintro e w' ⟨rfl,rfl⟩)
  go_ret;exact⟨bq (by simp[c.1,c.2];omega),hB⟩
 ·rw[dqf c] at hm
  go_enter Tryz.func142,Tryz.ntmps142
  go_wp2_with (go_at_call 130;refine(hm _).mono ?_;rintro e w' ⟨rfl,rfl⟩)
  go_ret;exact⟨bq (by symm;exact dqf (fun h=>c ⟨h.1,h.2.1⟩)),hB⟩
theorem d0s(g:Nat)(hg:g≤1000000)(n:Int)(w:World):Calls Tryz.prog 86 #[cu g,ci n] w fun e w'=>∃c er,e=.returned (.tuple #[.agg (Cur.cells c),ci er])∧(er=0∨er=10)∧Below w.heap.size w w':=by
 have hm:=c3j n;have t1:decide ((9223372036854775808:Int)≤g)=false:=dqf (by omega);by_cases c:1≤n∧n≤15
 ·rw[dqt c] at hm
  go_enter Tryz.func86,Tryz.ntmps86
  go_wp2_with (go_at_call 130;refine(hm _).mono ?_;rintro e w' ⟨rfl,rfl⟩)
  refine bodyPost_ret (ap rfl _ _ w.heap.size 166 #[cu (g+1),ci n,cu 0,cu 0] (0,0) _ rfl (heap_alloc_new _ _) Tryz.underlying166 rfl (by kernel_rfl)) rfl ?_;exact⟨⟨g+1,n,0,0⟩,_,rfl,Or.inl rfl,(Below.refl _ _).alloc (nlr _) _⟩
 ·rw[dqf c] at hm
  go_enter Tryz.func86,Tryz.ntmps86
  go_wp2_with (go_at_call 130;refine(hm _).mono ?_;rintro e w' ⟨rfl,rfl⟩)
  refine bodyPost_ret (ap rfl _ _ w.heap.size 166 #[cu 0,ci 0,cu 0,cu 0] (0,0) _ rfl (heap_alloc_new _ _) Tryz.underlying166 rfl (by kernel_rfl)) rfl ?_;exact⟨⟨0,0,0,0⟩,_,rfl,Or.inr rfl,(Below.refl _ _).alloc (nlr _) _⟩
theorem m4(c:Cur)(g:Nat)(hg:g≤1000000):∃(c':Cur)(er:Int),(er=0∨er=1)∧∀w,Calls Tryz.prog 96 #[.agg c.cells,cu g] w fun e w'=>e=.returned (.tuple #[.agg (Cur.cells c'),ci er])∧Below w.heap.size w w':=by
 have hr:=b2c c;have t2:decide ((9223372036854775808:Int)≤g)=false:=dqf (by omega);by_cases hR:c.rightB=true
 ·rw[hR] at hr;unfold Cur.rightB at hR;obtain⟨nx,cp,gt,lo⟩:=c;have hR2:=of_decide_eq_true hR;obtain⟨q1,q2,q3⟩:=hR2;simp only[Cur.cells] at *;clear hR;by_cases hlt:g<nx
  ·have t3:decide ((g:Int)<nx)=true:=dqt (by omega);refine⟨⟨nx,cp,gt,lo⟩,0,Or.inl rfl,fun w=>?_⟩;have B1:=af (af (brf w) (.cells #[cu nx,ci cp,cu gt,cu lo] 166)) (.cells #[cu 0,ci 0,cu 0,cu 0] 166);have R1:=(Row.new w 166 #[cu nx,ci cp,cu gt,cu lo]).alloc (.cells #[cu 0,ci 0,cu 0,cu 0] 166);have R2:Row ((w.alloc (.cells #[cu nx,ci cp,cu gt,cu lo] 166)).alloc (.cells #[cu 0,ci 0,cu 0,cu 0] 166)) (w.heap.size+1) 166 #[cu 0,ci 0,cu 0,cu 0]:=by simpa using Row.new (w.alloc (.cells #[cu nx,ci cp,cu gt,cu lo] 166)) 166 #[cu 0,ci 0,cu 0,cu 0]
   have KEEP:∀{W W':World},Below w.heap.size w W→ab [w.heap.size,w.heap.size+1] W W'→Below w.heap.size w W':=fun hb hs=>hb.trans (hs.below hb.size (by simp))
   go_enter Tryz.func96,Tryz.ntmps96
   go_wp2_with (go_at_call 142;refine(hr _).mono ?_;rintro e w' ⟨rfl,hb1⟩;have B2:=bt B1 hb1;have r1:=R1.bel hb1;have r2:=R2.bel hb1;obtain⟨c0,c1,c2,c3⟩:=r1.c4;have fr:=r1.free;obtain⟨d0,d1,d2,d3⟩:=r2.c4;have fr2:=r2.free;have RR1:=qh r1;have RR2:=qh r2;have BB2:=qh B2;clear R1 R2 B1 hb1 r1 r2 B2)
   refine bodyPost_ret (ap rfl _ _ (w.heap.size+1) 166 _ (0,0) _ rfl ((((RR2.o.set 0 _).set 1 _).set 2 _).set 3 _).at_ Tryz.underlying166 rfl (by kernel_rfl)) rfl ?_;exact⟨rfl,KEEP BB2.o (((((ab.refl [w.heap.size,w.heap.size+1] w').setCell (by simp) _).setCell (by simp) _).setCell (by simp) _).setCell (by simp) _)⟩
  ·have t3:decide ((g:Int)<nx)=false:=dqf (by omega);have hge:nx≤g:=by omega
   by_cases hw:cp<(g:Int)-nx+1
   ·have t4:decide (cp<(g:Int)-nx+1)=true:=dqt hw;obtain⟨k,hk⟩:∃k:Nat,(nx:Int)+((g:Int)-nx+1-cp)=k:=⟨((nx:Int)+((g:Int)-nx+1-cp)).toNat,by omega⟩;have HK:=qh hk;clear hk;refine⟨⟨k,cp,gt,IntKind.u64.wrap (lo+(↑g - ↑nx+1-cp))⟩,0,Or.inl rfl,fun w=>?_⟩;have B1:=af (af (brf w) (.cells #[cu nx,ci cp,cu gt,cu lo] 166)) (.cells #[cu 0,ci 0,cu 0,cu 0] 166);have R1:=(Row.new w 166 #[cu nx,ci cp,cu gt,cu lo]).alloc (.cells #[cu 0,ci 0,cu 0,cu 0] 166);have R2:Row ((w.alloc (.cells #[cu nx,ci cp,cu gt,cu lo] 166)).alloc (.cells #[cu 0,ci 0,cu 0,cu 0] 166)) (w.heap.size+1) 166 #[cu 0,ci 0,cu 0,cu 0]:=by simpa using Row.new (w.alloc (.cells #[cu nx,ci cp,cu gt,cu lo] 166)) 166 #[cu 0,ci 0,cu 0,cu 0]
    have KEEP:∀{W W':World},Below w.heap.size w W→ab [w.heap.size,w.heap.size+1] W W'→Below w.heap.size w W':=fun hb hs=>hb.trans (hs.below hb.size (by simp))
    go_enter Tryz.func96,Tryz.ntmps96
    go_wp2_with (go_at_call 142;refine(hr _).mono ?_;rintro e w' ⟨rfl,hb1⟩;have B2:=bt B1 hb1;have r1:=R1.bel hb1;have r2:=R2.bel hb1;obtain⟨c0,c1,c2,c3⟩:=r1.c4;have fr:=r1.free;obtain⟨d0,d1,d2,d3⟩:=r2.c4;have fr2:=r2.free;have RR1:=qh r1;have RR2:=qh r2;have BB2:=qh B2;clear R1 R2 B1 hb1 r1 r2 B2)
    go_quiet (fail)
    go_wp2;refine bodyPost_ret (ap rfl _ _ (w.heap.size+1) 166 _ (0,0) _ rfl (((((((RR2.o.drewN _).other (a:=⟨w.heap.size,0,none⟩) (show w.heap.size+1≠w.heap.size by omega) _).other (a:=⟨w.heap.size,3,none⟩) (show w.heap.size+1≠w.heap.size by omega) _).set 0 _).set 1 _).set 2 _).set 3 _).at_ Tryz.underlying166 rfl (by kernel_rfl)) rfl ?_;exact⟨by rw[←HK.o];rfl,KEEP BB2.o ((((((((ab.refl [w.heap.size,w.heap.size+1] w').drewN _).setCell (by simp) _).setCell (by simp) _).setCell (by simp) _).setCell (by simp) _).setCell (by simp) _).setCell (by simp) _)⟩
   ·have t4:decide (cp<(g:Int)-nx+1)=false:=dqf hw;refine⟨⟨nx,cp,gt,lo⟩,0,Or.inl rfl,fun w=>?_⟩;have B1:=af (af (brf w) (.cells #[cu nx,ci cp,cu gt,cu lo] 166)) (.cells #[cu 0,ci 0,cu 0,cu 0] 166);have R1:=(Row.new w 166 #[cu nx,ci cp,cu gt,cu lo]).alloc (.cells #[cu 0,ci 0,cu 0,cu 0] 166);have R2:Row ((w.alloc (.cells #[cu nx,ci cp,cu gt,cu lo] 166)).alloc (.cells #[cu 0,ci 0,cu 0,cu 0] 166)) (w.heap.size+1) 166 #[cu 0,ci 0,cu 0,cu 0]:=by simpa using Row.new (w.alloc (.cells #[cu nx,ci cp,cu gt,cu lo] 166)) 166 #[cu 0,ci 0,cu 0,cu 0]
    have KEEP:∀{W W':World},Below w.heap.size w W→ab [w.heap.size,w.heap.size+1] W W'→Below w.heap.size w W':=fun hb hs=>hb.trans (hs.below hb.size (by simp))
    go_enter Tryz.func96,Tryz.ntmps96
    go_wp2_with (go_at_call 142;refine(hr _).mono ?_;rintro e w' ⟨rfl,hb1⟩;have B2:=bt B1 hb1;have r1:=R1.bel hb1;have r2:=R2.bel hb1;obtain⟨c0,c1,c2,c3⟩:=r1.c4;have fr:=r1.free;obtain⟨d0,d1,d2,d3⟩:=r2.c4;have fr2:=r2.free;have RR1:=qh r1;have RR2:=qh r2;have BB2:=qh B2;clear R1 R2 B1 hb1 r1 r2 B2)
    go_quiet (fail)
    go_wp2;refine bodyPost_ret (ap rfl _ _ (w.heap.size+1) 166 _ (0,0) _ rfl (((((RR2.o.drewN _).set 0 _).set 1 _).set 2 _).set 3 _).at_ Tryz.underlying166 rfl (by kernel_rfl)) rfl ?_;exact⟨rfl,KEEP BB2.o ((((((ab.refl [w.heap.size,w.heap.size+1] w').drewN _).setCell (by simp) _).setCell (by simp) _).setCell (by simp) _).setCell (by simp) _)⟩
 ·rw[show c.rightB=false by simpa using hR] at hr;obtain⟨nx,cp,gt,lo⟩:=c;simp only[Cur.cells] at *;clear hR;refine⟨⟨0,0,0,0⟩,1,Or.inr rfl,fun w=>?_⟩;have B1:=af (af (brf w) (.cells #[cu nx,ci cp,cu gt,cu lo] 166)) (.cells #[cu 0,ci 0,cu 0,cu 0] 166);have R1:=(Row.new w 166 #[cu nx,ci cp,cu gt,cu lo]).alloc (.cells #[cu 0,ci 0,cu 0,cu 0] 166);have R2:Row ((w.alloc (.cells #[cu nx,ci cp,cu gt,cu lo] 166)).alloc (.cells #[cu 0,ci 0,cu 0,cu 0] 166)) (w.heap.size+1) 166 #[cu 0,ci 0,cu 0,cu 0]:=by simpa using Row.new (w.alloc (.cells #[cu nx,ci cp,cu gt,cu lo] 166)) 166 #[cu 0,ci 0,cu 0,cu 0]
  have KEEP:∀{W W':World},Below w.heap.size w W→ab [w.heap.size,w.heap.size+1] W W'→Below w.heap.size w W':=fun hb hs=>hb.trans (hs.below hb.size (by simp))
  go_enter Tryz.func96,Tryz.ntmps96
  go_wp2_with (go_at_call 142;refine(hr _).mono ?_;rintro e w' ⟨rfl,hb1⟩;have B2:=bt B1 hb1;have r1:=R1.bel hb1;have r2:=R2.bel hb1;obtain⟨c0,c1,c2,c3⟩:=r1.c4;have fr:=r1.free;obtain⟨d0,d1,d2,d3⟩:=r2.c4;have fr2:=r2.free;have RR1:=qh r1;have RR2:=qh r2;have BB2:=qh B2;clear R1 R2 B1 hb1 r1 r2 B2)
  refine bodyPost_ret (ap rfl _ _ (w.heap.size+1) 166 _ (0,0) _ rfl ((((RR2.o.set 0 _).set 1 _).set 2 _).set 3 _).at_ Tryz.underlying166 rfl (by kernel_rfl)) rfl ?_;exact⟨rfl,KEEP BB2.o (((((ab.refl [w.heap.size,w.heap.size+1] w').setCell (by simp) _).setCell (by simp) _).setCell (by simp) _).setCell (by simp) _)⟩
theorem c7i(c:Cur)(g:Nat)(hg:g≤1000000)(w:World):Calls Tryz.prog 96 #[.agg c.cells,cu g] w fun e w'=>∃c' er,e=.returned (.tuple #[.agg (Cur.cells c'),ci er])∧(er=0∨er=1)∧Below w.heap.size w w':=by
 obtain⟨c',er,h1,h2⟩:=m4 c g hg;exact(h2 w).mono fun e w' h=>⟨c',er,h.1,h1,h.2⟩
theorem uz{l:List Nat}{i:Nat}(h:i<l.length):wat l i∈l:=by
 rw[wat,List.getD_eq_getElem?_getD,cz h];simp
end Go.Proofs.YtojkaibpfdhmaaaGreatDoor

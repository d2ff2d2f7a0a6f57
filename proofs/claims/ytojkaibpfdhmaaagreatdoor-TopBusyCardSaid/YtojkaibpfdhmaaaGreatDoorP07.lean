/- Contracts of package snap: the steps. -/
import Derived.Test.YtojkaibpfdhmaaaGreatDoorP04
namespace Go.Proofs.YtojkaibpfdhmaaaGreatDoor
open Go.RowKit
set_option maxRecDepth 100000
set_option maxHeartbeats 16000000
theorem b9z(n lo hi:Int)(h0:lo≤n)(h1:n≤hi)(w:World):Calls Tryz.prog 208 #[ci n,ci lo,ci hi] w fun e w'=>e=.returned (.bool true)∧w=w':=by
 have t1:decide (lo≤n)=true:=dqt h0;have t2:decide (n≤hi)=true:=dqt h1
 go_enter Tryz.func208,Tryz.ntmps208
 go_wp2;go_ret;exact⟨rfl,rfl⟩
theorem c4f(s:am)(h:s.Ok)(w:World):Calls Tryz.prog 171 #[.agg s.cells] w fun e w'=>e=.returned (.bool true)∧Below w.heap.size w w':=by
 obtain⟨o,q,f,wd,d⟩:=s;obtain⟨h1,h2,h3,h4,h5,h6,h7⟩:=h;simp only[am.cells] at *;have hB:=(brf w).alloc (nlr _) (.cells #[ci o,ci q,ci f,ci wd,ci d] 112)
 go_enter Tryz.func171,Tryz.ntmps171
 go_wp2_with (first|(go_at_call 208;refine(b9z _ _ _ ?_ ?_ _).mono ?_;omega;omega;rintro e w' ⟨rfl,rfl⟩))
 go_ret;exact⟨rfl,hB⟩
theorem d0a(s:am)(h:s.Ok)(w:World):Calls Tryz.prog 170 #[.agg s.cells] w fun e w'=>e=.returned (.bool false)∧Below w.heap.size w w':=by
 have hr:=c4f s h;obtain⟨o,q,f,wd,d⟩:=s;simp only[am.cells] at *;have hB:=(brf w).alloc (nlr _) (.cells #[ci o,ci q,ci f,ci wd,ci d] 112)
 go_enter Tryz.func170,Tryz.ntmps170
 go_wp2_with (first|(go_at_call 171;refine(hr _).mono ?_;rintro e w1 ⟨rfl,hb1⟩;have HB:=hB.trans (hb1.mono hB.size);clear hB hb1))
 go_ret;exact⟨rfl,HB⟩
theorem c4g(w:World)(g c:Nat)(l:List am)(hok:∀s∈l,s.Ok)(hs:au w g l)(hl:l.length≤1000):Calls Tryz.prog 207 #[zl g l.length c,.func (.func 170) #[] #[]] w fun e w'=>e=.returned (ci (-1))∧Below w.heap.size w w':=by
 have HS:=qh hs;have HO:=qh hok;have B0:=qh (brf w);generalize hn:l.length=n at *;clear hs hok
 go_enter Tryz.func207,Tryz.ntmps207
 go_wp2
 go_loopw [8] (fun i wr=>∃k:Nat,k≤n∧i=ci k∧Hd (Below w.heap.size w wr)) (fun i _=>n-(intOf i).toNat)
 case atStart=>exact⟨0,by omega,rfl,B0⟩
 case round=>
  obtain⟨k,hk,rfl,HB⟩:=hrel;by_cases hkn:k<n
  ·obtain⟨s,hs⟩:∃s,l[k]?=some s:=⟨l[k],by simp[hn,hkn]⟩;obtain⟨c0,c1,c2,c3,c4⟩:=au.c (HS.o.bel HB.o) hs;have hb:=d0a s (HO.o s (dh hs));simp only[am.cells] at hb;have t1:decide ((k:Int)<n)=true:=dqt (by omega);have i0:(0:Int)≤k:=by omega
   have i1:(k:Int)<n:=by omega
   go_wp2_with (first|(go_at_call 170;refine(hb _).mono ?_;rintro e w1 ⟨rfl,hb1⟩;have HB2:=qh (bt HB.o hb1);clear hb1))
   go_roundw
   case rel=>exact⟨k+1,by omega,by go_num,HB2⟩
   case measure=>simp only[intOf];omega
  ·have t1:decide ((k:Int)<n)=false:=dqf (by omega);have hkn':k=n:=by omega
   subst hkn';go_wp2;go_ret;exact⟨rfl,HB.o⟩
theorem b4k(w:World)(g c:Nat)(l:List am)(hok:∀s∈l,s.Ok)(hs:au w g l)(hl:l.length≤1000):Calls Tryz.prog 169 #[zl g l.length c,.func (.func 170) #[] #[]] w fun e w'=>e=.returned (.bool false)∧Below w.heap.size w w':=by
 have h:=c4g w g c l hok hs hl
 go_enter Tryz.func169,Tryz.ntmps169
 go_wp2_with (first|(go_at_call 207;refine h.mono ?_;rintro e w1 ⟨rfl,hb1⟩;clear h))
 go_ret;exact⟨rfl,hb1⟩
theorem b4l(w:World)(g c:Nat)(l:List am)(hok:∀s∈l,s.Ok)(hs:au w g l)(h1:1≤l.length)(hl:l.length≤64)(t:Nat)(ht1:1≤t)(ht2:t≤16):Calls Tryz.prog 125 #[zl g l.length c,ci t] w fun e w'=>e=.returned (ci 0)∧Below w.heap.size w w':=by
 have h:=b4k w g c l hok hs (by omega);have t1:decide ((l.length:Int)<1)=false:=dqf (by omega);have t2:decide ((64:Int)<l.length)=false:=dqf (by omega);have t3:decide ((t:Int)<1)=false:=dqf (by omega);have t4:decide ((16:Int)<t)=false:=dqf (by omega);clear hs hok;generalize l.length=n at *
 go_enter Tryz.func125,Tryz.ntmps125
 go_wp2_with (first|(go_at_call 169;refine h.mono ?_;rintro e w1 ⟨rfl,hb1⟩;clear h))
 go_ret;exact⟨rfl,hb1⟩
theorem c0a(w:World)(g c:Nat)(l:List am)(hok:∀s∈l,s.Ok)(hs:au w g l)(h1:1≤l.length)(hl:l.length≤64)(t:Nat)(ht1:1≤t)(ht2:t≤16):Calls Tryz.prog 78 #[zl g l.length c,ci t] w fun e w'=>∃n,e=.returned (ci n)∧Below w.heap.size w w':=by
 have h:=b4l w g c l hok hs h1 hl t ht1 ht2;have HS:=qh hs;have HO:=qh hok;clear hs hok
 go_enter Tryz.func78,Tryz.ntmps78
 go_wp2_with (first|(go_at_call 125;refine h.mono ?_;rintro e w1 ⟨rfl,hb1⟩;have HB:=qh hb1;clear h hb1)|(go_at_call 127;refine(b3u _ g c l HO.o hl (HS.o.bel HB.o)).mono ?_;rintro e w2 ⟨rfl,hb2⟩;have HB2:=bt HB.o hb2;clear hb2))
 go_ret;exact⟨_,rfl,HB2⟩
structure SOp where
 tries:Nat
 done:Nat
 begun:Nat
 steps:Nat
 how:Nat
def SOp.cells(o:SOp)(g c n D1 D2 m:Nat):Array Value:=#[zl g n c,ci o.tries,ci o.done,zl D1 n n,zl D2 m m,ci o.begun,ci o.steps,ci o.how]
theorem c4h(w:World)(g c:Nat)(l:List am)(hok:∀s∈l,s.Ok)(hs:au w g l)(h1:1≤l.length)(hl:l.length≤64)(t:Nat)(ht1:1≤t)(ht2:t≤16):Calls Tryz.prog 77 #[zl g l.length c,ci t] w fun e w'=>∃P g2 c2 D1 D2,e=.returned (.tuple #[pt P,ci 0])∧Below w.heap.size w w' ∧
   w.heap.size≤P∧w.heap.size≤g2∧w.heap.size≤D1∧w.heap.size≤D2∧D1≠D2∧au w' g2 l∧Row w' P 220 (SOp.cells ⟨t,0,0,0,0⟩ g2 c2 l.length D1 D2 (gd l l.length))∧Row w' D1 41 (bj (List.replicate l.length 0))∧Row w' D2 41 (bj (List.replicate (gd l l.length) 0)):=by
 have h:=b4l w g c l hok hs h1 hl t ht1 ht2;have hwid:=fun W hb=>b3u W g c l hok hl (Arr.bel hs hb);have hwl:=jq hok l.length;have hmk:=fun W=>j9 W l.length (by omega);have hmk2:=fun W=>j9 W (gd l l.length) (by omega)
 have hcl:∀W,Below w.heap.size w W→Calls Tryz.prog 126 #[zl g l.length c] W fun e w'=>∃g2 c2,e=.returned (zl g2 l.length c2)∧Below W.heap.size W w'∧W.heap.size≤g2∧au w' g2 l:=fun W hb=>by
  refine(c2k W ⟨g,0,none⟩ l.length c (l.flatMap am.enc) (ik am.enc_len l) ?_ (am.enc_one l) (by omega)).mono ?_
  ·have hh:=(Arr.bel hs hb).has am.enc_len c;rcases hh.shape with ⟨h0,_⟩|⟨a',c',h0,h2⟩
   ·cases h0
   ·cases h0;exact h2
  ·rintro e w' ⟨g,cap,cur,h1,h2,h3,h4,h5,h6,h7,h8⟩;exact⟨g,cap,h1,h2,h3,⟨cur,h4,h8⟩⟩
 have HCL:=qh hcl;have HW:=qh hwid;simp only[SOp.cells] at *;generalize hm:gd l l.length=m at *;generalize hn:l.length=n at *;generalize hU1:bj (List.replicate n 0)=U1 at *;generalize hU2:bj (List.replicate m 0)=U2 at *;clear hok hs hcl hwid hm hn hU1 hU2
 go_enter Tryz.func77,Tryz.ntmps77
 go_wp2_with (first|(go_at_call 125;refine h.mono ?_;rintro e w1 ⟨rfl,hb1⟩;have HB:=qh hb1;clear h hb1))
 have BK0:=(brf w1).drew
 go_region_held3 (fun W=>Below w1.heap.size w1 W)
  (first|(with_reducible exact BK0)|(with_reducible assumption)|(with_reducible exact bt (by assumption) hbB)|(with_reducible exact bt (by assumption) hbA)|(with_reducible exact af (by assumption) _)|(with_reducible exact mc (by assumption) _))
  (first|(go_at_call 126;refine(HCL.o _ (bt HB.o (by assumption))).mono ?_;rintro e wA ⟨g2,c2,rfl,hbA,hg2,hsp⟩)|(go_at_call 127;refine(HW.o _ (bt HB.o (by assumption))).mono ?_;rintro e wB ⟨rfl,hbB⟩))
 ·rename_i hK
  have hb1:=qh (bt HB.o hK);have hsz:=HB.o.size;have hA:=hbA.size;have hB2:=hbB.size;have hg2':=hg2;have ed:∀W:World,W.drew.heap.size=W.heap.size:=fun _=>rfl;simp only[ed,World.size_alloc] at hA hB2 hg2';have HSP:=qh (((hsp.alloc (.cells U1 41)).bel hbB).alloc (.cells U2 41));have HD1:=qh (((Row.new wA 41 U1).bel hbB).alloc (.cells U2 41));have HD2:=qh (Row.new wB 41 U2);clear hK hbA hbB hsp hg2;go_wp2
  go_ret2
  refine⟨wB.heap.size+1,g2,c2,wA.heap.size,wB.heap.size,rfl,hb1.o,by omega,by omega,by omega,by omega,by omega,HSP.o.alloc _,?_,?_,?_⟩
  ·have:=Row.new (wB.alloc (.cells U2 41)) 220 #[zl g2 n c2,ci t,ci 0,zl wA.heap.size n n,zl wB.heap.size m m,ci 0,ci 0,ci 0]
   simpa using this
  ·simpa using HD1.o.alloc _
  ·simpa using HD2.o.alloc _
 ·rename_i hK
  have hb1:=qh (bt HB.o hK);have hsz:=HB.o.size;have hA:=hbA.size;have hB2:=hbB.size;have hg2':=hg2;have ed:∀W:World,W.drew.heap.size=W.heap.size:=fun _=>rfl;simp only[ed] at hA hB2 hg2';have HSP:=qh (((hsp.bel hbB).alloc (.cells U1 41)).alloc (.cells U2 41));have HD1:=qh ((Row.new wB 41 U1).alloc (.cells U2 41));have HD2:=qh (Row.new (wB.alloc (.cells U1 41)) 41 U2);clear hK hbA hbB hsp hg2;go_wp2
  go_ret2
  refine⟨wB.heap.size+1+1,g2,c2,wB.heap.size,wB.heap.size+1,rfl,hb1.o,by omega,by omega,by omega,by omega,by omega,HSP.o.alloc _,?_,?_,?_⟩
  ·have:=Row.new ((wB.alloc (.cells U1 41)).alloc (.cells U2 41)) 220 #[zl g2 n c2,ci t,ci 0,zl wB.heap.size n n,.slice (some ⟨wB.heap.size+1,0,none⟩) m m,ci 0,ci 0,ci 0]
   simpa using this
  ·simpa using HD1.o.alloc _
  ·simpa using HD2.o.alloc _
 ·rename_i hK
  have hb1:=qh (bt HB.o hK);have hsz:=HB.o.size;have hA:=hbA.size;have hB2:=hbB.size;have hg2':=hg2;have ed:∀W:World,W.drew.heap.size=W.heap.size:=fun _=>rfl;simp only[ed] at hA hB2 hg2';have HSP:=qh (((hsp.bel hbB).alloc (.cells U2 41)).alloc (.cells U1 41));have HD1:=qh (Row.new (wB.alloc (.cells U2 41)) 41 U1);have HD2:=qh ((Row.new wB 41 U2).alloc (.cells U1 41));clear hK hbA hbB hsp hg2;go_wp2
  go_ret2
  refine⟨wB.heap.size+1+1,g2,c2,wB.heap.size+1,wB.heap.size,rfl,hb1.o,by omega,by omega,by omega,by omega,by omega,HSP.o.alloc _,?_,?_,?_⟩
  ·have:=Row.new ((wB.alloc (.cells U2 41)).alloc (.cells U1 41)) 220 #[zl g2 n c2,ci t,ci 0,.slice (some ⟨wB.heap.size+1,0,none⟩) n n,zl wB.heap.size m m,ci 0,ci 0,ci 0]
   simpa using this
  ·simpa using HD1.o.alloc _
  ·simpa using HD2.o.alloc _
 ·rename_i hK
  have hb1:=qh (bt HB.o hK);have hsz:=HB.o.size;have hA:=hbA.size;have hB2:=hbB.size;have hg2':=hg2;have ed:∀W:World,W.drew.heap.size=W.heap.size:=fun _=>rfl;simp only[ed,World.size_alloc] at hA hB2 hg2';have HSP:=qh ((hsp.bel hbB).alloc (.cells U2 41));have HD1:=qh (((((Row.new w1 41 U1).drew).bel hbA).bel hbB).alloc (.cells U2 41));have HD2:=qh (Row.new wB 41 U2);clear hK hbA hbB hsp hg2;go_wp2
  go_ret2
  refine⟨wB.heap.size+1,g2,c2,w1.heap.size,wB.heap.size,rfl,hb1.o,by omega,by omega,by omega,by omega,by omega,HSP.o.alloc _,?_,?_,?_⟩
  ·have:=Row.new (wB.alloc (.cells U2 41)) 220 #[zl g2 n c2,ci t,ci 0,zl w1.heap.size n n,zl wB.heap.size m m,ci 0,ci 0,ci 0]
   simpa using this
  ·simpa using HD1.o.alloc _
  ·simpa using HD2.o.alloc _
theorem c2e(w:World)(P g c D1 D2 m:Nat)(l:List am)(gs:List Nat)(o:SOp)(hok:∀s∈l,s.Ok)(hl:l.length≤64)(hg:gs.length=l.length)(hs:au w g l)(hr:Row w P 220 (o.cells g c l.length D1 D2 m))(hD:Row w D1 41 (bj gs))(n0:Nat)(hn0:n0<gd l l.length):Calls Tryz.prog 281 #[pt P,ci n0] w fun e w'=>∃(k:Nat)(s:am)(n:Nat),l[k]?=some s∧n<s.words∧e=.returned (ci (s.place (wat gs k)+n:Nat))∧Below w.heap.size w w':=by
 simp only[SOp.cells] at hr;obtain⟨c0,-,-,c3,-⟩:=hr.c8;have HR:=qh hr;have HD:=qh hD;have HS:=qh hs;have HO:=qh hok;have HG:=qh hg;have HN:=qh hn0;have B0:=qh (brf w);generalize hn:l.length=n at *;have HL:=qh hn;clear hs hok hr hD hg hn0 hn
 go_enter Tryz.func281,Tryz.ntmps281
 go_wp2;clear c0 c3
 go_loopw [1,12] (fun a i wr=>∃k n':Nat,k≤n∧i=ci k∧a=ci n'∧n'+gd l k=n0∧Hd (Below w.heap.size w wr)) (fun _ i _=>n-(intOf i).toNat)
 case atStart=>exact⟨0,n0,by omega,rfl,rfl,by simp[gd],B0⟩
 case round=>
  obtain⟨k,n',hk,rfl,rfl,hsum,HB⟩:=hrel
  have hkn:k<n:=by
   rcases Nat.lt_or_ge k n with h|h
   ·exact h
   ·have h1:k=n:=by omega
    have h2:=HN.o;subst h1;omega
  obtain⟨s,hs⟩:∃s,l[k]?=some s:=⟨l[k]'(by have:=HL.o;omega),by simp[HL.o,hkn]⟩;obtain⟨c0,c1,c2,c3,c4⟩:=au.c (HS.o.bel HB.o) hs;obtain⟨d0,-,-,d3,-⟩:=(HR.o.bel HB.o).c8;have dk:=(HD.o.bel HB.o).cell (ej gs (i:=k) (by have:=HG.o;omega));have hso:=HO.o s (dh hs);have hat:=b0z s hso;have hw2:=hso.w2;have hlt:=(HR.o.bel HB.o).lt;have hlt2:=(HD.o.bel HB.o).lt;have hbw:gd l k≤64*k:=jq HO.o k;have hsu:=ky hs;have hnb:n'≤5000:=by have h1:=HN.o;have h2:gd l n≤64*n:=jq HO.o n;omega
  have hpl:s.place (wat gs k)≤2000000:=by
   have:=s.place_lt hso (wat gs k);have:=hso.w2;have:=hso.d2;have:=hso.f;have:s.words*s.depth≤64*16:=Nat.mul_le_mul (by omega) (by omega);omega
  have HSO:=qh hso;have HSU:=qh hsu;have HSK:=qh hs;obtain⟨o1,q1,f1,wd,d⟩:=s;simp only[am.cells] at hat;have t1:decide ((k:Int)<n)=true:=dqt (by omega);have i0:(0:Int)≤k:=by omega
  have i1:(k:Int)<n:=by omega
  clear hso hsu hs;by_cases hw:n'<wd
  ·have t2:decide ((n':Int)<wd)=true:=dqt (by omega);go_wp2_with fail;have B4:=af HB.o (.cells #[ci o1,ci q1,ci f1,ci wd,ci d] 112);have R4:=HR.o.bel B4;have DD4:=HD.o.bel B4;have r4:=Row.new wr 112 #[ci o1,ci q1,ci f1,ci wd,ci d];generalize wr.alloc (.cells #[ci o1,ci q1,ci f1,ci wd,ci d] 112)=w4 at *;clear c0 c1 c2 c3 c4 d0 d3 dk;obtain⟨e0,e1,e2,e3,e4⟩:=r4.c5;obtain⟨-,-,-,d3,-⟩:=R4.c8;have dk:=DD4.cell (ej gs (i:=k) (by have:=HG.o;omega));have E0:=ag.cell e0;have E1:=ag.cell e1;have E2:=ag.cell e2;have E3:=ag.cell e3;have E4:=ag.cell e4;have F3:=ag.cell d3;have FK:=ag.cell dk;have HB4:=qh B4;clear r4 R4 DD4 e0 e1 e2 e3 e4 d3 dk B4;refine aq (fun w'=>∃g:ag w4,w'=g.to) 11 (by kernel_rfl) (by kernel_rfl) (ag.start _) ?_;simp only[List.take_succ_cons,List.take_zero,List.drop_succ_cons,List.drop_zero]
   repeat (go_big_quiet_step ((go_at_call 139;exact Calls.later (hat _ _))))
   refine wpQuiet_nil ?_;rintro _ ⟨gg,rfl⟩;have hbl:=bt HB4.o gg.2;go_wp2;go_ret;exact⟨k,_,n',HSK.o,hw,nr (by omega),hbl⟩
  ·have t2:decide ((n':Int)<wd)=false:=dqf (by omega);go_wp2_with fail
   go_roundw
   case rel=>
    have h2:=HSU.o;simp only at h2 hw2;exact⟨k+1,n'-wd,by omega,by go_num,by go_num,by omega,qh (HB.o.alloc HB.o.size _)⟩
   case measure=>simp only[intOf];omega
theorem ll{l:List am}(h:∀s∈l,s.Ok):l.length≤gd l l.length:=by
 have key:∀k,k≤l.length→k≤gd l k:=by
  intro k
  induction k with
  | zero=>intro _;omega
  | succ k ih=>
   intro hk;have hs:l[k]?=some (l[k]'(by omega)):=by simp
   have h1:=(h _ (dh hs)).w1;have h2:=ih (by omega);rw[ky hs];omega
 exact key _ (nlr _)
structure ij(W:World)(P B A g c D1 D2 m:Nat)(l:List am)(o:SOp)(ws gs us:List Nat):Prop where
 hb:bv W B A ws
 ok:∀s∈l,s.Ok
 fit:∀s∈l,s.seq<ws.length∧s.first+s.words*s.depth≤ws.length
 h64:l.length≤64
 h1:1≤l.length
 hm:m=gd l l.length
 hg:gs.length=l.length
 hu:us.length=m
 sp:au W g l
 d1:Row W D1 41 (bj gs)
 d2:Row W D2 41 (bj us)
 n1:D1≠A
 n2:D2≠A
 n3:D1≠D2
 row:Row W P 220 (o.cells g c l.length D1 D2 m)
section
variable{W W':World}{P B A g c D1 D2 m:Nat}{l:List am}{o o':SOp}{ws ws' gs us gs' us':List Nat}
theorem ij.ne(h:ij W P B A g c D1 D2 m l o ws gs us):P≠B∧P≠A∧D1≠B∧D2≠B∧g≠B∧g≠A∧P≠D1∧P≠D2∧g≠P∧g≠D1∧g≠D2:=by
 obtain⟨k,hk⟩:=h.hb.hd;obtain⟨cur,hg,_⟩:=h.sp.ex;refine⟨?_,?_,?_,?_,?_,?_,?_,?_,?_,?_,?_⟩<;>intro e<;>subst e
 ·exact absurd (h.row.inj hk).1 (by decide)
 ·exact absurd (h.row.inj h.hb.wd).1 (by decide)
 ·exact absurd (h.d1.inj hk).1 (by decide)
 ·exact absurd (h.d2.inj hk).1 (by decide)
 ·exact absurd (hg.inj hk).1 (by decide)
 ·exact absurd (hg.inj h.hb.wd).1 (by decide)
 ·exact absurd (h.row.inj h.d1).1 (by decide)
 ·exact absurd (h.row.inj h.d2).1 (by decide)
 ·exact absurd (hg.inj h.row).1 (by decide)
 ·exact absurd (hg.inj h.d1).1 (by decide)
 ·exact absurd (hg.inj h.d2).1 (by decide)
theorem ij.to(h:ij W P B A g c D1 D2 m l o ws gs us)(hs:ab [B,D1,D2,P] W W')(hb:bv W' B A ws)(hg:gs'.length=gs.length)(hu:us'.length=us.length)(r:Row W' P 220 (o'.cells g c l.length D1 D2 m))(r1:Row W' D1 41 (bj gs'))(r2:Row W' D2 41 (bj us')):ij W' P B A g c D1 D2 m l o' ws gs' us':=by
 obtain⟨-,-,-,-,n5,n6,-,-,n9,n10,n11⟩:=h.ne;exact⟨hb,h.ok,h.fit,h.h64,h.h1,h.hm,hg.trans h.hg,hu.trans h.hu,h.sp.same hs (by simp;exact⟨n5,n10,n11,n9⟩),r1,r2,h.n1,h.n2,h.n3,r⟩
end
theorem b4i(w:World)(P B A g c D1 D2 m:Nat)(l:List am)(ws gs us:List Nat)(t k b st:Nat)(s:am)(hk:l[k]?=some s)(hk1:k+1≠l.length)(hst:st≤100000)(H:ij w P B A g c D1 D2 m l ⟨t,k,b,st,0⟩ ws gs us):Calls Tryz.prog 280 #[pt P,pt B] w fun e w'=>e=.returned (ci 0)∧ab [B,D1,D2,P] w w'∧ij w' P B A g c D1 D2 m l ⟨t,k+1,b,st+1,0⟩ ws (gs.set k (wat ws s.seq / 2)) us:=by
 have hsp:=H.sp;have hrow:=H.row;have hfit:=H.fit;have hnn:=H.ne;have hwp:l.length≤m:=by rw[H.hm];exact ll H.ok
 have hmb:m≤64*l.length:=by rw[H.hm];exact jq H.ok _
 have hl64:=H.h64;have hl1:=H.h1;have hg:=H.hg;have hu:=H.hu;have hkn:k<l.length:=(bk.1 hk).1;obtain⟨-,e1,-⟩:=au.c hsp hk;have hsq:=(hfit s (dh hk)).1;have t1:decide ((k:Int)<l.length)=true:=dqt (by omega);have t3:decide ((k:Int)+1=l.length)=false:=dqf (by omega);have t5:decide ((k:Int)+1=2*l.length+m)=false:=dqf (by omega);have i0:(0:Int)≤k:=by omega
 have i1:(k:Int)<l.length:=by omega
 have hlt:k<100000:=by omega
 simp only[SOp.cells] at hrow;obtain⟨c0,c1,c2,c3,c4,c5,c6,c7⟩:=hrow.c8;have HH:=qh H;have HNE:=qh hnn;have HROW:=qh hrow;clear hsp hfit H hnn hrow;generalize hn:l.length=n at *;have HL:=qh hn;clear hn
 go_enter Tryz.func280,Tryz.ntmps280
 go_wp2_with fail;refine ay 2 ?_;go_wp2_with fail
 go_quiet (fail)
 go_wp2_with (first|(go_at_call 84;refine(fc _ B A ws s.seq hsq (HH.o.hb.d0 nq)).mono ?_;rintro e w2 ⟨rfl,hs2,hb2⟩;have r2:=(HROW.o.drewN nq).same hs2 (by simpa using HNE.o.1);obtain⟨d0,d1,d2,d3,d4,d5,d6,d7⟩:=r2.c8;have fr:=r2.free;have x1:=(HH.o.d1.drewN nq).same hs2 (by simpa using HNE.o.2.2.1);have x2:=(HH.o.d2.drewN nq).same hs2 (by simpa using HNE.o.2.2.2.1);have e0:=x1.cell (ej gs (i:=k) (by omega));have fD:=x1.free;have nDP:=HNE.o.2.2.2.2.2.2.1;have X1:=qh x1;have X2:=qh x2;have HS2:=qh (((ab.refl [B] w).drewN nq).then hs2 (fun _ h _=>h));have HB2:=qh hb2;have R2:=qh r2;clear hs2 hb2 r2 x1 x2 c0 c1 c2 c3 c4 c5 c6 c7 e1))
 have hgn:=iq (wat ws s.seq);refine aq (fun w'=>∃n,w'=(w2.setCell ⟨P,6,none⟩ (ci (st+1))).drewN n) 8 (by kernel_rfl) (by kernel_rfl) ⟨1,rfl⟩ ?_;simp only[List.take_succ_cons,List.take_zero,List.drop_succ_cons,List.drop_zero]
 repeat (go_big_quiet_step ((go_at_call 85;exact Calls.quiet_same (hgn _))))
 refine wpQuiet_nil ?_;rintro _ ⟨nz,rfl⟩;go_wp2;refine wp_goto ?_;refine⟨_,rfl,?_⟩;go_wp2;refine bh ?_;go_ret;obtain⟨-,n2',n3',n4',-,-,n7',n8',-,-,-⟩:=HNE.o;have n1':=HNE.o.1;have npD1:P≠(⟨D1,0,none⟩:Addr).block:=n7';have npD2:P≠(⟨D2,0,none⟩:Addr).block:=n8';have n1P:D1≠(⟨P,0,none⟩:Addr).block:=n7'.symm;have n1D2:D1≠(⟨D2,0,none⟩:Addr).block:=HH.o.n3;have n2P:D2≠(⟨P,0,none⟩:Addr).block:=n8'.symm;have n2D1:D2≠(⟨D1,0,none⟩:Addr).block:=HH.o.n3.symm;have nB:B∉[D1,D2,P]:=by simpa using ⟨n3'.symm,n4'.symm,n1'.symm⟩
 have nA:A∉[D1,D2,P]:=by simpa using ⟨HH.o.n1.symm,HH.o.n2.symm,n2'.symm⟩
 have hs4:=(((((ab.refl [D1,D2,P] w2).sc P 6 (ci (st+1))).drewN nz).sc D1 k (cu ((wat ws s.seq / 2:Nat):Int))).sc P 2 (ci (k+1)));have hS:=(HS2.o.mono (M':=[B,D1,D2,P]) (fun y hy _=>by simp at hy;simp[hy])).then hs4 (fun y hy _=>List.mem_cons_of_mem _ hy);refine⟨rfl,hS,HH.o.to hS (HB2.o.same hs4 nB nA) (by simp) rfl ?_ ?_ ?_⟩
 ·rw[HL.o];refine((((R2.o.set 6 (ci (st+1))).drewN nz).ot npD1 k (cu ((wat ws s.seq / 2:Nat):Int))).set 2 (ci (k+1))).to ?_
  rfl
 ·first|exact((((X1.o.ot n1P 6 (ci (st+1))).drewN nz).set k (cu ((wat ws s.seq / 2:Nat):Int))).ot n1P 2 (ci (k+1)))|(rw[←fo];exact((((X1.o.ot n1P 6 (ci (st+1))).drewN nz).set k (cu ((wat ws s.seq / 2:Nat):Int))).ot n1P 2 (ci (k+1))))
 ·first|exact((((X2.o.ot n2P 6 (ci (st+1))).drewN nz).ot n2D1 k (cu ((wat ws s.seq / 2:Nat):Int))).ot n2P 2 (ci (k+1)))|(rw[←fo];exact((((X2.o.ot n2P 6 (ci (st+1))).drewN nz).ot n2D1 k (cu ((wat ws s.seq / 2:Nat):Int))).ot n2P 2 (ci (k+1))))
theorem ue(w:World)(P B A g c D1 D2 m:Nat)(l:List am)(ws gs us:List Nat)(t k b st:Nat)(s:am)(hk:l[k]?=some s)(hk1:k+1=l.length)(hst:st≤100000)(H:ij w P B A g c D1 D2 m l ⟨t,k,b,st,0⟩ ws gs us):Calls Tryz.prog 280 #[pt P,pt B] w fun e w'=>e=.returned (ci 0)∧ab [B,D1,D2,P] w w'∧ij w' P B A g c D1 D2 m l ⟨t,k+1,st+1,st+1,0⟩ ws (gs.set k (wat ws s.seq / 2)) us:=by
 have hsp:=H.sp;have hrow:=H.row;have hfit:=H.fit;have hnn:=H.ne;have hwp:l.length≤m:=by rw[H.hm];exact ll H.ok
 have hmb:m≤64*l.length:=by rw[H.hm];exact jq H.ok _
 have hl64:=H.h64;have hl1:=H.h1;have hg:=H.hg;have hu:=H.hu;have hkn:k<l.length:=(bk.1 hk).1;obtain⟨-,e1,-⟩:=au.c hsp hk;have hsq:=(hfit s (dh hk)).1;have t1:decide ((k:Int)<l.length)=true:=dqt (by omega);have t3:decide ((k:Int)+1=l.length)=true:=dqt (by omega);have t5:decide ((k:Int)+1=2*l.length+m)=false:=dqf (by omega);have i0:(0:Int)≤k:=by omega
 have i1:(k:Int)<l.length:=by omega
 have hlt:k<100000:=by omega
 simp only[SOp.cells] at hrow;obtain⟨c0,c1,c2,c3,c4,c5,c6,c7⟩:=hrow.c8;have HH:=qh H;have HNE:=qh hnn;have HROW:=qh hrow;clear hsp hfit H hnn hrow;generalize hn:l.length=n at *;have HL:=qh hn;clear hn
 go_enter Tryz.func280,Tryz.ntmps280
 go_wp2_with fail;refine ay 2 ?_;go_wp2_with fail
 go_quiet (fail)
 go_wp2_with (first|(go_at_call 84;refine(fc _ B A ws s.seq hsq (HH.o.hb.d0 nq)).mono ?_;rintro e w2 ⟨rfl,hs2,hb2⟩;have r2:=(HROW.o.drewN nq).same hs2 (by simpa using HNE.o.1);obtain⟨d0,d1,d2,d3,d4,d5,d6,d7⟩:=r2.c8;have fr:=r2.free;have x1:=(HH.o.d1.drewN nq).same hs2 (by simpa using HNE.o.2.2.1);have x2:=(HH.o.d2.drewN nq).same hs2 (by simpa using HNE.o.2.2.2.1);have e0:=x1.cell (ej gs (i:=k) (by omega));have fD:=x1.free;have nDP:=HNE.o.2.2.2.2.2.2.1;have X1:=qh x1;have X2:=qh x2;have HS2:=qh (((ab.refl [B] w).drewN nq).then hs2 (fun _ h _=>h));have HB2:=qh hb2;have R2:=qh r2;clear hs2 hb2 r2 x1 x2 c0 c1 c2 c3 c4 c5 c6 c7 e1))
 have hgn:=iq (wat ws s.seq);refine aq (fun w'=>∃n,w'=(w2.setCell ⟨P,6,none⟩ (ci (st+1))).drewN n) 8 (by kernel_rfl) (by kernel_rfl) ⟨1,rfl⟩ ?_;simp only[List.take_succ_cons,List.take_zero,List.drop_succ_cons,List.drop_zero]
 repeat (go_big_quiet_step ((go_at_call 85;exact Calls.quiet_same (hgn _))))
 refine wpQuiet_nil ?_;rintro _ ⟨nz,rfl⟩;go_wp2;refine wp_goto ?_;refine⟨_,rfl,?_⟩;go_wp2;refine bh ?_;go_ret;obtain⟨-,n2',n3',n4',-,-,n7',n8',-,-,-⟩:=HNE.o;have n1':=HNE.o.1;have npD1:P≠(⟨D1,0,none⟩:Addr).block:=n7';have npD2:P≠(⟨D2,0,none⟩:Addr).block:=n8';have n1P:D1≠(⟨P,0,none⟩:Addr).block:=n7'.symm;have n1D2:D1≠(⟨D2,0,none⟩:Addr).block:=HH.o.n3;have n2P:D2≠(⟨P,0,none⟩:Addr).block:=n8'.symm;have n2D1:D2≠(⟨D1,0,none⟩:Addr).block:=HH.o.n3.symm;have nB:B∉[D1,D2,P]:=by simpa using ⟨n3'.symm,n4'.symm,n1'.symm⟩
 have nA:A∉[D1,D2,P]:=by simpa using ⟨HH.o.n1.symm,HH.o.n2.symm,n2'.symm⟩
 have hs4:=((((((ab.refl [D1,D2,P] w2).sc P 6 (ci (st+1))).drewN nz).sc D1 k (cu ((wat ws s.seq / 2:Nat):Int))).sc P 5 (ci (st+1))).sc P 2 (ci (k+1)));have hS:=(HS2.o.mono (M':=[B,D1,D2,P]) (fun y hy _=>by simp at hy;simp[hy])).then hs4 (fun y hy _=>List.mem_cons_of_mem _ hy);refine⟨rfl,hS,HH.o.to hS (HB2.o.same hs4 nB nA) (by simp) rfl ?_ ?_ ?_⟩
 ·rw[HL.o];refine(((((R2.o.set 6 (ci (st+1))).drewN nz).ot npD1 k (cu ((wat ws s.seq / 2:Nat):Int))).set 5 (ci (st+1))).set 2 (ci (k+1))).to ?_
  rfl
 ·first|exact(((((X1.o.ot n1P 6 (ci (st+1))).drewN nz).set k (cu ((wat ws s.seq / 2:Nat):Int))).ot n1P 5 (ci (st+1))).ot n1P 2 (ci (k+1)))|(rw[←fo];exact(((((X1.o.ot n1P 6 (ci (st+1))).drewN nz).set k (cu ((wat ws s.seq / 2:Nat):Int))).ot n1P 5 (ci (st+1))).ot n1P 2 (ci (k+1))))
 ·first|exact(((((X2.o.ot n2P 6 (ci (st+1))).drewN nz).ot n2D1 k (cu ((wat ws s.seq / 2:Nat):Int))).ot n2P 5 (ci (st+1))).ot n2P 2 (ci (k+1)))|(rw[←fo];exact(((((X2.o.ot n2P 6 (ci (st+1))).drewN nz).ot n2D1 k (cu ((wat ws s.seq / 2:Nat):Int))).ot n2P 5 (ci (st+1))).ot n2P 2 (ci (k+1))))
end Go.Proofs.YtojkaibpfdhmaaaGreatDoor

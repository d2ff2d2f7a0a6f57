/- Contracts of package poll: which topic the chosen subscription is of. -/
import Derived.Test.YtojkaibpfdhmaaaGreatDoorP09
import Derived.Test.YtojkaibpfdhmaaaGreatDoorP01
namespace Go.Proofs.YtojkaibpfdhmaaaGreatDoor
open Go.RowKit
set_option maxRecDepth 100000
set_option maxHeartbeats 16000000
structure Tpc where
 n:Nat
 spot:am
 gen:Nat
def Tpc.enc(t:Tpc):List Value:=[ci t.n,ci t.spot.own,ci t.spot.seq,ci t.spot.first,ci t.spot.words,ci t.spot.depth,cu t.gen]
theorem Tpc.enc_len(t:Tpc):t.enc.length=7:=rfl
theorem Tpc.enc_one(l:List Tpc):∀u∈l.flatMap Tpc.enc,u.oneCell'=true:=by
 intro u hu;simp only[List.mem_flatMap,Tpc.enc,List.mem_cons,List.not_mem_nil,or_false] at hu;obtain⟨s,_,h|h|h|h|h|h|h⟩:=hu<;>subst h<;>rfl
abbrev ia(W:World)(g:Nat)(l:List Tpc):Prop:=Arr Tpc.enc 7 W g 231 l
theorem ia.c{W:World}{g:Nat}{l:List Tpc}(h:ia W g l){k:Nat}{s:Tpc}(hk:l[k]?=some s):W.cell? (ae g (k*7))=some (ci s.n)∧W.cell? (ae g (k*7+1))=some (ci s.spot.own)∧W.cell? (ae g (k*7+2))=some (ci s.spot.seq)∧W.cell? (ae g (k*7+3))=some (ci s.spot.first)∧W.cell? (ae g (k*7+4))=some (ci s.spot.words)∧W.cell? (ae g (k*7+5))=some (ci s.spot.depth)∧W.cell? (ae g (k*7+6))=some (cu s.gen):=
 ⟨h.cell Tpc.enc_len (j:=0) hk rfl,h.cell Tpc.enc_len (j:=1) hk rfl,h.cell Tpc.enc_len (j:=2) hk rfl,h.cell Tpc.enc_len (j:=3) hk rfl,h.cell Tpc.enc_len (j:=4) hk rfl,h.cell Tpc.enc_len (j:=5) hk rfl,h.cell Tpc.enc_len (j:=6) hk rfl⟩
abbrev Tpc.cells(t:Tpc):Array Value:=#[ci t.n,ci t.spot.own,ci t.spot.seq,ci t.spot.first,ci t.spot.words,ci t.spot.depth,cu t.gen]
def fiT(tp:Nat):List Tpc→Nat→Int
 | [],_=>-1
 | x::l,i=>if x.n=tp then i else fiT tp l (i+1)
theorem o7(tp:Nat):∀(l:List Tpc)(i:Nat),(fiT tp l i = -1∧∀x∈l,x.n≠tp)∨∃k x,fiT tp l i=((i+k:Nat):Int)∧l[k]?=some x∧x.n=tp
 | [],i=>Or.inl ⟨rfl,by simp⟩
 | x::l,i=>by
  unfold fiT;by_cases h:x.n=tp
  ·rw[if_pos h];exact Or.inr ⟨0,x,rfl,rfl,h⟩
  ·rw[if_neg h];rcases o7 tp l (i+1) with ⟨h1,h2⟩|⟨k,y,h1,h2,h3⟩
   ·refine Or.inl ⟨h1,?_⟩;intro z hz;rcases List.mem_cons.1 hz with rfl|hz
    ·exact h
    ·exact h2 z hz
   ·exact Or.inr ⟨k+1,y,by rw[h1];omega,by simpa using h2,h3⟩
theorem d0i(x:Tpc)(tp b:Nat)(w:World)(hb:w.cell? (ae b 0)=some (ci tp)):Calls Tryz.prog 135 #[.agg x.cells,pt b] w fun e w'=>e=.returned (.bool (decide (x.n=tp)))∧Below w.heap.size w w':=by
 have hlt:=World.block_lt_of_cell? w _ hb;have hB:=(brf w).alloc (nlr _) (.cells x.cells 231);obtain⟨n,⟨o,q,f,wd,d⟩,gn⟩:=x;simp only[Tpc.cells] at *
 go_enter Tryz.func135,Tryz.ntmps135
 go_wp2;go_ret;exact⟨bq (by rw[Bool.eq_iff_iff];simp;omega),hB⟩
theorem b1a(w:World)(g c b tp:Nat)(l:List Tpc)(hs:ia w g l)(hl:l.length≤1000)(hb:w.cell? (ae b 0)=some (ci tp)):Calls Tryz.prog 173 #[zl g l.length c,.func (.func 135) #[] #[pt b]] w fun e w'=>e=.returned (ci (fiT tp l 0))∧Below w.heap.size w w':=by
 have HS:=qh hs;have HC:=qh hb;have B0:=qh (brf w);generalize hn:l.length=n at *;have HN:=qh hn;have hR:Hd (fiT tp l 0=fiT tp (l.drop 0) 0):=qh rfl;generalize fiT tp l 0=R at *;clear hs hn hb
 go_enter Tryz.func173,Tryz.ntmps173
 go_wp2
 go_loopw [8] (fun i wr=>∃k:Nat,k≤n∧i=ci k∧Hd (R=fiT tp (l.drop k) k)∧Hd (Below w.heap.size w wr)) (fun i _=>n-(intOf i).toNat)
 case atStart=>exact⟨0,by omega,rfl,hR,B0⟩
 case round=>
  obtain⟨k,hk,rfl,HR,HB⟩:=hrel;by_cases hkn:k<n
  ·obtain⟨s,hs⟩:∃s,l[k]?=some s:=⟨l[k]'(by have:=HN.o;omega),by simp[HN.o,hkn]⟩;obtain⟨c0,c1,c2,c3,c4,c5,c6⟩:=ia.c (HS.o.bel HB.o) hs;have hi:=d0i s tp b
   have hdr:l.drop k=s::l.drop (k+1):=by
    rw[List.drop_eq_getElem_cons (by have:=HN.o;omega)]
    congr 1
    have:=cz (l:=l) (i:=k) (by have:=HN.o;omega);rw[hs] at this;exact(Option.some.inj this).symm
   have hr2:=HR.o;rw[hdr] at hr2;unfold fiT at hr2;have t1:decide ((k:Int)<n)=true:=dqt (by omega);have i0:(0:Int)≤k:=by omega
   have i1:(k:Int)<n:=by omega
   obtain⟨sn,⟨o1,q1,f1,wd,d⟩,gn⟩:=s;simp only[Tpc.cells] at hi;by_cases he:sn=tp
   ·rw[dqt he] at hi;rw[if_pos he] at hr2;have HR2:=qh hr2;clear hr2 hdr hs he;have hii:=hi wr ((HB.o.cell (blc HC.o)).trans HC.o);clear hi
    go_wp2_with (first|(go_at_call 135;refine hii.mono ?_;rintro e w1 ⟨rfl,hb1⟩;have HB2:=qh (bt HB.o hb1);clear hb1))
    go_ret;exact⟨by rw[HR2.o];rfl,HB2.o⟩
   ·rw[dqf he] at hi;rw[if_neg he] at hr2;have HR2:=qh hr2;clear hr2 hdr hs he;have hii:=hi wr ((HB.o.cell (blc HC.o)).trans HC.o);clear hi
    go_wp2_with (first|(go_at_call 135;refine hii.mono ?_;rintro e w1 ⟨rfl,hb1⟩;have HB2:=qh (bt HB.o hb1);clear hb1))
    go_roundw
    case rel=>exact⟨k+1,by omega,by go_num,HR2,HB2⟩
    case measure=>simp only[intOf];omega
  ·have t1:decide ((k:Int)<n)=false:=dqf (by omega);have hkn':k=n:=by omega
   subst hkn';have hr2:=HR.o;rw[List.drop_eq_nil_of_le (by have:=HN.o;omega)] at hr2;unfold fiT at hr2;have HR2:=qh hr2;clear hr2;go_wp2;go_ret;exact⟨by rw[HR2.o];rfl,HB.o⟩
theorem d0j(x:Tpc)(tp b:Nat)(w:World)(hb:w.cell? (ae b 0)=some (ci tp)):Calls Tryz.prog 177 #[.agg x.cells,pt b] w fun e w'=>e=.returned (.bool (decide (x.n=tp)))∧Below w.heap.size w w':=by
 have hlt:=World.block_lt_of_cell? w _ hb;have hB:=(brf w).alloc (nlr _) (.cells x.cells 231);obtain⟨n,⟨o,q,f,wd,d⟩,gn⟩:=x;simp only[Tpc.cells] at *
 go_enter Tryz.func177,Tryz.ntmps177
 go_wp2;go_ret;exact⟨bq (by rw[Bool.eq_iff_iff];simp;omega),hB⟩
theorem b1b(w:World)(g c b tp:Nat)(l:List Tpc)(hs:ia w g l)(hl:l.length≤1000)(hb:w.cell? (ae b 0)=some (ci tp)):Calls Tryz.prog 173 #[zl g l.length c,.func (.func 177) #[] #[pt b]] w fun e w'=>e=.returned (ci (fiT tp l 0))∧Below w.heap.size w w':=by
 have HS:=qh hs;have HC:=qh hb;have B0:=qh (brf w);generalize hn:l.length=n at *;have HN:=qh hn;have hR:Hd (fiT tp l 0=fiT tp (l.drop 0) 0):=qh rfl;generalize fiT tp l 0=R at *;clear hs hn hb
 go_enter Tryz.func173,Tryz.ntmps173
 go_wp2
 go_loopw [8] (fun i wr=>∃k:Nat,k≤n∧i=ci k∧Hd (R=fiT tp (l.drop k) k)∧Hd (Below w.heap.size w wr)) (fun i _=>n-(intOf i).toNat)
 case atStart=>exact⟨0,by omega,rfl,hR,B0⟩
 case round=>
  obtain⟨k,hk,rfl,HR,HB⟩:=hrel;by_cases hkn:k<n
  ·obtain⟨s,hs⟩:∃s,l[k]?=some s:=⟨l[k]'(by have:=HN.o;omega),by simp[HN.o,hkn]⟩;obtain⟨c0,c1,c2,c3,c4,c5,c6⟩:=ia.c (HS.o.bel HB.o) hs;have hi:=d0j s tp b
   have hdr:l.drop k=s::l.drop (k+1):=by
    rw[List.drop_eq_getElem_cons (by have:=HN.o;omega)]
    congr 1
    have:=cz (l:=l) (i:=k) (by have:=HN.o;omega);rw[hs] at this;exact(Option.some.inj this).symm
   have hr2:=HR.o;rw[hdr] at hr2;unfold fiT at hr2;have t1:decide ((k:Int)<n)=true:=dqt (by omega);have i0:(0:Int)≤k:=by omega
   have i1:(k:Int)<n:=by omega
   obtain⟨sn,⟨o1,q1,f1,wd,d⟩,gn⟩:=s;simp only[Tpc.cells] at hi;by_cases he:sn=tp
   ·rw[dqt he] at hi;rw[if_pos he] at hr2;have HR2:=qh hr2;clear hr2 hdr hs he;have hii:=hi wr ((HB.o.cell (blc HC.o)).trans HC.o);clear hi
    go_wp2_with (first|(go_at_call 177;refine hii.mono ?_;rintro e w1 ⟨rfl,hb1⟩;have HB2:=qh (bt HB.o hb1);clear hb1))
    go_ret;exact⟨by rw[HR2.o];rfl,HB2.o⟩
   ·rw[dqf he] at hi;rw[if_neg he] at hr2;have HR2:=qh hr2;clear hr2 hdr hs he;have hii:=hi wr ((HB.o.cell (blc HC.o)).trans HC.o);clear hi
    go_wp2_with (first|(go_at_call 177;refine hii.mono ?_;rintro e w1 ⟨rfl,hb1⟩;have HB2:=qh (bt HB.o hb1);clear hb1))
    go_roundw
    case rel=>exact⟨k+1,by omega,by go_num,HR2,HB2⟩
    case measure=>simp only[intOf];omega
  ·have t1:decide ((k:Int)<n)=false:=dqf (by omega);have hkn':k=n:=by omega
   subst hkn';have hr2:=HR.o;rw[List.drop_eq_nil_of_le (by have:=HN.o;omega)] at hr2;unfold fiT at hr2;have HR2:=qh hr2;clear hr2;go_wp2;go_ret;exact⟨by rw[HR2.o];rfl,HB.o⟩
structure POp where
 left:Nat
 round:Nat
 next:Nat
 pick:Int
 gen:Nat
 place:Nat
 size:Nat
 how:Nat
 steps:Nat
 at_:Nat
def POp.cells(o:POp)(g1 n1 c1 g2 n2 c2:Nat)(wv:Value):Array Value:=#[zl g1 n1 c1,zl g2 n2 c2,ci o.left,ci o.round,ci o.next,ci o.pick,cu o.gen,ci o.place,ci o.size,wv,ci o.how,ci o.steps,ci o.at_]
def fk(l:List Sub)(ts:List Tpc):List Nat:=l.map fun s=>match ts.find? (fun t=>decide (t.n=s.topic)) with|some t=>t.gen|none=>0
theorem b2x(tp:Nat):∀(l:List Tpc)(i k:Nat),fiT tp l i=((i+k:Nat):Int)→k<l.length→l.find? (fun t=>decide (t.n=tp))=l[k]?
 | [],i,k,_,h=>by simp at h
 | x::l,i,k,h,hk=>by
  unfold fiT at h;by_cases e:x.n=tp
  ·rw[if_pos e] at h;have:k=0:=by omega
   subst this;simp[e]
  ·rw[if_neg e] at h;rcases o7 tp l (i+1) with ⟨h1,h2⟩|⟨j,y,h1,h2,h3⟩
   ·omega
   ·have hj:k=j+1:=by omega
    subst hj;have:=b2x tp l (i+1) j (by omega) (by simpa using hk);simp only[List.find?_cons,e,decide_false];rw[this];simp
theorem b1c(w:World)(P g1 n1 k1 g2 n2 k2:Nat)(wv:Value)(o:POp)(l:List Sub)(ts:List Tpc)(hn1:l.length=n1)(hn2:ts.length=n2)(hl:n1≤64)(hl2:n2≤64)(hall:∀s∈l,∃t∈ts,t.n=s.topic)(hr:Row w P 228 (o.cells g1 n1 k1 g2 n2 k2 wv))(hs:eu w g1 l)(ht:ia w g2 ts):Calls Tryz.prog 141 #[pt P] w fun e w'=>∃D,e=.returned (zl D n1 n1)∧w.heap.size≤D∧Row w' D 41 (bj (fk l ts))∧Below w.heap.size w w':=by
 simp only[POp.cells] at hr;obtain⟨c0,c1',-⟩:=hr.c13;have hP:=hr.lt;have hmk:=fun W=>j9 W n1 (by omega);have HR:=qh hr;have HS:=qh hs;have HT:=qh ht;have HA:=qh hall;have HN1:=qh hn1;have HN2:=qh hn2;have B0:=qh ((brf w).alloc (nlr _) (.cells (bj (List.replicate n1 0)) 41));have R0:=qh (Row.new w 41 (bj (List.replicate n1 0)));have hg0:Hd (∃gs:List Nat,gs.length=n1∧(∀j,j<0→wat gs j=wat (fk l ts) j)∧Row (w.alloc (.cells (bj (List.replicate n1 0)) 41)) w.heap.size 41 (bj gs)):=qh ⟨List.replicate n1 0,by simp,fun j h=>by omega,R0.o⟩;generalize hU:bj (List.replicate n1 0)=U at *;clear hr hs ht hall hn1 hn2 R0 hU
 go_enter Tryz.func141,Tryz.ntmps141
 go_wp2;clear hmk c0 c1'
 go_loopw [18] (fun i wr=>∃k:Nat,k≤n1∧i=ci k∧Hd (∃gs:List Nat,gs.length=n1∧(∀j,j<k→wat gs j=wat (fk l ts) j)∧Row wr w.heap.size 41 (bj gs))∧Hd (Below w.heap.size w wr)) (fun i _=>n1-(intOf i).toNat)
 case atStart=>exact⟨0,by omega,rfl,hg0,B0⟩
 case round=>
  clear hg0 B0;obtain⟨k,hk,rfl,HG,HB⟩:=hrel;obtain⟨gs,hgl,hgs,hgr⟩:=HG.o;by_cases hkn:k<n1
  ·obtain⟨s,hs⟩:∃s,l[k]?=some s:=⟨l[k]'(by have:=HN1.o;omega),by simp[HN1.o,hkn]⟩;obtain⟨t,ht,htn⟩:=HA.o s (dh hs)
   obtain⟨m,y,hf1,hf2,hf3⟩:∃(m:Nat)(x:Tpc),fiT s.topic ts 0=(m:Int)∧ts[m]?=some x∧x.n=s.topic:=by
    rcases o7 s.topic ts 0 with ⟨h1,h2⟩|⟨k,x,h1,h2,h3⟩
    ·exact absurd htn (h2 t ht)
    ·exact⟨k,x,by simpa using h1,h2,h3⟩
   have hmn:m<n2:=by have:=(bk.1 hf2).1;have:=HN2.o;omega
   have hfind:=b2x s.topic ts 0 m (by simpa using hf1) (by have:=HN2.o;omega)
   have hgk:wat (fk l ts) k=y.gen:=by
    unfold wat fk;rw[List.getD_eq_getElem?_getD,List.getElem?_map,hs];simp only[Option.map_some,Option.getD_some];rw[hfind,hf2]
   obtain⟨c0,c1,c2,c3,c4,c5⟩:=eu.c (HS.o.bel HB.o) hs;have e0:=hgr.cell (ej gs (i:=k) (by omega));have fe:=hgr.free;obtain⟨p0,p1,-⟩:=(HR.o.bel HB.o).c13;have tp:=HT.o.bel HB.o;have HF1:=qh hf1;have HF2:=qh hf2;have HGK:=qh hgk;have HGS:=qh hgs;have HGR:=qh hgr;have hlt:=hgr.lt;have hPl:=(HR.o.bel HB.o).lt;obtain⟨stp,rk,⟨nx,cp,gt,lo⟩⟩:=s;have HTP:=qh tp;have t1:decide ((k:Int)<n1)=true:=dqt (by omega);have i0:(0:Int)≤k:=by omega
   have i1:(k:Int)<n1:=by omega
   have j0:(0:Int)≤m:=by omega
   have j1:(m:Int)<n2:=by omega
   simp only at HF1
   have hix:∀W b,ia W g2 ts→W.cell? (ae b 0)=some (ci stp)→Calls Tryz.prog 173 #[zl g2 n2 k2,.func (.func 177) #[] #[pt b]] W fun e w'=>e=.returned (ci m)∧Below W.heap.size W w':=fun W b h1 h2=>by
    have h3:=b1b W g2 k2 b stp ts h1 (by have:=HN2.o;omega) h2;rw[HN2.o,HF1.o] at h3;exact h3
   clear hf1 hf2 hfind hgk hgs hgr tp ht htn hf3 hs HG
   go_wp2_with (first|(go_at_call 173;refine(hix _ wr.heap.size (HTP.o.alloc _) (by simp)).mono ?_;rintro e w1 ⟨rfl,hb1⟩;have HB1:=qh (bt (af HB.o _) hb1);have hb2:=bt (af (brf wr) _) hb1;have HG1:=qh (HGR.o.bel hb2);obtain⟨p0',p1',-⟩:=((HR.o.bel HB.o).bel hb2).c13;obtain⟨-,-,-,-,-,-,q6⟩:=ia.c (HTP.o.bel hb2) HF2.o;have e0':=HG1.o.cell (ej gs (i:=k) (by omega));have fe':=HG1.o.free;clear hb1 hb2 c0 c1 c2 c3 c4 c5 e0 fe p0 p1))
   go_roundw
   case rel=>
    refine⟨k+1,by omega,by go_num,qh ⟨gs.set k y.gen,by simpa using hgl,?_,?_⟩,qh ?_⟩
    ·intro j hj;by_cases hjk:j=k
     ·subst hjk;rw[HGK.o];unfold wat;rw[List.getD_eq_getElem?_getD,List.getElem?_set_self (by omega)]
      rfl
     ·have:=HGS.o j (by omega);rw[←this];unfold wat;rw[List.getD_eq_getElem?_getD,List.getElem?_set_ne (by omega),←List.getD_eq_getElem?_getD]
    ·rw[←fo];exact HG1.o.set k _
    ·exact HB1.o.trans (((ab.refl [w.heap.size] w1).setCell (by simp) _).below HB1.o.size (by simp))
   case measure=>simp only[intOf];omega
  ·have t1:decide ((k:Int)<n1)=false:=dqf (by omega);have hkn':k=n1:=by omega
   subst hkn'
   have hgg:gs=fk l ts:=by
    refine List.ext_getElem (by rw[hgl];simp[fk,HN1.o]) ?_;intro j h1 h2;have:=hgs j (by omega);unfold wat at this;rw[List.getD_eq_getElem?_getD,List.getD_eq_getElem?_getD,cz h1,cz h2] at this
    simpa using this
   have HGR:=qh hgr;have HGG:=qh hgg;clear hgr hgg hgs HG;go_wp2;go_ret;exact⟨w.heap.size,rfl,nlr _,by rw[←HGG.o];exact HGR.o,HB.o⟩
theorem d0k(x:Tpc)(tp b b2 P g1 n1 u1 kk:Nat)(hkk:kk<n1)(w:World)(hb:w.cell? (ae b 0)=some (pt P)∧w.cell? (ae P 0)=some (zl g1 n1 u1)∧w.cell? (ae b2 0)=some (ci kk)∧w.cell? (ae g1 (kk*6))=some (ci tp)):Calls Tryz.prog 287 #[.agg x.cells,pt b,pt b2] w fun e w'=>e=.returned (.bool (decide (x.n=tp)))∧Below w.heap.size w w':=by
 obtain⟨h1,h2,h3,h4⟩:=hb;have hB:=(brf w).alloc (nlr _) (.cells x.cells 231);have l1:=World.block_lt_of_cell? w _ h1;have l2:=World.block_lt_of_cell? w _ h2;have l3:=World.block_lt_of_cell? w _ h3;have l4:=World.block_lt_of_cell? w _ h4;obtain⟨n,⟨o,q,f,wd,d⟩,gn⟩:=x;simp only[Tpc.cells] at *;have i0:(0:Int)≤kk:=by omega
 have i1:(kk:Int)<n1:=by omega
 go_enter Tryz.func287,Tryz.ntmps287
 go_wp2_with fail
 go_quiet (fail)
 go_wp2;go_ret;exact⟨bq (by rw[Bool.eq_iff_iff];simp;omega),below_drewN hB _⟩
theorem b1d(w:World)(g c b b2 P g1 n1 u1 kk tp:Nat)(l:List Tpc)(hs:ia w g l)(hl:l.length≤1000)(hkk:kk<n1)(hb:w.cell? (ae b 0)=some (pt P)∧w.cell? (ae P 0)=some (zl g1 n1 u1)∧w.cell? (ae b2 0)=some (ci kk)∧w.cell? (ae g1 (kk*6))=some (ci tp)):Calls Tryz.prog 173 #[zl g l.length c,.func (.func 287) #[] #[pt b,pt b2]] w fun e w'=>e=.returned (ci (fiT tp l 0))∧Below w.heap.size w w':=by
 have HS:=qh hs;have HC:=qh hb;have B0:=qh (brf w);generalize hn:l.length=n at *;have HN:=qh hn;have hR:Hd (fiT tp l 0=fiT tp (l.drop 0) 0):=qh rfl;generalize fiT tp l 0=R at *;clear hs hn hb
 go_enter Tryz.func173,Tryz.ntmps173
 go_wp2
 go_loopw [8] (fun i wr=>∃k:Nat,k≤n∧i=ci k∧Hd (R=fiT tp (l.drop k) k)∧Hd (Below w.heap.size w wr)) (fun i _=>n-(intOf i).toNat)
 case atStart=>exact⟨0,by omega,rfl,hR,B0⟩
 case round=>
  obtain⟨k,hk,rfl,HR,HB⟩:=hrel;by_cases hkn:k<n
  ·obtain⟨s,hs⟩:∃s,l[k]?=some s:=⟨l[k]'(by have:=HN.o;omega),by simp[HN.o,hkn]⟩;obtain⟨c0,c1,c2,c3,c4,c5,c6⟩:=ia.c (HS.o.bel HB.o) hs;have hi:=fun W h=>d0k s tp b b2 P g1 n1 u1 kk hkk W h
   have hdr:l.drop k=s::l.drop (k+1):=by
    rw[List.drop_eq_getElem_cons (by have:=HN.o;omega)]
    congr 1
    have:=cz (l:=l) (i:=k) (by have:=HN.o;omega);rw[hs] at this;exact(Option.some.inj this).symm
   have hr2:=HR.o;rw[hdr] at hr2;unfold fiT at hr2;have t1:decide ((k:Int)<n)=true:=dqt (by omega);have i0:(0:Int)≤k:=by omega
   have i1:(k:Int)<n:=by omega
   obtain⟨sn,⟨o1,q1,f1,wd,d⟩,gn⟩:=s;simp only[Tpc.cells] at hi;by_cases he:sn=tp
   ·rw[dqt he] at hi;rw[if_pos he] at hr2;have HR2:=qh hr2;clear hr2 hdr hs he;have hii:=hi wr ⟨(HB.o.cell (blc HC.o.1)).trans HC.o.1,(HB.o.cell (blc HC.o.2.1)).trans HC.o.2.1,(HB.o.cell (blc HC.o.2.2.1)).trans HC.o.2.2.1,(HB.o.cell (blc HC.o.2.2.2)).trans HC.o.2.2.2⟩;clear hi
    go_wp2_with (first|(go_at_call 287;refine hii.mono ?_;rintro e w1 ⟨rfl,hb1⟩;have HB2:=qh (bt HB.o hb1);clear hb1))
    go_ret;exact⟨by rw[HR2.o];rfl,HB2.o⟩
   ·rw[dqf he] at hi;rw[if_neg he] at hr2;have HR2:=qh hr2;clear hr2 hdr hs he;have hii:=hi wr ⟨(HB.o.cell (blc HC.o.1)).trans HC.o.1,(HB.o.cell (blc HC.o.2.1)).trans HC.o.2.1,(HB.o.cell (blc HC.o.2.2.1)).trans HC.o.2.2.1,(HB.o.cell (blc HC.o.2.2.2)).trans HC.o.2.2.2⟩;clear hi
    go_wp2_with (first|(go_at_call 287;refine hii.mono ?_;rintro e w1 ⟨rfl,hb1⟩;have HB2:=qh (bt HB.o hb1);clear hb1))
    go_roundw
    case rel=>exact⟨k+1,by omega,by go_num,HR2,HB2⟩
    case measure=>simp only[intOf];omega
  ·have t1:decide ((k:Int)<n)=false:=dqf (by omega);have hkn':k=n:=by omega
   subst hkn';have hr2:=HR.o;rw[List.drop_eq_nil_of_le (by have:=HN.o;omega)] at hr2;unfold fiT at hr2;have HR2:=qh hr2;clear hr2;go_wp2;go_ret;exact⟨by rw[HR2.o];rfl,HB.o⟩
end Go.Proofs.YtojkaibpfdhmaaaGreatDoor

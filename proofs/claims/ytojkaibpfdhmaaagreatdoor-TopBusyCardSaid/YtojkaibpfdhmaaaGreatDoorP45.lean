/- A pick, and a drop. -/
import Derived.Test.YtojkaibpfdhmaaaGreatDoorP41
import Derived.Test.YtojkaibpfdhmaaaGreatDoorP37
import Derived.Test.YtojkaibpfdhmaaaGreatDoorP44
namespace Go.Proofs.YtojkaibpfdhmaaaGreatDoor
open Go.RowKit
set_option maxRecDepth 100000
set_option maxHeartbeats 16000000
def Mem(E:Env)(ps:List (List PC))(W:World)(X V:Nat)(v:dg)(A tb tcap Mp:Nat)(tks:List Nat)(lo:Nat)(s:Sys):Prop:=∃tag ows nm fm evv evs,mj E ps W X tag s V v A ows tb tcap Mp nm fm evv evs tks∧lo≤W.heap.size∧∀b,b<lo→4<b→tag b=0
def lj(w W W1:World)(nz i:Nat)(tag:Nat→Nat)(b:Nat):Nat:=if b<w.heap.size then tag b else if b<W.heap.size then 0 else if b<W1.heap.size then 2+2*i else if b<nz then 3+2*i else 0
section
variable{E:Env}{ps:List (List PC)}{w W W1:World}{X:Nat}{tag:Nat→Nat}{s:Sys}{V A tb tcap Mp nm nz:Nat}{v:dg}{ows:List Own}{fm:Lit→Option Value}{evv:Value}{evs:List EvC}{tks:List Nat}
variable{i:Nat}{k:Tk}{u:Und}{e0:Ev}{R:Nat}{p:List PC}{ow:Own}{ca:Option Addr}{cc:Nat}{dz:Value}{O:Nat}{o:OpC}{tv:Value}{x0:EvC}{eg ec:Nat}{sl:List Sub}
theorem b2n:mq w tag (lj w W W1 nz i tag):=fun b hb=>by unfold lj;rw[if_pos hb]
theorem b6s{b:Nat}(h1:w.heap.size≤b)(h2:b<W.heap.size):lj w W W1 nz i tag b=0:=by unfold lj;rw[if_neg (by omega),if_pos h2]
theorem c4z{b:Nat}(h0:w.heap.size≤W.heap.size)(h1:W.heap.size≤b)(h2:b<W1.heap.size):lj w W W1 nz i tag b=2+2*i:=by unfold lj;rw[if_neg (by omega),if_neg (by omega),if_pos h2]
theorem c5a{b:Nat}(h0:w.heap.size≤W.heap.size)(h1:W.heap.size≤W1.heap.size)(h2:W1.heap.size≤b)(h3:b<nz):lj w W W1 nz i tag b=3+2*i:=by unfold lj;rw[if_neg (by omega),if_neg (by omega),if_neg (by omega),if_pos h3]
theorem b6t{b:Nat}(h0:w.heap.size≤W.heap.size)(h1:W.heap.size≤W1.heap.size)(h2:W1.heap.size≤nz)(h3:nz≤b):lj w W W1 nz i tag b=0:=by unfold lj;rw[if_neg (by omega),if_neg (by omega),if_neg (by omega),if_neg (by omega)]
theorem b6u{base Et sz n:Nat}{vv:Value}{cs:List Value}(h:w.ownsRow base Et sz vv n cs):vv.oneCell'=true:=by
 obtain⟨a,c,rfl⟩:=ax h
 rfl
theorem b2o(h:mj E ps w X tag s V v A ows tb tcap Mp nm fm evv evs tks)(P:vn E ps w X tag s V v ows fm evv evs tks i k u e0 R p ow ca cc dz O o tv x0 eg ec sl){e:Ending}{w':World}{lo:Nat}(hn0:lo≤w.heap.size)(hlow:∀b,b<lo→4<b→tag b=0)(hq:vo w X V Mp nm tb tcap tks.length O i eg ec u.ev R s.time fm u.times tv (.slice ca p.length cc) (ci k.next) dz evs x0 (c0f E w (Cut w (OpT tag i O)) V v A s.ws ows i O o.steps ow k.f s.time u.m) e w'):e=.returned (.bool true)∧∃s',qe E s i s'∧Mem E ps w' X V v A tb tcap Mp tks lo s'∧Below lo w w':=by
 obtain⟨rfl,b,o',W,W1,tv',nz,M',e2,hQ,hsX,hn1,hn2,hs',hM',hX',htv',htvb,hA',hF,hT⟩:=hq;obtain⟨ws',m',r,ow',sl',M,rfl,q1,q2,q3,q4,q5,q6,q7,q8,q9,q10,q11,q12,q13⟩:=hQ;refine⟨rfl,_,⟨k,u,e0,ws',m',r,P.hk,P.hu,P.he,by rw[←P.st];exact q1,rfl⟩,?_⟩;have l1:=hsX.size;have l2:=q11.size;obtain⟨z1,z2,z3,z4,z5,z6,z7,z8,z9,z10⟩:=h.tags;obtain⟨zR,lR⟩:=z9 R (dh P.hR);have zeg:tag eg=1:=(h.te eg (by rw[P.ev];rfl)).2;have leg:4<eg:=h.low.ev eg (by rw[P.ev];rfl);have lows:=h.low;have lR4:=lows.tk R (dh P.hR);have hlt:=h.lts;have vlow:=h.veh.low;have tO:=P.tO;have hil:i<tks.length:=(bk.1 P.hR).1;have hio:i<ows.length:=(bk.1 P.ho).1;have ha:mq w tag (lj w W W1 nz i tag):=b2n;have tv1:∀c,tv.ownBlock=some c→tag c=3+2*i:=fun c hc=>(P.tt c hc).2
 have hM1:∀x∈M',(x=Mp∨x=eg∨x=R∨tag x=3+2*i)∧x<w.heap.size∨(w.heap.size≤x∧x<W.heap.size):=fun x hx=>by
  rcases hM' x hx with g|g|g
  ·simp only[List.mem_cons,List.not_mem_nil,or_false] at g;rcases g with g|g|g
   ·subst g;exact Or.inl ⟨Or.inl rfl,h.mp.lt⟩
   ·subst g;exact Or.inl ⟨Or.inr (Or.inl rfl),P.arr.lt⟩
   ·subst g;exact Or.inl ⟨Or.inr (Or.inr (Or.inl rfl)),lR⟩
  ·exact Or.inl ⟨Or.inr (Or.inr (Or.inr (tv1 x g))),(P.tt x g).1⟩
  ·exact Or.inr g
 have nes:=h.nes P.arr.arr P.row;have stot:=((hsX.trans q11).trans hs').cut
 have hMt:∀x∈([X]++M++M').filter fun b=>decide (b<w.heap.size),tag x=2+2*i∨tag x=3+2*i∨(tag x=1∧x≠tb∧∀(j R':Nat),j≠i→tks[j]?=some R'→x≠R'):=fun x hx=>by
  simp only[List.mem_filter,List.mem_append,List.mem_singleton,decide_eq_true_eq] at hx;obtain⟨hx,hl⟩:=hx
  have isOne:tag x=1→(∀{cs:Array Value},Row w x 73 cs→x=R)→x≠tb→tag x=2+2*i∨tag x=3+2*i∨(tag x=1∧x≠tb∧∀(j R':Nat),j≠i→tks[j]?=some R'→x≠R'):=fun g1 g2 g3=>Or.inr (Or.inr ⟨g1,g3,fun j R' hj hR' e=>by
   subst e;obtain⟨cs,hr⟩:=h.rows hR';exact h.neq P.hR hR' hj (g2 hr).symm⟩)
  have byRow:∀{t:TypeId}{cs:Array Value},Row w x t cs→t≠73→t≠70→(∀{cs:Array Value},Row w x 73 cs→x=R)∧x≠tb:=fun hr t1 t2=>⟨fun hr'=>absurd rfl (hr.ne hr' t1),(Row.ne_arr h.tbs hr (fun e=>t2 e.symm)).symm⟩;obtain⟨kb,hkb⟩:=h.veh.bank.hd;obtain⟨c2,hy,_⟩:=h.veh.owns.ex;rcases hx with (hx|hx)|hx
  ·subst hx;obtain⟨g1,g2⟩:=byRow h.x (by decide) (by decide);exact isOne z1 g1 g2
  ·rcases q12 x hx with g|g|g|g|g
   ·exact Or.inl g.1.1
   ·subst g;exact Or.inl tO
   ·subst g;obtain⟨g1,g2⟩:=byRow hkb (by decide) (by decide);exact isOne z5 g1 g2
   ·subst g;obtain⟨g1,g2⟩:=byRow h.veh.bank.wd (by decide) (by decide);exact isOne z6 g1 g2
   ·subst g;obtain⟨g1,g2⟩:=byRow hy (by decide) (by decide);exact isOne z8 g1 g2
  ·rcases hM1 x hx with ⟨g|g|g|g,_⟩|g
   ·subst g;exact isOne z3 (fun hr=>absurd rfl (h.mp.ne hr)) (h.mp.ne_arr h.tbs).symm
   ·subst g;exact isOne zeg (fun hr=>absurd rfl (Row.ne_arr P.arr.arr hr (by decide))) (b0v P.arr.arr h.tbs (by decide))
   ·subst g;exact isOne zR (fun _=>rfl) (Row.ne_arr h.tbs P.row (by decide)).symm
   ·exact Or.inr (Or.inl g)
   ·omega
 have hM0:∀x∈([X]++M++M').filter fun b=>decide (b<w.heap.size),tag x≠0:=fun x hx=>by
  rcases hMt x hx with g|g|g<;>omega
 have off1:∀b,b<w.heap.size→tag b=1→b≠Mp→b≠eg→b≠R→b∉M':=fun b g1 g2 g3 g4 g5 hx=>by
  rcases hM1 b hx with ⟨g|g|g|g,_⟩|g
  ·exact g3 g
  ·exact g4 g
  ·exact g5 g
  ·omega
  ·omega
 have three:∀b,b∉[X,Mp,eg,tb,R]→b≠Mp∧b≠eg∧b≠R:=fun b hb=>by
  simp only[List.mem_cons,List.not_mem_nil,or_false,not_or] at hb;exact⟨hb.2.1,hb.2.2.1,hb.2.2.2.2⟩
 have t1:=three _ (nes v.B (Or.inl rfl));have t2:=three _ (nes A (Or.inr (Or.inl rfl)));have t3:=three _ (nes v.Y (Or.inr (Or.inr rfl)));have nB:=off1 v.B hlt.1 z5 t1.1 t1.2.1 t1.2.2;have nA:=off1 A hlt.2.1 z6 t2.1 t2.2.1 t2.2.2;have nY:=off1 v.Y hlt.2.2.1 z8 t3.1 t3.2.1 t3.2.2;have nV:=off1 V h.veh.hv.lt z4 (h.mp.ne h.veh.hv) (Row.ne_arr P.arr.arr h.veh.hv (by decide)).symm (h.veh.hv.ne P.row (by decide));have nG:=off1 v.G h.veh.spots.lt z7 (h.mp.ne_arr h.veh.spots) (b0v h.veh.spots P.arr.arr (by decide)) (Row.ne_arr h.veh.spots P.row (by decide));have hX4:=h.x.lt
 have VH:=q3.turn hs' (q3.bank.same hs' nB nA) rfl (q3.owns.same hs' nY) rfl fun b hb=>⟨fun e=>nV (e▸hb),fun e=>nG (e▸hb),by
  rcases hM1 b hb with ⟨g|g|g|g,_⟩|g
  ·subst g;exact lows.mp
  ·subst g;exact leg
  ·subst g;exact lR4
  ·rcases Nat.lt_or_ge 4 b with g2|g2
   ·exact g2
   ·have:=z10 b g2;omega
  ·have:=lows.x;omega⟩
 have lO:=P.rO.lt
 have offT:Off M' (Cut W1 (ji (Cut w (OpT tag i O)) W)):=fun b hb ht=>by
  have g2:b<w.heap.size→tag b=2+2*i:=fun g=>by
   rcases ht.1 with g2|g2
   ·exact g2.1.1
   ·omega
  rcases hM1 b hb with ⟨g|g|g|g,g3⟩|g
  ·have:=g2 g3;subst g;omega
  ·have:=g2 g3;subst g;omega
  ·have:=g2 g3;subst g;omega
  ·have:=g2 g3;omega
  ·rcases ht.1 with g2|g2
   ·have:=g2.2;omega
   ·omega
 have tagT:∀b,Cut W1 (ji (Cut w (OpT tag i O)) W) b→lj w W W1 nz i tag b=2+2*i∧b≠O:=fun b hb=>by
  rcases hb.1 with g|g
  ·exact⟨(ha b g.2).trans g.1.1,g.1.2⟩
  ·exact⟨c4z l1 g hb.2,by omega⟩
 have OWN:=q4.cut.same hs' offT (T':=fun b=>lj w W W1 nz i tag b=2+2*i∧ow'.op≠some b) fun b hb=>⟨(tagT b hb).1,fun e=>by
  rw[q8] at e
  split at e
  ·cases e
  ·rw[P.op] at e;cases e;exact(tagT _ hb).2 rfl⟩
 have nO:O∉M':=fun hx=>by
  rcases hM1 O hx with ⟨g|g|g|g,_⟩|g
  ·subst g;omega
  ·subst g;omega
  ·subst g;omega
  ·omega
  ·omega
 have RO:=q2.same hs' nO;have CA:=P.calls.same stot hM0 ha
 have TT:kt w' (lj w W W1 nz i tag) (3+2*i) tv':=fun c hc=>by
  obtain⟨g,g2⟩:=htvb c hc;refine⟨by omega,?_⟩;rcases g with e|e
  ·exact(ha c (P.tt c e).1).trans (tv1 c e)
  ·exact c5a l1 l2 e g2
 have TE:=h.te.up stot.size ha
 have hev':w'.ownsRow 0 47 27 evv (evs.set u.ev e2).length ((evs.set u.ev e2).flatMap EvC.enc):=by
  have g:=hA'.own EvC.enc_len (by rw[List.length_set];exact P.c1) P.c2;rw[P.ev];rw[List.length_set] at g ⊢;exact g
 have hxl:=(bk.1 P.hx0).1;have hel:=(bk.1 P.he).1
 have EV:∀e',EvAt w' (lj w W W1 nz i tag) e2 e'→∀(j:Nat)(x:EvC)(y:Ev),(evs.set u.ev e2)[j]?=some x→(s.evs.set u.ev e')[j]?=some y→EvAt w' (lj w W W1 nz i tag) x y:=fun e' he' j x y hx hy=>by
  by_cases g:j=u.ev
  ·subst g;rw[List.getElem?_set_self hxl] at hx;rw[List.getElem?_set_self hel] at hy;cases hx;cases hy;exact he'
  ·rw[List.getElem?_set_ne (fun g'=>g g'.symm)] at hx hy;exact(h.evat j x y hx hy).same stot hM0 ha
 have hX2:Row w' X 69 #[pt V,zl tb tks.length tcap,.map (some Mp),evv,ci ((s.time+1:Nat):Int)]:=by
  rw[P.ev];exact hX'
 have hnm:=h.nms;have X0:=P.he0.same stot hM0 ha
 have hat:(if 1≤o'.at_∧o'.at_≤u.times.length+1 then wat (u.times++[s.time+1]) (o'.at_-1) else x0.at_)=(if 1≤r.at_∧r.at_≤(u.times++[s.time+1]).length then wat (u.times++[s.time+1]) (r.at_-1) else e0.at_):=by
  rw[q7,P.he0.at_,List.length_append,List.length_singleton]
 have BEL:Below lo w w':=stot.below hn0 fun x hx=>by
  have h0:=hM0 x hx
  have h4:4<x:=by
   simp only[List.mem_filter,List.mem_append,List.mem_singleton,decide_eq_true_eq] at hx;rcases Nat.lt_or_ge 4 x with h4|h4
   ·exact h4
   ·have hx1:=z10 x h4;rcases hx.1 with (e|e)|e
    ·have:=lows.x;omega
    ·rcases q12 x e with g|g|g|g|g
     ·have:=g.1.1;omega
     ·subst g;omega
     ·omega
     ·omega
     ·omega
    ·rcases hM1 x e with ⟨g|g|g|g,_⟩|g
     ·have:=lows.mp;omega
     ·omega
     ·omega
     ·omega
     ·omega
  rcases Nat.lt_or_ge x lo with h5|h5
  ·exact absurd (hlow x h5 h4) h0
  ·exact h5
 refine⟨?_,BEL⟩;have hlow':lo≤w'.heap.size∧∀b,b<lo→4<b→lj w W W1 nz i tag b=0:=⟨nlt hn0 stot.size,fun b hb h4=>(ha b (by omega)).trans (hlow b hb h4)⟩;cases m' with
 | none=>
  obtain⟨⟨gv,av,rfl,⟨n1,c1,g1,g2,g3⟩,n2,c2,g4,g5,g6⟩,hmap,bs,bi,b1,b2,b3,b4,rR,rbs,rbi⟩:=hT rfl;refine⟨_,_,_,_,_,_,h.next stot ha P.hR P.hp hio hMt rfl (Nat.le_succ _) hX2 VH hmap (by show nm+1≤s.time+1+(s.evs.set u.ev _).length+3;rw[List.length_set];omega) (fun j hj=>by rw[fj (qt hj),fj (qt hj)]) ?_ hev' (by simpa[Sys.stepped] using h.el) (EV _ ?_) h.low.ev TE,hlow'⟩
  ·refine⟨⟨ca,cc,_,rR,CA,Or.inl ⟨42,bs,bi,rfl,b6s b1 b3,b6s b2 b4,rbs,rbi,Or.inr ⟨rfl,Or.inr rfl⟩⟩⟩,P.len,sl',OWN,gw _ _ _,fun _=>?_⟩;rw[q8]
   rfl
  ·obtain⟨e9,e10⟩:=q9 rfl;refine⟨X0.task,X0.kd,X0.tp,X0.frm,hat,rfl,e9,e10,X0.set,X0.few,X0.t1,X0.o1,X0.words,⟨⟨n1,c1,j5 g1,g2,g3⟩,fun b hb=>⟨ie g1 b hb,b6t l1 l2 hn1 (fw g1 b hb)⟩,b6u g1⟩,⟨⟨n2,c2,j5 g4,g5,g6⟩,fun b hb=>⟨ie g4 b hb,b6t l1 l2 hn1 (fw g4 b hb)⟩,b6u g4⟩⟩
 | some m1=>
  obtain⟨rfl,hmap,rR⟩:=hF rfl;refine⟨_,_,_,_,_,_,h.next stot ha P.hR P.hp hio hMt rfl (Nat.le_succ _) hX2 VH hmap (by show nm+1≤s.time+1+(s.evs.set u.ev _).length+3;rw[List.length_set];omega) (fun j hj=>fj (qt hj) _) ?_ hev' (by simpa[Sys.stepped] using h.el) (EV _ ?_) h.low.ev TE,hlow'⟩
  ·refine⟨⟨ca,cc,_,rR,CA,P.does.same stot hM0 ha (by rw[P.hu];rfl) rfl⟩,P.len,sl',OWN,O,o',tv',?_,(ha O lO).trans tO,RO,?_,?_,?_,gw _ _ _,?_,TT⟩
   ·rw[q8];exact P.op
   ·exact q6
   ·rw[q5,P.st,List.length_append,List.length_singleton]
   ·rw[q5];exact(q10 m1 rfl).cut.same hs' offT tagT
   ·rw[List.length_append,List.length_singleton];exact htv'
  ·exact⟨X0.task,X0.kd,X0.tp,X0.frm,hat,X0.to_,X0.code,X0.gen,X0.set,X0.few,X0.t1,X0.o1,X0.words,X0.gens,X0.awords⟩
end
def m7(w W W1:World)(i:Nat)(tag:Nat→Nat)(b:Nat):Nat:=if b<w.heap.size then tag b else if b<W.heap.size then 0 else if b<W1.heap.size then 2+2*i else 1
section
variable{E:Env}{ps:List (List PC)}{w W W1:World}{X:Nat}{tag:Nat→Nat}{s:Sys}{V A tb tcap Mp nm nz:Nat}{v:dg}{ows:List Own}{fm:Lit→Option Value}{evv:Value}{evs:List EvC}{tks:List Nat}{i:Nat}{k:Tk}
theorem b2p:mq w tag (m7 w W W1 i tag):=fun b hb=>by unfold m7;rw[if_pos hb]
theorem b6v{b:Nat}(h1:w.heap.size≤b)(h2:b<W.heap.size):m7 w W W1 i tag b=0:=by unfold m7;rw[if_neg (by omega),if_pos h2]
theorem b6w{b:Nat}(h0:w.heap.size≤W.heap.size)(h1:W.heap.size≤b)(h2:b<W1.heap.size):m7 w W W1 i tag b=2+2*i:=by unfold m7;rw[if_neg (by omega),if_neg (by omega),if_pos h2]
theorem c5b{b:Nat}(h0:w.heap.size≤W.heap.size)(h1:W.heap.size≤W1.heap.size)(h2:W1.heap.size≤b):m7 w W W1 i tag b=1:=by unfold m7;rw[if_neg (by omega),if_neg (by omega),if_neg (by omega)]
theorem jw.bel{V A:Nat}{ws:List Nat}(h:jw E W V v A ws ows)(hb:Below W.heap.size W W1):jw E W1 V v A ws ows:=by
 have hs:ab [] W W1:=ab.of_below hb;exact h.turn hs (h.bank.same hs (by simp) (by simp)) rfl (h.owns.same hs (by simp)) rfl (fun _ hb=>by cases hb)
theorem Rd.nil:Rd W tag (zn):=⟨⟨0,[],Has.nil W 1,fun _ h=>(by cases h),by omega⟩,fun b h=>(by cases h),rfl⟩
theorem mj.offs(h:mj E ps w X tag s V v A ows tb tcap Mp nm fm evv evs tks){R:Nat}{cs:Array Value}(r1:Row w R 73 cs){b:Nat}{t:TypeId}{cs':Array Value}(hr:Row w b t cs')(t1:t≠69)(t2:t≠47)(t3:t≠70)(t4:t≠73):b∉[X,Mp,tb,R]∧evv.ownBlock≠some b:=by
 refine⟨?_,fun e=>ck h.ev hr (fun e=>t2 e.symm) (by simpa using e)⟩;simp only[List.mem_cons,List.not_mem_nil,or_false,not_or];exact⟨hr.ne h.x t1,h.mp.ne hr,(Row.ne_arr h.tbs hr (fun e=>t3 e.symm)).symm,hr.ne r1 t4⟩
def BegQ(E:Env)(w:World)(T:Nat→Prop)(V:Nat)(v:dg)(A:Nat)(ws:List Nat)(ows:List Own)(i:Nat)(ow:Own)(f:Int→Bool)(ns:Nat)(c:PC)(W W':World)(O:Nat):Prop:=
 ∃o m,Below w.heap.size w W∧W.heap.size≤O∧ab [v.Y] W W'∧Row W' O 122 (OpC.cells o V v.Y i)∧o.steps=0∧o.ended=false∧jw E W' V v A ws (ows.set i {ow with op:=some O})∧jy E c f m∧eh E W' (fun b=>T b∨(W.heap.size≤b∧b≠O)) O 0 v o ns m
theorem c0w(h:mj E ps w X tag s V v A ows tb tcap Mp nm fm evv evs tks){R:Nat}{p:List PC}{ow:Own}{sl:List Sub}{c:PC}{cc:bu}{ca:Option Addr}{cn:Nat}{dz:Value}{W' W6:World}{O lo:Nat}(hn0:lo≤w.heap.size)(hlow:∀b,b<lo→4<b→tag b=0)(hR:tks[i]?=some R)(hp:ps[i]?=some p)(ho:ows[i]?=some ow)(row:Row w R 73 #[.slice ca p.length cn,ci k.next,dz])(calls:nl w tag ca p)(hlen:p.length≤100)(hc:p[k.next]?=some c)(hcc:vl w tag cc c)(hown:ke E w (fun b=>tag b=2+2*i∧ow.op≠some b) ow k.f sl s.time)(hQ:BegQ E w (Cut w fun b=>tag b=2+2*i) V v A s.ws ows i ow k.f sl.length c W W' O)(hB:b6x w W W' W6 X V Mp nm tb tcap tks.length i R s.time O fm (.slice ca p.length cn) k.next evs cc evv):∃m tag' evv',jy E c k.f m∧mj E ps W6 X tag' (s.begun i k c m) V v A (ows.set i {ow with op:=some O}) tb tcap Mp (nm+1) (il fm (ig (i:Int)) (some (.agg #[pt O,ci evs.length,zn]))) evv' (evs++[cc.ev i (s.time+1)]) tks∧Below lo w W6∧∀b,b<lo→4<b→tag' b=0:=by
 obtain⟨o,m,hb,hO,hsY,rO,hst,hen,hveh,hbeg,hmach⟩:=hQ;obtain⟨eg,ec,bs,bi,M',-,hs',hM',hX',hA',hc1,hc2,heg,hmp',b1,b2,b3,b4,rR,rbs,rbi⟩:=hB;obtain⟨z1,z2,z3,z4,z5,z6,z7,z8,z9,z10⟩:=h.tags;obtain⟨zR,lR⟩:=z9 R (dh hR);have lows:=h.low;have lR4:=lows.tk R (dh hR);have hX4:=h.x.lt;have hlx:=lows.x;have l1:=hb.size;have l2:=hsY.size;have l3:=hs'.size;have lO:=rO.lt;have hlt:=h.lts;have hil:i<tks.length:=(bk.1 hR).1;have hio:i<ows.length:=(bk.1 ho).1;have ha:mq w tag (m7 w W W' i tag):=b2p;obtain⟨kb,hkb⟩:=h.veh.bank.hd;obtain⟨c2,hy,_⟩:=h.veh.owns.ex;obtain⟨c3,hg,_⟩:=h.veh.spots.ex;have oY:=h.offs row hy (by decide) (by decide) (by decide) (by decide);have oB:=h.offs row hkb (by decide) (by decide) (by decide) (by decide);have oA:=h.offs row h.veh.bank.wd (by decide) (by decide) (by decide) (by decide)
 have oV:=h.offs row h.veh.hv (by decide) (by decide) (by decide) (by decide);have oG:=h.offs row hg (by decide) (by decide) (by decide) (by decide)
 have hM1:∀x∈M',x<w.heap.size∧tag x=1∧4<x∧(x∈[X,Mp,tb,R]∨evv.ownBlock=some x)∧x≠tb∧∀(j R':Nat),j≠i→tks[j]?=some R'→x≠R':=fun x hx=>by
  rcases hM' x hx with g|g
  ·simp only[List.mem_cons,List.not_mem_nil,or_false] at g;rcases g with g|g|g
   ·subst g;refine⟨hX4,z1,hlx,Or.inl (by simp),(Row.ne_arr h.tbs h.x (by decide)).symm,fun j R' hj hR' e=>?_⟩;obtain⟨cs,hr⟩:=h.rows hR';exact h.x.ne hr (by decide) e
   ·subst g;refine⟨h.mp.lt,z3,lows.mp,Or.inl (by simp),(h.mp.ne_arr h.tbs).symm,fun j R' hj hR' e=>?_⟩;obtain⟨cs,hr⟩:=h.rows hR';exact h.mp.ne hr e.symm
   ·subst g;exact⟨lR,zR,lR4,Or.inl (by simp),(Row.ne_arr h.tbs row (by decide)).symm,fun j R' hj hR'=>h.neq hR hR' hj⟩
  ·refine⟨(h.te x g).1,(h.te x g).2,lows.ev x g,Or.inr g,fun e=>jk h.ev h.tbs (by decide) (by rw[←e];simpa using g),fun j R' hj hR' e=>?_⟩;obtain⟨cs,hr⟩:=h.rows hR';exact ck h.ev hr (by decide) (by rw[←e];simpa using g)
 have offM:∀b,b∉[X,Mp,tb,R]∧evv.ownBlock≠some b→b∉M':=fun b hb hx=>(hM1 b hx).2.2.2.1.elim hb.1 hb.2;have stot:=(((ab.of_below (M:=[]) hb).trans hsY).trans hs').cut
 have hMt:∀x∈([]++[v.Y]++M').filter fun b=>decide (b<w.heap.size),tag x=2+2*i∨tag x=3+2*i∨(tag x=1∧x≠tb∧∀(j R':Nat),j≠i→tks[j]?=some R'→x≠R'):=fun x hx=>by
  simp only[List.mem_filter,List.nil_append,List.mem_append,List.mem_singleton,decide_eq_true_eq] at hx;obtain⟨hx|hx,hl⟩:=hx
  ·subst hx;refine Or.inr (Or.inr ⟨z8,(Row.ne_arr h.tbs hy (by decide)).symm,fun j R' hj hR' e=>?_⟩);obtain⟨cs,hr⟩:=h.rows hR';exact hy.ne hr (by decide) e
  ·exact Or.inr (Or.inr ⟨(hM1 x hx).2.1,(hM1 x hx).2.2.2.2⟩)
 have hM0:∀x∈([]++[v.Y]++M').filter fun b=>decide (b<w.heap.size),tag x≠0:=fun x hx=>by
  rcases hMt x hx with g|g|g<;>omega
 have VH:=hveh.turn hs' (hveh.bank.same hs' (offM _ oB) (offM _ oA)) rfl (hveh.owns.same hs' (offM _ oY)) rfl fun b hb=>⟨fun e=>offM _ oV (e▸hb),fun e=>offM _ oG (e▸hb),(hM1 b hb).2.2.1⟩
 have offT:Off M' (Cut W' fun b=>Cut w (fun b=>tag b=2+2*i) b∨(W.heap.size≤b∧b≠O)):=fun b hb ht=>by
  obtain⟨g1,g2,_⟩:=hM1 b hb;rcases ht.1 with g|g
  ·have:=g.1;omega
  ·omega
 have tagT:∀b,Cut W' (fun b=>Cut w (fun b=>tag b=2+2*i) b∨(W.heap.size≤b∧b≠O)) b→m7 w W W' i tag b=2+2*i∧b≠O:=fun b hb=>by
  rcases hb.1 with g|g
  ·exact⟨(ha b g.2).trans g.1,by have:=g.2;omega⟩
  ·exact⟨b6w l1 g.1 hb.2,g.2⟩
 have OW:=hown.cut.same stot (T':=fun b=>m7 w W W' i tag b=2+2*i∧(some O:Option Nat)≠some b) (fun b hb ht=>by
  have:=ht.1.1;simp only[List.mem_filter,List.nil_append,List.mem_append,List.mem_singleton] at hb;rcases hb.1 with g|g
  ·subst g;omega
  ·have:=(hM1 b g).2.1;omega) fun b hb=>⟨(ha b hb.2).trans hb.1.1,fun e=>by cases e;have:=hb.2;omega⟩
 have nO:O∉M':=fun hx=>by have:=(hM1 O hx).1;omega
 have CA:=calls.same stot hM0 ha;have hel:=h.el;have hkl:=(bk.1 hc).1
 have leg:4<eg∧m7 w W W' i tag eg=1:=by
  rcases heg with g|g
  ·exact⟨lows.ev eg g,(ha eg (h.te eg g).1).trans (h.te eg g).2⟩
  ·exact⟨by omega,c5b l1 l2 g⟩
 have hnm:=h.nms;have CC:=hcc.same stot hM0 ha
 have BEL:Below lo w W6:=stot.below hn0 fun x hx=>by
  have h0:=hM0 x hx
  have h4:4<x:=by
   simp only[List.mem_filter,List.nil_append,List.mem_append,List.mem_singleton,decide_eq_true_eq] at hx;rcases hx.1 with e|e
   ·have:=h.veh.low;omega
   ·exact(hM1 x e).2.2.1
  rcases Nat.lt_or_ge x lo with h5|h5
  ·exact absurd (hlow x h5 h4) h0
  ·exact h5
 refine⟨m,m7 w W W' i tag,zl eg (evs.length+1) ec,hbeg,h.next (s':=s.begun i k c m) stot ha hR hp hio hMt rfl (nlr _) hX' VH hmp' (by show nm+1≤s.time+(s.evs++[c.ev i (s.time+1)]).length+3;rw[List.length_append,List.length_singleton];omega) (fun j hj=>fj (qt hj) _) ?_ ?_ ?_ ?_ ?_ ?_,BEL,fun b hb h4=>(ha b (by omega)).trans (hlow b hb h4)⟩
 ·refine⟨⟨ca,cn,_,rR,CA,Or.inl ⟨30,bs,bi,rfl,b6v b1 b3,b6v b2 b4,rbs,rbi,Or.inl ⟨rfl,rfl⟩⟩⟩,⟨hlen,hkl⟩,sl,⟨OW.map,OW.tm,OW.subs,OW.ts,OW.len,OW.tops⟩,O,o,zn,rfl,b6w l1 hO lO,rO.same hs' nO,hen,hst,?_,?_,⟨rfl,Or.inl ⟨rfl,rfl⟩⟩,fun b hb=>by cases hb⟩
  ·rw[hst];exact hmach.cut.same hs' offT tagT
  ·rw[gw,hel]
 ·have g:=hA'.own EvC.enc_len (by simpa using hc1) hc2
  simpa using g
 ·simp[Sys.begun,hel]
 ·intro j x y hx hy;by_cases g:j<evs.length
  ·rw[List.getElem?_append_left g] at hx;have g':j<s.evs.length:=by omega
   simp only[Sys.begun] at hy;rw[List.getElem?_append_left g'] at hy;exact(h.evat j x y hx hy).same stot hM0 ha
  ·rw[List.getElem?_append_right (by omega)] at hx;simp only[Sys.begun] at hy;rw[List.getElem?_append_right (by omega),←hel] at hy
   have e0:j-evs.length=0:=by
    have:=(bk.1 hx).1;simp at this;omega
   rw[e0] at hx hy;cases hx;cases hy;obtain⟨wl,w1,w2⟩:=CC.words;exact⟨rfl,CC.kd,CC.tp,rfl,rfl,rfl,rfl,rfl,CC.set,CC.few.1,CC.t1,CC.o1,⟨⟨_,_,w2,je wl,by have:=CC.few;omega⟩,CC.t2,CC.o2⟩,Rd.nil,Rd.nil⟩
 ·intro b hb;cases hb;exact leg.1
 ·intro b hb;cases hb;exact⟨hA'.lt,leg.2⟩
end
section
variable{E:Env}{ps:List (List PC)}{w:World}{X:Nat}{s:Sys}{V A tb tcap Mp:Nat}{v:dg}{tks:List Nat}{i lo:Nat}{k:Tk}
structure b6y(s:Sys):Prop where
 tm:s.time≤800
 ev:s.evs.length≤800
 times:∀(i:Nat)(k:Tk)(u:Und),s.tks[i]?=some k→k.und=some u→u.times.length≤800∧∃e,s.evs[u.ev]?=some e
theorem c5c(h:Mem E ps w X V v A tb tcap Mp tks lo s)(hE:E.Ok)(hseqs:∀sp∈E.spots,wat s.ws sp.seq≤1000000)(hsm:b6y s){u:Und}(hk:s.tks[i]?=some k)(hu:k.und=some u):Calls Tryz.prog 31 #[pt X,ci i] w fun e w'=>e=.returned (.bool true)∧∃s',qe E s i s'∧Mem E ps w' X V v A tb tcap Mp tks lo s'∧Below lo w w':=by
 obtain⟨tag,ows,nm,fm,evv,evs,hS,hn0,hlow⟩:=h;obtain⟨htl,e0,he⟩:=hsm.times i k u hk hu;obtain⟨R,p,ow,ca,cc,dz,O,o,tv,x0,eg,ec,sl,P⟩:=hS.picked hk hu he;have h1:=hsm.tm;have h2:=hsm.ev;exact(b6n hS P hE hseqs (by omega) (by omega) htl).mono fun e w' hq=>b2o hS P hn0 hlow hq
theorem c0x(h:Mem E ps w X V v A tb tcap Mp tks lo s)(hE:E.Ok)(hseqs:∀sp∈E.spots,wat s.ws sp.seq≤1000000)(hsm:b6y s){p:List PC}(hk:s.tks[i]?=some k)(hu:k.und=none)(hp:ps[i]?=some p):Calls Tryz.prog 18 #[pt X,ci i] w fun e w'=>(e=.returned (.bool false)∧p.length≤k.next∧Below w.heap.size w w')∨(e=.returned (.bool true)∧∃c m s',p[k.next]?=some c∧jy E c k.f m∧qe E (s.begun i k c m) i s'∧Mem E ps w' X V v A tb tcap Mp tks lo s'∧Below lo w w'):=by
 obtain⟨tag,ows,nm,fm,evv,evs,hS,hn0,hlow⟩:=h;obtain⟨R,p',ow,hR,hp',ho,hT⟩:=hS.tasks i k hk;rw[hp] at hp';cases hp';obtain⟨ca,cn,dz,row,calls,does⟩:=hT.row;obtain⟨sl,hown,hun⟩:=hT.own;rw[hu] at hun;obtain⟨hf,hop⟩:=hun;obtain⟨hl1,hl2⟩:=hT.len;have htm:=hsm.tm;have hevl:=hsm.ev;have hil:i<tks.length:=(bk.1 hR).1;have hnt:=hS.nt;have n2:=hE.n2;have hnm:=hS.nms;have hel:=hS.el;have nms:=hS.nms;obtain⟨z1,z2,z3,z4,z5,z6,z7,z8,z9,z10⟩:=hS.tags;by_cases hnx:k.next<p.length
 ·have hc:p[k.next]?=some p[k.next]:=cz hnx;generalize p[k.next]=c at hc;obtain⟨cb,cc,eca,tcb,hcc,hcells⟩:=calls k.next c hc;have hop:=hop hnx
  refine(b6z w X V Mp nm tb tcap tks.length i R s.time p.length k.next cn fm ca dz evv evs tks cc (BegQ E w (Cut w fun b=>tag b=2+2*i) V v A s.ws ows i ow k.f sl.length c)
   (fun e w'=>e=.returned (.bool true)∧∃c m s',p[k.next]?=some c∧jy E c k.f m∧qe E (s.begun i k c m) i s'∧Mem E ps w' X V v A tb tcap Mp tks lo s'∧Below lo w w')
   hS.x hS.mp (by omega) hS.ev hS.tbs hR rfl row (by omega) (by omega) (by omega) (by omega) hcc.o1 hcc.o2 (fun _=>⟨cb,eca,hcells⟩) (fun _ W hb=>?_) (fun W W' W6 O hQ hB=>?_) (fun _ _ hp=>hp.1)).mono fun e w' hq=>hq
  ·obtain⟨wl,w1,w2⟩:=hcc.words;have hfew:=hcc.few;have hw:w.heap.size≤W.heap.size:=hb.size;obtain⟨kb,hkb⟩:=hS.veh.bank.hd;obtain⟨c2,hy,_⟩:=hS.veh.owns.ex
   refine(c4v (E:=E) (T:=Cut w fun b=>tag b=2+2*i) (V:=V) (A:=A) (i:=i) (c:=s.time) (v:=v) (ws:=s.ws) (ows:=ows) (ow:=ow) (f:=k.f) (sl:=sl) (SL:=c.set) (wl:=wl) cc.kd cc.tp cc.sb cc.cp cc.rk cc.sr cc.mo cc.fl cc.fb cc.set cc.words (hS.veh.bel hb) ho hop
    (hown.cut.same (ab.of_below (M:=[]) hb) (io _) fun b hb=>⟨hb.1.1,hb.2⟩) (fun b hb'=>?_) hseqs hE (by omega) (hcc.set.bel hb) (w2.bel hb) (by omega) (by omega)).mono ?_
   ·have hb1:=hb'.1;have hb2:=hb'.2;refine⟨by omega,?_,?_,?_,?_,?_,?_⟩
    ·rcases Nat.lt_or_ge 4 b with g|g
     ·exact g
     ·have:=z10 b g;omega
    all_goals
     intro e;subst e;omega
   ·rintro e W' ⟨O,o,rfl,q1,q2,q3,q4,q5,q6,m,q7,q8⟩
    have ec:(⟨cc.kd,cc.tp,cc.sb,cc.cp,cc.rk,cc.sr,cc.mo,cc.fl,cc.fb,c.set,wl.length⟩:PC)=c:=by
     rw[hcc.kd,hcc.tp,hcc.sb,hcc.cp,hcc.rk,hcc.sr,hcc.mo,hcc.fl,hcc.fb,w1]
    rw[ec] at q7;have oY:=hS.offs row hy (by decide) (by decide) (by decide) (by decide);refine⟨O,[v.Y],rfl,q2,fun x hx=>?_,o,m,hb,q1,q2,q3,q4,q5,q6,q7,q8⟩;simp only[List.mem_singleton] at hx;subst hx;exact⟨hy.lt,oY.1,oY.2⟩
  ·obtain⟨m,tag',evv',hbeg,h6,hb6,hlow6⟩:=c0w hS hn0 hlow hR hp ho row calls hl1 hc hcc hown hQ hB;have hkl:=(bk.1 hk).1
   have hk6:(s.begun i k c m).tks[i]?=some ⟨k.next+1,some ⟨s.evs.length,[],m⟩,k.f⟩:=by
    simp[Sys.begun,hkl]
   have he6:(s.begun i k c m).evs[s.evs.length]?=some (c.ev i (s.time+1)):=by
    simp[Sys.begun]
   obtain⟨R',p',ow',ca',cc',dz',O',o',tv',x0',eg',ec',sl',P⟩:=h6.picked hk6 rfl he6;have hl6:(s.begun i k c m).evs.length=s.evs.length+1:=by simp[Sys.begun]
   refine(b6n h6 P hE hseqs (by show s.time≤900;omega) (by omega) (by show (0:Nat)≤800;omega)).mono fun e w' hq=>?_;obtain⟨g1,s',g2,g3,g4⟩:=b2o h6 P (nlt hn0 hb6.size) hlow6 hq;exact⟨g1,c,m,s',hc,hbeg,g2,g3,hb6.trans g4⟩
 ·refine(b6z w X V Mp nm tb tcap tks.length i R s.time p.length k.next cn fm ca dz evv evs tks ⟨0,0,0,0,0,0,0,0,false,zn,zn⟩ (fun _ _ _=>False) (fun _ _=>False)
   hS.x hS.mp (by omega) hS.ev hS.tbs hR rfl row (by omega) (by omega) (by omega) (by omega) rfl rfl (fun h=>absurd h hnx) (fun h=>absurd h hnx) (fun _ _ _ _ h=>h.elim) (fun _ _ h=>h.elim)).mono fun e w' hq=>hq.elim Or.inl fun h=>h.elim
end
section
variable{E:Env}{ps:List (List PC)}{w w':World}{X lo:Nat}{s:Sys}{V A tb tcap Mp:Nat}{v:dg}{tks:List Nat}
theorem Mem.bel(h:Mem E ps w X V v A tb tcap Mp tks lo s)(hb:Below w.heap.size w w'):Mem E ps w' X V v A tb tcap Mp tks lo s:=by
 obtain⟨tag,ows,nm,fm,evv,evs,hS,hn0,hlow⟩:=h;have ha:mq w tag tag:=fun _ _=>rfl;have hs:ab [] w w':=ab.of_below hb;refine⟨tag,ows,nm,fm,evv,evs,⟨hS.x.bel hb,hS.veh.bel hb,hS.tbs.bel hb,hS.nt,hS.lk,hS.nd,hS.mp.bel hb,hS.nms,fun i k hk=>?_,jb hS.ev hb,hS.el,fun j x e hx he=>(hS.evat j x e hx he).same hs (fun _ h=>by cases h) ha,?_,hS.te.up hb.size ha,hS.low⟩,nlt hn0 hb.size,hlow⟩
 ·obtain⟨R,p,ow,h1,h2,h3,h4⟩:=hS.tasks i k hk;exact⟨R,p,ow,h1,h2,h3,h4.other hs ha (fun _ h=>by cases h) rfl (nlr _)⟩
 ·obtain⟨z1,z2,z3,z4,z5,z6,z7,z8,z9,z10⟩:=hS.tags;exact⟨z1,z2,z3,z4,z5,z6,z7,z8,fun R hR=>⟨(z9 R hR).1,Nat.lt_of_lt_of_le (z9 R hR).2 hb.size⟩,z10⟩
theorem c5d(h:Mem E ps w X V v A tb tcap Mp tks lo s)(hE:E.Ok)(hseqs:∀sp∈E.spots,wat s.ws sp.seq≤1000000)(hsm:b6y s)(i:Nat):Calls Tryz.prog 13 #[pt X,ci i] w fun e w'=>∃b,e=.returned (.bool b)∧∃s',gu E ps s i s'∧Mem E ps w' X V v A tb tcap Mp tks lo s'∧Below lo w w':=by
 have hM:=h;obtain⟨tag,ows,nm,fm,evv,evs,hS,hn0,hlow⟩:=h;by_cases hl:s.tks.length≤i
 ·refine(b4t w X tb tcap tks.length i _ _ _ _ hS.x (by omega) (by rw[hS.nt,←hS.lk];omega)).mono ?_;rintro e w' ⟨rfl,rfl⟩;exact⟨false,rfl,s,.far hl,hM,(Below.refl _ _).mono hn0⟩
 ·have hk:s.tks[i]?=some s.tks[i]:=cz (by omega);generalize s.tks[i]=k at hk;obtain⟨R,p,ow,hR,hp,ho,hT⟩:=hS.tasks i k hk;obtain⟨ca,cn,dz,row,calls,does⟩:=hT.row
  have beg:k.und=none→Calls Tryz.prog 18 #[pt X,ci i] w fun e w'=>∃b,e=.returned (.bool b)∧∃s',gu E ps s i s'∧Mem E ps w' X V v A tb tcap Mp tks lo s'∧Below lo w w':=fun hu=>by
   refine(c0x hM hE hseqs hsm hk hu hp).mono ?_;rintro e w' (⟨rfl,g1,g2⟩|⟨rfl,c,m,s',g1,g2,g3,g4⟩)
   ·exact⟨false,rfl,s,.ended hk hp hu g1,hM.bel g2,g2.mono hn0⟩
   ·exact⟨true,rfl,s',.begin_ hk hp hu g1 g2 g3,g4⟩
  rcases does with ⟨fn,bs,bi,rfl,t1,t2,r1,r2,g⟩|⟨hu,hn,rfl⟩
  ·rcases g with ⟨hu,rfl⟩|⟨hu,rfl|rfl⟩
   ·refine b0w w X tb tcap i R 30 _ _ _ _ _ _ _ tks (fun e w'=>∃s',gu E ps s i s'∧Mem E ps w' X V v A tb tcap Mp tks lo s'∧Below lo w w') hS.x hS.tbs hR row (c0y _) ?_;refine c8d w bs bi X i _ r1 r2 ?_;obtain⟨u,hu⟩:=Option.isSome_iff_exists.1 hu;refine(c5c hM hE hseqs hsm hk hu).mono ?_;rintro e w' ⟨rfl,s',g1,g2⟩;exact⟨true,rfl,s',.step hk (by rw[hu];simp) g1,g2⟩
   ·refine b0w w X tb tcap i R 17 _ _ _ _ _ _ _ tks (fun e w'=>∃s',gu E ps s i s'∧Mem E ps w' X V v A tb tcap Mp tks lo s'∧Below lo w w') hS.x hS.tbs hR row (c0z _) ?_;exact c8e w bs bi X i _ r1 r2 (beg hu)
   ·refine b0w w X tb tcap i R 42 _ _ _ _ _ _ _ tks (fun e w'=>∃s',gu E ps s i s'∧Mem E ps w' X V v A tb tcap Mp tks lo s'∧Below lo w w') hS.x hS.tbs hR row (c1a _) ?_;exact c8f w bs bi X i _ r1 r2 (beg hu)
  ·refine b0w w X tb tcap i R 20 _ _ _ _ _ _ _ tks (fun e w'=>∃s',gu E ps s i s'∧Mem E ps w' X V v A tb tcap Mp tks lo s'∧Below lo w w') hS.x hS.tbs hR row (c1b _) ?_;refine(c5e w).mono ?_;rintro e w' ⟨rfl,rfl⟩;exact⟨false,rfl,s,.ended hk hp hu hn,hM,(Below.refl _ _).mono hn0⟩
theorem c5f(h:Mem E ps w X V v A tb tcap Mp tks lo s)(hE:E.Ok)(i:Nat):Calls Tryz.prog 12 #[pt X,ci i] w fun e w'=>∃b,e=.returned (.bool b)∧∃s',gu E ps s (-1-(i:Int)) s'∧Mem E ps w' X V v A tb tcap Mp tks lo s'∧Below lo w w':=by
 have hM:=h;obtain⟨tag,ows,nm,fm,evv,evs,hS,hn0,hlow⟩:=h;by_cases hl:s.tks.length≤i
 ·refine(b8f w X tks.length i tb tcap _ _ _ _ hS.x (by omega) (by rw[hS.nt,←hS.lk];omega)).mono ?_;rintro e w' ⟨rfl,rfl⟩;exact⟨false,rfl,s,.none_ (by omega),hM,(Below.refl _ _).mono hn0⟩
 ·have hk:s.tks[i]?=some s.tks[i]:=cz (by omega);generalize s.tks[i]=k at hk;obtain⟨R,p,ow,hR,hp,ho,hT⟩:=hS.tasks i k hk;obtain⟨ca,cn,dz,row,calls,does⟩:=hT.row;have hlk:=hS.lk;have n2:=hE.n2;obtain⟨hl1,hl2⟩:=hT.len;obtain⟨z1,z2,z3,z4,z5,z6,z7,z8,z9,z10⟩:=hS.tags;have zR:=(z9 R (dh hR)).1
  have done:∀(e:Ending)(w':World),(e=.returned (.bool true)∧ab [Mp,R] w w'∧a8 Tryz.prog 3 w' Mp nm (il fm (ig (i:Int)) none)∧Row w' R 73 #[.slice ca p.length cn,ci p.length,.func (.func 20) #[] #[]])→∃b,e=.returned (.bool b)∧∃s',gu E ps s (-1-(i:Int)) s'∧Mem E ps w' X V v A tb tcap Mp tks lo s'∧Below lo w w':=by
   rintro e w' ⟨rfl,hs,hm,hr⟩;have ha:mq w tag tag:=fun _ _=>rfl;have hio:=(bk.1 ho).1;obtain⟨kb,hkb⟩:=hS.veh.bank.hd;obtain⟨c2,hy,_⟩:=hS.veh.owns.ex;obtain⟨c3,hg,_⟩:=hS.veh.spots.ex
   have off:∀{b:Nat}{t:TypeId}{cs:Array Value},Row w b t cs→t≠73→b∉[Mp,R]:=fun hr t1=>by
    simp only[List.mem_cons,List.not_mem_nil,or_false,not_or];exact⟨hS.mp.ne hr,hr.ne row t1⟩
   have hM0:∀x∈[Mp,R],tag x=1:=fun x hx=>by
    simp only[List.mem_cons,List.not_mem_nil,or_false] at hx;rcases hx with g|g<;>subst g
    ·exact z3
    ·exact zR
   have VH:jw E w' V v A s.ws (ows.set i ow):=by
    rw[m8 ho];refine hS.veh.turn hs (hS.veh.bank.same hs (off hkb (by decide)) (off hS.veh.bank.wd (by decide))) rfl (hS.veh.owns.same hs (off hy (by decide))) rfl fun b hb=>⟨fun e=>off hS.veh.hv (by decide) (e▸hb),fun e=>off hg (by decide) (e▸hb),?_⟩;simp only[List.mem_cons,List.not_mem_nil,or_false] at hb;rcases hb with g|g<;>subst g
    ·exact hS.low.mp
    ·exact hS.low.tk _ (dh hR)
   have BEL:Below lo w w':=hs.below hn0 fun x hx=>by
    have h1:=hM0 x hx
    have h4:4<x:=by
     simp only[List.mem_cons,List.not_mem_nil,or_false] at hx;rcases hx with g|g<;>subst g
     ·exact hS.low.mp
     ·exact hS.low.tk _ (dh hR)
    rcases Nat.lt_or_ge x lo with h5|h5
    ·have:=hlow x h5 h4;omega
    ·exact h5
   refine⟨true,rfl,_,.drop rfl hk hp,⟨tag,ows.set i ow,nm,il fm (ig (i:Int)) none,evv,evs,hS.next (s':=⟨s.ws,s.time,s.evs,s.tks.set i ⟨p.length,none,k.f⟩⟩) (kk:=⟨p.length,none,k.f⟩) hs ha hR hp hio (fun b hb=>Or.inr (Or.inr ⟨hM0 b hb,?_⟩)) rfl (nlr _) (hS.x.same hs (off hS.x (by decide))) VH hm hS.nms (fun j hj=>fj (qt hj) _) ?_ (ai hS.ev hs fun b hb hx=>?_) hS.el (fun j x e hx he=>(hS.evat j x e hx he).same hs (fun b hb=>by have:=hM0 b hb;omega) ha) hS.low.ev (hS.te.up hs.size ha),nlt hn0 hs.size,hlow⟩,BEL⟩
   ·simp only[List.mem_cons,List.not_mem_nil,or_false] at hb;rcases hb with g|g
    ·subst g;refine⟨(hS.mp.ne_arr hS.tbs).symm,fun j R' hj hR' e=>?_⟩;obtain⟨cs,hr⟩:=hS.rows hR';exact hS.mp.ne hr e.symm
    ·subst g;exact⟨(Row.ne_arr hS.tbs row (by decide)).symm,fun j R' hj hR'=>hS.neq hR hR' hj⟩
   ·obtain⟨sl,o1,o2⟩:=hT.own;refine⟨⟨ca,cn,_,hr,calls.same hs (fun b hb=>by have:=hM0 b hb;omega) ha,Or.inr ⟨rfl,nlr _,rfl⟩⟩,⟨hl1,nlr _⟩,sl,o1.same hs (fun b hb ht=>by have:=hM0 b hb;have:=ht.1;omega) (fun _ h=>h),gw _ _ _,fun h=>absurd h (Nat.lt_irrefl _)⟩
   ·simp only[List.mem_cons,List.not_mem_nil,or_false] at hx;rcases hx with g|g<;>subst g
    ·exact lu hS.ev hS.mp hb
    ·exact ck hS.ev row (by decide) (by simpa using hb)
  obtain⟨sl,o1,o2⟩:=hT.own;cases hu:k.und with
  | some u=>
   rw[hu] at o2;obtain⟨O,o,tv,g1,g2,g3,g4,g5,g6,g7,g8,g9⟩:=o2;obtain⟨ta,tc,rfl⟩:=ax g8;refine(c1c w X Mp nm i tb tcap tks.length R p.length k.next cn false fm _ _ _ dz ca tks hS.x hS.mp (by omega) hS.tbs hR rfl row (c1d w X Mp nm i fm _ _ _ _ _ _ _ _ _ hS.x hS.mp (by omega) g7)).mono ?_;rintro e w' (⟨h0,_⟩|⟨-,h1⟩)
   ·cases h0
   ·exact done e w' h1
  | none=>
   rw[hu] at o2;refine(c1c w X Mp nm i tb tcap tks.length R p.length k.next cn (decide (p.length≤k.next)) fm _ _ _ dz ca tks hS.x hS.mp (by omega) hS.tbs hR rfl row (c1e w X Mp nm i tb tcap tks.length R p.length k.next cn fm _ _ _ dz ca tks hS.x hS.mp (by omega) o2.1 hS.tbs hR rfl row)).mono ?_;rintro e w' (⟨h0,rfl,hb⟩|⟨-,h1⟩)
   ·have hn:k.next=p.length:=by
     have:=of_decide_eq_true h0;omega
    refine⟨false,rfl,_,.drop rfl hk hp,?_⟩
    have ek:k=⟨p.length,none,k.f⟩:=by
     cases k;simp only at hn hu;subst hn hu
     rfl
    rw[←ek,m8 hk];exact⟨hM.bel hb,hb.mono hn0⟩
   ·exact done e w' h1
end
end Go.Proofs.YtojkaibpfdhmaaaGreatDoor

/- A call's beginning: Op.begin. -/
import Derived.Test.YtojkaibpfdhmaaaGreatDoorP35
import Derived.Test.YtojkaibpfdhmaaaGreatDoorP29
import Derived.Test.YtojkaibpfdhmaaaGreatDoorP16
namespace Go.Proofs.YtojkaibpfdhmaaaGreatDoor
open Go.RowKit
set_option maxRecDepth 100000
set_option maxHeartbeats 16000000
theorem c2t(caps:Array Value)(W:World):Sem.run Tryz.prog (callFunc 61 caps) W=.ok (.enter 61 caps) W:=by
 go_simp
theorem uc(caps:Array Value)(W:World):Sem.run Tryz.prog (callFunc 116 caps) W=.ok (.enter 116 caps) W:=by
 go_simp
theorem b9g(caps:Array Value)(W:World):Sem.run Tryz.prog (callFunc 120 caps) W=.ok (.enter 120 caps) W:=by
 go_simp
theorem b0k(caps:Array Value)(W:World):Sem.run Tryz.prog (callFunc 101 caps) W=.ok (.enter 101 caps) W:=by
 go_simp
theorem b9h(caps:Array Value)(W:World):Sem.run Tryz.prog (callFunc 106 caps) W=.ok (.enter 106 caps) W:=by
 go_simp
section
variable{E:Env}{w:World}{T:Nat→Prop}{V A i O k c ns:Nat}{v:dg}{ws:List Nat}{ows:List Own}{o:OpC}{ow:Own}{f:Int→Bool}{sl:List Sub}{m:ib}
theorem c7m{n0 n1:Nat}{W:World}{vv:Value}(h:n0≤n1)(hs:fq n1 W vv):fq n0 W vv:=by
 obtain⟨n,cs,a1,a2,a3,a4⟩:=hs;exact⟨n,cs,a1,a2,a3,fun b hb=>nlt h (a4 b hb)⟩
def Fn(v:Value):Prop:=∃fd caps,v=.func (.func fd) #[] caps∧∀W,Sem.run Tryz.prog (callFunc fd caps) W=.ok (.enter fd caps) W
theorem ki.fn{ty P fd:Nat}{dc:Array Value}{fv:Value}(h:ki w T O ty P fd dc fv):Fn fv:=by
 obtain⟨bm,bo,bd,h1,_⟩:=h;exact⟨120,_,h1,fun W=>b9g _ W⟩
theorem eh.fn(h:eh E w T O k v o ns m):Fn o.next:=by
 cases m with
 | ref er=>
  obtain⟨_,_,_,be,bo,h1,_⟩:=h;exact⟨61,_,h1,fun W=>c2t _ W⟩
 | adv t=>
  obtain⟨_,_,_,ba,bo,bp,h1,_⟩:=h;exact⟨116,_,h1,fun W=>uc _ W⟩
 | one=>
  obtain⟨_,⟨t,s,_,_,_,ba,bo,bp,bs,h1,_⟩|⟨x,_,ba,bo,bp,bx,h1,_⟩⟩:=h
  ·exact⟨116,_,h1,fun W=>uc _ W⟩
  ·exact⟨116,_,h1,fun W=>uc _ W⟩
 | wr t l x=>
  obtain⟨_,_,_,s,nx,q,n,_,_,_,P,D,cc,bw,bo,h1,_⟩:=h;exact h1.fn
 | rd t l x=>
  obtain⟨_,_,_,s,X,_,_,_,_,_,_,P,D,bw,bo,h1,_⟩:=h;exact h1.fn
 | look tops l ld=>
  obtain⟨_,_,_,⟨rl,xs,x,gs,us,SL,bS,cS,_,⟨P,g2,c2,D1,D2,bs,br,bp,bo,gr,cr,gp,cp,h1,_⟩,_⟩|⟨x,sl,ts,wv,nw,_,P,G,C,g2,c2,bw,bo,h1,_⟩⟩:=h
  ·exact h1.fn
  ·exact h1.fn
 | ar l sw=>
  obtain⟨_,_,_,x,_,_,_,_,_,P,ba,bo,bw,h1,_⟩:=h;exact⟨101,_,h1,fun W=>b0k _ W⟩
 | md=>
  obtain⟨_,x,_,_,_,_,_,P,ba,bo,bw,h1,_⟩:=h;exact⟨101,_,h1,fun W=>b0k _ W⟩
 | lg a=>
  obtain⟨_,_,_,_,_,bl,bo,P,wd,st,h1,_⟩:=h;exact⟨106,_,h1,fun W=>b9h _ W⟩
theorem c9a{fd:Nat}{caps:Array Value}(h:Ctx E w T V v A ws ows i O o ow f sl c)(hk:o.steps=k+1)(hm:eh E w T O k v o sl.length m)(hn:o.next=.func (.func fd) #[] caps):Calls Tryz.prog fd caps w (ir E w T V v A ws ows i O o ow f c m):=by
 cases m with
 | ref er=>exact c9b h hm hn
 | adv t=>exact c9c h hm hn
 | one=>
  obtain⟨hc,⟨t,s,h1,h2,h3,h4⟩|⟨x,h1,h2⟩⟩:=hm
  ·exact c9d h hc h1 h2 h3 h4 hn
  ·exact c9e h hc h1 h2 hn
 | wr t l x=>exact d0v h hk hm hn
 | rd t l x=>exact d0w h hk hm hn
 | look tops l ld=>
  obtain⟨hc,h1,h2,⟨rl,xs,x,gs,us,SL,bS,cS,g1,g2,g3,g4,g5,g6⟩|⟨x,ps,ts,wv,nw,g1,g2⟩⟩:=hm
  ·exact d0x h hk hc h1 h2 g1 g2 g3 g4 g5 g6 hn
  ·exact d0y h hk hc h1 h2 g1 g2 hn
 | ar l sw=>exact d0z h hk hm hn
 | md=>exact d1a h hk hm hn
 | lg a=>exact d1b h hm hn
theorem eh.next{o':OpC}(h:eh E w T O k v o ns m)(h1:o'.next=o.next)(h2:o'.topic=o.topic)(h3:o'.set=o.set)(h4:o'.code=o.code)(h5:o'.gen=o.gen)(h6:o'.at_=o.at_)(h7:o'.gens=o.gens)(h8:o'.awords=o.awords):eh E w T O k v o' ns m:=by
 have hcl:ja o→ja o':=fun h=>⟨h4.trans h.code,h5.trans h.gen,h6.trans h.at_,h7.trans h.gens,h8.trans h.words⟩;cases m with
 | ref er=>exact⟨hcl h.1,h.2.1,h.2.2.1,h1▸h.2.2.2⟩
 | adv t=>exact⟨hcl h.1,h2.trans h.2.1,h.2.2.1,h1▸h.2.2.2⟩
 | one=>
  obtain⟨g1,⟨t,s,g2,g3,g4,g5⟩|⟨x,g2,g3⟩⟩:=h
  ·exact⟨hcl g1,Or.inl ⟨t,s,h2.trans g2,g3,g4,h1▸g5⟩⟩
  ·exact⟨hcl g1,Or.inr ⟨x,g2,h1▸g3⟩⟩
 | wr t l x=>
  obtain⟨g1,g2,g3,s,nx,q,n,g4,g5,g6,g7⟩:=h;exact⟨hcl g1,g2,g3,s,nx,q,n,g4,g5,g6,h1▸g7⟩
 | rd t l x=>
  obtain⟨g1,g2,g3,s,X,g4,g5,g6,g7,g8,g9,g10⟩:=h;exact⟨hcl g1,g2,g3,s,X,g4,g5,g6,g7,g8,g9,h1▸g10⟩
 | look tops l ld=>
  obtain⟨g1,g2,g3,⟨rl,xs,x,gs,us,SL,bS,cS,k1,k2,k3,k4,k5,k6⟩|⟨x,sl,ts,wv,nw,k1,k2⟩⟩:=h
  ·exact⟨hcl g1,g2,g3,Or.inl ⟨rl,xs,x,gs,us,SL,bS,cS,k1,h1▸k2,h3.trans k3,k4,k5,k6⟩⟩
  ·exact⟨hcl g1,g2,g3,Or.inr ⟨x,sl,ts,wv,nw,k1,h1▸k2⟩⟩
 | ar l sw=>
  obtain⟨g1,g2,g3,x,g4,g5,g6,g7,g8,g9⟩:=h;exact⟨hcl g1,g2,g3,x,g4,g5,g6,g7,g8,h1▸g9⟩
 | md=>
  obtain⟨g1,x,g4,g5,g6,g7,g8,g9⟩:=h;exact⟨hcl g1,x,g4,g5,g6,g7,g8,h1▸g9⟩
 | lg a=>exact⟨h4.trans h.1,h5.trans h.2.1,h6.trans h.2.2.1,h7.trans h.2.2.2.1,h8.trans h.2.2.2.2.1,h1▸h.2.2.2.2.2⟩
def c9f(E:Env)(w:World)(T:Nat→Prop)(V:Nat)(v:dg)(A:Nat)(ws:List Nat)(ows:List Own)(i O:Nat)(o:OpC)(ow:Own)(f:Int→Bool)(c:Nat)(m:ib)(e:Ending)(w':World):Prop:=
 ∃ws' m' r o' ow' sl',e=.returned (.bool m'.isNone)∧dq E (o.steps+1) ws m ws' m' r∧Row w' O 122 (o'.cells V v.Y i)∧jw E w' V v A ws' (ows.set i ow')∧ke E w' (ji T w) ow' (jm f m) sl' (c+1) ∧
  o'.steps=o.steps+1∧o'.ended=m'.isNone∧o'.at_=r.at_∧ow'.op=(if m'.isNone then none else ow.op)∧(m'=none→o'.code=r.code∧o'.gen=r.gen∧fq w.heap.size w' o'.gens∧fq w.heap.size w' o'.awords) ∧
  (∀m1,m'=some m1→eh E w' (ji T w) O o'.steps v o' sl'.length m1)∧∃M,ab M w w'∧∀b∈M,T b∨b=O∨b=v.B∨b=A∨b=v.Y
theorem c4u(h:Ctx E w T V v A ws ows i O o ow f sl c)(hst:o.steps+1≤1000)(hen:o.ended=false)(hm:eh E w T O o.steps v o sl.length m):Calls Tryz.prog 39 #[pt O] w (c9f E w T V v A ws ows i O o ow f c m):=by
 obtain⟨fd,caps,hn,hfa⟩:=hm.fn;obtain⟨n1,n2,n3,n4,n5,n6,n7,n8,n9,n10,n11,n12,n13,n14⟩:=h.neO;have lo:=h.lO;have lw:=h.veh.low;have hlen:=(bk.1 h.hi).1
 have offO:Off [O] T:=fun b hb ht=>by
  have:=h.sep b ht;simp only[List.mem_singleton] at hb;omega
 refine(c9g w O V v.Y i fd caps o (fun b W' o' ows'=>∃ws' m' r ow' sl',b=m'.isNone∧ows'=ows.set i ow'∧dq E (o.steps+1) ws m ws' m' r∧Row W' O 122 (o'.cells V v.Y i)∧jw E W' V v A ws' (ows.set i ow')∧ke E W' (ji T w) ow' (jm f m) sl' (c+1) ∧
  o'.steps=o.steps+1∧o'.ended=false∧o'.at_=r.at_∧ow'.op=ow.op∧(m'=none→o'.code=r.code∧o'.gen=r.gen∧fq w.heap.size W' o'.gens∧fq w.heap.size W' o'.awords) ∧
  (∀m1,m'=some m1→eh E W' (ji T w) O (o.steps+1) v o' sl'.length m1)∧∃M,ab M w W'∧∀b∈M,T b∨b=O∨b=v.B∨b=A∨b=v.Y) hfa h.hr hen hn (by omega) ?_).mono ?_
 ·intro W hs hr
  have hC:Ctx E W T V v A ws ows i O {o with steps:=o.steps+1} ow f sl c:=
   ⟨hr,h.veh.turn hs (h.veh.bank.same hs (by simpa using n2.symm) (by simpa using n3.symm)) rfl (h.veh.owns.same hs (by simpa using n5.symm)) rfl (fun b hb=>by
    simp only[List.mem_singleton] at hb;subst hb;exact⟨n1,n4,lo⟩),h.hi,h.own.same hs offO (fun _ h=>h),h.sep,lo,h.seqs,h.ok,h.c1,hst⟩
  have hm':eh E W T O o.steps v {o with steps:=o.steps+1} sl.length m:=(hm.same hs offO (fun _ h=>h)).next rfl rfl rfl rfl rfl rfl rfl rfl;refine(c9a hC rfl hm' hn).mono ?_;rintro e W' ⟨ws',m',r,o',ow',sl',rfl,g1,g2,g3,g4,g5,g6,g7,g8,g9,g10,M,g11,g12⟩;have hgr:∀b,ji T W b→ji T w b:=fun b hb=>hb.imp id (nlt hs.size);refine⟨m'.isNone,o',ows.set i ow',ow',rfl,⟨ws',m',r,ow',sl',rfl,rfl,g1,g2,g3,g4.same (ab.refl [] W') (fun _ h=>by cases h) hgr,g5,g6.trans hen,g7,g8,fun e=>⟨(g9 e).1,(g9 e).2.1,c7m hs.size (g9 e).2.2.1,c7m hs.size (g9 e).2.2.2⟩,fun m1 e=>(g10 m1 e).same (ab.refl [] W') (fun _ h=>(by cases h)) hgr,_,hs.trans g11,fun b hb=>?_⟩,g2,g6.trans hen,g3.owns,by simp[hlen]⟩;rw[List.mem_append,List.mem_singleton] at hb;rcases hb with e|hb
  ·exact Or.inr (Or.inl e)
  ·exact g12 b hb
 ·rintro e w' ⟨b,W1,o',ows',ow2,rfl,⟨ws',m',r,ow',sl',rfl,rfl,g1,g2,g3,g4,g5,g6,g7,g8,g9,g10,M,g11,g12⟩,hi2,hs2,hf,ht⟩
  have e2:ow2=ow':=by
   simp[hlen] at hi2;exact hi2.symm
  subst e2;cases m' with
  | some m1=>
   have:=hf rfl;subst this;exact⟨ws',some m1,r,o',_,sl',rfl,g1,g2,g3,g4,g5,g6,g7,g8,fun e=>(by cases e),fun m2 e=>(by rw[g5];exact g10 m2 e),M,g11,g12⟩
  | none=>
   obtain⟨hr2,hy2⟩:=ht rfl;rw[List.set_set] at hy2;obtain⟨q1,q2,q3,q4⟩:=g9 rfl
   have offG:Off [O,v.Y] (ji T w):=fun b hb ht=>by
    have hb':b=O∨b=v.Y:=by simpa using hb
    rcases ht with ht|ht
    ·have:=h.sep b ht;omega
    ·have h1:=h.hr.lt;obtain⟨cur,hr',_⟩:=h.veh.owns.ex;have h2:=hr'.lt;omega
   obtain⟨fm,nm,k1,k2,k3⟩:=g4.map;have seenS:∀vv,fq w.heap.size W1 vv→fq w.heap.size w' vv:=fun vv ⟨n,cs,a1,a2,a3,a4⟩=>⟨n,cs,a1.same hs2 fun b hb=>offG.n (Or.inr (a4 b hb)),a2,a3,a4⟩;refine⟨ws',none,r,{o' with ended:=true},{ow2 with op:=none},sl',rfl,g1,hr2,?_,⟨⟨fm,nm,k1.same hs2 (offG.n g4.tm),k2,k3⟩,g4.tm,ai g4.subs hs2 fun b hb=>offG.n (g4.ts b hb),g4.ts,g4.len,g4.tops⟩,g5,rfl,g7,rfl,fun _=>⟨q1,q2,?_,?_⟩,fun m2 e=>(by cases e),_,g11.trans hs2,fun b hb=>?_⟩
   ·refine g3.turn hs2 (g3.bank.same hs2 ?_ ?_) rfl hy2 (by simp) fun b hb=>?_
    ·simp only[List.mem_cons,List.not_mem_nil,or_false,not_or];exact⟨n2.symm,n10.symm⟩
    ·simp only[List.mem_cons,List.not_mem_nil,or_false,not_or];exact⟨n3.symm,n11.symm⟩
    ·have hb':b=O∨b=v.Y:=by simpa using hb
     rcases hb' with e|e
     ·subst e;exact⟨n1,n4,lo⟩
     ·subst e;exact⟨n12.symm,n13.symm,lw.2.2.2.2⟩
   ·exact seenS _ q3
   ·exact seenS _ q4
   ·rw[List.mem_append] at hb;rcases hb with hb|hb
    ·exact g12 b hb
    ·have hb':b=O∨b=v.Y:=by simpa using hb
     rcases hb' with e|e<;>simp[e]
end
section
variable{E:Env}{W:World}{T:Nat→Prop}{O k ns:Nat}{v:dg}{o:OpC}{m:ib}{fv:Value}
def Cut(W:World)(T:Nat→Prop)(b:Nat):Prop:=T b∧b<W.heap.size
theorem Arr.lt'{α:Type}{enc:α→List Value}{sz g E':Nat}{l:List α}(h:Arr enc sz W g E' l):g<W.heap.size:=by
 obtain⟨cur,hr,_⟩:=h.ex;exact hr.lt
theorem oe.cut{er:Int}(h:oe W T O er fv):oe W (Cut W T) O er fv:=by
 obtain⟨be,bo,h1,t1,t2,r1,r2⟩:=h;exact⟨be,bo,h1,⟨t1,r1.lt⟩,⟨t2,r2.lt⟩,r1,r2⟩
theorem ul.cut(h:ul W T O fv):ul W (Cut W T) O fv:=by
 obtain⟨ba,bo,bp,h1,t1,t2,t3,r1,r2,r3⟩:=h;exact⟨ba,bo,bp,h1,⟨t1,r1.lt⟩,⟨t2,r2.lt⟩,⟨t3,r3.lt⟩,r1,r2,r3⟩
theorem ki.cut{ty P fd:Nat}{dc:Array Value}(h:ki W T O ty P fd dc fv)(hP:P<W.heap.size):ki W (Cut W T) O ty P fd dc fv:=by
 obtain⟨bm,bo,bd,h1,t1,t2,t3,t4,r1,r2,r3⟩:=h;exact⟨bm,bo,bd,h1,⟨t1,r1.lt⟩,⟨t2,r2.lt⟩,⟨t3,r3.lt⟩,⟨t4,hP⟩,r1,r2,r3⟩
theorem ro.cut{s:am}(h:ro W T O s fv):ro W (Cut W T) O s fv:=by
 obtain⟨ba,bo,bp,bs,h1,t1,t2,t3,t4,r1,r2,r3,r4⟩:=h;exact⟨ba,bo,bp,bs,h1,⟨t1,r1.lt⟩,⟨t2,r2.lt⟩,⟨t3,r3.lt⟩,⟨t4,r4.lt⟩,r1,r2,r3,r4⟩
theorem rp.cut{x:Sub}(h:rp W T O x fv):rp W (Cut W T) O x fv:=by
 obtain⟨ba,bo,bp,bs,h1,t1,t2,t3,t4,r1,r2,r3,r4⟩:=h;exact⟨ba,bo,bp,bs,h1,⟨t1,r1.lt⟩,⟨t2,r2.lt⟩,⟨t3,r3.lt⟩,⟨t4,r4.lt⟩,r1,r2,r3,r4⟩
theorem WrAt.cut{s:am}{nx l k q n:Nat}(h:WrAt W T O s nx l k q n fv):WrAt W (Cut W T) O s nx l k q n fv:=by
 obtain⟨P,D,c,bw,bo,h1,t1,t2,t3,r1,r2,r3,cur,r4,h2⟩:=h;exact⟨P,D,c,bw,bo,h1.cut r3.lt,⟨t1,r4.lt⟩,⟨t2,r1.lt⟩,⟨t3,r2.lt⟩,r1,r2,r3,cur,r4,h2⟩
theorem RdAt.cut{x:ROp}(h:RdAt W T O x fv):RdAt W (Cut W T) O x fv:=by
 obtain⟨P,D,bw,bo,h1,t1,t2,t3,r1,r2,r3,gs,h2,r4⟩:=h;exact⟨P,D,bw,bo,h1.cut r3.lt,⟨t1,r4.lt⟩,⟨t2,r1.lt⟩,⟨t3,r2.lt⟩,r1,r2,r3,gs,h2,r4⟩
theorem SnAt.cut{rl:List Int}{xs:List am}{x:SOp}{gs us:List Nat}(h:SnAt W T O rl xs x gs us fv):SnAt W (Cut W T) O rl xs x gs us fv:=by
 obtain⟨P,g2,c2,D1,D2,bs,br,bp,bo,gr,cr,gp,cp,h1,t1,t2,t3,t4,t5,t6,t7,t8,t9,h2,h3,r1,r2,r3,r4,r5,r6,r7,r8,r9,r10⟩:=h;exact⟨P,g2,c2,D1,D2,bs,br,bp,bo,gr,cr,gp,cp,h1.cut r5.lt,⟨t1,r8.lt'⟩,⟨t2,r6.lt⟩,⟨t3,r7.lt⟩,⟨t4,r1.lt⟩,⟨t5,r2.lt⟩,⟨t6,r3.lt⟩,⟨t7,r4.lt⟩,⟨t8,r9.lt'⟩,⟨t9,r10.lt'⟩,h2,h3,r1,r2,r3,r4,r5,r6,r7,r8,r9,r10⟩
theorem zu.cut{vv:Value}(h:zu T W vv):zu (Cut W T) W vv:=by
 rcases h with h|⟨b,a,t1,h1,r1⟩|⟨b,fl,t1,h1,r1⟩
 ·exact Or.inl h
 ·exact Or.inr (Or.inl ⟨b,a,⟨t1,r1.lt⟩,h1,r1⟩)
 ·exact Or.inr (Or.inr ⟨b,fl,⟨t1,r1.lt⟩,h1,r1⟩)
theorem zv.cut{wr:Bool}{x:AOp}(h:zv W T O wr x fv):zv W (Cut W T) O wr x fv:=by
 obtain⟨P,ba,bo,bw,h1,t1,t2,t3,t4,r1,r2,r3,r4,d⟩:=h;exact⟨P,ba,bo,bw,h1,⟨t1,r4.lt⟩,⟨t2,r1.lt⟩,⟨t3,r2.lt⟩,⟨t4,r3.lt⟩,r1,r2,r3,r4,d.cut⟩
theorem LgAt.cut(h:LgAt W T O v fv):LgAt W (Cut W T) O v fv:=by
 obtain⟨bl,bo,P,wd,st,h1,t1,t2,t3,r1,r2,r3⟩:=h;exact⟨bl,bo,P,wd,st,h1,⟨t1,r1.lt⟩,⟨t2,r2.lt⟩,⟨t3,r3.lt⟩,r1,r2,r3⟩
theorem PlAt.cut{x:POp}{sl:List Sub}{ts:List Tpc}{wv:Value}{nw:Nat}(h:PlAt W T O x sl ts wv nw fv):PlAt W (Cut W T) O x sl ts wv nw fv:=by
 obtain⟨P,G,C,g2,c2,bw,bo,h1,t1,t2,t3,t4,t5,r1,r2,r3,r4,r5,us,r6⟩:=h;exact⟨P,G,C,g2,c2,bw,bo,h1.cut r3.lt,⟨t1,r4.lt'⟩,⟨t2,r5.lt'⟩,⟨t3,r1.lt⟩,⟨t4,r2.lt⟩,fun b hb=>⟨t5 b hb,ie r6 b hb⟩,r1,r2,r3,r4,r5,us,r6⟩
theorem eh.cut(h:eh E W T O k v o ns m):eh E W (Cut W T) O k v o ns m:=by
 cases m with
 | ref er=>exact⟨h.1,h.2.1,h.2.2.1,h.2.2.2.cut⟩
 | adv t=>exact⟨h.1,h.2.1,h.2.2.1,h.2.2.2.cut⟩
 | one=>
  obtain⟨h1,⟨t,s,h2,h3,h4,h5⟩|⟨x,h2,h3⟩⟩:=h
  ·exact⟨h1,Or.inl ⟨t,s,h2,h3,h4,h5.cut⟩⟩
  ·exact⟨h1,Or.inr ⟨x,h2,h3.cut⟩⟩
 | wr t l x=>
  obtain⟨h1,h2,h3,s,nx,q,n,h4,h5,h6,h7⟩:=h;exact⟨h1,h2,h3,s,nx,q,n,h4,h5,h6,h7.cut⟩
 | rd t l x=>
  obtain⟨h1,h2,h3,s,X,h4,h5,h6,h7,h8,h9,h10⟩:=h;exact⟨h1,h2,h3,s,X,h4,h5,h6,h7,h8,h9,h10.cut⟩
 | look tops l ld=>
  obtain⟨h1,h2,h3,⟨rl,xs,x,gs,us,SL,bS,cS,g1,g2,g3,g4,g5,g6⟩|⟨x,sl,ts,wv,nw,g1,g2⟩⟩:=h
  ·exact⟨h1,h2,h3,Or.inl ⟨rl,xs,x,gs,us,SL,bS,cS,g1,g2.cut,g3,⟨g4,g5.lt'⟩,g5,g6⟩⟩
  ·exact⟨h1,h2,h3,Or.inr ⟨x,sl,ts,wv,nw,g1,g2.cut⟩⟩
 | ar l sw=>
  obtain⟨h1,h2,h3,x,h4,h5,h6,h7,h8,h9⟩:=h;exact⟨h1,h2,h3,x,h4,h5,h6,h7,h8,h9.cut⟩
 | md=>
  obtain⟨h1,x,h4,h5,h6,h7,h8,h9⟩:=h;exact⟨h1,x,h4,h5,h6,h7,h8,h9.cut⟩
 | lg a=>exact⟨h.1,h.2.1,h.2.2.1,h.2.2.2.1,h.2.2.2.2.1,h.2.2.2.2.2.cut⟩
theorem ke.cut{ow:Own}{f:Int→Bool}{sl:List Sub}{c:Nat}(h:ke E W T ow f sl c):ke E W (Cut W T) ow f sl c:=by
 obtain⟨fm,nm,g1,g2,g3⟩:=h.map;exact⟨h.map,⟨h.tm,g1.lt⟩,h.subs,fun b hb=>⟨h.ts b hb,ie h.subs b hb⟩,h.len,h.tops⟩
end
def c2u(o:OpC)(SL:List Int)(nw:Nat):PC:=⟨o.kind,o.topic,o.sub,o.cap,o.rank,o.src,o.mode,o.flags,o.free,SL,nw⟩
def iu(E:Env)(W:World)(T:Nat→Prop)(O:Nat)(v:dg)(o:OpC)(ns:Nat)(f:Int→Bool)(SL:List Int)(nw:Nat)(fv:Value):Prop:=
 ∃m,jy E (c2u o SL nw) f m∧eh E W T O 0 v {o with next:=fv} ns m
structure qn(E:Env)(W:World)(T:Nat→Prop)(V:Nat)(v:dg)(A:Nat)(ws:List Nat)(ows:List Own)(i O:Nat)(o:OpC)(ow:Own)(f:Int→Bool)(sl:List Sub)(c:Nat)(SL:List Int)(wl:List Nat):Prop where
 x:Ctx E W T V v A ws ows i O o ow f sl c
 cl:ja o
 set:(o.set=zn∧SL=[])∨∃bS cS,o.set=zl bS SL.length cS∧SL.length≤cS∧T bS∧Arr gj 1 W bS 3 SL
 words:Has W 1 o.words wl.length (bj wl).toList
section
variable{E:Env}{W W':World}{T T':Nat→Prop}{V A i O c ns nw:Nat}{v:dg}{ws:List Nat}{ows:List Own}{o:OpC}{ow:Own}{f:Int→Bool}{sl:List Sub}{SL:List Int}{wl:List Nat}{fv:Value}
theorem iu.bel(h:iu E W T O v o ns f SL nw fv)(hb:Below W.heap.size W W'):iu E W' T O v o ns f SL nw fv:=by
 obtain⟨m,h1,h2⟩:=h;exact⟨m,h1,h2.same (ab.of_below (M:=[]) hb) (io _) fun _ h=>h⟩
theorem iu.drew(h:iu E W T O v o ns f SL nw fv):iu E W.drew T O v o ns f SL nw fv:=h.bel ((Below.refl _ W).drew)
theorem iu.drewN(h:iu E W T O v o ns f SL nw fv)(k:Nat):iu E (W.drewN k) T O v o ns f SL nw fv:=h.bel (below_drewN (Below.refl _ W) k)
theorem iu.mono(h:iu E W T O v o ns f SL nw fv)(ht:∀b,T b→T' b):iu E W T' O v o ns f SL nw fv:=by
 obtain⟨m,h1,h2⟩:=h;exact⟨m,h1,h2.same (ab.refl [] W) (io _) ht⟩
theorem qn.bel(h:qn E W T V v A ws ows i O o ow f sl c SL wl)(hb:Below W.heap.size W W'):qn E W' T V v A ws ows i O o ow f sl c SL wl:=
 ⟨h.x.nil (ab.of_below hb),h.cl,h.set.imp id fun ⟨bS,cS,h1,h2,h3,h4⟩=>⟨bS,cS,h1,h2,h3,h4.bel hb⟩,h.words.bel hb⟩
theorem lz{er:Int}(hc:ja o)(hf:js er)(h0:er≠0)(hs:¬ Sure E (c2u o SL nw) f)(h:oe W T O er fv):iu E W T O v o ns f SL nw fv:=
 ⟨.ref er,.ref hf h0 hs,⟨hc.code,hc.gen,hc.at_,hc.gens,hc.words⟩,hf,h0,h⟩
theorem pe(hc:ja o)(hk:3≤o.kind)(h:RefF W T O fv):iu E W T O v o ns f SL nw fv:=by
 obtain⟨er,⟨h1,h2⟩,h3⟩:=h;refine lz hc h1 h2 (fun hs=>?_) h3;rcases hs.1.k with ⟨e,_⟩|⟨e,_⟩|⟨e,_⟩<;>(have e:o.kind=_:=e;omega)
theorem ja.nx(hc:ja o):ja {o with next:=fv}:=⟨hc.code,hc.gen,hc.at_,hc.gens,hc.words⟩
theorem lp(T:Nat→Prop)(W:World):∀b,W.heap.size≤b→ji T W b:=fun _ h=>Or.inr h
theorem c9h{t:Nat}(h:qn E W T V v A ws ows i O o ow f sl c SL wl)(hk:o.kind=0)(ht:o.topic=t)(hl:t<E.spots.length):Calls Tryz.prog 49 #[pt O] W fun e W'=>∃fv k,e=.returned (.tuple #[fv,ci k])∧Below W.heap.size W W'∧iu E W' (ji T W) O v o sl.length f SL wl.length fv:=by
 obtain⟨fm,nm,g1,g2,g3⟩:=h.x.own.map;have k2:=h.x.ok.k2;refine(d1c W O V i ow.m nm v o t ows ow fm h.x.hr ht (by omega) h.x.veh.owns h.x.hi rfl g1).mono ?_;rintro e W' ⟨fv,k,rfl,hb,⟨hf,hr⟩|⟨hf,ha⟩⟩
 ·rw[g3 t (by omega)] at hf
  exact⟨fv,k,rfl,hb,(lz h.cl ⟨by decide,by decide⟩ (by decide) (fun hs=>by
   have h1:=hs.2.1 hk;have h2:o.topic=0:=hs.1.z.1;rw[ht] at h2;rw[h2,h1] at hf;cases hf) hr).mono (lp T W)⟩
 ·exact⟨fv,k,rfl,hb,.adv t,.adv hk ht hl,h.cl.nx,ht,hl,ha.same (ab.refl [] W') (io _) (lp T W)⟩
theorem c9i{t:Nat}{s:am}(h:qn E W T V v A ws ows i O o ow f sl c SL wl)(hk:o.kind=1)(ht:o.topic=t)(hsp:E.spots[t]?=some s):Calls Tryz.prog 50 #[pt O,.agg s.cells] W fun e W'=>∃fv k,e=.returned (.tuple #[fv,ci k])∧Below W.heap.size W W'∧iu E W' (ji T W) O v o sl.length f SL wl.length fv:=by
 obtain⟨fm,nm,g1,g2,g3⟩:=h.x.own.map;obtain⟨f1,f2,f3,f4,f5⟩:=rm h.x.ok hsp;have k2:=h.x.ok.k2;have t1:=h.x.ok.t1;have t2:=h.x.ok.t2;have htr:=h.x.veh.tr;have hft:=g3 t (by omega);have ht0:∀{z:Int},o.topic=z→z=0→t=0:=fun h1 h2=>by omega
 have key:Calls Tryz.prog 50 #[pt O,.agg s.cells] W fun e w'=>∃fv k,e=.returned (.tuple #[fv,ci k])∧Below W.heap.size W w'∧vd (fm (ig t)).isSome wl.length s v.tr w' (fun b=>W.heap.size≤b) O fv:=by
  cases hf:fm (ig (t:Int)) with
  | none=>
   have:=b5r W O V i ow.m nm v o s (by omega) (by omega) t ows ow fm wl h.x.hr h.x.veh.hv ht (by omega) h.x.veh.owns h.x.hi rfl g1 h.words hf
   rwa [hf] at this
  | some u=>
   rw[←hf];by_cases hw:wl.length=s.words
   ·exact c2s W O V i ow.m nm v o s f1 (by omega) (by omega) t ows ow fm wl h.x.hr h.x.veh.hv ht (by omega) h.x.veh.owns h.x.hi rfl g1 h.words (by rw[hf];rfl) hw
   ·exact c2r W O V i ow.m nm v o s f1 (by omega) (by omega) t ows ow fm wl h.x.hr h.x.veh.hv ht (by omega) h.x.veh.owns h.x.hi rfl g1 h.words (by rw[hf];rfl) hw
 refine key.mono ?_;rintro e W' ⟨fv,k,rfl,hb,⟨hf,hr⟩|⟨hf,hw,hr⟩|⟨hf,hw,ha⟩⟩
 ·rw[hft] at hf
  exact⟨fv,k,rfl,hb,(lz h.cl ⟨by decide,by decide⟩ (by decide) (fun hs=>by
   have h1:=(hs.2.2 hk).1;have h2:o.topic=0:=hs.1.z.1;rw[ht] at h2;rw[h2,h1] at hf;cases hf) hr).mono (lp T W)⟩
 ·exact⟨fv,k,rfl,hb,(lz h.cl ⟨by decide,by decide⟩ (by decide) (fun hs=>by
   obtain⟨_,s',h1,h3⟩:=hs.2.2 hk;have h2:o.topic=0:=hs.1.z.1;have:t=0:=by omega
   subst this;rw[hsp] at h1;cases h1;exact hw h3.symm) hr).mono (lp T W)⟩
 ·have ha':=ha.same (ab.refl [] W') (io _) (lp T W);rw[htr] at ha';exact⟨fv,k,rfl,hb,.wr t E.tries .look,.wr hk ht f5,h.cl.nx,t1,nlr _,s,0,0,0,hsp,by omega,⟨rfl,rfl⟩,ha'⟩
theorem c6b{t:Nat}{s:am}(h:qn E W T V v A ws ows i O o ow f sl c SL wl)(hk:o.kind=2)(ht:o.topic=t)(hsp:E.spots[t]?=some s):Calls Tryz.prog 51 #[pt O,.agg s.cells] W fun e W'=>∃fv k,e=.returned (.tuple #[fv,ci k])∧Below W.heap.size W W'∧iu E W' (ji T W) O v o sl.length f SL wl.length fv:=by
 obtain⟨f1,f2,f3,f4,f5⟩:=rm h.x.ok hsp;have t1:=h.x.ok.t1;have t2:=h.x.ok.t2;have htr:=h.x.veh.tr;refine(c8z W O V i v o s f1 (by omega) (by omega) h.x.hr h.x.veh.hv).mono ?_;rintro e W' ⟨fv,k,rfl,hb,ha⟩;have ha':=ha.same (ab.refl [] W') (io _) (lp T W);exact⟨fv,k,rfl,hb,.rd t E.tries .first,.rd hk ht f5,h.cl.nx,t1,nlr _,s,(⟨s,v.tr,0,0,0,0,0,0⟩:ROp),hsp,rfl,htr,rfl,rfl,rfl,ha'⟩
theorem c9j{t:Nat}{s:am}(h:qn E W T V v A ws ows i O o ow f sl c SL wl)(hk:o.kind=4)(ht:o.topic=t)(hsp:E.spots[t]?=some s):Calls Tryz.prog 53 #[pt O,.agg s.cells] W fun e W'=>∃fv k,e=.returned (.tuple #[fv,ci k])∧Below W.heap.size W W'∧iu E W' (ji T W) O v o sl.length f SL wl.length fv:=by
 obtain⟨f1,f2,f3,f4,f5⟩:=rm h.x.ok hsp;refine(d0p W O V i v o s f1 ows ow sl h.x.hr h.x.veh.owns h.x.hi h.x.own.subs).mono ?_;rintro e W' ⟨fv,k,rfl,hb,hr|⟨hns,ha⟩⟩
 ·exact⟨fv,k,rfl,hb,(pe h.cl (by omega) hr).mono (lp T W)⟩
 ·exact⟨fv,k,rfl,hb,.one,.one (Or.inl hk),h.cl.nx,Or.inl ⟨t,s,ht,hsp,hns,ha.same (ab.refl [] W') (io _) (lp T W)⟩⟩
theorem c9k(h:qn E W T V v A ws ows i O o ow f sl c SL wl)(hk:o.kind=6):Calls Tryz.prog 55 #[pt O] W fun e W'=>∃fv k,e=.returned (.tuple #[fv,ci k])∧Below W.heap.size W W'∧iu E W' (ji T W) O v o sl.length f SL wl.length fv:=by
 refine(d0q W O V i v o ows ow sl h.x.hr h.x.veh.owns h.x.hi h.x.own.subs h.x.own.len).mono ?_;rintro e W' ⟨fv,k,rfl,hb,hr|⟨x,hx,ha⟩⟩
 ·exact⟨fv,k,rfl,hb,(pe h.cl (by omega) hr).mono (lp T W)⟩
 ·exact⟨fv,k,rfl,hb,.one,.one (Or.inr hk),h.cl.nx,Or.inr ⟨x,h.x.own.tops x hx,ha.same (ab.refl [] W') (io _) (lp T W)⟩⟩
theorem b5s(h:qn E W T V v A ws ows i O o ow f sl c SL wl)(hk:o.kind=7∨o.kind=8∨o.kind=9):Calls Tryz.prog 56 #[pt O] W fun e W'=>∃fv k,e=.returned (.tuple #[fv,ci k])∧Below W.heap.size W W'∧iu E W' (ji T W) O v o sl.length f SL wl.length fv:=by
 have t1:=h.x.ok.t1;have t2:=h.x.ok.t2;have htr:=h.x.veh.tr
 have fin:∀(md:Bool),(md=true→o.kind=9)→(md=false→o.kind=7∨o.kind=8)→∀(e:Ending)(W':World),(∃fv k,e=.returned (.tuple #[fv,ci k])∧Below W.heap.size W W'∧ub md v.tr W' (fun b=>W.heap.size≤b) O fv)→∃fv k,e=.returned (.tuple #[fv,ci k])∧Below W.heap.size W W'∧iu E W' (ji T W) O v o sl.length f SL wl.length fv:=by
  rintro md h1 h2 e W' ⟨fv,k,rfl,hb,hr|⟨dec,ha,hd⟩⟩
  ·exact⟨fv,k,rfl,hb,(pe h.cl (by omega) hr).mono (lp T W)⟩
  ·have ha':=ha.same (ab.refl [] W') (io _) (lp T W);cases md
   ·exact⟨fv,k,rfl,hb,.ar E.tries none,.ar (h2 rfl),h.cl.nx,t1,nlr _,_,rfl,htr,rfl,rfl,rfl,ha'⟩
   ·exact⟨fv,k,rfl,hb,.md,.md (h1 rfl),h.cl.nx,_,rfl,hd rfl,rfl,rfl,rfl,ha'⟩
 rcases hk with hk|hk|hk
 ·by_cases hr:(0≤o.src∧o.src<4)∧(0≤o.mode∧o.mode<8)
  ·exact(c2c W O V i v o h.x.hr h.x.veh.hv (by omega) (by omega) hk hr).mono (fin false (fun h=>by cases h) (fun _=>Or.inl hk))
  ·exact(b8v W O V i v o h.x.hr h.x.veh.hv (by omega) (by omega) hk hr).mono (fin false (fun h=>by cases h) (fun _=>Or.inl hk))
 ·by_cases hr:0≤o.flags∧o.flags≤63
  ·exact(c2d W O V i v o h.x.hr h.x.veh.hv (by omega) (by omega) hk hr).mono (fin false (fun h=>by cases h) (fun _=>Or.inr hk))
  ·exact(b8w W O V i v o h.x.hr h.x.veh.hv (by omega) (by omega) hk hr).mono (fin false (fun h=>by cases h) (fun _=>Or.inr hk))
 ·exact(c2b W O V i v o h.x.hr h.x.veh.hv (by omega) (by omega) hk).mono (fin true (fun _=>hk) (fun h=>by cases h))
theorem c6c(h:qn E W T V v A ws ows i O o ow f sl c SL wl)(hk:o.kind=3)(h1:1≤SL.length)(h64:SL.length≤64)(hnd:SL.Nodup):Calls Tryz.prog 52 #[pt O] W fun e W'=>∃fv k,e=.returned (.tuple #[fv,ci k])∧Below W.heap.size W W'∧iu E W' (ji T W) O v o sl.length f SL wl.length fv:=by
 have t1:=h.x.ok.t1;have t2:=h.x.ok.t2;have htr:=h.x.veh.tr;obtain⟨bS,cS,hset,hcS,tS,rS⟩:=h.set.resolve_left fun hn=>by rw[hn.2] at h1;simp at h1
 have lS:bS<W.heap.size:=by
  obtain⟨cur,hr,_⟩:=rS.ex;exact hr.lt
 refine(c9l W O V i v o E.spots SL bS 0 cS h.x.hr h.x.veh.hv h.x.veh.spots h.x.veh.k (fun s hs=>(h.x.ok.ok s hs).1) hset (Arr.toAt rS) lS h1 h64 (by omega) (by omega)).mono ?_;rintro e W' ⟨fv,k,rfl,hb,hr|⟨rl,xs,hper,hrose,ha⟩⟩
 ·exact⟨fv,k,rfl,hb,(pe h.cl (by omega) hr).mono (lp T W)⟩
 ·have ha':=ha.same (ab.refl [] W') (io _) (lp T W);have hlen:=hper.length_eq
  have hr0:∀r∈rl,∃t:Nat,r=t∧t<E.spots.length:=fun r hr=>by
   obtain⟨j,hj⟩:=mig.1 hr;obtain⟨t,s,e1,e2,_⟩:=hrose.2 j r (bk.1 hj).1 hj;exact⟨t,e1,(bk.1 e2).1⟩
  have hmap:rl=(rl.map Int.toNat).map (fun t:Nat=>(t:Int)):=by
   rw[List.map_map]
   conv=>lhs;rw[←List.map_id rl]
   exact List.map_congr_left fun r hr=>by
    obtain⟨t,e,_⟩:=hr0 r hr;subst e
    rfl
  have hxl:=hrose.1;refine⟨fv,k,rfl,hb,.look (rl.map Int.toNat) E.tries [],.sn hk fun t ht=>?_,h.cl.nx,t1,nlr _,Or.inl ⟨rl,xs,_,_,_,SL,bS,cS,⟨htr,rfl,rfl,by omega,by omega,by simp,by simp,by show 0<_;omega,hmap,hper.nodup_iff.2 hnd,by simp[hxl],fun j t hj=>?_,fun j t hj _=>absurd hj (Nat.not_lt_zero _)⟩,ha',hset,Or.inl tS,rS.bel hb,hper.symm⟩⟩
  ·obtain⟨r,hr,e⟩:=List.mem_map.1 ht;obtain⟨t',e',hl⟩:=hr0 r hr;subst e';have e:t'=t:=e;subst e;exact⟨hl,hper.mem_iff.1 hr⟩
  ·rw[List.getElem?_map] at hj;obtain⟨r,hr,e⟩:=Option.map_eq_some_iff.1 hj;obtain⟨t',s,e1,e2,e3⟩:=hrose.2 j r (bk.1 hr).1 hr;subst e1;have e:t'=t:=e;subst e;exact⟨s,e2,e3⟩
theorem c6d(h:qn E W T V v A ws ows i O o ow f sl c SL wl)(hk:o.kind=5):Calls Tryz.prog 54 #[pt O] W fun e W'=>∃fv k,e=.returned (.tuple #[fv,ci k])∧Below W.heap.size W W'∧iu E W' (ji T W) O v o sl.length f SL wl.length fv:=by
 have t1:=h.x.ok.t1;have t2:=h.x.ok.t2;have htr:=h.x.veh.tr;have hl8:=h.x.own.len;refine(c8k W O V i v o ows ow sl E.spots h.x.hr h.x.veh.hv h.x.veh.owns h.x.hi h.x.own.subs hl8 h.x.veh.spots h.x.veh.k (fun s hs=>(h.x.ok.ok s hs).1) h.x.own.tops (by omega) (by omega)).mono ?_;rintro e W' ⟨fv,k,rfl,hb,hr|⟨h1,s,hpl,P,G,C,g2,c2,ts,bw,bo,hthr,q1,q2,q3,q4,r1,r2,r3,r4,r5,hm1,hm2,hts,hall⟩⟩
 ·exact⟨fv,k,rfl,hb,(pe h.cl (by omega) hr).mono (lp T W)⟩
 ·have hpk:∀t∈ts,t.gen=0∧E.spots[t.n]?=some t.spot:=fun t ht=>by
   obtain⟨h0,i,x,y,e1,e2,e3,e4⟩:=hts t ht;refine⟨h0,?_⟩;rw[e3,e4];exact hpl.2 i x y e1 e2
  refine⟨fv,k,rfl,hb,.look (ts.map Tpc.n) E.tries [],.po hk fun t ht=>?_,h.cl.nx,t1,nlr _,Or.inr ⟨(⟨v.tr,1,0,-1,0,0,0,0,0,0⟩:POp),sl,ts,zn,0,⟨htr,rfl,rfl,h1,hl8,hm1,hm2,by omega,hall,h.x.own.tops,fun t ht=>⟨List.mem_map.2 ⟨t,ht,rfl⟩,(hpk t ht).2,by rw[(hpk t ht).1];omega⟩,⟨by show (-1:Int) ≤ -1;omega,by show (-1:Int)<_;omega⟩,Or.inl ⟨rfl,by show 0<_;omega,fun j t hj _=>absurd hj (Nat.not_lt_zero _)⟩⟩,
   ⟨P,G,C,g2,c2,bw,bo,hthr.same (ab.refl [] W') (io _) (lp T W),Or.inr q1,Or.inr q2,Or.inr q3,Or.inr q4,fun b hb=>(by cases hb),r1,r2,r3,r4,r5,[],World.ownsRow_nil _ _ _ _⟩⟩⟩
  obtain⟨x,hx,e⟩:=List.mem_map.1 ht;subst e;exact(bk.1 (hpk x hx).2).1
end
theorem kz{T:Nat→Prop}{w W:World}(h:Below w.heap.size w W):∀b,ji T W b→ji T w b:=fun _ hb=>hb.imp id (nlt h.size)
theorem b0r{E:Env}{w:World}{T:Nat→Prop}{V A i O c:Nat}{v:dg}{ws:List Nat}{ows:List Own}{o:OpC}{ow:Own}{f:Int→Bool}{sl:List Sub}{SL:List Int}{wl:List Nat}(h:qn E w T V v A ws ows i O o ow f sl c SL wl)(hSL:SL.length≤1000):Calls Tryz.prog 38 #[pt O] w fun e w'=>∃fv k,e=.returned (.tuple #[fv,ci k])∧Below w.heap.size w w'∧iu E w' (ji T w) O v o sl.length f SL wl.length fv:=by
 have HX:=qh h;have hok:=h.x.ok;have HR0:=h.x.hr;have HV0:=h.x.veh.hv;have HG0:=h.x.veh.spots;have HF0:=h.x.veh.fields;have hkk:=qh h.x.veh.k
 obtain⟨sa,sc,es,hsl⟩:∃sa sc,o.set=.slice sa SL.length sc∧gy gj 1 w (.slice sa SL.length sc) SL:=by
  rcases h.set with ⟨h1,h2⟩|⟨bS,cS,h1,h2,_,h4⟩
  ·subst h2;exact⟨none,0,h1,Or.inl ⟨rfl,rfl⟩⟩
  ·exact⟨_,cS,h1,Or.inr ⟨bS,0,cS,rfl,h2,Arr.toAt h4⟩⟩
 obtain⟨wa,wc,ew⟩:∃wa wc,o.words=.slice wa wl.length wc:=by
  rcases h.words.shape with ⟨h1,h2⟩|⟨a,cc,h1,_⟩
  ·exact⟨none,0,by rw[h1,h2]⟩
  ·exact⟨_,_,h1⟩
 clear h;obtain⟨kd,tp,sb,cp,rk,sr,mo,fl,fb,se,wy,nx,en,co,su,ge,cn,lo,⟨zm,zs,zh,zf,ze⟩,gv,av,st,at_⟩:=o;simp only at es ew;subst es ew;simp only[OpC.cells,dg.cells] at HR0 HV0;generalize ho0:(⟨kd,tp,sb,cp,rk,sr,mo,fl,fb,.slice sa SL.length sc,.slice wa wl.length wc,nx,en,co,su,ge,cn,lo,⟨zm,zs,zh,zf,ze⟩,gv,av,st,at_⟩:OpC)=o0 at HX;have HE:=qh ho0;clear ho0;have HR:Hd (Row w O 122 #[pt V,.pointer (some ⟨v.Y,i*3,none⟩),ci i,ci kd,ci tp,ci sb,ci cp,ci rk,ci sr,ci mo,ci fl,.bool fb,.slice sa SL.length sc,.slice wa wl.length wc,nx,.bool en,ci co,ci su,cu ge,ci cn,cu lo,ci zm,ci zs,.bool zh,ci zf,cu ze,gv,av,ci st,ci at_]):=qh HR0;have HV:Hd (Row w V 92 #[ci v.T,v.tv,ci v.tr,ci v.lg,ci 0,ci 1,ci v.lg,zl v.G v.k v.gk,ci v.sz,pt v.B,zl v.Y v.T v.yk]):=qh HV0;have HG:=qh HG0;have c3:=HR.k 3
 have ld:∀j u,(#[pt V,.pointer (some ⟨v.Y,i*3,none⟩),ci i,ci kd,ci tp,ci sb,ci cp,ci rk,ci sr,ci mo,ci fl,.bool fb,.slice sa SL.length sc,.slice wa wl.length wc,nx,.bool en,ci co,ci su,cu ge,ci cn,cu lo,ci zm,ci zs,.bool zh,ci zf,cu ze,gv,av,ci st,ci at_]:Array Value)[j]?=some u→w.cell? (ae O j)=some u:=fun j u hu=>HR.o.cell hu;have d4:=ld 4 _ rfl;have d5:=ld 5 _ rfl;have d6:=ld 6 _ rfl;have d7:=ld 7 _ rfl;have d8:=ld 8 _ rfl;have d9:=ld 9 _ rfl;have d10:=ld 10 _ rfl;have d11:=ld 11 _ rfl;have d12:=ld 12 _ rfl;have d13:=ld 13 _ rfl;clear ld HR0 HV0 HG0;have hcheck:=qh (c4x kd tp sb cp rk sr mo fl fb sa wa SL.length sc wl.length wc SL w HF0 hsl hSL);clear HF0 hsl
 go_enter Tryz.func38,Tryz.ntmps38
 go_wp2_with fail;refine hcheck.o.mono ?_;rintro e W1 ⟨er,rfl,hb,hfair,hown,hsim⟩;clear hcheck c3 d4 d5 d6 d7 d8 d9 d10 d11 d12 d13;have HB:=qh hb;have HRy:=qh (HR.o.bel hb);have HVy:=qh (HV.o.bel hb);have HGy:=qh (HG.o.bel hb);clear HR HV HG hb;have HR:=HRy;have HV:=HVy;have HG:=HGy;clear HRy HVy HGy;have HXb:=qh (HX.o.bel HB.o);by_cases her:er=0
 ·subst her;obtain⟨k0,k9,hown⟩:=hown rfl;have c3:=HR.k 3;have c4:=HR.k 4;have kk:kd=0∨kd=1∨kd=2∨kd=3∨kd=4∨kd=5∨kd=6∨kd=7∨kd=8∨kd=9:=by omega
  clear k0 k9 hsim hfair;rcases kk with rfl|rfl|rfl|rfl|rfl|rfl|rfl|rfl|rfl|rfl
  ·by_cases htq:0≤tp∧tp<v.k
   ·have hd:decide (0≤tp∧tp<v.k)=true:=dqt htq;have htp:=qh (ma W1 O V i v o0 tp HXb.o.x.hr HXb.o.x.veh.hv);go_wp2_with fail;refine htp.o.mono ?_;rintro e w_ ⟨rfl,rfl⟩;rw[hd];obtain⟨t,rfl⟩:∃t:Nat,tp=t:=⟨tp.toNat,by omega⟩;clear hd;obtain⟨sp,hsp⟩:∃sp,E.spots[t]?=some sp:=⟨_,cz (by have:=hkk.o;omega)⟩;have HSP:=qh hsp;clear hsp;have hc9:=qh ((c9h HXb.o (by rw[←HE.o]) (t:=t) (by rw[←HE.o]) (bk.1 HSP.o).1));go_wp2_with fail;refine hc9.o.mono ?_;rintro e W4 ⟨fv,k2,rfl,hb,hp⟩;go_wp2_with fail
    go_ret2
    exact⟨fv,k2,rfl,bt HB.o hb,hp.mono (kz HB.o)⟩
   ·have hd:decide (0≤tp∧tp<v.k)=false:=dqf htq;have htp:=qh (ma W1 O V i v o0 tp HXb.o.x.hr HXb.o.x.veh.hv);go_wp2_with fail;refine htp.o.mono ?_;rintro e w_ ⟨rfl,rfl⟩;rw[hd];go_wp2_with fail;refine(fy _ _ _).mono ?_;rintro e w_ ⟨rfl,hb,hr1,hr2⟩;go_wp2_with fail
    go_ret2
    refine⟨_,1,rfl,bt HB.o hb,?_⟩;refine lz HX.o.cl ⟨by decide,by decide⟩ (by decide) (fun hs=>htq ?_) ⟨_,_,rfl,Or.inr (nlt HB.o.size (Nat.le_succ _)),Or.inr HB.o.size,hr2,hr1⟩;have h1:=hs.1.z.1;rw[←HE.o] at h1;have h1:tp=0:=h1;have h2:=hok.k1;have h3:=hkk.o;omega
  ·by_cases htq:0≤tp∧tp<v.k
   ·have hd:decide (0≤tp∧tp<v.k)=true:=dqt htq;have htp:=qh (ma W1 O V i v o0 tp HXb.o.x.hr HXb.o.x.veh.hv);go_wp2_with fail;refine htp.o.mono ?_;rintro e w_ ⟨rfl,rfl⟩;rw[hd];obtain⟨t,rfl⟩:∃t:Nat,tp=t:=⟨tp.toNat,by omega⟩;clear hd;obtain⟨sp,hsp⟩:∃sp,E.spots[t]?=some sp:=⟨_,cz (by have:=hkk.o;omega)⟩;have HSP:=qh hsp;clear hsp
    have hcon:Hd (∀W,Below w.heap.size w W→Calls Tryz.prog 50 #[pt O,.agg #[ci sp.own,ci sp.seq,ci sp.first,ci sp.words,ci sp.depth]] W fun e W'=>∃fv k,e=.returned (.tuple #[fv,ci k])∧Below W.heap.size W W'∧iu E W' (ji T w) O v o0 sl.length f SL wl.length fv):=qh fun W hb=>((c9i (HX.o.bel hb) (by rw[←HE.o]) (t:=t) (by rw[←HE.o]) HSP.o).mono fun e W' hp=>by
     obtain⟨fv,k,h1,h2,h3⟩:=hp;exact⟨fv,k,h1,h2,h3.mono (kz hb)⟩)
    have tt0:(0:Int)≤t:=by omega
    have ttl:(t:Int)<v.k:=htq.2;clear htq;go_wp2_with fail;revert HR;revert HV;revert HG;revert HB
    refine cq (sdz W1) ?_;intro HB HG HV HR;have hU:UD (fun W=>W.cell? (ae O 0)=some (pt V)∧W.cell? (ae V 7)=some (zl v.G v.k v.gk)∧W.cell? (ae O 4)=some (ci (t:Int))∧W.cell? (ae v.G (t*5))=some (ci sp.own)∧W.cell? (ae v.G (t*5+1))=some (ci sp.seq)∧W.cell? (ae v.G (t*5+2))=some (ci sp.first)∧W.cell? (ae v.G (t*5+3))=some (ci sp.words)∧W.cell? (ae v.G (t*5+4))=some (ci sp.depth)):=al fun W n h=>h;have hC0:=hU.at _ ⟨HR.k 0,HV.k 7,HR.k 4,(au.c HG.o HSP.o).1,(au.c HG.o HSP.o).2.1,(au.c HG.o HSP.o).2.2.1,(au.c HG.o HSP.o).2.2.2.1,(au.c HG.o HSP.o).2.2.2.2⟩;refine dw aj hU hC0 ?_;intro S;generalize W1.drew=u0 at *;refine ao S hU [0,1,2,3,4,5,6,7,8,9,10,11,12,13,14,15] 135 5 hC0 ?_;constructor
    ·intro W' hW';simp only[pick,List.filterMap,gq1,gq2,gq3];obtain⟨q0,q1,q2,q3,q4,q5,q6,q7⟩:=hW'
     repeat (go_big_quiet_step (fail))
     exact wpQuiet_nil rfl
    refine az S hU 16 4 rfl hC0 fun n0 K1 hK1=>?_;go_wp2_with fail;refine(hcon.o _ (below_drewN HB.o n0)).mono ?_;rintro e W4 ⟨fv,k2,rfl,hb,hp⟩;go_wp2_with fail;have HP:=qh hp;revert HB HG HV HR;refine cq (sbl hb) ?_;intro HB HG HV HR;have hC1:=hU.at _ ⟨HR.k 0,HV.k 7,HR.k 4,(au.c HG.o HSP.o).1,(au.c HG.o HSP.o).2.1,(au.c HG.o HSP.o).2.2.1,(au.c HG.o HSP.o).2.2.2.1,(au.c HG.o HSP.o).2.2.2.2⟩;refine hK1 _ _ hC1 ?_;clear hK1 hC0;clear hb hp;refine ao S hU [17,18,19,20] 135 0 hC1 ?_;constructor
    ·intro W' hW';simp only[pick,List.filterMap,gq1,gq2,gq3];obtain⟨q0,q1,q2,q3,q4,q5,q6,q7⟩:=hW'
     repeat (go_big_quiet_step (fail))
     exact wpQuiet_nil rfl
    refine dd fun n9=>?_;replace HP:=qh (HP.o.drewN n9);revert HB HG HV HR;refine cq (sdw W4 n9) ?_;intro HB HG HV HR;clear S hU hC1;generalize W4.drewN n9=w9 at *;go_wp2_with fail
    go_ret2
    exact⟨fv,k2,rfl,HB.o,HP.o⟩
   ·have hd:decide (0≤tp∧tp<v.k)=false:=dqf htq;have htp:=qh (ma W1 O V i v o0 tp HXb.o.x.hr HXb.o.x.veh.hv);go_wp2_with fail;refine htp.o.mono ?_;rintro e w_ ⟨rfl,rfl⟩;rw[hd];go_wp2_with fail;refine(fy _ _ _).mono ?_;rintro e w_ ⟨rfl,hb,hr1,hr2⟩;go_wp2_with fail
    go_ret2
    refine⟨_,1,rfl,bt HB.o hb,?_⟩;refine lz HX.o.cl ⟨by decide,by decide⟩ (by decide) (fun hs=>htq ?_) ⟨_,_,rfl,Or.inr (nlt HB.o.size (Nat.le_succ _)),Or.inr HB.o.size,hr2,hr1⟩;have h1:=hs.1.z.1;rw[←HE.o] at h1;have h1:tp=0:=h1;have h2:=hok.k1;have h3:=hkk.o;omega
  ·by_cases htq:0≤tp∧tp<v.k
   ·have hd:decide (0≤tp∧tp<v.k)=true:=dqt htq;have htp:=qh (ma W1 O V i v o0 tp HXb.o.x.hr HXb.o.x.veh.hv);go_wp2_with fail;refine htp.o.mono ?_;rintro e w_ ⟨rfl,rfl⟩;rw[hd];obtain⟨t,rfl⟩:∃t:Nat,tp=t:=⟨tp.toNat,by omega⟩;clear hd;obtain⟨sp,hsp⟩:∃sp,E.spots[t]?=some sp:=⟨_,cz (by have:=hkk.o;omega)⟩;have HSP:=qh hsp;clear hsp
    have hcon:Hd (∀W,Below w.heap.size w W→Calls Tryz.prog 51 #[pt O,.agg #[ci sp.own,ci sp.seq,ci sp.first,ci sp.words,ci sp.depth]] W fun e W'=>∃fv k,e=.returned (.tuple #[fv,ci k])∧Below W.heap.size W W'∧iu E W' (ji T w) O v o0 sl.length f SL wl.length fv):=qh fun W hb=>((c6b (HX.o.bel hb) (by rw[←HE.o]) (t:=t) (by rw[←HE.o]) HSP.o).mono fun e W' hp=>by
     obtain⟨fv,k,h1,h2,h3⟩:=hp;exact⟨fv,k,h1,h2,h3.mono (kz hb)⟩)
    have tt0:(0:Int)≤t:=by omega
    have ttl:(t:Int)<v.k:=htq.2;clear htq;go_wp2_with fail;revert HR;revert HV;revert HG;revert HB
    refine cq (sdz W1) ?_;intro HB HG HV HR;have hU:UD (fun W=>W.cell? (ae O 0)=some (pt V)∧W.cell? (ae V 7)=some (zl v.G v.k v.gk)∧W.cell? (ae O 4)=some (ci (t:Int))∧W.cell? (ae v.G (t*5))=some (ci sp.own)∧W.cell? (ae v.G (t*5+1))=some (ci sp.seq)∧W.cell? (ae v.G (t*5+2))=some (ci sp.first)∧W.cell? (ae v.G (t*5+3))=some (ci sp.words)∧W.cell? (ae v.G (t*5+4))=some (ci sp.depth)):=al fun W n h=>h;have hC0:=hU.at _ ⟨HR.k 0,HV.k 7,HR.k 4,(au.c HG.o HSP.o).1,(au.c HG.o HSP.o).2.1,(au.c HG.o HSP.o).2.2.1,(au.c HG.o HSP.o).2.2.2.1,(au.c HG.o HSP.o).2.2.2.2⟩;refine dw aj hU hC0 ?_;intro S;generalize W1.drew=u0 at *;refine ao S hU [0,1,2,3,4,5,6,7,8,9,10,11,12,13,14,15] 135 5 hC0 ?_;constructor
    ·intro W' hW';simp only[pick,List.filterMap,gq1,gq2,gq3];obtain⟨q0,q1,q2,q3,q4,q5,q6,q7⟩:=hW'
     repeat (go_big_quiet_step (fail))
     exact wpQuiet_nil rfl
    refine az S hU 16 4 rfl hC0 fun n0 K1 hK1=>?_;go_wp2_with fail;refine(hcon.o _ (below_drewN HB.o n0)).mono ?_;rintro e W4 ⟨fv,k2,rfl,hb,hp⟩;go_wp2_with fail;have HP:=qh hp;revert HB HG HV HR;refine cq (sbl hb) ?_;intro HB HG HV HR;have hC1:=hU.at _ ⟨HR.k 0,HV.k 7,HR.k 4,(au.c HG.o HSP.o).1,(au.c HG.o HSP.o).2.1,(au.c HG.o HSP.o).2.2.1,(au.c HG.o HSP.o).2.2.2.1,(au.c HG.o HSP.o).2.2.2.2⟩;refine hK1 _ _ hC1 ?_;clear hK1 hC0;clear hb hp;refine ao S hU [17,18,19,20] 135 0 hC1 ?_;constructor
    ·intro W' hW';simp only[pick,List.filterMap,gq1,gq2,gq3];obtain⟨q0,q1,q2,q3,q4,q5,q6,q7⟩:=hW'
     repeat (go_big_quiet_step (fail))
     exact wpQuiet_nil rfl
    refine dd fun n9=>?_;replace HP:=qh (HP.o.drewN n9);revert HB HG HV HR;refine cq (sdw W4 n9) ?_;intro HB HG HV HR;clear S hU hC1;generalize W4.drewN n9=w9 at *;go_wp2_with fail
    go_ret2
    exact⟨fv,k2,rfl,HB.o,HP.o⟩
   ·have hd:decide (0≤tp∧tp<v.k)=false:=dqf htq;have htp:=qh (ma W1 O V i v o0 tp HXb.o.x.hr HXb.o.x.veh.hv);go_wp2_with fail;refine htp.o.mono ?_;rintro e w_ ⟨rfl,rfl⟩;rw[hd];go_wp2_with fail;refine(fy _ _ _).mono ?_;rintro e w_ ⟨rfl,hb,hr1,hr2⟩;go_wp2_with fail
    go_ret2
    refine⟨_,1,rfl,bt HB.o hb,?_⟩;refine lz HX.o.cl ⟨by decide,by decide⟩ (by decide) (fun hs=>htq ?_) ⟨_,_,rfl,Or.inr (nlt HB.o.size (Nat.le_succ _)),Or.inr HB.o.size,hr2,hr1⟩;have h1:=hs.1.z.1;rw[←HE.o] at h1;have h1:tp=0:=h1;have h2:=hok.k1;have h3:=hkk.o;omega
  ·have hc9:=qh ((c6c HXb.o (by rw[←HE.o]) (hown.s rfl).1 (hown.s rfl).2.1 (hown.s rfl).2.2));go_wp2_with fail;refine hc9.o.mono ?_;rintro e W4 ⟨fv,k2,rfl,hb,hp⟩;go_wp2_with fail
   go_ret2
   exact⟨fv,k2,rfl,bt HB.o hb,hp.mono (kz HB.o)⟩
  ·by_cases htq:0≤tp∧tp<v.k
   ·have hd:decide (0≤tp∧tp<v.k)=true:=dqt htq;have htp:=qh (ma W1 O V i v o0 tp HXb.o.x.hr HXb.o.x.veh.hv);go_wp2_with fail;refine htp.o.mono ?_;rintro e w_ ⟨rfl,rfl⟩;rw[hd];obtain⟨t,rfl⟩:∃t:Nat,tp=t:=⟨tp.toNat,by omega⟩;clear hd;obtain⟨sp,hsp⟩:∃sp,E.spots[t]?=some sp:=⟨_,cz (by have:=hkk.o;omega)⟩;have HSP:=qh hsp;clear hsp
    have hcon:Hd (∀W,Below w.heap.size w W→Calls Tryz.prog 53 #[pt O,.agg #[ci sp.own,ci sp.seq,ci sp.first,ci sp.words,ci sp.depth]] W fun e W'=>∃fv k,e=.returned (.tuple #[fv,ci k])∧Below W.heap.size W W'∧iu E W' (ji T w) O v o0 sl.length f SL wl.length fv):=qh fun W hb=>((c9j (HX.o.bel hb) (by rw[←HE.o]) (t:=t) (by rw[←HE.o]) HSP.o).mono fun e W' hp=>by
     obtain⟨fv,k,h1,h2,h3⟩:=hp;exact⟨fv,k,h1,h2,h3.mono (kz hb)⟩)
    have tt0:(0:Int)≤t:=by omega
    have ttl:(t:Int)<v.k:=htq.2;clear htq;go_wp2_with fail;revert HR;revert HV;revert HG;revert HB
    refine cq (sdz W1) ?_;intro HB HG HV HR;have hU:UD (fun W=>W.cell? (ae O 0)=some (pt V)∧W.cell? (ae V 7)=some (zl v.G v.k v.gk)∧W.cell? (ae O 4)=some (ci (t:Int))∧W.cell? (ae v.G (t*5))=some (ci sp.own)∧W.cell? (ae v.G (t*5+1))=some (ci sp.seq)∧W.cell? (ae v.G (t*5+2))=some (ci sp.first)∧W.cell? (ae v.G (t*5+3))=some (ci sp.words)∧W.cell? (ae v.G (t*5+4))=some (ci sp.depth)):=al fun W n h=>h;have hC0:=hU.at _ ⟨HR.k 0,HV.k 7,HR.k 4,(au.c HG.o HSP.o).1,(au.c HG.o HSP.o).2.1,(au.c HG.o HSP.o).2.2.1,(au.c HG.o HSP.o).2.2.2.1,(au.c HG.o HSP.o).2.2.2.2⟩;refine dw aj hU hC0 ?_;intro S;generalize W1.drew=u0 at *;refine ao S hU [0,1,2,3,4,5,6,7,8,9,10,11,12,13,14,15] 135 5 hC0 ?_;constructor
    ·intro W' hW';simp only[pick,List.filterMap,gq1,gq2,gq3];obtain⟨q0,q1,q2,q3,q4,q5,q6,q7⟩:=hW'
     repeat (go_big_quiet_step (fail))
     exact wpQuiet_nil rfl
    refine az S hU 16 4 rfl hC0 fun n0 K1 hK1=>?_;go_wp2_with fail;refine(hcon.o _ (below_drewN HB.o n0)).mono ?_;rintro e W4 ⟨fv,k2,rfl,hb,hp⟩;go_wp2_with fail;have HP:=qh hp;revert HB HG HV HR;refine cq (sbl hb) ?_;intro HB HG HV HR;have hC1:=hU.at _ ⟨HR.k 0,HV.k 7,HR.k 4,(au.c HG.o HSP.o).1,(au.c HG.o HSP.o).2.1,(au.c HG.o HSP.o).2.2.1,(au.c HG.o HSP.o).2.2.2.1,(au.c HG.o HSP.o).2.2.2.2⟩;refine hK1 _ _ hC1 ?_;clear hK1 hC0;clear hb hp;refine ao S hU [17,18,19,20] 135 0 hC1 ?_;constructor
    ·intro W' hW';simp only[pick,List.filterMap,gq1,gq2,gq3];obtain⟨q0,q1,q2,q3,q4,q5,q6,q7⟩:=hW'
     repeat (go_big_quiet_step (fail))
     exact wpQuiet_nil rfl
    refine dd fun n9=>?_;replace HP:=qh (HP.o.drewN n9);revert HB HG HV HR;refine cq (sdw W4 n9) ?_;intro HB HG HV HR;clear S hU hC1;generalize W4.drewN n9=w9 at *;go_wp2_with fail
    go_ret2
    exact⟨fv,k2,rfl,HB.o,HP.o⟩
   ·have hd:decide (0≤tp∧tp<v.k)=false:=dqf htq;have htp:=qh (ma W1 O V i v o0 tp HXb.o.x.hr HXb.o.x.veh.hv);go_wp2_with fail;refine htp.o.mono ?_;rintro e w_ ⟨rfl,rfl⟩;rw[hd];go_wp2_with fail;refine(fy _ _ _).mono ?_;rintro e w_ ⟨rfl,hb,hr1,hr2⟩;go_wp2_with fail
    go_ret2
    refine⟨_,1,rfl,bt HB.o hb,?_⟩;refine lz HX.o.cl ⟨by decide,by decide⟩ (by decide) (fun hs=>htq ?_) ⟨_,_,rfl,Or.inr (nlt HB.o.size (Nat.le_succ _)),Or.inr HB.o.size,hr2,hr1⟩;have h1:=hs.1.z.1;rw[←HE.o] at h1;have h1:tp=0:=h1;have h2:=hok.k1;have h3:=hkk.o;omega
  ·have hc9:=qh ((c6d HXb.o (by rw[←HE.o])));go_wp2_with fail;refine hc9.o.mono ?_;rintro e W4 ⟨fv,k2,rfl,hb,hp⟩;go_wp2_with fail
   go_ret2
   exact⟨fv,k2,rfl,bt HB.o hb,hp.mono (kz HB.o)⟩
  ·have hc9:=qh ((c9k HXb.o (by rw[←HE.o])));go_wp2_with fail;refine hc9.o.mono ?_;rintro e W4 ⟨fv,k2,rfl,hb,hp⟩;go_wp2_with fail
   go_ret2
   exact⟨fv,k2,rfl,bt HB.o hb,hp.mono (kz HB.o)⟩
  ·have hc9:=qh ((b5s HXb.o (Or.inl (by rw[←HE.o]))));go_wp2_with fail;refine hc9.o.mono ?_;rintro e W4 ⟨fv,k2,rfl,hb,hp⟩;go_wp2_with fail
   go_ret2
   exact⟨fv,k2,rfl,bt HB.o hb,hp.mono (kz HB.o)⟩
  ·have hc9:=qh ((b5s HXb.o (Or.inr (Or.inl (by rw[←HE.o])))));go_wp2_with fail;refine hc9.o.mono ?_;rintro e W4 ⟨fv,k2,rfl,hb,hp⟩;go_wp2_with fail
   go_ret2
   exact⟨fv,k2,rfl,bt HB.o hb,hp.mono (kz HB.o)⟩
  ·have hc9:=qh ((b5s HXb.o (Or.inr (Or.inr (by rw[←HE.o])))));go_wp2_with fail;refine hc9.o.mono ?_;rintro e W4 ⟨fv,k2,rfl,hb,hp⟩;go_wp2_with fail
   go_ret2
   exact⟨fv,k2,rfl,bt HB.o hb,hp.mono (kz HB.o)⟩
 ·have hne:(er==0)=false:=bfn.2 her;go_wp2_with fail;refine(fy _ _ _).mono ?_;rintro e w_ ⟨rfl,hb,hr1,hr2⟩;go_wp2_with fail
  go_ret2
  refine⟨_,1,rfl,bt HB.o hb,?_⟩;refine lz HX.o.cl hfair her (fun hs=>her (hsim ?_)) ⟨_,_,rfl,Or.inr (nlt HB.o.size (Nat.le_succ _)),Or.inr HB.o.size,hr2,hr1⟩;have:=hs.1;rw[←HE.o] at this;exact this
end Go.Proofs.YtojkaibpfdhmaaaGreatDoor

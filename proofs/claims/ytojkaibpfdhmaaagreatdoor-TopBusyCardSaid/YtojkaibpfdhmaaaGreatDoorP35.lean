/- A step of a Poll. -/
import Derived.Test.YtojkaibpfdhmaaaGreatDoorP30
import Derived.Test.YtojkaibpfdhmaaaGreatDoorP31
import Derived.Test.YtojkaibpfdhmaaaGreatDoorP32
import Derived.Test.YtojkaibpfdhmaaaGreatDoorP27
import Derived.Test.YtojkaibpfdhmaaaGreatDoorP28
import Derived.Test.YtojkaibpfdhmaaaGreatDoorP08
import Derived.Test.YtojkaibpfdhmaaaGreatDoorP33
import Derived.Test.YtojkaibpfdhmaaaGreatDoorP34
namespace Go.Proofs.YtojkaibpfdhmaaaGreatDoor
open Go.RowKit
set_option maxRecDepth 100000
set_option maxHeartbeats 16000000
def Off(M:List Nat)(T:Nat→Prop):Prop:=∀b∈M,¬ T b
theorem Off.n{M:List Nat}{T:Nat→Prop}(h:Off M T){b:Nat}(hb:T b):b∉M:=fun h'=>h b h' hb
def LgAt(W:World)(T:Nat→Prop)(O:Nat)(v:dg)(fv:Value):Prop:=
 ∃bl bo P wd st,fv=.func (.func 106) #[] #[pt bl,pt bo]∧T bl∧T bo∧T P∧Row W bl 190 #[pt P]∧Row W bo 95 #[pt O]∧Row W P 248 (LOp.cells ⟨⟨0,1,v.lg,zl v.G v.k v.gk,v.sz⟩,st,wd,0⟩)
def PlAt(W:World)(T:Nat→Prop)(O:Nat)(x:POp)(sl:List Sub)(ts:List Tpc)(wv:Value)(nw:Nat)(fv:Value):Prop:=
 ∃P G C g2 c2 bw bo,ki W T O 171 P 89 #[pt bw,pt bo] fv∧T G∧T g2∧T bw∧T bo∧(∀b,wv.ownBlock=some b→T b)∧Row W bw 171 #[pt P]∧Row W bo 95 #[pt O]∧Row W P 228 (x.cells G sl.length C g2 ts.length c2 wv)∧eu W G sl∧ia W g2 ts∧∃us:List Nat,W.ownsRow 0 41 1 wv nw (bj us).toList
section
variable{W W':World}{M:List Nat}{T T':Nat→Prop}{O:Nat}{fv:Value}
theorem ki.tP{ty P fd:Nat}{dc:Array Value}(h:ki W T O ty P fd dc fv):T P:=by
 obtain⟨bm,bo,bd,h1,t1,t2,t3,t4,_⟩:=h;exact t4
theorem oe.same{er:Int}(h:oe W T O er fv)(hs:ab M W W')(hM:Off M T)(ht:∀b,T b→T' b):oe W' T' O er fv:=by
 obtain⟨be,bo,h1,t1,t2,r1,r2⟩:=h;exact⟨be,bo,h1,ht _ t1,ht _ t2,r1.same hs (hM.n t1),r2.same hs (hM.n t2)⟩
theorem RefF.same(h:RefF W T O fv)(hs:ab M W W')(hM:Off M T)(ht:∀b,T b→T' b):RefF W' T' O fv:=by
 obtain⟨er,he,h⟩:=h;exact⟨er,he,h.same hs hM ht⟩
theorem ul.same(h:ul W T O fv)(hs:ab M W W')(hM:Off M T)(ht:∀b,T b→T' b):ul W' T' O fv:=by
 obtain⟨ba,bo,bp,h1,t1,t2,t3,r1,r2,r3⟩:=h;exact⟨ba,bo,bp,h1,ht _ t1,ht _ t2,ht _ t3,r1.same hs (hM.n t1),r2.same hs (hM.n t2),r3.same hs (hM.n t3)⟩
theorem ki.same{ty P fd:Nat}{dc:Array Value}(h:ki W T O ty P fd dc fv)(hs:ab M W W')(hM:Off M T)(ht:∀b,T b→T' b):ki W' T' O ty P fd dc fv:=by
 obtain⟨bm,bo,bd,h1,t1,t2,t3,t4,r1,r2,r3⟩:=h;exact⟨bm,bo,bd,h1,ht _ t1,ht _ t2,ht _ t3,ht _ t4,r1.same hs (hM.n t1),r2.same hs (hM.n t2),r3.same hs (hM.n t3)⟩
theorem ro.same{s:am}(h:ro W T O s fv)(hs:ab M W W')(hM:Off M T)(ht:∀b,T b→T' b):ro W' T' O s fv:=by
 obtain⟨ba,bo,bp,bs,h1,t1,t2,t3,t4,r1,r2,r3,r4⟩:=h;exact⟨ba,bo,bp,bs,h1,ht _ t1,ht _ t2,ht _ t3,ht _ t4,r1.same hs (hM.n t1),r2.same hs (hM.n t2),r3.same hs (hM.n t3),r4.same hs (hM.n t4)⟩
theorem rp.same{x:Sub}(h:rp W T O x fv)(hs:ab M W W')(hM:Off M T)(ht:∀b,T b→T' b):rp W' T' O x fv:=by
 obtain⟨ba,bo,bp,bs,h1,t1,t2,t3,t4,r1,r2,r3,r4⟩:=h;exact⟨ba,bo,bp,bs,h1,ht _ t1,ht _ t2,ht _ t3,ht _ t4,r1.same hs (hM.n t1),r2.same hs (hM.n t2),r3.same hs (hM.n t3),r4.same hs (hM.n t4)⟩
theorem WrAt.same{s:am}{nx l k q n:Nat}(h:WrAt W T O s nx l k q n fv)(hs:ab M W W')(hM:Off M T)(ht:∀b,T b→T' b):WrAt W' T' O s nx l k q n fv:=by
 obtain⟨P,D,c,bw,bo,h1,t1,t2,t3,r1,r2,r3,cur,r4,h2⟩:=h;exact⟨P,D,c,bw,bo,h1.same hs hM ht,ht _ t1,ht _ t2,ht _ t3,r1.same hs (hM.n t2),r2.same hs (hM.n t3),r3.same hs (hM.n h1.tP),cur,r4.same hs (hM.n t1),h2⟩
theorem RdAt.same{x:ROp}(h:RdAt W T O x fv)(hs:ab M W W')(hM:Off M T)(ht:∀b,T b→T' b):RdAt W' T' O x fv:=by
 obtain⟨P,D,bw,bo,h1,t1,t2,t3,r1,r2,r3,gs,h2,r4⟩:=h;exact⟨P,D,bw,bo,h1.same hs hM ht,ht _ t1,ht _ t2,ht _ t3,r1.same hs (hM.n t2),r2.same hs (hM.n t3),r3.same hs (hM.n h1.tP),gs,h2,r4.same hs (hM.n t1)⟩
theorem SnAt.same{rl:List Int}{xs:List am}{x:SOp}{gs us:List Nat}(h:SnAt W T O rl xs x gs us fv)(hs:ab M W W')(hM:Off M T)(ht:∀b,T b→T' b):SnAt W' T' O rl xs x gs us fv:=by
 obtain⟨P,g2,c2,D1,D2,bs,br,bp,bo,gr,cr,gp,cp,h1,t1,t2,t3,t4,t5,t6,t7,t8,t9,h2,h3,r1,r2,r3,r4,r5,r6,r7,r8,r9,r10⟩:=h;exact⟨P,g2,c2,D1,D2,bs,br,bp,bo,gr,cr,gp,cp,h1.same hs hM ht,ht _ t1,ht _ t2,ht _ t3,ht _ t4,ht _ t5,ht _ t6,ht _ t7,ht _ t8,ht _ t9,h2,h3,r1.same hs (hM.n t4),r2.same hs (hM.n t5),r3.same hs (hM.n t6),r4.same hs (hM.n t7),r5.same hs (hM.n h1.tP),r6.same hs (hM.n t2),r7.same hs (hM.n t3),r8.same hs (hM.n t1),r9.same hs (hM.n t8),r10.same hs (hM.n t9)⟩
theorem zu.same{v:Value}(h:zu T W v)(hs:ab M W W')(hM:Off M T)(ht:∀b,T b→T' b):zu T' W' v:=by
 rcases h with h|⟨b,a,t1,h1,r1⟩|⟨b,fl,t1,h1,r1⟩
 ·exact Or.inl h
 ·exact Or.inr (Or.inl ⟨b,a,ht _ t1,h1,r1.same hs (hM.n t1)⟩)
 ·exact Or.inr (Or.inr ⟨b,fl,ht _ t1,h1,r1.same hs (hM.n t1)⟩)
theorem zv.same{wr:Bool}{x:AOp}(h:zv W T O wr x fv)(hs:ab M W W')(hM:Off M T)(ht:∀b,T b→T' b):zv W' T' O wr x fv:=by
 obtain⟨P,ba,bo,bw,h1,t1,t2,t3,t4,r1,r2,r3,r4,d⟩:=h;exact⟨P,ba,bo,bw,h1,ht _ t1,ht _ t2,ht _ t3,ht _ t4,r1.same hs (hM.n t2),r2.same hs (hM.n t3),r3.same hs (hM.n t4),r4.same hs (hM.n t1),d.same hs hM ht⟩
theorem LgAt.same{v:dg}(h:LgAt W T O v fv)(hs:ab M W W')(hM:Off M T)(ht:∀b,T b→T' b):LgAt W' T' O v fv:=by
 obtain⟨bl,bo,P,wd,st,h1,t1,t2,t3,r1,r2,r3⟩:=h;exact⟨bl,bo,P,wd,st,h1,ht _ t1,ht _ t2,ht _ t3,r1.same hs (hM.n t1),r2.same hs (hM.n t2),r3.same hs (hM.n t3)⟩
theorem PlAt.same{x:POp}{sl:List Sub}{ts:List Tpc}{wv:Value}{nw:Nat}(h:PlAt W T O x sl ts wv nw fv)(hs:ab M W W')(hM:Off M T)(ht:∀b,T b→T' b):PlAt W' T' O x sl ts wv nw fv:=by
 obtain⟨P,G,C,g2,c2,bw,bo,h1,t1,t2,t3,t4,t5,r1,r2,r3,r4,r5,us,r6⟩:=h;exact⟨P,G,C,g2,c2,bw,bo,h1.same hs hM ht,ht _ t1,ht _ t2,ht _ t3,ht _ t4,fun b hb=>ht _ (t5 b hb),r1.same hs (hM.n t3),r2.same hs (hM.n t4),r3.same hs (hM.n h1.tP),r4.same hs (hM.n t1),r5.same hs (hM.n t2),us,ai r6 hs fun b hb=>hM.n (t5 b hb)⟩
end
structure ja(o:OpC):Prop where
 code:o.code=0
 gen:o.gen=0
 at_:o.at_=0
 gens:o.gens=zn
 words:o.awords=zn
def WIs(s:am)(nx q n:Nat):WSt→Prop
 | .look=>nx=0∧n=0
 | .take q'=>nx=1∧q=q'∧n=0
 | .fill q' n'=>nx=2∧q=q'∧n=n'∧n<s.words
 | .give q'=>nx=3∧q=q'
def RIs(s:am)(x:ROp):RSt→Prop
 | .first=>x.next=0
 | .word g n b=>x.next=1∧x.gen=g∧x.n=n∧x.begun=b∧n<s.words
 | .again g b=>x.next=2∧x.gen=g∧x.begun=b
def SnIs(E:Env)(k l:Nat)(rl:List Int)(xs:List am)(x:SOp)(gs us:List Nat)(tops:List Nat)(ld:List (Nat × Nat)):Prop:=
 x.tries=l∧x.steps=k∧x.how=0∧1≤xs.length∧xs.length≤64∧gs.length=xs.length∧us.length=gd xs xs.length∧x.done<2*xs.length+gd xs xs.length∧rl=tops.map (fun t:Nat=>(t:Int))∧rl.Nodup ∧
  tops.length=xs.length∧(∀(j t:Nat),tops[j]?=some t→∃s,E.spots[t]?=some s∧xs[j]?=some s)∧∀(j t:Nat),j<x.done→tops[j]?=some t→(t,wat gs j)∈ld
def PoIs(E:Env)(k l:Nat)(x:POp)(sl:List Sub)(ts:List Tpc)(nw:Nat)(tops:List Nat)(ld:List (Nat × Nat)):Prop:=
 x.left=l∧x.steps=k∧x.how=0∧1≤sl.length∧sl.length≤8∧1≤ts.length∧ts.length≤sl.length∧nw≤64∧(∀y∈sl,∃t∈ts,t.n=y.topic)∧(∀y∈sl,y.topic<E.spots.length)∧(∀t∈ts,t.n∈tops∧E.spots[t.n]?=some t.spot∧t.gen≤1000000)∧(-1≤x.pick∧x.pick<sl.length) ∧
  ((x.round=1∧x.next<ts.length∧∀(j:Nat)(t:Tpc),j<x.next→ts[j]?=some t→(t.n,t.gen)∈ld) ∨
   (x.round=2∧x.next<x.size∧x.size≤64∧x.place+x.size≤E.size∧nw=x.next∧∀t∈ts,(t.n,t.gen)∈ld) ∨
   (x.round=3∧x.next<ts.length∧∀t∈ts,(t.n,t.gen)∈ld))
def eh(E:Env)(W:World)(T:Nat→Prop)(O k:Nat)(v:dg)(o:OpC)(ns:Nat):ib→Prop
 | .ref er=>ja o∧js er∧er≠0∧oe W T O er o.next
 | .adv t=>ja o∧o.topic=t∧t<E.spots.length∧ul W T O o.next
 | .one=>ja o∧((∃(t:Nat)(s:am),o.topic=t∧E.spots[t]?=some s∧ns<8∧ro W T O s o.next)∨∃x:Sub,x.topic<E.spots.length∧rp W T O x o.next)
 | .wr t l x=>ja o∧1≤l∧l≤E.tries∧∃s nx q n,E.spots[t]?=some s∧q≤1000000∧WIs s nx q n x∧WrAt W T O s nx l k q n o.next
 | .rd t l x=>ja o∧1≤l∧l≤E.tries∧∃s X,E.spots[t]?=some s∧X.spot=s∧X.tries=l∧X.steps=k∧X.how=0∧RIs s X x∧RdAt W T O X o.next
 | .look tops l ld=>ja o∧1≤l∧l≤E.tries ∧
   ((∃rl xs x gs us SL bS cS,SnIs E k l rl xs x gs us tops ld∧SnAt W T O rl xs x gs us o.next∧o.set=zl bS SL.length cS∧T bS∧Arr gj 1 W bS 3 SL∧SL.Perm rl) ∨
    ∃x sl ts wv nw,PoIs E k l x sl ts nw tops ld∧PlAt W T O x sl ts wv nw o.next)
 | .ar l sw=>ja o∧1≤l∧l≤E.tries∧∃x:AOp,x.at_=0∧x.left=l∧x.steps=k∧x.how=0∧(match sw with|none=>x.swaps=false|some y=>x.swaps=true∧x.word=y)∧zv W T O true x o.next
 | .md=>ja o∧∃x:AOp,x.at_=0∧x.dec=.nilFunc∧x.swaps=false∧x.steps=k∧x.how=0∧zv W T O false x o.next
 | .lg a=>o.code=0∧o.gen=0∧o.at_=a∧o.gens=zn∧o.awords=zn∧LgAt W T O v o.next
def ji(T:Nat→Prop)(w:World)(b:Nat):Prop:=T b∨w.heap.size≤b
structure jw(E:Env)(W:World)(V:Nat)(v:dg)(A:Nat)(ws:List Nat)(ows:List Own):Prop where
 hv:Row W V 92 v.cells
 bank:bv W v.B A ws
 spots:au W v.G E.spots
 owns:f7 W v.Y ows
 ways:jj W
 fields:j7 W
 k:v.k=E.spots.length
 tr:v.tr=E.tries
 lg:v.lg=E.long
 tk:v.T=E.tasks
 len:ows.length=E.tasks
 size:ws.length=E.size
 low:4<V∧4<v.B∧4<A∧4<v.G∧4<v.Y
structure ke(E:Env)(W:World)(T:Nat→Prop)(ow:Own)(f:Int→Bool)(sl:List Sub)(c:Nat):Prop where
 map:∃fm nm,a8 Tryz.prog 3 W ow.m nm fm∧nm≤c∧∀t:Nat,t≤1000→(fm (ig t)).isSome=f t
 tm:T ow.m
 subs:W.ownsRow 0 170 6 ow.sv sl.length (sl.flatMap Sub.enc)
 ts:∀b,ow.sv.ownBlock=some b→T b
 len:sl.length≤8
 tops:∀x∈sl,x.topic<E.spots.length
def fq(n0:Nat)(W:World)(v:Value):Prop:=∃n cs,Has W 1 v n cs∧(∀u∈cs,u.oneCell'=true)∧n≤1000000∧∀b,v.ownBlock=some b→n0≤b
theorem fq.nil(n0:Nat)(W:World):fq n0 W (zn):=⟨0,[],Has.nil W 1,fun _ h=>(by cases h),by omega,fun b h=>(by cases h)⟩
structure Ctx(E:Env)(W:World)(T:Nat→Prop)(V:Nat)(v:dg)(A:Nat)(ws:List Nat)(ows:List Own)(i O:Nat)(o:OpC)(ow:Own)(f:Int→Bool)(sl:List Sub)(c:Nat):Prop where
 hr:Row W O 122 (o.cells V v.Y i)
 veh:jw E W V v A ws ows
 hi:ows[i]?=some ow
 own:ke E W T ow f sl c
 sep:∀b,T b→4<b∧b≠V∧b≠v.B∧b≠A∧b≠v.G∧b≠v.Y∧b≠O
 lO:4<O
 seqs:∀s∈E.spots,wat ws s.seq≤1000000
 ok:E.Ok
 c1:c≤1000
 st:o.steps≤1000
def ir(E:Env)(w:World)(T:Nat→Prop)(V:Nat)(v:dg)(A:Nat)(ws:List Nat)(ows:List Own)(i O:Nat)(o:OpC)(ow:Own)(f:Int→Bool)(c:Nat)(m:ib)(e:Ending)(w':World):Prop:=
 ∃ws' m' r o' ow' sl',e=.returned (.bool m'.isNone)∧dq E o.steps ws m ws' m' r∧Row w' O 122 (o'.cells V v.Y i)∧jw E w' V v A ws' (ows.set i ow')∧ke E w' (ji T w) ow' (jm f m) sl' (c+1) ∧
  o'.steps=o.steps∧o'.ended=o.ended∧o'.at_=r.at_∧ow'.op=ow.op∧(m'=none→o'.code=r.code∧o'.gen=r.gen∧fq w.heap.size w' o'.gens∧fq w.heap.size w' o'.awords) ∧
  (∀m1,m'=some m1→eh E w' (ji T w) O o.steps v o' sl'.length m1)∧∃M,ab M w w'∧∀b∈M,T b∨b=O∨b=v.B∨b=A∨b=v.Y
section
variable{E:Env}{W W':World}{T T':Nat→Prop}{V A i O k c ns:Nat}{v:dg}{ws ws':List Nat}{ows ows':List Own}{o:OpC}{ow:Own}{f:Int→Bool}{sl:List Sub}{M:List Nat}{m:ib}
theorem jj.off(h:jj W)(hs:ab M W W')(hM:4∉M):jj W':=h.same hs hM
theorem j7.same(h:j7 W)(hs:ab M W W')(hM:0∉M):j7 W':=by
 have key:∀(j:Nat)(u:Value),W.cell? (ae 0 j)=some u→W'.cell? (ae 0 j)=some u:=fun j u hu=>by
  rw[World.cell?_of_block (w:=W) (hs.block 0 (blc hu) hM)];exact hu
 exact⟨fun i hi=>(h.at_ i hi).imp fun v hv=>key _ _ hv,key _ _ h.a0,key _ _ h.a1,key _ _ h.a2⟩
theorem jw.turn(h:jw E W V v A ws ows)(hs:ab M W W')(hb:bv W' v.B A ws')(hl:ws'.length=ws.length)(hy:f7 W' v.Y ows')(hlen:ows'.length=ows.length)(hM:∀b∈M,b≠V∧b≠v.G∧4<b):jw E W' V v A ws' ows':=
 ⟨h.hv.same hs fun hx=>(hM _ hx).1 rfl,hb,h.spots.same hs fun hx=>(hM _ hx).2.1 rfl,hy,h.ways.same hs fun hx=>absurd (hM _ hx).2.2 (by omega),h.fields.same hs fun hx=>absurd (hM _ hx).2.2 (by omega),h.k,h.tr,h.lg,h.tk,hlen.trans h.len,hl.trans h.size,h.low⟩
theorem ke.same(h:ke E W T ow f sl c)(hs:ab M W W')(hM:Off M T)(ht:∀b,T b→T' b):ke E W' T' ow f sl c:=by
 obtain⟨fm,nm,h1,h2,h3⟩:=h.map;exact⟨⟨fm,nm,h1.same hs (hM.n h.tm),h2,h3⟩,ht _ h.tm,ai h.subs hs fun b hb=>hM.n (h.ts b hb),fun b hb=>ht _ (h.ts b hb),h.len,h.tops⟩
theorem ke.up{c':Nat}(h:ke E W T ow f sl c)(hc:c≤c'):ke E W T ow f sl c':=by
 obtain⟨fm,nm,h1,h2,h3⟩:=h.map;exact⟨⟨fm,nm,h1,by omega,h3⟩,h.tm,h.subs,h.ts,h.len,h.tops⟩
theorem Ctx.off(h:Ctx E W T V v A ws ows i O o ow f sl c)(hM:∀b∈M,b=O∨b=v.B∨b=A∨b=v.Y):Off M T:=fun b hb ht=>by
 have:=h.sep b ht;have:=hM b hb;omega
theorem Ctx.neO(h:Ctx E W T V v A ws ows i O o ow f sl c):O≠V∧O≠v.B∧O≠A∧O≠v.G∧O≠v.Y∧V≠v.B∧V≠A∧v.G≠v.B∧v.G≠A∧v.Y≠v.B∧v.Y≠A∧V≠v.Y∧v.G≠v.Y∧V≠v.G:=by
 obtain⟨k,hk⟩:=h.veh.bank.hd;obtain⟨c1,g1,_⟩:=h.veh.spots.ex;obtain⟨c2,g2,_⟩:=h.veh.owns.ex;exact⟨h.hr.ne h.veh.hv (by decide),h.hr.ne hk (by decide),h.hr.ne h.veh.bank.wd (by decide),h.hr.ne g1 (by decide),h.hr.ne g2 (by decide),h.veh.hv.ne hk (by decide),h.veh.hv.ne h.veh.bank.wd (by decide),g1.ne hk (by decide),g1.ne h.veh.bank.wd (by decide),g2.ne hk (by decide),g2.ne h.veh.bank.wd (by decide),h.veh.hv.ne g2 (by decide),g1.ne g2 (by decide),h.veh.hv.ne g1 (by decide)⟩
theorem rm(hE:E.Ok){t:Nat}{s:am}(h:E.spots[t]?=some s):s.Ok∧s.own<E.size∧s.seq<E.size∧s.first+s.words*s.depth≤E.size∧t<E.spots.length:=by
 obtain⟨h1,h2,h3,h4,h5⟩:=hE.ok s (dh h);have:=(bk.1 h).1;refine⟨h1,?_,?_,h5,this⟩<;>omega
theorem io(T:Nat→Prop):Off [] T:=fun _ h=>by cases h
theorem Ctx.nil(h:Ctx E W T V v A ws ows i O o ow f sl c)(hs:ab [] W W'):Ctx E W' T V v A ws ows i O o ow f sl c:=
 ⟨h.hr.same hs (by simp),h.veh.turn hs (h.veh.bank.same hs (by simp) (by simp)) rfl (h.veh.owns.same hs (by simp)) rfl (fun _ hb=>by cases hb),h.hi,h.own.same hs (io T) (fun _ h=>h),h.sep,h.lO,h.seqs,h.ok,h.c1,h.st⟩
theorem m8{α:Type}{l:List α}{i:Nat}{x:α}(h:l[i]?=some x):l.set i x=l:=by
 apply List.ext_getElem?;intro j;rw[List.getElem?_set];by_cases e:i=j
 ·subst e;have:=(bk.1 h).1;rw[if_pos rfl,if_pos this,h]
 ·simp[e]
theorem Ctx.post{e:Ending}{o':OpC}{m':Option ib}{r:Res}{M:List Nat}(h:Ctx E W T V v A ws ows i O o ow f sl c)(hs:ab M W W')(hM:∀b∈M,(T b∧b≠ow.m∧ow.sv.ownBlock≠some b)∨b=O∨b=v.B∨b=A)(he:e=.returned (.bool m'.isNone))(hm:dq E o.steps ws m ws' m' r)(hr:Row W' O 122 (o'.cells V v.Y i))(hb:bv W' v.B A ws')(hl:ws'.length=ws.length)(h1:o'.steps=o.steps)(h2:o'.ended=o.ended)(h3:o'.at_=r.at_)(h4:m'=none→o'.code=r.code∧o'.gen=r.gen∧fq W.heap.size W' o'.gens∧fq W.heap.size W' o'.awords)(h5:∀m1,m'=some m1→eh E W' (ji T W) O o.steps v o' sl.length m1)(hadv:jm f m=f):ir E W T V v A ws ows i O o ow f c m e W':=by
 obtain⟨n1,n2,n3,n4,n5,n6,n7,n8,n9,n10,n11,n12,n13,n14⟩:=h.neO;have low:=h.veh.low
 have hMs:∀b∈M,b≠V∧b≠v.G∧4<b∧b≠v.Y:=fun b hb=>by
  rcases hM b hb with h'|h'|h'|h'
  ·have:=h.sep b h'.1;omega
  ·have:=h.lO;omega
  ·omega
  ·omega
 refine⟨ws',m',r,o',ow,sl,he,hm,hr,?_,?_,h1,h2,h3,rfl,h4,h5,M,hs,fun b hb=>?_⟩
 ·rw[m8 h.hi];exact h.veh.turn hs hb hl (h.veh.owns.same hs fun hx=>(hMs _ hx).2.2.2 rfl) rfl fun b hb=>⟨(hMs b hb).1,(hMs b hb).2.1,(hMs b hb).2.2.1⟩
 ·rw[hadv]
  have hn:∀b,T b→b=ow.m∨ow.sv.ownBlock=some b→b∉M:=fun b hT hb hx=>by
   have hs':=h.sep b hT;rcases hM b hx with h'|h'|h'|h'
   ·rcases hb with hb|hb
    ·exact h'.2.1 hb
    ·exact h'.2.2 hb
   all_goals omega
  obtain⟨fm,nm,g1,g2,g3⟩:=h.own.map;exact⟨⟨fm,nm,g1.same hs (hn _ h.own.tm (Or.inl rfl)),by omega,g3⟩,Or.inl h.own.tm,ai h.own.subs hs fun b hb=>hn b (h.own.ts b hb) (Or.inr hb),fun b hb=>Or.inl (h.own.ts b hb),h.own.len,h.own.tops⟩
 ·rcases hM b hb with h'|h'|h'|h'
  ·exact Or.inl h'.1
  all_goals simp[h']
end
section
variable{E:Env}{w:World}{T:Nat→Prop}{V A i O k c fd:Nat}{v:dg}{ws:List Nat}{ows:List Own}{o:OpC}{ow:Own}{f:Int→Bool}{sl:List Sub}{caps:Array Value}
theorem c9b{er:Int}(h:Ctx E w T V v A ws ows i O o ow f sl c)(hm:eh E w T O k v o sl.length (.ref er))(hn:o.next=.func (.func fd) #[] caps):Calls Tryz.prog fd caps w (ir E w T V v A ws ows i O o ow f c (.ref er)):=by
 obtain⟨hc,hf,h0,be,bo,h1,t1,t2,r1,r2⟩:=hm;rw[h1] at hn;cases hn;have n:=h.neO;refine(c9q w O V v.Y i be bo er o h.hr r1 r2).mono ?_;rintro e w' ⟨rfl,hs,hr⟩
 exact h.post (m':=none) (r:=⟨er,0,1⟩) (ws':=ws) hs (fun b hb=>Or.inr (Or.inl (by simpa using hb))) rfl (.ref hf h0) hr (h.veh.bank.same hs (by simpa using n.2.1.symm) (by simpa using n.2.2.1.symm)) rfl rfl rfl rfl
  (fun _=>⟨rfl,hc.gen,by rw[hc.gens];exact fq.nil _ _,by rw[hc.words];exact fq.nil _ _⟩) (fun m1 h=>by cases h) rfl
theorem c9c{t:Nat}(h:Ctx E w T V v A ws ows i O o ow f sl c)(hm:eh E w T O k v o sl.length (.adv t))(hn:o.next=.func (.func fd) #[] caps):Calls Tryz.prog fd caps w (ir E w T V v A ws ows i O o ow f c (.adv t)):=by
 obtain⟨hc,hto,htl,ba,bo,bp,h1,t1,t2,t3,r1,r2,r3⟩:=hm;rw[h1] at hn;cases hn;obtain⟨n1,n2,n3,n4,n5,n6,n7,n8,n9,n10,n11,n12,n13,n14⟩:=h.neO;obtain⟨fm,nm,g1,g2,g3⟩:=h.own.map;have hsp:E.spots[t]?=some E.spots[t]:=cz htl;obtain⟨f1,f2,f3,f4,f5⟩:=rm h.ok hsp;generalize E.spots[t]=s at *;have hk2:=h.ok.k2;have hc1:=h.c1;have sM:=h.sep _ h.own.tm;have hM:ow.m≠v.B∧ow.m≠A:=⟨sM.2.2.1,sM.2.2.2.1⟩
 have nO:∀b,T b→b∈[v.B,A,ow.m]→b=ow.m:=fun b hb hx=>by
  have:=h.sep b hb;simp only[List.mem_cons,List.not_mem_nil,or_false] at hx;omega
 have nb:∀b,T b→∀t' cs,Row w b t' cs→b∉[v.B,A,ow.m]:=fun b hb t' cs hr hx=>g1.ne hr (nO b hb hx);refine(b1p w O V v.Y i ba bo 63 #[pt bp] o (fun W' er o'=>er=0∧o=o'∧ab [v.B,A,ow.m] w W'∧∃x,bv W' v.B A (ws.set s.own x)∧a8 Tryz.prog 3 W' ow.m (nm+1) (il fm (ig t) (some (ci o.steps)))) (fun W=>c3e _ W) h.hr r1 r2 ?_).mono ?_
 ·intro W hs;have h':=h.nil hs;refine(d0u W O V i bp A ow.m nm v o t s ws E.spots ows ow fm h'.hr (r3.same hs (by simp)) h'.veh.hv h'.veh.bank h'.veh.spots h'.veh.k hsp hk2 hto (by rw[h'.veh.size];exact f2) h'.veh.owns h'.hi rfl (g1.same hs (by simp)) (by unfold maxLen;omega) hM).mono ?_;rintro e W' ⟨x,rfl,hs',hb,hm'⟩;have hss:ab [v.B,A,ow.m] w W':=hs.trans hs'
  exact⟨0,o,rfl,⟨rfl,rfl,hss,x,hb,hm'⟩,h.hr.same hss (by
   simp only[List.mem_cons,List.not_mem_nil,or_false,not_or];exact⟨n2,n3,fun e=>sM.2.2.2.2.2.2 e.symm⟩),rfl,r1.same hss (nb _ t1 _ _ r1),r2.same hss (nb _ t2 _ _ r2)⟩
 ·rintro e w' ⟨W1,er,o',rfl,⟨rfl,rfl,hs1,x,hb,hm'⟩,hs2,hr⟩;have hs:=hs1.trans hs2;have hmem:∀b∈[v.B,A,ow.m]++[O],b=v.B∨b=A∨b=ow.m∨b=O:=fun b hb=>by simpa using hb
  refine⟨ws.set s.own x,none,⟨0,0,o.steps⟩,_,ow,sl,rfl,.adv hsp,hr,?_,⟨⟨_,nm+1,hm'.same hs2 (by
   simp only[List.mem_singleton];exact sM.2.2.2.2.2.2),by omega,fun t' ht'=>?_⟩,Or.inl h.own.tm,ai h.own.subs hs fun b hb hx=>?_,fun b hb=>Or.inl (h.own.ts b hb),h.own.len,h.own.tops⟩,rfl,rfl,rfl,rfl,fun _=>⟨rfl,hc.gen,?_,?_⟩,fun m1 h=>(by cases h),_,hs,fun b hb=>?_⟩
  ·rw[m8 h.hi];refine h.veh.turn hs (hb.same hs2 (by simpa using n2.symm) (by simpa using n3.symm)) (by simp) (h.veh.owns.same hs fun hx=>?_) rfl fun b hb=>?_
   ·rcases hmem _ hx with e|e|e|e
    ·exact n10 e
    ·exact n11 e
    ·exact sM.2.2.2.2.2.1 e.symm
    ·exact n5 e.symm
   ·have lo:=h.lO;have lw:=h.veh.low;rcases hmem _ hb with e|e|e|e<;>subst e<;>refine⟨?_,?_,?_⟩<;>first|omega|exact fun e=>by omega
  ·show (il fm (ig t) _ (ig t')).isSome=(decide ((t':Int)=t)||f t')
   by_cases e:t'=t
   ·subst e;rw[gw];simp
   ·rw[fj (fun h=>e (by cases h;rfl)),g3 t' ht',dqf (by omega),Bool.false_or]
  ·have hT:=h.own.ts b hb;have:=h.sep b hT;rcases hmem _ hx with e|e|e|e
   ·omega
   ·omega
   ·obtain⟨sa,sc,e'⟩:=ax h.own.subs;rcases h.own.subs.2 with ⟨e1,_⟩|⟨g,cap,cur,e1,_,e3,_⟩
    ·rw[e1] at hb;cases hb
    ·rw[e1] at hb;cases hb;exact g1.ne (Row.mk e3) e
   ·omega
  ·show fq w.heap.size w' o.gens
   rw[hc.gens];exact fq.nil _ _
  ·show fq w.heap.size w' o.awords
   rw[hc.words];exact fq.nil _ _
  ·rcases hmem _ hb with e|e|e|e
   ·simp[e]
   ·simp[e]
   ·exact Or.inl (e▸h.own.tm)
   ·simp[e]
end
theorem c3w(caps:Array Value)(W:World):Sem.run Tryz.prog (callFunc 83 caps) W=.ok (.enter 83 caps) W:=by
 go_simp
theorem c3x(caps:Array Value)(W:World):Sem.run Tryz.prog (callFunc 95 caps) W=.ok (.enter 95 caps) W:=by
 go_simp
section
variable{E:Env}{w:World}{T:Nat→Prop}{V A i O k c fd:Nat}{v:dg}{ws:List Nat}{ows:List Own}{o:OpC}{ow:Own}{f:Int→Bool}{sl:List Sub}{caps:Array Value}
theorem c9d{t:Nat}{s:am}(h:Ctx E w T V v A ws ows i O o ow f sl c)(hc:ja o)(hto:o.topic=t)(hsp:E.spots[t]?=some s)(hns:sl.length<8)(hm:ro w T O s o.next)(hn:o.next=.func (.func fd) #[] caps):Calls Tryz.prog fd caps w (ir E w T V v A ws ows i O o ow f c .one):=by
 obtain⟨ba,bo,bp,bs,h1,t1,t2,t3,t4,r1,r2,r3,r4⟩:=hm;rw[h1] at hn;cases hn;obtain⟨n1,n2,n3,n4,n5,n6,n7,n8,n9,n10,n11,n12,n13,n14⟩:=h.neO;obtain⟨f1,f2,f3,f4,f5⟩:=rm h.ok hsp;have hsq:=h.seqs s (dh hsp)
 have nb:∀b,T b→∀t' cs,Row w b t' cs→t'≠170→b∉(v.B::O::v.Y::ow.sv.ownBlock.toList):=fun b hb t' cs hr ht hx=>by
  have:=h.sep b hb;simp only[List.mem_cons] at hx;rcases hx with e|e|e|e
  ·omega
  ·omega
  ·omega
  ·exact ck h.own.subs hr (fun e=>ht e.symm) e
 refine(b1p w O V v.Y i ba bo 83 #[pt bp,pt bs] o (fun W' er o'=>∃(ch:Cur)(v':Value),js er∧o'={o with asub:=sl.length,gen:=wat ws s.seq / 2}∧ab (v.B::O::v.Y::ow.sv.ownBlock.toList) w W'∧bv W' v.B A ws∧f7 W' v.Y (ows.set i {ow with sv:=v'})∧W'.ownsRow 0 170 6 v' (sl.length+1) ((sl++[(⟨t,o.rank,ch⟩:Sub)]).flatMap Sub.enc)∧(v'.ownBlock=ow.sv.ownBlock∨∃b,v'.ownBlock=some b∧w.heap.size≤b)) (fun W=>c3w _ W) h.hr r1 r2 ?_).mono ?_
 ·intro W hs;have h':=h.nil hs;refine(d0r W O V i bp bs A v o t s ws ows ow sl h'.hr (r3.same hs (by simp)) (r4.same hs (by simp)) h'.veh.hv h'.veh.bank hto (by rw[h'.veh.size];exact f3) (by omega) h'.veh.owns h'.hi h'.own.subs h.own.len).mono ?_;rintro e W' ⟨er,ch,v',rfl,her,hs',hb,hr,hy,hsb,hnb⟩;have hss:ab (v.B::O::v.Y::ow.sv.ownBlock.toList) w W':=hs.trans hs';exact⟨er,_,rfl,⟨ch,v',by rcases her with rfl|rfl<;>constructor<;>decide,rfl,hss,hb,hy,hsb,hnb.imp id fun ⟨b,e1,e2⟩=>⟨b,e1,nlt hs.size e2⟩⟩,hr,rfl,r1.same hss (nb _ t1 _ _ r1 (by decide)),r2.same hss (nb _ t2 _ _ r2 (by decide))⟩
 ·rintro e w' ⟨W1,er,o',rfl,⟨ch,v',her,rfl,hs1,hb,hy,hsb,hnb⟩,hs2,hr⟩;have hs:=hs1.trans hs2
  have hmem:∀b∈(v.B::O::v.Y::ow.sv.ownBlock.toList)++[O],b=v.B∨b=O∨b=v.Y∨ow.sv.ownBlock=some b:=fun b hb=>by
   simp only[List.mem_append,List.mem_cons,List.not_mem_nil,or_false] at hb;rcases hb with (e|e|e|e)|e
   ·exact Or.inl e
   ·exact Or.inr (Or.inl e)
   ·exact Or.inr (Or.inr (Or.inl e))
   ·exact Or.inr (Or.inr (Or.inr (by simpa using e)))
   ·exact Or.inr (Or.inl e)
  obtain⟨fm,nm,g1,g2,g3⟩:=h.own.map
  have ns2:∀b,v'.ownBlock=some b→b∉[O]:=fun b hb=>by
   simp only[List.mem_singleton];rcases hnb with e|⟨b',e1,e2⟩
   ·rw[e] at hb;exact(h.sep b (h.own.ts b hb)).2.2.2.2.2.2
   ·rw[e1] at hb;cases hb;have:=h.hr.lt;omega
  refine⟨ws,none,⟨er,wat ws s.seq / 2,o.steps⟩,_,{ow with sv:=v'},sl++[(⟨t,o.rank,ch⟩:Sub)],rfl,.one her,hr,?_,⟨⟨fm,nm,g1.same hs fun hx=>?_,by omega,g3⟩,Or.inl h.own.tm,?_,fun b hb=>?_,by simp;omega,fun x hx=>?_⟩,rfl,rfl,rfl,rfl,fun _=>⟨rfl,rfl,?_,?_⟩,fun m1 h=>(by cases h),_,hs,fun b hb=>?_⟩
  ·refine h.veh.turn hs (hb.same hs2 (by simpa using n2.symm) (by simpa using n3.symm)) rfl (hy.same hs2 (by simpa using n5.symm)) (by simp) fun b hb=>?_;have lo:=h.lO;have lw:=h.veh.low;rcases hmem _ hb with e|e|e|e
   ·subst e;exact⟨fun e=>n6 e.symm,fun e=>n8 e.symm,by omega⟩
   ·subst e;exact⟨n1,n4,lo⟩
   ·subst e;exact⟨fun e=>n12 e.symm,fun e=>n13 e.symm,by omega⟩
   ·have:=h.sep b (h.own.ts b e);exact⟨this.2.1,this.2.2.2.2.1,this.1⟩
  ·have:=h.sep _ h.own.tm;rcases hmem _ hx with e|e|e|e
   ·omega
   ·omega
   ·omega
   ·rcases h.own.subs.2 with ⟨e1,_⟩|⟨g,cap,cur,e1,_,e3,_⟩
    ·rw[e1] at e;cases e
    ·rw[e1] at e;cases e;exact g1.ne (Row.mk e3) rfl
  ·have:=ai hsb hs2 ns2
   simpa using this
  ·rcases hnb with e|⟨b',e1,e2⟩
   ·exact Or.inl (h.own.ts b (by rw[←e];exact hb))
   ·have hb:v'.ownBlock=some b:=hb;rw[e1] at hb;cases hb;exact Or.inr e2
  ·rcases List.mem_append.1 hx with hx|hx
   ·exact h.own.tops x hx
   ·simp only[List.mem_singleton] at hx;subst hx;exact f5
  ·show fq w.heap.size w' o.gens
   rw[hc.gens];exact fq.nil _ _
  ·show fq w.heap.size w' o.awords
   rw[hc.words];exact fq.nil _ _
  ·rcases hmem _ hb with e|e|e|e
   ·simp[e]
   ·simp[e]
   ·simp[e]
   ·exact Or.inl (h.own.ts b e)
theorem c9e{x:Sub}(h:Ctx E w T V v A ws ows i O o ow f sl c)(hc:ja o)(hx:x.topic<E.spots.length)(hm:rp w T O x o.next)(hn:o.next=.func (.func fd) #[] caps):Calls Tryz.prog fd caps w (ir E w T V v A ws ows i O o ow f c .one):=by
 obtain⟨ba,bo,bp,bx,h1,t1,t2,t3,t4,r1,r2,r3,r4⟩:=hm;rw[h1] at hn;cases hn;obtain⟨n1,n2,n3,n4,n5,n6,n7,n8,n9,n10,n11,n12,n13,n14⟩:=h.neO;have hsp:E.spots[x.topic]?=some E.spots[x.topic]:=cz hx;obtain⟨f1,f2,f3,f4,f5⟩:=rm h.ok hsp;have hsq:=h.seqs _ (dh hsp);generalize E.spots[x.topic]=s at *
 have nb:∀b,T b→b∉[v.B,O]:=fun b hb hx=>by
  have:=h.sep b hb;simp only[List.mem_cons,List.not_mem_nil,or_false] at hx;omega
 refine(b1p w O V v.Y i ba bo 95 #[pt bp,pt bx] o (fun W' er o'=>∃(n ls:Int),js er∧o'={o with gen:=wat ws s.seq / 2,count:=n,lost:=ls}∧ab [v.B,O] w W'∧bv W' v.B A ws) (fun W=>c3x _ W) h.hr r1 r2 ?_).mono ?_
 ·intro W hs;have h':=h.nil hs;refine(d0t W O V i bp bx A v o x s ws E.spots h'.hr (r3.same hs (by simp)) (r4.same hs (by simp)) h'.veh.hv h'.veh.bank h'.veh.spots h'.veh.k hsp (by rw[h'.veh.size];exact f3) (by omega)).mono ?_;rintro e W' ⟨er,n,ls,rfl,her,hs',hb,hr⟩;have hss:ab [v.B,O] w W':=hs.trans hs';exact⟨er,_,rfl,⟨n,ls,by rcases her with rfl|rfl<;>constructor<;>decide,rfl,hss,hb⟩,hr,rfl,r1.same hss (nb _ t1),r2.same hss (nb _ t2)⟩
 ·rintro e w' ⟨W1,er,o',rfl,⟨n,ls,her,rfl,hs1,hb⟩,hs2,hr⟩
  refine h.post (m':=none) (r:=⟨er,wat ws s.seq / 2,o.steps⟩) (ws':=ws) (hs1.trans hs2) (fun b hb=>?_) rfl (.one her) hr (hb.same hs2 (by simpa using n2.symm) (by simpa using n3.symm)) rfl rfl rfl rfl
   (fun _=>⟨rfl,rfl,by show fq w.heap.size w' o.gens;rw[hc.gens];exact fq.nil _ _,by show fq w.heap.size w' o.awords;rw[hc.words];exact fq.nil _ _⟩) (fun m1 h=>by cases h) rfl
  have:b=v.B∨b=O:=by simpa using hb
  rcases this with e|e
  ·exact Or.inr (Or.inr (Or.inl e))
  ·exact Or.inr (Or.inl e)
end
theorem eh.same{E:Env}{W W':World}{M:List Nat}{T T':Nat→Prop}{O k ns:Nat}{v:dg}{o:OpC}{m:ib}(h:eh E W T O k v o ns m)(hs:ab M W W')(hM:Off M T)(ht:∀b,T b→T' b):eh E W' T' O k v o ns m:=by
 cases m with
 | ref er=>exact⟨h.1,h.2.1,h.2.2.1,h.2.2.2.same hs hM ht⟩
 | adv t=>exact⟨h.1,h.2.1,h.2.2.1,h.2.2.2.same hs hM ht⟩
 | one=>
  obtain⟨h1,⟨t,s,h2,h3,h4,h5⟩|⟨x,h2,h3⟩⟩:=h
  ·exact⟨h1,Or.inl ⟨t,s,h2,h3,h4,h5.same hs hM ht⟩⟩
  ·exact⟨h1,Or.inr ⟨x,h2,h3.same hs hM ht⟩⟩
 | wr t l x=>
  obtain⟨h1,h2,h3,s,nx,q,n,h4,h5,h6,h7⟩:=h;exact⟨h1,h2,h3,s,nx,q,n,h4,h5,h6,h7.same hs hM ht⟩
 | rd t l x=>
  obtain⟨h1,h2,h3,s,X,h4,h5,h6,h7,h8,h9,h10⟩:=h;exact⟨h1,h2,h3,s,X,h4,h5,h6,h7,h8,h9,h10.same hs hM ht⟩
 | look tops l ld=>
  obtain⟨h1,h2,h3,⟨rl,xs,x,gs,us,SL,bS,cS,g1,g2,g3,g4,g5,g6⟩|⟨x,sl,ts,wv,nw,g1,g2⟩⟩:=h
  ·exact⟨h1,h2,h3,Or.inl ⟨rl,xs,x,gs,us,SL,bS,cS,g1,g2.same hs hM ht,g3,ht _ g4,g5.same hs (hM.n g4),g6⟩⟩
  ·exact⟨h1,h2,h3,Or.inr ⟨x,sl,ts,wv,nw,g1,g2.same hs hM ht⟩⟩
 | ar l sw=>
  obtain⟨h1,h2,h3,x,h4,h5,h6,h7,h8,h9⟩:=h;exact⟨h1,h2,h3,x,h4,h5,h6,h7,h8,h9.same hs hM ht⟩
 | md=>
  obtain⟨h1,x,h4,h5,h6,h7,h8,h9⟩:=h;exact⟨h1,x,h4,h5,h6,h7,h8,h9.same hs hM ht⟩
 | lg a=>exact⟨h.1,h.2.1,h.2.2.1,h.2.2.2.1,h.2.2.2.2.1,h.2.2.2.2.2.same hs hM ht⟩
section
variable{E:Env}{w:World}{T:Nat→Prop}{V A i O k c fd:Nat}{v:dg}{ws:List Nat}{ows:List Own}{o:OpC}{ow:Own}{f:Int→Bool}{sl:List Sub}{caps:Array Value}
def opT(t:TypeId):Prop:=t=210∨t=214∨t=220∨t=228∨t=41∨t=170∨t=231∨t=239∨t=248
def zi(w:World)(T:Nat→Prop)(b:Nat):Prop:=T b∧∃t cs,Row w b t cs∧opT t
theorem oh{b:Nat}{t:TypeId}{cs:Array Value}(hb:T b)(hr:Row w b t cs)(ht:opT t):zi w T b:=⟨hb,t,cs,hr,ht⟩
theorem Ctx.noM{b:Nat}(h:Ctx E w T V v A ws ows i O o ow f sl c)(hb:zi w T b):b≠ow.m:=by
 obtain⟨fm,nm,g1,g2,g3⟩:=h.own.map;obtain⟨_,t,cs,hr,_⟩:=hb;exact g1.ne hr
theorem Ctx.noS{b:Nat}{t:TypeId}{cs:Array Value}(h:Ctx E w T V v A ws ows i O o ow f sl c)(hr:Row w b t cs)(ht:t≠170):ow.sv.ownBlock≠some b:=fun e=>ck h.own.subs hr (fun e=>ht e.symm) (by simp[e])
def mz(E:Env)(w:World)(T:Nat→Prop)(v:dg)(A:Nat)(ws:List Nat)(O:Nat)(o:OpC)(ow:Own)(ns:Nat)(m:ib)(Fin:List Nat→World→List Nat→Prop)(W':World)(val:Int):Prop:=
 ∃M ws',ab M w W'∧(∀b∈M,zi w T b∨b=v.B∨b=A)∧bv W' v.B A ws'∧ws'.length=ws.length ∧
  ((val=0∧(∀b∈M,ow.sv.ownBlock≠some b)∧∃m1,dq E o.steps ws m ws' (some m1) .busy∧eh E W' (ji T w) O o.steps v o ns m1)∨(val=2∧(∀b∈M,ow.sv.ownBlock≠some b)∧dq E o.steps ws m ws' none ⟨19,0,0⟩)∨(val=1∧Fin M W' ws'))
variable{m:ib}{Fin:List Nat→World→List Nat→Prop}
theorem Ctx.wide{M:List Nat}{W:World}(h:Ctx E w T V v A ws ows i O o ow f sl c)(hs:ab M w W)(hM:∀b∈M,zi w T b∨b=v.B∨b=A):(∀b∈M,b≠O∧b≠V∧4<b)∧Row W O 122 (o.cells V v.Y i)∧Row W V 92 v.cells:=by
 obtain⟨n1,n2,n3,n4,n5,n6,n7,n8,n9,n10,n11,n12,n13,n14⟩:=h.neO
 have hm:∀b∈M,b≠O∧b≠V∧4<b:=fun b hb=>by
  have lo:=h.veh.low;rcases hM b hb with e|e|e
  ·have:=h.sep b e.1;exact⟨this.2.2.2.2.2.2,this.2.1,this.1⟩
  ·subst e;exact⟨n2.symm,n6.symm,lo.2.1⟩
  ·subst e;exact⟨n3.symm,n7.symm,lo.2.2.1⟩
 exact⟨hm,h.hr.same hs fun hx=>(hm _ hx).1 rfl,h.veh.hv.same hs fun hx=>(hm _ hx).2.1 rfl⟩
theorem Ctx.stay{M:List Nat}{b:Nat}{t:TypeId}{cs:Array Value}(h:Ctx E w T V v A ws ows i O o ow f sl c)(hM:∀b∈M,zi w T b∨b=v.B∨b=A)(hb:T b)(hr:Row w b t cs)(ht:¬ opT t):b∉M:=fun hx=>by
 have:=h.sep b hb;rcases hM b hx with ⟨_,t',cs',hr',ht'⟩|e|e
 ·rw[(hr.inj hr').1] at ht;exact ht ht'
 ·exact this.2.2.1 e
 ·exact this.2.2.2.1 e
theorem tg(h:Ctx E w T V v A ws ows i O o ow f sl c)(hc:o.at_=0)(hadv:jm f m=f){W W':World}(hq:mz E w T v A ws O o ow sl.length m Fin W 0)(hs:ab [] W W')(hr:Row W' O 122 (o.cells V v.Y i)):ir E w T V v A ws ows i O o ow f c m (.returned (.bool false)) W':=by
 obtain⟨M,ws',h1,h2,h3,h4,⟨_,hS,m1,h5,h6⟩|⟨h5,_⟩|⟨h5,_⟩⟩:=hq
 ·refine h.post (m':=some m1) (r:=.busy) (h1.trans hs) (fun b hb=>?_) rfl h5 hr (h3.same hs (by simp) (by simp)) h4 rfl rfl hc (fun e=>by cases e) (fun m2 e=>?_) hadv
  ·rw[List.append_nil] at hb;rcases h2 b hb with e|e|e
   ·exact Or.inl ⟨e.1,h.noM e,hS b hb⟩
   ·exact Or.inr (Or.inr (Or.inl e))
   ·exact Or.inr (Or.inr (Or.inr e))
  ·cases e;exact h6.same hs (io _) fun _ h=>h
 ·exact absurd h5 (by decide)
 ·exact absurd h5 (by decide)
theorem vh(h:Ctx E w T V v A ws ows i O o ow f sl c)(hc:ja o)(hadv:jm f m=f){W W':World}(hq:mz E w T v A ws O o ow sl.length m Fin W 2)(hs:ab [O] W W')(hr:Row W' O 122 (OpC.cells {o with code:=19} V v.Y i)):ir E w T V v A ws ows i O o ow f c m (.returned (.bool true)) W':=by
 obtain⟨n1,n2,n3,_⟩:=h.neO;obtain⟨M,ws',h1,h2,h3,h4,⟨h5,_⟩|⟨_,hS,h5⟩|⟨h5,_⟩⟩:=hq
 ·exact absurd h5 (by decide)
 ·refine h.post (m':=none) (r:=⟨19,0,0⟩) (h1.trans hs) (fun b hb=>?_) rfl h5 hr (h3.same hs (by simpa using n2.symm) (by simpa using n3.symm)) h4 rfl rfl hc.at_ (fun _=>⟨rfl,hc.gen,?_,?_⟩) (fun m2 e=>by cases e) hadv
  ·rw[List.mem_append,List.mem_singleton] at hb;rcases hb with hb|e
   ·rcases h2 b hb with e|e|e
    ·exact Or.inl ⟨e.1,h.noM e,hS b hb⟩
    ·exact Or.inr (Or.inr (Or.inl e))
    ·exact Or.inr (Or.inr (Or.inr e))
   ·exact Or.inr (Or.inl e)
  ·show fq w.heap.size W' o.gens
   rw[hc.gens];exact fq.nil _ _
  ·show fq w.heap.size W' o.awords
   rw[hc.words];exact fq.nil _ _
 ·exact absurd h5 (by decide)
end
theorem c3y(caps:Array Value)(W:World):Sem.run Tryz.prog (callFunc 68 caps) W=.ok (.enter 68 caps) W:=by
 go_simp
section
variable{E:Env}{w:World}{T:Nat→Prop}{V A i O k c fd:Nat}{v:dg}{ws:List Nat}{ows:List Own}{o:OpC}{ow:Own}{f:Int→Bool}{sl:List Sub}{caps:Array Value}
def c7s(E:Env)(v:dg)(A:Nat)(ws:List Nat)(k:Nat)(m:ib)(P:Nat)(M:List Nat)(W:World)(ws':List Nat):Prop:=(∀b∈M,b=P∨b=v.B∨b=A)∧∃(X:WOp)(D c:Nat),Row W P 210 (X.cells D c)∧X.how=1∧X.seq≤1000000∧dq E k ws m ws' none ⟨0,X.seq / 2+1,k⟩
theorem c7c{t l:Nat}{x:WSt}{s:am}{nx q n P D cD bw bo:Nat}{W:World}(h:Ctx E w T V v A ws ows i O o ow f sl c)(hk:o.steps=k+1)(hc:ja o)(hl1:1≤l)(hl2:l≤E.tries)(hsp:E.spots[t]?=some s)(hq:q≤1000000)(hx:WIs s nx q n x)(hthr:ki w T O 141 P 68 #[pt bw,pt bo] o.next)(tD:T D)(tbw:T bw)(tbo:T bo)(rbw:Row w bw 141 #[pt P])(rbo:Row w bo 95 #[pt O])(rP:Row w P 210 (WOp.cells ⟨0,nx,l,k,s,q,n⟩ D cD)){cur:Array Value}(rD:Row w D 41 cur)(hD:∀j,j<s.words→∃v:Nat,cur[j]?=some (cu v))(hs:ab [] w W):Calls Tryz.prog 271 #[pt P,pt v.B] W fun e W'=>∃val:Int,e=.returned (ci val)∧mz E w T v A ws O o ow sl.length (.wr t l x) (c7s E v A ws o.steps (.wr t l x) P) W' val:=by
 obtain⟨f1,f2,f3,f4,f5⟩:=rm h.ok hsp;have hsq:=h.seqs s (dh hsp);have hws:ws.length=E.size:=h.veh.size;have tP:=hthr.tP;have sP:=h.sep P tP;have hP:P≠v.B∧P≠A:=⟨sP.2.2.1,sP.2.2.2.1⟩;have mP:=oh (T:=T) tP rP (Or.inl rfl);have sPn:=h.noS rP (by decide);have hb:=h.veh.bank.same hs (by simp) (by simp);have rP':=rP.same hs (by simp);have rD':=rD.same hs (by simp);have ht16:=h.ok.t2;have hst:=h.st
 have key:∀(M:List Nat)(W':World)(x':WSt)(l' nx' q' n':Nat)(hs':ab M W W')(hM:∀b∈M,b=P∨b=v.B∨b=A)(r':Row W' P 210 (WOp.cells ⟨0,nx',l',k+1,s,q',n'⟩ D cD)),1≤l'→l'≤E.tries→q'≤1000000→WIs s nx' q' n' x'→eh E W' (ji T w) O o.steps v o sl.length (.wr t l' x'):=fun M W' x' l' nx' q' n' hs' hM r' g1 g2 g3 g4=>by
  have hw:ab M w W':=hs.trans hs'
  have offP:∀b,T b→b≠P→b∉M:=fun b hb hne hx=>by
   have:=h.sep b hb;have:=hM b hx;omega
  obtain⟨bm,bo2,bd,e1,s1,s2,s3,s4,q1,q2,q3⟩:=hthr;refine⟨hc,g1,g2,s,nx',q',n',hsp,g3,g4,P,D,cD,bw,bo,⟨bm,bo2,bd,e1,Or.inl s1,Or.inl s2,Or.inl s3,Or.inl s4,q1.same hw (offP _ s1 (q1.ne rP (by decide))),q2.same hw (offP _ s2 (q2.ne rP (by decide))),q3.same hw (offP _ s3 (q3.ne rP (by decide)))⟩,Or.inl tD,Or.inl tbw,Or.inl tbo,rbw.same hw (offP _ tbw (rbw.ne rP (by decide))),rbo.same hw (offP _ tbo (rbo.ne rP (by decide))),?_,cur,rD.same hw (offP _ tD (rD.ne rP (by decide))),hD⟩;rw[hk];exact r'
 have mem3:∀b∈[v.B,A,P],b=P∨b=v.B∨b=A:=fun b hb=>by
  simp only[List.mem_cons,List.not_mem_nil,or_false] at hb;omega
 have mem2:∀b∈[v.B,P],b=P∨b=v.B∨b=A:=fun b hb=>by
  simp only[List.mem_cons,List.not_mem_nil,or_false] at hb;omega
 have mM:∀(M:List Nat),(∀b∈M,b=P∨b=v.B∨b=A)→∀b∈M,zi w T b∨b=v.B∨b=A:=fun M hM b hb=>by
  rcases hM b hb with e|e|e
  ·exact Or.inl (e▸mP)
  ·exact Or.inr (Or.inl e)
  ·exact Or.inr (Or.inr e)
 have nS:∀(M:List Nat),(∀b∈M,b=P∨b=v.B∨b=A)→∀b∈M,ow.sv.ownBlock≠some b:=fun M hM b hb e=>by
  have:=h.sep b (h.own.ts b e);rcases hM b hb with e'|e'|e'
  ·subst e';exact sPn e
  ·exact this.2.2.1 e'
  ·exact this.2.2.2.1 e'
 cases x with
 | look=>
  obtain⟨hx,hn0⟩:nx=0∧n=0:=hx;subst hx hn0;rcases Nat.mod_two_eq_zero_or_one (wat ws s.seq) with he|he
  ·refine(b8n W P v.B A D cD ws l k s q 0 hb (by omega) hP (by omega) rP' he (by omega)).mono ?_;rintro e W' ⟨rfl,hs',hb',r'⟩;exact⟨0,rfl,_,ws,hs.trans hs',mM _ mem2,hb',rfl,Or.inl ⟨rfl,nS _ mem2,_,.wlook hsp he,key _ W' (.take (wat ws s.seq)) l 1 _ 0 hs' mem2 r' hl1 hl2 hsq ⟨rfl,rfl,rfl⟩⟩⟩
  ·refine(b9v W P v.B A D cD ws l k s q 0 hb (by omega) hP (by omega) hl1 (by omega) rP' he (by omega)).mono ?_;rintro e W' ⟨rfl,hs',hb',r'⟩;by_cases h1:l=1
   ·subst h1;exact⟨2,rfl,_,ws,hs.trans hs',mM _ mem2,hb',rfl,Or.inr (Or.inl ⟨rfl,nS _ mem2,.wspent hsp (Or.inl ⟨rfl,he⟩) rfl⟩)⟩
   ·rw[if_neg h1] at r' ⊢;exact⟨0,rfl,_,ws,hs.trans hs',mM _ mem2,hb',rfl,Or.inl ⟨rfl,nS _ mem2,_,.wheld hsp he (by omega),key _ W' .look (l-1) 0 _ 0 hs' mem2 r' (by omega) (by omega) hsq ⟨rfl,rfl⟩⟩⟩
 | take q'=>
  obtain⟨hx,rfl,hn0⟩:nx=1∧q=q'∧n=0:=hx;subst hx hn0;by_cases he:wat ws s.seq=q
  ·refine(b8o W P v.B A D cD ws l k s q 0 hb (by omega) hP (by omega) hq rP' he).mono ?_;rintro e W' ⟨rfl,hs',hb',r'⟩;exact⟨0,rfl,_,_,hs.trans hs',mM _ mem3,hb',by simp,Or.inl ⟨rfl,nS _ mem3,_,.wtake hsp he,key _ W' (.fill q 0) l 2 _ 0 hs' mem3 r' hl1 hl2 hq ⟨rfl,rfl,rfl,by have:=f1.w1;omega⟩⟩⟩
  ·refine(b8p W P v.B A D cD ws l k s q 0 hb (by omega) hP (by omega) hq hl1 (by omega) rP' he).mono ?_;rintro e W' ⟨rfl,hs',hb',r'⟩;by_cases h1:l=1
   ·subst h1;exact⟨2,rfl,_,ws,hs.trans hs',mM _ mem3,hb',rfl,Or.inr (Or.inl ⟨rfl,nS _ mem3,.wspent hsp (Or.inr ⟨q,rfl,he⟩) rfl⟩)⟩
   ·rw[if_neg h1] at r' ⊢;exact⟨0,rfl,_,ws,hs.trans hs',mM _ mem3,hb',rfl,Or.inl ⟨rfl,nS _ mem3,_,.wmiss hsp he (by omega),key _ W' .look (l-1) 0 _ 0 hs' mem3 r' (by omega) (by omega) hq ⟨rfl,rfl⟩⟩⟩
 | fill q' n'=>
  obtain⟨hx,rfl,rfl,hn⟩:nx=2∧q=q'∧n=n'∧n<s.words:=hx;subst hx;obtain⟨u,hu⟩:=hD n hn;have hu':W.cell? (ae D n)=some (cu u):=rD'.cell hu;by_cases he:n+1<s.words
  ·refine(b9w W P v.B A D cD ws l k s q n u hb f1 (by omega) hP (by omega) hq he rP' hu').mono ?_;rintro e W' ⟨rfl,hs',hb',r'⟩;exact⟨0,rfl,_,_,hs.trans hs',mM _ mem3,hb',by simp,Or.inl ⟨rfl,nS _ mem3,_,.wfill hsp he,key _ W' (.fill q (n+1)) l 2 _ _ hs' mem3 r' hl1 hl2 hq ⟨rfl,rfl,rfl,he⟩⟩⟩
  ·refine(b9x W P v.B A D cD ws l k s q n u hb f1 (by omega) hP (by omega) hq (by omega) rP' hu').mono ?_;rintro e W' ⟨rfl,hs',hb',r'⟩;exact⟨0,rfl,_,_,hs.trans hs',mM _ mem3,hb',by simp,Or.inl ⟨rfl,nS _ mem3,_,.wlast hsp (by omega),key _ W' (.give q) l 3 _ _ hs' mem3 r' hl1 hl2 hq ⟨rfl,rfl⟩⟩⟩
 | give q'=>
  obtain⟨hx,rfl⟩:nx=3∧q=q':=hx;subst hx;refine(b9y W P v.B A D cD ws l k s q n hb (by omega) hP (by omega) hq rP').mono ?_;rintro e W' ⟨rfl,hs',hb',r'⟩;exact⟨1,rfl,_,_,hs.trans hs',mM _ mem3,hb',by simp,Or.inr (Or.inr ⟨rfl,mem3,_,D,cD,r',rfl,hq,.wgive hsp⟩)⟩
theorem d0v{t l:Nat}{x:WSt}(h:Ctx E w T V v A ws ows i O o ow f sl c)(hk:o.steps=k+1)(hm:eh E w T O k v o sl.length (.wr t l x))(hn:o.next=.func (.func fd) #[] caps):Calls Tryz.prog fd caps w (ir E w T V v A ws ows i O o ow f c (.wr t l x)):=by
 obtain⟨hc,hl1,hl2,s,nx,q,n,hsp,hq,hx,P,D,cD,bw,bo,hthr,tD,tbw,tbo,rbw,rbo,rP,cur,rD,hD⟩:=hm;have hthr':=hthr;obtain⟨bm,bo2,bd,e1,s1,s2,s3,s4,q1,q2,q3⟩:=hthr';rw[e1] at hn;cases hn;have ne:=h.neO;refine(b9m w O V v.Y i bm bo2 bd 68 P v.B #[pt bw,pt bo] o v.cells (mz E w T v A ws O o ow sl.length (.wr t l x) (c7s E v A ws o.steps (.wr t l x) P)) (fun b w'=>ir E w T V v A ws ows i O o ow f c (.wr t l x) (.returned (.bool b)) w') (fun W=>c3y _ W) h.hr q1 q2 h.veh.hv rfl ?_ ?_ ?_ ?_).mono ?_
 ·intro W hs;refine(c7c h hk hc hl1 hl2 hsp hq hx hthr tD tbw tbo rbw rbo rP rD hD hs).mono ?_;rintro e W' ⟨val,rfl,hres⟩;have hres':=hres;obtain⟨M,ws',g1,g2,g3,g4,_⟩:=hres';obtain⟨u1,u2,u3⟩:=h.wide g1 g2;exact⟨val,rfl,hres,u2,q1.same g1 (h.stay g2 s1 q1 (by unfold opT;decide)),q2.same g1 (h.stay g2 s2 q2 (by unfold opT;decide)),q3.same g1 (h.stay g2 s3 q3 (by unfold opT;decide)),u3⟩
 ·intro W W' hq' hs hr;exact tg h hc.at_ rfl hq' hs hr
 ·intro W W' hq' hs hr;exact vh h hc rfl hq' hs hr
 ·intro W W' val hq' v0 v2 hs hr;obtain⟨M,ws',g1,g2,g3,g4,⟨e,_⟩|⟨e,_⟩|⟨_,gM,X,D',c',rX,x1,x2,hst⟩⟩:=hq'
  ·exact absurd e v0
  ·exact absurd e v2
  ·have hs2:ab M w W':=by have:=g1.trans hs;rwa [List.append_nil] at this
   refine(c8w W' O V v.Y i bw bo P D' c' o X hr (rbw.same hs2 (h.stay g2 tbw rbw (by unfold opT;decide))) (rbo.same hs2 (h.stay g2 tbo rbo (by unfold opT;decide))) (rX.same hs (by simp)) x1 x2).mono ?_;rintro e W'' ⟨rfl,hs3,hr3⟩;refine⟨rfl,h.post (m':=none) (r:=⟨0,X.seq / 2+1,o.steps⟩) (hs2.trans hs3) (fun b hb=>?_) rfl hst hr3 ((g3.same hs (by simp) (by simp)).same hs3 (by simpa using ne.2.1.symm) (by simpa using ne.2.2.1.symm)) g4 rfl rfl rfl (fun _=>⟨hc.code,rfl,?_,?_⟩) (fun m2 e=>by cases e) rfl⟩
   ·rw[List.mem_append,List.mem_singleton] at hb;rcases hb with hb|e
    ·rcases gM b hb with e|e|e
     ·subst e;exact Or.inl ⟨s4,h.noM (oh s4 rP (Or.inl rfl)),h.noS rP (by decide)⟩
     ·exact Or.inr (Or.inr (Or.inl e))
     ·exact Or.inr (Or.inr (Or.inr e))
    ·exact Or.inr (Or.inl e)
   ·show fq w.heap.size W'' o.gens
    rw[hc.gens];exact fq.nil _ _
   ·show fq w.heap.size W'' o.awords
    rw[hc.words];exact fq.nil _ _
 ·rintro e w' ⟨b,rfl,hR⟩;exact hR
end
section
variable{E:Env}{w:World}{T:Nat→Prop}{V A i O k c fd:Nat}{v:dg}{ws:List Nat}{ows:List Own}{o:OpC}{ow:Own}{f:Int→Bool}{sl:List Sub}{caps:Array Value}
theorem d1b{a:Nat}(h:Ctx E w T V v A ws ows i O o ow f sl c)(hm:eh E w T O k v o sl.length (.lg a))(hn:o.next=.func (.func fd) #[] caps):Calls Tryz.prog fd caps w (ir E w T V v A ws ows i O o ow f c (.lg a)):=by
 obtain⟨c1,c2,c3,c4,c5,bl,bo,P,wd,st,e1,t1,t2,t3,r1,r2,r3⟩:=hm;rw[e1] at hn;cases hn;obtain⟨n1,n2,n3,n4,n5,n6,n7,n8,n9,n10,n11,n12,n13,n14⟩:=h.neO;have hlg:=h.veh.lg;have l1:=h.ok.l1;have l2:=h.ok.l2
 have hsz:1+v.lg≤ws.length:=by
  have k1:=h.ok.k1;have hsp:E.spots[0]?=some E.spots[0]:=cz (by omega);obtain⟨f1,f2,f3,f4,f5⟩:=rm h.ok hsp;have:=(h.ok.ok _ (dh hsp)).2.1;rw[h.veh.size];omega
 refine(c6z w O V i bl bo P A v o _ ws h.hr r1 r2 h.veh.hv h.veh.bank r3 (by show 1≤v.lg;omega) (by show v.lg≤64;omega) (by show 1≤1048576;omega) (by show 1+v.lg≤ws.length;omega) rfl).mono ?_;rintro e w' ⟨rfl,hs,⟨j,hj,hb⟩,hr⟩;refine h.post (m':=none) (r:=⟨0,0,a⟩) hs (fun b hb=>?_) rfl (.lg (i:=j) (by rw[←hlg];exact hj)) hr hb (by simp) rfl rfl c3 (fun _=>⟨c1,c2,by rw[c4];exact fq.nil _ _,by rw[c5];exact fq.nil _ _⟩) (fun m1 h=>by cases h) rfl;have hb':b=v.B∨b=A∨b=P:=by simpa using hb
 rcases hb' with e|e|e
 ·exact Or.inr (Or.inr (Or.inl e))
 ·exact Or.inr (Or.inr (Or.inr e))
 ·subst e;exact Or.inl ⟨t3,h.noM (oh t3 r3 (by unfold opT;decide)),h.noS r3 (by decide)⟩
def c7t(E:Env)(k:Nat)(ws:List Nat)(m:ib)(wr:Bool)(x:AOp)(cc:Int)(x':AOp)(ws':List Nat):Prop:=
 ws'.length=ws.length∧x'.at_=x.at_∧x'.dec=x.dec ∧
  ((cc=0∧∃l' sw',m≠.md∧dq E k ws m ws' (some (.ar l' sw')) .busy∧1≤l'∧l'≤E.tries∧x'.left=l'∧x'.steps=k∧x'.how=0∧(match sw' with|none=>x'.swaps=false|some y=>x'.swaps=true∧x'.word=y)) ∨
   (cc≠0∧dq E k ws m ws' none ⟨x'.err,0,x'.eff⟩∧(wr=true→x'.err=0→x'.eff=k∧dq E k ws m ws' (some (.lg k)) ⟨0,0,k⟩)))
theorem c3z{wr:Bool}{x:AOp}{m:ib}(h:Ctx E w T V v A ws ows i O o ow f sl c)(hc:ja o)(hm:zv w T O wr x o.next)(hn:o.next=.func (.func fd) #[] caps)(hadv:jm f m=f)(hx0:x.at_=0)(hwr:m=.md∨wr=true)(hstep:∀W P,Ctx E W T V v A ws ows i O o ow f sl c→Row W P 239 x.cells→P≠v.B∧P≠A→4<P→Dec W x.dec→Calls Tryz.prog 102 #[pt P,pt v.B] W fun e W'=>∃(cc:Int)(x':AOp)(ws':List Nat),e=.returned (ci cc)∧ab [v.B,A,P] W W'∧Row W' P 239 x'.cells∧bv W' v.B A ws'∧c7t E o.steps ws m wr x cc x' ws'):Calls Tryz.prog fd caps w (ir E w T V v A ws ows i O o ow f c m):=by
 obtain⟨P,ba,bo,bw,e1,t1,t2,t3,t4,r1,r2,r3,r4,hd⟩:=hm;have hn':=hn;rw[e1] at hn';cases hn';obtain⟨n1,n2,n3,n4,n5,n6,n7,n8,n9,n10,n11,n12,n13,n14⟩:=h.neO;have hlg:=h.veh.lg;have l1:=h.ok.l1;have l2:=h.ok.l2;have sP:=h.sep P t1;refine(c6y w O V i ba bo bw P A v o x wr ws (fun cc x' ws'=>c7t E o.steps ws m wr x cc x' ws') h.hr r1 r2 r3 h.veh.hv h.veh.bank r4 hn (by omega) (by omega) (fun W hs=>hstep W P (h.nil hs) (r4.same hs (by simp)) ⟨sP.2.2.1,sP.2.2.2.1⟩ sP.1 (hd.dec.same hs (fun _ h=>by cases h)))).mono ?_;rintro e w' ⟨cc,x',ws',⟨hl,ha,hdec,hres⟩,hb,hs,hrP,harm⟩;have hmem:∀b∈[v.B,A,P,O],b=v.B∨b=A∨b=P∨b=O:=fun b hb=>by simpa using hb
 have hM:∀b∈[v.B,A,P,O],(T b∧b≠ow.m∧ow.sv.ownBlock≠some b)∨b=O∨b=v.B∨b=A:=fun b hb=>by
  rcases hmem b hb with e|e|e|e
  ·exact Or.inr (Or.inr (Or.inl e))
  ·exact Or.inr (Or.inr (Or.inr e))
  ·subst e;exact Or.inl ⟨t1,h.noM (oh t1 r4 (by unfold opT;decide)),h.noS r4 (by decide)⟩
  ·exact Or.inr (Or.inl e)
 have off:∀{b:Nat}{t:TypeId}{cs:Array Value},T b→Row w b t cs→t≠239→b∉[v.B,A,P,O]:=fun {b}{t}{cs} hb hr ht hx=>by
  have:=h.sep b hb;rcases hmem b hx with e|e|e|e
  ·omega
  ·omega
  ·exact hr.ne r4 ht e
  ·omega
 have hdT:zu (ji T w) w' x'.dec:=by
  rw[hdec];rcases hd with e|⟨b,a,tb,e,rb⟩|⟨b,fl,tb,e,rb⟩
  ·exact Or.inl e
  ·exact Or.inr (Or.inl ⟨b,a,Or.inl tb,e,rb.same hs (off tb rb (by decide))⟩)
  ·exact Or.inr (Or.inr ⟨b,fl,Or.inl tb,e,rb.same hs (off tb rb (by decide))⟩)
 have g2:=r2.same hs (off t3 r2 (by decide));rcases harm with ⟨hcc,rfl,hr⟩|⟨hcc,rfl,hr⟩|⟨hcc,rfl,⟨hw,herr⟩,bl,P2,wd,hbl,hP2,q1,q2,q3⟩
 ·rcases hres with ⟨_,l',sw',hmd,hst,b1,b2,b3,b4,b5,b6⟩|⟨e,_⟩
  ·have hw:wr=true:=hwr.resolve_left hmd;subst hw
   exact h.post (m':=some (.ar l' sw')) (r:=.busy) hs hM rfl hst hr hb hl rfl rfl hc.at_ (fun e=>by cases e) (fun m2 e=>by
    cases e;exact⟨hc,b1,b2,x',by rw[ha];exact hx0,b3,b4,b5,b6,P,ba,bo,bw,e1,Or.inl t1,Or.inl t2,Or.inl t3,Or.inl t4,r1.same hs (off t2 r1 (by decide)),g2,r3.same hs (off t4 r3 (by decide)),hrP,hdT⟩) hadv
  ·exact absurd hcc e
 ·rcases hres with ⟨e,_⟩|⟨_,hst,_⟩
  ·exact absurd e hcc
  ·exact h.post (m':=none) (r:=⟨x'.err,0,x'.eff⟩) hs hM rfl hst hr hb hl rfl rfl rfl (fun _=>⟨rfl,hc.gen,by show fq w.heap.size w' o.gens;rw[hc.gens];exact fq.nil _ _,by show fq w.heap.size w' o.awords;rw[hc.words];exact fq.nil _ _⟩) (fun m2 e=>by cases e) hadv
 ·rcases hres with ⟨e,_⟩|⟨_,_,hst⟩
  ·exact absurd e hcc
  ·obtain⟨he,hst⟩:=hst hw herr;refine h.post (m':=some (.lg o.steps)) (r:=⟨0,0,o.steps⟩) hs hM rfl hst q3 hb hl rfl rfl he (fun e=>by cases e) (fun m2 e=>?_) hadv;cases e;exact⟨herr,hc.gen,he,hc.gens,hc.words,bl,bo,P2,wd,x'.state,rfl,Or.inr hbl,Or.inl t3,Or.inr hP2,q1,g2,q2⟩
theorem d0z{l:Nat}{sw:Option Nat}(h:Ctx E w T V v A ws ows i O o ow f sl c)(hk:o.steps=k+1)(hm:eh E w T O k v o sl.length (.ar l sw))(hn:o.next=.func (.func fd) #[] caps):Calls Tryz.prog fd caps w (ir E w T V v A ws ows i O o ow f c (.ar l sw)):=by
 obtain⟨hc,hl1,hl2,x,hx0,hxl,hxk,hxh,hsw,hm⟩:=hm;have ht2:=h.ok.t2;have hst:=h.st;refine c3z h hc hm hn rfl hx0 (Or.inr rfl) (fun W P hC hr hP h4 hd=>?_)
 have hlen:x.at_<ws.length:=by
  have k1:=h.ok.k1;have hsp:E.spots[0]?=some E.spots[0]:=cz (by omega);obtain⟨f1,f2,f3,f4,f5⟩:=rm h.ok hsp;rw[h.veh.size];omega
 have low:=h.veh.low;cases sw with
 | none=>
  have hsw:x.swaps=false:=hsw;refine(wk W P v.B A ws x hC.veh.bank hlen hP ⟨by omega,by omega,by omega⟩ (by omega) hxh hsw hr hd hC.veh.ways).mono ?_;rintro e W' ⟨val,rfl,hs,hb,⟨rfl,s,er,hf,r'⟩|⟨rfl,hnd,t,r'⟩⟩
  ·refine⟨1,_,ws,rfl,hs,r',hb,rfl,rfl,rfl,Or.inr ⟨by decide,.adone hf (Or.inr (by rw[hk,←hxk];rfl)),fun _ he=>⟨by rw[hk,←hxk];rfl,?_⟩⟩⟩;exact .alog
  ·exact⟨0,_,ws,rfl,hs,r',hb,rfl,rfl,rfl,Or.inl ⟨rfl,l,some (wat ws 0),by simp,.aload,hl1,hl2,hxl,by rw[hk,←hxk],hxh,rfl,by show wat ws x.at_=_;rw[hx0]⟩⟩
 | some y=>
  obtain⟨hsw,hy⟩:x.swaps=true∧x.word=y:=hsw;refine(b4x W P v.B A ws x hC.veh.bank hlen hP (by omega) hxh hsw (by omega) hr).mono ?_;rintro e W' ⟨val,rfl,hs,⟨rfl,hb,er,hf,h0,r'⟩|⟨rfl,he,z,hb,r'⟩|⟨rfl,he,hl,hb,r'⟩|⟨rfl,he,hl,hb,r'⟩⟩
  ·exact⟨3,_,ws,rfl,hs,r',hb,rfl,rfl,rfl,Or.inr ⟨by decide,.adone hf (Or.inl rfl),fun _ he=>absurd he h0⟩⟩
  ·rw[hx0,hy] at he;rw[hx0] at hb;refine⟨1,_,_,rfl,hs,r',hb,by simp,rfl,rfl,Or.inr ⟨by decide,?_,fun _ _=>⟨by rw[hk,←hxk];rfl,.aswap he (Or.inr rfl)⟩⟩⟩;have:AOp.eff {x with steps:=x.steps+1,left:=x.left-1,swaps:=false,how:=1,state:=x.next,err:=0}=o.steps:=by rw[hk,←hxk];rfl
   rw[this];exact .aswap he (Or.inl rfl)
  ·rw[hx0,hy] at he;exact⟨2,_,ws,rfl,hs,r',hb,rfl,rfl,rfl,Or.inr ⟨by decide,.aspent he (by omega),fun _ he=>absurd (show (20:Int)=0 from he) (by decide)⟩⟩
  ·rw[hx0,hy] at he;exact⟨0,_,ws,rfl,hs,r',hb,rfl,rfl,rfl,Or.inl ⟨rfl,l-1,none,by simp,.amiss he (by omega),by omega,by omega,by show x.left-1=_;omega,by rw[hk,←hxk],hxh,rfl⟩⟩
theorem d1a(h:Ctx E w T V v A ws ows i O o ow f sl c)(hk:o.steps=k+1)(hm:eh E w T O k v o sl.length .md)(hn:o.next=.func (.func fd) #[] caps):Calls Tryz.prog fd caps w (ir E w T V v A ws ows i O o ow f c .md):=by
 obtain⟨hc,x,hx0,hxd,hsw,hxk,hxh,hm⟩:=hm;have hst:=h.st;refine c3z h hc hm hn rfl hx0 (Or.inl rfl) (fun W P hC hr hP h4 hd=>?_)
 have hlen:x.at_<ws.length:=by
  have k1:=h.ok.k1;have hsp:E.spots[0]?=some E.spots[0]:=cz (by omega);obtain⟨f1,f2,f3,f4,f5⟩:=rm h.ok hsp;rw[h.veh.size];omega
 have low:=h.veh.low;refine(wk W P v.B A ws x hC.veh.bank hlen hP ⟨by omega,by omega,by omega⟩ (by omega) hxh hsw hr hd hC.veh.ways).mono ?_;rintro e W' ⟨val,rfl,hs,hb,⟨rfl,s,er,hf,r'⟩|⟨rfl,hnd,t,r'⟩⟩
 ·exact⟨1,_,ws,rfl,hs,r',hb,rfl,rfl,rfl,Or.inr ⟨by decide,.mode hf,fun e=>by cases e⟩⟩
 ·exact absurd hxd hnd
end
theorem c4a(caps:Array Value)(W:World):Sem.run Tryz.prog (callFunc 72 caps) W=.ok (.enter 72 caps) W:=by
 go_simp
theorem c4b{s:am}(h:s.Ok)(g n:Nat)(hn:n<s.words):s.place g+n<s.first+s.words*s.depth:=by
 have h1:g%s.depth<s.depth:=Nat.mod_lt _ (by have:=h.d1;omega);have h2:=Nat.mul_le_mul_right s.words (Nat.succ_le_of_lt h1);rw[Nat.succ_mul,Nat.mul_comm s.depth] at h2;unfold am.place;omega
theorem c4c{W:World}{g n0:Nat}{gs:List Nat}(h:Row W g 41 (bj gs))(hl:gs.length≤1000000)(hg:n0≤g):fq n0 W (zl g gs.length gs.length):=by
 refine⟨gs.length,(bj gs).toList,⟨by simp[bj],Or.inr ⟨⟨g,0,none⟩,gs.length,rfl,fun j u hu=>?_⟩⟩,je gs,hl,fun b hb=>(by cases hb;exact hg)⟩;rw[b5e];exact h.cell (by simpa using hu)
section
variable{E:Env}{w:World}{T:Nat→Prop}{V A i O k c fd:Nat}{v:dg}{ws:List Nat}{ows:List Own}{o:OpC}{ow:Own}{f:Int→Bool}{sl:List Sub}{caps:Array Value}
def c7u(E:Env)(v:dg)(A:Nat)(ws:List Nat)(k:Nat)(m:ib)(P D:Nat)(M:List Nat)(W:World)(ws':List Nat):Prop:=
 (∀b∈M,b=P∨b=D∨b=v.B∨b=A)∧∃(X:ROp)(gs:List Nat),Row W P 214 (X.cells D)∧Row W D 41 (bj gs)∧X.how=1∧X.spot.words≤64∧gs.length=X.spot.words∧dq E k ws m ws' none ⟨0,X.gen,X.begun⟩
theorem c7d{t l:Nat}{x:RSt}{s:am}{X:ROp}{P D bw bo:Nat}{W:World}(h:Ctx E w T V v A ws ows i O o ow f sl c)(hk:o.steps=k+1)(hc:ja o)(hl1:1≤l)(hl2:l≤E.tries)(hsp:E.spots[t]?=some s)(hX1:X.spot=s)(hX2:X.tries=l)(hX3:X.steps=k)(hX4:X.how=0)(hx:RIs s X x)(hthr:ki w T O 147 P 72 #[pt bw,pt bo] o.next)(tD:T D)(tbw:T bw)(tbo:T bo)(rbw:Row w bw 147 #[pt P])(rbo:Row w bo 95 #[pt O])(rP:Row w P 214 (X.cells D)){gs:List Nat}(hgs:gs.length=X.spot.words)(rD:Row w D 41 (bj gs))(hs:ab [] w W):Calls Tryz.prog 274 #[pt P,pt v.B] W fun e W'=>∃val:Int,e=.returned (ci val)∧mz E w T v A ws O o ow sl.length (.rd t l x) (c7u E v A ws o.steps (.rd t l x) P D) W' val:=by
 obtain⟨xs,xt,xn,xg,xk,xb,xst,xh⟩:=X;simp only at hX1 hX2 hX3 hX4;subst hX1 hX2 hX3 hX4;obtain⟨f1,f2,f3,f4,f5⟩:=rm h.ok hsp;have hsq:=h.seqs xs (dh hsp);have hws:ws.length=E.size:=h.veh.size;have tP:=hthr.tP;have sP:=h.sep P tP;have sD:=h.sep D tD;have hP:P≠v.B∧P≠A:=⟨sP.2.2.1,sP.2.2.2.1⟩;have mP:=oh (T:=T) tP rP (Or.inr (Or.inl rfl));have mD:=oh (T:=T) tD rD (by unfold opT;decide);have sPn:=h.noS rP (by decide);have sDn:=h.noS rD (by decide);have hb:=h.veh.bank.same hs (by simp) (by simp);have rP':=rP.same hs (by simp);have rD':=rD.same hs (by simp);have ht16:=h.ok.t2;have hst:=h.st;have hPD:D≠P:=rD.ne rP (by decide)
 have key:∀(M:List Nat)(W':World)(x':RSt)(X':ROp)(gs':List Nat)(hs':ab M W W')(hM:∀b∈M,b=P∨b=D∨b=v.B∨b=A)(r':Row W' P 214 (X'.cells D))(d':Row W' D 41 (bj gs')),gs'.length=xs.words→X'.spot=xs→1≤X'.tries→X'.tries≤E.tries→X'.steps=xst+1→X'.how=0→RIs xs X' x'→eh E W' (ji T w) O o.steps v o sl.length (.rd t X'.tries x'):=fun M W' x' X' gs' hs' hM r' d' g0 g1 g2 g3 g4 g5 g6=>by
  have hw:ab M w W':=hs.trans hs'
  have offP:∀b,T b→b≠P→b≠D→b∉M:=fun b hb hne hnd hx=>by
   have:=h.sep b hb;have:=hM b hx;omega
  obtain⟨bm,bo2,bd,e1,s1,s2,s3,s4,q1,q2,q3⟩:=hthr;exact⟨hc,g2,g3,xs,X',hsp,g1,rfl,by omega,g5,g6,P,D,bw,bo,⟨bm,bo2,bd,e1,Or.inl s1,Or.inl s2,Or.inl s3,Or.inl s4,q1.same hw (offP _ s1 (q1.ne rP (by decide)) (q1.ne rD (by decide))),q2.same hw (offP _ s2 (q2.ne rP (by decide)) (q2.ne rD (by decide))),q3.same hw (offP _ s3 (q3.ne rP (by decide)) (q3.ne rD (by decide)))⟩,Or.inl tD,Or.inl tbw,Or.inl tbo,rbw.same hw (offP _ tbw (rbw.ne rP (by decide)) (rbw.ne rD (by decide))),rbo.same hw (offP _ tbo (rbo.ne rP (by decide)) (rbo.ne rD (by decide))),r',gs',by rw[g0,g1],d'⟩
 have mem3:∀b∈[v.B,D,P],b=P∨b=D∨b=v.B∨b=A:=fun b hb=>by
  simp only[List.mem_cons,List.not_mem_nil,or_false] at hb;omega
 have mem2:∀b∈[v.B,P],b=P∨b=D∨b=v.B∨b=A:=fun b hb=>by
  simp only[List.mem_cons,List.not_mem_nil,or_false] at hb;omega
 have mM:∀(M:List Nat),(∀b∈M,b=P∨b=D∨b=v.B∨b=A)→∀b∈M,zi w T b∨b=v.B∨b=A:=fun M hM b hb=>by
  rcases hM b hb with e|e|e|e
  ·exact Or.inl (e▸mP)
  ·exact Or.inl (e▸mD)
  ·exact Or.inr (Or.inl e)
  ·exact Or.inr (Or.inr e)
 have nS:∀(M:List Nat),(∀b∈M,b=P∨b=D∨b=v.B∨b=A)→∀b∈M,ow.sv.ownBlock≠some b:=fun M hM b hb e=>by
  have:=h.sep b (h.own.ts b e);rcases hM b hb with e'|e'|e'|e'
  ·subst e';exact sPn e
  ·subst e';exact sDn e
  ·exact this.2.2.1 e'
  ·exact this.2.2.2.1 e'
 have dstay:∀(W':World),ab [v.B,P] W W'→Row W' D 41 (bj gs):=fun W' hs'=>rD'.same hs' (by
  simp only[List.mem_cons,List.not_mem_nil,or_false,not_or];exact⟨sD.2.2.1,hPD⟩)
 cases x with
 | first=>
  have hx:xn=0:=hx;subst hx;refine(b3r W P v.B A D ws xs xt xg xk xb xst hb (by omega) hP (by omega) rP').mono ?_;rintro e W' ⟨rfl,hs',hb',r'⟩;exact⟨0,rfl,_,ws,hs.trans hs',mM _ mem2,hb',rfl,Or.inl ⟨rfl,nS _ mem2,_,by rw[hk];exact .rfirst hsp,key _ W' (.word (wat ws xs.seq / 2) 0 (xst+1)) _ gs hs' mem2 r' (dstay _ hs') hgs rfl hl1 hl2 rfl rfl ⟨rfl,rfl,rfl,rfl,by have:=f1.w1;omega⟩⟩⟩
 | word g n b=>
  obtain⟨hx,rfl,rfl,rfl,hn⟩:xn=1∧xg=g∧xk=n∧xb=b∧n<xs.words:=hx;subst hx;have hpl:=c4b f1 xg xk hn;by_cases he:xk+1<xs.words
  ·refine(b6c W P v.B A D ws xs xt xg xk xb xst gs f1 hgs rD' sD.2.2.2.1 he hb (by omega) hP (by omega) rP').mono ?_;rintro e W' ⟨rfl,hs',hb',r',gs',e',d'⟩;exact⟨0,rfl,_,ws,hs.trans hs',mM _ mem3,hb',rfl,Or.inl ⟨rfl,nS _ mem3,_,.rword hsp he,key _ W' (.word xg (xk+1) xb) _ gs' hs' mem3 r' d' e' rfl hl1 hl2 rfl rfl ⟨rfl,rfl,rfl,rfl,he⟩⟩⟩
  ·refine(b6d W P v.B A D ws xs xt xg xk xb xst gs f1 hgs rD' sD.2.2.2.1 (by omega) hb (by omega) hP (by omega) rP').mono ?_;rintro e W' ⟨rfl,hs',hb',r',gs',e',d'⟩;exact⟨0,rfl,_,ws,hs.trans hs',mM _ mem3,hb',rfl,Or.inl ⟨rfl,nS _ mem3,_,.rlast hsp (by omega),key _ W' (.again xg xb) _ gs' hs' mem3 r' d' e' rfl hl1 hl2 rfl rfl ⟨rfl,rfl,rfl⟩⟩⟩
 | again g b=>
  obtain⟨hx,rfl,rfl⟩:xn=2∧xg=g∧xb=b:=hx;subst hx;cases hke:oq (wat ws xs.seq) xg xs.depth
  ·by_cases h1:xt=1
   ·refine(b3t W P v.B A D ws xs xt xg xk xb xst f1.d1 f1.d2 (by omega) hke h1 hb (by omega) hP (by omega) rP').mono ?_;rintro e W' ⟨rfl,hs',hb',r'⟩;exact⟨2,rfl,_,ws,hs.trans hs',mM _ mem2,hb',rfl,Or.inr (Or.inl ⟨rfl,nS _ mem2,.rspent hsp hke h1⟩)⟩
   ·refine(b3s W P v.B A D ws xs xt xg xk xb xst f1.d1 f1.d2 (by omega) hke (by omega) (by omega) hb (by omega) hP (by omega) rP').mono ?_;rintro e W' ⟨rfl,hs',hb',r'⟩;exact⟨0,rfl,_,ws,hs.trans hs',mM _ mem2,hb',rfl,Or.inl ⟨rfl,nS _ mem2,_,.ragain hsp hke (by omega),key _ W' .first ⟨xs,xt-1,0,xg,xk,xb,xst+1,0⟩ gs hs' mem2 r' (dstay _ hs') hgs rfl (by show 1≤xt-1;omega) (by show xt-1≤E.tries;omega) rfl rfl rfl⟩⟩
  ·refine(b6b W P v.B A D ws xs xt xg xk xb xst f1.d1 f1.d2 (by omega) hke hb (by omega) hP (by omega) rP').mono ?_;rintro e W' ⟨rfl,hs',hb',r'⟩;exact⟨1,rfl,_,ws,hs.trans hs',mM _ mem2,hb',rfl,Or.inr (Or.inr ⟨rfl,mem2,_,gs,r',dstay _ hs',rfl,f1.w2,hgs,.rdone hsp hke⟩)⟩
theorem d0w{t l:Nat}{x:RSt}(h:Ctx E w T V v A ws ows i O o ow f sl c)(hk:o.steps=k+1)(hm:eh E w T O k v o sl.length (.rd t l x))(hn:o.next=.func (.func fd) #[] caps):Calls Tryz.prog fd caps w (ir E w T V v A ws ows i O o ow f c (.rd t l x)):=by
 obtain⟨hc,hl1,hl2,s,X,hsp,hX1,hX2,hX3,hX4,hx,P,D,bw,bo,hthr,tD,tbw,tbo,rbw,rbo,rP,gs,hgs,rD⟩:=hm;have hthr':=hthr;obtain⟨bm,bo2,bd,e1,s1,s2,s3,s4,q1,q2,q3⟩:=hthr';rw[e1] at hn;cases hn;have ne:=h.neO;refine(b9n w O V v.Y i bm bo2 bd 72 P v.B #[pt bw,pt bo] o v.cells (mz E w T v A ws O o ow sl.length (.rd t l x) (c7u E v A ws o.steps (.rd t l x) P D)) (fun b w'=>ir E w T V v A ws ows i O o ow f c (.rd t l x) (.returned (.bool b)) w') (fun W=>c4a _ W) h.hr q1 q2 h.veh.hv rfl ?_ ?_ ?_ ?_).mono ?_
 ·intro W hs;refine(c7d h hk hc hl1 hl2 hsp hX1 hX2 hX3 hX4 hx hthr tD tbw tbo rbw rbo rP hgs rD hs).mono ?_;rintro e W' ⟨val,rfl,hres⟩;have hres':=hres;obtain⟨M,ws',g1,g2,g3,g4,_⟩:=hres';obtain⟨u1,u2,u3⟩:=h.wide g1 g2;exact⟨val,rfl,hres,u2,q1.same g1 (h.stay g2 s1 q1 (by unfold opT;decide)),q2.same g1 (h.stay g2 s2 q2 (by unfold opT;decide)),q3.same g1 (h.stay g2 s3 q3 (by unfold opT;decide)),u3⟩
 ·intro W W' hq' hs hr;exact tg h hc.at_ rfl hq' hs hr
 ·intro W W' hq' hs hr;exact vh h hc rfl hq' hs hr
 ·intro W W' val hq' v0 v2 hs hr;obtain⟨M,ws',g1,g2,g3,g4,⟨e,_⟩|⟨e,_⟩|⟨_,gM,X',gs',rX,dX,x1,x2,x3,hst⟩⟩:=hq'
  ·exact absurd e v0
  ·exact absurd e v2
  ·have hs2:ab M w W':=by have:=g1.trans hs;rwa [List.append_nil] at this
   refine(c8x W' O V v.Y i bw bo P D o X' gs' hr (rbw.same hs2 (h.stay g2 tbw rbw (by unfold opT;decide))) (rbo.same hs2 (h.stay g2 tbo rbo (by unfold opT;decide))) (rX.same hs (by simp)) (dX.same hs (by simp)) x1 x2 x3).mono ?_;rintro e W'' ⟨g,rfl,hs3,hg,rg,hr3⟩;refine⟨rfl,h.post (m':=none) (r:=⟨0,X'.gen,X'.begun⟩) (hs2.trans hs3) (fun b hb=>?_) rfl hst hr3 ((g3.same hs (by simp) (by simp)).same hs3 (by simpa using ne.2.1.symm) (by simpa using ne.2.2.1.symm)) g4 rfl rfl rfl (fun _=>⟨hc.code,rfl,?_,?_⟩) (fun m2 e=>by cases e) rfl⟩
   ·rw[List.mem_append,List.mem_singleton] at hb;rcases hb with hb|e
    ·rcases gM b hb with e|e|e|e
     ·subst e;exact Or.inl ⟨s4,h.noM (oh s4 rP (Or.inr (Or.inl rfl))),h.noS rP (by decide)⟩
     ·subst e;exact Or.inl ⟨tD,h.noM (oh tD rD (by unfold opT;decide)),h.noS rD (by decide)⟩
     ·exact Or.inr (Or.inr (Or.inl e))
     ·exact Or.inr (Or.inr (Or.inr e))
    ·exact Or.inr (Or.inl e)
   ·show fq w.heap.size W'' o.gens
    rw[hc.gens];exact fq.nil _ _
   ·show fq w.heap.size W'' (zl g X'.spot.words X'.spot.words)
    rw[←x3];exact c4c rg (by omega) (nlt hs2.size hg)
 ·rintro e w' ⟨b,rfl,hR⟩;exact hR
end
theorem c4d(caps:Array Value)(W:World):Sem.run Tryz.prog (callFunc 79 caps) W=.ok (.enter 79 caps) W:=by
 go_simp
theorem b1z{l:List Nat}{j x:Nat}(h:j<l.length):wat (l.set j x) j=x:=by unfold wat;simp[h]
theorem b6k{l:List Nat}{j k x:Nat}(h:k≠j):wat (l.set k x) j=wat l j:=by unfold wat;simp[h]
section
variable{E:Env}{w:World}{T:Nat→Prop}{V A i O k c fd:Nat}{v:dg}{ws:List Nat}{ows:List Own}{o:OpC}{ow:Own}{f:Int→Bool}{sl:List Sub}{caps:Array Value}
def c7v(E:Env)(v:dg)(A:Nat)(ws:List Nat)(k:Nat)(m:ib)(P g2 c2 D1 D2:Nat)(xs:List am)(M:List Nat)(W:World)(_:List Nat):Prop:=
 (∀b∈M,b=P∨b=D1∨b=D2∨b=v.B∨b=A)∧∃(X:SOp)(gs us:List Nat),ij W P v.B A g2 c2 D1 D2 (gd xs xs.length) xs X ws gs us∧X.how=1∧∀(er:Int)(g a:Nat),js er→dq E k ws m ws none ⟨er,g,a⟩
theorem c7e{l:Nat}{tops:List Nat}{ld:List (Nat × Nat)}{rl SL:List Int}{xs:List am}{X:SOp}{gs us:List Nat}{P g2 c2 D1 D2 bs br bp bo gr cr gp cp bS cS:Nat}{W:World}(h:Ctx E w T V v A ws ows i O o ow f sl c)(hk:o.steps=k+1)(hc:ja o)(hl1:1≤l)(hl2:l≤E.tries)(hX:SnIs E k l rl xs X gs us tops ld)(hthr:ki w T O 156 P 79 #[pt bs,pt br,pt bp,pt bo] o.next)(t1:T g2)(t2:T D1)(t3:T D2)(t4:T bs)(t5:T br)(t6:T bp)(t7:T bo)(t8:T gr)(t9:T gp)(hne:D1≠D2)(hcr:xs.length≤cr)(r1:Row w bs 156 #[pt P])(r2:Row w br 26 #[zl gr xs.length cr])(r3:Row w bp 81 #[zl gp xs.length cp])(r4:Row w bo 95 #[pt O])(r5:Row w P 220 (X.cells g2 c2 xs.length D1 D2 (gd xs xs.length)))(r6:Row w D1 41 (bj gs))(r7:Row w D2 41 (bj us))(r8:au w g2 xs)(r9:Arr gj 1 w gr 3 rl)(r10:au w gp xs)(hset:o.set=zl bS SL.length cS)(tS:T bS)(rS:Arr gj 1 w bS 3 SL)(hper:SL.Perm rl)(hs:ab [] w W):Calls Tryz.prog 280 #[pt P,pt v.B] W fun e W'=>∃val:Int,e=.returned (ci val)∧mz E w T v A ws O o ow sl.length (.look tops l ld) (c7v E v A ws o.steps (.look tops l ld) P g2 c2 D1 D2 xs) W' val:=by
 obtain⟨xt,xd,xb,xst,xh⟩:=X;obtain⟨hX2,hX3,hX4,hn1,hn2,hgl,hul,hdn,hrl,hnd,htl,htop,hld⟩:=hX;simp only at hX2 hX3 hX4 hdn hld;subst hX2 hX3 hX4;have hws:ws.length=E.size:=h.veh.size;have tP:=hthr.tP;have sD1:=h.sep D1 t2;have sD2:=h.sep D2 t3;have mP:=oh (T:=T) tP r5 (by unfold opT;decide);have mD1:=oh (T:=T) t2 r6 (by unfold opT;decide);have mD2:=oh (T:=T) t3 r7 (by unfold opT;decide);have nP:=h.noS r5 (by decide);have nD1:=h.noS r6 (by decide);have nD2:=h.noS r7 (by decide);have ht16:=h.ok.t2;have hst:=h.st
 have hspot:∀(j:Nat)(s:am),xs[j]?=some s→∃t,tops[j]?=some t∧E.spots[t]?=some s:=fun j s hj=>by
  have hj1:=(bk.1 hj).1;have ht:tops[j]?=some tops[j]:=cz (by omega);obtain⟨s',e1,e2⟩:=htop j _ ht;rw[hj] at e2;cases e2;exact⟨_,ht,e1⟩
 have hok:∀s∈xs,s.Ok∧s.seq<ws.length∧s.first+s.words*s.depth≤ws.length:=fun s hs=>by
  obtain⟨j,hj⟩:=mig.1 hs;obtain⟨t,_,e⟩:=hspot j s hj;obtain⟨f1,f2,f3,f4,f5⟩:=rm h.ok e;exact⟨f1,by omega,by omega⟩
 have H:ij W P v.B A g2 c2 D1 D2 (gd xs xs.length) xs ⟨xt,xd,xb,xst,0⟩ ws gs us:=
  ⟨h.veh.bank.same hs (by simp) (by simp),fun s hs=>(hok s hs).1,fun s hs=>(hok s hs).2,hn2,hn1,rfl,hgl,hul,r8.same hs (by simp),r6.same hs (by simp),r7.same hs (by simp),sD1.2.2.2.1,sD2.2.2.2.1,hne,r5.same hs (by simp)⟩
 have mem4:∀b∈[v.B,D1,D2,P],b=P∨b=D1∨b=D2∨b=v.B∨b=A:=fun b hb=>by
  simp only[List.mem_cons,List.not_mem_nil,or_false] at hb;omega
 have mM:∀b∈[v.B,D1,D2,P],zi w T b∨b=v.B∨b=A:=fun b hb=>by
  rcases mem4 b hb with e|e|e|e|e
  ·exact Or.inl (e▸mP)
  ·exact Or.inl (e▸mD1)
  ·exact Or.inl (e▸mD2)
  ·exact Or.inr (Or.inl e)
  ·exact Or.inr (Or.inr e)
 have nS:∀b∈[v.B,D1,D2,P],ow.sv.ownBlock≠some b:=fun b hb e=>by
  have:=h.sep b (h.own.ts b e);rcases mem4 b hb with e'|e'|e'|e'|e'
  ·exact nP (e'▸e)
  ·exact nD1 (e'▸e)
  ·exact nD2 (e'▸e)
  ·exact this.2.2.1 e'
  ·exact this.2.2.2.1 e'
 have key:∀(W':World)(x':SOp)(gs' us':List Nat)(l':Nat)(ld':List (Nat × Nat)),ab [v.B,D1,D2,P] W W'→ij W' P v.B A g2 c2 D1 D2 (gd xs xs.length) xs x' ws gs' us'→1≤l'→l'≤E.tries→SnIs E o.steps l' rl xs x' gs' us' tops ld'→eh E W' (ji T w) O o.steps v o sl.length (.look tops l' ld'):=fun W' x' gs' us' l' ld' hs' H' g1 g2' g3=>by
  have hw:ab [v.B,D1,D2,P] w W':=hs.trans hs';have st:∀{b:Nat}{t:TypeId}{cs:Array Value},T b→Row w b t cs→¬ opT t→b∉[v.B,D1,D2,P]:=fun hb hr ht=>h.stay mM hb hr ht
  have sta:∀{α:Type}{enc:α→List Value}{sz b E':Nat}{l:List α},T b→Arr enc sz w b E' l→¬ opT E'→b∉[v.B,D1,D2,P]:=fun hb hr ht=>by
   obtain⟨cur,hr',_⟩:=hr.ex;exact h.stay mM hb hr' ht
  obtain⟨bm,bo2,bd,e1,s1,s2,s3,s4,q1,q2,q3⟩:=hthr
  exact⟨hc,g1,g2',Or.inl ⟨rl,xs,x',gs',us',SL,bS,cS,g3,⟨P,g2,c2,D1,D2,bs,br,bp,bo,gr,cr,gp,cp,⟨bm,bo2,bd,e1,Or.inl s1,Or.inl s2,Or.inl s3,Or.inl s4,q1.same hw (st s1 q1 (by unfold opT;decide)),q2.same hw (st s2 q2 (by unfold opT;decide)),q3.same hw (st s3 q3 (by unfold opT;decide))⟩,Or.inl t1,Or.inl t2,Or.inl t3,Or.inl t4,Or.inl t5,Or.inl t6,Or.inl t7,Or.inl t8,Or.inl t9,hne,hcr,
   r1.same hw (st t4 r1 (by unfold opT;decide)),r2.same hw (st t5 r2 (by unfold opT;decide)),r3.same hw (st t6 r3 (by unfold opT;decide)),r4.same hw (st t7 r4 (by unfold opT;decide)),H'.row,H'.d1,H'.d2,H'.sp,r9.same hw (sta t8 r9 (by unfold opT;decide)),r10.same hw (sta t9 r10 (by unfold opT;decide))⟩,hset,Or.inl tS,rS.same hw (sta tS rS (by unfold opT;decide)),hper⟩⟩
 by_cases h1:xd<xs.length
 ·have hxs:xs[xd]?=some xs[xd]:=cz h1;obtain⟨t,ht,hsp⟩:=hspot xd _ hxs;generalize xs[xd]=s at *;have hmem:t∈tops:=dh ht
  have hnew:∀(x':SOp),x'.tries=xt→x'.done=xd+1→x'.steps=xst+1→x'.how=0→SnIs E o.steps xt rl xs x' (gs.set xd (wat ws s.seq / 2)) us tops (ld++[(t,wat ws s.seq / 2)]):=fun x' a1 a2 a3 a4=>by
   refine⟨a1,by rw[hk];exact a3,a4,hn1,hn2,by simpa using hgl,hul,by rw[a2];omega,hrl,hnd,htl,htop,fun j t' hj ht'=>?_⟩;by_cases e:j=xd
   ·subst e;rw[ht] at ht';cases ht';rw[b1z (by omega)];simp
   ·rw[b6k (fun e'=>e e'.symm)];exact List.mem_append_left _ (hld j t' (by omega) ht')
  by_cases h2:xd+1=xs.length
  ·refine(ue W P v.B A g2 c2 D1 D2 _ xs ws gs us xt xd xb xst s hxs h2 (by omega) H).mono ?_;rintro e W' ⟨rfl,hs',H'⟩;exact⟨0,rfl,_,ws,hs.trans hs',mM,H'.hb,rfl,Or.inl ⟨rfl,nS,_,.kload hmem hsp,key W' _ _ _ _ _ hs' H' hl1 hl2 (hnew _ rfl rfl rfl rfl)⟩⟩
  ·refine(b4i W P v.B A g2 c2 D1 D2 _ xs ws gs us xt xd xb xst s hxs h2 (by omega) H).mono ?_;rintro e W' ⟨rfl,hs',H'⟩;exact⟨0,rfl,_,ws,hs.trans hs',mM,H'.hb,rfl,Or.inl ⟨rfl,nS,_,.kload hmem hsp,key W' _ _ _ _ _ hs' H' hl1 hl2 (hnew _ rfl rfl rfl rfl)⟩⟩
 by_cases h2:xd<xs.length+gd xs xs.length
 ·refine(b5k W P v.B A g2 c2 D1 D2 _ xs ws gs us xt xd xb xst (by omega) h2 (by omega) H).mono ?_;rintro e W' ⟨us',hu',rfl,hs',H'⟩
  exact⟨0,rfl,_,ws,hs.trans hs',mM,H'.hb,rfl,Or.inl ⟨rfl,nS,_,.kword,key W' _ _ _ _ _ hs' H' hl1 hl2 ⟨rfl,hk.symm,rfl,hn1,hn2,hgl,by rw[hu'];exact hul,by show xd+1<_;omega,hrl,hnd,htl,htop,fun j t' hj ht'=>by
   have hj:j<xd+1:=hj;have:=(bk.1 ht').1;exact hld j t' (by omega) ht'⟩⟩⟩
 ·obtain⟨j,hj⟩:∃j,xd-xs.length-gd xs xs.length=j:=⟨_,rfl⟩;have hjl:j<xs.length:=by omega
  have hxs:xs[xd-xs.length-gd xs xs.length]?=some xs[j]:=by rw[hj];exact cz hjl
  obtain⟨t,ht,hsp⟩:=hspot j _ (cz hjl);generalize xs[j]=s at *;have hin:(t,wat gs j)∈ld:=hld j t (by omega) ht;by_cases he:wat ws s.seq / 2=wat gs j
  ·have hld':∀(j t:Nat),j<xd+1→tops[j]?=some t→(t,wat gs j)∈ld:=fun j' t' hj' ht'=>by
    have:=(bk.1 ht').1;exact hld j' t' (by omega) ht'
   by_cases h3:xd+1<2*xs.length+gd xs xs.length
   ·refine(b5l W P v.B A g2 c2 D1 D2 _ xs ws gs us xt xd xb xst s hxs (by omega) (by rw[hj];exact he) h3 (by omega) H).mono ?_;rintro e W' ⟨rfl,hs',H'⟩;exact⟨0,rfl,_,ws,hs.trans hs',mM,H'.hb,rfl,Or.inl ⟨rfl,nS,_,.kword,key W' _ _ _ _ _ hs' H' hl1 hl2 ⟨rfl,hk.symm,rfl,hn1,hn2,hgl,hul,h3,hrl,hnd,htl,htop,hld'⟩⟩⟩
   ·refine(b5m W P v.B A g2 c2 D1 D2 _ xs ws gs us xt xd xb xst s hxs (by omega) (by rw[hj];exact he) (by omega) (by omega) H).mono ?_;rintro e W' ⟨rfl,hs',H'⟩;exact⟨1,rfl,_,ws,hs.trans hs',mM,H'.hb,rfl,Or.inr (Or.inr ⟨rfl,mem4,_,gs,us,H',rfl,fun er g a hf=>.kdone hf⟩)⟩
  ·by_cases h3:xt=1
   ·refine(b3b W P v.B A g2 c2 D1 D2 _ xs ws gs us xt xd xb xst s hxs (by omega) (by rw[hj];exact he) h3 (by omega) H).mono ?_;rintro e W' ⟨rfl,hs',H'⟩;exact⟨2,rfl,_,ws,hs.trans hs',mM,H'.hb,rfl,Or.inr (Or.inl ⟨rfl,nS,.kspent hin hsp he h3⟩)⟩
   ·refine(b3a W P v.B A g2 c2 D1 D2 _ xs ws gs us xt xd xb xst s hxs (by omega) (by rw[hj];exact he) (by omega) (by omega) (by omega) H).mono ?_;rintro e W' ⟨rfl,hs',H'⟩;exact⟨0,rfl,_,ws,hs.trans hs',mM,H'.hb,rfl,Or.inl ⟨rfl,nS,_,.kagain hin hsp he (by omega),key W' _ _ _ _ _ hs' H' (by omega) (by omega) ⟨rfl,hk.symm,rfl,hn1,hn2,hgl,hul,by show 0<_;omega,hrl,hnd,htl,htop,fun j t' hj _=>absurd hj (Nat.not_lt_zero _)⟩⟩⟩
theorem zj{W:World}{base n n0:Nat}{gv:Value}{cs:List Value}(h:W.ownsRow base 41 1 gv n cs)(h1:∀u∈cs,u.oneCell'=true)(hn:n≤1000000)(hb:n0≤base):fq n0 W gv:=⟨n,cs,j5 h,h1,hn,fun b e=>nlt hb (fw h b e)⟩
theorem d0x{l:Nat}{tops:List Nat}{ld:List (Nat × Nat)}{rl SL:List Int}{xs:List am}{X:SOp}{gs us:List Nat}{bS cS:Nat}(h:Ctx E w T V v A ws ows i O o ow f sl c)(hk:o.steps=k+1)(hc:ja o)(hl1:1≤l)(hl2:l≤E.tries)(hX:SnIs E k l rl xs X gs us tops ld)(hm:SnAt w T O rl xs X gs us o.next)(hset:o.set=zl bS SL.length cS)(tS:T bS)(rS:Arr gj 1 w bS 3 SL)(hper:SL.Perm rl)(hn:o.next=.func (.func fd) #[] caps):Calls Tryz.prog fd caps w (ir E w T V v A ws ows i O o ow f c (.look tops l ld)):=by
 obtain⟨P,g2,c2,D1,D2,bs,br,bp,bo,gr,cr,gp,cp,hthr,t1,t2,t3,t4,t5,t6,t7,t8,t9,hne,hcr,r1,r2,r3,r4,r5,r6,r7,r8,r9,r10⟩:=hm;have hthr':=hthr;obtain⟨bm,bo2,bd,e1,s1,s2,s3,s4,q1,q2,q3⟩:=hthr';rw[e1] at hn;cases hn;have ne:=h.neO;refine(b9o w O V v.Y i bm bo2 bd 79 P v.B #[pt bs,pt br,pt bp,pt bo] o v.cells (mz E w T v A ws O o ow sl.length (.look tops l ld) (c7v E v A ws o.steps (.look tops l ld) P g2 c2 D1 D2 xs)) (fun b w'=>ir E w T V v A ws ows i O o ow f c (.look tops l ld) (.returned (.bool b)) w') (fun W=>c4d _ W) h.hr q1 q2 h.veh.hv rfl ?_ ?_ ?_ ?_).mono ?_
 ·intro W hs;refine(c7e h hk hc hl1 hl2 hX hthr t1 t2 t3 t4 t5 t6 t7 t8 t9 hne hcr r1 r2 r3 r4 r5 r6 r7 r8 r9 r10 hset tS rS hper hs).mono ?_;rintro e W' ⟨val,rfl,hres⟩;have hres':=hres;obtain⟨M,ws',g1,g2,g3,g4,_⟩:=hres';obtain⟨u1,u2,u3⟩:=h.wide g1 g2;exact⟨val,rfl,hres,u2,q1.same g1 (h.stay g2 s1 q1 (by unfold opT;decide)),q2.same g1 (h.stay g2 s2 q2 (by unfold opT;decide)),q3.same g1 (h.stay g2 s3 q3 (by unfold opT;decide)),u3⟩
 ·intro W W' hq' hs hr;exact tg h hc.at_ rfl hq' hs hr
 ·intro W W' hq' hs hr;exact vh h hc rfl hq' hs hr
 ·intro W W' val hq' v0 v2 hs hr;obtain⟨M,ws',g1,hM,g3,g4,⟨e,_⟩|⟨e,_⟩|⟨_,gM,X',gs',us',H,x1,hst⟩⟩:=hq'
  ·exact absurd e v0
  ·exact absurd e v2
  ·have hs2:ab M w W':=by have:=g1.trans hs;rwa [List.append_nil] at this
   obtain⟨u1,u2,u3⟩:=h.wide hs2 hM;obtain⟨hX2,hX3,hX4,hn1,hn2,hgl,hul,hdn,hrl,hnd,htl,htop,hld⟩:=hX
   have sta:∀{α:Type}{enc:α→List Value}{sz b E':Nat}{l:List α},T b→Arr enc sz w b E' l→¬ opT E'→b∉M:=fun hb hr ht=>by
    obtain⟨cur,hr',_⟩:=hr.ex;exact h.stay hM hb hr' ht
   have hoks:∀s∈xs,s.Ok:=H.ok
   have hG:=h.veh.spots.same hs2 fun hx=>by
    have lw:=h.neO;rcases hM _ hx with e|e|e
    ·exact(h.sep _ e.1).2.2.2.2.1 rfl
    ·exact lw.2.2.2.2.2.2.2.1 e
    ·exact lw.2.2.2.2.2.2.2.2.1 e
   have lS:bS<W'.heap.size:=by
    obtain⟨cur,hr',_⟩:=rS.ex;exact Nat.lt_of_lt_of_le hr'.lt hs2.size
   refine(c8p W' O V v.G v.k v.gk v.T v.tr v.lg v.sz v.B v.Y v.yk i bs br bp bo P g2 c2 D1 D2 (gd xs xs.length) xs.length gr cr gp cp bS 0 cS v.tv o X' E.spots xs gs' us' rl SL hr (r1.same hs2 (h.stay hM t4 r1 (by unfold opT;decide))) (r2.same hs2 (h.stay hM t5 r2 (by unfold opT;decide))) (r3.same hs2 (h.stay hM t6 r3 (by unfold opT;decide))) (r4.same hs2 (h.stay hM t7 r4 (by unfold opT;decide))) u3 hG
    (H.row.same hs (by simp)) (H.d1.same hs (by simp)) (H.d2.same hs (by simp)) x1 H.hg H.hu hn1 hn2 rfl (r9.same hs2 (sta t8 r9 (by unfold opT;decide))) (by rw[hrl,List.length_map,htl]) hnd (r10.same hs2 (sta t9 r10 (by unfold opT;decide))) rfl hoks h.ok.k2 (fun j r hj=>?_) hset (Arr.toAt (rS.same hs2 (sta tS rS (by unfold opT;decide)))) hper lS (h.sep bS tS).2.2.2.2.2.2 hcr hc.gens hc.words h.veh.k).mono ?_
   ·rw[hrl,List.getElem?_map] at hj;obtain⟨t,ht,rfl⟩:=Option.map_eq_some_iff.1 hj;obtain⟨s,e1,e2⟩:=htop j t ht;exact⟨t,s,rfl,e1,e2⟩
   rintro e W'' ⟨rfl,hs3,gv,av,gn,an,gc,ac,hr3,hgv,hav,hg1,ha1,hgn,han⟩;refine⟨rfl,h.post (m':=none) (r:=⟨0,0,X'.begun⟩) (hs2.trans hs3) (fun b hb=>?_) rfl (hst 0 0 _ ⟨by decide,by decide⟩) hr3 ((H.hb.same hs (by simp) (by simp)).same hs3 (by simpa using ne.2.1.symm) (by simpa using ne.2.2.1.symm)) rfl rfl rfl rfl (fun _=>⟨hc.code,hc.gen,zj hgv hg1 (by omega) hs2.size,zj hav ha1 (by omega) hs2.size⟩) (fun m2 e=>by cases e) rfl⟩;rw[List.mem_append,List.mem_singleton] at hb;rcases hb with hb|e
   ·have hmine:=hM b hb;rcases gM b hb with e|e|e|e|e
    ·subst e;exact Or.inl ⟨s4,h.noM (oh s4 r5 (by unfold opT;decide)),h.noS r5 (by decide)⟩
    ·subst e;exact Or.inl ⟨t2,h.noM (oh t2 r6 (by unfold opT;decide)),h.noS r6 (by decide)⟩
    ·subst e;exact Or.inl ⟨t3,h.noM (oh t3 r7 (by unfold opT;decide)),h.noS r7 (by decide)⟩
    ·exact Or.inr (Or.inr (Or.inl e))
    ·exact Or.inr (Or.inr (Or.inr e))
   ·exact Or.inr (Or.inl e)
 ·rintro e w' ⟨b,rfl,hR⟩;exact hR
end
theorem c4e(caps:Array Value)(W:World):Sem.run Tryz.prog (callFunc 89 caps) W=.ok (.enter 89 caps) W:=by
 go_simp
section
variable{E:Env}{w:World}{T:Nat→Prop}{V A i O k c fd:Nat}{v:dg}{ws:List Nat}{ows:List Own}{o:OpC}{ow:Own}{f:Int→Bool}{sl:List Sub}{caps:Array Value}
def c7w(E:Env)(v:dg)(A:Nat)(ws:List Nat)(k:Nat)(m:ib)(P G C g2 c2:Nat)(l:List Sub)(ts:List Tpc)(M:List Nat)(W:World)(_:List Nat):Prop:=
 (∀b∈M,b=P∨b=G∨b=g2∨b=v.B∨b=A)∧∃(X:POp)(l':List Sub)(wv:Value)(nw:Nat),eo W P v.B A G l.length C g2 ts.length c2 wv nw X l' ts ws∧l'.map Sub.topic=l.map Sub.topic∧X.how=1 ∧ -1≤X.pick∧X.pick<l.length∧∀(er:Int)(g a:Nat),js er→dq E k ws m ws none ⟨er,g,a⟩
theorem c7f{l nw:Nat}{tops:List Nat}{ld:List (Nat × Nat)}{ps:List Sub}{ts:List Tpc}{X:POp}{wv:Value}{us:List Nat}{P G C g2 c2 bw bo:Nat}{W:World}(h:Ctx E w T V v A ws ows i O o ow f sl c)(hk:o.steps=k+1)(hc:ja o)(hl1:1≤l)(hl2:l≤E.tries)(hX:PoIs E k l X ps ts nw tops ld)(hthr:ki w T O 171 P 89 #[pt bw,pt bo] o.next)(t1:T G)(t2:T g2)(t3:T bw)(t4:T bo)(t5:∀b,wv.ownBlock=some b→T b)(r1:Row w bw 171 #[pt P])(r2:Row w bo 95 #[pt O])(r3:Row w P 228 (X.cells G ps.length C g2 ts.length c2 wv))(r4:eu w G ps)(r5:ia w g2 ts)(r6:w.ownsRow 0 41 1 wv nw (bj us).toList)(hs:ab [] w W):Calls Tryz.prog 282 #[pt P,pt v.B] W fun e W'=>∃val:Int,e=.returned (ci val)∧mz E w T v A ws O o ow sl.length (.look tops l ld) (c7w E v A ws o.steps (.look tops l ld) P G C g2 c2 ps ts) W' val:=by
 obtain⟨xl,xr,xn,xp,xg,xpl,xz,xh,xst,xat⟩:=X;obtain⟨hX2,hX3,hX4,hn1,hn2,hm1,hm2,hnw,hall,htop,hts,hpk,hrnd⟩:=hX;simp only at hX2 hX3 hX4 hpk hrnd;subst hX2 hX3 hX4;have hws:ws.length=E.size:=h.veh.size;have tP:=hthr.tP;obtain⟨curG,rG,-⟩:=r4.ex;obtain⟨cur2,rg2,-⟩:=r5.ex;have mP:=oh (T:=T) tP r3 (by unfold opT;decide);have mG:=oh (T:=T) t1 rG (by unfold opT;decide);have m2:=oh (T:=T) t2 rg2 (by unfold opT;decide);have nP:=h.noS r3 (by decide);have n2:=h.noS rg2 (by decide)
 have mwv:∀b,wv.ownBlock=some b→zi w T b∧ow.sv.ownBlock≠some b:=fun b hb=>by
  rcases r6.2 with ⟨e1,_⟩|⟨g,cap,cur,e1,_,e3,_⟩
  ·rw[e1] at hb;cases hb
  ·rw[e1] at hb;cases hb;exact⟨oh (t5 _ (by rw[e1];rfl)) (Row.mk e3) (by unfold opT;decide),h.noS (Row.mk e3) (by decide)⟩
 have ht16:=h.ok.t2;have hst:=h.st;have hsz:=h.ok.sz
 have hok:∀t∈ts,t.spot.Ok∧t.spot.seq<ws.length∧t.spot.first+t.spot.words*t.spot.depth≤ws.length∧wat ws t.spot.seq≤1000000:=fun t ht=>by
  obtain⟨f1,f2,f3,f4,f5⟩:=rm h.ok (hts t ht).2.1;have:=h.seqs _ (dh (hts t ht).2.1);exact⟨f1,by omega,by omega,this⟩
 have H:eo W P v.B A G ps.length C g2 ts.length c2 wv nw ⟨xl,xr,xn,xp,xg,xpl,xz,0,xst,xat⟩ ps ts ws:=
  ⟨h.veh.bank.same hs (by simp) (by simp),fun t ht=>(hok t ht).1,fun t ht=>⟨(hok t ht).2.1,(hok t ht).2.2.1⟩,fun t ht=>(hts t ht).2.2,hall,rfl,rfl,by omega,by omega,hm1,r3.same hs (by simp),r4.same hs (by simp),r5.same hs (by simp),⟨us,ai r6 hs nm0,fun b hb=>(h.sep b (t5 b hb)).2.2.2.1⟩,hnw⟩
 have mem3:∀b∈[v.B,g2,P],b=P∨b=g2∨b=v.B∨b=A∨wv.ownBlock=some b:=fun b hb=>by
  simp only[List.mem_cons,List.not_mem_nil,or_false] at hb;rcases hb with e|e|e
  ·exact Or.inr (Or.inr (Or.inl e))
  ·exact Or.inr (Or.inl e)
  ·exact Or.inl e
 have memw:∀b∈(v.B::P::wv.ownBlock.toList),b=P∨b=g2∨b=v.B∨b=A∨wv.ownBlock=some b:=fun b hb=>by
  simp only[List.mem_cons] at hb;rcases hb with e|e|e
  ·exact Or.inr (Or.inr (Or.inl e))
  ·exact Or.inl e
  ·exact Or.inr (Or.inr (Or.inr (Or.inr (by simpa using e))))
 have mM:∀(M:List Nat),(∀b∈M,b=P∨b=g2∨b=v.B∨b=A∨wv.ownBlock=some b)→∀b∈M,zi w T b∨b=v.B∨b=A:=fun M hM b hb=>by
  rcases hM b hb with e|e|e|e|e
  ·exact Or.inl (e▸mP)
  ·exact Or.inl (e▸m2)
  ·exact Or.inr (Or.inl e)
  ·exact Or.inr (Or.inr e)
  ·exact Or.inl (mwv b e).1
 have nS:∀(M:List Nat),(∀b∈M,b=P∨b=g2∨b=v.B∨b=A∨wv.ownBlock=some b)→∀b∈M,ow.sv.ownBlock≠some b:=fun M hM b hb e=>by
  have:=h.sep b (h.own.ts b e);rcases hM b hb with e'|e'|e'|e'|e'
  ·exact nP (e'▸e)
  ·exact n2 (e'▸e)
  ·exact this.2.2.1 e'
  ·exact this.2.2.2.1 e'
  ·exact(mwv b e').2 e
 have key:∀(M:List Nat)(W':World)(x':POp)(ts':List Tpc)(wv':Value)(nw' l':Nat)(ld':List (Nat × Nat)),ab M W W'→(∀b∈M,b=P∨b=g2∨b=v.B∨b=A∨wv.ownBlock=some b)→eo W' P v.B A G ps.length C g2 ts.length c2 wv' nw' x' ps ts' ws→ts'.length=ts.length→(∀b,wv'.ownBlock=some b→T b∨w.heap.size≤b)→1≤l'→l'≤E.tries→PoIs E o.steps l' x' ps ts' nw' tops ld'→eh E W' (ji T w) O o.steps v o sl.length (.look tops l' ld'):=fun M W' x' ts' wv' nw' l' ld' hs' hM H' hlen hwv g1 g2' g3=>by
  have hw:ab M w W':=hs.trans hs';have st:∀{b:Nat}{t:TypeId}{cs:Array Value},T b→Row w b t cs→¬ opT t→b∉M:=fun hb hr ht=>h.stay (mM M hM) hb hr ht;obtain⟨bm,bo2,bd,e1,s1,s2,s3,s4,q1,q2,q3⟩:=hthr;obtain⟨us',hu',-⟩:=H'.wvs;exact⟨hc,g1,g2',Or.inr ⟨x',ps,ts',wv',nw',g3,P,G,C,g2,c2,bw,bo,⟨bm,bo2,bd,e1,Or.inl s1,Or.inl s2,Or.inl s3,Or.inl s4,q1.same hw (st s1 q1 (by unfold opT;decide)),q2.same hw (st s2 q2 (by unfold opT;decide)),q3.same hw (st s3 q3 (by unfold opT;decide))⟩,Or.inl t1,Or.inl t2,Or.inl t3,Or.inl t4,hwv,r1.same hw (st t3 r1 (by unfold opT;decide)),r2.same hw (st t4 r2 (by unfold opT;decide)),by rw[hlen];exact H'.row,H'.subs,H'.tpcs,us',hu'⟩⟩
 rcases hrnd with ⟨hr,hx,hld⟩|⟨hr,hx,hz,hpz,hnx,hld⟩|⟨hr,hx,hld⟩
 ·subst hr;have hi:ts[xn]?=some ts[xn]:=cz hx;have htm:=List.getElem_mem hx;generalize ts[xn]=t at *;obtain⟨g1,g3,g4⟩:=hts t htm;obtain⟨k1,k2,k3,k4⟩:=hok t htm;have hlen:(ts.set xn ⟨t.n,t.spot,wat ws t.spot.seq / 2⟩).length=ts.length:=by simp
  have hts':∀t'∈ts.set xn ⟨t.n,t.spot,wat ws t.spot.seq / 2⟩,t'.n∈tops∧E.spots[t'.n]?=some t'.spot∧t'.gen≤1000000:=fun t' ht'=>by
   rcases List.mem_or_eq_of_mem_set ht' with e|e
   ·exact hts t' e
   ·subst e;exact⟨g1,g3,by show wat ws t.spot.seq / 2≤1000000;omega⟩
  have hall':∀y∈ps,∃t'∈ts.set xn ⟨t.n,t.spot,wat ws t.spot.seq / 2⟩,t'.n=y.topic:=fun y hy=>by
   obtain⟨t',ht',e⟩:=hall y hy;obtain⟨j,hj⟩:=mig.1 ht';by_cases hjn:xn=j
   ·subst hjn;rw[hi] at hj;cases hj;exact⟨_,List.mem_set hx _,e⟩
   ·exact⟨t',dh (by rw[List.getElem?_set_ne hjn];exact hj),e⟩
  have hin:∀(j:Nat)(t':Tpc),j<xn+1→(ts.set xn ⟨t.n,t.spot,wat ws t.spot.seq / 2⟩)[j]?=some t'→(t'.n,t'.gen)∈ld++[(t.n,wat ws t.spot.seq / 2)]:=fun j t' hj ht'=>by
   by_cases e:xn=j
   ·subst e;rw[List.getElem?_set_self hx] at ht';cases ht';simp
   ·rw[List.getElem?_set_ne e] at ht';exact List.mem_append_left _ (hld j t' (by omega) ht')
  by_cases h2:xn+1<ts.length
  ·refine(b4j W P v.B A G ps.length C g2 ts.length c2 nw wv ps ts ws xl xn xg xpl xz xst xat xp t hi h2 (by omega) (by omega) H).mono ?_;rintro e W' ⟨rfl,hs',H'⟩;exact⟨0,rfl,_,ws,hs.trans hs',mM _ mem3,H'.hb,rfl,Or.inl ⟨rfl,nS _ mem3,_,.kload g1 g3,key _ W' _ _ _ _ _ _ hs' mem3 H' hlen (fun b hb=>Or.inl (t5 b hb)) hl1 hl2 ⟨rfl,hk.symm,rfl,hn1,hn2,by rw[hlen];exact hm1,by rw[hlen];exact hm2,hnw,hall',htop,hts',hpk,Or.inl ⟨rfl,by rw[hlen];exact h2,hin⟩⟩⟩⟩
  ·refine(b2a W P v.B A G ps.length C g2 ts.length c2 nw wv ps ts ws xl xn xg xpl xz xst xat xp t hi (by omega) (by omega) (by omega) H).mono ?_;rintro e W' ⟨rnd,pk',gn',pl',sz',hpk',hrn,rfl,hs',H'⟩
   have hin':∀t'∈ts.set xn ⟨t.n,t.spot,wat ws t.spot.seq / 2⟩,(t'.n,t'.gen)∈ld++[(t.n,wat ws t.spot.seq / 2)]:=fun t' ht'=>by
    obtain⟨j,hj⟩:=mig.1 ht';have:=(bk.1 hj).1;exact hin j t' (by omega) hj
   refine⟨0,rfl,_,ws,hs.trans hs',mM _ mem3,H'.hb,rfl,Or.inl ⟨rfl,nS _ mem3,_,.kload g1 g3,key _ W' _ _ _ _ _ _ hs' mem3 H' hlen (fun b hb=>by cases hb) hl1 hl2 ⟨rfl,hk.symm,rfl,hn1,hn2,by rw[hlen];exact hm1,by rw[hlen];exact hm2,by omega,hall',htop,hts',hpk',?_⟩⟩⟩;rcases hrn with e|⟨e,z1,z2,z3⟩
   ·exact Or.inr (Or.inr ⟨e,by show 0<_;omega,hin'⟩)
   ·exact Or.inr (Or.inl ⟨e,z1,z2,by show pl'+sz'≤E.size;omega,rfl,hin'⟩)
 ·subst hr;subst hnx;by_cases h2:nw+1<xz
  ·refine(b2b W P v.B A G ps.length C g2 ts.length c2 wv ps ts ws xl nw xg xpl xz xst xat xp h2 hz (by omega) (by omega) (by omega) H).mono ?_;rintro e W' ⟨wv',hwv,rfl,hs',H'⟩;exact⟨0,rfl,_,ws,hs.trans hs',mM _ memw,H'.hb,rfl,Or.inl ⟨rfl,nS _ memw,_,.kword,key _ W' _ _ _ _ _ _ hs' memw H' rfl (fun b hb=>(hwv b hb).imp (t5 b) (nlt hs.size)) hl1 hl2 ⟨rfl,hk.symm,rfl,hn1,hn2,hm1,hm2,by omega,hall,htop,hts,hpk,Or.inr (Or.inl ⟨rfl,h2,hz,hpz,rfl,hld⟩)⟩⟩⟩
  ·refine(b0b W P v.B A G ps.length C g2 ts.length c2 wv ps ts ws xl nw xg xpl xz xst xat xp (by omega) hz (by omega) (by omega) (by omega) H).mono ?_;rintro e W' ⟨wv',hwv,rfl,hs',H'⟩;exact⟨0,rfl,_,ws,hs.trans hs',mM _ memw,H'.hb,rfl,Or.inl ⟨rfl,nS _ memw,_,.kword,key _ W' _ _ _ _ _ _ hs' memw H' rfl (fun b hb=>(hwv b hb).imp (t5 b) (nlt hs.size)) hl1 hl2 ⟨rfl,hk.symm,rfl,hn1,hn2,hm1,hm2,by omega,hall,htop,hts,hpk,Or.inr (Or.inr ⟨rfl,by show 0<_;omega,hld⟩)⟩⟩⟩
 ·subst hr;have hi:ts[xn]?=some ts[xn]:=cz hx;have htm:=List.getElem_mem hx;generalize ts[xn]=t at *;obtain⟨g1,g3,g4⟩:=hts t htm;have hin:=hld t htm;by_cases he:wat ws t.spot.seq / 2=t.gen
  ·by_cases h2:xn+1<ts.length
   ·refine(b5p W P v.B A G ps.length C g2 ts.length c2 nw wv ps ts ws xl xn xg xpl xz xst xat xp t hi he h2 (by omega) H).mono ?_;rintro e W' ⟨rfl,hs',H'⟩;exact⟨0,rfl,_,ws,hs.trans hs',mM _ mem3,H'.hb,rfl,Or.inl ⟨rfl,nS _ mem3,_,.kword,key _ W' _ _ _ _ _ _ hs' mem3 H' rfl (fun b hb=>Or.inl (t5 b hb)) hl1 hl2 ⟨rfl,hk.symm,rfl,hn1,hn2,hm1,hm2,hnw,hall,htop,hts,hpk,Or.inr (Or.inr ⟨rfl,h2,hld⟩)⟩⟩⟩
   ·refine(b5o W P v.B A G ps.length C g2 ts.length c2 nw wv ps ts ws xl xn xg xpl xz xst xat xp t hi he (by omega) (by omega) H).mono ?_;rintro e W' ⟨l',hl',rfl,hs',H'⟩
    have mem4:∀b∈[v.B,g2,P,G],b=P∨b=G∨b=g2∨b=v.B∨b=A:=fun b hb=>by
     simp only[List.mem_cons,List.not_mem_nil,or_false] at hb;omega
    refine⟨1,rfl,_,ws,hs.trans hs',fun b hb=>?_,H'.hb,rfl,Or.inr (Or.inr ⟨rfl,mem4,_,l',wv,nw,H',hl',rfl,hpk.1,hpk.2,fun er g a hf=>.kdone hf⟩)⟩;rcases mem4 b hb with e|e|e|e|e
    ·exact Or.inl (e▸mP)
    ·exact Or.inl (e▸mG)
    ·exact Or.inl (e▸m2)
    ·exact Or.inr (Or.inl e)
    ·exact Or.inr (Or.inr e)
  ·by_cases h3:xl=1
   ·refine(b3d W P v.B A G ps.length C g2 ts.length c2 nw wv ps ts ws xl xn xg xpl xz xst xat xp t hi he h3 (by omega) H).mono ?_;rintro e W' ⟨rfl,hs',H'⟩;exact⟨2,rfl,_,ws,hs.trans hs',mM _ mem3,H'.hb,rfl,Or.inr (Or.inl ⟨rfl,nS _ mem3,.kspent hin g3 he h3⟩)⟩
   ·refine(b3c W P v.B A G ps.length C g2 ts.length c2 nw wv ps ts ws xl xn xg xpl xz xst xat xp t hi he (by omega) (by omega) (by omega) H).mono ?_;rintro e W' ⟨rfl,hs',H'⟩;exact⟨0,rfl,_,ws,hs.trans hs',mM _ mem3,H'.hb,rfl,Or.inl ⟨rfl,nS _ mem3,_,.kagain hin g3 he (by omega),key _ W' _ _ _ _ _ _ hs' mem3 H' rfl (fun b hb=>Or.inl (t5 b hb)) (by omega) (by omega) ⟨rfl,hk.symm,rfl,hn1,hn2,hm1,hm2,hnw,hall,htop,hts,hpk,Or.inl ⟨rfl,by show 0<_;omega,fun j t' hj _=>absurd hj (Nat.not_lt_zero _)⟩⟩⟩⟩
theorem d0y{l nw:Nat}{tops:List Nat}{ld:List (Nat × Nat)}{ps:List Sub}{ts:List Tpc}{X:POp}{wv:Value}(h:Ctx E w T V v A ws ows i O o ow f sl c)(hk:o.steps=k+1)(hc:ja o)(hl1:1≤l)(hl2:l≤E.tries)(hX:PoIs E k l X ps ts nw tops ld)(hm:PlAt w T O X ps ts wv nw o.next)(hn:o.next=.func (.func fd) #[] caps):Calls Tryz.prog fd caps w (ir E w T V v A ws ows i O o ow f c (.look tops l ld)):=by
 obtain⟨P,G,C,g2,c2,bw,bo,hthr,t1,t2,t3,t4,t5,r1,r2,r3,r4,r5,us,r6⟩:=hm;have hthr':=hthr;obtain⟨bm,bo2,bd,e1,s1,s2,s3,s4,q1,q2,q3⟩:=hthr';rw[e1] at hn;cases hn;have ne:=h.neO;refine(b9p w O V v.Y i bm bo2 bd 89 P v.B #[pt bw,pt bo] o v.cells (mz E w T v A ws O o ow sl.length (.look tops l ld) (c7w E v A ws o.steps (.look tops l ld) P G C g2 c2 ps ts)) (fun b w'=>ir E w T V v A ws ows i O o ow f c (.look tops l ld) (.returned (.bool b)) w') (fun W=>c4e _ W) h.hr q1 q2 h.veh.hv rfl ?_ ?_ ?_ ?_).mono ?_
 ·intro W hs;refine(c7f h hk hc hl1 hl2 hX hthr t1 t2 t3 t4 t5 r1 r2 r3 r4 r5 r6 hs).mono ?_;rintro e W' ⟨val,rfl,hres⟩;have hres':=hres;obtain⟨M,ws',g1,g2,g3,g4,_⟩:=hres';obtain⟨u1,u2,u3⟩:=h.wide g1 g2;exact⟨val,rfl,hres,u2,q1.same g1 (h.stay g2 s1 q1 (by unfold opT;decide)),q2.same g1 (h.stay g2 s2 q2 (by unfold opT;decide)),q3.same g1 (h.stay g2 s3 q3 (by unfold opT;decide)),u3⟩
 ·intro W W' hq' hs hr;exact tg h hc.at_ rfl hq' hs hr
 ·intro W W' hq' hs hr;exact vh h hc rfl hq' hs hr
 ·intro W W' val hq' v0 v2 hs hr;obtain⟨M,ws',g1,hM,g3,g4,⟨e,_⟩|⟨e,_⟩|⟨_,gM,X',l',wv',nw',H,hl',x1,x2,x3,hst⟩⟩:=hq'
  ·exact absurd e v0
  ·exact absurd e v2
  ·have hs2:ab M w W':=by have:=g1.trans hs;rwa [List.append_nil] at this
   obtain⟨u1,u2,u3⟩:=h.wide hs2 hM;obtain⟨hX2,hX3,hX4,hn1,hn2,hm1,hm2,hnw,hall,htop,hts,hpk,hrnd⟩:=hX;have hlen:l'.length=ps.length:=by have:=congrArg List.length hl';simpa using this
   have htp:∀y∈l',y.topic<E.spots.length:=fun y hy=>by
    have:y.topic∈ps.map Sub.topic:=by rw[←hl'];exact List.mem_map.2 ⟨y,hy,rfl⟩
    obtain⟨z,hz,e⟩:=List.mem_map.1 this;rw[←e];exact htop z hz
   obtain⟨us',hu',-⟩:=H.wvs
   have hmY:v.Y∉M:=fun hx=>by
    rcases hM _ hx with e|e|e
    ·exact(h.sep _ e.1).2.2.2.2.2.1 rfl
    ·exact ne.2.2.2.2.2.2.2.2.2.1 e
    ·exact ne.2.2.2.2.2.2.2.2.2.2.1 e
   refine(c9t W' O V v.Y i bw bo P G ps.length C g2 ts.length c2 nw' wv' X' l' ts us' o ows ow hr (r1.same hs2 (h.stay hM t3 r1 (by unfold opT;decide))) (r2.same hs2 (h.stay hM t4 r2 (by unfold opT;decide))) (H.row.same hs (by simp)) (H.subs.same hs (by simp)) (H.tpcs.same hs (by simp)) (ai hu' hs nm0) H.wn x1 hlen rfl hn1 (by omega) (by omega) H.all (fun t ht=>(hts t ht).2.2) x2 x3 (h.veh.owns.same hs2 hmY) h.hi).mono ?_;rintro e W'' ⟨v',av',co',su',cn',lo',ge',rfl,hs3,hr3,hco,hav,hy3,hsb⟩;refine⟨rfl,?_⟩;have hs4:=hs2.trans hs3
   have hmem:∀b∈M++[O,v.Y],zi w T b∨b=O∨b=v.B∨b=A∨b=v.Y:=fun b hb=>by
    simp only[List.mem_append,List.mem_cons,List.not_mem_nil,or_false] at hb;rcases hb with hb|e|e
    ·rcases hM b hb with e|e|e
     ·exact Or.inl e
     ·exact Or.inr (Or.inr (Or.inl e))
     ·exact Or.inr (Or.inr (Or.inr (Or.inl e)))
    ·exact Or.inr (Or.inl e)
    ·exact Or.inr (Or.inr (Or.inr (Or.inr e)))
   obtain⟨fm,nm,k1,k2,k3⟩:=h.own.map
   have hb4:bv W'' v.B A ws:=(H.hb.same hs (by simp) (by simp)).same hs3 (by
    simp only[List.mem_cons,List.not_mem_nil,or_false,not_or];exact⟨ne.2.1.symm,ne.2.2.2.2.2.2.2.2.2.1.symm⟩) (by
    simp only[List.mem_cons,List.not_mem_nil,or_false,not_or];exact⟨ne.2.2.1.symm,ne.2.2.2.2.2.2.2.2.2.2.1.symm⟩)
   have lo:=h.lO;have lw:=h.veh.low;refine⟨ws,none,⟨co',ge',X'.at_⟩,_,{ow with sv:=v'},l',rfl,hst co' _ _ ?_,hr3,?_,⟨⟨fm,nm,k1.same hs4 fun hx=>?_,by omega,k3⟩,Or.inl h.own.tm,?_,fun b hb=>?_,by omega,htp⟩,rfl,rfl,rfl,rfl,fun _=>⟨rfl,rfl,?_,?_⟩,fun m1 h=>(by cases h),_,hs4,fun b hb=>?_⟩
   ·rcases hco with e|e
    ·rw[e,hc.code];constructor<;>decide
    ·rw[e];constructor<;>decide
   ·refine h.veh.turn hs4 hb4 rfl hy3 (by simp) fun b hb=>?_;rcases hmem b hb with e|e|e|e|e
    ·have:=h.sep b e.1;exact⟨this.2.1,this.2.2.2.2.1,this.1⟩
    ·subst e;exact⟨ne.1,ne.2.2.2.1,lo⟩
    ·subst e;exact⟨ne.2.2.2.2.2.1.symm,ne.2.2.2.2.2.2.2.1.symm,lw.2.1⟩
    ·subst e;exact⟨ne.2.2.2.2.2.2.1.symm,ne.2.2.2.2.2.2.2.2.1.symm,lw.2.2.1⟩
    ·subst e;exact⟨ne.2.2.2.2.2.2.2.2.2.2.2.1.symm,ne.2.2.2.2.2.2.2.2.2.2.2.2.1.symm,lw.2.2.2.2⟩
   ·have:=h.sep _ h.own.tm;rcases hmem _ hx with e|e|e|e|e
    ·exact h.noM e rfl
    ·omega
    ·omega
    ·omega
    ·omega
   ·rw[←hlen] at hsb
    exact⟨hsb.1,by
     rcases hsb.2 with e|⟨g,cap,cur,e,_,e3⟩
     ·exact Or.inl e
     ·exact Or.inr ⟨g,cap,cur,e,Nat.zero_le _,e3⟩⟩
   ·exact Or.inr (nlt hs2.size (fw hsb b hb))
   ·show fq w.heap.size W'' o.gens
    rw[hc.gens];exact fq.nil _ _
   ·show fq w.heap.size W'' av'
    rcases hav with e|e
    ·rw[e,hc.words];exact fq.nil _ _
    ·exact zj e (je us') (by have:=H.wn;omega) hs2.size
   ·rcases hmem b hb with e|e|e|e|e
    ·exact Or.inl e.1
    all_goals simp[e]
 ·rintro e w' ⟨b,rfl,hR⟩;exact hR
end
end Go.Proofs.YtojkaibpfdhmaaaGreatDoor

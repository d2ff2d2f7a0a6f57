/- A step of a task's call: Sched.step. -/
import Derived.Test.YtojkaibpfdhmaaaGreatDoorP16
import Derived.Test.YtojkaibpfdhmaaaGreatDoorP38
namespace Go.Proofs.YtojkaibpfdhmaaaGreatDoor
open Go.RowKit
set_option maxRecDepth 100000
set_option maxHeartbeats 16000000
structure EvC where
 task:Nat
 kd:Int
 tp:Int
 sb:Int
 cp:Int
 rk:Int
 sr:Int
 mo:Int
 fl:Int
 fb:Bool
 set:Value
 words:Value
 code:Int
 asub:Int
 gen:Nat
 count:Int
 lost:Int
 st:St
 gens:Value
 awords:Value
 frm:Nat
 at_:Nat
 to_:Nat
def EvC.enc (e : EvC) : List Value := [.int .i64 e.task, .int .i64 e.kd, .int .i64 e.tp, .int .i64 e.sb, .int .i64 e.cp, .int .i64 e.rk, .int .i64 e.sr, .int .i64 e.mo, .int .i64 e.fl, .bool e.fb, e.set, e.words, .int .i64 e.code, .int .i64 e.asub, .int .u64 e.gen, .int .i64 e.count, .int .u64 e.lost, .int .i64 e.st.m, .int .i64 e.st.s, .bool e.st.h, .int .i64 e.st.f, .int .u64 e.st.e, e.gens, e.awords, .int .i64 e.frm, .int .i64 e.at_, .int .i64 e.to_]
abbrev EvC.l (x : EvC) : List Value := [ci x.task, ci x.kd, ci x.tp, ci x.sb, ci x.cp, ci x.rk, ci x.sr, ci x.mo, ci x.fl, .bool x.fb, x.set, x.words, ci x.code, ci x.asub, cu x.gen, ci x.count, cu x.lost, ci x.st.m, ci x.st.s, .bool x.st.h, ci x.st.f, cu x.st.e, x.gens, x.awords, ci x.frm, ci x.at_, ci x.to_]
abbrev EvC.a (x : EvC) : Array Value := #[ci x.task, ci x.kd, ci x.tp, ci x.sb, ci x.cp, ci x.rk, ci x.sr, ci x.mo, ci x.fl, .bool x.fb, x.set, x.words, ci x.code, ci x.asub, cu x.gen, ci x.count, cu x.lost, ci x.st.m, ci x.st.s, .bool x.st.h, ci x.st.f, cu x.st.e, x.gens, x.awords, ci x.frm, ci x.at_, ci x.to_]
theorem EvC.enc_len(e:EvC):e.enc.length=27:=rfl
def zo(b:Nat):List Value:=[pt b]
theorem c1s(b:Nat):(zo b).length=1:=rfl
theorem lu{W:World}{base E sz n b nm:Nat}{v:Value}{cs:List Value}{f:Lit→Option Value}{k:TypeId}(h:W.ownsRow base E sz v n cs)(hm:a8 Tryz.prog k W b nm f):v.ownBlock≠some b:=fun e=>by
 rcases h.2 with ⟨e1,_⟩|⟨g,cap,cur,e1,_,e3,_⟩
 ·rw[e1] at e;cases e
 ·rw[e1] at e;cases e;exact hm.ne (Row.mk e3) rfl
theorem fq.same{n0:Nat}{W W':World}{M:List Nat}{vv:Value}(h:fq n0 W vv)(hs:ab M W W')(hM:∀b∈M,b<n0):fq n0 W' vv:=by
 obtain⟨n,cs,a1,a2,a3,a4⟩:=h;exact⟨n,cs,a1.same hs (fun b hb hx=>by have:=hM b hx;have:=a4 b hb;omega),a2,a3,a4⟩
structure ff{α:Type}(enc:α→List Value)(sz N:Nat)(W:World)(g:Nat)(E:TypeId)(l:List α):Prop where
 ex:∃cur,Row W g E cur∧cur.toList.take (l.length*sz)=l.flatMap enc∧cur.size=N
section
variable{α:Type}{enc:α→List Value}{sz N g E:Nat}{W W':World}{l:List α}{M:List Nat}
theorem ff.arr(h:ff enc sz N W g E l):Arr enc sz W g E l:=by obtain⟨cur,hr,ht,_⟩:=h.ex;exact⟨cur,hr,ht⟩
theorem ff.same(h:ff enc sz N W g E l)(hs:ab M W W')(hb:g∉M):ff enc sz N W' g E l:=by obtain⟨cur,hr,ht⟩:=h.ex;exact⟨cur,hr.same hs hb,ht⟩
theorem ff.bel(h:ff enc sz N W g E l)(hs:Below W.heap.size W W'):ff enc sz N W' g E l:=by obtain⟨cur,hr,ht⟩:=h.ex;exact⟨cur,hr.bel hs,ht⟩
theorem ff.alloc(h:ff enc sz N W g E l)(o:Obj):ff enc sz N (W.alloc o) g E l:=by obtain⟨cur,hr,ht⟩:=h.ex;exact⟨cur,hr.alloc o,ht⟩
theorem ff.drew(h:ff enc sz N W g E l):ff enc sz N W.drew g E l:=by obtain⟨cur,hr,ht⟩:=h.ex;exact⟨cur,hr.drew,ht⟩
theorem ff.drewN(h:ff enc sz N W g E l)(n:Nat):ff enc sz N (W.drewN n) g E l:=by obtain⟨cur,hr,ht⟩:=h.ex;exact⟨cur,hr.drewN n,ht⟩
theorem ff.other(h:ff enc sz N W g E l){a:Addr}(hb:g≠a.block)(v:Value):ff enc sz N (W.setCell a v) g E l:=by obtain⟨cur,hr,ht⟩:=h.ex;exact⟨cur,hr.other hb v,ht⟩
instance:C0 (ff enc sz N W g E l) W W' (ff enc sz N W' g E l):=⟨fun hs h=>h.same hs (by simp)⟩
instance:CM (ff enc sz N W g E l) M W W' (g∉M) (ff enc sz N W' g E l):=⟨fun hs m h=>h.same hs m⟩
theorem ff.ot {b : Nat} (h : ff enc sz N W g E l) (hb : g ≠ b) (i : Nat) (v : Value) : ff enc sz N (W.setCell ⟨b, i, none⟩ v) g E l := h.other (a := ⟨b, i, none⟩) hb v
theorem ff.free(h:ff enc sz N W g E l)(i:Nat):W.frozen? ⟨g,i,none⟩=false:=h.arr.free i
theorem ff.lt(h:ff enc sz N W g E l):g<W.heap.size:=h.arr.lt
theorem ff.cell(h:ff enc sz N W g E l)(hl:∀x,(enc x).length=sz){k j:Nat}{x:α}{v:Value}(hx:l[k]?=some x)(hv:(enc x)[j]?=some v):W.cell? (ae g (k*sz+j))=some v:=h.arr.cell hl hx hv
theorem ff.set(h:ff enc sz N W g E l)(hl:∀x,(enc x).length=sz){k j:Nat}{x x':α}{v:Value}(hx:l[k]?=some x)(hj:j<sz)(he:enc x'=(enc x).set j v):ff enc sz N (W.setCell ⟨g,k*sz+j,none⟩ v) g E (l.set k x'):=by
 obtain⟨cur,hr,ht,hn⟩:=h.ex;obtain⟨cur',hr',ht'⟩:=(Arr.mk ⟨cur,hr,ht⟩:Arr enc sz W g E l).set hl (k:=k) (j:=j) (x:=x) (x':=x') (v:=v) hx hj he;have e:=(hr'.inj (hr.set (k*sz+j) v)).2;exact⟨cur',hr',ht',by rw[e];simpa using hn⟩
theorem ff.of_own{base:Nat}{v:Value}{n:Nat}(h:W.ownsRow base E sz v n (l.flatMap enc))(hn:n=l.length)(h1:1≤n):∃g c,v=zl g n c∧base≤g∧n≤c∧c≤maxLen∧ff enc sz (c*sz) W g E l:=by
 obtain⟨g,cap,cur,h2,h3,h4,h5,h7,h8,h6⟩:=u9 h h1;exact⟨g,cap,h2,h3,h5,h7,⟨cur,h4,by rw[←hn];exact h6,h8⟩⟩
theorem ff.own{c:Nat}(h:ff enc sz (c*sz) W g E l)(hl:∀x,(enc x).length=sz)(h1:l.length≤c)(h2:c≤maxLen):W.ownsRow 0 E sz (zl g l.length c) l.length (l.flatMap enc):=by
 obtain⟨cur,hr,ht,hn⟩:=h.ex;exact⟨ik hl l,Or.inr ⟨g,c,cur,rfl,Nat.zero_le _,hr.at_,h1,h2,hn,ht⟩⟩
end
theorem c1t{W:World}{eg ec ev j:Nat}{L:List EvC}{x x':EvC}{v:Value}(h:ff EvC.enc 27 (ec*27) W eg 47 (L.set ev x))(hl:ev<L.length)(hj:j<27)(he:x'.enc=x.enc.set j v):ff EvC.enc 27 (ec*27) (W.setCell ⟨eg,ev*27+j,none⟩ v) eg 47 (L.set ev x'):=by
 have:=h.set EvC.enc_len (k:=ev) (j:=j) (x:=x) (x':=x') (v:=v) (by simp[hl]) hj he
 rwa [List.set_set] at this
theorem j6{W:World}{eg ec ev j off:Nat}{L:List EvC}{x x':EvC}{v:Value}(h:ff EvC.enc 27 (ec*27) W eg 47 (L.set ev x))(hl:ev<L.length)(hj:j<27)(ho:off=ev*27+j)(he:x'.enc=x.enc.set j v):ff EvC.enc 27 (ec*27) (W.setCell ⟨eg,off,none⟩ v) eg 47 (L.set ev x'):=by
 subst ho;exact c1t h hl hj he
theorem b0v{α β:Type}{enc:α→List Value}{enc':β→List Value}{sz sz' E E' g g':Nat}{l:List α}{l':List β}{W:World}(h:Arr enc sz W g E l)(h':Arr enc' sz' W g' E' l')(hne:E≠E'):g≠g':=by
 obtain⟨cur,hr,_⟩:=h'.ex;exact Row.ne_arr h hr hne
theorem ri{W:World}{g E k x:Nat}{l:List Nat}(h:Arr zo 1 W g E l)(hx:l[k]?=some x):W.cell? (ae g k)=some (pt x):=by
 have:=h.cell c1s (j:=0) hx rfl
 simpa using this
def vo(w:World)(X V Mp nm tb tcap nt O i eg ec ev R tm:Nat)(fm:Lit→Option Value)(times:List Nat)(tv cs0 nx0 dz0:Value)(evs:List EvC)(e0:EvC)(Qp:World→World→Bool→OpC→Prop)(e:Ending)(w':World):Prop:=
 e=.returned (.bool true)∧∃(b:Bool)(o':OpC)(W W1:World)(tv':Value)(nz:Nat)(M':List Nat)(e2:EvC),Qp W W1 b o'∧ab [X] w W∧W1.heap.size≤nz∧nz≤w'.heap.size∧ab M' W1 w'∧(∀x∈M',x∈[Mp,eg,R]∨tv.ownBlock=some x∨(w.heap.size≤x∧x<W.heap.size)) ∧
  Row w' X 69 #[pt V,zl tb nt tcap,.map (some Mp),zl eg evs.length ec,ci ((tm:Int)+1)] ∧
  w'.ownsRow 0 3 1 tv' (times.length+1) ((times++[tm+1]).map fun t:Nat=>Value.int .i64 (t:Int))∧(∀c,tv'.ownBlock=some c→(tv.ownBlock=some c∨W1.heap.size≤c)∧c<nz)∧ff EvC.enc 27 (ec*27) w' eg 47 (evs.set ev e2) ∧
  (b=false→e2={e0 with at_:=if 1≤o'.at_∧o'.at_≤times.length+1 then wat (times++[tm+1]) (o'.at_-1) else e0.at_}∧a8 Tryz.prog 3 w' Mp (nm+1) (il fm (ig (i:Int)) (some (.agg #[pt O,ci ev,tv'])))∧Row w' R 73 #[cs0,nx0,dz0]) ∧
  (b=true→(∃gv av,e2={e0 with at_:=if 1≤o'.at_∧o'.at_≤times.length+1 then wat (times++[tm+1]) (o'.at_-1) else e0.at_,to_:=tm+1,code:=o'.code,asub:=o'.asub,gen:=o'.gen,count:=o'.count,lost:=o'.lost,st:=o'.st,gens:=gv,awords:=av}∧(∃n cs,w'.ownsRow nz 41 1 gv n cs∧(∀u∈cs,u.oneCell'=true)∧n≤1000000)∧∃n cs,w'.ownsRow nz 41 1 av n cs∧(∀u∈cs,u.oneCell'=true)∧n≤1000000) ∧
   a8 Tryz.prog 3 w' Mp (nm+1) (il (il fm (ig (i:Int)) (some (.agg #[pt O,ci ev,tv']))) (ig (i:Int)) none)∧∃bs bi,w.heap.size≤bs∧w.heap.size≤bi∧bs<W.heap.size∧bi<W.heap.size∧Row w' R 73 #[cs0,nx0,.func (.func 42) #[] #[pt bs,pt bi]]∧Row w' bs 58 #[pt X]∧Row w' bi 3 #[ci i])
theorem c7y(w:World)(X V Y Mp nm tb tcap nt O i eg ec ev R tm:Nat)(fm:Lit→Option Value)(times:List Nat)(tv cs0 nx0 dz0:Value)(evs:List EvC)(e0:EvC)(tks:List Nat)(Qp:World→World→Bool→OpC→Prop)(hx:Row w X 69 #[pt V,zl tb nt tcap,.map (some Mp),zl eg evs.length ec,ci tm])(hm:a8 Tryz.prog 3 w Mp nm fm)(hnm:nm≤100000)(hf:fm (ig (i:Int))=some (.agg #[pt O,ci ev,tv]))(htv:w.ownsRow 0 3 1 tv times.length (times.map fun t:Nat=>Value.int .i64 (t:Int)))(hev:ff EvC.enc 27 (ec*27) w eg 47 evs)(hei:evs[ev]?=some e0)(htb:Arr zo 1 w tb 70 tks)(hti:tks[i]?=some R)(hnt:nt=tks.length)(hR:Row w R 73 #[cs0,nx0,dz0])(htm:tm≤100000)(hi8:i≤8)(hts:times.length≤100000)(hop:∀W,ab [X] w W→Calls Tryz.prog 39 #[pt O] W fun e W'=>∃(b:Bool)(o':OpC)(M:List Nat),e=.returned (.bool b)∧Row W' O 122 (o'.cells V Y i)∧o'.ended=b∧(b=true→fq W.heap.size W' o'.gens∧fq W.heap.size W' o'.awords)∧ab M W W'∧(∀x∈M,x<w.heap.size∧x∉[X,Mp,eg,tb,R]∧tv.ownBlock≠some x)∧Qp W W' b o'):Calls Tryz.prog 31 #[pt X,ci i] w (vo w X V Mp nm tb tcap nt O i eg ec ev R tm fm times tv cs0 nx0 dz0 evs e0 Qp):=by
 obtain⟨ta,tc,rfl⟩:=ax htv;have hz1:(w.alloc (.cells #[pt X] 58)).heap.size=w.heap.size+1:=by simp
 have rbi:=Row.new (w.alloc (.cells #[pt X] 58)) 3 #[ci i];rw[hz1] at rbi;have HBS:=qh ((Row.new w 58 #[pt X]).alloc (.cells #[ci i] 3));have HBI:=qh rbi;have HX:=qh hx;have HM:=qh hm;have HEV:=qh hev;have HTB:=qh htb;have HR:=qh hR;have HT:=qh htv;have HB:=qh (brf w);revert HX;revert HM;revert HEV;revert HTB;revert HR;revert HT;revert HB
 refine cq (sa2 w (.cells #[pt X] 58) (.cells #[ci i] 3)) ?_;intro HB HT HR HTB HEV HM HX;have lw_X:=hx.lt;have lw_M:=hm.lt;have lw_eg:=hev.lt;have lw_tb:=htb.lt;have lw_R:=hR.lt;have lw_tv:=ie htv;have HF:=qh hf;have HI:=qh hti;have HE:=qh hei;have HOP:=qh hop;have hiw:(Lit.int .i64 (i:Int)).wf=true:=ux (by omega) (by omega);have HNT:=qh hnt;clear hx hm hev htb hR htv hf hti hei hop rbi hnt
 go_enter Tryz.func31,Tryz.ntmps31
 go_wp2_with fail;generalize hbi:w.heap.size+1=bi at HBI ⊢;generalize hbs:w.heap.size=bs at HBS ⊢;have lo_bi:w.heap.size≤bi:=by omega
 have lo_bs:w.heap.size≤bs:=by omega
 have ne_bs_bi:bs≠bi:=by omega
 clear hbi hbs;generalize (w.alloc (.cells #[pt X] 58)).alloc (.cells #[ci i] 3)=w1 at *;have hszw1:=HB.o.size;have lt_X:X<w1.heap.size:=HX.o.lt;have lt_bs:bs<w1.heap.size:=HBS.o.lt;have lt_bi:bi<w1.heap.size:=HBI.o.lt;have lt_Mp:Mp<w1.heap.size:=HM.o.lt;have lt_eg:eg<w1.heap.size:=HEV.o.lt;have lt_tb:tb<w1.heap.size:=HTB.o.lt;have lt_R:R<w1.heap.size:=HR.o.lt;have HBL:=qh (brf w1);revert HX;revert HBS;revert HBI;revert HM;revert HEV;revert HTB;revert HR;revert HT;revert HBL
 refine cq (sdz w1) ?_;intro HBL HT HR HTB HEV HM HBI HBS HX;have hU:Ups (fun W W'=>∃g:ag W,W'=g.to) (fun W=>Below w1.heap.size w1 W∧W.cell? (ae X 2)=some (.map (some Mp))∧W.cell? (ae bs 0)=some (pt X)∧W.cell? (ae bi 0)=some (ci i)∧a8 Tryz.prog 3 W Mp nm fm):=dj fun h hb=>⟨bt h.1 hb,ak h.2.1 hb,ak h.2.2.1 hb,ak h.2.2.2.1 hb,h.2.2.2.2.bel hb⟩;have hC0:=hU.at _ ⟨HBL.o,HX.k 2,HBS.k 0,HBI.k 0,HM.o⟩;refine tx 6 (some 5) w1 101 #[.pointer none,ci 0,zn] hU hC0 ?_ ?_
 ·intro K a W hCW hK;unfold wpOp;go_simp;exact Or.inl (hK _ _ (af (Below.refl _ W) _) ⟨hCW.1.size,Row.new W 101 _⟩)
 intro S;generalize w1.drew=u0 at *;refine ao S hU [0,1,2,3,4,5] 97 2 hC0 ?_;constructor
 ·intro W' hW';simp only[pick,List.filterMap,gq1,gq2,gq3];obtain⟨-,q0,q1,q2,q3⟩:=hW';have q0:=ln q0;have q1:=ln q1;have q2:=ln q2;have q3:=fun (g:ag W')=>(show a8 Tryz.prog 3 g.to Mp nm fm from q3.bel g.2).look (t:=66) (Maps.int_keyed Tryz.underlying3) Tryz.underlying66 (z:=(.agg #[.pointer none,ci 0,zn])) rfl (jd (i:Int) hiw);simp only[HF.o,Option.getD_some] at q3
  repeat (go_big_quiet_step (fail))
  exact wpQuiet_nil rfl
 have ltv1:=ie HT.o;have hszu:=HBL.o.size;refine ip hU 1 _ _ _ (by kernel_rfl) hC0 (fun b5 W5 hr hc hp=>?_);have hbW:=a7 hr;clear hr;have lo_b5:=hp.1;have H5:=qh (hp.2);revert HBL HT HR HTB HEV HM HBI HBS HX;refine cq (sbb hbW) ?_;intro HBL HT HR HTB HEV HM HBI HBS HX;clear hc hp hbW hC0;have hC1:=hU.at _ ⟨HBL.o,HX.k 2,HBS.k 0,HBI.k 0,HM.o⟩;have ne_X_b5:X≠b5:=by have:=lt_X;omega
 have ne_bs_b5:bs≠b5:=by have:=lt_bs;omega
 have ne_bi_b5:bi≠b5:=by have:=lt_bi;omega
 have ne_Mp_b5:Mp≠b5:=by have:=lt_Mp;omega
 have ne_eg_b5:eg≠b5:=by have:=lt_eg;omega
 have ne_tb_b5:tb≠b5:=by have:=lt_tb;omega
 have ne_R_b5:R≠b5:=by have:=lt_R;omega
 have ne_tv_b5:∀c,(Value.slice ta times.length tc).ownBlock=some c→c≠b5:=fun c hc e=>by have:=lw_tv c hc;have:=HB.o.size;omega
 refine re S hU 7 0 rfl hC1 fun W1 hbW K1 hK1=>?_;revert H5 HBL HT HR HTB HEV HM HBI HBS HX;refine cq (sbb hbW) ?_;intro H5 HBL HT HR HTB HEV HM HBI HBS HX;clear hbW;have hfz:=H5.o.free;have hcw0:=H5.k 0;have hcw1:=H5.k 1;have hcw2:=H5.k 2;go_wp2_with fail;clear hfz hcw0 hcw1 hcw2;have hsN:=((sk W1 b5 0 (pt O)).sc b5 1 (ci ev)).sc b5 2 (.slice ta times.length tc);replace H5:=qh (((((H5.o).set 0 (pt O)).set 1 (ci ev)).set 2 (.slice ta times.length tc)).to (cs':=#[pt O,ci ev,.slice ta times.length tc]) rfl);revert HBL HT HR HTB HEV HM HBI HBS HX;refine cm (hsN) ⟨mn lo_b5,no1 ne_tv_b5,nn ne_R_b5,nn ne_tb_b5,nn ne_eg_b5,nn ne_Mp_b5,nn ne_bi_b5,nn ne_bs_b5,nn ne_X_b5,trivial⟩ ?_;intro HBL HT HR HTB HEV HM HBI HBS HX;clear hsN;have hC2:=hU.at _ ⟨HBL.o,HX.k 2,HBS.k 0,HBI.k 0,HM.o⟩;refine hK1 _ _ hC2  ?_;clear hK1 hC1
 generalize (((W1.setCell ⟨b5,0,none⟩ (pt O)).setCell ⟨b5,1,none⟩ (ci ev)).setCell ⟨b5,2,none⟩ (.slice ta times.length tc))=v2 at *;refine rh fun w2 hb9=>?_;revert H5 HBL HT HR HTB HEV HM HBI HBS HX;refine cq (sbb hb9) ?_;intro H5 HBL HT HR HTB HEV HM HBI HBS HX;clear S hU hC2 hb9;have HB2:=qh (bt HB.o HBL.o);clear HB HBL;have HB:=HB2;clear HB2;have lo_b5w:w.heap.size≤b5:=by omega
 have ne_bs_X:bs≠X:=by omega
 have ne_bi_X:bi≠X:=by omega
 have ne_Mp_X:Mp≠X:=by exact(HM.o.ne HX.o).symm
 have ne_eg_X:eg≠X:=by exact Row.ne_arr HEV.o.arr HX.o (by decide)
 have ne_tb_X:tb≠X:=by exact Row.ne_arr HTB.o HX.o (by decide)
 have ne_R_X:R≠X:=by exact HR.o.ne HX.o (by decide)
 have ne_b5_X:b5≠X:=by omega
 have ne_tv_X:=a6 HT.o HX.o (by decide);have hfz:=HX.o.free;have x4:=HX.k 4;have s0:=HBS.k 0;have HXs:=qh ((HX.o.set 4 (ci ((tm:Int)+1))).to (cs':=#[pt V,zl tb nt tcap,.map (some Mp),zl eg evs.length ec,ci ((tm:Int)+1)]) rfl);have HBSs:=qh (HBS.o.ot ne_bs_X 4 (ci ((tm:Int)+1)));have HBIs:=qh (HBI.o.ot ne_bi_X 4 (ci ((tm:Int)+1)));have HMs:=qh (HM.o.same (sj X 4 (ci ((tm:Int)+1))) (nn ne_Mp_X));have HEVs:=qh (HEV.o.ot ne_eg_X 4 (ci ((tm:Int)+1)));have HTBs:=qh (HTB.o.ot ne_tb_X 4 (ci ((tm:Int)+1)));have HRs:=qh (HR.o.ot ne_R_X 4 (ci ((tm:Int)+1)));have HTs:=qh (ai (HT.o) (sj X 4 (ci ((tm:Int)+1))) (no1 ne_tv_X));have H5s:=qh (H5.o.ot ne_b5_X 4 (ci ((tm:Int)+1)));have HSs:=qh ((ab.of_below (M:=[X]) HB.o).sc X 4 (ci ((tm:Int)+1)));have d5:=H5s.k 0;go_wp2_with fail;clear hfz x4 s0 d5;clear HX HBS HBI HM HEV HTB HR HT H5;have HX:=HXs;have HBS:=HBSs;have HBI:=HBIs;have HM:=HMs
 have HEV:=HEVs;have HTB:=HTBs;have HR:=HRs;have HT:=HTs;have H5:=H5s;clear HXs HBSs HBIs HMs HEVs HTBs HRs HTs H5s;generalize (w2.setCell ⟨X,4,none⟩ (ci ((tm:Int)+1)))=w3 at *;have lS3:=HSs.o.size;have l5:=H5.o.lt;have l6:=HBS.o.lt;have l7:=HBI.o.lt;refine(HOP.o w3 HSs.o).mono ?_;rintro e W4 ⟨b,o',M,rfl,ho,hen,hseen,hs,hM,hq⟩;have nb_X:X∉M:=fun h=>(hM X h).2.1 (by simp);have nb_Mp:Mp∉M:=fun h=>(hM Mp h).2.1 (by simp);have nb_eg:eg∉M:=fun h=>(hM eg h).2.1 (by simp);have nb_tb:tb∉M:=fun h=>(hM tb h).2.1 (by simp);have nb_R:R∉M:=fun h=>(hM R h).2.1 (by simp);have nb_bs:bs∉M:=fun h=>absurd (hM bs h).1 (by omega);have nb_bi:bi∉M:=fun h=>absurd (hM bi h).1 (by omega);have nb_b5:b5∉M:=fun h=>absurd (hM b5 h).1 (by omega);have nb_tv:∀c,(Value.slice ta times.length tc).ownBlock=some c→c∉M:=fun c hc h=>(hM c h).2.2 hc;have HXs:=qh (HX.o.same hs nb_X);have HBSs:=qh (HBS.o.same hs nb_bs)
 have HBIs:=qh (HBI.o.same hs nb_bi);have HMs:=qh (HM.o.same hs nb_Mp);have HEVs:=qh (HEV.o.same hs nb_eg);have HTBs:=qh (HTB.o.same hs nb_tb);have HRs:=qh (HR.o.same hs nb_R);have HTs:=qh (ai HT.o hs nb_tv);have H5s:=qh (H5.o.same hs nb_b5);clear HX HBS HBI HM HEV HTB HR HT H5;have HX:=HXs;have HBS:=HBSs;have HBI:=HBIs;have HM:=HMs;have HEV:=HEVs;have HTB:=HTBs;have HR:=HRs;have HT:=HTs;have H5:=H5s;clear HXs HBSs HBIs HMs HEVs HTBs HRs HTs H5s;have HO:=qh ho;have HQ4:=qh hq;have HSEEN:=qh hseen;have HTB4:=HTB;have HR4:=HR;have HSm:=qh hs;have HMm:=qh hM;have HQ:=qh (ab.refl (Mp::eg::R::b5::(Value.slice ta times.length tc).ownBlock.toList) W4)
 have nbT:tb∉(Mp::eg::R::b5::(Value.slice ta times.length tc).ownBlock.toList):=by
  simp only[List.mem_cons,not_or];exact⟨HM.o.ne_arr HTB4.o,b0v HTB4.o HEV.o.arr (by decide),Row.ne_arr HTB4.o HR4.o (by decide),Row.ne_arr HTB4.o H5.o (by decide),jk HT.o HTB4.o (by decide)⟩
 have nbO:O∉(Mp::eg::R::b5::(Value.slice ta times.length tc).ownBlock.toList):=by
  simp only[List.mem_cons,not_or];exact⟨HM.o.ne HO.o,(Row.ne_arr HEV.o.arr HO.o (by decide)).symm,HO.o.ne HR4.o (by decide),HO.o.ne H5.o (by decide),ck HT.o HO.o (by decide)⟩
 clear ho hq hseen hs hM nb_X nb_Mp nb_eg nb_tb nb_R nb_bs nb_bi nb_b5 nb_tv HTB;go_wp2_with fail;revert HX;revert HBS;revert HBI;revert HM;revert HEV;revert HR;revert HT;revert H5;revert HQ
 refine cq (sdz W4) ?_;intro HQ H5 HT HR HEV HM HBI HBS HX;have hU:UD (fun W=>W.cell? (ae bs 0)=some (pt X)∧W.cell? (ae X 4)=some (ci ((tm:Int)+1))∧W.cell? (ae b5 2)=some (.slice ta times.length tc)):=al fun W n h=>h;have hC0:=hU.at _ ⟨HBS.k 0,HX.k 4,H5.k 2⟩;refine dw aj hU hC0 ?_;intro S;generalize W4.drew=u0 at *;refine ao S hU [0,1,2,3,4,5] 97 4 hC0 ?_;constructor
 ·intro W' hW';simp only[pick,List.filterMap,gq1,gq2,gq3];obtain⟨q0,q1,q2⟩:=hW'
  repeat (go_big_quiet_step (fail))
  exact wpQuiet_nil rfl
 refine az S hU 6 3 rfl hC0 fun n0 K1 hK1=>?_;go_wp2_with fail;have ne_X_nb:X≠(u0.drewN n0).heap.size:=nnl (HX.o.drewN n0).lt;have ne_nb_X:=ne_X_nb.symm;have ne_bs_nb:bs≠(u0.drewN n0).heap.size:=nnl (HBS.o.drewN n0).lt;have ne_nb_bs:=ne_bs_nb.symm;have ne_bi_nb:bi≠(u0.drewN n0).heap.size:=nnl (HBI.o.drewN n0).lt;have ne_nb_bi:=ne_bi_nb.symm;have ne_Mp_nb:Mp≠(u0.drewN n0).heap.size:=nnl (HM.o.drewN n0).lt;have ne_nb_Mp:=ne_Mp_nb.symm;have ne_eg_nb:eg≠(u0.drewN n0).heap.size:=nnl (HEV.o.drewN n0).lt;have ne_nb_eg:=ne_eg_nb.symm;have ne_R_nb:R≠(u0.drewN n0).heap.size:=nnl (HR.o.drewN n0).lt;have ne_nb_R:=ne_R_nb.symm;have ne_b5_nb:b5≠(u0.drewN n0).heap.size:=nnl (H5.o.drewN n0).lt;have ne_nb_b5:=ne_b5_nb.symm;have HLIT:=qh (jo (w:=(u0.drewN n0)) (cs:=#[ci ((tm:Int)+1)]) (t:=3) rfl);have HN:=qh (Row.new (u0.drewN n0) 3 #[ci ((tm:Int)+1)]);revert HQ H5 HT HR HEV HM HBI HBS HX
 refine cq (sal u0 n0 (.cells #[ci ((tm:Int)+1)] 3)) ?_;intro HQ H5 HT HR HEV HM HBI HBS HX;have hC1:=hU.at _ ⟨HBS.k 0,HX.k 4,H5.k 2⟩;refine hK1 _ _ hC1 ?_;clear hK1 hC0;have hzN:(u0.drewN n0).heap.size=u0.heap.size:=rfl;simp only[hzN] at *;clear hzN;generalize u0.heap.size=nb at *;generalize ((u0.drewN n0).alloc (.cells #[ci ((tm:Int)+1)] 3))=u1 at *;clear HN;refine az S hU 7 2 rfl hC1 fun n1 K1 hK1=>?_;obtain⟨i0,hi0,hz0,hz1,hz2⟩:=info_parts b7d;refine wpList_append_own_at _ rfl _ _ 26 rfl 0 3 i0 _ 1 8 Tryz.underlying26 hi0 hz0 hz1 hz2 rfl (by decide) (.slice ta times.length tc) times.length (times.map fun t:Nat=>Value.int .i64 (t:Int)) rfl (ai HT.o (sdn n1) nm0) ⟨nb,0,none⟩ 1 1 (#[ci ((tm:Int)+1)]).toList rfl rfl (fun j u h=>HLIT.o j u h) (by intro u hu;simp at hu;subst hu;rfl) (by unfold maxLen;omega) (by omega) (Nat.zero_le _) ?_;intro v9 wv9 hown9 hgrow9 _ hblk9
 obtain⟨gv9,cv9,rfl⟩:=gl hown9;have hs9:=ab.grown' hgrow9;clear hgrow9;have nb_X:X∉(Value.slice ta times.length tc).ownBlock.toList:=ck (ai HT.o (sdn n1) nm0) (HX.o.drewN n1) (by decide);have nb_bs:bs∉(Value.slice ta times.length tc).ownBlock.toList:=ck (ai HT.o (sdn n1) nm0) (HBS.o.drewN n1) (by decide);have nb_bi:bi∉(Value.slice ta times.length tc).ownBlock.toList:=fun h=>by have:=lw_tv bi (by simpa using h);omega
 have nb_b5:b5∉(Value.slice ta times.length tc).ownBlock.toList:=ck (ai HT.o (sdn n1) nm0) (H5.o.drewN n1) (by decide);have nb_R:R∉(Value.slice ta times.length tc).ownBlock.toList:=ck (ai HT.o (sdn n1) nm0) (HR.o.drewN n1) (by decide);have nb_eg:eg∉(Value.slice ta times.length tc).ownBlock.toList:=jk (ai HT.o (sdn n1) nm0) (HEV.o.drewN n1).arr (by decide);have nb_Mp:Mp∉(Value.slice ta times.length tc).ownBlock.toList:=fun h=>lu (ai HT.o (sdn n1) nm0) (HM.o.drewN n1) (by simpa using h);go_wp2_with fail
 have HBLK:Hd (∀c,(zl gv9 (times.length+1) cv9:Value).ownBlock=some c→(Value.slice ta times.length tc).ownBlock=some c∨W4.heap.size≤c):=qh fun c hc=>by
  rcases hblk9 with e|e
  ·exact Or.inl (e▸hc)
  ·rw[e] at hc;cases hc;exact Or.inr ((HQ.o.drewN n1).size)
 replace HT:=qh hown9;revert HQ H5 HR HEV HM HBI HBS HX;refine cm (ssm hs9) ⟨(fun y hy _=>by simp at hy ⊢;first|omega|simp[hy]),nb_b5,nb_R,nb_eg,nb_Mp,nb_bi,nb_bs,nb_X,trivial⟩ ?_;intro HQ H5 HR HEV HM HBI HBS HX;have hC2:=hU.at _ ⟨HBS.k 0,HX.k 4,H5.k 2⟩;refine hK1 _ _ hC2 ?_;clear hK1 hC1;clear hs9 hown9 hblk9;have ne_v9_b5:=a6 HT.o H5.o (by decide);refine ao S hU [8] 97 1 hC2 ?_;constructor
 ·intro W' hW';simp only[pick,List.filterMap,gq1,gq2,gq3];obtain⟨q0,q1,q2⟩:=hW'
  repeat (go_big_quiet_step (fail))
  exact wpQuiet_nil rfl
 refine ti S hU 9 rfl hC2 fun n2 K1 hK1=>?_;have hfz:=(H5.o.drewN n2).free;have hcw:=(H5.o.drewN n2).k 2;go_wp2_with fail;clear hfz hcw;replace H5:=qh (((H5.o.drewN n2).set 2 (zl gv9 (times.length+1) cv9)).to (cs':=#[pt O,ci ev,zl gv9 (times.length+1) cv9]) rfl);revert HT HQ HR HEV HM HBI HBS HX;refine cm (sst wv9 n2 b5 2 (zl gv9 (times.length+1) cv9)) ⟨no1 ne_v9_b5,mm (by simp),nn ne_R_b5,nn ne_eg_b5,nn ne_Mp_b5,nn ne_bi_b5,nn ne_bs_b5,nn ne_X_b5,trivial⟩ ?_;intro HT HQ HR HEV HM HBI HBS HX;refine hK1 _ _ ?_;clear hK1 hC2;generalize ((wv9.drewN n2).setCell ⟨b5,2,none⟩ (zl gv9 (times.length+1) cv9))=u3 at *;refine dd fun n9=>?_;revert H5 HT HQ HR HEV HM HBI HBS HX;refine cq (sdw u3 n9) ?_;intro H5 HT HQ HR HEV HM HBI HBS HX;clear S hU;generalize u3.drewN n9=w5 at *;go_wp2_with fail
 have HT2:Hd (w5.ownsRow 0 3 1 (zl gv9 (times.length+1) cv9) (times.length+1) ((times++[tm+1]).map fun t:Nat=>Value.int .i64 (t:Int))):=qh (by simpa using HT.o);clear HT;have HT:=HT2;clear HT2;revert HX;revert HBS;revert HBI;revert HM;revert HEV;revert HR;revert HT;revert H5;revert HQ
 refine cq (sdz w5) ?_;intro HQ H5 HT HR HEV HM HBI HBS HX;have hU:UD (fun W=>W.cell? (ae bs 0)=some (pt X)∧W.cell? (ae X 2)=some (.map (some Mp))∧W.cell? (ae bi 0)=some (ci i)∧W.cell? (ae b5 0)=some (pt O)∧W.cell? (ae b5 1)=some (ci ev)∧W.cell? (ae b5 2)=some (zl gv9 (times.length+1) cv9)):=al fun W n h=>h;have hC0:=hU.at _ ⟨HBS.k 0,HX.k 2,HBI.k 0,H5.k 0,H5.k 1,H5.k 2⟩;refine dw aj hU hC0 ?_;intro S;generalize w5.drew=u0 at *;refine ao S hU [0,1,2,3,4,5] 97 1 hC0 ?_;constructor
 ·intro W' hW';simp only[pick,List.filterMap,gq1,gq2,gq3];obtain⟨q0,q1,q2,q3,q4,q5⟩:=hW'
  repeat (go_big_quiet_step (fail))
  exact wpQuiet_nil rfl
 refine az S hU 6 0 rfl hC0 fun n0 K1 hK1=>?_;refine ly rfl _ _ _ 66 rfl 3 101 (Maps.int_keyed Tryz.underlying3) Tryz.underlying66 Mp nm fm rfl (HM.o.drewN n0) (by unfold maxLen;omega) (ci (i:Int)) (.agg #[pt O,ci ev,zl gv9 (times.length+1) cv9]) (ig (i:Int)) rfl rfl (jd _ hiw) ?_;intro W5x hm5 hs5;have nb_X:X∉[Mp]:=by simpa using (HM.o.drewN n0).ne (HX.o.drewN n0)
 have nb_bs:bs∉[Mp]:=by simpa using (HM.o.drewN n0).ne (HBS.o.drewN n0)
 have nb_bi:bi∉[Mp]:=by simpa using (HM.o.drewN n0).ne (HBI.o.drewN n0)
 have nb_b5:b5∉[Mp]:=by simpa using (HM.o.drewN n0).ne (H5.o.drewN n0)
 have nb_R:R∉[Mp]:=by simpa using (HM.o.drewN n0).ne (HR.o.drewN n0)
 have nb_eg:eg∉[Mp]:=by simpa using (HM.o.drewN n0).ne_arr (HEV.o.drewN n0).arr
 have nb_v9:∀c,(zl gv9 (times.length+1) cv9:Value).ownBlock=some c→c∉[Mp]:=fun c hc h=>by
  simp only[List.mem_singleton] at h;subst h;exact lu (ai HT.o (sdn n0) nm0) (HM.o.drewN n0) hc
 conv in (Act.put _ _ _)=>arg 2;whnf
 simp only[Act.put];go_wp2_with fail;replace HM:=qh hm5;revert HQ H5 HT HR HEV HBI HBS HX;refine cm (ssm hs5) ⟨(fun y hy _=>by simp at hy ⊢;first|omega|simp[hy]),nb_b5,nb_v9,nb_R,nb_eg,nb_bi,nb_bs,nb_X,trivial⟩ ?_;intro HQ H5 HT HR HEV HBI HBS HX;have hC1:=hU.at _ ⟨HBS.k 0,HX.k 2,HBI.k 0,H5.k 0,H5.k 1,H5.k 2⟩;refine hK1 _ _ hC1 ?_;clear hK1 hC0;clear hm5 hs5 nb_X nb_bs nb_bi nb_b5 nb_R nb_eg nb_v9;refine dd fun n9=>?_;revert HM HQ H5 HT HR HEV HBI HBS HX;refine cq (sdw W5x n9) ?_;intro HM HQ H5 HT HR HEV HBI HBS HX;clear S hU hC1;generalize W5x.drewN n9=w6 at *;go_wp2_with fail;have hevl:=(bk.1 HE.o).1;have i1:(ev:Int)<evs.length:=by omega
 revert HX;revert HBS;revert HBI;revert HM;revert HEV;revert HR;revert HT;revert H5;revert HQ
 refine cq (sdz w6) ?_;intro HQ H5 HT HR HEV HM HBI HBS HX;have hU:UD (fun W=>W.cell? (ae bs 0)=some (pt X)∧W.cell? (ae X 3)=some (zl eg evs.length ec)∧W.cell? (ae b5 1)=some (ci ev)):=al fun W n h=>h;have hC0:=hU.at _ ⟨HBS.k 0,HX.k 3,H5.k 1⟩;refine dw aj hU hC0 ?_;intro S;generalize w6.drew=u0 at *;refine ao S hU [0,1,2,3,4,5,6,7] 97 0 hC0 ?_;constructor
 ·intro W' hW';simp only[pick,List.filterMap,gq1,gq2,gq3];obtain⟨q0,q1,q2⟩:=hW'
  repeat (go_big_quiet_step (fail))
  exact wpQuiet_nil rfl
 refine dd fun n9=>?_;revert HQ H5 HT HR HEV HM HBI HBS HX;refine cq (sdw u0 n9) ?_;intro HQ H5 HT HR HEV HM HBI HBS HX;clear S hU hC0;generalize u0.drewN n9=w7 at *;have d0:=H5.k 0;go_wp2_with fail;clear d0;refine(at40 w7 O V Y i o' (HO.o.same HQ.o nbO)).mono ?_;rintro e w_ ⟨rfl,rfl⟩;have HHAS:=qh (j5 HT.o);have ne_X_eg:X≠eg:=(Row.ne_arr HEV.o.arr HX.o (by decide)).symm;have ne_bs_eg:bs≠eg:=(Row.ne_arr HEV.o.arr HBS.o (by decide)).symm;have ne_bi_eg:bi≠eg:=(Row.ne_arr HEV.o.arr HBI.o (by decide)).symm;have ne_b5_eg:b5≠eg:=(Row.ne_arr HEV.o.arr H5.o (by decide)).symm;have ne_R_eg:R≠eg:=(Row.ne_arr HEV.o.arr HR.o (by decide)).symm;have ne_Mp_eg:Mp≠eg:=(HM.o.ne_arr HEV.o.arr).symm;have ne_v9_eg:=du HT.o HEV.o.arr (by decide);by_cases hA:1≤o'.at_∧o'.at_≤times.length+1
 case' pos=>
  cases b
  all_goals
   obtain⟨a,ha⟩:∃a,o'.at_=a+1:=⟨o'.at_-1,by omega⟩
   have hcell:w7.cell? (ae gv9 a)=some (ci ((wat (times++[tm+1]) a:Nat):Int)):=by
    rcases HHAS.o.shape with ⟨e1,_⟩|⟨ad,cc,e1,e2⟩
    ·cases e1
    ·cases e1
     have:=e2 a (ci ((wat (times++[tm+1]) a:Nat):Int)) (by
      have hal:a<(times++[tm+1]).length:=by simp;omega
      have hw:wat (times++[tm+1]) a=(times++[tm+1])[a]:=by
       unfold wat;rw[List.getD_eq_getElem?_getD,cz hal]
       rfl
      rw[List.getElem?_map,cz hal,hw]
      rfl)
     rw[b5e,Nat.zero_add] at this;exact this
   have HZA:Hd ((if 1≤o'.at_∧o'.at_≤times.length+1 then wat (times++[tm+1]) (o'.at_-1) else e0.at_)=wat (times++[tm+1]) a):=qh (by rw[if_pos hA,ha];rfl);generalize wat (times++[tm+1]) a=za at *;rw[ha];have a1:(0:Int)<((a+1:Nat):Int):=by omega
   have a2:((a+1:Nat):Int)≤((times.length+1:Nat):Int):=by omega
   have d2:=H5.k 2;have hfe:=HEV.o.free;have ce:=HEV.o.cell EvC.enc_len (j:=25) HE.o rfl;have HEVs:=qh (HEV.o.set EvC.enc_len (k:=ev) (j:=25) (x:=e0) (x':={e0 with at_:=za}) (v:=ci (za:Int)) HE.o (by decide) rfl);have HXs:=qh (HX.o.ot ne_X_eg (ev*27+25) (ci (za:Int)));have HBSs:=qh (HBS.o.ot ne_bs_eg (ev*27+25) (ci (za:Int)));have HBIs:=qh (HBI.o.ot ne_bi_eg (ev*27+25) (ci (za:Int)));have HMs:=qh (HM.o.same (sj eg (ev*27+25) (ci (za:Int))) (nn ne_Mp_eg));have HRs:=qh (HR.o.ot ne_R_eg (ev*27+25) (ci (za:Int)));have HTs:=qh (ai (HT.o) (sj eg (ev*27+25) (ci (za:Int))) (no1 ne_v9_eg));have H5s:=qh (H5.o.ot ne_b5_eg (ev*27+25) (ci (za:Int)));have HQs:=qh (HQ.o.sc eg (ev*27+25) (ci (za:Int)));go_wp2_with fail;clear d2 hfe ce hcell;clear HX HBS HBI HM HEV HR HT H5 HQ;have HX:=HXs;have HBS:=HBSs;have HBI:=HBIs;have HM:=HMs;have HEV:=HEVs;have HR:=HRs;have HT:=HTs;have H5:=H5s
   have HQ:=HQs;clear HXs HBSs HBIs HMs HEVs HRs HTs H5s HQs;generalize w7.setCell ⟨eg,ev*27+25,none⟩ (ci (za:Int))=w8 at *;have HE1:Hd ((evs.set ev {e0 with at_:=za})[ev]?=some {e0 with at_:=za}):=qh (by simp[hevl])
   have hMem:∀x∈(Mp::eg::R::b5::(Value.slice ta times.length tc).ownBlock.toList),x∈[Mp,eg,R]∨(Value.slice ta times.length tc).ownBlock=some x∨(w.heap.size≤x∧x<w3.heap.size):=fun x hx=>by
    simp only[List.mem_cons] at hx;rcases hx with e|e|e|e|e
    ·exact Or.inl (by simp[e])
    ·exact Or.inl (by simp[e])
    ·exact Or.inl (by simp[e])
    ·exact Or.inr (Or.inr (by omega))
    ·exact Or.inr (Or.inl (by simpa using e))
   have hTV:∀c,(zl gv9 (times.length+1) cv9:Value).ownBlock=some c→((Value.slice ta times.length tc).ownBlock=some c∨W4.heap.size≤c)∧c<w8.heap.size:=fun c hc=>⟨HBLK.o c hc,ie HT.o c hc⟩
  ·go_ret;refine⟨rfl,false,_,w3,W4,zl gv9 (times.length+1) cv9,w8.heap.size,_,{e0 with at_:=za},HQ4.o,HSs.o,HQ.o.size,nlr _,HQ.o,hMem,HX.o,HT.o,hTV,HEV.o,fun _=>⟨by rw[HZA.o],HM.o,HR.o⟩,fun h=>by cases h⟩
  obtain⟨L1,x1,HEV1,HI1,HL1,HX1⟩:∃(L1:List EvC)(x1:EvC),Hd (ff EvC.enc 27 (ec*27) w8 eg 47 L1)∧Hd (L1[ev]?=some x1)∧Hd (∀y,L1.set ev y=evs.set ev y)∧Hd (x1={e0 with at_:=(if 1≤o'.at_∧o'.at_≤times.length+1 then wat (times++[tm+1]) (o'.at_-1) else e0.at_)}):=⟨_,_,HEV,HE1,qh (fun y=>by rw[List.set_set]),qh (by rw[HZA.o])⟩
 case' neg=>
  have HZA:Hd ((if 1≤o'.at_∧o'.at_≤times.length+1 then wat (times++[tm+1]) (o'.at_-1) else e0.at_)=e0.at_):=qh (if_neg hA);clear HHAS
  have hMem:∀x∈(Mp::eg::R::b5::(Value.slice ta times.length tc).ownBlock.toList),x∈[Mp,eg,R]∨(Value.slice ta times.length tc).ownBlock=some x∨(w.heap.size≤x∧x<w3.heap.size):=fun x hx=>by
   simp only[List.mem_cons] at hx;rcases hx with e|e|e|e|e
   ·exact Or.inl (by simp[e])
   ·exact Or.inl (by simp[e])
   ·exact Or.inl (by simp[e])
   ·exact Or.inr (Or.inr (by omega))
   ·exact Or.inr (Or.inl (by simpa using e))
  have hTV:∀c,(zl gv9 (times.length+1) cv9:Value).ownBlock=some c→((Value.slice ta times.length tc).ownBlock=some c∨W4.heap.size≤c)∧c<w7.heap.size:=fun c hc=>⟨HBLK.o c hc,ie HT.o c hc⟩;by_cases h0:0<o'.at_
  case' pos=>
   have a1:(0:Int)<(o'.at_:Int):=by omega
   have a2:¬ (o'.at_:Int)≤((times.length+1:Nat):Int):=by omega
  case' neg=>have a1:¬ (0:Int)<(o'.at_:Int):=by omega
  all_goals
   have d2:=H5.k 2;cases b
   ·go_wp2_with fail;go_ret;refine⟨rfl,false,_,w3,W4,zl gv9 (times.length+1) cv9,w7.heap.size,_,{e0 with at_:=e0.at_},HQ4.o,HSs.o,HQ.o.size,nlr _,HQ.o,hMem,HX.o,HT.o,hTV,(by rw[show ({e0 with at_:=e0.at_}:EvC)=e0 from rfl,m8 HE.o];exact HEV.o),fun _=>⟨by rw[HZA.o],HM.o,HR.o⟩,fun h=>by cases h⟩
   go_wp2_with fail;clear d2;generalize w7=w8 at *;obtain⟨L1,x1,HEV1,HI1,HL1,HX1⟩:∃(L1:List EvC)(x1:EvC),Hd (ff EvC.enc 27 (ec*27) w8 eg 47 L1)∧Hd (L1[ev]?=some x1)∧Hd (∀y,L1.set ev y=evs.set ev y)∧Hd (x1={e0 with at_:=(if 1≤o'.at_∧o'.at_≤times.length+1 then wat (times++[tm+1]) (o'.at_-1) else e0.at_)}):=⟨_,_,HEV,HE,qh (fun y=>rfl),qh (by rw[HZA.o])⟩
 all_goals
  clear HEV;have HEV:=HEV1;clear HEV1;have hl1:=(bk.1 HI1.o).1;obtain⟨⟨gn,gcs,gh,g1,g2,g3⟩,an,acs,ah,a1x,a2x,a3x⟩:=HSEEN.o (by simp)
  have hML:∀x∈(Mp::eg::R::b5::(Value.slice ta times.length tc).ownBlock.toList),x<w3.heap.size:=fun x hx=>by
   have hlw:=HSs.o.size;simp only[List.mem_cons] at hx;rcases hx with e|e|e|e|e
   ·omega
   ·omega
   ·omega
   ·omega
   ·have:=lw_tv x (by simpa using e);omega
  have hgb:Hd (∀c,o'.gens.ownBlock=some c→c∉(Mp::eg::R::b5::(Value.slice ta times.length tc).ownBlock.toList)):=qh fun c hc hx=>absurd (hML c hx) (by have:=g3 c hc;omega);have hab:Hd (∀c,o'.awords.ownBlock=some c→c∉(Mp::eg::R::b5::(Value.slice ta times.length tc).ownBlock.toList)):=qh fun c hc hx=>absurd (hML c hx) (by have:=a3x c hc;omega);have GH:=qh gh;have AH:=qh ah;have G1:=qh g1;have A1x:=qh a1x;clear gh ah g1 a1x g3 a3x;revert HX;revert HBS;revert HBI;revert HM;revert HEV;revert HR;revert HT;revert H5;revert HQ
  refine cq (sdz w8) ?_;intro HQ H5 HT HR HEV HM HBI HBS HX;have hU:UD (fun W=>W.cell? (ae bs 0)=some (pt X)∧W.cell? (ae X 4)=some (ci ((tm:Int)+1))∧W.cell? (ae b5 0)=some (pt O)):=al fun W n h=>h;have hC0:=hU.at _ ⟨HBS.k 0,HX.k 4,H5.k 0⟩;refine dw aj hU hC0 ?_;intro S;generalize w8.drew=u0 at *;refine ao S hU [0,1,2,3,4,5,6,7] 97 7 hC0 ?_;constructor
  ·intro W' hW';simp only[pick,List.filterMap,gq1,gq2,gq3];obtain⟨q0,q1,q2⟩:=hW'
   repeat (go_big_quiet_step (fail))
   exact wpQuiet_nil rfl
  refine az S hU 8 6 rfl hC0 fun n0 K1 hK1=>?_;go_wp2_with fail;refine(c1u _ O V Y i gn an o' gcs acs (HO.o.same (HQ.o.drewN n0) nbO) hen (GH.o.same (HQ.o.drewN n0) hgb.o) G1.o g2 (AH.o.same (HQ.o.drewN n0) hab.o) A1x.o a2x).mono ?_;rintro e W4x ⟨gv,av,rfl,hb,hgv,hav⟩;obtain⟨ga,gc,rfl⟩:=ax hgv;obtain⟨aa,ac,rfl⟩:=ax hav;obtain⟨nz,hnz⟩:∃nz,((u0.drewN n0)).heap.size=nz:=⟨_,rfl⟩;rw[hnz] at hgv hav;have hz1x:=(HQ.o.drewN n0).size;have hz2x:=ie (ai HT.o (sdn n0) nm0);have hz3x:=hb.size;rw[hnz] at hz1x hz2x hz3x;go_wp2_with fail;have HGV:=qh hgv;have HAV:=qh hav;have HN:=qh (ab.refl (Mp::eg::R::b5::(Value.slice ta times.length tc).ownBlock.toList) W4x);revert HQ H5 HT HR HEV HM HBI HBS HX;refine cq (sbl hb) ?_;intro HQ H5 HT HR HEV HM HBI HBS HX;have hC1:=hU.at _ ⟨HBS.k 0,HX.k 4,H5.k 0⟩;refine hK1 _ _ hC1 ?_;clear hK1 hC0;clear hb hgv hav hnz
  have ne_gv_eg:=du HGV.o HEV.o.arr (by decide);have ne_av_eg:=du HAV.o HEV.o.arr (by decide);refine ao S hU [9,10] 97 4 hC1 ?_;constructor
  ·intro W' hW';simp only[pick,List.filterMap,gq1,gq2,gq3];obtain⟨q0,q1,q2⟩:=hW'
   repeat (go_big_quiet_step (fail))
   exact wpQuiet_nil rfl
  refine az S hU 11 3 rfl hC1 fun n1 K1 hK1=>?_;have hfz:=(HEV.o.drewN n1).free;have hcw0:=(HEV.o.drewN n1).cell EvC.enc_len (j:=26) HI1.o rfl;go_wp2_with fail;replace HEV:=qh ((c1t (L:=L1) (ev:=ev) (j:=26) (x:=x1) (x':={x1 with to_:=tm+1}) (v:=ci ((tm:Int)+1)) (by rw[m8 HI1.o];exact(HEV.o.drewN n1)) hl1 (by decide) rfl));revert HGV HAV HN HQ H5 HT HR HM HBI HBS HX;refine cm (sst W4x n1 eg (ev*27+26) (ci ((tm:Int)+1))) ⟨no1 ne_gv_eg,no1 ne_av_eg,mm (by simp),mm (by simp),nn ne_b5_eg,no1 ne_v9_eg,nn ne_R_eg,nn ne_Mp_eg,nn ne_bi_eg,nn ne_bs_eg,nn ne_X_eg,trivial⟩ ?_;intro HGV HAV HN HQ H5 HT HR HM HBI HBS HX;have hC2:=hU.at _ ⟨HBS.k 0,HX.k 4,H5.k 0⟩;refine hK1 _ _ hC2 ?_;clear hK1 hC1;generalize ((W4x.drewN n1).setCell ⟨eg,ev*27+26,none⟩ (ci ((tm:Int)+1)))=u2 at *;clear hfz hcw0;have HI2:Hd ((L1.set ev {x1 with to_:=tm+1})[ev]?=some {x1 with to_:=tm+1}):=qh (by simp[hl1])
  refine ao S hU [12,13] 97 1 hC2 ?_;constructor
  ·intro W' hW';simp only[pick,List.filterMap,gq1,gq2,gq3];obtain⟨q0,q1,q2⟩:=hW'
   repeat (go_big_quiet_step (fail))
   exact wpQuiet_nil rfl
  refine az S hU 14 0 rfl hC2 fun n2 K1 hK1=>?_;have hfz:=(HEV.o.drewN n2).free;have hcw0:=(HEV.o.drewN n2).cell EvC.enc_len (j:=12) HI2.o rfl;have hcw1:=(HEV.o.drewN n2).cell EvC.enc_len (j:=13) HI2.o rfl;have hcw2:=(HEV.o.drewN n2).cell EvC.enc_len (j:=14) HI2.o rfl;have hcw3:=(HEV.o.drewN n2).cell EvC.enc_len (j:=15) HI2.o rfl;have hcw4:=(HEV.o.drewN n2).cell EvC.enc_len (j:=16) HI2.o rfl;have hcw5:=(HEV.o.drewN n2).cell EvC.enc_len (j:=17) HI2.o rfl;have hcw6:=(HEV.o.drewN n2).cell EvC.enc_len (j:=18) HI2.o rfl;have hcw7:=(HEV.o.drewN n2).cell EvC.enc_len (j:=19) HI2.o rfl;have hcw8:=(HEV.o.drewN n2).cell EvC.enc_len (j:=20) HI2.o rfl;have hcw9:=(HEV.o.drewN n2).cell EvC.enc_len (j:=21) HI2.o rfl;have hcw10:=(HEV.o.drewN n2).cell EvC.enc_len (j:=22) HI2.o rfl;have hcw11:=(HEV.o.drewN n2).cell EvC.enc_len (j:=23) HI2.o rfl;go_wp2_with fail
  have hSS:ab [eg] (u2.drewN n2) _:=(((((((((((sj eg (ev*27+12) (ci o'.code)).sc eg (ev*27+12+1) (ci o'.asub)).sc eg (ev*27+12+2) (cu o'.gen)).sc eg (ev*27+12+3) (ci o'.count)).sc eg (ev*27+12+4) (cu o'.lost)).sc eg (ev*27+12+5) (ci o'.st.m)).sc eg (ev*27+12+6) (ci o'.st.s)).sc eg (ev*27+12+7) (.bool o'.st.h)).sc eg (ev*27+12+8) (ci o'.st.f)).sc eg (ev*27+12+9) (cu o'.st.e)).sc eg (ev*27+12+10) (.slice ga gn gc)).sc eg (ev*27+12+11) (.slice aa an ac);replace HX:=qh ((HX.o.drewN n2).same hSS (nn ne_X_eg));replace HBS:=qh ((HBS.o.drewN n2).same hSS (nn ne_bs_eg));replace HBI:=qh ((HBI.o.drewN n2).same hSS (nn ne_bi_eg));replace HM:=qh ((HM.o.drewN n2).same hSS (nn ne_Mp_eg))
  replace HEV:=qh ((j6 (L:=L1) (ev:=ev) (j:=23) (off:=ev*27+12+11) (x:={x1 with to_:=tm+1,code:=o'.code,asub:=o'.asub,gen:=o'.gen,count:=o'.count,lost:=o'.lost,gens:=.slice ga gn gc,st:={x1.st with m:=o'.st.m,s:=o'.st.s,h:=o'.st.h,f:=o'.st.f,e:=o'.st.e}}) (x':={x1 with to_:=tm+1,code:=o'.code,asub:=o'.asub,gen:=o'.gen,count:=o'.count,lost:=o'.lost,gens:=.slice ga gn gc,awords:=.slice aa an ac,st:={x1.st with m:=o'.st.m,s:=o'.st.s,h:=o'.st.h,f:=o'.st.f,e:=o'.st.e}}) (v:=.slice aa an ac) (j6 (L:=L1) (ev:=ev) (j:=22) (off:=ev*27+12+10) (x:={x1 with to_:=tm+1,code:=o'.code,asub:=o'.asub,gen:=o'.gen,count:=o'.count,lost:=o'.lost,st:={x1.st with m:=o'.st.m,s:=o'.st.s,h:=o'.st.h,f:=o'.st.f,e:=o'.st.e}}) (x':={x1 with to_:=tm+1,code:=o'.code,asub:=o'.asub,gen:=o'.gen,count:=o'.count,lost:=o'.lost,gens:=.slice ga gn gc,st:={x1.st with m:=o'.st.m,s:=o'.st.s,h:=o'.st.h,f:=o'.st.f,e:=o'.st.e}}) (v:=.slice ga gn gc) (j6 (L:=L1) (ev:=ev) (j:=21) (off:=ev*27+12+9) (x:={x1 with to_:=tm+1,code:=o'.code,asub:=o'.asub,gen:=o'.gen,count:=o'.count,lost:=o'.lost,st:={x1.st with m:=o'.st.m,s:=o'.st.s,h:=o'.st.h,f:=o'.st.f}}) (x':={x1 with to_:=tm+1,code:=o'.code,asub:=o'.asub,gen:=o'.gen,count:=o'.count,lost:=o'.lost,st:={x1.st with m:=o'.st.m,s:=o'.st.s,h:=o'.st.h,f:=o'.st.f,e:=o'.st.e}}) (v:=cu o'.st.e) (j6 (L:=L1) (ev:=ev) (j:=20) (off:=ev*27+12+8) (x:={x1 with to_:=tm+1,code:=o'.code,asub:=o'.asub,gen:=o'.gen,count:=o'.count,lost:=o'.lost,st:={x1.st with m:=o'.st.m,s:=o'.st.s,h:=o'.st.h}}) (x':={x1 with to_:=tm+1,code:=o'.code,asub:=o'.asub,gen:=o'.gen,count:=o'.count,lost:=o'.lost,st:={x1.st with m:=o'.st.m,s:=o'.st.s,h:=o'.st.h,f:=o'.st.f}}) (v:=ci o'.st.f) (j6 (L:=L1) (ev:=ev) (j:=19) (off:=ev*27+12+7) (x:={x1 with to_:=tm+1,code:=o'.code,asub:=o'.asub,gen:=o'.gen,count:=o'.count,lost:=o'.lost,st:={x1.st with m:=o'.st.m,s:=o'.st.s}}) (x':={x1 with to_:=tm+1,code:=o'.code,asub:=o'.asub,gen:=o'.gen,count:=o'.count,lost:=o'.lost,st:={x1.st with m:=o'.st.m,s:=o'.st.s,h:=o'.st.h}}) (v:=.bool o'.st.h) (j6 (L:=L1) (ev:=ev) (j:=18) (off:=ev*27+12+6) (x:={x1 with to_:=tm+1,code:=o'.code,asub:=o'.asub,gen:=o'.gen,count:=o'.count,lost:=o'.lost,st:={x1.st with m:=o'.st.m}}) (x':={x1 with to_:=tm+1,code:=o'.code,asub:=o'.asub,gen:=o'.gen,count:=o'.count,lost:=o'.lost,st:={x1.st with m:=o'.st.m,s:=o'.st.s}}) (v:=ci o'.st.s) (j6 (L:=L1) (ev:=ev) (j:=17) (off:=ev*27+12+5) (x:={x1 with to_:=tm+1,code:=o'.code,asub:=o'.asub,gen:=o'.gen,count:=o'.count,lost:=o'.lost}) (x':={x1 with to_:=tm+1,code:=o'.code,asub:=o'.asub,gen:=o'.gen,count:=o'.count,lost:=o'.lost,st:={x1.st with m:=o'.st.m}}) (v:=ci o'.st.m) (j6 (L:=L1) (ev:=ev) (j:=16) (off:=ev*27+12+4) (x:={x1 with to_:=tm+1,code:=o'.code,asub:=o'.asub,gen:=o'.gen,count:=o'.count}) (x':={x1 with to_:=tm+1,code:=o'.code,asub:=o'.asub,gen:=o'.gen,count:=o'.count,lost:=o'.lost}) (v:=cu o'.lost) (j6 (L:=L1) (ev:=ev) (j:=15) (off:=ev*27+12+3) (x:={x1 with to_:=tm+1,code:=o'.code,asub:=o'.asub,gen:=o'.gen}) (x':={x1 with to_:=tm+1,code:=o'.code,asub:=o'.asub,gen:=o'.gen,count:=o'.count}) (v:=ci o'.count) (j6 (L:=L1) (ev:=ev) (j:=14) (off:=ev*27+12+2) (x:={x1 with to_:=tm+1,code:=o'.code,asub:=o'.asub}) (x':={x1 with to_:=tm+1,code:=o'.code,asub:=o'.asub,gen:=o'.gen}) (v:=cu o'.gen) (j6 (L:=L1) (ev:=ev) (j:=13) (off:=ev*27+12+1) (x:={x1 with to_:=tm+1,code:=o'.code}) (x':={x1 with to_:=tm+1,code:=o'.code,asub:=o'.asub}) (v:=ci o'.asub) (j6 (L:=L1) (ev:=ev) (j:=12) (off:=ev*27+12) (x:={x1 with to_:=tm+1}) (x':={x1 with to_:=tm+1,code:=o'.code}) (v:=ci o'.code) (HEV.o.drewN n2) hl1 (by decide) rfl rfl) hl1 (by decide) rfl rfl) hl1 (by decide) rfl rfl) hl1 (by decide) rfl rfl) hl1 (by decide) rfl rfl) hl1 (by decide) rfl rfl) hl1 (by decide) rfl rfl) hl1 (by decide) rfl rfl) hl1 (by decide) rfl rfl) hl1 (by decide) rfl rfl) hl1 (by decide) rfl rfl) hl1 (by decide) rfl rfl))
  replace HR:=qh ((HR.o.drewN n2).same hSS (nn ne_R_eg));replace HT:=qh (ai (ai HT.o (sdn n2) nm0) hSS (no1 ne_v9_eg));replace H5:=qh ((H5.o.drewN n2).same hSS (nn ne_b5_eg));replace HQ:=qh ((HQ.o.drewN n2).then hSS (mm (by simp)));replace HGV:=qh (ai (ai HGV.o (sdn n2) nm0) hSS (no1 ne_gv_eg));replace HAV:=qh (ai (ai HAV.o (sdn n2) nm0) hSS (no1 ne_av_eg));replace HN:=qh ((HN.o.drewN n2).then hSS (mm (by simp)));have hC3:=hU.at _ ⟨HBS.k 0,HX.k 4,H5.k 0⟩;refine hK1 _ _ hC3 ?_;clear hK1 hC2
  generalize (((((((((((((u2.drewN n2).setCell ⟨eg,ev*27+12,none⟩ (ci o'.code)).setCell ⟨eg,ev*27+12+1,none⟩ (ci o'.asub)).setCell ⟨eg,ev*27+12+2,none⟩ (cu o'.gen)).setCell ⟨eg,ev*27+12+3,none⟩ (ci o'.count)).setCell ⟨eg,ev*27+12+4,none⟩ (cu o'.lost)).setCell ⟨eg,ev*27+12+5,none⟩ (ci o'.st.m)).setCell ⟨eg,ev*27+12+6,none⟩ (ci o'.st.s)).setCell ⟨eg,ev*27+12+7,none⟩ (.bool o'.st.h)).setCell ⟨eg,ev*27+12+8,none⟩ (ci o'.st.f)).setCell ⟨eg,ev*27+12+9,none⟩ (cu o'.st.e)).setCell ⟨eg,ev*27+12+10,none⟩ (.slice ga gn gc)).setCell ⟨eg,ev*27+12+11,none⟩ (.slice aa an ac))=u3 at *;clear hSS hfz hcw0 hcw1 hcw2 hcw3 hcw4 hcw5 hcw6 hcw7 hcw8 hcw9 hcw10 hcw11;refine dd fun n9=>?_;revert HX HBS HBI HM HEV HR HT H5 HQ HGV HAV HN;refine cq (sdw u3 n9) ?_;intro HX HBS HBI HM HEV HR HT H5 HQ HGV HAV HN;clear S hU hC3;generalize u3.drewN n9=w9 at *;go_wp2_with fail
  revert HX;revert HBS;revert HBI;revert HM;revert HEV;revert HR;revert HT;revert H5;revert HQ;revert HGV;revert HAV;revert HN
  refine cq (sdz w9) ?_;intro HN HAV HGV HQ H5 HT HR HEV HM HBI HBS HX;have hU:UD (fun W=>W.cell? (ae bs 0)=some (pt X)∧W.cell? (ae X 2)=some (.map (some Mp))∧W.cell? (ae bi 0)=some (ci i)):=al fun W n h=>h;have hC0:=hU.at _ ⟨HBS.k 0,HX.k 2,HBI.k 0⟩;refine dw aj hU hC0 ?_;intro S;generalize w9.drew=u0 at *;refine ao S hU [0,1,2,3,4] 97 1 hC0 ?_;constructor
  ·intro W' hW';simp only[pick,List.filterMap,gq1,gq2,gq3];obtain⟨q0,q1,q2⟩:=hW'
   repeat (go_big_quiet_step (fail))
   exact wpQuiet_nil rfl
  refine az S hU 5 0 rfl hC0 fun n0 K1 hK1=>?_;refine b2u rfl _ _ 66 3 rfl 101 (Maps.int_keyed Tryz.underlying3) Tryz.underlying66 Mp (nm+1) (il fm (ig (i:Int)) (some (.agg #[pt O,ci ev,zl gv9 (times.length+1) cv9]))) rfl (HM.o.drewN n0) (ci (i:Int)) (ig (i:Int)) rfl (jd _ hiw) ?_;intro W6x hm6 hs6;have nb_X:X∉[Mp]:=by simpa using (HM.o.drewN n0).ne (HX.o.drewN n0)
  have nb_bs:bs∉[Mp]:=by simpa using (HM.o.drewN n0).ne (HBS.o.drewN n0)
  have nb_bi:bi∉[Mp]:=by simpa using (HM.o.drewN n0).ne (HBI.o.drewN n0)
  have nb_b5:b5∉[Mp]:=by simpa using (HM.o.drewN n0).ne (H5.o.drewN n0)
  have nb_R:R∉[Mp]:=by simpa using (HM.o.drewN n0).ne (HR.o.drewN n0)
  have nb_eg:eg∉[Mp]:=by simpa using (HM.o.drewN n0).ne_arr (HEV.o.drewN n0).arr
  have nb_v9:∀c,(zl gv9 (times.length+1) cv9:Value).ownBlock=some c→c∉[Mp]:=fun c hc h=>by
   simp only[List.mem_singleton] at h;subst h;exact lu (ai HT.o (sdn n0) nm0) (HM.o.drewN n0) hc
  have nb_gv:∀c,(.slice ga gn gc:Value).ownBlock=some c→c∉[Mp]:=fun c hc h=>by
   simp only[List.mem_singleton] at h;subst h;exact lu (ai HGV.o (sdn n0) nm0) (HM.o.drewN n0) hc
  have nb_av:∀c,(.slice aa an ac:Value).ownBlock=some c→c∉[Mp]:=fun c hc h=>by
   simp only[List.mem_singleton] at h;subst h;exact lu (ai HAV.o (sdn n0) nm0) (HM.o.drewN n0) hc
  conv in (Act.put _ _ _)=>arg 2;whnf
  simp only[Act.put];go_wp2_with fail;replace HM:=qh hm6;revert HN HAV HGV HQ H5 HT HR HEV HBI HBS HX;refine cm (ssm hs6) ⟨(fun y hy _=>by simp at hy ⊢;first|omega|simp[hy]),nb_av,nb_gv,(fun y hy _=>by simp at hy ⊢;first|omega|simp[hy]),nb_b5,nb_v9,nb_R,nb_eg,nb_bi,nb_bs,nb_X,trivial⟩ ?_;intro HN HAV HGV HQ H5 HT HR HEV HBI HBS HX;have hC1:=hU.at _ ⟨HBS.k 0,HX.k 2,HBI.k 0⟩;refine hK1 _ _ hC1 ?_;clear hK1 hC0;clear hm6 hs6 nb_X nb_bs nb_bi nb_b5 nb_R nb_eg nb_v9 nb_gv nb_av;refine dd fun n9=>?_;revert HM HN HAV HGV HQ H5 HT HR HEV HBI HBS HX;refine cq (sdw W6x n9) ?_;intro HM HN HAV HGV HQ H5 HT HR HEV HBI HBS HX;clear S hU hC1;generalize W6x.drewN n9=w10 at *;have HTB:=qh (HTB4.o.same HQ.o nbT);have itl:=(bk.1 HI.o).1;have i2:(i:Int)<nt:=by have:=HNT.o;omega
  go_wp2_with fail;have ne_X_R:X≠R:=HX.o.ne HR.o (by decide);have ne_bs_R:bs≠R:=HBS.o.ne HR.o (by decide);have ne_bi_R:bi≠R:=HBI.o.ne HR.o (by decide);have ne_b5_R:b5≠R:=H5.o.ne HR.o (by decide);have ne_Mp_R:Mp≠R:=(HM.o.ne HR.o).symm;have ne_eg_R:eg≠R:=Row.ne_arr HEV.o.arr HR.o (by decide);have ne_tb_R:tb≠R:=Row.ne_arr HTB.o HR.o (by decide);have ne_v9_R:=a6 HT.o HR.o (by decide);have ne_gv_R:=a6 HGV.o HR.o (by decide);have ne_av_R:=a6 HAV.o HR.o (by decide);revert HX;revert HBS;revert HBI;revert HM;revert HEV;revert HR;revert HT;revert H5;revert HQ;revert HGV;revert HAV;revert HN;revert HTB
  refine cq (sdz w10) ?_;intro HTB HN HAV HGV HQ H5 HT HR HEV HM HBI HBS HX;have hU:UD (fun W=>W.cell? (ae bs 0)=some (pt X)∧W.cell? (ae X 1)=some (zl tb nt tcap)∧W.cell? (ae bi 0)=some (ci i)∧W.cell? (ae tb i)=some (pt R)):=al fun W n h=>h;have hC0:=hU.at _ ⟨HBS.k 0,HX.k 1,HBI.k 0,ri HTB.o HI.o⟩;refine dw aj hU hC0 ?_;intro S;generalize w10.drew=u0 at *;refine ao S hU [0,1,2,3,4,5,6,7,8,9] 97 1 hC0 ?_;constructor
  ·intro W' hW';simp only[pick,List.filterMap,gq1,gq2,gq3];obtain⟨q0,q1,q2,q3⟩:=hW'
   repeat (go_big_quiet_step (fail))
   exact wpQuiet_nil rfl
  refine ti S hU 10 rfl hC0 fun n0 K1 hK1=>?_;have hfz:=(HR.o.drewN n0).free;have hcw:=(HR.o.drewN n0).k 2;go_wp2_with fail;clear hfz hcw;replace HR:=qh (((HR.o.drewN n0).set 2 (.func (.func 42) #[] #[pt bs,pt bi])).to (cs':=#[cs0,nx0,.func (.func 42) #[] #[pt bs,pt bi]]) rfl);revert HTB HN HAV HGV HQ H5 HT HEV HM HBI HBS HX;refine cm (sst u0 n0 R 2 (.func (.func 42) #[] #[pt bs,pt bi])) ⟨nn ne_tb_R,mm (by simp),no1 ne_av_R,no1 ne_gv_R,mm (by simp),nn ne_b5_R,no1 ne_v9_R,nn ne_eg_R,nn ne_Mp_R,nn ne_bi_R,nn ne_bs_R,nn ne_X_R,trivial⟩ ?_;intro HTB HN HAV HGV HQ H5 HT HEV HM HBI HBS HX;refine hK1 _ _ ?_;clear hK1 hC0;generalize ((u0.drewN n0).setCell ⟨R,2,none⟩ (.func (.func 42) #[] #[pt bs,pt bi]))=u1 at *;refine dd fun n9=>?_;revert HR HTB HN HAV HGV HQ H5 HT HEV HM HBI HBS HX;refine cq (sdw u1 n9) ?_;intro HR HTB HN HAV HGV HQ H5 HT HEV HM HBI HBS HX;clear S hU
  generalize u1.drewN n9=w11 at *;go_wp2_with fail;go_ret;refine⟨rfl,true,_,w3,W4,zl gv9 (times.length+1) cv9,nz,_,{x1 with to_:=tm+1,code:=o'.code,asub:=o'.asub,gen:=o'.gen,count:=o'.count,lost:=o'.lost,gens:=.slice ga gn gc,awords:=.slice aa an ac,st:={x1.st with m:=o'.st.m,s:=o'.st.s,h:=o'.st.h,f:=o'.st.f,e:=o'.st.e}},HQ4.o,HSs.o,hz1x,by have:=HN.o.size;omega,HQ.o,hMem,HX.o,HT.o,fun c hc=>⟨HBLK.o c hc,hz2x c hc⟩,by rw[←HL1.o];exact HEV.o,fun h=>(by cases h),fun _=>⟨⟨.slice ga gn gc,.slice aa an ac,?_,⟨gn,gcs,HGV.o,G1.o,g2⟩,an,acs,HAV.o,A1x.o,a2x⟩,HM.o,bs,bi,lo_bs,lo_bi,l6,l7,HR.o,HBS.o,HBI.o⟩⟩;have hx1:=HX1.o;subst hx1
  rfl
end Go.Proofs.YtojkaibpfdhmaaaGreatDoor

/- A task begins its next call: Sched.begin. -/
import Derived.Test.YtojkaibpfdhmaaaGreatDoorP16
import Derived.Test.YtojkaibpfdhmaaaGreatDoorP39
namespace Go.Proofs.YtojkaibpfdhmaaaGreatDoor
open Go.RowKit
set_option maxRecDepth 100000
set_option maxHeartbeats 16000000
structure bu where
 kd:Int
 tp:Int
 sb:Int
 cp:Int
 rk:Int
 sr:Int
 mo:Int
 fl:Int
 fb:Bool
 set:Value
 words:Value
def bu.enc(c:bu):List Value:=[ci c.kd,ci c.tp,ci c.sb,ci c.cp,ci c.rk,ci c.sr,ci c.mo,ci c.fl,.bool c.fb,c.set,c.words]
theorem bu.enc_len(c:bu):c.enc.length=11:=rfl
def bu.ev(c:bu)(i now:Nat):EvC:=⟨i,c.kd,c.tp,c.sb,c.cp,c.rk,c.sr,c.mo,c.fl,c.fb,c.set,c.words,0,0,0,0,0,⟨0,0,false,0,0⟩,zn,zn,now,0,0⟩
def b6x(w W W' W6:World)(X V Mp nm tb tcap nt i R tm O:Nat)(fm:Lit→Option Value)(csv:Value)(nx:Nat)(evs:List EvC)(c:bu)(evv:Value):Prop:=
 ∃(eg ec bs bi:Nat)(M':List Nat),Below w.heap.size w W∧ab M' W' W6∧(∀x∈M',x∈[X,Mp,R]∨evv.ownBlock=some x) ∧
  Row W6 X 69 #[pt V,zl tb nt tcap,.map (some Mp),zl eg (evs.length+1) ec,ci tm]∧ff EvC.enc 27 (ec*27) W6 eg 47 (evs++[c.ev i (tm+1)])∧evs.length+1≤ec∧ec≤maxLen∧(evv.ownBlock=some eg∨W'.heap.size≤eg) ∧
  a8 Tryz.prog 3 W6 Mp (nm+1) (il fm (ig (i:Int)) (some (.agg #[pt O,ci evs.length,zn]))) ∧
  w.heap.size≤bs∧w.heap.size≤bi∧bs<W.heap.size∧bi<W.heap.size∧Row W6 R 73 #[csv,ci ((nx:Int)+1),.func (.func 30) #[] #[pt bs,pt bi]]∧Row W6 bs 58 #[pt X]∧Row W6 bi 3 #[ci i]
structure ic(W:World)(a:Addr)(v:Value):Prop where
 at_:W.cell? a=some v
theorem ic.drew{W:World}{a:Addr}{v:Value}(h:ic W a v):ic W.drew a v:=⟨h.at_⟩
theorem ic.drewN{W:World}{a:Addr}{v:Value}(h:ic W a v)(n:Nat):ic (W.drewN n) a v:=⟨h.at_⟩
theorem ic.bel{W W':World}{a:Addr}{v:Value}(h:ic W a v)(hb:Below W.heap.size W W'):ic W' a v:=⟨ak h.at_ hb⟩
theorem ic.other{W:World}{a:Addr}{v:Value}{b:Nat}(h:ic W a v)(hne:a.block≠b)(i:Nat)(u:Value):ic (W.setCell ⟨b,i,none⟩ u) a v:=⟨by
 rw[World.cell?_of_block (w:=W) ((sj (W:=W) b i u).block a.block (blc h.at_) (by simpa using hne))];exact h.at_⟩
theorem ic.same{W W':World}{a:Addr}{v:Value}{M:List Nat}(h:ic W a v)(hs:ab M W W')(hne:a.block∉M):ic W' a v:=⟨by
 rw[World.cell?_of_block (w:=W) (hs.block a.block (blc h.at_) hne)];exact h.at_⟩
instance {W W':World} {a:Addr} {v:Value}:C0 (ic W a v) W W' (ic W' a v):=⟨fun hs h=>h.same hs (by simp)⟩
instance {W W':World} {a:Addr} {v:Value} {M:List Nat}:CM (ic W a v) M W W' (a.block∉M) (ic W' a v):=⟨fun hs m h=>h.same hs m⟩
def c2w(b:Nat):World→Nat→List Value→World
 | W,_,[]=>W
 | W,i,v::vs=>c2w b (W.setCell ⟨b,i,none⟩ v) (i+1) vs
def c7n:Array Value→Nat→List Value→Array Value
 | cs,_,[]=>cs
 | cs,i,v::vs=>c7n (cs.setIfInBounds i v) (i+1) vs
theorem ab.setsW(W:World)(b i:Nat)(vs:List Value):ab [b] W (c2w b W i vs):=by
 induction vs generalizing W i with
 | nil=>exact ab.refl _ _
 | cons v vs ih=>exact((sj (W:=W) b i v).trans (ih _ (i+1))).mono fun x hx _=>by simpa using hx
theorem Row.setsW{W:World}{b:Nat}{t:TypeId}{cs:Array Value}(h:Row W b t cs)(i:Nat)(vs:List Value):Row (c2w b W i vs) b t (c7n cs i vs):=by
 induction vs generalizing W cs i with
 | nil=>exact h
 | cons v vs ih=>exact ih (h.set i v) (i+1)
theorem c9n{c:bu}{i now:Nat}(h1:c.set.oneCell'=true)(h2:c.words.oneCell'=true):∀u∈(c.ev i now).enc,u.oneCell'=true:=by
 intro u hu;simp only[EvC.enc,bu.ev,List.mem_cons,List.not_mem_nil,or_false] at hu;rcases hu with rfl|rfl|rfl|rfl|rfl|rfl|rfl|rfl|rfl|rfl|rfl|rfl|rfl|rfl|rfl|rfl|rfl|rfl|rfl|rfl|rfl|rfl|rfl|rfl|rfl|rfl|rfl<;>first|rfl|exact h1|exact h2
theorem b6z(w:World)(X V Mp nm tb tcap nt i R tm nc nx cc:Nat)(fm:Lit→Option Value)(ca:Option Addr)(dz0 evv:Value)(evs:List EvC)(tks:List Nat)(c:bu)(Qb:World→World→Nat→Prop)(P:Ending→World→Prop)(hx:Row w X 69 #[pt V,zl tb nt tcap,.map (some Mp),evv,ci tm])(hm:a8 Tryz.prog 3 w Mp nm fm)(hnm:nm≤100000)(hev:w.ownsRow 0 47 27 evv evs.length (evs.flatMap EvC.enc))(htb:Arr zo 1 w tb 70 tks)(hti:tks[i]?=some R)(hnt:nt=tks.length)(hR:Row w R 73 #[.slice ca nc cc,ci nx,dz0])(htm:tm≤100000)(hi8:i≤8)(hes:evs.length≤100000)(hnx0:nx≤100000)(hone1:c.set.oneCell'=true)(hone2:c.words.oneCell'=true)(hcall:nx<nc→∃cb,ca=some ⟨cb,0,none⟩∧∀(j:Nat)(v:Value),c.enc[j]?=some v→w.cell? (ae cb (nx*11+j))=some v)(hbegin:nx<nc→∀W,Below w.heap.size w W→Calls Tryz.prog 29 #[pt V,ci i,.agg #[ci c.kd,ci c.tp,ci c.sb,ci c.cp,ci c.rk,ci c.sr,ci c.mo,ci c.fl,.bool c.fb,c.set,c.words]] W fun e W'=>∃(O:Nat)(M:List Nat),e=.returned (.tuple #[pt O,ci 0])∧ab M W W'∧(∀x∈M,x<w.heap.size∧x∉[X,Mp,tb,R]∧evv.ownBlock≠some x)∧Qb W W' O)(hstep:∀(W W' W6:World)(O:Nat),Qb W W' O→b6x w W W' W6 X V Mp nm tb tcap nt i R tm O fm (.slice ca nc cc) nx evs c evv→Calls Tryz.prog 31 #[pt X,ci i] W6 P)(hP:∀e w',P e w'→e=.returned (.bool true)):Calls Tryz.prog 18 #[pt X,ci i] w fun e w'=>(e=.returned (.bool false)∧nc≤nx∧Below w.heap.size w w')∨P e w':=by
 obtain⟨ea,ec0,rfl⟩:=ax hev;have hz1:(w.alloc (.cells #[pt X] 58)).heap.size=w.heap.size+1:=by simp
 have rbi:=Row.new (w.alloc (.cells #[pt X] 58)) 3 #[ci i];rw[hz1] at rbi;have HBS:=qh ((Row.new w 58 #[pt X]).alloc (.cells #[ci i] 3));have HBI:=qh rbi;have HX:=qh hx;have HM:=qh hm;have HTB:=qh htb;have HR:=qh hR;have HEV:=qh hev;have HB:=qh (brf w);revert HX;revert HM;revert HTB;revert HR;revert HEV;revert HB
 refine cq (sa2 w (.cells #[pt X] 58) (.cells #[ci i] 3)) ?_;intro HB HEV HR HTB HM HX;have lw_X:=hx.lt;have lw_M:=hm.lt;have lw_tb:=htb.lt;have lw_R:=hR.lt;have lw_ev:=ie hev;have HI:=qh hti;have HCALL:=qh hcall;have HBEG:=qh hbegin;have HST:=qh hstep;have HNT:=qh hnt;have hiw:(Lit.int .i64 (i:Int)).wf=true:=ux (by omega) (by omega);have itl:=(bk.1 hti).1;have i2:(i:Int)<nt:=by omega
 clear hx hm hev htb hR hti hcall hbegin hstep rbi hnt
 go_enter Tryz.func18,Tryz.ntmps18
 go_wp2_with fail;generalize hbi:w.heap.size+1=bi at HBI ⊢;generalize hbs:w.heap.size=bs at HBS ⊢;have lo_bi:w.heap.size≤bi:=by omega
 have lo_bs:w.heap.size≤bs:=by omega
 clear hbi hbs;generalize (w.alloc (.cells #[pt X] 58)).alloc (.cells #[ci i] 3)=w1 at *;revert HX;revert HBS;revert HBI;revert HM;revert HTB;revert HR;revert HEV;revert HB
 refine cq (sdz w1) ?_;intro HB HEV HR HTB HM HBI HBS HX;have hU:UD (fun W=>W.cell? (ae bs 0)=some (pt X)∧W.cell? (ae X 1)=some (zl tb nt tcap)∧W.cell? (ae bi 0)=some (ci i)∧W.cell? (ae tb i)=some (pt R)):=al fun W n h=>h;have hC0:=hU.at _ ⟨HBS.k 0,HX.k 1,HBI.k 0,ri HTB.o HI.o⟩;refine dw aj hU hC0 ?_;intro S;generalize w1.drew=u0 at *;refine ao S hU [0,1,2,3,4,5,6,7] 91 0 hC0 ?_;constructor
 ·intro W' hW';simp only[pick,List.filterMap,gq1,gq2,gq3];obtain⟨q0,q1,q2,q3⟩:=hW'
  repeat (go_big_quiet_step (fail))
  exact wpQuiet_nil rfl
 refine dd fun n9=>?_;revert HB HEV HR HTB HM HBI HBS HX;refine cq (sdw u0 n9) ?_;intro HB HEV HR HTB HM HBI HBS HX;clear S hU hC0;generalize u0.drewN n9=w2 at *;go_wp2_with fail;revert HX;revert HBS;revert HBI;revert HM;revert HTB;revert HR;revert HEV;revert HB
 refine cq (sdz w2) ?_;intro HB HEV HR HTB HM HBI HBS HX;have hU:UD (fun W=>W.cell? (ae R 0)=some (.slice ca nc cc)∧W.cell? (ae R 1)=some (ci nx)):=al fun W n h=>h;have hC0:=hU.at _ ⟨HR.k 0,HR.k 1⟩;refine dw aj hU hC0 ?_;intro S;generalize w2.drew=u0 at *;refine ao S hU [0,1,2,3,4,5,6,7,8,9] 91 0 hC0 ?_;constructor
 ·intro W' hW';simp only[pick,List.filterMap,gq1,gq2,gq3];obtain⟨q0,q1⟩:=hW'
  repeat (go_big_quiet_step (fail))
  exact wpQuiet_nil rfl
 refine dd fun n9=>?_;revert HB HEV HR HTB HM HBI HBS HX;refine cq (sdw u0 n9) ?_;intro HB HEV HR HTB HM HBI HBS HX;clear S hU hC0;generalize u0.drewN n9=w3 at *;by_cases hnx:nx<nc
 ·have hd:¬ (nc:Int)≤nx:=by omega
  have hd2:(nx:Int)<nc:=by omega
  go_wp2_with fail;obtain⟨cb,rfl,hcc⟩:=HCALL.o hnx;have HCF:=qh hcc;clear hcc;have HC0:Hd (ic w3 ⟨cb,nx*11,none⟩ (ci c.kd)):=qh ⟨ak (HCF.o 0 _ rfl) HB.o⟩;have HC1:Hd (ic w3 ⟨cb,nx*11+1,none⟩ (ci c.tp)):=qh ⟨ak (HCF.o 1 _ rfl) HB.o⟩;have HC2:Hd (ic w3 ⟨cb,nx*11+2,none⟩ (ci c.sb)):=qh ⟨ak (HCF.o 2 _ rfl) HB.o⟩;have HC3:Hd (ic w3 ⟨cb,nx*11+3,none⟩ (ci c.cp)):=qh ⟨ak (HCF.o 3 _ rfl) HB.o⟩;have HC4:Hd (ic w3 ⟨cb,nx*11+4,none⟩ (ci c.rk)):=qh ⟨ak (HCF.o 4 _ rfl) HB.o⟩;have HC5:Hd (ic w3 ⟨cb,nx*11+5,none⟩ (ci c.sr)):=qh ⟨ak (HCF.o 5 _ rfl) HB.o⟩;have HC6:Hd (ic w3 ⟨cb,nx*11+6,none⟩ (ci c.mo)):=qh ⟨ak (HCF.o 6 _ rfl) HB.o⟩;have HC7:Hd (ic w3 ⟨cb,nx*11+7,none⟩ (ci c.fl)):=qh ⟨ak (HCF.o 7 _ rfl) HB.o⟩;have HC8:Hd (ic w3 ⟨cb,nx*11+8,none⟩ (.bool c.fb)):=qh ⟨ak (HCF.o 8 _ rfl) HB.o⟩
  have HC9:Hd (ic w3 ⟨cb,nx*11+9,none⟩ (c.set)):=qh ⟨ak (HCF.o 9 _ rfl) HB.o⟩;have HC10:Hd (ic w3 ⟨cb,nx*11+10,none⟩ (c.words)):=qh ⟨ak (HCF.o 10 _ rfl) HB.o⟩;have lw_3:=HB.o.size;have lt_cb:cb<w3.heap.size:=blc HC0.o.at_;have lt_X:X<w3.heap.size:=HX.o.lt;have lt_bs:bs<w3.heap.size:=HBS.o.lt;have lt_bi:bi<w3.heap.size:=HBI.o.lt;have lt_Mp:Mp<w3.heap.size:=HM.o.lt;have lt_tb:tb<w3.heap.size:=HTB.o.lt;have lt_R:R<w3.heap.size:=HR.o.lt;have HBL:=qh (brf w3);revert HX;revert HBS;revert HBI;revert HM;revert HTB;revert HR;revert HEV;revert HC0;revert HC1;revert HC2;revert HC3;revert HC4;revert HC5;revert HC6;revert HC7;revert HC8;revert HC9;revert HC10;revert HBL
  refine cq (sdz w3) ?_;intro HBL HC10 HC9 HC8 HC7 HC6 HC5 HC4 HC3 HC2 HC1 HC0 HEV HR HTB HM HBI HBS HX
  have hU:Ups (fun W W'=>∃g:ag W,W'=g.to) (fun W=>Below w3.heap.size w3 W∧W.cell? (ae R 0)=some (zl cb nc cc)∧W.cell? (ae R 1)=some (ci nx)∧W.cell? (ae cb (nx*11))=some (ci c.kd)∧W.cell? (ae cb (nx*11+1))=some (ci c.tp)∧W.cell? (ae cb (nx*11+2))=some (ci c.sb)∧W.cell? (ae cb (nx*11+3))=some (ci c.cp)∧W.cell? (ae cb (nx*11+4))=some (ci c.rk)∧W.cell? (ae cb (nx*11+5))=some (ci c.sr)∧W.cell? (ae cb (nx*11+6))=some (ci c.mo)∧W.cell? (ae cb (nx*11+7))=some (ci c.fl)∧W.cell? (ae cb (nx*11+8))=some (.bool c.fb)∧W.cell? (ae cb (nx*11+9))=some (c.set)∧W.cell? (ae cb (nx*11+10))=some (c.words)):=dj fun h hb=>⟨bt h.1 hb,ak h.2.1 hb,ak h.2.2.1 hb,ak h.2.2.2.1 hb,ak h.2.2.2.2.1 hb,ak h.2.2.2.2.2.1 hb,ak h.2.2.2.2.2.2.1 hb,ak h.2.2.2.2.2.2.2.1 hb,ak h.2.2.2.2.2.2.2.2.1 hb,ak h.2.2.2.2.2.2.2.2.2.1 hb,ak h.2.2.2.2.2.2.2.2.2.2.1 hb,ak h.2.2.2.2.2.2.2.2.2.2.2.1 hb,ak h.2.2.2.2.2.2.2.2.2.2.2.2.1 hb,ak h.2.2.2.2.2.2.2.2.2.2.2.2.2 hb⟩
  have hC0:=hU.at _ ⟨HBL.o,HR.k 0,HR.k 1,HC0.o.at_,HC1.o.at_,HC2.o.at_,HC3.o.at_,HC4.o.at_,HC5.o.at_,HC6.o.at_,HC7.o.at_,HC8.o.at_,HC9.o.at_,HC10.o.at_⟩;refine tx 10 (some 6) w3 39 #[ci 0,ci 0,ci 0,ci 0,ci 0,ci 0,ci 0,ci 0,.bool false,zn,zn] hU hC0 ?_ ?_
  ·intro K a W hCW hK;unfold wpOp;go_simp;exact Or.inl (hK _ _ (af (Below.refl _ W) _) ⟨hCW.1.size,Row.new W 39 _⟩)
  intro S;generalize w3.drew=u0 at *;refine ao S hU [0,1,2,3,4,5,6,7,8,9] 91 2 hC0 ?_;constructor
  ·intro W' hW';simp only[pick,List.filterMap,gq1,gq2,gq3];obtain⟨-,q0,q1,q2,q3,q4,q5,q6,q7,q8,q9,q10,q11,q12⟩:=hW';have q0:=ln q0;have q1:=ln q1;have q2:=ln q2;have q3:=ln q3;have q4:=ln q4;have q5:=ln q5;have q6:=ln q6;have q7:=ln q7;have q8:=ln q8;have q9:=ln q9;have q10:=ln q10;have q11:=ln q11;have q12:=ln q12
   repeat (go_big_quiet_step (fail))
   exact wpQuiet_nil rfl
  refine ip hU 1 _ _ _ (by kernel_rfl) hC0 (fun b6 W5 hr hc hp=>?_);have hbW:=a7 hr;clear hr;have lo_b6:=hp.1;have H6:=qh (hp.2);revert HBL HC10 HC9 HC8 HC7 HC6 HC5 HC4 HC3 HC2 HC1 HC0 HEV HR HTB HM HBI HBS HX;refine cq (sbb hbW) ?_;intro HBL HC10 HC9 HC8 HC7 HC6 HC5 HC4 HC3 HC2 HC1 HC0 HEV HR HTB HM HBI HBS HX;clear hc hp hbW hC0;have hC1:=hU.at _ ⟨HBL.o,HR.k 0,HR.k 1,HC0.o.at_,HC1.o.at_,HC2.o.at_,HC3.o.at_,HC4.o.at_,HC5.o.at_,HC6.o.at_,HC7.o.at_,HC8.o.at_,HC9.o.at_,HC10.o.at_⟩;have ne_X_b6:X≠b6:=by have:=lt_X;omega
  have ne_bs_b6:bs≠b6:=by have:=lt_bs;omega
  have ne_bi_b6:bi≠b6:=by have:=lt_bi;omega
  have ne_Mp_b6:Mp≠b6:=by have:=lt_Mp;omega
  have ne_tb_b6:tb≠b6:=by have:=lt_tb;omega
  have ne_R_b6:R≠b6:=by have:=lt_R;omega
  have ne_cb_b6:cb≠b6:=by have:=lt_cb;omega
  have ne_ev_b6:∀c,(.slice ea evs.length ec0:Value).ownBlock=some c→c≠b6:=fun c hc e=>by have:=lw_ev c hc;omega
  have hsA:=fun (W:World)(a:Addr)(m:Mode)=>Go.run_store Tryz.prog W a c.set m hone1;have hsB:=fun (W:World)(a:Addr)(m:Mode)=>Go.run_store Tryz.prog W a c.words m hone2;refine re S hU 11 0 rfl hC1 fun W1 hbW K1 hK1=>?_;revert H6 HBL HC10 HC9 HC8 HC7 HC6 HC5 HC4 HC3 HC2 HC1 HC0 HEV HR HTB HM HBI HBS HX;refine cq (sbb hbW) ?_;intro H6 HBL HC10 HC9 HC8 HC7 HC6 HC5 HC4 HC3 HC2 HC1 HC0 HEV HR HTB HM HBI HBS HX;clear hbW;have hfz:=H6.o.free;have hcw0:=H6.k 0;have hcw1:=H6.k 1;have hcw2:=H6.k 2;have hcw3:=H6.k 3;have hcw4:=H6.k 4;have hcw5:=H6.k 5;have hcw6:=H6.k 6;have hcw7:=H6.k 7;have hcw8:=H6.k 8;have hcw9:=H6.k 9;have hcw10:=H6.k 10;go_wp2_with fail;clear hfz hcw0 hcw1 hcw2 hcw3 hcw4 hcw5 hcw6 hcw7 hcw8 hcw9 hcw10
  generalize hv2:(((((((((((W1.setCell ⟨b6,0,none⟩ (ci c.kd)).setCell ⟨b6,1,none⟩ (ci c.tp)).setCell ⟨b6,2,none⟩ (ci c.sb)).setCell ⟨b6,3,none⟩ (ci c.cp)).setCell ⟨b6,4,none⟩ (ci c.rk)).setCell ⟨b6,5,none⟩ (ci c.sr)).setCell ⟨b6,6,none⟩ (ci c.mo)).setCell ⟨b6,7,none⟩ (ci c.fl)).setCell ⟨b6,8,none⟩ (.bool c.fb)).setCell ⟨b6,9,none⟩ (c.set)).setCell ⟨b6,10,none⟩ (c.words))=v2
  have hSw:ab [b6] W1 v2:=by
   rw[←hv2];exact ab.setsW W1 b6 0 [ci c.kd,ci c.tp,ci c.sb,ci c.cp,ci c.rk,ci c.sr,ci c.mo,ci c.fl,.bool c.fb,c.set,c.words]
  have hRw:Row v2 b6 39 #[ci c.kd,ci c.tp,ci c.sb,ci c.cp,ci c.rk,ci c.sr,ci c.mo,ci c.fl,.bool c.fb,c.set,c.words]:=by
   rw[←hv2];exact(H6.o.setsW 0 [ci c.kd,ci c.tp,ci c.sb,ci c.cp,ci c.rk,ci c.sr,ci c.mo,ci c.fl,.bool c.fb,c.set,c.words]).to (by kernel_rfl)
  clear hv2;replace H6:=qh hRw;revert HBL HC10 HC9 HC8 HC7 HC6 HC5 HC4 HC3 HC2 HC1 HC0 HEV HR HTB HM HBI HBS HX;refine cm (hSw) ⟨mn lo_b6,nn ne_cb_b6,nn ne_cb_b6,nn ne_cb_b6,nn ne_cb_b6,nn ne_cb_b6,nn ne_cb_b6,nn ne_cb_b6,nn ne_cb_b6,nn ne_cb_b6,nn ne_cb_b6,nn ne_cb_b6,no1 ne_ev_b6,nn ne_R_b6,nn ne_tb_b6,nn ne_Mp_b6,nn ne_bi_b6,nn ne_bs_b6,nn ne_X_b6,trivial⟩ ?_;intro HBL HC10 HC9 HC8 HC7 HC6 HC5 HC4 HC3 HC2 HC1 HC0 HEV HR HTB HM HBI HBS HX;have hC2:=hU.at _ ⟨HBL.o,HR.k 0,HR.k 1,HC0.o.at_,HC1.o.at_,HC2.o.at_,HC3.o.at_,HC4.o.at_,HC5.o.at_,HC6.o.at_,HC7.o.at_,HC8.o.at_,HC9.o.at_,HC10.o.at_⟩;refine hK1 _ _ hC2  ?_;clear hK1 hC1;clear hSw hRw;clear hsA hsB;refine rh fun w4 hb9=>?_;revert H6 HBL HC10 HC9 HC8 HC7 HC6 HC5 HC4 HC3 HC2 HC1 HC0 HEV HR HTB HM HBI HBS HX;refine cq (sbb hb9) ?_;intro H6 HBL HC10 HC9 HC8 HC7 HC6 HC5 HC4 HC3 HC2 HC1 HC0 HEV HR HTB HM HBI HBS HX;clear S hU hC2 hb9
  clear HC0 HC1 HC2 HC3 HC4 HC5 HC6 HC7 HC8 HC9 HC10;have HB2:=qh (bt HB.o HBL.o);clear HB HBL;have HB:=HB2;clear HB2;have lo_b6w:w.heap.size≤b6:=by omega
  go_wp2_with fail;revert HX;revert HBS;revert HBI;revert HM;revert HTB;revert HR;revert HEV;revert H6;revert HB
  refine cq (sdz w4) ?_;intro HB H6 HEV HR HTB HM HBI HBS HX;have hU:UD (fun W=>W.cell? (ae bs 0)=some (pt X)∧W.cell? (ae X 0)=some (pt V)∧W.cell? (ae bi 0)=some (ci i)∧W.cell? (ae b6 0)=some (ci c.kd)∧W.cell? (ae b6 1)=some (ci c.tp)∧W.cell? (ae b6 2)=some (ci c.sb)∧W.cell? (ae b6 3)=some (ci c.cp)∧W.cell? (ae b6 4)=some (ci c.rk)∧W.cell? (ae b6 5)=some (ci c.sr)∧W.cell? (ae b6 6)=some (ci c.mo)∧W.cell? (ae b6 7)=some (ci c.fl)∧W.cell? (ae b6 8)=some (.bool c.fb)∧W.cell? (ae b6 9)=some (c.set)∧W.cell? (ae b6 10)=some (c.words)):=al fun W n h=>h;have hC0:=hU.at _ ⟨HBS.k 0,HX.k 0,HBI.k 0,H6.k 0,H6.k 1,H6.k 2,H6.k 3,H6.k 4,H6.k 5,H6.k 6,H6.k 7,H6.k 8,H6.k 9,H6.k 10⟩;refine dw aj hU hC0 ?_;intro S;generalize w4.drew=u0 at *;refine ao S hU [0,1,2,3,4,5] 91 6 hC0 ?_;constructor
  ·intro W' hW';simp only[pick,List.filterMap,gq1,gq2,gq3];obtain⟨q0,q1,q2,q3,q4,q5,q6,q7,q8,q9,q10,q11,q12,q13⟩:=hW'
   repeat (go_big_quiet_step (fail))
   exact wpQuiet_nil rfl
  refine az S hU 6 5 rfl hC0 fun n0 K1 hK1=>?_;go_wp2_with fail;have lW1:=(HBS.o.drewN n0).lt;have lW2:=(HBI.o.drewN n0).lt;have HBW:=qh (below_drewN HB.o n0);refine(HBEG.o hnx (u0.drewN n0) HBW.o).mono ?_;rintro e W5 ⟨O,M,rfl,hs,hM,hq⟩;go_wp2_with fail;have HQ5:=qh hq;clear HB;have nb_X:X∉M:=fun h=>(hM X h).2.1 (by simp);have nb_Mp:Mp∉M:=fun h=>(hM Mp h).2.1 (by simp);have nb_tb:tb∉M:=fun h=>(hM tb h).2.1 (by simp);have nb_R:R∉M:=fun h=>(hM R h).2.1 (by simp);have nb_bs:bs∉M:=fun h=>absurd (hM bs h).1 (by omega);have nb_bi:bi∉M:=fun h=>absurd (hM bi h).1 (by omega);have nb_b6:b6∉M:=fun h=>absurd (hM b6 h).1 (by omega);have nb_ev:∀c,(.slice ea evs.length ec0:Value).ownBlock=some c→c∉M:=fun c hc h=>(hM c h).2.2 hc;have HQ:=qh (ab.refl (X::Mp::R::(.slice ea evs.length ec0:Value).ownBlock.toList) W5);revert H6 HEV HR HTB HM HBI HBS HX
  refine cm (ssm hs) ⟨nb_b6,nb_ev,nb_R,nb_tb,nb_Mp,nb_bi,nb_bs,nb_X,trivial⟩ ?_;intro H6 HEV HR HTB HM HBI HBS HX;have hC1:=hU.at _ ⟨HBS.k 0,HX.k 0,HBI.k 0,H6.k 0,H6.k 1,H6.k 2,H6.k 3,H6.k 4,H6.k 5,H6.k 6,H6.k 7,H6.k 8,H6.k 9,H6.k 10⟩;refine hK1 _ _ hC1 ?_;clear hK1 hC0;clear hs hM hq nb_X nb_Mp nb_tb nb_R nb_bs nb_bi nb_b6 nb_ev;refine ao S hU [7,8,9,10,11] 91 0 hC1 ?_;constructor
  ·intro W' hW';simp only[pick,List.filterMap,gq1,gq2,gq3];obtain⟨q0,q1,q2,q3,q4,q5,q6,q7,q8,q9,q10,q11,q12,q13⟩:=hW'
   repeat (go_big_quiet_step (fail))
   exact wpQuiet_nil rfl
  refine dd fun n9=>?_;revert HQ H6 HEV HR HTB HM HBI HBS HX;refine cq (sdw W5 n9) ?_;intro HQ H6 HEV HR HTB HM HBI HBS HX;clear S hU hC1;generalize W5.drewN n9=w5 at *;have ne_X_R:X≠R:=HX.o.ne HR.o (by decide);have ne_bs_R:bs≠R:=HBS.o.ne HR.o (by decide);have ne_bi_R:bi≠R:=HBI.o.ne HR.o (by decide);have ne_Mp_R:Mp≠R:=(HM.o.ne HR.o).symm;have ne_tb_R:tb≠R:=Row.ne_arr HTB.o HR.o (by decide);have ne_b6_R:b6≠R:=H6.o.ne HR.o (by decide);have ne_ev_R:=a6 HEV.o HR.o (by decide);have HXs:=qh (HX.o.ot ne_X_R 1 (ci ((nx:Int)+1)));have HBSs:=qh (HBS.o.ot ne_bs_R 1 (ci ((nx:Int)+1)));have HBIs:=qh (HBI.o.ot ne_bi_R 1 (ci ((nx:Int)+1)));have HMs:=qh (HM.o.same (sj R 1 (ci ((nx:Int)+1))) (nn ne_Mp_R));have HTBs:=qh (HTB.o.ot ne_tb_R 1 (ci ((nx:Int)+1)));have HRs:=qh ((HR.o.set 1 (ci ((nx:Int)+1))).to (cs':=#[zl cb nc cc,ci ((nx:Int)+1),dz0]) rfl)
  have HEVs:=qh (ai (HEV.o) (sj R 1 (ci ((nx:Int)+1))) (no1 ne_ev_R));have H6s:=qh (H6.o.ot ne_b6_R 1 (ci ((nx:Int)+1)));have HQs:=qh (HQ.o.sc R 1 (ci ((nx:Int)+1)));have hfz:=HR.o.free;have hcz:=HR.k 1;go_wp2_with fail;clear hfz hcz;clear HX HBS HBI HM HTB HR HEV H6 HQ;have HX:=HXs;have HBS:=HBSs;have HBI:=HBIs;have HM:=HMs;have HTB:=HTBs;have HR:=HRs;have HEV:=HEVs;have H6:=H6s;have HQ:=HQs;clear HXs HBSs HBIs HMs HTBs HRs HEVs H6s HQs;generalize (w5.setCell ⟨R,1,none⟩ (ci ((nx:Int)+1)))=w6 at *;revert HX;revert HBS;revert HBI;revert HM;revert HTB;revert HR;revert HEV;revert H6;revert HQ
  refine cq (sdz w6) ?_;intro HQ H6 HEV HR HTB HM HBI HBS HX;have hU:UD (fun W=>W.cell? (ae bs 0)=some (pt X)∧W.cell? (ae X 2)=some (.map (some Mp))∧W.cell? (ae X 3)=some (.slice ea evs.length ec0)∧W.cell? (ae bi 0)=some (ci i)):=al fun W n h=>h;have hC0:=hU.at _ ⟨HBS.k 0,HX.k 2,HX.k 3,HBI.k 0⟩;refine dw aj hU hC0 ?_;intro S;generalize w6.drew=u0 at *;refine ao S hU [0,1,2,3,4,5,6,7,8,9,10,11] 91 1 hC0 ?_;constructor
  ·intro W' hW';simp only[pick,List.filterMap,gq1,gq2,gq3];obtain⟨q0,q1,q2,q3⟩:=hW'
   repeat (go_big_quiet_step (fail))
   exact wpQuiet_nil rfl
  refine az S hU 12 0 rfl hC0 fun n0 K1 hK1=>?_;refine ly rfl _ _ _ 66 rfl 3 101 (Maps.int_keyed Tryz.underlying3) Tryz.underlying66 Mp nm fm rfl (HM.o.drewN n0) (by unfold maxLen;omega) (ci (i:Int)) (.agg #[pt O,ci evs.length,zn]) (ig (i:Int)) rfl rfl (jd _ hiw) ?_;intro W5x hm5 hs5;have nb_X:X∉[Mp]:=by simpa using (HM.o.drewN n0).ne (HX.o.drewN n0)
  have nb_bs:bs∉[Mp]:=by simpa using (HM.o.drewN n0).ne (HBS.o.drewN n0)
  have nb_bi:bi∉[Mp]:=by simpa using (HM.o.drewN n0).ne (HBI.o.drewN n0)
  have nb_b6:b6∉[Mp]:=by simpa using (HM.o.drewN n0).ne (H6.o.drewN n0)
  have nb_R:R∉[Mp]:=by simpa using (HM.o.drewN n0).ne (HR.o.drewN n0)
  have nb_tb:tb∉[Mp]:=by simpa using (HM.o.drewN n0).ne_arr (HTB.o.drewN n0)
  have nb_ev:∀c,(.slice ea evs.length ec0:Value).ownBlock=some c→c∉[Mp]:=fun c hc h=>by
   simp only[List.mem_singleton] at h;subst h;exact lu (ai HEV.o (sdn n0) nm0) (HM.o.drewN n0) hc
  conv in (Act.put _ _ _)=>arg 2;whnf
  simp only[Act.put];go_wp2_with fail;replace HM:=qh hm5;revert HQ H6 HEV HR HTB HBI HBS HX;refine cm (ssm hs5) ⟨(fun y hy _=>by simp at hy ⊢;first|omega|simp[hy]),nb_b6,nb_ev,nb_R,nb_tb,nb_bi,nb_bs,nb_X,trivial⟩ ?_;intro HQ H6 HEV HR HTB HBI HBS HX;have hC1:=hU.at _ ⟨HBS.k 0,HX.k 2,HX.k 3,HBI.k 0⟩;refine hK1 _ _ hC1 ?_;clear hK1 hC0;clear hm5 hs5 nb_X nb_bs nb_bi nb_b6 nb_R nb_tb nb_ev;refine dd fun n9=>?_;revert HM HQ H6 HEV HR HTB HBI HBS HX;refine cq (sdw W5x n9) ?_;intro HM HQ H6 HEV HR HTB HBI HBS HX;clear S hU hC1;generalize W5x.drewN n9=w7 at *;go_wp2_with fail;revert HX;revert HBS;revert HBI;revert HM;revert HTB;revert HR;revert HEV;revert H6;revert HQ
  refine cq (sdz w7) ?_;intro HQ H6 HEV HR HTB HM HBI HBS HX;have hU:UD (fun W=>W.cell? (ae bs 0)=some (pt X)∧W.cell? (ae X 3)=some (.slice ea evs.length ec0)∧W.cell? (ae X 4)=some (ci tm)∧W.cell? (ae bi 0)=some (ci i)∧W.cell? (ae b6 0)=some (ci c.kd)∧W.cell? (ae b6 1)=some (ci c.tp)∧W.cell? (ae b6 2)=some (ci c.sb)∧W.cell? (ae b6 3)=some (ci c.cp)∧W.cell? (ae b6 4)=some (ci c.rk)∧W.cell? (ae b6 5)=some (ci c.sr)∧W.cell? (ae b6 6)=some (ci c.mo)∧W.cell? (ae b6 7)=some (ci c.fl)∧W.cell? (ae b6 8)=some (.bool c.fb)∧W.cell? (ae b6 9)=some (c.set)∧W.cell? (ae b6 10)=some (c.words)):=al fun W n h=>h;have hC0:=hU.at _ ⟨HBS.k 0,HX.k 3,HX.k 4,HBI.k 0,H6.k 0,H6.k 1,H6.k 2,H6.k 3,H6.k 4,H6.k 5,H6.k 6,H6.k 7,H6.k 8,H6.k 9,H6.k 10⟩;refine dw aj hU hC0 ?_;intro S;generalize w7.drew=u0 at *;refine ao S hU [0,1,2,3,4,5,6,7,8,9,10,11,12] 91 5 hC0 ?_;constructor
  ·intro W' hW';simp only[pick,List.filterMap,gq1,gq2,gq3];obtain⟨q0,q1,q2,q3,q4,q5,q6,q7,q8,q9,q10,q11,q12,q13,q14⟩:=hW'
   repeat (go_big_quiet_step (fail))
   exact wpQuiet_nil rfl
  refine az S hU 13 4 rfl hC0 fun n0 K1 hK1=>?_;go_wp2_with fail;have ne_X_nb:X≠(u0.drewN n0).heap.size:=nnl (HX.o.drewN n0).lt;have ne_nb_X:=ne_X_nb.symm;have ne_bs_nb:bs≠(u0.drewN n0).heap.size:=nnl (HBS.o.drewN n0).lt;have ne_nb_bs:=ne_bs_nb.symm;have ne_bi_nb:bi≠(u0.drewN n0).heap.size:=nnl (HBI.o.drewN n0).lt;have ne_nb_bi:=ne_bi_nb.symm;have ne_Mp_nb:Mp≠(u0.drewN n0).heap.size:=nnl (HM.o.drewN n0).lt;have ne_nb_Mp:=ne_Mp_nb.symm;have ne_tb_nb:tb≠(u0.drewN n0).heap.size:=nnl (HTB.o.drewN n0).lt;have ne_nb_tb:=ne_tb_nb.symm;have ne_R_nb:R≠(u0.drewN n0).heap.size:=nnl (HR.o.drewN n0).lt;have ne_nb_R:=ne_R_nb.symm;have ne_b6_nb:b6≠(u0.drewN n0).heap.size:=nnl (H6.o.drewN n0).lt;have ne_nb_b6:=ne_b6_nb.symm
  have HLIT:=qh (jo (w:=(u0.drewN n0)) (cs:=#[ci i,ci c.kd,ci c.tp,ci c.sb,ci c.cp,ci c.rk,ci c.sr,ci c.mo,ci c.fl,.bool c.fb,c.set,c.words,ci 0,ci 0,cu 0,ci 0,cu 0,ci 0,ci 0,.bool false,ci 0,cu 0,zn,zn,ci ((tm:Int)+1),ci 0,ci 0]) (t:=47) rfl);have HN:=qh (Row.new (u0.drewN n0) 47 #[ci i,ci c.kd,ci c.tp,ci c.sb,ci c.cp,ci c.rk,ci c.sr,ci c.mo,ci c.fl,.bool c.fb,c.set,c.words,ci 0,ci 0,cu 0,ci 0,cu 0,ci 0,ci 0,.bool false,ci 0,cu 0,zn,zn,ci ((tm:Int)+1),ci 0,ci 0]);revert HQ H6 HEV HR HTB HM HBI HBS HX;refine cq (sal u0 n0 (.cells #[ci i,ci c.kd,ci c.tp,ci c.sb,ci c.cp,ci c.rk,ci c.sr,ci c.mo,ci c.fl,.bool c.fb,c.set,c.words,ci 0,ci 0,cu 0,ci 0,cu 0,ci 0,ci 0,.bool false,ci 0,cu 0,zn,zn,ci ((tm:Int)+1),ci 0,ci 0] 47)) ?_;intro HQ H6 HEV HR HTB HM HBI HBS HX;have hC1:=hU.at _ ⟨HBS.k 0,HX.k 3,HX.k 4,HBI.k 0,H6.k 0,H6.k 1,H6.k 2,H6.k 3,H6.k 4,H6.k 5,H6.k 6,H6.k 7,H6.k 8,H6.k 9,H6.k 10⟩
  refine hK1 _ _ hC1 ?_;clear hK1 hC0;have hzN:(u0.drewN n0).heap.size=u0.heap.size:=rfl;simp only[hzN] at *;clear hzN;generalize u0.heap.size=nb at *;generalize ((u0.drewN n0).alloc (.cells #[ci i,ci c.kd,ci c.tp,ci c.sb,ci c.cp,ci c.rk,ci c.sr,ci c.mo,ci c.fl,.bool c.fb,c.set,c.words,ci 0,ci 0,cu 0,ci 0,cu 0,ci 0,ci 0,.bool false,ci 0,cu 0,zn,zn,ci ((tm:Int)+1),ci 0,ci 0] 47))=u1 at *;clear HN;refine az S hU 14 3 rfl hC1 fun n1 K1 hK1=>?_;obtain⟨i0,hi0,hz0,hz1,hz2⟩:=info_parts b5q
  refine wpList_append_own_at _ rfl _ _ 29 rfl 0 47 i0 _ 27 280 Tryz.underlying29 hi0 hz0 hz1 hz2 rfl (by decide) (.slice ea evs.length ec0) evs.length (evs.flatMap EvC.enc) rfl (ai HEV.o (sdn n1) nm0) ⟨nb,0,none⟩ 1 1 (#[ci i,ci c.kd,ci c.tp,ci c.sb,ci c.cp,ci c.rk,ci c.sr,ci c.mo,ci c.fl,.bool c.fb,c.set,c.words,ci 0,ci 0,cu 0,ci 0,cu 0,ci 0,ci 0,.bool false,ci 0,cu 0,zn,zn,ci ((tm:Int)+1),ci 0,ci 0]).toList rfl rfl (fun j u h=>HLIT.o j u h) (fun u hu=>c9n (i:=i) (now:=tm+1) hone1 hone2 u hu) (by unfold maxLen;omega) (by omega) (Nat.zero_le _) ?_;intro v9 wv9 hown9 hgrow9 _ hblk9;obtain⟨gv9,cv9,rfl⟩:=gl hown9;have hs9:=ab.grown' hgrow9;clear hgrow9;have nb_X:X∉(.slice ea evs.length ec0:Value).ownBlock.toList:=ck (ai HEV.o (sdn n1) nm0) (HX.o.drewN n1) (by decide)
  have nb_bs:bs∉(.slice ea evs.length ec0:Value).ownBlock.toList:=ck (ai HEV.o (sdn n1) nm0) (HBS.o.drewN n1) (by decide);have nb_b6:b6∉(.slice ea evs.length ec0:Value).ownBlock.toList:=ck (ai HEV.o (sdn n1) nm0) (H6.o.drewN n1) (by decide);have nb_R:R∉(.slice ea evs.length ec0:Value).ownBlock.toList:=ck (ai HEV.o (sdn n1) nm0) (HR.o.drewN n1) (by decide);have nb_bi:bi∉(.slice ea evs.length ec0:Value).ownBlock.toList:=ck (ai HEV.o (sdn n1) nm0) (HBI.o.drewN n1) (by decide);have nb_tb:tb∉(.slice ea evs.length ec0:Value).ownBlock.toList:=jk (ai HEV.o (sdn n1) nm0) (HTB.o.drewN n1) (by decide);have nb_Mp:Mp∉(.slice ea evs.length ec0:Value).ownBlock.toList:=fun h=>lu (ai HEV.o (sdn n1) nm0) (HM.o.drewN n1) (by simpa using h);go_wp2_with fail
  have HBLK:Hd ((.slice ea evs.length ec0:Value).ownBlock=some gv9∨W5.heap.size≤gv9):=qh (by
   rcases hblk9 with e|e
   ·exact Or.inl e.symm
   ·cases e;exact Or.inr ((HQ.o.drewN n1).size))
  replace HEV:=qh hown9;revert HQ H6 HR HTB HM HBI HBS HX;refine cm (ssm hs9) ⟨(fun y hy _=>by simp at hy ⊢;first|omega|simp[hy]),nb_b6,nb_R,nb_tb,nb_Mp,nb_bi,nb_bs,nb_X,trivial⟩ ?_;intro HQ H6 HR HTB HM HBI HBS HX;have hC2:=hU.at _ ⟨HBS.k 0,HX.k 3,HX.k 4,HBI.k 0,H6.k 0,H6.k 1,H6.k 2,H6.k 3,H6.k 4,H6.k 5,H6.k 6,H6.k 7,H6.k 8,H6.k 9,H6.k 10⟩;refine hK1 _ _ hC2 ?_;clear hK1 hC1;clear hs9 hown9 hblk9;have ne_v9_X:=a6 HEV.o HX.o (by decide);have ne_bs_X:bs≠X:=HBS.o.ne HX.o (by decide);have ne_bi_X:bi≠X:=HBI.o.ne HX.o (by decide);have ne_b6_X:b6≠X:=H6.o.ne HX.o (by decide);have ne_R_X:R≠X:=HR.o.ne HX.o (by decide);have ne_Mp_X:Mp≠X:=(HM.o.ne HX.o).symm;have ne_tb_X:tb≠X:=Row.ne_arr HTB.o HX.o (by decide);refine ao S hU [15,16] 91 1 hC2 ?_;constructor
  ·intro W' hW';simp only[pick,List.filterMap,gq1,gq2,gq3];obtain⟨q0,q1,q2,q3,q4,q5,q6,q7,q8,q9,q10,q11,q12,q13,q14⟩:=hW'
   repeat (go_big_quiet_step (fail))
   exact wpQuiet_nil rfl
  refine ti S hU 17 rfl hC2 fun n2 K1 hK1=>?_;have hfz:=(HX.o.drewN n2).free;have hcw:=(HX.o.drewN n2).k 3;go_wp2_with fail;clear hfz hcw;replace HX:=qh (((HX.o.drewN n2).set 3 (zl gv9 (evs.length+1) cv9)).to (cs':=#[pt V,zl tb nt tcap,.map (some Mp),zl gv9 (evs.length+1) cv9,ci tm]) rfl);revert HEV HQ H6 HR HTB HM HBI HBS;refine cm (sst wv9 n2 X 3 (zl gv9 (evs.length+1) cv9)) ⟨no1 ne_v9_X,mm (by simp),nn ne_b6_X,nn ne_R_X,nn ne_tb_X,nn ne_Mp_X,nn ne_bi_X,nn ne_bs_X,trivial⟩ ?_;intro HEV HQ H6 HR HTB HM HBI HBS;refine hK1 _ _ ?_;clear hK1 hC2;generalize ((wv9.drewN n2).setCell ⟨X,3,none⟩ (zl gv9 (evs.length+1) cv9))=u3 at *;refine dd fun n9=>?_;revert HX HEV HQ H6 HR HTB HM HBI HBS;refine cq (sdw u3 n9) ?_;intro HX HEV HQ H6 HR HTB HM HBI HBS;clear S hU;generalize u3.drewN n9=w8 at *;have ne_v9_R:=a6 HEV.o HR.o (by decide)
  have HXs:=qh (HX.o.ot ne_X_R 2 (.func (.func 30) #[] #[pt bs,pt bi]));have HBSs:=qh (HBS.o.ot ne_bs_R 2 (.func (.func 30) #[] #[pt bs,pt bi]));have HBIs:=qh (HBI.o.ot ne_bi_R 2 (.func (.func 30) #[] #[pt bs,pt bi]));have HMs:=qh (HM.o.same (sj R 2 (.func (.func 30) #[] #[pt bs,pt bi])) (nn ne_Mp_R));have HTBs:=qh (HTB.o.ot ne_tb_R 2 (.func (.func 30) #[] #[pt bs,pt bi]));have HRs:=qh ((HR.o.set 2 (.func (.func 30) #[] #[pt bs,pt bi])).to (cs':=#[zl cb nc cc,ci ((nx:Int)+1),.func (.func 30) #[] #[pt bs,pt bi]]) rfl);have HEVs:=qh (ai (HEV.o) (sj R 2 (.func (.func 30) #[] #[pt bs,pt bi])) (no1 ne_v9_R));have H6s:=qh (H6.o.ot ne_b6_R 2 (.func (.func 30) #[] #[pt bs,pt bi]));have HQs:=qh (HQ.o.sc R 2 (.func (.func 30) #[] #[pt bs,pt bi]));have hfz:=HR.o.free;have s0:=HBSs.k 0;have s1:=HBIs.k 0;have hcz:=HR.k 2;go_wp2_with fail;clear hfz hcz s0 s1;clear HX HBS HBI HM HTB HR HEV H6 HQ
  have HX:=HXs;have HBS:=HBSs;have HBI:=HBIs;have HM:=HMs;have HTB:=HTBs;have HR:=HRs;have HEV:=HEVs;have H6:=H6s;have HQ:=HQs;clear HXs HBSs HBIs HMs HTBs HRs HEVs H6s HQs;generalize (w8.setCell ⟨R,2,none⟩ (.func (.func 30) #[] #[pt bs,pt bi]))=w9 at *
  have hEA:w9.ownsRow 0 47 27 (zl gv9 (evs.length+1) cv9) (evs++[c.ev i (tm+1)]).length ((evs++[c.ev i (tm+1)]).flatMap EvC.enc):=by
   rw[List.flatMap_append,List.length_append];exact HEV.o
  obtain⟨eg,ec,e9,-,hc1,hc2,hA⟩:=ff.of_own (E:=47) hEA rfl (by simp)
  have e10:gv9=eg∧cv9=ec:=by
   simp only[Value.slice.injEq,Option.some.injEq,Addr.mk.injEq] at e9;exact⟨e9.1.1,e9.2.2⟩
  obtain⟨e10,e11⟩:=e10;subst e10;subst e11;rw[List.length_append,List.length_singleton] at hc1;clear e9;have HEA:=qh hA;clear hEA hA;refine(HST.o _ W5 w9 O HQ5.o ⟨gv9,cv9,bs,bi,_,HBW.o,HQ.o,fun x hx=>?_,HX.o,HEA.o,hc1,hc2,HBLK.o,HM.o,lo_bs,lo_bi,lW1,lW2,HR.o,HBS.o,HBI.o⟩).mono ?_
  ·simp only[List.mem_cons] at hx;rcases hx with e|e|e|e
   ·exact Or.inl (by simp[e])
   ·exact Or.inl (by simp[e])
   ·exact Or.inl (by simp[e])
   ·exact Or.inr (by simpa using e)
  intro e w_ hp;have he:=hP _ _ hp;subst he;go_wp2_with fail;go_ret;exact Or.inr hp
 ·have hd:(nc:Int)≤nx:=by omega
  go_wp2_with fail;go_ret;exact Or.inl ⟨rfl,by omega,HB.o⟩
end Go.Proofs.YtojkaibpfdhmaaaGreatDoor

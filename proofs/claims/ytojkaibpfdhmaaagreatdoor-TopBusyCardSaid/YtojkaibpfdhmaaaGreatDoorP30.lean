/- How Poll begins. -/
import Derived.Test.YtojkaibpfdhmaaaGreatDoorP16
import Derived.Test.YtojkaibpfdhmaaaGreatDoorP28
import Derived.Test.YtojkaibpfdhmaaaGreatDoorP29
import Derived.Test.YtojkaibpfdhmaaaGreatDoorP26
namespace Go.Proofs.YtojkaibpfdhmaaaGreatDoor
open Go.RowKit
set_option maxRecDepth 100000
set_option maxHeartbeats 16000000
def ro(W:World)(T:Nat→Prop)(O:Nat)(s:am)(fv:Value):Prop:=
 ∃ba bo bp bs,fv=.func (.func 116) #[] #[pt ba,pt bo]∧T ba∧T bo∧T bp∧T bs∧Row W ba 107 #[.func (.func 83) #[] #[pt bp,pt bs]]∧Row W bo 95 #[pt O]∧Row W bp 95 #[pt O]∧Row W bs 112 s.cells
def c5r(nsub:Nat)(W:World)(T:Nat→Prop)(O:Nat)(s:am)(fv:Value):Prop:=RefF W T O fv∨(nsub<8∧ro W T O s fv)
theorem d0p(w:World)(O V i:Nat)(v:dg)(o:OpC)(s:am)(hs:s.Ok)(ows:List Own)(ow:Own)(sl:List Sub)(hr:Row w O 122 (o.cells V v.Y i))(hy:f7 w v.Y ows)(hi:ows[i]?=some ow)(ho:w.ownsRow 0 170 6 ow.sv sl.length (sl.flatMap Sub.enc)):Calls Tryz.prog 53 #[pt O,.agg s.cells] w fun e w'=>∃fv k,e=.returned (.tuple #[fv,ci k])∧Below w.heap.size w w'∧c5r sl.length w' (fun b=>w.heap.size≤b) O s fv:=by
 obtain⟨kd,tp,sb,cp,rk,sr,mo,fl,fb,se,wy,nx,en,co,su,ge,cn,lo,⟨zm,zs,zh,zf,ze⟩,gv,av,st,at_⟩:=o;obtain⟨T,tr,lg,tv,G,k,gk,sz,B,Y,yk⟩:=v;obtain⟨om,sv,oop⟩:=ow;simp only at ho;obtain⟨sa,sc,rfl⟩:=ax ho;simp only[OpC.cells,am.cells] at *;have hd1:=hs.d1;have hd2:=hs.d2;have HB:=qh (brf w);have H2:=qh ((Row.new w 95 #[pt O]).alloc (.cells #[ci s.own,ci s.seq,ci s.first,ci s.words,ci s.depth] 112));have h3:=Row.new (w.alloc (.cells #[pt O] 95)) 112 #[ci s.own,ci s.seq,ci s.first,ci s.words,ci s.depth];have hz:(w.alloc (.cells #[pt O] 95)).heap.size=w.heap.size+1:=by simp
 rw[hz] at h3;have H3:=qh h3;have HR:=qh hr;have HY:=qh hy;revert HB;revert HR;revert HY
 refine cq (sa2 w (.cells #[pt O] 95) (.cells #[ci s.own,ci s.seq,ci s.first,ci s.words,ci s.depth] 112)) ?_;intro HY HR HB;have HI:=qh hi;clear hr hy hi ho h3 hz;have es:(s.depth:Int)-1=((s.depth-1:Nat):Int):=by omega
 go_enter Tryz.func53,Tryz.ntmps53
 go_wp2_with fail;generalize hbo':w.heap.size=bo at H2 H3 ⊢;have hbo:w.heap.size≤bo:=by omega
 generalize hbs':bo+1=bs at H3 ⊢;generalize (w.alloc (.cells #[pt O] 95)).alloc (.cells #[ci s.own,ci s.seq,ci s.first,ci s.words,ci s.depth] 112)=wx at *;by_cases hcd:(s.depth:Int)-1<cp
 ·have HBz:=qh (below_drewN HB.o 1);have hd1:wx.drewN 1=wx.drew:=rfl;rw[hd1] at HBz;clear hd1 HB;revert HR;revert H2;revert H3;revert HY
  refine cq (sdz wx) ?_;intro HY H3 H2 HR;have hU:UD (fun W=>W.cell? (ae bo 0)=some (pt O)∧W.cell? (ae O 6)=some (ci cp)∧W.cell? (ae bs 4)=some (ci s.depth)):=al fun W n h=>h;have hC0:=hU.at _ ⟨H2.k 0,HR.k 6,H3.k 4⟩;refine dw aj hU hC0 ?_;intro S;generalize wx.drew=u0 at *;refine ao S hU [0,1,2,3,4,5,6,7,8,9] 39 0 hC0 ?_;constructor
  ·intro W' hW';simp only[pick,List.filterMap,gq1,gq2,gq3];obtain⟨q0,q1,q2⟩:=hW'
   repeat (go_big_quiet_step (fail))
   exact wpQuiet_nil rfl
  refine dd fun n9=>?_;revert HY H3 H2 HR;refine cq (sdw u0 n9) ?_;intro HY H3 H2 HR;clear S hU hC0;have HB:=qh (below_drewN HBz.o n9);clear HBz;generalize u0.drewN n9=w2 at *;have co:=H2.k 0
  go_wp2_with (first|(go_at_call 47;refine(fy _ _ _).mono ?_;rintro e w_ ⟨rfl,hb,hr1,hr2⟩))
  go_ret2
  exact⟨_,1,rfl,bt HB.o hb,Or.inl ⟨_,⟨by constructor<;>decide,by decide⟩,_,_,rfl,nlt HB.o.size (Nat.le_succ _),HB.o.size,hr2,hr1⟩⟩
 ·have HBz:=qh (below_drewN HB.o 1);have hd1:wx.drewN 1=wx.drew:=rfl;rw[hd1] at HBz;clear hd1 HB;revert HR;revert H2;revert H3;revert HY
  refine cq (sdz wx) ?_;intro HY H3 H2 HR;have hU:UD (fun W=>W.cell? (ae bo 0)=some (pt O)∧W.cell? (ae O 6)=some (ci cp)∧W.cell? (ae bs 4)=some (ci s.depth)):=al fun W n h=>h;have hC0:=hU.at _ ⟨H2.k 0,HR.k 6,H3.k 4⟩;refine dw aj hU hC0 ?_;intro S;generalize wx.drew=u0 at *;refine ao S hU [0,1,2,3,4,5,6,7,8,9] 39 0 hC0 ?_;constructor
  ·intro W' hW';simp only[pick,List.filterMap,gq1,gq2,gq3];obtain⟨q0,q1,q2⟩:=hW'
   repeat (go_big_quiet_step (fail))
   exact wpQuiet_nil rfl
  refine dd fun n9=>?_;revert HY H3 H2 HR;refine cq (sdw u0 n9) ?_;intro HY H3 H2 HR;clear S hU hC0;have HB:=qh (below_drewN HBz.o n9);clear HBz;generalize u0.drewN n9=w2 at *;have co:=H2.k 0;have c1:=HR.k 1;have c2:=(f7.c HY.o HI.o).2.1;by_cases h8:8≤sl.length
  ·have h8':(8:Int)≤sl.length:=by omega
   go_wp2_with (first|(go_at_call 47;refine(fy _ _ _).mono ?_;rintro e w_ ⟨rfl,hb,hr1,hr2⟩))
   go_ret2
   exact⟨_,1,rfl,bt HB.o hb,Or.inl ⟨_,⟨by constructor<;>decide,by decide⟩,_,_,rfl,nlt HB.o.size (Nat.le_succ _),HB.o.size,hr2,hr1⟩⟩
  ·have h8':¬ (8:Int)≤sl.length:=by omega
   go_wp2_with (first|(go_at_call 62;refine(b5n _ _ 83 #[pt bo,pt bs]).mono ?_;rintro e w_ ⟨rfl,hb,hr1,hr2⟩))
   go_ret2
   exact⟨_,1,rfl,bt HB.o hb,Or.inr ⟨by omega,_,_,bo,bs,rfl,nlt HB.o.size (Nat.le_succ _),HB.o.size,hbo,by omega,hr2,hr1,H2.o.bel hb,H3.o.bel hb⟩⟩
def rp(W:World)(T:Nat→Prop)(O:Nat)(x:Sub)(fv:Value):Prop:=
 ∃ba bo bp bx,fv=.func (.func 116) #[] #[pt ba,pt bo]∧T ba∧T bo∧T bp∧T bx∧Row W ba 107 #[.func (.func 95) #[] #[pt bp,pt bx]]∧Row W bo 95 #[pt O]∧Row W bp 95 #[pt O]∧Row W bx 170 #[ci x.topic,ci x.rank,cu x.cur.next,ci x.cur.cap,cu x.cur.got,cu x.cur.lost]
def c5s(sl:List Sub)(W:World)(T:Nat→Prop)(O:Nat)(fv:Value):Prop:=RefF W T O fv∨(∃x∈sl,rp W T O x fv)
theorem d0q(w:World)(O V i:Nat)(v:dg)(o:OpC)(ows:List Own)(ow:Own)(sl:List Sub)(hr:Row w O 122 (o.cells V v.Y i))(hy:f7 w v.Y ows)(hi:ows[i]?=some ow)(ho:w.ownsRow 0 170 6 ow.sv sl.length (sl.flatMap Sub.enc))(hl:sl.length≤8):Calls Tryz.prog 55 #[pt O] w fun e w'=>∃fv k,e=.returned (.tuple #[fv,ci k])∧Below w.heap.size w w'∧c5s sl w' (fun b=>w.heap.size≤b) O fv:=by
 obtain⟨kd,tp,sb,cp,rk,sr,mo,fl,fb,se,wy,nx,en,co,su,ge,cn,lo,⟨zm,zs,zh,zf,ze⟩,gv,av,st,at_⟩:=o;obtain⟨T,tr,lg,tv,G,k,gk,sz,B,Y,yk⟩:=v;obtain⟨om,sv,oop⟩:=ow;simp only at ho;obtain⟨sa,sc,rfl⟩:=ax ho;simp only[OpC.cells] at *;have HB:=qh (brf w);have H2:=qh (Row.new w 95 #[pt O]);have HR:=qh hr;have HY:=qh hy;revert HB;revert HR;revert HY
 refine cq (sa1 w (.cells #[pt O] 95)) ?_;intro HY HR HB;have HO:=qh (jb ho ((Below.refl _ w).alloc (nlr _) (.cells #[pt O] 95)));have HI:=qh hi;clear hr hy hi ho
 go_enter Tryz.func55,Tryz.ntmps55
 go_wp2_with fail;generalize hbo':w.heap.size=bo at H2 ⊢;have hbo:w.heap.size≤bo:=by omega
 generalize w.alloc (.cells #[pt O] 95)=wx at *;by_cases h0:sb<0
 ·have h0d:decide (sb<0)=true:=dqt h0;have HBz:=qh (below_drewN HB.o 1);have hd1:wx.drewN 1=wx.drew:=rfl;rw[hd1] at HBz;clear hd1 HB;revert HR;revert H2;revert HY;revert HO
  refine cq (sdz wx) ?_;intro HO HY H2 HR;have hU:UD (fun W=>W.cell? (ae bo 0)=some (pt O)∧W.cell? (ae O 1)=some (.pointer (some ⟨Y,i*3,none⟩))∧W.cell? (ae O 5)=some (ci sb)∧W.cell? (ae Y (i*3+1))=some (.slice sa sl.length sc)):=al fun W n h=>h;have hC0:=hU.at _ ⟨H2.k 0,HR.k 1,HR.k 5,(f7.c HY.o HI.o).2.1⟩;refine dw aj hU hC0 ?_;intro S;generalize wx.drew=u0 at *;refine ao S hU [0,1,2,3,4,5,6,7,8,9,10,11,12,13,14,15,16,17,18,19,20,21] 50 0 hC0 ?_;constructor
  ·intro W' hW';simp only[pick,List.filterMap,gq1,gq2,gq3];obtain⟨q0,q1,q2,q3⟩:=hW'
   repeat (go_big_quiet_step (fail))
   exact wpQuiet_nil rfl
  refine dd fun n9=>?_;revert HO HY H2 HR;refine cq (sdw u0 n9) ?_;intro HO HY H2 HR;clear S hU hC0;have HB:=qh (below_drewN HBz.o n9);clear HBz;generalize u0.drewN n9=w2 at *;have co:=H2.k 0
  go_wp2_with (first|(go_at_call 47;refine(fy _ _ _).mono ?_;rintro e w_ ⟨rfl,hb,hr1,hr2⟩))
  go_ret2
  exact⟨_,1,rfl,bt HB.o hb,Or.inl ⟨_,⟨by constructor<;>decide,by decide⟩,_,_,rfl,nlt HB.o.size (Nat.le_succ _),HB.o.size,hr2,hr1⟩⟩
 ·have h0d:decide (sb<0)=false:=dqf h0;by_cases h1:(sl.length:Int)≤sb
  ·have h1d:decide ((sl.length:Int)≤sb)=true:=dqt h1;have HBz:=qh (below_drewN HB.o 1);have hd1:wx.drewN 1=wx.drew:=rfl;rw[hd1] at HBz;clear hd1 HB;revert HR;revert H2;revert HY;revert HO
   refine cq (sdz wx) ?_;intro HO HY H2 HR;have hU:UD (fun W=>W.cell? (ae bo 0)=some (pt O)∧W.cell? (ae O 1)=some (.pointer (some ⟨Y,i*3,none⟩))∧W.cell? (ae O 5)=some (ci sb)∧W.cell? (ae Y (i*3+1))=some (.slice sa sl.length sc)):=al fun W n h=>h;have hC0:=hU.at _ ⟨H2.k 0,HR.k 1,HR.k 5,(f7.c HY.o HI.o).2.1⟩;refine dw aj hU hC0 ?_;intro S;generalize wx.drew=u0 at *;refine ao S hU [0,1,2,3,4,5,6,7,8,9,10,11,12,13,14,15,16,17,18,19,20,21] 50 0 hC0 ?_;constructor
   ·intro W' hW';simp only[pick,List.filterMap,gq1,gq2,gq3];obtain⟨q0,q1,q2,q3⟩:=hW'
    repeat (go_big_quiet_step (fail))
    exact wpQuiet_nil rfl
   refine dd fun n9=>?_;revert HO HY H2 HR;refine cq (sdw u0 n9) ?_;intro HO HY H2 HR;clear S hU hC0;have HB:=qh (below_drewN HBz.o n9);clear HBz;generalize u0.drewN n9=w2 at *;have co:=H2.k 0
   go_wp2_with (first|(go_at_call 47;refine(fy _ _ _).mono ?_;rintro e w_ ⟨rfl,hb,hr1,hr2⟩))
   go_ret2
   exact⟨_,1,rfl,bt HB.o hb,Or.inl ⟨_,⟨by constructor<;>decide,by decide⟩,_,_,rfl,nlt HB.o.size (Nat.le_succ _),HB.o.size,hr2,hr1⟩⟩
  ·have h1d:decide ((sl.length:Int)≤sb)=false:=dqf h1;have HBz:=qh (below_drewN HB.o 1);have hd1:wx.drewN 1=wx.drew:=rfl;rw[hd1] at HBz;clear hd1 HB;revert HR;revert H2;revert HY;revert HO
   refine cq (sdz wx) ?_;intro HO HY H2 HR;have hU:UD (fun W=>W.cell? (ae bo 0)=some (pt O)∧W.cell? (ae O 1)=some (.pointer (some ⟨Y,i*3,none⟩))∧W.cell? (ae O 5)=some (ci sb)∧W.cell? (ae Y (i*3+1))=some (.slice sa sl.length sc)):=al fun W n h=>h;have hC0:=hU.at _ ⟨H2.k 0,HR.k 1,HR.k 5,(f7.c HY.o HI.o).2.1⟩;refine dw aj hU hC0 ?_;intro S;generalize wx.drew=u0 at *;refine ao S hU [0,1,2,3,4,5,6,7,8,9,10,11,12,13,14,15,16,17,18,19,20,21] 50 0 hC0 ?_;constructor
   ·intro W' hW';simp only[pick,List.filterMap,gq1,gq2,gq3];obtain⟨q0,q1,q2,q3⟩:=hW'
    repeat (go_big_quiet_step (fail))
    exact wpQuiet_nil rfl
   refine dd fun n9=>?_;revert HO HY H2 HR;refine cq (sdw u0 n9) ?_;intro HO HY H2 HR;clear S hU hC0;have HB:=qh (below_drewN HBz.o n9);clear HBz;generalize u0.drewN n9=w2 at *;have co:=H2.k 0;obtain⟨q,rfl⟩:∃q:Nat,sb=q:=⟨sb.toNat,by omega⟩;have hql:q<sl.length:=by omega
   have hx:sl[q]?=some sl[q]:=cz hql;have hmem:sl[q]∈sl:=List.getElem_mem hql;generalize sl[q]=x at hx hmem;have h0':(q:Int)<sl.length:=by omega
   obtain⟨aS,cS,e,-,hcS,hSU⟩:=Arr.of_own (E:=170) HO.o rfl (by omega);cases e;have HSU:Hd (eu w2 aS sl):=qh hSU;have HX:=qh hx;clear hSU HO hx h0d h1d h0 h1;go_wp2_with fail;have hszw:=HB.o.size;have lt_O:O<w2.heap.size:=HR.o.lt;have lt_bo:bo<w2.heap.size:=H2.o.lt;have lt_Y:Y<w2.heap.size:=HY.o.lt;have lt_aS:aS<w2.heap.size:=HSU.o.lt;have HBL:=qh (brf w2);revert HR;revert H2;revert HY;revert HSU;revert HBL
   refine cq (sdz w2) ?_;intro HBL HSU HY H2 HR;have hU:Ups (fun W W'=>∃g:ag W,W'=g.to) (fun W=>Below w2.heap.size w2 W∧W.cell? (ae bo 0)=some (pt O)∧W.cell? (ae O 1)=some (.pointer (some ⟨Y,i*3,none⟩))∧W.cell? (ae O 5)=some (ci (q:Int))∧W.cell? (ae Y (i*3+1))=some (zl aS sl.length sc)∧W.cell? (ae aS (q*6))=some (ci x.topic)∧W.cell? (ae aS (q*6+1))=some (ci x.rank)∧W.cell? (ae aS (q*6+2))=some (cu x.cur.next)∧W.cell? (ae aS (q*6+3))=some (ci x.cur.cap)∧W.cell? (ae aS (q*6+4))=some (cu x.cur.got)∧W.cell? (ae aS (q*6+5))=some (cu x.cur.lost)):=dj fun h hb=>⟨bt h.1 hb,ak h.2.1 hb,ak h.2.2.1 hb,ak h.2.2.2.1 hb,ak h.2.2.2.2.1 hb,ak h.2.2.2.2.2.1 hb,ak h.2.2.2.2.2.2.1 hb,ak h.2.2.2.2.2.2.2.1 hb,ak h.2.2.2.2.2.2.2.2.1 hb,ak h.2.2.2.2.2.2.2.2.2.1 hb,ak h.2.2.2.2.2.2.2.2.2.2 hb⟩
   have hC0:=hU.at _ ⟨HBL.o,H2.k 0,HR.k 1,HR.k 5,(f7.c HY.o HI.o).2.1,(eu.c HSU.o HX.o).1,(eu.c HSU.o HX.o).2.1,(eu.c HSU.o HX.o).2.2.1,(eu.c HSU.o HX.o).2.2.2.1,(eu.c HSU.o HX.o).2.2.2.2.1,(eu.c HSU.o HX.o).2.2.2.2.2⟩;refine tx 14 (some 4) w2 170 #[ci 0,ci 0,cu 0,ci 0,cu 0,cu 0] hU hC0 ?_ ?_
   ·intro K a W hCW hK;unfold wpOp;go_simp;exact Or.inl (hK _ _ (af (Below.refl _ W) _) ⟨hCW.1.size,Row.new W 170 _⟩)
   intro S;generalize w2.drew=u0 at *;refine ao S hU [0,1,2,3,4,5,6,7,8,9,10,11,12,13] 50 2 hC0 ?_;constructor
   ·intro W' hW';simp only[pick,List.filterMap,gq1,gq2,gq3];obtain⟨-,q0,q1,q2,q3,q4,q5,q6,q7,q8,q9⟩:=hW';have q0:=ln q0;have q1:=ln q1;have q2:=ln q2;have q3:=ln q3;have q4:=ln q4;have q5:=ln q5;have q6:=ln q6;have q7:=ln q7;have q8:=ln q8;have q9:=ln q9
    repeat (go_big_quiet_step (fail))
    exact wpQuiet_nil rfl
   refine ip hU 1 _ _ _ (by kernel_rfl) hC0 (fun bx W5 hr hc hp=>?_);have hbW:=a7 hr;clear hr;have lo_bx:=hp.1;have HN:=qh (hp.2);revert HBL HSU HY H2 HR;refine cq (sbb hbW) ?_;intro HBL HSU HY H2 HR;clear hc hp hbW hC0;have hC1:=hU.at _ ⟨HBL.o,H2.k 0,HR.k 1,HR.k 5,(f7.c HY.o HI.o).2.1,(eu.c HSU.o HX.o).1,(eu.c HSU.o HX.o).2.1,(eu.c HSU.o HX.o).2.2.1,(eu.c HSU.o HX.o).2.2.2.1,(eu.c HSU.o HX.o).2.2.2.2.1,(eu.c HSU.o HX.o).2.2.2.2.2⟩;have ne_O_bx:O≠bx:=by have:=lt_O;omega
   have ne_bo_bx:bo≠bx:=by have:=lt_bo;omega
   have ne_Y_bx:Y≠bx:=by have:=lt_Y;omega
   have ne_aS_bx:aS≠bx:=by have:=lt_aS;omega
   refine re S hU 15 0 rfl hC1 fun W1 hbW K1 hK1=>?_;revert HN HBL HSU HY H2 HR;refine cq (sbb hbW) ?_;intro HN HBL HSU HY H2 HR;clear hbW;have hfz:=HN.o.free;have hcw0:=HN.k 0;have hcw1:=HN.k 1;have hcw2:=HN.k 2;have hcw3:=HN.k 3;have hcw4:=HN.k 4;have hcw5:=HN.k 5;go_wp2_with fail;clear hfz hcw0 hcw1 hcw2 hcw3 hcw4 hcw5;have hsN:=(((((sk W1 bx 0 (ci x.topic)).sc bx 1 (ci x.rank)).sc bx 2 (cu x.cur.next)).sc bx 3 (ci x.cur.cap)).sc bx 4 (cu x.cur.got)).sc bx 5 (cu x.cur.lost);replace HN:=qh ((((((((HN.o).set 0 (ci x.topic)).set 1 (ci x.rank)).set 2 (cu x.cur.next)).set 3 (ci x.cur.cap)).set 4 (cu x.cur.got)).set 5 (cu x.cur.lost)).to (cs':=#[ci x.topic,ci x.rank,cu x.cur.next,ci x.cur.cap,cu x.cur.got,cu x.cur.lost]) rfl);revert HBL HSU HY H2 HR;refine cm (hsN) ⟨mn lo_bx,nn ne_aS_bx,nn ne_Y_bx,nn ne_bo_bx,nn ne_O_bx,trivial⟩ ?_;intro HBL HSU HY H2 HR;clear hsN
   have hC2:=hU.at _ ⟨HBL.o,H2.k 0,HR.k 1,HR.k 5,(f7.c HY.o HI.o).2.1,(eu.c HSU.o HX.o).1,(eu.c HSU.o HX.o).2.1,(eu.c HSU.o HX.o).2.2.1,(eu.c HSU.o HX.o).2.2.2.1,(eu.c HSU.o HX.o).2.2.2.2.1,(eu.c HSU.o HX.o).2.2.2.2.2⟩;refine hK1 _ _ hC2  ?_;clear hK1 hC1;generalize ((((((W1.setCell ⟨bx,0,none⟩ (ci x.topic)).setCell ⟨bx,1,none⟩ (ci x.rank)).setCell ⟨bx,2,none⟩ (cu x.cur.next)).setCell ⟨bx,3,none⟩ (ci x.cur.cap)).setCell ⟨bx,4,none⟩ (cu x.cur.got)).setCell ⟨bx,5,none⟩ (cu x.cur.lost))=v2 at *;refine rh fun w3 hb9=>?_;revert HN HBL HSU HY H2 HR;refine cq (sbb hb9) ?_;intro HN HBL HSU HY H2 HR;clear S hU hC2 hb9;have HBB:=qh (bt HB.o HBL.o);clear HB HBL;have co:=H2.k 0
   go_wp2_with (first|(go_at_call 62;refine(b5n _ _ 95 #[pt bo,pt bx]).mono ?_;rintro e w_ ⟨rfl,hb,hr1,hr2⟩))
   go_ret2
   exact⟨_,1,rfl,bt HBB.o hb,Or.inr ⟨x,hmem,_,_,bo,bx,rfl,nlt HBB.o.size (Nat.le_succ _),HBB.o.size,hbo,by omega,hr2,hr1,H2.o.bel hb,HN.o.bel hb⟩⟩
theorem c8q{W:World}{base:Nat}{v:Value}{xs:List Int}(h:W.ownsRow base 3 1 v xs.length (xs.flatMap gj)):gy gj 1 W v xs:=by
 by_cases h0:1≤xs.length
 ·obtain⟨g,c,rfl,-,hc,hA⟩:=Arr.of_own (E:=3) h rfl h0;exact Or.inr ⟨g,0,c,rfl,hc,hA.toAt⟩
 ·have e:xs=[]:=List.length_eq_zero_iff.1 (by omega);subst e;rcases h.2 with ⟨rfl,_⟩|⟨g,cap,cur,rfl,h2,h3,h4⟩
  ·exact Or.inl ⟨rfl,rfl⟩
  ·exact Or.inr ⟨g,0,cap,rfl,Nat.zero_le _,⟨fun k j x v hx _=>by cases hx⟩⟩
theorem c8l(w:World)(g c tr:Nat)(l:List am)(hs:au w g l)(h1:1≤l.length)(h8:l.length≤8)(hok:∀x∈l,x.Ok)(ht1:1≤tr)(ht2:tr≤16):Calls Tryz.prog 88 #[zl g l.length c,ci tr] w fun e w'=>∃n,e=.returned (ci n)∧Below w.heap.size w w':=by
 have hm:=qh (c2i tr);rw[dqt (by omega:1≤(tr:Int)∧(tr:Int)≤16)] at hm;have HS:=qh hs;have HB:=qh (brf w);have hgl:=hs.lt;have n0:¬ (l.length:Int)=0:=by omega
 clear hs
 go_enter Tryz.func88,Tryz.ntmps88
 go_wp2_with (first|(go_at_call 132;refine(hm.o _).mono ?_;rintro e w' ⟨rfl,rfl⟩))
 have hR0:Hd (Below w.heap.size w w∧au w g l∧w.ownsRow w.heap.size 3 1 (zn) ([]:List Int).length (([]:List Int).flatMap gj)):=qh ⟨HB.o,HS.o,World.ownsRow_nil _ _ _ _⟩;clear HB HS hm
 go_loopw [19,5,6] (fun iv av mv W=>∃(k:Nat)(xs:List Int)(m:Int),k≤l.length∧iv=ci k∧mv=ci m∧xs.length≤k∧Hd (Below w.heap.size w W∧au W g l∧W.ownsRow w.heap.size 3 1 av xs.length (xs.flatMap gj))) (fun iv _ _ _=>l.length-(intOf iv).toNat)
 case atStart=>exact⟨0,[],0,by omega,rfl,rfl,by simp,hR0⟩
 case round=>
  clear hR0;obtain⟨k,xs,m,hk,rfl,rfl,hxl,hR⟩:=hrel;obtain⟨hb,hsp,hown⟩:=hR.o;obtain⟨sa,sc,rfl⟩:=ax hown;by_cases hkl:k<l.length
  ·have i1:(k:Int)<l.length:=by omega
   have hx:l[k]?=some l[k]:=cz hkl;have hokx:=hok _ (List.getElem_mem hkl);obtain⟨d0,d1,d2,d3,d4⟩:=au.c hsp hx;generalize l[k]=sp at *;have HB:=qh (af hb (.cells #[ci sp.own,ci sp.seq,ci sp.first,ci sp.words,ci sp.depth] 112));have HS:=qh (hsp.alloc (.cells #[ci sp.own,ci sp.seq,ci sp.first,ci sp.words,ci sp.depth] 112));have HO:=qh (jb hown ((Below.refl _ wr).alloc (nlr _) (.cells #[ci sp.own,ci sp.seq,ci sp.first,ci sp.words,ci sp.depth] 112)));have HBX:=qh (Row.new wr 112 #[ci sp.own,ci sp.seq,ci sp.first,ci sp.words,ci sp.depth]);have hat:=qh (fun W=>b7f hokx (g:=0) (g':=0) rfl W);simp only[am.cells] at hat;clear hb hsp hown hR;go_wp2_with fail;refine(hat.o _).mono ?_;rintro e w2 ⟨rfl,hb2⟩;have HB2:=qh (bt HB.o hb2);have HS2:=qh (HS.o.bel hb2);have HO2:=qh (jb HO.o hb2);have HBX2:=qh (HBX.o.bel hb2);clear HB HS HO HBX hat hb2 d0 d1 d2 d3 d4
   generalize wr.heap.size=bx at *;generalize sp.place 0=pz at *;have hpz:¬ (pz:Int)<0:=by omega
   have cx1:=HBX2.k 1;have cx3:=HBX2.k 3;have hcon:=qh (uk (.slice sa xs.length sc) xs (sp.seq:Int) w2 (c8q HO2.o) (by omega));go_wp2_with fail;refine hcon.o.mono ?_;rintro e w_ ⟨b,rfl,rfl,-⟩;cases b
   ·have HO3:=qh (jb HO2.o ((Below.refl _ w2).alloc (nlr _) (.cells #[ci sp.seq] 3)));have HB3:=qh (af HB2.o (.cells #[ci sp.seq] 3));have HS3:=qh (HS2.o.alloc (.cells #[ci sp.seq] 3));have HX3:=qh (HBX2.o.alloc (.cells #[ci sp.seq] 3));have HLT:=qh (jo (w:=w2) (cs:=#[ci sp.seq]) (t:=3) rfl);have hno:=ck HO2.o HBX2.o (by decide);obtain⟨i0,hi0,hz0,hz1,hz2⟩:=info_parts b7d
    go_wp2_with (at_builtin;go_loud (refine wpList_append_own_at _ rfl _ _ 26 rfl w.heap.size 3 i0 _ 1 8 Tryz.underlying26 hi0 hz0 hz1 hz2 rfl (by decide) (.slice sa xs.length sc) xs.length (xs.flatMap gj) rfl HO3.o ⟨w2.heap.size,0,none⟩ 1 1 (#[ci sp.seq]:Array Value).toList rfl rfl (fun j u h=>HLT.o j u h) (by intro u hu;simp at hu;subst hu;rfl) (by unfold maxLen;omega) (by omega) HB3.o.size ?_;intro v9 w9 hown9 hgrow9 _ _;have hs9:=ab.grown' hgrow9;have HO9:=qh hown9;have HX9:=qh (HX3.o.same hs9 hno);have HB9:=qh (jc HB3.o hs9 (fun b hb=>fw HO3.o b (by simpa using hb)));have HS9:=qh (HS3.o.same hs9 (fun hb=>by have:=fw HO3.o g (by simpa using hb);omega));have cy3:=HX9.k 3;clear hs9 hown9 hgrow9 HO3 HB3 HS3 HX3 HLT cx1 cx3))
    go_roundw
    case rel=>exact⟨k+1,xs++[(sp.seq:Int)],_,by omega,by go_num,rfl,by simp;omega,qh ⟨HB9.o,HS9.o,by simpa[gj] using HO9.o⟩⟩
    case measure=>simp only[intOf];omega
   ·go_wp2_with fail
    go_roundw
    case rel=>exact⟨k+1,xs,_,by omega,by go_num,rfl,by omega,qh ⟨HB2.o,HS2.o,HO2.o⟩⟩
    case measure=>simp only[intOf];omega
  ·have hk':k=l.length:=by omega
   subst hk';have HB:=qh hb;clear hb hsp hown hR;go_wp2_with fail;go_ret;exact⟨_,rfl,HB.o⟩
def jg(W:World)(sz:Nat)(l:List Sub)(s:List am)(tr:Nat)(pa:Option Addr)(er:Int):Prop:=
 (er=1∧pa=none)∨(er=0∧∃P G C g2 c2 ts,pa=some ⟨P,0,none⟩∧sz≤P∧sz≤G∧sz≤g2∧G≠P∧g2≠P∧G≠g2∧Row W P 228 (POp.cells ⟨tr,1,0,-1,0,0,0,0,0,0⟩ G l.length C g2 ts.length c2 (zn))∧eu W G l∧ia W g2 ts ∧
    1≤ts.length∧ts.length≤l.length∧(∀t∈ts,xa l s t)∧∀x∈l,∃t∈ts,t.n=x.topic)
section
variable{W W':World}{sz tr:Nat}{l:List Sub}{s:List am}{pa:Option Addr}{er:Int}
theorem jg.bel(h:jg W sz l s tr pa er)(hb:Below W.heap.size W W'):jg W' sz l s tr pa er:=by
 rcases h with h|⟨h0,P,G,C,g2,c2,ts,h1,h2,h3,h4,h5,h6,h7,h8,h9,h10,h11⟩
 ·exact Or.inl h
 ·exact Or.inr ⟨h0,P,G,C,g2,c2,ts,h1,h2,h3,h4,h5,h6,h7,h8.bel hb,h9.bel hb,h10.bel hb,h11⟩
instance:C0 (jg W sz l s tr pa er) W W' (jg W' sz l s tr pa er):=⟨fun hs h=>h.bel hs.below_nil⟩
theorem jg.mono{sz':Nat}(h:jg W sz l s tr pa er)(hb:sz'≤sz):jg W sz' l s tr pa er:=by
 rcases h with h|⟨h0,P,G,C,g2,c2,ts,h1,h2,h3,h4,h5⟩
 ·exact Or.inl h
 ·exact Or.inr ⟨h0,P,G,C,g2,c2,ts,h1,by omega,by omega,by omega,h5⟩
theorem jg.other{b:Nat}{t:TypeId}{cs:Array Value}(h:jg W sz l s tr pa er)(hr:Row W b t cs)(h1:t≠228)(h2:t≠170)(h3:t≠231)(i:Nat)(v:Value):jg (W.setCell ⟨b,i,none⟩ v) sz l s tr pa er:=by
 have hs:ab [b] W (W.setCell ⟨b,i,none⟩ v):=sj (W:=W) b i v;rcases h with h|⟨h0,P,G,C,g2,c2,ts,e1,e2,e3,e4,e5,e6,e7,e8,e9,e10,e11⟩
 ·exact Or.inl h
 ·have a1:P≠b:=e8.ne hr (fun h=>h1 h.symm);have a2:G≠b:=Row.ne_arr e9 hr (fun h=>h2 h.symm);have a3:g2≠b:=Row.ne_arr e10 hr (fun h=>h3 h.symm);exact Or.inr ⟨h0,P,G,C,g2,c2,ts,e1,e2,e3,e4,e5,e6,e7,e8.same hs (by simpa using a1),e9.same hs (by simpa using a2),e10.same hs (by simpa using a3),e11⟩
end
theorem c5n(w:World)(g1 c1 g c tr:Nat)(l:List Sub)(s:List am)(hl:eu w g1 l)(hs:au w g s)(hlen:s.length=l.length)(h1:1≤l.length)(h8:l.length≤8)(hc1:l.length≤c1)(hok:∀x∈s,x.Ok)(ht1:1≤tr)(ht2:tr≤16):Calls Tryz.prog 87 #[zl g1 l.length c1,zl g l.length c,ci tr] w fun e w'=>∃(pa:Option Addr)(er:Int),e=.returned (.tuple #[.pointer pa,ci er])∧Below w.heap.size w w'∧jg w' w.heap.size l s tr pa er:=by
 refine(c8r w g1 c1 g c tr l s hl hs hlen h1 h8 hc1 hok ht1 ht2).mono ?_;rintro e w' ⟨pv,er,rfl,hb,⟨rfl,rfl⟩|⟨rfl,P,G,C,g2,c2,ts,rfl,h⟩⟩
 ·exact⟨_,_,rfl,hb,Or.inl ⟨rfl,rfl⟩⟩
 ·exact⟨_,_,rfl,hb,Or.inr ⟨rfl,P,G,C,g2,c2,ts,rfl,h⟩⟩
end Go.Proofs.YtojkaibpfdhmaaaGreatDoor

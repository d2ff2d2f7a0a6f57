/- Poll gathers the places of its subscriptions' topics. -/
import Derived.Test.YtojkaibpfdhmaaaGreatDoorP16
import Derived.Test.YtojkaibpfdhmaaaGreatDoorP30
namespace Go.Proofs.YtojkaibpfdhmaaaGreatDoor
open Go.RowKit
set_option maxRecDepth 100000
set_option maxHeartbeats 16000000
def b5d(sl:List Sub)(l xs:List am)(k:Nat):Prop:=xs.length=k∧∀(j:Nat)(x:Sub)(y:am),sl[j]?=some x→xs[j]?=some y→l[x.topic]?=some y
def PoAt(W:World)(T:Nat→Prop)(O:Nat)(tr:Nat)(sl:List Sub)(s:List am)(fv:Value):Prop:=
 ∃P G C g2 c2 ts bw bo,ki W T O 171 P 89 #[pt bw,pt bo] fv∧T G∧T g2∧T bw∧T bo∧Row W bw 171 #[pt P]∧Row W bo 95 #[pt O]∧Row W P 228 (POp.cells ⟨tr,1,0,-1,0,0,0,0,0,0⟩ G sl.length C g2 (List.length ts) c2 (zn))∧eu W G sl∧ia W g2 ts ∧
  1≤ts.length∧ts.length≤sl.length∧(∀t∈ts,xa sl s t)∧∀x∈sl,∃t∈ts,t.n=x.topic
def c8j(sl:List Sub)(l:List am)(tr:Nat)(W:World)(T:Nat→Prop)(O:Nat)(fv:Value):Prop:=RefF W T O fv∨(1≤sl.length∧∃s,b5d sl l s sl.length∧PoAt W T O tr sl s fv)
theorem c8k(w:World)(O V i:Nat)(v:dg)(o:OpC)(ows:List Own)(ow:Own)(sl:List Sub)(l:List am)(hr:Row w O 122 (o.cells V v.Y i))(hv:Row w V 92 v.cells)(hy:f7 w v.Y ows)(hi:ows[i]?=some ow)(ho:w.ownsRow 0 170 6 ow.sv sl.length (sl.flatMap Sub.enc))(hl:sl.length≤8)(hG:au w v.G l)(hk:v.k=l.length)(hok:∀s∈l,s.Ok)(htop:∀x∈sl,x.topic<l.length)(ht1:1≤v.tr)(ht2:v.tr≤16):Calls Tryz.prog 54 #[pt O] w fun e w'=>∃fv k,e=.returned (.tuple #[fv,ci k])∧Below w.heap.size w w'∧c8j sl l v.tr w' (fun b=>w.heap.size≤b) O fv:=by
 obtain⟨kd,tp,sb,cp,rk,sr,mo,fl,fb,se,wy,nx,en,co,su,ge,cn,lo,⟨zm,zs,zh,zf,ze⟩,gv,av,st,at_⟩:=o;obtain⟨T,tr,lg,tv,G,k,gk,sz,B,Y,yk⟩:=v;obtain⟨om,sv,oop⟩:=ow;simp only at ho hk ht1 ht2 hG hy;subst hk;obtain⟨sa,sc,rfl⟩:=ax ho;simp only[OpC.cells,dg.cells] at *;have HB:=qh (brf w);have H2:=qh (Row.new w 95 #[pt O]);have HR:=qh hr;have HV:=qh hv;have HY:=qh hy;have HG:=qh hG;revert HB;revert HR;revert HV;revert HY;revert HG
 refine cq (sa1 w (.cells #[pt O] 95)) ?_;intro HG HY HV HR HB;have HO:=qh (jb ho ((Below.refl _ w).alloc (nlr _) (.cells #[pt O] 95)));have HI:=qh hi;clear hr hv hy hi ho hG;have co:(w.alloc (.cells #[pt O] 95)).cell? (ae w.heap.size 0)=some (pt O):=H2.k 0;have c1:(w.alloc (.cells #[pt O] 95)).cell? (ae O 1)=some (.pointer (some ⟨Y,i*3,none⟩)):=HR.k 1;have c2:=(f7.c HY.o HI.o).2.1;by_cases h0:sl.length=0
 ·have h0':(sl.length:Int)=0:=by omega
  go_enter Tryz.func54,Tryz.ntmps54
  go_wp2_with fail;generalize w.alloc (.cells #[pt O] 95)=wx at *;refine(fy _ _ _).mono ?_;rintro e w_ ⟨rfl,hb,hr1,hr2⟩;go_wp2_with fail
  go_ret2
  exact⟨_,1,rfl,bt HB.o hb,Or.inl ⟨_,⟨by constructor<;>decide,by decide⟩,_,_,rfl,nlt HB.o.size (Nat.le_succ _),HB.o.size,hr2,hr1⟩⟩
 ·have h0':¬ (sl.length:Int)=0:=by omega
  obtain⟨aS,cS,e,-,hcS,hSU⟩:=Arr.of_own (E:=170) HO.o rfl (by omega);cases e;have HSU:Hd (eu (w.alloc (.cells #[pt O] 95)) aS sl):=qh hSU;clear hSU HO
  go_enter Tryz.func54,Tryz.ntmps54
  go_wp2_with fail;generalize hbo':w.heap.size=bo at H2 ⊢;have hbo:w.heap.size≤bo:=by omega
  generalize w.alloc (.cells #[pt O] 95)=wx at *;have hR0:Hd (b5d sl l [] 0∧Below wx.heap.size wx wx∧wx.ownsRow wx.heap.size 112 5 (zn) ([]:List am).length (([]:List am).flatMap am.enc)):=qh ⟨⟨rfl,fun j x y _ h=>by cases h⟩,Below.refl _ _,World.ownsRow_nil _ _ _ _⟩;have lt0_G:=HG.o.lt
  go_loopw [30,4] (fun iv av W=>∃(k:Nat)(xs:List am),k≤sl.length∧iv=ci k∧Hd (b5d sl l xs k∧Below wx.heap.size wx W∧W.ownsRow wx.heap.size 112 5 av xs.length (xs.flatMap am.enc))) (fun iv _ _=>sl.length-(intOf iv).toNat)
  case atStart=>exact⟨0,[],by omega,rfl,hR0⟩
  case round=>
   clear hR0;obtain⟨k,xs,hkl,rfl,hR⟩:=hrel;obtain⟨hpl,hb,hown⟩:=hR.o;obtain⟨sa2,sc2,rfl⟩:=ax hown;have HRr:=qh (HR.o.bel hb);have H2r:=qh (H2.o.bel hb);have HVr:=qh (HV.o.bel hb);have HYr:=qh (HY.o.bel hb);have HGr:=qh (HG.o.bel hb);have HSUr:=qh (HSU.o.bel hb);by_cases hks:k<sl.length
   ·have i1:(k:Int)<sl.length:=by omega
    have hx:sl[k]?=some sl[k]:=cz hks;have hxt:=htop _ (List.getElem_mem hks);have hsp:l[(sl[k]).topic]?=some l[(sl[k]).topic]:=cz hxt;obtain⟨d0,d1,d2,d3,d4,d5⟩:=eu.c HSUr.o hx;generalize sl[k]=x at *;generalize l[x.topic]=sp at *;have HX:=qh hx;have HSP:=qh hsp;have HPL:=qh hpl;have hxl8:xs.length<8:=by have:=hpl.1;omega
    have HRa:=qh (HRr.o.alloc (.cells #[ci x.topic,ci x.rank,cu x.cur.next,ci x.cur.cap,cu x.cur.got,cu x.cur.lost] 170));have H2a:=qh (H2r.o.alloc (.cells #[ci x.topic,ci x.rank,cu x.cur.next,ci x.cur.cap,cu x.cur.got,cu x.cur.lost] 170));have HVa:=qh (HVr.o.alloc (.cells #[ci x.topic,ci x.rank,cu x.cur.next,ci x.cur.cap,cu x.cur.got,cu x.cur.lost] 170));have HGa:=qh (HGr.o.alloc (.cells #[ci x.topic,ci x.rank,cu x.cur.next,ci x.cur.cap,cu x.cur.got,cu x.cur.lost] 170));have HBa:=qh (af hb (.cells #[ci x.topic,ci x.rank,cu x.cur.next,ci x.cur.cap,cu x.cur.got,cu x.cur.lost] 170));have HOa:=qh (jb hown ((Below.refl _ wr).alloc (nlr _) (.cells #[ci x.topic,ci x.rank,cu x.cur.next,ci x.cur.cap,cu x.cur.got,cu x.cur.lost] 170)));have HXa:=qh (Row.new wr 170 #[ci x.topic,ci x.rank,cu x.cur.next,ci x.cur.cap,cu x.cur.got,cu x.cur.lost])
    clear hx hsp hpl hb hown hR HRr H2r HVr HYr HGr HSUr;go_wp2_with fail;generalize wr.heap.size=bx at *;generalize wr.alloc (.cells #[ci x.topic,ci x.rank,cu x.cur.next,ci x.cur.cap,cu x.cur.got,cu x.cur.lost] 170)=w5 at *;have HS:Hd (ab [] wx w5):=qh (ab.of_below HBa.o);clear HBa;have tt0:(0:Int)≤x.topic:=by omega
    have ttl:(x.topic:Int)<l.length:=by omega
    revert HRa;revert H2a;revert HVa;revert HGa;revert HXa;revert HOa;revert HS
    refine cq (sdz w5) ?_;intro HS HOa HXa HGa HVa H2a HRa;have hU:UD (fun W=>W.cell? (ae bo 0)=some (pt O)∧W.cell? (ae O 0)=some (pt V)∧W.cell? (ae V 7)=some (zl G l.length gk)∧W.cell? (ae bx 0)=some (ci x.topic)∧W.cell? (ae G (x.topic*5))=some (ci sp.own)∧W.cell? (ae G (x.topic*5+1))=some (ci sp.seq)∧W.cell? (ae G (x.topic*5+2))=some (ci sp.first)∧W.cell? (ae G (x.topic*5+3))=some (ci sp.words)∧W.cell? (ae G (x.topic*5+4))=some (ci sp.depth)):=al fun W n h=>h;have hC0:=hU.at _ ⟨H2a.k 0,HRa.k 0,HVa.k 7,HXa.k 0,(au.c HGa.o HSP.o).1,(au.c HGa.o HSP.o).2.1,(au.c HGa.o HSP.o).2.2.1,(au.c HGa.o HSP.o).2.2.2.1,(au.c HGa.o HSP.o).2.2.2.2⟩;refine dw aj hU hC0 ?_;intro S;generalize w5.drew=u0 at *;refine ao S hU [0,1,2,3,4,5,6,7,8,9,10,11,12] 94 3 hC0 ?_;constructor
    ·intro W' hW';simp only[pick,List.filterMap,gq1,gq2,gq3];obtain⟨q0,q1,q2,q3,q4,q5,q6,q7,q8⟩:=hW'
     repeat (go_big_quiet_step (fail))
     exact wpQuiet_nil rfl
    refine az S hU 13 2 rfl hC0 fun n0 K1 hK1=>?_;go_wp2_with fail;have ne_O_nb:O≠(u0.drewN n0).heap.size:=nnl (HRa.o.drewN n0).lt;have ne_nb_O:=ne_O_nb.symm;have ne_bo_nb:bo≠(u0.drewN n0).heap.size:=nnl (H2a.o.drewN n0).lt;have ne_nb_bo:=ne_bo_nb.symm;have ne_V_nb:V≠(u0.drewN n0).heap.size:=nnl (HVa.o.drewN n0).lt;have ne_nb_V:=ne_V_nb.symm;have ne_G_nb:G≠(u0.drewN n0).heap.size:=nnl (HGa.o.drewN n0).lt;have ne_nb_G:=ne_G_nb.symm;have ne_bx_nb:bx≠(u0.drewN n0).heap.size:=nnl (HXa.o.drewN n0).lt;have ne_nb_bx:=ne_bx_nb.symm;have HLIT:=qh (jo (w:=(u0.drewN n0)) (cs:=#[ci sp.own,ci sp.seq,ci sp.first,ci sp.words,ci sp.depth]) (t:=112) rfl);have HN:=qh (Row.new (u0.drewN n0) 112 #[ci sp.own,ci sp.seq,ci sp.first,ci sp.words,ci sp.depth]);revert HS HOa HXa HGa HVa H2a HRa;refine cq (sal u0 n0 (.cells #[ci sp.own,ci sp.seq,ci sp.first,ci sp.words,ci sp.depth] 112)) ?_
    intro HS HOa HXa HGa HVa H2a HRa;have hC1:=hU.at _ ⟨H2a.k 0,HRa.k 0,HVa.k 7,HXa.k 0,(au.c HGa.o HSP.o).1,(au.c HGa.o HSP.o).2.1,(au.c HGa.o HSP.o).2.2.1,(au.c HGa.o HSP.o).2.2.2.1,(au.c HGa.o HSP.o).2.2.2.2⟩;refine hK1 _ _ hC1 ?_;clear hK1 hC0;have hzN:(u0.drewN n0).heap.size=u0.heap.size:=rfl;simp only[hzN] at *;clear hzN;generalize u0.heap.size=nb at *;generalize ((u0.drewN n0).alloc (.cells #[ci sp.own,ci sp.seq,ci sp.first,ci sp.words,ci sp.depth] 112))=u1 at *;clear HN;refine az S hU 14 1 rfl hC1 fun n1 K1 hK1=>?_;obtain⟨i0,hi0,hz0,hz1,hz2⟩:=info_parts u7
    refine wpList_append_own_at _ rfl _ _ 81 rfl wx.heap.size 112 i0 _ 5 40 Tryz.underlying81 hi0 hz0 hz1 hz2 rfl (by decide) (Value.slice sa2 xs.length sc2) xs.length (xs.flatMap am.enc) rfl (ai HOa.o (sdn n1) nm0) ⟨nb,0,none⟩ 1 1 (#[ci sp.own,ci sp.seq,ci sp.first,ci sp.words,ci sp.depth]).toList rfl rfl (fun j u h=>HLIT.o j u h) (by intro u hu;simp at hu;rcases hu with rfl|rfl|rfl|rfl|rfl<;>rfl) (by unfold maxLen;omega) (by omega) ((HS.o.drewN n1).size) ?_;intro v9 wv9 hown9 hgrow9 _ hblk9;obtain⟨gv9,cv9,rfl⟩:=gl hown9;have hs9:=ab.grown' hgrow9;clear hgrow9;have nb_O:O∉(Value.slice sa2 xs.length sc2).ownBlock.toList:=ck (ai HOa.o (sdn n1) nm0) (HRa.o.drewN n1) (by decide);have nb_bo:bo∉(Value.slice sa2 xs.length sc2).ownBlock.toList:=ck (ai HOa.o (sdn n1) nm0) (H2a.o.drewN n1) (by decide)
    have nb_V:V∉(Value.slice sa2 xs.length sc2).ownBlock.toList:=ck (ai HOa.o (sdn n1) nm0) (HVa.o.drewN n1) (by decide);have nb_G:G∉(Value.slice sa2 xs.length sc2).ownBlock.toList:=f8 (ai HOa.o (sdn n1) nm0) lt0_G;have nb_bx:bx∉(Value.slice sa2 xs.length sc2).ownBlock.toList:=ck (ai HOa.o (sdn n1) nm0) (HXa.o.drewN n1) (by decide);go_wp2_with fail;replace HS:=qh ((HS.o.drewN n1).then hs9 (fun y hy h=>absurd hy (f8 (ai HOa.o (sdn n1) nm0) h)));replace HOa:=qh hown9;revert HXa HGa HVa H2a HRa;refine cm (ssm hs9) ⟨nb_bx,nb_G,nb_V,nb_bo,nb_O,trivial⟩ ?_;intro HXa HGa HVa H2a HRa;have hC2:=hU.at _ ⟨H2a.k 0,HRa.k 0,HVa.k 7,HXa.k 0,(au.c HGa.o HSP.o).1,(au.c HGa.o HSP.o).2.1,(au.c HGa.o HSP.o).2.2.1,(au.c HGa.o HSP.o).2.2.2.1,(au.c HGa.o HSP.o).2.2.2.2⟩;refine hK1 _ _ hC2 ?_;clear hK1 hC1;clear hs9 hown9 hblk9
    refine ao S hU [15] 94 0 hC2 ?_;constructor
    ·intro W' hW';simp only[pick,List.filterMap,gq1,gq2,gq3];obtain⟨q0,q1,q2,q3,q4,q5,q6,q7,q8⟩:=hW'
     repeat (go_big_quiet_step (fail))
     exact wpQuiet_nil rfl
    refine dd fun n9=>?_;revert HS HOa HXa HGa HVa H2a HRa;refine cq (sdw wv9 n9) ?_;intro HS HOa HXa HGa HVa H2a HRa;clear S hU hC2;generalize wv9.drewN n9=w6 at *;go_wp2_with fail
    go_roundw
    case rel=>
     refine⟨k+1,xs++[sp],by omega,by go_num,qh ⟨⟨by simp;exact HPL.o.1,fun j y z hy hz=>?_⟩,HS.o.below (nlr _) (by simp),by simpa[am.enc] using HOa.o⟩⟩;by_cases hjk:j<xs.length
     ·rw[List.getElem?_append_left hjk] at hz;exact HPL.o.2 j y z hy hz
     ·have hj:j=xs.length:=by
       have:=(bk.1 hz).1;simp at this;omega
      subst hj;rw[HPL.o.1,HX.o] at hy;cases hy;simp at hz;subst hz;exact HSP.o
    case measure=>simp only[intOf];omega
   ·have hk':k=sl.length:=by omega
    subst hk';obtain⟨gs,cs,e,-,hcs,hA⟩:=Arr.of_own (E:=112) hown rfl (by have:=hpl.1;omega);cases e;have HXS:Hd (au wr gs xs):=qh hA;have HPL:=qh hpl;have HB':=qh (bt HB.o (hb.mono (by omega)));clear hA hpl hown hR hb
    have hpn:=qh (fun W (h1:eu W aS sl) (h2:au W gs xs)=>c5n W aS sc gs sc2 tr sl xs h1 h2 HPL.o.1 (by omega) hl (by omega) (fun s hs=>by
     obtain⟨j,hj⟩:=mig.1 hs;have hjl:=(bk.1 hj).1;have hx:=cz (show j<sl.length by rw[←HPL.o.1];exact hjl);exact hok s (dh (HPL.o.2 j _ s hx hj))) ht1 ht2)
    simp only[HPL.o.1];go_wp2_with fail;have HR:=HRr;have H2:=H2r;have HV:=HVr;have HY:=HYr;have HSU:=HSUr;have HB:=HB';clear HRr H2r HVr HYr HSUr HB';clear lt0_G;have hszx:=HB.o.size;have lt_O:O<wr.heap.size:=HR.o.lt;have lt_bo:bo<wr.heap.size:=H2.o.lt;have lt_V:V<wr.heap.size:=HV.o.lt;have lt_Y:Y<wr.heap.size:=HY.o.lt;have lt_aS:aS<wr.heap.size:=HSU.o.lt;have lt_gs:gs<wr.heap.size:=HXS.o.lt;have HBL:=qh (brf wr);revert HR;revert H2;revert HV;revert HY;revert HSU;revert HXS;revert HBL
    refine cq (sdz wr) ?_;intro HBL HXS HSU HY HV H2 HR;have hU:Ups (fun W W'=>∃g:ag W,W'=g.to) (fun W=>Below wr.heap.size wr W∧W.cell? (ae bo 0)=some (pt O)∧W.cell? (ae O 0)=some (pt V)∧W.cell? (ae O 1)=some (.pointer (some ⟨Y,i*3,none⟩))∧W.cell? (ae V 2)=some (ci tr)∧W.cell? (ae Y (i*3+1))=some (zl aS sl.length sc)):=dj fun h hb=>⟨bt h.1 hb,ak h.2.1 hb,ak h.2.2.1 hb,ak h.2.2.2.1 hb,ak h.2.2.2.2.1 hb,ak h.2.2.2.2.2 hb⟩;have hC0:=hU.at _ ⟨HBL.o,H2.k 0,HR.k 0,HR.k 1,HV.k 2,(f7.c HY.o HI.o).2.1⟩;refine tx 20 (some 7) wr 171 #[.pointer none] hU hC0 ?_ ?_
    ·intro K a W hCW hK;unfold wpOp;go_simp;exact Or.inl (hK _ _ (af (Below.refl _ W) _) ⟨hCW.1.size,Row.new W 171 _⟩)
    intro S;generalize wr.drew=u0 at *;refine ao S hU [0,1,2,3,4,5,6,7,8,9,10,11,12,13,14,15] 94 7 hC0 ?_;constructor
    ·intro W' hW';simp only[pick,List.filterMap,gq1,gq2,gq3];obtain⟨-,q0,q1,q2,q3,q4⟩:=hW';have q0:=ln q0;have q1:=ln q1;have q2:=ln q2;have q3:=ln q3;have q4:=ln q4
     repeat (go_big_quiet_step (fail))
     exact wpQuiet_nil rfl
    refine b0g S hU 16 6 rfl fun W1 hbW K1 hK1=>?_;revert HBL HXS HSU HY HV H2 HR;refine cq (sbb hbW) ?_;intro HBL HXS HSU HY HV H2 HR;clear hbW;go_wp2_with fail;refine(hpn.o W1 HSU.o HXS.o).mono ?_;rintro e W6 ⟨pa,er,rfl,hb,hpm0⟩;have hpm:=hpm0.mono HBL.o.size;clear hpm0;go_wp2_with fail;have HPM:=qh hpm;revert HBL HXS HSU HY HV H2 HR;refine cq (sbb hb) ?_;intro HBL HXS HSU HY HV H2 HR;have hC1:=hU.at _ ⟨HBL.o,H2.k 0,HR.k 0,HR.k 1,HV.k 2,(f7.c HY.o HI.o).2.1⟩;refine hK1 _ _ hC1 (fun _ p hp=>⟨hp.1,hp.2.bel hb⟩) ?_;clear hK1 hC0;clear hb  hpm;refine ao S hU [17,18,19] 94 3 hC1 ?_;constructor
    ·intro W' hW';simp only[pick,List.filterMap,gq1,gq2,gq3];obtain⟨-,q0,q1,q2,q3,q4⟩:=hW';have q0:=ln q0;have q1:=ln q1;have q2:=ln q2;have q3:=ln q3;have q4:=ln q4
     repeat (go_big_quiet_step (fail))
     exact wpQuiet_nil rfl
    refine ip hU 2 _ _ _ (by kernel_rfl) hC1 (fun pl W5 hr hc hp=>?_);have hbW:=a7 hr;clear hr;have lo_pl:=hp.1;have HN:=qh (hp.2);revert HPM HBL HXS HSU HY HV H2 HR;refine cq (sbb hbW) ?_;intro HPM HBL HXS HSU HY HV H2 HR;clear hc hp hbW hC1;have hC2:=hU.at _ ⟨HBL.o,H2.k 0,HR.k 0,HR.k 1,HV.k 2,(f7.c HY.o HI.o).2.1⟩;have ne_O_pl:O≠pl:=by have:=lt_O;omega
    have ne_bo_pl:bo≠pl:=by have:=lt_bo;omega
    have ne_V_pl:V≠pl:=by have:=lt_V;omega
    have ne_Y_pl:Y≠pl:=by have:=lt_Y;omega
    have ne_aS_pl:aS≠pl:=by have:=lt_aS;omega
    have ne_gs_pl:gs≠pl:=by have:=lt_gs;omega
    refine re S hU 21 1 rfl hC2 fun W1 hbW K1 hK1=>?_;revert HN HPM HBL HXS HSU HY HV H2 HR;refine cq (sbb hbW) ?_;intro HN HPM HBL HXS HSU HY HV H2 HR;clear hbW;have hfz:=HN.o.free;have hcw:=HN.k 0;go_wp2_with fail;clear hfz hcw;replace HPM:=qh (HPM.o.other HN.o (by decide) (by decide) (by decide) 0 (.pointer pa));replace HN:=qh ((HN.o.set 0 (.pointer pa)).to (cs':=#[.pointer pa]) rfl);revert HBL HXS HSU HY HV H2 HR;refine cm (sk W1 pl 0 (.pointer pa)) ⟨mn lo_pl,nn ne_gs_pl,nn ne_aS_pl,nn ne_Y_pl,nn ne_V_pl,nn ne_bo_pl,nn ne_O_pl,trivial⟩ ?_;intro HBL HXS HSU HY HV H2 HR;have hC3:=hU.at _ ⟨HBL.o,H2.k 0,HR.k 0,HR.k 1,HV.k 2,(f7.c HY.o HI.o).2.1⟩;refine hK1 _ _ hC3  ?_;clear hK1 hC2;generalize (W1.setCell ⟨pl,0,none⟩ (.pointer pa))=v3 at *;refine ao S hU [22] 94 0 hC3 ?_;constructor
    ·intro W' hW';simp only[pick,List.filterMap,gq1,gq2,gq3];obtain⟨-,q0,q1,q2,q3,q4⟩:=hW';have q0:=ln q0;have q1:=ln q1;have q2:=ln q2;have q3:=ln q3;have q4:=ln q4
     repeat (go_big_quiet_step (fail))
     exact wpQuiet_nil rfl
    refine rh fun wy hb9=>?_;revert HPM HN HBL HXS HSU HY HV H2 HR;refine cq (sbb hb9) ?_;intro HPM HN HBL HXS HSU HY HV H2 HR;clear S hU hC3 hb9;have HBB:=qh (bt HB.o HBL.o);clear HB HBL;have co:wy.cell? (ae bo 0)=some (pt O):=H2.k 0;rcases HPM.o with ⟨rfl,rfl⟩|⟨rfl,P,G2,C,g2,c2',ts,rfl,p1,p2,p3,p4,p5,p6,p7,p8,p9,p10⟩
    ·go_wp2_with fail;refine(fy _ _ _).mono ?_;rintro e w_ ⟨rfl,hb,hr1,hr2⟩;go_wp2_with fail
     go_ret2
     exact⟨_,1,rfl,bt HBB.o hb,Or.inl ⟨_,⟨by constructor<;>decide,by decide⟩,_,_,rfl,nlt HBB.o.size (Nat.le_succ _),HBB.o.size,hr2,hr1⟩⟩
    ·go_wp2_with fail;have HP:=qh p7;have HG2:Hd (eu wy G2 sl):=qh p8;have HT:Hd (ia wy g2 ts):=qh p9;have HLP:=qh p10;clear p7 p8 p9 p10 HPM
     have hmost:=qh (fun W (h:au W gs xs)=>c8l W gs sc2 tr xs h (by have:=HPL.o.1;omega) (by have:=HPL.o.1;omega) (fun s hs=>by
      obtain⟨j,hj⟩:=mig.1 hs;have hjl:=(bk.1 hj).1;have hx:=cz (show j<sl.length by rw[←HPL.o.1];exact hjl);exact hok s (dh (HPL.o.2 j _ s hx hj))) ht1 ht2)
     have eln:=HPL.o.1;rw[eln] at hmost;clear eln;have pl2:w.heap.size≤pl:=by have:=HBB.o.size;omega
     have HBz:=qh (below_drewN HBB.o 1);have hd1:wy.drewN 1=wy.drew:=rfl;rw[hd1] at HBz;clear hd1 HBB;revert HR;revert H2;revert HV;revert HXS;revert HN;revert HP;revert HG2;revert HT
     refine cq (sdz wy) ?_;intro HT HG2 HP HN HXS HV H2 HR;have hU:UD (fun W=>W.cell? (ae bo 0)=some (pt O)∧W.cell? (ae O 0)=some (pt V)∧W.cell? (ae V 2)=some (ci tr)∧W.cell? (ae pl 0)=some (pt P)):=al fun W n h=>h;have hC0:=hU.at _ ⟨H2.k 0,HR.k 0,HV.k 2,HN.k 0⟩;refine dw aj hU hC0 ?_;intro S;generalize wy.drew=u0 at *;refine ao S hU [0,1,2,3,4,5,6,7,8,9,10,11,13] 94 6 hC0 ?_;constructor
     ·intro W' hW';simp only[pick,List.filterMap,gq1,gq2,gq3];obtain⟨q0,q1,q2,q3⟩:=hW'
      repeat (go_big_quiet_step (fail))
      exact wpQuiet_nil rfl
     refine az S hU 12 5 rfl hC0 fun n0 K1 hK1=>?_;go_wp2_with fail;refine(hmost.o _ (HXS.o.drewN n0)).mono ?_;rintro e W7 ⟨mo2,rfl,hb⟩;have HBc:=qh (bt (below_drewN HBz.o n0) hb);clear HBz;go_wp2_with fail;revert HT HG2 HP HN HXS HV H2 HR;refine cq (sbl hb) ?_;intro HT HG2 HP HN HXS HV H2 HR;have hC1:=hU.at _ ⟨H2.k 0,HR.k 0,HV.k 2,HN.k 0⟩;refine hK1 _ _ hC1 ?_;clear hK1 hC0;clear hb ;refine az S hU 14 4 rfl hC1 fun n1 K1 hK1=>?_;go_wp2_with fail;refine(pr (W7.drewN n1) O 171 P 89 mo2 #[pt pl,pt bo]).mono ?_;rintro e W8 ⟨rfl,hb8,hr0,hr1,hr2⟩;have HBd:=qh (bt (below_drewN HBc.o n1) hb8);have hs8:=HBc.o.size;clear HBc;go_wp2_with fail;have hzz:(W7.drewN n1).heap.size=W7.heap.size:=rfl;rw[hzz] at hr0 hr1 hr2;clear hzz;generalize htb:W7.heap.size=tb at hr0 hr1 hr2 ⊢;generalize htm:tb+1=tm at hr1 ⊢;generalize htd:tb+2=td at hr2 ⊢;have HT0:=qh hr0;have HT1:=qh hr1
     have HT2:=qh hr2;revert HT HG2 HP HN HXS HV H2 HR;refine cq (sbl hb8) ?_;intro HT HG2 HP HN HXS HV H2 HR;have hC2:=hU.at _ ⟨H2.k 0,HR.k 0,HV.k 2,HN.k 0⟩;refine hK1 _ _ hC2 ?_;clear hK1 hC1;clear hb8 hr0 hr1 hr2;refine ao S hU [15,16,17,18] 94 0 hC2 ?_;constructor
     ·intro W' hW';simp only[pick,List.filterMap,gq1,gq2,gq3];obtain⟨q0,q1,q2,q3⟩:=hW'
      repeat (go_big_quiet_step (fail))
      exact wpQuiet_nil rfl
     refine dd fun n9=>?_;revert HT0 HT1 HT2 HT HG2 HP HN HXS HV H2 HR;refine cq (sdw W8 n9) ?_;intro HT0 HT1 HT2 HT HG2 HP HN HXS HV H2 HR;clear S hU hC2;have HBe:=qh (below_drewN HBd.o n9);clear HBd;generalize W8.drewN n9=wz at *;go_wp2_with fail
     go_ret2
     exact⟨_,_,rfl,HBe.o,Or.inr ⟨by omega,xs,HPL.o,P,G2,C,g2,c2',ts,pl,bo,⟨tm,tb,td,rfl,by omega,by omega,by omega,by omega,HT1.o,HT0.o,HT2.o⟩,by omega,by omega,by omega,by omega,HN.o,H2.o,HP.o,HG2.o,HT.o,HLP.o⟩⟩
end Go.Proofs.YtojkaibpfdhmaaaGreatDoor

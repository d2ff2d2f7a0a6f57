/- How Publish and Copy begin. -/
import Derived.Test.YtojkaibpfdhmaaaGreatDoorP16
import Derived.Test.YtojkaibpfdhmaaaGreatDoorP25
namespace Go.Proofs.YtojkaibpfdhmaaaGreatDoor
open Go.RowKit
set_option maxRecDepth 100000
set_option maxHeartbeats 16000000
theorem vb{l a:List Value}{n k:Nat}{v:Value}(h:l.take n=a)(hk:k<n)(hv:a[k]?=some v):l[k]?=some v:=by
 subst h;rw[List.getElem?_take] at hv
 rwa [if_pos hk] at hv
def WrAt(W:World)(T:Nat→Prop)(O:Nat)(s:am)(nx l k q n:Nat)(fv:Value):Prop:=
 ∃P D c bw bo,ki W T O 141 P 68 #[pt bw,pt bo] fv∧T D∧T bw∧T bo∧Row W bw 141 #[pt P]∧Row W bo 95 #[pt O]∧Row W P 210 (WOp.cells ⟨0,nx,l,k,s,q,n⟩ D c)∧∃cur,Row W D 41 cur∧∀j,j<s.words→∃v:Nat,cur[j]?=some (cu v)
def RdAt(W:World)(T:Nat→Prop)(O:Nat)(x:ROp)(fv:Value):Prop:=
 ∃P D bw bo,ki W T O 147 P 72 #[pt bw,pt bo] fv∧T D∧T bw∧T bo∧Row W bw 147 #[pt P]∧Row W bo 95 #[pt O]∧Row W P 214 (x.cells D)∧∃gs:List Nat,gs.length=x.spot.words∧Row W D 41 (bj gs)
theorem c8z(w:World)(O V i:Nat)(v:dg)(o:OpC)(s:am)(hs:s.Ok)(ht1:1≤v.tr)(ht2:v.tr≤16)(hr:Row w O 122 (o.cells V v.Y i))(hv:Row w V 92 v.cells):Calls Tryz.prog 51 #[pt O,.agg s.cells] w fun e w'=>∃fv k,e=.returned (.tuple #[fv,ci k])∧Below w.heap.size w w'∧RdAt w' (fun b=>w.heap.size≤b) O ⟨s,v.tr,0,0,0,0,0,0⟩ fv:=by
 obtain⟨kd,tp,sb,cp,rk,sr,mo,fl,fb,se,wy,nx,en,co,su,ge,cn,lo,⟨zm,zs,zh,zf,ze⟩,gv,av,st,at_⟩:=o;obtain⟨T,tr,lg,tv,G,k,gk,sz,B,Y,yk⟩:=v;simp only at ht1 ht2;have hnew:=qh (fun W=>c2q W s hs tr ht1 ht2);have hmost:=qh (b9e s hs tr ht1 ht2);simp only[OpC.cells,dg.cells,am.cells] at *;have HB:=qh (brf w);have H2:=qh ((Row.new w 95 #[pt O]).alloc (.cells #[ci s.own,ci s.seq,ci s.first,ci s.words,ci s.depth] 112));have h3:=Row.new (w.alloc (.cells #[pt O] 95)) 112 #[ci s.own,ci s.seq,ci s.first,ci s.words,ci s.depth];have hz:(w.alloc (.cells #[pt O] 95)).heap.size=w.heap.size+1:=by simp
 rw[hz] at h3;have H3:=qh h3;have HR:=qh hr;have HV:=qh hv;revert HB;revert HR;revert HV
 refine cq (sa2 w (.cells #[pt O] 95) (.cells #[ci s.own,ci s.seq,ci s.first,ci s.words,ci s.depth] 112)) ?_;intro HV HR HB;have hOl:=hr.lt;clear hr hv h3 hz
 go_enter Tryz.func51,Tryz.ntmps51
 go_wp2_with fail;generalize hbo':w.heap.size=bo at H2 H3 ⊢;have hbo:w.heap.size≤bo:=by omega
 generalize hbs':bo+1=bs at H3 ⊢;generalize (w.alloc (.cells #[pt O] 95)).alloc (.cells #[ci s.own,ci s.seq,ci s.first,ci s.words,ci s.depth] 112)=wx at *;have hszx:=HB.o.size;have lt_O:O<wx.heap.size:=HR.o.lt;have lt_bo:bo<wx.heap.size:=H2.o.lt;have lt_bs:bs<wx.heap.size:=H3.o.lt;have lt_V:V<wx.heap.size:=HV.o.lt;have HBL:=qh (brf wx);revert HR;revert H2;revert H3;revert HV;revert HBL
 refine cq (sdz wx) ?_;intro HBL HV H3 H2 HR;have hU:Ups (fun W W'=>∃g:ag W,W'=g.to) (fun W=>Below wx.heap.size wx W∧W.cell? (ae bo 0)=some (pt O)∧W.cell? (ae O 0)=some (pt V)∧W.cell? (ae V 2)=some (ci tr)∧W.cell? (ae bs 0)=some (ci s.own)∧W.cell? (ae bs 1)=some (ci s.seq)∧W.cell? (ae bs 2)=some (ci s.first)∧W.cell? (ae bs 3)=some (ci s.words)∧W.cell? (ae bs 4)=some (ci s.depth)):=dj fun h hb=>⟨bt h.1 hb,ak h.2.1 hb,ak h.2.2.1 hb,ak h.2.2.2.1 hb,ak h.2.2.2.2.1 hb,ak h.2.2.2.2.2.1 hb,ak h.2.2.2.2.2.2.1 hb,ak h.2.2.2.2.2.2.2.1 hb,ak h.2.2.2.2.2.2.2.2 hb⟩;have hC0:=hU.at _ ⟨HBL.o,H2.k 0,HR.k 0,HV.k 2,H3.k 0,H3.k 1,H3.k 2,H3.k 3,H3.k 4⟩;refine tx 13 (some 6) wx 147 #[.pointer none] hU hC0 ?_ ?_
 ·intro K a W hCW hK;unfold wpOp;go_simp;exact Or.inl (hK _ _ (af (Below.refl _ W) _) ⟨hCW.1.size,Row.new W 147 _⟩)
 intro S;generalize wx.drew=u0 at *;refine ao S hU [0,1,2,3,4,5,6,7,8] 45 7 hC0 ?_;constructor
 ·intro W' hW';simp only[pick,List.filterMap,gq1,gq2,gq3];obtain⟨-,q0,q1,q2,q3,q4,q5,q6,q7⟩:=hW';have q0:=ln q0;have q1:=ln q1;have q2:=ln q2;have q3:=ln q3;have q4:=ln q4;have q5:=ln q5;have q6:=ln q6;have q7:=ln q7
  repeat (go_big_quiet_step (fail))
  exact wpQuiet_nil rfl
 refine b0g S hU 9 6 rfl fun W1 hbW K1 hK1=>?_;revert HBL HV H3 H2 HR;refine cq (sbb hbW) ?_;intro HBL HV H3 H2 HR;clear hbW;go_wp2_with fail;refine(hnew.o W1).mono ?_;rintro e W6 ⟨P,D,rfl,hb,hP,hD,hrP,hrD⟩;have P2:wx.heap.size≤P:=nlt HBL.o.size hP;have D2:wx.heap.size≤D:=nlt HBL.o.size hD;go_wp2_with fail;have HP:=qh hrP;have HD:=qh hrD;revert HBL HV H3 H2 HR;refine cq (sbb hb) ?_;intro HBL HV H3 H2 HR;have hC1:=hU.at _ ⟨HBL.o,H2.k 0,HR.k 0,HV.k 2,H3.k 0,H3.k 1,H3.k 2,H3.k 3,H3.k 4⟩;refine hK1 _ _ hC1 (fun _ p hp=>⟨hp.1,hp.2.bel hb⟩) ?_;clear hK1 hC0;clear hb hP hD hrP hrD;refine ao S hU [10,11,12] 45 3 hC1 ?_;constructor
 ·intro W' hW';simp only[pick,List.filterMap,gq1,gq2,gq3];obtain⟨-,q0,q1,q2,q3,q4,q5,q6,q7⟩:=hW';have q0:=ln q0;have q1:=ln q1;have q2:=ln q2;have q3:=ln q3;have q4:=ln q4;have q5:=ln q5;have q6:=ln q6;have q7:=ln q7
  repeat (go_big_quiet_step (fail))
  exact wpQuiet_nil rfl
 refine ip hU 2 _ _ _ (by kernel_rfl) hC1 (fun pl W5 hr hc hp=>?_);have hbW:=a7 hr;clear hr;have lo_pl:=hp.1;have HN:=qh (hp.2);revert HP HD HBL HV H3 H2 HR;refine cq (sbb hbW) ?_;intro HP HD HBL HV H3 H2 HR;clear hc hp hbW hC1;have hC2:=hU.at _ ⟨HBL.o,H2.k 0,HR.k 0,HV.k 2,H3.k 0,H3.k 1,H3.k 2,H3.k 3,H3.k 4⟩;have ne_O_pl:O≠pl:=by have:=lt_O;omega
 have ne_bo_pl:bo≠pl:=by have:=lt_bo;omega
 have ne_bs_pl:bs≠pl:=by have:=lt_bs;omega
 have ne_V_pl:V≠pl:=by have:=lt_V;omega
 have ne_P_pl:=HP.o.ne HN.o (by decide);have ne_D_pl:=HD.o.ne HN.o (by decide);refine re S hU 14 1 rfl hC2 fun W1 hbW K1 hK1=>?_;revert HN HP HD HBL HV H3 H2 HR;refine cq (sbb hbW) ?_;intro HN HP HD HBL HV H3 H2 HR;clear hbW;have hfz:=HN.o.free;have hcw:=HN.k 0;go_wp2_with fail;clear hfz hcw;replace HN:=qh ((HN.o.set 0 (pt P)).to (cs':=#[pt P]) rfl);revert HP HD HBL HV H3 H2 HR;refine cm (sk W1 pl 0 (pt P)) ⟨nn ne_P_pl,nn ne_D_pl,mn lo_pl,nn ne_V_pl,nn ne_bs_pl,nn ne_bo_pl,nn ne_O_pl,trivial⟩ ?_;intro HP HD HBL HV H3 H2 HR;have hC3:=hU.at _ ⟨HBL.o,H2.k 0,HR.k 0,HV.k 2,H3.k 0,H3.k 1,H3.k 2,H3.k 3,H3.k 4⟩;refine hK1 _ _ hC3  ?_;clear hK1 hC2;generalize (W1.setCell ⟨pl,0,none⟩ (pt P))=v3 at *;refine ao S hU [15] 45 0 hC3 ?_;constructor
 ·intro W' hW';simp only[pick,List.filterMap,gq1,gq2,gq3];obtain⟨-,q0,q1,q2,q3,q4,q5,q6,q7⟩:=hW';have q0:=ln q0;have q1:=ln q1;have q2:=ln q2;have q3:=ln q3;have q4:=ln q4;have q5:=ln q5;have q6:=ln q6;have q7:=ln q7
  repeat (go_big_quiet_step (fail))
  exact wpQuiet_nil rfl
 refine rh fun wy hb9=>?_;revert HN HP HD HBL HV H3 H2 HR;refine cq (sbb hb9) ?_;intro HN HP HD HBL HV H3 H2 HR;clear S hU hC3 hb9;have HBB:=qh (bt HB.o HBL.o);clear HB HBL;go_wp2_with fail;have HBz:=qh (below_drewN HBB.o 1);have hd1:wy.drewN 1=wy.drew:=rfl;rw[hd1] at HBz;clear hd1 HBB;revert HR;revert H2;revert H3;revert HV;revert HP;revert HD;revert HN
 refine cq (sdz wy) ?_;intro HN HD HP HV H3 H2 HR;have hU:UD (fun W=>W.cell? (ae bo 0)=some (pt O)∧W.cell? (ae O 0)=some (pt V)∧W.cell? (ae V 2)=some (ci tr)∧W.cell? (ae pl 0)=some (pt P)∧W.cell? (ae bs 0)=some (ci s.own)∧W.cell? (ae bs 1)=some (ci s.seq)∧W.cell? (ae bs 2)=some (ci s.first)∧W.cell? (ae bs 3)=some (ci s.words)∧W.cell? (ae bs 4)=some (ci s.depth)):=al fun W n h=>h;have hC0:=hU.at _ ⟨H2.k 0,HR.k 0,HV.k 2,HN.k 0,H3.k 0,H3.k 1,H3.k 2,H3.k 3,H3.k 4⟩;refine dw aj hU hC0 ?_;intro S;generalize wy.drew=u0 at *;refine ao S hU [0,1,2,3,4,5,6,7,8,9,10,11,13] 45 6 hC0 ?_;constructor
 ·intro W' hW';simp only[pick,List.filterMap,gq1,gq2,gq3];obtain⟨q0,q1,q2,q3,q4,q5,q6,q7,q8⟩:=hW'
  repeat (go_big_quiet_step (fail))
  exact wpQuiet_nil rfl
 refine az S hU 12 5 rfl hC0 fun n0 K1 hK1=>?_;go_wp2_with fail;refine(hmost.o _).mono ?_;rintro e W7 ⟨mo2,rfl,hb⟩;have HBc:=qh (bt (below_drewN HBz.o n0) hb);clear HBz;go_wp2_with fail;revert HN HD HP HV H3 H2 HR;refine cq (sbl hb) ?_;intro HN HD HP HV H3 H2 HR;have hC1:=hU.at _ ⟨H2.k 0,HR.k 0,HV.k 2,HN.k 0,H3.k 0,H3.k 1,H3.k 2,H3.k 3,H3.k 4⟩;refine hK1 _ _ hC1 ?_;clear hK1 hC0;clear hb ;refine az S hU 14 4 rfl hC1 fun n1 K1 hK1=>?_;go_wp2_with fail;refine(pr (W7.drewN n1) O 147 P 72 mo2 #[pt pl,pt bo]).mono ?_;rintro e W8 ⟨rfl,hb8,hr0,hr1,hr2⟩;have HBd:=qh (bt (below_drewN HBc.o n1) hb8);have hs8:=HBc.o.size;clear HBc;go_wp2_with fail;have hzz:(W7.drewN n1).heap.size=W7.heap.size:=rfl;rw[hzz] at hr0 hr1 hr2;clear hzz;generalize htb:W7.heap.size=tb at hr0 hr1 hr2 ⊢;generalize htm:tb+1=tm at hr1 ⊢;generalize htd:tb+2=td at hr2 ⊢;have HT0:=qh hr0;have HT1:=qh hr1
 have HT2:=qh hr2;revert HN HD HP HV H3 H2 HR;refine cq (sbl hb8) ?_;intro HN HD HP HV H3 H2 HR;have hC2:=hU.at _ ⟨H2.k 0,HR.k 0,HV.k 2,HN.k 0,H3.k 0,H3.k 1,H3.k 2,H3.k 3,H3.k 4⟩;refine hK1 _ _ hC2 ?_;clear hK1 hC1;clear hb8 hr0 hr1 hr2;refine ao S hU [15,16,17,18] 45 0 hC2 ?_;constructor
 ·intro W' hW';simp only[pick,List.filterMap,gq1,gq2,gq3];obtain⟨q0,q1,q2,q3,q4,q5,q6,q7,q8⟩:=hW'
  repeat (go_big_quiet_step (fail))
  exact wpQuiet_nil rfl
 refine dd fun n9=>?_;revert HT0 HT1 HT2 HN HD HP HV H3 H2 HR;refine cq (sdw W8 n9) ?_;intro HT0 HT1 HT2 HN HD HP HV H3 H2 HR;clear S hU hC2;have HBe:=qh (below_drewN HBd.o n9);clear HBd;generalize W8.drewN n9=wz at *;go_wp2_with fail
 go_ret2
 exact⟨_,_,rfl,HBe.o,P,D,pl,bo,⟨tm,tb,td,rfl,by omega,by omega,by omega,by omega,HT1.o,HT0.o,HT2.o⟩,by omega,by omega,by omega,HN.o,H2.o,HP.o,_,by simp,HD.o⟩
def vd(b:Bool)(nw:Nat)(s:am)(tr:Nat)(W:World)(T:Nat→Prop)(O:Nat)(fv:Value):Prop:=(b=false∧oe W T O 18 fv)∨(b=true∧nw≠s.words∧oe W T O 17 fv)∨(b=true∧nw=s.words∧WrAt W T O s 0 tr 0 0 0 fv)
theorem Has.drew{W:World}{sz n:Nat}{v:Value}{cs:List Value}(h:Has W sz v n cs):Has W.drew sz v n cs:=h.bel ((Below.refl _ W).drew)
theorem Has.drewN{W:World}{sz n:Nat}{v:Value}{cs:List Value}(h:Has W sz v n cs)(k:Nat):Has (W.drewN k) sz v n cs:=h.bel (below_drewN (Below.refl _ W) k)
theorem b5r(w:World)(O V i M nm:Nat)(v:dg)(o:OpC)(s:am)(ht1:1≤v.tr)(ht2:v.tr≤16)(t:Nat)(ows:List Own)(ow:Own)(fm:Lit→Option Value)(wl:List Nat)(hr:Row w O 122 (o.cells V v.Y i))(hv:Row w V 92 v.cells)(hto:o.topic=t)(htl:t≤1000)(hy:f7 w v.Y ows)(hi:ows[i]?=some ow)(hmo:ow.m=M)(hm:a8 Tryz.prog 3 w M nm fm)(hw:Has w 1 o.words wl.length (bj wl).toList)(hf:fm (ig t)=none):Calls Tryz.prog 50 #[pt O,.agg s.cells] w fun e w'=>∃fv k,e=.returned (.tuple #[fv,ci k])∧Below w.heap.size w w'∧vd (fm (ig t)).isSome wl.length s v.tr w' (fun b=>w.heap.size≤b) O fv:=by
 obtain⟨kd,tp,sb,cp,rk,sr,mo,fl,fb,se,wy,nx,en,co,su,ge,cn,lo,⟨zm,zs,zh,zf,ze⟩,gv,av,st,at_⟩:=o;obtain⟨T,tr,lg,tv,G,k,gk,sz,B,Y,yk⟩:=v;simp only at ht1 ht2 hto hw;subst hto;have htw:(Lit.int .i64 (t:Int)).wf=true:=ux (by omega) (by omega)
 obtain⟨wa,wc,rfl⟩:∃a c,wy=.slice a wl.length c:=by
  rcases hw.shape with ⟨h,h0⟩|⟨a,c,h,_⟩
  ·exact⟨none,0,by rw[h,h0]⟩
  ·exact⟨_,_,h⟩
 simp only[OpC.cells,dg.cells,am.cells] at *;have HB:=qh (brf w);have H2:=qh ((Row.new w 95 #[pt O]).alloc (.cells #[ci s.own,ci s.seq,ci s.first,ci s.words,ci s.depth] 112));have h3:=Row.new (w.alloc (.cells #[pt O] 95)) 112 #[ci s.own,ci s.seq,ci s.first,ci s.words,ci s.depth];have hz:(w.alloc (.cells #[pt O] 95)).heap.size=w.heap.size+1:=by simp
 rw[hz] at h3;have H3:=qh h3;have HR:=qh hr;have HV:=qh hv;have HY:=qh hy;have HM:=qh hm;revert HB;revert HR;revert HV;revert HY;revert HM
 refine cq (sa2 w (.cells #[pt O] 95) (.cells #[ci s.own,ci s.seq,ci s.first,ci s.words,ci s.depth] 112)) ?_;intro HM HY HV HR HB;have HW:=qh (hw.bel (af (af (brf w) (.cells #[pt O] 95)) (.cells #[ci s.own,ci s.seq,ci s.first,ci s.words,ci s.depth] 112)));have HI:=qh hi;have hOl:=hr.lt;clear hr hv h3 hz hy hm hw hi
 go_enter Tryz.func50,Tryz.ntmps50
 go_wp2_with fail;generalize hbo':w.heap.size=bo at H2 H3 ⊢;have hbo:w.heap.size≤bo:=by omega
 generalize hbs':bo+1=bs at H3 ⊢;generalize (w.alloc (.cells #[pt O] 95)).alloc (.cells #[ci s.own,ci s.seq,ci s.first,ci s.words,ci s.depth] 112)=wx at *;have HBz:=qh (below_drewN HB.o 1);have hd1:wx.drewN 1=wx.drew:=rfl;rw[hd1] at HBz;clear hd1 HB;replace HW:=qh (HW.o.drew);revert HR;revert H2;revert H3;revert HV;revert HY;revert HM
 refine cq (sdz wx) ?_;intro HM HY HV H3 H2 HR;have hU:UD (fun W=>W.cell? (ae bo 0)=some (pt O)∧W.cell? (ae O 1)=some (.pointer (some ⟨Y,i*3,none⟩))∧W.cell? (ae O 4)=some (ci (t:Int))∧W.cell? (ae Y (i*3))=some (.map (some M))∧a8 Tryz.prog 3 W M nm fm):=al fun W n h=>⟨h.1,h.2.1,h.2.2.1,h.2.2.2.1,h.2.2.2.2.drewN n⟩;have hC0:=hU.at _ ⟨H2.k 0,HR.k 1,HR.k 4,by rw[←hmo];exact(f7.c HY.o HI.o).1,HM.o⟩;refine dw aj hU hC0 ?_;intro S;generalize wx.drew=u0 at *;refine ao S hU [0,1,2,3,4,5,6,7,8,9,10,11,12,13,14,15,16,17] 74 0 hC0 ?_;constructor
 ·intro W' hW';simp only[pick,List.filterMap,gq1,gq2,gq3];obtain⟨q0,q1,q2,q3,q4⟩:=hW';have el:=fun (m:Nat)=>by have h:=(q4.drewN m).look_ok (t:=93) (Maps.int_keyed Tryz.underlying3) Tryz.underlying93 (z:=ci 0) rfl (jd (t:Int) htw);rw[hf] at h;exact h
  simp only[Option.isSome_none,Option.getD_none] at el
  repeat (go_big_quiet_step (fail))
  exact wpQuiet_nil rfl
 refine dd fun n9=>?_;replace HW:=qh (HW.o.drewN n9);revert HM HY HV H3 H2 HR;refine cq (sdw u0 n9) ?_;intro HM HY HV H3 H2 HR;clear S hU hC0;have HB:=qh (below_drewN HBz.o n9);clear HBz;generalize u0.drewN n9=w2 at *;have co:=H2.k 0
 go_wp2_with (first|(go_at_call 47;refine(fy _ _ _).mono ?_;rintro e w_ ⟨rfl,hb,hr1,hr2⟩))
 go_ret2
 exact⟨_,1,rfl,bt HB.o hb,Or.inl ⟨by rw[hf];rfl,_,_,rfl,nlt HB.o.size (Nat.le_succ _),HB.o.size,hr2,hr1⟩⟩
theorem c2r(w:World)(O V i M nm:Nat)(v:dg)(o:OpC)(s:am)(hs:s.Ok)(ht1:1≤v.tr)(ht2:v.tr≤16)(t:Nat)(ows:List Own)(ow:Own)(fm:Lit→Option Value)(wl:List Nat)(hr:Row w O 122 (o.cells V v.Y i))(hv:Row w V 92 v.cells)(hto:o.topic=t)(htl:t≤1000)(hy:f7 w v.Y ows)(hi:ows[i]?=some ow)(hmo:ow.m=M)(hm:a8 Tryz.prog 3 w M nm fm)(hw:Has w 1 o.words wl.length (bj wl).toList)(hf0:(fm (ig t)).isSome=true)(hnw:wl.length≠s.words):Calls Tryz.prog 50 #[pt O,.agg s.cells] w fun e w'=>∃fv k,e=.returned (.tuple #[fv,ci k])∧Below w.heap.size w w'∧vd (fm (ig t)).isSome wl.length s v.tr w' (fun b=>w.heap.size≤b) O fv:=by
 obtain⟨kd,tp,sb,cp,rk,sr,mo,fl,fb,se,wy,nx,en,co,su,ge,cn,lo,⟨zm,zs,zh,zf,ze⟩,gv,av,st,at_⟩:=o;obtain⟨T,tr,lg,tv,G,k,gk,sz,B,Y,yk⟩:=v;simp only at ht1 ht2 hto hw;subst hto;have htw:(Lit.int .i64 (t:Int)).wf=true:=ux (by omega) (by omega)
 obtain⟨wa,wc,rfl⟩:∃a c,wy=.slice a wl.length c:=by
  rcases hw.shape with ⟨h,h0⟩|⟨a,c,h,_⟩
  ·exact⟨none,0,by rw[h,h0]⟩
  ·exact⟨_,_,h⟩
 have hnew:=qh (fun W=>b1k W s hs tr ht1 ht2 wa wl.length wc hnw);have hmost:=qh (xq s hs tr ht1 ht2);simp only[OpC.cells,dg.cells,am.cells] at *;have HB:=qh (brf w);have H2:=qh ((Row.new w 95 #[pt O]).alloc (.cells #[ci s.own,ci s.seq,ci s.first,ci s.words,ci s.depth] 112));have h3:=Row.new (w.alloc (.cells #[pt O] 95)) 112 #[ci s.own,ci s.seq,ci s.first,ci s.words,ci s.depth];have hz:(w.alloc (.cells #[pt O] 95)).heap.size=w.heap.size+1:=by simp
 rw[hz] at h3;have H3:=qh h3;have HR:=qh hr;have HV:=qh hv;have HY:=qh hy;have HM:=qh hm;revert HB;revert HR;revert HV;revert HY;revert HM
 refine cq (sa2 w (.cells #[pt O] 95) (.cells #[ci s.own,ci s.seq,ci s.first,ci s.words,ci s.depth] 112)) ?_;intro HM HY HV HR HB;have HW:=qh (hw.bel (af (af (brf w) (.cells #[pt O] 95)) (.cells #[ci s.own,ci s.seq,ci s.first,ci s.words,ci s.depth] 112)));have HI:=qh hi;have hOl:=hr.lt;clear hr hv h3 hz hy hm hw hi;obtain⟨fx,hf⟩:=Option.isSome_iff_exists.1 hf0
 go_enter Tryz.func50,Tryz.ntmps50
 go_wp2_with fail;generalize hbo':w.heap.size=bo at H2 H3 ⊢;have hbo:w.heap.size≤bo:=by omega
 generalize hbs':bo+1=bs at H3 ⊢;generalize (w.alloc (.cells #[pt O] 95)).alloc (.cells #[ci s.own,ci s.seq,ci s.first,ci s.words,ci s.depth] 112)=wx at *;have HBz:=qh (below_drewN HB.o 1);have hd1:wx.drewN 1=wx.drew:=rfl;rw[hd1] at HBz;clear hd1 HB;replace HW:=qh (HW.o.drew);revert HR;revert H2;revert H3;revert HV;revert HY;revert HM
 refine cq (sdz wx) ?_;intro HM HY HV H3 H2 HR;have hU:UD (fun W=>W.cell? (ae bo 0)=some (pt O)∧W.cell? (ae O 1)=some (.pointer (some ⟨Y,i*3,none⟩))∧W.cell? (ae O 4)=some (ci (t:Int))∧W.cell? (ae Y (i*3))=some (.map (some M))∧a8 Tryz.prog 3 W M nm fm):=al fun W n h=>⟨h.1,h.2.1,h.2.2.1,h.2.2.2.1,h.2.2.2.2.drewN n⟩;have hC0:=hU.at _ ⟨H2.k 0,HR.k 1,HR.k 4,by rw[←hmo];exact(f7.c HY.o HI.o).1,HM.o⟩;refine dw aj hU hC0 ?_;intro S;generalize wx.drew=u0 at *;refine ao S hU [0,1,2,3,4,5,6,7,8,9,10,11,12,13,14,15,16,17] 74 0 hC0 ?_;constructor
 ·intro W' hW';simp only[pick,List.filterMap,gq1,gq2,gq3];obtain⟨q0,q1,q2,q3,q4⟩:=hW';have el:=fun (m:Nat)=>by have h:=(q4.drewN m).look_ok (t:=93) (Maps.int_keyed Tryz.underlying3) Tryz.underlying93 (z:=ci 0) rfl (jd (t:Int) htw);rw[hf] at h;exact h
  simp only[Option.isSome_some,Option.getD_some] at el
  repeat (go_big_quiet_step (fail))
  exact wpQuiet_nil rfl
 refine dd fun n9=>?_;replace HW:=qh (HW.o.drewN n9);revert HM HY HV H3 H2 HR;refine cq (sdw u0 n9) ?_;intro HM HY HV H3 H2 HR;clear S hU hC0;have HB:=qh (below_drewN HBz.o n9);clear HBz;generalize u0.drewN n9=w2 at *;go_wp2_with fail;clear HY HM;have hszx:=HB.o.size;have lt_O:O<w2.heap.size:=HR.o.lt;have lt_bo:bo<w2.heap.size:=H2.o.lt;have lt_bs:bs<w2.heap.size:=H3.o.lt;have lt_V:V<w2.heap.size:=HV.o.lt;have HBL:=qh (brf w2);replace HW:=qh (HW.o.drew);revert HR;revert H2;revert H3;revert HV;revert HBL
 refine cq (sdz w2) ?_;intro HBL HV H3 H2 HR;have hU:Ups (fun W W'=>∃g:ag W,W'=g.to) (fun W=>Below w2.heap.size w2 W∧W.cell? (ae bo 0)=some (pt O)∧W.cell? (ae O 0)=some (pt V)∧W.cell? (ae O 13)=some ((Value.slice wa wl.length wc))∧W.cell? (ae V 2)=some (ci tr)∧W.cell? (ae bs 0)=some (ci s.own)∧W.cell? (ae bs 1)=some (ci s.seq)∧W.cell? (ae bs 2)=some (ci s.first)∧W.cell? (ae bs 3)=some (ci s.words)∧W.cell? (ae bs 4)=some (ci s.depth)):=dj fun h hb=>⟨bt h.1 hb,ak h.2.1 hb,ak h.2.2.1 hb,ak h.2.2.2.1 hb,ak h.2.2.2.2.1 hb,ak h.2.2.2.2.2.1 hb,ak h.2.2.2.2.2.2.1 hb,ak h.2.2.2.2.2.2.2.1 hb,ak h.2.2.2.2.2.2.2.2.1 hb,ak h.2.2.2.2.2.2.2.2.2 hb⟩;have hC0:=hU.at _ ⟨HBL.o,H2.k 0,HR.k 0,HR.k 13,HV.k 2,H3.k 0,H3.k 1,H3.k 2,H3.k 3,H3.k 4⟩;refine tx 18 (some 8) w2 141 #[.pointer none] hU hC0 ?_ ?_
 ·intro K a W hCW hK;unfold wpOp;go_simp;exact Or.inl (hK _ _ (af (Below.refl _ W) _) ⟨hCW.1.size,Row.new W 141 _⟩)
 intro S;generalize w2.drew=u0 at *;refine ao S hU [0,1,2,3,4,5,6,7,8,9,10,11,12,13] 74 7 hC0 ?_;constructor
 ·intro W' hW';simp only[pick,List.filterMap,gq1,gq2,gq3];obtain⟨-,q0,q1,q2,q3,q4,q5,q6,q7,q8⟩:=hW';have q0:=ln q0;have q1:=ln q1;have q2:=ln q2;have q3:=ln q3;have q4:=ln q4;have q5:=ln q5;have q6:=ln q6;have q7:=ln q7;have q8:=ln q8
  repeat (go_big_quiet_step (fail))
  exact wpQuiet_nil rfl
 refine b0g S hU 14 6 rfl fun W1 hbW K1 hK1=>?_;replace HW:=qh ((HW.o).bel hbW);revert HBL HV H3 H2 HR;refine cq (sbb hbW) ?_;intro HBL HV H3 H2 HR;clear hbW;go_wp2_with fail;refine(hnew.o W1).mono ?_;rintro e W6 ⟨rfl,hb⟩;go_wp2_with fail;replace HW:=qh ((HW.o).bel hb);revert HBL HV H3 H2 HR;refine cq (sbb hb) ?_;intro HBL HV H3 H2 HR;have hC1:=hU.at _ ⟨HBL.o,H2.k 0,HR.k 0,HR.k 13,HV.k 2,H3.k 0,H3.k 1,H3.k 2,H3.k 3,H3.k 4⟩;refine hK1 _ _ hC1 (fun _ p hp=>⟨hp.1,hp.2.bel hb⟩) ?_;clear hK1 hC0;clear hb  ;clear HW;refine ao S hU [15,16,17] 74 3 hC1 ?_;constructor
 ·intro W' hW';simp only[pick,List.filterMap,gq1,gq2,gq3];obtain⟨-,q0,q1,q2,q3,q4,q5,q6,q7,q8⟩:=hW';have q0:=ln q0;have q1:=ln q1;have q2:=ln q2;have q3:=ln q3;have q4:=ln q4;have q5:=ln q5;have q6:=ln q6;have q7:=ln q7;have q8:=ln q8
  repeat (go_big_quiet_step (fail))
  exact wpQuiet_nil rfl
 refine ip hU 2 _ _ _ (by kernel_rfl) hC1 (fun pl W5 hr hc hp=>?_);have hbW:=a7 hr;clear hr;have lo_pl:=hp.1;have HN:=qh (hp.2);revert HBL HV H3 H2 HR;refine cq (sbb hbW) ?_;intro HBL HV H3 H2 HR;clear hc hp hbW hC1;have hC2:=hU.at _ ⟨HBL.o,H2.k 0,HR.k 0,HR.k 13,HV.k 2,H3.k 0,H3.k 1,H3.k 2,H3.k 3,H3.k 4⟩;have ne_O_pl:O≠pl:=by have:=lt_O;omega
 have ne_bo_pl:bo≠pl:=by have:=lt_bo;omega
 have ne_bs_pl:bs≠pl:=by have:=lt_bs;omega
 have ne_V_pl:V≠pl:=by have:=lt_V;omega
 refine re S hU 19 1 rfl hC2 fun W1 hbW K1 hK1=>?_;revert HN HBL HV H3 H2 HR;refine cq (sbb hbW) ?_;intro HN HBL HV H3 H2 HR;clear hbW;have hfz:=HN.o.free;have hcw:=HN.k 0;go_wp2_with fail;clear hfz hcw;replace HN:=qh ((HN.o.set 0 (.pointer none)).to (cs':=#[.pointer none]) rfl);revert HBL HV H3 H2 HR;refine cm (sk W1 pl 0 (.pointer none)) ⟨mn lo_pl,nn ne_V_pl,nn ne_bs_pl,nn ne_bo_pl,nn ne_O_pl,trivial⟩ ?_;intro HBL HV H3 H2 HR;have hC3:=hU.at _ ⟨HBL.o,H2.k 0,HR.k 0,HR.k 13,HV.k 2,H3.k 0,H3.k 1,H3.k 2,H3.k 3,H3.k 4⟩;refine hK1 _ _ hC3  ?_;clear hK1 hC2;generalize (W1.setCell ⟨pl,0,none⟩ (.pointer none))=v3 at *;refine ao S hU [20] 74 0 hC3 ?_;constructor
 ·intro W' hW';simp only[pick,List.filterMap,gq1,gq2,gq3];obtain⟨-,q0,q1,q2,q3,q4,q5,q6,q7,q8⟩:=hW';have q0:=ln q0;have q1:=ln q1;have q2:=ln q2;have q3:=ln q3;have q4:=ln q4;have q5:=ln q5;have q6:=ln q6;have q7:=ln q7;have q8:=ln q8
  repeat (go_big_quiet_step (fail))
  exact wpQuiet_nil rfl
 refine rh fun wy2 hb9=>?_;revert HN HBL HV H3 H2 HR;refine cq (sbb hb9) ?_;intro HN HBL HV H3 H2 HR;clear S hU hC3 hb9;have HBB:=qh (bt HB.o HBL.o);clear HB HBL;have co:=H2.k 0
 go_wp2_with (first|(go_at_call 47;refine(fy _ _ _).mono ?_;rintro e w_ ⟨rfl,hb,hr1,hr2⟩))
 go_ret2
 exact⟨_,1,rfl,bt HBB.o hb,Or.inr (Or.inl ⟨by rw[hf];rfl,hnw,_,_,rfl,nlt HBB.o.size (Nat.le_succ _),HBB.o.size,hr2,hr1⟩)⟩
theorem c2s(w:World)(O V i M nm:Nat)(v:dg)(o:OpC)(s:am)(hs:s.Ok)(ht1:1≤v.tr)(ht2:v.tr≤16)(t:Nat)(ows:List Own)(ow:Own)(fm:Lit→Option Value)(wl:List Nat)(hr:Row w O 122 (o.cells V v.Y i))(hv:Row w V 92 v.cells)(hto:o.topic=t)(htl:t≤1000)(hy:f7 w v.Y ows)(hi:ows[i]?=some ow)(hmo:ow.m=M)(hm:a8 Tryz.prog 3 w M nm fm)(hw:Has w 1 o.words wl.length (bj wl).toList)(hf0:(fm (ig t)).isSome=true)(hnw:wl.length=s.words):Calls Tryz.prog 50 #[pt O,.agg s.cells] w fun e w'=>∃fv k,e=.returned (.tuple #[fv,ci k])∧Below w.heap.size w w'∧vd (fm (ig t)).isSome wl.length s v.tr w' (fun b=>w.heap.size≤b) O fv:=by
 obtain⟨kd,tp,sb,cp,rk,sr,mo,fl,fb,se,wy,nx,en,co,su,ge,cn,lo,⟨zm,zs,zh,zf,ze⟩,gv,av,st,at_⟩:=o;obtain⟨T,tr,lg,tv,G,k,gk,sz,B,Y,yk⟩:=v;simp only at ht1 ht2 hto hw;subst hto;have htw:(Lit.int .i64 (t:Int)).wf=true:=ux (by omega) (by omega)
 obtain⟨wa,wc,rfl⟩:∃a c,wy=.slice a wl.length c:=by
  rcases hw.shape with ⟨h,h0⟩|⟨a,c,h,_⟩
  ·exact⟨none,0,by rw[h,h0]⟩
  ·exact⟨_,_,h⟩
 have hnew:=qh (fun W (h:Has W 1 (.slice wa wl.length wc) wl.length (bj wl).toList)=>b9f W s hs tr ht1 ht2 (.slice wa wl.length wc) (bj wl).toList ((congrArg (fun z=>Has W 1 (.slice wa wl.length wc) z (bj wl).toList) hnw).mp h) (je wl));have HNW:=qh hnw;clear hnw;have hmost:=qh (xq s hs tr ht1 ht2);simp only[OpC.cells,dg.cells,am.cells] at *;have HB:=qh (brf w);have H2:=qh ((Row.new w 95 #[pt O]).alloc (.cells #[ci s.own,ci s.seq,ci s.first,ci s.words,ci s.depth] 112));have h3:=Row.new (w.alloc (.cells #[pt O] 95)) 112 #[ci s.own,ci s.seq,ci s.first,ci s.words,ci s.depth];have hz:(w.alloc (.cells #[pt O] 95)).heap.size=w.heap.size+1:=by simp
 rw[hz] at h3;have H3:=qh h3;have HR:=qh hr;have HV:=qh hv;have HY:=qh hy;have HM:=qh hm;revert HB;revert HR;revert HV;revert HY;revert HM
 refine cq (sa2 w (.cells #[pt O] 95) (.cells #[ci s.own,ci s.seq,ci s.first,ci s.words,ci s.depth] 112)) ?_;intro HM HY HV HR HB;have HW:=qh (hw.bel (af (af (brf w) (.cells #[pt O] 95)) (.cells #[ci s.own,ci s.seq,ci s.first,ci s.words,ci s.depth] 112)));have HI:=qh hi;have hOl:=hr.lt;clear hr hv h3 hz hy hm hw hi;obtain⟨fx,hf⟩:=Option.isSome_iff_exists.1 hf0
 go_enter Tryz.func50,Tryz.ntmps50
 go_wp2_with fail;generalize hbo':w.heap.size=bo at H2 H3 ⊢;have hbo:w.heap.size≤bo:=by omega
 generalize hbs':bo+1=bs at H3 ⊢;generalize (w.alloc (.cells #[pt O] 95)).alloc (.cells #[ci s.own,ci s.seq,ci s.first,ci s.words,ci s.depth] 112)=wx at *;have HBz:=qh (below_drewN HB.o 1);have hd1:wx.drewN 1=wx.drew:=rfl;rw[hd1] at HBz;clear hd1 HB;replace HW:=qh (HW.o.drew);revert HR;revert H2;revert H3;revert HV;revert HY;revert HM
 refine cq (sdz wx) ?_;intro HM HY HV H3 H2 HR;have hU:UD (fun W=>W.cell? (ae bo 0)=some (pt O)∧W.cell? (ae O 1)=some (.pointer (some ⟨Y,i*3,none⟩))∧W.cell? (ae O 4)=some (ci (t:Int))∧W.cell? (ae Y (i*3))=some (.map (some M))∧a8 Tryz.prog 3 W M nm fm):=al fun W n h=>⟨h.1,h.2.1,h.2.2.1,h.2.2.2.1,h.2.2.2.2.drewN n⟩;have hC0:=hU.at _ ⟨H2.k 0,HR.k 1,HR.k 4,by rw[←hmo];exact(f7.c HY.o HI.o).1,HM.o⟩;refine dw aj hU hC0 ?_;intro S;generalize wx.drew=u0 at *;refine ao S hU [0,1,2,3,4,5,6,7,8,9,10,11,12,13,14,15,16,17] 74 0 hC0 ?_;constructor
 ·intro W' hW';simp only[pick,List.filterMap,gq1,gq2,gq3];obtain⟨q0,q1,q2,q3,q4⟩:=hW';have el:=fun (m:Nat)=>by have h:=(q4.drewN m).look_ok (t:=93) (Maps.int_keyed Tryz.underlying3) Tryz.underlying93 (z:=ci 0) rfl (jd (t:Int) htw);rw[hf] at h;exact h
  simp only[Option.isSome_some,Option.getD_some] at el
  repeat (go_big_quiet_step (fail))
  exact wpQuiet_nil rfl
 refine dd fun n9=>?_;replace HW:=qh (HW.o.drewN n9);revert HM HY HV H3 H2 HR;refine cq (sdw u0 n9) ?_;intro HM HY HV H3 H2 HR;clear S hU hC0;have HB:=qh (below_drewN HBz.o n9);clear HBz;generalize u0.drewN n9=w2 at *;go_wp2_with fail;clear HY HM;have hszx:=HB.o.size;have lt_O:O<w2.heap.size:=HR.o.lt;have lt_bo:bo<w2.heap.size:=H2.o.lt;have lt_bs:bs<w2.heap.size:=H3.o.lt;have lt_V:V<w2.heap.size:=HV.o.lt;have HBL:=qh (brf w2);replace HW:=qh (HW.o.drew);revert HR;revert H2;revert H3;revert HV;revert HBL
 refine cq (sdz w2) ?_;intro HBL HV H3 H2 HR;have hU:Ups (fun W W'=>∃g:ag W,W'=g.to) (fun W=>Below w2.heap.size w2 W∧W.cell? (ae bo 0)=some (pt O)∧W.cell? (ae O 0)=some (pt V)∧W.cell? (ae O 13)=some ((Value.slice wa wl.length wc))∧W.cell? (ae V 2)=some (ci tr)∧W.cell? (ae bs 0)=some (ci s.own)∧W.cell? (ae bs 1)=some (ci s.seq)∧W.cell? (ae bs 2)=some (ci s.first)∧W.cell? (ae bs 3)=some (ci s.words)∧W.cell? (ae bs 4)=some (ci s.depth)):=dj fun h hb=>⟨bt h.1 hb,ak h.2.1 hb,ak h.2.2.1 hb,ak h.2.2.2.1 hb,ak h.2.2.2.2.1 hb,ak h.2.2.2.2.2.1 hb,ak h.2.2.2.2.2.2.1 hb,ak h.2.2.2.2.2.2.2.1 hb,ak h.2.2.2.2.2.2.2.2.1 hb,ak h.2.2.2.2.2.2.2.2.2 hb⟩;have hC0:=hU.at _ ⟨HBL.o,H2.k 0,HR.k 0,HR.k 13,HV.k 2,H3.k 0,H3.k 1,H3.k 2,H3.k 3,H3.k 4⟩;refine tx 18 (some 8) w2 141 #[.pointer none] hU hC0 ?_ ?_
 ·intro K a W hCW hK;unfold wpOp;go_simp;exact Or.inl (hK _ _ (af (Below.refl _ W) _) ⟨hCW.1.size,Row.new W 141 _⟩)
 intro S;generalize w2.drew=u0 at *;refine ao S hU [0,1,2,3,4,5,6,7,8,9,10,11,12,13] 74 7 hC0 ?_;constructor
 ·intro W' hW';simp only[pick,List.filterMap,gq1,gq2,gq3];obtain⟨-,q0,q1,q2,q3,q4,q5,q6,q7,q8⟩:=hW';have q0:=ln q0;have q1:=ln q1;have q2:=ln q2;have q3:=ln q3;have q4:=ln q4;have q5:=ln q5;have q6:=ln q6;have q7:=ln q7;have q8:=ln q8
  repeat (go_big_quiet_step (fail))
  exact wpQuiet_nil rfl
 refine b0g S hU 14 6 rfl fun W1 hbW K1 hK1=>?_;replace HW:=qh ((HW.o).bel hbW);revert HBL HV H3 H2 HR;refine cq (sbb hbW) ?_;intro HBL HV H3 H2 HR;clear hbW;go_wp2_with fail;refine(hnew.o W1 HW.o).mono ?_;rintro e W6 ⟨P,D,c,cur,rfl,hb,hP,hD,hrP,hrD,htk⟩;have HTK:=qh htk;clear htk;have P2:w2.heap.size≤P:=nlt HBL.o.size hP;have D2:w2.heap.size≤D:=nlt HBL.o.size hD;go_wp2_with fail;replace HW:=qh ((HW.o).bel hb);have HP:=qh hrP;have HD:=qh hrD;revert HBL HV H3 H2 HR;refine cq (sbb hb) ?_;intro HBL HV H3 H2 HR;have hC1:=hU.at _ ⟨HBL.o,H2.k 0,HR.k 0,HR.k 13,HV.k 2,H3.k 0,H3.k 1,H3.k 2,H3.k 3,H3.k 4⟩;refine hK1 _ _ hC1 (fun _ p hp=>⟨hp.1,hp.2.bel hb⟩) ?_;clear hK1 hC0;clear hb hP hD hrP hrD;clear HW;refine ao S hU [15,16,17] 74 3 hC1 ?_;constructor
 ·intro W' hW';simp only[pick,List.filterMap,gq1,gq2,gq3];obtain⟨-,q0,q1,q2,q3,q4,q5,q6,q7,q8⟩:=hW';have q0:=ln q0;have q1:=ln q1;have q2:=ln q2;have q3:=ln q3;have q4:=ln q4;have q5:=ln q5;have q6:=ln q6;have q7:=ln q7;have q8:=ln q8
  repeat (go_big_quiet_step (fail))
  exact wpQuiet_nil rfl
 refine ip hU 2 _ _ _ (by kernel_rfl) hC1 (fun pl W5 hr hc hp=>?_);have hbW:=a7 hr;clear hr;have lo_pl:=hp.1;have HN:=qh (hp.2);revert HP HD HBL HV H3 H2 HR;refine cq (sbb hbW) ?_;intro HP HD HBL HV H3 H2 HR;clear hc hp hbW hC1;have hC2:=hU.at _ ⟨HBL.o,H2.k 0,HR.k 0,HR.k 13,HV.k 2,H3.k 0,H3.k 1,H3.k 2,H3.k 3,H3.k 4⟩;have ne_O_pl:O≠pl:=by have:=lt_O;omega
 have ne_bo_pl:bo≠pl:=by have:=lt_bo;omega
 have ne_bs_pl:bs≠pl:=by have:=lt_bs;omega
 have ne_V_pl:V≠pl:=by have:=lt_V;omega
 have ne_P_pl:=HP.o.ne HN.o (by decide);have ne_D_pl:=HD.o.ne HN.o (by decide);refine re S hU 19 1 rfl hC2 fun W1 hbW K1 hK1=>?_;revert HN HP HD HBL HV H3 H2 HR;refine cq (sbb hbW) ?_;intro HN HP HD HBL HV H3 H2 HR;clear hbW;have hfz:=HN.o.free;have hcw:=HN.k 0;go_wp2_with fail;clear hfz hcw;replace HN:=qh ((HN.o.set 0 (pt P)).to (cs':=#[pt P]) rfl);revert HP HD HBL HV H3 H2 HR;refine cm (sk W1 pl 0 (pt P)) ⟨nn ne_P_pl,nn ne_D_pl,mn lo_pl,nn ne_V_pl,nn ne_bs_pl,nn ne_bo_pl,nn ne_O_pl,trivial⟩ ?_;intro HP HD HBL HV H3 H2 HR;have hC3:=hU.at _ ⟨HBL.o,H2.k 0,HR.k 0,HR.k 13,HV.k 2,H3.k 0,H3.k 1,H3.k 2,H3.k 3,H3.k 4⟩;refine hK1 _ _ hC3  ?_;clear hK1 hC2;generalize (W1.setCell ⟨pl,0,none⟩ (pt P))=v3 at *;refine ao S hU [20] 74 0 hC3 ?_;constructor
 ·intro W' hW';simp only[pick,List.filterMap,gq1,gq2,gq3];obtain⟨-,q0,q1,q2,q3,q4,q5,q6,q7,q8⟩:=hW';have q0:=ln q0;have q1:=ln q1;have q2:=ln q2;have q3:=ln q3;have q4:=ln q4;have q5:=ln q5;have q6:=ln q6;have q7:=ln q7;have q8:=ln q8
  repeat (go_big_quiet_step (fail))
  exact wpQuiet_nil rfl
 refine rh fun wy2 hb9=>?_;revert HN HP HD HBL HV H3 H2 HR;refine cq (sbb hb9) ?_;intro HN HP HD HBL HV H3 H2 HR;clear S hU hC3 hb9;have HBB:=qh (bt HB.o HBL.o);clear HB HBL;go_wp2_with fail;have HBz:=qh (below_drewN HBB.o 1);have hd1:wy2.drewN 1=wy2.drew:=rfl;rw[hd1] at HBz;clear hd1 HBB;revert HR;revert H2;revert H3;revert HV;revert HP;revert HD;revert HN
 refine cq (sdz wy2) ?_;intro HN HD HP HV H3 H2 HR;have hU:UD (fun W=>W.cell? (ae bo 0)=some (pt O)∧W.cell? (ae O 0)=some (pt V)∧W.cell? (ae V 2)=some (ci tr)∧W.cell? (ae pl 0)=some (pt P)∧W.cell? (ae bs 0)=some (ci s.own)∧W.cell? (ae bs 1)=some (ci s.seq)∧W.cell? (ae bs 2)=some (ci s.first)∧W.cell? (ae bs 3)=some (ci s.words)∧W.cell? (ae bs 4)=some (ci s.depth)):=al fun W n h=>h;have hC0:=hU.at _ ⟨H2.k 0,HR.k 0,HV.k 2,HN.k 0,H3.k 0,H3.k 1,H3.k 2,H3.k 3,H3.k 4⟩;refine dw aj hU hC0 ?_;intro S;generalize wy2.drew=u0 at *;refine ao S hU [0,1,2,3,4,5,6,7,8,9,10,11,13] 74 6 hC0 ?_;constructor
 ·intro W' hW';simp only[pick,List.filterMap,gq1,gq2,gq3];obtain⟨q0,q1,q2,q3,q4,q5,q6,q7,q8⟩:=hW'
  repeat (go_big_quiet_step (fail))
  exact wpQuiet_nil rfl
 refine az S hU 12 5 rfl hC0 fun n0 K1 hK1=>?_;go_wp2_with fail;refine(hmost.o _).mono ?_;rintro e W7 ⟨mo2,rfl,hb⟩;have HBc:=qh (bt (below_drewN HBz.o n0) hb);clear HBz;go_wp2_with fail;revert HN HD HP HV H3 H2 HR;refine cq (sbl hb) ?_;intro HN HD HP HV H3 H2 HR;have hC1:=hU.at _ ⟨H2.k 0,HR.k 0,HV.k 2,HN.k 0,H3.k 0,H3.k 1,H3.k 2,H3.k 3,H3.k 4⟩;refine hK1 _ _ hC1 ?_;clear hK1 hC0;clear hb ;refine az S hU 14 4 rfl hC1 fun n1 K1 hK1=>?_;go_wp2_with fail;refine(pr (W7.drewN n1) O 141 P 68 mo2 #[pt pl,pt bo]).mono ?_;rintro e W8 ⟨rfl,hb8,hr0,hr1,hr2⟩;have HBd:=qh (bt (below_drewN HBc.o n1) hb8);have hs8:=HBc.o.size;clear HBc;go_wp2_with fail;have hzz:(W7.drewN n1).heap.size=W7.heap.size:=rfl;rw[hzz] at hr0 hr1 hr2;clear hzz;generalize htb:W7.heap.size=tb at hr0 hr1 hr2 ⊢;generalize htm:tb+1=tm at hr1 ⊢;generalize htd:tb+2=td at hr2 ⊢;have HT0:=qh hr0;have HT1:=qh hr1
 have HT2:=qh hr2;revert HN HD HP HV H3 H2 HR;refine cq (sbl hb8) ?_;intro HN HD HP HV H3 H2 HR;have hC2:=hU.at _ ⟨H2.k 0,HR.k 0,HV.k 2,HN.k 0,H3.k 0,H3.k 1,H3.k 2,H3.k 3,H3.k 4⟩;refine hK1 _ _ hC2 ?_;clear hK1 hC1;clear hb8 hr0 hr1 hr2;refine ao S hU [15,16,17,18] 74 0 hC2 ?_;constructor
 ·intro W' hW';simp only[pick,List.filterMap,gq1,gq2,gq3];obtain⟨q0,q1,q2,q3,q4,q5,q6,q7,q8⟩:=hW'
  repeat (go_big_quiet_step (fail))
  exact wpQuiet_nil rfl
 refine dd fun n9=>?_;revert HT0 HT1 HT2 HN HD HP HV H3 H2 HR;refine cq (sdw W8 n9) ?_;intro HT0 HT1 HT2 HN HD HP HV H3 H2 HR;clear S hU hC2;have HBe:=qh (below_drewN HBd.o n9);clear HBd;generalize W8.drewN n9=wz at *;go_wp2_with fail
 go_ret2
 refine⟨_,_,rfl,HBe.o,Or.inr (Or.inr ⟨by rw[hf];rfl,HNW.o,P,D,c,pl,bo,⟨tm,tb,td,rfl,by omega,by omega,by omega,by omega,HT1.o,HT0.o,HT2.o⟩,by omega,by omega,by omega,HN.o,H2.o,HP.o,cur,HD.o,fun j hj=>⟨wat wl j,?_⟩⟩)⟩;have hnw:=HNW.o;have h1:=ej wl (i:=j) (by omega);have h2:=vb HTK.o hj (v:=cu ((wat wl j:Nat):Int)) (by simpa using h1)
 simpa using h2
end Go.Proofs.YtojkaibpfdhmaaaGreatDoor

/- Contracts of package poll: choose. -/
import Derived.Test.YtojkaibpfdhmaaaGreatDoorP10
import Derived.Test.YtojkaibpfdhmaaaGreatDoorP09
namespace Go.Proofs.YtojkaibpfdhmaaaGreatDoor
open Go.RowKit
set_option maxRecDepth 100000
set_option maxHeartbeats 16000000
theorem c2f{W:World}{b b' i i':Nat}{u v:Value}(h:W.drew.cell? (ae b i)=some u)(hne:b≠b'):(W.setCell ⟨b',i',none⟩ v).drew.cell? (ae b i)=some u:=by
 show (W.setCell ⟨b',i',none⟩ v).cell? (ae b i)=some u
 rw[World.cell?_setCell_other _ _ _ _ (by intro e;injection e with e1 e2;first|exact absurd e1.symm hne|exact absurd e2.symm hne)];exact h
theorem c2g{W:World}{b i i':Nat}{u v:Value}(h:W.drew.cell? (ae b i)=some u)(hne:i≠i'):(W.setCell ⟨b,i',none⟩ v).drew.cell? (ae b i)=some u:=by
 show (W.setCell ⟨b,i',none⟩ v).cell? (ae b i)=some u
 rw[World.cell?_setCell_other _ _ _ _ (by intro e;injection e with e1 e2;first|exact absurd e1.symm hne|exact absurd e2.symm hne)];exact h
theorem pu{l:List Sub}{ts:List Tpc}{N:Nat}(h:∀t∈ts,t.gen≤N):∀x∈fk l ts,x≤N:=by
 intro x hx;unfold fk at hx;rw[List.mem_map] at hx;obtain⟨s,_,rfl⟩:=hx;cases hf:ts.find? (fun t=>decide (t.n=s.topic)) with
 | none=>exact Nat.zero_le _
 | some t=>exact h t (List.mem_of_find?_eq_some hf)
theorem b8x(w:World)(P g1 n1 k1 g2 n2 k2:Nat)(wv:Value)(o:POp)(l:List Sub)(ts:List Tpc)(hn1:l.length=n1)(hn2:ts.length=n2)(hl:n1≤64)(hl2:n2≤64)(hall:∀s∈l,∃t∈ts,t.n=s.topic)(hgen:∀t∈ts,t.gen≤1000000)(hok:∀t∈ts,t.spot.Ok)(hr:Row w P 228 (o.cells g1 n1 k1 g2 n2 k2 wv))(hs:eu w g1 l)(ht:ia w g2 ts):Calls Tryz.prog 283 #[pt P] w fun e w'=>e=.returned (.tuple #[])∧ab [P] w w'∧∃(pick:Int)(gen place size:Nat),-1≤pick∧pick<n1∧(size=0∨1≤size∧size≤64∧∃t∈ts,place+size≤t.spot.first+t.spot.words*t.spot.depth) ∧
   Row w' P 228 (POp.cells ⟨o.left,o.round,o.next,pick,gen,place,size,o.how,o.steps,o.steps⟩ g1 n1 k1 g2 n2 k2 (zn)):=by
 obtain⟨left,round,next,pick,gen,place,size,how,st,at_⟩:=o;simp only[POp.cells] at *;have hP:=hr.lt;have hPb:w.heap.size≠P:=by omega
 have fr:=hr.free;obtain⟨c0,c1,c2,c3,c4,c5,c6,c7,c8,c9,c10,c11,c12⟩:=hr.c13;have HS:=qh hs;have HT:=qh ht;have HA:=qh hall;have HG:=qh hgen;have HO:=qh hok;have HR:=qh hr;have HN1:=qh hn1;have HN2:=qh hn2;clear hs ht hall hgen hok hr hn1 hn2
 go_enter Tryz.func283,Tryz.ntmps283
 go_wp2_with fail;have r1:=HR.o.alloc (.cells #[pt P] 171);have rb:=Row.new w 171 #[pt P];have hb1:=af (brf w) (.cells #[pt P] 171);clear c0 c1 c2 c3 c4 c5 c6 c7 c8 c9 c10 c11 c12 fr;generalize w.alloc (.cells #[pt P] 171)=w1 at *;have hbx:w1.drew.cell? (ae w.heap.size 0)=some (pt P):=rb.drew.cell rfl;have h11:w1.drew.cell? (ae P 11)=some (ci st):=r1.drew.cell rfl;obtain⟨d0,d1,d2,d3,d4,d5,d6,d7,d8,d9,d10,d11,d12⟩:=r1.c13;have fr:=r1.free;have R1:=qh r1;have RB:=qh rb;have HB1:=qh hb1;clear r1 rb hb1
 go_region_held3 (fun W=>W.cell? (ae w.heap.size 0)=some (pt P)∧W.cell? (ae P 11)=some (ci st))
  (first|(with_reducible exact⟨hbx,h11⟩)|(with_reducible assumption)|(with_reducible refine⟨c2f (And.left (by assumption)) hPb,c2g (And.right (by assumption)) ?_⟩;decide))
  (fail)
 clear d0 d1 d2 d3 d4 d5 d6 d7 d8 d9 d10 d11 d12 fr hbx h11;have R2:=qh (((((R1.o.set 9 (zn)).set 8 (ci 0)).set 6 (cu 0)).set 12 (ci st)).drew);have S2:Hd (ab [P] w1 _):=qh ((((((sj (W:=w1) P 9 (zn)).sc P 8 (ci 0)).sc P 6 (cu 0)).sc P 12 (ci st)).drew));generalize ((((w1.setCell ⟨P,9,none⟩ (zn)).setCell ⟨P,8,none⟩ (ci 0)).setCell ⟨P,6,none⟩ (cu 0)).setCell ⟨P,12,none⟩ (ci st)).drew=w2 at *
 have g1P:g1≠P:=by
  obtain⟨cur,hc,_⟩:=HS.o.ex;intro e;subst e;exact absurd (hc.inj HR.o).1 (by decide)
 have g2P:g2≠P:=by
  obtain⟨cur,hc,_⟩:=HT.o.ex;intro e;subst e;exact absurd (hc.inj HR.o).1 (by decide)
 have subs2:=qh ((HS.o.bel HB1.o).same S2.o (by simpa using g1P));have tpcs2:=qh ((HT.o.bel HB1.o).same S2.o (by simpa using g2P));have RB2:=qh (RB.o.same S2.o (by simpa using hPb));have hga:=qh (b1c w2 P g1 n1 k1 g2 n2 k2 (zn) ⟨left,round,next,pick,0,place,0,how,st,st⟩ l ts HN1.o HN2.o hl hl2 HA.o (R2.o.to rfl) subs2.o tpcs2.o);have SS2:Hd (ab [P] w w2):=qh ((ab.of_below (M:=[P]) HB1.o).then S2.o (fun _ h _=>h));obtain⟨c0⟩:Nonempty (w2.cell? (ae w.heap.size 0)=some (pt P)):=⟨RB2.o.cell rfl⟩;clear S2 g1P g2P
 go_wp2_with (first
  | (go_at_call 141;refine hga.o.mono ?_;rintro e w3 ⟨D,rfl,hD,hrow,hb3⟩;have HD:=qh hD;have DR:=qh hrow;have HB3:=qh hb3;have R3:=qh (R2.o.bel hb3);have subs3:=qh (subs2.o.bel hb3);have tpcs3:=qh (tpcs2.o.bel hb3);have RB3:=qh (RB2.o.bel hb3);have bx3:w3.cell? (ae w.heap.size 0)=some (pt P):=RB3.o.cell rfl;have p03:w3.cell? (ae P 0)=some (zl g1 n1 k1):=R3.o.cell rfl;clear hD hrow hb3 c0)
  | (go_at_call 285;refine(show Calls Tryz.prog 285 #[zl g1 n1 k1,zl D n1 n1] w3 fun e w'=>∃k er:Int,e=.returned (.tuple #[ci k,ci er]) ∧ -1≤k∧k<n1∧Below w3.heap.size w3 w' from (by have h9:=c4p w3 g1 k1 D n1 l (fk l ts) subs3.o DR.o (by simp[fk]) (by have:=HN1.o;omega) (pu HG.o);rw[HN1.o] at h9;exact h9)).mono ?_;rintro e w4 ⟨k,er,rfl,hk1,hk2,hb4⟩;have HB4:=qh hb4;have R4:=qh (R3.o.bel hb4);have DR4:=qh (DR.o.bel hb4);have subs4:=qh (subs3.o.bel hb4);have tpcs4:=qh (tpcs3.o.bel hb4);have RB4:=qh (RB3.o.bel hb4);have r4:Row w4 P 228 #[zl g1 n1 k1,zl g2 n2 k2,ci left,ci round,ci next,ci pick,cu 0,ci place,ci 0,zn,ci how,ci st,ci st]:=R4.o.to rfl;obtain⟨d0,d1,d2,d3,d4,d5,d6,d7,d8,d9,d10,d11,d12⟩:=r4.c13;have fr:=r4.free;have bx4:w4.cell? (ae w.heap.size 0)=some (pt P):=RB4.o.cell rfl;have hP4:=r4.lt;have hb4':=RB4.o.lt;have RR4:=qh r4;clear hb4 bx3 p03 r4))
 iterate 2
  ·refine bodyPost_ret (results_none rfl _ _ _) rfl ?_;refine⟨rfl,?_,-1,0,place,0,by omega,by omega,Or.inl rfl,?_⟩
   ·exact((SS2.o.bel (bt HB3.o HB4.o)).setCell (by simp) _).allocd _
   ·exact(RR4.o.set 5 _).alloc _
 obtain⟨kn,rfl⟩:∃kn:Nat,k=kn:=⟨k.toNat,by omega⟩;have hkn:kn<n1:=by omega
 obtain⟨s,hs⟩:∃s,l[kn]?=some s:=⟨l[kn]'(by have:=HN1.o;omega),by simp[HN1.o,hkn]⟩;have hgl:kn<(fk l ts).length:=by simp[fk,HN1.o,hkn]
 have hG:=pu HG.o _ (uz hgl);obtain⟨v,c',er',htake⟩:=ug s.cur (wat (fk l ts) kn) hG;have S5:Hd (ab [P] w4 _):=qh ((sj (W:=w4) P 5 (ci kn)).allocd (.cells #[ci kn] 3));have R5:=qh ((RR4.o.set 5 (ci kn)).alloc (.cells #[ci kn] 3));have K5:Hd (Row _ w4.heap.size 3 #[ci kn]):=qh (by simpa using Row.new (w4.setCell ⟨P,5,none⟩ (ci kn)) 3 #[ci kn])
 have g1P:g1≠P:=by
  obtain⟨cur,hc,_⟩:=HS.o.ex;intro e;subst e;exact absurd (hc.inj HR.o).1 (by decide)
 have g2P:g2≠P:=by
  obtain⟨cur,hc,_⟩:=HT.o.ex;intro e;subst e;exact absurd (hc.inj HR.o).1 (by decide)
 have DP:D≠P:=by
  intro e;subst e;exact absurd (DR4.o.inj RR4.o).1 (by decide)
 have kP:w4.heap.size≠P:=by omega
 generalize (w4.setCell ⟨P,5,none⟩ (ci kn)).alloc (.cells #[ci kn] 3)=w5 at *;have subs5:=qh (subs4.o.same S5.o (by simpa using g1P));have tpcs5:=qh (tpcs4.o.same S5.o (by simpa using g2P));have e1:w5.cell? (ae w.heap.size 0)=some (pt P):=(RB4.o.same S5.o (by simpa using hPb)).cell rfl;have e2:w5.cell? (ae P 0)=some (zl g1 n1 k1):=R5.o.cell rfl;have e3:w5.cell? (ae w4.heap.size 0)=some (ci kn):=K5.o.cell rfl;obtain⟨q0,-,e4,e5,e6,e7⟩:=eu.c subs5.o hs;have e8:=(DR4.o.same S5.o (by simpa using DP)).cell (ej (fk l ts) hgl);have e9:w5.cell? (ae P 6)=some (cu 0):=R5.o.cell rfl;have HS5:=qh hs;obtain⟨tp,rk,⟨nx,cp,gt,lo⟩⟩:=s;simp only[Cur.cells] at htake e4 e5 e6 e7 q0;have HQ0:=qh q0;generalize wat (fk l ts) kn=G at *;have HTK:=qh htake;have BK0:=(brf w5).drew
 have sv:Hd (∀W:World,Below w5.heap.size w5 W→W.cell? (ae w.heap.size 0)=some (pt P)∧W.cell? (ae P 0)=some (zl g1 n1 k1)∧W.cell? (ae w4.heap.size 0)=some (ci kn)∧W.cell? (ae g1 (kn*6+2))=some (cu nx)∧W.cell? (ae g1 (kn*6+3))=some (ci cp)∧W.cell? (ae g1 (kn*6+4))=some (cu gt)∧W.cell? (ae g1 (kn*6+5))=some (cu lo)∧W.cell? (ae D kn)=some (cu G)):=qh fun W hb=>
  ⟨(hb.cell (blc e1)).trans e1,(hb.cell (blc e2)).trans e2,(hb.cell (blc e3)).trans e3,(hb.cell (blc e4)).trans e4,(hb.cell (blc e5)).trans e5,(hb.cell (blc e6)).trans e6,(hb.cell (blc e7)).trans e7,(hb.cell (blc e8)).trans e8⟩
 have far:∀{W:World}{b i i':Nat}{u v:Value},W.cell? (ae b i)=some u→b≠P→(W.setCell ⟨P,i',none⟩ v).cell? (ae b i)=some u:=fun h hne=>by
  rw[World.cell?_setCell_other _ _ _ _ (by intro e;injection e with e1 e2;exact absurd e1.symm hne)];exact h
 have sv6:Hd (∀W:World,(W.cell? (ae w.heap.size 0)=some (pt P)∧W.cell? (ae P 0)=some (zl g1 n1 k1)∧W.cell? (ae w4.heap.size 0)=some (ci kn)∧W.cell? (ae g1 (kn*6+2))=some (cu nx)∧W.cell? (ae g1 (kn*6+3))=some (ci cp)∧W.cell? (ae g1 (kn*6+4))=some (cu gt)∧W.cell? (ae g1 (kn*6+5))=some (cu lo)∧W.cell? (ae D kn)=some (cu G))→(fun W:World=>W.cell? (ae w.heap.size 0)=some (pt P)∧W.cell? (ae P 0)=some (zl g1 n1 k1)∧W.cell? (ae w4.heap.size 0)=some (ci kn)∧W.cell? (ae g1 (kn*6+2))=some (cu nx)∧W.cell? (ae g1 (kn*6+3))=some (ci cp)∧W.cell? (ae g1 (kn*6+4))=some (cu gt)∧W.cell? (ae g1 (kn*6+5))=some (cu lo)∧W.cell? (ae D kn)=some (cu G)) (W.setCell ⟨P,6,none⟩ (cu v))):=qh fun W h=>
  ⟨far h.1 hPb,by rw[World.cell?_setCell_other _ _ _ _ (by intro e;injection e with e1 e2;cases e2)];exact h.2.1,far h.2.2.1 kP,far h.2.2.2.1 g1P,far h.2.2.2.2.1 g1P,far h.2.2.2.2.2.1 g1P,far h.2.2.2.2.2.2.1 g1P,far h.2.2.2.2.2.2.2 DP⟩
 have i0:(0:Int)≤kn:=by omega
 have i1:(kn:Int)<n1:=by omega
 have f6:=R5.o.free 6;clear htake q0 hs hgl e1 e2 e3 e4 e5 e6 e7 e8 d0 d1 d2 d3 d4 d5 d6 d7 d8 d9 d10 d11 d12 fr bx4 far hk1 hk2
 go_region_held3 (fun W=>W.cell? (ae w.heap.size 0)=some (pt P)∧W.cell? (ae P 0)=some (zl g1 n1 k1)∧W.cell? (ae w4.heap.size 0)=some (ci kn)∧W.cell? (ae g1 (kn*6+2))=some (cu nx)∧W.cell? (ae g1 (kn*6+3))=some (ci cp)∧W.cell? (ae g1 (kn*6+4))=some (cu gt)∧W.cell? (ae g1 (kn*6+5))=some (cu lo)∧W.cell? (ae D kn)=some (cu G))
  (first|(with_reducible exact sv.o _ BK0)|(with_reducible assumption)|(with_reducible exact sv.o _ (bt BK0 hbw))|(with_reducible exact sv6.o _ (by assumption)))
  (first|(go_at_call 286;refine(HTK.o _).mono ?_;rintro e w_ ⟨rfl,hbw⟩;have e9':=(hbw.cell (blc (show w5.drew.cell? (ae P 6)=some (cu 0) from e9))).trans e9;have f6':w_.frozen? ⟨P,6,none⟩=false:=((R5.o.drew.bel hbw).free 6)))
 have S6:Hd (ab [P] w5 _):=qh ((((ab.refl [P] w5).drew).bel hbw).sc P 6 (cu v));have R6:=qh ((R5.o.drew.bel hbw).set 6 (cu v));generalize w_.setCell ⟨P,6,none⟩ (cu v)=w6 at *;clear e9 e9' f6 f6' hbw BK0 sv sv6;obtain⟨t,ht,htn⟩:=HA.o _ (dh HS5.o);simp only at htn
 obtain⟨m,y,hf1,hf2,hf3⟩:∃(m:Nat)(x:Tpc),fiT tp ts 0=(m:Int)∧ts[m]?=some x∧x.n=tp:=by
  rcases o7 tp ts 0 with ⟨h1,h2⟩|⟨k,x,h1,h2,h3⟩
  ·exact absurd htn (h2 t ht)
  ·exact⟨k,x,by simpa using h1,h2,h3⟩
 have hmn:m<n2:=by have:=(bk.1 hf2).1;have:=HN2.o;omega
 have subs6:=qh (subs5.o.same S6.o (by simpa using g1P));have tpcs6:=qh (tpcs5.o.same S6.o (by simpa using g2P));have bx6:w6.cell? (ae w.heap.size 0)=some (pt P):=((RB4.o.same S5.o (by simpa using hPb)).same S6.o (by simpa using hPb)).cell rfl;have kb6:w6.cell? (ae w4.heap.size 0)=some (ci kn):=(K5.o.same S6.o (by simpa using kP)).cell rfl;have p06:w6.cell? (ae P 0)=some (zl g1 n1 k1):=R6.o.cell rfl;have p16:w6.cell? (ae P 1)=some (zl g2 n2 k2):=R6.o.cell rfl;have q06:w6.cell? (ae g1 (kn*6))=some (ci tp):=(eu.c subs6.o HS5.o).1;have hix:=b1d w6 g2 k2 w.heap.size w4.heap.size P g1 n1 k1 kn tp ts tpcs6.o (by have:=HN2.o;omega) hkn ⟨bx6,p06,kb6,q06⟩;rw[HN2.o,hf1] at hix;have HIX:=qh hix;have hyo:=HO.o y (dh hf2);have hat:=b0z y.spot hyo v;have hpl:=y.spot.place_lt hyo v;have hyw1:=hyo.w1;have hyw2:=hyo.w2;have HF2:=qh hf2;obtain⟨-,u1,u2,u3,u4,u5,-⟩:=ia.c tpcs6.o hf2
 have HY:=qh (dh hf2);have j0:(0:Int)≤m:=by omega
 have j1:(m:Int)<n2:=by omega
 have HPL:=qh hpl;generalize hplv:y.spot.place v=pl at *;have HPV:=qh hplv;clear p06 q06 hix hf1 hf2 hf3 ht htn hyo hpl hplv kb6;obtain⟨yn,⟨yo,yq,yf,yw,yd⟩,yg⟩:=y;simp only[am.cells] at hat u1 u2 u3 u4 u5 hyw1 hyw2;have HAT:=qh hat;clear hat
 go_wp2_with (first|(go_at_call 173;refine HIX.o.mono ?_;rintro e w7 ⟨rfl,hb7⟩;have HB7:=qh hb7;have R7:=qh (R6.o.bel hb7);have tpcs7:=qh (tpcs6.o.bel hb7);have bx7:w7.cell? (ae w.heap.size 0)=some (pt P):=(hb7.cell (blc bx6)).trans bx6;have v1:=(hb7.cell (blc u1)).trans u1;have v2:=(hb7.cell (blc u2)).trans u2;have v3:=(hb7.cell (blc u3)).trans u3;have v4:=(hb7.cell (blc u4)).trans u4;have v5:=(hb7.cell (blc u5)).trans u5;clear hb7 bx6 p16 u1 u2 u3 u4 u5))
 have p17:w7.cell? (ae P 1)=some (zl g2 n2 k2):=R7.o.cell rfl;have p67:w7.cell? (ae P 6)=some (cu v):=R7.o.cell rfl;have BK0:=(brf w7).drew
 have far:∀{W:World}{b i i':Nat}{u v:Value},W.cell? (ae b i)=some u→b≠P→(W.setCell ⟨P,i',none⟩ v).cell? (ae b i)=some u:=fun h hne=>by
  rw[World.cell?_setCell_other _ _ _ _ (by intro e;injection e with e1 e2;exact absurd e1.symm hne)];exact h
 have off:∀{W:World}{i i':Nat}{u v:Value},W.cell? (ae P i)=some u→i≠i'→(W.setCell ⟨P,i',none⟩ v).cell? (ae P i)=some u:=fun h hne=>by
  rw[World.cell?_setCell_other _ _ _ _ (by intro e;injection e with e1 e2;exact absurd e2.symm hne)];exact h
 have sv:Hd (∀W:World,Below w7.heap.size w7 W→W.cell? (ae w.heap.size 0)=some (pt P)∧W.cell? (ae P 1)=some (zl g2 n2 k2)∧W.cell? (ae P 6)=some (cu v)∧W.cell? (ae g2 (m*7+1))=some (ci yo)∧W.cell? (ae g2 (m*7+2))=some (ci yq)∧W.cell? (ae g2 (m*7+3))=some (ci yf)∧W.cell? (ae g2 (m*7+4))=some (ci yw)∧W.cell? (ae g2 (m*7+5))=some (ci yd)):=qh fun W hb=>
  ⟨(hb.cell (blc bx7)).trans bx7,(hb.cell (blc p17)).trans p17,(hb.cell (blc p67)).trans p67,(hb.cell (blc v1)).trans v1,(hb.cell (blc v2)).trans v2,(hb.cell (blc v3)).trans v3,(hb.cell (blc v4)).trans v4,(hb.cell (blc v5)).trans v5⟩
 have svi:Hd (∀(i':Nat)(u:Value)(W:World),i'≠1→i'≠6→(W.cell? (ae w.heap.size 0)=some (pt P)∧W.cell? (ae P 1)=some (zl g2 n2 k2)∧W.cell? (ae P 6)=some (cu v)∧W.cell? (ae g2 (m*7+1))=some (ci yo)∧W.cell? (ae g2 (m*7+2))=some (ci yq)∧W.cell? (ae g2 (m*7+3))=some (ci yf)∧W.cell? (ae g2 (m*7+4))=some (ci yw)∧W.cell? (ae g2 (m*7+5))=some (ci yd))→(fun W:World=>W.cell? (ae w.heap.size 0)=some (pt P)∧W.cell? (ae P 1)=some (zl g2 n2 k2)∧W.cell? (ae P 6)=some (cu v)∧W.cell? (ae g2 (m*7+1))=some (ci yo)∧W.cell? (ae g2 (m*7+2))=some (ci yq)∧W.cell? (ae g2 (m*7+3))=some (ci yf)∧W.cell? (ae g2 (m*7+4))=some (ci yw)∧W.cell? (ae g2 (m*7+5))=some (ci yd)) (W.setCell ⟨P,i',none⟩ u)):=qh fun i' u W n1 n6 h=>
  ⟨far h.1 hPb,off h.2.1 n1.symm,off h.2.2.1 n6.symm,far h.2.2.2.1 g2P,far h.2.2.2.2.1 g2P,far h.2.2.2.2.2.1 g2P,far h.2.2.2.2.2.2.1 g2P,far h.2.2.2.2.2.2.2 g2P⟩
 have sv7:Hd (∀W:World,(W.cell? (ae w.heap.size 0)=some (pt P)∧W.cell? (ae P 1)=some (zl g2 n2 k2)∧W.cell? (ae P 6)=some (cu v)∧W.cell? (ae g2 (m*7+1))=some (ci yo)∧W.cell? (ae g2 (m*7+2))=some (ci yq)∧W.cell? (ae g2 (m*7+3))=some (ci yf)∧W.cell? (ae g2 (m*7+4))=some (ci yw)∧W.cell? (ae g2 (m*7+5))=some (ci yd))→(fun W:World=>W.cell? (ae w.heap.size 0)=some (pt P)∧W.cell? (ae P 1)=some (zl g2 n2 k2)∧W.cell? (ae P 6)=some (cu v)∧W.cell? (ae g2 (m*7+1))=some (ci yo)∧W.cell? (ae g2 (m*7+2))=some (ci yq)∧W.cell? (ae g2 (m*7+3))=some (ci yf)∧W.cell? (ae g2 (m*7+4))=some (ci yw)∧W.cell? (ae g2 (m*7+5))=some (ci yd)) (W.setCell ⟨P,7,none⟩ (ci pl))):=qh fun W h=>svi.o 7 _ W (by decide) (by decide) h
 have sv8:Hd (∀W:World,(W.cell? (ae w.heap.size 0)=some (pt P)∧W.cell? (ae P 1)=some (zl g2 n2 k2)∧W.cell? (ae P 6)=some (cu v)∧W.cell? (ae g2 (m*7+1))=some (ci yo)∧W.cell? (ae g2 (m*7+2))=some (ci yq)∧W.cell? (ae g2 (m*7+3))=some (ci yf)∧W.cell? (ae g2 (m*7+4))=some (ci yw)∧W.cell? (ae g2 (m*7+5))=some (ci yd))→(fun W:World=>W.cell? (ae w.heap.size 0)=some (pt P)∧W.cell? (ae P 1)=some (zl g2 n2 k2)∧W.cell? (ae P 6)=some (cu v)∧W.cell? (ae g2 (m*7+1))=some (ci yo)∧W.cell? (ae g2 (m*7+2))=some (ci yq)∧W.cell? (ae g2 (m*7+3))=some (ci yf)∧W.cell? (ae g2 (m*7+4))=some (ci yw)∧W.cell? (ae g2 (m*7+5))=some (ci yd)) (W.setCell ⟨P,8,none⟩ (ci yw))):=qh fun W h=>svi.o 8 _ W (by decide) (by decide) h;clear far off svi p17 p67 bx7 v1 v2 v3 v4 v5
 go_region_held3 (fun W=>W.cell? (ae w.heap.size 0)=some (pt P)∧W.cell? (ae P 1)=some (zl g2 n2 k2)∧W.cell? (ae P 6)=some (cu v)∧W.cell? (ae g2 (m*7+1))=some (ci yo)∧W.cell? (ae g2 (m*7+2))=some (ci yq)∧W.cell? (ae g2 (m*7+3))=some (ci yf)∧W.cell? (ae g2 (m*7+4))=some (ci yw)∧W.cell? (ae g2 (m*7+5))=some (ci yd))
  (first|(with_reducible exact sv.o _ BK0)|(with_reducible assumption)|(with_reducible exact sv.o _ (bt BK0 hbw))|(with_reducible exact sv7.o _ (by assumption))|(with_reducible exact sv8.o _ (by assumption)))
  (first|(go_at_call 139;refine(HAT.o _).mono ?_;rintro e w_ ⟨rfl,hbw⟩;have r8:=R7.o.drew.bel hbw;have q7:=r8.k 7;have q8:=r8.k 8;have fr8:=r8.free))
 have hF:=((((((((SS2.o.bel (bt HB3.o HB4.o)).then S5.o (fun _ h _=>h)).then S6.o (fun _ h _=>h)).bel HB7.o).drew).bel hbw).sc P 7 (ci pl)).sc P 8 (ci yw));have hpl:=HPL.o;have rF:=(r8.set 7 (ci pl)).set 8 (ci yw);have HF:=qh hF;have HRF:=qh rF;have HPL2:=qh hpl;clear hF rF hpl r8 q7 q8 fr8
 go_end0
 exact⟨rfl,HF.o,kn,v,pl,yw,by omega,by omega,Or.inr ⟨hyw1,hyw2,_,HY.o,HPL2.o⟩,HRF.o⟩
end Go.Proofs.YtojkaibpfdhmaaaGreatDoor

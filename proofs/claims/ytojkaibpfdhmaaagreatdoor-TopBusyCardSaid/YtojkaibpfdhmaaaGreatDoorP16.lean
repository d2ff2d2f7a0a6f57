/- Contracts: slices.Grow of nil, slices.Concat of two, package snap's Got and At. -/
import Derived.Test.YtojkaibpfdhmaaaGreatDoorP11
import Derived.Test.YtojkaibpfdhmaaaGreatDoorP01
import Derived.Test.YtojkaibpfdhmaaaGreatDoorP00
import Derived.Test.YtojkaibpfdhmaaaGreatDoorP12
import Derived.Test.YtojkaibpfdhmaaaGreatDoorP02
import Derived.Test.YtojkaibpfdhmaaaGreatDoorP07
import Derived.Test.YtojkaibpfdhmaaaGreatDoorP04
import Derived.Outline
import Derived.Maps.AppendAt
import Derived.Lib.AppendZerosOnto
namespace Go.Proofs.YtojkaibpfdhmaaaGreatDoor
open Go.RowKit
set_option maxRecDepth 100000
set_option maxHeartbeats 16000000
section
variable{α:Type}{enc:α→List Value}{sz g E:Nat}{W W':World}{l:List α}
theorem uw(hl:∀x,(enc x).length=sz):∀(l:List α)(k j:Nat)(x':α)(v:Value)(x:α),l[k]?=some x→j<sz→enc x'=(enc x).set j v→(l.set k x').flatMap enc=(l.flatMap enc).set (k*sz+j) v
 | [],k,j,x',v,x,h,_,_=>by simp at h
 | y::l,0,j,x',v,x,h,hj,he=>by
  have:y=x:=by simpa using h
  subst this;rw[List.set_cons_zero,List.flatMap_cons,List.flatMap_cons,he,Nat.zero_mul,Nat.zero_add,List.set_append_left _ _ (by rw[hl];exact hj)]
 | y::l,k+1,j,x',v,x,h,hj,he=>by
  rw[List.set_cons_succ,List.flatMap_cons,List.flatMap_cons,List.set_append_right _ _ (by rw[hl,Nat.succ_mul];omega),hl];rw[show (k+1)*sz+j-sz=k*sz+j by rw[Nat.succ_mul];omega];rw[uw hl l k j x' v x (by simpa using h) hj he]
theorem Arr.set(h:Arr enc sz W g E l)(hl:∀x,(enc x).length=sz){k j:Nat}{x x':α}{v:Value}(hx:l[k]?=some x)(hj:j<sz)(he:enc x'=(enc x).set j v):Arr enc sz (W.setCell ⟨g,k*sz+j,none⟩ v) g E (l.set k x'):=by
 obtain⟨cur,hr,ht⟩:=h.ex;have hk:k<l.length:=(bk.1 hx).1;refine⟨_,hr.set (k*sz+j) v,?_⟩;rw[List.length_set,uw hl l k j x' v x hx hj he,←ht];rw[Array.toList_setIfInBounds,List.take_set]
theorem Arr.other(h:Arr enc sz W g E l){a:Addr}(hb:g≠a.block)(v:Value):Arr enc sz (W.setCell a v) g E l:=by obtain⟨cur,hr,ht⟩:=h.ex;exact⟨cur,hr.other hb v,ht⟩
theorem Arr.ot {b : Nat} (h : Arr enc sz W g E l) (hb : g ≠ b) (i : Nat) (v : Value) : Arr enc sz (W.setCell ⟨b, i, none⟩ v) g E l := h.other (a := ⟨b, i, none⟩) hb v
theorem Arr.drewN(h:Arr enc sz W g E l)(n:Nat):Arr enc sz (W.drewN n) g E l:=by obtain⟨cur,hr,ht⟩:=h.ex;exact⟨cur,hr.drewN n,ht⟩
end
theorem eu.cur{W:World}{g:Nat}{l:List Sub}(h:eu W g l){k:Nat}{s:Sub}(hk:l[k]?=some s)(c:Cur):eu ((((W.setCell ⟨g,k*6+2,none⟩ (cu c.next)).setCell ⟨g,k*6+3,none⟩ (ci c.cap)).setCell ⟨g,k*6+4,none⟩ (cu c.got)).setCell ⟨g,k*6+5,none⟩ (cu c.lost)) g (l.set k ⟨s.topic,s.rank,c⟩):=by
 have hlt:k<l.length:=(bk.1 hk).1;have h1:=h.set Sub.enc_len (j:=2) (v:=cu c.next) (x':=⟨s.topic,s.rank,⟨c.next,s.cur.cap,s.cur.got,s.cur.lost⟩⟩) hk (by omega) rfl;have h2:=h1.set Sub.enc_len (k:=k) (j:=3) (v:=ci c.cap) (x':=⟨s.topic,s.rank,⟨c.next,c.cap,s.cur.got,s.cur.lost⟩⟩) (List.getElem?_set_self hlt) (by omega) rfl;have h3:=h2.set Sub.enc_len (k:=k) (j:=4) (v:=cu c.got) (x':=⟨s.topic,s.rank,⟨c.next,c.cap,c.got,s.cur.lost⟩⟩) (List.getElem?_set_self (by simpa using hlt)) (by omega) rfl;have h4:=h3.set Sub.enc_len (k:=k) (j:=5) (v:=cu c.lost) (x':=⟨s.topic,s.rank,c⟩) (List.getElem?_set_self (by simpa using hlt)) (by omega) rfl
 simpa using h4
theorem b9a(w:World)(P g1 n1 k1 g2 n2 k2:Nat)(wv:Value)(o:POp)(l:List Sub)(ts:List Tpc)(hn1:l.length=n1)(hn2:ts.length=n2)(hl:n1≤64)(hl2:n2≤64)(hall:∀s∈l,∃t∈ts,t.n=s.topic)(hgen:∀t∈ts,t.gen≤1000000)(hr:Row w P 228 (o.cells g1 n1 k1 g2 n2 k2 wv))(hs:eu w g1 l)(ht:ia w g2 ts):Calls Tryz.prog 284 #[pt P] w fun e w'=>e=.returned (.tuple #[])∧ab [P,g1] w w'∧∃l':List Sub,l'.map Sub.topic=l.map Sub.topic∧eu w' g1 l' ∧
   Row w' P 228 (POp.cells {o with how:=1} g1 n1 k1 g2 n2 k2 wv):=by
 have hga:=b1c w P g1 n1 k1 g2 n2 k2 wv o l ts hn1 hn2 hl hl2 hall hr hs ht;obtain⟨left,round,next,pick,gen,place,size,how,st,at_⟩:=o;simp only[POp.cells] at *;have HR:=qh hr;have HS:=qh hs;have HG:=qh hgen;have HN1:=qh hn1
 have g1P:g1≠P:=by
  obtain⟨cur,hc,_⟩:=hs.ex;intro e;subst e;exact absurd (hc.inj hr).1 (by decide)
 clear hr hs ht hall hgen hn1 hn2
 go_enter Tryz.func284,Tryz.ntmps284
 go_wp2_with (first|(go_at_call 141;refine hga.mono ?_;rintro e w1 ⟨D,rfl,hD,hrow,hb1⟩;have HD:=qh hD;have DR:=qh hrow;have HB1:=qh hb1;have r1:=HR.o.bel hb1;obtain⟨c0,c1,c2,c3,c4,c5,c6,c7,c8,c9,c10,c11,c12⟩:=r1.c13;have R1:=qh r1;have S1:=qh (HS.o.bel hb1);clear hga hD hrow hb1 r1))
 have Dg:Hd (D≠g1∧D≠P):=qh ⟨by
  obtain⟨cur,hc,_⟩:=S1.o.ex;intro e;subst e;exact absurd (DR.o.inj hc).1 (by decide),by
  intro e;subst e;exact absurd (DR.o.inj R1.o).1 (by decide)⟩
 have H0:Hd (∃l':List Sub,l'.map Sub.topic=l.map Sub.topic∧eu w1 g1 l'):=qh ⟨l,rfl,S1.o⟩;have SS0:Hd (ab [g1] w1 w1):=qh (ab.refl _ _);clear c0 c1 c2 c3 c4 c5 c6 c7 c8 c9 c10 c11 c12
 go_loopw [12] (fun i wr=>∃k:Nat,k≤n1∧i=ci k∧Hd (∃l':List Sub,l'.map Sub.topic=l.map Sub.topic∧eu wr g1 l')∧Hd (ab [g1] w1 wr)) (fun i _=>n1-(intOf i).toNat)
 case atStart=>exact⟨0,by omega,rfl,H0,SS0⟩
 case round=>
  clear H0 SS0;obtain⟨k,hk,rfl,HL,HSS⟩:=hrel;obtain⟨l',hl1,hl2'⟩:=HL.o;have hlen:l'.length=n1:=by have:=congrArg List.length hl1;simp at this;rw[this];exact HN1.o
  have R2:=qh (R1.o.same HSS.o (by simpa using g1P.symm));have D2:=qh (DR.o.same HSS.o (by simpa using Dg.o.1));by_cases hkn:k<n1
  ·obtain⟨s,hs⟩:∃s,l'[k]?=some s:=⟨l'[k]'(by omega),by simp[hlen,hkn]⟩;have hgl:k<(fk l ts).length:=by simp[fk,HN1.o,hkn]
   have hG:=pu HG.o _ (uz hgl);obtain⟨v,c',er',htake⟩:=ug s.cur (wat (fk l ts) k) hG;obtain⟨c2',er2,her2,hsee⟩:=m4 s.cur (wat (fk l ts) k) hG;obtain⟨q0,q1,q2,q3,q4,q5⟩:=eu.c hl2' hs;have eD:=D2.o.cell (ej (fk l ts) hgl);obtain⟨p0,-,-,-,-,p5,-⟩:=R2.o.c13;have HL1:=qh hl1;have HL2:=qh hl2';have HSK:=qh hs;have fg:=Arr.free hl2';obtain⟨tp,rk,⟨nx,cp,gt,lo⟩⟩:=s;obtain⟨x1,x2,x3,x4⟩:=c';obtain⟨y1,y2,y3,y4⟩:=c2';simp only[Cur.cells] at htake hsee q2 q3 q4 q5;generalize wat (fk l ts) k=G at *;have HTK:=qh htake;have HSE:=qh hsee;have t1:decide ((k:Int)<n1)=true:=dqt (by omega);have i0:(0:Int)≤k:=by omega
   have i1:(k:Int)<n1:=by omega
   clear htake hsee hs hl1 hl2' HL hgl;by_cases hp:(k:Int)=pick
   ·have t2:((k:Int)==pick)=true:=by simpa using hp
    clear hp;go_wp2_with fail;have Q2:=ln q2;have Q3:=ln q3;have Q4:=ln q4;have Q5:=ln q5;have ED:=ag.cell eD;refine mg (fun w'=>∃g:ag wr,w'=g.to) [0] [1,2,3,4,5,6,7,8,9] 10 [10,11,12] [13,14] (by kernel_rfl) (by kernel_rfl) (ag.start _) ?_;simp only[rv,qr,List.cons_append,List.nil_append,List.drop_succ_cons,List.drop_zero]
    repeat (go_big_quiet_step ((go_at_call 286;exact Calls.later (HTK.o _))))
    refine wpQuiet_nil ?_;rintro _ ⟨gg,rfl⟩;have z2:=(gg.2.cell (blc q2)).trans q2;have z3:=(gg.2.cell (blc q3)).trans q3;have z4:=(gg.2.cell (blc q4)).trans q4;have z5:=(gg.2.cell (blc q5)).trans q5;have fz:=Arr.free (HL2.o.bel gg.2);have HGG:=qh gg.2;have Z2:gg.to.cell? (ae g1 (k*6+2))=some (cu nx):=z2;have Z3:gg.to.cell? (ae g1 (k*6+3))=some (ci cp):=z3;have Z4:gg.to.cell? (ae g1 (k*6+4))=some (cu gt):=z4;have Z5:gg.to.cell? (ae g1 (k*6+5))=some (cu lo):=z5;have FZ:∀i,gg.to.frozen? ⟨g1,i,none⟩=false:=fz;have HSB:=qh (HL2.o.bel gg.2);have HSM:Hd (ab [g1] w1 gg.to):=qh (HSS.o.bel gg.2);have HSB2:Hd (eu gg.to g1 l'):=HSB;clear z2 z3 z4 z5 fz Q2 Q3 Q4 Q5 ED q0 q1 q2 q3 q4 q5 eD p0 p5 fg HSB;generalize gg.to=w5 at *;go_wp2;refine NoPanic.normal ?_;go_wp2
    go_roundw
    case rel=>
     refine⟨k+1,by omega,by go_num,qh ⟨_,?_,eu.cur HSB2.o HSK.o ⟨x1,x2,x3,x4⟩⟩,qh ((((HSM.o.setCell (by simp) _).setCell (by simp) _).setCell (by simp) _).setCell (by simp) _)⟩;rw[←HL1.o];refine List.ext_getElem? (fun j=>?_);rw[List.getElem?_map,List.getElem?_map];by_cases hj:j=k
     ·subst hj;rw[List.getElem?_set_self (bk.1 HSK.o).1,HSK.o]
      rfl
     ·rw[List.getElem?_set_ne (by omega)]
    case measure=>simp only[intOf];omega
   ·have t2:((k:Int)==pick)=false:=by simpa using hp
    go_wp2_with fail;have Q2:=ln q2;have Q3:=ln q3;have Q4:=ln q4;have Q5:=ln q5;have ED:=ag.cell eD;refine mg (fun w'=>∃g:ag wr,w'=g.to) [0] [1,2,3,4,5,6,7,8,9] 10 [10,11] [12,13] (by kernel_rfl) (by kernel_rfl) (ag.start _) ?_;simp only[rv,qr,List.cons_append,List.nil_append,List.drop_succ_cons,List.drop_zero]
    repeat (go_big_quiet_step ((go_at_call 96;exact Calls.later (HSE.o _))))
    refine wpQuiet_nil ?_;rintro _ ⟨gg,rfl⟩;have z2:=(gg.2.cell (blc q2)).trans q2;have z3:=(gg.2.cell (blc q3)).trans q3;have z4:=(gg.2.cell (blc q4)).trans q4;have z5:=(gg.2.cell (blc q5)).trans q5;have fz:=Arr.free (HL2.o.bel gg.2);have HGG:=qh gg.2;have Z2:gg.to.cell? (ae g1 (k*6+2))=some (cu nx):=z2;have Z3:gg.to.cell? (ae g1 (k*6+3))=some (ci cp):=z3;have Z4:gg.to.cell? (ae g1 (k*6+4))=some (cu gt):=z4;have Z5:gg.to.cell? (ae g1 (k*6+5))=some (cu lo):=z5;have FZ:∀i,gg.to.frozen? ⟨g1,i,none⟩=false:=fz;have HSB:=qh (HL2.o.bel gg.2);have HSM:Hd (ab [g1] w1 gg.to):=qh (HSS.o.bel gg.2);have HSB2:Hd (eu gg.to g1 l'):=HSB;clear z2 z3 z4 z5 fz Q2 Q3 Q4 Q5 ED q0 q1 q2 q3 q4 q5 eD p0 p5 fg HSB;generalize gg.to=w5 at *;go_wp2;refine NoPanic.normal ?_;go_wp2
    go_roundw
    case rel=>
     refine⟨k+1,by omega,by go_num,qh ⟨_,?_,eu.cur HSB2.o HSK.o ⟨y1,y2,y3,y4⟩⟩,qh ((((HSM.o.setCell (by simp) _).setCell (by simp) _).setCell (by simp) _).setCell (by simp) _)⟩;rw[←HL1.o];refine List.ext_getElem? (fun j=>?_);rw[List.getElem?_map,List.getElem?_map];by_cases hj:j=k
     ·subst hj;rw[List.getElem?_set_self (bk.1 HSK.o).1,HSK.o]
      rfl
     ·rw[List.getElem?_set_ne (by omega)]
    case measure=>simp only[intOf];omega
  ·have t1:decide ((k:Int)<n1)=false:=dqf (by omega);obtain⟨-,-,-,-,-,-,-,-,-,-,d10,-⟩:=R2.o.c13;have fr:=R2.o.free;have HL1:=qh hl1;have HL2:=qh hl2';clear hl1 hl2' HL;go_wp2
   go_end0
   refine⟨rfl,?_,l',HL1.o,HL2.o.other (by simpa using g1P) _,?_⟩
   ·exact(((ab.of_below (M:=[P,g1]) HB1.o).then HSS.o (fun x hx _=>List.mem_cons_of_mem _ hx))).setCell (by simp) _
   ·exact R2.o.set 10 _
theorem ia.gen{W:World}{g:Nat}{l:List Tpc}(h:ia W g l){k:Nat}{t:Tpc}(hk:l[k]?=some t)(x:Nat):ia (W.setCell ⟨g,k*7+6,none⟩ (cu x)) g (l.set k ⟨t.n,t.spot,x⟩):=h.set Tpc.enc_len (j:=6) hk (by omega) rfl
structure eo(W:World)(P B A g1 n1 k1 g2 n2 k2:Nat)(wv:Value)(nw:Nat)(o:POp)(l:List Sub)(ts:List Tpc)(ws:List Nat):Prop where
 hb:bv W B A ws
 ok:∀t∈ts,t.spot.Ok
 fit:∀t∈ts,t.spot.seq<ws.length∧t.spot.first+t.spot.words*t.spot.depth≤ws.length
 gen:∀t∈ts,t.gen≤1000000
 all:∀s∈l,∃t∈ts,t.n=s.topic
 l1:l.length=n1
 l2:ts.length=n2
 b1:n1≤64
 b2:n2≤64
 p2:1≤n2
 row:Row W P 228 (o.cells g1 n1 k1 g2 n2 k2 wv)
 subs:eu W g1 l
 tpcs:ia W g2 ts
 wvs:∃us:List Nat,W.ownsRow 0 41 1 wv nw (bj us).toList∧∀b,wv.ownBlock=some b→b≠A
 wn:nw≤64
section
variable{W W':World}{P B A g1 n1 k1 g2 n2 k2 nw:Nat}{wv:Value}{o:POp}{l:List Sub}{ts:List Tpc}{ws:List Nat}
theorem eo.ne(h:eo W P B A g1 n1 k1 g2 n2 k2 wv nw o l ts ws):P≠B∧P≠A∧g1≠B∧g1≠A∧g2≠B∧g2≠A∧g1≠P∧g2≠P∧g1≠g2:=by
 obtain⟨k,hk⟩:=h.hb.hd;obtain⟨c1,h1,_⟩:=h.subs.ex;obtain⟨c2,h2,_⟩:=h.tpcs.ex;refine⟨?_,?_,?_,?_,?_,?_,?_,?_,?_⟩<;>intro e<;>subst e
 ·exact absurd (h.row.inj hk).1 (by decide)
 ·exact absurd (h.row.inj h.hb.wd).1 (by decide)
 ·exact absurd (h1.inj hk).1 (by decide)
 ·exact absurd (h1.inj h.hb.wd).1 (by decide)
 ·exact absurd (h2.inj hk).1 (by decide)
 ·exact absurd (h2.inj h.hb.wd).1 (by decide)
 ·exact absurd (h1.inj h.row).1 (by decide)
 ·exact absurd (h2.inj h.row).1 (by decide)
 ·exact absurd (h1.inj h2).1 (by decide)
theorem eo.wb(h:eo W P B A g1 n1 k1 g2 n2 k2 wv nw o l ts ws):∀b,wv.ownBlock=some b→b≠B∧b≠A∧b≠P∧b≠g1∧b≠g2:=by
 obtain⟨us,hu,hA⟩:=h.wvs;obtain⟨k,hk⟩:=h.hb.hd;obtain⟨c1,h1,_⟩:=h.subs.ex;obtain⟨c2,h2,_⟩:=h.tpcs.ex;intro b hb;rcases hu.2 with ⟨rfl,_⟩|⟨g,cap,cur,rfl,_,hg,_⟩
 ·cases hb
 ·cases hb;have hr:Row W g 41 cur:=⟨hg⟩;refine⟨?_,hA _ rfl,?_,?_,?_⟩<;>intro e<;>subst e
  ·exact absurd (hr.inj hk).1 (by decide)
  ·exact absurd (hr.inj h.row).1 (by decide)
  ·exact absurd (hr.inj h1).1 (by decide)
  ·exact absurd (hr.inj h2).1 (by decide)
theorem eo.to{o':POp}{ts':List Tpc}{M:List Nat}(h:eo W P B A g1 n1 k1 g2 n2 k2 wv nw o l ts ws)(hs:ab M W W')(hM:∀x∈M,x=B∨x=g2∨x=P)(hb:bv W' B A ws)(hr:Row W' P 228 (o'.cells g1 n1 k1 g2 n2 k2 wv))(ht:ia W' g2 ts')(hm:ts'.map (fun t=>(t.n,t.spot))=ts.map (fun t=>(t.n,t.spot)))(hg:∀t∈ts',t.gen≤1000000):eo W' P B A g1 n1 k1 g2 n2 k2 wv nw o' l ts' ws:=by
 have back:∀t'∈ts',∃t∈ts,t.n=t'.n∧t.spot=t'.spot:=fun t' ht'=>by
  have h1:(t'.n,t'.spot)∈ts.map (fun t=>(t.n,t.spot)):=by rw[←hm];exact List.mem_map.2 ⟨t',ht',rfl⟩
  obtain⟨t,h2,h3⟩:=List.mem_map.1 h1;exact⟨t,h2,by simpa using congrArg Prod.fst h3,by simpa using congrArg Prod.snd h3⟩
 have forth:∀t∈ts,∃t'∈ts',t'.n=t.n:=fun t ht'=>by
  have h1:(t.n,t.spot)∈ts'.map (fun t=>(t.n,t.spot)):=by rw[hm];exact List.mem_map.2 ⟨t,ht',rfl⟩
  obtain⟨t',h2,h3⟩:=List.mem_map.1 h1;exact⟨t',h2,by simpa using congrArg Prod.fst h3⟩
 have hlen:ts'.length=ts.length:=by have:=congrArg List.length hm;simpa using this
 obtain⟨-,-,n3,n4,-,-,n7,-,n9⟩:=h.ne;have hwb:=h.wb;obtain⟨us,hu,hA⟩:=h.wvs
 exact⟨hb,fun t' ht'=>by obtain⟨t,h1,_,h3⟩:=back t' ht';rw[←h3];exact h.ok t h1,fun t' ht'=>by obtain⟨t,h1,_,h3⟩:=back t' ht';rw[←h3];exact h.fit t h1,hg,
  fun s hs'=>by obtain⟨t,h1,h2⟩:=h.all s hs';obtain⟨t',h3,h4⟩:=forth t h1;exact⟨t',h3,h4.trans h2⟩,h.l1,hlen.trans h.l2,h.b1,h.b2,h.p2,hr,
  h.subs.same hs (fun hx=>by rcases hM _ hx with e|e|e<;>first|exact n3 e|exact n9 e|exact n7 e),ht,
  ⟨us,ai hu hs (fun b hb hx=>by obtain⟨q1,q2,q3,q4,q5⟩:=hwb b hb;rcases hM _ hx with e|e|e<;>first|exact q1 e|exact q5 e|exact q3 e),hA⟩,h.wn⟩
theorem eo.to2{o':POp}{ts':List Tpc}{M:List Nat}{wv':Value}{nw':Nat}(h:eo W P B A g1 n1 k1 g2 n2 k2 wv nw o l ts ws)(hs:ab M W W')(hg1:g1∉M)(hb:bv W' B A ws)(hr:Row W' P 228 (o'.cells g1 n1 k1 g2 n2 k2 wv'))(ht:ia W' g2 ts')(hm:ts'.map (fun t=>(t.n,t.spot))=ts.map (fun t=>(t.n,t.spot)))(hg:∀t∈ts',t.gen≤1000000)(hw:∃us:List Nat,W'.ownsRow 0 41 1 wv' nw' (bj us).toList∧∀b,wv'.ownBlock=some b→b≠A)(hn:nw'≤64):eo W' P B A g1 n1 k1 g2 n2 k2 wv' nw' o' l ts' ws:=by
 have back:∀t'∈ts',∃t∈ts,t.n=t'.n∧t.spot=t'.spot:=fun t' ht'=>by
  have h1:(t'.n,t'.spot)∈ts.map (fun t=>(t.n,t.spot)):=by rw[←hm];exact List.mem_map.2 ⟨t',ht',rfl⟩
  obtain⟨t,h2,h3⟩:=List.mem_map.1 h1;exact⟨t,h2,by simpa using congrArg Prod.fst h3,by simpa using congrArg Prod.snd h3⟩
 have forth:∀t∈ts,∃t'∈ts',t'.n=t.n:=fun t ht'=>by
  have h1:(t.n,t.spot)∈ts'.map (fun t=>(t.n,t.spot)):=by rw[hm];exact List.mem_map.2 ⟨t,ht',rfl⟩
  obtain⟨t',h2,h3⟩:=List.mem_map.1 h1;exact⟨t',h2,by simpa using congrArg Prod.fst h3⟩
 have hlen:ts'.length=ts.length:=by have:=congrArg List.length hm;simpa using this
 exact⟨hb,fun t' ht'=>by obtain⟨t,h1,_,h3⟩:=back t' ht';rw[←h3];exact h.ok t h1,fun t' ht'=>by obtain⟨t,h1,_,h3⟩:=back t' ht';rw[←h3];exact h.fit t h1,hg,
  fun s hs'=>by obtain⟨t,h1,h2⟩:=h.all s hs';obtain⟨t',h3,h4⟩:=forth t h1;exact⟨t',h3,h4.trans h2⟩,h.l1,hlen.trans h.l2,h.b1,h.b2,h.p2,hr,
  h.subs.same hs hg1,ht,hw,hn⟩
theorem b7u{ts:List Tpc}{i:Nat}{t:Tpc}(hi:ts[i]?=some t)(x:Nat):(ts.set i ⟨t.n,t.spot,x⟩).map (fun t=>(t.n,t.spot))=ts.map (fun t=>(t.n,t.spot)):=by
 refine List.ext_getElem? (fun j=>?_);rw[List.getElem?_map,List.getElem?_map];by_cases hj:j=i
 ·subst hj;rw[List.getElem?_set_self (bk.1 hi).1,hi]
  rfl
 ·rw[List.getElem?_set_ne (by omega)]
theorem c4i{ts:List Tpc}{i:Nat}{t:Tpc}{x N:Nat}(h:∀t∈ts,t.gen≤N)(hx:x≤N):∀t'∈ts.set i ⟨t.n,t.spot,x⟩,t'.gen≤N:=by
 intro t' ht';rcases List.mem_or_eq_of_mem_set ht' with h1|h1
 ·exact h t' h1
 ·rw[h1];exact hx
end
theorem b4j(w:World)(P B A g1 n1 k1 g2 n2 k2 nw:Nat)(wv:Value)(l:List Sub)(ts:List Tpc)(ws:List Nat)(left i gn pl sz st at_:Nat)(pk:Int)(t:Tpc)(hi:ts[i]?=some t)(hi2:i+1<n2)(hx:wat ws t.spot.seq / 2≤1000000)(hst:st≤100000)(H:eo w P B A g1 n1 k1 g2 n2 k2 wv nw ⟨left,1,i,pk,gn,pl,sz,0,st,at_⟩ l ts ws):Calls Tryz.prog 282 #[pt P,pt B] w fun e w'=>e=.returned (ci 0)∧ab [B,g2,P] w w'∧eo w' P B A g1 n1 k1 g2 n2 k2 wv nw ⟨left,1,i+1,pk,gn,pl,sz,0,st+1,at_⟩ l (ts.set i ⟨t.n,t.spot,wat ws t.spot.seq / 2⟩) ws:=by
 have hrow:=H.row;have hnn:=H.ne;have hl2:=H.l2;have hb2:=H.b2;have hin:i<n2:=by have:=(bk.1 hi).1;omega
 obtain⟨-,-,e2,-,-,-,e6⟩:=ia.c H.tpcs hi;have hsq:=(H.fit t (dh hi)).1;have i0:(0:Int)≤i:=by omega
 have i1:(i:Int)<n2:=by omega
 have t1:decide ((i:Int)+1=n2)=false:=dqf (by omega);simp only[POp.cells] at hrow;obtain⟨c0,c1,c2,c3,c4,c5,c6,c7,c8,c9,c10,c11,c12⟩:=hrow.c13;have HH:=qh H;have HNE:=qh hnn;have HROW:=qh hrow;clear H hnn hrow hl2
 go_enter Tryz.func282,Tryz.ntmps282
 go_wp2_with fail;refine ay 2 ?_;go_wp2_with fail;refine aq (fun w'=>∃n,w'=w.drewN n) 13 (by kernel_rfl) (by kernel_rfl) ⟨1,rfl⟩ ?_;simp only[List.take_succ_cons,List.take_zero,List.drop_succ_cons,List.drop_zero]
 repeat (go_big_quiet_step (fail))
 refine wpQuiet_nil ?_;rintro _ ⟨nq,rfl⟩
 go_wp2_with (first|(go_at_call 84;refine(fc _ B A ws t.spot.seq hsq (HH.o.hb.d0 nq)).mono ?_;rintro e w2 ⟨rfl,hs2,hb2⟩;have r2:=(HROW.o.drewN nq).same hs2 (by simpa using HNE.o.1);obtain⟨d0,d1,d2,d3,d4,d5,d6,d7,d8,d9,d10,d11,d12⟩:=r2.c13;have fr:=r2.free;have ht2:=(HH.o.tpcs.drewN nq).same hs2 (by simpa using HNE.o.2.2.2.2.1);have x6:=(ia.c ht2 hi).2.2.2.2.2.2;have fx:=Arr.free ht2;have n2P:=HNE.o.2.2.2.2.2.2.2.1;have HS2:=qh (((ab.refl [B] w).drewN nq).then hs2 (fun _ h _=>h));have HB2:=qh hb2;have R2:=qh r2;have HT2:=qh ht2;clear hs2 hb2 r2 ht2 c0 c1 c2 c3 c4 c5 c6 c7 c8 c9 c10 c11 c12 e2 e6))
 have hgn:=iq (wat ws t.spot.seq);refine aq (fun w'=>∃n,w'=(w2.setCell ⟨P,11,none⟩ (ci (st+1))).drewN n) 10 (by kernel_rfl) (by kernel_rfl) ⟨1,rfl⟩ ?_;simp only[List.take_succ_cons,List.take_zero,List.drop_succ_cons,List.drop_zero]
 repeat (go_big_quiet_step ((go_at_call 85;exact Calls.quiet_same (hgn _))))
 refine wpQuiet_nil ?_;rintro _ ⟨nz,rfl⟩;go_wp2
 go_quiet (fail)
 go_wp2;refine bh ?_;go_ret;have hs4:=((((((ab.refl [g2,P] w2).sc P 11 (ci (st+1))).drewN nz).sc g2 (i*7+6) (cu ((wat ws t.spot.seq / 2:Nat):Int))).sc P 4 (ci (i+1))).drewN nq);have nB:B∉[g2,P]:=by simpa using ⟨HNE.o.2.2.2.2.1.symm,HNE.o.1.symm⟩
 have nA:A∉[g2,P]:=by simpa using ⟨HNE.o.2.2.2.2.2.1.symm,HNE.o.2.1.symm⟩
 have hS:=(HS2.o.mono (M':=[B,g2,P]) (fun y hy _=>by simp at hy;simp[hy])).then hs4 (fun y hy _=>List.mem_cons_of_mem _ hy);refine⟨rfl,hS,HH.o.to hS (by simp) (HB2.o.same hs4 nB nA) ?_ (((ia.gen ((HT2.o.ot n2P 11 (ci (st+1))).drewN nz) hi _).ot n2P 4 (ci (i+1))).drewN nq) (b7u hi _) (c4i HH.o.gen hx)⟩;refine(((((R2.o.set 11 (ci (st+1))).drewN nz).other (a:=⟨g2,i*7+6,none⟩) n2P.symm (cu ((wat ws t.spot.seq / 2:Nat):Int))).set 4 (ci (i+1))).drewN nq).to ?_
 rfl
class C0(p:Prop)(W W':World)(q:outParam Prop):Prop where
 go:ab [] W W'→p→q
class K0(G:Prop)(W W':World)(G':outParam Prop):Prop where
 go:ab [] W W'→G'→G
class CM(p:Prop)(M:List Nat)(W W':World)(s:outParam Prop)(q:outParam Prop):Prop where
 go:ab M W W'→s→p→q
class KM(G:Prop)(M:List Nat)(W W':World)(s:outParam Prop)(G':outParam Prop):Prop where
 go:ab M W W'→s→G'→G
section
variable{W W':World}{M:List Nat}{p q s S G G':Prop}
instance:K0 G W W' G:=⟨fun _ h=>h⟩
instance [h1:C0 p W W' q] [h2:K0 G W W' G']:K0 (Hd p→G) W W' (Hd q→G'):=⟨fun hs h hp=>h2.go hs (h (qh (h1.go hs hp.o)))⟩
instance:KM G M W W' True G:=⟨fun _ _ h=>h⟩
instance [h1:CM p M W W' s q] [h2:KM G M W W' S G']:KM (Hd p→G) M W W' (s∧S) (Hd q→G'):=⟨fun hs hm h hp=>h2.go hs hm.2 (h (qh (h1.go hs hm.1 hp.o)))⟩
theorem cq(hs:ab [] W W')[h:K0 G W W' G'](k:G'):G:=h.go hs k
theorem cm(hs:ab M W W')[h:KM G M W W' S G'](m:S)(k:G'):G:=h.go hs m k
section
variable{b E sz base n:Nat}{t:TypeId}{cs:Array Value}{cl:List Value}{v:Value}
instance:C0 (Row W b t cs) W W' (Row W' b t cs):=⟨fun hs h=>h.same hs (by simp)⟩
instance:CM (Row W b t cs) M W W' (b∉M) (Row W' b t cs):=⟨fun hs m h=>h.same hs m⟩
instance:C0 (W.ownsRow base E sz v n cl) W W' (W'.ownsRow base E sz v n cl):=⟨fun hs h=>ai h hs nm0⟩
instance:CM (W.ownsRow base E sz v n cl) M W W' (∀b,v.ownBlock=some b→b∉M) (W'.ownsRow base E sz v n cl):=⟨fun hs m h=>ai h hs m⟩
end
section
variable{α:Type}{enc:α→List Value}{sz g E:Nat}{l:List α}
instance:C0 (Arr enc sz W g E l) W W' (Arr enc sz W' g E l):=⟨fun hs h=>h.same hs (by simp)⟩
instance:CM (Arr enc sz W g E l) M W W' (g∉M) (Arr enc sz W' g E l):=⟨fun hs m h=>h.same hs m⟩
end
section
variable{B A:Nat}{ws:List Nat}
instance:C0 (bv W B A ws) W W' (bv W' B A ws):=⟨fun hs h=>h.same hs (by simp) (by simp)⟩
instance:CM (bv W B A ws) M W W' (B∉M∧A∉M) (bv W' B A ws):=⟨fun hs m h=>h.same hs m.1 m.2⟩
end
section
variable{P:Program}{k:TypeId}{b n:Nat}{f:Lit→Option Value}
instance:C0 (a8 P k W b n f) W W' (a8 P k W' b n f):=⟨fun hs h=>h.same hs (by simp)⟩
instance:CM (a8 P k W b n f) M W W' (b∉M) (a8 P k W' b n f):=⟨fun hs m h=>h.same hs m⟩
end
section
variable{W0:World}{M0:List Nat}
instance:C0 (ab M0 W0 W) W W' (ab M0 W0 W'):=⟨fun hs h=>h.then hs fun _ hx _=>by cases hx⟩
instance:CM (ab M0 W0 W) M W W' (∀x∈M,x<W0.heap.size→x∈M0) (ab M0 W0 W'):=⟨fun hs m h=>h.then hs m⟩
instance:C0 (Below W0.heap.size W0 W) W W' (Below W0.heap.size W0 W'):=⟨fun hs h=>h.trans (hs.below h.size (by simp))⟩
instance:CM (Below W0.heap.size W0 W) M W W' (∀x∈M,W0.heap.size≤x) (Below W0.heap.size W0 W'):=⟨fun hs m h=>h.trans (hs.below h.size m)⟩
end
theorem sdw (W : World) (n : Nat) : ab [] W (W.drewN n) := sdn n
theorem sdz (W : World) : ab [] W W.drew := sd0
theorem sst (W : World) (n b i : Nat) (v : Value) : ab [b] W ((W.drewN n).setCell ⟨b, i, none⟩ v) := ((ab.refl [b] W).drewN n).sc b i v
theorem sk (W : World) (b i : Nat) (v : Value) : ab [b] W (W.setCell ⟨b, i, none⟩ v) := sj b i v
theorem sbl{n:Nat}(h:Below (W.drewN n).heap.size (W.drewN n) W'):ab [] W W':=(sdn n).bel h
theorem sbb(h:Below W.heap.size W W'):ab [] W W':=ab.of_below h
theorem ssm{n:Nat}(h:ab M (W.drewN n) W'):ab M W W':=((ab.refl M W).drewN n).then h fun _ hx _=>hx
theorem sa1(W:World)(o:Obj):ab [] W (W.alloc o):=ab.alloc W o
theorem sa2(W:World)(o p:Obj):ab [] W ((W.alloc o).alloc p):=(ab.alloc W o).allocd p
theorem sa3(W:World)(o p q:Obj):ab [] W (((W.alloc o).alloc p).alloc q):=((ab.alloc W o).allocd p).allocd q
theorem sal(W:World)(n:Nat)(o:Obj):ab [] W ((W.drewN n).alloc o):=(sdn n).allocd o
theorem mm {b : Nat} {P : Nat → Prop} (h : b ∈ M) : ∀ x ∈ [b], P x → x ∈ M := fun x hx _ => by simp only [List.mem_singleton] at hx; subst hx; exact h
theorem mn {b n : Nat} (h : n ≤ b) : ∀ x ∈ [b], n ≤ x := fun x hx => by simp only [List.mem_singleton] at hx; subst hx; exact h
theorem Ups.d{C:World→Prop}(h:∀W n,C W→C (W.drewN n)):Ups (fun W W'=>∃n,W'=W.drewN n) C:=al h
end
section
variable{P:Program}{ops:Array Oper}{Q:Exit→Act→World→Prop}{C C':World→Prop}{k:Nat}{dk:Option Tmp}{Fr:Nat→World→Prop}{i:Nat}{oi:Oper}{listed:Array Bool}{a:Act}{W:World}
theorem az(S:RG ops Q (fun W W'=>∃n,W'=W.drewN n) k dk Fr)(hC:Ups (fun W W'=>∃n,W'=W.drewN n) C)(i f:Nat)(hi:ops[i]?=some oi)(hCW:C W)(h:∀n,∀K:Act→World→Prop,(∀a' W1,C W1→wpR P ops Q (fun W W'=>∃n,W'=W.drewN n) k dk Fr C f (listed.setIfInBounds i true) a' W1→K a' W1)→wpList P ops (jh K Q) [oi] a (W.drewN n))(hB:gx ops k i f listed=true:=by kernel_rfl)(hl:listed.getD k true=true:=by kernel_rfl):wpR P ops Q (fun W W'=>∃n,W'=W.drewN n) k dk Fr C (f+1) listed a W:=iy S hC i f hi hCW (fun W' hW _=>by obtain⟨n,rfl⟩:=hW;exact h n) hB hl
theorem d1e(S:RG ops Q (fun W W'=>∃n,W'=W.drewN n) k dk Fr)(hC:Ups (fun W W'=>∃n,W'=W.drewN n) C)(i f:Nat)(hi:ops[i]?=some oi)(hCW:C W)(h:∀n,∀K:Act→World→Prop,(∀(C':World→Prop) a' W1,(∀W,C' W→C W)→C' W1→wpR P ops Q (fun W W'=>∃n,W'=W.drewN n) k dk Fr C' f (listed.setIfInBounds i true) a' W1→K a' W1)→wpList P ops (jh K Q) [oi] a (W.drewN n))(hB:gx ops k i f listed=true:=by kernel_rfl)(hl:listed.getD k true=true:=by kernel_rfl):wpR P ops Q (fun W W'=>∃n,W'=W.drewN n) k dk Fr C (f+1) listed a W:=ud S hC i oi f listed a W hi hB hl hCW fun W' hW _=>by obtain⟨n,rfl⟩:=hW;exact h n
theorem ti(S:RG ops Q (fun W W'=>∃n,W'=W.drewN n) k dk Fr)(hC:Ups (fun W W'=>∃n,W'=W.drewN n) C)(i:Nat)(hi:ops[i]?=some oi)(hCW:C W)(h:∀n,∀K:Act→World→Prop,(∀a' W1,wpR P ops Q (fun W W'=>∃n,W'=W.drewN n) k dk Fr C 0 (listed.setIfInBounds i true) a' W1→K a' W1)→wpList P ops (jh K Q) [oi] a (W.drewN n))(hB:gx ops k i 0 listed=true:=by kernel_rfl)(hL:mt ops i=true:=by kernel_rfl)(hl:listed.getD k true=true:=by kernel_rfl):wpR P ops Q (fun W W'=>∃n,W'=W.drewN n) k dk Fr C (0+1) listed a W:=b7o S hC i oi listed a W hi hB hL hl hCW fun W' hW _=>by obtain⟨n,rfl⟩:=hW;exact h n
theorem dd(h:∀n,Q .normal a (W.drewN n))(hB:(Region.ready .any ops listed).isEmpty=true:=by kernel_rfl):wpR P ops (NoPanic Q) (fun W W'=>∃n,W'=W.drewN n) k dk Fr C 0 listed a W:=jt (fun W' hW=>by obtain⟨n,rfl⟩:=hW;exact NoPanic.normal (h n)) hB
theorem rh(h:∀W',Below W.heap.size W W'→Q .normal a W')(hB:(Region.ready .any ops listed).isEmpty=true:=by kernel_rfl):wpR P ops (NoPanic Q) (fun W W'=>∃g:ag W,W'=g.to) k dk Fr C 0 listed a W:=jt (fun W' hW=>NoPanic.normal (h W' (a7 hW))) hB
theorem re(S:RG ops Q (fun W W'=>∃g:ag W,W'=g.to) k dk Fr)(hC:Ups (fun W W'=>∃g:ag W,W'=g.to) C)(i f:Nat)(hi:ops[i]?=some oi)(hCW:C W)(h:∀W',Below W.heap.size W W'→∀K:Act→World→Prop,(∀a' W1,C W1→wpR P ops Q (fun W W'=>∃g:ag W,W'=g.to) k dk Fr C f (listed.setIfInBounds i true) a' W1→K a' W1)→wpList P ops (jh K Q) [oi] a W')(hB:gx ops k i f listed=true:=by kernel_rfl)(hl:listed.getD k true=true:=by kernel_rfl):wpR P ops Q (fun W W'=>∃g:ag W,W'=g.to) k dk Fr C (f+1) listed a W:=iy S hC i f hi hCW (fun W' hW _=>h W' (a7 hW)) hB hl
theorem b0g(S:RG ops Q (fun W W'=>∃g:ag W,W'=g.to) k dk Fr)(hC:Ups (fun W W'=>∃g:ag W,W'=g.to) C)(i f:Nat)(hi:ops[i]?=some oi)(h:∀W',Below W.heap.size W W'→∀K:Act→World→Prop,(∀a' W1,C W1→(listed.getD k true=false→∀p,Fr p W'→Fr p W1)→wpR P ops Q (fun W W'=>∃g:ag W,W'=g.to) k dk Fr C f (listed.setIfInBounds i true) a' W1→K a' W1)→wpList P ops (jh K Q) [oi] a W')(hB:gx ops k i f listed=true:=by kernel_rfl):wpR P ops Q (fun W W'=>∃g:ag W,W'=g.to) k dk Fr C (f+1) listed a W:=b2r S hC i f hi (fun W' hW=>h W' (a7 hW)) hB
end
theorem b2a(w:World)(P B A g1 n1 k1 g2 n2 k2 nw:Nat)(wv:Value)(l:List Sub)(ts:List Tpc)(ws:List Nat)(left i gn pl sz st at_:Nat)(pk:Int)(t:Tpc)(hi:ts[i]?=some t)(hi2:i+1=n2)(hx:wat ws t.spot.seq / 2≤1000000)(hst:st≤100000)(H:eo w P B A g1 n1 k1 g2 n2 k2 wv nw ⟨left,1,i,pk,gn,pl,sz,0,st,at_⟩ l ts ws):Calls Tryz.prog 282 #[pt P,pt B] w fun e w'=>∃(rnd:Nat)(pk':Int)(gn' pl' sz':Nat),(-1≤pk'∧pk'<n1)∧(rnd=3∨rnd=2∧1≤sz'∧sz'≤64∧pl'+sz'≤ws.length)∧e=.returned (ci 0)∧ab [B,g2,P] w w'∧eo w' P B A g1 n1 k1 g2 n2 k2 (zn) 0 ⟨left,rnd,0,pk',gn',pl',sz',0,st+1,st+1⟩ l (ts.set i ⟨t.n,t.spot,wat ws t.spot.seq / 2⟩) ws:=by
 have hrow:=H.row;have hnn:=H.ne;have hl2:=H.l2;have hb2:=H.b2;have hin:i<n2:=by have:=(bk.1 hi).1;omega
 obtain⟨-,-,e2,-,-,-,e6⟩:=ia.c H.tpcs hi;have hsq:=(H.fit t (dh hi)).1;have i0:(0:Int)≤i:=by omega
 have i1:(i:Int)<n2:=by omega
 have t1:decide ((i:Int)+1=n2)=true:=dqt (by omega);simp only[POp.cells] at hrow;obtain⟨c0,c1,c2,c3,c4,c5,c6,c7,c8,c9,c10,c11,c12⟩:=hrow.c13;have HH:=qh H;have HNE:=qh hnn;have HROW:=qh hrow;clear H hnn hrow hl2
 go_enter Tryz.func282,Tryz.ntmps282
 go_wp2_with fail;refine ay 2 ?_;go_wp2_with fail;refine aq (fun w'=>∃n,w'=w.drewN n) 13 (by kernel_rfl) (by kernel_rfl) ⟨1,rfl⟩ ?_;simp only[List.take_succ_cons,List.take_zero,List.drop_succ_cons,List.drop_zero]
 repeat (go_big_quiet_step (fail))
 refine wpQuiet_nil ?_;rintro _ ⟨nq,rfl⟩
 go_wp2_with (first|(go_at_call 84;refine(fc _ B A ws t.spot.seq hsq (HH.o.hb.d0 nq)).mono ?_;rintro e w2 ⟨rfl,hs2,hb2⟩;have r2:=(HROW.o.drewN nq).same hs2 (by simpa using HNE.o.1);obtain⟨d0,d1,d2,d3,d4,d5,d6,d7,d8,d9,d10,d11,d12⟩:=r2.c13;have fr:=r2.free;have ht2:=(HH.o.tpcs.drewN nq).same hs2 (by simpa using HNE.o.2.2.2.2.1);have x6:=(ia.c ht2 hi).2.2.2.2.2.2;have fx:=Arr.free ht2;have n2P:=HNE.o.2.2.2.2.2.2.2.1;have HS2:=qh (((ab.refl [B] w).drewN nq).then hs2 (fun _ h _=>h));have HB2:=qh hb2;have R2:=qh r2;have HT2:=qh ht2;clear hs2 hb2 r2 ht2 c0 c1 c2 c3 c4 c5 c6 c7 c8 c9 c10 c11 c12 e2 e6))
 have hgn:=iq (wat ws t.spot.seq);refine aq (fun w'=>∃n,w'=(w2.setCell ⟨P,11,none⟩ (ci (st+1))).drewN n) 10 (by kernel_rfl) (by kernel_rfl) ⟨1,rfl⟩ ?_;simp only[List.take_succ_cons,List.take_zero,List.drop_succ_cons,List.drop_zero]
 repeat (go_big_quiet_step ((go_at_call 85;exact Calls.quiet_same (hgn _))))
 refine wpQuiet_nil ?_;rintro _ ⟨nz,rfl⟩;go_wp2
 go_quiet (fail)
 have hs4:=((((((ab.refl [g2,P] w2).sc P 11 (ci (st+1))).drewN nz).sc g2 (i*7+6) (cu ((wat ws t.spot.seq / 2:Nat):Int))).sc P 4 (ci (i+1))).drewN nq);have nB:B∉[g2,P]:=by simpa using ⟨HNE.o.2.2.2.2.1.symm,HNE.o.1.symm⟩
 have nA:A∉[g2,P]:=by simpa using ⟨HNE.o.2.2.2.2.2.1.symm,HNE.o.2.1.symm⟩
 have hS:=(HS2.o.mono (M':=[B,g2,P]) (fun y hy _=>by simp at hy;simp[hy])).then hs4 (fun y hy _=>List.mem_cons_of_mem _ hy);have H5:Hd (eo ((((((w2.setCell ⟨P,11,none⟩ (ci (st+1))).drewN nz).setCell ⟨g2,i*7+6,none⟩ (cu (((wat ws t.spot.seq:Nat):Int) / 2))).setCell ⟨P,4,none⟩ (ci (i+1))).drewN nq)) P B A g1 n1 k1 g2 n2 k2 wv nw ⟨left,1,i+1,pk,gn,pl,sz,0,st+1,at_⟩ l (ts.set i ⟨t.n,t.spot,wat ws t.spot.seq / 2⟩) ws):=qh (HH.o.to (o':=⟨left,1,i+1,pk,gn,pl,sz,0,st+1,at_⟩) hS (by simp) (HB2.o.same hs4 nB nA) ((((((R2.o.set 11 (ci (st+1))).drewN nz).other (a:=⟨g2,i*7+6,none⟩) n2P.symm (cu ((wat ws t.spot.seq / 2:Nat):Int))).set 4 (ci (i+1))).drewN nq).to rfl) (((ia.gen ((HT2.o.ot n2P 11 (ci (st+1))).drewN nz) hi _).ot n2P 4 (ci (i+1))).drewN nq) (b7u hi _) (c4i HH.o.gen hx))
 have HS5:Hd (ab [B,g2,P] w ((((((w2.setCell ⟨P,11,none⟩ (ci (st+1))).drewN nz).setCell ⟨g2,i*7+6,none⟩ (cu (((wat ws t.spot.seq:Nat):Int) / 2))).setCell ⟨P,4,none⟩ (ci (i+1))).drewN nq))):=qh hS;generalize (((((w2.setCell ⟨P,11,none⟩ (ci (st+1))).drewN nz).setCell ⟨g2,i*7+6,none⟩ (cu (((wat ws t.spot.seq:Nat):Int) / 2))).setCell ⟨P,4,none⟩ (ci (i+1))).drewN nq)=w5 at *;clear hs4 hS d0 d1 d2 d3 d4 d5 d6 d7 d8 d9 d10 d11 d12 fr x6 fx;have hch:=b8x w5 P g1 n1 k1 g2 n2 k2 wv _ l _ H5.o.l1 H5.o.l2 H5.o.b1 H5.o.b2 H5.o.all H5.o.gen H5.o.ok H5.o.row H5.o.subs H5.o.tpcs;have HCH:=qh hch;clear hch hgn
 go_wp2_with (first|(go_at_call 283;refine HCH.o.mono ?_;rintro e w6 ⟨rfl,hs6,pk',gn',pl',sz',hp1,hp2,hz,hr6⟩;simp only[POp.cells] at hr6;obtain⟨d0,d1,d2,d3,d4,d5,d6,d7,d8,d9,d10,d11,d12⟩:=hr6.c13;have fr:=hr6.free;have R6:=qh hr6;have HS6:=qh hs6;have HZ:=qh hz;clear hs6 hr6 hz HCH))
 ·refine bh ?_;go_ret;have hs7:=(((HS6.o.sc P 3 (ci 2)).sc P 4 (ci 0)).sc P 3 (ci 3));have nP1:g1∉[P]:=by simpa using HNE.o.2.2.2.2.2.2.1
  have nP2:g2∉[P]:=by simpa using HNE.o.2.2.2.2.2.2.2.1
  have nPB:B∉[P]:=by simpa using HNE.o.1.symm
  have nPA:A∉[P]:=by simpa using HNE.o.2.1.symm
  exact⟨3,pk',gn',pl',sz',⟨hp1,hp2⟩,Or.inl rfl,rfl,HS5.o.then hs7 (fun y hy _=>by simp at hy;simp[hy]),H5.o.to2 hs7 nP1 (H5.o.hb.same hs7 nPB nPA) ((((R6.o.set 3 (ci 2)).set 4 (ci 0)).set 3 (ci 3)).to rfl) (H5.o.tpcs.same hs7 nP2) rfl H5.o.gen ⟨[],⟨rfl,Or.inl ⟨rfl,rfl⟩⟩,fun b hb=>by cases hb⟩ (by omega)⟩
 ·refine bh ?_;go_ret
  have hz2:2=2∧1≤sz'∧sz'≤64∧pl'+sz'≤ws.length:=by
   rcases HZ.o with h0|⟨h1,h2,t',ht',hle⟩
   ·subst h0;exact absurd (by assumption:(((0:Nat):Int)==0)=false) (by decide)
   ·exact⟨rfl,h1,h2,nlt hle (H5.o.fit t' ht').2⟩
  have hs7:=(((HS6.o.sc P 3 (ci 2)).sc P 4 (ci 0)));have nP1:g1∉[P]:=by simpa using HNE.o.2.2.2.2.2.2.1
  have nP2:g2∉[P]:=by simpa using HNE.o.2.2.2.2.2.2.2.1
  have nPB:B∉[P]:=by simpa using HNE.o.1.symm
  have nPA:A∉[P]:=by simpa using HNE.o.2.1.symm
  exact⟨2,pk',gn',pl',sz',⟨hp1,hp2⟩,Or.inr hz2,rfl,HS5.o.then hs7 (fun y hy _=>by simp at hy;simp[hy]),H5.o.to2 hs7 nP1 (H5.o.hb.same hs7 nPB nPA) (((R6.o.set 3 (ci 2)).set 4 (ci 0)).to rfl) (H5.o.tpcs.same hs7 nP2) rfl H5.o.gen ⟨[],⟨rfl,Or.inl ⟨rfl,rfl⟩⟩,fun b hb=>by cases hb⟩ (by omega)⟩
theorem ab.grown'{W W':World}{r:Option Nat}(h:W.grownBy W' r):ab r.toList W W':=by
 cases r with
 | none=>exact⟨h.os,h.tape,h.output,h.size,fun i hi _=>h.block i hi (fun hx=>by cases hx)⟩
 | some b=>exact⟨h.os,h.tape,h.output,h.size,fun i hi hn=>h.block i hi (fun hx=>hn (by cases hx;simp))⟩
theorem b7v{w:World}{n:Nat}{x:Value}{t:TypeId}(h:n=w.heap.size):∀j u,[x][j]?=some u→(w.alloc (.cells #[x] t)).cell? ((⟨n,0,none⟩:Addr).add j)=some u:=by subst h;exact cell_one_new w x t
theorem gl{W:World}{base E sz n:Nat}{v:Value}{cs:List Value}(h:W.ownsRow base E sz v (n+1) cs):∃g c,v=zl g (n+1) c:=by
 rcases h.2 with ⟨_,h1⟩|⟨g,cap,cur,h1,_⟩
 ·cases h1
 ·exact⟨g,cap,h1⟩
theorem ru{W:World}{base E sz n:Nat}{v:Value}{cs:List Value}{a:Addr}(h:W.ownsRow base E sz v n cs)(hb:∀b,v.ownBlock=some b→b≠a.block)(x:Value):(W.setCell a x).ownsRow base E sz v n cs:=
 ai h ((ab.refl [a.block] W).setCell (by simp) x) (fun b h=>by simpa using hb b h)
theorem b2b(w:World)(P B A g1 n1 k1 g2 n2 k2:Nat)(wv:Value)(l:List Sub)(ts:List Tpc)(ws:List Nat)(left i gn pl sz st at_:Nat)(pk:Int)(hi2:i+1<sz)(hz:sz≤64)(hpl:pl+sz≤ws.length)(hws:ws.length≤1000000)(hst:st≤100000)(H:eo w P B A g1 n1 k1 g2 n2 k2 wv i ⟨left,2,i,pk,gn,pl,sz,0,st,at_⟩ l ts ws):Calls Tryz.prog 282 #[pt P,pt B] w fun e w'=>∃wv':Value,(∀b,wv'.ownBlock=some b→wv.ownBlock=some b∨w.heap.size≤b)∧e=.returned (ci 0)∧ab (B::P::wv.ownBlock.toList) w w'∧eo w' P B A g1 n1 k1 g2 n2 k2 wv' (i+1) ⟨left,2,(i+1),pk,gn,pl,sz,0,st+1,at_⟩ l ts ws:=by
 have hrow:=H.row;have hnn:=H.ne;have hl2:=H.l2;have hb2:=H.b2;have hz':i<sz∧sz≤64:=⟨by omega,hz⟩;have i0:(0:Int)≤i:=by omega
 have hwb:=H.wb;have t1:decide ((i:Int)+1=sz)=false:=dqf (by omega);have t2:(((i:Int)+1)==sz)=false:=bfn.2 (by omega);clear hi2;obtain⟨us,hus,hwA⟩:=H.wvs;have HWB:=qh hwb;have HWA:=qh hwA;clear hwb hwA;simp only[POp.cells] at hrow;obtain⟨c0,c1,c2,c3,c4,c5,c6,c7,c8,c9,c10,c11,c12⟩:=hrow.c13;have HH:=qh H;have HNE:=qh hnn;have HROW:=qh hrow;clear H hnn hrow hl2;obtain⟨q0,hq0,hq1,hq2,hq3⟩:=info_parts o6
 go_enter Tryz.func282,Tryz.ntmps282
 go_wp2_with fail;refine ay 2 ?_;go_wp2_with fail;refine wp_goto ?_;refine⟨_,rfl,?_⟩;go_wp2_with fail;refine aq (fun w'=>∃n,w'=w.drewN n) 10 (by kernel_rfl) (by kernel_rfl) ⟨1,rfl⟩ ?_;simp only[List.take_succ_cons,List.take_zero,List.drop_succ_cons,List.drop_zero]
 repeat (go_big_quiet_step (fail))
 refine wpQuiet_nil ?_;rintro _ ⟨nq,rfl⟩
 go_wp2_with (first|(go_at_call 84;have hld:=fc _ B A ws (pl+i) (by omega) (HH.o.hb.d0 nq);rw[Int.natCast_add] at hld;refine hld.mono ?_;clear hld;rintro e w2 ⟨rfl,hs2,hb2⟩;have r2:=(HROW.o.drewN nq).same hs2 (by simpa using HNE.o.1);have HS2:=qh (((ab.refl [B] w).drewN nq).then hs2 (fun _ h _=>h));have HB2:=qh hb2;obtain⟨d0,d1,d2,d3,d4,d5,d6,d7,d8,d9,d10,d11,d12⟩:=r2.c13;have fr:=r2.free;have R2:=qh r2;have O2:=qh (ai hus (((ab.refl [B] w).drewN nq).then hs2 (fun _ h _=>h)) (fun b hb=>by simpa using (HWB.o b hb).1));clear hs2 hb2 r2 c0 c1 c2 c3 c4 c5 c6 c7 c8 c9 c10 c11 c12)|(at_builtin;go_loud (refine wpList_append_own_at _ rfl _ _ 37 rfl 0 41 q0 _ 1 8 Tryz.underlying37 hq0 hq1 hq2 hq3 rfl (by decide) wv i _ rfl ((ru (a:=⟨P,11,none⟩) O2.o (fun b hb=>(HWB.o b hb).2.2.1) _).alloc _) _ 1 1 [_] rfl rfl (b7v (by simp)) (by simp[Value.oneCell']) (by unfold maxLen;omega) (by omega) (Nat.zero_le _) ?_;intro v3 w3 hown hgrow _ hor;obtain⟨g3,cap3,rfl⟩:=gl hown;have hs3:=ab.grown' hgrow;have r3:Row w3 P 228 #[zl g1 n1 k1,zl g2 n2 k2,ci left,ci (2:Nat),ci i,ci pk,cu gn,ci pl,ci sz,wv,ci (0:Nat),ci (st+1),ci at_]:=((((R2.o.set 11 (ci (st+1))).alloc _).same hs3 (fun hx=>(HWB.o P (by simpa using hx)).2.2.1 rfl)).to rfl);clear d0 d1 d2 d3 d4 d5 d6 d7 d8 d9 d10 d11 d12 fr;obtain⟨d0,d1,d2,d3,d4,d5,d6,d7,d8,d9,d10,d11,d12⟩:=r3.c13;have fr:=r3.free;have R3:=qh r3;have HS3:=qh hs3;have HO3:=qh hown;have HOR:=qh hor;clear hown hgrow hor hs3 r3)))
 go_quiet (fail)
 go_wp2;refine bh ?_;go_ret;have n2P:=HNE.o.2.2.2.2.2.2.2.1;have SA:ab [P] w2 _:=(sj (W:=w2) P 11 (ci (st+1))).allocd (.cells #[cu (wat ws (pl+i))] 41);have nOB:∀x,(x∉wv.ownBlock.toList)↔(∀b,wv.ownBlock=some b→b≠x):=fun x=>by cases wv.ownBlock<;>simp[eq_comm]
 have xB:B∉wv.ownBlock.toList:=(nOB B).2 fun b hb=>(HWB.o b hb).1;have xA:A∉wv.ownBlock.toList:=(nOB A).2 fun b hb=>(HWB.o b hb).2.1;have xg1:g1∉wv.ownBlock.toList:=(nOB g1).2 fun b hb=>(HWB.o b hb).2.2.2.1;have xg2:g2∉wv.ownBlock.toList:=(nOB g2).2 fun b hb=>(HWB.o b hb).2.2.2.2;have hb3:=(HB2.o.same SA (by simpa using HNE.o.1.symm) (by simpa using HNE.o.2.1.symm)).same HS3.o xB xA;have HT3:=((HH.o.tpcs.same HS2.o (by simpa using HNE.o.2.2.2.2.1)).same SA (by simpa using n2P)).same HS3.o xg2;have SX:ab (P::wv.ownBlock.toList) w2 w3:=(SA.mono (M':=P::wv.ownBlock.toList) (fun y hy _=>by simp at hy;simp[hy])).then HS3.o (fun y hy _=>List.mem_cons_of_mem _ hy);have S4:=(((SX.sc P 9 (zl g3 (i+1) cap3)).sc P 4 (ci (i+1))).drewN nq)
 have SW:ab (B::P::wv.ownBlock.toList) w _:=(HS2.o.mono (M':=B::P::wv.ownBlock.toList) (fun y hy _=>by simp at hy;simp[hy])).then S4 (fun y hy _=>List.mem_cons_of_mem _ hy);have S5:ab [P] w3 _:=(((sj (W:=w3) P 9 (zl g3 (i+1) cap3)).sc P 4 (ci (i+1))).drewN nq)
 have n3P:∀b,(Value.slice (some ⟨g3,0,none⟩) (i+1) cap3).ownBlock=some b→b≠P:=fun b hb=>by
  rcases HOR.o with h1|h1
  ·rw[h1] at hb;exact(HWB.o b hb).2.2.1
  ·rw[h1] at hb;cases hb
   have:=HROW.o.lt;have:=HS2.o.size;simp;omega
 have hold:∀b,(Value.slice (some ⟨g3,0,none⟩) (i+1) cap3).ownBlock=some b→wv.ownBlock=some b∨w.heap.size≤b:=fun b hb=>by
  rcases HOR.o with h1|h1
  ·rw[h1] at hb;exact Or.inl hb
  ·rw[h1] at hb;cases hb
   have:=HS2.o.size;exact Or.inr (by simp;omega)
 refine⟨_,hold,rfl,SW,HH.o.to2 SW ?_ ?_ ((((((R3.o.set 9 (zl g3 (i+1) cap3)).set 4 (ci (i+1))).drewN nq))).to rfl) (((HT3.ot n2P 9 (zl g3 (i+1) cap3)).ot n2P 4 (ci (i+1))).drewN nq) rfl HH.o.gen ⟨us++[wat ws (pl+i)],?_,?_⟩ (by omega)⟩
 ·simpa using ⟨HNE.o.2.2.1,HNE.o.2.2.2.2.2.2.1,by simpa using xg1⟩
 ·exact hb3.same S5 (by simpa using HNE.o.1.symm) (by simpa using HNE.o.2.1.symm)
 ·have:=ai HO3.o S5 (fun b hb=>by simpa using n3P b hb)
  simpa[bj] using this
 ·intro b hb;rcases hold b hb with h1|h1
  ·exact HWA.o b h1
  ·have:=HH.o.hb.wd.lt;omega
theorem b0b(w:World)(P B A g1 n1 k1 g2 n2 k2:Nat)(wv:Value)(l:List Sub)(ts:List Tpc)(ws:List Nat)(left i gn pl sz st at_:Nat)(pk:Int)(hi2:i+1=sz)(hz:sz≤64)(hpl:pl+sz≤ws.length)(hws:ws.length≤1000000)(hst:st≤100000)(H:eo w P B A g1 n1 k1 g2 n2 k2 wv i ⟨left,2,i,pk,gn,pl,sz,0,st,at_⟩ l ts ws):Calls Tryz.prog 282 #[pt P,pt B] w fun e w'=>∃wv':Value,(∀b,wv'.ownBlock=some b→wv.ownBlock=some b∨w.heap.size≤b)∧e=.returned (ci 0)∧ab (B::P::wv.ownBlock.toList) w w'∧eo w' P B A g1 n1 k1 g2 n2 k2 wv' (i+1) ⟨left,3,0,pk,gn,pl,sz,0,st+1,at_⟩ l ts ws:=by
 have hrow:=H.row;have hnn:=H.ne;have hl2:=H.l2;have hb2:=H.b2;have hz':i<sz∧sz≤64:=⟨by omega,hz⟩;have i0:(0:Int)≤i:=by omega
 have hwb:=H.wb;have t1:decide ((i:Int)+1=sz)=true:=dqt (by omega);have t2:(((i:Int)+1)==sz)=true:=beq_iff_eq.2 (by omega);clear hi2;obtain⟨us,hus,hwA⟩:=H.wvs;have HWB:=qh hwb;have HWA:=qh hwA;clear hwb hwA;simp only[POp.cells] at hrow;obtain⟨c0,c1,c2,c3,c4,c5,c6,c7,c8,c9,c10,c11,c12⟩:=hrow.c13;have HH:=qh H;have HNE:=qh hnn;have HROW:=qh hrow;clear H hnn hrow hl2;obtain⟨q0,hq0,hq1,hq2,hq3⟩:=info_parts o6
 go_enter Tryz.func282,Tryz.ntmps282
 go_wp2_with fail;refine ay 2 ?_;go_wp2_with fail;refine wp_goto ?_;refine⟨_,rfl,?_⟩;go_wp2_with fail;refine aq (fun w'=>∃n,w'=w.drewN n) 10 (by kernel_rfl) (by kernel_rfl) ⟨1,rfl⟩ ?_;simp only[List.take_succ_cons,List.take_zero,List.drop_succ_cons,List.drop_zero]
 repeat (go_big_quiet_step (fail))
 refine wpQuiet_nil ?_;rintro _ ⟨nq,rfl⟩
 go_wp2_with (first|(go_at_call 84;have hld:=fc _ B A ws (pl+i) (by omega) (HH.o.hb.d0 nq);rw[Int.natCast_add] at hld;refine hld.mono ?_;clear hld;rintro e w2 ⟨rfl,hs2,hb2⟩;have r2:=(HROW.o.drewN nq).same hs2 (by simpa using HNE.o.1);have HS2:=qh (((ab.refl [B] w).drewN nq).then hs2 (fun _ h _=>h));have HB2:=qh hb2;obtain⟨d0,d1,d2,d3,d4,d5,d6,d7,d8,d9,d10,d11,d12⟩:=r2.c13;have fr:=r2.free;have R2:=qh r2;have O2:=qh (ai hus (((ab.refl [B] w).drewN nq).then hs2 (fun _ h _=>h)) (fun b hb=>by simpa using (HWB.o b hb).1));clear hs2 hb2 r2 c0 c1 c2 c3 c4 c5 c6 c7 c8 c9 c10 c11 c12)|(at_builtin;go_loud (refine wpList_append_own_at _ rfl _ _ 37 rfl 0 41 q0 _ 1 8 Tryz.underlying37 hq0 hq1 hq2 hq3 rfl (by decide) wv i _ rfl ((ru (a:=⟨P,11,none⟩) O2.o (fun b hb=>(HWB.o b hb).2.2.1) _).alloc _) _ 1 1 [_] rfl rfl (b7v (by simp)) (by simp[Value.oneCell']) (by unfold maxLen;omega) (by omega) (Nat.zero_le _) ?_;intro v3 w3 hown hgrow _ hor;obtain⟨g3,cap3,rfl⟩:=gl hown;have hs3:=ab.grown' hgrow;have r3:Row w3 P 228 #[zl g1 n1 k1,zl g2 n2 k2,ci left,ci (2:Nat),ci i,ci pk,cu gn,ci pl,ci sz,wv,ci (0:Nat),ci (st+1),ci at_]:=((((R2.o.set 11 (ci (st+1))).alloc _).same hs3 (fun hx=>(HWB.o P (by simpa using hx)).2.2.1 rfl)).to rfl);clear d0 d1 d2 d3 d4 d5 d6 d7 d8 d9 d10 d11 d12 fr;obtain⟨d0,d1,d2,d3,d4,d5,d6,d7,d8,d9,d10,d11,d12⟩:=r3.c13;have fr:=r3.free;have R3:=qh r3;have HS3:=qh hs3;have HO3:=qh hown;have HOR:=qh hor;clear hown hgrow hor hs3 r3)))
 go_quiet (fail)
 go_wp2;refine bh ?_;go_ret;have n2P:=HNE.o.2.2.2.2.2.2.2.1;have SA:ab [P] w2 _:=(sj (W:=w2) P 11 (ci (st+1))).allocd (.cells #[cu (wat ws (pl+i))] 41);have nOB:∀x,(x∉wv.ownBlock.toList)↔(∀b,wv.ownBlock=some b→b≠x):=fun x=>by cases wv.ownBlock<;>simp[eq_comm]
 have xB:B∉wv.ownBlock.toList:=(nOB B).2 fun b hb=>(HWB.o b hb).1;have xA:A∉wv.ownBlock.toList:=(nOB A).2 fun b hb=>(HWB.o b hb).2.1;have xg1:g1∉wv.ownBlock.toList:=(nOB g1).2 fun b hb=>(HWB.o b hb).2.2.2.1;have xg2:g2∉wv.ownBlock.toList:=(nOB g2).2 fun b hb=>(HWB.o b hb).2.2.2.2;have hb3:=(HB2.o.same SA (by simpa using HNE.o.1.symm) (by simpa using HNE.o.2.1.symm)).same HS3.o xB xA;have HT3:=((HH.o.tpcs.same HS2.o (by simpa using HNE.o.2.2.2.2.1)).same SA (by simpa using n2P)).same HS3.o xg2;have SX:ab (P::wv.ownBlock.toList) w2 w3:=(SA.mono (M':=P::wv.ownBlock.toList) (fun y hy _=>by simp at hy;simp[hy])).then HS3.o (fun y hy _=>List.mem_cons_of_mem _ hy);have S4:=(((((SX.sc P 9 (zl g3 (i+1) cap3)).sc P 4 (ci (i+1))).drewN nq).sc P 3 (ci 3)).sc P 4 (ci 0))
 have SW:ab (B::P::wv.ownBlock.toList) w _:=(HS2.o.mono (M':=B::P::wv.ownBlock.toList) (fun y hy _=>by simp at hy;simp[hy])).then S4 (fun y hy _=>List.mem_cons_of_mem _ hy);have S5:ab [P] w3 _:=(((((sj (W:=w3) P 9 (zl g3 (i+1) cap3)).sc P 4 (ci (i+1))).drewN nq).sc P 3 (ci 3)).sc P 4 (ci 0))
 have n3P:∀b,(Value.slice (some ⟨g3,0,none⟩) (i+1) cap3).ownBlock=some b→b≠P:=fun b hb=>by
  rcases HOR.o with h1|h1
  ·rw[h1] at hb;exact(HWB.o b hb).2.2.1
  ·rw[h1] at hb;cases hb
   have:=HROW.o.lt;have:=HS2.o.size;simp;omega
 have hold:∀b,(Value.slice (some ⟨g3,0,none⟩) (i+1) cap3).ownBlock=some b→wv.ownBlock=some b∨w.heap.size≤b:=fun b hb=>by
  rcases HOR.o with h1|h1
  ·rw[h1] at hb;exact Or.inl hb
  ·rw[h1] at hb;cases hb
   have:=HS2.o.size;exact Or.inr (by simp;omega)
 refine⟨_,hold,rfl,SW,HH.o.to2 SW ?_ ?_ ((((((((R3.o.set 9 (zl g3 (i+1) cap3)).set 4 (ci (i+1))).drewN nq)).set 3 (ci 3)).set 4 (ci 0))).to rfl) (((((HT3.ot n2P 9 (zl g3 (i+1) cap3)).ot n2P 4 (ci (i+1))).drewN nq).ot n2P 3 (ci 3)).ot n2P 4 (ci 0)) rfl HH.o.gen ⟨us++[wat ws (pl+i)],?_,?_⟩ (by omega)⟩
 ·simpa using ⟨HNE.o.2.2.1,HNE.o.2.2.2.2.2.2.1,by simpa using xg1⟩
 ·exact hb3.same S5 (by simpa using HNE.o.1.symm) (by simpa using HNE.o.2.1.symm)
 ·have:=ai HO3.o S5 (fun b hb=>by simpa using n3P b hb)
  simpa[bj] using this
 ·intro b hb;rcases hold b hb with h1|h1
  ·exact HWA.o b h1
  ·have:=HH.o.hb.wd.lt;omega
theorem c7g(n:Nat)(h1:1≤n)(h2:n≤1000000)(w:World):Calls Tryz.prog 172 #[zn,ci n] w fun e w'=>∃G,e=.returned (zl w.heap.size 0 G)∧n≤G∧Below w.heap.size w w'∧w'.ownsRow w.heap.size 41 1 (zl w.heap.size 0 G) 0 []:=by
 obtain⟨i0,hi0,hz0,hz1,hz2⟩:=info_parts o6;have t1:decide ((0:Int)<(n:Int))=true:=dqt (by omega);have hold:(Builtin.firstCells i0.size 0 (zn)).run Tryz.prog w.drew=.ok (([]:List Value).toArray) w.drew:=run_firstCells_none w.drew i0.size 0 0 0
 have hrz:∀ty,(Builtin.append_ #[37,3] ty #[zn,ci (n:Int)]).run Tryz.prog w =
   .ok (zl w.heap.size (0+n) (grownCap w (0+n) 0 41)) (w.drew.alloc (.cells (([]:List Value).toArray++Builtin.zeroCells (Value.int .u64 0).cells n++Builtin.zeroCells (Value.int .u64 0).cells (grownCap w (0+n) 0 41-(0+n))) 41)):=fun ty=>by
  exact Lib.run_append_grow_zeros w 37 3 ty 41 i0 (cu 0) .i64 .i64 Tryz.underlying37 Tryz.underlying3 hi0 hz0 none 0 0 [] hold n (by omega) (by rw[hz1];decide) (by omega) (by omega) (by rw[hz2];omega) (growslice_fits (by omega) (by rw[hz2];omega))
 have hGn:0+n≤grownCap w (0+n) 0 41:=grownCap_ge w _ _ _;have hGm:=grownCap_le_maxLen w (0+n) 0 41 (by unfold maxLen;omega);obtain⟨G,hG⟩:∃G,G=grownCap w (0+n) 0 41:=⟨_,rfl⟩;rw[←hG] at hrz hGn hGm
 have hsz:(([]:List Value).toArray++Builtin.zeroCells (Value.int .u64 0).cells n++Builtin.zeroCells (Value.int .u64 0).cells (G-(0+n))).size=G*1:=by
  have hc:∀k,(Builtin.zeroCells (Value.int .u64 0).cells k).size=k:=fun k=>by
   rw[size_zeroCells];simp[Value.cells]
  simp only[Array.size_append,hc];simp;omega
 simp only[Nat.zero_add] at hrz hGn hsz;have R0:=Row.new w.drew 41 (([]:List Value).toArray++Builtin.zeroCells (Value.int .u64 0).cells n++Builtin.zeroCells (Value.int .u64 0).cells (G-n));generalize (([]:List Value).toArray++Builtin.zeroCells (Value.int .u64 0).cells n++Builtin.zeroCells (Value.int .u64 0).cells (G-n))=cs at *;have HR0:=qh R0;have hG63:G≤9223372036854775807:=by unfold maxLen at hGm;omega
 have HGM:=qh hGm;clear hold hG R0 hGm
 go_enter Tryz.func172,Tryz.ntmps172
 go_wp2_with (at_builtin;refine Lib.wpList_append_run _ rfl _ _ _ _ rfl _ _ rfl rfl _ _ (hrz _) ?_)
 go_ret;exact⟨G,rfl,hGn,(Below.refl _ w).drew.alloc (nlr _) _,by simp,Or.inr ⟨w.heap.size,G,cs,rfl,nlr _,HR0.o.at_,by omega,HGM.o,hsz,by simp⟩⟩
theorem b4m{W:World}{D n c:Nat}{us:List Nat}(h:Row W D 41 (bj us))(hn:us.length=n):Has W 1 (zl D n c) n (bj us).toList:=by
 refine⟨by rw[na,hn,Nat.mul_one],Or.inr ⟨⟨D,0,none⟩,c,rfl,fun j u hj=>?_⟩⟩;have e:(⟨D,0,none⟩:Addr).add j=⟨D,j,none⟩:=by simp[Addr.add];omega
 rw[e];exact h.cell (by simpa using hj)
theorem ng{W:World}{base E sz n:Nat}{v:Value}{cs:List Value}(h:W.ownsRow base E sz v n cs)(hn:1≤n):∃g c,v=zl g n c:=by
 obtain⟨g,cap,cur,h1,_⟩:=u9 h hn;exact⟨g,cap,h1⟩
theorem c0c(w:World)(b:Nat)(a1 a2:Addr)(n1 n2 c1 c2:Nat)(cs1 cs2:List Value)(hb:Row w b 37 #[.slice (some a1) n1 c1,.slice (some a2) n2 c2])(h1:Has w 1 (.slice (some a1) n1 c1) n1 cs1)(h2:Has w 1 (.slice (some a2) n2 c2) n2 cs2)(o1:∀u∈cs1,u.oneCell'=true)(o2:∀u∈cs2,u.oneCell'=true)(hn1:1≤n1)(hn:1≤n1+n2)(hm:n1+n2≤100000):Calls Tryz.prog 128 #[zl b 2 2] w fun e w'=>∃v,e=.returned v∧Below w.heap.size w w'∧w'.ownsRow w.heap.size 41 1 v (n1+n2) (cs1++cs2):=by
 obtain⟨q0,hq0,hq1,hq2,hq3⟩:=info_parts o6;have t1:decide ((n1:Int)<0)=false:=dqf (by omega);have t2:decide ((n1:Int)+n2<0)=false:=dqf (by omega);have hg:=c7g (n1+n2) hn (by omega) w;rw[Int.natCast_add] at hg
 have hcl1:∀j u,cs1[j]?=some u→w.cell? (a1.add j)=some u:=by
  rcases h1.shape with ⟨h,_⟩|⟨a,c,h,h'⟩
  ·cases h
  ·cases h;exact h'
 have hcl2:∀j u,cs2[j]?=some u→w.cell? (a2.add j)=some u:=by
  rcases h2.shape with ⟨h,_⟩|⟨a,c,h,h'⟩
  ·cases h
  ·cases h;exact h'
 have l1:=h1.len;have l2:=h2.len;have HG:=qh hg;have HC1:=qh hcl1;have HC2:=qh hcl2;have HO1:=qh o1;have HO2:=qh o2;have HB:=qh hb;have HL1:=qh l1;have HL2:=qh l2;have d0:=hb.k 0;have d1:=hb.k 1;clear hg hcl1 hcl2 o1 o2 hb h1 h2 l1 l2
 go_enter Tryz.func128,Tryz.ntmps128
 go_wp2_with fail;refine wp_loop_rounds 3 ?_;rw[rounds_succ];go_wp2_with fail;rw[rounds_succ];go_wp2_with fail;rw[rounds_succ];go_wp2_with fail;refine HG.o.mono ?_;rintro e w1 ⟨G,rfl,hG,hb1,hown⟩;have r1:=HB.o.bel hb1;have d0':=r1.k 0;have d1':=r1.k 1;have HB1:=qh hb1;have HOW:=qh hown;clear d0 d1 hb1 hown r1 HG;go_wp2_with fail;refine wp_loop_rounds 3 ?_;rw[rounds_succ]
 go_wp2_with (at_builtin;go_loud (refine wpList_append_own_at _ rfl _ _ 37 rfl w.heap.size 41 q0 _ 1 8 Tryz.underlying37 hq0 hq1 hq2 hq3 rfl (by decide) (zl w.heap.size 0 G) 0 [] rfl HOW.o a1 n1 c1 cs1 rfl (by rw[HL1.o]) (fun j u h=>(HB1.o.cell (blc (HC1.o j u h))).trans (HC1.o j u h)) HO1.o (by unfold maxLen;omega) (by omega) HB1.o.size ?_;intro v3 w3 hown3 hgrow3 _ hor3;have hs3:=ab.grown' hgrow3;have HB3:=qh (HB1.o.trans (hs3.below HB1.o.size (by simp[Value.ownBlock])));have hown3':w3.ownsRow w.heap.size 41 1 v3 n1 cs1:=(by simpa using hown3);obtain⟨g3,cap3,rfl⟩:=ng hown3' hn1;have HOW3:=qh hown3';have r3:=HB.o.bel HB3.o;have d3':=r3.k 1;clear d0' d1' hs3 hown3 hown3' hgrow3 hor3 r3))
 rw[rounds_succ]
 go_wp2_with (at_builtin;go_loud (refine wpList_append_own_at _ rfl _ _ 37 rfl w.heap.size 41 q0 _ 1 8 Tryz.underlying37 hq0 hq1 hq2 hq3 rfl (by decide) (zl g3 n1 cap3) n1 cs1 rfl HOW3.o a2 n2 c2 cs2 rfl (by rw[HL2.o]) (fun j u h=>(HB3.o.cell (blc (HC2.o j u h))).trans (HC2.o j u h)) HO2.o (by unfold maxLen;omega) (by omega) HB3.o.size ?_;intro v4 w4 hown4 hgrow4 _ hor4;have hs4:=ab.grown' hgrow4;have HB4:=qh (HB3.o.trans (hs4.below HB3.o.size (fun x hx=>fw HOW3.o x (by simpa using hx))));have HOW4:=qh hown4;clear hs4 hown4 hgrow4 hor4 d3'))
 rw[rounds_succ];go_wp2_with fail;go_ret;exact⟨_,rfl,HB4.o,by simpa using HOW4.o⟩
theorem c5q(w:World)(P:Nat)(o:SOp)(g c n D1 D2 m:Nat)(ho:o.how=1)(hr:Row w P 220 (o.cells g c n D1 D2 m)):Calls Tryz.prog 82 #[pt P] w fun e w'=>e=.returned (ci o.begun)∧w=w':=by
 obtain⟨t,dn,bg,st,how⟩:=o;simp only[SOp.cells] at *;subst ho;have c5:=hr.k 5;have c7:=hr.k 7;clear hr
 go_enter Tryz.func82,Tryz.ntmps82
 go_wp2;go_ret;exact⟨rfl,rfl⟩
theorem c2h(w:World)(P:Nat)(o:SOp)(g c n D1 D2 m:Nat)(gs us:List Nat)(ho:o.how=1)(hr:Row w P 220 (o.cells g c n D1 D2 m))(h1:Row w D1 41 (bj gs))(h2:Row w D2 41 (bj us))(hg:gs.length=n)(hu:us.length=m)(hn:1≤n)(hn2:n≤64)(hm1:1≤m)(hm:m≤5000):Calls Tryz.prog 80 #[pt P] w fun e w'=>∃G cap,e=.returned (.tuple #[zl G m m,.slice (some ⟨G,m,none⟩) n (cap-m)])∧Below w.heap.size w w'∧w.heap.size≤G∧m+n≤cap∧∃cur,Row w' G 41 cur∧cur.toList.take (m+n)=(bj us).toList++(bj gs).toList:=by
 obtain⟨t,dn,bg,st,how⟩:=o;simp only[SOp.cells] at *;subst ho;have c3:=hr.k 3;have c4:=hr.k 4;have c7:=hr.k 7;have HH1:=qh h1;have HH2:=qh h2;have HR:=qh hr;clear h1 h2 hr
 go_enter Tryz.func80,Tryz.ntmps80
 go_wp2_with fail;have hU:Ups (fun W W'=>∃g:ag W,W'=g.to) (fun W=>Below w.heap.size w W):=dj fun h hb=>bt h hb;have hC0:=(brf w).drew;refine dw gz hU hC0 ?_;intro S;clear c3 c4 c7;refine ao S hU [0,1,2,3,4,5,6,7] 37 3 hC0 ?_;constructor
 ·intro W' hW';simp only[pick,List.filterMap,gq1,gq2,gq3];have e3:=ag.cell ((HR.o.bel hW').k 3);have e4:=ag.cell ((HR.o.bel hW').k 4)
  repeat (go_big_quiet_step (fail))
  exact wpQuiet_nil rfl
 refine ud S hU 8 _ 2 _ _ _ rfl (by kernel_rfl) (by kernel_rfl) hC0 ?_;intro W1 hrW1 hcW1 K1 hK1;go_wp2_with fail;have hr2:=Row.new W1 37 #[zl D2 m m,zl D1 n n];have hC2:=af hcW1 (.cells #[zl D2 m m,zl D1 n n] 37);clear hcW1 hrW1 hC0;generalize hbb:W1.heap.size=bb at *;generalize W1.alloc (.cells #[zl D2 m m,zl D1 n n] 37)=W2 at *;refine hK1 (fun W=>Below w.heap.size w W∧Row W bb 37 #[zl D2 m m,zl D1 n n]) _ _ (fun W h=>h.1) ⟨hC2,hr2⟩ ?_;clear hK1;have hU2:Ups (fun W W'=>∃g:ag W,W'=g.to) (fun W=>Below w.heap.size w W∧Row W bb 37 #[zl D2 m m,zl D1 n n]):=dj fun h hb=>⟨bt h.1 hb,h.2.bel hb⟩;refine ud S hU2 9 _ 1 _ _ _ rfl (by kernel_rfl) (by kernel_rfl) ⟨hC2,hr2⟩ ?_;intro W3 hrW3 hcW3 K3 hK3;have hx1:=b4m (c:=m) (HH2.o.bel hcW3.1) hu;have hx2:=b4m (c:=n) (HH1.o.bel hcW3.1) hg
 have hcon:=c0c W3 bb ⟨D2,0,none⟩ ⟨D1,0,none⟩ m n m n _ _ hcW3.2 hx1 hx2 (je us) (je gs) hm1 (by omega) (by omega);clear hx1 hx2;go_wp2_with fail;refine hcon.mono ?_;rintro e w4 ⟨v,rfl,hb4,hown⟩;obtain⟨G,cap,cur,rfl,hG,hrow,hcap,hcm,hsz,htk⟩:=u9 hown (by omega);clear hown;go_wp2_with fail;have hb5:=bt hcW3.1 hb4;have hGw:w.heap.size≤G:=nlt hcW3.1.size hG;refine hK3 (fun W=>(Below w.heap.size w W∧Row W bb 37 #[zl D2 m m,zl D1 n n])∧Row W G 41 cur) _ _ (fun W h=>h.1) ⟨⟨hb5,hcW3.2.bel hb4⟩,hrow⟩ ?_;have hU3:Ups (fun W W'=>∃g:ag W,W'=g.to) (fun W=>(Below w.heap.size w W∧Row W bb 37 #[zl D2 m m,zl D1 n n])∧Row W G 41 cur):=dj fun h hb=>⟨⟨bt h.1.1 hb,h.1.2.bel hb⟩,h.2.bel hb⟩;have hC5:(Below w.heap.size w w4∧Row w4 bb 37 #[zl D2 m m,zl D1 n n])∧Row w4 G 41 cur:=⟨⟨hb5,hcW3.2.bel hb4⟩,hrow⟩;clear hK3 hcon
 refine pq S hU3 [10] 37 0 _ _ _ (by kernel_rfl) (by kernel_rfl) rfl hC5 ?_;apply Exists.intro;refine⟨fun W' hW'=>?_,?_⟩
 ·unfold pick;simp only[List.filterMap,List.getElem?_toArray,List.getElem?_cons_succ,List.getElem?_cons_zero]
  repeat (go_big_quiet_step (fail))
  exact wpQuiet_nil rfl
 refine jt ?_;intro w6 hrw6;refine NoPanic.normal ?_;have hb6:=a7 hrw6;have HB6:=qh (bt hb5 hb6);have HR6:=qh (hrow.bel hb6);clear hrw6 hb6 hrow hb5 hb4 hC5 hU3 hU2 hU S hC2 hr2 hcW3 hrW3;have i1:(m:Int)≤cap:=by omega
 have i2:m≤cap:=by omega
 have i3:m≤m+n:=by omega
 have i4:m<cap:=by omega
 have i5:(m:Int)<cap:=by omega
 have HT:=qh htk;have HGW:=qh hGw;have HCAP:=qh hcap;clear htk hGw hcap;go_wp2_with fail
 go_quiet (fail)
 go_wp2_with fail
 go_ret2
 exact⟨G,cap,rfl,below_drewN HB6.o nq,HGW.o,HCAP.o,cur,HR6.o.drewN nq,by simpa using HT.o⟩
end Go.Proofs.YtojkaibpfdhmaaaGreatDoor

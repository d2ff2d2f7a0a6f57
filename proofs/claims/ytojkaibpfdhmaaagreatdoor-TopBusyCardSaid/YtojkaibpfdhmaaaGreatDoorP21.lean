/- The moments that the law's loops gather, and what they sum up. -/
import Derived.Test.YtojkaibpfdhmaaaGreatDoorP15
import Derived.Test.YtojkaibpfdhmaaaGreatDoorP16
namespace Go.Proofs.YtojkaibpfdhmaaaGreatDoor
open Go.RowKit
set_option maxRecDepth 100000
set_option maxHeartbeats 16000000
def c0g(nw:Nat):Int:=if nw=0 then 0 else 512
structure zq(b0 b1 b2 b3 b4 b5 b6 b7 b8 b9:Bool)(k:Nat)(n:Int):Prop where
 z:b0=false∧b1=false∧b2=false∧b3=false∧b4=false∧b5=false∧b6=false∧b7=false∧b8=false→k≤9→n=0
 y:k=10→b0=false∧b1=false∧b2=false∧b3=false∧b4=false∧b5=false∧b6=false∧b7=false∧b8=false→n=if b9 then 512 else 0
theorem zq.step_f{b0 b1 b2 b3 b4 b5 b6 b7 b8 b9:Bool}{k:Nat}{n:Int}(h:zq b0 b1 b2 b3 b4 b5 b6 b7 b8 b9 k n)(hk:k<9):zq b0 b1 b2 b3 b4 b5 b6 b7 b8 b9 (k+1) n:=⟨fun a _=>h.z a (by omega),fun e=>by omega⟩
theorem zq.step_f9{b0 b1 b2 b3 b4 b5 b6 b7 b8:Bool}{n:Int}(h:zq b0 b1 b2 b3 b4 b5 b6 b7 b8 false 9 n):zq b0 b1 b2 b3 b4 b5 b6 b7 b8 false 10 n:=⟨fun _ e=>by omega,fun _ a=>h.z a (by omega)⟩
theorem zq.step_t9{b0 b1 b2 b3 b4 b5 b6 b7 b8:Bool}{n:Int}(h:zq b0 b1 b2 b3 b4 b5 b6 b7 b8 true 9 n):zq b0 b1 b2 b3 b4 b5 b6 b7 b8 true 10 (bits .or .i64 n 512):=⟨fun _ e=>by omega,fun _ a=>by rw[h.z a (by omega)];decide⟩
theorem c4w(kind topic sub cap rank src mode flags:Int)(free:Bool)(sa wa:Option Addr)(ns sc nw wc:Nat)(w:World):Calls Tryz.prog 60 #[.agg #[ci kind,ci topic,ci sub,ci cap,ci rank,ci src,ci mode,ci flags,.bool free,.slice sa ns sc,.slice wa nw wc]] w fun e w'=>∃n:Int,e=.returned (ci n)∧Below w.heap.size w w'∧(topic=0→sub=0→cap=0→rank=0→src=0→mode=0→flags=0→free=false→ns=0→n=c0g nw):=by
 have hB:=qh (af (brf w) (.cells #[ci kind,ci topic,ci sub,ci cap,ci rank,ci src,ci mode,ci flags,.bool free,.slice sa ns sc,.slice wa nw wc] 39))
 go_enter Tryz.func60,Tryz.ntmps60
 go_wp2_with fail;generalize hb0:(topic != 0)=b0;generalize hb1:(sub != 0)=b1;generalize hb2:(cap != 0)=b2;generalize hb3:(rank != 0)=b3;generalize hb4:(src != 0)=b4;generalize hb5:(mode != 0)=b5;generalize hb6:(flags != 0)=b6;generalize hb8:decide (0<ns)=b8;generalize hb9:decide (0<nw)=b9
 have hZ:topic=0→sub=0→cap=0→rank=0→src=0→mode=0→flags=0→free=false→ns=0→b0=false∧b1=false∧b2=false∧b3=false∧b4=false∧b5=false∧b6=false∧free=false∧b8=false:=fun h0 h1 h2 h3 h4 h5 h6 h7 h8=>by
  subst h0 h1 h2 h3 h4 h5 h6 h7 h8;exact⟨hb0.symm,hb1.symm,hb2.symm,hb3.symm,hb4.symm,hb5.symm,hb6.symm,rfl,hb8.symm⟩
 have HZ:=qh hZ;have H9:=qh hb9;clear hZ hb0 hb1 hb2 hb3 hb4 hb5 hb6 hb8 hb9;generalize w.alloc (.cells #[ci kind,ci topic,ci sub,ci cap,ci rank,ci src,ci mode,ci flags,.bool free,.slice sa ns sc,.slice wa nw wc] 39)=w1 at *
 go_loopw [38,3] (fun i m wr=>∃(k:Nat)(n:Int),k≤10∧i=ci k∧m=ci n∧wr=w1∧zq b0 b1 b2 b3 b4 b5 b6 free b8 b9 k n) (fun i _ _=>10-(intOf i).toNat)
 case atStart=>exact⟨0,0,by omega,rfl,rfl,rfl,⟨fun _ _=>rfl,fun h=>absurd h (by decide)⟩⟩
 case round=>
  obtain⟨k,n,hk,rfl,rfl,rfl,hbits⟩:=hrel;by_cases hkl:k<10
  ·rcases (by omega:k=0∨k=1∨k=2∨k=3∨k=4∨k=5∨k=6∨k=7∨k=8∨k=9) with rfl|rfl|rfl|rfl|rfl|rfl|rfl|rfl|rfl|rfl
   ·have ix:∀w:World,(Instr.index 201 (.agg #[.bool b0,.bool b1,.bool b2,.bool b3,.bool b4,.bool b5,.bool b6,.bool free,.bool b8,.bool b9]) (ci 0)).run Tryz.prog w=.ok (.bool b0) w:=fun w=>rfl;have HT:=qh hbits;clear hbits;cases b0
    ·go_wp2_with fail
     go_roundw
     case rel=>exact⟨1,n,by decide,by go_num,rfl,trivial,HT.o.step_f (by decide)⟩
     case measure=>simp only[intOf];decide
    ·go_wp2_with fail
     go_roundw
     case rel=>exact⟨1,_,by decide,by go_num,rfl,trivial,⟨fun h _=>absurd h (by simp),fun h=>absurd h (by decide)⟩⟩
     case measure=>simp only[intOf];decide
   ·have ix:∀w:World,(Instr.index 201 (.agg #[.bool b0,.bool b1,.bool b2,.bool b3,.bool b4,.bool b5,.bool b6,.bool free,.bool b8,.bool b9]) (ci 1)).run Tryz.prog w=.ok (.bool b1) w:=fun w=>rfl;have HT:=qh hbits;clear hbits;cases b1
    ·go_wp2_with fail
     go_roundw
     case rel=>exact⟨2,n,by decide,by go_num,rfl,trivial,HT.o.step_f (by decide)⟩
     case measure=>simp only[intOf];decide
    ·go_wp2_with fail
     go_roundw
     case rel=>exact⟨2,_,by decide,by go_num,rfl,trivial,⟨fun h _=>absurd h (by simp),fun h=>absurd h (by decide)⟩⟩
     case measure=>simp only[intOf];decide
   ·have ix:∀w:World,(Instr.index 201 (.agg #[.bool b0,.bool b1,.bool b2,.bool b3,.bool b4,.bool b5,.bool b6,.bool free,.bool b8,.bool b9]) (ci 2)).run Tryz.prog w=.ok (.bool b2) w:=fun w=>rfl;have HT:=qh hbits;clear hbits;cases b2
    ·go_wp2_with fail
     go_roundw
     case rel=>exact⟨3,n,by decide,by go_num,rfl,trivial,HT.o.step_f (by decide)⟩
     case measure=>simp only[intOf];decide
    ·go_wp2_with fail
     go_roundw
     case rel=>exact⟨3,_,by decide,by go_num,rfl,trivial,⟨fun h _=>absurd h (by simp),fun h=>absurd h (by decide)⟩⟩
     case measure=>simp only[intOf];decide
   ·have ix:∀w:World,(Instr.index 201 (.agg #[.bool b0,.bool b1,.bool b2,.bool b3,.bool b4,.bool b5,.bool b6,.bool free,.bool b8,.bool b9]) (ci 3)).run Tryz.prog w=.ok (.bool b3) w:=fun w=>rfl;have HT:=qh hbits;clear hbits;cases b3
    ·go_wp2_with fail
     go_roundw
     case rel=>exact⟨4,n,by decide,by go_num,rfl,trivial,HT.o.step_f (by decide)⟩
     case measure=>simp only[intOf];decide
    ·go_wp2_with fail
     go_roundw
     case rel=>exact⟨4,_,by decide,by go_num,rfl,trivial,⟨fun h _=>absurd h (by simp),fun h=>absurd h (by decide)⟩⟩
     case measure=>simp only[intOf];decide
   ·have ix:∀w:World,(Instr.index 201 (.agg #[.bool b0,.bool b1,.bool b2,.bool b3,.bool b4,.bool b5,.bool b6,.bool free,.bool b8,.bool b9]) (ci 4)).run Tryz.prog w=.ok (.bool b4) w:=fun w=>rfl;have HT:=qh hbits;clear hbits;cases b4
    ·go_wp2_with fail
     go_roundw
     case rel=>exact⟨5,n,by decide,by go_num,rfl,trivial,HT.o.step_f (by decide)⟩
     case measure=>simp only[intOf];decide
    ·go_wp2_with fail
     go_roundw
     case rel=>exact⟨5,_,by decide,by go_num,rfl,trivial,⟨fun h _=>absurd h (by simp),fun h=>absurd h (by decide)⟩⟩
     case measure=>simp only[intOf];decide
   ·have ix:∀w:World,(Instr.index 201 (.agg #[.bool b0,.bool b1,.bool b2,.bool b3,.bool b4,.bool b5,.bool b6,.bool free,.bool b8,.bool b9]) (ci 5)).run Tryz.prog w=.ok (.bool b5) w:=fun w=>rfl;have HT:=qh hbits;clear hbits;cases b5
    ·go_wp2_with fail
     go_roundw
     case rel=>exact⟨6,n,by decide,by go_num,rfl,trivial,HT.o.step_f (by decide)⟩
     case measure=>simp only[intOf];decide
    ·go_wp2_with fail
     go_roundw
     case rel=>exact⟨6,_,by decide,by go_num,rfl,trivial,⟨fun h _=>absurd h (by simp),fun h=>absurd h (by decide)⟩⟩
     case measure=>simp only[intOf];decide
   ·have ix:∀w:World,(Instr.index 201 (.agg #[.bool b0,.bool b1,.bool b2,.bool b3,.bool b4,.bool b5,.bool b6,.bool free,.bool b8,.bool b9]) (ci 6)).run Tryz.prog w=.ok (.bool b6) w:=fun w=>rfl;have HT:=qh hbits;clear hbits;cases b6
    ·go_wp2_with fail
     go_roundw
     case rel=>exact⟨7,n,by decide,by go_num,rfl,trivial,HT.o.step_f (by decide)⟩
     case measure=>simp only[intOf];decide
    ·go_wp2_with fail
     go_roundw
     case rel=>exact⟨7,_,by decide,by go_num,rfl,trivial,⟨fun h _=>absurd h (by simp),fun h=>absurd h (by decide)⟩⟩
     case measure=>simp only[intOf];decide
   ·have ix:∀w:World,(Instr.index 201 (.agg #[.bool b0,.bool b1,.bool b2,.bool b3,.bool b4,.bool b5,.bool b6,.bool free,.bool b8,.bool b9]) (ci 7)).run Tryz.prog w=.ok (.bool free) w:=fun w=>rfl;have HT:=qh hbits;clear hbits;cases free
    ·go_wp2_with fail
     go_roundw
     case rel=>exact⟨8,n,by decide,by go_num,rfl,trivial,HT.o.step_f (by decide)⟩
     case measure=>simp only[intOf];decide
    ·go_wp2_with fail
     go_roundw
     case rel=>exact⟨8,_,by decide,by go_num,rfl,trivial,⟨fun h _=>absurd h (by simp),fun h=>absurd h (by decide)⟩⟩
     case measure=>simp only[intOf];decide
   ·have ix:∀w:World,(Instr.index 201 (.agg #[.bool b0,.bool b1,.bool b2,.bool b3,.bool b4,.bool b5,.bool b6,.bool free,.bool b8,.bool b9]) (ci 8)).run Tryz.prog w=.ok (.bool b8) w:=fun w=>rfl;have HT:=qh hbits;clear hbits;cases b8
    ·go_wp2_with fail
     go_roundw
     case rel=>exact⟨9,n,by decide,by go_num,rfl,trivial,HT.o.step_f (by decide)⟩
     case measure=>simp only[intOf];decide
    ·go_wp2_with fail
     go_roundw
     case rel=>exact⟨9,_,by decide,by go_num,rfl,trivial,⟨fun h _=>absurd h (by simp),fun h=>absurd h (by decide)⟩⟩
     case measure=>simp only[intOf];decide
   ·have ix:∀w:World,(Instr.index 201 (.agg #[.bool b0,.bool b1,.bool b2,.bool b3,.bool b4,.bool b5,.bool b6,.bool free,.bool b8,.bool b9]) (ci 9)).run Tryz.prog w=.ok (.bool b9) w:=fun w=>rfl;have HT:=qh hbits;clear hbits;cases b9
    ·go_wp2_with fail
     go_roundw
     case rel=>exact⟨10,n,by decide,by go_num,rfl,trivial,HT.o.step_f9⟩
     case measure=>simp only[intOf];decide
    ·go_wp2_with fail
     go_roundw
     case rel=>exact⟨10,_,by decide,by go_num,rfl,trivial,HT.o.step_t9⟩
     case measure=>simp only[intOf];decide
  ·have hk':k=10:=by omega
   subst hk';have HT:=qh hbits;clear hbits;go_wp2_with fail;go_ret;refine⟨n,rfl,hB.o,fun h0 h1 h2 h3 h4 h5 h6 h7 h8=>?_⟩;have:=HT.o.y rfl (HZ.o h0 h1 h2 h3 h4 h5 h6 h7 h8);rw[this,←H9.o];unfold c0g;by_cases h:nw=0
   ·subst h;rfl
   ·rw[if_neg h,if_pos (by simp;omega)]
structure j7(W:World):Prop where
 at_:∀i:Nat,i<10→∃v:Int,W.cell? (ae 0 i)=some (ci v)
 a0:W.cell? (ae 0 0)=some (ci 1)
 a1:W.cell? (ae 0 1)=some (ci 513)
 a2:W.cell? (ae 0 2)=some (ci 1)
theorem j7.bel{W W':World}(h:j7 W)(hb:Below W.heap.size W W'):j7 W':=by
 have e:∀i v,W.cell? (ae 0 i)=some v→W'.cell? (ae 0 i)=some v:=fun i v hv=>(hb.cell (blc hv)).trans hv;exact⟨fun i hi=>by obtain⟨v,hv⟩:=h.at_ i hi;exact⟨v,e _ _ hv⟩,e _ _ h.a0,e _ _ h.a1,e _ _ h.a2⟩
structure b4p(kind topic sub cap rank src mode flags:Int)(free:Bool)(ns nw:Nat):Prop where
 k:(kind=0∧nw=0)∨(kind=1∧nw=1)∨(kind=2∧nw=0)
 z:topic=0∧sub=0∧cap=0∧rank=0∧src=0∧mode=0∧flags=0∧free=false∧ns=0
theorem c4x(kind topic sub cap rank src mode flags:Int)(free:Bool)(sa wa:Option Addr)(ns sc nw wc:Nat)(S:List Int)(w:World)(hF:j7 w)(hs:gy gj 1 w (.slice sa ns sc) S)(hl:S.length≤1000):Calls Tryz.prog 46 #[.agg #[ci kind,ci topic,ci sub,ci cap,ci rank,ci src,ci mode,ci flags,.bool free,.slice sa ns sc,.slice wa nw wc]] w fun e w'=>∃er:Int,e=.returned (ci er)∧Below w.heap.size w w'∧js er∧(er=0→0≤kind∧kind≤9∧c7j kind cap rank S nw)∧(b4p kind topic sub cap rank src mode flags free ns nw→er=0):=by
 have hB:=qh (af (brf w) (.cells #[ci kind,ci topic,ci sub,ci cap,ci rank,ci src,ci mode,ci flags,.bool free,.slice sa ns sc,.slice wa nw wc] 39));have HR:=qh (Row.new w 39 #[ci kind,ci topic,ci sub,ci cap,ci rank,ci src,ci mode,ci flags,.bool free,.slice sa ns sc,.slice wa nw wc]);have h1:=qh (j8 kind 0 9);cases hq:inB kind 0 9
 ·rw[hq] at h1
  go_enter Tryz.func46,Tryz.ntmps46
  go_wp2_with (first|(go_at_call 58;refine(h1.o _).mono ?_;rintro e w' ⟨rfl,rfl⟩))
  go_ret
  exact⟨10,rfl,hB.o,⟨by decide,by decide⟩,(fun h=>absurd h (by decide)),(fun h=>by
   rcases h.k with ⟨rfl,_⟩|⟨rfl,_⟩|⟨rfl,_⟩<;>exact absurd hq (by decide))⟩
 ·rw[hq] at h1;simp only[inB,decide_eq_true_eq] at hq;have ho:=qh (d0g kind topic sub cap rank src mode flags (by omega) (by omega) free (.slice sa ns sc) wa nw wc S _ (hs.bel hB.o) hl)
  go_enter Tryz.func46,Tryz.ntmps46
  go_wp2_with (first|(go_at_call 58;refine(h1.o _).mono ?_;rintro e w' ⟨rfl,rfl⟩))
  refine ho.o.mono ?_;rintro e w2 ⟨er,rfl,hb2,hfair,h0,ha⟩;have HB2:=qh (bt hB.o hb2);have HR2:=qh (HR.o.bel hb2);have HF2:=qh (hF.bel HB2.o);have H0:=qh h0;have HA:=qh ha;have HFR:=qh hfair;clear hb2 h0 ha hfair HR hB ho h1;by_cases hz:er=0
  ·subst hz;obtain⟨i,rfl⟩:∃i:Nat,kind=i:=⟨kind.toNat,by omega⟩;obtain⟨v,hv⟩:=HF2.o.at_ i (by omega)
   have hv0:i=0→v=1:=fun h=>by
    subst h;have:=hv.symm.trans HF2.o.a0
    simpa using this
   have hv1:i=1→v=513:=fun h=>by
    subst h;have:=hv.symm.trans HF2.o.a1
    simpa using this
   have hv2:i=2→v=1:=fun h=>by
    subst h;have:=hv.symm.trans HF2.o.a2
    simpa using this
   have HV:=qh (And.intro hv0 (And.intro hv1 hv2));have hi10:(i:Int)<10:=by omega
   have HVC:=qh hv;clear hv0 hv1 hv2 hv HF2 hF hs hl;go_wp2_with fail;have hU:Ups (fun W W'=>∃g:ag W,W'=g.to) (fun W=>Row W w.heap.size 39 #[ci (i:Int),ci topic,ci sub,ci cap,ci rank,ci src,ci mode,ci flags,.bool free,.slice sa ns sc,.slice wa nw wc]∧W.cell? (ae 0 i)=some (ci v)):=dj fun h hb=>⟨h.1.bel hb,(hb.cell (blc h.2)).trans h.2⟩;have hC0:=hU.at _ ⟨HR2.o.drew,HVC.o⟩;have HBd:Hd (Below w.heap.size w w2.drew):=qh (below_drewN HB2.o 1);refine dw gz hU hC0 ?_;intro S;generalize w2.drew=wa2 at *;clear HR2 HVC HB2;refine ao S hU [0,2,3,4,5] 21 3 hC0 ?_;constructor
   ·intro W' hW';simp only[pick,List.filterMap,gq1,gq2,gq3];have e0:=ag.cell (hW'.1.k 0);have e1:=ag.cell (hW'.1.k 1);have e2:=ag.cell (hW'.1.k 2);have e3:=ag.cell (hW'.1.k 3);have e4:=ag.cell (hW'.1.k 4);have e5:=ag.cell (hW'.1.k 5);have e6:=ag.cell (hW'.1.k 6);have e7:=ag.cell (hW'.1.k 7);have e8:=ag.cell (hW'.1.k 8);have e9:=ag.cell (hW'.1.k 9);have e10:=ag.cell (hW'.1.k 10);have ev:=ag.cell hW'.2
    repeat (go_big_quiet_step (fail))
    exact wpQuiet_nil rfl
   refine iy S hU 1 2 rfl hC0 ?_;intro W1 hrW1 hcW1 K1 hK1;have hb1:=a7 hrW1;have HB3:=qh (bt HBd.o hb1);go_wp2_with fail;refine(c4w (i:Int) topic sub cap rank src mode flags free sa wa ns sc nw wc W1).mono ?_;rintro e w4 ⟨n,rfl,hb4,hn⟩;go_wp2_with fail;have hC4:=hU.at _ ⟨hcW1.1.bel hb4,(hb4.cell (blc hcW1.2)).trans hcW1.2⟩;have HB4:=qh (bt HB3.o hb4);have HN:=qh hn;refine hK1 _ _ hC4 ?_;clear hK1 hb4 hn HB3 HBd hb1 hrW1 hcW1 hC0;refine ao S hU [6,7] 21 0 hC4 ?_;constructor
   ·intro W' hW';simp only[pick,List.filterMap,gq1,gq2,gq3]
    repeat (go_big_quiet_step (fail))
    exact wpQuiet_nil rfl
   refine jt ?_;intro w5 hrw5;refine NoPanic.normal ?_;have HB5:=qh (bt HB4.o (a7 hrw5));clear hrw5 HB4 hC4 S hU
   have hS:b4p (i:Int) topic sub cap rank src mode flags free ns nw→bits .andNot .i64 n v=0:=fun h=>by
    obtain⟨h0,h1,h2,h3,h4,h5,h6,h7,h8⟩:=h.z;have hn:=HN.o h0 h1 h2 h3 h4 h5 h6 h7 h8;rcases h.k with ⟨hk,hw⟩|⟨hk,hw⟩|⟨hk,hw⟩
    ·rw[hn,hw,HV.o.1 (by omega)];decide
    ·rw[hn,hw,HV.o.2.1 (by omega)];decide
    ·rw[hn,hw,HV.o.2.2 (by omega)];decide
   have HS:=qh hS;clear hS HN HV;generalize bits .andNot .i64 n v=q at *;by_cases hq0:q=0
   ·subst hq0;go_wp2_with fail;go_ret;exact⟨0,rfl,HB5.o,⟨by decide,by decide⟩,(fun _=>by first|exact H0.o trivial|exact⟨by omega,by omega,H0.o trivial⟩),(fun _=>rfl)⟩
   ·have hq1:(q==0)=false:=bfn.2 hq0;go_wp2_with fail;go_ret;exact⟨1,rfl,HB5.o,⟨by decide,by decide⟩,(fun h=>absurd h (by decide)),(fun h=>absurd (HS.o h) hq0)⟩
  ·have hz1:(er==0)=false:=bfn.2 hz;go_wp2_with fail;go_ret
   exact⟨er,rfl,HB2.o,HFR.o,(fun h=>absurd h hz),(fun h=>HA.o (by
    rcases h.k with ⟨h,_⟩|⟨h,h'⟩|⟨h,_⟩
    ·exact Or.inl h
    ·exact Or.inr (Or.inr ⟨h,by omega,by omega⟩)
    ·exact Or.inr (Or.inl h)))⟩
structure Env where
 tasks:Nat
 spots:List am
 tries:Nat
 long:Nat
 size:Nat
structure Env.Ok(E:Env):Prop where
 n1:1≤E.tasks
 n2:E.tasks≤8
 t1:1≤E.tries
 t2:E.tries≤16
 l1:1≤E.long
 l2:E.long≤64
 k1:1≤E.spots.length
 k2:E.spots.length≤64
 ok:∀s∈E.spots,s.Ok∧1+E.long≤s.own∧s.seq=s.own+1∧s.first=s.own+2∧s.first+s.words*s.depth≤E.size
 rise:∀(i j:Nat)(s u:am),E.spots[i]?=some s→E.spots[j]?=some u→i<j→s.first+s.words*s.depth≤u.own
 sz:E.size≤65729
inductive WSt
 | look
 | take (q:Nat)
 | fill (q n:Nat)
 | give (q:Nat)
inductive RSt
 | first
 | word (g n b:Nat)
 | again (g b:Nat)
inductive ib
 | ref (er:Int)
 | adv (t:Nat)
 | one
 | wr (t left:Nat) (x:WSt)
 | rd (t left:Nat) (x:RSt)
 | look (tops:List Nat) (left:Nat) (ld:List (Nat × Nat))
 | ar (left:Nat) (sw:Option Nat)
 | md
 | lg (a:Nat)
structure Res where
 code:Int
 gen:Nat
 at_:Nat
def Res.busy:Res:=⟨0,0,0⟩
inductive dq(E:Env)(k:Nat)(ws:List Nat):ib→List Nat→Option ib→Res→Prop
 | ref {er:Int} (h:js er) (h0:er≠0):dq E k ws (.ref er) ws none ⟨er,0,1⟩
 | adv {t x:Nat} {s:am} (h:E.spots[t]?=some s):dq E k ws (.adv t) (ws.set s.own x) none ⟨0,0,k⟩
 | one {er:Int} {g a:Nat} (h:js er):dq E k ws .one ws none ⟨er,g,a⟩
 | wlook {t l:Nat} {s:am} (h:E.spots[t]?=some s) (he:wat ws s.seq%2=0):dq E k ws (.wr t l .look) ws (some (.wr t l (.take (wat ws s.seq)))) .busy
 | wheld {t l:Nat} {s:am} (h:E.spots[t]?=some s) (he:wat ws s.seq%2=1) (hl:2≤l):dq E k ws (.wr t l .look) ws (some (.wr t (l-1) .look)) .busy
 | wmiss {t l q:Nat} {s:am} (h:E.spots[t]?=some s) (he:wat ws s.seq≠q) (hl:2≤l):dq E k ws (.wr t l (.take q)) ws (some (.wr t (l-1) .look)) .busy
 | wspent {t l:Nat} {x:WSt} {s:am} (h:E.spots[t]?=some s) (he:(x=.look∧wat ws s.seq%2=1)∨∃q,x=.take q∧wat ws s.seq≠q) (hl:l=1):dq E k ws (.wr t l x) ws none ⟨19,0,0⟩
 | wtake {t l q:Nat} {s:am} (h:E.spots[t]?=some s) (he:wat ws s.seq=q):dq E k ws (.wr t l (.take q)) (ws.set s.seq (q+1)) (some (.wr t l (.fill q 0))) .busy
 | wfill {t l q n x:Nat} {s:am} (h:E.spots[t]?=some s) (hn:n+1<s.words):dq E k ws (.wr t l (.fill q n)) (ws.set (s.place (q / 2+1)+n) x) (some (.wr t l (.fill q (n+1)))) .busy
 | wlast {t l q n x:Nat} {s:am} (h:E.spots[t]?=some s) (hn:n+1=s.words):dq E k ws (.wr t l (.fill q n)) (ws.set (s.place (q / 2+1)+n) x) (some (.wr t l (.give q))) .busy
 | wgive {t l q:Nat} {s:am} (h:E.spots[t]?=some s):dq E k ws (.wr t l (.give q)) (ws.set s.seq (q+2)) none ⟨0,q / 2+1,k⟩
 | rfirst {t l:Nat} {s:am} (h:E.spots[t]?=some s):dq E k ws (.rd t l .first) ws (some (.rd t l (.word (wat ws s.seq / 2) 0 k))) .busy
 | rword {t l g n b:Nat} {s:am} (h:E.spots[t]?=some s) (hn:n+1<s.words):dq E k ws (.rd t l (.word g n b)) ws (some (.rd t l (.word g (n+1) b))) .busy
 | rlast {t l g n b:Nat} {s:am} (h:E.spots[t]?=some s) (hn:n+1=s.words):dq E k ws (.rd t l (.word g n b)) ws (some (.rd t l (.again g b))) .busy
 | rdone {t l g b:Nat} {s:am} (h:E.spots[t]?=some s) (hk:oq (wat ws s.seq) g s.depth=true):dq E k ws (.rd t l (.again g b)) ws none ⟨0,g,b⟩
 | ragain {t l g b:Nat} {s:am} (h:E.spots[t]?=some s) (hk:oq (wat ws s.seq) g s.depth=false) (hl:2≤l):dq E k ws (.rd t l (.again g b)) ws (some (.rd t (l-1) .first)) .busy
 | rspent {t l g b:Nat} {s:am} (h:E.spots[t]?=some s) (hk:oq (wat ws s.seq) g s.depth=false) (hl:l=1):dq E k ws (.rd t l (.again g b)) ws none ⟨19,0,0⟩
 | kload {tops:List Nat} {l t:Nat} {ld:List (Nat × Nat)} {s:am} (ht:t∈tops) (h:E.spots[t]?=some s):dq E k ws (.look tops l ld) ws (some (.look tops l (ld++[(t,wat ws s.seq / 2)]))) .busy
 | kword {tops:List Nat} {l:Nat} {ld:List (Nat × Nat)}:dq E k ws (.look tops l ld) ws (some (.look tops l ld)) .busy
 | kdone {tops:List Nat} {l g a:Nat} {ld:List (Nat × Nat)} {er:Int} (h:js er):dq E k ws (.look tops l ld) ws none ⟨er,g,a⟩
 | kagain {tops:List Nat} {l t g:Nat} {ld:List (Nat × Nat)} {s:am} (ht:(t,g)∈ld) (h:E.spots[t]?=some s) (hg:wat ws s.seq / 2≠g) (hl:2≤l):dq E k ws (.look tops l ld) ws (some (.look tops (l-1) [])) .busy
 | kspent {tops:List Nat} {l t g:Nat} {ld:List (Nat × Nat)} {s:am} (ht:(t,g)∈ld) (h:E.spots[t]?=some s) (hg:wat ws s.seq / 2≠g) (hl:l=1):dq E k ws (.look tops l ld) ws none ⟨19,0,0⟩
 | aload {l:Nat}:dq E k ws (.ar l none) ws (some (.ar l (some (wat ws 0)))) .busy
 | adone {l a:Nat} {sw:Option Nat} {er:Int} (h:js er) (ha:a=0∨a=k):dq E k ws (.ar l sw) ws none ⟨er,0,a⟩
 | alog {l:Nat}:dq E k ws (.ar l none) ws (some (.lg k)) ⟨0,0,k⟩
 | aswap {l x y:Nat} {m:Option ib} (he:wat ws 0=x) (hm:m=none∨m=some (.lg k)):dq E k ws (.ar l (some x)) (ws.set 0 y) m ⟨0,0,k⟩
 | amiss {l x:Nat} (he:wat ws 0≠x) (hl:2≤l):dq E k ws (.ar l (some x)) ws (some (.ar (l-1) none)) .busy
 | aspent {l x:Nat} (he:wat ws 0≠x) (hl:l=1):dq E k ws (.ar l (some x)) ws none ⟨20,0,0⟩
 | mode {er:Int} {a:Nat} (h:js er):dq E k ws .md ws none ⟨er,0,a⟩
 | lg {a i x:Nat} (hi:i<E.long):dq E k ws (.lg a) (ws.set (1+i) x) none ⟨0,0,a⟩
structure PC where
 kind:Int
 topic:Int
 sub:Int
 cap:Int
 rank:Int
 src:Int
 mode:Int
 flags:Int
 free:Bool
 set:List Int
 nw:Nat
def Sure(E:Env)(c:PC)(f:Int→Bool):Prop:=
 b4p c.kind c.topic c.sub c.cap c.rank c.src c.mode c.flags c.free c.set.length c.nw∧(c.kind=0→f 0=false)∧(c.kind=1→f 0=true∧∃s,E.spots[0]?=some s∧s.words=c.nw)
inductive jy(E:Env)(c:PC)(f:Int→Bool):ib→Prop
 | ref {er:Int} (h:js er) (h0:er≠0) (hs:¬ Sure E c f):jy E c f (.ref er)
 | adv {t:Nat} (hk:c.kind=0) (ht:c.topic=t) (hl:t<E.spots.length):jy E c f (.adv t)
 | wr {t:Nat} (hk:c.kind=1) (ht:c.topic=t) (hl:t<E.spots.length):jy E c f (.wr t E.tries .look)
 | rd {t:Nat} (hk:c.kind=2) (ht:c.topic=t) (hl:t<E.spots.length):jy E c f (.rd t E.tries .first)
 | sn {tops:List Nat} (hk:c.kind=3) (ht:∀t∈tops,t<E.spots.length∧(t:Int)∈c.set):jy E c f (.look tops E.tries [])
 | po {tops:List Nat} (hk:c.kind=5) (ht:∀t∈tops,t<E.spots.length):jy E c f (.look tops E.tries [])
 | one (hk:c.kind=4∨c.kind=6):jy E c f .one
 | ar (hk:c.kind=7∨c.kind=8):jy E c f (.ar E.tries none)
 | md (hk:c.kind=9):jy E c f .md
structure Ev where
 task:Nat
 kind:Int
 topic:Int
 set:List Int
 frm:Nat
 at_:Nat
 to_:Nat
 code:Int
 gen:Nat
structure Und where
 ev:Nat
 times:List Nat
 m:ib
structure Tk where
 next:Nat
 und:Option Und
 f:Int→Bool
structure Sys where
 ws:List Nat
 time:Nat
 evs:List Ev
 tks:List Tk
def PC.ev(c:PC)(i now:Nat):Ev:=⟨i,c.kind,c.topic,c.set,now,0,0,0,0⟩
def Ev.after(e:Ev)(r:Res)(ts:List Nat)(over:Bool)(now:Nat):Ev:=
 {e with at_:=if 1≤r.at_∧r.at_≤ts.length then wat ts (r.at_-1) else e.at_,to_:=if over then now else e.to_,code:=if over then r.code else e.code,gen:=if over then r.gen else e.gen}
def jm(f:Int→Bool):ib→Int→Bool
 | .adv t,x=>decide (x=t)||f x
 | _,x=>f x
def Sys.stepped(s:Sys)(i:Nat)(k:Tk)(u:Und)(e:Ev)(ws':List Nat)(m':Option ib)(r:Res):Sys:=
 ⟨ws',s.time+1,s.evs.set u.ev (e.after r (u.times++[s.time+1]) m'.isNone (s.time+1)),s.tks.set i ⟨k.next,m'.map fun m=>⟨u.ev,u.times++[s.time+1],m⟩,jm k.f u.m⟩⟩
def qe(E:Env)(s:Sys)(i:Nat)(s':Sys):Prop:=
 ∃k u e ws' m' r,s.tks[i]?=some k∧k.und=some u∧s.evs[u.ev]?=some e∧dq E (u.times.length+1) s.ws u.m ws' m' r∧s'=s.stepped i k u e ws' m' r
def Sys.begun(s:Sys)(i:Nat)(k:Tk)(c:PC)(m:ib):Sys:=
 ⟨s.ws,s.time,s.evs++[c.ev i (s.time+1)],s.tks.set i ⟨k.next+1,some ⟨s.evs.length,[],m⟩,k.f⟩⟩
inductive gu(E:Env)(ps:List (List PC))(s:Sys):Int→Sys→Prop
 | far {i:Nat} (h:s.tks.length≤i):gu E ps s i s
 | ended {i:Nat} {k:Tk} {p:List PC} (h:s.tks[i]?=some k) (hp:ps[i]?=some p) (hu:k.und=none) (hn:p.length≤k.next):gu E ps s i s
 | step {i:Nat} {k:Tk} {s':Sys} (h:s.tks[i]?=some k) (hu:k.und≠none) (hs:qe E s i s'):gu E ps s i s'
 | begin_ {i:Nat} {k:Tk} {p:List PC} {c:PC} {m:ib} {s':Sys} (h:s.tks[i]?=some k) (hp:ps[i]?=some p) (hu:k.und=none) (hc:p[k.next]?=some c) (hb:jy E c k.f m) (hs:qe E (s.begun i k c m) i s'):gu E ps s i s'
 | none_ {x:Int} (h:x<0):gu E ps s x s
 | drop {x:Int} {i:Nat} {k:Tk} {p:List PC} (hx:x = -1-(i:Int)) (h:s.tks[i]?=some k) (hp:ps[i]?=some p):gu E ps s x ⟨s.ws,s.time,s.evs,s.tks.set i ⟨p.length,none,k.f⟩⟩
inductive tj(E:Env)(ps:List (List PC)):Sys→List Int→Sys→Prop
 | nil (s:Sys):tj E ps s [] s
 | cons {s s1 s2:Sys} {x:Int} {l:List Int} (h:gu E ps s x s1) (hr:tj E ps s1 l s2):tj E ps s (x::l) s2
theorem tj.snoc{E:Env}{ps:List (List PC)}{s s1 s2:Sys}{x:Int}{l:List Int}(h:tj E ps s l s1)(hp:gu E ps s1 x s2):tj E ps s (l++[x]) s2:=by
 induction h with
 | nil s=>exact .cons hp (.nil _)
 | cons h1 _ ih=>exact .cons h1 (ih hp)
def Sys.start(E:Env):Sys:=⟨List.replicate E.size 0,0,[],List.replicate E.tasks ⟨0,none,fun _=>false⟩⟩
theorem vq{ws:List Nat}{i x:Nat}(h:i<ws.length):wat (ws.set i x) i=x:=by
 unfold wat;simp[List.getD,h]
theorem li{ws:List Nat}{i j x:Nat}(h:i≠j):wat (ws.set i x) j=wat ws j:=by
 unfold wat;simp[List.getD,h]
structure mr(E:Env)(ws ws':List Nat):Prop where
 len:ws'.length=ws.length
 reg:wat ws' 0=wat ws 0
 seq:∀s∈E.spots,wat ws' s.seq=wat ws s.seq
theorem mr.refl(E:Env)(ws:List Nat):mr E ws ws:=⟨rfl,rfl,fun _ _=>rfl⟩
theorem mr.set{E:Env}{ws:List Nat}{i x:Nat}(h0:i≠0)(h:∀s∈E.spots,i≠s.seq):mr E ws (ws.set i x):=
 ⟨by simp,li h0,fun s hs=>li (h s hs)⟩
section
variable{E:Env}(hE:E.Ok)
include hE
theorem jn{t:Nat}{s:am}(h:E.spots[t]?=some s):s.Ok∧1+E.long≤s.own∧s.seq=s.own+1∧s.first=s.own+2∧s.first+s.words*s.depth≤E.size:=hE.ok s (dh h)
theorem ou{t u:Nat}{s r:am}(hs:E.spots[t]?=some s)(hr:E.spots[u]?=some r)(hne:t≠u):s.first+s.words*s.depth≤r.own∨r.first+r.words*r.depth≤s.own:=by
 rcases Nat.lt_or_gt_of_ne hne with h|h
 ·exact Or.inl (hE.rise t u s r hs hr h)
 ·exact Or.inr (hE.rise u t r s hr hs h)
theorem b8a{t u:Nat}{s r:am}(hs:E.spots[t]?=some s)(hr:E.spots[u]?=some r)(hne:t≠u):s.seq≠r.seq:=by
 obtain⟨_,_,a1,a2,_⟩:=jn hE hs;obtain⟨_,_,b1,b2,_⟩:=jn hE hr;rcases ou hE hs hr hne with h|h<;>omega
theorem ox{t:Nat}{s:am}(hs:E.spots[t]?=some s):2≤s.words*s.depth:=by
 have h:=(jn hE hs).1
 calc 2=1*2:=rfl
  _≤s.words*s.depth:=Nat.mul_le_mul h.w1 h.d1
theorem b8b{t x:Nat}{s:am}{ws:List Nat}(hs:E.spots[t]?=some s):mr E ws (ws.set s.own x):=by
 obtain⟨_,a0,a1,a2,_⟩:=jn hE hs;refine mr.set (by omega) (fun r hr=>?_);obtain⟨u,hu⟩:=mig.1 hr;obtain⟨_,_,b1,b2,_⟩:=jn hE hu;have hp:=ox hE hs;have hq:=ox hE hu;by_cases e:t=u
 ·subst e;rw[hs] at hu;cases hu;omega
 ·rcases ou hE hs hu e with h|h<;>omega
theorem vr{t x g n:Nat}{s:am}{ws:List Nat}(hs:E.spots[t]?=some s)(hn:n<s.words):mr E ws (ws.set (s.place g+n) x):=by
 obtain⟨ho,a0,a1,a2,_⟩:=jn hE hs;have hpl:=s.place_lt ho g;have hge:s.first≤s.place g:=by unfold am.place;omega
 refine mr.set (by omega) (fun r hr=>?_);obtain⟨u,hu⟩:=mig.1 hr;obtain⟨_,_,b1,b2,_⟩:=jn hE hu;have hq:=ox hE hu;by_cases e:t=u
 ·subst e;rw[hs] at hu;cases hu;omega
 ·rcases ou hE hs hu e with h|h<;>omega
theorem b8c{i x:Nat}{ws:List Nat}(hi:i<E.long):mr E ws (ws.set (1+i) x):=by
 refine mr.set (by omega) (fun r hr=>?_);obtain⟨u,hu⟩:=mig.1 hr;obtain⟨_,b0,b1,b2,_⟩:=jn hE hu;omega
theorem b6p{t x:Nat}{s:am}{ws:List Nat}(hs:E.spots[t]?=some s)(hl:ws.length=E.size):(ws.set s.seq x).length=ws.length∧wat (ws.set s.seq x) 0=wat ws 0∧∀(u:Nat)(r:am),E.spots[u]?=some r→wat (ws.set s.seq x) r.seq=if u=t then x else wat ws r.seq:=by
 obtain⟨ho,a0,a1,a2,a3⟩:=jn hE hs;have hp:=ox hE hs;refine⟨by simp,li (by omega),fun u r hr=>?_⟩;by_cases e:u=t
 ·subst e;rw[hs] at hr;cases hr
  rw[if_pos rfl];exact vq (by omega)
 ·rw[if_neg e];exact li (b8a hE hs hr (fun h=>e h.symm))
theorem c4y{y:Nat}{ws:List Nat}(hl:ws.length=E.size):(ws.set 0 y).length=ws.length∧wat (ws.set 0 y) 0=y∧∀s∈E.spots,wat (ws.set 0 y) s.seq=wat ws s.seq:=by
 have h0:0<ws.length:=by
  obtain⟨s,hs⟩:∃s,E.spots[0]?=some s:=⟨_,cz (by have:=hE.k1;omega)⟩;obtain⟨_,_,_,_,a3⟩:=jn hE hs;have hp:=ox hE hs;omega
 refine⟨by simp,vq h0,fun s hs=>li ?_⟩;obtain⟨u,hu⟩:=mig.1 hs;obtain⟨_,b0,b1,b2,_⟩:=jn hE hu;omega
end
def de(e:Ev):Bool:=decide (e.kind=1∧e.to_≠0∧e.code=0)
def m5(S:Int→Bool)(b:Nat)(e:Ev):Bool:=de e&&S e.topic&&decide (e.at_≤b)
def phi(l:List Ev)(S:Int→Bool)(b:Nat):Nat:=l.countP (m5 S b)
def dx(e:Ev):Bool:=decide ((e.kind=7∨e.kind=8)∧0<e.at_∧(e.to_=0∨e.code=0))
def tcP(a b:Nat)(e:Ev):Bool:=dx e&&decide (a<e.at_∧e.at_≤b)
def np(l:List Ev)(a b:Nat):Nat:=l.countP (tcP a b)
def inE(e:Ev)(k:Int):Bool:=decide (e.kind=5∨(e.kind=2∧e.topic=k)∨k∈e.set)
def onT(t:Nat)(k:Int):Bool:=decide (k=t)
theorem oy{α:Type}{p:α→Bool}:∀{l:List α}{j:Nat}{e e':α},l[j]?=some e→(l.set j e').countP p+(p e).toNat=l.countP p+(p e').toNat
 | [],_,_,_,h=>by simp at h
 | x::l,0,e,e',h=>by
  simp at h;subst h
  simp only[List.set_cons_zero,List.countP_cons];cases p x<;>cases p e'<;>simp<;>omega
 | x::l,j+1,e,e',h=>by
  simp only[List.getElem?_cons_succ] at h;have ih:=oy (p:=p) (e':=e') h;simp only[List.set_cons_succ,List.countP_cons];omega
theorem b0s{l:List Ev}{j:Nat}{e e':Ev}(h:l[j]?=some e)(he:de e=false)(S:Int→Bool)(b:Nat):phi (l.set j e') S b=phi l S b+(m5 S b e').toNat:=by
 have:=oy (p:=m5 S b) (e':=e') h;have h0:m5 S b e=false:=by simp[m5,he]
 rw[h0] at this
 simpa[phi] using this
theorem c0h{l:List Ev}{S:Int→Bool}{a b:Nat}(h:a≤b):phi l S a≤phi l S b:=by
 refine List.countP_mono_left fun x _ hx=>?_;simp only[m5,Bool.and_eq_true,decide_eq_true_eq] at hx ⊢;exact⟨hx.1,by omega⟩
theorem b0t{l:List Ev}{S:Int→Bool}{a b:Nat}(h:∀e∈l,e.at_≤a)(hb:a≤b):phi l S b=phi l S a:=by
 refine List.countP_congr fun x hx=>?_;have:=h x hx;simp only[m5,Bool.and_eq_true,decide_eq_true_eq];constructor<;>rintro⟨h1,h2⟩<;>exact⟨h1,by omega⟩
theorem b2h{l:List Ev}{j:Nat}{e e':Ev}(h:l[j]?=some e)(a b:Nat):np (l.set j e') a b+(tcP a b e).toNat=np l a b+(tcP a b e').toNat:=oy h
theorem vt{l:List Ev}{a b c:Nat}(h:∀e∈l,e.at_≤b)(hb:b≤c):np l a c=np l a b:=by
 refine List.countP_congr fun x hx=>?_;have:=h x hx;simp only[tcP,Bool.and_eq_true,decide_eq_true_eq];constructor<;>rintro⟨h1,h2⟩<;>exact⟨h1,by omega⟩
def WOk(E:Env)(ws:List Nat)(t:Nat):WSt→Prop
 | .look=>True
 | .take q=>q%2=0
 | .fill q _=>q%2=0∧∀s,E.spots[t]?=some s→wat ws s.seq=q+1
 | .give q=>q%2=0∧∀s,E.spots[t]?=some s→wat ws s.seq=q+1
def MOk(E:Env)(ws:List Nat)(e:Ev)(ts:List Nat):ib→Prop
 | .ref er=>js er∧er≠0
 | .adv _=>e.kind=0
 | .one=>e.kind=4∨e.kind=6
 | .wr t l x=>e.kind=1∧e.topic=t∧t<E.spots.length∧1≤l∧l≤E.tries∧WOk E ws t x
 | .rd t l _=>e.kind=2∧e.topic=t∧t<E.spots.length∧1≤l∧l≤E.tries
 | .look tops l ld=>(e.kind=3∨e.kind=5)∧(∀t∈tops,t<E.spots.length∧(e.kind=3→(t:Int)∈e.set))∧1≤l∧l≤E.tries∧∀p∈ld,p.1∈tops
 | .ar l _=>(e.kind=7∨e.kind=8)∧1≤l∧l≤E.tries
 | .md=>e.kind=9
 | .lg a=>(e.kind=7∨e.kind=8)∧1≤a∧a≤ts.length∧e.at_=wat ts (a-1)∧0<e.at_
def oz:ib→Option Nat
 | .wr t _ (.fill _ _)=>some t
 | .wr t _ (.give _)=>some t
 | _=>none
def c0i:ib→Option (Nat × List (Nat × Nat))
 | .rd _ l .first=>some (l,[])
 | .rd t l (.word g _ _)=>some (l,[(t,g)])
 | .rd t l (.again g _)=>some (l,[(t,g)])
 | .look _ l ld=>some (l,ld)
 | _=>none
def PotL(E:Env)(s:Sys)(e:Ev)(m:ib):Prop:=∀l ld,c0i m=some (l,ld)→phi s.evs (inE e) e.frm+(E.tries-l)≤phi s.evs (inE e) s.time ∧
 ∀p∈ld,∀sp,E.spots[p.1]?=some sp→wat s.ws sp.seq / 2≠p.2→phi s.evs (inE e) e.frm+(E.tries-l)+1≤phi s.evs (inE e) s.time
def PotA(E:Env)(s:Sys)(e:Ev)(m:ib):Prop:=∀l sw,m=.ar l sw→E.tries-l≤np s.evs e.frm s.time∧∀x,sw=some x→wat s.ws 0≠x→E.tries-l+1≤np s.evs e.frm s.time
structure b2i(E:Env)(s:Sys)(i:Nat)(u:Und)(e:Ev):Prop where
 ev:s.evs[u.ev]?=some e
 task:e.task=i
 to_:e.to_=0
 times:∀b∈u.times,0<b∧b≤s.time
 at_:(∀a,u.m≠.lg a)→e.at_=0
 ok:MOk E s.ws e u.times u.m
 pl:PotL E s e u.m
 pa:PotA E s e u.m
def b4q(E:Env)(l:List Ev)(e:Ev):Prop:=
 (e.to_≠0→e.code=19→e.kind=1∨((e.kind=2∨e.kind=3∨e.kind=5)∧phi l (inE e) e.frm+E.tries≤phi l (inE e) e.to_)) ∧
 (e.to_≠0→e.code=20→(e.kind=7∨e.kind=8)∧E.tries≤np l e.frm (e.to_-1))
structure Inv(E:Env)(s:Sys)(x:Option Nat):Prop where
 len:s.ws.length=E.size
 nt:s.tks.length=E.tasks
 few:s.evs.length≤s.time+(if x.isSome then 1 else 0)
 tm:∀j e,s.evs[j]?=some e→e.at_≤s.time∧e.to_≤s.time∧1≤e.frm∧(e.frm≤s.time∨(x=some j∧e.frm=s.time+1))
 und:∀i k u,s.tks[i]?=some k→k.und=some u→∃e,b2i E s i u e
 cnt:∀t sp,E.spots[t]?=some sp→wat s.ws sp.seq / 2=phi s.evs (onT t) s.time
 gen:∀e∈s.evs,de e=true→(∃t:Nat,e.topic=t∧t<E.spots.length∧e.gen=phi s.evs (onT t) e.at_)∧1≤e.at_
 dis:∀(i j:Nat)(e e':Ev),s.evs[i]?=some e→s.evs[j]?=some e'→de e=true→de e'=true→e.at_=e'.at_→i=j
 tdis:∀(i j:Nat)(e e':Ev),s.evs[i]?=some e→s.evs[j]?=some e'→dx e=true→dx e'=true→e.at_=e'.at_→i=j
 hold:∀(i j:Nat)(k k':Tk)(u u':Und)(t:Nat),s.tks[i]?=some k→s.tks[j]?=some k'→k.und=some u→k'.und=some u'→oz u.m=some t→oz u'.m=some t→i=j
 busy:∀e∈s.evs,b4q E s.evs e
structure tq(E:Env)(s:Sys)(m:ib)(e e':Ev)(ws':List Nat):Prop where
 len:ws'.length=s.ws.length
 task:e'.task=e.task
 kind:e'.kind=e.kind
 topic:e'.topic=e.topic
 set:e'.set=e.set
 frm:e'.frm=e.frm
 to_:e'.to_=0∨e'.to_=s.time+1
 at_:e'.at_≤s.time+1
 pub:de e'=true→e'.at_=s.time+1∧∃t:Nat,e'.topic=t∧t<E.spots.length∧e'.gen=phi s.evs (onT t) s.time+1
 cnt:∀t sp,E.spots[t]?=some sp→wat ws' sp.seq / 2=wat s.ws sp.seq / 2+(de e'&&onT t e'.topic).toNat
 held:∀t sp,E.spots[t]?=some sp→wat s.ws sp.seq%2=1→wat ws' sp.seq≠wat s.ws sp.seq→oz m=some t
 turn:dx e'=true→e'.at_=s.time+1∨(dx e=true∧e'.at_=e.at_)
 turn2:dx e=true→dx e'=true∧e'.at_=e.at_
 reg:wat ws' 0≠wat s.ws 0→dx e'=true∧e'.at_=s.time+1∧dx e=false
 busy:e'.to_≠0→e'.code=19→e'.kind=1∨((e'.kind=2∨e'.kind=3∨e'.kind=5)∧phi s.evs (inE e) e.frm+E.tries≤phi s.evs (inE e) s.time)
 cont:e'.to_≠0→e'.code=20→(e'.kind=7∨e'.kind=8)∧E.tries≤np s.evs e.frm s.time
section
variable{E:Env}{s:Sys}{m:ib}{e e':Ev}{ws':List Nat}{j:Nat}
theorem c8a(H:tq E s m e e' ws'):inE e'=inE e:=by
 funext k
 unfold inE;rw[H.kind,H.topic,H.set]
theorem tq.phi_old(H:tq E s m e e' ws')(hj:s.evs[j]?=some e)(ho:de e=false){S:Int→Bool}{b:Nat}(hb:b≤s.time):phi (s.evs.set j e') S b=phi s.evs S b:=by
 rw[b0s hj ho]
 have:m5 S b e'=false:=by
  cases h:m5 S b e'
  ·rfl
  ·simp only[m5,Bool.and_eq_true,decide_eq_true_eq] at h;have:=(H.pub h.1.1).1;omega
 rw[this];rfl
theorem tq.phi_new(H:tq E s m e e' ws')(hj:s.evs[j]?=some e)(ho:de e=false)(htm:∀e∈s.evs,e.at_≤s.time){S:Int→Bool}:phi (s.evs.set j e') S (s.time+1)=phi s.evs S s.time+(de e'&&S e'.topic).toNat:=by
 rw[b0s hj ho,b0t htm (Nat.le_succ _)]
 have:m5 S (s.time+1) e'=(de e'&&S e'.topic):=by
  simp only[m5];rw[dqt H.at_,Bool.and_true]
 rw[this]
theorem tq.tc_mono(H:tq E s m e e' ws')(hj:s.evs[j]?=some e){a b:Nat}:np s.evs a b≤np (s.evs.set j e') a b:=by
 have h:=b2h (e':=e') hj a b
 have:(tcP a b e).toNat≤(tcP a b e').toNat:=by
  cases h1:tcP a b e
  ·exact Nat.zero_le _
  ·have h2:tcP a b e'=true:=by
    simp only[tcP,Bool.and_eq_true,decide_eq_true_eq] at h1 ⊢;obtain⟨g1,g2⟩:=H.turn2 h1.1;exact⟨g1,by omega⟩
   rw[h2];exact nlr _
 omega
theorem tq.tc_reg(H:tq E s m e e' ws')(hj:s.evs[j]?=some e)(htm:∀e∈s.evs,e.at_≤s.time)(hr:wat ws' 0≠wat s.ws 0){a:Nat}(ha:a≤s.time):np (s.evs.set j e') a (s.time+1)=np s.evs a s.time+1:=by
 have h:=b2h (e':=e') hj a (s.time+1);obtain⟨g1,g2,g3⟩:=H.reg hr;have h1:tcP a (s.time+1) e=false:=by simp[tcP,g3]
 have h2:tcP a (s.time+1) e'=true:=by simp[tcP,g1,g2];omega
 rw[h1,h2,vt htm (Nat.le_succ _)] at h
 simpa using h
end
theorem Inv.step{E:Env}{s:Sys}{x:Option Nat}{i:Nat}{k:Tk}{u:Und}{e:Ev}{ws':List Nat}{m':Option ib}{r:Res}(I:Inv E s x)(hi:s.tks[i]?=some k)(hu:k.und=some u)(he:b2i E s i u e)(hx:x=none∨x=some u.ev)(H:tq E s u.m e (e.after r (u.times++[s.time+1]) m'.isNone (s.time+1)) ws')(hm:∀m,m'=some m→b2i E (s.stepped i k u e ws' m' r) i ⟨u.ev,u.times++[s.time+1],m⟩ (e.after r (u.times++[s.time+1]) m'.isNone (s.time+1)))(hh:∀m t,m'=some m→oz m=some t→oz u.m=some t∨∃sp,E.spots[t]?=some sp∧wat s.ws sp.seq%2=0):Inv E (s.stepped i k u e ws' m' r) none:=by
 generalize hE':e.after r (u.times++[s.time+1]) m'.isNone (s.time+1)=e' at H hm;have hS:s.stepped i k u e ws' m' r=⟨ws',s.time+1,s.evs.set u.ev e',s.tks.set i ⟨k.next,m'.map fun m=>⟨u.ev,u.times++[s.time+1],m⟩,jm k.f u.m⟩⟩:=by unfold Sys.stepped;rw[hE']
 rw[hS] at hm ⊢;have hj:=he.ev;have ho:de e=false:=by simp[de,he.to_]
 have htm:∀e∈s.evs,e.at_≤s.time:=fun e0 h0=>by
  obtain⟨n,hn⟩:=mig.1 h0;exact(I.tm n e0 hn).1
 have hjl:u.ev<s.evs.length:=(bk.1 hj).1;have hil:i<s.tks.length:=(bk.1 hi).1;have hfr:=I.tm u.ev e hj
 have hev:∀(n:Nat)(e0:Ev),(s.evs.set u.ev e')[n]?=some e0→(n=u.ev∧e0=e')∨(n≠u.ev∧s.evs[n]?=some e0):=fun n e0 h=>by
  by_cases c:n=u.ev
  ·subst c;rw[List.getElem?_set_self hjl] at h;cases h;exact Or.inl ⟨rfl,rfl⟩
  ·rw[List.getElem?_set_ne (fun h'=>c h'.symm)] at h;exact Or.inr ⟨c,h⟩
 have htk:∀(n:Nat)(k0:Tk),(s.tks.set i ⟨k.next,m'.map fun m=>⟨u.ev,u.times++[s.time+1],m⟩,jm k.f u.m⟩)[n]?=some k0→(n=i∧k0=⟨k.next,m'.map fun m=>⟨u.ev,u.times++[s.time+1],m⟩,jm k.f u.m⟩)∨(n≠i∧s.tks[n]?=some k0):=fun n k0 h=>by
  by_cases c:n=i
  ·subst c;rw[List.getElem?_set_self hil] at h;cases h;exact Or.inl ⟨rfl,rfl⟩
  ·rw[List.getElem?_set_ne (fun h'=>c h'.symm)] at h;exact Or.inr ⟨c,h⟩
 have hfo:∀(n:Nat)(e0:Ev),n≠u.ev→s.evs[n]?=some e0→e0.frm≤s.time:=fun n e0 hn h=>by
  rcases (I.tm n e0 h).2.2.2 with h1|⟨h1,_⟩
  ·exact h1
  ·rcases hx with h2|h2
   ·rw[h2] at h1;cases h1
   ·rw[h2] at h1;cases h1;exact absurd rfl hn
 refine⟨by rw[←I.len];exact H.len,by simpa using I.nt,?_,?_,?_,?_,?_,?_,?_,?_,?_⟩
 ·have:=I.few;simp only[List.length_set]
  split at this<;>simp<;>omega
 ·intro n e0 h;rcases hev n e0 h with ⟨rfl,rfl⟩|⟨hn,h0⟩
  ·refine⟨H.at_,by rcases H.to_ with h1|h1<;>simp only[h1]<;>omega,by rw[H.frm];exact hfr.2.2.1,Or.inl ?_⟩;rw[H.frm];rcases hfr.2.2.2 with h1|⟨_,h1⟩<;>simp only<;>omega
  ·have h1:=I.tm n e0 h0;have h2:=hfo n e0 hn h0;exact⟨by simp only;omega,by simp only;omega,h1.2.2.1,Or.inl (by simp only;omega)⟩
 ·intro n k0 u0 hk0 hu0;rcases htk n k0 hk0 with ⟨rfl,rfl⟩|⟨hn,h0⟩
  ·simp only[Option.map_eq_some_iff] at hu0;obtain⟨m,hm1,rfl⟩:=hu0;exact⟨e',hm m hm1⟩
  ·obtain⟨e0,hU⟩:=I.und n k0 u0 h0 hu0
   have hne:u0.ev≠u.ev:=fun h=>by
    have h1:=hU.ev;rw[h,hj] at h1;cases h1;exact hn (hU.task.symm.trans he.task)
   have hf0:=hfo _ _ hne hU.ev;refine⟨e0,?_,hU.task,hU.to_,fun b hb=>⟨(hU.times b hb).1,by have:=(hU.times b hb).2;simp only;omega⟩,hU.at_,?_,?_,?_⟩
   ·show (s.evs.set u.ev e')[u0.ev]?=some e0
    rw[List.getElem?_set_ne (fun h=>hne h.symm)];exact hU.ev
   ·have hok:=hU.ok
    have hkeep:∀t sp,oz u0.m=some t→E.spots[t]?=some sp→wat s.ws sp.seq%2=1→wat ws' sp.seq=wat s.ws sp.seq:=fun t sp ht hsp ho=>by
     by_cases c:wat ws' sp.seq=wat s.ws sp.seq
     ·exact c
     ·exact absurd (I.hold n i k0 k u0 u t h0 hi hu0 hu ht (H.held t sp hsp ho c)) hn
    cases hm0:u0.m with
    | wr t l w=>
     rw[hm0] at hok;refine⟨hok.1,hok.2.1,hok.2.2.1,hok.2.2.2.1,hok.2.2.2.2.1,?_⟩;have hw:=hok.2.2.2.2.2;cases w with
     | look=>trivial
     | take q=>exact hw
     | fill q n=>exact⟨hw.1,fun sp hsp=>by
       have h1:=hw.2 sp hsp;rw[hkeep t sp (by rw[hm0];rfl) hsp (by have:=hw.1;omega)];exact h1⟩
     | give q=>exact⟨hw.1,fun sp hsp=>by
       have h1:=hw.2 sp hsp;rw[hkeep t sp (by rw[hm0];rfl) hsp (by have:=hw.1;omega)];exact h1⟩
    | ref er=>rw[hm0] at hok;exact hok
    | adv t=>rw[hm0] at hok;exact hok
    | one=>rw[hm0] at hok;exact hok
    | rd t l w=>rw[hm0] at hok;exact hok
    | look a b c=>rw[hm0] at hok;exact hok
    | ar l sw=>rw[hm0] at hok;exact hok
    | md=>rw[hm0] at hok;exact hok
    | lg a=>rw[hm0] at hok;exact hok
   ·intro l ld hl;obtain⟨h1,h2⟩:=hU.pl l ld hl;simp only;rw[H.phi_old hj ho hf0,H.phi_new hj ho htm];refine⟨by omega,fun p hp sp hsp hne=>?_⟩;by_cases c:wat s.ws sp.seq / 2=p.2
    ·have h3:=H.cnt p.1 sp hsp
     have h4:inE e0 (p.1:Int)=true:=by
      have hok:=hU.ok;cases hm0:u0.m with
      | rd t l w=>
       rw[hm0] at hok hl;cases w<;>simp only[c0i,Option.some.injEq,Prod.mk.injEq] at hl
       ·obtain⟨_,rfl⟩:=hl;cases hp
       ·obtain⟨_,rfl⟩:=hl;simp only[List.mem_singleton] at hp;subst hp;simp[inE,hok.1,hok.2.1]
       ·obtain⟨_,rfl⟩:=hl;simp only[List.mem_singleton] at hp;subst hp;simp[inE,hok.1,hok.2.1]
      | look a b c=>
       rw[hm0] at hok hl;simp only[c0i,Option.some.injEq,Prod.mk.injEq] at hl;obtain⟨_,rfl⟩:=hl;have h5:=hok.2.1 p.1 (hok.2.2.2.2 p hp);rcases hok.1 with h6|h6
       ·simp[inE,h5.2 h6]
       ·simp[inE,h6]
      | wr t l w=>rw[hm0] at hl;cases hl
      | ref er=>rw[hm0] at hl;cases hl
      | adv t=>rw[hm0] at hl;cases hl
      | one=>rw[hm0] at hl;cases hl
      | ar l sw=>rw[hm0] at hl;cases hl
      | md=>rw[hm0] at hl;cases hl
      | lg a=>rw[hm0] at hl;cases hl
     have h5:(de e'&&onT p.1 e'.topic)=true:=by
      cases h6:(de e'&&onT p.1 e'.topic)
      ·rw[h6] at h3;simp only[Bool.toNat_false,Nat.add_zero] at h3;exact absurd (h3.trans c) hne
      ·rfl
     simp only[Bool.and_eq_true,onT,decide_eq_true_eq] at h5;have h6:(de e'&&inE e0 e'.topic)=true:=by rw[h5.1,h5.2,h4];rfl
     rw[h6];simp only[Bool.toNat_true];omega
    ·have:=h2 p hp sp hsp c;omega
   ·intro l sw hl;obtain⟨h1,h2⟩:=hU.pa l sw hl
    have h3:np s.evs e0.frm s.time≤np (s.evs.set u.ev e') e0.frm (s.time+1):=by
     rw[←vt htm (Nat.le_succ _)];exact H.tc_mono hj
    refine⟨nlt h1 h3,fun y hy hne=>?_⟩;by_cases c:wat s.ws 0=y
    ·have h4:=H.tc_reg hj htm (by rw[c];exact hne) hf0;simp only;omega
    ·exact nlt (h2 y hy c) h3
 ·intro t sp hsp;rw[H.cnt t sp hsp,I.cnt t sp hsp];exact(H.phi_new hj ho htm).symm
 ·intro e0 h0 hp;obtain⟨n,hn⟩:=mig.1 h0;rcases hev n e0 hn with ⟨rfl,rfl⟩|⟨hne,h1⟩
  ·obtain⟨g1,t,g2,g3,g4⟩:=H.pub hp;refine⟨⟨t,g2,g3,?_⟩,by omega⟩;simp only;rw[g1,H.phi_new hj ho htm,g4,hp,g2];simp[onT]
  ·obtain⟨⟨t,g1,g2,g3⟩,g4⟩:=I.gen e0 (dh h1) hp;refine⟨⟨t,g1,g2,?_⟩,g4⟩;rw[g3];exact(H.phi_old hj ho (htm e0 (dh h1))).symm
 ·intro a b e1 e2 h1 h2 p1 p2 hat;rcases hev a e1 h1 with ⟨rfl,rfl⟩|⟨n1,q1⟩<;>rcases hev b e2 h2 with ⟨rfl,rfl⟩|⟨n2,q2⟩
  ·rfl
  ·have:=(H.pub p1).1;have:=htm e2 (dh q2);omega
  ·have:=(H.pub p2).1;have:=htm e1 (dh q1);omega
  ·exact I.dis a b e1 e2 q1 q2 p1 p2 hat
 ·intro a b e1 e2 h1 h2 p1 p2 hat;rcases hev a e1 h1 with ⟨rfl,rfl⟩|⟨n1,q1⟩<;>rcases hev b e2 h2 with ⟨rfl,rfl⟩|⟨n2,q2⟩
  ·rfl
  ·rcases H.turn p1 with g|⟨g1,g2⟩
   ·have:=htm e2 (dh q2);omega
   ·exact I.tdis u.ev b e e2 hj q2 g1 p2 (by omega)
  ·rcases H.turn p2 with g|⟨g1,g2⟩
   ·have:=htm e1 (dh q1);omega
   ·exact I.tdis a u.ev e1 e q1 hj p1 g1 (by omega)
  ·exact I.tdis a b e1 e2 q1 q2 p1 p2 hat
 ·intro a b k1 k2 u1 u2 t h1 h2 g1 g2 p1 p2
  have other:∀(n:Nat)(k0:Tk)(u0:Und)(m:ib),n≠i→s.tks[n]?=some k0→k0.und=some u0→oz u0.m=some t→m'=some m→oz m=some t→False:=fun n k0 u0 m hn q1 q2 q3 q4 q5=>by
   rcases hh m t q4 q5 with h|⟨sp,hsp,hev2⟩
   ·exact hn (I.hold n i k0 k u0 u t q1 hi q2 hu q3 h)
   ·obtain⟨e0,hU⟩:=I.und n k0 u0 q1 q2;have hok:=hU.ok;cases hm0:u0.m with
    | wr t' l w=>
     rw[hm0] at hok q3;have hw:=hok.2.2.2.2.2;cases w with
     | look=>cases q3
     | take q=>cases q3
     | fill q n=>cases q3;have:=hw.2 sp hsp;have:=hw.1;omega
     | give q=>cases q3;have:=hw.2 sp hsp;have:=hw.1;omega
    | ref er=>rw[hm0] at q3;cases q3
    | adv t=>rw[hm0] at q3;cases q3
    | one=>rw[hm0] at q3;cases q3
    | rd t l w=>rw[hm0] at q3;cases q3
    | look a b c=>rw[hm0] at q3;cases q3
    | ar l sw=>rw[hm0] at q3;cases q3
    | md=>rw[hm0] at q3;cases q3
    | lg a=>rw[hm0] at q3;cases q3
  rcases htk a k1 h1 with ⟨rfl,rfl⟩|⟨n1,q1⟩<;>rcases htk b k2 h2 with ⟨rfl,rfl⟩|⟨n2,q2⟩
  ·rfl
  ·simp only[Option.map_eq_some_iff] at g1;obtain⟨m,hm1,rfl⟩:=g1;exact(other b k2 u2 m n2 q2 g2 p2 hm1 p1).elim
  ·simp only[Option.map_eq_some_iff] at g2;obtain⟨m,hm1,rfl⟩:=g2;exact(other a k1 u1 m n1 q1 g1 p1 hm1 p2).elim
  ·exact I.hold a b k1 k2 u1 u2 t q1 q2 g1 g2 p1 p2
 ·intro e0 h0;obtain⟨n,hn⟩:=mig.1 h0;rcases hev n e0 hn with ⟨rfl,rfl⟩|⟨hne,h1⟩
  ·have hto:e0.to_≠0→e0.to_=s.time+1:=fun h=>by rcases H.to_ with g|g;exact absurd g h;exact g
   refine⟨fun h1 h2=>?_,fun h1 h2=>?_⟩
   ·rcases H.busy h1 h2 with g|⟨g1,g2⟩
    ·exact Or.inl g
    ·refine Or.inr ⟨g1,?_⟩;simp only;have hn:de e0=false:=by simp[de,h2]
     rw[c8a H,H.frm,hto h1,H.phi_new hj ho htm,hn]
     have:phi (s.evs.set u.ev e0) (inE e) e.frm=phi s.evs (inE e) e.frm:=by
      rw[b0s hj ho];simp[m5,hn]
     rw[this]
     simpa using g2
   ·obtain⟨g1,g2⟩:=H.cont h1 h2;refine⟨g1,?_⟩;simp only;rw[H.frm,hto h1,Nat.add_sub_cancel];exact nlt g2 (H.tc_mono hj)
  ·have hb:=I.busy e0 (dh h1);have ht0:=I.tm n e0 h1;have hf0:=hfo n e0 hne h1;refine⟨fun g1 g2=>?_,fun g1 g2=>?_⟩
   ·rcases hb.1 g1 g2 with g|⟨g3,g4⟩
    ·exact Or.inl g
    ·refine Or.inr ⟨g3,?_⟩;simp only;rw[H.phi_old hj ho hf0,H.phi_old hj ho ht0.2.1];exact g4
   ·obtain⟨g3,g4⟩:=hb.2 g1 g2;exact⟨g3,nlt g4 (H.tc_mono hj)⟩
theorem b2j{l:List Nat}{x:Nat}:wat (l++[x]) l.length=x:=by unfold wat;simp[List.getD]
theorem c0j{l:List Nat}{x j:Nat}(h:j<l.length):wat (l++[x]) j=wat l j:=by unfold wat;simp[List.getD,List.getElem?_append_left h]
theorem c8b{l:List Nat}{N j:Nat}(h:∀b∈l,b≤N):wat l j≤N:=by
 unfold wat;rw[List.getD_eq_getElem?_getD];cases h1:l[j]? with
 | none=>exact Nat.zero_le _
 | some v=>exact h v (dh h1)
theorem oo{α:Type}:∀{l:List α}{j:Nat}{e:α},l[j]?=some e→l.set j e=l
 | [],_,_,h=>by simp at h
 | x::l,0,e,h=>by simp at h;subst h;rfl
 | x::l,j+1,e,h=>by
  simp only[List.getElem?_cons_succ] at h;rw[List.set_cons_succ,oo h]
section
variable{E:Env}{s:Sys}{x:Option Nat}{i:Nat}{k:Tk}{u:Und}{e:Ev}{ws':List Nat}{m':Option ib}{r:Res}
theorem ku(e:Ev)(ts:List Nat)(now:Nat):e.after .busy ts false now=e:=by
 simp[Ev.after,Res.busy]
theorem c0k(htm:e.at_≤s.time)(ht:∀b∈u.times,0<b∧b≤s.time)(o:Bool):(e.after r (u.times++[s.time+1]) o (s.time+1)).at_≤s.time+1:=by
 simp only[Ev.after]
 split
 ·refine c8b fun b hb=>?_;rcases List.mem_append.1 hb with h|h
  ·have:=(ht b h).2;omega
  ·simp at h;omega
 ·omega
theorem tu(c:Int)(g:Nat)(o:Bool):(e.after ⟨c,g,u.times.length+1⟩ (u.times++[s.time+1]) o (s.time+1)).at_=s.time+1:=by
 simp[Ev.after,b2j]
theorem b4r(c:Int)(g:Nat)(o:Bool):(e.after ⟨c,g,0⟩ (u.times++[s.time+1]) o (s.time+1)).at_=e.at_:=by
 simp[Ev.after]
theorem tq.quiet(m:ib)(hk:mr E s.ws ws')(h0:e.to_=0)(h1:e.at_≤s.time):tq E s m e e ws':=by
 have ho:de e=false:=by simp[de,h0]
 refine⟨hk.len,rfl,rfl,rfl,rfl,rfl,Or.inl h0,by omega,fun h=>absurd h (by rw[ho];decide),fun t sp hsp=>?_,fun t sp hsp _ hne=>?_,fun h=>Or.inr ⟨h,rfl⟩,fun h=>⟨h,rfl⟩,fun h=>absurd hk.reg h,fun h=>absurd h0 h,fun h=>absurd h0 h⟩
 ·rw[hk.seq sp (dh hsp),ho];rfl
 ·exact absurd (hk.seq sp (dh hsp)) hne
theorem PotL.up{m:ib}(h:PotL E s e m)(hseq:∀sp∈E.spots,wat ws' sp.seq=wat s.ws sp.seq)(htm:∀e∈s.evs,e.at_≤s.time)(tks:List Tk):PotL E ⟨ws',s.time+1,s.evs,tks⟩ e m:=fun l ld hl=>by
 obtain⟨h1,h2⟩:=h l ld hl;simp only;rw[b0t htm (Nat.le_succ _)];refine⟨h1,fun p hp sp hsp hne=>?_⟩;rw[hseq sp (dh hsp)] at hne;exact h2 p hp sp hsp hne
theorem PotA.up{m:ib}(h:PotA E s e m)(hk:wat ws' 0=wat s.ws 0)(htm:∀e∈s.evs,e.at_≤s.time)(tks:List Tk):PotA E ⟨ws',s.time+1,s.evs,tks⟩ e m:=fun l sw hl=>by
 obtain⟨h1,h2⟩:=h l sw hl;simp only;rw[vt htm (Nat.le_succ _),hk];exact⟨h1,h2⟩
theorem Inv.htm(I:Inv E s x):∀e∈s.evs,e.at_≤s.time:=fun e0 h0=>by
 obtain⟨n,hn⟩:=mig.1 h0;exact(I.tm n e0 hn).1
variable(I:Inv E s x)(hi:s.tks[i]?=some k)(hu:k.und=some u)(he:b2i E s i u e)(hx:x=none∨x=some u.ev)
include I hi hu he hx
theorem Inv.quiet{m:ib}(hk:mr E s.ws ws')(hat:e.at_=0)(hok:MOk E ws' e (u.times++[s.time+1]) m)(hpl:PotL E s e m)(hpa:PotA E s e m)(hh:∀t,oz m=some t→oz u.m=some t∨∃sp,E.spots[t]?=some sp∧wat s.ws sp.seq%2=0):Inv E (s.stepped i k u e ws' (some m) .busy) none:=by
 have htm:=I.htm;refine Inv.step I hi hu he hx ?_ ?_ ?_
 ·rw[Option.isNone_some,ku];exact tq.quiet _ hk he.to_ (by omega)
 ·intro m1 hm1;cases hm1;rw[Option.isNone_some,ku];unfold Sys.stepped;rw[Option.isNone_some,ku,oo he.ev];refine⟨he.ev,he.task,he.to_,fun b hb=>?_,fun _=>hat,hok,hpl.up hk.seq htm _,hpa.up hk.reg htm _⟩;rcases List.mem_append.1 hb with h|h
  ·have:=he.times b h;simp only;omega
  ·simp at h;simp only;omega
 ·intro m1 t hm1 ht;cases hm1;exact hh t ht
theorem Inv.over(hk:mr E s.ws ws')(h1:e.kind=1→r.code≠0)(h2:e.kind=7∨e.kind=8→r.code=0→((e.after r (u.times++[s.time+1]) true (s.time+1)).at_=s.time+1∧e.at_=0)∨(e.after r (u.times++[s.time+1]) true (s.time+1)).at_=e.at_)(h2':e.kind=7∨e.kind=8→e.at_=0∨((e.after r (u.times++[s.time+1]) true (s.time+1)).at_=e.at_∧r.code=0))(h3:r.code=19→e.kind=1∨((e.kind=2∨e.kind=3∨e.kind=5)∧phi s.evs (inE e) e.frm+E.tries≤phi s.evs (inE e) s.time))(h4:r.code=20→(e.kind=7∨e.kind=8)∧E.tries≤np s.evs e.frm s.time):Inv E (s.stepped i k u e ws' none r) none:=by
 refine Inv.step I hi hu he hx ?_ (fun m h=>by cases h) (fun m t h=>by cases h);have htm:=I.htm e (dh he.ev)
 have ho:de (e.after r (u.times++[s.time+1]) true (s.time+1))=false:=by
  simp only[de,Ev.after,if_true];refine dqf fun h=>h1 h.1 h.2.2
 rw[Option.isNone_none];refine⟨hk.len,rfl,rfl,rfl,rfl,rfl,Or.inr rfl,c0k htm he.times true,fun h=>absurd h (by rw[ho];decide),fun t sp hsp=>?_,fun t sp hsp _ hne=>?_,fun h=>?_,fun h=>?_,fun h=>absurd hk.reg h,fun _=>h3,fun _=>h4⟩
 ·rw[hk.seq sp (dh hsp),ho];rfl
 ·exact absurd (hk.seq sp (dh hsp)) hne
 ·have h':=of_decide_eq_true h
  have hc:r.code=0:=by
   rcases h'.2.2 with g|g
   ·cases g
   ·exact g
  rcases h2 h'.1 hc with g|g
  ·exact Or.inl g.1
  ·right
   refine⟨dqt ⟨h'.1,?_,Or.inl he.to_⟩,g⟩;rw[←g];exact h'.2.1
 ·have h':=of_decide_eq_true h;rcases h2' h'.1 with g|⟨g,g2⟩
  ·have:=h'.2.1;omega
  ·exact⟨dqt ⟨h'.1,by rw[g];exact h'.2.1,Or.inr g2⟩,g⟩
end
theorem b6q{w g d:Nat}(hd:2≤d)(h:oq w g d=false):w / 2≠g:=fun e=>by
 have:=of_decide_eq_false h;exact this ⟨by omega,by omega⟩
section
variable{E:Env}{s:Sys}{x:Option Nat}{i:Nat}{k:Tk}{u:Und}{e:Ev}{ws':List Nat}{m':Option ib}{r:Res}
variable(hE:E.Ok)(I:Inv E s x)(hi:s.tks[i]?=some k)(hu:k.und=some u)(he:b2i E s i u e)(hx:x=none∨x=some u.ev)
include hE I hi hu he hx
theorem Inv.wtake{t l q:Nat}{sp:am}(hm:u.m=.wr t l (.take q))(hsp:E.spots[t]?=some sp)(hq:wat s.ws sp.seq=q):Inv E (s.stepped i k u e (s.ws.set sp.seq (q+1)) (some (.wr t l (.fill q 0))) .busy) none:=by
 have htm:=I.htm;have hok:=he.ok;rw[hm] at hok;have hq2:q%2=0:=hok.2.2.2.2.2;have hat:=he.at_ (by rw[hm];simp);have ho:de e=false:=by simp[de,he.to_]
 obtain⟨g1,g2,g3⟩:=b6p hE (x:=q+1) hsp I.len;refine Inv.step I hi hu he hx ?_ ?_ ?_
 ·rw[Option.isNone_some,ku];refine⟨g1,rfl,rfl,rfl,rfl,rfl,Or.inl he.to_,by omega,fun h=>absurd h (by rw[ho];decide),fun t' sp' hsp'=>?_,fun t' sp' hsp' hodd hne=>?_,fun h=>Or.inr ⟨h,rfl⟩,fun h=>⟨h,rfl⟩,fun h=>absurd g2 h,fun h=>absurd he.to_ h,fun h=>absurd he.to_ h⟩
  ·rw[g3 t' sp' hsp',ho];simp only[Bool.false_and,Bool.toNat_false,Nat.add_zero]
   split
   ·rename_i e1;subst e1;rw[hsp] at hsp';cases hsp';omega
   ·rfl
  ·rw[g3 t' sp' hsp'] at hne
   split at hne
   ·rename_i e1;subst e1;rw[hsp] at hsp';cases hsp';omega
   ·exact absurd rfl hne
 ·intro m1 hm1;cases hm1;rw[Option.isNone_some,ku];unfold Sys.stepped;rw[Option.isNone_some,ku,oo he.ev];refine⟨he.ev,he.task,he.to_,fun b hb=>?_,fun _=>hat,⟨hok.1,hok.2.1,hok.2.2.1,hok.2.2.2.1,hok.2.2.2.2.1,hq2,fun s' hs'=>?_⟩,fun l ld hl=>(by cases hl),fun l sw hl=>by cases hl⟩
  ·rcases List.mem_append.1 hb with h|h
   ·have:=he.times b h;simp only;omega
   ·simp at h;simp only;omega
  ·have:=g3 t s' hs';rw[if_pos rfl] at this;exact this
 ·intro m1 t' hm1 ht;cases hm1;cases ht;exact Or.inr ⟨sp,hsp,by omega⟩
theorem Inv.wgive{t l q:Nat}{sp:am}(hm:u.m=.wr t l (.give q))(hsp:E.spots[t]?=some sp):Inv E (s.stepped i k u e (s.ws.set sp.seq (q+2)) none ⟨0,q / 2+1,u.times.length+1⟩) none:=by
 have htm:=I.htm;have hok:=he.ok;rw[hm] at hok;obtain⟨hk,htp,htl,_,_,hq2,hwq⟩:=hok;have hwq:=hwq sp hsp;have hat:=he.at_ (by rw[hm];simp);obtain⟨g1,g2,g3⟩:=b6p hE (x:=q+2) hsp I.len;have hnow:=tu (s:=s) (u:=u) (e:=e) 0 (q / 2+1) true;have hc:=I.cnt t sp hsp;refine Inv.step I hi hu he hx ?_ (fun m h=>by cases h) (fun m t h=>by cases h);rw[Option.isNone_none];refine⟨g1,rfl,rfl,rfl,rfl,rfl,Or.inr rfl,by omega,fun h=>⟨hnow,t,htp,htl,?_⟩,fun t' sp' hsp'=>?_,fun t' sp' hsp' hodd hne=>?_,fun h=>Or.inl hnow,fun h=>?_,fun h=>absurd g2 h,fun _ h=>?_,fun _ h=>?_⟩
 ·simp only[Ev.after,if_true];omega
 ·rw[g3 t' sp' hsp']
  have ho:de (e.after ⟨0,q / 2+1,u.times.length+1⟩ (u.times++[s.time+1]) true (s.time+1))=true:=by
   simp only[de,Ev.after,if_true];exact dqt ⟨hk,by omega,trivial⟩
  rw[ho]
  split
  ·rename_i e1;subst e1;rw[hsp] at hsp';cases hsp'
   have:onT t' (e.after ⟨0,q / 2+1,u.times.length+1⟩ (u.times++[s.time+1]) true (s.time+1)).topic=true:=by
    simp only[Ev.after,onT];exact dqt htp
   rw[this];simp only[Bool.and_true,Bool.toNat_true];omega
  ·rename_i e1
   have:onT t' (e.after ⟨0,q / 2+1,u.times.length+1⟩ (u.times++[s.time+1]) true (s.time+1)).topic=false:=by
    simp only[Ev.after,onT];exact dqf (by omega)
   rw[this];rfl
 ·rw[g3 t' sp' hsp'] at hne
  split at hne
  ·rename_i e1;subst e1;rw[hm];rfl
  ·exact absurd rfl hne
 ·have:=of_decide_eq_true h;omega
 ·simp only[Ev.after,if_true] at h;cases h
 ·simp only[Ev.after,if_true] at h;cases h
omit hE in
theorem Inv.swaps{l:Nat}{sw:Option Nat}(hm:u.m=.ar l sw)(hm':m'=none∨m'=some (.lg (u.times.length+1)))(hlen:ws'.length=s.ws.length)(hseq:∀sp∈E.spots,wat ws' sp.seq=wat s.ws sp.seq):Inv E (s.stepped i k u e ws' m' ⟨0,0,u.times.length+1⟩) none:=by
 have htm:=I.htm;have hok:=he.ok;rw[hm] at hok;have hat:=he.at_ (by rw[hm];simp);have hnow:=fun o=>tu (s:=s) (u:=u) (e:=e) 0 0 o
 have hto:(m'.isNone=true∧m'=none)∨(m'.isNone=false∧m'=some (.lg (u.times.length+1))):=by
  rcases hm' with h|h<;>subst h<;>simp
 have ho:de (e.after ⟨0,0,u.times.length+1⟩ (u.times++[s.time+1]) m'.isNone (s.time+1))=false:=by
  simp only[de,Ev.after];refine dqf fun h=>?_;have:=h.1;have:=hok.1;omega
 have htu:dx e=false:=dqf fun h=>by omega
 have htn:dx (e.after ⟨0,0,u.times.length+1⟩ (u.times++[s.time+1]) m'.isNone (s.time+1))=true:=by
  refine dqt ⟨hok.1,by rw[hnow];omega,?_⟩;rcases hto with ⟨h,_⟩|⟨h,_⟩
  ·exact Or.inr (by simp[Ev.after,h])
  ·exact Or.inl (by simp[Ev.after,h,he.to_])
 refine Inv.step I hi hu he hx ?_ ?_ ?_
 ·refine⟨hlen,rfl,rfl,rfl,rfl,rfl,?_,by rw[hnow];omega,fun h=>absurd h (by rw[ho];decide),fun t sp hsp=>?_,fun t sp hsp _ hne=>?_,fun h=>Or.inl (hnow _),fun h=>absurd h (by rw[htu];decide),fun h=>⟨htn,hnow _,htu⟩,fun _ h=>?_,fun _ h=>?_⟩
  ·rcases hto with ⟨h,_⟩|⟨h,_⟩
   ·exact Or.inr (by simp[Ev.after,h])
   ·exact Or.inl (by simp[Ev.after,h,he.to_])
  ·rw[hseq sp (dh hsp),ho];rfl
  ·exact absurd (hseq sp (dh hsp)) hne
  ·rename_i h0
   rcases hto with ⟨g,_⟩|⟨g,_⟩
   ·simp[Ev.after,g] at h
   ·simp[Ev.after,g,he.to_] at h0
  ·rename_i h0
   rcases hto with ⟨g,_⟩|⟨g,_⟩
   ·simp[Ev.after,g] at h
   ·simp[Ev.after,g,he.to_] at h0
 ·intro m1 hm1;rcases hm' with h|h
  ·rw[h] at hm1;cases hm1
  ·rw[h] at hm1;cases hm1
   subst h;refine⟨?_,he.task,?_,fun b hb=>?_,fun h=>absurd rfl (h _),⟨hok.1,by omega,by simp,?_,?_⟩,fun l ld hl=>(by cases hl),fun l sw hl=>by cases hl⟩
   ·have:=(bk.1 he.ev).1;simp[Sys.stepped,this]
   ·simp[Ev.after,he.to_]
   ·rcases List.mem_append.1 hb with h|h
    ·have:=he.times b h;simp only[Sys.stepped];omega
    ·simp at h;simp only[Sys.stepped];omega
   ·rw[hnow,Nat.add_sub_cancel,b2j]
   ·rw[hnow];omega
 ·intro m1 t hm1 ht;rcases hm' with h|h
  ·rw[h] at hm1;cases hm1
  ·rw[h] at hm1;cases hm1
   cases ht
theorem Inv.mstep(hs:dq E (u.times.length+1) s.ws u.m ws' m' r):Inv E (s.stepped i k u e ws' m' r) none:=by
 have htm:=I.htm;have hok:=he.ok;have hpl:=he.pl;have hpa:=he.pa;have hat:=he.at_;have hkr:=mr.refl E s.ws;generalize hm:u.m=m0 at hs;rw[hm] at hok hpl hpa hat;cases hs with
 | ref h h0=>
  exact Inv.over I hi hu he hx hkr (fun _=>h0) (fun _ g=>absurd g h0) (fun _=>Or.inl (hat (by simp))) (fun g=>absurd g h.1) (fun g=>absurd g h.2)
 | adv h=>
  have hk0:e.kind=0:=hok;exact Inv.over I hi hu he hx (b8b hE h) (fun g=>by omega) (fun g=>by omega) (fun g=>by omega) (fun g=>by cases g) (fun g=>by cases g)
 | one h=>
  have hk0:e.kind=4∨e.kind=6:=hok;exact Inv.over I hi hu he hx hkr (fun g=>by omega) (fun g=>by omega) (fun g=>by omega) (fun g=>absurd g h.1) (fun g=>absurd g h.2)
 | wlook h h2=>
  exact Inv.quiet I hi hu he hx hkr (hat (by simp)) ⟨hok.1,hok.2.1,hok.2.2.1,hok.2.2.2.1,hok.2.2.2.2.1,h2⟩ (fun l ld hl=>by cases hl) (fun l sw hl=>by cases hl) (fun t ht=>by cases ht)
 | wheld h h2 hl=>
  exact Inv.quiet I hi hu he hx hkr (hat (by simp)) ⟨hok.1,hok.2.1,hok.2.2.1,by omega,by have:=hok.2.2.2.2.1;omega,trivial⟩ (fun l ld hl=>by cases hl) (fun l sw hl=>by cases hl) (fun t ht=>by cases ht)
 | wmiss h h2 hl=>
  exact Inv.quiet I hi hu he hx hkr (hat (by simp)) ⟨hok.1,hok.2.1,hok.2.2.1,by omega,by have:=hok.2.2.2.2.1;omega,trivial⟩ (fun l ld hl=>by cases hl) (fun l sw hl=>by cases hl) (fun t ht=>by cases ht)
 | wspent h h2 hl=>
  have hk0:=hok.1;exact Inv.over I hi hu he hx hkr (fun _ g=>by cases g) (fun g=>by omega) (fun g=>by omega) (fun _=>Or.inl hk0) (fun g=>by cases g)
 | wtake h h2=>exact Inv.wtake hE I hi hu he hx hm h h2
 | wfill h hn=>
  rename_i t l q n y sp
  have hK:=vr hE (ws:=s.ws) (x:=y) (g:=q / 2+1) (n:=n) h (Nat.lt_of_succ_lt hn);refine Inv.quiet I hi hu he hx hK (hat (by simp)) ⟨hok.1,hok.2.1,hok.2.2.1,hok.2.2.2.1,hok.2.2.2.2.1,hok.2.2.2.2.2.1,fun sp hsp=>?_⟩ (fun l ld hl=>by cases hl) (fun l sw hl=>by cases hl) (fun t ht=>by rw[hm];cases ht;exact Or.inl rfl);rw[hK.seq sp (dh hsp)];exact hok.2.2.2.2.2.2 sp hsp
 | wlast h hn=>
  rename_i t l q n y sp
  have hK:=vr hE (ws:=s.ws) (x:=y) (g:=q / 2+1) (n:=n) h (by omega);refine Inv.quiet I hi hu he hx hK (hat (by simp)) ⟨hok.1,hok.2.1,hok.2.2.1,hok.2.2.2.1,hok.2.2.2.2.1,hok.2.2.2.2.2.1,fun sp hsp=>?_⟩ (fun l ld hl=>by cases hl) (fun l sw hl=>by cases hl) (fun t ht=>by rw[hm];cases ht;exact Or.inl rfl);rw[hK.seq sp (dh hsp)];exact hok.2.2.2.2.2.2 sp hsp
 | wgive h=>exact Inv.wgive hE I hi hu he hx hm h
 | rfirst h=>
  refine Inv.quiet I hi hu he hx hkr (hat (by simp)) hok (fun l ld hl=>?_) (fun l sw hl=>by cases hl) (fun t ht=>by cases ht);cases hl;refine⟨(hpl _ _ rfl).1,fun p hp sp hsp hne=>?_⟩;simp only[List.mem_singleton] at hp;subst hp;rw[h] at hsp;cases hsp;exact absurd rfl hne
 | rword h hn=>
  exact Inv.quiet I hi hu he hx hkr (hat (by simp)) hok (fun l ld hl=>by cases hl;exact hpl _ _ rfl) (fun l sw hl=>by cases hl) (fun t ht=>by cases ht)
 | rlast h hn=>
  exact Inv.quiet I hi hu he hx hkr (hat (by simp)) hok (fun l ld hl=>by cases hl;exact hpl _ _ rfl) (fun l sw hl=>by cases hl) (fun t ht=>by cases ht)
 | rdone h hk=>
  have hk0:=hok.1;exact Inv.over I hi hu he hx hkr (fun g=>by omega) (fun g=>by omega) (fun g=>by omega) (fun g=>by cases g) (fun g=>by cases g)
 | ragain h hk hl=>
  have hd:=(jn hE h).1.d1;have hl2:=hok.2.2.2.2;refine Inv.quiet I hi hu he hx hkr (hat (by simp)) ⟨hok.1,hok.2.1,hok.2.2.1,by omega,by omega⟩ (fun l ld hl'=>?_) (fun l sw hl=>by cases hl) (fun t ht=>by cases ht);cases hl';have:=(hpl _ _ rfl).2 _ (List.mem_singleton.2 rfl) _ h (b6q hd hk);exact⟨by omega,fun p hp=>by cases hp⟩
 | rspent h hk hl=>
  have hd:=(jn hE h).1.d1;have hk0:=hok.1;have hl2:=hok.2.2.2.2;have:=(hpl _ _ rfl).2 _ (List.mem_singleton.2 rfl) _ h (b6q hd hk);exact Inv.over I hi hu he hx hkr (fun _ g=>by cases g) (fun g=>by omega) (fun g=>by omega) (fun _=>Or.inr ⟨Or.inl hk0,by omega⟩) (fun g=>by cases g)
 | kload ht h=>
  refine Inv.quiet I hi hu he hx hkr (hat (by simp)) ⟨hok.1,hok.2.1,hok.2.2.1,hok.2.2.2.1,fun p hp=>?_⟩ (fun l ld hl=>?_) (fun l sw hl=>by cases hl) (fun t ht=>by cases ht)
  ·rcases List.mem_append.1 hp with g|g
   ·exact hok.2.2.2.2 p g
   ·simp only[List.mem_singleton] at g;subst g;exact ht
  ·cases hl;refine⟨(hpl _ _ rfl).1,fun p hp sp hsp hne=>?_⟩;rcases List.mem_append.1 hp with g|g
   ·exact(hpl _ _ rfl).2 p g sp hsp hne
   ·simp only[List.mem_singleton] at g;subst g;rw[h] at hsp;cases hsp;exact absurd rfl hne
 | kword=>
  exact Inv.quiet I hi hu he hx hkr (hat (by simp)) hok hpl (fun l sw hl=>by cases hl) (fun t ht=>by cases ht)
 | kdone h=>
  have hk0:=hok.1;exact Inv.over I hi hu he hx hkr (fun g=>by omega) (fun g=>by omega) (fun g=>by omega) (fun g=>absurd g h.1) (fun g=>absurd g h.2)
 | kagain ht h hg hl=>
  have hl2:=hok.2.2.2.1;refine Inv.quiet I hi hu he hx hkr (hat (by simp)) ⟨hok.1,hok.2.1,by omega,by omega,fun p hp=>by cases hp⟩ (fun l ld hl'=>?_) (fun l sw hl=>by cases hl) (fun t ht=>by cases ht);cases hl';have:=(hpl _ _ rfl).2 _ ht _ h hg;exact⟨by omega,fun p hp=>by cases hp⟩
 | kspent ht h hg hl=>
  have hk0:=hok.1;have hl2:=hok.2.2.2.1;have:=(hpl _ _ rfl).2 _ ht _ h hg;exact Inv.over I hi hu he hx hkr (fun _ g=>by cases g) (fun g=>by omega) (fun g=>by omega) (fun _=>Or.inr ⟨by omega,by omega⟩) (fun g=>by cases g)
 | aload=>
  refine Inv.quiet I hi hu he hx hkr (hat (by simp)) hok (fun l ld hl=>by cases hl) (fun l sw hl=>?_) (fun t ht=>by cases ht);cases hl;exact⟨(hpa _ _ rfl).1,fun y hy hne=>by cases hy;exact absurd rfl hne⟩
 | adone h ha=>
  have hk0:=hok.1;have ha0:=hat (by simp);refine Inv.over I hi hu he hx hkr (fun g=>by omega) (fun _ _=>?_) (fun _=>Or.inl ha0) (fun g=>absurd g h.1) (fun g=>absurd g h.2);rcases ha with rfl|rfl
  ·exact Or.inr (b4r _ _ _)
  ·exact Or.inl ⟨tu _ _ _,ha0⟩
 | alog=>exact Inv.swaps I hi hu he hx hm (Or.inr rfl) rfl (fun _ _=>rfl)
 | aswap he2 hm2=>
  obtain⟨g1,g2,g3⟩:=c4y hE (y:=_) I.len;exact Inv.swaps I hi hu he hx hm hm2 g1 g3
 | amiss he2 hl=>
  have hl2:=hok.2.2;refine Inv.quiet I hi hu he hx hkr (hat (by simp)) ⟨hok.1,by omega,by omega⟩ (fun l ld hl=>by cases hl) (fun l sw hl'=>?_) (fun t ht=>by cases ht);cases hl';have:=(hpa _ _ rfl).2 _ rfl he2;exact⟨by omega,fun y hy=>by cases hy⟩
 | aspent he2 hl=>
  have hk0:=hok.1;have hl2:=hok.2.2;have:=(hpa _ _ rfl).2 _ rfl he2;exact Inv.over I hi hu he hx hkr (fun _ g=>by cases g) (fun _ g=>by cases g) (fun _=>Or.inl (hat (by simp))) (fun g=>by cases g) (fun _=>⟨hk0,by omega⟩)
 | mode h=>
  have hk0:e.kind=9:=hok;exact Inv.over I hi hu he hx hkr (fun g=>by omega) (fun g=>by omega) (fun g=>by omega) (fun g=>absurd g h.1) (fun g=>absurd g h.2)
 | lg hi2=>
  rename_i a j y
  obtain⟨hk0,ha1,ha2,ha3,ha4⟩:=hok
  have hsame:(e.after ⟨0,0,a⟩ (u.times++[s.time+1]) true (s.time+1)).at_=e.at_:=by
   have h1:1≤a∧a≤(u.times++[s.time+1]).length:=⟨ha1,by simp;omega⟩;simp only[Ev.after,if_pos h1];rw[c0j (by omega),←ha3]
  exact Inv.over I hi hu he hx (b8c hE hi2) (fun g=>by omega) (fun _ _=>Or.inr hsame) (fun _=>Or.inr ⟨hsame,rfl⟩) (fun g=>by cases g) (fun g=>by cases g)
end
theorem Inv.stepR{E:Env}{s s':Sys}{x:Option Nat}{i:Nat}(hE:E.Ok)(I:Inv E s x)(hs:qe E s i s')(hx:∀k u,s.tks[i]?=some k→k.und=some u→x=none∨x=some u.ev):Inv E s' none:=by
 obtain⟨k,u,e,ws',m',r,hi,hu,hev,hm,rfl⟩:=hs;obtain⟨e0,he⟩:=I.und i k u hi hu;have:=he.ev;rw[hev] at this;cases this;exact Inv.mstep hE I hi hu he (hx k u hi hu) hm
theorem Inv.begun{E:Env}{s:Sys}{i:Nat}{k:Tk}{c:PC}{m:ib}(hE:E.Ok)(I:Inv E s none)(hi:s.tks[i]?=some k)(hb:jy E c k.f m):Inv E (s.begun i k c m) (some s.evs.length):=by
 have htm:=I.htm;have hil:i<s.tks.length:=(bk.1 hi).1
 have hev:∀(n:Nat)(e0:Ev),(s.evs++[c.ev i (s.time+1)])[n]?=some e0→(n=s.evs.length∧e0=c.ev i (s.time+1))∨s.evs[n]?=some e0:=fun n e0 h=>by
  rcases Nat.lt_trichotomy n s.evs.length with g|g|g
  ·rw[List.getElem?_append_left g] at h;exact Or.inr h
  ·subst g;simp at h;exact Or.inl ⟨rfl,h.symm⟩
  ·rw[List.getElem?_append_right (by omega)] at h;have:n-s.evs.length≠0:=by omega
   rw[List.getElem?_eq_none (by simp;omega)] at h;cases h
 have hphi:∀S b,phi (s.evs++[c.ev i (s.time+1)]) S b=phi s.evs S b:=fun S b=>by
  simp[phi,List.countP_append,m5,de,PC.ev]
 have htc:∀a b,np (s.evs++[c.ev i (s.time+1)]) a b=np s.evs a b:=fun a b=>by
  simp[np,List.countP_append,tcP,dx,PC.ev]
 have ho:de (c.ev i (s.time+1))=false:=by simp[de,PC.ev]
 have htn:dx (c.ev i (s.time+1))=false:=by simp[dx,PC.ev]
 have htk:∀(n:Nat)(k0:Tk),(s.tks.set i ⟨k.next+1,some ⟨s.evs.length,[],m⟩,k.f⟩)[n]?=some k0→(n=i∧k0=⟨k.next+1,some ⟨s.evs.length,[],m⟩,k.f⟩)∨(n≠i∧s.tks[n]?=some k0):=fun n k0 h=>by
  by_cases c:n=i
  ·subst c;rw[List.getElem?_set_self hil] at h;cases h;exact Or.inl ⟨rfl,rfl⟩
  ·rw[List.getElem?_set_ne (fun h'=>c h'.symm)] at h;exact Or.inr ⟨c,h⟩
 have hno:oz m=none:=by cases hb<;>rfl
 have h0:=fun S=>c0h (l:=s.evs) (S:=S) (nlr s.time);have hph:∀S,phi s.evs S (s.time+1)=phi s.evs S s.time:=fun S=>b0t htm (Nat.le_succ _);unfold Sys.begun;refine⟨I.len,by simpa using I.nt,?_,?_,?_,?_,?_,?_,?_,?_,?_⟩
 ·have:=I.few;simp at this ⊢;omega
 ·intro n e0 h;rcases hev n e0 h with ⟨rfl,rfl⟩|h1
  ·exact⟨Nat.zero_le _,Nat.zero_le _,Nat.succ_le_succ (Nat.zero_le _),Or.inr ⟨rfl,rfl⟩⟩
  ·have g:=I.tm n e0 h1;refine⟨g.1,g.2.1,g.2.2.1,Or.inl ?_⟩;rcases g.2.2.2 with g1|⟨g1,_⟩
   ·exact g1
   ·cases g1
 ·intro n k0 u0 hk0 hu0;rcases htk n k0 hk0 with ⟨rfl,rfl⟩|⟨hn,h1⟩
  ·cases hu0;have ht:=hE.t1;refine⟨c.ev n (s.time+1),by simp,rfl,rfl,fun b hb=>(by cases hb),fun _=>rfl,?_,?_,?_⟩
   ·cases hb with
    | ref h h0=>exact⟨h,h0⟩
    | adv hk=>exact hk
    | wr hk ht2 hl=>exact⟨hk,ht2,hl,ht,nlr _,trivial⟩
    | rd hk ht2 hl=>exact⟨hk,ht2,hl,ht,nlr _⟩
    | sn hk ht2=>exact⟨Or.inl hk,fun t h=>⟨(ht2 t h).1,fun _=>(ht2 t h).2⟩,ht,nlr _,fun p hp=>by cases hp⟩
    | po hk ht2=>exact⟨Or.inr hk,fun t h=>⟨ht2 t h,fun g=>by have:c.kind=3:=g;omega⟩,ht,nlr _,fun p hp=>by cases hp⟩
    | one hk=>exact hk
    | ar hk=>exact⟨hk,ht,nlr _⟩
    | md hk=>exact hk
   ·intro l ld hl
    have hq:phi (s.evs++[c.ev n (s.time+1)]) (inE (c.ev n (s.time+1))) (c.ev n (s.time+1)).frm=phi (s.evs++[c.ev n (s.time+1)]) (inE (c.ev n (s.time+1))) s.time:=by
     rw[hphi,hphi];exact hph _
    simp only;rw[hq];cases hb<;>cases hl<;>exact⟨by omega,fun p hp=>by cases hp⟩
   ·intro l sw hl;cases hb<;>cases hl
    exact⟨by omega,fun y hy=>by cases hy⟩
  ·obtain⟨e0,hU⟩:=I.und n k0 u0 h1 hu0;refine⟨e0,?_,hU.task,hU.to_,hU.times,hU.at_,hU.ok,fun l ld hl=>?_,fun l sw hl=>?_⟩
   ·show (s.evs++_)[u0.ev]?=some e0
    rw[List.getElem?_append_left (bk.1 hU.ev).1];exact hU.ev
   ·simp only[hphi];exact hU.pl l ld hl
   ·simp only[htc];exact hU.pa l sw hl
 ·intro t sp hsp;simp only[hphi];exact I.cnt t sp hsp
 ·intro e0 h1 hp;rcases List.mem_append.1 h1 with h|h
  ·simp only[hphi];exact I.gen e0 h hp
  ·simp only[List.mem_singleton] at h;subst h;rw[ho] at hp;cases hp
 ·intro a b e1 e2 h1 h2 p1 p2 hat;rcases hev a e1 h1 with ⟨rfl,rfl⟩|q1
  ·rw[ho] at p1;cases p1
  ·rcases hev b e2 h2 with ⟨rfl,rfl⟩|q2
   ·rw[ho] at p2;cases p2
   ·exact I.dis a b e1 e2 q1 q2 p1 p2 hat
 ·intro a b e1 e2 h1 h2 p1 p2 hat;rcases hev a e1 h1 with ⟨rfl,rfl⟩|q1
  ·rw[htn] at p1;cases p1
  ·rcases hev b e2 h2 with ⟨rfl,rfl⟩|q2
   ·rw[htn] at p2;cases p2
   ·exact I.tdis a b e1 e2 q1 q2 p1 p2 hat
 ·intro a b k1 k2 u1 u2 t h1 h2 g1 g2 p1 p2;rcases htk a k1 h1 with ⟨rfl,rfl⟩|⟨n1,q1⟩
  ·cases g1;rw[hno] at p1;cases p1
  ·rcases htk b k2 h2 with ⟨rfl,rfl⟩|⟨n2,q2⟩
   ·cases g2;rw[hno] at p2;cases p2
   ·exact I.hold a b k1 k2 u1 u2 t q1 q2 g1 g2 p1 p2
 ·intro e0 h1;rcases List.mem_append.1 h1 with h|h
  ·have hb0:=I.busy e0 h;unfold b4q;simp only[hphi,htc];exact hb0
  ·simp only[List.mem_singleton] at h;subst h;exact⟨fun g=>absurd rfl g,fun g=>absurd rfl g⟩
theorem Inv.drop{E:Env}{s:Sys}{i n:Nat}{k:Tk}(I:Inv E s none)(hi:s.tks[i]?=some k):Inv E ⟨s.ws,s.time,s.evs,s.tks.set i ⟨n,none,k.f⟩⟩ none:=by
 have hil:i<s.tks.length:=(bk.1 hi).1
 have htk:∀(a:Nat)(k0:Tk)(u:Und),(s.tks.set i ⟨n,none,k.f⟩)[a]?=some k0→k0.und=some u→s.tks[a]?=some k0:=fun a k0 u h hu=>by
  by_cases c:a=i
  ·subst c;rw[List.getElem?_set_self hil] at h;cases h;cases hu
  ·rwa [List.getElem?_set_ne (fun h'=>c h'.symm)] at h
 refine⟨I.len,by simpa using I.nt,I.few,I.tm,fun a k0 u h hu=>?_,I.cnt,I.gen,I.dis,I.tdis,fun a b k1 k2 u1 u2 t h1 h2 g1 g2=>I.hold a b k1 k2 u1 u2 t (htk _ _ _ h1 g1) (htk _ _ _ h2 g2) g1 g2,I.busy⟩;obtain⟨e,h1⟩:=I.und a k0 u (htk _ _ _ h hu) hu;exact⟨e,h1.ev,h1.task,h1.to_,h1.times,h1.at_,h1.ok,h1.pl,h1.pa⟩
theorem Inv.pick{E:Env}{ps:List (List PC)}{s s':Sys}{p:Int}(hE:E.Ok)(I:Inv E s none)(hp:gu E ps s p s'):Inv E s' none:=by
 cases hp with
 | far=>exact I
 | ended=>exact I
 | step h hu hs=>exact Inv.stepR hE I hs (fun _ _ _ _=>Or.inl rfl)
 | begin_ h _ hu hc hb hs=>
  refine Inv.stepR hE (Inv.begun hE I h hb) hs (fun k0 u0 h1 h2=>Or.inr ?_);have hil:=(bk.1 h).1;simp only[Sys.begun] at h1;rw[List.getElem?_set_self hil] at h1;cases h1;cases h2
  rfl
 | none_=>exact I
 | drop hx h=>exact Inv.drop I h
theorem Inv.start(E:Env):Inv E (Sys.start E) none:=by
 refine⟨by simp[Sys.start],by simp[Sys.start],by simp[Sys.start],fun j e h=>by simp[Sys.start] at h,fun i k u h hu=>?_,fun t sp hsp=>?_,fun e h=>by simp[Sys.start] at h,fun i j e e' h=>by simp[Sys.start] at h,fun i j e e' h=>by simp[Sys.start] at h,fun i j k k' u u' t h _ hu=>?_,fun e h=>by simp[Sys.start] at h⟩
 ·simp only[Sys.start] at h;have:=dh h;simp at this;rw[this.2] at hu;cases hu
 ·simp only[Sys.start,phi,wat,List.getD,List.getElem?_replicate]
  split<;>simp
 ·simp only[Sys.start] at h;have:=dh h;simp at this;rw[this.2] at hu;cases hu
section
variable{E:Env}{ps:List (List PC)}{s s':Sys}{i:Nat}{k:Tk}{p:List PC}{c:PC}{u:Und}{e:Ev}
theorem qe.inv(h:qe E s i s')(hk:s.tks[i]?=some k)(hu:k.und=some u)(he:s.evs[u.ev]?=some e):∃ws' m' r,dq E (u.times.length+1) s.ws u.m ws' m' r∧s'=s.stepped i k u e ws' m' r:=by
 obtain⟨k1,u1,e1,ws',m',r,h1,h2,h3,h4,rfl⟩:=h;rw[hk] at h1;cases h1;rw[hu] at h2;cases h2;rw[he] at h3;cases h3;exact⟨ws',m',r,h4,rfl⟩
theorem gu.on(h:gu E ps s (i:Int) s')(hk:s.tks[i]?=some k)(hu:k.und=some u)(he:s.evs[u.ev]?=some e):∃ws' m' r,dq E (u.times.length+1) s.ws u.m ws' m' r∧s'=s.stepped i k u e ws' m' r:=by
 have hl:=(bk.1 hk).1;generalize hx:(i:Int)=x at h;cases h with
 | far h1=>omega
 | ended h1 h2 h3 h4=>
  obtain rfl:i=_:=Int.ofNat.inj hx;rw[hk] at h1;cases h1;rw[hu] at h3;cases h3
 | step h1 h2 h3=>
  obtain rfl:i=_:=Int.ofNat.inj hx;exact h3.inv hk hu he
 | begin_ h1 h2 h3 h4 h5 h6=>
  obtain rfl:i=_:=Int.ofNat.inj hx;rw[hk] at h1;cases h1;rw[hu] at h3;cases h3
 | none_ h1=>omega
 | drop h1 h2 h3=>omega
theorem gu.new(h:gu E ps s (i:Int) s')(hk:s.tks[i]?=some k)(hu:k.und=none)(hp:ps[i]?=some p)(hc:p[k.next]?=some c):∃m ws' m' r,jy E c k.f m∧dq E 1 s.ws m ws' m' r∧s'=(s.begun i k c m).stepped i ⟨k.next+1,some ⟨s.evs.length,[],m⟩,k.f⟩ ⟨s.evs.length,[],m⟩ (c.ev i (s.time+1)) ws' m' r:=by
 have hl:=(bk.1 hk).1;have hcl:=(bk.1 hc).1;generalize hx:(i:Int)=x at h;cases h with
 | far h1=>omega
 | ended h1 h2 h3 h4=>
  obtain rfl:i=_:=Int.ofNat.inj hx;rw[hk] at h1;cases h1;rw[hp] at h2;cases h2;omega
 | step h1 h2 h3=>
  obtain rfl:i=_:=Int.ofNat.inj hx;rw[hk] at h1;cases h1;exact absurd hu h2
 | @begin_ _ _ _ _ m _ h1 h2 h3 h4 h5 h6=>
  obtain rfl:i=_:=Int.ofNat.inj hx;rw[hk] at h1;cases h1;rw[hp] at h2;cases h2;rw[hc] at h4;cases h4
  have hk6:(s.begun i k c m).tks[i]?=some ⟨k.next+1,some ⟨s.evs.length,[],m⟩,k.f⟩:=by
   simp[Sys.begun,hl]
  have he6:(s.begun i k c m).evs[s.evs.length]?=some (c.ev i (s.time+1)):=by
   simp[Sys.begun]
  obtain⟨ws',m',r,h7,h8⟩:=h6.inv hk6 rfl he6;exact⟨_,ws',m',r,h5,h7,h8⟩
 | none_ h1=>omega
 | drop h1 h2 h3=>omega
theorem tj.one{x:Int}{l:List Int}(h:tj E ps s (x::l) s'):∃s1,gu E ps s x s1∧tj E ps s1 l s':=by
 cases h with
 | cons h1 h2=>exact⟨_,h1,h2⟩
end
def ju:Env:=⟨2,[⟨2,3,4,1,2⟩],1,1,6⟩
def ii(k:Int)(n:Nat):PC:=⟨k,0,0,0,0,0,0,0,false,[],n⟩
def b0u:List (List PC):=[[ii 0 0,ii 1 1],[ii 2 0]]
theorem qo{k:Int}{n:Nat}{f:Int→Bool}(h:(k=0∧n=0∧f 0=false)∨(k=1∧n=1∧f 0=true)∨(k=2∧n=0)):Sure ju (ii k n) f:=by
 refine⟨⟨?_,rfl,rfl,rfl,rfl,rfl,rfl,rfl,rfl,rfl⟩,fun hk=>?_,fun hk=>?_⟩
 ·simp only[ii];omega
 ·simp only[ii] at hk;rcases h with h|h|h
  ·exact h.2.2
  ·omega
  ·omega
 ·simp only[ii] at hk;rcases h with h|h|h
  ·omega
  ·exact⟨h.2.2,_,rfl,by simp only[ii];omega⟩
  ·omega
theorem b8d{f:Int→Bool}{m:ib}(h:jy ju (ii 0 0) f m)(hf:f 0=false):m=.adv 0:=by
 cases h with
 | ref _ _ hs=>exact absurd (qo (Or.inl ⟨rfl,rfl,hf⟩)) hs
 | adv _ ht _=>
  simp only[ii] at ht
  congr 1
  omega
 | wr hk _ _=>exact absurd hk (by decide)
 | rd hk _ _=>exact absurd hk (by decide)
 | sn hk _=>exact absurd hk (by decide)
 | po hk _=>exact absurd hk (by decide)
 | one hk=>exact absurd hk (by decide)
 | ar hk=>exact absurd hk (by decide)
 | md hk=>exact absurd hk (by decide)
theorem c0l{f:Int→Bool}{m:ib}(h:jy ju (ii 1 1) f m)(hf:f 0=true):m=.wr 0 1 .look:=by
 cases h with
 | ref _ _ hs=>exact absurd (qo (Or.inr (Or.inl ⟨rfl,rfl,hf⟩))) hs
 | adv hk _ _=>exact absurd hk (by decide)
 | wr _ ht _=>
  simp only[ii] at ht
  congr 1
  omega
 | rd hk _ _=>exact absurd hk (by decide)
 | sn hk _=>exact absurd hk (by decide)
 | po hk _=>exact absurd hk (by decide)
 | one hk=>exact absurd hk (by decide)
 | ar hk=>exact absurd hk (by decide)
 | md hk=>exact absurd hk (by decide)
theorem c0m{f:Int→Bool}{m:ib}(h:jy ju (ii 2 0) f m):m=.rd 0 1 .first:=by
 cases h with
 | ref _ _ hs=>exact absurd (qo (Or.inr (Or.inr ⟨rfl,rfl⟩))) hs
 | adv hk _ _=>exact absurd hk (by decide)
 | wr hk _ _=>exact absurd hk (by decide)
 | rd _ ht _=>
  simp only[ii] at ht
  congr 1
  omega
 | sn hk _=>exact absurd hk (by decide)
 | po hk _=>exact absurd hk (by decide)
 | one hk=>exact absurd hk (by decide)
 | ar hk=>exact absurd hk (by decide)
 | md hk=>exact absurd hk (by decide)
section
variable{k b:Nat}{ws ws':List Nat}{m':Option ib}{r:Res}
theorem gb{s:am}(h:ju.spots[0]?=some s):s=⟨2,3,4,1,2⟩:=(Option.some.inj (val:=(⟨2,3,4,1,2⟩:am)) h).symm
theorem c0n(h:dq ju k ws (.adv 0) ws' m' r):∃x,ws'=ws.set 2 x∧m'=none∧r=⟨0,0,k⟩:=by
 cases h with
 | adv h=>
  obtain rfl:=gb h;exact⟨_,rfl,rfl,rfl⟩
theorem c0o(h:dq ju k ws (.rd 0 1 .first) ws' m' r)(h0:wat ws 3=0):ws'=ws∧m'=some (.rd 0 1 (.word 0 0 k))∧r=.busy:=by
 cases h with
 | rfirst h=>
  obtain rfl:=gb h;exact⟨rfl,by simp only[h0],rfl⟩
theorem c0p(h:dq ju k ws (.wr 0 1 .look) ws' m' r)(h0:wat ws 3=0):ws'=ws∧m'=some (.wr 0 1 (.take 0))∧r=.busy:=by
 cases h with
 | wlook h _=>
  obtain rfl:=gb h;exact⟨rfl,by simp only[h0],rfl⟩
 | wheld h _ hl=>omega
 | wspent h he _=>
  obtain rfl:=gb h;rcases he with ⟨_,h1⟩|⟨q,h1,_⟩
  ·simp only[h0] at h1;omega
  ·cases h1
theorem c0q(h:dq ju k ws (.wr 0 1 (.take 0)) ws' m' r)(h0:wat ws 3=0):ws'=ws.set 3 1∧m'=some (.wr 0 1 (.fill 0 0))∧r=.busy:=by
 cases h with
 | wtake h _=>
  obtain rfl:=gb h;exact⟨rfl,rfl,rfl⟩
 | wmiss h he hl=>omega
 | wspent h he _=>
  obtain rfl:=gb h;rcases he with ⟨h1,_⟩|⟨q,h1,h2⟩
  ·cases h1
  ·cases h1;exact absurd h0 h2
theorem c0r(h:dq ju k ws (.wr 0 1 (.fill 0 0)) ws' m' r):∃x,ws'=ws.set 5 x∧m'=some (.wr 0 1 (.give 0))∧r=.busy:=by
 cases h with
 | wfill h hn=>
  obtain rfl:=gb h;simp only at hn;omega
 | wlast h _=>
  obtain rfl:=gb h;exact⟨_,rfl,rfl,rfl⟩
 | wspent h he _=>
  rcases he with ⟨h1,_⟩|⟨q,h1,_⟩<;>cases h1
theorem c0s(h:dq ju k ws (.wr 0 1 (.give 0)) ws' m' r):ws'=ws.set 3 2∧m'=none∧r=⟨0,1,k⟩:=by
 cases h with
 | wgive h=>
  obtain rfl:=gb h;exact⟨rfl,rfl,rfl⟩
 | wspent h he _=>
  rcases he with ⟨h1,_⟩|⟨q,h1,_⟩<;>cases h1
theorem c0t(h:dq ju k ws (.rd 0 1 (.word 0 0 b)) ws' m' r):ws'=ws∧m'=some (.rd 0 1 (.again 0 b))∧r=.busy:=by
 cases h with
 | rword h hn=>
  obtain rfl:=gb h;simp only at hn;omega
 | rlast h _=>exact⟨rfl,rfl,rfl⟩
theorem c0u(h:dq ju k ws (.rd 0 1 (.again 0 b)) ws' m' r)(h0:wat ws 3=2):ws'=ws∧m'=none∧r=⟨0,0,b⟩:=by
 cases h with
 | rdone h _=>exact⟨rfl,rfl,rfl⟩
 | ragain h hk _=>
  obtain rfl:=gb h;simp only[h0] at hk;exact absurd hk (by decide)
 | rspent h hk _=>
  obtain rfl:=gb h;simp only[h0] at hk;exact absurd hk (by decide)
end
set_option maxRecDepth 10000 in
theorem b4s{s:Sys}(h:tj ju b0u (Sys.start ju) [0,1,0,0,0,0,1,1] s):∃e0 e1 e2,s.evs=[e0,e1,e2]∧e1.kind=2∧e1.code=0∧e1.gen=0∧e1.at_=2∧e1.to_=8∧e2.gen=1∧e2.at_=6:=by
 obtain⟨s1,h1,h⟩:=h.one;obtain⟨s2,h2,h⟩:=h.one;obtain⟨s3,h3,h⟩:=h.one;obtain⟨s4,h4,h⟩:=h.one;obtain⟨s5,h5,h⟩:=h.one;obtain⟨s6,h6,h⟩:=h.one;obtain⟨s7,h7,h⟩:=h.one;obtain⟨s8,h8,h⟩:=h.one;cases h;obtain⟨m1,w1,n1,r1,hb,hm,rfl⟩:=gu.new (i:=0) h1 (k:=⟨0,none,fun _=>false⟩) rfl rfl (p:=[ii 0 0,ii 1 1]) rfl (c:=ii 0 0) rfl;obtain rfl:=b8d hb rfl;obtain⟨x,rfl,rfl,rfl⟩:=c0n hm;obtain⟨m2,w2,n2,r2,hb,hm,rfl⟩:=gu.new (i:=1) h2 (k:=⟨0,none,fun _=>false⟩) rfl rfl (p:=[ii 2 0]) rfl (c:=ii 2 0) rfl;obtain rfl:=c0m hb;obtain⟨rfl,rfl,rfl⟩:=c0o hm rfl;obtain⟨m3,w3,n3,r3,hb,hm,rfl⟩:=gu.new (i:=0) h3 (k:=⟨1,none,jm (fun _=>false) (.adv 0)⟩) rfl rfl (p:=[ii 0 0,ii 1 1]) rfl (c:=ii 1 1) rfl;obtain rfl:=c0l hb rfl;obtain⟨rfl,rfl,rfl⟩:=c0p hm rfl
 obtain⟨w4,n4,r4,hm,rfl⟩:=gu.on (i:=0) h4 (u:=⟨2,[3],.wr 0 1 (.take 0)⟩) rfl rfl rfl;obtain⟨rfl,rfl,rfl⟩:=c0q hm rfl;obtain⟨w5,n5,r5,hm,rfl⟩:=gu.on (i:=0) h5 (u:=⟨2,[3,4],.wr 0 1 (.fill 0 0)⟩) rfl rfl rfl;obtain⟨y,rfl,rfl,rfl⟩:=c0r hm;obtain⟨w6,n6,r6,hm,rfl⟩:=gu.on (i:=0) h6 (u:=⟨2,[3,4,5],.wr 0 1 (.give 0)⟩) rfl rfl rfl;obtain⟨rfl,rfl,rfl⟩:=c0s hm;obtain⟨w7,n7,r7,hm,rfl⟩:=gu.on (i:=1) h7 (u:=⟨1,[2],.rd 0 1 (.word 0 0 1)⟩) rfl rfl rfl;obtain⟨rfl,rfl,rfl⟩:=c0t hm;obtain⟨w8,n8,r8,hm,rfl⟩:=gu.on (i:=1) h8 (u:=⟨1,[2,7],.rd 0 1 (.again 0 1)⟩) rfl rfl rfl;obtain⟨rfl,rfl,rfl⟩:=c0u hm rfl;exact⟨_,_,_,rfl,rfl,rfl,rfl,rfl,rfl,rfl,rfl⟩
structure Cnt(s:Sys)(n:Nat):Prop where
 tm:s.time≤n
 ev:s.evs.length≤n
 times:∀(i:Nat)(k:Tk)(u:Und),s.tks[i]?=some k→k.und=some u→u.times.length≤n
theorem Cnt.up{s:Sys}{n m:Nat}(h:Cnt s n)(hm:n≤m):Cnt s m:=⟨nlt h.tm hm,nlt h.ev hm,fun i k u h1 h2=>nlt (h.times i k u h1 h2) hm⟩
theorem Cnt.start(E:Env):Cnt (Sys.start E) 0:=⟨nlr _,nlr _,fun i k u h hu=>by
 simp only[Sys.start] at h;have:=dh h;simp at this;rw[this.2] at hu;cases hu⟩
theorem Cnt.stepR{E:Env}{s s':Sys}{i n:Nat}(h:qe E s i s')(ht:s.time≤n)(he:s.evs.length≤n+1)(hu:∀(i:Nat)(k:Tk)(u:Und),s.tks[i]?=some k→k.und=some u→u.times.length≤n):Cnt s' (n+1):=by
 obtain⟨k,u,e,ws',m',r,h1,h2,h3,h4,rfl⟩:=h;refine⟨by simp only[Sys.stepped];omega,by simpa[Sys.stepped] using he,fun j k' u' hj hu'=>?_⟩;simp only[Sys.stepped] at hj;by_cases c:j=i
 ·subst c;rw[List.getElem?_set_self (bk.1 h1).1] at hj;cases hj;cases m' with
  | none=>cases hu'
  | some m=>
   cases hu';simp only[List.length_append,List.length_singleton];have:=hu j k u h1 h2;omega
 ·rw[List.getElem?_set_ne (fun h=>c h.symm)] at hj;have:=hu j k' u' hj hu';omega
theorem Cnt.pick{E:Env}{ps:List (List PC)}{s s':Sys}{x:Int}{n:Nat}(h:Cnt s n)(hp:gu E ps s x s'):Cnt s' (n+1):=by
 cases hp with
 | far=>exact h.up (Nat.le_succ _)
 | ended=>exact h.up (Nat.le_succ _)
 | step h1 h2 h3=>exact Cnt.stepR h3 h.tm (nlt h.ev (Nat.le_succ _)) h.times
 | @begin_ i k p c m _ h1 h2 h3 h4 h5 h6=>
  have hl:=(bk.1 h1).1;refine Cnt.stepR h6 h.tm (by have:=h.ev;simp[Sys.begun];omega) fun j k' u' hj hu'=>?_;simp only[Sys.begun] at hj;by_cases c:j=i
  ·subst c;rw[List.getElem?_set_self hl] at hj;cases hj;cases hu';exact Nat.zero_le _
  ·rw[List.getElem?_set_ne (fun h=>c h.symm)] at hj;exact h.times j k' u' hj hu'
 | none_=>exact h.up (Nat.le_succ _)
 | @drop x i k p hx h1 h2=>
  have hl:=(bk.1 h1).1;refine⟨Nat.le_succ_of_le h.tm,Nat.le_succ_of_le h.ev,fun j k' u' hj hu'=>?_⟩;simp only at hj;by_cases c:j=i
  ·subst c;rw[List.getElem?_set_self hl] at hj;cases hj;cases hu'
  ·rw[List.getElem?_set_ne (fun h=>c h.symm)] at hj;exact Nat.le_succ_of_le (h.times j k' u' hj hu')
theorem Inv.small{E:Env}{s:Sys}{n:Nat}(I:Inv E s none)(h:Cnt s n):∀sp∈E.spots,wat s.ws sp.seq≤2*n+1:=fun sp hsp=>by
 obtain⟨t,ht⟩:=mig.1 hsp;have h1:=I.cnt t sp ht;have h2:phi s.evs (onT t) s.time≤s.evs.length:=List.countP_le_length;have:=h.ev;omega
def ats(p:Ev→Bool)(l:List Ev)(b:Nat):List Nat:=(List.range (b+1)).filter fun a=>l.any fun e=>p e&&e.at_==a
def Dis(p:Ev→Bool)(l:List Ev):Prop:=∀(i j:Nat)(e e':Ev),l[i]?=some e→l[j]?=some e'→p e=true→p e'=true→e.at_=e'.at_→i=j
theorem mx{q:Ev→Bool}:∀{l:List Ev},(∀(i j:Nat)(e e':Ev),l[i]?=some e→l[j]?=some e'→q e=true→q e'=true→i=j)→l.countP q=(l.any q).toNat
 | [],_=>rfl
 | x::l,h=>by
  cases hx:q x
  ·rw[List.countP_cons_of_neg (by simp[hx]),List.any_cons,hx,Bool.false_or]
   exact mx fun i j e e' hi hj h1 h2=>by
    have:=h (i+1) (j+1) e e' (by simpa using hi) (by simpa using hj) h1 h2;omega
  ·have h0:l.countP q=0:=by
    rw[List.countP_eq_zero];intro e he hq;obtain⟨j,hj⟩:=mig.1 he;have:=h 0 (j+1) x e rfl (by simpa using hj) hx hq;omega
   rw[List.countP_cons_of_pos hx,h0,List.any_cons,hx]
   rfl
section
variable{p:Ev→Bool}{l:List Ev}{b c:Nat}
theorem qw:ats p l (b+1)=ats p l b++if (l.any fun e=>p e&&e.at_==b+1) then [b+1] else []:=by
 unfold ats;rw[List.range_succ,List.filter_append]
 congr 1
 rw[List.filter_cons,List.filter_nil]
theorem vu(h:∀e∈l,p e=true→1≤e.at_):ats p l 0=[]:=by
 unfold ats;rw[List.filter_eq_nil_iff];intro a ha;have ha:a=0:=by simpa using ha
 subst ha;simp only[List.any_eq_true,Bool.and_eq_true,beq_iff_eq,not_exists,not_and];intro e he hp h0;have:=h e he hp;omega
theorem b2k:(ats p l b).Pairwise (· < ·):=List.Pairwise.filter _ List.pairwise_lt_range
theorem c8c{x:Nat}(h:x∈ats p l b):x≤b∧∃e∈l,p e=true∧e.at_=x:=by
 unfold ats at h;rw[List.mem_filter,List.mem_range] at h;refine⟨by omega,?_⟩;obtain⟨e,he,h2⟩:=List.any_eq_true.1 h.2;simp only[Bool.and_eq_true,beq_iff_eq] at h2;exact⟨e,he,h2.1,h2.2⟩
theorem qx(r:Nat→Bool)(b:Nat):∀l:List Ev,(l.countP fun e=>p e&&r e.at_&&decide (e.at_≤b+1))=(l.countP fun e=>p e&&r e.at_&&decide (e.at_≤b))+l.countP fun e=>p e&&e.at_==b+1&&r (b+1)
 | []=>rfl
 | x::l=>by
  simp only[List.countP_cons,qx r b l]
  have:(if (p x&&r x.at_&&decide (x.at_≤b+1))=true then 1 else 0)=(if (p x&&r x.at_&&decide (x.at_≤b))=true then 1 else 0)+if (p x&&x.at_==b+1&&r (b+1))=true then 1 else 0:=by
   cases hp:p x
   ·simp
   ·by_cases h1:x.at_=b+1
    ·rw[h1];cases r (b+1)<;>simp
    ·have h2:(x.at_==b+1)=false:=by simpa using h1
     have h3:decide (x.at_≤b+1)=decide (x.at_≤b):=by
      by_cases h:x.at_≤b
      ·rw[dqt h,dqt (by omega:x.at_≤b+1)]
      ·rw[dqf h,dqf (by omega:¬ x.at_≤b+1)]
     rw[h2,h3];simp
  omega
theorem pm(h:Dis p l)(r:Nat→Bool):∀b:Nat,(ats p l b).countP r=l.countP fun e=>p e&&r e.at_&&decide (e.at_≤b)
 | 0=>by
  have h1:=mx (q:=fun e=>p e&&e.at_==0&&r 0) (l:=l) fun i j e e' hi hj h1 h2=>by
   simp only[Bool.and_eq_true,beq_iff_eq] at h1 h2;exact h i j e e' hi hj h1.1.1 h2.1.1 (by omega)
  have h2:(l.countP fun e=>p e&&r e.at_&&decide (e.at_≤0))=l.countP fun e=>p e&&e.at_==0&&r 0:=List.countP_congr fun e _=>by
   by_cases h0:e.at_=0
   ·rw[h0];simp
   ·simp[h0]
  rw[h2,h1];unfold ats;rw[show List.range (0+1)=[0] from rfl,List.filter_cons,List.filter_nil];cases hr:r 0
  ·have hf:(l.any fun _:Ev=>false)=false:=by rw[List.any_eq_false];intro _ _ h;cases h
   simp only[Bool.and_false,hf];cases (l.any fun e=>p e&&e.at_==0)<;>simp[hr]
  ·simp only[Bool.and_true];cases (l.any fun e=>p e&&e.at_==0)<;>simp[hr]
 | b+1=>by
  have h1:=mx (q:=fun e=>p e&&e.at_==b+1&&r (b+1)) (l:=l) fun i j e e' hi hj h1 h2=>by
   simp only[Bool.and_eq_true,beq_iff_eq] at h1 h2;exact h i j e e' hi hj h1.1.1 h2.1.1 (by omega)
  rw[qw,List.countP_append,pm h r b,qx,h1]
  congr 1
  cases hr:r (b+1)
  ·have hf:(l.any fun _:Ev=>false)=false:=by rw[List.any_eq_false];intro _ _ h;cases h
   simp only[Bool.and_false,hf];cases (l.any fun e=>p e&&e.at_==b+1)<;>simp[hr]
  ·simp only[Bool.and_true];cases (l.any fun e=>p e&&e.at_==b+1)<;>simp[hr]
theorem pp(h:Dis p l)(b:Nat):(ats p l b).length=l.countP fun e=>p e&&decide (e.at_≤b):=by
 have:=pm h (fun _=>true) b
 simpa using this
theorem b2l(hc:c≤b)(h:∀e∈l,p e=true→e.at_≤c∨b<e.at_):ats p l b=ats p l c:=by
 obtain⟨d,rfl⟩:=Nat.exists_eq_add_of_le hc;clear hc
 induction d with
 | zero=>rfl
 | succ d ih=>
  rw[←Nat.add_assoc,qw,ih fun e he hp=>by have:=h e he hp;omega]
  have:(l.any fun e=>p e&&e.at_==c+d+1)=false:=by
   rw[List.any_eq_false];intro e he h2;simp only[Bool.and_eq_true,beq_iff_eq] at h2;have:=h e he h2.1;omega
  rw[this];simp
theorem vw{e:Ev}(he:e∈l)(hp:p e=true)(hc:c<e.at_)(h:∀e'∈l,p e'=true→e'.at_≤c∨e.at_≤e'.at_):ats p l e.at_=ats p l c++[e.at_]:=by
 obtain⟨a,ha⟩:∃a,e.at_=a+1:=⟨e.at_-1,by omega⟩;rw[ha,qw,b2l (b:=a) (c:=c) (by omega) fun e' he' hp'=>by have:=h e' he' hp';omega];have:(l.any fun e=>p e&&e.at_==a+1)=true:=List.any_eq_true.2 ⟨e,he,by simp[hp,ha]⟩;rw[this];simp
theorem c0v{e:Ev}(he:e∈l)(hp:p e=true):∃a,ats p l e.at_=a++[e.at_]:=by
 cases ha:e.at_ with
 | zero=>
  refine⟨[],?_⟩;unfold ats;rw[show List.range (0+1)=[0] from rfl,List.filter_cons,List.filter_nil,if_pos]
  ·rfl
  ·exact List.any_eq_true.2 ⟨e,he,by simp[hp,ha]⟩
 | succ a=>
  refine⟨ats p l a,?_⟩;rw[qw,if_pos];exact List.any_eq_true.2 ⟨e,he,by simp[hp,ha]⟩
end
theorem vx{L:List Nat}{n t:Nat}(hs:L.Pairwise (· < ·))(hn:n≤L.length)(h1:∀(j x:Nat),j<n→L[j]?=some x→x≤t)(h2:∀x,L[n]?=some x→t<x):L.countP (fun x=>decide (x≤t))=n:=by
 induction L generalizing n with
 | nil=>simp at hn;subst hn;rfl
 | cons y L ih=>
  rw[List.pairwise_cons] at hs;cases n with
  | zero=>
   have hy:=h2 y rfl;rw[List.countP_eq_zero];intro x hx;rcases List.mem_cons.1 hx with rfl|hx
   ·simpa using hy
   ·have:=hs.1 x hx;simp;omega
  | succ n=>
   have hy:=h1 0 y (by omega) rfl;rw[List.countP_cons_of_pos (by simpa using hy),ih hs.2 (by simpa using hn) (fun j x hj hx=>h1 (j+1) x (by omega) (by simpa using hx)) (fun x hx=>h2 x (by simpa using hx))]
def ofT(k:Nat)(e:Ev):Bool:=de e&&onT k e.topic
theorem b6r(l:List Ev)(k b:Nat):(l.countP fun e=>ofT k e&&decide (e.at_≤b))=phi l (onT k) b:=rfl
theorem Dis.ofT{l:List Ev}(h:Dis de l)(k:Nat):Dis (ofT k) l:=fun i j e e' hi hj h1 h2=>by
 unfold Go.Proofs.YtojkaibpfdhmaaaGreatDoor.ofT at h1 h2;rw[Bool.and_eq_true] at h1 h2;exact h i j e e' hi hj h1.1 h2.1
def m6(e:Ev)(k:Nat)(x:Int):Bool:=inE e x&&decide (0≤x∧x<k)
theorem b2m(l:List Ev)(e:Ev)(k b:Nat):phi l (m6 e (k+1)) b=phi l (m6 e k) b+if inE e k then phi l (onT k) b else 0:=by
 unfold phi
 induction l with
 | nil=>simp
 | cons x l ih=>
  simp only[List.countP_cons,ih]
  have:(if m5 (m6 e (k+1)) b x=true then 1 else 0)=(if m5 (m6 e k) b x=true then 1 else 0)+if inE e k then (if m5 (onT k) b x=true then 1 else 0) else 0:=by
   unfold m5 m6 onT;by_cases hk:x.topic=k
   ·rw[hk];have h3:decide (0≤(k:Int)∧(k:Int)<((k+1:Nat):Int))=true:=dqt (by omega);have h4:decide (0≤(k:Int)∧(k:Int)<(k:Int))=false:=dqf (by omega);rw[h3,h4];cases de x<;>cases inE e k<;>simp
   ·have h1:decide (0≤x.topic∧x.topic<((k+1:Nat):Int))=decide (0≤x.topic∧x.topic<(k:Int)):=by
     by_cases h:0≤x.topic∧x.topic<(k:Int)
     ·rw[dqt h,dqt (by omega)]
     ·rw[dqf h,dqf (by omega)]
    rw[h1,dqf hk];simp
  rw[this]
  split<;>omega
theorem b8e(l:List Ev)(e:Ev)(b:Nat):phi l (m6 e 0) b=0:=by
 unfold phi;rw[List.countP_eq_zero];intro x _ h;unfold m5 m6 at h;simp only[Bool.and_eq_true,decide_eq_true_eq] at h;omega
theorem qy{l:List Ev}{e:Ev}{K b:Nat}(h:∀x∈l,de x=true→∃t:Nat,x.topic=t∧t<K):phi l (m6 e K) b=phi l (inE e) b:=by
 refine List.countP_congr fun x hx=>?_;unfold m5 m6;cases ho:de x
 ·simp
 ·obtain⟨t,h1,h2⟩:=h x hx ho;have:decide (0≤x.topic∧x.topic<(K:Int))=true:=by rw[decide_eq_true_eq];omega
  rw[this,Bool.and_true]
def lm(p:Ev→Bool)(l:List Ev)(c i:Nat)(k:Int):Prop:=
 (k = -1∧∀(j:Nat)(e:Ev),j<i→l[j]?=some e→p e=true→e.at_≤c) ∨
 ∃(m:Nat)(e0:Ev),k=m∧m<i∧l[m]?=some e0∧p e0=true∧c<e0.at_∧∀(j:Nat)(e:Ev),j<i→l[j]?=some e→p e=true→e.at_≤c∨e0.at_≤e.at_
section
variable{p:Ev→Bool}{l:List Ev}{c i:Nat}{k:Int}{e:Ev}
theorem lm.zero:lm p l c 0 (-1):=Or.inl ⟨rfl,fun j e h=>by omega⟩
theorem lm.keep(h:lm p l c i k)(he:l[i]?=some e)(hn:p e=true→c<e.at_→∃(m:Nat)(e0:Ev),k=m∧l[m]?=some e0∧e0.at_≤e.at_):lm p l c (i+1) k:=by
 rcases h with ⟨h1,h2⟩|⟨m,e0,h1,h2,h3,h4,h5,h6⟩
 ·refine Or.inl ⟨h1,fun j e' hj hl hp=>?_⟩;by_cases hji:j=i
  ·subst hji;rw[he] at hl;cases hl;rcases Nat.lt_or_ge c e.at_ with hc|hc
   ·obtain⟨m,e0,h3,_⟩:=hn hp hc;omega
   ·exact hc
  ·exact h2 j e' (by omega) hl hp
 ·refine Or.inr ⟨m,e0,h1,by omega,h3,h4,h5,fun j e' hj hl hp=>?_⟩;by_cases hji:j=i
  ·subst hji;rw[he] at hl;cases hl;rcases Nat.lt_or_ge c e.at_ with hc|hc
   ·obtain⟨m',e0',h7,h8,h9⟩:=hn hp hc;have:m'=m:=by omega
    subst this;rw[h3] at h8;cases h8;exact Or.inr h9
   ·exact Or.inl hc
  ·exact h6 j e' (by omega) hl hp
theorem lm.take(h:lm p l c i k)(he:l[i]?=some e)(hp:p e=true)(hc:c<e.at_)(hn:k = -1∨∃(m:Nat)(e0:Ev),k=m∧l[m]?=some e0∧e.at_≤e0.at_):lm p l c (i+1) i:=by
 refine Or.inr ⟨i,e,rfl,by omega,he,hp,hc,fun j e' hj hl hp'=>?_⟩;by_cases hji:j=i
 ·subst hji;rw[he] at hl;cases hl;exact Or.inr (nlr _)
 ·rcases h with ⟨h1,h2⟩|⟨m,e0,h1,h2,h3,h4,h5,h6⟩
  ·exact Or.inl (h2 j e' (by omega) hl hp')
  ·rcases hn with h7|⟨m',e0',h7,h8,h9⟩
   ·omega
   ·have:m'=m:=by omega
    subst this;rw[h3] at h8;cases h8;have:=h6 j e' (by omega) hl hp';omega
end
def vy(p:Ev→Bool)(l:List Ev)(n c:Nat):Prop:=(l.countP fun e=>p e&&decide (e.at_≤c))=n∧(c=0∨∃e∈l,p e=true∧e.at_=c)
def vz(p:Ev→Bool)(l:List Ev)(c:Nat):Prop:=∀e∈l,p e=true→e.at_≤c
section
variable{p:Ev→Bool}{l:List Ev}{n c:Nat}
theorem vy.zero(h:∀e∈l,p e=true→1≤e.at_):vy p l 0 0:=⟨by
 rw[List.countP_eq_zero];intro e he h2;simp only[Bool.and_eq_true,decide_eq_true_eq] at h2;have:=h e he h2.1;omega,Or.inl rfl⟩
theorem vy.full(h:vy p l l.length c):vz p l c:=fun e he _=>by
 have:=(List.countP_eq_length.1 h.1) e he;simp only[Bool.and_eq_true,decide_eq_true_eq] at this;exact this.2
theorem lm.full(h:lm p l c l.length (-1)):vz p l c:=fun e he hp=>by
 rcases h with ⟨_,h2⟩|⟨m,e0,h1,_⟩
 ·obtain⟨j,hj⟩:=mig.1 he;exact h2 j e (bk.1 hj).1 hj hp
 ·omega
theorem lm.some{m:Nat}(h:lm p l c l.length m):∃e0,l[m]?=some e0∧p e0=true∧c<e0.at_∧∀e∈l,p e=true→e.at_≤c∨e0.at_≤e.at_:=by
 rcases h with ⟨h1,_⟩|⟨m',e0,h1,h2,h3,h4,h5,h6⟩
 ·omega
 ·have:m'=m:=by omega
  subst this;refine⟨e0,h3,h4,h5,fun e he hp=>?_⟩;obtain⟨j,hj⟩:=mig.1 he;exact h6 j e (bk.1 hj).1 hj hp
theorem vy.next{e0:Ev}(hd:Dis p l)(h:vy p l n c)(he:e0∈l)(hp:p e0=true)(hc:c<e0.at_)(hl:∀e∈l,p e=true→e.at_≤c∨e0.at_≤e.at_):vy p l (n+1) e0.at_:=by
 refine⟨?_,Or.inr ⟨e0,he,hp,rfl⟩⟩;rw[←pp hd,vw he hp hc hl,List.length_append,pp hd,h.1]
 rfl
end
theorem vz.phi{l:List Ev}{c:Nat}(h:vz de l c)(hd:Dis de l)(k t:Nat):(ats (ofT k) l c).countP (fun x=>decide (x≤t))=phi l (onT k) t:=by
 rw[pm (hd.ofT k),←b6r];refine List.countP_congr fun e he=>?_;cases ho:ofT k e
 ·simp
 ·have:de e=true:=by
   unfold ofT at ho;rw[Bool.and_eq_true] at ho;exact ho.1
  have:=h e he this;simp;omega
theorem vz.tcnt{l:List Ev}{c:Nat}(h:vz dx l c)(hd:Dis dx l)(a b:Nat):(ats dx l c).countP (fun x=>decide (a<x∧x≤b))=np l a b:=by
 rw[pm hd];refine List.countP_congr fun e he=>?_;unfold tcP;cases ho:dx e
 ·simp
 ·have:=h e he ho;simp;omega
theorem tw{l:List Ev}{c t k:Nat}{e0:Ev}(hd:Dis de l)(he:e0∈l)(hp:de e0=true)(ht:e0.topic=t)(hc:c<e0.at_)(hl:∀e∈l,de e=true→e.at_≤c∨e0.at_≤e.at_):ats (ofT k) l e0.at_=ats (ofT k) l c++if k=t then [e0.at_] else []:=by
 by_cases hk:k=t
 ·subst hk;rw[if_pos rfl,vw he (by simp[ofT,onT,hp,ht]) hc fun e' he' hp'=>hl e' he' (by unfold ofT at hp';rw[Bool.and_eq_true] at hp';exact hp'.1)]
 ·rw[if_neg hk,List.append_nil];refine b2l (by omega) fun e' he' hp'=>?_;unfold ofT at hp';rw[Bool.and_eq_true] at hp';rcases hl e' he' hp'.1 with h|h
  ·exact Or.inl h
  ·refine Or.inr (Nat.lt_of_le_of_ne h fun hE=>hk ?_);obtain⟨i,hi⟩:=mig.1 he;obtain⟨j,hj⟩:=mig.1 he';have:=hd i j e0 e' hi hj hp hp'.1 hE;subst this;rw[hi] at hj;cases hj;have:=hp'.2;simp[onT,ht] at this;omega
end Go.Proofs.YtojkaibpfdhmaaaGreatDoor

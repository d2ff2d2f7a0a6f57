/- Contracts of package log (writing), of plan's Entry, of arbiter's Got. -/
import Derived.Test.YtojkaibpfdhmaaaGreatDoorP12
import Derived.Test.YtojkaibpfdhmaaaGreatDoorP00
namespace Go.Proofs.YtojkaibpfdhmaaaGreatDoor
open Go.RowKit
set_option maxRecDepth 100000
set_option maxHeartbeats 16000000
section
theorem c1i:Tryz.prog.underlying 237=some (.func #[43] #[43,40] false):=by kernel_rfl
theorem o3{P:Program}(W:World)(d:Nat)(t:TypeId){ps rs:Array TypeId}{v:Bool}(fn:Fn)(fi ca:Array Value)(h:P.underlying t=some (.func ps rs v)):(Op.equalIn (d+1) t (.func fn fi ca) .nilFunc).run P W=.ok false W:=by
 simp[Op.equalIn,run_underlying h]
theorem qb{P:Program}(W:World)(d:Nat)(t:TypeId){ps rs:Array TypeId}{v:Bool}(h:P.underlying t=some (.func ps rs v)):(Op.equalIn (d+1) t .nilFunc .nilFunc).run P W=.ok true W:=by
 simp[Op.equalIn,run_underlying h]
theorem b2q(W:World)(fn:Fn)(fi ca:Array Value):(binOp .eql 237 (.func fn fi ca) .nilFunc).run Tryz.prog W=.ok (.bool false) W:=by
 have h:(Op.equal 237 (.func fn fi ca) .nilFunc).run Tryz.prog W=.ok false W:=o3 W 9999 237 fn fi ca c1i;simp only[binOp];simp[h]
theorem b4u(W:World):(binOp .eql 237 .nilFunc .nilFunc).run Tryz.prog W=.ok (.bool true) W:=by
 have h:(Op.equal 237 .nilFunc .nilFunc).run Tryz.prog W=.ok true W:=qb W 9999 237 c1i;simp only[binOp];simp[h]
attribute [local go_sem] b2q b4u
def c7k(w:World)(f b:Nat):Prop:=∀(m s:Int)(h:Bool)(fl:Int)(e:Nat)(W:World),Below w.heap.size w W →
  Calls Tryz.prog f #[.agg #[ci m,ci s,.bool h,ci fl,cu e],pt b] W fun e w'=>(∃(tm ts:Int)(th:Bool)(tf:Int)(te:Nat)(er:Int),js er∧e=.returned (.tuple #[.agg #[ci tm,ci ts,.bool th,ci tf,cu te],ci er]))∧Below W.heap.size W w'
theorem Dec.call{w:World}{v:Value}(h:Dec w v)(H:jj w):v=.nilFunc∨(∃b,v=.func (.func 144) #[] #[pt b]∧c7k w 144 b)∨∃b,v=.func (.func 146) #[] #[pt b]∧c7k w 146 b:=by
 rcases h with h|⟨b,a,h1,h2⟩|⟨b,fl,h1,h2⟩
 ·exact Or.inl h
 ·refine Or.inr (Or.inl ⟨b,h1,fun m s h f e W hb=>(b4v ⟨m,s,h,f,e⟩ W b a (h2.bel hb) (H.bel hb)).mono ?_⟩);rintro e w' ⟨⟨s,er,her,rfl⟩,hb'⟩;exact⟨⟨s.m,s.s,s.h,s.f,s.e,er,her,rfl⟩,hb'⟩
 ·refine Or.inr (Or.inr ⟨b,h1,fun m s h f e W hb=>(b8g ⟨m,s,h,f,e⟩ W b fl (h2.bel hb)).mono ?_⟩);rintro e w' ⟨⟨s,er,her,rfl⟩,hb'⟩;exact⟨⟨s.m,s.s,s.h,s.f,s.e,er,her,rfl⟩,hb'⟩
theorem b4w(x:Nat)(w:World):Calls Tryz.prog 187 #[cu x] w fun e w'=>∃(m s:Int)(h:Bool)(f:Int)(ep:Nat)(er:Int),(er=0∨er=11)∧e=.returned (.tuple #[.agg #[ci m,ci s,.bool h,ci f,cu ep],ci er])∧Below w.heap.size w w':=by
 refine(b8h x w).mono ?_;rintro e w' ⟨s,er,h1,rfl,h2⟩;exact⟨s.m,s.s,s.h,s.f,s.e,er,h1,rfl,h2⟩
theorem c1j(w:World)(P:Nat)(o:AOp)(x:Nat)(hr:Row w P 239 o.cells)(hd:Dec w o.dec)(H:jj w):Calls Tryz.prog 148 #[pt P,cu x] w fun e w'=>(∃(s:St)(er:Int),js er∧e=.returned (ci 1)∧ab [P] w w'∧Row w' P 239 (AOp.cells {o with how:=1,state:=s,err:=er}))∨(∃t:St,o.dec≠.nilFunc∧e=.returned (ci 0)∧ab [P] w w'∧Row w' P 239 (AOp.cells {o with word:=x,next:=t,swaps:=true})):=by
 have hend:=fun W (m q:Int) (h:Bool) (f:Int) (ep:Nat) er (hh:Row W P 239 o.cells)=>b0d (hw':=1) (hw:=1) rfl ⟨m,q,h,f,ep⟩ er hh;have hdc:=hd.call H;obtain⟨at_,lf,dec,sw,wd,⟨nm,ns,nh,nf,ne⟩,how,⟨sm,ss,sh,sf,se⟩,err,st⟩:=o;simp only[AOp.cells,St.cells] at *;have HR:=qh hr;have HDC:=qh hdc;clear hr hd hdc H
 go_enter Tryz.func148,Tryz.ntmps148
 go_wp2_with fail;refine(b4w x w).mono ?_;rintro e w_ ⟨ym,ys,yh,yf,ye,er,her,rfl,hb⟩;have B2:=qh (af hb (.cells #[ci ym,ci ys,.bool yh,ci yf,cu ye] 43));have R2:=qh (Row.new w_ 43 #[ci ym,ci ys,.bool yh,ci yf,cu ye]);have HR2:=qh (HR.o.bel B2.o);have hYl:=R2.o.lt;have hPl:=HR.o.lt;have hPY:P<w_.heap.size:=Nat.lt_of_lt_of_le hPl hb.size;clear hb;rcases her with rfl|rfl
 ·rcases HDC.o with rfl|⟨b,rfl,hcall⟩|⟨b,rfl,hcall⟩
  ·have c2:=HR2.k 2;obtain⟨d0,d1,d2,d3,d4⟩:=R2.o.c5;go_wp2_with fail;refine(hend _ ym ys yh yf ye 0 (HR2.o)).mono ?_;rintro e w3 ⟨rfl,hs3,hr3⟩;go_wp2;go_ret;exact Or.inl ⟨⟨ym,ys,yh,yf,ye⟩,0,⟨by decide,by decide⟩,rfl,(ab.of_below B2.o).then hs3 (fun y hy _=>hy),hr3⟩
  ·have c2:=HR2.k 2;clear HDC;go_wp2_with fail;clear c2;generalize w_.heap.size=Bk at *;generalize w_.alloc (.cells #[ci ym,ci ys,.bool yh,ci yf,cu ye] 43)=w2 at *;have hU:Ups (fun W W'=>∃g:ag W,W'=g.to) (fun W=>Below w2.heap.size w2 W):=dj fun h hb=>bt h hb;have hC0:=(brf w2).drew;refine tx 9 (some 7) w2 43 #[ci 0,ci 0,.bool false,ci 0,cu 0] hU hC0 ?_ ?_
   ·intro K a W hCW hK;unfold wpOp;go_simp;exact Or.inl (hK _ _ (af (Below.refl _ W) _) ⟨hCW.size,Row.new W 43 _⟩)
   intro S;refine ao S hU [0,1,2,3,4] 52 7 hC0 ?_;constructor
   ·intro W' hW';simp only[pick,List.filterMap,gq1,gq2,gq3];have c2:=ag.cell ((HR2.o.bel hW').k 2);obtain⟨d0,d1,d2,d3,d4⟩:=(R2.o.bel hW').c5;have e0:=ag.cell d0;have e1:=ag.cell d1;have e2:=ag.cell d2;have e3:=ag.cell d3;have e4:=ag.cell d4;clear d0 d1 d2 d3 d4
    repeat (go_big_quiet_step (fail))
    exact wpQuiet_nil rfl
   refine b2r S hU 5 6 rfl ?_;intro W1 hrW1 K1 hK1;have hcW1:=bt hC0 (a7 hrW1);go_wp2_with fail;refine(hcall ym ys yh yf ye W1 (bt B2.o hcW1)).mono ?_;rintro e w4 ⟨⟨tm,ts,th,tf,te,er,her,rfl⟩,hb4⟩;go_wp2_with fail;have hC4:=bt hcW1 hb4;refine hK1 _ _ hC4 (fun _ p hp=>⟨hp.1,hp.2.bel hb4⟩) ?_;clear hK1 hb4 hcW1 hrW1 hC0 hcall;refine ao S hU [6,7,8] 52 3 hC4 ?_;constructor
   ·intro W' hW';simp only[pick,List.filterMap,gq1,gq2,gq3]
    repeat (go_big_quiet_step (fail))
    exact wpQuiet_nil rfl
   refine ip hU 2 _ _ _ (by kernel_rfl) hC4 (fun p W' hr hc hp=>?_);refine kf S hU (C':=fun W=>Below w2.heap.size w2 W∧w2.heap.size≤p∧Row W p 43 #[ci tm,ci ts,.bool th,ci tf,cu te]) (fun W h=>h.1) 10 _ 1 _ _ _ rfl (by kernel_rfl) (by kernel_rfl) hc ?_;intro W1 hrW1 hcW1 K1 hK1;have hp2:=hp.2.bel (a7 hrW1);have hpl:=hp.1;obtain⟨d0,d1,d2,d3,d4⟩:=hp2.c5;have df:=hp2.free;have HP2:=qh hp2;have HC2:=qh hcW1;clear hp2 hp hc hC4 hrW1 hcW1 hr;go_wp2;have HR3:=(((((HP2.o.set 0 (ci tm)).set 1 (ci ts)).set 2 (.bool th)).set 3 (ci tf)).set 4 (cu te)).to (cs':=#[ci tm,ci ts,.bool th,ci tf,cu te]) rfl;have HB3:=em HC2.o hpl (ci tm) (ci ts) (.bool th) (ci tf) (cu te);refine hK1 _ _ ⟨HB3,hpl,HR3⟩ ?_;clear hK1 d0 d1 d2 d3 d4 df HP2 HC2
   generalize (((((W1.setCell ⟨p,0,none⟩ (ci tm)).setCell ⟨p,1,none⟩ (ci ts)).setCell ⟨p,2,none⟩ (.bool th)).setCell ⟨p,3,none⟩ (ci tf)).setCell ⟨p,4,none⟩ (cu te))=w5 at *;have hU2:Ups (fun W W'=>∃g:ag W,W'=g.to) (fun W=>Below w2.heap.size w2 W∧w2.heap.size≤p∧Row W p 43 #[ci tm,ci ts,.bool th,ci tf,cu te]):=dj fun h hb=>⟨bt h.1 hb,h.2.1,h.2.2.bel hb⟩;refine pq S hU2 [11] 52 0 _ _ _ (by kernel_rfl) (by kernel_rfl) rfl ⟨HB3,hpl,HR3⟩ ?_;apply Exists.intro;refine⟨fun W' hW'=>?_,?_⟩
   ·unfold pick;simp only[List.filterMap,List.getElem?_toArray,List.getElem?_cons_succ,List.getElem?_cons_zero]
    repeat (go_big_quiet_step (fail))
    exact wpQuiet_nil rfl
   refine jt ?_;intro w6 hrw6;refine NoPanic.normal ?_;have hb6:=a7 hrw6;have B6:=qh (bt HB3 hb6);have R6:=qh (HR3.bel hb6);clear hrw6 hb6 HR3 HB3 S hU hU2;have HR6:=qh (HR2.o.bel B6.o);have Y6:=qh (R2.o.bel B6.o);have BB:=qh (bt B2.o B6.o);obtain⟨d0,d1,d2,d3,d4⟩:=Y6.o.c5;go_wp2_with fail
   ·refine(hend _ ym ys yh yf ye er HR6.o).mono ?_;rintro e w3 ⟨rfl,hs3,hr3⟩;go_wp2;go_ret;exact Or.inl ⟨⟨ym,ys,yh,yf,ye⟩,er,her,rfl,(ab.of_below BB.o).then hs3 (fun y hy _=>hy),hr3⟩
   ·clear d0 d1 d2 d3 d4 Y6 R2 HR2 B2 B6 HR;have hPp:p≠P:=by omega
    have HS:=qh (ab.of_below (M:=[P]) BB.o);have HN:=R6.o;clear BB R6 hend;have HR6a:=qh HR6.o.drew;have HSa:=qh HS.o.drew;have hU:UD (fun W=>Row W p 43 #[ci tm,ci ts,.bool th,ci tf,cu te]):=al fun W n h=>h.drewN n;have hCa:(fun W=>Row W p 43 #[ci tm,ci ts,.bool th,ci tf,cu te]) w6.drew:=HN.drew;refine ei _ aj _ hU hCa (by kernel_rfl) (by kernel_rfl) ?_;intro S;generalize w6.drew=wa at *;clear HR6 HS;clear HN;refine ao S hU [0,1,2,3,4,5,6] 52 7 hCa ?_;constructor
    ·intro W' hW';simp only[pick,List.filterMap,gq1,gq2,gq3];obtain⟨b0,b1,b2,b3,b4⟩:=hW'.c5
     repeat (go_big_quiet_step (fail))
     exact wpQuiet_nil rfl
    refine iy S hU 7 6 rfl hCa ?_;intro W1 hrW1 hcW1 K1 hK1;obtain⟨n1,rfl⟩:=hrW1;clear hcW1;have c4:=HR6a.k 4;have fr:=HR6a.o.free;go_wp2_with fail;refine hK1 _ _ ((hCa.drewN n1).ot hPp 4 _) ?_;clear hK1;have hCawb:(fun W=>Row W p 43 #[ci tm,ci ts,.bool th,ci tf,cu te]) ((wa.drewN n1).setCell ⟨P,4,none⟩ (cu x)):=(hCa.drewN n1).ot hPp 4 _;have HRb:=qh (((HR6a.o.drewN n1).set 4 (cu x)).to (cs':=#[ci at_,ci lf,.func (.func 144) #[] #[pt b],.bool sw,cu x,ci nm,ci ns,.bool nh,ci nf,cu ne,ci how,ci sm,ci ss,.bool sh,ci sf,cu se,ci err,ci st]) rfl);have HSb:=qh ((HSa.o.drewN n1).sc P 4 (cu x));generalize ((wa.drewN n1).setCell ⟨P,4,none⟩ (cu x))=wb at *;clear c4 fr HR6a HSa hCa;refine ao S hU [8,9] 52 4 hCawb ?_;constructor
    ·intro W' hW';simp only[pick,List.filterMap,gq1,gq2,gq3]
     repeat (go_big_quiet_step (fail))
     exact wpQuiet_nil rfl
    refine iy S hU 10 3 rfl hCawb ?_;intro W1 hrW1 hcW1 K1 hK1;obtain⟨n1,rfl⟩:=hrW1;clear hcW1;have c5:=HRb.k 5;have c6:=HRb.k 6;have c7:=HRb.k 7;have c8:=HRb.k 8;have c9:=HRb.k 9;have fr:=HRb.o.free;go_wp2_with fail;refine hK1 _ _ ((((((hCawb.drewN n1).ot hPp 5 _).ot hPp 6 _).ot hPp 7 _).ot hPp 8 _).ot hPp 9 _) ?_;clear hK1;have hCawbwc:(fun W=>Row W p 43 #[ci tm,ci ts,.bool th,ci tf,cu te]) ((((((wb.drewN n1).setCell ⟨P,5,none⟩ (ci tm)).setCell ⟨P,6,none⟩ (ci ts)).setCell ⟨P,7,none⟩ (.bool th)).setCell ⟨P,8,none⟩ (ci tf)).setCell ⟨P,9,none⟩ (cu te)):=(((((hCawb.drewN n1).ot hPp 5 _).ot hPp 6 _).ot hPp 7 _).ot hPp 8 _).ot hPp 9 _
    have HRc:=qh (((((((HRb.o.drewN n1).set 5 (ci tm)).set 6 (ci ts)).set 7 (.bool th)).set 8 (ci tf)).set 9 (cu te)).to (cs':=#[ci at_,ci lf,.func (.func 144) #[] #[pt b],.bool sw,cu x,ci tm,ci ts,.bool th,ci tf,cu te,ci how,ci sm,ci ss,.bool sh,ci sf,cu se,ci err,ci st]) rfl);have HSc:=qh ((((((HSb.o.drewN n1).sc P 5 (ci tm)).sc P 6 (ci ts)).sc P 7 (.bool th)).sc P 8 (ci tf)).sc P 9 (cu te));generalize ((((((wb.drewN n1).setCell ⟨P,5,none⟩ (ci tm)).setCell ⟨P,6,none⟩ (ci ts)).setCell ⟨P,7,none⟩ (.bool th)).setCell ⟨P,8,none⟩ (ci tf)).setCell ⟨P,9,none⟩ (cu te))=wc at *;clear c5 c6 c7 c8 c9 fr HRb HSb hCawb;refine ao S hU [11,12] 52 1 hCawbwc ?_;constructor
    ·intro W' hW';simp only[pick,List.filterMap,gq1,gq2,gq3]
     repeat (go_big_quiet_step (fail))
     exact wpQuiet_nil rfl
    refine iy S hU 13 0 rfl hCawbwc ?_;intro W1 hrW1 hcW1 K1 hK1;obtain⟨n1,rfl⟩:=hrW1;clear hcW1;have c3:=HRc.k 3;have fr:=HRc.o.free;go_wp2_with fail;refine hK1 _ _ ((hCawbwc.drewN n1).ot hPp 3 _) ?_;clear hK1;have hCawbwcwd_:(fun W=>Row W p 43 #[ci tm,ci ts,.bool th,ci tf,cu te]) ((wc.drewN n1).setCell ⟨P,3,none⟩ (.bool true)):=(hCawbwc.drewN n1).ot hPp 3 _;have HRd:=qh (((HRc.o.drewN n1).set 3 (.bool true)).to (cs':=#[ci at_,ci lf,.func (.func 144) #[] #[pt b],.bool true,cu x,ci tm,ci ts,.bool th,ci tf,cu te,ci how,ci sm,ci ss,.bool sh,ci sf,cu se,ci err,ci st]) rfl);have HSd:=qh ((HSc.o.drewN n1).sc P 3 (.bool true));generalize ((wc.drewN n1).setCell ⟨P,3,none⟩ (.bool true))=wd_ at *;clear c3 fr HRc HSc;refine jt ?_;intro w9 hrw9;refine NoPanic.normal ?_;obtain⟨n9,rfl⟩:=hrw9;go_wp2;go_ret;exact Or.inr ⟨⟨tm,ts,th,tf,te⟩,(fun h=>by cases h),rfl,HSd.o.drewN n9,HRd.o.drewN n9⟩
  ·have c2:=HR2.k 2;clear HDC;go_wp2_with fail;clear c2;generalize w_.heap.size=Bk at *;generalize w_.alloc (.cells #[ci ym,ci ys,.bool yh,ci yf,cu ye] 43)=w2 at *;have hU:Ups (fun W W'=>∃g:ag W,W'=g.to) (fun W=>Below w2.heap.size w2 W):=dj fun h hb=>bt h hb;have hC0:=(brf w2).drew;refine tx 9 (some 7) w2 43 #[ci 0,ci 0,.bool false,ci 0,cu 0] hU hC0 ?_ ?_
   ·intro K a W hCW hK;unfold wpOp;go_simp;exact Or.inl (hK _ _ (af (Below.refl _ W) _) ⟨hCW.size,Row.new W 43 _⟩)
   intro S;refine ao S hU [0,1,2,3,4] 52 7 hC0 ?_;constructor
   ·intro W' hW';simp only[pick,List.filterMap,gq1,gq2,gq3];have c2:=ag.cell ((HR2.o.bel hW').k 2);obtain⟨d0,d1,d2,d3,d4⟩:=(R2.o.bel hW').c5;have e0:=ag.cell d0;have e1:=ag.cell d1;have e2:=ag.cell d2;have e3:=ag.cell d3;have e4:=ag.cell d4;clear d0 d1 d2 d3 d4
    repeat (go_big_quiet_step (fail))
    exact wpQuiet_nil rfl
   refine b2r S hU 5 6 rfl ?_;intro W1 hrW1 K1 hK1;have hcW1:=bt hC0 (a7 hrW1);go_wp2_with fail;refine(hcall ym ys yh yf ye W1 (bt B2.o hcW1)).mono ?_;rintro e w4 ⟨⟨tm,ts,th,tf,te,er,her,rfl⟩,hb4⟩;go_wp2_with fail;have hC4:=bt hcW1 hb4;refine hK1 _ _ hC4 (fun _ p hp=>⟨hp.1,hp.2.bel hb4⟩) ?_;clear hK1 hb4 hcW1 hrW1 hC0 hcall;refine ao S hU [6,7,8] 52 3 hC4 ?_;constructor
   ·intro W' hW';simp only[pick,List.filterMap,gq1,gq2,gq3]
    repeat (go_big_quiet_step (fail))
    exact wpQuiet_nil rfl
   refine ip hU 2 _ _ _ (by kernel_rfl) hC4 (fun p W' hr hc hp=>?_);refine kf S hU (C':=fun W=>Below w2.heap.size w2 W∧w2.heap.size≤p∧Row W p 43 #[ci tm,ci ts,.bool th,ci tf,cu te]) (fun W h=>h.1) 10 _ 1 _ _ _ rfl (by kernel_rfl) (by kernel_rfl) hc ?_;intro W1 hrW1 hcW1 K1 hK1;have hp2:=hp.2.bel (a7 hrW1);have hpl:=hp.1;obtain⟨d0,d1,d2,d3,d4⟩:=hp2.c5;have df:=hp2.free;have HP2:=qh hp2;have HC2:=qh hcW1;clear hp2 hp hc hC4 hrW1 hcW1 hr;go_wp2;have HR3:=(((((HP2.o.set 0 (ci tm)).set 1 (ci ts)).set 2 (.bool th)).set 3 (ci tf)).set 4 (cu te)).to (cs':=#[ci tm,ci ts,.bool th,ci tf,cu te]) rfl;have HB3:=em HC2.o hpl (ci tm) (ci ts) (.bool th) (ci tf) (cu te);refine hK1 _ _ ⟨HB3,hpl,HR3⟩ ?_;clear hK1 d0 d1 d2 d3 d4 df HP2 HC2
   generalize (((((W1.setCell ⟨p,0,none⟩ (ci tm)).setCell ⟨p,1,none⟩ (ci ts)).setCell ⟨p,2,none⟩ (.bool th)).setCell ⟨p,3,none⟩ (ci tf)).setCell ⟨p,4,none⟩ (cu te))=w5 at *;have hU2:Ups (fun W W'=>∃g:ag W,W'=g.to) (fun W=>Below w2.heap.size w2 W∧w2.heap.size≤p∧Row W p 43 #[ci tm,ci ts,.bool th,ci tf,cu te]):=dj fun h hb=>⟨bt h.1 hb,h.2.1,h.2.2.bel hb⟩;refine pq S hU2 [11] 52 0 _ _ _ (by kernel_rfl) (by kernel_rfl) rfl ⟨HB3,hpl,HR3⟩ ?_;apply Exists.intro;refine⟨fun W' hW'=>?_,?_⟩
   ·unfold pick;simp only[List.filterMap,List.getElem?_toArray,List.getElem?_cons_succ,List.getElem?_cons_zero]
    repeat (go_big_quiet_step (fail))
    exact wpQuiet_nil rfl
   refine jt ?_;intro w6 hrw6;refine NoPanic.normal ?_;have hb6:=a7 hrw6;have B6:=qh (bt HB3 hb6);have R6:=qh (HR3.bel hb6);clear hrw6 hb6 HR3 HB3 S hU hU2;have HR6:=qh (HR2.o.bel B6.o);have Y6:=qh (R2.o.bel B6.o);have BB:=qh (bt B2.o B6.o);obtain⟨d0,d1,d2,d3,d4⟩:=Y6.o.c5;go_wp2_with fail
   ·refine(hend _ ym ys yh yf ye er HR6.o).mono ?_;rintro e w3 ⟨rfl,hs3,hr3⟩;go_wp2;go_ret;exact Or.inl ⟨⟨ym,ys,yh,yf,ye⟩,er,her,rfl,(ab.of_below BB.o).then hs3 (fun y hy _=>hy),hr3⟩
   ·clear d0 d1 d2 d3 d4 Y6 R2 HR2 B2 B6 HR;have hPp:p≠P:=by omega
    have HS:=qh (ab.of_below (M:=[P]) BB.o);have HN:=R6.o;clear BB R6 hend;have HR6a:=qh HR6.o.drew;have HSa:=qh HS.o.drew;have hU:UD (fun W=>Row W p 43 #[ci tm,ci ts,.bool th,ci tf,cu te]):=al fun W n h=>h.drewN n;have hCa:(fun W=>Row W p 43 #[ci tm,ci ts,.bool th,ci tf,cu te]) w6.drew:=HN.drew;refine ei _ aj _ hU hCa (by kernel_rfl) (by kernel_rfl) ?_;intro S;generalize w6.drew=wa at *;clear HR6 HS;clear HN;refine ao S hU [0,1,2,3,4,5,6] 52 7 hCa ?_;constructor
    ·intro W' hW';simp only[pick,List.filterMap,gq1,gq2,gq3];obtain⟨b0,b1,b2,b3,b4⟩:=hW'.c5
     repeat (go_big_quiet_step (fail))
     exact wpQuiet_nil rfl
    refine iy S hU 7 6 rfl hCa ?_;intro W1 hrW1 hcW1 K1 hK1;obtain⟨n1,rfl⟩:=hrW1;clear hcW1;have c4:=HR6a.k 4;have fr:=HR6a.o.free;go_wp2_with fail;refine hK1 _ _ ((hCa.drewN n1).ot hPp 4 _) ?_;clear hK1;have hCawb:(fun W=>Row W p 43 #[ci tm,ci ts,.bool th,ci tf,cu te]) ((wa.drewN n1).setCell ⟨P,4,none⟩ (cu x)):=(hCa.drewN n1).ot hPp 4 _;have HRb:=qh (((HR6a.o.drewN n1).set 4 (cu x)).to (cs':=#[ci at_,ci lf,.func (.func 146) #[] #[pt b],.bool sw,cu x,ci nm,ci ns,.bool nh,ci nf,cu ne,ci how,ci sm,ci ss,.bool sh,ci sf,cu se,ci err,ci st]) rfl);have HSb:=qh ((HSa.o.drewN n1).sc P 4 (cu x));generalize ((wa.drewN n1).setCell ⟨P,4,none⟩ (cu x))=wb at *;clear c4 fr HR6a HSa hCa;refine ao S hU [8,9] 52 4 hCawb ?_;constructor
    ·intro W' hW';simp only[pick,List.filterMap,gq1,gq2,gq3]
     repeat (go_big_quiet_step (fail))
     exact wpQuiet_nil rfl
    refine iy S hU 10 3 rfl hCawb ?_;intro W1 hrW1 hcW1 K1 hK1;obtain⟨n1,rfl⟩:=hrW1;clear hcW1;have c5:=HRb.k 5;have c6:=HRb.k 6;have c7:=HRb.k 7;have c8:=HRb.k 8;have c9:=HRb.k 9;have fr:=HRb.o.free;go_wp2_with fail;refine hK1 _ _ ((((((hCawb.drewN n1).ot hPp 5 _).ot hPp 6 _).ot hPp 7 _).ot hPp 8 _).ot hPp 9 _) ?_;clear hK1;have hCawbwc:(fun W=>Row W p 43 #[ci tm,ci ts,.bool th,ci tf,cu te]) ((((((wb.drewN n1).setCell ⟨P,5,none⟩ (ci tm)).setCell ⟨P,6,none⟩ (ci ts)).setCell ⟨P,7,none⟩ (.bool th)).setCell ⟨P,8,none⟩ (ci tf)).setCell ⟨P,9,none⟩ (cu te)):=(((((hCawb.drewN n1).ot hPp 5 _).ot hPp 6 _).ot hPp 7 _).ot hPp 8 _).ot hPp 9 _
    have HRc:=qh (((((((HRb.o.drewN n1).set 5 (ci tm)).set 6 (ci ts)).set 7 (.bool th)).set 8 (ci tf)).set 9 (cu te)).to (cs':=#[ci at_,ci lf,.func (.func 146) #[] #[pt b],.bool sw,cu x,ci tm,ci ts,.bool th,ci tf,cu te,ci how,ci sm,ci ss,.bool sh,ci sf,cu se,ci err,ci st]) rfl);have HSc:=qh ((((((HSb.o.drewN n1).sc P 5 (ci tm)).sc P 6 (ci ts)).sc P 7 (.bool th)).sc P 8 (ci tf)).sc P 9 (cu te));generalize ((((((wb.drewN n1).setCell ⟨P,5,none⟩ (ci tm)).setCell ⟨P,6,none⟩ (ci ts)).setCell ⟨P,7,none⟩ (.bool th)).setCell ⟨P,8,none⟩ (ci tf)).setCell ⟨P,9,none⟩ (cu te))=wc at *;clear c5 c6 c7 c8 c9 fr HRb HSb hCawb;refine ao S hU [11,12] 52 1 hCawbwc ?_;constructor
    ·intro W' hW';simp only[pick,List.filterMap,gq1,gq2,gq3]
     repeat (go_big_quiet_step (fail))
     exact wpQuiet_nil rfl
    refine iy S hU 13 0 rfl hCawbwc ?_;intro W1 hrW1 hcW1 K1 hK1;obtain⟨n1,rfl⟩:=hrW1;clear hcW1;have c3:=HRc.k 3;have fr:=HRc.o.free;go_wp2_with fail;refine hK1 _ _ ((hCawbwc.drewN n1).ot hPp 3 _) ?_;clear hK1;have hCawbwcwd_:(fun W=>Row W p 43 #[ci tm,ci ts,.bool th,ci tf,cu te]) ((wc.drewN n1).setCell ⟨P,3,none⟩ (.bool true)):=(hCawbwc.drewN n1).ot hPp 3 _;have HRd:=qh (((HRc.o.drewN n1).set 3 (.bool true)).to (cs':=#[ci at_,ci lf,.func (.func 146) #[] #[pt b],.bool true,cu x,ci tm,ci ts,.bool th,ci tf,cu te,ci how,ci sm,ci ss,.bool sh,ci sf,cu se,ci err,ci st]) rfl);have HSd:=qh ((HSc.o.drewN n1).sc P 3 (.bool true));generalize ((wc.drewN n1).setCell ⟨P,3,none⟩ (.bool true))=wd_ at *;clear c3 fr HRc HSc;refine jt ?_;intro w9 hrw9;refine NoPanic.normal ?_;obtain⟨n9,rfl⟩:=hrw9;go_wp2;go_ret;exact Or.inr ⟨⟨tm,ts,th,tf,te⟩,(fun h=>by cases h),rfl,HSd.o.drewN n9,HRd.o.drewN n9⟩
 ·clear HDC;have c2:=HR2.k 2;obtain⟨d0,d1,d2,d3,d4⟩:=R2.o.c5;go_wp2_with fail;refine(hend _ ym ys yh yf ye 11 (HR2.o)).mono ?_;rintro e w3 ⟨rfl,hs3,hr3⟩;go_wp2;go_ret;exact Or.inl ⟨⟨ym,ys,yh,yf,ye⟩,11,⟨by decide,by decide⟩,rfl,(ab.of_below B2.o).then hs3 (fun y hy _=>hy),hr3⟩
end
theorem Dec.bel{W W':World}{v:Value}(h:Dec W v)(hb:Below W.heap.size W W'):Dec W' v:=by
 rcases h with h|⟨b,a,h1,h2⟩|⟨b,fl,h1,h2⟩
 ·exact Or.inl h
 ·exact Or.inr (Or.inl ⟨b,a,h1,h2.bel hb⟩)
 ·exact Or.inr (Or.inr ⟨b,fl,h1,h2.bel hb⟩)
theorem Dec.same{W W':World}{v:Value}{M:List Nat}(h:Dec W v)(hs:ab M W W')(hM:∀b∈M,∀cs,¬ Row W b 185 cs∧¬ Row W b 3 cs):Dec W' v:=by
 rcases h with h|⟨b,a,h1,h2⟩|⟨b,fl,h1,h2⟩
 ·exact Or.inl h
 ·exact Or.inr (Or.inl ⟨b,a,h1,h2.same hs (fun hx=>(hM b hx _).1 h2)⟩)
 ·exact Or.inr (Or.inr ⟨b,fl,h1,h2.same hs (fun hx=>(hM b hx _).2 h2)⟩)
theorem jj.same{W W':World}{M:List Nat}(h:jj W)(hs:ab M W W')(hM:4∉M):jj W':=⟨fun i j h1 h2=>by
 obtain⟨v,hv⟩:=h.at_ i j h1 h2;refine⟨v,?_⟩;have:=hs.block 4 (blc hv) hM;unfold World.cell? at *;rw[this];exact hv⟩
theorem Row.not{W:World}{b:Nat}{t t':TypeId}{cs:Array Value}(h:Row W b t cs)(hne:t≠t'):∀cs',¬ Row W b t' cs':=fun _ h'=>hne (h.inj h').1
theorem c5i{W:World}{P B A:Nat}{t:TypeId}{cs:Array Value}{ws:List Nat}(hb:bv W B A ws)(hP:Row W P t cs)(h1:t≠185)(h2:t≠3):∀b∈[B,A,P],∀cs,¬ Row W b 185 cs∧¬ Row W b 3 cs:=by
 obtain⟨k,hk⟩:=hb.hd;intro b hb' cs;simp only[List.mem_cons,List.not_mem_nil,or_false] at hb';rcases hb' with rfl|rfl|rfl
 ·exact⟨hk.not (by decide) cs,hk.not (by decide) cs⟩
 ·exact⟨hb.wd.not (by decide) cs,hb.wd.not (by decide) cs⟩
 ·exact⟨hP.not h1 cs,hP.not h2 cs⟩
theorem b8i(w:World)(P:Nat)(o:AOp)(x:Nat)(hr:Row w P 239 o.cells)(hd:Dec w o.dec)(H:jj w):Calls Tryz.prog 148 #[pt P,cu x] w fun e w'=>∃v:Int,e=.returned (ci v)∧ab [P] w w'∧((v=1∧∃(s:St)(er:Int),js er∧Row w' P 239 (AOp.cells {o with how:=1,state:=s,err:=er}))∨(v=0∧o.dec≠.nilFunc∧∃t:St,Row w' P 239 (AOp.cells {o with word:=x,next:=t,swaps:=true}))):=by
 refine(c1j w P o x hr hd H).mono ?_;rintro e w' (⟨s,er,h1,rfl,h2,h3⟩|⟨t,hdn,rfl,h2,h3⟩)
 ·exact⟨1,rfl,h2,Or.inl ⟨rfl,s,er,h1,h3⟩⟩
 ·exact⟨0,rfl,h2,Or.inr ⟨rfl,hdn,t,h3⟩⟩
theorem wk(w:World)(P B A:Nat)(ws:List Nat)(o:AOp)(hb:bv w B A ws)(hs:o.at_<ws.length)(hP:P≠B∧P≠A)(h4:4≠B∧4≠A∧4≠P)(hk:o.steps≤1000)(h0:o.how=0)(h1:o.swaps=false)(hr:Row w P 239 o.cells)(hd:Dec w o.dec)(H:jj w):Calls Tryz.prog 102 #[pt P,pt B] w fun e w'=>∃v:Int,e=.returned (ci v)∧ab [B,A,P] w w'∧bv w' B A ws∧((v=1∧∃(s:St)(er:Int),js er∧Row w' P 239 (AOp.cells {o with steps:=o.steps+1,how:=1,state:=s,err:=er}))∨(v=0∧o.dec≠.nilFunc∧∃t:St,Row w' P 239 (AOp.cells {o with steps:=o.steps+1,word:=wat ws o.at_,next:=t,swaps:=true}))):=by
 have hnot:=c5i hb hr (by decide) (by decide);obtain⟨at_,lf,dec,sw,wd,⟨nm,ns,nh,nf,ne⟩,how,⟨sm,ss,sh,sf,se⟩,err,st⟩:=o;simp only at h0 h1 hs hk hd;subst h0 h1;have hf:=fun W (hh:Row W P 239 (AOp.cells ⟨at_,lf,dec,false,wd,⟨nm,ns,nh,nf,ne⟩,0,⟨sm,ss,sh,sf,se⟩,err,st+1⟩))=>b8i W P ⟨at_,lf,dec,false,wd,⟨nm,ns,nh,nf,ne⟩,0,⟨sm,ss,sh,sf,se⟩,err,st+1⟩ (wat ws at_) hh;simp only[AOp.cells] at *;have HB:=qh hb;have HR:=qh hr;have HD:=qh hd;have HN:=qh hnot;have c0:=hr.k 0;have c3:=hr.k 3;have c10:=hr.k 10;clear hr hb hd hnot
 go_enter Tryz.func102,Tryz.ntmps102
 go_wp2_with fail;refine ay 2 ?_
 go_wp2_with (first|(go_at_call 84;refine(fc _ B A ws at_ hs HB.o).mono ?_;rintro e w1 ⟨rfl,hs1,hb1⟩;have r1:=HR.o.same hs1 (by simpa using hP.1);have c17:=r1.k 17;have fr:=r1.free;have HR1:=qh r1;have HS1:=qh (hs1.mono (M':=[B,A,P]) (fun y hy _=>by simp at hy;simp[hy]));have HB1:=qh hb1;clear hs1 hb1 r1 c0 c3 c10)|(go_at_call 148;have r2:=(HR1.o.set 17 (ci (st+1)));have hsA:=(HS1.o.sc P 17 (ci (st+1)));refine(hf _ (r2.to rfl) (HD.o.same hsA HN.o) (H.same hsA (by simpa using h4))).mono ?_;rintro e w3 ⟨v,rfl,hs3,hor⟩;have HSA:=qh hsA;have HS3:=qh hs3;have HOR:=qh hor;clear hsA r2 hor hs3))
 refine bh ?_;go_ret;have hne:B∉[P]∧A∉[P]:=by simpa using ⟨hP.1.symm,hP.2.symm⟩
 refine⟨v,rfl,HSA.o.then HS3.o (fun y hy _=>by simp at hy;simp[hy]),(HB1.o.same (sj (W:=w1) P 17 (ci (st+1))) hne.1 hne.2).same HS3.o hne.1 hne.2,HOR.o⟩
theorem b4x(w:World)(P B A:Nat)(ws:List Nat)(o:AOp)(hb:bv w B A ws)(hs:o.at_<ws.length)(hP:P≠B∧P≠A)(hk:o.steps≤1000)(h0:o.how=0)(h1:o.swaps=true)(hl:1≤o.left∧o.left≤16)(hr:Row w P 239 o.cells):Calls Tryz.prog 102 #[pt P,pt B] w fun e w'=>∃v:Int,e=.returned (ci v)∧ab [B,A,P] w w' ∧
   ((v=3∧bv w' B A ws∧∃er:Int,js er∧er≠0∧Row w' P 239 (AOp.cells {o with how:=3,state:=St.zero,err:=er})) ∨
    (v=1∧wat ws o.at_=o.word∧∃x,bv w' B A (ws.set o.at_ x)∧Row w' P 239 (AOp.cells {o with steps:=o.steps+1,left:=o.left-1,swaps:=false,how:=1,state:=o.next,err:=0})) ∨
    (v=2∧wat ws o.at_≠o.word∧o.left=1∧bv w' B A ws∧Row w' P 239 (AOp.cells {o with steps:=o.steps+1,left:=o.left-1,swaps:=false,how:=2,state:=St.zero,err:=20})) ∨
    (v=0∧wat ws o.at_≠o.word∧o.left≠1∧bv w' B A ws∧Row w' P 239 (AOp.cells {o with steps:=o.steps+1,left:=o.left-1,swaps:=false}))):=by
 obtain⟨at_,lf,dec,sw,wd,⟨nm,ns,nh,nf,ne⟩,how,⟨sm,ss,sh,sf,se⟩,err,st⟩:=o;simp only at h0 h1 hs hk hl;subst h0 h1;have hpk:=b7b ⟨nm,ns,nh,nf,ne⟩;have hend:=fun W (hw:Nat) (hw':Int) (m q:Int) (h:Bool) (f:Int) (ep:Nat) er sw lf st hh (hx:Row W P 239 (AOp.cells ⟨at_,lf,dec,sw,wd,⟨nm,ns,nh,nf,ne⟩,0,⟨sm,ss,sh,sf,se⟩,err,st⟩))=>b0d (hw':=hw') (hw:=hw) hh ⟨m,q,h,f,ep⟩ er hx;simp only[AOp.cells,St.cells,St.zero] at *;have HB:=qh hb;have HR:=qh hr;have c3:=hr.k 3;have c10:=hr.k 10;have c5:=hr.k 5;have c6:=hr.k 6;have c7:=hr.k 7;have c8:=hr.k 8;have c9:=hr.k 9;clear hr hb
 go_enter Tryz.func102,Tryz.ntmps102
 go_wp2_with fail;refine ay 2 ?_;go_wp2_with fail;refine wp_goto ?_;refine⟨_,rfl,?_⟩;go_wp2_with fail;refine(hpk w).mono ?_;rintro e w1 ⟨x,er,hx,her,rfl,hb1⟩;have HB1:=qh (HB.o.b0 hb1);have HR1:=qh (HR.o.bel hb1);have HS1:=qh (ab.of_below (M:=[B,A,P]) hb1);clear hb1 c3 c10 c5 c6 c7 c8 c9 HR HB;have hne:B∉[P]∧A∉[P]:=by simpa using ⟨hP.1.symm,hP.2.symm⟩
 rcases her with rfl|rfl|rfl
 ·have c0:=HR1.k 0;go_wp2_with fail;by_cases hcas:wat ws at_=wd
  ·have HRK:=HR1;clear c0;have HR1a:=qh HR1.o.drew;have HS1a:=qh HS1.o.drew;have HB1a:=qh (HB1.o.same ((ab.refl [] w1).drew) (by simp) (by simp));have hU:UD (fun W=>Row W P 239 #[ci at_,ci lf,dec,.bool true,cu wd,ci nm,ci ns,.bool nh,ci nf,cu ne,ci 0,ci sm,ci ss,.bool sh,ci sf,cu se,ci err,ci st]):=al fun W n h=>h.drewN n;have hCa:(fun W=>Row W P 239 #[ci at_,ci lf,dec,.bool true,cu wd,ci nm,ci ns,.bool nh,ci nf,cu ne,ci 0,ci sm,ci ss,.bool sh,ci sf,cu se,ci err,ci st]) w1.drew:=HRK.o.drew;refine ei _ aj _ hU hCa (by kernel_rfl) (by kernel_rfl) ?_;intro S;generalize w1.drew=wa at *;clear HR1 HS1 HB1;clear HRK;refine ao S hU [0,1,2,3,4,5,6,7,8,9] 109 6 hCa ?_;constructor
   ·intro W' hW';simp only[pick,List.filterMap,gq1,gq2,gq3];have c0:=hW'.k 0;have c4:=hW'.k 4
    repeat (go_big_quiet_step (fail))
    exact wpQuiet_nil rfl
   refine iy S hU 10 5 rfl hCa ?_;intro W1 hrW1 hcW1 K1 hK1;obtain⟨n1,rfl⟩:=hrW1;clear hcW1;have HBn:=HB1a.o.d0 n1;go_wp2_with fail;refine(wm (i:=at_) (x:=x) hs HBn rfl (by rw[hcas]) rfl).mono ?_;rintro e w4 ⟨rfl,hs4,hb4⟩;go_wp2_with fail;have hC4:=(hCa.drewN n1).same hs4 (by simpa using hP);refine hK1 _ _ hC4 ?_;have HS4:=qh (((HS1a.o.drewN n1).then hs4 (fun y hy _=>by simp at hy;rcases hy with rfl|rfl<;>simp)));have HB4:=qh hb4;clear hK1 hs4 hb4 HBn HS1a HB1a HR1a hCa;refine ao S hU [11,12,13] 109 2 hC4 ?_;constructor
   ·intro W' hW';simp only[pick,List.filterMap,gq1,gq2,gq3]
    repeat (go_big_quiet_step (fail))
    exact wpQuiet_nil rfl
   refine ao S hU [14] 109 1 hC4 ?_;constructor
   ·intro W' hW';simp only[pick,List.filterMap,gq1,gq2,gq3]
    repeat (go_big_quiet_step (fail))
    exact wpQuiet_nil rfl
   refine ao S hU [15] 109 0 hC4 ?_;constructor
   ·intro W' hW';simp only[pick,List.filterMap,gq1,gq2,gq3]
    repeat (go_big_quiet_step (fail))
    exact wpQuiet_nil rfl
   refine jt ?_;intro w5 hrw5;refine NoPanic.normal ?_;obtain⟨n5,rfl⟩:=hrw5;have HR5:=qh (hC4.drewN n5);have HS5:=qh (HS4.o.drewN n5);have HB5:=qh (HB4.o.d0 n5);clear hC4 HS4 HB4 S hU;generalize w4.drewN n5=w6 at *;have c17:=HR5.k 17;have c1:=HR5.k 1;have c3:=HR5.k 3;have c5:=HR5.k 5;have c6:=HR5.k 6;have c7:=HR5.k 7;have c8:=HR5.k 8;have c9:=HR5.k 9;have fr:=HR5.o.free;have hl1:((lf:Int)-1)=((lf-1:Nat):Int):=by omega
   have HR6:=qh (((((HR5.o.set 17 (ci (st+1))).set 1 (ci ((lf:Int)-1))).set 3 (.bool false))).to (cs':=#[ci at_,ci (lf-1:Nat),dec,.bool false,cu wd,ci nm,ci ns,.bool nh,ci nf,cu ne,ci 0,ci sm,ci ss,.bool sh,ci sf,cu se,ci err,ci (st+1:Nat)]) (by rw[hl1];rfl));have hsx:ab [P] w6 _:=((sj (W:=w6) P 17 (ci (st+1))).sc P 1 (ci ((lf:Int)-1))).sc P 3 (.bool false);have HS6:=qh (HS5.o.then hsx (fun y hy _=>by simp at hy;simp[hy]));have HB6:=qh (HB5.o.same hsx hne.1 hne.2);clear hsx;clear hl1;go_wp2_with fail;refine(hend _ 1 1 nm ns nh nf ne 0 false (lf-1) (st+1) rfl HR6.o).mono ?_;rintro e w3 ⟨rfl,hs3,hr3⟩;go_wp2_with fail;refine bh ?_;go_ret;exact⟨1,rfl,HS6.o.then hs3 (fun y hy _=>by simp at hy;simp[hy]),Or.inr (Or.inl ⟨rfl,hcas,x,HB6.o.same hs3 hne.1 hne.2,hr3⟩)⟩
  ·have HRK:=HR1;clear c0;have HR1a:=qh HR1.o.drew;have HS1a:=qh HS1.o.drew;have HB1a:=qh (HB1.o.same ((ab.refl [] w1).drew) (by simp) (by simp));have hU:UD (fun W=>Row W P 239 #[ci at_,ci lf,dec,.bool true,cu wd,ci nm,ci ns,.bool nh,ci nf,cu ne,ci 0,ci sm,ci ss,.bool sh,ci sf,cu se,ci err,ci st]):=al fun W n h=>h.drewN n;have hCa:(fun W=>Row W P 239 #[ci at_,ci lf,dec,.bool true,cu wd,ci nm,ci ns,.bool nh,ci nf,cu ne,ci 0,ci sm,ci ss,.bool sh,ci sf,cu se,ci err,ci st]) w1.drew:=HRK.o.drew;refine ei _ aj _ hU hCa (by kernel_rfl) (by kernel_rfl) ?_;intro S;generalize w1.drew=wa at *;clear HR1 HS1 HB1;clear HRK;refine ao S hU [0,1,2,3,4,5,6,7,8,9] 109 6 hCa ?_;constructor
   ·intro W' hW';simp only[pick,List.filterMap,gq1,gq2,gq3];have c0:=hW'.k 0;have c4:=hW'.k 4
    repeat (go_big_quiet_step (fail))
    exact wpQuiet_nil rfl
   refine iy S hU 10 5 rfl hCa ?_;intro W1 hrW1 hcW1 K1 hK1;obtain⟨n1,rfl⟩:=hrW1;clear hcW1;have HBn:=HB1a.o.d0 n1;go_wp2_with fail;refine(uh (i:=at_) (o:=wd) (x:=x) hs HBn rfl rfl rfl hcas).mono ?_;rintro e w4 ⟨rfl,hs4,hb4⟩;go_wp2_with fail;have hC4:=(hCa.drewN n1).same hs4 (by simpa using hP);refine hK1 _ _ hC4 ?_;have HS4:=qh (((HS1a.o.drewN n1).then hs4 (fun y hy _=>by simp at hy;rcases hy with rfl|rfl<;>simp)));have HB4:=qh hb4;clear hK1 hs4 hb4 HBn HS1a HB1a HR1a hCa;refine ao S hU [11,12,13] 109 2 hC4 ?_;constructor
   ·intro W' hW';simp only[pick,List.filterMap,gq1,gq2,gq3]
    repeat (go_big_quiet_step (fail))
    exact wpQuiet_nil rfl
   refine ao S hU [14] 109 1 hC4 ?_;constructor
   ·intro W' hW';simp only[pick,List.filterMap,gq1,gq2,gq3]
    repeat (go_big_quiet_step (fail))
    exact wpQuiet_nil rfl
   refine ao S hU [15] 109 0 hC4 ?_;constructor
   ·intro W' hW';simp only[pick,List.filterMap,gq1,gq2,gq3]
    repeat (go_big_quiet_step (fail))
    exact wpQuiet_nil rfl
   refine jt ?_;intro w5 hrw5;refine NoPanic.normal ?_;obtain⟨n5,rfl⟩:=hrw5;have HR5:=qh (hC4.drewN n5);have HS5:=qh (HS4.o.drewN n5);have HB5:=qh (HB4.o.d0 n5);clear hC4 HS4 HB4 S hU;generalize w4.drewN n5=w6 at *;have c17:=HR5.k 17;have c1:=HR5.k 1;have c3:=HR5.k 3;have c5:=HR5.k 5;have c6:=HR5.k 6;have c7:=HR5.k 7;have c8:=HR5.k 8;have c9:=HR5.k 9;have fr:=HR5.o.free;by_cases hl0:lf=1
   ·subst hl0;have HR6:=qh (((((HR5.o.set 17 (ci (st+1))).set 1 (ci 0)).set 3 (.bool false))).to (cs':=#[ci at_,ci (0:Nat),dec,.bool false,cu wd,ci nm,ci ns,.bool nh,ci nf,cu ne,ci 0,ci sm,ci ss,.bool sh,ci sf,cu se,ci err,ci (st+1:Nat)]) (rfl));have hsx:ab [P] w6 _:=((sj (W:=w6) P 17 (ci (st+1))).sc P 1 (ci 0)).sc P 3 (.bool false);have HS6:=qh (HS5.o.then hsx (fun y hy _=>by simp at hy;simp[hy]));have HB6:=qh (HB5.o.same hsx hne.1 hne.2);clear hsx;go_wp2_with fail;refine(hend _ 2 2 0 0 false 0 0 20 false 0 (st+1) rfl HR6.o).mono ?_;rintro e w3 ⟨rfl,hs3,hr3⟩;go_wp2_with fail;refine bh ?_;go_ret;exact⟨2,rfl,HS6.o.then hs3 (fun y hy _=>by simp at hy;simp[hy]),Or.inr (Or.inr (Or.inl ⟨rfl,hcas,rfl,HB6.o.same hs3 hne.1 hne.2,hr3⟩))⟩
   ·have t1:(((lf:Int)-1)==0)=false:=bfn.2 (by omega);have hl1:((lf:Int)-1)=((lf-1:Nat):Int):=by omega
    have HR6:=qh (((((HR5.o.set 17 (ci (st+1))).set 1 (ci ((lf:Int)-1))).set 3 (.bool false))).to (cs':=#[ci at_,ci (lf-1:Nat),dec,.bool false,cu wd,ci nm,ci ns,.bool nh,ci nf,cu ne,ci 0,ci sm,ci ss,.bool sh,ci sf,cu se,ci err,ci (st+1:Nat)]) (by rw[hl1];rfl));have hsx:ab [P] w6 _:=((sj (W:=w6) P 17 (ci (st+1))).sc P 1 (ci ((lf:Int)-1))).sc P 3 (.bool false);have HS6:=qh (HS5.o.then hsx (fun y hy _=>by simp at hy;simp[hy]));have HB6:=qh (HB5.o.same hsx hne.1 hne.2);clear hsx;clear hl1;go_wp2_with fail;refine bh ?_;go_ret;exact⟨0,rfl,HS6.o,Or.inr (Or.inr (Or.inr ⟨rfl,hcas,hl0,HB6.o,HR6.o⟩))⟩
 ·go_wp2_with fail;refine wp_goto ?_;refine⟨_,rfl,?_⟩;go_wp2_with fail;refine(hend w1 3 3 0 0 false 0 0 10 true lf st rfl HR1.o).mono ?_;rintro e w3 ⟨rfl,hs3,hr3⟩;go_wp2_with fail;refine bh ?_;go_ret;exact⟨3,rfl,HS1.o.then hs3 (fun y hy _=>by simp at hy;simp[hy]),Or.inl ⟨rfl,HB1.o.same hs3 hne.1 hne.2,10,⟨by decide,by decide⟩,by decide,hr3⟩⟩
 ·go_wp2_with fail;refine wp_goto ?_;refine⟨_,rfl,?_⟩;go_wp2_with fail;refine(hend w1 3 3 0 0 false 0 0 1 true lf st rfl HR1.o).mono ?_;rintro e w3 ⟨rfl,hs3,hr3⟩;go_wp2_with fail;refine bh ?_;go_ret;exact⟨3,rfl,HS1.o.then hs3 (fun y hy _=>by simp at hy;simp[hy]),Or.inl ⟨rfl,HB1.o.same hs3 hne.1 hne.2,1,⟨by decide,by decide⟩,by decide,hr3⟩⟩
structure wq where
 reg:Nat
 log:Nat
 long:Nat
 spots:Value
 size:Nat
abbrev wq.cells(p:wq):Array Value:=#[ci p.reg,ci p.log,ci p.long,p.spots,ci p.size]
theorem b4y(l g d:Nat)(h3:1≤d)(h4:d≤64)(h7:l≤1048576):wrap64 ((l:Int)+wrap64 ((g:Int)%d))=((l+g%d:Nat):Int):=by
 have h1:g%d<d:=Nat.mod_lt _ (by omega);have e1:((g:Int)%d)=((g%d:Nat):Int):=by omega
 rw[e1];generalize g%d=r at *;unfold wrap64;omega
theorem c1k(p:wq)(h1:1≤p.long)(h2:p.long≤64)(h3:p.log≤1048576)(g:Nat)(w:World):Calls Tryz.prog 152 #[.agg p.cells,cu g] w fun e w'=>e=.returned (ci (p.log+g%p.long:Nat))∧Below w.heap.size w w':=by
 obtain⟨rg,l,d,sv,sz⟩:=p;simp only[wq.cells] at *;have hB:=(brf w).alloc (nlr _) (.cells #[ci rg,ci l,ci d,sv,ci sz] 83)
 go_enter Tryz.func152,Tryz.ntmps152
 go_wp2_with (first|(go_at_call 176;refine(b0e _ _ _ ?_ ?_ _).mono ?_;omega;omega;rintro e w' ⟨rfl,rfl⟩))
 go_quiet (fail)
 go_wp2;go_ret;exact⟨nr (b4y l g d h1 h2 h3),below_drewN hB _⟩
theorem b2s{p:wq}(h1:1≤p.long)(h2:p.long≤64)(h3:p.log≤1048576){g:Nat}{g':Int}(hg:g'=g)(w:World):Calls Tryz.prog 152 #[.agg p.cells,cu g'] w fun e w'=>e=.returned (ci (p.log+g%p.long:Nat))∧Below w.heap.size w w':=by
 subst hg;exact c1k p h1 h2 h3 g w
structure LOp where
 p:wq
 state:St
 word:Nat
 how:Nat
abbrev LOp.cells(o:LOp):Array Value:=#[ci o.p.reg,ci o.p.log,ci o.p.long,o.p.spots,ci o.p.size,.bool true,ci o.state.m,ci o.state.s,.bool o.state.h,ci o.state.f,cu o.state.e,cu o.word,ci 0,ci o.how,zn]
theorem b8j(p:wq)(h1:1≤p.long)(h2:p.long≤64)(h3:p.log≤1048576)(x:St)(w:World):Calls Tryz.prog 105 #[.agg p.cells,.agg x.cells] w fun e w'=>∃(pv:Value)(er:Int),e=.returned (.tuple #[pv,ci er])∧Below w.heap.size w w'∧((er≠0∧pv=.pointer none)∨(er=0∧∃P wd,pv=pt P∧w.heap.size≤P∧Row w' P 248 (LOp.cells ⟨p,x,wd,0⟩))):=by
 have hpk:=b7b x;obtain⟨rg,l,d,sv,sz⟩:=p;have hen:=fun W=>b2s (p:=⟨rg,l,d,sv,sz⟩) h1 h2 h3 (g:=0) (g':=0) rfl W;obtain⟨m,s,h,f,ep⟩:=x;simp only[wq.cells,St.cells,LOp.cells] at *;have R0:=qh ((Row.new w 83 #[ci rg,ci l,ci d,sv,ci sz]).alloc (.cells #[ci m,ci s,.bool h,ci f,cu ep] 43));have r1:=Row.new (w.alloc (.cells #[ci rg,ci l,ci d,sv,ci sz] 83)) 43 #[ci m,ci s,.bool h,ci f,cu ep];have B0:=qh (af (af (brf w) (.cells #[ci rg,ci l,ci d,sv,ci sz] 83)) (.cells #[ci m,ci s,.bool h,ci f,cu ep] 43));have hz:(w.alloc (.cells #[ci rg,ci l,ci d,sv,ci sz] 83)).heap.size=w.heap.size+1:=by simp
 rw[hz] at r1;have R1:=qh r1;clear r1 hz h1 h2 h3;have t1:decide (((l+0%d:Nat):Int)<0)=false:=dqf (by omega);generalize l+0%d=q at *
 go_enter Tryz.func105,Tryz.ntmps105
 go_wp2_with fail;generalize (w.alloc (.cells #[ci rg,ci l,ci d,sv,ci sz] 83)).alloc (.cells #[ci m,ci s,.bool h,ci f,cu ep] 43)=w1 at *;refine(hpk w1).mono ?_;rintro e w2 ⟨n,er,hn,her,rfl,hb2⟩;have r0:=R0.o.bel hb2;have r1:=R1.o.bel hb2;have HB2:=qh (bt B0.o hb2);obtain⟨c0,c1,c2,c3,c4⟩:=r0.c5;obtain⟨d0,d1,d2,d3,d4⟩:=r1.c5;have HR0:=qh r0;have HR1:=qh r1;clear hb2 r0 r1 R0 R1 B0;rcases her with rfl|rfl|rfl
 ·go_wp2_with (first|(go_at_call 152;refine(hen w2).mono ?_;rintro e w3 ⟨rfl,hb3⟩;have r0:=HR0.o.bel hb3;have r1:=HR1.o.bel hb3;clear c0 c1 c2 c3 c4 d0 d1 d2 d3 d4;obtain⟨c0,c1,c2,c3,c4⟩:=r0.c5;obtain⟨d0,d1,d2,d3,d4⟩:=r1.c5;have HB3:=qh (bt HB2.o hb3);clear hb3 r0 r1))
  go_ret2
  exact⟨_,0,rfl,af HB3.o _,Or.inr ⟨rfl,w3.heap.size,n,rfl,HB3.o.size,Row.new w3 248 _⟩⟩
 ·go_wp2_with fail
  go_ret2
  exact⟨_,10,rfl,HB2.o,Or.inl ⟨by decide,rfl⟩⟩
 ·go_wp2_with fail
  go_ret2
  exact⟨_,1,rfl,HB2.o,Or.inl ⟨by decide,rfl⟩⟩
theorem c1l(w:World)(P B A:Nat)(ws:List Nat)(o:LOp)(hb:bv w B A ws)(h1:1≤o.p.long)(h2:o.p.long≤64)(h3:o.p.log≤1048576)(hs:o.p.log+o.p.long≤ws.length)(hP:P≠B∧P≠A)(h0:o.how=0)(hr:Row w P 248 o.cells):Calls Tryz.prog 107 #[pt P,pt B] w fun e w'=>e=.returned (ci 1)∧ab [B,A,P] w w'∧(∃i,i<o.p.long∧bv w' B A (ws.set (o.p.log+i) o.word))∧Row w' P 248 (LOp.cells {o with how:=1}):=by
 obtain⟨⟨rg,l,d,sv,sz⟩,⟨m,s,h,f,ep⟩,wd,how⟩:=o;simp only at h0 h1 h2 h3 hs;subst h0;have hen:=fun W=>b2s (p:=⟨rg,l,d,sv,sz⟩) h1 h2 h3 (g:=ep) (g':=ep) rfl W;have hi:l+ep%d<ws.length:=by have:=Nat.mod_lt ep (show 0<d by omega);omega
 have hid:ep%d<d:=Nat.mod_lt ep (by omega);simp only[wq.cells,LOp.cells] at *;generalize ep%d=q at *;have HB:=qh hb;have HR:=qh hr;have c5:=hr.k 5;have c13:=hr.k 13;clear hr hb
 go_enter Tryz.func107,Tryz.ntmps107
 go_wp2_with fail;refine ay 2 ?_;go_wp2_with fail;refine wp_goto ?_;refine⟨_,rfl,?_⟩;go_wp2_with fail;have hU:Ups (fun W W'=>∃g:ag W,W'=g.to) (fun W=>Row W P 248 #[ci rg,ci l,ci d,sv,ci sz,.bool true,ci m,ci s,.bool h,ci f,cu ep,cu wd,ci 0,ci 0,zn]):=dj fun h hb=>h.bel hb;have hC0:=HR.o.drew;have HB0:=qh (HB.o.same ((ab.refl [] w).drew) (by simp) (by simp));have HS0:=qh ((ab.refl [B,A,P] w).drew);refine dw gz hU hC0 ?_;intro S;generalize w.drew=wa at *;clear HR HB c5 c13;refine ao S hU [0,1,2,3,4,5,6,7,8,9,10,11,12,13,14] 94 2 hC0 ?_;constructor
 ·intro W' hW';simp only[pick,List.filterMap,gq1,gq2,gq3];have e0:=ag.cell (hW'.k 0);have e1:=ag.cell (hW'.k 1);have e2:=ag.cell (hW'.k 2);have e3:=ag.cell (hW'.k 3);have e4:=ag.cell (hW'.k 4);have e6:=ag.cell (hW'.k 6);have e7:=ag.cell (hW'.k 7);have e8:=ag.cell (hW'.k 8);have e9:=ag.cell (hW'.k 9);have e10:=ag.cell (hW'.k 10);have e11:=ag.cell (hW'.k 11)
  repeat (go_big_quiet_step (first|(go_at_call 152;exact Calls.later (hen _))))
  exact wpQuiet_nil rfl
 refine iy S hU 15 1 rfl hC0 ?_;intro W1 hrW1 hcW1 K1 hK1;have hb1:=a7 hrW1;have HBn:=HB0.o.b0 hb1;go_wp2_with fail;refine(rc (i:=l+q) (x:=wd) hi HBn (by simp) rfl).mono ?_;rintro e w4 ⟨rfl,hs4,hb4⟩;go_wp2_with fail;have hC4:=hcW1.same hs4 (by simpa using hP);refine hK1 _ _ hC4 ?_;have HS4:=qh ((HS0.o.bel hb1).then hs4 (fun y hy _=>by simp at hy;rcases hy with rfl|rfl<;>simp));have HB4:=qh hb4;clear hK1 hs4 hb4 HBn HS0 HB0 hC0 hcW1 hb1 hrW1;refine ao S hU [16] 94 0 hC4 ?_;constructor
 ·intro W' hW';simp only[pick,List.filterMap,gq1,gq2,gq3]
  repeat (go_big_quiet_step (fail))
  exact wpQuiet_nil rfl
 refine jt ?_;intro w5 hrw5;refine NoPanic.normal ?_;have hb5:=a7 hrw5;have HR5:=qh (hC4.bel hb5);have HS5:=qh (HS4.o.bel hb5);have HB5:=qh (HB4.o.b0 hb5);clear hC4 HS4 HB4 S hU hrw5 hb5;have c13:=HR5.k 13;have fr:=HR5.o.free;go_wp2_with fail;refine wp_label ?_;go_wp2_with fail;refine bh ?_;go_ret;exact⟨rfl,HS5.o.sc P 13 _,⟨q,hid,HB5.o.same (sj (W:=w5) P 13 (ci 1)) (by simpa using hP.1.symm) (by simpa using hP.2.symm)⟩,(HR5.o.set 13 (ci 1)).to rfl⟩
theorem c5j(w:World)(P:Nat)(o:AOp)(hr:Row w P 239 o.cells):Calls Tryz.prog 103 #[pt P] w fun e w'=>e=.returned (.tuple #[.agg o.state.cells,ci o.err])∧Below w.heap.size w w':=by
 obtain⟨at_,lf,dec,sw,wd,⟨nm,ns,nh,nf,ne⟩,how,⟨sm,ss,sh,sf,se⟩,err,st⟩:=o;simp only[AOp.cells,St.cells] at *;have HR:=qh (hr.alloc (.cells #[ci 0,ci 0,.bool false,ci 0,cu 0] 43));have HN:=qh (Row.new w 43 #[ci 0,ci 0,.bool false,ci 0,cu 0]);have HB:=qh (af (brf w) (.cells #[ci 0,ci 0,.bool false,ci 0,cu 0] 43));have hne:P≠w.heap.size:=by have:=hr.lt;omega
 have hle:=nlr w.heap.size;clear hr
 go_enter Tryz.func103,Tryz.ntmps103
 go_wp2_with fail;generalize w.alloc (.cells #[ci 0,ci 0,.bool false,ci 0,cu 0] 43)=w1 at *;have HNa:=qh (HN.o.drew);have HBa:=qh (c5k HB.o);have hCa:=HR.o.drew;have hU:UD (fun W=>Row W P 239 #[ci at_,ci lf,dec,.bool sw,cu wd,ci nm,ci ns,.bool nh,ci nf,cu ne,ci how,ci sm,ci ss,.bool sh,ci sf,cu se,ci err,ci st]):=al fun W n h=>h.drewN n;refine ei _ aj _ hU hCa (by kernel_rfl) (by kernel_rfl) ?_;intro S;generalize w1.drew=wa at *;clear HR HN HB;refine ao S hU [0,1,2,3,4,5,6,7] 15 2 hCa ?_;constructor
 ·intro W' hW';simp only[pick,List.filterMap,gq1,gq2,gq3];have e11:=hW'.k 11;have e12:=hW'.k 12;have e13:=hW'.k 13;have e14:=hW'.k 14;have e15:=hW'.k 15;have e16:=hW'.k 16
  repeat (go_big_quiet_step (fail))
  exact wpQuiet_nil rfl
 refine iy S hU 8 1 rfl hCa ?_;intro W1 hrW1 hcW1 K1 hK1;obtain⟨n1,rfl⟩:=hrW1;clear hcW1;obtain⟨d0,d1,d2,d3,d4⟩:=HNa.o.c5;have df:=HNa.o.free;generalize hBk:w.heap.size=Bk at *;go_wp2_with fail;have hC4:=(((((hCa.drewN n1).ot hne 0 (ci sm)).ot hne 1 (ci ss)).ot hne 2 (.bool sh)).ot hne 3 (ci sf)).ot hne 4 (cu se);refine hK1 _ _ hC4 ?_;have HN4:=((((((HNa.o.drewN n1).set 0 (ci sm)).set 1 (ci ss)).set 2 (.bool sh)).set 3 (ci sf)).set 4 (cu se)).to (cs':=#[ci sm,ci ss,.bool sh,ci sf,cu se]) rfl;have HB4:Below Bk w _:=hBk▸em (below_drewN (hBk.symm▸HBa.o) n1) (nlr _) (ci sm) (ci ss) (.bool sh) (ci sf) (cu se);clear hK1;refine ao S hU [9] 15 0 hC4 ?_;constructor
 ·intro W' hW';simp only[pick,List.filterMap,gq1,gq2,gq3]
  repeat (go_big_quiet_step (fail))
  exact wpQuiet_nil rfl
 refine jt ?_;intro w5 hrw5;refine NoPanic.normal ?_;obtain⟨n5,rfl⟩:=hrw5;go_wp2_with fail;refine bodyPost_ret (ap rfl _ _ Bk 43 _ (0,0) _ rfl (HN4.drewN n5).at_ Tryz.underlying43 rfl (by kernel_rfl)) rfl ?_;exact⟨rfl,by rw[hBk];exact below_drewN HB4 n5⟩
end Go.Proofs.YtojkaibpfdhmaaaGreatDoor

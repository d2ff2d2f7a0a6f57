/- Contracts of package arbiter: what decides; making an operation. -/
import Derived.Test.YtojkaibpfdhmaaaGreatDoorP06
namespace Go.Proofs.YtojkaibpfdhmaaaGreatDoor
open Go.RowKit
set_option maxRecDepth 100000
set_option maxHeartbeats 16000000
structure AOp where
 at_:Nat
 left:Nat
 dec:Value
 swaps:Bool
 word:Nat
 next:St
 how:Nat
 state:St
 err:Int
 steps:Nat
abbrev AOp.cells(o:AOp):Array Value:=#[ci o.at_,ci o.left,o.dec,.bool o.swaps,cu o.word,ci o.next.m,ci o.next.s,.bool o.next.h,ci o.next.f,cu o.next.e,ci o.how,ci o.state.m,ci o.state.s,.bool o.state.h,ci o.state.f,cu o.state.e,ci o.err,ci o.steps]
theorem al{C:World→Prop}(h:∀W n,C W→C (W.drewN n)):Ups (fun W W'=>∃n,W'=W.drewN n) C:=⟨fun h1 h2=>by obtain⟨n,rfl⟩:=h1;exact h _ n h2⟩
theorem dj{C:World→Prop}(h:∀{W W'},C W→Below W.heap.size W W'→C W'):Ups (fun W W'=>∃g:ag W,W'=g.to) C:=⟨fun h1 h2=>h h2 (a7 h1)⟩
theorem c9y(w:World)(P:Nat)(o:AOp)(hw:Nat)(s:St)(er:Int)(hr:Row w P 239 o.cells):Calls Tryz.prog 151 #[pt P,ci hw,.agg s.cells,ci er] w fun e w'=>e=.returned (ci hw)∧ab [P] w w'∧Row w' P 239 (AOp.cells {o with how:=hw,state:=s,err:=er}):=by
 obtain⟨at_,lf,dec,sw,wd,⟨nm,ns,nh,nf,ne⟩,how,⟨sm,ss,sh,sf,se⟩,err,st⟩:=o;obtain⟨m,q,h,f,ep⟩:=s;simp only[AOp.cells,St.cells] at *;have HR:=qh (hr.alloc (.cells #[ci m,ci q,.bool h,ci f,cu ep] 43));have HN:=Row.new w 43 #[ci m,ci q,.bool h,ci f,cu ep];have hlt:=hr.lt;have HS:=qh ((ab.refl [P] w).allocd (.cells #[ci m,ci q,.bool h,ci f,cu ep] 43));have hne:w.heap.size≠P:=by omega
 clear hr hlt;generalize hB:w.heap.size=B at *
 go_enter Tryz.func151,Tryz.ntmps151
 go_wp2_with fail;generalize w.alloc (.cells #[ci m,ci q,.bool h,ci f,cu ep] 43)=w1 at *;have HRa:=qh HR.o.drew;have HSa:=qh HS.o.drew;have hU:UD (fun W=>Row W B 43 #[ci m,ci q,.bool h,ci f,cu ep]):=al fun W n h=>h.drewN n;have hCa:(fun W=>Row W B 43 #[ci m,ci q,.bool h,ci f,cu ep]) w1.drew:=HN.drew;refine ei _ aj _ hU hCa (by kernel_rfl) (by kernel_rfl) ?_;intro S;generalize w1.drew=wa at *;clear HR HS;clear HN hB;refine ao S hU [0,1,2,3,4,5,6,7] 22 7 hCa ?_;constructor
 ·intro W' hW';simp only[pick,List.filterMap,gq1,gq2,gq3];obtain⟨b0,b1,b2,b3,b4⟩:=hW'.c5
  repeat (go_big_quiet_step (fail))
  exact wpQuiet_nil rfl
 refine iy S hU 8 6 rfl hCa ?_;intro W1 hrW1 hcW1 K1 hK1;obtain⟨n1,rfl⟩:=hrW1;clear hcW1;have c10:=HRa.k 10;have fr:=HRa.o.free;go_wp2_with fail;refine hK1 _ _ ((hCa.drewN n1).ot hne 10 _) ?_;clear hK1;have hCawb:(fun W=>Row W B 43 #[ci m,ci q,.bool h,ci f,cu ep]) ((wa.drewN n1).setCell ⟨P,10,none⟩ (ci hw)):=(hCa.drewN n1).ot hne 10 _;have HRb:=qh (((HRa.o.drewN n1).set 10 (ci hw)).to (cs':=#[ci at_,ci lf,dec,.bool sw,cu wd,ci nm,ci ns,.bool nh,ci nf,cu ne,ci hw,ci sm,ci ss,.bool sh,ci sf,cu se,ci err,ci st]) rfl);have HSb:=qh ((HSa.o.drewN n1).sc P 10 (ci hw));generalize ((wa.drewN n1).setCell ⟨P,10,none⟩ (ci hw))=wb at *;clear c10 fr HRa HSa hCa;refine ao S hU [9,10] 22 4 hCawb ?_;constructor
 ·intro W' hW';simp only[pick,List.filterMap,gq1,gq2,gq3]
  repeat (go_big_quiet_step (fail))
  exact wpQuiet_nil rfl
 refine iy S hU 11 3 rfl hCawb ?_;intro W1 hrW1 hcW1 K1 hK1;obtain⟨n1,rfl⟩:=hrW1;clear hcW1;have c11:=HRb.k 11;have c12:=HRb.k 12;have c13:=HRb.k 13;have c14:=HRb.k 14;have c15:=HRb.k 15;have fr:=HRb.o.free;go_wp2_with fail;refine hK1 _ _ ((((((hCawb.drewN n1).ot hne 11 _).ot hne 12 _).ot hne 13 _).ot hne 14 _).ot hne 15 _) ?_;clear hK1;have hCawbwc:(fun W=>Row W B 43 #[ci m,ci q,.bool h,ci f,cu ep]) ((((((wb.drewN n1).setCell ⟨P,11,none⟩ (ci m)).setCell ⟨P,12,none⟩ (ci q)).setCell ⟨P,13,none⟩ (.bool h)).setCell ⟨P,14,none⟩ (ci f)).setCell ⟨P,15,none⟩ (cu ep)):=(((((hCawb.drewN n1).ot hne 11 _).ot hne 12 _).ot hne 13 _).ot hne 14 _).ot hne 15 _
 have HRc:=qh (((((((HRb.o.drewN n1).set 11 (ci m)).set 12 (ci q)).set 13 (.bool h)).set 14 (ci f)).set 15 (cu ep)).to (cs':=#[ci at_,ci lf,dec,.bool sw,cu wd,ci nm,ci ns,.bool nh,ci nf,cu ne,ci hw,ci m,ci q,.bool h,ci f,cu ep,ci err,ci st]) rfl);have HSc:=qh ((((((HSb.o.drewN n1).sc P 11 (ci m)).sc P 12 (ci q)).sc P 13 (.bool h)).sc P 14 (ci f)).sc P 15 (cu ep));generalize ((((((wb.drewN n1).setCell ⟨P,11,none⟩ (ci m)).setCell ⟨P,12,none⟩ (ci q)).setCell ⟨P,13,none⟩ (.bool h)).setCell ⟨P,14,none⟩ (ci f)).setCell ⟨P,15,none⟩ (cu ep))=wc at *;clear c11 c12 c13 c14 c15 fr HRb HSb hCawb;refine ao S hU [12,13] 22 1 hCawbwc ?_;constructor
 ·intro W' hW';simp only[pick,List.filterMap,gq1,gq2,gq3]
  repeat (go_big_quiet_step (fail))
  exact wpQuiet_nil rfl
 refine iy S hU 14 0 rfl hCawbwc ?_;intro W1 hrW1 hcW1 K1 hK1;obtain⟨n1,rfl⟩:=hrW1;clear hcW1;have c16:=HRc.k 16;have fr:=HRc.o.free;go_wp2_with fail;refine hK1 _ _ ((hCawbwc.drewN n1).ot hne 16 _) ?_;clear hK1;have hCawbwcwd_:(fun W=>Row W B 43 #[ci m,ci q,.bool h,ci f,cu ep]) ((wc.drewN n1).setCell ⟨P,16,none⟩ (ci er)):=(hCawbwc.drewN n1).ot hne 16 _;have HRd:=qh (((HRc.o.drewN n1).set 16 (ci er)).to (cs':=#[ci at_,ci lf,dec,.bool sw,cu wd,ci nm,ci ns,.bool nh,ci nf,cu ne,ci hw,ci m,ci q,.bool h,ci f,cu ep,ci er,ci st]) rfl);have HSd:=qh ((HSc.o.drewN n1).sc P 16 (ci er));generalize ((wc.drewN n1).setCell ⟨P,16,none⟩ (ci er))=wd_ at *;clear c16 fr HRc HSc;refine jt ?_;intro w9 hrw9;refine NoPanic.normal ?_;obtain⟨n9,rfl⟩:=hrw9;go_wp2;go_ret;exact⟨rfl,HSd.o.drewN n9,(HRd.o.drewN n9).to rfl⟩
theorem b0d{w:World}{P:Nat}{o:AOp}{hw:Nat}{hw':Int}(hh:hw'=hw)(s:St)(er:Int)(hr:Row w P 239 o.cells):Calls Tryz.prog 151 #[pt P,ci hw',.agg s.cells,ci er] w fun e w'=>e=.returned (ci hw')∧ab [P] w w'∧Row w' P 239 (AOp.cells {o with how:=hw,state:=s,err:=er}):=by
 subst hh;exact c9y w P o hw s er hr
theorem b4v(x:St)(w:World)(b:Nat)(a:Ask)(hb:Row w b 185 a.cells)(H:jj w):Calls Tryz.prog 144 #[.agg x.cells,pt b] w fun e w'=>(∃(s:St)(er:Int),js er∧e=.returned (.tuple #[.agg s.cells,ci er]))∧Below w.heap.size w w':=by
 obtain⟨m,s,h,f,ep⟩:=x;obtain⟨qs,qm,qf⟩:=a;simp only[St.cells,Ask.cells] at *;have R1:=Row.new (w.alloc (.cells #[ci m,ci s,.bool h,ci f,cu ep] 43)) 43 #[ci 0,ci 0,.bool false,ci 0,cu 0];have B1:=qh (af (af (brf w) (.cells #[ci m,ci s,.bool h,ci f,cu ep] 43)) (.cells #[ci 0,ci 0,.bool false,ci 0,cu 0] 43));have hz:(w.alloc (.cells #[ci m,ci s,.bool h,ci f,cu ep] 43)).heap.size=w.heap.size+1:=by simp
 rw[hz] at R1;have RR1:=qh R1;have hlt:=hb.lt;obtain⟨d0,d1,d2⟩:=hb.c3;have hcall:=qh (b7x ⟨m,s,h,f,ep⟩ ⟨qs,qm,qf⟩ _ (H.bel B1.o));have B1':=B1;clear hb R1 hz
 go_enter Tryz.func144,Tryz.ntmps144
 go_wp2_with (first|(go_at_call 145;refine hcall.o.mono ?_;rintro e w_ ⟨⟨⟨ym,ys,yh,yf,ye⟩,er,her,rfl⟩,hb⟩;have r1:=RR1.o.bel hb;obtain⟨i0,i1,i2,i3,i4⟩:=r1.c5;have ifr:=r1.free;have HR1:=qh r1;have HER:=qh her;have HB:=qh (bt B1.o hb);clear hb her r1))
 refine bodyPost_ret (ap rfl _ _ (w.heap.size+1) 43 _ (0,0) _ rfl (((((HR1.o.set 0 (ci ym)).set 1 (ci ys)).set 2 (.bool yh)).set 3 (ci yf)).set 4 (cu ye)).at_ Tryz.underlying43 rfl (by kernel_rfl)) rfl ?_;exact⟨⟨⟨ym,ys,yh,yf,ye⟩,er,HER.o,rfl⟩,em HB.o (by omega) _ _ _ _ _⟩
theorem b8g(x:St)(w:World)(b:Nat)(fl:Int)(hb:Row w b 3 #[ci fl]):Calls Tryz.prog 146 #[.agg x.cells,pt b] w fun e w'=>(∃(s:St)(er:Int),js er∧e=.returned (.tuple #[.agg s.cells,ci er]))∧Below w.heap.size w w':=by
 obtain⟨m,s,h,f,ep⟩:=x;simp only[St.cells] at *;have R1:=Row.new (w.alloc (.cells #[ci m,ci s,.bool h,ci f,cu ep] 43)) 43 #[ci 0,ci 0,.bool false,ci 0,cu 0];have B1:=qh (af (af (brf w) (.cells #[ci m,ci s,.bool h,ci f,cu ep] 43)) (.cells #[ci 0,ci 0,.bool false,ci 0,cu 0] 43));have hz:(w.alloc (.cells #[ci m,ci s,.bool h,ci f,cu ep] 43)).heap.size=w.heap.size+1:=by simp
 rw[hz] at R1;have RR1:=qh R1;have hlt:=hb.lt;have d0:=hb.k 0;have hcall:=qh (b7w ⟨m,s,h,f,ep⟩ fl ((w.alloc (.cells #[ci m,ci s,.bool h,ci f,cu ep] 43)).alloc (.cells #[ci 0,ci 0,.bool false,ci 0,cu 0] 43)));have B1':=B1;clear hb R1 hz
 go_enter Tryz.func146,Tryz.ntmps146
 go_wp2_with (first|(go_at_call 147;refine hcall.o.mono ?_;rintro e w_ ⟨⟨⟨ym,ys,yh,yf,ye⟩,er,her,rfl⟩,hb⟩;have r1:=RR1.o.bel hb;obtain⟨i0,i1,i2,i3,i4⟩:=r1.c5;have ifr:=r1.free;have HR1:=qh r1;have HER:=qh her;have HB:=qh (bt B1.o hb);clear hb her r1))
 refine bodyPost_ret (ap rfl _ _ (w.heap.size+1) 43 _ (0,0) _ rfl (((((HR1.o.set 0 (ci ym)).set 1 (ci ys)).set 2 (.bool yh)).set 3 (ci yf)).set 4 (cu ye)).at_ Tryz.underlying43 rfl (by kernel_rfl)) rfl ?_;exact⟨⟨⟨ym,ys,yh,yf,ye⟩,er,HER.o,rfl⟩,em HB.o (by omega) _ _ _ _ _⟩
def Dec(W:World)(v:Value):Prop:=v=.nilFunc∨(∃(b:Nat)(a:Ask),v=.func (.func 144) #[] #[pt b]∧Row W b 185 a.cells)∨∃(b:Nat)(fl:Int),v=.func (.func 146) #[] #[pt b]∧Row W b 3 #[ci fl]
theorem xj(n:Nat)(h1:1≤n)(h2:n≤16)(w:World):Calls Tryz.prog 143 #[ci n] w fun e w'=>e=.returned (.bool true)∧w=w':=by
 have t1:decide ((1:Int)≤n)=true:=dqt (by omega)
 go_enter Tryz.func143,Tryz.ntmps143
 go_wp2;go_ret;exact⟨bq (by simp;omega),rfl⟩
theorem xo(n:Nat)(h1:1≤n)(h2:n≤16)(w:World):Calls Tryz.prog 97 #[ci n] w fun e w'=>e=.returned (ci (2*n:Nat))∧w=w':=by
 have hm:=xj n h1 h2
 go_enter Tryz.func97,Tryz.ntmps97
 go_wp2_with (first|(go_at_call 143;refine(hm _).mono ?_;rintro e w_ ⟨rfl,rfl⟩))
 go_ret;exact⟨nr (by omega),rfl⟩
theorem c8o(n:Nat)(w:World):Calls Tryz.prog 98 #[ci n] w fun e w'=>e=.returned (.tuple #[pt w.heap.size,ci 0])∧Below w.heap.size w w'∧Row w' w.heap.size 239 (AOp.cells ⟨n,0,.nilFunc,false,0,St.zero,0,St.zero,0,0⟩):=by
 go_enter Tryz.func98,Tryz.ntmps98
 go_wp2
 go_ret2
 exact⟨rfl,af (Below.refl _ w) _,Row.new w 239 _⟩
theorem c9x(w:World)(P:Nat)(o:AOp)(hr:Row w P 239 o.cells):Calls Tryz.prog 104 #[pt P] w fun e w'=>e=.returned (ci (if o.how=1 then o.steps else 0:Nat))∧w=w':=by
 obtain⟨at_,lf,dec,sw,wd,⟨nm,ns,nh,nf,ne⟩,how,⟨sm,ss,sh,sf,se⟩,err,st⟩:=o;simp only[AOp.cells] at *;have c10:=hr.k 10;have c17:=hr.k 17;clear hr;by_cases h:how=1
 ·subst h
  go_enter Tryz.func104,Tryz.ntmps104
  go_wp2;go_ret;exact⟨rfl,rfl⟩
 ·have t1:((how:Int)==1)=false:=bfn.2 (by omega);rw[if_neg h];clear h
  go_enter Tryz.func104,Tryz.ntmps104
  go_wp2;go_ret;exact⟨rfl,rfl⟩
end Go.Proofs.YtojkaibpfdhmaaaGreatDoor

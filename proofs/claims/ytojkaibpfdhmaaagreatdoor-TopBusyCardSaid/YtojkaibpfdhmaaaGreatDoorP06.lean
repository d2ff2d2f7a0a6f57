/- Contracts of package reg: Decide, Health, loosely. -/
import Derived.Test.YtojkaibpfdhmaaaGreatDoorP05
namespace Go.Proofs.YtojkaibpfdhmaaaGreatDoor
open Go.RowKit
set_option maxRecDepth 100000
set_option maxHeartbeats 16000000
theorem vi(n:Int):∃y:Nat,IntKind.u64.wrap n=y:=by
 have:IntKind.u64.wrap n=n%18446744073709551616:=by simp[IntKind.wrap,IntKind.bits,IntKind.signed]
 rw[this];exact⟨(n%18446744073709551616).toNat,by omega⟩
theorem b7w(x:St)(fl:Int)(w:World):Calls Tryz.prog 147 #[.agg x.cells,ci fl] w fun e w'=>(∃(s:St)(er:Int),js er∧e=.returned (.tuple #[.agg s.cells,ci er]))∧Below w.heap.size w w':=by
 obtain⟨er,her,-,hmay⟩:=b0p x;have hh:=b0c fl;obtain⟨m,s,h,f,ep⟩:=x;obtain⟨y,hy⟩:=vi ((ep:Int)+1);have R0:=(Row.new w 43 #[ci m,ci s,.bool h,ci f,cu ep]).alloc (.cells #[ci 0,ci 0,.bool false,ci 0,cu 0] 43);have R1:=Row.new (w.alloc (.cells #[ci m,ci s,.bool h,ci f,cu ep] 43)) 43 #[ci 0,ci 0,.bool false,ci 0,cu 0];have B0:=af (af (brf w) (.cells #[ci m,ci s,.bool h,ci f,cu ep] 43)) (.cells #[ci 0,ci 0,.bool false,ci 0,cu 0] 43);have hz:(w.alloc (.cells #[ci m,ci s,.bool h,ci f,cu ep] 43)).heap.size=w.heap.size+1:=by simp
 rw[hz] at R1;clear hz;have RR0:=qh R0;have RR1:=qh R1;have HB0:=qh B0;clear R0 R1 B0;simp only[St.cells] at hmay;rcases her with rfl|rfl|rfl
 ·by_cases c:0≤fl∧fl≤63
  ·rw[dqt c] at hh;clear c
   go_enter Tryz.func147,Tryz.ntmps147
   go_wp2_with (first|(go_at_call 185;refine(hmay _).mono ?_;rintro e w_ ⟨rfl,hb⟩;have hR0:=RR0.o.bel hb;obtain⟨e0,e1,e2,e3,e4⟩:=hR0.c5;have ef:=hR0.free;have hR1:=RR1.o.bel hb;obtain⟨i0,i1,i2,i3,i4⟩:=hR1.c5;have ifr:=hR1.free;have HR0:=qh hR0;have HR1:=qh hR1;have HB:=qh (bt HB0.o hb);clear hb hR0 hR1)|(go_at_call 186;refine(hh _).mono ?_;rintro e w2_ ⟨rfl,rfl⟩))
   ·refine bodyPost_ret (ap rfl _ _ (w.heap.size+1) 43 _ (0,0) _ rfl (((((HR1.o.set 0 (ci 0)).set 1 (ci 0)).set 2 (.bool false)).set 3 (ci 0)).set 4 (cu 0)).at_ Tryz.underlying43 rfl (by kernel_rfl)) rfl ?_;exact⟨⟨⟨0,0,false,0,0⟩,16,⟨by decide,by decide⟩,rfl⟩,em HB.o (by omega) _ _ _ _ _⟩
   ·refine bodyPost_ret (ap rfl _ _ (w.heap.size+1) 43 _ (0,0) _ rfl (((((((HR1.o.other (a:=⟨w.heap.size,3,none⟩) (show w.heap.size+1≠w.heap.size by omega) (ci fl)).other (a:=⟨w.heap.size,4,none⟩) (show w.heap.size+1≠w.heap.size by omega) (cu y)).set 0 (ci m)).set 1 (ci s)).set 2 (.bool h)).set 3 (ci fl)).set 4 (cu y)).at_ Tryz.underlying43 rfl (by kernel_rfl)) rfl ?_;exact⟨⟨⟨m,s,h,fl,y⟩,0,⟨by decide,by decide⟩,rfl⟩,em (bf (bf HB.o (nlr _) _ _) (nlr _) _ _) (by omega) _ _ _ _ _⟩
  ·rw[dqf c] at hh;clear c
   go_enter Tryz.func147,Tryz.ntmps147
   go_wp2_with (first|(go_at_call 185;refine(hmay _).mono ?_;rintro e w_ ⟨rfl,hb⟩;have hR0:=RR0.o.bel hb;obtain⟨e0,e1,e2,e3,e4⟩:=hR0.c5;have ef:=hR0.free;have hR1:=RR1.o.bel hb;obtain⟨i0,i1,i2,i3,i4⟩:=hR1.c5;have ifr:=hR1.free;have HR0:=qh hR0;have HR1:=qh hR1;have HB:=qh (bt HB0.o hb);clear hb hR0 hR1)|(go_at_call 186;refine(hh _).mono ?_;rintro e w2_ ⟨rfl,rfl⟩))
   refine bodyPost_ret (ap rfl _ _ (w.heap.size+1) 43 _ (0,0) _ rfl (((((HR1.o.set 0 (ci 0)).set 1 (ci 0)).set 2 (.bool false)).set 3 (ci 0)).set 4 (cu 0)).at_ Tryz.underlying43 rfl (by kernel_rfl)) rfl ?_;exact⟨⟨⟨0,0,false,0,0⟩,10,⟨by decide,by decide⟩,rfl⟩,em HB.o (by omega) _ _ _ _ _⟩
 ·go_enter Tryz.func147,Tryz.ntmps147
  go_wp2_with (first|(go_at_call 185;refine(hmay _).mono ?_;rintro e w_ ⟨rfl,hb⟩;have hR0:=RR0.o.bel hb;obtain⟨e0,e1,e2,e3,e4⟩:=hR0.c5;have ef:=hR0.free;have hR1:=RR1.o.bel hb;obtain⟨i0,i1,i2,i3,i4⟩:=hR1.c5;have ifr:=hR1.free;have HR0:=qh hR0;have HR1:=qh hR1;have HB:=qh (bt HB0.o hb);clear hb hR0 hR1)|(go_at_call 186;refine(hh _).mono ?_;rintro e w2_ ⟨rfl,rfl⟩))
  refine bodyPost_ret (ap rfl _ _ (w.heap.size+1) 43 _ (0,0) _ rfl (((((HR1.o.set 0 (ci 0)).set 1 (ci 0)).set 2 (.bool false)).set 3 (ci 0)).set 4 (cu 0)).at_ Tryz.underlying43 rfl (by kernel_rfl)) rfl ?_;exact⟨⟨⟨0,0,false,0,0⟩,1,⟨by decide,by decide⟩,rfl⟩,em HB.o (by omega) _ _ _ _ _⟩
 ·go_enter Tryz.func147,Tryz.ntmps147
  go_wp2_with (first|(go_at_call 185;refine(hmay _).mono ?_;rintro e w_ ⟨rfl,hb⟩;have hR0:=RR0.o.bel hb;obtain⟨e0,e1,e2,e3,e4⟩:=hR0.c5;have ef:=hR0.free;have hR1:=RR1.o.bel hb;obtain⟨i0,i1,i2,i3,i4⟩:=hR1.c5;have ifr:=hR1.free;have HR0:=qh hR0;have HR1:=qh hR1;have HB:=qh (bt HB0.o hb);clear hb hR0 hR1)|(go_at_call 186;refine(hh _).mono ?_;rintro e w2_ ⟨rfl,rfl⟩))
  refine bodyPost_ret (ap rfl _ _ (w.heap.size+1) 43 _ (0,0) _ rfl (((((HR1.o.set 0 (ci 0)).set 1 (ci 0)).set 2 (.bool false)).set 3 (ci 0)).set 4 (cu 0)).at_ Tryz.underlying43 rfl (by kernel_rfl)) rfl ?_;exact⟨⟨⟨0,0,false,0,0⟩,1,⟨by decide,by decide⟩,rfl⟩,em HB.o (by omega) _ _ _ _ _⟩
theorem b7x(x:St)(a:Ask)(w:World)(H:jj w):Calls Tryz.prog 145 #[.agg x.cells,.agg a.cells] w fun e w'=>(∃(s:St)(er:Int),js er∧e=.returned (.tuple #[.agg s.cells,ci er]))∧Below w.heap.size w w':=by
 have k1:=c4q x a;have k2:=b7y x a;have k3:=c4r x a;have k4:=c4s x a;have k5:=c7x x a;have k6:=c0d x a;have k7:=c4t x a;obtain⟨m,s,h,f,ep⟩:=x;obtain⟨qs,qm,qf⟩:=a;obtain⟨y,hy⟩:=vi ((ep:Int)+1);simp only[St.cells,Ask.cells];simp only[fh] at k1 k2 k3 k4 k5 k6 k7;have z1:(w.alloc (.cells #[ci m,ci s,.bool h,ci f,cu ep] 43)).heap.size=w.heap.size+1:=by simp
 have z2:((w.alloc (.cells #[ci m,ci s,.bool h,ci f,cu ep] 43)).alloc (.cells #[ci qs,ci qm,.bool qf] 185)).heap.size=w.heap.size+1+1:=by simp
 have z3:(((w.alloc (.cells #[ci m,ci s,.bool h,ci f,cu ep] 43)).alloc (.cells #[ci qs,ci qm,.bool qf] 185)).alloc (.cells #[ci 0,ci 0,.bool false,ci 0,cu 0] 43)).heap.size=w.heap.size+1+1+1:=by simp
 have z4:((((w.alloc (.cells #[ci m,ci s,.bool h,ci f,cu ep] 43)).alloc (.cells #[ci qs,ci qm,.bool qf] 185)).alloc (.cells #[ci 0,ci 0,.bool false,ci 0,cu 0] 43)).alloc (.cells #[ci m,ci s,.bool h,ci f,cu ep,ci qs,ci qm,.bool qf] 271)).heap.size=w.heap.size+1+1+1+1:=by simp
 have r0:=((((Row.new w 43 #[ci m,ci s,.bool h,ci f,cu ep]).alloc (.cells #[ci qs,ci qm,.bool qf] 185)).alloc (.cells #[ci 0,ci 0,.bool false,ci 0,cu 0] 43)).alloc (.cells #[ci m,ci s,.bool h,ci f,cu ep,ci qs,ci qm,.bool qf] 271)).alloc (.cells #[.func (.func 178) #[.agg #[ci m,ci s,.bool h,ci f,cu ep,ci qs,ci qm,.bool qf]] #[],.func (.func 179) #[.agg #[ci m,ci s,.bool h,ci f,cu ep,ci qs,ci qm,.bool qf]] #[],.func (.func 180) #[.agg #[ci m,ci s,.bool h,ci f,cu ep,ci qs,ci qm,.bool qf]] #[],.func (.func 181) #[.agg #[ci m,ci s,.bool h,ci f,cu ep,ci qs,ci qm,.bool qf]] #[],.func (.func 182) #[.agg #[ci m,ci s,.bool h,ci f,cu ep,ci qs,ci qm,.bool qf]] #[],.func (.func 183) #[.agg #[ci m,ci s,.bool h,ci f,cu ep,ci qs,ci qm,.bool qf]] #[],.func (.func 184) #[.agg #[ci m,ci s,.bool h,ci f,cu ep,ci qs,ci qm,.bool qf]] #[]] 107)
 have r1:=(((Row.new (w.alloc (.cells #[ci m,ci s,.bool h,ci f,cu ep] 43)) 185 #[ci qs,ci qm,.bool qf]).alloc (.cells #[ci 0,ci 0,.bool false,ci 0,cu 0] 43)).alloc (.cells #[ci m,ci s,.bool h,ci f,cu ep,ci qs,ci qm,.bool qf] 271)).alloc (.cells #[.func (.func 178) #[.agg #[ci m,ci s,.bool h,ci f,cu ep,ci qs,ci qm,.bool qf]] #[],.func (.func 179) #[.agg #[ci m,ci s,.bool h,ci f,cu ep,ci qs,ci qm,.bool qf]] #[],.func (.func 180) #[.agg #[ci m,ci s,.bool h,ci f,cu ep,ci qs,ci qm,.bool qf]] #[],.func (.func 181) #[.agg #[ci m,ci s,.bool h,ci f,cu ep,ci qs,ci qm,.bool qf]] #[],.func (.func 182) #[.agg #[ci m,ci s,.bool h,ci f,cu ep,ci qs,ci qm,.bool qf]] #[],.func (.func 183) #[.agg #[ci m,ci s,.bool h,ci f,cu ep,ci qs,ci qm,.bool qf]] #[],.func (.func 184) #[.agg #[ci m,ci s,.bool h,ci f,cu ep,ci qs,ci qm,.bool qf]] #[]] 107)
 have r2:=((Row.new ((w.alloc (.cells #[ci m,ci s,.bool h,ci f,cu ep] 43)).alloc (.cells #[ci qs,ci qm,.bool qf] 185)) 43 #[ci 0,ci 0,.bool false,ci 0,cu 0]).alloc (.cells #[ci m,ci s,.bool h,ci f,cu ep,ci qs,ci qm,.bool qf] 271)).alloc (.cells #[.func (.func 178) #[.agg #[ci m,ci s,.bool h,ci f,cu ep,ci qs,ci qm,.bool qf]] #[],.func (.func 179) #[.agg #[ci m,ci s,.bool h,ci f,cu ep,ci qs,ci qm,.bool qf]] #[],.func (.func 180) #[.agg #[ci m,ci s,.bool h,ci f,cu ep,ci qs,ci qm,.bool qf]] #[],.func (.func 181) #[.agg #[ci m,ci s,.bool h,ci f,cu ep,ci qs,ci qm,.bool qf]] #[],.func (.func 182) #[.agg #[ci m,ci s,.bool h,ci f,cu ep,ci qs,ci qm,.bool qf]] #[],.func (.func 183) #[.agg #[ci m,ci s,.bool h,ci f,cu ep,ci qs,ci qm,.bool qf]] #[],.func (.func 184) #[.agg #[ci m,ci s,.bool h,ci f,cu ep,ci qs,ci qm,.bool qf]] #[]] 107)
 have r4:=Row.new ((((w.alloc (.cells #[ci m,ci s,.bool h,ci f,cu ep] 43)).alloc (.cells #[ci qs,ci qm,.bool qf] 185)).alloc (.cells #[ci 0,ci 0,.bool false,ci 0,cu 0] 43)).alloc (.cells #[ci m,ci s,.bool h,ci f,cu ep,ci qs,ci qm,.bool qf] 271)) 107 #[.func (.func 178) #[.agg #[ci m,ci s,.bool h,ci f,cu ep,ci qs,ci qm,.bool qf]] #[],.func (.func 179) #[.agg #[ci m,ci s,.bool h,ci f,cu ep,ci qs,ci qm,.bool qf]] #[],.func (.func 180) #[.agg #[ci m,ci s,.bool h,ci f,cu ep,ci qs,ci qm,.bool qf]] #[],.func (.func 181) #[.agg #[ci m,ci s,.bool h,ci f,cu ep,ci qs,ci qm,.bool qf]] #[],.func (.func 182) #[.agg #[ci m,ci s,.bool h,ci f,cu ep,ci qs,ci qm,.bool qf]] #[],.func (.func 183) #[.agg #[ci m,ci s,.bool h,ci f,cu ep,ci qs,ci qm,.bool qf]] #[],.func (.func 184) #[.agg #[ci m,ci s,.bool h,ci f,cu ep,ci qs,ci qm,.bool qf]] #[]];rw[z1] at r1;rw[z2] at r2;rw[z4] at r4
 have b5:=af (af (af (af (af (brf w) (.cells #[ci m,ci s,.bool h,ci f,cu ep] 43)) (.cells #[ci qs,ci qm,.bool qf] 185)) (.cells #[ci 0,ci 0,.bool false,ci 0,cu 0] 43)) (.cells #[ci m,ci s,.bool h,ci f,cu ep,ci qs,ci qm,.bool qf] 271)) (.cells #[.func (.func 178) #[.agg #[ci m,ci s,.bool h,ci f,cu ep,ci qs,ci qm,.bool qf]] #[],.func (.func 179) #[.agg #[ci m,ci s,.bool h,ci f,cu ep,ci qs,ci qm,.bool qf]] #[],.func (.func 180) #[.agg #[ci m,ci s,.bool h,ci f,cu ep,ci qs,ci qm,.bool qf]] #[],.func (.func 181) #[.agg #[ci m,ci s,.bool h,ci f,cu ep,ci qs,ci qm,.bool qf]] #[],.func (.func 182) #[.agg #[ci m,ci s,.bool h,ci f,cu ep,ci qs,ci qm,.bool qf]] #[],.func (.func 183) #[.agg #[ci m,ci s,.bool h,ci f,cu ep,ci qs,ci qm,.bool qf]] #[],.func (.func 184) #[.agg #[ci m,ci s,.bool h,ci f,cu ep,ci qs,ci qm,.bool qf]] #[]] 107);have R0:=qh r0;have R1:=qh r1
 have R2:=qh r2;have R4:=qh r4;have B5:=qh b5;clear r0 r1 r2 r4 b5 z1 z2 z3 z4
 go_enter Tryz.func145,Tryz.ntmps145
 go_wp2_with fail;generalize (((((w.alloc (.cells #[ci m,ci s,.bool h,ci f,cu ep] 43)).alloc (.cells #[ci qs,ci qm,.bool qf] 185)).alloc (.cells #[ci 0,ci 0,.bool false,ci 0,cu 0] 43)).alloc (.cells #[ci m,ci s,.bool h,ci f,cu ep,ci qs,ci qm,.bool qf] 271)).alloc (.cells #[.func (.func 178) #[.agg #[ci m,ci s,.bool h,ci f,cu ep,ci qs,ci qm,.bool qf]] #[],.func (.func 179) #[.agg #[ci m,ci s,.bool h,ci f,cu ep,ci qs,ci qm,.bool qf]] #[],.func (.func 180) #[.agg #[ci m,ci s,.bool h,ci f,cu ep,ci qs,ci qm,.bool qf]] #[],.func (.func 181) #[.agg #[ci m,ci s,.bool h,ci f,cu ep,ci qs,ci qm,.bool qf]] #[],.func (.func 182) #[.agg #[ci m,ci s,.bool h,ci f,cu ep,ci qs,ci qm,.bool qf]] #[],.func (.func 183) #[.agg #[ci m,ci s,.bool h,ci f,cu ep,ci qs,ci qm,.bool qf]] #[],.func (.func 184) #[.agg #[ci m,ci s,.bool h,ci f,cu ep,ci qs,ci qm,.bool qf]] #[]] 107))=w5 at *;have H5:=H.bel B5.o
 have HR0:=qh (brf w5);clear H
 go_loopw [29] (fun i wr=>∃k:Nat,k≤7∧i=ci k∧Hd (Below w5.heap.size w5 wr)) (fun i _=>7-(intOf i).toNat)
 case atStart=>exact⟨0,by omega,rfl,HR0⟩
 case round=>
  clear HR0;obtain⟨k,hk,rfl,HB⟩:=hrel;have r0:=R0.o.bel HB.o;have r1:=R1.o.bel HB.o;have r2:=R2.o.bel HB.o;have r4:=R4.o.bel HB.o;have Hr:=H5.bel HB.o;by_cases hk7:k<7
  ·have fin:∀(n:Nat)(er:Int)(w':World),js er→Below wr.heap.size wr w'→True:=fun _ _ _ _ _=>trivial;clear fin;rcases (by omega:k=0∨k=1∨k=2∨k=3∨k=4∨k=5∨k=6) with rfl|rfl|rfl|rfl|rfl|rfl|rfl
   ·have c:=r4.k 0;have e2:=r2.c5;obtain⟨i0,i1,i2,i3,i4⟩:=e2;have hc:=k1 wr Hr;clear r0 r1 r2 r4 k1 k2 k3 k4 k5 k6 k7
    go_wp2_with (first|(go_at_call 178;refine hc.mono ?_;rintro e w_ ⟨⟨er,her,rfl⟩,hb⟩;have HB2:=qh (bt HB.o hb);have hr2:=R2.o.bel HB2.o;obtain⟨j0,j1,j2,j3,j4⟩:=hr2.c5;have jf:=hr2.free;have HR2:=qh hr2;have HER:=qh her;clear hb hr2 her i0 i1 i2 i3 i4 c))
    ·refine bodyPost_ret (ap rfl _ _ (w.heap.size+1+1) 43 _ (0,0) _ rfl (((((HR2.o.set 0 (ci 0)).set 1 (ci 0)).set 2 (.bool false)).set 3 (ci 0)).set 4 (cu 0)).at_ Tryz.underlying43 rfl (by kernel_rfl)) rfl ?_;exact⟨⟨⟨0,0,false,0,0⟩,er,HER.o,rfl⟩,em (bt B5.o HB2.o) (by omega) _ _ _ _ _⟩
    ·go_roundw
     case rel=>exact⟨1,by omega,rfl,HB2⟩
     case measure=>simp only[intOf];decide
   ·have c:=r4.k 1;have e2:=r2.c5;obtain⟨i0,i1,i2,i3,i4⟩:=e2;have hc:=k2 wr Hr;clear r0 r1 r2 r4 k1 k2 k3 k4 k5 k6 k7
    go_wp2_with (first|(go_at_call 179;refine hc.mono ?_;rintro e w_ ⟨⟨er,her,rfl⟩,hb⟩;have HB2:=qh (bt HB.o hb);have hr2:=R2.o.bel HB2.o;obtain⟨j0,j1,j2,j3,j4⟩:=hr2.c5;have jf:=hr2.free;have HR2:=qh hr2;have HER:=qh her;clear hb hr2 her i0 i1 i2 i3 i4 c))
    ·refine bodyPost_ret (ap rfl _ _ (w.heap.size+1+1) 43 _ (0,0) _ rfl (((((HR2.o.set 0 (ci 0)).set 1 (ci 0)).set 2 (.bool false)).set 3 (ci 0)).set 4 (cu 0)).at_ Tryz.underlying43 rfl (by kernel_rfl)) rfl ?_;exact⟨⟨⟨0,0,false,0,0⟩,er,HER.o,rfl⟩,em (bt B5.o HB2.o) (by omega) _ _ _ _ _⟩
    ·go_roundw
     case rel=>exact⟨2,by omega,rfl,HB2⟩
     case measure=>simp only[intOf];decide
   ·have c:=r4.k 2;have e2:=r2.c5;obtain⟨i0,i1,i2,i3,i4⟩:=e2;have hc:=k3 wr Hr;clear r0 r1 r2 r4 k1 k2 k3 k4 k5 k6 k7
    go_wp2_with (first|(go_at_call 180;refine hc.mono ?_;rintro e w_ ⟨⟨er,her,rfl⟩,hb⟩;have HB2:=qh (bt HB.o hb);have hr2:=R2.o.bel HB2.o;obtain⟨j0,j1,j2,j3,j4⟩:=hr2.c5;have jf:=hr2.free;have HR2:=qh hr2;have HER:=qh her;clear hb hr2 her i0 i1 i2 i3 i4 c))
    ·refine bodyPost_ret (ap rfl _ _ (w.heap.size+1+1) 43 _ (0,0) _ rfl (((((HR2.o.set 0 (ci 0)).set 1 (ci 0)).set 2 (.bool false)).set 3 (ci 0)).set 4 (cu 0)).at_ Tryz.underlying43 rfl (by kernel_rfl)) rfl ?_;exact⟨⟨⟨0,0,false,0,0⟩,er,HER.o,rfl⟩,em (bt B5.o HB2.o) (by omega) _ _ _ _ _⟩
    ·go_roundw
     case rel=>exact⟨3,by omega,rfl,HB2⟩
     case measure=>simp only[intOf];decide
   ·have c:=r4.k 3;have e2:=r2.c5;obtain⟨i0,i1,i2,i3,i4⟩:=e2;have hc:=k4 wr Hr;clear r0 r1 r2 r4 k1 k2 k3 k4 k5 k6 k7
    go_wp2_with (first|(go_at_call 181;refine hc.mono ?_;rintro e w_ ⟨⟨er,her,rfl⟩,hb⟩;have HB2:=qh (bt HB.o hb);have hr2:=R2.o.bel HB2.o;obtain⟨j0,j1,j2,j3,j4⟩:=hr2.c5;have jf:=hr2.free;have HR2:=qh hr2;have HER:=qh her;clear hb hr2 her i0 i1 i2 i3 i4 c))
    ·refine bodyPost_ret (ap rfl _ _ (w.heap.size+1+1) 43 _ (0,0) _ rfl (((((HR2.o.set 0 (ci 0)).set 1 (ci 0)).set 2 (.bool false)).set 3 (ci 0)).set 4 (cu 0)).at_ Tryz.underlying43 rfl (by kernel_rfl)) rfl ?_;exact⟨⟨⟨0,0,false,0,0⟩,er,HER.o,rfl⟩,em (bt B5.o HB2.o) (by omega) _ _ _ _ _⟩
    ·go_roundw
     case rel=>exact⟨4,by omega,rfl,HB2⟩
     case measure=>simp only[intOf];decide
   ·have c:=r4.k 4;have e2:=r2.c5;obtain⟨i0,i1,i2,i3,i4⟩:=e2;have hc:=k5 wr Hr;clear r0 r1 r2 r4 k1 k2 k3 k4 k5 k6 k7
    go_wp2_with (first|(go_at_call 182;refine hc.mono ?_;rintro e w_ ⟨⟨er,her,rfl⟩,hb⟩;have HB2:=qh (bt HB.o hb);have hr2:=R2.o.bel HB2.o;obtain⟨j0,j1,j2,j3,j4⟩:=hr2.c5;have jf:=hr2.free;have HR2:=qh hr2;have HER:=qh her;clear hb hr2 her i0 i1 i2 i3 i4 c))
    ·refine bodyPost_ret (ap rfl _ _ (w.heap.size+1+1) 43 _ (0,0) _ rfl (((((HR2.o.set 0 (ci 0)).set 1 (ci 0)).set 2 (.bool false)).set 3 (ci 0)).set 4 (cu 0)).at_ Tryz.underlying43 rfl (by kernel_rfl)) rfl ?_;exact⟨⟨⟨0,0,false,0,0⟩,er,HER.o,rfl⟩,em (bt B5.o HB2.o) (by omega) _ _ _ _ _⟩
    ·go_roundw
     case rel=>exact⟨5,by omega,rfl,HB2⟩
     case measure=>simp only[intOf];decide
   ·have c:=r4.k 5;have e2:=r2.c5;obtain⟨i0,i1,i2,i3,i4⟩:=e2;have hc:=k6 wr Hr;clear r0 r1 r2 r4 k1 k2 k3 k4 k5 k6 k7
    go_wp2_with (first|(go_at_call 183;refine hc.mono ?_;rintro e w_ ⟨⟨er,her,rfl⟩,hb⟩;have HB2:=qh (bt HB.o hb);have hr2:=R2.o.bel HB2.o;obtain⟨j0,j1,j2,j3,j4⟩:=hr2.c5;have jf:=hr2.free;have HR2:=qh hr2;have HER:=qh her;clear hb hr2 her i0 i1 i2 i3 i4 c))
    ·refine bodyPost_ret (ap rfl _ _ (w.heap.size+1+1) 43 _ (0,0) _ rfl (((((HR2.o.set 0 (ci 0)).set 1 (ci 0)).set 2 (.bool false)).set 3 (ci 0)).set 4 (cu 0)).at_ Tryz.underlying43 rfl (by kernel_rfl)) rfl ?_;exact⟨⟨⟨0,0,false,0,0⟩,er,HER.o,rfl⟩,em (bt B5.o HB2.o) (by omega) _ _ _ _ _⟩
    ·go_roundw
     case rel=>exact⟨6,by omega,rfl,HB2⟩
     case measure=>simp only[intOf];decide
   ·have c:=r4.k 6;have e2:=r2.c5;obtain⟨i0,i1,i2,i3,i4⟩:=e2;have hc:=k7 wr Hr;clear r0 r1 r2 r4 k1 k2 k3 k4 k5 k6 k7
    go_wp2_with (first|(go_at_call 184;refine hc.mono ?_;rintro e w_ ⟨⟨er,her,rfl⟩,hb⟩;have HB2:=qh (bt HB.o hb);have hr2:=R2.o.bel HB2.o;obtain⟨j0,j1,j2,j3,j4⟩:=hr2.c5;have jf:=hr2.free;have HR2:=qh hr2;have HER:=qh her;clear hb hr2 her i0 i1 i2 i3 i4 c))
    ·refine bodyPost_ret (ap rfl _ _ (w.heap.size+1+1) 43 _ (0,0) _ rfl (((((HR2.o.set 0 (ci 0)).set 1 (ci 0)).set 2 (.bool false)).set 3 (ci 0)).set 4 (cu 0)).at_ Tryz.underlying43 rfl (by kernel_rfl)) rfl ?_;exact⟨⟨⟨0,0,false,0,0⟩,er,HER.o,rfl⟩,em (bt B5.o HB2.o) (by omega) _ _ _ _ _⟩
    ·go_roundw
     case rel=>exact⟨7,by omega,rfl,HB2⟩
     case measure=>simp only[intOf];decide
  ·have hk':k=7:=by omega
   subst hk';have HBx:=qh (bt B5.o HB.o);have X0:=qh r0;have X2:=qh r2;have X1:=qh r1;obtain⟨c0,c1,c2,c3,c4⟩:=r0.c5;have cf:=r0.free;obtain⟨d0,d1,d2⟩:=r1.c3;obtain⟨e0,e1,e2,e3,e4⟩:=r2.c5;have ef:=r2.free;clear r0 r1 r2 r4 k1 k2 k3 k4 k5 k6 k7 hk7 hk H5 Hr;go_wp2
   all_goals have hne:w.heap.size+1+1≠w.heap.size:=by omega
   ·(refine bodyPost_ret (ap rfl _ _ (w.heap.size+1+1) 43 _ (0,0) _ rfl (((((((((X2.o.ot hne 4 (cu y)).ot hne 0 (ci 7)).ot hne 1 (ci 3)).ot hne 2 (.bool true)).set 0 (ci 7)).set 1 (ci 3)).set 2 (.bool true)).set 3 (ci f)).set 4 (cu y)).at_ Tryz.underlying43 rfl (by kernel_rfl)) rfl ?_;exact⟨⟨⟨7,3,true,f,y⟩,0,⟨by decide,by decide⟩,rfl⟩,em (bf (bf (bf (bf HBx.o (nlr _) 4 (cu y)) (nlr _) 0 (ci 7)) (nlr _) 1 (ci 3)) (nlr _) 2 (.bool true)) (by omega) _ _ _ _ _⟩)
   ·(refine bodyPost_ret (ap rfl _ _ (w.heap.size+1+1) 43 _ (0,0) _ rfl (((((((((X2.o.ot hne 4 (cu y)).ot hne 0 (ci qm)).ot hne 1 (ci 0)).ot hne 2 (.bool false)).set 0 (ci qm)).set 1 (ci 0)).set 2 (.bool false)).set 3 (ci f)).set 4 (cu y)).at_ Tryz.underlying43 rfl (by kernel_rfl)) rfl ?_;exact⟨⟨⟨qm,0,false,f,y⟩,0,⟨by decide,by decide⟩,rfl⟩,em (bf (bf (bf (bf HBx.o (nlr _) 4 (cu y)) (nlr _) 0 (ci qm)) (nlr _) 1 (ci 0)) (nlr _) 2 (.bool false)) (by omega) _ _ _ _ _⟩)
   ·(refine bodyPost_ret (ap rfl _ _ (w.heap.size+1+1) 43 _ (0,0) _ rfl ((((((((X2.o.ot hne 4 (cu y)).ot hne 0 (ci qm)).ot hne 1 (ci 3)).set 0 (ci qm)).set 1 (ci 3)).set 2 (.bool h)).set 3 (ci f)).set 4 (cu y)).at_ Tryz.underlying43 rfl (by kernel_rfl)) rfl ?_;exact⟨⟨⟨qm,3,h,f,y⟩,0,⟨by decide,by decide⟩,rfl⟩,em (bf (bf (bf HBx.o (nlr _) 4 (cu y)) (nlr _) 0 (ci qm)) (nlr _) 1 (ci 3)) (by omega) _ _ _ _ _⟩)
   ·(refine bodyPost_ret (ap rfl _ _ (w.heap.size+1+1) 43 _ (0,0) _ rfl (((((((((X2.o.ot hne 4 (cu y)).ot hne 0 (ci qm)).ot hne 1 (ci 0)).ot hne 2 (.bool false)).set 0 (ci qm)).set 1 (ci 0)).set 2 (.bool false)).set 3 (ci f)).set 4 (cu y)).at_ Tryz.underlying43 rfl (by kernel_rfl)) rfl ?_;exact⟨⟨⟨qm,0,false,f,y⟩,0,⟨by decide,by decide⟩,rfl⟩,em (bf (bf (bf (bf HBx.o (nlr _) 4 (cu y)) (nlr _) 0 (ci qm)) (nlr _) 1 (ci 0)) (nlr _) 2 (.bool false)) (by omega) _ _ _ _ _⟩)
   ·(refine bodyPost_ret (ap rfl _ _ (w.heap.size+1+1) 43 _ (0,0) _ rfl ((((((((X2.o.ot hne 4 (cu y)).ot hne 0 (ci qm)).ot hne 1 (ci qs)).set 0 (ci qm)).set 1 (ci qs)).set 2 (.bool h)).set 3 (ci f)).set 4 (cu y)).at_ Tryz.underlying43 rfl (by kernel_rfl)) rfl ?_;exact⟨⟨⟨qm,qs,h,f,y⟩,0,⟨by decide,by decide⟩,rfl⟩,em (bf (bf (bf HBx.o (nlr _) 4 (cu y)) (nlr _) 0 (ci qm)) (nlr _) 1 (ci qs)) (by omega) _ _ _ _ _⟩)
end Go.Proofs.YtojkaibpfdhmaaaGreatDoor

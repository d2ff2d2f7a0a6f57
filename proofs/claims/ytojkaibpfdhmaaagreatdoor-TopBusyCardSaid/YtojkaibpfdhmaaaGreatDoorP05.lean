/- Contracts of package reg: what a request is told, loosely. -/
import Derived.Test.YtojkaibpfdhmaaaGreatDoorP02
import Derived.Test.YtojkaibpfdhmaaaGreatDoorP04
import Derived.Test.YtojkaibpfdhmaaaGreatDoorP01
namespace Go.Proofs.YtojkaibpfdhmaaaGreatDoor
open Go.RowKit
set_option maxRecDepth 100000
set_option maxHeartbeats 16000000
theorem b7l(n:Int)(w:World):Calls Tryz.prog 249 #[ci n] w fun e w'=>e=.returned (.bool (decide (0≤n∧n<8)))∧w=w':=by
 by_cases h0:0≤n
 ·have t1:decide ((0:Int)≤n)=true:=dqt h0
  go_enter Tryz.func249,Tryz.ntmps249
  go_wp2;go_ret;exact⟨bq (by first|rfl|(rw[Bool.eq_iff_iff];simp;omega)|(rw[Bool.eq_iff_iff];simp)),rfl⟩
 ·have t1:decide ((0:Int)≤n)=false:=dqf h0
  go_enter Tryz.func249,Tryz.ntmps249
  go_wp2;go_ret;exact⟨bq (by first|rfl|(rw[Bool.eq_iff_iff];simp;omega)|(rw[Bool.eq_iff_iff];simp)),rfl⟩
structure jj(W:World):Prop where
 at_:∀i j:Nat,i<8→j<8→∃v:Int,W.cell? (ae 4 (i*8+j))=some (ci v)
theorem c2n(a b:Int)(w:World)(H:jj w):Calls Tryz.prog 242 #[ci a,ci b] w fun e w'=>(∃v:Int,e=.returned (ci v))∧w=w':=by
 have ha:=b7l a;have hb:=b7l b;by_cases h0:0≤a∧a<8
 ·rw[dqt h0] at ha;by_cases h1:0≤b∧b<8
  ·rw[dqt h1] at hb;obtain⟨i,rfl⟩:∃i:Nat,a=i:=⟨a.toNat,by omega⟩;obtain⟨j,rfl⟩:∃j:Nat,b=j:=⟨b.toNat,by omega⟩;obtain⟨v,hv⟩:=H.at_ i j (by omega) (by omega)
   go_enter Tryz.func242,Tryz.ntmps242
   go_wp2_with (first|(go_at_call 249;with_reducible refine(ha _).mono ?_;rintro e w_ ⟨rfl,rfl⟩)|(go_at_call 249;with_reducible refine(hb _).mono ?_;rintro e w_ ⟨rfl,rfl⟩))
   go_ret;exact⟨⟨_,rfl⟩,rfl⟩
  ·rw[dqf h1] at hb
   go_enter Tryz.func242,Tryz.ntmps242
   go_wp2_with (first|(go_at_call 249;with_reducible refine(ha _).mono ?_;rintro e w_ ⟨rfl,rfl⟩)|(go_at_call 249;with_reducible refine(hb _).mono ?_;rintro e w_ ⟨rfl,rfl⟩))
   go_ret;exact⟨⟨_,rfl⟩,rfl⟩
 ·rw[dqf h0] at ha
  go_enter Tryz.func242,Tryz.ntmps242
  go_wp2_with (first|(go_at_call 249;with_reducible refine(ha _).mono ?_;rintro e w_ ⟨rfl,rfl⟩))
  go_ret;exact⟨⟨_,rfl⟩,rfl⟩
theorem b7m(n:Int)(w:World):Calls Tryz.prog 218 #[ci n] w fun e w'=>e=.returned (.bool (decide (0≤n∧n<8)))∧w=w':=by
 by_cases h0:0≤n
 ·have t1:decide ((0:Int)≤n)=true:=dqt h0
  go_enter Tryz.func218,Tryz.ntmps218
  go_wp2;go_ret;exact⟨bq (by first|rfl|(rw[Bool.eq_iff_iff];simp;omega)|(rw[Bool.eq_iff_iff];simp)),rfl⟩
 ·have t1:decide ((0:Int)≤n)=false:=dqf h0
  go_enter Tryz.func218,Tryz.ntmps218
  go_wp2;go_ret;exact⟨bq (by first|rfl|(rw[Bool.eq_iff_iff];simp;omega)|(rw[Bool.eq_iff_iff];simp)),rfl⟩
theorem b0j(n:Int)(w:World):Calls Tryz.prog 217 #[ci n] w fun e w'=>e=.returned (.bool (decide (0≤n∧n<4)))∧w=w':=by
 by_cases h0:0≤n
 ·have t1:decide ((0:Int)≤n)=true:=dqt h0
  go_enter Tryz.func217,Tryz.ntmps217
  go_wp2;go_ret;exact⟨bq (by first|rfl|(rw[Bool.eq_iff_iff];simp;omega)|(rw[Bool.eq_iff_iff];simp)),rfl⟩
 ·have t1:decide ((0:Int)≤n)=false:=dqf h0
  go_enter Tryz.func217,Tryz.ntmps217
  go_wp2;go_ret;exact⟨bq (by first|rfl|(rw[Bool.eq_iff_iff];simp;omega)|(rw[Bool.eq_iff_iff];simp)),rfl⟩
theorem b0c(n:Int)(w:World):Calls Tryz.prog 186 #[ci n] w fun e w'=>e=.returned (.bool (decide (0≤n∧n≤63)))∧w=w':=by
 by_cases h0:0≤n
 ·have t1:decide ((0:Int)≤n)=true:=dqt h0
  go_enter Tryz.func186,Tryz.ntmps186
  go_wp2;go_ret;exact⟨bq (by first|rfl|(rw[Bool.eq_iff_iff];simp;omega)|(rw[Bool.eq_iff_iff];simp)),rfl⟩
 ·have t1:decide ((0:Int)≤n)=false:=dqf h0
  go_enter Tryz.func186,Tryz.ntmps186
  go_wp2;go_ret;exact⟨bq (by first|rfl|(rw[Bool.eq_iff_iff];simp;omega)|(rw[Bool.eq_iff_iff];simp)),rfl⟩
structure St where
 m:Int
 s:Int
 h:Bool
 f:Int
 e:Nat
abbrev St.cells(x:St):Array Value:=#[ci x.m,ci x.s,.bool x.h,ci x.f,cu x.e]
def St.zero:St:=⟨0,0,false,0,0⟩
def St.fits(x:St):Prop:=(0≤x.m∧x.m<8)∧(0≤x.s∧x.s<4)∧(0≤x.f∧x.f≤63)∧x.e<4503599627370496
theorem b0p(x:St):∃er:Int,(er=0∨er=10∨er=1)∧(er=0→x.fits)∧∀w,Calls Tryz.prog 185 #[.agg x.cells] w fun e w'=>e=.returned (ci er)∧Below w.heap.size w w':=by
 obtain⟨m,s,h,f,ep⟩:=x;have hm:=b7m m;have hs:=b0j s;have hf:=b0c f;have HB:∀w:World,Hd (Below w.heap.size w (w.alloc (.cells #[ci m,ci s,.bool h,ci f,cu ep] 43))):=fun w=>qh ((brf w).alloc (nlr _) _);by_cases h1:0≤m∧m<8
 ·rw[dqt h1] at hm;by_cases h2:0≤s∧s<4
  ·rw[dqt h2] at hs;by_cases h3:0≤f∧f≤63
   ·rw[dqt h3] at hf;by_cases h4:ep<4503599627370496
    ·have t4:decide ((4503599627370496:Int)≤ep)=false:=dqf (by omega);have hfit:Hd (St.fits ⟨m,s,h,f,ep⟩):=qh ⟨h1,h2,h3,h4⟩;cases h
     ·refine⟨0,Or.inl rfl,fun _=>hfit.o,fun w=>?_⟩;have HBw:=HB w;clear HB hfit h1 h2 h3
      go_enter Tryz.func185,Tryz.ntmps185
      go_wp2_with (first|(go_at_call 218;refine(hm _).mono ?_;rintro e w_ ⟨rfl,rfl⟩)|(go_at_call 217;refine(hs _).mono ?_;rintro e w_ ⟨rfl,rfl⟩)|(go_at_call 186;refine(hf _).mono ?_;rintro e w_ ⟨rfl,rfl⟩))
      go_ret;exact⟨rfl,HBw.o⟩
     ·by_cases h5:s=3
      ·have t5:(s==3)=true:=beq_iff_eq.2 h5;refine⟨0,Or.inl rfl,fun _=>hfit.o,fun w=>?_⟩;have HBw:=HB w;clear HB hfit h1 h2 h3 h5
       go_enter Tryz.func185,Tryz.ntmps185
       go_wp2_with (first|(go_at_call 218;refine(hm _).mono ?_;rintro e w_ ⟨rfl,rfl⟩)|(go_at_call 217;refine(hs _).mono ?_;rintro e w_ ⟨rfl,rfl⟩)|(go_at_call 186;refine(hf _).mono ?_;rintro e w_ ⟨rfl,rfl⟩))
       go_ret;exact⟨rfl,HBw.o⟩
      ·have t5:(s==3)=false:=bfn.2 h5;refine⟨1,Or.inr (Or.inr rfl),fun h=>(by cases h),fun w=>?_⟩;have HBw:=HB w;clear HB hfit h1 h2 h3 h5
       go_enter Tryz.func185,Tryz.ntmps185
       go_wp2_with (first|(go_at_call 218;refine(hm _).mono ?_;rintro e w_ ⟨rfl,rfl⟩)|(go_at_call 217;refine(hs _).mono ?_;rintro e w_ ⟨rfl,rfl⟩)|(go_at_call 186;refine(hf _).mono ?_;rintro e w_ ⟨rfl,rfl⟩))
       go_ret;exact⟨rfl,HBw.o⟩
    ·have t4:decide ((4503599627370496:Int)≤ep)=true:=dqt (by omega);refine⟨10,Or.inr (Or.inl rfl),fun h=>(by cases h),fun w=>?_⟩;have HBw:=HB w;clear HB h1 h2 h3
     go_enter Tryz.func185,Tryz.ntmps185
     go_wp2_with (first|(go_at_call 218;refine(hm _).mono ?_;rintro e w_ ⟨rfl,rfl⟩)|(go_at_call 217;refine(hs _).mono ?_;rintro e w_ ⟨rfl,rfl⟩)|(go_at_call 186;refine(hf _).mono ?_;rintro e w_ ⟨rfl,rfl⟩))
     go_ret;exact⟨rfl,HBw.o⟩
   ·rw[dqf h3] at hf;refine⟨10,Or.inr (Or.inl rfl),fun h=>(by cases h),fun w=>?_⟩;have HBw:=HB w;clear HB h1 h2 h3
    go_enter Tryz.func185,Tryz.ntmps185
    go_wp2_with (first|(go_at_call 218;refine(hm _).mono ?_;rintro e w_ ⟨rfl,rfl⟩)|(go_at_call 217;refine(hs _).mono ?_;rintro e w_ ⟨rfl,rfl⟩)|(go_at_call 186;refine(hf _).mono ?_;rintro e w_ ⟨rfl,rfl⟩))
    go_ret;exact⟨rfl,HBw.o⟩
  ·rw[dqf h2] at hs;refine⟨10,Or.inr (Or.inl rfl),fun h=>(by cases h),fun w=>?_⟩;have HBw:=HB w;clear HB h1 h2
   go_enter Tryz.func185,Tryz.ntmps185
   go_wp2_with (first|(go_at_call 218;refine(hm _).mono ?_;rintro e w_ ⟨rfl,rfl⟩)|(go_at_call 217;refine(hs _).mono ?_;rintro e w_ ⟨rfl,rfl⟩)|(go_at_call 186;refine(hf _).mono ?_;rintro e w_ ⟨rfl,rfl⟩))
   go_ret;exact⟨rfl,HBw.o⟩
 ·rw[dqf h1] at hm;refine⟨10,Or.inr (Or.inl rfl),fun h=>(by cases h),fun w=>?_⟩;have HBw:=HB w;clear HB h1
  go_enter Tryz.func185,Tryz.ntmps185
  go_wp2_with (first|(go_at_call 218;refine(hm _).mono ?_;rintro e w_ ⟨rfl,rfl⟩)|(go_at_call 217;refine(hs _).mono ?_;rintro e w_ ⟨rfl,rfl⟩)|(go_at_call 186;refine(hf _).mono ?_;rintro e w_ ⟨rfl,rfl⟩))
  go_ret;exact⟨rfl,HBw.o⟩
theorem qp(a b:Int)(h1:0≤a∧a<18446744073709551616)(h3:0≤b∧b<18446744073709551616):∃n:Nat,n<18446744073709551616∧bits .or .u64 a b=(n:Int):=by
 refine⟨a.toNat ||| b.toNat,?_,u64_or a b h1.1 h1.2 h3.1 h3.2⟩;exact Nat.or_lt_two_pow (n:=64) (by omega) (by omega)
theorem b7b(x:St)(w:World):Calls Tryz.prog 149 #[.agg x.cells] w fun e w'=>∃(n:Nat)(er:Int),n<18446744073709551616∧(er=0∨er=10∨er=1)∧e=.returned (.tuple #[cu n,ci er])∧Below w.heap.size w w':=by
 obtain⟨er,her,hfit,hmay⟩:=b0p x;obtain⟨m,s,h,f,ep⟩:=x;have R0:=Row.new w 43 #[ci m,ci s,.bool h,ci f,cu ep];have B0:=qh ((brf w).alloc (nlr _) (.cells #[ci m,ci s,.bool h,ci f,cu ep] 43));have RH:=qh R0;clear R0;rcases her with rfl|rfl|rfl
 ·obtain⟨⟨a1,a2⟩,⟨b1,b2⟩,⟨c1,c2⟩,d⟩:=hfit rfl
  go_enter Tryz.func149,Tryz.ntmps149
  go_wp2_with (first|(go_at_call 185;refine(hmay _).mono ?_;rintro e w_ ⟨rfl,hb⟩;have r2:=RH.o.bel hb;obtain⟨c0,c1,c2,c3,c4⟩:=r2.c5;have HB:=qh (bt B0.o hb);clear hb r2))
  ·go_ret2
   obtain⟨n1,l1,e1⟩:=qp m (s*8) ⟨by omega,by omega⟩ ⟨by omega,by omega⟩;rw[e1];obtain⟨n2,l2,e2⟩:=qp n1 (f*64) ⟨by omega,by omega⟩ ⟨by omega,by omega⟩;rw[e2];obtain⟨n3,l3,e3⟩:=qp n2 (ep*4096) ⟨by omega,by omega⟩ ⟨by omega,by omega⟩;rw[e3];obtain⟨n4,l4,e4⟩:=qp n3 32 ⟨by omega,by omega⟩ ⟨by omega,by omega⟩;rw[e4];exact⟨n4,0,l4,Or.inl rfl,rfl,HB.o⟩
  ·go_ret2
   obtain⟨n1,l1,e1⟩:=qp m (s*8) ⟨by omega,by omega⟩ ⟨by omega,by omega⟩;rw[e1];obtain⟨n2,l2,e2⟩:=qp n1 (f*64) ⟨by omega,by omega⟩ ⟨by omega,by omega⟩;rw[e2];obtain⟨n3,l3,e3⟩:=qp n2 (ep*4096) ⟨by omega,by omega⟩ ⟨by omega,by omega⟩;rw[e3];exact⟨n3,0,l3,Or.inl rfl,rfl,HB.o⟩
 ·go_enter Tryz.func149,Tryz.ntmps149
  go_wp2_with (first|(go_at_call 185;refine(hmay _).mono ?_;rintro e w_ ⟨rfl,hb⟩;have HB:=qh (bt B0.o hb);clear hb))
  go_ret2
  exact⟨0,10,by omega,Or.inr (Or.inl rfl),rfl,HB.o⟩
 ·go_enter Tryz.func149,Tryz.ntmps149
  go_wp2_with (first|(go_at_call 185;refine(hmay _).mono ?_;rintro e w_ ⟨rfl,hb⟩;have HB:=qh (bt B0.o hb);clear hb))
  go_ret2
  exact⟨0,1,by omega,Or.inr (Or.inr rfl),rfl,HB.o⟩
theorem bf{W0 W:World}(h:Below W0.heap.size W0 W){b:Nat}(hb:W0.heap.size≤b)(i:Nat)(v:Value):Below W0.heap.size W0 (W.setCell ⟨b,i,none⟩ v):=
 h.trans ((sj (W:=W) b i v).below h.size (by simpa using hb))
theorem c5k{W0 W:World}(h:Below W0.heap.size W0 W):Below W0.heap.size W0 W.drew:=below_drewN h 1
theorem em{W0 W:World}(h:Below W0.heap.size W0 W){b:Nat}(hb:W0.heap.size≤b)(v0 v1 v2 v3 v4:Value):Below W0.heap.size W0 (((((W.setCell ⟨b,0,none⟩ v0).setCell ⟨b,1,none⟩ v1).setCell ⟨b,2,none⟩ v2).setCell ⟨b,3,none⟩ v3).setCell ⟨b,4,none⟩ v4):=
 bf (bf (bf (bf (bf h hb _ _) hb _ _) hb _ _) hb _ _) hb _ _
def qi(x a e:Nat):Int:=wrap64 (bits .and .u64 ((x:Int) / 2 ^ a) (IntKind.u64.wrap (IntKind.u64.wrap (2 ^ (e-a))-1)))
theorem c6a(b x:Nat)(at_ en:Nat)(h0:at_<en)(h1:en≤64)(h3:at_≤12)(h2:en≤12)(w:World)(hb:w.cell? (ae b 0)=some (cu x)):Calls Tryz.prog 221 #[ci at_,ci en,pt b] w fun e w'=>e=.returned (ci (qi x at_ en))∧∃n,w'=w.drewN n:=by
 go_enter Tryz.func221,Tryz.ntmps221
 go_wp2
 go_quiet (fail)
 go_wp2;go_ret;exact⟨rfl,nq,rfl⟩
theorem b8h(x:Nat)(w:World):Calls Tryz.prog 187 #[cu x] w fun e w'=>∃(s:St)(er:Int),(er=0∨er=11)∧e=.returned (.tuple #[.agg s.cells,ci er])∧Below w.heap.size w w':=by
 have hp:∀(a e:Nat),a<e→e≤12→∀W:World,W.cell? (ae w.heap.size 0)=some (cu x)→Calls Tryz.prog 221 #[ci a,ci e,pt w.heap.size] W fun e_ w'=>e_=.returned (ci (qi x a e))∧Below W.heap.size W w':=fun a e h1 h2 W h=>by
  refine(c6a w.heap.size x a e h1 (by omega) (by omega) h2 W h).mono ?_;rintro e_ w' ⟨rfl,n,rfl⟩;exact⟨rfl,below_drewN (Below.refl _ _) n⟩
 have p1:∀W:World,W.cell? (ae w.heap.size 0)=some (cu x)→Calls Tryz.prog 221 #[ci 0,ci 3,pt w.heap.size] W fun e_ w'=>e_=.returned (ci (qi x 0 3))∧Below W.heap.size W w':=hp 0 3 (by omega) (by omega);have p2:∀W:World,W.cell? (ae w.heap.size 0)=some (cu x)→Calls Tryz.prog 221 #[ci 3,ci 5,pt w.heap.size] W fun e_ w'=>e_=.returned (ci (qi x 3 5))∧Below W.heap.size W w':=hp 3 5 (by omega) (by omega);have p3:∀W:World,W.cell? (ae w.heap.size 0)=some (cu x)→Calls Tryz.prog 221 #[ci 5,ci 6,pt w.heap.size] W fun e_ w'=>e_=.returned (ci (qi x 5 6))∧Below W.heap.size W w':=hp 5 6 (by omega) (by omega);have p4:∀W:World,W.cell? (ae w.heap.size 0)=some (cu x)→Calls Tryz.prog 221 #[ci 6,ci 12,pt w.heap.size] W fun e_ w'=>e_=.returned (ci (qi x 6 12))∧Below W.heap.size W w':=hp 6 12 (by omega) (by omega);have R0:=(Row.new w 41 #[cu x]).alloc (.cells #[ci 0,ci 0,.bool false,ci 0,cu 0] 43)
 have R1:=Row.new (w.alloc (.cells #[cu x] 41)) 43 #[ci 0,ci 0,.bool false,ci 0,cu 0];have B0:=af (af (brf w) (.cells #[cu x] 41)) (.cells #[ci 0,ci 0,.bool false,ci 0,cu 0] 43);have hz:(w.alloc (.cells #[cu x] 41)).heap.size=w.heap.size+1:=by simp
 rw[hz] at R1;clear hp hz;generalize qi x 0 3=v1 at *;generalize qi x 3 5=v2 at *;generalize qi x 5 6=v3 at *;generalize qi x 6 12=v4 at *
 go_enter Tryz.func187,Tryz.ntmps187
 go_wp2_with fail;generalize (w.alloc (.cells #[cu x] 41)).alloc (.cells #[ci 0,ci 0,.bool false,ci 0,cu 0] 43)=w1 at *;have HR0:=qh R0;have HB1:=qh B0;have HR1:=qh R1;clear R0 R1 B0;have hU:Ups (fun W W'=>∃g:ag W,W'=g.to) (fun W=>Below w1.heap.size w1 W):=⟨fun h hb=>bt hb (a7 h)⟩;have hC0:=(brf w1).drew;refine tx 12 (some 5) w1 43 #[ci 0,ci 0,.bool false,ci 0,cu 0] hU hC0 ?_ ?_
 ·intro K a W hCW hK;unfold wpOp;go_simp;exact Or.inl (hK _ _ (af (Below.refl _ W) _) ⟨hCW.size,Row.new W 43 _⟩)
 intro S;refine ao S hU [0,1,2,3,4,5,6,7,8,9,10,11] 24 2 hC0 ?_;constructor
 ·intro W' hW';simp only[pick,List.filterMap,gq1,gq2,gq3];have c0:=ag.cell ((HR0.o.bel hW').k 0)
  repeat (go_big_quiet_step (first|(go_at_call 221;with_reducible refine Calls.later (p1 _ (c0 _)))|(go_at_call 221;with_reducible refine Calls.later (p2 _ (c0 _)))|(go_at_call 221;with_reducible refine Calls.later (p3 _ (c0 _)))|(go_at_call 221;with_reducible refine Calls.later (p4 _ (c0 _)))))
  exact wpQuiet_nil rfl
 refine ip hU 1 _ _ _ (by kernel_rfl) hC0 (fun p W' hr hc hp=>?_);refine kf S hU (C':=fun W=>∃s:St,Below w1.heap.size w1 W∧w1.heap.size≤p∧Row W p 43 s.cells) (fun W h=>by obtain⟨s,h1,h2⟩:=h;exact h1) 13 _ 0 _ _ _ rfl (by kernel_rfl) (by kernel_rfl) hc ?_;intro W2 hr2 hc2 K2 hK2;have hp2:Row W2 p 43 #[ci 0,ci 0,.bool false,ci 0,cu 0]:=hp.2.bel (a7 hr2);have hpl:=hp.1;have hx4:∃y:Nat,(x:Int) / 4096=y:=⟨x / 4096,by omega⟩;obtain⟨y,hy⟩:=hx4;obtain⟨d0,d1,d2,d3,d4⟩:=hp2.c5;have df:=hp2.free;have HP2:=qh hp2;have HC2:=qh hc2;clear hp2 hr2 hr hp hc hc2 hC0;go_wp2;have HR3:=((((HP2.o.set 0 (ci v1)).set 1 (ci v2)).set 2 (.bool (v3==1))).set 3 (ci v4)).set 4 (cu y);have HB3:=em HC2.o hpl (ci v1) (ci v2) (.bool (v3==1)) (ci v4) (cu y);refine hK2 _ _ ⟨⟨v1,v2,v3==1,v4,y⟩,HB3,hpl,HR3.to rfl⟩ (c2o _ _ _ (by kernel_rfl) ?_);intro w4 hr4;have hb4:=a7 hr4
 have HR4:=qh ((HR3.bel hb4).to (cs':=St.cells ⟨v1,v2,v3==1,v4,y⟩) rfl);have HB4:=qh (bt HB3 hb4);clear hr4 hb4 HR3 HB3 d0 d1 d2 d3 d4 df HP2 HC2 hK2 S hU;obtain⟨er,her,-,hmay⟩:=b0p ⟨v1,v2,v3==1,v4,y⟩;simp only[St.cells] at HR4 hmay;generalize (v3==1)=v3b at *;obtain⟨d0,d1,d2,d3,d4⟩:=HR4.o.c5;have hR1:=HR1.o.bel HB4.o;obtain⟨e0,e1,e2,e3,e4⟩:=hR1.c5;have ef:=hR1.free;refine NoPanic.normal ?_;rcases her with rfl|rfl|rfl
 all_goals
  go_wp2_with (first|(go_at_call 185;refine(hmay _).mono ?_;rintro e w_ ⟨rfl,hb⟩;have hR2:=HR4.o.bel hb;obtain⟨f0,f1,f2,f3,f4⟩:=hR2.c5;have hR3:=hR1.bel hb;obtain⟨i0,i1,i2,i3,i4⟩:=hR3.c5;have ifr:=hR3.free;have HR3:=qh hR3;have HB5:=qh (bt HB4.o hb);clear hb hR2 hR3 d0 d1 d2 d3 d4 e0 e1 e2 e3 e4 ef))
 ·refine bodyPost_ret (ap rfl _ _ (w.heap.size+1) 43 _ (0,0) _ rfl (((((HR3.o.set 0 (ci v1)).set 1 (ci v2)).set 2 (.bool v3b)).set 3 (ci v4)).set 4 (cu y)).at_ Tryz.underlying43 rfl (by kernel_rfl)) rfl ?_;exact⟨⟨v1,v2,v3b,v4,y⟩,0,Or.inl rfl,rfl,em (bt HB1.o HB5.o) (by omega) _ _ _ _ _⟩
 ·refine bodyPost_ret (ap rfl _ _ (w.heap.size+1) 43 _ (0,0) _ rfl (((((HR3.o.set 0 (ci 0)).set 1 (ci 0)).set 2 (.bool false)).set 3 (ci 0)).set 4 (cu 0)).at_ Tryz.underlying43 rfl (by kernel_rfl)) rfl ?_;exact⟨⟨0,0,false,0,0⟩,11,Or.inr rfl,rfl,em (bt HB1.o HB5.o) (by omega) _ _ _ _ _⟩
 ·refine bodyPost_ret (ap rfl _ _ (w.heap.size+1) 43 _ (0,0) _ rfl (((((HR3.o.set 0 (ci 0)).set 1 (ci 0)).set 2 (.bool false)).set 3 (ci 0)).set 4 (cu 0)).at_ Tryz.underlying43 rfl (by kernel_rfl)) rfl ?_;exact⟨⟨0,0,false,0,0⟩,11,Or.inr rfl,rfl,em (bt HB1.o HB5.o) (by omega) _ _ _ _ _⟩
structure Ask where
 s:Int
 m:Int
 fr:Bool
abbrev Ask.cells(a:Ask):Array Value:=#[ci a.s,ci a.m,.bool a.fr]
abbrev fh(x:St)(a:Ask):Array Value:=#[ci x.m,ci x.s,.bool x.h,ci x.f,cu x.e,ci a.s,ci a.m,.bool a.fr]
def js(er:Int):Prop:=er≠19∧er≠20
theorem jj.bel{W W':World}(h:jj W)(hb:Below W.heap.size W W'):jj W':=⟨fun i j h1 h2=>by obtain⟨v,hv⟩:=h.at_ i j h1 h2;exact⟨v,(hb.cell (blc hv)).trans hv⟩⟩
theorem jj.lt{W:World}(h:jj W):4<W.heap.size:=by obtain⟨v,hv⟩:=h.at_ 0 0 (by omega) (by omega);exact blc hv
theorem c8y(a b:Int)(w:World)(H:jj w):Calls Tryz.prog 219 #[ci a,ci b] w fun e w'=>(∃v:Bool,e=.returned (.bool v))∧w=w':=by
 have hw:=c2n a b w H
 go_enter Tryz.func219,Tryz.ntmps219
 go_wp2_with (first|(go_at_call 242;refine hw.mono ?_;rintro e w_ ⟨⟨v,rfl⟩,rfl⟩))
 go_ret;exact⟨⟨_,rfl⟩,rfl⟩
theorem c2p(a b:Int)(w:World)(H:jj w):Calls Tryz.prog 220 #[ci a,ci b] w fun e w'=>(∃v u:Int,e=.returned (.tuple #[ci v,ci u]))∧w=w':=by
 have hw:=c2n a b w H
 go_enter Tryz.func220,Tryz.ntmps220
 go_wp2_with (first|(go_at_call 242;refine hw.mono ?_;rintro e w_ ⟨⟨v,rfl⟩,rfl⟩))
 go_ret2
 exact⟨⟨_,_,rfl⟩,rfl⟩
theorem c4q(x:St)(a:Ask)(w:World)(H:jj w):Calls Tryz.prog 178 #[.agg (fh x a)] w fun e w'=>(∃er:Int,js er∧e=.returned (ci er))∧Below w.heap.size w w':=by
 obtain⟨m,s,h,f,ep⟩:=x;obtain⟨qs,qm,qf⟩:=a;have R0:=Row.new w 271 (fh ⟨m,s,h,f,ep⟩ ⟨qs,qm,qf⟩);have B0:=qh ((brf w).alloc (nlr _) (.cells (fh ⟨m,s,h,f,ep⟩ ⟨qs,qm,qf⟩) 271));have H1:=H.bel B0.o;simp only[fh] at *;obtain⟨er,her,-,hmay⟩:=b0p ⟨m,s,h,f,ep⟩;simp only[St.cells] at hmay;clear H H1 R0;rcases her with rfl|rfl|rfl
 all_goals
  go_enter Tryz.func178,Tryz.ntmps178
  go_wp2_with (first|(go_at_call 185;refine(hmay _).mono ?_;rintro e w_ ⟨rfl,hb⟩;have B1:=qh (bt B0.o hb);clear hb))
  go_ret
  first|exact⟨⟨0,⟨by decide,by decide⟩,rfl⟩,B1.o⟩|exact⟨⟨1,⟨by decide,by decide⟩,rfl⟩,B1.o⟩
theorem b7y(x:St)(a:Ask)(w:World)(H:jj w):Calls Tryz.prog 179 #[.agg (fh x a)] w fun e w'=>(∃er:Int,js er∧e=.returned (ci er))∧Below w.heap.size w w':=by
 obtain⟨m,s,h,f,ep⟩:=x;obtain⟨qs,qm,qf⟩:=a;have R0:=Row.new w 271 (fh ⟨m,s,h,f,ep⟩ ⟨qs,qm,qf⟩);have B0:=qh ((brf w).alloc (nlr _) (.cells (fh ⟨m,s,h,f,ep⟩ ⟨qs,qm,qf⟩) 271));have H1:=H.bel B0.o;simp only[fh] at *;have h1:=b0j qs;have h2:=b7m qm;clear H H1 R0;by_cases c1:0≤qs∧qs<4
 ·rw[dqt c1] at h1;by_cases c2:0≤qm∧qm<8
  ·rw[dqt c2] at h2;clear c1 c2
   go_enter Tryz.func179,Tryz.ntmps179
   go_wp2_with (first|(go_at_call 217;refine(h1 _).mono ?_;rintro e w_ ⟨rfl,rfl⟩)|(go_at_call 218;refine(h2 _).mono ?_;rintro e w_ ⟨rfl,rfl⟩))
   go_ret;exact⟨⟨0,⟨by decide,by decide⟩,rfl⟩,B0.o⟩
  ·rw[dqf c2] at h2;clear c1 c2
   go_enter Tryz.func179,Tryz.ntmps179
   go_wp2_with (first|(go_at_call 217;refine(h1 _).mono ?_;rintro e w_ ⟨rfl,rfl⟩)|(go_at_call 218;refine(h2 _).mono ?_;rintro e w_ ⟨rfl,rfl⟩))
   go_ret;exact⟨⟨10,⟨by decide,by decide⟩,rfl⟩,B0.o⟩
 ·rw[dqf c1] at h1;clear c1
  go_enter Tryz.func179,Tryz.ntmps179
  go_wp2_with (first|(go_at_call 217;refine(h1 _).mono ?_;rintro e w_ ⟨rfl,rfl⟩)|(go_at_call 218;refine(h2 _).mono ?_;rintro e w_ ⟨rfl,rfl⟩))
  go_ret;exact⟨⟨10,⟨by decide,by decide⟩,rfl⟩,B0.o⟩
theorem c4r(x:St)(a:Ask)(w:World)(H:jj w):Calls Tryz.prog 180 #[.agg (fh x a)] w fun e w'=>(∃er:Int,js er∧e=.returned (ci er))∧Below w.heap.size w w':=by
 obtain⟨m,s,h,f,ep⟩:=x;obtain⟨qs,qm,qf⟩:=a;have R0:=Row.new w 271 (fh ⟨m,s,h,f,ep⟩ ⟨qs,qm,qf⟩);have B0:=qh ((brf w).alloc (nlr _) (.cells (fh ⟨m,s,h,f,ep⟩ ⟨qs,qm,qf⟩) 271));have H1:=H.bel B0.o;simp only[fh] at *;clear H H1 R0;cases h
 ·go_enter Tryz.func180,Tryz.ntmps180
  go_wp2;go_ret;exact⟨⟨0,⟨by decide,by decide⟩,rfl⟩,B0.o⟩
 ·go_enter Tryz.func180,Tryz.ntmps180
  go_wp2
  all_goals (go_ret;first|exact⟨⟨0,⟨by decide,by decide⟩,rfl⟩,B0.o⟩|exact⟨⟨23,⟨by decide,by decide⟩,rfl⟩,B0.o⟩)
theorem c4s(x:St)(a:Ask)(w:World)(H:jj w):Calls Tryz.prog 181 #[.agg (fh x a)] w fun e w'=>(∃er:Int,js er∧e=.returned (ci er))∧Below w.heap.size w w':=by
 obtain⟨m,s,h,f,ep⟩:=x;obtain⟨qs,qm,qf⟩:=a;have R0:=Row.new w 271 (fh ⟨m,s,h,f,ep⟩ ⟨qs,qm,qf⟩);have B0:=qh ((brf w).alloc (nlr _) (.cells (fh ⟨m,s,h,f,ep⟩ ⟨qs,qm,qf⟩) 271));have H1:=H.bel B0.o;simp only[fh] at *;clear H H1 R0;by_cases c:qs<s
 ·have t1:decide (qs<s)=true:=dqt c
  go_enter Tryz.func181,Tryz.ntmps181
  go_wp2
  all_goals (go_ret;first|exact⟨⟨0,⟨by decide,by decide⟩,rfl⟩,B0.o⟩|exact⟨⟨24,⟨by decide,by decide⟩,rfl⟩,B0.o⟩)
 ·have t1:decide (qs<s)=false:=dqf c
  go_enter Tryz.func181,Tryz.ntmps181
  go_wp2
  all_goals (go_ret;first|exact⟨⟨0,⟨by decide,by decide⟩,rfl⟩,B0.o⟩|exact⟨⟨24,⟨by decide,by decide⟩,rfl⟩,B0.o⟩)
theorem c7x(x:St)(a:Ask)(w:World)(H:jj w):Calls Tryz.prog 182 #[.agg (fh x a)] w fun e w'=>(∃er:Int,js er∧e=.returned (ci er))∧Below w.heap.size w w':=by
 obtain⟨m,s,h,f,ep⟩:=x;obtain⟨qs,qm,qf⟩:=a;have R0:=Row.new w 271 (fh ⟨m,s,h,f,ep⟩ ⟨qs,qm,qf⟩);have B0:=qh ((brf w).alloc (nlr _) (.cells (fh ⟨m,s,h,f,ep⟩ ⟨qs,qm,qf⟩) 271));have H1:=H.bel B0.o;simp only[fh] at *;have hw:=c8y m qm _ H1;clear H H1 R0
 go_enter Tryz.func182,Tryz.ntmps182
 go_wp2_with (first|(go_at_call 219;refine hw.mono ?_;rintro e w_ ⟨⟨v,rfl⟩,rfl⟩))
 all_goals (go_ret;first|exact⟨⟨0,⟨by decide,by decide⟩,rfl⟩,B0.o⟩|exact⟨⟨21,⟨by decide,by decide⟩,rfl⟩,B0.o⟩)
theorem c0d(x:St)(a:Ask)(w:World)(H:jj w):Calls Tryz.prog 183 #[.agg (fh x a)] w fun e w'=>(∃er:Int,js er∧e=.returned (ci er))∧Below w.heap.size w w':=by
 obtain⟨m,s,h,f,ep⟩:=x;obtain⟨qs,qm,qf⟩:=a;have R0:=Row.new w 271 (fh ⟨m,s,h,f,ep⟩ ⟨qs,qm,qf⟩);have B0:=qh ((brf w).alloc (nlr _) (.cells (fh ⟨m,s,h,f,ep⟩ ⟨qs,qm,qf⟩) 271));have H1:=H.bel B0.o;simp only[fh] at *;have hw:=c2p m qm _ H1;clear H H1 R0
 go_enter Tryz.func183,Tryz.ntmps183
 go_wp2_with (first|(go_at_call 220;refine hw.mono ?_;rintro e w_ ⟨⟨v,u,rfl⟩,rfl⟩))
 all_goals (go_ret;first|exact⟨⟨0,⟨by decide,by decide⟩,rfl⟩,B0.o⟩|exact⟨⟨22,⟨by decide,by decide⟩,rfl⟩,B0.o⟩)
theorem c4t(x:St)(a:Ask)(w:World)(H:jj w):Calls Tryz.prog 184 #[.agg (fh x a)] w fun e w'=>(∃er:Int,js er∧e=.returned (ci er))∧Below w.heap.size w w':=by
 obtain⟨m,s,h,f,ep⟩:=x;obtain⟨qs,qm,qf⟩:=a;have R0:=Row.new w 271 (fh ⟨m,s,h,f,ep⟩ ⟨qs,qm,qf⟩);have B0:=qh ((brf w).alloc (nlr _) (.cells (fh ⟨m,s,h,f,ep⟩ ⟨qs,qm,qf⟩) 271));have H1:=H.bel B0.o;simp only[fh] at *;clear H H1 R0
 go_enter Tryz.func184,Tryz.ntmps184
 go_wp2
 all_goals (go_ret;first|exact⟨⟨0,⟨by decide,by decide⟩,rfl⟩,B0.o⟩|exact⟨⟨16,⟨by decide,by decide⟩,rfl⟩,B0.o⟩)
end Go.Proofs.YtojkaibpfdhmaaaGreatDoor

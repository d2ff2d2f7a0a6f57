/- config.Check. -/
import Derived.Test.YtojkaibpfdhmaaaGreatDoorP13
import Derived.Test.YtojkaibpfdhmaaaGreatDoorP06
namespace Go.Proofs.YtojkaibpfdhmaaaGreatDoor
open Go.RowKit
set_option maxRecDepth 100000
set_option maxHeartbeats 16000000
theorem iz{P:Program}{fn:Func}{p:Tmp}{ty:TypeId}(h:fn.results=#[.cell p ty])(tmps:Array Value)(w:World)(g:Nat)(t:TypeId)(cs:Array Value)(fr:Nat × Nat)(d:TypeDesc)(hp:tmps.getD p undef=pt g)(hg:w.heap[g]?=some (.cells cs t fr))(hu:P.underlying ty=some d)(hd:(match d with | .struct _ | .array _ _=>true|_=>false)=true)(hi:(P.info? ty).map (·.size)=some cs.size):(results fn tmps).run P w=.ok (.agg cs) w:=by
 have hp':tmps[p]?.getD undef=pt g:=by simpa using hp
 simp[results,h,hp',asAddr,run_loadVar_row w g t ty cs fr d hg hu hd hi]
theorem qz{W0 W:World}(h:Below W0.heap.size W0 W){b:Nat}(hb:W0.heap.size≤b)(v0 v1:Value):Below W0.heap.size W0 ((W.setCell ⟨b,0,none⟩ v0).setCell ⟨b,1,none⟩ v1):=bf (bf h hb 0 v0) hb 1 v1
structure d0h(W W':World)(T tr lg:Int)(n k:Nat):Prop where
 w:W=W'
 t:1≤k→inB T 1 8=true
 n:2≤k→inB n 1 64=true
 r:3≤k→inB tr 1 16=true∧inB lg 1 64=true
structure c1f(w W:World)(J:Array Value)(l:List cj)(k:Nat):Prop where
 b:Below w.heap.size w W
 r:Row W (w.heap.size+1) 79 #[ci 0,ci 0]
 j:Row W (w.heap.size+1+1+1) 106 J
 m:∃n f,a8 Tryz.prog 9 W (w.heap.size+1+1) n f∧n≤k∧(k=0→f=fun _=>none)
 top:∀j x,j<k→l[j]?=some x→inB x.words 1 64=true∧inB x.depth 2 16=true
theorem jc{W0 W W':World}{M:List Nat}(h:Below W0.heap.size W0 W)(hs:ab M W W')(hm:∀x∈M,W0.heap.size≤x):Below W0.heap.size W0 W':=h.trans (hs.below h.size hm)
structure ml where
 tasks:Int
 topics:List cj
 tries:Int
 log:Int
structure ml.Ok(c:ml):Prop where
 t:inB c.tasks 1 8=true
 n:inB c.topics.length 1 64=true
 tr:inB c.tries 1 16=true
 lg:inB c.log 1 64=true
 top:∀x∈c.topics,inB x.words 1 64=true∧inB x.depth 2 16=true
def kw:ml:=⟨2,[⟨⟨#[97]⟩,1,2⟩],1,1⟩
theorem b7a(w:World)(T tr lg:Int)(a:Option Addr)(c:Nat)(l:List cj)(hl:gy cj.cells 3 w (.slice a l.length c) l)(hs:∀x∈l,x.nm.size≤maxLen)(hlen:l.length≤1000):Calls Tryz.prog 24 #[.agg #[ci T,.slice a l.length c,ci tr,ci lg]] w fun e w'=>∃tp code:Int,e=.returned (.agg #[ci tp,ci code])∧Below w.heap.size w w'∧(code=0→tp=0∧ml.Ok ⟨T,l,tr,lg⟩)∧((⟨T,l,tr,lg⟩:ml)=kw→code=0):=by
 have z1:(w.alloc (.cells #[ci T,.slice a l.length c,ci tr,ci lg] 24)).heap.size=w.heap.size+1:=by simp
 have z2:((w.alloc (.cells #[ci T,.slice a l.length c,ci tr,ci lg] 24)).alloc (.cells #[ci 0,ci 0] 79)).heap.size=w.heap.size+1+1:=by simp
 have z3:(((w.alloc (.cells #[ci T,.slice a l.length c,ci tr,ci lg] 24)).alloc (.cells #[ci 0,ci 0] 79)).alloc (.map #[] 0)).heap.size=w.heap.size+1+1+1:=by simp
 have z4:((((w.alloc (.cells #[ci T,.slice a l.length c,ci tr,ci lg] 24)).alloc (.cells #[ci 0,ci 0] 79)).alloc (.map #[] 0)).alloc (.cells #[ci T,.slice a l.length c,ci tr,ci lg,.map (some (w.heap.size+1+1))] 106)).heap.size=w.heap.size+1+1+1+1:=by simp
 have r0:=((((Row.new w 24 #[ci T,.slice a l.length c,ci tr,ci lg]).alloc (.cells #[ci 0,ci 0] 79)).alloc (.map #[] 0)).alloc (.cells #[ci T,.slice a l.length c,ci tr,ci lg,.map (some (w.heap.size+1+1))] 106)).alloc (.cells #[.func (.func 32) #[pt (w.heap.size+1+1+1)] #[],.func (.func 33) #[pt (w.heap.size+1+1+1)] #[],.func (.func 34) #[pt (w.heap.size+1+1+1)] #[]] 107);have r1:=(((Row.new (w.alloc (.cells #[ci T,.slice a l.length c,ci tr,ci lg] 24)) 79 #[ci 0,ci 0]).alloc (.map #[] 0)).alloc (.cells #[ci T,.slice a l.length c,ci tr,ci lg,.map (some (w.heap.size+1+1))] 106)).alloc (.cells #[.func (.func 32) #[pt (w.heap.size+1+1+1)] #[],.func (.func 33) #[pt (w.heap.size+1+1+1)] #[],.func (.func 34) #[pt (w.heap.size+1+1+1)] #[]] 107)
 have r2:=((a8.made ((w.alloc (.cells #[ci T,.slice a l.length c,ci tr,ci lg] 24)).alloc (.cells #[ci 0,ci 0] 79)) Tryz.prog 9).alloc (.cells #[ci T,.slice a l.length c,ci tr,ci lg,.map (some (w.heap.size+1+1))] 106)).alloc (.cells #[.func (.func 32) #[pt (w.heap.size+1+1+1)] #[],.func (.func 33) #[pt (w.heap.size+1+1+1)] #[],.func (.func 34) #[pt (w.heap.size+1+1+1)] #[]] 107);have r3:=(Row.new (((w.alloc (.cells #[ci T,.slice a l.length c,ci tr,ci lg] 24)).alloc (.cells #[ci 0,ci 0] 79)).alloc (.map #[] 0)) 106 #[ci T,.slice a l.length c,ci tr,ci lg,.map (some (w.heap.size+1+1))]).alloc (.cells #[.func (.func 32) #[pt (w.heap.size+1+1+1)] #[],.func (.func 33) #[pt (w.heap.size+1+1+1)] #[],.func (.func 34) #[pt (w.heap.size+1+1+1)] #[]] 107)
 have r4:=Row.new ((((w.alloc (.cells #[ci T,.slice a l.length c,ci tr,ci lg] 24)).alloc (.cells #[ci 0,ci 0] 79)).alloc (.map #[] 0)).alloc (.cells #[ci T,.slice a l.length c,ci tr,ci lg,.map (some (w.heap.size+1+1))] 106)) 107 #[.func (.func 32) #[pt (w.heap.size+1+1+1)] #[],.func (.func 33) #[pt (w.heap.size+1+1+1)] #[],.func (.func 34) #[pt (w.heap.size+1+1+1)] #[]];rw[z1] at r1;rw[z2] at r2;rw[z3] at r3;rw[z4] at r4;have b5:=af (af (af (af (af (brf w) (.cells #[ci T,.slice a l.length c,ci tr,ci lg] 24)) (.cells #[ci 0,ci 0] 79)) (.map #[] 0)) (.cells #[ci T,.slice a l.length c,ci tr,ci lg,.map (some (w.heap.size+1+1))] 106)) (.cells #[.func (.func 32) #[pt (w.heap.size+1+1+1)] #[],.func (.func 33) #[pt (w.heap.size+1+1+1)] #[],.func (.func 34) #[pt (w.heap.size+1+1+1)] #[]] 107);have R0:=qh r0;have R1:=qh r1;have R2:=qh r2;have R3:=qh r3
 have R4:=qh r4;have B5:=qh b5;have HL:=qh hl;have hmm:=@run_makeMap Tryz.prog;clear r0 r1 r2 r3 r4 b5 z1 z2 z3 z4 hl
 go_enter Tryz.func24,Tryz.ntmps24
 go_wp2_with fail;generalize hw5:(((((w.alloc (.cells #[ci T,.slice a l.length c,ci tr,ci lg] 24)).alloc (.cells #[ci 0,ci 0] 79)).alloc (.map #[] 0)).alloc (.cells #[ci T,.slice a l.length c,ci tr,ci lg,.map (some (w.heap.size+1+1))] 106)).alloc (.cells #[.func (.func 32) #[pt (w.heap.size+1+1+1)] #[],.func (.func 33) #[pt (w.heap.size+1+1+1)] #[],.func (.func 34) #[pt (w.heap.size+1+1+1)] #[]] 107))=w5 at *;clear hmm hw5
 go_loopw [21] (fun i wr=>∃k:Nat,k≤3∧i=ci k∧d0h wr w5 T tr lg l.length k) (fun i _=>3-(intOf i).toNat)
 case atStart=>exact⟨0,by omega,rfl,⟨rfl,by omega,by omega,by omega⟩⟩
 case round=>
  obtain⟨k,hk,rfl,hrel⟩:=hrel;obtain⟨rfl,q1,q2,q3⟩:=hrel;by_cases hk3:k<3
  ·rcases (by omega:k=0∨k=1∨k=2) with rfl|rfl|rfl
   ·have c0:=R4.k 0;have hc:=c5g wr _ _ _ _ _ _ R3.o;have hres:=R1.o;obtain⟨x0,x1⟩:=hres.c2;have xf:=hres.free;have HR:=qh hres;clear hres q1 q2 q3;cases hB:inB T 1 8<;>rw[hB] at hc<;>have HBB:=qh hB<;>clear hB
    ·go_wp2_with (first|(go_at_call 32;refine hc.mono ?_;rintro e w_ ⟨rfl,rfl⟩))
     refine bodyPost_ret (iz rfl _ _ (w.heap.size+1) 79 _ (0,0) _ rfl ((HR.o.set 0 (ci (-1))).set 1 (ci 10)).at_ Tryz.underlying79 rfl (by kernel_rfl)) rfl ?_;exact⟨-1,10,rfl,qz B5.o (by omega) _ _,(fun h=>absurd h (by decide)),(fun h=>by have hh:T=2:=congrArg ml.tasks h;rw[hh] at HBB;exact absurd HBB.o (by decide))⟩
    ·go_wp2_with (first|(go_at_call 32;refine hc.mono ?_;rintro e w_ ⟨rfl,rfl⟩))
     go_roundw
     case rel=>exact⟨1,by omega,rfl,⟨rfl,(fun _=>HBB.o),by omega,by omega⟩⟩
     case measure=>simp only[intOf];decide
   ·have c0:=R4.k 1;have hc:=c1g wr _ _ _ _ _ _ _ _ R3.o;have hres:=R1.o;obtain⟨x0,x1⟩:=hres.c2;have xf:=hres.free;have HR:=qh hres;have Q1:=qh (q1 (by omega));clear hres q1 q2 q3;cases hB:inB l.length 1 64<;>rw[hB] at hc<;>have HBB:=qh hB<;>clear hB
    ·go_wp2_with (first|(go_at_call 33;refine hc.mono ?_;rintro e w_ ⟨rfl,rfl⟩))
     refine bodyPost_ret (iz rfl _ _ (w.heap.size+1) 79 _ (0,0) _ rfl ((HR.o.set 0 (ci (-1))).set 1 (ci 12)).at_ Tryz.underlying79 rfl (by kernel_rfl)) rfl ?_;exact⟨-1,12,rfl,qz B5.o (by omega) _ _,(fun h=>absurd h (by decide)),(fun h=>by have hh:l=[⟨⟨#[97]⟩,1,2⟩]:=congrArg ml.topics h;rw[hh] at HBB;exact absurd HBB.o (by decide))⟩
    ·go_wp2_with (first|(go_at_call 33;refine hc.mono ?_;rintro e w_ ⟨rfl,rfl⟩))
     go_roundw
     case rel=>exact⟨2,by omega,rfl,⟨rfl,(fun _=>Q1.o),(fun _=>HBB.o),by omega⟩⟩
     case measure=>simp only[intOf];decide
   ·have c0:=R4.k 2;have hc:=c8g wr _ _ _ _ _ _ R3.o;have hres:=R1.o;obtain⟨x0,x1⟩:=hres.c2;have xf:=hres.free;have HR:=qh hres;have Q1:=qh (q1 (by omega));have Q2:=qh (q2 (by omega));clear hres q1 q2 q3;cases hB:inB tr 1 16&&inB lg 1 64<;>rw[hB] at hc<;>have HBB:=qh hB<;>clear hB
    ·go_wp2_with (first|(go_at_call 34;refine hc.mono ?_;rintro e w_ ⟨rfl,rfl⟩))
     refine bodyPost_ret (iz rfl _ _ (w.heap.size+1) 79 _ (0,0) _ rfl ((HR.o.set 0 (ci (-1))).set 1 (ci 10)).at_ Tryz.underlying79 rfl (by kernel_rfl)) rfl ?_;exact⟨-1,10,rfl,qz B5.o (by omega) _ _,(fun h=>absurd h (by decide)),(fun h=>by have hh:tr=1:=congrArg ml.tries h;have hi:lg=1:=congrArg ml.log h;rw[hh,hi] at HBB;exact absurd HBB.o (by decide))⟩
    ·go_wp2_with (first|(go_at_call 34;refine hc.mono ?_;rintro e w_ ⟨rfl,rfl⟩))
     go_roundw
     case rel=>exact⟨3,by omega,rfl,⟨rfl,(fun _=>Q1.o),(fun _=>Q2.o),(fun _=>by simpa using HBB.o)⟩⟩
     case measure=>simp only[intOf];decide
  ·have hk':k=3:=by omega
   subst hk';have Q1:=qh (q1 (by omega));have Q2:=qh (q2 (by omega));have Q3:=qh (q3 (by omega));have c0:=R0.k 1;clear hk3 hk q1 q2 q3;rw[show ((3:Nat):Int)=3 from rfl];go_wp2_with fail;have hL0:c1f w wr #[ci T,.slice a l.length c,ci tr,ci lg,.map (some (w.heap.size+1+1))] l 0:=⟨B5.o,R1.o,R3.o,⟨0,_,R2.o,nlr _,fun _=>rfl⟩,fun j x hj=>absurd hj (by omega)⟩;have hlen1:1≤l.length:=by have:=Q2.o;simp only[inB,decide_eq_true_eq] at this;omega
   obtain⟨b,off,c',hsl,hat⟩:=HL.o.some hlen1;obtain⟨rfl,-,rfl⟩:=Value.slice.inj hsl;have HA:=qh hat;clear hat HL R0 R1 R2 R3 R4 B5 hsl hlen1 c0
   go_loopw [35] (fun i W=>∃k:Nat,k≤l.length∧i=ci k∧c1f w W #[ci T,.slice (some ⟨b,off,none⟩) l.length c,ci tr,ci lg,.map (some (w.heap.size+1+1))] l k) (fun i _=>l.length-(intOf i).toNat)
   case atStart=>exact⟨0,by omega,rfl,hL0⟩
   case round=>
    clear hL0;obtain⟨k,hk,rfl,hLk⟩:=hrel;by_cases hkl:k<l.length
    ·obtain⟨n,f,hm,hn,hf⟩:=hLk.m;have i1:(k:Int)<l.length:=by omega
     have hx:l[k]?=some l[k]:=cz hkl;have hxs:=hs _ (List.getElem_mem hkl);have hc:=c5h wr (w.heap.size+1+1+1) (w.heap.size+1+1) n k T tr lg b off l.length c l l[k] f hLk.j (HA.o.bel hLk.b) hx hkl hm (by unfold maxLen;omega) (by omega) hxs;have HK:=qh hLk;have HX:=qh hx;have HF:=qh hf;have HN:=qh hn;have tk:(intOf (ci (k+1:Nat))).toNat=k+1:=by simp[intOf]
     generalize l[k]=x at *;clear hLk hx hxs hm hf hn hs;go_wp2_with fail;refine hc.mono ?_;rintro e w2 ⟨code,rfl,hsm,⟨f2,hm2⟩,h0,ha⟩;have HB2:=qh (jc HK.o.b hsm (by simp;omega));have HR2:=qh (HK.o.r.same hsm (by simp));have HJ2:=qh (HK.o.j.same hsm (by simp));have HM2:=qh hm2;have H0:=qh h0;have HA2:=qh ha;clear hsm hm2 h0 ha hc;by_cases hz:code=0
     ·subst hz;go_wp2_with fail
      go_roundw
      case rel=>
       refine⟨k+1,by omega,by go_num,HB2.o,HR2.o,HJ2.o,⟨n+1,f2,HM2.o,by have:=HN.o;omega,by omega⟩,fun j y hj hy=>?_⟩;by_cases hjk:j=k
       ·subst hjk;rw[HX.o] at hy;cases hy
        first|exact H0.o rfl|exact H0.o trivial
       ·exact HK.o.top j y (by omega) hy
      case measure=>simp only[intOf];omega
     ·have hz1:(code==0)=false:=bfn.2 hz;obtain⟨x0,x1⟩:=HR2.o.c2;have xf:=HR2.o.free;go_wp2_with fail;refine bodyPost_ret (iz rfl _ _ (w.heap.size+1) 79 _ (0,0) _ rfl ((HR2.o.set 0 (ci k)).set 1 (ci code)).at_ Tryz.underlying79 rfl (by kernel_rfl)) rfl ?_;refine⟨k,code,rfl,qz HB2.o (by omega) _ _,(fun h=>absurd h hz),(fun h=>?_)⟩;have hh:l=[⟨⟨#[97]⟩,1,2⟩]:=congrArg ml.topics h;have hX:=HX.o;rw[hh] at hX;have hk0:k=0:=by rw[hh] at hkl;simp at hkl;exact hkl
      subst hk0;simp at hX;subst hX;exact HA2.o c1h (by rw[HF.o rfl]) (by decide) (by decide)
    ·have hk':k=l.length:=by omega
     subst hk';have HK:=qh hLk;obtain⟨x0,x1⟩:=hLk.r.c2;have xf:=hLk.r.free;clear hLk hkl hk;go_wp2_with fail;refine bodyPost_ret (iz rfl _ _ (w.heap.size+1) 79 _ (0,0) _ rfl ((HK.o.r.set 0 (ci 0)).set 1 (ci 0)).at_ Tryz.underlying79 rfl (by kernel_rfl)) rfl ?_
     exact⟨0,0,rfl,qz HK.o.b (by omega) _ _,(fun _=>⟨rfl,⟨Q1.o,Q2.o,Q3.o.1,Q3.o.2,fun x hx=>by
      obtain⟨j,hj,rfl⟩:=List.getElem_of_mem hx;exact HK.o.top j _ hj (cz hj)⟩⟩),(fun _=>rfl)⟩
end Go.Proofs.YtojkaibpfdhmaaaGreatDoor

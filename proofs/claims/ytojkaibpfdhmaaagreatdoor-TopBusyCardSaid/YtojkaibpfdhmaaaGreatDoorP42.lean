/- Which events turned the register, by their moments: the law's turns. -/
import Derived.Test.YtojkaibpfdhmaaaGreatDoorP16
import Derived.Test.YtojkaibpfdhmaaaGreatDoorP41
import Derived.Test.YtojkaibpfdhmaaaGreatDoorP34
import Derived.Deep.MidRow
namespace Go.Proofs.YtojkaibpfdhmaaaGreatDoor
open Go.RowKit
set_option maxRecDepth 100000
set_option maxHeartbeats 16000000
theorem rr{W:World}{g k:Nat}{L:List EvC}{x:EvC}(h:Arr EvC.enc 27 W g 47 L)(hx:L[k]?=some x):W.rangeAt g (k*27) x.enc:=fun _ _ hv=>h.cell EvC.enc_len hx hv
theorem dt{ops:Array Oper}{rest:List Oper}{dst:Option Tmp}{x:Operand}{t:TypeId}{pos after}{a:Act}{w:World}{Q:Exit→Act→World→Prop}(b o:Nat)(cs:List Value)(hc:w.rangeAt b o cs)(hl:cs.length=27)(hx:a.eval x=.pointer (some ⟨b,o,none⟩))(h:wpList Tryz.prog ops Q rest (a.put dst (.agg cs.toArray)) w):wpList Tryz.prog ops Q ({dst:=dst,op:=.load 47 x,type:=t,pos:=pos,after:=after,guard:=none}::rest) a w:=
 wpList_load_mid rfl 47 x rfl b o hx cs _ hc Tryz.underlying47 rfl (by rw[hl];kernel_rfl) h
theorem dr{ops:Array Oper}{rest:List Oper}{x y:Operand}{t:TypeId}{pos after}{a:Act}{w:World}{Q:Exit→Act→World→Prop}(c c':Array Value)(h1:c'.all (·.oneCell')=true)(hs:c.size=27)(hs':c'.size=27)(hx:a.eval x=pt w.heap.size)(hy:a.eval y=.agg c')(h:wpList Tryz.prog ops Q rest a (w.alloc (.cells c' 47))):wpList Tryz.prog ops Q ({dst:=none,op:=.store 47 x y,type:=t,pos:=pos,after:=after,guard:=none}::rest) a (w.alloc (.cells c 47)):=
 wpList_plain rfl fun _ hK=>by
  unfold Oper.wp execOp;simp only[hx,hy,run_storeAt_new (P:=Tryz.prog) w 47 c c' (by rw[hs'];kernel_rfl) (hs.trans hs'.symm) h1,Sem.run_bind,Result.andThen_ok];exact hK _ _ h
theorem b7n{x:EvC}{W:World}{e:Ev}(h:EvL W x e):∀u∈x.enc,u.oneCell'=true:=by
 intro u hu;simp only[EvC.enc,List.mem_cons,List.not_mem_nil,or_false] at hu;have hs:=nk h.set
 have h1:x.words.oneCell'=true:=by
  obtain⟨a,n,c,e⟩:=h.words;rw[e]
  rfl
 have h2:=h.gens;have h3:=h.awords;rcases hu with rfl|rfl|rfl|rfl|rfl|rfl|rfl|rfl|rfl|rfl|rfl|rfl|rfl|rfl|rfl|rfl|rfl|rfl|rfl|rfl|rfl|rfl|rfl|rfl|rfl|rfl|rfl<;>first|rfl|assumption
structure um(W:World)(lv:Value)(L:List EvC)(es:List Ev):Prop where
 own:W.ownsRow 0 47 27 lv es.length (L.flatMap EvC.enc)
 len:L.length=es.length
 ev:∀(j:Nat)(x:EvC)(e:Ev),L[j]?=some x→es[j]?=some e→EvL W x e
theorem um.bel{W W':World}{lv:Value}{L:List EvC}{es:List Ev}(h:um W lv L es)(hb:Below W.heap.size W W'):um W' lv L es:=⟨jb h.own hb,h.len,fun j x e h1 h2=>(h.ev j x e h1 h2).bel hb⟩
theorem um.arr{W:World}{lv:Value}{L:List EvC}{es:List Ev}(h:um W lv L es)(h1:1≤es.length):∃g c,lv=zl g es.length c∧Arr EvC.enc 27 W g 47 L:=by
 obtain⟨g,c,e,-,-,hA⟩:=Arr.of_own (E:=47) h.own h.len.symm h1;exact⟨g,c,e,hA⟩
structure mb(w W:World)(es:List Ev)(ov:Value)(n c:Nat):Prop where
 b:Below w.heap.size w W
 ex:∃L2:List EvC,L2.length=n∧W.ownsRow w.heap.size 47 27 ov n (L2.flatMap EvC.enc)∧L2.map (·.at_)=ats dx es c
 g:vy dx es n c
inductive b3k(w:World)(es:List Ev):Ending→World→Prop
 | mk {w':World} (v:Value) (L2:List EvC) (c:Nat) (hb:Below w.heap.size w w') (ho:w'.ownsRow w.heap.size 47 27 v L2.length (L2.flatMap EvC.enc)) (ha:L2.map (·.at_)=ats dx es c) (hf:vz dx es c):b3k w es (.returned v) w'
theorem xu{e:Ev}{c:Nat}(h:c<e.at_):dx e=decide ((e.kind=7∨e.kind=8)∧(e.to_=0∨e.code=0)):=by
 unfold dx;have:0<e.at_:=by omega
 simp[this]
theorem iw{a b:Int}(h:a=b):(a==b)=true:=beq_iff_eq.2 h
theorem im{a b:Int}(h:a≠b):(a==b)=false:=bfn.2 h
theorem c6e{x:EvC}{e:Ev}{c:Nat}(hb:EvB x e)(h:¬ (dx e=true∧c<e.at_)):((x.kd==7)=false∧(x.kd==8)=false)∨((x.kd==7)=true∧¬ (c:Int)<x.at_)∨((x.kd==7)=false∧(x.kd==8)=true∧¬ (c:Int)<x.at_) ∨
  ((x.kd==7)=true∧(c:Int)<x.at_∧((x.to_:Int)==0)=false∧(x.code==0)=false)∨((x.kd==7)=false∧(x.kd==8)=true∧(c:Int)<x.at_∧((x.to_:Int)==0)=false∧(x.code==0)=false):=by
 obtain⟨h1,h2,h3,h4,h5,h6,h7,h8,h9⟩:=hb;rw[h2,h5,h6,h7];by_cases g1:c<e.at_
 ·have g2:¬ ((e.kind=7∨e.kind=8)∧(e.to_=0∨e.code=0)):=fun g=>h ⟨by rw[xu g1];exact dqt g,g1⟩;have g3:(c:Int)<e.at_:=by omega
  by_cases k7:e.kind=7
  ·exact Or.inr (Or.inr (Or.inr (Or.inl ⟨iw k7,g3,im (by omega),im (by omega)⟩)))
  ·by_cases k8:e.kind=8
   ·exact Or.inr (Or.inr (Or.inr (Or.inr ⟨im k7,iw k8,g3,im (by omega),im (by omega)⟩)))
   ·exact Or.inl ⟨im k7,im k8⟩
 ·have g3:¬ (c:Int)<e.at_:=by omega
  by_cases k7:e.kind=7
  ·exact Or.inr (Or.inl ⟨iw k7,g3⟩)
  ·by_cases k8:e.kind=8
   ·exact Or.inr (Or.inr (Or.inl ⟨im k7,iw k8,g3⟩))
   ·exact Or.inl ⟨im k7,im k8⟩
theorem c2v{x:EvC}{e:Ev}{c:Nat}(hb:EvB x e)(h:dx e=true∧c<e.at_):(c:Int)<x.at_∧(((x.kd==7)=true∧((x.to_:Int)==0)=true)∨((x.kd==7)=false∧(x.kd==8)=true∧((x.to_:Int)==0)=true) ∨
  ((x.kd==7)=true∧((x.to_:Int)==0)=false∧(x.code==0)=true)∨((x.kd==7)=false∧(x.kd==8)=true∧((x.to_:Int)==0)=false∧(x.code==0)=true)):=by
 obtain⟨h1,h2,h3,h4,h5,h6,h7,h8,h9⟩:=hb;rw[h2,h5,h6,h7];have g2:=h.1;rw[xu h.2,decide_eq_true_eq] at g2;refine⟨by omega,?_⟩;by_cases k7:e.kind=7
 ·by_cases t0:e.to_=0
  ·exact Or.inl ⟨iw k7,iw (by omega)⟩
  ·exact Or.inr (Or.inr (Or.inl ⟨iw k7,im (by omega),iw (by omega)⟩))
 ·by_cases t0:e.to_=0
  ·exact Or.inr (Or.inl ⟨im k7,iw (by omega),iw (by omega)⟩)
  ·exact Or.inr (Or.inr (Or.inr ⟨im k7,iw (by omega),im (by omega),iw (by omega)⟩))
structure b5t(w W:World)(es:List Ev)(ov:Value)(n c i:Nat)(kk:Int):Prop where
 t:mb w W es ov n c
 l:lm dx es c i kk
theorem mb.alloc{w W:World}{es:List Ev}{ov:Value}{n c:Nat}(h:mb w W es ov n c)(o:Obj):mb w (W.alloc o) es ov n c:=by
 obtain⟨L2,h1,h2,h3⟩:=h.ex;exact⟨af h.b o,⟨L2,h1,jb h2 (af (brf W) o),h3⟩,h.g⟩
theorem mb.drewN{w W:World}{es:List Ev}{ov:Value}{n c:Nat}(h:mb w W es ov n c)(d:Nat):mb w (W.drewN d) es ov n c:=by
 obtain⟨L2,h1,h2,h3⟩:=h.ex;exact⟨below_drewN h.b d,⟨L2,h1,ai h2 (sdn d) nm0,h3⟩,h.g⟩
theorem c9m(w:World)(lv:Value)(L:List EvC)(es:List Ev)(hl:um w lv L es)(hd:Dis dx es)(hpos:∀e∈es,dx e=true→1≤e.at_)(hat:∀e∈es,e.at_≤1000000)(hlen:es.length≤1000):Calls Tryz.prog 7 #[lv] w (b3k w es):=by
 by_cases hn0:es.length=0
 ·obtain⟨la,lc,rfl⟩:=ax hl.own;rw[hn0];have HN:=qh hn0;clear hn0 hl
  go_enter Tryz.func7,Tryz.ntmps7
  go_wp2_with fail
  go_loopw [3,4,5,6,7,8,9] (fun s3 s4 s5 _ _ _ _ W=>s3=zn∧s4=ci 0∧s5=ci 0∧Hd (w=W)) (fun _ _ _ _ _ _ _ _=>0)
  case atStart=>exact⟨rfl,rfl,rfl,qh rfl⟩
  case round=>
   obtain⟨rfl,rfl,rfl,hW⟩:=hrel;obtain rfl:=hW.o;go_wp2_with fail;go_ret;have h0:es=[]:=List.length_eq_zero_iff.1 HN.o;subst h0;exact .mk _ [] 0 (Below.refl _ _) ⟨rfl,Or.inl ⟨rfl,rfl⟩⟩ (by simp[vu]) fun e h=>by cases h
 ·obtain⟨g,lc,rfl,hA0⟩:=hl.arr (by omega);have HL:=qh hl;have HA0:=qh hA0;have HD:=qh hd;have HPOS:=qh hpos;clear hl hA0 hd hpos
  go_enter Tryz.func7,Tryz.ntmps7
  go_wp2_with fail;have h00:Hd (mb w w es (zn) 0 0):=qh ⟨Below.refl _ _,⟨[],rfl,⟨rfl,Or.inl ⟨rfl,rfl⟩⟩,(vu HPOS.o).symm⟩,vy.zero HPOS.o⟩
  go_loopw [3,4,5,6,7,8,9] (fun s3 s4 s5 _ _ _ _ W=>∃(ov:Value)(n c:Nat),n≤es.length∧c≤1000000∧ov=s3∧s4=ci c∧s5=ci n∧Hd (mb w W es ov n c)) (fun _ _ s5 _ _ _ _ _=>es.length-(intOf s5).toNat)
  case atStart=>exact⟨_,0,0,by omega,by omega,rfl,rfl,rfl,h00⟩
  case round=>
   obtain⟨ov,n,c,hnl,hc1,rfl,rfl,rfl,hR0⟩:=hrel;clear h00;by_cases hn:n<es.length
   ·have i1:(n:Int)<es.length:=by omega
    go_wp2_with fail;have h01:Hd (b5t w wr es ov n c 0 (-1)):=qh ⟨hR0.o,lm.zero⟩;clear hR0
    go_loopw [6,7,8,9] (fun s6 s7 _ _ W=>∃(i:Nat)(kk:Int),i≤es.length∧s6=ci kk∧s7=ci i∧Hd (b5t w W es ov n c i kk)) (fun _ s7 _ _ _=>es.length-(intOf s7).toNat)
    case atStart=>exact⟨0,-1,by omega,rfl,rfl,h01⟩
    case round=>
     obtain⟨i,kk,hil,rfl,rfl,hR1⟩:=hrel;clear h01;by_cases hi:i<es.length
     ·have i2:(i:Int)<es.length:=by omega
      have hi0:i<L.length:=by have h9:L.length=es.length:=HL.o.len;omega
      have hx:L[i]?=some L[i]:=cz hi0;have he:es[i]?=some es[i]:=cz hi;generalize L[i]=x at hx;generalize es[i]=e at he;have hev:=HL.o.ev i x e hx he;have hb:=hev.b;have hA:=HA0.o.bel hR1.o.t.b;have HRG:Hd (wr.rangeAt g (i*27) x.l):=qh (rr hA hx);have HOC:Hd ((x.a).all (·.oneCell')=true):=qh (all_oneCell_toArray (b7n hev));have r:=Row.new wr 47 x.a;have HX:=qh (And.intro hx (And.intro he hb));have HT:=qh (b5t.mk (hR1.o.t.alloc (.cells x.a 47)) hR1.o.l);have HA:=qh (hA.alloc (.cells x.a 47));have HR:=qh r;have R25:=qh (HR.k 25);clear HR hev hA hR1 r;by_cases hq:dx e=true∧c<e.at_
      ·obtain⟨f0,hF⟩:=c2v hb hq;have HQ:=qh hq;have HLS:=qh HT.o.l;clear hx he hb hq;rcases HLS.o with ⟨hkk,hl2⟩|⟨m,e0,hkk,hm,hle,hp0,hc0,hl2⟩
       ·subst hkk;clear hl2 HLS;rcases hF with ⟨f1,f2⟩|⟨f1,f2,f3⟩|⟨f1,f2,f3⟩|⟨f1,f2,f3,f4⟩
        all_goals
         go_wp2_with (first|((with_reducible refine dt g (i*27) x.l HRG.o ?_ ?_ ?_);rfl;rfl)|((with_reducible refine dr _ x.a HOC.o ?_ ?_ ?_ ?_ ?_);rfl;rfl;rfl;rfl))
         generalize (wr.alloc (.cells x.a 47))=w2 at *;have r25:=R25.o
         go_quiet (fail)
         go_wp2_with fail
         go_roundw
         case rel=>exact⟨i+1,(i:Int),by omega,rfl,by go_num,qh ⟨HT.o.t.drewN _,HT.o.l.take HX.o.2.1 HQ.o.1 HQ.o.2 (Or.inl rfl)⟩⟩
         case measure=>simp only[intOf];omega
       ·subst hkk;have hm1:m<es.length:=by omega
        have hm0:m<L.length:=by have h9:L.length=es.length:=HL.o.len;omega
        have hxm:L[m]?=some L[m]:=cz hm0;generalize L[m]=xm at hxm;have hbm:=(HL.o.ev m xm e0 hxm hle).b;have M25:=qh (HA.o.cell EvC.enc_len (j:=25) hxm rfl);have HE0:=qh (And.intro hle hbm.at_);have i3:(m:Int)<es.length:=by omega
        clear hl2 HLS hle hp0 hc0 hxm hbm;by_cases hlt:(x.at_:Int)<xm.at_
        ·rcases hF with ⟨f1,f2⟩|⟨f1,f2,f3⟩|⟨f1,f2,f3⟩|⟨f1,f2,f3,f4⟩
         all_goals
          go_wp2_with (first|((with_reducible refine dt g (i*27) x.l HRG.o ?_ ?_ ?_);rfl;rfl)|((with_reducible refine dr _ x.a HOC.o ?_ ?_ ?_ ?_ ?_);rfl;rfl;rfl;rfl))
          generalize (wr.alloc (.cells x.a 47))=w2 at *;have r25:=R25.o;have m25:=M25.o
          go_quiet (fail)
          go_wp2_with fail
          go_roundw
          case rel=>exact⟨i+1,(i:Int),by omega,rfl,by go_num,qh ⟨HT.o.t.drewN _,HT.o.l.take HX.o.2.1 HQ.o.1 HQ.o.2 (Or.inr ⟨m,e0,rfl,HE0.o.1,by have h8:=HE0.o.2;have h9:x.at_=e.at_:=HX.o.2.2.at_;omega⟩)⟩⟩
          case measure=>simp only[intOf];omega
        ·rcases hF with ⟨f1,f2⟩|⟨f1,f2,f3⟩|⟨f1,f2,f3⟩|⟨f1,f2,f3,f4⟩
         all_goals
          go_wp2_with (first|((with_reducible refine dt g (i*27) x.l HRG.o ?_ ?_ ?_);rfl;rfl)|((with_reducible refine dr _ x.a HOC.o ?_ ?_ ?_ ?_ ?_);rfl;rfl;rfl;rfl))
          generalize (wr.alloc (.cells x.a 47))=w2 at *;have r25:=R25.o;have m25:=M25.o
          go_quiet (fail)
          go_wp2_with fail
          go_roundw
          case rel=>exact⟨i+1,(m:Int),by omega,rfl,by go_num,qh ⟨HT.o.t.drewN _,HT.o.l.keep HX.o.2.1 (fun _ _=>⟨m,e0,rfl,HE0.o.1,by have h8:=HE0.o.2;have h9:x.at_=e.at_:=HX.o.2.2.at_;omega⟩)⟩⟩
          case measure=>simp only[intOf];omega
      ·have hF:=c6e hb hq;have HQ:=qh hq;clear hx he hb hq;rcases hF with ⟨f1,f2⟩|⟨f1,f2⟩|⟨f1,f2,f3⟩|⟨f1,f2,f3,f4⟩|⟨f1,f2,f3,f4,f5⟩
       all_goals
        go_wp2_with (first|((with_reducible refine dt g (i*27) x.l HRG.o ?_ ?_ ?_);rfl;rfl)|((with_reducible refine dr _ x.a HOC.o ?_ ?_ ?_ ?_ ?_);rfl;rfl;rfl;rfl))
        generalize (wr.alloc (.cells x.a 47))=w2 at *;have r25:=R25.o
        go_quiet (fail)
        go_wp2_with fail
        go_roundw
        case rel=>exact⟨i+1,kk,by omega,rfl,by go_num,qh ⟨HT.o.t.drewN _,HT.o.l.keep HX.o.2.1 (fun h1 h2=>absurd ⟨h1,h2⟩ HQ.o)⟩⟩
        case measure=>simp only[intOf];omega
     ·have hi':i=es.length:=by omega
      subst hi';rcases hR1.o.l with ⟨hkk,-⟩|⟨m,e0,hkk,hm,hle,-⟩
      ·subst hkk;obtain⟨L2,g1,g2,g3⟩:=hR1.o.t.ex;obtain⟨oa,oc,rfl⟩:=ax g2;have HR:=qh hR1.o;clear g1 g2 g3 hR1;go_wp2_with fail;go_ret;obtain⟨⟨hb,⟨L2,g1,g2,g3⟩,g4⟩,hl⟩:=HR.o;exact .mk _ L2 c hb (by rw[g1];exact g2) g3 hl.full
      ·subst hkk;have hm0:m<L.length:=by have h9:L.length=es.length:=HL.o.len;omega
       have hxm:L[m]?=some L[m]:=cz hm0;generalize L[m]=xm at hxm;have hev:=HL.o.ev m xm e0 hxm hle;have hA:=HA0.o.bel hR1.o.t.b;have HRG:Hd (wr.rangeAt g (m*27) xm.l):=qh (rr hA hxm);have HOC:Hd (∀u∈(xm.a:Array Value).toList,u.oneCell'=true):=qh (b7n hev);obtain⟨L2,g1,g2,g3⟩:=hR1.o.t.ex;have HR:=qh hR1.o;have HG:=qh (And.intro g1 g3);have HOW:=qh g2;have HA:=qh hA;revert HOW;revert HA
       refine cq (sa1 wr (.cells xm.a 47)) ?_;intro HA HOW;have HBB:=qh (af hR1.o.t.b (.cells xm.a 47));have HE0:=qh (And.intro hle (And.intro hev.b.at_ (hat e0 (dh hle))));have HXM:=qh hxm;have lg:g<w.heap.size:=HA0.o.lt;have hge:=fw g2
       have hov:ov.oneCell'=true:=by
        obtain⟨oa,oc,rfl⟩:=ax g2
        rfl
       have hsz:w.heap.size≤(wr.alloc (.cells xm.a 47)).heap.size:=HBB.o.size;have i3:(m:Int)<es.length:=by omega
       obtain⟨i0,hi0,hz0,hz1,hz2⟩:=info_parts b5q;clear hev hA hR1 g1 g2 g3 hle hxm
       go_wp2_with (first|((with_reducible refine dt g (m*27) xm.l HRG.o ?_ ?_ ?_);rfl;rfl)|(at_builtin;go_loud (refine wpList_append_own_at _ rfl _ _ 29 rfl w.heap.size 47 i0 _ 27 280 Tryz.underlying29 hi0 hz0 hz1 hz2 rfl (by decide) ov n (L2.flatMap EvC.enc) rfl HOW.o ⟨wr.heap.size,0,none⟩ 1 1 (xm.a).toList rfl rfl (jo rfl) HOC.o (by unfold maxLen;omega) (by omega) hsz ?_;intro v11 w11 hown11 hgrow11 _ hor11;obtain⟨g11,c11,rfl⟩:=gl hown11;have HS11:=qh (ab.grown' hgrow11);have HO11:=qh hown11;have hA11:=HA.o.same HS11.o (fun h=>by have:=hge g (by simpa using h);omega);have m25:=hA11.cell EvC.enc_len (j:=25) HXM.o rfl;clear hA11 hown11 hgrow11 hor11)))
       go_roundw
       case rel=>
        obtain⟨e1,h3,h4,h5,h6⟩:=HR.o.l.some
        have he1:e1=e0:=by
         have:=HE0.o.1;rw[h3] at this;exact Option.some.inj this
        subst he1;have hxa:xm.at_=e1.at_:=HE0.o.2.1;have hmem:=dh h3;refine⟨_,n+1,xm.at_,by omega,by have:=HE0.o.2.2;omega,rfl,rfl,by go_num,qh ⟨HBB.o.trans (HS11.o.below HBB.o.size fun x hx=>hge x (by simpa using hx)),⟨L2++[xm],by rw[List.length_append,HG.o.1];rfl,by rw[List.flatMap_append];simpa[EvC.enc] using HO11.o,?_⟩,?_⟩⟩
        ·rw[List.map_append,HG.o.2,hxa,vw hmem h4 h5 h6];simp[hxa]
        ·rw[hxa];exact HR.o.t.g.next HD.o hmem h4 h5 h6
       case measure=>simp only[intOf];omega
   ·have hn':n=es.length:=by omega
    subst hn';have HT:=qh hR0.o;obtain⟨L2,h1,h2,h3⟩:=hR0.o.ex;obtain⟨oa,oc,rfl⟩:=ax h2;clear h1 h2 h3 hR0;go_wp2_with fail;go_ret;obtain⟨hb,⟨L2,h1,h2,h3⟩,h4⟩:=HT.o;exact .mk _ L2 c hb (by rw[h1];exact h2) h3 h4.full
end Go.Proofs.YtojkaibpfdhmaaaGreatDoor

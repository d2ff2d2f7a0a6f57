/- Which records were published of each topic, by generations: the law's pubs. -/
import Derived.Test.YtojkaibpfdhmaaaGreatDoorP16
import Derived.Test.YtojkaibpfdhmaaaGreatDoorP42
namespace Go.Proofs.YtojkaibpfdhmaaaGreatDoor
open Go.RowKit
set_option maxRecDepth 100000
set_option maxHeartbeats 16000000
theorem c9v:(Tryz.prog.info? 49).map (fun i=>(i.zero,i.size,i.bytes))=some (some (zn),1,24):=by kernel_rfl
abbrev jl:=Value × List (Nat × Value)
def encQ(q:jl):List Value:=[q.1]
theorem yy(q:jl):(encQ q).length=1:=rfl
theorem yz{W:World}{g m:Nat}{L:List EvC}{x:EvC}{v:Value}(h:Arr EvC.enc 27 W g 47 L)(hx:L[m]?=some x)(hv:x.words=v):W.cell? (ae g (m*27+1+10))=some v:=by
 rw[←hv];exact h.cell EvC.enc_len (j:=11) hx rfl
theorem b0l{W:World}{G k:Nat}{ps:List jl}{q:jl}(h:Arr encQ 1 W G 49 ps)(hq:ps[k]?=some q):W.cell? (ae G k)=some q.1:=by
 have:=h.cell yy (j:=0) hq rfl
 simpa using this
theorem c3r{W:World}{G k:Nat}{ps:List jl}{q:jl}{v:Value}{l:List (Nat × Value)}(h:Arr encQ 1 W G 49 ps)(hq:ps[k]?=some q):Arr encQ 1 (W.setCell ⟨G,k,none⟩ v) G 49 (ps.set k (v,l)):=by
 have:=h.set yy (k:=k) (j:=0) (x:=q) (x':=(v,l)) (v:=v) hq (by decide) rfl
 simpa using this
structure mh(W:World)(n0 G:Nat)(ps:List jl):Prop where
 arr:Arr encQ 1 W G 49 ps
 own:∀(k:Nat)(q:jl),ps[k]?=some q→W.ownsRow n0 57 2 q.1 q.2.length (q.2.flatMap pubE)
 apart:∀(j k:Nat)(q r:jl)(b:Nat),ps[j]?=some q→ps[k]?=some r→q.1.ownBlock=some b→r.1.ownBlock=some b→j=k
theorem mh.bel{W W':World}{n0 G:Nat}{ps:List jl}(h:mh W n0 G ps)(hb:Below W.heap.size W W'):mh W' n0 G ps:=⟨h.arr.bel hb,fun k q hq=>jb (h.own k q hq) hb,h.apart⟩
theorem mh.drewN{W:World}{n0 G:Nat}{ps:List jl}(h:mh W n0 G ps)(d:Nat):mh (W.drewN d) n0 G ps:=⟨h.arr.same (sdn d) (by simp),fun k q hq=>ai (h.own k q hq) (sdn d) nm0,h.apart⟩
theorem b4g(W:World)(n:Nat)(hn:n≤1000):(Instr.makeSlice 33 (ci n) (ci n)).run Tryz.prog W=.ok (zl W.heap.size n n) (W.alloc (.cells (Array.replicate n (Value.slice none 0 0)) 49)):=by
 obtain⟨i0,hi,hz0,hz1,hz2⟩:=info_parts c9v;have h:=run_make (P:=Tryz.prog) W 33 49 i0 _ Tryz.underlying33 hi hz0 .i64 .i64 n n (by omega) (by omega) (by rw[hz2];omega) (by omega);rw[hz1] at h
 have e:madeCells (Value.slice none 0 0).cells (n*1)=(Array.replicate n (Value.slice none 0 0)):=by
  apply Array.toList_inj.1;rw[Nat.mul_one];rw[Array.toList_replicate];exact toList_madeCells_one (zn) n
 rw[←e];exact h
theorem mh.made(W:World)(n n0:Nat):mh (W.alloc (.cells (Array.replicate n (Value.slice none 0 0)) 49)) n0 W.heap.size (List.replicate n (Value.slice none 0 0,[])):=by
 refine⟨⟨_,Row.new W 49 _,?_⟩,fun k q hq=>?_,fun j k q r b h1 _ h2 _=>?_⟩
 ·simp[encQ,List.flatMap_replicate]
 ·have:=dh hq;simp at this;rw[this.2];exact⟨rfl,Or.inl ⟨rfl,rfl⟩⟩
 ·have:=dh h1;simp at this;rw[this.2] at h2;cases h2
structure kq(w W:World)(G:Nat)(es:List Ev)(ps:List jl)(n c:Nat):Prop where
 b:Below w.heap.size w W
 row:mh W w.heap.size G ps
 ats:∀(k:Nat)(q:jl),ps[k]?=some q→q.2.map (·.1)=ats (ofT k) es c
 g:vy de es n c
theorem kq.bel{w W W':World}{G:Nat}{es:List Ev}{ps:List jl}{n c:Nat}(h:kq w W G es ps n c)(hb:Below W.heap.size W W'):kq w W' G es ps n c:=⟨bt h.b hb,h.row.bel hb,h.ats,h.g⟩
theorem kq.drewN{w W:World}{G:Nat}{es:List Ev}{ps:List jl}{n c:Nat}(h:kq w W G es ps n c)(d:Nat):kq w (W.drewN d) G es ps n c:=⟨below_drewN h.b d,h.row.drewN d,h.ats,h.g⟩
inductive b4h(w:World)(K:Nat)(es:List Ev):Ending→World→Prop
 | mk {w':World} (G:Nat) (ps:List jl) (c:Nat) (hb:Below w.heap.size w w') (hl:ps.length=K) (hr:mh w' w.heap.size G ps) (ha:∀(k:Nat)(q:jl),ps[k]?=some q→q.2.map (·.1)=ats (ofT k) es c) (hf:vz de es c):b4h w K es (.returned (.tuple #[zl G K K,.bool true])) w'
structure c3s(ps:List jl)(t:Nat)(lv:Int):Prop where
 ge:∀(k:Nat)(q:jl)(x:Nat),k<t→ps[k]?=some q→x∈q.2.map (·.1)→(x:Int)≤lv
 is:lv = -1∨∃(k:Nat)(q:jl)(x:Nat),ps[k]?=some q∧x∈q.2.map (·.1)∧(x:Int)=lv
structure c3t(w W:World)(G:Nat)(es:List Ev)(ps:List jl)(n c t:Nat)(lv:Int):Prop where
 p:kq w W G es ps n c
 l:c3s ps t lv
theorem b9t{w W:World}{G:Nat}{es:List Ev}{ps:List jl}{n c:Nat}{lv:Int}(h:kq w W G es ps n c)(hl:c3s ps ps.length lv)(hpos:∀e∈es,de e=true→1≤e.at_)(htop:∀e∈es,de e=true→∃t:Nat,e.topic=t∧t<ps.length∧e.gen=phi es (onT t) e.at_):-1≤lv∧lv≤1000000000+c∧∀e∈es,de e=true→(lv<e.at_↔c<e.at_):=by
 have hle:∀(k:Nat)(q:jl)(x:Nat),ps[k]?=some q→x∈q.2.map (·.1)→x≤c:=fun k q x hq hx=>by
  rw[h.ats k q hq] at hx;exact(c8c hx).1
 have hup:lv = -1∨lv≤c:=by
  rcases hl.is with e|⟨k,q,x,h1,h2,h3⟩
  ·exact Or.inl e
  ·have:=hle k q x h1 h2;omega
 refine⟨?_,by omega,fun e he hp=>?_⟩
 ·rcases hl.is with e|⟨k,q,x,h1,h2,h3⟩<;>omega
 ·rcases h.g.2 with hc|⟨e0,he0,hp0,hc0⟩
  ·subst hc;have:=hpos e he hp;omega
  ·obtain⟨t,ht,htl,-⟩:=htop e0 he0 hp0;have hq:ps[t]?=some ps[t]:=cz htl;generalize ps[t]=q at hq
   have hmem:c∈q.2.map (·.1):=by
    rw[h.ats t q hq];obtain⟨a,ha⟩:=c0v (p:=ofT t) he0 (by simp[ofT,onT,hp0,ht]);rw[hc0] at ha;rw[ha];simp
   have:=hl.ge t q c htl hq hmem;omega
structure c3u(w W:World)(G:Nat)(es:List Ev)(ps:List jl)(n c i:Nat)(kk:Int):Prop where
 p:kq w W G es ps n c
 l:lm de es c i kk
theorem xy{a b:Int}(h:a≠b):(a != b)=true:=by simp[bne,im h]
theorem b3p{a b:Int}(h:a=b):(a != b)=false:=by simp[bne,iw h]
theorem c9w{x:EvC}{e:Ev}{lv:Int}(hb:EvB x e)(h:¬ (de e=true∧lv<e.at_)):(x.kd==1)=false∨((x.kd==1)=true∧((x.to_:Int) != 0)=false)∨((x.kd==1)=true∧((x.to_:Int) != 0)=true∧(x.code==0)=false) ∨
  ((x.kd==1)=true∧((x.to_:Int) != 0)=true∧(x.code==0)=true∧decide (lv<(x.at_:Int))=false):=by
 obtain⟨h1,h2,h3,h4,h5,h6,h7,h8,h9⟩:=hb;rw[h2,h5,h6,h7];unfold de at h;rw[decide_eq_true_eq] at h;by_cases k1:e.kind=1
 ·by_cases t0:e.to_=0
  ·exact Or.inr (Or.inl ⟨iw k1,b3p (by omega)⟩)
  ·by_cases c0:e.code=0
   ·exact Or.inr (Or.inr (Or.inr ⟨iw k1,xy (by omega),iw c0,dqf fun g=>h ⟨⟨k1,t0,c0⟩,g⟩⟩))
   ·exact Or.inr (Or.inr (Or.inl ⟨iw k1,xy (by omega),im c0⟩))
 ·exact Or.inl (im k1)
theorem c6w{x:EvC}{e:Ev}(hb:EvB x e)(h:de e=true):(x.kd==1)=true∧((x.to_:Int) != 0)=true∧(x.code==0)=true:=by
 obtain⟨h1,h2,h3,h4,h5,h6,h7,h8,h9⟩:=hb;rw[h2,h6,h7];unfold de at h;rw[decide_eq_true_eq] at h;exact⟨iw h.1,xy (by omega),iw h.2.2⟩
theorem d1d(w:World)(K:Nat)(lv0:Value)(L:List EvC)(es:List Ev)(hK:K≤70)(hl:um w lv0 L es)(hd:Dis de es)(hpos:∀e∈es,de e=true→1≤e.at_)(htop:∀e∈es,de e=true→∃t:Nat,e.topic=t∧t<K∧e.gen=phi es (onT t) e.at_)(hat:∀e∈es,e.at_≤1000000)(hlen:es.length≤1000):Calls Tryz.prog 6 #[ci K,lv0] w (b4h w K es):=by
 have HL:=qh hl;have HD:=qh hd;have HPOS:=qh hpos;have HTOP:=qh htop;have hmk:=fun W=>b4g W K (by omega)
 have h00:Hd (kq w (w.alloc (.cells (Array.replicate K (Value.slice none 0 0)) 49)) w.heap.size es (List.replicate K (Value.slice none 0 0,[])) 0 0):=qh ⟨af (brf w) _,mh.made w K _,fun k q hq=>by
  have:=dh hq;simp at this;rw[this.2,vu fun e he h=>hpos e he (by unfold ofT at h;rw[Bool.and_eq_true] at h;exact h.1)]
  rfl,vy.zero hpos⟩
 obtain⟨la,lc,rfl⟩:=ax hl.own;clear hl hd hpos htop
 go_enter Tryz.func6,Tryz.ntmps6
 go_wp2_with fail;generalize w.alloc (.cells (Array.replicate K (Value.slice none 0 0)) 49)=w1 at *;clear hmk;generalize hG:w.heap.size=G at h00 ⊢;have hGe:w.heap.size≤G:=by omega
 have hps0:(List.replicate K ((Value.slice none 0 0,[]):jl)).length=K:=by simp
 generalize List.replicate K ((Value.slice none 0 0,[]):jl)=ps0 at *;clear hG
 go_loopw [7,8,9,10,11,12,13] (fun s7 _ _ _ _ _ _ W=>∃(ps:List jl)(n c:Nat),n≤es.length∧c≤1000000∧s7=ci n∧Hd (ps.length=K∧kq w W G es ps n c)) (fun s7 _ _ _ _ _ _ _=>es.length-(intOf s7).toNat)
 case atStart=>exact⟨ps0,0,0,by omega,by omega,rfl,qh ⟨hps0,h00.o⟩⟩
 case round=>
  obtain⟨ps,n,c,hnl,hc1,rfl,hR0⟩:=hrel;clear h00 hps0;by_cases hn:n<es.length
  ·have i1:(n:Int)<es.length:=by omega
   go_wp2_with fail;have h01:Hd (c3t w wr G es ps n c 0 (-1)):=qh ⟨hR0.o.2,⟨fun k q x h=>by omega,Or.inl rfl⟩⟩;have HPL:=qh hR0.o.1;clear hR0
   go_loopw [8,9] (fun s8 s9 W=>∃(t:Nat)(lv:Int),t≤K∧s8=ci lv∧s9=ci t∧Hd (c3t w W G es ps n c t lv)) (fun _ s9 _=>K-(intOf s9).toNat)
   case atStart=>exact⟨0,-1,by omega,rfl,rfl,h01⟩
   case round=>
    obtain⟨t,lv,htl,rfl,rfl,hR1⟩:=hrel;clear h01;by_cases ht:t<K
    ·have i2:(t:Int)<K:=by omega
     have hqk:t<ps.length:=by have h9:ps.length=K:=HPL.o;omega
     have hq:ps[t]?=some ps[t]:=cz hqk;generalize ps[t]=q at hq;have hown:=hR1.o.p.row.own t q hq;have gc:=hR1.o.p.row.arr.cell yy (j:=0) hq rfl;rw[Nat.mul_one,Nat.add_zero] at gc;obtain⟨qv,ql⟩:=q
     try simp only at hown gc
     have HR:=qh hR1.o;have HQ:=qh hq;clear hR1 hq hqk;cases ql with
     | nil=>
      obtain⟨qa,qc,rfl⟩:=ax hown;simp only[List.length_nil] at gc;clear hown;go_wp2_with fail
      go_quiet (fail)
      go_wp2_with fail
      go_roundw
      case rel=>
       refine⟨t+1,lv,by omega,rfl,by go_num,qh ⟨HR.o.p.drewN _,⟨fun k r x hk hr hx=>?_,HR.o.l.is⟩⟩⟩;by_cases hkt:k=t
       ·subst hkt;rw[HQ.o] at hr;cases hr;cases hx
       ·exact HR.o.l.ge k r x (by omega) hr hx
      case measure=>simp only[intOf];omega
     | cons y0 ys=>
      obtain⟨gq,qc,rfl⟩:=gl hown;obtain⟨_,_,e1,-,-,hAq⟩:=Arr.of_own (E:=57) hown rfl (by simp);cases e1;have hlast:(y0::ys)[ys.length]?=some ((y0::ys)[ys.length]'(by simp)):=cz (by simp);generalize (y0::ys)[ys.length]'(by simp)=z at hlast;have zc:=hAq.cell b3v (j:=0) hlast rfl;rw[Nat.add_zero] at zc
      try simp only[List.length_cons] at gc
      have hmax:∀x∈(y0::ys).map (·.1),x≤z.1:=fun x hx=>by
       have hs:((y0::ys).map (·.1)).Pairwise (· < ·):=by
        rw[HR.o.p.ats t _ HQ.o];exact b2k
       obtain⟨j,hj⟩:=mig.1 hx;have hjl:=(bk.1 hj).1;rw[List.length_map,List.length_cons] at hjl;have hz:((y0::ys).map (·.1))[ys.length]?=some z.1:=by rw[List.getElem?_map,hlast];rfl
       rcases Nat.lt_or_ge j ys.length with h|h
       ·have:=List.pairwise_iff_getElem.1 hs j ys.length (by simp;omega) (by simp) h;have e1:=(bk.1 hj).2;have e2:=(bk.1 hz).2;rw[e1,e2] at this;omega
       ·have:j=ys.length:=by omega
        subst this;rw[hj] at hz;cases hz;exact nlr _
      have hzm:z.1∈(y0::ys).map (·.1):=List.mem_map.2 ⟨z,dh hlast,rfl⟩;have HZ:=qh (And.intro hmax hzm);have i3:(0:Int)<(ys.length:Int)+1:=by omega
      have hys:ys.length≤1000000:=by
       have h1:((y0::ys).map (·.1)).length=(ats (ofT t) es c).length:=by rw[HR.o.p.ats t _ HQ.o]
       have h2:(ats (ofT t) es c).length≤c+1:=by
        unfold ats;exact nlt (List.length_filter_le _ _) (by simp)
       simp only[List.length_map,List.length_cons] at h1;omega
      clear hown hAq hlast hmax hzm;obtain⟨zt,zw⟩:=z
      try simp only at zc HZ
      by_cases hgt:lv<(zt:Int)
      ·have HGT:=qh hgt;go_wp2_with fail
       go_quiet (fail)
       go_wp2_with fail
       go_quiet (fail)
       go_wp2_with fail
       go_roundw
       case rel=>
        refine⟨t+1,zt,by omega,rfl,by go_num,qh ⟨HR.o.p.drewN _,⟨fun k r x hk hr hx=>?_,Or.inr ⟨t,_,zt,HQ.o,HZ.o.2,rfl⟩⟩⟩⟩;by_cases hkt:k=t
        ·subst hkt;rw[HQ.o] at hr;cases hr;have:=HZ.o.1 x hx;omega
        ·have:=HR.o.l.ge k r x (by omega) hr hx;have:=HGT.o;omega
       case measure=>simp only[intOf];omega
      ·have HGT:=qh hgt;go_wp2_with fail
       go_quiet (fail)
       go_wp2_with fail
       go_roundw
       case rel=>
        refine⟨t+1,lv,by omega,rfl,by go_num,qh ⟨HR.o.p.drewN _,⟨fun k r x hk hr hx=>?_,HR.o.l.is⟩⟩⟩;by_cases hkt:k=t
        ·subst hkt;rw[HQ.o] at hr;cases hr;have:=HZ.o.1 x hx;have:=HGT.o;omega
        ·exact HR.o.l.ge k r x (by omega) hr hx
       case measure=>simp only[intOf];omega
    ·have ht':K=t:=by omega
     subst ht';have HR:=qh hR1.o;obtain⟨-,-,l3⟩:=b9t hR1.o.p (by rw[HPL.o];exact hR1.o.l) HPOS.o (by rw[HPL.o];exact HTOP.o);have HLV:=qh l3;clear hR1 l3;go_wp2_with fail;have h02:Hd (c3u w wr G es ps n c 0 (-1)):=qh ⟨HR.o.p,lm.zero⟩;clear HR
     go_loopw [10,11,12] (fun s10 s11 _ W=>∃(i:Nat)(kk:Int),i≤es.length∧s10=ci kk∧s11=ci i∧Hd (c3u w W G es ps n c i kk)) (fun _ s11 _ _=>es.length-(intOf s11).toNat)
     case atStart=>exact⟨0,-1,by omega,rfl,rfl,h02⟩
     case round=>
      obtain⟨i,kk,hil,rfl,rfl,hR2⟩:=hrel;clear h02;obtain⟨g,lc',hlv,hA0⟩:=HL.o.arr (by omega);have ela:la=some ⟨g,0,none⟩:=by simp only[Value.slice.injEq] at hlv;exact hlv.1
      subst ela;clear hlv;have HA0:=qh hA0;clear hA0;by_cases hi:i<es.length
      ·have i3:(i:Int)<es.length:=by omega
       have hi0:i<L.length:=by have h9:L.length=es.length:=HL.o.len;omega
       have hx:L[i]?=some L[i]:=cz hi0;have he:es[i]?=some es[i]:=cz hi;generalize L[i]=x at hx;generalize es[i]=e at he;have hev:=HL.o.ev i x e hx he;have hb:=hev.b;have hA:=HA0.o.bel hR2.o.p.b;have HRG:Hd (wr.rangeAt g (i*27) x.l):=qh (rr hA hx);have HOC:Hd ((x.a).all (·.oneCell')=true):=qh (all_oneCell_toArray (b7n hev));have r:=Row.new wr 47 x.a;have HX:=qh (And.intro hx (And.intro he hb));have HT:=qh (c3u.mk (hR2.o.p.bel (af (brf wr) (.cells x.a 47))) hR2.o.l);have HA:=qh (hA.alloc (.cells x.a 47));have HRW:=qh r;have hmem:=qh (dh he);clear hev hA hR2 r;by_cases hq:de e=true∧lv<e.at_
       ·obtain⟨f1,f2,f3⟩:=c6w hb hq.1;have f0:decide (lv<(x.at_:Int))=true:=dqt (by rw[hb.at_];exact hq.2);have HQ:=qh (And.intro hq.1 ((HLV.o e hmem.o hq.1).1 hq.2));have HLS:=qh HT.o.l;clear hx he hb hq;rcases HLS.o with ⟨hkk,hl2⟩|⟨m,e0,hkk,hm,hle,hp0,hc0,hl2⟩
        ·subst hkk;clear hl2 HLS
         go_wp2_with (first|((with_reducible refine dt g (i*27) x.l HRG.o ?_ ?_ ?_);rfl;rfl)|((with_reducible refine dr _ x.a HOC.o ?_ ?_ ?_ ?_ ?_);rfl;rfl;rfl;rfl))
         have r1:=HRW.k 1;have r12:=HRW.k 12;have r25:=HRW.k 25;have r26:=HRW.k 26;generalize (wr.alloc (.cells x.a 47))=w2 at *
         go_quiet (fail)
         go_wp2_with fail
         go_roundw
         case rel=>exact⟨i+1,(i:Int),by omega,rfl,by go_num,qh ⟨HT.o.p.drewN _,HT.o.l.take HX.o.2.1 HQ.o.1 HQ.o.2 (Or.inl rfl)⟩⟩
         case measure=>simp only[intOf];omega
        ·subst hkk;have hm1:m<es.length:=by omega
         have hm0:m<L.length:=by have h9:L.length=es.length:=HL.o.len;omega
         have hxm:L[m]?=some L[m]:=cz hm0;generalize L[m]=xm at hxm;have hbm:=(HL.o.ev m xm e0 hxm hle).b;have M25:=qh (HA.o.cell EvC.enc_len (j:=25) hxm rfl);have HE0:=qh (And.intro hle hbm.at_);have i4:(m:Int)<es.length:=by omega
         clear hl2 HLS hle hp0 hc0 hxm hbm;by_cases hlt:(x.at_:Int)<xm.at_
         ·have dl:=dqt hlt
          go_wp2_with (first|((with_reducible refine dt g (i*27) x.l HRG.o ?_ ?_ ?_);rfl;rfl)|((with_reducible refine dr _ x.a HOC.o ?_ ?_ ?_ ?_ ?_);rfl;rfl;rfl;rfl))
          have r1:=HRW.k 1;have r12:=HRW.k 12;have r25:=HRW.k 25;have r26:=HRW.k 26;have m25:=M25.o;generalize (wr.alloc (.cells x.a 47))=w2 at *
          go_quiet (fail)
          go_wp2_with fail
          go_roundw
          case rel=>exact⟨i+1,(i:Int),by omega,rfl,by go_num,qh ⟨HT.o.p.drewN _,HT.o.l.take HX.o.2.1 HQ.o.1 HQ.o.2 (Or.inr ⟨m,e0,rfl,HE0.o.1,by have h8:=HE0.o.2;have h9:x.at_=e.at_:=HX.o.2.2.at_;omega⟩)⟩⟩
          case measure=>simp only[intOf];omega
         ·have dl:=dqf hlt
          go_wp2_with (first|((with_reducible refine dt g (i*27) x.l HRG.o ?_ ?_ ?_);rfl;rfl)|((with_reducible refine dr _ x.a HOC.o ?_ ?_ ?_ ?_ ?_);rfl;rfl;rfl;rfl))
          have r1:=HRW.k 1;have r12:=HRW.k 12;have r25:=HRW.k 25;have r26:=HRW.k 26;have m25:=M25.o;generalize (wr.alloc (.cells x.a 47))=w2 at *
          go_quiet (fail)
          go_wp2_with fail
          go_roundw
          case rel=>exact⟨i+1,(m:Int),by omega,rfl,by go_num,qh ⟨HT.o.p.drewN _,HT.o.l.keep HX.o.2.1 (fun _ _=>⟨m,e0,rfl,HE0.o.1,by have h8:=HE0.o.2;have h9:x.at_=e.at_:=HX.o.2.2.at_;omega⟩)⟩⟩
          case measure=>simp only[intOf];omega
       ·have hF:=c9w hb hq;have HQ:=qh hq;clear hx he hb hq;rcases hF with f1|⟨f1,f2⟩|⟨f1,f2,f3⟩|⟨f1,f2,f3,f4⟩
        all_goals
         go_wp2_with (first|((with_reducible refine dt g (i*27) x.l HRG.o ?_ ?_ ?_);rfl;rfl)|((with_reducible refine dr _ x.a HOC.o ?_ ?_ ?_ ?_ ?_);rfl;rfl;rfl;rfl))
         have r1:=HRW.k 1;have r12:=HRW.k 12;have r25:=HRW.k 25;have r26:=HRW.k 26;generalize (wr.alloc (.cells x.a 47))=w2 at *
         go_quiet (fail)
         go_wp2_with fail
         go_roundw
         case rel=>exact⟨i+1,kk,by omega,rfl,by go_num,qh ⟨HT.o.p.drewN _,HT.o.l.keep HX.o.2.1 (fun h1 h2=>absurd ⟨h1,(HLV.o e hmem.o h1).2 h2⟩ HQ.o)⟩⟩
         case measure=>simp only[intOf];omega
      ·have hi':i=es.length:=by omega
       subst hi';rcases hR2.o.l with ⟨hkk,-⟩|⟨m,e0,hkk,hm,hle,-⟩
       ·subst hkk;have HR:=qh hR2.o;clear hR2;go_wp2_with fail
        go_ret2
        exact .mk G ps c HR.o.p.b HPL.o HR.o.p.row HR.o.p.ats HR.o.l.full
       ·subst hkk;have hm0:m<L.length:=by have h9:L.length=es.length:=HL.o.len;omega
        have hxm:L[m]?=some L[m]:=cz hm0;generalize L[m]=xm at hxm;have hev:=HL.o.ev m xm e0 hxm hle;have hA:=HA0.o.bel hR2.o.p.b;obtain⟨e1,h3,h4,h5,h6⟩:=hR2.o.l.some;obtain rfl:e1=e0:=Option.some.inj (h3.symm.trans hle);have hmem:=dh h3;obtain⟨tt,t1,t2,t3⟩:=HTOP.o e1 hmem h4;have htq:tt<ps.length:=by have h9:ps.length=K:=HPL.o;omega
        have hq:ps[tt]?=some ps[tt]:=cz htq;generalize ps[tt]=q at hq;obtain⟨qv,ql⟩:=q;have hqats:ql.map (·.1)=ats (ofT tt) es c:=hR2.o.p.ats tt _ hq;have hown:wr.ownsRow w.heap.size 57 2 qv ql.length (ql.flatMap pubE):=hR2.o.p.row.own tt _ hq;obtain⟨qa,qc,rfl⟩:=ax hown
        have hgen:e1.gen=ql.length+1:=by
         rw[t3,←b6r,←pp (HD.o.ofT tt),tw HD.o hmem h4 t1 h5 h6,if_pos rfl,List.length_append,←hqats,List.length_map]
         rfl
        have hql:ql.length≤1000:=by
         have h8:=congrArg List.length hqats;rw[List.length_map,pp (HD.o.ofT tt)] at h8;have h9:=List.countP_le_length (p:=fun e=>ofT tt e&&decide (e.at_≤c)) (l:=es);omega
        have d2:wr.cell? (ae g (m*27+1+1))=some (ci (tt:Int)):=by
         have h:=hA.cell EvC.enc_len (j:=2) hxm rfl;rw[hev.b.tp,t1] at h;exact h
        have d14:wr.cell? (ae g (m*27+12+2))=some (cu ((ql.length:Int)+1)):=by
         have h:=hA.cell EvC.enc_len (j:=14) hxm rfl;rw[hev.b.gen,hgen] at h;exact h
        have gc:wr.cell? (ae G tt)=some (.slice qa ql.length qc):=b0l hR2.o.p.row.arr hq;have HXM:=qh hxm;have HQK:=qh hq;have HEV:=qh hev;have HE1:=qh (And.intro hmem (And.intro h4 (And.intro h5 (And.intro h6 t1))));have HAT:=qh hqats;have HR:=qh hR2.o;have HA:=qh hA;have HOW:=qh hown;have HGA:=qh hR2.o.p.row.arr;obtain⟨wa,wn,wc,hwe⟩:=hev.words;have HWE:=qh hwe;have i4:(m:Int)<es.length:=by omega
        have i5:(tt:Int)<K:=by omega
        have i6:decide ((tt:Int)<0)=false:=dqf (by omega);have i7:decide ((K:Int)≤tt)=false:=dqf (by omega);have i8:¬ (tt:Int)<0:=by omega
        have i9:¬ (K:Int)≤tt:=by omega
        have hw1:IntKind.u64.wrap (ql.length:Int)=ql.length:=by rw[IntKind.wrap_u64];omega
        have hw2:IntKind.u64.wrap ((ql.length:Int)+1)=(ql.length:Int)+1:=by rw[IntKind.wrap_u64];omega
        have i10:decide (K≤tt)=false:=dqf (by omega);clear hwe hxm hev hA h3 h4 h5 h6 hmem t1 t3 htq hq hqats hown hgen hR2 hle;go_wp2_with fail
        go_quiet (fail)
        go_wp2_with fail;have HRz:=qh (HR.o.p.drewN nq);have HAz:=qh (HA.o.same (sdn nq) (by simp));have HOWz:=qh (ai HOW.o (sdn nq) nm0);have HGAz:=qh (HGA.o.same (sdn nq) (by simp));have HLS:=qh HR.o.l;clear HR HA HOW HGA d2 d14 gc;generalize wr.drewN nq=w2 at *;have HR:=HRz;have HA:=HAz;have HOW:=HOWz;have HGA:=HGAz;clear HRz HAz HOWz HGAz;have HQ:=qh (ab.refl (G::(Value.slice qa ql.length qc).ownBlock.toList) w2);have hsz2:w.heap.size≤w2.heap.size:=HR.o.b.size;have hgeq:=fw HOW.o;have hltq:=ie HOW.o;have ne_g_G:g≠G:=b0v HA.o HGA.o (by decide);have ne_qv_G:=du HOW.o HGA.o (by decide);have hgw:g<w.heap.size:=HA0.o.lt;revert HGA;revert HA;revert HOW;revert HQ
        refine cq (sdz w2) ?_;intro HQ HOW HA HGA;have hU:UD (fun W=>W.cell? (ae G tt)=some (Value.slice qa ql.length qc)∧W.cell? (ae g (m*27+25))=some (ci (xm.at_:Nat))∧W.cell? (ae g (m*27+1+10))=some (Value.slice wa wn wc)):=al fun W n h=>h;have hC0:=hU.at _ ⟨b0l HGA.o HQK.o,HA.o.cell EvC.enc_len (j:=25) HXM.o rfl,yz HA.o HXM.o HWE.o⟩;refine dw aj hU hC0 ?_;intro S;generalize w2.drew=u0 at *;refine ao S hU [0,1,2,3,4,5,6,7,8,9,10,11,12,13,14,15,16,17] 163 4 hC0 ?_;constructor
        ·intro W' hW';simp only[pick,List.filterMap,gq1,gq2,gq3];obtain⟨q0,q1,q2⟩:=hW'
         repeat (go_big_quiet_step (fail))
         exact wpQuiet_nil rfl
        refine az S hU 18 3 rfl hC0 fun n0 K1 hK1=>?_;go_wp2_with fail;have ne_G_nb:G≠(u0.drewN n0).heap.size:=nnl (HGA.o.drewN n0).lt;have ne_nb_G:=ne_G_nb.symm;have ne_g_nb:g≠(u0.drewN n0).heap.size:=nnl (HA.o.drewN n0).lt;have ne_nb_g:=ne_g_nb.symm;have HLIT:=qh (jo (w:=(u0.drewN n0)) (cs:=#[ci (xm.at_:Nat),.slice wa wn wc]) (t:=57) rfl);have HN:=qh (Row.new (u0.drewN n0) 57 #[ci (xm.at_:Nat),.slice wa wn wc]);revert HQ HOW HA HGA;refine cq (sal u0 n0 (.cells #[ci (xm.at_:Nat),.slice wa wn wc] 57)) ?_;intro HQ HOW HA HGA;have hC1:=hU.at _ ⟨b0l HGA.o HQK.o,HA.o.cell EvC.enc_len (j:=25) HXM.o rfl,yz HA.o HXM.o HWE.o⟩;refine hK1 _ _ hC1 ?_;clear hK1 hC0;have hzN:(u0.drewN n0).heap.size=u0.heap.size:=rfl;simp only[hzN] at *;clear hzN;generalize u0.heap.size=nb at *;generalize ((u0.drewN n0).alloc (.cells #[ci (xm.at_:Nat),.slice wa wn wc] 57))=u1 at *;clear HN
        refine az S hU 19 2 rfl hC1 fun n1 K1 hK1=>?_;obtain⟨i0,hi0,hz0,hz1,hz2⟩:=info_parts c8v;refine wpList_append_own_at _ rfl _ _ 49 rfl w.heap.size 57 i0 _ 2 32 Tryz.underlying49 hi0 hz0 hz1 hz2 rfl (by decide) (.slice qa ql.length qc) ql.length (ql.flatMap pubE) rfl (ai HOW.o (sdn n1) nm0) ⟨nb,0,none⟩ 1 1 (#[ci (xm.at_:Nat),.slice wa wn wc]).toList rfl rfl (fun j u h=>HLIT.o j u h) (fun u hu=>by simp at hu;rcases hu with rfl|rfl<;>rfl) (by unfold maxLen;omega) (by omega) (nlt hsz2 (HQ.o.drewN n1).size) ?_;intro v9 wv9 hown9 hgrow9 _ hblk9;obtain⟨gv9,cv9,rfl⟩:=gl hown9;have hs9:=ab.grown' hgrow9;clear hgrow9;have nb_G:G∉(Value.slice qa ql.length qc).ownBlock.toList:=jk (ai HOW.o (sdn n1) nm0) (HGA.o.drewN n1) (by decide)
        have nb_g:g∉(Value.slice qa ql.length qc).ownBlock.toList:=jk (ai HOW.o (sdn n1) nm0) (HA.o.drewN n1) (by decide);go_wp2_with fail
        have HBLK:Hd ((Value.slice qa ql.length qc).ownBlock=some gv9∨w2.heap.size≤gv9):=qh (by
         rcases hblk9 with e|e
         ·exact Or.inl e.symm
         ·cases e;exact Or.inr (HQ.o.drewN n1).size)
        replace HOW:=qh hown9;revert HQ HA HGA;refine cm (ssm hs9) ⟨(fun y hy _=>by simp at hy ⊢;first|omega|simp[hy]),nb_g,nb_G,trivial⟩ ?_;intro HQ HA HGA;have hC2:=hU.at _ ⟨b0l HGA.o HQK.o,HA.o.cell EvC.enc_len (j:=25) HXM.o rfl,yz HA.o HXM.o HWE.o⟩;refine hK1 _ _ hC2 ?_;clear hK1 hC1;clear hs9 hown9 hblk9;have ne_v9_G:=du HOW.o HGA.o (by decide);refine ao S hU [20] 163 1 hC2 ?_;constructor
        ·intro W' hW';simp only[pick,List.filterMap,gq1,gq2,gq3];obtain⟨q0,q1,q2⟩:=hW'
         repeat (go_big_quiet_step (fail))
         exact wpQuiet_nil rfl
        refine ti S hU 21 rfl hC2 fun n2 K1 hK1=>?_;have hfz:=(HGA.o.drewN n2).free;have hcw:=b0l (HGA.o.drewN n2) HQK.o;go_wp2_with fail;clear hfz hcw;replace HGA:=qh (c3r (v:=zl gv9 (ql.length+1) cv9) (l:=ql++[(xm.at_,.slice wa wn wc)]) (HGA.o.drewN n2) HQK.o);revert HOW HQ HA;refine cm (sst wv9 n2 G tt (zl gv9 (ql.length+1) cv9)) ⟨no1 ne_v9_G,mm (by simp),nn ne_g_G,trivial⟩ ?_;intro HOW HQ HA;refine hK1 _ _ ?_;clear hK1 hC2;generalize ((wv9.drewN n2).setCell ⟨G,tt,none⟩ (zl gv9 (ql.length+1) cv9))=u3 at *;refine dd fun n9=>?_;revert HGA HOW HQ HA;refine cq (sdw u3 n9) ?_;intro HGA HOW HQ HA;clear S hU;generalize u3.drewN n9=w9 at *;go_wp2_with fail
        go_roundw
        case rel=>
         obtain⟨hmem,h4,h5,h6,t1⟩:=HE1.o;have hxa:xm.at_=e1.at_:=HEV.o.b.at_;have htl:tt<ps.length:=(bk.1 HQK.o).1
         have hne:∀(k:Nat)(r:jl),k≠tt→ps[k]?=some r→∀b,r.1.ownBlock=some b→b∉G::(Value.slice qa ql.length qc).ownBlock.toList:=fun k r hk hr b hb h=>by
          have ho:=HR.o.row.own k r hr;simp only[List.mem_cons] at h;rcases h with e|e
          ·exact du ho HR.o.row.arr (by decide) b hb e
          ·exact hk (HR.o.row.apart k tt r _ b hr HQK.o hb (by simpa using e))
         have hgv:∀(k:Nat)(r:jl),k≠tt→ps[k]?=some r→r.1.ownBlock≠some gv9:=fun k r hk hr e=>by
          rcases HBLK.o with h|h
          ·exact hk (HR.o.row.apart k tt r _ gv9 hr HQK.o e h)
          ·have:=ie (HR.o.row.own k r hr) gv9 e;omega
         refine⟨ps.set tt (zl gv9 (ql.length+1) cv9,ql++[(xm.at_,.slice wa wn wc)]),n+1,xm.at_,by omega,by have:=hat e1 hmem;omega,by go_num,qh ⟨by rw[List.length_set];exact HPL.o,HR.o.b.trans (HQ.o.below hsz2 fun x hx=>?_),⟨HGA.o,fun k r hr=>?_,fun j k q r b h1 h2 h3 h4=>?_⟩,fun k r hr=>?_,?_⟩⟩
         ·simp only[List.mem_cons] at hx;rcases hx with e|e
          ·omega
          ·exact hgeq x (by simpa using e)
         ·by_cases hk:k=tt
          ·subst hk;rw[List.getElem?_set_self htl] at hr;cases hr;simp only[List.length_append,List.length_singleton,List.flatMap_append];exact HOW.o
          ·rw[List.getElem?_set_ne (fun e=>hk e.symm)] at hr;exact ai (HR.o.row.own k r hr) HQ.o (hne k r hk hr)
         ·by_cases hj:j=tt
          ·by_cases hk:k=tt
           ·omega
           ·subst hj;rw[List.getElem?_set_self htl] at h1;rw[List.getElem?_set_ne (fun e=>hk e.symm)] at h2;cases h1;cases h3;exact absurd h4 (hgv k r hk h2)
          ·rw[List.getElem?_set_ne (fun e=>hj e.symm)] at h1;by_cases hk:k=tt
           ·subst hk;rw[List.getElem?_set_self htl] at h2;cases h2;cases h4;exact absurd h3 (hgv j q hj h1)
           ·rw[List.getElem?_set_ne (fun e=>hk e.symm)] at h2;exact HR.o.row.apart j k q r b h1 h2 h3 h4
         ·by_cases hk:k=tt
          ·subst hk;rw[List.getElem?_set_self htl] at hr;cases hr;have h7:=tw (k:=k) HD.o hmem h4 t1 h5 h6;rw[if_pos rfl] at h7;rw[hxa,h7,List.map_append,HAT.o]
           rfl
          ·rw[List.getElem?_set_ne (fun e=>hk e.symm)] at hr;have h7:=tw (k:=k) HD.o hmem h4 t1 h5 h6;rw[if_neg hk,List.append_nil] at h7;rw[hxa,h7];exact HR.o.ats k r hr
         ·rw[hxa];exact HR.o.g.next HD.o hmem h4 h5 h6
        case measure=>simp only[intOf];omega
  ·have hn':n=es.length:=by omega
   subst hn';go_wp2_with fail
   go_ret2
   exact .mk G ps c hR0.o.2.b hR0.o.1 hR0.o.2.row hR0.o.2.ats hR0.o.2.g.full
end Go.Proofs.YtojkaibpfdhmaaaGreatDoor

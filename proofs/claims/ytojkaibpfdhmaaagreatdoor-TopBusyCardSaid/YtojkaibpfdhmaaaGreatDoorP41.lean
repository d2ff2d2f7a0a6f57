/- A history is told: Sched.History. -/
import Derived.Test.YtojkaibpfdhmaaaGreatDoorP16
import Derived.Test.YtojkaibpfdhmaaaGreatDoorP40
import Derived.Test.YtojkaibpfdhmaaaGreatDoorP21
import Derived.Test.YtojkaibpfdhmaaaGreatDoorP36
namespace Go.Proofs.YtojkaibpfdhmaaaGreatDoor
open Go.RowKit
set_option maxRecDepth 100000
set_option maxHeartbeats 16000000
theorem lr{α:Type}{enc:α→List Value}{sz N g E k j:Nat}{W:World}{L:List α}{x:α}{v:Value}(h:ff enc sz N W g E (L.set k x))(hl:∀x,(enc x).length=sz)(hk:k<L.length)(hv:(enc x)[j]?=some v):W.cell? (ae g (k*sz+j))=some v:=
 h.cell hl (by simp[hk]) hv
theorem vj{α:Type}{enc:α→List Value}{sz N g E k j:Nat}{W:World}{L:List α}{x x':α}{v:Value}(h:ff enc sz N W g E (L.set k x))(hl:∀x,(enc x).length=sz)(hk:k<L.length)(hj:j<sz)(he:enc x'=(enc x).set j v):ff enc sz N (W.setCell ⟨g,k*sz+j,none⟩ v) g E (L.set k x'):=by
 have:=h.set hl (k:=k) (j:=j) (x:=x) (x':=x') (v:=v) (by simp[hk]) hj he
 rwa [List.set_set] at this
structure mw(W:World)(c:bu)(p:PC):Prop where
 kd:c.kd=p.kind
 tp:c.tp=p.topic
 sb:c.sb=p.sub
 cp:c.cp=p.cap
 rk:c.rk=p.rank
 sr:c.sr=p.src
 mo:c.mo=p.mode
 fl:c.fl=p.flags
 fb:c.fb=p.free
 set:Has W 1 c.set p.set.length (p.set.map (Value.int .i64))
 words:∃wl:List Nat,wl.length=p.nw∧Has W 1 c.words wl.length (bj wl).toList
 few:p.set.length≤100∧p.nw≤100
theorem mw.bel{W W':World}{c:bu}{p:PC}(h:mw W c p)(hb:Below W.heap.size W W'):mw W' c p:=by
 obtain⟨wl,h1,h2⟩:=h.words;exact⟨h.kd,h.tp,h.sb,h.cp,h.rk,h.sr,h.mo,h.fl,h.fb,h.set.bel hb,⟨wl,h1,h2.bel hb⟩,h.few⟩
theorem mw.same{W W':World}{c:bu}{p:PC}{M:List Nat}(h:mw W c p)(hs:ab M W W')(h1:∀b,c.set.ownBlock=some b→b∉M)(h2:∀b,c.words.ownBlock=some b→b∉M):mw W' c p:=by
 obtain⟨wl,g1,g2⟩:=h.words;exact⟨h.kd,h.tp,h.sb,h.cp,h.rk,h.sr,h.mo,h.fl,h.fb,h.set.same hs h1,⟨wl,g1,g2.same hs h2⟩,h.few⟩
theorem nk{W:World}{sz n:Nat}{v:Value}{cs:List Value}(h:Has W sz v n cs):v.oneCell'=true:=by
 rcases h.shape with ⟨rfl,_⟩|⟨a,c,rfl,_⟩<;>rfl
structure ol(W:World)(v:Value)(p:List PC)(cl:List bu):Prop where
 len:cl.length=p.length
 has:Has W 11 v p.length (cl.flatMap bu.enc)
 each:∀(j:Nat)(c:bu)(pc:PC),cl[j]?=some c→p[j]?=some pc→mw W c pc
def b0q(n m g:Nat)(c:bu):Prop:=(∀b,c.set.ownBlock=some b→n≤b∧b<m∧b≠g)∧∀b,c.words.ownBlock=some b→n≤b∧b<m∧b≠g
theorem b0q.up{n m m' g:Nat}{c:bu}(h:b0q n m g c)(hm:m≤m'):b0q n m' g c:=⟨fun b hb=>⟨(h.1 b hb).1,Nat.lt_of_lt_of_le (h.1 b hb).2.1 hm,(h.1 b hb).2.2⟩,fun b hb=>⟨(h.2 b hb).1,Nat.lt_of_lt_of_le (h.2 b hb).2.1 hm,(h.2 b hb).2.2⟩⟩
theorem b7z{cl:List bu}(h:∀c∈cl,c.set.oneCell'=true∧c.words.oneCell'=true):∀u∈cl.flatMap bu.enc,u.oneCell'=true:=by
 intro u hu;obtain⟨c,hc,hu⟩:=List.mem_flatMap.1 hu;simp only[bu.enc,List.mem_cons,List.not_mem_nil,or_false] at hu;rcases hu with rfl|rfl|rfl|rfl|rfl|rfl|rfl|rfl|rfl|rfl|rfl<;>first|rfl|exact(h c hc).1|exact(h c hc).2
theorem ol.one{W:World}{v:Value}{p:List PC}{cl:List bu}(h:ol W v p cl):∀u∈cl.flatMap bu.enc,u.oneCell'=true:=by
 refine b7z fun c hc=>?_;obtain⟨j,hj⟩:=mig.1 hc;have hl:=(bk.1 hj).1;rw[h.len] at hl;have:=h.each j c _ hj (cz hl);obtain⟨wl,_,h2⟩:=this.words;exact⟨nk this.set,nk h2⟩
structure c0e(w W:World)(g N:Nat)(p:List PC)(cl0:List bu)(k:Nat):Prop where
 b:Below w.heap.size w W
 ex:∃cl:List bu,cl.length=p.length∧ff bu.enc 11 N W g 39 cl∧(∀j,k≤j→cl[j]?=cl0[j]?)∧∀(j:Nat)(c:bu)(pc:PC),j<k→cl[j]?=some c→p[j]?=some pc→mw W c pc∧b0q w.heap.size W.heap.size g c
theorem d0e(w:World)(v:Value)(p:List PC)(cl:List bu)(hp:ol w v p cl)(hlen:p.length≤100):Calls Tryz.prog 16 #[v] w fun e w'=>∃(v':Value)(cl':List bu),e=.returned v'∧Below w.heap.size w w'∧cl'.length=p.length∧w'.ownsRow w.heap.size 39 11 v' p.length (cl'.flatMap bu.enc)∧∀(j:Nat)(c:bu)(pc:PC),cl'[j]?=some c→p[j]?=some pc→mw w' c pc∧(∀b,c.set.ownBlock=some b→w.heap.size≤b∧b<w'.heap.size)∧∀b,c.words.ownBlock=some b→w.heap.size≤b∧b<w'.heap.size:=by
 have HP:=qh hp;have hcl:=qh (b2d hp.has hp.one (by omega));clear hp
 go_enter Tryz.func16,Tryz.ntmps16
 go_wp2_with fail;refine hcl.o.mono ?_;rintro e w1 ⟨v1,rfl,hb1,ho1,-⟩;clear hcl;by_cases hn:p.length=0
 ·obtain⟨a,c,rfl⟩:=ax ho1;rw[hn] at ho1 ⊢;have HO1:=qh (And.intro hb1 ho1);clear hb1 ho1;go_wp2_with fail
  go_loopw [9] (fun iv W=>iv=ci 0∧Hd (w1=W)) (fun iv _=>0)
  case atStart=>exact⟨rfl,qh rfl⟩
  case round=>
   obtain⟨rfl,hW⟩:=hrel;obtain rfl:=hW.o;go_wp2_with fail;go_ret;have hcl0:cl=[]:=List.length_eq_zero_iff.1 (HP.o.len.trans hn);subst hcl0;exact⟨_,rfl,HO1.o.1,HO1.o.2⟩
 ·obtain⟨g,cap,rfl,hg,hc1,hc2,hA⟩:=ff.of_own (E:=39) ho1 HP.o.len.symm (by omega);have h00:Hd (c0e w w1 g (cap*11) p cl 0):=qh ⟨hb1,cl,HP.o.len,hA,fun _ _=>rfl,fun j c pc h=>by omega⟩;have hgw:w.heap.size≤g:=hg;clear hb1 ho1 hA hg;go_wp2_with fail
  go_loopw [4,9] (fun i4 iv W=>∃k:Nat,k≤p.length∧iv=ci k∧Hd (c0e w W g (cap*11) p cl k)) (fun _ iv _=>p.length-(intOf iv).toNat)
  case atStart=>exact⟨0,by omega,rfl,h00⟩
  case round=>
   obtain⟨k,hkl,rfl,hR0⟩:=hrel;clear h00;obtain⟨hb,cl1,hl1,hA,hold,hnew⟩:=hR0.o;by_cases hk:k<p.length
   ·have i1:(k:Int)<p.length:=by omega
    have i2:¬ (p.length:Int)≤k:=by omega
    have hkc:k<cl.length:=by have:=HP.o.len;omega
    have hx0:cl[k]?=some cl[k]:=cz hkc;have hpc0:p[k]?=some p[k]:=cz hk;generalize cl[k]=c at hx0;generalize p[k]=pc at hpc0;have hx1:cl1[k]?=some c:=(hold k (nlr _)).trans hx0;have hci:=HP.o.each k c pc hx0 hpc0;obtain⟨wl,hwl,hw2⟩:=hci.words;have HCI:=qh hci;have HWL:=qh hwl;have HW2:=qh hw2;have HA:Hd (ff bu.enc 11 (cap*11) wr g 39 (cl1.set k c)):=qh (by rw[oo hx1];exact hA);have HKL:=qh (show k<cl1.length by omega);have HB:=qh hb;have HL1:=qh hl1;have HOLD:=qh hold;have HNEW:=qh hnew;have HX1:=qh hx1;have HPC:=qh hpc0;have hfew1:=hci.few.1;have hfew2:=hci.few.2;have HQ:=qh (ab.refl [g] wr);clear hx0 hx1 hpc0 hci hwl hw2 hA hb hold hnew hR0 hl1;go_wp2_with fail;revert HA;revert HB;revert HQ
    refine cq (sdz wr) ?_;intro HQ HB HA;have hU:UD (fun W=>W.cell? (ae g (k*11+10))=some c.words):=al fun W n h=>h;have hC0:=hU.at _ (lr (j:=10) HA.o bu.enc_len HKL.o rfl);refine dw aj hU hC0 ?_;intro S;generalize wr.drew=u0 at *;refine ao S hU [0,1,2,3,4,5,6,7,10,11,12,13,14] 34 9 hC0 ?_;constructor
    ·intro W' hW';simp only[pick,List.filterMap,gq1,gq2,gq3];have q0:=hW'
     repeat (go_big_quiet_step (fail))
     exact wpQuiet_nil rfl
    refine az S hU 8 8 rfl hC0 fun n0 K1 hK1=>?_;have hcw:=lr (j:=9) (HA.o.drewN n0) bu.enc_len HKL.o rfl;go_wp2_with fail;revert HQ HB HA;refine cq (sdw u0 n0) ?_;intro HQ HB HA;have hC1:=hU.at _ (lr (j:=10) HA.o bu.enc_len HKL.o rfl);refine hK1 _ _ hC1 ?_;clear hK1 hC0;generalize (u0.drewN n0)=v1 at *;clear hcw;refine az S hU 9 7 rfl hC1 fun n1 K1 hK1=>?_;go_wp2_with fail;refine(lh (HCI.o.set.bel (show Below w.heap.size w (v1.drewN n1) from below_drewN HB.o n1)) (fun u hu=>by obtain⟨x,_,rfl⟩:=List.mem_map.1 hu;rfl) (by omega)).mono ?_;rintro e w3 ⟨sv,rfl,hb,ho,-⟩;obtain⟨sa,sc,rfl⟩:=ax ho;have HSG:=qh (fun (b:Nat)(e:(Value.slice sa pc.set.length sc).ownBlock=some b)=>nlt (show Below w.heap.size w (v1.drewN n1) from below_drewN HB.o n1).size (fw ho b e));go_wp2_with fail;have HS:=qh ho;revert HQ HB HA;refine cq (sbl hb) ?_;intro HQ HB HA
    have hC2:=hU.at _ (lr (j:=10) HA.o bu.enc_len HKL.o rfl);refine hK1 _ _ hC2 ?_;clear hK1 hC1;clear hb ho;refine az S hU 15 6 rfl hC2 fun n2 K1 hK1=>?_;go_wp2_with fail;refine(ez (HW2.o.bel (show Below w.heap.size w (w3.drewN n2) from below_drewN HB.o n2)) (je wl) (by have:=HWL.o;omega)).mono ?_;rintro e w4 ⟨wv,rfl,hb,ho,-⟩;obtain⟨wa,wc,rfl⟩:=ax ho;have HWG:=qh (fun (b:Nat)(e:(Value.slice wa wl.length wc).ownBlock=some b)=>nlt (show Below w.heap.size w (w3.drewN n2) from below_drewN HB.o n2).size (fw ho b e));go_wp2_with fail;have HW:=qh ho;revert HS HQ HB HA;refine cq (sbl hb) ?_;intro HS HQ HB HA;have hC3:=hU.at _ (lr (j:=10) HA.o bu.enc_len HKL.o rfl);refine hK1 _ _ hC3 ?_;clear hK1 hC2;clear hb ho;have ne_sv_g:=du HS.o HA.o.arr (by decide);have ne_wv_g:=du HW.o HA.o.arr (by decide);have lo_g:w.heap.size≤g:=hgw
    refine ao S hU [16,17] 34 4 hC3 ?_;constructor
    ·intro W' hW';simp only[pick,List.filterMap,gq1,gq2,gq3];have q0:=hW'
     repeat (go_big_quiet_step (fail))
     exact wpQuiet_nil rfl
    refine az S hU 18 3 rfl hC3 fun n3 K1 hK1=>?_;have hfz:=(HA.o.drewN n3).free;have hcw:=lr (j:=9) (HA.o.drewN n3) bu.enc_len HKL.o rfl;go_wp2_with fail;replace HA:=qh (vj (j:=9) (x':={c with set:=.slice sa pc.set.length sc}) (HA.o.drewN n3) bu.enc_len HKL.o (by decide) rfl);revert HW HS HQ HB;refine cm (sst w4 n3 g ((k*11+9)) (.slice sa pc.set.length sc)) ⟨no1 ne_wv_g,no1 ne_sv_g,mm (by simp),mn lo_g,trivial⟩ ?_;intro HW HS HQ HB;have hC4:=hU.at _ (lr (j:=10) HA.o bu.enc_len HKL.o rfl);refine hK1 _ _ hC4 ?_;clear hK1 hC3;generalize ((w4.drewN n3).setCell ⟨g,k*11+9,none⟩ (.slice sa pc.set.length sc))=u4 at *;clear hfz hcw;refine ao S hU [19,20] 34 1 hC4 ?_;constructor
    ·intro W' hW';simp only[pick,List.filterMap,gq1,gq2,gq3];have q0:=hW'
     repeat (go_big_quiet_step (fail))
     exact wpQuiet_nil rfl
    refine ti S hU 21 rfl hC4 fun n4 K1 hK1=>?_;have hfz:=(HA.o.drewN n4).free;have hcw:=lr (j:=10) (HA.o.drewN n4) bu.enc_len HKL.o rfl;go_wp2_with fail;replace HA:=qh (vj (j:=10) (x':={c with set:=.slice sa pc.set.length sc,words:=.slice wa wl.length wc}) (HA.o.drewN n4) bu.enc_len HKL.o (by decide) rfl);revert HW HS HQ HB;refine cm (sst u4 n4 g ((k*11+10)) (.slice wa wl.length wc)) ⟨no1 ne_wv_g,no1 ne_sv_g,mm (by simp),mn lo_g,trivial⟩ ?_;intro HW HS HQ HB;refine hK1 _ _ ?_;clear hK1 hC4;generalize ((u4.drewN n4).setCell ⟨g,k*11+10,none⟩ (.slice wa wl.length wc))=u5 at *;clear hfz hcw;refine dd fun n9=>?_;revert HA HW HS HQ HB;refine cq (sdw u5 n9) ?_;intro HA HW HS HQ HB;clear S hU;generalize u5.drewN n9=w9 at *;go_wp2_with fail
    go_roundw
    case rel=>
     refine⟨k+1,by omega,by go_num,qh ⟨HB.o,_,by rw[List.length_set];exact HL1.o,HA.o,fun j hj=>?_,fun j c2 pc2 hj h1 h2=>?_⟩⟩
     ·rw[List.getElem?_set_ne (by omega)];exact HOLD.o j (by omega)
     ·by_cases hjk:j=k
      ·subst hjk;rw[List.getElem?_set_self HKL.o] at h1;cases h1;rw[HPC.o] at h2;cases h2;have h3:=HCI.o;exact⟨⟨h3.kd,h3.tp,h3.sb,h3.cp,h3.rk,h3.sr,h3.mo,h3.fl,h3.fb,j5 HS.o,⟨wl,HWL.o,j5 HW.o⟩,h3.few⟩,fun b hb=>⟨HSG.o b hb,ie HS.o b hb,ne_sv_g b hb⟩,fun b hb=>⟨HWG.o b hb,ie HW.o b hb,ne_wv_g b hb⟩⟩
      ·rw[List.getElem?_set_ne (fun e=>hjk e.symm)] at h1;obtain⟨h3,h4⟩:=HNEW.o j c2 pc2 (by omega) h1 h2;exact⟨h3.same HQ.o (fun b hb=>by simpa using (h4.1 b hb).2.2) (fun b hb=>by simpa using (h4.2 b hb).2.2),h4.up HQ.o.size⟩
    case measure=>simp only[intOf];omega
   ·have hk':k=p.length:=by omega
    subst hk';have HR:=qh hR0.o;clear hR0 hb hl1 hA hold hnew;go_wp2_with fail;go_ret;obtain⟨hb,cl2,hl2,hA2,-,hnew2⟩:=HR.o;refine⟨_,cl2,rfl,hb,hl2,⟨by rw[ik bu.enc_len,hl2],?_⟩,fun j c pc h1 h2=>?_⟩
    ·obtain⟨cur,hr,ht,hn2⟩:=hA2.ex;exact Or.inr ⟨g,cap,cur,rfl,hgw,hr.at_,by omega,hc2,hn2,by rw[←hl2];exact ht⟩
    ·have hj:=(bk.1 h2).1;obtain⟨g1,g2,g3⟩:=hnew2 j c pc hj h1 h2;exact⟨g1,fun b hb=>⟨(g2 b hb).1,(g2 b hb).2.1⟩,fun b hb=>⟨(g3 b hb).1,(g3 b hb).2.1⟩⟩
def kt(W:World)(tag:Nat→Nat)(n:Nat)(v:Value):Prop:=∀b,v.ownBlock=some b→b<W.heap.size∧tag b=n
def mq(W:World)(tag tag':Nat→Nat):Prop:=∀b,b<W.heap.size→tag' b=tag b
def Rd(W:World)(tag:Nat→Nat)(v:Value):Prop:=(∃n cs,Has W 1 v n cs∧(∀u∈cs,u.oneCell'=true)∧n≤1000000)∧kt W tag 0 v∧v.oneCell'=true
structure vl(W:World)(tag:Nat→Nat)(c:bu)(p:PC):Prop where
 kd:c.kd=p.kind
 tp:c.tp=p.topic
 sb:c.sb=p.sub
 cp:c.cp=p.cap
 rk:c.rk=p.rank
 sr:c.sr=p.src
 mo:c.mo=p.mode
 fl:c.fl=p.flags
 fb:c.fb=p.free
 set:Has W 1 c.set p.set.length (p.set.map (Value.int .i64))
 words:∃wl:List Nat,wl.length=p.nw∧Has W 1 c.words wl.length (bj wl).toList
 t1:kt W tag 0 c.set
 t2:kt W tag 0 c.words
 o1:c.set.oneCell'=true
 o2:c.words.oneCell'=true
 few:p.set.length≤100∧p.nw≤100
structure EvAt(W:World)(tag:Nat→Nat)(x:EvC)(e:Ev):Prop where
 task:x.task=e.task
 kd:x.kd=e.kind
 tp:x.tp=e.topic
 frm:x.frm=e.frm
 at_:x.at_=e.at_
 to_:x.to_=e.to_
 code:x.code=e.code
 gen:x.gen=e.gen
 set:Has W 1 x.set e.set.length (e.set.map (Value.int .i64))
 few:e.set.length≤100
 t1:kt W tag 0 x.set
 o1:x.set.oneCell'=true
 words:Rd W tag x.words
 gens:Rd W tag x.gens
 awords:Rd W tag x.awords
section
variable{W W':World}{tag tag':Nat→Nat}{M:List Nat}{v:Value}{n:Nat}
theorem kt.up(h:kt W tag n v)(hs:W.heap.size≤W'.heap.size)(ha:mq W tag tag'):kt W' tag' n v:=fun b hb=>⟨Nat.lt_of_lt_of_le (h b hb).1 hs,(ha b (h b hb).1).trans (h b hb).2⟩
theorem Has.still{sz:Nat}{cs:List Value}(h:Has W sz v n cs)(ht:kt W tag 0 v)(hs:ab M W W')(hM:∀b∈M,tag b≠0):Has W' sz v n cs:=h.same hs fun b hb hx=>hM b hx (ht b hb).2
theorem Rd.same(h:Rd W tag v)(hs:ab M W W')(hM:∀b∈M,tag b≠0)(ha:mq W tag tag'):Rd W' tag' v:=by
 obtain⟨⟨n,cs,h1,h2,h3⟩,h4,h5⟩:=h;exact⟨⟨n,cs,h1.still h4 hs hM,h2,h3⟩,h4.up hs.size ha,h5⟩
theorem vl.same{c:bu}{p:PC}(h:vl W tag c p)(hs:ab M W W')(hM:∀b∈M,tag b≠0)(ha:mq W tag tag'):vl W' tag' c p:=by
 obtain⟨wl,h1,h2⟩:=h.words;exact⟨h.kd,h.tp,h.sb,h.cp,h.rk,h.sr,h.mo,h.fl,h.fb,h.set.still h.t1 hs hM,⟨wl,h1,h2.still h.t2 hs hM⟩,h.t1.up hs.size ha,h.t2.up hs.size ha,h.o1,h.o2,h.few⟩
theorem EvAt.same{x:EvC}{e:Ev}(h:EvAt W tag x e)(hs:ab M W W')(hM:∀b∈M,tag b≠0)(ha:mq W tag tag'):EvAt W' tag' x e:=
 ⟨h.task,h.kd,h.tp,h.frm,h.at_,h.to_,h.code,h.gen,h.set.still h.t1 hs hM,h.few,h.t1.up hs.size ha,h.o1,h.words.same hs hM ha,h.gens.same hs hM ha,h.awords.same hs hM ha⟩
end
def nl(W:World)(tag:Nat→Nat)(ca:Option Addr)(p:List PC):Prop:=
 ∀(j:Nat)(pc:PC),p[j]?=some pc→∃cb c,ca=some ⟨cb,0,none⟩∧tag cb=0∧vl W tag c pc∧∀(k:Nat)(v:Value),c.enc[k]?=some v→W.cell? (ae cb (j*11+k))=some v
def vm(W:World)(tag:Nat→Nat)(X i:Nat)(k:Tk)(len:Nat)(dz:Value):Prop:=
 (∃fn bs bi,dz=.func (.func fn) #[] #[pt bs,pt bi]∧tag bs=0∧tag bi=0∧Row W bs 58 #[pt X]∧Row W bi 3 #[ci i]∧((k.und.isSome=true∧fn=30)∨(k.und=none∧(fn=17∨fn=42))))∨(k.und=none∧len≤k.next∧dz=.func (.func 20) #[] #[])
def OpT(tag:Nat→Nat)(i O:Nat)(b:Nat):Prop:=tag b=2+2*i∧b≠O
structure b2e(E:Env)(W:World)(tag:Nat→Nat)(X V:Nat)(v:dg)(tm:Nat)(fm:Lit→Option Value)(i R:Nat)(k:Tk)(p:List PC)(ow:Own):Prop where
 row:∃ca cc dz,Row W R 73 #[.slice ca p.length cc,ci k.next,dz]∧nl W tag ca p∧vm W tag X i k p.length dz
 len:p.length≤100∧k.next≤p.length
 own:∃sl,ke E W (fun b=>tag b=2+2*i∧ow.op≠some b) ow k.f sl tm ∧
  (match k.und with
   | none=>fm (ig (i:Int))=none∧(k.next<p.length→ow.op=none)
   | some u=>∃O o tv,ow.op=some O∧tag O=2+2*i∧Row W O 122 (OpC.cells o V v.Y i)∧o.ended=false∧o.steps=u.times.length∧eh E W (OpT tag i O) O o.steps v o sl.length u.m∧fm (ig (i:Int))=some (.agg #[pt O,ci u.ev,tv])∧W.ownsRow 0 3 1 tv u.times.length (u.times.map fun t:Nat=>Value.int .i64 (t:Int))∧kt W tag (3+2*i) tv)
structure Low(X tb Mp:Nat)(evv:Value)(tks:List Nat):Prop where
 x:4<X
 tb:4<tb
 mp:4<Mp
 tk:∀R∈tks,4<R
 ev:∀b,evv.ownBlock=some b→4<b
structure mj(E:Env)(ps:List (List PC))(W:World)(X:Nat)(tag:Nat→Nat)(s:Sys)(V:Nat)(v:dg)(A:Nat)(ows:List Own)(tb tcap Mp nm:Nat)(fm:Lit→Option Value)(evv:Value)(evs:List EvC)(tks:List Nat):Prop where
 x:Row W X 69 #[pt V,zl tb tks.length tcap,.map (some Mp),evv,ci s.time]
 veh:jw E W V v A s.ws ows
 tbs:Arr zo 1 W tb 70 tks
 nt:tks.length=E.tasks
 lk:s.tks.length=E.tasks
 nd:tks.Nodup
 mp:a8 Tryz.prog 3 W Mp nm fm
 nms:nm≤s.time+s.evs.length+3
 tasks:∀(i:Nat)(k:Tk),s.tks[i]?=some k→∃R p ow,tks[i]?=some R∧ps[i]?=some p∧ows[i]?=some ow∧b2e E W tag X V v s.time fm i R k p ow
 ev:W.ownsRow 0 47 27 evv evs.length (evs.flatMap EvC.enc)
 el:evs.length=s.evs.length
 evat:∀(j:Nat)(x:EvC)(e:Ev),evs[j]?=some x→s.evs[j]?=some e→EvAt W tag x e
 tags:tag X=1∧tag tb=1∧tag Mp=1∧tag V=1∧tag v.B=1∧tag A=1∧tag v.G=1∧tag v.Y=1∧(∀R∈tks,tag R=1∧R<W.heap.size)∧(∀b≤4,tag b=1)
 te:kt W tag 1 evv
 low:Low X tb Mp evv tks
theorem nl.same{W W':World}{tag tag':Nat→Nat}{M:List Nat}{ca:Option Addr}{p:List PC}(h:nl W tag ca p)(hs:ab M W W')(hM0:∀b∈M,tag b≠0)(ha:mq W tag tag'):nl W' tag' ca p:=fun j pc hj=>by
 obtain⟨cb,c,e1,e2,e3,e4⟩:=h j pc hj;have h0:=e4 0 _ rfl;refine⟨cb,c,e1,(ha _ (blc h0)).trans e2,e3.same hs hM0 ha,fun kk vv hv=>?_⟩;have h1:=e4 kk vv hv;rw[World.cell?_of_block (w:=W) (hs.block cb (blc h1) fun hx=>hM0 _ hx e2)];exact h1
theorem vm.same{W W':World}{tag tag':Nat→Nat}{M:List Nat}{X i len:Nat}{k k':Tk}{dz:Value}(h:vm W tag X i k len dz)(hs:ab M W W')(hM0:∀b∈M,tag b≠0)(ha:mq W tag tag')(hu:k'.und.isSome=k.und.isSome)(hn:k'.next=k.next):vm W' tag' X i k' len dz:=by
 have still:∀{b:Nat}{t:TypeId}{cs:Array Value},Row W b t cs→tag b=0→Row W' b t cs∧tag' b=0:=fun hr h0=>⟨hr.same hs fun hx=>hM0 _ hx h0,(ha _ hr.lt).trans h0⟩
 have hun:k.und=none→k'.und=none:=fun e=>by
  rw[e] at hu
  simpa using hu
 rcases h with ⟨fn,bs,bi,e1,e2,e3,e4,e5,e6⟩|⟨e1,e2,e3⟩
 ·refine Or.inl ⟨fn,bs,bi,e1,(still e4 e2).2,(still e5 e3).2,(still e4 e2).1,(still e5 e3).1,?_⟩;rcases e6 with ⟨e7,e8⟩|⟨e7,e8⟩
  ·exact Or.inl ⟨hu.trans e7,e8⟩
  ·exact Or.inr ⟨hun e7,e8⟩
 ·exact Or.inr ⟨hun e1,by rw[hn];exact e2,e3⟩
theorem b2e.other{E:Env}{W W':World}{tag tag':Nat→Nat}{X V tm tm':Nat}{v:dg}{fm fm':Lit→Option Value}{i R:Nat}{k:Tk}{p:List PC}{ow:Own}{M:List Nat}(h:b2e E W tag X V v tm fm i R k p ow)(hs:ab M W W')(ha:mq W tag tag')(hM:∀b∈M,tag b≠0∧tag b≠2+2*i∧tag b≠3+2*i∧b≠R)(hf:fm' (ig (i:Int))=fm (ig (i:Int)))(ht:tm≤tm'):b2e E W' tag' X V v tm' fm' i R k p ow:=by
 have hM0:∀b∈M,tag b≠0:=fun b hb=>(hM b hb).1;obtain⟨ca,cc,dz,r1,r2,r3⟩:=h.row;refine⟨⟨ca,cc,dz,r1.same hs fun hx=>(hM _ hx).2.2.2 rfl,r2.same hs hM0 ha,r3.same hs hM0 ha rfl rfl⟩,h.len,?_⟩
 ·obtain⟨sl,h1,h2⟩:=h.own;have off:Off M (Cut W fun b=>tag b=2+2*i∧ow.op≠some b):=fun b hb ht=>(hM b hb).2.1 ht.1.1;refine⟨sl,(h1.cut.same hs off fun b hb=>⟨(ha b hb.2).trans hb.1.1,hb.1.2⟩).up ht,?_⟩;cases hu:k.und with
  | none=>
   rw[hu] at h2;exact⟨hf.trans h2.1,h2.2⟩
  | some u=>
   rw[hu] at h2;obtain⟨O,o,tv,g1,g2,g3,g4,g5,g6,g7,g8,g9⟩:=h2;refine⟨O,o,tv,g1,(ha _ g3.lt).trans g2,g3.same hs fun hx=>(hM _ hx).2.1 g2,g4,g5,?_,hf.trans g7,ai g8 hs fun b hb hx=>(hM b hx).2.2.1 (g9 b hb).2,g9.up hs.size ha⟩;exact g6.cut.same hs (fun b hb ht=>(hM b hb).2.1 ht.1.1) fun b hb=>⟨(ha b hb.2).trans hb.1.1,hb.1.2⟩
theorem mj.rows{E:Env}{ps:List (List PC)}{W:World}{X:Nat}{tag:Nat→Nat}{s:Sys}{V A tb tcap Mp nm:Nat}{v:dg}{ows:List Own}{fm:Lit→Option Value}{evv:Value}{evs:List EvC}{tks:List Nat}(h:mj E ps W X tag s V v A ows tb tcap Mp nm fm evv evs tks){j R:Nat}(hj:tks[j]?=some R):∃cs,Row W R 73 cs:=by
 have hl:=(bk.1 hj).1;rw[h.nt,←h.lk] at hl;obtain⟨R',p,ow,g1,g2,g3,g4⟩:=h.tasks j _ (cz hl);rw[hj] at g1;cases g1;obtain⟨ca,cc,dz,r1,_⟩:=g4.row;exact⟨_,r1⟩
theorem mj.neq{E:Env}{ps:List (List PC)}{W:World}{X:Nat}{tag:Nat→Nat}{s:Sys}{V A tb tcap Mp nm:Nat}{v:dg}{ows:List Own}{fm:Lit→Option Value}{evv:Value}{evs:List EvC}{tks:List Nat}(h:mj E ps W X tag s V v A ows tb tcap Mp nm fm evv evs tks){i j R R':Nat}(hi:tks[i]?=some R)(hj:tks[j]?=some R')(hne:j≠i):R≠R':=fun e=>by
 subst e;obtain⟨a1,a2⟩:=bk.1 hi;obtain⟨b1,b2⟩:=bk.1 hj;exact hne ((List.getElem_inj h.nd).1 (b2.trans a2.symm))
theorem mj.next{E:Env}{ps:List (List PC)}{w w':World}{X:Nat}{tag tag':Nat→Nat}{s s':Sys}{V A tb tcap Mp nm nm' i R:Nat}{v:dg}{ows:List Own}{fm fm':Lit→Option Value}{evv evv':Value}{evs evs':List EvC}{tks Mt:List Nat}{ow':Own}{kk:Tk}{p:List PC}(h:mj E ps w X tag s V v A ows tb tcap Mp nm fm evv evs tks)(hs:ab Mt w w')(ha:mq w tag tag')(hR:tks[i]?=some R)(hp:ps[i]?=some p)(hio:i<ows.length)(hMt:∀b∈Mt,tag b=2+2*i∨tag b=3+2*i∨(tag b=1∧b≠tb∧∀(j R':Nat),j≠i→tks[j]?=some R'→b≠R'))(htk:s'.tks=s.tks.set i kk)(htm:s.time≤s'.time)(hx:Row w' X 69 #[pt V,zl tb tks.length tcap,.map (some Mp),evv',ci s'.time])(hveh:jw E w' V v A s'.ws (ows.set i ow'))(hmp:a8 Tryz.prog 3 w' Mp nm' fm')(hnm:nm'≤s'.time+s'.evs.length+3)(hf:∀j:Nat,j≠i→fm' (ig (j:Int))=fm (ig (j:Int)))(hti:b2e E w' tag' X V v s'.time fm' i R kk p ow')(hev:w'.ownsRow 0 47 27 evv' evs'.length (evs'.flatMap EvC.enc))(hel:evs'.length=s'.evs.length)(hevs:∀(j:Nat)(x:EvC)(e:Ev),evs'[j]?=some x→s'.evs[j]?=some e→EvAt w' tag' x e)(hle:∀b,evv'.ownBlock=some b→4<b)(hte:kt w' tag' 1 evv'):mj E ps w' X tag' s' V v A (ows.set i ow') tb tcap Mp nm' fm' evv' evs' tks:=by
 obtain⟨z1,z2,z3,z4,z5,z6,z7,z8,z9,z10⟩:=h.tags;obtain⟨kb,hkb⟩:=h.veh.bank.hd
 have zb:∀b∈Mt,tag b=1→b≠tb:=fun b hb e=>by
  rcases hMt b hb with g|g|g
  ·omega
  ·omega
  ·exact g.2.1
 have htb:tb∉Mt:=fun hb=>zb tb hb z2 rfl;have up:∀{b n:Nat},b<w.heap.size→tag b=n→tag' b=n:=fun hl e=>(ha _ hl).trans e;refine⟨hx,hveh,h.tbs.same hs htb,h.nt,by rw[htk,List.length_set];exact h.lk,h.nd,hmp,hnm,fun j k' hj=>?_,hev,hel,hevs,⟨up h.x.lt z1,up h.tbs.lt z2,up h.mp.lt z3,up h.veh.hv.lt z4,up hkb.lt z5,up h.veh.bank.wd.lt z6,up h.veh.spots.lt z7,up h.veh.owns.lt z8,fun R' hR'=>?_,fun b hb=>?_⟩,hte,⟨h.low.x,h.low.tb,h.low.mp,h.low.tk,hle⟩⟩
 ·rw[htk] at hj;by_cases e:j=i
  ·subst e;have hkl:=(bk.1 hj).1;rw[List.length_set] at hkl;rw[List.getElem?_set_self hkl] at hj;cases hj;exact⟨R,p,ow',hR,hp,by rw[List.getElem?_set_self hio],hti⟩
  ·rw[List.getElem?_set_ne (fun e'=>e e'.symm)] at hj;obtain⟨R',p',ow,g1,g2,g3,g4⟩:=h.tasks j k' hj;refine⟨R',p',ow,g1,g2,by rw[List.getElem?_set_ne (fun e'=>e e'.symm)];exact g3,g4.other hs ha (fun b hb=>?_) (hf j e) htm⟩;have zR:=(z9 R' (dh g1)).1;rcases hMt b hb with g|g|g
   ·exact⟨by omega,by omega,by omega,fun e'=>by subst e';omega⟩
   ·exact⟨by omega,by omega,by omega,fun e'=>by subst e';omega⟩
   ·exact⟨by omega,by omega,by omega,g.2.2 j R' e g1⟩
 ·exact⟨up (z9 R' hR').2 (z9 R' hR').1,Nat.lt_of_lt_of_le (z9 R' hR').2 hs.size⟩
 ·have:=h.low.x;have:=h.x.lt;exact up (by omega) (z10 b hb)
theorem ab.cut{M:List Nat}{W W':World}(h:ab M W W'):ab (M.filter fun b=>decide (b<W.heap.size)) W W':=h.mono fun x hx hl=>by simp[hx,hl]
theorem qt{i j:Nat}(h:i≠j):ig (i:Int)≠ig (j:Int):=fun e=>by cases e;exact h rfl
section
variable{E:Env}{ps:List (List PC)}{w W:World}{X:Nat}{tag:Nat→Nat}{s:Sys}{V A tb tcap Mp nm:Nat}{v:dg}{ows:List Own}{fm:Lit→Option Value}{evv:Value}{evs:List EvC}{tks:List Nat}
theorem mj.lts(h:mj E ps w X tag s V v A ows tb tcap Mp nm fm evv evs tks):v.B<w.heap.size∧A<w.heap.size∧v.Y<w.heap.size∧V<w.heap.size∧v.G<w.heap.size:=by
 obtain⟨k,hk⟩:=h.veh.bank.hd;exact⟨hk.lt,h.veh.bank.wd.lt,h.veh.owns.lt',h.veh.hv.lt,h.veh.spots.lt'⟩
theorem mj.ctx{i:Nat}{k:Tk}{ow:Own}{sl:List Sub}{O:Nat}{o:OpC}(h:mj E ps w X tag s V v A ows tb tcap Mp nm fm evv evs tks)(hE:E.Ok)(hseqs:∀sp∈E.spots,wat s.ws sp.seq≤1000000)(htm:s.time≤900)(hi:ows[i]?=some ow)(hown:ke E w (fun b=>tag b=2+2*i∧ow.op≠some b) ow k.f sl s.time)(g1:ow.op=some O)(g2:tag O=2+2*i)(g3:Row w O 122 (o.cells V v.Y i))(hst:o.steps≤900)(hs:ab [X] w W):Ctx E W (Cut w (OpT tag i O)) V v A s.ws ows i O o ow k.f sl s.time∧∀b,Cut w (OpT tag i O) b→b∉[X]:=by
 obtain⟨z1,z2,z3,z4,z5,z6,z7,z8,z9,z10⟩:=h.tags
 have hn:∀b,tag b=2+2*i→4<b:=fun b hb=>by
  rcases Nat.lt_or_ge 4 b with h'|h'
  ·exact h'
  ·have:=z10 b h';omega
 have hX:∀b,Cut w (OpT tag i O) b→b∉[X]:=fun b hb hx=>by
  simp only[List.mem_singleton] at hx;subst hx;have:=hb.1.1;omega
 obtain⟨kb,hkb⟩:=h.veh.bank.hd;have nV:V≠X:=h.veh.hv.ne h.x (by decide);have nB:v.B≠X:=hkb.ne h.x (by decide);have nA:A≠X:=h.veh.bank.wd.ne h.x (by decide);have nG:v.G≠X:=Row.ne_arr h.veh.spots h.x (by decide);have nY:v.Y≠X:=Row.ne_arr h.veh.owns h.x (by decide);have nO:O≠X:=g3.ne h.x (by decide);refine⟨⟨g3.same hs (by simpa using nO),h.veh.turn hs (h.veh.bank.same hs (by simpa using nB) (by simpa using nA)) rfl (h.veh.owns.same hs (by simpa using nY)) rfl fun b hb=>?_,hi,?_,fun b hb=>?_,hn _ g2,hseqs,hE,by omega,by omega⟩,hX⟩
 ·simp only[List.mem_singleton] at hb;subst hb;exact⟨nV.symm,nG.symm,h.low.x⟩
 ·refine hown.cut.same hs (fun b hb ht=>?_) fun b hb=>⟨⟨hb.1.1,fun e=>hb.1.2 (by rw[g1,e])⟩,hb.2⟩;simp only[List.mem_singleton] at hb;subst hb;have:=ht.1.1;omega
 ·have hb1:=hb.1.1;refine⟨hn b hb1,fun e=>?_,fun e=>?_,fun e=>?_,fun e=>?_,fun e=>?_,hb.1.2⟩<;>subst e<;>omega
theorem mj.nes(h:mj E ps w X tag s V v A ows tb tcap Mp nm fm evv evs tks){eg:Nat}(hA:Arr EvC.enc 27 w eg 47 evs){R:Nat}{cs:Array Value}(r1:Row w R 73 cs):∀b,b=v.B∨b=A∨b=v.Y→b∉[X,Mp,eg,tb,R]:=fun b hb=>by
 obtain⟨kb,hkb⟩:=h.veh.bank.hd;obtain⟨c1,hy,_⟩:=h.veh.owns.ex;simp only[List.mem_cons,List.not_mem_nil,or_false,not_or]
 have key:∀{t:TypeId}{cs':Array Value},Row w b t cs'→t≠69→t≠47→t≠70→t≠73→b≠X∧b≠Mp∧b≠eg∧b≠tb∧b≠R:=fun hr t1 t2 t3 t4=>
  ⟨hr.ne h.x t1,h.mp.ne hr,(Row.ne_arr hA hr (fun e=>t2 e.symm)).symm,(Row.ne_arr h.tbs hr (fun e=>t3 e.symm)).symm,hr.ne r1 t4⟩
 rcases hb with e|e|e<;>subst e
 ·exact key hkb (by decide) (by decide) (by decide) (by decide)
 ·exact key h.veh.bank.wd (by decide) (by decide) (by decide) (by decide)
 ·exact key hy (by decide) (by decide) (by decide) (by decide)
def c0f(E:Env)(w:World)(T:Nat→Prop)(V:Nat)(v:dg)(A:Nat)(ws:List Nat)(ows:List Own)(i O:Nat)(st:Nat)(ow:Own)(f:Int→Bool)(c:Nat)(m:ib)(W W1:World)(b:Bool)(o':OpC):Prop:=
 ∃ws' m' r ow' sl' M,b=m'.isNone∧dq E (st+1) ws m ws' m' r∧Row W1 O 122 (o'.cells V v.Y i)∧jw E W1 V v A ws' (ows.set i ow')∧ke E W1 (ji T W) ow' (jm f m) sl' (c+1)∧o'.steps=st+1∧o'.ended=m'.isNone∧o'.at_=r.at_∧ow'.op=(if m'.isNone then none else ow.op)∧(m'=none→o'.code=r.code∧o'.gen=r.gen) ∧
  (∀m1,m'=some m1→eh E W1 (ji T W) O (st+1) v o' sl'.length m1)∧ab M W W1∧(∀b∈M,T b∨b=O∨b=v.B∨b=A∨b=v.Y)∧w.heap.size≤W.heap.size
structure vn(E:Env)(ps:List (List PC))(w:World)(X:Nat)(tag:Nat→Nat)(s:Sys)(V:Nat)(v:dg)(ows:List Own)(fm:Lit→Option Value)(evv:Value)(evs:List EvC)(tks:List Nat)(i:Nat)(k:Tk)(u:Und)(e0:Ev)(R:Nat)(p:List PC)(ow:Own)(ca:Option Addr)(cc:Nat)(dz:Value)(O:Nat)(o:OpC)(tv:Value)(x0:EvC)(eg ec:Nat)(sl:List Sub):Prop where
 hk:s.tks[i]?=some k
 hu:k.und=some u
 he:s.evs[u.ev]?=some e0
 hR:tks[i]?=some R
 hp:ps[i]?=some p
 ho:ows[i]?=some ow
 row:Row w R 73 #[.slice ca p.length cc,ci k.next,dz]
 calls:nl w tag ca p
 does:vm w tag X i k p.length dz
 len:p.length≤100∧k.next≤p.length
 own:ke E w (fun b=>tag b=2+2*i∧ow.op≠some b) ow k.f sl s.time
 op:ow.op=some O
 tO:tag O=2+2*i
 rO:Row w O 122 (OpC.cells o V v.Y i)
 en:o.ended=false
 st:o.steps=u.times.length
 mach:eh E w (OpT tag i O) O o.steps v o sl.length u.m
 und:fm (ig (i:Int))=some (.agg #[pt O,ci u.ev,tv])
 times:w.ownsRow 0 3 1 tv u.times.length (u.times.map fun t:Nat=>Value.int .i64 (t:Int))
 tt:kt w tag (3+2*i) tv
 hx0:evs[u.ev]?=some x0
 he0:EvAt w tag x0 e0
 ev:evv=zl eg evs.length ec
 arr:ff EvC.enc 27 (ec*27) w eg 47 evs
 c1:evs.length≤ec
 c2:ec≤maxLen
theorem mj.picked{i:Nat}{k:Tk}{u:Und}{e0:Ev}(h:mj E ps w X tag s V v A ows tb tcap Mp nm fm evv evs tks)(hk:s.tks[i]?=some k)(hu:k.und=some u)(he:s.evs[u.ev]?=some e0):∃R p ow ca cc dz O o tv x0 eg ec sl,vn E ps w X tag s V v ows fm evv evs tks i k u e0 R p ow ca cc dz O o tv x0 eg ec sl:=by
 obtain⟨R,p,ow,hR,hp,ho,hT⟩:=h.tasks i k hk;obtain⟨ca,cc,dz,r1,r2,r3⟩:=hT.row;obtain⟨sl,o1,o2⟩:=hT.own;rw[hu] at o2;obtain⟨O,o,tv,g1,g2,g3,g4,g5,g6,g7,g8,g9⟩:=o2;have hj:=(bk.1 he).1;have hxl:u.ev<evs.length:=by rw[h.el];exact hj
 have hx0:evs[u.ev]?=some evs[u.ev]:=cz hxl;obtain⟨eg,ec,ee,-,hc1,hc2,hA⟩:=ff.of_own (E:=47) h.ev rfl (by omega);exact⟨R,p,ow,ca,cc,dz,O,o,tv,_,eg,ec,sl,hk,hu,he,hR,hp,ho,r1,r2,r3,hT.len,o1,g1,g2,g3,g4,g5,g6,g7,g8,g9,hx0,h.evat _ _ _ hx0 he,ee,hA,hc1,hc2⟩
section
variable{i:Nat}{k:Tk}{u:Und}{e0:Ev}{R:Nat}{p:List PC}{ow:Own}{ca:Option Addr}{cc:Nat}{dz:Value}{O:Nat}{o:OpC}{tv:Value}{x0:EvC}{eg ec:Nat}{sl:List Sub}
theorem b6n(h:mj E ps w X tag s V v A ows tb tcap Mp nm fm evv evs tks)(P:vn E ps w X tag s V v ows fm evv evs tks i k u e0 R p ow ca cc dz O o tv x0 eg ec sl)(hE:E.Ok)(hseqs:∀sp∈E.spots,wat s.ws sp.seq≤1000000)(htm:s.time≤900)(hevl:s.evs.length≤900)(htl:u.times.length≤800):Calls Tryz.prog 31 #[pt X,ci i] w (vo w X V Mp nm tb tcap tks.length O i eg ec u.ev R s.time fm u.times tv (.slice ca p.length cc) (ci k.next) dz evs x0 (c0f E w (Cut w (OpT tag i O)) V v A s.ws ows i O o.steps ow k.f s.time u.m)):=by
 have hil:i<tks.length:=(bk.1 P.hR).1;have hnt:=h.nt;have n2:=hE.n2;have hnm:=h.nms;obtain⟨z1,z2,z3,z4,z5,z6,z7,z8,z9,z10⟩:=h.tags;have zeg:tag eg=1:=(h.te eg (by rw[P.ev];rfl)).2;have zR:=(z9 R (dh P.hR)).1;have hst:=P.st;have hxr:=h.x;rw[P.ev] at hxr;refine c7y w X V v.Y Mp nm tb tcap tks.length O i eg ec u.ev R s.time fm u.times tv (.slice ca p.length cc) (ci k.next) dz evs x0 tks (c0f E w (Cut w (OpT tag i O)) V v A s.ws ows i O o.steps ow k.f s.time u.m) hxr h.mp (by omega) P.und P.times P.arr P.hx0 h.tbs P.hR rfl P.row (by omega) (by omega) (by omega) (fun W hs=>?_);obtain⟨hC,hX⟩:=h.ctx hE hseqs htm P.ho P.own P.op P.tO P.rO (by omega) hs;have hm:eh E W (Cut w (OpT tag i O)) O o.steps v o sl.length u.m:=P.mach.cut.same hs (fun b hb ht=>hX b ht hb) (fun _ h=>h);refine(c4u hC (by omega) P.en hm).mono ?_
 rintro e W1 ⟨ws',m',r,o',ow',sl',rfl,q1,q2,q3,q4,q5,q6,q7,q8,q9,q10,M,q11,q12⟩;refine⟨m'.isNone,o',M,rfl,q2,q6,fun hb=>?_,q11,fun x hx=>?_,ws',m',r,ow',sl',M,rfl,q1,q2,q3,q4,q5,q6,q7,q8,fun e=>⟨(q9 e).1,(q9 e).2.1⟩,fun m1 e=>by rw[←q5];exact q10 m1 e,q11,q12,hs.size⟩
 ·have hm0:m'=none:=by
   cases m' with
   | none=>rfl
   | some m1=>cases hb
  exact⟨(q9 hm0).2.2.1,(q9 hm0).2.2.2⟩
 ·have hl:=h.lts;have hn:=h.nes P.arr.arr P.row;have tvt:tv.ownBlock=some x→tag x=3+2*i:=fun e=>(P.tt x e).2;have g2:=P.tO;rcases q12 x hx with e|e|e
  ·have e1:=e.1.1;refine⟨e.2,?_,fun h'=>by have:=tvt h';omega⟩;simp only[List.mem_cons,List.not_mem_nil,or_false,not_or];refine⟨?_,?_,?_,?_,?_⟩<;>intro e'<;>subst e'<;>omega
  ·subst e;refine⟨P.rO.lt,?_,fun h'=>by have:=tvt h';omega⟩;simp only[List.mem_cons,List.not_mem_nil,or_false,not_or];refine⟨?_,?_,?_,?_,?_⟩<;>intro e'<;>subst e'<;>omega
  ·refine⟨by rcases e with e|e|e<;>omega,hn x e,fun h'=>?_⟩;have:=tvt h';rcases e with e|e|e<;>subst e<;>omega
end
end
theorem gi{α:Type}{enc:α→List Value}{sz N g E k j off:Nat}{W:World}{L:List α}{x:α}{v:Value}(h:ff enc sz N W g E (L.set k x))(hl:∀x,(enc x).length=sz)(hk:k<L.length)(ho:off=k*sz+j)(hv:(enc x)[j]?=some v):W.cell? (ae g off)=some v:=by
 subst ho;exact lr h hl hk hv
theorem pi{α:Type}{enc:α→List Value}{sz N g E k j off:Nat}{W:World}{L:List α}{x x':α}{v:Value}(h:ff enc sz N W g E (L.set k x))(hl:∀x,(enc x).length=sz)(hk:k<L.length)(ho:off=k*sz+j)(hj:j<sz)(he:enc x'=(enc x).set j v):ff enc sz N (W.setCell ⟨g,off,none⟩ v) g E (L.set k x'):=by
 subst ho;exact vj h hl hk hj he
def Sl1(W:World)(v:Value):Prop:=∃n cs,Has W 1 v n cs∧(∀u∈cs,u.oneCell'=true)∧n≤1000000
structure EvB(x:EvC)(e:Ev):Prop where
 task:x.task=e.task
 kd:x.kd=e.kind
 tp:x.tp=e.topic
 frm:x.frm=e.frm
 at_:x.at_=e.at_
 to_:x.to_=e.to_
 code:x.code=e.code
 gen:x.gen=e.gen
 few:e.set.length≤100
structure EvL(W:World)(x:EvC)(e:Ev):Prop where
 b:EvB x e
 set:Has W 1 x.set e.set.length (e.set.map (Value.int .i64))
 words:∃a n c,x.words=.slice a n c
 gens:x.gens.oneCell'=true
 awords:x.awords.oneCell'=true
theorem EvL.bel{W W':World}{x:EvC}{e:Ev}(h:EvL W x e)(hb:Below W.heap.size W W'):EvL W' x e:=⟨h.b,h.set.bel hb,h.words,h.gens,h.awords⟩
structure EvR(W:World)(x:EvC)(e:Ev):Prop where
 b:EvB x e
 set:Has W 1 x.set e.set.length (e.set.map (Value.int .i64))
 words:Sl1 W x.words
 gens:Sl1 W x.gens
 awords:Sl1 W x.awords
theorem Sl1.one{W:World}{v:Value}(h:Sl1 W v):v.oneCell'=true:=by
 obtain⟨n,cs,h1,_⟩:=h;exact nk h1
theorem b4o{l:List EvC}(h:∀x∈l,x.set.oneCell'=true∧x.words.oneCell'=true∧x.gens.oneCell'=true∧x.awords.oneCell'=true):∀u∈l.flatMap EvC.enc,u.oneCell'=true:=by
 intro u hu;obtain⟨c,hc,hu⟩:=List.mem_flatMap.1 hu;simp only[EvC.enc,List.mem_cons,List.not_mem_nil,or_false] at hu;rcases hu with rfl|rfl|rfl|rfl|rfl|rfl|rfl|rfl|rfl|rfl|rfl|rfl|rfl|rfl|rfl|rfl|rfl|rfl|rfl|rfl|rfl|rfl|rfl|rfl|rfl|rfl|rfl<;>first|rfl|exact(h c hc).1|exact(h c hc).2.1|exact(h c hc).2.2.1|exact(h c hc).2.2.2
structure b6o(w W:World)(g N:Nat)(es:List Ev)(l0:List EvC)(k:Nat):Prop where
 b:Below w.heap.size w W
 ex:∃l:List EvC,l.length=es.length∧ff EvC.enc 27 N W g 47 l∧(∀j,k≤j→l[j]?=l0[j]?)∧∀(j:Nat)(x:EvC)(e:Ev),j<k→l[j]?=some x→es[j]?=some e→EvL W x e∧∀b,x.set.ownBlock=some b→b≠g
inductive b2f(w:World)(es:List Ev):Ending→World→Prop
 | mk {w':World} (v:Value) (l:List EvC) (hb:Below w.heap.size w w') (hl:l.length=es.length) (ho:w'.ownsRow w.heap.size 47 27 v es.length (l.flatMap EvC.enc)) (he:∀(j:Nat)(x:EvC)(e:Ev),l[j]?=some x→es[j]?=some e→EvL w' x e):b2f w es (.returned v) w'
theorem c7z(w:World)(X:Nat)(v0 v1 v2 v4 evv:Value)(es:List Ev)(l:List EvC)(hx:Row w X 69 #[v0,v1,v2,evv,v4])(hll:l.length=es.length)(hev:Has w 27 evv es.length (l.flatMap EvC.enc))(her:∀(j:Nat)(x:EvC)(e:Ev),l[j]?=some x→es[j]?=some e→EvR w x e)(hlen:es.length≤1000):Calls Tryz.prog 14 #[pt X] w (b2f w es):=by
 have HX:=qh hx;have HE:=qh her;have HL:=qh hll;have c3:=hx.k 3
 have hcl:=qh (b2g hev (b4o fun x hx=>by
  obtain⟨j,hj⟩:=mig.1 hx;have hjl:=(bk.1 hj).1;have:=her j x _ hj (cz (by omega));exact⟨nk this.set,this.words.one,this.gens.one,this.awords.one⟩) (by omega))
 clear hev her hx hll
 go_enter Tryz.func14,Tryz.ntmps14
 go_wp2_with fail;refine hcl.o.mono ?_;rintro e w1 ⟨v1,rfl,hb1,ho1,-⟩;clear hcl c3;by_cases hn:es.length=0
 ·obtain⟨a,c,rfl⟩:=ax ho1;rw[hn] at ho1 ⊢;have HO1:=qh (And.intro hb1 ho1);clear hb1 ho1;have HN:=qh hn;clear hn;go_wp2_with fail
  go_loopw [4,5,6,16] (fun _ _ _ iv W=>iv=ci 0∧Hd (w1=W)) (fun _ _ _ iv _=>0)
  case atStart=>exact⟨rfl,qh rfl⟩
  case round=>
   obtain⟨rfl,hW⟩:=hrel;obtain rfl:=hW.o;go_wp2_with fail;go_ret;refine .mk _ l HO1.o.1 HL.o (by rw[HN.o];exact HO1.o.2) fun j x e h=>?_;have hl0:l=[]:=List.length_eq_zero_iff.1 (HL.o.trans HN.o);rw[hl0] at h;cases h
 ·obtain⟨g,cap,rfl,hg,hc1,hc2,hA⟩:=ff.of_own (E:=47) ho1 HL.o.symm (by omega);have h00:Hd (b6o w w1 g (cap*27) es l 0):=qh ⟨hb1,l,HL.o,hA,fun _ _=>rfl,fun j x e h=>by omega⟩;have hgw:w.heap.size≤g:=hg;clear hb1 ho1 hA hg;go_wp2_with fail
  go_loopw [4,5,6,16] (fun _ _ _ iv W=>∃k:Nat,k≤es.length∧iv=ci k∧Hd (b6o w W g (cap*27) es l k)) (fun _ _ _ iv _=>es.length-(intOf iv).toNat)
  case atStart=>exact⟨0,by omega,rfl,h00⟩
  case round=>
   obtain⟨k,hkl,rfl,hR0⟩:=hrel;clear h00;obtain⟨hb,l1,hl1,hA,hold,hnew⟩:=hR0.o;by_cases hk:k<es.length
   ·have i1:(k:Int)<es.length:=by omega
    have i2:¬ (es.length:Int)≤k:=by omega
    have hkc:k<l.length:=by have h9:l.length=es.length:=HL.o;omega
    have hx0:l[k]?=some l[k]:=cz hkc;have hpc0:es[k]?=some es[k]:=cz hk;generalize l[k]=x at hx0;generalize es[k]=ev at hpc0;have hx1:l1[k]?=some x:=(hold k (nlr _)).trans hx0;have hci:=HE.o k x ev hx0 hpc0;obtain⟨nwo,cs1,a1,b1,c1⟩:=hci.words;obtain⟨nge,cs2,a2,b2,c2⟩:=hci.gens;obtain⟨naw,cs3,a3,b3,c3⟩:=hci.awords;have HCI:=qh hci;have HW1:=qh a1;have HO1:=qh b1;have HW2:=qh a2;have HO2:=qh b2;have HW3:=qh a3;have HO3:=qh b3;have HA:Hd (ff EvC.enc 27 (cap*27) wr g 47 (l1.set k x)):=qh (by rw[oo hx1];exact hA);have HKL:=qh (show k<l1.length by omega);have HB:=qh hb;have HOLD:=qh hold;have HNEW:=qh hnew;have HL1:=qh hl1;have HPC:=qh hpc0;have hfew1:=hci.b.few;have HQ:=qh (ab.refl [g] wr);have lo_g:w.heap.size≤g:=hgw;clear hx0 hx1 hpc0 hci a1 a2 a3 b1 b2 b3 hA hb hold hnew hR0 hl1;go_wp2_with fail;revert HA;revert HB;revert HQ
    refine cq (sdz wr) ?_;intro HQ HB HA;have hU:UD (fun W=>True):=al fun W n h=>h;have hC0:=hU.at (wr.drew) trivial;refine dw aj hU hC0 ?_;intro S;generalize wr.drew=u0 at *;refine ao S hU [0,1,2,3,4,5,6,7,8,9] 61 0 hC0 ?_;constructor
    ·intro W' hW';simp only[pick,List.filterMap,gq1,gq2,gq3]
     repeat (go_big_quiet_step (fail))
     exact wpQuiet_nil rfl
    refine dd fun n9=>?_;revert HQ HB HA;refine cq (sdw u0 n9) ?_;intro HQ HB HA;clear S hU hC0;generalize u0.drewN n9=w2 at *;go_wp2_with fail;revert HA;revert HB;revert HQ
    refine cq (sdz w2) ?_;intro HQ HB HA;have hU:UD (fun W=>W.cell? (ae g (k*27+1+10))=some x.words):=al fun W n h=>h;have hC0:=hU.at _ (gi (j:=11) HA.o EvC.enc_len HKL.o rfl rfl);refine dw aj hU hC0 ?_;intro S;generalize w2.drew=u0 at *;refine ao S hU [0,1,2,3,4,7,8,9,10] 61 9 hC0 ?_;constructor
    ·intro W' hW';simp only[pick,List.filterMap,gq1,gq2,gq3];have q0:=hW'
     repeat (go_big_quiet_step (fail))
     exact wpQuiet_nil rfl
    refine az S hU 5 8 rfl hC0 fun n0 K1 hK1=>?_;have hcw:=gi (j:=10) (off:=k*27+1+9) (HA.o.drewN n0) EvC.enc_len HKL.o rfl rfl;go_wp2_with fail;revert HQ HB HA;refine cq (sdw u0 n0) ?_;intro HQ HB HA;have hC1:=hU.at _ (gi (j:=11) HA.o EvC.enc_len HKL.o rfl rfl);refine hK1 _ _ hC1 ?_;clear hK1 hC0;generalize (u0.drewN n0)=v1 at *;clear hcw;refine az S hU 6 7 rfl hC1 fun n1 K1 hK1=>?_;go_wp2_with fail;refine(lh (HCI.o.set.bel (show Below w.heap.size w (v1.drewN n1) from below_drewN HB.o n1)) (fun u hu=>by obtain⟨z,_,rfl⟩:=List.mem_map.1 hu;rfl) (by omega)).mono ?_;rintro e w3 ⟨sv,rfl,hb,ho,-⟩;obtain⟨sa,sc,rfl⟩:=ax ho;go_wp2_with fail;have Hsv:=qh ho;revert HQ HB HA;refine cq (sbl hb) ?_;intro HQ HB HA;have hC2:=hU.at _ (gi (j:=11) HA.o EvC.enc_len HKL.o rfl rfl);refine hK1 _ _ hC2 ?_;clear hK1 hC1;clear hb ho
    refine az S hU 11 6 rfl hC2 fun n2 K1 hK1=>?_;go_wp2_with fail;refine(ez (HW1.o.bel (show Below w.heap.size w (w3.drewN n2) from below_drewN HB.o n2)) HO1.o (by omega)).mono ?_;rintro e w4 ⟨wv,rfl,hb,ho,-⟩;obtain⟨wa,wc,rfl⟩:=ax ho;go_wp2_with fail;have Hwv:=qh ho;revert Hsv HQ HB HA;refine cq (sbl hb) ?_;intro Hsv HQ HB HA;have hC3:=hU.at _ (gi (j:=11) HA.o EvC.enc_len HKL.o rfl rfl);refine hK1 _ _ hC3 ?_;clear hK1 hC2;clear hb ho;have ne_sv_g:=du Hsv.o HA.o.arr (by decide);have ne_wv_g:=du Hwv.o HA.o.arr (by decide);refine ao S hU [12,13] 61 4 hC3 ?_;constructor
    ·intro W' hW';simp only[pick,List.filterMap,gq1,gq2,gq3];have q0:=hW'
     repeat (go_big_quiet_step (fail))
     exact wpQuiet_nil rfl
    refine az S hU 14 3 rfl hC3 fun n3 K1 hK1=>?_;have hfz:=(HA.o.drewN n3).free;have hcw:=gi (j:=10) (off:=k*27+1+9) (HA.o.drewN n3) EvC.enc_len HKL.o rfl rfl;go_wp2_with fail;replace HA:=qh (pi (j:=10) (x':={x with set:=.slice sa ev.set.length sc}) (HA.o.drewN n3) EvC.enc_len HKL.o rfl (by decide) rfl);revert Hwv Hsv HQ HB;refine cm (sst w4 n3 g ((k*27+1+9)) (.slice sa ev.set.length sc)) ⟨no1 ne_wv_g,no1 ne_sv_g,mm (by simp),mn lo_g,trivial⟩ ?_;intro Hwv Hsv HQ HB;have hC4:=hU.at _ (gi (j:=11) HA.o EvC.enc_len HKL.o rfl rfl);refine hK1 _ _ hC4 ?_;clear hK1 hC3;generalize ((w4.drewN n3).setCell ⟨g,k*27+1+9,none⟩ (.slice sa ev.set.length sc))=u4 at *;clear hfz hcw;refine ao S hU [15,16] 61 1 hC4 ?_;constructor
    ·intro W' hW';simp only[pick,List.filterMap,gq1,gq2,gq3];have q0:=hW'
     repeat (go_big_quiet_step (fail))
     exact wpQuiet_nil rfl
    refine ti S hU 17 rfl hC4 fun n4 K1 hK1=>?_;have hfz:=(HA.o.drewN n4).free;have hcw:=gi (j:=11) (off:=k*27+1+10) (HA.o.drewN n4) EvC.enc_len HKL.o rfl rfl;go_wp2_with fail;replace HA:=qh (pi (j:=11) (x':={x with set:=.slice sa ev.set.length sc,words:=.slice wa nwo wc}) (HA.o.drewN n4) EvC.enc_len HKL.o rfl (by decide) rfl);revert Hwv Hsv HQ HB;refine cm (sst u4 n4 g ((k*27+1+10)) (.slice wa nwo wc)) ⟨no1 ne_wv_g,no1 ne_sv_g,mm (by simp),mn lo_g,trivial⟩ ?_;intro Hwv Hsv HQ HB;refine hK1 _ _ ?_;clear hK1 hC4;generalize ((u4.drewN n4).setCell ⟨g,k*27+1+10,none⟩ (.slice wa nwo wc))=u5 at *;clear hfz hcw;refine dd fun n9=>?_;revert HA Hwv Hsv HQ HB;refine cq (sdw u5 n9) ?_;intro HA Hwv Hsv HQ HB;clear S hU;generalize u5.drewN n9=w5 at *;go_wp2_with fail;revert HA;revert HB;revert HQ;revert Hsv;revert Hwv
    refine cq (sdz w5) ?_;intro Hwv Hsv HQ HB HA;have hU:UD (fun W=>W.cell? (ae g (k*27+12+11))=some x.awords):=al fun W n h=>h;have hC0:=hU.at _ (gi (j:=23) HA.o EvC.enc_len HKL.o rfl rfl);refine dw aj hU hC0 ?_;intro S;generalize w5.drew=u0 at *;refine ao S hU [0,1,2,3,4,7,8,9,10] 61 9 hC0 ?_;constructor
    ·intro W' hW';simp only[pick,List.filterMap,gq1,gq2,gq3];have q0:=hW'
     repeat (go_big_quiet_step (fail))
     exact wpQuiet_nil rfl
    refine az S hU 5 8 rfl hC0 fun n0 K1 hK1=>?_;have hcw:=gi (j:=22) (off:=k*27+12+10) (HA.o.drewN n0) EvC.enc_len HKL.o rfl rfl;go_wp2_with fail;revert Hwv Hsv HQ HB HA;refine cq (sdw u0 n0) ?_;intro Hwv Hsv HQ HB HA;have hC1:=hU.at _ (gi (j:=23) HA.o EvC.enc_len HKL.o rfl rfl);refine hK1 _ _ hC1 ?_;clear hK1 hC0;generalize (u0.drewN n0)=v1 at *;clear hcw;refine az S hU 6 7 rfl hC1 fun n1 K1 hK1=>?_;go_wp2_with fail;refine(ez (HW2.o.bel (show Below w.heap.size w (v1.drewN n1) from below_drewN HB.o n1)) HO2.o (by omega)).mono ?_;rintro e w3 ⟨sv,rfl,hb,ho,-⟩;obtain⟨ga,gc,rfl⟩:=ax ho;go_wp2_with fail;have Hgv:=qh ho;revert Hwv Hsv HQ HB HA;refine cq (sbl hb) ?_;intro Hwv Hsv HQ HB HA;have hC2:=hU.at _ (gi (j:=23) HA.o EvC.enc_len HKL.o rfl rfl);refine hK1 _ _ hC2 ?_;clear hK1 hC1;clear hb ho;refine az S hU 11 6 rfl hC2 fun n2 K1 hK1=>?_
    go_wp2_with fail;refine(ez (HW3.o.bel (show Below w.heap.size w (w3.drewN n2) from below_drewN HB.o n2)) HO3.o (by omega)).mono ?_;rintro e w4 ⟨wv,rfl,hb,ho,-⟩;obtain⟨ka,kc,rfl⟩:=ax ho;go_wp2_with fail;have Hkv:=qh ho;revert Hgv Hwv Hsv HQ HB HA;refine cq (sbl hb) ?_;intro Hgv Hwv Hsv HQ HB HA;have hC3:=hU.at _ (gi (j:=23) HA.o EvC.enc_len HKL.o rfl rfl);refine hK1 _ _ hC3 ?_;clear hK1 hC2;clear hb ho;have ne_gv_g:=du Hgv.o HA.o.arr (by decide);have ne_kv_g:=du Hkv.o HA.o.arr (by decide);refine ao S hU [12,13] 61 4 hC3 ?_;constructor
    ·intro W' hW';simp only[pick,List.filterMap,gq1,gq2,gq3];have q0:=hW'
     repeat (go_big_quiet_step (fail))
     exact wpQuiet_nil rfl
    refine az S hU 14 3 rfl hC3 fun n3 K1 hK1=>?_;have hfz:=(HA.o.drewN n3).free;have hcw:=gi (j:=22) (off:=k*27+12+10) (HA.o.drewN n3) EvC.enc_len HKL.o rfl rfl;go_wp2_with fail;replace HA:=qh (pi (j:=22) (x':={x with set:=.slice sa ev.set.length sc,words:=.slice wa nwo wc,gens:=.slice ga nge gc}) (HA.o.drewN n3) EvC.enc_len HKL.o rfl (by decide) rfl);revert Hkv Hgv Hwv Hsv HQ HB;refine cm (sst w4 n3 g ((k*27+12+10)) (.slice ga nge gc)) ⟨no1 ne_kv_g,no1 ne_gv_g,no1 ne_wv_g,no1 ne_sv_g,mm (by simp),mn lo_g,trivial⟩ ?_;intro Hkv Hgv Hwv Hsv HQ HB;have hC4:=hU.at _ (gi (j:=23) HA.o EvC.enc_len HKL.o rfl rfl);refine hK1 _ _ hC4 ?_;clear hK1 hC3;generalize ((w4.drewN n3).setCell ⟨g,k*27+12+10,none⟩ (.slice ga nge gc))=u4 at *;clear hfz hcw;refine ao S hU [15,16] 61 1 hC4 ?_;constructor
    ·intro W' hW';simp only[pick,List.filterMap,gq1,gq2,gq3];have q0:=hW'
     repeat (go_big_quiet_step (fail))
     exact wpQuiet_nil rfl
    refine ti S hU 17 rfl hC4 fun n4 K1 hK1=>?_;have hfz:=(HA.o.drewN n4).free;have hcw:=gi (j:=23) (off:=k*27+12+11) (HA.o.drewN n4) EvC.enc_len HKL.o rfl rfl;go_wp2_with fail;replace HA:=qh (pi (j:=23) (x':={x with set:=.slice sa ev.set.length sc,words:=.slice wa nwo wc,gens:=.slice ga nge gc,awords:=.slice ka naw kc}) (HA.o.drewN n4) EvC.enc_len HKL.o rfl (by decide) rfl);revert Hkv Hgv Hwv Hsv HQ HB;refine cm (sst u4 n4 g ((k*27+12+11)) (.slice ka naw kc)) ⟨no1 ne_kv_g,no1 ne_gv_g,no1 ne_wv_g,no1 ne_sv_g,mm (by simp),mn lo_g,trivial⟩ ?_;intro Hkv Hgv Hwv Hsv HQ HB;refine hK1 _ _ ?_;clear hK1 hC4;generalize ((u4.drewN n4).setCell ⟨g,k*27+12+11,none⟩ (.slice ka naw kc))=u5 at *;clear hfz hcw;refine dd fun n9=>?_;revert HA Hkv Hgv Hwv Hsv HQ HB;refine cq (sdw u5 n9) ?_;intro HA Hkv Hgv Hwv Hsv HQ HB;clear S hU;generalize u5.drewN n9=w9 at *;go_wp2_with fail
    go_roundw
    case rel=>
     refine⟨k+1,by omega,by go_num,qh ⟨HB.o,_,by rw[List.length_set];exact HL1.o,HA.o,fun j hj=>?_,fun j x2 e2 hj h1 h2=>?_⟩⟩
     ·rw[List.getElem?_set_ne (by omega)];exact HOLD.o j (by omega)
     ·by_cases hjk:j=k
      ·subst hjk;rw[List.getElem?_set_self HKL.o] at h1;cases h1;rw[HPC.o] at h2;cases h2;have h3:=HCI.o.b;exact⟨⟨⟨h3.task,h3.kd,h3.tp,h3.frm,h3.at_,h3.to_,h3.code,h3.gen,h3.few⟩,j5 Hsv.o,⟨_,_,_,rfl⟩,rfl,rfl⟩,fun b hb=>ne_sv_g b hb⟩
      ·rw[List.getElem?_set_ne (fun e=>hjk e.symm)] at h1;obtain⟨h3,h4⟩:=HNEW.o j x2 e2 (by omega) h1 h2;exact⟨⟨h3.b,h3.set.same HQ.o (fun b hb=>by simpa using h4 b hb),h3.words,h3.gens,h3.awords⟩,h4⟩
    case measure=>simp only[intOf];omega
   ·have hk':k=es.length:=by omega
    subst hk';have HR:=qh hR0.o;clear hR0 hb hl1 hA hold hnew;go_wp2_with fail;go_ret;obtain⟨hb,l2,hl2,hA2,-,hnew2⟩:=HR.o;refine .mk _ l2 hb hl2 ⟨by rw[ik EvC.enc_len,hl2],?_⟩ fun j x e h1 h2=>?_
    ·obtain⟨cur,hr,ht,hn2⟩:=hA2.ex;exact Or.inr ⟨g,cap,cur,rfl,hgw,hr.at_,by omega,hc2,hn2,by rw[←hl2];exact ht⟩
    ·exact(hnew2 j x e (bk.1 h2).1 h1 h2).1
end Go.Proofs.YtojkaibpfdhmaaaGreatDoor

/- TopBusy itself: a try that failed was crossed by another call. -/
import Derived.Test.YtojkaibpfdhmaaaGreatDoorP16
import Derived.Test.YtojkaibpfdhmaaaGreatDoorP47
import Derived.Test.YtojkaibpfdhmaaaGreatDoorP43
namespace Go.Proofs.YtojkaibpfdhmaaaGreatDoor
open Go.RowKit
set_option maxRecDepth 100000
set_option maxHeartbeats 16000000
theorem b5w{W:World}{b k c:Nat}{es:List Ev}{q:jl}(hd:Dis de es)(hf:vz de es c)(ha:q.2.map (·.1)=ats (ofT k) es c)(hlen:es.length≤1000)(ho:W.ownsRow b 57 2 q.1 q.2.length (q.2.flatMap pubE))(t:Nat)(d:Nat):Calls Tryz.prog 8 #[q.1,ci t] (W.drewN d) fun e w'=>e=.returned (cu ((phi es (onT k) t:Nat):Int))∧W.drewN d=w':=by
 have h1:q.2.length≤1000:=by
  have h2:(q.2.map (·.1)).length=(ats (ofT k) es c).length:=by rw[ha]
  rw[List.length_map,pp (hd.ofT k)] at h2;exact nlt (Nat.le_of_eq h2) (nlt List.countP_le_length hlen)
 have hs:(q.2.map (·.1)).Pairwise (· < ·):=by rw[ha];exact b2k
 refine(c6t (W.drewN d) q.1 q.2 t (kj (ai ho (sdn d) nm0) (Nat.zero_le _)) h1 hs).mono ?_;rintro e w' ⟨n,rfl,hn,rfl⟩;refine⟨?_,rfl⟩;have h2:=hf.phi hd k t;rw[←ha,List.countP_map] at h2;rw[hn,←h2]
 rfl
theorem b9i{a b:Nat}(ha:a≤1000)(hb:b≤1000):∃m,IntKind.u64.wrap ((b:Int)-a)=m∧IntKind.i64.wrap m=(b:Int)-a:=by
 refine⟨_,rfl,?_⟩;rw[IntKind.wrap_u64,IntKind.wrap_i64];omega
theorem b1o{l:List Ev}{S:Int→Bool}{b:Nat}:phi l S b≤l.length:=List.countP_le_length
def og(L2:List EvC)(e:Ev)(k:Nat):Nat:=((L2.map (·.at_)).take k).countP fun x=>decide (e.frm<x∧x≤e.to_-1)
theorem b5x(L2:List EvC)(e:Ev):og L2 e 0=0:=by simp[og]
theorem b5y{L2:List EvC}{e:Ev}{k:Nat}{y:EvC}(hy:L2[k]?=some y):og L2 e (k+1)=og L2 e k+(decide (e.frm<y.at_∧y.at_≤e.to_-1)).toNat:=by
 unfold og;have h:(L2.map (·.at_))[k]?=some y.at_:=by rw[List.getElem?_map,hy];rfl
 rw[List.take_add_one,h,List.countP_append]
 rfl
theorem c2z{L2:List EvC}{e:Ev}{k:Nat}:og L2 e k≤k:=nlt List.countP_le_length (by rw[List.length_take];omega)
def ni(e:Ev)(k j:Nat):Bool:=decide (e.kind=5∨(e.kind=2∧e.topic=k)∨(k:Int)∈e.set.take j)
theorem b9j(e:Ev)(k:Nat):ni e k e.set.length=inE e k:=by simp[ni,inE]
theorem b5z{e:Ev}{k j:Nat}{v:Int}(h:e.set[j]?=some v):ni e k (j+1)=(ni e k j||v==(k:Int)):=by
 unfold ni;rw[List.take_add_one,h];have:(v==(k:Int))=decide (v=(k:Int)):=by cases hb:decide (v=(k:Int))<;>simp_all
 rw[this,←Bool.decide_or];simp only[Option.toList,List.mem_append,List.mem_singleton];refine decide_eq_decide.2 ⟨?_,?_⟩<;>intro h<;>simp only[eq_comm (a:=v)] at *<;>grind
structure ny(E:Env)(K:Nat)(es:List Ev)(L:List EvC)(ps:List jl)(L2:List EvC)(cp ct:Nat):Prop where
 d:Dis de es
 td:Dis dx es
 fp:vz de es cp
 ft:vz dx es ct
 ats:∀(k:Nat)(q:jl),ps[k]?=some q→q.2.map (·.1)=ats (ofT k) es cp
 tats:L2.map (·.at_)=Go.Proofs.YtojkaibpfdhmaaaGreatDoor.ats dx es ct
 len:es.length≤1000
 busy:∀e∈es,b4q E es e
 top:∀x∈es,de x=true→∃t:Nat,x.topic=t∧t<K
theorem ny.turns{E:Env}{K:Nat}{es:List Ev}{L L2:List EvC}{ps:List jl}{cp ct:Nat}(h:ny E K es L ps L2 cp ct){e:Ev}(he:e∈es)(h0:e.to_≠0)(hc:e.code=20):E.tries≤og L2 e L2.length:=by
 have h1:=((h.busy e he).2 h0 hc).2;rw[←h.ft.tcnt h.td,←h.tats] at h1;unfold og;rw[show L2.length=(L2.map (·.at_)).length by simp,List.take_length];exact h1
theorem ny.tlen{E:Env}{K:Nat}{es:List Ev}{L L2:List EvC}{ps:List jl}{cp ct:Nat}(h:ny E K es L ps L2 cp ct):L2.length≤1000:=by
 have h2:(L2.map (·.at_)).length=(Go.Proofs.YtojkaibpfdhmaaaGreatDoor.ats dx es ct).length:=by rw[h.tats]
 rw[List.length_map,pp h.td] at h2;exact nlt (Nat.le_of_eq h2) (nlt List.countP_le_length h.len)
def lq(es:List Ev)(e:Ev)(k:Nat):Int:=(phi es (m6 e k) e.to_:Nat)-(phi es (m6 e k) e.frm:Nat)
theorem b6a(es:List Ev)(e:Ev):lq es e 0=0:=by simp[lq,b8e]
theorem c3a{es:List Ev}{e:Ev}{k:Nat}(h:inE e k=false):lq es e (k+1)=lq es e k:=by simp[lq,b2m,h]
theorem b9k{es:List Ev}{e:Ev}{k:Nat}(h:inE e k=true):lq es e (k+1)=lq es e k+((phi es (onT k) e.to_:Nat)-(phi es (onT k) e.frm:Nat)):=by
 simp only[lq,b2m,h,if_true];omega
theorem c3c{es:List Ev}{e:Ev}{k:Nat}:-(es.length:Int)≤lq es e k∧lq es e k≤es.length:=by
 have h1:=b1o (l:=es) (S:=m6 e k) (b:=e.to_);have h2:=b1o (l:=es) (S:=m6 e k) (b:=e.frm);unfold lq;omega
theorem ny.pubs{E:Env}{K:Nat}{es:List Ev}{L L2:List EvC}{ps:List jl}{cp ct:Nat}(h:ny E K es L ps L2 cp ct){e:Ev}(he:e∈es)(h0:e.to_≠0)(hc:e.code=19)(h1:e.kind≠1):(E.tries:Int)≤lq es e K:=by
 rcases (h.busy e he).1 h0 hc with h2|⟨-,h2⟩
 ·exact absurd h2 h1
 ·unfold lq;rw[qy h.top,qy h.top];omega
theorem c6u{W:World}{v:Value}{l:List Int}(h:Has W 1 v l.length (l.map (Value.int .i64))):∃sa sc,v=.slice sa l.length sc∧∀(j:Nat)(x:Int),l[j]?=some x→∃ad,sa=some ad∧W.cell? (ad.add j)=some (ci x):=by
 rcases h.shape with ⟨h1,h2⟩|⟨a,c,h1,h2⟩
 ·refine⟨none,0,by rw[h1,h2],fun j x hx=>?_⟩;have:=List.length_eq_zero_iff.1 h2;subst this;cases hx
 ·refine⟨some a,c,h1,fun j x hx=>?_⟩;exact⟨a,rfl,h2 j (ci x) (by rw[List.getElem?_map,hx];rfl)⟩
structure ve(W:World)(B:Nat)(e:Ev)(sa:Option Addr)(sc:Nat):Prop where
 kd:W.cell? (ae B 1)=some (ci e.kind)
 tp:W.cell? (ae B 2)=some (ci e.topic)
 set:W.cell? (ae B 10)=some (.slice sa e.set.length sc)
 code:W.cell? (ae B 12)=some (ci e.code)
 frm:W.cell? (ae B 24)=some (ci e.frm)
 to_:W.cell? (ae B 26)=some (ci e.to_)
 mem:∀(j:Nat)(x:Int),e.set[j]?=some x→∃ad,sa=some ad∧W.cell? (ad.add j)=some (ci x)
theorem ve.bel{W W':World}{B:Nat}{e:Ev}{sa:Option Addr}{sc:Nat}(h:ve W B e sa sc)(hb:Below W.heap.size W W'):ve W' B e sa sc:=by
 have hc:∀{p:Addr}{v:Value},W.cell? p=some v→W'.cell? p=some v:=fun h1=>(hb.cell (blc h1)).trans h1;refine⟨hc h.kd,hc h.tp,hc h.set,hc h.code,hc h.frm,hc h.to_,fun j x hx=>?_⟩;obtain⟨ad,h1,h2⟩:=h.mem j x hx;exact⟨ad,h1,hc h2⟩
theorem c3d{W:World}{x:EvC}{e:Ev}(h:EvL W x e):∃sa sc,ve (W.alloc (.cells x.a 47)) W.heap.size e sa sc:=by
 have hb:=(brf W).alloc (nlr _) (.cells x.a 47);obtain⟨sa,sc,h1,h2⟩:=c6u (h.set.bel hb);have r:=Row.new W 47 x.a;obtain⟨g1,g2,g3,g4,g5,g6,g7,g8,g9⟩:=h.b;refine⟨sa,sc,?_,?_,?_,?_,?_,?_,h2⟩
 ·rw[←g2];exact r.k 1
 ·rw[←g3];exact r.k 2
 ·rw[←h1];exact r.k 10
 ·rw[←g7];exact r.k 12
 ·rw[←g4];exact r.k 24
 ·rw[←g6];exact r.k 26
theorem b9l{x:EvC}{e:Ev}(hb:EvB x e):((x.to_:Int)==0)=true∨(((x.to_:Int)==0)=false∧(x.code != 19)=true∧(x.code != 20)=true)∨(((x.to_:Int)==0)=false∧(x.code != 19)=true∧(x.code != 20)=false∧(x.code==20)=true∧e.to_≠0∧e.code=20) ∨
  (((x.to_:Int)==0)=false∧(x.code != 19)=false∧(x.code==20)=false∧e.to_≠0∧e.code=19):=by
 rw[hb.to_,hb.code];by_cases h0:e.to_=0
 ·exact Or.inl (iw (by omega))
 ·refine Or.inr ?_;by_cases h1:e.code=19
  ·exact Or.inr (Or.inr ⟨im (by omega),b3p h1,im (by omega),h0,h1⟩)
  ·by_cases h2:e.code=20
   ·exact Or.inr (Or.inl ⟨im (by omega),xy h1,b3p h2,iw h2,h0,h2⟩)
   ·exact Or.inl ⟨im (by omega),xy h1,xy h2⟩
theorem d0o(w:World)(T tr lg:Int)(a:Option Addr)(c:Nat)(l:List cj)(pa:Option Addr)(pc:Nat)(ps:List (List PC))(ka:Option Addr)(kc:Nat)(xs:List Int)(hs:rj w a c l pa pc ps ka kc xs)(hw:jj w)(hf:j7 w):Calls Tryz.prog 3 #[.agg #[ci T,.slice a l.length c,ci tr,ci lg,.slice pa ps.length pc,.slice ka xs.length kc]] w fun e w'=>e=.returned (.bool true)∧Below w.heap.size w w':=by
 have HP:=qh (Row.new w 28 #[ci T,.slice a l.length c,ci tr,ci lg,.slice pa ps.length pc,.slice ka xs.length kc]);have HB:=qh (af (brf w) (.cells #[ci T,.slice a l.length c,ci tr,ci lg,.slice pa ps.length pc,.slice ka xs.length kc] 28));have HWF:=qh (And.intro (hw.bel HB.o) (hf.bel HB.o));have HP4:=qh (d0n (w.alloc (.cells #[ci T,.slice a l.length c,ci tr,ci lg,.slice pa ps.length pc,.slice ka xs.length kc] 28)) T tr lg a c l pa pc ps ka kc xs (hs.bel HB.o) HWF.o.1 HWF.o.2);have hc:=HP.o.c6;obtain⟨c0,c1,c2,c3,c4,c5⟩:=hc;clear hs hw hf
 go_enter Tryz.func3,Tryz.ntmps3
 go_wp2_with fail;clear c0 c1 c2 c3 c4 c5;generalize w.alloc (.cells #[ci T,.slice a l.length c,ci tr,ci lg,.slice pa ps.length pc,.slice ka xs.length kc] 28)=w1 at *;refine HP4.o.mono ?_;intro e w2 hpost;clear HP4;cases hpost with
 | no v hb=>
  have HB2:=qh (bt HB.o hb);have HWF2:=qh (And.intro (HWF.o.1.bel hb) (HWF.o.2.bel hb));clear hb;go_wp2_with fail;refine(c1z w2 HWF2.o.1 HWF2.o.2).mono ?_;rintro e w3 ⟨rfl,hb⟩;have HB3:=qh (bt HB2.o hb);clear hb;go_wp2_with fail;go_ret;exact⟨rfl,HB3.o⟩
 | yes s v L hb hok hI hc hx hl ho he=>
  have HB2:=qh (bt HB.o hb);have HP2:=qh (HP.o.bel hb);have HWF2:=qh (And.intro (HWF.o.1.bel hb) (HWF.o.2.bel hb));have HL2:=qh (um.mk (kj ho (Nat.zero_le _)) hl he);have HIC:=qh (And.intro hI hc);have hes:s.evs.length≤500:=nlt hc.ev hx;have hdd:Dis de s.evs:=hI.dis;have htd:Dis dx s.evs:=hI.tdis;have hpos:∀e∈s.evs,de e=true→1≤e.at_:=fun e h1 h2=>(hI.gen e h1 h2).2
  have htop:∀e∈s.evs,de e=true→∃t:Nat,e.topic=t∧t<l.length∧e.gen=phi s.evs (onT t) e.at_:=fun e h1 h2=>by
   obtain⟨t,h3,h4,h5⟩:=(hI.gen e h1 h2).1;exact⟨t,h3,by simpa[fu,rt] using h4,h5⟩
  have hat:∀e∈s.evs,e.at_≤1000000:=fun e h1=>by
   obtain⟨j,hj⟩:=mig.1 h1;have h2:=(hI.tm j e hj).1;have h3:=hc.tm;omega
  have htpos:∀e∈s.evs,dx e=true→1≤e.at_:=fun e _ h=>by
   unfold dx at h;rw[decide_eq_true_eq] at h;omega
  have hbz:=hI.busy
  have hl64:1≤l.length∧l.length≤64:=by
   have h:=hok.n;simp only[inB,decide_eq_true_eq] at h;omega
  have htr:1≤tr∧tr≤16:=by
   have h:=hok.tr;simp only[inB,decide_eq_true_eq] at h;omega
  have het:((fu T l tr lg).tries:Int)=tr:=by
   simp only[fu];omega
  generalize fu T l tr lg=E at *;have HP6:=qh (d1d w2 l.length v L s.evs (by omega) HL2.o hdd hpos htop hat (by omega));have HT7:=qh fun (w3:World)(hb:Below w2.heap.size w2 w3)=>c9m w3 v L s.evs (HL2.o.bel hb) htd htpos hat (by omega);have HBZ:=qh hbz;have HDD:=qh (And.intro hdd htd);have HTOP:=qh htop;clear hb hok hI hc hl ho he hdd htd hpos htop hat htpos hbz;have hHL:=HL2.o.own;obtain⟨va,vc,rfl⟩:=ax hHL;clear hHL;have hc:=HP2.o.c6;obtain⟨c0,c1,c2,c3,c4,c5⟩:=hc;generalize s.evs=es at *;go_wp2_with fail;clear c0 c1 c2 c3 c4 c5;refine HP6.o.mono ?_;intro e w3 hpost;cases hpost with
  | mk G qs cp hb hl hr ha hf=>
   have HT7':=qh (HT7.o w3 hb);have HB3:=qh (bt HB2.o hb);have HP3:=qh (HP2.o.bel hb);have HWF3:=qh (And.intro (HWF2.o.1.bel hb) (HWF2.o.2.bel hb));have HL3:=qh (HL2.o.bel hb);have HR3:=qh hr;have HHA:=qh (And.intro ha hf);clear hb hr ha hf HP6 HT7;go_wp2_with fail;refine HT7'.o.mono ?_;intro e w4 hpost;cases hpost with
   | mk tv L2 ct hb ho ha hf=>
    have HB4:=qh (bt HB3.o hb);have HP4:=qh (HP3.o.bel hb);have HWF4:=qh (And.intro (HWF3.o.1.bel hb) (HWF3.o.2.bel hb));have HL4:=qh (HL3.o.bel hb);have HR4:=qh (HR3.o.bel hb);have HO4:=qh ho;have HLAW:=qh (ny.mk (L:=L) HDD.o.1 HDD.o.2 HHA.o.2 hf HHA.o.1 ha (by omega) HBZ.o (fun x h1 h2=>by obtain⟨t,h3,h4,-⟩:=HTOP.o x h1 h2;exact⟨t,h3,h4⟩));obtain⟨ta,tc,rfl⟩:=ax ho;have htl:=HLAW.o.tlen;clear hb ho ha hf HT7' HB2 HB3 HP2 HP3 HWF2 HWF3 HL2 HL3 HR3 HDD HHA HTOP HBZ HIC HP HWF HB hx;go_wp2_with fail;have h00:Hd (Below w4.heap.size w4 w4):=qh (Below.refl _ _)
    go_loopw [8,9,10,11,12,13,14] (fun s8 _ _ _ _ _ _ W=>∃i:Nat,i≤es.length∧s8=ci i∧Hd (Below w4.heap.size w4 W)) (fun s8 _ _ _ _ _ _ _=>es.length-(intOf s8).toNat)
    case atStart=>exact⟨0,by omega,rfl,h00⟩
    case round=>
     obtain⟨i,hil,rfl,hR1⟩:=hrel;clear h00;by_cases hi:i<es.length
     ·have i1:(i:Int)<es.length:=by omega
      obtain⟨g,lc',hlv,hA0⟩:=HL4.o.arr (by omega);have ela:va=some ⟨g,0,none⟩:=by simp only[Value.slice.injEq] at hlv;exact hlv.1
      subst ela;clear hlv;have hi0:i<L.length:=by have h9:L.length=es.length:=HL4.o.len;omega
      have hx:L[i]?=some L[i]:=cz hi0;have he:es[i]?=some es[i]:=cz hi;generalize L[i]=x at hx;generalize es[i]=e at he;have hev:=(HL4.o.ev i x e hx he).bel hR1.o;have hA:=hA0.bel hR1.o;have HRG:Hd (wr.rangeAt g (i*27) x.l):=qh (rr hA hx);have HOC:Hd ((x.a).all (·.oneCell')=true):=qh (all_oneCell_toArray (b7n hev));obtain⟨sa,sc,hea⟩:=c3d hev;have HEA:=qh hea;have HB5:=qh (af hR1.o (.cells x.a 47));have HM:=qh (dh he);have hbb:=hev.b;clear hev hA hA0 hx he hea hR1;rcases b9l hbb with f1|⟨f1,f2,f3⟩|⟨f1,f2,f3,f4,h0,h20⟩|⟨f1,f2,f3,h0,h19⟩
      ·go_wp2_with (first|((with_reducible refine dt g (i*27) x.l HRG.o ?_ ?_ ?_);rfl;rfl)|((with_reducible refine dr _ x.a HOC.o ?_ ?_ ?_ ?_ ?_);rfl;rfl;rfl;rfl))
       obtain⟨d1,d2,d10,d12,d24,d26,-⟩:=HEA.o;generalize (wr.alloc (.cells x.a 47))=w5 at *;generalize wr.heap.size=eb at *
       go_roundw
       case rel=>exact⟨i+1,by omega,by go_num,qh HB5.o⟩
       case measure=>simp only[intOf];omega
      ·go_wp2_with (first|((with_reducible refine dt g (i*27) x.l HRG.o ?_ ?_ ?_);rfl;rfl)|((with_reducible refine dr _ x.a HOC.o ?_ ?_ ?_ ?_ ?_);rfl;rfl;rfl;rfl))
       obtain⟨d1,d2,d10,d12,d24,d26,-⟩:=HEA.o;generalize (wr.alloc (.cells x.a 47))=w5 at *;generalize wr.heap.size=eb at *
       go_roundw
       case rel=>exact⟨i+1,by omega,by go_num,qh HB5.o⟩
       case measure=>simp only[intOf];omega
      ·have hT:=HLAW.o.turns HM.o h0 h20
       have hk:(x.kd != 7)=false∨((x.kd != 7)=true∧(x.kd != 8)=false):=by
        rw[hbb.kd];rcases ((HLAW.o.busy e HM.o).2 h0 h20).1 with h|h
        ·exact Or.inl (b3p h)
        ·exact Or.inr ⟨xy (by omega),b3p h⟩
       have HT:=qh hT;clear hT;rcases hk with k7|⟨k7,k8⟩
       all_goals
        go_wp2_with (first|((with_reducible refine dt g (i*27) x.l HRG.o ?_ ?_ ?_);rfl;rfl)|((with_reducible refine dr _ x.a HOC.o ?_ ?_ ?_ ?_ ?_);rfl;rfl;rfl;rfl))
        obtain⟨d1,d2,d10,d12,d24,d26,-⟩:=HEA.o;generalize (wr.alloc (.cells x.a 47))=w5 at *;generalize wr.heap.size=eb at *;have h03:Hd (Below w4.heap.size w4 w5):=qh HB5.o
        go_loopw [10,11] (fun s10 s11 W=>∃k:Nat,k≤L2.length∧s10=ci (og L2 e k:Nat)∧s11=ci k∧Hd (Below w5.heap.size w5 W)) (fun _ s11 _=>L2.length-(intOf s11).toNat)
        case atStart=>exact⟨0,by omega,by rw[b5x];rfl,rfl,qh (Below.refl _ _)⟩
        case round=>
         clear d1 d2 d10 d12 d24 d26;obtain⟨k,hkl,rfl,rfl,hR2⟩:=hrel;have hea:=HEA.o.bel hR2.o;by_cases hk:k<L2.length
         ·have i2:(k:Int)<L2.length:=by omega
          obtain⟨gt,tc',htv,-,-,hAt⟩:=Arr.of_own (E:=47) HO4.o rfl (by omega);have eta:ta=some ⟨gt,0,none⟩:=by simp only[Value.slice.injEq] at htv;exact htv.1
          subst eta;clear htv;have hy:L2[k]?=some L2[k]:=cz hk;generalize L2[k]=y at hy;have m25:=(hAt.bel (bt HB5.o hR2.o)).cell EvC.enc_len (j:=25) hy rfl;have hsu:=b5y (e:=e) hy;have hle:=c2z (L2:=L2) (e:=e) (k:=k);generalize og L2 e k=n at *;generalize hn':og L2 e (k+1)=n' at *;have HHN:=qh (And.intro hn' hsu);have HR2:=qh hR2.o;obtain⟨-,-,-,-,d24,d26,-⟩:=hea;clear hAt hy hsu hn' hR2;by_cases ha:e.frm<y.at_
          ·have da:=dqt ha;by_cases hb:y.at_<e.to_
           ·have db:=dqt hb;go_wp2_with fail
            go_quiet (fail)
            go_wp2_with fail
            go_roundw
            case rel=>
             refine⟨k+1,by omega,?_,by go_num,qh (below_drewN HR2.o _)⟩;rw[HHN.o.1,HHN.o.2,dqt (by omega:e.frm<y.at_∧y.at_≤e.to_-1)]
             go_num
            case measure=>simp only[intOf];omega
           ·have db:=dqf hb;go_wp2_with fail
            go_quiet (fail)
            go_wp2_with fail
            go_roundw
            case rel=>
             refine⟨k+1,by omega,?_,by go_num,qh (below_drewN HR2.o _)⟩;rw[HHN.o.1,HHN.o.2,dqf (by omega:¬ (e.frm<y.at_∧y.at_≤e.to_-1))]
             rfl
            case measure=>simp only[intOf];omega
          ·have da:=dqf ha;have HA:=qh ha;clear ha;go_wp2_with fail
           go_quiet (fail)
           go_wp2_with fail
           go_roundw
           case rel=>
            refine⟨k+1,by omega,?_,by go_num,qh (below_drewN HR2.o _)⟩;have ha:=HA.o;rw[HHN.o.1,HHN.o.2,dqf (by omega:¬ (e.frm<y.at_∧y.at_≤e.to_-1))]
            rfl
           case measure=>simp only[intOf];omega
         ·have hk':k=L2.length:=by omega
          subst hk';have r:=(HP4.o.bel (bt HB5.o hR2.o));have hc:=r.c6;obtain⟨c0,c1,c2,c3,c4,c5⟩:=hc;have HR2:=qh hR2.o;have hT:=HT.o;generalize og L2 e L2.length=n at *;have hnt:¬ (n:Int)<tr:=by omega
          clear hT hR2 r hea;go_wp2_with fail
          go_roundw
          case rel=>exact⟨i+1,by omega,by go_num,qh (bt HB5.o HR2.o)⟩
          case measure=>simp only[intOf];omega
      ·by_cases h1:e.kind=1
       ·have k1:(x.kd==1)=true:=by rw[hbb.kd];exact iw h1
        go_wp2_with (first|((with_reducible refine dt g (i*27) x.l HRG.o ?_ ?_ ?_);rfl;rfl)|((with_reducible refine dr _ x.a HOC.o ?_ ?_ ?_ ?_ ?_);rfl;rfl;rfl;rfl))
        obtain⟨d1,d2,d10,d12,d24,d26,-⟩:=HEA.o;generalize (wr.alloc (.cells x.a 47))=w5 at *;generalize wr.heap.size=eb at *
        go_roundw
        case rel=>exact⟨i+1,by omega,by go_num,qh HB5.o⟩
        case measure=>simp only[intOf];omega
       ·have k1:(x.kd==1)=false:=by rw[hbb.kd];exact im h1
        have hfew:=hbb.few;have HPB:=qh (HLAW.o.pubs HM.o h0 h19 h1)
        go_wp2_with (first|((with_reducible refine dt g (i*27) x.l HRG.o ?_ ?_ ?_);rfl;rfl)|((with_reducible refine dr _ x.a HOC.o ?_ ?_ ?_ ?_ ?_);rfl;rfl;rfl;rfl))
        obtain⟨d1,d2,d10,d12,d24,d26,-⟩:=HEA.o;generalize (wr.alloc (.cells x.a 47))=w5 at *;generalize wr.heap.size=eb at *
        go_loopw [10,12,13,14] (fun s10 s12 _ _ W=>∃k:Nat,k≤l.length∧s10=ci (lq es e k)∧s12=ci k∧Hd (Below w5.heap.size w5 W)) (fun _ s12 _ _ _=>l.length-(intOf s12).toNat)
        case atStart=>exact⟨0,by omega,by rw[b6a],rfl,qh (Below.refl _ _)⟩
        case round=>
         clear d1 d2 d10 d12 d24 d26;obtain⟨k,hkl,rfl,rfl,hR2⟩:=hrel;by_cases hk:k<l.length
         ·have i2:(k:Int)<l.length:=by omega
          have hbase:((e.kind==5)=true∧ni e k 0=true)∨((e.kind==5)=false∧(e.kind==2)=true∧(e.topic==(k:Int))=true∧ni e k 0=true)∨((e.kind==5)=false∧(e.kind==2)=true∧(e.topic==(k:Int))=false∧ni e k 0=false)∨((e.kind==5)=false∧(e.kind==2)=false∧ni e k 0=false):=by
           unfold ni;by_cases g5:e.kind=5
           ·exact Or.inl ⟨iw g5,by simp[g5]⟩
           ·by_cases g2:e.kind=2
            ·by_cases gt:e.topic=(k:Int)
             ·exact Or.inr (Or.inl ⟨im g5,iw g2,iw gt,by simp[g2,gt]⟩)
             ·exact Or.inr (Or.inr (Or.inl ⟨im g5,iw g2,im gt,by simp[g2,gt]⟩))
            ·exact Or.inr (Or.inr (Or.inr ⟨im g5,im g2,by simp[g5,g2]⟩))
          have hea:=HEA.o.bel hR2.o;obtain⟨d1,d2,d10,d12,d24,d26,-⟩:=hea;have HS0:Hd (∃b0:Bool,ni e k 0=b0):=qh ⟨_,rfl⟩;generalize hpd:lq es e k=n at *;have HPD:=qh hpd;clear hpd;rcases hbase with ⟨g5,gs⟩|⟨g5,g2,gt,gs⟩|⟨g5,g2,gt,gs⟩|⟨g5,g2,gs⟩
          all_goals
           have GS:=qh gs;clear gs;go_wp2_with fail;have h04:Hd (Below w5.heap.size w5 wr):=qh hR2.o
           go_loopw [13,14] (fun s13 s14 W=>∃j:Nat,j≤e.set.length∧s13=.bool (ni e k j)∧s14=ci j∧Hd (Below w5.heap.size w5 W)) (fun _ s14 _=>e.set.length-(intOf s14).toNat)
           case atStart=>exact⟨0,by omega,by rw[GS.o],rfl,h04⟩
           case round=>
            clear d1 d2 d10 d12 d24 d26 hR2;obtain⟨j,hjl,rfl,rfl,hR3⟩:=hrel;have hea:=HEA.o.bel hR3.o;obtain⟨d1,d2,d10,d12,d24,d26,dm⟩:=hea;by_cases hj:j<e.set.length
            ·have i3:(j:Int)<e.set.length:=by omega
             have hv:e.set[j]?=some e.set[j]:=cz hj;generalize e.set[j]=v at hv;have HSU:=qh (b5z (k:=k) hv);obtain⟨ad,hsa,hcv⟩:=dm j v hv;subst hsa;clear dm;generalize hbo:ni e k j=bo at *;have HBO:=qh hbo;have HV:=qh hv;clear hbo hv;cases bo
             ·by_cases hvk:v=(k:Int)
              ·have dv:=iw hvk;go_wp2_with fail
               go_roundw
               case rel=>exact⟨j+1,by omega,by rw[HSU.o,dv];rfl,by go_num,qh hR3.o⟩
               case measure=>simp only[intOf];omega
              ·have dv:=im hvk;go_wp2_with fail
               go_roundw
               case rel=>exact⟨j+1,by omega,by rw[HSU.o,dv];rfl,by go_num,qh hR3.o⟩
               case measure=>simp only[intOf];omega
             ·go_wp2_with fail
              go_roundw
              case rel=>exact⟨j+1,by omega,by rw[HSU.o];rfl,by go_num,qh hR3.o⟩
              case measure=>simp only[intOf];omega
            ·have hj':j=e.set.length:=by omega
             subst hj';have hsi:=b9j e k;rw[hsi];clear hsi;cases hin:inE e k
             ·have HIN:=qh hin;clear hin;go_wp2_with fail
              go_roundw
              case rel=>exact⟨k+1,by omega,by rw[c3a HIN.o,HPD.o],by go_num,qh hR3.o⟩
              case measure=>simp only[intOf];omega
             ·have HIN:=qh hin;clear hin;have hqk:k<qs.length:=by omega
              have hq:qs[k]?=some qs[k]:=cz hqk;generalize qs[k]=q at hq;have hBj:=bt HB5.o hR3.o;have hown:=jb (HR4.o.own k q hq) hBj;have hG:=b0l (HR4.o.arr.bel hBj) hq;have hnn:=b5w HLAW.o.d HLAW.o.fp (HLAW.o.ats k q hq) HLAW.o.len hown;obtain⟨qa,qc,hqe⟩:=ax hown;rw[hqe] at hG hnn;have hpy:=b9k (es:=es) HIN.o;have hle1:=b1o (l:=es) (S:=onT k) (b:=e.to_);have hle2:=b1o (l:=es) (S:=onT k) (b:=e.frm);have hle3:=c3c (es:=es) (e:=e) (k:=k);rw[HPD.o] at hpy hle3;generalize phi es (onT k)=fn at *;obtain⟨m,hm1,hm2⟩:=b9i (a:=fn e.frm) (b:=fn e.to_) (by omega) (by omega);have HPY:=qh hpy;have i4:¬ (k:Int)<0:=by omega
              have i5:¬ (l.length:Int)≤k:=by omega
              have i6:decide (l.length≤k)=false:=dqf (by omega);clear hq hown hqe hpy hBj dm d1 d2 d12;go_wp2_with fail
              go_quiet ((go_at_call 8;exact Calls.quiet_same (hnn _ _)))
              go_wp2_with fail
              go_roundw
              case rel=>
               refine⟨k+1,by omega,?_,by go_num,qh (below_drewN hR3.o _)⟩;rw[HPY.o]
              case measure=>simp only[intOf];omega
         ·have hk':k=l.length:=by omega
          subst hk';have r:=(HP4.o.bel (bt HB5.o hR2.o));have hc:=r.c6;obtain⟨c0,c1,c2,c3,c4,c5⟩:=hc;have HR2:=qh hR2.o;have hT:=HPB.o;generalize lq es e l.length=n at *;have hnt:¬ n<tr:=by omega
          clear hT hR2 r;go_wp2_with fail
          go_roundw
          case rel=>exact⟨i+1,by omega,by go_num,qh (bt HB5.o HR2.o)⟩
          case measure=>simp only[intOf];omega
     ·have hi':i=es.length:=by omega
      subst hi';have HWF5:=qh (And.intro (HWF4.o.1.bel hR1.o) (HWF4.o.2.bel hR1.o));have HB5:=qh (bt HB4.o hR1.o);clear hR1;go_wp2_with fail;refine(c1z wr HWF5.o.1 HWF5.o.2).mono ?_;rintro e w6 ⟨rfl,hb⟩;have HB6:=qh (bt HB5.o hb);clear hb;go_wp2_with fail;go_ret;exact⟨rfl,HB6.o⟩
end Go.Proofs.YtojkaibpfdhmaaaGreatDoor

/- Whether a script is not too great: the law's few. -/
import Derived.Test.YtojkaibpfdhmaaaGreatDoorP16
import Derived.Test.YtojkaibpfdhmaaaGreatDoorP44
import Derived.Test.YtojkaibpfdhmaaaGreatDoorP41
import Derived.Test.YtojkaibpfdhmaaaGreatDoorP45
import Derived.Test.YtojkaibpfdhmaaaGreatDoorP21
namespace Go.Proofs.YtojkaibpfdhmaaaGreatDoor
open Go.RowKit
set_option maxRecDepth 100000
set_option maxHeartbeats 16000000
theorem c9z:(Tryz.prog.info? 70).map (fun i=>(i.zero,i.size,i.bytes))=some (some (.pointer none),1,8):=by kernel_rfl
def encV(v:Value):List Value:=[v]
theorem ol.bel{W W':World}{v:Value}{p:List PC}{cl:List bu}(h:ol W v p cl)(hb:Below W.heap.size W W'):ol W' v p cl:=⟨h.len,h.has.bel hb,fun j c pc h1 h2=>(h.each j c pc h1 h2).bel hb⟩
structure py(W:World)(bs:Nat)(Z:Nat→Prop)(j R:Nat)(p:List PC):Prop where
 ex:∃(ca:Option Addr)(cc bi:Nat)(cl:List bu),Row W R 73 #[.slice ca p.length cc,ci 0,.func (.func 17) #[] #[pt bs,pt bi]]∧Row W bi 3 #[ci j]∧Z bi∧cl.length=p.length∧W.ownsRow 0 39 11 (.slice ca p.length cc) p.length (cl.flatMap bu.enc)∧(∀b,(Value.slice ca p.length cc).ownBlock=some b→Z b) ∧
  ∀(n:Nat)(c:bu)(pc:PC),cl[n]?=some c→p[n]?=some pc→mw W c pc∧(∀b,c.set.ownBlock=some b→Z b)∧∀b,c.words.ownBlock=some b→Z b
theorem py.same{W W':World}{bs j R:Nat}{Z Z':Nat→Prop}{p:List PC}{M:List Nat}(h:py W bs Z j R p)(hs:ab M W W')(hM:∀b∈M,¬ Z b∧b≠R)(hz:∀b,Z b→Z' b):py W' bs Z' j R p:=by
 obtain⟨ca,cc,bi,cl,h1,h2,h3,h4,h5,h6,h7⟩:=h.ex;have off:∀b,Z b→b∉M:=fun b hb hx=>(hM b hx).1 hb;refine⟨ca,cc,bi,cl,h1.same hs fun hx=>(hM _ hx).2 rfl,h2.same hs (off _ h3),hz _ h3,h4,ai h5 hs fun b hb=>off _ (h6 b hb),fun b hb=>hz _ (h6 b hb),fun n c pc g1 g2=>?_⟩;obtain⟨g3,g4,g5⟩:=h7 n c pc g1 g2;exact⟨g3.same hs (fun b hb=>off _ (g4 b hb)) (fun b hb=>off _ (g5 b hb)),fun b hb=>hz _ (g4 b hb),fun b hb=>hz _ (g5 b hb)⟩
theorem py.calls{W:World}{bs j R:Nat}{Z:Nat→Prop}{tag:Nat→Nat}{p:List PC}(h:py W bs Z j R p)(hz:∀b,Z b→b<W.heap.size∧tag b=0):∃(ca:Option Addr)(cc bi:Nat),Row W R 73 #[.slice ca p.length cc,ci 0,.func (.func 17) #[] #[pt bs,pt bi]]∧Row W bi 3 #[ci j]∧tag bi=0∧nl W tag ca p:=by
 obtain⟨ca,cc,bi,cl,h1,h2,h3,h4,h5,h6,h7⟩:=h.ex;refine⟨ca,cc,bi,h1,h2,(hz _ h3).2,fun n pc hn=>?_⟩;have hnl:=(bk.1 hn).1;have hc:cl[n]?=some cl[n]:=cz (by omega);generalize cl[n]=c at hc;obtain⟨g1,g2,g3⟩:=h7 n c pc hc hn;obtain⟨g,c',e1,-,-,hA⟩:=Arr.of_own (E:=39) h5 h4.symm (by omega);cases e1;obtain⟨wl,w1,w2⟩:=g1.words;refine⟨g,c,rfl,(hz _ (h6 g rfl)).2,⟨g1.kd,g1.tp,g1.sb,g1.cp,g1.rk,g1.sr,g1.mo,g1.fl,g1.fb,g1.set,⟨wl,w1,w2⟩,fun b hb=>hz _ (g2 b hb),fun b hb=>hz _ (g3 b hb),nk g1.set,nk w2,g1.few⟩,fun k v hv=>?_⟩;exact hA.cell bu.enc_len hc hv
def NewZ(w0 W:World)(tks:List Nat)(tv:Value)(b:Nat):Prop:=w0.heap.size≤b∧b<W.heap.size∧b∉tks∧tv.ownBlock≠some b
structure b6i(w0 W:World)(X V Mp bs:Nat)(ps:List (List PC))(k:Nat):Prop where
 s:ab [X] w0 W
 ex:∃(tv:Value)(tks:List Nat),Row W X 69 #[pt V,tv,.map (some Mp),zn,ci 0]∧tks.length=k∧tks.Nodup∧W.ownsRow w0.heap.size 70 1 tv k (tks.flatMap zo)∧(∀R∈tks,w0.heap.size≤R∧R<W.heap.size)∧∀(j R:Nat)(p:List PC),tks[j]?=some R→ps[j]?=some p→py W bs (NewZ w0 W tks tv) j R p
def ixOf:List Nat→Nat→Option Nat
 | [],_=>none
 | x::l,b=>if x=b then some 0 else (ixOf l b).map (·+1)
theorem b7t:∀{l:List Nat}{i b:Nat},l.Nodup→l[i]?=some b→ixOf l b=some i
 | [],_,_,_,h=>by simp at h
 | x::l,0,b,_,h=>by
  simp at h;simp[ixOf,h]
 | x::l,i+1,b,hn,h=>by
  rw[List.nodup_cons] at hn;simp only[List.getElem?_cons_succ] at h;have hb:=dh h;have hx:x≠b:=fun e=>hn.1 (e▸hb);simp[ixOf,hx,b7t hn.2 h]
theorem b1w:∀{l:List Nat}{b:Nat},b∉l→ixOf l b=none
 | [],_,_=>rfl
 | x::l,b,h=>by
  simp only[List.mem_cons,not_or] at h;have hx:¬ x=b:=fun e=>h.1 e.symm;simp[ixOf,b1w h.2,hx]
def mi(ms ones:List Nat)(b:Nat):Nat:=match ixOf ms b with
 | some i=>2+2*i
 | none=>if b∈ones∨b≤4 then 1 else 0
theorem b9u{ms ones:List Nat}{i b:Nat}(h:ms.Nodup)(hi:ms[i]?=some b):mi ms ones b=2+2*i:=by simp[mi,b7t h hi]
theorem b6j{ms ones:List Nat}{b:Nat}(h:b∉ms)(hb:b∈ones∨b≤4):mi ms ones b=1:=by
 unfold mi;rw[b1w h];exact if_pos hb
theorem ph{ms ones:List Nat}{b:Nat}(h:b∉ms)(hb:b∉ones)(h4:4<b):mi ms ones b=0:=by
 unfold mi;rw[b1w h];exact if_neg (fun h=>h.elim hb (by omega))
theorem c7b{E:Env}{ps:List (List PC)}{n0 lo:Nat}(hlo:lo≤n0){w2 w0 W:World}{X V A Mp bs:Nat}{v:dg}{ms:List Nat}(hv:b7p E n0 w2 V v A ms)(h4:4<n0)(hb:Below w2.heap.size w2 w0)(hn:b6i w0 W X V Mp bs ps ps.length)(hps:ps.length=E.tasks)(h1:1≤ps.length)(hp100:∀p∈ps,p.length≤100)(hm:a8 Tryz.prog 3 w0 Mp 0 (fun _=>none))(hbs:Row w0 bs 58 #[pt X])(g1:w2.heap.size≤Mp)(g2:w2.heap.size≤X)(g3:X<w0.heap.size)(g4:w2.heap.size≤bs)(g5:Mp≠X)(g6:bs≠X):∃tb tcap tks,Mem E ps W X V v A tb tcap Mp tks lo (Sys.start E):=by
 obtain⟨hs,tv,tks,hxr,htl,hnd,how,hRs,htn⟩:=hn;obtain⟨tb,tcap,rfl⟩:=ng how h1;obtain⟨tb',c',e1,tbge,-,hA⟩:=Arr.of_own (E:=70) how htl.symm h1;cases e1;obtain⟨u1,u2,u3,u4,u5⟩:=hv.up;have hv0:=hv.veh.bel hb;obtain⟨kb,hkb⟩:=hv.veh.bank.hd;have lV:=hv.veh.hv.lt;have lB:=hkb.lt;have lA:=hv.veh.bank.wd.lt;have lG:v.G<w2.heap.size:=hv.veh.spots.lt;have lY:v.Y<w2.heap.size:=hv.veh.owns.lt;have l0:=hb.size;have lW:=hs.size;have lbs:=hbs.lt;have lMp:=hm.lt;have lX:=hxr.lt;have ltb:=hA.lt;have VEH:=hv0.turn hs (hv0.bank.same hs (by simp;omega) (by simp;omega)) rfl (hv0.owns.same hs (by simp;omega)) rfl (fun b hb=>by simp only[List.mem_singleton] at hb;omega);have MPW:=hm.same hs (by simpa using g5);have BSW:=hbs.same hs (by simpa using g6);have MSW:∀m∈ms,a8 Tryz.prog 3 W m 0 (fun _=>none):=fun m hm=>((hv.maps m hm).2.bel hb).same hs (by have:=(hv.maps m hm).2.lt;simp;omega)
 have hone:∀b,(b∈[X,tb,Mp,V,v.B,A,v.G,v.Y]++tks∨b≤4)→b∉ms:=fun b hb hbm=>by
  obtain⟨m1,m2⟩:=hv.maps b hbm;have m3:=m2.lt;rcases hb with hb|hb
  ·rcases List.mem_append.1 hb with hb|hb
   ·simp only[List.mem_cons,List.not_mem_nil,or_false] at hb;rcases hb with e|e|e|e|e|e|e|e
    ·omega
    ·omega
    ·omega
    ·exact m2.ne hv.veh.hv e.symm
    ·exact m2.ne hkb e.symm
    ·exact m2.ne hv.veh.bank.wd e.symm
    ·exact m2.ne_arr hv.veh.spots e.symm
    ·exact m2.ne_arr hv.veh.owns e.symm
   ·have:=hRs b hb;omega
  ·omega
 have t1:∀b,(b∈[X,tb,Mp,V,v.B,A,v.G,v.Y]++tks∨b≤4)→mi ms ([X,tb,Mp,V,v.B,A,v.G,v.Y]++tks) b=1:=fun b hb=>b6j (hone b hb) hb
 have t0:∀b,w0.heap.size≤b→b∉tks→b≠tb→mi ms ([X,tb,Mp,V,v.B,A,v.G,v.Y]++tks) b=0:=fun b b1 b2 b3=>by
  refine ph (fun h=>?_) (fun h=>?_) (by omega)
  ·have:=(hv.maps b h).2.lt;omega
  ·rcases List.mem_append.1 h with h|h
   ·simp only[List.mem_cons,List.not_mem_nil,or_false] at h;omega
   ·exact b2 h
 have tbs:mi ms ([X,tb,Mp,V,v.B,A,v.G,v.Y]++tks) bs=0:=by
  refine ph (fun h=>?_) (fun h=>?_) (by omega)
  ·have:=(hv.maps bs h).2.lt;omega
  ·rcases List.mem_append.1 h with h|h
   ·have:=hm.ne hbs;simp only[List.mem_cons,List.not_mem_nil,or_false] at h;omega
   ·have:=(hRs bs h).1;omega
 have hml:=hv.len;refine⟨tb,tcap,tks,mi ms ([X,tb,Mp,V,v.B,A,v.G,v.Y]++tks),_,0,fun _=>none,zn,[],⟨by rw[htl];exact hxr,VEH,hA,htl.trans hps,by simp[Sys.start],hnd,MPW,Nat.zero_le _,fun i k hk=>?_,⟨rfl,Or.inl ⟨rfl,rfl⟩⟩,rfl,fun j x e h=>by simp at h,⟨t1 _ (by simp),t1 _ (by simp),t1 _ (by simp),t1 _ (by simp),t1 _ (by simp),t1 _ (by simp),t1 _ (by simp),t1 _ (by simp),fun R hR=>⟨t1 R (by simp[hR]),(hRs R hR).2⟩,fun b hb=>t1 b (Or.inr hb)⟩,(fun b h=>by cases h),⟨by omega,by omega,by omega,(fun R hR=>by have:=(hRs R hR).1;omega),fun b h=>by cases h⟩⟩,by omega,fun b b1 b2=>?_⟩
 rotate_left
 ·refine ph (fun h=>?_) (fun h=>?_) b2
  ·have:=(hv.maps b h).1;omega
  ·rcases List.mem_append.1 h with h|h
   ·simp only[List.mem_cons,List.not_mem_nil,or_false] at h;omega
   ·have:=(hRs b h).1;omega
 simp only[Sys.start] at hk;have hil:=(bk.1 hk).1;rw[List.length_replicate] at hil;rw[List.getElem?_replicate] at hk;rw[if_pos hil] at hk;cases hk;have hR:tks[i]?=some tks[i]:=cz (by omega);have hp:ps[i]?=some ps[i]:=cz (by omega);have hmi:ms[i]?=some ms[i]:=cz (by omega);generalize tks[i]=R at hR;generalize ps[i]=p at hp;generalize ms[i]=m at hmi;have hmm:=dh hmi;obtain⟨ca,cc,bi,r1,r2,r3,r4⟩:=(htn i R p hR hp).calls (tag:=mi ms ([X,tb,Mp,V,v.B,A,v.G,v.Y]++tks)) fun b hz=>⟨hz.2.1,t0 b hz.1 hz.2.2.1 (fun e=>hz.2.2.2 (by rw[e];rfl))⟩
 refine⟨R,p,⟨m,zn,none⟩,hR,hp,by rw[List.getElem?_map,hmi];rfl,⟨⟨ca,cc,_,r1,r4,Or.inl ⟨17,bs,bi,rfl,tbs,r3,BSW,r2,Or.inr ⟨rfl,Or.inl rfl⟩⟩⟩,⟨hp100 p (dh hp),Nat.zero_le _⟩,[],⟨⟨_,0,MSW m hmm,Nat.zero_le _,fun _ _=>rfl⟩,⟨b9u hv.nd hmi,fun e=>by cases e⟩,⟨rfl,Or.inl ⟨rfl,rfl⟩⟩,(fun b h=>by cases h),Nat.zero_le _,fun x h=>by cases h⟩,rfl,fun _=>rfl⟩⟩
inductive b1x(w:World)(T tr lg:Int)(l:List cj)(ps:List (List PC)):Ending→World→Prop
 | no {w':World} (er:Int) (hb:Below w.heap.size w w') (he:er≠0) (hn:¬ ((⟨T,l,tr,lg⟩:ml)=kw∧ps.length=2)):b1x w T tr lg l ps (.returned (.tuple #[.pointer none,ci er])) w'
 | yes {w':World} (X V:Nat) (v:dg) (A tb tcap Mp:Nat) (tks:List Nat) (hb:Below w.heap.size w w') (hok:ml.Ok ⟨T,l,tr,lg⟩) (hp:(ps.length:Int)=T) (hx:w.heap.size≤X) (hm:Mem (fu T l tr lg) ps w' X V v A tb tcap Mp tks w.heap.size (Sys.start (fu T l tr lg))):b1x w T tr lg l ps (.returned (.tuple #[pt X,ci 0])) w'
theorem d1g(w:World)(T tr lg:Int)(a:Option Addr)(c:Nat)(l:List cj)(hl:gy cj.cells 3 w (.slice a l.length c) l)(hs:∀x∈l,x.nm.size≤maxLen)(hlen:l.length≤1000)(hw:jj w)(hf:j7 w)(pa:Option Addr)(pc:Nat)(ps:List (List PC))(vs:List Value)(hvl:vs.length=ps.length)(hpv:gy encV 1 w (.slice pa ps.length pc) vs)(hps:∀(j:Nat)(v:Value)(p:List PC),vs[j]?=some v→ps[j]?=some p→∃cl,ol w v p cl)(hp100:∀p∈ps,p.length≤100):Calls Tryz.prog 11 #[.agg #[ci T,.slice a l.length c,ci tr,ci lg],.slice pa ps.length pc] w (b1x w T tr lg l ps):=by
 have HX:=qh (Row.new w 24 #[ci T,.slice a l.length c,ci tr,ci lg]);have HB:=qh (af (brf w) (.cells #[ci T,.slice a l.length c,ci tr,ci lg] 24));have HL:=qh (hl.bel HB.o);have HWF:=qh (And.intro hw hf);have HPV:=qh hpv;have HPS:=qh hps;have HPL:=qh hp100;have lw:=hw.lt;have hvn:Hd (vs.length=ps.length):=qh hvl;clear hl hw hf hpv hps hp100 hvl
 go_enter Tryz.func11,Tryz.ntmps11
 obtain⟨y0,y1,y2,y3⟩:=HX.o.c4;go_wp2_with fail;clear y0 y1 y2 y3;generalize w.alloc (.cells #[ci T,.slice a l.length c,ci tr,ci lg] 24)=w1 at *;refine(c9p w1 T tr lg a c l HL.o hs hlen (HWF.o.1.bel HB.o) (HWF.o.2.bel HB.o)).mono ?_;rintro e w2 ⟨hb2,⟨er,he,rfl,hna⟩|⟨V,v,A,ms,rfl,hok,hveh⟩⟩
 ·have hz1:(er==0)=false:=bfn.2 he;have HB2:=qh (bt HB.o hb2);have HE:=qh (And.intro he hna);clear hb2 he hna;go_wp2_with fail
  go_ret2
  exact .no er HB2.o HE.o.1 fun h=>HE.o.2 h.1
 ·have HX2:=qh (HX.o.bel hb2);have HB2:=qh (bt HB.o hb2);have HVM:=qh hveh;have HOK:=qh hok;have hw1:w.heap.size≤w1.heap.size:=HB.o.size;have HVMS:w1.heap.size≤w2.heap.size:=hb2.size;clear hb2 hveh hok HX HB HL;have x0:=HX2.k 0;by_cases hpn:(ps.length:Int)=T
  ·subst hpn;have hN:1≤ps.length∧ps.length≤8:=by have:=HOK.o.t;simp only[inB,decide_eq_true_eq] at this;omega
   have hmk:=@run_makeMap Tryz.prog;have HMP:=qh (((a8.made w2 Tryz.prog 3).alloc (.cells #[pt V,zn,.map (some w2.heap.size),zn,ci 0] 69)).alloc (.cells #[pt (w2.heap.size+1)] 58));have z3:(w2.alloc (.map #[] 0)).heap.size=w2.heap.size+1:=by simp
   have hx0:=(Row.new (w2.alloc (.map #[] 0)) 69 #[pt V,zn,.map (some w2.heap.size),zn,ci 0]).alloc (.cells #[pt (w2.heap.size+1)] 58);rw[z3] at hx0;have z4:((w2.alloc (.map #[] 0)).alloc (.cells #[pt V,zn,.map (some w2.heap.size),zn,ci 0] 69)).heap.size=w2.heap.size+1+1:=by simp
   have hbs0:=Row.new ((w2.alloc (.map #[] 0)).alloc (.cells #[pt V,zn,.map (some w2.heap.size),zn,ci 0] 69)) 58 #[pt (w2.heap.size+1)];rw[z4] at hbs0;have HXR:=qh hx0;have HBS:=qh hbs0;have HB3:=qh (af (af (af HB2.o (.map #[] 0)) (.cells #[pt V,zn,.map (some w2.heap.size),zn,ci 0] 69)) (.cells #[pt (w2.heap.size+1)] 58));have HB23:=qh (af (af (af (brf w2) (.map #[] 0)) (.cells #[pt V,zn,.map (some w2.heap.size),zn,ci 0] 69)) (.cells #[pt (w2.heap.size+1)] 58));clear hx0 hbs0 z3 z4;go_wp2_with fail;clear hmk x0;generalize ((w2.alloc (.map #[] 0)).alloc (.cells #[pt V,zn,.map (some w2.heap.size),zn,ci 0] 69)).alloc (.cells #[pt (w2.heap.size+1)] 58)=w0 at *;have hXlo:w.heap.size≤w2.heap.size+1:=by have:=HB2.o.size;omega
   have hw12:w1.heap.size≤w2.heap.size:=HVMS;generalize hXe:w2.heap.size+1=X at *;generalize hBe:X+1=bs at *;generalize hMe:w2.heap.size=Mp at *;have hbl:=HBS.o.lt;have h00:Hd (b6i w0 w0 X V Mp bs ps 0):=qh ⟨ab.refl _ _,zn,[],HXR.o,rfl,List.nodup_nil,⟨rfl,Or.inl ⟨rfl,rfl⟩⟩,(fun R h=>by cases h),fun j R p h=>by cases h⟩;have HBS0:=HBS;have hxlt:X<w0.heap.size:=HXR.o.lt;clear HXR
   go_loopw [9,10,11,31] (fun _ _ _ iv W=>∃k:Nat,k≤ps.length∧iv=ci k∧Hd (b6i w0 W X V Mp bs ps k)) (fun _ _ _ iv _=>ps.length-(intOf iv).toNat)
   case atStart=>exact⟨0,by omega,rfl,h00⟩
   case round=>
    obtain⟨k,hkl,rfl,hR0⟩:=hrel;clear h00;obtain⟨hsm,tv,tks,hxr,htl,hnd,how,hRs,htn⟩:=hR0.o;by_cases hk:k<ps.length
    ·have i1:(k:Int)<ps.length:=by omega
     have hpk:ps[k]?=some ps[k]:=cz hk;have hvk0:k<vs.length:=by have:=hvn.o;omega
     have hvk:vs[k]?=some vs[k]:=cz hvk0;generalize ps[k]=p at *;generalize vs[k]=vk at *;obtain⟨cl,hpi⟩:=HPS.o k vk p hvk hpk;have hp1:p.length≤100:=HPL.o p (dh hpk);have hp2:¬ (100:Int)<p.length:=by omega
     obtain⟨pb,po,pcp,epv,hpat⟩:=HPV.o.some (by have h9:vs.length=ps.length:=hvn.o;omega);have hB0:Below w.heap.size w wr:=HB3.o.trans (hsm.below HB3.o.size (by simp;omega));have HBw:=qh (af hB0 (.cells #[ci k] 3));have epc:Value.slice pa ps.length pc=.slice (some ⟨pb,po,none⟩) vs.length pcp:=epv;have epa:pa=some ⟨pb,po,none⟩:=by simp only[Value.slice.injEq] at epc;exact epc.1
     have pcell:wr.cell? (ae pb (po+k))=some vk:=by
      have h:=hpat.cell k 0 vk vk hvk rfl;rw[Nat.mul_one,Nat.add_zero] at h;rw[World.cell?_of_block (w:=w) (hB0.block pb (blc h))];exact h
     have HPI:=qh (hpi.bel HBw.o)
     have hvshape:∃ca c0,vk=.slice ca p.length c0:=by
      rcases hpi.has.shape with ⟨h1,h2⟩|⟨ca,c0,h1,_⟩
      ·exact⟨_,_,by rw[h1,h2]⟩
      ·exact⟨_,_,h1⟩
     obtain⟨ca0,cc0,rfl⟩:=hvshape;have HSM:=qh hsm;have HTN:=qh htn;have HRS:=qh hRs;have HND:=qh hnd;have HTL:=qh htl;have HPK:=qh hpk;have HXa:=qh hxr;have HOWa:=qh how;revert HXa;revert HOWa
     refine cq (sa1 wr (.cells #[ci k] 3)) ?_;intro HOWa HXa;have HBIa:=qh (Row.new wr 3 #[ci k]);have HBSr:=qh ((HBS0.o.same hsm (by simp;omega)).alloc (.cells #[ci k] 3));have hszr:w0.heap.size≤wr.heap.size:=hsm.size;have HOLT:=qh (ie how);have HOWr:=qh how;have HSa:=qh (ab.alloc (M:=[]) wr (.cells #[ci k] 3));have HOGE:=qh (fw how);subst epa;clear hsm htn hRs hnd htl hxr how hpi hpat hpk hvk hB0 hR0 epv epc;go_wp2_with fail;generalize hbi:wr.heap.size=bi at *;generalize wr.alloc (.cells #[ci k] 3)=wa at *;have hbil:bi<wa.heap.size:=HBIa.o.lt;refine(d0e wa _ p cl HPI.o hp1).mono ?_;rintro e w6 ⟨v',cl',rfl,hb6,hcl,ho6,hnew⟩;obtain⟨ca,cc,rfl⟩:=ax ho6;have HX:=qh ((HXa.o.bel hb6).alloc (.cells #[.slice ca p.length cc,ci 0,.func (.func 17) #[] #[pt bs,pt bi]] 73))
     have HBS:=qh ((HBSr.o.bel hb6).alloc (.cells #[.slice ca p.length cc,ci 0,.func (.func 17) #[] #[pt bs,pt bi]] 73));have HBI:=qh ((HBIa.o.bel hb6).alloc (.cells #[.slice ca p.length cc,ci 0,.func (.func 17) #[] #[pt bs,pt bi]] 73));have HOW:=qh (jb HOWa.o hb6);have HRz:=qh (Row.new w6 73 #[.slice ca p.length cc,ci 0,.func (.func 17) #[] #[pt bs,pt bi]]);have HC:=qh ho6;have HCG:=qh (And.intro (fw ho6) (ie ho6));have HNEW:=qh hnew;have HCL:=qh hcl;have HS6:=qh ((ab.of_below (M:=[]) hb6).trans (ab.alloc (M:=[]) w6 (.cells #[.slice ca p.length cc,ci 0,.func (.func 17) #[] #[pt bs,pt bi]] 73)));have hsz6:wa.heap.size≤w6.heap.size:=hb6.size;have HBL6:=qh (brf w6);revert HOW;revert HC;revert HBL6
     refine cq (sa1 w6 (.cells #[.slice ca p.length cc,ci 0,.func (.func 17) #[] #[pt bs,pt bi]] 73)) ?_;intro HBL6 HC HOW;clear hb6 hcl ho6 hnew HXa HBSr HBIa HOWa HPI;go_wp2_with fail;generalize w6.alloc (.cells #[.slice ca p.length cc,ci 0,.func (.func 17) #[] #[pt bs,pt bi]] 73)=w8 at *;generalize hRe:w6.heap.size=R at *;have ne_tv_X:=a6 HOW.o HX.o (by decide);have ne_bs_X:bs≠X:=HBS.o.ne HX.o (by decide);have HQ:=qh (ab.refl (X::tv.ownBlock.toList) w8);have hsz7:R<w8.heap.size:=HRz.o.lt;have hszw:w0.heap.size≤w8.heap.size:=by omega
     revert HX;revert HBS;revert HOW;revert HQ
     refine cq (sdz w8) ?_;intro HQ HOW HBS HX;have hU:UD (fun W=>W.cell? (ae bs 0)=some (pt X)∧W.cell? (ae X 1)=some (tv)):=al fun W n h=>h;have hC0:=hU.at _ ⟨HBS.k 0,HX.k 1⟩;refine dw aj hU hC0 ?_;intro S;generalize w8.drew=u0 at *;refine ao S hU [0,1,2,3,4,5] 59 5 hC0 ?_;constructor
     ·intro W' hW';simp only[pick,List.filterMap,gq1,gq2,gq3];obtain⟨q0,q1⟩:=hW'
      repeat (go_big_quiet_step (fail))
      exact wpQuiet_nil rfl
     refine az S hU 6 4 rfl hC0 fun n0 K1 hK1=>?_;go_wp2_with fail;have ne_X_nb:X≠(u0.drewN n0).heap.size:=nnl (HX.o.drewN n0).lt;have ne_nb_X:=ne_X_nb.symm;have ne_bs_nb:bs≠(u0.drewN n0).heap.size:=nnl (HBS.o.drewN n0).lt;have ne_nb_bs:=ne_bs_nb.symm;have HLIT:=qh (jo (w:=(u0.drewN n0)) (cs:=#[pt R]) (t:=70) rfl);have HN:=qh (Row.new (u0.drewN n0) 70 #[pt R]);revert HQ HOW HBS HX;refine cq (sal u0 n0 (.cells #[pt R] 70)) ?_;intro HQ HOW HBS HX;have hC1:=hU.at _ ⟨HBS.k 0,HX.k 1⟩;refine hK1 _ _ hC1 ?_;clear hK1 hC0;have hzN:(u0.drewN n0).heap.size=u0.heap.size:=rfl;simp only[hzN] at *;clear hzN;generalize u0.heap.size=nb at *;generalize ((u0.drewN n0).alloc (.cells #[pt R] 70))=u1 at *;clear HN;refine az S hU 7 3 rfl hC1 fun n1 K1 hK1=>?_;obtain⟨i0,hi0,hz0,hz1,hz2⟩:=info_parts c9z
     refine wpList_append_own_at _ rfl _ _ 67 rfl w0.heap.size 70 i0 _ 1 8 Tryz.underlying67 hi0 hz0 hz1 hz2 rfl (by decide) tv k (tks.flatMap zo) rfl (ai HOW.o (sdn n1) nm0) ⟨nb,0,none⟩ 1 1 (#[pt R]).toList rfl rfl (fun j u h=>HLIT.o j u h) (fun u hu=>by simp at hu;subst hu;rfl) (by unfold maxLen;omega) (by omega) (nlt hszw (HQ.o.drewN n1).size) ?_;intro v9 wv9 hown9 hgrow9 _ hblk9;obtain⟨gv9,cv9,rfl⟩:=gl hown9;have hs9:=ab.grown' hgrow9;clear hgrow9;have nb_X:X∉tv.ownBlock.toList:=ck (ai HOW.o (sdn n1) nm0) (HX.o.drewN n1) (by decide);have nb_bs:bs∉tv.ownBlock.toList:=ck (ai HOW.o (sdn n1) nm0) (HBS.o.drewN n1) (by decide);go_wp2_with fail
     have HBLK:Hd (tv.ownBlock=some gv9∨w8.heap.size≤gv9):=qh (by
      rcases hblk9 with e|e
      ·exact Or.inl e.symm
      ·cases e;exact Or.inr (HQ.o.drewN n1).size)
     replace HOW:=qh hown9;revert HQ HBS HX;refine cm (ssm hs9) ⟨(fun y hy _=>by simp at hy ⊢;first|omega|simp[hy]),nb_bs,nb_X,trivial⟩ ?_;intro HQ HBS HX;have hC2:=hU.at _ ⟨HBS.k 0,HX.k 1⟩;refine hK1 _ _ hC2 ?_;clear hK1 hC1;clear hs9 hown9 hblk9;have ne_v9_X:=a6 HOW.o HX.o (by decide);refine ao S hU [8,9] 59 1 hC2 ?_;constructor
     ·intro W' hW';simp only[pick,List.filterMap,gq1,gq2,gq3];obtain⟨q0,q1⟩:=hW'
      repeat (go_big_quiet_step (fail))
      exact wpQuiet_nil rfl
     refine ti S hU 10 rfl hC2 fun n2 K1 hK1=>?_;have hfz:=(HX.o.drewN n2).free;have hcw:=(HX.o.drewN n2).k 1;go_wp2_with fail;clear hfz hcw;replace HX:=qh (((HX.o.drewN n2).set 1 (zl gv9 (k+1) cv9)).to (cs':=#[pt V,zl gv9 (k+1) cv9,.map (some Mp),zn,ci 0]) rfl);revert HOW HQ HBS;refine cm (sst wv9 n2 X 1 (zl gv9 (k+1) cv9)) ⟨no1 ne_v9_X,mm (by simp),nn ne_bs_X,trivial⟩ ?_;intro HOW HQ HBS;refine hK1 _ _ ?_;clear hK1 hC2;generalize ((wv9.drewN n2).setCell ⟨X,1,none⟩ (zl gv9 (k+1) cv9))=u3 at *;refine dd fun n9=>?_;revert HX HOW HQ HBS;refine cq (sdw u3 n9) ?_;intro HX HOW HQ HBS;clear S hU;generalize u3.drewN n9=w9 at *;go_wp2_with fail;have hSt:ab (X::tv.ownBlock.toList) wr w9:=((HSa.o.trans HS6.o).trans HQ.o).mono fun y hy _=>by simpa using hy
     have hQs:=HQ.o.size
     go_roundw
     case rel=>
      refine⟨k+1,by omega,by go_num,qh ⟨(HSM.o.trans hSt).mono fun y hy hy2=>?_,zl gv9 (k+1) cv9,tks++[R],HX.o,by rw[List.length_append,HTL.o];rfl,?_,?_,fun x hx=>?_,fun j R' p' hj hp'=>?_⟩⟩
      ·simp only[List.mem_append,List.mem_cons,List.not_mem_nil,or_false] at hy ⊢;rcases hy with hy|hy|hy
       ·exact hy
       ·exact hy
       ·have:=HOGE.o y (by simpa using hy);omega
      ·rw[List.nodup_append];refine⟨HND.o,by simp,fun x hx y hy e=>?_⟩;have h1:=(HRS.o x hx).2;simp only[List.mem_singleton] at hy;omega
      ·rw[List.flatMap_append];exact HOW.o
      ·rcases List.mem_append.1 hx with h|h
       ·have h1:=HRS.o x h;exact⟨h1.1,by omega⟩
       ·simp only[List.mem_singleton] at h;subst h;exact⟨by omega,by omega⟩
      ·have hz:∀b,w0.heap.size≤b→b<R→b∉tks→tv.ownBlock≠some b→NewZ w0 w9 (tks++[R]) (zl gv9 (k+1) cv9) b:=fun b h1 h2 h3 h4=>by
        refine⟨h1,by omega,fun h=>?_,fun h=>?_⟩
        ·rcases List.mem_append.1 h with h|h
         ·exact h3 h
         ·simp only[List.mem_singleton] at h;omega
        ·have e:gv9=b:=Option.some.inj h;subst e;rcases HBLK.o with h|h
         ·exact h4 h
         ·omega
       by_cases hjk:j<k
       ·rw[List.getElem?_append_left (by rw[HTL.o];exact hjk)] at hj;have hold:=HTN.o j R' p' hj hp';have hR':=HRS.o R' (dh hj);obtain⟨ca',cc',bi',cl2,r1,_⟩:=hold.ex;have hoff:=ck HOWr.o r1 (by decide);refine hold.same hSt (fun b hb=>?_) (fun b hb=>hz b hb.1 (by have:=hb.2.1;omega) hb.2.2.1 hb.2.2.2);simp only[List.mem_cons] at hb;rcases hb with h|h
        ·subst h;exact⟨fun h=>by have:=h.1;omega,by omega⟩
        ·exact⟨fun h'=>h'.2.2.2 (by simpa using h),fun e=>hoff (e▸h)⟩
       ·have hjl:=(bk.1 hj).1;rw[List.length_append,HTL.o,List.length_singleton] at hjl;have hjk':j=k:=by omega
        subst hjk';rw[List.getElem?_append_right (by rw[HTL.o];exact nlr _),HTL.o,Nat.sub_self] at hj;cases hj;rw[HPK.o] at hp';cases hp'
        have hoff:∀b,bi≤b→b∉X::tv.ownBlock.toList:=fun b hb h=>by
         simp only[List.mem_cons] at h;rcases h with h|h
         ·omega
         ·have:=HOLT.o b (by simpa using h);omega
        have hzn:∀b,bi≤b→b<R→NewZ w0 w9 (tks++[R]) (zl gv9 (j+1) cv9) b:=fun b h1 h2=>hz b (by omega) h2 (fun h=>by have:=(HRS.o b h).2;omega) (fun h=>by have:=HOLT.o b h;omega);refine⟨ca,cc,bi,cl',HRz.o.same HQ.o (hoff R (by omega)),HBI.o.same HQ.o (hoff bi (nlr _)),hzn bi (nlr _) (by omega),HCL.o,kj (ai HC.o HQ.o fun b hb=>hoff b (by have:=HCG.o.1 b hb;omega)) (Nat.zero_le _),fun b hb=>hzn b (by have:=HCG.o.1 b hb;omega) (HCG.o.2 b hb),fun n c' pc' g1 g2=>?_⟩;obtain⟨g3,g4,g5⟩:=HNEW.o n c' pc' g1 g2;have g6:=g3.bel (hRe▸HBL6.o);exact⟨g6.same HQ.o (fun b hb=>hoff b (by have:=(g4 b hb).1;omega)) (fun b hb=>hoff b (by have:=(g5 b hb).1;omega)),fun b hb=>hzn b (by have:=(g4 b hb).1;omega) (g4 b hb).2,fun b hb=>hzn b (by have:=(g5 b hb).1;omega) (g5 b hb).2⟩
     case measure=>simp only[intOf];omega
    ·have hk':k=ps.length:=by omega
     subst hk';have HR:=qh hR0.o;have HSM:=qh hsm;have x0:=(HBS0.o.same hsm (by simp;omega)).k 0;clear hR0 hsm hxr htl hnd how hRs htn;go_wp2_with fail
     go_ret2
     obtain⟨tb,tcap,tks',hmem⟩:=c7b (lo:=w.heap.size) hw1 HVM.o (by omega) (by rw[hMe];exact HB23.o) HR.o (by simp[fu]) hN.1 HPL.o HMP.o HBS0.o (by omega) (by omega) hxlt (by omega) (by omega) (by omega);exact .yes X V v A tb tcap Mp tks' (HB3.o.trans (HSM.o.below HB3.o.size (by simp;omega))) HOK.o rfl hXlo hmem
  ·have hz1:((ps.length:Int)==T)=false:=bfn.2 hpn;go_wp2_with fail
   go_ret2
   refine .no 17 HB2.o (by decide) fun h=>hpn ?_;have h1:=congrArg ml.tasks h.1;have h2:=h.2;simp only[kw] at h1;omega
structure m9(W:World)(a:Option Addr)(c:Nat)(l:List cj)(pa:Option Addr)(pc:Nat)(ps:List (List PC))(ka:Option Addr)(kc:Nat)(xs:List Int):Prop where
 tops:gy cj.cells 3 W (.slice a l.length c) l
 names:∀x∈l,x.nm.size≤maxLen
 len:l.length≤1000
 progs:∃vs:List Value,vs.length=ps.length∧gy encV 1 W (.slice pa ps.length pc) vs∧∀(j:Nat)(v:Value)(p:List PC),vs[j]?=some v→ps[j]?=some p→∃cl,ol W v p cl
 each:∀p∈ps,p.length≤100
 picks:gy gj 1 W (.slice ka xs.length kc) xs
 few:xs.length≤500
 wide:∀x∈xs,-9223372036854775808≤x∧x≤9223372036854775807
theorem m9.bel{W W':World}{a:Option Addr}{c:Nat}{l:List cj}{pa:Option Addr}{pc:Nat}{ps:List (List PC)}{ka:Option Addr}{kc:Nat}{xs:List Int}(h:m9 W a c l pa pc ps ka kc xs)(hb:Below W.heap.size W W'):m9 W' a c l pa pc ps ka kc xs:=by
 obtain⟨vs,h1,h2,h3⟩:=h.progs;refine⟨h.tops.bel hb,h.names,h.len,⟨vs,h1,h2.bel hb,fun j v p g1 g2=>?_⟩,h.each,h.picks.bel hb,h.few,h.wide⟩;obtain⟨cl,h4⟩:=h3 j v p g1 g2;exact⟨cl,h4.bel hb⟩
inductive zg(w:World)(T tr lg:Int)(l:List cj)(ps:List (List PC))(xs:List Int):Ending→World→Prop
 | no {w':World} (er:Int) (hb:Below w.heap.size w w') (he:er≠0) (hn:¬ ((⟨T,l,tr,lg⟩:ml)=kw∧ps.length=2)):zg w T tr lg l ps xs (.returned (.tuple #[zn,ci er])) w'
 | yes {w':World} (s:Sys) (v:Value) (L:List EvC) (hb:Below w.heap.size w w') (hok:ml.Ok ⟨T,l,tr,lg⟩) (hp:(ps.length:Int)=T) (hr:tj (fu T l tr lg) ps (Sys.start (fu T l tr lg)) xs s) (hI:Inv (fu T l tr lg) s none) (hc:Cnt s xs.length)
   (hl:L.length=s.evs.length) (ho:w'.ownsRow w.heap.size 47 27 v s.evs.length (L.flatMap EvC.enc)) (he:∀(j:Nat)(x:EvC)(e:Ev),L[j]?=some x→s.evs[j]?=some e→EvL w' x e):zg w T tr lg l ps xs (.returned (.tuple #[v,ci 0])) w'
structure mu(E:Env)(ps:List (List PC))(xs:List Int)(w1 W:World)(X V:Nat)(v:dg)(A tb tcap Mp:Nat)(tks:List Nat)(k:Nat):Prop where
 b:Below w1.heap.size w1 W
 ex:∃s,tj E ps (Sys.start E) (xs.take k) s∧Cnt s k∧Inv E s none∧Mem E ps W X V v A tb tcap Mp tks w1.heap.size s
theorem mu.small{E:Env}{s:Sys}{k:Nat}(hc:Cnt s k)(hI:Inv E s none)(hk:k≤500):b6y s∧∀sp∈E.spots,wat s.ws sp.seq≤1000000:=by
 have h1:=hc.tm;have h2:=hc.ev;refine⟨⟨by omega,by omega,fun i kk u h3 h4=>⟨by have:=hc.times i kk u h3 h4;omega,?_⟩⟩,fun sp hsp=>by have:=hI.small hc sp hsp;omega⟩;obtain⟨e,he⟩:=hI.und i kk u h3 h4;exact⟨e,he.ev⟩
theorem mu.next{E:Env}{ps:List (List PC)}{xs:List Int}{w1 W W':World}{X V A tb tcap Mp k:Nat}{v:dg}{tks:List Nat}{x:Int}{s s':Sys}(hE:E.Ok)(hb:Below w1.heap.size w1 W)(hr:tj E ps (Sys.start E) (xs.take k) s)(hc:Cnt s k)(hI:Inv E s none)(hx:xs[k]?=some x)(hp:gu E ps s x s')(hm:Mem E ps W' X V v A tb tcap Mp tks w1.heap.size s')(hb':Below w1.heap.size W W'):mu E ps xs w1 W' X V v A tb tcap Mp tks (k+1):=
 ⟨hb.trans hb',s',by rw[List.take_add_one,hx];exact hr.snoc hp,hc.pick hp,hI.pick hE hp,hm⟩
theorem c1x(w:World)(T tr lg:Int)(a:Option Addr)(c:Nat)(l:List cj)(pa:Option Addr)(pc:Nat)(ps:List (List PC))(ka:Option Addr)(kc:Nat)(xs:List Int)(hs:m9 w a c l pa pc ps ka kc xs)(hw:jj w)(hf:j7 w):Calls Tryz.prog 10 #[.agg #[ci T,.slice a l.length c,ci tr,ci lg,.slice pa ps.length pc,.slice ka xs.length kc]] w (zg w T tr lg l ps xs):=by
 have HP:=qh (Row.new w 28 #[ci T,.slice a l.length c,ci tr,ci lg,.slice pa ps.length pc,.slice ka xs.length kc]);have HB:=qh (af (brf w) (.cells #[ci T,.slice a l.length c,ci tr,ci lg,.slice pa ps.length pc,.slice ka xs.length kc] 28));have HS:=qh (hs.bel HB.o);have HWF:=qh (And.intro (hw.bel HB.o) (hf.bel HB.o));have c0:=HP.k 0;have c1:=HP.k 1;have c2:=HP.k 2;have c3:=HP.k 3;have c4:=HP.k 4;have lw:=hw.lt;clear hs hw hf
 go_enter Tryz.func10,Tryz.ntmps10
 go_wp2_with fail;clear c0 c1 c2 c3 c4;generalize w.alloc (.cells #[ci T,.slice a l.length c,ci tr,ci lg,.slice pa ps.length pc,.slice ka xs.length kc] 28)=w1 at *;obtain⟨vs,v1,v2,v3⟩:=HS.o.progs;refine(d1g w1 T tr lg a c l HS.o.tops HS.o.names HS.o.len HWF.o.1 HWF.o.2 pa pc ps vs v1 v2 v3 HS.o.each).mono ?_;clear v1 v2 v3;intro e w2 hpost;cases hpost with
 | no er hb he hn=>
  have hz1:(er==0)=false:=bfn.2 he;have HB2:=qh (bt HB.o hb);have HE:=qh (And.intro he hn);clear hb he hn;go_wp2_with fail
  go_ret2
  exact .no er HB2.o HE.o.1 HE.o.2
 | yes X V v A tb tcap Mp tks hb hok hp hx hm=>
  have HPK:=qh (HP.o.bel hb);have hlo:w.heap.size≤w1.heap.size:=HB.o.size;have HEN:=qh (b3m hok);have HOK:=qh (And.intro hok hp);have h00:Hd (mu (fu T l tr lg) ps xs w1 w2 X V v A tb tcap Mp tks 0):=qh ⟨hb,_,.nil _,Cnt.start _,Inv.start _,hm⟩;have c5:=HPK.k 5;have HFEW:=qh HS.o.few;clear hb hok hp hx hm;go_wp2_with fail;clear c5
  go_loopw [7,22] (fun _ iv W=>∃k:Nat,k≤xs.length∧iv=ci k∧Hd (mu (fu T l tr lg) ps xs w1 W X V v A tb tcap Mp tks k)) (fun _ iv _=>xs.length-(intOf iv).toNat)
  case atStart=>exact⟨0,by omega,rfl,h00⟩
  case round=>
   obtain⟨k,hkl,rfl,hR0⟩:=hrel;clear h00;by_cases hk:k<xs.length
   ·have i1:(k:Int)<xs.length:=by omega
    have hxk:xs[k]?=some xs[k]:=cz hk;have hwide:=HS.o.wide _ (dh hxk);generalize xs[k]=x at hxk hwide;obtain⟨kb,ko,kcp,epv,hpat⟩:=HS.o.picks.some (by omega);have epa:ka=some ⟨kb,ko,none⟩:=by simp only[Value.slice.injEq] at epv;exact epv.1
    subst epa;obtain⟨hb,s,hr,hc,hI,hm⟩:=hR0.o
    have pcell:wr.cell? (ae kb (ko+k))=some (ci x):=by
     have h:=hpat.cell k 0 x _ hxk rfl;rw[Nat.mul_one,Nat.add_zero] at h;exact ak h hb
    have hfew:k≤500:=by have:xs.length≤500:=HFEW.o;omega
    obtain⟨hsm,hseq⟩:=mu.small hc hI hfew;have HALL:=qh (And.intro hb (And.intro hr (And.intro hc (And.intro hI hxk))));have HM:=qh hm;have HSM:=qh (And.intro hsm hseq);clear hb hr hc hI hm hsm hseq hpat epv hR0 hxk;by_cases hneg:x<0
    ·obtain⟨i,rfl⟩:∃i:Nat,x = -1-(i:Int):=⟨(-1-x).toNat,by omega⟩;have hsub:(-1:Int)-(-1-(i:Int))=i:=by omega
     have hb1:(i:Int)≤9223372036854775807:=by omega
     clear hwide;go_wp2_with fail;refine(c5f HM.o HEN.o i).mono ?_;rintro e w3 ⟨q,rfl,s',g1,g2,g3⟩;have HN:=qh (mu.next HEN.o HALL.o.1 HALL.o.2.1 HALL.o.2.2.1 HALL.o.2.2.2.1 HALL.o.2.2.2.2 g1 g2 g3);clear g1 g2 g3;go_wp2_with fail
     go_roundw
     case rel=>exact⟨k+1,by omega,by go_num,HN⟩
     case measure=>simp only[intOf];omega
    ·obtain⟨i,rfl⟩:∃i:Nat,x=(i:Int):=⟨x.toNat,by omega⟩;clear hwide;go_wp2_with fail;refine(c5d HM.o HEN.o HSM.o.2 HSM.o.1 i).mono ?_;rintro e w3 ⟨q,rfl,s',g1,g2,g3⟩;have HN:=qh (mu.next HEN.o HALL.o.1 HALL.o.2.1 HALL.o.2.2.1 HALL.o.2.2.2.1 HALL.o.2.2.2.2 g1 g2 g3);clear g1 g2 g3;go_wp2_with fail
     go_roundw
     case rel=>exact⟨k+1,by omega,by go_num,HN⟩
     case measure=>simp only[intOf];omega
   ·have hk':k=xs.length:=by omega
    subst hk';obtain⟨hb,s,hr,hc,hI,hm⟩:=hR0.o;obtain⟨tag,ows,nm,fm,evv,evs,hS,-,-⟩:=hm
    have htell:=qh (c7z wr X _ _ _ _ evv s.evs evs hS.x hS.el (by have h:=j5 hS.ev;rw[hS.el] at h;exact h) (fun j x e h1 h2=>by
     have h:=hS.evat j x e h1 h2;exact⟨⟨h.task,h.kd,h.tp,h.frm,h.at_,h.to_,h.code,h.gen,h.few⟩,h.set,h.words.1,h.gens.1,h.awords.1⟩) (by have:=hc.ev;have:xs.length≤500:=HFEW.o;omega))
    rw[List.take_length] at hr;have HALL:=qh (And.intro hb (And.intro hr (And.intro hc hI)));clear hb hr hc hI hS hR0;go_wp2_with fail;refine htell.o.mono ?_;intro e w3 htp;cases htp with
    | mk v3 L hb3 hl3 ho3 he3=>
     have HT:=qh (And.intro hb3 (And.intro hl3 (And.intro ho3 he3)));have hv3:=b3n ho3;clear hb3 hl3 ho3 he3;go_wp2_with fail
     go_ret2
     have hb9:=HALL.o.1;have hb3:=HT.o.1;exact .yes s v3 L ((bt HB.o hb9).trans (hb3.mono (bt HB.o hb9).size)) HOK.o.1 HOK.o.2 HALL.o.2.1 HALL.o.2.2.2 HALL.o.2.2.1 HT.o.2.1 (kj HT.o.2.2.1 (bt HB.o hb9).size) HT.o.2.2.2
structure xc(W:World)(c:bu)(p:PC):Prop where
 kd:c.kd=p.kind
 tp:c.tp=p.topic
 sb:c.sb=p.sub
 cp:c.cp=p.cap
 rk:c.rk=p.rank
 sr:c.sr=p.src
 mo:c.mo=p.mode
 fl:c.fl=p.flags
 fb:c.fb=p.free
 set:Has W 1 c.set p.set.length (p.set.map (Value.int .i64))
 words:∃wl:List Nat,wl.length=p.nw∧Has W 1 c.words wl.length (bj wl).toList
def SlR{α:Type}(enc:α→List Value)(sz:Nat)(W:World)(v:Value)(l:List α):Prop:=gy enc sz W v l∨(l=[]∧∃a c,v=.slice (some a) 0 c)
section
variable{α:Type}{enc:α→List Value}{sz:Nat}{W W':World}{v:Value}{l:List α}
theorem SlR.some(h:SlR enc sz W v l)(hl:1≤l.length):∃b off c,v=.slice (some ⟨b,off,none⟩) l.length c∧At enc sz W b off l:=by
 rcases h with h|⟨rfl,_⟩
 ·exact gy.some h hl
 ·simp at hl
theorem SlR.len(h:SlR enc sz W v l):∃a c,v=.slice a l.length c:=by
 rcases h with h|⟨rfl,a,c,rfl⟩
 ·exact gy.len h
 ·exact⟨_,_,rfl⟩
theorem SlR.bel(h:SlR enc sz W v l)(hb:Below W.heap.size W W'):SlR enc sz W' v l:=h.imp (fun h=>gy.bel h hb) id
theorem SlR.has(h:SlR enc sz W v l)(he:∀x,(enc x).length=sz)(h0:0<sz):Has W sz v l.length (l.flatMap enc):=by
 rcases h with h|⟨rfl,a,c,rfl⟩
 ·exact gy.has h he h0
 ·exact⟨by simp,Or.inr ⟨a,c,rfl,fun j u h=>by cases h⟩⟩
end
structure rj(W:World)(a:Option Addr)(c:Nat)(l:List cj)(pa:Option Addr)(pc:Nat)(ps:List (List PC))(ka:Option Addr)(kc:Nat)(xs:List Int):Prop where
 tops:gy cj.cells 3 W (.slice a l.length c) l
 names:∀x∈l,x.nm.size≤maxLen
 progs:∃vs:List Value,vs.length=ps.length∧gy encV 1 W (.slice pa ps.length pc) vs∧∀(j:Nat)(v:Value)(p:List PC),vs[j]?=some v→ps[j]?=some p→∃cl:List bu,cl.length=p.length∧SlR bu.enc 11 W v cl∧∀(n:Nat)(c:bu)(pc:PC),cl[n]?=some c→p[n]?=some pc→xc W c pc
 picks:gy gj 1 W (.slice ka xs.length kc) xs
 wide:∀x∈xs,-9223372036854775808≤x∧x≤9223372036854775807
structure c7p(l:List cj)(ps:List (List PC))(xs:List Int):Prop where
 f1:l.length≤70
 f2:ps.length≤8
 f3:xs.length≤500
 each:∀p∈ps,p.length≤100∧∀pc∈p,pc.set.length≤100∧pc.nw≤100
theorem rj.script{W:World}{a:Option Addr}{c:Nat}{l:List cj}{pa:Option Addr}{pc:Nat}{ps:List (List PC)}{ka:Option Addr}{kc:Nat}{xs:List Int}(h:rj W a c l pa pc ps ka kc xs)(hf:c7p l ps xs):m9 W a c l pa pc ps ka kc xs:=by
 have h1:=hf.f1;obtain⟨vs,v1,v2,v3⟩:=h.progs;refine⟨h.tops,h.names,by omega,⟨vs,v1,v2,fun j v p g1 g2=>?_⟩,fun p hp=>(hf.each p hp).1,h.picks,hf.f3,h.wide⟩;obtain⟨cl,c1,c2,c3⟩:=v3 j v p g1 g2;refine⟨cl,c1,by rw[←c1];exact c2.has bu.enc_len (by decide),fun n c pc g3 g4=>?_⟩;have r:=c3 n c pc g3 g4;exact⟨r.kd,r.tp,r.sb,r.cp,r.rk,r.sr,r.mo,r.fl,r.fb,r.set,r.words,(hf.each p (dh g2)).2 pc (dh g4)⟩
inductive b1y(w:World)(l:List cj)(ps:List (List PC))(xs:List Int):Ending→World→Prop
 | no {w':World} (hb:Below w.heap.size w w'):b1y w l ps xs (.returned (.bool false)) w'
 | yes {w':World} (hb:Below w.heap.size w w') (hf:c7p l ps xs):b1y w l ps xs (.returned (.bool true)) w'
structure c7q(w1 W:World)(ps:List (List PC))(k:Nat):Prop where
 w:w1=W
 each:∀(j:Nat)(p:List PC),j<k→ps[j]?=some p→p.length≤100∧∀pc∈p,pc.set.length≤100∧pc.nw≤100
structure c7r(w1 W:World)(p:List PC)(k:Nat):Prop where
 w:w1=W
 each:∀(j:Nat)(pc:PC),j<k→p[j]?=some pc→pc.set.length≤100∧pc.nw≤100
theorem c3v{W:World}{sz n:Nat}{v:Value}{cs:List Value}(h:Has W sz v n cs):∃a c,v=.slice a n c:=by
 rcases h.shape with ⟨rfl,rfl⟩|⟨a,c,rfl,_⟩
 ·exact⟨none,0,rfl⟩
 ·exact⟨_,_,rfl⟩
theorem few9(w:World)(T tr lg:Int)(a:Option Addr)(c:Nat)(l:List cj)(pa:Option Addr)(pc:Nat)(ps:List (List PC))(ka:Option Addr)(kc:Nat)(xs:List Int)(hs:rj w a c l pa pc ps ka kc xs):Calls Tryz.prog 9 #[.agg #[ci T,.slice a l.length c,ci tr,ci lg,.slice pa ps.length pc,.slice ka xs.length kc]] w (b1y w l ps xs):=by
 have HP:=qh (Row.new w 28 #[ci T,.slice a l.length c,ci tr,ci lg,.slice pa ps.length pc,.slice ka xs.length kc]);have HB:=qh (af (brf w) (.cells #[ci T,.slice a l.length c,ci tr,ci lg,.slice pa ps.length pc,.slice ka xs.length kc] 28));have HS:=qh hs;have c1:=HP.k 1;have c4:=HP.k 4;have c5:=HP.k 5;clear hs;by_cases h1:(70:Int)<l.length
 ·go_enter Tryz.func9,Tryz.ntmps9
  go_wp2_with fail;go_ret;exact .no HB.o
 by_cases h2:(8:Int)<ps.length
 ·go_enter Tryz.func9,Tryz.ntmps9
  go_wp2_with fail;go_ret;exact .no HB.o
 by_cases h3:(500:Int)<xs.length
 ·go_enter Tryz.func9,Tryz.ntmps9
  go_wp2_with fail;go_ret;exact .no HB.o
 go_enter Tryz.func9,Tryz.ntmps9
 go_wp2_with fail;generalize w.alloc (.cells #[ci T,.slice a l.length c,ci tr,ci lg,.slice pa ps.length pc,.slice ka xs.length kc] 28)=w1 at *;have h00:Hd (c7q w1 w1 ps 0):=qh ⟨rfl,fun j p h=>by omega⟩;clear c1 c5;have hps8:ps.length≤8:=by omega
 have HN:=qh (And.intro h1 (And.intro h2 h3));clear h1 h2 h3
 go_loopw [3,4] (fun iv _ W=>∃k:Nat,k≤ps.length∧iv=ci k∧Hd (c7q w1 W ps k)) (fun iv _ _=>ps.length-(intOf iv).toNat)
 case atStart=>exact⟨0,by omega,rfl,h00⟩
 case round=>
  obtain⟨k,hkl,rfl,hR0⟩:=hrel;obtain⟨hw,heach⟩:=hR0.o;subst hw;have HE:=qh heach;clear hR0 heach h00;by_cases hk:k<ps.length
  ·have i1:(k:Int)<ps.length:=by omega
   obtain⟨vs,v1,v2,v3⟩:=HS.o.progs;have hvk0:k<vs.length:=by omega
   have hvk:vs[k]?=some vs[k]:=cz hvk0;have hpk:ps[k]?=some ps[k]:=cz hk;generalize vs[k]=vk at hvk;generalize ps[k]=p at hpk;obtain⟨cl,c6,c7,c8⟩:=v3 k vk p hvk hpk;obtain⟨pb,po,pcp,epv,hpat⟩:=v2.some (by omega);have epa:pa=some ⟨pb,po,none⟩:=by simp only[Value.slice.injEq] at epv;exact epv.1
   subst epa
   have pcell:w1.cell? (ae pb (po+k))=some vk:=by
    have h:=hpat.cell k 0 vk _ hvk rfl;rw[Nat.mul_one,Nat.add_zero] at h;exact ak h HB.o
   obtain⟨ca,cc,rfl⟩:=c7.len;rw[c6] at c7 pcell hvk;have HCL:=qh (And.intro c6 (And.intro c7 c8));have HPK:=qh hpk;clear v1 v2 v3 hvk0 hvk hpk c6 c7 c8 hpat epv;by_cases hp:(100:Int)<p.length
   ·go_wp2_with fail;go_ret;exact .no HB.o
   ·go_wp2_with fail;have h01:Hd (c7r w1 w1 p 0):=qh ⟨rfl,fun j p h=>by omega⟩
    go_loopw [4] (fun jv W=>∃n:Nat,n≤p.length∧jv=ci n∧Hd (c7r w1 W p n)) (fun jv _=>p.length-(intOf jv).toNat)
    case atStart=>exact⟨0,by omega,rfl,h01⟩
    case round=>
     obtain⟨n,hnl,rfl,hR1⟩:=hrel;obtain⟨hw,hin⟩:=hR1.o;subst hw;have HI:=qh hin;clear hR1 hin h01;by_cases hn:n<p.length
     ·have i2:(n:Int)<p.length:=by omega
      obtain⟨c6,c7,c8⟩:=HCL.o;have hcn0:n<cl.length:=by omega
      have hcn:cl[n]?=some cl[n]:=cz hcn0;have hpn:p[n]?=some p[n]:=cz hn;generalize cl[n]=cn at hcn;generalize p[n]=pn at hpn;have hr:=c8 n cn pn hcn hpn;obtain⟨wl,w2,w3⟩:=hr.words;obtain⟨s1,s2,es⟩:=c3v hr.set;obtain⟨t1,t2,et⟩:=c3v w3;obtain⟨cb,co,ccp,ecv,hcat⟩:=c7.some (by omega);have eca:ca=some ⟨cb,co,none⟩:=by simp only[Value.slice.injEq] at ecv;exact ecv.1
      subst eca
      have d1:w1.cell? (ae cb (co+n*11+9))=some (.slice s1 pn.set.length s2):=by
       rw[←es];exact ak (hcat.cell n 9 cn _ hcn rfl) HB.o
      have d2:w1.cell? (ae cb (co+n*11+10))=some (.slice t1 pn.nw t2):=by
       rw[←w2,←et];exact ak (hcat.cell n 10 cn _ hcn rfl) HB.o
      have HPN:=qh hpn;clear c6 c7 c8 hcn0 hcn hpn hr w2 w3 es et ecv hcat;by_cases g1:(100:Int)<pn.set.length
      ·go_wp2_with fail;go_ret;exact .no HB.o
      ·by_cases g2:(100:Int)<pn.nw
       ·go_wp2_with fail;go_ret;exact .no HB.o
       ·go_wp2_with fail
        go_roundw
        case rel=>
         refine⟨n+1,by omega,by go_num,qh ⟨rfl,fun j q hj hq=>?_⟩⟩;by_cases hjn:j=n
         ·subst hjn;rw[HPN.o] at hq;cases hq;omega
         ·exact HI.o j q (by omega) hq
        case measure=>simp only[intOf];omega
     ·have hn':n=p.length:=by omega
      subst hn';go_wp2_with fail
      go_roundw
      case rel=>
       refine⟨k+1,by omega,by go_num,qh ⟨rfl,fun j q hj hq=>?_⟩⟩;by_cases hjk:j=k
       ·subst hjk;rw[HPK.o] at hq;cases hq;refine⟨by omega,fun pc hpc=>?_⟩;obtain⟨m,hm⟩:=mig.1 hpc;exact HI.o m pc (bk.1 hm).1 hm
       ·exact HE.o j q (by omega) hq
      case measure=>simp only[intOf];omega
  ·have hk':k=ps.length:=by omega
   subst hk';go_wp2_with fail;go_ret;obtain⟨h1,h2,h3⟩:=HN.o;refine .yes HB.o ⟨by omega,by omega,by omega,fun p hp=>?_⟩;obtain⟨j,hj⟩:=mig.1 hp;exact HE.o j p (bk.1 hj).1 hj
end Go.Proofs.YtojkaibpfdhmaaaGreatDoor

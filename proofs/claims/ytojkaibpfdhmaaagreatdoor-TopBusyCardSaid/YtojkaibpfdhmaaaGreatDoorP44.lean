/- A task is dropped: Sched.over, Sched.Drop. -/
import Derived.Test.YtojkaibpfdhmaaaGreatDoorP16
import Derived.Test.YtojkaibpfdhmaaaGreatDoorP39
namespace Go.Proofs.YtojkaibpfdhmaaaGreatDoor
open Go.RowKit
set_option maxRecDepth 100000
set_option maxHeartbeats 16000000
theorem c9o(w:World)(n:Nat)(h1:1≤n)(h2:n≤1048576):Calls Tryz.prog 26 #[ci n] w fun e w'=>e=.returned (.tuple #[pt (w.heap.size+1),ci 0])∧Below w.heap.size w w'∧bv w' (w.heap.size+1) w.heap.size (List.replicate n 0):=by
 have t1:¬ (n:Int)<1:=by omega
 have t2:¬ (1048576:Int)<n:=by omega
 have hmk:=fun W=>j9 W n (by omega);have z1:(w.alloc (.cells (bj (List.replicate n 0)) 41)).heap.size=w.heap.size+1:=by simp
 have r0:=(Row.new w 41 (bj (List.replicate n 0))).alloc (.cells #[zl w.heap.size n n,ci 0] 119);have r1:=Row.new (w.alloc (.cells (bj (List.replicate n 0)) 41)) 119 #[zl w.heap.size n n,ci 0];rw[z1] at r1;have hb:=af (af (brf w) (.cells (bj (List.replicate n 0)) 41)) (.cells #[zl w.heap.size n n,ci 0] 119);have HB:=qh hb;have H0:=qh r0;have H1:=qh r1;clear r0 r1 hb
 go_enter Tryz.func26,Tryz.ntmps26
 go_wp2_with fail
 go_ret2
 exact⟨rfl,HB.o,⟨0,by simpa using H1.o⟩,H0.o,by omega⟩
theorem gy.has{α:Type}{enc:α→List Value}{sz:Nat}{W:World}{v:Value}{l:List α}(h:gy enc sz W v l)(he:∀x,(enc x).length=sz)(h0:0<sz):Has W sz v l.length (l.flatMap enc):=by
 refine⟨ik he l,?_⟩;rcases h with ⟨h1,h2⟩|⟨b,off,c,h1,_,h2⟩
 ·exact Or.inl ⟨h1,by rw[h2];rfl⟩
 ·refine Or.inr ⟨_,_,h1,fun j u hj=>?_⟩;have hjl:=(bk.1 hj).1;rw[ik he] at hjl;have hq:j / sz<l.length:=Nat.div_lt_of_lt_mul (by rw[Nat.mul_comm];exact hjl);have hx:=cz hq;have hm:j%sz<sz:=Nat.mod_lt _ h0;have hd:j / sz*sz+j%sz=j:=by rw[Nat.mul_comm];exact Nat.div_add_mod j sz
  have h3:=mf he l (j / sz) (j%sz) _ hx hm;rw[hd,hj] at h3;have h4:=h2.cell _ _ _ _ hx h3.symm;rw[show off+j / sz*sz+j%sz=off+j by omega] at h4;rw[show (⟨b,off,none⟩:Addr).add j=⟨b,off+j,none⟩ by simp[Addr.add]];exact h4
def fu(T:Int)(l:List cj)(tr lg:Int):Env:=⟨T.toNat,dy l (1+lg.toNat),tr.toNat,lg.toNat,ey l (1+lg.toNat)⟩
theorem b3m{T tr lg:Int}{l:List cj}(h:ml.Ok ⟨T,l,tr,lg⟩):(fu T l tr lg).Ok:=by
 obtain⟨h1,h2,h3,h4,h5⟩:=h;simp only[inB,decide_eq_true_eq] at h1 h2 h3 h4;obtain⟨g1,g2⟩:=c2x l (1+lg.toNat) (by omega) (by omega) h5;refine⟨?_,?_,?_,?_,?_,?_,?_,?_,g2,xw l _,g1⟩<;>simp only[fu,rt]<;>omega
structure b7p(E:Env)(n0:Nat)(W:World)(V:Nat)(v:dg)(A:Nat)(ms:List Nat):Prop where
 veh:jw E W V v A (List.replicate E.size 0) (ms.map fun m=>⟨m,zn,none⟩)
 up:n0≤V∧n0≤v.B∧n0≤A∧n0≤v.G∧n0≤v.Y
 nd:ms.Nodup
 len:ms.length=E.tasks
 maps:∀m∈ms,n0≤m∧a8 Tryz.prog 3 W m 0 (fun _=>none)
structure b7q(w W:World)(V:Nat)(cs:Value→Array Value)(k:Nat):Prop where
 s:ab [V] w W
 ex:∃(tv:Value)(ms:List Nat),Row W V 92 (cs tv)∧ms.length=k∧ms.Nodup∧(∀m∈ms,w.heap.size≤m∧a8 Tryz.prog 3 W m 0 (fun _=>none))∧W.ownsRow w.heap.size 97 3 tv k ((ms.map fun m=>(⟨m,zn,none⟩:Own)).flatMap Own.enc)
theorem b3n{W:World}{base Et sz n:Nat}{vv:Value}{cs:List Value}(h:W.ownsRow base Et sz vv n cs):vv.oneCell'=true:=by
 obtain⟨a,c,rfl⟩:=ax h
 rfl
theorem c9p(w:World)(T tr lg:Int)(a:Option Addr)(c:Nat)(l:List cj)(hl:gy cj.cells 3 w (.slice a l.length c) l)(hs:∀x∈l,x.nm.size≤maxLen)(hlen:l.length≤1000)(hw:jj w)(hf:j7 w):Calls Tryz.prog 15 #[.agg #[ci T,.slice a l.length c,ci tr,ci lg]] w fun e w'=>Below w.heap.size w w'∧((∃er:Int,er≠0∧e=.returned (.tuple #[.pointer none,ci er])∧(⟨T,l,tr,lg⟩:ml)≠kw)∨∃V v A ms,e=.returned (.tuple #[pt V,ci 0])∧ml.Ok ⟨T,l,tr,lg⟩∧b7p (fu T l tr lg) w.heap.size w' V v A ms):=by
 have HX:=qh (Row.new w 24 #[ci T,.slice a l.length c,ci tr,ci lg]);have HB:=qh (af (brf w) (.cells #[ci T,.slice a l.length c,ci tr,ci lg] 24));have HL:=qh (hl.bel HB.o);have HWF:=qh (And.intro hw hf);have lw:=hw.lt;clear hl hw hf
 go_enter Tryz.func15,Tryz.ntmps15
 go_wp2_with fail;generalize w.alloc (.cells #[ci T,.slice a l.length c,ci tr,ci lg] 24)=w1 at *;refine(b7a w1 T tr lg a c l HL.o hs hlen).mono ?_;rintro e w2 ⟨tp,code,rfl,hb2,h0,ha⟩;have HX2:=qh ((HX.o.bel hb2).alloc (.cells #[ci tp,ci code] 79));have HF2:=qh (Row.new w2 79 #[ci tp,ci code]);have HB2:=qh (af (bt HB.o hb2) (.cells #[ci tp,ci code] 79));have HL2:=qh ((HL.o.bel hb2).bel (af (Below.refl _ w2) (.cells #[ci tp,ci code] 79)));have H0:=qh h0;have HA:=qh ha;clear hb2 h0 ha HX HB HL;by_cases hz:code=0
 ·obtain⟨rfl,hok⟩:=H0.o hz;subst hz;have HOK:=qh hok;clear hok H0 HA;obtain⟨y0,y1,y2,y3⟩:=HX2.o.c4;go_wp2_with fail;clear y0 y1 y2 y3;generalize w2.alloc (.cells #[ci 0,ci 0] 79)=w3 at *;clear HF2;refine(of25 w3 T tr lg a c l HL2.o hs hlen).mono ?_;rintro e w4 ⟨cs,er,rfl,hb4,hcase⟩;rcases hcase with ⟨he,rfl,hna⟩|⟨rfl,-,g,gk,rfl,hge,hsp⟩
  ·have hz1:(er==0)=false:=bfn.2 he;have HB4:=qh (af (bt HB2.o hb4) (.cells #[ci 0,ci 0,ci 0,zn,ci 0] 83));have HE:=qh (And.intro he hna);clear hb4 he hna;go_wp2_with fail
   go_ret2
   exact⟨HB4.o,Or.inl ⟨er,HE.o.1,rfl,HE.o.2⟩⟩
  ·obtain⟨N,rfl⟩:∃N:Nat,T=N:=⟨T.toNat,by have:=HOK.o.t;simp only[inB,decide_eq_true_eq] at this;omega⟩;obtain⟨TR,rfl⟩:∃N:Nat,tr=N:=⟨tr.toNat,by have:=HOK.o.tr;simp only[inB,decide_eq_true_eq] at this;omega⟩;obtain⟨L,rfl⟩:∃N:Nat,lg=N:=⟨lg.toNat,by have:=HOK.o.lg;simp only[inB,decide_eq_true_eq] at this;omega⟩;have hN:1≤N∧N≤8:=by have:=HOK.o.t;simp only[inB,decide_eq_true_eq] at this;omega
   have HEN:=qh (b3m HOK.o);have hSZ:1≤ey l (1+L)∧ey l (1+L)≤65729:=⟨nlt (by omega) (b5u l (1+L)),by have:=HEN.o.sz;simpa[fu] using this⟩;simp only[wq.cells,Int.toNat_natCast] at *;generalize hSE:ey l (1+L)=SZ at *;have HSE:=qh hSE;clear hSE;have HX4:=qh ((HX2.o.bel hb4).alloc (.cells #[ci ((0:Nat):Int),ci ((1:Nat):Int),ci (L:Nat),zl g l.length gk,ci (SZ:Nat)] 83));have HP4:=qh (Row.new w4 83 #[ci ((0:Nat):Int),ci ((1:Nat):Int),ci (L:Nat),zl g l.length gk,ci (SZ:Nat)]);have HB4:=qh (af (bt HB2.o hb4) (.cells #[ci ((0:Nat):Int),ci ((1:Nat):Int),ci (L:Nat),zl g l.length gk,ci (SZ:Nat)] 83));have HL4:=qh ((HL2.o.bel hb4).bel (af (Below.refl _ w4) (.cells #[ci ((0:Nat):Int),ci ((1:Nat):Int),ci (L:Nat),zl g l.length gk,ci (SZ:Nat)] 83)));have HS4:=qh (hsp.alloc (.cells #[ci ((0:Nat):Int),ci ((1:Nat):Int),ci (L:Nat),zl g l.length gk,ci (SZ:Nat)] 83))
   have hg:w.heap.size≤g:=nlt HB2.o.size hge;clear hb4 hge hsp HX2 HB2 HL2;have x4:=HP4.k 4;go_wp2_with fail;generalize hw5:w4.alloc (.cells #[ci ((0:Nat):Int),ci ((1:Nat):Int),ci (L:Nat),zl g l.length gk,ci (SZ:Nat)] 83)=w5 at *;generalize w4.heap.size=p at *;clear hw5 x4;refine(c9o w5 SZ (by omega) (by omega)).mono ?_;rintro e w6 ⟨rfl,hb6,hbk⟩;have HX6:=qh (HX4.o.bel hb6);have HP6:=qh (HP4.o.bel hb6);have HB6:=qh (bt HB4.o hb6);have HS6:=qh (HS4.o.bel hb6);have HL6:=qh (HL4.o.bel hb6);have HBK6:=qh hbk;have hB:w.heap.size≤w5.heap.size:=HB4.o.size;clear hb6 hbk HX4 HP4 HB4 HS4 HL4;generalize hBe:w5.heap.size+1=B at *;generalize w5.heap.size=A at *;have c1:=HX6.k 1;go_wp2_with fail;refine(b3j (n:=l.length) (cs:=l.flatMap cj.cells) (HL6.o.has (fun _=>rfl) (by omega)) (fun u hu=>?_) (by omega)).mono ?_
   ·simp only[List.mem_flatMap,List.mem_cons,List.not_mem_nil,or_false] at hu;obtain⟨x,_,h|h|h⟩:=hu<;>subst h<;>rfl
   rintro e w7 ⟨tv,rfl,hb7,htv,-⟩;obtain⟨ta,tc,rfl⟩:=ax htv;have HX7:=qh (((HX6.o.bel hb7).set 1 (.slice ta l.length tc)).to (cs':=#[ci (N:Nat),.slice ta l.length tc,ci (TR:Nat),ci (L:Nat)]) rfl);have hs7:=sj (W:=w7) w.heap.size 1 (.slice ta l.length tc);have ne_p:w.heap.size≠p:=HX6.o.ne HP6.o (by decide);have HP7:=qh ((HP6.o.bel hb7).same hs7 (by simpa using ne_p.symm));have HB7:=qh (bf (bt HB6.o hb7) (nlr _) 1 (.slice ta l.length tc));have HS7:=qh ((HS6.o.bel hb7).same hs7 (by simpa using Row.ne_arr HS6.o HX6.o (by decide)));obtain⟨kb,hkb⟩:=HBK6.o.hd;have HBK7:=qh ((HBK6.o.b0 hb7).same hs7 (by simpa using hkb.ne HX6.o (by decide)) (by simpa using HBK6.o.wd.ne HX6.o (by decide)));have d1:=(HX6.o.bel hb7).k 1;have df:=(HX6.o.bel hb7).free;have e0:=HX7.k 0;obtain⟨y0,y1,y2,y3⟩:=HX7.o.c4;obtain⟨p0,p1,p2,p3,p4⟩:=HP7.o.c5
   have q0:=(HX7.o.alloc (.cells #[ci (N:Nat),.slice ta l.length tc,ci (TR:Nat),ci (L:Nat),ci 0,ci 1,ci (L:Nat),zl g l.length gk,ci (SZ:Nat),pt B,zn] 92)).k 0;clear hb7 htv hs7 hkb HX6 HP6 HB6 HS6 HL6 HBK6 c1;go_wp2_with fail;clear y0 y1 y2 y3 p0 p1 p2 p3 p4 q0 d1 df e0;have zV:(w7.setCell ⟨w.heap.size,1,none⟩ (.slice ta l.length tc)).heap.size=w7.heap.size:=by simp
   have hv8:=Row.new (w7.setCell ⟨w.heap.size,1,none⟩ (.slice ta l.length tc)) 92 #[ci (N:Nat),.slice ta l.length tc,ci (TR:Nat),ci (L:Nat),ci 0,ci 1,ci (L:Nat),zl g l.length gk,ci (SZ:Nat),pt B,zn];rw[zV] at hv8;have HV8:=qh hv8;have HB8:=qh (af HB7.o (.cells #[ci (N:Nat),.slice ta l.length tc,ci (TR:Nat),ci (L:Nat),ci 0,ci 1,ci (L:Nat),zl g l.length gk,ci (SZ:Nat),pt B,zn] 92));have HS8:=qh (HS7.o.alloc (.cells #[ci (N:Nat),.slice ta l.length tc,ci (TR:Nat),ci (L:Nat),ci 0,ci 1,ci (L:Nat),zl g l.length gk,ci (SZ:Nat),pt B,zn] 92));have HBK8:=qh (HBK7.o.same (ab.alloc (M:=[]) (w7.setCell ⟨w.heap.size,1,none⟩ (.slice ta l.length tc)) (.cells #[ci (N:Nat),.slice ta l.length tc,ci (TR:Nat),ci (L:Nat),ci 0,ci 1,ci (L:Nat),zl g l.length gk,ci (SZ:Nat),pt B,zn] 92)) (by simp) (by simp));have hV:w.heap.size≤w7.heap.size:=by rw[←zV];exact HB7.o.size
   clear hv8 HX7 HP7 HB7 HS7 HBK7 ne_p;generalize (w7.setCell ⟨w.heap.size,1,none⟩ (.slice ta l.length tc)).alloc (.cells #[ci (N:Nat),.slice ta l.length tc,ci (TR:Nat),ci (L:Nat),ci 0,ci 1,ci (L:Nat),zl g l.length gk,ci (SZ:Nat),pt B,zn] 92)=w8 at *;clear zV;generalize w7.heap.size=V at *;have hV8:V<w8.heap.size:=HV8.o.lt;have h00:Hd (b7q w8 w8 V (fun tv=>#[ci (N:Nat),.slice ta l.length tc,ci (TR:Nat),ci (L:Nat),ci 0,ci 1,ci (L:Nat),zl g l.length gk,ci (SZ:Nat),pt B,tv]) 0):=qh ⟨ab.refl _ _,zn,[],HV8.o,rfl,List.nodup_nil,(fun m h=>by cases h),rfl,Or.inl ⟨rfl,rfl⟩⟩
   go_loopw [44] (fun iv W=>∃k:Nat,k≤N∧iv=ci k∧Hd (b7q w8 W V (fun tv=>#[ci (N:Nat),.slice ta l.length tc,ci (TR:Nat),ci (L:Nat),ci 0,ci 1,ci (L:Nat),zl g l.length gk,ci (SZ:Nat),pt B,tv]) k)) (fun iv _=>N-(intOf iv).toNat)
   case atStart=>exact⟨0,by omega,rfl,h00⟩
   case round=>
    obtain⟨k,hkl,rfl,hR0⟩:=hrel;obtain⟨hsm,tv,ms,hv,hml,hnd,hmm,how⟩:=hR0.o;clear h00;by_cases hk:k<N
    ·have i1:(k:Int)<N:=by omega
     have HSM:=qh hsm;have HV:=qh ((hv.alloc (.map #[] 0)).alloc (.cells #[.map (some wr.heap.size),zn,.pointer none] 97));have HSL:=qh ((ab.alloc (M:=[]) wr (.map #[] 0)).trans (ab.alloc (M:=[]) (wr.alloc (.map #[] 0)) (.cells #[.map (some wr.heap.size),zn,.pointer none] 97)));have HOW:=qh (ai how HSL.o nm0);have HNEW:=qh ((a8.made wr Tryz.prog 3).alloc (.cells #[.map (some wr.heap.size),zn,.pointer none] 97));have HMM:=qh hmm;have HND:=qh hnd;have HML:=qh hml;have c10:=hv.k 10;have hmk:=@run_makeMap Tryz.prog;have hsz:w8.heap.size≤((wr.alloc (.map #[] 0)).alloc (.cells #[.map (some wr.heap.size),zn,.pointer none] 97)).heap.size:=nlt hsm.size HSL.o.size;have hsz0:w8.heap.size≤wr.heap.size:=hsm.size;have hmo:tv.oneCell'=true:=b3n how;have ltV:=hv.lt;obtain⟨i0,hi0,hz0,hz1,hz2⟩:=info_parts c8u;clear hsm hv hml hnd hmm how hR0
     go_wp2_with (first|(at_builtin;go_loud (refine wpList_append_own_at _ rfl _ _ 90 rfl w8.heap.size 97 i0 _ 3 40 Tryz.underlying90 hi0 hz0 hz1 hz2 rfl (by decide) tv k ((ms.map fun m=>(⟨m,zn,none⟩:Own)).flatMap Own.enc) rfl HOW.o ⟨wr.heap.size+1,0,none⟩ 1 1 (#[.map (some wr.heap.size),zn,.pointer none]).toList rfl rfl (jo (by simp)) (by intro u hu;simp at hu;rcases hu with rfl|rfl|rfl<;>rfl) (by unfold maxLen;omega) (by omega) hsz ?_;intro v11 w11 hown11 hgrow11 _ hor11;obtain⟨g11,c11,rfl⟩:=gl hown11;have hs11:=ab.grown' hgrow11;have HO11:=qh hown11;have HV11:=qh (HV.o.same hs11 (ck HOW.o HV.o (by decide)));have HS11:=qh hs11;have ep2:=HV11.o.free;have ep3:=HV11.k 10;clear hs11 hown11 hgrow11 hor11)))
     have HS12:=qh (((HSL.o.trans HS11.o).mono (M':=V::tv.ownBlock.toList) (fun y hy _=>by simp at hy ⊢;exact Or.inr hy)).sc V 10 (zl g11 (k+1) c11));have hVt:V∉tv.ownBlock.toList:=ck HOW.o HV.o (by decide)
     have hnb:∀(m n:Nat)(f:Lit→Option Value)(W:World),a8 Tryz.prog 3 W m n f→W=(wr.alloc (.map #[] 0)).alloc (.cells #[.map (some wr.heap.size),zn,.pointer none] 97)→m∉V::tv.ownBlock.toList:=fun m n f W hm e=>by
      subst e;simp only[List.mem_cons,not_or];exact⟨(hm.ne HV.o).symm,fun h=>lu HOW.o hm (by simpa using h)⟩
     have HS13:=qh ((HS11.o.mono (M':=V::tv.ownBlock.toList) (fun y hy _=>by simp at hy ⊢;exact Or.inr hy)).sc V 10 (zl g11 (k+1) c11));have hge:=fw HOW.o
     go_roundw
     case rel=>
      refine⟨k+1,by omega,by go_num,qh ⟨(HSM.o.trans HS12.o).mono fun y hy hy2=>?_,zl g11 (k+1) c11,ms++[wr.heap.size],(HV11.o.set 10 (zl g11 (k+1) c11)).to rfl,by rw[List.length_append,HML.o];rfl,?_,fun m hm=>?_,?_⟩⟩
      ·simp only[List.mem_append,List.mem_cons,List.not_mem_nil,or_false] at hy ⊢;rcases hy with hy|hy|hy
       ·exact hy
       ·exact hy
       ·have:=hge y (by simpa using hy);omega
      ·rw[List.nodup_append];refine⟨HND.o,by simp,fun x hx y hy e=>?_⟩;have h1:=(HMM.o x hx).2.lt;simp only[List.mem_singleton] at hy;omega
      ·rcases List.mem_append.1 hm with h|h
       ·obtain⟨h1,h2⟩:=HMM.o m h;have h3:=h2.same HSL.o (by simp);exact⟨h1,h3.same HS13.o (hnb _ _ _ _ h3 rfl)⟩
       ·simp only[List.mem_singleton] at h;subst h;exact⟨hsz0,HNEW.o.same HS13.o (hnb _ _ _ _ HNEW.o rfl)⟩
      ·rw[List.map_append,List.flatMap_append];exact ru HO11.o (fun b hb e=>a6 HO11.o HV11.o (by decide) b hb e) _
     case measure=>simp only[intOf];omega
    ·have hk':k=N:=by omega
     subst hk';obtain⟨Y,yk,rfl⟩:=ng how hN.1;have HSM:=qh hsm;have HV:=qh hv;have HOW:=qh how;have HMM:=qh hmm;have HND:=qh hnd;have HML:=qh hml;have ltV:=hv.lt;clear hsm hv how hmm hnd hml hR0;go_wp2_with fail
     go_ret2
     obtain⟨Y',c',e1,hY,-,hA⟩:=Arr.of_own HOW.o (by rw[List.length_map,HML.o]) hN.1;cases e1;have hb9:Below w.heap.size w wr:=HB8.o.trans (HSM.o.below HB8.o.size (by simpa using hV));obtain⟨kb,hkb⟩:=HBK8.o.hd;refine⟨hb9,Or.inr ⟨V,⟨k,TR,L,.slice ta l.length tc,g,l.length,gk,SZ,B,Y,yk⟩,A,ms,rfl,HOK.o,⟨HV.o,?_,HS8.o.same HSM.o (by simpa using Row.ne_arr HS8.o HV8.o (by decide)),hA,HWF.o.1.bel hb9,HWF.o.2.bel hb9,?_,rfl,rfl,rfl,?_,?_,?_⟩,?_,HND.o,HML.o,fun m hm=>⟨nlt (nlt hV (Nat.le_of_lt hV8)) (HMM.o m hm).1,(HMM.o m hm).2⟩⟩⟩
     ·simp only[fu,Int.toNat_natCast,HSE.o];exact HBK8.o.same HSM.o (by simpa using hkb.ne HV8.o (by decide)) (by simpa using HBK8.o.wd.ne HV8.o (by decide))
     ·simp only[fu,rt]
     ·simp only[List.length_map,HML.o,fu,Int.toNat_natCast]
     ·simp only[List.length_replicate]
     ·simp only;omega
     ·simp only;omega
 ·have hz1:(code==0)=false:=bfn.2 hz;have HE:=qh (show (⟨T,l,tr,lg⟩:ml)≠kw from fun h=>hz (HA.o h));have c1:=HF2.k 1;clear HX2 HL2 H0 HA;go_wp2_with fail;generalize w2.alloc (.cells #[ci tp,ci code] 79)=w3 at *
  go_quiet (fail)
  go_wp2_with fail
  go_ret2
  exact⟨below_drewN HB2.o _,Or.inl ⟨code,hz,rfl,HE.o⟩⟩
theorem c0z(caps:Array Value)(W:World):Sem.run Tryz.prog (callFunc 17 caps) W=.ok (.enter 17 caps) W:=by
 go_simp
theorem c1a(caps:Array Value)(W:World):Sem.run Tryz.prog (callFunc 42 caps) W=.ok (.enter 42 caps) W:=by
 go_simp
theorem c0y(caps:Array Value)(W:World):Sem.run Tryz.prog (callFunc 30 caps) W=.ok (.enter 30 caps) W:=by
 go_simp
theorem c1b(caps:Array Value)(W:World):Sem.run Tryz.prog (callFunc 20 caps) W=.ok (.enter 20 caps) W:=by
 go_simp
theorem c5e(w:World):Calls Tryz.prog 20 #[] w fun e w'=>e=.returned (.bool false)∧w=w':=by
 go_enter Tryz.func20,Tryz.ntmps20
 go_wp2;go_ret;exact⟨rfl,rfl⟩
theorem c8e(w:World)(bs bi X i:Nat)(P:Ending→World→Prop)(h1:Row w bs 58 #[pt X])(h2:Row w bi 3 #[ci i])(hc:Calls Tryz.prog 18 #[pt X,ci i] w fun e w'=>∃b,e=.returned (.bool b)∧P e w'):Calls Tryz.prog 17 #[pt bs,pt bi] w fun e w'=>∃b,e=.returned (.bool b)∧P e w':=by
 have c1:=h1.k 0;have c2:=h2.k 0;have HC:=qh hc;clear h1 h2 hc
 go_enter Tryz.func17,Tryz.ntmps17
 go_wp2_with fail;refine HC.o.mono ?_;rintro e w_ ⟨b,rfl,hp⟩;have HP:=qh hp;clear hp;go_wp2_with fail;go_ret;exact⟨b,rfl,HP.o⟩
theorem c8f(w:World)(bs bi X i:Nat)(P:Ending→World→Prop)(h1:Row w bs 58 #[pt X])(h2:Row w bi 3 #[ci i])(hc:Calls Tryz.prog 18 #[pt X,ci i] w fun e w'=>∃b,e=.returned (.bool b)∧P e w'):Calls Tryz.prog 42 #[pt bs,pt bi] w fun e w'=>∃b,e=.returned (.bool b)∧P e w':=by
 have c1:=h1.k 0;have c2:=h2.k 0;have HC:=qh hc;clear h1 h2 hc
 go_enter Tryz.func42,Tryz.ntmps42
 go_wp2_with fail;refine HC.o.mono ?_;rintro e w_ ⟨b,rfl,hp⟩;have HP:=qh hp;clear hp;go_wp2_with fail;go_ret;exact⟨b,rfl,HP.o⟩
theorem c8d(w:World)(bs bi X i:Nat)(P:Ending→World→Prop)(h1:Row w bs 58 #[pt X])(h2:Row w bi 3 #[ci i])(hc:Calls Tryz.prog 31 #[pt X,ci i] w fun e w'=>∃b,e=.returned (.bool b)∧P e w'):Calls Tryz.prog 30 #[pt bs,pt bi] w fun e w'=>∃b,e=.returned (.bool b)∧P e w':=by
 have c1:=h1.k 0;have c2:=h2.k 0;have HC:=qh hc;clear h1 h2 hc
 go_enter Tryz.func30,Tryz.ntmps30
 go_wp2_with fail;refine HC.o.mono ?_;rintro e w_ ⟨b,rfl,hp⟩;have HP:=qh hp;clear hp;go_wp2_with fail;go_ret;exact⟨b,rfl,HP.o⟩
theorem b4t(w:World)(X tb tcap n:Nat)(x:Int)(v0 v2 v3 v4:Value)(hx:Row w X 69 #[v0,zl tb n tcap,v2,v3,v4])(h0:0≤x)(hn:(n:Int)≤x):Calls Tryz.prog 13 #[pt X,ci x] w fun e w'=>e=.returned (.bool false)∧w=w':=by
 have c1:=hx.k 1;clear hx;have h1:¬ x<0:=by omega
 go_enter Tryz.func13,Tryz.ntmps13
 go_wp2_with fail;go_ret;exact⟨rfl,rfl⟩
theorem b0w(w:World)(X tb tcap i R fd:Nat)(caps:Array Value)(v0 v2 v3 v4 r0 r1:Value)(tks:List Nat)(P:Ending→World→Prop)(hx:Row w X 69 #[v0,zl tb tks.length tcap,v2,v3,v4])(htb:Arr zo 1 w tb 70 tks)(hti:tks[i]?=some R)(hR:Row w R 73 #[r0,r1,.func (.func fd) #[] caps])(hfa:∀W,Sem.run Tryz.prog (callFunc fd caps) W=.ok (.enter fd caps) W)(hc:Calls Tryz.prog fd caps w fun e w'=>∃b,e=.returned (.bool b)∧P e w'):Calls Tryz.prog 13 #[pt X,ci i] w fun e w'=>∃b,e=.returned (.bool b)∧P e w':=by
 have c1:=hx.k 1;have c2:=ri htb hti;have c3:=hR.k 2;have hil:=(bk.1 hti).1;have i1:¬ (i:Int)<0:=by omega
 have i2:(i:Int)<tks.length:=by omega
 have i3:¬ (tks.length:Int)≤i:=by omega
 have HC:=qh hc;clear hx htb hti hR hc hil
 go_enter Tryz.func13,Tryz.ntmps13
 go_wp2_with fail;refine HC.o.mono ?_;rintro e w_ ⟨b,rfl,hp⟩;have HP:=qh hp;clear hp;go_wp2_with fail;go_ret;exact⟨b,rfl,HP.o⟩
theorem c1d(w:World)(X Mp nm i:Nat)(fm:Lit→Option Value)(v0 v1 v3 v4:Value)(O:Option Addr)(ev:Int)(sa:Option Addr)(sn sc:Nat)(hx:Row w X 69 #[v0,v1,.map (some Mp),v3,v4])(hm:a8 Tryz.prog 3 w Mp nm fm)(hi:i≤100000)(hf:fm (ig (i:Int))=some (.agg #[.pointer O,ci ev,.slice sa sn sc])):Calls Tryz.prog 19 #[pt X,ci i] w fun e w'=>e=.returned (.bool false)∧Below w.heap.size w w':=by
 have hiw:(Lit.int .i64 (i:Int)).wf=true:=ux (by omega) (by omega);have c2:=hx.k 2;have el:=hm.look_ok (t:=66) (Maps.int_keyed Tryz.underlying3) Tryz.underlying66 (z:=(.agg #[.pointer none,ci 0,zn])) rfl (jd (i:Int) hiw);simp only[hf,Option.getD_some,Option.isSome_some] at el;have HB:=qh (af (brf w) (.cells #[.pointer O,ci ev,.slice sa sn sc] 101));clear hx hm
 go_enter Tryz.func19,Tryz.ntmps19
 go_wp2_with fail
 go_quiet (fail)
 go_wp2_with fail;go_ret;exact⟨rfl,below_drewN HB.o _⟩
theorem c1e(w:World)(X Mp nm i tb tcap n R cn nx cc:Nat)(fm:Lit→Option Value)(v0 v3 v4 r2:Value)(ca:Option Addr)(tks:List Nat)(hx:Row w X 69 #[v0,zl tb n tcap,.map (some Mp),v3,v4])(hm:a8 Tryz.prog 3 w Mp nm fm)(hi:i≤100000)(hf:fm (ig (i:Int))=none)(htb:Arr zo 1 w tb 70 tks)(hti:tks[i]?=some R)(hn:n=tks.length)(hR:Row w R 73 #[.slice ca cn cc,ci nx,r2]):Calls Tryz.prog 19 #[pt X,ci i] w fun e w'=>e=.returned (.bool (decide (cn≤nx)))∧Below w.heap.size w w':=by
 have hiw:(Lit.int .i64 (i:Int)).wf=true:=ux (by omega) (by omega);have c2:=hx.k 2;have el:=hm.look_ok (t:=66) (Maps.int_keyed Tryz.underlying3) Tryz.underlying66 (z:=(.agg #[.pointer none,ci 0,zn])) rfl (jd (i:Int) hiw);simp only[hf,Option.getD_none,Option.isSome_none] at el;have HB:=qh (af (brf w) (.cells #[.pointer none,ci 0,zn] 101));have d1:=(hx.alloc (.cells #[.pointer none,ci 0,zn] 101)).k 1;have d2:=ri (htb.alloc (.cells #[.pointer none,ci 0,zn] 101)) hti;have d3:=(hR.alloc (.cells #[.pointer none,ci 0,zn] 101)).k 0;have d4:=(hR.alloc (.cells #[.pointer none,ci 0,zn] 101)).k 1;have hil:=(bk.1 hti).1;have i2:(i:Int)<n:=by omega
 have hii:=qh hil;clear hx hm htb hR
 go_enter Tryz.func19,Tryz.ntmps19
 go_wp2_with fail;generalize w.alloc (.cells #[.pointer none,ci 0,zn] 101)=w1 at *
 go_quiet (fail)
 go_wp2_with fail;go_ret;exact⟨rfl,below_drewN HB.o _⟩
theorem b8f(w:World)(X n:Nat)(x:Int)(tb tcap:Nat)(v0 v2 v3 v4:Value)(hx:Row w X 69 #[v0,zl tb n tcap,v2,v3,v4])(h0:0≤x)(hn:(n:Int)≤x):Calls Tryz.prog 12 #[pt X,ci x] w fun e w'=>e=.returned (.bool false)∧w=w':=by
 have c1:=hx.k 1;clear hx;have h1:¬ x<0:=by omega
 go_enter Tryz.func12,Tryz.ntmps12
 go_wp2_with fail;go_ret;exact⟨rfl,rfl⟩
theorem c1c(w:World)(X Mp nm i tb tcap n R cn nx cc:Nat)(b:Bool)(fm:Lit→Option Value)(v0 v3 v4 r2:Value)(ca:Option Addr)(tks:List Nat)(hx:Row w X 69 #[v0,zl tb n tcap,.map (some Mp),v3,v4])(hm:a8 Tryz.prog 3 w Mp nm fm)(hi:i≤100000)(htb:Arr zo 1 w tb 70 tks)(hti:tks[i]?=some R)(hn:n=tks.length)(hR:Row w R 73 #[.slice ca cn cc,ci nx,r2])(hov:Calls Tryz.prog 19 #[pt X,ci i] w fun e w'=>e=.returned (.bool b)∧Below w.heap.size w w'):Calls Tryz.prog 12 #[pt X,ci i] w fun e w'=>(b=true∧e=.returned (.bool false)∧Below w.heap.size w w')∨(b=false∧e=.returned (.bool true)∧ab [Mp,R] w w'∧a8 Tryz.prog 3 w' Mp nm (il fm (ig (i:Int)) none)∧Row w' R 73 #[.slice ca cn cc,ci cn,.func (.func 20) #[] #[]]):=by
 have hiw:(Lit.int .i64 (i:Int)).wf=true:=ux (by omega) (by omega);have c1:=hx.k 1;have hil:=(bk.1 hti).1;have i1:¬ (i:Int)<0:=by omega
 have i2:(i:Int)<n:=by omega
 have i3:¬ (n:Int)≤i:=by omega
 have HX:=qh hx;have HM:=qh hm;have HTB:=qh htb;have HTI:=qh hti;have HR:=qh hR;have HOV:=qh hov;clear hx hm htb hR hov hil
 go_enter Tryz.func12,Tryz.ntmps12
 go_wp2_with fail;refine HOV.o.mono ?_;rintro e w1 ⟨rfl,hb⟩;have HB:=qh hb;have HX1:=qh (HX.o.bel hb);have HM1:=qh (HM.o.bel hb);have HR1:=qh (HR.o.bel hb);have d1:=HX1.k 1;have d2:=ri (HTB.o.bel hb) HTI.o;have d3:=HX1.k 2;clear hb c1;cases b with
 | true=>
  go_wp2_with fail;go_ret;exact⟨rfl,HB.o⟩
 | false=>
  obtain⟨w2,hrun,hm2,hs2⟩:=HM1.o.drop (t:=66) (Maps.int_keyed Tryz.underlying3) Tryz.underlying66 (jd (i:Int) hiw) 0;have HM2:=qh hm2;have HR2:=qh (HR1.o.same hs2 (by simpa using (HM1.o.ne HR1.o)));have HS2:=qh hs2;have e1:=HR2.k 0;have e2:=HR2.k 1;have e3:=HR2.k 2;have hfz:=HR2.o.free;clear hm2 hs2;go_wp2_with fail;go_ret;have ne:=HM1.o.ne HR1.o;have t:=((HR2.o.set 1 (ci cn)).set 2 (.func (.func 20) #[] #[])).to (cs':=#[.slice ca cn cc,ci cn,.func (.func 20) #[] #[]]) rfl;have st:=(((ab.of_below (M:=[Mp,R]) HB.o).then HS2.o (by simp)).sc R 1 (ci cn)).sc R 2 (.func (.func 20) #[] #[]);exact⟨rfl,st,(HM2.o.same ((sj (W:=w2) R 1 (ci cn)).sc R 2 (.func (.func 20) #[] #[])) (by simpa using ne.symm)),t⟩
end Go.Proofs.YtojkaibpfdhmaaaGreatDoor

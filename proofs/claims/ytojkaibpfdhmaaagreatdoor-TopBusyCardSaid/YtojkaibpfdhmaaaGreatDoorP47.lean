/- The law's own script is played: alive. -/
import Derived.Test.YtojkaibpfdhmaaaGreatDoorP46
import Derived.Test.YtojkaibpfdhmaaaGreatDoorP16
import Derived.Deep.Slices
import Derived.Lib.SmallJoins
import Derived.OpenShut
namespace Go.Proofs.YtojkaibpfdhmaaaGreatDoor
open Go.RowKit
set_option maxRecDepth 100000
set_option maxHeartbeats 16000000
section
open Go.ChangeShapes Go.WideShapes Go.ChangeAt Go.Deep
theorem o8{α β:Type}{r:α→β→Prop}:∀{l:List α},(∀x∈l,∃y,r x y)→∃m:List β,m.length=l.length∧∀(j:Nat)(x:α)(y:β),l[j]?=some x→m[j]?=some y→r x y
 | [],_=>⟨[],rfl,fun j x y h=>by cases h⟩
 | x::l,h=>by
  obtain⟨y,hy⟩:=h x (by simp);obtain⟨m,h1,h2⟩:=o8 fun z hz=>h z (List.mem_cons_of_mem _ hz);refine⟨y::m,by simp[h1],fun j a b ha hb=>?_⟩;cases j with
  | zero=>
   simp only[List.getElem?_cons_zero,Option.some.injEq] at ha hb;subst ha;subst hb;exact hy
  | succ j=>exact h2 j a b (by simpa using ha) (by simpa using hb)
theorem c1v(a:Addr)(i j:Nat):(a.add i).add j=a.add (i+j):=by
 unfold Addr.add;by_cases h1:i=0<;>by_cases h2:j=0<;>simp[h1,h2,Nat.add_assoc]
theorem c5o(b o i:Nat):(⟨b,o,none⟩:Addr).add i=⟨b,o+i,none⟩:=by
 unfold Addr.add
 split
 ·rename_i h
  rw[h]
  rfl
 ·rfl
section
variable{H:Type}{eH:TypeId × Value→H}{w:World}{base:Nat}{spare:Nat→Bool}{held:Bool}{fuel:Nat}{cs:List Value}
theorem o9{α:Type}[Inhabited α]{enc:α→List Value}{sz:Nat}{p:α→Prop}{t e:TypeId}{x:DataW H × List MemPlace}(ht:Tryz.prog.underlying t=some (.slice e))(hc:Tryz.prog.cellsOf e=sz)(he:∀y,(enc y).length=sz)(h0:0<sz)(hd:∀(n:Nat)(cs:List Value)(y:DataW H × List MemPlace),DataW.trod eH Tryz.prog w base spare held n e cs=some y→∃z:α,cs=enc z∧p z)(h:DataW.trod eH Tryz.prog w base spare held fuel t cs=some x):∃(v:Value)(l:List α),cs=[v]∧SlR enc sz w v l∧∀z∈l,p z:=by
 rcases open_slice ht h with ⟨hcs,_⟩|⟨a,n,cap,m,k,D,Pl,hcs,_,hl,_,hm,_,hx⟩
 ·exact⟨_,[],hcs,Or.inl (Or.inl ⟨rfl,rfl⟩),fun z h=>by cases h⟩
 ·rw[hc] at hx;have hnm:n≤m:=by rw[hm];split<;>omega
  have each:∀i,i<n→∃z:α,p z∧∀(j:Nat)(v:Value),(enc z)[j]?=some v→w.cell? (a.add (i*sz+j))=some v:=fun i hi=>by
   obtain⟨cs',h1,h2⟩:=hx i (by omega);obtain⟨z,rfl,hz⟩:=hd _ _ _ h2;obtain⟨_,hlen,hcell⟩:=World.cells?_some h1;refine⟨z,hz,fun j v hj=>?_⟩;have hjl:=(bk.1 hj).1;have h3:=hcell j (by rw[he] at hjl;exact hjl);rw[c1v] at h3;rw[h3];exact hj
  obtain⟨q,hq⟩:=choose_lt each;refine⟨_,(List.range n).map q,hcs,?_,fun z hz=>?_⟩
  ·rcases Nat.eq_zero_or_pos n with hn|hn
   ·subst hn;exact Or.inr ⟨rfl,a,cap,rfl⟩
   ·have hz:(enc (q 0))[0]?=some ((enc (q 0))[0]'(by rw[he];exact h0)):=cz _;have h3:=(hq 0 hn).2 0 _ hz;obtain⟨b,off,spot⟩:=a;have hspot:spot=none:=by simpa[Addr.add] using World.cell?_spot h3
    subst hspot;refine Or.inl (Or.inr ⟨b,off,cap,by simp,by simpa using hl,⟨fun k j z v hk hj=>?_⟩⟩);have hkn:k<n:=by have:=(bk.1 hk).1;simpa using this
    have hzq:z=q k:=by
     rw[List.getElem?_map,List.getElem?_range hkn] at hk;exact(Option.some.inj hk).symm
    subst hzq;have h4:=(hq k hkn).2 j v hj;rw[c5o,←Nat.add_assoc] at h4;exact h4
  ·obtain⟨i,hi,rfl⟩:=List.mem_map.1 hz;exact(hq i (by simpa using hi)).1
theorem b0h:∀l:List Int,l.flatMap gj=l.map (Value.int .i64)
 | []=>rfl
 | x::l=>by rw[List.flatMap_cons,b0h l];rfl
def encU(x:Nat):List Value:=[cu x]
theorem b0i:∀l:List Nat,l.flatMap encU=(bj l).toList
 | []=>rfl
 | x::l=>by rw[List.flatMap_cons,b0i l];simp[bj,encU]
theorem b8q{x:DataW H × List MemPlace}(h:DataW.trod eH Tryz.prog w base spare held fuel 26 cs=some x):∃(v:Value)(l:List Int),cs=[v]∧SlR gj 1 w v l∧∀z∈l,-9223372036854775808≤z∧z≤9223372036854775807:=
 o9 Tryz.underlying26 (by kernel_rfl) pd (by decide) (fun n cs y hy=>by
  obtain⟨z,h1,_,h2⟩:=DataW.trod_int Tryz.underlying3 hy;refine⟨z,h1,?_⟩;simp only[Lit.wf,Bool.and_eq_true,decide_eq_true_eq] at h2;exact h2) h
theorem b8r{x:DataW H × List MemPlace}(h:DataW.trod eH Tryz.prog w base spare held fuel 37 cs=some x):∃(v:Value)(l:List Nat),cs=[v]∧SlR encU 1 w v l:=by
 obtain⟨v,l,h1,h2,_⟩:=o9 (p:=fun _=>True) (enc:=encU) Tryz.underlying37 (by kernel_rfl) (fun _=>rfl) (by decide) (fun n cs y hy=>by
  obtain⟨z,h1,_,h2⟩:=DataW.trod_int Tryz.underlying41 hy;simp only[Lit.wf,Bool.and_eq_true,decide_eq_true_eq] at h2;have h3:0≤z:=h2.1;refine⟨z.toNat,?_,trivial⟩;rw[h1,encU,show ((z.toNat:Nat):Int)=z by omega]) h
 exact⟨v,l,h1,h2⟩
theorem fld{fs:Array Field}{xs:List (DataW H × List MemPlace)}{n:Nat}(hf:∀(i:Nat)(f:Field),fs[i]?=some f→DataW.trod eH Tryz.prog w base spare held n f.type ((cs.drop f.offset).take (Tryz.prog.cellsOf f.type))=xs[i]?)(hl:xs.length=fs.size)(i ty off sz:Nat){f:Field}(h1:fs[i]?=some f)(ht:f.type=ty)(ho:f.offset=off)(hc:Tryz.prog.cellsOf ty=sz):∃y,DataW.trod eH Tryz.prog w base spare held n ty ((cs.drop off).take sz)=some y:=by
 have h:=hf i f h1;rw[ht,ho,hc] at h;have hi:i<xs.length:=by rw[hl];exact(Array.getElem?_eq_some_iff.1 h1).1
 rw[h,cz hi];exact⟨_,rfl⟩
theorem nv{n:Nat}{u:Value}(h:(cs.drop n).take 1=[u]):cs[n]?=some u:=by
 have h2:((cs.drop n).take 1)[0]?=some u:=by rw[h];rfl
 rw[List.getElem?_take_of_lt (by decide),List.getElem?_drop] at h2;exact h2
theorem jp{n i:Nat}{y:DataW H × List MemPlace}(h:DataW.trod eH Tryz.prog w base spare held n 3 ((cs.drop i).take 1)=some y):∃z:Int,cs[i]?=some (ci z):=by
 obtain⟨z,h1,_⟩:=DataW.trod_int Tryz.underlying3 h;exact⟨z,nv h1⟩
theorem b2y{n i:Nat}{y:DataW H × List MemPlace}(h:DataW.trod eH Tryz.prog w base spare held n 26 ((cs.drop i).take 1)=some y):∃(v:Value)(l:List Int),cs[i]?=some v∧SlR gj 1 w v l∧∀z∈l,-9223372036854775808≤z∧z≤9223372036854775807:=by
 obtain⟨v,l,h1,h2⟩:=b8q h;exact⟨v,l,nv h1,h2⟩
theorem c1w{n i:Nat}{y:DataW H × List MemPlace}(h:DataW.trod eH Tryz.prog w base spare held n 37 ((cs.drop i).take 1)=some y):∃(v:Value)(l:List Nat),cs[i]?=some v∧SlR encU 1 w v l:=by
 obtain⟨v,l,h1,h2⟩:=b8r h;exact⟨v,l,nv h1,h2⟩
instance:Inhabited cj:=⟨⟨.empty,0,0⟩⟩
instance:Inhabited bu:=⟨⟨0,0,0,0,0,0,0,0,false,.nilFunc,.nilFunc⟩⟩
theorem d0l{cs:List Value}{a b c:Value}(hl:cs.length=3)(h0:cs[0]?=some a)(h1:cs[1]?=some b)(h2:cs[2]?=some c):cs=[a,b,c]:=by
 match cs,hl with
 | [x0,x1,x2],_=>simp at h0 h1 h2;simp[h0,h1,h2]
theorem c8m{cs:List Value}{v0 v1 v2 v3 v4 v5 v6 v7 v8 v9 v10:Value}(hl:cs.length=11)(h0:cs[0]?=some v0)(h1:cs[1]?=some v1)(h2:cs[2]?=some v2)(h3:cs[3]?=some v3)(h4:cs[4]?=some v4)(h5:cs[5]?=some v5)(h6:cs[6]?=some v6)(h7:cs[7]?=some v7)(h8:cs[8]?=some v8)(h9:cs[9]?=some v9)(h10:cs[10]?=some v10):cs=[v0,v1,v2,v3,v4,v5,v6,v7,v8,v9,v10]:=by
 match cs,hl with
 | [x0,x1,x2,x3,x4,x5,x6,x7,x8,x9,x10],_=>
  simp at h0 h1 h2 h3 h4 h5 h6 h7 h8 h9 h10;simp[h0,h1,h2,h3,h4,h5,h6,h7,h8,h9,h10]
theorem b5f(n:Nat)(cs:List Value)(y:DataW H × List MemPlace)(h:DataW.trod eH Tryz.prog w base spare held n 54 cs=some y):∃z:cj,cs=z.cells∧z.nm.size≤maxLen:=by
 obtain⟨xs,m,_,_,hl,hlen,hf⟩:=DataW.trod_struct Tryz.underlying54 h;obtain⟨_,g0⟩:=fld hf hlen 0 9 0 1 rfl rfl rfl (by kernel_rfl);obtain⟨_,g1⟩:=fld hf hlen 1 3 1 1 rfl rfl rfl (by kernel_rfl);obtain⟨_,g2⟩:=fld hf hlen 2 3 2 1 rfl rfl rfl (by kernel_rfl);obtain⟨s,k0,_,hs⟩:=DataW.trod_string Tryz.underlying9 g0;obtain⟨z1,k1⟩:=jp g1;obtain⟨z2,k2⟩:=jp g2;exact⟨⟨s,z1,z2⟩,d0l (hl.trans (by kernel_rfl)) (nv k0) k1 k2,hs⟩
theorem b8s(n:Nat)(cs:List Value)(y:DataW H × List MemPlace)(h:DataW.trod eH Tryz.prog w base spare held n 39 cs=some y):∃z:bu,cs=z.enc∧∃pc,xc w z pc:=by
 obtain⟨xs,m,_,_,hl,hlen,hf⟩:=DataW.trod_struct Tryz.underlying39 h;obtain⟨_,g0⟩:=fld hf hlen 0 3 0 1 rfl rfl rfl (by kernel_rfl);obtain⟨_,g1⟩:=fld hf hlen 1 3 1 1 rfl rfl rfl (by kernel_rfl);obtain⟨_,g2⟩:=fld hf hlen 2 3 2 1 rfl rfl rfl (by kernel_rfl);obtain⟨_,g3⟩:=fld hf hlen 3 3 3 1 rfl rfl rfl (by kernel_rfl);obtain⟨_,g4⟩:=fld hf hlen 4 3 4 1 rfl rfl rfl (by kernel_rfl);obtain⟨_,g5⟩:=fld hf hlen 5 3 5 1 rfl rfl rfl (by kernel_rfl);obtain⟨_,g6⟩:=fld hf hlen 6 3 6 1 rfl rfl rfl (by kernel_rfl);obtain⟨_,g7⟩:=fld hf hlen 7 3 7 1 rfl rfl rfl (by kernel_rfl);obtain⟨_,g8⟩:=fld hf hlen 8 4 8 1 rfl rfl rfl (by kernel_rfl);obtain⟨_,g9⟩:=fld hf hlen 9 26 9 1 rfl rfl rfl (by kernel_rfl);obtain⟨_,g10⟩:=fld hf hlen 10 37 10 1 rfl rfl rfl (by kernel_rfl);obtain⟨z0,k0⟩:=jp g0;obtain⟨z1,k1⟩:=jp g1;obtain⟨z2,k2⟩:=jp g2;obtain⟨z3,k3⟩:=jp g3
 obtain⟨z4,k4⟩:=jp g4;obtain⟨z5,k5⟩:=jp g5;obtain⟨z6,k6⟩:=jp g6;obtain⟨z7,k7⟩:=jp g7;obtain⟨fb,k8,_⟩:=DataW.trod_bool Tryz.underlying4 g8;obtain⟨sv,sl,k9,hs,_⟩:=b2y g9;obtain⟨wv,wl,k10,hw⟩:=c1w g10;refine⟨⟨z0,z1,z2,z3,z4,z5,z6,z7,fb,sv,wv⟩,c8m (hl.trans (by kernel_rfl)) k0 k1 k2 k3 k4 k5 k6 k7 (nv k8) k9 k10,⟨z0,z1,z2,z3,z4,z5,z6,z7,fb,sl,wl.length⟩,rfl,rfl,rfl,rfl,rfl,rfl,rfl,rfl,rfl,?_,wl,rfl,?_⟩
 ·have:=hs.has pd (by decide);rw[b0h] at this;exact this
 ·have:=hw.has (fun _=>rfl) (by decide);rw[b0i] at this;exact this
def d0m(W:World)(v:Value):Prop:=∃cl,SlR bu.enc 11 W v cl∧∀c∈cl,∃pc,xc W c pc
instance:Inhabited Value:=⟨.nilFunc⟩
theorem b8t(n:Nat)(cs:List Value)(y:DataW H × List MemPlace)(h:DataW.trod eH Tryz.prog w base spare held n 55 cs=some y):∃z:Value,cs=encV z∧d0m w z:=by
 obtain⟨v,l,h1,h2,h3⟩:=o9 Tryz.underlying55 (by kernel_rfl) bu.enc_len (by decide) b8s h;exact⟨v,h1,l,h2,h3⟩
theorem b5g{α:Type}{enc:α→List Value}{sz:Nat}{W:World}{v:Value}{l:List α}(h:SlR enc sz W v l)(hs:∀a n c,v=.slice (some a) n c→a.spot=none):∃a c,v=.slice a l.length c∧gy enc sz W (.slice a l.length c) l:=by
 rcases (h:gy enc sz W v l∨_) with h1|⟨rfl,a,c,rfl⟩
 ·obtain⟨a,c,rfl⟩:=gy.len h1;exact⟨a,c,rfl,h1⟩
 ·obtain⟨b,o,q⟩:=a;have hq:q=none:=hs _ _ _ rfl;subst hq;exact⟨_,_,rfl,Or.inr ⟨b,o,c,rfl,Nat.zero_le _,⟨fun k j x v h2=>by simp at h2⟩⟩⟩
theorem tz{r:Reach}{b0:Nat}{ce:Array Value}(h:Row.okWide Tryz.prog w r b0 28 ce){i u e:Nat}(hi:[3,22,3,3,25,26][i]?=some u)(hu:Tryz.prog.underlying u=some (.slice e)){v:Value}(hc:ce[i]?=some v):∀a n c,v=.slice (some a) n c→a.spot=none:=by
 intro a n c hv;subst hv;obtain⟨ts,h1,_,h2⟩:=h;have e1:Tryz.prog.cellTypes Tryz.prog.depth 28=some [3,22,3,3,25,26]:=by kernel_rfl
 rw[e1] at h1;have e2:=Option.some.inj h1;subst e2;obtain⟨u',h3,h4⟩:=h2 i _ hc;have hil:i<6:=by simpa using (bk.1 hi).1
 rw[show i % [3,22,3,3,25,26].length=i from Nat.mod_eq_of_lt hil,hi] at h3;have e3:=Option.some.inj h3;subst e3;unfold Cell.okWide at h4;rw[hu] at h4;unfold Cell.ok at h4;rw[hu] at h4;exact h4.2.2.2.1
theorem b2z{r:Reach}{b0:Nat}{v:Value}{d:DataW H}{p:List MemPlace}(hv:Value.okWide Tryz.prog w r b0 28 v)(h:DataW.Trod eH Tryz.prog w base spare held 28 v d p):∃(T tr lg:Int)(a:Option Addr)(c:Nat)(l:List cj)(pa:Option Addr)(pc:Nat)(ps:List (List PC))(ka:Option Addr)(kc:Nat)(xs:List Int),
   v=.agg #[ci T,.slice a l.length c,ci tr,ci lg,.slice pa ps.length pc,.slice ka xs.length kc]∧rj w a c l pa pc ps ka kc xs:=by
 unfold Value.okWide at hv;rw[Tryz.underlying28] at hv;obtain⟨ce,rfl,hsz,hrow⟩:=hv;have hs6:ce.size=6:=hsz.trans (by kernel_rfl);obtain⟨fuel,h⟩:=h
 change DataW.trod eH Tryz.prog w base spare held fuel 28 ce.toList=_ at h
 obtain⟨xs,m,_,_,hl,hlen,hf⟩:=DataW.trod_struct Tryz.underlying28 h;obtain⟨_,g0⟩:=fld hf hlen 0 24 0 4 rfl rfl rfl (by kernel_rfl);obtain⟨_,g1⟩:=fld hf hlen 1 25 4 1 rfl rfl rfl (by kernel_rfl);obtain⟨_,g2⟩:=fld hf hlen 2 26 5 1 rfl rfl rfl (by kernel_rfl);obtain⟨ys,m',_,_,_,hlen',hf'⟩:=DataW.trod_struct Tryz.underlying24 g0;obtain⟨_,q0⟩:=fld hf' hlen' 0 3 0 1 rfl rfl rfl (by kernel_rfl);obtain⟨_,q1⟩:=fld hf' hlen' 1 22 1 1 rfl rfl rfl (by kernel_rfl);obtain⟨_,q2⟩:=fld hf' hlen' 2 3 2 1 rfl rfl rfl (by kernel_rfl);obtain⟨_,q3⟩:=fld hf' hlen' 3 3 3 1 rfl rfl rfl (by kernel_rfl);obtain⟨T,e0⟩:=jp q0;obtain⟨tv,l,e1',hl1,hnm⟩:=o9 (enc:=cj.cells) (sz:=3) Tryz.underlying22 (by kernel_rfl) (fun _=>rfl) (by decide) b5f q1;have e1:=nv e1';obtain⟨tr,e2⟩:=jp q2;obtain⟨lg,e3⟩:=jp q3
 obtain⟨pv,vs,e4',hl4,hpr⟩:=o9 (enc:=encV) (sz:=1) Tryz.underlying25 (by kernel_rfl) (fun _=>rfl) (by decide) b8t g1;have e4:=nv e4';obtain⟨kv,ks,e5,hl5,hwd⟩:=b2y g2;rw[List.getElem?_take_of_lt (by decide),List.getElem?_drop] at e0 e1 e2 e3;simp only[Nat.zero_add] at e0 e1 e2 e3;obtain⟨a,c,rfl,r1⟩:=b5g hl1 (tz hrow (i:=1) rfl Tryz.underlying22 (by simpa using e1));obtain⟨pa,pc,rfl,r4⟩:=b5g hl4 (tz hrow (i:=4) rfl Tryz.underlying25 (by simpa using e4));obtain⟨ka,kc,rfl,r5⟩:=b5g hl5 (tz hrow (i:=5) rfl Tryz.underlying26 (by simpa using e5))
 obtain⟨ps,hpl,hps⟩:=o8 (r:=fun (v:Value)(p:List PC)=>∃cl:List bu,cl.length=p.length∧SlR bu.enc 11 w v cl∧∀(n:Nat)(c:bu)(pc:PC),cl[n]?=some c→p[n]?=some pc→xc w c pc) (l:=vs) (fun v hv=>by
  obtain⟨cl,c1,c2⟩:=hpr v hv;obtain⟨p,p1,p2⟩:=o8 c2;exact⟨p,cl,p1.symm,c1,p2⟩)
 rw[←hpl] at r4 e4;refine⟨T,tr,lg,a,c,l,pa,pc,ps,ka,kc,ks,?_,r1,hnm,⟨vs,hpl.symm,r4,hps⟩,r5,hwd⟩
 congr 1
 apply Array.ext'
 match hce:ce.toList,(show ce.toList.length=6 from hs6) with
 | [x0,x1,x2,x3,x4,x5],_=>
  rw[hce] at e0 e1 e2 e3 e4 e5;simp at e0 e1 e2 e3 e4 e5;simp[e0,e1,e2,e3,e4,e5]
end
end
theorem xc.bel{W W':World}{c:bu}{p:PC}(h:xc W c p)(hb:Below W.heap.size W W'):xc W' c p:=by
 obtain⟨wl,h1,h2⟩:=h.words;exact⟨h.kd,h.tp,h.sb,h.cp,h.rk,h.sr,h.mo,h.fl,h.fb,h.set.bel hb,⟨wl,h1,h2.bel hb⟩⟩
theorem rj.bel{W W':World}{a:Option Addr}{c:Nat}{l:List cj}{pa:Option Addr}{pc:Nat}{ps:List (List PC)}{ka:Option Addr}{kc:Nat}{xs:List Int}(h:rj W a c l pa pc ps ka kc xs)(hb:Below W.heap.size W W'):rj W' a c l pa pc ps ka kc xs:=by
 obtain⟨vs,h1,h2,h3⟩:=h.progs;refine⟨h.tops.bel hb,h.names,⟨vs,h1,h2.bel hb,fun j v p g1 g2=>?_⟩,h.picks.bel hb,h.wide⟩;obtain⟨cl,c1,c2,c3⟩:=h3 j v p g1 g2;exact⟨cl,c1,c2.bel hb,fun n c pc g3 g4=>(c3 n c pc g3 g4).bel hb⟩
inductive b7g(w:World)(T tr lg:Int)(l:List cj)(ps:List (List PC))(xs:List Int):Ending→World→Prop
 | no {w':World} (v:Value) (hb:Below w.heap.size w w'):b7g w T tr lg l ps xs (.returned (.tuple #[v,.bool false])) w'
 | yes {w':World} (s:Sys) (v:Value) (L:List EvC) (hb:Below w.heap.size w w') (hok:ml.Ok ⟨T,l,tr,lg⟩) (hI:Inv (fu T l tr lg) s none) (hc:Cnt s xs.length) (hx:xs.length≤500)
   (hl:L.length=s.evs.length) (ho:w'.ownsRow w.heap.size 47 27 v s.evs.length (L.flatMap EvC.enc)) (he:∀(j:Nat)(x:EvC)(e:Ev),L[j]?=some x→s.evs[j]?=some e→EvL w' x e):b7g w T tr lg l ps xs (.returned (.tuple #[v,.bool true])) w'
theorem d0n(w:World)(T tr lg:Int)(a:Option Addr)(c:Nat)(l:List cj)(pa:Option Addr)(pc:Nat)(ps:List (List PC))(ka:Option Addr)(kc:Nat)(xs:List Int)(hs:rj w a c l pa pc ps ka kc xs)(hw:jj w)(hf:j7 w):Calls Tryz.prog 4 #[.agg #[ci T,.slice a l.length c,ci tr,ci lg,.slice pa ps.length pc,.slice ka xs.length kc]] w (b7g w T tr lg l ps xs):=by
 have HP:=qh (Row.new w 28 #[ci T,.slice a l.length c,ci tr,ci lg,.slice pa ps.length pc,.slice ka xs.length kc]);have HB:=qh (af (brf w) (.cells #[ci T,.slice a l.length c,ci tr,ci lg,.slice pa ps.length pc,.slice ka xs.length kc] 28));have HS:=qh (hs.bel HB.o);have HWF:=qh (And.intro (hw.bel HB.o) (hf.bel HB.o));have hc:=HP.o.c6;obtain⟨c0,c1,c2,c3,c4,c5⟩:=hc;clear hs hw hf
 go_enter Tryz.func4,Tryz.ntmps4
 go_wp2_with fail;clear c0 c1 c2 c3 c4 c5;generalize w.alloc (.cells #[ci T,.slice a l.length c,ci tr,ci lg,.slice pa ps.length pc,.slice ka xs.length kc] 28)=w1 at *;refine(few9 w1 T tr lg a c l pa pc ps ka kc xs HS.o).mono ?_;intro e w2 hpost;cases hpost with
 | no hb=>
  have HB2:=qh (bt HB.o hb);clear hb;go_wp2_with fail
  go_ret2
  exact .no _ HB2.o
 | yes hb hfew=>
  have HB2:=qh (bt HB.o hb);have HP2:=qh (HP.o.bel hb);have HS2:=qh (And.intro (HS.o.bel hb) hfew);have HWF2:=qh (And.intro (HWF.o.1.bel hb) (HWF.o.2.bel hb));clear hb hfew;obtain⟨c0,c1,c2,c3,c4,c5⟩:=HP2.o.c6;go_wp2_with fail;clear c0 c1 c2 c3 c4 c5;refine(c1x w2 T tr lg a c l pa pc ps ka kc xs (HS2.o.1.script HS2.o.2) HWF2.o.1 HWF2.o.2).mono ?_;intro e w3 hpost;cases hpost with
  | no er hb he hn=>
   have hz1:(er==0)=false:=bfn.2 he;have HB3:=qh (bt HB2.o hb);clear hb he hn;go_wp2_with fail
   go_ret2
   exact .no _ HB3.o
  | yes s v L hb hok hp hr hI hc hl ho he=>
   obtain⟨va,vc,rfl⟩:=ax ho;have HY:=qh (b7g.yes (w:=w) (ps:=ps) (xs:=xs) s _ L (bt HB2.o hb) hok hI hc HS2.o.2.f3 hl (kj ho HB2.o.size) he);clear hb hok hp hr hI hc hl ho he;go_wp2_with fail
   go_ret2
   exact HY.o
theorem ua{α:Type}{enc:α→List Value}{sz b t:Nat}{W:World}{l:List α}{cs:Array Value}{c:Nat}(h:Row W b t cs)(he:∀x,(enc x).length=sz)(hc:cs.toList=l.flatMap enc)(hl:l.length≤c):gy enc sz W (zl b l.length c) l:=by
 refine Or.inr ⟨b,0,c,rfl,hl,⟨fun k j x v hx hv=>?_⟩⟩;have hj:j<sz:=by rw[←he x];exact(bk.1 hv).1
 have h1:=mf he l k j x hx hj;rw[hv,←hc] at h1;have:=h.cell (i:=k*sz+j) (v:=v) (by simpa using h1)
 simpa using this
def xe:List cj:=[⟨⟨#[97]⟩,1,2⟩]
def b1e:List Int:=[0,1,0,0,0,0,1,1]
def b1f(b:Nat):List bu:=[⟨0,0,0,0,0,0,0,0,false,zn,zn⟩,⟨1,0,0,0,0,0,0,0,false,zn,zl b 1 1⟩]
def b1g:List bu:=[⟨2,0,0,0,0,0,0,0,false,zn,zn⟩]
theorem c1y{W:World}{b1 b2 b3 b4 b5 b6:Nat}(h1:Row W b1 54 #[.string ⟨#[97]⟩,ci 1,ci 2])(h2:Row W b2 41 #[cu 5])(h3:Row W b3 39 #[ci 0,ci 0,ci 0,ci 0,ci 0,ci 0,ci 0,ci 0,.bool false,zn,zn,ci 1,ci 0,ci 0,ci 0,ci 0,ci 0,ci 0,ci 0,.bool false,zn,zl b2 1 1])(h4:Row W b4 39 #[ci 2,ci 0,ci 0,ci 0,ci 0,ci 0,ci 0,ci 0,.bool false,zn,zn])(h5:Row W b5 55 #[zl b3 2 2,zl b4 1 1])(h6:Row W b6 3 #[ci 0,ci 1,ci 0,ci 0,ci 0,ci 0,ci 1,ci 1]):m9 W (some ⟨b1,0,none⟩) 1 xe (some ⟨b5,0,none⟩) 2 b0u (some ⟨b6,0,none⟩) 8 b1e:=by
 have w5:Has W 1 (zl b2 1 1) 1 (bj [5]).toList:=(ua (enc:=fun x:Nat=>[Value.int .u64 (x:Int)]) (sz:=1) (l:=[5]) (c:=1) h2 (fun _=>rfl) rfl (by decide)).has (fun _=>rfl) (by decide);refine⟨ua (l:=xe) (c:=1) h1 (fun _=>rfl) rfl (by decide),fun x hx=>?_,by decide,⟨[zl b3 2 2,zl b4 1 1],rfl,ua (enc:=encV) (l:=[zl b3 2 2,zl b4 1 1]) (c:=2) h5 (fun _=>rfl) rfl (by decide:2≤2),fun j v p g1 g2=>?_⟩,fun p hp=>?_,ua (l:=b1e) (c:=8) h6 (fun _=>rfl) rfl (by decide),by decide,fun x hx=>?_⟩
 ·simp only[xe,List.mem_singleton] at hx;subst hx
  decide
 ·match j with
  | 0=>
   cases g1;cases g2;refine⟨b1f b2,rfl,(ua (c:=2) (l:=b1f b2) h3 bu.enc_len rfl (nlr 2)).has bu.enc_len (by decide),fun n c pc g3 g4=>?_⟩
   match n with
   | 0=>
    cases g3;cases g4;exact⟨rfl,rfl,rfl,rfl,rfl,rfl,rfl,rfl,rfl,Has.nil W 1,⟨[],rfl,Has.nil W 1⟩,by decide⟩
   | 1=>
    cases g3;cases g4;exact⟨rfl,rfl,rfl,rfl,rfl,rfl,rfl,rfl,rfl,Has.nil W 1,⟨[5],rfl,w5⟩,by decide⟩
   | n+2=>simp[b1f] at g3
  | 1=>
   cases g1;cases g2;refine⟨b1g,rfl,(ua (c:=1) (l:=b1g) h4 bu.enc_len rfl (by decide)).has bu.enc_len (by decide),fun n c pc g3 g4=>?_⟩
   match n with
   | 0=>
    cases g3;cases g4;exact⟨rfl,rfl,rfl,rfl,rfl,rfl,rfl,rfl,rfl,Has.nil W 1,⟨[],rfl,Has.nil W 1⟩,by decide⟩
   | n+1=>simp[b1g] at g3
  | j+2=>simp at g1
 ·simp only[b0u,List.mem_cons,List.not_mem_nil,or_false] at hp;rcases hp with rfl|rfl<;>decide
 ·simp only[b1e,List.mem_cons,List.not_mem_nil,or_false] at hx;omega
theorem c1z(w:World)(hw:jj w)(hf:j7 w):Calls Tryz.prog 5 #[] w fun e w'=>e=.returned (.bool true)∧Below w.heap.size w w':=by
 have r1:=Row.new w 54 #[.string ⟨#[97]⟩,ci 1,ci 2];have H1:=qh ((((((r1).alloc (.cells #[cu 5] 41)).alloc (.cells #[ci 0,ci 0,ci 0,ci 0,ci 0,ci 0,ci 0,ci 0,.bool false,zn,zn,ci 1,ci 0,ci 0,ci 0,ci 0,ci 0,ci 0,ci 0,.bool false,zn,.slice (some ⟨w.heap.size+1,0,none⟩) 1 1] 39)).alloc (.cells #[ci 2,ci 0,ci 0,ci 0,ci 0,ci 0,ci 0,ci 0,.bool false,zn,zn] 39)).alloc (.cells #[.slice (some ⟨w.heap.size+1+1,0,none⟩) 2 2,.slice (some ⟨w.heap.size+1+1+1,0,none⟩) 1 1] 55)).alloc (.cells #[ci 0,ci 1,ci 0,ci 0,ci 0,ci 0,ci 1,ci 1] 3));clear r1;have r2:=Row.new (w.alloc (.cells #[.string ⟨#[97]⟩,ci 1,ci 2] 54)) 41 #[cu 5];rw[show (w.alloc (.cells #[.string ⟨#[97]⟩,ci 1,ci 2] 54)).heap.size=w.heap.size+1 by simp] at r2
 have H2:=qh (((((r2).alloc (.cells #[ci 0,ci 0,ci 0,ci 0,ci 0,ci 0,ci 0,ci 0,.bool false,zn,zn,ci 1,ci 0,ci 0,ci 0,ci 0,ci 0,ci 0,ci 0,.bool false,zn,.slice (some ⟨w.heap.size+1,0,none⟩) 1 1] 39)).alloc (.cells #[ci 2,ci 0,ci 0,ci 0,ci 0,ci 0,ci 0,ci 0,.bool false,zn,zn] 39)).alloc (.cells #[.slice (some ⟨w.heap.size+1+1,0,none⟩) 2 2,.slice (some ⟨w.heap.size+1+1+1,0,none⟩) 1 1] 55)).alloc (.cells #[ci 0,ci 1,ci 0,ci 0,ci 0,ci 0,ci 1,ci 1] 3));clear r2;have r3:=Row.new ((w.alloc (.cells #[.string ⟨#[97]⟩,ci 1,ci 2] 54)).alloc (.cells #[cu 5] 41)) 39 #[ci 0,ci 0,ci 0,ci 0,ci 0,ci 0,ci 0,ci 0,.bool false,zn,zn,ci 1,ci 0,ci 0,ci 0,ci 0,ci 0,ci 0,ci 0,.bool false,zn,.slice (some ⟨w.heap.size+1,0,none⟩) 1 1];rw[show ((w.alloc (.cells #[.string ⟨#[97]⟩,ci 1,ci 2] 54)).alloc (.cells #[cu 5] 41)).heap.size=w.heap.size+1+1 by simp] at r3
 have H3:=qh ((((r3).alloc (.cells #[ci 2,ci 0,ci 0,ci 0,ci 0,ci 0,ci 0,ci 0,.bool false,zn,zn] 39)).alloc (.cells #[.slice (some ⟨w.heap.size+1+1,0,none⟩) 2 2,.slice (some ⟨w.heap.size+1+1+1,0,none⟩) 1 1] 55)).alloc (.cells #[ci 0,ci 1,ci 0,ci 0,ci 0,ci 0,ci 1,ci 1] 3));clear r3;have r4:=Row.new (((w.alloc (.cells #[.string ⟨#[97]⟩,ci 1,ci 2] 54)).alloc (.cells #[cu 5] 41)).alloc (.cells #[ci 0,ci 0,ci 0,ci 0,ci 0,ci 0,ci 0,ci 0,.bool false,zn,zn,ci 1,ci 0,ci 0,ci 0,ci 0,ci 0,ci 0,ci 0,.bool false,zn,.slice (some ⟨w.heap.size+1,0,none⟩) 1 1] 39)) 39 #[ci 2,ci 0,ci 0,ci 0,ci 0,ci 0,ci 0,ci 0,.bool false,zn,zn]
 rw[show (((w.alloc (.cells #[.string ⟨#[97]⟩,ci 1,ci 2] 54)).alloc (.cells #[cu 5] 41)).alloc (.cells #[ci 0,ci 0,ci 0,ci 0,ci 0,ci 0,ci 0,ci 0,.bool false,zn,zn,ci 1,ci 0,ci 0,ci 0,ci 0,ci 0,ci 0,ci 0,.bool false,zn,.slice (some ⟨w.heap.size+1,0,none⟩) 1 1] 39)).heap.size=w.heap.size+1+1+1 by simp] at r4;have H4:=qh (((r4).alloc (.cells #[.slice (some ⟨w.heap.size+1+1,0,none⟩) 2 2,.slice (some ⟨w.heap.size+1+1+1,0,none⟩) 1 1] 55)).alloc (.cells #[ci 0,ci 1,ci 0,ci 0,ci 0,ci 0,ci 1,ci 1] 3));clear r4
 have r5:=Row.new ((((w.alloc (.cells #[.string ⟨#[97]⟩,ci 1,ci 2] 54)).alloc (.cells #[cu 5] 41)).alloc (.cells #[ci 0,ci 0,ci 0,ci 0,ci 0,ci 0,ci 0,ci 0,.bool false,zn,zn,ci 1,ci 0,ci 0,ci 0,ci 0,ci 0,ci 0,ci 0,.bool false,zn,.slice (some ⟨w.heap.size+1,0,none⟩) 1 1] 39)).alloc (.cells #[ci 2,ci 0,ci 0,ci 0,ci 0,ci 0,ci 0,ci 0,.bool false,zn,zn] 39)) 55 #[.slice (some ⟨w.heap.size+1+1,0,none⟩) 2 2,.slice (some ⟨w.heap.size+1+1+1,0,none⟩) 1 1];rw[show ((((w.alloc (.cells #[.string ⟨#[97]⟩,ci 1,ci 2] 54)).alloc (.cells #[cu 5] 41)).alloc (.cells #[ci 0,ci 0,ci 0,ci 0,ci 0,ci 0,ci 0,ci 0,.bool false,zn,zn,ci 1,ci 0,ci 0,ci 0,ci 0,ci 0,ci 0,ci 0,.bool false,zn,.slice (some ⟨w.heap.size+1,0,none⟩) 1 1] 39)).alloc (.cells #[ci 2,ci 0,ci 0,ci 0,ci 0,ci 0,ci 0,ci 0,.bool false,zn,zn] 39)).heap.size=w.heap.size+1+1+1+1 by simp] at r5
 have H5:=qh (r5.alloc (.cells #[ci 0,ci 1,ci 0,ci 0,ci 0,ci 0,ci 1,ci 1] 3));clear r5;have r6:=Row.new (((((w.alloc (.cells #[.string ⟨#[97]⟩,ci 1,ci 2] 54)).alloc (.cells #[cu 5] 41)).alloc (.cells #[ci 0,ci 0,ci 0,ci 0,ci 0,ci 0,ci 0,ci 0,.bool false,zn,zn,ci 1,ci 0,ci 0,ci 0,ci 0,ci 0,ci 0,ci 0,.bool false,zn,.slice (some ⟨w.heap.size+1,0,none⟩) 1 1] 39)).alloc (.cells #[ci 2,ci 0,ci 0,ci 0,ci 0,ci 0,ci 0,ci 0,.bool false,zn,zn] 39)).alloc (.cells #[.slice (some ⟨w.heap.size+1+1,0,none⟩) 2 2,.slice (some ⟨w.heap.size+1+1+1,0,none⟩) 1 1] 55)) 3 #[ci 0,ci 1,ci 0,ci 0,ci 0,ci 0,ci 1,ci 1]
 rw[show (((((w.alloc (.cells #[.string ⟨#[97]⟩,ci 1,ci 2] 54)).alloc (.cells #[cu 5] 41)).alloc (.cells #[ci 0,ci 0,ci 0,ci 0,ci 0,ci 0,ci 0,ci 0,.bool false,zn,zn,ci 1,ci 0,ci 0,ci 0,ci 0,ci 0,ci 0,ci 0,.bool false,zn,.slice (some ⟨w.heap.size+1,0,none⟩) 1 1] 39)).alloc (.cells #[ci 2,ci 0,ci 0,ci 0,ci 0,ci 0,ci 0,ci 0,.bool false,zn,zn] 39)).alloc (.cells #[.slice (some ⟨w.heap.size+1+1,0,none⟩) 2 2,.slice (some ⟨w.heap.size+1+1+1,0,none⟩) 1 1] 55)).heap.size=w.heap.size+1+1+1+1+1 by simp] at r6;have H6:=qh r6;clear r6
 have HB:=qh (af (af (af (af (af (af (brf w) (.cells #[.string ⟨#[97]⟩,ci 1,ci 2] 54)) (.cells #[cu 5] 41)) (.cells #[ci 0,ci 0,ci 0,ci 0,ci 0,ci 0,ci 0,ci 0,.bool false,zn,zn,ci 1,ci 0,ci 0,ci 0,ci 0,ci 0,ci 0,ci 0,.bool false,zn,.slice (some ⟨w.heap.size+1,0,none⟩) 1 1] 39)) (.cells #[ci 2,ci 0,ci 0,ci 0,ci 0,ci 0,ci 0,ci 0,.bool false,zn,zn] 39)) (.cells #[.slice (some ⟨w.heap.size+1+1,0,none⟩) 2 2,.slice (some ⟨w.heap.size+1+1+1,0,none⟩) 1 1] 55)) (.cells #[ci 0,ci 1,ci 0,ci 0,ci 0,ci 0,ci 1,ci 1] 3));have HWF:=qh (And.intro (hw.bel HB.o) (hf.bel HB.o));clear hw hf
 go_enter Tryz.func5,Tryz.ntmps5
 go_wp2_with fail;generalize ((((((w.alloc (.cells #[.string ⟨#[97]⟩,ci 1,ci 2] 54)).alloc (.cells #[cu 5] 41)).alloc (.cells #[ci 0,ci 0,ci 0,ci 0,ci 0,ci 0,ci 0,ci 0,.bool false,zn,zn,ci 1,ci 0,ci 0,ci 0,ci 0,ci 0,ci 0,ci 0,.bool false,zn,.slice (some ⟨w.heap.size+1,0,none⟩) 1 1] 39)).alloc (.cells #[ci 2,ci 0,ci 0,ci 0,ci 0,ci 0,ci 0,ci 0,.bool false,zn,zn] 39)).alloc (.cells #[.slice (some ⟨w.heap.size+1+1,0,none⟩) 2 2,.slice (some ⟨w.heap.size+1+1+1,0,none⟩) 1 1] 55)).alloc (.cells #[ci 0,ci 1,ci 0,ci 0,ci 0,ci 0,ci 1,ci 1] 3))=w6 at *;have hin:=c1y H1.o H2.o H3.o H4.o H5.o H6.o;clear H1 H2 H3 H4 H5 H6;refine(c1x w6 2 1 1 _ 1 xe _ 2 b0u _ 8 b1e hin HWF.o.1 HWF.o.2).mono ?_;intro e w7 hpost;cases hpost with
 | no er hb he hn=>exact absurd ⟨rfl,rfl⟩ hn
 | yes s v L hb hok hp hr hI hc hl ho he=>
  have hE:fu 2 xe 1 1=ju:=rfl;rw[hE] at hr;obtain⟨e0,e1,e2,es,k1,k2,k3,k4,k5,k6,k7⟩:=b4s hr;have HB7:=qh (bt HB.o hb);rw[es] at ho hl he;obtain⟨g,cap,rfl,-,-,hA⟩:=Arr.of_own (E:=47) ho hl.symm (by simp);have hl3:L.length=3:=hl;have hl1:1<L.length:=by omega
  have hl2:2<L.length:=by omega
  have hx1:L[1]?=some L[1]:=cz hl1;have hx2:L[2]?=some L[2]:=cz hl2;generalize L[1]=x1 at hx1;generalize L[2]=x2 at hx2;have b1:=(he 1 x1 e1 hx1 rfl).b;have b2:=(he 2 x2 e2 hx2 rfl).b
  have d1:w7.cell? (ae g 28)=some (ci 2):=by
   have h:=hA.cell EvC.enc_len (j:=1) hx1 rfl;rw[b1.kd,k1] at h;exact h
  have d2:w7.cell? (ae g 39)=some (ci 0):=by
   have h:=hA.cell EvC.enc_len (j:=12) hx1 rfl;rw[b1.code,k2] at h;exact h
  have d3:w7.cell? (ae g 41)=some (cu 0):=by
   have h:=hA.cell EvC.enc_len (j:=14) hx1 rfl;rw[b1.gen,k3] at h;exact h
  have d4:w7.cell? (ae g 52)=some (ci 2):=by
   have h:=hA.cell EvC.enc_len (j:=25) hx1 rfl;rw[b1.at_,k4] at h;exact h
  have d5:w7.cell? (ae g 53)=some (ci 8):=by
   have h:=hA.cell EvC.enc_len (j:=26) hx1 rfl;rw[b1.to_,k5] at h;exact h
  have d6:w7.cell? (ae g 68)=some (cu 1):=by
   have h:=hA.cell EvC.enc_len (j:=14) hx2 rfl;rw[b2.gen,k6] at h;exact h
  have d7:w7.cell? (ae g 79)=some (ci 6):=by
   have h:=hA.cell EvC.enc_len (j:=25) hx2 rfl;rw[b2.at_,k7] at h;exact h
  clear hb hok hp hr hI hc hl ho he es k1 k2 k3 k4 k5 k6 k7 hA hx1 hx2 b1 b2 hE hin;simp only[List.length_cons,List.length_nil] at *;go_wp2_with fail;go_ret;exact⟨rfl,HB7.o⟩
end Go.Proofs.YtojkaibpfdhmaaaGreatDoor

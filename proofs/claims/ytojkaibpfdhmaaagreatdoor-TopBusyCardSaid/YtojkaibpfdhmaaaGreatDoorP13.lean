/- Contracts: cmp.Compare of numbers, poll's order, slices.SortFunc of up to 8 topics; poll's may; slices.ContainsFunc. -/
import Derived.Test.YtojkaibpfdhmaaaGreatDoorP00
import Derived.Test.YtojkaibpfdhmaaaGreatDoorP12
import Derived.Test.YtojkaibpfdhmaaaGreatDoorP01
import Derived.Test.YtojkaibpfdhmaaaGreatDoorP10
import Derived.StringKeys
import Derived.Shelf.Strings.SlTrimAscii
namespace Go.Proofs.YtojkaibpfdhmaaaGreatDoor
open Go.RowKit
set_option maxRecDepth 100000
set_option maxHeartbeats 16000000
structure At{α:Type}(enc:α→List Value)(sz:Nat)(W:World)(b off:Nat)(l:List α):Prop where
 cell:∀(k j:Nat)(x:α)(v:Value),l[k]?=some x→(enc x)[j]?=some v→W.cell? (ae b (off+k*sz+j))=some v
def gy{α:Type}(enc:α→List Value)(sz:Nat)(W:World)(v:Value)(l:List α):Prop:=(v=zn∧l=[])∨∃b off c,v=.slice (some ⟨b,off,none⟩) l.length c∧l.length≤c∧At enc sz W b off l
section
variable{α:Type}{enc:α→List Value}{sz:Nat}{W W':World}{b off:Nat}{l:List α}{v:Value}
theorem At.bel(h:At enc sz W b off l)(hb:Below W.heap.size W W'):At enc sz W' b off l:=⟨fun k j x v h1 h2=>(hb.cell (blc (h.cell k j x v h1 h2))).trans (h.cell k j x v h1 h2)⟩
theorem gy.bel(h:gy enc sz W v l)(hb:Below W.heap.size W W'):gy enc sz W' v l:=by
 rcases h with h|⟨b,off,c,h1,h0,h2⟩
 ·exact Or.inl h
 ·exact Or.inr ⟨b,off,c,h1,h0,h2.bel hb⟩
theorem gy.some(h:gy enc sz W v l)(hl:1≤l.length):∃b off c,v=.slice (some ⟨b,off,none⟩) l.length c∧At enc sz W b off l:=by
 rcases h with ⟨_,h⟩|h
 ·rw[h] at hl;simp at hl
 ·obtain⟨b,off,c,h1,_,h2⟩:=h;exact⟨b,off,c,h1,h2⟩
theorem gy.len(h:gy enc sz W v l):∃a c,v=.slice a l.length c:=by
 rcases h with ⟨h1,h2⟩|⟨b,off,c,h1,_,_⟩
 ·exact⟨_,_,by rw[h1,h2];rfl⟩
 ·exact⟨_,_,h1⟩
end
def zk:ByteArray:=⟨#[97,98,99,100,101,102,103,104,105,106,107,108,109,110,111,112,113,114,115,116,117,118,119,120,121,122,48,49,50,51,52,53,54,55,56,57]⟩
theorem d0c(s:ByteArray)(w:World)(hs:s.size≤9223372036854775807):Calls Tryz.prog 57 #[.string s,.string zk] w fun e w'=>e=.returned (.string ⟨(Lib.trimS s.data.toList zk.data.toList).toArray⟩)∧Below w.heap.size w w':=by
 have h:=Any.strings_Trim_laid Tryz.trim (by kernel_rfl) s zk w hs (by decide) (ascii_of_all (by decide));exact h
theorem uf(is:Bool)(er:Int)(w:World):Calls Tryz.prog 43 #[.bool is,ci er] w fun e w'=>e=.returned (ci (if is then 0 else er))∧w=w':=by
 cases is
 ·go_enter Tryz.func43,Tryz.ntmps43
  go_wp2;go_ret;exact⟨rfl,rfl⟩
 ·go_enter Tryz.func43,Tryz.ntmps43
  go_wp2;go_ret;exact⟨rfl,rfl⟩
def kr(s:ByteArray):Bool:=if h:0<s.size then if 16<(s.size:Int) then false else if ((s[0]'h).toNat:Int)<97 then false else if 122<((s[0]'h).toNat:Int) then false else (Lib.trimS s.data.toList zk.data.toList).isEmpty else false
theorem c4j(s:ByteArray)(h:s.size=0):kr s=false:=by
 unfold kr;rw[dif_neg (by omega)]
theorem c4k(s:ByteArray)(h:0<s.size)(h1:16<(s.size:Int)):kr s=false:=by
 unfold kr;rw[dif_pos h,if_pos h1]
theorem c4l(s:ByteArray)(h:0<s.size)(h1:(s.size:Int)≤16)(h2:((s[0]'h).toNat:Int)<97):kr s=false:=by
 unfold kr;rw[dif_pos h,if_neg (by omega),if_pos h2]
theorem c4m(s:ByteArray)(h:0<s.size)(h1:(s.size:Int)≤16)(_h2:97≤((s[0]'h).toNat:Int))(h3:122<((s[0]'h).toNat:Int)):kr s=false:=by
 unfold kr;rw[dif_pos h,if_neg (by omega),if_neg (by omega),if_pos h3]
theorem b4n(s:ByteArray)(h:0<s.size)(h1:(s.size:Int)≤16)(h2:97≤((s[0]'h).toNat:Int))(h3:((s[0]'h).toNat:Int)≤122):kr s=(Lib.trimS s.data.toList zk.data.toList).isEmpty:=by
 unfold kr;rw[dif_pos h,if_neg (by omega),if_neg (by omega),if_neg (by omega)]
theorem c1h:kr ⟨#[97]⟩=true:=by
 rw[b4n _ (by decide) (by decide) (by decide) (by decide)]
 decide
theorem d0d(s:ByteArray)(hs:s.size≤9223372036854775807)(w:World):Calls Tryz.prog 45 #[.string s] w fun e w'=>e=.returned (.bool (kr s))∧Below w.heap.size w w':=by
 by_cases h0:s.size=0
 ·obtain⟨⟨l⟩⟩:=s;obtain rfl:l=[]:=List.length_eq_zero_iff.1 h0
  go_enter Tryz.func45,Tryz.ntmps45
  go_wp2_with fail;go_ret;exact⟨congrArg (fun b=>Ending.returned (.bool b)) (c4j _ h0).symm,Below.refl _ _⟩
 ·have i0:0<s.size:=by omega
  have i1:(0:Int)<s.size:=by omega
  have ht:=qh (d0c s w hs)
  have e0:(s.toList==([]:List UInt8))=false:=by
   refine bfn.2 (fun h=>h0 ?_);rw[ByteArray.toList_eq] at h;exact congrArg List.length h
  go_enter Tryz.func45,Tryz.ntmps45
  go_wp2_with fail
  ·go_ret;exact⟨congrArg (fun b=>Ending.returned (.bool b)) (c4k _ i0 (by assumption)).symm,Below.refl _ _⟩
  ·go_ret;exact⟨congrArg (fun b=>Ending.returned (.bool b)) (c4l _ i0 (by assumption) (by assumption)).symm,Below.refl _ _⟩
  ·go_ret;exact⟨congrArg (fun b=>Ending.returned (.bool b)) (c4m _ i0 (by assumption) (by assumption) (by assumption)).symm,Below.refl _ _⟩
  ·refine ht.o.mono ?_;rintro _ w2 ⟨rfl,hb2⟩;go_wp2_with fail;go_ret;exact⟨congrArg (fun b=>Ending.returned (.bool b)) (b4n _ i0 (by assumption) (by assumption) (by assumption)).symm,hb2⟩
structure cj where
 nm:ByteArray
 words:Int
 depth:Int
abbrev cj.cells(t:cj):List Value:=[.string t.nm,ci t.words,ci t.depth]
theorem c5g(w:World)(P:Nat)(T tr lg:Int)(tv mv:Value)(hr:Row w P 106 #[ci T,tv,ci tr,ci lg,mv]):Calls Tryz.prog 32 #[pt P] w fun e w'=>e=.returned (ci (if inB T 1 8 then 0 else 10))∧w=w':=by
 have c0:=hr.k 0;clear hr;have h1:=qh (me T 1 8);generalize inB T 1 8=p at *;cases p <;>
 ·go_enter Tryz.func32,Tryz.ntmps32
  go_wp2_with (first|(go_at_call 44;refine(h1.o _).mono ?_;rintro e w' ⟨rfl,rfl⟩)|(go_at_call 43;refine(uf _ _ _).mono ?_;rintro e w' ⟨rfl,rfl⟩))
  go_ret;exact⟨rfl,rfl⟩
theorem c1g(w:World)(P:Nat)(T tr lg:Int)(a:Option Addr)(len c:Nat)(mv:Value)(hr:Row w P 106 #[ci T,.slice a len c,ci tr,ci lg,mv]):Calls Tryz.prog 33 #[pt P] w fun e w'=>e=.returned (ci (if inB len 1 64 then 0 else 12))∧w=w':=by
 have c0:=hr.k 1;clear hr;have h1:=qh (me len 1 64);generalize inB len 1 64=p at *;cases p <;>
 ·go_enter Tryz.func33,Tryz.ntmps33
  go_wp2_with (first|(go_at_call 44;refine(h1.o _).mono ?_;rintro e w' ⟨rfl,rfl⟩)|(go_at_call 43;refine(uf _ _ _).mono ?_;rintro e w' ⟨rfl,rfl⟩))
  go_ret;exact⟨rfl,rfl⟩
theorem c8g(w:World)(P:Nat)(T tr lg:Int)(tv mv:Value)(hr:Row w P 106 #[ci T,tv,ci tr,ci lg,mv]):Calls Tryz.prog 34 #[pt P] w fun e w'=>e=.returned (ci (if inB tr 1 16&&inB lg 1 64 then 0 else 10))∧w=w':=by
 have c0:=hr.k 2;have c1:=hr.k 3;clear hr;have h1:=qh (me tr 1 16);have h2:=qh (me lg 1 64);generalize inB tr 1 16=p at *;generalize inB lg 1 64=q at *;cases p<;>cases q <;>
 ·go_enter Tryz.func34,Tryz.ntmps34
  go_wp2_with (first|(go_at_call 44;with_reducible refine(h1.o _).mono ?_;rintro e w' ⟨rfl,rfl⟩)|(go_at_call 44;with_reducible refine(h2.o _).mono ?_;rintro e w' ⟨rfl,rfl⟩)|(go_at_call 43;refine(uf _ _ _).mono ?_;rintro e w' ⟨rfl,rfl⟩))
  go_ret;exact⟨rfl,rfl⟩
theorem c5h(w:World)(P M n i:Nat)(T tr lg:Int)(b off len c:Nat)(l:List cj)(x:cj)(f:Lit→Option Value)(hr:Row w P 106 #[ci T,.slice (some ⟨b,off,none⟩) len c,ci tr,ci lg,.map (some M)])(hl:At cj.cells 3 w b off l)(hx:l[i]?=some x)(hlen:i<len)(hm:a8 Tryz.prog 9 w M n f)(hn:n<maxLen)(hPM:P≠M)(hs:x.nm.size≤maxLen):Calls Tryz.prog 35 #[pt P,ci i] w fun e w'=>∃code:Int,e=.returned (ci code)∧ab [M] w w'∧(∃f',a8 Tryz.prog 9 w' M (n+1) f') ∧
   (code=0→inB x.words 1 64=true∧inB x.depth 2 16=true)∧(kr x.nm=true→f (keyS x.nm)=none→inB x.words 1 64=true→inB x.depth 2 16=true→code=0):=by
 obtain⟨nm,wd,dp⟩:=x;have c0:w.cell? (ae b (off+i*3))=some (.string nm):=hl.cell i 0 _ _ hx rfl;have c1:=hl.cell i 1 _ _ hx rfl;have c2:=hl.cell i 2 _ _ hx rfl;simp only at hs;have r1:=hr.k 1;have i1:(i:Int)<len:=by omega
 have hname:=qh (fun w=>d0d nm hs w);have HR:=qh (hr.alloc (.cells #[.string nm,ci wd,ci dp] 54));have HN:=qh (Row.new w 54 #[.string nm,ci wd,ci dp]);have HB:=qh (af (brf w) (.cells #[.string nm,ci wd,ci dp] 54));have HM:=qh (hm.bel HB.o);have hMB:M≠w.heap.size:=by have:=hm.lt;omega
 clear hr hl hm
 go_enter Tryz.func35,Tryz.ntmps35
 go_wp2_with fail;generalize w.alloc (.cells #[.string nm,ci wd,ci dp] 54)=w1 at *;refine(hname.o w1).mono ?_;rintro e w2 ⟨rfl,hb2⟩;have HR2:=qh (HR.o.bel hb2);have HN2:=qh (HN.o.bel hb2);have HM2:=qh (HM.o.bel hb2);have HB2:=qh (bt HB.o hb2);clear HR HN HM HB hb2 hname c0 c1 c2 r1;generalize hBk:w.heap.size=Bk at *;cases hok:kr nm
 ·go_wp2_with fail;go_ret;exact⟨13,rfl,(ab.of_below (hBk.symm▸HB2.o)),⟨f,HM2.o.mono (by omega)⟩,(fun h=>absurd h (by decide)),(fun h=>absurd (hok.symm.trans h) (by decide))⟩
 have c1:=HR2.k 4;have d0:=HN2.k 0;have d1:=HN2.k 1;have d2:=HN2.k 2;go_wp2_with fail;have HR2a:=qh HR2.o.drew;have HN2a:=qh HN2.o.drew;have HM2a:=qh HM2.o.drew;have hU:UD (fun W=>Row W P 106 #[ci T,.slice (some ⟨b,off,none⟩) len c,ci tr,ci lg,.map (some M)]∧Row W Bk 54 #[.string nm,ci wd,ci dp]∧a8 Tryz.prog 9 W M n f):=al fun W n h=>⟨h.1.drewN n,h.2.1.drewN n,h.2.2.drewN n⟩;have hCa:(fun W=>Row W P 106 #[ci T,.slice (some ⟨b,off,none⟩) len c,ci tr,ci lg,.map (some M)]∧Row W Bk 54 #[.string nm,ci wd,ci dp]∧a8 Tryz.prog 9 W M n f) w2.drew:=⟨HR2a.o,HN2a.o,HM2a.o⟩;refine ei _ aj _ hU hCa (by kernel_rfl) (by kernel_rfl) ?_;intro S;have HBa:Hd (Below Bk w w2.drew):=qh (below_drewN HB2.o 1);generalize w2.drew=wa at *;clear HB2 HR2 HN2 HM2 c1 d0 d1 d2;refine ao S hU [0,1,2,3,4,5,6,7,8,9,10,11] 47 0 hCa ?_;constructor
 ·intro W' hW';simp only[pick,List.filterMap,gq1,gq2,gq3];have e4:=hW'.1.k 4;have e0:=hW'.2.1.k 0;have el:=fun n=>(hW'.2.2.drewN n).look_ok (t:=104) (Maps.string_keyed Tryz.underlying9) Tryz.underlying104 (z:=ci 0) rfl (WideMaps.keyOf_string_mk Tryz.underlying9 hs)
  repeat (go_big_quiet_step (fail))
  exact wpQuiet_nil rfl
 refine jt ?_;intro w3 hrw3;refine NoPanic.normal ?_;obtain⟨n3,rfl⟩:=hrw3;have HB3:=qh (below_drewN HBa.o n3);have HR3:=qh (HR2a.o.drewN n3);have HN3:=qh (HN2a.o.drewN n3);have HM3:=qh (HM2a.o.drewN n3);generalize wa.drewN n3=w3 at *;clear HR2a HN2a HM2a HBa hCa hU S;cases hf:(f (.string nm.data.toList)).isSome
 ·have d1:=HN3.k 1;have d2:=HN3.k 2;go_wp2_with fail;have HR3a:=qh HR3.o.drew;have HN3a:=qh HN3.o.drew;have HM3a:=qh HM3.o.drew;have hU:UD (fun W=>Row W P 106 #[ci T,.slice (some ⟨b,off,none⟩) len c,ci tr,ci lg,.map (some M)]∧Row W Bk 54 #[.string nm,ci wd,ci dp]):=al fun W n h=>⟨h.1.drewN n,h.2.drewN n⟩;have hCa:(fun W=>Row W P 106 #[ci T,.slice (some ⟨b,off,none⟩) len c,ci tr,ci lg,.map (some M)]∧Row W Bk 54 #[.string nm,ci wd,ci dp]) w3.drew:=⟨HR3a.o,HN3a.o⟩;refine ei _ aj _ hU hCa (by kernel_rfl) (by kernel_rfl) ?_;intro S;have HBb:Hd (Below Bk w w3.drew):=qh (below_drewN HB3.o 1);generalize w3.drew=wb at *;clear HB3 HR3 HN3 HM3 d1 d2;refine ao S hU [0,1,2,3,4,5,6] 47 1 hCa ?_;constructor
  ·intro W' hW';simp only[pick,List.filterMap,gq1,gq2,gq3];have e4:=hW'.1.k 4;have e0:=hW'.2.k 0
   repeat (go_big_quiet_step (fail))
   exact wpQuiet_nil rfl
  refine kf S hU (C':=fun W=>Row W P 106 #[ci T,.slice (some ⟨b,off,none⟩) len c,ci tr,ci lg,.map (some M)]∧Row W Bk 54 #[.string nm,ci wd,ci dp]) (fun _ h=>h) 7 _ 0 _ _ _ rfl (by kernel_rfl) (by kernel_rfl) hCa ?_;intro W1 hrW1 hcW1 K1 hK1;obtain⟨n1,rfl⟩:=hrW1;refine ly rfl _ _ _ 104 rfl 9 3 (Maps.string_keyed Tryz.underlying9) Tryz.underlying104 M n f rfl (HM3a.o.drewN n1) hn (.string nm) (ci i) (.string nm.data.toList) rfl rfl (WideMaps.keyOf_string_mk Tryz.underlying9 hs) ?_;intro w4 hm4 hs4;have hC4:=hU.at _ ⟨(hCa.1.drewN n1).same hs4 (by simpa using hPM),(hCa.2.drewN n1).same hs4 (by simpa using hMB.symm)⟩;have HS4:=qh ((ab.of_below (M:=[M]) (hBk.symm▸below_drewN HBb.o n1)).then hs4 (fun y hy _=>hy));have HM4:=qh hm4;go_wp2_with fail;refine hK1 _ _ hC4 ?_;clear hK1 hm4 hs4 HM3a HN3a HR3a HBb hcW1;refine jt ?_;intro w5 hrw5;refine NoPanic.normal ?_
  obtain⟨n5,rfl⟩:=hrw5;have HS5:=qh (HS4.o.drewN n5);have HM5:=qh (HM4.o.drewN n5);have HN5:=hC4.2.drewN n5;have d1:=HN5.k 1;have d2:=HN5.k 2;generalize w4.drewN n5=w5 at *;clear hC4 HS4 HM4 S hU hCa HN5;have h1:=qh (me wd 1 64);have h2:=qh (me dp 2 16);cases e1:inB wd 1 64
  ·rw[e1] at h1
   go_wp2_with (first|(go_at_call 44;refine(h1.o _).mono ?_;rintro e w' ⟨rfl,rfl⟩)|(go_at_call 43;refine(uf _ _ _).mono ?_;rintro e w' ⟨rfl,rfl⟩))
   go_ret;exact⟨10,rfl,HS5.o,⟨_,HM5.o⟩,(fun h=>absurd h (by decide)),(fun _ _ h _=>absurd (e1.symm.trans h) (by decide))⟩
  ·rw[e1] at h1;cases e2:inB dp 2 16
   ·rw[e2] at h2
    go_wp2_with (first|(go_at_call 44;with_reducible refine(h1.o _).mono ?_;rintro e w' ⟨rfl,rfl⟩)|(go_at_call 44;with_reducible refine(h2.o _).mono ?_;rintro e w' ⟨rfl,rfl⟩)|(go_at_call 43;refine(uf _ _ _).mono ?_;rintro e w' ⟨rfl,rfl⟩))
    go_ret;exact⟨10,rfl,HS5.o,⟨_,HM5.o⟩,(fun h=>absurd h (by decide)),(fun _ _ _ h=>absurd (e2.symm.trans h) (by decide))⟩
   ·rw[e2] at h2
    go_wp2_with (first|(go_at_call 44;with_reducible refine(h1.o _).mono ?_;rintro e w' ⟨rfl,rfl⟩)|(go_at_call 44;with_reducible refine(h2.o _).mono ?_;rintro e w' ⟨rfl,rfl⟩)|(go_at_call 43;refine(uf _ _ _).mono ?_;rintro e w' ⟨rfl,rfl⟩))
    go_ret;exact⟨0,rfl,HS5.o,⟨_,HM5.o⟩,(fun _=>⟨e1,e2⟩),(fun _ _ _ _=>rfl)⟩
 ·go_wp2_with fail;go_ret;exact⟨15,rfl,ab.of_below (hBk.symm▸HB3.o),⟨f,HM3.o.mono (by omega)⟩,(fun h=>absurd h (by decide)),(fun _ h=>by rw[h] at hf;cases hf)⟩
abbrev gj(z:Int):List Value:=[ci z]
theorem b7i(v:Value)(l:List Int)(x:Int)(w:World)(hv:gy gj 1 w v l)(hl:l.length≤1000000):Calls Tryz.prog 81 #[v,ci x] w fun e w'=>∃k:Int,e=.returned (ci k)∧w=w'∧((k = -1∧x∉l)∨∃j:Nat,k=j∧l[j]?=some x):=by
 obtain⟨a,c,rfl⟩:=hv.len
 have hc:∀k z,l[k]?=some z→∃b off,a=some ⟨b,off,none⟩∧w.cell? (ae b (off+k))=some (ci z):=by
  intro k z hk;rcases hv with ⟨_,h⟩|⟨b,off,c',h1,_,h2⟩
  ·rw[h] at hk;simp at hk
  ·obtain⟨rfl,-,rfl⟩:=Value.slice.inj h1;have:=h2.cell k 0 z _ hk rfl;rw[Nat.mul_one,Nat.add_zero] at this;exact⟨b,off,rfl,this⟩
 have HC:=qh hc;clear hc hv
 go_enter Tryz.func81,Tryz.ntmps81
 go_wp2_with fail
 go_loopw [8] (fun i wr=>∃k:Nat,k≤l.length∧i=ci k∧Hd (wr=w)∧∀j,j<k→l[j]? ≠ some x) (fun i _=>l.length-(intOf i).toNat)
 case atStart=>exact⟨0,by omega,rfl,qh rfl,fun j hj=>absurd hj (by omega)⟩
 case round=>
  obtain⟨k,hk,rfl,hw,hno⟩:=hrel;obtain rfl:=hw.o;have HN:=qh hno;clear hno;by_cases hkl:k<l.length
  ·have i1:(k:Int)<l.length:=by omega
   have hx:l[k]?=some l[k]:=cz hkl;obtain⟨b,off,rfl,c0⟩:=HC.o k _ hx;have HX:=qh hx;clear hx;generalize l[k]=z at *;by_cases hz:x=z
   ·subst hz;go_wp2_with fail;go_ret;exact⟨k,rfl,rfl,Or.inr ⟨k,rfl,HX.o⟩⟩
   ·have e0:(x==z)=false:=bfn.2 hz;go_wp2_with fail
    go_roundw
    case rel=>exact⟨k+1,by omega,by go_num,qh trivial,fun j hj h=>by
     by_cases hjk:j=k
     ·subst hjk;rw[HX.o] at h;exact hz (Option.some.inj h).symm
     ·exact HN.o j (by omega) h⟩
    case measure=>simp only[intOf];omega
  ·have hk':k=l.length:=by omega
   subst hk';go_wp2_with fail;go_ret;refine⟨-1,rfl,rfl,Or.inl ⟨rfl,fun h=>?_⟩⟩;obtain⟨j,hj,h⟩:=List.getElem_of_mem h;exact HN.o j hj (by rw[cz hj,h])
theorem uk(v:Value)(l:List Int)(x:Int)(w:World)(hv:gy gj 1 w v l)(hl:l.length≤1000000):Calls Tryz.prog 140 #[v,ci x] w fun e w'=>∃b:Bool,e=.returned (.bool b)∧w=w'∧(b=true↔x∈l):=by
 have h:=qh (b7i v l x w hv hl);clear hv
 go_enter Tryz.func140,Tryz.ntmps140
 go_wp2_with fail;refine h.o.mono ?_;rintro e w' ⟨k,rfl,rfl,h|⟨j,rfl,hj⟩⟩
 ·obtain⟨rfl,h⟩:=h;have HH:=qh h;clear h;go_wp2_with fail;go_ret;exact⟨false,rfl,rfl,by simpa using HH.o⟩
 ·have HH:=qh hj;clear hj;go_wp2_with fail;go_ret;exact⟨true,rfl,rfl,by simpa using dh HH.o⟩
theorem c7h{α:Type}{enc:α→List Value}{sz:Nat}{W:World}{b off c:Nat}{l:List α}(h:At enc sz W b off l)(k:Nat)(hk:k≤l.length)(hc:l.length≤c):gy enc sz W (.slice (some ⟨b,off,none⟩) k c) (l.take k):=by
 have hl:(l.take k).length=k:=by rw[List.length_take];omega
 refine Or.inr ⟨b,off,c,by rw[hl],by omega,⟨fun i j x v h1 h2=>?_⟩⟩;have hi:i<(l.take k).length:=(bk.1 h1).1;rw[List.getElem?_take_of_lt (by omega)] at h1;exact h.cell i j x v h1 h2
theorem c2y(v:Value)(l:List Int)(w:World)(hv:gy gj 1 w v l)(hl:l.length≤1000000):Calls Tryz.prog 115 #[v] w fun e w'=>∃b:Bool,e=.returned (.bool b)∧w=w'∧(b=false→l.Nodup)∧(l=[]→b=false):=by
 rcases hv with ⟨rfl,rfl⟩|⟨b,off,c,rfl,hlc,hat⟩
 ·go_enter Tryz.func115,Tryz.ntmps115
  go_wp2_with fail;refine wp_loop_rounds 1 ?_;rw[rounds_succ];go_wp2_with fail;go_ret;exact⟨false,rfl,rfl,fun _=>List.nodup_nil,fun _=>rfl⟩
 ·have HA:=qh hat;clear hat
  go_enter Tryz.func115,Tryz.ntmps115
  go_wp2_with fail
  go_loopw [7] (fun i wr=>∃k:Nat,k≤l.length∧i=ci k∧Hd (wr=w)∧Hd ((l.take k).Nodup)) (fun i _=>l.length-(intOf i).toNat)
  case atStart=>exact⟨0,by omega,rfl,qh rfl,qh (by simp)⟩
  case round=>
   obtain⟨k,hk,rfl,hw,hno⟩:=hrel;obtain rfl:=hw.o;by_cases hkl:k<l.length
   ·have i1:(k:Int)<l.length:=by omega
    have i2:(k:Int)≤c:=by omega
    have hx:l[k]?=some l[k]:=cz hkl;have c0:=HA.o.cell k 0 _ _ hx rfl;rw[Nat.mul_one,Nat.add_zero] at c0;have hin:=qh (uk _ (l.take k) l[k] wr (c7h HA.o k hk hlc) (by rw[List.length_take];omega));have HX:=qh hx;clear hx;generalize l[k]=z at *;go_wp2_with fail;refine hin.o.mono ?_;rintro e w' ⟨b',rfl,rfl,hb⟩;have HB:=qh hb;clear hb hin;cases b'
    ·go_wp2_with fail
     go_roundw
     case rel=>
      refine⟨k+1,by omega,by go_num,qh trivial,qh ?_⟩;rw[List.take_add_one,HX.o];simp only[Option.toList_some];refine List.nodup_append.2 ⟨hno.o,by simp,fun x hx y hy=>?_⟩;simp only[List.mem_singleton] at hy;subst hy;intro h;subst h;exact absurd (HB.o.2 hx) (by decide)
     case measure=>simp only[intOf];omega
    ·go_wp2_with fail;go_ret;exact⟨true,rfl,rfl,(fun h=>absurd h (by decide)),(fun h=>by rw[h] at hkl;simp at hkl)⟩
   ·have hk':k=l.length:=by omega
    subst hk';rw[List.take_length] at hno;go_wp2_with fail;go_ret
    first|exact⟨false,rfl,rfl,(fun _=>hno.o),(fun _=>rfl)⟩|exact Or.inl ⟨rfl,rfl,hno.o⟩
structure Call where
 kind:Int
 topic:Int
 sub:Int
 cap:Int
 rank:Int
 src:Int
 mode:Int
 flags:Int
 free:Bool
 set:Value
 words:Value
abbrev Call.cells(c:Call):Array Value:=#[ci c.kind,ci c.topic,ci c.sub,ci c.cap,ci c.rank,ci c.src,ci c.mode,ci c.flags,.bool c.free,c.set,c.words]
section
open Go.Shelf Go.Sort
theorem c4n(n:Int)(w:World):Calls Tryz.prog 175 #[ci n] w fun e w'=>e=.returned (.bool false)∧w=w':=by
 have e0:(n != n)=false:=by simp
 go_enter Tryz.func175,Tryz.ntmps175
 go_wp2;go_ret;exact⟨rfl,rfl⟩
def qq(a b:Int):Int:=if a<b then -1 else if b<a then 1 else 0
theorem b6l(a b:Int)(w:World):Calls Tryz.prog 138 #[ci a,ci b] w fun e w'=>e=.returned (ci (qq a b))∧w=w':=by
 have hn:=qh c4n;rcases Int.lt_trichotomy a b with h|h|h
 ·have t0:decide (a<b)=true:=dqt h;have hr:qq a b = -1:=by unfold qq;rw[if_pos h]
  rw[hr]
  go_enter Tryz.func138,Tryz.ntmps138
  go_wp2_with (first|(go_at_call 175;refine(hn.o _ _).mono ?_;rintro e w' ⟨rfl,rfl⟩))
  go_ret;exact⟨rfl,rfl⟩
 ·subst h;have t0:decide (a<a)=false:=dqf (by omega);have hr:qq a a=0:=by unfold qq;rw[if_neg (by omega),if_neg (by omega)]
  rw[hr]
  go_enter Tryz.func138,Tryz.ntmps138
  go_wp2_with (first|(go_at_call 175;refine(hn.o _ _).mono ?_;rintro e w' ⟨rfl,rfl⟩))
  go_ret;exact⟨rfl,rfl⟩
 ·have t0:decide (a<b)=false:=dqf (by omega);have t1:decide (b<a)=true:=dqt h;have hr:qq a b=1:=by unfold qq;rw[if_neg (by omega),if_pos h]
  rw[hr]
  go_enter Tryz.func138,Tryz.ntmps138
  go_wp2_with (first|(go_at_call 175;refine(hn.o _ _).mono ?_;rintro e w' ⟨rfl,rfl⟩))
  go_ret;exact⟨rfl,rfl⟩
theorem c4o(x y:Tpc)(W:World):Calls Tryz.prog 137 #[.agg x.cells,.agg y.cells] W fun e w'=>e=.returned (ci (qq x.n y.n))∧∃q os',w'=grow (W.drewN q) os':=by
 have hcon:=qh (b6l x.n y.n);obtain⟨xn,⟨a1,a2,a3,a4,a5⟩,xg⟩:=x;obtain⟨yn,⟨b1,b2,b3,b4,b5⟩,yg⟩:=y;simp only[Tpc.cells] at *;generalize qq xn yn=r at *
 go_enter Tryz.func137,Tryz.ntmps137
 go_wp2_with (go_at_call 138;refine(hcon.o _).mono ?_;rintro e w' ⟨rfl,rfl⟩)
 go_ret;exact⟨rfl,0,_,by rw[alloc_eq_grow,alloc_eq_grow,grow_grow];rfl⟩
instance:Inhabited Tpc:=⟨⟨0,⟨0,0,0,0,0⟩,0⟩⟩
theorem b5v(blk off size:Nat)(w:World):CmpLays Tryz.prog 137 #[] Tpc.enc 7 (fun x y=>qq x.n y.n) blk off size w:=
 fun _ _ _ _ x y=>c4o x y _
theorem c6r(n:Nat)(W:World)(h:n≤12):Calls Tryz.prog 168 #[cu n] W fun e w'=>(∃l:Int,e=.returned (ci l))∧w'=W:=
 (Any.bits_Len Tryz.bitsLen n W (by omega) (by omega)).mono fun _ _ ⟨he,hw⟩=>⟨⟨_,he⟩,hw⟩
end
end Go.Proofs.YtojkaibpfdhmaaaGreatDoor

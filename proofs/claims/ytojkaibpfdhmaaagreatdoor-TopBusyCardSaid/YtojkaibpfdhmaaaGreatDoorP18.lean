/- slices.Values, AppendSeq, Collect, Sorted at numbers. -/
import Derived.Test.YtojkaibpfdhmaaaGreatDoorP14
import Derived.Test.YtojkaibpfdhmaaaGreatDoorP04
import Derived.Test.YtojkaibpfdhmaaaGreatDoorP15
import Derived.Test.YtojkaibpfdhmaaaGreatDoorP16
import Derived.RangeFuncNested
import Derived.RangeFuncBound
import Derived.RangeFuncCalls
import Derived.RangeFuncLeaves
import Derived.RangeFuncBox
import Derived.OwnWalkIn
import Derived.TacticsInMore
import Derived.LoopNIn
import Derived.LoopIn
namespace Go.Proofs.YtojkaibpfdhmaaaGreatDoor
open Go.RowKit
set_option maxRecDepth 100000
set_option maxHeartbeats 16000000
def cj.spot(t:cj)(n:Nat):am:=⟨n,n+1,n+2,t.words.toNat,t.depth.toNat⟩
def cj.room(t:cj):Nat:=2+t.words.toNat*t.depth.toNat
def dy:List cj→Nat→List am
 | [],_=>[]
 | t::l,n=>t.spot n::dy l (n+t.room)
def ey:List cj→Nat→Nat
 | [],n=>n
 | t::l,n=>ey l (n+t.room)
theorem rt:∀(l:List cj)(n:Nat),(dy l n).length=l.length
 | [],_=>rfl
 | t::l,n=>by rw[dy,List.length_cons,rt l,List.length_cons]
theorem yi:∀(l:List cj)(t:cj)(n:Nat),dy (l++[t]) n=dy l n++[t.spot (ey l n)]
 | [],_,_=>rfl
 | x::l,t,n=>by rw[List.cons_append,dy,yi l,dy,ey,List.cons_append]
theorem yc:∀(l:List cj)(t:cj)(n:Nat),ey (l++[t]) n=ey l n+t.room
 | [],_,_=>rfl
 | x::l,t,n=>by rw[List.cons_append,ey,yc l,ey]
theorem b5u:∀(l:List cj)(n:Nat),n≤ey l n
 | [],n=>nlr n
 | t::l,n=>by rw[ey];exact nlt (Nat.le_add_right n t.room) (b5u l _)
theorem c3o:∀(l:List cj)(n:Nat),(∀x∈l,x.room≤1026)→ey l n≤n+1026*l.length
 | [],n,_=>by simp[ey]
 | t::l,n,h=>by
  rw[ey];have h1:=c3o l (n+t.room) (fun x hx=>h x (List.mem_cons_of_mem _ hx));have h2:=h t (List.mem_cons_self ..);simp only[List.length_cons];omega
theorem b1t:∀(l:List cj)(n k:Nat)(s:am),(dy l n)[k]?=some s→∃t,l[k]?=some t∧s=t.spot (ey (l.take k) n)∧n≤s.own∧s.own+t.room≤ey l n
 | [],_,_,_,h=>by simp[dy] at h
 | t::l,n,0,s,h=>by
  rw[dy] at h;simp at h;subst h;exact⟨t,by simp,by simp[ey],nlr _,by rw[ey];exact b5u l _⟩
 | t::l,n,k+1,s,h=>by
  rw[dy] at h;simp only[List.getElem?_cons_succ] at h;obtain⟨u,h1,h2,h3,h4⟩:=b1t l _ k s h;exact⟨u,by simpa using h1,by rw[List.take_succ_cons,ey];exact h2,by omega,by rw[ey];exact h4⟩
theorem xw:∀(l:List cj)(n i j:Nat)(s u:am),(dy l n)[i]?=some s→(dy l n)[j]?=some u→i<j→s.first+s.words*s.depth≤u.own
 | [],_,_,_,_,_,h,_,_=>by simp[dy] at h
 | t::l,n,0,j+1,s,u,h,h',_=>by
  rw[dy] at h h';simp at h h';subst h;obtain⟨_,_,_,h3,_⟩:=b1t l _ j u h';simp only[cj.spot,cj.room] at *;omega
 | t::l,n,i+1,j+1,s,u,h,h',hij=>by
  rw[dy] at h h';simp at h h';exact xw l _ i j s u h h' (by omega)
theorem cj.room_le{t:cj}(h1:inB t.words 1 64=true)(h2:inB t.depth 2 16=true):t.room≤1026∧1≤t.words.toNat∧t.words.toNat≤64∧2≤t.depth.toNat∧t.depth.toNat≤16:=by
 simp only[inB,decide_eq_true_eq] at h1 h2;have:t.words.toNat*t.depth.toNat≤64*16:=Nat.mul_le_mul (by omega) (by omega);unfold cj.room;omega
theorem c2x(l:List cj)(n:Nat)(hn:n≤65)(hl:l.length≤64)(h:∀x∈l,inB x.words 1 64=true∧inB x.depth 2 16=true):ey l n≤65729∧∀s∈dy l n,s.Ok∧n≤s.own∧s.seq=s.own+1∧s.first=s.own+2∧s.first+s.words*s.depth≤ey l n:=by
 have he:=c3o l n (fun x hx=>(cj.room_le (h x hx).1 (h x hx).2).1);refine⟨by omega,fun s hs=>?_⟩;obtain⟨k,hk,rfl⟩:=List.getElem_of_mem hs;obtain⟨t,h1,h2,h3,h4⟩:=b1t l n k _ (cz hk);have ht:=dh h1;obtain⟨r0,r1,r2,r3,r4⟩:=cj.room_le (h t ht).1 (h t ht).2;generalize (dy l n)[k]=s at *;subst h2;simp only[cj.spot,cj.room] at *;exact⟨⟨r1,r2,r3,r4,by simp only;omega,by simp only;omega,by simp only;omega⟩,h3,trivial,trivial,by omega⟩
theorem jo{w:World}{n:Nat}{cs:Array Value}{t:TypeId}(h:n=w.heap.size):∀j u,cs.toList[j]?=some u→(w.alloc (.cells cs t)).cell? ((⟨n,0,none⟩:Addr).add j)=some u:=by
 intro j u hj;subst h;rw[show (⟨w.heap.size,0,none⟩:Addr).add j=⟨w.heap.size,j,none⟩ by simp[Addr.add];omega];exact(Row.new w t cs).cell (by simpa using hj)
structure yb(w W:World)(B:Array Value)(l:List cj)(N p L k:Nat):Prop where
 b:Below w.heap.size w W
 x:Row W w.heap.size 24 B
 r:Row W (w.heap.size+1) 83 #[ci 0,ci 0,ci 0,zn,ci 0]
 n:Row W N 3 #[ci (ey (l.take k) (1+L))]
 p:∃v,Row W p 83 #[ci 0,ci 1,ci L,v,ci 0]∧W.ownsRow (p+1) 112 5 v k ((dy (l.take k) (1+L)).flatMap am.enc)
theorem yb.next{w W W':World}{B:Array Value}{l:List cj}{N p L k:Nat}{v':Value}{cs:List Value}{M:List Nat}(h:yb w W B l N p L k)(hs:ab (N::p::M) W W')(hM:∀b∈M,p<b)(hN:w.heap.size+1<N)(hp:N<p)(hn:Row W' N 3 #[ci (ey (l.take (k+1)) (1+L))])(hv:Row W' p 83 #[ci 0,ci 1,ci L,v',ci 0])(ho:W'.ownsRow (p+1) 112 5 v' (k+1) cs)(hc:cs=(dy (l.take (k+1)) (1+L)).flatMap am.enc):yb w W' B l N p L (k+1):=by
 have hM2:∀b∈N::p::M,w.heap.size+1<b:=fun b hb=>by
  simp only[List.mem_cons] at hb;rcases hb with rfl|rfl|hb
  ·exact hN
  ·omega
  ·have:=hM b hb;omega
 refine⟨jc h.b hs (fun b hb=>by have:=hM2 b hb;omega),h.x.same hs (fun hb=>by have:=hM2 _ hb;omega),h.r.same hs (fun hb=>by have:=hM2 _ hb;omega),hn,v',hv,hc▸ho⟩
theorem d1f(w:World)(N:Nat)(n k:Int)(h:Row w N 3 #[ci n]):Calls Tryz.prog 36 #[ci k,pt N] w fun e w'=>e=.returned (ci n)∧w'=w.setCell ⟨N,0,none⟩ (ci (wrap64 (n+k))):=by
 have c0:w.cell? (ae N 0)=some (ci n):=h.k 0;have cf:=h.free;clear h
 go_enter Tryz.func36,Tryz.ntmps36
 go_wp2;go_ret;exact⟨rfl,rfl⟩
theorem pg{n k m:Int}(hm:wrap64 (n+k)=m)(w:World)(N:Nat)(h:Row w N 3 #[ci n]):Calls Tryz.prog 36 #[ci k,pt N] w fun e w'=>e=.returned (ci n)∧w'=w.setCell ⟨N,0,none⟩ (ci m):=hm▸d1f w N n k h
section
open Go.Shelf
attribute [local go_sem] Oper.semAt_some
theorem c3p(A:Option Addr)(n c:Nat)(w:World):Calls Tryz.prog 76 #[.slice A n c] w fun e w'=>e=.returned (.func (.func 124) #[] #[pt w.heap.size])∧w.alloc (.cells #[.slice A n c] 26)=w':=by
 go_enter Tryz.func76,Tryz.ntmps76
 go_wp2;go_ret;exact⟨rfl,rfl⟩
def uv(xs:List Int)(k:Nat):List Int:=xs.take k
theorem b6f{xs:List Int}{k:Nat}{x:Int}(h:xs[k]?=some x):uv xs (k+1)=uv xs k++[x]:=by unfold uv;rw[List.take_add_one,h];rfl
theorem b1u{xs:List Int}{k:Nat}(h:k≤xs.length):(uv xs k).length=k:=by unfold uv;rw[List.length_take];omega
theorem b6g(F:Fence)(n:Nat)(h7:F.fn 124)(hro:F.round=none)(hn:1≤n)(l Bs n₀ b off cap:Nat)(xs:List Int)(hm:xs.length<1000)(hb:b<n₀)(J Jx:List Int→World→Prop)(hY:∀pre x W,J pre W→pre.length<xs.length→YieldAt F (n-1) Tryz.prog l #[ci x] W fun e W'=> (e=.returned (.bool true)∧J (pre++[x]) W'∧Below n₀ W W')∨(e=.returned (.bool false)∧Jx (pre++[x]) W'))(W:World)(hBs:W.cell? (ae Bs 0)=some (.slice (some ⟨b,off,none⟩) xs.length cap))(hc:∀j x,xs[j]?=some x→W.cell? (ae b (off+j))=some (ci x))(h0:J [] W):CallsIn F n Tryz.prog 124 #[.func (.yield l) #[] #[],pt Bs] W fun e W'=>(∃v,e=.returned v) ∧
   ((∃ys,ys=xs∧J ys W')∨(∃pre,True∧Jx pre W')):=by
 have HC:=qh hc;have HY:=qh hY;clear hc hY;refine callsIn_of_wp Tryz.func124 rfl h7 ?_ hro;simp only[Tryz.ntmps124,List.size_toArray,List.length_cons,List.length_nil,Nat.reduceAdd,Nat.reduceSub,Array.replicate_succ,Array.replicate_zero,List.push_toArray,List.append_toArray,List.nil_append,List.cons_append]
 gi_wp2
 gi_loopw [7] (fun i wr=>∃k:Nat,k≤xs.length∧i=ci k∧J (uv xs k) wr∧Below n₀ W wr)
  (fun i _=>xs.length-(intOf i).toNat)
 case atStart=>exact⟨0,Nat.zero_le _,rfl,h0,Below.refl _ _⟩
 case round=>
  obtain⟨k,hk,rfl,hJs,hnx⟩:=hrel;by_cases hlt:k<xs.length
  ·have i1:(k:Int)<xs.length:=by omega
   have hx:xs[k]?=some xs[k]:=cz hlt;have hcx:=(hnx.cell (p:=⟨b,off+k,none⟩) hb).trans (HC.o k _ hx);have HE:=qh (b6f hx);clear hx;generalize xs[k]=x at *;obtain⟨fn,tmps,assign,body,hy,hR⟩:=HY.o _ x wr hJs (by rw[b1u hk];exact hlt)
   gi_wp2
   refine hR.mono ?_;rintro e W3 (⟨rfl,hJ3,hk3⟩|⟨rfl,hJx3⟩)
   ·gi_wp2
    go_roundw
    case rel=>exact⟨k+1,by omega,by go_num,by rw[HE.o];exact hJ3,hnx.trans hk3⟩
    case measure=>simp[intOf];omega
   ·gi_wp2
    refine bodyPost_ret (results_none rfl _ _ _) rfl ?_;exact⟨⟨_,rfl⟩,.inr ⟨_,trivial,hJx3⟩⟩
  ·obtain rfl:k=xs.length:=by omega
   gi_wp2
   go_end0
   refine⟨⟨_,rfl⟩,.inl ⟨_,rfl,?_⟩⟩;rw[show xs=uv xs xs.length by unfold uv;simp];exact hJs
theorem b1v(n:Nat)(hn:1≤n)(Bs n₀ b off cap:Nat)(xs:List Int)(hm:xs.length<1000)(hb:b<n₀)(w:World)(hBs:Bs<w.heap.size)(hn₀:n₀≤w.heap.size)(hc:w.cell? (ae Bs 0)=some (.slice (some ⟨b,off,none⟩) xs.length cap))(hI:∀j x,xs[j]?=some x→w.cell? (ae b (off+j))=some (ci x)):SeqStopsK Fence.wide n Tryz.prog 124 #[pt Bs] (fun x:Int=>#[ci x]) (Below n₀) (fun ys=>ys=xs) (fun _=>True) xs.length w:=fun l J Jx W hW _ _ hY h0=>
 b6g Fence.wide n trivial rfl hn l Bs n₀ b off cap xs hm hb J Jx hY W ((hW.cell (p:=⟨Bs,0,none⟩) hBs).trans hc) (fun j x hx=>(hW.cell (p:=⟨b,off+j,none⟩) (show b<w.heap.size by omega)).trans (hI j x hx)) h0
theorem b4f{W W':World}{row:Option Nat}{base:Nat}{e:TypeId}{size:Nat}{v:Value}{k:Nat}{xs:List Value}(h:W.ownsRow base e size v k xs)(hg:W.grownBy W' row)(hrow:∀r,row=some r→∃o:Obj,W.heap[r]?=some o∧o.isCells=false):W'.ownsRow base e size v k xs:=by
 refine h.kept hg ?_;rcases h.2 with ⟨rfl,_⟩|⟨g,cap,cur,rfl,_,hgb,_⟩
 ·exact .inl rfl
 ·refine .inr fun e'=>?_;obtain⟨o,ho,hw⟩:=hrow g (by simpa[Value.ownBlock] using e'.symm);rw[hgb] at ho;cases ho;cases hw
theorem b9r{W:World}{base:Nat}{e:TypeId}{size:Nat}{v:Value}{k:Nat}{xs:List Value}(h:W.ownsRow base e size v k xs):∀(j:Nat)(o:Obj),v.ownBlock=some j→W.heap[j]?=some o→o.isCells=true:=by
 intro j o hj ho;rcases h.2 with ⟨rfl,_⟩|⟨g,cap,cur,rfl,_,hgb,_⟩
 ·simp[Value.ownBlock] at hj
 ·have:g=j:=by simpa[Value.ownBlock] using hj
  subst this;rw[hgb] at ho;cases ho
  rfl
def FI(w:World)(pre:List Int)(W:World):Prop:=(∃v,Boxed W w.heap.size 26 v∧W.ownsRow (w.heap.size+1) 3 1 v pre.length (pre.map (Value.int .i64)))∧Below w.heap.size w W
theorem c9u{w:World}{D:Nat}(hD:w.heap.size≤D):OwnFrom D (FI w):=
 OwnFrom.and (Own.from (fun _ A B _ hs hg hr=>by
  obtain⟨v,h1,h2⟩:=hs;exact⟨v,boxed_own (β:=Unit) _ _ (fun _=>v) () A B _ h1 hg hr,b4f h2 hg hr⟩) _) (ownFrom_below (nlr _) hD)
theorem b9s(w:World)(Bs b off cap:Nat)(xs:List Int)(hm:xs.length<1000)(hBs:Bs<w.heap.size)(hb:b<w.heap.size)(hc:w.cell? (ae Bs 0)=some (.slice (some ⟨b,off,none⟩) xs.length cap))(hI:∀j x,xs[j]?=some x→w.cell? (ae b (off+j))=some (ci x)):CallsIn Fence.wide 8 Tryz.prog 166 #[zn,.func (.func 124) #[] #[pt Bs]] w fun e w'=>∃v,e=.returned v∧w'.ownsRow w.heap.size 3 1 v xs.length (xs.map (Value.int .i64))∧Below w.heap.size w w':=by
 have HC:=qh hc;have HI:=qh hI;clear hc hI;refine callsIn_of_wp_marks Tryz.func166 rfl trivial ?_ rfl;simp only[Tryz.ntmps166,List.size_toArray,List.length_cons,List.length_nil,Nat.reduceAdd,Nat.reduceSub,Array.replicate_succ,Array.replicate_zero,List.push_toArray,List.append_toArray,List.nil_append,List.cons_append]
 gi_wp2_with fail
 obtain⟨i0,hi0,hz0,hz1,hz2⟩:=info_parts b7d;have bS:Boxed (w.alloc (.cells #[zn] 26)) w.heap.size 26 (zn):=Boxed.new _ _ _;have bb:Below w.heap.size w (w.alloc (.cells #[zn] 26)):=(Below.refl _ _).alloc (nlr _) _;have hsz:(w.alloc (.cells #[zn] 26)).heap.size=w.heap.size+1:=by simp
 generalize w.alloc (.cells #[zn] 26)=W0 at *
 refine wpIn_rangeFunc_ownG rfl (by omega) (gf:=124) (lb:=#[pt Bs]) rfl trivial (enters_of Tryz.func124 (by kernel_rfl) rfl)
  (b1v 7 (by omega) Bs w.heap.size b off cap xs hm hb W0 (by omega) (by omega) ((bb.cell (p:=⟨Bs,0,none⟩) hBs).trans HC.o) (fun j x hx=>(bb.cell (p:=⟨b,off+j,none⟩) hb).trans (HI.o j x hx))) belowK_t (belowK_b (by omega)) (Below.refl _ _) (fun _=>rfl)
  (FI w) (fun _ _ _=>False) (c9u (by omega)) (fun c s A B row h _ _=>h.elim)
  ⟨⟨_,bS,World.ownsRow_nil _ _ _ _⟩,bb⟩
  (fun x=>{tmps:=#[zn,.func (.func 124) #[] #[pt Bs],pt w.heap.size,undef,zn,ci x,.func (.func 124) #[] #[pt Bs],ci x,undef,undef,undef,undef,undef],defers:=[]}) ?assign ?body ?done ?stop
 case assign=>
  intro l x W K hK
  gi_wp2
  exact hK
 case body=>
  rintro l pre x W ⟨⟨v,hv,ho⟩,hB⟩ hlp;have c0:=hv.cell;have HV:=qh hv;have HO:=qh (ho.alloc (.cells #[ci x] 3));have HBL:=qh hB;have hlt:=hv.lt;have hbase:w.heap.size+1≤(W.alloc (.cells #[ci x] 3)).heap.size:=by simp;omega
  have KB:=qh (KeepsOthers.alloc W (.cells #[ci x] 3));have BB:=qh ((hB.alloc hB.size (.cells #[ci x] 3)));have VA:=qh (hv.alloc (.cells #[ci x] 3));have hge:=fw ho;have hlt2:=ie ho;clear hv ho hB
  gi_wp2_with (first
   | (gi_at_builtin;go_loud (refine wpListIn_append_own _ rfl _ _ 26 rfl (w.heap.size+1) 3 i0 _ 1 8 Tryz.underlying26 hi0 hz0 hz1 hz2 rfl (by decide) v pre.length (pre.map (Value.int .i64)) rfl HO.o ⟨W.heap.size,0,none⟩ 1 1 [ci x] rfl rfl (cell_one_new _ _ _) (by intro u hu;simp at hu;subst hu;rfl) (by unfold maxLen;omega) (by omega) hbase ?_;intro v3 w3 hown3 hg3 hnil3;obtain⟨g3,c3,rfl⟩:=gl hown3;have HO3:=qh hown3;have hs3:=ab.grown' hg3;have HV3:=qh (show Boxed w3 w.heap.size 26 v from (hs3.block w.heap.size (by simp;omega) (fun h=>by have:=hge w.heap.size (by simpa using h);omega)).trans VA.o);have cf:=HV3.o.frozen;have cc:=HV3.o.cell;have HG3:=qh hg3;have HS3:=qh hs3;clear hown3 hg3 hs3 hnil3))
   | gi_in)
  have hb3:Below w.heap.size W w3:=((Below.refl w.heap.size W).alloc HBL.o.size (.cells #[ci x] 3)).trans (HS3.o.below (by simp;have:=HBL.o.size;omega) (fun b hb=>by have:=hge b (by simpa using hb);omega));have hb4:Below w.heap.size W (w3.setCell ⟨w.heap.size,0,none⟩ (zl g3 (pre.length+1) c3)):=hb3.setCell (nlr _) _;refine⟨((KB.o.trans (KeepsOthers.of_grownBy HG3.o (b9r HO.o))).trans (KeepsOthers.setCell _ _ _)).from _,hb4,⟨_,HV3.o.set _,?_⟩,HBL.o.trans hb4⟩;have:=ru (a:=⟨w.heap.size,0,none⟩) HO3.o (fun b hb=>by have:=fw HO3.o b hb;simp;omega) (zl g3 (pre.length+1) c3)
  simpa using this
 case done=>
  rintro D ys W hD rfl ⟨⟨v,hv,ho⟩,hB⟩ hK;have HO:=qh ho;have HBL:=qh hB;have c0:=hv.cell;have HK:=qh hK;clear hv ho hB hK
  gi_wp2
  refine⟨by simp,.inl ⟨_,_,rfl,run_takeDeferred HK.o,?_⟩⟩;have gP:=grownBy_putObj' W D (.deferred none);refine⟨v,by simp[results,Tryz.f166,go_sem],v,rfl,?_,?_⟩
  ·exact kj (b4f HO.o gP (fun r e=>by cases e;exact⟨_,HK.o,rfl⟩)) (by omega)
  ·exact HBL.o.trans (belowK_b (w:=w) (nlr _) _ D _ _ (by omega) HK.o rfl rfl)
 case stop=>
  rintro D c pre W hD _ h;exact h.elim
theorem b6h(w:World)(Bs b off cap:Nat)(xs:List Int)(hm:xs.length<1000)(hBs:Bs<w.heap.size)(hb:b<w.heap.size)(hc:w.cell? (ae Bs 0)=some (.slice (some ⟨b,off,none⟩) xs.length cap))(hI:∀j x,xs[j]?=some x→w.cell? (ae b (off+j))=some (ci x)):Calls Tryz.prog 122 #[.func (.func 124) #[] #[pt Bs]] w fun e w'=>∃v,e=.returned v∧w'.ownsRow w.heap.size 3 1 v xs.length (xs.map (Value.int .i64))∧Below w.heap.size w w':=by
 have h:=qh (callsIn_wide.1 (b9s w Bs b off cap xs hm hBs hb hc hI));clear hc hI
 go_enter Tryz.func122,Tryz.ntmps122
 go_wp2_with fail;refine h.o.mono ?_;rintro e w' ⟨v,rfl,ho,hb⟩;have HO:=qh ho;have HB:=qh hb;clear ho hb h;go_wp2;go_ret;exact⟨v,rfl,HO.o,HB.o⟩
theorem qu(l:List Int):l.flatMap gj=l.map (Value.int .i64):=by
 induction l with
 | nil=>rfl
 | cons x l ih=>rw[List.flatMap_cons,ih];rfl
theorem c3q(w:World)(Bs b off cap:Nat)(xs:List Int)(h1:1≤xs.length)(hm:xs.length<1000)(hBs:Bs<w.heap.size)(hb:b<w.heap.size)(hc:w.cell? (ae Bs 0)=some (.slice (some ⟨b,off,none⟩) xs.length cap))(hI:∀j x,xs[j]?=some x→w.cell? (ae b (off+j))=some (ci x)):Calls Tryz.prog 75 #[.func (.func 124) #[] #[pt Bs]] w fun e w'=>∃(g c:Nat)(l':List Int),e=.returned (zl g l'.length c)∧w.heap.size≤g∧l'.length≤c∧l'.Perm xs∧Arr gj 1 w' g 3 l'∧Below w.heap.size w w':=by
 have h:=qh (b6h w Bs b off cap xs hm hBs hb hc hI);clear hc hI
 go_enter Tryz.func75,Tryz.ntmps75
 go_wp2_with fail;refine h.o.mono ?_;rintro e w2 ⟨v,rfl,ho,hb2⟩;rw[←qu] at ho;obtain⟨g,c,rfl,hg,hc,hA⟩:=Arr.of_own ho rfl h1;have hs:=qh (c6s w2 g c xs hA (by omega));have HB:=qh hb2;clear ho hb2 h hA;go_wp2_with fail;refine hs.o.mono ?_;rintro e w3 ⟨rfl,l',hp,hs3,hA3⟩;have hb3:=qh (jc HB.o hs3 (by simpa using hg));have HA3:=qh hA3;have hpl:=hp.length_eq;have HP:=qh hp;clear hs3 hA3 hp hs;go_wp2;go_ret;exact⟨g,c,l',by rw[hpl];rfl,hg,by omega,HP.o,HA3.o,hb3.o⟩
end
end Go.Proofs.YtojkaibpfdhmaaaGreatDoor

/- A region that draws: two operations that wait for nothing, either first. -/
import Derived.Test.YtojkaibpfdhmaaaGreatDoorP00
import Derived.Orders
import Derived.Deep.RegionHeld3
namespace Go.Proofs.YtojkaibpfdhmaaaGreatDoor
open Go.RowKit
set_option maxRecDepth 100000
set_option maxHeartbeats 16000000
section
variable{P:Program}{ops:Array Oper}{Q:Exit→Act→World→Prop}{R:World→World→Prop}{C C':World→Prop}{k:Nat}{dk:Option Tmp}{Fr:Nat→World→Prop}
structure zz(R:World→World→Prop):Prop where
 refl:∀W,R W W
 trans:∀{W W' W''},R W W'→R W' W''→R W W''
structure Ups(R:World→World→Prop)(C:World→Prop):Prop where
 up:∀{W W'},R W W'→C W→C W'
abbrev UD (C : World → Prop) : Prop := Ups (fun W W' => ∃ n, W' = W.drewN n) C
theorem Ups.at{R:World→World→Prop}{C:World→Prop}(_:Ups R C)(W:World)(h:C W):C W:=h
def YRel(P:Program)(ops:Array Oper)(R:World→World→Prop)(C:World→Prop)(o:Oper)(v:Value)(a:Act):Prop:=
 (Region.wanted o (yielded ops a.tmps)=true∧∀w,C w→o.quietAt P a (R w) w v)∨(Region.wanted o (yielded ops a.tmps)=false∧v=undef)
theorem YRel.of_same{o:Oper}{v:Value}{a a':Act}(hy:YRel P ops R C o v a)(he:execOp a'.eval o=execOp a.eval o)(hw:Region.wanted o (yielded ops a'.tmps)=Region.wanted o (yielded ops a.tmps)):YRel P ops R C o v a':=by
 unfold YRel Oper.quietAt at *;rw[he,hw];exact hy
theorem YRel.wpOp{i:Nat}{o:Oper}{v:Value}{a:Act}{W:World}(hR:zz R)(hi:ops[i]?=some o)(hy:YRel P ops R C o v a)(hW:C W){K:Act→World→Prop}(h:∀W',R W W'→K (a.put o.dst v) W'):Go.wpOp P ops Q i K a W:=by
 unfold Go.wpOp;simp only[hi];rcases hy with ⟨hw,hv⟩|⟨hw,rfl⟩
 ·simp only[hw,if_true];refine .inl ?_;have h3:=hv W hW;unfold Oper.quietAt at h3;unfold Oper.wp;generalize (execOp a.eval o).run P W=r at *;cases r with
  | ok n w'=>
   cases n<;>simp only[Oper.quietUpon] at h3<;>simp only[Oper.upon]
   case value u=>obtain⟨e1,e2⟩:=h3;rw[e1,e2];exact h _ (hR.refl _)
   case skip=>obtain⟨e1,e2⟩:=h3;rw[e1,←e2];exact h _ (hR.refl _)
   case enter f args=>
    obtain⟨e1,hc⟩:=h3;rw[e1];exact hc.mono fun e w'' ⟨he,hw''⟩=>by subst he;exact h _ hw''
  | halt x w'=>simp only[Oper.quietUpon] at h3
 ·simp only[hw,Bool.false_eq_true,if_false];exact h _ (hR.refl _)
theorem c3k{j:Nat}{d:Option Tmp}{v:Value}{oj:Oper}(hj:ops[j]?=some oj)(h1:∀x,d=some x→x∉oj.looksAt ops)(h2:∀x,d=some x→oj.dst≠some x)(hsj:∀cs b,oj.op≠.select cs b)(hQ:∀ch a w,¬ Q (.panic ch) a w){K:Act→World→Prop}{a:Act}{W:World}(h:wpOp P ops Q j K (a.put d v) W):wpOp P ops Q j (fun a' W'=>K (a'.put d v) W'∧∃u ds,a'=({a with defers:=ds}:Act).put oj.dst u) a W:=by
 unfold wpOp at *;simp only[hj] at *;rw[wanted_put oj a d v h1] at h;have hcomm:∀u,(a.put d v).put oj.dst u=(a.put oj.dst u).put d v:=fun u=>Act.put_comm a v u h2
 have hcd:∀(x:Deferred),({a.put d v with defers:=x::(a.put d v).defers}:Act).put oj.dst undef=(({a with defers:=x::a.defers}:Act).put oj.dst undef).put d v:=fun x=>by
  rw[Act.put_defers];exact Act.put_comm _ v undef h2
 split
 ·rename_i hw
  simp only[hw,if_true] at h;unfold Oper.wp Oper.asks at *;rw[execOp_put oj hsj a d v h1] at h;refine Or.elim h (fun h=>.inl ?_) .inr;generalize (execOp a.eval oj).run P W=r at h ⊢;cases r with
  | ok n w'=>
   cases n<;>simp only[Oper.upon] at h ⊢
   case value u=>rw[hcomm u] at h;exact⟨h,u,a.defers,rfl⟩
   case skip=>rw[hcomm undef] at h;exact⟨h,undef,a.defers,rfl⟩
   case defer x=>rw[hcd x] at h;exact⟨h,undef,_,rfl⟩
   case enter f args=>
    refine Calls.mono h (fun e w'' he=>?_);cases e with
    | returned u=>simp only at he ⊢;rw[hcomm] at he;exact⟨he,u,a.defers,rfl⟩
    | panicked ch=>exact absurd he (hQ _ _ _)
    | outgrown=>exact he
   case row r args=>exact Rows.mono h (fun u w'' he=>by rw[hcomm] at he;exact⟨he,u,a.defers,rfl⟩)
   all_goals exact h
  | halt x w'=>
   cases x<;>simp only[Oper.upon] at h ⊢
   case panic=>exact absurd h (hQ _ _ _)
   all_goals exact h
 ·rename_i hw
  simp only[hw] at h;simp only[Bool.false_eq_true,if_false] at h;rw[hcomm] at h;exact⟨h,undef,a.defers,rfl⟩
theorem c6v{j:Nat}{d:Option Tmp}{v:Value}{oj:Oper}(hj:ops[j]?=some oj)(h1:∀x,d=some x→x∉oj.looksAt ops)(h2:∀x,d=some x→oj.dst≠some x)(hsj:∀cs b,oj.op≠.select cs b)(hQ:∀ch a w,¬ Q (.panic ch) a w){K:Act→World→Prop}{a:Act}{W:World}(h:wpOp P ops Q j K a W):wpOp P ops Q j (fun a' W'=>∃a'',a'=a''.put d v∧K a'' W') (a.put d v) W:=by
 unfold wpOp at *;simp only[hj] at *;rw[wanted_put oj a d v h1];have hcomm:∀u,(a.put d v).put oj.dst u=(a.put oj.dst u).put d v:=fun u=>Act.put_comm a v u h2
 have hcd:∀(x:Deferred),({a.put d v with defers:=x::(a.put d v).defers}:Act).put oj.dst undef=(({a with defers:=x::a.defers}:Act).put oj.dst undef).put d v:=fun x=>by
  rw[Act.put_defers];exact Act.put_comm _ v undef h2
 split
 ·rename_i hw
  simp only[hw,if_true] at h;unfold Oper.wp Oper.asks at *;rw[execOp_put oj hsj a d v h1];refine Or.elim h (fun h=>.inl ?_) .inr;generalize (execOp a.eval oj).run P W=r at h ⊢;cases r with
  | ok n w'=>
   cases n<;>simp only[Oper.upon] at h ⊢
   case value u=>exact⟨_,hcomm u,h⟩
   case skip=>exact⟨_,hcomm _,h⟩
   case defer x=>exact⟨_,hcd x,h⟩
   case enter f args=>
    refine Calls.mono h (fun e w'' he=>?_);cases e with
    | returned u=>exact⟨_,hcomm u,he⟩
    | panicked ch=>exact absurd he (hQ _ _ _)
    | outgrown=>exact he
   case row r args=>exact Rows.mono h (fun u w'' he=>⟨_,hcomm u,he⟩)
   all_goals exact h
  | halt x w'=>
   cases x<;>simp only[Oper.upon] at h ⊢
   case panic=>exact absurd h (hQ _ _ _)
   all_goals exact h
 ·rename_i hw
  simp only[hw] at h;simp only[Bool.false_eq_true,if_false] at h;exact⟨_,hcomm _,h⟩
theorem qj{listed:Array Bool}{k:Nat}(h:listed.getD k true=false):(listed.setIfInBounds k true).getD k true=true:=by
 rcases Nat.lt_or_ge k listed.size with h'|h'
 ·simp[h']
 ·simp[h'] at h
abbrev ptr0(p:Nat):Value:=pt p
def kp(ops:Array Oper)(listed:Array Bool):Prop:=∀m o,ops[m]?=some o→listed.getD m true=true→∀e∈o.after,Region.binds .any e=true→listed.getD e.on false=true
def b1q(ops:Array Oper)(listed:Array Bool):Bool:=
 (List.range ops.size).all fun m=>!(listed.getD m true)||(match ops[m]? with|some o=>o.after.all (fun e=>!(Region.binds .any e)||listed.getD e.on false)|none=>true)
theorem b3w{listed:Array Bool}(h:b1q ops listed=true):kp ops listed:=by
 intro m o hm hl e he hb;have h1:=List.all_eq_true.1 h m (List.mem_range.2 (Array.getElem?_eq_some_iff.1 hm).1);simp only[hm,hl,Bool.not_true,Bool.false_or,Array.all_eq_true_iff_forall_mem] at h1;have h2:=h1 e he
 simpa[hb] using h2
theorem kp.set{listed:Array Bool}{j:Nat}(h:kp ops listed)(hj:j∈Region.ready .any ops listed):kp ops (listed.setIfInBounds j true):=by
 intro m o hm hl e he hb;refine getD_set_true ?_;by_cases c:j=m
 ·subst c;obtain⟨_,o',ho',hall⟩:=mem_ready.1 hj;rw[hm] at ho';cases ho';exact hall e he hb
 ·rw[getD_set_ne true c] at hl;exact h m o hm hl e he hb
theorem kp.none{n:Nat}(h:ops.size=n):kp ops (Array.replicate n false):=by
 intro m o hm hl;have:=(Array.getElem?_eq_some_iff.1 hm).1;rw[Array.getD_eq_getD_getElem?,Array.getElem?_replicate] at hl;simp[h▸this] at hl
def rx(ops:Array Oper)(i:Nat):List Nat:=match ops[i]? with|some o=>(o.after.toList.filter (Region.binds .any)).map (fun e=>e.on)|none=>[]
def mt(ops:Array Oper)(j:Nat):Bool:=
 (List.range ops.size).all fun i=>decide (i=j)||(rx ops j).contains i||(rx ops j).any fun p=>(rx ops p).contains i||(rx ops p).any fun q=>(rx ops q).contains i
theorem yj{i p:Nat}(h:p∈rx ops i):∃o e,ops[i]?=some o∧e∈o.after∧Region.binds .any e=true∧e.on=p:=by
 unfold rx at h
 split at h
 ·rename_i o ho
  simp only[List.mem_map,List.mem_filter] at h;obtain⟨e,⟨h1,h2⟩,h3⟩:=h;exact⟨o,e,ho,by simpa using h1,h2,h3⟩
 ·cases h
theorem vf{listed:Array Bool}{i:Nat}(h:listed.getD i false=true):listed.getD i true=true:=by
 cases h0:listed.getD i true
 ·have h4:=getD_both h0;rw[h4] at h;cases h
 ·rfl
theorem yl{j i:Nat}{listed:Array Bool}(hc:kp ops listed)(h:mt ops j=true)(hj:j∈Region.ready .any ops listed)(hi:i<ops.size)(hne:i≠j):listed.getD i true=true:=by
 obtain⟨_,o,ho,hall⟩:=mem_ready.1 hj;have h1:=List.all_eq_true.1 h i (List.mem_range.2 hi);simp only[Bool.or_eq_true,decide_eq_true_eq,List.any_eq_true] at h1
 have one:∀p,p∈rx ops j→listed.getD p false=true:=fun p hp=>by
  obtain⟨o',e,h2,h3,h4,h5⟩:=yj hp;rw[ho] at h2;cases h2;have:=hall e h3 h4
  rwa [h5] at this
 rcases h1 with (h1|h1)|⟨p,hp,h2⟩
 ·exact absurd h1 hne
 ·exact vf (one i (by simpa using h1))
 ·have two:∀p q,listed.getD p true=true→q∈rx ops p→listed.getD q true=true:=fun p q hp h2=>by
   obtain⟨o',e,h3,h4,h5,h6⟩:=yj h2;have:=hc p o' h3 hp e h4 h5;rw[h6] at this;exact vf this
  rcases h2 with h2|⟨q,hq,h2⟩
  ·exact two p i (vf (one p hp)) (by simpa using h2)
  ·exact two q i (two p q (vf (one p hp)) hq) (by simpa using h2)
theorem b9q{j i:Nat}{listed:Array Bool}(hc:kp ops listed)(h:mt ops j=true)(hj:j∈Region.ready .any ops listed)(hi:i∈Region.ready .any ops listed):i=j:=by
 obtain⟨hun,o,ho,_⟩:=mem_ready.1 hi;by_cases c:i=j
 ·exact c
 ·have:=yl hc h hj (Array.getElem?_eq_some_iff.1 ho).1 c;rw[this] at hun;cases hun
theorem c3l{j:Nat}{listed:Array Bool}(hc:kp ops listed)(h:mt ops j=true)(hj:j∈Region.ready .any ops listed):Region.ready .any ops (listed.setIfInBounds j true)=[]:=by
 refine List.eq_nil_iff_forall_not_mem.2 fun i hi=>?_;obtain⟨hun,o,ho,_⟩:=mem_ready.1 hi;by_cases c:i=j
 ·subst c;rw[qj (mem_ready.1 hj).1] at hun;cases hun
 ·rw[getD_set_ne true (fun e=>c e.symm)] at hun;have:=yl hc h hj (Array.getElem?_eq_some_iff.1 ho).1 c;rw[this] at hun;cases hun
def wpR(P:Program)(ops:Array Oper)(Q:Exit→Act→World→Prop)(R:World→World→Prop)(k:Nat)(dk:Option Tmp)(Fr:Nat→World→Prop)(C:World→Prop):Nat→Array Bool→Act→World→Prop
 | 0,listed,a,W=>Region.ready .any ops listed=[]∧∀W',R W W'→Q .normal a W'
 | f+1,listed,a,W=>Region.ready .any ops listed≠[]∧∀j∈Region.ready .any ops listed,∀W',R W W' →
   (j=k→∀p,Fr p W'→wpR P ops Q R k dk Fr C f (listed.setIfInBounds k true) (a.put dk (ptr0 p)) W') ∧
   (j≠k→wpOp P ops Q j (fun a' W1=>(mt ops j=false→C W1)∧(listed.getD k true=false→∀p,Fr p W'→Fr p W1)∧wpR P ops Q R k dk Fr C f (listed.setIfInBounds j true) a' W1) a W')
theorem c3m(hR:zz R):∀{f:Nat}{listed:Array Bool}{a:Act}{W W':World},wpR P ops Q R k dk Fr C f listed a W→R W W'→wpR P ops Q R k dk Fr C f listed a W'
 | 0,_,_,_,_,h,hr=>⟨h.1,fun W'' hr'=>h.2 W'' (hR.trans hr hr')⟩
 | _+1,_,_,_,_,h,hr=>⟨h.1,fun j hj W'' hr'=>h.2 j hj W'' (hR.trans hr hr')⟩
theorem nj(hC:∀W,C' W→C W):∀{f:Nat}{listed:Array Bool}{a:Act}{W:World},wpR P ops Q R k dk Fr C' f listed a W→wpR P ops Q R k dk Fr C f listed a W
 | 0,_,_,_,h=>h
 | _+1,_,_,_,h=>⟨h.1,fun j hj W' hr=>⟨fun e p hp=>nj hC ((h.2 j hj W' hr).1 e p hp),fun e=>wpOp_mono (fun _ _ ⟨h1,h2,h3⟩=>⟨fun h=>hC _ (h1 h),h2,nj hC h3⟩) ((h.2 j hj W' hr).2 e)⟩⟩
theorem b7r(hR:zz R)(hC:Ups R C)(hAl:k<ops.size→∀(K:Act→World→Prop)(a:Act)(W:World),C W→(∀p W1,R W W1→Fr p W1→K (a.put dk (ptr0 p)) W1)→wpOp P ops Q k K a W):∀(f:Nat){listed:Array Bool}{a:Act}{W:World},kp ops listed→(C W∨Region.ready .any ops listed=[])→wpR P ops Q R k dk Fr C f listed a W→wpAny P .any ops Q f listed a W:=by
 intro f
 induction f with
 | zero=>intro listed a W _ _ h;exact⟨h.1,h.2 W (hR.refl W)⟩
 | succ f ih=>
  intro listed a W hcl hor h;have hCW:C W:=hor.elim (fun h=>h) (fun h0=>absurd h0 h.1);refine⟨fun h0=>absurd h0 h.1,fun j hj=>?_⟩;by_cases e:j=k
  ·subst e;obtain⟨_,o,ho,_⟩:=mem_ready.1 hj;exact hAl (Array.getElem?_eq_some_iff.1 ho).1 _ a W hCW fun p W1 hr hp=>ih (hcl.set hj) (Or.inl (hC.up hr hCW)) ((h.2 j hj W1 hr).1 rfl p hp)
  ·refine wpOp_mono (fun _ _ h3=>ih (hcl.set hj) ?_ h3.2.2) ((h.2 j hj W (hR.refl W)).2 e);cases hl:mt ops j
   ·exact Or.inl (h3.1 hl)
   ·exact Or.inr (c3l hcl hl hj)
theorem b3x(hR:zz R)(hC:Ups R C)(hFr:∀p,Ups R (Fr p))(hQ:∀ch a w,¬ Q (.panic ch) a w){i:Nat}{oi:Oper}{v:Value}(hi:ops[i]?=some oi)(hik:i≠k)(hk:∀o,ops[k]?=some o→o.dst=dk)(hsel:∀(j:Nat)(o:Oper) cs b,ops[j]?=some o→o.op≠.select cs b):∀(f:Nat)(listed:Array Bool)(a:Act)(W:World),kp ops listed →
   (∀j oj,ops[j]?=some oj→j≠i→listed.getD j true=false→(∀e∈oj.after,Region.binds .any e=true→e.on≠i)→oi.apart ops oj=true) →
   i∈Region.ready .any ops listed→C W→YRel P ops R C oi v a →
   wpR P ops Q R k dk Fr C f (listed.setIfInBounds i true) (a.put oi.dst v) W→wpR P ops Q R k dk Fr C (f+1) listed a W:=by
 intro f
 induction f with
 | zero=>
  intro listed a W _ _ hr hCW hy H;refine⟨fun h=>(by rw[h] at hr;cases hr),fun j hj W' hWW=>?_⟩;by_cases hji:j=i
  ·subst hji;exact⟨fun e=>absurd e hik,fun _=>hy.wpOp hR hi (hC.up hWW hCW) fun W1 h1=>⟨fun _=>hC.up h1 (hC.up hWW hCW),fun _ p hp=>(hFr p).up h1 hp,c3m hR H (hR.trans hWW h1)⟩⟩
  ·have:=ready_mono hj hji;rw[H.1] at this;cases this
 | succ f ih=>
  intro listed a W hcl hfree hr hCW hy H;refine⟨fun h=>(by rw[h] at hr;cases hr),fun j hj W' hWW=>?_⟩;by_cases hji:j=i
  ·subst hji;exact⟨fun e=>absurd e hik,fun _=>hy.wpOp hR hi (hC.up hWW hCW) fun W1 h1=>⟨fun _=>hC.up h1 (hC.up hWW hCW),fun _ p hp=>(hFr p).up h1 hp,c3m hR H (hR.trans hWW h1)⟩⟩
  ·have h1:=H.2 j (ready_mono hj hji) W' hWW;obtain⟨hjun,oj,hoj,hall⟩:=mem_ready.1 hj
   have hnot:∀e∈oj.after,Region.binds .any e=true→e.on≠i:=fun e he hb heq=>by
    have h1:=hall e he hb;have h0:=(mem_ready.1 hr).1;rw[heq,getD_both h0] at h1;cases h1
   have hap:=hfree j oj hoj hji hjun hnot;obtain⟨a1,a2,a3⟩:=Oper.apart_spec hap
   have hfree':∀m om,ops[m]?=some om→m≠i→(listed.setIfInBounds j true).getD m true=false →
     (∀e∈om.after,Region.binds .any e=true→e.on≠i)→oi.apart ops om=true:=fun m om hm hmi hun hno=>by
    refine hfree m om hm hmi ?_ hno;by_cases hjm:j=m
    ·subst hjm;exact hjun
    ·rw[getD_set_ne true hjm] at hun;exact hun
   have keep:∀u,YRel P ops R C oi v (a.put oj.dst u):=fun u=>
    hy.of_same (execOp_put oi (fun cs b=>hsel i oi cs b hi) a oj.dst u a3) (wanted_put oi a oj.dst u a3)
   refine⟨fun e p hp=>?_,fun e=>?_⟩
   ·subst e;have hd:=hk oj hoj;refine ih (listed.setIfInBounds j true) (a.put dk (ptr0 p)) W' (hcl.set hj) hfree' (ready_mono hr (Ne.symm hji)) (hC.up hWW hCW) (hd▸keep (ptr0 p)) ?_;have h2:=h1.1 rfl p hp;rw[Array.setIfInBounds_comm _ _ hji,←Act.put_comm a v (ptr0 p) (by rw[←hd];exact a2)];exact h2
   ·refine wpOp_mono ?_ (c3k hoj a1 a2 (fun cs b=>hsel j oj cs b hoj) hQ (h1.2 e));rintro a' W1 ⟨⟨c1',c2,c3⟩,u,ds,rfl⟩
    have hlj:mt ops j=false:=by
     cases hl:mt ops j
     ·rfl
     ·exact absurd (b9q hcl hl hj hr).symm hji
    have c1:=c1' hlj;refine⟨fun _=>c1,fun hk0=>c2 (by rw[getD_set_ne true hik];exact hk0),ih (listed.setIfInBounds j true) _ W1 (hcl.set hj) hfree' (ready_mono hr (Ne.symm hji)) c1 ?_ ?_⟩
    ·refine(keep u).of_same ?_ ?_
     ·have:∀(b:Act),execOp ({b with defers:=ds}:Act).eval oi=execOp b.eval oi:=fun b=>rfl;have e1:=execOp_put oi (fun cs b=>hsel i oi cs b hi) ({a with defers:=ds}:Act) oj.dst u a3;have e2:=execOp_put oi (fun cs b=>hsel i oi cs b hi) a oj.dst u a3;rw[e1,e2]
      rfl
     ·rw[wanted_put oi ({a with defers:=ds}:Act) oj.dst u a3,wanted_put oi a oj.dst u a3]
    ·rw[Array.setIfInBounds_comm _ _ hji];exact c3
theorem uo(hR:zz R)(hFr:∀p,Ups R (Fr p))(hQ:∀ch a w,¬ Q (.panic ch) a w){i:Nat}{oi:Oper}(hi:ops[i]?=some oi)(hik:i≠k)(hk:∀o,ops[k]?=some o→o.dst=dk)(hsel:∀(j:Nat)(o:Oper) cs b,ops[j]?=some o→o.op≠.select cs b)(f:Nat)(listed:Array Bool)(a:Act)(W:World)(hap:∀o,ops[k]?=some o→listed.getD k true=false→o.apart ops oi=true)(hr:i∈Region.ready .any ops listed)(hall:∀j∈Region.ready .any ops listed,j=i∨j=k)(hall2:∀j∈Region.ready .any ops (listed.setIfInBounds k true),j=i)(hf:k∈Region.ready .any ops listed→f≠0)(h:∀W',R W W'→wpOp P ops Q i (fun a' W1=>(mt ops i=false→C W1)∧(listed.getD k true=false→∀p,Fr p W'→Fr p W1)∧wpR P ops Q R k dk Fr C f (listed.setIfInBounds i true) a' W1) a W'):wpR P ops Q R k dk Fr C (f+1) listed a W:=by
 refine⟨fun h=>(by rw[h] at hr;cases hr),fun j hj W' hWW=>⟨fun e p hp=>?_,fun e=>?_⟩⟩
 ·subst e;obtain⟨hun,ok,hok,_⟩:=mem_ready.1 hj;have hd:=hk ok hok;obtain⟨a1,a2,a3⟩:=Oper.apart_spec (hap ok hok hun);have hr2:=ready_mono hr hik;cases f with
  | zero=>exact absurd rfl (hf hj)
  | succ f=>
   refine⟨fun h=>(by rw[h] at hr2;cases hr2),fun m hm W'' hW2=>?_⟩;have hmi:=hall2 m hm;subst hmi;refine⟨fun e=>absurd e hik,fun _=>?_⟩;have h2:=c6v (v:=ptr0 p) hi (hd▸a1) (hd▸a2) (fun cs b=>hsel m oi cs b hi) hQ (h W'' (hR.trans hWW hW2));refine wpOp_mono ?_ h2;rintro a' W1 ⟨a'',rfl,c1,c2,c3⟩;refine⟨c1,fun h0=>absurd h0 (by rw[qj hun];simp),?_⟩;have h3:=(c3.2 j (ready_mono hj (Ne.symm hik)) W1 (hR.refl W1)).1 rfl p (c2 hun p ((hFr p).up hW2 hp));rw[Array.setIfInBounds_comm _ _ hik] at h3;exact h3
 ·rcases hall j hj with rfl|rfl
  ·exact h W' hWW
  ·exact absurd rfl e
theorem b3y(f:Nat)(listed:Array Bool)(a:Act)(W:World)(hr:k∈Region.ready .any ops listed)(hall:∀j∈Region.ready .any ops listed,j=k)(h:∀p W',R W W'→Fr p W'→wpR P ops Q R k dk Fr C f (listed.setIfInBounds k true) (a.put dk (ptr0 p)) W'):wpR P ops Q R k dk Fr C (f+1) listed a W:=
 ⟨fun h=>(by rw[h] at hr;cases hr),fun j hj W' hWW=>⟨fun e p hp=>h p W' hWW hp,fun e=>absurd (hall j hj) e⟩⟩
end
section
variable{P:Program}{ops:Array Oper}{md:Region.Mode}{C:World→Prop}{w:World}
def qk(md:Region.Mode)(ops:Array Oper)(n:Nat)(pre:List Nat):Bool:=
 (List.range n).all fun i=>pre.contains i||(List.range (n+1)).any fun j=>decide (i<j)&&Region.waitsFor md ops j i
theorem uq{n:Nat}{listed:Array Bool}{pre:List Nat}(hs:qk md ops n pre=true)(hc:lx md ops n=true)(hp:∀i∈pre,listed.getD i true=true)(inv:HeadInv md ops n listed):∀(d i:Nat),n-i=d→i<n→listed.getD i true=false→∀t,n≤t→t∉Region.ready md ops listed:=by
 intro d
 induction d using Nat.strongRecOn with
 | _ d ih=>
  intro i hd hi hun t ht hr;obtain⟨_,ot,hot,hall⟩:=mem_ready.1 hr;have htlt:t<ops.size:=(Array.getElem?_eq_some_iff.1 hot).1;by_cases htn:t=n
  ·subst htn;have h1:=List.all_eq_true.1 hs i (List.mem_range.2 hi);rw[Bool.or_eq_true] at h1;rcases h1 with h1|h1
   ·have:=hp i (by simpa using h1);rw[hun] at this;cases this
   ·obtain⟨j,hj,hj2⟩:=List.any_eq_true.1 h1;simp only[Bool.and_eq_true,decide_eq_true_eq] at hj2;obtain⟨oj,hoj,e,he,hb,hon⟩:=Region.waitsFor_spec hj2.2;have hjle:j≤t:=by have:=List.mem_range.1 hj;omega
    by_cases hjt:j=t
    ·subst hjt;have:oj=ot:=Option.some.inj (hoj.symm.trans hot);subst this;have h2:=hall e he hb;rw[hon,getD_both hun] at h2;cases h2
    ·cases hl:listed.getD j false with
     | true=>
      have h2:=inv.closed j oj hoj hl e he hb;rw[hon,getD_both hun] at h2;cases h2
     | false=>
      have hjs:j<listed.size:=by rw[inv.size];omega
      exact ih (t-j) (by omega) j rfl (by omega) (getD_in hjs hl) t (nlr _) hr
  ·have h1:=List.all_eq_true.1 hc t (List.mem_range.2 htlt);simp only[Bool.or_eq_true,decide_eq_true_eq] at h1;rcases h1 with h1|h1
   ·omega
   ·obtain⟨j,hj,hj2⟩:=List.any_eq_true.1 h1;simp only[Bool.and_eq_true,decide_eq_true_eq] at hj2;obtain⟨o',ho',e,he,hb,hon⟩:=Region.waitsFor_spec hj2.2;have:o'=ot:=Option.some.inj (ho'.symm.trans hot);subst this;have h2:=hall e he hb;rw[hon,getD_both (inv.tail j hj2.1 (by have:=List.mem_range.1 hj;omega))] at h2;cases h2
theorem px{pre:List Nat}{listed:Array Bool}(hp:∀i∈pre,listed.getD i true=true)(j:Nat):∀i∈pre,(listed.setIfInBounds j true).getD i true=true:=by
 intro i hi;by_cases h:j=i
 ·subst h;rcases Nat.lt_or_ge j listed.size with h'|h'
  ·simp[h']
  ·simp
 ·rw[getD_set_ne true h];exact hp i hi
theorem yp{n i:Nat}{oi:Oper}{v:Value}{pre:List Nat}{L:Array Bool→Act→Prop}(hi:ops[i]?=some oi)(hsel:∀(j:Nat)(o:Oper) cs b,ops[j]?=some o→o.op≠.select cs b)(hs:qk md ops n pre=true)(hc:lx md ops n=true)(hin:i<n)(hdone:∀listed a,L listed a→∀j∈Region.ready md ops listed,n≤j):∀(f:Nat)(listed:Array Bool)(a:Act),HeadInv md ops n listed→(∀i∈pre,listed.getD i true=true) →
   (∀j oj,ops[j]?=some oj→j≠i→listed.getD j true=false→(∀e∈oj.after,Region.binds md e=true→e.on≠i)→oi.apart ops oj=true) →
   i∈Region.ready md ops listed→YieldsIn P ops C oi v a →
   kg P md ops C n L f (listed.setIfInBounds i true) (a.put oi.dst v)→kg P md ops C n L (f+1) listed a:=by
 intro f
 induction f with
 | zero=>
  intro listed a inv hp _ hr hy H;have hun:=(mem_ready.1 hr).1;refine⟨fun h=>(by rw[h] at hr;cases hr),fun j hj=>?_⟩
  have hjn:j<n:=by
   rcases Nat.lt_or_ge j n with h|h
   ·exact h
   ·exact absurd hj (uq hs hc hp inv _ i rfl hin hun j h)
  refine⟨hjn,?_⟩;by_cases hji:j=i
  ·subst hji;exact hy.qOp hi H
  ·have:=hdone _ _ H j (ready_mono hj hji);omega
 | succ f ih=>
  intro listed a inv hp hfree hr hy H;have hun:=(mem_ready.1 hr).1;refine⟨fun h=>(by rw[h] at hr;cases hr),fun j hj=>?_⟩
  have hjn:j<n:=by
   rcases Nat.lt_or_ge j n with h|h
   ·exact h
   ·exact absurd hj (uq hs hc hp inv _ i rfl hin hun j h)
  refine⟨hjn,?_⟩;by_cases hji:j=i
  ·subst hji;exact hy.qOp hi H
  ·have h1:=(H.2 j (ready_mono hj hji)).2;obtain⟨hjun,oj,hoj,hall⟩:=mem_ready.1 hj
   have hnot:∀e∈oj.after,Region.binds md e=true→e.on≠i:=fun e he hb heq=>by
    have h1:=hall e he hb;rw[heq,getD_both hun] at h1;cases h1
   have h2:=qOp_put hoj (hfree j oj hoj hji hjun hnot) (fun cs b=>hsel i oi cs b hi) (fun cs b=>hsel j oj cs b hoj) hy h1
   have hfree':∀k ok,ops[k]?=some ok→k≠i→(listed.setIfInBounds j true).getD k true=false →
     (∀e∈ok.after,Region.binds md e=true→e.on≠i)→oi.apart ops ok=true:=fun k ok hk hki hun hno=>by
    refine hfree k ok hk hki ?_ hno;by_cases hjk:j=k
    ·subst hjk;exact hjun
    ·rw[getD_set_ne true hjk] at hun;exact hun
   refine qOp_mono (fun a' h3=>ih (listed.setIfInBounds j true) a' (inv.set hj hjn) (px hp j) hfree' (ready_mono hr (Ne.symm hji)) h3.1 ?_) h2;rw[Array.setIfInBounds_comm _ _ hji];exact h3.2
def lexI(md:Region.Mode)(ops:Array Oper)(n:Nat):List Nat→Array Bool→Bool
 | [],listed=>endB md ops n listed
 | k::r,listed=>decide (k<n)&&(Region.ready md ops listed).contains k&&Region.free md ops listed k&&lexI md ops n r (listed.setIfInBounds k true)
def gm(ops:Array Oper)(l:List Nat):List Oper:=l.filterMap fun i=>ops[i]?
theorem ry{n:Nat}{pre:List Nat}{Lq:Act→Prop}(hsel:Region.noSelect ops=true)(hs:qk md ops n pre=true)(hc:lx md ops n=true):∀(l:List Nat)(listed:Array Bool)(a:Act),(∀i∈pre,listed.getD i true=true)→HeadInv md ops n listed →
  lexI md ops n l listed=true→wpQuiet P ops C Lq (gm ops l) a →
  kg P md ops C n (fun listed' a'=>endB md ops n listed'=true∧Lq a') l.length listed a
 | [],listed,a,_,_,hB,h=>⟨by simpa[lexI] using hB,h⟩
 | k::l,listed,a,hp,inv,hB,h=>by
  simp only[lexI,Bool.and_eq_true,decide_eq_true_eq] at hB;obtain⟨⟨⟨hkn,hr⟩,hf⟩,hB'⟩:=hB;have hr':k∈Region.ready md ops listed:=by simpa using hr
  obtain⟨_,o,h0,_⟩:=mem_ready.1 hr';have hop:gm ops (k::l)=o::gm ops l:=by simp[gm,h0]
  rw[hop] at h;have hst:qOp P ops C k (wpQuiet P ops C Lq (gm ops l)) a:=by unfold qOp;simp only[h0];exact h
  obtain⟨v,hy,hK⟩:=yieldsIn_of_qOp h0 hst
  exact yp h0 (Region.noSelect_spec hsel) hs hc hkn (fun listed' a' hL=>ww hL.1) l.length listed a inv hp (Region.free_spec h0 hf) hr' hy
   (ry hsel hs hc l _ _ (px hp k) (inv.set hr' hkn) hB' hK)
def b7s(o:Oper):Bool:=o.guard.isNone&&match o.op with
 | .move _=>true
 | _=>false
def b3z(md:Region.Mode)(ops:Array Oper)(n:Nat)(hd:List Nat):List Nat→Array Bool→Bool
 | [],listed=>lexI md ops n hd listed
 | k::r,listed=>decide (k<n)&&(Region.ready md ops listed).contains k&&Region.free md ops listed k&&(match ops[k]? with|some o=>b7s o|none=>false)&&b3z md ops n hd r (listed.setIfInBounds k true)
theorem ur{o:Oper}(h:b7s o=true){i:Nat}(hi:ops[i]?=some o){a:Act}{K:Act→Prop}(hC:C w)(hq:qOp P ops C i K a):∃v,Yields P ops o v a∧K (a.put o.dst v):=by
 unfold b7s at h;simp only[Bool.and_eq_true] at h;obtain⟨hg,h⟩:=h;have hg:=Option.isNone_iff_eq_none.1 hg
 split at h
 ·rename_i x hx
  obtain⟨v,hy,hK⟩:=yieldsIn_of_qOp hi hq;have hw:Region.wanted o (yielded ops a.tmps)=true:=by simp[Region.wanted,hg]
  rcases hy with ⟨_,hy⟩|⟨hn,_⟩
  ·have:=hy w hC;unfold Oper.quietAt at this;rw[BigFrame.run_move x hx] at this;have hv:a.eval x=v:=this.2;subst hv;exact⟨_,Or.inl ⟨hw,fun w'=>BigFrame.run_move x hx w'⟩,hK⟩
  ·rw[hw] at hn;cases hn
 ·cases h
theorem yr{n:Nat}{pre0:List Nat}{Q:Exit→Act→World→Prop}{hd:List Nat}(hsel:Region.noSelect ops=true)(hs:qk md ops n pre0=true)(hc:lx md ops n=true)(hn:n<ops.size)(hC:C w)(hQ:∀c a d v w,Q (.panic c) (a.put d v) w→Q (.panic c) a w):∀(p don:List Nat)(listed:Array Bool)(a:Act),pre0=don++p→(∀i∈don,listed.getD i true=true)→HeadInv md ops n listed→b3z md ops n hd p listed=true →
   wpQuiet P ops C (fun a'=>∀w',C w'→wpList P ops Q (ops.toList.drop n) a' w') (gm ops (p++hd)) a→wpAny P md ops Q (hd.length+(ops.size-n)+p.length) listed a w
 | [],don,listed,a,he,hp,inv,hB,h=>by
  rw[List.append_nil] at he;subst he;have H:=ry hsel hs hc hd listed a hp inv (by simpa[b3z] using hB) h;exact kh (Q':=Q) (g:=ops.size-n) (fun listed a' w' hC' hL=>b0f hn hL.1 (hL.2 w' hC')) _ _ _ _ hC H
 | k::p,don,listed,a,he,hp,inv,hB,h=>by
  simp only[b3z,Bool.and_eq_true,decide_eq_true_eq] at hB;obtain⟨⟨⟨⟨hkn,hr⟩,hf⟩,hm⟩,hB'⟩:=hB;have hr':k∈Region.ready md ops listed:=by simpa using hr
  obtain⟨_,o,h0,_⟩:=mem_ready.1 hr';rw[h0] at hm;have hop:gm ops ((k::p)++hd)=o::gm ops (p++hd):=by simp[gm,h0]
  rw[hop] at h;have hst:qOp P ops C k (wpQuiet P ops C (fun a'=>∀w',C w'→wpList P ops Q (ops.toList.drop n) a' w') (gm ops (p++hd))) a:=by unfold qOp;simp only[h0];exact h
  obtain⟨v,hy,hK⟩:=ur hm h0 hC hst;have hfuel:hd.length+(ops.size-n)+(k::p).length=(hd.length+(ops.size-n)+p.length)+1:=by simp;omega
  rw[hfuel];refine wpAny_first h0 (Region.noSelect_spec hsel) (fun c a w h=>hQ c a _ _ w h) _ listed a w (Region.free_spec h0 hf) hr' hy ?_;refine yr hsel hs hc hn hC hQ p (don++[k]) _ _ (by simp[he]) ?_ (inv.set hr' hkn) hB' hK;intro i hi;rw[List.mem_append] at hi;rcases hi with hi|hi
  ·exact px hp k i hi
  ·have:i=k:=by simpa using hi
   subst this;rcases Nat.lt_or_ge i listed.size with h'|h'
   ·simp[h']
   ·simp
def qr:List Oper→List Oper
 | o::_=>[o]
 | []=>[]
def rv(l:List Oper):List Nat→List Oper
 | []=>[]
 | i::r=>qr (l.drop i)++rv l r
theorem rz(l:List Oper):∀p,rv l p=gm l.toArray p
 | []=>rfl
 | i::r=>by
  have h:qr (l.drop i)=(l[i]?).toList:=by
   rcases Nat.lt_or_ge i l.length with h|h
   ·rw[List.drop_eq_getElem_cons h];simp[qr,h]
   ·rw[List.drop_eq_nil_of_le h];simp[qr,h]
  unfold rv;rw[rz l r,h];unfold gm;rw[List.filterMap_cons];cases hh:l[i]? with
  | none=>simp[hh]
  | some o=>simp[hh]
def yt(md:Region.Mode)(ops:Array Oper)(pre hd:List Nat)(n:Nat):Bool:=
 Region.noSelect ops&&decide (n<ops.size)&&decide (pre.length+hd.length=n)&&qk md ops n pre&&lx md ops n&&b3z md ops n hd pre (Array.replicate ops.size false)
theorem qd{id:Nat}{Q:Exit→Act→World→Prop}{a:Act}{l:List Oper}(C:World→Prop)(pre hd:List Nat)(n:Nat)(hm:P.follows .mixedOrders=true)(hB:yt .any l.toArray pre hd n=true)(hC:C {w with drawn:=w.drawn+1})(h:wpQuiet P l.toArray C (fun a'=>∀w',C w'→wpList P l.toArray (NoPanic Q) (l.drop n) a' w') (rv l (pre++hd)) a):(Code.region id l.toArray true).wp P Q a w:=by
 simp only[yt,Bool.and_eq_true,decide_eq_true_eq] at hB;obtain⟨⟨⟨⟨⟨hsel,hn⟩,hlen⟩,hs⟩,hc⟩,hlex⟩:=hB
 have inv0:HeadInv .any l.toArray n (Array.replicate l.toArray.size false):=
  ⟨by simp,fun j oj _ hl=>(by rw[getD_replicate_false] at hl;cases hl),fun t _ ht=>getD_in (by simpa using ht) (getD_replicate_false _ _)⟩
 refine wp_region_noPanic ?_;refine wp_region_any hm ?_;have H:=yr (md:=.any) (C:=C) (Q:=NoPanic Q) hsel hs hc hn hC (fun _ _ _ _ _ h=>h) pre [] _ a (by simp) (by intro i hi;cases hi) inv0 hlex (by rw[←rz];simpa using h)
 rwa [show hd.length+(l.toArray.size-n)+pre.length=l.toArray.size by omega] at H
end
section
variable{P:Program}{ops:Array Oper}{Q:Exit→Act→World→Prop}{R:World→World→Prop}{C C':World→Prop}{k:Nat}{dk:Option Tmp}{Fr:Nat→World→Prop}
structure RG(ops:Array Oper)(Q:Exit→Act→World→Prop)(R:World→World→Prop)(k:Nat)(dk:Option Tmp)(Fr:Nat→World→Prop):Prop where
 goes:zz R
 fr:∀p,Ups R (Fr p)
 quiet:∀ch a w,¬ Q (.panic ch) a w
 dst:∀o,ops[k]?=some o→o.dst=dk
 sel:Region.noSelect ops=true
def b1r:List Nat→Array Bool→Array Bool
 | [],listed=>listed
 | i::l,listed=>b1r l (listed.setIfInBounds i true)
def pick(ops:Array Oper)(l:List Nat):List Oper:=l.filterMap (ops[·]?)
def ob(ops:Array Oper)(k:Nat):List Nat→Array Bool→Bool
 | [],_=>true
 | i::l,listed=>(Region.ready .any ops listed).contains i&&Region.free .any ops listed i&&decide (i≠k)&&ob ops k l (listed.setIfInBounds i true)
def b4a(N:Nat):List Oper→Bool
 | []=>true
 | o::l=>(match o.dst with|some d=>decide (d<N)&&l.all (fun o'=>o'.dst != some d)|none=>false)&&b4a N l
theorem c3n(a:Act)(d:Option Tmp)(v:Value):(a.put d v).tmps.size=a.tmps.size:=by cases d<;>simp[Act.put]
theorem od{Cw:World→Prop}{aF:Act}{d:Tmp}:∀(os:List Oper)(a:Act),wpQuiet P ops Cw (fun a'=>a'=aF) os a→os.all (fun o'=>o'.dst != some d)=true→aF.tmps.getD d undef=a.tmps.getD d undef
 | [],a,h,_=>by have h:a=aF:=h;rw[h]
 | o::os,a,h,hd=>by
  simp only[List.all_cons,Bool.and_eq_true,bne_iff_ne,ne_eq] at hd
  have key:∀v,(a.put o.dst v).tmps.getD d undef=a.tmps.getD d undef:=fun v=>by
   cases ho:o.dst with
   | none=>rfl
   | some e=>
    have hne:e≠d:=fun he=>hd.1 (by rw[ho,he]);simp[Act.put,Array.getElem?_setIfInBounds_ne hne]
  unfold wpQuiet at h;by_cases hw:Region.wanted o (yielded ops a.tmps)=true
  ·rw[if_pos hw] at h;obtain⟨v,_,h2⟩:=h;rw[od os _ h2 hd.2];exact key v
  ·rw[if_neg hw] at h;rw[od os _ h hd.2];exact key undef
theorem b4b(S:RG ops Q R k dk Fr)(hC:Ups R C){aF:Act}:∀(l:List Nat)(os:List Oper)(f:Nat)(listed:Array Bool)(a:Act)(W:World),
  kp ops listed→ob ops k l listed=true→l.map (fun i=>ops[i]?)=os.map some→b4a a.tmps.size os=true→C W →
  (∀W',C W'→wpQuiet P ops (R W') (fun a'=>a'=aF) os a)→wpR P ops Q R k dk Fr C f (b1r l listed) aF W→wpR P ops Q R k dk Fr C (f+l.length) listed a W
 | [],[],f,listed,a,W,_,_,_,_,hCW,h,hn=>by
  have:a=aF:=h W hCW;rw[this];exact hn
 | [],_::_,_,_,_,_,_,_,ho,_,_,_,_=>by simp at ho
 | _::_,[],_,_,_,_,_,_,ho,_,_,_,_=>by simp at ho
 | i::l,o::os,f,listed,a,W,hcl,hB,ho,hd,hCW,h,hn=>by
  simp only[ob,Bool.and_eq_true,decide_eq_true_eq] at hB;obtain⟨⟨⟨hr,hf⟩,hik⟩,hB'⟩:=hB;simp only[List.map_cons,List.cons.injEq] at ho;obtain⟨hi,ho'⟩:=ho;simp only[b4a,Bool.and_eq_true] at hd;obtain⟨hd1,hd2⟩:=hd;cases hod:o.dst with
  | none=>rw[hod] at hd1;simp at hd1
  | some d=>
   rw[hod] at hd1;simp only[Bool.and_eq_true,decide_eq_true_eq] at hd1;have slot:∀v,(a.put o.dst v).tmps.getD d undef=v:=fun v=>by rw[hod];simp[Act.put,hd1.1]
   obtain⟨v,hy,hnext⟩:∃v,YRel P ops R C o v a∧∀W',C W'→wpQuiet P ops (R W') (fun a'=>a'=aF) os (a.put o.dst v):=by
    by_cases hw:Region.wanted o (yielded ops a.tmps)=true
    ·refine⟨aF.tmps.getD d undef,.inl ⟨hw,fun W' hW'=>?_⟩,fun W' hW'=>?_⟩
     ·have h1:=h W' hW';unfold wpQuiet at h1;rw[if_pos hw] at h1;obtain⟨v,h2,h3⟩:=h1;rw[od os _ h3 hd1.2,slot];exact h2 W' (S.goes.refl _)
     ·have h1:=h W' hW';unfold wpQuiet at h1;rw[if_pos hw] at h1;obtain⟨v,h2,h3⟩:=h1;have e:aF.tmps.getD d undef=v:=by rw[od os _ h3 hd1.2,slot]
      rw[e];exact h3
    ·refine⟨undef,.inr ⟨by simpa using hw,rfl⟩,fun W' hW'=>?_⟩;have h1:=h W' hW';unfold wpQuiet at h1;rw[if_neg hw] at h1;exact h1
   have hrec:=b4b S hC l os f (listed.setIfInBounds i true) (a.put o.dst v) W (hcl.set (by simpa using hr)) hB' ho' (by rw[c3n];exact hd2) hCW hnext hn;exact b3x S.goes hC S.fr S.quiet hi hik S.dst (Region.noSelect_spec S.sel) (f+l.length) listed a W hcl (Region.free_spec hi hf) (by simpa using hr) hCW hy hrec
theorem b4c:∀(l:List Nat)(listed:Array Bool),ob ops k l listed=true→l.map (fun i=>ops[i]?)=(pick ops l).map some
 | [],_,_=>rfl
 | i::l,listed,h=>by
  simp only[ob,Bool.and_eq_true] at h;obtain⟨_,o,ho,_⟩:=mem_ready.1 (by simpa using h.1.1.1:i∈Region.ready .any ops listed);have:=b4c l _ h.2;simp only[pick,List.map_cons,List.filterMap_cons,ho,this]
theorem pq(S:RG ops Q R k dk Fr)(hC:Ups R C)(l:List Nat)(N f:Nat)(listed:Array Bool)(a:Act)(W:World)(hB:(b1q ops listed&&ob ops k l listed)=true)(hd:b4a N (pick ops l)=true)(hN:a.tmps.size=N)(hCW:C W)(h:∃aF,(∀W',C W'→wpQuiet P ops (R W') (fun a'=>a'=aF) (pick ops l) a)∧wpR P ops Q R k dk Fr C f (b1r l listed) aF W):wpR P ops Q R k dk Fr C (f+l.length) listed a W:=by
 obtain⟨aF,h1,h2⟩:=h;simp only[Bool.and_eq_true] at hB;exact b4b S hC l (pick ops l) f listed a W (b3w hB.1) hB.2 (b4c l listed hB.2) (hN▸hd) hCW h1 h2
def gx(ops:Array Oper)(k i f:Nat)(listed:Array Bool):Bool:=
 (Region.ready .any ops listed).contains i&&(Region.ready .any ops listed).all (fun j=>decide (j=i∨j=k))&&(Region.ready .any ops (listed.setIfInBounds k true)).all (fun j=>decide (j=i)) &&
 decide (i≠k)&&(match ops[k]?,ops[i]? with|some ok,some oi=>listed.getD k true||(ok.apart ops oi&&decide (f≠0))|_,_=>true)
def jh(K:Act→World→Prop)(Q:Exit→Act→World→Prop):Exit→Act→World→Prop
 | .normal,a,w=>K a w
 | e,a,w=>Q e a w
theorem my{K:Act→World→Prop}(h:LetsOut (jh K Q)):LetsOut Q:=h
theorem yu{K:Act→World→Prop}{o:Oper}{a:Act}{W:World}(h:o.wp P a W K (jh K Q)):o.wp P a W K Q:=by
 unfold Oper.wp at *;generalize (execOp a.eval o).run P W=r at *;cases r with
 | ok n w'=>
  cases n<;>simp only[Oper.upon] at h ⊢
  case enter f args=>
   refine Calls.mono h (fun e w'' he=>?_);cases e with
   | returned u=>exact he
   | panicked ch=>exact he
   | outgrown=>exact he
  all_goals exact h
 | halt x w'=>cases x<;>simp only[Oper.upon] at h ⊢<;>exact h
theorem b0n(S:RG ops Q R k dk Fr)(hCC:∀W,C' W→C W)(i:Nat)(oi:Oper)(f:Nat)(listed:Array Bool)(a:Act)(W:World)(hi:ops[i]?=some oi)(hB:gx ops k i f listed=true)(h:∀W',R W W'→∀K:Act→World→Prop,(∀a' W1,C' W1→(listed.getD k true=false→∀p,Fr p W'→Fr p W1)→wpR P ops Q R k dk Fr C' f (listed.setIfInBounds i true) a' W1→K a' W1)→wpList P ops (jh K Q) [oi] a W'):wpR P ops Q R k dk Fr C (f+1) listed a W:=by
 simp only[gx,Bool.and_eq_true,decide_eq_true_eq,List.all_eq_true] at hB;obtain⟨⟨⟨⟨h1,h2⟩,h3⟩,h4⟩,h5⟩:=hB;refine uo S.goes S.fr S.quiet hi h4 S.dst (Region.noSelect_spec S.sel) f listed a W ?_ (by simpa using h1) h2 h3 ?_ ?_
 ·intro o ho hun;rw[ho,hi] at h5;simp only[hun,Bool.false_or,Bool.and_eq_true] at h5;exact h5.1
 ·intro hk;obtain⟨hun,o,ho,_⟩:=mem_ready.1 hk;rw[ho,hi] at h5;simp only[hun,Bool.false_or,Bool.and_eq_true,decide_eq_true_eq] at h5;exact h5.2
 ·intro W' hW;have h6:=h W' hW (fun a' W1=>(mt ops i=false→C W1)∧(listed.getD k true=false→∀p,Fr p W'→Fr p W1)∧wpR P ops Q R k dk Fr C f (listed.setIfInBounds i true) a' W1) (fun a' W1 c1 c2 c3=>⟨fun _=>hCC _ c1,c2,nj hCC c3⟩);unfold wpList at h6;unfold wpOp;simp only[hi];by_cases hw:Region.wanted oi (yielded ops a.tmps)=true
  ·rw[if_pos hw] at h6 ⊢;exact h6.imp yu (fun x=>⟨x.1,my x.2⟩)
  ·rw[if_neg hw] at h6 ⊢;exact h6
theorem b7o(S:RG ops Q R k dk Fr)(hC:Ups R C)(i:Nat)(oi:Oper)(listed:Array Bool)(a:Act)(W:World)(hi:ops[i]?=some oi)(hB:gx ops k i 0 listed=true)(hL:mt ops i=true)(hl:listed.getD k true=true)(hCW:C W)(h:∀W',R W W'→C W'→∀K:Act→World→Prop,(∀a' W1,wpR P ops Q R k dk Fr C 0 (listed.setIfInBounds i true) a' W1→K a' W1)→wpList P ops (jh K Q) [oi] a W'):wpR P ops Q R k dk Fr C (0+1) listed a W:=by
 simp only[gx,Bool.and_eq_true,decide_eq_true_eq,List.all_eq_true] at hB;obtain⟨⟨⟨⟨h1,h2⟩,h3⟩,h4⟩,h5⟩:=hB;refine uo S.goes S.fr S.quiet hi h4 S.dst (Region.noSelect_spec S.sel) 0 listed a W ?_ (by simpa using h1) h2 h3 ?_ ?_
 ·intro o ho hun;rw[ho,hi] at h5;simp only[hun,Bool.false_or,Bool.and_eq_true] at h5;exact h5.1
 ·intro hk;obtain⟨hun,o,ho,_⟩:=mem_ready.1 hk;rw[ho,hi] at h5;simp only[hun,Bool.false_or,Bool.and_eq_true,decide_eq_true_eq] at h5;exact h5.2
 ·intro W' hW;have h6:=h W' hW (hC.up hW hCW) (fun a' W1=>(mt ops i=false→C W1)∧(listed.getD k true=false→∀p,Fr p W'→Fr p W1)∧wpR P ops Q R k dk Fr C 0 (listed.setIfInBounds i true) a' W1) (fun a' W1 c3=>⟨fun h=>(by rw[hL] at h;cases h),fun h0=>(by rw[hl] at h0;cases h0),c3⟩);unfold wpList at h6;unfold wpOp;simp only[hi];by_cases hw:Region.wanted oi (yielded ops a.tmps)=true
  ·rw[if_pos hw] at h6 ⊢;exact h6.imp yu (fun x=>⟨x.1,my x.2⟩)
  ·rw[if_neg hw] at h6 ⊢;exact h6
theorem kf(S:RG ops Q R k dk Fr)(hC:Ups R C)(hCC:∀W,C' W→C W)(i:Nat)(oi:Oper)(f:Nat)(listed:Array Bool)(a:Act)(W:World)(hi:ops[i]?=some oi)(hB:gx ops k i f listed=true)(hl:listed.getD k true=true)(hCW:C W)(h:∀W',R W W'→C W'→∀K:Act→World→Prop,(∀a' W1,C' W1→wpR P ops Q R k dk Fr C' f (listed.setIfInBounds i true) a' W1→K a' W1)→wpList P ops (jh K Q) [oi] a W'):wpR P ops Q R k dk Fr C (f+1) listed a W:=
 b0n S hCC i oi f listed a W hi hB fun W' hW K hK=>h W' hW (hC.up hW hCW) K fun a' W1 h1 h2=>hK a' W1 h1 (fun h0=>by rw[hl] at h0;cases h0) h2
theorem ud(S:RG ops Q R k dk Fr)(hC:Ups R C)(i:Nat)(oi:Oper)(f:Nat)(listed:Array Bool)(a:Act)(W:World)(hi:ops[i]?=some oi)(hB:gx ops k i f listed=true)(hl:listed.getD k true=true)(hCW:C W)(h:∀W',R W W'→C W'→∀K:Act→World→Prop,(∀(C':World→Prop) a' W1,(∀W,C' W→C W)→C' W1→wpR P ops Q R k dk Fr C' f (listed.setIfInBounds i true) a' W1→K a' W1)→wpList P ops (jh K Q) [oi] a W'):wpR P ops Q R k dk Fr C (f+1) listed a W:=
 kf S hC (fun _ h=>h) i oi f listed a W hi hB hl hCW fun W' hW hc K hK=>h W' hW hc K fun _ a' W1 hcc h1 h2=>hK a' W1 (hcc _ h1) (nj hcc h2)
theorem ip(hC:Ups R C)(f:Nat)(listed:Array Bool)(a:Act)(W:World)(hB:(Region.ready .any ops listed==[k])=true)(hCW:C W)(h:∀p W',R W W'→C W'→Fr p W'→wpR P ops Q R k dk Fr C f (listed.setIfInBounds k true) (a.put dk (pt p)) W'):wpR P ops Q R k dk Fr C (f+1) listed a W:=by
 have hB:Region.ready .any ops listed=[k]:=by simpa using hB
 exact b3y f listed a W (by rw[hB];simp) (fun j hj=>by rw[hB] at hj;simpa using hj) fun p W' h1 h2=>h p W' h1 (hC.up h1 hCW) h2
theorem c2o(listed:Array Bool)(a:Act)(W:World)(hB:(Region.ready .any ops listed).isEmpty=true)(h:∀W',R W W'→Q .normal a W'):wpR P ops Q R k dk Fr C 0 listed a W:=
 ⟨by simpa using hB,h⟩
theorem aj:zz (fun W W'=>∃n,W'=W.drewN n):=⟨fun W=>⟨0,rfl⟩,fun {W W' W''} ⟨n,h1⟩ ⟨m,h2⟩=>⟨n+m,by rw[h2,h1,World.drewN_drewN]⟩⟩
theorem gz:zz (fun W W'=>∃g:ag W,W'=g.to):=⟨fun W=>⟨⟨W,Below.refl _ _⟩,rfl⟩,fun {W W' W''} ⟨g,h1⟩ ⟨g',h2⟩=>by
 subst h1;exact⟨⟨g'.to,g.2.trans (g'.2.mono g.2.size)⟩,h2⟩⟩
theorem a7{W W':World}(h:∃g:ag W,W'=g.to):Below W.heap.size W W':=by obtain⟨g,rfl⟩:=h;exact g.2
theorem ei{id:Nat}{a:Act}{w:World}{l:List Oper}(R:World→World→Prop)(hR:zz R)(C:World→Prop)(hC:Ups R C)(hC0:C w.drew)(hm:P.follows .mixedOrders=true)(hB:Region.noSelect l.toArray=true)(h:RG l.toArray (NoPanic Q) R l.length none (fun _ _=>False)→wpR P l.toArray (NoPanic Q) R l.length none (fun _ _=>False) C l.length (Array.replicate l.length false) a w.drew):(Code.region id l.toArray true).wp P Q a w:=by
 refine wp_region_noPanic (wp_region_any hm ?_);have S:RG l.toArray (NoPanic Q) R l.length none (fun _ _=>False):=⟨hR,fun _=>⟨fun _ h=>h⟩,fun _ _ _ h=>h,fun o ho=>by simp at ho,hB⟩;have:=b7r (k:=l.length) (dk:=none) (Fr:=fun _ _=>False) hR hC (fun h=>by simp at h) _ (kp.none (by simp)) (Or.inl hC0) (h S)
 simpa using this
theorem b0a{id:Nat}{a:Act}{w:World}{l:List Oper}(k:Nat)(dk:Option Tmp)(Fr:Nat→World→Prop)(C:World→Prop)(hC:∀{W W':World},C W→Below W.heap.size W W'→C W')(hC0:C w.drew)(hm:P.follows .mixedOrders=true)(hB:Region.noSelect l.toArray=true)(hd:(l[k]?).map (·.dst)=some dk)(hF:∀p {W W':World},Fr p W→Below W.heap.size W W'→Fr p W')(hAl:∀(K:Act→World→Prop)(a:Act)(W:World),C W→(∀p W1,Below W.heap.size W W1→Fr p W1→K (a.put dk (ptr0 p)) W1)→wpOp P l.toArray (NoPanic Q) k K a W)(h:RG l.toArray (NoPanic Q) (fun W W'=>∃g:ag W,W'=g.to) k dk Fr→wpR P l.toArray (NoPanic Q) (fun W W'=>∃g:ag W,W'=g.to) k dk Fr C l.length (Array.replicate l.length false) a w.drew):(Code.region id l.toArray true).wp P Q a w:=by
 refine wp_region_noPanic (wp_region_any hm ?_)
 have S:RG l.toArray (NoPanic Q) (fun W W'=>∃g:ag W,W'=g.to) k dk Fr:=⟨gz,fun p=>⟨fun {W W'} ⟨g,hg⟩ h=>by subst hg;exact hF p h g.2⟩,fun _ _ _ h=>h,fun o ho=>by
  have:l[k]?=some o:=by simpa using ho
  rw[this] at hd
  simpa using hd,hB⟩
 have:=b7r (k:=k) (dk:=dk) (Fr:=Fr) gz ⟨fun {W W'} ⟨g,hg⟩ hc=>by subst hg;exact hC hc g.2⟩ (fun _ K a W hCW hK=>hAl K a W hCW fun p W1 hb hp=>hK p W1 ⟨⟨W1,hb⟩,rfl⟩ hp) _ (kp.none (by simp)) (Or.inl hC0) (h S)
 simpa using this
inductive FlP(P:Program)(ops:Array Oper)(Q:Exit→Act→World→Prop)(R:World→World→Prop)(k:Nat)(dk:Option Tmp)(Fr:Nat→World→Prop)(C:World→Prop)(f:Nat)(listed:Array Bool)(os:List Oper)(a:Act)(W:World):Prop
 | mk (aF:Act) (h1:∀W',C W'→wpQuiet P ops (R W') (fun a'=>a'=aF) os a) (h2:wpR P ops Q R k dk Fr C f listed aF W):FlP P ops Q R k dk Fr C f listed os a W
theorem ao(S:RG ops Q R k dk Fr)(hC:Ups R C)(l:List Nat)(N f:Nat){listed:Array Bool}{a:Act}{W:World}(hCW:C W)(h:FlP P ops Q R k dk Fr C f (b1r l listed) (pick ops l) a W)(hB:(b1q ops listed&&ob ops k l listed)=true:=by kernel_rfl)(hd:b4a N (pick ops l)=true:=by kernel_rfl)(hN:a.tmps.size=N:=by rfl):wpR P ops Q R k dk Fr C (f+l.length) listed a W:=by
 obtain⟨aF,h1,h2⟩:=h;exact pq S hC l N f listed a W hB hd hN hCW ⟨aF,h1,h2⟩
theorem iy(S:RG ops Q R k dk Fr)(hC:Ups R C)(i f:Nat){oi:Oper}{listed:Array Bool}{a:Act}{W:World}(hi:ops[i]?=some oi)(hCW:C W)(h:∀W',R W W'→C W'→∀K:Act→World→Prop,(∀a' W1,C W1→wpR P ops Q R k dk Fr C f (listed.setIfInBounds i true) a' W1→K a' W1)→wpList P ops (jh K Q) [oi] a W')(hB:gx ops k i f listed=true:=by kernel_rfl)(hl:listed.getD k true=true:=by kernel_rfl):wpR P ops Q R k dk Fr C (f+1) listed a W:=kf S hC (fun _ h=>h) i oi f listed a W hi hB hl hCW h
theorem b2r(S:RG ops Q R k dk Fr)(_:Ups R C)(i f:Nat){oi:Oper}{listed:Array Bool}{a:Act}{W:World}(hi:ops[i]?=some oi)(h:∀W',R W W'→∀K:Act→World→Prop,(∀a' W1,C W1→(listed.getD k true=false→∀p,Fr p W'→Fr p W1)→wpR P ops Q R k dk Fr C f (listed.setIfInBounds i true) a' W1→K a' W1)→wpList P ops (jh K Q) [oi] a W')(hB:gx ops k i f listed=true:=by kernel_rfl):wpR P ops Q R k dk Fr C (f+1) listed a W:=b0n S (fun _ h=>h) i oi f listed a W hi hB h
theorem jt{listed:Array Bool}{a:Act}{W:World}(h:∀W',R W W'→Q .normal a W')(hB:(Region.ready .any ops listed).isEmpty=true:=by kernel_rfl):wpR P ops Q R k dk Fr C 0 listed a W:=c2o listed a W hB h
theorem dw{id:Nat}{a:Act}{w:World}{l:List Oper}(hR:zz R)(hC:Ups R C)(hC0:C w.drew)(h:RG l.toArray (NoPanic Q) R l.length none (fun _ _=>False)→wpR P l.toArray (NoPanic Q) R l.length none (fun _ _=>False) C l.length (Array.replicate l.length false) a w.drew)(hm:P.follows .mixedOrders=true:=by kernel_rfl)(hB:Region.noSelect l.toArray=true:=by kernel_rfl):(Code.region id l.toArray true).wp P Q a w:=
 ei R hR C hC hC0 hm hB h
theorem tx{id:Nat}{a:Act}{w:World}{l:List Oper}(k:Nat)(dk:Option Tmp)(W0:World)(ty:TypeId)(cs:Array Value){C:World→Prop}(hU:Ups (fun W W'=>∃g:ag W,W'=g.to) C)(hC0:C w.drew)(hAl:∀(K:Act→World→Prop)(a:Act)(W:World),C W→(∀p W1,Below W.heap.size W W1→(W0.heap.size≤p∧Row W1 p ty cs)→K (a.put dk (ptr0 p)) W1)→wpOp P l.toArray (NoPanic Q) k K a W)(h:RG l.toArray (NoPanic Q) (fun W W'=>∃g:ag W,W'=g.to) k dk (fun p W=>W0.heap.size≤p∧Row W p ty cs)→wpR P l.toArray (NoPanic Q) (fun W W'=>∃g:ag W,W'=g.to) k dk (fun p W=>W0.heap.size≤p∧Row W p ty cs) C l.length (Array.replicate l.length false) a w.drew)(hm:P.follows .mixedOrders=true:=by kernel_rfl)(hB:Region.noSelect l.toArray=true:=by kernel_rfl)(hd:(l[k]?).map (·.dst)=some dk:=by exact rfl):(Code.region id l.toArray true).wp P Q a w:=
 b0a k dk (fun p W=>W0.heap.size≤p∧Row W p ty cs) C (fun h hb=>hU.up ⟨⟨_,hb⟩,rfl⟩ h) hC0 hm hB hd (fun _ _ _ h hb=>⟨h.1,h.2.bel hb⟩) hAl h
end
section
variable{P:Program}{ops:Array Oper}{md:Region.Mode}{C:World→Prop}{w:World}
def sg(md:Region.Mode)(ops:Array Oper)(n:Nat):Bool:=
 (List.range ops.size).all fun t=>decide (t<n)||Region.waitsFor md ops t (n-1)||(List.range t).any fun j=>decide (n≤j)&&Region.waitsFor md ops t j
theorem ut{n:Nat}{listed:Array Bool}{pre:List Nat}(hn0:0<n)(hs:qk md ops (n-1) pre=true)(hc:sg md ops n=true)(hp:∀i∈pre,listed.getD i true=true)(inv:HeadInv md ops n listed)(hns:n≤ops.size):∀i,i<n→listed.getD i true=false→∀t,n≤t→t∉Region.ready md ops listed:=by
 have key:∀(d i:Nat),n-1-i=d→i<n→listed.getD i true=false→listed.getD (n-1) true=false:=by
  intro d
  induction d using Nat.strongRecOn with
  | _ d ih=>
   intro i hd hi hun;by_cases he:i=n-1
   ·subst he;exact hun
   ·have h1:=List.all_eq_true.1 hs i (List.mem_range.2 (by omega));rw[Bool.or_eq_true] at h1;rcases h1 with h1|h1
    ·have:=hp i (by simpa using h1);rw[hun] at this;cases this
    ·obtain⟨j,hj,hj2⟩:=List.any_eq_true.1 h1;simp only[Bool.and_eq_true,decide_eq_true_eq] at hj2;obtain⟨oj,hoj,e,he,hb,hon⟩:=Region.waitsFor_spec hj2.2;have hjle:j≤n-1:=by have:=List.mem_range.1 hj;omega
     cases hl:listed.getD j false with
     | true=>
      have h2:=inv.closed j oj hoj hl e he hb;rw[hon,getD_both hun] at h2;cases h2
     | false=>
      have hjs:j<listed.size:=by rw[inv.size];omega
      exact ih (n-1-j) (by omega) j rfl (by omega) (getD_in hjs hl)
 intro i hi hun t ht hr;have hlast:=key _ i rfl hi hun;obtain⟨_,ot,hot,hall⟩:=mem_ready.1 hr;have htlt:t<ops.size:=(Array.getElem?_eq_some_iff.1 hot).1;have h1:=List.all_eq_true.1 hc t (List.mem_range.2 htlt);simp only[Bool.or_eq_true,decide_eq_true_eq] at h1;rcases h1 with (h1|h1)|h1
 ·omega
 ·obtain⟨o',ho',e,he,hb,hon⟩:=Region.waitsFor_spec h1;have:o'=ot:=Option.some.inj (ho'.symm.trans hot);subst this;have h2:=hall e he hb;rw[hon,getD_both hlast] at h2;cases h2
 ·obtain⟨j,hj,hj2⟩:=List.any_eq_true.1 h1;simp only[Bool.and_eq_true,decide_eq_true_eq] at hj2;obtain⟨o',ho',e,he,hb,hon⟩:=Region.waitsFor_spec hj2.2;have:o'=ot:=Option.some.inj (ho'.symm.trans hot);subst this;have h2:=hall e he hb;rw[hon,getD_both (inv.tail j hj2.1 (by have:=List.mem_range.1 hj;omega))] at h2;cases h2
theorem yv{n i:Nat}{oi:Oper}{v:Value}{pre:List Nat}{L:Array Bool→Act→Prop}(hi:ops[i]?=some oi)(hsel:∀(j:Nat)(o:Oper) cs b,ops[j]?=some o→o.op≠.select cs b)(hn0:0<n)(hs:qk md ops (n-1) pre=true)(hc:sg md ops n=true)(hns:n≤ops.size)(hin:i<n)(hdone:∀listed a,L listed a→∀j∈Region.ready md ops listed,n≤j):∀(f:Nat)(listed:Array Bool)(a:Act),HeadInv md ops n listed→(∀i∈pre,listed.getD i true=true) →
   (∀j oj,ops[j]?=some oj→j≠i→listed.getD j true=false→(∀e∈oj.after,Region.binds md e=true→e.on≠i)→oi.apart ops oj=true) →
   i∈Region.ready md ops listed→YieldsIn P ops C oi v a →
   kg P md ops C n L f (listed.setIfInBounds i true) (a.put oi.dst v)→kg P md ops C n L (f+1) listed a:=by
 intro f
 induction f with
 | zero=>
  intro listed a inv hp _ hr hy H;have hun:=(mem_ready.1 hr).1;refine⟨fun h=>(by rw[h] at hr;cases hr),fun j hj=>?_⟩
  have hjn:j<n:=by
   rcases Nat.lt_or_ge j n with h|h
   ·exact h
   ·exact absurd hj (ut hn0 hs hc hp inv hns i hin hun j h)
  refine⟨hjn,?_⟩;by_cases hji:j=i
  ·subst hji;exact hy.qOp hi H
  ·have:=hdone _ _ H j (ready_mono hj hji);omega
 | succ f ih=>
  intro listed a inv hp hfree hr hy H;have hun:=(mem_ready.1 hr).1;refine⟨fun h=>(by rw[h] at hr;cases hr),fun j hj=>?_⟩
  have hjn:j<n:=by
   rcases Nat.lt_or_ge j n with h|h
   ·exact h
   ·exact absurd hj (ut hn0 hs hc hp inv hns i hin hun j h)
  refine⟨hjn,?_⟩;by_cases hji:j=i
  ·subst hji;exact hy.qOp hi H
  ·have h1:=(H.2 j (ready_mono hj hji)).2;obtain⟨hjun,oj,hoj,hall⟩:=mem_ready.1 hj
   have hnot:∀e∈oj.after,Region.binds md e=true→e.on≠i:=fun e he hb heq=>by
    have h1:=hall e he hb;rw[heq,getD_both hun] at h1;cases h1
   have h2:=qOp_put hoj (hfree j oj hoj hji hjun hnot) (fun cs b=>hsel i oi cs b hi) (fun cs b=>hsel j oj cs b hoj) hy h1
   have hfree':∀k ok,ops[k]?=some ok→k≠i→(listed.setIfInBounds j true).getD k true=false →
     (∀e∈ok.after,Region.binds md e=true→e.on≠i)→oi.apart ops ok=true:=fun k ok hk hki hun hno=>by
    refine hfree k ok hk hki ?_ hno;by_cases hjk:j=k
    ·subst hjk;exact hjun
    ·rw[getD_set_ne true hjk] at hun;exact hun
   refine qOp_mono (fun a' h3=>ih (listed.setIfInBounds j true) a' (inv.set hj hjn) (px hp j) hfree' (ready_mono hr (Ne.symm hji)) h3.1 ?_) h2;rw[Array.setIfInBounds_comm _ _ hji];exact h3.2
def seqI(md:Region.Mode)(ops:Array Oper):List Nat→Array Bool→Bool
 | [],listed=>decide (Region.ready md ops listed=[])
 | t::r,listed=>decide (Region.ready md ops listed=[t])&&seqI md ops r (listed.setIfInBounds t true)
theorem yx{Q:Exit→Act→World→Prop}:∀(tl:List Nat)(listed:Array Bool)(a:Act)(w:World),seqI md ops tl listed=true→wpList P ops Q (gm ops tl) a w→wpAny P md ops Q tl.length listed a w
 | [],_,_,_,hB,h=>⟨by simpa[seqI] using hB,h⟩
 | t::r,listed,a,w,hB,h=>by
  simp only[seqI,Bool.and_eq_true,decide_eq_true_eq] at hB;have htr:t∈Region.ready md ops listed:=by rw[hB.1];simp
  obtain⟨_,o,h0,_⟩:=mem_ready.1 htr;have hop:gm ops (t::r)=o::gm ops r:=by simp[gm,h0]
  rw[hop] at h;have hw:wpOp P ops Q t (wpList P ops Q (gm ops r)) a w:=by unfold wpOp;simp only[h0];exact h
  refine⟨fun h1=>(by rw[hB.1] at h1;cases h1),fun i hi=>?_⟩;rw[hB.1] at hi;have hin:i=t:=by simpa using hi
  subst hin;exact wpOp_mono (fun a' w' h'=>yx r _ a' w' hB.2 h') hw
theorem b1s{Q:Exit→Act→World→Prop}{o:Oper}(h:nu o=true){a:Act}{K:Act→World→Prop}(hw:o.wp P a w K Q∨(o.asks P a w∧LetsOut Q)):∃v,Yields P ops o v a∧K (a.put o.dst v) w:=by
 have hp:=h;unfold nu at h;simp only[Bool.and_eq_true] at h;obtain⟨hg,h⟩:=h;have hg:=Option.isNone_iff_eq_none.1 hg;have hwt:Region.wanted o (yielded ops a.tmps)=true:=by simp[Region.wanted,hg]
 split at h
 ·rename_i x hx
  rcases hw with hw|hw
  ·unfold Oper.wp at hw;rw[BigFrame.run_move x hx] at hw;exact⟨_,Or.inl ⟨hwt,fun w'=>BigFrame.run_move x hx w'⟩,by simpa[Oper.upon] using hw⟩
  ·exfalso
   have:=hw.1.1;unfold execOp at this;rw[hx] at this;exact Array.not_mem_empty _ this
 ·rename_i x hx
  rcases hw with hw|hw
  ·unfold Oper.wp at hw;rw[BigFrame.run_assign x hx] at hw;exact⟨_,Or.inl ⟨hwt,fun w'=>BigFrame.run_assign x hx w'⟩,by simpa[Oper.upon] using hw⟩
  ·exfalso
   have:=hw.1.1;unfold execOp at this;rw[hx] at this;exact Array.not_mem_empty _ this
 ·rename_i x k hx
  unfold Oper.wp Oper.asks at hw;unfold execOp at hw;rw[hx] at hw;simp only[Instr.extract] at hw
  split at hw
  ·rename_i vs heq
   split at hw
   ·rename_i v hv
    have hrun:∀w',(execOp a.eval o).run P w'=.ok (.value v) w':=by
     intro w';unfold execOp;rw[hx];simp[Instr.extract,heq,hv]
    rcases hw with hw|hw
    ·exact⟨v,Or.inl ⟨hwt,hrun⟩,by simpa[Oper.upon,hv] using hw⟩
    ·exact(Array.not_mem_empty _ hw.1.1).elim
   ·rcases hw with hw|hw
    ·exact(hw:False).elim
    ·exact(Array.not_mem_empty _ hw.1.1).elim
  ·rcases hw with hw|hw
   ·exact(hw:False).elim
   ·exact(Array.not_mem_empty _ hw.1.1).elim
 ·cases h
def midB(md:Region.Mode)(ops:Array Oper)(tl:List Nat):List Nat→Array Bool→Bool
 | [],listed=>seqI md ops tl listed
 | k::r,listed=>(Region.ready md ops listed).contains k&&Region.free md ops listed k&&(match ops[k]? with|some o=>nu o|none=>false)&&midB md ops tl r (listed.setIfInBounds k true)
theorem b0o{Q:Exit→Act→World→Prop}(hsel:Region.noSelect ops=true)(hQ:∀c a d v w,Q (.panic c) (a.put d v) w→Q (.panic c) a w){tl:List Nat}:∀(mid:List Nat)(listed:Array Bool)(a:Act)(w:World),
  midB md ops tl mid listed=true→wpList P ops Q (gm ops (mid++tl)) a w→wpAny P md ops Q (tl.length+mid.length) listed a w
 | [],listed,a,w,hB,h=>yx tl listed a w (by simpa[midB] using hB) h
 | k::r,listed,a,w,hB,h=>by
  simp only[midB,Bool.and_eq_true] at hB;obtain⟨⟨⟨hr,hf⟩,hp⟩,hB'⟩:=hB;have hr':k∈Region.ready md ops listed:=by simpa using hr
  obtain⟨_,o,h0,_⟩:=mem_ready.1 hr';rw[h0] at hp;have hop:gm ops ((k::r)++tl)=o::gm ops (r++tl):=by simp[gm,h0]
  rw[hop] at h
  have hg:o.guard=none:=by
   have h1:=hp;unfold nu at h1;simp only[Bool.and_eq_true] at h1;exact Option.isNone_iff_eq_none.1 h1.1
  have hwt:Region.wanted o (yielded ops a.tmps)=true:=by simp[Region.wanted,hg]
  unfold wpList at h;rw[if_pos hwt] at h;obtain⟨v,hy,hK⟩:=b1s hp h;have hfuel:tl.length+(k::r).length=(tl.length+r.length)+1:=by simp;omega
  rw[hfuel];exact wpAny_first h0 (Region.noSelect_spec hsel) (fun c a w h=>hQ c a _ _ w h) _ listed a w (Region.free_spec h0 hf) hr' hy (b0o hsel hQ r _ _ w hB' hK)
def vg(md:Region.Mode)(ops:Array Oper)(n:Nat)(mid tl:List Nat)(listed:Array Bool):Bool:=(Region.ready md ops listed).all (fun j=>decide (n≤j))&&midB md ops tl mid listed
def lexM(md:Region.Mode)(ops:Array Oper)(n:Nat)(mid tl:List Nat):List Nat→Array Bool→Bool
 | [],listed=>vg md ops n mid tl listed
 | k::r,listed=>decide (k<n)&&(Region.ready md ops listed).contains k&&Region.free md ops listed k&&lexM md ops n mid tl r (listed.setIfInBounds k true)
theorem si{n:Nat}{pre mid tl:List Nat}{Lq:Act→Prop}(hsel:Region.noSelect ops=true)(hn0:0<n)(hs:qk md ops (n-1) pre=true)(hc:sg md ops n=true)(hns:n≤ops.size):∀(l:List Nat)(listed:Array Bool)(a:Act),(∀i∈pre,listed.getD i true=true)→HeadInv md ops n listed →
  lexM md ops n mid tl l listed=true→wpQuiet P ops C Lq (gm ops l) a →
  kg P md ops C n (fun listed' a'=>vg md ops n mid tl listed'=true∧Lq a') l.length listed a
 | [],listed,a,_,_,hB,h=>⟨by simpa[lexM] using hB,h⟩
 | k::l,listed,a,hp,inv,hB,h=>by
  simp only[lexM,Bool.and_eq_true,decide_eq_true_eq] at hB;obtain⟨⟨⟨hkn,hr⟩,hf⟩,hB'⟩:=hB;have hr':k∈Region.ready md ops listed:=by simpa using hr
  obtain⟨_,o,h0,_⟩:=mem_ready.1 hr';have hop:gm ops (k::l)=o::gm ops l:=by simp[gm,h0]
  rw[hop] at h;have hst:qOp P ops C k (wpQuiet P ops C Lq (gm ops l)) a:=by unfold qOp;simp only[h0];exact h
  obtain⟨v,hy,hK⟩:=yieldsIn_of_qOp h0 hst
  refine yv h0 (Region.noSelect_spec hsel) hn0 hs hc hns hkn (fun listed' a' hL j hj=>?_) l.length listed a inv hp (Region.free_spec h0 hf) hr' hy
   (si hsel hn0 hs hc hns l _ _ (px hp k) (inv.set hr' hkn) hB' hK)
  have h1:=hL.1;unfold vg at h1;simp only[Bool.and_eq_true,List.all_eq_true,decide_eq_true_eq] at h1;exact h1.1 j hj
def b4d(md:Region.Mode)(ops:Array Oper)(n:Nat)(mid tl hd:List Nat):List Nat→Array Bool→Bool
 | [],listed=>lexM md ops n mid tl hd listed
 | k::r,listed=>decide (k<n)&&(Region.ready md ops listed).contains k&&Region.free md ops listed k&&(match ops[k]? with|some o=>b7s o|none=>false)&&b4d md ops n mid tl hd r (listed.setIfInBounds k true)
theorem uu{n:Nat}{pre0 mid tl hd:List Nat}{Q:Exit→Act→World→Prop}(hsel:Region.noSelect ops=true)(hn0:0<n)(hs:qk md ops (n-1) pre0=true)(hc:sg md ops n=true)(hns:n≤ops.size)(hC:C w)(hQ:∀c a d v w,Q (.panic c) (a.put d v) w→Q (.panic c) a w):∀(p don:List Nat)(listed:Array Bool)(a:Act),pre0=don++p→(∀i∈don,listed.getD i true=true)→HeadInv md ops n listed→b4d md ops n mid tl hd p listed=true →
   wpQuiet P ops C (fun a'=>∀w',C w'→wpList P ops Q (gm ops (mid++tl)) a' w') (gm ops (p++hd)) a→wpAny P md ops Q (hd.length+(tl.length+mid.length)+p.length) listed a w
 | [],don,listed,a,he,hp,inv,hB,h=>by
  rw[List.append_nil] at he;subst he;have H:=si hsel hn0 hs hc hns hd listed a hp inv (by simpa[b4d] using hB) h;refine kh (Q':=Q) (g:=tl.length+mid.length) (fun listed a' w' hC' hL=>?_) _ _ _ _ hC H;have h1:=hL.1;unfold vg at h1;simp only[Bool.and_eq_true] at h1;exact b0o hsel hQ mid listed a' w' h1.2 (hL.2 w' hC')
 | k::p,don,listed,a,he,hp,inv,hB,h=>by
  simp only[b4d,Bool.and_eq_true,decide_eq_true_eq] at hB;obtain⟨⟨⟨⟨hkn,hr⟩,hf⟩,hm⟩,hB'⟩:=hB;have hr':k∈Region.ready md ops listed:=by simpa using hr
  obtain⟨_,o,h0,_⟩:=mem_ready.1 hr';rw[h0] at hm;have hop:gm ops ((k::p)++hd)=o::gm ops (p++hd):=by simp[gm,h0]
  rw[hop] at h;have hst:qOp P ops C k (wpQuiet P ops C (fun a'=>∀w',C w'→wpList P ops Q (gm ops (mid++tl)) a' w') (gm ops (p++hd))) a:=by unfold qOp;simp only[h0];exact h
  obtain⟨v,hy,hK⟩:=ur hm h0 hC hst;have hfuel:hd.length+(tl.length+mid.length)+(k::p).length=(hd.length+(tl.length+mid.length)+p.length)+1:=by simp;omega
  rw[hfuel];refine wpAny_first h0 (Region.noSelect_spec hsel) (fun c a w h=>hQ c a _ _ w h) _ listed a w (Region.free_spec h0 hf) hr' hy ?_;refine uu hsel hn0 hs hc hns hC hQ p (don++[k]) _ _ (by simp[he]) ?_ (inv.set hr' hkn) hB' hK;intro i hi;rw[List.mem_append] at hi;rcases hi with hi|hi
  ·exact px hp k i hi
  ·have:i=k:=by simpa using hi
   subst this;rcases Nat.lt_or_ge i listed.size with h'|h'
   ·simp[h']
   ·simp
def b4e(md:Region.Mode)(ops:Array Oper)(pre hd:List Nat)(n:Nat)(mid tl:List Nat):Bool:=
 Region.noSelect ops&&decide (0<n)&&decide (n≤ops.size)&&decide (hd.length+(tl.length+mid.length)+pre.length=ops.size)&&qk md ops (n-1) pre&&sg md ops n&&b4d md ops n mid tl hd pre (Array.replicate ops.size false)
theorem mg{id:Nat}{Q:Exit→Act→World→Prop}{a:Act}{l:List Oper}(C:World→Prop)(pre hd:List Nat)(n:Nat)(mid tl:List Nat)(hm:P.follows .mixedOrders=true)(hB:b4e .any l.toArray pre hd n mid tl=true)(hC:C {w with drawn:=w.drawn+1})(h:wpQuiet P l.toArray C (fun a'=>∀w',C w'→wpList P l.toArray (NoPanic Q) (rv l (mid++tl)) a' w') (rv l (pre++hd)) a):(Code.region id l.toArray true).wp P Q a w:=by
 simp only[b4e,Bool.and_eq_true,decide_eq_true_eq] at hB;obtain⟨⟨⟨⟨⟨⟨hsel,hn0⟩,hns⟩,hlen⟩,hs⟩,hc⟩,hlex⟩:=hB
 have inv0:HeadInv .any l.toArray n (Array.replicate l.toArray.size false):=
  ⟨by simp,fun j oj _ hl=>(by rw[getD_replicate_false] at hl;cases hl),fun t _ ht=>getD_in (by simpa using ht) (getD_replicate_false _ _)⟩
 refine wp_region_noPanic ?_;refine wp_region_any hm ?_;rw[rz,rz] at h;have H:=uu (md:=.any) (C:=C) (Q:=NoPanic Q) hsel hn0 hs hc hns hC (fun _ _ _ _ _ h=>h) pre [] _ a (by simp) (by intro i hi;cases hi) inv0 hlex h
 rwa [hlen] at H
end
section
variable{P:Program}{ops:Array Oper}{Q:Exit→Act→World→Prop}{R:World→World→Prop}{k:Nat}{dk:Option Tmp}{Fr:Nat→World→Prop}{C C':World→Prop}
theorem b6e(hC:Ups R C)(hCC:∀W,C' W→C W)(i j:Nat)(oi oj:Oper)(f:Nat)(listed:Array Bool)(a:Act)(W:World)(hi:ops[i]?=some oi)(hj:ops[j]?=some oj)(hB:((Region.ready .any ops listed==[i,j])&&decide (i≠k)&&decide (j≠k))=true)(hl:listed.getD k true=true)(hCW:C W)(h1:∀W',R W W'→C W'→∀K:Act→World→Prop,(∀a' W1,C' W1→wpR P ops Q R k dk Fr C' f (listed.setIfInBounds i true) a' W1→K a' W1)→wpList P ops (jh K Q) [oi] a W')(h2:∀W',R W W'→C W'→∀K:Act→World→Prop,(∀a' W1,C' W1→wpR P ops Q R k dk Fr C' f (listed.setIfInBounds j true) a' W1→K a' W1)→wpList P ops (jh K Q) [oj] a W'):wpR P ops Q R k dk Fr C (f+1) listed a W:=by
 simp only[Bool.and_eq_true,decide_eq_true_eq,beq_iff_eq] at hB;obtain⟨⟨hB,hik⟩,hjk⟩:=hB
 have one:∀(m:Nat)(om:Oper),ops[m]?=some om→(∀W',R W W'→C W'→∀K:Act→World→Prop,(∀a' W1,C' W1→wpR P ops Q R k dk Fr C' f (listed.setIfInBounds m true) a' W1→K a' W1)→wpList P ops (jh K Q) [om] a W')→∀W',R W W'→wpOp P ops Q m (fun a' W1=>(mt ops m=false→C W1)∧(listed.getD k true=false→∀p,Fr p W'→Fr p W1)∧wpR P ops Q R k dk Fr C f (listed.setIfInBounds m true) a' W1) a W':=fun m om hm h W' hW=>by
  have h6:=h W' hW (hC.up hW hCW) (fun a' W1=>(mt ops m=false→C W1)∧(listed.getD k true=false→∀p,Fr p W'→Fr p W1)∧wpR P ops Q R k dk Fr C f (listed.setIfInBounds m true) a' W1) (fun a' W1 c1 c3=>⟨fun _=>hCC _ c1,fun h0=>(by rw[hl] at h0;cases h0),nj hCC c3⟩);unfold wpList at h6;unfold wpOp;simp only[hm];by_cases hw:Region.wanted om (yielded ops a.tmps)=true
  ·rw[if_pos hw] at h6 ⊢;exact h6.imp yu (fun x=>⟨x.1,my x.2⟩)
  ·rw[if_neg hw] at h6 ⊢;exact h6
 refine⟨by rw[hB];simp,fun m hm W' hW=>?_⟩;rw[hB] at hm;simp only[List.mem_cons,List.not_mem_nil,or_false] at hm;rcases hm with rfl|rfl
 ·exact⟨fun e=>absurd e hik,fun _=>one _ oi hi h1 W' hW⟩
 ·exact⟨fun e=>absurd e hjk,fun _=>one _ oj hj h2 W' hW⟩
theorem rg_b(hC:Ups R C)(i j:Nat)(oi oj:Oper)(f:Nat)(listed:Array Bool)(a:Act)(W:World)(hi:ops[i]?=some oi)(hj:ops[j]?=some oj)(hB:((Region.ready .any ops listed==[i,j])&&decide (i≠k)&&decide (j≠k))=true)(hl:listed.getD k true=true)(hCW:C W)(h1:∀W',R W W'→C W'→∀K:Act→World→Prop,(∀a' W1,C W1→wpR P ops Q R k dk Fr C f (listed.setIfInBounds i true) a' W1→K a' W1)→wpList P ops (jh K Q) [oi] a W')(h2:∀W',R W W'→C W'→∀K:Act→World→Prop,(∀a' W1,C W1→wpR P ops Q R k dk Fr C f (listed.setIfInBounds j true) a' W1→K a' W1)→wpList P ops (jh K Q) [oj] a W'):wpR P ops Q R k dk Fr C (f+1) listed a W:=b6e hC (fun _ h=>h) i j oi oj f listed a W hi hj hB hl hCW h1 h2
end
end Go.Proofs.YtojkaibpfdhmaaaGreatDoor

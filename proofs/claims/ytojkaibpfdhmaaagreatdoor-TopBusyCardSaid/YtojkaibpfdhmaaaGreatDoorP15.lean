/- slices.Sort of numbers: the row holds the same ones. -/
import Derived.Test.YtojkaibpfdhmaaaGreatDoorP13
import Derived.Test.YtojkaibpfdhmaaaGreatDoorP05
namespace Go.Proofs.YtojkaibpfdhmaaaGreatDoor
open Go.RowKit
set_option maxRecDepth 100000
set_option maxHeartbeats 16000000
structure c7j(kind cap rank:Int)(S:List Int)(nw:Nat):Prop where
 p:kind=1→1≤nw∧nw≤64
 s:kind=3→1≤S.length∧S.length≤64∧S.Nodup
 c:kind=4→inB cap 1 15=true∧inB rank 0 255=true
def km(kind cap rank:Int)(S:List Int)(nw:Nat)(w:World)(e:Ending)(w':World):Prop:=
 ∃er:Int,e=.returned (ci er)∧Below w.heap.size w w'∧js er∧(er=0→c7j kind cap rank S nw)∧(kind=0∨kind=2∨(kind=1∧1≤nw∧nw≤64)→er=0)
theorem c6g(topic sub cap rank src mode flags:Int)(free:Bool)(setv:Value)(wa:Option Addr)(nw wc:Nat)(S:List Int)(w:World)(hs:gy gj 1 w setv S):Calls Tryz.prog 59 #[.agg #[ci 0,ci topic,ci sub,ci cap,ci rank,ci src,ci mode,ci flags,.bool free,setv,.slice wa nw wc]] w (km 0 cap rank S nw w):=by
 have hB:=qh (af (brf w) (.cells #[ci 0,ci topic,ci sub,ci cap,ci rank,ci src,ci mode,ci flags,.bool free,setv,.slice wa nw wc] 39));have HS:=qh (hs.bel hB.o);obtain⟨sa,sc,rfl⟩:=hs.len;clear hs
 go_enter Tryz.func59,Tryz.ntmps59
 go_wp2_with fail;go_ret;exact⟨0,rfl,hB.o,⟨by decide,by decide⟩,(fun _=>⟨fun h=>absurd h (by decide),fun h=>absurd h (by decide),fun h=>absurd h (by decide)⟩),(fun _=>rfl)⟩
theorem c6h(topic sub cap rank src mode flags:Int)(free:Bool)(setv:Value)(wa:Option Addr)(nw wc:Nat)(S:List Int)(w:World)(hs:gy gj 1 w setv S):Calls Tryz.prog 59 #[.agg #[ci 2,ci topic,ci sub,ci cap,ci rank,ci src,ci mode,ci flags,.bool free,setv,.slice wa nw wc]] w (km 2 cap rank S nw w):=by
 have hB:=qh (af (brf w) (.cells #[ci 2,ci topic,ci sub,ci cap,ci rank,ci src,ci mode,ci flags,.bool free,setv,.slice wa nw wc] 39));have HS:=qh (hs.bel hB.o);obtain⟨sa,sc,rfl⟩:=hs.len;clear hs
 go_enter Tryz.func59,Tryz.ntmps59
 go_wp2_with fail;go_ret;exact⟨0,rfl,hB.o,⟨by decide,by decide⟩,(fun _=>⟨fun h=>absurd h (by decide),fun h=>absurd h (by decide),fun h=>absurd h (by decide)⟩),(fun _=>rfl)⟩
theorem c6i(topic sub cap rank src mode flags:Int)(free:Bool)(setv:Value)(wa:Option Addr)(nw wc:Nat)(S:List Int)(w:World)(hs:gy gj 1 w setv S):Calls Tryz.prog 59 #[.agg #[ci 5,ci topic,ci sub,ci cap,ci rank,ci src,ci mode,ci flags,.bool free,setv,.slice wa nw wc]] w (km 5 cap rank S nw w):=by
 have hB:=qh (af (brf w) (.cells #[ci 5,ci topic,ci sub,ci cap,ci rank,ci src,ci mode,ci flags,.bool free,setv,.slice wa nw wc] 39));have HS:=qh (hs.bel hB.o);obtain⟨sa,sc,rfl⟩:=hs.len;clear hs
 go_enter Tryz.func59,Tryz.ntmps59
 go_wp2_with fail;go_ret;exact⟨0,rfl,hB.o,⟨by decide,by decide⟩,(fun _=>⟨fun h=>absurd h (by decide),fun h=>absurd h (by decide),fun h=>absurd h (by decide)⟩),(fun _=>rfl)⟩
theorem c6j(topic sub cap rank src mode flags:Int)(free:Bool)(setv:Value)(wa:Option Addr)(nw wc:Nat)(S:List Int)(w:World)(hs:gy gj 1 w setv S):Calls Tryz.prog 59 #[.agg #[ci 6,ci topic,ci sub,ci cap,ci rank,ci src,ci mode,ci flags,.bool free,setv,.slice wa nw wc]] w (km 6 cap rank S nw w):=by
 have hB:=qh (af (brf w) (.cells #[ci 6,ci topic,ci sub,ci cap,ci rank,ci src,ci mode,ci flags,.bool free,setv,.slice wa nw wc] 39));have HS:=qh (hs.bel hB.o);obtain⟨sa,sc,rfl⟩:=hs.len;clear hs
 go_enter Tryz.func59,Tryz.ntmps59
 go_wp2_with fail;go_ret;exact⟨0,rfl,hB.o,⟨by decide,by decide⟩,(fun _=>⟨fun h=>absurd h (by decide),fun h=>absurd h (by decide),fun h=>absurd h (by decide)⟩),(fun _=>rfl)⟩
theorem c6k(topic sub cap rank src mode flags:Int)(free:Bool)(setv:Value)(wa:Option Addr)(nw wc:Nat)(S:List Int)(w:World)(hs:gy gj 1 w setv S):Calls Tryz.prog 59 #[.agg #[ci 9,ci topic,ci sub,ci cap,ci rank,ci src,ci mode,ci flags,.bool free,setv,.slice wa nw wc]] w (km 9 cap rank S nw w):=by
 have hB:=qh (af (brf w) (.cells #[ci 9,ci topic,ci sub,ci cap,ci rank,ci src,ci mode,ci flags,.bool free,setv,.slice wa nw wc] 39));have HS:=qh (hs.bel hB.o);obtain⟨sa,sc,rfl⟩:=hs.len;clear hs
 go_enter Tryz.func59,Tryz.ntmps59
 go_wp2_with fail;go_ret;exact⟨0,rfl,hB.o,⟨by decide,by decide⟩,(fun _=>⟨fun h=>absurd h (by decide),fun h=>absurd h (by decide),fun h=>absurd h (by decide)⟩),(fun _=>rfl)⟩
theorem c6l(topic sub cap rank src mode flags:Int)(free:Bool)(setv:Value)(wa:Option Addr)(nw wc:Nat)(S:List Int)(w:World)(hs:gy gj 1 w setv S):Calls Tryz.prog 59 #[.agg #[ci 1,ci topic,ci sub,ci cap,ci rank,ci src,ci mode,ci flags,.bool free,setv,.slice wa nw wc]] w (km 1 cap rank S nw w):=by
 have hB:=qh (af (brf w) (.cells #[ci 1,ci topic,ci sub,ci cap,ci rank,ci src,ci mode,ci flags,.bool free,setv,.slice wa nw wc] 39));have HS:=qh (hs.bel hB.o);obtain⟨sa,sc,rfl⟩:=hs.len;clear hs;have h1:=qh (j8 nw 1 64)
 go_enter Tryz.func59,Tryz.ntmps59
 cases hq:inB nw 1 64
 ·rw[hq] at h1
  go_wp2_with (first|(go_at_call 58;refine(h1.o _).mono ?_;rintro e w' ⟨rfl,rfl⟩))
  go_ret
  exact⟨17,rfl,hB.o,⟨by decide,by decide⟩,(fun h=>absurd h (by decide)),(fun h=>by
   simp only[inB,decide_eq_false_iff_not] at hq;rcases h with h|h|h
   ·exact absurd h (by decide)
   ·exact absurd h (by decide)
   ·omega)⟩
 ·rw[hq] at h1
  go_wp2_with (first|(go_at_call 58;refine(h1.o _).mono ?_;rintro e w' ⟨rfl,rfl⟩))
  go_ret;simp only[inB,decide_eq_true_eq] at hq;exact⟨0,rfl,hB.o,⟨by decide,by decide⟩,(fun _=>⟨fun _=>by omega,fun h=>absurd h (by decide),fun h=>absurd h (by decide)⟩),(fun _=>rfl)⟩
theorem c6m(topic sub cap rank src mode flags:Int)(free:Bool)(setv:Value)(wa:Option Addr)(nw wc:Nat)(S:List Int)(w:World)(hs:gy gj 1 w setv S):Calls Tryz.prog 59 #[.agg #[ci 4,ci topic,ci sub,ci cap,ci rank,ci src,ci mode,ci flags,.bool free,setv,.slice wa nw wc]] w (km 4 cap rank S nw w):=by
 have hB:=qh (af (brf w) (.cells #[ci 4,ci topic,ci sub,ci cap,ci rank,ci src,ci mode,ci flags,.bool free,setv,.slice wa nw wc] 39));have HS:=qh (hs.bel hB.o);obtain⟨sa,sc,rfl⟩:=hs.len;clear hs;have h1:=qh (j8 cap 1 15);have h2:=qh (j8 rank 0 255)
 go_enter Tryz.func59,Tryz.ntmps59
 cases hq:inB cap 1 15
 ·rw[hq] at h1
  go_wp2_with (first|(go_at_call 58;refine(h1.o _).mono ?_;rintro e w' ⟨rfl,rfl⟩))
  go_ret;exact⟨10,rfl,hB.o,⟨by decide,by decide⟩,(fun h=>absurd h (by decide)),(fun h=>by rcases h with h|h|h;exact absurd h (by decide);exact absurd h (by decide);exact absurd h.1 (by decide))⟩
 ·rw[hq] at h1;cases hr:inB rank 0 255
  ·rw[hr] at h2
   go_wp2_with (first|(go_at_call 58;with_reducible refine(h1.o _).mono ?_;rintro e w' ⟨rfl,rfl⟩)|(go_at_call 58;with_reducible refine(h2.o _).mono ?_;rintro e w' ⟨rfl,rfl⟩))
   go_ret;exact⟨10,rfl,hB.o,⟨by decide,by decide⟩,(fun h=>absurd h (by decide)),(fun h=>by rcases h with h|h|h;exact absurd h (by decide);exact absurd h (by decide);exact absurd h.1 (by decide))⟩
  ·rw[hr] at h2
   go_wp2_with (first|(go_at_call 58;with_reducible refine(h1.o _).mono ?_;rintro e w' ⟨rfl,rfl⟩)|(go_at_call 58;with_reducible refine(h2.o _).mono ?_;rintro e w' ⟨rfl,rfl⟩))
   go_ret;exact⟨0,rfl,hB.o,⟨by decide,by decide⟩,(fun _=>⟨fun h=>absurd h (by decide),fun h=>absurd h (by decide),fun _=>⟨hq,hr⟩⟩),(fun h=>by rcases h with h|h|h;exact absurd h (by decide);exact absurd h (by decide);exact absurd h.1 (by decide))⟩
theorem c6n(topic sub cap rank src mode flags:Int)(free:Bool)(setv:Value)(wa:Option Addr)(nw wc:Nat)(S:List Int)(w:World)(hs:gy gj 1 w setv S):Calls Tryz.prog 59 #[.agg #[ci 7,ci topic,ci sub,ci cap,ci rank,ci src,ci mode,ci flags,.bool free,setv,.slice wa nw wc]] w (km 7 cap rank S nw w):=by
 have hB:=qh (af (brf w) (.cells #[ci 7,ci topic,ci sub,ci cap,ci rank,ci src,ci mode,ci flags,.bool free,setv,.slice wa nw wc] 39));have HS:=qh (hs.bel hB.o);obtain⟨sa,sc,rfl⟩:=hs.len;clear hs;have h1:=qh (j8 src 0 3);have h2:=qh (j8 mode 0 7)
 go_enter Tryz.func59,Tryz.ntmps59
 cases hq:inB src 0 3
 ·rw[hq] at h1
  go_wp2_with (first|(go_at_call 58;refine(h1.o _).mono ?_;rintro e w' ⟨rfl,rfl⟩))
  go_ret;exact⟨10,rfl,hB.o,⟨by decide,by decide⟩,(fun h=>absurd h (by decide)),(fun h=>by rcases h with h|h|h;exact absurd h (by decide);exact absurd h (by decide);exact absurd h.1 (by decide))⟩
 ·rw[hq] at h1;cases hr:inB mode 0 7
  ·rw[hr] at h2
   go_wp2_with (first|(go_at_call 58;with_reducible refine(h1.o _).mono ?_;rintro e w' ⟨rfl,rfl⟩)|(go_at_call 58;with_reducible refine(h2.o _).mono ?_;rintro e w' ⟨rfl,rfl⟩))
   go_ret;exact⟨10,rfl,hB.o,⟨by decide,by decide⟩,(fun h=>absurd h (by decide)),(fun h=>by rcases h with h|h|h;exact absurd h (by decide);exact absurd h (by decide);exact absurd h.1 (by decide))⟩
  ·rw[hr] at h2
   go_wp2_with (first|(go_at_call 58;with_reducible refine(h1.o _).mono ?_;rintro e w' ⟨rfl,rfl⟩)|(go_at_call 58;with_reducible refine(h2.o _).mono ?_;rintro e w' ⟨rfl,rfl⟩))
   go_ret;exact⟨0,rfl,hB.o,⟨by decide,by decide⟩,(fun _=>⟨fun h=>absurd h (by decide),fun h=>absurd h (by decide),fun h=>absurd h (by decide)⟩),(fun h=>by rcases h with h|h|h;exact absurd h (by decide);exact absurd h (by decide);exact absurd h.1 (by decide))⟩
theorem c6o(topic sub cap rank src mode flags:Int)(free:Bool)(setv:Value)(wa:Option Addr)(nw wc:Nat)(S:List Int)(w:World)(hs:gy gj 1 w setv S):Calls Tryz.prog 59 #[.agg #[ci 8,ci topic,ci sub,ci cap,ci rank,ci src,ci mode,ci flags,.bool free,setv,.slice wa nw wc]] w (km 8 cap rank S nw w):=by
 have hB:=qh (af (brf w) (.cells #[ci 8,ci topic,ci sub,ci cap,ci rank,ci src,ci mode,ci flags,.bool free,setv,.slice wa nw wc] 39));have HS:=qh (hs.bel hB.o);obtain⟨sa,sc,rfl⟩:=hs.len;clear hs;have h1:=qh (j8 flags 0 63)
 go_enter Tryz.func59,Tryz.ntmps59
 cases hq:inB flags 0 63
 ·rw[hq] at h1
  go_wp2_with (first|(go_at_call 58;refine(h1.o _).mono ?_;rintro e w' ⟨rfl,rfl⟩))
  go_ret;exact⟨10,rfl,hB.o,⟨by decide,by decide⟩,(fun h=>absurd h (by decide)),(fun h=>by rcases h with h|h|h;exact absurd h (by decide);exact absurd h (by decide);exact absurd h.1 (by decide))⟩
 ·rw[hq] at h1
  go_wp2_with (first|(go_at_call 58;refine(h1.o _).mono ?_;rintro e w' ⟨rfl,rfl⟩))
  go_ret;exact⟨0,rfl,hB.o,⟨by decide,by decide⟩,(fun _=>⟨fun h=>absurd h (by decide),fun h=>absurd h (by decide),fun h=>absurd h (by decide)⟩),(fun h=>by rcases h with h|h|h;exact absurd h (by decide);exact absurd h (by decide);exact absurd h.1 (by decide))⟩
theorem c6p(topic sub cap rank src mode flags:Int)(free:Bool)(setv:Value)(wa:Option Addr)(nw wc:Nat)(S:List Int)(w:World)(hs:gy gj 1 w setv S)(hl:S.length≤1000):Calls Tryz.prog 59 #[.agg #[ci 3,ci topic,ci sub,ci cap,ci rank,ci src,ci mode,ci flags,.bool free,setv,.slice wa nw wc]] w (km 3 cap rank S nw w):=by
 have hB:=qh (af (brf w) (.cells #[ci 3,ci topic,ci sub,ci cap,ci rank,ci src,ci mode,ci flags,.bool free,setv,.slice wa nw wc] 39));have HS:=qh (hs.bel hB.o);obtain⟨sa,sc,rfl⟩:=hs.len;clear hs;have h1:=qh (j8 S.length 1 64);have h2:=qh (c2y _ S _ HS.o (by omega))
 go_enter Tryz.func59,Tryz.ntmps59
 cases hq:inB S.length 1 64
 ·rw[hq] at h1
  go_wp2_with (first|(go_at_call 58;refine(h1.o _).mono ?_;rintro e w' ⟨rfl,rfl⟩))
  go_ret;exact⟨1,rfl,hB.o,⟨by decide,by decide⟩,(fun h=>absurd h (by decide)),(fun h=>by rcases h with h|h|h;exact absurd h (by decide);exact absurd h (by decide);exact absurd h.1 (by decide))⟩
 ·rw[hq] at h1
  go_wp2_with (first|(go_at_call 58;refine(h1.o _).mono ?_;rintro e w' ⟨rfl,rfl⟩))
  refine h2.o.mono ?_;rintro e w' ⟨b,rfl,rfl,hnd,-⟩;have HN:=qh hnd;clear hnd h1 h2;cases b
  ·go_wp2_with fail;go_ret;simp only[inB,decide_eq_true_eq] at hq;exact⟨0,rfl,hB.o,⟨by decide,by decide⟩,(fun _=>⟨fun h=>absurd h (by decide),fun _=>⟨by omega,by omega,HN.o trivial⟩,fun h=>absurd h (by decide)⟩),(fun h=>by rcases h with h|h|h;exact absurd h (by decide);exact absurd h (by decide);exact absurd h.1 (by decide))⟩
  ·go_wp2_with fail;go_ret;exact⟨15,rfl,hB.o,⟨by decide,by decide⟩,(fun h=>absurd h (by decide)),(fun h=>by rcases h with h|h|h;exact absurd h (by decide);exact absurd h (by decide);exact absurd h.1 (by decide))⟩
theorem d0g(kind topic sub cap rank src mode flags:Int)(h0:0≤kind)(h9:kind≤9)(free:Bool)(setv:Value)(wa:Option Addr)(nw wc:Nat)(S:List Int)(w:World)(hs:gy gj 1 w setv S)(hl:S.length≤1000):Calls Tryz.prog 59 #[.agg #[ci kind,ci topic,ci sub,ci cap,ci rank,ci src,ci mode,ci flags,.bool free,setv,.slice wa nw wc]] w (km kind cap rank S nw w):=by
 rcases (by omega:kind=0∨kind=1∨kind=2∨kind=3∨kind=4∨kind=5∨kind=6∨kind=7∨kind=8∨kind=9) with rfl|rfl|rfl|rfl|rfl|rfl|rfl|rfl|rfl|rfl
 ·exact c6g topic sub cap rank src mode flags free setv wa nw wc S w hs
 ·exact c6l topic sub cap rank src mode flags free setv wa nw wc S w hs
 ·exact c6h topic sub cap rank src mode flags free setv wa nw wc S w hs
 ·exact c6p topic sub cap rank src mode flags free setv wa nw wc S w hs hl
 ·exact c6m topic sub cap rank src mode flags free setv wa nw wc S w hs
 ·exact c6i topic sub cap rank src mode flags free setv wa nw wc S w hs
 ·exact c6j topic sub cap rank src mode flags free setv wa nw wc S w hs
 ·exact c6n topic sub cap rank src mode flags free setv wa nw wc S w hs
 ·exact c6o topic sub cap rank src mode flags free setv wa nw wc S w hs
 ·exact c6k topic sub cap rank src mode flags free setv wa nw wc S w hs
section
open Go.Shelf Go.Sort
section
variable{α:Type}[Inhabited α]{enc:α→List Value}{k g:Nat}{E:TypeId}{W:World}
theorem b3o(d:Array α)(j:Nat)(hj:j<d.size*k):(flatK enc k d)[j]! = (enc d[j / k]!)[j%k]!:=by
 unfold flatK;rw[getElem!_pos _ _ (by simpa using hj)];simp
theorem xx(d:Array α):(flatK enc k d).size=d.size*k:=by simp[flatK]
theorem b1l(hk:∀x,(enc x).length=k)(h0:0<k)(d:Array α)(h:Arr enc k W g E d.toList):HoldsK enc k W g 0 d:=by
 intro j hj;rw[xx] at hj;refine⟨?_,h.free _⟩;have h1:j / k<d.size:=(Nat.div_lt_iff_lt_mul h0).2 hj;have h2:j%k<k:=Nat.mod_lt _ h0;have hx:d.toList[j / k]?=some d[j / k]!:=by rw[getElem!_pos d _ h1];simp[h1]
 have hv:(enc d[j / k]!)[j%k]?=some (enc d[j / k]!)[j%k]!:=by
  have h3:j%k<(enc d[j / k]!).length:=by rw[hk];exact h2
  rw[getElem!_pos (enc d[j / k]!) (j%k) h3,cz h3]
 have:=h.cell hk hx hv;rw[b3o d j hj];rw[show 0+j=j / k*k+j%k by rw[Nat.zero_add,Nat.mul_comm];exact(Nat.div_add_mod j k).symm];exact this
theorem b1m(hk:∀x,(enc x).length=k)(h0:0<k)(d:Array α){cur:Array Value}(hr:Row W g E cur)(h:HoldsK enc k W g 0 d):Arr enc k W g E d.toList:=by
 refine⟨cur,hr,?_⟩
 have hc:∀j,j<d.size*k→cur[j]?=some (enc d[j / k]!)[j%k]!:=fun j hj=>by
  have h1:=(h j (by rw[xx];exact hj)).1;rw[b3o d j hj,cell_of_row _ _ _ _ _ _ hr.at_,Nat.zero_add] at h1;exact h1
 have hlen:d.size*k≤cur.size:=by
  rcases Nat.eq_zero_or_pos (d.size*k) with h|h
  ·omega
  ·have:=(Array.getElem?_eq_some_iff.1 (hc (d.size*k-1) (by omega))).1;omega
 apply List.ext_getElem?;intro j;have hfl:(d.toList.flatMap enc).length=d.size*k:=by rw[ik hk,Array.length_toList]
 by_cases hj:j<d.size*k
 ·have h1:j / k<d.size:=(Nat.div_lt_iff_lt_mul h0).2 hj;have h2:j%k<k:=Nat.mod_lt _ h0;have hx:d.toList[j / k]?=some d[j / k]!:=by rw[getElem!_pos d _ h1];simp[h1]
  have h3:j%k<(enc d[j / k]!).length:=by rw[hk];exact h2
  rw[List.getElem?_take_of_lt (by simpa using hj)];have e:=mf hk d.toList (j / k) (j%k) _ hx h2;rw[show j / k*k+j%k=j by rw[Nat.mul_comm];exact Nat.div_add_mod j k] at e;rw[e,cz h3];have:=hc j hj;rw[getElem!_pos (enc d[j / k]!) (j%k) h3] at this
  simpa using this
 ·rw[List.getElem?_eq_none (by rw[List.length_take,Array.length_toList];omega),List.getElem?_eq_none (by omega)]
end
theorem c6q:SWO (ltOf fun x y:Tpc=>qq x.n y.n):=by
 have e:∀x y:Tpc,ltOf (fun x y:Tpc=>qq x.n y.n) x y=decide (x.n<y.n):=fun x y=>by
  show decide (qq x.n y.n<0)=decide (x.n<y.n)
  refine decide_eq_decide.2 ?_;unfold qq
  split
  ·omega
  ·split<;>omega
 refine⟨fun x=>by rw[e];simp,fun x y z h1 h2=>?_,fun x y z h1 h2=>?_⟩
 ·rw[e] at *;simp at *;omega
 ·rw[e] at *;simp at *;omega
theorem c6f(w:World)(g c:Nat)(l:List Tpc)(h:ia w g l)(hl:l.length≤8):Calls Tryz.prog 136 #[zl g l.length c,.func (.func 137) #[] #[]] w fun e w'=>
  e=.returned (.tuple #[])∧∃l',l'.Perm l∧ab [g] w w'∧ia w' g l':=by
 have eg:∀args w,(callFunc 137 args).run Tryz.prog w=.ok (.enter 137 args) w:=enters_of Tryz.func137 (by kernel_rfl) rfl;have hH:=b1l Tpc.enc_len (by decide) l.toArray (by simpa using h);obtain⟨cur,hr,_⟩:=h.ex;have hcon:=AnyQ.slices_SortFunc_small_sorted Tryz.sortT 7 Tryz.isAgg231 Tryz.sizeOf231 Tpc.enc Tpc.enc_len (fun x v hv=>by simp[Tpc.enc] at hv;rcases hv with rfl|rfl|rfl|rfl|rfl|rfl|rfl<;>rfl) (fun x y=>qq x.n y.n) 137 #[] c6q g 0 c l.toArray w eg (b5v g 0 _ w) hH h.lt (by simpa using (by omega)) c6r;refine Calls.mono hcon ?_;rintro e w' ⟨rfl,d',n,os,hp,_,rfl⟩;refine⟨rfl,d'.toList,?_,?_,?_⟩
 ·obtain⟨h1,_,h3⟩:=hp;have e1:d'.extract 0 l.toArray.size=d':=by rw[←h1];simp
  have e2:l.toArray.extract 0 l.toArray.size=l.toArray:=by simp
  rw[e1,e2] at h3
  simpa using h3
 ·refine⟨rfl,rfl,rfl,?_,fun b hb hn=>?_⟩
  ·simp only[sortWorldK,grow,Array.size_append];rw[size_putRowK];simp[Sort.ahead]
  ·simp only[List.mem_singleton] at hn;simp only[sortWorldK,grow,putRowK,putRow,mapBlock];rw[Array.getElem?_append_left (by simpa using hb),Array.getElem?_modify,if_neg (fun h=>hn h.symm)]
   rfl
 ·have hH':HoldsK Tpc.enc 7 (sortWorldK Tpc.enc 7 w g 0 n d' os) g 0 d':=by
   have h1:=holdsK_putRowK (enc:=Tpc.enc) (k:=7) (Sort.ahead w n) g 0 l.toArray d' hH hp.1;exact holdsK_grow (enc:=Tpc.enc) 7 _ os g 0 d' (by rw[size_putRowK];exact h.lt) h1
  refine b1m Tpc.enc_len (by decide) d' (cur:=putCells id 0 (flatK Tpc.enc 7 d') cur) ⟨?_⟩ hH';simp only[sortWorldK,grow,putRowK,putRow,mapBlock];rw[Array.getElem?_append_left (by simpa using h.lt),Array.getElem?_modify,if_pos rfl,show (Sort.ahead w n).heap[g]?=_ from hr.at_]
  rfl
end
theorem c2i(n:Int)(w:World):Calls Tryz.prog 132 #[ci n] w fun e w'=>e=.returned (.bool (decide (1≤n∧n≤16)))∧w=w':=by
 by_cases h0:1≤n
 ·have t1:decide ((1:Int)≤n)=true:=dqt h0
  go_enter Tryz.func132,Tryz.ntmps132
  go_wp2;go_ret;exact⟨bq (by first|rfl|(rw[Bool.eq_iff_iff];simp;omega)|(rw[Bool.eq_iff_iff];simp)),rfl⟩
 ·have t1:decide ((1:Int)≤n)=false:=dqf h0
  go_enter Tryz.func132,Tryz.ntmps132
  go_wp2;go_ret;exact⟨bq (by first|rfl|(rw[Bool.eq_iff_iff];simp;omega)|(rw[Bool.eq_iff_iff];simp)),rfl⟩
theorem b3l(w:World)(g c b tp:Nat)(l:List Tpc)(hs:ia w g l)(hl:l.length≤1000)(hb:w.cell? (ae b 0)=some (ci tp)):Calls Tryz.prog 134 #[zl g l.length c,.func (.func 135) #[] #[pt b]] w fun e w'=>∃q:Bool,e=.returned (.bool q)∧Below w.heap.size w w'∧(q=true→∃t∈l,t.n=tp):=by
 have h:=qh (b1a w g c b tp l hs hl hb);clear hs hb
 go_enter Tryz.func134,Tryz.ntmps134
 go_wp2_with fail;refine h.o.mono ?_;rintro e w2 ⟨rfl,hb2⟩;have HB:=qh hb2;clear hb2 h;rcases o7 tp l 0 with ⟨h1,_⟩|⟨k,x,h1,h2,h3⟩
 ·rw[h1];go_wp2;go_ret;exact⟨false,rfl,HB.o,fun h=>absurd h (by decide)⟩
 ·rw[h1];have HX:=qh (And.intro h2 h3);clear h2 h3;go_wp2;go_ret;exact⟨true,rfl,HB.o,fun _=>⟨x,dh HX.o.1,HX.o.2⟩⟩
theorem b1n(b:Nat)(w:World):Calls Tryz.prog 173 #[zn,.func (.func 135) #[] #[pt b]] w fun e w'=>e=.returned (ci (-1))∧w=w':=by
 go_enter Tryz.func173,Tryz.ntmps173
 go_wp2_with fail;refine wp_loop_rounds 1 ?_;rw[rounds_succ];go_wp2_with fail;go_ret;exact⟨rfl,rfl⟩
theorem uy(b:Nat)(w:World):Calls Tryz.prog 134 #[zn,.func (.func 135) #[] #[pt b]] w fun e w'=>e=.returned (.bool false)∧w=w':=by
 have h:=qh (b1n b w)
 go_enter Tryz.func134,Tryz.ntmps134
 go_wp2_with fail;refine h.o.mono ?_;rintro e w2 ⟨rfl,rfl⟩;go_wp2;go_ret;exact⟨rfl,rfl⟩
section
open Go.Shelf Go.Sort
theorem pd(z:Int):(gj z).length=1:=rfl
theorem zx{W:World}{g:Nat}(d:Array Int)(h:Arr gj 1 W g 3 d.toList):Holds (Value.int .i64) W g 0 d:=by
 intro j hj;refine⟨?_,h.free _⟩;have hx:d.toList[j]?=some d[j]!:=by rw[getElem!_pos d j hj];simp[hj]
 have:=h.cell pd (j:=0) hx rfl;rw[show 0+j=j*1+0 by omega];exact this
theorem zy{W:World}{g:Nat}(d:Array Int){cur:Array Value}(hr:Row W g 3 cur)(h:Holds (Value.int .i64) W g 0 d):Arr gj 1 W g 3 d.toList:=by
 refine⟨cur,hr,?_⟩
 have hc:∀j,j<d.size→cur[j]?=some (ci d[j]!):=fun j hj=>by
  have h1:=(h j hj).1;rw[cell_of_row _ _ _ _ _ _ hr.at_,Nat.zero_add] at h1;exact h1
 have hfl:d.toList.flatMap gj=d.toList.map (Value.int .i64):=by
  generalize d.toList=l
  induction l with
  | nil=>rfl
  | cons x l ih=>rw[List.flatMap_cons,ih];rfl
 apply List.ext_getElem?;intro j;rw[Nat.mul_one,hfl];by_cases hj:j<d.size
 ·rw[List.getElem?_take_of_lt (by simpa using hj)];have:=hc j hj;rw[getElem!_pos d j hj] at this;simp[hj]
  simpa using this
 ·rw[List.getElem?_eq_none (by rw[List.length_take,Array.length_toList];omega),List.getElem?_eq_none (by simp;omega)]
theorem c6s(w:World)(g c:Nat)(l:List Int)(h:Arr gj 1 w g 3 l)(hl:l.length≤1000):Calls Tryz.prog 123 #[zl g l.length c] w fun e w'=>
  e=.returned (.tuple #[])∧∃l',l'.Perm l∧ab [g] w w'∧Arr gj 1 w' g 3 l':=by
 have hH:=zx l.toArray (by simpa using h);obtain⟨cur,hr,_⟩:=h.ex;have hcon:=Any.slices_Sort_int Tryz.sortI g 0 c l w hH h.lt (by omega);refine Calls.mono hcon ?_;rintro e w' ⟨rfl,n,os,rfl⟩;have hp:(l.mergeSort fun x y=>decide (x≤y)).Perm l:=List.mergeSort_perm ..;generalize (l.mergeSort fun x y=>decide (x≤y))=l' at *;refine⟨rfl,l',hp,⟨rfl,rfl,rfl,?_,fun b hb hn=>?_⟩,?_⟩
 ·simp only[grow,Array.size_append,putRow,mapBlock];simp[Sort.ahead]
 ·simp only[List.mem_singleton] at hn;simp only[grow,putRow,mapBlock];rw[Array.getElem?_append_left (by simpa using hb),Array.getElem?_modify,if_neg (fun h=>hn h.symm)]
  rfl
 ·have hH':Holds (Value.int .i64) (grow (putRow (Value.int .i64) (Sort.ahead w n) g 0 l'.toArray) os) g 0 l'.toArray:=
   holds_grow _ _ os g 0 _ (by simpa[putRow,mapBlock,Sort.ahead] using h.lt) (holds_putRow _ (Sort.ahead w n) g 0 l.toArray l'.toArray hH (by simpa using hp.length_eq))
  have:=zy l'.toArray (cur:=putCells (Value.int .i64) 0 l'.toArray cur) ⟨by
   simp only[grow,putRow,mapBlock];rw[Array.getElem?_append_left (by simpa using h.lt),Array.getElem?_modify,if_pos rfl,show (Sort.ahead w n).heap[g]?=_ from hr.at_]
   rfl⟩ hH'
  simpa using this
end
end Go.Proofs.YtojkaibpfdhmaaaGreatDoor

/- What a Snapshot keeps as it ends. -/
import Derived.Test.YtojkaibpfdhmaaaGreatDoorP16
import Derived.Test.YtojkaibpfdhmaaaGreatDoorP25
import Derived.Test.YtojkaibpfdhmaaaGreatDoorP18
namespace Go.Proofs.YtojkaibpfdhmaaaGreatDoor
open Go.RowKit
set_option maxRecDepth 100000
set_option maxHeartbeats 16000000
structure c7l(w0 W:World)(O V Y i:Nat)(o:OpC)(j:Nat):Prop where
 b:ab [O] w0 W
 t:∃(gv av:Value)(an:Nat)(gc ac:List Value),Row W O 122 (OpC.cells {o with gens:=gv,awords:=av} V Y i)∧W.ownsRow w0.heap.size 41 1 gv j gc∧W.ownsRow w0.heap.size 41 1 av an ac∧(∀b,gv.ownBlock=some b→b∉av.ownBlock.toList)∧(∀u∈gc,u.oneCell'=true)∧(∀u∈ac,u.oneCell'=true)∧an≤64*j
def Offs(rl:List Int)(sp:List am)(k:Nat)(f:Lit→Option Value):Prop:=∀j r,j<k→rl[j]?=some r→f (ig r)=some (ci (gd sp j))
theorem Offs.next{rl:List Int}{sp:List am}{k:Nat}{f:Lit→Option Value}{r:Int}(h:Offs rl sp k f)(hn:rl.Nodup)(hr:rl[k]?=some r):Offs rl sp (k+1) (il f (ig r) (some (ci (gd sp k)))):=fun j r' hj hr'=>by
 by_cases e:j=k
 ·subst e;rw[hr] at hr';cases hr';exact gw _ _ _
 ·have hne:ig r'≠ig r:=fun h1=>by
   cases h1;exact e ((List.getElem?_inj (bk.1 hr').1 hn).1 (hr'.trans hr.symm))
  rw[fj hne];exact h j r' (by omega) hr'
theorem b7h{W:World}{g:Nat}{l:List Int}(h:Arr gj 1 W g 3 l){k:Nat}{x:Int}(hx:l[k]?=some x):W.cell? (ae g k)=some (ci x):=by
 have:=h.cell pd (j:=0) hx rfl
 simpa using this
theorem f8{W:World}{base E sz n b:Nat}{v:Value}{cs:List Value}(h:W.ownsRow base E sz v n cs)(hb:b<base):b∉v.ownBlock.toList:=fun hm=>by
 have:=fw h b (by simpa using hm);omega
theorem OpC.nils{o:OpC}{v:Value}(h1:o.gens=v)(h2:o.awords=v):({o with gens:=v,awords:=v}:OpC)=o:=by
 cases o
 simp_all
theorem ab.trans2{M:List Nat}{W W' W'':World}(h:ab M W W')(k:ab M W' W''):ab M W W'':=h.then k (fun _ hx _=>hx)
theorem b5e(b off i:Nat):(⟨b,off,none⟩:Addr).add i=⟨b,off+i,none⟩:=by
 unfold Addr.add
 split<;>simp_all
theorem b8y(l:List am)(k:Nat):gd l k≤gd l (k+1):=by
 cases h:l[k]? with
 | none=>
  have:l.length≤k:=by simpa using h
  unfold gd;rw[List.take_of_length_le this,List.take_of_length_le (by omega)];exact nlr _
 | some s=>rw[ky h];omega
theorem b8z(l:List am){a b:Nat}(h:a≤b):gd l a≤gd l b:=by
 obtain⟨d,rfl⟩:=Nat.exists_eq_add_of_le h;clear h
 induction d with
 | zero=>exact nlr _
 | succ d ih=>exact nlt ih (b8y l (a+d))
theorem At.same{α:Type}{enc:α→List Value}{sz b off:Nat}{W W':World}{l:List α}{M:List Nat}(h:At enc sz W b off l)(hs:ab M W W')(hb:b∉M):At enc sz W' b off l:=⟨fun k j x v hx hv=>by
 have h1:=h.cell k j x v hx hv;have h2:=blc h1;rw[World.cell?_of_block (w:=W) (hs.block b h2 hb)];exact h1⟩
theorem Arr.toAt{W:World}{g:Nat}{l:List Int}(h:Arr gj 1 W g 3 l):At gj 1 W g 0 l:=⟨fun k j x v hx hv=>by
 have:=h.cell pd hx hv
 rwa [Nat.zero_add]⟩
theorem vb{l a:List Value}{n k:Nat}{v:Value}(h:l.take n=a)(hk:k<n)(hv:a[k]?=some v):l[k]?=some v:=by
 subst h;rw[List.getElem?_take] at hv
 rwa [if_pos hk] at hv
theorem c8p(w:World)(O V G k gk T tr lg sz B Y yk i bs br bp bo P g cg D1 D2 m n gr cr gp cp bS oS cS:Nat)(tv:Value)(o:OpC)(x:SOp)(l sp:List am)(gs us:List Nat)(rl SL:List Int)(hr:Row w O 122 (o.cells V Y i))(h1:Row w bs 156 #[pt P])(h2:Row w br 26 #[zl gr n cr])(h3:Row w bp 81 #[zl gp n cp])(h4:Row w bo 95 #[pt O])(hv:Row w V 92 #[ci T,tv,ci tr,ci lg,ci 0,ci 1,ci lg,zl G k gk,ci sz,pt B,zl Y T yk])(hG:au w G l)(hq:Row w P 220 (x.cells g cg n D1 D2 m))(hD1:Row w D1 41 (bj gs))(hD2:Row w D2 41 (bj us))(ho:x.how=1)(hgs:gs.length=n)(hus:us.length=m)(hn1:1≤n)(hn2:n≤64)(hm:m=gd sp n)(hrl:Arr gj 1 w gr 3 rl)(hrn:rl.length=n)(hnd:rl.Nodup)(hsp:au w gp sp)(hsn:sp.length=n)(hok:∀s∈sp,s.Ok)(hl:l.length≤64)(htop:∀(j:Nat)(r:Int),rl[j]?=some r→∃(t:Nat)(s:am),r=t∧l[t]?=some s∧sp[j]?=some s)(hset:o.set=.slice (some ⟨bS,oS,none⟩) SL.length cS)(hS:At gj 1 w bS oS SL)(hper:SL.Perm rl)(hbSl:bS<w.heap.size)(hbS:bS≠O)(hcr:n≤cr)(hgn:o.gens=zn)(hwn:o.awords=zn)(hk:k=l.length):Calls Tryz.prog 79 #[pt bs,pt br,pt bp,pt bo] w fun e w'=>e=.returned (.tuple #[])∧ab [O] w w'∧∃(gv av:Value)(gn an:Nat)(gc ac:List Value),Row w' O 122 (OpC.cells {o with gens:=gv,awords:=av,at_:=x.begun} V Y i) ∧
   w'.ownsRow w.heap.size 41 1 gv gn gc∧w'.ownsRow w.heap.size 41 1 av an ac∧(∀u∈gc,u.oneCell'=true)∧(∀u∈ac,u.oneCell'=true)∧gn≤64∧an≤4096:=by
 subst hk
 have hm1:1≤m:=by
  have:=ll hok;rw[hsn] at this;omega
 have hm5:m≤4096:=by have:=jq hok n;omega
 have ne_bs_O:=h1.ne hr (by decide);have ne_br_O:=h2.ne hr (by decide);have ne_bp_O:=h3.ne hr (by decide);have ne_bo_O:=h4.ne hr (by decide);have ne_V_O:=hv.ne hr (by decide);have ne_G_O:=Row.ne_arr hG hr (by decide);have ne_gr_O:=Row.ne_arr hrl hr (by decide);have ne_gp_O:=Row.ne_arr hsp hr (by decide);have ne_P_O:=hq.ne hr (by decide);have ne_M_O:w.heap.size≤w.heap.size:=nlr _;clear ne_M_O;have ne_Gb_O:True:=trivial;clear ne_Gb_O;have lt_O:=hr.lt;have lt_bs:=h1.lt;have lt_br:=h2.lt;have lt_bp:=h3.lt;have lt_bo:=h4.lt;have lt_V:=hv.lt;have lt_G:=hG.lt;have lt_gr:=hrl.lt;have lt_gp:=hsp.lt;have lt_P:=hq.lt;have HMM:=qh hm;clear hm;have hgot:=qh (fun W (hq:Row W P 220 (x.cells g cg n D1 D2 m)) (h1:Row W D1 41 (bj gs)) (h2:Row W D2 41 (bj us))=>c2h W P x g cg n D1 D2 m gs us ho hq h1 h2 hgs hus hn1 hn2 hm1 (by omega))
 have hat:=qh (fun W (hq:Row W P 220 (x.cells g cg n D1 D2 m))=>c5q W P x g cg n D1 D2 m ho hq);generalize x.begun=bg at *;have HO:=qh hr;have H1:=qh h1;have H2:=qh h2;have H3:=qh h3;have H4:=qh h4;have HV:=qh hv;have HG:=qh hG;have HQ:=qh hq;have HRL:=qh hrl;have HSP:=qh hsp;have HAT:=qh hS;have HTOP:=qh htop;have c1:=h1.k 0;have HDD:=qh (And.intro hD1 hD2);clear hr h1 h2 h3 h4 hv hG hq hrl hsp hS htop hD1 hD2 ho
 go_enter Tryz.func79,Tryz.ntmps79
 go_wp2_with fail;refine(hgot.o w HQ.o HDD.o.1 HDD.o.2).mono ?_;rintro e wa ⟨Gb,cap,rfl,hb,hGb,hcap,cur,hcur,htake⟩;clear c1 hgot HDD;have HCUR:=qh hcur;clear hcur;have HBA:=qh hb;have HATa:=qh (show At gj 1 wa bS oS SL from HAT.o.bel hb);clear HAT;revert HO;revert H1;revert H2;revert H3;revert H4;revert HV;revert HG;revert HQ;revert HRL;revert HSP
 refine cq (sbb hb) ?_;intro HSP HRL HQ HG HV H4 H3 H2 H1 HO;clear hb;have lt_Gb:=HCUR.o.lt;have hmm:=@run_makeMap Tryz.prog;have c2:(wa.alloc (.map #[] 0)).cell? (ae br 0)=some (zl gr n cr):=(H2.o.alloc (.map #[] 0)).k 0;go_wp2_with fail;clear hmm c2;have HM:=qh (a8.made wa Tryz.prog 3);have HBM:=qh (af HBA.o (.map #[] 0));have hszM:w.heap.size≤wa.heap.size:=HBA.o.size;have HOy:=qh (HO.o.alloc (.map #[] 0));have H1y:=qh (H1.o.alloc (.map #[] 0));have H2y:=qh (H2.o.alloc (.map #[] 0));have H3y:=qh (H3.o.alloc (.map #[] 0));have H4y:=qh (H4.o.alloc (.map #[] 0));have HVy:=qh (HV.o.alloc (.map #[] 0));have HGy:=qh (HG.o.alloc (.map #[] 0));have HQy:=qh (HQ.o.alloc (.map #[] 0));have HRLy:=qh (HRL.o.alloc (.map #[] 0));have HSPy:=qh (HSP.o.alloc (.map #[] 0));have HCURy:=qh (HCUR.o.alloc (.map #[] 0))
 have HATy:=qh (show At gj 1 (wa.alloc (.map #[] 0)) bS oS SL from HATa.o.bel ((Below.refl _ wa).alloc (nlr _) _));clear HATa HBA HO H1 H2 H3 H4 HV HG HQ HRL HSP HCUR;have HO:=HOy;have H1:=H1y;have H2:=H2y;have H3:=H3y;have H4:=H4y;have HV:=HVy;have HG:=HGy;have HQ:=HQy;have HRL:=HRLy;have HSP:=HSPy;have HCUR:=HCURy;have HAT:=HATy;clear HATy HOy H1y H2y H3y H4y HVy HGy HQy HRLy HSPy HCURy;have lt_Gb2:Gb<wa.heap.size:=lt_Gb;have ne_Gb_O:Gb≠O:=by omega
 have ne_M_O:wa.heap.size≠O:=by omega
 have HSM:Hd (¬ bS=wa.heap.size):=qh (by have:=hbSl;have:=hszM;omega);generalize wa.heap.size=M at *;generalize wa.alloc (.map #[] 0)=wb at *;have HL0:Hd (ab [M] wb wb∧∃f,a8 Tryz.prog 3 wb M 0 f∧Offs rl sp 0 f):=qh ⟨ab.refl _ _,_,HM.o,fun j r h=>absurd h (by omega)⟩;clear HM
 go_loopw [21,7] (fun iv av W=>∃k:Nat,k≤n∧iv=ci k∧av=ci (gd sp k:Nat)∧Hd (ab [M] wb W∧∃f,a8 Tryz.prog 3 W M k f∧Offs rl sp k f)) (fun iv _ _=>n-(intOf iv).toNat)
 case atStart=>exact⟨0,by omega,rfl,by simp[gd],HL0⟩
 case round=>
  clear HL0;obtain⟨k,hk,rfl,rfl,HL⟩:=hrel;by_cases hkn:k<n
  ·have i1:(k:Int)<n:=by omega
   have hr1:rl[k]?=some rl[k]:=cz (by omega);obtain⟨tt,ss,htt,hlt,hst⟩:=HTOP.o k _ hr1;rw[htt] at hr1;have hltl:tt<l.length:=(bk.1 hlt).1;obtain⟨f,hmf,hof⟩:=HL.o.2;have hss:=HL.o.1;have c2:=(H2.o.same hss (by simpa using nnl (Nat.lt_of_lt_of_le lt_br hszM))).k 0;have c4:=b7h (HRL.o.same hss (by simpa using nnl (Nat.lt_of_lt_of_le lt_gr hszM))) hr1;obtain⟨W5,hrun,hm5,hs5⟩:=hmf.store (t:=93) (Maps.int_keyed Tryz.underlying3) Tryz.underlying93 (by unfold maxLen;omega) (val:=ci (gd sp k:Nat)) (jd (tt:Int) (ux (by omega) (by omega)));have hs6:=hss.then hs5 (fun y hy _=>hy);have c3:=(H3.o.same hs6 (by simpa using nnl (Nat.lt_of_lt_of_le lt_bp hszM))).k 0;obtain⟨s0,s1,s2,s3,s4⟩:=au.c (HSP.o.same hs6 (by simpa using nnl (Nat.lt_of_lt_of_le lt_gp hszM))) hst;have hws:=ky hst;have hwle:=jq hok k;have hssw:=(hok ss (dh hst)).w2
   have HN:=qh (And.intro hs6 (Exists.intro (p:=fun f=>a8 Tryz.prog 3 W5 M (k+1) f∧Offs rl sp (k+1) f) _ ⟨hm5,hof.next hnd hr1⟩));have h0:(0:Int)≤gd sp k:=by omega
   have HX:=qh hws;clear hmf hof hm5 hs5 hs6 hss HL hws hlt hst htt;go_wp2_with fail;clear c2 c3 c4 s0 s1 s2 s3 s4 hrun
   go_roundw
   case rel=>
    refine⟨k+1,by omega,by go_num,?_,HN⟩;rw[HX.o]
    go_num
   case measure=>simp only[intOf];omega
  ·have hk':n=k:=by omega
   subst hk';have hss:=HL.o.1;obtain⟨fm,hmf,hof⟩:=HL.o.2;have HM:=qh hmf;have HOF:=qh hof;clear hmf hof HL;have HOy:=qh (HO.o.same hss (by simpa using nnl (Nat.lt_of_lt_of_le lt_O hszM)));have H1y:=qh (H1.o.same hss (by simpa using nnl (Nat.lt_of_lt_of_le lt_bs hszM)));have H2y:=qh (H2.o.same hss (by simpa using nnl (Nat.lt_of_lt_of_le lt_br hszM)));have H3y:=qh (H3.o.same hss (by simpa using nnl (Nat.lt_of_lt_of_le lt_bp hszM)));have H4y:=qh (H4.o.same hss (by simpa using nnl (Nat.lt_of_lt_of_le lt_bo hszM)));have HVy:=qh (HV.o.same hss (by simpa using nnl (Nat.lt_of_lt_of_le lt_V hszM)));have HGy:=qh (HG.o.same hss (by simpa using nnl (Nat.lt_of_lt_of_le lt_G hszM)));have HQy:=qh (HQ.o.same hss (by simpa using nnl (Nat.lt_of_lt_of_le lt_P hszM)));have HRLy:=qh (HRL.o.same hss (by simpa using nnl (Nat.lt_of_lt_of_le lt_gr hszM)))
   have HSPy:=qh (HSP.o.same hss (by simpa using nnl (Nat.lt_of_lt_of_le lt_gp hszM)));have HCURy:=qh (HCUR.o.same hss (by simpa using nnl (lt_Gb2)));clear HO H1 H2 H3 H4 HV HG HQ HRL HSP HCUR;have HO:=HOy;have H1:=H1y;have H2:=H2y;have H3:=H3y;have H4:=H4y;have HV:=HVy;have HG:=HGy;have HQ:=HQy;have HRL:=HRLy;have HSP:=HSPy;have HCUR:=HCURy;clear HOy H1y H2y H3y H4y HVy HGy HQy HRLy HSPy HCURy;have HATb:=qh (show At gj 1 wr bS oS SL from HAT.o.same hss (by simpa using HSM.o));clear HAT;have HBW:=qh (ab.bel (M:=[O]) (ab.of_below HBM.o) (Below.refl _ _) |>.then hss (fun y hy h=>by simp only[List.mem_singleton] at hy;subst hy;exact absurd h (by omega)));clear hss HBM;have c0:wr.cell? (ae O 12)=some (.slice (some ⟨bS,oS,none⟩) SL.length cS):=(HO.k 12).trans (congrArg some hset);have c4:=H4.k 0;go_wp2_with fail;clear c0 c4
   have HR0:Hd (c7l wr wr O V Y i o 0):=qh ⟨ab.refl _ _,zn,zn,0,[],[],by rw[OpC.nils hgn hwn];exact HO.o,World.ownsRow_nil _ _ _ _,World.ownsRow_nil _ _ _ _,(fun b hb=>by cases hb),(by simp),(by simp),by omega⟩
   have HEX:Hd (∀q,q<n→cur[m+q]?=some (cu ((wat gs q:Nat):Int))):=qh (fun q hq=>by
    have h1:=vb (k:=m+q) htake (by omega) (v:=cu ((wat gs q:Nat):Int)) (by
     rw[List.getElem?_append_right (by rw[na];omega),na,hus,Nat.add_sub_cancel_left];have:=ej gs (i:=q) (by omega)
     simpa using this)
    simpa using h1)
   have HWX:Hd (∀q,q<m→cur[q]?=some (cu ((wat us q:Nat):Int))):=qh (fun q hq=>by
    have h1:=vb (k:=q) htake (by omega) (v:=cu ((wat us q:Nat):Int)) (by
     rw[List.getElem?_append_left (by rw[na];omega)];have:=ej us (i:=q) (by omega)
     simpa using this)
    simpa using h1)
   clear htake;have HSN:Hd (SL.length=n):=qh (by rw[hper.length_eq,hrn]);have lt2_O:=HO.o.lt;have lt2_bs:=H1.o.lt;have lt2_br:=H2.o.lt;have lt2_bp:=H3.o.lt;have lt2_bo:=H4.o.lt;have lt2_V:=HV.o.lt;have lt2_G:=HG.o.lt;have lt2_P:=HQ.o.lt;have lt2_gr:=HRL.o.lt;have lt2_gp:=HSP.o.lt;have lt2_Gb:=HCUR.o.lt;clear HO;generalize hw2:wr=w2 at *;clear hw2
   go_loopw [43] (fun iv W=>∃j:Nat,j≤SL.length∧iv=ci j∧Hd (c7l w2 W O V Y i o j)) (fun iv _=>SL.length-(intOf iv).toNat)
   case atStart=>exact⟨0,by omega,rfl,HR0⟩
   case round=>
    clear HR0;obtain⟨j,hj,rfl,HRJ⟩:=hrel;obtain⟨gv,av,an,gc,ac,hrow,hgv,hav,hne,hg1,ha1,han⟩:=HRJ.o.t;have hsj:=HRJ.o.b;clear HRJ;obtain⟨ga,gcc,rfl⟩:=ax hgv;obtain⟨aa,acc,rfl⟩:=ax hav;have HR:=qh hrow;have HGV:=qh hgv;have HAV:=qh hav;have HNE:=qh hne;have HG1:=qh hg1;have HA1:=qh ha1;have HS:=qh hsj;clear hrow hgv hav hne hg1 ha1 hsj;by_cases hjn:j<SL.length
    ·have i1:(j:Int)<SL.length:=by omega
     have i1n:j<n:=by have:=HSN.o;omega
     have H1y:=qh (H1.o.same HS.o (nn ne_bs_O));have H2y:=qh (H2.o.same HS.o (nn ne_br_O));have H3y:=qh (H3.o.same HS.o (nn ne_bp_O));have H4y:=qh (H4.o.same HS.o (nn ne_bo_O));have HVy:=qh (HV.o.same HS.o (nn ne_V_O));have HGy:=qh (HG.o.same HS.o (nn ne_G_O));have HQy:=qh (HQ.o.same HS.o (nn ne_P_O));have HRLy:=qh (HRL.o.same HS.o (nn ne_gr_O));have HSPy:=qh (HSP.o.same HS.o (nn ne_gp_O));have HCURy:=qh (HCUR.o.same HS.o (nn ne_Gb_O));have HATy:=qh (HATb.o.same HS.o (by simpa using hbS));have HMy:=qh (HM.o.same HS.o (nn ne_M_O));have hsj1:SL[j]?=some SL[j]:=cz hjn;obtain⟨jx,hjx⟩:=mig.1 (hper.mem_iff.1 (List.getElem_mem hjn));have hjxn:jx<n:=by have:=(bk.1 hjx).1;omega
     obtain⟨tt,ss,htt,hlt,hst⟩:=HTOP.o jx _ hjx;rw[htt] at hjx hsj1;have hltl:tt<l.length:=(bk.1 hlt).1;have c5:wr.cell? (ae bS (oS+j))=some (ci tt):=by have:=HATy.o.cell j 0 (tt:Int) (ci tt) hsj1 rfl;simpa using this
     have hlook:(Instr.lookup 93 (.map (some M)) (ci (tt:Int)) false).run Tryz.prog wr=.ok (ci (gd sp jx:Nat)) wr:=by
      have:=HMy.o.look (t:=93) (Maps.int_keyed Tryz.underlying3) Tryz.underlying93 (z:=ci 0) rfl (jd (tt:Int) (ux (by omega) (by omega)));rw[HOF.o jx (tt:Int) hjxn hjx] at this
      simpa using this
     have HJX:=qh (And.intro hjx (And.intro hlt hst));have HTT:=qh htt;clear hjx hlt hst hsj1 htt;go_wp2_with fail;clear c5 hlook;revert HR;revert H4y;revert H2y;revert HRLy;revert HVy;revert HGy;revert HCURy;revert HGV;revert HAV;revert HS
     refine cq (sdz wr) ?_;intro HS HAV HGV HCURy HGy HVy HRLy H2y H4y HR;have hU:UD (fun W=>W.cell? (ae bo 0)=some (pt O)∧W.cell? (ae br 0)=some (zl gr n cr)∧W.cell? (ae O 26)=some ((Value.slice ga j gcc))∧∀q,q<n→W.cell? (ae Gb (m+q))=some (cu ((wat gs q:Nat):Int))):=al fun W n h=>h;have hC0:=hU.at _ ⟨H4y.k 0,H2y.k 0,HR.k 26,fun q hq=>HCURy.o.cell (HEX.o q hq)⟩;refine dw aj hU hC0 ?_;intro S;generalize wr.drew=u0 at *;refine ao S hU [0,1,2,3,4,5,6,7,8] 100 9 hC0 ?_;constructor
     ·intro W' hW';simp only[pick,List.filterMap,gq1,gq2,gq3];obtain⟨q0,q1,q2,q3⟩:=hW'
      repeat (go_big_quiet_step (fail))
      exact wpQuiet_nil rfl
     refine az S hU 9 8 rfl hC0 fun n0 K1 hK1=>?_;go_wp2_with fail;refine(b7i (zl gr n cr) rl (tt:Int) (u0.drewN n0) (Or.inr ⟨gr,0,cr,by rw[hrn],by omega,(HRLy.o.drewN n0).toAt⟩) (by omega)).mono ?_;rintro e w_ ⟨kx,rfl,rfl,hkx⟩
     obtain⟨jz,rfl,hjz⟩:∃jz:Nat,kx=jz∧jz<n:=by
      rcases hkx with ⟨_,h⟩|⟨jz,h1,h2⟩
      ·exact absurd (dh HJX.o.1) h
      ·exact⟨jz,h1,by have:=(bk.1 h2).1;omega⟩
     clear hkx;have i3:(jz:Int)<n:=by omega
     go_wp2_with fail;revert HS HAV HGV HCURy HGy HVy HRLy H2y H4y HR;refine cq (sdw u0 n0) ?_;intro HS HAV HGV HCURy HGy HVy HRLy H2y H4y HR;have hC1:=hU.at _ ⟨H4y.k 0,H2y.k 0,HR.k 26,fun q hq=>HCURy.o.cell (HEX.o q hq)⟩;refine hK1 _ _ hC1 ?_;clear hK1 hC0;generalize (u0.drewN n0)=v1 at *;refine ao S hU [10,11] 100 6 hC1 ?_;constructor
     ·intro W' hW';simp only[pick,List.filterMap,gq1,gq2,gq3];obtain⟨q0,q1,q2,q3⟩:=hW';have ee:=q3 jz hjz
      repeat (go_big_quiet_step (fail))
      exact wpQuiet_nil rfl
     refine az S hU 12 5 rfl hC1 fun n1 K1 hK1=>?_;go_wp2_with fail;have ne_O_nb:O≠(v1.drewN n1).heap.size:=nnl (HR.o.drewN n1).lt;have ne_nb_O:=ne_O_nb.symm;have ne_bo_nb:bo≠(v1.drewN n1).heap.size:=nnl (H4y.o.drewN n1).lt;have ne_nb_bo:=ne_bo_nb.symm;have ne_br_nb:br≠(v1.drewN n1).heap.size:=nnl (H2y.o.drewN n1).lt;have ne_nb_br:=ne_br_nb.symm;have ne_gr_nb:gr≠(v1.drewN n1).heap.size:=nnl (HRLy.o.drewN n1).lt;have ne_nb_gr:=ne_gr_nb.symm;have ne_V_nb:V≠(v1.drewN n1).heap.size:=nnl (HVy.o.drewN n1).lt;have ne_nb_V:=ne_V_nb.symm;have ne_G_nb:G≠(v1.drewN n1).heap.size:=nnl (HGy.o.drewN n1).lt;have ne_nb_G:=ne_G_nb.symm;have ne_Gb_nb:Gb≠(v1.drewN n1).heap.size:=nnl (HCURy.o.drewN n1).lt;have ne_nb_Gb:=ne_Gb_nb.symm;have HLIT:=qh (jo (w:=(v1.drewN n1)) (cs:=#[cu ((wat gs jz:Nat):Int)]) (t:=41) rfl);have HN:=qh (Row.new (v1.drewN n1) 41 #[cu ((wat gs jz:Nat):Int)])
     revert HS HAV HGV HCURy HGy HVy HRLy H2y H4y HR;refine cq (sal v1 n1 (.cells #[cu ((wat gs jz:Nat):Int)] 41)) ?_;intro HS HAV HGV HCURy HGy HVy HRLy H2y H4y HR;have hC2:=hU.at _ ⟨H4y.k 0,H2y.k 0,HR.k 26,fun q hq=>HCURy.o.cell (HEX.o q hq)⟩;refine hK1 _ _ hC2 ?_;clear hK1 hC1;have hzN:(v1.drewN n1).heap.size=v1.heap.size:=rfl;simp only[hzN] at *;clear hzN;generalize v1.heap.size=nb at *;generalize ((v1.drewN n1).alloc (.cells #[cu ((wat gs jz:Nat):Int)] 41))=u2 at *;clear HN;refine az S hU 13 4 rfl hC2 fun n2 K1 hK1=>?_;obtain⟨i0,hi0,hz0,hz1,hz2⟩:=info_parts o6
     refine wpList_append_own_at _ rfl _ _ 37 rfl w2.heap.size 41 i0 _ 1 8 Tryz.underlying37 hi0 hz0 hz1 hz2 rfl (by decide) (Value.slice ga j gcc) j gc rfl (ai HGV.o (sdn n2) nm0) ⟨nb,0,none⟩ 1 1 (#[cu ((wat gs jz:Nat):Int)]).toList rfl rfl (fun j u h=>HLIT.o j u h) (by intro u hu;simp at hu;subst hu;rfl) (by unfold maxLen;omega) (by omega) ((HS.o.drewN n2).size) ?_;intro v9 wv9 hown9 hgrow9 _ hblk9;obtain⟨gv9,cv9,rfl⟩:=gl hown9;have hs9:=ab.grown' hgrow9;clear hgrow9;have nb_O:O∉(Value.slice ga j gcc).ownBlock.toList:=f8 HGV.o lt2_O;have nb_bo:bo∉(Value.slice ga j gcc).ownBlock.toList:=f8 HGV.o lt2_bo;have nb_br:br∉(Value.slice ga j gcc).ownBlock.toList:=f8 HGV.o lt2_br;have nb_gr:gr∉(Value.slice ga j gcc).ownBlock.toList:=f8 HGV.o lt2_gr;have nb_V:V∉(Value.slice ga j gcc).ownBlock.toList:=f8 HGV.o lt2_V
     have nb_G:G∉(Value.slice ga j gcc).ownBlock.toList:=f8 HGV.o lt2_G;have nb_Gb:Gb∉(Value.slice ga j gcc).ownBlock.toList:=f8 HGV.o lt2_Gb
     have nb_av:∀b,(Value.slice aa an acc).ownBlock=some b→b∉(Value.slice ga j gcc).ownBlock.toList:=fun b hb hm=>by
      simp only[Option.mem_toList] at hm;exact HNE.o b hm (by simp[hb])
     go_wp2_with fail
     have HNE9:Hd (∀b,(Value.slice (some ⟨gv9,0,none⟩) (j+1) cv9).ownBlock=some b→b∉(Value.slice aa an acc).ownBlock.toList):=qh (fun b hb hm=>by
      rcases hblk9 with h|h
      ·rw[h] at hb;exact HNE.o b hb hm
      ·rw[h] at hb;cases hb;exact absurd (ie HAV.o _ (by simpa using hm)) (Nat.lt_irrefl _))
     replace HS:=qh ((HS.o.drewN n2).then hs9 (fun y hy h=>absurd hy (f8 HGV.o h)));replace HGV:=qh hown9;revert HAV HCURy HGy HVy HRLy H2y H4y HR;refine cm (ssm hs9) ⟨nb_av,nb_Gb,nb_G,nb_V,nb_gr,nb_br,nb_bo,nb_O,trivial⟩ ?_;intro HAV HCURy HGy HVy HRLy H2y H4y HR;have hC3:=hU.at _ ⟨H4y.k 0,H2y.k 0,HR.k 26,fun q hq=>HCURy.o.cell (HEX.o q hq)⟩;refine hK1 _ _ hC3 ?_;clear hK1 hC2;clear hs9 hown9 hblk9 HNE;have ne_v9_O:=a6 HGV.o HR.o (by decide);have ne_av_O:=a6 HAV.o HR.o (by decide);refine ao S hU [14,15,16] 100 1 hC3 ?_;constructor
     ·intro W' hW';simp only[pick,List.filterMap,gq1,gq2,gq3];obtain⟨q0,q1,q2,q3⟩:=hW';have ee:=q3 jz hjz
      repeat (go_big_quiet_step (fail))
      exact wpQuiet_nil rfl
     refine ti S hU 17 rfl hC3 fun n3 K1 hK1=>?_;have hfz:=(HR.o.drewN n3).free;have hcw:=(HR.o.drewN n3).k 26;go_wp2_with fail;clear hfz hcw;replace HR:=qh (((HR.o.drewN n3).set 26 ((Value.slice (some ⟨gv9,0,none⟩) (j+1) cv9))).to (cs':=#[pt V,.pointer (some ⟨Y,i*3,none⟩),ci i,ci o.kind,ci o.topic,ci o.sub,ci o.cap,ci o.rank,ci o.src,ci o.mode,ci o.flags,.bool o.free,o.set,o.words,o.next,.bool o.ended,ci o.code,ci o.asub,cu o.gen,ci o.count,cu o.lost,ci o.st.m,ci o.st.s,.bool o.st.h,ci o.st.f,cu o.st.e,(Value.slice (some ⟨gv9,0,none⟩) (j+1) cv9),(Value.slice aa an acc),ci o.steps,ci o.at_]) rfl);revert HS HGV HAV HCURy HGy HVy HRLy H2y H4y;refine cm (sst wv9 n3 O 26 ((Value.slice (some ⟨gv9,0,none⟩) (j+1) cv9))) ⟨mm (by simp),no1 ne_v9_O,no1 ne_av_O,nn ne_Gb_O,nn ne_G_O,nn ne_V_O,nn ne_gr_O,nn ne_br_O,nn ne_bo_O,trivial⟩ ?_;intro HS HGV HAV HCURy HGy HVy HRLy H2y H4y
     refine hK1 _ _ ?_;clear hK1 hC3;generalize ((wv9.drewN n3).setCell ⟨O,26,none⟩ ((Value.slice (some ⟨gv9,0,none⟩) (j+1) cv9)))=u4 at *;refine dd fun n9=>?_;revert HR HS HGV HAV HCURy HGy HVy HRLy H2y H4y;refine cq (sdw u4 n9) ?_;intro HR HS HGV HAV HCURy HGy HVy HRLy H2y H4y;clear S hU;generalize u4.drewN n9=wx at *;have hws:=ky HJX.o.2.2;have hwm:=b8z sp (show jx+1≤n by omega);rw[hws] at hwm;have hM0:m=gd sp n:=HMM.o;have hssw:=(hok ss (dh HJX.o.2.2)).w2;have hssw1:=(hok ss (dh HJX.o.2.2)).w1;have hGl:=HJX.o.2.1;have HGL:=qh hGl;clear hws hGl;go_wp2_with fail;generalize gd sp jx=wj at *;rw[←hM0] at hwm;clear hM0;generalize hSW:ss.words=sw at *;have HSW:=qh hSW;clear hSW;have f1:(wj:Int)≤(wj:Int)+sw:=by omega
     have f2:(wj:Int)+sw≤m:=by omega
     have f3:(0:Int)≤wj:=by omega
     have f4:¬ m=wj:=by omega
     have f5:wj+sw-wj=sw:=by omega
     have tt0:(0:Int)≤tt:=by omega
     have ttl:(tt:Int)<l.length:=by omega
     revert HR;revert H4y;revert H2y;revert HRLy;revert HVy;revert HGy;revert HCURy;revert HGV;revert HAV;revert HS
     refine cq (sdz wx) ?_;intro HS HAV HGV HCURy HGy HVy HRLy H2y H4y HR;have hU:UD (fun W=>W.cell? (ae bo 0)=some (pt O)∧W.cell? (ae O 0)=some (pt V)∧W.cell? (ae V 7)=some (zl G l.length gk)∧W.cell? (ae O 27)=some ((Value.slice aa an acc))∧W.cell? (ae G (tt*5+3))=some (ci sw)):=al fun W n h=>h;have hC0:=hU.at _ ⟨H4y.k 0,HR.k 0,HVy.k 7,HR.k 27,by have:=(au.c HGy.o HGL.o).2.2.2.1;rwa [HSW.o] at this⟩;refine dw aj hU hC0 ?_;intro S;generalize wx.drew=u0 at *;refine ao S hU [0,1,2,3,4,5,6,7,8,9,10,11,12,13,14,15,16,17,18,19,20,21,22] 100 5 hC0 ?_;constructor
     ·intro W' hW';simp only[pick,List.filterMap,gq1,gq2,gq3];obtain⟨q0,q1,q2,q3,q4⟩:=hW'
      repeat (go_big_quiet_step (fail))
      exact wpQuiet_nil rfl
     simp only[f5];refine az S hU 23 4 rfl hC0 fun n0 K1 hK1=>?_;obtain⟨i0,hi0,hz0,hz1,hz2⟩:=info_parts o6
     have hnews:∀(q:Nat)(u:Value),((List.range sw).map fun q=>Value.int .u64 ((wat us (wj+q):Nat):Int))[q]?=some u→(u0.drewN n0).cell? ((⟨Gb,wj,none⟩:Addr).add q)=some u:=fun q u h=>by
      have hq:q<sw:=by have:=(bk.1 h).1;simpa using this
      have hu:u=Value.int .u64 ((wat us (wj+q):Nat):Int):=by simpa[hq] using h.symm
      subst hu;have hc8:=(HCURy.o.drewN n0).cell (HWX.o (wj+q) (by omega));rw[b5e];exact hc8
     refine wpList_append_own_at _ rfl _ _ 37 rfl w2.heap.size 41 i0 _ 1 8 Tryz.underlying37 hi0 hz0 hz1 hz2 rfl (by decide) (Value.slice aa an acc) an ac rfl (ai HAV.o (sdn n0) nm0) ⟨Gb,wj,none⟩ sw (m-wj) ((List.range sw).map fun q=>Value.int .u64 ((wat us (wj+q):Nat):Int)) rfl (by simp) hnews (by intro u hu;simp at hu;obtain⟨q,_,rfl⟩:=hu;rfl) (by unfold maxLen;omega) (by omega) (HS.o.drewN n0).size ?_;clear hnews;intro v8 wv8 hown8 hgrow8 _ hblk8;obtain⟨gv8,cv8,rfl⟩:=ng hown8 (by omega);have hs8:=ab.grown' hgrow8;clear hgrow8;have nb_O:O∉(Value.slice aa an acc).ownBlock.toList:=f8 HAV.o lt2_O;have nb_bo:bo∉(Value.slice aa an acc).ownBlock.toList:=f8 HAV.o lt2_bo;have nb_br:br∉(Value.slice aa an acc).ownBlock.toList:=f8 HAV.o lt2_br;have nb_gr:gr∉(Value.slice aa an acc).ownBlock.toList:=f8 HAV.o lt2_gr
     have nb_V:V∉(Value.slice aa an acc).ownBlock.toList:=f8 HAV.o lt2_V;have nb_G:G∉(Value.slice aa an acc).ownBlock.toList:=f8 HAV.o lt2_G;have nb_Gb:Gb∉(Value.slice aa an acc).ownBlock.toList:=f8 HAV.o lt2_Gb;have nb_v9:∀b,(Value.slice (some ⟨gv9,0,none⟩) (j+1) cv9).ownBlock=some b→b∉(Value.slice aa an acc).ownBlock.toList:=HNE9.o
     conv in (Act.put _ _ _)=>arg 2;whnf
     simp only[Act.put,List.setIfInBounds_toArray,List.set_cons_zero,List.set_cons_succ];go_wp2_with fail
     have HNE8:Hd (∀b,(Value.slice (some ⟨gv9,0,none⟩) (j+1) cv9).ownBlock=some b→b∉(Value.slice (some ⟨gv8,0,none⟩) (an+sw) cv8).ownBlock.toList):=qh (fun b hb hm=>by
      rcases hblk8 with h|h
      ·rw[h] at hm;exact HNE9.o b hb hm
      ·rw[h] at hm;simp only[Option.toList_some,List.mem_singleton] at hm;have h1:=ie HGV.o b hb;rw[hm] at h1;exact Nat.lt_irrefl _ h1)
     replace HS:=qh ((HS.o.drewN n0).then hs8 (fun y hy h=>absurd hy (f8 HAV.o h)));replace HAV:=qh hown8;revert HGV HCURy HGy HVy HRLy H2y H4y HR;refine cm (ssm hs8) ⟨nb_v9,nb_Gb,nb_G,nb_V,nb_gr,nb_br,nb_bo,nb_O,trivial⟩ ?_;intro HGV HCURy HGy HVy HRLy H2y H4y HR;have hC1:=hU.at _ ⟨H4y.k 0,HR.k 0,HVy.k 7,HR.k 27,by have:=(au.c HGy.o HGL.o).2.2.2.1;rwa [HSW.o] at this⟩;refine hK1 _ _ hC1 ?_;clear hK1 hC0;clear hs8 hown8 hblk8 HNE9;have ne_v8_O:=a6 HAV.o HR.o (by decide);refine ao S hU [24,25,26] 100 1 hC1 ?_;constructor
     ·intro W' hW';simp only[pick,List.filterMap,gq1,gq2,gq3];obtain⟨q0,q1,q2,q3,q4⟩:=hW'
      repeat (go_big_quiet_step (fail))
      exact wpQuiet_nil rfl
     refine ti S hU 27 rfl hC1 fun n1 K1 hK1=>?_;have hfz:=(HR.o.drewN n1).free;have hcw:=(HR.o.drewN n1).k 27;go_wp2_with fail;clear hfz hcw;replace HR:=qh (((HR.o.drewN n1).set 27 ((Value.slice (some ⟨gv8,0,none⟩) (an+sw) cv8))).to (cs':=#[pt V,.pointer (some ⟨Y,i*3,none⟩),ci i,ci o.kind,ci o.topic,ci o.sub,ci o.cap,ci o.rank,ci o.src,ci o.mode,ci o.flags,.bool o.free,o.set,o.words,o.next,.bool o.ended,ci o.code,ci o.asub,cu o.gen,ci o.count,cu o.lost,ci o.st.m,ci o.st.s,.bool o.st.h,ci o.st.f,cu o.st.e,(Value.slice (some ⟨gv9,0,none⟩) (j+1) cv9),(Value.slice (some ⟨gv8,0,none⟩) (an+sw) cv8),ci o.steps,ci o.at_]) rfl);revert HS HAV HGV HCURy HGy HVy HRLy H2y H4y;refine cm (sst wv8 n1 O 27 ((Value.slice (some ⟨gv8,0,none⟩) (an+sw) cv8))) ⟨mm (by simp),no1 ne_v8_O,no1 ne_v9_O,nn ne_Gb_O,nn ne_G_O,nn ne_V_O,nn ne_gr_O,nn ne_br_O,nn ne_bo_O,trivial⟩ ?_
     intro HS HAV HGV HCURy HGy HVy HRLy H2y H4y;refine hK1 _ _ ?_;clear hK1 hC1;generalize ((wv8.drewN n1).setCell ⟨O,27,none⟩ ((Value.slice (some ⟨gv8,0,none⟩) (an+sw) cv8)))=u2 at *;refine dd fun n9=>?_;revert HR HS HAV HGV HCURy HGy HVy HRLy H2y H4y;refine cq (sdw u2 n9) ?_;intro HR HS HAV HGV HCURy HGy HVy HRLy H2y H4y;clear S hU;generalize u2.drewN n9=wy at *;go_wp2_with fail
     go_roundw
     case rel=>
      refine⟨j+1,by omega,by go_num,qh ⟨HS.o,_,_,an+sw,_,_,HR.o,HGV.o,HAV.o,HNE8.o,?_,?_,by omega⟩⟩
      ·intro u hu;rcases List.mem_append.1 hu with h|h
       ·exact HG1.o u h
       ·simp at h;subst h;rfl
      ·intro u hu;rcases List.mem_append.1 hu with h|h
       ·exact HA1.o u h
       ·simp at h;obtain⟨q,_,rfl⟩:=h;rfl
     case measure=>simp only[intOf];omega
    ·have hj':j=SL.length:=by omega
     subst hj';have HQy:=qh (HQ.o.same HS.o (nn ne_P_O));have H1y:=qh (H1.o.same HS.o (nn ne_bs_O));have H4y:=qh (H4.o.same HS.o (nn ne_bo_O));go_wp2_with fail;have ne_gv_O:=a6 HGV.o HR.o (by decide);have ne_av_O:=a6 HAV.o HR.o (by decide);revert HR;revert H4y;revert H1y;revert HQy;revert HGV;revert HAV;revert HS
     refine cq (sdz wr) ?_;intro HS HAV HGV HQy H1y H4y HR;have hU:UD (fun W=>W.cell? (ae bo 0)=some (pt O)∧W.cell? (ae bs 0)=some (pt P)):=al fun W n h=>h;have hC0:=hU.at _ ⟨H4y.k 0,H1y.k 0⟩;refine dw aj hU hC0 ?_;intro S;generalize wr.drew=u0 at *;refine ao S hU [0,1] 100 4 hC0 ?_;constructor
     ·intro W' hW';simp only[pick,List.filterMap,gq1,gq2,gq3];obtain⟨q0,q1⟩:=hW'
      repeat (go_big_quiet_step (fail))
      exact wpQuiet_nil rfl
     refine az S hU 2 3 rfl hC0 fun n0 K1 hK1=>?_;go_wp2_with fail;refine(hat.o (u0.drewN n0) (HQy.o.drewN n0)).mono ?_;rintro e w_ ⟨rfl,rfl⟩;go_wp2_with fail;revert HS HAV HGV HQy H1y H4y HR;refine cq (sdw u0 n0) ?_;intro HS HAV HGV HQy H1y H4y HR;have hC1:=hU.at _ ⟨H4y.k 0,H1y.k 0⟩;refine hK1 _ _ hC1 ?_;clear hK1 hC0;generalize (u0.drewN n0)=v1 at *;refine ao S hU [3,4] 100 1 hC1 ?_;constructor
     ·intro W' hW';simp only[pick,List.filterMap,gq1,gq2,gq3];obtain⟨q0,q1⟩:=hW'
      repeat (go_big_quiet_step (fail))
      exact wpQuiet_nil rfl
     refine az S hU 5 0 rfl hC1 fun n1 K1 hK1=>?_;have hfz:=(HR.o.drewN n1).free;have hcw:=(HR.o.drewN n1).k 29;go_wp2_with fail;clear hfz hcw;replace HR:=qh (((HR.o.drewN n1).set 29 (ci bg)).to (cs':=#[pt V,.pointer (some ⟨Y,i*3,none⟩),ci i,ci o.kind,ci o.topic,ci o.sub,ci o.cap,ci o.rank,ci o.src,ci o.mode,ci o.flags,.bool o.free,o.set,o.words,o.next,.bool o.ended,ci o.code,ci o.asub,cu o.gen,ci o.count,cu o.lost,ci o.st.m,ci o.st.s,.bool o.st.h,ci o.st.f,cu o.st.e,(Value.slice ga SL.length gcc),(Value.slice aa an acc),ci o.steps,ci bg]) rfl);revert HS HAV HGV HQy H1y H4y;refine cm (sst v1 n1 O 29 (ci bg)) ⟨mm (by simp),no1 ne_av_O,no1 ne_gv_O,nn ne_P_O,nn ne_bs_O,nn ne_bo_O,trivial⟩ ?_;intro HS HAV HGV HQy H1y H4y;have hC2:=hU.at _ ⟨H4y.k 0,H1y.k 0⟩;refine hK1 _ _ hC2 ?_;clear hK1 hC1;generalize ((v1.drewN n1).setCell ⟨O,29,none⟩ (ci bg))=u2 at *;refine dd fun n9=>?_
     revert HR HS HAV HGV HQy H1y H4y;refine cq (sdw u2 n9) ?_;intro HR HS HAV HGV HQy H1y H4y;clear S hU hC2;generalize u2.drewN n9=wz at *;go_wp2_with fail
     go_end0
     have hSn:=HSN.o;exact⟨rfl,HBW.o.trans2 HS.o,_,_,SL.length,an,gc,ac,HR.o,kj HGV.o (by omega),kj HAV.o (by omega),HG1.o,HA1.o,by omega,by omega⟩
end Go.Proofs.YtojkaibpfdhmaaaGreatDoor

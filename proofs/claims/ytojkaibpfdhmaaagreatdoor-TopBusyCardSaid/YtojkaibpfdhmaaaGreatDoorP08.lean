/- Contracts of package snap: the other steps. -/
import Derived.Test.YtojkaibpfdhmaaaGreatDoorP07
import Derived.Outline
namespace Go.Proofs.YtojkaibpfdhmaaaGreatDoor
open Go.RowKit
set_option maxRecDepth 100000
set_option maxHeartbeats 16000000
theorem b5k(w:World)(P B A g c D1 D2 m:Nat)(l:List am)(ws gs us:List Nat)(t k b st:Nat)(hkn:l.length≤k)(hkm:k<l.length+m)(hst:st≤100000)(H:ij w P B A g c D1 D2 m l ⟨t,k,b,st,0⟩ ws gs us):Calls Tryz.prog 280 #[pt P,pt B] w fun e w'=>∃us',us'.length=us.length∧e=.returned (ci 0)∧ab [B,D1,D2,P] w w'∧ij w' P B A g c D1 D2 m l ⟨t,k+1,b,st+1,0⟩ ws gs us':=by
 have hsp:=H.sp;have hrow:=H.row;have hfit:=H.fit;have hnn:=H.ne;have hwp:l.length≤m:=by rw[H.hm];exact ll H.ok
 have hmb:m≤64*l.length:=by rw[H.hm];exact jq H.ok _
 have hl64:=H.h64;have hl1:=H.h1;have hg:=H.hg;have hu:=H.hu;obtain⟨j,hj⟩:∃j,j=k-l.length:=⟨_,rfl⟩;have hjm:j<m:=by omega
 have hkj:(k:Int)-l.length=j:=by omega
 have t1:decide ((k:Int)<l.length)=false:=dqf (by omega);have t2:decide ((k:Int)<l.length+m)=true:=dqt (by omega);have t5:decide ((k:Int)+1=2*l.length+m)=false:=dqf (by omega);have i0:(0:Int)≤j:=by omega
 have i1:(j:Int)<m:=by omega
 have hpl:=fun nq=>c2e (w.drewN nq) P g c D1 D2 m l gs ⟨t,k,b,st,0⟩ H.ok H.h64 H.hg (hsp.same ((ab.refl [] w).drewN nq) (by simp)) (hrow.drewN nq) (H.d1.drewN nq) j (by rw[←H.hm];exact hjm);have HPL:=qh hpl;have HFIT:=qh hfit;clear hpl hj;have hlt:k<100000:=by omega
 simp only[SOp.cells] at hrow;obtain⟨c0,c1,c2,c3,c4,c5,c6,c7⟩:=hrow.c8;have HH:=qh H;have HNE:=qh hnn;have HROW:=qh hrow;clear hsp hfit H hnn hrow;generalize hn:l.length=n at *;have HL:=qh hn;clear hn
 go_enter Tryz.func280,Tryz.ntmps280
 go_wp2_with fail;refine ay 2 ?_;go_wp2_with fail
 go_quiet (fail)
 go_wp2_with (first
  | (go_at_call 281;refine(HPL.o nq).mono ?_;rintro e w1 ⟨k',s',n',hk',hn',rfl,hs1⟩;have hB0:=(brf w).trans (ab.below_nil ((ab.refl [] w).drewN nq));have hs1':Below w.heap.size w w1:=bt hB0 hs1;have hat:s'.place (wat gs k')+n'<ws.length:=(by have h1:=(HFIT.o s' (dh hk')).2;have h2:=s'.place_lt (HH.o.ok s' (dh hk')) (wat gs k');omega);generalize s'.place (wat gs k')+n'=at_ at *;have r1:=HROW.o.bel hs1';have HS1:=qh hs1';have R1:=qh r1;obtain⟨c0,c1,c2,c3,c4,c5,c6,c7⟩:=r1.c8;clear hs1 hs1' hB0 r1 hk' hn')
  | (go_at_call 84;refine(fc _ B A ws at_ hat (HH.o.hb.same (ab.of_below (M:=[]) HS1.o) (by simp) (by simp))).mono ?_;rintro e w2 ⟨rfl,hs2,hb2⟩;have r2:=R1.o.same hs2 (by simpa using HNE.o.1);obtain⟨d0,d1,d2,d3,d4,d5,d6,d7⟩:=r2.c8;have fr:=r2.free;have x1:=(HH.o.d1.bel HS1.o).same hs2 (by simpa using HNE.o.2.2.1);have x2:=(HH.o.d2.bel HS1.o).same hs2 (by simpa using HNE.o.2.2.2.1);have e0:=x2.cell (ej us (i:=j) (by omega));have fD:=x2.free;have nDP:=HNE.o.2.2.2.2.2.2.2.1;have X1:=qh x1;have X2:=qh x2;have HS2:=qh ((ab.of_below (M:=[B]) HS1.o).then hs2 (fun _ h _=>h));have HB2:=qh hb2;have R2:=qh r2;clear hs2 hb2 r2 x1 x2 c0 c1 c2 c3 c4 c5 c6 c7))
 refine wp_goto ?_;refine⟨_,rfl,?_⟩;go_wp2;refine bh ?_;go_ret;obtain⟨-,n2',n3',n4',-,-,n7',n8',-,-,-⟩:=HNE.o;have n1':=HNE.o.1;have npD1:P≠(⟨D1,0,none⟩:Addr).block:=n7';have npD2:P≠(⟨D2,0,none⟩:Addr).block:=n8';have n1P:D1≠(⟨P,0,none⟩:Addr).block:=n7'.symm;have n1D2:D1≠(⟨D2,0,none⟩:Addr).block:=HH.o.n3;have n2P:D2≠(⟨P,0,none⟩:Addr).block:=n8'.symm;have n2D1:D2≠(⟨D1,0,none⟩:Addr).block:=HH.o.n3.symm;have nB:B∉[D1,D2,P]:=by simpa using ⟨n3'.symm,n4'.symm,n1'.symm⟩
 have nA:A∉[D1,D2,P]:=by simpa using ⟨HH.o.n1.symm,HH.o.n2.symm,n2'.symm⟩
 have hs4:=((((ab.refl [D1,D2,P] w2).sc P 6 (ci (st+1))).sc D2 j (cu ((wat ws at_:Nat):Int))).sc P 2 (ci (k+1)));have hS:=(HS2.o.mono (M':=[B,D1,D2,P]) (fun y hy _=>by simp at hy;simp[hy])).then hs4 (fun y hy _=>List.mem_cons_of_mem _ hy);refine⟨us.set j (wat ws at_),by simp,rfl,hS,HH.o.to hS (HB2.o.same hs4 nB nA) rfl (by simp) ?_ ?_ ?_⟩
 ·rw[HL.o];refine(((R2.o.set 6 (ci (st+1))).ot npD2 j (cu ((wat ws at_:Nat):Int))).set 2 (ci (k+1))).to ?_
  rfl
 ·first|exact(((X1.o.ot n1P 6 (ci (st+1))).ot n1D2 j (cu ((wat ws at_:Nat):Int))).ot n1P 2 (ci (k+1)))|(rw[←fo];exact(((X1.o.ot n1P 6 (ci (st+1))).ot n1D2 j (cu ((wat ws at_:Nat):Int))).ot n1P 2 (ci (k+1))))
 ·first|exact(((X2.o.ot n2P 6 (ci (st+1))).set j (cu ((wat ws at_:Nat):Int))).ot n2P 2 (ci (k+1)))|(rw[←fo];exact(((X2.o.ot n2P 6 (ci (st+1))).set j (cu ((wat ws at_:Nat):Int))).ot n2P 2 (ci (k+1))))
theorem b5l(w:World)(P B A g c D1 D2 m:Nat)(l:List am)(ws gs us:List Nat)(t k b st:Nat)(s:am)(hk:l[k-l.length-m]?=some s)(hkn:l.length+m≤k)(hge:wat ws s.seq / 2=wat gs (k-l.length-m))(hke:k+1<2*l.length+m)(hst:st≤100000)(H:ij w P B A g c D1 D2 m l ⟨t,k,b,st,0⟩ ws gs us):Calls Tryz.prog 280 #[pt P,pt B] w fun e w'=>e=.returned (ci 0)∧ab [B,D1,D2,P] w w'∧ij w' P B A g c D1 D2 m l ⟨t,k+1,b,st+1,0⟩ ws gs us:=by
 have hsp:=H.sp;have hrow:=H.row;have hfit:=H.fit;have hnn:=H.ne;have hwp:l.length≤m:=by rw[H.hm];exact ll H.ok
 have hmb:m≤64*l.length:=by rw[H.hm];exact jq H.ok _
 have hl64:=H.h64;have hl1:=H.h1;have hg:=H.hg;have hu:=H.hu;obtain⟨j,hj⟩:∃j,j=k-l.length-m:=⟨_,rfl⟩;rw[←hj] at hk;have hjl:j<l.length:=(bk.1 hk).1;have hkj:(k:Int)-l.length-m=j:=by omega
 have t1:decide ((k:Int)<l.length)=false:=dqf (by omega);have t2:decide ((k:Int)<l.length+m)=false:=dqf (by omega);obtain⟨-,e1,-⟩:=au.c hsp hk;have hsq:=(hfit s (dh hk)).1;have i0:(0:Int)≤j:=by omega
 have i1:(j:Int)<l.length:=by omega
 rw[←hj] at hge;clear hj;have t5:decide ((k:Int)+1=2*l.length+m)=false:=dqf (by omega);have t6:(((wat ws s.seq / 2:Nat):Int)==((wat gs j:Nat):Int))=true:=by rw[beq_iff_eq];omega
 have hlt:k<100000:=by omega
 simp only[SOp.cells] at hrow;obtain⟨c0,c1,c2,c3,c4,c5,c6,c7⟩:=hrow.c8;have HH:=qh H;have HNE:=qh hnn;have HROW:=qh hrow;clear hsp hfit H hnn hrow;generalize hn:l.length=n at *;have HL:=qh hn;clear hn
 go_enter Tryz.func280,Tryz.ntmps280
 go_wp2_with fail;refine ay 2 ?_;go_wp2_with fail
 go_quiet (fail)
 go_wp2_with (first|(go_at_call 84;refine(fc _ B A ws s.seq hsq (HH.o.hb.d0 nq)).mono ?_;rintro e w2 ⟨rfl,hs2,hb2⟩;have r2:=(HROW.o.drewN nq).same hs2 (by simpa using HNE.o.1);obtain⟨d0,d1,d2,d3,d4,d5,d6,d7⟩:=r2.c8;have fr:=r2.free;have x1:=(HH.o.d1.drewN nq).same hs2 (by simpa using HNE.o.2.2.1);have x2:=(HH.o.d2.drewN nq).same hs2 (by simpa using HNE.o.2.2.2.1);have e0:=x1.cell (ej gs (i:=j) (by omega));have fD:=x1.free;have nDP:=HNE.o.2.2.2.2.2.2.1;have X1:=qh x1;have X2:=qh x2;have HS2:=qh (((ab.refl [B] w).drewN nq).then hs2 (fun _ h _=>h));have HB2:=qh hb2;have R2:=qh r2;clear hs2 hb2 r2 x1 x2 c0 c1 c2 c3 c4 c5 c6 c7 e1))
 have hgn:=iq (wat ws s.seq);generalize hX:wat ws s.seq / 2=X at *;generalize wat gs j=Y at *;clear hge hX
 go_quiet ((go_at_call 85;exact Calls.quiet_same (hgn _)))
 go_wp2;refine wp_goto ?_;refine⟨_,rfl,?_⟩;go_wp2;refine bh ?_;go_ret;obtain⟨-,n2',n3',n4',-,-,n7',n8',-,-,-⟩:=HNE.o;have n1':=HNE.o.1;have npD1:P≠(⟨D1,0,none⟩:Addr).block:=n7';have npD2:P≠(⟨D2,0,none⟩:Addr).block:=n8';have n1P:D1≠(⟨P,0,none⟩:Addr).block:=n7'.symm;have n1D2:D1≠(⟨D2,0,none⟩:Addr).block:=HH.o.n3;have n2P:D2≠(⟨P,0,none⟩:Addr).block:=n8'.symm;have n2D1:D2≠(⟨D1,0,none⟩:Addr).block:=HH.o.n3.symm;have nB:B∉[D1,D2,P]:=by simpa using ⟨n3'.symm,n4'.symm,n1'.symm⟩
 have nA:A∉[D1,D2,P]:=by simpa using ⟨HH.o.n1.symm,HH.o.n2.symm,n2'.symm⟩
 have hs4:=((((ab.refl [D1,D2,P] w2).sc P 6 (ci (st+1))).drewN nq).sc P 2 (ci (k+1)));have hS:=(HS2.o.mono (M':=[B,D1,D2,P]) (fun y hy _=>by simp at hy;simp[hy])).then hs4 (fun y hy _=>List.mem_cons_of_mem _ hy);refine⟨rfl,hS,HH.o.to hS (HB2.o.same hs4 nB nA) rfl rfl ?_ ?_ ?_⟩
 ·rw[HL.o];refine(((R2.o.set 6 (ci (st+1))).drewN nq).set 2 (ci (k+1))).to ?_
  rfl
 ·first|exact(((X1.o.ot n1P 6 (ci (st+1))).drewN nq).ot n1P 2 (ci (k+1)))|(rw[←fo];exact(((X1.o.ot n1P 6 (ci (st+1))).drewN nq).ot n1P 2 (ci (k+1))))
 ·first|exact(((X2.o.ot n2P 6 (ci (st+1))).drewN nq).ot n2P 2 (ci (k+1)))|(rw[←fo];exact(((X2.o.ot n2P 6 (ci (st+1))).drewN nq).ot n2P 2 (ci (k+1))))
theorem b5m(w:World)(P B A g c D1 D2 m:Nat)(l:List am)(ws gs us:List Nat)(t k b st:Nat)(s:am)(hk:l[k-l.length-m]?=some s)(hkn:l.length+m≤k)(hge:wat ws s.seq / 2=wat gs (k-l.length-m))(hke:k+1=2*l.length+m)(hst:st≤100000)(H:ij w P B A g c D1 D2 m l ⟨t,k,b,st,0⟩ ws gs us):Calls Tryz.prog 280 #[pt P,pt B] w fun e w'=>e=.returned (ci 1)∧ab [B,D1,D2,P] w w'∧ij w' P B A g c D1 D2 m l ⟨t,k+1,b,st+1,1⟩ ws gs us:=by
 have hsp:=H.sp;have hrow:=H.row;have hfit:=H.fit;have hnn:=H.ne;have hwp:l.length≤m:=by rw[H.hm];exact ll H.ok
 have hmb:m≤64*l.length:=by rw[H.hm];exact jq H.ok _
 have hl64:=H.h64;have hl1:=H.h1;have hg:=H.hg;have hu:=H.hu;obtain⟨j,hj⟩:∃j,j=k-l.length-m:=⟨_,rfl⟩;rw[←hj] at hk;have hjl:j<l.length:=(bk.1 hk).1;have hkj:(k:Int)-l.length-m=j:=by omega
 have t1:decide ((k:Int)<l.length)=false:=dqf (by omega);have t2:decide ((k:Int)<l.length+m)=false:=dqf (by omega);obtain⟨-,e1,-⟩:=au.c hsp hk;have hsq:=(hfit s (dh hk)).1;have i0:(0:Int)≤j:=by omega
 have i1:(j:Int)<l.length:=by omega
 rw[←hj] at hge;clear hj;have t5:decide ((k:Int)+1=2*l.length+m)=true:=dqt (by omega);have t6:(((wat ws s.seq / 2:Nat):Int)==((wat gs j:Nat):Int))=true:=by rw[beq_iff_eq];omega
 have hlt:k<100000:=by omega
 simp only[SOp.cells] at hrow;obtain⟨c0,c1,c2,c3,c4,c5,c6,c7⟩:=hrow.c8;have HH:=qh H;have HNE:=qh hnn;have HROW:=qh hrow;clear hsp hfit H hnn hrow;generalize hn:l.length=n at *;have HL:=qh hn;clear hn
 go_enter Tryz.func280,Tryz.ntmps280
 go_wp2_with fail;refine ay 2 ?_;go_wp2_with fail
 go_quiet (fail)
 go_wp2_with (first|(go_at_call 84;refine(fc _ B A ws s.seq hsq (HH.o.hb.d0 nq)).mono ?_;rintro e w2 ⟨rfl,hs2,hb2⟩;have r2:=(HROW.o.drewN nq).same hs2 (by simpa using HNE.o.1);obtain⟨d0,d1,d2,d3,d4,d5,d6,d7⟩:=r2.c8;have fr:=r2.free;have x1:=(HH.o.d1.drewN nq).same hs2 (by simpa using HNE.o.2.2.1);have x2:=(HH.o.d2.drewN nq).same hs2 (by simpa using HNE.o.2.2.2.1);have e0:=x1.cell (ej gs (i:=j) (by omega));have fD:=x1.free;have nDP:=HNE.o.2.2.2.2.2.2.1;have X1:=qh x1;have X2:=qh x2;have HS2:=qh (((ab.refl [B] w).drewN nq).then hs2 (fun _ h _=>h));have HB2:=qh hb2;have R2:=qh r2;clear hs2 hb2 r2 x1 x2 c0 c1 c2 c3 c4 c5 c6 c7 e1))
 have hgn:=iq (wat ws s.seq);generalize hX:wat ws s.seq / 2=X at *;generalize wat gs j=Y at *;clear hge hX
 go_quiet ((go_at_call 85;exact Calls.quiet_same (hgn _)))
 go_wp2;refine wp_goto ?_;refine⟨_,rfl,?_⟩;go_wp2;refine bh ?_;go_ret;obtain⟨-,n2',n3',n4',-,-,n7',n8',-,-,-⟩:=HNE.o;have n1':=HNE.o.1;have npD1:P≠(⟨D1,0,none⟩:Addr).block:=n7';have npD2:P≠(⟨D2,0,none⟩:Addr).block:=n8';have n1P:D1≠(⟨P,0,none⟩:Addr).block:=n7'.symm;have n1D2:D1≠(⟨D2,0,none⟩:Addr).block:=HH.o.n3;have n2P:D2≠(⟨P,0,none⟩:Addr).block:=n8'.symm;have n2D1:D2≠(⟨D1,0,none⟩:Addr).block:=HH.o.n3.symm;have nB:B∉[D1,D2,P]:=by simpa using ⟨n3'.symm,n4'.symm,n1'.symm⟩
 have nA:A∉[D1,D2,P]:=by simpa using ⟨HH.o.n1.symm,HH.o.n2.symm,n2'.symm⟩
 have hs4:=(((((ab.refl [D1,D2,P] w2).sc P 6 (ci (st+1))).drewN nq).sc P 2 (ci (k+1))).sc P 7 (ci 1));have hS:=(HS2.o.mono (M':=[B,D1,D2,P]) (fun y hy _=>by simp at hy;simp[hy])).then hs4 (fun y hy _=>List.mem_cons_of_mem _ hy);refine⟨rfl,hS,HH.o.to hS (HB2.o.same hs4 nB nA) rfl rfl ?_ ?_ ?_⟩
 ·rw[HL.o];refine((((R2.o.set 6 (ci (st+1))).drewN nq).set 2 (ci (k+1))).set 7 (ci 1)).to ?_
  rfl
 ·first|exact((((X1.o.ot n1P 6 (ci (st+1))).drewN nq).ot n1P 2 (ci (k+1))).ot n1P 7 (ci 1))|(rw[←fo];exact((((X1.o.ot n1P 6 (ci (st+1))).drewN nq).ot n1P 2 (ci (k+1))).ot n1P 7 (ci 1)))
 ·first|exact((((X2.o.ot n2P 6 (ci (st+1))).drewN nq).ot n2P 2 (ci (k+1))).ot n2P 7 (ci 1))|(rw[←fo];exact((((X2.o.ot n2P 6 (ci (st+1))).drewN nq).ot n2P 2 (ci (k+1))).ot n2P 7 (ci 1)))
theorem b3a(w:World)(P B A g c D1 D2 m:Nat)(l:List am)(ws gs us:List Nat)(t k b st:Nat)(s:am)(hk:l[k-l.length-m]?=some s)(hkn:l.length+m≤k)(hge:wat ws s.seq / 2≠wat gs (k-l.length-m))(ht:2≤t)(ht2:t≤16)(hst:st≤100000)(H:ij w P B A g c D1 D2 m l ⟨t,k,b,st,0⟩ ws gs us):Calls Tryz.prog 280 #[pt P,pt B] w fun e w'=>e=.returned (ci 0)∧ab [B,D1,D2,P] w w'∧ij w' P B A g c D1 D2 m l ⟨t-1,0,b,st+1,0⟩ ws gs us:=by
 have hsp:=H.sp;have hrow:=H.row;have hfit:=H.fit;have hnn:=H.ne;have hwp:l.length≤m:=by rw[H.hm];exact ll H.ok
 have hmb:m≤64*l.length:=by rw[H.hm];exact jq H.ok _
 have hl64:=H.h64;have hl1:=H.h1;have hg:=H.hg;have hu:=H.hu;obtain⟨j,hj⟩:∃j,j=k-l.length-m:=⟨_,rfl⟩;rw[←hj] at hk;have hjl:j<l.length:=(bk.1 hk).1;have hkj:(k:Int)-l.length-m=j:=by omega
 have t1:decide ((k:Int)<l.length)=false:=dqf (by omega);have t2:decide ((k:Int)<l.length+m)=false:=dqf (by omega);obtain⟨-,e1,-⟩:=au.c hsp hk;have hsq:=(hfit s (dh hk)).1;have i0:(0:Int)≤j:=by omega
 have i1:(j:Int)<l.length:=by omega
 rw[←hj] at hge;clear hj;have t6:(((wat ws s.seq / 2:Nat):Int)==((wat gs j:Nat):Int))=false:=by rw[bfn];omega
 have t7:decide ((t:Int)-1=0)=false:=dqf (by omega);have hlt:k<100000:=by omega
 simp only[SOp.cells] at hrow;obtain⟨c0,c1,c2,c3,c4,c5,c6,c7⟩:=hrow.c8;have HH:=qh H;have HNE:=qh hnn;have HROW:=qh hrow;clear hsp hfit H hnn hrow;generalize hn:l.length=n at *;have HL:=qh hn;clear hn
 go_enter Tryz.func280,Tryz.ntmps280
 go_wp2_with fail;refine ay 2 ?_;go_wp2_with fail
 go_quiet (fail)
 go_wp2_with (first|(go_at_call 84;refine(fc _ B A ws s.seq hsq (HH.o.hb.d0 nq)).mono ?_;rintro e w2 ⟨rfl,hs2,hb2⟩;have r2:=(HROW.o.drewN nq).same hs2 (by simpa using HNE.o.1);obtain⟨d0,d1,d2,d3,d4,d5,d6,d7⟩:=r2.c8;have fr:=r2.free;have x1:=(HH.o.d1.drewN nq).same hs2 (by simpa using HNE.o.2.2.1);have x2:=(HH.o.d2.drewN nq).same hs2 (by simpa using HNE.o.2.2.2.1);have e0:=x1.cell (ej gs (i:=j) (by omega));have fD:=x1.free;have nDP:=HNE.o.2.2.2.2.2.2.1;have X1:=qh x1;have X2:=qh x2;have HS2:=qh (((ab.refl [B] w).drewN nq).then hs2 (fun _ h _=>h));have HB2:=qh hb2;have R2:=qh r2;clear hs2 hb2 r2 x1 x2 c0 c1 c2 c3 c4 c5 c6 c7 e1))
 have hgn:=iq (wat ws s.seq);generalize hX:wat ws s.seq / 2=X at *;generalize wat gs j=Y at *;clear hge hX
 go_quiet ((go_at_call 85;exact Calls.quiet_same (hgn _)))
 go_wp2;refine bh ?_;go_ret;obtain⟨-,n2',n3',n4',-,-,n7',n8',-,-,-⟩:=HNE.o;have n1':=HNE.o.1;have npD1:P≠(⟨D1,0,none⟩:Addr).block:=n7';have npD2:P≠(⟨D2,0,none⟩:Addr).block:=n8';have n1P:D1≠(⟨P,0,none⟩:Addr).block:=n7'.symm;have n1D2:D1≠(⟨D2,0,none⟩:Addr).block:=HH.o.n3;have n2P:D2≠(⟨P,0,none⟩:Addr).block:=n8'.symm;have n2D1:D2≠(⟨D1,0,none⟩:Addr).block:=HH.o.n3.symm;have nB:B∉[D1,D2,P]:=by simpa using ⟨n3'.symm,n4'.symm,n1'.symm⟩
 have nA:A∉[D1,D2,P]:=by simpa using ⟨HH.o.n1.symm,HH.o.n2.symm,n2'.symm⟩
 have hs4:=(((((ab.refl [D1,D2,P] w2).sc P 6 (ci (st+1))).drewN nq).sc P 2 (ci 0)).sc P 1 (ci (t-1)));have hS:=(HS2.o.mono (M':=[B,D1,D2,P]) (fun y hy _=>by simp at hy;simp[hy])).then hs4 (fun y hy _=>List.mem_cons_of_mem _ hy);refine⟨rfl,hS,HH.o.to hS (HB2.o.same hs4 nB nA) rfl rfl ?_ ?_ ?_⟩
 ·rw[HL.o];refine((((R2.o.set 6 (ci (st+1))).drewN nq).set 2 (ci 0)).set 1 (ci (t-1))).to ?_;have ht9:((t:Int)-1)=((t-1:Nat):Int):=by omega
  rw[ht9]
  rfl
 ·first|exact((((X1.o.ot n1P 6 (ci (st+1))).drewN nq).ot n1P 2 (ci 0)).ot n1P 1 (ci (t-1)))|(rw[←fo];exact((((X1.o.ot n1P 6 (ci (st+1))).drewN nq).ot n1P 2 (ci 0)).ot n1P 1 (ci (t-1))))
 ·first|exact((((X2.o.ot n2P 6 (ci (st+1))).drewN nq).ot n2P 2 (ci 0)).ot n2P 1 (ci (t-1)))|(rw[←fo];exact((((X2.o.ot n2P 6 (ci (st+1))).drewN nq).ot n2P 2 (ci 0)).ot n2P 1 (ci (t-1))))
theorem b3b(w:World)(P B A g c D1 D2 m:Nat)(l:List am)(ws gs us:List Nat)(t k b st:Nat)(s:am)(hk:l[k-l.length-m]?=some s)(hkn:l.length+m≤k)(hge:wat ws s.seq / 2≠wat gs (k-l.length-m))(ht:t=1)(hst:st≤100000)(H:ij w P B A g c D1 D2 m l ⟨t,k,b,st,0⟩ ws gs us):Calls Tryz.prog 280 #[pt P,pt B] w fun e w'=>e=.returned (ci 2)∧ab [B,D1,D2,P] w w'∧ij w' P B A g c D1 D2 m l ⟨t-1,0,b,st+1,2⟩ ws gs us:=by
 have hsp:=H.sp;have hrow:=H.row;have hfit:=H.fit;have hnn:=H.ne;have hwp:l.length≤m:=by rw[H.hm];exact ll H.ok
 have hmb:m≤64*l.length:=by rw[H.hm];exact jq H.ok _
 have hl64:=H.h64;have hl1:=H.h1;have hg:=H.hg;have hu:=H.hu;obtain⟨j,hj⟩:∃j,j=k-l.length-m:=⟨_,rfl⟩;rw[←hj] at hk;have hjl:j<l.length:=(bk.1 hk).1;have hkj:(k:Int)-l.length-m=j:=by omega
 have t1:decide ((k:Int)<l.length)=false:=dqf (by omega);have t2:decide ((k:Int)<l.length+m)=false:=dqf (by omega);obtain⟨-,e1,-⟩:=au.c hsp hk;have hsq:=(hfit s (dh hk)).1;have i0:(0:Int)≤j:=by omega
 have i1:(j:Int)<l.length:=by omega
 rw[←hj] at hge;clear hj;have t6:(((wat ws s.seq / 2:Nat):Int)==((wat gs j:Nat):Int))=false:=by rw[bfn];omega
 have t7:decide ((t:Int)-1=0)=true:=dqt (by omega);subst ht;have hlt:k<100000:=by omega
 simp only[SOp.cells] at hrow;obtain⟨c0,c1,c2,c3,c4,c5,c6,c7⟩:=hrow.c8;have HH:=qh H;have HNE:=qh hnn;have HROW:=qh hrow;clear hsp hfit H hnn hrow;generalize hn:l.length=n at *;have HL:=qh hn;clear hn
 go_enter Tryz.func280,Tryz.ntmps280
 go_wp2_with fail;refine ay 2 ?_;go_wp2_with fail
 go_quiet (fail)
 go_wp2_with (first|(go_at_call 84;refine(fc _ B A ws s.seq hsq (HH.o.hb.d0 nq)).mono ?_;rintro e w2 ⟨rfl,hs2,hb2⟩;have r2:=(HROW.o.drewN nq).same hs2 (by simpa using HNE.o.1);obtain⟨d0,d1,d2,d3,d4,d5,d6,d7⟩:=r2.c8;have fr:=r2.free;have x1:=(HH.o.d1.drewN nq).same hs2 (by simpa using HNE.o.2.2.1);have x2:=(HH.o.d2.drewN nq).same hs2 (by simpa using HNE.o.2.2.2.1);have e0:=x1.cell (ej gs (i:=j) (by omega));have fD:=x1.free;have nDP:=HNE.o.2.2.2.2.2.2.1;have X1:=qh x1;have X2:=qh x2;have HS2:=qh (((ab.refl [B] w).drewN nq).then hs2 (fun _ h _=>h));have HB2:=qh hb2;have R2:=qh r2;clear hs2 hb2 r2 x1 x2 c0 c1 c2 c3 c4 c5 c6 c7 e1))
 have hgn:=iq (wat ws s.seq);generalize hX:wat ws s.seq / 2=X at *;generalize wat gs j=Y at *;clear hge hX
 go_quiet ((go_at_call 85;exact Calls.quiet_same (hgn _)))
 go_wp2;refine bh ?_;go_ret;obtain⟨-,n2',n3',n4',-,-,n7',n8',-,-,-⟩:=HNE.o;have n1':=HNE.o.1;have npD1:P≠(⟨D1,0,none⟩:Addr).block:=n7';have npD2:P≠(⟨D2,0,none⟩:Addr).block:=n8';have n1P:D1≠(⟨P,0,none⟩:Addr).block:=n7'.symm;have n1D2:D1≠(⟨D2,0,none⟩:Addr).block:=HH.o.n3;have n2P:D2≠(⟨P,0,none⟩:Addr).block:=n8'.symm;have n2D1:D2≠(⟨D1,0,none⟩:Addr).block:=HH.o.n3.symm;have nB:B∉[D1,D2,P]:=by simpa using ⟨n3'.symm,n4'.symm,n1'.symm⟩
 have nA:A∉[D1,D2,P]:=by simpa using ⟨HH.o.n1.symm,HH.o.n2.symm,n2'.symm⟩
 have hs4:=((((((ab.refl [D1,D2,P] w2).sc P 6 (ci (st+1))).drewN nq).sc P 2 (ci 0)).sc P 1 (ci 0)).sc P 7 (ci 2));have hS:=(HS2.o.mono (M':=[B,D1,D2,P]) (fun y hy _=>by simp at hy;simp[hy])).then hs4 (fun y hy _=>List.mem_cons_of_mem _ hy);refine⟨rfl,hS,HH.o.to hS (HB2.o.same hs4 nB nA) rfl rfl ?_ ?_ ?_⟩
 ·rw[HL.o];refine(((((R2.o.set 6 (ci (st+1))).drewN nq).set 2 (ci 0)).set 1 (ci 0)).set 7 (ci 2)).to ?_
  rfl
 ·first|exact(((((X1.o.ot n1P 6 (ci (st+1))).drewN nq).ot n1P 2 (ci 0)).ot n1P 1 (ci 0)).ot n1P 7 (ci 2))|(rw[←fo];exact(((((X1.o.ot n1P 6 (ci (st+1))).drewN nq).ot n1P 2 (ci 0)).ot n1P 1 (ci 0)).ot n1P 7 (ci 2)))
 ·first|exact(((((X2.o.ot n2P 6 (ci (st+1))).drewN nq).ot n2P 2 (ci 0)).ot n2P 1 (ci 0)).ot n2P 7 (ci 2))|(rw[←fo];exact(((((X2.o.ot n2P 6 (ci (st+1))).drewN nq).ot n2P 2 (ci 0)).ot n2P 1 (ci 0)).ot n2P 7 (ci 2)))
end Go.Proofs.YtojkaibpfdhmaaaGreatDoor

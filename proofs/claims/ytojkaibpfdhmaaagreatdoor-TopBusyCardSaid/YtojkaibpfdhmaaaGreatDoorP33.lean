/- Contracts of package poll: what it tells. -/
import Derived.Test.YtojkaibpfdhmaaaGreatDoorP16
import Derived.Test.YtojkaibpfdhmaaaGreatDoorP04
namespace Go.Proofs.YtojkaibpfdhmaaaGreatDoor
open Go.RowKit
set_option maxRecDepth 100000
set_option maxHeartbeats 16000000
theorem b3c(w:World)(P B A g1 n1 k1 g2 n2 k2 nw:Nat)(wv:Value)(l:List Sub)(ts:List Tpc)(ws:List Nat)(left i gn pl sz st at_:Nat)(pk:Int)(t:Tpc)(hi:ts[i]?=some t)(hge:wat ws t.spot.seq / 2≠t.gen)(ht:2≤left)(ht2:left≤16)(hst:st≤100000)(H:eo w P B A g1 n1 k1 g2 n2 k2 wv nw ⟨left,3,i,pk,gn,pl,sz,0,st,at_⟩ l ts ws):Calls Tryz.prog 282 #[pt P,pt B] w fun e w'=>e=.returned (ci 0)∧ab [B,g2,P] w w'∧eo w' P B A g1 n1 k1 g2 n2 k2 wv nw ⟨left-1,1,0,pk,gn,pl,sz,0,st+1,at_⟩ l ts ws:=by
 have hrow:=H.row;have hnn:=H.ne;have hl2:=H.l2;have hb2:=H.b2;have hin:i<n2:=by have:=(bk.1 hi).1;omega
 obtain⟨-,-,e2,-,-,-,e6⟩:=ia.c H.tpcs hi;have hsq:=(H.fit t (dh hi)).1;have i0:(0:Int)≤i:=by omega
 have i1:(i:Int)<n2:=by omega
 have t6:(((wat ws t.spot.seq / 2:Nat):Int)==((t.gen:Nat):Int))=false:=by rw[bfn];omega
 have t7:decide ((left:Int)-1=0)=false:=dqf (by omega);have t8:(((left:Int)-1)==0)=false:=bfn.2 (by omega);simp only[POp.cells] at hrow;obtain⟨c0,c1,c2,c3,c4,c5,c6,c7,c8,c9,c10,c11,c12⟩:=hrow.c13;have HH:=qh H;have HNE:=qh hnn;have HROW:=qh hrow;clear H hnn hrow hl2
 go_enter Tryz.func282,Tryz.ntmps282
 go_wp2_with fail;refine ay 2 ?_;go_wp2_with fail;refine wp_goto ?_;refine⟨_,rfl,?_⟩;go_wp2_with fail;refine aq (fun w'=>∃n,w'=w.drewN n) 13 (by kernel_rfl) (by kernel_rfl) ⟨1,rfl⟩ ?_;simp only[List.take_succ_cons,List.take_zero,List.drop_succ_cons,List.drop_zero]
 repeat (go_big_quiet_step (fail))
 refine wpQuiet_nil ?_;rintro _ ⟨nq,rfl⟩
 go_wp2_with (first|(go_at_call 84;refine(fc _ B A ws t.spot.seq hsq (HH.o.hb.d0 nq)).mono ?_;rintro e w2 ⟨rfl,hs2,hb2⟩;have r2:=(HROW.o.drewN nq).same hs2 (by simpa using HNE.o.1);obtain⟨d0,d1,d2,d3,d4,d5,d6,d7,d8,d9,d10,d11,d12⟩:=r2.c13;have fr:=r2.free;have ht2:=(HH.o.tpcs.drewN nq).same hs2 (by simpa using HNE.o.2.2.2.2.1);have x6:=(ia.c ht2 hi).2.2.2.2.2.2;have fx:=Arr.free ht2;have n2P:=HNE.o.2.2.2.2.2.2.2.1;have HS2:=qh (((ab.refl [B] w).drewN nq).then hs2 (fun _ h _=>h));have HB2:=qh hb2;have R2:=qh r2;have HT2:=qh ht2;clear hs2 hb2 r2 ht2 c0 c1 c2 c3 c4 c5 c6 c7 c8 c9 c10 c11 c12 e2 e6))
 have hgn:=iq (wat ws t.spot.seq);have HGE:=qh hge;generalize hX:wat ws t.spot.seq / 2=X at *;clear hge hX;generalize t.gen=Y at *
 go_quiet ((go_at_call 85;exact Calls.quiet_same (hgn _)))
 revert nq;intro nz;go_wp2;refine wp_goto ?_;refine⟨_,rfl,?_⟩;go_wp2;refine bh ?_;go_ret;have hs4:=((((((ab.refl [g2,P] w2).sc P 11 (ci (st+1))).drewN nz).sc P 3 (ci 1)).sc P 4 (ci 0)).sc P 2 (ci (left-1)));have nB:B∉[g2,P]:=by simpa using ⟨HNE.o.2.2.2.2.1.symm,HNE.o.1.symm⟩
 have nA:A∉[g2,P]:=by simpa using ⟨HNE.o.2.2.2.2.2.1.symm,HNE.o.2.1.symm⟩
 have hS:=(HS2.o.mono (M':=[B,g2,P]) (fun y hy _=>by simp at hy;simp[hy])).then hs4 (fun y hy _=>List.mem_cons_of_mem _ hy);refine⟨rfl,hS,HH.o.to hS (by simp) (HB2.o.same hs4 nB nA) ?_ (((((HT2.o.ot n2P 11 (ci (st+1))).drewN nz).ot n2P 3 (ci 1)).ot n2P 4 (ci 0)).ot n2P 2 (ci (left-1))) rfl HH.o.gen⟩;refine(((((R2.o.set 11 (ci (st+1))).drewN nz).set 3 (ci 1)).set 4 (ci 0)).set 2 (ci (left-1))).to ?_;have ht9:((left:Int)-1)=((left-1:Nat):Int):=by omega
 rw[ht9]
 rfl
theorem eo.ended{W W':World}{P B A g1 n1 k1 g2 n2 k2 nw:Nat}{wv:Value}{o o':POp}{l l':List Sub}{ts:List Tpc}{ws:List Nat}(h:eo W P B A g1 n1 k1 g2 n2 k2 wv nw o l ts ws)(hs:ab [P,g1] W W')(hl:l'.map Sub.topic=l.map Sub.topic)(hu:eu W' g1 l')(hr:Row W' P 228 (o'.cells g1 n1 k1 g2 n2 k2 wv)):eo W' P B A g1 n1 k1 g2 n2 k2 wv nw o' l' ts ws:=by
 obtain⟨n1',n2',n3,n4,n5,n6,n7,n8,n9⟩:=h.ne;have hwb:=h.wb;obtain⟨us,hus,hA⟩:=h.wvs;have hlen:l'.length=l.length:=by have:=congrArg List.length hl;simpa using this
 refine⟨h.hb.same hs (by simpa using ⟨n1'.symm,n3.symm⟩) (by simpa using ⟨n2'.symm,n4.symm⟩),h.ok,h.fit,h.gen,?_,hlen.trans h.l1,h.l2,h.b1,h.b2,h.p2,hr,hu,h.tpcs.same hs (by simpa using ⟨n8,n9.symm⟩),⟨us,ai hus hs (fun b hb=>by obtain⟨q1,q2,q3,q4,q5⟩:=hwb b hb;simpa using ⟨q3,q4⟩),hA⟩,h.wn⟩;intro s hs';have h1:s.topic∈l.map Sub.topic:=by rw[←hl];exact List.mem_map.2 ⟨s,hs',rfl⟩
 obtain⟨s2,h2,h3⟩:=List.mem_map.1 h1;rw[←h3];exact h.all s2 h2
theorem b5o(w:World)(P B A g1 n1 k1 g2 n2 k2 nw:Nat)(wv:Value)(l:List Sub)(ts:List Tpc)(ws:List Nat)(left i gn pl sz st at_:Nat)(pk:Int)(t:Tpc)(hi:ts[i]?=some t)(hge:wat ws t.spot.seq / 2=t.gen)(hi2:i+1=n2)(hst:st≤100000)(H:eo w P B A g1 n1 k1 g2 n2 k2 wv nw ⟨left,3,i,pk,gn,pl,sz,0,st,at_⟩ l ts ws):Calls Tryz.prog 282 #[pt P,pt B] w fun e w'=>∃l':List Sub,l'.map Sub.topic=l.map Sub.topic∧e=.returned (ci 1)∧ab [B,g2,P,g1] w w'∧eo w' P B A g1 n1 k1 g2 n2 k2 wv nw ⟨left,3,i+1,pk,gn,pl,sz,1,st+1,at_⟩ l' ts ws:=by
 have hrow:=H.row;have hnn:=H.ne;have hl2:=H.l2;have hb2:=H.b2;have hin:i<n2:=by have:=(bk.1 hi).1;omega
 obtain⟨-,-,e2,-,-,-,e6⟩:=ia.c H.tpcs hi;have hsq:=(H.fit t (dh hi)).1;have i0:(0:Int)≤i:=by omega
 have i1:(i:Int)<n2:=by omega
 have t6:(((wat ws t.spot.seq / 2:Nat):Int)==((t.gen:Nat):Int))=true:=by rw[beq_iff_eq];omega
 have t1:decide ((i:Int)+1=n2)=true:=dqt (by omega);have t2:(((i:Int)+1)==n2)=true:=beq_iff_eq.2 (by omega);clear hi2;simp only[POp.cells] at hrow;obtain⟨c0,c1,c2,c3,c4,c5,c6,c7,c8,c9,c10,c11,c12⟩:=hrow.c13;have HH:=qh H;have HNE:=qh hnn;have HROW:=qh hrow;clear H hnn hrow hl2
 go_enter Tryz.func282,Tryz.ntmps282
 go_wp2_with fail;refine ay 2 ?_;go_wp2_with fail;refine wp_goto ?_;refine⟨_,rfl,?_⟩;go_wp2_with fail;refine aq (fun w'=>∃n,w'=w.drewN n) 13 (by kernel_rfl) (by kernel_rfl) ⟨1,rfl⟩ ?_;simp only[List.take_succ_cons,List.take_zero,List.drop_succ_cons,List.drop_zero]
 repeat (go_big_quiet_step (fail))
 refine wpQuiet_nil ?_;rintro _ ⟨nq,rfl⟩
 go_wp2_with (first|(go_at_call 84;refine(fc _ B A ws t.spot.seq hsq (HH.o.hb.d0 nq)).mono ?_;rintro e w2 ⟨rfl,hs2,hb2⟩;have r2:=(HROW.o.drewN nq).same hs2 (by simpa using HNE.o.1);obtain⟨d0,d1,d2,d3,d4,d5,d6,d7,d8,d9,d10,d11,d12⟩:=r2.c13;have fr:=r2.free;have ht2:=(HH.o.tpcs.drewN nq).same hs2 (by simpa using HNE.o.2.2.2.2.1);have x6:=(ia.c ht2 hi).2.2.2.2.2.2;have fx:=Arr.free ht2;have n2P:=HNE.o.2.2.2.2.2.2.2.1;have HS2:=qh (((ab.refl [B] w).drewN nq).then hs2 (fun _ h _=>h));have HB2:=qh hb2;have R2:=qh r2;have HT2:=qh ht2;clear hs2 hb2 r2 ht2 c0 c1 c2 c3 c4 c5 c6 c7 c8 c9 c10 c11 c12 e2 e6))
 have hgn:=iq (wat ws t.spot.seq);have HGE:=qh hge;generalize hX:wat ws t.spot.seq / 2=X at *;clear hge hX;generalize t.gen=Y at *
 go_quiet ((go_at_call 85;exact Calls.quiet_same (hgn _)))
 revert nq;intro nz;go_wp2
 go_quiet (fail)
 have hs4:=(((((ab.refl [g2,P] w2).sc P 11 (ci (st+1))).drewN nz).sc P 4 (ci (i+1))).drewN nq);have nB:B∉[g2,P]:=by simpa using ⟨HNE.o.2.2.2.2.1.symm,HNE.o.1.symm⟩
 have nA:A∉[g2,P]:=by simpa using ⟨HNE.o.2.2.2.2.2.1.symm,HNE.o.2.1.symm⟩
 have hS:=(HS2.o.mono (M':=[B,g2,P]) (fun y hy _=>by simp at hy;simp[hy])).then hs4 (fun y hy _=>List.mem_cons_of_mem _ hy);have H5:Hd (eo (((((w2.setCell ⟨P,11,none⟩ (ci (st+1))).drewN nz).setCell ⟨P,4,none⟩ (ci (i+1))).drewN nq)) P B A g1 n1 k1 g2 n2 k2 wv nw ⟨left,3,i+1,pk,gn,pl,sz,0,st+1,at_⟩ l ts ws):=qh (HH.o.to (o':=⟨left,3,i+1,pk,gn,pl,sz,0,st+1,at_⟩) hS (by simp) (HB2.o.same hs4 nB nA) (((((R2.o.set 11 (ci (st+1))).drewN nz).set 4 (ci (i+1))).drewN nq).to rfl) ((((HT2.o.ot n2P 11 (ci (st+1))).drewN nz).ot n2P 4 (ci (i+1))).drewN nq) rfl HH.o.gen);have HS5:Hd (ab [B,g2,P] w (((((w2.setCell ⟨P,11,none⟩ (ci (st+1))).drewN nz).setCell ⟨P,4,none⟩ (ci (i+1))).drewN nq))):=qh hS;generalize ((((w2.setCell ⟨P,11,none⟩ (ci (st+1))).drewN nz).setCell ⟨P,4,none⟩ (ci (i+1))).drewN nq)=w5 at *;clear hs4 hS d0 d1 d2 d3 d4 d5 d6 d7 d8 d9 d10 d11 d12 fr x6 fx
 have hfn:=b9a w5 P g1 n1 k1 g2 n2 k2 wv _ l _ H5.o.l1 H5.o.l2 H5.o.b1 H5.o.b2 H5.o.all H5.o.gen H5.o.row H5.o.subs H5.o.tpcs;have HFN:=qh hfn;clear hfn hgn
 go_wp2_with (first|(go_at_call 284;refine HFN.o.mono ?_;rintro e w6 ⟨rfl,hs6,l',hl6,hsu6,hr6⟩;simp only[POp.cells] at hr6;obtain⟨d0,d1,d2,d3,d4,d5,d6,d7,d8,d9,d10,d11,d12⟩:=hr6.c13;have fr:=hr6.free;have R6:=qh hr6;have HS6:=qh hs6;have HL6:=qh hl6;have HU6:=qh hsu6;clear hs6 hr6 hl6 hsu6 HFN))
 refine bh ?_;go_ret;refine⟨l',HL6.o,rfl,(HS5.o.mono (M':=[B,g2,P,g1]) (fun y hy _=>by simp at hy ⊢;omega)).then HS6.o (fun y hy _=>by simp at hy ⊢;omega),H5.o.ended HS6.o HL6.o HU6.o R6.o⟩
theorem b3d(w:World)(P B A g1 n1 k1 g2 n2 k2 nw:Nat)(wv:Value)(l:List Sub)(ts:List Tpc)(ws:List Nat)(left i gn pl sz st at_:Nat)(pk:Int)(t:Tpc)(hi:ts[i]?=some t)(hge:wat ws t.spot.seq / 2≠t.gen)(ht:left=1)(hst:st≤100000)(H:eo w P B A g1 n1 k1 g2 n2 k2 wv nw ⟨left,3,i,pk,gn,pl,sz,0,st,at_⟩ l ts ws):Calls Tryz.prog 282 #[pt P,pt B] w fun e w'=>e=.returned (ci 2)∧ab [B,g2,P] w w'∧eo w' P B A g1 n1 k1 g2 n2 k2 wv nw ⟨left-1,1,0,pk,gn,pl,sz,2,st+1,at_⟩ l ts ws:=by
 have hrow:=H.row;have hnn:=H.ne;have hl2:=H.l2;have hb2:=H.b2;have hin:i<n2:=by have:=(bk.1 hi).1;omega
 obtain⟨-,-,e2,-,-,-,e6⟩:=ia.c H.tpcs hi;have hsq:=(H.fit t (dh hi)).1;have i0:(0:Int)≤i:=by omega
 have i1:(i:Int)<n2:=by omega
 have t6:(((wat ws t.spot.seq / 2:Nat):Int)==((t.gen:Nat):Int))=false:=by rw[bfn];omega
 subst ht;simp only[POp.cells] at hrow;obtain⟨c0,c1,c2,c3,c4,c5,c6,c7,c8,c9,c10,c11,c12⟩:=hrow.c13;have HH:=qh H;have HNE:=qh hnn;have HROW:=qh hrow;clear H hnn hrow hl2
 go_enter Tryz.func282,Tryz.ntmps282
 go_wp2_with fail;refine ay 2 ?_;go_wp2_with fail;refine wp_goto ?_;refine⟨_,rfl,?_⟩;go_wp2_with fail;refine aq (fun w'=>∃n,w'=w.drewN n) 13 (by kernel_rfl) (by kernel_rfl) ⟨1,rfl⟩ ?_;simp only[List.take_succ_cons,List.take_zero,List.drop_succ_cons,List.drop_zero]
 repeat (go_big_quiet_step (fail))
 refine wpQuiet_nil ?_;rintro _ ⟨nq,rfl⟩
 go_wp2_with (first|(go_at_call 84;refine(fc _ B A ws t.spot.seq hsq (HH.o.hb.d0 nq)).mono ?_;rintro e w2 ⟨rfl,hs2,hb2⟩;have r2:=(HROW.o.drewN nq).same hs2 (by simpa using HNE.o.1);obtain⟨d0,d1,d2,d3,d4,d5,d6,d7,d8,d9,d10,d11,d12⟩:=r2.c13;have fr:=r2.free;have ht2:=(HH.o.tpcs.drewN nq).same hs2 (by simpa using HNE.o.2.2.2.2.1);have x6:=(ia.c ht2 hi).2.2.2.2.2.2;have fx:=Arr.free ht2;have n2P:=HNE.o.2.2.2.2.2.2.2.1;have HS2:=qh (((ab.refl [B] w).drewN nq).then hs2 (fun _ h _=>h));have HB2:=qh hb2;have R2:=qh r2;have HT2:=qh ht2;clear hs2 hb2 r2 ht2 c0 c1 c2 c3 c4 c5 c6 c7 c8 c9 c10 c11 c12 e2 e6))
 have hgn:=iq (wat ws t.spot.seq);have HGE:=qh hge;generalize hX:wat ws t.spot.seq / 2=X at *;clear hge hX;generalize t.gen=Y at *
 go_quiet ((go_at_call 85;exact Calls.quiet_same (hgn _)))
 revert nq;intro nz;go_wp2;refine wp_goto ?_;refine⟨_,rfl,?_⟩;go_wp2;refine bh ?_;go_ret;have hs4:=(((((((ab.refl [g2,P] w2).sc P 11 (ci (st+1))).drewN nz).sc P 3 (ci 1)).sc P 4 (ci 0)).sc P 2 (ci 0)).sc P 10 (ci 2));have nB:B∉[g2,P]:=by simpa using ⟨HNE.o.2.2.2.2.1.symm,HNE.o.1.symm⟩
 have nA:A∉[g2,P]:=by simpa using ⟨HNE.o.2.2.2.2.2.1.symm,HNE.o.2.1.symm⟩
 have hS:=(HS2.o.mono (M':=[B,g2,P]) (fun y hy _=>by simp at hy;simp[hy])).then hs4 (fun y hy _=>List.mem_cons_of_mem _ hy);refine⟨rfl,hS,HH.o.to hS (by simp) (HB2.o.same hs4 nB nA) ?_ ((((((HT2.o.ot n2P 11 (ci (st+1))).drewN nz).ot n2P 3 (ci 1)).ot n2P 4 (ci 0)).ot n2P 2 (ci 0)).ot n2P 10 (ci 2)) rfl HH.o.gen⟩;refine((((((R2.o.set 11 (ci (st+1))).drewN nz).set 3 (ci 1)).set 4 (ci 0)).set 2 (ci 0)).set 10 (ci 2)).to ?_
 rfl
theorem b5p(w:World)(P B A g1 n1 k1 g2 n2 k2 nw:Nat)(wv:Value)(l:List Sub)(ts:List Tpc)(ws:List Nat)(left i gn pl sz st at_:Nat)(pk:Int)(t:Tpc)(hi:ts[i]?=some t)(hge:wat ws t.spot.seq / 2=t.gen)(hi2:i+1<n2)(hst:st≤100000)(H:eo w P B A g1 n1 k1 g2 n2 k2 wv nw ⟨left,3,i,pk,gn,pl,sz,0,st,at_⟩ l ts ws):Calls Tryz.prog 282 #[pt P,pt B] w fun e w'=>e=.returned (ci 0)∧ab [B,g2,P] w w'∧eo w' P B A g1 n1 k1 g2 n2 k2 wv nw ⟨left,3,i+1,pk,gn,pl,sz,0,st+1,at_⟩ l ts ws:=by
 have hrow:=H.row;have hnn:=H.ne;have hl2:=H.l2;have hb2:=H.b2;have hin:i<n2:=by have:=(bk.1 hi).1;omega
 obtain⟨-,-,e2,-,-,-,e6⟩:=ia.c H.tpcs hi;have hsq:=(H.fit t (dh hi)).1;have i0:(0:Int)≤i:=by omega
 have i1:(i:Int)<n2:=by omega
 have t6:(((wat ws t.spot.seq / 2:Nat):Int)==((t.gen:Nat):Int))=true:=by rw[beq_iff_eq];omega
 have t1:decide ((i:Int)+1=n2)=false:=dqf (by omega);have t2:(((i:Int)+1)==n2)=false:=bfn.2 (by omega);clear hi2;simp only[POp.cells] at hrow;obtain⟨c0,c1,c2,c3,c4,c5,c6,c7,c8,c9,c10,c11,c12⟩:=hrow.c13;have HH:=qh H;have HNE:=qh hnn;have HROW:=qh hrow;clear H hnn hrow hl2
 go_enter Tryz.func282,Tryz.ntmps282
 go_wp2_with fail;refine ay 2 ?_;go_wp2_with fail;refine wp_goto ?_;refine⟨_,rfl,?_⟩;go_wp2_with fail;refine aq (fun w'=>∃n,w'=w.drewN n) 13 (by kernel_rfl) (by kernel_rfl) ⟨1,rfl⟩ ?_;simp only[List.take_succ_cons,List.take_zero,List.drop_succ_cons,List.drop_zero]
 repeat (go_big_quiet_step (fail))
 refine wpQuiet_nil ?_;rintro _ ⟨nq,rfl⟩
 go_wp2_with (first|(go_at_call 84;refine(fc _ B A ws t.spot.seq hsq (HH.o.hb.d0 nq)).mono ?_;rintro e w2 ⟨rfl,hs2,hb2⟩;have r2:=(HROW.o.drewN nq).same hs2 (by simpa using HNE.o.1);obtain⟨d0,d1,d2,d3,d4,d5,d6,d7,d8,d9,d10,d11,d12⟩:=r2.c13;have fr:=r2.free;have ht2:=(HH.o.tpcs.drewN nq).same hs2 (by simpa using HNE.o.2.2.2.2.1);have x6:=(ia.c ht2 hi).2.2.2.2.2.2;have fx:=Arr.free ht2;have n2P:=HNE.o.2.2.2.2.2.2.2.1;have HS2:=qh (((ab.refl [B] w).drewN nq).then hs2 (fun _ h _=>h));have HB2:=qh hb2;have R2:=qh r2;have HT2:=qh ht2;clear hs2 hb2 r2 ht2 c0 c1 c2 c3 c4 c5 c6 c7 c8 c9 c10 c11 c12 e2 e6))
 have hgn:=iq (wat ws t.spot.seq);have HGE:=qh hge;generalize hX:wat ws t.spot.seq / 2=X at *;clear hge hX;generalize t.gen=Y at *
 go_quiet ((go_at_call 85;exact Calls.quiet_same (hgn _)))
 revert nq;intro nz;go_wp2
 go_quiet (fail)
 go_wp2;refine bh ?_;go_ret;have hs4:=(((((ab.refl [g2,P] w2).sc P 11 (ci (st+1))).drewN nz).sc P 4 (ci (i+1))).drewN nq);have nB:B∉[g2,P]:=by simpa using ⟨HNE.o.2.2.2.2.1.symm,HNE.o.1.symm⟩
 have nA:A∉[g2,P]:=by simpa using ⟨HNE.o.2.2.2.2.2.1.symm,HNE.o.2.1.symm⟩
 have hS:=(HS2.o.mono (M':=[B,g2,P]) (fun y hy _=>by simp at hy;simp[hy])).then hs4 (fun y hy _=>List.mem_cons_of_mem _ hy);refine⟨rfl,hS,HH.o.to hS (by simp) (HB2.o.same hs4 nB nA) ?_ ((((HT2.o.ot n2P 11 (ci (st+1))).drewN nz).ot n2P 4 (ci (i+1))).drewN nq) rfl HH.o.gen⟩;refine((((R2.o.set 11 (ci (st+1))).drewN nz).set 4 (ci (i+1))).drewN nq).to ?_
 rfl
section
variable(w:World)(P g1 n1 k1 g2 n2 k2 nw:Nat)(wv:Value)(o:POp)(l:List Sub)(ts:List Tpc)(ho:o.how=1)(hr:Row w P 228 (o.cells g1 n1 k1 g2 n2 k2 wv))
include ho hr in
theorem c5t:Calls Tryz.prog 91 #[pt P] w fun e w'=>e=.returned (ci o.at_)∧w=w':=by
 obtain⟨left,rnd,i,pk,gn,pl,sz,how,st,at_⟩:=o;simp only[POp.cells] at *;subst ho;obtain⟨-,-,-,-,-,-,-,-,-,-,c10,-,c12⟩:=hr.c13;clear hr
 go_enter Tryz.func91,Tryz.ntmps91
 go_wp2;go_ret;exact⟨rfl,rfl⟩
include ho hr in
theorem b9b(cs:List Value)(hcs:Has w 6 (zl g1 n1 k1) n1 cs)(h1:∀u∈cs,u.oneCell'=true)(hn:n1≤64):Calls Tryz.prog 92 #[pt P] w fun e w'=>∃v',e=.returned v'∧Below w.heap.size w w'∧w'.ownsRow w.heap.size 170 6 v' n1 cs∧v'≠zn:=by
 obtain⟨left,rnd,i,pk,gn,pl,sz,how,st,at_⟩:=o;simp only[POp.cells] at *;subst ho;obtain⟨c0,-,-,-,-,-,-,-,-,-,c10,-,-⟩:=hr.c13;have hcl:=qh (rq hcs h1 (by omega));clear hr hcs
 go_enter Tryz.func92,Tryz.ntmps92
 go_wp2_with (first|(go_at_call 133;refine hcl.o.mono ?_;rintro e w1 ⟨v',rfl,hb,hown,hnil⟩;have HB:=qh hb;have HO:=qh hown;have HN:=qh hnil;clear hb hown hnil))
 go_ret;exact⟨_,rfl,HB.o,HO.o,fun h=>by have:=HN.o.1 h;cases this⟩
include ho hr in
theorem b9c(hn1:l.length=n1)(hn2:ts.length=n2)(hl:n1≤64)(hl2:n2≤64)(hall:∀s∈l,∃t∈ts,t.n=s.topic)(hs:eu w g1 l)(ht:ia w g2 ts):Calls Tryz.prog 94 #[pt P] w fun e w'=>∃D,e=.returned (zl D n1 n1)∧w.heap.size≤D∧Row w' D 41 (bj (fk l ts))∧Below w.heap.size w w':=by
 have hga:=qh (b1c w P g1 n1 k1 g2 n2 k2 wv o l ts hn1 hn2 hl hl2 hall hr hs ht);obtain⟨left,rnd,i,pk,gn,pl,sz,how,st,at_⟩:=o;simp only[POp.cells] at *;subst ho;obtain⟨c0,-,-,-,-,-,-,-,-,-,c10,-,-⟩:=hr.c13;clear hr hs ht hall
 go_enter Tryz.func94,Tryz.ntmps94
 go_wp2_with (first|(go_at_call 141;refine hga.o.mono ?_;rintro e w1 ⟨D,rfl,hD,hrow,hb⟩;have HB:=qh hb;have HD:=qh hD;have HR:=qh hrow;clear hb hrow hD))
 go_ret;exact⟨_,rfl,HD.o,HR.o,HB.o⟩
include ho hr in
theorem c2j(us:List Nat)(hus:w.ownsRow 0 41 1 wv nw (bj us).toList)(hn:nw≤64):Calls Tryz.prog 90 #[pt P] w fun e w'=>∃v',e=.returned (.tuple #[ci o.pick,cu o.gen,v'])∧Below w.heap.size w w'∧w'.ownsRow w.heap.size 41 1 v' nw (bj us).toList:=by
 obtain⟨left,rnd,i,pk,gn,pl,sz,how,st,at_⟩:=o;simp only[POp.cells] at *;subst ho;obtain⟨-,-,-,-,-,c5,c6,-,-,c9,c10,-,-⟩:=hr.c13
 have hcl:∀W,Below w.heap.size w W→Calls Tryz.prog 23 #[wv] W fun e w'=>∃v',e=.returned v'∧Below W.heap.size W w'∧w'.ownsRow w.heap.size 41 1 v' nw (bj us).toList:=fun W hb=>by
  refine(ez (j5 (jb hus hb)) (je us) (by omega)).mono ?_;rintro e w' ⟨v',h1,h2,h3,_⟩;refine⟨v',h1,h2,h3.1,?_⟩;rcases h3.2 with h|⟨g,cap,cur,e1,e2,e3⟩
  ·exact Or.inl h
  ·exact Or.inr ⟨g,cap,cur,e1,nlt hb.size e2,e3⟩
 have sv:Hd (∀W,Below w.heap.size w W→Below w.heap.size w W∧W.cell? (ae P 5)=some (ci pk)∧W.cell? (ae P 6)=some (cu gn)∧W.cell? (ae P 9)=some wv):=qh fun W hb=>
  ⟨hb,(hb.cell (blc c5)).trans c5,(hb.cell (blc c6)).trans c6,(hb.cell (blc c9)).trans c9⟩
 have HCL:=qh hcl;have BK0:=(brf w).drew;clear hr hcl hus
 go_enter Tryz.func90,Tryz.ntmps90
 go_wp2_with fail
 go_region_held3 (fun W=>Below w.heap.size w W∧W.cell? (ae P 5)=some (ci pk)∧W.cell? (ae P 6)=some (cu gn)∧W.cell? (ae P 9)=some wv)
  (first|(with_reducible exact sv.o _ BK0)|(with_reducible assumption)|(with_reducible exact sv.o _ (bt (And.left (by assumption)) hbw)))
  (first|(go_at_call 23;refine(HCL.o _ (And.left (by assumption))).mono ?_;rintro e w_ ⟨v',rfl,hbw,hown⟩))
 all_goals
  rename_i hK
  go_wp2
  go_ret3
  exact⟨_,rfl,hK.1,hown⟩
end
end Go.Proofs.YtojkaibpfdhmaaaGreatDoor

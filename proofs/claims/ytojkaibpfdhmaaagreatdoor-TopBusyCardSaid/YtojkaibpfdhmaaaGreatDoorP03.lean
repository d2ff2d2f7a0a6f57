/- Contracts of package write: the steps that fill. -/
import Derived.Test.YtojkaibpfdhmaaaGreatDoorP00
namespace Go.Proofs.YtojkaibpfdhmaaaGreatDoor
open Go.RowKit
set_option maxRecDepth 100000
set_option maxHeartbeats 16000000
theorem b9v(w:World)(P B A D c:Nat)(ws:List Nat)(t k:Nat)(s:am)(q n:Nat)(hb:bv w B A ws)(hs:s.seq<ws.length)(hP:P≠B∧P≠A)(hk:k≤1000)(ht1:1≤t)(ht2:t≤16)(hr:Row w P 210 (WOp.cells ⟨0,0,t,k,s,q,n⟩ D c))(hh:wat ws s.seq%2=1)(h64:wat ws s.seq≤18446744073709551615):Calls Tryz.prog 271 #[pt P,pt B] w fun e w'=>e=.returned (ci (if t=1 then 2 else 0:Nat))∧ab [B,P] w w'∧bv w' B A ws∧Row w' P 210 (WOp.cells ⟨if t=1 then 2 else 0,0,t-1,k+1,s,wat ws s.seq,n⟩ D c):=by
 have hag:=fun w'=>b2w w' P D c ⟨0,0,t,k,s,wat ws s.seq,n⟩ ht1 ht2;simp only[WOp.cells,WOp.again] at *;generalize (if t=1 then 2 else 0:Nat)=hw at *;obtain⟨c0,c1,-,-,-,c5,-⟩:=hr.c12;have hl:=b7e (wat ws s.seq) h64;have hd:decide (wat ws s.seq%2=1)=true:=by simpa using hh
 rw[hd] at hl;generalize hx:wat ws s.seq=x at *;have HAG:=qh hag;have HX:=qh hx;have HB:=qh hb;have HR:=qh hr;have HP:=qh hP;clear hr h64 hh hd hx hb hP hag
 go_enter Tryz.func271,Tryz.ntmps271
 go_wp2_with fail;refine ay 2 ?_
 go_wp2_with (first|(go_at_call 84;refine(c5m hs HB.o rfl).mono ?_;rintro e w1 ⟨rfl,hs1,hb1⟩;have r1:=HR.o.same hs1 (by simpa using HP.o.1);obtain⟨d0,d1,d2,d3,d4,d5,d6,d7,d8,d9,d10,d11⟩:=r1.c12;have fr:=r1.free;rw[HX.o];have HS1:=qh hs1;have HB1:=qh hb1;have R1:=qh r1;clear hs1 hb1 r1 c0 c1 c5)|(go_at_call 273;refine(hl _).mono ?_;rintro e w' ⟨rfl,rfl⟩))
 refine wp_goto ?_;refine⟨_,rfl,?_⟩
 go_wp2_with (first|(go_at_call 272;refine(HAG.o _ (R1.o.set 10 _)).mono ?_;rintro e w2 ⟨rfl,hs2,hr2⟩;have HS2:=qh hs2;have R2:=qh hr2;clear d0 d1 d2 d3 d4 d5 d6 d7 d8 d9 d10 d11 fr;obtain⟨d0,d1,d2,d3,d4,d5,d6,d7,d8,d9,d10,d11⟩:=hr2.c12;have fr:=hr2.free;clear hs2 hr2))
 refine wp_label ?_;go_wp2;refine bh ?_;go_ret;have hs1:=(HS1.o.mono (M':=[B,P]) (fun y hy _=>by simp at hy;simp[hy])).sc P 10 (cu (x:Int));have hs2:=hs1.then HS2.o (by simp);have n1:B∉[P]:=by simpa using HP.o.1.symm
 have n2:A∉[P]:=by simpa using HP.o.2.symm
 refine⟨rfl,?_,?_,?_⟩
 ·exact hs2.setCell (by simp) _
 ·exact((HB1.o.same (sj (W:=w1) P 10 _) n1 n2).same HS2.o n1 n2).same ((ab.refl [P] w2).setCell (by simp) _) n1 n2
 ·exact R2.o.set 3 _
theorem b9y(w:World)(P B A D c:Nat)(ws:List Nat)(t k:Nat)(s:am)(q n:Nat)(hb:bv w B A ws)(hs:s.seq<ws.length)(hP:P≠B∧P≠A)(hk:k≤1000)(hq:q≤1000000)(hr:Row w P 210 (WOp.cells ⟨0,3,t,k,s,q,n⟩ D c)):Calls Tryz.prog 271 #[pt P,pt B] w fun e w'=>e=.returned (ci (1:Nat))∧ab [B,A,P] w w'∧bv w' B A (ws.set s.seq (q+2))∧Row w' P 210 (WOp.cells ⟨1,3,t,k+1,s,q,n⟩ D c):=by
 simp only[WOp.cells] at *;obtain⟨c0,c1,-,-,-,c5,-,-,-,-,c10,-⟩:=hr.c12;have HB:=qh hb;have HR:=qh hr;have HP:=qh hP;clear hr hb hP
 go_enter Tryz.func271,Tryz.ntmps271
 go_wp2_with fail;refine ay 2 ?_;go_wp2_with fail;refine aq (fun w'=>∃n,w'=w.drewN n) 11 (by kernel_rfl) (by kernel_rfl) ⟨1,rfl⟩ ?_;simp only[List.take_succ_cons,List.take_zero,List.drop_succ_cons,List.drop_zero]
 repeat (go_big_quiet_step (fail))
 refine wpQuiet_nil ?_;rintro _ ⟨nq,rfl⟩
 go_wp2_with (first|(go_at_call 157;refine(rc hs (HB.o.d0 nq) rfl (x:=q+2) (by simp)).mono ?_;rintro e w1 ⟨rfl,hs1,hb1⟩;have HS1:=qh (((ab.refl [B,A] w).drewN nq).then hs1 (fun _ h _=>h));have r1:=(HR.o.drewN nq).same hs1 (by simpa using HP.o);obtain⟨d0,d1,d2,d3,d4,d5,d6,d7,d8,d9,d10,d11⟩:=r1.c12;have fr:=r1.free;have HB1:=qh hb1;have R1:=qh r1;clear hs1 hb1 r1 c0 c1 c5 c10))
 refine wp_goto ?_;refine⟨_,rfl,?_⟩;go_wp2;refine bh ?_;go_ret;have hs1:=HS1.o.mono (M':=[B,A,P]) (fun y hy _=>by simp at hy;simp;omega);refine⟨rfl,?_,?_,?_⟩
 ·exact(hs1.setCell (by simp) _).setCell (by simp) _
 ·exact HB1.o.same ((ab.refl [P] w1).setCell (by simp) _ |>.setCell (by simp) _) (by simpa using HP.o.1.symm) (by simpa using HP.o.2.symm)
 ·exact(R1.o.set 0 _).set 3 _
theorem b9w(w:World)(P B A D c:Nat)(ws:List Nat)(t k:Nat)(s:am)(q n v:Nat)(hb:bv w B A ws)(hok:s.Ok)(hs:s.first+s.words*s.depth≤ws.length)(hP:P≠B∧P≠A)(hk:k≤1000)(hq:q≤1000000)(hn:n+1<s.words)(hr:Row w P 210 (WOp.cells ⟨0,2,t,k,s,q,n⟩ D c))(hv:w.cell? (ae D n)=some (cu v)):Calls Tryz.prog 271 #[pt P,pt B] w fun e w'=>e=.returned (ci (0:Nat))∧ab [B,A,P] w w'∧bv w' B A (ws.set (s.place (q / 2+1)+n) v)∧Row w' P 210 (WOp.cells ⟨0,2,t,k+1,s,q,n+1⟩ D c):=by
 have hpl:=s.place_lt hok (q / 2+1);have hlt:s.place (q / 2+1)+n<ws.length:=by omega
 have hnw:n<s.words:=by omega
 have hw64:=hok.w2;have hf:=hok.f;have hpb:s.place (q / 2+1)≤2000000:=by have:=hok.w2;have:=hok.d2;have:s.words*s.depth≤64*16:=Nat.mul_le_mul (by omega) (by omega);omega
 have hat:=fun (g:ag w)=>Calls.later (b7f hok (g:=q / 2+1) (g':=(q:Int) / 2+1) (by omega) g.to);simp only[WOp.cells,am.cells] at *;obtain⟨o0,q0,f0,w0,dp0⟩:=s;simp only at *;generalize am.place _ (q / 2+1)=pl at *;obtain⟨c0,c1,-,-,c4,c5,c6,c7,c8,c9,c10,c11⟩:=hr.c12;have l4:=ag.cell c4;have l5:=ag.cell c5;have l6:=ag.cell c6;have l7:=ag.cell c7;have l8:=ag.cell c8;have l9:=ag.cell c9;have l10:=ag.cell c10;have l11:=ag.cell c11;have lv:=ag.cell hv;have i1:((n:Int))<(w0:Int):=by omega
 have HO:=qh hok;have HL:=qh hlt;have HB:=qh hb;have HR:=qh hr;have HP:=qh hP;have HN:=qh hn;clear hr hb hP hok hs hpl c4 c5 c6 c7 c8 c9 c10 c11 hv hlt hn
 go_enter Tryz.func271,Tryz.ntmps271
 go_wp2_with fail;refine ay 2 ?_;go_wp2_with fail;refine aq (fun w'=>∃g:ag w,w'=g.to) 27 (by kernel_rfl) (by kernel_rfl) (ag.start w) ?_;simp only[List.take_succ_cons,List.take_zero,List.drop_succ_cons,List.drop_zero]
 repeat (go_big_quiet_step (first|(go_at_call 85;exact Calls.later_same (c1r rfl _))|(go_at_call 139;exact hat _)))
 refine wpQuiet_nil ?_;rintro _ ⟨g,rfl⟩
 go_wp2_with (first|(go_at_call 157;refine(rc HL.o (HB.o.same (ab.of_below (M:=[]) g.2) (by simp) (by simp)) (by simp) (x:=v) rfl).mono ?_;rintro e w1 ⟨rfl,hs1,hb1⟩;have HS1:=qh ((ab.of_below (M:=[B,A]) g.2).then hs1 (fun _ h _=>h));have r1:=(HR.o.bel g.2).same hs1 (by simpa using HP.o);obtain⟨d0,d1,d2,d3,d4,d5,d6,d7,d8,d9,d10,d11⟩:=r1.c12;have fr:=r1.free;have HB1:=qh hb1;have R1:=qh r1;clear hs1 hb1 r1 c0 c1 l4 l5 l6 l7 l8 l9 l10 l11 lv hat))
 have e1:((n:Int)+1==(w0:Int))=false:=beq_false_of_ne (by have:=HN.o;omega)
 go_quiet (fail)
 go_wp2;refine wp_goto ?_;refine⟨_,rfl,?_⟩;go_wp2;refine bh ?_;go_ret;have hs1:=HS1.o.mono (M':=[B,A,P]) (fun y hy _=>by simp at hy;simp;omega);refine⟨rfl,?_,?_,?_⟩
 ·exact(((hs1.setCell (by simp) _).drewN nq).setCell (by simp) _)
 ·exact HB1.o.same ((((ab.refl [P] w1).setCell (by simp) _).drewN nq).setCell (by simp) _) (by simpa using HP.o.1.symm) (by simpa using HP.o.2.symm)
 ·exact((R1.o.set 11 _).drewN nq).set 3 _
theorem b9x(w:World)(P B A D c:Nat)(ws:List Nat)(t k:Nat)(s:am)(q n v:Nat)(hb:bv w B A ws)(hok:s.Ok)(hs:s.first+s.words*s.depth≤ws.length)(hP:P≠B∧P≠A)(hk:k≤1000)(hq:q≤1000000)(hn:n+1=s.words)(hr:Row w P 210 (WOp.cells ⟨0,2,t,k,s,q,n⟩ D c))(hv:w.cell? (ae D n)=some (cu v)):Calls Tryz.prog 271 #[pt P,pt B] w fun e w'=>e=.returned (ci (0:Nat))∧ab [B,A,P] w w'∧bv w' B A (ws.set (s.place (q / 2+1)+n) v)∧Row w' P 210 (WOp.cells ⟨0,3,t,k+1,s,q,n+1⟩ D c):=by
 have hpl:=s.place_lt hok (q / 2+1);have hlt:s.place (q / 2+1)+n<ws.length:=by omega
 have hnw:n<s.words:=by omega
 have hw64:=hok.w2;have hf:=hok.f;have hpb:s.place (q / 2+1)≤2000000:=by have:=hok.w2;have:=hok.d2;have:s.words*s.depth≤64*16:=Nat.mul_le_mul (by omega) (by omega);omega
 have hat:=fun (g:ag w)=>Calls.later (b7f hok (g:=q / 2+1) (g':=(q:Int) / 2+1) (by omega) g.to);simp only[WOp.cells,am.cells] at *;obtain⟨o0,q0,f0,w0,dp0⟩:=s;simp only at *;generalize am.place _ (q / 2+1)=pl at *;obtain⟨c0,c1,-,-,c4,c5,c6,c7,c8,c9,c10,c11⟩:=hr.c12;have l4:=ag.cell c4;have l5:=ag.cell c5;have l6:=ag.cell c6;have l7:=ag.cell c7;have l8:=ag.cell c8;have l9:=ag.cell c9;have l10:=ag.cell c10;have l11:=ag.cell c11;have lv:=ag.cell hv;have i1:((n:Int))<(w0:Int):=by omega
 have HO:=qh hok;have HL:=qh hlt;have HB:=qh hb;have HR:=qh hr;have HP:=qh hP;have HN:=qh hn;clear hr hb hP hok hs hpl c4 c5 c6 c7 c8 c9 c10 c11 hv hlt hn
 go_enter Tryz.func271,Tryz.ntmps271
 go_wp2_with fail;refine ay 2 ?_;go_wp2_with fail;refine aq (fun w'=>∃g:ag w,w'=g.to) 27 (by kernel_rfl) (by kernel_rfl) (ag.start w) ?_;simp only[List.take_succ_cons,List.take_zero,List.drop_succ_cons,List.drop_zero]
 repeat (go_big_quiet_step (first|(go_at_call 85;exact Calls.later_same (c1r rfl _))|(go_at_call 139;exact hat _)))
 refine wpQuiet_nil ?_;rintro _ ⟨g,rfl⟩
 go_wp2_with (first|(go_at_call 157;refine(rc HL.o (HB.o.same (ab.of_below (M:=[]) g.2) (by simp) (by simp)) (by simp) (x:=v) rfl).mono ?_;rintro e w1 ⟨rfl,hs1,hb1⟩;have HS1:=qh ((ab.of_below (M:=[B,A]) g.2).then hs1 (fun _ h _=>h));have r1:=(HR.o.bel g.2).same hs1 (by simpa using HP.o);obtain⟨d0,d1,d2,d3,d4,d5,d6,d7,d8,d9,d10,d11⟩:=r1.c12;have fr:=r1.free;have HB1:=qh hb1;have R1:=qh r1;clear hs1 hb1 r1 c0 c1 l4 l5 l6 l7 l8 l9 l10 l11 lv hat))
 have e1:((n:Int)+1==(w0:Int))=true:=beq_iff_eq.2 (by have:=HN.o;omega)
 go_quiet (fail)
 go_wp2;refine wp_goto ?_;refine⟨_,rfl,?_⟩;go_wp2;refine bh ?_;go_ret;have hs1:=HS1.o.mono (M':=[B,A,P]) (fun y hy _=>by simp at hy;simp;omega);refine⟨rfl,?_,?_,?_⟩
 ·exact((((hs1.setCell (by simp) _).drewN nq).setCell (by simp) _).setCell (by simp) _)
 ·exact HB1.o.same (((((ab.refl [P] w1).setCell (by simp) _).drewN nq).setCell (by simp) _).setCell (by simp) _) (by simpa using HP.o.1.symm) (by simpa using HP.o.2.symm)
 ·exact(((R1.o.set 11 _).drewN nq).set 1 _).set 3 _
end Go.Proofs.YtojkaibpfdhmaaaGreatDoor

/- Steps from world to world, for regions that make memory. -/
import Derived.Test.YtojkaibpfdhmaaaGreatDoorP00
import Derived.Maps.AppendAt
import Derived.OwnWalk
namespace Go.Proofs.YtojkaibpfdhmaaaGreatDoor
open Go.RowKit
set_option maxRecDepth 100000
set_option maxHeartbeats 16000000
theorem b5q:(Tryz.prog.info? 47).map (fun i=>(i.zero,i.size,i.bytes))=some (some (.agg #[ci 0,ci 0,ci 0,ci 0,ci 0,ci 0,ci 0,ci 0,ci 0,.bool false,zn,zn,ci 0,ci 0,cu 0,ci 0,cu 0,ci 0,ci 0,.bool false,ci 0,cu 0,zn,zn,ci 0,ci 0,ci 0]),27,280):=by kernel_rfl
theorem c8s:(Tryz.prog.info? 54).map (fun i=>(i.zero,i.size,i.bytes))=some (some (.agg #[.string ByteArray.empty,ci 0,ci 0]),3,32):=by kernel_rfl
theorem c8t:(Tryz.prog.info? 39).map (fun i=>(i.zero,i.size,i.bytes))=some (some (.agg #[ci 0,ci 0,ci 0,ci 0,ci 0,ci 0,ci 0,ci 0,.bool false,zn,zn]),11,120):=by kernel_rfl
theorem u7:(Tryz.prog.info? 112).map (fun i=>(i.zero,i.size,i.bytes))=some (some (.agg #[ci 0,ci 0,ci 0,ci 0,ci 0]),5,40):=by kernel_rfl
theorem b7j:(Tryz.prog.info? 170).map (fun i=>(i.zero,i.size,i.bytes))=some (some (.agg #[ci 0,ci 0,cu 0,ci 0,cu 0,cu 0]),6,48):=by kernel_rfl
theorem c5u:(Tryz.prog.info? 231).map (fun i=>(i.zero,i.size,i.bytes))=some (some (.agg #[ci 0,ci 0,ci 0,ci 0,ci 0,ci 0,cu 0]),7,56):=by kernel_rfl
theorem c8u:(Tryz.prog.info? 97).map (fun i=>(i.zero,i.size,i.bytes))=some (some (.agg #[.map none,zn,.pointer none]),3,40):=by kernel_rfl
theorem c8v:(Tryz.prog.info? 57).map (fun i=>(i.zero,i.size,i.bytes))=some (some (.agg #[ci 0,zn]),2,32):=by kernel_rfl
theorem c5v(w:World)(a:Addr)(n c:Nat)(cs:List Value)(hl:cs.length=n*27)(hc:∀j u,cs[j]?=some u→w.cell? (a.add j)=some u)(h1:∀u∈cs,u.oneCell'=true)(hn:n≤1000000000):Calls Tryz.prog 21 #[.slice (some a) n c] w fun e w'=>∃g cap cur,e=.returned (zl g n cap)∧Below w.heap.size w w'∧w.heap.size≤g∧Row w' g 47 cur∧n≤cap∧cap≤maxLen∧cur.size=cap*27∧cur.toList.take (n*27)=cs:=by
 obtain⟨i0,hi,hz0,hz1,hz2⟩:=info_parts b5q;have hb:∀w:World,(Instr.buildSlice 29 0 #[]).run Tryz.prog w=.ok (zl w.heap.size 0 0) (w.alloc (.cells #[] 47)):=fun _=>by kernel_rfl
 have hown:(w.alloc (.cells #[] 47)).ownsRow w.heap.size 47 27 (zl w.heap.size 0 0) 0 []:=⟨rfl,Or.inr ⟨w.heap.size,0,#[],rfl,nlr _,heap_alloc_new w _,nlr _,by simp[maxLen],rfl,rfl⟩⟩
 have hc':∀j u,cs[j]?=some u→(w.alloc (.cells #[] 47)).cell? (a.add j)=some u:=fun j u h=>by
  have h2:=hc j u h;rw[←h2];exact World.cell?_alloc_lt _ _ _ (blc h2)
 have heq:=Lib.run_eql_slice_nil (P:=Tryz.prog) w 29 47 (some a) n c 0 0 Tryz.underlying29;have hB:=(brf w).alloc (nlr _) (.cells #[] 47)
 go_enter Tryz.func21,Tryz.ntmps21
 go_wp2_with (first|(at_builtin;go_loud (refine wpList_append_own _ rfl _ _ 29 rfl w.heap.size 47 i0 _ 27 280 Tryz.underlying29 hi hz0 hz1 hz2 rfl (by decide) _ _ _ rfl hown a n c cs rfl hl hc' h1 ?_ ?_ ?_ ?_;(simp only[maxLen];omega);omega;simp;intro v' w' hown' hg hnil)))
 have hgr:(w.alloc (.cells #[] 47)).grownBy w' (some w.heap.size):=hg;rw[Nat.zero_add,List.nil_append] at hown';obtain⟨_,h2⟩:=hown';rcases h2 with ⟨hn0,_⟩|⟨g,cap,cur,rfl,hb2,hg2,h3,h4,h5,h6⟩
 ·exact absurd (hnil.1 hn0).1 (fun h=>by cases h)
 ·go_wp2;go_ret;exact⟨g,cap,cur,rfl,hB.grown hgr hB.size (fun j hj=>by cases hj;exact nlr _),hb2,⟨hg2⟩,h3,h4,h5,h6⟩
theorem b3e(w:World):Calls Tryz.prog 21 #[zn] w fun e w'=>e=.returned (zn)∧w=w':=by
 have heq:=Lib.run_eql_slice_nil (P:=Tryz.prog) w 29 47 none 0 0 0 0 Tryz.underlying29
 go_enter Tryz.func21,Tryz.ntmps21
 go_wp2;go_ret;exact⟨rfl,rfl⟩
theorem c5w(w:World)(a:Addr)(n c:Nat)(cs:List Value)(hl:cs.length=n*1)(hc:∀j u,cs[j]?=some u→w.cell? (a.add j)=some u)(h1:∀u∈cs,u.oneCell'=true)(hn:n≤1000000000):Calls Tryz.prog 22 #[.slice (some a) n c] w fun e w'=>∃g cap cur,e=.returned (zl g n cap)∧Below w.heap.size w w'∧w.heap.size≤g∧Row w' g 3 cur∧n≤cap∧cap≤maxLen∧cur.size=cap*1∧cur.toList.take (n*1)=cs:=by
 obtain⟨i0,hi,hz0,hz1,hz2⟩:=info_parts b7d;have hb:∀w:World,(Instr.buildSlice 26 0 #[]).run Tryz.prog w=.ok (zl w.heap.size 0 0) (w.alloc (.cells #[] 3)):=fun _=>by kernel_rfl
 have hown:(w.alloc (.cells #[] 3)).ownsRow w.heap.size 3 1 (zl w.heap.size 0 0) 0 []:=⟨rfl,Or.inr ⟨w.heap.size,0,#[],rfl,nlr _,heap_alloc_new w _,nlr _,by simp[maxLen],rfl,rfl⟩⟩
 have hc':∀j u,cs[j]?=some u→(w.alloc (.cells #[] 3)).cell? (a.add j)=some u:=fun j u h=>by
  have h2:=hc j u h;rw[←h2];exact World.cell?_alloc_lt _ _ _ (blc h2)
 have heq:=Lib.run_eql_slice_nil (P:=Tryz.prog) w 26 3 (some a) n c 0 0 Tryz.underlying26;have hB:=(brf w).alloc (nlr _) (.cells #[] 3)
 go_enter Tryz.func22,Tryz.ntmps22
 go_wp2_with (first|(at_builtin;go_loud (refine wpList_append_own _ rfl _ _ 26 rfl w.heap.size 3 i0 _ 1 8 Tryz.underlying26 hi hz0 hz1 hz2 rfl (by decide) _ _ _ rfl hown a n c cs rfl hl hc' h1 ?_ ?_ ?_ ?_;(simp only[maxLen];omega);omega;simp;intro v' w' hown' hg hnil)))
 have hgr:(w.alloc (.cells #[] 3)).grownBy w' (some w.heap.size):=hg;rw[Nat.zero_add,List.nil_append] at hown';obtain⟨_,h2⟩:=hown';rcases h2 with ⟨hn0,_⟩|⟨g,cap,cur,rfl,hb2,hg2,h3,h4,h5,h6⟩
 ·exact absurd (hnil.1 hn0).1 (fun h=>by cases h)
 ·go_wp2;go_ret;exact⟨g,cap,cur,rfl,hB.grown hgr hB.size (fun j hj=>by cases hj;exact nlr _),hb2,⟨hg2⟩,h3,h4,h5,h6⟩
theorem b3f(w:World):Calls Tryz.prog 22 #[zn] w fun e w'=>e=.returned (zn)∧w=w':=by
 have heq:=Lib.run_eql_slice_nil (P:=Tryz.prog) w 26 3 none 0 0 0 0 Tryz.underlying26
 go_enter Tryz.func22,Tryz.ntmps22
 go_wp2;go_ret;exact⟨rfl,rfl⟩
theorem b7k(w:World)(a:Addr)(n c:Nat)(cs:List Value)(hl:cs.length=n*1)(hc:∀j u,cs[j]?=some u→w.cell? (a.add j)=some u)(h1:∀u∈cs,u.oneCell'=true)(hn:n≤1000000000):Calls Tryz.prog 23 #[.slice (some a) n c] w fun e w'=>∃g cap cur,e=.returned (zl g n cap)∧Below w.heap.size w w'∧w.heap.size≤g∧Row w' g 41 cur∧n≤cap∧cap≤maxLen∧cur.size=cap*1∧cur.toList.take (n*1)=cs:=by
 obtain⟨i0,hi,hz0,hz1,hz2⟩:=info_parts o6;have hb:∀w:World,(Instr.buildSlice 37 0 #[]).run Tryz.prog w=.ok (zl w.heap.size 0 0) (w.alloc (.cells #[] 41)):=fun _=>by kernel_rfl
 have hown:(w.alloc (.cells #[] 41)).ownsRow w.heap.size 41 1 (zl w.heap.size 0 0) 0 []:=⟨rfl,Or.inr ⟨w.heap.size,0,#[],rfl,nlr _,heap_alloc_new w _,nlr _,by simp[maxLen],rfl,rfl⟩⟩
 have hc':∀j u,cs[j]?=some u→(w.alloc (.cells #[] 41)).cell? (a.add j)=some u:=fun j u h=>by
  have h2:=hc j u h;rw[←h2];exact World.cell?_alloc_lt _ _ _ (blc h2)
 have heq:=Lib.run_eql_slice_nil (P:=Tryz.prog) w 37 41 (some a) n c 0 0 Tryz.underlying37;have hB:=(brf w).alloc (nlr _) (.cells #[] 41)
 go_enter Tryz.func23,Tryz.ntmps23
 go_wp2_with (first|(at_builtin;go_loud (refine wpList_append_own _ rfl _ _ 37 rfl w.heap.size 41 i0 _ 1 8 Tryz.underlying37 hi hz0 hz1 hz2 rfl (by decide) _ _ _ rfl hown a n c cs rfl hl hc' h1 ?_ ?_ ?_ ?_;(simp only[maxLen];omega);omega;simp;intro v' w' hown' hg hnil)))
 have hgr:(w.alloc (.cells #[] 41)).grownBy w' (some w.heap.size):=hg;rw[Nat.zero_add,List.nil_append] at hown';obtain⟨_,h2⟩:=hown';rcases h2 with ⟨hn0,_⟩|⟨g,cap,cur,rfl,hb2,hg2,h3,h4,h5,h6⟩
 ·exact absurd (hnil.1 hn0).1 (fun h=>by cases h)
 ·go_wp2;go_ret;exact⟨g,cap,cur,rfl,hB.grown hgr hB.size (fun j hj=>by cases hj;exact nlr _),hb2,⟨hg2⟩,h3,h4,h5,h6⟩
theorem b3g(w:World):Calls Tryz.prog 23 #[zn] w fun e w'=>e=.returned (zn)∧w=w':=by
 have heq:=Lib.run_eql_slice_nil (P:=Tryz.prog) w 37 41 none 0 0 0 0 Tryz.underlying37
 go_enter Tryz.func23,Tryz.ntmps23
 go_wp2;go_ret;exact⟨rfl,rfl⟩
theorem c5x(w:World)(a:Addr)(n c:Nat)(cs:List Value)(hl:cs.length=n*3)(hc:∀j u,cs[j]?=some u→w.cell? (a.add j)=some u)(h1:∀u∈cs,u.oneCell'=true)(hn:n≤1000000000):Calls Tryz.prog 27 #[.slice (some a) n c] w fun e w'=>∃g cap cur,e=.returned (zl g n cap)∧Below w.heap.size w w'∧w.heap.size≤g∧Row w' g 54 cur∧n≤cap∧cap≤maxLen∧cur.size=cap*3∧cur.toList.take (n*3)=cs:=by
 obtain⟨i0,hi,hz0,hz1,hz2⟩:=info_parts c8s;have hb:∀w:World,(Instr.buildSlice 22 0 #[]).run Tryz.prog w=.ok (zl w.heap.size 0 0) (w.alloc (.cells #[] 54)):=fun _=>by kernel_rfl
 have hown:(w.alloc (.cells #[] 54)).ownsRow w.heap.size 54 3 (zl w.heap.size 0 0) 0 []:=⟨rfl,Or.inr ⟨w.heap.size,0,#[],rfl,nlr _,heap_alloc_new w _,nlr _,by simp[maxLen],rfl,rfl⟩⟩
 have hc':∀j u,cs[j]?=some u→(w.alloc (.cells #[] 54)).cell? (a.add j)=some u:=fun j u h=>by
  have h2:=hc j u h;rw[←h2];exact World.cell?_alloc_lt _ _ _ (blc h2)
 have heq:=Lib.run_eql_slice_nil (P:=Tryz.prog) w 22 54 (some a) n c 0 0 Tryz.underlying22;have hB:=(brf w).alloc (nlr _) (.cells #[] 54)
 go_enter Tryz.func27,Tryz.ntmps27
 go_wp2_with (first|(at_builtin;go_loud (refine wpList_append_own _ rfl _ _ 22 rfl w.heap.size 54 i0 _ 3 32 Tryz.underlying22 hi hz0 hz1 hz2 rfl (by decide) _ _ _ rfl hown a n c cs rfl hl hc' h1 ?_ ?_ ?_ ?_;(simp only[maxLen];omega);omega;simp;intro v' w' hown' hg hnil)))
 have hgr:(w.alloc (.cells #[] 54)).grownBy w' (some w.heap.size):=hg;rw[Nat.zero_add,List.nil_append] at hown';obtain⟨_,h2⟩:=hown';rcases h2 with ⟨hn0,_⟩|⟨g,cap,cur,rfl,hb2,hg2,h3,h4,h5,h6⟩
 ·exact absurd (hnil.1 hn0).1 (fun h=>by cases h)
 ·go_wp2;go_ret;exact⟨g,cap,cur,rfl,hB.grown hgr hB.size (fun j hj=>by cases hj;exact nlr _),hb2,⟨hg2⟩,h3,h4,h5,h6⟩
theorem b3h(w:World):Calls Tryz.prog 27 #[zn] w fun e w'=>e=.returned (zn)∧w=w':=by
 have heq:=Lib.run_eql_slice_nil (P:=Tryz.prog) w 22 54 none 0 0 0 0 Tryz.underlying22
 go_enter Tryz.func27,Tryz.ntmps27
 go_wp2;go_ret;exact⟨rfl,rfl⟩
theorem c5y(w:World)(a:Addr)(n c:Nat)(cs:List Value)(hl:cs.length=n*11)(hc:∀j u,cs[j]?=some u→w.cell? (a.add j)=some u)(h1:∀u∈cs,u.oneCell'=true)(hn:n≤1000000000):Calls Tryz.prog 28 #[.slice (some a) n c] w fun e w'=>∃g cap cur,e=.returned (zl g n cap)∧Below w.heap.size w w'∧w.heap.size≤g∧Row w' g 39 cur∧n≤cap∧cap≤maxLen∧cur.size=cap*11∧cur.toList.take (n*11)=cs:=by
 obtain⟨i0,hi,hz0,hz1,hz2⟩:=info_parts c8t;have hb:∀w:World,(Instr.buildSlice 55 0 #[]).run Tryz.prog w=.ok (zl w.heap.size 0 0) (w.alloc (.cells #[] 39)):=fun _=>by kernel_rfl
 have hown:(w.alloc (.cells #[] 39)).ownsRow w.heap.size 39 11 (zl w.heap.size 0 0) 0 []:=⟨rfl,Or.inr ⟨w.heap.size,0,#[],rfl,nlr _,heap_alloc_new w _,nlr _,by simp[maxLen],rfl,rfl⟩⟩
 have hc':∀j u,cs[j]?=some u→(w.alloc (.cells #[] 39)).cell? (a.add j)=some u:=fun j u h=>by
  have h2:=hc j u h;rw[←h2];exact World.cell?_alloc_lt _ _ _ (blc h2)
 have heq:=Lib.run_eql_slice_nil (P:=Tryz.prog) w 55 39 (some a) n c 0 0 Tryz.underlying55;have hB:=(brf w).alloc (nlr _) (.cells #[] 39)
 go_enter Tryz.func28,Tryz.ntmps28
 go_wp2_with (first|(at_builtin;go_loud (refine wpList_append_own _ rfl _ _ 55 rfl w.heap.size 39 i0 _ 11 120 Tryz.underlying55 hi hz0 hz1 hz2 rfl (by decide) _ _ _ rfl hown a n c cs rfl hl hc' h1 ?_ ?_ ?_ ?_;(simp only[maxLen];omega);omega;simp;intro v' w' hown' hg hnil)))
 have hgr:(w.alloc (.cells #[] 39)).grownBy w' (some w.heap.size):=hg;rw[Nat.zero_add,List.nil_append] at hown';obtain⟨_,h2⟩:=hown';rcases h2 with ⟨hn0,_⟩|⟨g,cap,cur,rfl,hb2,hg2,h3,h4,h5,h6⟩
 ·exact absurd (hnil.1 hn0).1 (fun h=>by cases h)
 ·go_wp2;go_ret;exact⟨g,cap,cur,rfl,hB.grown hgr hB.size (fun j hj=>by cases hj;exact nlr _),hb2,⟨hg2⟩,h3,h4,h5,h6⟩
theorem b3i(w:World):Calls Tryz.prog 28 #[zn] w fun e w'=>e=.returned (zn)∧w=w':=by
 have heq:=Lib.run_eql_slice_nil (P:=Tryz.prog) w 55 39 none 0 0 0 0 Tryz.underlying55
 go_enter Tryz.func28,Tryz.ntmps28
 go_wp2;go_ret;exact⟨rfl,rfl⟩
theorem c2k(w:World)(a:Addr)(n c:Nat)(cs:List Value)(hl:cs.length=n*5)(hc:∀j u,cs[j]?=some u→w.cell? (a.add j)=some u)(h1:∀u∈cs,u.oneCell'=true)(hn:n≤1000000000):Calls Tryz.prog 126 #[.slice (some a) n c] w fun e w'=>∃g cap cur,e=.returned (zl g n cap)∧Below w.heap.size w w'∧w.heap.size≤g∧Row w' g 112 cur∧n≤cap∧cap≤maxLen∧cur.size=cap*5∧cur.toList.take (n*5)=cs:=by
 obtain⟨i0,hi,hz0,hz1,hz2⟩:=info_parts u7;have hb:∀w:World,(Instr.buildSlice 81 0 #[]).run Tryz.prog w=.ok (zl w.heap.size 0 0) (w.alloc (.cells #[] 112)):=fun _=>by kernel_rfl
 have hown:(w.alloc (.cells #[] 112)).ownsRow w.heap.size 112 5 (zl w.heap.size 0 0) 0 []:=⟨rfl,Or.inr ⟨w.heap.size,0,#[],rfl,nlr _,heap_alloc_new w _,nlr _,by simp[maxLen],rfl,rfl⟩⟩
 have hc':∀j u,cs[j]?=some u→(w.alloc (.cells #[] 112)).cell? (a.add j)=some u:=fun j u h=>by
  have h2:=hc j u h;rw[←h2];exact World.cell?_alloc_lt _ _ _ (blc h2)
 have heq:=Lib.run_eql_slice_nil (P:=Tryz.prog) w 81 112 (some a) n c 0 0 Tryz.underlying81;have hB:=(brf w).alloc (nlr _) (.cells #[] 112)
 go_enter Tryz.func126,Tryz.ntmps126
 go_wp2_with (first|(at_builtin;go_loud (refine wpList_append_own _ rfl _ _ 81 rfl w.heap.size 112 i0 _ 5 40 Tryz.underlying81 hi hz0 hz1 hz2 rfl (by decide) _ _ _ rfl hown a n c cs rfl hl hc' h1 ?_ ?_ ?_ ?_;(simp only[maxLen];omega);omega;simp;intro v' w' hown' hg hnil)))
 have hgr:(w.alloc (.cells #[] 112)).grownBy w' (some w.heap.size):=hg;rw[Nat.zero_add,List.nil_append] at hown';obtain⟨_,h2⟩:=hown';rcases h2 with ⟨hn0,_⟩|⟨g,cap,cur,rfl,hb2,hg2,h3,h4,h5,h6⟩
 ·exact absurd (hnil.1 hn0).1 (fun h=>by cases h)
 ·go_wp2;go_ret;exact⟨g,cap,cur,rfl,hB.grown hgr hB.size (fun j hj=>by cases hj;exact nlr _),hb2,⟨hg2⟩,h3,h4,h5,h6⟩
theorem c2l(w:World)(a:Addr)(n c:Nat)(cs:List Value)(hl:cs.length=n*6)(hc:∀j u,cs[j]?=some u→w.cell? (a.add j)=some u)(h1:∀u∈cs,u.oneCell'=true)(hn:n≤1000000000):Calls Tryz.prog 133 #[.slice (some a) n c] w fun e w'=>∃g cap cur,e=.returned (zl g n cap)∧Below w.heap.size w w'∧w.heap.size≤g∧Row w' g 170 cur∧n≤cap∧cap≤maxLen∧cur.size=cap*6∧cur.toList.take (n*6)=cs:=by
 obtain⟨i0,hi,hz0,hz1,hz2⟩:=info_parts b7j;have hb:∀w:World,(Instr.buildSlice 94 0 #[]).run Tryz.prog w=.ok (zl w.heap.size 0 0) (w.alloc (.cells #[] 170)):=fun _=>by kernel_rfl
 have hown:(w.alloc (.cells #[] 170)).ownsRow w.heap.size 170 6 (zl w.heap.size 0 0) 0 []:=⟨rfl,Or.inr ⟨w.heap.size,0,#[],rfl,nlr _,heap_alloc_new w _,nlr _,by simp[maxLen],rfl,rfl⟩⟩
 have hc':∀j u,cs[j]?=some u→(w.alloc (.cells #[] 170)).cell? (a.add j)=some u:=fun j u h=>by
  have h2:=hc j u h;rw[←h2];exact World.cell?_alloc_lt _ _ _ (blc h2)
 have heq:=Lib.run_eql_slice_nil (P:=Tryz.prog) w 94 170 (some a) n c 0 0 Tryz.underlying94;have hB:=(brf w).alloc (nlr _) (.cells #[] 170)
 go_enter Tryz.func133,Tryz.ntmps133
 go_wp2_with (first|(at_builtin;go_loud (refine wpList_append_own _ rfl _ _ 94 rfl w.heap.size 170 i0 _ 6 48 Tryz.underlying94 hi hz0 hz1 hz2 rfl (by decide) _ _ _ rfl hown a n c cs rfl hl hc' h1 ?_ ?_ ?_ ?_;(simp only[maxLen];omega);omega;simp;intro v' w' hown' hg hnil)))
 have hgr:(w.alloc (.cells #[] 170)).grownBy w' (some w.heap.size):=hg;rw[Nat.zero_add,List.nil_append] at hown';obtain⟨_,h2⟩:=hown';rcases h2 with ⟨hn0,_⟩|⟨g,cap,cur,rfl,hb2,hg2,h3,h4,h5,h6⟩
 ·exact absurd (hnil.1 hn0).1 (fun h=>by cases h)
 ·go_wp2;go_ret;exact⟨g,cap,cur,rfl,hB.grown hgr hB.size (fun j hj=>by cases hj;exact nlr _),hb2,⟨hg2⟩,h3,h4,h5,h6⟩
theorem b1j(w:World):Calls Tryz.prog 133 #[zn] w fun e w'=>e=.returned (zn)∧w=w':=by
 have heq:=Lib.run_eql_slice_nil (P:=Tryz.prog) w 94 170 none 0 0 0 0 Tryz.underlying94
 go_enter Tryz.func133,Tryz.ntmps133
 go_wp2;go_ret;exact⟨rfl,rfl⟩
structure Has(W:World)(sz:Nat)(v:Value)(n:Nat)(cs:List Value):Prop where
 len:cs.length=n*sz
 shape:(v=zn∧n=0)∨∃a c,v=.slice (some a) n c∧∀j u,cs[j]?=some u→W.cell? (a.add j)=some u
section
variable{W W':World}{sz n E base:Nat}{v:Value}{cs:List Value}{M:List Nat}
theorem Has.nil(W:World)(sz:Nat):Has W sz (zn) 0 []:=⟨by simp,Or.inl ⟨rfl,rfl⟩⟩
theorem Has.bel(h:Has W sz v n cs)(hb:Below W.heap.size W W'):Has W' sz v n cs:=by
 refine⟨h.len,?_⟩;rcases h.shape with h1|⟨a,c,h1,h2⟩
 ·exact Or.inl h1
 ·exact Or.inr ⟨a,c,h1,fun j u hu=>(hb.cell (blc (h2 j u hu))).trans (h2 j u hu)⟩
theorem Has.same(h:Has W sz v n cs)(hs:ab M W W')(hb:∀b,v.ownBlock=some b→b∉M):Has W' sz v n cs:=by
 refine⟨h.len,?_⟩;rcases h.shape with h1|⟨a,c,rfl,h2⟩
 ·exact Or.inl h1
 ·refine Or.inr ⟨a,c,rfl,fun j u hu=>?_⟩;have h3:=h2 j u hu;have e:(a.add j).block=a.block:=by unfold Addr.add;split<;>rfl
  have h4:=hs.block (a.add j).block (blc h3) (by rw[e];exact hb _ rfl);unfold World.cell? at h3 ⊢
  rwa [h4]
theorem j5(h:W.ownsRow base E sz v n cs):Has W sz v n cs:=by
 refine⟨h.1,?_⟩;rcases h.2 with h1|⟨g,cap,cur,rfl,h2,h3,h4,h5,h6,h7⟩
 ·exact Or.inl h1
 ·refine Or.inr ⟨_,_,rfl,fun j u hu=>?_⟩;rw[show (⟨g,0,none⟩:Addr).add j=⟨g,j,none⟩ by simp[Addr.add];omega];rw[cell_of_row _ _ _ _ _ _ h3];have:(cur.toList.take (n*sz))[j]?=some u:=by rw[h7];exact hu
  rw[List.getElem?_take] at this
  split at this
  ·simpa using this
  ·cases this
theorem ai(h:W.ownsRow base E sz v n cs)(hs:ab M W W')(hb:∀b,v.ownBlock=some b→b∉M):W'.ownsRow base E sz v n cs:=by
 refine⟨h.1,?_⟩;rcases h.2 with h1|⟨g,cap,cur,rfl,h2,h3,h4⟩
 ·exact Or.inl h1
 ·exact Or.inr ⟨g,cap,cur,rfl,h2,(hs.block g (Array.getElem?_eq_some_iff.1 h3).1 (hb _ rfl)).trans h3,h4⟩
theorem jb(h:W.ownsRow base E sz v n cs)(hs:Below W.heap.size W W'):W'.ownsRow base E sz v n cs:=ai h (ab.of_below (M:=[]) hs) nm0
theorem ie(h:W.ownsRow base E sz v n cs):∀b,v.ownBlock=some b→b<W.heap.size:=by
 rcases h.2 with ⟨rfl,_⟩|⟨g,cap,cur,rfl,h2,h3,h4⟩
 ·intro b hb;cases hb
 ·intro b hb;cases hb;exact(Array.getElem?_eq_some_iff.1 h3).1
theorem fw(h:W.ownsRow base E sz v n cs):∀b,v.ownBlock=some b→base≤b:=by
 rcases h.2 with ⟨rfl,_⟩|⟨g,cap,cur,rfl,h2,h3,h4⟩
 ·intro b hb;cases hb
 ·intro b hb;cases hb;exact h2
theorem u9(h:W.ownsRow base E sz v n cs)(hn:1≤n):∃g cap cur,v=zl g n cap∧base≤g∧Row W g E cur∧n≤cap∧cap≤maxLen∧cur.size=cap*sz∧cur.toList.take (n*sz)=cs:=by
 rcases h.2 with ⟨rfl,h0⟩|⟨g,cap,cur,rfl,h2,h3,h4,h5,h6,h7⟩
 ·omega
 ·exact⟨g,cap,cur,rfl,h2,⟨h3⟩,h4,h5,h6,h7⟩
end
theorem b2g{w:World}{v:Value}{n:Nat}{cs:List Value}(h:Has w 27 v n cs)(h1:∀u∈cs,u.oneCell'=true)(hn:n≤1000000000):Calls Tryz.prog 21 #[v] w fun e w'=>∃v',e=.returned v'∧Below w.heap.size w w'∧w'.ownsRow w.heap.size 47 27 v' n cs∧(v'=zn↔v=zn):=by
 obtain⟨hl,hs⟩:=h;rcases hs with ⟨rfl,rfl⟩|⟨a,c,rfl,hc⟩
 ·refine(b3e w).mono ?_;rintro e _ ⟨rfl,rfl⟩;exact⟨_,rfl,Below.refl _ _,⟨hl,Or.inl ⟨rfl,rfl⟩⟩,Iff.rfl⟩
 ·refine(c5v w a n c cs hl hc h1 hn).mono ?_;rintro e w' ⟨g,cap,cur,rfl,hb,h2,h3,h4,h5,h6,h7⟩;exact⟨_,rfl,hb,⟨hl,Or.inr ⟨g,cap,cur,rfl,h2,h3.at_,h4,h5,h6,h7⟩⟩,by simp⟩
theorem lh{w:World}{v:Value}{n:Nat}{cs:List Value}(h:Has w 1 v n cs)(h1:∀u∈cs,u.oneCell'=true)(hn:n≤1000000000):Calls Tryz.prog 22 #[v] w fun e w'=>∃v',e=.returned v'∧Below w.heap.size w w'∧w'.ownsRow w.heap.size 3 1 v' n cs∧(v'=zn↔v=zn):=by
 obtain⟨hl,hs⟩:=h;rcases hs with ⟨rfl,rfl⟩|⟨a,c,rfl,hc⟩
 ·refine(b3f w).mono ?_;rintro e _ ⟨rfl,rfl⟩;exact⟨_,rfl,Below.refl _ _,⟨hl,Or.inl ⟨rfl,rfl⟩⟩,Iff.rfl⟩
 ·refine(c5w w a n c cs hl hc h1 hn).mono ?_;rintro e w' ⟨g,cap,cur,rfl,hb,h2,h3,h4,h5,h6,h7⟩;exact⟨_,rfl,hb,⟨hl,Or.inr ⟨g,cap,cur,rfl,h2,h3.at_,h4,h5,h6,h7⟩⟩,by simp⟩
theorem ez{w:World}{v:Value}{n:Nat}{cs:List Value}(h:Has w 1 v n cs)(h1:∀u∈cs,u.oneCell'=true)(hn:n≤1000000000):Calls Tryz.prog 23 #[v] w fun e w'=>∃v',e=.returned v'∧Below w.heap.size w w'∧w'.ownsRow w.heap.size 41 1 v' n cs∧(v'=zn↔v=zn):=by
 obtain⟨hl,hs⟩:=h;rcases hs with ⟨rfl,rfl⟩|⟨a,c,rfl,hc⟩
 ·refine(b3g w).mono ?_;rintro e _ ⟨rfl,rfl⟩;exact⟨_,rfl,Below.refl _ _,⟨hl,Or.inl ⟨rfl,rfl⟩⟩,Iff.rfl⟩
 ·refine(b7k w a n c cs hl hc h1 hn).mono ?_;rintro e w' ⟨g,cap,cur,rfl,hb,h2,h3,h4,h5,h6,h7⟩;exact⟨_,rfl,hb,⟨hl,Or.inr ⟨g,cap,cur,rfl,h2,h3.at_,h4,h5,h6,h7⟩⟩,by simp⟩
theorem b3j{w:World}{v:Value}{n:Nat}{cs:List Value}(h:Has w 3 v n cs)(h1:∀u∈cs,u.oneCell'=true)(hn:n≤1000000000):Calls Tryz.prog 27 #[v] w fun e w'=>∃v',e=.returned v'∧Below w.heap.size w w'∧w'.ownsRow w.heap.size 54 3 v' n cs∧(v'=zn↔v=zn):=by
 obtain⟨hl,hs⟩:=h;rcases hs with ⟨rfl,rfl⟩|⟨a,c,rfl,hc⟩
 ·refine(b3h w).mono ?_;rintro e _ ⟨rfl,rfl⟩;exact⟨_,rfl,Below.refl _ _,⟨hl,Or.inl ⟨rfl,rfl⟩⟩,Iff.rfl⟩
 ·refine(c5x w a n c cs hl hc h1 hn).mono ?_;rintro e w' ⟨g,cap,cur,rfl,hb,h2,h3,h4,h5,h6,h7⟩;exact⟨_,rfl,hb,⟨hl,Or.inr ⟨g,cap,cur,rfl,h2,h3.at_,h4,h5,h6,h7⟩⟩,by simp⟩
theorem b2d{w:World}{v:Value}{n:Nat}{cs:List Value}(h:Has w 11 v n cs)(h1:∀u∈cs,u.oneCell'=true)(hn:n≤1000000000):Calls Tryz.prog 28 #[v] w fun e w'=>∃v',e=.returned v'∧Below w.heap.size w w'∧w'.ownsRow w.heap.size 39 11 v' n cs∧(v'=zn↔v=zn):=by
 obtain⟨hl,hs⟩:=h;rcases hs with ⟨rfl,rfl⟩|⟨a,c,rfl,hc⟩
 ·refine(b3i w).mono ?_;rintro e _ ⟨rfl,rfl⟩;exact⟨_,rfl,Below.refl _ _,⟨hl,Or.inl ⟨rfl,rfl⟩⟩,Iff.rfl⟩
 ·refine(c5y w a n c cs hl hc h1 hn).mono ?_;rintro e w' ⟨g,cap,cur,rfl,hb,h2,h3,h4,h5,h6,h7⟩;exact⟨_,rfl,hb,⟨hl,Or.inr ⟨g,cap,cur,rfl,h2,h3.at_,h4,h5,h6,h7⟩⟩,by simp⟩
theorem rq{w:World}{v:Value}{n:Nat}{cs:List Value}(h:Has w 6 v n cs)(h1:∀u∈cs,u.oneCell'=true)(hn:n≤1000000000):Calls Tryz.prog 133 #[v] w fun e w'=>∃v',e=.returned v'∧Below w.heap.size w w'∧w'.ownsRow w.heap.size 170 6 v' n cs∧(v'=zn↔v=zn):=by
 obtain⟨hl,hs⟩:=h;rcases hs with ⟨rfl,rfl⟩|⟨a,c,rfl,hc⟩
 ·refine(b1j w).mono ?_;rintro e _ ⟨rfl,rfl⟩;exact⟨_,rfl,Below.refl _ _,⟨hl,Or.inl ⟨rfl,rfl⟩⟩,Iff.rfl⟩
 ·refine(c2l w a n c cs hl hc h1 hn).mono ?_;rintro e w' ⟨g,cap,cur,rfl,hb,h2,h3,h4,h5,h6,h7⟩;exact⟨_,rfl,hb,⟨hl,Or.inr ⟨g,cap,cur,rfl,h2,h3.at_,h4,h5,h6,h7⟩⟩,by simp⟩
section
variable{W0 W W':World}
theorem bt(h:Below W0.heap.size W0 W)(hb:Below W.heap.size W W'):Below W0.heap.size W0 W':=h.trans (hb.mono h.size)
theorem af(h:Below W0.heap.size W0 W)(o:Obj):Below W0.heap.size W0 (W.alloc o):=h.alloc h.size o
theorem mc(h:Below W0.heap.size W0 W.drew)(o:Obj):Below W0.heap.size W0 (W.alloc o).drew:=(af (W:=W.drew) h o)
theorem kj{W:World}{B B' size n:Nat}{e:TypeId}{v:Value}{l:List Value}(h:W.ownsRow B e size v n l)(hb:B'≤B):W.ownsRow B' e size v n l:=by
 obtain⟨h1,h2⟩:=h;refine⟨h1,?_⟩;rcases h2 with h2|⟨g,cap,cur,hv,hg,r⟩
 ·exact .inl h2
 ·exact .inr ⟨g,cap,cur,hv,nlt hb hg,r⟩
end
end Go.Proofs.YtojkaibpfdhmaaaGreatDoor

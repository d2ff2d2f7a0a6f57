/- Contracts of package write. -/
import Derived.Test.YtojkaibpfdhmaaaGreatDoorProg
import Derived.Test.YtojkaibpfdhmaaaGreatDoorRows
import Derived.Shelf.SlGeneric
import Derived.Shelf.Sort.Plain
import Derived.Shelf.SlSortCmp.SmallK
import Derived.Shelf.Small.Bits
import Derived.Shelf.Strings.Trim
import Derived.WalkKit
import Derived.Laws.CopyOwn
import Derived.Laws.LoneSync
import Derived.WalkSpells
import Derived.WalkLawsBesides
import Derived.BigGuardPart
import Derived.Lib.Hide
import Derived.ScopeJumps
import Derived.Deep.QuietTactic
import Derived.BigQuiet
import Derived.Deep.RegionHeld3
import Derived.Deep.RegionLaw
import Derived.Deep.WholeRow
import Derived.Maps.OwnSet
import Derived.StillTail
import Derived.Maps.OwnOps
import Derived.StringKeys
namespace Go.Proofs.YtojkaibpfdhmaaaGreatDoor
open Go.RowKit
set_option maxRecDepth 100000
set_option maxHeartbeats 16000000
section
open Go.Shelf
def Tryz.trim_ren:Go.Shelf.Ren:=⟨fun|160=>57|232=>109|231=>108|227=>110|234=>112|233=>111|236=>114|235=>113|228=>158|271=>161|151=>160|197=>159|120=>194|152=>193|260=>192|137=>230|119=>231|224=>232|225=>233|217=>246|266=>251|n=>n,fun|9=>9|4=>4|3=>3|5=>5|117=>196|116=>195|0=>0|124=>199|21=>21|105=>255|46=>223|119=>306|139=>309|138=>308|n=>n,fun|3=>1|4=>2|n=>n⟩
theorem Tryz.trim:Go.Proofs.Lays.n160 Tryz.prog Tryz.trim_ren:={
 mixed:=by kernel_rfl
 f119:=Tryz.func231.trans (congrArg some (by kernel_rfl))
 f120:=Tryz.func194.trans (congrArg some (by kernel_rfl))
 f137:=Tryz.func230.trans (congrArg some (by kernel_rfl))
 f151:=Tryz.func160.trans (congrArg some (by kernel_rfl))
 f152:=Tryz.func193.trans (congrArg some (by kernel_rfl))
 f160:=Tryz.func57.trans (congrArg some (by kernel_rfl))
 f197:=Tryz.func159.trans (congrArg some (by kernel_rfl))
 f217:=Tryz.func246.trans (congrArg some (by kernel_rfl))
 f224:=Tryz.func232.trans (congrArg some (by kernel_rfl))
 f225:=Tryz.func233.trans (congrArg some (by kernel_rfl))
 f227:=Tryz.func110.trans (congrArg some (by kernel_rfl))
 f228:=Tryz.func158.trans (congrArg some (by kernel_rfl))
 f231:=Tryz.func108.trans (congrArg some (by kernel_rfl))
 f232:=Tryz.func109.trans (congrArg some (by kernel_rfl))
 f233:=Tryz.func111.trans (congrArg some (by kernel_rfl))
 f234:=Tryz.func112.trans (congrArg some (by kernel_rfl))
 f235:=Tryz.func113.trans (congrArg some (by kernel_rfl))
 f236:=Tryz.func114.trans (congrArg some (by kernel_rfl))
 f260:=Tryz.func192.trans (congrArg some (by kernel_rfl))
 f266:=Tryz.func251.trans (congrArg some (by kernel_rfl))
 f271:=Tryz.func161.trans (congrArg some (by kernel_rfl))
 t0:=Tryz.underlying0
 a0:=Tryz.isAgg0
 z0:=Tryz.sizeOf0
 v0:=Tryz.zeroValue0
 t3:=Tryz.underlying3
 a3:=Tryz.isAgg3
 z3:=Tryz.sizeOf3
 v3:=Tryz.zeroValue3
 t4:=Tryz.underlying4
 a4:=Tryz.isAgg4
 z4:=Tryz.sizeOf4
 v4:=Tryz.zeroValue4
 t5:=Tryz.underlying5
 a5:=Tryz.isAgg5
 z5:=Tryz.sizeOf5
 v5:=Tryz.zeroValue5
 t9:=Tryz.underlying9
 a9:=Tryz.isAgg9
 z9:=Tryz.sizeOf9
 v9:=Tryz.zeroValue9
 t21:=Tryz.underlying21
 a21:=Tryz.isAgg21
 z21:=Tryz.sizeOf21
 v21:=Tryz.zeroValue21
 t46:=Tryz.underlying223
 a46:=Tryz.isAgg223
 z46:=Tryz.sizeOf223
 v46:=Tryz.zeroValue223
 t105:=Tryz.underlying255
 a105:=Tryz.isAgg255
 z105:=Tryz.sizeOf255
 v105:=Tryz.zeroValue255
 t116:=Tryz.underlying195
 a116:=Tryz.isAgg195
 z116:=Tryz.sizeOf195
 t117:=Tryz.underlying196
 a117:=Tryz.isAgg196
 z117:=Tryz.sizeOf196
 v117:=Tryz.zeroValue196
 t119:=Tryz.underlying306
 a119:=Tryz.isAgg306
 z119:=Tryz.sizeOf306
 t124:=Tryz.underlying199
 a124:=Tryz.isAgg199
 z124:=Tryz.sizeOf199
 v124:=Tryz.zeroValue199
 t138:=Tryz.underlying308
 a138:=Tryz.isAgg308
 z138:=Tryz.sizeOf308
 v138:=Tryz.zeroValue308
 t139:=Tryz.underlying309
 a139:=Tryz.isAgg309
 z139:=Tryz.sizeOf309
 v139:=Tryz.zeroValue309
 g3:=by kernel_rfl
 g4:=by kernel_rfl}
def Tryz.sortI_ren:Go.Shelf.Ren:=⟨fun|189=>123|125=>168|257=>167|128=>205|129=>206|294=>196|295=>197|296=>198|297=>199|298=>200|299=>201|216=>202|300=>203|301=>204|328=>234|329=>235|330=>236|331=>237|332=>238|215=>175|343=>247|n=>n,fun|28=>26|3=>3|46=>223|0=>0|51=>292|53=>41|4=>4|183=>285|182=>284|131=>131|5=>5|9=>9|218=>313|222=>316|228=>322|229=>299|n=>n,fun|n=>n⟩
theorem Tryz.sortI:Go.Proofs.Lays.n189 Tryz.prog Tryz.sortI_ren:={
 mixed:=by kernel_rfl
 f125:=Tryz.func168.trans (congrArg some (by kernel_rfl))
 f128:=Tryz.func205.trans (congrArg some (by kernel_rfl))
 f129:=Tryz.func206.trans (congrArg some (by kernel_rfl))
 f189:=Tryz.func123.trans (congrArg some (by kernel_rfl))
 f215:=Tryz.func175.trans (congrArg some (by kernel_rfl))
 f216:=Tryz.func202.trans (congrArg some (by kernel_rfl))
 f257:=Tryz.func167.trans (congrArg some (by kernel_rfl))
 f294:=Tryz.func196.trans (congrArg some (by kernel_rfl))
 f295:=Tryz.func197.trans (congrArg some (by kernel_rfl))
 f296:=Tryz.func198.trans (congrArg some (by kernel_rfl))
 f297:=Tryz.func199.trans (congrArg some (by kernel_rfl))
 f298:=Tryz.func200.trans (congrArg some (by kernel_rfl))
 f299:=Tryz.func201.trans (congrArg some (by kernel_rfl))
 f300:=Tryz.func203.trans (congrArg some (by kernel_rfl))
 f301:=Tryz.func204.trans (congrArg some (by kernel_rfl))
 f328:=Tryz.func234.trans (congrArg some (by kernel_rfl))
 f329:=Tryz.func235.trans (congrArg some (by kernel_rfl))
 f330:=Tryz.func236.trans (congrArg some (by kernel_rfl))
 f331:=Tryz.func237.trans (congrArg some (by kernel_rfl))
 f332:=Tryz.func238.trans (congrArg some (by kernel_rfl))
 f343:=Tryz.func247.trans (congrArg some (by kernel_rfl))
 t0:=Tryz.underlying0
 a0:=Tryz.isAgg0
 z0:=Tryz.sizeOf0
 v0:=Tryz.zeroValue0
 t3:=Tryz.underlying3
 a3:=Tryz.isAgg3
 z3:=Tryz.sizeOf3
 v3:=Tryz.zeroValue3
 t4:=Tryz.underlying4
 a4:=Tryz.isAgg4
 z4:=Tryz.sizeOf4
 v4:=Tryz.zeroValue4
 t5:=Tryz.underlying5
 a5:=Tryz.isAgg5
 z5:=Tryz.sizeOf5
 v5:=Tryz.zeroValue5
 t9:=Tryz.underlying9
 a9:=Tryz.isAgg9
 z9:=Tryz.sizeOf9
 v9:=Tryz.zeroValue9
 t28:=Tryz.underlying26
 a28:=Tryz.isAgg26
 z28:=Tryz.sizeOf26
 v28:=Tryz.zeroValue26
 t46:=Tryz.underlying223
 a46:=Tryz.isAgg223
 z46:=Tryz.sizeOf223
 v46:=Tryz.zeroValue223
 t51:=Tryz.underlying292
 a51:=Tryz.isAgg292
 z51:=Tryz.sizeOf292
 v51:=Tryz.zeroValue292
 t53:=Tryz.underlying41
 a53:=Tryz.isAgg41
 z53:=Tryz.sizeOf41
 v53:=Tryz.zeroValue41
 t131:=Tryz.underlying131
 a131:=Tryz.isAgg131
 z131:=Tryz.sizeOf131
 v131:=Tryz.zeroValue131
 t182:=Tryz.underlying284
 a182:=Tryz.isAgg284
 z182:=Tryz.sizeOf284
 v182:=Tryz.zeroValue284
 t183:=Tryz.underlying285
 a183:=Tryz.isAgg285
 z183:=Tryz.sizeOf285
 v183:=Tryz.zeroValue285
 t218:=Tryz.underlying313
 a218:=Tryz.isAgg313
 z218:=Tryz.sizeOf313
 v218:=Tryz.zeroValue313
 t222:=Tryz.underlying316
 a222:=Tryz.isAgg316
 z222:=Tryz.sizeOf316
 v222:=Tryz.zeroValue316
 t228:=Tryz.underlying322
 a228:=Tryz.isAgg322
 z228:=Tryz.sizeOf322
 v228:=Tryz.zeroValue322
 t229:=Tryz.underlying299
 a229:=Tryz.isAgg299
 z229:=Tryz.sizeOf299
 v229:=Tryz.zeroValue299}
def Tryz.bitsLen_ren:Go.Shelf.Ren:=⟨fun|125=>168|128=>205|129=>206|n=>n,fun|46=>223|3=>3|51=>292|53=>41|4=>4|5=>5|9=>9|n=>n,fun|n=>n⟩
theorem Tryz.bitsLen:Go.Proofs.Lays.n125 Tryz.prog Tryz.bitsLen_ren:={
 mixed:=by kernel_rfl
 f125:=Tryz.func168.trans (congrArg some (by kernel_rfl))
 f128:=Tryz.func205.trans (congrArg some (by kernel_rfl))
 f129:=Tryz.func206.trans (congrArg some (by kernel_rfl))
 t3:=Tryz.underlying3
 a3:=Tryz.isAgg3
 z3:=Tryz.sizeOf3
 v3:=Tryz.zeroValue3
 t4:=Tryz.underlying4
 a4:=Tryz.isAgg4
 z4:=Tryz.sizeOf4
 v4:=Tryz.zeroValue4
 t5:=Tryz.underlying5
 a5:=Tryz.isAgg5
 z5:=Tryz.sizeOf5
 v5:=Tryz.zeroValue5
 t9:=Tryz.underlying9
 a9:=Tryz.isAgg9
 z9:=Tryz.sizeOf9
 v9:=Tryz.zeroValue9
 t46:=Tryz.underlying223
 a46:=Tryz.isAgg223
 z46:=Tryz.sizeOf223
 v46:=Tryz.zeroValue223
 t51:=Tryz.underlying292
 a51:=Tryz.isAgg292
 z51:=Tryz.sizeOf292
 v51:=Tryz.zeroValue292
 t53:=Tryz.underlying41
 a53:=Tryz.isAgg41
 z53:=Tryz.sizeOf41
 v53:=Tryz.zeroValue41}
def Tryz.sortT_ren:Go.Shelf.Ren:=⟨fun|6=>136|15=>168|14=>174|28=>205|29=>206|20=>209|21=>210|22=>211|23=>212|24=>213|25=>214|26=>215|27=>216|46=>239|47=>235|48=>236|49=>240|50=>241|57=>248|n=>n,fun|22=>226|24=>231|25=>235|3=>3|39=>223|0=>0|53=>292|55=>41|4=>4|46=>285|45=>284|50=>131|5=>5|9=>9|66=>313|70=>316|76=>322|77=>299|n=>n,fun|n=>n⟩
theorem Tryz.sortT:Go.Proofs.SlLaysF0.n6 Tryz.prog Tryz.sortT_ren:={
 mixed:=by kernel_rfl
 f6:=⟨Tryz.f136.name,by decide,Tryz.func136.trans (congrArg some (by kernel_rfl))⟩
 f14:=⟨Tryz.f174.name,by decide,Tryz.func174.trans (congrArg some (by kernel_rfl))⟩
 f15:=Tryz.func168.trans (congrArg some (by kernel_rfl))
 f20:=⟨Tryz.f209.name,by decide,Tryz.func209.trans (congrArg some (by kernel_rfl))⟩
 f21:=⟨Tryz.f210.name,by decide,Tryz.func210.trans (congrArg some (by kernel_rfl))⟩
 f22:=⟨Tryz.f211.name,by decide,Tryz.func211.trans (congrArg some (by kernel_rfl))⟩
 f23:=⟨Tryz.f212.name,by decide,Tryz.func212.trans (congrArg some (by kernel_rfl))⟩
 f24:=⟨Tryz.f213.name,by decide,Tryz.func213.trans (congrArg some (by kernel_rfl))⟩
 f25:=⟨Tryz.f214.name,by decide,Tryz.func214.trans (congrArg some (by kernel_rfl))⟩
 f26:=⟨Tryz.f215.name,by decide,Tryz.func215.trans (congrArg some (by kernel_rfl))⟩
 f27:=⟨Tryz.f216.name,by decide,Tryz.func216.trans (congrArg some (by kernel_rfl))⟩
 f28:=Tryz.func205.trans (congrArg some (by kernel_rfl))
 f29:=Tryz.func206.trans (congrArg some (by kernel_rfl))
 f46:=⟨Tryz.f239.name,by decide,Tryz.func239.trans (congrArg some (by kernel_rfl))⟩
 f47:=Tryz.func235.trans (congrArg some (by kernel_rfl))
 f48:=Tryz.func236.trans (congrArg some (by kernel_rfl))
 f49:=⟨Tryz.f240.name,by decide,Tryz.func240.trans (congrArg some (by kernel_rfl))⟩
 f50:=⟨Tryz.f241.name,by decide,Tryz.func241.trans (congrArg some (by kernel_rfl))⟩
 f57:=⟨Tryz.f248.name,by decide,Tryz.func248.trans (congrArg some (by kernel_rfl))⟩
 t0:=Tryz.underlying0
 a0:=Tryz.isAgg0
 z0:=Tryz.sizeOf0
 v0:=Tryz.zeroValue0
 t3:=Tryz.underlying3
 a3:=Tryz.isAgg3
 z3:=Tryz.sizeOf3
 v3:=Tryz.zeroValue3
 t4:=Tryz.underlying4
 a4:=Tryz.isAgg4
 z4:=Tryz.sizeOf4
 v4:=Tryz.zeroValue4
 t5:=Tryz.underlying5
 a5:=Tryz.isAgg5
 z5:=Tryz.sizeOf5
 v5:=Tryz.zeroValue5
 t9:=Tryz.underlying9
 a9:=Tryz.isAgg9
 z9:=Tryz.sizeOf9
 v9:=Tryz.zeroValue9
 t22:=Tryz.underlying226
 a22:=Tryz.isAgg226
 z22:=Tryz.sizeOf226
 v22:=Tryz.zeroValue226
 t25:=Tryz.underlying235
 a25:=Tryz.isAgg235
 z25:=Tryz.sizeOf235
 v25:=Tryz.zeroValue235
 t39:=Tryz.underlying223
 a39:=Tryz.isAgg223
 z39:=Tryz.sizeOf223
 v39:=Tryz.zeroValue223
 t45:=Tryz.underlying284
 a45:=Tryz.isAgg284
 z45:=Tryz.sizeOf284
 v45:=Tryz.zeroValue284
 t46:=Tryz.underlying285
 a46:=Tryz.isAgg285
 z46:=Tryz.sizeOf285
 v46:=Tryz.zeroValue285
 t50:=Tryz.underlying131
 a50:=Tryz.isAgg131
 z50:=Tryz.sizeOf131
 v50:=Tryz.zeroValue131
 t53:=Tryz.underlying292
 a53:=Tryz.isAgg292
 z53:=Tryz.sizeOf292
 v53:=Tryz.zeroValue292
 t55:=Tryz.underlying41
 a55:=Tryz.isAgg41
 z55:=Tryz.sizeOf41
 v55:=Tryz.zeroValue41
 t66:=Tryz.underlying313
 a66:=Tryz.isAgg313
 z66:=Tryz.sizeOf313
 v66:=Tryz.zeroValue313
 t70:=Tryz.underlying316
 a70:=Tryz.isAgg316
 z70:=Tryz.sizeOf316
 v70:=Tryz.zeroValue316
 t76:=Tryz.underlying322
 a76:=Tryz.isAgg322
 z76:=Tryz.sizeOf322
 v76:=Tryz.zeroValue322
 t77:=Tryz.underlying299
 a77:=Tryz.isAgg299
 z77:=Tryz.sizeOf299
 v77:=Tryz.zeroValue299}
end
def Hd (p : Prop) : Prop := p
theorem qh {p : Prop} (h : p) : Hd p := h
theorem Hd.o {p : Prop} (h : Hd p) : p := h
abbrev ci (x : Int) : Value := .int .i64 x
abbrev cu (x : Int) : Value := .int .u64 x
abbrev pt (b : Nat) : Value := .pointer (some ⟨b, 0, none⟩)
abbrev ae (b i : Nat) : Addr := ⟨b, i, none⟩
abbrev zl (b n c : Nat) : Value := .slice (some ⟨b, 0, none⟩) n c
abbrev zn : Value := .slice none 0 0
section
variable{α:Type}{l:List α}{i:Nat}{a:α}
theorem bk : l[i]? = some a ↔ ∃ h : i < l.length, l[i] = a := List.getElem?_eq_some_iff
theorem cz (h : i < l.length) : l[i]? = some l[i] := List.getElem?_eq_getElem h
theorem dh (h : l[i]? = some a) : a ∈ l := List.mem_of_getElem? h
theorem mig : a ∈ l ↔ ∃ i : Nat, l[i]? = some a := List.mem_iff_getElem?
theorem bfn {α : Type} [BEq α] [LawfulBEq α] {a b : α} : (a == b) = false ↔ a ≠ b := beq_eq_false_iff_ne
end
theorem nlt {n m k : Nat} (h : n ≤ m) (h' : m ≤ k) : n ≤ k := Nat.le_trans h h'
theorem nlr (n : Nat) : n ≤ n := Nat.le_refl n
theorem nnl {a b : Nat} (h : a < b) : a ≠ b := Nat.ne_of_lt h
theorem dqf {p : Prop} [h : Decidable p] (hp : ¬ p) : decide p = false := decide_eq_false hp
theorem dqt {p : Prop} [h : Decidable p] (hp : p) : decide p = true := decide_eq_true hp
theorem brf (w : World) : Below w.heap.size w w := Below.refl w.heap.size w
theorem blc {w : World} {a : Addr} {v : Value} (h : w.cell? a = some v) : a.block < w.heap.size := block_lt_of_cell h
structure ab(M:List Nat)(W W':World):Prop where
 os:W'.os=W.os
 tape:W'.tape=W.tape
 output:W'.output=W.output
 size:W.heap.size≤W'.heap.size
 block:∀k,k<W.heap.size→k∉M→W'.heap[k]?=W.heap[k]?
structure Row(W:World)(b:Nat)(t:TypeId)(cs:Array Value):Prop where
 at_:W.heap[b]?=some (.cells cs t (0,0))
section
variable{M M':List Nat}{W W' W'':World}{b b' i:Nat}{t t':TypeId}{cs cs':Array Value}{v u:Value}
theorem ab.refl(M:List Nat)(W:World):ab M W W:=⟨rfl,rfl,rfl,nlr _,fun _ _ _=>rfl⟩
theorem ab.trans(h:ab M W W')(k:ab M' W' W''):ab (M++M') W W'':=
 ⟨k.os.trans h.os,k.tape.trans h.tape,k.output.trans h.output,nlt h.size k.size,fun i hi hn=>by
  simp only[List.mem_append,not_or] at hn;exact(k.block i (Nat.lt_of_lt_of_le hi h.size) hn.2).trans (h.block i hi hn.1)⟩
theorem ab.then(h:ab M W W')(k:ab M' W' W'')(hm:∀x∈M',x<W.heap.size→x∈M):ab M W W'':=
 ⟨k.os.trans h.os,k.tape.trans h.tape,k.output.trans h.output,nlt h.size k.size,fun i hi hn=>
  (k.block i (Nat.lt_of_lt_of_le hi h.size) (fun hx=>hn (hm i hx hi))).trans (h.block i hi hn)⟩
theorem ab.mono(h:ab M W W')(hm:∀x∈M,x<W.heap.size→x∈M'):ab M' W W':=⟨h.os,h.tape,h.output,h.size,fun i hi hn=>h.block i hi (fun hx=>hn (hm i hx hi))⟩
theorem ab.of_below(h:Below W.heap.size W W'):ab M W W':=⟨h.os,h.tape,h.output,h.size,fun k hk _=>h.block k hk⟩
theorem ab.below(h:ab M W W'){B:Nat}(hB:B≤W.heap.size)(hm:∀x∈M,B≤x):Below B W W':=
 ⟨h.os,h.tape,h.output,h.size,fun k hk=>h.block k (by omega) (fun hx=>by have:=hm k hx;omega)⟩
theorem ab.below_nil(h:ab [] W W'):Below W.heap.size W W':=h.below (nlr _) (fun _ h=>by cases h)
theorem ab.alloc(W:World)(o:Obj):ab M W (W.alloc o):=ab.of_below ((Below.refl _ _).alloc (nlr _) o)
theorem ab.drew(h:ab M W W'):ab M W W'.drew:=⟨h.os,h.tape,h.output,h.size,h.block⟩
theorem ab.drewN(h:ab M W W')(n:Nat):ab M W (W'.drewN n):=⟨h.os,h.tape,h.output,h.size,h.block⟩
theorem ab.setCell(h:ab M W W'){a:Addr}(ha:a.block∈M)(v:Value):ab M W (W'.setCell a v):=
 h.then (M':=[a.block]) ⟨rfl,rfl,rfl,by simp[World.setCell],fun k _ hk=>Below.heap_setCell _ _ _ _ (by simpa using hk)⟩ (fun x hx _=>by simp only[List.mem_singleton] at hx;rw[hx];exact ha)
theorem ab.setRow(h:ab M W W')(hb:b∈M)(cs:Array Value):ab M W (W'.setRow b cs):=
 h.then (M':=[b]) ⟨rfl,rfl,rfl,by simp,fun k _ hk=>setRow_other _ _ _ _ (by simpa using hk)⟩ (fun x hx _=>by simp only[List.mem_singleton] at hx;rw[hx];exact hb)
theorem ab.allocd(h:ab M W W')(o:Obj):ab M W (W'.alloc o):=h.then (M':=[]) (ab.alloc W' o) (fun _ h=>by cases h)
theorem ab.bel(h:ab M W W')(k:Below W'.heap.size W' W''):ab M W W'':=h.then (M':=[]) (ab.of_below k) (fun _ h=>by cases h)
theorem Row.lt(h:Row W b t cs):b<W.heap.size:=(Array.getElem?_eq_some_iff.1 h.at_).1
theorem Row.cell(h:Row W b t cs)(hv:cs[i]?=some v):W.cell? (ae b i)=some v:=by rw[cell_of_row _ _ _ _ _ _ h.at_];exact hv
theorem Row.k (h : Row W b t cs) (i : Nat) (hv : cs[i]? = some v := by exact rfl) : W.cell? ⟨b, i, none⟩ = some v := h.cell hv
theorem Hd.k (h : Hd (Row W b t cs)) (i : Nat) (hv : cs[i]? = some v := by exact rfl) : W.cell? ⟨b, i, none⟩ = some v := Row.cell h.o hv
theorem Row.free(h:Row W b t cs)(i:Nat):W.frozen? ⟨b,i,none⟩=false:=frozen_of_row _ _ _ _ _ h.at_
theorem Row.same(h:Row W b t cs)(hs:ab M W W')(hb:b∉M):Row W' b t cs:=⟨(hs.block b h.lt hb).trans h.at_⟩
theorem Row.bel(h:Row W b t cs)(hs:Below W.heap.size W W'):Row W' b t cs:=⟨(hs.block b h.lt).trans h.at_⟩
theorem Row.drew(h:Row W b t cs):Row W.drew b t cs:=⟨h.at_⟩
theorem Row.drewN(h:Row W b t cs)(n:Nat):Row (W.drewN n) b t cs:=⟨h.at_⟩
theorem Row.alloc(h:Row W b t cs)(o:Obj):Row (W.alloc o) b t cs:=⟨(Below.heap_alloc W o b h.lt).trans h.at_⟩
theorem Row.new(W:World)(t:TypeId)(cs:Array Value):Row (W.alloc (.cells cs t)) W.heap.size t cs:=⟨heap_alloc_new W _⟩
theorem Row.set(h:Row W b t cs)(i:Nat)(v:Value):Row (W.setCell ⟨b,i,none⟩ v) b t (cs.setIfInBounds i v):=⟨heap_setCell_same _ _ _ _ _ _ h.at_⟩
theorem Row.other(h:Row W b t cs){a:Addr}(hb:b≠a.block)(v:Value):Row (W.setCell a v) b t cs:=⟨(heap_setCell_other _ _ _ _ hb).trans h.at_⟩
theorem Row.setRow(h:Row W b t cs)(cs':Array Value):Row (W.setRow b cs') b t cs':=⟨setRow_heap _ _ _ _ _ _ h.at_⟩
theorem Row.setRow_other(h:Row W b t cs)(hb:b≠b')(cs':Array Value):Row (W.setRow b' cs') b t cs:=⟨(Go.setRow_other _ _ _ _ hb).trans h.at_⟩
theorem Row.to(h:Row W b t cs)(e:cs=cs'):Row W b t cs':=e▸h
theorem Row.inj(h:Row W b t cs)(h':Row W b t' cs'):t=t'∧cs=cs':=by
 have:=h.at_.symm.trans h'.at_;simp at this;exact⟨this.2,this.1⟩
theorem Row.c2{v0 v1:Value}(h:Row W b t #[v0,v1]):W.cell? (ae b 0)=some v0∧W.cell? (ae b 1)=some v1:=⟨h.cell rfl,h.cell rfl⟩
theorem Row.c3{v0 v1 v2:Value}(h:Row W b t #[v0,v1,v2]):W.cell? (ae b 0)=some v0∧W.cell? (ae b 1)=some v1∧W.cell? (ae b 2)=some v2:=⟨h.cell rfl,h.cell rfl,h.cell rfl⟩
theorem Row.c5{v0 v1 v2 v3 v4:Value}(h:Row W b t #[v0,v1,v2,v3,v4]):W.cell? (ae b 0)=some v0∧W.cell? (ae b 1)=some v1∧W.cell? (ae b 2)=some v2∧W.cell? (ae b 3)=some v3∧W.cell? (ae b 4)=some v4:=⟨h.cell rfl,h.cell rfl,h.cell rfl,h.cell rfl,h.cell rfl⟩
theorem Row.c6{v0 v1 v2 v3 v4 v5:Value}(h:Row W b t #[v0,v1,v2,v3,v4,v5]):W.cell? (ae b 0)=some v0∧W.cell? (ae b 1)=some v1∧W.cell? (ae b 2)=some v2∧W.cell? (ae b 3)=some v3∧W.cell? (ae b 4)=some v4∧W.cell? (ae b 5)=some v5:=⟨h.cell rfl,h.cell rfl,h.cell rfl,h.cell rfl,h.cell rfl,h.cell rfl⟩
theorem Row.c8{v0 v1 v2 v3 v4 v5 v6 v7:Value}(h:Row W b t #[v0,v1,v2,v3,v4,v5,v6,v7]):W.cell? (ae b 0)=some v0∧W.cell? (ae b 1)=some v1∧W.cell? (ae b 2)=some v2∧W.cell? (ae b 3)=some v3∧W.cell? (ae b 4)=some v4∧W.cell? (ae b 5)=some v5∧W.cell? (ae b 6)=some v6∧W.cell? (ae b 7)=some v7:=⟨h.cell rfl,h.cell rfl,h.cell rfl,h.cell rfl,h.cell rfl,h.cell rfl,h.cell rfl,h.cell rfl⟩
theorem Row.c12{v0 v1 v2 v3 v4 v5 v6 v7 v8 v9 v10 v11:Value}(h:Row W b t #[v0,v1,v2,v3,v4,v5,v6,v7,v8,v9,v10,v11]):W.cell? (ae b 0)=some v0∧W.cell? (ae b 1)=some v1∧W.cell? (ae b 2)=some v2∧W.cell? (ae b 3)=some v3∧W.cell? (ae b 4)=some v4∧W.cell? (ae b 5)=some v5∧W.cell? (ae b 6)=some v6∧W.cell? (ae b 7)=some v7∧W.cell? (ae b 8)=some v8∧W.cell? (ae b 9)=some v9∧W.cell? (ae b 10)=some v10∧W.cell? (ae b 11)=some v11:=⟨h.cell rfl,h.cell rfl,h.cell rfl,h.cell rfl,h.cell rfl,h.cell rfl,h.cell rfl,h.cell rfl,h.cell rfl,h.cell rfl,h.cell rfl,h.cell rfl⟩
theorem Row.c13{v0 v1 v2 v3 v4 v5 v6 v7 v8 v9 v10 v11 v12:Value}(h:Row W b t #[v0,v1,v2,v3,v4,v5,v6,v7,v8,v9,v10,v11,v12]):W.cell? (ae b 0)=some v0∧W.cell? (ae b 1)=some v1∧W.cell? (ae b 2)=some v2∧W.cell? (ae b 3)=some v3∧W.cell? (ae b 4)=some v4∧W.cell? (ae b 5)=some v5∧W.cell? (ae b 6)=some v6∧W.cell? (ae b 7)=some v7∧W.cell? (ae b 8)=some v8∧W.cell? (ae b 9)=some v9∧W.cell? (ae b 10)=some v10∧W.cell? (ae b 11)=some v11∧W.cell? (ae b 12)=some v12:=⟨h.cell rfl,h.cell rfl,h.cell rfl,h.cell rfl,h.cell rfl,h.cell rfl,h.cell rfl,h.cell rfl,h.cell rfl,h.cell rfl,h.cell rfl,h.cell rfl,h.cell rfl⟩
theorem Row.c15{v0 v1 v2 v3 v4 v5 v6 v7 v8 v9 v10 v11 v12 v13 v14:Value}(h:Row W b t #[v0,v1,v2,v3,v4,v5,v6,v7,v8,v9,v10,v11,v12,v13,v14]):W.cell? (ae b 0)=some v0∧W.cell? (ae b 1)=some v1∧W.cell? (ae b 2)=some v2∧W.cell? (ae b 3)=some v3∧W.cell? (ae b 4)=some v4∧W.cell? (ae b 5)=some v5∧W.cell? (ae b 6)=some v6∧W.cell? (ae b 7)=some v7∧W.cell? (ae b 8)=some v8∧W.cell? (ae b 9)=some v9∧W.cell? (ae b 10)=some v10∧W.cell? (ae b 11)=some v11∧W.cell? (ae b 12)=some v12∧W.cell? (ae b 13)=some v13∧W.cell? (ae b 14)=some v14:=⟨h.cell rfl,h.cell rfl,h.cell rfl,h.cell rfl,h.cell rfl,h.cell rfl,h.cell rfl,h.cell rfl,h.cell rfl,h.cell rfl,h.cell rfl,h.cell rfl,h.cell rfl,h.cell rfl,h.cell rfl⟩
theorem Row.c18{v0 v1 v2 v3 v4 v5 v6 v7 v8 v9 v10 v11 v12 v13 v14 v15 v16 v17:Value}(h:Row W b t #[v0,v1,v2,v3,v4,v5,v6,v7,v8,v9,v10,v11,v12,v13,v14,v15,v16,v17]):W.cell? (ae b 0)=some v0∧W.cell? (ae b 1)=some v1∧W.cell? (ae b 2)=some v2∧W.cell? (ae b 3)=some v3∧W.cell? (ae b 4)=some v4∧W.cell? (ae b 5)=some v5∧W.cell? (ae b 6)=some v6∧W.cell? (ae b 7)=some v7∧W.cell? (ae b 8)=some v8∧W.cell? (ae b 9)=some v9∧W.cell? (ae b 10)=some v10∧W.cell? (ae b 11)=some v11∧W.cell? (ae b 12)=some v12∧W.cell? (ae b 13)=some v13∧W.cell? (ae b 14)=some v14∧W.cell? (ae b 15)=some v15∧W.cell? (ae b 16)=some v16∧W.cell? (ae b 17)=some v17:=⟨h.cell rfl,h.cell rfl,h.cell rfl,h.cell rfl,h.cell rfl,h.cell rfl,h.cell rfl,h.cell rfl,h.cell rfl,h.cell rfl,h.cell rfl,h.cell rfl,h.cell rfl,h.cell rfl,h.cell rfl,h.cell rfl,h.cell rfl,h.cell rfl⟩
theorem nn {a b : Nat} (h : a ≠ b) : a ∉ [b] := by simpa using h
theorem sj {W : World} (b i : Nat) (v : Value) : ab [b] W (W.setCell ⟨b, i, none⟩ v) := (ab.refl [b] W).setCell (a := ⟨b, i, none⟩) (by simp) v
theorem ab.sc (h : ab M W W') (b i : Nat) (v : Value) (hb : b ∈ M := by simp) : ab M W (W'.setCell ⟨b, i, none⟩ v) := h.setCell (a := ⟨b, i, none⟩) hb v
theorem sd0 {W : World} : ab [] W W.drew := (ab.refl [] W).drew
theorem sdn {W : World} (n : Nat) : ab [] W (W.drewN n) := (ab.refl [] W).drewN n
theorem Row.ot (h : Row W b t cs) (hb : b ≠ b') (i : Nat) (v : Value) : Row (W.setCell ⟨b', i, none⟩ v) b t cs := h.other (a := ⟨b', i, none⟩) hb v
theorem nm0 {α : Type} {P : α → Prop} : ∀ b, P b → b ∉ ([] : List α) := fun _ _ h => by cases h
theorem no1 {v : Value} {b : Nat} (h : ∀ c, v.ownBlock = some c → c ≠ b) : ∀ c, v.ownBlock = some c → c ∉ [b] := fun c hc hm => by simp only [List.mem_singleton] at hm; exact h c hc hm
theorem gq1 {α : Type} (l : List α) (i : Nat) : l.toArray[i]? = l[i]? := List.getElem?_toArray
theorem gq2 {α : Type} (x : α) (l : List α) (i : Nat) : (x :: l)[i + 1]? = l[i]? := List.getElem?_cons_succ
theorem gq3 {α : Type} (x : α) (l : List α) : (x :: l)[0]? = some x := List.getElem?_cons_zero
end
section
open Go.ChangeMaps
open Go.Maps (Keyed)
def b7c(v:Value):Option (DataW Value × List MemPlace):=some (.held v,[])
open Classical in
noncomputable def il (f:Lit→Option Value) (kl:Lit) (v:Option Value):Lit→Option Value:=fun x=>if x=kl then v else f x
theorem gw(f:Lit→Option Value)(kl:Lit)(v:Option Value):il f kl v kl=v:=by simp[il]
theorem fj{f:Lit→Option Value}{kl kl':Lit}(h:kl'≠kl)(v:Option Value):il f kl v kl'=f kl':=by simp[il,h]
structure a8(P:Program)(k:TypeId)(W:World)(b n:Nat)(f:Lit→Option Value):Prop where
 ex:∃D,W.ownsMap P k b7c b n D∧(∀kl,Maps.has D kl=(f kl).isSome)∧∀kl v,f kl=some v→∀z,D.atKey kl z=.held v
section
variable{P:Program}{k e t:TypeId}{W:World}{b n:Nat}{f:Lit→Option Value}
theorem a8.lt(h:a8 P k W b n f):b<W.heap.size:=by obtain⟨D,h1,_⟩:=h.ex;exact h1.lt
theorem a8.mono(h:a8 P k W b n f){n':Nat}(hn:n≤n'):a8 P k W b n' f:=by obtain⟨D,h1,h2⟩:=h.ex;exact⟨D,h1.mono hn,h2⟩
theorem a8.block{W':World}(h:a8 P k W b n f)(hb:W'.heap[b]?=W.heap[b]?):a8 P k W' b n f:=by
 obtain⟨D,⟨es,c,h1,h2⟩,h3⟩:=h.ex;exact⟨D,⟨es,c,hb.trans h1,h2⟩,h3⟩
theorem a8.same{M:List Nat}{W':World}(h:a8 P k W b n f)(hs:ab M W W')(hb:b∉M):a8 P k W' b n f:=h.block (hs.block b h.lt hb)
theorem a8.bel{W':World}(h:a8 P k W b n f)(hs:Below W.heap.size W W'):a8 P k W' b n f:=h.block (hs.block b h.lt)
theorem a8.made(W:World)(P:Program)(k:TypeId):a8 P k (W.alloc (.map #[] 0)) W.heap.size 0 (fun _=>none):=
 ⟨_,World.ownsMap_made W P k b7c,fun kl=>by simp[Maps.has],fun kl v h=>by cases h⟩
theorem ab.grown{M:List Nat}{W W':World}{b:Nat}(h:W.grownBy W' (some b))(hb:b∈M):ab M W W':=
 ⟨h.os,h.tape,h.output,h.size,fun i hi hn=>h.block i hi (fun hx=>hn (by cases hx;exact hb))⟩
theorem a8.look_ok(h:a8 P k W b n f)(K:Keyed P k)(ht:P.underlying t=some (.map k e)){z:Value}(hz:(zeroValue e).run P W=.ok z W){key:Value}{kl:Lit}(hkey:keyOf P k key=some kl):(Instr.lookup t (.map (some b)) key true).run P W=.ok (.tuple #[(f kl).getD z,.bool (f kl).isSome]) W:=by
 obtain⟨D,h1,h2,h3⟩:=h.ex;obtain⟨v,ps,hr,hv⟩:=h1.look_ok K ht hz (zd:=.held z) (zp:=[]) rfl hkey;rw[hr,h2]
 congr 5
 unfold b7c at hv;cases hf:f kl with
 | none=>
  have:=h2 kl;rw[hf] at this;rw[Maps.atKey_of_not_has (by simpa using this)] at hv;simp at hv;exact hv.1
 | some u=>
  rw[h3 kl u hf] at hv;simp at hv;exact hv.1
theorem a8.look(h:a8 P k W b n f)(K:Keyed P k)(ht:P.underlying t=some (.map k e)){z:Value}(hz:(zeroValue e).run P W=.ok z W){key:Value}{kl:Lit}(hkey:keyOf P k key=some kl):(Instr.lookup t (.map (some b)) key false).run P W=.ok ((f kl).getD z) W:=by
 obtain⟨D,h1,h2,h3⟩:=h.ex;obtain⟨v,ps,hr,hv⟩:=h1.lookup K ht hz (zd:=.held z) (zp:=[]) rfl hkey;rw[hr]
 congr 1
 unfold b7c at hv;cases hf:f kl with
 | none=>
  have:=h2 kl;rw[hf] at this;rw[Maps.atKey_of_not_has (by simpa using this)] at hv;simp at hv;exact hv.1
 | some u=>
  rw[h3 kl u hf] at hv;simp at hv;exact hv.1
theorem a8.store(h:a8 P k W b n f)(K:Keyed P k)(ht:P.underlying t=some (.map k e))(hn:n<maxLen){key val:Value}{kl:Lit}(hkey:keyOf P k key=some kl):∃W',(Instr.mapUpdate t (.map (some b)) key val).run P W=.ok () W'∧a8 P k W' b (n+1) (il f kl (some val))∧ab [b] W W':=by
 obtain⟨D,h1,h2,h3⟩:=h.ex;obtain⟨W',hr,h4,h5⟩:=h1.update K ht hn (val:=val) (d:=.held val) (ps:=[]) hkey rfl;have hm:=h1.isMap;have hkl:WideAt.IsKeyLit kl:=K.key hkey;refine⟨W',hr,⟨_,h4,fun kl'=>?_,fun kl' v hv z=>?_⟩,ab.grown h5 (by simp)⟩
 ·by_cases c:kl'=kl
  ·subst c;rw[Maps.has_put_same hm hkl,gw];rfl
  ·rw[Maps.has_put_other c,h2,fj c]
 ·by_cases c:kl'=kl
  ·subst c;rw[gw] at hv;cases hv;exact Maps.atKey_put_same hm hkl _ _
  ·rw[Maps.atKey_put_other c];rw[fj c] at hv;exact h3 kl' v hv z
theorem a8.drop(h:a8 P k W b n f)(K:Keyed P k)(ht:P.underlying t=some (.map k e)){key:Value}{kl:Lit}(hkey:keyOf P k key=some kl)(ty:TypeId):∃W',(Builtin.delete_ #[t,k] ty #[.map (some b),key]).run P W=.ok (.tuple #[]) W'∧a8 P k W' b n (il f kl none)∧ab [b] W W':=by
 obtain⟨D,h1,h2,h3⟩:=h.ex;obtain⟨W',hr,h4,h5⟩:=h1.drop K ht hkey ty;refine⟨W',hr,⟨_,h4,fun kl'=>?_,fun kl' v hv z=>?_⟩,ab.grown h5.grown (by simp)⟩
 ·by_cases c:kl'=kl
  ·subst c;rw[Maps.has_del_same,gw];rfl
  ·rw[Maps.has_del_other c,h2,fj c]
 ·by_cases c:kl'=kl
  ·subst c;rw[gw] at hv;cases hv
  ·rw[Maps.atKey_del_other c];rw[fj c] at hv;exact h3 kl' v hv z
end
end
def hops(P:Program)(c:Code)(Q:Exit→Act→World→Prop):Nat→Exit→Act→World→Prop
 | 0,.goto _,_,_=>False
 | n+1,.goto l,a,w=>∃rest,findLabel c l=some rest∧rest.wp P (hops P c Q n) a w
 | _,.normal,a,w=>Q .normal a w
 | _,.exit i,a,w=>Q (.exit i) a w
 | _,.ret,a,w=>Q .ret a w
 | _,.panic ch,a,w=>Q (.panic ch) a w
 | _,.outgrown,a,w=>Q .outgrown a w
theorem ay{P:Program}{a:Act}{w:World}{Q:Exit→Act→World→Prop}{c:Code}(n:Nat)(first:c.wp P (hops P c Q n) a w):(Code.scope c).wp P Q a w:=by
 intro b k cs
 have key:∀n (r:Code) a w,r.wp P (hops P c Q n) a w→∃e a' w',Q e a' w'∧Arrives P (lone (b.at a (.code r::.inScope c::k)) cs w) b k cs e a' w':=by
  intro n
  induction n with
  | zero=>
   intro r a w hr;obtain⟨e,a₁,w₁,hq,harr⟩:=hr b (.inScope c::k) cs;cases e with
   | normal=>exact⟨.normal,a₁,w₁,hq,Steps.trans harr (.one step_inScope)⟩
   | exit id=>exact⟨.exit id,a₁,w₁,hq,fun k' hk=>harr k' (by simp[exitTo,hk])⟩
   | goto l'=>exact hq.elim
   | ret=>exact⟨_,a₁,w₁,hq,harr⟩
   | panic ch=>exact⟨_,a₁,w₁,hq,harr⟩
   | outgrown=>exact⟨_,a₁,w₁,hq,harr⟩
  | succ n ih=>
   intro r a w hr;obtain⟨e,a₁,w₁,hq,harr⟩:=hr b (.inScope c::k) cs;cases e with
   | normal=>exact⟨.normal,a₁,w₁,hq,Steps.trans harr (.one step_inScope)⟩
   | exit id=>exact⟨.exit id,a₁,w₁,hq,fun k' hk=>harr k' (by simp[exitTo,hk])⟩
   | goto l'=>
    obtain⟨rest,hf,hr'⟩:=hq;have hg:gotoIn l' (.inScope c::k)=some (.code rest::.inScope c::k):=by simp[gotoIn,hf]
    obtain⟨e₂,a₂,w₂,hq₂,harr₂⟩:=ih rest a₁ w₁ hr';exact⟨e₂,a₂,w₂,hq₂,.of_steps (harr _ hg) harr₂⟩
   | ret=>exact⟨_,a₁,w₁,hq,harr⟩
   | panic ch=>exact⟨_,a₁,w₁,hq,harr⟩
   | outgrown=>exact⟨_,a₁,w₁,hq,harr⟩
 obtain⟨e,a',w',hq,harr⟩:=key n c a w first;exact⟨e,a',w',hq,.of_steps (.one step_scope) harr⟩
theorem bh{P:Program}{a:Act}{w:World}{Q:Exit→Act→World→Prop}{c:Code}{n:Nat}(h:Q .ret a w):hops P c Q n .ret a w:=by
 cases n<;>exact h
section
variable{P:Program}{ops:Array Oper}{md:Region.Mode}{C:World→Prop}{w:World}
def lx(md:Region.Mode)(ops:Array Oper)(n:Nat):Bool:=
 (List.range ops.size).all fun t=>decide (t≤n)||(List.range t).any fun j=>decide (n≤j)&&Region.waitsFor md ops t j
theorem ui{n:Nat}{listed:Array Bool}(hs:Region.sinkB md ops n=true)(hc:lx md ops n=true)(inv:HeadInv md ops n listed):∀(d i:Nat),n-i=d→i<n→listed.getD i true=false→∀t,n≤t→t∉Region.ready md ops listed:=by
 intro d
 induction d using Nat.strongRecOn with
 | _ d ih=>
  intro i hd hi hun t ht hr;obtain⟨_,ot,hot,hall⟩:=mem_ready.1 hr;have htlt:t<ops.size:=(Array.getElem?_eq_some_iff.1 hot).1;by_cases htn:t=n
  ·subst htn;have h1:=List.all_eq_true.1 hs i (List.mem_range.2 hi);obtain⟨j,hj,hj2⟩:=List.any_eq_true.1 h1;simp only[Bool.and_eq_true,decide_eq_true_eq] at hj2;obtain⟨oj,hoj,e,he,hb,hon⟩:=Region.waitsFor_spec hj2.2;have hjle:j≤t:=by have:=List.mem_range.1 hj;omega
   by_cases hjt:j=t
   ·subst hjt;have:oj=ot:=Option.some.inj (hoj.symm.trans hot);subst this;have h2:=hall e he hb;rw[hon,getD_both hun] at h2;cases h2
   ·cases hl:listed.getD j false with
    | true=>
     have h2:=inv.closed j oj hoj hl e he hb;rw[hon,getD_both hun] at h2;cases h2
    | false=>
     have hjs:j<listed.size:=by rw[inv.size];omega
     exact ih (t-j) (by omega) j rfl (by omega) (getD_in hjs hl) t (nlr _) hr
  ·have h1:=List.all_eq_true.1 hc t (List.mem_range.2 htlt);simp only[Bool.or_eq_true,decide_eq_true_eq] at h1;rcases h1 with h1|h1
   ·omega
   ·obtain⟨j,hj,hj2⟩:=List.any_eq_true.1 h1;simp only[Bool.and_eq_true,decide_eq_true_eq] at hj2;obtain⟨o',ho',e,he,hb,hon⟩:=Region.waitsFor_spec hj2.2;have:o'=ot:=Option.some.inj (ho'.symm.trans hot);subst this;have h2:=hall e he hb;rw[hon,getD_both (inv.tail j hj2.1 (by have:=List.mem_range.1 hj;omega))] at h2;cases h2
def kg(P:Program)(md:Region.Mode)(ops:Array Oper)(C:World→Prop)(n:Nat)(L:Array Bool→Act→Prop):Nat→Array Bool→Act→Prop
 | 0,listed,a=>L listed a
 | f+1,listed,a=>
  Region.ready md ops listed≠[]∧∀i∈Region.ready md ops listed,i<n∧qOp P ops C i (kg P md ops C n L f (listed.setIfInBounds i true)) a
theorem kh{n g:Nat}{L:Array Bool→Act→Prop}{Q':Exit→Act→World→Prop}(hL:∀listed a w,C w→L listed a→wpAny P md ops Q' g listed a w):∀(f:Nat)(listed:Array Bool)(a:Act)(w:World),C w→kg P md ops C n L f listed a→wpAny P md ops Q' (f+g) listed a w
 | 0,listed,a,w,hC,h=>by rw[Nat.zero_add];exact hL _ _ _ hC h
 | f+1,listed,a,w,hC,h=>by
  rw[show f+1+g=(f+g)+1 by omega];exact⟨fun h0=>absurd h0 h.1,fun i hi=>wpOp_of_qOp hC (fun a' w' hC' h'=>kh hL f _ a' w' hC' h') (h.2 i hi).2⟩
theorem zr{n i:Nat}{oi:Oper}{v:Value}{L:Array Bool→Act→Prop}(hi:ops[i]?=some oi)(hsel:∀(j:Nat)(o:Oper) cs b,ops[j]?=some o→o.op≠.select cs b)(hs:Region.sinkB md ops n=true)(hc:lx md ops n=true)(hin:i<n)(hdone:∀listed a,L listed a→∀j∈Region.ready md ops listed,n≤j):∀(f:Nat)(listed:Array Bool)(a:Act),HeadInv md ops n listed →
   (∀j oj,ops[j]?=some oj→j≠i→listed.getD j true=false→(∀e∈oj.after,Region.binds md e=true→e.on≠i)→oi.apart ops oj=true) →
   i∈Region.ready md ops listed→YieldsIn P ops C oi v a →
   kg P md ops C n L f (listed.setIfInBounds i true) (a.put oi.dst v)→kg P md ops C n L (f+1) listed a:=by
 intro f
 induction f with
 | zero=>
  intro listed a inv _ hr hy H;have hun:=(mem_ready.1 hr).1;refine⟨fun h=>(by rw[h] at hr;cases hr),fun j hj=>?_⟩
  have hjn:j<n:=by
   rcases Nat.lt_or_ge j n with h|h
   ·exact h
   ·exact absurd hj (ui hs hc inv _ i rfl hin hun j h)
  refine⟨hjn,?_⟩;by_cases hji:j=i
  ·subst hji;exact hy.qOp hi H
  ·have:=hdone _ _ H j (ready_mono hj hji);omega
 | succ f ih=>
  intro listed a inv hfree hr hy H;have hun:=(mem_ready.1 hr).1;refine⟨fun h=>(by rw[h] at hr;cases hr),fun j hj=>?_⟩
  have hjn:j<n:=by
   rcases Nat.lt_or_ge j n with h|h
   ·exact h
   ·exact absurd hj (ui hs hc inv _ i rfl hin hun j h)
  refine⟨hjn,?_⟩;by_cases hji:j=i
  ·subst hji;exact hy.qOp hi H
  ·have h1:=(H.2 j (ready_mono hj hji)).2;obtain⟨hjun,oj,hoj,hall⟩:=mem_ready.1 hj
   have hnot:∀e∈oj.after,Region.binds md e=true→e.on≠i:=fun e he hb heq=>by
    have h1:=hall e he hb;rw[heq,getD_both hun] at h1;cases h1
   have h2:=qOp_put hoj (hfree j oj hoj hji hjun hnot) (fun cs b=>hsel i oi cs b hi) (fun cs b=>hsel j oj cs b hoj) hy h1
   have hfree':∀k ok,ops[k]?=some ok→k≠i→(listed.setIfInBounds j true).getD k true=false →
     (∀e∈ok.after,Region.binds md e=true→e.on≠i)→oi.apart ops ok=true:=fun k ok hk hki hun hno=>by
    refine hfree k ok hk hki ?_ hno;by_cases hjk:j=k
    ·subst hjk;exact hjun
    ·rw[getD_set_ne true hjk] at hun;exact hun
   refine qOp_mono (fun a' h3=>ih (listed.setIfInBounds j true) a' (inv.set hj hjn) hfree' (ready_mono hr (Ne.symm hji)) h3.1 ?_) h2;rw[Array.setIfInBounds_comm _ _ hji];exact h3.2
def nu(o:Oper):Bool:=o.guard.isNone&&match o.op with
 | .move _=>true
 | .assign _=>true
 | .extract _ _=>true
 | _=>false
theorem b2t{o:Oper}(h:nu o=true){a:Act}{K:Act→World→Prop}{Q:Exit→Act→World→Prop}(hw:o.wp P a w K Q∨(o.asks P a w∧LetsOut Q)):o.still P a w (fun a'=>K a' w):=by
 unfold nu at h;simp only[Bool.and_eq_true] at h;obtain⟨_,h⟩:=h
 split at h
 ·rename_i x hx
  rcases hw with hw|hw
  ·unfold Oper.still;unfold Oper.wp at hw
   rw[BigFrame.run_move x hx] at hw ⊢
   simpa[Oper.stillUpon,Oper.upon] using hw
  ·exfalso
   have:=hw.1.1;unfold execOp at this;rw[hx] at this;exact Array.not_mem_empty _ this
 ·rename_i x hx
  rcases hw with hw|hw
  ·unfold Oper.still;unfold Oper.wp at hw
   rw[BigFrame.run_assign x hx] at hw ⊢
   simpa[Oper.stillUpon,Oper.upon] using hw
  ·exfalso
   have:=hw.1.1;unfold execOp at this;rw[hx] at this;exact Array.not_mem_empty _ this
 ·rename_i x k hx
  unfold Oper.still;unfold Oper.wp Oper.asks at hw;unfold execOp at hw ⊢;rw[hx] at hw ⊢;simp only[Instr.extract] at hw ⊢
  split at hw
  ·split at hw
   ·rename_i v hv
    rcases hw with hw|hw
    ·simpa[Oper.stillUpon,Oper.upon,hv] using hw
    ·exact(Array.not_mem_empty _ hw.1.1).elim
   ·rcases hw with hw|hw
    ·exact(hw:False).elim
    ·exact(Array.not_mem_empty _ hw.1.1).elim
  ·rcases hw with hw|hw
   ·exact(hw:False).elim
   ·exact(Array.not_mem_empty _ hw.1.1).elim
 ·cases h
theorem wt{Q:Exit→Act→World→Prop}:∀(l:List Oper),l.all nu=true→∀(a:Act),wpList P ops Q l a w→wpStill P ops w (fun a'=>Q .normal a' w) l a
 | [],_,_,h=>h
 | o::l,hp,a,h=>by
  simp only[List.all_cons,Bool.and_eq_true] at hp
  have hg:o.guard=none:=by
   have:=hp.1;unfold nu at this;simp only[Bool.and_eq_true] at this;exact Option.isNone_iff_eq_none.1 this.1
  have hw:Region.wanted o (yielded ops a.tmps)=true:=by simp[Region.wanted,hg]
  unfold wpStill;unfold wpList at h;rw[hw] at h ⊢;exact Oper.still_mono (fun a' h'=>wt l hp.2 a' h') (b2t hp.1 h)
def endB(md:Region.Mode)(ops:Array Oper)(n:Nat)(listed:Array Bool):Bool:=
 Region.seqB md ops (ops.size-n) n listed||(decide (Region.ready md ops listed=[n])&&Region.lexFrom md ops (ops.size-n-1) (n+1) (listed.setIfInBounds n true)&&(ops.toList.drop (n+1)).all nu&&Region.noSelect ops)
def o4(md:Region.Mode)(ops:Array Oper)(n:Nat):Nat→Nat→Array Bool→Bool
 | 0,_,listed=>endB md ops n listed
 | f+1,k,listed=>(Region.ready md ops listed).contains k&&Region.free md ops listed k&&o4 md ops n f (k+1) (listed.setIfInBounds k true)
def wu(md:Region.Mode)(ops:Array Oper)(n:Nat):Bool:=
 Region.noSelect ops&&decide (n<ops.size)&&Region.sinkB md ops n&&lx md ops n&&o4 md ops n n 0 (Array.replicate ops.size false)
theorem ww{n:Nat}{listed:Array Bool}(h:endB md ops n listed=true):∀j∈Region.ready md ops listed,n≤j:=by
 unfold endB at h;simp only[Bool.or_eq_true,Bool.and_eq_true,decide_eq_true_eq] at h;rcases h with h|h
 ·exact seqB_ready h
 ·intro j hj;rw[h.1.1.1] at hj;simp at hj;omega
theorem uj{n:Nat}{Lq:Act→Prop}(hsel:Region.noSelect ops=true)(hs:Region.sinkB md ops n=true)(hc:lx md ops n=true):∀(l:List Oper)(k:Nat)(listed:Array Bool)(a:Act),(∀j,j<l.length→l[j]?=ops[k+j]?)→k+l.length=n→HeadInv md ops n listed →
  o4 md ops n l.length k listed=true→wpQuiet P ops C Lq l a →
  kg P md ops C n (fun listed' a'=>endB md ops n listed'=true∧Lq a') l.length listed a
 | [],k,listed,a,_,_,_,hB,h=>⟨by simpa[o4] using hB,h⟩
 | o::l,k,listed,a,hl,hk,inv,hB,h=>by
  have h0:ops[k]?=some o:=by simpa using (hl 0 (by simp)).symm
  simp only[List.length_cons,o4,Bool.and_eq_true] at hB;obtain⟨⟨hr,hf⟩,hB'⟩:=hB;have hkn:k<n:=by simp only[List.length_cons] at hk;omega
  have hr':k∈Region.ready md ops listed:=by simpa using hr
  have hst:qOp P ops C k (wpQuiet P ops C Lq l) a:=by unfold qOp;simp only[h0];exact h
  obtain⟨v,hy,hK⟩:=yieldsIn_of_qOp h0 hst
  exact zr h0 (Region.noSelect_spec hsel) hs hc hkn (fun listed' a' hL=>ww hL.1) l.length listed a inv (Region.free_spec h0 hf) hr' hy
   (uj hsel hs hc l (k+1) _ _ (fun j hj=>by have:=hl (j+1) (by simp;omega);simpa[Nat.add_assoc,Nat.add_comm 1 j] using this) (by simp only[List.length_cons] at hk;omega) (inv.set hr' hkn) hB' hK)
theorem b0f{n:Nat}(hn:n<ops.size){Q':Exit→Act→World→Prop}{listed:Array Bool}{a:Act}(hE:endB md ops n listed=true)(h:wpList P ops Q' (ops.toList.drop n) a w):wpAny P md ops Q' (ops.size-n) listed a w:=by
 unfold endB at hE;simp only[Bool.or_eq_true,Bool.and_eq_true,decide_eq_true_eq] at hE;have hdl:(ops.toList.drop n).length=ops.size-n:=by simp
 rcases hE with hE|⟨⟨⟨hE1,hE2⟩,hE3⟩,hE4⟩
 ·have:=wpAny_of_seq (md:=md) (Q':=Q') (ops.toList.drop n) n listed a w (fun j=>by simp[List.getElem?_drop]) (by rw[hdl];exact hE) h
  rwa [hdl] at this
 ·have hcons:ops.toList.drop n=ops[n]::ops.toList.drop (n+1):=by rw[List.drop_eq_getElem_cons (by simpa using hn)];simp
  rw[hcons] at h;have h0:ops[n]?=some ops[n]:=by simp[hn]
  have hw:wpOp P ops Q' n (wpList P ops Q' (ops.toList.drop (n+1))) a w:=by unfold wpOp;simp only[h0];exact h
  have hg:ops.size-n=(ops.size-n-1)+1:=by omega
  rw[hg];refine⟨fun h1=>(by rw[hE1] at h1;cases h1),fun i hi=>?_⟩;rw[hE1] at hi;have hin:i=n:=by simpa using hi
  subst hin;refine wpOp_mono (fun a' w' h'=>?_) hw;have hl2:(ops.toList.drop (i+1)).length=ops.size-i-1:=by simp;omega
  have:=wpAnyS_lex (P:=P) (md:=md) (w:=w') hE4 (ops.toList.drop (i+1)) (i+1) (listed.setIfInBounds i true) a' (fun j=>by simp[List.getElem?_drop]) (by rw[hl2];exact hE2) (wt _ hE3 a' h');rw[hl2] at this;exact wpAny_of_still (fun _ h=>h) _ _ _ this
theorem aq{id:Nat}{Q:Exit→Act→World→Prop}{a:Act}{l:List Oper}(C:World→Prop)(n:Nat)(hm:P.follows .mixedOrders=true)(hB:wu .any l.toArray n=true)(hC:C {w with drawn:=w.drawn+1})(h:wpQuiet P l.toArray C (fun a'=>∀w',C w'→wpList P l.toArray Q (l.drop n) a' w') (l.take n) a):(Code.region id l.toArray true).wp P Q a w:=by
 simp only[wu,Bool.and_eq_true,decide_eq_true_eq] at hB;obtain⟨⟨⟨⟨hsel,hn⟩,hs⟩,hc⟩,hlex⟩:=hB;have hn':n<l.length:=by simpa using hn
 have htl:(l.take n).length=n:=by simp;omega
 have inv0:HeadInv .any l.toArray n (Array.replicate l.toArray.size false):=
  ⟨by simp,fun j oj _ hl=>(by rw[getD_replicate_false] at hl;cases hl),fun t _ ht=>getD_in (by simpa using ht) (getD_replicate_false _ _)⟩
 have H:=uj (md:=.any) (C:=C) hsel hs hc (l.take n) 0 _ a (fun j hj=>by
  have hj':j<n:=by rw[htl] at hj;exact hj
  simp[hj']) (by simpa using htl) inv0 (by rw[htl];exact hlex) h
 refine wp_region_any hm ?_;have:=kh (Q':=Q) (g:=l.toArray.size-n) (fun listed a' w' hC' hL=>b0f hn hL.1 (by simpa using hL.2 w' hC')) _ _ _ _ hC H;rw[htl,show n+(l.toArray.size-n)=l.toArray.size by omega] at this;exact this
end
def ag(w:World):Type:={W:World // Below w.heap.size w W}
instance (w:World):Nonempty (ag w):=⟨⟨w,Below.refl _ _⟩⟩
def ag.to{w:World}(g:ag w):World:=g.1
theorem ag.start(w:World):∃g:ag w,({w with drawn:=w.drawn+1}:World)=g.to:=⟨⟨_,(Below.refl _ w).drew⟩,rfl⟩
theorem ag.cell{w:World}{a:Addr}{v:Value}(h:w.cell? a=some v)(g:ag w):g.to.cell? a=some v:=(g.2.cell (blc h)).trans h
theorem ln {w : World} {a : Addr} {v : Value} (h : w.cell? a = some v) (g : ag w) : g.to.cell? a = some v := ag.cell h g
theorem ag.free{w:World}{b i:Nat}(h:b<w.heap.size)(g:ag w):g.to.frozen? ⟨b,i,none⟩=w.frozen? ⟨b,i,none⟩:=g.2.frozen h
theorem Calls.later{P:Program}{f:FuncId}{args:Array Value}{w:World}{g:ag w}{v:Value}(h:Calls P f args g.to fun e w'=>e=.returned v∧Below g.to.heap.size g.to w'):Calls P f args g.to fun e w''=>e=.returned v∧∃g':ag w,w''=g'.to:=
 h.mono fun _ w'' ⟨he,hb⟩=>⟨he,⟨w'',g.2.trans (hb.mono g.2.size)⟩,rfl⟩
theorem Calls.later_same{P:Program}{f:FuncId}{args:Array Value}{w:World}{g:ag w}{v:Value}(h:Calls P f args g.to fun e w'=>e=.returned v∧g.to=w'):Calls P f args g.to fun e w''=>e=.returned v∧∃g':ag w,w''=g'.to:=
 h.mono fun _ _ ⟨he,hb⟩=>⟨he,g,hb.symm⟩
theorem Calls.quiet_same{P:Program}{f:FuncId}{args:Array Value}{w:World}{n:Nat}{v:Value}(h:Calls P f args (w.drewN n) fun e w'=>e=.returned v∧w.drewN n=w'):Calls P f args (w.drewN n) fun e w''=>e=.returned v∧∃m,w''=w.drewN m:=
 h.mono fun _ _ ⟨he,hb⟩=>⟨he,n,hb.symm⟩
theorem c8h(w:World)(B A g:Nat)(n:Nat)(i:Int)(h0:0≤i)(h1:i<n)(c0:w.cell? (ae B 0)=some (zl A n n))(cg:w.cell? (ae g 0)=some (ci i)):Calls Tryz.prog 162 #[pt B,zl g 1 1] w fun e w'=>e=.returned (ci 0)∧w=w':=by
 have t1:decide (i<0)=false:=by simpa using h0
 have t2:decide ((n:Int)≤i)=false:=by simpa using h1
 go_enter Tryz.func162,Tryz.ntmps162
 go_wp2;refine wp_loop_rounds 2 ?_;rw[rounds_succ];go_wp2;rw[rounds_succ];go_wp2;go_ret;exact⟨rfl,rfl⟩
theorem c1m(w:World)(b i:Nat)(x y:Int)(hx:w.cell? (ae b i)=some (ci x))(hf:w.frozen? ⟨b,i,none⟩=false):Calls Tryz.prog 163 #[.pointer (some ⟨b,i,none⟩),ci y] w fun e w'=>e=.returned (ci (wrap64 (x+y)))∧w'=w.setCell ⟨b,i,none⟩ (ci (wrap64 (x+y))):=by
 have hadd:=run_call_add (P:=Tryz.prog) (f:=195) Tryz.func195 (by kernel_rfl) (by kernel_rfl) (by kernel_rfl) .i64 (by kernel_rfl) (y:=y) (s:=wrap64 (x+y)) hx hf (by simp[go_sem,wrap64,IntKind.wrap_i64])
 go_enter Tryz.func163,Tryz.ntmps163
 go_wp2;go_ret;exact⟨rfl,rfl⟩
theorem b7d:(Tryz.prog.info? 3).map (fun i=>(i.zero,i.size,i.bytes))=some (some (ci 0),1,8):=by kernel_rfl
def bj(ws:List Nat):Array Value:=(ws.map fun x=>Value.int .u64 ((x:Nat):Int)).toArray
structure bv(W:World)(B A:Nat)(ws:List Nat):Prop where
 hd:∃k,Row W B 119 #[zl A ws.length ws.length,ci k]
 wd:Row W A 41 (bj ws)
 ne:B≠A
theorem o5(w:World)(B A:Nat)(k:Int)(n i:Nat)(h:i<n)(hr:Row w B 119 #[zl A n n,ci k]):Calls Tryz.prog 117 #[pt B,ci i] w fun e w'=>e=.returned (.tuple #[.pointer (some ⟨A,i,none⟩),ci 0])∧ab [B] w w'∧Row w' B 119 #[zl A n n,ci (wrap64 (k+1))]:=by
 have c0:w.cell? (ae B 0)=some (zl A n n):=hr.cell rfl;have c1:w.cell? (ae B 1)=some (ci k):=hr.cell rfl;have f1:=hr.free 1;have hlt:=hr.lt;have HR:=qh hr;clear hr
 go_enter Tryz.func117,Tryz.ntmps117
 go_wp2_with (first|(go_at_call 162;refine(c8h _ B A w.heap.size n i (by omega) (by omega) (by simp[World.cell?_alloc_past,hlt,c0]) (by simp[World.cell?_alloc_at])).mono ?_;rintro e w' ⟨rfl,rfl⟩)|(go_at_call 163;refine(c1m _ B 1 k 1 (by simp[World.cell?_alloc_past,hlt,c1]) (by simp[World.frozen?_alloc_past,hlt,f1])).mono ?_;rintro e w' ⟨rfl,rfl⟩))
 go_ret2
 refine⟨rfl,?_,?_⟩
 ·exact(sj (W:=w) B 1 _).allocd _
 ·exact(HR.o.set 1 _).alloc _
def wat(ws:List Nat)(i:Nat):Nat:=ws.getD i 0
section
variable{W:World}{B A:Nat}{ws:List Nat}
theorem ej(ws:List Nat){i:Nat}(h:i<ws.length):(bj ws)[i]?=some (cu ((wat ws i:Nat):Int)):=by
 simp[bj,wat,List.getElem?_map,cz h]
theorem fo(ws:List Nat)(i x:Nat):(bj ws).setIfInBounds i (cu (x:Int))=bj (ws.set i x):=by
 simp[bj,List.map_set]
theorem bv.touched{W':World}{k':Int}(h:bv W B A ws)(hs:ab [B] W W')(hr:Row W' B 119 #[zl A ws.length ws.length,ci k']):bv W' B A ws:=
 ⟨⟨_,hr⟩,h.wd.same hs (by simpa using h.ne.symm),h.ne⟩
theorem bv.set{i:Nat}(h:bv W B A ws)(x:Nat):bv (W.setCell ⟨A,i,none⟩ (cu (x:Int))) B A (ws.set i x):=by
 obtain⟨k,hk⟩:=h.hd;refine⟨⟨k,?_⟩,?_,h.ne⟩
 ·rw[List.length_set];exact hk.other h.ne _
 ·have:=h.wd.set i (cu (x:Int))
  rwa [fo] at this
theorem bv.same{M:List Nat}{W':World}(h:bv W B A ws)(hs:ab M W W')(hB:B∉M)(hA:A∉M):bv W' B A ws:=by
 obtain⟨k,hk⟩:=h.hd;exact⟨⟨k,hk.same hs hB⟩,h.wd.same hs hA,h.ne⟩
theorem bv.b0 {W' : World} (h : bv W B A ws) (hb : Below W.heap.size W W') : bv W' B A ws := h.same (ab.of_below (M := []) hb) (by simp) (by simp)
theorem bv.d0 (h : bv W B A ws) (n : Nat) : bv (W.drewN n) B A ws := h.same ((ab.refl [] W).drewN n) (by simp) (by simp)
end
theorem fc(w:World)(B A:Nat)(ws:List Nat)(i:Nat)(h:i<ws.length)(hb:bv w B A ws):Calls Tryz.prog 84 #[pt B,ci i] w fun e w'=>e=.returned (.tuple #[cu ((wat ws i:Nat):Int),ci 0])∧ab [B] w w'∧bv w' B A ws:=by
 obtain⟨k,hk⟩:=hb.hd;have HB:=qh hb;clear hb
 go_enter Tryz.func84,Tryz.ntmps84
 go_wp2_with (first|(go_at_call 117;refine(o5 _ B A k ws.length i h hk).mono ?_;rintro e w1 ⟨rfl,hs,hr⟩;have hB1:=HB.o.touched hs hr;have hld:=run_call_load (P:=Tryz.prog) (f:=129) Tryz.func129 (by kernel_rfl) (by kernel_rfl) (by kernel_rfl) .u64 (by kernel_rfl) (hB1.wd.cell (ej ws h))))
 go_ret2
 exact⟨rfl,hs,hB1⟩
theorem c1n(w:World)(B A:Nat)(ws:List Nat)(i x:Nat)(h:i<ws.length)(hb:bv w B A ws):Calls Tryz.prog 157 #[pt B,ci i,cu x] w fun e w'=>e=.returned (ci 0)∧ab [B,A] w w'∧bv w' B A (ws.set i x):=by
 obtain⟨k,hk⟩:=hb.hd;have HB:=qh hb;clear hb
 go_enter Tryz.func157,Tryz.ntmps157
 go_wp2_with (first|(go_at_call 117;refine(o5 _ B A k ws.length i h hk).mono ?_;rintro e w1 ⟨rfl,hs,hr⟩;have hB1:=HB.o.touched hs hr;have hld:=run_call_store (P:=Tryz.prog) (f:=191) Tryz.func191 (by kernel_rfl) (by kernel_rfl) (by kernel_rfl) (by kernel_rfl) (k:=.u64) (y:=x) (hB1.wd.cell (ej ws h)) (hB1.wd.free i)))
 go_ret;exact⟨rfl,(hs.mono (fun y hy _=>by simp at hy;simp[hy])).setCell (by simp) _,hB1.set x⟩
theorem c5l(w:World)(B A:Nat)(ws:List Nat)(i x:Nat)(h:i<ws.length)(hb:bv w B A ws):Calls Tryz.prog 150 #[pt B,ci i,cu ((wat ws i:Nat):Int),cu x] w fun e w'=>e=.returned (.tuple #[.bool true,ci 0])∧ab [B,A] w w'∧bv w' B A (ws.set i x):=by
 obtain⟨k,hk⟩:=hb.hd;have HB:=qh hb;clear hb;generalize ho:wat ws i=o
 go_enter Tryz.func150,Tryz.ntmps150
 go_wp2_with (first|(go_at_call 117;refine(o5 _ B A k ws.length i h hk).mono ?_;rintro e w1 ⟨rfl,hs,hr⟩;have hB1:=HB.o.touched hs hr;have hc:=(hB1.wd.cell (ej ws h));rw[ho] at hc;have hld:=run_call_cas_hit (P:=Tryz.prog) (f:=188) Tryz.func188 (by kernel_rfl) (by kernel_rfl) (by kernel_rfl) .u64 (by kernel_rfl) (y:=x) hc (hB1.wd.free i)))
 go_ret2
 exact⟨rfl,(hs.mono (fun y hy _=>by simp at hy;simp[hy])).setCell (by simp) _,hB1.set x⟩
theorem c1o(w:World)(B A:Nat)(ws:List Nat)(i o x:Nat)(h:i<ws.length)(hb:bv w B A ws)(hne:¬ wat ws i=o):Calls Tryz.prog 150 #[pt B,ci i,cu o,cu x] w fun e w'=>e=.returned (.tuple #[.bool false,ci 0])∧ab [B,A] w w'∧bv w' B A ws:=by
 obtain⟨k,hk⟩:=hb.hd;have HB:=qh hb;clear hb
 go_enter Tryz.func150,Tryz.ntmps150
 go_wp2_with (first|(go_at_call 117;refine(o5 _ B A k ws.length i h hk).mono ?_;rintro e w1 ⟨rfl,hs,hr⟩;have hB1:=HB.o.touched hs hr;have hld:=run_call_cas_miss (P:=Tryz.prog) (f:=188) Tryz.func188 (by kernel_rfl) (by kernel_rfl) (by kernel_rfl) .u64 (by kernel_rfl) (o:=o) (y:=x) (hB1.wd.cell (ej ws h)) (hB1.wd.free i) (by omega)))
 go_ret2
 exact⟨rfl,hs.mono (fun y hy _=>by simp at hy;simp[hy]),hB1⟩
theorem wm{w:World}{B A:Nat}{ws:List Nat}{i x:Nat}{i' o' x':Int}(h:i<ws.length)(hb:bv w B A ws)(hi:i'=i)(ho:o'=wat ws i)(hx:x'=x):Calls Tryz.prog 150 #[pt B,ci i',cu o',cu x'] w fun e w'=>e=.returned (.tuple #[.bool true,ci 0])∧ab [B,A] w w'∧bv w' B A (ws.set i x):=by
 subst hi ho hx;exact c5l w B A ws i x h hb
theorem uh{w:World}{B A:Nat}{ws:List Nat}{i o x:Nat}{i' o' x':Int}(h:i<ws.length)(hb:bv w B A ws)(hi:i'=i)(ho:o'=o)(hx:x'=x)(hne:¬ wat ws i=o):Calls Tryz.prog 150 #[pt B,ci i',cu o',cu x'] w fun e w'=>e=.returned (.tuple #[.bool false,ci 0])∧ab [B,A] w w'∧bv w' B A ws:=by
 subst hi ho hx;exact c1o w B A ws i o x h hb hne
theorem rc{w:World}{B A:Nat}{ws:List Nat}{i x:Nat}{i' x':Int}(h:i<ws.length)(hb:bv w B A ws)(hi:i'=i)(hx:x'=x):Calls Tryz.prog 157 #[pt B,ci i',cu x'] w fun e w'=>e=.returned (ci 0)∧ab [B,A] w w'∧bv w' B A (ws.set i x):=by
 subst hi hx;exact c1n w B A ws i x h hb
theorem c5m{w:World}{B A:Nat}{ws:List Nat}{i:Nat}{i':Int}(h:i<ws.length)(hb:bv w B A ws)(hi:i'=i):Calls Tryz.prog 84 #[pt B,ci i'] w fun e w'=>e=.returned (.tuple #[cu ((wat ws i:Nat):Int),ci 0])∧ab [B] w w'∧bv w' B A ws:=by
 subst hi;exact fc w B A ws i h hb
theorem c8i(w:World)(B A:Nat)(ws:List Nat)(i y:Nat)(h:i<ws.length)(hb:bv w B A ws):Calls Tryz.prog 64 #[pt B,ci i,cu y] w fun e w'=>∃v x,e=.returned (.tuple #[v,ci 0])∧ab [B,A] w w'∧bv w' B A (ws.set i x):=by
 obtain⟨k,hk⟩:=hb.hd;have HB:=qh hb;clear hb
 have hadd:∀w,(Op.intArith .add .u64 ((wat ws i:Nat):Int) (y:Int)).run Tryz.prog w=.ok (cu (((wat ws i+y)%18446744073709551616:Nat):Int)) w:=by
  intro w;have:(Op.intArith .add .u64 ((wat ws i:Nat):Int) (y:Int)).run Tryz.prog w=.ok (cu (IntKind.wrap .u64 ((wat ws i:Nat)+(y:Int)))) w:=by simp[go_sem]
  rw[this];have e:IntKind.wrap .u64 ((wat ws i:Nat)+(y:Int))=(((wat ws i+y)%18446744073709551616:Nat):Int):=by simp[IntKind.wrap,IntKind.bits,IntKind.signed]
  rw[e]
 generalize hx:(wat ws i+y)%18446744073709551616=x at hadd
 go_enter Tryz.func64,Tryz.ntmps64
 go_wp2_with (first|(go_at_call 117;refine(o5 _ B A k ws.length i h hk).mono ?_;rintro e w1 ⟨rfl,hs,hr⟩;have hB1:=HB.o.touched hs hr;have hld:=run_call_add (P:=Tryz.prog) (f:=118) Tryz.func118 (by kernel_rfl) (by kernel_rfl) (by kernel_rfl) .u64 (by kernel_rfl) (y:=y) (s:=x) (hB1.wd.cell (ej ws h)) (hB1.wd.free i) (hadd _)))
 go_ret2
 exact⟨_,x,rfl,(hs.mono (fun y hy _=>by simp at hy;simp[hy])).setCell (by simp) _,hB1.set x⟩
theorem o6:(Tryz.prog.info? 41).map (fun i=>(i.zero,i.size,i.bytes))=some (some (cu 0),1,8):=by kernel_rfl
theorem c1p(n:Nat):madeCells (Value.int .u64 0).cells (n*1)=bj (List.replicate n 0):=by
 apply Array.toList_inj.1;rw[Nat.mul_one];exact(toList_madeCells_one (cu 0) n).trans (by simp[bj])
section
open Go.ChangeMaps
open Go.Maps (Keyed)
section
variable{P:Program}{w:World}{ops:Array Oper}{rest:List Oper}{o:Oper}{a:Act}{Q:Exit→Act→World→Prop}{k e t:TypeId}{b n:Nat}{f:Lit→Option Value}
theorem ly(hg:o.guard=none)(m x v:Operand)(t:TypeId)(hop:o.op=Op.mapUpdate t m x v)(k e:TypeId)(K:Keyed P k)(ht:P.underlying t=some (.map k e))(b n:Nat)(f:Lit→Option Value)(hm:a.eval m=.map (some b))(hown:a8 P k w b n f)(hn:n<maxLen)(key val:Value)(kl:Lit)(hx:a.eval x=key)(hv:a.eval v=val)(hkey:keyOf P k key=some kl)(hK:∀w',a8 P k w' b (n+1) (il f kl (some val))→ab [b] w w'→wpList P ops Q rest (a.put o.dst undef) w'):wpList P ops Q (o::rest) a w:=by
 refine wpList_plain hg fun K' hK'=>?_;obtain⟨w',hrun,r1,r2⟩:=hown.store K ht hn (val:=val) hkey;unfold Oper.wp;simp[execOp,hop,hm,hx,hv,hrun,Result.andThen];exact hK' _ _ (hK w' r1 r2)
theorem b2u(hg:o.guard=none)(m x:Operand)(t k:TypeId)(hop:o.op=Op.call {callee:=Callee.builtin Builtin.delete,args:=#[m,x],argTypes:=#[t,k]})(e:TypeId)(K:Keyed P k)(ht:P.underlying t=some (.map k e))(b n:Nat)(f:Lit→Option Value)(hm:a.eval m=.map (some b))(hown:a8 P k w b n f)(key:Value)(kl:Lit)(hx:a.eval x=key)(hkey:keyOf P k key=some kl)(hK:∀w',a8 P k w' b n (il f kl none)→ab [b] w w'→wpList P ops Q rest (a.put o.dst (.tuple #[])) w'):wpList P ops Q (o::rest) a w:=by
 refine wpList_plain hg fun K' hK'=>?_;obtain⟨w',hrun,r1,r2⟩:=hown.drop K ht hkey o.type;unfold Oper.wp;simp[execOp,hop,resolve,invoke,builtin,hm,hx,hrun,Result.andThen];exact hK' _ _ (hK w' r1 r2)
theorem a8.drewN(h:a8 P k w b n f)(m:Nat):a8 P k (w.drewN m) b n f:=h.block rfl
theorem a8.drew(h:a8 P k w b n f):a8 P k w.drew b n f:=h.block rfl
theorem a8.alloc(h:a8 P k w b n f)(x:Obj):a8 P k (w.alloc x) b n f:=h.block (Below.heap_alloc w x b h.lt)
end
abbrev keyS(s:ByteArray):Lit:=.string s.data.toList
abbrev ig (n : Int) : Lit := .int .i64 n
end
theorem bq{a b:Bool}(h:a=b):Ending.returned (.bool a)=.returned (.bool b):=by rw[h]
theorem nr{k:IntKind}{a b:Int}(h:a=b):Ending.returned (.int k a)=.returned (.int k b):=by rw[h]
theorem b2v(s:Int)(h0:0≤s)(h1:s≤18446744073709551615):bits .and .u64 s 1=s%2:=by
 rw[u64_and s 1 h0 (by omega) (by omega) (by omega)];obtain⟨n,rfl⟩:=Int.eq_ofNat_of_zero_le h0;simp
theorem iq(s:Nat)(w:World):Calls Tryz.prog 85 #[cu s] w fun e w'=>e=.returned (cu ((s / 2:Nat):Int))∧w=w':=by
 go_enter Tryz.func85,Tryz.ntmps85
 go_wp2;go_ret;exact⟨nr (by omega),rfl⟩
theorem b7e(s:Nat)(h:s≤18446744073709551615)(w:World):Calls Tryz.prog 273 #[cu s] w fun e w'=>e=.returned (.bool (decide (s%2=1)))∧w=w':=by
 go_enter Tryz.func273,Tryz.ntmps273
 go_wp2;go_ret;refine⟨bq ?_,rfl⟩;rw[b2v s (by omega) (by omega)];rw[Bool.eq_iff_iff];simp;omega
theorem b8k(s:Nat)(h:s≤18446744073709551615)(w:World):Calls Tryz.prog 278 #[cu s] w fun e w'=>e=.returned (cu ((s / 2+s%2:Nat):Int))∧w=w':=by
 go_enter Tryz.func278,Tryz.ntmps278
 go_wp2_with (go_at_call 85;refine(iq _ _).mono ?_;rintro e w' ⟨rfl,rfl⟩)
 go_ret;refine⟨nr ?_,rfl⟩;rw[b2v s (by omega) (by omega),IntWalk.u64_in _ (by omega)];omega
def inB(n lo hi:Int):Bool:=decide (lo≤n∧n≤hi)
theorem b0x{n lo hi:Int}(h:lo≤n∧n≤hi):inB n lo hi=true:=dqt h
theorem b4z(n lo hi:Int)(w:World):Calls Tryz.prog 279 #[ci n,ci lo,ci hi] w fun e w'=>e=.returned (.bool (inB n lo hi))∧w=w':=by
 by_cases c:lo≤n
 ·go_enter Tryz.func279,Tryz.ntmps279
  go_wp2;go_ret;exact⟨bq (by unfold inB;simp[c]),rfl⟩
 ·go_enter Tryz.func279,Tryz.ntmps279
  go_wp2;go_ret;exact⟨bq (by unfold inB;symm;exact dqf (fun h=>by have:=h.1;omega)),rfl⟩
theorem b8l(n lo hi:Int)(h0:lo≤n)(h1:n≤hi)(w:World):Calls Tryz.prog 279 #[ci n,ci lo,ci hi] w fun e w'=>e=.returned (.bool true)∧w=w':=by
 have h:=b4z n lo hi w
 rwa [b0x ⟨h0,h1⟩] at h
theorem b5a(n lo hi:Int)(w:World):Calls Tryz.prog 176 #[ci n,ci lo,ci hi] w fun e w'=>e=.returned (.bool (inB n lo hi))∧w=w':=by
 by_cases c:lo≤n
 ·go_enter Tryz.func176,Tryz.ntmps176
  go_wp2;go_ret;exact⟨bq (by unfold inB;simp[c]),rfl⟩
 ·go_enter Tryz.func176,Tryz.ntmps176
  go_wp2;go_ret;exact⟨bq (by unfold inB;symm;exact dqf (fun h=>by have:=h.1;omega)),rfl⟩
theorem b0e(n lo hi:Int)(h0:lo≤n)(h1:n≤hi)(w:World):Calls Tryz.prog 176 #[ci n,ci lo,ci hi] w fun e w'=>e=.returned (.bool true)∧w=w':=by
 have h:=b5a n lo hi w
 rwa [b0x ⟨h0,h1⟩] at h
theorem me(n lo hi:Int)(w:World):Calls Tryz.prog 44 #[ci n,ci lo,ci hi] w fun e w'=>e=.returned (.bool (inB n lo hi))∧w=w':=by
 by_cases c:lo≤n
 ·go_enter Tryz.func44,Tryz.ntmps44
  go_wp2;go_ret;exact⟨bq (by unfold inB;simp[c]),rfl⟩
 ·go_enter Tryz.func44,Tryz.ntmps44
  go_wp2;go_ret;exact⟨bq (by unfold inB;symm;exact dqf (fun h=>by have:=h.1;omega)),rfl⟩
theorem j8(n lo hi:Int)(w:World):Calls Tryz.prog 58 #[ci n,ci lo,ci hi] w fun e w'=>e=.returned (.bool (inB n lo hi))∧w=w':=by
 by_cases c:lo≤n
 ·go_enter Tryz.func58,Tryz.ntmps58
  go_wp2;go_ret;exact⟨bq (by unfold inB;simp[c]),rfl⟩
 ·go_enter Tryz.func58,Tryz.ntmps58
  go_wp2;go_ret;exact⟨bq (by unfold inB;symm;exact dqf (fun h=>by have:=h.1;omega)),rfl⟩
theorem b5b(n lo hi:Int)(w:World):Calls Tryz.prog 164 #[ci n,ci lo,ci hi] w fun e w'=>e=.returned (.bool (inB n lo hi))∧w=w':=by
 by_cases c:lo≤n
 ·go_enter Tryz.func164,Tryz.ntmps164
  go_wp2;go_ret;exact⟨bq (by unfold inB;simp[c]),rfl⟩
 ·go_enter Tryz.func164,Tryz.ntmps164
  go_wp2;go_ret;exact⟨bq (by unfold inB;symm;exact dqf (fun h=>by have:=h.1;omega)),rfl⟩
theorem b8m(n lo hi:Int)(h0:lo≤n)(h1:n≤hi)(w:World):Calls Tryz.prog 164 #[ci n,ci lo,ci hi] w fun e w'=>e=.returned (.bool true)∧w=w':=by
 have h:=b5b n lo hi w
 rwa [b0x ⟨h0,h1⟩] at h
theorem c1q(d:Nat)(h0:2≤d)(h1:d≤16)(w:World):Calls Tryz.prog 277 #[ci d] w fun e w'=>e=.returned (.bool true)∧w=w':=by
 go_enter Tryz.func277,Tryz.ntmps277
 go_wp2_with (go_at_call 279;refine(b8l _ _ _ (by omega) (by omega) _).mono ?_;rintro e w' ⟨rfl,rfl⟩)
 go_ret;exact⟨rfl,rfl⟩
def oq(s g d:Nat):Bool:=decide (g≤s / 2∧s / 2+s%2-g<d)
theorem b0y(s g d:Nat)(h0:2≤d)(h1:d≤16)(hs:s≤18446744073709551615)(w:World):Calls Tryz.prog 276 #[cu s,cu g,ci d] w fun e w'=>e=.returned (.bool (oq s g d))∧w=w':=by
 by_cases c:g≤s / 2
 ·have c1:decide ((g:Int)≤(s:Int) / 2)=true:=dqt (by omega)
  go_enter Tryz.func276,Tryz.ntmps276
  go_wp2_with (first
   | (go_at_call 277;refine(c1q d h0 h1 _).mono ?_;rintro e w' ⟨rfl,rfl⟩)
   | (go_at_call 85;refine(iq s _).mono ?_;rintro e w' ⟨rfl,rfl⟩)
   | (go_at_call 278;refine(b8k s hs _).mono ?_;rintro e w' ⟨rfl,rfl⟩))
  go_ret;refine⟨bq ?_,rfl⟩;unfold oq;rw[Bool.eq_iff_iff];simp;omega
 ·have c1:decide ((g:Int)≤(s:Int) / 2)=false:=dqf (by omega)
  go_enter Tryz.func276,Tryz.ntmps276
  go_wp2_with (first
   | (go_at_call 277;refine(c1q d h0 h1 _).mono ?_;rintro e w' ⟨rfl,rfl⟩)
   | (go_at_call 85;refine(iq s _).mono ?_;rintro e w' ⟨rfl,rfl⟩))
  go_ret;exact⟨bq (by unfold oq;symm;exact dqf (fun h=>by have:=h.1;omega)),rfl⟩
structure am where
 own:Nat
 seq:Nat
 first:Nat
 words:Nat
 depth:Nat
def am.cells(s:am):Array Value:=#[ci s.own,ci s.seq,ci s.first,ci s.words,ci s.depth]
structure am.Ok(s:am):Prop where
 w1:1≤s.words
 w2:s.words≤64
 d1:2≤s.depth
 d2:s.depth≤16
 o:s.own≤1048576
 q:s.seq≤1048576
 f:s.first≤1048576
def am.place(s:am)(g:Nat):Nat:=s.first+(g%s.depth)*s.words
theorem am.place_lt(s:am)(h:s.Ok)(g:Nat):s.place g+s.words≤s.first+s.words*s.depth:=by
 unfold am.place;have h1:g%s.depth<s.depth:=Nat.mod_lt _ (by have:=h.d1;omega);have h2:(g%s.depth)*s.words+s.words=(g%s.depth+1)*s.words:=by rw[Nat.succ_mul]
 have h3:(g%s.depth+1)*s.words≤s.depth*s.words:=Nat.mul_le_mul_right _ h1;rw[Nat.mul_comm s.words];omega
theorem b5c(f g wd d:Nat)(h2:wd≤64)(h3:2≤d)(h4:d≤16)(h7:f≤1048576):wrap64 ((f:Int)+wrap64 (wrap64 ((g:Int)%d)*wd))=((f+g%d*wd:Nat):Int):=by
 have hm:(g:Int)%d=((g%d:Nat):Int):=by omega
 rw[hm];have h:=Nat.mod_lt g (show 0<d by omega);generalize g%d=m at h;have hp:m*wd≤15*64:=Nat.mul_le_mul (by omega) h2;rw[IntWalk.wrap64_in (m:Int) (by omega),show (m:Int)*(wd:Int)=((m*wd:Nat):Int) by simp];generalize m*wd=y at hp;rw[IntWalk.wrap64_in (y:Int) (by omega),IntWalk.wrap64_in _ (by omega)];omega
theorem b0z(s:am)(h:s.Ok)(g:Nat)(w:World):Calls Tryz.prog 139 #[.agg s.cells,cu g] w fun e w'=>e=.returned (ci (s.place g))∧Below w.heap.size w w':=by
 obtain⟨o,q,f,wd,d⟩:=s;obtain⟨h1,h2,h3,h4,h5,h6,h7⟩:=h;simp only[am.cells,am.place] at *;have hB:=(brf w).alloc (nlr _) (.cells #[ci o,ci q,ci f,ci wd,ci d] 112)
 go_enter Tryz.func139,Tryz.ntmps139
 go_wp2_with (first|(go_at_call 176;refine(b0e _ _ _ ?_ ?_ _).mono ?_;omega;omega;rintro e w' ⟨rfl,rfl⟩))
 go_quiet (fail)
 go_wp2;go_ret;exact⟨nr (b5c f g wd d h2 h3 h4 h7),below_drewN hB _⟩
theorem b7f{s:am}(h:s.Ok){g:Nat}{g':Int}(hg:g'=g)(w:World):Calls Tryz.prog 139 #[.agg s.cells,cu g'] w fun e w'=>e=.returned (ci (s.place g))∧Below w.heap.size w w':=by
 subst hg;exact b0z s h g w
theorem c1r{s:Nat}{s':Int}(hs:s'=s)(w:World):Calls Tryz.prog 85 #[cu s'] w fun e w'=>e=.returned (cu ((s / 2:Nat):Int))∧w=w':=by
 subst hs;exact iq s w
structure WOp where
 how:Nat
 next:Nat
 tries:Nat
 steps:Nat
 spot:am
 seq:Nat
 n:Nat
def WOp.cells(o:WOp)(D c:Nat):Array Value:=#[ci o.how,ci o.next,ci o.tries,ci o.steps,ci o.spot.own,ci o.spot.seq,ci o.spot.first,ci o.spot.words,ci o.spot.depth,zl D o.spot.words c,cu o.seq,ci o.n]
theorem b8n(w:World)(P B A D c:Nat)(ws:List Nat)(t k:Nat)(s:am)(q n:Nat)(hb:bv w B A ws)(hs:s.seq<ws.length)(hP:P≠B∧P≠A)(hk:k≤1000)(hr:Row w P 210 (WOp.cells ⟨0,0,t,k,s,q,n⟩ D c))(hh:wat ws s.seq%2=0)(h64:wat ws s.seq≤18446744073709551615):Calls Tryz.prog 271 #[pt P,pt B] w fun e w'=>e=.returned (ci 0)∧ab [B,P] w w'∧bv w' B A ws∧Row w' P 210 (WOp.cells ⟨0,1,t,k+1,s,wat ws s.seq,n⟩ D c):=by
 simp only[WOp.cells] at *;obtain⟨c0,c1,-,-,-,c5,-⟩:=hr.c12;have hl:=b7e (wat ws s.seq) h64;have hd:decide (wat ws s.seq%2=1)=false:=by simp;omega
 rw[hd] at hl;generalize hx:wat ws s.seq=x at *;have HX:=qh hx;have HB:=qh hb;have HR:=qh hr;clear hr h64 hh hd hx hb;have HP:=qh hP;clear hP
 go_enter Tryz.func271,Tryz.ntmps271
 go_wp2_with fail;refine ay 2 ?_
 go_wp2_with (first|(go_at_call 84;refine(fc _ B A ws s.seq hs HB.o).mono ?_;rintro e w1 ⟨rfl,hs1,hb1⟩;have r1:=HR.o.same hs1 (by simpa using HP.o.1);obtain⟨d0,d1,d2,d3,d4,d5,d6,d7,d8,d9,d10,d11⟩:=r1.c12;have fr:=r1.free;rw[HX.o];have HS1:=qh hs1;have HB1:=qh hb1;have R1:=qh r1;clear hs1 hb1 r1 c0 c1 c5)|(go_at_call 273;refine(hl _).mono ?_;rintro e w' ⟨rfl,rfl⟩))
 refine wp_goto ?_;refine⟨_,rfl,?_⟩;go_wp2;refine bh ?_;go_ret;have hs1:=HS1.o.mono (M':=[B,P]) (fun y hy _=>by simp at hy;simp[hy]);refine⟨rfl,?_,?_,?_⟩
 ·exact((hs1.setCell (by simp) _).setCell (by simp) _).setCell (by simp) _
 ·exact HB1.o.same (((ab.refl [P] w1).setCell (by simp) _ |>.setCell (by simp) _).setCell (by simp) _) (by simpa using HP.o.1.symm) (by simpa using HP.o.2.symm)
 ·exact((R1.o.set 10 _).set 1 _).set 3 _
theorem b8o(w:World)(P B A D c:Nat)(ws:List Nat)(t k:Nat)(s:am)(q n:Nat)(hb:bv w B A ws)(hs:s.seq<ws.length)(hP:P≠B∧P≠A)(hk:k≤1000)(hq:q≤1000000)(hr:Row w P 210 (WOp.cells ⟨0,1,t,k,s,q,n⟩ D c))(hh:wat ws s.seq=q):Calls Tryz.prog 271 #[pt P,pt B] w fun e w'=>e=.returned (ci 0)∧ab [B,A,P] w w'∧bv w' B A (ws.set s.seq (q+1))∧Row w' P 210 (WOp.cells ⟨0,2,t,k+1,s,q,n⟩ D c):=by
 simp only[WOp.cells] at *;obtain⟨c0,c1,-,-,-,c5,-,-,-,-,c10,-⟩:=hr.c12;have HH:=qh hh;have HB:=qh hb;have HR:=qh hr;have HP:=qh hP;clear hr hh hb hP
 go_enter Tryz.func271,Tryz.ntmps271
 go_wp2_with fail;refine ay 2 ?_;go_wp2_with fail;refine aq (fun w'=>∃n,w'=w.drewN n) 15 (by kernel_rfl) (by kernel_rfl) ⟨1,rfl⟩ ?_;simp only[List.take_succ_cons,List.take_zero,List.drop_succ_cons,List.drop_zero]
 repeat (go_big_quiet_step (fail))
 refine wpQuiet_nil ?_;rintro _ ⟨nq,rfl⟩
 go_wp2_with (first|(go_at_call 150;refine(wm hs (HB.o.d0 nq) rfl (by rw[HH.o]) (x:=q+1) (by simp)).mono ?_;rintro e w1 ⟨rfl,hs1,hb1⟩;have HS1:=qh (((ab.refl [B,A] w).drewN nq).then hs1 (fun _ h _=>h));have r1:=(HR.o.drewN nq).same hs1 (by simpa using HP.o);obtain⟨d0,d1,d2,d3,d4,d5,d6,d7,d8,d9,d10,d11⟩:=r1.c12;have fr:=r1.free;have HB1:=qh hb1;have R1:=qh r1;clear hs1 hb1 r1 c0 c1 c5 c10))
 refine wp_goto ?_;refine⟨_,rfl,?_⟩;go_wp2;refine bh ?_;go_ret;have hs1:=HS1.o.mono (M':=[B,A,P]) (fun y hy _=>by simp at hy;simp;omega);refine⟨rfl,?_,?_,?_⟩
 ·exact(hs1.setCell (by simp) _).setCell (by simp) _
 ·exact HB1.o.same ((ab.refl [P] w1).setCell (by simp) _ |>.setCell (by simp) _) (by simpa using HP.o.1.symm) (by simpa using HP.o.2.symm)
 ·exact(R1.o.set 1 _).set 3 _
def WOp.again(o:WOp):WOp:={o with next:=0,tries:=o.tries-1,how:=if o.tries=1 then 2 else o.how}
theorem b2w(w:World)(P D c:Nat)(o:WOp)(h1:1≤o.tries)(h2:o.tries≤16)(hr:Row w P 210 (o.cells D c)):Calls Tryz.prog 272 #[pt P] w fun e w'=>e=.returned (.tuple #[])∧ab [P] w w'∧Row w' P 210 (o.again.cells D c):=by
 obtain⟨how,next,t,k,s,q,n⟩:=o;simp only[WOp.cells,WOp.again] at *;obtain⟨c0,c1,c2,-⟩:=hr.c12;have fr:=hr.free;have HR:=qh hr;clear hr;by_cases ht:t=1
 ·subst ht
  go_enter Tryz.func272,Tryz.ntmps272
  go_wp2
  go_end0
  refine⟨rfl,(((ab.refl [P] w).setCell (by simp) _).setCell (by simp) _).setCell (by simp) _,?_⟩;exact((HR.o.set 1 _).set 2 _).set 0 _
 ·have t1:decide ((t:Int)-1=0)=false:=dqf (by omega)
  go_enter Tryz.func272,Tryz.ntmps272
  go_wp2
  go_end0
  refine⟨rfl,((ab.refl [P] w).setCell (by simp) _).setCell (by simp) _,?_⟩;refine((HR.o.set 1 _).set 2 _).to ?_;have:((t:Int)-1)=((t-1:Nat):Int):=by omega
  rw[this]
  rfl
theorem b8p(w:World)(P B A D c:Nat)(ws:List Nat)(t k:Nat)(s:am)(q n:Nat)(hb:bv w B A ws)(hs:s.seq<ws.length)(hP:P≠B∧P≠A)(hk:k≤1000)(hq:q≤1000000)(ht1:1≤t)(ht2:t≤16)(hr:Row w P 210 (WOp.cells ⟨0,1,t,k,s,q,n⟩ D c))(hh:¬ wat ws s.seq=q):Calls Tryz.prog 271 #[pt P,pt B] w fun e w'=>e=.returned (ci (if t=1 then 2 else 0:Nat))∧ab [B,A,P] w w'∧bv w' B A ws∧Row w' P 210 (WOp.cells ⟨if t=1 then 2 else 0,0,t-1,k+1,s,q,n⟩ D c):=by
 have hag:=fun w'=>b2w w' P D c ⟨0,1,t,k,s,q,n⟩ ht1 ht2;simp only[WOp.cells,WOp.again] at *;generalize (if t=1 then 2 else 0:Nat)=hw at *;obtain⟨c0,c1,-,-,-,c5,-,-,-,-,c10,-⟩:=hr.c12;have HAG:=qh hag;have HH:=qh hh;have HB:=qh hb;have HR:=qh hr;have HP:=qh hP;clear hr hh hb hP hag
 go_enter Tryz.func271,Tryz.ntmps271
 go_wp2_with fail;refine ay 2 ?_;go_wp2_with fail;refine aq (fun w'=>∃n,w'=w.drewN n) 15 (by kernel_rfl) (by kernel_rfl) ⟨1,rfl⟩ ?_;simp only[List.take_succ_cons,List.take_zero,List.drop_succ_cons,List.drop_zero]
 repeat (go_big_quiet_step (fail))
 refine wpQuiet_nil ?_;rintro _ ⟨nq,rfl⟩
 go_wp2_with (first|(go_at_call 150;refine(uh hs (HB.o.d0 nq) rfl rfl (x:=q+1) (by simp) HH.o).mono ?_;rintro e w1 ⟨rfl,hs1,hb1⟩;have HS1:=qh (((ab.refl [B,A] w).drewN nq).then hs1 (fun _ h _=>h));have r1:=(HR.o.drewN nq).same hs1 (by simpa using HP.o);have HB1:=qh hb1;have R1:=qh r1;clear hs1 hb1 r1 c0 c1 c5 c10))
 refine wp_goto ?_;refine⟨_,rfl,?_⟩
 go_wp2_with (first|(go_at_call 272;refine(HAG.o _ R1.o).mono ?_;rintro e w2 ⟨rfl,hs2,hr2⟩;have HS2:=qh hs2;have R2:=qh hr2;obtain⟨d0,d1,d2,d3,d4,d5,d6,d7,d8,d9,d10,d11⟩:=hr2.c12;have fr:=hr2.free;clear hs2 hr2))
 refine wp_label ?_;go_wp2;refine bh ?_;go_ret;have hs2:=(HS1.o.mono (M':=[B,A,P]) (fun y hy _=>by simp at hy;simp;omega)).then HS2.o (by simp);refine⟨rfl,?_,?_,?_⟩
 ·exact hs2.setCell (by simp) _
 ·exact(HB1.o.same HS2.o (by simpa using HP.o.1.symm) (by simpa using HP.o.2.symm)).same ((ab.refl [P] w2).setCell (by simp) _) (by simpa using HP.o.1.symm) (by simpa using HP.o.2.symm)
 ·exact R2.o.set 3 _
end Go.Proofs.YtojkaibpfdhmaaaGreatDoor

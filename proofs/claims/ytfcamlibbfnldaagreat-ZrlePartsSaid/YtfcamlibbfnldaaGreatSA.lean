/- The seat's Go functions come to the Lean functions written here, wherever these give an answer (part A). -/
import Derived.Test.YtfcamlibbfnldaaGreatAmC
import Derived.KernelRfl
import Derived.Test.YtfcamlibbfnldaaGreatChecked
import Derived.Lib.UnsafeStr
import Derived.Shelf.Strings.Repeat
import Derived.Shelf.RegionOpenPlain
import Derived.WalkKit
import Derived.Test.YtfcamlibbfnldaaGreatProg
set_option linter.unusedSimpArgs false
set_option linter.unusedVariables false
set_option linter.unusedSectionVars false
set_option maxRecDepth 100000
set_option maxHeartbeats 2000000
namespace Go.Proofs.YtfcamlibbfnldaaGreat.Am
open Go Go.Am
noncomputable instance instP:Inhabited Program:=⟨Tryz.prog⟩
theorem D3 {P:Program} {w:World}:∀(l:List Int) (a:Addr) (acc:ByteArray),(∀j x,l[j]?=some x→w.cell? (a.add j)=some (.int .u8 x)) →
  (loadBytes a acc l.length).run P w=.ok ⟨acc.data++(l.map fun n=>UInt8.ofNat n.toNat).toArray⟩ w
 | [],a,acc,_=>by simp[loadBytes]
 | x::l,a,acc,h=>by
  have h0:w.cell? a=some (.int .u8 x):=by
   have:=h 0 x rfl
   simpa[Addr.add] using this
  have ih:=D3 (P:=P) l (a.add 1) (acc.push (UInt8.ofNat x.toNat)) (fun j y hy=>by
   have:=h (j+1) y (by simpa using hy)
   have e:(a.add 1).add j=a.add (j+1):=by
    unfold Addr.add
    by_cases hj:j=0
    ·subst hj;simp
    ·simp[hj];omega
   rw[e];exact this)
  simp only[List.length_cons,loadBytes,Sem.run_bind,run_load,h0,Result.andThen]
  rw[show(x.toNat).toUInt8=UInt8.ofNat x.toNat from rfl,ih]
  congr 1
  apply ByteArray.ext
  simp[ByteArray.push]
theorem G9 {P:Program} {w:World} (pt it ty e:TypeId) (hp:P.underlying pt=some (.pointer e)) (hc:P.cellsOf e=1) (g cells:Nat) (hsh:w.shape? g=some (e,cells)) (l:List Int) (h0:l≠[]) (hn:l.length≤cells) (h63:l.length≤9223372036854775807)
  (hcell:∀j x,l[j]?=some x→w.cell? ((⟨g,0,none⟩:Addr).add j)=some (.int .u8 x)) :
  (Builtin.unsafeString_ #[pt,it] ty #[.pointer (some ⟨g,0,none⟩),.int .i64 l.length]).run P w=.ok (.string (aE l)) (w.freeze ⟨g,0,none⟩ l.length):=by
 have hl:l.length≠0:=by simpa using h0
 have hlb:=D3 (P:=P) (w:=w) l ⟨g,0,none⟩ .empty hcell
 have hlies:=Lib.liesAt_bytes (P:=P) hc (cells / P.cellsOf e) l.length (by rw[hc];simpa using hn)
 have h63':¬(9223372036854775807:Int)<(l.length:Int):=by omega
 have hdef:Builtin.unsafeString_ #[pt,it] ty #[.pointer (some ⟨g,0,none⟩),.int .i64 l.length] =
   (do
    let n ←asInt (.int .i64 l.length)
    if n<0 then runtimePanic (.error "unsafe.String: len out of range")
    if n>IntKind.i64.max then unsupported (.unsafePointer "String: a length above the largest int")
    if n=0 then pure (.string .empty)
    else if ←variablesAt ⟨g,0,none⟩ (←elemOf pt) n.toNat then do
     let s ←loadBytes ⟨g,0,none⟩ .empty n.toNat
     freeze ⟨g,0,none⟩ n.toNat
     pure (.string s)
    else unsupported (.unsafePointer "String: not so many bytes at ptr")):=rfl
 rw[hdef]
 have hmax:IntKind.i64.max=9223372036854775807:=rfl
 have hneg:¬(l.length:Int)<0:=by omega
 simp[asInt,asIntOf,hmax,h63',hneg,hl,variablesAt,hsh,elemOf,run_underlying hp,hlies,hlb,aE]
set_option maxHeartbeats 4000000 in
theorem ab4:H5 Tryz.prog 67 5:=by
 intro b o n c w gk cs fr xs h1 h2 h3 h4 h5 h6 h7
 subst h6
 have c1:w.drew.cell? ⟨b,o+1,none⟩=some (.slice (some ⟨gk,0,none⟩) xs.length c):=h1
 have hSD:(Builtin.unsafeSliceData_ #[93] 183 #[.slice (some ⟨gk,0,none⟩) xs.length c]).run Tryz.prog w.drew=.ok (.pointer (some ⟨gk,0,none⟩)) w.drew :=
  Lib.run_unsafeSliceData_row _ _ _ _ _ _ (by omega)
 have hsz:xs.length≤cs.size:=by
  have:=h7 (xs.length-1) (.int .u8 (xs[xs.length-1]'(by omega))) (by simp)
  unfold World.cell? at this
  rw[h5] at this
  simp at this
  have:=(Array.getElem?_eq_some_iff.1 this).1
  omega
 have hUS:(Builtin.unsafeString_ #[183,3] 9 #[.pointer (some ⟨gk,0,none⟩),.int .i64 xs.length]).run Tryz.prog w.drew=.ok (.string (aE xs)) (w.drew.freeze ⟨gk,0,none⟩ xs.length):=by
  refine G9 183 3 9 5 Tryz.underlying183 (by kernel_rfl) gk cs.size (by have hg':w.drew.heap[gk]?=some (.cells cs 5 fr):=h5;simp[World.shape?,hg']) xs (by intro e;rw[e] at h2;simp at h2) hsz (by unfold bh at h3;omega) ?_
  intro j x hx
  have:=h7 j (.int .u8 x) (by simp[hx])
  by_cases e:j=0
  ·subst e;simpa[Addr.add] using this
  ·simpa[Addr.add,e] using this
 have mixed:Tryz.prog.follows .mixedOrders=true:=by kernel_rfl
 go_enter Tryz.func67,Tryz.ntmps67
 go_wp2
 go_region_o
 all_goals (go_wp2;go_ret;exact⟨rfl,rfl⟩)
set_option maxHeartbeats 4000000 in
theorem ab3:H6 Tryz.prog 67 5:=by
 intro b o c w a h1 h2
 have c1:w.drew.cell? ⟨b,o+1,none⟩=some (.slice a 0 c):=h1
 have hUS:∀(p:Option Addr) (w':World),(Builtin.unsafeString_ #[183,3] 9 #[.pointer p,.int .i64 0]).run Tryz.prog w'=.ok (.string .empty) w':=fun p w'=>Lib.run_unsafeString_none ..
 have mixed:Tryz.prog.follows .mixedOrders=true:=by kernel_rfl
 rcases h2 with rfl|⟨gk,cs,fr,rfl,hg⟩
 ·have hSD:(Builtin.unsafeSliceData_ #[93] 183 #[.slice none 0 c]).run Tryz.prog w.drew=.ok (.pointer none) w.drew:=Lib.run_unsafeSliceData_nil ..
  go_enter Tryz.func67,Tryz.ntmps67
  go_wp2
  go_region_o
  all_goals (go_wp2;go_ret;exact⟨rfl,Grow.drew w⟩)
 ·by_cases hc:c=0
  ·subst hc
   have hSD:(Builtin.unsafeSliceData_ #[93] 183 #[.slice (some ⟨gk,0,none⟩) 0 0]).run Tryz.prog w.drew=.ok (.pointer (some ⟨w.drew.heap.size,0,none⟩)) (w.drew.alloc (.view ⟨gk,0,none⟩ 5)) :=
    Lib.run_unsafeSliceData_zero _ _ _ _ Tryz.underlying183 _ _ (5,cs.size) (by have hg':w.drew.heap[gk]?=some (.cells cs 5 fr):=hg;simp[World.shape?,hg'])
   have hb:b<w.drew.heap.size:=World.block_lt_of_cell? _ _ c1
   have c2:(w.drew.alloc (.view ⟨gk,0,none⟩ 5)).cell? ⟨b,o+1,none⟩=some (.slice (some ⟨gk,0,none⟩) 0 0):=by
    rw[←c1]
    exact World.cell?_of_block ((Grow.alloc w.drew (.view ⟨gk,0,none⟩ 5)).block b hb)
   have c3:(w.alloc (.view ⟨gk,0,none⟩ 5)).cell? ⟨b,o+1,none⟩=some (.slice (some ⟨gk,0,none⟩) 0 0):=c2
   go_enter Tryz.func67,Tryz.ntmps67
   go_wp2
   go_region_o
   all_goals (go_wp2;go_ret;exact⟨rfl,(Grow.drew w).trans (Grow.alloc w.drew _)⟩)
  ·have hSD:(Builtin.unsafeSliceData_ #[93] 183 #[.slice (some ⟨gk,0,none⟩) 0 c]).run Tryz.prog w.drew=.ok (.pointer (some ⟨gk,0,none⟩)) w.drew :=
    Lib.run_unsafeSliceData_row _ _ _ _ _ _ hc
   go_enter Tryz.func67,Tryz.ntmps67
   go_wp2
   go_region_o
   all_goals (go_wp2;go_ret;exact⟨rfl,Grow.drew w⟩)
theorem av1:uj Tryz.prog 67 5:=⟨(fun e=>by cases e),fun _=>⟨ab4,ab3⟩⟩
def QK:Go.Shelf.Ren:=⟨fun|105=>268|212=>273|99=>114|165=>308|166=>62|170=>309|169=>67|263=>313|264=>314|206=>186|240=>122|241=>333|276=>190|277=>351|n=>n,fun|9=>9|3=>3|4=>4|20=>20|0=>0|46=>151|109=>300|5=>5|72=>95|76=>98|51=>250|146=>337|53=>252|148=>339|70=>92|37=>93|75=>97|127=>183|164=>218|80=>105|n=>n,fun|n=>n⟩
theorem Uk:Go.Proofs.Lays.n105 Tryz.prog QK where
 mixed:=by kernel_rfl
 f99:=Tryz.func114.trans (congrArg some (by kernel_rfl))
 f105:=Tryz.func268.trans (congrArg some (by kernel_rfl))
 f165:=Tryz.func308.trans (congrArg some (by kernel_rfl))
 f166:=Tryz.func62.trans (congrArg some (by kernel_rfl))
 f169:=Tryz.func67.trans (congrArg some (by kernel_rfl))
 f170:=Tryz.func309.trans (congrArg some (by kernel_rfl))
 f206:=Tryz.func186.trans (congrArg some (by kernel_rfl))
 f212:=Tryz.func273.trans (congrArg some (by kernel_rfl))
 f240:=Tryz.func122.trans (congrArg some (by kernel_rfl))
 f241:=Tryz.func333.trans (congrArg some (by kernel_rfl))
 f263:=Tryz.func313.trans (congrArg some (by kernel_rfl))
 f264:=Tryz.func314.trans (congrArg some (by kernel_rfl))
 f276:=Tryz.func190.trans (congrArg some (by kernel_rfl))
 f277:=Tryz.func351.trans (congrArg some (by kernel_rfl))
 t0:=Tryz.underlying0
 a0:=Tryz.isAgg0
 z0:=Tryz.sizeOf0
 v0:=Tryz.zeroValue0
 t3:=Tryz.underlying3
 a3:=Tryz.isAgg3
 z3:=Tryz.sizeOf3
 v3:=Tryz.zeroValue3
 t4:=Tryz.underlying4
 a4:=Tryz.isAgg4
 z4:=Tryz.sizeOf4
 v4:=Tryz.zeroValue4
 t5:=Tryz.underlying5
 a5:=Tryz.isAgg5
 z5:=Tryz.sizeOf5
 v5:=Tryz.zeroValue5
 t9:=Tryz.underlying9
 a9:=Tryz.isAgg9
 z9:=Tryz.sizeOf9
 v9:=Tryz.zeroValue9
 t20:=Tryz.underlying20
 a20:=Tryz.isAgg20
 z20:=Tryz.sizeOf20
 v20:=Tryz.zeroValue20
 t37:=Tryz.underlying93
 a37:=Tryz.isAgg93
 z37:=Tryz.sizeOf93
 v37:=Tryz.zeroValue93
 t46:=Tryz.underlying151
 a46:=Tryz.isAgg151
 z46:=Tryz.sizeOf151
 v46:=Tryz.zeroValue151
 t51:=Tryz.underlying250
 a51:=Tryz.isAgg250
 z51:=Tryz.sizeOf250
 v51:=Tryz.zeroValue250
 t53:=Tryz.underlying252
 a53:=Tryz.isAgg252
 z53:=Tryz.sizeOf252
 v53:=Tryz.zeroValue252
 t70:=Tryz.underlying92
 a70:=Tryz.isAgg92
 z70:=Tryz.sizeOf92
 v70:=Tryz.zeroValue92
 t72:=Tryz.underlying95
 a72:=Tryz.isAgg95
 z72:=Tryz.sizeOf95
 v72:=Tryz.zeroValue95
 t75:=Tryz.underlying97
 a75:=Tryz.isAgg97
 z75:=Tryz.sizeOf97
 v75:=Tryz.zeroValue97
 t76:=Tryz.underlying98
 a76:=Tryz.isAgg98
 z76:=Tryz.sizeOf98
 v76:=Tryz.zeroValue98
 t109:=Tryz.underlying300
 a109:=Tryz.isAgg300
 z109:=Tryz.sizeOf300
 v109:=Tryz.zeroValue300
 t127:=Tryz.underlying183
 a127:=Tryz.isAgg183
 z127:=Tryz.sizeOf183
 v127:=Tryz.zeroValue183
 t146:=Tryz.underlying337
 a146:=Tryz.isAgg337
 z146:=Tryz.sizeOf337
 v146:=Tryz.zeroValue337
 t148:=Tryz.underlying339
 a148:=Tryz.isAgg339
 z148:=Tryz.sizeOf339
 v148:=Tryz.zeroValue339
 t164:=Tryz.underlying218
 a164:=Tryz.isAgg218
 z164:=Tryz.sizeOf218
 v164:=Tryz.zeroValue218
theorem QL:Builder.Extra Tryz.prog QK where
 sizeBuilder:=by kernel_rfl
 liesBuilder:=by kernel_rfl
 t5:=Tryz.underlying5
 a5:=Tryz.isAgg5
 z5:=Tryz.sizeOf5
 v5:=Tryz.zeroValue5
 infoByte:=by kernel_rfl
 cellsByte:=by kernel_rfl
 sizeByte:=by kernel_rfl
 neB5:=by decide
theorem ac1:uj Tryz.prog 268 0:=by
 refine⟨fun _ s c w h0 h1 h2=>?_,fun h=>absurd rfl h⟩
 obtain⟨n,rfl⟩:=Int.eq_ofNat_of_zero_le h0
 have h2:s.size*n≤140737488355328:=h2
 refine(Go.Proofs.Any.strings_Repeat Uk QL s n w (by omega) h2).mono fun r w' hr=>?_
 exact⟨hr.1,⟨hr.2.os,hr.2.tape,hr.2.output,hr.2.size,hr.2.block⟩⟩
def ag:FuncId→List Nat:=Ou [(6,[1,0]),(20,[0,0]),(23,[1]),(24,[0]),(34,[0,0,0,0]),(40,[0,0,0,0,0]),(66,[1,0]),(67,[78,5]),(71,[2,0]),(76,[0,5]),(83,[1,0,0]),(84,[2]),(86,[2]),(91,[0,0]),(106,[2]),(112,[2]),(113,[2,0]),(116,[2]),(130,[0,5,5]),(141,[1,0]),(142,[1]),(143,[1,0,0,0]),(144,[1,0,0]),(152,[0,0]),(170,[0,5]),(185,[2,0]),(190,[77]),(193,[2]),(198,[0,0,5]),(207,[0,0,0]),(209,[0,5,5,5]),(212,[1,0]),(219,[0,5,5]),(231,[4]),(238,[0,0,1,0]),(240,[0,0,0,1]),(243,[0,0,0,0,0,4]),(252,[0,0,0,0]),(265,[1]),(268,[78,0]),(285,[2]),(288,[0,5,5]),(289,[1,1]),(290,[0,0,0]),(305,[2]),(315,[2,0,0,0,0]),(322,[0,5,5,5]),(324,[2]),(325,[2]),(330,[2]),(342,[1]),(353,[1,0,0]),(364,[2]),(376,[0,0]),(379,[3,0]),(383,[1]),(384,[4,0]),(385,[0,0]),(388,[3,0]),(389,[4,0,0]),(391,[4,0,0,0]),(392,[4,0,0,0,0]),(393,[4,0,0,0,0]),(394,[4,0,0,0,0])]
theorem ap:CM Tryz.prog ag:=⟨rfl,by kernel_rfl,ad0 190 (by decide +kernel) Tryz.func190 (by decide +kernel) (by decide +kernel) (by kernel_rfl) (by kernel_rfl),Ud 67 5 268 0 (by decide +kernel) Tryz.func67 (by decide +kernel) (by decide +kernel) av1 Tryz.func268 (by decide +kernel) (by decide +kernel) ac1⟩
@[reducible] def s78:SP:=⟨[],[]⟩
noncomputable def at5 (N:Nat):List (Nat×(Pk→Tr Pk)):=[]
theorem Qn (N:Nat):ai Tryz.prog (at5 N):=trivial
@[reducible] def w78:List SP:=[⟨[.agg [.int .i64,.int .i64,.bool,.bool,.int .i64,.int .i64,.int .i64,.int .i64,.int .i64,.int .i64]],[]⟩]
noncomputable def X4 (N:Nat):(Unit)→Option (Int×Int×Bool×Bool×Int×Int×Int×Int×Int×Int)
 | () =>
 some (((8:Int),(8:Int),false,true,(7:Int),(7:Int),(3:Int),(0:Int),(3:Int),(6:Int)))
noncomputable def T78 (N:Nat):Pk→Tr Pk:=ah s78 w78 (X4 N)
theorem ag7 (N:Nat):aA Tryz.prog (78) (T78 N) :=
 (af ag ap (Qn N) Tryz.func78 s78 w78 [] (cuts:=[]) trivial (fun _=>by kernel_rfl) (by decide +kernel) (X4 N) (fun x=>by kernel_rfl))
@[reducible] def y0:Ty:=(.cons (.int .i64) (.cons (.int .i64) .unit))
@[reducible] def s95:SP:=⟨[.agg [.int .i64,.int .i64,.bool,.bool,.int .i64,.int .i64,.int .i64,.int .i64,.int .i64,.int .i64]],[]⟩
noncomputable def ar9 (N:Nat):List (Nat×(Pk→Tr Pk)):=[]
theorem Qg (N:Nat):ai Tryz.prog (ar9 N):=trivial
@[reducible] def w95:List SP:=[⟨[.arr y0 3],[]⟩]
noncomputable def TP (N:Nat):(Int×Int×Bool×Bool×Int×Int×Int×Int×Int×Int)→Option ((List (Int×(Int×Unit))))
 | (x0,x1,x2,x3,x4,x5,x6,x7,x8,x9) =>
 some ([(x4,x7,()),(x5,x8,()),(x6,x9,())])
noncomputable def T95 (N:Nat):Pk→Tr Pk:=ah s95 w95 (TP N)
theorem AW (N:Nat):aA Tryz.prog (95) (T95 N) :=
 (af ag ap (Qg N) Tryz.func95 s95 w95 [] (cuts:=[]) trivial (fun _=>by kernel_rfl) (by decide +kernel) (TP N) (fun x=>by kernel_rfl))
@[reducible] def s227:SP:=⟨[.int .u64],[]⟩
noncomputable def ZC (N:Nat):List (Nat×(Pk→Tr Pk)):=[]
theorem NI (N:Nat):ai Tryz.prog (ZC N):=trivial
@[reducible] def w227:List SP:=[⟨[.int .i64],[]⟩]
noncomputable def ao6 (N:Nat):(Int)→Option (Int)
 | x0 =>
 ac (decide (x0≥(4294967296:Int))) (
  ac (decide (Int.fdiv x0 (4294967296:Int)≥(65536:Int))) (
   ac (decide (Int.fdiv (Int.fdiv x0 (4294967296:Int)) (65536:Int)≥(256:Int))) (
    ac (decide ((0:Int)≤IntKind.wrap IntKind.u8 (Int.fdiv (Int.fdiv (Int.fdiv x0 (4294967296:Int)) (65536:Int)) (256:Int)))) (
     Option.bind ((ByteArray.mk #[(0:UInt8),(1:UInt8),(2:UInt8),(2:UInt8),(3:UInt8),(3:UInt8),(3:UInt8),(3:UInt8),(4:UInt8),(4:UInt8),(4:UInt8),(4:UInt8),(4:UInt8),(4:UInt8),(4:UInt8),(4:UInt8),(5:UInt8),(5:UInt8),(5:UInt8),(5:UInt8),(5:UInt8),(5:UInt8),(5:UInt8),(5:UInt8),(5:UInt8),(5:UInt8),(5:UInt8),(5:UInt8),(5:UInt8),(5:UInt8),(5:UInt8),(5:UInt8),(6:UInt8),(6:UInt8),(6:UInt8),(6:UInt8),(6:UInt8),(6:UInt8),(6:UInt8),(6:UInt8),(6:UInt8),(6:UInt8),(6:UInt8),(6:UInt8),(6:UInt8),(6:UInt8),(6:UInt8),(6:UInt8),(6:UInt8),(6:UInt8),(6:UInt8),(6:UInt8),(6:UInt8),(6:UInt8),(6:UInt8),(6:UInt8),(6:UInt8),(6:UInt8),(6:UInt8),(6:UInt8),(6:UInt8),(6:UInt8),(6:UInt8),(6:UInt8),(7:UInt8),(7:UInt8),(7:UInt8),(7:UInt8),(7:UInt8),(7:UInt8),(7:UInt8),(7:UInt8),(7:UInt8),(7:UInt8),(7:UInt8),(7:UInt8),(7:UInt8),(7:UInt8),(7:UInt8),(7:UInt8),(7:UInt8),(7:UInt8),(7:UInt8),(7:UInt8),(7:UInt8),(7:UInt8),(7:UInt8),(7:UInt8),(7:UInt8),(7:UInt8),(7:UInt8),(7:UInt8),(7:UInt8),(7:UInt8),(7:UInt8),(7:UInt8),(7:UInt8),(7:UInt8),(7:UInt8),(7:UInt8),(7:UInt8),(7:UInt8),(7:UInt8),(7:UInt8),(7:UInt8),(7:UInt8),(7:UInt8),(7:UInt8),(7:UInt8),(7:UInt8),(7:UInt8),(7:UInt8),(7:UInt8),(7:UInt8),(7:UInt8),(7:UInt8),(7:UInt8),(7:UInt8),(7:UInt8),(7:UInt8),(7:UInt8),(7:UInt8),(7:UInt8),(7:UInt8),(7:UInt8),(7:UInt8),(7:UInt8),(7:UInt8),(8:UInt8),(8:UInt8),(8:UInt8),(8:UInt8),(8:UInt8),(8:UInt8),(8:UInt8),(8:UInt8),(8:UInt8),(8:UInt8),(8:UInt8),(8:UInt8),(8:UInt8),(8:UInt8),(8:UInt8),(8:UInt8),(8:UInt8),(8:UInt8),(8:UInt8),(8:UInt8),(8:UInt8),(8:UInt8),(8:UInt8),(8:UInt8),(8:UInt8),(8:UInt8),(8:UInt8),(8:UInt8),(8:UInt8),(8:UInt8),(8:UInt8),(8:UInt8),(8:UInt8),(8:UInt8),(8:UInt8),(8:UInt8),(8:UInt8),(8:UInt8),(8:UInt8),(8:UInt8),(8:UInt8),(8:UInt8),(8:UInt8),(8:UInt8),(8:UInt8),(8:UInt8),(8:UInt8),(8:UInt8),(8:UInt8),(8:UInt8),(8:UInt8),(8:UInt8),(8:UInt8),(8:UInt8),(8:UInt8),(8:UInt8),(8:UInt8),(8:UInt8),(8:UInt8),(8:UInt8),(8:UInt8),(8:UInt8),(8:UInt8),(8:UInt8),(8:UInt8),(8:UInt8),(8:UInt8),(8:UInt8),(8:UInt8),(8:UInt8),(8:UInt8),(8:UInt8),(8:UInt8),(8:UInt8),(8:UInt8),(8:UInt8),(8:UInt8),(8:UInt8),(8:UInt8),(8:UInt8),(8:UInt8),(8:UInt8),(8:UInt8),(8:UInt8),(8:UInt8),(8:UInt8),(8:UInt8),(8:UInt8),(8:UInt8),(8:UInt8),(8:UInt8),(8:UInt8),(8:UInt8),(8:UInt8),(8:UInt8),(8:UInt8),(8:UInt8),(8:UInt8),(8:UInt8),(8:UInt8),(8:UInt8),(8:UInt8),(8:UInt8),(8:UInt8),(8:UInt8),(8:UInt8),(8:UInt8),(8:UInt8),(8:UInt8),(8:UInt8),(8:UInt8),(8:UInt8),(8:UInt8),(8:UInt8),(8:UInt8),(8:UInt8),(8:UInt8),(8:UInt8),(8:UInt8),(8:UInt8),(8:UInt8),(8:UInt8),(8:UInt8),(8:UInt8),(8:UInt8),(8:UInt8),(8:UInt8),(8:UInt8)])[Int.toNat (IntKind.wrap IntKind.u8 (Int.fdiv (Int.fdiv (Int.fdiv x0 (4294967296:Int)) (65536:Int)) (256:Int)))]?) fun y0 =>
     some (IntKind.wrap IntKind.i64 ((56:Int)+IntKind.wrap IntKind.i64 (↑(UInt8.toNat y0):Int)))) (
     none )) (
    ac (decide ((0:Int)≤IntKind.wrap IntKind.u8 (Int.fdiv (Int.fdiv x0 (4294967296:Int)) (65536:Int)))) (
     Option.bind ((ByteArray.mk #[(0:UInt8),(1:UInt8),(2:UInt8),(2:UInt8),(3:UInt8),(3:UInt8),(3:UInt8),(3:UInt8),(4:UInt8),(4:UInt8),(4:UInt8),(4:UInt8),(4:UInt8),(4:UInt8),(4:UInt8),(4:UInt8),(5:UInt8),(5:UInt8),(5:UInt8),(5:UInt8),(5:UInt8),(5:UInt8),(5:UInt8),(5:UInt8),(5:UInt8),(5:UInt8),(5:UInt8),(5:UInt8),(5:UInt8),(5:UInt8),(5:UInt8),(5:UInt8),(6:UInt8),(6:UInt8),(6:UInt8),(6:UInt8),(6:UInt8),(6:UInt8),(6:UInt8),(6:UInt8),(6:UInt8),(6:UInt8),(6:UInt8),(6:UInt8),(6:UInt8),(6:UInt8),(6:UInt8),(6:UInt8),(6:UInt8),(6:UInt8),(6:UInt8),(6:UInt8),(6:UInt8),(6:UInt8),(6:UInt8),(6:UInt8),(6:UInt8),(6:UInt8),(6:UInt8),(6:UInt8),(6:UInt8),(6:UInt8),(6:UInt8),(6:UInt8),(7:UInt8),(7:UInt8),(7:UInt8),(7:UInt8),(7:UInt8),(7:UInt8),(7:UInt8),(7:UInt8),(7:UInt8),(7:UInt8),(7:UInt8),(7:UInt8),(7:UInt8),(7:UInt8),(7:UInt8),(7:UInt8),(7:UInt8),(7:UInt8),(7:UInt8),(7:UInt8),(7:UInt8),(7:UInt8),(7:UInt8),(7:UInt8),(7:UInt8),(7:UInt8),(7:UInt8),(7:UInt8),(7:UInt8),(7:UInt8),(7:UInt8),(7:UInt8),(7:UInt8),(7:UInt8),(7:UInt8),(7:UInt8),(7:UInt8),(7:UInt8),(7:UInt8),(7:UInt8),(7:UInt8),(7:UInt8),(7:UInt8),(7:UInt8),(7:UInt8),(7:UInt8),(7:UInt8),(7:UInt8),(7:UInt8),(7:UInt8),(7:UInt8),(7:UInt8),(7:UInt8),(7:UInt8),(7:UInt8),(7:UInt8),(7:UInt8),(7:UInt8),(7:UInt8),(7:UInt8),(7:UInt8),(7:UInt8),(7:UInt8),(7:UInt8),(8:UInt8),(8:UInt8),(8:UInt8),(8:UInt8),(8:UInt8),(8:UInt8),(8:UInt8),(8:UInt8),(8:UInt8),(8:UInt8),(8:UInt8),(8:UInt8),(8:UInt8),(8:UInt8),(8:UInt8),(8:UInt8),(8:UInt8),(8:UInt8),(8:UInt8),(8:UInt8),(8:UInt8),(8:UInt8),(8:UInt8),(8:UInt8),(8:UInt8),(8:UInt8),(8:UInt8),(8:UInt8),(8:UInt8),(8:UInt8),(8:UInt8),(8:UInt8),(8:UInt8),(8:UInt8),(8:UInt8),(8:UInt8),(8:UInt8),(8:UInt8),(8:UInt8),(8:UInt8),(8:UInt8),(8:UInt8),(8:UInt8),(8:UInt8),(8:UInt8),(8:UInt8),(8:UInt8),(8:UInt8),(8:UInt8),(8:UInt8),(8:UInt8),(8:UInt8),(8:UInt8),(8:UInt8),(8:UInt8),(8:UInt8),(8:UInt8),(8:UInt8),(8:UInt8),(8:UInt8),(8:UInt8),(8:UInt8),(8:UInt8),(8:UInt8),(8:UInt8),(8:UInt8),(8:UInt8),(8:UInt8),(8:UInt8),(8:UInt8),(8:UInt8),(8:UInt8),(8:UInt8),(8:UInt8),(8:UInt8),(8:UInt8),(8:UInt8),(8:UInt8),(8:UInt8),(8:UInt8),(8:UInt8),(8:UInt8),(8:UInt8),(8:UInt8),(8:UInt8),(8:UInt8),(8:UInt8),(8:UInt8),(8:UInt8),(8:UInt8),(8:UInt8),(8:UInt8),(8:UInt8),(8:UInt8),(8:UInt8),(8:UInt8),(8:UInt8),(8:UInt8),(8:UInt8),(8:UInt8),(8:UInt8),(8:UInt8),(8:UInt8),(8:UInt8),(8:UInt8),(8:UInt8),(8:UInt8),(8:UInt8),(8:UInt8),(8:UInt8),(8:UInt8),(8:UInt8),(8:UInt8),(8:UInt8),(8:UInt8),(8:UInt8),(8:UInt8),(8:UInt8),(8:UInt8),(8:UInt8),(8:UInt8),(8:UInt8),(8:UInt8),(8:UInt8),(8:UInt8),(8:UInt8),(8:UInt8),(8:UInt8)])[Int.toNat (IntKind.wrap IntKind.u8 (Int.fdiv (Int.fdiv x0 (4294967296:Int)) (65536:Int)))]?) fun y1 =>
     some (IntKind.wrap IntKind.i64 ((48:Int)+IntKind.wrap IntKind.i64 (↑(UInt8.toNat y1):Int)))) (
     none ))) (
   ac (decide (Int.fdiv x0 (4294967296:Int)≥(256:Int))) (
    ac (decide ((0:Int)≤IntKind.wrap IntKind.u8 (Int.fdiv (Int.fdiv x0 (4294967296:Int)) (256:Int)))) (
     Option.bind ((ByteArray.mk #[(0:UInt8),(1:UInt8),(2:UInt8),(2:UInt8),(3:UInt8),(3:UInt8),(3:UInt8),(3:UInt8),(4:UInt8),(4:UInt8),(4:UInt8),(4:UInt8),(4:UInt8),(4:UInt8),(4:UInt8),(4:UInt8),(5:UInt8),(5:UInt8),(5:UInt8),(5:UInt8),(5:UInt8),(5:UInt8),(5:UInt8),(5:UInt8),(5:UInt8),(5:UInt8),(5:UInt8),(5:UInt8),(5:UInt8),(5:UInt8),(5:UInt8),(5:UInt8),(6:UInt8),(6:UInt8),(6:UInt8),(6:UInt8),(6:UInt8),(6:UInt8),(6:UInt8),(6:UInt8),(6:UInt8),(6:UInt8),(6:UInt8),(6:UInt8),(6:UInt8),(6:UInt8),(6:UInt8),(6:UInt8),(6:UInt8),(6:UInt8),(6:UInt8),(6:UInt8),(6:UInt8),(6:UInt8),(6:UInt8),(6:UInt8),(6:UInt8),(6:UInt8),(6:UInt8),(6:UInt8),(6:UInt8),(6:UInt8),(6:UInt8),(6:UInt8),(7:UInt8),(7:UInt8),(7:UInt8),(7:UInt8),(7:UInt8),(7:UInt8),(7:UInt8),(7:UInt8),(7:UInt8),(7:UInt8),(7:UInt8),(7:UInt8),(7:UInt8),(7:UInt8),(7:UInt8),(7:UInt8),(7:UInt8),(7:UInt8),(7:UInt8),(7:UInt8),(7:UInt8),(7:UInt8),(7:UInt8),(7:UInt8),(7:UInt8),(7:UInt8),(7:UInt8),(7:UInt8),(7:UInt8),(7:UInt8),(7:UInt8),(7:UInt8),(7:UInt8),(7:UInt8),(7:UInt8),(7:UInt8),(7:UInt8),(7:UInt8),(7:UInt8),(7:UInt8),(7:UInt8),(7:UInt8),(7:UInt8),(7:UInt8),(7:UInt8),(7:UInt8),(7:UInt8),(7:UInt8),(7:UInt8),(7:UInt8),(7:UInt8),(7:UInt8),(7:UInt8),(7:UInt8),(7:UInt8),(7:UInt8),(7:UInt8),(7:UInt8),(7:UInt8),(7:UInt8),(7:UInt8),(7:UInt8),(7:UInt8),(7:UInt8),(8:UInt8),(8:UInt8),(8:UInt8),(8:UInt8),(8:UInt8),(8:UInt8),(8:UInt8),(8:UInt8),(8:UInt8),(8:UInt8),(8:UInt8),(8:UInt8),(8:UInt8),(8:UInt8),(8:UInt8),(8:UInt8),(8:UInt8),(8:UInt8),(8:UInt8),(8:UInt8),(8:UInt8),(8:UInt8),(8:UInt8),(8:UInt8),(8:UInt8),(8:UInt8),(8:UInt8),(8:UInt8),(8:UInt8),(8:UInt8),(8:UInt8),(8:UInt8),(8:UInt8),(8:UInt8),(8:UInt8),(8:UInt8),(8:UInt8),(8:UInt8),(8:UInt8),(8:UInt8),(8:UInt8),(8:UInt8),(8:UInt8),(8:UInt8),(8:UInt8),(8:UInt8),(8:UInt8),(8:UInt8),(8:UInt8),(8:UInt8),(8:UInt8),(8:UInt8),(8:UInt8),(8:UInt8),(8:UInt8),(8:UInt8),(8:UInt8),(8:UInt8),(8:UInt8),(8:UInt8),(8:UInt8),(8:UInt8),(8:UInt8),(8:UInt8),(8:UInt8),(8:UInt8),(8:UInt8),(8:UInt8),(8:UInt8),(8:UInt8),(8:UInt8),(8:UInt8),(8:UInt8),(8:UInt8),(8:UInt8),(8:UInt8),(8:UInt8),(8:UInt8),(8:UInt8),(8:UInt8),(8:UInt8),(8:UInt8),(8:UInt8),(8:UInt8),(8:UInt8),(8:UInt8),(8:UInt8),(8:UInt8),(8:UInt8),(8:UInt8),(8:UInt8),(8:UInt8),(8:UInt8),(8:UInt8),(8:UInt8),(8:UInt8),(8:UInt8),(8:UInt8),(8:UInt8),(8:UInt8),(8:UInt8),(8:UInt8),(8:UInt8),(8:UInt8),(8:UInt8),(8:UInt8),(8:UInt8),(8:UInt8),(8:UInt8),(8:UInt8),(8:UInt8),(8:UInt8),(8:UInt8),(8:UInt8),(8:UInt8),(8:UInt8),(8:UInt8),(8:UInt8),(8:UInt8),(8:UInt8),(8:UInt8),(8:UInt8),(8:UInt8),(8:UInt8),(8:UInt8),(8:UInt8),(8:UInt8),(8:UInt8)])[Int.toNat (IntKind.wrap IntKind.u8 (Int.fdiv (Int.fdiv x0 (4294967296:Int)) (256:Int)))]?) fun y2 =>
     some (IntKind.wrap IntKind.i64 ((40:Int)+IntKind.wrap IntKind.i64 (↑(UInt8.toNat y2):Int)))) (
     none )) (
    ac (decide ((0:Int)≤IntKind.wrap IntKind.u8 (Int.fdiv x0 (4294967296:Int)))) (
     Option.bind ((ByteArray.mk #[(0:UInt8),(1:UInt8),(2:UInt8),(2:UInt8),(3:UInt8),(3:UInt8),(3:UInt8),(3:UInt8),(4:UInt8),(4:UInt8),(4:UInt8),(4:UInt8),(4:UInt8),(4:UInt8),(4:UInt8),(4:UInt8),(5:UInt8),(5:UInt8),(5:UInt8),(5:UInt8),(5:UInt8),(5:UInt8),(5:UInt8),(5:UInt8),(5:UInt8),(5:UInt8),(5:UInt8),(5:UInt8),(5:UInt8),(5:UInt8),(5:UInt8),(5:UInt8),(6:UInt8),(6:UInt8),(6:UInt8),(6:UInt8),(6:UInt8),(6:UInt8),(6:UInt8),(6:UInt8),(6:UInt8),(6:UInt8),(6:UInt8),(6:UInt8),(6:UInt8),(6:UInt8),(6:UInt8),(6:UInt8),(6:UInt8),(6:UInt8),(6:UInt8),(6:UInt8),(6:UInt8),(6:UInt8),(6:UInt8),(6:UInt8),(6:UInt8),(6:UInt8),(6:UInt8),(6:UInt8),(6:UInt8),(6:UInt8),(6:UInt8),(6:UInt8),(7:UInt8),(7:UInt8),(7:UInt8),(7:UInt8),(7:UInt8),(7:UInt8),(7:UInt8),(7:UInt8),(7:UInt8),(7:UInt8),(7:UInt8),(7:UInt8),(7:UInt8),(7:UInt8),(7:UInt8),(7:UInt8),(7:UInt8),(7:UInt8),(7:UInt8),(7:UInt8),(7:UInt8),(7:UInt8),(7:UInt8),(7:UInt8),(7:UInt8),(7:UInt8),(7:UInt8),(7:UInt8),(7:UInt8),(7:UInt8),(7:UInt8),(7:UInt8),(7:UInt8),(7:UInt8),(7:UInt8),(7:UInt8),(7:UInt8),(7:UInt8),(7:UInt8),(7:UInt8),(7:UInt8),(7:UInt8),(7:UInt8),(7:UInt8),(7:UInt8),(7:UInt8),(7:UInt8),(7:UInt8),(7:UInt8),(7:UInt8),(7:UInt8),(7:UInt8),(7:UInt8),(7:UInt8),(7:UInt8),(7:UInt8),(7:UInt8),(7:UInt8),(7:UInt8),(7:UInt8),(7:UInt8),(7:UInt8),(7:UInt8),(7:UInt8),(8:UInt8),(8:UInt8),(8:UInt8),(8:UInt8),(8:UInt8),(8:UInt8),(8:UInt8),(8:UInt8),(8:UInt8),(8:UInt8),(8:UInt8),(8:UInt8),(8:UInt8),(8:UInt8),(8:UInt8),(8:UInt8),(8:UInt8),(8:UInt8),(8:UInt8),(8:UInt8),(8:UInt8),(8:UInt8),(8:UInt8),(8:UInt8),(8:UInt8),(8:UInt8),(8:UInt8),(8:UInt8),(8:UInt8),(8:UInt8),(8:UInt8),(8:UInt8),(8:UInt8),(8:UInt8),(8:UInt8),(8:UInt8),(8:UInt8),(8:UInt8),(8:UInt8),(8:UInt8),(8:UInt8),(8:UInt8),(8:UInt8),(8:UInt8),(8:UInt8),(8:UInt8),(8:UInt8),(8:UInt8),(8:UInt8),(8:UInt8),(8:UInt8),(8:UInt8),(8:UInt8),(8:UInt8),(8:UInt8),(8:UInt8),(8:UInt8),(8:UInt8),(8:UInt8),(8:UInt8),(8:UInt8),(8:UInt8),(8:UInt8),(8:UInt8),(8:UInt8),(8:UInt8),(8:UInt8),(8:UInt8),(8:UInt8),(8:UInt8),(8:UInt8),(8:UInt8),(8:UInt8),(8:UInt8),(8:UInt8),(8:UInt8),(8:UInt8),(8:UInt8),(8:UInt8),(8:UInt8),(8:UInt8),(8:UInt8),(8:UInt8),(8:UInt8),(8:UInt8),(8:UInt8),(8:UInt8),(8:UInt8),(8:UInt8),(8:UInt8),(8:UInt8),(8:UInt8),(8:UInt8),(8:UInt8),(8:UInt8),(8:UInt8),(8:UInt8),(8:UInt8),(8:UInt8),(8:UInt8),(8:UInt8),(8:UInt8),(8:UInt8),(8:UInt8),(8:UInt8),(8:UInt8),(8:UInt8),(8:UInt8),(8:UInt8),(8:UInt8),(8:UInt8),(8:UInt8),(8:UInt8),(8:UInt8),(8:UInt8),(8:UInt8),(8:UInt8),(8:UInt8),(8:UInt8),(8:UInt8),(8:UInt8),(8:UInt8),(8:UInt8),(8:UInt8),(8:UInt8),(8:UInt8),(8:UInt8),(8:UInt8)])[Int.toNat (IntKind.wrap IntKind.u8 (Int.fdiv x0 (4294967296:Int)))]?) fun y3 =>
     some (IntKind.wrap IntKind.i64 ((32:Int)+IntKind.wrap IntKind.i64 (↑(UInt8.toNat y3):Int)))) (
     none )))) (
  ac (decide (x0≥(65536:Int))) (
   ac (decide (Int.fdiv x0 (65536:Int)≥(256:Int))) (
    ac (decide ((0:Int)≤IntKind.wrap IntKind.u8 (Int.fdiv (Int.fdiv x0 (65536:Int)) (256:Int)))) (
     Option.bind ((ByteArray.mk #[(0:UInt8),(1:UInt8),(2:UInt8),(2:UInt8),(3:UInt8),(3:UInt8),(3:UInt8),(3:UInt8),(4:UInt8),(4:UInt8),(4:UInt8),(4:UInt8),(4:UInt8),(4:UInt8),(4:UInt8),(4:UInt8),(5:UInt8),(5:UInt8),(5:UInt8),(5:UInt8),(5:UInt8),(5:UInt8),(5:UInt8),(5:UInt8),(5:UInt8),(5:UInt8),(5:UInt8),(5:UInt8),(5:UInt8),(5:UInt8),(5:UInt8),(5:UInt8),(6:UInt8),(6:UInt8),(6:UInt8),(6:UInt8),(6:UInt8),(6:UInt8),(6:UInt8),(6:UInt8),(6:UInt8),(6:UInt8),(6:UInt8),(6:UInt8),(6:UInt8),(6:UInt8),(6:UInt8),(6:UInt8),(6:UInt8),(6:UInt8),(6:UInt8),(6:UInt8),(6:UInt8),(6:UInt8),(6:UInt8),(6:UInt8),(6:UInt8),(6:UInt8),(6:UInt8),(6:UInt8),(6:UInt8),(6:UInt8),(6:UInt8),(6:UInt8),(7:UInt8),(7:UInt8),(7:UInt8),(7:UInt8),(7:UInt8),(7:UInt8),(7:UInt8),(7:UInt8),(7:UInt8),(7:UInt8),(7:UInt8),(7:UInt8),(7:UInt8),(7:UInt8),(7:UInt8),(7:UInt8),(7:UInt8),(7:UInt8),(7:UInt8),(7:UInt8),(7:UInt8),(7:UInt8),(7:UInt8),(7:UInt8),(7:UInt8),(7:UInt8),(7:UInt8),(7:UInt8),(7:UInt8),(7:UInt8),(7:UInt8),(7:UInt8),(7:UInt8),(7:UInt8),(7:UInt8),(7:UInt8),(7:UInt8),(7:UInt8),(7:UInt8),(7:UInt8),(7:UInt8),(7:UInt8),(7:UInt8),(7:UInt8),(7:UInt8),(7:UInt8),(7:UInt8),(7:UInt8),(7:UInt8),(7:UInt8),(7:UInt8),(7:UInt8),(7:UInt8),(7:UInt8),(7:UInt8),(7:UInt8),(7:UInt8),(7:UInt8),(7:UInt8),(7:UInt8),(7:UInt8),(7:UInt8),(7:UInt8),(7:UInt8),(8:UInt8),(8:UInt8),(8:UInt8),(8:UInt8),(8:UInt8),(8:UInt8),(8:UInt8),(8:UInt8),(8:UInt8),(8:UInt8),(8:UInt8),(8:UInt8),(8:UInt8),(8:UInt8),(8:UInt8),(8:UInt8),(8:UInt8),(8:UInt8),(8:UInt8),(8:UInt8),(8:UInt8),(8:UInt8),(8:UInt8),(8:UInt8),(8:UInt8),(8:UInt8),(8:UInt8),(8:UInt8),(8:UInt8),(8:UInt8),(8:UInt8),(8:UInt8),(8:UInt8),(8:UInt8),(8:UInt8),(8:UInt8),(8:UInt8),(8:UInt8),(8:UInt8),(8:UInt8),(8:UInt8),(8:UInt8),(8:UInt8),(8:UInt8),(8:UInt8),(8:UInt8),(8:UInt8),(8:UInt8),(8:UInt8),(8:UInt8),(8:UInt8),(8:UInt8),(8:UInt8),(8:UInt8),(8:UInt8),(8:UInt8),(8:UInt8),(8:UInt8),(8:UInt8),(8:UInt8),(8:UInt8),(8:UInt8),(8:UInt8),(8:UInt8),(8:UInt8),(8:UInt8),(8:UInt8),(8:UInt8),(8:UInt8),(8:UInt8),(8:UInt8),(8:UInt8),(8:UInt8),(8:UInt8),(8:UInt8),(8:UInt8),(8:UInt8),(8:UInt8),(8:UInt8),(8:UInt8),(8:UInt8),(8:UInt8),(8:UInt8),(8:UInt8),(8:UInt8),(8:UInt8),(8:UInt8),(8:UInt8),(8:UInt8),(8:UInt8),(8:UInt8),(8:UInt8),(8:UInt8),(8:UInt8),(8:UInt8),(8:UInt8),(8:UInt8),(8:UInt8),(8:UInt8),(8:UInt8),(8:UInt8),(8:UInt8),(8:UInt8),(8:UInt8),(8:UInt8),(8:UInt8),(8:UInt8),(8:UInt8),(8:UInt8),(8:UInt8),(8:UInt8),(8:UInt8),(8:UInt8),(8:UInt8),(8:UInt8),(8:UInt8),(8:UInt8),(8:UInt8),(8:UInt8),(8:UInt8),(8:UInt8),(8:UInt8),(8:UInt8),(8:UInt8),(8:UInt8),(8:UInt8),(8:UInt8),(8:UInt8)])[Int.toNat (IntKind.wrap IntKind.u8 (Int.fdiv (Int.fdiv x0 (65536:Int)) (256:Int)))]?) fun y4 =>
     some (IntKind.wrap IntKind.i64 ((24:Int)+IntKind.wrap IntKind.i64 (↑(UInt8.toNat y4):Int)))) (
     none )) (
    ac (decide ((0:Int)≤IntKind.wrap IntKind.u8 (Int.fdiv x0 (65536:Int)))) (
     Option.bind ((ByteArray.mk #[(0:UInt8),(1:UInt8),(2:UInt8),(2:UInt8),(3:UInt8),(3:UInt8),(3:UInt8),(3:UInt8),(4:UInt8),(4:UInt8),(4:UInt8),(4:UInt8),(4:UInt8),(4:UInt8),(4:UInt8),(4:UInt8),(5:UInt8),(5:UInt8),(5:UInt8),(5:UInt8),(5:UInt8),(5:UInt8),(5:UInt8),(5:UInt8),(5:UInt8),(5:UInt8),(5:UInt8),(5:UInt8),(5:UInt8),(5:UInt8),(5:UInt8),(5:UInt8),(6:UInt8),(6:UInt8),(6:UInt8),(6:UInt8),(6:UInt8),(6:UInt8),(6:UInt8),(6:UInt8),(6:UInt8),(6:UInt8),(6:UInt8),(6:UInt8),(6:UInt8),(6:UInt8),(6:UInt8),(6:UInt8),(6:UInt8),(6:UInt8),(6:UInt8),(6:UInt8),(6:UInt8),(6:UInt8),(6:UInt8),(6:UInt8),(6:UInt8),(6:UInt8),(6:UInt8),(6:UInt8),(6:UInt8),(6:UInt8),(6:UInt8),(6:UInt8),(7:UInt8),(7:UInt8),(7:UInt8),(7:UInt8),(7:UInt8),(7:UInt8),(7:UInt8),(7:UInt8),(7:UInt8),(7:UInt8),(7:UInt8),(7:UInt8),(7:UInt8),(7:UInt8),(7:UInt8),(7:UInt8),(7:UInt8),(7:UInt8),(7:UInt8),(7:UInt8),(7:UInt8),(7:UInt8),(7:UInt8),(7:UInt8),(7:UInt8),(7:UInt8),(7:UInt8),(7:UInt8),(7:UInt8),(7:UInt8),(7:UInt8),(7:UInt8),(7:UInt8),(7:UInt8),(7:UInt8),(7:UInt8),(7:UInt8),(7:UInt8),(7:UInt8),(7:UInt8),(7:UInt8),(7:UInt8),(7:UInt8),(7:UInt8),(7:UInt8),(7:UInt8),(7:UInt8),(7:UInt8),(7:UInt8),(7:UInt8),(7:UInt8),(7:UInt8),(7:UInt8),(7:UInt8),(7:UInt8),(7:UInt8),(7:UInt8),(7:UInt8),(7:UInt8),(7:UInt8),(7:UInt8),(7:UInt8),(7:UInt8),(7:UInt8),(8:UInt8),(8:UInt8),(8:UInt8),(8:UInt8),(8:UInt8),(8:UInt8),(8:UInt8),(8:UInt8),(8:UInt8),(8:UInt8),(8:UInt8),(8:UInt8),(8:UInt8),(8:UInt8),(8:UInt8),(8:UInt8),(8:UInt8),(8:UInt8),(8:UInt8),(8:UInt8),(8:UInt8),(8:UInt8),(8:UInt8),(8:UInt8),(8:UInt8),(8:UInt8),(8:UInt8),(8:UInt8),(8:UInt8),(8:UInt8),(8:UInt8),(8:UInt8),(8:UInt8),(8:UInt8),(8:UInt8),(8:UInt8),(8:UInt8),(8:UInt8),(8:UInt8),(8:UInt8),(8:UInt8),(8:UInt8),(8:UInt8),(8:UInt8),(8:UInt8),(8:UInt8),(8:UInt8),(8:UInt8),(8:UInt8),(8:UInt8),(8:UInt8),(8:UInt8),(8:UInt8),(8:UInt8),(8:UInt8),(8:UInt8),(8:UInt8),(8:UInt8),(8:UInt8),(8:UInt8),(8:UInt8),(8:UInt8),(8:UInt8),(8:UInt8),(8:UInt8),(8:UInt8),(8:UInt8),(8:UInt8),(8:UInt8),(8:UInt8),(8:UInt8),(8:UInt8),(8:UInt8),(8:UInt8),(8:UInt8),(8:UInt8),(8:UInt8),(8:UInt8),(8:UInt8),(8:UInt8),(8:UInt8),(8:UInt8),(8:UInt8),(8:UInt8),(8:UInt8),(8:UInt8),(8:UInt8),(8:UInt8),(8:UInt8),(8:UInt8),(8:UInt8),(8:UInt8),(8:UInt8),(8:UInt8),(8:UInt8),(8:UInt8),(8:UInt8),(8:UInt8),(8:UInt8),(8:UInt8),(8:UInt8),(8:UInt8),(8:UInt8),(8:UInt8),(8:UInt8),(8:UInt8),(8:UInt8),(8:UInt8),(8:UInt8),(8:UInt8),(8:UInt8),(8:UInt8),(8:UInt8),(8:UInt8),(8:UInt8),(8:UInt8),(8:UInt8),(8:UInt8),(8:UInt8),(8:UInt8),(8:UInt8),(8:UInt8),(8:UInt8),(8:UInt8),(8:UInt8),(8:UInt8),(8:UInt8),(8:UInt8)])[Int.toNat (IntKind.wrap IntKind.u8 (Int.fdiv x0 (65536:Int)))]?) fun y5 =>
     some (IntKind.wrap IntKind.i64 ((16:Int)+IntKind.wrap IntKind.i64 (↑(UInt8.toNat y5):Int)))) (
     none ))) (
   ac (decide (x0≥(256:Int))) (
    ac (decide ((0:Int)≤IntKind.wrap IntKind.u8 (Int.fdiv x0 (256:Int)))) (
     Option.bind ((ByteArray.mk #[(0:UInt8),(1:UInt8),(2:UInt8),(2:UInt8),(3:UInt8),(3:UInt8),(3:UInt8),(3:UInt8),(4:UInt8),(4:UInt8),(4:UInt8),(4:UInt8),(4:UInt8),(4:UInt8),(4:UInt8),(4:UInt8),(5:UInt8),(5:UInt8),(5:UInt8),(5:UInt8),(5:UInt8),(5:UInt8),(5:UInt8),(5:UInt8),(5:UInt8),(5:UInt8),(5:UInt8),(5:UInt8),(5:UInt8),(5:UInt8),(5:UInt8),(5:UInt8),(6:UInt8),(6:UInt8),(6:UInt8),(6:UInt8),(6:UInt8),(6:UInt8),(6:UInt8),(6:UInt8),(6:UInt8),(6:UInt8),(6:UInt8),(6:UInt8),(6:UInt8),(6:UInt8),(6:UInt8),(6:UInt8),(6:UInt8),(6:UInt8),(6:UInt8),(6:UInt8),(6:UInt8),(6:UInt8),(6:UInt8),(6:UInt8),(6:UInt8),(6:UInt8),(6:UInt8),(6:UInt8),(6:UInt8),(6:UInt8),(6:UInt8),(6:UInt8),(7:UInt8),(7:UInt8),(7:UInt8),(7:UInt8),(7:UInt8),(7:UInt8),(7:UInt8),(7:UInt8),(7:UInt8),(7:UInt8),(7:UInt8),(7:UInt8),(7:UInt8),(7:UInt8),(7:UInt8),(7:UInt8),(7:UInt8),(7:UInt8),(7:UInt8),(7:UInt8),(7:UInt8),(7:UInt8),(7:UInt8),(7:UInt8),(7:UInt8),(7:UInt8),(7:UInt8),(7:UInt8),(7:UInt8),(7:UInt8),(7:UInt8),(7:UInt8),(7:UInt8),(7:UInt8),(7:UInt8),(7:UInt8),(7:UInt8),(7:UInt8),(7:UInt8),(7:UInt8),(7:UInt8),(7:UInt8),(7:UInt8),(7:UInt8),(7:UInt8),(7:UInt8),(7:UInt8),(7:UInt8),(7:UInt8),(7:UInt8),(7:UInt8),(7:UInt8),(7:UInt8),(7:UInt8),(7:UInt8),(7:UInt8),(7:UInt8),(7:UInt8),(7:UInt8),(7:UInt8),(7:UInt8),(7:UInt8),(7:UInt8),(7:UInt8),(8:UInt8),(8:UInt8),(8:UInt8),(8:UInt8),(8:UInt8),(8:UInt8),(8:UInt8),(8:UInt8),(8:UInt8),(8:UInt8),(8:UInt8),(8:UInt8),(8:UInt8),(8:UInt8),(8:UInt8),(8:UInt8),(8:UInt8),(8:UInt8),(8:UInt8),(8:UInt8),(8:UInt8),(8:UInt8),(8:UInt8),(8:UInt8),(8:UInt8),(8:UInt8),(8:UInt8),(8:UInt8),(8:UInt8),(8:UInt8),(8:UInt8),(8:UInt8),(8:UInt8),(8:UInt8),(8:UInt8),(8:UInt8),(8:UInt8),(8:UInt8),(8:UInt8),(8:UInt8),(8:UInt8),(8:UInt8),(8:UInt8),(8:UInt8),(8:UInt8),(8:UInt8),(8:UInt8),(8:UInt8),(8:UInt8),(8:UInt8),(8:UInt8),(8:UInt8),(8:UInt8),(8:UInt8),(8:UInt8),(8:UInt8),(8:UInt8),(8:UInt8),(8:UInt8),(8:UInt8),(8:UInt8),(8:UInt8),(8:UInt8),(8:UInt8),(8:UInt8),(8:UInt8),(8:UInt8),(8:UInt8),(8:UInt8),(8:UInt8),(8:UInt8),(8:UInt8),(8:UInt8),(8:UInt8),(8:UInt8),(8:UInt8),(8:UInt8),(8:UInt8),(8:UInt8),(8:UInt8),(8:UInt8),(8:UInt8),(8:UInt8),(8:UInt8),(8:UInt8),(8:UInt8),(8:UInt8),(8:UInt8),(8:UInt8),(8:UInt8),(8:UInt8),(8:UInt8),(8:UInt8),(8:UInt8),(8:UInt8),(8:UInt8),(8:UInt8),(8:UInt8),(8:UInt8),(8:UInt8),(8:UInt8),(8:UInt8),(8:UInt8),(8:UInt8),(8:UInt8),(8:UInt8),(8:UInt8),(8:UInt8),(8:UInt8),(8:UInt8),(8:UInt8),(8:UInt8),(8:UInt8),(8:UInt8),(8:UInt8),(8:UInt8),(8:UInt8),(8:UInt8),(8:UInt8),(8:UInt8),(8:UInt8),(8:UInt8),(8:UInt8),(8:UInt8),(8:UInt8),(8:UInt8),(8:UInt8),(8:UInt8)])[Int.toNat (IntKind.wrap IntKind.u8 (Int.fdiv x0 (256:Int)))]?) fun y6 =>
     some (IntKind.wrap IntKind.i64 ((8:Int)+IntKind.wrap IntKind.i64 (↑(UInt8.toNat y6):Int)))) (
     none )) (
    ac (decide ((0:Int)≤IntKind.wrap IntKind.u8 x0)) (
     Option.bind ((ByteArray.mk #[(0:UInt8),(1:UInt8),(2:UInt8),(2:UInt8),(3:UInt8),(3:UInt8),(3:UInt8),(3:UInt8),(4:UInt8),(4:UInt8),(4:UInt8),(4:UInt8),(4:UInt8),(4:UInt8),(4:UInt8),(4:UInt8),(5:UInt8),(5:UInt8),(5:UInt8),(5:UInt8),(5:UInt8),(5:UInt8),(5:UInt8),(5:UInt8),(5:UInt8),(5:UInt8),(5:UInt8),(5:UInt8),(5:UInt8),(5:UInt8),(5:UInt8),(5:UInt8),(6:UInt8),(6:UInt8),(6:UInt8),(6:UInt8),(6:UInt8),(6:UInt8),(6:UInt8),(6:UInt8),(6:UInt8),(6:UInt8),(6:UInt8),(6:UInt8),(6:UInt8),(6:UInt8),(6:UInt8),(6:UInt8),(6:UInt8),(6:UInt8),(6:UInt8),(6:UInt8),(6:UInt8),(6:UInt8),(6:UInt8),(6:UInt8),(6:UInt8),(6:UInt8),(6:UInt8),(6:UInt8),(6:UInt8),(6:UInt8),(6:UInt8),(6:UInt8),(7:UInt8),(7:UInt8),(7:UInt8),(7:UInt8),(7:UInt8),(7:UInt8),(7:UInt8),(7:UInt8),(7:UInt8),(7:UInt8),(7:UInt8),(7:UInt8),(7:UInt8),(7:UInt8),(7:UInt8),(7:UInt8),(7:UInt8),(7:UInt8),(7:UInt8),(7:UInt8),(7:UInt8),(7:UInt8),(7:UInt8),(7:UInt8),(7:UInt8),(7:UInt8),(7:UInt8),(7:UInt8),(7:UInt8),(7:UInt8),(7:UInt8),(7:UInt8),(7:UInt8),(7:UInt8),(7:UInt8),(7:UInt8),(7:UInt8),(7:UInt8),(7:UInt8),(7:UInt8),(7:UInt8),(7:UInt8),(7:UInt8),(7:UInt8),(7:UInt8),(7:UInt8),(7:UInt8),(7:UInt8),(7:UInt8),(7:UInt8),(7:UInt8),(7:UInt8),(7:UInt8),(7:UInt8),(7:UInt8),(7:UInt8),(7:UInt8),(7:UInt8),(7:UInt8),(7:UInt8),(7:UInt8),(7:UInt8),(7:UInt8),(7:UInt8),(8:UInt8),(8:UInt8),(8:UInt8),(8:UInt8),(8:UInt8),(8:UInt8),(8:UInt8),(8:UInt8),(8:UInt8),(8:UInt8),(8:UInt8),(8:UInt8),(8:UInt8),(8:UInt8),(8:UInt8),(8:UInt8),(8:UInt8),(8:UInt8),(8:UInt8),(8:UInt8),(8:UInt8),(8:UInt8),(8:UInt8),(8:UInt8),(8:UInt8),(8:UInt8),(8:UInt8),(8:UInt8),(8:UInt8),(8:UInt8),(8:UInt8),(8:UInt8),(8:UInt8),(8:UInt8),(8:UInt8),(8:UInt8),(8:UInt8),(8:UInt8),(8:UInt8),(8:UInt8),(8:UInt8),(8:UInt8),(8:UInt8),(8:UInt8),(8:UInt8),(8:UInt8),(8:UInt8),(8:UInt8),(8:UInt8),(8:UInt8),(8:UInt8),(8:UInt8),(8:UInt8),(8:UInt8),(8:UInt8),(8:UInt8),(8:UInt8),(8:UInt8),(8:UInt8),(8:UInt8),(8:UInt8),(8:UInt8),(8:UInt8),(8:UInt8),(8:UInt8),(8:UInt8),(8:UInt8),(8:UInt8),(8:UInt8),(8:UInt8),(8:UInt8),(8:UInt8),(8:UInt8),(8:UInt8),(8:UInt8),(8:UInt8),(8:UInt8),(8:UInt8),(8:UInt8),(8:UInt8),(8:UInt8),(8:UInt8),(8:UInt8),(8:UInt8),(8:UInt8),(8:UInt8),(8:UInt8),(8:UInt8),(8:UInt8),(8:UInt8),(8:UInt8),(8:UInt8),(8:UInt8),(8:UInt8),(8:UInt8),(8:UInt8),(8:UInt8),(8:UInt8),(8:UInt8),(8:UInt8),(8:UInt8),(8:UInt8),(8:UInt8),(8:UInt8),(8:UInt8),(8:UInt8),(8:UInt8),(8:UInt8),(8:UInt8),(8:UInt8),(8:UInt8),(8:UInt8),(8:UInt8),(8:UInt8),(8:UInt8),(8:UInt8),(8:UInt8),(8:UInt8),(8:UInt8),(8:UInt8),(8:UInt8),(8:UInt8),(8:UInt8),(8:UInt8),(8:UInt8),(8:UInt8),(8:UInt8),(8:UInt8)])[Int.toNat (IntKind.wrap IntKind.u8 x0)]?) fun y7 =>
     some (IntKind.wrap IntKind.i64 ((0:Int)+IntKind.wrap IntKind.i64 (↑(UInt8.toNat y7):Int)))) (
     none ))))
noncomputable def aE1 (N:Nat):Pk→Tr Pk:=ah s227 w227 (ao6 N)
theorem Wb (N:Nat):aA Tryz.prog (227) (aE1 N) :=
 (af ag ap (NI N) Tryz.func227 s227 w227 [] (cuts:=[]) trivial (fun _=>by kernel_rfl) (by decide +kernel) (ao6 N) (fun x=>by kernel_rfl))
@[reducible] def s161:SP:=⟨[.int .u64],[]⟩
noncomputable def ZZ (N:Nat):List (Nat×(Pk→Tr Pk)):=[(227,aE1 N)]
theorem NY (N:Nat):ai Tryz.prog (ZZ N):=⟨Wb N,trivial⟩
@[reducible] def w161:List SP:=[⟨[.int .i64],[]⟩]
noncomputable def Pg (N:Nat):(Int)→Option (Int)
 | x0 =>
 Option.bind (ao6 N x0) fun y0 =>
 some (y0)
noncomputable def aF7 (N:Nat):Pk→Tr Pk:=ah s161 w161 (Pg N)
theorem Wu (N:Nat):aA Tryz.prog (161) (aF7 N) :=
 (af ag ap (NY N) Tryz.func161 s161 w161 [] (cuts:=[]) trivial (fun _=>by kernel_rfl) (by decide +kernel) (Pg N) (fun x=>by kernel_rfl))
@[reducible] def s98:SP:=⟨[.agg [.int .i64,.int .i64],.int .i64],[]⟩
noncomputable def ar6 (N:Nat):List (Nat×(Pk→Tr Pk)):=[(161,aF7 N)]
theorem Qd (N:Nat):ai Tryz.prog (ar6 N):=⟨Wu N,trivial⟩
@[reducible] def w98:List SP:=[⟨[.bool],[]⟩]
noncomputable def F98 (N:Nat):(Int×Int×Int)→Option (Bool)
 | (x0,x1,x2) =>
 ac (decide (x0<(1:Int))) (
  some (false)) (
  ac (decide (x0>(65535:Int))) (
   some (false)) (
   ac (IntKind.wrap IntKind.i64 (↑(BitVec.toNat (BitVec.ofInt (64:Nat) x0 &&& BitVec.ofInt (64:Nat) (IntKind.wrap IntKind.i64 (x0+(1:Int))))):Int) != (0:Int)) (
    some (false)) (
    ac (decide (x1<(0:Int))) (
     some (false)) (
     ac (decide (x1>x2)) (
      some (false)) (
      Option.bind (Pg N (IntKind.wrap IntKind.u64 x0)) fun y0 =>
      some (decide (IntKind.wrap IntKind.i64 (x1+y0)≤x2)))))))
noncomputable def T98 (N:Nat):Pk→Tr Pk:=ah s98 w98 (F98 N)
theorem af7 (N:Nat):aA Tryz.prog (98) (T98 N) :=
 (af ag ap (Qd N) Tryz.func98 s98 w98 [] (cuts:=[]) trivial (fun _=>by kernel_rfl) (by decide +kernel) (F98 N) (fun x=>by kernel_rfl))
@[reducible] def s96:SP:=⟨[.agg [.int .i64,.int .i64]],[]⟩
noncomputable def ar8 (N:Nat):List (Nat×(Pk→Tr Pk)):=[]
theorem Qf (N:Nat):ai Tryz.prog (ar8 N):=trivial
@[reducible] def w96:List SP:=[⟨[.int .i64],[]⟩]
noncomputable def F96 (N:Nat):(Int×Int)→Option (Int)
 | (x0,x1) =>
 ac (decide (x1<(0:Int))) (
  none ) (
  some (IntKind.wrap IntKind.i64 (x0*(2:Int)^min (Int.toNat x1) (64:Nat))))
noncomputable def T96 (N:Nat):Pk→Tr Pk:=ah s96 w96 (F96 N)
theorem RO (N:Nat):aA Tryz.prog (96) (T96 N) :=
 (af ag ap (Qf N) Tryz.func96 s96 w96 [] (cuts:=[]) trivial (fun _=>by kernel_rfl) (by decide +kernel) (F96 N) (fun x=>by kernel_rfl))
@[reducible] def s39:SP:=⟨[.agg [.int .i64,.int .i64,.bool,.bool,.int .i64,.int .i64,.int .i64,.int .i64,.int .i64,.int .i64]],[]⟩
noncomputable def au1 (N:Nat):List (Nat×(Pk→Tr Pk)):=[(95,T95 N),(98,T98 N),(96,T96 N)]
theorem sL (N:Nat):ai Tryz.prog (au1 N):=⟨AW N,af7 N,RO N,trivial⟩
@[reducible] def KL:LD:=⟨250,[28,1,29,3],[(.ret,[2]),(.exit 1,[])],⟨[.arr y0 3,.adr 0 [],.int .i64,.int .i64],[.var 43 (.agg [.int .i64,.int .i64,.bool,.bool,.int .i64,.int .i64,.int .i64,.int .i64,.int .i64,.int .i64])]⟩,[(.ret,⟨[.bool],[]⟩),(.exit 1,⟨[],[]⟩)]⟩
abbrev BS:Type:=(List (Int×(Int×Unit)))×Int×Int×Int×Int×Bool×Bool×Int×Int×Int×Int×Int×Int
abbrev Bb:Type:=((Bool)⊕(Unit))
noncomputable def lL (N:Nat) (f:BS→Option Bb):BS→Option Bb
 | (x0,x1,x2,x3,x4,x5,x6,x7,x8,x9,x10,x11,x12) =>
 ac (decide (x1<(3:Int))) (
  ac (within x1 (List.length x0)) (
   Option.bind (x0[Int.toNat x1]?) fun y0 =>
   Option.bind (F98 N (y0.1,y0.2.1,x3)) fun y1 =>
   ac (!y1) (
    some (.inl (false))) (
    Option.bind (F96 N (y0.1,y0.2.1)) fun y2 =>
    ac (IntKind.wrap IntKind.i64 (↑(BitVec.toNat (BitVec.ofInt (64:Nat) x2 &&& BitVec.ofInt (64:Nat) y2)):Int) != (0:Int)) (
     some (.inl (false))) (
     Option.bind (F96 N (y0.1,y0.2.1)) fun y3 =>
     Option.bind (f (x0,IntKind.wrap IntKind.i64 (x1+(1:Int)),IntKind.wrap IntKind.i64 (↑(BitVec.toNat (BitVec.ofInt (64:Nat) x2 ||| BitVec.ofInt (64:Nat) y3)):Int),x3,x4,x5,x6,x7,x8,x9,x10,x11,x12)) fun r=>match r with|.inl y=>some (.inl y)|.inr y=>some (.inr y)))) (
   none )) (
  some (.inr (())))
noncomputable def cQ (N:Nat):Nat→BS→Option Bb
 | 0,_=>none
 | k+1,x=>lL N (cQ N k) x
noncomputable def C5 (N:Nat) (k:Nat):Cut:=KL.cut (cQ N k)
theorem we (N:Nat) (k:Nat):al Tryz.prog false Tryz.f39 [] 250 (C5 N k) :=
 KL.loopT ag ap (sL N) Tryz.f39 [] (cuts:=[]) trivial (by decide +kernel) (by kernel_rfl) (lL N) (cQ N) (fun _=>rfl) (fun _ _=>rfl) (fun f x=>by kernel_rfl) k
@[reducible] def X2:LD:=⟨7,[1],[(.ret,[2]),(.normal,[2])],⟨[.adr 0 []],[.var 43 (.agg [.int .i64,.int .i64,.bool,.bool,.int .i64,.int .i64,.int .i64,.int .i64,.int .i64,.int .i64])]⟩,[(.ret,⟨[.bool],[]⟩)]⟩
noncomputable def vU (N:Nat):(Int×Int×Bool×Bool×Int×Int×Int×Int×Int×Int)→Option (Bool)
 | (x0,x1,x2,x3,x4,x5,x6,x7,x8,x9) =>
 ac (decide (x1<(1:Int))) (
  some (false)) (
  ac (decide (x1>x0)) (
   some (false)) (
   ac (!x3) (
    some (false)) (
    Option.bind (TP N (x0,x1,x2,x3,x4,x5,x6,x7,x8,x9)) fun y0 =>
    Option.bind (cQ N N (y0,(0:Int),(0:Int),x0,x1,x2,x3,x4,x5,x6,x7,x8,x9)) fun y1 =>
    match y1 with
    | .inl y2 =>
     some (y2)
    | .inr y2 =>
     some (true))))
noncomputable def X7 (N:Nat) (_:Nat):Cut:=X2.cut (vU N)
theorem TA (N:Nat) (k:Nat):al Tryz.prog false Tryz.f39 [] 7 (X7 N k) :=
 X2.pieceT ag ap (sL N) Tryz.f39 [] (cuts:=[(250,C5 N N)]) ⟨we N N,trivial⟩ (by decide +kernel) (by kernel_rfl) (vU N) (fun x=>by kernel_rfl)
@[reducible] def w39:List SP:=[⟨[.bool],[]⟩]
noncomputable def SF (N:Nat):(Int×Int×Bool×Bool×Int×Int×Int×Int×Int×Int)→Option (Bool)
 | (x0,x1,x2,x3,x4,x5,x6,x7,x8,x9) =>
 ac (x0==(8:Int)) (
  Option.bind (vU N (x0,x1,x2,x3,x4,x5,x6,x7,x8,x9)) fun y0 =>
  some (y0)) (
  ac (x0==(16:Int)) (
   Option.bind (vU N (x0,x1,x2,x3,x4,x5,x6,x7,x8,x9)) fun y1 =>
   some (y1)) (
   ac (x0==(32:Int)) (
    Option.bind (vU N (x0,x1,x2,x3,x4,x5,x6,x7,x8,x9)) fun y2 =>
    some (y2)) (
    some (false))))
noncomputable def XU (N:Nat):Pk→Tr Pk:=ah s39 w39 (SF N)
theorem mC (N:Nat):aA Tryz.prog (39) (XU N) :=
 (af ag ap (sL N) Tryz.func39 s39 w39 [] (cuts:=[(250,C5 N N),(7,X7 N N)]) ⟨we N N,TA N N,trivial⟩ (fun _=>by kernel_rfl) (by decide +kernel) (SF N) (fun x=>by kernel_rfl))
@[reducible] def s93:SP:=⟨[.int .i64],[]⟩
noncomputable def as1 (N:Nat):List (Nat×(Pk→Tr Pk)):=[]
theorem Qh (N:Nat):ai Tryz.prog (as1 N):=trivial
@[reducible] def w93:List SP:=[⟨[.bool],[]⟩]
noncomputable def F93 (N:Nat):(Int)→Option (Bool)
 | x0 =>
 ac (decide ((0:Int)≤x0)) (
  some (decide (x0≤(4096:Int)))) (
  some (false))
noncomputable def T93 (N:Nat):Pk→Tr Pk:=ah s93 w93 (F93 N)
theorem af9 (N:Nat):aA Tryz.prog (93) (T93 N) :=
 (af ag ap (Qh N) Tryz.func93 s93 w93 [] (cuts:=[]) trivial (fun _=>by kernel_rfl) (by decide +kernel) (F93 N) (fun x=>by kernel_rfl))
@[reducible] def s35:SP:=⟨[.agg [.int .i64,.int .i64,.bool,.bool,.int .i64,.int .i64,.int .i64,.int .i64,.int .i64,.int .i64],.int .i64,.int .i64],[]⟩
noncomputable def au4 (N:Nat):List (Nat×(Pk→Tr Pk)):=[(39,XU N),(93,T93 N)]
theorem Qs (N:Nat):ai Tryz.prog (au4 N):=⟨mC N,af9 N,trivial⟩
@[reducible] def w35:List SP:=[⟨[.bool],[]⟩]
noncomputable def X5 (N:Nat):(Int×Int×Bool×Bool×Int×Int×Int×Int×Int×Int×Int×Int)→Option (Bool)
 | (x0,x1,x2,x3,x4,x5,x6,x7,x8,x9,x10,x11) =>
 Option.bind (SF N (x0,x1,x2,x3,x4,x5,x6,x7,x8,x9)) fun y0 =>
 ac (y0) (
  Option.bind (F93 N x10) fun y1 =>
  ac (y1) (
   Option.bind (F93 N x11) fun y2 =>
   some (y2)) (
   some (false))) (
  some (false))
noncomputable def T35 (N:Nat):Pk→Tr Pk:=ah s35 w35 (X5 N)
theorem A0 (N:Nat):aA Tryz.prog (35) (T35 N) :=
 (af ag ap (Qs N) Tryz.func35 s35 w35 [] (cuts:=[]) trivial (fun _=>by kernel_rfl) (by decide +kernel) (X5 N) (fun x=>by kernel_rfl))
@[reducible] def s97:SP:=⟨[.agg [.int .i64,.int .i64,.bool,.bool,.int .i64,.int .i64,.int .i64,.int .i64,.int .i64,.int .i64]],[]⟩
noncomputable def ar7 (N:Nat):List (Nat×(Pk→Tr Pk)):=[(39,XU N)]
theorem Qe (N:Nat):ai Tryz.prog (ar7 N):=⟨mC N,trivial⟩
@[reducible] def w97:List SP:=[⟨[.int .i64],[]⟩]
noncomputable def X3 (N:Nat):(Int×Int×Bool×Bool×Int×Int×Int×Int×Int×Int)→Option (Int)
 | (x0,x1,x2,x3,x4,x5,x6,x7,x8,x9) =>
 Option.bind (SF N (x0,x1,x2,x3,x4,x5,x6,x7,x8,x9)) fun y0 =>
 ac (!y0) (
  some ((0:Int))) (
  some (IntKind.wrap IntKind.i64 (Int.tdiv x0 (8:Int))))
noncomputable def T97 (N:Nat):Pk→Tr Pk:=ah s97 w97 (X3 N)
theorem RN (N:Nat):aA Tryz.prog (97) (T97 N) :=
 (af ag ap (Qe N) Tryz.func97 s97 w97 [] (cuts:=[]) trivial (fun _=>by kernel_rfl) (by decide +kernel) (X3 N) (fun x=>by kernel_rfl))
@[reducible] def s37:SP:=⟨[.agg [.int .i64,.int .i64,.bool,.bool,.int .i64,.int .i64,.int .i64,.int .i64,.int .i64,.int .i64]],[]⟩
noncomputable def au2 (N:Nat):List (Nat×(Pk→Tr Pk)):=[(39,XU N),(95,T95 N),(96,T96 N),(97,T97 N)]
theorem Dt (N:Nat):ai Tryz.prog (au2 N):=⟨mC N,AW N,RO N,RN N,trivial⟩
@[reducible] def KS:LD:=⟨122,[4,12,1,11],[(.ret,[2,3]),(.exit 0,[4,1])],⟨[.int .i64,.int .i64,.adr 0 [],.arr y0 3],[.var 43 (.agg [.int .i64,.int .i64,.bool,.bool,.int .i64,.int .i64,.int .i64,.int .i64,.int .i64,.int .i64])]⟩,[(.exit 0,⟨[.int .i64,.adr 0 []],[.var 43 (.agg [.int .i64,.int .i64,.bool,.bool,.int .i64,.int .i64,.int .i64,.int .i64,.int .i64,.int .i64])]⟩)]⟩
abbrev Cc:Type:=Int×Int×(List (Int×(Int×Unit)))×Int×Int×Bool×Bool×Int×Int×Int×Int×Int×Int
abbrev Bj:Type:=Int×Int×Int×Bool×Bool×Int×Int×Int×Int×Int×Int
noncomputable def lN (N:Nat) (f:Cc→Option Bj):Cc→Option Bj
 | (x0,x1,x2,x3,x4,x5,x6,x7,x8,x9,x10,x11,x12) =>
 ac (decide (x1<(3:Int))) (
  ac (within x1 (List.length x2)) (
   Option.bind (x2[Int.toNat x1]?) fun y0 =>
   Option.bind (F96 N (y0.1,y0.2.1)) fun y1 =>
   Option.bind (f (IntKind.wrap IntKind.i64 (↑(BitVec.toNat (BitVec.ofInt (64:Nat) x0 ||| BitVec.ofInt (64:Nat) y1)):Int),IntKind.wrap IntKind.i64 (x1+(1:Int)),x2,x3,x4,x5,x6,x7,x8,x9,x10,x11,x12)) fun r=>some r) (
   none )) (
  some ((x0,x3,x4,x5,x6,x7,x8,x9,x10,x11,x12)))
noncomputable def cS (N:Nat):Nat→Cc→Option Bj
 | 0,_=>none
 | k+1,x=>lN N (cS N k) x
noncomputable def LH (N:Nat) (k:Nat):Cut:=KS.cut (cS N k)
theorem IZ (N:Nat) (k:Nat):al Tryz.prog false Tryz.f37 [] 122 (LH N k) :=
 KS.loopT ag ap (Dt N) Tryz.f37 [] (cuts:=[]) trivial (by decide +kernel) (by kernel_rfl) (lN N) (cS N) (fun _=>rfl) (fun _ _=>rfl) (fun f x=>by kernel_rfl) k
@[reducible] def w37:List SP:=[⟨[.tup [.int .i64,.int .i64]],[]⟩]
noncomputable def Fg (N:Nat):(Int×Int×Bool×Bool×Int×Int×Int×Int×Int×Int)→Option (Int×Int)
 | (x0,x1,x2,x3,x4,x5,x6,x7,x8,x9) =>
 Option.bind (SF N (x0,x1,x2,x3,x4,x5,x6,x7,x8,x9)) fun y0 =>
 ac (!y0) (
  some (((0:Int),(0:Int)))) (
  Option.bind (TP N (x0,x1,x2,x3,x4,x5,x6,x7,x8,x9)) fun y1 =>
  Option.bind (cS N N ((0:Int),(0:Int),y1,x0,x1,x2,x3,x4,x5,x6,x7,x8,x9)) fun(y2_0,y2_1,y2_2,y2_3,y2_4,y2_5,y2_6,y2_7,y2_8,y2_9,y2_10) =>
  ac (decide (y2_1<(32:Int))) (
   Option.bind (X3 N (y2_1,y2_2,y2_3,y2_4,y2_5,y2_6,y2_7,y2_8,y2_9,y2_10)) fun y3 =>
   some ((y3,(0:Int)))) (
   ac (decide (y2_2>(24:Int))) (
    Option.bind (X3 N (y2_1,y2_2,y2_3,y2_4,y2_5,y2_6,y2_7,y2_8,y2_9,y2_10)) fun y4 =>
    some ((y4,(0:Int)))) (
    ac (decide (y2_0<(16777216:Int))) (
     some (((3:Int),(0:Int)))) (
     ac (IntKind.wrap IntKind.i64 (↑(BitVec.toNat (BitVec.ofInt (64:Nat) y2_0 &&& BitVec.ofInt (64:Nat) (255:Int))):Int)==(0:Int)) (
      some (((3:Int),(8:Int)))) (
      Option.bind (X3 N (y2_1,y2_2,y2_3,y2_4,y2_5,y2_6,y2_7,y2_8,y2_9,y2_10)) fun y5 =>
      some ((y5,(0:Int))))))))
noncomputable def T37 (N:Nat):Pk→Tr Pk:=ah s37 w37 (Fg N)
theorem AX (N:Nat):aA Tryz.prog (37) (T37 N) :=
 (af ag ap (Dt N) Tryz.func37 s37 w37 [] (cuts:=[(122,LH N N)]) ⟨IZ N N,trivial⟩ (fun _=>by kernel_rfl) (by decide +kernel) (Fg N) (fun x=>by kernel_rfl))
@[reducible] def s81:SP:=⟨[.str],[]⟩
noncomputable def at0 (N:Nat):List (Nat×(Pk→Tr Pk)):=[]
theorem Ql (N:Nat):ai Tryz.prog (at0 N):=trivial
@[reducible] def w81:List SP:=[⟨[.adr 0 []],[.var 189 (.agg [.str,.int .i64,.int .i64])]⟩]
noncomputable def F81 (N:Nat):(ByteArray)→Option (ByteArray×Int×Int)
 | x0 =>
 some ((x0,(0:Int),(0:Int)))
noncomputable def T81 (N:Nat):Pk→Tr Pk:=ah s81 w81 (F81 N)
theorem H2 (N:Nat):aA Tryz.prog (81) (T81 N) :=
 (af ag ap (Ql N) Tryz.func81 s81 w81 [] (cuts:=[]) trivial (fun _=>by kernel_rfl) (by decide +kernel) (F81 N) (fun x=>by kernel_rfl))
@[reducible] def s139:SP:=⟨[.int .i64],[]⟩
noncomputable def aa5 (N:Nat):List (Nat×(Pk→Tr Pk)):=[]
theorem N6 (N:Nat):ai Tryz.prog (aa5 N):=trivial
@[reducible] def w139:List SP:=[⟨[.bool],[]⟩]
noncomputable def Tq (N:Nat):(Int)→Option (Bool)
 | x0 =>
 ac (decide ((1:Int)≤x0)) (
  some (decide (x0≤(4096:Int)))) (
  some (false))
noncomputable def aG8 (N:Nat):Pk→Tr Pk:=ah s139 w139 (Tq N)
theorem WJ (N:Nat):aA Tryz.prog (139) (aG8 N) :=
 (af ag ap (N6 N) Tryz.func139 s139 w139 [] (cuts:=[]) trivial (fun _=>by kernel_rfl) (by decide +kernel) (Tq N) (fun x=>by kernel_rfl))
@[reducible] def y1:Ty:=(.cons (.int .i64) (.cons (.int .i64) (.cons (.int .i64) (.cons (.int .i64) .unit))))
@[reducible] def s140:SP:=⟨[.int .i64,.int .i64,.int .i64],[]⟩
noncomputable def aa4 (N:Nat):List (Nat×(Pk→Tr Pk)):=[]
theorem N5 (N:Nat):ai Tryz.prog (aa4 N):=trivial
@[reducible] def w140:List SP:=[⟨[.clo 209 [.adr 0 [],.adr 1 [],.adr 2 []]],[.var 3 (.int .i64),.var 3 (.int .i64),.var 3 (.int .i64)]⟩]
noncomputable def Xu (N:Nat):(Int×Int×Int)→Option (Int×Int×Int)
 | (x0,x1,x2) =>
 some ((x1,x2,x0))
noncomputable def aG7 (N:Nat):Pk→Tr Pk:=ah s140 w140 (Xu N)
theorem WI (N:Nat):aA Tryz.prog (140) (aG7 N) :=
 (af ag ap (N5 N) Tryz.func140 s140 w140 [] (cuts:=[]) trivial (fun _=>by kernel_rfl) (by decide +kernel) (Xu N) (fun x=>by kernel_rfl))
@[reducible] def s82r122:SP:=⟨[.yv 0,.agg [.int .i64,.int .i64,.int .i64,.int .i64],.adr 1 []],[.lp 1512633014044183232634 [7] [.adr 1 []] 0,.var 55 (.sl 2),.row y1 126]⟩
noncomputable def MQ (N:Nat):List (Nat×(Pk→Tr Pk)):=[]
theorem zP (N:Nat):ai Tryz.prog (MQ N):=trivial
@[reducible] def w82r122:List SP:=[⟨[.bc true],[.lp 1512633014044183232634 [7] [.adr 1 []] 0,.var 55 (.sl 2),.row y1 126]⟩]
noncomputable def nW (N:Nat):(Int×Int×Int×Int×(List (Int×(Int×(Int×(Int×Unit))))))→Option ((List (Int×(Int×(Int×(Int×Unit))))))
 | (x0,x1,x2,x3,x4) =>
 ac (decide ((List.length x4+List.length [(x0,x1,x2,x3,())])*(32:Nat)≤(140737488355328:Nat)∧List.length x4+List.length [(x0,x1,x2,x3,())]≤(140737488355328:Nat))) (
  some (x4++[(x0,x1,x2,x3,())])) (
  none )
noncomputable def Ka (N:Nat):Pk→Tr Pk:=ah s82r122 w82r122 (nW N)
theorem H0 (N:Nat):aA Tryz.prog (82*be+122) (Ka N) :=
 (QE ag ap (zP N) Tryz.func82 122 s82r122 w82r122 [0,1,1] (cuts:=[]) trivial (fun _=>by kernel_rfl) (by decide +kernel) (nW N) (fun x=>by kernel_rfl))
@[reducible] def s209:SP:=⟨[.yv 0,.adr 1 [],.adr 2 [],.adr 3 []],[.lp 1512633014044183232634 [7] [.adr 4 []] 0,.var 3 (.int .i64),.var 3 (.int .i64),.var 3 (.int .i64),.var 55 (.sl 5),.row y1 126]⟩
noncomputable def ZO (N:Nat):List (Nat×(Pk→Tr Pk)):=[(82*be+122,Ka N)]
theorem o6 (N:Nat):ai Tryz.prog (ZO N):=⟨H0 N,trivial⟩
@[reducible] def EZ:LD:=⟨402,[0,3,1,5,2,6],[(.exit 2,[5,0,3,1,2]),(.exit 1,[5,0,3,1,2])],⟨[.yv 0,.adr 3 [],.adr 1 [],.int .i64,.adr 2 [],.int .i64],[.lp 1512633014044183232634 [7] [.adr 4 []] 0,.var 3 (.int .i64),.var 3 (.int .i64),.var 3 (.int .i64),.var 55 (.sl 5),.row y1 126]⟩,[(.exit 2,⟨[.int .i64,.yv 0,.adr 3 [],.adr 1 [],.adr 2 []],[.lp 1512633014044183232634 [7] [.adr 4 []] 0,.var 3 (.int .i64),.var 3 (.int .i64),.var 3 (.int .i64),.var 55 (.sl 5),.row y1 126]⟩)]⟩
abbrev vD:Type:=Int×Int×Int×Int×Int×(List (Int×(Int×(Int×(Int×Unit)))))
abbrev uO:Type:=Int×Int×Int×Int×(List (Int×(Int×(Int×(Int×Unit)))))
noncomputable def fK (N:Nat) (f:vD→Option uO):vD→Option uO
 | (x0,x1,x2,x3,x4,x5) =>
 ac (decide (x1<x4)) (
  Option.bind (nW N (x1,x0,if IntKind.wrap IntKind.i64 (x4-x1)<x3 then IntKind.wrap IntKind.i64 (x4-x1) else x3,if IntKind.wrap IntKind.i64 (x2-x0)<x3 then IntKind.wrap IntKind.i64 (x2-x0) else x3,x5)) fun y0 =>
  Option.bind (f (x0,IntKind.wrap IntKind.i64 (x1+x3),x2,x3,x4,y0)) fun r=>some r) (
  some ((x0,x2,x3,x4,x5)))
noncomputable def eg (N:Nat):Nat→vD→Option uO
 | 0,_=>none
 | k+1,x=>fK N (eg N k) x
noncomputable def wn (N:Nat) (k:Nat):Cut:=EZ.cut (eg N k)
theorem ri (N:Nat) (k:Nat):al Tryz.prog false Tryz.f209 [0,1,2,3,4] 402 (wn N k) :=
 EZ.loopT ag ap (o6 N) Tryz.f209 [0,1,2,3,4] (cuts:=[]) trivial (by decide +kernel) (by kernel_rfl) (fK N) (eg N) (fun _=>rfl) (fun _ _=>rfl) (fun f x=>by kernel_rfl) k
@[reducible] def Su:LD:=⟨6,[0,3,1,5,2],[(.exit 0,[])],⟨[.yv 0,.adr 3 [],.adr 1 [],.int .i64,.adr 2 []],[.lp 1512633014044183232634 [7] [.adr 4 []] 0,.var 3 (.int .i64),.var 3 (.int .i64),.var 3 (.int .i64),.var 55 (.sl 5),.row y1 126]⟩,[(.exit 0,⟨[],[.lp 1512633014044183232634 [7] [.adr 4 []] 0,.var 3 (.int .i64),.var 3 (.int .i64),.var 3 (.int .i64),.var 55 (.sl 5),.row y1 126]⟩)]⟩
abbrev Ix:Type:=Int×Int×Int×Int×(List (Int×(Int×(Int×(Int×Unit)))))
abbrev Ij:Type:=Int×Int×Int×(List (Int×(Int×(Int×(Int×Unit)))))
noncomputable def nd (N:Nat) (f:Ix→Option Ij):Ix→Option Ij
 | (x0,x1,x2,x3,x4) =>
 ac (decide (x0<x1)) (
  Option.bind (eg N N (x0,(0:Int),x1,x2,x3,x4)) fun y0 =>
  Option.bind (f (IntKind.wrap IntKind.i64 (y0.1+y0.2.2.1),y0.2.1,y0.2.2.1,y0.2.2.2.1,y0.2.2.2.2)) fun r=>some r) (
  some ((x1,x2,x3,x4)))
noncomputable def jb (N:Nat):Nat→Ix→Option Ij
 | 0,_=>none
 | k+1,x=>nd N (jb N k) x
noncomputable def TJ (N:Nat) (k:Nat):Cut:=Su.cut (jb N k)
theorem Pz (N:Nat) (k:Nat):al Tryz.prog false Tryz.f209 [0,1,2,3,4] 6 (TJ N k) :=
 Su.loopT ag ap (o6 N) Tryz.f209 [0,1,2,3,4] (cuts:=[(402,wn N N)]) ⟨ri N N,trivial⟩ (by decide +kernel) (by kernel_rfl) (nd N) (jb N) (fun _=>rfl) (fun _ _=>rfl) (fun f x=>by kernel_rfl) k
@[reducible] def w209:List SP:=[⟨[.tup []],[.lp 1512633014044183232634 [7] [.adr 4 []] 0,.var 3 (.int .i64),.var 3 (.int .i64),.var 3 (.int .i64),.var 55 (.sl 5),.row y1 126]⟩]
noncomputable def Xp (N:Nat):(Int×Int×Int×(List (Int×(Int×(Int×(Int×Unit))))))→Option (Int×Int×Int×(List (Int×(Int×(Int×(Int×Unit))))))
 | (x0,x1,x2,x3) =>
 Option.bind (jb N N ((0:Int),x0,x1,x2,x3)) fun y0 =>
 some ((y0.1,y0.2.1,y0.2.2.1,y0.2.2.2))
noncomputable def aE9 (N:Nat):Pk→Tr Pk:=ah s209 w209 (Xp N)
theorem Wm (N:Nat):aA Tryz.prog (209) (aE9 N) :=
 (af ag ap (o6 N) Tryz.func209 s209 w209 [0,1,2,3,4] (cuts:=[(402,wn N N),(6,TJ N N)]) ⟨ri N N,Pz N N,trivial⟩ (fun _=>by kernel_rfl) (by decide +kernel) (Xp N) (fun x=>by kernel_rfl))
@[reducible] def s82:SP:=⟨[.int .i64,.int .i64,.int .i64],[]⟩
noncomputable def as9 (N:Nat):List (Nat×(Pk→Tr Pk)):=[(139,aG8 N),(140,aG7 N),(209,aE9 N)]
theorem Ds (N:Nat):ai Tryz.prog (as9 N):=⟨WJ N,WI N,Wm N,trivial⟩
@[reducible] def KJ:LD:=⟨122,[6,7,25],[(.ret,[6]),(.exit 0,[7]),(.normal,[7])],⟨[.sl 0,.adr 1 [],.clo 209 [.adr 2 [],.adr 3 [],.adr 4 []]],[.row y1 126,.var 55 (.sl 5),.var 3 (.int .i64),.var 3 (.int .i64),.var 3 (.int .i64),.row y1 126]⟩,[(.normal,⟨[.adr 0 []],[.var 55 (.sl 1),.row y1 126]⟩)]⟩
noncomputable def rY (N:Nat):((List (Int×(Int×(Int×(Int×Unit)))))×Int×Int×Int×(List (Int×(Int×(Int×(Int×Unit))))))→Option ((List (Int×(Int×(Int×(Int×Unit))))))
 | (x0,x1,x2,x3,x4) =>
 Option.bind (Xp N (x1,x2,x3,x4)) fun y0 =>
 some y0.2.2.2
noncomputable def LA (N:Nat) (_:Nat):Cut:=KJ.cut (rY N)
theorem IU (N:Nat) (k:Nat):al Tryz.prog false Tryz.f82 [] 122 (LA N k) :=
 KJ.rngT ag ap (Ds N) Tryz.func82 [] [7] (by decide +kernel) (rY N) (fun x=>by kernel_rfl)
@[reducible] def w82:List SP:=[⟨[.sl 0],[.row y1 126]⟩]
noncomputable def F82 (N:Nat):(Int×Int×Int)→Option ((List (Int×(Int×(Int×(Int×Unit))))))
 | (x0,x1,x2) =>
 Option.bind (Tq N x0) fun y0 =>
 ac (!y0) (
  some ([])) (
  Option.bind (Tq N x1) fun y1 =>
  ac (!y1) (
   some ([])) (
   ac (decide (x2<(1:Int))) (
    some ([])) (
    Option.bind (Xu N (x0,x1,if (4096:Int)<x2 then (4096:Int) else x2)) fun y2 =>
    Option.bind (rY N ([],y2.1,y2.2.1,y2.2.2,[])) fun y3 =>
    some (y3))))
noncomputable def T82 (N:Nat):Pk→Tr Pk:=ah s82 w82 (F82 N)
theorem H1 (N:Nat):aA Tryz.prog (82) (T82 N) :=
 (af ag ap (Ds N) Tryz.func82 s82 w82 [] (cuts:=[(122,LA N N)]) ⟨IU N N,trivial⟩ (fun _=>by kernel_rfl) (by decide +kernel) (F82 N) (fun x=>by kernel_rfl))
@[reducible] def s230:SP:=⟨[.int .i64],[]⟩
noncomputable def Zz (N:Nat):List (Nat×(Pk→Tr Pk)):=[]
theorem NF (N:Nat):ai Tryz.prog (Zz N):=trivial
@[reducible] def w230:List SP:=[⟨[.bool],[]⟩]
noncomputable def S4 (N:Nat):(Int)→Option (Bool)
 | x0 =>
 ac (x0==(1:Int)) (
  some (true)) (
  ac (x0==(2:Int)) (
   some (true)) (
   some (x0==(4:Int))))
noncomputable def aj7 (N:Nat):Pk→Tr Pk:=ah s230 w230 (S4 N)
theorem KB (N:Nat):aA Tryz.prog (230) (aj7 N) :=
 (af ag ap (NF N) Tryz.func230 s230 w230 [] (cuts:=[]) trivial (fun _=>by kernel_rfl) (by decide +kernel) (S4 N) (fun x=>by kernel_rfl))
@[reducible] def s206:SP:=⟨[.adr 0 [],.int .i64],[.var 189 (.agg [.str,.int .i64,.int .i64])]⟩
noncomputable def ZQ (N:Nat):List (Nat×(Pk→Tr Pk)):=[]
theorem NT (N:Nat):ai Tryz.prog (ZQ N):=trivial
@[reducible] def w206:List SP:=[⟨[.tup []],[.var 189 (.agg [.str,.int .i64,.int .i64])]⟩]
noncomputable def IK (N:Nat):(Int×ByteArray×Int×Int)→Option (ByteArray×Int×Int)
 | (x0,x1,x2,x3) =>
 ac (x3==(0:Int)) (
  some ((x1,x2,x0))) (
  some ((x1,x2,x3)))
noncomputable def ak1 (N:Nat):Pk→Tr Pk:=ah s206 w206 (IK N)
theorem KF (N:Nat):aA Tryz.prog (206) (ak1 N) :=
 (af ag ap (NT N) Tryz.func206 s206 w206 [0] (cuts:=[]) trivial (fun _=>by kernel_rfl) (by decide +kernel) (IK N) (fun x=>by kernel_rfl))
@[reducible] def y2:Ty:=(.cons .str (.cons (.int .i64) (.cons (.int .i64) .unit)))
@[reducible] def s86:SP:=⟨[.radr y2 [.i 0 3]],[]⟩
noncomputable def as5 (N:Nat):List (Nat×(Pk→Tr Pk)):=[]
theorem Qj (N:Nat):ai Tryz.prog (as5 N):=trivial
@[reducible] def w86:List SP:=[⟨[.int .i64],[]⟩]
noncomputable def F86 (N:Nat):((ByteArray×(Int×(Int×Unit))))→Option (Int)
 | x0 =>
 some (IntKind.wrap IntKind.i64 ((↑(ByteArray.size x0.1):Int)-x0.2.1))
noncomputable def T86 (N:Nat):Pk→Tr Pk:=ah s86 w86 (F86 N)
theorem RQ (N:Nat):aA Tryz.prog (86) (T86 N) :=
 (af ag ap (Qj N) Tryz.func86 s86 w86 [] (cuts:=[]) trivial (fun _=>by kernel_rfl) (by decide +kernel) (F86 N) (fun x=>by kernel_rfl))
@[reducible] def s135:SP:=⟨[.adr 0 [],.int .i64],[.var 189 (.agg [.str,.int .i64,.int .i64])]⟩
noncomputable def aa7 (N:Nat):List (Nat×(Pk→Tr Pk)):=[(206,ak1 N),(86,T86 N)]
theorem N8 (N:Nat):ai Tryz.prog (aa7 N):=⟨KF N,RQ N,trivial⟩
@[reducible] def w135:List SP:=[⟨[.str],[.var 189 (.agg [.str,.int .i64,.int .i64])]⟩]
noncomputable def mW (N:Nat):(Int×ByteArray×Int×Int)→Option (ByteArray×ByteArray×Int×Int)
 | (x0,x1,x2,x3) =>
 ac (decide (x0<(0:Int))) (
  Option.bind (IK N ((1:Int),x1,x2,x3)) fun y0 =>
  ac (y0.2.2 != (0:Int)) (
   some ((ByteArray.mk #[],y0.1,y0.2.1,y0.2.2))) (
   ac (decide ((0:Int)≤IntKind.wrap IntKind.i64 (y0.2.1+x0)∧IntKind.wrap IntKind.i64 (y0.2.1+x0)≤(↑(ByteArray.size y0.1):Int))) (
    ac (decide ((0:Int)≤IntKind.wrap IntKind.i64 (IntKind.wrap IntKind.i64 (y0.2.1+x0)-x0)∧IntKind.wrap IntKind.i64 (IntKind.wrap IntKind.i64 (y0.2.1+x0)-x0)≤(↑(Int.toNat (IntKind.wrap IntKind.i64 (y0.2.1+x0))):Int))) (
     some ((ByteArray.extract y0.1 (Int.toNat (IntKind.wrap IntKind.i64 (IntKind.wrap IntKind.i64 (y0.2.1+x0)-x0))) (Int.toNat (IntKind.wrap IntKind.i64 (y0.2.1+x0))),y0.1,IntKind.wrap IntKind.i64 (y0.2.1+x0),y0.2.2))) (
     none )) (
    none ))) (
  Option.bind (F86 N (x1,x2,x3,())) fun y1 =>
  ac (decide (x0>y1)) (
   Option.bind (IK N ((2:Int),x1,x2,x3)) fun y2 =>
   ac (y2.2.2 != (0:Int)) (
    some ((ByteArray.mk #[],y2.1,y2.2.1,y2.2.2))) (
    ac (decide ((0:Int)≤IntKind.wrap IntKind.i64 (y2.2.1+x0)∧IntKind.wrap IntKind.i64 (y2.2.1+x0)≤(↑(ByteArray.size y2.1):Int))) (
     ac (decide ((0:Int)≤IntKind.wrap IntKind.i64 (IntKind.wrap IntKind.i64 (y2.2.1+x0)-x0)∧IntKind.wrap IntKind.i64 (IntKind.wrap IntKind.i64 (y2.2.1+x0)-x0)≤(↑(Int.toNat (IntKind.wrap IntKind.i64 (y2.2.1+x0))):Int))) (
      some ((ByteArray.extract y2.1 (Int.toNat (IntKind.wrap IntKind.i64 (IntKind.wrap IntKind.i64 (y2.2.1+x0)-x0))) (Int.toNat (IntKind.wrap IntKind.i64 (y2.2.1+x0))),y2.1,IntKind.wrap IntKind.i64 (y2.2.1+x0),y2.2.2))) (
      none )) (
     none ))) (
   ac (x3 != (0:Int)) (
    some ((ByteArray.mk #[],x1,x2,x3))) (
    ac (decide ((0:Int)≤IntKind.wrap IntKind.i64 (x2+x0)∧IntKind.wrap IntKind.i64 (x2+x0)≤(↑(ByteArray.size x1):Int))) (
     ac (decide ((0:Int)≤IntKind.wrap IntKind.i64 (IntKind.wrap IntKind.i64 (x2+x0)-x0)∧IntKind.wrap IntKind.i64 (IntKind.wrap IntKind.i64 (x2+x0)-x0)≤(↑(Int.toNat (IntKind.wrap IntKind.i64 (x2+x0))):Int))) (
      some ((ByteArray.extract x1 (Int.toNat (IntKind.wrap IntKind.i64 (IntKind.wrap IntKind.i64 (x2+x0)-x0))) (Int.toNat (IntKind.wrap IntKind.i64 (x2+x0))),x1,IntKind.wrap IntKind.i64 (x2+x0),x3))) (
      none )) (
     none ))))
noncomputable def Sd (N:Nat):Pk→Tr Pk:=ah s135 w135 (mW N)
theorem rW (N:Nat):aA Tryz.prog (135) (Sd N) :=
 (af ag ap (N8 N) Tryz.func135 s135 w135 [0] (cuts:=[]) trivial (fun _=>by kernel_rfl) (by decide +kernel) (mW N) (fun x=>by kernel_rfl))
@[reducible] def s231:SP:=⟨[.slp 0 .h .h],[.row (.int .u8) 5]⟩
noncomputable def Zy (N:Nat):List (Nat×(Pk→Tr Pk)):=[]
theorem xz (N:Nat):ai Tryz.prog (Zy N):=trivial
@[reducible] def Sq:LD:=⟨6,[2,3,0],[(.exit 0,[])],⟨[.int .i64,.int .i64,.slp 0 .h .h],[.row (.int .u8) 5]⟩,[(.exit 0,⟨[],[.row (.int .u8) 5]⟩)]⟩
abbrev Iu:Type:=Int×Int×Nat×Nat×(List Int)
abbrev Ig:Type:=(List Int)
noncomputable def er (N:Nat) (f:Iu→Option Ig):Iu→Option Ig
 | (x0,x1,x2,x3,x4) =>
 ac (decide (x0<x1)) (
  ac (within x1 x3) (
   Option.bind (x4[x2+Int.toNat x1]?) fun y0 =>
   ac (within x0 x3) (
    Option.bind (x4[x2+Int.toNat x0]?) fun y1 =>
    ac (within x0 x3) (
     Option.bind (x4[x2+Int.toNat x0]?) fun y2 =>
     ac (within x1 x3) (
      Option.bind ((List.set x4 (x2+Int.toNat x0) y0)[x2+Int.toNat x1]?) fun y3 =>
      Option.bind (f (IntKind.wrap IntKind.i64 (x0+(1:Int)),IntKind.wrap IntKind.i64 (x1-(1:Int)),x2,x3,List.set (List.set x4 (x2+Int.toNat x0) y0) (x2+Int.toNat x1) y1)) fun r=>some r) (
      none )) (
     none )) (
    none )) (
   none )) (
  some (x4))
noncomputable def bP (N:Nat):Nat→Iu→Option Ig
 | 0,_=>none
 | k+1,x=>er N (bP N k) x
noncomputable def TG (N:Nat) (k:Nat):Cut:=Sq.cut (bP N k)
theorem Pw (N:Nat) (k:Nat):al Tryz.prog false Tryz.f231 [0] 6 (TG N k) :=
 Sq.loopT ag ap (xz N) Tryz.f231 [0] (cuts:=[]) trivial (by decide +kernel) (by kernel_rfl) (er N) (bP N) (fun _=>rfl) (fun _ _=>rfl) (fun f x=>by kernel_rfl) k
@[reducible] def w231:List SP:=[⟨[.tup []],[.row (.int .u8) 5]⟩]
noncomputable def oC (N:Nat):(Nat×Nat×(List Int))→Option ((List Int))
 | (x0,x1,x2) =>
 Option.bind (bP N N ((0:Int),IntKind.wrap IntKind.i64 ((↑x1:Int)-(1:Int)),x0,x1,x2)) fun y0 =>
 some (y0)
noncomputable def aj6 (N:Nat):Pk→Tr Pk:=ah s231 w231 (oC N)
theorem KA (N:Nat):aA Tryz.prog (231) (aj6 N) :=
 (af ag ap (xz N) Tryz.func231 s231 w231 [0] (cuts:=[(6,TG N N)]) ⟨Pw N N,trivial⟩ (fun _=>by kernel_rfl) (by decide +kernel) (oC N) (fun x=>by kernel_rfl))
@[reducible] def s165:SP:=⟨[.str],[]⟩
noncomputable def ZV (N:Nat):List (Nat×(Pk→Tr Pk)):=[(231,aj6 N)]
theorem NV (N:Nat):ai Tryz.prog (ZV N):=⟨KA N,trivial⟩
@[reducible] def w165:List SP:=[⟨[.str],[]⟩]
noncomputable def wS (N:Nat):(ByteArray)→Option (ByteArray)
 | x0 =>
 ac (decide (ByteArray.size x0≤(140737488355328:Nat))) (
  Option.bind (oC N ((0:Nat),List.length (bytesOf x0),bytesOf x0)) fun y0 =>
  some (aE y0)) (
  none )
noncomputable def ak3 (N:Nat):Pk→Tr Pk:=ah s165 w165 (wS N)
theorem KH (N:Nat):aA Tryz.prog (165) (ak3 N) :=
 (af ag ap (NV N) Tryz.func165 s165 w165 [] (cuts:=[]) trivial (fun _=>by kernel_rfl) (by decide +kernel) (wS N) (fun x=>by kernel_rfl))
@[reducible] def s173:SP:=⟨[.adr 0 [],.int .i64,.fn 165],[.var 189 (.agg [.str,.int .i64,.int .i64])]⟩
noncomputable def ZT (N:Nat):List (Nat×(Pk→Tr Pk)):=[(230,aj7 N),(206,ak1 N),(135,Sd N),(165,ak3 N)]
theorem xE (N:Nat):ai Tryz.prog (ZT N):=⟨KB N,KF N,rW N,KH N,trivial⟩
@[reducible] def E0:LD:=⟨122,[7,22,21,20],[(.ret,[6]),(.exit 0,[7])],⟨[.int .i64,.int .i64,.int .i64,.sl 1],[.var 189 (.agg [.str,.int .i64,.int .i64]),.row (.int .u8) 5]⟩,[(.exit 0,⟨[.int .i64],[.var 189 (.agg [.str,.int .i64,.int .i64])]⟩)]⟩
abbrev vF:Type:=Int×Int×Int×ByteArray×Int×Int×(List Int)
abbrev uQ:Type:=Int×ByteArray×Int×Int
noncomputable def iu (N:Nat) (f:vF→Option uQ):vF→Option uQ
 | (x0,x1,x2,x3,x4,x5,x6) =>
 ac (decide (x1<x2)) (
  ac (within x1 (List.length x6)) (
   Option.bind (x6[Int.toNat x1]?) fun y0 =>
   ac (decide (IntKind.wrap IntKind.i64 ((8:Int)*x1)<(0:Int))) (
    none ) (
    Option.bind (f (IntKind.wrap IntKind.i64 (↑(BitVec.toNat (BitVec.ofInt (64:Nat) x0 ||| BitVec.ofInt (64:Nat) (IntKind.wrap IntKind.i64 (IntKind.wrap IntKind.i64 y0*(2:Int)^min (Int.toNat (IntKind.wrap IntKind.i64 ((8:Int)*x1))) (64:Nat))))):Int),IntKind.wrap IntKind.i64 (x1+(1:Int)),x2,x3,x4,x5,x6)) fun r=>some r)) (
   none )) (
  some ((x0,x3,x4,x5)))
noncomputable def cO (N:Nat):Nat→vF→Option uQ
 | 0,_=>none
 | k+1,x=>iu N (cO N k) x
noncomputable def Gr (N:Nat) (k:Nat):Cut:=E0.cut (cO N k)
theorem Gq (N:Nat) (k:Nat):al Tryz.prog false Tryz.f173 [0] 122 (Gr N k) :=
 E0.loopT ag ap (xE N) Tryz.f173 [0] (cuts:=[]) trivial (by decide +kernel) (by kernel_rfl) (iu N) (cO N) (fun _=>rfl) (fun _ _=>rfl) (fun f x=>by kernel_rfl) k
@[reducible] def w173:List SP:=[⟨[.int .i64],[.var 189 (.agg [.str,.int .i64,.int .i64])]⟩]
noncomputable def Xr (N:Nat):(Int×ByteArray×Int×Int)→Option (Int×ByteArray×Int×Int)
 | (x0,x1,x2,x3) =>
 Option.bind (S4 N x0) fun y0 =>
 ac (!y0) (
  Option.bind (IK N ((1:Int),x1,x2,x3)) fun y1 =>
  Option.bind (mW N (x0,y1.1,y1.2.1,y1.2.2)) fun y2 =>
  Option.bind (wS N y2.1) fun y3 =>
  ac (decide (ByteArray.size y3≤(140737488355328:Nat))) (
   Option.bind (cO N N ((0:Int),(0:Int),(↑(List.length (bytesOf y3)):Int),y2.2.1,y2.2.2.1,y2.2.2.2,bytesOf y3)) fun y4 =>
   some ((y4.1,y4.2.1,y4.2.2.1,y4.2.2.2))) (
   none )) (
  Option.bind (mW N (x0,x1,x2,x3)) fun y5 =>
  Option.bind (wS N y5.1) fun y6 =>
  ac (decide (ByteArray.size y6≤(140737488355328:Nat))) (
   Option.bind (cO N N ((0:Int),(0:Int),(↑(List.length (bytesOf y6)):Int),y5.2.1,y5.2.2.1,y5.2.2.2,bytesOf y6)) fun y7 =>
   some ((y7.1,y7.2.1,y7.2.2.1,y7.2.2.2))) (
   none ))
noncomputable def aF2 (N:Nat):Pk→Tr Pk:=ah s173 w173 (Xr N)
theorem Wp (N:Nat):aA Tryz.prog (173) (aF2 N) :=
 (af ag ap (xE N) Tryz.func173 s173 w173 [0] (cuts:=[(122,Gr N N)]) ⟨Gq N N,trivial⟩ (fun _=>by kernel_rfl) (by decide +kernel) (Xr N) (fun x=>by kernel_rfl))
@[reducible] def s105:SP:=⟨[.adr 0 [],.int .i64],[.var 189 (.agg [.str,.int .i64,.int .i64])]⟩
noncomputable def ab1 (N:Nat):List (Nat×(Pk→Tr Pk)):=[(173,aF2 N)]
theorem Oc (N:Nat):ai Tryz.prog (ab1 N):=⟨Wp N,trivial⟩
@[reducible] def w105:List SP:=[⟨[.int .i64],[.var 189 (.agg [.str,.int .i64,.int .i64])]⟩]
noncomputable def v8 (N:Nat):(Int×ByteArray×Int×Int)→Option (Int×ByteArray×Int×Int)
 | (x0,x1,x2,x3) =>
 Option.bind (Xr N (x0,x1,x2,x3)) fun y0 =>
 some ((y0.1,y0.2.1,y0.2.2.1,y0.2.2.2))
noncomputable def OU (N:Nat):Pk→Tr Pk:=ah s105 w105 (v8 N)
theorem nU (N:Nat):aA Tryz.prog (105) (OU N) :=
 (af ag ap (Oc N) Tryz.func105 s105 w105 [0] (cuts:=[]) trivial (fun _=>by kernel_rfl) (by decide +kernel) (v8 N) (fun x=>by kernel_rfl))
@[reducible] def s84:SP:=⟨[.radr y2 [.i 0 3]],[]⟩
noncomputable def as7 (N:Nat):List (Nat×(Pk→Tr Pk)):=[]
theorem Qk (N:Nat):ai Tryz.prog (as7 N):=trivial
@[reducible] def w84:List SP:=[⟨[.int .i64],[]⟩]
noncomputable def TR (N:Nat):((ByteArray×(Int×(Int×Unit))))→Option (Int)
 | x0 =>
 some x0.2.2.1
noncomputable def T84 (N:Nat):Pk→Tr Pk:=ah s84 w84 (TR N)
theorem pI (N:Nat):aA Tryz.prog (84) (T84 N) :=
 (af ag ap (Qk N) Tryz.func84 s84 w84 [] (cuts:=[]) trivial (fun _=>by kernel_rfl) (by decide +kernel) (TR N) (fun x=>by kernel_rfl))
@[reducible] def s264:SP:=⟨[.agg [.int .i64,.int .i64,.bool,.bool,.int .i64,.int .i64,.int .i64,.int .i64,.int .i64,.int .i64],.int .i64,.str],[]⟩
noncomputable def Zt (N:Nat):List (Nat×(Pk→Tr Pk)):=[(39,XU N)]
theorem xx (N:Nat):ai Tryz.prog (Zt N):=⟨mC N,trivial⟩
@[reducible] def EV:LD:=⟨122,[8,21,20,1,3,2],[(.ret,[6,7]),(.exit 1,[8])],⟨[.int .i64,.int .i64,.int .i64,.int .i64,.adr 0 [],.str],[.var 43 (.agg [.int .i64,.int .i64,.bool,.bool,.int .i64,.int .i64,.int .i64,.int .i64,.int .i64,.int .i64])]⟩,[(.exit 1,⟨[.int .i64],[]⟩)]⟩
abbrev vz:Type:=Int×Int×Int×Int×ByteArray×Int×Int×Bool×Bool×Int×Int×Int×Int×Int×Int
abbrev uK:Type:=Int
noncomputable def ir (N:Nat) (f:vz→Option uK):vz→Option uK
 | (x0,x1,x2,x3,x4,x5,x6,x7,x8,x9,x10,x11,x12,x13,x14) =>
 ac (decide (x1<x2)) (
  ac (x7) (
   ac (decide ((0:Int)≤x1)) (
    Option.bind (x4[Int.toNat x1]?) fun y0 =>
    Option.bind (f (IntKind.wrap IntKind.i64 (↑(BitVec.toNat (BitVec.ofInt (64:Nat) (IntKind.wrap IntKind.i64 (x0*(256:Int))) ||| BitVec.ofInt (64:Nat) (IntKind.wrap IntKind.i64 (↑(UInt8.toNat y0):Int)))):Int),IntKind.wrap IntKind.i64 (x1+(1:Int)),x2,x3,x4,x5,x6,x7,x8,x9,x10,x11,x12,x13,x14)) fun r=>some r) (
    none )) (
   ac (decide ((0:Int)≤IntKind.wrap IntKind.i64 (IntKind.wrap IntKind.i64 (x3-(1:Int))-x1))) (
    Option.bind (x4[Int.toNat (IntKind.wrap IntKind.i64 (IntKind.wrap IntKind.i64 (x3-(1:Int))-x1))]?) fun y1 =>
    Option.bind (f (IntKind.wrap IntKind.i64 (↑(BitVec.toNat (BitVec.ofInt (64:Nat) (IntKind.wrap IntKind.i64 (x0*(256:Int))) ||| BitVec.ofInt (64:Nat) (IntKind.wrap IntKind.i64 (↑(UInt8.toNat y1):Int)))):Int),IntKind.wrap IntKind.i64 (x1+(1:Int)),x2,x3,x4,x5,x6,x7,x8,x9,x10,x11,x12,x13,x14)) fun r=>some r) (
    none ))) (
  some (x0))
noncomputable def dv (N:Nat):Nat→vz→Option uK
 | 0,_=>none
 | k+1,x=>ir N (dv N k) x
noncomputable def Gk (N:Nat) (k:Nat):Cut:=EV.cut (dv N k)
theorem Gj (N:Nat) (k:Nat):al Tryz.prog false Tryz.f264 [] 122 (Gk N k) :=
 EV.loopT ag ap (xx N) Tryz.f264 [] (cuts:=[]) trivial (by decide +kernel) (by kernel_rfl) (ir N) (dv N) (fun _=>rfl) (fun _ _=>rfl) (fun f x=>by kernel_rfl) k
@[reducible] def w264:List SP:=[⟨[.tup [.int .i64,.int .i64]],[]⟩]
noncomputable def Xl (N:Nat):(Int×Int×Bool×Bool×Int×Int×Int×Int×Int×Int×Int×ByteArray)→Option (Int×Int)
 | (x0,x1,x2,x3,x4,x5,x6,x7,x8,x9,x10,x11) =>
 Option.bind (SF N (x0,x1,x2,x3,x4,x5,x6,x7,x8,x9)) fun y0 =>
 ac (!y0) (
  some (((0:Int),(130:Int)))) (
  ac (decide ((↑(ByteArray.size x11):Int)<x10)) (
   some (((0:Int),(2:Int)))) (
   Option.bind (dv N N ((0:Int),(0:Int),x10,x10,x11,x0,x1,x2,x3,x4,x5,x6,x7,x8,x9)) fun y1 =>
   some ((y1,(0:Int)))))
noncomputable def aD6 (N:Nat):Pk→Tr Pk:=ah s264 w264 (Xl N)
theorem V6 (N:Nat):aA Tryz.prog (264) (aD6 N) :=
 (af ag ap (xx N) Tryz.func264 s264 w264 [] (cuts:=[(122,Gk N N)]) ⟨Gj N N,trivial⟩ (fun _=>by kernel_rfl) (by decide +kernel) (Xl N) (fun x=>by kernel_rfl))
@[reducible] def s210:SP:=⟨[.agg [.int .i64,.int .i64,.bool,.bool,.int .i64,.int .i64,.int .i64,.int .i64,.int .i64,.int .i64],.str],[]⟩
noncomputable def ZN (N:Nat):List (Nat×(Pk→Tr Pk)):=[(37,T37 N),(264,aD6 N)]
theorem NR (N:Nat):ai Tryz.prog (ZN N):=⟨AX N,V6 N,trivial⟩
@[reducible] def w210:List SP:=[⟨[.tup [.int .i64,.int .i64]],[]⟩]
noncomputable def Tc (N:Nat):(Int×Int×Bool×Bool×Int×Int×Int×Int×Int×Int×ByteArray)→Option (Int×Int)
 | (x0,x1,x2,x3,x4,x5,x6,x7,x8,x9,x10) =>
 Option.bind (Fg N (x0,x1,x2,x3,x4,x5,x6,x7,x8,x9)) fun y0 =>
 Option.bind (Xl N (x0,x1,x2,x3,x4,x5,x6,x7,x8,x9,y0.1,x10)) fun y1 =>
 ac (decide (y0.2<(0:Int))) (
  none ) (
  some ((IntKind.wrap IntKind.i64 (y1.1*(2:Int)^min (Int.toNat y0.2) (64:Nat)),y1.2)))
noncomputable def aE8 (N:Nat):Pk→Tr Pk:=ah s210 w210 (Tc N)
theorem Wl (N:Nat):aA Tryz.prog (210) (aE8 N) :=
 (af ag ap (NR N) Tryz.func210 s210 w210 [] (cuts:=[]) trivial (fun _=>by kernel_rfl) (by decide +kernel) (Tc N) (fun x=>by kernel_rfl))
@[reducible] def s142:SP:=⟨[.agg [.adr 0 [],.agg [.int .i64,.int .i64,.bool,.bool,.int .i64,.int .i64,.int .i64,.int .i64,.int .i64,.int .i64],.int .i64]],[.var 189 (.agg [.str,.int .i64,.int .i64])]⟩
noncomputable def aa2 (N:Nat):List (Nat×(Pk→Tr Pk)):=[(135,Sd N),(210,aE8 N)]
theorem N4 (N:Nat):ai Tryz.prog (aa2 N):=⟨rW N,Wl N,trivial⟩
@[reducible] def w142:List SP:=[⟨[.int .i64],[.var 189 (.agg [.str,.int .i64,.int .i64])]⟩]
noncomputable def IQ (N:Nat):(Int×Int×Bool×Bool×Int×Int×Int×Int×Int×Int×Int×ByteArray×Int×Int)→Option (Int×ByteArray×Int×Int)
 | (x0,x1,x2,x3,x4,x5,x6,x7,x8,x9,x10,x11,x12,x13) =>
 Option.bind (mW N (x10,x11,x12,x13)) fun y0 =>
 Option.bind (Tc N (x0,x1,x2,x3,x4,x5,x6,x7,x8,x9,y0.1)) fun y1 =>
 some ((y1.1,y0.2.1,y0.2.2.1,y0.2.2.2))
noncomputable def WG (N:Nat):Pk→Tr Pk:=ah s142 w142 (IQ N)
theorem A8 (N:Nat):aA Tryz.prog (142) (WG N) :=
 (af ag ap (N4 N) Tryz.func142 s142 w142 [0] (cuts:=[]) trivial (fun _=>by kernel_rfl) (by decide +kernel) (IQ N) (fun x=>by kernel_rfl))
@[reducible] def s141:SP:=⟨[.agg [.adr 0 [],.agg [.int .i64,.int .i64,.bool,.bool,.int .i64,.int .i64,.int .i64,.int .i64,.int .i64,.int .i64],.int .i64],.int .i64],[.var 189 (.agg [.str,.int .i64,.int .i64])]⟩
noncomputable def aa3 (N:Nat):List (Nat×(Pk→Tr Pk)):=[(142,WG N)]
theorem xL (N:Nat):ai Tryz.prog (aa3 N):=⟨A8 N,trivial⟩
@[reducible] def Lo:LD:=⟨58,[5,7,6,2],[(.ret,[4]),(.exit 0,[5])],⟨[.sl 1,.int .i64,.int .i64,.adr 2 []],[.var 189 (.agg [.str,.int .i64,.int .i64]),.row (.int .i64) 3,.var 124 (.agg [.adr 0 [],.agg [.int .i64,.int .i64,.bool,.bool,.int .i64,.int .i64,.int .i64,.int .i64,.int .i64,.int .i64],.int .i64])]⟩,[(.exit 0,⟨[.sl 1],[.var 189 (.agg [.str,.int .i64,.int .i64]),.row (.int .i64) 3]⟩)]⟩
abbrev CK:Type:=Int×Int×ByteArray×Int×Int×(List Int)×Int×Int×Bool×Bool×Int×Int×Int×Int×Int×Int×Int
abbrev BP:Type:=ByteArray×Int×Int×(List Int)
noncomputable def lV (N:Nat) (f:CK→Option BP):CK→Option BP
 | (x0,x1,x2,x3,x4,x5,x6,x7,x8,x9,x10,x11,x12,x13,x14,x15,x16) =>
 ac (decide (x0<x1)) (
  Option.bind (IQ N (x6,x7,x8,x9,x10,x11,x12,x13,x14,x15,x16,x2,x3,x4)) fun y0 =>
  ac (decide ((List.length x5+List.length [y0.1])*(8:Nat)≤(140737488355328:Nat)∧List.length x5+List.length [y0.1]≤(140737488355328:Nat))) (
   Option.bind (f (IntKind.wrap IntKind.i64 (x0+(1:Int)),x1,y0.2.1,y0.2.2.1,y0.2.2.2,x5++[y0.1],x6,x7,x8,x9,x10,x11,x12,x13,x14,x15,x16)) fun r=>some r) (
   none )) (
  some ((x2,x3,x4,x5)))
noncomputable def eM (N:Nat):Nat→CK→Option BP
 | 0,_=>none
 | k+1,x=>lV N (eM N k) x
noncomputable def Mj (N:Nat) (k:Nat):Cut:=Lo.cut (eM N k)
theorem Jq (N:Nat) (k:Nat):al Tryz.prog false Tryz.f141 [0] 58 (Mj N k) :=
 Lo.loopT ag ap (xL N) Tryz.f141 [0] (cuts:=[]) trivial (by decide +kernel) (by kernel_rfl) (lV N) (eM N) (fun _=>rfl) (fun _ _=>rfl) (fun f x=>by kernel_rfl) k
@[reducible] def w141:List SP:=[⟨[.sl 1],[.var 189 (.agg [.str,.int .i64,.int .i64]),.row (.int .i64) 3]⟩]
noncomputable def IR (N:Nat):(Int×Int×Bool×Bool×Int×Int×Int×Int×Int×Int×Int×Int×ByteArray×Int×Int)→Option (ByteArray×Int×Int×(List Int))
 | (x0,x1,x2,x3,x4,x5,x6,x7,x8,x9,x10,x11,x12,x13,x14) =>
 Option.bind (eM N N ((0:Int),x11,x12,x13,x14,[],x0,x1,x2,x3,x4,x5,x6,x7,x8,x9,x10)) fun y0 =>
 some ((y0.1,y0.2.1,y0.2.2.1,y0.2.2.2))
noncomputable def WH (N:Nat):Pk→Tr Pk:=ah s141 w141 (IR N)
theorem A9 (N:Nat):aA Tryz.prog (141) (WH N) :=
 (af ag ap (xL N) Tryz.func141 s141 w141 [0] (cuts:=[(58,Mj N N)]) ⟨Jq N N,trivial⟩ (fun _=>by kernel_rfl) (by decide +kernel) (IR N) (fun x=>by kernel_rfl))
@[reducible] def s211:SP:=⟨[.int .i64],[]⟩
noncomputable def ZM (N:Nat):List (Nat×(Pk→Tr Pk)):=[]
theorem NQ (N:Nat):ai Tryz.prog (ZM N):=trivial
@[reducible] def w211:List SP:=[⟨[.int .i64],[]⟩]
noncomputable def Pf (N:Nat):(Int)→Option (Int)
 | x0 =>
 ac (decide (x0≤(2:Int))) (
  some ((1:Int))) (
  ac (decide (x0≤(4:Int))) (
   some ((2:Int))) (
   some ((4:Int))))
noncomputable def ak0 (N:Nat):Pk→Tr Pk:=ah s211 w211 (Pf N)
theorem KE (N:Nat):aA Tryz.prog (211) (ak0 N) :=
 (af ag ap (NQ N) Tryz.func211 s211 w211 [] (cuts:=[]) trivial (fun _=>by kernel_rfl) (by decide +kernel) (Pf N) (fun x=>by kernel_rfl))
@[reducible] def s143:SP:=⟨[.agg [.adr 0 [],.agg [.int .i64,.int .i64,.bool,.bool,.int .i64,.int .i64,.int .i64,.int .i64,.int .i64,.int .i64],.int .i64],.int .i64,.int .i64,.int .i64],[.var 189 (.agg [.str,.int .i64,.int .i64])]⟩
noncomputable def aa1 (N:Nat):List (Nat×(Pk→Tr Pk)):=[(141,WH N),(211,ak0 N),(135,Sd N),(84,T84 N)]
theorem pa (N:Nat):ai Tryz.prog (aa1 N):=⟨A9 N,KE N,rW N,pI N,trivial⟩
@[reducible] def q8:LD:=⟨128206,[37,2,4,22,23,13,11,1,10,38,12],[(.ret,[8,9]),(.exit 2,[23,12,10,1,11,22,4,2]),(.exit 1,[23,12,10,1,11,22,4,2]),(.exit 0,[12])],⟨[.int .i64,.int .i64,.adr 1 [],.int .i64,.int .i64,.str,.int .i64,.int .i64,.sl 2,.int .i64,.sl 3],[.var 189 (.agg [.str,.int .i64,.int .i64]),.var 124 (.agg [.adr 0 [],.agg [.int .i64,.int .i64,.bool,.bool,.int .i64,.int .i64,.int .i64,.int .i64,.int .i64,.int .i64],.int .i64]),.row (.int .i64) 3,.row (.int .i64) 3]⟩,[(.ret,⟨[.sl 1,.bool],[.var 189 (.agg [.str,.int .i64,.int .i64]),.row (.int .i64) 3]⟩),(.exit 2,⟨[.int .i64,.sl 1,.sl 2,.int .i64,.int .i64,.int .i64,.adr 3 [],.int .i64],[.var 189 (.agg [.str,.int .i64,.int .i64]),.row (.int .i64) 3,.row (.int .i64) 3,.var 124 (.agg [.adr 0 [],.agg [.int .i64,.int .i64,.bool,.bool,.int .i64,.int .i64,.int .i64,.int .i64,.int .i64,.int .i64],.int .i64])]⟩)]⟩
abbrev km:Type:=Int×Int×Int×Int×ByteArray×Int×Int×Int×ByteArray×Int×Int×Int×Int×Bool×Bool×Int×Int×Int×Int×Int×Int×Int×(List Int)×(List Int)
abbrev j8:Type:=((Bool×ByteArray×Int×Int×(List Int))⊕(Int×Int×Int×Int×Int×ByteArray×Int×Int×(List Int)×(List Int)×Int×Int×Bool×Bool×Int×Int×Int×Int×Int×Int×Int))
noncomputable def dh (N:Nat) (f:km→Option j8):km→Option j8
 | (x0,x1,x2,x3,x4,x5,x6,x7,x8,x9,x10,x11,x12,x13,x14,x15,x16,x17,x18,x19,x20,x21,x22,x23) =>
 ac (decide (x7<x0)) (
  ac (decide ((0:Int)≤IntKind.wrap IntKind.i64 (Int.tdiv (IntKind.wrap IntKind.i64 (x7*x5)) (8:Int)))) (
   Option.bind (x4[Int.toNat (IntKind.wrap IntKind.i64 (Int.tdiv (IntKind.wrap IntKind.i64 (x7*x5)) (8:Int)))]?) fun y0 =>
   ac (decide (IntKind.wrap IntKind.i64 (IntKind.wrap IntKind.i64 ((8:Int)-x5)-Int.tmod (IntKind.wrap IntKind.i64 (x7*x5)) (8:Int))<(0:Int))) (
    none ) (
    ac (decide (x5<(0:Int))) (
     none ) (
     ac (decide (IntKind.wrap IntKind.i64 (↑(BitVec.toNat (BitVec.ofInt (64:Nat) (Int.fdiv (IntKind.wrap IntKind.i64 (↑(UInt8.toNat y0):Int)) ((2:Int)^min (Int.toNat (IntKind.wrap IntKind.i64 (IntKind.wrap IntKind.i64 ((8:Int)-x5)-Int.tmod (IntKind.wrap IntKind.i64 (x7*x5)) (8:Int)))) (64:Nat))) &&& BitVec.ofInt (64:Nat) (IntKind.wrap IntKind.i64 (IntKind.wrap IntKind.i64 ((1:Int)*(2:Int)^min (Int.toNat x5) (64:Nat))-(1:Int))))):Int)≥x6)) (
      some (.inl ((false,x8,x9,x10,[])))) (
      ac (within (IntKind.wrap IntKind.i64 (↑(BitVec.toNat (BitVec.ofInt (64:Nat) (Int.fdiv (IntKind.wrap IntKind.i64 (↑(UInt8.toNat y0):Int)) ((2:Int)^min (Int.toNat (IntKind.wrap IntKind.i64 (IntKind.wrap IntKind.i64 ((8:Int)-x5)-Int.tmod (IntKind.wrap IntKind.i64 (x7*x5)) (8:Int)))) (64:Nat))) &&& BitVec.ofInt (64:Nat) (IntKind.wrap IntKind.i64 (IntKind.wrap IntKind.i64 ((1:Int)*(2:Int)^min (Int.toNat x5) (64:Nat))-(1:Int))))):Int)) (List.length x22)) (
       Option.bind (x22[Int.toNat (IntKind.wrap IntKind.i64 (↑(BitVec.toNat (BitVec.ofInt (64:Nat) (Int.fdiv (IntKind.wrap IntKind.i64 (↑(UInt8.toNat y0):Int)) ((2:Int)^min (Int.toNat (IntKind.wrap IntKind.i64 (IntKind.wrap IntKind.i64 ((8:Int)-x5)-Int.tmod (IntKind.wrap IntKind.i64 (x7*x5)) (8:Int)))) (64:Nat))) &&& BitVec.ofInt (64:Nat) (IntKind.wrap IntKind.i64 (IntKind.wrap IntKind.i64 ((1:Int)*(2:Int)^min (Int.toNat x5) (64:Nat))-(1:Int))))):Int))]?) fun y1 =>
       ac (decide ((List.length x23+List.length [y1])*(8:Nat)≤(140737488355328:Nat)∧List.length x23+List.length [y1]≤(140737488355328:Nat))) (
        Option.bind (f (x0,x1,x2,x3,x4,x5,x6,IntKind.wrap IntKind.i64 (x7+(1:Int)),x8,x9,x10,x11,x12,x13,x14,x15,x16,x17,x18,x19,x20,x21,x22,x23++[y1])) fun r=>match r with|.inl y=>some (.inl y)|.inr y=>some (.inr y)) (
        none )) (
       none ))))) (
   none )) (
  some (.inr ((x3,x6,x5,x2,x1,x8,x9,x10,x23,x22,x11,x12,x13,x14,x15,x16,x17,x18,x19,x20,x21))))
noncomputable def a7 (N:Nat):Nat→km→Option j8
 | 0,_=>none
 | k+1,x=>dh N (a7 N k) x
noncomputable def kM (N:Nat) (k:Nat):Cut:=q8.cut (a7 N k)
theorem kL (N:Nat) (k:Nat):al Tryz.prog false Tryz.f143 [0] 128206 (kM N k) :=
 q8.loopT ag ap (pa N) Tryz.f143 [0] (cuts:=[]) trivial (by decide +kernel) (by kernel_rfl) (dh N) (a7 N) (fun _=>rfl) (fun _ _=>rfl) (fun f x=>by kernel_rfl) k
@[reducible] def E4:LD:=⟨250,[12,10,1,11,23,22,4,2],[(.ret,[8,9]),(.exit 0,[12])],⟨[.sl 1,.sl 2,.int .i64,.int .i64,.int .i64,.int .i64,.adr 3 [],.int .i64],[.var 189 (.agg [.str,.int .i64,.int .i64]),.row (.int .i64) 3,.row (.int .i64) 3,.var 124 (.agg [.adr 0 [],.agg [.int .i64,.int .i64,.bool,.bool,.int .i64,.int .i64,.int .i64,.int .i64,.int .i64,.int .i64],.int .i64])]⟩,[(.ret,⟨[.sl 1,.bool],[.var 189 (.agg [.str,.int .i64,.int .i64]),.row (.int .i64) 3]⟩),(.exit 0,⟨[.sl 1],[.var 189 (.agg [.str,.int .i64,.int .i64]),.row (.int .i64) 3]⟩)]⟩
abbrev vL:Type:=Int×Int×Int×Int×Int×ByteArray×Int×Int×(List Int)×(List Int)×Int×Int×Bool×Bool×Int×Int×Int×Int×Int×Int×Int
abbrev uW:Type:=((Bool×ByteArray×Int×Int×(List Int))⊕(ByteArray×Int×Int×(List Int)))
noncomputable def iy (N:Nat) (f:vL→Option uW):vL→Option uW
 | (x0,x1,x2,x3,x4,x5,x6,x7,x8,x9,x10,x11,x12,x13,x14,x15,x16,x17,x18,x19,x20) =>
 ac (decide (x2<x3)) (
  Option.bind (mW N (IntKind.wrap IntKind.i64 (Int.tdiv (IntKind.wrap IntKind.i64 (IntKind.wrap IntKind.i64 (x4*x1)+(7:Int))) (8:Int)),x5,x6,x7)) fun y0 =>
  Option.bind (TR N (y0.2.1,y0.2.2.1,y0.2.2.2,())) fun y1 =>
  ac (y1 != (0:Int)) (
   some (.inl ((false,y0.2.1,y0.2.2.1,y0.2.2.2,[])))) (
   Option.bind (a7 N N (x4,x4,x3,x2,y0.1,x1,x0,(0:Int),y0.2.1,y0.2.2.1,y0.2.2.2,x10,x11,x12,x13,x14,x15,x16,x17,x18,x19,x20,x9,x8)) fun y2 =>
   match y2 with
   | .inl y3 =>
    some (.inl ((y3.1,y3.2.1,y3.2.2.1,y3.2.2.2.1,y3.2.2.2.2)))
   | .inr (y3_0,y3_1,y3_2,y3_3,y3_4,y3_5,y3_6,y3_7,y3_8,y3_9,y3_10,y3_11,y3_12,y3_13,y3_14,y3_15,y3_16,y3_17,y3_18,y3_19,y3_20) =>
    Option.bind (f (y3_1,y3_2,IntKind.wrap IntKind.i64 (y3_0+(1:Int)),y3_3,y3_4,y3_5,y3_6,y3_7,y3_8,y3_9,y3_10,y3_11,y3_12,y3_13,y3_14,y3_15,y3_16,y3_17,y3_18,y3_19,y3_20)) fun r=>match r with|.inl y=>some (.inl y)|.inr y=>some (.inr y))) (
  some (.inr ((x5,x6,x7,x8))))
noncomputable def ca (N:Nat):Nat→vL→Option uW
 | 0,_=>none
 | k+1,x=>iy N (ca N k) x
noncomputable def Gz (N:Nat) (k:Nat):Cut:=E4.cut (ca N k)
theorem Gy (N:Nat) (k:Nat):al Tryz.prog false Tryz.f143 [0] 250 (Gz N k) :=
 E4.loopT ag ap (pa N) Tryz.f143 [0] (cuts:=[(128206,kM N N)]) ⟨kL N N,trivial⟩ (by decide +kernel) (by kernel_rfl) (iy N) (ca N) (fun _=>rfl) (fun _ _=>rfl) (fun f x=>by kernel_rfl) k
@[reducible] def w143:List SP:=[⟨[.tup [.sl 1,.bool]],[.var 189 (.agg [.str,.int .i64,.int .i64]),.row (.int .i64) 3]⟩]
noncomputable def Tp (N:Nat):(Int×Int×Bool×Bool×Int×Int×Int×Int×Int×Int×Int×Int×Int×Int×ByteArray×Int×Int)→Option (Bool×ByteArray×Int×Int×(List Int))
 | (x0,x1,x2,x3,x4,x5,x6,x7,x8,x9,x10,x11,x12,x13,x14,x15,x16) =>
 Option.bind (IR N (x0,x1,x2,x3,x4,x5,x6,x7,x8,x9,x10,x11,x14,x15,x16)) fun y0 =>
 Option.bind (Pf N x11) fun y1 =>
 Option.bind (ca N N (x11,y1,(0:Int),x13,x12,y0.1,y0.2.1,y0.2.2.1,[],y0.2.2.2,x0,x1,x2,x3,x4,x5,x6,x7,x8,x9,x10)) fun y2 =>
 match y2 with
 | .inl y3 =>
  some ((y3.1,y3.2.1,y3.2.2.1,y3.2.2.2.1,y3.2.2.2.2))
 | .inr y3 =>
  some ((true,y3.1,y3.2.1,y3.2.2.1,y3.2.2.2))
noncomputable def aG6 (N:Nat):Pk→Tr Pk:=ah s143 w143 (Tp N)
theorem WF (N:Nat):aA Tryz.prog (143) (aG6 N) :=
 (af ag ap (pa N) Tryz.func143 s143 w143 [0] (cuts:=[(128206,kM N N),(250,Gz N N)]) ⟨kL N N,Gy N N,trivial⟩ (fun _=>by kernel_rfl) (by decide +kernel) (Tp N) (fun x=>by kernel_rfl))
@[reducible] def s265:SP:=⟨[.agg [.adr 0 [],.agg [.int .i64,.int .i64,.bool,.bool,.int .i64,.int .i64,.int .i64,.int .i64,.int .i64,.int .i64],.int .i64]],[.var 189 (.agg [.str,.int .i64,.int .i64])]⟩
noncomputable def Zs (N:Nat):List (Nat×(Pk→Tr Pk)):=[(105,OU N)]
theorem xw (N:Nat):ai Tryz.prog (Zs N):=⟨nU N,trivial⟩
@[reducible] def Lf:LD:=⟨58,[4,3,1],[(.ret,[2]),(.exit 0,[3])],⟨[.int .i64,.int .i64,.adr 1 []],[.var 189 (.agg [.str,.int .i64,.int .i64]),.var 124 (.agg [.adr 0 [],.agg [.int .i64,.int .i64,.bool,.bool,.int .i64,.int .i64,.int .i64,.int .i64,.int .i64,.int .i64],.int .i64])]⟩,[(.exit 0,⟨[.int .i64],[.var 189 (.agg [.str,.int .i64,.int .i64])]⟩)]⟩
abbrev Cw:Type:=Int×Int×ByteArray×Int×Int×Int×Int×Bool×Bool×Int×Int×Int×Int×Int×Int×Int
abbrev BF:Type:=Int×ByteArray×Int×Int
noncomputable def lQ (N:Nat) (f:Cw→Option BF):Cw→Option BF
 | (x0,x1,x2,x3,x4,x5,x6,x7,x8,x9,x10,x11,x12,x13,x14,x15) =>
 ac (x0==(255:Int)) (
  Option.bind (v8 N ((1:Int),x2,x3,x4)) fun y0 =>
  Option.bind (f (y0.1,IntKind.wrap IntKind.i64 (x1+y0.1),y0.2.1,y0.2.2.1,y0.2.2.2,x5,x6,x7,x8,x9,x10,x11,x12,x13,x14,x15)) fun r=>some r) (
  some ((x1,x2,x3,x4)))
noncomputable def dW (N:Nat):Nat→Cw→Option BF
 | 0,_=>none
 | k+1,x=>lQ N (dW N k) x
noncomputable def Mb (N:Nat) (k:Nat):Cut:=Lf.cut (dW N k)
theorem Ji (N:Nat) (k:Nat):al Tryz.prog false Tryz.f265 [0] 58 (Mb N k) :=
 Lf.loopT ag ap (xw N) Tryz.f265 [0] (cuts:=[]) trivial (by decide +kernel) (by kernel_rfl) (lQ N) (dW N) (fun _=>rfl) (fun _ _=>rfl) (fun f x=>by kernel_rfl) k
@[reducible] def w265:List SP:=[⟨[.int .i64],[.var 189 (.agg [.str,.int .i64,.int .i64])]⟩]
noncomputable def O8 (N:Nat):(Int×Int×Bool×Bool×Int×Int×Int×Int×Int×Int×Int×ByteArray×Int×Int)→Option (Int×ByteArray×Int×Int)
 | (x0,x1,x2,x3,x4,x5,x6,x7,x8,x9,x10,x11,x12,x13) =>
 Option.bind (dW N N ((255:Int),(1:Int),x11,x12,x13,x0,x1,x2,x3,x4,x5,x6,x7,x8,x9,x10)) fun y0 =>
 some ((y0.1,y0.2.1,y0.2.2.1,y0.2.2.2))
noncomputable def aD5 (N:Nat):Pk→Tr Pk:=ah s265 w265 (O8 N)
theorem V5 (N:Nat):aA Tryz.prog (265) (aD5 N) :=
 (af ag ap (xw N) Tryz.func265 s265 w265 [0] (cuts:=[(58,Mb N N)]) ⟨Ji N N,trivial⟩ (fun _=>by kernel_rfl) (by decide +kernel) (O8 N) (fun x=>by kernel_rfl))
@[reducible] def s212:SP:=⟨[.agg [.adr 0 [],.agg [.int .i64,.int .i64,.bool,.bool,.int .i64,.int .i64,.int .i64,.int .i64,.int .i64,.int .i64],.int .i64],.ro (.int .i64)],[.var 189 (.agg [.str,.int .i64,.int .i64])]⟩
noncomputable def ZL (N:Nat):List (Nat×(Pk→Tr Pk)):=[(142,WG N),(265,aD5 N),(105,OU N)]
theorem NP (N:Nat):ai Tryz.prog (ZL N):=⟨A8 N,V5 N,nU N,trivial⟩
@[reducible] def w212:List SP:=[⟨[.tup [.int .i64,.int .i64,.bool]],[.var 189 (.agg [.str,.int .i64,.int .i64])]⟩]
noncomputable def C0 (N:Nat):(Int×Int×Bool×Bool×Int×Int×Int×Int×Int×Int×Int×(List Int)×ByteArray×Int×Int)→Option (Int×Int×Bool×ByteArray×Int×Int)
 | (x0,x1,x2,x3,x4,x5,x6,x7,x8,x9,x10,x11,x12,x13,x14) =>
 ac ((↑(List.length x11):Int)==(0:Int)) (
  Option.bind (IQ N (x0,x1,x2,x3,x4,x5,x6,x7,x8,x9,x10,x12,x13,x14)) fun y0 =>
  Option.bind (O8 N (x0,x1,x2,x3,x4,x5,x6,x7,x8,x9,x10,y0.2.1,y0.2.2.1,y0.2.2.2)) fun y1 =>
  some ((y0.1,y1.1,true,y1.2.1,y1.2.2.1,y1.2.2.2))) (
  Option.bind (v8 N ((1:Int),x12,x13,x14)) fun y2 =>
  ac (decide (IntKind.wrap IntKind.i64 (↑(BitVec.toNat (BitVec.ofInt (64:Nat) y2.1 &&& BitVec.ofInt (64:Nat) (127:Int))):Int)≥(↑(List.length x11):Int))) (
   some (((0:Int),(0:Int),false,y2.2.1,y2.2.2.1,y2.2.2.2))) (
   ac (decide (y2.1≥(128:Int))) (
    Option.bind (O8 N (x0,x1,x2,x3,x4,x5,x6,x7,x8,x9,x10,y2.2.1,y2.2.2.1,y2.2.2.2)) fun y3 =>
    ac (within (IntKind.wrap IntKind.i64 (↑(BitVec.toNat (BitVec.ofInt (64:Nat) y2.1 &&& BitVec.ofInt (64:Nat) (127:Int))):Int)) (List.length x11)) (
     Option.bind (x11[Int.toNat (IntKind.wrap IntKind.i64 (↑(BitVec.toNat (BitVec.ofInt (64:Nat) y2.1 &&& BitVec.ofInt (64:Nat) (127:Int))):Int))]?) fun y4 =>
     some ((y4,y3.1,true,y3.2.1,y3.2.2.1,y3.2.2.2))) (
     none )) (
    ac (within (IntKind.wrap IntKind.i64 (↑(BitVec.toNat (BitVec.ofInt (64:Nat) y2.1 &&& BitVec.ofInt (64:Nat) (127:Int))):Int)) (List.length x11)) (
     Option.bind (x11[Int.toNat (IntKind.wrap IntKind.i64 (↑(BitVec.toNat (BitVec.ofInt (64:Nat) y2.1 &&& BitVec.ofInt (64:Nat) (127:Int))):Int))]?) fun y5 =>
     some ((y5,(1:Int),true,y2.2.1,y2.2.2.1,y2.2.2.2))) (
     none ))))
noncomputable def aE7 (N:Nat):Pk→Tr Pk:=ah s212 w212 (C0 N)
theorem Wk (N:Nat):aA Tryz.prog (212) (aE7 N) :=
 (af ag ap (NP N) Tryz.func212 s212 w212 [0] (cuts:=[]) trivial (fun _=>by kernel_rfl) (by decide +kernel) (C0 N) (fun x=>by kernel_rfl))
@[reducible] def s144:SP:=⟨[.agg [.adr 0 [],.agg [.int .i64,.int .i64,.bool,.bool,.int .i64,.int .i64,.int .i64,.int .i64,.int .i64,.int .i64],.int .i64],.int .i64,.int .i64],[.var 189 (.agg [.str,.int .i64,.int .i64])]⟩
noncomputable def aa0 (N:Nat):List (Nat×(Pk→Tr Pk)):=[(141,WH N),(212,aE7 N),(84,T84 N)]
theorem o9 (N:Nat):ai Tryz.prog (aa0 N):=⟨A9 N,Wk N,pI N,trivial⟩
@[reducible] def yO:LD:=⟨7726,[9,44,43,2,3,8,10],[(.ret,[6,7]),(.exit 2,[8,3,2,9]),(.exit 1,[8,3,2,9]),(.exit 0,[9])],⟨[.sl 1,.int .i64,.int .i64,.int .i64,.adr 2 [],.sl 3,.int .i64],[.var 189 (.agg [.str,.int .i64,.int .i64]),.row (.int .i64) 3,.var 124 (.agg [.adr 0 [],.agg [.int .i64,.int .i64,.bool,.bool,.int .i64,.int .i64,.int .i64,.int .i64,.int .i64,.int .i64],.int .i64]),.row (.int .i64) 3]⟩,[(.exit 2,⟨[.sl 1,.adr 2 [],.int .i64,.sl 3],[.var 189 (.agg [.str,.int .i64,.int .i64]),.row (.int .i64) 3,.var 124 (.agg [.adr 0 [],.agg [.int .i64,.int .i64,.bool,.bool,.int .i64,.int .i64,.int .i64,.int .i64,.int .i64,.int .i64],.int .i64]),.row (.int .i64) 3]⟩)]⟩
abbrev qn:Type:=Int×Int×Int×Int×ByteArray×Int×Int×(List Int)×Int×Int×Bool×Bool×Int×Int×Int×Int×Int×Int×Int×(List Int)
abbrev pZ:Type:=Int×ByteArray×Int×Int×(List Int)×Int×Int×Bool×Bool×Int×Int×Int×Int×Int×Int×Int×(List Int)
noncomputable def eY (N:Nat) (f:qn→Option pZ):qn→Option pZ
 | (x0,x1,x2,x3,x4,x5,x6,x7,x8,x9,x10,x11,x12,x13,x14,x15,x16,x17,x18,x19) =>
 ac (decide (x0<x1)) (
  ac (decide ((List.length x7+List.length [x3])*(8:Nat)≤(140737488355328:Nat)∧List.length x7+List.length [x3]≤(140737488355328:Nat))) (
   Option.bind (f (IntKind.wrap IntKind.i64 (x0+(1:Int)),x1,x2,x3,x4,x5,x6,x7++[x3],x8,x9,x10,x11,x12,x13,x14,x15,x16,x17,x18,x19)) fun r=>some r) (
   none )) (
  some ((x2,x4,x5,x6,x19,x8,x9,x10,x11,x12,x13,x14,x15,x16,x17,x18,x7)))
noncomputable def cb (N:Nat):Nat→qn→Option pZ
 | 0,_=>none
 | k+1,x=>eY N (cb N k) x
noncomputable def qC (N:Nat) (k:Nat):Cut:=yO.cut (cb N k)
theorem oN (N:Nat) (k:Nat):al Tryz.prog false Tryz.f144 [0] 7726 (qC N k) :=
 yO.loopT ag ap (o9 N) Tryz.f144 [0] (cuts:=[]) trivial (by decide +kernel) (by kernel_rfl) (eY N) (cb N) (fun _=>rfl) (fun _ _=>rfl) (fun f x=>by kernel_rfl) k
@[reducible] def Ln:LD:=⟨60,[8,3,2,9],[(.ret,[6,7]),(.exit 0,[9])],⟨[.sl 1,.adr 2 [],.int .i64,.sl 3],[.var 189 (.agg [.str,.int .i64,.int .i64]),.row (.int .i64) 3,.var 124 (.agg [.adr 0 [],.agg [.int .i64,.int .i64,.bool,.bool,.int .i64,.int .i64,.int .i64,.int .i64,.int .i64,.int .i64],.int .i64]),.row (.int .i64) 3]⟩,[(.ret,⟨[.sl 1,.bool],[.var 189 (.agg [.str,.int .i64,.int .i64]),.row (.int .i64) 3]⟩),(.exit 0,⟨[.sl 1],[.var 189 (.agg [.str,.int .i64,.int .i64]),.row (.int .i64) 3]⟩)]⟩
abbrev CJ:Type:=Int×ByteArray×Int×Int×(List Int)×Int×Int×Bool×Bool×Int×Int×Int×Int×Int×Int×Int×(List Int)
abbrev BO:Type:=((Bool×ByteArray×Int×Int×(List Int))⊕(ByteArray×Int×Int×(List Int)))
noncomputable def gm (N:Nat) (f:CJ→Option BO):CJ→Option BO
 | (x0,x1,x2,x3,x4,x5,x6,x7,x8,x9,x10,x11,x12,x13,x14,x15,x16) =>
 ac (decide ((↑(List.length x16):Int)<x0)) (
  Option.bind (C0 N (x5,x6,x7,x8,x9,x10,x11,x12,x13,x14,x15,x4,x1,x2,x3)) fun(y0_0,y0_1,y0_2,y0_3,y0_4,y0_5) =>
  ac (!y0_2) (
   some (.inl ((false,y0_3,y0_4,y0_5,[])))) (
   Option.bind (TR N (y0_3,y0_4,y0_5,())) fun y1 =>
   ac (y1 != (0:Int)) (
    some (.inl ((false,y0_3,y0_4,y0_5,[])))) (
    ac (decide (y0_1>IntKind.wrap IntKind.i64 (x0-(↑(List.length x16):Int)))) (
     some (.inl ((false,y0_3,y0_4,y0_5,[])))) (
     Option.bind (cb N N ((0:Int),y0_1,x0,y0_0,y0_3,y0_4,y0_5,x16,x5,x6,x7,x8,x9,x10,x11,x12,x13,x14,x15,x4)) fun(y2_0,y2_1,y2_2,y2_3,y2_4,y2_5,y2_6,y2_7,y2_8,y2_9,y2_10,y2_11,y2_12,y2_13,y2_14,y2_15,y2_16) =>
     Option.bind (f (y2_0,y2_1,y2_2,y2_3,y2_4,y2_5,y2_6,y2_7,y2_8,y2_9,y2_10,y2_11,y2_12,y2_13,y2_14,y2_15,y2_16)) fun r=>match r with|.inl y=>some (.inl y)|.inr y=>some (.inr y))))) (
  some (.inr ((x1,x2,x3,x16))))
noncomputable def cA (N:Nat):Nat→CJ→Option BO
 | 0,_=>none
 | k+1,x=>gm N (cA N k) x
noncomputable def Mi (N:Nat) (k:Nat):Cut:=Ln.cut (cA N k)
theorem Jp (N:Nat) (k:Nat):al Tryz.prog false Tryz.f144 [0] 60 (Mi N k) :=
 Ln.loopT ag ap (o9 N) Tryz.f144 [0] (cuts:=[(7726,qC N N)]) ⟨oN N N,trivial⟩ (by decide +kernel) (by kernel_rfl) (gm N) (cA N) (fun _=>rfl) (fun _ _=>rfl) (fun f x=>by kernel_rfl) k
@[reducible] def w144:List SP:=[⟨[.tup [.sl 1,.bool]],[.var 189 (.agg [.str,.int .i64,.int .i64]),.row (.int .i64) 3]⟩]
noncomputable def FD (N:Nat):(Int×Int×Bool×Bool×Int×Int×Int×Int×Int×Int×Int×Int×Int×ByteArray×Int×Int)→Option (Bool×ByteArray×Int×Int×(List Int))
 | (x0,x1,x2,x3,x4,x5,x6,x7,x8,x9,x10,x11,x12,x13,x14,x15) =>
 Option.bind (IR N (x0,x1,x2,x3,x4,x5,x6,x7,x8,x9,x10,x11,x13,x14,x15)) fun y0 =>
 Option.bind (cA N N (x12,y0.1,y0.2.1,y0.2.2.1,y0.2.2.2,x0,x1,x2,x3,x4,x5,x6,x7,x8,x9,x10,[])) fun y1 =>
 match y1 with
 | .inl y2 =>
  some ((y2.1,y2.2.1,y2.2.2.1,y2.2.2.2.1,y2.2.2.2.2))
 | .inr y2 =>
  some ((true,y2.1,y2.2.1,y2.2.2.1,y2.2.2.2))
noncomputable def aG5 (N:Nat):Pk→Tr Pk:=ah s144 w144 (FD N)
theorem WE (N:Nat):aA Tryz.prog (144) (aG5 N) :=
 (af ag ap (o9 N) Tryz.func144 s144 w144 [0] (cuts:=[(7726,qC N N),(60,Mi N N)]) ⟨oN N N,Jp N N,trivial⟩ (fun _=>by kernel_rfl) (by decide +kernel) (FD N) (fun x=>by kernel_rfl))
@[reducible] def s83:SP:=⟨[.agg [.adr 0 [],.agg [.int .i64,.int .i64,.bool,.bool,.int .i64,.int .i64,.int .i64,.int .i64,.int .i64,.int .i64],.int .i64],.int .i64,.int .i64],[.var 189 (.agg [.str,.int .i64,.int .i64])]⟩
noncomputable def as8 (N:Nat):List (Nat×(Pk→Tr Pk)):=[(105,OU N),(84,T84 N),(141,WH N),(142,WG N),(143,aG6 N),(144,aG5 N)]
theorem Dr (N:Nat):ai Tryz.prog (as8 N):=⟨nU N,pI N,A9 N,A8 N,WF N,WE N,trivial⟩
@[reducible] def yz:LD:=⟨59354,[39,38,10,9],[(.ret,[6,7]),(.exit 1,[10])],⟨[.int .i64,.int .i64,.sl 1,.int .i64],[.var 189 (.agg [.str,.int .i64,.int .i64]),.row (.int .i64) 3]⟩,[(.exit 1,⟨[.sl 1],[.var 189 (.agg [.str,.int .i64,.int .i64]),.row (.int .i64) 3]⟩)]⟩
abbrev p8:Type:=Int×Int×Int×ByteArray×Int×Int×(List Int)
abbrev pK:Type:=ByteArray×Int×Int×(List Int)
noncomputable def eX (N:Nat) (f:p8→Option pK):p8→Option pK
 | (x0,x1,x2,x3,x4,x5,x6) =>
 ac (decide (x0<x1)) (
  ac (within x0 (List.length x6)) (
   Option.bind (x6[Int.toNat x0]?) fun y0 =>
   Option.bind (f (IntKind.wrap IntKind.i64 (x0+(1:Int)),x1,x2,x3,x4,x5,List.set x6 (Int.toNat x0) x2)) fun r=>some r) (
   none )) (
  some ((x3,x4,x5,x6)))
noncomputable def db (N:Nat):Nat→p8→Option pK
 | 0,_=>none
 | k+1,x=>eX N (db N k) x
noncomputable def zr (N:Nat) (k:Nat):Cut:=yz.cut (db N k)
theorem C4 (N:Nat) (k:Nat):al Tryz.prog false Tryz.f83 [0] 59354 (zr N k) :=
 yz.loopT ag ap (Dr N) Tryz.f83 [0] (cuts:=[]) trivial (by decide +kernel) (by kernel_rfl) (eX N) (db N) (fun _=>rfl) (fun _ _=>rfl) (fun f x=>by kernel_rfl) k
@[reducible] def w83:List SP:=[⟨[.tup [.sl 1,.bool]],[.var 189 (.agg [.str,.int .i64,.int .i64]),.row (.int .i64) 3]⟩]
noncomputable def F83 (N:Nat):(Int×Int×Bool×Bool×Int×Int×Int×Int×Int×Int×Int×Int×Int×ByteArray×Int×Int)→Option (Bool×ByteArray×Int×Int×(List Int))
 | (x0,x1,x2,x3,x4,x5,x6,x7,x8,x9,x10,x11,x12,x13,x14,x15) =>
 Option.bind (v8 N ((1:Int),x13,x14,x15)) fun y0 =>
 Option.bind (TR N (y0.2.1,y0.2.2.1,y0.2.2.2,())) fun y1 =>
 ac (y1 != (0:Int)) (
  some ((false,y0.2.1,y0.2.2.1,y0.2.2.2,[]))) (
  ac (y0.1==(0:Int)) (
   Option.bind (IR N (x0,x1,x2,x3,x4,x5,x6,x7,x8,x9,x10,IntKind.wrap IntKind.i64 (x11*x12),y0.2.1,y0.2.2.1,y0.2.2.2)) fun y2 =>
   some ((true,y2.1,y2.2.1,y2.2.2.1,y2.2.2.2))) (
   ac (y0.1==(1:Int)) (
    Option.bind (IQ N (x0,x1,x2,x3,x4,x5,x6,x7,x8,x9,x10,y0.2.1,y0.2.2.1,y0.2.2.2)) fun y3 =>
    ac (decide ((0:Int)≤IntKind.wrap IntKind.i64 (x11*x12)∧IntKind.wrap IntKind.i64 (x11*x12)≤IntKind.wrap IntKind.i64 (x11*x12)∧IntKind.wrap IntKind.i64 (x11*x12)*(8:Int)≤(140737488355328:Int)∧IntKind.wrap IntKind.i64 (x11*x12)≤(140737488355328:Int))) (
     Option.bind (db N N ((0:Int),(↑(List.length (List.replicate (Int.toNat (IntKind.wrap IntKind.i64 (x11*x12))) (0:Int))):Int),y3.1,y3.2.1,y3.2.2.1,y3.2.2.2,List.replicate (Int.toNat (IntKind.wrap IntKind.i64 (x11*x12))) (0:Int))) fun y4 =>
     some ((true,y4.1,y4.2.1,y4.2.2.1,y4.2.2.2))) (
     none )) (
    ac (decide (y0.1≤(16:Int))) (
     Option.bind (Tp N (x0,x1,x2,x3,x4,x5,x6,x7,x8,x9,x10,y0.1,x11,x12,y0.2.1,y0.2.2.1,y0.2.2.2)) fun y5 =>
     some ((y5.1,y5.2.1,y5.2.2.1,y5.2.2.2.1,y5.2.2.2.2))) (
     ac (y0.1==(128:Int)) (
      Option.bind (FD N (x0,x1,x2,x3,x4,x5,x6,x7,x8,x9,x10,IntKind.wrap IntKind.i64 (y0.1-(128:Int)),IntKind.wrap IntKind.i64 (x11*x12),y0.2.1,y0.2.2.1,y0.2.2.2)) fun y6 =>
      some ((y6.1,y6.2.1,y6.2.2.1,y6.2.2.2.1,y6.2.2.2.2))) (
      ac (decide (y0.1≥(130:Int))) (
       Option.bind (FD N (x0,x1,x2,x3,x4,x5,x6,x7,x8,x9,x10,IntKind.wrap IntKind.i64 (y0.1-(128:Int)),IntKind.wrap IntKind.i64 (x11*x12),y0.2.1,y0.2.2.1,y0.2.2.2)) fun y7 =>
       some ((y7.1,y7.2.1,y7.2.2.1,y7.2.2.2.1,y7.2.2.2.2))) (
       some ((false,y0.2.1,y0.2.2.1,y0.2.2.2,[]))))))))
noncomputable def T83 (N:Nat):Pk→Tr Pk:=ah s83 w83 (F83 N)
theorem ag5 (N:Nat):aA Tryz.prog (83) (T83 N) :=
 (af ag ap (Dr N) Tryz.func83 s83 w83 [0] (cuts:=[(59354,zr N N)]) ⟨C4 N N,trivial⟩ (fun _=>by kernel_rfl) (by decide +kernel) (F83 N) (fun x=>by kernel_rfl))
@[reducible] def s85:SP:=⟨[.agg [.int .i64,.int .i64,.bool,.bool,.int .i64,.int .i64,.int .i64,.int .i64,.int .i64,.int .i64],.int .i64],[]⟩
noncomputable def as6 (N:Nat):List (Nat×(Pk→Tr Pk)):=[(39,XU N),(95,T95 N)]
theorem Dq (N:Nat):ai Tryz.prog (as6 N):=⟨mC N,AW N,trivial⟩
@[reducible] def KI:LD:=⟨122,[5,14,13,1],[(.ret,[4]),(.exit 0,[5])],⟨[.int .i64,.int .i64,.arr y0 3,.int .i64],[]⟩,[(.exit 0,⟨[.int .i64],[]⟩)]⟩
abbrev BR:Type:=Int×Int×(List (Int×(Int×Unit)))×Int
abbrev Ba:Type:=Int
noncomputable def lK (N:Nat) (f:BR→Option Ba):BR→Option Ba
 | (x0,x1,x2,x3) =>
 ac (decide (x1<(3:Int))) (
  ac (within x1 (List.length x2)) (
   Option.bind (x2[Int.toNat x1]?) fun y0 =>
   ac (decide (y0.2.1<(0:Int))) (
    none ) (
    ac (decide (y0.1=(0:Int))) (
     none ) (
     Option.bind (f (IntKind.wrap IntKind.i64 (↑(BitVec.toNat (BitVec.ofInt (64:Nat) (IntKind.wrap IntKind.i64 (x0*(256:Int))) ||| BitVec.ofInt (64:Nat) (IntKind.wrap IntKind.i64 (Int.tdiv (IntKind.wrap IntKind.i64 (IntKind.wrap IntKind.i64 (IntKind.wrap IntKind.i64 (↑(BitVec.toNat (BitVec.ofInt (64:Nat) (Int.fdiv x3 ((2:Int)^min (Int.toNat y0.2.1) (64:Nat))) &&& BitVec.ofInt (64:Nat) y0.1)):Int)*(255:Int))+IntKind.wrap IntKind.i64 (Int.tdiv y0.1 (2:Int)))) y0.1)))):Int),IntKind.wrap IntKind.i64 (x1+(1:Int)),x2,x3)) fun r=>some r))) (
   none )) (
  some (x0))
noncomputable def cP (N:Nat):Nat→BR→Option Ba
 | 0,_=>none
 | k+1,x=>lK N (cP N k) x
noncomputable def Lz (N:Nat) (k:Nat):Cut:=KI.cut (cP N k)
theorem IT (N:Nat) (k:Nat):al Tryz.prog false Tryz.f85 [] 122 (Lz N k) :=
 KI.loopT ag ap (Dq N) Tryz.f85 [] (cuts:=[]) trivial (by decide +kernel) (by kernel_rfl) (lK N) (cP N) (fun _=>rfl) (fun _ _=>rfl) (fun f x=>by kernel_rfl) k
@[reducible] def w85:List SP:=[⟨[.int .i64],[]⟩]
noncomputable def F85 (N:Nat):(Int×Int×Bool×Bool×Int×Int×Int×Int×Int×Int×Int)→Option (Int)
 | (x0,x1,x2,x3,x4,x5,x6,x7,x8,x9,x10) =>
 Option.bind (SF N (x0,x1,x2,x3,x4,x5,x6,x7,x8,x9)) fun y0 =>
 ac (!y0) (
  some ((0:Int))) (
  Option.bind (TP N (x0,x1,x2,x3,x4,x5,x6,x7,x8,x9)) fun y1 =>
  Option.bind (cP N N ((0:Int),(0:Int),y1,x10)) fun y2 =>
  some (y2))
noncomputable def T85 (N:Nat):Pk→Tr Pk:=ah s85 w85 (F85 N)
theorem ag3 (N:Nat):aA Tryz.prog (85) (T85 N) :=
 (af ag ap (Dq N) Tryz.func85 s85 w85 [] (cuts:=[(122,Lz N N)]) ⟨IT N N,trivial⟩ (fun _=>by kernel_rfl) (by decide +kernel) (F85 N) (fun x=>by kernel_rfl))
@[reducible] def s29:SP:=⟨[.agg [.int .i64,.int .i64,.bool,.bool,.int .i64,.int .i64,.int .i64,.int .i64,.int .i64,.int .i64],.int .i64,.int .i64,.str],[]⟩
noncomputable def au8 (N:Nat):List (Nat×(Pk→Tr Pk)):=[(35,T35 N),(37,T37 N),(81,T81 N),(82,T82 N),(83,T83 N),(84,T84 N),(85,T85 N),(86,T86 N)]
theorem sO (N:Nat):ai Tryz.prog (au8 N):=⟨A0 N,AX N,H2 N,H1 N,ag5 N,pI N,ag3 N,RQ N,trivial⟩
@[reducible] def vQ:LD:=⟨518558,[66,65,12,41,42,43,64,13,1,15,4],[(.ret,[8,9]),(.exit 2,[43,4,1,13,42,41,12]),(.exit 1,[43,4,1,13,42,41,12]),(.exit 0,[12,13])],⟨[.int .i64,.int .i64,.adr 0 [],.sl 1,.int .i64,.int .i64,.sl 2,.sl 3,.int .i64,.adr 4 [],.adr 5 []],[.var 124 (.agg [.adr 6 [],.agg [.int .i64,.int .i64,.bool,.bool,.int .i64,.int .i64,.int .i64,.int .i64,.int .i64,.int .i64],.int .i64]),.row y1 126,.row (.int .i64) 3,.row (.int .i64) 3,.var 126 (.agg [.int .i64,.int .i64,.int .i64,.int .i64]),.var 43 (.agg [.int .i64,.int .i64,.bool,.bool,.int .i64,.int .i64,.int .i64,.int .i64,.int .i64,.int .i64]),.var 189 (.agg [.str,.int .i64,.int .i64])]⟩,[(.exit 2,⟨[.int .i64,.adr 0 [],.int .i64,.sl 1,.int .i64,.sl 2,.adr 3 []],[.var 43 (.agg [.int .i64,.int .i64,.bool,.bool,.int .i64,.int .i64,.int .i64,.int .i64,.int .i64,.int .i64]),.row (.int .i64) 3,.row y1 126,.var 124 (.agg [.adr 4 [],.agg [.int .i64,.int .i64,.bool,.bool,.int .i64,.int .i64,.int .i64,.int .i64,.int .i64,.int .i64],.int .i64]),.var 189 (.agg [.str,.int .i64,.int .i64])]⟩)]⟩
abbrev mO:Type:=Int×Int×Int×Int×Int×Int×Int×Bool×Bool×Int×Int×Int×Int×Int×Int×Int×(List (Int×(Int×(Int×(Int×Unit)))))×(List Int)×(List Int)×Int×Int×Int×Int×Int×Int×Bool×Bool×Int×Int×Int×Int×Int×Int×ByteArray×Int×Int
abbrev mG:Type:=Int×Int×Int×Int×Int×Bool×Bool×Int×Int×Int×Int×Int×Int×(List Int)×(List (Int×(Int×(Int×(Int×Unit)))))×Int×Int×Bool×Bool×Int×Int×Int×Int×Int×Int×Int×ByteArray×Int×Int
noncomputable def dR (N:Nat) (f:mO→Option mG):mO→Option mG
 | (x0,x1,x2,x3,x4,x5,x6,x7,x8,x9,x10,x11,x12,x13,x14,x15,x16,x17,x18,x19,x20,x21,x22,x23,x24,x25,x26,x27,x28,x29,x30,x31,x32,x33,x34,x35) =>
 ac (decide (x0<x1)) (
  ac (within x0 (List.length x17)) (
   Option.bind (x17[Int.toNat x0]?) fun y0 =>
   ac (decide (x21=(0:Int))) (
    none ) (
    ac (decide (x21=(0:Int))) (
     none ) (
     Option.bind (F85 N (x23,x24,x25,x26,x27,x28,x29,x30,x31,x32,y0)) fun y1 =>
     ac (within (IntKind.wrap IntKind.i64 (IntKind.wrap IntKind.i64 (IntKind.wrap IntKind.i64 (IntKind.wrap IntKind.i64 (x20+IntKind.wrap IntKind.i64 (Int.tdiv x0 x21))*x4)+x19)+Int.tmod x0 x21)) (List.length x18)) (
      Option.bind (x18[Int.toNat (IntKind.wrap IntKind.i64 (IntKind.wrap IntKind.i64 (IntKind.wrap IntKind.i64 (IntKind.wrap IntKind.i64 (x20+IntKind.wrap IntKind.i64 (Int.tdiv x0 x21))*x4)+x19)+Int.tmod x0 x21))]?) fun y2 =>
      Option.bind (f (IntKind.wrap IntKind.i64 (x0+(1:Int)),x1,x2,x3,x4,x5,x6,x7,x8,x9,x10,x11,x12,x13,x14,x15,x16,x17,List.set x18 (Int.toNat (IntKind.wrap IntKind.i64 (IntKind.wrap IntKind.i64 (IntKind.wrap IntKind.i64 (IntKind.wrap IntKind.i64 (x20+IntKind.wrap IntKind.i64 (Int.tdiv x0 x21))*x4)+x19)+Int.tmod x0 x21))) y1,x19,x20,x21,x22,x23,x24,x25,x26,x27,x28,x29,x30,x31,x32,x33,x34,x35)) fun r=>some r) (
      none )))) (
   none )) (
  some ((x3,x4,x2,x23,x24,x25,x26,x27,x28,x29,x30,x31,x32,x18,x16,x5,x6,x7,x8,x9,x10,x11,x12,x13,x14,x15,x33,x34,x35)))
noncomputable def bD (N:Nat):Nat→mO→Option mG
 | 0,_=>none
 | k+1,x=>dR N (bD N k) x
noncomputable def nb (N:Nat) (k:Nat):Cut:=vQ.cut (bD N k)
theorem l9 (N:Nat) (k:Nat):al Tryz.prog false Tryz.f29 [] 518558 (nb N k) :=
 vQ.loopT ag ap (sO N) Tryz.f29 [] (cuts:=[]) trivial (by decide +kernel) (by kernel_rfl) (dR N) (bD N) (fun _=>rfl) (fun _ _=>rfl) (fun f x=>by kernel_rfl) k
@[reducible] def Lc:LD:=⟨506,[4,1,13,43,42,41,12],[(.ret,[8,9]),(.exit 0,[12,13])],⟨[.adr 0 [],.int .i64,.sl 1,.int .i64,.int .i64,.sl 2,.adr 3 []],[.var 43 (.agg [.int .i64,.int .i64,.bool,.bool,.int .i64,.int .i64,.int .i64,.int .i64,.int .i64,.int .i64]),.row (.int .i64) 3,.row y1 126,.var 124 (.agg [.adr 4 [],.agg [.int .i64,.int .i64,.bool,.bool,.int .i64,.int .i64,.int .i64,.int .i64,.int .i64,.int .i64],.int .i64]),.var 189 (.agg [.str,.int .i64,.int .i64])]⟩,[(.ret,⟨[.sl 0,.int .i64],[.row (.int .i64) 3]⟩),(.exit 0,⟨[.adr 0 [],.sl 1],[.var 124 (.agg [.adr 2 [],.agg [.int .i64,.int .i64,.bool,.bool,.int .i64,.int .i64,.int .i64,.int .i64,.int .i64,.int .i64],.int .i64]),.row (.int .i64) 3,.var 189 (.agg [.str,.int .i64,.int .i64])]⟩)]⟩
abbrev Ct:Type:=Int×Int×Int×Int×Int×Bool×Bool×Int×Int×Int×Int×Int×Int×(List Int)×(List (Int×(Int×(Int×(Int×Unit)))))×Int×Int×Bool×Bool×Int×Int×Int×Int×Int×Int×Int×ByteArray×Int×Int
abbrev BC:Type:=((Int×(List Int))⊕(Int×Int×Bool×Bool×Int×Int×Int×Int×Int×Int×Int×(List Int)×ByteArray×Int×Int))
noncomputable def ji (N:Nat) (f:Ct→Option BC):Ct→Option BC
 | (x0,x1,x2,x3,x4,x5,x6,x7,x8,x9,x10,x11,x12,x13,x14,x15,x16,x17,x18,x19,x20,x21,x22,x23,x24,x25,x26,x27,x28) =>
 ac (decide (x1<x2)) (
  ac (within x1 (List.length x14)) (
   Option.bind (x14[Int.toNat x1]?) fun y0 =>
   Option.bind (F83 N (x15,x16,x17,x18,x19,x20,x21,x22,x23,x24,x25,y0.2.2.1,y0.2.2.2.1,x26,x27,x28)) fun y1 =>
   ac (!y1.1) (
    some (.inl (((180:Int),[])))) (
    Option.bind (TR N (y1.2.1,y1.2.2.1,y1.2.2.2.1,())) fun y2 =>
    ac (y2 != (0:Int)) (
     some (.inl (((180:Int),[])))) (
     Option.bind (bD N N ((0:Int),(↑(List.length y1.2.2.2.2):Int),x2,x1,x0,x15,x16,x17,x18,x19,x20,x21,x22,x23,x24,x25,x14,y1.2.2.2.2,x13,y0.1,y0.2.1,y0.2.2.1,y0.2.2.2.1,x3,x4,x5,x6,x7,x8,x9,x10,x11,x12,y1.2.1,y1.2.2.1,y1.2.2.2.1)) fun(y3_0,y3_1,y3_2,y3_3,y3_4,y3_5,y3_6,y3_7,y3_8,y3_9,y3_10,y3_11,y3_12,y3_13,y3_14,y3_15,y3_16,y3_17,y3_18,y3_19,y3_20,y3_21,y3_22,y3_23,y3_24,y3_25,y3_26,y3_27,y3_28) =>
     Option.bind (f (y3_1,IntKind.wrap IntKind.i64 (y3_0+(1:Int)),y3_2,y3_3,y3_4,y3_5,y3_6,y3_7,y3_8,y3_9,y3_10,y3_11,y3_12,y3_13,y3_14,y3_15,y3_16,y3_17,y3_18,y3_19,y3_20,y3_21,y3_22,y3_23,y3_24,y3_25,y3_26,y3_27,y3_28)) fun r=>match r with|.inl y=>some (.inl y)|.inr y=>some (.inr y)))) (
   none )) (
  some (.inr ((x15,x16,x17,x18,x19,x20,x21,x22,x23,x24,x25,x13,x26,x27,x28))))
noncomputable def cz (N:Nat):Nat→Ct→Option BC
 | 0,_=>none
 | k+1,x=>ji N (cz N k) x
noncomputable def LY (N:Nat) (k:Nat):Cut:=Lc.cut (cz N k)
theorem Jf (N:Nat) (k:Nat):al Tryz.prog false Tryz.f29 [] 506 (LY N k) :=
 Lc.loopT ag ap (sO N) Tryz.f29 [] (cuts:=[(518558,nb N N)]) ⟨l9 N N,trivial⟩ (by decide +kernel) (by kernel_rfl) (ji N) (cz N) (fun _=>rfl) (fun _ _=>rfl) (fun f x=>by kernel_rfl) k
@[reducible] def w29:List SP:=[⟨[.tup [.sl 0,.int .i64]],[.row (.int .i64) 3]⟩]
noncomputable def Xh (N:Nat):(Int×Int×Bool×Bool×Int×Int×Int×Int×Int×Int×Int×Int×ByteArray)→Option (Int×(List Int))
 | (x0,x1,x2,x3,x4,x5,x6,x7,x8,x9,x10,x11,x12) =>
 Option.bind (X5 N (x0,x1,x2,x3,x4,x5,x6,x7,x8,x9,x10,x11)) fun y0 =>
 ac (!y0) (
  some (((1:Int),[]))) (
  Option.bind (Fg N (x0,x1,x2,x3,x4,x5,x6,x7,x8,x9)) fun y1 =>
  Option.bind (F81 N x12) fun y2 =>
  ac (decide ((0:Int)≤IntKind.wrap IntKind.i64 (x10*x11)∧IntKind.wrap IntKind.i64 (x10*x11)≤IntKind.wrap IntKind.i64 (x10*x11)∧IntKind.wrap IntKind.i64 (x10*x11)*(8:Int)≤(140737488355328:Int)∧IntKind.wrap IntKind.i64 (x10*x11)≤(140737488355328:Int))) (
   Option.bind (F82 N (x10,x11,(64:Int))) fun y3 =>
   Option.bind (cz N N (x10,(0:Int),(↑(List.length y3):Int),x0,x1,x2,x3,x4,x5,x6,x7,x8,x9,List.replicate (Int.toNat (IntKind.wrap IntKind.i64 (x10*x11))) (0:Int),y3,x0,x1,x2,x3,x4,x5,x6,x7,x8,x9,y1.1,y2.1,y2.2.1,y2.2.2)) fun y4 =>
   match y4 with
   | .inl y5 =>
    some ((y5.1,y5.2))
   | .inr (y5_0,y5_1,y5_2,y5_3,y5_4,y5_5,y5_6,y5_7,y5_8,y5_9,y5_10,y5_11,y5_12,y5_13,y5_14) =>
    Option.bind (F86 N (y5_12,y5_13,y5_14,())) fun y6 =>
    ac (decide (y6>(0:Int))) (
     some (((3:Int),[]))) (
     some (((0:Int),y5_11)))) (
   none ))
noncomputable def T29 (N:Nat):Pk→Tr Pk:=ah s29 w29 (Xh N)
theorem H3 (N:Nat):aA Tryz.prog (29) (T29 N) :=
 (af ag ap (sO N) Tryz.func29 s29 w29 [] (cuts:=[(518558,nb N N),(506,LY N N)]) ⟨l9 N N,Jf N N,trivial⟩ (fun _=>by kernel_rfl) (by decide +kernel) (Xh N) (fun x=>by kernel_rfl))
@[reducible] def s31:SP:=⟨[.ro (.int .i64),.ro (.int .i64)],[]⟩
noncomputable def au7 (N:Nat):List (Nat×(Pk→Tr Pk)):=[]
theorem Du (N:Nat):ai Tryz.prog (au7 N):=trivial
@[reducible] def Sp:LD:=⟨58,[0,1,5],[(.ret,[4]),(.exit 0,[])],⟨[.ro (.int .i64),.ro (.int .i64),.int .i64],[]⟩,[(.ret,⟨[.bool],[]⟩),(.exit 0,⟨[],[]⟩)]⟩
abbrev It:Type:=(List Int)×(List Int)×Int
abbrev If:Type:=((Bool)⊕(Unit))
noncomputable def qG (N:Nat) (f:It→Option If):It→Option If
 | (x0,x1,x2) =>
 ac (decide (x2<(↑(List.length x0):Int))) (
  ac (within x2 (List.length x0)) (
   Option.bind (x0[Int.toNat x2]?) fun y0 =>
   ac (within x2 (List.length x1)) (
    Option.bind (x1[Int.toNat x2]?) fun y1 =>
    ac (y0 != y1) (
     some (.inl (false))) (
     Option.bind (f (x0,x1,IntKind.wrap IntKind.i64 (x2+(1:Int)))) fun r=>match r with|.inl y=>some (.inl y)|.inr y=>some (.inr y))) (
    none )) (
   none )) (
  some (.inr (())))
noncomputable def ku (N:Nat):Nat→It→Option If
 | 0,_=>none
 | k+1,x=>qG N (ku N k) x
noncomputable def TF (N:Nat) (k:Nat):Cut:=Sp.cut (ku N k)
theorem Pv (N:Nat) (k:Nat):al Tryz.prog false Tryz.f31 [] 58 (TF N k) :=
 Sp.loopT ag ap (Du N) Tryz.f31 [] (cuts:=[]) trivial (by decide +kernel) (by kernel_rfl) (qG N) (ku N) (fun _=>rfl) (fun _ _=>rfl) (fun f x=>by kernel_rfl) k
@[reducible] def w31:List SP:=[⟨[.bool],[]⟩]
noncomputable def SX (N:Nat):((List Int)×(List Int))→Option (Bool)
 | (x0,x1) =>
 ac ((↑(List.length x0):Int) != (↑(List.length x1):Int)) (
  some (false)) (
  Option.bind (ku N N (x0,x1,(0:Int))) fun y0 =>
  match y0 with
  | .inl y1 =>
   some (y1)
  | .inr y1 =>
   some (true))
noncomputable def T31 (N:Nat):Pk→Tr Pk:=ah s31 w31 (SX N)
theorem RZ (N:Nat):aA Tryz.prog (31) (T31 N) :=
 (af ag ap (Du N) Tryz.func31 s31 w31 [] (cuts:=[(58,TF N N)]) ⟨Pv N N,trivial⟩ (fun _=>by kernel_rfl) (by decide +kernel) (SX N) (fun x=>by kernel_rfl))
@[reducible] def s152:SP:=⟨[.agg [.int .i64,.int .i64,.bool,.bool,.int .i64,.int .i64,.int .i64,.int .i64,.int .i64,.int .i64],.ro (.int .i64)],[]⟩
noncomputable def Z8 (N:Nat):List (Nat×(Pk→Tr Pk)):=[]
theorem N2 (N:Nat):ai Tryz.prog (Z8 N):=trivial
@[reducible] def w152:List SP:=[⟨[.clo 219 [.adr 0 [],.adr 1 []]],[.var 29 (.ro (.int .i64)),.var 43 (.agg [.int .i64,.int .i64,.bool,.bool,.int .i64,.int .i64,.int .i64,.int .i64,.int .i64,.int .i64])]⟩]
noncomputable def Xt (N:Nat):(Int×Int×Bool×Bool×Int×Int×Int×Int×Int×Int×(List Int))→Option ((List Int)×Int×Int×Bool×Bool×Int×Int×Int×Int×Int×Int)
 | (x0,x1,x2,x3,x4,x5,x6,x7,x8,x9,x10) =>
 some ((x10,x0,x1,x2,x3,x4,x5,x6,x7,x8,x9))
noncomputable def aG3 (N:Nat):Pk→Tr Pk:=ah s152 w152 (Xt N)
theorem WB (N:Nat):aA Tryz.prog (152) (aG3 N) :=
 (af ag ap (N2 N) Tryz.func152 s152 w152 [] (cuts:=[]) trivial (fun _=>by kernel_rfl) (by decide +kernel) (Xt N) (fun x=>by kernel_rfl))
@[reducible] def s171:SP:=⟨[.agg [.int .i64,.int .i64,.bool,.bool,.int .i64,.int .i64,.int .i64,.int .i64,.int .i64,.int .i64],.int .i64],[]⟩
noncomputable def ZU (N:Nat):List (Nat×(Pk→Tr Pk)):=[(39,XU N),(95,T95 N)]
theorem xF (N:Nat):ai Tryz.prog (ZU N):=⟨mC N,AW N,trivial⟩
@[reducible] def E1:LD:=⟨122,[5,14,13,1],[(.ret,[4]),(.exit 0,[5])],⟨[.int .i64,.int .i64,.arr y0 3,.int .i64],[]⟩,[(.exit 0,⟨[.int .i64],[]⟩)]⟩
abbrev vG:Type:=Int×Int×(List (Int×(Int×Unit)))×Int
abbrev uR:Type:=Int
noncomputable def iv (N:Nat) (f:vG→Option uR):vG→Option uR
 | (x0,x1,x2,x3) =>
 ac (decide (x1<(3:Int))) (
  ac (within x1 (List.length x2)) (
   Option.bind (x2[Int.toNat x1]?) fun y0 =>
   ac (decide (IntKind.wrap IntKind.i64 ((8:Int)*IntKind.wrap IntKind.i64 ((2:Int)-x1))<(0:Int))) (
    none ) (
    ac (decide (y0.2.1<(0:Int))) (
     none ) (
     Option.bind (f (IntKind.wrap IntKind.i64 (↑(BitVec.toNat (BitVec.ofInt (64:Nat) x0 ||| BitVec.ofInt (64:Nat) (IntKind.wrap IntKind.i64 (IntKind.wrap IntKind.i64 (Int.tdiv (IntKind.wrap IntKind.i64 (IntKind.wrap IntKind.i64 (IntKind.wrap IntKind.i64 (↑(BitVec.toNat (BitVec.ofInt (64:Nat) (Int.fdiv x3 ((2:Int)^min (Int.toNat (IntKind.wrap IntKind.i64 ((8:Int)*IntKind.wrap IntKind.i64 ((2:Int)-x1)))) (64:Nat))) &&& BitVec.ofInt (64:Nat) (255:Int))):Int)*y0.1)+(127:Int))) (255:Int))*(2:Int)^min (Int.toNat y0.2.1) (64:Nat))))):Int),IntKind.wrap IntKind.i64 (x1+(1:Int)),x2,x3)) fun r=>some r))) (
   none )) (
  some (x0))
noncomputable def b9 (N:Nat):Nat→vG→Option uR
 | 0,_=>none
 | k+1,x=>iv N (b9 N k) x
noncomputable def Gt (N:Nat) (k:Nat):Cut:=E1.cut (b9 N k)
theorem Gs (N:Nat) (k:Nat):al Tryz.prog false Tryz.f171 [] 122 (Gt N k) :=
 E1.loopT ag ap (xF N) Tryz.f171 [] (cuts:=[]) trivial (by decide +kernel) (by kernel_rfl) (iv N) (b9 N) (fun _=>rfl) (fun _ _=>rfl) (fun f x=>by kernel_rfl) k
@[reducible] def w171:List SP:=[⟨[.int .i64],[]⟩]
noncomputable def Td (N:Nat):(Int×Int×Bool×Bool×Int×Int×Int×Int×Int×Int×Int)→Option (Int)
 | (x0,x1,x2,x3,x4,x5,x6,x7,x8,x9,x10) =>
 Option.bind (SF N (x0,x1,x2,x3,x4,x5,x6,x7,x8,x9)) fun y0 =>
 ac (!y0) (
  some ((0:Int))) (
  Option.bind (TP N (x0,x1,x2,x3,x4,x5,x6,x7,x8,x9)) fun y1 =>
  Option.bind (b9 N N ((0:Int),(0:Int),y1,x10)) fun y2 =>
  some (y2))
noncomputable def aF3 (N:Nat):Pk→Tr Pk:=ah s171 w171 (Td N)
theorem Wq (N:Nat):aA Tryz.prog (171) (aF3 N) :=
 (af ag ap (xF N) Tryz.func171 s171 w171 [] (cuts:=[(122,Gt N N)]) ⟨Gs N N,trivial⟩ (fun _=>by kernel_rfl) (by decide +kernel) (Td N) (fun x=>by kernel_rfl))
@[reducible] def s91r58:SP:=⟨[.yv 0,.int .i64,.adr 1 []],[.lp 1678653710707569197114 [5] [.adr 1 []] 0,.var 29 (.sl 2),.row (.int .i64) 3]⟩
noncomputable def Qi (N:Nat):List (Nat×(Pk→Tr Pk)):=[]
theorem Dn (N:Nat):ai Tryz.prog (Qi N):=trivial
@[reducible] def w91r58:List SP:=[⟨[.bc true],[.lp 1678653710707569197114 [5] [.adr 1 []] 0,.var 29 (.sl 2),.row (.int .i64) 3]⟩]
noncomputable def CN (N:Nat):(Int×(List Int))→Option ((List Int))
 | (x0,x1) =>
 ac (decide ((List.length x1+List.length [x0])*(8:Nat)≤(140737488355328:Nat)∧List.length x1+List.length [x0]≤(140737488355328:Nat))) (
  some (x1++[x0])) (
  none )
noncomputable def RP (N:Nat):Pk→Tr Pk:=ah s91r58 w91r58 (CN N)
theorem OR (N:Nat):aA Tryz.prog (91*be+58) (RP N) :=
 (QE ag ap (Dn N) Tryz.func91 58 s91r58 w91r58 [0,1,1] (cuts:=[]) trivial (fun _=>by kernel_rfl) (by decide +kernel) (CN N) (fun x=>by kernel_rfl))
@[reducible] def s219:SP:=⟨[.yv 0,.adr 1 [],.adr 2 []],[.lp 1678653710707569197114 [5] [.adr 3 []] 0,.var 29 (.ro (.int .i64)),.var 43 (.agg [.int .i64,.int .i64,.bool,.bool,.int .i64,.int .i64,.int .i64,.int .i64,.int .i64,.int .i64]),.var 29 (.sl 4),.row (.int .i64) 3]⟩
noncomputable def ZJ (N:Nat):List (Nat×(Pk→Tr Pk)):=[(171,aF3 N),(91*be+58,RP N)]
theorem xC (N:Nat):ai Tryz.prog (ZJ N):=⟨Wq N,OR N,trivial⟩
@[reducible] def Ss:LD:=⟨6,[7,6,0,2,8],[(.exit 0,[])],⟨[.int .i64,.ro (.int .i64),.yv 0,.adr 2 [],.int .i64],[.lp 1678653710707569197114 [5] [.adr 3 []] 0,.var 29 (.ro (.int .i64)),.var 43 (.agg [.int .i64,.int .i64,.bool,.bool,.int .i64,.int .i64,.int .i64,.int .i64,.int .i64,.int .i64]),.var 29 (.sl 4),.row (.int .i64) 3]⟩,[(.exit 0,⟨[],[.lp 1678653710707569197114 [5] [.adr 3 []] 0,.var 29 (.ro (.int .i64)),.var 43 (.agg [.int .i64,.int .i64,.bool,.bool,.int .i64,.int .i64,.int .i64,.int .i64,.int .i64,.int .i64]),.var 29 (.sl 4),.row (.int .i64) 3]⟩)]⟩
abbrev Iw:Type:=Int×(List Int)×Int×(List Int)×Int×Int×Bool×Bool×Int×Int×Int×Int×Int×Int×(List Int)
abbrev Ii:Type:=(List Int)×Int×Int×Bool×Bool×Int×Int×Int×Int×Int×Int×(List Int)
noncomputable def qH (N:Nat) (f:Iw→Option Ii):Iw→Option Ii
 | (x0,x1,x2,x3,x4,x5,x6,x7,x8,x9,x10,x11,x12,x13,x14) =>
 ac (decide (x2<x0)) (
  ac (within x2 (List.length x1)) (
   Option.bind (x1[Int.toNat x2]?) fun y0 =>
   Option.bind (Td N (x4,x5,x6,x7,x8,x9,x10,x11,x12,x13,y0)) fun y1 =>
   Option.bind (CN N (y1,x14)) fun y2 =>
   Option.bind (f (x0,x1,IntKind.wrap IntKind.i64 (x2+(1:Int)),x3,x4,x5,x6,x7,x8,x9,x10,x11,x12,x13,y2)) fun r=>some r) (
   none )) (
  some ((x3,x4,x5,x6,x7,x8,x9,x10,x11,x12,x13,x14)))
noncomputable def ja (N:Nat):Nat→Iw→Option Ii
 | 0,_=>none
 | k+1,x=>qH N (ja N k) x
noncomputable def TI (N:Nat) (k:Nat):Cut:=Ss.cut (ja N k)
theorem Py (N:Nat) (k:Nat):al Tryz.prog false Tryz.f219 [0,1,2,3] 6 (TI N k) :=
 Ss.loopT ag ap (xC N) Tryz.f219 [0,1,2,3] (cuts:=[]) trivial (by decide +kernel) (by kernel_rfl) (qH N) (ja N) (fun _=>rfl) (fun _ _=>rfl) (fun f x=>by kernel_rfl) k
@[reducible] def w219:List SP:=[⟨[.tup []],[.lp 1678653710707569197114 [5] [.adr 3 []] 0,.var 29 (.ro (.int .i64)),.var 43 (.agg [.int .i64,.int .i64,.bool,.bool,.int .i64,.int .i64,.int .i64,.int .i64,.int .i64,.int .i64]),.var 29 (.sl 4),.row (.int .i64) 3]⟩]
noncomputable def Xn (N:Nat):((List Int)×Int×Int×Bool×Bool×Int×Int×Int×Int×Int×Int×(List Int))→Option ((List Int)×Int×Int×Bool×Bool×Int×Int×Int×Int×Int×Int×(List Int))
 | (x0,x1,x2,x3,x4,x5,x6,x7,x8,x9,x10,x11) =>
 Option.bind (ja N N ((↑(List.length x0):Int),x0,(0:Int),x0,x1,x2,x3,x4,x5,x6,x7,x8,x9,x10,x11)) fun(y0_0,y0_1,y0_2,y0_3,y0_4,y0_5,y0_6,y0_7,y0_8,y0_9,y0_10,y0_11) =>
 some ((y0_0,y0_1,y0_2,y0_3,y0_4,y0_5,y0_6,y0_7,y0_8,y0_9,y0_10,y0_11))
noncomputable def aE5 (N:Nat):Pk→Tr Pk:=ah s219 w219 (Xn N)
theorem Wi (N:Nat):aA Tryz.prog (219) (aE5 N) :=
 (af ag ap (xC N) Tryz.func219 s219 w219 [0,1,2,3] (cuts:=[(6,TI N N)]) ⟨Py N N,trivial⟩ (fun _=>by kernel_rfl) (by decide +kernel) (Xn N) (fun x=>by kernel_rfl))
@[reducible] def s91:SP:=⟨[.agg [.int .i64,.int .i64,.bool,.bool,.int .i64,.int .i64,.int .i64,.int .i64,.int .i64,.int .i64],.ro (.int .i64)],[]⟩
noncomputable def as3 (N:Nat):List (Nat×(Pk→Tr Pk)):=[(152,aG3 N),(219,aE5 N)]
theorem Do (N:Nat):ai Tryz.prog (as3 N):=⟨WB N,Wi N,trivial⟩
@[reducible] def Sj:LD:=⟨58,[4,5,9],[(.ret,[4]),(.exit 0,[5]),(.normal,[5])],⟨[.sl 0,.adr 1 [],.clo 219 [.adr 2 [],.adr 3 []]],[.row (.int .i64) 3,.var 29 (.sl 4),.var 29 (.ro (.int .i64)),.var 43 (.agg [.int .i64,.int .i64,.bool,.bool,.int .i64,.int .i64,.int .i64,.int .i64,.int .i64,.int .i64]),.row (.int .i64) 3]⟩,[(.normal,⟨[.adr 0 []],[.var 29 (.sl 1),.row (.int .i64) 3]⟩)]⟩
noncomputable def CO (N:Nat):((List Int)×(List Int)×Int×Int×Bool×Bool×Int×Int×Int×Int×Int×Int×(List Int))→Option ((List Int))
 | (x0,x1,x2,x3,x4,x5,x6,x7,x8,x9,x10,x11,x12) =>
 Option.bind (Xn N (x1,x2,x3,x4,x5,x6,x7,x8,x9,x10,x11,x12)) fun(y0_0,y0_1,y0_2,y0_3,y0_4,y0_5,y0_6,y0_7,y0_8,y0_9,y0_10,y0_11) =>
 some (y0_11)
noncomputable def Tx (N:Nat) (_:Nat):Cut:=Sj.cut (CO N)
theorem Pq (N:Nat) (k:Nat):al Tryz.prog false Tryz.f91 [] 58 (Tx N k) :=
 Sj.rngT ag ap (Do N) Tryz.func91 [] [5] (by decide +kernel) (CO N) (fun x=>by kernel_rfl)
@[reducible] def w91:List SP:=[⟨[.sl 0],[.row (.int .i64) 3]⟩]
noncomputable def F91 (N:Nat):(Int×Int×Bool×Bool×Int×Int×Int×Int×Int×Int×(List Int))→Option ((List Int))
 | (x0,x1,x2,x3,x4,x5,x6,x7,x8,x9,x10) =>
 Option.bind (Xt N (x0,x1,x2,x3,x4,x5,x6,x7,x8,x9,x10)) fun(y0_0,y0_1,y0_2,y0_3,y0_4,y0_5,y0_6,y0_7,y0_8,y0_9,y0_10) =>
 Option.bind (CO N ([],y0_0,y0_1,y0_2,y0_3,y0_4,y0_5,y0_6,y0_7,y0_8,y0_9,y0_10,[])) fun y1 =>
 some (y1)
noncomputable def T91 (N:Nat):Pk→Tr Pk:=ah s91 w91 (F91 N)
theorem ag1 (N:Nat):aA Tryz.prog (91) (T91 N) :=
 (af ag ap (Do N) Tryz.func91 s91 w91 [] (cuts:=[(58,Tx N N)]) ⟨Pq N N,trivial⟩ (fun _=>by kernel_rfl) (by decide +kernel) (F91 N) (fun x=>by kernel_rfl))
@[reducible] def s153:SP:=⟨[.adr 0 [],.int .i64],[.var 200 (.agg [.sl 1,.mp 2]),.row (.int .i64) 3,.map (.int .i64) (.int .i64)]⟩
noncomputable def Z7 (N:Nat):List (Nat×(Pk→Tr Pk)):=[]
theorem N1 (N:Nat):ai Tryz.prog (Z7 N):=trivial
@[reducible] def w153:List SP:=[⟨[.int .i64],[.var 200 (.agg [.sl 1,.mp 2]),.row (.int .i64) 3,.map (.int .i64) (.int .i64)]⟩]
noncomputable def IP (N:Nat):(Int×(List Int)×(List (Int×Int)))→Option (Int×(List Int)×(List (Int×Int)))
 | (x0,x1,x2) =>
 ac (!jP (Ty.int IntKind.i64) x0 x2) (
  ac (decide ((List.length x1+List.length [x0])*(8:Nat)≤(140737488355328:Nat)∧List.length x1+List.length [x0]≤(140737488355328:Nat))) (
   some (((↑(List.length x1):Int),x1++[x0],dJ (Ty.int IntKind.i64) x0 (↑(List.length x1):Int) x2))) (
   none )) (
  some ((gx (Ty.int IntKind.i64) x0 (0:Int) x2,x1,x2)))
noncomputable def WA (N:Nat):Pk→Tr Pk:=ah s153 w153 (IP N)
theorem A7 (N:Nat):aA Tryz.prog (153) (WA N) :=
 (af ag ap (N1 N) Tryz.func153 s153 w153 [0] (cuts:=[]) trivial (fun _=>by kernel_rfl) (by decide +kernel) (IP N) (fun x=>by kernel_rfl))
@[reducible] def s154:SP:=⟨[.int .i64],[]⟩
noncomputable def Z6 (N:Nat):List (Nat×(Pk→Tr Pk)):=[]
theorem N0 (N:Nat):ai Tryz.prog (Z6 N):=trivial
@[reducible] def w154:List SP:=[⟨[.str],[]⟩]
noncomputable def mV (N:Nat):(Int)→Option (ByteArray)
 | x0 =>
 some (aE [IntKind.wrap IntKind.u8 x0])
noncomputable def OT (N:Nat):Pk→Tr Pk:=ah s154 w154 (mV N)
theorem nT (N:Nat):aA Tryz.prog (154) (OT N) :=
 (af ag ap (N0 N) Tryz.func154 s154 w154 [] (cuts:=[]) trivial (fun _=>by kernel_rfl) (by decide +kernel) (mV N) (fun x=>by kernel_rfl))
@[reducible] def s267:SP:=⟨[.agg [.int .i64,.int .i64,.bool,.bool,.int .i64,.int .i64,.int .i64,.int .i64,.int .i64,.int .i64],.int .i64,.int .i64],[]⟩
noncomputable def Zr (N:Nat):List (Nat×(Pk→Tr Pk)):=[(231,aj6 N)]
theorem xv (N:Nat):ai Tryz.prog (Zr N):=⟨KA N,trivial⟩
@[reducible] def Le:LD:=⟨58,[7,10,9,3,2],[(.ret,[6]),(.exit 0,[3,7])],⟨[.sl 0,.int .i64,.int .i64,.adr 1 [],.int .i64],[.row (.int .u8) 5,.var 43 (.agg [.int .i64,.int .i64,.bool,.bool,.int .i64,.int .i64,.int .i64,.int .i64,.int .i64,.int .i64])]⟩,[(.exit 0,⟨[.adr 0 [],.sl 1],[.var 43 (.agg [.int .i64,.int .i64,.bool,.bool,.int .i64,.int .i64,.int .i64,.int .i64,.int .i64,.int .i64]),.row (.int .u8) 5]⟩)]⟩
abbrev Cv:Type:=Int×Int×Int×(List Int)×Int×Int×Bool×Bool×Int×Int×Int×Int×Int×Int
abbrev BE:Type:=Int×Int×Bool×Bool×Int×Int×Int×Int×Int×Int×(List Int)
noncomputable def lP (N:Nat) (f:Cv→Option BE):Cv→Option BE
 | (x0,x1,x2,x3,x4,x5,x6,x7,x8,x9,x10,x11,x12,x13) =>
 ac (decide (x0<x1)) (
  ac (decide (IntKind.wrap IntKind.i64 ((8:Int)*x0)<(0:Int))) (
   none ) (
   ac (decide ((List.length x3+List.length [IntKind.wrap IntKind.u8 (Int.fdiv x2 ((2:Int)^min (Int.toNat (IntKind.wrap IntKind.i64 ((8:Int)*x0))) (64:Nat)))])*(1:Nat)≤(140737488355328:Nat)∧List.length x3+List.length [IntKind.wrap IntKind.u8 (Int.fdiv x2 ((2:Int)^min (Int.toNat (IntKind.wrap IntKind.i64 ((8:Int)*x0))) (64:Nat)))]≤(140737488355328:Nat))) (
    Option.bind (f (IntKind.wrap IntKind.i64 (x0+(1:Int)),x1,x2,x3++[IntKind.wrap IntKind.u8 (Int.fdiv x2 ((2:Int)^min (Int.toNat (IntKind.wrap IntKind.i64 ((8:Int)*x0))) (64:Nat)))],x4,x5,x6,x7,x8,x9,x10,x11,x12,x13)) fun r=>some r) (
    none ))) (
  some ((x4,x5,x6,x7,x8,x9,x10,x11,x12,x13,x3)))
noncomputable def eG (N:Nat):Nat→Cv→Option BE
 | 0,_=>none
 | k+1,x=>lP N (eG N k) x
noncomputable def Ma (N:Nat) (k:Nat):Cut:=Le.cut (eG N k)
theorem Jh (N:Nat) (k:Nat):al Tryz.prog false Tryz.f267 [] 58 (Ma N k) :=
 Le.loopT ag ap (xv N) Tryz.f267 [] (cuts:=[]) trivial (by decide +kernel) (by kernel_rfl) (lP N) (eG N) (fun _=>rfl) (fun _ _=>rfl) (fun f x=>by kernel_rfl) k
@[reducible] def w267:List SP:=[⟨[.str],[]⟩]
noncomputable def S0 (N:Nat):(Int×Int×Bool×Bool×Int×Int×Int×Int×Int×Int×Int×Int)→Option (ByteArray)
 | (x0,x1,x2,x3,x4,x5,x6,x7,x8,x9,x10,x11) =>
 Option.bind (eG N N ((0:Int),x10,x11,[],x0,x1,x2,x3,x4,x5,x6,x7,x8,x9)) fun(y0_0,y0_1,y0_2,y0_3,y0_4,y0_5,y0_6,y0_7,y0_8,y0_9,y0_10) =>
 ac (y0_2) (
  Option.bind (oC N ((0:Nat),List.length y0_10,y0_10)) fun y1 =>
  some (aE y1)) (
  some (aE y0_10))
noncomputable def aD4 (N:Nat):Pk→Tr Pk:=ah s267 w267 (S0 N)
theorem V4 (N:Nat):aA Tryz.prog (267) (aD4 N) :=
 (af ag ap (xv N) Tryz.func267 s267 w267 [] (cuts:=[(58,Ma N N)]) ⟨Jh N N,trivial⟩ (fun _=>by kernel_rfl) (by decide +kernel) (S0 N) (fun x=>by kernel_rfl))
@[reducible] def s220:SP:=⟨[.agg [.int .i64,.int .i64,.bool,.bool,.int .i64,.int .i64,.int .i64,.int .i64,.int .i64,.int .i64],.int .i64],[]⟩
noncomputable def ZI (N:Nat):List (Nat×(Pk→Tr Pk)):=[(37,T37 N),(97,T97 N),(267,aD4 N)]
theorem NN (N:Nat):ai Tryz.prog (ZI N):=⟨AX N,RN N,V4 N,trivial⟩
@[reducible] def w220:List SP:=[⟨[.str],[]⟩]
noncomputable def Pe (N:Nat):(Int×Int×Bool×Bool×Int×Int×Int×Int×Int×Int×Int)→Option (ByteArray)
 | (x0,x1,x2,x3,x4,x5,x6,x7,x8,x9,x10) =>
 Option.bind (Fg N (x0,x1,x2,x3,x4,x5,x6,x7,x8,x9)) fun y0 =>
 Option.bind (X3 N (x0,x1,x2,x3,x4,x5,x6,x7,x8,x9)) fun y1 =>
 ac (decide (IntKind.wrap IntKind.i64 ((8:Int)*y1)<(0:Int))) (
  none ) (
  ac (decide (y0.2<(0:Int))) (
   none ) (
   Option.bind (S0 N (x0,x1,x2,x3,x4,x5,x6,x7,x8,x9,y0.1,Int.fdiv (IntKind.wrap IntKind.i64 (↑(BitVec.toNat (BitVec.ofInt (64:Nat) x10 &&& BitVec.ofInt (64:Nat) (IntKind.wrap IntKind.i64 (IntKind.wrap IntKind.i64 ((1:Int)*(2:Int)^min (Int.toNat (IntKind.wrap IntKind.i64 ((8:Int)*y1))) (64:Nat))-(1:Int))))):Int)) ((2:Int)^min (Int.toNat y0.2) (64:Nat)))) fun y2 =>
   some (y2)))
noncomputable def aE4 (N:Nat):Pk→Tr Pk:=ah s220 w220 (Pe N)
theorem Wh (N:Nat):aA Tryz.prog (220) (aE4 N) :=
 (af ag ap (NN N) Tryz.func220 s220 w220 [] (cuts:=[]) trivial (fun _=>by kernel_rfl) (by decide +kernel) (Pe N) (fun x=>by kernel_rfl))
@[reducible] def s122:SP:=⟨[.adr 0 []],[.var 95 (.agg [.nilp,.sl 1]),.row (.int .u8) 5]⟩
noncomputable def aa8 (N:Nat):List (Nat×(Pk→Tr Pk)):=[]
theorem N9 (N:Nat):ai Tryz.prog (aa8 N):=trivial
@[reducible] def w122:List SP:=[⟨[.tup []],[.var 95 (.agg [.adr 0 [],.sl 1]),.row (.int .u8) 5]⟩]
noncomputable def Tv (N:Nat):((List Int))→Option ((List Int))
 | x0 =>
 some (x0)
noncomputable def aH0 (N:Nat):Pk→Tr Pk:=ah s122 w122 (Tv N)
theorem WL (N:Nat):aA Tryz.prog (122) (aH0 N) :=
 (af ag ap (N9 N) Tryz.func122 s122 w122 [0] (cuts:=[]) trivial (fun _=>by kernel_rfl) (by decide +kernel) (Tv N) (fun x=>by kernel_rfl))
@[reducible] def s62:SP:=⟨[.adr 0 [],.str],[.var 95 (.agg [.nilp,.sl 1]),.row (.int .u8) 5]⟩
noncomputable def at7 (N:Nat):List (Nat×(Pk→Tr Pk)):=[(122,aH0 N)]
theorem Qp (N:Nat):ai Tryz.prog (at7 N):=⟨WL N,trivial⟩
@[reducible] def w62:List SP:=[⟨[.tup [.int .i64,.nili]],[.var 95 (.agg [.adr 0 [],.sl 1]),.row (.int .u8) 5]⟩]
noncomputable def F62 (N:Nat):(ByteArray×(List Int))→Option (Int×(List Int))
 | (x0,x1) =>
 Option.bind (Tv N x1) fun y0 =>
 ac (decide ((List.length y0+List.length (bytesOf x0))*(1:Nat)≤(140737488355328:Nat)∧List.length y0+List.length (bytesOf x0)≤(140737488355328:Nat))) (
  some (((↑(ByteArray.size x0):Int),y0++bytesOf x0))) (
  none )
noncomputable def T62 (N:Nat):Pk→Tr Pk:=ah s62 w62 (F62 N)
theorem RR (N:Nat):aA Tryz.prog (62) (T62 N) :=
 (af ag ap (Qp N) Tryz.func62 s62 w62 [0] (cuts:=[]) trivial (fun _=>by kernel_rfl) (by decide +kernel) (F62 N) (fun x=>by kernel_rfl))
@[reducible] def s122a:SP:=⟨[.adr 0 []],[.var 95 (.agg [.adr 0 [],.sl 1]),.row (.int .u8) 5]⟩
noncomputable def Uc (N:Nat):List (Nat×(Pk→Tr Pk)):=[]
theorem Hh (N:Nat):ai Tryz.prog (Uc N):=trivial
@[reducible] def w122a:List SP:=[⟨[.tup []],[.var 95 (.agg [.adr 0 [],.sl 1]),.row (.int .u8) 5]⟩]
noncomputable def FG (N:Nat):((List Int))→Option ((List Int))
 | x0 =>
 some (x0)
noncomputable def X0 (N:Nat):Pk→Tr Pk:=ah s122a w122a (FG N)
theorem Se (N:Nat):aA Tryz.prog (122) (X0 N) :=
 (af ag ap (Hh N) Tryz.func122 s122a w122a [0,0] (cuts:=[]) trivial (fun _=>by kernel_rfl) (by decide +kernel) (FG N) (fun x=>by kernel_rfl))
@[reducible] def s62a:SP:=⟨[.adr 0 [],.str],[.var 95 (.agg [.adr 0 [],.sl 1]),.row (.int .u8) 5]⟩
noncomputable def X8 (N:Nat):List (Nat×(Pk→Tr Pk)):=[(122,X0 N)]
theorem MR (N:Nat):ai Tryz.prog (X8 N):=⟨Se N,trivial⟩
@[reducible] def w62a:List SP:=[⟨[.tup [.int .i64,.nili]],[.var 95 (.agg [.adr 0 [],.sl 1]),.row (.int .u8) 5]⟩]
noncomputable def OW (N:Nat):(ByteArray×(List Int))→Option (Int×(List Int))
 | (x0,x1) =>
 Option.bind (FG N x1) fun y0 =>
 ac (decide ((List.length y0+List.length (bytesOf x0))*(1:Nat)≤(140737488355328:Nat)∧List.length y0+List.length (bytesOf x0)≤(140737488355328:Nat))) (
  some (((↑(ByteArray.size x0):Int),y0++bytesOf x0))) (
  none )
noncomputable def ag9 (N:Nat):Pk→Tr Pk:=ah s62a w62a (OW N)
theorem Kb (N:Nat):aA Tryz.prog (62) (ag9 N) :=
 (af ag ap (MR N) Tryz.func62 s62a w62a [0,0] (cuts:=[]) trivial (fun _=>by kernel_rfl) (by decide +kernel) (OW N) (fun x=>by kernel_rfl))
@[reducible] def s155:SP:=⟨[.agg [.agg [.int .i64,.int .i64,.bool,.bool,.int .i64,.int .i64,.int .i64,.int .i64,.int .i64,.int .i64]],.ro (.int .i64)],[]⟩
noncomputable def Z5 (N:Nat):List (Nat×(Pk→Tr Pk)):=[(220,aE4 N),(62,Uq s62.I (T62 N) (ag9 N))]
theorem o8 (N:Nat):ai Tryz.prog (Z5 N):=⟨Wh N,mj (RR N) (Kb N),trivial⟩
@[reducible] def fy:LD:=⟨58,[10,9,8,2,5],[(.ret,[4]),(.exit 0,[5])],⟨[.int .i64,.int .i64,.ro (.int .i64),.adr 0 [],.adr 1 []],[.var 140 (.agg [.agg [.int .i64,.int .i64,.bool,.bool,.int .i64,.int .i64,.int .i64,.int .i64,.int .i64,.int .i64]]),.var 95 (.agg [.adr 1 [],.sl 2]),.row (.int .u8) 5]⟩,[(.exit 0,⟨[.adr 0 []],[.var 95 (.agg [.adr 0 [],.sl 1]),.row (.int .u8) 5]⟩),(.exit 0,⟨[.adr 0 []],[.var 95 (.agg [.nilp,.sl 1]),.row (.int .u8) 5]⟩)]⟩
abbrev vJ:Type:=Int×Int×(List Int)×Int×Int×Bool×Bool×Int×Int×Int×Int×Int×Int×(List Int)
abbrev uU:Type:=(((List Int))⊕((List Int)))
noncomputable def fL (N:Nat) (f:vJ→Option uU):vJ→Option uU
 | (x0,x1,x2,x3,x4,x5,x6,x7,x8,x9,x10,x11,x12,x13) =>
 ac (decide (x0<x1)) (
  ac (within x0 (List.length x2)) (
   Option.bind (x2[Int.toNat x0]?) fun y0 =>
   Option.bind (Pe N (x3,x4,x5,x6,x7,x8,x9,x10,x11,x12,y0)) fun y1 =>
   Option.bind (OW N (y1,x13)) fun y2 =>
   Option.bind (f (IntKind.wrap IntKind.i64 (x0+(1:Int)),x1,x2,x3,x4,x5,x6,x7,x8,x9,x10,x11,x12,y2.2)) fun r=>match r with|.inl y=>some (.inl y)|.inr y=>some (.inr y)) (
   none )) (
  some (.inl (x13)))
noncomputable def cq (N:Nat):Nat→vJ→Option uU
 | 0,_=>none
 | k+1,x=>fL N (cq N k) x
noncomputable def wq (N:Nat) (k:Nat):Cut:=fy.cut (cq N k)
theorem rk (N:Nat) (k:Nat):al Tryz.prog false Tryz.f155 [] 58 (wq N k) :=
 fy.loopT ag ap (o8 N) Tryz.f155 [] (cuts:=[]) trivial (by decide +kernel) (by kernel_rfl) (fL N) (cq N) (fun _=>rfl) (fun _ _=>rfl) (fun f x=>by kernel_rfl) k
@[reducible] def Lm:LD:=⟨58,fy.live,fy.out,⟨[.int .i64,.int .i64,.ro (.int .i64),.adr 0 [],.adr 1 []],[.var 140 (.agg [.agg [.int .i64,.int .i64,.bool,.bool,.int .i64,.int .i64,.int .i64,.int .i64,.int .i64,.int .i64]]),.var 95 (.agg [.nilp,.sl 2]),.row (.int .u8) 5]⟩,fy.w⟩
noncomputable def sG (N:Nat) (f:(Int×Int×(List Int)×Int×Int×Bool×Bool×Int×Int×Int×Int×Int×Int×(List Int))→Option ((((List Int))⊕((List Int))))):(Int×Int×(List Int)×Int×Int×Bool×Bool×Int×Int×Int×Int×Int×Int×(List Int))→Option ((((List Int))⊕((List Int))))
 | (x0,x1,x2,x3,x4,x5,x6,x7,x8,x9,x10,x11,x12,x13) =>
 ac (decide (x0<x1)) (
  ac (within x0 (List.length x2)) (
   Option.bind (x2[Int.toNat x0]?) fun y0 =>
   Option.bind (Pe N (x3,x4,x5,x6,x7,x8,x9,x10,x11,x12,y0)) fun y1 =>
   Option.bind (F62 N (y1,x13)) fun y2 =>
   Option.bind (f (IntKind.wrap IntKind.i64 (x0+(1:Int)),x1,x2,x3,x4,x5,x6,x7,x8,x9,x10,x11,x12,y2.2)) fun r=>match r with|.inl y=>some (.inl y)|.inr y=>some (.inr y)) (
   none )) (
  some (.inr (x13)))
noncomputable def C1 (N:Nat) (k:Nat):(Int×Int×(List Int)×Int×Int×Bool×Bool×Int×Int×Int×Int×Int×Int×(List Int))→Option ((((List Int))⊕((List Int)))):=sG N (cq N k)
noncomputable def Mh (N:Nat) (k:Nat):Cut:=Lm.cut (C1 N k)
theorem Jo (N:Nat) (k:Nat):al Tryz.prog false Tryz.f155 [] 58 (Mh N k) :=
 Lm.loop2T ag ap (o8 N) fy.s Tryz.f155 [] (cuts:=[(58,wq N N)]) ⟨rk N N,trivial⟩ (by decide +kernel) (by kernel_rfl) (sG N) (fL N) (cq N) (fun _=>rfl) (fun _ _=>rfl) (fun f g x=>by kernel_rfl) (fun f g x=>by kernel_rfl) k
@[reducible] def w155:List SP:=[⟨[.str],[]⟩]
noncomputable def wT (N:Nat):(Int×Int×Bool×Bool×Int×Int×Int×Int×Int×Int×(List Int))→Option (ByteArray)
 | (x0,x1,x2,x3,x4,x5,x6,x7,x8,x9,x10) =>
 Option.bind (C1 N N ((0:Int),(↑(List.length x10):Int),x10,x0,x1,x2,x3,x4,x5,x6,x7,x8,x9,[])) fun y0 =>
 match y0 with
 | .inl y1 =>
  ac (decide ((0:Nat)<List.length y1∧List.length y1≤(140737488355328:Nat))) (
   some (aE y1)) (
   ac (decide (List.length y1=(0:Nat))) (
    some (ByteArray.empty)) (
    none ))
 | .inr y1 =>
  ac (decide ((0:Nat)<List.length y1∧List.length y1≤(140737488355328:Nat))) (
   some (aE y1)) (
   ac (decide (List.length y1=(0:Nat))) (
    some (ByteArray.empty)) (
    none ))
noncomputable def Sc (N:Nat):Pk→Tr Pk:=ah s155 w155 (wT N)
theorem rV (N:Nat):aA Tryz.prog (155) (Sc N) :=
 (af ag ap (o8 N) Tryz.func155 s155 w155 [] (cuts:=[(58,Dc fy.s.I (wq N N) (Mh N N))]) ⟨fun c' h=>cB (rk N N c' h) (Jo N N c' h) rfl rfl,trivial⟩ (fun _=>by kernel_rfl) (by decide +kernel) (wT N) (fun x=>by kernel_rfl))
@[reducible] def s156:SP:=⟨[.ro (.int .i64)],[]⟩
noncomputable def Z4 (N:Nat):List (Nat×(Pk→Tr Pk)):=[]
theorem xK (N:Nat):ai Tryz.prog (Z4 N):=trivial
@[reducible] def Ll:LD:=⟨58,[9,8,7,3],[(.ret,[2]),(.exit 0,[3])],⟨[.int .i64,.int .i64,.ro (.int .i64),.sl 0],[.row y0 245]⟩,[(.exit 0,⟨[.sl 0],[.row y0 245]⟩)]⟩
abbrev CG:Type:=Int×Int×(List Int)×(List (Int×(Int×Unit)))
abbrev BM:Type:=(List (Int×(Int×Unit)))
noncomputable def lU (N:Nat) (f:CG→Option BM):CG→Option BM
 | (x0,x1,x2,x3) =>
 ac (decide (x0<x1)) (
  ac (within x0 (List.length x2)) (
   Option.bind (x2[Int.toNat x0]?) fun y0 =>
   ac (decide ((↑(List.length x3):Int)>(0:Int))) (
    ac (within (IntKind.wrap IntKind.i64 ((↑(List.length x3):Int)-(1:Int))) (List.length x3)) (
     Option.bind (x3[Int.toNat (IntKind.wrap IntKind.i64 ((↑(List.length x3):Int)-(1:Int)))]?) fun y1 =>
     ac (y1.1==y0) (
      ac (within (IntKind.wrap IntKind.i64 ((↑(List.length x3):Int)-(1:Int))) (List.length x3)) (
       Option.bind (x3[Int.toNat (IntKind.wrap IntKind.i64 ((↑(List.length x3):Int)-(1:Int)))]?) fun y2 =>
       ac (within (IntKind.wrap IntKind.i64 ((↑(List.length x3):Int)-(1:Int))) (List.length x3)) (
        Option.bind (x3[Int.toNat (IntKind.wrap IntKind.i64 ((↑(List.length x3):Int)-(1:Int)))]?) fun y3 =>
        Option.bind (f (IntKind.wrap IntKind.i64 (x0+(1:Int)),x1,x2,List.set x3 (Int.toNat (IntKind.wrap IntKind.i64 ((↑(List.length x3):Int)-(1:Int)))) (y3.1,IntKind.wrap IntKind.i64 (y2.2.1+(1:Int)),()))) fun r=>some r) (
        none )) (
       none )) (
      ac (decide ((List.length x3+List.length [(y0,(1:Int),())])*(16:Nat)≤(140737488355328:Nat)∧List.length x3+List.length [(y0,(1:Int),())]≤(140737488355328:Nat))) (
       Option.bind (f (IntKind.wrap IntKind.i64 (x0+(1:Int)),x1,x2,x3++[(y0,(1:Int),())])) fun r=>some r) (
       none ))) (
     none )) (
    ac (decide ((List.length x3+List.length [(y0,(1:Int),())])*(16:Nat)≤(140737488355328:Nat)∧List.length x3+List.length [(y0,(1:Int),())]≤(140737488355328:Nat))) (
     Option.bind (f (IntKind.wrap IntKind.i64 (x0+(1:Int)),x1,x2,x3++[(y0,(1:Int),())])) fun r=>some r) (
     none ))) (
   none )) (
  some (x3))
noncomputable def eK (N:Nat):Nat→CG→Option BM
 | 0,_=>none
 | k+1,x=>lU N (eK N k) x
noncomputable def Mg (N:Nat) (k:Nat):Cut:=Ll.cut (eK N k)
theorem Jn (N:Nat) (k:Nat):al Tryz.prog false Tryz.f156 [] 58 (Mg N k) :=
 Ll.loopT ag ap (xK N) Tryz.f156 [] (cuts:=[]) trivial (by decide +kernel) (by kernel_rfl) (lU N) (eK N) (fun _=>rfl) (fun _ _=>rfl) (fun f x=>by kernel_rfl) k
@[reducible] def w156:List SP:=[⟨[.sl 0],[.row y0 245]⟩]
noncomputable def Tk (N:Nat):((List Int))→Option ((List (Int×(Int×Unit))))
 | x0 =>
 Option.bind (eK N N ((0:Int),(↑(List.length x0):Int),x0,[])) fun y0 =>
 some (y0)
noncomputable def aG2 (N:Nat):Pk→Tr Pk:=ah s156 w156 (Tk N)
theorem Wz (N:Nat):aA Tryz.prog (156) (aG2 N) :=
 (af ag ap (xK N) Tryz.func156 s156 w156 [] (cuts:=[(58,Mg N N)]) ⟨Jn N N,trivial⟩ (fun _=>by kernel_rfl) (by decide +kernel) (Tk N) (fun x=>by kernel_rfl))
@[reducible] def s221:SP:=⟨[.int .i64],[]⟩
noncomputable def ZH (N:Nat):List (Nat×(Pk→Tr Pk)):=[(154,OT N)]
theorem NM (N:Nat):ai Tryz.prog (ZH N):=⟨nT N,trivial⟩
@[reducible] def w221:List SP:=[⟨[.str],[]⟩]
noncomputable def Pd (N:Nat):(Int)→Option (ByteArray)
 | x0 =>
 ac (decide ((0:Int)≤IntKind.wrap IntKind.i64 (Int.tdiv (IntKind.wrap IntKind.i64 (x0-(1:Int))) (255:Int))∧IntKind.wrap IntKind.i64 (Int.tdiv (IntKind.wrap IntKind.i64 (x0-(1:Int))) (255:Int))≤(9223372036854775807:Int)∧(1:Nat)*Int.toNat (IntKind.wrap IntKind.i64 (Int.tdiv (IntKind.wrap IntKind.i64 (x0-(1:Int))) (255:Int)))≤(140737488355328:Nat))) (
  Option.bind (mV N (Int.tmod (IntKind.wrap IntKind.i64 (x0-(1:Int))) (255:Int))) fun y0 =>
  ac (decide ((↑(ByteArray.size (Ol (ByteArray.mk #[(255:UInt8)]) (IntKind.wrap IntKind.i64 (Int.tdiv (IntKind.wrap IntKind.i64 (x0-(1:Int))) (255:Int))))+ByteArray.size y0):Int)>(9223372036854775807:Int))) (
   none ) (
   some (Ol (ByteArray.mk #[(255:UInt8)]) (IntKind.wrap IntKind.i64 (Int.tdiv (IntKind.wrap IntKind.i64 (x0-(1:Int))) (255:Int)))++y0))) (
  none )
noncomputable def aj9 (N:Nat):Pk→Tr Pk:=ah s221 w221 (Pd N)
theorem KD (N:Nat):aA Tryz.prog (221) (aj9 N) :=
 (af ag ap (NM N) Tryz.func221 s221 w221 [] (cuts:=[]) trivial (fun _=>by kernel_rfl) (by decide +kernel) (Pd N) (fun x=>by kernel_rfl))
@[reducible] def s157:SP:=⟨[.agg [.agg [.int .i64,.int .i64,.bool,.bool,.int .i64,.int .i64,.int .i64,.int .i64,.int .i64,.int .i64]],.ro y0],[]⟩
noncomputable def Z3 (N:Nat):List (Nat×(Pk→Tr Pk)):=[(154,OT N),(155,Sc N),(221,aj9 N)]
theorem xJ (N:Nat):ai Tryz.prog (Z3 N):=⟨nT N,rV N,KD N,trivial⟩
@[reducible] def Lk:LD:=⟨58,[5,11,10,9,2],[(.ret,[4]),(.exit 0,[5])],⟨[.str,.int .i64,.int .i64,.ro y0,.adr 0 []],[.var 140 (.agg [.agg [.int .i64,.int .i64,.bool,.bool,.int .i64,.int .i64,.int .i64,.int .i64,.int .i64,.int .i64]])]⟩,[(.exit 0,⟨[.str],[]⟩)]⟩
abbrev CF:Type:=ByteArray×Int×Int×(List (Int×(Int×Unit)))×Int×Int×Bool×Bool×Int×Int×Int×Int×Int×Int
abbrev BL:Type:=ByteArray
noncomputable def lT (N:Nat) (f:CF→Option BL):CF→Option BL
 | (x0,x1,x2,x3,x4,x5,x6,x7,x8,x9,x10,x11,x12,x13) =>
 ac (decide (x1<x2)) (
  ac (within x1 (List.length x3)) (
   Option.bind (x3[Int.toNat x1]?) fun y0 =>
   Option.bind (wT N (x4,x5,x6,x7,x8,x9,x10,x11,x12,x13,[y0.1])) fun y1 =>
   Option.bind (Pd N y0.2.1) fun y2 =>
   ac (decide ((↑(ByteArray.size y1+ByteArray.size y2):Int)>(9223372036854775807:Int))) (
    none ) (
    ac (decide ((↑(ByteArray.size x0+ByteArray.size (y1++y2)):Int)>(9223372036854775807:Int))) (
     none ) (
     Option.bind (f (x0++(y1++y2),IntKind.wrap IntKind.i64 (x1+(1:Int)),x2,x3,x4,x5,x6,x7,x8,x9,x10,x11,x12,x13)) fun r=>some r))) (
   none )) (
  some (x0))
noncomputable def eJ (N:Nat):Nat→CF→Option BL
 | 0,_=>none
 | k+1,x=>lT N (eJ N k) x
noncomputable def Mf (N:Nat) (k:Nat):Cut:=Lk.cut (eJ N k)
theorem Jm (N:Nat) (k:Nat):al Tryz.prog false Tryz.f157 [] 58 (Mf N k) :=
 Lk.loopT ag ap (xJ N) Tryz.f157 [] (cuts:=[]) trivial (by decide +kernel) (by kernel_rfl) (lT N) (eJ N) (fun _=>rfl) (fun _ _=>rfl) (fun f x=>by kernel_rfl) k
@[reducible] def w157:List SP:=[⟨[.str],[]⟩]
noncomputable def Tj (N:Nat):(Int×Int×Bool×Bool×Int×Int×Int×Int×Int×Int×(List (Int×(Int×Unit))))→Option (ByteArray)
 | (x0,x1,x2,x3,x4,x5,x6,x7,x8,x9,x10) =>
 Option.bind (mV N (128:Int)) fun y0 =>
 Option.bind (eJ N N (y0,(0:Int),(↑(List.length x10):Int),x10,x0,x1,x2,x3,x4,x5,x6,x7,x8,x9)) fun y1 =>
 some (y1)
noncomputable def aG1 (N:Nat):Pk→Tr Pk:=ah s157 w157 (Tj N)
theorem Wy (N:Nat):aA Tryz.prog (157) (aG1 N) :=
 (af ag ap (xJ N) Tryz.func157 s157 w157 [] (cuts:=[(58,Mf N N)]) ⟨Jm N N,trivial⟩ (fun _=>by kernel_rfl) (by decide +kernel) (Tj N) (fun x=>by kernel_rfl))
@[reducible] def s310:SP:=⟨[.int .i64],[]⟩
noncomputable def Ze (N:Nat):List (Nat×(Pk→Tr Pk)):=[]
theorem Ns (N:Nat):ai Tryz.prog (Ze N):=trivial
@[reducible] def w310:List SP:=[⟨[.int .i64],[]⟩]
noncomputable def ID (N:Nat):(Int)→Option (Int)
 | x0 =>
 some (if (32:Int)<if (0:Int)>x0 then (0:Int) else x0 then (32:Int) else if (0:Int)>x0 then (0:Int) else x0)
noncomputable def VU (N:Nat):Pk→Tr Pk:=ah s310 w310 (ID N)
theorem A3 (N:Nat):aA Tryz.prog (310) (VU N) :=
 (af ag ap (Ns N) Tryz.func310 s310 w310 [] (cuts:=[]) trivial (fun _=>by kernel_rfl) (by decide +kernel) (ID N) (fun x=>by kernel_rfl))
@[reducible] def s311:SP:=⟨[.int .i64,.int .i64],[]⟩
noncomputable def Zd (N:Nat):List (Nat×(Pk→Tr Pk)):=[]
theorem Nr (N:Nat):ai Tryz.prog (Zd N):=trivial
@[reducible] def w311:List SP:=[⟨[.int .i64],[]⟩]
noncomputable def O4 (N:Nat):(Int×Int)→Option (Int)
 | (x0,x1) =>
 ac (decide (x0<(0:Int))) (
  none ) (
  some (IntKind.wrap IntKind.i64 (↑(BitVec.toNat (BitVec.ofInt (64:Nat) x1 &&& BitVec.ofInt (64:Nat) (IntKind.wrap IntKind.i64 (IntKind.wrap IntKind.i64 ((1:Int)*(2:Int)^min (Int.toNat x0) (64:Nat))-(1:Int))))):Int)))
noncomputable def aj2 (N:Nat):Pk→Tr Pk:=ah s311 w311 (O4 N)
theorem Kx (N:Nat):aA Tryz.prog (311) (aj2 N) :=
 (af ag ap (Nr N) Tryz.func311 s311 w311 [] (cuts:=[]) trivial (fun _=>by kernel_rfl) (by decide +kernel) (O4 N) (fun x=>by kernel_rfl))
@[reducible] def s334:SP:=⟨[.int .u64],[]⟩
noncomputable def Y3 (N:Nat):List (Nat×(Pk→Tr Pk)):=[]
theorem Nk (N:Nat):ai Tryz.prog (Y3 N):=trivial
@[reducible] def w334:List SP:=[⟨[.int .u64],[]⟩]
noncomputable def an1 (N:Nat):(Int)→Option (Int)
 | x0 =>
 some (IntKind.wrap IntKind.u64 (↑(BitVec.toNat (BitVec.ofInt (64:Nat) (Int.fdiv (IntKind.wrap IntKind.u64 (↑(BitVec.toNat (BitVec.ofInt (64:Nat) (IntKind.wrap IntKind.u64 (↑(BitVec.toNat (BitVec.ofInt (64:Nat) (Int.fdiv (IntKind.wrap IntKind.u64 (↑(BitVec.toNat (BitVec.ofInt (64:Nat) (IntKind.wrap IntKind.u64 (↑(BitVec.toNat (BitVec.ofInt (64:Nat) (Int.fdiv x0 (256:Int)) &&& BitVec.ofInt (64:Nat) (71777214294589695:Int))):Int)) ||| BitVec.ofInt (64:Nat) (IntKind.wrap IntKind.u64 (IntKind.wrap IntKind.u64 (↑(BitVec.toNat (BitVec.ofInt (64:Nat) x0 &&& BitVec.ofInt (64:Nat) (71777214294589695:Int))):Int)*(256:Int))))):Int)) (65536:Int)) &&& BitVec.ofInt (64:Nat) (281470681808895:Int))):Int)) ||| BitVec.ofInt (64:Nat) (IntKind.wrap IntKind.u64 (IntKind.wrap IntKind.u64 (↑(BitVec.toNat (BitVec.ofInt (64:Nat) (IntKind.wrap IntKind.u64 (↑(BitVec.toNat (BitVec.ofInt (64:Nat) (IntKind.wrap IntKind.u64 (↑(BitVec.toNat (BitVec.ofInt (64:Nat) (Int.fdiv x0 (256:Int)) &&& BitVec.ofInt (64:Nat) (71777214294589695:Int))):Int)) ||| BitVec.ofInt (64:Nat) (IntKind.wrap IntKind.u64 (IntKind.wrap IntKind.u64 (↑(BitVec.toNat (BitVec.ofInt (64:Nat) x0 &&& BitVec.ofInt (64:Nat) (71777214294589695:Int))):Int)*(256:Int))))):Int)) &&& BitVec.ofInt (64:Nat) (281470681808895:Int))):Int)*(65536:Int))))):Int)) (4294967296:Int)) ||| BitVec.ofInt (64:Nat) (IntKind.wrap IntKind.u64 (IntKind.wrap IntKind.u64 (↑(BitVec.toNat (BitVec.ofInt (64:Nat) (IntKind.wrap IntKind.u64 (↑(BitVec.toNat (BitVec.ofInt (64:Nat) (Int.fdiv (IntKind.wrap IntKind.u64 (↑(BitVec.toNat (BitVec.ofInt (64:Nat) (IntKind.wrap IntKind.u64 (↑(BitVec.toNat (BitVec.ofInt (64:Nat) (Int.fdiv x0 (256:Int)) &&& BitVec.ofInt (64:Nat) (71777214294589695:Int))):Int)) ||| BitVec.ofInt (64:Nat) (IntKind.wrap IntKind.u64 (IntKind.wrap IntKind.u64 (↑(BitVec.toNat (BitVec.ofInt (64:Nat) x0 &&& BitVec.ofInt (64:Nat) (71777214294589695:Int))):Int)*(256:Int))))):Int)) (65536:Int)) &&& BitVec.ofInt (64:Nat) (281470681808895:Int))):Int)) ||| BitVec.ofInt (64:Nat) (IntKind.wrap IntKind.u64 (IntKind.wrap IntKind.u64 (↑(BitVec.toNat (BitVec.ofInt (64:Nat) (IntKind.wrap IntKind.u64 (↑(BitVec.toNat (BitVec.ofInt (64:Nat) (IntKind.wrap IntKind.u64 (↑(BitVec.toNat (BitVec.ofInt (64:Nat) (Int.fdiv x0 (256:Int)) &&& BitVec.ofInt (64:Nat) (71777214294589695:Int))):Int)) ||| BitVec.ofInt (64:Nat) (IntKind.wrap IntKind.u64 (IntKind.wrap IntKind.u64 (↑(BitVec.toNat (BitVec.ofInt (64:Nat) x0 &&& BitVec.ofInt (64:Nat) (71777214294589695:Int))):Int)*(256:Int))))):Int)) &&& BitVec.ofInt (64:Nat) (281470681808895:Int))):Int)*(65536:Int))))):Int)*(4294967296:Int))))):Int))
noncomputable def aB9 (N:Nat):Pk→Tr Pk:=ah s334 w334 (an1 N)
theorem VN (N:Nat):aA Tryz.prog (334) (aB9 N) :=
 (af ag ap (Nk N) Tryz.func334 s334 w334 [] (cuts:=[]) trivial (fun _=>by kernel_rfl) (by decide +kernel) (an1 N) (fun x=>by kernel_rfl))
@[reducible] def s312:SP:=⟨[.int .u64],[]⟩
noncomputable def Zc (N:Nat):List (Nat×(Pk→Tr Pk)):=[(334,aB9 N)]
theorem Nq (N:Nat):ai Tryz.prog (Zc N):=⟨VN N,trivial⟩
@[reducible] def w312:List SP:=[⟨[.int .u64],[]⟩]
noncomputable def an6 (N:Nat):(Int)→Option (Int)
 | x0 =>
 Option.bind (an1 N (IntKind.wrap IntKind.u64 (↑(BitVec.toNat (BitVec.ofInt (64:Nat) (IntKind.wrap IntKind.u64 (↑(BitVec.toNat (BitVec.ofInt (64:Nat) (Int.fdiv (IntKind.wrap IntKind.u64 (↑(BitVec.toNat (BitVec.ofInt (64:Nat) (IntKind.wrap IntKind.u64 (↑(BitVec.toNat (BitVec.ofInt (64:Nat) (Int.fdiv (IntKind.wrap IntKind.u64 (↑(BitVec.toNat (BitVec.ofInt (64:Nat) (IntKind.wrap IntKind.u64 (↑(BitVec.toNat (BitVec.ofInt (64:Nat) (Int.fdiv x0 (2:Int)) &&& BitVec.ofInt (64:Nat) (6148914691236517205:Int))):Int)) ||| BitVec.ofInt (64:Nat) (IntKind.wrap IntKind.u64 (IntKind.wrap IntKind.u64 (↑(BitVec.toNat (BitVec.ofInt (64:Nat) x0 &&& BitVec.ofInt (64:Nat) (6148914691236517205:Int))):Int)*(2:Int))))):Int)) (4:Int)) &&& BitVec.ofInt (64:Nat) (3689348814741910323:Int))):Int)) ||| BitVec.ofInt (64:Nat) (IntKind.wrap IntKind.u64 (IntKind.wrap IntKind.u64 (↑(BitVec.toNat (BitVec.ofInt (64:Nat) (IntKind.wrap IntKind.u64 (↑(BitVec.toNat (BitVec.ofInt (64:Nat) (IntKind.wrap IntKind.u64 (↑(BitVec.toNat (BitVec.ofInt (64:Nat) (Int.fdiv x0 (2:Int)) &&& BitVec.ofInt (64:Nat) (6148914691236517205:Int))):Int)) ||| BitVec.ofInt (64:Nat) (IntKind.wrap IntKind.u64 (IntKind.wrap IntKind.u64 (↑(BitVec.toNat (BitVec.ofInt (64:Nat) x0 &&& BitVec.ofInt (64:Nat) (6148914691236517205:Int))):Int)*(2:Int))))):Int)) &&& BitVec.ofInt (64:Nat) (3689348814741910323:Int))):Int)*(4:Int))))):Int)) (16:Int)) &&& BitVec.ofInt (64:Nat) (1085102592571150095:Int))):Int)) ||| BitVec.ofInt (64:Nat) (IntKind.wrap IntKind.u64 (IntKind.wrap IntKind.u64 (↑(BitVec.toNat (BitVec.ofInt (64:Nat) (IntKind.wrap IntKind.u64 (↑(BitVec.toNat (BitVec.ofInt (64:Nat) (IntKind.wrap IntKind.u64 (↑(BitVec.toNat (BitVec.ofInt (64:Nat) (Int.fdiv (IntKind.wrap IntKind.u64 (↑(BitVec.toNat (BitVec.ofInt (64:Nat) (IntKind.wrap IntKind.u64 (↑(BitVec.toNat (BitVec.ofInt (64:Nat) (Int.fdiv x0 (2:Int)) &&& BitVec.ofInt (64:Nat) (6148914691236517205:Int))):Int)) ||| BitVec.ofInt (64:Nat) (IntKind.wrap IntKind.u64 (IntKind.wrap IntKind.u64 (↑(BitVec.toNat (BitVec.ofInt (64:Nat) x0 &&& BitVec.ofInt (64:Nat) (6148914691236517205:Int))):Int)*(2:Int))))):Int)) (4:Int)) &&& BitVec.ofInt (64:Nat) (3689348814741910323:Int))):Int)) ||| BitVec.ofInt (64:Nat) (IntKind.wrap IntKind.u64 (IntKind.wrap IntKind.u64 (↑(BitVec.toNat (BitVec.ofInt (64:Nat) (IntKind.wrap IntKind.u64 (↑(BitVec.toNat (BitVec.ofInt (64:Nat) (IntKind.wrap IntKind.u64 (↑(BitVec.toNat (BitVec.ofInt (64:Nat) (Int.fdiv x0 (2:Int)) &&& BitVec.ofInt (64:Nat) (6148914691236517205:Int))):Int)) ||| BitVec.ofInt (64:Nat) (IntKind.wrap IntKind.u64 (IntKind.wrap IntKind.u64 (↑(BitVec.toNat (BitVec.ofInt (64:Nat) x0 &&& BitVec.ofInt (64:Nat) (6148914691236517205:Int))):Int)*(2:Int))))):Int)) &&& BitVec.ofInt (64:Nat) (3689348814741910323:Int))):Int)*(4:Int))))):Int)) &&& BitVec.ofInt (64:Nat) (1085102592571150095:Int))):Int)*(16:Int))))):Int))) fun y0 =>
 some (y0)
noncomputable def aC5 (N:Nat):Pk→Tr Pk:=ah s312 w312 (an6 N)
theorem VT (N:Nat):aA Tryz.prog (312) (aC5 N) :=
 (af ag ap (Nq N) Tryz.func312 s312 w312 [] (cuts:=[]) trivial (fun _=>by kernel_rfl) (by decide +kernel) (an6 N) (fun x=>by kernel_rfl))
@[reducible] def s270:SP:=⟨[.agg [.int .i64,.int .i64]],[]⟩
noncomputable def Zp (N:Nat):List (Nat×(Pk→Tr Pk)):=[(310,VU N),(311,aj2 N),(312,aC5 N)]
theorem NC (N:Nat):ai Tryz.prog (Zp N):=⟨A3 N,Kx N,VT N,trivial⟩
@[reducible] def w270:List SP:=[⟨[.int .i64],[]⟩]
noncomputable def CW (N:Nat):(Int×Int)→Option (Int)
 | (x0,x1) =>
 Option.bind (ID N x1) fun y0 =>
 Option.bind (O4 N (y0,x0)) fun y1 =>
 Option.bind (an6 N (IntKind.wrap IntKind.u64 y1)) fun y2 =>
 ac (decide (IntKind.wrap IntKind.i64 ((64:Int)-y0)<(0:Int))) (
  none ) (
  some (IntKind.wrap IntKind.i64 (Int.fdiv y2 ((2:Int)^min (Int.toNat (IntKind.wrap IntKind.i64 ((64:Int)-y0))) (64:Nat)))))
noncomputable def aj4 (N:Nat):Pk→Tr Pk:=ah s270 w270 (CW N)
theorem Kz (N:Nat):aA Tryz.prog (270) (aj4 N) :=
 (af ag ap (NC N) Tryz.func270 s270 w270 [] (cuts:=[]) trivial (fun _=>by kernel_rfl) (by decide +kernel) (CW N) (fun x=>by kernel_rfl))
@[reducible] def s269:SP:=⟨[.adr 0 [],.int .i64,.int .i64],[.var 221 (.agg [.sl 1,.int .i64,.int .i64]),.row (.int .u8) 5]⟩
noncomputable def Zq (N:Nat):List (Nat×(Pk→Tr Pk)):=[(310,VU N),(311,aj2 N)]
theorem xu (N:Nat):ai Tryz.prog (Zq N):=⟨A3 N,Kx N,trivial⟩
@[reducible] def Ld:LD:=⟨30,[0],[(.exit 0,[])],⟨[.adr 0 []],[.var 221 (.agg [.sl 1,.int .i64,.int .i64]),.row (.int .u8) 5]⟩,[(.exit 0,⟨[],[.var 221 (.agg [.sl 1,.int .i64,.int .i64]),.row (.int .u8) 5]⟩)]⟩
abbrev Cu:Type:=Int×Int×(List Int)
abbrev BD:Type:=Int×Int×(List Int)
noncomputable def jk (N:Nat) (f:Cu→Option BD):Cu→Option BD
 | (x0,x1,x2) =>
 ac (decide (x1≥(8:Int))) (
  ac (decide ((List.length x2+List.length [IntKind.wrap IntKind.u8 x0])*(1:Nat)≤(140737488355328:Nat)∧List.length x2+List.length [IntKind.wrap IntKind.u8 x0]≤(140737488355328:Nat))) (
   Option.bind (f (Int.fdiv x0 (256:Int),IntKind.wrap IntKind.i64 (x1-(8:Int)),x2++[IntKind.wrap IntKind.u8 x0])) fun r=>some r) (
   none )) (
  some ((x0,x1,x2)))
noncomputable def lG (N:Nat):Nat→Cu→Option BD
 | 0,_=>none
 | k+1,x=>jk N (lG N k) x
noncomputable def LZ (N:Nat) (k:Nat):Cut:=Ld.cut (lG N k)
theorem Jg (N:Nat) (k:Nat):al Tryz.prog false Tryz.f269 [0] 30 (LZ N k) :=
 Ld.loopT ag ap (xu N) Tryz.f269 [0] (cuts:=[]) trivial (by decide +kernel) (by kernel_rfl) (jk N) (lG N) (fun _=>rfl) (fun _ _=>rfl) (fun f x=>by kernel_rfl) k
@[reducible] def w269:List SP:=[⟨[.tup []],[.var 221 (.agg [.sl 1,.int .i64,.int .i64]),.row (.int .u8) 5]⟩]
noncomputable def eF (N:Nat):(Int×Int×Int×Int×(List Int))→Option (Int×Int×(List Int))
 | (x0,x1,x2,x3,x4) =>
 Option.bind (ID N x0) fun y0 =>
 Option.bind (O4 N (y0,x1)) fun y1 =>
 ac (decide (x3<(0:Int))) (
  none ) (
  Option.bind (lG N N (IntKind.wrap IntKind.i64 (↑(BitVec.toNat (BitVec.ofInt (64:Nat) x2 ||| BitVec.ofInt (64:Nat) (IntKind.wrap IntKind.i64 (y1*(2:Int)^min (Int.toNat x3) (64:Nat))))):Int),IntKind.wrap IntKind.i64 (x3+y0),x4)) fun y2 =>
  some ((y2.1,y2.2.1,y2.2.2)))
noncomputable def H4 (N:Nat):Pk→Tr Pk:=ah s269 w269 (eF N)
theorem lq (N:Nat):aA Tryz.prog (269) (H4 N) :=
 (af ag ap (xu N) Tryz.func269 s269 w269 [0] (cuts:=[(30,LZ N N)]) ⟨Jg N N,trivial⟩ (fun _=>by kernel_rfl) (by decide +kernel) (eF N) (fun x=>by kernel_rfl))
@[reducible] def s222:SP:=⟨[.adr 0 [],.agg [.int .i64,.int .i64]],[.var 221 (.agg [.sl 1,.int .i64,.int .i64]),.row (.int .u8) 5]⟩
noncomputable def ZG (N:Nat):List (Nat×(Pk→Tr Pk)):=[(270,aj4 N),(269,H4 N)]
theorem NL (N:Nat):ai Tryz.prog (ZG N):=⟨Kz N,lq N,trivial⟩
@[reducible] def w222:List SP:=[⟨[.tup []],[.var 221 (.agg [.sl 1,.int .i64,.int .i64]),.row (.int .u8) 5]⟩]
noncomputable def wR (N:Nat):(Int×Int×Int×Int×(List Int))→Option (Int×Int×(List Int))
 | (x0,x1,x2,x3,x4) =>
 Option.bind (CW N (x0,x1)) fun y0 =>
 Option.bind (eF N (x1,y0,x2,x3,x4)) fun y1 =>
 some ((y1.1,y1.2.1,y1.2.2))
noncomputable def Wg (N:Nat):Pk→Tr Pk:=ah s222 w222 (wR N)
theorem A6 (N:Nat):aA Tryz.prog (222) (Wg N) :=
 (af ag ap (NL N) Tryz.func222 s222 w222 [0] (cuts:=[]) trivial (fun _=>by kernel_rfl) (by decide +kernel) (wR N) (fun x=>by kernel_rfl))
@[reducible] def s223:SP:=⟨[.adr 0 []],[.var 221 (.agg [.sl 1,.int .i64,.int .i64]),.row (.int .u8) 5]⟩
noncomputable def ZF (N:Nat):List (Nat×(Pk→Tr Pk)):=[(269,H4 N)]
theorem NK (N:Nat):ai Tryz.prog (ZF N):=⟨lq N,trivial⟩
@[reducible] def w223:List SP:=[⟨[.tup []],[.var 221 (.agg [.sl 1,.int .i64,.int .i64]),.row (.int .u8) 5]⟩]
noncomputable def CY (N:Nat):(Int×Int×(List Int))→Option (Int×Int×(List Int))
 | (x0,x1,x2) =>
 Option.bind (eF N (Int.tmod (IntKind.wrap IntKind.i64 ((8:Int)-x1)) (8:Int),(0:Int),x0,x1,x2)) fun y0 =>
 some ((y0.1,y0.2.1,y0.2.2))
noncomputable def We (N:Nat):Pk→Tr Pk:=ah s223 w223 (CY N)
theorem A5 (N:Nat):aA Tryz.prog (223) (We N) :=
 (af ag ap (NK N) Tryz.func223 s223 w223 [0] (cuts:=[]) trivial (fun _=>by kernel_rfl) (by decide +kernel) (CY N) (fun x=>by kernel_rfl))
@[reducible] def y3:Ty:=(.cons (.sl (.int .u8)) (.cons (.int .i64) (.cons (.int .i64) .unit)))
@[reducible] def s193:SP:=⟨[.radr y3 [.i 0 3]],[]⟩
noncomputable def ZR (N:Nat):List (Nat×(Pk→Tr Pk)):=[]
theorem NU (N:Nat):ai Tryz.prog (ZR N):=trivial
@[reducible] def w193:List SP:=[⟨[.str],[]⟩]
noncomputable def IL (N:Nat):(((List Int)×(Int×(Int×Unit))))→Option (ByteArray)
 | x0 =>
 ac (decide (x0.2.2.1>(0:Int))) (
  ac (decide ((↑(ByteArray.size (aE x0.1)+ByteArray.size (aE [IntKind.wrap IntKind.u8 x0.2.1])):Int)>(9223372036854775807:Int))) (
   none ) (
   some (aE x0.1++aE [IntKind.wrap IntKind.u8 x0.2.1]))) (
  some (aE x0.1))
noncomputable def ak2 (N:Nat):Pk→Tr Pk:=ah s193 w193 (IL N)
theorem KG (N:Nat):aA Tryz.prog (193) (ak2 N) :=
 (af ag ap (NU N) Tryz.func193 s193 w193 [] (cuts:=[]) trivial (fun _=>by kernel_rfl) (by decide +kernel) (IL N) (fun x=>by kernel_rfl))
@[reducible] def s224:SP:=⟨[.str],[]⟩
noncomputable def ZE (N:Nat):List (Nat×(Pk→Tr Pk)):=[(270,aj4 N)]
theorem xB (N:Nat):ai Tryz.prog (ZE N):=⟨Kz N,trivial⟩
@[reducible] def Lh:LD:=⟨58,[10,9,8,3],[(.ret,[2]),(.exit 0,[3])],⟨[.int .i64,.int .i64,.sl 0,.sl 0],[.row (.int .u8) 5]⟩,[(.exit 0,⟨[.sl 0],[.row (.int .u8) 5]⟩)]⟩
abbrev Cy:Type:=Int×Int×(List Int)
abbrev BG:Type:=(List Int)
noncomputable def lR (N:Nat) (f:Cy→Option BG):Cy→Option BG
 | (x0,x1,x2) =>
 ac (decide (x0<x1)) (
  ac (within x0 (List.length x2)) (
   Option.bind (x2[Int.toNat x0]?) fun y0 =>
   Option.bind (CW N (IntKind.wrap IntKind.i64 y0,(8:Int))) fun y1 =>
   ac (within x0 (List.length x2)) (
    Option.bind (x2[Int.toNat x0]?) fun y2 =>
    Option.bind (f (IntKind.wrap IntKind.i64 (x0+(1:Int)),x1,List.set x2 (Int.toNat x0) (IntKind.wrap IntKind.u8 y1))) fun r=>some r) (
    none )) (
   none )) (
  some (x2))
noncomputable def eH (N:Nat):Nat→Cy→Option BG
 | 0,_=>none
 | k+1,x=>lR N (eH N k) x
noncomputable def Mc (N:Nat) (k:Nat):Cut:=Lh.cut (eH N k)
theorem Jj (N:Nat) (k:Nat):al Tryz.prog false Tryz.f224 [] 58 (Mc N k) :=
 Lh.loopT ag ap (xB N) Tryz.f224 [] (cuts:=[]) trivial (by decide +kernel) (by kernel_rfl) (lR N) (eH N) (fun _=>rfl) (fun _ _=>rfl) (fun f x=>by kernel_rfl) k
@[reducible] def w224:List SP:=[⟨[.str],[]⟩]
noncomputable def S7 (N:Nat):(ByteArray)→Option (ByteArray)
 | x0 =>
 ac (decide (ByteArray.size x0≤(140737488355328:Nat))) (
  Option.bind (eH N N ((0:Int),(↑(List.length (bytesOf x0)):Int),bytesOf x0)) fun y0 =>
  some (aE y0)) (
  none )
noncomputable def aE3 (N:Nat):Pk→Tr Pk:=ah s224 w224 (S7 N)
theorem Wd (N:Nat):aA Tryz.prog (224) (aE3 N) :=
 (af ag ap (xB N) Tryz.func224 s224 w224 [] (cuts:=[(58,Mc N N)]) ⟨Jj N N,trivial⟩ (fun _=>by kernel_rfl) (by decide +kernel) (S7 N) (fun x=>by kernel_rfl))
end Go.Proofs.YtfcamlibbfnldaaGreat.Am

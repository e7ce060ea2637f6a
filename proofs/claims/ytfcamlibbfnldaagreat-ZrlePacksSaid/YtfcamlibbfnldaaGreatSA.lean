/- The seat's Go functions come to the Lean functions written here, wherever these give an answer (part A). -/
import Derived.Test.YtfcamlibbfnldaaGreatAmC
import Derived.KernelRfl
import Derived.Test.YtfcamlibbfnldaaGreatChecked
import Derived.Lib.UnsafeStr
import Derived.Shelf.Strings.Repeat
import Derived.Shelf.RegionOpenPlain
import Derived.WalkKit
import Derived.Test.YtfcamlibbfnldaaGreatProg
set_option linter.unusedSimpArgs false
set_option linter.unusedVariables false
set_option linter.unusedSectionVars false
set_option maxRecDepth 100000
set_option maxHeartbeats 2000000
namespace Go.Proofs.YtfcamlibbfnldaaGreat.Am
open Go Go.Am
noncomputable instance instP:Inhabited Program:=⟨Tryz.prog⟩
theorem EB {P:Program} {w:World}:∀(l:List Int) (a:Addr) (acc:ByteArray),(∀j x,l[j]?=some x→w.cell? (a.add j)=some (.int .u8 x)) →
  (loadBytes a acc l.length).run P w=.ok ⟨acc.data++(l.map fun n=>UInt8.ofNat n.toNat).toArray⟩ w
 | [],a,acc,_=>by simp[loadBytes]
 | x::l,a,acc,h=>by
  have h0:w.cell? a=some (.int .u8 x):=by
   have:=h 0 x rfl
   simpa[Addr.add] using this
  have ih:=EB (P:=P) l (a.add 1) (acc.push (UInt8.ofNat x.toNat)) (fun j y hy=>by
   have:=h (j+1) y (by simpa using hy)
   have e:(a.add 1).add j=a.add (j+1):=by
    unfold Addr.add
    by_cases hj:j=0
    ·subst hj;simp
    ·simp[hj];omega
   rw[e];exact this)
  simp only[List.length_cons,loadBytes,Sem.run_bind,run_load,h0,Result.andThen]
  rw[show(x.toNat).toUInt8=UInt8.ofNat x.toNat from rfl,ih]
  congr 1
  apply ByteArray.ext
  simp[ByteArray.push]
theorem HO {P:Program} {w:World} (pt it ty e:TypeId) (hp:P.underlying pt=some (.pointer e)) (hc:P.cellsOf e=1) (g cells:Nat) (hsh:w.shape? g=some (e,cells)) (l:List Int) (h0:l≠[]) (hn:l.length≤cells) (h63:l.length≤9223372036854775807)
  (hcell:∀j x,l[j]?=some x→w.cell? ((⟨g,0,none⟩:Addr).add j)=some (.int .u8 x)) :
  (Builtin.unsafeString_ #[pt,it] ty #[.pointer (some ⟨g,0,none⟩),.int .i64 l.length]).run P w=.ok (.string (aE l)) (w.freeze ⟨g,0,none⟩ l.length):=by
 have hl:l.length≠0:=by simpa using h0
 have hlb:=EB (P:=P) (w:=w) l ⟨g,0,none⟩ .empty hcell
 have hlies:=Lib.liesAt_bytes (P:=P) hc (cells / P.cellsOf e) l.length (by rw[hc];simpa using hn)
 have h63':¬(9223372036854775807:Int)<(l.length:Int):=by omega
 have hdef:Builtin.unsafeString_ #[pt,it] ty #[.pointer (some ⟨g,0,none⟩),.int .i64 l.length] =
   (do
    let n ←asInt (.int .i64 l.length)
    if n<0 then runtimePanic (.error "unsafe.String: len out of range")
    if n>IntKind.i64.max then unsupported (.unsafePointer "String: a length above the largest int")
    if n=0 then pure (.string .empty)
    else if ←variablesAt ⟨g,0,none⟩ (←elemOf pt) n.toNat then do
     let s ←loadBytes ⟨g,0,none⟩ .empty n.toNat
     freeze ⟨g,0,none⟩ n.toNat
     pure (.string s)
    else unsupported (.unsafePointer "String: not so many bytes at ptr")):=rfl
 rw[hdef]
 have hmax:IntKind.i64.max=9223372036854775807:=rfl
 have hneg:¬(l.length:Int)<0:=by omega
 simp[asInt,asIntOf,hmax,h63',hneg,hl,variablesAt,hsh,elemOf,run_underlying hp,hlies,hlb,aE]
set_option maxHeartbeats 4000000 in
theorem am2:IK Tryz.prog 67 5:=by
 intro b o n c w gk cs fr xs h1 h2 h3 h4 h5 h6 h7
 subst h6
 have c1:w.drew.cell? ⟨b,o+1,none⟩=some (.slice (some ⟨gk,0,none⟩) xs.length c):=h1
 have hSD:(Builtin.unsafeSliceData_ #[93] 183 #[.slice (some ⟨gk,0,none⟩) xs.length c]).run Tryz.prog w.drew=.ok (.pointer (some ⟨gk,0,none⟩)) w.drew :=
  Lib.run_unsafeSliceData_row _ _ _ _ _ _ (by omega)
 have hsz:xs.length≤cs.size:=by
  have:=h7 (xs.length-1) (.int .u8 (xs[xs.length-1]'(by omega))) (by simp)
  unfold World.cell? at this
  rw[h5] at this
  simp at this
  have:=(Array.getElem?_eq_some_iff.1 this).1
  omega
 have hUS:(Builtin.unsafeString_ #[183,3] 9 #[.pointer (some ⟨gk,0,none⟩),.int .i64 xs.length]).run Tryz.prog w.drew=.ok (.string (aE xs)) (w.drew.freeze ⟨gk,0,none⟩ xs.length):=by
  refine HO 183 3 9 5 Tryz.underlying183 (by kernel_rfl) gk cs.size (by have hg':w.drew.heap[gk]?=some (.cells cs 5 fr):=h5;simp[World.shape?,hg']) xs (by intro e;rw[e] at h2;simp at h2) hsz (by unfold bg at h3;omega) ?_
  intro j x hx
  have:=h7 j (.int .u8 x) (by simp[hx])
  by_cases e:j=0
  ·subst e;simpa[Addr.add] using this
  ·simpa[Addr.add,e] using this
 have mixed:Tryz.prog.follows .mixedOrders=true:=by kernel_rfl
 go_enter Tryz.func67,Tryz.ntmps67
 go_wp2
 go_region_o
 all_goals (go_wp2;go_ret;exact⟨rfl,rfl⟩)
set_option maxHeartbeats 4000000 in
theorem am1:IL Tryz.prog 67 5:=by
 intro b o c w a h1 h2
 have c1:w.drew.cell? ⟨b,o+1,none⟩=some (.slice a 0 c):=h1
 have hUS:∀(p:Option Addr) (w':World),(Builtin.unsafeString_ #[183,3] 9 #[.pointer p,.int .i64 0]).run Tryz.prog w'=.ok (.string .empty) w':=fun p w'=>Lib.run_unsafeString_none ..
 have mixed:Tryz.prog.follows .mixedOrders=true:=by kernel_rfl
 rcases h2 with rfl|⟨gk,cs,fr,rfl,hg⟩
 ·have hSD:(Builtin.unsafeSliceData_ #[93] 183 #[.slice none 0 c]).run Tryz.prog w.drew=.ok (.pointer none) w.drew:=Lib.run_unsafeSliceData_nil ..
  go_enter Tryz.func67,Tryz.ntmps67
  go_wp2
  go_region_o
  all_goals (go_wp2;go_ret;exact⟨rfl,Grow.drew w⟩)
 ·by_cases hc:c=0
  ·subst hc
   have hSD:(Builtin.unsafeSliceData_ #[93] 183 #[.slice (some ⟨gk,0,none⟩) 0 0]).run Tryz.prog w.drew=.ok (.pointer (some ⟨w.drew.heap.size,0,none⟩)) (w.drew.alloc (.view ⟨gk,0,none⟩ 5)) :=
    Lib.run_unsafeSliceData_zero _ _ _ _ Tryz.underlying183 _ _ (5,cs.size) (by have hg':w.drew.heap[gk]?=some (.cells cs 5 fr):=hg;simp[World.shape?,hg'])
   have hb:b<w.drew.heap.size:=World.block_lt_of_cell? _ _ c1
   have c2:(w.drew.alloc (.view ⟨gk,0,none⟩ 5)).cell? ⟨b,o+1,none⟩=some (.slice (some ⟨gk,0,none⟩) 0 0):=by
    rw[←c1]
    exact World.cell?_of_block ((Grow.alloc w.drew (.view ⟨gk,0,none⟩ 5)).block b hb)
   have c3:(w.alloc (.view ⟨gk,0,none⟩ 5)).cell? ⟨b,o+1,none⟩=some (.slice (some ⟨gk,0,none⟩) 0 0):=c2
   go_enter Tryz.func67,Tryz.ntmps67
   go_wp2
   go_region_o
   all_goals (go_wp2;go_ret;exact⟨rfl,(Grow.drew w).trans (Grow.alloc w.drew _)⟩)
  ·have hSD:(Builtin.unsafeSliceData_ #[93] 183 #[.slice (some ⟨gk,0,none⟩) 0 c]).run Tryz.prog w.drew=.ok (.pointer (some ⟨gk,0,none⟩)) w.drew :=
    Lib.run_unsafeSliceData_row _ _ _ _ _ _ hc
   go_enter Tryz.func67,Tryz.ntmps67
   go_wp2
   go_region_o
   all_goals (go_wp2;go_ret;exact⟨rfl,Grow.drew w⟩)
theorem aH7:uC Tryz.prog 67 5:=⟨(fun e=>by cases e),fun _=>⟨am2,am1⟩⟩
def Sl:Go.Shelf.Ren:=⟨fun|105=>268|212=>273|99=>114|165=>308|166=>62|170=>309|169=>67|263=>313|264=>314|206=>186|240=>122|241=>333|276=>190|277=>351|n=>n,fun|9=>9|3=>3|4=>4|20=>20|0=>0|46=>151|109=>300|5=>5|72=>95|76=>98|51=>250|146=>337|53=>252|148=>339|70=>92|37=>93|75=>97|127=>183|164=>218|80=>105|n=>n,fun|n=>n⟩
theorem VO:Go.Proofs.Lays.n105 Tryz.prog Sl where
 mixed:=by kernel_rfl
 f99:=Tryz.func114.trans (congrArg some (by kernel_rfl))
 f105:=Tryz.func268.trans (congrArg some (by kernel_rfl))
 f165:=Tryz.func308.trans (congrArg some (by kernel_rfl))
 f166:=Tryz.func62.trans (congrArg some (by kernel_rfl))
 f169:=Tryz.func67.trans (congrArg some (by kernel_rfl))
 f170:=Tryz.func309.trans (congrArg some (by kernel_rfl))
 f206:=Tryz.func186.trans (congrArg some (by kernel_rfl))
 f212:=Tryz.func273.trans (congrArg some (by kernel_rfl))
 f240:=Tryz.func122.trans (congrArg some (by kernel_rfl))
 f241:=Tryz.func333.trans (congrArg some (by kernel_rfl))
 f263:=Tryz.func313.trans (congrArg some (by kernel_rfl))
 f264:=Tryz.func314.trans (congrArg some (by kernel_rfl))
 f276:=Tryz.func190.trans (congrArg some (by kernel_rfl))
 f277:=Tryz.func351.trans (congrArg some (by kernel_rfl))
 t0:=Tryz.underlying0
 a0:=Tryz.isAgg0
 z0:=Tryz.sizeOf0
 v0:=Tryz.zeroValue0
 t3:=Tryz.underlying3
 a3:=Tryz.isAgg3
 z3:=Tryz.sizeOf3
 v3:=Tryz.zeroValue3
 t4:=Tryz.underlying4
 a4:=Tryz.isAgg4
 z4:=Tryz.sizeOf4
 v4:=Tryz.zeroValue4
 t5:=Tryz.underlying5
 a5:=Tryz.isAgg5
 z5:=Tryz.sizeOf5
 v5:=Tryz.zeroValue5
 t9:=Tryz.underlying9
 a9:=Tryz.isAgg9
 z9:=Tryz.sizeOf9
 v9:=Tryz.zeroValue9
 t20:=Tryz.underlying20
 a20:=Tryz.isAgg20
 z20:=Tryz.sizeOf20
 v20:=Tryz.zeroValue20
 t37:=Tryz.underlying93
 a37:=Tryz.isAgg93
 z37:=Tryz.sizeOf93
 v37:=Tryz.zeroValue93
 t46:=Tryz.underlying151
 a46:=Tryz.isAgg151
 z46:=Tryz.sizeOf151
 v46:=Tryz.zeroValue151
 t51:=Tryz.underlying250
 a51:=Tryz.isAgg250
 z51:=Tryz.sizeOf250
 v51:=Tryz.zeroValue250
 t53:=Tryz.underlying252
 a53:=Tryz.isAgg252
 z53:=Tryz.sizeOf252
 v53:=Tryz.zeroValue252
 t70:=Tryz.underlying92
 a70:=Tryz.isAgg92
 z70:=Tryz.sizeOf92
 v70:=Tryz.zeroValue92
 t72:=Tryz.underlying95
 a72:=Tryz.isAgg95
 z72:=Tryz.sizeOf95
 v72:=Tryz.zeroValue95
 t75:=Tryz.underlying97
 a75:=Tryz.isAgg97
 z75:=Tryz.sizeOf97
 v75:=Tryz.zeroValue97
 t76:=Tryz.underlying98
 a76:=Tryz.isAgg98
 z76:=Tryz.sizeOf98
 v76:=Tryz.zeroValue98
 t109:=Tryz.underlying300
 a109:=Tryz.isAgg300
 z109:=Tryz.sizeOf300
 v109:=Tryz.zeroValue300
 t127:=Tryz.underlying183
 a127:=Tryz.isAgg183
 z127:=Tryz.sizeOf183
 v127:=Tryz.zeroValue183
 t146:=Tryz.underlying337
 a146:=Tryz.isAgg337
 z146:=Tryz.sizeOf337
 v146:=Tryz.zeroValue337
 t148:=Tryz.underlying339
 a148:=Tryz.isAgg339
 z148:=Tryz.sizeOf339
 v148:=Tryz.zeroValue339
 t164:=Tryz.underlying218
 a164:=Tryz.isAgg218
 z164:=Tryz.sizeOf218
 v164:=Tryz.zeroValue218
theorem Sm:Builder.Extra Tryz.prog Sl where
 sizeBuilder:=by kernel_rfl
 liesBuilder:=by kernel_rfl
 t5:=Tryz.underlying5
 a5:=Tryz.isAgg5
 z5:=Tryz.sizeOf5
 v5:=Tryz.zeroValue5
 infoByte:=by kernel_rfl
 cellsByte:=by kernel_rfl
 sizeByte:=by kernel_rfl
 neB5:=by decide
theorem am9:uC Tryz.prog 268 0:=by
 refine⟨fun _ s c w h0 h1 h2=>?_,fun h=>absurd rfl h⟩
 obtain⟨n,rfl⟩:=Int.eq_ofNat_of_zero_le h0
 have h2:s.size*n≤140737488355328:=h2
 refine(Go.Proofs.Any.strings_Repeat VO Sm s n w (by omega) h2).mono fun r w' hr=>?_
 exact⟨hr.1,⟨hr.2.os,hr.2.tape,hr.2.output,hr.2.size,hr.2.block⟩⟩
def ag:FuncId→List Nat:=PP [(6,[1,0]),(20,[0,0]),(23,[1]),(24,[0]),(34,[0,0,0,0]),(40,[0,0,0,0,0]),(66,[1,0]),(67,[78,5]),(71,[2,0]),(76,[0,5]),(83,[1,0,0]),(84,[2]),(86,[2]),(91,[0,0]),(106,[2]),(112,[2]),(113,[2,0]),(116,[2]),(130,[0,5,5]),(141,[1,0]),(142,[1]),(143,[1,0,0,0]),(144,[1,0,0]),(152,[0,0]),(170,[0,5]),(185,[2,0]),(190,[77]),(193,[2]),(198,[0,0,5]),(207,[0,0,0]),(209,[0,5,5,5]),(212,[1,0]),(219,[0,5,5]),(231,[4]),(238,[0,0,1,0]),(240,[0,0,0,1]),(243,[0,0,0,0,0,4]),(252,[0,0,0,0]),(265,[1]),(268,[78,0]),(285,[2]),(288,[0,5,5]),(289,[1,1]),(290,[0,0,0]),(305,[2]),(315,[2,0,0,0,0]),(322,[0,5,5,5]),(324,[2]),(325,[2]),(330,[2]),(342,[1]),(353,[1,0,0]),(364,[2]),(376,[0,0]),(379,[3,0]),(383,[1]),(384,[4,0]),(385,[0,0]),(388,[3,0]),(389,[4,0,0]),(391,[4,0,0,0]),(392,[4,0,0,0,0]),(393,[4,0,0,0,0]),(394,[4,0,0,0,0])]
theorem am:De Tryz.prog ag:=⟨rfl,by kernel_rfl,an7 190 (by decide +kernel) Tryz.func190 (by decide +kernel) (by decide +kernel) (by kernel_rfl) (by kernel_rfl),VH 67 5 268 0 (by decide +kernel) Tryz.func67 (by decide +kernel) (by decide +kernel) aH7 Tryz.func268 (by decide +kernel) (by decide +kernel) am9⟩
@[reducible] def s78:SP:=⟨[],[]⟩
noncomputable def aG0 (N:Nat):List (Nat×(Pk→Tr Pk)):=[]
theorem RH (N:Nat):ai Tryz.prog (aG0 N):=trivial
@[reducible] def w78:List SP:=[⟨[.agg [.int .i64,.int .i64,.bool,.bool,.int .i64,.int .i64,.int .i64,.int .i64,.int .i64,.int .i64]],[]⟩]
noncomputable def Zx (N:Nat):(Unit)→Option (Int×Int×Bool×Bool×Int×Int×Int×Int×Int×Int)
 | () =>
 some (((8:Int),(8:Int),false,true,(7:Int),(7:Int),(3:Int),(0:Int),(3:Int),(6:Int)))
noncomputable def T78 (N:Nat):Pk→Tr Pk:=ah s78 w78 (Zx N)
theorem as7 (N:Nat):av Tryz.prog (78) (T78 N) :=
 (af ag am (RH N) Tryz.func78 s78 w78 [] (cuts:=[]) trivial (fun _=>by kernel_rfl) (by decide +kernel) (Zx N) (fun x=>by kernel_rfl))
@[reducible] def y0:Ty:=(.cons (.int .i64) (.cons (.int .i64) .unit))
@[reducible] def s95:SP:=⟨[.agg [.int .i64,.int .i64,.bool,.bool,.int .i64,.int .i64,.int .i64,.int .i64,.int .i64,.int .i64]],[]⟩
noncomputable def aE3 (N:Nat):List (Nat×(Pk→Tr Pk)):=[]
theorem Rz (N:Nat):ai Tryz.prog (aE3 N):=trivial
@[reducible] def w95:List SP:=[⟨[.arr y0 3],[]⟩]
noncomputable def Vu (N:Nat):(Int×Int×Bool×Bool×Int×Int×Int×Int×Int×Int)→Option ((List (Int×(Int×Unit))))
 | (x0,x1,x2,x3,x4,x5,x6,x7,x8,x9) =>
 some ([(x4,x7,()),(x5,x8,()),(x6,x9,())])
noncomputable def T95 (N:Nat):Pk→Tr Pk:=ah s95 w95 (Vu N)
theorem Bm (N:Nat):av Tryz.prog (95) (T95 N) :=
 (af ag am (Rz N) Tryz.func95 s95 w95 [] (cuts:=[]) trivial (fun _=>by kernel_rfl) (by decide +kernel) (Vu N) (fun x=>by kernel_rfl))
@[reducible] def s227:SP:=⟨[.int .u64],[]⟩
noncomputable def af9 (N:Nat):List (Nat×(Pk→Tr Pk)):=[]
theorem OR (N:Nat):ai Tryz.prog (af9 N):=trivial
@[reducible] def w227:List SP:=[⟨[.int .i64],[]⟩]
noncomputable def aB1 (N:Nat):(Int)→Option (Int)
 | x0 =>
 ac (decide (x0≥(4294967296:Int))) (
  ac (decide (Int.fdiv x0 (4294967296:Int)≥(65536:Int))) (
   ac (decide (Int.fdiv (Int.fdiv x0 (4294967296:Int)) (65536:Int)≥(256:Int))) (
    ac (decide ((0:Int)≤IntKind.wrap IntKind.u8 (Int.fdiv (Int.fdiv (Int.fdiv x0 (4294967296:Int)) (65536:Int)) (256:Int)))) (
     Option.bind ((ByteArray.mk #[(0:UInt8),(1:UInt8),(2:UInt8),(2:UInt8),(3:UInt8),(3:UInt8),(3:UInt8),(3:UInt8),(4:UInt8),(4:UInt8),(4:UInt8),(4:UInt8),(4:UInt8),(4:UInt8),(4:UInt8),(4:UInt8),(5:UInt8),(5:UInt8),(5:UInt8),(5:UInt8),(5:UInt8),(5:UInt8),(5:UInt8),(5:UInt8),(5:UInt8),(5:UInt8),(5:UInt8),(5:UInt8),(5:UInt8),(5:UInt8),(5:UInt8),(5:UInt8),(6:UInt8),(6:UInt8),(6:UInt8),(6:UInt8),(6:UInt8),(6:UInt8),(6:UInt8),(6:UInt8),(6:UInt8),(6:UInt8),(6:UInt8),(6:UInt8),(6:UInt8),(6:UInt8),(6:UInt8),(6:UInt8),(6:UInt8),(6:UInt8),(6:UInt8),(6:UInt8),(6:UInt8),(6:UInt8),(6:UInt8),(6:UInt8),(6:UInt8),(6:UInt8),(6:UInt8),(6:UInt8),(6:UInt8),(6:UInt8),(6:UInt8),(6:UInt8),(7:UInt8),(7:UInt8),(7:UInt8),(7:UInt8),(7:UInt8),(7:UInt8),(7:UInt8),(7:UInt8),(7:UInt8),(7:UInt8),(7:UInt8),(7:UInt8),(7:UInt8),(7:UInt8),(7:UInt8),(7:UInt8),(7:UInt8),(7:UInt8),(7:UInt8),(7:UInt8),(7:UInt8),(7:UInt8),(7:UInt8),(7:UInt8),(7:UInt8),(7:UInt8),(7:UInt8),(7:UInt8),(7:UInt8),(7:UInt8),(7:UInt8),(7:UInt8),(7:UInt8),(7:UInt8),(7:UInt8),(7:UInt8),(7:UInt8),(7:UInt8),(7:UInt8),(7:UInt8),(7:UInt8),(7:UInt8),(7:UInt8),(7:UInt8),(7:UInt8),(7:UInt8),(7:UInt8),(7:UInt8),(7:UInt8),(7:UInt8),(7:UInt8),(7:UInt8),(7:UInt8),(7:UInt8),(7:UInt8),(7:UInt8),(7:UInt8),(7:UInt8),(7:UInt8),(7:UInt8),(7:UInt8),(7:UInt8),(7:UInt8),(7:UInt8),(8:UInt8),(8:UInt8),(8:UInt8),(8:UInt8),(8:UInt8),(8:UInt8),(8:UInt8),(8:UInt8),(8:UInt8),(8:UInt8),(8:UInt8),(8:UInt8),(8:UInt8),(8:UInt8),(8:UInt8),(8:UInt8),(8:UInt8),(8:UInt8),(8:UInt8),(8:UInt8),(8:UInt8),(8:UInt8),(8:UInt8),(8:UInt8),(8:UInt8),(8:UInt8),(8:UInt8),(8:UInt8),(8:UInt8),(8:UInt8),(8:UInt8),(8:UInt8),(8:UInt8),(8:UInt8),(8:UInt8),(8:UInt8),(8:UInt8),(8:UInt8),(8:UInt8),(8:UInt8),(8:UInt8),(8:UInt8),(8:UInt8),(8:UInt8),(8:UInt8),(8:UInt8),(8:UInt8),(8:UInt8),(8:UInt8),(8:UInt8),(8:UInt8),(8:UInt8),(8:UInt8),(8:UInt8),(8:UInt8),(8:UInt8),(8:UInt8),(8:UInt8),(8:UInt8),(8:UInt8),(8:UInt8),(8:UInt8),(8:UInt8),(8:UInt8),(8:UInt8),(8:UInt8),(8:UInt8),(8:UInt8),(8:UInt8),(8:UInt8),(8:UInt8),(8:UInt8),(8:UInt8),(8:UInt8),(8:UInt8),(8:UInt8),(8:UInt8),(8:UInt8),(8:UInt8),(8:UInt8),(8:UInt8),(8:UInt8),(8:UInt8),(8:UInt8),(8:UInt8),(8:UInt8),(8:UInt8),(8:UInt8),(8:UInt8),(8:UInt8),(8:UInt8),(8:UInt8),(8:UInt8),(8:UInt8),(8:UInt8),(8:UInt8),(8:UInt8),(8:UInt8),(8:UInt8),(8:UInt8),(8:UInt8),(8:UInt8),(8:UInt8),(8:UInt8),(8:UInt8),(8:UInt8),(8:UInt8),(8:UInt8),(8:UInt8),(8:UInt8),(8:UInt8),(8:UInt8),(8:UInt8),(8:UInt8),(8:UInt8),(8:UInt8),(8:UInt8),(8:UInt8),(8:UInt8),(8:UInt8),(8:UInt8),(8:UInt8),(8:UInt8),(8:UInt8),(8:UInt8),(8:UInt8),(8:UInt8),(8:UInt8)])[Int.toNat (IntKind.wrap IntKind.u8 (Int.fdiv (Int.fdiv (Int.fdiv x0 (4294967296:Int)) (65536:Int)) (256:Int)))]?) fun y0 =>
     some (IntKind.wrap IntKind.i64 ((56:Int)+IntKind.wrap IntKind.i64 (↑(UInt8.toNat y0):Int)))) (
     none )) (
    ac (decide ((0:Int)≤IntKind.wrap IntKind.u8 (Int.fdiv (Int.fdiv x0 (4294967296:Int)) (65536:Int)))) (
     Option.bind ((ByteArray.mk #[(0:UInt8),(1:UInt8),(2:UInt8),(2:UInt8),(3:UInt8),(3:UInt8),(3:UInt8),(3:UInt8),(4:UInt8),(4:UInt8),(4:UInt8),(4:UInt8),(4:UInt8),(4:UInt8),(4:UInt8),(4:UInt8),(5:UInt8),(5:UInt8),(5:UInt8),(5:UInt8),(5:UInt8),(5:UInt8),(5:UInt8),(5:UInt8),(5:UInt8),(5:UInt8),(5:UInt8),(5:UInt8),(5:UInt8),(5:UInt8),(5:UInt8),(5:UInt8),(6:UInt8),(6:UInt8),(6:UInt8),(6:UInt8),(6:UInt8),(6:UInt8),(6:UInt8),(6:UInt8),(6:UInt8),(6:UInt8),(6:UInt8),(6:UInt8),(6:UInt8),(6:UInt8),(6:UInt8),(6:UInt8),(6:UInt8),(6:UInt8),(6:UInt8),(6:UInt8),(6:UInt8),(6:UInt8),(6:UInt8),(6:UInt8),(6:UInt8),(6:UInt8),(6:UInt8),(6:UInt8),(6:UInt8),(6:UInt8),(6:UInt8),(6:UInt8),(7:UInt8),(7:UInt8),(7:UInt8),(7:UInt8),(7:UInt8),(7:UInt8),(7:UInt8),(7:UInt8),(7:UInt8),(7:UInt8),(7:UInt8),(7:UInt8),(7:UInt8),(7:UInt8),(7:UInt8),(7:UInt8),(7:UInt8),(7:UInt8),(7:UInt8),(7:UInt8),(7:UInt8),(7:UInt8),(7:UInt8),(7:UInt8),(7:UInt8),(7:UInt8),(7:UInt8),(7:UInt8),(7:UInt8),(7:UInt8),(7:UInt8),(7:UInt8),(7:UInt8),(7:UInt8),(7:UInt8),(7:UInt8),(7:UInt8),(7:UInt8),(7:UInt8),(7:UInt8),(7:UInt8),(7:UInt8),(7:UInt8),(7:UInt8),(7:UInt8),(7:UInt8),(7:UInt8),(7:UInt8),(7:UInt8),(7:UInt8),(7:UInt8),(7:UInt8),(7:UInt8),(7:UInt8),(7:UInt8),(7:UInt8),(7:UInt8),(7:UInt8),(7:UInt8),(7:UInt8),(7:UInt8),(7:UInt8),(7:UInt8),(7:UInt8),(8:UInt8),(8:UInt8),(8:UInt8),(8:UInt8),(8:UInt8),(8:UInt8),(8:UInt8),(8:UInt8),(8:UInt8),(8:UInt8),(8:UInt8),(8:UInt8),(8:UInt8),(8:UInt8),(8:UInt8),(8:UInt8),(8:UInt8),(8:UInt8),(8:UInt8),(8:UInt8),(8:UInt8),(8:UInt8),(8:UInt8),(8:UInt8),(8:UInt8),(8:UInt8),(8:UInt8),(8:UInt8),(8:UInt8),(8:UInt8),(8:UInt8),(8:UInt8),(8:UInt8),(8:UInt8),(8:UInt8),(8:UInt8),(8:UInt8),(8:UInt8),(8:UInt8),(8:UInt8),(8:UInt8),(8:UInt8),(8:UInt8),(8:UInt8),(8:UInt8),(8:UInt8),(8:UInt8),(8:UInt8),(8:UInt8),(8:UInt8),(8:UInt8),(8:UInt8),(8:UInt8),(8:UInt8),(8:UInt8),(8:UInt8),(8:UInt8),(8:UInt8),(8:UInt8),(8:UInt8),(8:UInt8),(8:UInt8),(8:UInt8),(8:UInt8),(8:UInt8),(8:UInt8),(8:UInt8),(8:UInt8),(8:UInt8),(8:UInt8),(8:UInt8),(8:UInt8),(8:UInt8),(8:UInt8),(8:UInt8),(8:UInt8),(8:UInt8),(8:UInt8),(8:UInt8),(8:UInt8),(8:UInt8),(8:UInt8),(8:UInt8),(8:UInt8),(8:UInt8),(8:UInt8),(8:UInt8),(8:UInt8),(8:UInt8),(8:UInt8),(8:UInt8),(8:UInt8),(8:UInt8),(8:UInt8),(8:UInt8),(8:UInt8),(8:UInt8),(8:UInt8),(8:UInt8),(8:UInt8),(8:UInt8),(8:UInt8),(8:UInt8),(8:UInt8),(8:UInt8),(8:UInt8),(8:UInt8),(8:UInt8),(8:UInt8),(8:UInt8),(8:UInt8),(8:UInt8),(8:UInt8),(8:UInt8),(8:UInt8),(8:UInt8),(8:UInt8),(8:UInt8),(8:UInt8),(8:UInt8),(8:UInt8),(8:UInt8),(8:UInt8),(8:UInt8),(8:UInt8),(8:UInt8),(8:UInt8),(8:UInt8)])[Int.toNat (IntKind.wrap IntKind.u8 (Int.fdiv (Int.fdiv x0 (4294967296:Int)) (65536:Int)))]?) fun y1 =>
     some (IntKind.wrap IntKind.i64 ((48:Int)+IntKind.wrap IntKind.i64 (↑(UInt8.toNat y1):Int)))) (
     none ))) (
   ac (decide (Int.fdiv x0 (4294967296:Int)≥(256:Int))) (
    ac (decide ((0:Int)≤IntKind.wrap IntKind.u8 (Int.fdiv (Int.fdiv x0 (4294967296:Int)) (256:Int)))) (
     Option.bind ((ByteArray.mk #[(0:UInt8),(1:UInt8),(2:UInt8),(2:UInt8),(3:UInt8),(3:UInt8),(3:UInt8),(3:UInt8),(4:UInt8),(4:UInt8),(4:UInt8),(4:UInt8),(4:UInt8),(4:UInt8),(4:UInt8),(4:UInt8),(5:UInt8),(5:UInt8),(5:UInt8),(5:UInt8),(5:UInt8),(5:UInt8),(5:UInt8),(5:UInt8),(5:UInt8),(5:UInt8),(5:UInt8),(5:UInt8),(5:UInt8),(5:UInt8),(5:UInt8),(5:UInt8),(6:UInt8),(6:UInt8),(6:UInt8),(6:UInt8),(6:UInt8),(6:UInt8),(6:UInt8),(6:UInt8),(6:UInt8),(6:UInt8),(6:UInt8),(6:UInt8),(6:UInt8),(6:UInt8),(6:UInt8),(6:UInt8),(6:UInt8),(6:UInt8),(6:UInt8),(6:UInt8),(6:UInt8),(6:UInt8),(6:UInt8),(6:UInt8),(6:UInt8),(6:UInt8),(6:UInt8),(6:UInt8),(6:UInt8),(6:UInt8),(6:UInt8),(6:UInt8),(7:UInt8),(7:UInt8),(7:UInt8),(7:UInt8),(7:UInt8),(7:UInt8),(7:UInt8),(7:UInt8),(7:UInt8),(7:UInt8),(7:UInt8),(7:UInt8),(7:UInt8),(7:UInt8),(7:UInt8),(7:UInt8),(7:UInt8),(7:UInt8),(7:UInt8),(7:UInt8),(7:UInt8),(7:UInt8),(7:UInt8),(7:UInt8),(7:UInt8),(7:UInt8),(7:UInt8),(7:UInt8),(7:UInt8),(7:UInt8),(7:UInt8),(7:UInt8),(7:UInt8),(7:UInt8),(7:UInt8),(7:UInt8),(7:UInt8),(7:UInt8),(7:UInt8),(7:UInt8),(7:UInt8),(7:UInt8),(7:UInt8),(7:UInt8),(7:UInt8),(7:UInt8),(7:UInt8),(7:UInt8),(7:UInt8),(7:UInt8),(7:UInt8),(7:UInt8),(7:UInt8),(7:UInt8),(7:UInt8),(7:UInt8),(7:UInt8),(7:UInt8),(7:UInt8),(7:UInt8),(7:UInt8),(7:UInt8),(7:UInt8),(7:UInt8),(8:UInt8),(8:UInt8),(8:UInt8),(8:UInt8),(8:UInt8),(8:UInt8),(8:UInt8),(8:UInt8),(8:UInt8),(8:UInt8),(8:UInt8),(8:UInt8),(8:UInt8),(8:UInt8),(8:UInt8),(8:UInt8),(8:UInt8),(8:UInt8),(8:UInt8),(8:UInt8),(8:UInt8),(8:UInt8),(8:UInt8),(8:UInt8),(8:UInt8),(8:UInt8),(8:UInt8),(8:UInt8),(8:UInt8),(8:UInt8),(8:UInt8),(8:UInt8),(8:UInt8),(8:UInt8),(8:UInt8),(8:UInt8),(8:UInt8),(8:UInt8),(8:UInt8),(8:UInt8),(8:UInt8),(8:UInt8),(8:UInt8),(8:UInt8),(8:UInt8),(8:UInt8),(8:UInt8),(8:UInt8),(8:UInt8),(8:UInt8),(8:UInt8),(8:UInt8),(8:UInt8),(8:UInt8),(8:UInt8),(8:UInt8),(8:UInt8),(8:UInt8),(8:UInt8),(8:UInt8),(8:UInt8),(8:UInt8),(8:UInt8),(8:UInt8),(8:UInt8),(8:UInt8),(8:UInt8),(8:UInt8),(8:UInt8),(8:UInt8),(8:UInt8),(8:UInt8),(8:UInt8),(8:UInt8),(8:UInt8),(8:UInt8),(8:UInt8),(8:UInt8),(8:UInt8),(8:UInt8),(8:UInt8),(8:UInt8),(8:UInt8),(8:UInt8),(8:UInt8),(8:UInt8),(8:UInt8),(8:UInt8),(8:UInt8),(8:UInt8),(8:UInt8),(8:UInt8),(8:UInt8),(8:UInt8),(8:UInt8),(8:UInt8),(8:UInt8),(8:UInt8),(8:UInt8),(8:UInt8),(8:UInt8),(8:UInt8),(8:UInt8),(8:UInt8),(8:UInt8),(8:UInt8),(8:UInt8),(8:UInt8),(8:UInt8),(8:UInt8),(8:UInt8),(8:UInt8),(8:UInt8),(8:UInt8),(8:UInt8),(8:UInt8),(8:UInt8),(8:UInt8),(8:UInt8),(8:UInt8),(8:UInt8),(8:UInt8),(8:UInt8),(8:UInt8),(8:UInt8),(8:UInt8),(8:UInt8),(8:UInt8)])[Int.toNat (IntKind.wrap IntKind.u8 (Int.fdiv (Int.fdiv x0 (4294967296:Int)) (256:Int)))]?) fun y2 =>
     some (IntKind.wrap IntKind.i64 ((40:Int)+IntKind.wrap IntKind.i64 (↑(UInt8.toNat y2):Int)))) (
     none )) (
    ac (decide ((0:Int)≤IntKind.wrap IntKind.u8 (Int.fdiv x0 (4294967296:Int)))) (
     Option.bind ((ByteArray.mk #[(0:UInt8),(1:UInt8),(2:UInt8),(2:UInt8),(3:UInt8),(3:UInt8),(3:UInt8),(3:UInt8),(4:UInt8),(4:UInt8),(4:UInt8),(4:UInt8),(4:UInt8),(4:UInt8),(4:UInt8),(4:UInt8),(5:UInt8),(5:UInt8),(5:UInt8),(5:UInt8),(5:UInt8),(5:UInt8),(5:UInt8),(5:UInt8),(5:UInt8),(5:UInt8),(5:UInt8),(5:UInt8),(5:UInt8),(5:UInt8),(5:UInt8),(5:UInt8),(6:UInt8),(6:UInt8),(6:UInt8),(6:UInt8),(6:UInt8),(6:UInt8),(6:UInt8),(6:UInt8),(6:UInt8),(6:UInt8),(6:UInt8),(6:UInt8),(6:UInt8),(6:UInt8),(6:UInt8),(6:UInt8),(6:UInt8),(6:UInt8),(6:UInt8),(6:UInt8),(6:UInt8),(6:UInt8),(6:UInt8),(6:UInt8),(6:UInt8),(6:UInt8),(6:UInt8),(6:UInt8),(6:UInt8),(6:UInt8),(6:UInt8),(6:UInt8),(7:UInt8),(7:UInt8),(7:UInt8),(7:UInt8),(7:UInt8),(7:UInt8),(7:UInt8),(7:UInt8),(7:UInt8),(7:UInt8),(7:UInt8),(7:UInt8),(7:UInt8),(7:UInt8),(7:UInt8),(7:UInt8),(7:UInt8),(7:UInt8),(7:UInt8),(7:UInt8),(7:UInt8),(7:UInt8),(7:UInt8),(7:UInt8),(7:UInt8),(7:UInt8),(7:UInt8),(7:UInt8),(7:UInt8),(7:UInt8),(7:UInt8),(7:UInt8),(7:UInt8),(7:UInt8),(7:UInt8),(7:UInt8),(7:UInt8),(7:UInt8),(7:UInt8),(7:UInt8),(7:UInt8),(7:UInt8),(7:UInt8),(7:UInt8),(7:UInt8),(7:UInt8),(7:UInt8),(7:UInt8),(7:UInt8),(7:UInt8),(7:UInt8),(7:UInt8),(7:UInt8),(7:UInt8),(7:UInt8),(7:UInt8),(7:UInt8),(7:UInt8),(7:UInt8),(7:UInt8),(7:UInt8),(7:UInt8),(7:UInt8),(7:UInt8),(8:UInt8),(8:UInt8),(8:UInt8),(8:UInt8),(8:UInt8),(8:UInt8),(8:UInt8),(8:UInt8),(8:UInt8),(8:UInt8),(8:UInt8),(8:UInt8),(8:UInt8),(8:UInt8),(8:UInt8),(8:UInt8),(8:UInt8),(8:UInt8),(8:UInt8),(8:UInt8),(8:UInt8),(8:UInt8),(8:UInt8),(8:UInt8),(8:UInt8),(8:UInt8),(8:UInt8),(8:UInt8),(8:UInt8),(8:UInt8),(8:UInt8),(8:UInt8),(8:UInt8),(8:UInt8),(8:UInt8),(8:UInt8),(8:UInt8),(8:UInt8),(8:UInt8),(8:UInt8),(8:UInt8),(8:UInt8),(8:UInt8),(8:UInt8),(8:UInt8),(8:UInt8),(8:UInt8),(8:UInt8),(8:UInt8),(8:UInt8),(8:UInt8),(8:UInt8),(8:UInt8),(8:UInt8),(8:UInt8),(8:UInt8),(8:UInt8),(8:UInt8),(8:UInt8),(8:UInt8),(8:UInt8),(8:UInt8),(8:UInt8),(8:UInt8),(8:UInt8),(8:UInt8),(8:UInt8),(8:UInt8),(8:UInt8),(8:UInt8),(8:UInt8),(8:UInt8),(8:UInt8),(8:UInt8),(8:UInt8),(8:UInt8),(8:UInt8),(8:UInt8),(8:UInt8),(8:UInt8),(8:UInt8),(8:UInt8),(8:UInt8),(8:UInt8),(8:UInt8),(8:UInt8),(8:UInt8),(8:UInt8),(8:UInt8),(8:UInt8),(8:UInt8),(8:UInt8),(8:UInt8),(8:UInt8),(8:UInt8),(8:UInt8),(8:UInt8),(8:UInt8),(8:UInt8),(8:UInt8),(8:UInt8),(8:UInt8),(8:UInt8),(8:UInt8),(8:UInt8),(8:UInt8),(8:UInt8),(8:UInt8),(8:UInt8),(8:UInt8),(8:UInt8),(8:UInt8),(8:UInt8),(8:UInt8),(8:UInt8),(8:UInt8),(8:UInt8),(8:UInt8),(8:UInt8),(8:UInt8),(8:UInt8),(8:UInt8),(8:UInt8),(8:UInt8),(8:UInt8),(8:UInt8),(8:UInt8),(8:UInt8)])[Int.toNat (IntKind.wrap IntKind.u8 (Int.fdiv x0 (4294967296:Int)))]?) fun y3 =>
     some (IntKind.wrap IntKind.i64 ((32:Int)+IntKind.wrap IntKind.i64 (↑(UInt8.toNat y3):Int)))) (
     none )))) (
  ac (decide (x0≥(65536:Int))) (
   ac (decide (Int.fdiv x0 (65536:Int)≥(256:Int))) (
    ac (decide ((0:Int)≤IntKind.wrap IntKind.u8 (Int.fdiv (Int.fdiv x0 (65536:Int)) (256:Int)))) (
     Option.bind ((ByteArray.mk #[(0:UInt8),(1:UInt8),(2:UInt8),(2:UInt8),(3:UInt8),(3:UInt8),(3:UInt8),(3:UInt8),(4:UInt8),(4:UInt8),(4:UInt8),(4:UInt8),(4:UInt8),(4:UInt8),(4:UInt8),(4:UInt8),(5:UInt8),(5:UInt8),(5:UInt8),(5:UInt8),(5:UInt8),(5:UInt8),(5:UInt8),(5:UInt8),(5:UInt8),(5:UInt8),(5:UInt8),(5:UInt8),(5:UInt8),(5:UInt8),(5:UInt8),(5:UInt8),(6:UInt8),(6:UInt8),(6:UInt8),(6:UInt8),(6:UInt8),(6:UInt8),(6:UInt8),(6:UInt8),(6:UInt8),(6:UInt8),(6:UInt8),(6:UInt8),(6:UInt8),(6:UInt8),(6:UInt8),(6:UInt8),(6:UInt8),(6:UInt8),(6:UInt8),(6:UInt8),(6:UInt8),(6:UInt8),(6:UInt8),(6:UInt8),(6:UInt8),(6:UInt8),(6:UInt8),(6:UInt8),(6:UInt8),(6:UInt8),(6:UInt8),(6:UInt8),(7:UInt8),(7:UInt8),(7:UInt8),(7:UInt8),(7:UInt8),(7:UInt8),(7:UInt8),(7:UInt8),(7:UInt8),(7:UInt8),(7:UInt8),(7:UInt8),(7:UInt8),(7:UInt8),(7:UInt8),(7:UInt8),(7:UInt8),(7:UInt8),(7:UInt8),(7:UInt8),(7:UInt8),(7:UInt8),(7:UInt8),(7:UInt8),(7:UInt8),(7:UInt8),(7:UInt8),(7:UInt8),(7:UInt8),(7:UInt8),(7:UInt8),(7:UInt8),(7:UInt8),(7:UInt8),(7:UInt8),(7:UInt8),(7:UInt8),(7:UInt8),(7:UInt8),(7:UInt8),(7:UInt8),(7:UInt8),(7:UInt8),(7:UInt8),(7:UInt8),(7:UInt8),(7:UInt8),(7:UInt8),(7:UInt8),(7:UInt8),(7:UInt8),(7:UInt8),(7:UInt8),(7:UInt8),(7:UInt8),(7:UInt8),(7:UInt8),(7:UInt8),(7:UInt8),(7:UInt8),(7:UInt8),(7:UInt8),(7:UInt8),(7:UInt8),(8:UInt8),(8:UInt8),(8:UInt8),(8:UInt8),(8:UInt8),(8:UInt8),(8:UInt8),(8:UInt8),(8:UInt8),(8:UInt8),(8:UInt8),(8:UInt8),(8:UInt8),(8:UInt8),(8:UInt8),(8:UInt8),(8:UInt8),(8:UInt8),(8:UInt8),(8:UInt8),(8:UInt8),(8:UInt8),(8:UInt8),(8:UInt8),(8:UInt8),(8:UInt8),(8:UInt8),(8:UInt8),(8:UInt8),(8:UInt8),(8:UInt8),(8:UInt8),(8:UInt8),(8:UInt8),(8:UInt8),(8:UInt8),(8:UInt8),(8:UInt8),(8:UInt8),(8:UInt8),(8:UInt8),(8:UInt8),(8:UInt8),(8:UInt8),(8:UInt8),(8:UInt8),(8:UInt8),(8:UInt8),(8:UInt8),(8:UInt8),(8:UInt8),(8:UInt8),(8:UInt8),(8:UInt8),(8:UInt8),(8:UInt8),(8:UInt8),(8:UInt8),(8:UInt8),(8:UInt8),(8:UInt8),(8:UInt8),(8:UInt8),(8:UInt8),(8:UInt8),(8:UInt8),(8:UInt8),(8:UInt8),(8:UInt8),(8:UInt8),(8:UInt8),(8:UInt8),(8:UInt8),(8:UInt8),(8:UInt8),(8:UInt8),(8:UInt8),(8:UInt8),(8:UInt8),(8:UInt8),(8:UInt8),(8:UInt8),(8:UInt8),(8:UInt8),(8:UInt8),(8:UInt8),(8:UInt8),(8:UInt8),(8:UInt8),(8:UInt8),(8:UInt8),(8:UInt8),(8:UInt8),(8:UInt8),(8:UInt8),(8:UInt8),(8:UInt8),(8:UInt8),(8:UInt8),(8:UInt8),(8:UInt8),(8:UInt8),(8:UInt8),(8:UInt8),(8:UInt8),(8:UInt8),(8:UInt8),(8:UInt8),(8:UInt8),(8:UInt8),(8:UInt8),(8:UInt8),(8:UInt8),(8:UInt8),(8:UInt8),(8:UInt8),(8:UInt8),(8:UInt8),(8:UInt8),(8:UInt8),(8:UInt8),(8:UInt8),(8:UInt8),(8:UInt8),(8:UInt8),(8:UInt8),(8:UInt8),(8:UInt8)])[Int.toNat (IntKind.wrap IntKind.u8 (Int.fdiv (Int.fdiv x0 (65536:Int)) (256:Int)))]?) fun y4 =>
     some (IntKind.wrap IntKind.i64 ((24:Int)+IntKind.wrap IntKind.i64 (↑(UInt8.toNat y4):Int)))) (
     none )) (
    ac (decide ((0:Int)≤IntKind.wrap IntKind.u8 (Int.fdiv x0 (65536:Int)))) (
     Option.bind ((ByteArray.mk #[(0:UInt8),(1:UInt8),(2:UInt8),(2:UInt8),(3:UInt8),(3:UInt8),(3:UInt8),(3:UInt8),(4:UInt8),(4:UInt8),(4:UInt8),(4:UInt8),(4:UInt8),(4:UInt8),(4:UInt8),(4:UInt8),(5:UInt8),(5:UInt8),(5:UInt8),(5:UInt8),(5:UInt8),(5:UInt8),(5:UInt8),(5:UInt8),(5:UInt8),(5:UInt8),(5:UInt8),(5:UInt8),(5:UInt8),(5:UInt8),(5:UInt8),(5:UInt8),(6:UInt8),(6:UInt8),(6:UInt8),(6:UInt8),(6:UInt8),(6:UInt8),(6:UInt8),(6:UInt8),(6:UInt8),(6:UInt8),(6:UInt8),(6:UInt8),(6:UInt8),(6:UInt8),(6:UInt8),(6:UInt8),(6:UInt8),(6:UInt8),(6:UInt8),(6:UInt8),(6:UInt8),(6:UInt8),(6:UInt8),(6:UInt8),(6:UInt8),(6:UInt8),(6:UInt8),(6:UInt8),(6:UInt8),(6:UInt8),(6:UInt8),(6:UInt8),(7:UInt8),(7:UInt8),(7:UInt8),(7:UInt8),(7:UInt8),(7:UInt8),(7:UInt8),(7:UInt8),(7:UInt8),(7:UInt8),(7:UInt8),(7:UInt8),(7:UInt8),(7:UInt8),(7:UInt8),(7:UInt8),(7:UInt8),(7:UInt8),(7:UInt8),(7:UInt8),(7:UInt8),(7:UInt8),(7:UInt8),(7:UInt8),(7:UInt8),(7:UInt8),(7:UInt8),(7:UInt8),(7:UInt8),(7:UInt8),(7:UInt8),(7:UInt8),(7:UInt8),(7:UInt8),(7:UInt8),(7:UInt8),(7:UInt8),(7:UInt8),(7:UInt8),(7:UInt8),(7:UInt8),(7:UInt8),(7:UInt8),(7:UInt8),(7:UInt8),(7:UInt8),(7:UInt8),(7:UInt8),(7:UInt8),(7:UInt8),(7:UInt8),(7:UInt8),(7:UInt8),(7:UInt8),(7:UInt8),(7:UInt8),(7:UInt8),(7:UInt8),(7:UInt8),(7:UInt8),(7:UInt8),(7:UInt8),(7:UInt8),(7:UInt8),(8:UInt8),(8:UInt8),(8:UInt8),(8:UInt8),(8:UInt8),(8:UInt8),(8:UInt8),(8:UInt8),(8:UInt8),(8:UInt8),(8:UInt8),(8:UInt8),(8:UInt8),(8:UInt8),(8:UInt8),(8:UInt8),(8:UInt8),(8:UInt8),(8:UInt8),(8:UInt8),(8:UInt8),(8:UInt8),(8:UInt8),(8:UInt8),(8:UInt8),(8:UInt8),(8:UInt8),(8:UInt8),(8:UInt8),(8:UInt8),(8:UInt8),(8:UInt8),(8:UInt8),(8:UInt8),(8:UInt8),(8:UInt8),(8:UInt8),(8:UInt8),(8:UInt8),(8:UInt8),(8:UInt8),(8:UInt8),(8:UInt8),(8:UInt8),(8:UInt8),(8:UInt8),(8:UInt8),(8:UInt8),(8:UInt8),(8:UInt8),(8:UInt8),(8:UInt8),(8:UInt8),(8:UInt8),(8:UInt8),(8:UInt8),(8:UInt8),(8:UInt8),(8:UInt8),(8:UInt8),(8:UInt8),(8:UInt8),(8:UInt8),(8:UInt8),(8:UInt8),(8:UInt8),(8:UInt8),(8:UInt8),(8:UInt8),(8:UInt8),(8:UInt8),(8:UInt8),(8:UInt8),(8:UInt8),(8:UInt8),(8:UInt8),(8:UInt8),(8:UInt8),(8:UInt8),(8:UInt8),(8:UInt8),(8:UInt8),(8:UInt8),(8:UInt8),(8:UInt8),(8:UInt8),(8:UInt8),(8:UInt8),(8:UInt8),(8:UInt8),(8:UInt8),(8:UInt8),(8:UInt8),(8:UInt8),(8:UInt8),(8:UInt8),(8:UInt8),(8:UInt8),(8:UInt8),(8:UInt8),(8:UInt8),(8:UInt8),(8:UInt8),(8:UInt8),(8:UInt8),(8:UInt8),(8:UInt8),(8:UInt8),(8:UInt8),(8:UInt8),(8:UInt8),(8:UInt8),(8:UInt8),(8:UInt8),(8:UInt8),(8:UInt8),(8:UInt8),(8:UInt8),(8:UInt8),(8:UInt8),(8:UInt8),(8:UInt8),(8:UInt8),(8:UInt8),(8:UInt8),(8:UInt8),(8:UInt8),(8:UInt8)])[Int.toNat (IntKind.wrap IntKind.u8 (Int.fdiv x0 (65536:Int)))]?) fun y5 =>
     some (IntKind.wrap IntKind.i64 ((16:Int)+IntKind.wrap IntKind.i64 (↑(UInt8.toNat y5):Int)))) (
     none ))) (
   ac (decide (x0≥(256:Int))) (
    ac (decide ((0:Int)≤IntKind.wrap IntKind.u8 (Int.fdiv x0 (256:Int)))) (
     Option.bind ((ByteArray.mk #[(0:UInt8),(1:UInt8),(2:UInt8),(2:UInt8),(3:UInt8),(3:UInt8),(3:UInt8),(3:UInt8),(4:UInt8),(4:UInt8),(4:UInt8),(4:UInt8),(4:UInt8),(4:UInt8),(4:UInt8),(4:UInt8),(5:UInt8),(5:UInt8),(5:UInt8),(5:UInt8),(5:UInt8),(5:UInt8),(5:UInt8),(5:UInt8),(5:UInt8),(5:UInt8),(5:UInt8),(5:UInt8),(5:UInt8),(5:UInt8),(5:UInt8),(5:UInt8),(6:UInt8),(6:UInt8),(6:UInt8),(6:UInt8),(6:UInt8),(6:UInt8),(6:UInt8),(6:UInt8),(6:UInt8),(6:UInt8),(6:UInt8),(6:UInt8),(6:UInt8),(6:UInt8),(6:UInt8),(6:UInt8),(6:UInt8),(6:UInt8),(6:UInt8),(6:UInt8),(6:UInt8),(6:UInt8),(6:UInt8),(6:UInt8),(6:UInt8),(6:UInt8),(6:UInt8),(6:UInt8),(6:UInt8),(6:UInt8),(6:UInt8),(6:UInt8),(7:UInt8),(7:UInt8),(7:UInt8),(7:UInt8),(7:UInt8),(7:UInt8),(7:UInt8),(7:UInt8),(7:UInt8),(7:UInt8),(7:UInt8),(7:UInt8),(7:UInt8),(7:UInt8),(7:UInt8),(7:UInt8),(7:UInt8),(7:UInt8),(7:UInt8),(7:UInt8),(7:UInt8),(7:UInt8),(7:UInt8),(7:UInt8),(7:UInt8),(7:UInt8),(7:UInt8),(7:UInt8),(7:UInt8),(7:UInt8),(7:UInt8),(7:UInt8),(7:UInt8),(7:UInt8),(7:UInt8),(7:UInt8),(7:UInt8),(7:UInt8),(7:UInt8),(7:UInt8),(7:UInt8),(7:UInt8),(7:UInt8),(7:UInt8),(7:UInt8),(7:UInt8),(7:UInt8),(7:UInt8),(7:UInt8),(7:UInt8),(7:UInt8),(7:UInt8),(7:UInt8),(7:UInt8),(7:UInt8),(7:UInt8),(7:UInt8),(7:UInt8),(7:UInt8),(7:UInt8),(7:UInt8),(7:UInt8),(7:UInt8),(7:UInt8),(8:UInt8),(8:UInt8),(8:UInt8),(8:UInt8),(8:UInt8),(8:UInt8),(8:UInt8),(8:UInt8),(8:UInt8),(8:UInt8),(8:UInt8),(8:UInt8),(8:UInt8),(8:UInt8),(8:UInt8),(8:UInt8),(8:UInt8),(8:UInt8),(8:UInt8),(8:UInt8),(8:UInt8),(8:UInt8),(8:UInt8),(8:UInt8),(8:UInt8),(8:UInt8),(8:UInt8),(8:UInt8),(8:UInt8),(8:UInt8),(8:UInt8),(8:UInt8),(8:UInt8),(8:UInt8),(8:UInt8),(8:UInt8),(8:UInt8),(8:UInt8),(8:UInt8),(8:UInt8),(8:UInt8),(8:UInt8),(8:UInt8),(8:UInt8),(8:UInt8),(8:UInt8),(8:UInt8),(8:UInt8),(8:UInt8),(8:UInt8),(8:UInt8),(8:UInt8),(8:UInt8),(8:UInt8),(8:UInt8),(8:UInt8),(8:UInt8),(8:UInt8),(8:UInt8),(8:UInt8),(8:UInt8),(8:UInt8),(8:UInt8),(8:UInt8),(8:UInt8),(8:UInt8),(8:UInt8),(8:UInt8),(8:UInt8),(8:UInt8),(8:UInt8),(8:UInt8),(8:UInt8),(8:UInt8),(8:UInt8),(8:UInt8),(8:UInt8),(8:UInt8),(8:UInt8),(8:UInt8),(8:UInt8),(8:UInt8),(8:UInt8),(8:UInt8),(8:UInt8),(8:UInt8),(8:UInt8),(8:UInt8),(8:UInt8),(8:UInt8),(8:UInt8),(8:UInt8),(8:UInt8),(8:UInt8),(8:UInt8),(8:UInt8),(8:UInt8),(8:UInt8),(8:UInt8),(8:UInt8),(8:UInt8),(8:UInt8),(8:UInt8),(8:UInt8),(8:UInt8),(8:UInt8),(8:UInt8),(8:UInt8),(8:UInt8),(8:UInt8),(8:UInt8),(8:UInt8),(8:UInt8),(8:UInt8),(8:UInt8),(8:UInt8),(8:UInt8),(8:UInt8),(8:UInt8),(8:UInt8),(8:UInt8),(8:UInt8),(8:UInt8),(8:UInt8),(8:UInt8),(8:UInt8),(8:UInt8),(8:UInt8)])[Int.toNat (IntKind.wrap IntKind.u8 (Int.fdiv x0 (256:Int)))]?) fun y6 =>
     some (IntKind.wrap IntKind.i64 ((8:Int)+IntKind.wrap IntKind.i64 (↑(UInt8.toNat y6):Int)))) (
     none )) (
    ac (decide ((0:Int)≤IntKind.wrap IntKind.u8 x0)) (
     Option.bind ((ByteArray.mk #[(0:UInt8),(1:UInt8),(2:UInt8),(2:UInt8),(3:UInt8),(3:UInt8),(3:UInt8),(3:UInt8),(4:UInt8),(4:UInt8),(4:UInt8),(4:UInt8),(4:UInt8),(4:UInt8),(4:UInt8),(4:UInt8),(5:UInt8),(5:UInt8),(5:UInt8),(5:UInt8),(5:UInt8),(5:UInt8),(5:UInt8),(5:UInt8),(5:UInt8),(5:UInt8),(5:UInt8),(5:UInt8),(5:UInt8),(5:UInt8),(5:UInt8),(5:UInt8),(6:UInt8),(6:UInt8),(6:UInt8),(6:UInt8),(6:UInt8),(6:UInt8),(6:UInt8),(6:UInt8),(6:UInt8),(6:UInt8),(6:UInt8),(6:UInt8),(6:UInt8),(6:UInt8),(6:UInt8),(6:UInt8),(6:UInt8),(6:UInt8),(6:UInt8),(6:UInt8),(6:UInt8),(6:UInt8),(6:UInt8),(6:UInt8),(6:UInt8),(6:UInt8),(6:UInt8),(6:UInt8),(6:UInt8),(6:UInt8),(6:UInt8),(6:UInt8),(7:UInt8),(7:UInt8),(7:UInt8),(7:UInt8),(7:UInt8),(7:UInt8),(7:UInt8),(7:UInt8),(7:UInt8),(7:UInt8),(7:UInt8),(7:UInt8),(7:UInt8),(7:UInt8),(7:UInt8),(7:UInt8),(7:UInt8),(7:UInt8),(7:UInt8),(7:UInt8),(7:UInt8),(7:UInt8),(7:UInt8),(7:UInt8),(7:UInt8),(7:UInt8),(7:UInt8),(7:UInt8),(7:UInt8),(7:UInt8),(7:UInt8),(7:UInt8),(7:UInt8),(7:UInt8),(7:UInt8),(7:UInt8),(7:UInt8),(7:UInt8),(7:UInt8),(7:UInt8),(7:UInt8),(7:UInt8),(7:UInt8),(7:UInt8),(7:UInt8),(7:UInt8),(7:UInt8),(7:UInt8),(7:UInt8),(7:UInt8),(7:UInt8),(7:UInt8),(7:UInt8),(7:UInt8),(7:UInt8),(7:UInt8),(7:UInt8),(7:UInt8),(7:UInt8),(7:UInt8),(7:UInt8),(7:UInt8),(7:UInt8),(7:UInt8),(8:UInt8),(8:UInt8),(8:UInt8),(8:UInt8),(8:UInt8),(8:UInt8),(8:UInt8),(8:UInt8),(8:UInt8),(8:UInt8),(8:UInt8),(8:UInt8),(8:UInt8),(8:UInt8),(8:UInt8),(8:UInt8),(8:UInt8),(8:UInt8),(8:UInt8),(8:UInt8),(8:UInt8),(8:UInt8),(8:UInt8),(8:UInt8),(8:UInt8),(8:UInt8),(8:UInt8),(8:UInt8),(8:UInt8),(8:UInt8),(8:UInt8),(8:UInt8),(8:UInt8),(8:UInt8),(8:UInt8),(8:UInt8),(8:UInt8),(8:UInt8),(8:UInt8),(8:UInt8),(8:UInt8),(8:UInt8),(8:UInt8),(8:UInt8),(8:UInt8),(8:UInt8),(8:UInt8),(8:UInt8),(8:UInt8),(8:UInt8),(8:UInt8),(8:UInt8),(8:UInt8),(8:UInt8),(8:UInt8),(8:UInt8),(8:UInt8),(8:UInt8),(8:UInt8),(8:UInt8),(8:UInt8),(8:UInt8),(8:UInt8),(8:UInt8),(8:UInt8),(8:UInt8),(8:UInt8),(8:UInt8),(8:UInt8),(8:UInt8),(8:UInt8),(8:UInt8),(8:UInt8),(8:UInt8),(8:UInt8),(8:UInt8),(8:UInt8),(8:UInt8),(8:UInt8),(8:UInt8),(8:UInt8),(8:UInt8),(8:UInt8),(8:UInt8),(8:UInt8),(8:UInt8),(8:UInt8),(8:UInt8),(8:UInt8),(8:UInt8),(8:UInt8),(8:UInt8),(8:UInt8),(8:UInt8),(8:UInt8),(8:UInt8),(8:UInt8),(8:UInt8),(8:UInt8),(8:UInt8),(8:UInt8),(8:UInt8),(8:UInt8),(8:UInt8),(8:UInt8),(8:UInt8),(8:UInt8),(8:UInt8),(8:UInt8),(8:UInt8),(8:UInt8),(8:UInt8),(8:UInt8),(8:UInt8),(8:UInt8),(8:UInt8),(8:UInt8),(8:UInt8),(8:UInt8),(8:UInt8),(8:UInt8),(8:UInt8),(8:UInt8),(8:UInt8),(8:UInt8),(8:UInt8),(8:UInt8),(8:UInt8)])[Int.toNat (IntKind.wrap IntKind.u8 x0)]?) fun y7 =>
     some (IntKind.wrap IntKind.i64 ((0:Int)+IntKind.wrap IntKind.i64 (↑(UInt8.toNat y7):Int)))) (
     none ))))
noncomputable def aR8 (N:Nat):Pk→Tr Pk:=ah s227 w227 (aB1 N)
theorem Xp (N:Nat):av Tryz.prog (227) (aR8 N) :=
 (af ag am (OR N) Tryz.func227 s227 w227 [] (cuts:=[]) trivial (fun _=>by kernel_rfl) (by decide +kernel) (aB1 N) (fun x=>by kernel_rfl))
@[reducible] def s161:SP:=⟨[.int .u64],[]⟩
noncomputable def ai8 (N:Nat):List (Nat×(Pk→Tr Pk)):=[(227,aR8 N)]
theorem Pb (N:Nat):ai Tryz.prog (ai8 N):=⟨Xp N,trivial⟩
@[reducible] def w161:List SP:=[⟨[.int .i64],[]⟩]
noncomputable def QJ (N:Nat):(Int)→Option (Int)
 | x0 =>
 Option.bind (aB1 N x0) fun y0 =>
 some (y0)
noncomputable def aT9 (N:Nat):Pk→Tr Pk:=ah s161 w161 (QJ N)
theorem XN (N:Nat):av Tryz.prog (161) (aT9 N) :=
 (af ag am (Pb N) Tryz.func161 s161 w161 [] (cuts:=[]) trivial (fun _=>by kernel_rfl) (by decide +kernel) (QJ N) (fun x=>by kernel_rfl))
@[reducible] def s98:SP:=⟨[.agg [.int .i64,.int .i64],.int .i64],[]⟩
noncomputable def aE0 (N:Nat):List (Nat×(Pk→Tr Pk)):=[(161,aT9 N)]
theorem Rw (N:Nat):ai Tryz.prog (aE0 N):=⟨XN N,trivial⟩
@[reducible] def w98:List SP:=[⟨[.bool],[]⟩]
noncomputable def F98 (N:Nat):(Int×Int×Int)→Option (Bool)
 | (x0,x1,x2) =>
 ac (decide (x0<(1:Int))) (
  some (false)) (
  ac (decide (x0>(65535:Int))) (
   some (false)) (
   ac (IntKind.wrap IntKind.i64 (↑(BitVec.toNat (BitVec.ofInt (64:Nat) x0 &&& BitVec.ofInt (64:Nat) (IntKind.wrap IntKind.i64 (x0+(1:Int))))):Int) != (0:Int)) (
    some (false)) (
    ac (decide (x1<(0:Int))) (
     some (false)) (
     ac (decide (x1>x2)) (
      some (false)) (
      Option.bind (QJ N (IntKind.wrap IntKind.u64 x0)) fun y0 =>
      some (decide (IntKind.wrap IntKind.i64 (x1+y0)≤x2)))))))
noncomputable def T98 (N:Nat):Pk→Tr Pk:=ah s98 w98 (F98 N)
theorem ar5 (N:Nat):av Tryz.prog (98) (T98 N) :=
 (af ag am (Rw N) Tryz.func98 s98 w98 [] (cuts:=[]) trivial (fun _=>by kernel_rfl) (by decide +kernel) (F98 N) (fun x=>by kernel_rfl))
@[reducible] def s96:SP:=⟨[.agg [.int .i64,.int .i64]],[]⟩
noncomputable def aE2 (N:Nat):List (Nat×(Pk→Tr Pk)):=[]
theorem Ry (N:Nat):ai Tryz.prog (aE2 N):=trivial
@[reducible] def w96:List SP:=[⟨[.int .i64],[]⟩]
noncomputable def F96 (N:Nat):(Int×Int)→Option (Int)
 | (x0,x1) =>
 ac (decide (x1<(0:Int))) (
  none ) (
  some (IntKind.wrap IntKind.i64 (x0*(2:Int)^min (Int.toNat x1) (64:Nat))))
noncomputable def T96 (N:Nat):Pk→Tr Pk:=ah s96 w96 (F96 N)
theorem To (N:Nat):av Tryz.prog (96) (T96 N) :=
 (af ag am (Ry N) Tryz.func96 s96 w96 [] (cuts:=[]) trivial (fun _=>by kernel_rfl) (by decide +kernel) (F96 N) (fun x=>by kernel_rfl))
@[reducible] def s39:SP:=⟨[.agg [.int .i64,.int .i64,.bool,.bool,.int .i64,.int .i64,.int .i64,.int .i64,.int .i64,.int .i64]],[]⟩
noncomputable def aG5 (N:Nat):List (Nat×(Pk→Tr Pk)):=[(95,T95 N),(98,T98 N),(96,T96 N)]
theorem ta (N:Nat):ai Tryz.prog (aG5 N):=⟨Bm N,ar5 N,To N,trivial⟩
@[reducible] def LG:LD:=⟨250,[28,1,29,3],[(.ret,[2]),(.exit 1,[])],⟨[.arr y0 3,.adr 0 [],.int .i64,.int .i64],[.var 43 (.agg [.int .i64,.int .i64,.bool,.bool,.int .i64,.int .i64,.int .i64,.int .i64,.int .i64,.int .i64])]⟩,[(.ret,⟨[.bool],[]⟩),(.exit 1,⟨[],[]⟩)]⟩
abbrev Cv:Type:=(List (Int×(Int×Unit)))×Int×Int×Int×Int×Bool×Bool×Int×Int×Int×Int×Int×Int
abbrev BE:Type:=((Bool)⊕(Unit))
noncomputable def lR (N:Nat) (f:Cv→Option BE):Cv→Option BE
 | (x0,x1,x2,x3,x4,x5,x6,x7,x8,x9,x10,x11,x12) =>
 ac (decide (x1<(3:Int))) (
  ac (within x1 (List.length x0)) (
   Option.bind (x0[Int.toNat x1]?) fun y0 =>
   Option.bind (F98 N (y0.1,y0.2.1,x3)) fun y1 =>
   ac (!y1) (
    some (.inl (false))) (
    Option.bind (F96 N (y0.1,y0.2.1)) fun y2 =>
    ac (IntKind.wrap IntKind.i64 (↑(BitVec.toNat (BitVec.ofInt (64:Nat) x2 &&& BitVec.ofInt (64:Nat) y2)):Int) != (0:Int)) (
     some (.inl (false))) (
     Option.bind (F96 N (y0.1,y0.2.1)) fun y3 =>
     Option.bind (f (x0,IntKind.wrap IntKind.i64 (x1+(1:Int)),IntKind.wrap IntKind.i64 (↑(BitVec.toNat (BitVec.ofInt (64:Nat) x2 ||| BitVec.ofInt (64:Nat) y3)):Int),x3,x4,x5,x6,x7,x8,x9,x10,x11,x12)) fun r=>match r with|.inl y=>some (.inl y)|.inr y=>some (.inr y)))) (
   none )) (
  some (.inr (())))
noncomputable def cN (N:Nat):Nat→Cv→Option BE
 | 0,_=>none
 | k+1,x=>lR N (cN N k) x
noncomputable def Dx (N:Nat) (k:Nat):Cut:=LG.cut (cN N k)
theorem wF (N:Nat) (k:Nat):ak Tryz.prog false Tryz.f39 [] 250 (Dx N k) :=
 LG.loopT ag am (ta N) Tryz.f39 [] (cuts:=[]) trivial (by decide +kernel) (by kernel_rfl) (lR N) (cN N) (fun _=>rfl) (fun _ _=>rfl) (fun f x=>by kernel_rfl) k
@[reducible] def Zv:LD:=⟨7,[1],[(.ret,[2]),(.normal,[2])],⟨[.adr 0 []],[.var 43 (.agg [.int .i64,.int .i64,.bool,.bool,.int .i64,.int .i64,.int .i64,.int .i64,.int .i64,.int .i64])]⟩,[(.ret,⟨[.bool],[]⟩)]⟩
noncomputable def wv (N:Nat):(Int×Int×Bool×Bool×Int×Int×Int×Int×Int×Int)→Option (Bool)
 | (x0,x1,x2,x3,x4,x5,x6,x7,x8,x9) =>
 ac (decide (x1<(1:Int))) (
  some (false)) (
  ac (decide (x1>x0)) (
   some (false)) (
   ac (!x3) (
    some (false)) (
    Option.bind (Vu N (x0,x1,x2,x3,x4,x5,x6,x7,x8,x9)) fun y0 =>
    Option.bind (cN N N (y0,(0:Int),(0:Int),x0,x1,x2,x3,x4,x5,x6,x7,x8,x9)) fun y1 =>
    match y1 with
    | .inl y2 =>
     some (y2)
    | .inr y2 =>
     some (true))))
noncomputable def ZA (N:Nat) (_:Nat):Cut:=Zv.cut (wv N)
theorem Vg (N:Nat) (k:Nat):ak Tryz.prog false Tryz.f39 [] 7 (ZA N k) :=
 Zv.pieceT ag am (ta N) Tryz.f39 [] (cuts:=[(250,Dx N N)]) ⟨wF N N,trivial⟩ (by decide +kernel) (by kernel_rfl) (wv N) (fun x=>by kernel_rfl)
@[reducible] def w39:List SP:=[⟨[.bool],[]⟩]
noncomputable def Vw (N:Nat):(Int×Int×Bool×Bool×Int×Int×Int×Int×Int×Int)→Option (Bool)
 | (x0,x1,x2,x3,x4,x5,x6,x7,x8,x9) =>
 ac (x0==(8:Int)) (
  Option.bind (wv N (x0,x1,x2,x3,x4,x5,x6,x7,x8,x9)) fun y0 =>
  some (y0)) (
  ac (x0==(16:Int)) (
   Option.bind (wv N (x0,x1,x2,x3,x4,x5,x6,x7,x8,x9)) fun y1 =>
   some (y1)) (
   ac (x0==(32:Int)) (
    Option.bind (wv N (x0,x1,x2,x3,x4,x5,x6,x7,x8,x9)) fun y2 =>
    some (y2)) (
    some (false))))
noncomputable def T39 (N:Nat):Pk→Tr Pk:=ah s39 w39 (Vw N)
theorem pS (N:Nat):av Tryz.prog (39) (T39 N) :=
 (af ag am (ta N) Tryz.func39 s39 w39 [] (cuts:=[(250,Dx N N),(7,ZA N N)]) ⟨wF N N,Vg N N,trivial⟩ (fun _=>by kernel_rfl) (by decide +kernel) (Vw N) (fun x=>by kernel_rfl))
@[reducible] def s93:SP:=⟨[.int .i64],[]⟩
noncomputable def aE5 (N:Nat):List (Nat×(Pk→Tr Pk)):=[]
theorem RA (N:Nat):ai Tryz.prog (aE5 N):=trivial
@[reducible] def w93:List SP:=[⟨[.bool],[]⟩]
noncomputable def F93 (N:Nat):(Int)→Option (Bool)
 | x0 =>
 ac (decide ((0:Int)≤x0)) (
  some (decide (x0≤(4096:Int)))) (
  some (false))
noncomputable def T93 (N:Nat):Pk→Tr Pk:=ah s93 w93 (F93 N)
theorem ar7 (N:Nat):av Tryz.prog (93) (T93 N) :=
 (af ag am (RA N) Tryz.func93 s93 w93 [] (cuts:=[]) trivial (fun _=>by kernel_rfl) (by decide +kernel) (F93 N) (fun x=>by kernel_rfl))
@[reducible] def s35:SP:=⟨[.agg [.int .i64,.int .i64,.bool,.bool,.int .i64,.int .i64,.int .i64,.int .i64,.int .i64,.int .i64],.int .i64,.int .i64],[]⟩
noncomputable def aG9 (N:Nat):List (Nat×(Pk→Tr Pk)):=[(39,T39 N),(93,T93 N)]
theorem RP (N:Nat):ai Tryz.prog (aG9 N):=⟨pS N,ar7 N,trivial⟩
@[reducible] def w35:List SP:=[⟨[.bool],[]⟩]
noncomputable def YB (N:Nat):(Int×Int×Bool×Bool×Int×Int×Int×Int×Int×Int×Int×Int)→Option (Bool)
 | (x0,x1,x2,x3,x4,x5,x6,x7,x8,x9,x10,x11) =>
 Option.bind (Vw N (x0,x1,x2,x3,x4,x5,x6,x7,x8,x9)) fun y0 =>
 ac (y0) (
  Option.bind (F93 N x10) fun y1 =>
  ac (y1) (
   Option.bind (F93 N x11) fun y2 =>
   some (y2)) (
   some (false))) (
  some (false))
noncomputable def T35 (N:Nat):Pk→Tr Pk:=ah s35 w35 (YB N)
theorem uB (N:Nat):av Tryz.prog (35) (T35 N) :=
 (af ag am (RP N) Tryz.func35 s35 w35 [] (cuts:=[]) trivial (fun _=>by kernel_rfl) (by decide +kernel) (YB N) (fun x=>by kernel_rfl))
@[reducible] def s97:SP:=⟨[.agg [.int .i64,.int .i64,.bool,.bool,.int .i64,.int .i64,.int .i64,.int .i64,.int .i64,.int .i64]],[]⟩
noncomputable def aE1 (N:Nat):List (Nat×(Pk→Tr Pk)):=[(39,T39 N)]
theorem Rx (N:Nat):ai Tryz.prog (aE1 N):=⟨pS N,trivial⟩
@[reducible] def w97:List SP:=[⟨[.int .i64],[]⟩]
noncomputable def Zw (N:Nat):(Int×Int×Bool×Bool×Int×Int×Int×Int×Int×Int)→Option (Int)
 | (x0,x1,x2,x3,x4,x5,x6,x7,x8,x9) =>
 Option.bind (Vw N (x0,x1,x2,x3,x4,x5,x6,x7,x8,x9)) fun y0 =>
 ac (!y0) (
  some ((0:Int))) (
  some (IntKind.wrap IntKind.i64 (Int.tdiv x0 (8:Int))))
noncomputable def T97 (N:Nat):Pk→Tr Pk:=ah s97 w97 (Zw N)
theorem Tn (N:Nat):av Tryz.prog (97) (T97 N) :=
 (af ag am (Rx N) Tryz.func97 s97 w97 [] (cuts:=[]) trivial (fun _=>by kernel_rfl) (by decide +kernel) (Zw N) (fun x=>by kernel_rfl))
@[reducible] def s37:SP:=⟨[.agg [.int .i64,.int .i64,.bool,.bool,.int .i64,.int .i64,.int .i64,.int .i64,.int .i64,.int .i64]],[]⟩
noncomputable def aG7 (N:Nat):List (Nat×(Pk→Tr Pk)):=[(39,T39 N),(95,T95 N),(96,T96 N),(97,T97 N)]
theorem D8 (N:Nat):ai Tryz.prog (aG7 N):=⟨pS N,Bm N,To N,Tn N,trivial⟩
@[reducible] def LO:LD:=⟨122,[4,12,1,11],[(.ret,[2,3]),(.exit 0,[4,1])],⟨[.int .i64,.int .i64,.adr 0 [],.arr y0 3],[.var 43 (.agg [.int .i64,.int .i64,.bool,.bool,.int .i64,.int .i64,.int .i64,.int .i64,.int .i64,.int .i64])]⟩,[(.exit 0,⟨[.int .i64,.adr 0 []],[.var 43 (.agg [.int .i64,.int .i64,.bool,.bool,.int .i64,.int .i64,.int .i64,.int .i64,.int .i64,.int .i64])]⟩)]⟩
abbrev CG:Type:=Int×Int×(List (Int×(Int×Unit)))×Int×Int×Bool×Bool×Int×Int×Int×Int×Int×Int
abbrev BM:Type:=Int×Int×Int×Bool×Bool×Int×Int×Int×Int×Int×Int
noncomputable def lS (N:Nat) (f:CG→Option BM):CG→Option BM
 | (x0,x1,x2,x3,x4,x5,x6,x7,x8,x9,x10,x11,x12) =>
 ac (decide (x1<(3:Int))) (
  ac (within x1 (List.length x2)) (
   Option.bind (x2[Int.toNat x1]?) fun y0 =>
   Option.bind (F96 N (y0.1,y0.2.1)) fun y1 =>
   Option.bind (f (IntKind.wrap IntKind.i64 (↑(BitVec.toNat (BitVec.ofInt (64:Nat) x0 ||| BitVec.ofInt (64:Nat) y1)):Int),IntKind.wrap IntKind.i64 (x1+(1:Int)),x2,x3,x4,x5,x6,x7,x8,x9,x10,x11,x12)) fun r=>some r) (
   none )) (
  some ((x0,x3,x4,x5,x6,x7,x8,x9,x10,x11,x12)))
noncomputable def cO (N:Nat):Nat→CG→Option BM
 | 0,_=>none
 | k+1,x=>lS N (cO N k) x
noncomputable def MO (N:Nat) (k:Nat):Cut:=LO.cut (cO N k)
theorem JI (N:Nat) (k:Nat):ak Tryz.prog false Tryz.f37 [] 122 (MO N k) :=
 LO.loopT ag am (D8 N) Tryz.f37 [] (cuts:=[]) trivial (by decide +kernel) (by kernel_rfl) (lS N) (cO N) (fun _=>rfl) (fun _ _=>rfl) (fun f x=>by kernel_rfl) k
@[reducible] def w37:List SP:=[⟨[.tup [.int .i64,.int .i64]],[]⟩]
noncomputable def DK (N:Nat):(Int×Int×Bool×Bool×Int×Int×Int×Int×Int×Int)→Option (Int×Int)
 | (x0,x1,x2,x3,x4,x5,x6,x7,x8,x9) =>
 Option.bind (Vw N (x0,x1,x2,x3,x4,x5,x6,x7,x8,x9)) fun y0 =>
 ac (!y0) (
  some (((0:Int),(0:Int)))) (
  Option.bind (Vu N (x0,x1,x2,x3,x4,x5,x6,x7,x8,x9)) fun y1 =>
  Option.bind (cO N N ((0:Int),(0:Int),y1,x0,x1,x2,x3,x4,x5,x6,x7,x8,x9)) fun(y2_0,y2_1,y2_2,y2_3,y2_4,y2_5,y2_6,y2_7,y2_8,y2_9,y2_10) =>
  ac (decide (y2_1<(32:Int))) (
   Option.bind (Zw N (y2_1,y2_2,y2_3,y2_4,y2_5,y2_6,y2_7,y2_8,y2_9,y2_10)) fun y3 =>
   some ((y3,(0:Int)))) (
   ac (decide (y2_2>(24:Int))) (
    Option.bind (Zw N (y2_1,y2_2,y2_3,y2_4,y2_5,y2_6,y2_7,y2_8,y2_9,y2_10)) fun y4 =>
    some ((y4,(0:Int)))) (
    ac (decide (y2_0<(16777216:Int))) (
     some (((3:Int),(0:Int)))) (
     ac (IntKind.wrap IntKind.i64 (↑(BitVec.toNat (BitVec.ofInt (64:Nat) y2_0 &&& BitVec.ofInt (64:Nat) (255:Int))):Int)==(0:Int)) (
      some (((3:Int),(8:Int)))) (
      Option.bind (Zw N (y2_1,y2_2,y2_3,y2_4,y2_5,y2_6,y2_7,y2_8,y2_9,y2_10)) fun y5 =>
      some ((y5,(0:Int))))))))
noncomputable def T37 (N:Nat):Pk→Tr Pk:=ah s37 w37 (DK N)
theorem uz (N:Nat):av Tryz.prog (37) (T37 N) :=
 (af ag am (D8 N) Tryz.func37 s37 w37 [] (cuts:=[(122,MO N N)]) ⟨JI N N,trivial⟩ (fun _=>by kernel_rfl) (by decide +kernel) (DK N) (fun x=>by kernel_rfl))
@[reducible] def s81:SP:=⟨[.str],[]⟩
noncomputable def aF7 (N:Nat):List (Nat×(Pk→Tr Pk)):=[]
theorem RF (N:Nat):ai Tryz.prog (aF7 N):=trivial
@[reducible] def w81:List SP:=[⟨[.adr 0 []],[.var 189 (.agg [.str,.int .i64,.int .i64])]⟩]
noncomputable def F81 (N:Nat):(ByteArray)→Option (ByteArray×Int×Int)
 | x0 =>
 some ((x0,(0:Int),(0:Int)))
noncomputable def T81 (N:Nat):Pk→Tr Pk:=ah s81 w81 (F81 N)
theorem II (N:Nat):av Tryz.prog (81) (T81 N) :=
 (af ag am (RF N) Tryz.func81 s81 w81 [] (cuts:=[]) trivial (fun _=>by kernel_rfl) (by decide +kernel) (F81 N) (fun x=>by kernel_rfl))
@[reducible] def s139:SP:=⟨[.int .i64],[]⟩
noncomputable def al0 (N:Nat):List (Nat×(Pk→Tr Pk)):=[]
theorem Pp (N:Nat):ai Tryz.prog (al0 N):=trivial
@[reducible] def w139:List SP:=[⟨[.bool],[]⟩]
noncomputable def U4 (N:Nat):(Int)→Option (Bool)
 | x0 =>
 ac (decide ((1:Int)≤x0)) (
  some (decide (x0≤(4096:Int)))) (
  some (false))
noncomputable def aV3 (N:Nat):Pk→Tr Pk:=ah s139 w139 (U4 N)
theorem X8 (N:Nat):av Tryz.prog (139) (aV3 N) :=
 (af ag am (Pp N) Tryz.func139 s139 w139 [] (cuts:=[]) trivial (fun _=>by kernel_rfl) (by decide +kernel) (U4 N) (fun x=>by kernel_rfl))
@[reducible] def y1:Ty:=(.cons (.int .i64) (.cons (.int .i64) (.cons (.int .i64) (.cons (.int .i64) .unit))))
@[reducible] def s140:SP:=⟨[.int .i64,.int .i64,.int .i64],[]⟩
noncomputable def ak9 (N:Nat):List (Nat×(Pk→Tr Pk)):=[]
theorem Po (N:Nat):ai Tryz.prog (ak9 N):=trivial
@[reducible] def w140:List SP:=[⟨[.clo 209 [.adr 0 [],.adr 1 [],.adr 2 []]],[.var 3 (.int .i64),.var 3 (.int .i64),.var 3 (.int .i64)]⟩]
noncomputable def YY (N:Nat):(Int×Int×Int)→Option (Int×Int×Int)
 | (x0,x1,x2) =>
 some ((x1,x2,x0))
noncomputable def aV2 (N:Nat):Pk→Tr Pk:=ah s140 w140 (YY N)
theorem X7 (N:Nat):av Tryz.prog (140) (aV2 N) :=
 (af ag am (Po N) Tryz.func140 s140 w140 [] (cuts:=[]) trivial (fun _=>by kernel_rfl) (by decide +kernel) (YY N) (fun x=>by kernel_rfl))
@[reducible] def s82r122:SP:=⟨[.yv 0,.agg [.int .i64,.int .i64,.int .i64,.int .i64],.adr 1 []],[.lp 1512633014044183232634 [7] [.adr 1 []] 0,.var 55 (.sl 2),.row y1 126]⟩
noncomputable def NX (N:Nat):List (Nat×(Pk→Tr Pk)):=[]
theorem Ao (N:Nat):ai Tryz.prog (NX N):=trivial
@[reducible] def w82r122:List SP:=[⟨[.bc true],[.lp 1512633014044183232634 [7] [.adr 1 []] 0,.var 55 (.sl 2),.row y1 126]⟩]
noncomputable def ol (N:Nat):(Int×Int×Int×Int×(List (Int×(Int×(Int×(Int×Unit))))))→Option ((List (Int×(Int×(Int×(Int×Unit))))))
 | (x0,x1,x2,x3,x4) =>
 ac (decide ((List.length x4+List.length [(x0,x1,x2,x3,())])*(32:Nat)≤(140737488355328:Nat)∧List.length x4+List.length [(x0,x1,x2,x3,())]≤(140737488355328:Nat))) (
  some (x4++[(x0,x1,x2,x3,())])) (
  none )
noncomputable def K3 (N:Nat):Pk→Tr Pk:=ah s82r122 w82r122 (ol N)
theorem IF (N:Nat):av Tryz.prog (82*be+122) (K3 N) :=
 (Se ag am (Ao N) Tryz.func82 122 s82r122 w82r122 [0,1,1] (cuts:=[]) trivial (fun _=>by kernel_rfl) (by decide +kernel) (ol N) (fun x=>by kernel_rfl))
@[reducible] def s209:SP:=⟨[.yv 0,.adr 1 [],.adr 2 [],.adr 3 []],[.lp 1512633014044183232634 [7] [.adr 4 []] 0,.var 3 (.int .i64),.var 3 (.int .i64),.var 3 (.int .i64),.var 55 (.sl 5),.row y1 126]⟩
noncomputable def ah6 (N:Nat):List (Nat×(Pk→Tr Pk)):=[(82*be+122,K3 N)]
theorem pd (N:Nat):ai Tryz.prog (ah6 N):=⟨IF N,trivial⟩
@[reducible] def FE:LD:=⟨402,[0,3,1,5,2,6],[(.exit 2,[5,0,3,1,2]),(.exit 1,[5,0,3,1,2])],⟨[.yv 0,.adr 3 [],.adr 1 [],.int .i64,.adr 2 [],.int .i64],[.lp 1512633014044183232634 [7] [.adr 4 []] 0,.var 3 (.int .i64),.var 3 (.int .i64),.var 3 (.int .i64),.var 55 (.sl 5),.row y1 126]⟩,[(.exit 2,⟨[.int .i64,.yv 0,.adr 3 [],.adr 1 [],.adr 2 []],[.lp 1512633014044183232634 [7] [.adr 4 []] 0,.var 3 (.int .i64),.var 3 (.int .i64),.var 3 (.int .i64),.var 55 (.sl 5),.row y1 126]⟩)]⟩
abbrev vT:Type:=Int×Int×Int×Int×Int×(List (Int×(Int×(Int×(Int×Unit)))))
abbrev vb:Type:=Int×Int×Int×Int×(List (Int×(Int×(Int×(Int×Unit)))))
noncomputable def fT (N:Nat) (f:vT→Option vb):vT→Option vb
 | (x0,x1,x2,x3,x4,x5) =>
 ac (decide (x1<x4)) (
  Option.bind (ol N (x1,x0,if IntKind.wrap IntKind.i64 (x4-x1)<x3 then IntKind.wrap IntKind.i64 (x4-x1) else x3,if IntKind.wrap IntKind.i64 (x2-x0)<x3 then IntKind.wrap IntKind.i64 (x2-x0) else x3,x5)) fun y0 =>
  Option.bind (f (x0,IntKind.wrap IntKind.i64 (x1+x3),x2,x3,x4,y0)) fun r=>some r) (
  some ((x0,x2,x3,x4,x5)))
noncomputable def er (N:Nat):Nat→vT→Option vb
 | 0,_=>none
 | k+1,x=>fT N (er N k) x
noncomputable def wM (N:Nat) (k:Nat):Cut:=FE.cut (er N k)
theorem rE (N:Nat) (k:Nat):ak Tryz.prog false Tryz.f209 [0,1,2,3,4] 402 (wM N k) :=
 FE.loopT ag am (pd N) Tryz.f209 [0,1,2,3,4] (cuts:=[]) trivial (by decide +kernel) (by kernel_rfl) (fT N) (er N) (fun _=>rfl) (fun _ _=>rfl) (fun f x=>by kernel_rfl) k
@[reducible] def Uf:LD:=⟨6,[0,3,1,5,2],[(.exit 0,[])],⟨[.yv 0,.adr 3 [],.adr 1 [],.int .i64,.adr 2 []],[.lp 1512633014044183232634 [7] [.adr 4 []] 0,.var 3 (.int .i64),.var 3 (.int .i64),.var 3 (.int .i64),.var 55 (.sl 5),.row y1 126]⟩,[(.exit 0,⟨[],[.lp 1512633014044183232634 [7] [.adr 4 []] 0,.var 3 (.int .i64),.var 3 (.int .i64),.var 3 (.int .i64),.var 55 (.sl 5),.row y1 126]⟩)]⟩
abbrev Jb:Type:=Int×Int×Int×Int×(List (Int×(Int×(Int×(Int×Unit)))))
abbrev IY:Type:=Int×Int×Int×(List (Int×(Int×(Int×(Int×Unit)))))
noncomputable def nq (N:Nat) (f:Jb→Option IY):Jb→Option IY
 | (x0,x1,x2,x3,x4) =>
 ac (decide (x0<x1)) (
  Option.bind (er N N (x0,(0:Int),x1,x2,x3,x4)) fun y0 =>
  Option.bind (f (IntKind.wrap IntKind.i64 (y0.1+y0.2.2.1),y0.2.1,y0.2.2.1,y0.2.2.2.1,y0.2.2.2.2)) fun r=>some r) (
  some ((x1,x2,x3,x4)))
noncomputable def ji (N:Nat):Nat→Jb→Option IY
 | 0,_=>none
 | k+1,x=>nq N (ji N k) x
noncomputable def Vo (N:Nat) (k:Nat):Cut:=Uf.cut (ji N k)
theorem Q3 (N:Nat) (k:Nat):ak Tryz.prog false Tryz.f209 [0,1,2,3,4] 6 (Vo N k) :=
 Uf.loopT ag am (pd N) Tryz.f209 [0,1,2,3,4] (cuts:=[(402,wM N N)]) ⟨rE N N,trivial⟩ (by decide +kernel) (by kernel_rfl) (nq N) (ji N) (fun _=>rfl) (fun _ _=>rfl) (fun f x=>by kernel_rfl) k
@[reducible] def w209:List SP:=[⟨[.tup []],[.lp 1512633014044183232634 [7] [.adr 4 []] 0,.var 3 (.int .i64),.var 3 (.int .i64),.var 3 (.int .i64),.var 55 (.sl 5),.row y1 126]⟩]
noncomputable def YT (N:Nat):(Int×Int×Int×(List (Int×(Int×(Int×(Int×Unit))))))→Option (Int×Int×Int×(List (Int×(Int×(Int×(Int×Unit))))))
 | (x0,x1,x2,x3) =>
 Option.bind (ji N N ((0:Int),x0,x1,x2,x3)) fun y0 =>
 some ((y0.1,y0.2.1,y0.2.2.1,y0.2.2.2))
noncomputable def aT0 (N:Nat):Pk→Tr Pk:=ah s209 w209 (YT N)
theorem XE (N:Nat):av Tryz.prog (209) (aT0 N) :=
 (af ag am (pd N) Tryz.func209 s209 w209 [0,1,2,3,4] (cuts:=[(402,wM N N),(6,Vo N N)]) ⟨rE N N,Q3 N N,trivial⟩ (fun _=>by kernel_rfl) (by decide +kernel) (YT N) (fun x=>by kernel_rfl))
@[reducible] def s82:SP:=⟨[.int .i64,.int .i64,.int .i64],[]⟩
noncomputable def aF6 (N:Nat):List (Nat×(Pk→Tr Pk)):=[(139,aV3 N),(140,aV2 N),(209,aT0 N)]
theorem D6 (N:Nat):ai Tryz.prog (aF6 N):=⟨X8 N,X7 N,XE N,trivial⟩
@[reducible] def LF:LD:=⟨122,[6,7,25],[(.ret,[6]),(.exit 0,[7]),(.normal,[7])],⟨[.sl 0,.adr 1 [],.clo 209 [.adr 2 [],.adr 3 [],.adr 4 []]],[.row y1 126,.var 55 (.sl 5),.var 3 (.int .i64),.var 3 (.int .i64),.var 3 (.int .i64),.row y1 126]⟩,[(.normal,⟨[.adr 0 []],[.var 55 (.sl 1),.row y1 126]⟩)]⟩
noncomputable def so (N:Nat):((List (Int×(Int×(Int×(Int×Unit)))))×Int×Int×Int×(List (Int×(Int×(Int×(Int×Unit))))))→Option ((List (Int×(Int×(Int×(Int×Unit))))))
 | (x0,x1,x2,x3,x4) =>
 Option.bind (YT N (x1,x2,x3,x4)) fun y0 =>
 some y0.2.2.2
noncomputable def MI (N:Nat) (_:Nat):Cut:=LF.cut (so N)
theorem JB (N:Nat) (k:Nat):ak Tryz.prog false Tryz.f82 [] 122 (MI N k) :=
 LF.rngT ag am (D6 N) Tryz.func82 [] [7] (by decide +kernel) (so N) (fun x=>by kernel_rfl)
@[reducible] def w82:List SP:=[⟨[.sl 0],[.row y1 126]⟩]
noncomputable def F82 (N:Nat):(Int×Int×Int)→Option ((List (Int×(Int×(Int×(Int×Unit))))))
 | (x0,x1,x2) =>
 Option.bind (U4 N x0) fun y0 =>
 ac (!y0) (
  some ([])) (
  Option.bind (U4 N x1) fun y1 =>
  ac (!y1) (
   some ([])) (
   ac (decide (x2<(1:Int))) (
    some ([])) (
    Option.bind (YY N (x0,x1,if (4096:Int)<x2 then (4096:Int) else x2)) fun y2 =>
    Option.bind (so N ([],y2.1,y2.2.1,y2.2.2,[])) fun y3 =>
    some (y3))))
noncomputable def T82 (N:Nat):Pk→Tr Pk:=ah s82 w82 (F82 N)
theorem IG (N:Nat):av Tryz.prog (82) (T82 N) :=
 (af ag am (D6 N) Tryz.func82 s82 w82 [] (cuts:=[(122,MI N N)]) ⟨JB N N,trivial⟩ (fun _=>by kernel_rfl) (by decide +kernel) (F82 N) (fun x=>by kernel_rfl))
@[reducible] def s230:SP:=⟨[.int .i64],[]⟩
noncomputable def af6 (N:Nat):List (Nat×(Pk→Tr Pk)):=[]
theorem OP (N:Nat):ai Tryz.prog (af6 N):=trivial
@[reducible] def w230:List SP:=[⟨[.bool],[]⟩]
noncomputable def UI (N:Nat):(Int)→Option (Bool)
 | x0 =>
 ac (x0==(1:Int)) (
  some (true)) (
  ac (x0==(2:Int)) (
   some (true)) (
   some (x0==(4:Int))))
noncomputable def aw4 (N:Nat):Pk→Tr Pk:=ah s230 w230 (UI N)
theorem Lu (N:Nat):av Tryz.prog (230) (aw4 N) :=
 (af ag am (OP N) Tryz.func230 s230 w230 [] (cuts:=[]) trivial (fun _=>by kernel_rfl) (by decide +kernel) (UI N) (fun x=>by kernel_rfl))
@[reducible] def s206:SP:=⟨[.adr 0 [],.int .i64],[.var 189 (.agg [.str,.int .i64,.int .i64])]⟩
noncomputable def ah9 (N:Nat):List (Nat×(Pk→Tr Pk)):=[]
theorem O5 (N:Nat):ai Tryz.prog (ah9 N):=trivial
@[reducible] def w206:List SP:=[⟨[.tup []],[.var 189 (.agg [.str,.int .i64,.int .i64])]⟩]
noncomputable def Jo (N:Nat):(Int×ByteArray×Int×Int)→Option (ByteArray×Int×Int)
 | (x0,x1,x2,x3) =>
 ac (x3==(0:Int)) (
  some ((x1,x2,x0))) (
  some ((x1,x2,x3)))
noncomputable def aw8 (N:Nat):Pk→Tr Pk:=ah s206 w206 (Jo N)
theorem Ly (N:Nat):av Tryz.prog (206) (aw8 N) :=
 (af ag am (O5 N) Tryz.func206 s206 w206 [0] (cuts:=[]) trivial (fun _=>by kernel_rfl) (by decide +kernel) (Jo N) (fun x=>by kernel_rfl))
@[reducible] def y2:Ty:=(.cons .str (.cons (.int .i64) (.cons (.int .i64) .unit)))
@[reducible] def s86:SP:=⟨[.radr y2 [.i 0 3]],[]⟩
noncomputable def aF2 (N:Nat):List (Nat×(Pk→Tr Pk)):=[]
theorem RD (N:Nat):ai Tryz.prog (aF2 N):=trivial
@[reducible] def w86:List SP:=[⟨[.int .i64],[]⟩]
noncomputable def F86 (N:Nat):((ByteArray×(Int×(Int×Unit))))→Option (Int)
 | x0 =>
 some (IntKind.wrap IntKind.i64 ((↑(ByteArray.size x0.1):Int)-x0.2.1))
noncomputable def T86 (N:Nat):Pk→Tr Pk:=ah s86 w86 (F86 N)
theorem Tu (N:Nat):av Tryz.prog (86) (T86 N) :=
 (af ag am (RD N) Tryz.func86 s86 w86 [] (cuts:=[]) trivial (fun _=>by kernel_rfl) (by decide +kernel) (F86 N) (fun x=>by kernel_rfl))
@[reducible] def s135:SP:=⟨[.adr 0 [],.int .i64],[.var 189 (.agg [.str,.int .i64,.int .i64])]⟩
noncomputable def al4 (N:Nat):List (Nat×(Pk→Tr Pk)):=[(206,aw8 N),(86,T86 N)]
theorem Pt (N:Nat):ai Tryz.prog (al4 N):=⟨Ly N,Tu N,trivial⟩
@[reducible] def w135:List SP:=[⟨[.str],[.var 189 (.agg [.str,.int .i64,.int .i64])]⟩]
noncomputable def nd (N:Nat):(Int×ByteArray×Int×Int)→Option (ByteArray×ByteArray×Int×Int)
 | (x0,x1,x2,x3) =>
 ac (decide (x0<(0:Int))) (
  Option.bind (Jo N ((1:Int),x1,x2,x3)) fun y0 =>
  ac (y0.2.2 != (0:Int)) (
   some ((ByteArray.mk #[],y0.1,y0.2.1,y0.2.2))) (
   ac (decide ((0:Int)≤IntKind.wrap IntKind.i64 (y0.2.1+x0)∧IntKind.wrap IntKind.i64 (y0.2.1+x0)≤(↑(ByteArray.size y0.1):Int))) (
    ac (decide ((0:Int)≤IntKind.wrap IntKind.i64 (IntKind.wrap IntKind.i64 (y0.2.1+x0)-x0)∧IntKind.wrap IntKind.i64 (IntKind.wrap IntKind.i64 (y0.2.1+x0)-x0)≤(↑(Int.toNat (IntKind.wrap IntKind.i64 (y0.2.1+x0))):Int))) (
     some ((ByteArray.extract y0.1 (Int.toNat (IntKind.wrap IntKind.i64 (IntKind.wrap IntKind.i64 (y0.2.1+x0)-x0))) (Int.toNat (IntKind.wrap IntKind.i64 (y0.2.1+x0))),y0.1,IntKind.wrap IntKind.i64 (y0.2.1+x0),y0.2.2))) (
     none )) (
    none ))) (
  Option.bind (F86 N (x1,x2,x3,())) fun y1 =>
  ac (decide (x0>y1)) (
   Option.bind (Jo N ((2:Int),x1,x2,x3)) fun y2 =>
   ac (y2.2.2 != (0:Int)) (
    some ((ByteArray.mk #[],y2.1,y2.2.1,y2.2.2))) (
    ac (decide ((0:Int)≤IntKind.wrap IntKind.i64 (y2.2.1+x0)∧IntKind.wrap IntKind.i64 (y2.2.1+x0)≤(↑(ByteArray.size y2.1):Int))) (
     ac (decide ((0:Int)≤IntKind.wrap IntKind.i64 (IntKind.wrap IntKind.i64 (y2.2.1+x0)-x0)∧IntKind.wrap IntKind.i64 (IntKind.wrap IntKind.i64 (y2.2.1+x0)-x0)≤(↑(Int.toNat (IntKind.wrap IntKind.i64 (y2.2.1+x0))):Int))) (
      some ((ByteArray.extract y2.1 (Int.toNat (IntKind.wrap IntKind.i64 (IntKind.wrap IntKind.i64 (y2.2.1+x0)-x0))) (Int.toNat (IntKind.wrap IntKind.i64 (y2.2.1+x0))),y2.1,IntKind.wrap IntKind.i64 (y2.2.1+x0),y2.2.2))) (
      none )) (
     none ))) (
   ac (x3 != (0:Int)) (
    some ((ByteArray.mk #[],x1,x2,x3))) (
    ac (decide ((0:Int)≤IntKind.wrap IntKind.i64 (x2+x0)∧IntKind.wrap IntKind.i64 (x2+x0)≤(↑(ByteArray.size x1):Int))) (
     ac (decide ((0:Int)≤IntKind.wrap IntKind.i64 (IntKind.wrap IntKind.i64 (x2+x0)-x0)∧IntKind.wrap IntKind.i64 (IntKind.wrap IntKind.i64 (x2+x0)-x0)≤(↑(Int.toNat (IntKind.wrap IntKind.i64 (x2+x0))):Int))) (
      some ((ByteArray.extract x1 (Int.toNat (IntKind.wrap IntKind.i64 (IntKind.wrap IntKind.i64 (x2+x0)-x0))) (Int.toNat (IntKind.wrap IntKind.i64 (x2+x0))),x1,IntKind.wrap IntKind.i64 (x2+x0),x3))) (
      none )) (
     none ))))
noncomputable def TL (N:Nat):Pk→Tr Pk:=ah s135 w135 (nd N)
theorem sj (N:Nat):av Tryz.prog (135) (TL N) :=
 (af ag am (Pt N) Tryz.func135 s135 w135 [0] (cuts:=[]) trivial (fun _=>by kernel_rfl) (by decide +kernel) (nd N) (fun x=>by kernel_rfl))
@[reducible] def s231:SP:=⟨[.slp 0 .h .h],[.row (.int .u8) 5]⟩
noncomputable def af5 (N:Nat):List (Nat×(Pk→Tr Pk)):=[]
theorem xV (N:Nat):ai Tryz.prog (af5 N):=trivial
@[reducible] def Uc:LD:=⟨6,[2,3,0],[(.exit 0,[])],⟨[.int .i64,.int .i64,.slp 0 .h .h],[.row (.int .u8) 5]⟩,[(.exit 0,⟨[],[.row (.int .u8) 5]⟩)]⟩
abbrev I8:Type:=Int×Int×Nat×Nat×(List Int)
abbrev IV:Type:=(List Int)
noncomputable def eD (N:Nat) (f:I8→Option IV):I8→Option IV
 | (x0,x1,x2,x3,x4) =>
 ac (decide (x0<x1)) (
  ac (within x1 x3) (
   Option.bind (x4[x2+Int.toNat x1]?) fun y0 =>
   ac (within x0 x3) (
    Option.bind (x4[x2+Int.toNat x0]?) fun y1 =>
    ac (within x0 x3) (
     Option.bind (x4[x2+Int.toNat x0]?) fun y2 =>
     ac (within x1 x3) (
      Option.bind ((List.set x4 (x2+Int.toNat x0) y0)[x2+Int.toNat x1]?) fun y3 =>
      Option.bind (f (IntKind.wrap IntKind.i64 (x0+(1:Int)),IntKind.wrap IntKind.i64 (x1-(1:Int)),x2,x3,List.set (List.set x4 (x2+Int.toNat x0) y0) (x2+Int.toNat x1) y1)) fun r=>some r) (
      none )) (
     none )) (
    none )) (
   none )) (
  some (x4))
noncomputable def bR (N:Nat):Nat→I8→Option IV
 | 0,_=>none
 | k+1,x=>eD N (bR N k) x
noncomputable def Vl (N:Nat) (k:Nat):Cut:=Uc.cut (bR N k)
theorem Q0 (N:Nat) (k:Nat):ak Tryz.prog false Tryz.f231 [0] 6 (Vl N k) :=
 Uc.loopT ag am (xV N) Tryz.f231 [0] (cuts:=[]) trivial (by decide +kernel) (by kernel_rfl) (eD N) (bR N) (fun _=>rfl) (fun _ _=>rfl) (fun f x=>by kernel_rfl) k
@[reducible] def w231:List SP:=[⟨[.tup []],[.row (.int .u8) 5]⟩]
noncomputable def oM (N:Nat):(Nat×Nat×(List Int))→Option ((List Int))
 | (x0,x1,x2) =>
 Option.bind (bR N N ((0:Int),IntKind.wrap IntKind.i64 ((↑x1:Int)-(1:Int)),x0,x1,x2)) fun y0 =>
 some (y0)
noncomputable def aw3 (N:Nat):Pk→Tr Pk:=ah s231 w231 (oM N)
theorem Lt (N:Nat):av Tryz.prog (231) (aw3 N) :=
 (af ag am (xV N) Tryz.func231 s231 w231 [0] (cuts:=[(6,Vl N N)]) ⟨Q0 N N,trivial⟩ (fun _=>by kernel_rfl) (by decide +kernel) (oM N) (fun x=>by kernel_rfl))
@[reducible] def s165:SP:=⟨[.str],[]⟩
noncomputable def ai4 (N:Nat):List (Nat×(Pk→Tr Pk)):=[(231,aw3 N)]
theorem O7 (N:Nat):ai Tryz.prog (ai4 N):=⟨Lt N,trivial⟩
@[reducible] def w165:List SP:=[⟨[.str],[]⟩]
noncomputable def xl (N:Nat):(ByteArray)→Option (ByteArray)
 | x0 =>
 ac (decide (ByteArray.size x0≤(140737488355328:Nat))) (
  Option.bind (oM N ((0:Nat),List.length (bytesOf x0),bytesOf x0)) fun y0 =>
  some (aE y0)) (
  none )
noncomputable def ax0 (N:Nat):Pk→Tr Pk:=ah s165 w165 (xl N)
theorem LA (N:Nat):av Tryz.prog (165) (ax0 N) :=
 (af ag am (O7 N) Tryz.func165 s165 w165 [] (cuts:=[]) trivial (fun _=>by kernel_rfl) (by decide +kernel) (xl N) (fun x=>by kernel_rfl))
@[reducible] def s173:SP:=⟨[.adr 0 [],.int .i64,.fn 165],[.var 189 (.agg [.str,.int .i64,.int .i64])]⟩
noncomputable def ai2 (N:Nat):List (Nat×(Pk→Tr Pk)):=[(230,aw4 N),(206,aw8 N),(135,TL N),(165,ax0 N)]
theorem yc (N:Nat):ai Tryz.prog (ai2 N):=⟨Lu N,Ly N,sj N,LA N,trivial⟩
@[reducible] def FF:LD:=⟨122,[7,22,21,20],[(.ret,[6]),(.exit 0,[7])],⟨[.int .i64,.int .i64,.int .i64,.sl 1],[.var 189 (.agg [.str,.int .i64,.int .i64]),.row (.int .u8) 5]⟩,[(.exit 0,⟨[.int .i64],[.var 189 (.agg [.str,.int .i64,.int .i64])]⟩)]⟩
abbrev vV:Type:=Int×Int×Int×ByteArray×Int×Int×(List Int)
abbrev ve:Type:=Int×ByteArray×Int×Int
noncomputable def iB (N:Nat) (f:vV→Option ve):vV→Option ve
 | (x0,x1,x2,x3,x4,x5,x6) =>
 ac (decide (x1<x2)) (
  ac (within x1 (List.length x6)) (
   Option.bind (x6[Int.toNat x1]?) fun y0 =>
   ac (decide (IntKind.wrap IntKind.i64 ((8:Int)*x1)<(0:Int))) (
    none ) (
    Option.bind (f (IntKind.wrap IntKind.i64 (↑(BitVec.toNat (BitVec.ofInt (64:Nat) x0 ||| BitVec.ofInt (64:Nat) (IntKind.wrap IntKind.i64 (IntKind.wrap IntKind.i64 y0*(2:Int)^min (Int.toNat (IntKind.wrap IntKind.i64 ((8:Int)*x1))) (64:Nat))))):Int),IntKind.wrap IntKind.i64 (x1+(1:Int)),x2,x3,x4,x5,x6)) fun r=>some r)) (
   none )) (
  some ((x0,x3,x4,x5)))
noncomputable def cL (N:Nat):Nat→vV→Option ve
 | 0,_=>none
 | k+1,x=>iB N (cL N k) x
noncomputable def G4 (N:Nat) (k:Nat):Cut:=FF.cut (cL N k)
theorem G3 (N:Nat) (k:Nat):ak Tryz.prog false Tryz.f173 [0] 122 (G4 N k) :=
 FF.loopT ag am (yc N) Tryz.f173 [0] (cuts:=[]) trivial (by decide +kernel) (by kernel_rfl) (iB N) (cL N) (fun _=>rfl) (fun _ _=>rfl) (fun f x=>by kernel_rfl) k
@[reducible] def w173:List SP:=[⟨[.int .i64],[.var 189 (.agg [.str,.int .i64,.int .i64])]⟩]
noncomputable def YV (N:Nat):(Int×ByteArray×Int×Int)→Option (Int×ByteArray×Int×Int)
 | (x0,x1,x2,x3) =>
 Option.bind (UI N x0) fun y0 =>
 ac (!y0) (
  Option.bind (Jo N ((1:Int),x1,x2,x3)) fun y1 =>
  Option.bind (nd N (x0,y1.1,y1.2.1,y1.2.2)) fun y2 =>
  Option.bind (xl N y2.1) fun y3 =>
  ac (decide (ByteArray.size y3≤(140737488355328:Nat))) (
   Option.bind (cL N N ((0:Int),(0:Int),(↑(List.length (bytesOf y3)):Int),y2.2.1,y2.2.2.1,y2.2.2.2,bytesOf y3)) fun y4 =>
   some ((y4.1,y4.2.1,y4.2.2.1,y4.2.2.2))) (
   none )) (
  Option.bind (nd N (x0,x1,x2,x3)) fun y5 =>
  Option.bind (xl N y5.1) fun y6 =>
  ac (decide (ByteArray.size y6≤(140737488355328:Nat))) (
   Option.bind (cL N N ((0:Int),(0:Int),(↑(List.length (bytesOf y6)):Int),y5.2.1,y5.2.2.1,y5.2.2.2,bytesOf y6)) fun y7 =>
   some ((y7.1,y7.2.1,y7.2.2.1,y7.2.2.2))) (
   none ))
noncomputable def aT4 (N:Nat):Pk→Tr Pk:=ah s173 w173 (YV N)
theorem XI (N:Nat):av Tryz.prog (173) (aT4 N) :=
 (af ag am (yc N) Tryz.func173 s173 w173 [0] (cuts:=[(122,G4 N N)]) ⟨G3 N N,trivial⟩ (fun _=>by kernel_rfl) (by decide +kernel) (YV N) (fun x=>by kernel_rfl))
@[reducible] def s105:SP:=⟨[.adr 0 [],.int .i64],[.var 189 (.agg [.str,.int .i64,.int .i64])]⟩
noncomputable def al9 (N:Nat):List (Nat×(Pk→Tr Pk)):=[(173,aT4 N)]
theorem Px (N:Nat):ai Tryz.prog (al9 N):=⟨XI N,trivial⟩
@[reducible] def w105:List SP:=[⟨[.int .i64],[.var 189 (.agg [.str,.int .i64,.int .i64])]⟩]
noncomputable def wE (N:Nat):(Int×ByteArray×Int×Int)→Option (Int×ByteArray×Int×Int)
 | (x0,x1,x2,x3) =>
 Option.bind (YV N (x0,x1,x2,x3)) fun y0 =>
 some ((y0.1,y0.2.1,y0.2.2.1,y0.2.2.2))
noncomputable def Qp (N:Nat):Pk→Tr Pk:=ah s105 w105 (wE N)
theorem oh (N:Nat):av Tryz.prog (105) (Qp N) :=
 (af ag am (Px N) Tryz.func105 s105 w105 [0] (cuts:=[]) trivial (fun _=>by kernel_rfl) (by decide +kernel) (wE N) (fun x=>by kernel_rfl))
@[reducible] def s84:SP:=⟨[.radr y2 [.i 0 3]],[]⟩
noncomputable def aF4 (N:Nat):List (Nat×(Pk→Tr Pk)):=[]
theorem RE (N:Nat):ai Tryz.prog (aF4 N):=trivial
@[reducible] def w84:List SP:=[⟨[.int .i64],[]⟩]
noncomputable def Vv (N:Nat):((ByteArray×(Int×(Int×Unit))))→Option (Int)
 | x0 =>
 some x0.2.2.1
noncomputable def T84 (N:Nat):Pk→Tr Pk:=ah s84 w84 (Vv N)
theorem pR (N:Nat):av Tryz.prog (84) (T84 N) :=
 (af ag am (RE N) Tryz.func84 s84 w84 [] (cuts:=[]) trivial (fun _=>by kernel_rfl) (by decide +kernel) (Vv N) (fun x=>by kernel_rfl))
@[reducible] def s264:SP:=⟨[.agg [.int .i64,.int .i64,.bool,.bool,.int .i64,.int .i64,.int .i64,.int .i64,.int .i64,.int .i64],.int .i64,.str],[]⟩
noncomputable def af0 (N:Nat):List (Nat×(Pk→Tr Pk)):=[(39,T39 N)]
theorem xT (N:Nat):ai Tryz.prog (af0 N):=⟨pS N,trivial⟩
@[reducible] def FA:LD:=⟨122,[8,21,20,1,3,2],[(.ret,[6,7]),(.exit 1,[8])],⟨[.int .i64,.int .i64,.int .i64,.int .i64,.adr 0 [],.str],[.var 43 (.agg [.int .i64,.int .i64,.bool,.bool,.int .i64,.int .i64,.int .i64,.int .i64,.int .i64,.int .i64])]⟩,[(.exit 1,⟨[.int .i64],[]⟩)]⟩
abbrev vP:Type:=Int×Int×Int×Int×ByteArray×Int×Int×Bool×Bool×Int×Int×Int×Int×Int×Int
abbrev u5:Type:=Int
noncomputable def iA (N:Nat) (f:vP→Option u5):vP→Option u5
 | (x0,x1,x2,x3,x4,x5,x6,x7,x8,x9,x10,x11,x12,x13,x14) =>
 ac (decide (x1<x2)) (
  ac (x7) (
   ac (decide ((0:Int)≤x1)) (
    Option.bind (x4[Int.toNat x1]?) fun y0 =>
    Option.bind (f (IntKind.wrap IntKind.i64 (↑(BitVec.toNat (BitVec.ofInt (64:Nat) (IntKind.wrap IntKind.i64 (x0*(256:Int))) ||| BitVec.ofInt (64:Nat) (IntKind.wrap IntKind.i64 (↑(UInt8.toNat y0):Int)))):Int),IntKind.wrap IntKind.i64 (x1+(1:Int)),x2,x3,x4,x5,x6,x7,x8,x9,x10,x11,x12,x13,x14)) fun r=>some r) (
    none )) (
   ac (decide ((0:Int)≤IntKind.wrap IntKind.i64 (IntKind.wrap IntKind.i64 (x3-(1:Int))-x1))) (
    Option.bind (x4[Int.toNat (IntKind.wrap IntKind.i64 (IntKind.wrap IntKind.i64 (x3-(1:Int))-x1))]?) fun y1 =>
    Option.bind (f (IntKind.wrap IntKind.i64 (↑(BitVec.toNat (BitVec.ofInt (64:Nat) (IntKind.wrap IntKind.i64 (x0*(256:Int))) ||| BitVec.ofInt (64:Nat) (IntKind.wrap IntKind.i64 (↑(UInt8.toNat y1):Int)))):Int),IntKind.wrap IntKind.i64 (x1+(1:Int)),x2,x3,x4,x5,x6,x7,x8,x9,x10,x11,x12,x13,x14)) fun r=>some r) (
    none ))) (
  some (x0))
noncomputable def dt (N:Nat):Nat→vP→Option u5
 | 0,_=>none
 | k+1,x=>iA N (dt N k) x
noncomputable def GY (N:Nat) (k:Nat):Cut:=FA.cut (dt N k)
theorem GX (N:Nat) (k:Nat):ak Tryz.prog false Tryz.f264 [] 122 (GY N k) :=
 FA.loopT ag am (xT N) Tryz.f264 [] (cuts:=[]) trivial (by decide +kernel) (by kernel_rfl) (iA N) (dt N) (fun _=>rfl) (fun _ _=>rfl) (fun f x=>by kernel_rfl) k
@[reducible] def w264:List SP:=[⟨[.tup [.int .i64,.int .i64]],[]⟩]
noncomputable def YQ (N:Nat):(Int×Int×Bool×Bool×Int×Int×Int×Int×Int×Int×Int×ByteArray)→Option (Int×Int)
 | (x0,x1,x2,x3,x4,x5,x6,x7,x8,x9,x10,x11) =>
 Option.bind (Vw N (x0,x1,x2,x3,x4,x5,x6,x7,x8,x9)) fun y0 =>
 ac (!y0) (
  some (((0:Int),(130:Int)))) (
  ac (decide ((↑(ByteArray.size x11):Int)<x10)) (
   some (((0:Int),(2:Int)))) (
   Option.bind (dt N N ((0:Int),(0:Int),x10,x10,x11,x0,x1,x2,x3,x4,x5,x6,x7,x8,x9)) fun y1 =>
   some ((y1,(0:Int)))))
noncomputable def aR3 (N:Nat):Pk→Tr Pk:=ah s264 w264 (YQ N)
theorem Xk (N:Nat):av Tryz.prog (264) (aR3 N) :=
 (af ag am (xT N) Tryz.func264 s264 w264 [] (cuts:=[(122,GY N N)]) ⟨GX N N,trivial⟩ (fun _=>by kernel_rfl) (by decide +kernel) (YQ N) (fun x=>by kernel_rfl))
@[reducible] def s210:SP:=⟨[.agg [.int .i64,.int .i64,.bool,.bool,.int .i64,.int .i64,.int .i64,.int .i64,.int .i64,.int .i64],.str],[]⟩
noncomputable def ah5 (N:Nat):List (Nat×(Pk→Tr Pk)):=[(37,T37 N),(264,aR3 N)]
theorem O3 (N:Nat):ai Tryz.prog (ah5 N):=⟨uz N,Xk N,trivial⟩
@[reducible] def w210:List SP:=[⟨[.tup [.int .i64,.int .i64]],[]⟩]
noncomputable def UR (N:Nat):(Int×Int×Bool×Bool×Int×Int×Int×Int×Int×Int×ByteArray)→Option (Int×Int)
 | (x0,x1,x2,x3,x4,x5,x6,x7,x8,x9,x10) =>
 Option.bind (DK N (x0,x1,x2,x3,x4,x5,x6,x7,x8,x9)) fun y0 =>
 Option.bind (YQ N (x0,x1,x2,x3,x4,x5,x6,x7,x8,x9,y0.1,x10)) fun y1 =>
 ac (decide (y0.2<(0:Int))) (
  none ) (
  some ((IntKind.wrap IntKind.i64 (y1.1*(2:Int)^min (Int.toNat y0.2) (64:Nat)),y1.2)))
noncomputable def aS9 (N:Nat):Pk→Tr Pk:=ah s210 w210 (UR N)
theorem XD (N:Nat):av Tryz.prog (210) (aS9 N) :=
 (af ag am (O3 N) Tryz.func210 s210 w210 [] (cuts:=[]) trivial (fun _=>by kernel_rfl) (by decide +kernel) (UR N) (fun x=>by kernel_rfl))
@[reducible] def s142:SP:=⟨[.agg [.adr 0 [],.agg [.int .i64,.int .i64,.bool,.bool,.int .i64,.int .i64,.int .i64,.int .i64,.int .i64,.int .i64],.int .i64]],[.var 189 (.agg [.str,.int .i64,.int .i64])]⟩
noncomputable def ak7 (N:Nat):List (Nat×(Pk→Tr Pk)):=[(135,TL N),(210,aS9 N)]
theorem Pn (N:Nat):ai Tryz.prog (ak7 N):=⟨sj N,XD N,trivial⟩
@[reducible] def w142:List SP:=[⟨[.int .i64],[.var 189 (.agg [.str,.int .i64,.int .i64])]⟩]
noncomputable def Jw (N:Nat):(Int×Int×Bool×Bool×Int×Int×Int×Int×Int×Int×Int×ByteArray×Int×Int)→Option (Int×ByteArray×Int×Int)
 | (x0,x1,x2,x3,x4,x5,x6,x7,x8,x9,x10,x11,x12,x13) =>
 Option.bind (nd N (x10,x11,x12,x13)) fun y0 =>
 Option.bind (UR N (x0,x1,x2,x3,x4,x5,x6,x7,x8,x9,y0.1)) fun y1 =>
 some ((y1.1,y0.2.1,y0.2.2.1,y0.2.2.2))
noncomputable def X5 (N:Nat):Pk→Tr Pk:=ah s142 w142 (Jw N)
theorem BB (N:Nat):av Tryz.prog (142) (X5 N) :=
 (af ag am (Pn N) Tryz.func142 s142 w142 [0] (cuts:=[]) trivial (fun _=>by kernel_rfl) (by decide +kernel) (Jw N) (fun x=>by kernel_rfl))
@[reducible] def s141:SP:=⟨[.agg [.adr 0 [],.agg [.int .i64,.int .i64,.bool,.bool,.int .i64,.int .i64,.int .i64,.int .i64,.int .i64,.int .i64],.int .i64],.int .i64],[.var 189 (.agg [.str,.int .i64,.int .i64])]⟩
noncomputable def ak8 (N:Nat):List (Nat×(Pk→Tr Pk)):=[(142,X5 N)]
theorem yj (N:Nat):ai Tryz.prog (ak8 N):=⟨BB N,trivial⟩
@[reducible] def My:LD:=⟨58,[5,7,6,2],[(.ret,[4]),(.exit 0,[5])],⟨[.sl 1,.int .i64,.int .i64,.adr 2 []],[.var 189 (.agg [.str,.int .i64,.int .i64]),.row (.int .i64) 3,.var 124 (.agg [.adr 0 [],.agg [.int .i64,.int .i64,.bool,.bool,.int .i64,.int .i64,.int .i64,.int .i64,.int .i64,.int .i64],.int .i64])]⟩,[(.exit 0,⟨[.sl 1],[.var 189 (.agg [.str,.int .i64,.int .i64]),.row (.int .i64) 3]⟩)]⟩
abbrev Dc:Type:=Int×Int×ByteArray×Int×Int×(List Int)×Int×Int×Bool×Bool×Int×Int×Int×Int×Int×Int×Int
abbrev Cs:Type:=ByteArray×Int×Int×(List Int)
noncomputable def l6 (N:Nat) (f:Dc→Option Cs):Dc→Option Cs
 | (x0,x1,x2,x3,x4,x5,x6,x7,x8,x9,x10,x11,x12,x13,x14,x15,x16) =>
 ac (decide (x0<x1)) (
  Option.bind (Jw N (x6,x7,x8,x9,x10,x11,x12,x13,x14,x15,x16,x2,x3,x4)) fun y0 =>
  ac (decide ((List.length x5+List.length [y0.1])*(8:Nat)≤(140737488355328:Nat)∧List.length x5+List.length [y0.1]≤(140737488355328:Nat))) (
   Option.bind (f (IntKind.wrap IntKind.i64 (x0+(1:Int)),x1,y0.2.1,y0.2.2.1,y0.2.2.2,x5++[y0.1],x6,x7,x8,x9,x10,x11,x12,x13,x14,x15,x16)) fun r=>some r) (
   none )) (
  some ((x2,x3,x4,x5)))
noncomputable def eT (N:Nat):Nat→Dc→Option Cs
 | 0,_=>none
 | k+1,x=>l6 N (eT N k) x
noncomputable def No (N:Nat) (k:Nat):Cut:=My.cut (eT N k)
theorem Kg (N:Nat) (k:Nat):ak Tryz.prog false Tryz.f141 [0] 58 (No N k) :=
 My.loopT ag am (yj N) Tryz.f141 [0] (cuts:=[]) trivial (by decide +kernel) (by kernel_rfl) (l6 N) (eT N) (fun _=>rfl) (fun _ _=>rfl) (fun f x=>by kernel_rfl) k
@[reducible] def w141:List SP:=[⟨[.sl 1],[.var 189 (.agg [.str,.int .i64,.int .i64]),.row (.int .i64) 3]⟩]
noncomputable def Jx (N:Nat):(Int×Int×Bool×Bool×Int×Int×Int×Int×Int×Int×Int×Int×ByteArray×Int×Int)→Option (ByteArray×Int×Int×(List Int))
 | (x0,x1,x2,x3,x4,x5,x6,x7,x8,x9,x10,x11,x12,x13,x14) =>
 Option.bind (eT N N ((0:Int),x11,x12,x13,x14,[],x0,x1,x2,x3,x4,x5,x6,x7,x8,x9,x10)) fun y0 =>
 some ((y0.1,y0.2.1,y0.2.2.1,y0.2.2.2))
noncomputable def X6 (N:Nat):Pk→Tr Pk:=ah s141 w141 (Jx N)
theorem BC (N:Nat):av Tryz.prog (141) (X6 N) :=
 (af ag am (yj N) Tryz.func141 s141 w141 [0] (cuts:=[(58,No N N)]) ⟨Kg N N,trivial⟩ (fun _=>by kernel_rfl) (by decide +kernel) (Jx N) (fun x=>by kernel_rfl))
@[reducible] def s211:SP:=⟨[.int .i64],[]⟩
noncomputable def ah4 (N:Nat):List (Nat×(Pk→Tr Pk)):=[]
theorem O2 (N:Nat):ai Tryz.prog (ah4 N):=trivial
@[reducible] def w211:List SP:=[⟨[.int .i64],[]⟩]
noncomputable def QI (N:Nat):(Int)→Option (Int)
 | x0 =>
 ac (decide (x0≤(2:Int))) (
  some ((1:Int))) (
  ac (decide (x0≤(4:Int))) (
   some ((2:Int))) (
   some ((4:Int))))
noncomputable def aw7 (N:Nat):Pk→Tr Pk:=ah s211 w211 (QI N)
theorem Lx (N:Nat):av Tryz.prog (211) (aw7 N) :=
 (af ag am (O2 N) Tryz.func211 s211 w211 [] (cuts:=[]) trivial (fun _=>by kernel_rfl) (by decide +kernel) (QI N) (fun x=>by kernel_rfl))
@[reducible] def s143:SP:=⟨[.agg [.adr 0 [],.agg [.int .i64,.int .i64,.bool,.bool,.int .i64,.int .i64,.int .i64,.int .i64,.int .i64,.int .i64],.int .i64],.int .i64,.int .i64,.int .i64],[.var 189 (.agg [.str,.int .i64,.int .i64])]⟩
noncomputable def ak6 (N:Nat):List (Nat×(Pk→Tr Pk)):=[(141,X6 N),(211,aw7 N),(135,TL N),(84,T84 N)]
theorem pn (N:Nat):ai Tryz.prog (ak6 N):=⟨BC N,Lx N,sj N,pR N,trivial⟩
@[reducible] def rz:LD:=⟨128206,[37,2,4,22,23,13,11,1,10,38,12],[(.ret,[8,9]),(.exit 2,[23,12,10,1,11,22,4,2]),(.exit 1,[23,12,10,1,11,22,4,2]),(.exit 0,[12])],⟨[.int .i64,.int .i64,.adr 1 [],.int .i64,.int .i64,.str,.int .i64,.int .i64,.sl 2,.int .i64,.sl 3],[.var 189 (.agg [.str,.int .i64,.int .i64]),.var 124 (.agg [.adr 0 [],.agg [.int .i64,.int .i64,.bool,.bool,.int .i64,.int .i64,.int .i64,.int .i64,.int .i64,.int .i64],.int .i64]),.row (.int .i64) 3,.row (.int .i64) 3]⟩,[(.ret,⟨[.sl 1,.bool],[.var 189 (.agg [.str,.int .i64,.int .i64]),.row (.int .i64) 3]⟩),(.exit 2,⟨[.int .i64,.sl 1,.sl 2,.int .i64,.int .i64,.int .i64,.adr 3 [],.int .i64],[.var 189 (.agg [.str,.int .i64,.int .i64]),.row (.int .i64) 3,.row (.int .i64) 3,.var 124 (.agg [.adr 0 [],.agg [.int .i64,.int .i64,.bool,.bool,.int .i64,.int .i64,.int .i64,.int .i64,.int .i64,.int .i64],.int .i64])]⟩)]⟩
abbrev ky:Type:=Int×Int×Int×Int×ByteArray×Int×Int×Int×ByteArray×Int×Int×Int×Int×Bool×Bool×Int×Int×Int×Int×Int×Int×Int×(List Int)×(List Int)
abbrev kp:Type:=((Bool×ByteArray×Int×Int×(List Int))⊕(Int×Int×Int×Int×Int×ByteArray×Int×Int×(List Int)×(List Int)×Int×Int×Bool×Bool×Int×Int×Int×Int×Int×Int×Int))
noncomputable def db (N:Nat) (f:ky→Option kp):ky→Option kp
 | (x0,x1,x2,x3,x4,x5,x6,x7,x8,x9,x10,x11,x12,x13,x14,x15,x16,x17,x18,x19,x20,x21,x22,x23) =>
 ac (decide (x7<x0)) (
  ac (decide ((0:Int)≤IntKind.wrap IntKind.i64 (Int.tdiv (IntKind.wrap IntKind.i64 (x7*x5)) (8:Int)))) (
   Option.bind (x4[Int.toNat (IntKind.wrap IntKind.i64 (Int.tdiv (IntKind.wrap IntKind.i64 (x7*x5)) (8:Int)))]?) fun y0 =>
   ac (decide (IntKind.wrap IntKind.i64 (IntKind.wrap IntKind.i64 ((8:Int)-x5)-Int.tmod (IntKind.wrap IntKind.i64 (x7*x5)) (8:Int))<(0:Int))) (
    none ) (
    ac (decide (x5<(0:Int))) (
     none ) (
     ac (decide (IntKind.wrap IntKind.i64 (↑(BitVec.toNat (BitVec.ofInt (64:Nat) (Int.fdiv (IntKind.wrap IntKind.i64 (↑(UInt8.toNat y0):Int)) ((2:Int)^min (Int.toNat (IntKind.wrap IntKind.i64 (IntKind.wrap IntKind.i64 ((8:Int)-x5)-Int.tmod (IntKind.wrap IntKind.i64 (x7*x5)) (8:Int)))) (64:Nat))) &&& BitVec.ofInt (64:Nat) (IntKind.wrap IntKind.i64 (IntKind.wrap IntKind.i64 ((1:Int)*(2:Int)^min (Int.toNat x5) (64:Nat))-(1:Int))))):Int)≥x6)) (
      some (.inl ((false,x8,x9,x10,[])))) (
      ac (within (IntKind.wrap IntKind.i64 (↑(BitVec.toNat (BitVec.ofInt (64:Nat) (Int.fdiv (IntKind.wrap IntKind.i64 (↑(UInt8.toNat y0):Int)) ((2:Int)^min (Int.toNat (IntKind.wrap IntKind.i64 (IntKind.wrap IntKind.i64 ((8:Int)-x5)-Int.tmod (IntKind.wrap IntKind.i64 (x7*x5)) (8:Int)))) (64:Nat))) &&& BitVec.ofInt (64:Nat) (IntKind.wrap IntKind.i64 (IntKind.wrap IntKind.i64 ((1:Int)*(2:Int)^min (Int.toNat x5) (64:Nat))-(1:Int))))):Int)) (List.length x22)) (
       Option.bind (x22[Int.toNat (IntKind.wrap IntKind.i64 (↑(BitVec.toNat (BitVec.ofInt (64:Nat) (Int.fdiv (IntKind.wrap IntKind.i64 (↑(UInt8.toNat y0):Int)) ((2:Int)^min (Int.toNat (IntKind.wrap IntKind.i64 (IntKind.wrap IntKind.i64 ((8:Int)-x5)-Int.tmod (IntKind.wrap IntKind.i64 (x7*x5)) (8:Int)))) (64:Nat))) &&& BitVec.ofInt (64:Nat) (IntKind.wrap IntKind.i64 (IntKind.wrap IntKind.i64 ((1:Int)*(2:Int)^min (Int.toNat x5) (64:Nat))-(1:Int))))):Int))]?) fun y1 =>
       ac (decide ((List.length x23+List.length [y1])*(8:Nat)≤(140737488355328:Nat)∧List.length x23+List.length [y1]≤(140737488355328:Nat))) (
        Option.bind (f (x0,x1,x2,x3,x4,x5,x6,IntKind.wrap IntKind.i64 (x7+(1:Int)),x8,x9,x10,x11,x12,x13,x14,x15,x16,x17,x18,x19,x20,x21,x22,x23++[y1])) fun r=>match r with|.inl y=>some (.inl y)|.inr y=>some (.inr y)) (
        none )) (
       none ))))) (
   none )) (
  some (.inr ((x3,x6,x5,x2,x1,x8,x9,x10,x23,x22,x11,x12,x13,x14,x15,x16,x17,x18,x19,x20,x21))))
noncomputable def a7 (N:Nat):Nat→ky→Option kp
 | 0,_=>none
 | k+1,x=>db N (a7 N k) x
noncomputable def kV (N:Nat) (k:Nat):Cut:=rz.cut (a7 N k)
theorem kU (N:Nat) (k:Nat):ak Tryz.prog false Tryz.f143 [0] 128206 (kV N k) :=
 rz.loopT ag am (pn N) Tryz.f143 [0] (cuts:=[]) trivial (by decide +kernel) (by kernel_rfl) (db N) (a7 N) (fun _=>rfl) (fun _ _=>rfl) (fun f x=>by kernel_rfl) k
@[reducible] def FK:LD:=⟨250,[12,10,1,11,23,22,4,2],[(.ret,[8,9]),(.exit 0,[12])],⟨[.sl 1,.sl 2,.int .i64,.int .i64,.int .i64,.int .i64,.adr 3 [],.int .i64],[.var 189 (.agg [.str,.int .i64,.int .i64]),.row (.int .i64) 3,.row (.int .i64) 3,.var 124 (.agg [.adr 0 [],.agg [.int .i64,.int .i64,.bool,.bool,.int .i64,.int .i64,.int .i64,.int .i64,.int .i64,.int .i64],.int .i64])]⟩,[(.ret,⟨[.sl 1,.bool],[.var 189 (.agg [.str,.int .i64,.int .i64]),.row (.int .i64) 3]⟩),(.exit 0,⟨[.sl 1],[.var 189 (.agg [.str,.int .i64,.int .i64]),.row (.int .i64) 3]⟩)]⟩
abbrev v7:Type:=Int×Int×Int×Int×Int×ByteArray×Int×Int×(List Int)×(List Int)×Int×Int×Bool×Bool×Int×Int×Int×Int×Int×Int×Int
abbrev vm:Type:=((Bool×ByteArray×Int×Int×(List Int))⊕(ByteArray×Int×Int×(List Int)))
noncomputable def iF (N:Nat) (f:v7→Option vm):v7→Option vm
 | (x0,x1,x2,x3,x4,x5,x6,x7,x8,x9,x10,x11,x12,x13,x14,x15,x16,x17,x18,x19,x20) =>
 ac (decide (x2<x3)) (
  Option.bind (nd N (IntKind.wrap IntKind.i64 (Int.tdiv (IntKind.wrap IntKind.i64 (IntKind.wrap IntKind.i64 (x4*x1)+(7:Int))) (8:Int)),x5,x6,x7)) fun y0 =>
  Option.bind (Vv N (y0.2.1,y0.2.2.1,y0.2.2.2,())) fun y1 =>
  ac (y1 != (0:Int)) (
   some (.inl ((false,y0.2.1,y0.2.2.1,y0.2.2.2,[])))) (
   Option.bind (a7 N N (x4,x4,x3,x2,y0.1,x1,x0,(0:Int),y0.2.1,y0.2.2.1,y0.2.2.2,x10,x11,x12,x13,x14,x15,x16,x17,x18,x19,x20,x9,x8)) fun y2 =>
   match y2 with
   | .inl y3 =>
    some (.inl ((y3.1,y3.2.1,y3.2.2.1,y3.2.2.2.1,y3.2.2.2.2)))
   | .inr (y3_0,y3_1,y3_2,y3_3,y3_4,y3_5,y3_6,y3_7,y3_8,y3_9,y3_10,y3_11,y3_12,y3_13,y3_14,y3_15,y3_16,y3_17,y3_18,y3_19,y3_20) =>
    Option.bind (f (y3_1,y3_2,IntKind.wrap IntKind.i64 (y3_0+(1:Int)),y3_3,y3_4,y3_5,y3_6,y3_7,y3_8,y3_9,y3_10,y3_11,y3_12,y3_13,y3_14,y3_15,y3_16,y3_17,y3_18,y3_19,y3_20)) fun r=>match r with|.inl y=>some (.inl y)|.inr y=>some (.inr y))) (
  some (.inr ((x5,x6,x7,x8))))
noncomputable def cd (N:Nat):Nat→v7→Option vm
 | 0,_=>none
 | k+1,x=>iF N (cd N k) x
noncomputable def He (N:Nat) (k:Nat):Cut:=FK.cut (cd N k)
theorem Hd (N:Nat) (k:Nat):ak Tryz.prog false Tryz.f143 [0] 250 (He N k) :=
 FK.loopT ag am (pn N) Tryz.f143 [0] (cuts:=[(128206,kV N N)]) ⟨kU N N,trivial⟩ (by decide +kernel) (by kernel_rfl) (iF N) (cd N) (fun _=>rfl) (fun _ _=>rfl) (fun f x=>by kernel_rfl) k
@[reducible] def w143:List SP:=[⟨[.tup [.sl 1,.bool]],[.var 189 (.agg [.str,.int .i64,.int .i64]),.row (.int .i64) 3]⟩]
noncomputable def U3 (N:Nat):(Int×Int×Bool×Bool×Int×Int×Int×Int×Int×Int×Int×Int×Int×Int×ByteArray×Int×Int)→Option (Bool×ByteArray×Int×Int×(List Int))
 | (x0,x1,x2,x3,x4,x5,x6,x7,x8,x9,x10,x11,x12,x13,x14,x15,x16) =>
 Option.bind (Jx N (x0,x1,x2,x3,x4,x5,x6,x7,x8,x9,x10,x11,x14,x15,x16)) fun y0 =>
 Option.bind (QI N x11) fun y1 =>
 Option.bind (cd N N (x11,y1,(0:Int),x13,x12,y0.1,y0.2.1,y0.2.2.1,[],y0.2.2.2,x0,x1,x2,x3,x4,x5,x6,x7,x8,x9,x10)) fun y2 =>
 match y2 with
 | .inl y3 =>
  some ((y3.1,y3.2.1,y3.2.2.1,y3.2.2.2.1,y3.2.2.2.2))
 | .inr y3 =>
  some ((true,y3.1,y3.2.1,y3.2.2.1,y3.2.2.2))
noncomputable def aV1 (N:Nat):Pk→Tr Pk:=ah s143 w143 (U3 N)
theorem X4 (N:Nat):av Tryz.prog (143) (aV1 N) :=
 (af ag am (pn N) Tryz.func143 s143 w143 [0] (cuts:=[(128206,kV N N),(250,He N N)]) ⟨kU N N,Hd N N,trivial⟩ (fun _=>by kernel_rfl) (by decide +kernel) (U3 N) (fun x=>by kernel_rfl))
@[reducible] def s265:SP:=⟨[.agg [.adr 0 [],.agg [.int .i64,.int .i64,.bool,.bool,.int .i64,.int .i64,.int .i64,.int .i64,.int .i64,.int .i64],.int .i64]],[.var 189 (.agg [.str,.int .i64,.int .i64])]⟩
noncomputable def ae9 (N:Nat):List (Nat×(Pk→Tr Pk)):=[(105,Qp N)]
theorem xS (N:Nat):ai Tryz.prog (ae9 N):=⟨oh N,trivial⟩
@[reducible] def Ml:LD:=⟨58,[4,3,1],[(.ret,[2]),(.exit 0,[3])],⟨[.int .i64,.int .i64,.adr 1 []],[.var 189 (.agg [.str,.int .i64,.int .i64]),.var 124 (.agg [.adr 0 [],.agg [.int .i64,.int .i64,.bool,.bool,.int .i64,.int .i64,.int .i64,.int .i64,.int .i64,.int .i64],.int .i64])]⟩,[(.exit 0,⟨[.int .i64],[.var 189 (.agg [.str,.int .i64,.int .i64])]⟩)]⟩
abbrev C1:Type:=Int×Int×ByteArray×Int×Int×Int×Int×Bool×Bool×Int×Int×Int×Int×Int×Int×Int
abbrev Ci:Type:=Int×ByteArray×Int×Int
noncomputable def lW (N:Nat) (f:C1→Option Ci):C1→Option Ci
 | (x0,x1,x2,x3,x4,x5,x6,x7,x8,x9,x10,x11,x12,x13,x14,x15) =>
 ac (x0==(255:Int)) (
  Option.bind (wE N ((1:Int),x2,x3,x4)) fun y0 =>
  Option.bind (f (y0.1,IntKind.wrap IntKind.i64 (x1+y0.1),y0.2.1,y0.2.2.1,y0.2.2.2,x5,x6,x7,x8,x9,x10,x11,x12,x13,x14,x15)) fun r=>some r) (
  some ((x1,x2,x3,x4)))
noncomputable def dY (N:Nat):Nat→C1→Option Ci
 | 0,_=>none
 | k+1,x=>lW N (dY N k) x
noncomputable def M9 (N:Nat) (k:Nat):Cut:=Ml.cut (dY N k)
theorem J3 (N:Nat) (k:Nat):ak Tryz.prog false Tryz.f265 [0] 58 (M9 N k) :=
 Ml.loopT ag am (xS N) Tryz.f265 [0] (cuts:=[]) trivial (by decide +kernel) (by kernel_rfl) (lW N) (dY N) (fun _=>rfl) (fun _ _=>rfl) (fun f x=>by kernel_rfl) k
@[reducible] def w265:List SP:=[⟨[.int .i64],[.var 189 (.agg [.str,.int .i64,.int .i64])]⟩]
noncomputable def QC (N:Nat):(Int×Int×Bool×Bool×Int×Int×Int×Int×Int×Int×Int×ByteArray×Int×Int)→Option (Int×ByteArray×Int×Int)
 | (x0,x1,x2,x3,x4,x5,x6,x7,x8,x9,x10,x11,x12,x13) =>
 Option.bind (dY N N ((255:Int),(1:Int),x11,x12,x13,x0,x1,x2,x3,x4,x5,x6,x7,x8,x9,x10)) fun y0 =>
 some ((y0.1,y0.2.1,y0.2.2.1,y0.2.2.2))
noncomputable def aR2 (N:Nat):Pk→Tr Pk:=ah s265 w265 (QC N)
theorem Xj (N:Nat):av Tryz.prog (265) (aR2 N) :=
 (af ag am (xS N) Tryz.func265 s265 w265 [0] (cuts:=[(58,M9 N N)]) ⟨J3 N N,trivial⟩ (fun _=>by kernel_rfl) (by decide +kernel) (QC N) (fun x=>by kernel_rfl))
@[reducible] def s212:SP:=⟨[.agg [.adr 0 [],.agg [.int .i64,.int .i64,.bool,.bool,.int .i64,.int .i64,.int .i64,.int .i64,.int .i64,.int .i64],.int .i64],.ro (.int .i64)],[.var 189 (.agg [.str,.int .i64,.int .i64])]⟩
noncomputable def ah3 (N:Nat):List (Nat×(Pk→Tr Pk)):=[(142,X5 N),(265,aR2 N),(105,Qp N)]
theorem O1 (N:Nat):ai Tryz.prog (ah3 N):=⟨BB N,Xj N,oh N,trivial⟩
@[reducible] def w212:List SP:=[⟨[.tup [.int .i64,.int .i64,.bool]],[.var 189 (.agg [.str,.int .i64,.int .i64])]⟩]
noncomputable def Ds (N:Nat):(Int×Int×Bool×Bool×Int×Int×Int×Int×Int×Int×Int×(List Int)×ByteArray×Int×Int)→Option (Int×Int×Bool×ByteArray×Int×Int)
 | (x0,x1,x2,x3,x4,x5,x6,x7,x8,x9,x10,x11,x12,x13,x14) =>
 ac ((↑(List.length x11):Int)==(0:Int)) (
  Option.bind (Jw N (x0,x1,x2,x3,x4,x5,x6,x7,x8,x9,x10,x12,x13,x14)) fun y0 =>
  Option.bind (QC N (x0,x1,x2,x3,x4,x5,x6,x7,x8,x9,x10,y0.2.1,y0.2.2.1,y0.2.2.2)) fun y1 =>
  some ((y0.1,y1.1,true,y1.2.1,y1.2.2.1,y1.2.2.2))) (
  Option.bind (wE N ((1:Int),x12,x13,x14)) fun y2 =>
  ac (decide (IntKind.wrap IntKind.i64 (↑(BitVec.toNat (BitVec.ofInt (64:Nat) y2.1 &&& BitVec.ofInt (64:Nat) (127:Int))):Int)≥(↑(List.length x11):Int))) (
   some (((0:Int),(0:Int),false,y2.2.1,y2.2.2.1,y2.2.2.2))) (
   ac (decide (y2.1≥(128:Int))) (
    Option.bind (QC N (x0,x1,x2,x3,x4,x5,x6,x7,x8,x9,x10,y2.2.1,y2.2.2.1,y2.2.2.2)) fun y3 =>
    ac (within (IntKind.wrap IntKind.i64 (↑(BitVec.toNat (BitVec.ofInt (64:Nat) y2.1 &&& BitVec.ofInt (64:Nat) (127:Int))):Int)) (List.length x11)) (
     Option.bind (x11[Int.toNat (IntKind.wrap IntKind.i64 (↑(BitVec.toNat (BitVec.ofInt (64:Nat) y2.1 &&& BitVec.ofInt (64:Nat) (127:Int))):Int))]?) fun y4 =>
     some ((y4,y3.1,true,y3.2.1,y3.2.2.1,y3.2.2.2))) (
     none )) (
    ac (within (IntKind.wrap IntKind.i64 (↑(BitVec.toNat (BitVec.ofInt (64:Nat) y2.1 &&& BitVec.ofInt (64:Nat) (127:Int))):Int)) (List.length x11)) (
     Option.bind (x11[Int.toNat (IntKind.wrap IntKind.i64 (↑(BitVec.toNat (BitVec.ofInt (64:Nat) y2.1 &&& BitVec.ofInt (64:Nat) (127:Int))):Int))]?) fun y5 =>
     some ((y5,(1:Int),true,y2.2.1,y2.2.2.1,y2.2.2.2))) (
     none ))))
noncomputable def aS8 (N:Nat):Pk→Tr Pk:=ah s212 w212 (Ds N)
theorem XC (N:Nat):av Tryz.prog (212) (aS8 N) :=
 (af ag am (O1 N) Tryz.func212 s212 w212 [0] (cuts:=[]) trivial (fun _=>by kernel_rfl) (by decide +kernel) (Ds N) (fun x=>by kernel_rfl))
@[reducible] def s144:SP:=⟨[.agg [.adr 0 [],.agg [.int .i64,.int .i64,.bool,.bool,.int .i64,.int .i64,.int .i64,.int .i64,.int .i64,.int .i64],.int .i64],.int .i64,.int .i64],[.var 189 (.agg [.str,.int .i64,.int .i64])]⟩
noncomputable def ak5 (N:Nat):List (Nat×(Pk→Tr Pk)):=[(141,X6 N),(212,aS8 N),(84,T84 N)]
theorem pm (N:Nat):ai Tryz.prog (ak5 N):=⟨BC N,XC N,pR N,trivial⟩
@[reducible] def zl:LD:=⟨7726,[9,44,43,2,3,8,10],[(.ret,[6,7]),(.exit 2,[8,3,2,9]),(.exit 1,[8,3,2,9]),(.exit 0,[9])],⟨[.sl 1,.int .i64,.int .i64,.int .i64,.adr 2 [],.sl 3,.int .i64],[.var 189 (.agg [.str,.int .i64,.int .i64]),.row (.int .i64) 3,.var 124 (.agg [.adr 0 [],.agg [.int .i64,.int .i64,.bool,.bool,.int .i64,.int .i64,.int .i64,.int .i64,.int .i64,.int .i64],.int .i64]),.row (.int .i64) 3]⟩,[(.exit 2,⟨[.sl 1,.adr 2 [],.int .i64,.sl 3],[.var 189 (.agg [.str,.int .i64,.int .i64]),.row (.int .i64) 3,.var 124 (.agg [.adr 0 [],.agg [.int .i64,.int .i64,.bool,.bool,.int .i64,.int .i64,.int .i64,.int .i64,.int .i64,.int .i64],.int .i64]),.row (.int .i64) 3]⟩)]⟩
abbrev qx:Type:=Int×Int×Int×Int×ByteArray×Int×Int×(List Int)×Int×Int×Bool×Bool×Int×Int×Int×Int×Int×Int×Int×(List Int)
abbrev qf:Type:=Int×ByteArray×Int×Int×(List Int)×Int×Int×Bool×Bool×Int×Int×Int×Int×Int×Int×Int×(List Int)
noncomputable def fg (N:Nat) (f:qx→Option qf):qx→Option qf
 | (x0,x1,x2,x3,x4,x5,x6,x7,x8,x9,x10,x11,x12,x13,x14,x15,x16,x17,x18,x19) =>
 ac (decide (x0<x1)) (
  ac (decide ((List.length x7+List.length [x3])*(8:Nat)≤(140737488355328:Nat)∧List.length x7+List.length [x3]≤(140737488355328:Nat))) (
   Option.bind (f (IntKind.wrap IntKind.i64 (x0+(1:Int)),x1,x2,x3,x4,x5,x6,x7++[x3],x8,x9,x10,x11,x12,x13,x14,x15,x16,x17,x18,x19)) fun r=>some r) (
   none )) (
  some ((x2,x4,x5,x6,x19,x8,x9,x10,x11,x12,x13,x14,x15,x16,x17,x18,x7)))
noncomputable def ce (N:Nat):Nat→qx→Option qf
 | 0,_=>none
 | k+1,x=>fg N (ce N k) x
noncomputable def qN (N:Nat) (k:Nat):Cut:=zl.cut (ce N k)
theorem oX (N:Nat) (k:Nat):ak Tryz.prog false Tryz.f144 [0] 7726 (qN N k) :=
 zl.loopT ag am (pm N) Tryz.f144 [0] (cuts:=[]) trivial (by decide +kernel) (by kernel_rfl) (fg N) (ce N) (fun _=>rfl) (fun _ _=>rfl) (fun f x=>by kernel_rfl) k
@[reducible] def Mx:LD:=⟨60,[8,3,2,9],[(.ret,[6,7]),(.exit 0,[9])],⟨[.sl 1,.adr 2 [],.int .i64,.sl 3],[.var 189 (.agg [.str,.int .i64,.int .i64]),.row (.int .i64) 3,.var 124 (.agg [.adr 0 [],.agg [.int .i64,.int .i64,.bool,.bool,.int .i64,.int .i64,.int .i64,.int .i64,.int .i64,.int .i64],.int .i64]),.row (.int .i64) 3]⟩,[(.ret,⟨[.sl 1,.bool],[.var 189 (.agg [.str,.int .i64,.int .i64]),.row (.int .i64) 3]⟩),(.exit 0,⟨[.sl 1],[.var 189 (.agg [.str,.int .i64,.int .i64]),.row (.int .i64) 3]⟩)]⟩
abbrev Db:Type:=Int×ByteArray×Int×Int×(List Int)×Int×Int×Bool×Bool×Int×Int×Int×Int×Int×Int×Int×(List Int)
abbrev Cr:Type:=((Bool×ByteArray×Int×Int×(List Int))⊕(ByteArray×Int×Int×(List Int)))
noncomputable def gz (N:Nat) (f:Db→Option Cr):Db→Option Cr
 | (x0,x1,x2,x3,x4,x5,x6,x7,x8,x9,x10,x11,x12,x13,x14,x15,x16) =>
 ac (decide ((↑(List.length x16):Int)<x0)) (
  Option.bind (Ds N (x5,x6,x7,x8,x9,x10,x11,x12,x13,x14,x15,x4,x1,x2,x3)) fun(y0_0,y0_1,y0_2,y0_3,y0_4,y0_5) =>
  ac (!y0_2) (
   some (.inl ((false,y0_3,y0_4,y0_5,[])))) (
   Option.bind (Vv N (y0_3,y0_4,y0_5,())) fun y1 =>
   ac (y1 != (0:Int)) (
    some (.inl ((false,y0_3,y0_4,y0_5,[])))) (
    ac (decide (y0_1>IntKind.wrap IntKind.i64 (x0-(↑(List.length x16):Int)))) (
     some (.inl ((false,y0_3,y0_4,y0_5,[])))) (
     Option.bind (ce N N ((0:Int),y0_1,x0,y0_0,y0_3,y0_4,y0_5,x16,x5,x6,x7,x8,x9,x10,x11,x12,x13,x14,x15,x4)) fun(y2_0,y2_1,y2_2,y2_3,y2_4,y2_5,y2_6,y2_7,y2_8,y2_9,y2_10,y2_11,y2_12,y2_13,y2_14,y2_15,y2_16) =>
     Option.bind (f (y2_0,y2_1,y2_2,y2_3,y2_4,y2_5,y2_6,y2_7,y2_8,y2_9,y2_10,y2_11,y2_12,y2_13,y2_14,y2_15,y2_16)) fun r=>match r with|.inl y=>some (.inl y)|.inr y=>some (.inr y))))) (
  some (.inr ((x1,x2,x3,x16))))
noncomputable def cz (N:Nat):Nat→Db→Option Cr
 | 0,_=>none
 | k+1,x=>gz N (cz N k) x
noncomputable def Nn (N:Nat) (k:Nat):Cut:=Mx.cut (cz N k)
theorem Kf (N:Nat) (k:Nat):ak Tryz.prog false Tryz.f144 [0] 60 (Nn N k) :=
 Mx.loopT ag am (pm N) Tryz.f144 [0] (cuts:=[(7726,qN N N)]) ⟨oX N N,trivial⟩ (by decide +kernel) (by kernel_rfl) (gz N) (cz N) (fun _=>rfl) (fun _ _=>rfl) (fun f x=>by kernel_rfl) k
@[reducible] def w144:List SP:=[⟨[.tup [.sl 1,.bool]],[.var 189 (.agg [.str,.int .i64,.int .i64]),.row (.int .i64) 3]⟩]
noncomputable def Gl (N:Nat):(Int×Int×Bool×Bool×Int×Int×Int×Int×Int×Int×Int×Int×Int×ByteArray×Int×Int)→Option (Bool×ByteArray×Int×Int×(List Int))
 | (x0,x1,x2,x3,x4,x5,x6,x7,x8,x9,x10,x11,x12,x13,x14,x15) =>
 Option.bind (Jx N (x0,x1,x2,x3,x4,x5,x6,x7,x8,x9,x10,x11,x13,x14,x15)) fun y0 =>
 Option.bind (cz N N (x12,y0.1,y0.2.1,y0.2.2.1,y0.2.2.2,x0,x1,x2,x3,x4,x5,x6,x7,x8,x9,x10,[])) fun y1 =>
 match y1 with
 | .inl y2 =>
  some ((y2.1,y2.2.1,y2.2.2.1,y2.2.2.2.1,y2.2.2.2.2))
 | .inr y2 =>
  some ((true,y2.1,y2.2.1,y2.2.2.1,y2.2.2.2))
noncomputable def aV0 (N:Nat):Pk→Tr Pk:=ah s144 w144 (Gl N)
theorem X3 (N:Nat):av Tryz.prog (144) (aV0 N) :=
 (af ag am (pm N) Tryz.func144 s144 w144 [0] (cuts:=[(7726,qN N N),(60,Nn N N)]) ⟨oX N N,Kf N N,trivial⟩ (fun _=>by kernel_rfl) (by decide +kernel) (Gl N) (fun x=>by kernel_rfl))
@[reducible] def s83:SP:=⟨[.agg [.adr 0 [],.agg [.int .i64,.int .i64,.bool,.bool,.int .i64,.int .i64,.int .i64,.int .i64,.int .i64,.int .i64],.int .i64],.int .i64,.int .i64],[.var 189 (.agg [.str,.int .i64,.int .i64])]⟩
noncomputable def aF5 (N:Nat):List (Nat×(Pk→Tr Pk)):=[(105,Qp N),(84,T84 N),(141,X6 N),(142,X5 N),(143,aV1 N),(144,aV0 N)]
theorem D5 (N:Nat):ai Tryz.prog (aF5 N):=⟨oh N,pR N,BC N,BB N,X4 N,X3 N,trivial⟩
@[reducible] def yW:LD:=⟨59354,[39,38,10,9],[(.ret,[6,7]),(.exit 1,[10])],⟨[.int .i64,.int .i64,.sl 1,.int .i64],[.var 189 (.agg [.str,.int .i64,.int .i64]),.row (.int .i64) 3]⟩,[(.exit 1,⟨[.sl 1],[.var 189 (.agg [.str,.int .i64,.int .i64]),.row (.int .i64) 3]⟩)]⟩
abbrev qi:Type:=Int×Int×Int×ByteArray×Int×Int×(List Int)
abbrev pU:Type:=ByteArray×Int×Int×(List Int)
noncomputable def ff (N:Nat) (f:qi→Option pU):qi→Option pU
 | (x0,x1,x2,x3,x4,x5,x6) =>
 ac (decide (x0<x1)) (
  ac (within x0 (List.length x6)) (
   Option.bind (x6[Int.toNat x0]?) fun y0 =>
   Option.bind (f (IntKind.wrap IntKind.i64 (x0+(1:Int)),x1,x2,x3,x4,x5,List.set x6 (Int.toNat x0) x2)) fun r=>some r) (
   none )) (
  some ((x3,x4,x5,x6)))
noncomputable def c7 (N:Nat):Nat→qi→Option pU
 | 0,_=>none
 | k+1,x=>ff N (c7 N k) x
noncomputable def zP (N:Nat) (k:Nat):Cut:=yW.cut (c7 N k)
theorem Dw (N:Nat) (k:Nat):ak Tryz.prog false Tryz.f83 [0] 59354 (zP N k) :=
 yW.loopT ag am (D5 N) Tryz.f83 [0] (cuts:=[]) trivial (by decide +kernel) (by kernel_rfl) (ff N) (c7 N) (fun _=>rfl) (fun _ _=>rfl) (fun f x=>by kernel_rfl) k
@[reducible] def w83:List SP:=[⟨[.tup [.sl 1,.bool]],[.var 189 (.agg [.str,.int .i64,.int .i64]),.row (.int .i64) 3]⟩]
noncomputable def F83 (N:Nat):(Int×Int×Bool×Bool×Int×Int×Int×Int×Int×Int×Int×Int×Int×ByteArray×Int×Int)→Option (Bool×ByteArray×Int×Int×(List Int))
 | (x0,x1,x2,x3,x4,x5,x6,x7,x8,x9,x10,x11,x12,x13,x14,x15) =>
 Option.bind (wE N ((1:Int),x13,x14,x15)) fun y0 =>
 Option.bind (Vv N (y0.2.1,y0.2.2.1,y0.2.2.2,())) fun y1 =>
 ac (y1 != (0:Int)) (
  some ((false,y0.2.1,y0.2.2.1,y0.2.2.2,[]))) (
  ac (y0.1==(0:Int)) (
   Option.bind (Jx N (x0,x1,x2,x3,x4,x5,x6,x7,x8,x9,x10,IntKind.wrap IntKind.i64 (x11*x12),y0.2.1,y0.2.2.1,y0.2.2.2)) fun y2 =>
   some ((true,y2.1,y2.2.1,y2.2.2.1,y2.2.2.2))) (
   ac (y0.1==(1:Int)) (
    Option.bind (Jw N (x0,x1,x2,x3,x4,x5,x6,x7,x8,x9,x10,y0.2.1,y0.2.2.1,y0.2.2.2)) fun y3 =>
    ac (decide ((0:Int)≤IntKind.wrap IntKind.i64 (x11*x12)∧IntKind.wrap IntKind.i64 (x11*x12)≤IntKind.wrap IntKind.i64 (x11*x12)∧IntKind.wrap IntKind.i64 (x11*x12)*(8:Int)≤(140737488355328:Int)∧IntKind.wrap IntKind.i64 (x11*x12)≤(140737488355328:Int))) (
     Option.bind (c7 N N ((0:Int),(↑(List.length (List.replicate (Int.toNat (IntKind.wrap IntKind.i64 (x11*x12))) (0:Int))):Int),y3.1,y3.2.1,y3.2.2.1,y3.2.2.2,List.replicate (Int.toNat (IntKind.wrap IntKind.i64 (x11*x12))) (0:Int))) fun y4 =>
     some ((true,y4.1,y4.2.1,y4.2.2.1,y4.2.2.2))) (
     none )) (
    ac (decide (y0.1≤(16:Int))) (
     Option.bind (U3 N (x0,x1,x2,x3,x4,x5,x6,x7,x8,x9,x10,y0.1,x11,x12,y0.2.1,y0.2.2.1,y0.2.2.2)) fun y5 =>
     some ((y5.1,y5.2.1,y5.2.2.1,y5.2.2.2.1,y5.2.2.2.2))) (
     ac (y0.1==(128:Int)) (
      Option.bind (Gl N (x0,x1,x2,x3,x4,x5,x6,x7,x8,x9,x10,IntKind.wrap IntKind.i64 (y0.1-(128:Int)),IntKind.wrap IntKind.i64 (x11*x12),y0.2.1,y0.2.2.1,y0.2.2.2)) fun y6 =>
      some ((y6.1,y6.2.1,y6.2.2.1,y6.2.2.2.1,y6.2.2.2.2))) (
      ac (decide (y0.1≥(130:Int))) (
       Option.bind (Gl N (x0,x1,x2,x3,x4,x5,x6,x7,x8,x9,x10,IntKind.wrap IntKind.i64 (y0.1-(128:Int)),IntKind.wrap IntKind.i64 (x11*x12),y0.2.1,y0.2.2.1,y0.2.2.2)) fun y7 =>
       some ((y7.1,y7.2.1,y7.2.2.1,y7.2.2.2.1,y7.2.2.2.2))) (
       some ((false,y0.2.1,y0.2.2.1,y0.2.2.2,[]))))))))
noncomputable def T83 (N:Nat):Pk→Tr Pk:=ah s83 w83 (F83 N)
theorem as4 (N:Nat):av Tryz.prog (83) (T83 N) :=
 (af ag am (D5 N) Tryz.func83 s83 w83 [0] (cuts:=[(59354,zP N N)]) ⟨Dw N N,trivial⟩ (fun _=>by kernel_rfl) (by decide +kernel) (F83 N) (fun x=>by kernel_rfl))
@[reducible] def s85:SP:=⟨[.agg [.int .i64,.int .i64,.bool,.bool,.int .i64,.int .i64,.int .i64,.int .i64,.int .i64,.int .i64],.int .i64],[]⟩
noncomputable def aF3 (N:Nat):List (Nat×(Pk→Tr Pk)):=[(39,T39 N),(95,T95 N)]
theorem D4 (N:Nat):ai Tryz.prog (aF3 N):=⟨pS N,Bm N,trivial⟩
@[reducible] def LC:LD:=⟨122,[5,14,13,1],[(.ret,[4]),(.exit 0,[5])],⟨[.int .i64,.int .i64,.arr y0 3,.int .i64],[]⟩,[(.exit 0,⟨[.int .i64],[]⟩)]⟩
abbrev Cu:Type:=Int×Int×(List (Int×(Int×Unit)))×Int
abbrev BD:Type:=Int
noncomputable def lQ (N:Nat) (f:Cu→Option BD):Cu→Option BD
 | (x0,x1,x2,x3) =>
 ac (decide (x1<(3:Int))) (
  ac (within x1 (List.length x2)) (
   Option.bind (x2[Int.toNat x1]?) fun y0 =>
   ac (decide (y0.2.1<(0:Int))) (
    none ) (
    ac (decide (y0.1=(0:Int))) (
     none ) (
     Option.bind (f (IntKind.wrap IntKind.i64 (↑(BitVec.toNat (BitVec.ofInt (64:Nat) (IntKind.wrap IntKind.i64 (x0*(256:Int))) ||| BitVec.ofInt (64:Nat) (IntKind.wrap IntKind.i64 (Int.tdiv (IntKind.wrap IntKind.i64 (IntKind.wrap IntKind.i64 (IntKind.wrap IntKind.i64 (↑(BitVec.toNat (BitVec.ofInt (64:Nat) (Int.fdiv x3 ((2:Int)^min (Int.toNat y0.2.1) (64:Nat))) &&& BitVec.ofInt (64:Nat) y0.1)):Int)*(255:Int))+IntKind.wrap IntKind.i64 (Int.tdiv y0.1 (2:Int)))) y0.1)))):Int),IntKind.wrap IntKind.i64 (x1+(1:Int)),x2,x3)) fun r=>some r))) (
   none )) (
  some (x0))
noncomputable def cM (N:Nat):Nat→Cu→Option BD
 | 0,_=>none
 | k+1,x=>lQ N (cM N k) x
noncomputable def MH (N:Nat) (k:Nat):Cut:=LC.cut (cM N k)
theorem JA (N:Nat) (k:Nat):ak Tryz.prog false Tryz.f85 [] 122 (MH N k) :=
 LC.loopT ag am (D4 N) Tryz.f85 [] (cuts:=[]) trivial (by decide +kernel) (by kernel_rfl) (lQ N) (cM N) (fun _=>rfl) (fun _ _=>rfl) (fun f x=>by kernel_rfl) k
@[reducible] def w85:List SP:=[⟨[.int .i64],[]⟩]
noncomputable def F85 (N:Nat):(Int×Int×Bool×Bool×Int×Int×Int×Int×Int×Int×Int)→Option (Int)
 | (x0,x1,x2,x3,x4,x5,x6,x7,x8,x9,x10) =>
 Option.bind (Vw N (x0,x1,x2,x3,x4,x5,x6,x7,x8,x9)) fun y0 =>
 ac (!y0) (
  some ((0:Int))) (
  Option.bind (Vu N (x0,x1,x2,x3,x4,x5,x6,x7,x8,x9)) fun y1 =>
  Option.bind (cM N N ((0:Int),(0:Int),y1,x10)) fun y2 =>
  some (y2))
noncomputable def T85 (N:Nat):Pk→Tr Pk:=ah s85 w85 (F85 N)
theorem as2 (N:Nat):av Tryz.prog (85) (T85 N) :=
 (af ag am (D4 N) Tryz.func85 s85 w85 [] (cuts:=[(122,MH N N)]) ⟨JA N N,trivial⟩ (fun _=>by kernel_rfl) (by decide +kernel) (F85 N) (fun x=>by kernel_rfl))
@[reducible] def s29:SP:=⟨[.agg [.int .i64,.int .i64,.bool,.bool,.int .i64,.int .i64,.int .i64,.int .i64,.int .i64,.int .i64],.int .i64,.int .i64,.str],[]⟩
noncomputable def aH4 (N:Nat):List (Nat×(Pk→Tr Pk)):=[(35,T35 N),(37,T37 N),(81,T81 N),(82,T82 N),(83,T83 N),(84,T84 N),(85,T85 N),(86,T86 N)]
theorem tg (N:Nat):ai Tryz.prog (aH4 N):=⟨uB N,uz N,II N,IG N,as4 N,pR N,as2 N,Tu N,trivial⟩
@[reducible] def wj:LD:=⟨518558,[66,65,12,41,42,43,64,13,1,15,4],[(.ret,[8,9]),(.exit 2,[43,4,1,13,42,41,12]),(.exit 1,[43,4,1,13,42,41,12]),(.exit 0,[12,13])],⟨[.int .i64,.int .i64,.adr 0 [],.sl 1,.int .i64,.int .i64,.sl 2,.sl 3,.int .i64,.adr 4 [],.adr 5 []],[.var 124 (.agg [.adr 6 [],.agg [.int .i64,.int .i64,.bool,.bool,.int .i64,.int .i64,.int .i64,.int .i64,.int .i64,.int .i64],.int .i64]),.row y1 126,.row (.int .i64) 3,.row (.int .i64) 3,.var 126 (.agg [.int .i64,.int .i64,.int .i64,.int .i64]),.var 43 (.agg [.int .i64,.int .i64,.bool,.bool,.int .i64,.int .i64,.int .i64,.int .i64,.int .i64,.int .i64]),.var 189 (.agg [.str,.int .i64,.int .i64])]⟩,[(.exit 2,⟨[.int .i64,.adr 0 [],.int .i64,.sl 1,.int .i64,.sl 2,.adr 3 []],[.var 43 (.agg [.int .i64,.int .i64,.bool,.bool,.int .i64,.int .i64,.int .i64,.int .i64,.int .i64,.int .i64]),.row (.int .i64) 3,.row y1 126,.var 124 (.agg [.adr 4 [],.agg [.int .i64,.int .i64,.bool,.bool,.int .i64,.int .i64,.int .i64,.int .i64,.int .i64,.int .i64],.int .i64]),.var 189 (.agg [.str,.int .i64,.int .i64])]⟩)]⟩
abbrev mX:Type:=Int×Int×Int×Int×Int×Int×Int×Bool×Bool×Int×Int×Int×Int×Int×Int×Int×(List (Int×(Int×(Int×(Int×Unit)))))×(List Int)×(List Int)×Int×Int×Int×Int×Int×Int×Bool×Bool×Int×Int×Int×Int×Int×Int×ByteArray×Int×Int
abbrev mP:Type:=Int×Int×Int×Int×Int×Bool×Bool×Int×Int×Int×Int×Int×Int×(List Int)×(List (Int×(Int×(Int×(Int×Unit)))))×Int×Int×Bool×Bool×Int×Int×Int×Int×Int×Int×Int×ByteArray×Int×Int
noncomputable def dR (N:Nat) (f:mX→Option mP):mX→Option mP
 | (x0,x1,x2,x3,x4,x5,x6,x7,x8,x9,x10,x11,x12,x13,x14,x15,x16,x17,x18,x19,x20,x21,x22,x23,x24,x25,x26,x27,x28,x29,x30,x31,x32,x33,x34,x35) =>
 ac (decide (x0<x1)) (
  ac (within x0 (List.length x17)) (
   Option.bind (x17[Int.toNat x0]?) fun y0 =>
   ac (decide (x21=(0:Int))) (
    none ) (
    ac (decide (x21=(0:Int))) (
     none ) (
     Option.bind (F85 N (x23,x24,x25,x26,x27,x28,x29,x30,x31,x32,y0)) fun y1 =>
     ac (within (IntKind.wrap IntKind.i64 (IntKind.wrap IntKind.i64 (IntKind.wrap IntKind.i64 (IntKind.wrap IntKind.i64 (x20+IntKind.wrap IntKind.i64 (Int.tdiv x0 x21))*x4)+x19)+Int.tmod x0 x21)) (List.length x18)) (
      Option.bind (x18[Int.toNat (IntKind.wrap IntKind.i64 (IntKind.wrap IntKind.i64 (IntKind.wrap IntKind.i64 (IntKind.wrap IntKind.i64 (x20+IntKind.wrap IntKind.i64 (Int.tdiv x0 x21))*x4)+x19)+Int.tmod x0 x21))]?) fun y2 =>
      Option.bind (f (IntKind.wrap IntKind.i64 (x0+(1:Int)),x1,x2,x3,x4,x5,x6,x7,x8,x9,x10,x11,x12,x13,x14,x15,x16,x17,List.set x18 (Int.toNat (IntKind.wrap IntKind.i64 (IntKind.wrap IntKind.i64 (IntKind.wrap IntKind.i64 (IntKind.wrap IntKind.i64 (x20+IntKind.wrap IntKind.i64 (Int.tdiv x0 x21))*x4)+x19)+Int.tmod x0 x21))) y1,x19,x20,x21,x22,x23,x24,x25,x26,x27,x28,x29,x30,x31,x32,x33,x34,x35)) fun r=>some r) (
      none )))) (
   none )) (
  some ((x3,x4,x2,x23,x24,x25,x26,x27,x28,x29,x30,x31,x32,x18,x16,x5,x6,x7,x8,x9,x10,x11,x12,x13,x14,x15,x33,x34,x35)))
noncomputable def bH (N:Nat):Nat→mX→Option mP
 | 0,_=>none
 | k+1,x=>dR N (bH N k) x
noncomputable def nj (N:Nat) (k:Nat):Cut:=wj.cut (bH N k)
theorem mj (N:Nat) (k:Nat):ak Tryz.prog false Tryz.f29 [] 518558 (nj N k) :=
 wj.loopT ag am (tg N) Tryz.f29 [] (cuts:=[]) trivial (by decide +kernel) (by kernel_rfl) (dR N) (bH N) (fun _=>rfl) (fun _ _=>rfl) (fun f x=>by kernel_rfl) k
@[reducible] def Mi:LD:=⟨506,[4,1,13,43,42,41,12],[(.ret,[8,9]),(.exit 0,[12,13])],⟨[.adr 0 [],.int .i64,.sl 1,.int .i64,.int .i64,.sl 2,.adr 3 []],[.var 43 (.agg [.int .i64,.int .i64,.bool,.bool,.int .i64,.int .i64,.int .i64,.int .i64,.int .i64,.int .i64]),.row (.int .i64) 3,.row y1 126,.var 124 (.agg [.adr 4 [],.agg [.int .i64,.int .i64,.bool,.bool,.int .i64,.int .i64,.int .i64,.int .i64,.int .i64,.int .i64],.int .i64]),.var 189 (.agg [.str,.int .i64,.int .i64])]⟩,[(.ret,⟨[.sl 0,.int .i64],[.row (.int .i64) 3]⟩),(.exit 0,⟨[.adr 0 [],.sl 1],[.var 124 (.agg [.adr 2 [],.agg [.int .i64,.int .i64,.bool,.bool,.int .i64,.int .i64,.int .i64,.int .i64,.int .i64,.int .i64],.int .i64]),.row (.int .i64) 3,.var 189 (.agg [.str,.int .i64,.int .i64])]⟩)]⟩
abbrev CY:Type:=Int×Int×Int×Int×Int×Bool×Bool×Int×Int×Int×Int×Int×Int×(List Int)×(List (Int×(Int×(Int×(Int×Unit)))))×Int×Int×Bool×Bool×Int×Int×Int×Int×Int×Int×Int×ByteArray×Int×Int
abbrev Cf:Type:=((Int×(List Int))⊕(Int×Int×Bool×Bool×Int×Int×Int×Int×Int×Int×Int×(List Int)×ByteArray×Int×Int))
noncomputable def jr (N:Nat) (f:CY→Option Cf):CY→Option Cf
 | (x0,x1,x2,x3,x4,x5,x6,x7,x8,x9,x10,x11,x12,x13,x14,x15,x16,x17,x18,x19,x20,x21,x22,x23,x24,x25,x26,x27,x28) =>
 ac (decide (x1<x2)) (
  ac (within x1 (List.length x14)) (
   Option.bind (x14[Int.toNat x1]?) fun y0 =>
   Option.bind (F83 N (x15,x16,x17,x18,x19,x20,x21,x22,x23,x24,x25,y0.2.2.1,y0.2.2.2.1,x26,x27,x28)) fun y1 =>
   ac (!y1.1) (
    some (.inl (((180:Int),[])))) (
    Option.bind (Vv N (y1.2.1,y1.2.2.1,y1.2.2.2.1,())) fun y2 =>
    ac (y2 != (0:Int)) (
     some (.inl (((180:Int),[])))) (
     Option.bind (bH N N ((0:Int),(↑(List.length y1.2.2.2.2):Int),x2,x1,x0,x15,x16,x17,x18,x19,x20,x21,x22,x23,x24,x25,x14,y1.2.2.2.2,x13,y0.1,y0.2.1,y0.2.2.1,y0.2.2.2.1,x3,x4,x5,x6,x7,x8,x9,x10,x11,x12,y1.2.1,y1.2.2.1,y1.2.2.2.1)) fun(y3_0,y3_1,y3_2,y3_3,y3_4,y3_5,y3_6,y3_7,y3_8,y3_9,y3_10,y3_11,y3_12,y3_13,y3_14,y3_15,y3_16,y3_17,y3_18,y3_19,y3_20,y3_21,y3_22,y3_23,y3_24,y3_25,y3_26,y3_27,y3_28) =>
     Option.bind (f (y3_1,IntKind.wrap IntKind.i64 (y3_0+(1:Int)),y3_2,y3_3,y3_4,y3_5,y3_6,y3_7,y3_8,y3_9,y3_10,y3_11,y3_12,y3_13,y3_14,y3_15,y3_16,y3_17,y3_18,y3_19,y3_20,y3_21,y3_22,y3_23,y3_24,y3_25,y3_26,y3_27,y3_28)) fun r=>match r with|.inl y=>some (.inl y)|.inr y=>some (.inr y)))) (
   none )) (
  some (.inr ((x15,x16,x17,x18,x19,x20,x21,x22,x23,x24,x25,x13,x26,x27,x28))))
noncomputable def cy (N:Nat):Nat→CY→Option Cf
 | 0,_=>none
 | k+1,x=>jr N (cy N k) x
noncomputable def M6 (N:Nat) (k:Nat):Cut:=Mi.cut (cy N k)
theorem J0 (N:Nat) (k:Nat):ak Tryz.prog false Tryz.f29 [] 506 (M6 N k) :=
 Mi.loopT ag am (tg N) Tryz.f29 [] (cuts:=[(518558,nj N N)]) ⟨mj N N,trivial⟩ (by decide +kernel) (by kernel_rfl) (jr N) (cy N) (fun _=>rfl) (fun _ _=>rfl) (fun f x=>by kernel_rfl) k
@[reducible] def w29:List SP:=[⟨[.tup [.sl 0,.int .i64]],[.row (.int .i64) 3]⟩]
noncomputable def Zy (N:Nat):(Int×Int×Bool×Bool×Int×Int×Int×Int×Int×Int×Int×Int×ByteArray)→Option (Int×(List Int))
 | (x0,x1,x2,x3,x4,x5,x6,x7,x8,x9,x10,x11,x12) =>
 Option.bind (YB N (x0,x1,x2,x3,x4,x5,x6,x7,x8,x9,x10,x11)) fun y0 =>
 ac (!y0) (
  some (((1:Int),[]))) (
  Option.bind (DK N (x0,x1,x2,x3,x4,x5,x6,x7,x8,x9)) fun y1 =>
  Option.bind (F81 N x12) fun y2 =>
  ac (decide ((0:Int)≤IntKind.wrap IntKind.i64 (x10*x11)∧IntKind.wrap IntKind.i64 (x10*x11)≤IntKind.wrap IntKind.i64 (x10*x11)∧IntKind.wrap IntKind.i64 (x10*x11)*(8:Int)≤(140737488355328:Int)∧IntKind.wrap IntKind.i64 (x10*x11)≤(140737488355328:Int))) (
   Option.bind (F82 N (x10,x11,(64:Int))) fun y3 =>
   Option.bind (cy N N (x10,(0:Int),(↑(List.length y3):Int),x0,x1,x2,x3,x4,x5,x6,x7,x8,x9,List.replicate (Int.toNat (IntKind.wrap IntKind.i64 (x10*x11))) (0:Int),y3,x0,x1,x2,x3,x4,x5,x6,x7,x8,x9,y1.1,y2.1,y2.2.1,y2.2.2)) fun y4 =>
   match y4 with
   | .inl y5 =>
    some ((y5.1,y5.2))
   | .inr (y5_0,y5_1,y5_2,y5_3,y5_4,y5_5,y5_6,y5_7,y5_8,y5_9,y5_10,y5_11,y5_12,y5_13,y5_14) =>
    Option.bind (F86 N (y5_12,y5_13,y5_14,())) fun y6 =>
    ac (decide (y6>(0:Int))) (
     some (((3:Int),[]))) (
     some (((0:Int),y5_11)))) (
   none ))
noncomputable def T29 (N:Nat):Pk→Tr Pk:=ah s29 w29 (Zy N)
theorem TH (N:Nat):av Tryz.prog (29) (T29 N) :=
 (af ag am (tg N) Tryz.func29 s29 w29 [] (cuts:=[(518558,nj N N),(506,M6 N N)]) ⟨mj N N,J0 N N,trivial⟩ (fun _=>by kernel_rfl) (by decide +kernel) (Zy N) (fun x=>by kernel_rfl))
@[reducible] def s31:SP:=⟨[.ro (.int .i64),.ro (.int .i64)],[]⟩
noncomputable def aH2 (N:Nat):List (Nat×(Pk→Tr Pk)):=[]
theorem D9 (N:Nat):ai Tryz.prog (aH2 N):=trivial
@[reducible] def Ub:LD:=⟨58,[0,1,5],[(.ret,[4]),(.exit 0,[])],⟨[.ro (.int .i64),.ro (.int .i64),.int .i64],[]⟩,[(.ret,⟨[.bool],[]⟩),(.exit 0,⟨[],[]⟩)]⟩
abbrev I7:Type:=(List Int)×(List Int)×Int
abbrev IU:Type:=((Bool)⊕(Unit))
noncomputable def qT (N:Nat) (f:I7→Option IU):I7→Option IU
 | (x0,x1,x2) =>
 ac (decide (x2<(↑(List.length x0):Int))) (
  ac (within x2 (List.length x0)) (
   Option.bind (x0[Int.toNat x2]?) fun y0 =>
   ac (within x2 (List.length x1)) (
    Option.bind (x1[Int.toNat x2]?) fun y1 =>
    ac (y0 != y1) (
     some (.inl (false))) (
     Option.bind (f (x0,x1,IntKind.wrap IntKind.i64 (x2+(1:Int)))) fun r=>match r with|.inl y=>some (.inl y)|.inr y=>some (.inr y))) (
    none )) (
   none )) (
  some (.inr (())))
noncomputable def kF (N:Nat):Nat→I7→Option IU
 | 0,_=>none
 | k+1,x=>qT N (kF N k) x
noncomputable def Vk (N:Nat) (k:Nat):Cut:=Ub.cut (kF N k)
theorem QZ (N:Nat) (k:Nat):ak Tryz.prog false Tryz.f31 [] 58 (Vk N k) :=
 Ub.loopT ag am (D9 N) Tryz.f31 [] (cuts:=[]) trivial (by decide +kernel) (by kernel_rfl) (qT N) (kF N) (fun _=>rfl) (fun _ _=>rfl) (fun f x=>by kernel_rfl) k
@[reducible] def w31:List SP:=[⟨[.bool],[]⟩]
noncomputable def UA (N:Nat):((List Int)×(List Int))→Option (Bool)
 | (x0,x1) =>
 ac ((↑(List.length x0):Int) != (↑(List.length x1):Int)) (
  some (false)) (
  Option.bind (kF N N (x0,x1,(0:Int))) fun y0 =>
  match y0 with
  | .inl y1 =>
   some (y1)
  | .inr y1 =>
   some (true))
noncomputable def T31 (N:Nat):Pk→Tr Pk:=ah s31 w31 (UA N)
theorem TG (N:Nat):av Tryz.prog (31) (T31 N) :=
 (af ag am (D9 N) Tryz.func31 s31 w31 [] (cuts:=[(58,Vk N N)]) ⟨QZ N N,trivial⟩ (fun _=>by kernel_rfl) (by decide +kernel) (UA N) (fun x=>by kernel_rfl))
@[reducible] def s152:SP:=⟨[.agg [.int .i64,.int .i64,.bool,.bool,.int .i64,.int .i64,.int .i64,.int .i64,.int .i64,.int .i64],.ro (.int .i64)],[]⟩
noncomputable def aj7 (N:Nat):List (Nat×(Pk→Tr Pk)):=[]
theorem Pg (N:Nat):ai Tryz.prog (aj7 N):=trivial
@[reducible] def w152:List SP:=[⟨[.clo 219 [.adr 0 [],.adr 1 []]],[.var 29 (.ro (.int .i64)),.var 43 (.agg [.int .i64,.int .i64,.bool,.bool,.int .i64,.int .i64,.int .i64,.int .i64,.int .i64,.int .i64])]⟩]
noncomputable def YX (N:Nat):(Int×Int×Bool×Bool×Int×Int×Int×Int×Int×Int×(List Int))→Option ((List Int)×Int×Int×Bool×Bool×Int×Int×Int×Int×Int×Int)
 | (x0,x1,x2,x3,x4,x5,x6,x7,x8,x9,x10) =>
 some ((x10,x0,x1,x2,x3,x4,x5,x6,x7,x8,x9))
noncomputable def aU5 (N:Nat):Pk→Tr Pk:=ah s152 w152 (YX N)
theorem XV (N:Nat):av Tryz.prog (152) (aU5 N) :=
 (af ag am (Pg N) Tryz.func152 s152 w152 [] (cuts:=[]) trivial (fun _=>by kernel_rfl) (by decide +kernel) (YX N) (fun x=>by kernel_rfl))
@[reducible] def s171:SP:=⟨[.agg [.int .i64,.int .i64,.bool,.bool,.int .i64,.int .i64,.int .i64,.int .i64,.int .i64,.int .i64],.int .i64],[]⟩
noncomputable def ai3 (N:Nat):List (Nat×(Pk→Tr Pk)):=[(39,T39 N),(95,T95 N)]
theorem yd (N:Nat):ai Tryz.prog (ai3 N):=⟨pS N,Bm N,trivial⟩
@[reducible] def FG:LD:=⟨122,[5,14,13,1],[(.ret,[4]),(.exit 0,[5])],⟨[.int .i64,.int .i64,.arr y0 3,.int .i64],[]⟩,[(.exit 0,⟨[.int .i64],[]⟩)]⟩
abbrev vW:Type:=Int×Int×(List (Int×(Int×Unit)))×Int
abbrev vf:Type:=Int
noncomputable def iC (N:Nat) (f:vW→Option vf):vW→Option vf
 | (x0,x1,x2,x3) =>
 ac (decide (x1<(3:Int))) (
  ac (within x1 (List.length x2)) (
   Option.bind (x2[Int.toNat x1]?) fun y0 =>
   ac (decide (IntKind.wrap IntKind.i64 ((8:Int)*IntKind.wrap IntKind.i64 ((2:Int)-x1))<(0:Int))) (
    none ) (
    ac (decide (y0.2.1<(0:Int))) (
     none ) (
     Option.bind (f (IntKind.wrap IntKind.i64 (↑(BitVec.toNat (BitVec.ofInt (64:Nat) x0 ||| BitVec.ofInt (64:Nat) (IntKind.wrap IntKind.i64 (IntKind.wrap IntKind.i64 (Int.tdiv (IntKind.wrap IntKind.i64 (IntKind.wrap IntKind.i64 (IntKind.wrap IntKind.i64 (↑(BitVec.toNat (BitVec.ofInt (64:Nat) (Int.fdiv x3 ((2:Int)^min (Int.toNat (IntKind.wrap IntKind.i64 ((8:Int)*IntKind.wrap IntKind.i64 ((2:Int)-x1)))) (64:Nat))) &&& BitVec.ofInt (64:Nat) (255:Int))):Int)*y0.1)+(127:Int))) (255:Int))*(2:Int)^min (Int.toNat y0.2.1) (64:Nat))))):Int),IntKind.wrap IntKind.i64 (x1+(1:Int)),x2,x3)) fun r=>some r))) (
   none )) (
  some (x0))
noncomputable def cb (N:Nat):Nat→vW→Option vf
 | 0,_=>none
 | k+1,x=>iC N (cb N k) x
noncomputable def G6 (N:Nat) (k:Nat):Cut:=FG.cut (cb N k)
theorem G5 (N:Nat) (k:Nat):ak Tryz.prog false Tryz.f171 [] 122 (G6 N k) :=
 FG.loopT ag am (yd N) Tryz.f171 [] (cuts:=[]) trivial (by decide +kernel) (by kernel_rfl) (iC N) (cb N) (fun _=>rfl) (fun _ _=>rfl) (fun f x=>by kernel_rfl) k
@[reducible] def w171:List SP:=[⟨[.int .i64],[]⟩]
noncomputable def UT (N:Nat):(Int×Int×Bool×Bool×Int×Int×Int×Int×Int×Int×Int)→Option (Int)
 | (x0,x1,x2,x3,x4,x5,x6,x7,x8,x9,x10) =>
 Option.bind (Vw N (x0,x1,x2,x3,x4,x5,x6,x7,x8,x9)) fun y0 =>
 ac (!y0) (
  some ((0:Int))) (
  Option.bind (Vu N (x0,x1,x2,x3,x4,x5,x6,x7,x8,x9)) fun y1 =>
  Option.bind (cb N N ((0:Int),(0:Int),y1,x10)) fun y2 =>
  some (y2))
noncomputable def aT5 (N:Nat):Pk→Tr Pk:=ah s171 w171 (UT N)
theorem XJ (N:Nat):av Tryz.prog (171) (aT5 N) :=
 (af ag am (yd N) Tryz.func171 s171 w171 [] (cuts:=[(122,G6 N N)]) ⟨G5 N N,trivial⟩ (fun _=>by kernel_rfl) (by decide +kernel) (UT N) (fun x=>by kernel_rfl))
@[reducible] def s91r58:SP:=⟨[.yv 0,.int .i64,.adr 1 []],[.lp 1678653710707569197114 [5] [.adr 1 []] 0,.var 29 (.sl 2),.row (.int .i64) 3]⟩
noncomputable def RB (N:Nat):List (Nat×(Pk→Tr Pk)):=[]
theorem DX (N:Nat):ai Tryz.prog (RB N):=trivial
@[reducible] def w91r58:List SP:=[⟨[.bc true],[.lp 1678653710707569197114 [5] [.adr 1 []] 0,.var 29 (.sl 2),.row (.int .i64) 3]⟩]
noncomputable def Df (N:Nat):(Int×(List Int))→Option ((List Int))
 | (x0,x1) =>
 ac (decide ((List.length x1+List.length [x0])*(8:Nat)≤(140737488355328:Nat)∧List.length x1+List.length [x0]≤(140737488355328:Nat))) (
  some (x1++[x0])) (
  none )
noncomputable def Tp (N:Nat):Pk→Tr Pk:=ah s91r58 w91r58 (Df N)
theorem Qm (N:Nat):av Tryz.prog (91*be+58) (Tp N) :=
 (Se ag am (DX N) Tryz.func91 58 s91r58 w91r58 [0,1,1] (cuts:=[]) trivial (fun _=>by kernel_rfl) (by decide +kernel) (Df N) (fun x=>by kernel_rfl))
@[reducible] def s219:SP:=⟨[.yv 0,.adr 1 [],.adr 2 []],[.lp 1678653710707569197114 [5] [.adr 3 []] 0,.var 29 (.ro (.int .i64)),.var 43 (.agg [.int .i64,.int .i64,.bool,.bool,.int .i64,.int .i64,.int .i64,.int .i64,.int .i64,.int .i64]),.var 29 (.sl 4),.row (.int .i64) 3]⟩
noncomputable def ag6 (N:Nat):List (Nat×(Pk→Tr Pk)):=[(171,aT5 N),(91*be+58,Tp N)]
theorem xY (N:Nat):ai Tryz.prog (ag6 N):=⟨XJ N,Qm N,trivial⟩
@[reducible] def Ue:LD:=⟨6,[7,6,0,2,8],[(.exit 0,[])],⟨[.int .i64,.ro (.int .i64),.yv 0,.adr 2 [],.int .i64],[.lp 1678653710707569197114 [5] [.adr 3 []] 0,.var 29 (.ro (.int .i64)),.var 43 (.agg [.int .i64,.int .i64,.bool,.bool,.int .i64,.int .i64,.int .i64,.int .i64,.int .i64,.int .i64]),.var 29 (.sl 4),.row (.int .i64) 3]⟩,[(.exit 0,⟨[],[.lp 1678653710707569197114 [5] [.adr 3 []] 0,.var 29 (.ro (.int .i64)),.var 43 (.agg [.int .i64,.int .i64,.bool,.bool,.int .i64,.int .i64,.int .i64,.int .i64,.int .i64,.int .i64]),.var 29 (.sl 4),.row (.int .i64) 3]⟩)]⟩
abbrev Ja:Type:=Int×(List Int)×Int×(List Int)×Int×Int×Bool×Bool×Int×Int×Int×Int×Int×Int×(List Int)
abbrev IX:Type:=(List Int)×Int×Int×Bool×Bool×Int×Int×Int×Int×Int×Int×(List Int)
noncomputable def qU (N:Nat) (f:Ja→Option IX):Ja→Option IX
 | (x0,x1,x2,x3,x4,x5,x6,x7,x8,x9,x10,x11,x12,x13,x14) =>
 ac (decide (x2<x0)) (
  ac (within x2 (List.length x1)) (
   Option.bind (x1[Int.toNat x2]?) fun y0 =>
   Option.bind (UT N (x4,x5,x6,x7,x8,x9,x10,x11,x12,x13,y0)) fun y1 =>
   Option.bind (Df N (y1,x14)) fun y2 =>
   Option.bind (f (x0,x1,IntKind.wrap IntKind.i64 (x2+(1:Int)),x3,x4,x5,x6,x7,x8,x9,x10,x11,x12,x13,y2)) fun r=>some r) (
   none )) (
  some ((x3,x4,x5,x6,x7,x8,x9,x10,x11,x12,x13,x14)))
noncomputable def jh (N:Nat):Nat→Ja→Option IX
 | 0,_=>none
 | k+1,x=>qU N (jh N k) x
noncomputable def Vn (N:Nat) (k:Nat):Cut:=Ue.cut (jh N k)
theorem Q2 (N:Nat) (k:Nat):ak Tryz.prog false Tryz.f219 [0,1,2,3] 6 (Vn N k) :=
 Ue.loopT ag am (xY N) Tryz.f219 [0,1,2,3] (cuts:=[]) trivial (by decide +kernel) (by kernel_rfl) (qU N) (jh N) (fun _=>rfl) (fun _ _=>rfl) (fun f x=>by kernel_rfl) k
@[reducible] def w219:List SP:=[⟨[.tup []],[.lp 1678653710707569197114 [5] [.adr 3 []] 0,.var 29 (.ro (.int .i64)),.var 43 (.agg [.int .i64,.int .i64,.bool,.bool,.int .i64,.int .i64,.int .i64,.int .i64,.int .i64,.int .i64]),.var 29 (.sl 4),.row (.int .i64) 3]⟩]
noncomputable def YS (N:Nat):((List Int)×Int×Int×Bool×Bool×Int×Int×Int×Int×Int×Int×(List Int))→Option ((List Int)×Int×Int×Bool×Bool×Int×Int×Int×Int×Int×Int×(List Int))
 | (x0,x1,x2,x3,x4,x5,x6,x7,x8,x9,x10,x11) =>
 Option.bind (jh N N ((↑(List.length x0):Int),x0,(0:Int),x0,x1,x2,x3,x4,x5,x6,x7,x8,x9,x10,x11)) fun(y0_0,y0_1,y0_2,y0_3,y0_4,y0_5,y0_6,y0_7,y0_8,y0_9,y0_10,y0_11) =>
 some ((y0_0,y0_1,y0_2,y0_3,y0_4,y0_5,y0_6,y0_7,y0_8,y0_9,y0_10,y0_11))
noncomputable def aS2 (N:Nat):Pk→Tr Pk:=ah s219 w219 (YS N)
theorem Xv (N:Nat):av Tryz.prog (219) (aS2 N) :=
 (af ag am (xY N) Tryz.func219 s219 w219 [0,1,2,3] (cuts:=[(6,Vn N N)]) ⟨Q2 N N,trivial⟩ (fun _=>by kernel_rfl) (by decide +kernel) (YS N) (fun x=>by kernel_rfl))
@[reducible] def s91:SP:=⟨[.agg [.int .i64,.int .i64,.bool,.bool,.int .i64,.int .i64,.int .i64,.int .i64,.int .i64,.int .i64],.ro (.int .i64)],[]⟩
noncomputable def aE7 (N:Nat):List (Nat×(Pk→Tr Pk)):=[(152,aU5 N),(219,aS2 N)]
theorem DY (N:Nat):ai Tryz.prog (aE7 N):=⟨XV N,Xv N,trivial⟩
@[reducible] def TQ:LD:=⟨58,[4,5,9],[(.ret,[4]),(.exit 0,[5]),(.normal,[5])],⟨[.sl 0,.adr 1 [],.clo 219 [.adr 2 [],.adr 3 []]],[.row (.int .i64) 3,.var 29 (.sl 4),.var 29 (.ro (.int .i64)),.var 43 (.agg [.int .i64,.int .i64,.bool,.bool,.int .i64,.int .i64,.int .i64,.int .i64,.int .i64,.int .i64]),.row (.int .i64) 3]⟩,[(.normal,⟨[.adr 0 []],[.var 29 (.sl 1),.row (.int .i64) 3]⟩)]⟩
noncomputable def Dh (N:Nat):((List Int)×(List Int)×Int×Int×Bool×Bool×Int×Int×Int×Int×Int×Int×(List Int))→Option ((List Int))
 | (x0,x1,x2,x3,x4,x5,x6,x7,x8,x9,x10,x11,x12) =>
 Option.bind (YS N (x1,x2,x3,x4,x5,x6,x7,x8,x9,x10,x11,x12)) fun(y0_0,y0_1,y0_2,y0_3,y0_4,y0_5,y0_6,y0_7,y0_8,y0_9,y0_10,y0_11) =>
 some (y0_11)
noncomputable def U8 (N:Nat) (_:Nat):Cut:=TQ.cut (Dh N)
theorem QQ (N:Nat) (k:Nat):ak Tryz.prog false Tryz.f91 [] 58 (U8 N k) :=
 TQ.rngT ag am (DY N) Tryz.func91 [] [5] (by decide +kernel) (Dh N) (fun x=>by kernel_rfl)
@[reducible] def w91:List SP:=[⟨[.sl 0],[.row (.int .i64) 3]⟩]
noncomputable def F91 (N:Nat):(Int×Int×Bool×Bool×Int×Int×Int×Int×Int×Int×(List Int))→Option ((List Int))
 | (x0,x1,x2,x3,x4,x5,x6,x7,x8,x9,x10) =>
 Option.bind (YX N (x0,x1,x2,x3,x4,x5,x6,x7,x8,x9,x10)) fun(y0_0,y0_1,y0_2,y0_3,y0_4,y0_5,y0_6,y0_7,y0_8,y0_9,y0_10) =>
 Option.bind (Dh N ([],y0_0,y0_1,y0_2,y0_3,y0_4,y0_5,y0_6,y0_7,y0_8,y0_9,y0_10,[])) fun y1 =>
 some (y1)
noncomputable def T91 (N:Nat):Pk→Tr Pk:=ah s91 w91 (F91 N)
theorem ar9 (N:Nat):av Tryz.prog (91) (T91 N) :=
 (af ag am (DY N) Tryz.func91 s91 w91 [] (cuts:=[(58,U8 N N)]) ⟨QQ N N,trivial⟩ (fun _=>by kernel_rfl) (by decide +kernel) (F91 N) (fun x=>by kernel_rfl))
@[reducible] def s153:SP:=⟨[.adr 0 [],.int .i64],[.var 200 (.agg [.sl 1,.mp 2]),.row (.int .i64) 3,.map (.int .i64) (.int .i64)]⟩
noncomputable def aj6 (N:Nat):List (Nat×(Pk→Tr Pk)):=[]
theorem Pf (N:Nat):ai Tryz.prog (aj6 N):=trivial
@[reducible] def w153:List SP:=[⟨[.int .i64],[.var 200 (.agg [.sl 1,.mp 2]),.row (.int .i64) 3,.map (.int .i64) (.int .i64)]⟩]
noncomputable def Js (N:Nat):(Int×(List Int)×(List (Int×Int)))→Option (Int×(List Int)×(List (Int×Int)))
 | (x0,x1,x2) =>
 ac (!jY (Ty.int IntKind.i64) x0 x2) (
  ac (decide ((List.length x1+List.length [x0])*(8:Nat)≤(140737488355328:Nat)∧List.length x1+List.length [x0]≤(140737488355328:Nat))) (
   some (((↑(List.length x1):Int),x1++[x0],dK (Ty.int IntKind.i64) x0 (↑(List.length x1):Int) x2))) (
   none )) (
  some ((gG (Ty.int IntKind.i64) x0 (0:Int) x2,x1,x2)))
noncomputable def XU (N:Nat):Pk→Tr Pk:=ah s153 w153 (Js N)
theorem Bw (N:Nat):av Tryz.prog (153) (XU N) :=
 (af ag am (Pf N) Tryz.func153 s153 w153 [0] (cuts:=[]) trivial (fun _=>by kernel_rfl) (by decide +kernel) (Js N) (fun x=>by kernel_rfl))
@[reducible] def s154:SP:=⟨[.int .i64],[]⟩
noncomputable def aj5 (N:Nat):List (Nat×(Pk→Tr Pk)):=[]
theorem Pe (N:Nat):ai Tryz.prog (aj5 N):=trivial
@[reducible] def w154:List SP:=[⟨[.str],[]⟩]
noncomputable def nc (N:Nat):(Int)→Option (ByteArray)
 | x0 =>
 some (aE [IntKind.wrap IntKind.u8 x0])
noncomputable def Qo (N:Nat):Pk→Tr Pk:=ah s154 w154 (nc N)
theorem og (N:Nat):av Tryz.prog (154) (Qo N) :=
 (af ag am (Pe N) Tryz.func154 s154 w154 [] (cuts:=[]) trivial (fun _=>by kernel_rfl) (by decide +kernel) (nc N) (fun x=>by kernel_rfl))
@[reducible] def s267:SP:=⟨[.agg [.int .i64,.int .i64,.bool,.bool,.int .i64,.int .i64,.int .i64,.int .i64,.int .i64,.int .i64],.int .i64,.int .i64],[]⟩
noncomputable def ae7 (N:Nat):List (Nat×(Pk→Tr Pk)):=[(231,aw3 N)]
theorem xR (N:Nat):ai Tryz.prog (ae7 N):=⟨Lt N,trivial⟩
@[reducible] def Mk:LD:=⟨58,[7,10,9,3,2],[(.ret,[6]),(.exit 0,[3,7])],⟨[.sl 0,.int .i64,.int .i64,.adr 1 [],.int .i64],[.row (.int .u8) 5,.var 43 (.agg [.int .i64,.int .i64,.bool,.bool,.int .i64,.int .i64,.int .i64,.int .i64,.int .i64,.int .i64])]⟩,[(.exit 0,⟨[.adr 0 [],.sl 1],[.var 43 (.agg [.int .i64,.int .i64,.bool,.bool,.int .i64,.int .i64,.int .i64,.int .i64,.int .i64,.int .i64]),.row (.int .u8) 5]⟩)]⟩
abbrev C0:Type:=Int×Int×Int×(List Int)×Int×Int×Bool×Bool×Int×Int×Int×Int×Int×Int
abbrev Ch:Type:=Int×Int×Bool×Bool×Int×Int×Int×Int×Int×Int×(List Int)
noncomputable def lV (N:Nat) (f:C0→Option Ch):C0→Option Ch
 | (x0,x1,x2,x3,x4,x5,x6,x7,x8,x9,x10,x11,x12,x13) =>
 ac (decide (x0<x1)) (
  ac (decide (IntKind.wrap IntKind.i64 ((8:Int)*x0)<(0:Int))) (
   none ) (
   ac (decide ((List.length x3+List.length [IntKind.wrap IntKind.u8 (Int.fdiv x2 ((2:Int)^min (Int.toNat (IntKind.wrap IntKind.i64 ((8:Int)*x0))) (64:Nat)))])*(1:Nat)≤(140737488355328:Nat)∧List.length x3+List.length [IntKind.wrap IntKind.u8 (Int.fdiv x2 ((2:Int)^min (Int.toNat (IntKind.wrap IntKind.i64 ((8:Int)*x0))) (64:Nat)))]≤(140737488355328:Nat))) (
    Option.bind (f (IntKind.wrap IntKind.i64 (x0+(1:Int)),x1,x2,x3++[IntKind.wrap IntKind.u8 (Int.fdiv x2 ((2:Int)^min (Int.toNat (IntKind.wrap IntKind.i64 ((8:Int)*x0))) (64:Nat)))],x4,x5,x6,x7,x8,x9,x10,x11,x12,x13)) fun r=>some r) (
    none ))) (
  some ((x4,x5,x6,x7,x8,x9,x10,x11,x12,x13,x3)))
noncomputable def eN (N:Nat):Nat→C0→Option Ch
 | 0,_=>none
 | k+1,x=>lV N (eN N k) x
noncomputable def M8 (N:Nat) (k:Nat):Cut:=Mk.cut (eN N k)
theorem J2 (N:Nat) (k:Nat):ak Tryz.prog false Tryz.f267 [] 58 (M8 N k) :=
 Mk.loopT ag am (xR N) Tryz.f267 [] (cuts:=[]) trivial (by decide +kernel) (by kernel_rfl) (lV N) (eN N) (fun _=>rfl) (fun _ _=>rfl) (fun f x=>by kernel_rfl) k
@[reducible] def w267:List SP:=[⟨[.str],[]⟩]
noncomputable def UE (N:Nat):(Int×Int×Bool×Bool×Int×Int×Int×Int×Int×Int×Int×Int)→Option (ByteArray)
 | (x0,x1,x2,x3,x4,x5,x6,x7,x8,x9,x10,x11) =>
 Option.bind (eN N N ((0:Int),x10,x11,[],x0,x1,x2,x3,x4,x5,x6,x7,x8,x9)) fun(y0_0,y0_1,y0_2,y0_3,y0_4,y0_5,y0_6,y0_7,y0_8,y0_9,y0_10) =>
 ac (y0_2) (
  Option.bind (oM N ((0:Nat),List.length y0_10,y0_10)) fun y1 =>
  some (aE y1)) (
  some (aE y0_10))
noncomputable def aR0 (N:Nat):Pk→Tr Pk:=ah s267 w267 (UE N)
theorem Xh (N:Nat):av Tryz.prog (267) (aR0 N) :=
 (af ag am (xR N) Tryz.func267 s267 w267 [] (cuts:=[(58,M8 N N)]) ⟨J2 N N,trivial⟩ (fun _=>by kernel_rfl) (by decide +kernel) (UE N) (fun x=>by kernel_rfl))
@[reducible] def s220:SP:=⟨[.agg [.int .i64,.int .i64,.bool,.bool,.int .i64,.int .i64,.int .i64,.int .i64,.int .i64,.int .i64],.int .i64],[]⟩
noncomputable def ag5 (N:Nat):List (Nat×(Pk→Tr Pk)):=[(37,T37 N),(97,T97 N),(267,aR0 N)]
theorem OW (N:Nat):ai Tryz.prog (ag5 N):=⟨uz N,Tn N,Xh N,trivial⟩
@[reducible] def w220:List SP:=[⟨[.str],[]⟩]
noncomputable def QG (N:Nat):(Int×Int×Bool×Bool×Int×Int×Int×Int×Int×Int×Int)→Option (ByteArray)
 | (x0,x1,x2,x3,x4,x5,x6,x7,x8,x9,x10) =>
 Option.bind (DK N (x0,x1,x2,x3,x4,x5,x6,x7,x8,x9)) fun y0 =>
 Option.bind (Zw N (x0,x1,x2,x3,x4,x5,x6,x7,x8,x9)) fun y1 =>
 ac (decide (IntKind.wrap IntKind.i64 ((8:Int)*y1)<(0:Int))) (
  none ) (
  ac (decide (y0.2<(0:Int))) (
   none ) (
   Option.bind (UE N (x0,x1,x2,x3,x4,x5,x6,x7,x8,x9,y0.1,Int.fdiv (IntKind.wrap IntKind.i64 (↑(BitVec.toNat (BitVec.ofInt (64:Nat) x10 &&& BitVec.ofInt (64:Nat) (IntKind.wrap IntKind.i64 (IntKind.wrap IntKind.i64 ((1:Int)*(2:Int)^min (Int.toNat (IntKind.wrap IntKind.i64 ((8:Int)*y1))) (64:Nat))-(1:Int))))):Int)) ((2:Int)^min (Int.toNat y0.2) (64:Nat)))) fun y2 =>
   some (y2)))
noncomputable def aS1 (N:Nat):Pk→Tr Pk:=ah s220 w220 (QG N)
theorem Xu (N:Nat):av Tryz.prog (220) (aS1 N) :=
 (af ag am (OW N) Tryz.func220 s220 w220 [] (cuts:=[]) trivial (fun _=>by kernel_rfl) (by decide +kernel) (QG N) (fun x=>by kernel_rfl))
@[reducible] def s122:SP:=⟨[.adr 0 []],[.var 95 (.agg [.nilp,.sl 1]),.row (.int .u8) 5]⟩
noncomputable def al5 (N:Nat):List (Nat×(Pk→Tr Pk)):=[]
theorem Pu (N:Nat):ai Tryz.prog (al5 N):=trivial
@[reducible] def w122:List SP:=[⟨[.tup []],[.var 95 (.agg [.adr 0 [],.sl 1]),.row (.int .u8) 5]⟩]
noncomputable def U6 (N:Nat):((List Int))→Option ((List Int))
 | x0 =>
 some (x0)
noncomputable def aV6 (N:Nat):Pk→Tr Pk:=ah s122 w122 (U6 N)
theorem Yb (N:Nat):av Tryz.prog (122) (aV6 N) :=
 (af ag am (Pu N) Tryz.func122 s122 w122 [0] (cuts:=[]) trivial (fun _=>by kernel_rfl) (by decide +kernel) (U6 N) (fun x=>by kernel_rfl))
@[reducible] def s62:SP:=⟨[.adr 0 [],.str],[.var 95 (.agg [.nilp,.sl 1]),.row (.int .u8) 5]⟩
noncomputable def aG2 (N:Nat):List (Nat×(Pk→Tr Pk)):=[(122,aV6 N)]
theorem RJ (N:Nat):ai Tryz.prog (aG2 N):=⟨Yb N,trivial⟩
@[reducible] def w62:List SP:=[⟨[.tup [.int .i64,.nili]],[.var 95 (.agg [.adr 0 [],.sl 1]),.row (.int .u8) 5]⟩]
noncomputable def F62 (N:Nat):(ByteArray×(List Int))→Option (Int×(List Int))
 | (x0,x1) =>
 Option.bind (U6 N x1) fun y0 =>
 ac (decide ((List.length y0+List.length (bytesOf x0))*(1:Nat)≤(140737488355328:Nat)∧List.length y0+List.length (bytesOf x0)≤(140737488355328:Nat))) (
  some (((↑(ByteArray.size x0):Int),y0++bytesOf x0))) (
  none )
noncomputable def T62 (N:Nat):Pk→Tr Pk:=ah s62 w62 (F62 N)
theorem Tv (N:Nat):av Tryz.prog (62) (T62 N) :=
 (af ag am (RJ N) Tryz.func62 s62 w62 [0] (cuts:=[]) trivial (fun _=>by kernel_rfl) (by decide +kernel) (F62 N) (fun x=>by kernel_rfl))
@[reducible] def s122a:SP:=⟨[.adr 0 []],[.var 95 (.agg [.adr 0 [],.sl 1]),.row (.int .u8) 5]⟩
noncomputable def VG (N:Nat):List (Nat×(Pk→Tr Pk)):=[]
theorem HX (N:Nat):ai Tryz.prog (VG N):=trivial
@[reducible] def w122a:List SP:=[⟨[.tup []],[.var 95 (.agg [.adr 0 [],.sl 1]),.row (.int .u8) 5]⟩]
noncomputable def Gn (N:Nat):((List Int))→Option ((List Int))
 | x0 =>
 some (x0)
noncomputable def Zs (N:Nat):Pk→Tr Pk:=ah s122a w122a (Gn N)
theorem TM (N:Nat):av Tryz.prog (122) (Zs N) :=
 (af ag am (HX N) Tryz.func122 s122a w122a [0,0] (cuts:=[]) trivial (fun _=>by kernel_rfl) (by decide +kernel) (Gn N) (fun x=>by kernel_rfl))
@[reducible] def s62a:SP:=⟨[.adr 0 [],.str],[.var 95 (.agg [.adr 0 [],.sl 1]),.row (.int .u8) 5]⟩
noncomputable def ZB (N:Nat):List (Nat×(Pk→Tr Pk)):=[(122,Zs N)]
theorem NY (N:Nat):ai Tryz.prog (ZB N):=⟨TM N,trivial⟩
@[reducible] def w62a:List SP:=[⟨[.tup [.int .i64,.nili]],[.var 95 (.agg [.adr 0 [],.sl 1]),.row (.int .u8) 5]⟩]
noncomputable def Qr (N:Nat):(ByteArray×(List Int))→Option (Int×(List Int))
 | (x0,x1) =>
 Option.bind (Gn N x1) fun y0 =>
 ac (decide ((List.length y0+List.length (bytesOf x0))*(1:Nat)≤(140737488355328:Nat)∧List.length y0+List.length (bytesOf x0)≤(140737488355328:Nat))) (
  some (((↑(ByteArray.size x0):Int),y0++bytesOf x0))) (
  none )
noncomputable def as9 (N:Nat):Pk→Tr Pk:=ah s62a w62a (Qr N)
theorem K4 (N:Nat):av Tryz.prog (62) (as9 N) :=
 (af ag am (NY N) Tryz.func62 s62a w62a [0,0] (cuts:=[]) trivial (fun _=>by kernel_rfl) (by decide +kernel) (Qr N) (fun x=>by kernel_rfl))
@[reducible] def s155:SP:=⟨[.agg [.agg [.int .i64,.int .i64,.bool,.bool,.int .i64,.int .i64,.int .i64,.int .i64,.int .i64,.int .i64]],.ro (.int .i64)],[]⟩
noncomputable def aj4 (N:Nat):List (Nat×(Pk→Tr Pk)):=[(220,aS1 N),(62,VU s62.I (T62 N) (as9 N))]
theorem pf (N:Nat):ai Tryz.prog (aj4 N):=⟨Xu N,mC (Tv N) (K4 N),trivial⟩
@[reducible] def fH:LD:=⟨58,[10,9,8,2,5],[(.ret,[4]),(.exit 0,[5])],⟨[.int .i64,.int .i64,.ro (.int .i64),.adr 0 [],.adr 1 []],[.var 140 (.agg [.agg [.int .i64,.int .i64,.bool,.bool,.int .i64,.int .i64,.int .i64,.int .i64,.int .i64,.int .i64]]),.var 95 (.agg [.adr 1 [],.sl 2]),.row (.int .u8) 5]⟩,[(.exit 0,⟨[.adr 0 []],[.var 95 (.agg [.adr 0 [],.sl 1]),.row (.int .u8) 5]⟩),(.exit 0,⟨[.adr 0 []],[.var 95 (.agg [.nilp,.sl 1]),.row (.int .u8) 5]⟩)]⟩
abbrev vZ:Type:=Int×Int×(List Int)×Int×Int×Bool×Bool×Int×Int×Int×Int×Int×Int×(List Int)
abbrev vj:Type:=(((List Int))⊕((List Int)))
noncomputable def fU (N:Nat) (f:vZ→Option vj):vZ→Option vj
 | (x0,x1,x2,x3,x4,x5,x6,x7,x8,x9,x10,x11,x12,x13) =>
 ac (decide (x0<x1)) (
  ac (within x0 (List.length x2)) (
   Option.bind (x2[Int.toNat x0]?) fun y0 =>
   Option.bind (QG N (x3,x4,x5,x6,x7,x8,x9,x10,x11,x12,y0)) fun y1 =>
   Option.bind (Qr N (y1,x13)) fun y2 =>
   Option.bind (f (IntKind.wrap IntKind.i64 (x0+(1:Int)),x1,x2,x3,x4,x5,x6,x7,x8,x9,x10,x11,x12,y2.2)) fun r=>match r with|.inl y=>some (.inl y)|.inr y=>some (.inr y)) (
   none )) (
  some (.inl (x13)))
noncomputable def cq (N:Nat):Nat→vZ→Option vj
 | 0,_=>none
 | k+1,x=>fU N (cq N k) x
noncomputable def wO (N:Nat) (k:Nat):Cut:=fH.cut (cq N k)
theorem rG (N:Nat) (k:Nat):ak Tryz.prog false Tryz.f155 [] 58 (wO N k) :=
 fH.loopT ag am (pf N) Tryz.f155 [] (cuts:=[]) trivial (by decide +kernel) (by kernel_rfl) (fU N) (cq N) (fun _=>rfl) (fun _ _=>rfl) (fun f x=>by kernel_rfl) k
@[reducible] def Mu:LD:=⟨58,fH.live,fH.out,⟨[.int .i64,.int .i64,.ro (.int .i64),.adr 0 [],.adr 1 []],[.var 140 (.agg [.agg [.int .i64,.int .i64,.bool,.bool,.int .i64,.int .i64,.int .i64,.int .i64,.int .i64,.int .i64]]),.var 95 (.agg [.nilp,.sl 2]),.row (.int .u8) 5]⟩,fH.w⟩
noncomputable def sU (N:Nat) (f:(Int×Int×(List Int)×Int×Int×Bool×Bool×Int×Int×Int×Int×Int×Int×(List Int))→Option ((((List Int))⊕((List Int))))):(Int×Int×(List Int)×Int×Int×Bool×Bool×Int×Int×Int×Int×Int×Int×(List Int))→Option ((((List Int))⊕((List Int))))
 | (x0,x1,x2,x3,x4,x5,x6,x7,x8,x9,x10,x11,x12,x13) =>
 ac (decide (x0<x1)) (
  ac (within x0 (List.length x2)) (
   Option.bind (x2[Int.toNat x0]?) fun y0 =>
   Option.bind (QG N (x3,x4,x5,x6,x7,x8,x9,x10,x11,x12,y0)) fun y1 =>
   Option.bind (F62 N (y1,x13)) fun y2 =>
   Option.bind (f (IntKind.wrap IntKind.i64 (x0+(1:Int)),x1,x2,x3,x4,x5,x6,x7,x8,x9,x10,x11,x12,y2.2)) fun r=>match r with|.inl y=>some (.inl y)|.inr y=>some (.inr y)) (
   none )) (
  some (.inr (x13)))
noncomputable def Dt (N:Nat) (k:Nat):(Int×Int×(List Int)×Int×Int×Bool×Bool×Int×Int×Int×Int×Int×Int×(List Int))→Option ((((List Int))⊕((List Int)))):=sU N (cq N k)
noncomputable def Nk (N:Nat) (k:Nat):Cut:=Mu.cut (Dt N k)
theorem Kc (N:Nat) (k:Nat):ak Tryz.prog false Tryz.f155 [] 58 (Nk N k) :=
 Mu.loop2T ag am (pf N) fH.s Tryz.f155 [] (cuts:=[(58,wO N N)]) ⟨rG N N,trivial⟩ (by decide +kernel) (by kernel_rfl) (sU N) (fU N) (cq N) (fun _=>rfl) (fun _ _=>rfl) (fun f g x=>by kernel_rfl) (fun f g x=>by kernel_rfl) k
@[reducible] def w155:List SP:=[⟨[.str],[]⟩]
noncomputable def xm (N:Nat):(Int×Int×Bool×Bool×Int×Int×Int×Int×Int×Int×(List Int))→Option (ByteArray)
 | (x0,x1,x2,x3,x4,x5,x6,x7,x8,x9,x10) =>
 Option.bind (Dt N N ((0:Int),(↑(List.length x10):Int),x10,x0,x1,x2,x3,x4,x5,x6,x7,x8,x9,[])) fun y0 =>
 match y0 with
 | .inl y1 =>
  ac (decide ((0:Nat)<List.length y1∧List.length y1≤(140737488355328:Nat))) (
   some (aE y1)) (
   ac (decide (List.length y1=(0:Nat))) (
    some (ByteArray.empty)) (
    none ))
 | .inr y1 =>
  ac (decide ((0:Nat)<List.length y1∧List.length y1≤(140737488355328:Nat))) (
   some (aE y1)) (
   ac (decide (List.length y1=(0:Nat))) (
    some (ByteArray.empty)) (
    none ))
noncomputable def TK (N:Nat):Pk→Tr Pk:=ah s155 w155 (xm N)
theorem si (N:Nat):av Tryz.prog (155) (TK N) :=
 (af ag am (pf N) Tryz.func155 s155 w155 [] (cuts:=[(58,DG fH.s.I (wO N N) (Nk N N))]) ⟨fun c' h=>cA (rG N N c' h) (Kc N N c' h) rfl rfl,trivial⟩ (fun _=>by kernel_rfl) (by decide +kernel) (xm N) (fun x=>by kernel_rfl))
@[reducible] def s156:SP:=⟨[.ro (.int .i64)],[]⟩
noncomputable def aj3 (N:Nat):List (Nat×(Pk→Tr Pk)):=[]
theorem yh (N:Nat):ai Tryz.prog (aj3 N):=trivial
@[reducible] def Mt:LD:=⟨58,[9,8,7,3],[(.ret,[2]),(.exit 0,[3])],⟨[.int .i64,.int .i64,.ro (.int .i64),.sl 0],[.row y0 245]⟩,[(.exit 0,⟨[.sl 0],[.row y0 245]⟩)]⟩
abbrev C8:Type:=Int×Int×(List Int)×(List (Int×(Int×Unit)))
abbrev Cp:Type:=(List (Int×(Int×Unit)))
noncomputable def l4 (N:Nat) (f:C8→Option Cp):C8→Option Cp
 | (x0,x1,x2,x3) =>
 ac (decide (x0<x1)) (
  ac (within x0 (List.length x2)) (
   Option.bind (x2[Int.toNat x0]?) fun y0 =>
   ac (decide ((↑(List.length x3):Int)>(0:Int))) (
    ac (within (IntKind.wrap IntKind.i64 ((↑(List.length x3):Int)-(1:Int))) (List.length x3)) (
     Option.bind (x3[Int.toNat (IntKind.wrap IntKind.i64 ((↑(List.length x3):Int)-(1:Int)))]?) fun y1 =>
     ac (y1.1==y0) (
      ac (within (IntKind.wrap IntKind.i64 ((↑(List.length x3):Int)-(1:Int))) (List.length x3)) (
       Option.bind (x3[Int.toNat (IntKind.wrap IntKind.i64 ((↑(List.length x3):Int)-(1:Int)))]?) fun y2 =>
       ac (within (IntKind.wrap IntKind.i64 ((↑(List.length x3):Int)-(1:Int))) (List.length x3)) (
        Option.bind (x3[Int.toNat (IntKind.wrap IntKind.i64 ((↑(List.length x3):Int)-(1:Int)))]?) fun y3 =>
        Option.bind (f (IntKind.wrap IntKind.i64 (x0+(1:Int)),x1,x2,List.set x3 (Int.toNat (IntKind.wrap IntKind.i64 ((↑(List.length x3):Int)-(1:Int)))) (y3.1,IntKind.wrap IntKind.i64 (y2.2.1+(1:Int)),()))) fun r=>some r) (
        none )) (
       none )) (
      ac (decide ((List.length x3+List.length [(y0,(1:Int),())])*(16:Nat)≤(140737488355328:Nat)∧List.length x3+List.length [(y0,(1:Int),())]≤(140737488355328:Nat))) (
       Option.bind (f (IntKind.wrap IntKind.i64 (x0+(1:Int)),x1,x2,x3++[(y0,(1:Int),())])) fun r=>some r) (
       none ))) (
     none )) (
    ac (decide ((List.length x3+List.length [(y0,(1:Int),())])*(16:Nat)≤(140737488355328:Nat)∧List.length x3+List.length [(y0,(1:Int),())]≤(140737488355328:Nat))) (
     Option.bind (f (IntKind.wrap IntKind.i64 (x0+(1:Int)),x1,x2,x3++[(y0,(1:Int),())])) fun r=>some r) (
     none ))) (
   none )) (
  some (x3))
noncomputable def eR (N:Nat):Nat→C8→Option Cp
 | 0,_=>none
 | k+1,x=>l4 N (eR N k) x
noncomputable def Nj (N:Nat) (k:Nat):Cut:=Mt.cut (eR N k)
theorem Kb (N:Nat) (k:Nat):ak Tryz.prog false Tryz.f156 [] 58 (Nj N k) :=
 Mt.loopT ag am (yh N) Tryz.f156 [] (cuts:=[]) trivial (by decide +kernel) (by kernel_rfl) (l4 N) (eR N) (fun _=>rfl) (fun _ _=>rfl) (fun f x=>by kernel_rfl) k
@[reducible] def w156:List SP:=[⟨[.sl 0],[.row y0 245]⟩]
noncomputable def UZ (N:Nat):((List Int))→Option ((List (Int×(Int×Unit))))
 | x0 =>
 Option.bind (eR N N ((0:Int),(↑(List.length x0):Int),x0,[])) fun y0 =>
 some (y0)
noncomputable def aU4 (N:Nat):Pk→Tr Pk:=ah s156 w156 (UZ N)
theorem XS (N:Nat):av Tryz.prog (156) (aU4 N) :=
 (af ag am (yh N) Tryz.func156 s156 w156 [] (cuts:=[(58,Nj N N)]) ⟨Kb N N,trivial⟩ (fun _=>by kernel_rfl) (by decide +kernel) (UZ N) (fun x=>by kernel_rfl))
@[reducible] def s221:SP:=⟨[.int .i64],[]⟩
noncomputable def ag4 (N:Nat):List (Nat×(Pk→Tr Pk)):=[(154,Qo N)]
theorem OV (N:Nat):ai Tryz.prog (ag4 N):=⟨og N,trivial⟩
@[reducible] def w221:List SP:=[⟨[.str],[]⟩]
noncomputable def QF (N:Nat):(Int)→Option (ByteArray)
 | x0 =>
 ac (decide ((0:Int)≤IntKind.wrap IntKind.i64 (Int.tdiv (IntKind.wrap IntKind.i64 (x0-(1:Int))) (255:Int))∧IntKind.wrap IntKind.i64 (Int.tdiv (IntKind.wrap IntKind.i64 (x0-(1:Int))) (255:Int))≤(9223372036854775807:Int)∧(1:Nat)*Int.toNat (IntKind.wrap IntKind.i64 (Int.tdiv (IntKind.wrap IntKind.i64 (x0-(1:Int))) (255:Int)))≤(140737488355328:Nat))) (
  Option.bind (nc N (Int.tmod (IntKind.wrap IntKind.i64 (x0-(1:Int))) (255:Int))) fun y0 =>
  ac (decide ((↑(ByteArray.size (PH (ByteArray.mk #[(255:UInt8)]) (IntKind.wrap IntKind.i64 (Int.tdiv (IntKind.wrap IntKind.i64 (x0-(1:Int))) (255:Int))))+ByteArray.size y0):Int)>(9223372036854775807:Int))) (
   none ) (
   some (PH (ByteArray.mk #[(255:UInt8)]) (IntKind.wrap IntKind.i64 (Int.tdiv (IntKind.wrap IntKind.i64 (x0-(1:Int))) (255:Int)))++y0))) (
  none )
noncomputable def aw6 (N:Nat):Pk→Tr Pk:=ah s221 w221 (QF N)
theorem Lw (N:Nat):av Tryz.prog (221) (aw6 N) :=
 (af ag am (OV N) Tryz.func221 s221 w221 [] (cuts:=[]) trivial (fun _=>by kernel_rfl) (by decide +kernel) (QF N) (fun x=>by kernel_rfl))
@[reducible] def s157:SP:=⟨[.agg [.agg [.int .i64,.int .i64,.bool,.bool,.int .i64,.int .i64,.int .i64,.int .i64,.int .i64,.int .i64]],.ro y0],[]⟩
noncomputable def aj2 (N:Nat):List (Nat×(Pk→Tr Pk)):=[(154,Qo N),(155,TK N),(221,aw6 N)]
theorem yg (N:Nat):ai Tryz.prog (aj2 N):=⟨og N,si N,Lw N,trivial⟩
@[reducible] def Ms:LD:=⟨58,[5,11,10,9,2],[(.ret,[4]),(.exit 0,[5])],⟨[.str,.int .i64,.int .i64,.ro y0,.adr 0 []],[.var 140 (.agg [.agg [.int .i64,.int .i64,.bool,.bool,.int .i64,.int .i64,.int .i64,.int .i64,.int .i64,.int .i64]])]⟩,[(.exit 0,⟨[.str],[]⟩)]⟩
abbrev C7:Type:=ByteArray×Int×Int×(List (Int×(Int×Unit)))×Int×Int×Bool×Bool×Int×Int×Int×Int×Int×Int
abbrev Co:Type:=ByteArray
noncomputable def l3 (N:Nat) (f:C7→Option Co):C7→Option Co
 | (x0,x1,x2,x3,x4,x5,x6,x7,x8,x9,x10,x11,x12,x13) =>
 ac (decide (x1<x2)) (
  ac (within x1 (List.length x3)) (
   Option.bind (x3[Int.toNat x1]?) fun y0 =>
   Option.bind (xm N (x4,x5,x6,x7,x8,x9,x10,x11,x12,x13,[y0.1])) fun y1 =>
   Option.bind (QF N y0.2.1) fun y2 =>
   ac (decide ((↑(ByteArray.size y1+ByteArray.size y2):Int)>(9223372036854775807:Int))) (
    none ) (
    ac (decide ((↑(ByteArray.size x0+ByteArray.size (y1++y2)):Int)>(9223372036854775807:Int))) (
     none ) (
     Option.bind (f (x0++(y1++y2),IntKind.wrap IntKind.i64 (x1+(1:Int)),x2,x3,x4,x5,x6,x7,x8,x9,x10,x11,x12,x13)) fun r=>some r))) (
   none )) (
  some (x0))
noncomputable def eQ (N:Nat):Nat→C7→Option Co
 | 0,_=>none
 | k+1,x=>l3 N (eQ N k) x
noncomputable def Ni (N:Nat) (k:Nat):Cut:=Ms.cut (eQ N k)
theorem Ka (N:Nat) (k:Nat):ak Tryz.prog false Tryz.f157 [] 58 (Ni N k) :=
 Ms.loopT ag am (yg N) Tryz.f157 [] (cuts:=[]) trivial (by decide +kernel) (by kernel_rfl) (l3 N) (eQ N) (fun _=>rfl) (fun _ _=>rfl) (fun f x=>by kernel_rfl) k
@[reducible] def w157:List SP:=[⟨[.str],[]⟩]
noncomputable def UY (N:Nat):(Int×Int×Bool×Bool×Int×Int×Int×Int×Int×Int×(List (Int×(Int×Unit))))→Option (ByteArray)
 | (x0,x1,x2,x3,x4,x5,x6,x7,x8,x9,x10) =>
 Option.bind (nc N (128:Int)) fun y0 =>
 Option.bind (eQ N N (y0,(0:Int),(↑(List.length x10):Int),x10,x0,x1,x2,x3,x4,x5,x6,x7,x8,x9)) fun y1 =>
 some (y1)
noncomputable def aU3 (N:Nat):Pk→Tr Pk:=ah s157 w157 (UY N)
theorem XR (N:Nat):av Tryz.prog (157) (aU3 N) :=
 (af ag am (yg N) Tryz.func157 s157 w157 [] (cuts:=[(58,Ni N N)]) ⟨Ka N N,trivial⟩ (fun _=>by kernel_rfl) (by decide +kernel) (UY N) (fun x=>by kernel_rfl))
@[reducible] def s310:SP:=⟨[.int .i64],[]⟩
noncomputable def ad3 (N:Nat):List (Nat×(Pk→Tr Pk)):=[]
theorem OB (N:Nat):ai Tryz.prog (ad3 N):=trivial
@[reducible] def w310:List SP:=[⟨[.int .i64],[]⟩]
noncomputable def Jh (N:Nat):(Int)→Option (Int)
 | x0 =>
 some (if (32:Int)<if (0:Int)>x0 then (0:Int) else x0 then (32:Int) else if (0:Int)>x0 then (0:Int) else x0)
noncomputable def W6 (N:Nat):Pk→Tr Pk:=ah s310 w310 (Jh N)
theorem Br (N:Nat):av Tryz.prog (310) (W6 N) :=
 (af ag am (OB N) Tryz.func310 s310 w310 [] (cuts:=[]) trivial (fun _=>by kernel_rfl) (by decide +kernel) (Jh N) (fun x=>by kernel_rfl))
@[reducible] def s311:SP:=⟨[.int .i64,.int .i64],[]⟩
noncomputable def ad2 (N:Nat):List (Nat×(Pk→Tr Pk)):=[]
theorem OA (N:Nat):ai Tryz.prog (ad2 N):=trivial
@[reducible] def w311:List SP:=[⟨[.int .i64],[]⟩]
noncomputable def Qy (N:Nat):(Int×Int)→Option (Int)
 | (x0,x1) =>
 ac (decide (x0<(0:Int))) (
  none ) (
  some (IntKind.wrap IntKind.i64 (↑(BitVec.toNat (BitVec.ofInt (64:Nat) x1 &&& BitVec.ofInt (64:Nat) (IntKind.wrap IntKind.i64 (IntKind.wrap IntKind.i64 ((1:Int)*(2:Int)^min (Int.toNat x0) (64:Nat))-(1:Int))))):Int)))
noncomputable def av7 (N:Nat):Pk→Tr Pk:=ah s311 w311 (Qy N)
theorem Lq (N:Nat):av Tryz.prog (311) (av7 N) :=
 (af ag am (OA N) Tryz.func311 s311 w311 [] (cuts:=[]) trivial (fun _=>by kernel_rfl) (by decide +kernel) (Qy N) (fun x=>by kernel_rfl))
@[reducible] def s334:SP:=⟨[.int .u64],[]⟩
noncomputable def ac2 (N:Nat):List (Nat×(Pk→Tr Pk)):=[]
theorem Ot (N:Nat):ai Tryz.prog (ac2 N):=trivial
@[reducible] def w334:List SP:=[⟨[.int .u64],[]⟩]
noncomputable def az7 (N:Nat):(Int)→Option (Int)
 | x0 =>
 some (IntKind.wrap IntKind.u64 (↑(BitVec.toNat (BitVec.ofInt (64:Nat) (Int.fdiv (IntKind.wrap IntKind.u64 (↑(BitVec.toNat (BitVec.ofInt (64:Nat) (IntKind.wrap IntKind.u64 (↑(BitVec.toNat (BitVec.ofInt (64:Nat) (Int.fdiv (IntKind.wrap IntKind.u64 (↑(BitVec.toNat (BitVec.ofInt (64:Nat) (IntKind.wrap IntKind.u64 (↑(BitVec.toNat (BitVec.ofInt (64:Nat) (Int.fdiv x0 (256:Int)) &&& BitVec.ofInt (64:Nat) (71777214294589695:Int))):Int)) ||| BitVec.ofInt (64:Nat) (IntKind.wrap IntKind.u64 (IntKind.wrap IntKind.u64 (↑(BitVec.toNat (BitVec.ofInt (64:Nat) x0 &&& BitVec.ofInt (64:Nat) (71777214294589695:Int))):Int)*(256:Int))))):Int)) (65536:Int)) &&& BitVec.ofInt (64:Nat) (281470681808895:Int))):Int)) ||| BitVec.ofInt (64:Nat) (IntKind.wrap IntKind.u64 (IntKind.wrap IntKind.u64 (↑(BitVec.toNat (BitVec.ofInt (64:Nat) (IntKind.wrap IntKind.u64 (↑(BitVec.toNat (BitVec.ofInt (64:Nat) (IntKind.wrap IntKind.u64 (↑(BitVec.toNat (BitVec.ofInt (64:Nat) (Int.fdiv x0 (256:Int)) &&& BitVec.ofInt (64:Nat) (71777214294589695:Int))):Int)) ||| BitVec.ofInt (64:Nat) (IntKind.wrap IntKind.u64 (IntKind.wrap IntKind.u64 (↑(BitVec.toNat (BitVec.ofInt (64:Nat) x0 &&& BitVec.ofInt (64:Nat) (71777214294589695:Int))):Int)*(256:Int))))):Int)) &&& BitVec.ofInt (64:Nat) (281470681808895:Int))):Int)*(65536:Int))))):Int)) (4294967296:Int)) ||| BitVec.ofInt (64:Nat) (IntKind.wrap IntKind.u64 (IntKind.wrap IntKind.u64 (↑(BitVec.toNat (BitVec.ofInt (64:Nat) (IntKind.wrap IntKind.u64 (↑(BitVec.toNat (BitVec.ofInt (64:Nat) (Int.fdiv (IntKind.wrap IntKind.u64 (↑(BitVec.toNat (BitVec.ofInt (64:Nat) (IntKind.wrap IntKind.u64 (↑(BitVec.toNat (BitVec.ofInt (64:Nat) (Int.fdiv x0 (256:Int)) &&& BitVec.ofInt (64:Nat) (71777214294589695:Int))):Int)) ||| BitVec.ofInt (64:Nat) (IntKind.wrap IntKind.u64 (IntKind.wrap IntKind.u64 (↑(BitVec.toNat (BitVec.ofInt (64:Nat) x0 &&& BitVec.ofInt (64:Nat) (71777214294589695:Int))):Int)*(256:Int))))):Int)) (65536:Int)) &&& BitVec.ofInt (64:Nat) (281470681808895:Int))):Int)) ||| BitVec.ofInt (64:Nat) (IntKind.wrap IntKind.u64 (IntKind.wrap IntKind.u64 (↑(BitVec.toNat (BitVec.ofInt (64:Nat) (IntKind.wrap IntKind.u64 (↑(BitVec.toNat (BitVec.ofInt (64:Nat) (IntKind.wrap IntKind.u64 (↑(BitVec.toNat (BitVec.ofInt (64:Nat) (Int.fdiv x0 (256:Int)) &&& BitVec.ofInt (64:Nat) (71777214294589695:Int))):Int)) ||| BitVec.ofInt (64:Nat) (IntKind.wrap IntKind.u64 (IntKind.wrap IntKind.u64 (↑(BitVec.toNat (BitVec.ofInt (64:Nat) x0 &&& BitVec.ofInt (64:Nat) (71777214294589695:Int))):Int)*(256:Int))))):Int)) &&& BitVec.ofInt (64:Nat) (281470681808895:Int))):Int)*(65536:Int))))):Int)*(4294967296:Int))))):Int))
noncomputable def aP4 (N:Nat):Pk→Tr Pk:=ah s334 w334 (az7 N)
theorem WZ (N:Nat):av Tryz.prog (334) (aP4 N) :=
 (af ag am (Ot N) Tryz.func334 s334 w334 [] (cuts:=[]) trivial (fun _=>by kernel_rfl) (by decide +kernel) (az7 N) (fun x=>by kernel_rfl))
@[reducible] def s312:SP:=⟨[.int .u64],[]⟩
noncomputable def ad1 (N:Nat):List (Nat×(Pk→Tr Pk)):=[(334,aP4 N)]
theorem Oz (N:Nat):ai Tryz.prog (ad1 N):=⟨WZ N,trivial⟩
@[reducible] def w312:List SP:=[⟨[.int .u64],[]⟩]
noncomputable def aA2 (N:Nat):(Int)→Option (Int)
 | x0 =>
 Option.bind (az7 N (IntKind.wrap IntKind.u64 (↑(BitVec.toNat (BitVec.ofInt (64:Nat) (IntKind.wrap IntKind.u64 (↑(BitVec.toNat (BitVec.ofInt (64:Nat) (Int.fdiv (IntKind.wrap IntKind.u64 (↑(BitVec.toNat (BitVec.ofInt (64:Nat) (IntKind.wrap IntKind.u64 (↑(BitVec.toNat (BitVec.ofInt (64:Nat) (Int.fdiv (IntKind.wrap IntKind.u64 (↑(BitVec.toNat (BitVec.ofInt (64:Nat) (IntKind.wrap IntKind.u64 (↑(BitVec.toNat (BitVec.ofInt (64:Nat) (Int.fdiv x0 (2:Int)) &&& BitVec.ofInt (64:Nat) (6148914691236517205:Int))):Int)) ||| BitVec.ofInt (64:Nat) (IntKind.wrap IntKind.u64 (IntKind.wrap IntKind.u64 (↑(BitVec.toNat (BitVec.ofInt (64:Nat) x0 &&& BitVec.ofInt (64:Nat) (6148914691236517205:Int))):Int)*(2:Int))))):Int)) (4:Int)) &&& BitVec.ofInt (64:Nat) (3689348814741910323:Int))):Int)) ||| BitVec.ofInt (64:Nat) (IntKind.wrap IntKind.u64 (IntKind.wrap IntKind.u64 (↑(BitVec.toNat (BitVec.ofInt (64:Nat) (IntKind.wrap IntKind.u64 (↑(BitVec.toNat (BitVec.ofInt (64:Nat) (IntKind.wrap IntKind.u64 (↑(BitVec.toNat (BitVec.ofInt (64:Nat) (Int.fdiv x0 (2:Int)) &&& BitVec.ofInt (64:Nat) (6148914691236517205:Int))):Int)) ||| BitVec.ofInt (64:Nat) (IntKind.wrap IntKind.u64 (IntKind.wrap IntKind.u64 (↑(BitVec.toNat (BitVec.ofInt (64:Nat) x0 &&& BitVec.ofInt (64:Nat) (6148914691236517205:Int))):Int)*(2:Int))))):Int)) &&& BitVec.ofInt (64:Nat) (3689348814741910323:Int))):Int)*(4:Int))))):Int)) (16:Int)) &&& BitVec.ofInt (64:Nat) (1085102592571150095:Int))):Int)) ||| BitVec.ofInt (64:Nat) (IntKind.wrap IntKind.u64 (IntKind.wrap IntKind.u64 (↑(BitVec.toNat (BitVec.ofInt (64:Nat) (IntKind.wrap IntKind.u64 (↑(BitVec.toNat (BitVec.ofInt (64:Nat) (IntKind.wrap IntKind.u64 (↑(BitVec.toNat (BitVec.ofInt (64:Nat) (Int.fdiv (IntKind.wrap IntKind.u64 (↑(BitVec.toNat (BitVec.ofInt (64:Nat) (IntKind.wrap IntKind.u64 (↑(BitVec.toNat (BitVec.ofInt (64:Nat) (Int.fdiv x0 (2:Int)) &&& BitVec.ofInt (64:Nat) (6148914691236517205:Int))):Int)) ||| BitVec.ofInt (64:Nat) (IntKind.wrap IntKind.u64 (IntKind.wrap IntKind.u64 (↑(BitVec.toNat (BitVec.ofInt (64:Nat) x0 &&& BitVec.ofInt (64:Nat) (6148914691236517205:Int))):Int)*(2:Int))))):Int)) (4:Int)) &&& BitVec.ofInt (64:Nat) (3689348814741910323:Int))):Int)) ||| BitVec.ofInt (64:Nat) (IntKind.wrap IntKind.u64 (IntKind.wrap IntKind.u64 (↑(BitVec.toNat (BitVec.ofInt (64:Nat) (IntKind.wrap IntKind.u64 (↑(BitVec.toNat (BitVec.ofInt (64:Nat) (IntKind.wrap IntKind.u64 (↑(BitVec.toNat (BitVec.ofInt (64:Nat) (Int.fdiv x0 (2:Int)) &&& BitVec.ofInt (64:Nat) (6148914691236517205:Int))):Int)) ||| BitVec.ofInt (64:Nat) (IntKind.wrap IntKind.u64 (IntKind.wrap IntKind.u64 (↑(BitVec.toNat (BitVec.ofInt (64:Nat) x0 &&& BitVec.ofInt (64:Nat) (6148914691236517205:Int))):Int)*(2:Int))))):Int)) &&& BitVec.ofInt (64:Nat) (3689348814741910323:Int))):Int)*(4:Int))))):Int)) &&& BitVec.ofInt (64:Nat) (1085102592571150095:Int))):Int)*(16:Int))))):Int))) fun y0 =>
 some (y0)
noncomputable def aQ0 (N:Nat):Pk→Tr Pk:=ah s312 w312 (aA2 N)
theorem W5 (N:Nat):av Tryz.prog (312) (aQ0 N) :=
 (af ag am (Oz N) Tryz.func312 s312 w312 [] (cuts:=[]) trivial (fun _=>by kernel_rfl) (by decide +kernel) (aA2 N) (fun x=>by kernel_rfl))
@[reducible] def s270:SP:=⟨[.agg [.int .i64,.int .i64]],[]⟩
noncomputable def ae5 (N:Nat):List (Nat×(Pk→Tr Pk)):=[(310,W6 N),(311,av7 N),(312,aQ0 N)]
theorem OL (N:Nat):ai Tryz.prog (ae5 N):=⟨Br N,Lq N,W5 N,trivial⟩
@[reducible] def w270:List SP:=[⟨[.int .i64],[]⟩]
noncomputable def Do (N:Nat):(Int×Int)→Option (Int)
 | (x0,x1) =>
 Option.bind (Jh N x1) fun y0 =>
 Option.bind (Qy N (y0,x0)) fun y1 =>
 Option.bind (aA2 N (IntKind.wrap IntKind.u64 y1)) fun y2 =>
 ac (decide (IntKind.wrap IntKind.i64 ((64:Int)-y0)<(0:Int))) (
  none ) (
  some (IntKind.wrap IntKind.i64 (Int.fdiv y2 ((2:Int)^min (Int.toNat (IntKind.wrap IntKind.i64 ((64:Int)-y0))) (64:Nat)))))
noncomputable def aw1 (N:Nat):Pk→Tr Pk:=ah s270 w270 (Do N)
theorem Ls (N:Nat):av Tryz.prog (270) (aw1 N) :=
 (af ag am (OL N) Tryz.func270 s270 w270 [] (cuts:=[]) trivial (fun _=>by kernel_rfl) (by decide +kernel) (Do N) (fun x=>by kernel_rfl))
@[reducible] def s269:SP:=⟨[.adr 0 [],.int .i64,.int .i64],[.var 221 (.agg [.sl 1,.int .i64,.int .i64]),.row (.int .u8) 5]⟩
noncomputable def ae6 (N:Nat):List (Nat×(Pk→Tr Pk)):=[(310,W6 N),(311,av7 N)]
theorem xQ (N:Nat):ai Tryz.prog (ae6 N):=⟨Br N,Lq N,trivial⟩
@[reducible] def Mj:LD:=⟨30,[0],[(.exit 0,[])],⟨[.adr 0 []],[.var 221 (.agg [.sl 1,.int .i64,.int .i64]),.row (.int .u8) 5]⟩,[(.exit 0,⟨[],[.var 221 (.agg [.sl 1,.int .i64,.int .i64]),.row (.int .u8) 5]⟩)]⟩
abbrev CZ:Type:=Int×Int×(List Int)
abbrev Cg:Type:=Int×Int×(List Int)
noncomputable def js (N:Nat) (f:CZ→Option Cg):CZ→Option Cg
 | (x0,x1,x2) =>
 ac (decide (x1≥(8:Int))) (
  ac (decide ((List.length x2+List.length [IntKind.wrap IntKind.u8 x0])*(1:Nat)≤(140737488355328:Nat)∧List.length x2+List.length [IntKind.wrap IntKind.u8 x0]≤(140737488355328:Nat))) (
   Option.bind (f (Int.fdiv x0 (256:Int),IntKind.wrap IntKind.i64 (x1-(8:Int)),x2++[IntKind.wrap IntKind.u8 x0])) fun r=>some r) (
   none )) (
  some ((x0,x1,x2)))
noncomputable def lM (N:Nat):Nat→CZ→Option Cg
 | 0,_=>none
 | k+1,x=>js N (lM N k) x
noncomputable def M7 (N:Nat) (k:Nat):Cut:=Mj.cut (lM N k)
theorem J1 (N:Nat) (k:Nat):ak Tryz.prog false Tryz.f269 [0] 30 (M7 N k) :=
 Mj.loopT ag am (xQ N) Tryz.f269 [0] (cuts:=[]) trivial (by decide +kernel) (by kernel_rfl) (js N) (lM N) (fun _=>rfl) (fun _ _=>rfl) (fun f x=>by kernel_rfl) k
@[reducible] def w269:List SP:=[⟨[.tup []],[.var 221 (.agg [.sl 1,.int .i64,.int .i64]),.row (.int .u8) 5]⟩]
noncomputable def eM (N:Nat):(Int×Int×Int×Int×(List Int))→Option (Int×Int×(List Int))
 | (x0,x1,x2,x3,x4) =>
 Option.bind (Jh N x0) fun y0 =>
 Option.bind (Qy N (y0,x1)) fun y1 =>
 ac (decide (x3<(0:Int))) (
  none ) (
  Option.bind (lM N N (IntKind.wrap IntKind.i64 (↑(BitVec.toNat (BitVec.ofInt (64:Nat) x2 ||| BitVec.ofInt (64:Nat) (IntKind.wrap IntKind.i64 (y1*(2:Int)^min (Int.toNat x3) (64:Nat))))):Int),IntKind.wrap IntKind.i64 (x3+y0),x4)) fun y2 =>
  some ((y2.1,y2.2.1,y2.2.2)))
noncomputable def IJ (N:Nat):Pk→Tr Pk:=ah s269 w269 (eM N)
theorem lz (N:Nat):av Tryz.prog (269) (IJ N) :=
 (af ag am (xQ N) Tryz.func269 s269 w269 [0] (cuts:=[(30,M7 N N)]) ⟨J1 N N,trivial⟩ (fun _=>by kernel_rfl) (by decide +kernel) (eM N) (fun x=>by kernel_rfl))
@[reducible] def s222:SP:=⟨[.adr 0 [],.agg [.int .i64,.int .i64]],[.var 221 (.agg [.sl 1,.int .i64,.int .i64]),.row (.int .u8) 5]⟩
noncomputable def ag3 (N:Nat):List (Nat×(Pk→Tr Pk)):=[(270,aw1 N),(269,IJ N)]
theorem OU (N:Nat):ai Tryz.prog (ag3 N):=⟨Ls N,lz N,trivial⟩
@[reducible] def w222:List SP:=[⟨[.tup []],[.var 221 (.agg [.sl 1,.int .i64,.int .i64]),.row (.int .u8) 5]⟩]
noncomputable def xj (N:Nat):(Int×Int×Int×Int×(List Int))→Option (Int×Int×(List Int))
 | (x0,x1,x2,x3,x4) =>
 Option.bind (Do N (x0,x1)) fun y0 =>
 Option.bind (eM N (x1,y0,x2,x3,x4)) fun y1 =>
 some ((y1.1,y1.2.1,y1.2.2))
noncomputable def Xt (N:Nat):Pk→Tr Pk:=ah s222 w222 (xj N)
theorem Bu (N:Nat):av Tryz.prog (222) (Xt N) :=
 (af ag am (OU N) Tryz.func222 s222 w222 [0] (cuts:=[]) trivial (fun _=>by kernel_rfl) (by decide +kernel) (xj N) (fun x=>by kernel_rfl))
@[reducible] def s223:SP:=⟨[.adr 0 []],[.var 221 (.agg [.sl 1,.int .i64,.int .i64]),.row (.int .u8) 5]⟩
noncomputable def ag2 (N:Nat):List (Nat×(Pk→Tr Pk)):=[(269,IJ N)]
theorem OT (N:Nat):ai Tryz.prog (ag2 N):=⟨lz N,trivial⟩
@[reducible] def w223:List SP:=[⟨[.tup []],[.var 221 (.agg [.sl 1,.int .i64,.int .i64]),.row (.int .u8) 5]⟩]
noncomputable def Dq (N:Nat):(Int×Int×(List Int))→Option (Int×Int×(List Int))
 | (x0,x1,x2) =>
 Option.bind (eM N (Int.tmod (IntKind.wrap IntKind.i64 ((8:Int)-x1)) (8:Int),(0:Int),x0,x1,x2)) fun y0 =>
 some ((y0.1,y0.2.1,y0.2.2))
noncomputable def Xs (N:Nat):Pk→Tr Pk:=ah s223 w223 (Dq N)
theorem Bt (N:Nat):av Tryz.prog (223) (Xs N) :=
 (af ag am (OT N) Tryz.func223 s223 w223 [0] (cuts:=[]) trivial (fun _=>by kernel_rfl) (by decide +kernel) (Dq N) (fun x=>by kernel_rfl))
@[reducible] def y3:Ty:=(.cons (.sl (.int .u8)) (.cons (.int .i64) (.cons (.int .i64) .unit)))
@[reducible] def s193:SP:=⟨[.radr y3 [.i 0 3]],[]⟩
noncomputable def ai0 (N:Nat):List (Nat×(Pk→Tr Pk)):=[]
theorem O6 (N:Nat):ai Tryz.prog (ai0 N):=trivial
@[reducible] def w193:List SP:=[⟨[.str],[]⟩]
noncomputable def Jp (N:Nat):(((List Int)×(Int×(Int×Unit))))→Option (ByteArray)
 | x0 =>
 ac (decide (x0.2.2.1>(0:Int))) (
  ac (decide ((↑(ByteArray.size (aE x0.1)+ByteArray.size (aE [IntKind.wrap IntKind.u8 x0.2.1])):Int)>(9223372036854775807:Int))) (
   none ) (
   some (aE x0.1++aE [IntKind.wrap IntKind.u8 x0.2.1]))) (
  some (aE x0.1))
noncomputable def aw9 (N:Nat):Pk→Tr Pk:=ah s193 w193 (Jp N)
theorem Lz (N:Nat):av Tryz.prog (193) (aw9 N) :=
 (af ag am (O6 N) Tryz.func193 s193 w193 [] (cuts:=[]) trivial (fun _=>by kernel_rfl) (by decide +kernel) (Jp N) (fun x=>by kernel_rfl))
@[reducible] def s224:SP:=⟨[.str],[]⟩
noncomputable def ag1 (N:Nat):List (Nat×(Pk→Tr Pk)):=[(270,aw1 N)]
theorem xX (N:Nat):ai Tryz.prog (ag1 N):=⟨Ls N,trivial⟩
@[reducible] def Mm:LD:=⟨58,[10,9,8,3],[(.ret,[2]),(.exit 0,[3])],⟨[.int .i64,.int .i64,.sl 0,.sl 0],[.row (.int .u8) 5]⟩,[(.exit 0,⟨[.sl 0],[.row (.int .u8) 5]⟩)]⟩
abbrev C2:Type:=Int×Int×(List Int)
abbrev Cj:Type:=(List Int)
noncomputable def lX (N:Nat) (f:C2→Option Cj):C2→Option Cj
 | (x0,x1,x2) =>
 ac (decide (x0<x1)) (
  ac (within x0 (List.length x2)) (
   Option.bind (x2[Int.toNat x0]?) fun y0 =>
   Option.bind (Do N (IntKind.wrap IntKind.i64 y0,(8:Int))) fun y1 =>
   ac (within x0 (List.length x2)) (
    Option.bind (x2[Int.toNat x0]?) fun y2 =>
    Option.bind (f (IntKind.wrap IntKind.i64 (x0+(1:Int)),x1,List.set x2 (Int.toNat x0) (IntKind.wrap IntKind.u8 y1))) fun r=>some r) (
    none )) (
   none )) (
  some (x2))
noncomputable def eO (N:Nat):Nat→C2→Option Cj
 | 0,_=>none
 | k+1,x=>lX N (eO N k) x
noncomputable def Na (N:Nat) (k:Nat):Cut:=Mm.cut (eO N k)
theorem J4 (N:Nat) (k:Nat):ak Tryz.prog false Tryz.f224 [] 58 (Na N k) :=
 Mm.loopT ag am (xX N) Tryz.f224 [] (cuts:=[]) trivial (by decide +kernel) (by kernel_rfl) (lX N) (eO N) (fun _=>rfl) (fun _ _=>rfl) (fun f x=>by kernel_rfl) k
@[reducible] def w224:List SP:=[⟨[.str],[]⟩]
noncomputable def UL (N:Nat):(ByteArray)→Option (ByteArray)
 | x0 =>
 ac (decide (ByteArray.size x0≤(140737488355328:Nat))) (
  Option.bind (eO N N ((0:Int),(↑(List.length (bytesOf x0)):Int),bytesOf x0)) fun y0 =>
  some (aE y0)) (
  none )
noncomputable def aS0 (N:Nat):Pk→Tr Pk:=ah s224 w224 (UL N)
theorem Xr (N:Nat):av Tryz.prog (224) (aS0 N) :=
 (af ag am (xX N) Tryz.func224 s224 w224 [] (cuts:=[(58,Na N N)]) ⟨J4 N N,trivial⟩ (fun _=>by kernel_rfl) (by decide +kernel) (UL N) (fun x=>by kernel_rfl))
end Go.Proofs.YtfcamlibbfnldaaGreat.Am

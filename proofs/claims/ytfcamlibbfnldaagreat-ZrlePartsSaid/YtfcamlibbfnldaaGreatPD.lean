/- An example of tiles is packed and unpacked again: works answers true (no condition). -/
import Derived.Test.YtfcamlibbfnldaaGreatPC
import Derived.KernelRfl
set_option linter.unusedSimpArgs false
set_option linter.unusedVariables false
set_option linter.unusedSectionVars false
set_option maxRecDepth 100000
namespace Go.Proofs.YtfcamlibbfnldaaGreat.Am
open Go.Am
theorem PO:F79 200000 (8,8,false,true,7,7,3,0,3,6,2,1,ByteArray.mk #[0,0,0,11,120,156,98,96,96,7,0,0,0,255,255,0,0,0,8,98,100,7,0,0,0,255,255],false,ByteArray.mk #[],0)=some (15,0,true,ByteArray.mk #[0,0,7],0,[0,16711680]):=by kernel_rfl
theorem PN:F79 200000 (8,8,false,true,7,7,3,0,3,6,1,1,ByteArray.mk #[0,0,0,8,98,100,7,0,0,0,255,255],true,ByteArray.mk #[0,0,7],0)=some (12,0,true,ByteArray.mk #[0,0,7,1,7],0,[16711680]):=by kernel_rfl
theorem PM:ByteArray.mk #[0,0,0,11,120,156,98,96,96,7,0,0,0,255,255]++ByteArray.mk #[0,0,0,8,98,100,7,0,0,0,255,255]=ByteArray.mk #[0,0,0,11,120,156,98,96,96,7,0,0,0,255,255,0,0,0,8,98,100,7,0,0,0,255,255]:=by kernel_rfl
theorem PL:SX 200000 ([0,16777215,0],[0,16777215,0])=some true:=by kernel_rfl
theorem PK:SX 200000 ([0,16711680],[0,16711680])=some true:=by kernel_rfl
theorem PH:SX 200000 ([16711680],[16711680])=some true:=by kernel_rfl
theorem TS:F26 200000 ()=some true:=by
 simp only[F26]
 rw[show X4 200000 ()=some (8,8,false,true,7,7,3,0,3,6) from rfl]
 simp only[Option.bind_some]
 rw[PR]
 simp only[Option.bind_some]
 rw[PL,PQ]
 simp only[Option.bind_some]
 rw[PP]
 simp only[Option.bind_some]
 rw[PM,PO]
 simp only[Option.bind_some]
 rw[PK,PN]
 simp only[Option.bind_some]
 rw[PH]
 kernel_rfl
end Go.Proofs.YtfcamlibbfnldaaGreat.Am

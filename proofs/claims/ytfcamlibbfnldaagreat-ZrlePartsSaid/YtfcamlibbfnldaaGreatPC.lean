/- An example of tiles is packed (no condition). -/
import Derived.Test.YtfcamlibbfnldaaGreatSD
import Derived.KernelRfl
set_option linter.unusedSimpArgs false
set_option linter.unusedVariables false
set_option linter.unusedSectionVars false
set_option maxRecDepth 100000
namespace Go.Proofs.YtfcamlibbfnldaaGreat.Am
open Go.Am
theorem PR:Xh 200000 (8,8,false,true,7,7,3,0,3,6,3,1,ByteArray.mk #[2,0,255,64])=some (0,[0,16777215,0]):=by kernel_rfl
theorem PQ:F40 200000 (8,8,false,true,7,7,3,0,3,6,2,1,[0,16711680],false,ByteArray.mk #[])=some (ByteArray.mk #[0,0,0,11,120,156,98,96,96,7,0,0,0,255,255],0,true,ByteArray.mk #[0,0,7]):=by kernel_rfl
theorem PP:F40 200000 (8,8,false,true,7,7,3,0,3,6,1,1,[16711680],true,ByteArray.mk #[0,0,7])=some (ByteArray.mk #[0,0,0,8,98,100,7,0,0,0,255,255],0,true,ByteArray.mk #[0,0,7,1,7]):=by kernel_rfl
end Go.Proofs.YtfcamlibbfnldaaGreat.Am

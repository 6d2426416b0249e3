/-
The functions' codes, as the small language has them.
-/
import Derived.Test.YtcefobjfkmfmiaaDoorProg
import Derived.Test.YtcefobjfkmfmiaaDoorAmLoop
import Derived.KernelRfl
set_option linter.unusedSimpArgs false
set_option linter.unusedVariables false
set_option linter.unusedSectionVars false
set_option maxRecDepth 100000
namespace Am
open Go.Proofs
/-- skiff/aes.sub -/
def ir75:C:=.seq (.ops [⟨none,some 2,.mov (.c (.int .u8 0))⟩]) (.seq (.ops [⟨none,some 5,.mov (.t 0)⟩,⟨none,some 6,.mov (.t 0)⟩,⟨none,some 7,.call 81 [.t 5,.t 6]⟩,⟨none,some 3,.mov (.t 7)⟩]) (.seq (.ops [⟨none,some 8,.mov (.t 3)⟩,⟨none,some 4,.mov (.t 8)⟩]) (.seq (.seq (.ops [⟨none,some 9,.mov (.c (.int .i64 0))⟩]) (.block 0 (.loop [0,1,2,5,6,7,8,10,11,12,13,14,15,16,17,18,19,20,21,22,23,24,25,26,27,28,29,30,31] (.seq (.ops [⟨none,some 10,.bin .lss (.t 9) (.c (.int .i64 6))⟩]) (.seq (.cond (.t 10) .skip (.exit 0)) (.seq (.block 1 (.seq (.ops [⟨none,some 11,.mov (.t 3)⟩,⟨none,some 12,.mov (.t 3)⟩,⟨none,some 13,.call 81 [.t 11,.t 12]⟩,⟨none,some 3,.mov (.t 13)⟩]) (.ops [⟨none,some 14,.mov (.t 4)⟩,⟨none,some 15,.mov (.t 3)⟩,⟨none,some 16,.call 81 [.t 14,.t 15]⟩,⟨none,some 4,.mov (.t 16)⟩]))) (.ops [⟨none,some 17,.bin .add (.t 9) (.c (.int .i64 1))⟩,⟨none,some 9,.mov (.t 17)⟩]))))))) (.seq (.ops [⟨none,some 18,.mov (.t 4)⟩,⟨none,some 19,.mov (.t 4)⟩,⟨none,some 20,.call 82 [.t 19,.c (.int .i64 1)]⟩,⟨none,some 21,.bin .xor (.t 18) (.t 20)⟩,⟨none,some 22,.mov (.t 4)⟩,⟨none,some 23,.call 82 [.t 22,.c (.int .i64 2)]⟩,⟨none,some 24,.bin .xor (.t 21) (.t 23)⟩,⟨none,some 25,.mov (.t 4)⟩,⟨none,some 26,.call 82 [.t 25,.c (.int .i64 3)]⟩,⟨none,some 27,.bin .xor (.t 24) (.t 26)⟩,⟨none,some 28,.mov (.t 4)⟩,⟨none,some 29,.call 82 [.t 28,.c (.int .i64 4)]⟩,⟨none,some 30,.bin .xor (.t 27) (.t 29)⟩,⟨none,some 31,.bin .xor (.t 30) (.c (.int .u8 99))⟩,⟨none,some 2,.mov (.t 31)⟩]) .ret))))
def rs75:List R:=[.t 2]
theorem comp75:(Tryd.f75.body.bind fun c=>comp Tryd.prog [61,45,27,23,26,51] c [[0,1,2,5,6,7,8,10,11,12,13,14,15,16,17,18,19,20,21,22,23,24,25,26,27,28,29,30,31]])=some (ir75,[]):=by kernel_rfl
theorem compR75:compR Tryd.prog Tryd.f75.results.toList=some rs75:=by kernel_rfl
theorem nt75:Tryd.f75.ntmps=32:=by kernel_rfl
/-- skiff/aes.twice -/
def ir76:C:=.seq (.ops [⟨none,some 2,.mov (.c (.int .u8 0))⟩]) (.seq (.ops [⟨none,some 3,.mov (.t 0)⟩,⟨none,some 4,.bin .shl (.t 3) (.c (.int .u64 1))⟩,⟨none,some 5,.mov (.t 0)⟩,⟨none,some 6,.bin .shr (.t 5) (.c (.int .u64 7))⟩,⟨none,some 7,.un .neg (.t 6)⟩,⟨none,some 8,.bin .and (.c (.int .u8 27)) (.t 7)⟩,⟨none,some 9,.bin .xor (.t 4) (.t 8)⟩,⟨none,some 2,.mov (.t 9)⟩]) .ret)
def rs76:List R:=[.t 2]
theorem comp76:(Tryd.f76.body.bind fun c=>comp Tryd.prog [61,45,27,23,26,51] c [])=some (ir76,[]):=by kernel_rfl
theorem compR76:compR Tryd.prog Tryd.f76.results.toList=some rs76:=by kernel_rfl
theorem nt76:Tryd.f76.ntmps=10:=by kernel_rfl
/-- skiff/aes.mul -/
def ir81:C:=.seq (.ops [⟨none,some 4,.mov (.c (.int .u8 0))⟩]) (.seq (.ops [⟨none,some 5,.mov (.c (.int .u8 0))⟩]) (.seq (.seq (.ops [⟨none,some 6,.mov (.c (.int .i64 0))⟩]) (.block 0 (.loop [2,3,4,7,8,9,10,11,12,13,14,15,16,17,18,19,20] (.seq (.ops [⟨none,some 7,.bin .lss (.t 6) (.c (.int .i64 8))⟩]) (.seq (.cond (.t 7) .skip (.exit 0)) (.seq (.block 1 (.seq (.ops [⟨none,some 8,.mov (.t 5)⟩,⟨none,some 9,.mov (.t 0)⟩,⟨none,some 10,.mov (.t 1)⟩,⟨none,some 11,.bin .and (.t 10) (.c (.int .u8 1))⟩,⟨none,some 12,.un .neg (.t 11)⟩,⟨none,some 13,.bin .and (.t 9) (.t 12)⟩,⟨none,some 14,.bin .xor (.t 8) (.t 13)⟩,⟨none,some 5,.mov (.t 14)⟩]) (.ops [⟨none,some 15,.mov (.t 0)⟩,⟨none,some 16,.call 76 [.t 15]⟩,⟨none,some 17,.mov (.t 1)⟩,⟨none,some 18,.bin .shr (.t 17) (.c (.int .u64 1))⟩,⟨none,some 0,.mov (.t 16)⟩,⟨none,some 1,.mov (.t 18)⟩]))) (.ops [⟨none,some 19,.bin .add (.t 6) (.c (.int .i64 1))⟩,⟨none,some 6,.mov (.t 19)⟩]))))))) (.seq (.ops [⟨none,some 20,.mov (.t 5)⟩,⟨none,some 4,.mov (.t 20)⟩]) .ret)))
def rs81:List R:=[.t 4]
theorem comp81:(Tryd.f81.body.bind fun c=>comp Tryd.prog [61,45,27,23,26,51] c [[2,3,4,7,8,9,10,11,12,13,14,15,16,17,18,19,20]])=some (ir81,[]):=by kernel_rfl
theorem compR81:compR Tryd.prog Tryd.f81.results.toList=some rs81:=by kernel_rfl
theorem nt81:Tryd.f81.ntmps=21:=by kernel_rfl
/-- math/bits.RotateLeft8 -/
def ir82:C:=.seq (.ops [⟨none,some 4,.mov (.c (.int .u8 0))⟩]) (.seq (.ops [⟨none,some 6,.mov (.t 1)⟩,⟨none,some 7,.conv .u64 (.t 6)⟩,⟨none,some 8,.bin .and (.t 7) (.c (.int .u64 7))⟩,⟨none,some 5,.mov (.t 8)⟩]) (.seq (.ops [⟨none,some 9,.mov (.t 0)⟩,⟨none,some 10,.mov (.t 5)⟩,⟨none,some 11,.bin .shl (.t 9) (.t 10)⟩,⟨none,some 12,.mov (.t 0)⟩,⟨none,some 13,.mov (.t 5)⟩,⟨none,some 14,.bin .sub (.c (.int .u64 8)) (.t 13)⟩,⟨none,some 15,.bin .shr (.t 12) (.t 14)⟩,⟨none,some 16,.bin .or (.t 11) (.t 15)⟩,⟨none,some 4,.mov (.t 16)⟩]) .ret))
def rs82:List R:=[.t 4]
theorem comp82:(Tryd.f82.body.bind fun c=>comp Tryd.prog [61,45,27,23,26,51] c [])=some (ir82,[]):=by kernel_rfl
theorem compR82:compR Tryd.prog Tryd.f82.results.toList=some rs82:=by kernel_rfl
theorem nt82:Tryd.f82.ntmps=17:=by kernel_rfl
/-- skiff/aes.join -/
def ir86:C:=.seq (.ops [⟨none,some 2,.box (.t 0)⟩,⟨none,some 3,.box (.t 1)⟩,⟨none,some 4,.alloc (.ints .u8 [0,0,0,0,0,0,0,0,0,0,0,0,0,0,0,0])⟩]) (.seq (.seq (.ops [⟨none,some 6,.mov (.c (.int .i64 0))⟩]) (.block 0 (.loop [0,1,5,7,8,9,10,11,12,13,14,15,16,17,18] (.seq (.ops [⟨none,some 7,.bin .lss (.t 6) (.c (.int .i64 16))⟩]) (.seq (.cond (.t 7) .skip (.exit 0)) (.seq (.block 1 (.seq (.ops [⟨none,some 8,.mov (.t 6)⟩,⟨none,some 5,.mov (.t 8)⟩]) (.opsC [⟨none,some 9,.mov (.t 5)⟩,⟨none,some 10,.idxA 16 1 (.t 2) (.t 9)⟩,⟨none,some 11,.load (.t 10)⟩,⟨none,some 12,.mov (.t 5)⟩,⟨none,some 13,.idxA 16 1 (.t 3) (.t 12)⟩,⟨none,some 14,.load (.t 13)⟩,⟨none,some 15,.bin .xor (.t 11) (.t 14)⟩,⟨none,some 16,.idxA 16 1 (.t 2) (.t 9)⟩,⟨none,none,.store (.t 16) (.t 15)⟩] []))) (.ops [⟨none,some 17,.bin .add (.t 6) (.c (.int .i64 1))⟩,⟨none,some 6,.mov (.t 17)⟩]))))))) (.seq (.ops [⟨none,some 18,.loadN 16 (.t 2)⟩,⟨none,none,.storeN 16 (.t 4) (.t 18)⟩]) .ret))
def rs86:List R:=[.cell 4 (some 16)]
theorem comp86:(Tryd.f86.body.bind fun c=>comp Tryd.prog [61,45,27,23,26,51] c [[0,1,5,7,8,9,10,11,12,13,14,15,16,17,18]])=some (ir86,[]):=by kernel_rfl
theorem compR86:compR Tryd.prog Tryd.f86.results.toList=some rs86:=by kernel_rfl
theorem nt86:Tryd.f86.ntmps=19:=by kernel_rfl
end Am

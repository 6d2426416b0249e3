/-
The functions' codes, as the small language has them.
-/
import Derived.Test.YtcefobjfkmfmiaaDoorProg
import Derived.Test.YtcefobjfkmfmiaaDoorAmLoop
import Derived.KernelRfl
set_option linter.unusedSimpArgs false
set_option linter.unusedVariables false
set_option linter.unusedSectionVars false
set_option maxRecDepth 100000
namespace Am
open Go.Proofs
/-- (skiff/skifflaw13.Case).long -/
def ir31:C:=.seq (.ops [⟨none,some 1,.box (.t 0)⟩,⟨none,some 2,.mov (.c (.bool false))⟩]) (.seq (.ops [⟨none,some 3,.fldA 33 (.t 1)⟩,⟨none,some 4,.load (.t 3)⟩,⟨none,some 5,.len (.t 4)⟩,⟨none,some 6,.bin .gtr (.t 5) (.c (.int .i64 50))⟩,⟨none,some 7,.mov (.t 6)⟩,⟨some (7,false),some 8,.fldA 34 (.t 1)⟩,⟨some (7,false),some 9,.load (.t 8)⟩,⟨some (7,false),some 10,.len (.t 9)⟩,⟨some (7,false),some 11,.bin .gtr (.t 10) (.c (.int .i64 50))⟩,⟨none,some 12,.pick (.t 7) (.c (.bool true)) (.t 11)⟩,⟨none,some 13,.mov (.t 12)⟩,⟨some (13,false),some 14,.fldA 38 (.t 1)⟩,⟨some (13,false),some 15,.load (.t 14)⟩,⟨some (13,false),some 16,.len (.t 15)⟩,⟨some (13,false),some 17,.bin .gtr (.t 16) (.c (.int .i64 120))⟩,⟨none,some 18,.pick (.t 13) (.c (.bool true)) (.t 17)⟩,⟨none,some 2,.mov (.t 18)⟩]) .ret)
def rs31:List R:=[.t 2]
theorem comp31:(Tryd.f31.body.bind fun c=>comp Tryd.prog [61,45,27,23,26,51] c [])=some (ir31,[]):=by kernel_rfl
theorem compR31:compR Tryd.prog Tryd.f31.results.toList=some rs31:=by kernel_rfl
theorem nt31:Tryd.f31.ntmps=19:=by kernel_rfl
/-- (skiff/skifflaw13.Case).head -/
def ir32:C:=.seq (.ops [⟨none,some 1,.box (.t 0)⟩,⟨none,some 2,.alloc (.agg [.int .i64 0,.nils,.nils])⟩,⟨none,some 3,.mov (.c (.int .u64 0))⟩,⟨none,some 4,.mov (.c (.int .u64 0))⟩]) (.seq (.ops [⟨none,some 6,.fldA 32 (.t 1)⟩,⟨none,some 7,.load (.t 6)⟩,⟨none,some 8,.fldA 33 (.t 1)⟩,⟨none,some 9,.load (.t 8)⟩,⟨none,some 10,.fldA 34 (.t 1)⟩,⟨none,some 11,.load (.t 10)⟩,⟨none,some 12,.build (.agg [.int .i64 0,.nils,.nils]) [(0,1,.t 7),(1,1,.t 9),(2,1,.t 11)]⟩,⟨none,some 5,.alloc (.agg [.int .i64 0,.nils,.nils])⟩,⟨none,none,.storeN 3 (.t 5) (.t 12)⟩]) (.seq (.seq (.ops [⟨none,some 13,.fldA 37 (.t 1)⟩,⟨none,some 14,.load (.t 13)⟩]) (.cond (.t 14) (.seq (.opsC [⟨none,some 15,.bsl 1 0 (.ints .u8 []) []⟩,⟨none,some 16,.fldA 1 (.t 5)⟩,⟨none,some 17,.load (.t 16)⟩,⟨none,some 18,.app 1 1 (.t 15) (.t 17)⟩,⟨none,some 19,.appZ 1 1 (.int .u8 0) (.t 18) (.c (.int .i64 8))⟩,⟨none,some 20,.slcS 1 (.t 19) none (some (.c (.int .i64 8))) none⟩,⟨none,some 21,.bsl 1 0 (.ints .u8 []) []⟩,⟨none,some 22,.fldA 2 (.t 5)⟩,⟨none,some 23,.load (.t 22)⟩,⟨none,some 24,.app 1 1 (.t 21) (.t 23)⟩,⟨none,some 25,.appZ 1 1 (.int .u8 0) (.t 24) (.c (.int .i64 8))⟩,⟨none,some 26,.slcS 1 (.t 25) none (some (.c (.int .i64 8))) none⟩,⟨none,some 27,.fldA 1 (.t 5)⟩,⟨none,none,.store (.t 27) (.t 20)⟩,⟨none,some 28,.fldA 2 (.t 5)⟩,⟨none,none,.store (.t 28) (.t 26)⟩] [(22,15),(22,18)]) (.seq (.ops [⟨none,some 29,.fldA 0 (.t 5)⟩,⟨none,some 30,.load (.t 29)⟩,⟨none,some 31,.conv .u64 (.t 30)⟩,⟨none,some 32,.bin .rem (.t 31) (.c (.int .u64 3))⟩,⟨none,some 33,.conv .i64 (.t 32)⟩,⟨none,some 34,.fldA 0 (.t 5)⟩,⟨none,none,.store (.t 34) (.t 33)⟩]) (.seq (.ops [⟨none,some 35,.fldA 35 (.t 1)⟩,⟨none,some 36,.load (.t 35)⟩,⟨none,some 37,.bin .rem (.t 36) (.c (.int .u64 4611686018427387904))⟩,⟨none,some 38,.fldA 35 (.t 1)⟩,⟨none,none,.store (.t 38) (.t 37)⟩]) (.ops [⟨none,some 39,.fldA 35 (.t 1)⟩,⟨none,some 40,.load (.t 39)⟩,⟨none,some 41,.fldA 35 (.t 1)⟩,⟨none,some 42,.load (.t 41)⟩,⟨none,some 43,.fldA 36 (.t 1)⟩,⟨none,some 44,.load (.t 43)⟩,⟨none,some 45,.bin .rem (.t 44) (.c (.int .u64 70000))⟩,⟨none,some 46,.mm false (.t 42) (.t 45)⟩,⟨none,some 47,.bin .sub (.t 40) (.t 46)⟩,⟨none,some 48,.fldA 36 (.t 1)⟩,⟨none,none,.store (.t 48) (.t 47)⟩])))) .skip)) (.seq (.opsC [⟨none,some 49,.loadN 3 (.t 5)⟩,⟨none,some 50,.fldA 35 (.t 1)⟩,⟨none,some 51,.load (.t 50)⟩,⟨none,some 52,.fldA 36 (.t 1)⟩,⟨none,some 53,.load (.t 52)⟩,⟨none,none,.storeN 3 (.t 2) (.t 49)⟩,⟨none,some 3,.mov (.t 51)⟩,⟨none,some 4,.mov (.t 53)⟩] [(50,2),(52,2)]) .ret)))
def rs32:List R:=[.cell 2 (some 3),.t 3,.t 4]
theorem comp32:(Tryd.f32.body.bind fun c=>comp Tryd.prog [61,45,27,23,26,51] c [])=some (ir32,[]):=by kernel_rfl
theorem compR32:compR Tryd.prog Tryd.f32.results.toList=some rs32:=by kernel_rfl
theorem nt32:Tryd.f32.ntmps=54:=by kernel_rfl
end Am

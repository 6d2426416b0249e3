/-
The functions' codes, as the small language has them.
-/
import Derived.Test.YtcefobjfkmfmiaaDoorProg
import Derived.Test.YtcefobjfkmfmiaaDoorAmLoop
import Derived.KernelRfl
set_option linter.unusedSimpArgs false
set_option linter.unusedVariables false
set_option linter.unusedSectionVars false
set_option maxRecDepth 100000
namespace Am
open Go.Proofs
/-- skiff/skifflaw15.Awake -/
def ir18:C:=.seq (.ops [⟨none,some 0,.mov (.c (.bool false))⟩]) (.seq (.ops [⟨none,some 6,.call 21 [.c .nils]⟩,⟨none,some 7,.call 28 [.t 6,.c (.str [104,115])]⟩,⟨none,some 5,.mov (.t 7)⟩,⟨none,some 8,.ext (.t 5) 0⟩,⟨none,some 9,.ext (.t 5) 1⟩,⟨none,some 1,.alloc (.ints .u8 [0,0,0,0,0,0,0,0,0,0,0,0,0,0,0,0,0,0,0,0,0,0,0,0,0,0,0,0,0,0,0,0])⟩,⟨none,some 2,.alloc (.ints .u8 [0,0,0,0,0,0,0,0,0,0,0,0,0,0,0,0,0,0,0,0,0,0,0,0,0,0,0,0,0,0,0,0])⟩,⟨none,none,.storeN 32 (.t 1) (.t 8)⟩,⟨none,none,.storeN 32 (.t 2) (.t 9)⟩]) (.seq (.ops [⟨none,some 10,.call 24 [.c .nils]⟩,⟨none,some 3,.alloc (.ints .u8 [0,0,0,0,0,0,0,0,0,0,0,0,0,0,0,0,0,0,0,0,0,0,0,0,0,0,0,0,0,0,0,0])⟩,⟨none,none,.storeN 32 (.t 3) (.t 10)⟩]) (.seq (.ops [⟨none,some 11,.call 22 [.c .nils]⟩,⟨none,some 4,.alloc (.ints .u8 [0,0,0,0,0,0,0,0,0,0,0,0,0,0,0,0,0,0,0,0,0,0,0,0,0,0,0,0,0,0,0,0])⟩,⟨none,none,.storeN 32 (.t 4) (.t 11)⟩]) (.seq (.opsC [⟨none,some 12,.idxA 32 1 (.t 4) (.c (.int .i64 0))⟩,⟨none,some 13,.load (.t 12)⟩,⟨none,some 14,.bin .eql (.t 13) (.c (.int .u8 51))⟩,⟨none,some 15,.mov (.t 14)⟩,⟨some (15,true),some 16,.idxA 32 1 (.t 4) (.c (.int .i64 1))⟩,⟨some (15,true),some 17,.load (.t 16)⟩,⟨some (15,true),some 18,.bin .eql (.t 17) (.c (.int .u8 173))⟩,⟨none,some 19,.pick (.t 15) (.t 18) (.c (.bool false))⟩,⟨none,some 20,.mov (.t 19)⟩,⟨some (20,true),some 21,.idxA 32 1 (.t 4) (.c (.int .i64 2))⟩,⟨some (20,true),some 22,.load (.t 21)⟩,⟨some (20,true),some 23,.bin .eql (.t 22) (.c (.int .u8 10))⟩,⟨none,some 24,.pick (.t 20) (.t 23) (.c (.bool false))⟩,⟨none,some 25,.mov (.t 24)⟩,⟨some (25,true),some 26,.idxA 32 1 (.t 4) (.c (.int .i64 3))⟩,⟨some (25,true),some 27,.load (.t 26)⟩,⟨some (25,true),some 28,.bin .eql (.t 27) (.c (.int .u8 28))⟩,⟨none,some 29,.pick (.t 25) (.t 28) (.c (.bool false))⟩,⟨none,some 30,.mov (.t 29)⟩,⟨some (30,true),some 31,.loadN 32 (.t 1)⟩,⟨some (30,true),some 32,.loadN 32 (.t 4)⟩,⟨some (30,true),some 33,.slcA 32 1 (.t 3) none none none⟩,⟨some (30,true),some 34,.call 25 [.t 32,.c (.str [99,32,104,115,32,116,114,97,102,102,105,99]),.t 33]⟩,⟨some (30,true),some 35,.eqf false 32 (.t 31) (.t 34)⟩,⟨none,some 36,.pick (.t 30) (.t 35) (.c (.bool false))⟩,⟨none,some 37,.mov (.t 36)⟩,⟨some (37,true),some 38,.loadN 32 (.t 1)⟩,⟨some (37,true),some 39,.loadN 32 (.t 2)⟩,⟨some (37,true),some 40,.eqf true 32 (.t 38) (.t 39)⟩,⟨none,some 41,.pick (.t 37) (.t 40) (.c (.bool false))⟩,⟨none,some 0,.mov (.t 41)⟩] []) .ret))))
def rs18:List R:=[.t 0]
theorem comp18:(Tryd.f18.body.bind fun c=>comp Tryd.prog [61,45,27,23,26,51] c [])=some (ir18,[]):=by kernel_rfl
theorem compR18:compR Tryd.prog Tryd.f18.results.toList=some rs18:=by kernel_rfl
theorem nt18:Tryd.f18.ntmps=42:=by kernel_rfl
/-- skiff/secrets.Finished -/
def ir19:C:=.seq (.ops [⟨none,some 2,.box (.t 0)⟩,⟨none,some 3,.box (.t 1)⟩,⟨none,some 4,.alloc (.ints .u8 [0,0,0,0,0,0,0,0,0,0,0,0,0,0,0,0,0,0,0,0,0,0,0,0,0,0,0,0,0,0,0,0])⟩]) (.seq (.ops [⟨none,some 6,.loadN 32 (.t 2)⟩,⟨none,some 7,.call 40 [.t 6,.c (.str [102,105,110,105,115,104,101,100]),.c .nils]⟩,⟨none,some 5,.alloc (.ints .u8 [0,0,0,0,0,0,0,0,0,0,0,0,0,0,0,0,0,0,0,0,0,0,0,0,0,0,0,0,0,0,0,0])⟩,⟨none,none,.storeN 32 (.t 5) (.t 7)⟩]) (.seq (.opsC [⟨none,some 8,.slcA 32 1 (.t 5) none none none⟩,⟨none,some 9,.slcA 32 1 (.t 3) none none none⟩,⟨none,some 10,.bsl 1 1 (.agg [.nils]) [(0,1,.t 9)]⟩,⟨none,some 11,.call 41 [.t 8,.t 10]⟩,⟨none,none,.storeN 32 (.t 4) (.t 11)⟩] []) .ret))
def rs19:List R:=[.cell 4 (some 32)]
theorem comp19:(Tryd.f19.body.bind fun c=>comp Tryd.prog [61,45,27,23,26,51] c [])=some (ir19,[]):=by kernel_rfl
theorem compR19:compR Tryd.prog Tryd.f19.results.toList=some rs19:=by kernel_rfl
theorem nt19:Tryd.f19.ntmps=12:=by kernel_rfl
/-- skiff/skifflaw15.finished -/
def ir20:C:=.seq (.ops [⟨none,some 2,.box (.t 0)⟩,⟨none,some 3,.box (.t 1)⟩,⟨none,some 4,.alloc (.ints .u8 [0,0,0,0,0,0,0,0,0,0,0,0,0,0,0,0,0,0,0,0,0,0,0,0,0,0,0,0,0,0,0,0])⟩]) (.seq (.ops [⟨none,some 6,.loadN 32 (.t 2)⟩,⟨none,some 7,.call 25 [.t 6,.c (.str [102,105,110,105,115,104,101,100]),.c .nils]⟩,⟨none,some 5,.alloc (.ints .u8 [0,0,0,0,0,0,0,0,0,0,0,0,0,0,0,0,0,0,0,0,0,0,0,0,0,0,0,0,0,0,0,0])⟩,⟨none,none,.storeN 32 (.t 5) (.t 7)⟩]) (.seq (.opsC [⟨none,some 8,.slcA 32 1 (.t 5) none none none⟩,⟨none,some 9,.slcA 32 1 (.t 3) none none none⟩,⟨none,some 10,.call 15 [.t 8,.t 9]⟩,⟨none,none,.storeN 32 (.t 4) (.t 10)⟩] []) .ret))
def rs20:List R:=[.cell 4 (some 32)]
theorem comp20:(Tryd.f20.body.bind fun c=>comp Tryd.prog [61,45,27,23,26,51] c [])=some (ir20,[]):=by kernel_rfl
theorem compR20:compR Tryd.prog Tryd.f20.results.toList=some rs20:=by kernel_rfl
theorem nt20:Tryd.f20.ntmps=11:=by kernel_rfl
/-- skiff/secrets.New -/
def ir21:C:=.seq (.ops [⟨none,some 2,.mov (.c .nilp)⟩]) (.seq (.seq (.ops [⟨none,some 3,.mov (.t 0)⟩,⟨none,some 4,.len (.t 3)⟩,⟨none,some 5,.bin .eql (.t 4) (.c (.int .i64 0))⟩]) (.cond (.t 5) (.ops [⟨none,some 6,.mks 1 1 (.int .u8 0) (.c (.int .i64 32)) (.c (.int .i64 32))⟩,⟨none,some 0,.mov (.t 6)⟩]) .skip)) (.seq (.ops [⟨none,some 7,.mks 1 1 (.int .u8 0) (.c (.int .i64 32)) (.c (.int .i64 32))⟩,⟨none,some 8,.mov (.t 0)⟩,⟨none,some 9,.call 39 [.t 7,.t 8]⟩,⟨none,some 10,.build (.agg [.nils,.int .u8 0,.int .u8 0,.int .u8 0,.int .u8 0,.int .u8 0,.int .u8 0,.int .u8 0,.int .u8 0,.int .u8 0,.int .u8 0,.int .u8 0,.int .u8 0,.int .u8 0,.int .u8 0,.int .u8 0,.int .u8 0,.int .u8 0,.int .u8 0,.int .u8 0,.int .u8 0,.int .u8 0,.int .u8 0,.int .u8 0,.int .u8 0,.int .u8 0,.int .u8 0,.int .u8 0,.int .u8 0,.int .u8 0,.int .u8 0,.int .u8 0,.int .u8 0]) [(1,32,.t 9)]⟩,⟨none,some 11,.box (.t 10)⟩,⟨none,some 2,.mov (.t 11)⟩]) .ret))
def rs21:List R:=[.t 2]
theorem comp21:(Tryd.f21.body.bind fun c=>comp Tryd.prog [61,45,27,23,26,51] c [])=some (ir21,[]):=by kernel_rfl
theorem compR21:compR Tryd.prog Tryd.f21.results.toList=some rs21:=by kernel_rfl
theorem nt21:Tryd.f21.ntmps=12:=by kernel_rfl
/-- skiff/skifflaw15.begin -/
def ir22:C:=.seq (.ops [⟨none,some 2,.alloc (.ints .u8 [0,0,0,0,0,0,0,0,0,0,0,0,0,0,0,0,0,0,0,0,0,0,0,0,0,0,0,0,0,0,0,0])⟩]) (.seq (.seq (.ops [⟨none,some 3,.mov (.t 0)⟩,⟨none,some 4,.len (.t 3)⟩,⟨none,some 5,.bin .eql (.t 4) (.c (.int .i64 0))⟩]) (.cond (.t 5) (.ops [⟨none,some 6,.mks 1 1 (.int .u8 0) (.c (.int .i64 32)) (.c (.int .i64 32))⟩,⟨none,some 0,.mov (.t 6)⟩]) .skip)) (.seq (.ops [⟨none,some 7,.mks 1 1 (.int .u8 0) (.c (.int .i64 32)) (.c (.int .i64 32))⟩,⟨none,some 8,.mov (.t 0)⟩,⟨none,some 9,.call 15 [.t 7,.t 8]⟩,⟨none,none,.storeN 32 (.t 2) (.t 9)⟩]) .ret))
def rs22:List R:=[.cell 2 (some 32)]
theorem comp22:(Tryd.f22.body.bind fun c=>comp Tryd.prog [61,45,27,23,26,51] c [])=some (ir22,[]):=by kernel_rfl
theorem compR22:compR Tryd.prog Tryd.f22.results.toList=some rs22:=by kernel_rfl
theorem nt22:Tryd.f22.ntmps=10:=by kernel_rfl
/-- skiff/skifflaw15.derive -/
def ir25:C:=.seq (.ops [⟨none,some 3,.box (.t 0)⟩,⟨none,some 6,.alloc (.ints .u8 [0,0,0,0,0,0,0,0,0,0,0,0,0,0,0,0,0,0,0,0,0,0,0,0,0,0,0,0,0,0,0,0])⟩]) (.seq (.ops [⟨none,some 7,.alloc (.ints .u8 [0,0,0,0,0,0,0,0,0,0,0,0,0,0,0,0,0,0,0,0,0,0,0,0,0,0,0,0,0,0,0,0])⟩]) (.seq (.opsC [⟨none,some 8,.slcA 32 1 (.t 7) none none none⟩,⟨none,some 9,.loadN 32 (.t 3)⟩,⟨none,some 10,.mov (.t 1)⟩,⟨none,some 11,.mov (.t 2)⟩,⟨none,some 12,.call 17 [.t 10,.t 11,.c (.int .i64 32)]⟩,⟨none,some 13,.call 16 [.t 9,.t 12,.c (.int .i64 32)]⟩,⟨none,some 14,.copy 1 (.t 8) (.t 13)⟩] []) (.seq (.ops [⟨none,some 15,.loadN 32 (.t 7)⟩,⟨none,none,.storeN 32 (.t 6) (.t 15)⟩]) .ret)))
def rs25:List R:=[.cell 6 (some 32)]
theorem comp25:(Tryd.f25.body.bind fun c=>comp Tryd.prog [61,45,27,23,26,51] c [])=some (ir25,[]):=by kernel_rfl
theorem compR25:compR Tryd.prog Tryd.f25.results.toList=some rs25:=by kernel_rfl
theorem nt25:Tryd.f25.ntmps=16:=by kernel_rfl
/-- (*skiff/secrets.Schedule).Traffic -/
def ir28:C:=.seq (.ops [⟨none,some 4,.alloc (.ints .u8 [0,0,0,0,0,0,0,0,0,0,0,0,0,0,0,0,0,0,0,0,0,0,0,0,0,0,0,0,0,0,0,0])⟩,⟨none,some 5,.alloc (.ints .u8 [0,0,0,0,0,0,0,0,0,0,0,0,0,0,0,0,0,0,0,0,0,0,0,0,0,0,0,0,0,0,0,0])⟩]) (.seq (.seq (.ops [⟨none,some 7,.mov (.t 0)⟩,⟨none,some 8,.binP .eql (.t 7) (.c .nilp)⟩]) (.cond (.t 8) (.seq (.ops [⟨none,some 9,.build (.ints .u8 [0,0,0,0,0,0,0,0,0,0,0,0,0,0,0,0,0,0,0,0,0,0,0,0,0,0,0,0,0,0,0,0]) []⟩,⟨none,some 10,.build (.ints .u8 [0,0,0,0,0,0,0,0,0,0,0,0,0,0,0,0,0,0,0,0,0,0,0,0,0,0,0,0,0,0,0,0]) []⟩,⟨none,none,.storeN 32 (.t 4) (.t 9)⟩,⟨none,none,.storeN 32 (.t 5) (.t 10)⟩]) .ret) .skip)) (.seq (.ops [⟨none,some 11,.mov (.t 0)⟩,⟨none,some 12,.nck (.t 11)⟩,⟨none,some 13,.fldA 0 (.t 12)⟩,⟨none,some 14,.call 46 [.t 13,.c .nils]⟩,⟨none,some 6,.alloc (.ints .u8 [0,0,0,0,0,0,0,0,0,0,0,0,0,0,0,0,0,0,0,0,0,0,0,0,0,0,0,0,0,0,0,0])⟩,⟨none,none,.storeN 32 (.t 6) (.t 14)⟩]) (.seq (.opsC [⟨none,some 15,.mov (.t 0)⟩,⟨none,some 16,.mov (.t 1)⟩,⟨none,some 17,.binS .add (.c (.str [99,32])) (.t 16)⟩,⟨none,some 18,.binS .add (.t 17) (.c (.str [32,116,114,97,102,102,105,99]))⟩,⟨none,some 19,.loadN 32 (.t 6)⟩,⟨none,some 20,.call 42 [.t 15,.t 18,.t 19]⟩,⟨none,some 21,.mov (.t 0)⟩,⟨none,some 22,.mov (.t 1)⟩,⟨none,some 23,.binS .add (.c (.str [115,32])) (.t 22)⟩,⟨none,some 24,.binS .add (.t 23) (.c (.str [32,116,114,97,102,102,105,99]))⟩,⟨none,some 25,.loadN 32 (.t 6)⟩,⟨none,some 26,.call 42 [.t 21,.t 24,.t 25]⟩,⟨none,none,.storeN 32 (.t 4) (.t 20)⟩,⟨none,none,.storeN 32 (.t 5) (.t 26)⟩] []) .ret)))
def rs28:List R:=[.cell 4 (some 32),.cell 5 (some 32)]
theorem comp28:(Tryd.f28.body.bind fun c=>comp Tryd.prog [61,45,27,23,26,51] c [])=some (ir28,[]):=by kernel_rfl
theorem compR28:compR Tryd.prog Tryd.f28.results.toList=some rs28:=by kernel_rfl
theorem nt28:Tryd.f28.ntmps=27:=by kernel_rfl
/-- (*skiff/secrets.Schedule).derive -/
def ir42:C:=.seq (.ops [⟨none,some 5,.box (.t 2)⟩,⟨none,some 6,.alloc (.ints .u8 [0,0,0,0,0,0,0,0,0,0,0,0,0,0,0,0,0,0,0,0,0,0,0,0,0,0,0,0,0,0,0,0])⟩]) (.seq (.opsC [⟨none,some 7,.mov (.t 0)⟩,⟨none,some 8,.nck (.t 7)⟩,⟨none,some 9,.fldA 1 (.t 8)⟩,⟨none,some 10,.loadN 32 (.t 9)⟩,⟨none,some 11,.mov (.t 1)⟩,⟨none,some 12,.slcA 32 1 (.t 5) none none none⟩,⟨none,some 13,.call 40 [.t 10,.t 11,.t 12]⟩,⟨none,none,.storeN 32 (.t 6) (.t 13)⟩] []) .ret)
def rs42:List R:=[.cell 6 (some 32)]
theorem comp42:(Tryd.f42.body.bind fun c=>comp Tryd.prog [61,45,27,23,26,51] c [])=some (ir42,[]):=by kernel_rfl
theorem compR42:compR Tryd.prog Tryd.f42.results.toList=some rs42:=by kernel_rfl
theorem nt42:Tryd.f42.ntmps=14:=by kernel_rfl
/-- (*skiff/secrets.log).sum -/
def ir46:C:=.seq (.ops [⟨none,some 4,.alloc (.ints .u8 [0,0,0,0,0,0,0,0,0,0,0,0,0,0,0,0,0,0,0,0,0,0,0,0,0,0,0,0,0,0,0,0])⟩]) (.seq (.ops [⟨none,some 5,.mov (.t 0)⟩,⟨none,some 6,.nck (.t 5)⟩,⟨none,some 7,.fldA 0 (.t 6)⟩,⟨none,some 8,.load (.t 7)⟩,⟨none,some 9,.bsl 1 1 (.agg [.nils]) [(0,1,.t 8)]⟩,⟨none,some 10,.mov (.t 1)⟩,⟨none,some 11,.app 1 24 (.t 9) (.t 10)⟩,⟨none,some 12,.call 43 [.t 11]⟩,⟨none,none,.storeN 32 (.t 4) (.t 12)⟩]) .ret)
def rs46:List R:=[.cell 4 (some 32)]
theorem comp46:(Tryd.f46.body.bind fun c=>comp Tryd.prog [61,45,27,23,26,51] c [])=some (ir46,[]):=by kernel_rfl
theorem compR46:compR Tryd.prog Tryd.f46.results.toList=some rs46:=by kernel_rfl
theorem nt46:Tryd.f46.ntmps=13:=by kernel_rfl
end Am

/-
Working texts: contracts of functions, and the numbers behind them.
-/
import Derived.Test.YtcefobjfkmfmiaaDoorShD
import Derived.Test.YtcefobjfkmfmiaaDoorAmRow
import Derived.Test.YtcefobjfkmfmiaaDoorAmLoop
set_option linter.unusedSimpArgs false
set_option linter.unusedVariables false
set_option linter.unusedSectionVars false
set_option maxRecDepth 20000
namespace Am
open Go.Proofs
theorem parts_cons {v:V} {vs:List V} (h:Part v) (ht:∀v∈vs,Part v):∀u∈v::vs,Part u:=fun u hu=>by
  rcases List.mem_cons.1 hu with rfl | hu
  · exact h
  · exact ht u hu
theorem parts_nil:∀u∈([]:List V),Part u:=fun u hu=>absurd hu (by simp)
theorem part_rsl {xs:List Int} (h:Dig 256 xs):Part (.rsl 1 xs.length .u8 xs):=.inr ⟨xs,rfl,h⟩
theorem part_rsl' {xs:List Int} {n:Nat} (h:Dig 256 xs) (hn:n=xs.length):Part (.rsl 1 n .u8 xs):=hn▸part_rsl h
theorem sum256_len (p:List Int):(sum256 p).length=32:=by rw[sum256,O256_len];rfl
end Am

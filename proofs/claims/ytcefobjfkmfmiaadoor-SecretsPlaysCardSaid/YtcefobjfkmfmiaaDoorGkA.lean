/-
Working texts: contracts of functions, and the numbers behind them.
-/
import Derived.Test.YtcefobjfkmfmiaaDoorShG
import Derived.Test.YtcefobjfkmfmiaaDoorIrE
set_option linter.unusedSimpArgs false
set_option linter.unusedVariables false
set_option linter.unusedSectionVars false
set_option maxRecDepth 20000
namespace Am
open Go.Proofs
/-! ### A secret's keys, the first secrets -/
theorem exps1_dig {s info:List Int}:∀i,Dig 256 (exps s info i).1
  | 0=>fun x hx=>absurd hx (by simp[exps])
  | i+1=>by rw[exps];exact Dig.append (exps1_dig i) (hmac_dig _ _)
theorem expand_dig (s info:List Int) (n:Nat):Dig 256 (expand s info n):=(exps1_dig _).take n
def ex (s l:List Int) (n:Nat):List Int:=expand s (labinfo l [] n) n
theorem lit_dig {l:List Int} (h:l.all (fun x=>decide (0≤x∧x<256))=true):Dig 256 l:=fun x hx=>of_decide_eq_true (List.all_eq_true.1 h x hx)
theorem ex_dig {s l:List Int} {n:Nat}:(ex s l n).length=n:=expand_len _ _ _
def Sec (s:List Int):Prop:=s.length=32∧Dig 256 s
end Am

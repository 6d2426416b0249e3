/-
Working texts: contracts of functions, and the numbers behind them.
-/
import Derived.Test.YtcefobjfkmfmiaaDoorShG
import Derived.Test.YtcefobjfkmfmiaaDoorIrE
import Derived.Test.YtcefobjfkmfmiaaDoorGeA
set_option linter.unusedSimpArgs false
set_option linter.unusedVariables false
set_option linter.unusedSectionVars false
set_option linter.unusedSimpArgs false
set_option linter.unusedVariables false
set_option maxRecDepth 20000
namespace Am
open Go.Proofs
/-! ### A secret's keys, the first secrets -/
theorem exps1_dig {s info : List Int} : ∀ i, Dig 256 (exps s info i).1
  | 0 => fun x hx => absurd hx (by simp [exps])
  | i + 1 => by rw [exps]; exact Dig.append (exps1_dig i) (hmac_dig _ _)
theorem expand_dig (s info : List Int) (n : Nat) : Dig 256 (expand s info n) := (exps1_dig _).take n
def lkey : List Int := [113, 117, 105, 99, 32, 107, 101, 121]
def lnon : List Int := [113, 117, 105, 99, 32, 105, 118]
def lmsk : List Int := [113, 117, 105, 99, 32, 104, 112]
def ex (s l : List Int) (n : Nat) : List Int := expand s (labinfo l [] n) n
def gkeys (s : List Int) : List Int := ex s lkey 16 ++ (ex s lnon 12 ++ ex s lmsk 16)
theorem lit_dig {l : List Int} (h : l.all (fun x => decide (0 ≤ x ∧ x < 256)) = true) : Dig 256 l := fun x hx => of_decide_eq_true (List.all_eq_true.1 h x hx)
theorem ex_dig {s l : List Int} {n : Nat} : (ex s l n).length = n := expand_len _ _ _
def Sec (s : List Int) : Prop := s.length = 32 ∧ Dig 256 s
def preSec (ds : List D) : Prop := ∃ s : List Int, ds = [.v (.ints .u8 s)] ∧ Sec s
theorem q_lab {s l : List Int} (h : Sec s) (hl : Dig 256 l) (n : Int) : pre38 [.v (.ints .u8 s), .v (.str l), .s .u8 [], .v (.int .i64 n)] := ⟨s, l, [], n, rfl, h.2, h.1, hl, fun x hx => by simp at hx⟩
def F13 : List D → Out
  | [.v (.ints _ s)] => .one (.v (.ints .u8 (gkeys s)))
  | _ => bad
def s13 : Summ := sData [.v] preSec F13
theorem ok13 {g : List Blk} [Ge gl g] : SumOK Tryd.prog g 13 s13 ∧ SumAbs s13 := by
  refine fsumA (l := [(38, s38)]) mixed gl_plain rfl Tryd.func13 comp13 compR13 nt13 (by simp only [List.mem_cons, List.not_mem_nil, or_false, forall_eq]; exact ok38) fun ds ⟨s, hd, hs⟩ hA => ?_
  subst hd
  have hsl := hs.1
  have ss : sub s 0 32 = s := sub_zero hsl
  have q1 := q_lab (l := lkey) hs (lit_dig rfl) 16
  have q2 := q_lab (l := lnon) hs (lit_dig rfl) 12
  have q3 := q_lab (l := lmsk) hs (lit_dig rfl) 16
  have n1 : ¬ Lng lkey [] := by decide
  have n2 : ¬ Lng lnon [] := by decide
  have n3 : ¬ Lng lmsk [] := by decide
  have t16 : (16 : Int).toNat = 16 := rfl
  have t12 : (12 : Int).toNat = 12 := rfl
  obtain ⟨A, hA1⟩ : ∃ A, expand s (labinfo lkey [] 16) 16 = A := ⟨_, rfl⟩
  obtain ⟨B, hB⟩ : ∃ A, expand s (labinfo lnon [] 12) 12 = A := ⟨_, rfl⟩
  obtain ⟨C, hC⟩ : ∃ A, expand s (labinfo lmsk [] 16) 16 = A := ⟨_, rfl⟩
  have hG : gkeys s = A ++ (B ++ C) := by rw [← hA1, ← hB, ← hC]; rfl
  have lA : A.length = 16 := by rw [← hA1, expand_len]
  have lB : B.length = 12 := by rw [← hB, expand_len]
  have lC : C.length = 16 := by rw [← hC, expand_len]
  have sA : sub A 0 16 = A := sub_zero lA
  have sB : sub B 0 12 = B := sub_zero lB
  have sC : sub C 0 16 = C := sub_zero lC
  simp only [lkey, lnon, lmsk] at q1 q2 q3 n1 n2 n3 hA1 hB hC
  have tA : A.take 16 = A := List.take_of_length_le (by omega)
  have tB : B.take 12 = B := List.take_of_length_le (by omega)
  have tC : C.take 16 = C := List.take_of_length_le (by omega)
  have e1 : spl (List.replicate 44 0) 0 A = A ++ List.replicate 28 0 := by
    simp [spl, lA]
  have e2 : spl (A ++ List.replicate 28 0) 16 B = A ++ (B ++ List.replicate 16 0) := by
    simp [spl, lA, lB, List.take_append, List.drop_append]
  have e3 : spl (A ++ (B ++ List.replicate 16 0)) 28 C = A ++ (B ++ C) := by
    simp [spl, lA, lB, lC, List.take_append, List.drop_append]
    rw [List.drop_of_length_le (by omega : A.length ≤ 44), List.drop_of_length_le (by omega : B.length ≤ 28)]; simp
    exact List.take_of_length_le (by omega)
  have lG : (A ++ (B ++ C)).length = 44 := by simp [lA, lB, lC]
  have sG : sub (A ++ (B ++ C)) 0 44 = A ++ (B ++ C) := sub_zero lG
  have pG : spl (List.replicate 44 0) 0 (A ++ (B ++ C)) = A ++ (B ++ C) := qdb (by simp [lA, lB, lC])
  simp only [List.reduceReplicate] at e1 e2 e3 pG
  simp only [s38]
  simp only [ir13, rs13, gl, F13, F60, hsl, ss, q1, q2, q3, n1, n2, n3, t16, t12, hA1, hB, hC, hG, lA, lB, lC, sA, sB, sC, tA, tB, tC, e1, e2, e3, lG, sG, pG, or_self, Nat.min_self, s38, F38, sub_zero, qdb, qai, List.length_cons, List.length_nil, Nat.reduceAdd, Nat.le_refl, Nat.reduceLeDiff, Nat.reduceLT, true_and, and_true, ↓evA, evB, evs, evp, mkB, repB, blen, ↓retQ, res, resAll, resOne, kill, apartOk, exp, injV, injB, pur, purs, purR, pursR, List.reduceReplicate, Nat.reduceAdd, Nat.reduceMul, Nat.reduceSub, Nat.reduceEqDiff, Nat.reduceLT, Int.reduceToNat, Int.reduceLE, Int.reduceLT, Int.reduceEq, reduceCtorEq, ↓reduceIte]
  repeat (refine And.intro (by omega) ?_)
  simp only [out, outs, out1, pur, and_self]
def lci : List Int := [99, 108, 105, 101, 110, 116, 32, 105, 110]
def lsi : List Int := [115, 101, 114, 118, 101, 114, 32, 105, 110]
def salt : List Int := [0x38, 0x76, 0x2c, 0xf7, 0xf5, 0x59, 0x34, 0xb3, 0x4d, 0x17, 0x9a, 0xe6, 0xa4, 0xc8, 0x0c, 0xad, 0xcc, 0xbb, 0x7f, 0x0a]
def preId (ds : List D) : Prop := ∃ b : List Int, ds = [.s .u8 b] ∧ Dig 256 b ∧ b.length ≤ 549755813888
def F14 : List D → Out
  | [.s _ b] => .many [.v (.ints .u8 (ex (hmac salt b) lci 32)), .v (.ints .u8 (ex (hmac salt b) lsi 32))]
  | _ => bad
def s14 : Summ := sData [.s .u8] preId F14
theorem ok14 {g : List Blk} [Ge gl g] : SumOK Tryd.prog g 14 s14 ∧ SumAbs s14 := by
  refine fsumA (l := [(39, s39), (40, s40)]) mixed gl_plain rfl Tryd.func14 comp14 compR14 nt14 (by simp only [List.mem_cons, List.not_mem_nil, or_false, forall_eq_or_imp, forall_eq]; exact ⟨ok39, ok40⟩) fun ds ⟨b, hd, hb, hbl⟩ hA => ?_
  subst hd
  have sb := qdd b
  have q1 : pre39 [.s .u8 salt, .s .u8 b] := ⟨_, _, rfl, lit_dig rfl, by decide, hb, hbl⟩
  have hm : (hmac salt b).length = 32 ∧ Dig 256 (hmac salt b) := ⟨hmac_len _ _, hmac_dig _ _⟩
  obtain ⟨s, hs⟩ : ∃ s, hmac salt b = s := ⟨_, rfl⟩
  rw [hs] at hm
  have hsl := hm.1
  have ss : sub s 0 32 = s := sub_zero hsl
  have ps : spl [0, 0, 0, 0, 0, 0, 0, 0, 0, 0, 0, 0, 0, 0, 0, 0, 0, 0, 0, 0, 0, 0, 0, 0, 0, 0, 0, 0, 0, 0, 0, 0] 0 s = s := qdb (by simp [hsl])
  have q2 : pre40 [.v (.ints .u8 s), .v (.str lci), .s .u8 []] := ⟨_, _, _, rfl, hm.2, hsl, lit_dig rfl, fun x hx => by simp at hx⟩
  have q3 : pre40 [.v (.ints .u8 s), .v (.str lsi), .s .u8 []] := ⟨_, _, _, rfl, hm.2, hsl, lit_dig rfl, fun x hx => by simp at hx⟩
  have k1 : labkey s lci [] = ex s lci 32 := by rw [labkey, if_neg (by decide)]; rfl
  have k2 : labkey s lsi [] = ex s lsi 32 := by rw [labkey, if_neg (by decide)]; rfl
  obtain ⟨A, hA1⟩ : ∃ A, ex s lci 32 = A := ⟨_, rfl⟩
  obtain ⟨B, hB⟩ : ∃ A, ex s lsi 32 = A := ⟨_, rfl⟩
  have lA : A.length = 32 := by rw [← hA1, ex_dig]
  have lB : B.length = 32 := by rw [← hB, ex_dig]
  have pA : spl [0, 0, 0, 0, 0, 0, 0, 0, 0, 0, 0, 0, 0, 0, 0, 0, 0, 0, 0, 0, 0, 0, 0, 0, 0, 0, 0, 0, 0, 0, 0, 0] 0 A = A := qdb (by simp [lA])
  have pB : spl [0, 0, 0, 0, 0, 0, 0, 0, 0, 0, 0, 0, 0, 0, 0, 0, 0, 0, 0, 0, 0, 0, 0, 0, 0, 0, 0, 0, 0, 0, 0, 0] 0 B = B := qdb (by simp [lB])
  have sA : sub A 0 32 = A := sub_zero lA
  have sB : sub B 0 32 = B := sub_zero lB
  rw [hA1] at k1
  rw [hB] at k2
  have hF : F14 [.s .u8 b] = .many [.v (.ints .u8 A), .v (.ints .u8 B)] := by
    show Out.many [.v (.ints .u8 (ex (hmac salt b) lci 32)), .v (.ints .u8 (ex (hmac salt b) lsi 32))] = _
    rw [hs, hA1, hB]
  have ssalt : sub salt 0 20 = salt := rfl
  simp only [salt] at q1 hs ssalt
  simp only [lci, lsi] at q2 q3 k1 k2
  simp only [s39, s40]
  simp only [ir14, rs14, gl, hF, q1, hs, hsl, ss, ps, q2, q3, k1, k2, sb, pA, pB, sA, sB, lA, lB, ssalt, s39, s40, F39, F40, sub_zero, qdb, qai, List.length_cons, List.length_nil, Nat.reduceAdd, Nat.le_refl, Nat.reduceLeDiff, Nat.reduceLT, true_and, and_true, ↓evA, evB, evs, evp, mkB, repB, blen, ↓retQ, res, resAll, resOne, kill, apartOk, exp, injV, injB, pur, purs, purR, pursR, List.reduceReplicate, Nat.reduceAdd, Nat.reduceMul, Nat.reduceSub, Nat.reduceEqDiff, Nat.reduceLT, Int.reduceToNat, Int.reduceLE, Int.reduceLT, Int.reduceEq, reduceCtorEq, ↓reduceIte]
  repeat (refine And.intro (by omega) ?_)
  simp only [out, outs, out1, pur, and_self]
end Am
set_option linter.unusedSimpArgs false
set_option linter.unusedVariables false
set_option maxRecDepth 20000
namespace Am
open Go.Proofs
/-! ### The example of the chapter -/
def idx : List Int := [0x83, 0x94, 0xc8, 0xf0, 0x3e, 0x51, 0x57, 0x08]
theorem aw13 : (getI (gkeys (ex (hmac salt idx) lci 32)) 0 = 31 ∧ getI (gkeys (ex (hmac salt idx) lci 32)) 1 = 54 ∧ getI (gkeys (ex (hmac salt idx) lci 32)) 15 = 45) ∧ getI (gkeys (ex (hmac salt idx) lci 32)) 16 = 250 ∧ getI (gkeys (ex (hmac salt idx) lci 32)) 28 = 159 := by decide +kernel
theorem gkeys_len (s : List Int) : (gkeys s).length = 44 := by simp [gkeys, ex_dig]
theorem exps_dig' (s l : List Int) (n : Nat) : Dig 256 (ex s l n) := by
  exact expand_dig _ _ _
def FTrue : List D → Out
  | _ => .one (.v (.bool true))
def F12 : List D → Out
  | _ => .one (.v (.bool true))
def pre12 (ds : List D) : Prop := ds = []
def s12 : Summ := sData [] pre12 F12
set_option maxHeartbeats 2000000 in
theorem ok12 {g : List Blk} [Ge gl g] : SumOK Tryd.prog g 12 s12 ∧ SumAbs s12 := by
  refine fsumA (l := [(14, s14), (13, s13)]) mixed gl_plain rfl Tryd.func12 comp12 compR12 nt12 (by simp only [List.mem_cons, List.not_mem_nil, or_false, forall_eq_or_imp, forall_eq]; exact ⟨ok14, ok13⟩) fun ds hd hA => ?_
  rw [hd]
  have q1 : preId [.s .u8 idx] := ⟨_, rfl, lit_dig rfl, by decide⟩
  have sI : sub idx 0 8 = idx := rfl
  obtain ⟨⟨a1, a2, a3⟩, a4, a5⟩ := aw13
  obtain ⟨A, hA1⟩ : ∃ A, ex (hmac salt idx) lci 32 = A := ⟨_, rfl⟩
  obtain ⟨B, hB⟩ : ∃ A, ex (hmac salt idx) lsi 32 = A := ⟨_, rfl⟩
  have lA : A.length = 32 := by rw [← hA1, ex_dig]
  have dA : Dig 256 A := by rw [← hA1]; exact exps_dig' _ _ _
  have lB : B.length = 32 := by rw [← hB, ex_dig]
  rw [hA1] at a1 a2 a3 a4 a5
  obtain ⟨G, hG⟩ : ∃ G, gkeys A = G := ⟨_, rfl⟩
  have lG : G.length = 44 := by rw [← hG, gkeys_len]
  rw [hG] at a1 a2 a3 a4 a5
  have q2 : preSec [.v (.ints .u8 A)] := ⟨_, rfl, lA, dA⟩
  have pA : spl [0, 0, 0, 0, 0, 0, 0, 0, 0, 0, 0, 0, 0, 0, 0, 0, 0, 0, 0, 0, 0, 0, 0, 0, 0, 0, 0, 0, 0, 0, 0, 0] 0 A = A := qdb (by simp [lA])
  have pB : spl [0, 0, 0, 0, 0, 0, 0, 0, 0, 0, 0, 0, 0, 0, 0, 0, 0, 0, 0, 0, 0, 0, 0, 0, 0, 0, 0, 0, 0, 0, 0, 0] 0 B = B := qdb (by simp [lB])
  have sA : sub A 0 32 = A := sub_zero lA
  have pG : spl (List.replicate 44 0) 0 G = G := qdb (by simp [lG])
  have hF : F14 [.s .u8 idx] = .many [.v (.ints .u8 A), .v (.ints .u8 B)] := by
    show Out.many [.v (.ints .u8 (ex (hmac salt idx) lci 32)), .v (.ints .u8 (ex (hmac salt idx) lsi 32))] = _
    rw [hA1, hB]
  have hF2 : F13 [.v (.ints .u8 A)] = .one (.v (.ints .u8 G)) := by
    show Out.one (.v (.ints .u8 (gkeys A))) = _
    rw [hG]
  simp only [idx] at q1 sI hF
  simp only [List.reduceReplicate] at pG
  simp only [s14, s13]
  simp only [ir12, rs12, gl, F12, q1, sI, hF, q2, hF2, lA, lB, lG, pA, pB, sA, pG, a1, a2, a3, a4, a5, sub_zero, qdb, qai, List.length_cons, List.length_nil, Nat.reduceAdd, Nat.le_refl, Nat.reduceLeDiff, Nat.reduceLT, true_and, and_true, ↓evA, evB, evs, evp, mkB, repB, blen, ↓retQ, res, resAll, resOne, kill, apartOk, exp, injV, injB, pur, purs, purR, pursR, List.reduceReplicate, Nat.reduceAdd, Nat.reduceMul, Nat.reduceSub, Nat.reduceEqDiff, Nat.reduceLT, Int.reduceToNat, Int.reduceLE, Int.reduceLT, Int.reduceEq, reduceCtorEq, ↓reduceIte]
  repeat (refine And.intro (by omega) ?_)
  simp only [out, outs, out1, pur, and_self]
end Am
set_option linter.unusedSimpArgs false
set_option linter.unusedVariables false
set_option maxRecDepth 20000
namespace Am
open Go.Proofs
theorem z_sRT {shs : List Sh} {pre : List D → Prop} {F : List D → RT} {vs : List V} {hp : List Blk} {K : Ef → Prop} : sRT shs pre F vs hp K = rds hp shs vs fun ds => @Wi (List D) ⟨fun ds => pre ds ∧ @Wi RT ⟨fun o => @Wi Ef ⟨K⟩ (expT hp.length o)⟩ (F ds)⟩ ds := by
  simp only [qaa]; rw [sRT]
/-! ### A law's case -/
theorem injV_cs (r : List D) (n : Nat) : ∀ s : List Int, injV (s.map (fun x => D.v (.int .u8 x)) ++ r) n = s.map (V.int .u8) ++ injV r n
  | [] => rfl
  | x :: s => by simp only [List.map_cons, List.cons_append, injV, injV_cs r n s]
theorem injB_cs (ro : Bool) (r : List D) : ∀ s : List Int, injB ro (s.map (fun x => D.v (.int .u8 x)) ++ r) = injB ro r
  | [] => rfl
  | x :: s => by simp only [List.map_cons, List.cons_append, injB, injB_cs ro r s]
def caseG : List (Nat × (List D → Prop)) := [(32, DArr 32 .u8), (1, DInt .i64), (1, DSl .u8), (1, DSl .u8), (1, DInt .u64), (1, DInt .u64), (1, DBool), (1, DSl .u8)]
theorem case_of {C : List D} (h : Dm caseG C) : ∃ (s to fr b : List Int) (sp : Int) (pn ac : Nat) (r : Bool), C = s.map (fun x => D.v (.int .u8 x)) ++ [.v (.int .i64 sp), .s .u8 to, .s .u8 fr, .v (.int .u64 (pn : Int)), .v (.int .u64 (ac : Int)), .v (.bool r), .s .u8 b] ∧
    Sec s ∧ (-9223372036854775808 ≤ sp ∧ sp < 9223372036854775808) ∧ Dig 256 to ∧ Dig 256 fr ∧ pn < 18446744073709551616 ∧ ac < 18446744073709551616 ∧ Dig 256 b := by
  obtain ⟨a0, t0, rfl, -, ⟨s, rfl, hs, hsw⟩, a1, t1, rfl, -, ⟨sp, rfl, hspw⟩, a2, t2, rfl, -, ⟨to, rfl, hto, -⟩, a3, t3, rfl, -, ⟨fr, rfl, hfr, -⟩, a4, t4, rfl, -, ⟨pn, rfl, hpn⟩, a5, t5, rfl, -, ⟨ac, rfl, hac⟩, a6, t6, rfl, -, ⟨r, rfl⟩, a7, t7, rfl, -, ⟨b, rfl, hb, -⟩, rfl⟩ := h
  have p1 := wf_u64 hpn
  have p2 := wf_u64 hac
  obtain ⟨pn, rfl⟩ := Int.eq_ofNat_of_zero_le p1.1
  obtain ⟨ac, rfl⟩ := Int.eq_ofNat_of_zero_le p2.1
  exact ⟨s, to, fr, b, sp, pn, ac, r, rfl, ⟨hs, dig_u8 hsw⟩, wf_i64 hspw, dig_u8 hto, dig_u8 hfr, by omega, by omega, dig_u8 hb⟩
theorem allI_app (k : Go.IntKind) (l : List V) : ∀ s : List Int, allI k (s.map (V.int k) ++ l) = (allI k l).map (s ++ ·)
  | [] => by cases h : allI k l <;> simp [h]
  | x :: s => by
    have ih := allI_app k l s
    simp only [List.map_cons, List.cons_append, allI, ih]
    cases h : allI k l <;> simp [h]
theorem agI_cs {s : List Int} (hs : s.length = 32) {l : List V} (h : allI .u8 l = none) : agI (cs s l) = .agg (cs s l) := by
  cases s with
  | nil => simp at hs
  | cons x s =>
    have := allI_app .u8 l (x :: s)
    rw [h] at this
    unfold cs
    simp only [List.map_cons, List.cons_append] at this ⊢
    unfold agI
    simp only [this, Option.map_none]
theorem frzs_map (f : V → (V → Prop) → Prop) (hf : ∀ x K, f (.int .u8 x) K = K (.int .u8 x)) (l : List V) : ∀ (s : List Int) (K : List V → Prop), frzs f (s.map (V.int .u8) ++ l) K = frzs f l fun r => K (s.map (V.int .u8) ++ r)
  | [], K => rfl
  | x :: s, K => by
    simp only [List.map_cons, List.cons_append, frzs, hf, frzs_map f hf l s]
theorem pursR_cs (s : List Int) (l : List V) : pursR (cs s l) = pursR l := by
  unfold cs
  induction s with
  | nil => rfl
  | cons x s ih => simp only [List.map_cons, List.cons_append, pursR, purR, Bool.true_and, ih]
theorem purs_cs {to fr b : List Int} {s : List Int} {sp pn ac : Int} {r : Bool} : pursR (cs s [.int .i64 sp, .slice 4 0 1 to.length to.length, .slice 5 0 1 fr.length fr.length, .int .u64 pn, .int .u64 ac, .bool r, .slice 6 0 1 b.length b.length]) = false := by
  rw [pursR_cs]; rfl
theorem frzs_cs {to fr b : List Int} {hp : List Blk} {s : List Int} {sp pn ac : Int} {r : Bool} {K : List V → Prop} (h1 : nthB hp 4 = .ints true .u8 to) (h2 : nthB hp 5 = .ints true .u8 fr) (h3 : nthB hp 6 = .ints true .u8 b) :
    frzs (frz hp 3) (cs s [.int .i64 sp, .slice 4 0 1 to.length to.length, .slice 5 0 1 fr.length fr.length, .int .u64 pn, .int .u64 ac, .bool r, .slice 6 0 1 b.length b.length]) K =
      K (cs s [.int .i64 sp, .rsl 1 to.length .u8 to, .rsl 1 fr.length .u8 fr, .int .u64 pn, .int .u64 ac, .bool r, .rsl 1 b.length .u8 b]) := by
  have s1 := qdd to
  have s2 := qdd fr
  have s3 := qdd b
  unfold cs
  rw [frzs_map _ (fun x K => by simp [frz, purR])]
  simp [frzs, frz, h1, h2, h3, purR, s1, s2, s3]
end Am
set_option linter.unusedSimpArgs false
set_option linter.unusedVariables false
set_option maxRecDepth 20000
namespace Am
open Go.Proofs
/-! ### GuardBack -/
def preGB (ds : List D) : Prop := ∃ (C : List D) (near : Int) (more : List Int), ds = C ++ [.v (.int .u16 near), .s .u8 more] ∧ Dm caseG C ∧ (0 ≤ near ∧ near < 65536) ∧ Dig 256 more
theorem gkeys_dig (s : List Int) : Dig 256 (gkeys s) := by
  unfold gkeys
  exact (exps_dig' _ _ _).append ((exps_dig' _ _ _).append (exps_dig' _ _ _))
set_option maxHeartbeats 8000000 in
theorem lawGuardBack : ∀ ds, preGB ds → Does Tryd.prog gl 9 (fold [some 39, none, none] (injV ds 4)) (gl ++ injB true ds) (out (4 + (injB true ds).length) (FTrue ds)) := by
  refine fdoesF (l := [(12, s12), (31, s31), (32, s32), (35, s35), (13, s13), (33, s33), (36, s36)]) mixed gl_plain rfl Tryd.func9 comp9 compR9 nt9 (by simp only [List.mem_cons, List.not_mem_nil, or_false, forall_eq_or_imp, forall_eq]; exact ⟨ok12, ok31, ok32, ok35, ok13, ok33, ok36⟩) fun ds ⟨C, near, more, hd, hC, hnear, hmore⟩ hA => ?_
  obtain ⟨near, rfl⟩ := Int.eq_ofNat_of_zero_le hnear.1
  obtain ⟨s, to, fr, b, sp, pn, ac, r, hCe, hs, hsp, hto, hfr, hpn, hac, hb⟩ := case_of hC
  subst hCe
  subst hd
  have hsl := hs.1
  have hvI : injV ((s.map (fun x => D.v (.int .u8 x)) ++ [.v (.int .i64 sp), .s .u8 to, .s .u8 fr, .v (.int .u64 (pn : Int)), .v (.int .u64 (ac : Int)), .v (.bool r), .s .u8 b]) ++ [.v (.int .u16 near), .s .u8 more]) 4 =
      cs s [.int .i64 sp, .slice 4 0 1 to.length to.length, .slice 5 0 1 fr.length fr.length, .int .u64 (pn : Int), .int .u64 (ac : Int), .bool r, .slice 6 0 1 b.length b.length, .int .u16 near, .slice 7 0 1 more.length more.length] := by
    rw [List.append_assoc, injV_cs]; rfl
  have hbI : injB true ((s.map (fun x => D.v (.int .u8 x)) ++ [.v (.int .i64 sp), .s .u8 to, .s .u8 fr, .v (.int .u64 (pn : Int)), .v (.int .u64 (ac : Int)), .v (.bool r), .s .u8 b]) ++ [.v (.int .u16 near), .s .u8 more]) =
      [.ints true .u8 to, .ints true .u8 fr, .ints true .u8 b, .ints true .u8 more] := by
    rw [List.append_assoc, injB_cs]; rfl
  have hfo : fold [some 39, none, none] (cs s [.int .i64 sp, .slice 4 0 1 to.length to.length, .slice 5 0 1 fr.length fr.length, .int .u64 (pn : Int), .int .u64 (ac : Int), .bool r, .slice 6 0 1 b.length b.length, .int .u16 near, .slice 7 0 1 more.length more.length]) =
      [.agg (cs s [.int .i64 sp, .slice 4 0 1 to.length to.length, .slice 5 0 1 fr.length fr.length, .int .u64 (pn : Int), .int .u64 (ac : Int), .bool r, .slice 6 0 1 b.length b.length]), .int .u16 near, .slice 7 0 1 more.length more.length] := by
    have t1 : List.take 39 (s.map (V.int .u8)) = s.map (V.int .u8) := List.take_of_length_le (by simp [hsl])
    have t2 : List.drop 39 (s.map (V.int .u8)) = [] := List.drop_of_length_le (by simp [hsl])
    simp [fold, cs, List.take_append, List.drop_append, hsl, t1, t2]
  have hg : ∀ ds : List D, FTrue ds = .one (.v (.bool true)) := fun _ => rfl
  rw [hbI]
  simp only [hvI, hfo, hg]
  clear hvI hbI hfo hg
  have hlen : ∀ r : Bool, (cs s [.int .i64 sp, .slice 4 0 1 to.length to.length, .slice 5 0 1 fr.length fr.length, .int .u64 (pn : Int), .int .u64 (ac : Int), .bool r, .slice 6 0 1 b.length b.length]).length = 39 := fun r => cs_len hsl _
  have hsub : ∀ r : Bool, sub (cs s [.int .i64 sp, .slice 4 0 1 to.length to.length, .slice 5 0 1 fr.length fr.length, .int .u64 (pn : Int), .int .u64 (ac : Int), .bool r, .slice 6 0 1 b.length b.length]) 0 39 = cs s [.int .i64 sp, .slice 4 0 1 to.length to.length, .slice 5 0 1 fr.length fr.length, .int .u64 (pn : Int), .int .u64 (ac : Int), .bool r, .slice 6 0 1 b.length b.length] := fun r => sub_zero (hlen r)
  have hagc : ∀ r : Bool, agI (cs s [.int .i64 sp, .slice 4 0 1 to.length to.length, .slice 5 0 1 fr.length fr.length, .int .u64 (pn : Int), .int .u64 (ac : Int), .bool r, .slice 6 0 1 b.length b.length]) = .agg (cs s [.int .i64 sp, .slice 4 0 1 to.length to.length, .slice 5 0 1 fr.length fr.length, .int .u64 (pn : Int), .int .u64 (ac : Int), .bool r, .slice 6 0 1 b.length b.length]) := fun r => agI_cs hsl rfl
  have hn6 : ∀ r : Bool, nth (cs s [.int .i64 sp, .slice 4 0 1 to.length to.length, .slice 5 0 1 fr.length fr.length, .int .u64 (pn : Int), .int .u64 (ac : Int), .bool r, .slice 6 0 1 b.length b.length]) 38 = .slice 6 0 1 b.length b.length := fun r => cs_nth hsl _ 6
  have hup : upd (cs s [.int .i64 sp, .slice 4 0 1 to.length to.length, .slice 5 0 1 fr.length fr.length, .int .u64 (pn : Int), .int .u64 (ac : Int), .bool r, .slice 6 0 1 b.length b.length]) 37 (.bool true) = cs s [.int .i64 sp, .slice 4 0 1 to.length to.length, .slice 5 0 1 fr.length fr.length, .int .u64 (pn : Int), .int .u64 (ac : Int), .bool true, .slice 6 0 1 b.length b.length] := by
    rw [upd_set, cs, cs, List.set_append_right _ _ (by simp [hsl]), List.length_map, hsl]; rfl
  have hs32 : ∀ r : Bool, sub (cs s [.int .i64 sp, .slice 4 0 1 to.length to.length, .slice 5 0 1 fr.length fr.length, .int .u64 (pn : Int), .int .u64 (ac : Int), .bool r, .slice 6 0 1 b.length b.length]) 0 32 = s.map (V.int .u8) := fun r => cs_sub hsl _
  have hags : agI (s.map (V.int .u8)) = .ints .u8 s := agI_ints (fun h => by rw [h] at hsl; simp at hsl)
  have sb := qdd b
  have smo := qdd more
  have pA : pre12 [] := rfl
  have fA : F12 [] = .one (.v (.bool true)) := rfl
  have qL : preLng [.v (.agg (cs s [.int .i64 sp, .rsl 1 to.length .u8 to, .rsl 1 fr.length .u8 fr, .int .u64 (pn : Int), .int .u64 (ac : Int), .bool r, .rsl 1 b.length .u8 b]))] := ⟨s, to, fr, b, sp, pn, ac, r, rfl, hsl⟩
  have fL : lngF [.v (.agg (cs s [.int .i64 sp, .rsl 1 to.length .u8 to, .rsl 1 fr.length .u8 fr, .int .u64 (pn : Int), .int .u64 (ac : Int), .bool r, .rsl 1 b.length .u8 b]))] = .one (.v (.bool (decide (50 < to.length) || decide (50 < fr.length) || decide (120 < b.length)))) := by
    have h1 := cs_nth hsl [.int .i64 sp, .rsl 1 to.length .u8 to, .rsl 1 fr.length .u8 fr, .int .u64 (pn : Int), .int .u64 (ac : Int), .bool r, .rsl 1 b.length .u8 b] 1
    have h2 := cs_nth hsl [.int .i64 sp, .rsl 1 to.length .u8 to, .rsl 1 fr.length .u8 fr, .int .u64 (pn : Int), .int .u64 (ac : Int), .bool r, .rsl 1 b.length .u8 b] 2
    have h6 := cs_nth hsl [.int .i64 sp, .rsl 1 to.length .u8 to, .rsl 1 fr.length .u8 fr, .int .u64 (pn : Int), .int .u64 (ac : Int), .bool r, .rsl 1 b.length .u8 b] 6
    simp only [nth, Nat.reduceAdd] at h1 h2 h6
    simp only [lngF, h1, h2, h6, vl]
  obtain ⟨bl, hbl⟩ : ∃ bl, (decide (50 < to.length) || decide (50 < fr.length) || decide (120 < b.length)) = bl := ⟨_, rfl⟩
  rw [hbl] at fL
  simp only [s12, s31, s32, s35, s13, s33, s36]
  by_cases hml : 100 < more.length
  · have c1 : (100 : Int) < (more.length : Int) := by omega
    cases bl with
    | true =>
      simp only [ir9, rs9, gl, pA, fA, hlen, hsub, hagc, ↓purs_cs, ↓frzs_cs, qL, fL, c1, sub_zero, qdb, qai, List.length_cons, List.length_nil, Nat.reduceAdd, Nat.le_refl, Nat.reduceLeDiff, Nat.reduceLT, true_and, and_true, ↓evA, evB, evs, evp, mkB, repB, blen, ↓retQ, res, resAll, resOne, kill, apartOk, exp, injV, injB, pur, purs, purR, pursR, List.reduceReplicate, Nat.reduceAdd, Nat.reduceMul, Nat.reduceSub, Nat.reduceEqDiff, Nat.reduceLT, Int.reduceToNat, Int.reduceLE, Int.reduceLT, Int.reduceEq, reduceCtorEq, ↓reduceIte]
      exact out_bool rfl
    | false =>
    simp only [ir9, rs9, gl, pA, fA, hlen, hsub, hagc, ↓purs_cs, ↓frzs_cs, qL, fL, c1, sub_zero, qdb, qai, List.length_cons, List.length_nil, Nat.reduceAdd, Nat.le_refl, Nat.reduceLeDiff, Nat.reduceLT, true_and, and_true, ↓evA, evB, evs, evp, mkB, repB, blen, ↓retQ, res, resAll, resOne, kill, apartOk, exp, injV, injB, pur, purs, purR, pursR, List.reduceReplicate, Nat.reduceAdd, Nat.reduceMul, Nat.reduceSub, Nat.reduceEqDiff, Nat.reduceLT, Int.reduceToNat, Int.reduceLE, Int.reduceLT, Int.reduceEq, reduceCtorEq, ↓reduceIte]
    exact out_bool rfl
  have c1 : ¬ (100 : Int) < (more.length : Int) := by omega
  cases bl with
  | true =>
    simp only [ir9, rs9, gl, pA, fA, hlen, hsub, hagc, ↓purs_cs, ↓frzs_cs, qL, fL, c1, sub_zero, qdb, qai, List.length_cons, List.length_nil, Nat.reduceAdd, Nat.le_refl, Nat.reduceLeDiff, Nat.reduceLT, true_and, and_true, ↓evA, evB, evs, evp, mkB, repB, blen, ↓retQ, res, resAll, resOne, kill, apartOk, exp, injV, injB, pur, purs, purR, pursR, List.reduceReplicate, Nat.reduceAdd, Nat.reduceMul, Nat.reduceSub, Nat.reduceEqDiff, Nat.reduceLT, Int.reduceToNat, Int.reduceLE, Int.reduceLT, Int.reduceEq, reduceCtorEq, ↓reduceIte]
    exact out_bool rfl
  | false =>
  simp only [Bool.or_eq_false_iff, decide_eq_false_iff_not] at hbl
  obtain ⟨⟨l1, l2⟩, l3⟩ := hbl
  have qH : preHd [.v (.agg (cs s [.int .i64 sp, .rsl 1 to.length .u8 to, .rsl 1 fr.length .u8 fr, .int .u64 (pn : Int), .int .u64 (ac : Int), .bool true, .rsl 1 b.length .u8 b]))] := ⟨s, to, fr, b, sp, pn, ac, rfl, hsl, hsp, by omega, by omega, hpn⟩
  have fH : hdF [.v (.agg (cs s [.int .i64 sp, .rsl 1 to.length .u8 to, .rsl 1 fr.length .u8 fr, .int .u64 (pn : Int), .int .u64 (ac : Int), .bool true, .rsl 1 b.length .u8 b]))] =
      ⟨[some 3, none, none], [.v (.int .i64 (sp3 sp : Nat)), .s .u8 (p8 to), .s .u8 (p8 fr), .v (.int .u64 (pnR (pn : Int) : Nat)), .v (.int .u64 (acR (pn : Int) (ac : Int) : Nat))]⟩ := by
    have h0 := cs_nth hsl [.int .i64 sp, .rsl 1 to.length .u8 to, .rsl 1 fr.length .u8 fr, .int .u64 (pn : Int), .int .u64 (ac : Int), .bool true, .rsl 1 b.length .u8 b] 0
    have h1 := cs_nth hsl [.int .i64 sp, .rsl 1 to.length .u8 to, .rsl 1 fr.length .u8 fr, .int .u64 (pn : Int), .int .u64 (ac : Int), .bool true, .rsl 1 b.length .u8 b] 1
    have h2 := cs_nth hsl [.int .i64 sp, .rsl 1 to.length .u8 to, .rsl 1 fr.length .u8 fr, .int .u64 (pn : Int), .int .u64 (ac : Int), .bool true, .rsl 1 b.length .u8 b] 2
    have h3 := cs_nth hsl [.int .i64 sp, .rsl 1 to.length .u8 to, .rsl 1 fr.length .u8 fr, .int .u64 (pn : Int), .int .u64 (ac : Int), .bool true, .rsl 1 b.length .u8 b] 3
    have h4 := cs_nth hsl [.int .i64 sp, .rsl 1 to.length .u8 to, .rsl 1 fr.length .u8 fr, .int .u64 (pn : Int), .int .u64 (ac : Int), .bool true, .rsl 1 b.length .u8 b] 4
    simp only [nth, Nat.reduceAdd] at h0 h1 h2 h3 h4
    simp only [hdF, h0, h1, h2, h3, h4, vxs, vn]
  have hTd : Dig 256 (p8 to) := p8_dig hto
  have hRd : Dig 256 (p8 fr) := p8_dig hfr
  have hTl : (p8 to).length = 8 := p8_len to
  have hRl : (p8 fr).length = 8 := p8_len fr
  have hz3 : sp3 sp < 3 := by unfold sp3; omega
  have hP : pnR (pn : Int) < 4611686018427387904 := by unfold pnR; exact Nat.mod_lt _ (by decide)
  have hQ : acR (pn : Int) (ac : Int) ≤ pnR (pn : Int) ∧ pnR (pn : Int) - acR (pn : Int) (ac : Int) < 70000 := by
    unfold acR
    have : (ac : Int).toNat % 70000 < 70000 := Nat.mod_lt _ (by decide)
    omega
  obtain ⟨T, hT⟩ : ∃ T, p8 to = T := ⟨_, rfl⟩
  obtain ⟨R, hR⟩ : ∃ R, p8 fr = R := ⟨_, rfl⟩
  obtain ⟨z, hz⟩ : ∃ z, sp3 sp = z := ⟨_, rfl⟩
  obtain ⟨P, hPe⟩ : ∃ P, pnR (pn : Int) = P := ⟨_, rfl⟩
  obtain ⟨Q, hQe⟩ : ∃ Q, acR (pn : Int) (ac : Int) = Q := ⟨_, rfl⟩
  rw [hT, hR, hz, hPe, hQe] at fH
  rw [hT] at hTd hTl
  rw [hR] at hRd hRl
  rw [hz] at hz3
  rw [hPe] at hP hQ
  rw [hQe] at hQ
  have hE : expT 9 ⟨[some 3, none, none], [.v (.int .i64 (z : Int)), .s .u8 T, .s .u8 R, .v (.int .u64 (P : Int)), .v (.int .u64 (Q : Int))]⟩ =
      ⟨.tup [.agg [.int .i64 (z : Int), .slice 9 0 1 8 8, .slice 10 0 1 8 8], .int .u64 (P : Int), .int .u64 (Q : Int)], [], [.ints false .u8 T, .ints false .u8 R]⟩ := by
    simp [expT, fold, injV, injB, hTl, hRl]
  have qP : prePl [.v (.int .i64 (z : Int))] := ⟨z, rfl, hz3⟩
  have fP : F35 [.v (.int .i64 (z : Int))] = .one (.v (.int .i64 (atF (z : Int) : Nat))) := by
    rcases (by omega : z = 0 ∨ z = 1 ∨ z = 2) with rfl | rfl | rfl <;> rfl
  have q1 : preSec [.v (.ints .u8 s)] := ⟨_, rfl, hs⟩
  have f1 : F13 [.v (.ints .u8 s)] = .one (.v (.ints .u8 (gkeys s))) := rfl
  have hK : K44 (gkeys s) := ⟨gkeys_len s, gkeys_dig s⟩
  obtain ⟨k, hk⟩ : ∃ k, gkeys s = k := ⟨_, rfl⟩
  rw [hk] at f1 hK
  have hkl := hK.1
  have sk : sub k 0 44 = k := sub_zero hkl
  have pk : spl (List.replicate 44 0) 0 k = k := qdb (by simp [hkl])
  simp only [List.reduceReplicate] at pk
  have sT : sub T 0 8 = T := sub_zero hTl
  have sR : sub R 0 8 = R := sub_zero hRl
  have hag : agI [V.int .i64 (z : Int), .slice 9 0 1 8 8, .slice 10 0 1 8 8] = .agg [V.int .i64 (z : Int), .slice 9 0 1 8 8, .slice 10 0 1 8 8] := rfl
  have hs3 : sub [V.int .i64 (z : Int), .slice 9 0 1 8 8, .slice 10 0 1 8 8] 0 3 = [V.int .i64 (z : Int), .slice 9 0 1 8 8, .slice 10 0 1 8 8] := rfl
  have hpr : pursR [V.int .i64 (z : Int), .slice 9 0 1 8 8, .slice 10 0 1 8 8] = false := rfl
  have hsp3 : spl [V.int .i64 0, .nils, .nils] 0 [V.int .i64 (z : Int), .slice 9 0 1 8 8, .slice 10 0 1 8 8] = [V.int .i64 (z : Int), .slice 9 0 1 8 8, .slice 10 0 1 8 8] := rfl
  have hok : hdOK (z : Int) T R = true := hdOK_iff.2 ⟨hTl, by omega, by omega, .inr hRl⟩
  have q2 : preGS [.v (.ints .u8 k), .v (.agg [.int .i64 (z : Int), .rsl 1 8 .u8 T, .rsl 1 8 .u8 R]), .v (.int .u64 (P : Int)), .v (.int .u64 (Q : Int)), .s .u8 b] :=
    ⟨k, z, _, _, P, Q, b, rfl, hK, .inr (by rw [vxs, hTl]), hTd, .inr (by rw [vxs, hRl]), hRd, hb, by omega⟩
  have f2 : F33 [.v (.ints .u8 k), .v (.agg [.int .i64 (z : Int), .rsl 1 8 .u8 T, .rsl 1 8 .u8 R]), .v (.int .u64 (P : Int)), .v (.int .u64 (Q : Int)), .s .u8 b] = .many [.s .u8 (pktX k (z : Int) T R P Q b), .v (.int .i64 (pktE (z : Int) T R P Q))] := rfl
  have hpb : pktB (z : Int) T R P Q = true := by simp [pktB, hok, hP, hQ.1]
  rw [pktX, pktE, hpb, if_pos rfl, if_pos rfl] at f2
  obtain ⟨e, he⟩ : ∃ e, (pktG k (z : Int) T R P (shortN (P - Q)) b).length = e := ⟨_, rfl⟩
  obtain ⟨m, hm⟩ : ∃ m, near % (P - Q + 1) = m := ⟨_, rfl⟩
  have hml : m < P - Q + 1 := by rw [← hm]; exact Nat.mod_lt _ (by omega)
  obtain ⟨Y, hY⟩ : ∃ Y, pktG k (z : Int) T R P (shortN (P - Q)) b ++ more = Y := ⟨_, rfl⟩
  have hback := pktG_back (x := Q + m) hK hok hTd hRd (by omega) (by omega) hP (by omega) hb he hY
  have hXd : Dig 256 (pktG k (z : Int) T R P (shortN (P - Q)) b) := hidF_dig (((hdB_dig hTd hRd _ _).append (nmb_dig _ _ _)).append (seal_dig _ _ _ _)) _ false
  obtain ⟨t1, t2, t3, t4, t5, t6⟩ := hback
  obtain ⟨X, hX⟩ : ∃ X, pktG k (z : Int) T R P (shortN (P - Q)) b = X := ⟨_, rfl⟩
  rw [hX] at f2 he hXd hY
  have hYd : Dig 256 Y := by rw [← hY]; exact hXd.append hmore
  have hYl : Y.length = e + more.length := by rw [← hY, List.length_append, he]
  obtain ⟨a, ha⟩ : ∃ a, atF (z : Int) = a := ⟨_, rfl⟩
  have hal := atF_le (z : Int)
  rw [ha] at t1 t3 t4 t5 t6 fP hal
  have q3 : preGO [.v (.ints .u8 k), .s .u8 Y, .v (.int .i64 (a : Int)), .v (.int .i64 (e : Int)), .v (.int .u64 ((Q + m : Nat) : Int))] :=
    ⟨k, Y, a, e, Q + m, rfl, hK, hYd, by omega, t1, by omega, by omega, by omega, by rw [t4]; exact t5, t3⟩
  have f3 : F36 [.v (.ints .u8 k), .s .u8 Y, .v (.int .i64 (a : Int)), .v (.int .i64 (e : Int)), .v (.int .u64 ((Q + m : Nat) : Int))] = .many [.v (.int .u64 (opP k Y a e (Q + m) : Nat)), .s .u8 (opnS (sub k 0 16) (nonF k (opP k Y a e (Q + m))) (opH k Y a e) (opT k Y a e)), .v (.int .i64 0)] := rfl
  rw [t4, t6] at f3
  have hsn := shortN_le (P - Q)
  have hpe : padF (shortN (P - Q)) b = if shortN (P - Q) + b.length < 4 then b ++ List.replicate (4 - shortN (P - Q) - b.length) 0 else b := rfl
  obtain ⟨n, hn⟩ : ∃ n, shortN (P - Q) = n := ⟨_, rfl⟩
  rw [hn] at f3 hsn hpe
  obtain ⟨C, hCe⟩ : ∃ C, padF n b = C := ⟨_, rfl⟩
  rw [hCe] at f3 hpe
  have sX : sub X 0 e = X := sub_zero he
  have sY : sub Y 0 (e + more.length) = Y := sub_zero hYl
  have wd : Go.IntKind.u64.wrap ((P : Int) - (Q : Int)) = ((P - Q : Nat) : Int) := by rw [wrap_u64]; omega
  have wd1 : Go.IntKind.u64.wrap (((P - Q : Nat) : Int) + 1) = ((P - Q + 1 : Nat) : Int) := by rw [wrap_u64]; omega
  have nz : ¬ ((P - Q + 1 : Nat) : Int) = 0 := by omega
  have wm : ((near : Int)).tmod ((P - Q + 1 : Nat) : Int) = (m : Int) := by rw [← hm]; exact tmod_nat
  have wx : Go.IntKind.u64.wrap ((Q : Int) + (m : Int)) = ((Q + m : Nat) : Int) := by rw [wrap_u64]; omega
  have wnr : Go.IntKind.u64.wrap (near : Int) = (near : Int) := by rw [wrap_u64]; omega
  by_cases h4 : n + b.length < 4
  · rw [if_pos h4] at hpe
    have hCl : C.length = b.length + (4 - n - b.length) := by rw [hpe]; simp
    have wdd : Go.IntKind.i64.wrap ((C.length : Int) - (b.length : Int)) = ((4 - n - b.length : Nat) : Int) := by rw [wrap_i64]; omega
    have d1 : (0 : Int) < ((4 - n - b.length : Nat) : Int) := by omega
    have d2 : ((4 - n - b.length : Nat) : Int) < 4 := by omega
    have hpe' := hpe.symm
    have hCl' := hCl.symm
    have sC := qdd C
    simp only [ir9, rs9, gl, pA, fA, hlen, hsub, hagc, ↓purs_cs, ↓frzs_cs, qL, fL, c1, hup, qH, fH, hE, ↓z_sRT, hTl, hRl, hag, ↓hpr, sT, sR, hsp3, hs3, hs32, hags, hsl, q1, f1, hkl, pk, sk, hn6, q2, f2, he, qP, fP, wd, wd1, nz, wm, wx, wnr, sX, smo, hY, sY, sb, q3, f3, wdd, d1, d2, hpe', hCl', sC, sub_zero, qdb, qai, List.length_cons, List.length_nil, Nat.reduceAdd, Nat.le_refl, Nat.reduceLeDiff, Nat.reduceLT, true_and, and_true, ↓evA, evB, evs, evp, mkB, repB, blen, ↓retQ, res, resAll, resOne, kill, apartOk, exp, injV, injB, pur, purs, purR, pursR, List.reduceReplicate, Nat.reduceAdd, Nat.reduceMul, Nat.reduceSub, Nat.reduceEqDiff, Nat.reduceLT, Int.reduceToNat, Int.reduceLE, Int.reduceLT, Int.reduceEq, reduceCtorEq, ↓reduceIte]
    repeat (refine And.intro (by omega) ?_)
    exact out_bool rfl
  · rw [if_neg h4] at hpe
    subst hpe
    have wdd : Go.IntKind.i64.wrap ((C.length : Int) - (C.length : Int)) = 0 := by rw [wrap_i64]; omega
    simp only [ir9, rs9, gl, pA, fA, hlen, hsub, hagc, ↓purs_cs, ↓frzs_cs, qL, fL, c1, hup, qH, fH, hE, ↓z_sRT, hTl, hRl, hag, ↓hpr, sT, sR, hsp3, hs3, hs32, hags, hsl, q1, f1, hkl, pk, sk, hn6, q2, f2, he, qP, fP, wd, wd1, nz, wm, wx, wnr, sX, smo, hY, sY, sb, q3, f3, wdd, sub_zero, qdb, qai, List.length_cons, List.length_nil, Nat.reduceAdd, Nat.le_refl, Nat.reduceLeDiff, Nat.reduceLT, true_and, and_true, ↓evA, evB, evs, evp, mkB, repB, blen, ↓retQ, res, resAll, resOne, kill, apartOk, exp, injV, injB, pur, purs, purR, pursR, List.reduceReplicate, Nat.reduceAdd, Nat.reduceMul, Nat.reduceSub, Nat.reduceEqDiff, Nat.reduceLT, Int.reduceToNat, Int.reduceLE, Int.reduceLT, Int.reduceEq, reduceCtorEq, ↓reduceIte]
    repeat (refine And.intro (by omega) ?_)
    exact out_bool rfl
end Am

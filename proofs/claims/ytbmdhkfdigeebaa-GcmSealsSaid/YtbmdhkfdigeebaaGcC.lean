/-
Working texts: contracts of functions, and the numbers behind them.
-/
import Derived.Test.YtbmdhkfdigeebaaGcB
set_option linter.unusedSimpArgs false
set_option linter.unusedVariables false
set_option linter.unusedSectionVars false
set_option linter.unusedSimpArgs false
set_option linter.unusedVariables false
set_option maxRecDepth 20000
namespace Am
open Go.Proofs
/-! ### Bytes joined with others, one by one -/
def xorAt (f : Nat → Int) : List Int → Nat → List Int
  | [], _ => []
  | x :: r, j => bXor .u8 x (f j) :: xorAt f r (j + 1)
theorem xorAt_len {f : Nat → Int} : ∀ {b : List Int} {o : Nat}, (xorAt f b o).length = b.length
  | [], _ => rfl
  | x :: r, o => by simp [xorAt, xorAt_len (b := r)]
theorem xorAt_get {f : Nat → Int} : ∀ {b : List Int} {o j : Nat}, j < b.length → getI (xorAt f b o) j = bXor .u8 (getI b j) (f (o + j))
  | [], _, j, h => by simp at h
  | x :: r, o, 0, _ => by simp [xorAt, getI]
  | x :: r, o, j + 1, h => by
    have := xorAt_get (f := f) (b := r) (o := o + 1) (j := j) (by simpa using h)
    simp only [xorAt]
    have e : ∀ (y : Int) (l : List Int), getI (y :: l) (j + 1) = getI l j := fun y l => by simp [getI]
    rw [e, e, this, show o + 1 + j = o + (j + 1) by omega]
theorem xorAt_dig {f : Nat → Int} : ∀ {b : List Int} {o : Nat}, Dig 256 (xorAt f b o)
  | [], _ => fun x hx => by simp [xorAt] at hx
  | x :: r, o => fun y hy => by
    simp only [xorAt, List.mem_cons] at hy
    rcases hy with rfl | hy
    · exact x8_bd _ _
    · exact xorAt_dig (b := r) y hy
/-- The first j bytes are joined. -/
def mixT (f : Nat → Int) (b : List Int) (j : Nat) : List Int := (xorAt f b 0).take j ++ b.drop j
theorem mixT_0 {f : Nat → Int} {b : List Int} : mixT f b 0 = b := by simp [mixT]
theorem mixT_all {f : Nat → Int} {b : List Int} : mixT f b b.length = xorAt f b 0 := by
  rw [mixT, List.drop_length, List.append_nil, List.take_of_length_le (by rw [xorAt_len]; exact Nat.le_refl _)]
theorem mixT_len {f : Nat → Int} {b : List Int} {j : Nat} : (mixT f b j).length = b.length := by
  simp [mixT, xorAt_len]; omega
theorem mixT_get {f : Nat → Int} {b : List Int} {j : Nat} (h : j < b.length) : getI (mixT f b j) j = getI b j := by
  simp only [mixT, getI, List.getD_eq_getElem?_getD]
  rw [List.getElem?_append_right (by simp [xorAt_len]; omega)]
  simp [xorAt_len, Nat.min_eq_left (Nat.le_of_lt h)]
theorem mixT_set {f : Nat → Int} {b : List Int} {j : Nat} (h : j < b.length) : (mixT f b j).set j (bXor .u8 (getI b j) (f j)) = mixT f b (j + 1) := by
  refine getI_ext (by rw [List.length_set, mixT_len, mixT_len]) fun i hi => ?_
  rw [List.length_set, mixT_len] at hi
  have g : ∀ k i, i < b.length → getI (mixT f b k) i = if i < k then bXor .u8 (getI b i) (f i) else getI b i := fun k i hi => by
    split
    · rename_i hk
      have := xorAt_get (f := f) (b := b) (o := 0) hi
      rw [Nat.zero_add] at this
      rw [← this]
      simp only [mixT, getI, List.getD_eq_getElem?_getD]
      rw [List.getElem?_append_left (by simp [xorAt_len]; omega), List.getElem?_take_of_lt hk]
    · rename_i hk
      simp only [mixT, getI, List.getD_eq_getElem?_getD]
      rw [List.getElem?_append_right (by simp [xorAt_len]; omega)]
      simp only [List.length_take, xorAt_len, List.getElem?_drop]
      congr 2
      omega
  by_cases hij : i = j
  · subst hij
    rw [g _ _ h, if_pos (by omega)]
    simp [getI, List.getD_eq_getElem?_getD, mixT_len, h]
  · have : getI ((mixT f b j).set j (bXor .u8 (getI b j) (f j))) i = getI (mixT f b j) i := by
      simp only [getI, List.getD_eq_getElem?_getD]
      rw [List.getElem?_set_ne (fun h => hij h.symm)]
    rw [this, g _ _ hi, g _ _ hi]
    by_cases h1 : i < j
    · rw [if_pos h1, if_pos (by omega)]
    · rw [if_neg h1, if_neg (by omega)]
theorem pursR_ints {k : Go.IntKind} : ∀ {xs : List Int}, pursR (xs.map (V.int k)) = true
  | [] => rfl
  | x :: xs => by simp only [List.map_cons, pursR, purR, pursR_ints (xs := xs), Bool.and_self]
/-! ### The stream -/
def strB (L n : List Int) (m : Nat) : List Int := encF L (ctrF n (Go.IntKind.u32.wrap (Go.IntKind.u32.wrap (m : Int) + 2)))
def ksAt (L n : List Int) (j : Nat) : Int := getI (strB L n (j / 16)) (j % 16)
def strF (L n b : List Int) : List Int := xorAt (ksAt L n) b 0
def preStr (ds : List D) : Prop := ∃ L n b : List Int, ds = [.v (.iface 33 (.rpc (L.map (V.int .u8)) 0)), .v (.ints .u8 n), .s .u8 b] ∧ L432 L ∧ B12 n ∧ Dig 256 b ∧ b.length ≤ 549755813888
def F29 : List D → Out
  | [.v (.iface _ (.rpc cs _)), .v (.ints _ n), .s _ b] => .one (.s .u8 (strF (unI cs) n b))
  | _ => bad
def s29 : Summ := sData [.r, .v, .s .u8] preStr F29
theorem strB_ok {L n : List Int} (hL : L432 L) (hn : B12 n) (m : Nat) : B16 (strB L n m) := by
  unfold strB encF
  exact rnds_ok hL (show B16 (ctrF n _) from ctrS_ok hn 4) 10
set_option maxHeartbeats 4000000 in
theorem ok29 {g : List Blk} [Ge gl g] : SumOK Try.prog g 29 s29 ∧ SumAbs s29 := by
  refine fsumA (l := [(35, s35), (18, s18)]) mixed gl_plain rfl Try.func29 comp29 compR29 nt29 (by simp only [List.mem_cons, List.not_mem_nil, or_false, forall_eq_or_imp, forall_eq]; exact ⟨ok35, ok18⟩) fun ds ⟨L, n, b, hd, hL, hn, hb, hbl⟩ hA => ?_
  subst hd
  have hnl := hn.1
  have sn : sub n 0 12 = n := qdk hnl
  have hF : F29 [.v (.iface 33 (.rpc (L.map (V.int .u8)) 0)), .v (.ints .u8 n), .s .u8 b] = .one (.s .u8 (strF L n b)) := by
    show Out.one (.s .u8 (strF (unI (L.map (V.int .u8))) n b)) = _
    rw [unI_ints]
  have sb := qdi b
  have hn' : ∀ j, j < 432 → nth (L.map (V.int .u8)) j = .int .u8 (getI L j) := fun j hj => nth_ints (by have := hL.1; omega)
  have qe : ∀ x, B16 x → preEnc [.v (.rpc (L.map (V.int .u8)) 0), .v (.ints .u8 x)] := fun x hx => ⟨L, x, rfl, hL, hx⟩
  have fe : ∀ x, F18 [.v (.rpc (L.map (V.int .u8)) 0), .v (.ints .u8 x)] = .one (.v (.ints .u8 (encF L x))) := fun x => by
    show Out.one (.v (.ints .u8 (encF (unI (L.map (V.int .u8))) x))) = _
    rw [unI_ints]
  have hpu : pursR (L.map (V.int .u8)) = true := pursR_ints
  obtain ⟨cs, hcs⟩ : ∃ cs, L.map (V.int .u8) = cs := ⟨_, rfl⟩
  rw [hcs] at hF hpu ⊢
  simp only [hcs] at qe fe
  obtain ⟨f, hf⟩ : ∃ f, ksAt L n = f := ⟨_, rfl⟩
  have hR : xorAt f b 0 = strF L n b := by rw [← hf]; rfl
  obtain ⟨R, hRR⟩ : ∃ R, strF L n b = R := ⟨_, rfl⟩
  rw [hRR] at hF hR
  simp only [ir29,rs29,gl,hF,sn,hnl,sb,hpu,qdk,qdg,qaj,List.length_cons,List.length_nil,Nat.reduceAdd,Nat.le_refl,Nat.reduceLeDiff,Nat.reduceLT,true_and,and_true,↓qax,↓qay,↓qa0,↓qaz,↓qcy,↓qbj,↓qa1,↓qcr,↓qb3,↓qco,↓qcb,↓qck,↓qcl,↓qb4,↓qcj,↓qcp,↓qb5,↓qcm,↓qcn,↓qb6,↓qcc,↓qca,↓qb9,↓qb8,↓qb7,↓qa5,↓qbc,↓qa6,↓qbd,↓qa7,↓qbe,↓qa8,↓qbf,↓qa9,↓qbg,↓qba,↓qbh,↓qbb,↓qbi,↓qb2,↓qcq,↓qfq,↓qcu,↓qcv,↓qcw,↓qct,↓qcs,↓qbm,↓qbn,↓qb0,↓qbv,↓qbq,↓qbu,↓qbz,↓qbw,↓qby,↓qbx,↓qbr,↓qbp,↓qb1,↓qbs,↓qbt,↓qbo,↓qfd,↓qfc,↓qfh,↓qfj,↓qfi,↓qfb,↓qfa,↓qe7,↓qe8,↓qfg,↓qff,↓qfe,qdf,↓qe4,↓qe5,↓qe9,↓qdc,↓qda,↓qdb,↓qfl,↓qfm,↓qfn,↓qfk,qaa,↓qe6,↓qer,↓qes,↓qfp,↓qfo,↓qev,↓qdu,↓qd2,↓qej,↓qek,↓qe0,↓qe2,↓qdy,↓qdz,↓qd1,↓qd0,↓qd7,↓qe3,↓qd5,↓qew,↓qdx,↓qep,↓qex,↓qey,↓qez,↓qeb,↓qea,↓qec,↓qed,↓qef,↓qd9,↓qeg,↓qei,↓qeh,↓qdv,↓qdw,↓qd8,↓qaw,↓qd6,↓qeq,↓qem,↓qdt,↓qet,↓qen,↓qeo,↓qeu,↓qcd,↓qce,↓qcf,↓qcg,↓qch,↓qci,qdd,qde,qc1,qc2,↓qel,↓qee,qav,List.drop_zero,Nat.sub_zero,qc6,qcz,qc0,qdr,qat,qas,qaf,List.map_cons,List.map_nil,List.zip_cons_cons,List.zip_nil_right,List.zip_nil_left,qau,evs,evp,mkB,repB,blen,qae,qad,qac,qab,qc9,qc8,qdq,qds,qdo,qdp,qc5,qc7,qc3,qc4,↓qdm,↓qdl,↓qdn,↓qah,↓qag,↓qai,↓retQ,res,resAll,resOne,kill,apartOk,exp,injV,injB,pur,purs,purR,pursR,List.set_cons_zero,List.set_cons_succ,List.length_cons,List.length_nil,List.cons_append,List.nil_append,List.append_nil,List.append_assoc,List.length_append,List.reduceReplicate,Nat.reduceAdd,Nat.reduceMul,Nat.reduceSub,Nat.reduceEqDiff,Nat.reduceLT,Nat.zero_add,Nat.add_zero,Nat.mul_one,Int.reduceToNat,Int.toNat_natCast,Int.cast_ofNat_Int,Int.reduceLE,Int.reduceLT,Int.reduceEq,reduceCtorEq,↓reduceIte,Bool.true_eq_false,Bool.false_eq_true,Bool.not_true,Bool.not_false,true_and,and_true,and_assoc,qaj,sub1,qdi,qdh,qdj,List.length_replicate,Nat.le_refl,false_implies,true_implies,ne_eq,not_true_eq_false,not_false_eq_true,decide_true,decide_false,decide_eq_true_eq,decide_eq_false_iff_not,Bool.not_eq_true',Bool.not_eq_false']
  refine ⟨by omega, ?_⟩
  refine awp_loopA (n := 53) hA [0, 4, 7, 8] (by decide +kernel) (fun m : Nat => [.iface 33 (.rpc cs 0), .ptr 5 0, .slice 7 0 1 b.length b.length, .int .i64 ((16 * m : Nat) : Int)])
    (fun m => [.dead, .dead, .dead, .dead, .ints true .u8 b, .ints false .u8 n, .dead, .ints false .u8 (mixT f b (min (16 * m) b.length))]) (fun m => m ≤ nbl b) (fun m => nbl b - m) 0 ?_ (by omega) ?_
  · refine Hd.same ?_
    simp only [Nat.mul_zero, Nat.zero_min, mixT_0, show ((0 : Nat) : Int) = 0 from rfl, List.map_cons, List.map_nil, Nat.reduceLT, qc6, qcz, qc0, reduceCtorEq, ↓reduceIte, Nat.reduceEqDiff, Int.cast_ofNat_Int, List.append_nil, List.cons_append, List.nil_append, qaf, and_true, true_and, Nat.zero_add, Nat.add_zero, Nat.reduceAdd, qc3, qc4, List.reduceReplicate]
  intro m hm K hK
  simp only [s35, s18]
  unfold nbl at hm hK
  by_cases hlm : 16 * m < b.length
  · have c1 : ((16 * m : Nat) : Int) < (b.length : Int) := by omega
    have w16 : Go.IntKind.i64.wrap (((16 * m : Nat) : Int) + 16) = ((16 * (m + 1) : Nat) : Int) := by rw [wrap_i64]; omega
    have wd : Go.IntKind.i64.wrap ((((16 * m : Nat) : Int)).tdiv 16) = (m : Int) := by
      rw [Int.tdiv_eq_ediv_of_nonneg (by omega), wrap_i64]; omega
    have n16 : ¬ (16 : Int) = 0 := by decide
    have hCo := ctrS_ok (n := Go.IntKind.u32.wrap (Go.IntKind.u32.wrap (m : Int) + 2)) hn 4
    have hKb := strB_ok hL hn m
    have fc : F35 [.v (.ints .u8 n), .v (.int .u32 (Go.IntKind.u32.wrap (Go.IntKind.u32.wrap (m : Int) + 2)))] = .one (.v (.ints .u8 (ctrF n (Go.IntKind.u32.wrap (Go.IntKind.u32.wrap (m : Int) + 2))))) := rfl
    have qc : preCtr [.v (.ints .u8 n), .v (.int .u32 (Go.IntKind.u32.wrap (Go.IntKind.u32.wrap (m : Int) + 2)))] := ⟨_, _, rfl, hn⟩
    have hKe : encF L (ctrF n (Go.IntKind.u32.wrap (Go.IntKind.u32.wrap (m : Int) + 2))) = strB L n m := rfl
    have hfk : ∀ j, 16 * m ≤ j → j < 16 * (m + 1) → f j = getI (strB L n m) (j - 16 * m) := fun j h1 h2 => by
      rw [← hf, ksAt, show j / 16 = m by omega, show j % 16 = j - 16 * m by omega]
    change B16 (ctrF n _) at hCo
    obtain ⟨c, hce⟩ : ∃ c, ctrF n (Go.IntKind.u32.wrap (Go.IntKind.u32.wrap (m : Int) + 2)) = c := ⟨_, rfl⟩
    rw [hce] at hCo fc hKe
    have qe1 := qe c hCo
    have fe1 := fe c
    obtain ⟨k, hke⟩ : ∃ k, strB L n m = k := ⟨_, rfl⟩
    rw [hke] at hKb hKe
    simp only [hke] at hfk
    rw [hKe] at fe1
    obtain ⟨u, hu⟩ : ∃ u, Go.IntKind.u32.wrap (Go.IntKind.u32.wrap (m : Int) + 2) = u := ⟨_, rfl⟩
    rw [hu] at qc fc
    have hkl := hKb.1
    have pk : spl [0, 0, 0, 0, 0, 0, 0, 0, 0, 0, 0, 0, 0, 0, 0, 0] 0 k = k := qdg (by simp [hkl])
    obtain ⟨e, he⟩ : ∃ e, min (16 * (m + 1)) b.length = e := ⟨_, rfl⟩
    have hmin : min ((16 * (m + 1) : Nat) : Int) (b.length : Int) = (e : Int) := by omega
    have hm0 : min (16 * m) b.length = 16 * m := by omega
    rw [hm0]
    simp only [c1,wd,n16,sn,hnl,hu,qc,fc,qe1,fe1,hpu,hkl,pk,qdk,qdg,qaj,List.length_cons,List.length_nil,Nat.reduceAdd,Nat.le_refl,Nat.reduceLeDiff,Nat.reduceLT,true_and,and_true,↓qax,↓qay,↓qa0,↓qaz,↓qcy,↓qbj,↓qa1,↓qcr,↓qb3,↓qco,↓qcb,↓qck,↓qcl,↓qb4,↓qcj,↓qcp,↓qb5,↓qcm,↓qcn,↓qb6,↓qcc,↓qca,↓qb9,↓qb8,↓qb7,↓qa5,↓qbc,↓qa6,↓qbd,↓qa7,↓qbe,↓qa8,↓qbf,↓qa9,↓qbg,↓qba,↓qbh,↓qbb,↓qbi,↓qb2,↓qcq,↓qfq,↓qcu,↓qcv,↓qcw,↓qct,↓qcs,↓qbm,↓qbn,↓qb0,↓qbv,↓qbq,↓qbu,↓qbz,↓qbw,↓qby,↓qbx,↓qbr,↓qbp,↓qb1,↓qbs,↓qbt,↓qbo,↓qfd,↓qfc,↓qfh,↓qfj,↓qfi,↓qfb,↓qfa,↓qe7,↓qe8,↓qfg,↓qff,↓qfe,qdf,↓qe4,↓qe5,↓qe9,↓qdc,↓qda,↓qdb,↓qfl,↓qfm,↓qfn,↓qfk,qaa,↓qe6,↓qer,↓qes,↓qfp,↓qfo,↓qev,↓qdu,↓qd2,↓qej,↓qek,↓qe0,↓qe2,↓qdy,↓qdz,↓qd1,↓qd0,↓qd7,↓qe3,↓qd5,↓qew,↓qdx,↓qep,↓qex,↓qey,↓qez,↓qeb,↓qea,↓qec,↓qed,↓qef,↓qd9,↓qeg,↓qei,↓qeh,↓qdv,↓qdw,↓qd8,↓qaw,↓qd6,↓qeq,↓qem,↓qdt,↓qet,↓qen,↓qeo,↓qeu,↓qcd,↓qce,↓qcf,↓qcg,↓qch,↓qci,qdd,qde,qc1,qc2,↓qel,↓qee,qav,List.drop_zero,Nat.sub_zero,qc6,qcz,qc0,qdr,qat,qas,qaf,List.map_cons,List.map_nil,List.zip_cons_cons,List.zip_nil_right,List.zip_nil_left,qau,evs,evp,mkB,repB,blen,qae,qad,qac,qab,qc9,qc8,qdq,qds,qdo,qdp,qc5,qc7,qc3,qc4,↓qdm,↓qdl,↓qdn,↓qah,↓qag,↓qai,↓retQ,res,resAll,resOne,kill,apartOk,exp,injV,injB,pur,purs,purR,pursR,List.set_cons_zero,List.set_cons_succ,List.length_cons,List.length_nil,List.cons_append,List.nil_append,List.append_nil,List.append_assoc,List.length_append,List.reduceReplicate,Nat.reduceAdd,Nat.reduceMul,Nat.reduceSub,Nat.reduceEqDiff,Nat.reduceLT,Nat.zero_add,Nat.add_zero,Nat.mul_one,Int.reduceToNat,Int.toNat_natCast,Int.cast_ofNat_Int,Int.reduceLE,Int.reduceLT,Int.reduceEq,reduceCtorEq,↓reduceIte,Bool.true_eq_false,Bool.false_eq_true,Bool.not_true,Bool.not_false,true_and,and_true,and_assoc,qaj,sub1,qdi,qdh,qdj,List.length_replicate,Nat.le_refl,false_implies,true_implies,ne_eq,not_true_eq_false,not_false_eq_true,decide_true,decide_false,decide_eq_true_eq,decide_eq_false_iff_not,Bool.not_eq_true',Bool.not_eq_false']
    repeat (refine And.intro (by omega) ?_)
    refine awp_loopA (n := 53) hA [0, 4, 7, 8, 9, 10] (by decide +kernel) (fun j : Nat => [.iface 33 (.rpc cs 0), .ptr 5 0, .slice 7 0 1 b.length b.length, .int .i64 ((16 * m : Nat) : Int), .ptr 8 0, .int .i64 (j : Int)])
      (fun j => [.dead, .dead, .dead, .dead, .ints true .u8 b, .ints false .u8 n, .dead, .ints false .u8 (mixT f b j), .ints false .u8 k]) (fun j => 16 * m ≤ j ∧ j ≤ e) (fun j => e - j) (16 * m) ?_ (by omega) ?_
    · refine Hd.same ?_
      simp only [List.map_cons, List.map_nil, Nat.reduceLT, qc6, qcz, qc0, reduceCtorEq, ↓reduceIte, Nat.reduceEqDiff, Int.cast_ofNat_Int, List.append_nil, List.cons_append, List.nil_append, qaf, and_true, true_and, Nat.zero_add, Nat.add_zero, Nat.reduceAdd, qc3, qc4, List.reduceReplicate]
    intro j hj K2 hK2
    simp only [s35, s18]
    by_cases hlj : j < e
    · have d1 : (j : Int) < (e : Int) := by omega
      have wj : Go.IntKind.i64.wrap ((j : Int) + 1) = ((j + 1 : Nat) : Int) := by rw [wrap_i64]; omega
      have ws : Go.IntKind.i64.wrap ((j : Int) - ((16 * m : Nat) : Int)) = ((j - 16 * m : Nat) : Int) := by rw [wrap_i64]; omega
      have hjb : j < b.length := by omega
      have hst := mixT_set (f := f) hjb
      have hg := mixT_get (f := f) hjb
      rw [hfk j hj.1 (by omega)] at hst
      have hml := mixT_len (f := f) (b := b) (j := j)
      obtain ⟨M, hM⟩ : ∃ M, mixT f b j = M := ⟨_, rfl⟩
      rw [hM] at hst hg hml ⊢
      have b1 : j - 16 * m < 16 := by omega
      simp only [w16,hmin,d1,wj,ws,hml,hjb,hg,hkl,b1,qdk,qdg,qaj,List.length_cons,List.length_nil,Nat.reduceAdd,Nat.le_refl,Nat.reduceLeDiff,Nat.reduceLT,true_and,and_true,↓qax,↓qay,↓qa0,↓qaz,↓qcy,↓qbj,↓qa1,↓qcr,↓qb3,↓qco,↓qcb,↓qck,↓qcl,↓qb4,↓qcj,↓qcp,↓qb5,↓qcm,↓qcn,↓qb6,↓qcc,↓qca,↓qb9,↓qb8,↓qb7,↓qa5,↓qbc,↓qa6,↓qbd,↓qa7,↓qbe,↓qa8,↓qbf,↓qa9,↓qbg,↓qba,↓qbh,↓qbb,↓qbi,↓qb2,↓qcq,↓qfq,↓qcu,↓qcv,↓qcw,↓qct,↓qcs,↓qbm,↓qbn,↓qb0,↓qbv,↓qbq,↓qbu,↓qbz,↓qbw,↓qby,↓qbx,↓qbr,↓qbp,↓qb1,↓qbs,↓qbt,↓qbo,↓qfd,↓qfc,↓qfh,↓qfj,↓qfi,↓qfb,↓qfa,↓qe7,↓qe8,↓qfg,↓qff,↓qfe,qdf,↓qe4,↓qe5,↓qe9,↓qdc,↓qda,↓qdb,↓qfl,↓qfm,↓qfn,↓qfk,qaa,↓qe6,↓qer,↓qes,↓qfp,↓qfo,↓qev,↓qdu,↓qd2,↓qej,↓qek,↓qe0,↓qe2,↓qdy,↓qdz,↓qd1,↓qd0,↓qd7,↓qe3,↓qd5,↓qew,↓qdx,↓qep,↓qex,↓qey,↓qez,↓qeb,↓qea,↓qec,↓qed,↓qef,↓qd9,↓qeg,↓qei,↓qeh,↓qdv,↓qdw,↓qd8,↓qaw,↓qd6,↓qeq,↓qem,↓qdt,↓qet,↓qen,↓qeo,↓qeu,↓qcd,↓qce,↓qcf,↓qcg,↓qch,↓qci,qdd,qde,qc1,qc2,↓qel,↓qee,qav,List.drop_zero,Nat.sub_zero,qc6,qcz,qc0,qdr,qat,qas,qaf,List.map_cons,List.map_nil,List.zip_cons_cons,List.zip_nil_right,List.zip_nil_left,qau,evs,evp,mkB,repB,blen,qae,qad,qac,qab,qc9,qc8,qdq,qds,qdo,qdp,qc5,qc7,qc3,qc4,↓qdm,↓qdl,↓qdn,↓qah,↓qag,↓qai,↓retQ,res,resAll,resOne,kill,apartOk,exp,injV,injB,pur,purs,purR,pursR,List.set_cons_zero,List.set_cons_succ,List.length_cons,List.length_nil,List.cons_append,List.nil_append,List.append_nil,List.append_assoc,List.length_append,List.reduceReplicate,Nat.reduceAdd,Nat.reduceMul,Nat.reduceSub,Nat.reduceEqDiff,Nat.reduceLT,Nat.zero_add,Nat.add_zero,Nat.mul_one,Int.reduceToNat,Int.toNat_natCast,Int.cast_ofNat_Int,Int.reduceLE,Int.reduceLT,Int.reduceEq,reduceCtorEq,↓reduceIte,Bool.true_eq_false,Bool.false_eq_true,Bool.not_true,Bool.not_false,true_and,and_true,and_assoc,qaj,sub1,qdi,qdh,qdj,List.length_replicate,Nat.le_refl,false_implies,true_implies,ne_eq,not_true_eq_false,not_false_eq_true,decide_true,decide_false,decide_eq_true_eq,decide_eq_false_iff_not,Bool.not_eq_true',Bool.not_eq_false']
      repeat (refine And.intro (by omega) ?_)
      refine ⟨j + 1, hK2 _ (by omega) (by omega), Hd.same ?_⟩
      simp only [hst, List.map_cons, List.map_nil, Nat.reduceLT, qc6, qcz, qc0, reduceCtorEq, ↓reduceIte, Nat.reduceEqDiff, Int.cast_ofNat_Int, List.append_nil, List.cons_append, List.nil_append, qaf, and_true, true_and, Nat.zero_add, Nat.add_zero, Nat.reduceAdd, qc3, qc4, List.reduceReplicate]
    · obtain rfl : j = e := by omega
      have d1 : ¬ (j : Int) < (j : Int) := by omega
      simp only [w16,hmin,d1,qdk,qdg,qaj,List.length_cons,List.length_nil,Nat.reduceAdd,Nat.le_refl,Nat.reduceLeDiff,Nat.reduceLT,true_and,and_true,↓qax,↓qay,↓qa0,↓qaz,↓qcy,↓qbj,↓qa1,↓qcr,↓qb3,↓qco,↓qcb,↓qck,↓qcl,↓qb4,↓qcj,↓qcp,↓qb5,↓qcm,↓qcn,↓qb6,↓qcc,↓qca,↓qb9,↓qb8,↓qb7,↓qa5,↓qbc,↓qa6,↓qbd,↓qa7,↓qbe,↓qa8,↓qbf,↓qa9,↓qbg,↓qba,↓qbh,↓qbb,↓qbi,↓qb2,↓qcq,↓qfq,↓qcu,↓qcv,↓qcw,↓qct,↓qcs,↓qbm,↓qbn,↓qb0,↓qbv,↓qbq,↓qbu,↓qbz,↓qbw,↓qby,↓qbx,↓qbr,↓qbp,↓qb1,↓qbs,↓qbt,↓qbo,↓qfd,↓qfc,↓qfh,↓qfj,↓qfi,↓qfb,↓qfa,↓qe7,↓qe8,↓qfg,↓qff,↓qfe,qdf,↓qe4,↓qe5,↓qe9,↓qdc,↓qda,↓qdb,↓qfl,↓qfm,↓qfn,↓qfk,qaa,↓qe6,↓qer,↓qes,↓qfp,↓qfo,↓qev,↓qdu,↓qd2,↓qej,↓qek,↓qe0,↓qe2,↓qdy,↓qdz,↓qd1,↓qd0,↓qd7,↓qe3,↓qd5,↓qew,↓qdx,↓qep,↓qex,↓qey,↓qez,↓qeb,↓qea,↓qec,↓qed,↓qef,↓qd9,↓qeg,↓qei,↓qeh,↓qdv,↓qdw,↓qd8,↓qaw,↓qd6,↓qeq,↓qem,↓qdt,↓qet,↓qen,↓qeo,↓qeu,↓qcd,↓qce,↓qcf,↓qcg,↓qch,↓qci,qdd,qde,qc1,qc2,↓qel,↓qee,qav,List.drop_zero,Nat.sub_zero,qc6,qcz,qc0,qdr,qat,qas,qaf,List.map_cons,List.map_nil,List.zip_cons_cons,List.zip_nil_right,List.zip_nil_left,qau,evs,evp,mkB,repB,blen,qae,qad,qac,qab,qc9,qc8,qdq,qds,qdo,qdp,qc5,qc7,qc3,qc4,↓qdm,↓qdl,↓qdn,↓qah,↓qag,↓qai,↓retQ,res,resAll,resOne,kill,apartOk,exp,injV,injB,pur,purs,purR,pursR,List.set_cons_zero,List.set_cons_succ,List.length_cons,List.length_nil,List.cons_append,List.nil_append,List.append_nil,List.append_assoc,List.length_append,List.reduceReplicate,Nat.reduceAdd,Nat.reduceMul,Nat.reduceSub,Nat.reduceEqDiff,Nat.reduceLT,Nat.zero_add,Nat.add_zero,Nat.mul_one,Int.reduceToNat,Int.toNat_natCast,Int.cast_ofNat_Int,Int.reduceLE,Int.reduceLT,Int.reduceEq,reduceCtorEq,↓reduceIte,Bool.true_eq_false,Bool.false_eq_true,Bool.not_true,Bool.not_false,true_and,and_true,and_assoc,qaj,sub1,qdi,qdh,qdj,List.length_replicate,Nat.le_refl,false_implies,true_implies,ne_eq,not_true_eq_false,not_false_eq_true,decide_true,decide_false,decide_eq_true_eq,decide_eq_false_iff_not,Bool.not_eq_true',Bool.not_eq_false']
      refine ⟨m + 1, hK _ (by omega) (by omega), Hd.of [0, 1, 2, 3, 4, 5, 6, 7] (by decide) (by decide) (by simp) ?_⟩
      simp only [he, gc, gcVs, gcV, posOf, gcH, gcB, Option.map_some, Option.map_none, List.replicate_zero, List.drop_zero, List.map_cons, List.map_nil, Nat.reduceLT, qc6, qcz, qc0, reduceCtorEq, ↓reduceIte, Nat.reduceEqDiff, Int.cast_ofNat_Int, List.append_nil, List.cons_append, List.nil_append, qaf, and_true, true_and, Nat.zero_add, Nat.add_zero, Nat.reduceAdd, qc3, qc4, List.reduceReplicate]
  · have c1 : ¬ ((16 * m : Nat) : Int) < (b.length : Int) := by omega
    have hm0 : min (16 * m) b.length = b.length := by omega
    rw [hm0, mixT_all, hR]
    have hRl : R.length = b.length := by rw [← hR, xorAt_len]
    simp only [c1,qdk,qdg,qaj,List.length_cons,List.length_nil,Nat.reduceAdd,Nat.le_refl,Nat.reduceLeDiff,Nat.reduceLT,true_and,and_true,↓qax,↓qay,↓qa0,↓qaz,↓qcy,↓qbj,↓qa1,↓qcr,↓qb3,↓qco,↓qcb,↓qck,↓qcl,↓qb4,↓qcj,↓qcp,↓qb5,↓qcm,↓qcn,↓qb6,↓qcc,↓qca,↓qb9,↓qb8,↓qb7,↓qa5,↓qbc,↓qa6,↓qbd,↓qa7,↓qbe,↓qa8,↓qbf,↓qa9,↓qbg,↓qba,↓qbh,↓qbb,↓qbi,↓qb2,↓qcq,↓qfq,↓qcu,↓qcv,↓qcw,↓qct,↓qcs,↓qbm,↓qbn,↓qb0,↓qbv,↓qbq,↓qbu,↓qbz,↓qbw,↓qby,↓qbx,↓qbr,↓qbp,↓qb1,↓qbs,↓qbt,↓qbo,↓qfd,↓qfc,↓qfh,↓qfj,↓qfi,↓qfb,↓qfa,↓qe7,↓qe8,↓qfg,↓qff,↓qfe,qdf,↓qe4,↓qe5,↓qe9,↓qdc,↓qda,↓qdb,↓qfl,↓qfm,↓qfn,↓qfk,qaa,↓qe6,↓qer,↓qes,↓qfp,↓qfo,↓qev,↓qdu,↓qd2,↓qej,↓qek,↓qe0,↓qe2,↓qdy,↓qdz,↓qd1,↓qd0,↓qd7,↓qe3,↓qd5,↓qew,↓qdx,↓qep,↓qex,↓qey,↓qez,↓qeb,↓qea,↓qec,↓qed,↓qef,↓qd9,↓qeg,↓qei,↓qeh,↓qdv,↓qdw,↓qd8,↓qaw,↓qd6,↓qeq,↓qem,↓qdt,↓qet,↓qen,↓qeo,↓qeu,↓qcd,↓qce,↓qcf,↓qcg,↓qch,↓qci,qdd,qde,qc1,qc2,↓qel,↓qee,qav,List.drop_zero,Nat.sub_zero,qc6,qcz,qc0,qdr,qat,qas,qaf,List.map_cons,List.map_nil,List.zip_cons_cons,List.zip_nil_right,List.zip_nil_left,qau,evs,evp,mkB,repB,blen,qae,qad,qac,qab,qc9,qc8,qdq,qds,qdo,qdp,qc5,qc7,qc3,qc4,↓qdm,↓qdl,↓qdn,↓qah,↓qag,↓qai,↓retQ,res,resAll,resOne,kill,apartOk,exp,injV,injB,pur,purs,purR,pursR,List.set_cons_zero,List.set_cons_succ,List.length_cons,List.length_nil,List.cons_append,List.nil_append,List.append_nil,List.append_assoc,List.length_append,List.reduceReplicate,Nat.reduceAdd,Nat.reduceMul,Nat.reduceSub,Nat.reduceEqDiff,Nat.reduceLT,Nat.zero_add,Nat.add_zero,Nat.mul_one,Int.reduceToNat,Int.toNat_natCast,Int.cast_ofNat_Int,Int.reduceLE,Int.reduceLT,Int.reduceEq,reduceCtorEq,↓reduceIte,Bool.true_eq_false,Bool.false_eq_true,Bool.not_true,Bool.not_false,true_and,and_true,and_assoc,qaj,sub1,qdi,qdh,qdj,List.length_replicate,Nat.le_refl,false_implies,true_implies,ne_eq,not_true_eq_false,not_false_eq_true,decide_true,decide_false,decide_eq_true_eq,decide_eq_false_iff_not,Bool.not_eq_true',Bool.not_eq_false']
    simp only [out, outs, out1, pur, out, outs, out1, pur, purs, qc3, qc4, List.not_mem_nil, not_false_eq_true, true_and, and_true, Nat.reduceLeDiff, Nat.le_refl]
    exact ⟨by omega, qdk hRl⟩
/-! ### The tag -/
def tagF (L n a b : List Int) : List Int := jn (hashF (encF L z16) a b) (encF L (ctrF n 1)) 16
def preTag (ds : List D) : Prop := ∃ L n a b : List Int, ds = [.v (.iface 33 (.rpc (L.map (V.int .u8)) 0)), .v (.ints .u8 n), .s .u8 a, .s .u8 b] ∧ L432 L ∧ B12 n ∧ Dig 256 a ∧ a.length ≤ 549755813888 ∧ Dig 256 b ∧ b.length ≤ 549755813888
def F30 : List D → Out
  | [.v (.iface _ (.rpc cs _)), .v (.ints _ n), .s _ a, .s _ b] => .one (.v (.ints .u8 (tagF (unI cs) n a b)))
  | _ => bad
def s30 : Summ := sData [.r, .v, .s .u8, .s .u8] preTag F30
theorem z16_ok : B16 z16 := ⟨rfl, fun x hx => by rw [(List.mem_replicate.1 hx).2]; decide⟩
theorem encL_ok {L b : List Int} (hL : L432 L) (hb : B16 b) : B16 (encF L b) := rnds_ok hL hb 10
theorem hash_ok (k a b : List Int) : B16 (hashF k a b) := blkF_ok _ _
theorem ctr_ok {c : List Int} {n : Int} (h : B12 c) : B16 (ctrF c n) := ctrS_ok h 4
theorem tag_ok (L n a b : List Int) : B16 (tagF L n a b) := jn_ok (hash_ok _ _ _)
set_option maxHeartbeats 4000000 in
theorem ok30 {g : List Blk} [Ge gl g] : SumOK Try.prog g 30 s30 ∧ SumAbs s30 := by
  refine fsumA (l := [(35, s35), (18, s18), (36, s36)]) mixed gl_plain rfl Try.func30 comp30 compR30 nt30 (by simp only [List.mem_cons, List.not_mem_nil, or_false, forall_eq_or_imp, forall_eq]; exact ⟨ok35, ok18, ok36⟩) fun ds ⟨L, n, a, b, hd, hL, hn, ha, hal, hb, hbl⟩ hA => ?_
  subst hd
  have hnl := hn.1
  have sn : sub n 0 12 = n := qdk hnl
  have hF : F30 [.v (.iface 33 (.rpc (L.map (V.int .u8)) 0)), .v (.ints .u8 n), .s .u8 a, .s .u8 b] = .one (.v (.ints .u8 (tagF L n a b))) := by
    show Out.one (.v (.ints .u8 (tagF (unI (L.map (V.int .u8))) n a b))) = _
    rw [unI_ints]
  have sa := qdi a
  have sb := qdi b
  have qe : ∀ x, B16 x → preEnc [.v (.rpc (L.map (V.int .u8)) 0), .v (.ints .u8 x)] := fun x hx => ⟨L, x, rfl, hL, hx⟩
  have fe : ∀ x, F18 [.v (.rpc (L.map (V.int .u8)) 0), .v (.ints .u8 x)] = .one (.v (.ints .u8 (encF L x))) := fun x => by
    show Out.one (.v (.ints .u8 (encF (unI (L.map (V.int .u8))) x))) = _
    rw [unI_ints]
  have hpu : pursR (L.map (V.int .u8)) = true := pursR_ints
  obtain ⟨cs, hcs⟩ : ∃ cs, L.map (V.int .u8) = cs := ⟨_, rfl⟩
  rw [hcs] at hF hpu ⊢
  simp only [hcs] at qe fe
  have q1 := qe z16 z16_ok
  have f1 := fe z16
  have hH := encL_ok hL z16_ok
  have hE := encL_ok hL (ctr_ok (n := 1) hn)
  have hC := ctr_ok (n := 1) hn
  have qc : preCtr [.v (.ints .u8 n), .v (.int .u32 1)] := ⟨_, _, rfl, hn⟩
  have fc : F35 [.v (.ints .u8 n), .v (.int .u32 1)] = .one (.v (.ints .u8 (ctrF n 1))) := rfl
  have hT : jn (hashF (encF L z16) a b) (encF L (ctrF n 1)) 16 = tagF L n a b := rfl
  obtain ⟨c, hc⟩ : ∃ c, ctrF n 1 = c := ⟨_, rfl⟩
  rw [hc] at hE hC fc hT
  have q2 := qe c hC
  have f2 := fe c
  obtain ⟨k, hk⟩ : ∃ k, encF L c = k := ⟨_, rfl⟩
  rw [hk] at hE hT f2
  obtain ⟨H, hHe⟩ : ∃ H, encF L z16 = H := ⟨_, rfl⟩
  rw [hHe] at hH hT f1
  have qh : preHsh [.v (.ints .u8 H), .v (.rcs 1 2 [.rsl 1 a.length .u8 a, .rsl 1 b.length .u8 b])] := ⟨_, _, _, rfl, hH, ha, hb, hal, hbl⟩
  have fh : F36 [.v (.ints .u8 H), .v (.rcs 1 2 [.rsl 1 a.length .u8 a, .rsl 1 b.length .u8 b])] = .one (.v (.ints .u8 (hashF H a b))) := rfl
  have hS := hash_ok H a b
  obtain ⟨s, hs⟩ : ∃ s, hashF H a b = s := ⟨_, rfl⟩
  rw [hs] at fh hT hS
  obtain ⟨R, hRR⟩ : ∃ R, tagF L n a b = R := ⟨_, rfl⟩
  rw [hRR] at hF hT
  have hkl := hE.1
  have hsl := hS.1
  have pk : spl [0, 0, 0, 0, 0, 0, 0, 0, 0, 0, 0, 0, 0, 0, 0, 0] 0 k = k := qdg (by simp [hkl])
  have ps : spl [0, 0, 0, 0, 0, 0, 0, 0, 0, 0, 0, 0, 0, 0, 0, 0] 0 s = s := qdg (by simp [hsl])
  simp only [z16, List.reduceReplicate] at q1 f1
  simp only [s35, s18, s36]
  simp only [ir30,rs30,gl,hF,sn,hnl,sa,sb,hpu,q1,f1,q2,f2,qc,fc,qh,fh,hkl,hsl,pk,ps,qdk,qdg,qaj,List.length_cons,List.length_nil,Nat.reduceAdd,Nat.le_refl,Nat.reduceLeDiff,Nat.reduceLT,true_and,and_true,↓qax,↓qay,↓qa0,↓qaz,↓qcy,↓qbj,↓qa1,↓qcr,↓qb3,↓qco,↓qcb,↓qck,↓qcl,↓qb4,↓qcj,↓qcp,↓qb5,↓qcm,↓qcn,↓qb6,↓qcc,↓qca,↓qb9,↓qb8,↓qb7,↓qa5,↓qbc,↓qa6,↓qbd,↓qa7,↓qbe,↓qa8,↓qbf,↓qa9,↓qbg,↓qba,↓qbh,↓qbb,↓qbi,↓qb2,↓qcq,↓qfq,↓qcu,↓qcv,↓qcw,↓qct,↓qcs,↓qbm,↓qbn,↓qb0,↓qbv,↓qbq,↓qbu,↓qbz,↓qbw,↓qby,↓qbx,↓qbr,↓qbp,↓qb1,↓qbs,↓qbt,↓qbo,↓qfd,↓qfc,↓qfh,↓qfj,↓qfi,↓qfb,↓qfa,↓qe7,↓qe8,↓qfg,↓qff,↓qfe,qdf,↓qe4,↓qe5,↓qe9,↓qdc,↓qda,↓qdb,↓qfl,↓qfm,↓qfn,↓qfk,qaa,↓qe6,↓qer,↓qes,↓qfp,↓qfo,↓qev,↓qdu,↓qd2,↓qej,↓qek,↓qe0,↓qe2,↓qdy,↓qdz,↓qd1,↓qd0,↓qd7,↓qe3,↓qd5,↓qew,↓qdx,↓qep,↓qex,↓qey,↓qez,↓qeb,↓qea,↓qec,↓qed,↓qef,↓qd9,↓qeg,↓qei,↓qeh,↓qdv,↓qdw,↓qd8,↓qaw,↓qd6,↓qeq,↓qem,↓qdt,↓qet,↓qen,↓qeo,↓qeu,↓qcd,↓qce,↓qcf,↓qcg,↓qch,↓qci,qdd,qde,qc1,qc2,↓qel,↓qee,qav,List.drop_zero,Nat.sub_zero,qc6,qcz,qc0,qdr,qat,qas,qaf,List.map_cons,List.map_nil,List.zip_cons_cons,List.zip_nil_right,List.zip_nil_left,qau,evs,evp,mkB,repB,blen,qae,qad,qac,qab,qc9,qc8,qdq,qds,qdo,qdp,qc5,qc7,qc3,qc4,↓qdm,↓qdl,↓qdn,↓qah,↓qag,↓qai,↓retQ,res,resAll,resOne,kill,apartOk,exp,injV,injB,pur,purs,purR,pursR,List.set_cons_zero,List.set_cons_succ,List.length_cons,List.length_nil,List.cons_append,List.nil_append,List.append_nil,List.append_assoc,List.length_append,List.reduceReplicate,Nat.reduceAdd,Nat.reduceMul,Nat.reduceSub,Nat.reduceEqDiff,Nat.reduceLT,Nat.zero_add,Nat.add_zero,Nat.mul_one,Int.reduceToNat,Int.toNat_natCast,Int.cast_ofNat_Int,Int.reduceLE,Int.reduceLT,Int.reduceEq,reduceCtorEq,↓reduceIte,Bool.true_eq_false,Bool.false_eq_true,Bool.not_true,Bool.not_false,true_and,and_true,and_assoc,qaj,sub1,qdi,qdh,qdj,List.length_replicate,Nat.le_refl,false_implies,true_implies,ne_eq,not_true_eq_false,not_false_eq_true,decide_true,decide_false,decide_eq_true_eq,decide_eq_false_iff_not,Bool.not_eq_true',Bool.not_eq_false']
  repeat (refine And.intro (by omega) ?_)
  refine awp_loopA (n := 39) hA [8, 9, 10, 26] (by decide +kernel) (fun i : Nat => [.ptr 7 0, .ptr 9 0, .ptr 10 0, .int .i64 i])
    (fun i => [.dead, .dead, .dead, .dead, .ints true .u8 a, .ints true .u8 b, .ints false .u8 n, .ints false .u8 [0, 0, 0, 0, 0, 0, 0, 0, 0, 0, 0, 0, 0, 0, 0, 0], .cells false [.slice 4 0 1 a.length a.length, .slice 5 0 1 b.length b.length], .ints false .u8 (jn s k i), .ints false .u8 k]) (fun i => i ≤ 16) (fun i => 16 - i) 0 ?_ (by omega) ?_
  · refine Hd.same ?_
    simp only [jn, List.map_cons, List.map_nil, Nat.reduceLT, qc6, qcz, qc0, reduceCtorEq, ↓reduceIte, Nat.reduceEqDiff, Int.cast_ofNat_Int, List.append_nil, List.cons_append, List.nil_append, qaf, and_true, true_and, Nat.zero_add, Nat.add_zero, Nat.reduceAdd, qc3, qc4, List.reduceReplicate]
  intro i hi K hK
  have hjl : (jn s k i).length = 16 := by rw [jn_len, hsl]
  by_cases hlt : i < 16
  · have c1 : (i : Int) < 16 := by omega
    have wi : Go.IntKind.i64.wrap ((i : Int) + 1) = ((i + 1 : Nat) : Int) := by rw [wrap_i64]; omega
    have hx : jn s k (i + 1) = (jn s k i).set i (bXor .u8 (getI (jn s k i) i) (getI k i)) := rfl
    obtain ⟨y, hy⟩ : ∃ y, jn s k i = y := ⟨_, rfl⟩
    rw [hy] at hx hjl ⊢
    simp only [c1,wi,hjl,hkl,hlt,qdk,qdg,qaj,List.length_cons,List.length_nil,Nat.reduceAdd,Nat.le_refl,Nat.reduceLeDiff,Nat.reduceLT,true_and,and_true,↓qax,↓qay,↓qa0,↓qaz,↓qcy,↓qbj,↓qa1,↓qcr,↓qb3,↓qco,↓qcb,↓qck,↓qcl,↓qb4,↓qcj,↓qcp,↓qb5,↓qcm,↓qcn,↓qb6,↓qcc,↓qca,↓qb9,↓qb8,↓qb7,↓qa5,↓qbc,↓qa6,↓qbd,↓qa7,↓qbe,↓qa8,↓qbf,↓qa9,↓qbg,↓qba,↓qbh,↓qbb,↓qbi,↓qb2,↓qcq,↓qfq,↓qcu,↓qcv,↓qcw,↓qct,↓qcs,↓qbm,↓qbn,↓qb0,↓qbv,↓qbq,↓qbu,↓qbz,↓qbw,↓qby,↓qbx,↓qbr,↓qbp,↓qb1,↓qbs,↓qbt,↓qbo,↓qfd,↓qfc,↓qfh,↓qfj,↓qfi,↓qfb,↓qfa,↓qe7,↓qe8,↓qfg,↓qff,↓qfe,qdf,↓qe4,↓qe5,↓qe9,↓qdc,↓qda,↓qdb,↓qfl,↓qfm,↓qfn,↓qfk,qaa,↓qe6,↓qer,↓qes,↓qfp,↓qfo,↓qev,↓qdu,↓qd2,↓qej,↓qek,↓qe0,↓qe2,↓qdy,↓qdz,↓qd1,↓qd0,↓qd7,↓qe3,↓qd5,↓qew,↓qdx,↓qep,↓qex,↓qey,↓qez,↓qeb,↓qea,↓qec,↓qed,↓qef,↓qd9,↓qeg,↓qei,↓qeh,↓qdv,↓qdw,↓qd8,↓qaw,↓qd6,↓qeq,↓qem,↓qdt,↓qet,↓qen,↓qeo,↓qeu,↓qcd,↓qce,↓qcf,↓qcg,↓qch,↓qci,qdd,qde,qc1,qc2,↓qel,↓qee,qav,List.drop_zero,Nat.sub_zero,qc6,qcz,qc0,qdr,qat,qas,qaf,List.map_cons,List.map_nil,List.zip_cons_cons,List.zip_nil_right,List.zip_nil_left,qau,evs,evp,mkB,repB,blen,qae,qad,qac,qab,qc9,qc8,qdq,qds,qdo,qdp,qc5,qc7,qc3,qc4,↓qdm,↓qdl,↓qdn,↓qah,↓qag,↓qai,↓retQ,res,resAll,resOne,kill,apartOk,exp,injV,injB,pur,purs,purR,pursR,List.set_cons_zero,List.set_cons_succ,List.length_cons,List.length_nil,List.cons_append,List.nil_append,List.append_nil,List.append_assoc,List.length_append,List.reduceReplicate,Nat.reduceAdd,Nat.reduceMul,Nat.reduceSub,Nat.reduceEqDiff,Nat.reduceLT,Nat.zero_add,Nat.add_zero,Nat.mul_one,Int.reduceToNat,Int.toNat_natCast,Int.cast_ofNat_Int,Int.reduceLE,Int.reduceLT,Int.reduceEq,reduceCtorEq,↓reduceIte,Bool.true_eq_false,Bool.false_eq_true,Bool.not_true,Bool.not_false,true_and,and_true,and_assoc,qaj,sub1,qdi,qdh,qdj,List.length_replicate,Nat.le_refl,false_implies,true_implies,ne_eq,not_true_eq_false,not_false_eq_true,decide_true,decide_false,decide_eq_true_eq,decide_eq_false_iff_not,Bool.not_eq_true',Bool.not_eq_false']
    repeat (refine And.intro (by omega) ?_)
    refine ⟨i + 1, hK _ (by omega) (by omega), Hd.same ?_⟩
    simp only [hx, List.map_cons, List.map_nil, Nat.reduceLT, qc6, qcz, qc0, reduceCtorEq, ↓reduceIte, Nat.reduceEqDiff, Int.cast_ofNat_Int, List.append_nil, List.cons_append, List.nil_append, qaf, and_true, true_and, Nat.zero_add, Nat.add_zero, Nat.reduceAdd, qc3, qc4, List.reduceReplicate]
  obtain rfl : i = 16 := by omega
  have c1 : ¬((16 : Nat) : Int) < 16 := by omega
  rw [hT] at hjl ⊢
  have sR : sub R 0 16 = R := qdk hjl
  have pR : spl [0, 0, 0, 0, 0, 0, 0, 0, 0, 0, 0, 0, 0, 0, 0, 0] 0 R = R := qdg (by simp [hjl])
  simp only [c1,hjl,sR,pR,qdk,qdg,qaj,List.length_cons,List.length_nil,Nat.reduceAdd,Nat.le_refl,Nat.reduceLeDiff,Nat.reduceLT,true_and,and_true,↓qax,↓qay,↓qa0,↓qaz,↓qcy,↓qbj,↓qa1,↓qcr,↓qb3,↓qco,↓qcb,↓qck,↓qcl,↓qb4,↓qcj,↓qcp,↓qb5,↓qcm,↓qcn,↓qb6,↓qcc,↓qca,↓qb9,↓qb8,↓qb7,↓qa5,↓qbc,↓qa6,↓qbd,↓qa7,↓qbe,↓qa8,↓qbf,↓qa9,↓qbg,↓qba,↓qbh,↓qbb,↓qbi,↓qb2,↓qcq,↓qfq,↓qcu,↓qcv,↓qcw,↓qct,↓qcs,↓qbm,↓qbn,↓qb0,↓qbv,↓qbq,↓qbu,↓qbz,↓qbw,↓qby,↓qbx,↓qbr,↓qbp,↓qb1,↓qbs,↓qbt,↓qbo,↓qfd,↓qfc,↓qfh,↓qfj,↓qfi,↓qfb,↓qfa,↓qe7,↓qe8,↓qfg,↓qff,↓qfe,qdf,↓qe4,↓qe5,↓qe9,↓qdc,↓qda,↓qdb,↓qfl,↓qfm,↓qfn,↓qfk,qaa,↓qe6,↓qer,↓qes,↓qfp,↓qfo,↓qev,↓qdu,↓qd2,↓qej,↓qek,↓qe0,↓qe2,↓qdy,↓qdz,↓qd1,↓qd0,↓qd7,↓qe3,↓qd5,↓qew,↓qdx,↓qep,↓qex,↓qey,↓qez,↓qeb,↓qea,↓qec,↓qed,↓qef,↓qd9,↓qeg,↓qei,↓qeh,↓qdv,↓qdw,↓qd8,↓qaw,↓qd6,↓qeq,↓qem,↓qdt,↓qet,↓qen,↓qeo,↓qeu,↓qcd,↓qce,↓qcf,↓qcg,↓qch,↓qci,qdd,qde,qc1,qc2,↓qel,↓qee,qav,List.drop_zero,Nat.sub_zero,qc6,qcz,qc0,qdr,qat,qas,qaf,List.map_cons,List.map_nil,List.zip_cons_cons,List.zip_nil_right,List.zip_nil_left,qau,evs,evp,mkB,repB,blen,qae,qad,qac,qab,qc9,qc8,qdq,qds,qdo,qdp,qc5,qc7,qc3,qc4,↓qdm,↓qdl,↓qdn,↓qah,↓qag,↓qai,↓retQ,res,resAll,resOne,kill,apartOk,exp,injV,injB,pur,purs,purR,pursR,List.set_cons_zero,List.set_cons_succ,List.length_cons,List.length_nil,List.cons_append,List.nil_append,List.append_nil,List.append_assoc,List.length_append,List.reduceReplicate,Nat.reduceAdd,Nat.reduceMul,Nat.reduceSub,Nat.reduceEqDiff,Nat.reduceLT,Nat.zero_add,Nat.add_zero,Nat.mul_one,Int.reduceToNat,Int.toNat_natCast,Int.cast_ofNat_Int,Int.reduceLE,Int.reduceLT,Int.reduceEq,reduceCtorEq,↓reduceIte,Bool.true_eq_false,Bool.false_eq_true,Bool.not_true,Bool.not_false,true_and,and_true,and_assoc,qaj,sub1,qdi,qdh,qdj,List.length_replicate,Nat.le_refl,false_implies,true_implies,ne_eq,not_true_eq_false,not_false_eq_true,decide_true,decide_false,decide_eq_true_eq,decide_eq_false_iff_not,Bool.not_eq_true',Bool.not_eq_false']
  repeat (refine And.intro (by omega) ?_)
  simp only [out, outs, out1, pur, and_self]
end Am

/-
Working texts: contracts of functions, and the numbers behind them.
-/
import Derived.Test.YtcefobjfkmfmiaaDoorGcH
import Derived.Test.YtcefobjfkmfmiaaDoorAeC
import Derived.Test.YtcefobjfkmfmiaaDoorAeR
set_option linter.unusedSimpArgs false
set_option linter.unusedVariables false
set_option linter.unusedSectionVars false
set_option maxRecDepth 20000
namespace Am
open Go.Proofs
/-! ### The reference's hash is the program's -/
theorem blk_get {x y:Int}:∀n,n≤8→∀j,j<16→getI (itr (blkS x y) z16 n) j=if j<n then Go.IntKind.u8.wrap (iShr .u64 x ((56-8*j:Nat):Int))else if 8≤j∧j<8+n then Go.IntKind.u8.wrap (iShr .u64 y ((56-8*(j-8):Nat):Int))else 0
  | 0,_,j,hj=>by
    rw[if_neg (by omega),if_neg (by omega)]
    simp only[itr,getI,z16,List.getD_eq_getElem?_getD,List.getElem?_replicate]
    split<;>rfl
  | n+1,hn,j,hj=>by
    have ih:=blk_get (x:=x) (y:=y) n (by omega) j hj
    have hl:=(blkS_ok (x:=x) (y:=y) n).1
    rw[itr_s,blkS,getI_st,getI_st,ih,List.length_set,hl]
    by_cases h1:8+n=j
    · rw[if_pos ⟨h1,hj⟩,if_neg (by omega),if_pos ⟨by omega,by omega⟩,show j-8=n by omega]
    · rw[if_neg (fun h=>h1 h.1)]
      by_cases h2:n=j
      · rw[if_pos ⟨h2,hj⟩,if_pos (by omega),h2]
      · rw[if_neg (fun h=>h2 h.1)]
        by_cases h3:j<n
        · rw[if_pos h3,if_pos (by omega)]
        · rw[if_neg h3,if_neg (show ¬j<n+1 by omega)]
          by_cases h4:8≤j∧j<8+n
          · rw[if_pos h4,if_pos (show 8≤j∧j<8+(n+1) by omega)]
          · rw[if_neg h4,if_neg (show ¬(8≤j∧j<8+(n+1)) by omega)]
theorem w8_nb {x:Int} (hx:Wd x) {r:Nat} (hr:r<8):nb (Go.IntKind.u8.wrap x) r=nb x r:=by
  obtain⟨n,rfl,hn⟩:=hx.nat
  have e:Go.IntKind.u8.wrap (n:Int)=((n%2^8:Nat):Int):=by rw[wrap_u8];omega
  rw[e,nb_nat,nb_nat,Nat.testBit_mod_two_pow]
  simp[hr]
theorem blk_bit {x y:Int} (hx:Wd x) (hy:Wd y) {i:Nat} (hi:i<128):Bb (blkF x y) i=Hb (x,y) i:=by
  unfold Bb blkF
  rw[blk_get 8 (by decide) _ (by omega)]
  by_cases h64:i<64
  · rw[Hb_lo h64,if_neg (by omega),if_pos ⟨by omega,by omega⟩]
    have h:=wd_shr hy (s:=56-8*(15-i/8-8)) (by omega)
    rw[w8_nb h.1 (by omega),h.2,show i%8+(56-8*(15-i/8-8))=i by omega]
  · rw[Hb_hi h64,if_pos (by omega)]
    have h:=wd_shr hx (s:=56-8*(15-i/8)) (by omega)
    rw[w8_nb h.1 (by omega),h.2,show i%8+(56-8*(15-i/8))=i-64 by omega]
theorem blk_of {b:List Int} (hb:B16 b):blkF (ofF b).1 (ofF b).2=b:=by
  have w:=of_w2 hb
  refine bb_ext (blkF_ok _ _) hb fun i hi=>?_
  rw[blk_bit w.1 w.2 hi,←of_bit hb hi]
theorem of_blk {x y:Int} (hx:Wd x) (hy:Wd y):ofF (blkF x y)=(x,y):=by
  refine w2_ext (of_w2 (blkF_ok _ _)) ⟨hx,hy⟩ fun i hi=>?_
  rw[of_bit (blkF_ok _ _) hi,blk_bit hx hy hi]
theorem xx_zero {x:Int} (hx:Bt x):bXor .u8 x 0=x:=by
  obtain⟨n,rfl,hn⟩:=hx.nat
  have:=xn hn (show 0<256 by decide)
  rw[Nat.xor_zero]at this
  exact this
theorem chk_get {xs:List Int} {m j:Nat} (hj:j<16):getI (chk xs m) j=if 16*m+j<xs.length then getI xs (16*m+j)else 0:=by
  have hs:(sub xs (16*m) 16).length≤16:=by simp[sub];omega
  have hsl:(sub xs (16*m) 16).length=min 16 (xs.length-16*m):=by simp[sub]
  have e:chk xs m=sub xs (16*m) 16++z16.drop (sub xs (16*m) 16).length:=by simp[chk,spl]
  rw[e]
  simp only[getI,List.getD_eq_getElem?_getD]
  by_cases h:16*m+j<xs.length
  · rw[if_pos h,List.getElem?_append_left (by omega)]
    simp[sub,List.getElem?_take_of_lt hj,List.getElem?_drop]
  · rw[if_neg h,List.getElem?_append_right (by omega)]
    simp only[z16,List.getElem?_drop,List.getElem?_replicate]
    split<;>rfl
theorem xk_get {b y:List Int} {m:Nat} (hy:y.length=16):∀n,n≤16→∀j,getI (itr (xkS b m) y n) j=if j<n then bXor .u8 (getI y j) (getI b (16*m+j))else getI y j
  | 0,_,j=>by rw[if_neg (by omega)];rfl
  | n+1,hn,j=>by
    have hl:=xkS_len (b:=b) (m:=m) hy n
    rw[itr_s,xkS,getI_st,xk_get hy n (by omega) j,xk_get hy n (by omega) n,if_neg (Nat.lt_irrefl n),hl]
    by_cases h:n=j
    · subst h
      rw[if_pos ⟨rfl,by omega⟩,if_pos (by omega)]
    · rw[if_neg (fun h2=>h h2.1)]
      by_cases h3:j<n
      · rw[if_pos h3,if_pos (by omega)]
      · rw[if_neg h3,if_neg (by omega)]
theorem xk_jn {b y:List Int} (hy:B16 y) (hb:Dig 256 b) (m:Nat):itr (xkS b m) y (min (16*(m+1)) b.length-16*m)=jn y (chk b m) 16:=by
  refine getI_ext (by rw[xkS_len hy.1,jn_len,hy.1]) fun j hj=>?_
  rw[xkS_len hy.1]at hj
  rw[xk_get hy.1 _ (by omega),jn_get hy.1,if_pos hj,chk_get hj]
  by_cases h:16*m+j<b.length
  · rw[if_pos (by omega),if_pos h]
  · rw[if_neg (by omega),if_neg h,xx_zero (hy.2.all (by decide) j)]
theorem hr_step {h b y:List Int} (hh:B16 h) (hy:B16 y) (hb:Dig 256 b):∀n,B16 (itr (hrS h b) y n)∧ofF (itr (hrS h b) y n)=itr (hstS (ofF h) b) (ofF y) n
  | 0=>⟨hy,rfl⟩
  | n+1=>by
    obtain⟨h1,h2⟩:=hr_step hh hy hb n
    rw[itr_s,itr_s,hrS,xk_jn h1 hb]
    have hj:=jn_ok (b:=chk b n) h1
    refine⟨bk_ok hj hh,?_⟩
    rw[bk_of hj hh,jn_of h1 (chk_ok hb n),h2]
    rfl
theorem hr_of {h b y:List Int} (hh:B16 h) (hy:B16 y) (hb:Dig 256 b):B16 (hrF y h b)∧ofF (hrF y h b)=hshB (ofF h) (ofF y) b:=hr_step hh hy hb (nbl b)
theorem bitl_wd (xs:List Int):Wd (bitl xs):=by unfold bitl;rw[wrap_u64];exact⟨by omega,by omega⟩
theorem of_z16:ofF z16=(0,0):=by decide +kernel
theorem itr_1 {α:Type} {f:α→Nat→α} {x:α}:itr f x 1=f x 0:=rfl
theorem hsI_2 {h:Int×Int} {a b:List Int}:hsI h a b 2=(hshB h (hshB h (0,0) a) b,(bitl a,bitl b)):=by
  show hsS h a b (hsS h a b ((0,0),(0,0)) 0) 1=_
  simp only[hsS,pP,if_true,show ¬(1:Nat)=0 by decide,if_false]
theorem hr_hash {H a S:List Int} (hH:B16 H) (ha:Dig 256 a) (hS:Dig 256 S):hrF (hrF (hrF z16 H a) H S) H (blkF (bitl a) (bitl S))=hashF H a S:=by
  obtain⟨b1,o1⟩:=hr_of hH z16_ok ha
  obtain⟨b2,o2⟩:=hr_of hH b1 hS
  have hl:=blkF_ok (bitl a) (bitl S)
  obtain⟨b3,o3⟩:=hr_of hH b2 hl.2
  rw[←blk_of b3,o3,o2,o1,of_z16]
  have e2:chk (blkF (bitl a) (bitl S)) 0=blkF (bitl a) (bitl S):=by
    refine getI_ext (by rw[(chk_ok hl.2 0).1,hl.1]) fun j hj=>?_
    rw[(chk_ok hl.2 0).1]at hj
    rw[chk_get hj,if_pos (by rw[hl.1];omega)]
    simp
  rw[hashF,hsI_2,fin2]
  obtain⟨h,hh⟩:∃h,ofF H=h:=⟨_,rfl⟩
  rw[hh]
  obtain⟨y,hy⟩:∃y,hshB h (hshB h (0,0) a) S=y:=⟨_,rfl⟩
  rw[hy,hshB,nbl,hl.1,show (16+15)/16=1 from rfl,itr_1,hstS,e2,of_blk (bitl_wd a) (bitl_wd S)]
theorem ctr_get {c:List Int} {n:Int} (hc:B12 c):∀m,m≤4→∀j,j<16→getI (itr (ctrS n) (c++[0,0,0,0]) m) j=if 12≤j∧j<12+m then Go.IntKind.u8.wrap (iShr .u32 n ((24-8*(j-12):Nat):Int))else getI (c++[0,0,0,0]) j
  | 0,_,j,hj=>by rw[if_neg (by omega)];rfl
  | m+1,hm,j,hj=>by
    have hl:=(ctrS_ok (n:=n) hc m).1
    rw[itr_s,ctrS,getI_st,ctr_get hc m (by omega) j hj,hl]
    by_cases h:12+m=j
    · rw[if_pos ⟨h,hj⟩,if_pos (by omega),show j-12=m by omega]
    · rw[if_neg (fun h2=>h h2.1)]
      by_cases h3:12≤j∧j<12+m
      · rw[if_pos h3,if_pos (by omega)]
      · rw[if_neg h3,if_neg (by omega)]
theorem cp_get {c:List Int} (hc:B12 c):∀m,m≤12→∀j,j<16→getI (itr (cpS c) z16 m) j=if j<m then getI c j else 0
  | 0,_,j,hj=>by
    rw[if_neg (by omega)]
    simp only[itr,getI,z16,List.getD_eq_getElem?_getD,List.getElem?_replicate]
    split<;>rfl
  | m+1,hm,j,hj=>by
    have hl:=(cpS_ok hc m).1
    rw[itr_s,cpS,getI_st,cp_get hc m (by omega) j hj,hl]
    by_cases h:m=j
    · rw[if_pos ⟨h,hj⟩,if_pos (by omega),h]
    · rw[if_neg (fun h2=>h h2.1)]
      by_cases h3:j<m
      · rw[if_pos h3,if_pos (by omega)]
      · rw[if_neg h3,if_neg (by omega)]
theorem shr32 {m s:Nat} (hm:m<65536) (hs:s<32):iShr .u32 (m:Int) (s:Int)=((m/2^s:Nat):Int):=by
  unfold iShr
  rw[Int.toNat_natCast,show Go.IntKind.u32.bits=32 from rfl,Nat.min_eq_left (by omega),fdiv_nat]
theorem cr_ctr {c:List Int} {m:Nat} (hc:B12 c) (hm:m<65536):crF c m=ctrF c (m:Int):=by
  refine getI_ext (by rw[(crF_ok hc m).1,(ctr_ok hc).1]) fun j hj=>?_
  rw[(crF_ok hc m).1]at hj
  have hl:=(cpS_ok hc 12).1
  unfold crF ctrF
  rw[ctr_get hc 4 (by decide) j hj,getI_st,getI_st,List.length_set,hl,cp_get hc 12 (by decide) j hj]
  rcases (by omega:j<12∨j=12∨j=13∨j=14∨j=15)with h | rfl | rfl | rfl | rfl
  · rw[if_neg (by omega),if_neg (by omega),if_pos h,if_neg (by omega),getI_app (by rw[hc.1];exact h)]
  · rw[if_neg (by omega),if_neg (by omega),if_neg (by omega),if_pos (by omega),shr32 hm (by omega),wrap_u8]
    have:m/2^(24-8*(12-12))=0:=Nat.div_eq_of_lt (by omega)
    rw[this];rfl
  · rw[if_neg (by omega),if_neg (by omega),if_neg (by omega),if_pos (by omega),shr32 hm (by omega),wrap_u8]
    have:m/2^(24-8*(13-12))=0:=Nat.div_eq_of_lt (by omega)
    rw[this];rfl
  · rw[if_neg (by omega),if_pos ⟨rfl,by omega⟩,if_pos (by omega),shr32 hm (by omega)]
  · rw[if_pos ⟨rfl,by omega⟩,if_pos (by omega),shr32 hm (by omega),wrap_u8,wrap_u8]
    have:m/2^(24-8*(15-12))=m:=by simp
    rw[this]
    omega
theorem take_snoc {l:List Int} {j:Nat} (h:j<l.length):l.take (j+1)=l.take j++[getI l j]:=by
  rw[List.take_add_one]
  simp[getI,List.getD_eq_getElem?_getD,h]
end Am
set_option maxRecDepth 20000
namespace Am
/-! ### The program's box is the reference's, byte by byte -/
theorem sb0:∀n:Nat,n<16→subE ((n+0:Nat):Int)=subR ((n+0:Nat):Int):=by decide +kernel
theorem sb1:∀n:Nat,n<16→subE ((n+16:Nat):Int)=subR ((n+16:Nat):Int):=by decide +kernel
theorem sb2:∀n:Nat,n<16→subE ((n+32:Nat):Int)=subR ((n+32:Nat):Int):=by decide +kernel
theorem sb3:∀n:Nat,n<16→subE ((n+48:Nat):Int)=subR ((n+48:Nat):Int):=by decide +kernel
theorem sb4:∀n:Nat,n<16→subE ((n+64:Nat):Int)=subR ((n+64:Nat):Int):=by decide +kernel
theorem sb5:∀n:Nat,n<16→subE ((n+80:Nat):Int)=subR ((n+80:Nat):Int):=by decide +kernel
theorem sb6:∀n:Nat,n<16→subE ((n+96:Nat):Int)=subR ((n+96:Nat):Int):=by decide +kernel
theorem sb7:∀n:Nat,n<16→subE ((n+112:Nat):Int)=subR ((n+112:Nat):Int):=by decide +kernel
theorem sb8:∀n:Nat,n<16→subE ((n+128:Nat):Int)=subR ((n+128:Nat):Int):=by decide +kernel
theorem sb9:∀n:Nat,n<16→subE ((n+144:Nat):Int)=subR ((n+144:Nat):Int):=by decide +kernel
theorem sb10:∀n:Nat,n<16→subE ((n+160:Nat):Int)=subR ((n+160:Nat):Int):=by decide +kernel
theorem sb11:∀n:Nat,n<16→subE ((n+176:Nat):Int)=subR ((n+176:Nat):Int):=by decide +kernel
theorem sb12:∀n:Nat,n<16→subE ((n+192:Nat):Int)=subR ((n+192:Nat):Int):=by decide +kernel
theorem sb13:∀n:Nat,n<16→subE ((n+208:Nat):Int)=subR ((n+208:Nat):Int):=by decide +kernel
theorem sb14:∀n:Nat,n<16→subE ((n+224:Nat):Int)=subR ((n+224:Nat):Int):=by decide +kernel
theorem sb15:∀n:Nat,n<16→subE ((n+240:Nat):Int)=subR ((n+240:Nat):Int):=by decide +kernel
theorem sub_nat {n:Nat} (h:n<256):subE (n:Int)=subR (n:Int):=by
  have hq:n=n%16+16*(n/16):=by omega
  have hr:n%16<16:=Nat.mod_lt _ (by decide)
  have hd:n/16<16:=by omega
  rw[hq]
  generalize n%16=r at hr
  generalize n/16=d at hd
  rcases (by omega:d=0∨d=1∨d=2∨d=3∨d=4∨d=5∨d=6∨d=7∨d=8∨d=9∨d=10∨d=11∨d=12∨d=13∨d=14∨d=15)with rfl | rfl | rfl | rfl | rfl | rfl | rfl | rfl | rfl | rfl | rfl | rfl | rfl | rfl | rfl | rfl
  · exact sb0 r hr
  · exact sb1 r hr
  · exact sb2 r hr
  · exact sb3 r hr
  · exact sb4 r hr
  · exact sb5 r hr
  · exact sb6 r hr
  · exact sb7 r hr
  · exact sb8 r hr
  · exact sb9 r hr
  · exact sb10 r hr
  · exact sb11 r hr
  · exact sb12 r hr
  · exact sb13 r hr
  · exact sb14 r hr
  · exact sb15 r hr
theorem sub_eq {x:Int} (h:0≤x∧x<256):subE x=subR x:=by
  obtain⟨n,rfl⟩:=Int.eq_ofNat_of_zero_le h.1
  exact sub_nat (by omega)
end Am
set_option maxRecDepth 20000
namespace Am
open Go.Proofs
/-! ### The rounds' keys: the program's are the reference's -/
def vv (W l:List Int):Nat→Int
  | 0=>bXor .u8 (getI W 0) (getI l 0)
  | 1=>bXor .u8 (getI W 1) (getI l 1)
  | 2=>bXor .u8 (getI W 2) (getI l 2)
  | 3=>bXor .u8 (getI W 3) (getI l 3)
  | n+4=>bXor .u8 (vv W l n) (getI l (n+4))
theorem vv_eq {W l:List Int}:∀n,vv W l n=bXor .u8 (if n<4 then getI W n else vv W l (n-4)) (getI l n)
  | 0=>rfl
  | 1=>rfl
  | 2=>rfl
  | 3=>rfl
  | n+4=>by rw[vv,if_neg (by omega),Nat.add_sub_cancel]
theorem vv_bt {W l:List Int} (n:Nat):Bt (vv W l n):=by rw[vv_eq];exact x8_bd _ _
theorem inn_get {W last L:List Int} {i:Nat} (hW:W.length=4) (hL:L.length=432) (hi:i<11):∀n,n≤16→(itr (innst last i) (W,L) n).1.length=4∧(itr (innst last i) (W,L) n).2.length=432 ∧
    (∀t,n≤t→t<n+4→getI (itr (innst last i) (W,L) n).1 (t%4)=if t<4 then getI W t else vv W last (t-4)) ∧
    ∀j,getI (itr (innst last i) (W,L) n).2 j=if i*16≤j∧j<i*16+n then vv W last (j-i*16)else getI L j
  | 0,_=>⟨hW,hL,fun t h1 h2=>by rw[if_pos (by omega),Nat.mod_eq_of_lt (by omega)];rfl,fun j=>by rw[if_neg (by omega)];rfl⟩
  | n+1,hn=>by
    obtain⟨h1,h2,h3,h4⟩:=inn_get (last:=last) hW hL hi n (by omega)
    have e:itr (innst last i) (W,L) (n+1)=innst last i (itr (innst last i) (W,L) n) n:=rfl
    rw[e]
    obtain⟨⟨w,l⟩,hs⟩:∃s,itr (innst last i) (W,L) n=s:=⟨_,rfl⟩
    rw[hs]at h1 h2 h3 h4 ⊢
    simp only at h1 h2 h3 h4
    have hv:bXor .u8 (getI w (n%4)) (getI last n)=vv W last n:=by rw[h3 n (by omega) (by omega),←vv_eq]
    simp only[innst,hv]
    refine⟨by rw[List.length_set,h1],by rw[List.length_set,h2],fun t k1 k2=>?_,fun j=>?_⟩
    · rw[getI_set _ _ _ _ (by omega)]
      by_cases ht:t=n+4
      · subst ht
        rw[if_pos (by omega),if_neg (by omega),Nat.add_sub_cancel]
      · rw[if_neg (by omega),h3 t (by omega) (by omega)]
    · rw[getI_set _ _ _ _ (by omega),h4]
      by_cases hj:j=i*16+n
      · rw[if_pos hj,if_pos (by omega),hj,Nat.add_sub_cancel_left]
      · rw[if_neg hj]
        by_cases hq:i*16≤j∧j<i*16+n
        · rw[if_pos hq,if_pos (by omega)]
        · rw[if_neg hq,if_neg (by omega)]
theorem rkA_get {w ks:List Int} {n:Nat} (hl:ks.length=n) (hn:16≤n):∀i,i≤4→(itr (rkA w n) ks i).length=n+i∧(∀j,j<n→getI (itr (rkA w n) ks i) j=getI ks j)∧∀j,j<i→getI (itr (rkA w n) ks i) (n+j)=bXor .u8 (getI ks (n-16+j)) (getI w j)
  | 0,_=>⟨hl,fun _ _=>rfl,fun j h=>absurd h (by omega)⟩
  | i+1,hi=>by
    obtain⟨h1,h2,h3⟩:=rkA_get (w:=w) hl hn i (by omega)
    rw[itr_s]
    obtain⟨l,hs⟩:∃s,itr (rkA w n) ks i=s:=⟨_,rfl⟩
    rw[hs]at h1 h2 h3 ⊢
    rw[rkA]
    refine⟨by simp[h1];omega,fun j hj=>?_,fun j hj=>?_⟩
    · rw[getI_append_left (by omega),h2 j hj]
    · by_cases hq:j<i
      · rw[getI_append_left (by omega),h3 j hq]
      · obtain rfl:j=i:=by omega
        rw[getI_append_right (by omega),h2 _ (by omega),h1,Nat.sub_self];rfl
/-- Four words behind one another. -/
theorem rk4 {bx ks:List Int} {c:Int} {r:Nat} (hk:Kn (16+16*r) ks) (hx:B256 bx):∀q,1≤q→q≤4 →
    ∃ks',itr (fun s i=>rkS bx s (4*r+i)) (c,ks) q=(byG c 2 8 0,ks')∧Kn (16+16*r+4*q) ks'∧(∀j,j<16+16*r→getI ks' j=getI ks j) ∧
      ∀i,i<4*q→getI ks' (16+16*r+i)=vv (rkW bx (sub ks (12+16*r) 4) c) (sub ks (16*r) 16) i:=by
  intro q
  induction q with
  | zero=>intro h;omega
  | succ q ih =>
    intro _ hq
    by_cases h0:q=0
    · subst h0
      have e:itr (fun s i=>rkS bx s (4*r+i)) (c,ks) (0+1)=rkS bx (c,ks) (4*r+0):=rfl
      rw[e,rkS,if_pos (by omega)]
      obtain⟨h1,h2,h3⟩:=rkA_get (w:=rkW bx (sub ks (12+4*(4*r+0)) 4) c) hk.1 (by omega) 4 (by omega)
      have hok:=rkA_ok (w:=rkW bx (sub ks (12+4*(4*r+0)) 4) c) (n:=16+16*r) hk 4
      rw[show 16+4*(4*r+0)=16+16*r by omega]
      rw[show 12+4*(4*r+0)=12+16*r by omega]at *
      refine⟨_,rfl,hok,h2,fun i hi=>?_⟩
      have hW:∀j,Bt (getI (rkW bx (sub ks (12+16*r) 4) c) j):=fun j=>by
        have hb:=fun j=>hx.2.all (by decide) j
        unfold rkW
        rcases j with _ | _ | _ | _ | j
        · exact x8_bd _ _
        · exact hb _
        · exact hb _
        · exact hb _
        · exact(show Bt 0 from ⟨Int.le_refl 0,by decide⟩)
      rw[h3 i (by omega),vv_eq,if_pos (by omega),getI_sub (by omega),show 16+16*r-16+i=16*r+i by omega]
      exact x_comm (hk.2.all (by decide) _) (hW _)
    · obtain⟨ks',e1,e2,e3,e4⟩:=ih (by omega) (by omega)
      rw[itr_s,e1,rkS,if_neg (by omega)]
      simp only
      have hlen:ks'.length=16+4*(4*r+q):=by rw[e2.1];omega
      obtain⟨h1,h2,h3⟩:=rkA_get (w:=sub ks' (12+4*(4*r+q)) 4) hlen (by omega) 4 (by omega)
      have hok:=rkA_ok (w:=sub ks' (12+4*(4*r+q)) 4) (n:=16+4*(4*r+q)) e2 4
      refine⟨_,rfl,by rw[show 16+16*r+4*(q+1)=16+16*r+4*q+4 by omega];exact hok,fun j hj=>by rw[h2 j (by omega),e3 j hj],fun i hi=>?_⟩
      by_cases hlt:i<4*q
      · rw[h2 _ (by omega),e4 i hlt]
      · obtain⟨t,rfl⟩:∃t,i=4*q+t:=⟨i-4*q,by omega⟩
        rw[show 16+16*r+(4*q+t)=16+4*(4*r+q)+t by omega,h3 t (by omega),vv_eq,if_neg (by omega),getI_sub (by omega),getI_sub (by omega),
          show 16+4*(4*r+q)-16+t=16*r+(4*q+t) by omega,e3 _ (by omega),show 12+4*(4*r+q)+t=16+16*r+(4*q+t-4) by omega,e4 _ (by omega)]
        exact x_comm (hk.2.all (by decide) _) (vv_bt _)
theorem itr_add {α:Type} {f:α→Nat→α} {x:α} (m:Nat):∀n,itr f x (m+n)=itr (fun s i=>f s (m+i)) (itr f x m) n
  | 0=>rfl
  | n+1=>by rw[←Nat.add_assoc,itr_s,itr_add m n];rfl
theorem bxs_get {k:List Int} (hk:k.length=16):∀n,n≤256→∀j,getI (bxs k n) j=if 176≤j∧j<176+n then subE ((j-176:Nat):Int)else getI (lay0 k) j:=fun n hn j=>by
  have hl:(lay0 k).length=432:=by simp[lay0,hk]
  have:=(itr_set (s0:=lay0 k) (o:=176) (N:=256) (f:=fun l i=>l.set (176+i) (subE i)) (g:=fun i=>subE (i:Int)) (by omega) (fun n s hn hs h=>rfl) n hn).2 j
  rw[bxs,this]
theorem boxL_get:∀x,x<256→getI (boxL 256) x=subR (x:Int):=fun x hx=>by simp[boxL,getI,hx]
theorem subR_bd (x:Int):Bt (subR x):=by unfold subR;rw[wrap_u8];unfold Bt;omega
theorem boxL_ok:B256 (boxL 256):=⟨boxL_len 256,fun x hx=>by
  simp only[boxL,List.mem_map]at hx
  obtain⟨i,-,rfl⟩:=hx
  exact subR_bd _⟩
theorem byG_tw {x:Int} (h:Bt x):byG x 2 8 0=twi x∧Bt (twi x):=by
  obtain⟨n,rfl,hn⟩:=h.nat
  have:=twi_tw n hn
  rw[this.2.1,this.1]
  exact⟨rfl,by unfold Bt;omega⟩
theorem keys_same {k:List Int} (hk:B16 k):∀r,r≤10→(itr kst (1,bxs k 256) r).1=(itr (rkS (boxL 256)) (1,k) (4*r)).1∧Bt (itr kst (1,bxs k 256) r).1 ∧
    (∀j,j<16+16*r→getI (itr kst (1,bxs k 256) r).2 j=getI (itr (rkS (boxL 256)) (1,k) (4*r)).2 j)∧∀x,x<256→getI (itr kst (1,bxs k 256) r).2 (176+x)=getI (boxL 256) x
  | 0,_=>by
    have e0:itr kst (1,bxs k 256) 0=(1,bxs k 256):=by rw[itr]
    have e1:itr (rkS (boxL 256)) (1,k) (4*0)=(1,k):=by rw[Nat.mul_zero,itr]
    rw[e0,e1]
    simp only
    refine⟨trivial,⟨by decide,by decide⟩,fun j hj=>?_,fun x hx=>?_⟩
    · rw[bxs_get hk.1 256 (by decide),if_neg (by omega),lay0,getI_append_left (by rw[hk.1];omega)]
    · rw[bxs_get hk.1 256 (by decide),if_pos (by omega),Nat.add_sub_cancel_left,boxL_get x hx,sub_eq ⟨by omega,by omega⟩]
  | r+1,hr=>by
    obtain⟨h1,h2,h3,h4⟩:=keys_same hk r (by omega)
    have hok:=keys_ok (bxs_ok hk.1 hk.2 256) r
    have hkn:=rks_ok (bx:=boxL 256) hk (4*r)
    rw[itr_s,show 4*(r+1)=4*r+4 by omega,itr_add (4*r) 4]
    obtain⟨⟨x,L⟩,hs⟩:∃s,itr kst (1,bxs k 256) r=s:=⟨_,rfl⟩
    obtain⟨⟨c,ks⟩,hs2⟩:∃s,itr (rkS (boxL 256)) (1,k) (4*r)=s:=⟨_,rfl⟩
    rw[hs,hs2]at h1 h3
    rw[hs]at h2 h4 hok
    rw[hs2]at hkn
    rw[hs,hs2]
    simp only at h1 h2 h3 h4 hok hkn
    rw[show 16+4*(4*r)=16+16*r by omega]at hkn
    subst h1
    obtain⟨ks',e1,e2,e3,e4⟩:=rk4 (c:=x) hkn boxL_ok 4 (by decide) (by decide)
    rw[e1]
    have hl:sub L (r*16) 16=sub ks (16*r) 16:=by
      refine getI_ext (by simp[sub,hok.1,hkn.1];omega) fun j hj=>?_
      have hj:j<16:=by simp[sub]at hj;omega
      rw[getI_sub hj,getI_sub hj,Nat.mul_comm r 16,h3 _ (by omega)]
    have hld:∀j,Bt (getI ks j):=fun j=>hkn.2.all (by decide) j
    have hg:∀j,j<16→getI (sub ks (16*r) 16) j=getI ks (16*r+j):=fun j hj=>getI_sub hj
    have hw:∀j,j<4→getI (sub ks (12+16*r) 4) j=getI ks (16*r+(12+j)):=fun j hj=>by rw[getI_sub hj];congr 1;omega
    have hxw:Go.IntKind.u8.wrap x=x:=by have:=h2.1;have:=h2.2;rw[wrap_u8];omega
    have hb:∀j,getI L (176+(getI ks j).toNat)=getI (boxL 256) (getI ks j).toNat:=fun j=>h4 _ (by have:=hld j;unfold Bt at this;omega)
    have hkw:kw x L (sub ks (16*r) 16)=rkW (boxL 256) (sub ks (12+16*r) 4) x:=by
      rw[kw,rkW,hg _ (by decide),hg _ (by decide),hg _ (by decide),hg _ (by decide),hw _ (by decide),hw _ (by decide),hw _ (by decide),hw _ (by decide),hxw,hb,hb,hb,hb]
    simp only[kst]
    rw[hl,hkw]
    obtain⟨W,hW⟩:∃W,rkW (boxL 256) (sub ks (12+16*r) 4) x=W:=⟨_,rfl⟩
    obtain⟨l,hle⟩:∃l,sub ks (16*r) 16=l:=⟨_,rfl⟩
    have Wl:W.length=4:=by rw[←hW];rfl
    rw[hW,hle]at e4 ⊢
    obtain⟨i1,i2,i3,i4⟩:=inn_get (last:=l) (i:=r+1) Wl hok.1 (by omega) 16 (by omega)
    have hbg:=byG_tw h2
    refine⟨hbg.1.symm,hbg.2,fun j hj=>?_,fun y hy=>?_⟩
    · rw[i4]
      by_cases hq:j<16+16*r
      · rw[if_neg (by omega),h3 j hq,e3 j hq]
      · rw[if_pos (by omega)]
        obtain⟨t,rfl⟩:∃t,j=16+16*r+t:=⟨j-(16+16*r),by omega⟩
        rw[e4 t (by omega),show 16+16*r+t-(r+1)*16=t by omega]
    · rw[i4,if_neg (by omega),h4 y hy]
theorem same_key {k:List Int} (hk:B16 k):Same (newF k) (keysR (boxL 256) k) (boxL 256) :=
  ⟨fun j hj=>(keys_same hk 10 (by decide)).2.2.1 j hj,(keys_same hk 10 (by decide)).2.2.2⟩
/-- The program's blocks are the reference's. -/
theorem aes_eq {k b:List Int} (hk:B16 k) (hb:B16 b):encF (newF k) b=encR (boxL 256) k b:=by
  rw[enc_eq (new_ok hk) boxL_ok (same_key hk) hb,encR]
end Am

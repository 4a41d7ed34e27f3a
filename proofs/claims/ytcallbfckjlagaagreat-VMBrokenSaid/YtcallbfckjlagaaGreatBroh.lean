/-
  HELPERS of the claim: part 8 of its texts.
-/
import Derived.Test.YtcallbfckjlagaaGreatBrog
noncomputable section
set_option maxHeartbeats 4000000
set_option maxRecDepth 100000
set_option linter.unusedSimpArgs false
set_option linter.unusedVariables false
namespace Go.Proofs.YtcallbfckjlagaaGreat
open Go.Eng (IC IOper DReg IFn IsFn)
open Go.Sym Go.Pb
section
abbrev u15_8:IC:=qK .skip (.exit 0) (.t 19) [1,4,5,6,19]
abbrev u15_7:IC:=qS [oM 11 6,oK 12 11 .add 2,oM 13 1,oH 14 13,oB 15 12 14 .lss,oM 16 15,gM 17 6 16,gK 18 17 16 .lss 9,oJ 19 16 18] u15_8 [1,4,5,6]
abbrev u15_17:IC:=qE [oF 60 5 0,oL 61 60,oM 62 7,oM 63 8,oK 64 63 .rem 34,oA 65 61 62 2,oF 66 65 0,oS 66 64 1] [1,4,5,6,7,8]
abbrev u15_20:IC:=qE [oF 69 5 0,oL 70 69,oM 71 7,oM 72 8,oA 73 70 71 2,oF 74 73 1,oS 74 72 1] [1,4,5,6,7,8]
abbrev u15_23:IC:=qE [oF 77 5 0,oL 78 77,oM 79 7,oM 80 8,oK 81 80 .rem 12,oA 82 78 79 2,oF 83 82 1,oS 83 81 1] [1,4,5,6,7,8]
abbrev u15_26:IC:=qG [oF 86 5 0,oL 87 86,oM 88 7,oP 89 (.slc 2 (.t 87) none (some (.t 88))),⟨some 90,.eff (.app 2 16 (.k (.slice none 0 0)) (.t 89)),none⟩,oF 91 5 0,oL 92 91,oM 93 7,oK 94 93 .add 1,oP 95 (.slc 2 (.t 92) (some (.t 94)) none),oT 96 90 95 2 16,oF 97 5 0,oS 97 96 1] [(0,none),(1,none),(2,none),(3,none),(5,none),(6,none),(7,none),(8,none),(9,none),(4,some [5,6,7,8,9]),(10,some []),(11,none),(12,some [])] 13 [1,4,5,6,7]
abbrev u15_29:IC:=qG [oF 100 5 0,oL 101 100,oM 102 7,oP 103 (.slc 2 (.t 101) none (some (.t 102))),⟨some 104,.eff (.app 2 16 (.k (.slice none 0 0)) (.t 103)),none⟩,oM 105 8,oP 106 (.bld #[.int .i64 0,.int .i64 0] [(0,1),(1,1)] [(0,.k (.int .i64 1)),(1,.t 105)]),⟨some 107,.new (.bsl 2 1 #[.int .i64 0,.int .i64 0] [(0,.t 106)]),none⟩,oT 108 104 107 2 16,oF 109 5 0,oL 110 109,oM 111 7,oP 112 (.slc 2 (.t 110) (some (.t 111)) none),oT 113 108 112 2 16,oF 114 5 0,oS 114 113 1] [(0,none),(1,none),(2,none),(3,none),(5,none),(6,none),(7,none),(9,none),(10,none),(11,none),(12,none),(4,some [5,6,7,9,10,11,12]),(8,some [9,10,11,12]),(13,some []),(14,none),(15,some [])] 16 [1,4,5,6,7,8]
abbrev u15_32:IC:=qG [oF 117 5 2,oL 118 117,⟨some 119,.eff (.app 4 32 (.k (.slice none 0 0)) (.t 118)),none⟩,oM 120 8,oK 121 120 .rem 3,oM 122 1,oM 123 6,oA 124 122 123 1,oL 125 124,oP 126 (.cvi .i64 (.t 125)),oK 127 126 .rem 8,oM 128 8,oK 129 128 .rem 5,oM 130 7,oP 131 (.bld #[.int .i64 0,.int .i64 0,.int .i64 0,.int .i64 0] [(0,1),(1,1),(2,1),(3,1)] [(0,.t 121),(1,.t 127),(2,.t 129),(3,.t 130)]),⟨some 132,.new (.bsl 4 1 #[.int .i64 0,.int .i64 0,.int .i64 0,.int .i64 0] [(0,.t 131)]),none⟩,oT 133 119 132 4 32,oF 134 5 2,oS 134 133 1] [(0,none),(1,none),(3,none),(4,none),(5,none),(6,none),(7,none),(8,none),(9,none),(10,none),(11,none),(12,none),(13,none),(14,none),(15,none),(2,some [3,4,5,6,7,8,9,10,11,12,13,14,15]),(16,some []),(17,none),(18,some [])] 19 [1,4,5,6,7,8]
abbrev u15_35:IC:=qE [oM 137 8,oK 138 137 .rem 5,oF 139 5 5,oS 139 138 1] [1,4,5,6,8]
abbrev u15_38:IC:=qE [oF 142 5 3,oL 143 142,⟨some 144,.eff (.app 1 8 (.k (.slice none 0 0)) (.t 143)),none⟩,oM 145 8,⟨some 146,.new (.bsl 1 1 #[.int .i64 0] [(0,.t 145)]),none⟩,oT 147 144 146 1 8,oF 148 5 3,oS 148 147 1] [1,4,5,6,8]
abbrev u15_39:IC:=qG [oF 45 5 1,oL 46 45,⟨some 47,.eff (.app 1 16 (.k (.slice none 0 0)) (.t 46)),none⟩,oM 48 1,oM 49 6,oK 50 49 .add 2,oA 51 48 50 1,oL 52 51,⟨some 53,.new (.bsl 1 1 #[.int .u8 0] [(0,.t 52)]),none⟩,oP 54 (.cvbs (.t 53)),⟨some 55,.new (.bsl 1 1 #[.string ⟨#[]⟩] [(0,.t 54)]),none⟩,oT 56 47 55 1 16,oF 57 5 1,oS 57 56 1] [(0,none),(1,none),(3,none),(4,none),(5,none),(6,none),(7,none),(8,none),(9,none),(10,none),(2,some [3,4,5,6,7,8,9,10]),(11,some []),(12,none),(13,some [])] 14 [1,4,5,6]
abbrev u15_37:IC:=qK u15_38 u15_39 (.t 140) [1,4,5,6,8,140]
abbrev u15_36:IC:=qS [oP 141 (.bin .eql (.t 44) (.k (.int .u8 7))),oM 140 141] u15_37 [1,4,5,6,8,44]
abbrev u15_34:IC:=qK u15_35 u15_36 (.t 135) [1,4,5,6,8,44,135]
abbrev u15_33:IC:=qS [oP 136 (.bin .eql (.t 44) (.k (.int .u8 6))),oM 135 136] u15_34 [1,4,5,6,8,44]
abbrev u15_31:IC:=qK u15_32 u15_33 (.t 115) [1,4,5,6,7,8,44,115]
abbrev u15_30:IC:=qS [oP 116 (.bin .eql (.t 44) (.k (.int .u8 5))),oM 115 116] u15_31 [1,4,5,6,7,8,44]
abbrev u15_28:IC:=qK u15_29 u15_30 (.t 98) [1,4,5,6,7,8,44,98]
abbrev u15_27:IC:=qS [oP 99 (.bin .eql (.t 44) (.k (.int .u8 4))),oM 98 99] u15_28 [1,4,5,6,7,8,44]
abbrev u15_25:IC:=qK u15_26 u15_27 (.t 84) [1,4,5,6,7,8,44,84]
abbrev u15_24:IC:=qS [oP 85 (.bin .eql (.t 44) (.k (.int .u8 3))),oM 84 85] u15_25 [1,4,5,6,7,8,44]
abbrev u15_22:IC:=qK u15_23 u15_24 (.t 75) [1,4,5,6,7,8,44,75]
abbrev u15_21:IC:=qS [oP 76 (.bin .eql (.t 44) (.k (.int .u8 2))),oM 75 76] u15_22 [1,4,5,6,7,8,44]
abbrev u15_19:IC:=qK u15_20 u15_21 (.t 67) [1,4,5,6,7,8,44,67]
abbrev u15_18:IC:=qS [oP 68 (.bin .eql (.t 44) (.k (.int .u8 1))),oM 67 68] u15_19 [1,4,5,6,7,8,44]
abbrev u15_16:IC:=qK u15_17 u15_18 (.t 58) [1,4,5,6,7,8,44,58]
abbrev u15_15:IC:=qS [oP 59 (.bin .eql (.t 44) (.k (.int .u8 0))),oM 58 59] u15_16 [1,4,5,6,7,8,44]
abbrev u15_14:IC:=qJ u15_15 2 [1,4,5,6,7,8,44]
abbrev u15_13:IC:=qS [oM 39 1,oM 40 6,oK 41 40 .add 1,oA 42 39 41 1,oL 43 42,oP 44 (.bin .rem (.t 43) (.k (.int .u8 9)))] u15_14 [1,4,5,6,7,8]
abbrev u15_41:IC:=qK (.exit 0) .skip (.t 152) [1,4,5,6,152]
abbrev u15_40:IC:=qS [oF 149 5 0,oL 150 149,oH 151 150,oK 152 151 .eql 0] u15_41 [1,4,5,6]
abbrev u15_12:IC:=qQ u15_13 u15_40 [1,4,5,6,7,8]
abbrev u15_11:IC:=qS [oM 32 1,oM 33 6,oK 34 33 .add 2,oA 35 32 34 1,oL 36 35,oP 37 (.cvi .i64 (.t 36)),oK 38 37 .sub 3,oM 8 38] u15_12 [1,4,5,6,7]
abbrev u15_10:IC:=qP [oM 22 1,oM 23 6,oA 24 22 23 1,oL 25 24,oP 26 (.cvi .i64 (.t 25)),oF 27 5 0,oL 28 27,oH 29 28,oB 30 26 29 .mul,oK 31 30 .quo 256,oM 7 31] u15_11 1024 11 [1,4,5,6]
abbrev u15_42:IC:=qE [oM 20 6,oK 21 20 .add 3,oM 6 21] [1,4,5,6]
abbrev u15_9:IC:=qB u15_10 u15_42 1 [1,4,5,6]
abbrev u15_6:IC:=qQ u15_7 u15_9 [1,4,5,6]
abbrev u15_5:IC:=qJ (.loop u15_6) 0 [1,4,5,6]
abbrev u15_4:IC:=qS [oI 6 0] u15_5 [1,4,5]
abbrev u15_43:IC:=qS [oD 153 5 7,oS 4 153 7] .ret [4,5]
abbrev u15_3:IC:=qQ u15_4 u15_43 [1,4,5]
abbrev u15_2:IC:=qS [oM 9 0,oC 10 8 [.t 9],oW 5 (.agg #[.slice none 0 0,.slice none 0 0,.slice none 0 0,.slice none 0 0,.slice none 0 0,.int .i64 0,.int .i64 0]),oS 5 10 7] u15_3 [0,1,4]
abbrev u15_1:IC:=qS [oW 4 (.agg #[.slice none 0 0,.slice none 0 0,.slice none 0 0,.slice none 0 0,.slice none 0 0,.int .i64 0,.int .i64 0])] u15_2 [0,1]
def u15:IFn:=⟨154,u15_1,[.cell 4 7 true]⟩
end
theorem isU15:IsFn Tryz.prog 15 u15:=by unfold IsFn;kernel_rfl
theorem c_Broken (l m:List UInt8) (hl:l.length≤9223372036854775807) (hm:m.length≤9223372036854775807):PC Tryz.prog 15 [.lst (bytesC l),.lst (bytesC m)] (brokenM l m).v:=by
 have nlb:∀ l,DV.nlL (bytesC l)=true:=fun l=>nlL_map (fun _=>rfl) l
 refine PC.of mixedU isU15 (Nat.le_of_ble_eq_true rfl) (by simp [DV.nlL,DV.nl,nlb]) (by simp [DV.nlL,DV.nl,nlL_ints,nlL_strs,nlL_instrs,nlL_entries]) ?_
 show IW Tryz.prog 154 u15_1 ⟨argT _,_,_⟩ (rt [.cell 4 7 true] _)
 have hlen:=bytesC_len m
 repeat' ((with_reducible first|refine wr ?_|refine wb2 ?_ ?_<;>(intro hb;try simp only [hb])|fail)<;>try simp only [go_sem,seval])
 refine AC.call (c_MadeO l hl _ _) ?_
 rintro v H' c1 ⟨rfl,rfl,rfl⟩ hc1
 have ne0:=nes3 0 1 2 (by omega)
 simp only [go_sem,seval,madeO,ne0]
 repeat' ((with_reducible first|refine wr ?_|refine wb2 ?_ ?_<;>(intro hb;try simp only [hb])|fail)<;>try simp only [go_sem,seval,madeO,ne0])
 refine i_loopG (fun q:Nat × Option Nat × Prg=>[(1,.lst (bytesC m)),(4,.ptr 0 0),(5,.ptr 2 0),(6,I64 ((3 * q.1:Nat):Int))]) (fun q=>BH q.2.1 q.2.2)
  (fun q cc=>BO q.2.1 cc∧q.1≤3∧(∃ a,q.2.1=some a)∧BB q.2.2 q.1∧q.2.2.instrs≠[]∧bkGo (3-q.1) (m.drop (3 * q.1)) q.2.2=brokenM l m) (fun q=>3-q.1) (0,some 1,madeM l)
  (fun q=>by simp [tmLe,tm,Tm.upd]) (by simp [tmLe,tm,Tm.upd]) (BH_sub (by repeat (first|exact h_same|rw [h_ne (by omega)])) h_same (fun i hi=>by cases hi;repeat (first|exact h_same|rw [h_ne (by omega)])))
  ⟨⟨by omega,fun i hi=>by cases hi;omega⟩,by simp,⟨1,rfl⟩,BB.made l,madeM_ne l,rfl⟩ ?_
 rintro ⟨j,o,c⟩ cc ⟨hO,hj3,⟨a,ha⟩,hB,hne,hgo⟩
 simp only at hO hj3 ha hB hne hgo
 subst ha
 simp only
 have h3:=hO.c
 have haa:=hO.a a rfl
 obtain ⟨B1,B2,B3,B4,B5,B6,B7,B8,B9,B10⟩:=id hB
 obtain ⟨n,hn⟩:∃ n,n=c.instrs.length:=⟨_,rfl⟩
 have hn0:n≠0:=fun e=>hne (List.length_eq_zero_iff.1 (by rw [← hn,e]))
 have hD2:=BH_2 (c:=c) hO
 have hDa:=BH_a (c:=c) (o:=some a) rfl
 have hD0:=BH_0 (c:=c) hO
 unfold bCells at hD2
 simp only [todo_s] at hD2
 rw [← hn] at hD2
 obtain ⟨i,hi⟩:∃ i,i=3 * j:=⟨_,rfl⟩
 rw [← hi]
 have hw1:IntKind.i64.wrap ((i:Int)+1)=((i+1:Nat):Int):=by rw [w64 (by omega) (by omega)];omega
 have hw2:IntKind.i64.wrap ((i:Int)+2)=((i+2:Nat):Int):=by rw [w64 (by omega) (by omega)];omega
 have hw3:IntKind.i64.wrap ((i:Int)+3)=((i+3:Nat):Int):=by rw [w64 (by omega) (by omega)];omega
 by_cases h1:i+2<m.length
 ·have hd1:decide (((i+2:Nat):Int)<((m.length:Nat):Int))=true:=by simp;omega
  by_cases h2:j<3
  ·have hd2:decide ((i:Int)<9)=true:=by simp;omega
   obtain ⟨x,hx⟩:∃ x,m[i]? = some x:=⟨_,List.getElem?_eq_getElem (by omega)⟩
   obtain ⟨y,hy⟩:∃ x,m[i+1]? = some x:=⟨_,List.getElem?_eq_getElem (by omega)⟩
   obtain ⟨z,hz⟩:∃ x,m[i+2]? = some x:=⟨_,List.getElem?_eq_getElem (by omega)⟩
   have hgo2:=go_next (c:=c) h2 (by rw [← hi];exact hx) (by rw [← hi];exact hy) (by rw [← hi];exact hz)
   rw [hgo] at hgo2
   obtain ⟨xn,hxn⟩:∃ n,n=x.toNat:=⟨_,rfl⟩
   obtain ⟨yn,hyn⟩:∃ n,n=y.toNat:=⟨_,rfl⟩
   obtain ⟨zn,hzn⟩:∃ n,n=z.toNat:=⟨_,rfl⟩
   have lx:xn<256:=by rw [hxn];exact x.toNat_lt
   have ly:yn<256:=by rw [hyn];exact y.toNat_lt
   have lz:zn<256:=by rw [hzn];exact z.toNat_lt
   have gx:(bytesC m)[i]? = some (.int .u8 (xn:Int)):=by rw [bytesC,List.getElem?_map,hx,hxn];rfl
   have gy:(bytesC m)[i+1]? = some (.int .u8 (yn:Int)):=by rw [bytesC,List.getElem?_map,hy,hyn];rfl
   have gz:(bytesC m)[i+2]? = some (.int .u8 (zn:Int)):=by rw [bytesC,List.getElem?_map,hz,hzn];rfl
   have hb:=Nat.mul_le_mul (Nat.le_of_lt lx) (show n≤450 by omega)
   have vx:IntKind.i64.wrap (xn:Int)=(xn:Int):=w64 (by omega) (by omega)
   have vz:IntKind.i64.wrap (zn:Int)=(zn:Int):=w64 (by omega) (by omega)
   have vm:IntKind.i64.wrap ((xn:Int) * (n:Int))=((xn * n:Nat):Int):=by rw [w64 (by rw [← Int.natCast_mul];omega) (by rw [← Int.natCast_mul];omega),Int.natCast_mul]
   obtain ⟨k,hk⟩:∃ k,k=xn * n / 256:=⟨_,rfl⟩
   have hkn:k<n:=by
    rw [hk,Nat.div_lt_iff_lt_mul (by omega),Nat.mul_comm n 256];exact Nat.mul_lt_mul_of_pos_right lx (by omega)
   have vk:IntKind.i64.wrap (((xn * n:Nat):Int).tdiv 256)=(k:Int):=by
    have e:((xn * n:Nat):Int).tdiv 256=(k:Int):=by rw [hk];exact (Int.ofNat_tdiv _ _).symm
    rw [e,w64 (by omega) (by omega)]
   obtain ⟨v,hv⟩:∃ v:Int,v=(zn:Int)-3:=⟨_,rfl⟩
   have vv:IntKind.i64.wrap ((zn:Int)-3)=v:=by rw [hv,w64 (by omega) (by omega)]
   obtain ⟨r,hr⟩:∃ r,r=yn % 9:=⟨_,rfl⟩
   have vr:(yn:Int).tmod 9=(r:Int):=by rw [hr];exact (Int.ofNat_tmod _ _).symm
   have q1:binR BinOp.quo (I64 ((xn * n:Nat):Int)) (I64 256)=some (I64 (k:Int)):=by rw [r_quo (by omega),vk]
   have q2:binR BinOp.rem (.int .u8 (yn:Int)) (.int .u8 9)=some (.int .u8 (r:Int)):=by rw [r_rem (by omega),vr]
   have q3:∀ d:Int,d≠0→binR BinOp.rem (I64 v) (I64 d)=some (I64 (v.tmod d)):=fun d hd=>r_rem hd
   have q34:=q3 34 (by omega)
   have q12:=q3 12 (by omega)
   have q05:=q3 5 (by omega)
   have q03:=q3 3 (by omega)
   have q08:binR BinOp.rem (I64 (xn:Int)) (I64 8)=some (I64 ((xn % 8:Nat):Int)):=by rw [r_rem (by omega)];exact congrArg (fun x=>some (I64 x)) (Int.ofNat_tmod _ _).symm
   have hst:bkStep c x y z=bkR c r k v x z:=by unfold bkStep;rw [← hxn, ← hyn, ← hzn, ← hr, ← hn, ← hk, ← hv]
   have hBn:=hB.step x y z
   rw [hst] at hgo2 hBn
   have hr9:r<9:=by omega
   have hz0:((n:Int) == 0)=false:=by simp;omega
   have hia:iadR 2 (.slc a 0 n) (I64 (k:Int))=some (.ptr a (k * 2)):=by rw [r_iadsn hkn,Nat.zero_add]
   have hIl:(insC c.instrs).length=n * 2:=by rw [insC_len2,hn]
   have hl0:k * 2+0+1≤(insC c.instrs).length:=by omega
   have hl1:k * 2+1+1≤(insC c.instrs).length:=by omega
   have hl0':k * 2+1≤(insC c.instrs).length:=by omega
   have F0:BH (some a) c (cc+11)=none:=BH_n hO (by omega)
   have F1:BH (some a) c (cc+11+1)=none:=BH_n hO (by omega)
   have F2:BH (some a) c (cc+11+2)=none:=BH_n hO (by omega)
   have F3:BH (some a) c (cc+11+3)=none:=BH_n hO (by omega)
   have F4:BH (some a) c (cc+11+4)=none:=BH_n hO (by omega)
   have F5:BH (some a) c (cc+11+5)=none:=BH_n hO (by omega)
   have F6:BH (some a) c (cc+11+6)=none:=BH_n hO (by omega)
   have F7:BH (some a) c (cc+11+7)=none:=BH_n hO (by omega)
   have F8:BH (some a) c (cc+11+8)=none:=BH_n hO (by omega)
   have F9:BH (some a) c (cc+11+9)=none:=BH_n hO (by omega)
   have F10:BH (some a) c (cc+11+10)=none:=BH_n hO (by omega)
   have F11:BH (some a) c (cc+11+11)=none:=BH_n hO (by omega)
   have F12:BH (some a) c (cc+11+12)=none:=BH_n hO (by omega)
   have F13:BH (some a) c (cc+11+13)=none:=BH_n hO (by omega)
   have F14:BH (some a) c (cc+11+14)=none:=BH_n hO (by omega)
   have F15:BH (some a) c (cc+11+15)=none:=BH_n hO (by omega)
   have F16:BH (some a) c (cc+11+16)=none:=BH_n hO (by omega)
   have F17:BH (some a) c (cc+11+17)=none:=BH_n hO (by omega)
   have F18:BH (some a) c (cc+11+18)=none:=BH_n hO (by omega)
   have F19:BH (some a) c (cc+11+19)=none:=BH_n hO (by omega)
   have hv9:r=0∨r=1∨r=2∨r=3∨r=4∨r=5∨r=6∨r=7∨r=8:=by omega
   have e3:3 * (j+1)=i+3:=by omega
   have hkle:k≤n:=by omega
   have hwk:IntKind.i64.wrap ((k:Int)+1)=((k+1:Nat):Int):=by rw [w64 (by omega) (by omega)];omega
   have hs1:∀ H,slcR H 2 (.slc a 0 n) none (some (I64 (k:Int)))=some (.slc a 0 k):=fun H=>r_slch hkle
   have hc1:srB 2 0 k (some ⟨2,true,insC c.instrs⟩)=some (k,insC (c.instrs.take k)):=by
    have:=b_srcI (I:=c.instrs) (k:=0) (m:=k) (o:=true) (by omega)
    rw [Nat.zero_mul,List.drop_zero] at this;exact this
   have htl:(c.instrs.take k).length=k:=by rw [List.length_take];omega
   have htc:(insC (c.instrs.take k)).length=k * 2:=by rw [insC_len2,htl]
   rcases hv9 with re|re|re|re|re|re|re|re|re
   ·subst re
    have nk:((0:Nat):Int)=0:=rfl
    have ne0:=nes3 0 2 a (by omega)
    repeat' ((with_reducible first|refine wr ?_|refine wb2 ?_ ?_<;>(intro hb;try simp only [hb])|fail)<;>try simp only [go_sem,seval,nk,hz0,hia,hl0,hl0',Int.reduceBEq,hw1,hw2,hw3,hd1,hd2,hlen,gx,gy,gz,vx,vz,vm,q1,q2,q34,q12,q05,q03,q08,vv,hD2,hDa,hD0,F0,F1,F2,F3,F4,F5,F6,F7,F8,F9,F10,F11,F12,F13,F14,F15,F16,F17,F18,F19,ne0])
    have hne2:(bkR c 0 k v x z).instrs≠[]:=by exact fun e=>hne (by simpa [bkR] using e)
    rw [if_neg hne2] at hgo2
    refine ⟨(j+1,some a,bkR c 0 k v x z),by rw [e3],GL.less' (BH_sub ?_ ?_ fun i hi=>?_),inv ⟨⟨by omega,fun i hi=>by cases hi;omega⟩,by simp only;omega,⟨_,rfl⟩,hBn,hne2,hgo2.symm⟩,by simp only;omega⟩
    ·rw [h_ne (by omega)];exact hD0
    ·rw [h_ne (by omega),hD2];simp only [bCells,todo_s,bkR,List.length_set, ← hn]
    ·cases hi;rw [h_same];simp only [bkR];rw [insC_set0 (by omega)]
   ·subst re
    have nk:((1:Nat):Int)=1:=rfl
    have ne0:=nes3 0 2 a (by omega)
    repeat' ((with_reducible first|refine wr ?_|refine wb2 ?_ ?_<;>(intro hb;try simp only [hb])|fail)<;>try simp only [go_sem,seval,nk,hz0,hia,hl1,Int.reduceBEq,hw1,hw2,hw3,hd1,hd2,hlen,gx,gy,gz,vx,vz,vm,q1,q2,q34,q12,q05,q03,q08,vv,hD2,hDa,hD0,F0,F1,F2,F3,F4,F5,F6,F7,F8,F9,F10,F11,F12,F13,F14,F15,F16,F17,F18,F19,ne0])
    have hne2:(bkR c 1 k v x z).instrs≠[]:=by exact fun e=>hne (by simpa [bkR] using e)
    rw [if_neg hne2] at hgo2
    refine ⟨(j+1,some a,bkR c 1 k v x z),by rw [e3],GL.less' (BH_sub ?_ ?_ fun i hi=>?_),inv ⟨⟨by omega,fun i hi=>by cases hi;omega⟩,by simp only;omega,⟨_,rfl⟩,hBn,hne2,hgo2.symm⟩,by simp only;omega⟩
    ·rw [h_ne (by omega)];exact hD0
    ·rw [h_ne (by omega),hD2];simp only [bCells,todo_s,bkR,List.length_set, ← hn]
    ·cases hi;rw [h_same];simp only [bkR];rw [insC_set1 (by omega)]
   ·subst re
    have nk:((2:Nat):Int)=2:=rfl
    have ne0:=nes3 0 2 a (by omega)
    repeat' ((with_reducible first|refine wr ?_|refine wb2 ?_ ?_<;>(intro hb;try simp only [hb])|fail)<;>try simp only [go_sem,seval,nk,hz0,hia,hl1,Int.reduceBEq,hw1,hw2,hw3,hd1,hd2,hlen,gx,gy,gz,vx,vz,vm,q1,q2,q34,q12,q05,q03,q08,vv,hD2,hDa,hD0,F0,F1,F2,F3,F4,F5,F6,F7,F8,F9,F10,F11,F12,F13,F14,F15,F16,F17,F18,F19,ne0])
    have hne2:(bkR c 2 k v x z).instrs≠[]:=by exact fun e=>hne (by simpa [bkR] using e)
    rw [if_neg hne2] at hgo2
    refine ⟨(j+1,some a,bkR c 2 k v x z),by rw [e3],GL.less' (BH_sub ?_ ?_ fun i hi=>?_),inv ⟨⟨by omega,fun i hi=>by cases hi;omega⟩,by simp only;omega,⟨_,rfl⟩,hBn,hne2,hgo2.symm⟩,by simp only;omega⟩
    ·rw [h_ne (by omega)];exact hD0
    ·rw [h_ne (by omega),hD2];simp only [bCells,todo_s,bkR,List.length_set, ← hn]
    ·cases hi;rw [h_same];simp only [bkR];rw [insC_set1 (by omega)]
   ·subst re
    have nk:((3:Nat):Int)=3:=rfl
    have P5_13:¬ cc+11+5=cc+11+13:=by omega
    have P6_13:¬ cc+11+6=cc+11+13:=by omega
    have P7_13:¬ cc+11+7=cc+11+13:=by omega
    have P8_13:¬ cc+11+8=cc+11+13:=by omega
    have P9_13:¬ cc+11+9=cc+11+13:=by omega
    have hdl:(c.instrs.drop (k+1)).length=n-(k+1):=by rw [List.length_drop,hn]
    by_cases hk0:k=0
    ·have ha1:∀ (H:Hp) c',appR H c' 2 16 .snil k (insC (c.instrs.take k))=some (.snil,H,c'):=fun H c'=>by rw [hk0];rfl
     have ht0:c.instrs.take k=[]:=by rw [hk0];rfl
     by_cases hke:k+1=n
     ·have hs2:∀ H,slcR H 2 (.slc a 0 n) (some (I64 ((k+1:Nat):Int))) none=some (.lst []):=fun H=>by rw [hke];exact r_slcend hn0 H
      have hsn:∀ H,srcOf H 2 (.lst [])=some (0,[]):=fun H=>r_srcl rfl
      have ha2:∀ (H:Hp) c',appR H c' 2 16 .snil 0 []=some (.snil,H,c'):=fun H c'=>rfl
      have ne0:=nes3 0 2 a (by omega)
      repeat' ((with_reducible first|refine wr ?_|refine wb2 ?_ ?_<;>(intro hb;try simp only [hb])|fail)<;>try simp only [go_sem,seval,nk,hs1,hs2,hwk,hc1,ha1,hsn,ha2,Int.reduceBEq,hw1,hw2,hw3,hd1,hd2,hlen,gx,gy,gz,vx,vz,vm,q1,q2,q34,q12,q05,q03,q08,vv,hD2,hDa,hD0,F0,F1,F2,F3,F4,F5,F6,F7,F8,F9,F10,F11,F12,F13,F14,F15,F16,F17,F18,F19,ne0])
      have hI:(bkR c 3 k v x z).instrs=[]:=by
       show c.instrs.take k++c.instrs.drop (k+1)=[]
       rw [ht0,List.nil_append];exact List.length_eq_zero_iff.1 (by omega)
      rw [if_pos hI] at hgo2
      rw [k_rv (v:=.agg (bCells none (bkR c 3 k v x z))) rfl,hgo2]
      dsimp only
      exact b_fin (o:=none) (by rw [h_same];rfl) (fun i hi=>by cases hi) (fun _=>hI)
     ·have hs2:∀ H,slcR H 2 (.slc a 0 n) (some (I64 ((k+1:Nat):Int))) none=slB a 0 2 (k+1) n (H a):=fun H=>r_slclo (by omega) (by omega) H
      have hs3:slB a 0 2 (k+1) n (some ⟨2,true,insC c.instrs⟩)=some (.slc a ((k+1) * 2) (n-(k+1))):=by rw [b_slB,Nat.zero_add]
      have hc3:srB 2 ((k+1) * 2) (n-(k+1)) (some ⟨2,true,insC c.instrs⟩)=some (n-(k+1),insC (c.instrs.drop (k+1))):=by rw [b_srcI (by omega),List.take_of_length_le (by omega)]
      have ha2:∀ (H:Hp) c',appR H c' 2 16 .snil (n-(k+1)) (insC (c.instrs.drop (k+1)))=some (.slc c' 0 (n-(k+1)),H.upd c' ⟨2,true,insC (c.instrs.drop (k+1))⟩,c'+1):=fun H c'=>r_appn' (by omega) (by omega) (by omega)
      have hz1:((((n-(k+1):Nat):Int)) == 0)=false:=by simp;omega
      have ne0:=nes5 0 2 a (cc+11+13) (cc+11+13+1) (by omega)
      repeat' ((with_reducible first|refine wr ?_|refine wb2 ?_ ?_<;>(intro hb;try simp only [hb])|fail)<;>try simp only [go_sem,seval,nk,hs1,hs2,hs3,hwk,hc1,hc3,ha1,ha2,hz1,Int.reduceBEq,hw1,hw2,hw3,hd1,hd2,hlen,gx,gy,gz,vx,vz,vm,q1,q2,q34,q12,q05,q03,q08,vv,hD2,hDa,hD0,F0,F1,F2,F3,F4,F5,F6,F7,F8,F9,F10,F11,F12,F13,F14,F15,F16,F17,F18,F19,ne0])
      have hI:(bkR c 3 k v x z).instrs=c.instrs.take k++c.instrs.drop (k+1):=rfl
      have hL:(bkR c 3 k v x z).instrs.length=n-(k+1):=by rw [hI,List.length_append,htl,hdl];omega
      have hne2:(bkR c 3 k v x z).instrs≠[]:=by rw [hI];exact fun e=>by have:=congrArg List.length e;simp only [List.length_append,List.length_nil] at this;omega
      rw [if_neg hne2] at hgo2
      refine ⟨(j+1,some (cc+11+13),bkR c 3 k v x z),by rw [e3],GL.less' (BH_sub ?_ ?_ fun i hi=>?_),inv ⟨⟨by omega,fun i hi=>by cases hi;omega⟩,by simp only;omega,⟨_,rfl⟩,hBn,hne2,hgo2.symm⟩,by simp only;omega⟩
      ·repeat (first|exact hD0|rw [h_ne (by omega)]|rw [h_dne (by omega)])
      ·rw [h_same];simp only [bCells,todo_s];rw [hL];rfl
      ·cases hi;rw [h_ne (by omega),h_same,hI,ht0,List.nil_append]
    ·have ha1:∀ (H:Hp) c',appR H c' 2 16 .snil k (insC (c.instrs.take k))=some (.slc c' 0 k,H.upd c' ⟨2,true,insC (c.instrs.take k)⟩,c'+1):=fun H c'=>r_appn' hk0 (by omega) (by omega)
     by_cases hke:k+1=n
     ·have hs2:∀ H,slcR H 2 (.slc a 0 n) (some (I64 ((k+1:Nat):Int))) none=some (.lst []):=fun H=>by rw [hke];exact r_slcend hn0 H
      have hsn:∀ H,srcOf H 2 (.lst [])=some (0,[]):=fun H=>r_srcl rfl
      have ha2:∀ (H:Hp) (c' id:Nat),apB H c' id 2 16 k 0 [] (some ⟨2,true,insC (c.instrs.take k)⟩)=some (.slc c' 0 k,(H.del id).upd c' ⟨2,true,insC (c.instrs.take k)⟩,c'+1):=fun H c' id=>by
       rw [b_appx htc (by omega) (by omega),List.append_nil,Nat.add_zero]
      have hz1:((k:Int) == 0)=false:=by simp;omega
      have hd0:c.instrs.drop (k+1)=[]:=List.length_eq_zero_iff.1 (by omega)
      have ne0:=nes5 0 2 a (cc+11+13) (cc+11+13+1) (by omega)
      repeat' ((with_reducible first|refine wr ?_|refine wb2 ?_ ?_<;>(intro hb;try simp only [hb])|fail)<;>try simp only [go_sem,seval,nk,hs1,hs2,hwk,hc1,ha1,hsn,ha2,hz1,P5_13,P6_13,P7_13,P8_13,P9_13,Int.reduceBEq,hw1,hw2,hw3,hd1,hd2,hlen,gx,gy,gz,vx,vz,vm,q1,q2,q34,q12,q05,q03,q08,vv,hD2,hDa,hD0,F0,F1,F2,F3,F4,F5,F6,F7,F8,F9,F10,F11,F12,F13,F14,F15,F16,F17,F18,F19,ne0])
      have hI:(bkR c 3 k v x z).instrs=c.instrs.take k++c.instrs.drop (k+1):=rfl
      have hL:(bkR c 3 k v x z).instrs.length=k:=by rw [hI,hd0,List.append_nil,htl]
      have hne2:(bkR c 3 k v x z).instrs≠[]:=by rw [hI];exact fun e=>by have:=congrArg List.length e;simp only [List.length_append,List.length_nil] at this;omega
      rw [if_neg hne2] at hgo2
      refine ⟨(j+1,some (cc+11+13+1),bkR c 3 k v x z),by rw [e3],GL.less' (BH_sub ?_ ?_ fun i hi=>?_),inv ⟨⟨by omega,fun i hi=>by cases hi;omega⟩,by simp only;omega,⟨_,rfl⟩,hBn,hne2,hgo2.symm⟩,by simp only;omega⟩
      ·repeat (first|exact hD0|rw [h_ne (by omega)]|rw [h_dne (by omega)])
      ·rw [h_same];simp only [bCells,todo_s];rw [hL];rfl
      ·cases hi;rw [h_ne (by omega),h_same,hI,hd0,List.append_nil]
     ·have hs2:∀ H,slcR H 2 (.slc a 0 n) (some (I64 ((k+1:Nat):Int))) none=slB a 0 2 (k+1) n (H a):=fun H=>r_slclo (by omega) (by omega) H
      have hs3:slB a 0 2 (k+1) n (some ⟨2,true,insC c.instrs⟩)=some (.slc a ((k+1) * 2) (n-(k+1))):=by rw [b_slB,Nat.zero_add]
      have hc3:srB 2 ((k+1) * 2) (n-(k+1)) (some ⟨2,true,insC c.instrs⟩)=some (n-(k+1),insC (c.instrs.drop (k+1))):=by rw [b_srcI (by omega),List.take_of_length_le (by omega)]
      have ha2:∀ (H:Hp) (c' id:Nat),apB H c' id 2 16 k (n-(k+1)) (insC (c.instrs.drop (k+1))) (some ⟨2,true,insC (c.instrs.take k)⟩)=some (.slc c' 0 (k+(n-(k+1))),(H.del id).upd c' ⟨2,true,insC (c.instrs.take k)++insC (c.instrs.drop (k+1))⟩,c'+1):=fun H c' id=>b_appx htc (by omega) (by omega)
      have hz1:((((k+(n-(k+1)):Nat):Int)) == 0)=false:=by simp;omega
      have ne0:=nes5 0 2 a (cc+11+13) (cc+11+13+1) (by omega)
      repeat' ((with_reducible first|refine wr ?_|refine wb2 ?_ ?_<;>(intro hb;try simp only [hb])|fail)<;>try simp only [go_sem,seval,nk,hs1,hs2,hs3,hwk,hc1,hc3,ha1,ha2,hz1,P5_13,P6_13,P7_13,P8_13,P9_13,Int.reduceBEq,hw1,hw2,hw3,hd1,hd2,hlen,gx,gy,gz,vx,vz,vm,q1,q2,q34,q12,q05,q03,q08,vv,hD2,hDa,hD0,F0,F1,F2,F3,F4,F5,F6,F7,F8,F9,F10,F11,F12,F13,F14,F15,F16,F17,F18,F19,ne0])
      have hI:(bkR c 3 k v x z).instrs=c.instrs.take k++c.instrs.drop (k+1):=rfl
      have hL:(bkR c 3 k v x z).instrs.length=k+(n-(k+1)):=by rw [hI,List.length_append,htl,hdl]
      have hne2:(bkR c 3 k v x z).instrs≠[]:=by rw [hI];exact fun e=>by have:=congrArg List.length e;simp only [List.length_append,List.length_nil] at this;omega
      rw [if_neg hne2] at hgo2
      refine ⟨(j+1,some (cc+11+13+1),bkR c 3 k v x z),by rw [e3],GL.less' (BH_sub ?_ ?_ fun i hi=>?_),inv ⟨⟨by omega,fun i hi=>by cases hi;omega⟩,by simp only;omega,⟨_,rfl⟩,hBn,hne2,hgo2.symm⟩,by simp only;omega⟩
      ·repeat (first|exact hD0|rw [h_ne (by omega)]|rw [h_dne (by omega)])
      ·rw [h_same];simp only [bCells,todo_s];rw [hL];rfl
      ·cases hi;rw [h_ne (by omega),h_same,hI,insC_app]
   ·subst re
    have nk:((4:Nat):Int)=4:=rfl
    have P5_7:¬ cc+11+5=cc+11+7:=by omega
    have P5_16:¬ cc+11+5=cc+11+16:=by omega
    have P5_16_1:¬ cc+11+5=cc+11+16+1:=by omega
    have P6_7:¬ cc+11+6=cc+11+7:=by omega
    have P6_16:¬ cc+11+6=cc+11+16:=by omega
    have P6_16_1:¬ cc+11+6=cc+11+16+1:=by omega
    have P9_7:¬ cc+11+9=cc+11+7:=by omega
    have P9_16:¬ cc+11+9=cc+11+16:=by omega
    have P9_16_1:¬ cc+11+9=cc+11+16+1:=by omega
    have P10_7:¬ cc+11+10=cc+11+7:=by omega
    have P10_16:¬ cc+11+10=cc+11+16:=by omega
    have P10_16_1:¬ cc+11+10=cc+11+16+1:=by omega
    have P11_7:¬ cc+11+11=cc+11+7:=by omega
    have P11_16:¬ cc+11+11=cc+11+16:=by omega
    have P11_16_1:¬ cc+11+11=cc+11+16+1:=by omega
    have P12_7:¬ cc+11+12=cc+11+7:=by omega
    have P12_16:¬ cc+11+12=cc+11+16:=by omega
    have P12_16_1:¬ cc+11+12=cc+11+16+1:=by omega
    have hid4:∀ H,hide H [cc+11+7] a=H a:=fun H=>by
     have:¬ a=cc+11+7:=by omega
     simp [hide,this]
    have hid4b:∀ H,hide H [cc+11+7] 2=H 2:=fun H=>by
     have:¬ 2=cc+11+7:=by omega
     simp [hide,this]
    have hdl:(c.instrs.drop k).length=n-k:=by rw [List.length_drop,hn]
    have hI:(bkR c 4 k v x z).instrs=c.instrs.take k++[⟨1,v⟩]++c.instrs.drop k:=rfl
    have hm4:=fun H b=>hm_upd1 (k:=cc+11+7) (a:=cc+11+16) (by omega) H b
    have hmb4:=fun H b=>hm_upd1 (k:=cc+11+7) (a:=cc+11+16+1) (by omega) H b
    have hne4:(bkR c 4 k v x z).instrs.length≠0:=by rw [hI];simp
    by_cases hk0:k=0
    ·have ha1:∀ (H:Hp) c',appR H c' 2 16 .snil k (insC (c.instrs.take k))=some (.snil,H,c'):=fun H c'=>by rw [hk0];rfl
     have ht0:c.instrs.take k=[]:=by rw [hk0];rfl
     have hd0:c.instrs.drop k=c.instrs:=by rw [hk0];rfl
     have ha2:∀ (H:Hp) c' cs,appR H c' 2 16 .snil 1 cs=some (.slc c' 0 1,H.upd c' ⟨2,true,cs⟩,c'+1):=fun H c' cs=>r_appn' (by omega) (by omega) (by omega)
     have hs2:∀ H,slcR H 2 (.slc a 0 n) (some (I64 (k:Int))) none=some (.slc a 0 n):=fun H=>by rw [hk0];exact r_slcall H
     have hc3:srB 2 0 n (some ⟨2,true,insC c.instrs⟩)=some (n,insC c.instrs):=by
      have:=b_srcI (I:=c.instrs) (k:=0) (m:=n) (o:=true) (by omega)
      rw [Nat.zero_mul,List.drop_zero,List.take_of_length_le (by omega)] at this;exact this
     have ha3:∀ (H:Hp) (c' id:Nat) w1 w2,apB H c' id 2 16 1 n (insC c.instrs) (some ⟨2,true,[w1,w2]⟩)=some (.slc c' 0 (1+n),(H.del id).upd c' ⟨2,true,[w1,w2]++insC c.instrs⟩,c'+1):=fun H c' id w1 w2=>b_appx rfl (by omega) (by omega)
     have hz1:((((1+n:Nat):Int)) == 0)=false:=by simp;omega
     have ne0:=nes7 0 2 a (cc+11+7) (cc+11+16) (cc+11+16+1) (cc+11+16+1+1) (by omega)
     repeat' ((with_reducible first|refine wr ?_|refine wb2 ?_ ?_<;>(intro hb;try simp only [hb])|fail)<;>try simp only [go_sem,seval,nk,hs1,hs2,hc1,hc3,ha1,ha2,ha3,hz1,hm4,hmb4,hm_same,hid4,hid4b,P5_7,P5_16,P5_16_1,P6_7,P6_16,P6_16_1,P9_7,P9_16,P9_16_1,P10_7,P10_16,P10_16_1,P11_7,P11_16,P11_16_1,P12_7,P12_16,P12_16_1,Int.reduceBEq,hw1,hw2,hw3,hd1,hd2,hlen,gx,gy,gz,vx,vz,vm,q1,q2,q34,q12,q05,q03,q08,vv,hD2,hDa,hD0,F0,F1,F2,F3,F4,F5,F6,F7,F8,F9,F10,F11,F12,F13,F14,F15,F16,F17,F18,F19,ne0])
     have hL:(bkR c 4 k v x z).instrs.length=1+n:=by rw [hI,ht0,hd0,List.nil_append,List.length_append,List.length_singleton, ← hn]
     have hne2:(bkR c 4 k v x z).instrs≠[]:=by exact fun e=>hne4 (by rw [e];rfl)
     rw [if_neg hne2] at hgo2
     refine ⟨(j+1,some (cc+11+16+1),bkR c 4 k v x z),by rw [e3],GL.less' (BH_sub ?_ ?_ fun i hi=>?_),inv ⟨⟨by omega,fun i hi=>by cases hi;omega⟩,by simp only;omega,⟨_,rfl⟩,hBn,hne2,hgo2.symm⟩,by simp only;omega⟩
     ·repeat (first|exact hD0|rw [h_ne (by omega)]|rw [h_dne (by omega)])
     ·rw [h_same];simp only [bCells,todo_s];rw [hL];rfl
     ·cases hi;rw [h_ne (by omega),h_same,hI,ht0,hd0,List.nil_append,insC_app,insC_one];rfl
    ·have ha1:∀ (H:Hp) c',appR H c' 2 16 .snil k (insC (c.instrs.take k))=some (.slc c' 0 k,H.upd c' ⟨2,true,insC (c.instrs.take k)⟩,c'+1):=fun H c'=>r_appn' hk0 (by omega) (by omega)
     have ha2:=fun ds=>hs_one (sz:=2) (bytes:=16) (n:=k) (cs:=insC (c.instrs.take k)) (ds:=ds) htc (by omega) (by omega)
     have hs2:∀ H,slcR H 2 (.slc a 0 n) (some (I64 (k:Int))) none=slB a 0 2 k n (H a):=fun H=>r_slclo hk0 (by omega) H
     have hs3:slB a 0 2 k n (some ⟨2,true,insC c.instrs⟩)=some (.slc a (k * 2) (n-k)):=by rw [b_slB,Nat.zero_add]
     have hc3:srB 2 (k * 2) (n-k) (some ⟨2,true,insC c.instrs⟩)=some (n-k,insC (c.instrs.drop k)):=by rw [b_srcI (by omega),List.take_of_length_le (by omega)]
     have ha3:∀ (H:Hp) (c' id:Nat) w1 w2,apB H c' id 2 16 (k+1) (n-k) (insC (c.instrs.drop k)) (some ⟨2,true,insC (c.instrs.take k)++[w1,w2]⟩)=some (.slc c' 0 (k+1+(n-k)),(H.del id).upd c' ⟨2,true,insC (c.instrs.take k)++[w1,w2]++insC (c.instrs.drop k)⟩,c'+1) :=
      fun H c' id w1 w2=>b_appx (by rw [List.length_append,htc];simp;omega) (by omega) (by omega)
     have hz1:((((k+1+(n-k):Nat):Int)) == 0)=false:=by simp;omega
     have ne0:=nes7 0 2 a (cc+11+7) (cc+11+16) (cc+11+16+1) (cc+11+16+1+1) (by omega)
     repeat' ((with_reducible first|refine wr ?_|refine wb2 ?_ ?_<;>(intro hb;try simp only [hb])|fail)<;>try simp only [go_sem,seval,nk,hs1,hs2,hs3,hc1,hc3,ha1,ha2,ha3,hz1,hm4,hmb4,hm_same,hid4,hid4b,P5_7,P5_16,P5_16_1,P6_7,P6_16,P6_16_1,P9_7,P9_16,P9_16_1,P10_7,P10_16,P10_16_1,P11_7,P11_16,P11_16_1,P12_7,P12_16,P12_16_1,Int.reduceBEq,hw1,hw2,hw3,hd1,hd2,hlen,gx,gy,gz,vx,vz,vm,q1,q2,q34,q12,q05,q03,q08,vv,hD2,hDa,hD0,F0,F1,F2,F3,F4,F5,F6,F7,F8,F9,F10,F11,F12,F13,F14,F15,F16,F17,F18,F19,ne0])
     have hL:(bkR c 4 k v x z).instrs.length=k+1+(n-k):=by rw [hI,List.length_append,List.length_append,htl,hdl,List.length_singleton]
     have hne2:(bkR c 4 k v x z).instrs≠[]:=by exact fun e=>hne4 (by rw [e];rfl)
     rw [if_neg hne2] at hgo2
     refine ⟨(j+1,some (cc+11+16+1+1),bkR c 4 k v x z),by rw [e3],GL.less' (BH_sub ?_ ?_ fun i hi=>?_),inv ⟨⟨by omega,fun i hi=>by cases hi;omega⟩,by simp only;omega,⟨_,rfl⟩,hBn,hne2,hgo2.symm⟩,by simp only;omega⟩
     ·repeat (first|exact hD0|rw [h_ne (by omega)]|rw [h_dne (by omega)])
     ·rw [h_same];simp only [bCells,todo_s];rw [hL];rfl
     ·cases hi;rw [h_ne (by omega),h_same,hI,insC_app,insC_app,insC_one]
   ·have hap:=hs_app (sz:=4) (bytes:=32) (n:=c.entries.length) (xs:=c.entries.map Ent.v) (ent_unit _) (by simp) B8 (by omega) (by omega)
    have hao:=fun ds=>hs_one (sz:=4) (bytes:=32) (n:=c.entries.length) (cs:=cellsL (c.entries.map Ent.v)) (ds:=ds) (entC_len' _) (by omega) (by omega)
    have hm5:=fun H b=>hm_upd1 (k:=cc+11+15) (a:=cc+11+19) (by omega) H b
    subst re
    have nk:((5:Nat):Int)=5:=rfl
    have ne0:=nes6 0 2 a (cc+11+15) (cc+11+19) (cc+11+19+1) (by omega)
    have P3_15:¬ cc+11+3=cc+11+15:=by omega
    have P3_19:¬ cc+11+3=cc+11+19:=by omega
    have P4_15:¬ cc+11+4=cc+11+15:=by omega
    have P4_19:¬ cc+11+4=cc+11+19:=by omega
    have P5_15:¬ cc+11+5=cc+11+15:=by omega
    have P5_19:¬ cc+11+5=cc+11+19:=by omega
    have P6_15:¬ cc+11+6=cc+11+15:=by omega
    have P6_19:¬ cc+11+6=cc+11+19:=by omega
    have P7_15:¬ cc+11+7=cc+11+15:=by omega
    have P7_19:¬ cc+11+7=cc+11+19:=by omega
    have P8_15:¬ cc+11+8=cc+11+15:=by omega
    have P8_19:¬ cc+11+8=cc+11+19:=by omega
    have P9_15:¬ cc+11+9=cc+11+15:=by omega
    have P9_19:¬ cc+11+9=cc+11+19:=by omega
    have P10_15:¬ cc+11+10=cc+11+15:=by omega
    have P10_19:¬ cc+11+10=cc+11+19:=by omega
    have P11_15:¬ cc+11+11=cc+11+15:=by omega
    have P11_19:¬ cc+11+11=cc+11+19:=by omega
    have P12_15:¬ cc+11+12=cc+11+15:=by omega
    have P12_19:¬ cc+11+12=cc+11+19:=by omega
    have P13_15:¬ cc+11+13=cc+11+15:=by omega
    have P13_19:¬ cc+11+13=cc+11+19:=by omega
    have P14_15:¬ cc+11+14=cc+11+15:=by omega
    have P14_19:¬ cc+11+14=cc+11+19:=by omega
    repeat' ((with_reducible first|refine wr ?_|refine wb2 ?_ ?_<;>(intro hb;try simp only [hb])|fail)<;>try simp only [go_sem,seval,nk,hz0,hap,hao,hm5,hm_same,P3_15,P3_19,P4_15,P4_19,P5_15,P5_19,P6_15,P6_19,P7_15,P7_19,P8_15,P8_19,P9_15,P9_19,P10_15,P10_19,P11_15,P11_19,P12_15,P12_19,P13_15,P13_19,P14_15,P14_19,Int.reduceBEq,hw1,hw2,hw3,hd1,hd2,hlen,gx,gy,gz,vx,vz,vm,q1,q2,q34,q12,q05,q03,q08,vv,hD2,hDa,hD0,F0,F1,F2,F3,F4,F5,F6,F7,F8,F9,F10,F11,F12,F13,F14,F15,F16,F17,F18,F19,ne0])
    have hne2:(bkR c 5 k v x z).instrs≠[]:=by exact hne
    rw [if_neg hne2] at hgo2
    refine ⟨(j+1,some a,bkR c 5 k v x z),by rw [e3],(g_cell (a:=(cc+11+19+1)) (k:=2) (u:=4) (u':=4) (pre:=[.slc a 0 n,strs c.strings]) (suf:=[ints c.prios,ints c.vars,I64 c.timers,I64 c.events]) (xs:=(c.entries++[(Ent.mk (v.tmod 3) ((xn % 8:Nat):Int) (v.tmod 5) (k:Int))]).map Ent.v) (junk:=[]) h_same (by rw [h_ne (by omega),h_same,List.append_nil,entC_snoc]) (by simp [DV.one]) (by simp) (ent_unit _) (by omega)).trans (GL.less' (BH_sub ?_ ?_ fun i hi=>?_)),inv ⟨⟨by omega,fun i hi=>by cases hi;omega⟩,by simp only;omega,⟨_,rfl⟩,hBn,hne2,hgo2.symm⟩,by simp only;omega⟩
    ·repeat (first|exact hD0|rw [h_ne (by omega)]|rw [h_dne (by omega)])
    ·rw [h_same];simp only [bCells,todo_s,bkR, ← hn, ← hxn];rfl
    ·cases hi;repeat (first|exact hDa|rw [h_ne (by omega)]|rw [h_dne (by omega)])
   ·subst re
    have nk:((6:Nat):Int)=6:=rfl
    have ne0:=nes3 0 2 a (by omega)
    repeat' ((with_reducible first|refine wr ?_|refine wb2 ?_ ?_<;>(intro hb;try simp only [hb])|fail)<;>try simp only [go_sem,seval,nk,hz0,Int.reduceBEq,hw1,hw2,hw3,hd1,hd2,hlen,gx,gy,gz,vx,vz,vm,q1,q2,q34,q12,q05,q03,q08,vv,hD2,hDa,hD0,F0,F1,F2,F3,F4,F5,F6,F7,F8,F9,F10,F11,F12,F13,F14,F15,F16,F17,F18,F19,ne0])
    have hne2:(bkR c 6 k v x z).instrs≠[]:=by exact hne
    rw [if_neg hne2] at hgo2
    refine ⟨(j+1,some a,bkR c 6 k v x z),by rw [e3],GL.less' (BH_sub ?_ ?_ fun i hi=>?_),inv ⟨⟨by omega,fun i hi=>by cases hi;omega⟩,by simp only;omega,⟨_,rfl⟩,hBn,hne2,hgo2.symm⟩,by simp only;omega⟩
    ·rw [h_ne (by omega)];exact hD0
    ·rw [h_same];simp only [bCells,todo_s,bkR, ← hn]
    ·cases hi;rw [h_ne (by omega)];exact hDa
   ·have hap:=hs_app (sz:=1) (bytes:=8) (n:=c.prios.length) (xs:=c.prios.map I64) (ints_unit _) (by simp) B10 (by omega) (by omega)
    have hao:=fun ds=>hs_one (sz:=1) (bytes:=8) (n:=c.prios.length) (cs:=cellsL (c.prios.map I64)) (ds:=ds) (by rw [cellsL_length (ints_unit _),List.length_map]) (by omega) (by omega)
    subst re
    have nk:((7:Nat):Int)=7:=rfl
    have ne0:=nes6 0 2 a (cc+11) (cc+11+1) (cc+11+1+1) (by omega)
    repeat' ((with_reducible first|refine wr ?_|refine wb2 ?_ ?_<;>(intro hb;try simp only [hb])|fail)<;>try simp only [go_sem,seval,nk,hz0,hap,hao,Int.reduceBEq,hw1,hw2,hw3,hd1,hd2,hlen,gx,gy,gz,vx,vz,vm,q1,q2,q34,q12,q05,q03,q08,vv,hD2,hDa,hD0,F0,F1,F2,F3,F4,F5,F6,F7,F8,F9,F10,F11,F12,F13,F14,F15,F16,F17,F18,F19,ne0])
    have hne2:(bkR c 7 k v x z).instrs≠[]:=by exact hne
    rw [if_neg hne2] at hgo2
    refine ⟨(j+1,some a,bkR c 7 k v x z),by rw [e3],(g_cell (a:=(cc+11+1+1)) (k:=2) (u:=1) (u':=1) (pre:=[.slc a 0 n,strs c.strings,entsV c.entries]) (suf:=[ints c.vars,I64 c.timers,I64 c.events]) (xs:=(c.prios++[v]).map I64) (junk:=[]) h_same (by rw [h_ne (by omega),h_same,List.append_nil,List.map_append,cellsL_append];simp [cellsL,DV.cells]) (by simp [DV.one]) (by simp) (ints_unit _) (by omega)).trans (GL.less' (BH_sub ?_ ?_ fun i hi=>?_)),inv ⟨⟨by omega,fun i hi=>by cases hi;omega⟩,by simp only;omega,⟨_,rfl⟩,hBn,hne2,hgo2.symm⟩,by simp only;omega⟩
    ·repeat (first|exact hD0|rw [h_ne (by omega)]|rw [h_dne (by omega)])
    ·rw [h_same];simp only [bCells,todo_s,bkR, ← hn];rfl
    ·cases hi;repeat (first|exact hDa|rw [h_ne (by omega)]|rw [h_dne (by omega)])
   ·have hap:=hs_app (sz:=1) (bytes:=16) (n:=c.strings.length) (xs:=c.strings.map DV.str) (str_unit _) (by simp) B9 (by omega) (by omega)
    have hao:=fun ds=>hs_one (sz:=1) (bytes:=16) (n:=c.strings.length) (cs:=cellsL (c.strings.map DV.str)) (ds:=ds) (strC_len _) (by omega) (by omega)
    have hcv:=cv_one hzn
    have hcv2:∀ (H:Hp) B,cvbsR ((H.upd (cc+11+8) ⟨1,true,[.int .u8 (zn:Int)]⟩).upd (cc+11+10) B) (.slc (cc+11+8) 0 1)=some (.str [z]):=fun H B=>cv_own (by rw [h_ne (by omega),h_same]) (by rw [hzn];rfl) rfl
    have hcv3:∀ (H:Hp) B B2,cvbsR (((H.upd (cc+11+8) ⟨1,true,[.int .u8 (zn:Int)]⟩).upd (cc+11+10) B).upd (cc+11+14) B2) (.slc (cc+11+8) 0 1)=some (.str [z]):=fun H B B2=>cv_own (by rw [h_ne (by omega),h_ne (by omega),h_same]) (by rw [hzn];rfl) rfl
    have hm8:=fun H b=>hm_upd2 (k:=cc+11+8) (k':=cc+11+10) (a:=cc+11+14) (by omega) (by omega) H b
    subst re
    have nk:((8:Nat):Int)=8:=rfl
    have ne0:=nes7 0 2 a (cc+11+8) (cc+11+10) (cc+11+14) (cc+11+14+1) (by omega)
    have P3_8:¬ cc+11+3=cc+11+8:=by omega
    have P3_10:¬ cc+11+3=cc+11+10:=by omega
    have P3_14:¬ cc+11+3=cc+11+14:=by omega
    have P4_8:¬ cc+11+4=cc+11+8:=by omega
    have P4_10:¬ cc+11+4=cc+11+10:=by omega
    have P4_14:¬ cc+11+4=cc+11+14:=by omega
    have P5_8:¬ cc+11+5=cc+11+8:=by omega
    have P5_10:¬ cc+11+5=cc+11+10:=by omega
    have P5_14:¬ cc+11+5=cc+11+14:=by omega
    have P6_8:¬ cc+11+6=cc+11+8:=by omega
    have P6_10:¬ cc+11+6=cc+11+10:=by omega
    have P6_14:¬ cc+11+6=cc+11+14:=by omega
    have P7_8:¬ cc+11+7=cc+11+8:=by omega
    have P7_10:¬ cc+11+7=cc+11+10:=by omega
    have P7_14:¬ cc+11+7=cc+11+14:=by omega
    have P9_8:¬ cc+11+9=cc+11+8:=by omega
    have P9_10:¬ cc+11+9=cc+11+10:=by omega
    have P9_14:¬ cc+11+9=cc+11+14:=by omega
    repeat' ((with_reducible first|refine wr ?_|refine wb2 ?_ ?_<;>(intro hb;try simp only [hb])|fail)<;>try simp only [go_sem,seval,nk,hz0,hap,hao,hcv,hcv2,hcv3,hm8,hm_same,P3_8,P3_10,P3_14,P4_8,P4_10,P4_14,P5_8,P5_10,P5_14,P6_8,P6_10,P6_14,P7_8,P7_10,P7_14,P9_8,P9_10,P9_14,Int.reduceBEq,hw1,hw2,hw3,hd1,hd2,hlen,gx,gy,gz,vx,vz,vm,q1,q2,q34,q12,q05,q03,q08,vv,hD2,hDa,hD0,F0,F1,F2,F3,F4,F5,F6,F7,F8,F9,F10,F11,F12,F13,F14,F15,F16,F17,F18,F19,ne0])
    have hne2:(bkR c 8 k v x z).instrs≠[]:=by exact hne
    rw [if_neg hne2] at hgo2
    refine ⟨(j+1,some a,bkR c 8 k v x z),by rw [e3],(g_cell (a:=(cc+11+14+1)) (k:=2) (u:=1) (u':=1) (pre:=[.slc a 0 n]) (suf:=[entsV c.entries,ints c.prios,ints c.vars,I64 c.timers,I64 c.events]) (xs:=(c.strings++[[z]]).map DV.str) (junk:=[]) h_same (by rw [h_ne (by omega),h_same,List.append_nil,List.map_append,cellsL_append];simp [cellsL,DV.cells]) (by simp [DV.one]) (by simp) (str_unit _) (by omega)).trans (GL.less' (BH_sub ?_ ?_ fun i hi=>?_)),inv ⟨⟨by omega,fun i hi=>by cases hi;omega⟩,by simp only;omega,⟨_,rfl⟩,hBn,hne2,hgo2.symm⟩,by simp only;omega⟩
    ·repeat (first|exact hD0|rw [h_ne (by omega)]|rw [h_dne (by omega)])
    ·rw [h_same];simp only [bCells,todo_s,bkR, ← hn];rfl
    ·cases hi;repeat (first|exact hDa|rw [h_ne (by omega)]|rw [h_dne (by omega)])
  ·have hd2:decide ((i:Int)<9)=false:=by simp;omega
   have hge:=go_end (m:=m) (c:=c) (j:=j) (by omega)
   repeat' ((with_reducible first|refine wr ?_|refine wb2 ?_ ?_<;>(intro hb;try simp only [hb])|fail)<;>try simp only [go_sem,seval,hw2,hlen,hd1,hd2,hD2,hD0])
   rw [k_rv (v:=.agg (bCells (some a) c)) (by simp only [bCells,todo_s, ← hn];rfl)]
   rw [← hgo,hge]
   dsimp only
   exact b_fin (o:=some a) (by rw [h_same];simp only [bCells,todo_s, ← hn]) (fun i hi=>by cases hi;exact ⟨by omega,by rw [h_ne (by omega)];exact hDa⟩) (fun h=>by cases h)
 ·have hd1:decide (((i+2:Nat):Int)<((m.length:Nat):Int))=false:=by simp;omega
  have hge:=go_end (m:=m) (c:=c) (j:=j) (by omega)
  repeat' ((with_reducible first|refine wr ?_|refine wb2 ?_ ?_<;>(intro hb;try simp only [hb])|fail)<;>try simp only [go_sem,seval,hw2,hlen,hd1,hD2,hD0])
  rw [k_rv (v:=.agg (bCells (some a) c)) (by simp only [bCells,todo_s, ← hn];rfl)]
  rw [← hgo,hge]
  dsimp only
  exact b_fin (o:=some a) (by rw [h_same];simp only [bCells,todo_s, ← hn]) (fun i hi=>by cases hi;exact ⟨by omega,by rw [h_ne (by omega)];exact hDa⟩) (fun h=>by cases h)
end Go.Proofs.YtcallbfckjlagaaGreat
set_option maxHeartbeats 8000000
namespace Go.Proofs.YtcallbfckjlagaaGreat
open Go.Eng (IC IOper DReg IFn IsFn)
open Go.Sym Go.Pb
section
abbrev u6_7:IC:=qS [oV 6 (.bool false)] .ret []
abbrev u6_6:IC:=qK u6_7 .skip (.t 31) [5,7,8,31]
abbrev u6_5:IC:=qD [oD 16 7 7,oD 17 5 6,oC 18 16 [.t 16,.t 17],oD 19 7 7,oD 20 5 6,oC 21 17 [.t 19,.t 20],oP 22 (.eqb true (.t 18) (.t 21)),oM 23 22,oR 24 (.ld 7 true (.t 7)) 23,oR 25 (.ld 6 true (.t 8)) 23,⟨some 26,.call 16 [.t 24,.t 25],some (23,false)⟩,oR 27 (.ld 7 true (.t 7)) 23,oR 28 (.ld 6 true (.t 8)) 23,⟨some 29,.call 17 [.t 27,.t 28],some (23,false)⟩,oR 30 (.eqb true (.t 26) (.t 29)) 23,oO 31 23 30] u6_6 [(0,none),(1,none),(3,none),(4,none),(2,some [3,4]),(5,some []),(6,none),(7,none),(8,none),(9,none),(11,none),(12,none),(10,some [11,12]),(13,some []),(14,none),(15,none)] 16 [5,7,8]
abbrev u6_13:IC:=qK .skip (.exit 0) (.t 40) [5,7,8,9,40]
abbrev u6_12:IC:=qS [oM 32 9,oF 33 7 2,oL 34 33,oH 35 34,oB 36 32 35 .lss,oM 37 36,gM 38 9 37,gK 39 38 37 .lss 10,oJ 40 37 39] u6_13 [5,7,8,9]
abbrev u6_17:IC:=qS [oV 6 (.bool false)] .ret []
abbrev u6_16:IC:=qK u6_17 .skip (.t 64) [5,7,8,9,64]
abbrev u6_15:IC:=qP [oD 43 7 7,oF 44 7 2,oL 45 44,oM 46 9,oA 47 45 46 4,oF 48 47 3,oL 49 48,oD 50 8 6,oC 51 14 [.t 43,.t 49,.t 50,.k (.int .i64 200)],oY 52 51,oM 53 52,oR 54 (.ld 7 true (.t 7)) 53,hF 55 7 2 53,hL 56 55 53,hM 57 9 53,oR 58 (.iad 4 (.t 56) (.t 57)) 53,hF 59 58 3 53,hL 60 59 53,oR 61 (.ld 6 true (.t 5)) 53,⟨some 62,.call 14 [.t 54,.t 60,.t 61,.k (.int .i64 200)],some (53,false)⟩,oR 63 (.un .not (.t 62)) 53,oO 64 53 63] u6_16 0 22 [5,7,8,9]
abbrev u6_18:IC:=qE [oM 41 9,oK 42 41 .add 1,oM 9 42] [5,7,8,9]
abbrev u6_14:IC:=qB u6_15 u6_18 1 [5,7,8,9]
abbrev u6_11:IC:=qQ u6_12 u6_14 [5,7,8,9]
abbrev u6_10:IC:=qJ (.loop u6_11) 0 [5,7,8,9]
abbrev u6_9:IC:=qS [oI 9 0] u6_10 [5,7,8]
abbrev u6_19:IC:=qS [oC 65 13 [],oM 6 65] .ret []
abbrev u6_8:IC:=qQ u6_9 u6_19 [5,7,8]
abbrev u6_4:IC:=qQ u6_5 u6_8 [5,7,8]
abbrev u6_3:IC:=qS [oD 13 7 7,oM 14 1,oC 15 9 [.t 13,.t 14],oW 8 (.agg #[.slice none 0 0,.slice none 0 0,.int .u64 0,.int .u32 0,.int .i64 0,.int .i64 0]),oS 8 15 6] u6_4 [1,5,7]
abbrev u6_2:IC:=qS [oM 10 0,oM 11 1,oC 12 15 [.t 10,.t 11],oW 7 (.agg #[.slice none 0 0,.slice none 0 0,.slice none 0 0,.slice none 0 0,.slice none 0 0,.int .i64 0,.int .i64 0]),oS 7 12 7] u6_3 [0,1,5]
abbrev u6_1:IC:=qS [oX 5 2,oV 6 (.bool false)] u6_2 [0,1,2]
def u6:IFn:=⟨66,u6_1,[.tmp 6]⟩
end
theorem isU6:IsFn Tryz.prog 6 u6:=by unfold IsFn;kernel_rfl
def TmOk (c:Prg):Prop := -1000≤c.timers∧c.timers≤1000
theorem bk_tm {c:Prg} (h:TmOk c) (x y z:UInt8):TmOk (bkStep c x y z):=by
 unfold bkStep bkR
 split<;>try exact h
 have h1:=Int.tmod_lt_of_pos ((z.toNat:Int)-3) (b:=5) (by omega)
 have h2 : -5<((z.toNat:Int)-3).tmod 5:=by have:=Int.lt_tmod_of_pos ((z.toNat:Int)-3) (b:=5) (by omega);omega
 exact ⟨by simp only;omega,by simp only;omega⟩
theorem go_tm:∀ {n:Nat} {m:List UInt8} {c:Prg},TmOk c→TmOk (bkGo n m c)
 | 0,_,c,h=>h
 | n+1,m,c,h=>by
  unfold bkGo
  split
  ·split
   ·exact bk_tm h _ _ _
   ·exact go_tm (bk_tm h _ _ _)
  ·exact h
theorem broken_tm (l m:List UInt8):TmOk (brokenM l m):=go_tm ⟨by show (-1000:Int)≤2;omega,by show (2:Int)≤1000;omega⟩
theorem envnl (e:Envr):e.v.nl=true:=by simp [DV.nl,DV.nlL,nlL_ints]
theorem c_broken35 (l m:List UInt8) (e:Envr) (hl:l.length≤9223372036854775807) (hm:m.length≤9223372036854775807) (n2:e.vars.length≤9223372036854775807) (n3:e.left.length≤9223372036854775807)
  (hcl:e.closed<18446744073709551616) (hac:e.active<4294967296):PC Tryz.prog 6 [.lst (bytesC l),.lst (bytesC m),e.v] (.bool true):=by
 have nlb:∀ l,DV.nlL (bytesC l)=true:=fun l=>nlL_map (fun _=>rfl) l
 refine PC.of mixedU isU6 (Nat.le_of_ble_eq_true rfl) (by simp [DV.nlL,DV.nl,nlb,nlL_ints]) rfl ?_
 show IW Tryz.prog 66 u6_1 ⟨argT _,_,_⟩ (rt [.tmp 6] _)
 have hB:=BB.broken l m
 obtain ⟨hT1,hT2⟩:=broken_tm l m
 have cB:=c_Broken l m hl hm
 obtain ⟨c,hc⟩:∃ c,c=brokenM l m:=⟨_,rfl⟩
 rw [← hc] at hB hT1 hT2 cB
 obtain ⟨B1,B2,B3,B4,B5,B6,B7,B8,B9,B10⟩:=id hB
 have hs:∀ s∈c.strings,s.length≤140737488355328:=fun s hs=>by have:=B5 s hs;omega
 have hv3:c.vars.length=3:=by rw [B6];rfl
 have hvn:c.vars≠[]:=fun h=>by rw [h] at hv3;simp at hv3
 have cE:=c_Env c m hm (by omega) ⟨hT1,hT2⟩
 have zR:Sized c e:=⟨hs,by omega,n2,n3,by omega,hvn,hcl,hac,by omega⟩
 have zE:∀ v,EnvM c v→Sized c v:=fun v h=>by
  have e1:=h.vl
  have e2:=h.ll
  have e3:=h.act
  have h2P:2 ^ min c.prios.length 16≤2 ^ 16:=Nat.pow_le_pow_right (by omega) (by omega)
  exact ⟨hs,by omega,by omega,by omega,by omega,hvn,h.clo,by omega,by omega⟩
 have i1:=c_IsEnv c e hs (by omega) n2 n3
 have i2:=c_IsEnvR c e hs (by omega) n2 n3
 have cQ:=fun a b=>c_runs c e a b zR
 repeat' ((with_reducible first|refine wr ?_|refine cpc cB ?_|refine wb2 ?_ ?_<;>(intro hb;try simp only [hb])|fail)<;>try simp only [go_sem,seval])
 refine AC.call (AC.lift (Q:=fun r => ∃ e,EnvM c e∧r=e.v) cE (by simp [DV.nlL,DV.nl,nlb,nlL_ints,nlL_strs,nlL_instrs,nlL_entries]) (fun v hv=>by obtain ⟨e, -,rfl⟩:=hv;exact envnl e) _ _) ?_
 rintro v H' c' ⟨⟨v,he,rfl⟩,rfl,rfl⟩ hc1
 have z:=zE v he
 have j1:=c_IsEnv c v hs (by omega) z.n2 z.n3
 have j2:=c_IsEnvR c v hs (by omega) z.n2 z.n3
 have cR:=fun a b=>c_runs c v a b z
 have bb:∀ b:Bool,(b != b)=false:=fun b=>by simp
 simp only [go_sem,seval]
 repeat' ((with_reducible first|refine wr ?_|refine cpc i1 ?_|refine cpc i2 ?_|refine cpc j1 ?_|refine cpc j2 ?_|refine wb2 ?_ ?_<;>(intro hb;try simp only [hb])|fail)<;>try simp only [go_sem,seval,bb])
 refine i_loop (fun i:Nat=>[(5,.ptr 0 0),(7,.ptr 1 0),(8,.ptr 2 0),(9,I64 (i:Int))]) (fun _=>((Sym.nil.upd 0 ⟨0,true,e.cs⟩).upd 1 ⟨0,true,c.cs⟩).upd 2 ⟨0,true,v.cs⟩) (fun i cc=>i≤c.entries.length) (fun i=>c.entries.length-i) 0
  (by simp [tmLe,tm,Tm.upd]) (by simp only [h_upd2];exact Sub.refl _) (by omega) ?_
 intro i cc hi
 by_cases hlt:i<c.entries.length
 ·have hd:decide ((i:Int)<(c.entries.length:Int))=true:=by simpa using hlt
  by_cases h10:i<10
  ·have hd2:decide ((i:Int)<10)=true:=by simp;omega
   have hw:IntKind.i64.wrap ((i:Int)+1)=((i+1:Nat):Int):=by rw [w64 (by omega) (by omega)];omega
   obtain ⟨x,hx⟩:∃ x,x=c.entries[i]:=⟨_,rfl⟩
   have hg:c.entries[i]? = some x:=by rw [hx];exact List.getElem?_eq_getElem hlt
   repeat' ((with_reducible first|refine wr ?_|refine cpc (cR _ _) ?_|refine cpc (cQ _ _) ?_|refine wb2 ?_ ?_<;>(intro hb;try simp only [hb])|fail)<;>try simp only [go_sem,seval,hd,hd2,hg,hw])
   exact ⟨i+1,rfl,Sub.refl _,inv hlt,by omega⟩
  ·have hd2:decide ((i:Int)<10)=false:=by simp;omega
   repeat' ((with_reducible first|refine wr ?_|refine cpc c_sane35 ?_|refine wb2 ?_ ?_<;>(intro hb;try simp only [hb])|fail)<;>try simp only [go_sem,seval,hd,hd2])
   exact pc_ret rfl
 ·have hd:decide ((i:Int)<(c.entries.length:Int))=false:=by simpa using hlt
  repeat' ((with_reducible first|refine wr ?_|refine cpc c_sane35 ?_|refine wb2 ?_ ?_<;>(intro hb;try simp only [hb])|fail)<;>try simp only [go_sem,seval,hd])
  exact pc_ret rfl
end Go.Proofs.YtcallbfckjlagaaGreat
end

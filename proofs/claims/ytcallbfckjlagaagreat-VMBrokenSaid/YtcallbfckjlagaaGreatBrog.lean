/-
  HELPERS of the claim: part 7 of its texts.
-/
import Derived.Test.YtcallbfckjlagaaGreatBrof
noncomputable section
set_option maxHeartbeats 8000000
set_option maxRecDepth 100000
set_option linter.unusedSimpArgs false
set_option linter.unusedVariables false
namespace Go.Proofs.YtcallbfckjlagaaGreat
open Go.Eng (IC IOper DReg IFn IsFn)
open Go.Sym Go.Pb
section
abbrev u47_8:IC:=qE [oM 44 0,oF 45 2 1,oL 46 45,oC 47 65 [.t 44,.t 46]] [0,2]
abbrev u47_11:IC:=qF [oM 50 0,oM 51 0,oN 52 51,oF 53 52 13,oL 54 53,oF 55 2 1,oL 56 55,oA 57 54 56 1,oL 58 57,oC 59 65 [.t 50,.t 58]] 0 10 [0,2]
abbrev u47_14:IC:=qG [oM 62 0,oN 63 62,oF 64 63 13,oL 65 64,oF 66 2 1,oL 67 66,oM 68 0,oC 69 66 [.t 68],oA 70 65 67 1,oS 70 69 1] [(0,none),(1,none),(2,none),(3,none),(4,none),(5,none),(6,none),(7,some [0,1,2,3,4,5]),(8,none),(9,some [])] 10 [0,2]
abbrev u47_17:IC:=qF [oM 73 0,oM 74 0,oN 75 74,oF 76 75 7,oF 77 76 2,oL 78 77,oF 79 2 1,oL 80 79,oP 81 (.cvi .u64 (.t 80)),oB 82 78 81 .shr,oP 83 (.bin .and (.t 82) (.k (.int .u64 1))),oP 84 (.cvi .i64 (.t 83)),oC 85 65 [.t 73,.t 84]] 0 13 [0,2]
abbrev u47_20:IC:=qF [oM 88 0,oM 89 0,oN 90 89,oF 91 90 7,oF 92 91 3,oL 93 92,oF 94 2 1,oL 95 94,oP 96 (.cvi .u64 (.t 95)),oB 97 93 96 .shr,oP 98 (.bin .and (.t 97) (.k (.int .u32 1))),oP 99 (.cvi .i64 (.t 98)),oC 100 65 [.t 88,.t 99]] 0 13 [0,2]
abbrev u47_23:IC:=qF [oM 103 0,oM 104 0,oN 105 104,oF 106 105 7,oF 107 106 1,oL 108 107,oF 109 2 1,oL 110 109,oA 111 108 110 1,oL 112 111,oC 113 65 [.t 103,.t 112]] 0 11 [0,2]
abbrev u47_26:IC:=qE [oM 116 0,oM 117 0,oN 118 117,oF 119 118 7,oF 120 119 4,oL 121 120,oC 122 65 [.t 116,.t 121]] [0]
abbrev u47_29:IC:=qE [oM 125 0,oM 126 0,oN 127 126,oF 128 127 7,oF 129 128 5,oL 130 129,oC 131 65 [.t 125,.t 130]] [0]
abbrev u47_32:IC:=qE [oM 134 0,oM 135 0,oC 136 66 [.t 135],oC 137 67 [.k (.int .i64 10),.t 136],oC 138 65 [.t 134,.t 137]] [0]
abbrev u47_35:IC:=qE [oM 141 0,oM 142 0,oC 143 66 [.t 142],oC 144 67 [.k (.int .i64 11),.t 143],oC 145 65 [.t 141,.t 144]] [0]
abbrev u47_40:IC:=qE [oM 152 0,oF 153 2 1,oL 154 153,oM 155 4,oM 156 3,oC 157 68 [.t 154,.t 155,.t 156],oC 158 65 [.t 152,.t 157]] [0,2,3,4]
abbrev u47_39:IC:=qS [oM 150 0,oC 151 66 [.t 150],oM 4 151] u47_40 [0,2,3]
abbrev u47_38:IC:=qS [oM 148 0,oC 149 66 [.t 148],oM 3 149] u47_39 [0,2]
abbrev u47_43:IC:=qE [oM 161 0,oF 162 2 1,oL 163 162,oN 164 161,oF 165 164 16,oS 165 163 1] [0,2]
abbrev u47_48:IC:=qE [oM 171 0,oF 172 2 1,oL 173 172,oN 174 171,oF 175 174 16,oS 175 173 1] [0,2]
abbrev u47_47:IC:=qK u47_48 .skip (.t 170) [0,2,170]
abbrev u47_46:IC:=qS [oM 168 0,oC 169 66 [.t 168],oK 170 169 .eql 0] u47_47 [0,2]
abbrev u47_54:IC:=qE [oM 182 0,oF 183 2 1,oL 184 183,oN 185 182,oF 186 185 16,oS 186 184 1] [0,2]
abbrev u47_55:IC:=qE [oM 187 0,oM 188 5,oK 189 188 .sub 1,oC 190 65 [.t 187,.t 189]] [0,5]
abbrev u47_53:IC:=qK u47_54 u47_55 (.t 181) [0,2,5,181]
abbrev u47_52:IC:=qS [oM 180 5,oK 181 180 .leq 0] u47_53 [0,2,5]
abbrev u47_51:IC:=qS [oM 178 0,oC 179 66 [.t 178],oM 5 179] u47_52 [0,2]
abbrev u47_61:IC:=qE [oK 194 34 .eql 21,oM 191 194] [0,2,34]
abbrev u47_60:IC:=qK .skip u47_61 (.t 191) [0,2,34,191]
abbrev u47_59:IC:=qS [oK 193 34 .eql 19,oM 191 193] u47_60 [0,2,34]
abbrev u47_58:IC:=qK .skip u47_59 (.t 191) [0,2,34,191]
abbrev u47_57:IC:=qS [oK 192 34 .eql 15,oM 191 192] u47_58 [0,2,34]
abbrev u47_63:IC:=qG [oM 195 0,oF 196 2 0,oL 197 196,oF 198 2 1,oL 199 198,oM 200 0,oC 201 66 [.t 200],oP 202 (.bld #[.int .i64 0,.int .i64 0,.int .i64 0,.int .i64 0,.string ⟨#[]⟩] [(0,1),(1,1),(2,1),(3,1),(4,1)] [(0,.t 197),(1,.t 199),(2,.t 201)]),oC 203 69 [.t 195,.t 202]] [(0,none),(1,none),(2,none),(3,none),(4,none),(5,none),(6,some [0,1,2,3,4]),(7,none),(8,some [])] 9 [0,2]
abbrev u47_68:IC:=qE [oM 210 0,oF 211 2 0,oL 212 211,oF 213 2 1,oL 214 213,oM 215 7,oM 216 6,oP 217 (.bld #[.int .i64 0,.int .i64 0,.int .i64 0,.int .i64 0,.string ⟨#[]⟩] [(0,1),(1,1),(2,1),(3,1),(4,1)] [(0,.t 212),(1,.t 214),(2,.t 215),(3,.t 216)]),oC 218 69 [.t 210,.t 217]] [0,2,6,7]
abbrev u47_67:IC:=qS [oM 208 0,oC 209 66 [.t 208],oM 7 209] u47_68 [0,2,6]
abbrev u47_66:IC:=qS [oM 206 0,oC 207 66 [.t 206],oM 6 207] u47_67 [0,2]
abbrev u47_71:IC:=qG [oM 221 0,oF 222 2 0,oL 223 222,oM 224 0,oC 225 66 [.t 224],oM 226 0,oN 227 226,oF 228 227 0,oF 229 228 1,oL 230 229,oF 231 2 1,oL 232 231,oA 233 230 232 1,oL 234 233,oP 235 (.bld #[.int .i64 0,.int .i64 0,.int .i64 0,.int .i64 0,.string ⟨#[]⟩] [(0,1),(1,1),(2,1),(3,1),(4,1)] [(0,.t 223),(2,.t 225),(4,.t 234)]),oC 236 69 [.t 221,.t 235]] [(0,none),(1,none),(2,none),(3,none),(5,none),(6,none),(7,none),(8,none),(9,none),(10,none),(11,none),(12,none),(13,none),(4,some [0,1,2,5,6,7,8,9,10,11,12,13]),(14,none),(15,some [])] 16 [0,2]
abbrev u47_74:IC:=qE [oM 239 0,oN 240 239,oF 241 240 18,⟨none,.eff (.st 1 (.t 241) (.k (.bool true))),none⟩] [0]
abbrev u47_75:IC:=qE [oM 35 0,oF 36 2 0,oL 37 36,oF 38 2 1,oL 39 38,oP 40 (.bld #[.int .i64 0,.int .i64 0,.int .i64 0,.int .i64 0,.string ⟨#[]⟩] [(0,1),(1,1),(2,1),(3,1),(4,1)] [(0,.t 37),(1,.t 39)]),oC 41 69 [.t 35,.t 40]] [0,2]
abbrev u47_73:IC:=qK u47_74 u47_75 (.t 237) [0,2,237]
abbrev u47_72:IC:=qS [oK 238 34 .eql 31,oM 237 238] u47_73 [0,2,34]
abbrev u47_70:IC:=qK u47_71 u47_72 (.t 219) [0,2,34,219]
abbrev u47_69:IC:=qS [oK 220 34 .eql 29,oM 219 220] u47_70 [0,2,34]
abbrev u47_65:IC:=qK u47_66 u47_69 (.t 204) [0,2,34,204]
abbrev u47_64:IC:=qS [oK 205 34 .eql 20,oM 204 205] u47_65 [0,2,34]
abbrev u47_62:IC:=qK u47_63 u47_64 (.t 191) [0,2,34,191]
abbrev u47_56:IC:=qQ u47_57 u47_62 [0,2,34]
abbrev u47_50:IC:=qK u47_51 u47_56 (.t 176) [0,2,34,176]
abbrev u47_49:IC:=qS [oK 177 34 .eql 14,oM 176 177] u47_50 [0,2,34]
abbrev u47_45:IC:=qK u47_46 u47_49 (.t 166) [0,2,34,166]
abbrev u47_44:IC:=qS [oK 167 34 .eql 13,oM 166 167] u47_45 [0,2,34]
abbrev u47_42:IC:=qK u47_43 u47_44 (.t 159) [0,2,34,159]
abbrev u47_41:IC:=qS [oK 160 34 .eql 12,oM 159 160] u47_42 [0,2,34]
abbrev u47_37:IC:=qK u47_38 u47_41 (.t 146) [0,2,34,146]
abbrev u47_36:IC:=qS [oK 147 34 .eql 11,oM 146 147] u47_37 [0,2,34]
abbrev u47_34:IC:=qK u47_35 u47_36 (.t 139) [0,2,34,139]
abbrev u47_33:IC:=qS [oK 140 34 .eql 10,oM 139 140] u47_34 [0,2,34]
abbrev u47_31:IC:=qK u47_32 u47_33 (.t 132) [0,2,34,132]
abbrev u47_30:IC:=qS [oK 133 34 .eql 9,oM 132 133] u47_31 [0,2,34]
abbrev u47_28:IC:=qK u47_29 u47_30 (.t 123) [0,2,34,123]
abbrev u47_27:IC:=qS [oK 124 34 .eql 8,oM 123 124] u47_28 [0,2,34]
abbrev u47_25:IC:=qK u47_26 u47_27 (.t 114) [0,2,34,114]
abbrev u47_24:IC:=qS [oK 115 34 .eql 7,oM 114 115] u47_25 [0,2,34]
abbrev u47_22:IC:=qK u47_23 u47_24 (.t 101) [0,2,34,101]
abbrev u47_21:IC:=qS [oK 102 34 .eql 6,oM 101 102] u47_22 [0,2,34]
abbrev u47_19:IC:=qK u47_20 u47_21 (.t 86) [0,2,34,86]
abbrev u47_18:IC:=qS [oK 87 34 .eql 5,oM 86 87] u47_19 [0,2,34]
abbrev u47_16:IC:=qK u47_17 u47_18 (.t 71) [0,2,34,71]
abbrev u47_15:IC:=qS [oK 72 34 .eql 4,oM 71 72] u47_16 [0,2,34]
abbrev u47_13:IC:=qK u47_14 u47_15 (.t 60) [0,2,34,60]
abbrev u47_12:IC:=qS [oK 61 34 .eql 3,oM 60 61] u47_13 [0,2,34]
abbrev u47_10:IC:=qK u47_11 u47_12 (.t 48) [0,2,34,48]
abbrev u47_9:IC:=qS [oK 49 34 .eql 2,oM 48 49] u47_10 [0,2,34]
abbrev u47_7:IC:=qK u47_8 u47_9 (.t 42) [0,2,34,42]
abbrev u47_6:IC:=qS [oK 43 34 .eql 1,oM 42 43] u47_7 [0,2,34]
abbrev u47_5:IC:=qJ u47_6 0 [0,2,34]
abbrev u47_4:IC:=qS [oF 33 2 0,oL 34 33] u47_5 [0,2]
abbrev u47_3:IC:=qS [oM 26 0,oN 27 26,oF 28 27 17,oL 29 28,oK 30 29 .add 1,oN 31 26,oF 32 31 17,oS 32 30 1] u47_4 [0,2]
abbrev u47_2:IC:=qS [oM 19 0,oN 20 19,oF 21 20 16,oL 22 21,oK 23 22 .add 1,oN 24 19,oF 25 24 16,oS 25 23 1] u47_3 [0,2]
abbrev u47_1:IC:=qD [oM 8 0,oN 9 8,oF 10 9 0,oF 11 10 0,oL 12 11,oM 13 0,oN 14 13,oF 15 14 16,oL 16 15,oA 17 12 16 2,oD 18 17 2,oW 2 (.agg #[.int .i64 0,.int .i64 0]),oS 2 18 2] u47_2 [(0,none),(1,none),(2,none),(3,none),(4,none),(5,none),(6,none),(7,none),(8,none),(9,none),(10,none),(11,none),(12,some [])] 13 [0]
def u47:IFn:=⟨242,u47_1,[]⟩
end
theorem isU47:IsFn Tryz.prog 47 u47:=by unfold IsFn;kernel_rfl
abbrev SteppedR (c:Prg) (e:Envr) (x:Mch) (q m v:Nat) (r:DV) (H':Hp) (c':Nat):Prop :=
 r=.tup []∧∃ so' eo' junk',MN m v so' eo' x c'∧H'=RM c e x q m v so' eo' junk'
theorem rstep_end {c:Prg} {e:Envr} {x z:Mch} {q m v c' k:Nat} {so eo:Option Nat} {junk:List DV} {B:Blk} {r:DV} (hn:MN m v so eo z c') (hk:RM c e z q m v so eo junk k=none) (hz:z=x) (hr:r=.tup []) :
  ∃ v2 H2,GL ((RM c e z q m v so eo junk).upd k B) [r] H2 [v2]∧SteppedR c e x q m v v2 H2 c':=by
 subst hz hr
 exact ⟨_,_,GL.less' (Sub.upd (Sub.refl _) B hk),rfl,so,eo,junk,hn,rfl⟩
theorem rstep_end' {c:Prg} {e:Envr} {x z:Mch} {q m v c':Nat} {so eo:Option Nat} {junk:List DV} {X:Hp} {r:DV} (hn:MN m v so eo z c') (hm:X m=some (rmB c e z q v so eo)) (hv:X v=some ⟨1,true,z.vars.map I64⟩)
  (hs:∀ i,so=some i→X i=some ⟨1,true,z.stk.reverse.map I64++junk⟩) (he:∀ i,eo=some i→X i=some ⟨5,true,effC z.effs⟩) (hz:z=x) (hr:r=.tup []) :
  ∃ v2 H2,GL X [r] H2 [v2]∧SteppedR c e x q m v v2 H2 c':=by
 subst hz hr
 exact ⟨_,_,GL.less' (VR_sub hm hv hs he),rfl,so,eo,junk,hn,rfl⟩
section
variable {c:Prg} {e:Envr} {x:Mch} {q m v cc:Nat} {so eo:Option Nat} {junk:List DV}
theorem rstep_pre (h:MN m v so eo x cc) {op A:Int} (s:StepOk c e x ⟨op,A⟩):∃ y:Mch,stepM c e x=opM c e op A y∧y.stk=x.stk∧y.effs=x.effs∧y.vars=x.vars∧(∀ c',cc≤c'→MN m v so eo y c') ∧
  (∀ B:Blk,((RM c e x q m v so eo junk).upd (cc+11) B).upd m ⟨0,true,rcC c e v x.vars.length ((x.pc+1:Nat):Int) ((q+1:Nat):Int) x.done (todoV so x.stk.length) (todoV eo x.effs.length)⟩=(RM c e y (q+1) m v so eo junk).upd (cc+11) B) ∧
  RM c e y (q+1) m v so eo junk m=some (rmB c e y (q+1) v so eo)∧RM c e y (q+1) m v so eo junk v=some ⟨1,true,y.vars.map I64⟩∧RM c e y (q+1) m v so eo junk (cc+11)=none∧y.stk.length≤1000∧y.effs.length≤1000 ∧
  IntKind.i64.wrap ((x.pc:Int)+1)=((x.pc+1:Nat):Int)∧RM c e x q m v so eo junk m=some (rmB c e x q v so eo)∧m<cc∧v<cc∧m≠v∧c.prios.length≤16:=by
 obtain ⟨s1,s2,s3,s4,s5,s6,s7,s8,s9,s10,s11,s12⟩:=s
 obtain ⟨d1,d2,d3,d4,d5,d6,d7,d8,d9⟩:=Lim.dims s1
 have hpc:x.pc<c.instrs.length:=(List.getElem?_eq_some_iff.1 s2).1
 obtain ⟨y,hy⟩:∃ y:Mch,y = { x with pc:=x.pc+1 }:=⟨_,rfl⟩
 have y1:y.stk=x.stk:=by rw [hy]
 have y2:y.effs=x.effs:=by rw [hy]
 have y3:y.vars=x.vars:=by rw [hy]
 have hN:∀ c',cc≤c'→MN m v so eo y c':=fun c' hc=>h.keep hc (by rw [y1];exact h.sn) (by rw [y2];exact h.en)
 have hmc:=h.mc
 exact ⟨y,by simp [stepM,List.getD,s2,hy],y1,y2,y3,hN,fun B=>by subst hy;exact VR_com h (by omega) B _,RM_m (hN cc (Nat.le_refl _)),VR_v (hN cc (Nat.le_refl _)),VR_n (hN cc (Nat.le_refl _)) (by omega),by rw [y1];exact s8,by rw [y2];exact s9,
  by rw [w64 (by omega) (by omega)];omega,RM_m h,hmc,h.vc,h.mv,d4⟩
theorem c_rstep_1 (h:MN m v so eo x cc) (hq:q≤100000) {op:Int} (ho:op=1∨op=7∨op=8) (A:Int) (s:StepOk c e x ⟨op,A⟩):AC Tryz.prog 47 [.ptr m 0] (RM c e x q m v so eo junk) cc (SteppedR c e (stepM c e x) (q+1) m v):=by
 rcases ho with rfl|rfl|rfl
 all_goals
  obtain ⟨y,hst,y1,y2,y3,hN,hcom,hY,hV,hk,l1,l2,hw,hM,hmc,hvc,hmv,d4⟩:=rstep_pre (q:=q) (junk:=junk) h s
  obtain ⟨s1,s2,s3,s4,s5,s6,s7,s8,s9,s10,s11,s12⟩:=s
  refine AC.body mixedU isU47 (Nat.le_of_ble_eq_true rfl) fun hfr=>?_
  show IW Tryz.prog 242 u47_1 ⟨argT _,_,_⟩ (rt [] _)
  have hn:=hN (cc+13) (by omega)
  rw [hst]
  clear s8 s9 hst
  have hw2:IntKind.i64.wrap ((q:Int)+1)=((q+1:Nat):Int):=by rw [w64 (by omega) (by omega)];omega
  have ne0:=nes4 m v cc (cc+11) (by omega)
  repeat' ((with_reducible first|refine wr ?_|refine wb2 ?_ ?_<;>(intro hb;try simp only [hb])|fail)<;>try simp only [go_sem,seval,hM,hw,s2,h_upd2,hcom,hY,hV,ne0,hw2])
  refine AC.call ((c_rput (hN _ (by omega)) (by omega) _).beside hk _) ?_
  rintro r H' c9 ⟨H9,⟨rfl,i2,q1,q2,rfl⟩,hk9,rfl⟩ hc9
  simp only [go_sem,seval]
  repeat' ((with_reducible first|refine wr ?_|refine wb2 ?_ ?_<;>(intro hb;try simp only [hb])|fail)<;>try simp only [go_sem,seval])
  exact rstep_end ((hN _ (by omega)).newS q1 q2 rfl) hk9 rfl rfl
theorem c_rstep_2 (h:MN m v so eo x cc) (hq:q≤100000) (A:Int) (s:StepOk c e x ⟨2,A⟩):AC Tryz.prog 47 [.ptr m 0] (RM c e x q m v so eo junk) cc (SteppedR c e (stepM c e x) (q+1) m v):=by
 obtain ⟨y,hst,y1,y2,y3,hN,hcom,hY,hV,hk,l1,l2,hw,hM,hmc,hvc,hmv,d4⟩:=rstep_pre (q:=q) (junk:=junk) h s
 obtain ⟨s1,s2,s3,s4,s5,s6,s7,s8,s9,s10,s11,s12⟩:=s
 refine AC.body mixedU isU47 (Nat.le_of_ble_eq_true rfl) fun hfr=>?_
 show IW Tryz.prog 242 u47_1 ⟨argT _,_,_⟩ (rt [] _)
 have hn:=hN (cc+13) (by omega)
 rw [hst]
 clear s8 s9 hst
 have hw2:IntKind.i64.wrap ((q:Int)+1)=((q+1:Nat):Int):=by rw [w64 (by omega) (by omega)];omega
 have ne0:=nes4 m v cc (cc+11) (by omega)
 obtain ⟨a,rfl,ha⟩:∃ a:Nat,A=(a:Int)∧a<y.vars.length:=by
  have h3:inM A 0 ((c.vars.length:Int)-1)=true:=s3
  simp only [inM,Bool.and_eq_true,decide_eq_true_eq] at h3
  exact ⟨A.toNat,by omega,by rw [y3,s7];omega⟩
 have hg:y.vars[a]? = some (y.vars.getD a 0):=by rw [List.getD,List.getElem?_eq_getElem ha];rfl
 repeat' ((with_reducible first|refine wr ?_|refine wb2 ?_ ?_<;>(intro hb;try simp only [hb])|fail)<;>try simp only [go_sem,seval,hM,hw,s2,h_upd2,hcom,hY,hV,ne0,hw2,hg,ha])
 refine AC.call ((c_rput (hN _ (by omega)) (by omega) _).beside hk _) ?_
 rintro r H' c9 ⟨H9,⟨rfl,i2,q1,q2,rfl⟩,hk9,rfl⟩ hc9
 simp only [go_sem,seval]
 repeat' ((with_reducible first|refine wr ?_|refine wb2 ?_ ?_<;>(intro hb;try simp only [hb])|fail)<;>try simp only [go_sem,seval])
 exact rstep_end ((hN _ (by omega)).newS q1 q2 rfl) hk9 rfl rfl
theorem c_rstep_6 (h:MN m v so eo x cc) (hq:q≤100000) (A:Int) (s:StepOk c e x ⟨6,A⟩):AC Tryz.prog 47 [.ptr m 0] (RM c e x q m v so eo junk) cc (SteppedR c e (stepM c e x) (q+1) m v):=by
 obtain ⟨y,hst,y1,y2,y3,hN,hcom,hY,hV,hk,l1,l2,hw,hM,hmc,hvc,hmv,d4⟩:=rstep_pre (q:=q) (junk:=junk) h s
 obtain ⟨s1,s2,s3,s4,s5,s6,s7,s8,s9,s10,s11,s12⟩:=s
 refine AC.body mixedU isU47 (Nat.le_of_ble_eq_true rfl) fun hfr=>?_
 show IW Tryz.prog 242 u47_1 ⟨argT _,_,_⟩ (rt [] _)
 have hn:=hN (cc+13) (by omega)
 rw [hst]
 clear s8 s9 hst
 have hw2:IntKind.i64.wrap ((q:Int)+1)=((q+1:Nat):Int):=by rw [w64 (by omega) (by omega)];omega
 have ne0:=nes4 m v cc (cc+11) (by omega)
 obtain ⟨a,rfl,ha⟩:∃ a:Nat,A=(a:Int)∧a<e.left.length:=by
  have h3:inM A 0 (c.timers-1)=true:=s3
  simp only [inM,Bool.and_eq_true,decide_eq_true_eq] at h3
  exact ⟨A.toNat,by omega,by omega⟩
 have hg:e.left[a]? = some (e.left.getD a 0):=by rw [List.getD,List.getElem?_eq_getElem ha];rfl
 repeat' ((with_reducible first|refine wr ?_|refine wb2 ?_ ?_<;>(intro hb;try simp only [hb])|fail)<;>try simp only [go_sem,seval,hM,hw,s2,h_upd2,hcom,hY,hV,ne0,hw2,hg,ha])
 refine AC.call ((c_rput (hN _ (by omega)) (by omega) _).beside hk _) ?_
 rintro r H' c9 ⟨H9,⟨rfl,i2,q1,q2,rfl⟩,hk9,rfl⟩ hc9
 simp only [go_sem,seval]
 repeat' ((with_reducible first|refine wr ?_|refine wb2 ?_ ?_<;>(intro hb;try simp only [hb])|fail)<;>try simp only [go_sem,seval])
 exact rstep_end ((hN _ (by omega)).newS q1 q2 rfl) hk9 rfl rfl
theorem c_rstep_9 (h:MN m v so eo x cc) (hq:q≤100000) {op:Int} (ho:op=9∨op=10) (A:Int) (s:StepOk c e x ⟨op,A⟩):AC Tryz.prog 47 [.ptr m 0] (RM c e x q m v so eo junk) cc (SteppedR c e (stepM c e x) (q+1) m v):=by
 rcases ho with rfl|rfl
 all_goals
  obtain ⟨y,hst,y1,y2,y3,hN,hcom,hY,hV,hk,l1,l2,hw,hM,hmc,hvc,hmv,d4⟩:=rstep_pre (q:=q) (junk:=junk) h s
  obtain ⟨s1,s2,s3,s4,s5,s6,s7,s8,s9,s10,s11,s12⟩:=s
  refine AC.body mixedU isU47 (Nat.le_of_ble_eq_true rfl) fun hfr=>?_
  show IW Tryz.prog 242 u47_1 ⟨argT _,_,_⟩ (rt [] _)
  have hn:=hN (cc+13) (by omega)
  rw [hst]
  clear s8 s9 hst
  have hw2:IntKind.i64.wrap ((q:Int)+1)=((q+1:Nat):Int):=by rw [w64 (by omega) (by omega)];omega
  have ne0:=nes4 m v cc (cc+11) (by omega)
  have s5':(1:Int)≤(x.stk.length:Int):=s5
  obtain ⟨n,S,hS⟩:∃ n S,y.stk=n :: S:=by
   rw [y1]
   cases hx:x.stk with
   | nil=>rw [hx] at s5';simp at s5'
   | cons n S=>exact ⟨n,S,rfl⟩
  have ht:y.top=n:=by rw [Mch.top,hS];rfl
  have lp:y.pop.stk.length≤1000:=by rw [Mch.pop,hS];rw [hS,List.length_cons] at l1;simp only [List.tail_cons];omega
  have hnp:∀ c',cc≤c'→MN m v so eo y.pop c':=fun c' hc=>h.keep hc (fun e=>by rw [hn.sn e] at hS;cases hS) hn.en
  have fA:∀ J d,RM c e y.pop (q+1) m v so eo J (cc+13+d)=none:=fun J d=>VR_n (hnp cc (by omega)) (by omega)
  have fB:∀ J,RM c e y.pop (q+1) m v so eo J (cc+13)=none:=fun J=>VR_n (hnp cc (by omega)) (by omega)
  have hY2:∀ J,RM c e y.pop (q+1) m v so eo J m=some (rmB c e y.pop (q+1) v so eo):=fun J=>RM_m (hnp cc (by omega))
  have hV2:∀ J,RM c e y.pop (q+1) m v so eo J v=some ⟨1,true,y.pop.vars.map I64⟩:=fun J=>VR_v (hnp cc (by omega))
  have pv:y.pop.vars=y.vars:=rfl
  have pe:y.pop.effs=y.effs:=rfl
  have pp:y.pop.pc=y.pc:=rfl
  have pd:y.pop.done=y.done:=rfl
  have nA:∀ d,¬ cc+13+d=cc+11:=fun d=>by omega
  have nB:¬ cc+13=cc+11:=by omega
  repeat' ((with_reducible first|refine wr ?_|refine wb2 ?_ ?_<;>(intro hb;try simp only [hb])|fail)<;>try simp only [go_sem,seval,hM,hw,s2,h_upd2,hcom,hY,hV,ne0,hw2])
  refine AC.call ((c_rtake (hN _ (by omega)) (by omega) n S hS).beside hk _) ?_
  rintro r H' c2 ⟨H2,⟨rfl,rfl⟩,hk2,rfl⟩ hc2
  simp only [go_sem,seval]
  repeat' ((with_reducible first|refine wr ?_|refine cpc (c_UnaryR _ _) ?_|refine wb2 ?_ ?_<;>(intro hb;try simp only [hb])|fail)<;>try simp only [go_sem,seval])
  refine AC.call ((c_rput (hnp _ (by omega)) (by omega) _).beside hk2 _) ?_
  rintro r H' c9 ⟨H9,⟨rfl,i2,q1,q2,rfl⟩,hk9,rfl⟩ hc9
  simp only [go_sem,seval]
  repeat' ((with_reducible first|refine wr ?_|refine wb2 ?_ ?_<;>(intro hb;try simp only [hb])|fail)<;>try simp only [go_sem,seval])
  exact rstep_end ((hnp _ (by omega)).newS q1 q2 rfl) hk9 (by rw [← ht];rfl) rfl
theorem c_rstep_11 (h:MN m v so eo x cc) (hq:q≤100000) (A:Int) (s:StepOk c e x ⟨11,A⟩):AC Tryz.prog 47 [.ptr m 0] (RM c e x q m v so eo junk) cc (SteppedR c e (stepM c e x) (q+1) m v):=by
 obtain ⟨y,hst,y1,y2,y3,hN,hcom,hY,hV,hk,l1,l2,hw,hM,hmc,hvc,hmv,d4⟩:=rstep_pre (q:=q) (junk:=junk) h s
 obtain ⟨s1,s2,s3,s4,s5,s6,s7,s8,s9,s10,s11,s12⟩:=s
 refine AC.body mixedU isU47 (Nat.le_of_ble_eq_true rfl) fun hfr=>?_
 show IW Tryz.prog 242 u47_1 ⟨argT _,_,_⟩ (rt [] _)
 have hn:=hN (cc+13) (by omega)
 rw [hst]
 clear s8 s9 hst
 have hw2:IntKind.i64.wrap ((q:Int)+1)=((q+1:Nat):Int):=by rw [w64 (by omega) (by omega)];omega
 have ne0:=nes4 m v cc (cc+11) (by omega)
 have s5':(2:Int)≤(x.stk.length:Int):=s5
 obtain ⟨n,n2,S,hS⟩:∃ n n2 S,y.stk=n :: n2 :: S:=by
  rw [y1]
  match hx:x.stk with
  | []=>rw [hx] at s5';simp at s5'
  | [_]=>rw [hx] at s5';simp at s5'
  | n :: n2 :: S=>exact ⟨n,n2,S,rfl⟩
 have ht:y.top=n:=by rw [Mch.top,hS];rfl
 have hS2:y.pop.stk=n2 :: S:=by rw [Mch.pop,hS];rfl
 have ht2:y.pop.top=n2:=by rw [Mch.top,hS2];rfl
 rw [hS,List.length_cons,List.length_cons] at l1
 have l1':y.stk.length≤100000:=by rw [hS,List.length_cons,List.length_cons];omega
 have lp:y.pop.stk.length≤1000:=by rw [hS2,List.length_cons];omega
 have lpp:y.pop.pop.stk.length≤1000:=by rw [Mch.pop,hS2];simp only [List.tail_cons];omega
 have hnp:∀ c',cc≤c'→MN m v so eo y.pop c':=fun c' hc=>h.keep hc (fun e=>by rw [hn.sn e] at hS;cases hS) hn.en
 have fA:∀ J d,RM c e y.pop (q+1) m v so eo J (cc+13+d)=none:=fun J d=>VR_n (hnp cc (by omega)) (by omega)
 have fB:∀ J,RM c e y.pop (q+1) m v so eo J (cc+13)=none:=fun J=>VR_n (hnp cc (by omega)) (by omega)
 have hY2:∀ J,RM c e y.pop (q+1) m v so eo J m=some (rmB c e y.pop (q+1) v so eo):=fun J=>RM_m (hnp cc (by omega))
 have hV2:∀ J,RM c e y.pop (q+1) m v so eo J v=some ⟨1,true,y.pop.vars.map I64⟩:=fun J=>VR_v (hnp cc (by omega))
 have pv:y.pop.vars=y.vars:=rfl
 have pe:y.pop.effs=y.effs:=rfl
 have pp:y.pop.pc=y.pc:=rfl
 have pd:y.pop.done=y.done:=rfl
 have nA:∀ d,¬ cc+13+d=cc+11:=fun d=>by omega
 have nB:¬ cc+13=cc+11:=by omega
 have hnpp:∀ c',cc≤c'→MN m v so eo y.pop.pop c':=fun c' hc=>h.keep hc (fun e=>by rw [hn.sn e] at hS;cases hS) hn.en
 repeat' ((with_reducible first|refine wr ?_|refine wb2 ?_ ?_<;>(intro hb;try simp only [hb])|fail)<;>try simp only [go_sem,seval,hM,hw,s2,h_upd2,hcom,hY,hV,ne0,hw2])
 refine AC.call ((c_rtake (hN _ (by omega)) (by exact l1') n (n2 :: S) hS).beside hk _) ?_
 rintro r H' c2 ⟨H2,⟨rfl,rfl⟩,hk2,rfl⟩ hc2
 simp only [go_sem,seval]
 repeat' ((with_reducible first|refine wr ?_|refine wb2 ?_ ?_<;>(intro hb;try simp only [hb])|fail)<;>try simp only [go_sem,seval])
 have fC:∀ J d,RM c e y.pop.pop (q+1) m v so eo J (c2+d)=none:=fun J d=>VR_n (hnpp cc (by omega)) (by omega)
 have fD:∀ J,RM c e y.pop.pop (q+1) m v so eo J c2=none:=fun J=>VR_n (hnpp cc (by omega)) (by omega)
 have nC:∀ d,¬ c2+d=cc+11:=fun d=>by omega
 have nD:¬ c2=cc+11:=by omega
 refine AC.call ((c_rtake (hnp _ (by omega)) (by omega) n2 S hS2).beside hk2 _) ?_
 rintro r H' c3 ⟨H3,⟨rfl,rfl⟩,hk3,rfl⟩ hc3
 simp only [go_sem,seval,fC,fD,nC,nD,ne0]
 repeat' ((with_reducible first|refine wr ?_|refine cpc (c_BinaryR _ _ _) ?_|refine wb2 ?_ ?_<;>(intro hb;try simp only [hb])|fail)<;>try simp only [go_sem,seval,fC,fD,nC,nD,ne0])
 refine AC.call ((c_rput (hnpp _ (by omega)) (by omega) _).beside hk3 _) ?_
 rintro r H' c9 ⟨H9,⟨rfl,i2,q1,q2,rfl⟩,hk9,rfl⟩ hc9
 simp only [go_sem,seval]
 repeat' ((with_reducible first|refine wr ?_|refine wb2 ?_ ?_<;>(intro hb;try simp only [hb])|fail)<;>try simp only [go_sem,seval])
 exact rstep_end ((hnpp _ (by omega)).newS q1 q2 rfl) hk9 (by rw [← ht, ← ht2];rfl) rfl
theorem c_rstep_15 (h:MN m v so eo x cc) (hq:q≤100000) {op:Int} (ho:op=15∨op=19∨op=21) (A:Int) (s:StepOk c e x ⟨op,A⟩):AC Tryz.prog 47 [.ptr m 0] (RM c e x q m v so eo junk) cc (SteppedR c e (stepM c e x) (q+1) m v):=by
 rcases ho with rfl|rfl|rfl
 all_goals
  obtain ⟨y,hst,y1,y2,y3,hN,hcom,hY,hV,hk,l1,l2,hw,hM,hmc,hvc,hmv,d4⟩:=rstep_pre (q:=q) (junk:=junk) h s
  obtain ⟨s1,s2,s3,s4,s5,s6,s7,s8,s9,s10,s11,s12⟩:=s
  refine AC.body mixedU isU47 (Nat.le_of_ble_eq_true rfl) fun hfr=>?_
  show IW Tryz.prog 242 u47_1 ⟨argT _,_,_⟩ (rt [] _)
  have hn:=hN (cc+13) (by omega)
  rw [hst]
  clear s8 s9 hst
  have hw2:IntKind.i64.wrap ((q:Int)+1)=((q+1:Nat):Int):=by rw [w64 (by omega) (by omega)];omega
  have ne0:=nes4 m v cc (cc+11) (by omega)
  have s5':(1:Int)≤(x.stk.length:Int):=s5
  obtain ⟨n,S,hS⟩:∃ n S,y.stk=n :: S:=by
   rw [y1]
   cases hx:x.stk with
   | nil=>rw [hx] at s5';simp at s5'
   | cons n S=>exact ⟨n,S,rfl⟩
  have ht:y.top=n:=by rw [Mch.top,hS];rfl
  have lp:y.pop.stk.length≤1000:=by rw [Mch.pop,hS];rw [hS,List.length_cons] at l1;simp only [List.tail_cons];omega
  have hnp:∀ c',cc≤c'→MN m v so eo y.pop c':=fun c' hc=>h.keep hc (fun e=>by rw [hn.sn e] at hS;cases hS) hn.en
  have fA:∀ J d,RM c e y.pop (q+1) m v so eo J (cc+13+d)=none:=fun J d=>VR_n (hnp cc (by omega)) (by omega)
  have fB:∀ J,RM c e y.pop (q+1) m v so eo J (cc+13)=none:=fun J=>VR_n (hnp cc (by omega)) (by omega)
  have hY2:∀ J,RM c e y.pop (q+1) m v so eo J m=some (rmB c e y.pop (q+1) v so eo):=fun J=>RM_m (hnp cc (by omega))
  have hV2:∀ J,RM c e y.pop (q+1) m v so eo J v=some ⟨1,true,y.pop.vars.map I64⟩:=fun J=>VR_v (hnp cc (by omega))
  have pv:y.pop.vars=y.vars:=rfl
  have pe:y.pop.effs=y.effs:=rfl
  have pp:y.pop.pc=y.pc:=rfl
  have pd:y.pop.done=y.done:=rfl
  have nA:∀ d,¬ cc+13+d=cc+11:=fun d=>by omega
  have nB:¬ cc+13=cc+11:=by omega
  repeat' ((with_reducible first|refine wr ?_|refine wb2 ?_ ?_<;>(intro hb;try simp only [hb])|fail)<;>try simp only [go_sem,seval,hM,hw,s2,h_upd2,hcom,hY,hV,ne0,hw2])
  refine AC.call ((c_rtake (hN _ (by omega)) (by omega) n S hS).beside hk _) ?_
  rintro r H' c2 ⟨H2,⟨rfl,rfl⟩,hk2,rfl⟩ hc2
  simp only [go_sem,seval,fA,fB,nA,nB,ne0]
  repeat' ((with_reducible first|refine wr ?_|refine wb2 ?_ ?_<;>(intro hb;try simp only [hb])|fail)<;>try simp only [go_sem,seval,fA,fB,nA,nB,ne0])
  refine AC.call ((c_reff (hnp _ (by omega)) (by show y.effs.length≤_;omega) ⟨_,A,n,0,[]⟩).beside hk2 _) ?_
  rintro r H' c9 ⟨H9,⟨rfl,i2,q1,q2,rfl⟩,hk9,rfl⟩ hc9
  simp only [go_sem,seval]
  repeat' ((with_reducible first|refine wr ?_|refine wb2 ?_ ?_<;>(intro hb;try simp only [hb])|fail)<;>try simp only [go_sem,seval])
  exact rstep_end ((hnp _ (by omega)).newE q1 q2 rfl) hk9 (by rw [← ht];rfl) rfl
theorem c_rstep_20 (h:MN m v so eo x cc) (hq:q≤100000) (A:Int) (s:StepOk c e x ⟨20,A⟩):AC Tryz.prog 47 [.ptr m 0] (RM c e x q m v so eo junk) cc (SteppedR c e (stepM c e x) (q+1) m v):=by
 obtain ⟨y,hst,y1,y2,y3,hN,hcom,hY,hV,hk,l1,l2,hw,hM,hmc,hvc,hmv,d4⟩:=rstep_pre (q:=q) (junk:=junk) h s
 obtain ⟨s1,s2,s3,s4,s5,s6,s7,s8,s9,s10,s11,s12⟩:=s
 refine AC.body mixedU isU47 (Nat.le_of_ble_eq_true rfl) fun hfr=>?_
 show IW Tryz.prog 242 u47_1 ⟨argT _,_,_⟩ (rt [] _)
 have hn:=hN (cc+13) (by omega)
 rw [hst]
 clear s8 s9 hst
 have hw2:IntKind.i64.wrap ((q:Int)+1)=((q+1:Nat):Int):=by rw [w64 (by omega) (by omega)];omega
 have ne0:=nes4 m v cc (cc+11) (by omega)
 have s5':(2:Int)≤(x.stk.length:Int):=s5
 obtain ⟨n,n2,S,hS⟩:∃ n n2 S,y.stk=n :: n2 :: S:=by
  rw [y1]
  match hx:x.stk with
  | []=>rw [hx] at s5';simp at s5'
  | [_]=>rw [hx] at s5';simp at s5'
  | n :: n2 :: S=>exact ⟨n,n2,S,rfl⟩
 have ht:y.top=n:=by rw [Mch.top,hS];rfl
 have hS2:y.pop.stk=n2 :: S:=by rw [Mch.pop,hS];rfl
 have ht2:y.pop.top=n2:=by rw [Mch.top,hS2];rfl
 rw [hS,List.length_cons,List.length_cons] at l1
 have l1':y.stk.length≤100000:=by rw [hS,List.length_cons,List.length_cons];omega
 have lp:y.pop.stk.length≤1000:=by rw [hS2,List.length_cons];omega
 have lpp:y.pop.pop.stk.length≤1000:=by rw [Mch.pop,hS2];simp only [List.tail_cons];omega
 have hnp:∀ c',cc≤c'→MN m v so eo y.pop c':=fun c' hc=>h.keep hc (fun e=>by rw [hn.sn e] at hS;cases hS) hn.en
 have fA:∀ J d,RM c e y.pop (q+1) m v so eo J (cc+13+d)=none:=fun J d=>VR_n (hnp cc (by omega)) (by omega)
 have fB:∀ J,RM c e y.pop (q+1) m v so eo J (cc+13)=none:=fun J=>VR_n (hnp cc (by omega)) (by omega)
 have hY2:∀ J,RM c e y.pop (q+1) m v so eo J m=some (rmB c e y.pop (q+1) v so eo):=fun J=>RM_m (hnp cc (by omega))
 have hV2:∀ J,RM c e y.pop (q+1) m v so eo J v=some ⟨1,true,y.pop.vars.map I64⟩:=fun J=>VR_v (hnp cc (by omega))
 have pv:y.pop.vars=y.vars:=rfl
 have pe:y.pop.effs=y.effs:=rfl
 have pp:y.pop.pc=y.pc:=rfl
 have pd:y.pop.done=y.done:=rfl
 have nA:∀ d,¬ cc+13+d=cc+11:=fun d=>by omega
 have nB:¬ cc+13=cc+11:=by omega
 have hnpp:∀ c',cc≤c'→MN m v so eo y.pop.pop c':=fun c' hc=>h.keep hc (fun e=>by rw [hn.sn e] at hS;cases hS) hn.en
 repeat' ((with_reducible first|refine wr ?_|refine wb2 ?_ ?_<;>(intro hb;try simp only [hb])|fail)<;>try simp only [go_sem,seval,hM,hw,s2,h_upd2,hcom,hY,hV,ne0,hw2])
 refine AC.call ((c_rtake (hN _ (by omega)) (by exact l1') n (n2 :: S) hS).beside hk _) ?_
 rintro r H' c2 ⟨H2,⟨rfl,rfl⟩,hk2,rfl⟩ hc2
 simp only [go_sem,seval]
 repeat' ((with_reducible first|refine wr ?_|refine wb2 ?_ ?_<;>(intro hb;try simp only [hb])|fail)<;>try simp only [go_sem,seval])
 have fC:∀ J d,RM c e y.pop.pop (q+1) m v so eo J (c2+d)=none:=fun J d=>VR_n (hnpp cc (by omega)) (by omega)
 have fD:∀ J,RM c e y.pop.pop (q+1) m v so eo J c2=none:=fun J=>VR_n (hnpp cc (by omega)) (by omega)
 have nC:∀ d,¬ c2+d=cc+11:=fun d=>by omega
 have nD:¬ c2=cc+11:=by omega
 refine AC.call ((c_rtake (hnp _ (by omega)) (by omega) n2 S hS2).beside hk2 _) ?_
 rintro r H' c3 ⟨H3,⟨rfl,rfl⟩,hk3,rfl⟩ hc3
 simp only [go_sem,seval,fC,fD,nC,nD,ne0]
 repeat' ((with_reducible first|refine wr ?_|refine wb2 ?_ ?_<;>(intro hb;try simp only [hb])|fail)<;>try simp only [go_sem,seval,fC,fD,nC,nD,ne0])
 refine AC.call ((c_reff (hnpp _ (by omega)) (by show y.effs.length≤_;omega) ⟨_,A,n2,n,[]⟩).beside hk3 _) ?_
 rintro r H' c9 ⟨H9,⟨rfl,i2,q1,q2,rfl⟩,hk9,rfl⟩ hc9
 simp only [go_sem,seval]
 repeat' ((with_reducible first|refine wr ?_|refine wb2 ?_ ?_<;>(intro hb;try simp only [hb])|fail)<;>try simp only [go_sem,seval])
 exact rstep_end ((hnpp _ (by omega)).newE q1 q2 rfl) hk9 (by rw [← ht, ← ht2];rfl) rfl
theorem c_rstep_16 (h:MN m v so eo x cc) (hq:q≤100000) {op:Int} (ho:op=16∨op=17∨op=18∨op=22∨op=23∨op=24∨op=25∨op=26∨op=27∨op=28∨op=30) (A:Int) (s:StepOk c e x ⟨op,A⟩):AC Tryz.prog 47 [.ptr m 0] (RM c e x q m v so eo junk) cc (SteppedR c e (stepM c e x) (q+1) m v):=by
 rcases ho with rfl|rfl|rfl|rfl|rfl|rfl|rfl|rfl|rfl|rfl|rfl
 all_goals
  obtain ⟨y,hst,y1,y2,y3,hN,hcom,hY,hV,hk,l1,l2,hw,hM,hmc,hvc,hmv,d4⟩:=rstep_pre (q:=q) (junk:=junk) h s
  obtain ⟨s1,s2,s3,s4,s5,s6,s7,s8,s9,s10,s11,s12⟩:=s
  refine AC.body mixedU isU47 (Nat.le_of_ble_eq_true rfl) fun hfr=>?_
  show IW Tryz.prog 242 u47_1 ⟨argT _,_,_⟩ (rt [] _)
  have hn:=hN (cc+13) (by omega)
  rw [hst]
  clear s8 s9 hst
  have hw2:IntKind.i64.wrap ((q:Int)+1)=((q+1:Nat):Int):=by rw [w64 (by omega) (by omega)];omega
  have ne0:=nes4 m v cc (cc+11) (by omega)
  repeat' ((with_reducible first|refine wr ?_|refine wb2 ?_ ?_<;>(intro hb;try simp only [hb])|fail)<;>try simp only [go_sem,seval,hM,hw,s2,h_upd2,hcom,hY,hV,ne0,hw2])
  refine AC.call ((c_reff (hN _ (by omega)) (by omega) ⟨_,A,0,0,[]⟩).beside hk _) ?_
  rintro r H' c9 ⟨H9,⟨rfl,i2,q1,q2,rfl⟩,hk9,rfl⟩ hc9
  simp only [go_sem,seval]
  repeat' ((with_reducible first|refine wr ?_|refine wb2 ?_ ?_<;>(intro hb;try simp only [hb])|fail)<;>try simp only [go_sem,seval])
  exact rstep_end ((hN _ (by omega)).newE q1 q2 rfl) hk9 rfl rfl
theorem c_rstep_4 (h:MN m v so eo x cc) (hq:q≤100000) (A:Int) (s:StepOk c e x ⟨4,A⟩):AC Tryz.prog 47 [.ptr m 0] (RM c e x q m v so eo junk) cc (SteppedR c e (stepM c e x) (q+1) m v):=by
 obtain ⟨y,hst,y1,y2,y3,hN,hcom,hY,hV,hk,l1,l2,hw,hM,hmc,hvc,hmv,d4⟩:=rstep_pre (q:=q) (junk:=junk) h s
 obtain ⟨s1,s2,s3,s4,s5,s6,s7,s8,s9,s10,s11,s12⟩:=s
 refine AC.body mixedU isU47 (Nat.le_of_ble_eq_true rfl) fun hfr=>?_
 show IW Tryz.prog 242 u47_1 ⟨argT _,_,_⟩ (rt [] _)
 have hn:=hN (cc+13) (by omega)
 rw [hst]
 clear s8 s9 hst
 have hw2:IntKind.i64.wrap ((q:Int)+1)=((q+1:Nat):Int):=by rw [w64 (by omega) (by omega)];omega
 have ne0:=nes4 m v cc (cc+11) (by omega)
 obtain ⟨a,rfl,ha⟩:∃ a:Nat,A=(a:Int)∧a≤63:=by
  have h3:inM A 0 63=true:=s3
  simp only [inM,Bool.and_eq_true,decide_eq_true_eq] at h3
  exact ⟨A.toNat,by omega,by omega⟩
 have f1:binR .shr (.int .u64 (e.closed:Int)) (.int .u64 (a:Int))=some (.int .u64 ((e.closed / 2 ^ a:Nat):Int)):=shr_nat (by simp only [IntKind.bits];omega)
 have f0:e.closed / 2 ^ a≤e.closed:=Nat.div_le_self _ _
 have f2:=and1_64 (q:=e.closed / 2 ^ a) (by omega)
 have f3:=w64 (n:=((e.closed / 2 ^ a % 2:Nat):Int)) (by omega) (by omega)
 have f5:=wu64 (n:=(a:Int)) (by omega) (by omega)
 repeat' ((with_reducible first|refine wr ?_|refine wb2 ?_ ?_<;>(intro hb;try simp only [hb])|fail)<;>try simp only [go_sem,seval,hM,hw,s2,h_upd2,hcom,hY,hV,ne0,hw2,f1,f2,f3,f5])
 refine AC.call ((c_rput (hN _ (by omega)) (by omega) _).beside hk _) ?_
 rintro r H' c9 ⟨H9,⟨rfl,i2,q1,q2,rfl⟩,hk9,rfl⟩ hc9
 simp only [go_sem,seval]
 repeat' ((with_reducible first|refine wr ?_|refine wb2 ?_ ?_<;>(intro hb;try simp only [hb])|fail)<;>try simp only [go_sem,seval])
 exact rstep_end ((hN _ (by omega)).newS q1 q2 rfl) hk9 rfl rfl
theorem c_rstep_5 (h:MN m v so eo x cc) (hq:q≤100000) (A:Int) (s:StepOk c e x ⟨5,A⟩):AC Tryz.prog 47 [.ptr m 0] (RM c e x q m v so eo junk) cc (SteppedR c e (stepM c e x) (q+1) m v):=by
 obtain ⟨y,hst,y1,y2,y3,hN,hcom,hY,hV,hk,l1,l2,hw,hM,hmc,hvc,hmv,d4⟩:=rstep_pre (q:=q) (junk:=junk) h s
 obtain ⟨s1,s2,s3,s4,s5,s6,s7,s8,s9,s10,s11,s12⟩:=s
 refine AC.body mixedU isU47 (Nat.le_of_ble_eq_true rfl) fun hfr=>?_
 show IW Tryz.prog 242 u47_1 ⟨argT _,_,_⟩ (rt [] _)
 have hn:=hN (cc+13) (by omega)
 rw [hst]
 clear s8 s9 hst
 have hw2:IntKind.i64.wrap ((q:Int)+1)=((q+1:Nat):Int):=by rw [w64 (by omega) (by omega)];omega
 have ne0:=nes4 m v cc (cc+11) (by omega)
 obtain ⟨a,rfl,ha⟩:∃ a:Nat,A=(a:Int)∧a≤16:=by
  have h3:inM A 0 ((c.prios.length:Int)-1)=true:=s3
  simp only [inM,Bool.and_eq_true,decide_eq_true_eq] at h3
  exact ⟨A.toNat,by omega,by omega⟩
 have f1:binR .shr (.int .u32 (e.active:Int)) (.int .u64 (a:Int))=some (.int .u32 ((e.active / 2 ^ a:Nat):Int)):=shr_nat (by simp only [IntKind.bits];omega)
 have f0:e.active / 2 ^ a≤e.active:=Nat.div_le_self _ _
 have f2:=and1_32 (q:=e.active / 2 ^ a) (by omega)
 have f3:=w64 (n:=((e.active / 2 ^ a % 2:Nat):Int)) (by omega) (by omega)
 have f5:=wu64 (n:=(a:Int)) (by omega) (by omega)
 repeat' ((with_reducible first|refine wr ?_|refine wb2 ?_ ?_<;>(intro hb;try simp only [hb])|fail)<;>try simp only [go_sem,seval,hM,hw,s2,h_upd2,hcom,hY,hV,ne0,hw2,f1,f2,f3,f5])
 refine AC.call ((c_rput (hN _ (by omega)) (by omega) _).beside hk _) ?_
 rintro r H' c9 ⟨H9,⟨rfl,i2,q1,q2,rfl⟩,hk9,rfl⟩ hc9
 simp only [go_sem,seval]
 repeat' ((with_reducible first|refine wr ?_|refine wb2 ?_ ?_<;>(intro hb;try simp only [hb])|fail)<;>try simp only [go_sem,seval])
 exact rstep_end ((hN _ (by omega)).newS q1 q2 rfl) hk9 rfl rfl
theorem c_rstep_12 (h:MN m v so eo x cc) (hq:q≤100000) (A:Int) (s:StepOk c e x ⟨12,A⟩):AC Tryz.prog 47 [.ptr m 0] (RM c e x q m v so eo junk) cc (SteppedR c e (stepM c e x) (q+1) m v):=by
 obtain ⟨y,hst,y1,y2,y3,hN,hcom,hY,hV,hk,l1,l2,hw,hM,hmc,hvc,hmv,d4⟩:=rstep_pre (q:=q) (junk:=junk) h s
 obtain ⟨s1,s2,s3,s4,s5,s6,s7,s8,s9,s10,s11,s12⟩:=s
 refine AC.body mixedU isU47 (Nat.le_of_ble_eq_true rfl) fun hfr=>?_
 show IW Tryz.prog 242 u47_1 ⟨argT _,_,_⟩ (rt [] _)
 have hn:=hN (cc+13) (by omega)
 rw [hst]
 clear s8 s9 hst
 have hw2:IntKind.i64.wrap ((q:Int)+1)=((q+1:Nat):Int):=by rw [w64 (by omega) (by omega)];omega
 have ne0:=nes4 m v cc (cc+11) (by omega)
 obtain ⟨a,rfl⟩:∃ a:Nat,A=(a:Int):=⟨A.toNat,by have h4:0≤A:=(s4 (by simp)).1;omega⟩
 have hj:∀ B:Blk,((RM c e y (q+1) m v so eo junk).upd (cc+11) B).upd m ⟨0,true,rcC c e v y.vars.length (a:Int) ((q+1:Nat):Int) y.done (todoV so y.stk.length) (todoV eo y.effs.length)⟩=(RM c e { y with pc:=a } (q+1) m v so eo junk).upd (cc+11) B:=fun B=>VR_com (hN _ (Nat.le_refl _)) (by omega) B _
 repeat' ((with_reducible first|refine wr ?_|refine wb2 ?_ ?_<;>(intro hb;try simp only [hb])|fail)<;>try simp only [go_sem,seval,hM,hw,s2,h_upd2,hcom,hY,hV,ne0,hw2,hj])
 exact rstep_end ((hN _ (by omega)).keep (x':={ y with pc:=a }) (Nat.le_refl _) hn.sn hn.en) (VR_n (cc:=cc) ((hN _ (Nat.le_refl _)).keep (Nat.le_refl _) hn.sn hn.en) (by omega)) rfl rfl
theorem c_rstep_31 (h:MN m v so eo x cc) (hq:q≤100000) (A:Int) (s:StepOk c e x ⟨31,A⟩):AC Tryz.prog 47 [.ptr m 0] (RM c e x q m v so eo junk) cc (SteppedR c e (stepM c e x) (q+1) m v):=by
 obtain ⟨y,hst,y1,y2,y3,hN,hcom,hY,hV,hk,l1,l2,hw,hM,hmc,hvc,hmv,d4⟩:=rstep_pre (q:=q) (junk:=junk) h s
 obtain ⟨s1,s2,s3,s4,s5,s6,s7,s8,s9,s10,s11,s12⟩:=s
 refine AC.body mixedU isU47 (Nat.le_of_ble_eq_true rfl) fun hfr=>?_
 show IW Tryz.prog 242 u47_1 ⟨argT _,_,_⟩ (rt [] _)
 have hn:=hN (cc+13) (by omega)
 rw [hst]
 clear s8 s9 hst
 have hw2:IntKind.i64.wrap ((q:Int)+1)=((q+1:Nat):Int):=by rw [w64 (by omega) (by omega)];omega
 have ne0:=nes4 m v cc (cc+11) (by omega)
 have hj:∀ B:Blk,((RM c e y (q+1) m v so eo junk).upd (cc+11) B).upd m ⟨0,true,rcC c e v y.vars.length (y.pc:Int) ((q+1:Nat):Int) true (todoV so y.stk.length) (todoV eo y.effs.length)⟩=(RM c e { y with done:=true } (q+1) m v so eo junk).upd (cc+11) B:=fun B=>VR_com (hN _ (Nat.le_refl _)) (by omega) B _
 repeat' ((with_reducible first|refine wr ?_|refine wb2 ?_ ?_<;>(intro hb;try simp only [hb])|fail)<;>try simp only [go_sem,seval,hM,hw,s2,h_upd2,hcom,hY,hV,ne0,hw2,hj])
 exact rstep_end ((hN _ (by omega)).keep (x':={ y with done:=true }) (Nat.le_refl _) hn.sn hn.en) (VR_n (cc:=cc) ((hN _ (Nat.le_refl _)).keep (Nat.le_refl _) hn.sn hn.en) (by omega)) rfl rfl
theorem c_rstep_13 (h:MN m v so eo x cc) (hq:q≤100000) (A:Int) (s:StepOk c e x ⟨13,A⟩):AC Tryz.prog 47 [.ptr m 0] (RM c e x q m v so eo junk) cc (SteppedR c e (stepM c e x) (q+1) m v):=by
 obtain ⟨y,hst,y1,y2,y3,hN,hcom,hY,hV,hk,l1,l2,hw,hM,hmc,hvc,hmv,d4⟩:=rstep_pre (q:=q) (junk:=junk) h s
 obtain ⟨s1,s2,s3,s4,s5,s6,s7,s8,s9,s10,s11,s12⟩:=s
 refine AC.body mixedU isU47 (Nat.le_of_ble_eq_true rfl) fun hfr=>?_
 show IW Tryz.prog 242 u47_1 ⟨argT _,_,_⟩ (rt [] _)
 have hn:=hN (cc+13) (by omega)
 rw [hst]
 clear s8 s9 hst
 have hw2:IntKind.i64.wrap ((q:Int)+1)=((q+1:Nat):Int):=by rw [w64 (by omega) (by omega)];omega
 have ne0:=nes4 m v cc (cc+11) (by omega)
 obtain ⟨a,rfl⟩:∃ a:Nat,A=(a:Int):=⟨A.toNat,by have h4:0≤A:=(s4 (by simp)).1;omega⟩
 have s5':(1:Int)≤(x.stk.length:Int):=s5
 obtain ⟨n,S,hS⟩:∃ n S,y.stk=n :: S:=by
  rw [y1]
  cases hx:x.stk with
  | nil=>rw [hx] at s5';simp at s5'
  | cons n S=>exact ⟨n,S,rfl⟩
 have ht:y.top=n:=by rw [Mch.top,hS];rfl
 have lp:y.pop.stk.length≤1000:=by rw [Mch.pop,hS];rw [hS,List.length_cons] at l1;simp only [List.tail_cons];omega
 have hnp:∀ c',cc≤c'→MN m v so eo y.pop c':=fun c' hc=>h.keep hc (fun e=>by rw [hn.sn e] at hS;cases hS) hn.en
 have fA:∀ J d,RM c e y.pop (q+1) m v so eo J (cc+13+d)=none:=fun J d=>VR_n (hnp cc (by omega)) (by omega)
 have fB:∀ J,RM c e y.pop (q+1) m v so eo J (cc+13)=none:=fun J=>VR_n (hnp cc (by omega)) (by omega)
 have hY2:∀ J,RM c e y.pop (q+1) m v so eo J m=some (rmB c e y.pop (q+1) v so eo):=fun J=>RM_m (hnp cc (by omega))
 have hV2:∀ J,RM c e y.pop (q+1) m v so eo J v=some ⟨1,true,y.pop.vars.map I64⟩:=fun J=>VR_v (hnp cc (by omega))
 have pv:y.pop.vars=y.vars:=rfl
 have pe:y.pop.effs=y.effs:=rfl
 have pp:y.pop.pc=y.pc:=rfl
 have pd:y.pop.done=y.done:=rfl
 have nA:∀ d,¬ cc+13+d=cc+11:=fun d=>by omega
 have nB:¬ cc+13=cc+11:=by omega
 have hps:so=none→y.pop.stk=[]:=fun e=>by rw [hn.sn e] at hS;cases hS
 have hj:∀ B:Blk,((RM c e y.pop (q+1) m v so eo (I64 n :: junk)).upd (cc+11) B).upd m ⟨0,true,rcC c e v y.vars.length (a:Int) ((q+1:Nat):Int) y.done (todoV so y.pop.stk.length) (todoV eo y.effs.length)⟩=(RM c e { y.pop with pc:=a } (q+1) m v so eo (I64 n :: junk)).upd (cc+11) B:=fun B=>VR_com (hnp _ (Nat.le_refl _)) (by omega) B _
 by_cases h0:n=0
 ·have hz:(n == 0)=true:=by simp [h0]
  repeat' ((with_reducible first|refine wr ?_|refine wb2 ?_ ?_<;>(intro hb;try simp only [hb])|fail)<;>try simp only [go_sem,seval,hM,hw,s2,h_upd2,hcom,hY,hV,ne0,hw2])
  refine AC.call ((c_rtake (hN _ (by omega)) (by omega) n S hS).beside hk _) ?_
  rintro r H' c2 ⟨H2,⟨rfl,rfl⟩,hk2,rfl⟩ hc2
  simp only [go_sem,seval,hz,hY2,pv,pe,pp,pd,hj,ne0]
  repeat' ((with_reducible first|refine wr ?_|refine wb2 ?_ ?_<;>(intro hb;try simp only [hb])|fail)<;>try simp only [go_sem,seval,hz,hY2,pv,pe,pp,pd,hj,ne0])
  exact rstep_end ((hnp _ (by omega)).keep (x':={ y.pop with pc:=a }) (Nat.le_refl _) hps hn.en) (VR_n (cc:=cc) ((hnp _ (Nat.le_refl _)).keep (Nat.le_refl _) hps hn.en) (by omega)) (by simp [opM,ht,h0];exact ⟨rfl,rfl,rfl⟩) rfl
 ·have hz:(n == 0)=false:=by simp [h0]
  repeat' ((with_reducible first|refine wr ?_|refine wb2 ?_ ?_<;>(intro hb;try simp only [hb])|fail)<;>try simp only [go_sem,seval,hM,hw,s2,h_upd2,hcom,hY,hV,ne0,hw2])
  refine AC.call ((c_rtake (hN _ (by omega)) (by omega) n S hS).beside hk _) ?_
  rintro r H' c2 ⟨H2,⟨rfl,rfl⟩,hk2,rfl⟩ hc2
  simp only [go_sem,seval,hz,hY2,pv,pe,pp,pd,ne0]
  repeat' ((with_reducible first|refine wr ?_|refine wb2 ?_ ?_<;>(intro hb;try simp only [hb])|fail)<;>try simp only [go_sem,seval,hz,hY2,pv,pe,pp,pd,ne0])
  exact rstep_end (hnp _ (by omega)) hk2 (by simp [opM,ht,h0]) rfl
theorem c_rstep_14 (h:MN m v so eo x cc) (hq:q≤100000) (A:Int) (s:StepOk c e x ⟨14,A⟩):AC Tryz.prog 47 [.ptr m 0] (RM c e x q m v so eo junk) cc (SteppedR c e (stepM c e x) (q+1) m v):=by
 obtain ⟨y,hst,y1,y2,y3,hN,hcom,hY,hV,hk,l1,l2,hw,hM,hmc,hvc,hmv,d4⟩:=rstep_pre (q:=q) (junk:=junk) h s
 obtain ⟨s1,s2,s3,s4,s5,s6,s7,s8,s9,s10,s11,s12⟩:=s
 refine AC.body mixedU isU47 (Nat.le_of_ble_eq_true rfl) fun hfr=>?_
 show IW Tryz.prog 242 u47_1 ⟨argT _,_,_⟩ (rt [] _)
 have hn:=hN (cc+13) (by omega)
 rw [hst]
 clear s8 s9 hst
 have hw2:IntKind.i64.wrap ((q:Int)+1)=((q+1:Nat):Int):=by rw [w64 (by omega) (by omega)];omega
 have ne0:=nes4 m v cc (cc+11) (by omega)
 obtain ⟨a,rfl⟩:∃ a:Nat,A=(a:Int):=⟨A.toNat,by have h4:0≤A:=(s4 (by simp)).1;omega⟩
 have s5':(1:Int)≤(x.stk.length:Int):=s5
 obtain ⟨n,S,hS⟩:∃ n S,y.stk=n :: S:=by
  rw [y1]
  cases hx:x.stk with
  | nil=>rw [hx] at s5';simp at s5'
  | cons n S=>exact ⟨n,S,rfl⟩
 have ht:y.top=n:=by rw [Mch.top,hS];rfl
 have lp:y.pop.stk.length≤1000:=by rw [Mch.pop,hS];rw [hS,List.length_cons] at l1;simp only [List.tail_cons];omega
 have hnp:∀ c',cc≤c'→MN m v so eo y.pop c':=fun c' hc=>h.keep hc (fun e=>by rw [hn.sn e] at hS;cases hS) hn.en
 have fA:∀ J d,RM c e y.pop (q+1) m v so eo J (cc+13+d)=none:=fun J d=>VR_n (hnp cc (by omega)) (by omega)
 have fB:∀ J,RM c e y.pop (q+1) m v so eo J (cc+13)=none:=fun J=>VR_n (hnp cc (by omega)) (by omega)
 have hY2:∀ J,RM c e y.pop (q+1) m v so eo J m=some (rmB c e y.pop (q+1) v so eo):=fun J=>RM_m (hnp cc (by omega))
 have hV2:∀ J,RM c e y.pop (q+1) m v so eo J v=some ⟨1,true,y.pop.vars.map I64⟩:=fun J=>VR_v (hnp cc (by omega))
 have pv:y.pop.vars=y.vars:=rfl
 have pe:y.pop.effs=y.effs:=rfl
 have pp:y.pop.pc=y.pc:=rfl
 have pd:y.pop.done=y.done:=rfl
 have nA:∀ d,¬ cc+13+d=cc+11:=fun d=>by omega
 have nB:¬ cc+13=cc+11:=by omega
 have hps:so=none→y.pop.stk=[]:=fun e=>by rw [hn.sn e] at hS;cases hS
 have hj:∀ B:Blk,((RM c e y.pop (q+1) m v so eo (I64 n :: junk)).upd (cc+11) B).upd m ⟨0,true,rcC c e v y.vars.length (a:Int) ((q+1:Nat):Int) y.done (todoV so y.pop.stk.length) (todoV eo y.effs.length)⟩=(RM c e { y.pop with pc:=a } (q+1) m v so eo (I64 n :: junk)).upd (cc+11) B:=fun B=>VR_com (hnp _ (Nat.le_refl _)) (by omega) B _
 by_cases h0:n≤0
 ·have hz:decide (n≤0)=true:=by simp [h0]
  repeat' ((with_reducible first|refine wr ?_|refine wb2 ?_ ?_<;>(intro hb;try simp only [hb])|fail)<;>try simp only [go_sem,seval,hM,hw,s2,h_upd2,hcom,hY,hV,ne0,hw2])
  refine AC.call ((c_rtake (hN _ (by omega)) (by omega) n S hS).beside hk _) ?_
  rintro r H' c2 ⟨H2,⟨rfl,rfl⟩,hk2,rfl⟩ hc2
  simp only [go_sem,seval,hz,hY2,pv,pe,pp,pd,hj,ne0]
  repeat' ((with_reducible first|refine wr ?_|refine wb2 ?_ ?_<;>(intro hb;try simp only [hb])|fail)<;>try simp only [go_sem,seval,hz,hY2,pv,pe,pp,pd,hj,ne0])
  exact rstep_end ((hnp _ (by omega)).keep (x':={ y.pop with pc:=a }) (Nat.le_refl _) hps hn.en) (VR_n (cc:=cc) ((hnp _ (Nat.le_refl _)).keep (Nat.le_refl _) hps hn.en) (by omega)) (by simp [opM,ht,h0];exact ⟨rfl,rfl,rfl⟩) rfl
 ·have hz:decide (n≤0)=false:=by simp [h0]
  have hb:=s10 n (by rw [← y1,hS];exact List.mem_cons_self)
  have w2:=w64 (n:=n-1) (by omega) (by omega)
  repeat' ((with_reducible first|refine wr ?_|refine wb2 ?_ ?_<;>(intro hb;try simp only [hb])|fail)<;>try simp only [go_sem,seval,hM,hw,s2,h_upd2,hcom,hY,hV,ne0,hw2])
  refine AC.call ((c_rtake (hN _ (by omega)) (by omega) n S hS).beside hk _) ?_
  rintro r H' c2 ⟨H2,⟨rfl,rfl⟩,hk2,rfl⟩ hc2
  simp only [go_sem,seval,hz,w2]
  repeat' ((with_reducible first|refine wr ?_|refine wb2 ?_ ?_<;>(intro hb;try simp only [hb])|fail)<;>try simp only [go_sem,seval,hz,w2])
  refine AC.call ((c_rput (hnp _ (by omega)) (by omega) _).beside hk2 _) ?_
  rintro r H' c9 ⟨H9,⟨rfl,i2,q1,q2,rfl⟩,hk9,rfl⟩ hc9
  simp only [go_sem,seval]
  repeat' ((with_reducible first|refine wr ?_|refine wb2 ?_ ?_<;>(intro hb;try simp only [hb])|fail)<;>try simp only [go_sem,seval])
  exact rstep_end ((hnp _ (by omega)).newS q1 q2 rfl) hk9 (by simp [opM,ht,h0]) rfl
theorem c_rstep_3 (h:MN m v so eo x cc) (hq:q≤100000) (A:Int) (s:StepOk c e x ⟨3,A⟩):AC Tryz.prog 47 [.ptr m 0] (RM c e x q m v so eo junk) cc (SteppedR c e (stepM c e x) (q+1) m v):=by
 obtain ⟨y,hst,y1,y2,y3,hN,hcom,hY,hV,hk,l1,l2,hw,hM,hmc,hvc,hmv,d4⟩:=rstep_pre (q:=q) (junk:=junk) h s
 obtain ⟨s1,s2,s3,s4,s5,s6,s7,s8,s9,s10,s11,s12⟩:=s
 refine AC.body mixedU isU47 (Nat.le_of_ble_eq_true rfl) fun hfr=>?_
 show IW Tryz.prog 242 u47_1 ⟨argT _,_,_⟩ (rt [] _)
 have hn:=hN (cc+13) (by omega)
 rw [hst]
 clear s8 s9 hst
 have hw2:IntKind.i64.wrap ((q:Int)+1)=((q+1:Nat):Int):=by rw [w64 (by omega) (by omega)];omega
 have ne0:=nes4 m v cc (cc+11) (by omega)
 obtain ⟨a,rfl,ha⟩:∃ a:Nat,A=(a:Int)∧a<y.vars.length:=by
  have h3:inM A 0 ((c.vars.length:Int)-1)=true:=s3
  simp only [inM,Bool.and_eq_true,decide_eq_true_eq] at h3
  exact ⟨A.toNat,by omega,by rw [y3,s7];omega⟩
 have s5':(1:Int)≤(x.stk.length:Int):=s5
 obtain ⟨n,S,hS⟩:∃ n S,y.stk=n :: S:=by
  rw [y1]
  cases hx:x.stk with
  | nil=>rw [hx] at s5';simp at s5'
  | cons n S=>exact ⟨n,S,rfl⟩
 have ht:y.top=n:=by rw [Mch.top,hS];rfl
 have lp:y.pop.stk.length≤1000:=by rw [Mch.pop,hS];rw [hS,List.length_cons] at l1;simp only [List.tail_cons];omega
 have hnp:∀ c',cc≤c'→MN m v so eo y.pop c':=fun c' hc=>h.keep hc (fun e=>by rw [hn.sn e] at hS;cases hS) hn.en
 have fA:∀ J d,RM c e y.pop (q+1) m v so eo J (cc+13+d)=none:=fun J d=>VR_n (hnp cc (by omega)) (by omega)
 have fB:∀ J,RM c e y.pop (q+1) m v so eo J (cc+13)=none:=fun J=>VR_n (hnp cc (by omega)) (by omega)
 have hY2:∀ J,RM c e y.pop (q+1) m v so eo J m=some (rmB c e y.pop (q+1) v so eo):=fun J=>RM_m (hnp cc (by omega))
 have hV2:∀ J,RM c e y.pop (q+1) m v so eo J v=some ⟨1,true,y.pop.vars.map I64⟩:=fun J=>VR_v (hnp cc (by omega))
 have pv:y.pop.vars=y.vars:=rfl
 have pe:y.pop.effs=y.effs:=rfl
 have pp:y.pop.pc=y.pc:=rfl
 have pd:y.pop.done=y.done:=rfl
 have nA:∀ d,¬ cc+13+d=cc+11:=fun d=>by omega
 have nB:¬ cc+13=cc+11:=by omega
 have hput:=put_map (f:=I64) (l:=y.vars) (n:=a) (a:=n) ha
 have hle:a+1≤y.vars.length:=ha
 repeat' ((with_reducible first|refine wr ?_|refine wb2 ?_ ?_<;>(intro hb;try simp only [hb])|fail)<;>try simp only [go_sem,seval,hM,hw,s2,h_upd2,hcom,hY,hV,ne0,hw2])
 refine AC.call ((c_rtake (hN _ (by omega)) (by omega) n S hS).beside hk _) ?_
 rintro r H' c2 ⟨H2,⟨rfl,rfl⟩,hk2,rfl⟩ hc2
 simp only [go_sem,seval,fA,fB,nA,nB,hY2,hV2,pv,pe,pp,pd,ha,hput,hle,ne0]
 repeat' ((with_reducible first|refine wr ?_|refine wb2 ?_ ?_<;>(intro hb;try simp only [hb])|fail)<;>try simp only [go_sem,seval,fA,fB,nA,nB,hY2,hV2,pv,pe,pp,pd,ha,hput,hle,ne0])
 have hps:so=none→y.pop.stk=[]:=fun e=>by rw [hn.sn e] at hS;cases hS
 refine rstep_end' (z:={ y.pop with vars:=y.vars.set a n }) (so:=so) (eo:=eo) (junk:=I64 n :: junk) ((hnp _ (by omega)).keep (Nat.le_refl _) hps hn.en) ?_ ?_ (fun i hi=>?_) (fun i hi=>?_) (by rw [← ht];rfl) rfl
 ·rw [h_ne (by omega),h_ne (by omega),hY2];simp [Mch.pop]
 ·rw [h_same]
 ·have:=h.sb i hi
  rw [h_ne (by omega),h_ne (by omega)];exact VR_s (hnp cc (Nat.le_refl _)) hi
 ·have:=h.eb i hi
  rw [h_ne (by omega),h_ne (by omega)];exact VR_e hi
theorem c_rstep_29 (h:MN m v so eo x cc) (hq:q≤100000) (A:Int) (s:StepOk c e x ⟨29,A⟩):AC Tryz.prog 47 [.ptr m 0] (RM c e x q m v so eo junk) cc (SteppedR c e (stepM c e x) (q+1) m v):=by
 obtain ⟨y,hst,y1,y2,y3,hN,hcom,hY,hV,hk,l1,l2,hw,hM,hmc,hvc,hmv,d4⟩:=rstep_pre (q:=q) (junk:=junk) h s
 obtain ⟨s1,s2,s3,s4,s5,s6,s7,s8,s9,s10,s11,s12⟩:=s
 refine AC.body mixedU isU47 (Nat.le_of_ble_eq_true rfl) fun hfr=>?_
 show IW Tryz.prog 242 u47_1 ⟨argT _,_,_⟩ (rt [] _)
 have hn:=hN (cc+13) (by omega)
 rw [hst]
 clear s8 s9 hst
 have hw2:IntKind.i64.wrap ((q:Int)+1)=((q+1:Nat):Int):=by rw [w64 (by omega) (by omega)];omega
 have ne0:=nes4 m v cc (cc+11) (by omega)
 obtain ⟨a,rfl,ha⟩:∃ a:Nat,A=(a:Int)∧a<c.strings.length:=by
  have h3:inM A 0 ((c.strings.length:Int)-1)=true:=s3
  simp only [inM,Bool.and_eq_true,decide_eq_true_eq] at h3
  exact ⟨A.toNat,by omega,by omega⟩
 have hg:c.strings[a]? = some (c.strings.getD a []):=by rw [List.getD,List.getElem?_eq_getElem ha];rfl
 have s5':(1:Int)≤(x.stk.length:Int):=s5
 obtain ⟨n,S,hS⟩:∃ n S,y.stk=n :: S:=by
  rw [y1]
  cases hx:x.stk with
  | nil=>rw [hx] at s5';simp at s5'
  | cons n S=>exact ⟨n,S,rfl⟩
 have ht:y.top=n:=by rw [Mch.top,hS];rfl
 have lp:y.pop.stk.length≤1000:=by rw [Mch.pop,hS];rw [hS,List.length_cons] at l1;simp only [List.tail_cons];omega
 have hnp:∀ c',cc≤c'→MN m v so eo y.pop c':=fun c' hc=>h.keep hc (fun e=>by rw [hn.sn e] at hS;cases hS) hn.en
 have fA:∀ J d,RM c e y.pop (q+1) m v so eo J (cc+13+d)=none:=fun J d=>VR_n (hnp cc (by omega)) (by omega)
 have fB:∀ J,RM c e y.pop (q+1) m v so eo J (cc+13)=none:=fun J=>VR_n (hnp cc (by omega)) (by omega)
 have hY2:∀ J,RM c e y.pop (q+1) m v so eo J m=some (rmB c e y.pop (q+1) v so eo):=fun J=>RM_m (hnp cc (by omega))
 have hV2:∀ J,RM c e y.pop (q+1) m v so eo J v=some ⟨1,true,y.pop.vars.map I64⟩:=fun J=>VR_v (hnp cc (by omega))
 have pv:y.pop.vars=y.vars:=rfl
 have pe:y.pop.effs=y.effs:=rfl
 have pp:y.pop.pc=y.pc:=rfl
 have pd:y.pop.done=y.done:=rfl
 have nA:∀ d,¬ cc+13+d=cc+11:=fun d=>by omega
 have nB:¬ cc+13=cc+11:=by omega
 repeat' ((with_reducible first|refine wr ?_|refine wb2 ?_ ?_<;>(intro hb;try simp only [hb])|fail)<;>try simp only [go_sem,seval,hM,hw,s2,h_upd2,hcom,hY,hV,ne0,hw2,hg])
 refine AC.call ((c_rtake (hN _ (by omega)) (by omega) n S hS).beside hk _) ?_
 rintro r H' c2 ⟨H2,⟨rfl,rfl⟩,hk2,rfl⟩ hc2
 simp only [go_sem,seval,fA,fB,nA,nB,hg,hY2,hV2,pv,pe,pp,pd,ne0]
 repeat' ((with_reducible first|refine wr ?_|refine wb2 ?_ ?_<;>(intro hb;try simp only [hb])|fail)<;>try simp only [go_sem,seval,fA,fB,nA,nB,hg,hY2,hV2,pv,pe,pp,pd,ne0])
 refine AC.call ((c_reff (hnp _ (by omega)) (by show y.effs.length≤_;omega) ⟨_,0,n,0,c.strings.getD a []⟩).beside hk2 _) ?_
 rintro r H' c9 ⟨H9,⟨rfl,i2,q1,q2,rfl⟩,hk9,rfl⟩ hc9
 simp only [go_sem,seval]
 repeat' ((with_reducible first|refine wr ?_|refine wb2 ?_ ?_<;>(intro hb;try simp only [hb])|fail)<;>try simp only [go_sem,seval])
 exact rstep_end ((hnp _ (by omega)).newE q1 q2 rfl) hk9 (by rw [← ht];rfl) rfl
theorem c_rstep (h:MN m v so eo x cc) (hq:q≤100000) (i:Ins) (s:StepOk c e x i):AC Tryz.prog 47 [.ptr m 0] (RM c e x q m v so eo junk) cc (SteppedR c e (stepM c e x) (q+1) m v):=by
 obtain ⟨op,A⟩:=i
 have ho:1≤op∧op≤31:=by
  have h3:=s.num
  by_cases g:1≤op∧op≤31
  ·exact g
  ·have:effM op=(0,0, -1):=by
    unfold effM
    repeat rw [if_neg (by omega)]
   simp only [numberM,this] at h3
   exact absurd h3 (by simp [kindM])
 obtain ⟨o1,o2⟩:=ho
 obtain ⟨k,rfl⟩:∃ k:Nat,op=(k:Int):=⟨op.toNat,by omega⟩
 have hk:k<32:=by omega
 match k,hk,o1 with
 | 1,_,_=>exact c_rstep_1 h hq (by decide) A s
 | 2,_,_=>exact c_rstep_2 h hq A s
 | 3,_,_=>exact c_rstep_3 h hq A s
 | 4,_,_=>exact c_rstep_4 h hq A s
 | 5,_,_=>exact c_rstep_5 h hq A s
 | 6,_,_=>exact c_rstep_6 h hq A s
 | 7,_,_=>exact c_rstep_1 h hq (by decide) A s
 | 8,_,_=>exact c_rstep_1 h hq (by decide) A s
 | 9,_,_=>exact c_rstep_9 h hq (by decide) A s
 | 10,_,_=>exact c_rstep_9 h hq (by decide) A s
 | 11,_,_=>exact c_rstep_11 h hq A s
 | 12,_,_=>exact c_rstep_12 h hq A s
 | 13,_,_=>exact c_rstep_13 h hq A s
 | 14,_,_=>exact c_rstep_14 h hq A s
 | 15,_,_=>exact c_rstep_15 h hq (by decide) A s
 | 16,_,_=>exact c_rstep_16 h hq (by decide) A s
 | 17,_,_=>exact c_rstep_16 h hq (by decide) A s
 | 18,_,_=>exact c_rstep_16 h hq (by decide) A s
 | 19,_,_=>exact c_rstep_15 h hq (by decide) A s
 | 20,_,_=>exact c_rstep_20 h hq A s
 | 21,_,_=>exact c_rstep_15 h hq (by decide) A s
 | 22,_,_=>exact c_rstep_16 h hq (by decide) A s
 | 23,_,_=>exact c_rstep_16 h hq (by decide) A s
 | 24,_,_=>exact c_rstep_16 h hq (by decide) A s
 | 25,_,_=>exact c_rstep_16 h hq (by decide) A s
 | 26,_,_=>exact c_rstep_16 h hq (by decide) A s
 | 27,_,_=>exact c_rstep_16 h hq (by decide) A s
 | 28,_,_=>exact c_rstep_16 h hq (by decide) A s
 | 29,_,_=>exact c_rstep_29 h hq A s
 | 30,_,_=>exact c_rstep_16 h hq (by decide) A s
 | 31,_,_=>exact c_rstep_31 h hq A s
end
end Go.Proofs.YtcallbfckjlagaaGreat
namespace Go.Proofs.YtcallbfckjlagaaGreat
open Go.Eng (IC IOper DReg IFn IsFn)
open Go.Sym Go.Pb
section
abbrev u17_5:IC:=qS [oV 4 (.bool false)] .ret []
abbrev u17_4:IC:=qK u17_5 .skip (.t 56) [3,56]
abbrev u17_3:IC:=qS [oD 7 2 7,oC 8 34 [.t 7],oK 9 8 .neq 0,oM 10 9,hF 11 3 0 10,hL 12 11 10,oR 13 (.len (.t 12)) 10,hF 14 2 4 10,hL 15 14 10,oR 16 (.len (.t 15)) 10,oR 17 (.bin .neq (.t 13) (.t 16)) 10,oO 18 10 17,oM 19 18,hF 20 3 1 19,hL 21 20 19,oR 22 (.len (.t 21)) 19,hF 23 2 5 19,hL 24 23 19,oR 25 (.bin .neq (.t 22) (.t 24)) 19,oO 26 19 25,oM 27 26,hF 28 3 3 27,hL 29 28 27,hF 30 2 3 27,hL 31 30 27,oR 32 (.len (.t 31)) 27,oR 33 (.cvi .u64 (.t 32)) 27,oR 34 (.bin .shr (.t 29) (.t 33)) 27,oR 35 (.bin .neq (.t 34) (.k (.int .u32 0))) 27,oO 36 27 35,oM 37 36,hF 38 3 4 37,hL 39 38 37,hK 40 39 37 .lss 0,oO 41 37 40,oM 42 41,hF 43 3 4 42,hL 44 43 42,hK 45 44 42 .gtr 2147483647,oO 46 42 45,oM 47 46,hF 48 3 5 47,hL 49 48 47,hK 50 49 47 .lss 0,oO 51 47 50,oM 52 51,hF 53 3 5 52,hL 54 53 52,hK 55 54 52 .gtr 2147483647,oO 56 52 55] u17_4 [2,3]
abbrev u17_11:IC:=qK .skip (.exit 0) (.t 61) [3,5,61]
abbrev u17_10:IC:=qS [oM 57 5,oF 58 3 0,oL 59 58,oH 60 59,oB 61 57 60 .lss] u17_11 [3,5]
abbrev u17_15:IC:=qS [oV 4 (.bool false)] .ret []
abbrev u17_14:IC:=qK u17_15 .skip (.t 75) [3,5,75]
abbrev u17_13:IC:=qD [oF 64 3 0,oL 65 64,oM 66 5,oA 67 65 66 1,oL 68 67,oF 69 3 0,oL 70 69,oM 71 5,oA 72 70 71 1,oL 73 72,oC 74 19 [.t 73],oB 75 68 74 .neq] u17_14 [(0,none),(1,none),(2,none),(3,none),(4,none),(5,none),(6,none),(7,none),(8,none),(9,none),(10,some [0,1,2,3,4]),(11,none)] 12 [3,5]
abbrev u17_16:IC:=qE [oM 62 5,oK 63 62 .add 1,oM 5 63] [3,5]
abbrev u17_12:IC:=qB u17_13 u17_16 1 [3,5]
abbrev u17_9:IC:=qQ u17_10 u17_12 [3,5]
abbrev u17_8:IC:=qJ (.loop u17_9) 0 [3,5]
abbrev u17_7:IC:=qS [oI 5 0] u17_8 [3]
abbrev u17_22:IC:=qK .skip (.exit 2) (.t 80) [3,6,80]
abbrev u17_21:IC:=qS [oM 76 6,oF 77 3 1,oL 78 77,oH 79 78,oB 80 76 79 .lss] u17_22 [3,6]
abbrev u17_26:IC:=qS [oV 4 (.bool false)] .ret []
abbrev u17_25:IC:=qK u17_26 .skip (.t 96) [3,6,96]
abbrev u17_24:IC:=qS [oF 83 3 1,oL 84 83,oM 85 6,oA 86 84 85 1,oL 87 86,oK 88 87 .lss 0,oM 89 88,hF 90 3 1 89,hL 91 90 89,hM 92 6 89,oR 93 (.iad 1 (.t 91) (.t 92)) 89,hL 94 93 89,hK 95 94 89 .gtr 2147483647,oO 96 89 95] u17_25 [3,6]
abbrev u17_27:IC:=qE [oM 81 6,oK 82 81 .add 1,oM 6 82] [3,6]
abbrev u17_23:IC:=qB u17_24 u17_27 3 [3,6]
abbrev u17_20:IC:=qQ u17_21 u17_23 [3,6]
abbrev u17_19:IC:=qJ (.loop u17_20) 2 [3,6]
abbrev u17_18:IC:=qS [oI 6 0] u17_19 [3]
abbrev u17_28:IC:=qS [oV 4 (.bool true)] .ret []
abbrev u17_17:IC:=qQ u17_18 u17_28 [3]
abbrev u17_6:IC:=qQ u17_7 u17_17 [3]
abbrev u17_2:IC:=qQ u17_3 u17_6 [2,3]
abbrev u17_1:IC:=qS [oX 2 0,oX 3 1,oV 4 (.bool false)] u17_2 [0,1]
def u17:IFn:=⟨97,u17_1,[.tmp 4]⟩
end
theorem isU17:IsFn Tryz.prog 17 u17:=by unfold IsFn;kernel_rfl
theorem c_IsEnvR (c:Prg) (e:Envr) (hs:∀ s∈c.strings,s.length≤140737488355328) (n1:c.instrs.length≤9223372036854775807) (n2:e.vars.length≤9223372036854775807) (n3:e.left.length≤9223372036854775807):PC Tryz.prog 17 [c.v,e.v] (.bool (isEnvM c e)):=by
 refine PC.of mixedU isU17 (Nat.le_of_ble_eq_true rfl) (by simp [DV.nlL,DV.nl,nlL_ints,nlL_strs,nlL_instrs,nlL_entries]) rfl ?_
 show IW Tryz.prog 97 u17_1 ⟨argT _,_,_⟩ (rt [.tmp 4] _)
 have cB:=c_validR c hs n1
 by_cases h0:validM c=0
 case neg =>
  have z0:(validM c != 0)=true:=by simp [h0]
  repeat' ((with_reducible first|refine wr ?_|refine cpc cB ?_|refine wb2 ?_ ?_<;>(intro hb;try simp only [hb])|fail)<;>try simp only [go_sem,seval,z0])
  exact pc_ret (by simp [isEnvM,h0])
 have z0:(validM c != 0)=false:=by simp [h0]
 obtain ⟨l1,l2,l3,l4,l5,l6⟩:=valid_lens h0
 have f0:IntKind.u64.wrap (c.prios.length:Int)=(c.prios.length:Int):=wu64 (by omega) (by omega)
 have f1:binR .shr (.int .u32 (e.active:Int)) (.int .u64 (c.prios.length:Int))=some (.int .u32 ((e.active / 2 ^ c.prios.length:Nat):Int)):=shr_nat (by simp only [IntKind.bits];omega)
 have hM:isEnvM c e=(!((e.vars.length:Int) != (c.vars.length:Int)) && !((e.left.length:Int) != c.timers) && !(((e.active / 2 ^ c.prios.length:Nat):Int) != 0) && !(decide (e.player<0)) && !(decide (e.player>2147483647)) && !(decide (e.ball<0)) && !(decide (e.ball>2147483647)) && e.vars.all (fun n => !badM (-2147483647) n) && e.left.all (fun n => !badM 0 n)):=by
  have a1:((e.vars.length:Int) != (c.vars.length:Int)) = !decide (e.vars.length=c.vars.length):=by rw [Bool.eq_iff_iff];simp;omega
  have a2:((e.left.length:Int) != c.timers) = !decide ((e.left.length:Int)=c.timers):=by rw [Bool.eq_iff_iff];simp
  have a3:∀ X:Nat,((X:Int) != 0) = !decide (X=0):=fun X=>by rw [Bool.eq_iff_iff];simp
  have av:∀ l n,(!List.any l (badM n))=l.all (fun x => !badM n x):=fun l n=>by
   have h:=any_not (fun x => !badM n x) l
   simp only [Bool.not_not] at h
   rw [show l.any (badM n)=_ from h,Bool.not_not]
  have ap:∀ n,badM 0 n=(decide (n<0) || decide (n>2147483647)):=fun n=>rfl
  rw [a1,a2,a3, ← av, ← av]
  simp only [isEnvM,h0,ap e.player,ap e.ball,Bool.not_or,Bool.not_not]
  rw [Bool.eq_iff_iff]
  simp only [Bool.and_eq_true,and_assoc,and_comm,and_left_comm]
  simp
 have hcl:∀ n,(n != clM n)=badM (-2147483647) n:=fun n=>by
  rw [Bool.eq_iff_iff];unfold badM clM
  by_cases h1:2147483647<n
  ·simp [h1];omega
  ·by_cases h2:n < -2147483647
   ·simp [h1,h2];omega
   ·simp [h1,h2]
 repeat' ((with_reducible first|refine wr ?_|refine cpc cB ?_|refine wb2 ?_ ?_<;>(intro hb;try simp only [hb])|fail)<;>try simp only [go_sem,seval,z0,f0,f1])
 all_goals try exact pc_ret (by rw [hM];simp only [*,Bool.not_true,Bool.not_false,Bool.and_false,Bool.false_and,Bool.true_and])
 simp only [*] at hM
 simp only [Bool.not_false,Bool.true_and] at hM
 refine i_loop (fun k:Nat=>[(3,.ptr 1 0),(5,I64 k)]) (fun _=>(nil.upd 0 ⟨0,true,c.cs⟩).upd 1 ⟨0,true,e.cs⟩) (fun k cc=>2≤cc∧k≤e.vars.length∧(e.vars.take k).all (fun n => !badM (-2147483647) n)=true) (fun k=>e.vars.length-k) 0 (by simp [tmLe,tm,Tm.upd]) (Sub.refl _) (by simp<;>omega) ?_
 rintro k cc ⟨h1c,hk,he⟩
 by_cases hlt:k<e.vars.length
 ·have hd:decide ((k:Int)<e.vars.length)=true:=by simpa using hlt
  have hg:=List.getElem?_eq_getElem hlt
  have hw:=w64 (n:=(k:Int)+1) (by omega) (by omega)
  have fn:∀ d,((Sym.nil.upd 0 ⟨0,true,c.cs⟩).upd 1 ⟨0,true,e.cs⟩:Hp) (cc+d)=none:=fun d=>by rw [h_ne (by omega),h_ne (by omega)];rfl
  have fn0:((Sym.nil.upd 0 ⟨0,true,c.cs⟩).upd 1 ⟨0,true,e.cs⟩:Hp) cc=none:=fn 0
  repeat' ((with_reducible first|refine wr ?_|refine cpc (c_ClampR _) ?_|refine wb2 ?_ ?_<;>(intro hb;try simp only [hb])|fail)<;>try simp only [go_sem,seval,hd,hg,hw,hcl,fn,fn0])
  all_goals first
   | (refine pc_ret ?_;have hf:=all_fail (fun n => !badM (-2147483647) n) e.vars k _ hg (by simp_all);simp [hM,hf])
   | exact ⟨k+1,rfl,Sub.refl _,inv ⟨by omega,by omega,by rw [all_take (fun n => !badM (-2147483647) n) e.vars k _ hg he];simp_all⟩,by omega⟩
 have hd:decide ((k:Int)<e.vars.length)=false:=by simpa using hlt
 have hall:=all_done (fun n => !badM (-2147483647) n) e.vars k (by omega) he
 clear he hk
 repeat' ((with_reducible first|refine wr ?_|refine wb2 ?_ ?_<;>(intro hb;try simp only [hb])|fail)<;>try simp only [go_sem,seval,hd])
 clear hlt hd
 refine i_loop (fun k:Nat=>[(3,.ptr 1 0),(6,I64 k)]) (fun _=>(nil.upd 0 ⟨0,true,c.cs⟩).upd 1 ⟨0,true,e.cs⟩) (fun k cc=>1≤cc∧k≤e.left.length∧(e.left.take k).all (fun n => !badM 0 n)=true) (fun k=>e.left.length-k) 0 (by simp [tmLe,tm,Tm.upd]) (Sub.refl _) (by simp<;>omega) ?_
 rintro k cc ⟨h1c,hk,he⟩
 by_cases hlt:k<e.left.length
 ·have hd:decide ((k:Int)<e.left.length)=true:=by simpa using hlt
  have hg:=List.getElem?_eq_getElem hlt
  have hw:=w64 (n:=(k:Int)+1) (by omega) (by omega)
  repeat' ((with_reducible first|refine wr ?_|refine wb2 ?_ ?_<;>(intro hb;try simp only [hb])|fail)<;>try simp only [go_sem,seval,hd,hg,hw])
  all_goals first
   | (refine pc_ret ?_;have hf:=all_fail (fun n => !badM 0 n) e.left k _ hg (by simp_all [badM]);simp [hM,hf])
   | exact ⟨k+1,rfl,by first|exact Sub.refl _|(intro j b hj;simp only [Hp.upd,nil] at hj ⊢;split at hj<;>simp_all<;>omega),inv ⟨by omega,by omega,by rw [all_take (fun n => !badM 0 n) e.left k _ hg he];simp_all [badM]⟩,by omega⟩
 have hd:decide ((k:Int)<e.left.length)=false:=by simpa using hlt
 have hall:=all_done (fun n => !badM 0 n) e.left k (by omega) he
 clear he hk
 repeat' ((with_reducible first|refine wr ?_|refine wb2 ?_ ?_<;>(intro hb;try simp only [hb])|fail)<;>try simp only [go_sem,seval,hd])
 clear hlt hd
 exact pc_ret (by simp_all)
end Go.Proofs.YtcallbfckjlagaaGreat
namespace Go.Proofs.YtcallbfckjlagaaGreat
open Go.Eng (IC IOper DReg IFn IsFn)
open Go.Sym Go.Pb
section
abbrev u46_5:IC:=qS [oV 8 (.pointer none),oI 9 1] .ret []
abbrev u46_4:IC:=qK u46_5 .skip (.t 15) [1,3,4,6,15]
abbrev u46_3:IC:=qS [oD 12 4 7,oD 13 6 6,oC 14 17 [.t 12,.t 13],oY 15 14] u46_4 [1,3,4,6]
abbrev u46_12:IC:=qK .skip (.exit 0) (.t 20) [1,3,4,6,10,11,20]
abbrev u46_11:IC:=qS [oM 16 11,oF 17 4 2,oL 18 17,oH 19 18,oB 20 16 19 .lss] u46_12 [1,3,4,6,10,11]
abbrev u46_14:IC:=qE [oM 23 10,oM 24 23,hF 25 4 2 24,hL 26 25 24,hM 27 11 24,oR 28 (.iad 4 (.t 26) (.t 27)) 24,hF 29 28 3 24,hL 30 29 24,hM 31 1 24,oR 32 (.bin .eql (.t 30) (.t 31)) 24,oO 33 24 32,oM 10 33] [1,3,4,6,10,11]
abbrev u46_15:IC:=qE [oM 21 11,oK 22 21 .add 1,oM 11 22] [1,3,4,6,10,11]
abbrev u46_13:IC:=qB u46_14 u46_15 1 [1,3,4,6,10,11]
abbrev u46_10:IC:=qQ u46_11 u46_13 [1,3,4,6,10,11]
abbrev u46_9:IC:=qJ (.loop u46_10) 0 [1,3,4,6,10,11]
abbrev u46_8:IC:=qS [oI 11 0] u46_9 [1,3,4,6,10]
abbrev u46_19:IC:=qS [oV 8 (.pointer none),oI 9 54] .ret []
abbrev u46_18:IC:=qK u46_19 .skip (.t 35) [1,3,4,6,35]
abbrev u46_17:IC:=qS [oM 34 10,oY 35 34] u46_18 [1,3,4,6,10]
abbrev u46_23:IC:=qS [oV 8 (.pointer none),oI 9 5] .ret []
abbrev u46_22:IC:=qK u46_23 .skip (.t 41) [1,4,6,41]
abbrev u46_21:IC:=qS [oM 36 3,oK 37 36 .lss 0,oM 38 37,hM 39 3 38,hK 40 39 38 .gtr 1000,oO 41 38 40] u46_22 [1,3,4,6]
abbrev u46_24:IC:=qD [oD 42 4 7,oD 43 6 6,oF 44 6 0,oL 45 44,⟨some 46,.eff (.app 1 8 (.k (.slice none 0 0)) (.t 45)),none⟩,oM 47 1,oP 48 (.bld #[.slice none 0 0,.slice none 0 0,.slice none 0 0,.slice none 0 0,.slice none 0 0,.int .i64 0,.int .i64 0,.slice none 0 0,.slice none 0 0,.int .u64 0,.int .u32 0,.int .i64 0,.int .i64 0,.slice none 0 0,.slice none 0 0,.slice none 0 0,.int .i64 0,.int .i64 0,.bool false] [(0,7),(7,6),(13,1),(14,1),(15,1),(16,1),(17,1),(18,1)] [(0,.t 42),(1,.t 43),(2,.t 46),(5,.t 47)]),oX 49 48,oM 8 49,oI 9 0] .ret [(0,none),(1,none),(2,none),(3,none),(5,none),(4,some [0,1,5]),(6,none),(7,none),(8,some []),(9,some [])] 10 [1,4,6]
abbrev u46_20:IC:=qQ u46_21 u46_24 [1,3,4,6]
abbrev u46_16:IC:=qQ u46_17 u46_20 [1,3,4,6,10]
abbrev u46_7:IC:=qQ u46_8 u46_16 [1,3,4,6,10]
abbrev u46_6:IC:=qS [oV 10 (.bool false)] u46_7 [1,3,4,6]
abbrev u46_2:IC:=qQ u46_3 u46_6 [1,3,4,6]
abbrev u46_1:IC:=qS [oX 4 0,oX 6 2,oV 8 (.pointer none),oI 9 0] u46_2 [0,1,2,3]
def u46:IFn:=⟨50,u46_1,[.tmp 8,.tmp 9]⟩
end
theorem isU46:IsFn Tryz.prog 46 u46:=by unfold IsFn;kernel_rfl
theorem any_take' {α : Type} (p : α → Bool) {l:List α} {k:Nat} {x : α} (hx:l[k]? = some x):(l.take (k+1)).any p=((l.take k).any p || p x):=by
 rw [List.take_add_one,hx];simp
theorem c_begR (c:Prg) (e:Envr) (a b:Int) (hs:∀ s∈c.strings,s.length≤140737488355328) (n1:c.instrs.length≤9223372036854775807) (n2:e.vars.length≤9223372036854775807) (n3:e.left.length≤9223372036854775807) (n4:c.entries.length≤9223372036854775807)
  (hv:begM c e a b=0→e.vars≠[]∧e.vars.length≤100000) (H:Hp) (cc:Nat) :
  AC Tryz.prog 46 [c.v,I64 a,e.v,I64 b] H cc (fun r H' c'=>(begM c e a b≠0∧r=.tup [.pnil,I64 (begM c e a b)])∨(begM c e a b=0∧∃ m v,r=.tup [.ptr m 0,I64 0]∧MN m v none none (mch0 e a.toNat) c'∧Sub (RM c e (mch0 e a.toNat) 0 m v none none []) H')):=by
 refine AC.body mixedU isU46 (Nat.le_of_ble_eq_true rfl) fun hfr=>?_
 show IW Tryz.prog 50 u46_1 ⟨argT _,_,_⟩ (rt [.tmp 8,.tmp 9] _)
 have cI:=c_IsEnvR c e hs n1 n2 n3
 have hv:begM c e a b=0→(e.vars≠[]∧e.vars.length≤100000)∧0≤a:=fun h=>⟨hv h,by obtain ⟨-, -, -,x, -, -,h⟩:=begM_0 h;exact h⟩
 unfold begM at hv ⊢
 have ne0:=nes2 cc (cc+1) (by omega)
 cases h1:isEnvM c e
 ·rw [h1] at cI
  repeat' ((with_reducible first|refine wr ?_|refine cpc cI ?_|refine wb2 ?_ ?_<;>(intro hb;try simp only [hb])|fail)<;>try simp only [go_sem,seval,ne0])
  exact ⟨_,_,GL.less' (Sub.refl _),.inl rfl⟩
 rw [h1] at cI hv
 repeat' ((with_reducible first|refine wr ?_|refine cpc cI ?_|refine wb2 ?_ ?_<;>(intro hb;try simp only [hb])|fail)<;>try simp only [go_sem,seval,ne0])
 refine i_loop (fun k:Nat=>[(1,I64 a),(3,I64 b),(4,.ptr cc 0),(6,.ptr (cc+1) 0),(10,.bool ((c.entries.take k).any (fun x=>decide (x.pos=a)))),(11,I64 k)]) (fun _=>(H.upd cc ⟨0,true,c.cs⟩).upd (cc+1) ⟨0,true,e.cs⟩) (fun k c2=>cc+2≤c2∧k≤c.entries.length) (fun k=>c.entries.length-k) 0 (by simp [tmLe,tm,Tm.upd]) (Sub.refl _) ⟨by omega,by omega⟩ ?_
 rintro k c2 ⟨hc2,hk⟩
 by_cases hlt:k<c.entries.length
 ·have hd:decide ((k:Int)<c.entries.length)=true:=by simpa using hlt
  obtain ⟨x,hx⟩:∃ x,x=c.entries[k]:=⟨_,rfl⟩
  have hg:c.entries[k]? = some x:=by rw [hx];exact List.getElem?_eq_getElem hlt
  have hw:IntKind.i64.wrap ((k:Int)+1)=((k+1:Nat):Int):=by rw [w64 (by omega) (by omega)];omega
  have ha:=any_take' (fun x=>decide (x.pos=a)) hg
  have hp:(x.pos == a)=decide (x.pos=a):=by rw [Bool.eq_iff_iff];simp
  cases hA:(c.entries.take k).any (fun x=>decide (x.pos=a))
  ·rw [hA,Bool.false_or] at ha
   repeat' ((with_reducible first|refine wr ?_|refine wb2 ?_ ?_<;>(intro hb;try simp only [hb])|fail)<;>try simp only [go_sem,seval,ne0,hd,hg,hw,hp])
   exact ⟨k+1,by rw [ha];exact ⟨rfl,rfl⟩,Sub.refl _,inv ⟨by omega,hlt⟩,by omega⟩
  ·rw [hA,Bool.true_or] at ha
   repeat' ((with_reducible first|refine wr ?_|refine wb2 ?_ ?_<;>(intro hb;try simp only [hb])|fail)<;>try simp only [go_sem,seval,ne0,hd,hg,hw,hp])
   exact ⟨k+1,by rw [ha];exact ⟨rfl,rfl⟩,Sub.refl _,inv ⟨by omega,hlt⟩,by omega⟩
 have hd:decide ((k:Int)<c.entries.length)=false:=by simpa using hlt
 rw [List.take_of_length_le (by omega)]
 cases hA:c.entries.any (fun x=>decide (x.pos=a))
 ·repeat' ((with_reducible first|refine wr ?_|refine wb2 ?_ ?_<;>(intro hb;try simp only [hb])|fail)<;>try simp only [go_sem,seval,ne0,hd])
  exact ⟨_,_,GL.less' (Sub.refl _),.inl rfl⟩
 rw [hA] at hv
 by_cases hb:b<0∨b>1000
 ·rw [if_neg (by simp),if_pos hb]
  by_cases hb1:b<0
  ·have hd1:decide (b<0)=true:=by simpa using hb1
   repeat' ((with_reducible first|refine wr ?_|refine wb2 ?_ ?_<;>(intro hb;try simp only [hb])|fail)<;>try simp only [go_sem,seval,ne0,hd,hd1])
   exact ⟨_,_,GL.less' (Sub.refl _),.inl rfl⟩
  ·have hd1:decide (b<0)=false:=by simpa using hb1
   have hd2:decide (b>1000)=true:=by simp;omega
   repeat' ((with_reducible first|refine wr ?_|refine wb2 ?_ ?_<;>(intro hb;try simp only [hb])|fail)<;>try simp only [go_sem,seval,ne0,hd,hd1,hd2])
   exact ⟨_,_,GL.less' (Sub.refl _),.inl rfl⟩
 rw [if_neg (by simp),if_neg hb] at hv
 rw [if_neg (by simp),if_neg hb]
 obtain ⟨⟨hv0,hv9⟩,ha0⟩:=hv rfl
 have hl0:¬ e.vars.length=0:=fun h=>hv0 (List.eq_nil_of_length_eq_zero h)
 have hd1:decide (b<0)=false:=by simp;omega
 have hd2:decide (b>1000)=false:=by simp;omega
 have fn:∀ d,((H.upd cc ⟨0,true,c.cs⟩).upd (cc+1) ⟨0,true,e.cs⟩) (c2+d)=none:=fun d=>by rw [h_ne (by omega),h_ne (by omega)];exact hfr _ (by omega)
 have hu:unit 1 (e.vars.map I64)=true:=by simp [unit,DV.cells]
 have hcl:cellsL (e.vars.map I64)=e.vars.map I64:=by simpa using cells_ints e.vars
 repeat' ((with_reducible first|refine wr ?_|refine wb2 ?_ ?_<;>(intro hb;try simp only [hb])|fail)<;>try simp only [go_sem,seval,ne0,hd,hd1,hd2,fn,hu,hcl,List.length_map])
 refine x_eval (r_appn' hl0 (by omega) (by omega)) ?_
 have fm:∀ d B,¬ d=10→(((H.upd cc ⟨0,true,c.cs⟩).upd (cc+1) ⟨0,true,e.cs⟩).upd (c2+10) B) (c2+d)=none:=fun d B h=>by rw [h_ne (by omega)];exact fn d
 have f0:=fun B=>fm 0 B (by omega)
 have f1:=fun B=>fm 1 B (by omega)
 have f5:=fun B=>fm 5 B (by omega)
 simp only [Nat.add_zero] at f0
 have ne0:=nes3 cc (cc+1) (c2+10) (by omega)
 simp only [go_sem,seval,ne0,hu,hcl,List.length_map,f0,f1,f5]
 repeat' ((with_reducible first|refine wr ?_|refine wb2 ?_ ?_<;>(intro hb;try simp only [hb])|fail)<;>try simp only [go_sem,seval,ne0,hu,hcl,List.length_map,f0,f1,f5])
 refine ⟨_,_,GL.less' (VR_sub (x:=mch0 e a.toNat) (m:=c2+7) (v:=c2+10) (so:=none) (eo:=none) (junk:=[]) (M:=rmB c e (mch0 e a.toNat) 0 (c2+10) none none) ?_ ?_ (fun i hi=>by cases hi) (fun i hi=>by cases hi)),.inr ⟨c2+7,c2+10,rfl,⟨by omega,by omega,by omega,fun i hi=>(by cases hi),fun i hi=>(by cases hi),fun i j hi=>(by cases hi),fun _=>rfl,fun _=>rfl⟩,Sub.refl _⟩⟩
 ·rw [h_same]
  have:((mch0 e a.toNat).pc:Int)=a:=by show (a.toNat:Int)=a;omega
  show _=some (Blk.mk 0 true (rcC c e (c2+10) e.vars.length ((mch0 e a.toNat).pc:Int) 0 false .snil .snil))
  rw [this]
 ·rw [h_ne (by omega),h_same];rfl
end Go.Proofs.YtcallbfckjlagaaGreat
namespace Go.Proofs.YtcallbfckjlagaaGreat
open Go.Eng (IC IOper DReg IFn IsFn)
open Go.Sym Go.Pb
section
abbrev u28_6:IC:=qS [oM 24 13,oV 8 (.slice none 0 0),oV 9 (.slice none 0 0),oI 10 0,oM 11 24] .ret [13]
abbrev u28_5:IC:=qK u28_6 .skip (.t 23) [3,12,13,23]
abbrev u28_4:IC:=qS [oM 22 13,oK 23 22 .neq 0] u28_5 [3,12,13]
abbrev u28_10:IC:=qK .skip (.exit 0) (.t 29) [3,12,29]
abbrev u28_9:IC:=qS [oM 25 12,oN 26 25,oF 27 26 18,oL 28 27,oY 29 28] u28_10 [3,12]
abbrev u28_15:IC:=qS [oV 8 (.slice none 0 0),oV 9 (.slice none 0 0),oI 10 0,oI 11 52] .ret []
abbrev u28_14:IC:=qK u28_15 .skip (.t 43) [3,12,43]
abbrev u28_13:IC:=qS [oM 30 12,oN 31 30,oF 32 31 17,oL 33 32,oM 34 3,oB 35 33 34 .geq,oM 36 35,hM 37 12 36,hN 38 37 36,hF 39 38 15 36,hL 40 39 36,oR 41 (.len (.t 40)) 36,hK 42 41 36 .gtr 256,oO 43 36 42] u28_14 [3,12]
abbrev u28_16:IC:=qE [oM 44 12,oC 45 47 [.t 44]] [3,12]
abbrev u28_12:IC:=qQ u28_13 u28_16 [3,12]
abbrev u28_11:IC:=qJ u28_12 1 [3,12]
abbrev u28_8:IC:=qQ u28_9 u28_11 [3,12]
abbrev u28_17:IC:=qD [oM 46 12,oN 47 46,oF 48 47 13,oL 49 48,oM 50 12,oN 51 50,oF 52 51 15,oL 53 52,oM 54 12,oN 55 54,oF 56 55 17,oL 57 56,oM 8 49,oM 9 53,oM 10 57,oI 11 0] .ret [(0,none),(1,none),(2,none),(3,none),(4,none),(5,none),(6,none),(7,none),(8,none),(9,none),(10,none),(11,none),(12,some [4,5,6,7,8,9,10,11]),(13,some [8,9,10,11]),(14,some []),(15,some [])] 16 [12]
abbrev u28_7:IC:=qB (.loop u28_8) u28_17 0 [3,12]
abbrev u28_3:IC:=qQ u28_4 u28_7 [3,12,13]
abbrev u28_2:IC:=qS [oD 15 4 7,oM 16 1,oD 17 6 6,oM 18 3,oC 19 46 [.t 15,.t 16,.t 17,.t 18],oM 14 19,oE 20 14 0,oE 21 14 1,oM 12 20,oM 13 21] u28_3 [1,3,4,6]
abbrev u28_1:IC:=qS [oX 4 0,oX 6 2,oV 8 (.slice none 0 0),oV 9 (.slice none 0 0),oI 10 0,oI 11 0] u28_2 [0,1,2,3]
def u28:IFn:=⟨58,u28_1,[.tmp 8,.tmp 9,.tmp 10,.tmp 11]⟩
end
theorem isU28:IsFn Tryz.prog 28 u28:=by unfold IsFn;kernel_rfl
section
abbrev u29_6:IC:=qS [oM 23 12,oV 8 (.slice none 0 0),oV 9 (.slice none 0 0),oM 10 23] .ret [12]
abbrev u29_5:IC:=qK u29_6 .skip (.t 22) [3,11,12,22]
abbrev u29_4:IC:=qS [oM 21 12,oK 22 21 .neq 0] u29_5 [3,11,12]
abbrev u29_10:IC:=qK .skip (.exit 0) (.t 36) [3,11,36]
abbrev u29_9:IC:=qS [oM 24 11,oN 25 24,oF 26 25 18,oL 27 26,oY 28 27,oM 29 28,gM 30 11 29,gN 31 30 29,gF 32 31 17 29,gL 33 32 29,gM 34 3 29,oG 35 (.bin .lss (.t 33) (.t 34)) 29,oJ 36 29 35] u29_10 [3,11]
abbrev u29_12:IC:=qE [oM 37 11,oC 38 47 [.t 37]] [3,11]
abbrev u29_11:IC:=qJ u29_12 1 [3,11]
abbrev u29_8:IC:=qQ u29_9 u29_11 [3,11]
abbrev u29_13:IC:=qD [oM 39 11,oN 40 39,oF 41 40 13,oL 42 41,oM 43 11,oN 44 43,oF 45 44 14,oL 46 45,oM 8 42,oM 9 46,oI 10 0] .ret [(0,none),(1,none),(2,none),(3,none),(4,none),(5,none),(6,none),(7,none),(8,some [4,5,6,7]),(9,some []),(10,some [])] 11 [11]
abbrev u29_7:IC:=qB (.loop u29_8) u29_13 0 [3,11]
abbrev u29_3:IC:=qQ u29_4 u29_7 [3,11,12]
abbrev u29_2:IC:=qS [oD 14 4 7,oM 15 1,oD 16 6 6,oM 17 3,oC 18 46 [.t 14,.t 15,.t 16,.t 17],oM 13 18,oE 19 13 0,oE 20 13 1,oM 11 19,oM 12 20] u29_3 [1,3,4,6]
abbrev u29_1:IC:=qS [oX 4 0,oX 6 2,oV 8 (.slice none 0 0),oV 9 (.slice none 0 0),oI 10 0] u29_2 [0,1,2,3]
def u29:IFn:=⟨47,u29_1,[.tmp 8,.tmp 9,.tmp 10]⟩
end
theorem isU29:IsFn Tryz.prog 29 u29:=by unfold IsFn;kernel_rfl
def Dn (x y:Mch):Prop:=y.done=true→y.effs=x.effs
theorem dn_ite {x:Mch} {p:Prop} [Decidable p] {a b:Mch} (ha:Dn x a) (hb:Dn x b):Dn x (if p then a else b):=by
 by_cases h:p
 ·rw [if_pos h];exact ha
 ·rw [if_neg h];exact hb
theorem dn_step {c:Prg} {e:Envr} {x:Mch} (hd:x.done=false):Dn x (stepM c e x):=by
 unfold stepM opM
 have hp:∀ y:Mch,y.done=x.done→Dn x y:=fun y h h2=>by rw [h,hd] at h2;cases h2
 repeat' (first|refine dn_ite ?_ ?_|exact hp _ rfl|exact fun _=>rfl)
theorem c_ExecR (c:Prg) (e:Envr) (a b:Int) (z:Sized c e):PC Tryz.prog 28 [c.v,I64 a,e.v,I64 b] (exV (execM c e a b)):=by
 refine PC.of mixedU isU28 (Nat.le_of_ble_eq_true rfl) (by simp [DV.nlL,DV.nl,nlL_ints,nlL_strs,nlL_instrs,nlL_entries]) (exV_nl _) ?_
 show IW Tryz.prog 58 u28_1 ⟨argT _,_,_⟩ (rt [.tmp 8,.tmp 9,.tmp 10,.tmp 11] _)
 repeat' ((with_reducible first|refine wr ?_|refine wb2 ?_ ?_<;>(intro hb;try simp only [hb])|fail)<;>try simp only [go_sem,seval])
 refine AC.call (c_begR c e a b z.hs z.n1 z.n2 z.n3 z.n4 z.nv _ _) ?_
 rintro r H' c1 (⟨hb,rfl⟩|⟨hb,m,v,rfl,hm0,hsub⟩) hc1
 ·have hd:(begM c e a b != 0)=true:=by simpa using hb
  have ex:execM c e a b=([],[],0,begM c e a b):=by unfold execM;rw [if_pos hb]
  rw [ex]
  simp only [go_sem,seval,hd]
  repeat' ((with_reducible first|refine wr ?_|refine wb2 ?_ ?_<;>(intro hb;try simp only [hb])|fail)<;>try simp only [go_sem,seval,hd])
  exact g_errE _
 obtain ⟨hE,b0,b1,en,hen,hpos,ha⟩:=begM_0 hb
 obtain ⟨p,rfl⟩:∃ p:Nat,a=(p:Int):=⟨a.toNat,by omega⟩
 obtain ⟨k,rfl⟩:∃ k:Nat,b=(k:Int):=⟨b.toNat,by omega⟩
 rw [Int.toNat_natCast] at hm0 hsub
 have ex:execM c e (p:Int) (k:Int)=if (exM c e k (mch0 e p) 0).1.done=false∨(exM c e k (mch0 e p) 0).1.effs.length>256 then ([],[],0,52) else ((exM c e k (mch0 e p) 0).1.vars,(exM c e k (mch0 e p) 0).1.effs,(exM c e k (mch0 e p) 0).2,0):=by
  unfold execM;rw [if_neg (by rw [hb];simp)];rfl
 rw [ex]
 have hz:((0:Int) != 0)=false:=rfl
 simp only [go_sem,seval,hz]
 repeat' ((with_reducible first|refine wr ?_|refine wb2 ?_ ?_<;>(intro hb;try simp only [hb])|fail)<;>try simp only [go_sem,seval,hz])
 refine i_loop (fun q:Nat × Nat × Mch × Option Nat × Option Nat × List DV=>[(3,I64 (k:Int)),(12,.ptr m 0)]) (fun q=>RM c e q.2.2.1 q.2.1 m v q.2.2.2.1 q.2.2.2.2.1 q.2.2.2.2.2)
  (fun q cc=>MN m v q.2.2.2.1 q.2.2.2.2.1 q.2.2.1 cc∧q.2.1+q.1=k∧Inv c q.2.2.1∧q.2.2.1.effs.length≤q.2.1∧exM c e q.1 q.2.2.1 q.2.1=exM c e k (mch0 e p) 0∧(q.2.2.1.done=true→q.2.2.1.effs.length≤256)) (fun q=>q.1) (k,0,mch0 e p,none,none,[])
  (by simp [tmLe,tm,Tm.upd]) hsub ⟨hm0,by simp,mch0_inv hE hen hpos,by simp [mch0],rfl,fun h=>by cases h⟩ ?_
 clear hm0 hsub
 rintro ⟨f,n,x,so,eo,junk⟩ cc ⟨hn,hfk,hI,hle,hex,hdn⟩
 simp only at hn hfk hI hle hex hdn
 simp only
 have hM:RM c e x n m v so eo junk m=some (rmB c e x n v so eo):=RM_m hn
 have hlen:=r_lentodo (o:=eo) (n:=x.effs.length) (fun h=>len_nil (hn.en h))
 rw [← hex]
 by_cases hd:x.done=true
 ·have:=hdn hd
  rw [exM_stop (.inr (.inl hd)),if_neg (by simp [hd];omega)]
  have fn:∀ d,RM c e x n m v so eo junk (cc+d)=none:=fun d=>VR_n hn (by omega)
  repeat' ((with_reducible first|refine wr ?_|refine wb2 ?_ ?_<;>(intro hb;try simp only [hb])|fail)<;>try simp only [go_sem,seval,hM,hd,hlen,fn])
  exact g_exec hn _ _
 have hd':x.done=false:=by simpa using hd
 by_cases hf:f=0
 ·have e1:decide ((n:Int)≥(k:Int))=true:=by simp;omega
  rw [exM_stop (.inl hf),if_pos (.inl hd')]
  repeat' ((with_reducible first|refine wr ?_|refine wb2 ?_ ?_<;>(intro hb;try simp only [hb])|fail)<;>try simp only [go_sem,seval,hM,hd',e1,hlen])
  exact g_errE _
 have e1:decide ((n:Int)≥(k:Int))=false:=by simp;omega
 by_cases h2:x.effs.length>256
 ·have e2:decide ((x.effs.length:Int)>256)=true:=by simp;omega
  rw [exM_stop (.inr (.inr h2)),if_pos (.inl hd')]
  repeat' ((with_reducible first|refine wr ?_|refine wb2 ?_ ?_<;>(intro hb;try simp only [hb])|fail)<;>try simp only [go_sem,seval,hM,hd',e1,e2,hlen])
  exact g_errE _
 have e2:decide ((x.effs.length:Int)>256)=false:=by simp;omega
 repeat' ((with_reducible first|refine wr ?_|refine wb2 ?_ ?_<;>(intro hb;try simp only [hb])|fail)<;>try simp only [go_sem,seval,hM,hd',e1,e2,hlen])
 refine AC.call (c_rstep hn (by omega) (c.ins x.pc) (hI.ok hE hd' (by omega) z.clo z.act)) ?_
 rintro r H' c2 ⟨rfl,so2,eo2,j2,hn2,rfl⟩ hc2
 obtain ⟨g,rfl⟩:∃ g,f=g+1:=⟨f-1,by omega⟩
 have hst:=eff_step (c:=c) (e:=e) (x:=x)
 simp only [go_sem,seval]
 repeat' ((with_reducible first|refine wr ?_|refine wb2 ?_ ?_<;>(intro hb;try simp only [hb])|fail)<;>try simp only [go_sem,seval])
 exact ⟨(g,n+1,stepM c e x,so2,eo2,j2),Sub.refl _,inv ⟨hn2,by simp only;omega,hI.step hE hd',by simp only;omega,by rw [exM_go hd' (by omega)],fun h=>by rw [dn_step hd' h];omega⟩,by simp only;omega⟩
theorem c_TraceR (c:Prg) (e:Envr) (a b:Int) (z:Sized c e):PC Tryz.prog 29 [c.v,I64 a,e.v,I64 b] (trV (traceM c e a b)):=by
 refine PC.of mixedU isU29 (Nat.le_of_ble_eq_true rfl) (by simp [DV.nlL,DV.nl,nlL_ints,nlL_strs,nlL_instrs,nlL_entries]) (trV_nl _) ?_
 show IW Tryz.prog 47 u29_1 ⟨argT _,_,_⟩ (rt [.tmp 8,.tmp 9,.tmp 10] _)
 repeat' ((with_reducible first|refine wr ?_|refine wb2 ?_ ?_<;>(intro hb;try simp only [hb])|fail)<;>try simp only [go_sem,seval])
 refine AC.call (c_begR c e a b z.hs z.n1 z.n2 z.n3 z.n4 z.nv _ _) ?_
 rintro r H' c1 (⟨hb,rfl⟩|⟨hb,m,v,rfl,hm0,hsub⟩) hc1
 ·have hd:(begM c e a b != 0)=true:=by simpa using hb
  have ex:traceM c e a b=([],[],begM c e a b):=by unfold traceM;rw [if_pos hb]
  rw [ex]
  simp only [go_sem,seval,hd]
  repeat' ((with_reducible first|refine wr ?_|refine wb2 ?_ ?_<;>(intro hb;try simp only [hb])|fail)<;>try simp only [go_sem,seval,hd])
  exact g_errT _
 obtain ⟨hE,b0,b1,en,hen,hpos,ha⟩:=begM_0 hb
 obtain ⟨p,rfl⟩:∃ p:Nat,a=(p:Int):=⟨a.toNat,by omega⟩
 obtain ⟨k,rfl⟩:∃ k:Nat,b=(k:Int):=⟨b.toNat,by omega⟩
 rw [Int.toNat_natCast] at hm0 hsub
 have ex:traceM c e (p:Int) (k:Int)=((trM c e k (mch0 e p)).vars,(trM c e k (mch0 e p)).stk.reverse,0):=by
  unfold traceM;rw [if_neg (by rw [hb];simp)];rfl
 rw [ex]
 have hz:((0:Int) != 0)=false:=rfl
 simp only [go_sem,seval,hz]
 repeat' ((with_reducible first|refine wr ?_|refine wb2 ?_ ?_<;>(intro hb;try simp only [hb])|fail)<;>try simp only [go_sem,seval,hz])
 refine i_loop (fun q:Nat × Nat × Mch × Option Nat × Option Nat × List DV=>[(3,I64 (k:Int)),(11,.ptr m 0)]) (fun q=>RM c e q.2.2.1 q.2.1 m v q.2.2.2.1 q.2.2.2.2.1 q.2.2.2.2.2)
  (fun q cc=>MN m v q.2.2.2.1 q.2.2.2.2.1 q.2.2.1 cc∧q.2.1+q.1=k∧Inv c q.2.2.1∧q.2.2.1.effs.length≤q.2.1∧trM c e q.1 q.2.2.1=trM c e k (mch0 e p)) (fun q=>q.1) (k,0,mch0 e p,none,none,[])
  (by simp [tmLe,tm,Tm.upd]) hsub ⟨hm0,by simp,mch0_inv hE hen hpos,by simp [mch0],rfl⟩ ?_
 clear hm0 hsub
 rintro ⟨f,n,x,so,eo,junk⟩ cc ⟨hn,hfk,hI,hle,hex⟩
 simp only at hn hfk hI hle hex
 simp only
 have hM:RM c e x n m v so eo junk m=some (rmB c e x n v so eo):=RM_m hn
 have fn:∀ d,RM c e x n m v so eo junk (cc+d)=none:=fun d=>VR_n hn (by omega)
 rw [← hex]
 by_cases hd:x.done=true
 ·rw [trM_stop (.inr hd)]
  repeat' ((with_reducible first|refine wr ?_|refine wb2 ?_ ?_<;>(intro hb;try simp only [hb])|fail)<;>try simp only [go_sem,seval,hM,hd,fn])
  exact g_trace hn _
 have hd':x.done=false:=by simpa using hd
 by_cases hf:f=0
 ·have e1:decide ((n:Int)<(k:Int))=false:=by simp;omega
  rw [trM_stop (.inl hf)]
  repeat' ((with_reducible first|refine wr ?_|refine wb2 ?_ ?_<;>(intro hb;try simp only [hb])|fail)<;>try simp only [go_sem,seval,hM,hd',e1,fn])
  exact g_trace hn _
 have e1:decide ((n:Int)<(k:Int))=true:=by simp;omega
 repeat' ((with_reducible first|refine wr ?_|refine wb2 ?_ ?_<;>(intro hb;try simp only [hb])|fail)<;>try simp only [go_sem,seval,hM,hd',e1])
 refine AC.call (c_rstep hn (by omega) (c.ins x.pc) (hI.ok hE hd' (by omega) z.clo z.act)) ?_
 rintro r H' c2 ⟨rfl,so2,eo2,j2,hn2,rfl⟩ hc2
 have hst:=eff_step (c:=c) (e:=e) (x:=x)
 obtain ⟨g,rfl⟩:∃ g,f=g+1:=⟨f-1,by omega⟩
 simp only [go_sem,seval]
 repeat' ((with_reducible first|refine wr ?_|refine wb2 ?_ ?_<;>(intro hb;try simp only [hb])|fail)<;>try simp only [go_sem,seval])
 exact ⟨(g,n+1,stepM c e x,so2,eo2,j2),Sub.refl _,inv ⟨hn2,by simp only;omega,hI.step hE hd',by simp only;omega,by rw [trM_go hd']⟩,by simp only;omega⟩
end Go.Proofs.YtcallbfckjlagaaGreat
namespace Go.Pb
open Go.Sym
def Fs (k:Nat) (y:Mch):Prop:=y.stk.length≤k
theorem fs_ite {k:Nat} {p:Prop} [Decidable p] {a b:Mch} (ha:Fs k a) (hb:Fs k b):Fs k (if p then a else b):=by
 by_cases h:p
 ·rw [if_pos h];exact ha
 ·rw [if_neg h];exact hb
theorem stk_step {c:Prg} {e:Envr} {x:Mch}:(stepM c e x).stk.length≤x.stk.length+1:=by
 show Fs (x.stk.length+1) (stepM c e x)
 unfold stepM opM
 have hp:∀ y:Mch,y.stk.length≤x.stk.length+1→Fs (x.stk.length+1) y:=fun y h=>h
 repeat' (first|refine fs_ite ?_ ?_|(refine hp _ ?_;simp only [Mch.push,Mch.pop,Mch.ask,List.length_cons,List.length_tail];omega))
theorem trM_stk {c:Prg} {e:Envr}:∀ (f:Nat) (x:Mch),(trM c e f x).stk.length≤x.stk.length+f
 | 0,x=>Nat.le_refl _
 | f+1,x=>by
  rw [trM]
  split
  ·omega
  ·have:=trM_stk (c:=c) (e:=e) f (stepM c e x)
   have:=stk_step (c:=c) (e:=e) (x:=x)
   omega
theorem exec_lens (c:Prg) (e:Envr) (a b:Int):(execM c e a b).1.length≤e.vars.length∧(execM c e a b).2.1.length≤1000:=by
 by_cases hb:b≤1000
 ·exact exec_len hb
 ·have h:begM c e a b≠0:=fun h=>by obtain ⟨-, -,h2, -⟩:=begM_0 h;omega
  unfold execM
  rw [if_pos h];exact ⟨Nat.zero_le _,Nat.zero_le _⟩
theorem trace_lens (c:Prg) (e:Envr) (a b:Int):(traceM c e a b).1.length≤e.vars.length∧(traceM c e a b).2.1.length≤1000:=by
 unfold traceM
 by_cases h:begM c e a b=0
 ·obtain ⟨-,h1,h2, -⟩:=begM_0 h
  rw [if_neg (fun h2=>h2 h)]
  have h3:=trM_len (c:=c) (e:=e) b.toNat (mch0 e a.toNat)
  have h4:=trM_stk (c:=c) (e:=e) b.toNat (mch0 e a.toNat)
  have h5:(mch0 e a.toNat).stk.length=0:=rfl
  refine ⟨?_,?_⟩
  ·show (trM c e b.toNat (mch0 e a.toNat)).vars.length≤_
   rw [h3];exact Nat.le_refl _
  ·show ((trM c e b.toNat (mch0 e a.toNat)).stk.reverse).length≤_
   rw [List.length_reverse];omega
 ·rw [if_pos h];exact ⟨Nat.zero_le _,Nat.zero_le _⟩
end Go.Pb
namespace Go.Proofs.YtcallbfckjlagaaGreat
open Go.Eng (IC IOper DReg IFn IsFn)
open Go.Sym Go.Pb
section
abbrev u14_6:IC:=qS [oM 63 12,oM 64 16,oB 65 63 64 .eql,oM 66 65,gM 67 11 66,gM 68 15 66,oG 69 (.bin .eql (.t 67) (.t 68)) 66,oJ 70 66 69,oM 71 70,gM 72 9 71,gM 73 13 71,⟨some 74,.call 11 [.t 72,.t 73],some (71,true)⟩,oJ 75 71 74,oM 76 75,gM 77 10 76,gM 78 14 76,⟨some 79,.call 12 [.t 77,.t 78],some (76,true)⟩,oJ 80 76 79,oM 81 80,gM 82 19 81,gM 83 22 81,oG 84 (.bin .eql (.t 82) (.t 83)) 81,oJ 85 81 84,oM 86 85,gM 87 17 86,gM 88 20 86,⟨some 89,.call 11 [.t 87,.t 88],some (86,true)⟩,oJ 90 86 89,oM 91 90,gM 92 18 91,gM 93 21 91,⟨some 94,.call 11 [.t 92,.t 93],some (91,true)⟩,oJ 95 91 94,oM 8 95] .ret [9,10,11,12,13,14,15,16,17,18,19,20,21,22]
abbrev u14_5:IC:=qS [oD 54 4 7,oM 55 1,oD 56 6 6,oM 57 3,oK 58 57 .quo 3,oC 59 29 [.t 54,.t 55,.t 56,.t 58],oM 53 59,oE 60 53 0,oE 61 53 1,oE 62 53 2,oM 20 60,oM 21 61,oM 22 62] u14_6 [1,3,4,6,9,10,11,12,13,14,15,16,17,18,19]
abbrev u14_4:IC:=qS [oD 44 4 7,oM 45 1,oD 46 6 6,oM 47 3,oK 48 47 .quo 3,oC 49 18 [.t 44,.t 45,.t 46,.t 48],oM 43 49,oE 50 43 0,oE 51 43 1,oE 52 43 2,oM 17 50,oM 18 51,oM 19 52] u14_5 [1,3,4,6,9,10,11,12,13,14,15,16]
abbrev u14_3:IC:=qS [oD 34 4 7,oM 35 1,oD 36 6 6,oM 37 3,oC 38 28 [.t 34,.t 35,.t 36,.t 37],oM 33 38,oE 39 33 0,oE 40 33 1,oE 41 33 2,oE 42 33 3,oM 13 39,oM 14 40,oM 15 41,oM 16 42] u14_4 [1,3,4,6,9,10,11,12]
abbrev u14_2:IC:=qS [oD 24 4 7,oM 25 1,oD 26 6 6,oM 27 3,oC 28 10 [.t 24,.t 25,.t 26,.t 27],oM 23 28,oE 29 23 0,oE 30 23 1,oE 31 23 2,oE 32 23 3,oM 9 29,oM 10 30,oM 11 31,oM 12 32] u14_3 [1,3,4,6]
abbrev u14_1:IC:=qS [oX 4 0,oX 6 2,oV 8 (.bool false)] u14_2 [0,1,2,3]
def u14:IFn:=⟨96,u14_1,[.tmp 8]⟩
end
theorem isU14:IsFn Tryz.prog 14 u14:=by unfold IsFn;kernel_rfl
theorem c_runs (c:Prg) (e:Envr) (a n:Int) (z:Sized c e):PC Tryz.prog 14 [c.v,I64 a,e.v,I64 n] (.bool true):=by
 refine PC.of mixedU isU14 (Nat.le_of_ble_eq_true rfl) (by simp [DV.nlL,DV.nl,nlL_ints,nlL_strs,nlL_instrs,nlL_entries]) rfl ?_
 show IW Tryz.prog 96 u14_1 ⟨argT _,_,_⟩ (rt [.tmp 8] _)
 have q3:binR .quo (.int .i64 n) (.int .i64 3)=some (.int .i64 (IntKind.i64.wrap (n.tdiv 3))):=r_quo (by omega)
 generalize IntKind.i64.wrap (n.tdiv 3)=m at *
 have hn2:=z.n2
 obtain ⟨A,X,s,k,hr⟩:∃ A X s k,execM c e a n=(A,X,s,k):=⟨_,_,_,_,rfl⟩
 obtain ⟨B,T,d,ht⟩:∃ B T d,traceM c e a m=(B,T,d):=⟨_,_,_,rfl⟩
 have l1:=exec_lens c e a n
 have l2:=trace_lens c e a m
 have c1:=c_Exec c e a n z
 have c2:=c_ExecR c e a n z
 have c3:=c_Trace c e a m z
 have c4:=c_TraceR c e a m z
 rw [hr] at l1 c1 c2
 rw [ht] at l2 c3 c4
 simp only at l1 l2
 have c1':PC Tryz.prog 10 [c.v,I64 a,e.v,I64 n] (.tup [ints A,effsV X,I64 (s:Int),I64 k]):=c1
 have c2':PC Tryz.prog 28 [c.v,I64 a,e.v,I64 n] (.tup [ints A,effsV X,I64 (s:Int),I64 k]):=c2
 have c3':PC Tryz.prog 18 [c.v,I64 a,e.v,I64 m] (.tup [ints B,ints T,I64 d]):=c3
 have c4':PC Tryz.prog 29 [c.v,I64 a,e.v,I64 m] (.tup [ints B,ints T,I64 d]):=c4
 have cA:=c_SameInts A A (by omega)
 have cB:=c_SameInts B B (by omega)
 have cT:=c_SameInts T T (by omega)
 have cX:=c_SameEffR X X (by omega)
 have dd:∀ (l:List Int),decide (l=l)=true:=fun l=>by simp
 have dX:decide (X=X)=true:=by simp
 rw [dd] at cA cB cT
 rw [dX] at cX
 have r1:∀ i:Int,(i == i)=true:=fun i=>by simp
 repeat' ((with_reducible first|refine wr ?_|refine cpc c1' ?_|refine cpc c2' ?_|refine cpc c3' ?_|refine cpc c4' ?_|refine cpc cA ?_|refine cpc cX ?_|refine cpc cB ?_|refine cpc cT ?_|refine wb2 ?_ ?_<;>(intro hb;try simp only [hb])|fail)<;>try simp only [go_sem,seval,q3,r1])
 exact pc_ret rfl
end Go.Proofs.YtcallbfckjlagaaGreat
set_option maxHeartbeats 4000000
namespace Go.Proofs.YtcallbfckjlagaaGreat
open Go.Eng (IC IOper DReg IFn IsFn)
open Go.Sym Go.Pb
section
abbrev u20_5:IC:=qS [oI 4 0] .ret []
abbrev u20_4:IC:=qK u20_5 .skip (.t 14) [0,1,14]
abbrev u20_3:IC:=qP [oM 5 0,oN 6 5,oF 7 6 1,oL 8 7,oM 9 0,oN 10 9,oF 11 10 0,oL 12 11,oH 13 12,oB 14 8 13 .geq] u20_4 0 10 [0,1]
abbrev u20_7:IC:=qP [oM 22 0,oN 23 22,oF 24 23 0,oL 25 24,oM 26 0,oN 27 26,oF 28 27 1,oL 29 28,oK 30 29 .sub 1,oA 31 25 30 1,oL 32 31,oP 33 (.cvi .i64 (.t 32)),oM 34 1,oB 35 33 34 .rem,oM 4 35] .ret 16384 15 [0,1]
abbrev u20_6:IC:=qS [oM 15 0,oN 16 15,oF 17 16 1,oL 18 17,oK 19 18 .add 1,oN 20 15,oF 21 20 1,oS 21 19 1] u20_7 [0,1]
abbrev u20_2:IC:=qQ u20_3 u20_6 [0,1]
abbrev u20_1:IC:=qS [oI 4 0] u20_2 [0,1]
def u20:IFn:=⟨36,u20_1,[.tmp 4]⟩
end
theorem isU20:IsFn Tryz.prog 20 u20:=by unfold IsFn;kernel_rfl
theorem c_next (l:List UInt8) (hl:l.length≤100000) (p:Nat) (hp:p≤l.length) (n:Nat) (h0:1≤n) (hn:n≤100000) (H:Hp) (cc t:Nat) (ht:H t=some (tapeB l p)) (htc:t<cc) :
  AC Tryz.prog 20 [.ptr t 0,I64 n] H cc (fun v H' c'=>v=I64 ((nextM l p n).1:Int)∧H'=H.upd t (tapeB l (nextM l p n).2)):=by
 refine AC.body mixedU isU20 (Nat.le_of_ble_eq_true rfl) fun hfr=>?_
 show IW Tryz.prog 36 u20_1 ⟨argT _,_,_⟩ (rt [.tmp 4] _)
 by_cases hlt:p<l.length
 ·have hd:decide ((p:Int)≥l.length)=false:=by simp;omega
  have hg:=getB hlt
  have hw:=w64 (n:=(p:Int)+1) (by omega) (by omega)
  have hw1:((p:Int)+1-1)=(p:Int):=by omega
  have hw2:=w64 (n:=(p:Int)) (by omega) (by omega)
  have hb:=wb64 (l.getD p 0)
  have hm:=nat_tmod (l.getD p 0).toNat n
  have hnz:¬(n:Int)=0:=by omega
  have hlen:=bytesC_len l
  repeat' ((with_reducible first|refine wr ?_|refine wb2 ?_ ?_<;>(intro hb;try simp only [hb])|fail)<;>try simp only [go_sem,seval,ht,hd,hg,hw,hw1,hw2,hb,hm,hnz,r_rem,hlen])
  have e:nextM l p n=((l.getD p 0).toNat % n,p+1):=by rw [nextM,if_neg (by omega)]
  rw [e]
  exact ⟨_,_,GL.refl _ _,rfl,rfl⟩
 ·have hd:decide ((p:Int)≥l.length)=true:=by simp;omega
  have hlen:=bytesC_len l
  repeat' ((with_reducible first|refine wr ?_|refine wb2 ?_ ?_<;>(intro hb;try simp only [hb])|fail)<;>try simp only [go_sem,seval,ht,hd,hlen])
  have e:nextM l p n=(0,p):=by rw [nextM,if_pos (by omega)]
  rw [e]
  refine ⟨_,_,GL.refl _ _,rfl,?_⟩
  funext j
  by_cases ej:j=t
  ·subst ej;rw [h_same,ht]
  ·rw [h_ne ej]
end Go.Proofs.YtcallbfckjlagaaGreat
namespace Go.Proofs.YtcallbfckjlagaaGreat
open Go.Eng (IC IOper DReg IFn IsFn)
open Go.Sym Go.Pb
section
abbrev u35_6:IC:=qE [oI 5 0] [0,1]
abbrev u35_5:IC:=qK u35_6 .skip (.t 15) [0,1,5,15]
abbrev u35_4:IC:=qS [oM 10 1,oK 11 10 .leq 0,oM 12 11,gM 13 5 12,gK 14 13 12 .gtr 5,oJ 15 12 14] u35_5 [0,1,5]
abbrev u35_12:IC:=qS [oM 19 0,oC 20 20 [.t 19,.k (.int .i64 3)],oP 21 (.bld #[.int .i64 0,.int .i64 0] [(0,1),(1,1)] [(0,.k (.int .i64 2)),(1,.t 20)]),⟨some 22,.new (.bsl 2 1 #[.int .i64 0,.int .i64 0] [(0,.t 21)]),none⟩,oM 4 22] .ret [0]
abbrev u35_15:IC:=qS [oM 25 0,oC 26 20 [.t 25,.k (.int .i64 64)],oP 27 (.bld #[.int .i64 0,.int .i64 0] [(0,1),(1,1)] [(0,.k (.int .i64 4)),(1,.t 26)]),⟨some 28,.new (.bsl 2 1 #[.int .i64 0,.int .i64 0] [(0,.t 27)]),none⟩,oM 4 28] .ret [0]
abbrev u35_18:IC:=qS [oM 31 0,oC 32 20 [.t 31,.k (.int .i64 2)],oP 33 (.bld #[.int .i64 0,.int .i64 0] [(0,1),(1,1)] [(0,.k (.int .i64 5)),(1,.t 32)]),⟨some 34,.new (.bsl 2 1 #[.int .i64 0,.int .i64 0] [(0,.t 33)]),none⟩,oM 4 34] .ret [0]
abbrev u35_21:IC:=qS [oM 37 0,oC 38 20 [.t 37,.k (.int .i64 2)],oP 39 (.bld #[.int .i64 0,.int .i64 0] [(0,1),(1,1)] [(0,.k (.int .i64 6)),(1,.t 38)]),⟨some 40,.new (.bsl 2 1 #[.int .i64 0,.int .i64 0] [(0,.t 39)]),none⟩,oM 4 40] .ret [0]
abbrev u35_24:IC:=qS [oM 43 0,oC 44 20 [.t 43,.k (.int .i64 2)],oP 45 (.bin .add (.k (.int .i64 7)) (.t 44)),oP 46 (.bld #[.int .i64 0,.int .i64 0] [(0,1),(1,1)] [(0,.t 45)]),⟨some 47,.new (.bsl 2 1 #[.int .i64 0,.int .i64 0] [(0,.t 46)]),none⟩,oM 4 47] .ret [0]
abbrev u35_27:IC:=qS [oM 50 0,oM 51 1,oK 52 51 .sub 1,oC 53 35 [.t 50,.t 52],oM 54 0,oC 55 20 [.t 54,.k (.int .i64 2)],oP 56 (.bin .add (.k (.int .i64 9)) (.t 55)),oP 57 (.bld #[.int .i64 0,.int .i64 0] [(0,1),(1,1)] [(0,.t 56)]),⟨some 58,.new (.bsl 2 1 #[.int .i64 0,.int .i64 0] [(0,.t 57)]),none⟩,oT 59 53 58 2 16,oM 4 59] .ret [0,1]
abbrev u35_31:IC:=qE [oK 62 16 .eql 8,oM 60 62] [0,1,16]
abbrev u35_30:IC:=qK .skip u35_31 (.t 60) [0,1,16,60]
abbrev u35_29:IC:=qS [oK 61 16 .eql 7,oM 60 61] u35_30 [0,1,16]
abbrev u35_35:IC:=qS [oM 71 6,oM 72 7,oT 73 71 72 2 16,oM 74 0,oC 75 20 [.t 74,.k (.int .i64 13)],oP 76 (.bin .add (.k (.int .i64 12)) (.t 75)),oP 77 (.bld #[.int .i64 0,.int .i64 0] [(0,1),(1,1)] [(0,.k (.int .i64 11)),(1,.t 76)]),⟨some 78,.new (.bsl 2 1 #[.int .i64 0,.int .i64 0] [(0,.t 77)]),none⟩,oT 79 73 78 2 16,oM 4 79] .ret [0,6,7]
abbrev u35_34:IC:=qS [oM 67 0,oM 68 1,oK 69 68 .sub 1,oC 70 35 [.t 67,.t 69],oM 7 70] u35_35 [0,1,6]
abbrev u35_33:IC:=qS [oM 63 0,oM 64 1,oK 65 64 .sub 1,oC 66 35 [.t 63,.t 65],oM 6 66] u35_34 [0,1]
abbrev u35_32:IC:=qK u35_33 .skip (.t 60) [0,1,60]
abbrev u35_28:IC:=qQ u35_29 u35_32 [0,1,16]
abbrev u35_26:IC:=qK u35_27 u35_28 (.t 48) [0,1,16,48]
abbrev u35_25:IC:=qS [oK 49 16 .eql 6,oM 48 49] u35_26 [0,1,16]
abbrev u35_23:IC:=qK u35_24 u35_25 (.t 41) [0,1,16,41]
abbrev u35_22:IC:=qS [oK 42 16 .eql 5,oM 41 42] u35_23 [0,1,16]
abbrev u35_20:IC:=qK u35_21 u35_22 (.t 35) [0,1,16,35]
abbrev u35_19:IC:=qS [oK 36 16 .eql 4,oM 35 36] u35_20 [0,1,16]
abbrev u35_17:IC:=qK u35_18 u35_19 (.t 29) [0,1,16,29]
abbrev u35_16:IC:=qS [oK 30 16 .eql 3,oM 29 30] u35_17 [0,1,16]
abbrev u35_14:IC:=qK u35_15 u35_16 (.t 23) [0,1,16,23]
abbrev u35_13:IC:=qS [oK 24 16 .eql 2,oM 23 24] u35_14 [0,1,16]
abbrev u35_11:IC:=qK u35_12 u35_13 (.t 17) [0,1,16,17]
abbrev u35_10:IC:=qS [oK 18 16 .eql 1,oM 17 18] u35_11 [0,1,16]
abbrev u35_9:IC:=qJ u35_10 0 [0,1,16]
abbrev u35_8:IC:=qS [oM 16 5] u35_9 [0,1,5]
abbrev u35_36:IC:=qS [⟨some 80,.new (.bsl 1 10 #[.int .i64 0] [(0,.k (.int .i64 0)),(1,.k (.int .i64 1)),(2,.k (.int .i64 2)),(3,.k (.int .i64 3)),(4,.k (.int .i64 (-1))),(5,.k (.int .i64 7)),(6,.k (.int .i64 1000)),(7,.k (.int .i64 2147483647)),(8,.k (.int .i64 (-2147483647))),(9,.k (.int .i64 65536))]),none⟩,oM 81 0,oC 82 20 [.t 81,.k (.int .i64 10)],oA 83 80 82 1,oL 84 83,oP 85 (.bld #[.int .i64 0,.int .i64 0] [(0,1),(1,1)] [(0,.k (.int .i64 1)),(1,.t 84)]),⟨some 86,.new (.bsl 2 1 #[.int .i64 0,.int .i64 0] [(0,.t 85)]),none⟩,oM 4 86] .ret [0]
abbrev u35_7:IC:=qQ u35_8 u35_36 [0,1,5]
abbrev u35_3:IC:=qQ u35_4 u35_7 [0,1,5]
abbrev u35_2:IC:=qS [oM 8 0,oC 9 20 [.t 8,.k (.int .i64 9)],oM 5 9] u35_3 [0,1]
abbrev u35_1:IC:=qS [oV 4 (.slice none 0 0)] u35_2 [0,1]
def u35:IFn:=⟨87,u35_1,[.tmp 4]⟩
end
theorem isU35:IsFn Tryz.prog 35 u35:=by unfold IsFn;kernel_rfl
theorem v_end {l:List UInt8} {H H':Hp} {cc t id c' p:Nat} {L:List Ins} {d:DV} (hfr:∀ id,cc≤id→H id=none) (h1:cc≤id) (h2:id<c') (htc:t<cc) (hd:d=.slc id 0 L.length)
  (hT:H' t=some (tapeB l p)) (hI:H' id=some ⟨2,true,insC L⟩) (hO:∀ j,j<cc→j≠t→H' j=H j) :
  ∃ v2 H2,GL H' [d] H2 [v2]∧∃ id,cc≤id∧id<c'∧v2=.slc id 0 L.length∧H2=(H.upd t (tapeB l p)).upd id ⟨2,true,insC L⟩:=by
 subst hd
 refine ⟨_,(H.upd t (tapeB l p)).upd id ⟨2,true,insC L⟩,GL.less fun j=>?_,id,h1,h2,rfl,rfl⟩
 by_cases e1:j=id
 ·subst e1;right;rw [h_same,hI]
 rw [h_ne e1]
 by_cases e2:j=t
 ·subst e2;right;rw [h_same,hT]
 rw [h_ne e2]
 by_cases e3:j<cc
 ·right;exact (hO j e3 e2).symm
 ·left;exact hfr j (by omega)
theorem c_value (l:List UInt8) (hl:l.length≤100000):∀ (d:Nat),d≤2→∀ (p:Nat),p≤l.length→∀ (H:Hp) (cc t:Nat),H t=some (tapeB l p)→t<cc →
  AC Tryz.prog 35 [.ptr t 0,I64 d] H cc (fun v H' c' => ∃ id,cc≤id∧id<c'∧v=.slc id 0 (valueM l d p).1.length∧H'=(H.upd t (tapeB l (valueM l d p).2)).upd id ⟨2,true,insC (valueM l d p).1⟩):=by
 intro d
 induction d with
 | zero =>
  intro hd2 p hp H cc t ht htc
  refine AC.body mixedU isU35 (Nat.le_of_ble_eq_true rfl) fun hfr=>?_
  show IW Tryz.prog 87 u35_1 ⟨argT _,_,_⟩ (rt [.tmp 4] _)
  repeat' ((with_reducible first|refine wr ?_|refine wb2 ?_ ?_<;>(intro hb;try simp only [hb])|fail)<;>try simp only [go_sem,seval])
  refine AC.call (c_next l hl p hp 9 (by omega) (by omega) H cc t ht htc) ?_
  rintro v H' c' ⟨rfl,rfl⟩ hcc
  have hp1:=nextM_le (n:=9) hp
  have hk:=nextM_lt (l:=l) (p:=p) (n:=9) (by omega)
  obtain ⟨k0,p1,e0⟩:∃ k0 p1,nextM l p 9=(k0,p1):=⟨_,_,rfl⟩
  rw [e0] at hp1 hk ⊢
  simp only at hp1 hk
  have hv:k0=1∨k0=2∨k0=3∨k0=4∨k0=5∨(k0=0∨k0=6∨k0=7∨k0=8):=by omega
  have n0:((0:Nat):Int)=0:=rfl
  have n1:((1:Nat):Int)=1:=rfl
  have n2:((2:Nat):Int)=2:=rfl
  have n3:((3:Nat):Int)=3:=rfl
  have n4:((4:Nat):Int)=4:=rfl
  have n5:((5:Nat):Int)=5:=rfl
  have n6:((6:Nat):Int)=6:=rfl
  have n7:((7:Nat):Int)=7:=rfl
  have n8:((8:Nat):Int)=8:=rfl
  rcases hv with rfl|rfl|rfl|rfl|rfl|hv
  ·simp only [go_sem,seval,n0,n1,n2,n3,n4,n5,Int.reduceGT,Int.reduceBEq,Int.reduceLE,decide_true,decide_false]
   repeat' ((with_reducible first|refine wr ?_|refine wb2 ?_ ?_<;>(intro hb;try simp only [hb])|fail)<;>try simp only [go_sem,seval,n0,n1,n2,n3,n4,n5,Int.reduceGT,Int.reduceBEq,Int.reduceLE,decide_true,decide_false])
   refine AC.call (c_next l hl p1 hp1 3 (by omega) (by omega) (H.upd t (tapeB l p1)) c' t h_same (by omega)) ?_
   rintro v H' c2 ⟨rfl,rfl⟩ hcc2
   have hq:=nextM_lt (l:=l) (p:=p1) (n:=3) (by omega)
   have hadd:=w64 (n:=7+((nextM l p1 3).1:Int)) (by omega) (by omega)
   simp only [go_sem,seval]
   repeat' ((with_reducible first|refine wr ?_|refine wb2 ?_ ?_<;>(intro hb;try simp only [hb])|fail)<;>try simp only [go_sem,seval,hadd])
   have ev:valueM l 0 p=([⟨2,((nextM l p1 3).1:Int)⟩],(nextM l p1 3).2):=by simp [valueM,e0]
   rw [ev]
   refine v_end hfr (by omega) (by omega) htc rfl ?_ ?_ fun j h1 h2=>?_
   ·rw [h_ne (by omega),h_same]
   ·rw [h_same,insC_one]
   ·rw [h_ne (by omega),h_ne h2,h_ne h2]
  ·simp only [go_sem,seval,n0,n1,n2,n3,n4,n5,Int.reduceGT,Int.reduceBEq,Int.reduceLE,decide_true,decide_false]
   repeat' ((with_reducible first|refine wr ?_|refine wb2 ?_ ?_<;>(intro hb;try simp only [hb])|fail)<;>try simp only [go_sem,seval,n0,n1,n2,n3,n4,n5,Int.reduceGT,Int.reduceBEq,Int.reduceLE,decide_true,decide_false])
   refine AC.call (c_next l hl p1 hp1 64 (by omega) (by omega) (H.upd t (tapeB l p1)) c' t h_same (by omega)) ?_
   rintro v H' c2 ⟨rfl,rfl⟩ hcc2
   have hq:=nextM_lt (l:=l) (p:=p1) (n:=64) (by omega)
   have hadd:=w64 (n:=7+((nextM l p1 64).1:Int)) (by omega) (by omega)
   simp only [go_sem,seval]
   repeat' ((with_reducible first|refine wr ?_|refine wb2 ?_ ?_<;>(intro hb;try simp only [hb])|fail)<;>try simp only [go_sem,seval,hadd])
   have ev:valueM l 0 p=([⟨4,((nextM l p1 64).1:Int)⟩],(nextM l p1 64).2):=by simp [valueM,e0]
   rw [ev]
   refine v_end hfr (by omega) (by omega) htc rfl ?_ ?_ fun j h1 h2=>?_
   ·rw [h_ne (by omega),h_same]
   ·rw [h_same,insC_one]
   ·rw [h_ne (by omega),h_ne h2,h_ne h2]
  ·simp only [go_sem,seval,n0,n1,n2,n3,n4,n5,Int.reduceGT,Int.reduceBEq,Int.reduceLE,decide_true,decide_false]
   repeat' ((with_reducible first|refine wr ?_|refine wb2 ?_ ?_<;>(intro hb;try simp only [hb])|fail)<;>try simp only [go_sem,seval,n0,n1,n2,n3,n4,n5,Int.reduceGT,Int.reduceBEq,Int.reduceLE,decide_true,decide_false])
   refine AC.call (c_next l hl p1 hp1 2 (by omega) (by omega) (H.upd t (tapeB l p1)) c' t h_same (by omega)) ?_
   rintro v H' c2 ⟨rfl,rfl⟩ hcc2
   have hq:=nextM_lt (l:=l) (p:=p1) (n:=2) (by omega)
   have hadd:=w64 (n:=7+((nextM l p1 2).1:Int)) (by omega) (by omega)
   simp only [go_sem,seval]
   repeat' ((with_reducible first|refine wr ?_|refine wb2 ?_ ?_<;>(intro hb;try simp only [hb])|fail)<;>try simp only [go_sem,seval,hadd])
   have ev:valueM l 0 p=([⟨5,((nextM l p1 2).1:Int)⟩],(nextM l p1 2).2):=by simp [valueM,e0]
   rw [ev]
   refine v_end hfr (by omega) (by omega) htc rfl ?_ ?_ fun j h1 h2=>?_
   ·rw [h_ne (by omega),h_same]
   ·rw [h_same,insC_one]
   ·rw [h_ne (by omega),h_ne h2,h_ne h2]
  ·simp only [go_sem,seval,n0,n1,n2,n3,n4,n5,Int.reduceGT,Int.reduceBEq,Int.reduceLE,decide_true,decide_false]
   repeat' ((with_reducible first|refine wr ?_|refine wb2 ?_ ?_<;>(intro hb;try simp only [hb])|fail)<;>try simp only [go_sem,seval,n0,n1,n2,n3,n4,n5,Int.reduceGT,Int.reduceBEq,Int.reduceLE,decide_true,decide_false])
   refine AC.call (c_next l hl p1 hp1 2 (by omega) (by omega) (H.upd t (tapeB l p1)) c' t h_same (by omega)) ?_
   rintro v H' c2 ⟨rfl,rfl⟩ hcc2
   have hq:=nextM_lt (l:=l) (p:=p1) (n:=2) (by omega)
   have hadd:=w64 (n:=7+((nextM l p1 2).1:Int)) (by omega) (by omega)
   simp only [go_sem,seval]
   repeat' ((with_reducible first|refine wr ?_|refine wb2 ?_ ?_<;>(intro hb;try simp only [hb])|fail)<;>try simp only [go_sem,seval,hadd])
   have ev:valueM l 0 p=([⟨6,((nextM l p1 2).1:Int)⟩],(nextM l p1 2).2):=by simp [valueM,e0]
   rw [ev]
   refine v_end hfr (by omega) (by omega) htc rfl ?_ ?_ fun j h1 h2=>?_
   ·rw [h_ne (by omega),h_same]
   ·rw [h_same,insC_one]
   ·rw [h_ne (by omega),h_ne h2,h_ne h2]
  ·simp only [go_sem,seval,n0,n1,n2,n3,n4,n5,Int.reduceGT,Int.reduceBEq,Int.reduceLE,decide_true,decide_false]
   repeat' ((with_reducible first|refine wr ?_|refine wb2 ?_ ?_<;>(intro hb;try simp only [hb])|fail)<;>try simp only [go_sem,seval,n0,n1,n2,n3,n4,n5,Int.reduceGT,Int.reduceBEq,Int.reduceLE,decide_true,decide_false])
   refine AC.call (c_next l hl p1 hp1 2 (by omega) (by omega) (H.upd t (tapeB l p1)) c' t h_same (by omega)) ?_
   rintro v H' c2 ⟨rfl,rfl⟩ hcc2
   have hq:=nextM_lt (l:=l) (p:=p1) (n:=2) (by omega)
   have hadd:=w64 (n:=7+((nextM l p1 2).1:Int)) (by omega) (by omega)
   simp only [go_sem,seval]
   repeat' ((with_reducible first|refine wr ?_|refine wb2 ?_ ?_<;>(intro hb;try simp only [hb])|fail)<;>try simp only [go_sem,seval,hadd])
   have ev:valueM l 0 p=([⟨7+((nextM l p1 2).1:Int),0⟩],(nextM l p1 2).2):=by simp [valueM,e0]
   rw [ev]
   refine v_end hfr (by omega) (by omega) htc rfl ?_ ?_ fun j h1 h2=>?_
   ·rw [h_ne (by omega),h_same]
   ·rw [h_same,insC_one]
   ·rw [h_ne (by omega),h_ne h2,h_ne h2]
  ·rcases hv with rfl|rfl|rfl|rfl
   all_goals
    simp only [go_sem,seval,n0,n1,n2,n3,n4,n5,n6,n7,n8,Int.reduceGT,Int.reduceBEq,Int.reduceLE,decide_true,decide_false]
    repeat' ((with_reducible first|refine wr ?_|refine wb2 ?_ ?_<;>(intro hb;try simp only [hb])|fail)<;>try simp only [go_sem,seval,n0,n1,n2,n3,n4,n5,n6,n7,n8,Int.reduceGT,Int.reduceBEq,Int.reduceLE,decide_true,decide_false])
    refine AC.call (c_next l hl p1 hp1 10 (by omega) (by omega) _ (c'+1) t ((h_ne (by omega)).trans h_same) (by omega)) ?_
    rintro v H' c2 ⟨rfl,rfl⟩ hcc2
    have hq:=nextM_lt (l:=l) (p:=p1) (n:=10) (by omega)
    have hget:=push_get hq
    have ne0:=nes3 t c' c2 (by omega)
    simp only [go_sem,seval,hget,hq,ne0]
    repeat' ((with_reducible first|refine wr ?_|refine wb2 ?_ ?_<;>(intro hb;try simp only [hb])|fail)<;>try simp only [go_sem,seval,hget,hq,ne0])
    have ev:valueM l 0 p=([⟨1,pushT.getD (nextM l p1 10).1 0⟩],(nextM l p1 10).2):=by simp [valueM,e0]
    rw [ev]
    refine v_end hfr (by omega) (by omega) htc rfl ?_ ?_ fun j h1 h2=>?_
    ·rw [h_ne (by omega),h_same]
    ·rw [h_same,insC_one]
    ·rw [h_ne (by omega),h_ne h2,h_ne (by omega),h_ne h2]
 | succ d ih =>
  intro hd2 p hp H cc t ht htc
  refine AC.body mixedU isU35 (Nat.le_of_ble_eq_true rfl) fun hfr=>?_
  show IW Tryz.prog 87 u35_1 ⟨argT _,_,_⟩ (rt [.tmp 4] _)
  repeat' ((with_reducible first|refine wr ?_|refine wb2 ?_ ?_<;>(intro hb;try simp only [hb])|fail)<;>try simp only [go_sem,seval])
  refine AC.call (c_next l hl p hp 9 (by omega) (by omega) H cc t ht htc) ?_
  rintro v H' c' ⟨rfl,rfl⟩ hcc
  have hp1:=nextM_le (n:=9) hp
  have hk:=nextM_lt (l:=l) (p:=p) (n:=9) (by omega)
  have hdl:decide (((d+1:Nat):Int)≤0)=false:=decide_eq_false (by omega)
  have hw1:=w64 (n:=((d+1:Nat):Int)-1) (by omega) (by omega)
  have hw2:((d+1:Nat):Int)-1=(d:Int):=by omega
  rw [hw2] at hw1
  obtain ⟨k0,p1,e0⟩:∃ k0 p1,nextM l p 9=(k0,p1):=⟨_,_,rfl⟩
  rw [e0] at hp1 hk ⊢
  simp only at hp1 hk
  have hv:k0=1∨k0=2∨k0=3∨k0=4∨k0=5∨k0=6∨k0=7∨k0=8∨k0=0:=by omega
  have n0:((0:Nat):Int)=0:=rfl
  have n1:((1:Nat):Int)=1:=rfl
  have n2:((2:Nat):Int)=2:=rfl
  have n3:((3:Nat):Int)=3:=rfl
  have n4:((4:Nat):Int)=4:=rfl
  have n5:((5:Nat):Int)=5:=rfl
  have n6:((6:Nat):Int)=6:=rfl
  have n7:((7:Nat):Int)=7:=rfl
  have n8:((8:Nat):Int)=8:=rfl
  rcases hv with rfl|rfl|rfl|rfl|rfl|rfl|rfl|rfl|rfl
  ·simp only [go_sem,seval,hdl,hw2,hw1,n0,n1,n2,n3,n4,n5,Int.reduceGT,Int.reduceBEq,Int.reduceLE,decide_true,decide_false]
   repeat' ((with_reducible first|refine wr ?_|refine wb2 ?_ ?_<;>(intro hb;try simp only [hb])|fail)<;>try simp only [go_sem,seval,hdl,hw2,hw1,n0,n1,n2,n3,n4,n5,Int.reduceGT,Int.reduceBEq,Int.reduceLE,decide_true,decide_false])
   refine AC.call (c_next l hl p1 hp1 3 (by omega) (by omega) (H.upd t (tapeB l p1)) c' t h_same (by omega)) ?_
   rintro v H' c2 ⟨rfl,rfl⟩ hcc2
   have hq:=nextM_lt (l:=l) (p:=p1) (n:=3) (by omega)
   have hadd:=w64 (n:=7+((nextM l p1 3).1:Int)) (by omega) (by omega)
   simp only [go_sem,seval]
   repeat' ((with_reducible first|refine wr ?_|refine wb2 ?_ ?_<;>(intro hb;try simp only [hb])|fail)<;>try simp only [go_sem,seval,hadd])
   have ev:valueM l (d+1) p=([⟨2,((nextM l p1 3).1:Int)⟩],(nextM l p1 3).2):=by simp [valueM,e0]
   rw [ev]
   refine v_end hfr (by omega) (by omega) htc rfl ?_ ?_ fun j h1 h2=>?_
   ·rw [h_ne (by omega),h_same]
   ·rw [h_same,insC_one]
   ·rw [h_ne (by omega),h_ne h2,h_ne h2]
  ·simp only [go_sem,seval,hdl,hw2,hw1,n0,n1,n2,n3,n4,n5,Int.reduceGT,Int.reduceBEq,Int.reduceLE,decide_true,decide_false]
   repeat' ((with_reducible first|refine wr ?_|refine wb2 ?_ ?_<;>(intro hb;try simp only [hb])|fail)<;>try simp only [go_sem,seval,hdl,hw2,hw1,n0,n1,n2,n3,n4,n5,Int.reduceGT,Int.reduceBEq,Int.reduceLE,decide_true,decide_false])
   refine AC.call (c_next l hl p1 hp1 64 (by omega) (by omega) (H.upd t (tapeB l p1)) c' t h_same (by omega)) ?_
   rintro v H' c2 ⟨rfl,rfl⟩ hcc2
   have hq:=nextM_lt (l:=l) (p:=p1) (n:=64) (by omega)
   have hadd:=w64 (n:=7+((nextM l p1 64).1:Int)) (by omega) (by omega)
   simp only [go_sem,seval]
   repeat' ((with_reducible first|refine wr ?_|refine wb2 ?_ ?_<;>(intro hb;try simp only [hb])|fail)<;>try simp only [go_sem,seval,hadd])
   have ev:valueM l (d+1) p=([⟨4,((nextM l p1 64).1:Int)⟩],(nextM l p1 64).2):=by simp [valueM,e0]
   rw [ev]
   refine v_end hfr (by omega) (by omega) htc rfl ?_ ?_ fun j h1 h2=>?_
   ·rw [h_ne (by omega),h_same]
   ·rw [h_same,insC_one]
   ·rw [h_ne (by omega),h_ne h2,h_ne h2]
  ·simp only [go_sem,seval,hdl,hw2,hw1,n0,n1,n2,n3,n4,n5,Int.reduceGT,Int.reduceBEq,Int.reduceLE,decide_true,decide_false]
   repeat' ((with_reducible first|refine wr ?_|refine wb2 ?_ ?_<;>(intro hb;try simp only [hb])|fail)<;>try simp only [go_sem,seval,hdl,hw2,hw1,n0,n1,n2,n3,n4,n5,Int.reduceGT,Int.reduceBEq,Int.reduceLE,decide_true,decide_false])
   refine AC.call (c_next l hl p1 hp1 2 (by omega) (by omega) (H.upd t (tapeB l p1)) c' t h_same (by omega)) ?_
   rintro v H' c2 ⟨rfl,rfl⟩ hcc2
   have hq:=nextM_lt (l:=l) (p:=p1) (n:=2) (by omega)
   have hadd:=w64 (n:=7+((nextM l p1 2).1:Int)) (by omega) (by omega)
   simp only [go_sem,seval]
   repeat' ((with_reducible first|refine wr ?_|refine wb2 ?_ ?_<;>(intro hb;try simp only [hb])|fail)<;>try simp only [go_sem,seval,hadd])
   have ev:valueM l (d+1) p=([⟨5,((nextM l p1 2).1:Int)⟩],(nextM l p1 2).2):=by simp [valueM,e0]
   rw [ev]
   refine v_end hfr (by omega) (by omega) htc rfl ?_ ?_ fun j h1 h2=>?_
   ·rw [h_ne (by omega),h_same]
   ·rw [h_same,insC_one]
   ·rw [h_ne (by omega),h_ne h2,h_ne h2]
  ·simp only [go_sem,seval,hdl,hw2,hw1,n0,n1,n2,n3,n4,n5,Int.reduceGT,Int.reduceBEq,Int.reduceLE,decide_true,decide_false]
   repeat' ((with_reducible first|refine wr ?_|refine wb2 ?_ ?_<;>(intro hb;try simp only [hb])|fail)<;>try simp only [go_sem,seval,hdl,hw2,hw1,n0,n1,n2,n3,n4,n5,Int.reduceGT,Int.reduceBEq,Int.reduceLE,decide_true,decide_false])
   refine AC.call (c_next l hl p1 hp1 2 (by omega) (by omega) (H.upd t (tapeB l p1)) c' t h_same (by omega)) ?_
   rintro v H' c2 ⟨rfl,rfl⟩ hcc2
   have hq:=nextM_lt (l:=l) (p:=p1) (n:=2) (by omega)
   have hadd:=w64 (n:=7+((nextM l p1 2).1:Int)) (by omega) (by omega)
   simp only [go_sem,seval]
   repeat' ((with_reducible first|refine wr ?_|refine wb2 ?_ ?_<;>(intro hb;try simp only [hb])|fail)<;>try simp only [go_sem,seval,hadd])
   have ev:valueM l (d+1) p=([⟨6,((nextM l p1 2).1:Int)⟩],(nextM l p1 2).2):=by simp [valueM,e0]
   rw [ev]
   refine v_end hfr (by omega) (by omega) htc rfl ?_ ?_ fun j h1 h2=>?_
   ·rw [h_ne (by omega),h_same]
   ·rw [h_same,insC_one]
   ·rw [h_ne (by omega),h_ne h2,h_ne h2]
  ·simp only [go_sem,seval,hdl,hw2,hw1,n0,n1,n2,n3,n4,n5,Int.reduceGT,Int.reduceBEq,Int.reduceLE,decide_true,decide_false]
   repeat' ((with_reducible first|refine wr ?_|refine wb2 ?_ ?_<;>(intro hb;try simp only [hb])|fail)<;>try simp only [go_sem,seval,hdl,hw2,hw1,n0,n1,n2,n3,n4,n5,Int.reduceGT,Int.reduceBEq,Int.reduceLE,decide_true,decide_false])
   refine AC.call (c_next l hl p1 hp1 2 (by omega) (by omega) (H.upd t (tapeB l p1)) c' t h_same (by omega)) ?_
   rintro v H' c2 ⟨rfl,rfl⟩ hcc2
   have hq:=nextM_lt (l:=l) (p:=p1) (n:=2) (by omega)
   have hadd:=w64 (n:=7+((nextM l p1 2).1:Int)) (by omega) (by omega)
   simp only [go_sem,seval]
   repeat' ((with_reducible first|refine wr ?_|refine wb2 ?_ ?_<;>(intro hb;try simp only [hb])|fail)<;>try simp only [go_sem,seval,hadd])
   have ev:valueM l (d+1) p=([⟨7+((nextM l p1 2).1:Int),0⟩],(nextM l p1 2).2):=by simp [valueM,e0]
   rw [ev]
   refine v_end hfr (by omega) (by omega) htc rfl ?_ ?_ fun j h1 h2=>?_
   ·rw [h_ne (by omega),h_same]
   ·rw [h_same,insC_one]
   ·rw [h_ne (by omega),h_ne h2,h_ne h2]
  ·simp only [go_sem,seval,hdl,hw2,hw1,n0,n1,n2,n3,n4,n5,n6,n7,n8,Int.reduceGT,Int.reduceBEq,Int.reduceLE,decide_true,decide_false]
   repeat' ((with_reducible first|refine wr ?_|refine wb2 ?_ ?_<;>(intro hb;try simp only [hb])|fail)<;>try simp only [go_sem,seval,hdl,hw2,hw1,n0,n1,n2,n3,n4,n5,n6,n7,n8,Int.reduceGT,Int.reduceBEq,Int.reduceLE,decide_true,decide_false])
   refine AC.call (ih (by omega) p1 hp1 (H.upd t (tapeB l p1)) c' t h_same (by omega)) ?_
   rintro v H' c2 ⟨id1,i1,i2,rfl,rfl⟩ hcc2
   have hp2:=valueM_le l d p1 hp1
   simp only [go_sem,seval]
   repeat' ((with_reducible first|refine wr ?_|refine wb2 ?_ ?_<;>(intro hb;try simp only [hb])|fail)<;>try simp only [go_sem,seval])
   refine AC.call (c_next l hl _ hp2 2 (by omega) (by omega) _ c2 t ((h_ne (by omega)).trans h_same) (by omega)) ?_
   rintro v H' c3 ⟨rfl,rfl⟩ hcc3
   have hq:=nextM_lt (l:=l) (p:=(valueM l d p1).2) (n:=2) (by omega)
   have hadd:=w64 (n:=9+((nextM l (valueM l d p1).2 2).1:Int)) (by omega) (by omega)
   have hvl:=valueM_len l d p1
   have hpw:2 ^ (d+1)≤2 ^ 3:=Nat.pow_le_pow_right (by omega) (by omega)
   have ne0:=nes4 t id1 c3 (c3+1) (by omega)
   simp only [go_sem,seval,hadd,ne0]
   repeat' ((first|(with_reducible first|refine wr ?_)|(with_reducible refine wb2 ?_ ?_<;>(intro hb;try simp only [hb]))|((with_reducible refine k_eval (b_appx (insC_len2 _) (by omega) (by omega)) ?_))|fail)<;>try simp only [go_sem,seval,hadd,ne0])
   rw [valueM_6 e0]
   refine v_end (id:=c3+1) hfr (by omega) (by omega) htc (by rw [List.length_append];rfl) ?_ ?_ fun j h1 h2=>?_
   ·simp only [go_sem,seval,ne0]
   ·rw [h_same,insC_app,insC_one]
   ·have q1:¬j=id1:=by omega
    have q2:¬j=c3:=by omega
    have q3:¬j=c3+1:=by omega
    simp only [go_sem,seval,h2,q1,q2,q3]
  ·simp only [go_sem,seval,hdl,hw2,hw1,n0,n1,n2,n3,n4,n5,n6,n7,n8,Int.reduceGT,Int.reduceBEq,Int.reduceLE,decide_true,decide_false]
   repeat' ((with_reducible first|refine wr ?_|refine wb2 ?_ ?_<;>(intro hb;try simp only [hb])|fail)<;>try simp only [go_sem,seval,hdl,hw2,hw1,n0,n1,n2,n3,n4,n5,n6,n7,n8,Int.reduceGT,Int.reduceBEq,Int.reduceLE,decide_true,decide_false])
   refine AC.call (ih (by omega) p1 hp1 (H.upd t (tapeB l p1)) c' t h_same (by omega)) ?_
   rintro v H' c2 ⟨id1,i1,i2,rfl,rfl⟩ hcc2
   have hp2:=valueM_le l d p1 hp1
   simp only [go_sem,seval,hw2,hw1]
   repeat' ((with_reducible first|refine wr ?_|refine wb2 ?_ ?_<;>(intro hb;try simp only [hb])|fail)<;>try simp only [go_sem,seval,hw2,hw1])
   refine AC.call (ih (by omega) _ hp2 _ c2 t ((h_ne (by omega)).trans h_same) (by omega)) ?_
   rintro v H' c3 ⟨id2,j1,j2,rfl,rfl⟩ hcc3
   have hp3:=valueM_le l d _ hp2
   have hvl:=valueM_len l d p1
   have hvl2:=valueM_len l d (valueM l d p1).2
   have hpw:2 ^ (d+1)≤2 ^ 3:=Nat.pow_le_pow_right (by omega) (by omega)
   have hl2:=insC_len2 (valueM l d (valueM l d p1).2).1
   have hle2:(valueM l d (valueM l d p1).2).1.length * 2≤(insC (valueM l d (valueM l d p1).2).1).length:=by omega
   have htk:=List.take_of_length_le (l:=insC (valueM l d (valueM l d p1).2).1) (i:=(valueM l d (valueM l d p1).2).1.length * 2) (by omega)
   have ne0:=nes4 t id1 id2 c3 (by omega)
   simp only [go_sem,seval,ne0,hle2,htk]
   repeat' ((first|(with_reducible first|refine wr ?_)|(with_reducible refine wb2 ?_ ?_<;>(intro hb;try simp only [hb]))|((with_reducible refine k_eval (b_appx (insC_len2 _) (by omega) (by omega)) ?_))|fail)<;>try simp only [go_sem,seval,ne0,hle2,htk])
   refine AC.call (c_next l hl _ hp3 13 (by omega) (by omega) _ (c3+1) t (by repeat (first|exact h_same|rw [h_ne (by omega)]|rw [h_dne (by omega)])) (by omega)) ?_
   rintro v H' c4 ⟨rfl,rfl⟩ hcc4
   have hq:=nextM_lt (l:=l) (p:=(valueM l d (valueM l d p1).2).2) (n:=13) (by omega)
   have hadd:=w64 (n:=12+((nextM l (valueM l d (valueM l d p1).2).2 13).1:Int)) (by omega) (by omega)
   have hl3:(insC (valueM l d p1).1++insC (valueM l d (valueM l d p1).2).1).length=((valueM l d p1).1.length+(valueM l d (valueM l d p1).2).1.length) * 2:=by rw [List.length_append,insC_len,insC_len];omega
   have ne0:=nes4 t c3 c4 (c4+1) (by omega)
   simp only [go_sem,seval,hadd,ne0]
   repeat' ((first|(with_reducible first|refine wr ?_)|(with_reducible refine wb2 ?_ ?_<;>(intro hb;try simp only [hb]))|((with_reducible refine k_eval (b_appx hl3 (by omega) (by omega)) ?_))|fail)<;>try simp only [go_sem,seval,hadd,ne0])
   rw [valueM_7 e0]
   refine v_end (id:=c4+1) hfr (by omega) (by omega) htc (by simp only [List.length_append,List.length_singleton]) ?_ ?_ fun j h1 h2=>?_
   ·repeat (first|exact h_same|rw [h_ne (by omega)]|rw [h_dne (by omega)])
   ·rw [h_same,insC_app,insC_app,insC_one]
   ·repeat (first|rfl|rw [h_ne (by omega)]|rw [h_dne (by omega)])
  ·simp only [go_sem,seval,hdl,hw2,hw1,n0,n1,n2,n3,n4,n5,n6,n7,n8,Int.reduceGT,Int.reduceBEq,Int.reduceLE,decide_true,decide_false]
   repeat' ((with_reducible first|refine wr ?_|refine wb2 ?_ ?_<;>(intro hb;try simp only [hb])|fail)<;>try simp only [go_sem,seval,hdl,hw2,hw1,n0,n1,n2,n3,n4,n5,n6,n7,n8,Int.reduceGT,Int.reduceBEq,Int.reduceLE,decide_true,decide_false])
   refine AC.call (ih (by omega) p1 hp1 (H.upd t (tapeB l p1)) c' t h_same (by omega)) ?_
   rintro v H' c2 ⟨id1,i1,i2,rfl,rfl⟩ hcc2
   have hp2:=valueM_le l d p1 hp1
   simp only [go_sem,seval,hw2,hw1]
   repeat' ((with_reducible first|refine wr ?_|refine wb2 ?_ ?_<;>(intro hb;try simp only [hb])|fail)<;>try simp only [go_sem,seval,hw2,hw1])
   refine AC.call (ih (by omega) _ hp2 _ c2 t ((h_ne (by omega)).trans h_same) (by omega)) ?_
   rintro v H' c3 ⟨id2,j1,j2,rfl,rfl⟩ hcc3
   have hp3:=valueM_le l d _ hp2
   have hvl:=valueM_len l d p1
   have hvl2:=valueM_len l d (valueM l d p1).2
   have hpw:2 ^ (d+1)≤2 ^ 3:=Nat.pow_le_pow_right (by omega) (by omega)
   have hl2:=insC_len2 (valueM l d (valueM l d p1).2).1
   have hle2:(valueM l d (valueM l d p1).2).1.length * 2≤(insC (valueM l d (valueM l d p1).2).1).length:=by omega
   have htk:=List.take_of_length_le (l:=insC (valueM l d (valueM l d p1).2).1) (i:=(valueM l d (valueM l d p1).2).1.length * 2) (by omega)
   have ne0:=nes4 t id1 id2 c3 (by omega)
   simp only [go_sem,seval,ne0,hle2,htk]
   repeat' ((first|(with_reducible first|refine wr ?_)|(with_reducible refine wb2 ?_ ?_<;>(intro hb;try simp only [hb]))|((with_reducible refine k_eval (b_appx (insC_len2 _) (by omega) (by omega)) ?_))|fail)<;>try simp only [go_sem,seval,ne0,hle2,htk])
   refine AC.call (c_next l hl _ hp3 13 (by omega) (by omega) _ (c3+1) t (by repeat (first|exact h_same|rw [h_ne (by omega)]|rw [h_dne (by omega)])) (by omega)) ?_
   rintro v H' c4 ⟨rfl,rfl⟩ hcc4
   have hq:=nextM_lt (l:=l) (p:=(valueM l d (valueM l d p1).2).2) (n:=13) (by omega)
   have hadd:=w64 (n:=12+((nextM l (valueM l d (valueM l d p1).2).2 13).1:Int)) (by omega) (by omega)
   have hl3:(insC (valueM l d p1).1++insC (valueM l d (valueM l d p1).2).1).length=((valueM l d p1).1.length+(valueM l d (valueM l d p1).2).1.length) * 2:=by rw [List.length_append,insC_len,insC_len];omega
   have ne0:=nes4 t c3 c4 (c4+1) (by omega)
   simp only [go_sem,seval,hadd,ne0]
   repeat' ((first|(with_reducible first|refine wr ?_)|(with_reducible refine wb2 ?_ ?_<;>(intro hb;try simp only [hb]))|((with_reducible refine k_eval (b_appx hl3 (by omega) (by omega)) ?_))|fail)<;>try simp only [go_sem,seval,hadd,ne0])
   rw [valueM_8 e0]
   refine v_end (id:=c4+1) hfr (by omega) (by omega) htc (by simp only [List.length_append,List.length_singleton]) ?_ ?_ fun j h1 h2=>?_
   ·repeat (first|exact h_same|rw [h_ne (by omega)]|rw [h_dne (by omega)])
   ·rw [h_same,insC_app,insC_app,insC_one]
   ·repeat (first|rfl|rw [h_ne (by omega)]|rw [h_dne (by omega)])
  ·simp only [go_sem,seval,hdl,hw2,hw1,n0,n1,n2,n3,n4,n5,n6,n7,n8,Int.reduceGT,Int.reduceBEq,Int.reduceLE,decide_true,decide_false]
   repeat' ((with_reducible first|refine wr ?_|refine wb2 ?_ ?_<;>(intro hb;try simp only [hb])|fail)<;>try simp only [go_sem,seval,hdl,hw2,hw1,n0,n1,n2,n3,n4,n5,n6,n7,n8,Int.reduceGT,Int.reduceBEq,Int.reduceLE,decide_true,decide_false])
   refine AC.call (c_next l hl p1 hp1 10 (by omega) (by omega) _ (c'+1) t ((h_ne (by omega)).trans h_same) (by omega)) ?_
   rintro v H' c2 ⟨rfl,rfl⟩ hcc2
   have hq:=nextM_lt (l:=l) (p:=p1) (n:=10) (by omega)
   have hget:=push_get hq
   have ne0:=nes3 t c' c2 (by omega)
   simp only [go_sem,seval,hget,hq,ne0]
   repeat' ((with_reducible first|refine wr ?_|refine wb2 ?_ ?_<;>(intro hb;try simp only [hb])|fail)<;>try simp only [go_sem,seval,hget,hq,ne0])
   have ev:valueM l (d+1) p=([⟨1,pushT.getD (nextM l p1 10).1 0⟩],(nextM l p1 10).2):=by simp [valueM,e0]
   rw [ev]
   refine v_end hfr (by omega) (by omega) htc rfl ?_ ?_ fun j h1 h2=>?_
   ·rw [h_ne (by omega),h_same]
   ·rw [h_same,insC_one]
   ·rw [h_ne (by omega),h_ne h2,h_ne (by omega),h_ne h2]
end Go.Proofs.YtcallbfckjlagaaGreat
namespace Go.Proofs.YtcallbfckjlagaaGreat
open Go.Eng (IC IOper DReg IFn IsFn)
open Go.Sym Go.Pb
section
abbrev u21_6:IC:=qE [oI 7 0] [0,1,2]
abbrev u21_5:IC:=qK u21_6 .skip (.t 21) [0,1,2,7,21]
abbrev u21_4:IC:=qS [oM 16 2,oK 17 16 .leq 0,oM 18 17,gM 19 7 18,gK 20 19 18 .gtr 11,oJ 21 18 20] u21_5 [0,1,2,7]
abbrev u21_12:IC:=qS [oM 25 0,oC 26 35 [.t 25,.k (.int .i64 1)],oP 27 (.bld #[.int .i64 0,.int .i64 0] [(0,1),(1,1)] [(0,.k (.int .i64 15))]),⟨some 28,.new (.bsl 2 1 #[.int .i64 0,.int .i64 0] [(0,.t 27)]),none⟩,oT 29 26 28 2 16,oM 6 29] .ret [0]
abbrev u21_15:IC:=qS [oM 32 0,oC 33 20 [.t 32,.k (.int .i64 3)],oP 34 (.bin .add (.k (.int .i64 16)) (.t 33)),oM 35 0,oC 36 20 [.t 35,.k (.int .i64 32)],oP 37 (.bld #[.int .i64 0,.int .i64 0] [(0,1),(1,1)] [(0,.t 34),(1,.t 36)]),⟨some 38,.new (.bsl 2 1 #[.int .i64 0,.int .i64 0] [(0,.t 37)]),none⟩,oM 6 38] .ret [0]
abbrev u21_18:IC:=qS [oM 41 0,oC 42 35 [.t 41,.k (.int .i64 0)],oM 43 0,oC 44 20 [.t 43,.k (.int .i64 64)],oP 45 (.bld #[.int .i64 0,.int .i64 0] [(0,1),(1,1)] [(0,.k (.int .i64 19)),(1,.t 44)]),⟨some 46,.new (.bsl 2 1 #[.int .i64 0,.int .i64 0] [(0,.t 45)]),none⟩,oT 47 42 46 2 16,oM 6 47] .ret [0]
abbrev u21_22:IC:=qS [oM 52 8,oM 53 0,oC 54 35 [.t 53,.k (.int .i64 0)],oT 55 52 54 2 16,oM 56 0,oC 57 20 [.t 56,.k (.int .i64 64)],oP 58 (.bld #[.int .i64 0,.int .i64 0] [(0,1),(1,1)] [(0,.k (.int .i64 20)),(1,.t 57)]),⟨some 59,.new (.bsl 2 1 #[.int .i64 0,.int .i64 0] [(0,.t 58)]),none⟩,oT 60 55 59 2 16,oM 6 60] .ret [0,8]
abbrev u21_21:IC:=qS [oM 50 0,oC 51 35 [.t 50,.k (.int .i64 0)],oM 8 51] u21_22 [0]
abbrev u21_25:IC:=qS [oM 63 0,oC 64 35 [.t 63,.k (.int .i64 1)],oM 65 0,oC 66 20 [.t 65,.k (.int .i64 2)],oP 67 (.bld #[.int .i64 0,.int .i64 0] [(0,1),(1,1)] [(0,.k (.int .i64 21)),(1,.t 66)]),⟨some 68,.new (.bsl 2 1 #[.int .i64 0,.int .i64 0] [(0,.t 67)]),none⟩,oT 69 64 68 2 16,oM 6 69] .ret [0]
abbrev u21_28:IC:=qS [oM 72 0,oC 73 20 [.t 72,.k (.int .i64 2)],oP 74 (.bld #[.int .i64 0,.int .i64 0] [(0,1),(1,1)] [(0,.k (.int .i64 22)),(1,.t 73)]),⟨some 75,.new (.bsl 2 1 #[.int .i64 0,.int .i64 0] [(0,.t 74)]),none⟩,oM 6 75] .ret [0]
abbrev u21_31:IC:=qS [oM 78 0,oC 79 20 [.t 78,.k (.int .i64 2)],oP 80 (.bin .add (.k (.int .i64 23)) (.t 79)),oM 81 0,oC 82 20 [.t 81,.k (.int .i64 2)],oP 83 (.bld #[.int .i64 0,.int .i64 0] [(0,1),(1,1)] [(0,.t 80),(1,.t 82)]),⟨some 84,.new (.bsl 2 1 #[.int .i64 0,.int .i64 0] [(0,.t 83)]),none⟩,oM 6 84] .ret [0]
abbrev u21_34:IC:=qS [oM 87 0,oC 88 20 [.t 87,.k (.int .i64 2)],oP 89 (.bld #[.int .i64 0,.int .i64 0] [(0,1),(1,1)] [(0,.k (.int .i64 25)),(1,.t 88)]),⟨some 90,.new (.bsl 2 1 #[.int .i64 0,.int .i64 0] [(0,.t 89)]),none⟩,oM 6 90] .ret [0]
abbrev u21_37:IC:=qS [oM 93 0,oC 94 20 [.t 93,.k (.int .i64 3)],oP 95 (.bin .add (.k (.int .i64 26)) (.t 94)),oM 96 0,oC 97 20 [.t 96,.k (.int .i64 64)],oP 98 (.bld #[.int .i64 0,.int .i64 0] [(0,1),(1,1)] [(0,.t 95),(1,.t 97)]),⟨some 99,.new (.bsl 2 1 #[.int .i64 0,.int .i64 0] [(0,.t 98)]),none⟩,oM 6 99] .ret [0]
abbrev u21_40:IC:=qS [oM 102 0,oC 103 35 [.t 102,.k (.int .i64 1)],oM 104 0,oC 105 20 [.t 104,.k (.int .i64 2)],oP 106 (.bld #[.int .i64 0,.int .i64 0] [(0,1),(1,1)] [(0,.k (.int .i64 29)),(1,.t 105)]),⟨some 107,.new (.bsl 2 1 #[.int .i64 0,.int .i64 0] [(0,.t 106)]),none⟩,oT 108 103 107 2 16,oM 6 108] .ret [0]
abbrev u21_43:IC:=qS [oP 111 (.bld #[.int .i64 0,.int .i64 0] [(0,1),(1,1)] [(0,.k (.int .i64 30))]),⟨some 112,.new (.bsl 2 1 #[.int .i64 0,.int .i64 0] [(0,.t 111)]),none⟩,oM 6 112] .ret []
abbrev u21_48:IC:=qS [oM 126 9,oM 127 1,oM 128 9,oH 129 128,oB 130 127 129 .add,oK 131 130 .add 1,oM 132 10,oH 133 132,oB 134 131 133 .add,oP 135 (.bld #[.int .i64 0,.int .i64 0] [(0,1),(1,1)] [(0,.k (.int .i64 13)),(1,.t 134)]),⟨some 136,.new (.bsl 2 1 #[.int .i64 0,.int .i64 0] [(0,.t 135)]),none⟩,oT 137 126 136 2 16,oM 138 10,oT 139 137 138 2 16,oM 6 139] .ret [1,9,10]
abbrev u21_47:IC:=qS [oM 117 0,oM 118 1,oM 119 9,oH 120 119,oB 121 118 120 .add,oK 122 121 .add 1,oM 123 2,oK 124 123 .sub 1,oC 125 21 [.t 117,.t 122,.t 124],oM 10 125] u21_48 [0,1,2,9]
abbrev u21_46:IC:=qS [oM 115 0,oC 116 35 [.t 115,.k (.int .i64 1)],oM 9 116] u21_47 [0,1,2]
abbrev u21_52:IC:=qE [oK 142 22 .eql 14,oM 140 142] [0,1,2,22]
abbrev u21_51:IC:=qK .skip u21_52 (.t 140) [0,1,2,22,140]
abbrev u21_50:IC:=qS [oK 141 22 .eql 13,oM 140 141] u21_51 [0,1,2,22]
abbrev u21_57:IC:=qS [oM 162 11,oM 163 13,oP 164 (.bld #[.int .i64 0,.int .i64 0] [(0,1),(1,1)] [(0,.k (.int .i64 14)),(1,.t 163)]),⟨some 165,.new (.bsl 2 1 #[.int .i64 0,.int .i64 0] [(0,.t 164)]),none⟩,oT 166 162 165 2 16,oM 167 12,oT 168 166 167 2 16,oM 169 1,oM 170 11,oH 171 170,oB 172 169 171 .add,oP 173 (.bld #[.int .i64 0,.int .i64 0] [(0,1),(1,1)] [(0,.k (.int .i64 12)),(1,.t 172)]),⟨some 174,.new (.bsl 2 1 #[.int .i64 0,.int .i64 0] [(0,.t 173)]),none⟩,oT 175 168 174 2 16,oM 6 175] .ret [1,11,12,13]
abbrev u21_56:IC:=qS [oM 154 1,oM 155 11,oH 156 155,oB 157 154 156 .add,oK 158 157 .add 2,oM 159 12,oH 160 159,oB 161 158 160 .add,oM 13 161] u21_57 [1,11,12]
abbrev u21_55:IC:=qS [oM 145 0,oM 146 1,oM 147 11,oH 148 147,oB 149 146 148 .add,oK 150 149 .add 1,oM 151 2,oK 152 151 .sub 1,oC 153 21 [.t 145,.t 150,.t 152],oM 12 153] u21_56 [0,1,2,11]
abbrev u21_54:IC:=qS [oM 143 0,oC 144 35 [.t 143,.k (.int .i64 0)],oM 11 144] u21_55 [0,1,2]
abbrev u21_53:IC:=qK u21_54 .skip (.t 140) [0,1,2,140]
abbrev u21_49:IC:=qQ u21_50 u21_53 [0,1,2,22]
abbrev u21_45:IC:=qK u21_46 u21_49 (.t 113) [0,1,2,22,113]
abbrev u21_44:IC:=qS [oK 114 22 .eql 12,oM 113 114] u21_45 [0,1,2,22]
abbrev u21_42:IC:=qK u21_43 u21_44 (.t 109) [0,1,2,22,109]
abbrev u21_41:IC:=qS [oK 110 22 .eql 11,oM 109 110] u21_42 [0,1,2,22]
abbrev u21_39:IC:=qK u21_40 u21_41 (.t 100) [0,1,2,22,100]
abbrev u21_38:IC:=qS [oK 101 22 .eql 10,oM 100 101] u21_39 [0,1,2,22]
abbrev u21_36:IC:=qK u21_37 u21_38 (.t 91) [0,1,2,22,91]
abbrev u21_35:IC:=qS [oK 92 22 .eql 9,oM 91 92] u21_36 [0,1,2,22]
abbrev u21_33:IC:=qK u21_34 u21_35 (.t 85) [0,1,2,22,85]
abbrev u21_32:IC:=qS [oK 86 22 .eql 8,oM 85 86] u21_33 [0,1,2,22]
abbrev u21_30:IC:=qK u21_31 u21_32 (.t 76) [0,1,2,22,76]
abbrev u21_29:IC:=qS [oK 77 22 .eql 7,oM 76 77] u21_30 [0,1,2,22]
abbrev u21_27:IC:=qK u21_28 u21_29 (.t 70) [0,1,2,22,70]
abbrev u21_26:IC:=qS [oK 71 22 .eql 6,oM 70 71] u21_27 [0,1,2,22]
abbrev u21_24:IC:=qK u21_25 u21_26 (.t 61) [0,1,2,22,61]
abbrev u21_23:IC:=qS [oK 62 22 .eql 5,oM 61 62] u21_24 [0,1,2,22]
abbrev u21_20:IC:=qK u21_21 u21_23 (.t 48) [0,1,2,22,48]
abbrev u21_19:IC:=qS [oK 49 22 .eql 4,oM 48 49] u21_20 [0,1,2,22]
abbrev u21_17:IC:=qK u21_18 u21_19 (.t 39) [0,1,2,22,39]
abbrev u21_16:IC:=qS [oK 40 22 .eql 3,oM 39 40] u21_17 [0,1,2,22]
abbrev u21_14:IC:=qK u21_15 u21_16 (.t 30) [0,1,2,22,30]
abbrev u21_13:IC:=qS [oK 31 22 .eql 2,oM 30 31] u21_14 [0,1,2,22]
abbrev u21_11:IC:=qK u21_12 u21_13 (.t 23) [0,1,2,22,23]
abbrev u21_10:IC:=qS [oK 24 22 .eql 1,oM 23 24] u21_11 [0,1,2,22]
abbrev u21_9:IC:=qJ u21_10 0 [0,1,2,22]
abbrev u21_8:IC:=qS [oM 22 7] u21_9 [0,1,2,7]
abbrev u21_58:IC:=qS [oM 176 0,oC 177 35 [.t 176,.k (.int .i64 2)],oM 178 0,oC 179 20 [.t 178,.k (.int .i64 3)],oP 180 (.bld #[.int .i64 0,.int .i64 0] [(0,1),(1,1)] [(0,.k (.int .i64 3)),(1,.t 179)]),⟨some 181,.new (.bsl 2 1 #[.int .i64 0,.int .i64 0] [(0,.t 180)]),none⟩,oT 182 177 181 2 16,oM 6 182] .ret [0]
abbrev u21_7:IC:=qQ u21_8 u21_58 [0,1,2,7]
abbrev u21_3:IC:=qQ u21_4 u21_7 [0,1,2,7]
abbrev u21_2:IC:=qS [oM 14 0,oC 15 20 [.t 14,.k (.int .i64 15)],oM 7 15] u21_3 [0,1,2]
abbrev u21_1:IC:=qS [oV 6 (.slice none 0 0)] u21_2 [0,1,2]
def u21:IFn:=⟨183,u21_1,[.tmp 6]⟩
end
theorem isU21:IsFn Tryz.prog 21 u21:=by unfold IsFn;kernel_rfl
theorem c_stmt (l:List UInt8) (hl:l.length≤100000):∀ (d:Nat),d≤2→∀ (base p:Nat),base+10 * d≤100000→p≤l.length→∀ (H:Hp) (cc t:Nat),H t=some (tapeB l p)→t<cc →
  AC Tryz.prog 21 [.ptr t 0,I64 (base:Int),I64 (d:Int)] H cc (fun v H' c' => ∃ id,cc≤id∧id<c'∧v=.slc id 0 (stmtM l d base p).1.length∧H'=(H.upd t (tapeB l (stmtM l d base p).2)).upd id ⟨2,true,insC (stmtM l d base p).1⟩):=by
 intro d
 induction d with
 | zero =>
  intro hd2 base p hbase hp H cc t ht htc
  refine AC.body mixedU isU21 (Nat.le_of_ble_eq_true rfl) fun hfr=>?_
  show IW Tryz.prog 183 u21_1 ⟨argT _,_,_⟩ (rt [.tmp 6] _)
  repeat' ((with_reducible first|refine wr ?_|refine wb2 ?_ ?_<;>(intro hb;try simp only [hb])|fail)<;>try simp only [go_sem,seval])
  refine AC.call (c_next l hl p hp 15 (by omega) (by omega) H cc t ht htc) ?_
  rintro v H' c1 ⟨rfl,rfl⟩ hcc
  have hp1:=nextM_le (n:=15) hp
  have hk:=nextM_lt (l:=l) (p:=p) (n:=15) (by omega)
  have hdl:decide (((0:Nat):Int)≤0)=true:=rfl
  obtain ⟨k0,p1,e0⟩:∃ k0 p1,nextM l p 15=(k0,p1):=⟨_,_,rfl⟩
  rw [e0] at hp1 hk ⊢
  simp only at hp1 hk
  have hv:k0=1∨k0=2∨k0=3∨k0=4∨k0=5∨k0=6∨k0=7∨k0=8∨k0=9∨k0=10∨k0=11∨k0=0∨k0=12∨k0=13∨k0=14:=by omega
  rcases hv with rfl|rfl|rfl|rfl|rfl|rfl|rfl|rfl|rfl|rfl|rfl|rfl|rfl|rfl|rfl
  ·have nk:((1:Nat):Int)=1:=rfl
   simp only [go_sem,seval,hdl,nk,Int.reduceGT,Int.reduceBEq,Int.reduceLE,decide_true,decide_false]
   repeat' ((with_reducible first|refine wr ?_|refine wb2 ?_ ?_<;>(intro hb;try simp only [hb])|fail)<;>try simp only [go_sem,seval,hdl,nk,Int.reduceGT,Int.reduceBEq,Int.reduceLE,decide_true,decide_false])
   refine AC.call (c_value l hl 1 (by omega) (p1) hp1 _ _ t (by repeat (first|exact h_same|rw [h_ne (by omega)]|rw [h_dne (by omega)])) (by omega)) ?_
   rintro v H' c2 ⟨id1,ia1,ib1,rfl,rfl⟩ hcc2
   have hb1:=valueM_l1 l (p1)
   have hp2:=valueM_le l 1 (p1) hp1
   have ne0:=nes4 t id1 c2 (c2+1) (by omega)
   simp only [go_sem,seval,ne0]
   repeat' ((first|(with_reducible first|refine wr ?_)|(with_reducible refine wb2 ?_ ?_<;>(intro hb;try simp only [hb]))|((with_reducible refine k_eval (b_appx (insC_len2 _) (by omega) (by omega)) ?_))|fail)<;>try simp only [go_sem,seval,ne0])
   have es:stmtM l 0 base p=stK l (fun _ p=>([],p)) base 1 p1:=by simp only [stmtM];rw [e0];try rfl
   rw [es]
   refine v_end (id:=c2+1) hfr (by omega) (by omega) htc (by first|rfl|simp only [stK,List.length_append,List.length_singleton]) ?_ ?_ fun j h1 h2=>?_
   ·repeat (first|exact h_same|rw [h_ne (by omega)]|rw [h_dne (by omega)])
   ·rw [h_same];simp only [stK,insC_app,insC_one]
   ·repeat (first|rfl|rw [h_ne (by omega)]|rw [h_dne (by omega)])
  ·have nk:((2:Nat):Int)=2:=rfl
   simp only [go_sem,seval,hdl,nk,Int.reduceGT,Int.reduceBEq,Int.reduceLE,decide_true,decide_false]
   repeat' ((with_reducible first|refine wr ?_|refine wb2 ?_ ?_<;>(intro hb;try simp only [hb])|fail)<;>try simp only [go_sem,seval,hdl,nk,Int.reduceGT,Int.reduceBEq,Int.reduceLE,decide_true,decide_false])
   refine AC.call (c_next l hl (p1) hp1 3 (by omega) (by omega) _ _ t (by repeat (first|exact h_same|rw [h_ne (by omega)]|rw [h_dne (by omega)])) (by omega)) ?_
   rintro v H' c2 ⟨rfl,rfl⟩ hcc2
   have hq2:=nextM_lt (l:=l) (p:=p1) (n:=3) (by omega)
   have hp2:=nextM_le (l:=l) (p:=p1) (n:=3) hp1
   have hadd:=w64 (n:=16+((nextM l p1 3).1:Int)) (by omega) (by omega)
   have ne0:=nes3 t c2 (c2+1) (by omega)
   simp only [go_sem,seval,hadd,ne0]
   repeat' ((first|(with_reducible first|refine wr ?_)|(with_reducible refine wb2 ?_ ?_<;>(intro hb;try simp only [hb]))|((with_reducible refine k_eval (b_appx (insC_len2 _) (by omega) (by omega)) ?_))|fail)<;>try simp only [go_sem,seval,hadd,ne0])
   refine AC.call (c_next l hl ((nextM l p1 3).2) hp2 32 (by omega) (by omega) _ _ t (by repeat (first|exact h_same|rw [h_ne (by omega)]|rw [h_dne (by omega)])) (by omega)) ?_
   rintro v H' c3 ⟨rfl,rfl⟩ hcc3
   have hq3:=nextM_lt (l:=l) (p:=(nextM l p1 3).2) (n:=32) (by omega)
   have hp3:=nextM_le (l:=l) (p:=(nextM l p1 3).2) (n:=32) hp2
   have ne0:=nes3 t c3 (c3+1) (by omega)
   simp only [go_sem,seval,hadd,ne0]
   repeat' ((first|(with_reducible first|refine wr ?_)|(with_reducible refine wb2 ?_ ?_<;>(intro hb;try simp only [hb]))|((with_reducible refine k_eval (b_appx (insC_len2 _) (by omega) (by omega)) ?_))|fail)<;>try simp only [go_sem,seval,hadd,ne0])
   have es:stmtM l 0 base p=stK l (fun _ p=>([],p)) base 2 p1:=by simp only [stmtM];rw [e0];try rfl
   rw [es]
   refine v_end (id:=c3) hfr (by omega) (by omega) htc (by first|rfl|simp only [stK,List.length_append,List.length_singleton]) ?_ ?_ fun j h1 h2=>?_
   ·repeat (first|exact h_same|rw [h_ne (by omega)]|rw [h_dne (by omega)])
   ·rw [h_same];simp only [stK,insC_app,insC_one]
   ·repeat (first|rfl|rw [h_ne (by omega)]|rw [h_dne (by omega)])
  ·have nk:((3:Nat):Int)=3:=rfl
   simp only [go_sem,seval,hdl,nk,Int.reduceGT,Int.reduceBEq,Int.reduceLE,decide_true,decide_false]
   repeat' ((with_reducible first|refine wr ?_|refine wb2 ?_ ?_<;>(intro hb;try simp only [hb])|fail)<;>try simp only [go_sem,seval,hdl,nk,Int.reduceGT,Int.reduceBEq,Int.reduceLE,decide_true,decide_false])
   refine AC.call (c_value l hl 0 (by omega) (p1) hp1 _ _ t (by repeat (first|exact h_same|rw [h_ne (by omega)]|rw [h_dne (by omega)])) (by omega)) ?_
   rintro v H' c2 ⟨id1,ia1,ib1,rfl,rfl⟩ hcc2
   have hb1:=valueM_l0 l (p1)
   have hp2:=valueM_le l 0 (p1) hp1
   have ne0:=nes4 t id1 c2 (c2+1) (by omega)
   simp only [go_sem,seval,ne0]
   repeat' ((first|(with_reducible first|refine wr ?_)|(with_reducible refine wb2 ?_ ?_<;>(intro hb;try simp only [hb]))|((with_reducible refine k_eval (b_appx (insC_len2 _) (by omega) (by omega)) ?_))|fail)<;>try simp only [go_sem,seval,ne0])
   refine AC.call (c_next l hl ((valueM l 0 p1).2) hp2 64 (by omega) (by omega) _ _ t (by repeat (first|exact h_same|rw [h_ne (by omega)]|rw [h_dne (by omega)])) (by omega)) ?_
   rintro v H' c3 ⟨rfl,rfl⟩ hcc3
   have hq3:=nextM_lt (l:=l) (p:=(valueM l 0 p1).2) (n:=64) (by omega)
   have hp3:=nextM_le (l:=l) (p:=(valueM l 0 p1).2) (n:=64) hp2
   have ne0:=nes4 t id1 c3 (c3+1) (by omega)
   simp only [go_sem,seval,ne0]
   repeat' ((first|(with_reducible first|refine wr ?_)|(with_reducible refine wb2 ?_ ?_<;>(intro hb;try simp only [hb]))|((with_reducible refine k_eval (b_appx (insC_len2 _) (by omega) (by omega)) ?_))|fail)<;>try simp only [go_sem,seval,ne0])
   have es:stmtM l 0 base p=stK l (fun _ p=>([],p)) base 3 p1:=by simp only [stmtM];rw [e0];try rfl
   rw [es]
   refine v_end (id:=c3+1) hfr (by omega) (by omega) htc (by first|rfl|simp only [stK,List.length_append,List.length_singleton]) ?_ ?_ fun j h1 h2=>?_
   ·repeat (first|exact h_same|rw [h_ne (by omega)]|rw [h_dne (by omega)])
   ·rw [h_same];simp only [stK,insC_app,insC_one]
   ·repeat (first|rfl|rw [h_ne (by omega)]|rw [h_dne (by omega)])
  ·have nk:((4:Nat):Int)=4:=rfl
   simp only [go_sem,seval,hdl,nk,Int.reduceGT,Int.reduceBEq,Int.reduceLE,decide_true,decide_false]
   repeat' ((with_reducible first|refine wr ?_|refine wb2 ?_ ?_<;>(intro hb;try simp only [hb])|fail)<;>try simp only [go_sem,seval,hdl,nk,Int.reduceGT,Int.reduceBEq,Int.reduceLE,decide_true,decide_false])
   refine AC.call (c_value l hl 0 (by omega) (p1) hp1 _ _ t (by repeat (first|exact h_same|rw [h_ne (by omega)]|rw [h_dne (by omega)])) (by omega)) ?_
   rintro v H' c2 ⟨id1,ia1,ib1,rfl,rfl⟩ hcc2
   have hb1:=valueM_l0 l (p1)
   have hp2:=valueM_le l 0 (p1) hp1
   have ne0:=nes4 t id1 c2 (c2+1) (by omega)
   simp only [go_sem,seval,ne0]
   repeat' ((first|(with_reducible first|refine wr ?_)|(with_reducible refine wb2 ?_ ?_<;>(intro hb;try simp only [hb]))|((with_reducible refine k_eval (b_appx (insC_len2 _) (by omega) (by omega)) ?_))|fail)<;>try simp only [go_sem,seval,ne0])
   refine AC.call (c_value l hl 0 (by omega) ((valueM l 0 p1).2) hp2 _ _ t (by repeat (first|exact h_same|rw [h_ne (by omega)]|rw [h_dne (by omega)])) (by omega)) ?_
   rintro v H' c3 ⟨id2,ia2,ib2,rfl,rfl⟩ hcc3
   have hb2:=valueM_l0 l ((valueM l 0 p1).2)
   have hp3:=valueM_le l 0 ((valueM l 0 p1).2) hp2
   have hl2:=insC_len2 (valueM l 0 ((valueM l 0 p1).2)).1
   have hle2:(valueM l 0 ((valueM l 0 p1).2)).1.length * 2≤(insC (valueM l 0 ((valueM l 0 p1).2)).1).length:=by omega
   have htk:=List.take_of_length_le (l:=insC (valueM l 0 ((valueM l 0 p1).2)).1) (i:=(valueM l 0 ((valueM l 0 p1).2)).1.length * 2) (by omega)
   have ne0:=nes5 t id1 id2 c3 (c3+1) (by omega)
   simp only [go_sem,seval,hle2,htk,ne0]
   repeat' ((first|(with_reducible first|refine wr ?_)|(with_reducible refine wb2 ?_ ?_<;>(intro hb;try simp only [hb]))|((with_reducible refine k_eval (b_appx (insC_len2 _) (by omega) (by omega)) ?_))|fail)<;>try simp only [go_sem,seval,hle2,htk,ne0])
   refine AC.call (c_next l hl ((valueM l 0 ((valueM l 0 p1).2)).2) hp3 64 (by omega) (by omega) _ _ t (by repeat (first|exact h_same|rw [h_ne (by omega)]|rw [h_dne (by omega)])) (by omega)) ?_
   rintro v H' c4 ⟨rfl,rfl⟩ hcc4
   have hq4:=nextM_lt (l:=l) (p:=(valueM l 0 ((valueM l 0 p1).2)).2) (n:=64) (by omega)
   have hp4:=nextM_le (l:=l) (p:=(valueM l 0 ((valueM l 0 p1).2)).2) (n:=64) hp3
   have hl3:=insL2 (valueM l 0 p1).1 (valueM l 0 ((valueM l 0 p1).2)).1
   have ne0:=nes4 t c3 c4 (c4+1) (by omega)
   simp only [go_sem,seval,ne0]
   repeat' ((first|(with_reducible first|refine wr ?_)|(with_reducible refine wb2 ?_ ?_<;>(intro hb;try simp only [hb]))|((with_reducible refine k_eval (b_appx (insC_len2 _) (by omega) (by omega)) ?_))|((with_reducible refine k_eval (b_appx hl3 (by omega) (by omega)) ?_))|fail)<;>try simp only [go_sem,seval,ne0])
   have es:stmtM l 0 base p=stK l (fun _ p=>([],p)) base 4 p1:=by simp only [stmtM];rw [e0];try rfl
   rw [es]
   refine v_end (id:=c4+1) hfr (by omega) (by omega) htc (by first|rfl|simp only [stK,List.length_append,List.length_singleton]) ?_ ?_ fun j h1 h2=>?_
   ·repeat (first|exact h_same|rw [h_ne (by omega)]|rw [h_dne (by omega)])
   ·rw [h_same];simp only [stK,insC_app,insC_one]
   ·repeat (first|rfl|rw [h_ne (by omega)]|rw [h_dne (by omega)])
  ·have nk:((5:Nat):Int)=5:=rfl
   simp only [go_sem,seval,hdl,nk,Int.reduceGT,Int.reduceBEq,Int.reduceLE,decide_true,decide_false]
   repeat' ((with_reducible first|refine wr ?_|refine wb2 ?_ ?_<;>(intro hb;try simp only [hb])|fail)<;>try simp only [go_sem,seval,hdl,nk,Int.reduceGT,Int.reduceBEq,Int.reduceLE,decide_true,decide_false])
   refine AC.call (c_value l hl 1 (by omega) (p1) hp1 _ _ t (by repeat (first|exact h_same|rw [h_ne (by omega)]|rw [h_dne (by omega)])) (by omega)) ?_
   rintro v H' c2 ⟨id1,ia1,ib1,rfl,rfl⟩ hcc2
   have hb1:=valueM_l1 l (p1)
   have hp2:=valueM_le l 1 (p1) hp1
   have ne0:=nes4 t id1 c2 (c2+1) (by omega)
   simp only [go_sem,seval,ne0]
   repeat' ((first|(with_reducible first|refine wr ?_)|(with_reducible refine wb2 ?_ ?_<;>(intro hb;try simp only [hb]))|((with_reducible refine k_eval (b_appx (insC_len2 _) (by omega) (by omega)) ?_))|fail)<;>try simp only [go_sem,seval,ne0])
   refine AC.call (c_next l hl ((valueM l 1 p1).2) hp2 2 (by omega) (by omega) _ _ t (by repeat (first|exact h_same|rw [h_ne (by omega)]|rw [h_dne (by omega)])) (by omega)) ?_
   rintro v H' c3 ⟨rfl,rfl⟩ hcc3
   have hq3:=nextM_lt (l:=l) (p:=(valueM l 1 p1).2) (n:=2) (by omega)
   have hp3:=nextM_le (l:=l) (p:=(valueM l 1 p1).2) (n:=2) hp2
   have ne0:=nes4 t id1 c3 (c3+1) (by omega)
   simp only [go_sem,seval,ne0]
   repeat' ((first|(with_reducible first|refine wr ?_)|(with_reducible refine wb2 ?_ ?_<;>(intro hb;try simp only [hb]))|((with_reducible refine k_eval (b_appx (insC_len2 _) (by omega) (by omega)) ?_))|fail)<;>try simp only [go_sem,seval,ne0])
   have es:stmtM l 0 base p=stK l (fun _ p=>([],p)) base 5 p1:=by simp only [stmtM];rw [e0];try rfl
   rw [es]
   refine v_end (id:=c3+1) hfr (by omega) (by omega) htc (by first|rfl|simp only [stK,List.length_append,List.length_singleton]) ?_ ?_ fun j h1 h2=>?_
   ·repeat (first|exact h_same|rw [h_ne (by omega)]|rw [h_dne (by omega)])
   ·rw [h_same];simp only [stK,insC_app,insC_one]
   ·repeat (first|rfl|rw [h_ne (by omega)]|rw [h_dne (by omega)])
  ·have nk:((6:Nat):Int)=6:=rfl
   simp only [go_sem,seval,hdl,nk,Int.reduceGT,Int.reduceBEq,Int.reduceLE,decide_true,decide_false]
   repeat' ((with_reducible first|refine wr ?_|refine wb2 ?_ ?_<;>(intro hb;try simp only [hb])|fail)<;>try simp only [go_sem,seval,hdl,nk,Int.reduceGT,Int.reduceBEq,Int.reduceLE,decide_true,decide_false])
   refine AC.call (c_next l hl (p1) hp1 2 (by omega) (by omega) _ _ t (by repeat (first|exact h_same|rw [h_ne (by omega)]|rw [h_dne (by omega)])) (by omega)) ?_
   rintro v H' c2 ⟨rfl,rfl⟩ hcc2
   have hq2:=nextM_lt (l:=l) (p:=p1) (n:=2) (by omega)
   have hp2:=nextM_le (l:=l) (p:=p1) (n:=2) hp1
   have ne0:=nes3 t c2 (c2+1) (by omega)
   simp only [go_sem,seval,ne0]
   repeat' ((first|(with_reducible first|refine wr ?_)|(with_reducible refine wb2 ?_ ?_<;>(intro hb;try simp only [hb]))|((with_reducible refine k_eval (b_appx (insC_len2 _) (by omega) (by omega)) ?_))|fail)<;>try simp only [go_sem,seval,ne0])
   have es:stmtM l 0 base p=stK l (fun _ p=>([],p)) base 6 p1:=by simp only [stmtM];rw [e0];try rfl
   rw [es]
   refine v_end (id:=c2) hfr (by omega) (by omega) htc (by first|rfl|simp only [stK,List.length_append,List.length_singleton]) ?_ ?_ fun j h1 h2=>?_
   ·repeat (first|exact h_same|rw [h_ne (by omega)]|rw [h_dne (by omega)])
   ·rw [h_same];simp only [stK,insC_app,insC_one]
   ·repeat (first|rfl|rw [h_ne (by omega)]|rw [h_dne (by omega)])
  ·have nk:((7:Nat):Int)=7:=rfl
   simp only [go_sem,seval,hdl,nk,Int.reduceGT,Int.reduceBEq,Int.reduceLE,decide_true,decide_false]
   repeat' ((with_reducible first|refine wr ?_|refine wb2 ?_ ?_<;>(intro hb;try simp only [hb])|fail)<;>try simp only [go_sem,seval,hdl,nk,Int.reduceGT,Int.reduceBEq,Int.reduceLE,decide_true,decide_false])
   refine AC.call (c_next l hl (p1) hp1 2 (by omega) (by omega) _ _ t (by repeat (first|exact h_same|rw [h_ne (by omega)]|rw [h_dne (by omega)])) (by omega)) ?_
   rintro v H' c2 ⟨rfl,rfl⟩ hcc2
   have hq2:=nextM_lt (l:=l) (p:=p1) (n:=2) (by omega)
   have hp2:=nextM_le (l:=l) (p:=p1) (n:=2) hp1
   have hadd:=w64 (n:=23+((nextM l p1 2).1:Int)) (by omega) (by omega)
   have ne0:=nes3 t c2 (c2+1) (by omega)
   simp only [go_sem,seval,hadd,ne0]
   repeat' ((first|(with_reducible first|refine wr ?_)|(with_reducible refine wb2 ?_ ?_<;>(intro hb;try simp only [hb]))|((with_reducible refine k_eval (b_appx (insC_len2 _) (by omega) (by omega)) ?_))|fail)<;>try simp only [go_sem,seval,hadd,ne0])
   refine AC.call (c_next l hl ((nextM l p1 2).2) hp2 2 (by omega) (by omega) _ _ t (by repeat (first|exact h_same|rw [h_ne (by omega)]|rw [h_dne (by omega)])) (by omega)) ?_
   rintro v H' c3 ⟨rfl,rfl⟩ hcc3
   have hq3:=nextM_lt (l:=l) (p:=(nextM l p1 2).2) (n:=2) (by omega)
   have hp3:=nextM_le (l:=l) (p:=(nextM l p1 2).2) (n:=2) hp2
   have ne0:=nes3 t c3 (c3+1) (by omega)
   simp only [go_sem,seval,hadd,ne0]
   repeat' ((first|(with_reducible first|refine wr ?_)|(with_reducible refine wb2 ?_ ?_<;>(intro hb;try simp only [hb]))|((with_reducible refine k_eval (b_appx (insC_len2 _) (by omega) (by omega)) ?_))|fail)<;>try simp only [go_sem,seval,hadd,ne0])
   have es:stmtM l 0 base p=stK l (fun _ p=>([],p)) base 7 p1:=by simp only [stmtM];rw [e0];try rfl
   rw [es]
   refine v_end (id:=c3) hfr (by omega) (by omega) htc (by first|rfl|simp only [stK,List.length_append,List.length_singleton]) ?_ ?_ fun j h1 h2=>?_
   ·repeat (first|exact h_same|rw [h_ne (by omega)]|rw [h_dne (by omega)])
   ·rw [h_same];simp only [stK,insC_app,insC_one]
   ·repeat (first|rfl|rw [h_ne (by omega)]|rw [h_dne (by omega)])
  ·have nk:((8:Nat):Int)=8:=rfl
   simp only [go_sem,seval,hdl,nk,Int.reduceGT,Int.reduceBEq,Int.reduceLE,decide_true,decide_false]
   repeat' ((with_reducible first|refine wr ?_|refine wb2 ?_ ?_<;>(intro hb;try simp only [hb])|fail)<;>try simp only [go_sem,seval,hdl,nk,Int.reduceGT,Int.reduceBEq,Int.reduceLE,decide_true,decide_false])
   refine AC.call (c_next l hl (p1) hp1 2 (by omega) (by omega) _ _ t (by repeat (first|exact h_same|rw [h_ne (by omega)]|rw [h_dne (by omega)])) (by omega)) ?_
   rintro v H' c2 ⟨rfl,rfl⟩ hcc2
   have hq2:=nextM_lt (l:=l) (p:=p1) (n:=2) (by omega)
   have hp2:=nextM_le (l:=l) (p:=p1) (n:=2) hp1
   have ne0:=nes3 t c2 (c2+1) (by omega)
   simp only [go_sem,seval,ne0]
   repeat' ((first|(with_reducible first|refine wr ?_)|(with_reducible refine wb2 ?_ ?_<;>(intro hb;try simp only [hb]))|((with_reducible refine k_eval (b_appx (insC_len2 _) (by omega) (by omega)) ?_))|fail)<;>try simp only [go_sem,seval,ne0])
   have es:stmtM l 0 base p=stK l (fun _ p=>([],p)) base 8 p1:=by simp only [stmtM];rw [e0];try rfl
   rw [es]
   refine v_end (id:=c2) hfr (by omega) (by omega) htc (by first|rfl|simp only [stK,List.length_append,List.length_singleton]) ?_ ?_ fun j h1 h2=>?_
   ·repeat (first|exact h_same|rw [h_ne (by omega)]|rw [h_dne (by omega)])
   ·rw [h_same];simp only [stK,insC_app,insC_one]
   ·repeat (first|rfl|rw [h_ne (by omega)]|rw [h_dne (by omega)])
  ·have nk:((9:Nat):Int)=9:=rfl
   simp only [go_sem,seval,hdl,nk,Int.reduceGT,Int.reduceBEq,Int.reduceLE,decide_true,decide_false]
   repeat' ((with_reducible first|refine wr ?_|refine wb2 ?_ ?_<;>(intro hb;try simp only [hb])|fail)<;>try simp only [go_sem,seval,hdl,nk,Int.reduceGT,Int.reduceBEq,Int.reduceLE,decide_true,decide_false])
   refine AC.call (c_next l hl (p1) hp1 3 (by omega) (by omega) _ _ t (by repeat (first|exact h_same|rw [h_ne (by omega)]|rw [h_dne (by omega)])) (by omega)) ?_
   rintro v H' c2 ⟨rfl,rfl⟩ hcc2
   have hq2:=nextM_lt (l:=l) (p:=p1) (n:=3) (by omega)
   have hp2:=nextM_le (l:=l) (p:=p1) (n:=3) hp1
   have hadd:=w64 (n:=26+((nextM l p1 3).1:Int)) (by omega) (by omega)
   have ne0:=nes3 t c2 (c2+1) (by omega)
   simp only [go_sem,seval,hadd,ne0]
   repeat' ((first|(with_reducible first|refine wr ?_)|(with_reducible refine wb2 ?_ ?_<;>(intro hb;try simp only [hb]))|((with_reducible refine k_eval (b_appx (insC_len2 _) (by omega) (by omega)) ?_))|fail)<;>try simp only [go_sem,seval,hadd,ne0])
   refine AC.call (c_next l hl ((nextM l p1 3).2) hp2 64 (by omega) (by omega) _ _ t (by repeat (first|exact h_same|rw [h_ne (by omega)]|rw [h_dne (by omega)])) (by omega)) ?_
   rintro v H' c3 ⟨rfl,rfl⟩ hcc3
   have hq3:=nextM_lt (l:=l) (p:=(nextM l p1 3).2) (n:=64) (by omega)
   have hp3:=nextM_le (l:=l) (p:=(nextM l p1 3).2) (n:=64) hp2
   have ne0:=nes3 t c3 (c3+1) (by omega)
   simp only [go_sem,seval,hadd,ne0]
   repeat' ((first|(with_reducible first|refine wr ?_)|(with_reducible refine wb2 ?_ ?_<;>(intro hb;try simp only [hb]))|((with_reducible refine k_eval (b_appx (insC_len2 _) (by omega) (by omega)) ?_))|fail)<;>try simp only [go_sem,seval,hadd,ne0])
   have es:stmtM l 0 base p=stK l (fun _ p=>([],p)) base 9 p1:=by simp only [stmtM];rw [e0];try rfl
   rw [es]
   refine v_end (id:=c3) hfr (by omega) (by omega) htc (by first|rfl|simp only [stK,List.length_append,List.length_singleton]) ?_ ?_ fun j h1 h2=>?_
   ·repeat (first|exact h_same|rw [h_ne (by omega)]|rw [h_dne (by omega)])
   ·rw [h_same];simp only [stK,insC_app,insC_one]
   ·repeat (first|rfl|rw [h_ne (by omega)]|rw [h_dne (by omega)])
  ·have nk:((10:Nat):Int)=10:=rfl
   simp only [go_sem,seval,hdl,nk,Int.reduceGT,Int.reduceBEq,Int.reduceLE,decide_true,decide_false]
   repeat' ((with_reducible first|refine wr ?_|refine wb2 ?_ ?_<;>(intro hb;try simp only [hb])|fail)<;>try simp only [go_sem,seval,hdl,nk,Int.reduceGT,Int.reduceBEq,Int.reduceLE,decide_true,decide_false])
   refine AC.call (c_value l hl 1 (by omega) (p1) hp1 _ _ t (by repeat (first|exact h_same|rw [h_ne (by omega)]|rw [h_dne (by omega)])) (by omega)) ?_
   rintro v H' c2 ⟨id1,ia1,ib1,rfl,rfl⟩ hcc2
   have hb1:=valueM_l1 l (p1)
   have hp2:=valueM_le l 1 (p1) hp1
   have ne0:=nes4 t id1 c2 (c2+1) (by omega)
   simp only [go_sem,seval,ne0]
   repeat' ((first|(with_reducible first|refine wr ?_)|(with_reducible refine wb2 ?_ ?_<;>(intro hb;try simp only [hb]))|((with_reducible refine k_eval (b_appx (insC_len2 _) (by omega) (by omega)) ?_))|fail)<;>try simp only [go_sem,seval,ne0])
   refine AC.call (c_next l hl ((valueM l 1 p1).2) hp2 2 (by omega) (by omega) _ _ t (by repeat (first|exact h_same|rw [h_ne (by omega)]|rw [h_dne (by omega)])) (by omega)) ?_
   rintro v H' c3 ⟨rfl,rfl⟩ hcc3
   have hq3:=nextM_lt (l:=l) (p:=(valueM l 1 p1).2) (n:=2) (by omega)
   have hp3:=nextM_le (l:=l) (p:=(valueM l 1 p1).2) (n:=2) hp2
   have ne0:=nes4 t id1 c3 (c3+1) (by omega)
   simp only [go_sem,seval,ne0]
   repeat' ((first|(with_reducible first|refine wr ?_)|(with_reducible refine wb2 ?_ ?_<;>(intro hb;try simp only [hb]))|((with_reducible refine k_eval (b_appx (insC_len2 _) (by omega) (by omega)) ?_))|fail)<;>try simp only [go_sem,seval,ne0])
   have es:stmtM l 0 base p=stK l (fun _ p=>([],p)) base 10 p1:=by simp only [stmtM];rw [e0];try rfl
   rw [es]
   refine v_end (id:=c3+1) hfr (by omega) (by omega) htc (by first|rfl|simp only [stK,List.length_append,List.length_singleton]) ?_ ?_ fun j h1 h2=>?_
   ·repeat (first|exact h_same|rw [h_ne (by omega)]|rw [h_dne (by omega)])
   ·rw [h_same];simp only [stK,insC_app,insC_one]
   ·repeat (first|rfl|rw [h_ne (by omega)]|rw [h_dne (by omega)])
  ·have nk:((11:Nat):Int)=11:=rfl
   simp only [go_sem,seval,hdl,nk,Int.reduceGT,Int.reduceBEq,Int.reduceLE,decide_true,decide_false]
   repeat' ((with_reducible first|refine wr ?_|refine wb2 ?_ ?_<;>(intro hb;try simp only [hb])|fail)<;>try simp only [go_sem,seval,hdl,nk,Int.reduceGT,Int.reduceBEq,Int.reduceLE,decide_true,decide_false])
   have es:stmtM l 0 base p=stK l (fun _ p=>([],p)) base 11 p1:=by simp only [stmtM];rw [e0];try rfl
   rw [es]
   refine v_end (id:=c1) hfr (by omega) (by omega) htc (by first|rfl|simp only [stK,List.length_append,List.length_singleton]) ?_ ?_ fun j h1 h2=>?_
   ·repeat (first|exact h_same|rw [h_ne (by omega)]|rw [h_dne (by omega)])
   ·rw [h_same];simp only [stK,insC_app,insC_one]
   ·repeat (first|rfl|rw [h_ne (by omega)]|rw [h_dne (by omega)])
  ·have nk:((0:Nat):Int)=0:=rfl
   simp only [go_sem,seval,hdl,nk,Int.reduceGT,Int.reduceBEq,Int.reduceLE,decide_true,decide_false]
   repeat' ((with_reducible first|refine wr ?_|refine wb2 ?_ ?_<;>(intro hb;try simp only [hb])|fail)<;>try simp only [go_sem,seval,hdl,nk,Int.reduceGT,Int.reduceBEq,Int.reduceLE,decide_true,decide_false])
   refine AC.call (c_value l hl 2 (by omega) (p1) hp1 _ _ t (by repeat (first|exact h_same|rw [h_ne (by omega)]|rw [h_dne (by omega)])) (by omega)) ?_
   rintro v H' c2 ⟨id1,ia1,ib1,rfl,rfl⟩ hcc2
   have hb1:=valueM_l2 l (p1)
   have hp2:=valueM_le l 2 (p1) hp1
   have ne0:=nes4 t id1 c2 (c2+1) (by omega)
   simp only [go_sem,seval,ne0]
   repeat' ((first|(with_reducible first|refine wr ?_)|(with_reducible refine wb2 ?_ ?_<;>(intro hb;try simp only [hb]))|((with_reducible refine k_eval (b_appx (insC_len2 _) (by omega) (by omega)) ?_))|fail)<;>try simp only [go_sem,seval,ne0])
   refine AC.call (c_next l hl ((valueM l 2 p1).2) hp2 3 (by omega) (by omega) _ _ t (by repeat (first|exact h_same|rw [h_ne (by omega)]|rw [h_dne (by omega)])) (by omega)) ?_
   rintro v H' c3 ⟨rfl,rfl⟩ hcc3
   have hq3:=nextM_lt (l:=l) (p:=(valueM l 2 p1).2) (n:=3) (by omega)
   have hp3:=nextM_le (l:=l) (p:=(valueM l 2 p1).2) (n:=3) hp2
   have ne0:=nes4 t id1 c3 (c3+1) (by omega)
   simp only [go_sem,seval,ne0]
   repeat' ((first|(with_reducible first|refine wr ?_)|(with_reducible refine wb2 ?_ ?_<;>(intro hb;try simp only [hb]))|((with_reducible refine k_eval (b_appx (insC_len2 _) (by omega) (by omega)) ?_))|fail)<;>try simp only [go_sem,seval,ne0])
   have es:stmtM l 0 base p=stK l (fun _ p=>([],p)) base 0 p1:=by simp only [stmtM];rw [e0];try rfl
   rw [es]
   refine v_end (id:=c3+1) hfr (by omega) (by omega) htc (by first|rfl|simp only [stK,List.length_append,List.length_singleton]) ?_ ?_ fun j h1 h2=>?_
   ·repeat (first|exact h_same|rw [h_ne (by omega)]|rw [h_dne (by omega)])
   ·rw [h_same];simp only [stK,insC_app,insC_one]
   ·repeat (first|rfl|rw [h_ne (by omega)]|rw [h_dne (by omega)])
  ·have nk:((12:Nat):Int)=12:=rfl
   simp only [go_sem,seval,hdl,nk,Int.reduceGT,Int.reduceBEq,Int.reduceLE,decide_true,decide_false]
   repeat' ((with_reducible first|refine wr ?_|refine wb2 ?_ ?_<;>(intro hb;try simp only [hb])|fail)<;>try simp only [go_sem,seval,hdl,nk,Int.reduceGT,Int.reduceBEq,Int.reduceLE,decide_true,decide_false])
   refine AC.call (c_value l hl 2 (by omega) (p1) hp1 _ _ t (by repeat (first|exact h_same|rw [h_ne (by omega)]|rw [h_dne (by omega)])) (by omega)) ?_
   rintro v H' c2 ⟨id1,ia1,ib1,rfl,rfl⟩ hcc2
   have hb1:=valueM_l2 l (p1)
   have hp2:=valueM_le l 2 (p1) hp1
   have ne0:=nes4 t id1 c2 (c2+1) (by omega)
   simp only [go_sem,seval,ne0]
   repeat' ((first|(with_reducible first|refine wr ?_)|(with_reducible refine wb2 ?_ ?_<;>(intro hb;try simp only [hb]))|((with_reducible refine k_eval (b_appx (insC_len2 _) (by omega) (by omega)) ?_))|fail)<;>try simp only [go_sem,seval,ne0])
   refine AC.call (c_next l hl ((valueM l 2 p1).2) hp2 3 (by omega) (by omega) _ _ t (by repeat (first|exact h_same|rw [h_ne (by omega)]|rw [h_dne (by omega)])) (by omega)) ?_
   rintro v H' c3 ⟨rfl,rfl⟩ hcc3
   have hq3:=nextM_lt (l:=l) (p:=(valueM l 2 p1).2) (n:=3) (by omega)
   have hp3:=nextM_le (l:=l) (p:=(valueM l 2 p1).2) (n:=3) hp2
   have ne0:=nes4 t id1 c3 (c3+1) (by omega)
   simp only [go_sem,seval,ne0]
   repeat' ((first|(with_reducible first|refine wr ?_)|(with_reducible refine wb2 ?_ ?_<;>(intro hb;try simp only [hb]))|((with_reducible refine k_eval (b_appx (insC_len2 _) (by omega) (by omega)) ?_))|fail)<;>try simp only [go_sem,seval,ne0])
   have es:stmtM l 0 base p=stK l (fun _ p=>([],p)) base 0 p1:=by simp only [stmtM];rw [e0];try rfl
   rw [es]
   refine v_end (id:=c3+1) hfr (by omega) (by omega) htc (by first|rfl|simp only [stK,List.length_append,List.length_singleton]) ?_ ?_ fun j h1 h2=>?_
   ·repeat (first|exact h_same|rw [h_ne (by omega)]|rw [h_dne (by omega)])
   ·rw [h_same];simp only [stK,insC_app,insC_one]
   ·repeat (first|rfl|rw [h_ne (by omega)]|rw [h_dne (by omega)])
  ·have nk:((13:Nat):Int)=13:=rfl
   simp only [go_sem,seval,hdl,nk,Int.reduceGT,Int.reduceBEq,Int.reduceLE,decide_true,decide_false]
   repeat' ((with_reducible first|refine wr ?_|refine wb2 ?_ ?_<;>(intro hb;try simp only [hb])|fail)<;>try simp only [go_sem,seval,hdl,nk,Int.reduceGT,Int.reduceBEq,Int.reduceLE,decide_true,decide_false])
   refine AC.call (c_value l hl 2 (by omega) (p1) hp1 _ _ t (by repeat (first|exact h_same|rw [h_ne (by omega)]|rw [h_dne (by omega)])) (by omega)) ?_
   rintro v H' c2 ⟨id1,ia1,ib1,rfl,rfl⟩ hcc2
   have hb1:=valueM_l2 l (p1)
   have hp2:=valueM_le l 2 (p1) hp1
   have ne0:=nes4 t id1 c2 (c2+1) (by omega)
   simp only [go_sem,seval,ne0]
   repeat' ((first|(with_reducible first|refine wr ?_)|(with_reducible refine wb2 ?_ ?_<;>(intro hb;try simp only [hb]))|((with_reducible refine k_eval (b_appx (insC_len2 _) (by omega) (by omega)) ?_))|fail)<;>try simp only [go_sem,seval,ne0])
   refine AC.call (c_next l hl ((valueM l 2 p1).2) hp2 3 (by omega) (by omega) _ _ t (by repeat (first|exact h_same|rw [h_ne (by omega)]|rw [h_dne (by omega)])) (by omega)) ?_
   rintro v H' c3 ⟨rfl,rfl⟩ hcc3
   have hq3:=nextM_lt (l:=l) (p:=(valueM l 2 p1).2) (n:=3) (by omega)
   have hp3:=nextM_le (l:=l) (p:=(valueM l 2 p1).2) (n:=3) hp2
   have ne0:=nes4 t id1 c3 (c3+1) (by omega)
   simp only [go_sem,seval,ne0]
   repeat' ((first|(with_reducible first|refine wr ?_)|(with_reducible refine wb2 ?_ ?_<;>(intro hb;try simp only [hb]))|((with_reducible refine k_eval (b_appx (insC_len2 _) (by omega) (by omega)) ?_))|fail)<;>try simp only [go_sem,seval,ne0])
   have es:stmtM l 0 base p=stK l (fun _ p=>([],p)) base 0 p1:=by simp only [stmtM];rw [e0];try rfl
   rw [es]
   refine v_end (id:=c3+1) hfr (by omega) (by omega) htc (by first|rfl|simp only [stK,List.length_append,List.length_singleton]) ?_ ?_ fun j h1 h2=>?_
   ·repeat (first|exact h_same|rw [h_ne (by omega)]|rw [h_dne (by omega)])
   ·rw [h_same];simp only [stK,insC_app,insC_one]
   ·repeat (first|rfl|rw [h_ne (by omega)]|rw [h_dne (by omega)])
  ·have nk:((14:Nat):Int)=14:=rfl
   simp only [go_sem,seval,hdl,nk,Int.reduceGT,Int.reduceBEq,Int.reduceLE,decide_true,decide_false]
   repeat' ((with_reducible first|refine wr ?_|refine wb2 ?_ ?_<;>(intro hb;try simp only [hb])|fail)<;>try simp only [go_sem,seval,hdl,nk,Int.reduceGT,Int.reduceBEq,Int.reduceLE,decide_true,decide_false])
   refine AC.call (c_value l hl 2 (by omega) (p1) hp1 _ _ t (by repeat (first|exact h_same|rw [h_ne (by omega)]|rw [h_dne (by omega)])) (by omega)) ?_
   rintro v H' c2 ⟨id1,ia1,ib1,rfl,rfl⟩ hcc2
   have hb1:=valueM_l2 l (p1)
   have hp2:=valueM_le l 2 (p1) hp1
   have ne0:=nes4 t id1 c2 (c2+1) (by omega)
   simp only [go_sem,seval,ne0]
   repeat' ((first|(with_reducible first|refine wr ?_)|(with_reducible refine wb2 ?_ ?_<;>(intro hb;try simp only [hb]))|((with_reducible refine k_eval (b_appx (insC_len2 _) (by omega) (by omega)) ?_))|fail)<;>try simp only [go_sem,seval,ne0])
   refine AC.call (c_next l hl ((valueM l 2 p1).2) hp2 3 (by omega) (by omega) _ _ t (by repeat (first|exact h_same|rw [h_ne (by omega)]|rw [h_dne (by omega)])) (by omega)) ?_
   rintro v H' c3 ⟨rfl,rfl⟩ hcc3
   have hq3:=nextM_lt (l:=l) (p:=(valueM l 2 p1).2) (n:=3) (by omega)
   have hp3:=nextM_le (l:=l) (p:=(valueM l 2 p1).2) (n:=3) hp2
   have ne0:=nes4 t id1 c3 (c3+1) (by omega)
   simp only [go_sem,seval,ne0]
   repeat' ((first|(with_reducible first|refine wr ?_)|(with_reducible refine wb2 ?_ ?_<;>(intro hb;try simp only [hb]))|((with_reducible refine k_eval (b_appx (insC_len2 _) (by omega) (by omega)) ?_))|fail)<;>try simp only [go_sem,seval,ne0])
   have es:stmtM l 0 base p=stK l (fun _ p=>([],p)) base 0 p1:=by simp only [stmtM];rw [e0];try rfl
   rw [es]
   refine v_end (id:=c3+1) hfr (by omega) (by omega) htc (by first|rfl|simp only [stK,List.length_append,List.length_singleton]) ?_ ?_ fun j h1 h2=>?_
   ·repeat (first|exact h_same|rw [h_ne (by omega)]|rw [h_dne (by omega)])
   ·rw [h_same];simp only [stK,insC_app,insC_one]
   ·repeat (first|rfl|rw [h_ne (by omega)]|rw [h_dne (by omega)])
 | succ d ih =>
  intro hd2 base p hbase hp H cc t ht htc
  refine AC.body mixedU isU21 (Nat.le_of_ble_eq_true rfl) fun hfr=>?_
  show IW Tryz.prog 183 u21_1 ⟨argT _,_,_⟩ (rt [.tmp 6] _)
  repeat' ((with_reducible first|refine wr ?_|refine wb2 ?_ ?_<;>(intro hb;try simp only [hb])|fail)<;>try simp only [go_sem,seval])
  refine AC.call (c_next l hl p hp 15 (by omega) (by omega) H cc t ht htc) ?_
  rintro v H' c1 ⟨rfl,rfl⟩ hcc
  have hp1:=nextM_le (n:=15) hp
  have hk:=nextM_lt (l:=l) (p:=p) (n:=15) (by omega)
  have hdl:decide (((d+1:Nat):Int)≤0)=false:=decide_eq_false (by omega)
  have hw1:=w64 (n:=((d+1:Nat):Int)-1) (by omega) (by omega)
  have hw2:((d+1:Nat):Int)-1=(d:Int):=by omega
  rw [hw2] at hw1
  obtain ⟨k0,p1,e0⟩:∃ k0 p1,nextM l p 15=(k0,p1):=⟨_,_,rfl⟩
  rw [e0] at hp1 hk ⊢
  simp only at hp1 hk
  have hv:k0=1∨k0=2∨k0=3∨k0=4∨k0=5∨k0=6∨k0=7∨k0=8∨k0=9∨k0=10∨k0=11∨k0=0∨k0=12∨k0=13∨k0=14:=by omega
  rcases hv with rfl|rfl|rfl|rfl|rfl|rfl|rfl|rfl|rfl|rfl|rfl|rfl|rfl|rfl|rfl
  ·have nk:((1:Nat):Int)=1:=rfl
   simp only [go_sem,seval,hdl,nk,Int.reduceGT,Int.reduceBEq,Int.reduceLE,decide_true,decide_false,hw2,hw1]
   repeat' ((with_reducible first|refine wr ?_|refine wb2 ?_ ?_<;>(intro hb;try simp only [hb])|fail)<;>try simp only [go_sem,seval,hdl,nk,Int.reduceGT,Int.reduceBEq,Int.reduceLE,decide_true,decide_false,hw2,hw1])
   refine AC.call (c_value l hl 1 (by omega) (p1) hp1 _ _ t (by repeat (first|exact h_same|rw [h_ne (by omega)]|rw [h_dne (by omega)])) (by omega)) ?_
   rintro v H' c2 ⟨id1,ia1,ib1,rfl,rfl⟩ hcc2
   have hb1:=valueM_l1 l (p1)
   have hp2:=valueM_le l 1 (p1) hp1
   have ne0:=nes4 t id1 c2 (c2+1) (by omega)
   simp only [go_sem,seval,ne0]
   repeat' ((first|(with_reducible first|refine wr ?_)|(with_reducible refine wb2 ?_ ?_<;>(intro hb;try simp only [hb]))|((with_reducible refine k_eval (b_appx (insC_len2 _) (by omega) (by omega)) ?_))|fail)<;>try simp only [go_sem,seval,ne0])
   have es:stmtM l (d+1) base p=stK l (stmtM l d) base 1 p1:=by simp only [stmtM];rw [e0];try rfl
   rw [es]
   refine v_end (id:=c2+1) hfr (by omega) (by omega) htc (by first|rfl|simp only [stK,List.length_append,List.length_singleton]) ?_ ?_ fun j h1 h2=>?_
   ·repeat (first|exact h_same|rw [h_ne (by omega)]|rw [h_dne (by omega)])
   ·rw [h_same];simp only [stK,insC_app,insC_one]
   ·repeat (first|rfl|rw [h_ne (by omega)]|rw [h_dne (by omega)])
  ·have nk:((2:Nat):Int)=2:=rfl
   simp only [go_sem,seval,hdl,nk,Int.reduceGT,Int.reduceBEq,Int.reduceLE,decide_true,decide_false,hw2,hw1]
   repeat' ((with_reducible first|refine wr ?_|refine wb2 ?_ ?_<;>(intro hb;try simp only [hb])|fail)<;>try simp only [go_sem,seval,hdl,nk,Int.reduceGT,Int.reduceBEq,Int.reduceLE,decide_true,decide_false,hw2,hw1])
   refine AC.call (c_next l hl (p1) hp1 3 (by omega) (by omega) _ _ t (by repeat (first|exact h_same|rw [h_ne (by omega)]|rw [h_dne (by omega)])) (by omega)) ?_
   rintro v H' c2 ⟨rfl,rfl⟩ hcc2
   have hq2:=nextM_lt (l:=l) (p:=p1) (n:=3) (by omega)
   have hp2:=nextM_le (l:=l) (p:=p1) (n:=3) hp1
   have hadd:=w64 (n:=16+((nextM l p1 3).1:Int)) (by omega) (by omega)
   have ne0:=nes3 t c2 (c2+1) (by omega)
   simp only [go_sem,seval,hadd,ne0]
   repeat' ((first|(with_reducible first|refine wr ?_)|(with_reducible refine wb2 ?_ ?_<;>(intro hb;try simp only [hb]))|((with_reducible refine k_eval (b_appx (insC_len2 _) (by omega) (by omega)) ?_))|fail)<;>try simp only [go_sem,seval,hadd,ne0])
   refine AC.call (c_next l hl ((nextM l p1 3).2) hp2 32 (by omega) (by omega) _ _ t (by repeat (first|exact h_same|rw [h_ne (by omega)]|rw [h_dne (by omega)])) (by omega)) ?_
   rintro v H' c3 ⟨rfl,rfl⟩ hcc3
   have hq3:=nextM_lt (l:=l) (p:=(nextM l p1 3).2) (n:=32) (by omega)
   have hp3:=nextM_le (l:=l) (p:=(nextM l p1 3).2) (n:=32) hp2
   have ne0:=nes3 t c3 (c3+1) (by omega)
   simp only [go_sem,seval,hadd,ne0]
   repeat' ((first|(with_reducible first|refine wr ?_)|(with_reducible refine wb2 ?_ ?_<;>(intro hb;try simp only [hb]))|((with_reducible refine k_eval (b_appx (insC_len2 _) (by omega) (by omega)) ?_))|fail)<;>try simp only [go_sem,seval,hadd,ne0])
   have es:stmtM l (d+1) base p=stK l (stmtM l d) base 2 p1:=by simp only [stmtM];rw [e0];try rfl
   rw [es]
   refine v_end (id:=c3) hfr (by omega) (by omega) htc (by first|rfl|simp only [stK,List.length_append,List.length_singleton]) ?_ ?_ fun j h1 h2=>?_
   ·repeat (first|exact h_same|rw [h_ne (by omega)]|rw [h_dne (by omega)])
   ·rw [h_same];simp only [stK,insC_app,insC_one]
   ·repeat (first|rfl|rw [h_ne (by omega)]|rw [h_dne (by omega)])
  ·have nk:((3:Nat):Int)=3:=rfl
   simp only [go_sem,seval,hdl,nk,Int.reduceGT,Int.reduceBEq,Int.reduceLE,decide_true,decide_false,hw2,hw1]
   repeat' ((with_reducible first|refine wr ?_|refine wb2 ?_ ?_<;>(intro hb;try simp only [hb])|fail)<;>try simp only [go_sem,seval,hdl,nk,Int.reduceGT,Int.reduceBEq,Int.reduceLE,decide_true,decide_false,hw2,hw1])
   refine AC.call (c_value l hl 0 (by omega) (p1) hp1 _ _ t (by repeat (first|exact h_same|rw [h_ne (by omega)]|rw [h_dne (by omega)])) (by omega)) ?_
   rintro v H' c2 ⟨id1,ia1,ib1,rfl,rfl⟩ hcc2
   have hb1:=valueM_l0 l (p1)
   have hp2:=valueM_le l 0 (p1) hp1
   have ne0:=nes4 t id1 c2 (c2+1) (by omega)
   simp only [go_sem,seval,ne0]
   repeat' ((first|(with_reducible first|refine wr ?_)|(with_reducible refine wb2 ?_ ?_<;>(intro hb;try simp only [hb]))|((with_reducible refine k_eval (b_appx (insC_len2 _) (by omega) (by omega)) ?_))|fail)<;>try simp only [go_sem,seval,ne0])
   refine AC.call (c_next l hl ((valueM l 0 p1).2) hp2 64 (by omega) (by omega) _ _ t (by repeat (first|exact h_same|rw [h_ne (by omega)]|rw [h_dne (by omega)])) (by omega)) ?_
   rintro v H' c3 ⟨rfl,rfl⟩ hcc3
   have hq3:=nextM_lt (l:=l) (p:=(valueM l 0 p1).2) (n:=64) (by omega)
   have hp3:=nextM_le (l:=l) (p:=(valueM l 0 p1).2) (n:=64) hp2
   have ne0:=nes4 t id1 c3 (c3+1) (by omega)
   simp only [go_sem,seval,ne0]
   repeat' ((first|(with_reducible first|refine wr ?_)|(with_reducible refine wb2 ?_ ?_<;>(intro hb;try simp only [hb]))|((with_reducible refine k_eval (b_appx (insC_len2 _) (by omega) (by omega)) ?_))|fail)<;>try simp only [go_sem,seval,ne0])
   have es:stmtM l (d+1) base p=stK l (stmtM l d) base 3 p1:=by simp only [stmtM];rw [e0];try rfl
   rw [es]
   refine v_end (id:=c3+1) hfr (by omega) (by omega) htc (by first|rfl|simp only [stK,List.length_append,List.length_singleton]) ?_ ?_ fun j h1 h2=>?_
   ·repeat (first|exact h_same|rw [h_ne (by omega)]|rw [h_dne (by omega)])
   ·rw [h_same];simp only [stK,insC_app,insC_one]
   ·repeat (first|rfl|rw [h_ne (by omega)]|rw [h_dne (by omega)])
  ·have nk:((4:Nat):Int)=4:=rfl
   simp only [go_sem,seval,hdl,nk,Int.reduceGT,Int.reduceBEq,Int.reduceLE,decide_true,decide_false,hw2,hw1]
   repeat' ((with_reducible first|refine wr ?_|refine wb2 ?_ ?_<;>(intro hb;try simp only [hb])|fail)<;>try simp only [go_sem,seval,hdl,nk,Int.reduceGT,Int.reduceBEq,Int.reduceLE,decide_true,decide_false,hw2,hw1])
   refine AC.call (c_value l hl 0 (by omega) (p1) hp1 _ _ t (by repeat (first|exact h_same|rw [h_ne (by omega)]|rw [h_dne (by omega)])) (by omega)) ?_
   rintro v H' c2 ⟨id1,ia1,ib1,rfl,rfl⟩ hcc2
   have hb1:=valueM_l0 l (p1)
   have hp2:=valueM_le l 0 (p1) hp1
   have ne0:=nes4 t id1 c2 (c2+1) (by omega)
   simp only [go_sem,seval,ne0]
   repeat' ((first|(with_reducible first|refine wr ?_)|(with_reducible refine wb2 ?_ ?_<;>(intro hb;try simp only [hb]))|((with_reducible refine k_eval (b_appx (insC_len2 _) (by omega) (by omega)) ?_))|fail)<;>try simp only [go_sem,seval,ne0])
   refine AC.call (c_value l hl 0 (by omega) ((valueM l 0 p1).2) hp2 _ _ t (by repeat (first|exact h_same|rw [h_ne (by omega)]|rw [h_dne (by omega)])) (by omega)) ?_
   rintro v H' c3 ⟨id2,ia2,ib2,rfl,rfl⟩ hcc3
   have hb2:=valueM_l0 l ((valueM l 0 p1).2)
   have hp3:=valueM_le l 0 ((valueM l 0 p1).2) hp2
   have hl2:=insC_len2 (valueM l 0 ((valueM l 0 p1).2)).1
   have hle2:(valueM l 0 ((valueM l 0 p1).2)).1.length * 2≤(insC (valueM l 0 ((valueM l 0 p1).2)).1).length:=by omega
   have htk:=List.take_of_length_le (l:=insC (valueM l 0 ((valueM l 0 p1).2)).1) (i:=(valueM l 0 ((valueM l 0 p1).2)).1.length * 2) (by omega)
   have ne0:=nes5 t id1 id2 c3 (c3+1) (by omega)
   simp only [go_sem,seval,hle2,htk,ne0]
   repeat' ((first|(with_reducible first|refine wr ?_)|(with_reducible refine wb2 ?_ ?_<;>(intro hb;try simp only [hb]))|((with_reducible refine k_eval (b_appx (insC_len2 _) (by omega) (by omega)) ?_))|fail)<;>try simp only [go_sem,seval,hle2,htk,ne0])
   refine AC.call (c_next l hl ((valueM l 0 ((valueM l 0 p1).2)).2) hp3 64 (by omega) (by omega) _ _ t (by repeat (first|exact h_same|rw [h_ne (by omega)]|rw [h_dne (by omega)])) (by omega)) ?_
   rintro v H' c4 ⟨rfl,rfl⟩ hcc4
   have hq4:=nextM_lt (l:=l) (p:=(valueM l 0 ((valueM l 0 p1).2)).2) (n:=64) (by omega)
   have hp4:=nextM_le (l:=l) (p:=(valueM l 0 ((valueM l 0 p1).2)).2) (n:=64) hp3
   have hl3:=insL2 (valueM l 0 p1).1 (valueM l 0 ((valueM l 0 p1).2)).1
   have ne0:=nes4 t c3 c4 (c4+1) (by omega)
   simp only [go_sem,seval,ne0]
   repeat' ((first|(with_reducible first|refine wr ?_)|(with_reducible refine wb2 ?_ ?_<;>(intro hb;try simp only [hb]))|((with_reducible refine k_eval (b_appx (insC_len2 _) (by omega) (by omega)) ?_))|((with_reducible refine k_eval (b_appx hl3 (by omega) (by omega)) ?_))|fail)<;>try simp only [go_sem,seval,ne0])
   have es:stmtM l (d+1) base p=stK l (stmtM l d) base 4 p1:=by simp only [stmtM];rw [e0];try rfl
   rw [es]
   refine v_end (id:=c4+1) hfr (by omega) (by omega) htc (by first|rfl|simp only [stK,List.length_append,List.length_singleton]) ?_ ?_ fun j h1 h2=>?_
   ·repeat (first|exact h_same|rw [h_ne (by omega)]|rw [h_dne (by omega)])
   ·rw [h_same];simp only [stK,insC_app,insC_one]
   ·repeat (first|rfl|rw [h_ne (by omega)]|rw [h_dne (by omega)])
  ·have nk:((5:Nat):Int)=5:=rfl
   simp only [go_sem,seval,hdl,nk,Int.reduceGT,Int.reduceBEq,Int.reduceLE,decide_true,decide_false,hw2,hw1]
   repeat' ((with_reducible first|refine wr ?_|refine wb2 ?_ ?_<;>(intro hb;try simp only [hb])|fail)<;>try simp only [go_sem,seval,hdl,nk,Int.reduceGT,Int.reduceBEq,Int.reduceLE,decide_true,decide_false,hw2,hw1])
   refine AC.call (c_value l hl 1 (by omega) (p1) hp1 _ _ t (by repeat (first|exact h_same|rw [h_ne (by omega)]|rw [h_dne (by omega)])) (by omega)) ?_
   rintro v H' c2 ⟨id1,ia1,ib1,rfl,rfl⟩ hcc2
   have hb1:=valueM_l1 l (p1)
   have hp2:=valueM_le l 1 (p1) hp1
   have ne0:=nes4 t id1 c2 (c2+1) (by omega)
   simp only [go_sem,seval,ne0]
   repeat' ((first|(with_reducible first|refine wr ?_)|(with_reducible refine wb2 ?_ ?_<;>(intro hb;try simp only [hb]))|((with_reducible refine k_eval (b_appx (insC_len2 _) (by omega) (by omega)) ?_))|fail)<;>try simp only [go_sem,seval,ne0])
   refine AC.call (c_next l hl ((valueM l 1 p1).2) hp2 2 (by omega) (by omega) _ _ t (by repeat (first|exact h_same|rw [h_ne (by omega)]|rw [h_dne (by omega)])) (by omega)) ?_
   rintro v H' c3 ⟨rfl,rfl⟩ hcc3
   have hq3:=nextM_lt (l:=l) (p:=(valueM l 1 p1).2) (n:=2) (by omega)
   have hp3:=nextM_le (l:=l) (p:=(valueM l 1 p1).2) (n:=2) hp2
   have ne0:=nes4 t id1 c3 (c3+1) (by omega)
   simp only [go_sem,seval,ne0]
   repeat' ((first|(with_reducible first|refine wr ?_)|(with_reducible refine wb2 ?_ ?_<;>(intro hb;try simp only [hb]))|((with_reducible refine k_eval (b_appx (insC_len2 _) (by omega) (by omega)) ?_))|fail)<;>try simp only [go_sem,seval,ne0])
   have es:stmtM l (d+1) base p=stK l (stmtM l d) base 5 p1:=by simp only [stmtM];rw [e0];try rfl
   rw [es]
   refine v_end (id:=c3+1) hfr (by omega) (by omega) htc (by first|rfl|simp only [stK,List.length_append,List.length_singleton]) ?_ ?_ fun j h1 h2=>?_
   ·repeat (first|exact h_same|rw [h_ne (by omega)]|rw [h_dne (by omega)])
   ·rw [h_same];simp only [stK,insC_app,insC_one]
   ·repeat (first|rfl|rw [h_ne (by omega)]|rw [h_dne (by omega)])
  ·have nk:((6:Nat):Int)=6:=rfl
   simp only [go_sem,seval,hdl,nk,Int.reduceGT,Int.reduceBEq,Int.reduceLE,decide_true,decide_false,hw2,hw1]
   repeat' ((with_reducible first|refine wr ?_|refine wb2 ?_ ?_<;>(intro hb;try simp only [hb])|fail)<;>try simp only [go_sem,seval,hdl,nk,Int.reduceGT,Int.reduceBEq,Int.reduceLE,decide_true,decide_false,hw2,hw1])
   refine AC.call (c_next l hl (p1) hp1 2 (by omega) (by omega) _ _ t (by repeat (first|exact h_same|rw [h_ne (by omega)]|rw [h_dne (by omega)])) (by omega)) ?_
   rintro v H' c2 ⟨rfl,rfl⟩ hcc2
   have hq2:=nextM_lt (l:=l) (p:=p1) (n:=2) (by omega)
   have hp2:=nextM_le (l:=l) (p:=p1) (n:=2) hp1
   have ne0:=nes3 t c2 (c2+1) (by omega)
   simp only [go_sem,seval,ne0]
   repeat' ((first|(with_reducible first|refine wr ?_)|(with_reducible refine wb2 ?_ ?_<;>(intro hb;try simp only [hb]))|((with_reducible refine k_eval (b_appx (insC_len2 _) (by omega) (by omega)) ?_))|fail)<;>try simp only [go_sem,seval,ne0])
   have es:stmtM l (d+1) base p=stK l (stmtM l d) base 6 p1:=by simp only [stmtM];rw [e0];try rfl
   rw [es]
   refine v_end (id:=c2) hfr (by omega) (by omega) htc (by first|rfl|simp only [stK,List.length_append,List.length_singleton]) ?_ ?_ fun j h1 h2=>?_
   ·repeat (first|exact h_same|rw [h_ne (by omega)]|rw [h_dne (by omega)])
   ·rw [h_same];simp only [stK,insC_app,insC_one]
   ·repeat (first|rfl|rw [h_ne (by omega)]|rw [h_dne (by omega)])
  ·have nk:((7:Nat):Int)=7:=rfl
   simp only [go_sem,seval,hdl,nk,Int.reduceGT,Int.reduceBEq,Int.reduceLE,decide_true,decide_false,hw2,hw1]
   repeat' ((with_reducible first|refine wr ?_|refine wb2 ?_ ?_<;>(intro hb;try simp only [hb])|fail)<;>try simp only [go_sem,seval,hdl,nk,Int.reduceGT,Int.reduceBEq,Int.reduceLE,decide_true,decide_false,hw2,hw1])
   refine AC.call (c_next l hl (p1) hp1 2 (by omega) (by omega) _ _ t (by repeat (first|exact h_same|rw [h_ne (by omega)]|rw [h_dne (by omega)])) (by omega)) ?_
   rintro v H' c2 ⟨rfl,rfl⟩ hcc2
   have hq2:=nextM_lt (l:=l) (p:=p1) (n:=2) (by omega)
   have hp2:=nextM_le (l:=l) (p:=p1) (n:=2) hp1
   have hadd:=w64 (n:=23+((nextM l p1 2).1:Int)) (by omega) (by omega)
   have ne0:=nes3 t c2 (c2+1) (by omega)
   simp only [go_sem,seval,hadd,ne0]
   repeat' ((first|(with_reducible first|refine wr ?_)|(with_reducible refine wb2 ?_ ?_<;>(intro hb;try simp only [hb]))|((with_reducible refine k_eval (b_appx (insC_len2 _) (by omega) (by omega)) ?_))|fail)<;>try simp only [go_sem,seval,hadd,ne0])
   refine AC.call (c_next l hl ((nextM l p1 2).2) hp2 2 (by omega) (by omega) _ _ t (by repeat (first|exact h_same|rw [h_ne (by omega)]|rw [h_dne (by omega)])) (by omega)) ?_
   rintro v H' c3 ⟨rfl,rfl⟩ hcc3
   have hq3:=nextM_lt (l:=l) (p:=(nextM l p1 2).2) (n:=2) (by omega)
   have hp3:=nextM_le (l:=l) (p:=(nextM l p1 2).2) (n:=2) hp2
   have ne0:=nes3 t c3 (c3+1) (by omega)
   simp only [go_sem,seval,hadd,ne0]
   repeat' ((first|(with_reducible first|refine wr ?_)|(with_reducible refine wb2 ?_ ?_<;>(intro hb;try simp only [hb]))|((with_reducible refine k_eval (b_appx (insC_len2 _) (by omega) (by omega)) ?_))|fail)<;>try simp only [go_sem,seval,hadd,ne0])
   have es:stmtM l (d+1) base p=stK l (stmtM l d) base 7 p1:=by simp only [stmtM];rw [e0];try rfl
   rw [es]
   refine v_end (id:=c3) hfr (by omega) (by omega) htc (by first|rfl|simp only [stK,List.length_append,List.length_singleton]) ?_ ?_ fun j h1 h2=>?_
   ·repeat (first|exact h_same|rw [h_ne (by omega)]|rw [h_dne (by omega)])
   ·rw [h_same];simp only [stK,insC_app,insC_one]
   ·repeat (first|rfl|rw [h_ne (by omega)]|rw [h_dne (by omega)])
  ·have nk:((8:Nat):Int)=8:=rfl
   simp only [go_sem,seval,hdl,nk,Int.reduceGT,Int.reduceBEq,Int.reduceLE,decide_true,decide_false,hw2,hw1]
   repeat' ((with_reducible first|refine wr ?_|refine wb2 ?_ ?_<;>(intro hb;try simp only [hb])|fail)<;>try simp only [go_sem,seval,hdl,nk,Int.reduceGT,Int.reduceBEq,Int.reduceLE,decide_true,decide_false,hw2,hw1])
   refine AC.call (c_next l hl (p1) hp1 2 (by omega) (by omega) _ _ t (by repeat (first|exact h_same|rw [h_ne (by omega)]|rw [h_dne (by omega)])) (by omega)) ?_
   rintro v H' c2 ⟨rfl,rfl⟩ hcc2
   have hq2:=nextM_lt (l:=l) (p:=p1) (n:=2) (by omega)
   have hp2:=nextM_le (l:=l) (p:=p1) (n:=2) hp1
   have ne0:=nes3 t c2 (c2+1) (by omega)
   simp only [go_sem,seval,ne0]
   repeat' ((first|(with_reducible first|refine wr ?_)|(with_reducible refine wb2 ?_ ?_<;>(intro hb;try simp only [hb]))|((with_reducible refine k_eval (b_appx (insC_len2 _) (by omega) (by omega)) ?_))|fail)<;>try simp only [go_sem,seval,ne0])
   have es:stmtM l (d+1) base p=stK l (stmtM l d) base 8 p1:=by simp only [stmtM];rw [e0];try rfl
   rw [es]
   refine v_end (id:=c2) hfr (by omega) (by omega) htc (by first|rfl|simp only [stK,List.length_append,List.length_singleton]) ?_ ?_ fun j h1 h2=>?_
   ·repeat (first|exact h_same|rw [h_ne (by omega)]|rw [h_dne (by omega)])
   ·rw [h_same];simp only [stK,insC_app,insC_one]
   ·repeat (first|rfl|rw [h_ne (by omega)]|rw [h_dne (by omega)])
  ·have nk:((9:Nat):Int)=9:=rfl
   simp only [go_sem,seval,hdl,nk,Int.reduceGT,Int.reduceBEq,Int.reduceLE,decide_true,decide_false,hw2,hw1]
   repeat' ((with_reducible first|refine wr ?_|refine wb2 ?_ ?_<;>(intro hb;try simp only [hb])|fail)<;>try simp only [go_sem,seval,hdl,nk,Int.reduceGT,Int.reduceBEq,Int.reduceLE,decide_true,decide_false,hw2,hw1])
   refine AC.call (c_next l hl (p1) hp1 3 (by omega) (by omega) _ _ t (by repeat (first|exact h_same|rw [h_ne (by omega)]|rw [h_dne (by omega)])) (by omega)) ?_
   rintro v H' c2 ⟨rfl,rfl⟩ hcc2
   have hq2:=nextM_lt (l:=l) (p:=p1) (n:=3) (by omega)
   have hp2:=nextM_le (l:=l) (p:=p1) (n:=3) hp1
   have hadd:=w64 (n:=26+((nextM l p1 3).1:Int)) (by omega) (by omega)
   have ne0:=nes3 t c2 (c2+1) (by omega)
   simp only [go_sem,seval,hadd,ne0]
   repeat' ((first|(with_reducible first|refine wr ?_)|(with_reducible refine wb2 ?_ ?_<;>(intro hb;try simp only [hb]))|((with_reducible refine k_eval (b_appx (insC_len2 _) (by omega) (by omega)) ?_))|fail)<;>try simp only [go_sem,seval,hadd,ne0])
   refine AC.call (c_next l hl ((nextM l p1 3).2) hp2 64 (by omega) (by omega) _ _ t (by repeat (first|exact h_same|rw [h_ne (by omega)]|rw [h_dne (by omega)])) (by omega)) ?_
   rintro v H' c3 ⟨rfl,rfl⟩ hcc3
   have hq3:=nextM_lt (l:=l) (p:=(nextM l p1 3).2) (n:=64) (by omega)
   have hp3:=nextM_le (l:=l) (p:=(nextM l p1 3).2) (n:=64) hp2
   have ne0:=nes3 t c3 (c3+1) (by omega)
   simp only [go_sem,seval,hadd,ne0]
   repeat' ((first|(with_reducible first|refine wr ?_)|(with_reducible refine wb2 ?_ ?_<;>(intro hb;try simp only [hb]))|((with_reducible refine k_eval (b_appx (insC_len2 _) (by omega) (by omega)) ?_))|fail)<;>try simp only [go_sem,seval,hadd,ne0])
   have es:stmtM l (d+1) base p=stK l (stmtM l d) base 9 p1:=by simp only [stmtM];rw [e0];try rfl
   rw [es]
   refine v_end (id:=c3) hfr (by omega) (by omega) htc (by first|rfl|simp only [stK,List.length_append,List.length_singleton]) ?_ ?_ fun j h1 h2=>?_
   ·repeat (first|exact h_same|rw [h_ne (by omega)]|rw [h_dne (by omega)])
   ·rw [h_same];simp only [stK,insC_app,insC_one]
   ·repeat (first|rfl|rw [h_ne (by omega)]|rw [h_dne (by omega)])
  ·have nk:((10:Nat):Int)=10:=rfl
   simp only [go_sem,seval,hdl,nk,Int.reduceGT,Int.reduceBEq,Int.reduceLE,decide_true,decide_false,hw2,hw1]
   repeat' ((with_reducible first|refine wr ?_|refine wb2 ?_ ?_<;>(intro hb;try simp only [hb])|fail)<;>try simp only [go_sem,seval,hdl,nk,Int.reduceGT,Int.reduceBEq,Int.reduceLE,decide_true,decide_false,hw2,hw1])
   refine AC.call (c_value l hl 1 (by omega) (p1) hp1 _ _ t (by repeat (first|exact h_same|rw [h_ne (by omega)]|rw [h_dne (by omega)])) (by omega)) ?_
   rintro v H' c2 ⟨id1,ia1,ib1,rfl,rfl⟩ hcc2
   have hb1:=valueM_l1 l (p1)
   have hp2:=valueM_le l 1 (p1) hp1
   have ne0:=nes4 t id1 c2 (c2+1) (by omega)
   simp only [go_sem,seval,ne0]
   repeat' ((first|(with_reducible first|refine wr ?_)|(with_reducible refine wb2 ?_ ?_<;>(intro hb;try simp only [hb]))|((with_reducible refine k_eval (b_appx (insC_len2 _) (by omega) (by omega)) ?_))|fail)<;>try simp only [go_sem,seval,ne0])
   refine AC.call (c_next l hl ((valueM l 1 p1).2) hp2 2 (by omega) (by omega) _ _ t (by repeat (first|exact h_same|rw [h_ne (by omega)]|rw [h_dne (by omega)])) (by omega)) ?_
   rintro v H' c3 ⟨rfl,rfl⟩ hcc3
   have hq3:=nextM_lt (l:=l) (p:=(valueM l 1 p1).2) (n:=2) (by omega)
   have hp3:=nextM_le (l:=l) (p:=(valueM l 1 p1).2) (n:=2) hp2
   have ne0:=nes4 t id1 c3 (c3+1) (by omega)
   simp only [go_sem,seval,ne0]
   repeat' ((first|(with_reducible first|refine wr ?_)|(with_reducible refine wb2 ?_ ?_<;>(intro hb;try simp only [hb]))|((with_reducible refine k_eval (b_appx (insC_len2 _) (by omega) (by omega)) ?_))|fail)<;>try simp only [go_sem,seval,ne0])
   have es:stmtM l (d+1) base p=stK l (stmtM l d) base 10 p1:=by simp only [stmtM];rw [e0];try rfl
   rw [es]
   refine v_end (id:=c3+1) hfr (by omega) (by omega) htc (by first|rfl|simp only [stK,List.length_append,List.length_singleton]) ?_ ?_ fun j h1 h2=>?_
   ·repeat (first|exact h_same|rw [h_ne (by omega)]|rw [h_dne (by omega)])
   ·rw [h_same];simp only [stK,insC_app,insC_one]
   ·repeat (first|rfl|rw [h_ne (by omega)]|rw [h_dne (by omega)])
  ·have nk:((11:Nat):Int)=11:=rfl
   simp only [go_sem,seval,hdl,nk,Int.reduceGT,Int.reduceBEq,Int.reduceLE,decide_true,decide_false,hw2,hw1]
   repeat' ((with_reducible first|refine wr ?_|refine wb2 ?_ ?_<;>(intro hb;try simp only [hb])|fail)<;>try simp only [go_sem,seval,hdl,nk,Int.reduceGT,Int.reduceBEq,Int.reduceLE,decide_true,decide_false,hw2,hw1])
   have es:stmtM l (d+1) base p=stK l (stmtM l d) base 11 p1:=by simp only [stmtM];rw [e0];try rfl
   rw [es]
   refine v_end (id:=c1) hfr (by omega) (by omega) htc (by first|rfl|simp only [stK,List.length_append,List.length_singleton]) ?_ ?_ fun j h1 h2=>?_
   ·repeat (first|exact h_same|rw [h_ne (by omega)]|rw [h_dne (by omega)])
   ·rw [h_same];simp only [stK,insC_app,insC_one]
   ·repeat (first|rfl|rw [h_ne (by omega)]|rw [h_dne (by omega)])
  ·have nk:((0:Nat):Int)=0:=rfl
   simp only [go_sem,seval,hdl,nk,Int.reduceGT,Int.reduceBEq,Int.reduceLE,decide_true,decide_false,hw2,hw1]
   repeat' ((with_reducible first|refine wr ?_|refine wb2 ?_ ?_<;>(intro hb;try simp only [hb])|fail)<;>try simp only [go_sem,seval,hdl,nk,Int.reduceGT,Int.reduceBEq,Int.reduceLE,decide_true,decide_false,hw2,hw1])
   refine AC.call (c_value l hl 2 (by omega) (p1) hp1 _ _ t (by repeat (first|exact h_same|rw [h_ne (by omega)]|rw [h_dne (by omega)])) (by omega)) ?_
   rintro v H' c2 ⟨id1,ia1,ib1,rfl,rfl⟩ hcc2
   have hb1:=valueM_l2 l (p1)
   have hp2:=valueM_le l 2 (p1) hp1
   have ne0:=nes4 t id1 c2 (c2+1) (by omega)
   simp only [go_sem,seval,ne0]
   repeat' ((first|(with_reducible first|refine wr ?_)|(with_reducible refine wb2 ?_ ?_<;>(intro hb;try simp only [hb]))|((with_reducible refine k_eval (b_appx (insC_len2 _) (by omega) (by omega)) ?_))|fail)<;>try simp only [go_sem,seval,ne0])
   refine AC.call (c_next l hl ((valueM l 2 p1).2) hp2 3 (by omega) (by omega) _ _ t (by repeat (first|exact h_same|rw [h_ne (by omega)]|rw [h_dne (by omega)])) (by omega)) ?_
   rintro v H' c3 ⟨rfl,rfl⟩ hcc3
   have hq3:=nextM_lt (l:=l) (p:=(valueM l 2 p1).2) (n:=3) (by omega)
   have hp3:=nextM_le (l:=l) (p:=(valueM l 2 p1).2) (n:=3) hp2
   have ne0:=nes4 t id1 c3 (c3+1) (by omega)
   simp only [go_sem,seval,ne0]
   repeat' ((first|(with_reducible first|refine wr ?_)|(with_reducible refine wb2 ?_ ?_<;>(intro hb;try simp only [hb]))|((with_reducible refine k_eval (b_appx (insC_len2 _) (by omega) (by omega)) ?_))|fail)<;>try simp only [go_sem,seval,ne0])
   have es:stmtM l (d+1) base p=stK l (stmtM l d) base 0 p1:=by simp only [stmtM];rw [e0];try rfl
   rw [es]
   refine v_end (id:=c3+1) hfr (by omega) (by omega) htc (by first|rfl|simp only [stK,List.length_append,List.length_singleton]) ?_ ?_ fun j h1 h2=>?_
   ·repeat (first|exact h_same|rw [h_ne (by omega)]|rw [h_dne (by omega)])
   ·rw [h_same];simp only [stK,insC_app,insC_one]
   ·repeat (first|rfl|rw [h_ne (by omega)]|rw [h_dne (by omega)])
  ·have nk:((12:Nat):Int)=12:=rfl
   simp only [go_sem,seval,hdl,nk,Int.reduceGT,Int.reduceBEq,Int.reduceLE,decide_true,decide_false,hw2,hw1]
   repeat' ((with_reducible first|refine wr ?_|refine wb2 ?_ ?_<;>(intro hb;try simp only [hb])|fail)<;>try simp only [go_sem,seval,hdl,nk,Int.reduceGT,Int.reduceBEq,Int.reduceLE,decide_true,decide_false,hw2,hw1])
   refine AC.call (c_value l hl 1 (by omega) (p1) hp1 _ _ t (by repeat (first|exact h_same|rw [h_ne (by omega)]|rw [h_dne (by omega)])) (by omega)) ?_
   rintro v H' c2 ⟨id1,ia1,ib1,rfl,rfl⟩ hcc2
   have hb1:=valueM_l1 l (p1)
   have hp2:=valueM_le l 1 (p1) hp1
   have hs1:=w_sum (a:=base) (b:=(valueM l 1 p1).1.length) (by omega)
   have hs2:=w_sum (a:=base+(valueM l 1 p1).1.length) (b:=1) (by omega)
   have one:((1:Nat):Int)=1:=rfl
   rw [one] at hs2
   have ne0:=nes4 t id1 c2 (c2+1) (by omega)
   simp only [go_sem,seval,hs1,hs2,hw2,hw1,ne0]
   repeat' ((first|(with_reducible first|refine wr ?_)|(with_reducible refine wb2 ?_ ?_<;>(intro hb;try simp only [hb]))|((with_reducible refine k_eval (b_appx (insC_len2 _) (by omega) (by omega)) ?_))|fail)<;>try simp only [go_sem,seval,hs1,hs2,hw2,hw1,ne0])
   refine AC.call (ih (by omega) (base+(valueM l 1 p1).1.length+1) ((valueM l 1 p1).2) (by omega) hp2 _ _ t (by repeat (first|exact h_same|rw [h_ne (by omega)]|rw [h_dne (by omega)])) (by omega)) ?_
   rintro v H' c3 ⟨id2,ia2,ib2,rfl,rfl⟩ hcc3
   have hb2:=stmtM_len l d (base+(valueM l 1 p1).1.length+1) ((valueM l 1 p1).2)
   have hs3:=w_sum (a:=base+(valueM l 1 p1).1.length+1) (b:=(stmtM l d (base+(valueM l 1 p1).1.length+1) (valueM l 1 p1).2).1.length) (by omega)
   have hl2:=insC_len2 (stmtM l d (base+(valueM l 1 p1).1.length+1) (valueM l 1 p1).2).1
   have hle2:(stmtM l d (base+(valueM l 1 p1).1.length+1) (valueM l 1 p1).2).1.length * 2≤(insC (stmtM l d (base+(valueM l 1 p1).1.length+1) (valueM l 1 p1).2).1).length:=by omega
   have htk:=List.take_of_length_le (l:=insC (stmtM l d (base+(valueM l 1 p1).1.length+1) (valueM l 1 p1).2).1) (i:=(stmtM l d (base+(valueM l 1 p1).1.length+1) (valueM l 1 p1).2).1.length * 2) (by omega)
   have hl3:=fun x y=>insL1 (valueM l 1 p1).1 x y
   have hl4:=fun x y=>insL3 (valueM l 1 p1).1 (stmtM l d (base+(valueM l 1 p1).1.length+1) (valueM l 1 p1).2).1 x y
   have ne0:=nes6 t id1 id2 c3 (c3+1) (c3+2) (by omega)
   simp only [go_sem,seval,hs1,hs2,hs3,hle2,htk,ne0]
   repeat' ((first|(with_reducible first|refine wr ?_)|(with_reducible refine wb2 ?_ ?_<;>(intro hb;try simp only [hb]))|((with_reducible refine k_eval (b_appx (insC_len2 _) (by omega) (by omega)) ?_))|((with_reducible refine k_eval (b_appx (hl3 _ _) (by omega) (by omega)) ?_))|((with_reducible refine k_eval (b_appx (hl4 _ _) (by omega) (by omega)) ?_))|fail)<;>try simp only [go_sem,seval,hs1,hs2,hs3,hle2,htk,ne0])
   have es:stmtM l (d+1) base p=stK l (stmtM l d) base 12 p1:=by simp only [stmtM];rw [e0];try rfl
   rw [es]
   refine v_end (id:=c3+2) hfr (by omega) (by omega) htc (by first|rfl|simp only [stK,List.length_append,List.length_singleton]) ?_ ?_ fun j h1 h2=>?_
   ·repeat (first|exact h_same|rw [h_ne (by omega)]|rw [h_dne (by omega)])
   ·rw [h_same];simp only [stK,insC_app,insC_one]
   ·repeat (first|rfl|rw [h_ne (by omega)]|rw [h_dne (by omega)])
  ·have nk:((13:Nat):Int)=13:=rfl
   simp only [go_sem,seval,hdl,nk,Int.reduceGT,Int.reduceBEq,Int.reduceLE,decide_true,decide_false,hw2,hw1]
   repeat' ((with_reducible first|refine wr ?_|refine wb2 ?_ ?_<;>(intro hb;try simp only [hb])|fail)<;>try simp only [go_sem,seval,hdl,nk,Int.reduceGT,Int.reduceBEq,Int.reduceLE,decide_true,decide_false,hw2,hw1])
   refine AC.call (c_value l hl 0 (by omega) (p1) hp1 _ _ t (by repeat (first|exact h_same|rw [h_ne (by omega)]|rw [h_dne (by omega)])) (by omega)) ?_
   rintro v H' c2 ⟨id1,ia1,ib1,rfl,rfl⟩ hcc2
   have hb1:=valueM_l0 l (p1)
   have hp2:=valueM_le l 0 (p1) hp1
   have hs1:=w_sum (a:=base) (b:=(valueM l 0 p1).1.length) (by omega)
   have hs2:=w_sum (a:=base+(valueM l 0 p1).1.length) (b:=1) (by omega)
   have one:((1:Nat):Int)=1:=rfl
   rw [one] at hs2
   have ne0:=nes4 t id1 c2 (c2+1) (by omega)
   simp only [go_sem,seval,hs1,hs2,hw2,hw1,ne0]
   repeat' ((first|(with_reducible first|refine wr ?_)|(with_reducible refine wb2 ?_ ?_<;>(intro hb;try simp only [hb]))|((with_reducible refine k_eval (b_appx (insC_len2 _) (by omega) (by omega)) ?_))|fail)<;>try simp only [go_sem,seval,hs1,hs2,hw2,hw1,ne0])
   refine AC.call (ih (by omega) (base+(valueM l 0 p1).1.length+1) ((valueM l 0 p1).2) (by omega) hp2 _ _ t (by repeat (first|exact h_same|rw [h_ne (by omega)]|rw [h_dne (by omega)])) (by omega)) ?_
   rintro v H' c3 ⟨id2,ia2,ib2,rfl,rfl⟩ hcc3
   have hb2:=stmtM_len l d (base+(valueM l 0 p1).1.length+1) ((valueM l 0 p1).2)
   have hs4:=w_sum (a:=base+(valueM l 0 p1).1.length) (b:=2) (by omega)
   have two:((2:Nat):Int)=2:=rfl
   rw [two] at hs4
   have hs3:=w_sum (a:=base+(valueM l 0 p1).1.length+2) (b:=(stmtM l d (base+(valueM l 0 p1).1.length+1) (valueM l 0 p1).2).1.length) (by omega)
   have hl2:=insC_len2 (stmtM l d (base+(valueM l 0 p1).1.length+1) (valueM l 0 p1).2).1
   have hle2:(stmtM l d (base+(valueM l 0 p1).1.length+1) (valueM l 0 p1).2).1.length * 2≤(insC (stmtM l d (base+(valueM l 0 p1).1.length+1) (valueM l 0 p1).2).1).length:=by omega
   have htk:=List.take_of_length_le (l:=insC (stmtM l d (base+(valueM l 0 p1).1.length+1) (valueM l 0 p1).2).1) (i:=(stmtM l d (base+(valueM l 0 p1).1.length+1) (valueM l 0 p1).2).1.length * 2) (by omega)
   have hl3:=fun x y=>insL1 (valueM l 0 p1).1 x y
   have hl4:=fun x y=>insL3 (valueM l 0 p1).1 (stmtM l d (base+(valueM l 0 p1).1.length+1) (valueM l 0 p1).2).1 x y
   have ne0:¬t=id1∧¬t=id2∧¬t=c3∧¬t=c3+1∧¬t=c3+2∧¬t=c3+3∧¬t=c3+4∧¬id1=t∧¬id1=id2∧¬id1=c3∧¬id1=c3+1∧¬id1=c3+2∧¬id1=c3+3∧¬id1=c3+4∧¬id2=t∧¬id2=id1∧¬id2=c3∧¬id2=c3+1∧¬id2=c3+2∧¬id2=c3+3∧¬id2=c3+4∧¬c3=t∧¬c3=id1∧¬c3=id2∧¬c3=c3+1∧¬c3=c3+2∧¬c3=c3+3∧¬c3=c3+4∧¬c3+1=t∧¬c3+1=id1∧¬c3+1=id2∧¬c3+1=c3∧¬c3+1=c3+2∧¬c3+1=c3+3∧¬c3+1=c3+4∧¬c3+2=t∧¬c3+2=id1∧¬c3+2=id2∧¬c3+2=c3∧¬c3+2=c3+1∧¬c3+2=c3+3∧¬c3+2=c3+4∧¬c3+3=t∧¬c3+3=id1∧¬c3+3=id2∧¬c3+3=c3∧¬c3+3=c3+1∧¬c3+3=c3+2∧¬c3+3=c3+4∧¬c3+4=t∧¬c3+4=id1∧¬c3+4=id2∧¬c3+4=c3∧¬c3+4=c3+1∧¬c3+4=c3+2∧¬c3+4=c3+3:=by and_intros<;>omega
   simp only [go_sem,seval,hs1,hs2,hs3,hs4,hle2,htk,ne0]
   repeat' ((first|(with_reducible first|refine wr ?_)|(with_reducible refine wb2 ?_ ?_<;>(intro hb;try simp only [hb]))|((with_reducible refine k_eval (b_appx (insC_len2 _) (by omega) (by omega)) ?_))|((with_reducible refine k_eval (b_appx (hl3 _ _) (by omega) (by omega)) ?_))|((with_reducible refine k_eval (b_appx (hl4 _ _) (by omega) (by omega)) ?_))|fail)<;>try simp only [go_sem,seval,hs1,hs2,hs3,hs4,hle2,htk,ne0])
   have es:stmtM l (d+1) base p=stK l (stmtM l d) base 13 p1:=by simp only [stmtM];rw [e0];try rfl
   rw [es]
   refine v_end (id:=c3+4) hfr (by omega) (by omega) htc (by first|rfl|simp only [stK,List.length_append,List.length_singleton]) ?_ ?_ fun j h1 h2=>?_
   ·repeat (first|exact h_same|rw [h_ne (by omega)]|rw [h_dne (by omega)])
   ·rw [h_same];simp only [stK,insC_app,insC_one]
   ·repeat (first|rfl|rw [h_ne (by omega)]|rw [h_dne (by omega)])
  ·have nk:((14:Nat):Int)=14:=rfl
   simp only [go_sem,seval,hdl,nk,Int.reduceGT,Int.reduceBEq,Int.reduceLE,decide_true,decide_false,hw2,hw1]
   repeat' ((with_reducible first|refine wr ?_|refine wb2 ?_ ?_<;>(intro hb;try simp only [hb])|fail)<;>try simp only [go_sem,seval,hdl,nk,Int.reduceGT,Int.reduceBEq,Int.reduceLE,decide_true,decide_false,hw2,hw1])
   refine AC.call (c_value l hl 0 (by omega) (p1) hp1 _ _ t (by repeat (first|exact h_same|rw [h_ne (by omega)]|rw [h_dne (by omega)])) (by omega)) ?_
   rintro v H' c2 ⟨id1,ia1,ib1,rfl,rfl⟩ hcc2
   have hb1:=valueM_l0 l (p1)
   have hp2:=valueM_le l 0 (p1) hp1
   have hs1:=w_sum (a:=base) (b:=(valueM l 0 p1).1.length) (by omega)
   have hs2:=w_sum (a:=base+(valueM l 0 p1).1.length) (b:=1) (by omega)
   have one:((1:Nat):Int)=1:=rfl
   rw [one] at hs2
   have ne0:=nes4 t id1 c2 (c2+1) (by omega)
   simp only [go_sem,seval,hs1,hs2,hw2,hw1,ne0]
   repeat' ((first|(with_reducible first|refine wr ?_)|(with_reducible refine wb2 ?_ ?_<;>(intro hb;try simp only [hb]))|((with_reducible refine k_eval (b_appx (insC_len2 _) (by omega) (by omega)) ?_))|fail)<;>try simp only [go_sem,seval,hs1,hs2,hw2,hw1,ne0])
   refine AC.call (ih (by omega) (base+(valueM l 0 p1).1.length+1) ((valueM l 0 p1).2) (by omega) hp2 _ _ t (by repeat (first|exact h_same|rw [h_ne (by omega)]|rw [h_dne (by omega)])) (by omega)) ?_
   rintro v H' c3 ⟨id2,ia2,ib2,rfl,rfl⟩ hcc3
   have hb2:=stmtM_len l d (base+(valueM l 0 p1).1.length+1) ((valueM l 0 p1).2)
   have hs4:=w_sum (a:=base+(valueM l 0 p1).1.length) (b:=2) (by omega)
   have two:((2:Nat):Int)=2:=rfl
   rw [two] at hs4
   have hs3:=w_sum (a:=base+(valueM l 0 p1).1.length+2) (b:=(stmtM l d (base+(valueM l 0 p1).1.length+1) (valueM l 0 p1).2).1.length) (by omega)
   have hl2:=insC_len2 (stmtM l d (base+(valueM l 0 p1).1.length+1) (valueM l 0 p1).2).1
   have hle2:(stmtM l d (base+(valueM l 0 p1).1.length+1) (valueM l 0 p1).2).1.length * 2≤(insC (stmtM l d (base+(valueM l 0 p1).1.length+1) (valueM l 0 p1).2).1).length:=by omega
   have htk:=List.take_of_length_le (l:=insC (stmtM l d (base+(valueM l 0 p1).1.length+1) (valueM l 0 p1).2).1) (i:=(stmtM l d (base+(valueM l 0 p1).1.length+1) (valueM l 0 p1).2).1.length * 2) (by omega)
   have hl3:=fun x y=>insL1 (valueM l 0 p1).1 x y
   have hl4:=fun x y=>insL3 (valueM l 0 p1).1 (stmtM l d (base+(valueM l 0 p1).1.length+1) (valueM l 0 p1).2).1 x y
   have ne0:¬t=id1∧¬t=id2∧¬t=c3∧¬t=c3+1∧¬t=c3+2∧¬t=c3+3∧¬t=c3+4∧¬id1=t∧¬id1=id2∧¬id1=c3∧¬id1=c3+1∧¬id1=c3+2∧¬id1=c3+3∧¬id1=c3+4∧¬id2=t∧¬id2=id1∧¬id2=c3∧¬id2=c3+1∧¬id2=c3+2∧¬id2=c3+3∧¬id2=c3+4∧¬c3=t∧¬c3=id1∧¬c3=id2∧¬c3=c3+1∧¬c3=c3+2∧¬c3=c3+3∧¬c3=c3+4∧¬c3+1=t∧¬c3+1=id1∧¬c3+1=id2∧¬c3+1=c3∧¬c3+1=c3+2∧¬c3+1=c3+3∧¬c3+1=c3+4∧¬c3+2=t∧¬c3+2=id1∧¬c3+2=id2∧¬c3+2=c3∧¬c3+2=c3+1∧¬c3+2=c3+3∧¬c3+2=c3+4∧¬c3+3=t∧¬c3+3=id1∧¬c3+3=id2∧¬c3+3=c3∧¬c3+3=c3+1∧¬c3+3=c3+2∧¬c3+3=c3+4∧¬c3+4=t∧¬c3+4=id1∧¬c3+4=id2∧¬c3+4=c3∧¬c3+4=c3+1∧¬c3+4=c3+2∧¬c3+4=c3+3:=by and_intros<;>omega
   simp only [go_sem,seval,hs1,hs2,hs3,hs4,hle2,htk,ne0]
   repeat' ((first|(with_reducible first|refine wr ?_)|(with_reducible refine wb2 ?_ ?_<;>(intro hb;try simp only [hb]))|((with_reducible refine k_eval (b_appx (insC_len2 _) (by omega) (by omega)) ?_))|((with_reducible refine k_eval (b_appx (hl3 _ _) (by omega) (by omega)) ?_))|((with_reducible refine k_eval (b_appx (hl4 _ _) (by omega) (by omega)) ?_))|fail)<;>try simp only [go_sem,seval,hs1,hs2,hs3,hs4,hle2,htk,ne0])
   have es:stmtM l (d+1) base p=stK l (stmtM l d) base 14 p1:=by simp only [stmtM];rw [e0];try rfl
   rw [es]
   refine v_end (id:=c3+4) hfr (by omega) (by omega) htc (by first|rfl|simp only [stK,List.length_append,List.length_singleton]) ?_ ?_ fun j h1 h2=>?_
   ·repeat (first|exact h_same|rw [h_ne (by omega)]|rw [h_dne (by omega)])
   ·rw [h_same];simp only [stK,insC_app,insC_one]
   ·repeat (first|rfl|rw [h_ne (by omega)]|rw [h_dne (by omega)])
end Go.Proofs.YtcallbfckjlagaaGreat
namespace Go.Proofs.YtcallbfckjlagaaGreat
open Go.Eng (IC IOper DReg IFn IsFn)
open Go.Sym Go.Pb
section
abbrev u8_10:IC:=qK .skip (.exit 0) (.t 37) [2,3,4,5,6,37]
abbrev u8_9:IC:=qS [oM 34 6,oM 35 5,oH 36 35,oB 37 34 36 .lss] u8_10 [2,3,4,5,6]
abbrev u8_14:IC:=qK (.exit 1) .skip (.t 46) [2,3,4,5,6,46]
abbrev u8_13:IC:=qS [oM 40 6,oK 41 40 .gtr 0,oM 42 41,gM 43 3 42,⟨some 44,.call 20 [.t 43,.k (.int .i64 2)],some (42,true)⟩,gK 45 44 42 .eql 0,oJ 46 42 45] u8_14 [2,3,4,5,6]
abbrev u8_23:IC:=qK .skip (.exit 2) (.t 64) [2,3,4,5,6,8,64]
abbrev u8_22:IC:=qS [oM 63 8,oK 64 63 .gtr 0] u8_23 [2,3,4,5,6,8]
abbrev u8_25:IC:=qG [oF 67 4 0,oL 68 67,oM 69 3,oF 70 4 0,oL 71 70,oH 72 71,oC 73 21 [.t 69,.t 72,.k (.int .i64 2)],oT 74 68 73 2 16,oF 75 4 0,oS 75 74 1] [(0,none),(1,none),(2,none),(3,none),(4,none),(5,none),(6,some [0,1]),(7,some []),(8,none),(9,some [])] 10 [2,3,4,5,6,8]
abbrev u8_26:IC:=qE [oM 65 8,oK 66 65 .sub 1,oM 8 66] [2,3,4,5,6,8]
abbrev u8_24:IC:=qB u8_25 u8_26 3 [2,3,4,5,6,8]
abbrev u8_21:IC:=qQ u8_22 u8_24 [2,3,4,5,6,8]
abbrev u8_20:IC:=qJ (.loop u8_21) 2 [2,3,4,5,6,8]
abbrev u8_19:IC:=qS [oM 61 3,oC 62 20 [.t 61,.k (.int .i64 4)],oM 8 62] u8_20 [2,3,4,5,6]
abbrev u8_27:IC:=qE [oF 76 4 0,oL 77 76,oP 78 (.bld #[.int .i64 0,.int .i64 0] [(0,1),(1,1)] [(0,.k (.int .i64 31))]),⟨some 79,.new (.bsl 2 1 #[.int .i64 0,.int .i64 0] [(0,.t 78)]),none⟩,oT 80 77 79 2 16,oF 81 4 0,oS 81 80 1] [2,3,4,5,6]
abbrev u8_18:IC:=qQ u8_19 u8_27 [2,3,4,5,6]
abbrev u8_17:IC:=qS [oF 55 4 2,oL 56 55,oD 57 7 4,⟨some 58,.new (.bsl 4 1 #[.int .i64 0,.int .i64 0,.int .i64 0,.int .i64 0] [(0,.t 57)]),none⟩,oT 59 56 58 4 32,oF 60 4 2,oS 60 59 1] u8_18 [2,3,4,5,6,7]
abbrev u8_16:IC:=qS [oF 51 4 0,oL 52 51,oH 53 52,oF 54 7 3,oS 54 53 1] u8_17 [2,3,4,5,6,7]
abbrev u8_15:IC:=qS [oM 47 5,oM 48 6,oA 49 47 48 4,oD 50 49 4,oW 7 (.agg #[.int .i64 0,.int .i64 0,.int .i64 0,.int .i64 0]),oS 7 50 4] u8_16 [2,3,4,5,6]
abbrev u8_12:IC:=qQ u8_13 u8_15 [2,3,4,5,6]
abbrev u8_28:IC:=qE [oM 38 6,oK 39 38 .add 1,oM 6 39] [2,3,4,5,6]
abbrev u8_11:IC:=qB u8_12 u8_28 1 [2,3,4,5,6]
abbrev u8_8:IC:=qQ u8_9 u8_11 [2,3,4,5,6]
abbrev u8_7:IC:=qJ (.loop u8_8) 0 [2,3,4,5,6]
abbrev u8_6:IC:=qS [oI 6 0] u8_7 [2,3,4,5]
abbrev u8_29:IC:=qS [oD 82 4 7,oS 2 82 7] .ret [2,4]
abbrev u8_5:IC:=qQ u8_6 u8_29 [2,3,4,5]
abbrev u8_4:IC:=qS [oP 24 (.bld #[.int .i64 0,.int .i64 0,.int .i64 0,.int .i64 0] [(0,1),(1,1),(2,1),(3,1)] [(1,.k (.int .i64 1))]),oP 25 (.bld #[.int .i64 0,.int .i64 0,.int .i64 0,.int .i64 0] [(0,1),(1,1),(2,1),(3,1)] [(1,.k (.int .i64 2))]),oP 26 (.bld #[.int .i64 0,.int .i64 0,.int .i64 0,.int .i64 0] [(0,1),(1,1),(2,1),(3,1)] [(1,.k (.int .i64 3)),(2,.k (.int .i64 3))]),oP 27 (.bld #[.int .i64 0,.int .i64 0,.int .i64 0,.int .i64 0] [(0,1),(1,1),(2,1),(3,1)] [(1,.k (.int .i64 5)),(2,.k (.int .i64 1))]),oP 28 (.bld #[.int .i64 0,.int .i64 0,.int .i64 0,.int .i64 0] [(0,1),(1,1),(2,1),(3,1)] [(1,.k (.int .i64 6))]),oP 29 (.bld #[.int .i64 0,.int .i64 0,.int .i64 0,.int .i64 0] [(0,1),(1,1),(2,1),(3,1)] [(0,.k (.int .i64 1)),(1,.k (.int .i64 1))]),oP 30 (.bld #[.int .i64 0,.int .i64 0,.int .i64 0,.int .i64 0] [(0,1),(1,1),(2,1),(3,1)] [(0,.k (.int .i64 1)),(1,.k (.int .i64 3)),(2,.k (.int .i64 3))]),oP 31 (.bld #[.int .i64 0,.int .i64 0,.int .i64 0,.int .i64 0] [(0,1),(1,1),(2,1),(3,1)] [(0,.k (.int .i64 1)),(1,.k (.int .i64 4)),(2,.k (.int .i64 63))]),oP 32 (.bld #[.int .i64 0,.int .i64 0,.int .i64 0,.int .i64 0] [(0,1),(1,1),(2,1),(3,1)] [(0,.k (.int .i64 1)),(1,.k (.int .i64 6)),(2,.k (.int .i64 1))]),⟨some 33,.new (.bsl 4 9 #[.int .i64 0,.int .i64 0,.int .i64 0,.int .i64 0] [(0,.t 24),(1,.t 25),(2,.t 26),(3,.t 27),(4,.t 28),(5,.t 29),(6,.t 30),(7,.t 31),(8,.t 32)]),none⟩,oM 5 33] u8_5 [2,3,4]
abbrev u8_3:IC:=qS [⟨some 16,.new (.bsl 1 2 #[.string ⟨#[]⟩] [(0,.k (.string ⟨#[103,111]⟩)),(1,.k (.string ⟨#[111,118,101,114]⟩))]),none⟩,oM 17 3,oC 18 20 [.t 17,.k (.int .i64 4)],oM 19 3,oC 20 20 [.t 19,.k (.int .i64 4)],⟨some 21,.new (.bsl 1 2 #[.int .i64 0] [(0,.t 18),(1,.t 20)]),none⟩,⟨some 22,.new (.bsl 1 3 #[.int .i64 0] [(0,.k (.int .i64 0)),(1,.k (.int .i64 5)),(2,.k (.int .i64 (-3)))]),none⟩,oP 23 (.bld #[.slice none 0 0,.slice none 0 0,.slice none 0 0,.slice none 0 0,.slice none 0 0,.int .i64 0,.int .i64 0] [(0,1),(1,1),(2,1),(3,1),(4,1),(5,1),(6,1)] [(1,.t 16),(3,.t 21),(4,.t 22),(5,.k (.int .i64 2)),(6,.k (.int .i64 2))]),oW 4 (.agg #[.slice none 0 0,.slice none 0 0,.slice none 0 0,.slice none 0 0,.slice none 0 0,.int .i64 0,.int .i64 0]),oS 4 23 7] u8_4 [2,3]
abbrev u8_2:IC:=qS [oM 9 0,oM 10 0,oH 11 10,oP 12 (.mn (.t 11) (.k (.int .i64 200))),oP 13 (.slc 1 (.t 9) none (some (.t 12))),oP 14 (.bld #[.slice none 0 0,.int .i64 0] [(0,1),(1,1)] [(0,.t 13)]),oX 15 14,oM 3 15] u8_3 [0,2]
abbrev u8_1:IC:=qS [oW 2 (.agg #[.slice none 0 0,.slice none 0 0,.slice none 0 0,.slice none 0 0,.slice none 0 0,.int .i64 0,.int .i64 0])] u8_2 [0]
def u8:IFn:=⟨83,u8_1,[.cell 2 7 true]⟩
end
theorem isU8:IsFn Tryz.prog 8 u8:=by unfold IsFn;kernel_rfl
def madeO (l:List UInt8) (id:Nat):DV:=.agg (.slc id 0 (madeM l).instrs.length :: [strs mdS,entsV (madeM l).entries,ints (mdP (l.take 200)),ints mdV,I64 2,I64 2])
theorem c_MadeN (l:List UInt8) (hl:l.length≤9223372036854775807):AC Tryz.prog 8 [.lst (bytesC l)] nil 0 (fun v H' _ => ∃ id,v=madeO l id∧H'=nil.upd id ⟨2,true,insC (madeM l).instrs⟩):=by
 refine AC.body mixedU isU8 (Nat.le_of_ble_eq_true rfl) fun hfr=>?_
 show IW Tryz.prog 83 u8_1 ⟨argT _,_,_⟩ (rt [.cell 2 7 true] _)
 have hlen:=bytesC_len l
 obtain ⟨t,ht⟩:∃ t,t=l.take 200:=⟨_,rfl⟩
 have htl:t.length≤200:=by rw [ht,List.length_take];omega
 have hmn:(if (200:Int)<((l.length:Nat):Int) then (200:Int) else ((l.length:Nat):Int))=((t.length:Nat):Int):=by
  rw [ht,List.length_take];split<;>omega
 have hsl:∀ H,slcR H 1 (.lst (bytesC l)) none (some (I64 (t.length:Int)))=some (.lst (bytesC t)):=fun H=>by
  have e:l.take t.length=t:=by
   rw [ht,List.length_take]
   by_cases h:200≤l.length
   ·rw [Nat.min_eq_left h]
   ·rw [Nat.min_eq_right (by omega),List.take_of_length_le (Nat.le_refl _),List.take_of_length_le (by omega)]
  rw [slc_bytes (by rw [ht,List.length_take];omega),e]
 repeat' ((with_reducible first|refine wr ?_|refine wb2 ?_ ?_<;>(intro hb;try simp only [hb])|fail)<;>try simp only [go_sem,seval,hlen,hmn,hsl])
 refine AC.call (c_next t (by omega) 0 (by omega) 4 (by omega) (by omega) _ _ 1 rfl (by omega)) ?_
 rintro v H' c1 ⟨rfl,rfl⟩ hc1
 have hp1:=nextM_le (l:=t) (p:=0) (n:=4) (by omega)
 simp only [go_sem,seval]
 repeat' ((with_reducible first|refine wr ?_|refine wb2 ?_ ?_<;>(intro hb;try simp only [hb])|fail)<;>try simp only [go_sem,seval])
 refine AC.call (c_next t (by omega) _ hp1 4 (by omega) (by omega) _ _ 1 h_same (by omega)) ?_
 rintro v H' c2 ⟨rfl,rfl⟩ hc2
 have hp2:=nextM_le (l:=t) (p:=(nextM t 0 4).2) (n:=4) hp1
 rw [h_upd2]
 have ne0:=nes7 0 1 2 c2 (c2+1) (c2+2) (c2+3) (by omega)
 simp only [go_sem,seval,ne0]
 repeat' ((with_reducible first|refine wr ?_|refine wb2 ?_ ?_<;>(intro hb;try simp only [hb])|fail)<;>try simp only [go_sem,seval,ne0])
 have hkk:∃ k,k=c2+1+1:=⟨_,rfl⟩
 have hkeys:(entsV keysM)=entsV keysM:=rfl
 refine IW.keep [2,3,4,5,6] [.ptr 0 0,.ptr 1 0,.ptr (c2+1+1) 0,entsV keysM,I64 0]
  (H':=MH (c2+1+1) t (nextM t (nextM t 0 4).2 4).2 (strs mdS) (ints (mdP t)) (ints mdV) [] [] none none)
  ((g_cell (a:=2) (k:=c2+1+1) (u:=1) (u':=1) (pre:=[.snil]) (suf:=[.snil,.slc c2 0 2,.slc (c2+1) 0 3,I64 2,I64 2]) (xs:=mdS.map DV.str) (junk:=[]) (by simp only [go_sem,ne0,List.cons_append,List.nil_append];rfl) (by simp only [go_sem,ne0];rfl) (by simp [DV.one]) rfl (str_unit _) (by omega)).trans
  ((g_cell (a:=c2) (k:=c2+1+1) (u:=1) (u':=1) (pre:=[.snil,strs mdS,.snil]) (suf:=[.slc (c2+1) 0 3,I64 2,I64 2]) (xs:=(mdP t).map I64) (junk:=[]) (by simp only [go_sem,ne0,List.cons_append,List.nil_append];rfl) (by simp only [go_sem,ne0];rfl) (by simp [DV.one]) rfl (ints_unit _) (by omega)).trans
  ((g_cell (a:=c2+1) (k:=c2+1+1) (u:=1) (u':=1) (pre:=[.snil,strs mdS,.snil,ints (mdP t)]) (suf:=[I64 2,I64 2]) (xs:=mdV.map I64) (junk:=[]) (by simp only [go_sem,ne0,List.cons_append,List.nil_append];rfl) (by simp only [go_sem,ne0];rfl) (by simp [DV.one]) rfl (ints_unit _) (by omega)).trans
  (GL.frzS (id:=c2+1+1+1) (b:=⟨4,true,cellsL (keysM.map Ent.v)⟩) (by simp only [go_sem,ne0];rfl) rfl (fun j=>?_) (.cons _ _ _ _ (.same _) (.cons _ _ _ _ (.same _) (.cons _ _ _ _ (.same _) (.cons _ _ _ _ (fz_slc (u:=4) rfl (ent_unit _) ⟨[],by simp⟩) (.cons _ _ _ _ (.same _) .nil))))))))) ?_
 ·by_cases e1:j=c2+1+1
  ·subst e1;right;refine ⟨by omega,?_⟩;rw [h_same];unfold MH;simp only [optH];rw [h_same];rfl
  ·by_cases e2:j=1
   ·subst e2;right;refine ⟨by omega,?_⟩;rw [h_ne (by omega),h_dne (by omega),h_ne (by omega),h_dne (by omega),h_ne (by omega),h_dne (by omega)];simp only [go_sem,ne0];rfl
   ·by_cases e3:j=0
    ·subst e3;right;refine ⟨by omega,?_⟩;rw [h_ne (by omega),h_dne (by omega),h_ne (by omega),h_dne (by omega),h_ne (by omega),h_dne (by omega)];simp only [go_sem,ne0];rfl
    ·left;unfold MH;simp only [optH];rw [h_ne e1,h_ne e2,h_ne e3];rfl
 obtain ⟨k,hk⟩:∃ k,k=c2+1+1:=⟨_,rfl⟩
 rw [← hk]
 have hkl:keysM.length=9:=rfl
 refine i_loop (fun q:Nat × Option Nat × Option Nat=>[(2,.ptr 0 0),(3,.ptr 1 0),(4,.ptr k 0),(5,entsV keysM),(6,I64 q.1)]) (fun q=>MH k t (mdK t q.1).p (strs mdS) (ints (mdP t)) (ints mdV) (mdK t q.1).I (mdK t q.1).E q.2.1 q.2.2)
  (fun q cc=>MO k q.2.1 q.2.2 cc∧q.1≤9∧(q.2.1=none→(mdK t q.1).I=[])∧(q.2.2=none→(mdK t q.1).E=[])∧(q.1≠0→q.2.1≠none∧q.2.2≠none)) (fun q=>9-q.1) (0,none,none)
  (by simp [tmLe,tm,Tm.upd]) (Sub.refl _) ⟨⟨by omega,by omega,by simp,by simp,by simp⟩,by simp,fun _=>rfl,fun _=>rfl,by simp⟩ ?_
 clear hkeys hkk
 rintro ⟨i,o1,o2⟩ cc ⟨hO,hi9,hn1,hn2,hne⟩
 simp only at hO hi9 hn1 hn2 hne
 obtain ⟨B1,B2,B3⟩:=mdK_bd (l:=t) i
 by_cases hlt:i<9
 ·have hd:decide ((i:Int)<9)=true:=by simp;omega
  have hw:IntKind.i64.wrap ((i:Int)+1)=((i+1:Nat):Int):=by rw [w64 (by omega) (by omega)];omega
  obtain ⟨e,he⟩:∃ e,e=keysM.getD i ⟨0,0,0,0⟩:=⟨_,rfl⟩
  have hg:keysM[i]? = some e:=by rw [he,List.getD,List.getElem?_eq_getElem (by rw [hkl];exact hlt)];rfl
  obtain ⟨x,hx⟩:∃ x,x=mdK t i:=⟨_,rfl⟩
  have hmd:mdK t (i+1)=mdI t e i x:=by rw [he,hx];rfl
  rw [← hx] at B1 B2 B3 hn1 hn2
  simp only
  rw [← hx]
  obtain ⟨I,E,p⟩:=x
  simp only at B1 B2 B3 hn1 hn2 ⊢
  by_cases hi0:i=0
  ·have hgt:decide ((i:Int)>0)=false:=by simp;omega
   obtain ⟨pp,hpp⟩:∃ pp,pp=p:=⟨_,rfl⟩
   have hmd2:mdK t (i+1)=mdH t e ⟨I,E,p⟩ pp:=by rw [hmd,mdI,if_pos hi0,hpp]
   have Hpp:pp≤t.length:=by rw [hpp];exact B1
   rw [← hpp]
   have hlt1:=r_lentodo (o:=o1) (n:=I.length) (fun e=>len_nil (hn1 e))
   have hD:=fun (p:Nat)=>MH_k (l:=t) (p:=p) (S:=strs mdS) (P:=ints (mdP t)) (V:=ints mdV) (I:=I) (E:=E) hO
   have hcc:=hO.kc
   have hk2:=hO.k2
   have hdk:∀ X,delO X o2 k=X k:=fun X=>delO_ne (fun i hi e=>by have:=hO.b i hi;omega)
   have hd1:∀ X,delO X o2 1=X 1:=fun X=>delO_ne (fun i hi e=>by have:=hO.b i hi;omega)
   have hd0:∀ X,delO X o2 0=X 0:=fun X=>delO_ne (fun i hi e=>by have:=hO.b i hi;omega)
   have hda:∀ X j,o1=some j→delO X o2 j=X j:=fun X j hj=>delO_ne (fun i hi e=>hO.ne j hj (by rw [e];exact hi))
   have ne0:=nes6 0 1 k cc (cc+1) (cc+2) (by omega)
   repeat' ((with_reducible first|refine wr ?_|refine wb2 ?_ ?_<;>(intro hb;try simp only [hb])|fail)<;>try simp only [go_sem,seval,hkl,hd,hgt,hg,hlt1,hD,ne0])
   refine k_eval (r_apptodo (cs:=cellsL (E.map Ent.v)) (fun e=>⟨len_nil (hn2 e),entC_nil (hn2 e)⟩) (fun i hi=>?_) (entC_len' E) (by omega) (by omega) (by omega)) ?_
   ·have:=hO.b i hi
    rw [h_ne (by omega),h_ne (by omega),h_ne (by omega),h_ne (by omega)];exact MH_b hi
   simp only [go_sem,seval,hdk,hD,ne0]
   repeat' ((with_reducible first|refine wr ?_|refine wb2 ?_ ?_<;>(intro hb;try simp only [hb])|fail)<;>try simp only [go_sem,seval,hdk,hD,ne0])
   refine AC.call (c_next t (by omega) pp Hpp 4 (by omega) (by omega) _ _ 1 (by repeat (first|exact MH_1 hO|rw [h_ne (by omega)]|rw [hd1])) (by omega)) ?_
   rintro v H' c4 ⟨rfl,rfl⟩ hc4
   have hq4:=nextM_lt (l:=t) (p:=pp) (n:=4) (by omega)
   have hp4:=nextM_le (l:=t) (p:=pp) (n:=4) Hpp
   obtain ⟨n,hn⟩:∃ n,n=(nextM t pp 4).1:=⟨_,rfl⟩
   obtain ⟨p2,hp2⟩:∃ p2,p2=(nextM t pp 4).2:=⟨_,rfl⟩
   rw [← hn, ← hp2]
   rw [← hn] at hq4
   rw [← hp2] at hp4
   simp only [go_sem,seval]
   repeat' ((with_reducible first|refine wr ?_|refine wb2 ?_ ?_<;>(intro hb;try simp only [hb])|fail)<;>try simp only [go_sem,seval])
   obtain ⟨e',he'⟩:∃ e':Ent,e'=⟨e.mode,e.trigger,e.index,(I.length:Int)⟩:=⟨_,rfl⟩
   have hE':cellsL ((E++[e']).map Ent.v)=cellsL (E.map Ent.v)++[I64 e.mode,I64 e.trigger,I64 e.index,I64 (I.length:Int)]:=by rw [entC_snoc,he']
   refine i_loop (fun q:Nat × Option Nat=>[(2,.ptr 0 0),(3,.ptr 1 0),(4,.ptr k 0),(5,entsV keysM),(6,I64 i),(8,I64 ((n-q.1:Nat):Int))]) (fun q=>MH k t (mdB t q.1 (I,p2)).2 (strs mdS) (ints (mdP t)) (ints mdV) (mdB t q.1 (I,p2)).1 (E++[e']) q.2 (some (cc+1+1)))
    (fun q c=>MO k q.2 (some (cc+1+1)) c∧q.1≤n∧(q.2=none→(mdB t q.1 (I,p2)).1=[])) (fun q=>n-q.1) (0,o1) (by simp [tmLe,tm,Tm.upd]) ?_ ?_ ?_
   ·refine MH_sub (by repeat (first|exact MH_0 hO|rw [h_ne (by omega)]|rw [hd0])) h_same ?_ (fun j hj=>?_) (fun j hj=>?_)
    ·rw [h_ne (by omega),h_same,List.length_append];rfl
    ·have:=hO.a j hj
     rw [h_ne (by omega),h_ne (by omega),h_ne (by omega),hda _ j hj,h_ne (by omega),h_ne (by omega),h_ne (by omega),h_ne (by omega)];exact MH_a hO hj
    ·cases hj
     rw [h_ne (by omega),h_ne (by omega),h_same,hE']
   ·exact ⟨⟨hk2,by omega,fun j hj=>by have:=hO.a j hj;omega,fun j hj=>by cases hj;omega,fun j hj e=>by cases e;have:=hO.a _ hj;omega⟩,by simp,hn1⟩
   rintro ⟨j,oj⟩ cj ⟨hOj,hjn,hnj⟩
   simp only at hOj hjn hnj
   have hbl:=mdB_len (l:=t) (x:=(I,p2)) j
   have hbp:=mdB_pos (l:=t) (x:=(I,p2)) hp4 j
   simp only at hbl
   obtain ⟨Ij,hIj⟩:∃ x,x=(mdB t j (I,p2)).1:=⟨_,rfl⟩
   obtain ⟨pj,hpj⟩:∃ x,x=(mdB t j (I,p2)).2:=⟨_,rfl⟩
   simp only
   rw [← hIj, ← hpj]
   rw [← hIj] at hbl hnj
   rw [← hpj] at hbp
   have hDj:=fun (p:Nat)=>MH_k (l:=t) (p:=p) (S:=strs mdS) (P:=ints (mdP t)) (V:=ints mdV) (I:=Ij) (E:=E++[e']) hOj
   have hltj:=r_lentodo (o:=oj) (n:=Ij.length) (fun e=>len_nil (hnj e))
   have hckj:=hOj.kc
   by_cases hj0:j<n
   ·have hgj:decide (((n-j:Nat):Int)>0)=true:=by simp;omega
    have hwj:IntKind.i64.wrap (((n-j:Nat):Int)-1)=((n-(j+1):Nat):Int):=by rw [w64 (by omega) (by omega)];omega
    have f0:=MH_n (l:=t) (p:=pj) (S:=strs mdS) (P:=ints (mdP t)) (V:=ints mdV) (I:=Ij) (E:=E++[e']) hOj (j:=cj) (by omega)
    have f1:=MH_n (l:=t) (p:=pj) (S:=strs mdS) (P:=ints (mdP t)) (V:=ints mdV) (I:=Ij) (E:=E++[e']) hOj (j:=cj+1) (by omega)
    have ne0:=nes5 0 1 k cj (cj+1) (by omega)
    repeat' ((with_reducible first|refine wr ?_|refine wb2 ?_ ?_<;>(intro hb;try simp only [hb])|fail)<;>try simp only [go_sem,seval,hgj,hDj,hltj,ne0])
    refine AC.call (c_stmt t (by omega) 2 (by omega) Ij.length pj (by omega) hbp _ _ 1 (MH_1 hOj) (by omega)) ?_
    rintro v H' c5 ⟨id,ia,ib,rfl,rfl⟩ hc5
    have hsl:=stmtM_len t 2 Ij.length pj
    have hs1:1≤(stmtM t 2 Ij.length pj).1.length:=stmtM_ne
    have ne0:=nes7 0 1 k cj (cj+1) id c5 (by omega)
    have hl2:=insC_len2 (stmtM t 2 Ij.length pj).1
    have hle2:(stmtM t 2 Ij.length pj).1.length * 2≤(insC (stmtM t 2 Ij.length pj).1).length:=by omega
    have htk:=List.take_of_length_le (l:=insC (stmtM t 2 Ij.length pj).1) (i:=(stmtM t 2 Ij.length pj).1.length * 2) (by omega)
    have hdkj:∀ X,delO X oj k=X k:=fun X=>delO_ne (fun i hi e=>by have:=hOj.a i hi;omega)
    simp only [go_sem,seval,f0,f1,hDj,hltj,hle2,htk,ne0]
    repeat' ((with_reducible first|refine wr ?_|refine wb2 ?_ ?_<;>(intro hb;try simp only [hb])|fail)<;>try simp only [go_sem,seval,f0,f1,hDj,hltj,hle2,htk,ne0])
    refine x_eval (r_apptodo (cs:=insC Ij) (fun e=>⟨len_nil (hnj e),insC_nil (hnj e)⟩) (fun i hi=>?_) (insC_len2 Ij) (by omega) (by omega) (by omega)) ?_
    ·have:=hOj.a i hi
     rw [h_ne (by omega),h_ne (by omega)];exact MH_a hOj hi
    simp only [go_sem,seval,hdkj,hDj,ne0]
    repeat' ((with_reducible first|refine wr ?_|refine wb2 ?_ ?_<;>(intro hb;try simp only [hb])|fail)<;>try simp only [go_sem,seval,hdkj,hDj,hwj,ne0])
    have hOb:=hOj.b _ rfl
    have hd0j:∀ X,delO X oj 0=X 0:=fun X=>delO_ne (fun i hi e=>by have:=hOj.a i hi;omega)
    have hd1j:∀ X,delO X oj 1=X 1:=fun X=>delO_ne (fun i hi e=>by have:=hOj.a i hi;omega)
    have hdej:∀ X,delO X oj (cc+1+1)=X (cc+1+1):=fun X=>delO_ne (fun i hi e=>hOj.ne i hi (by rw [← e]))
    have m1:(mdB t (j+1) (I,p2)).1=Ij++(stmtM t 2 Ij.length pj).1:=by simp only [mdB];rw [← hIj, ← hpj]
    have m2:(mdB t (j+1) (I,p2)).2=(stmtM t 2 Ij.length pj).2:=by simp only [mdB];rw [← hIj, ← hpj]
    refine ⟨(j+1,some c5),rfl,?_,inv ⟨⟨hk2,by omega,fun i hi=>by cases hi;omega,fun i hi=>by cases hi;omega,fun i hi e=>by cases hi;cases e;omega⟩,hj0,by simp⟩,by simp only;omega⟩
    simp only [m1,m2]
    refine MH_sub ?_ ?_ ?_ (fun i hi=>?_) (fun i hi=>?_)
    ·rw [h_ne (by omega),h_ne (by omega),hd0j,h_ne (by omega),h_ne (by omega)];exact MH_0 hOj
    ·rw [h_ne (by omega),h_ne (by omega),hd1j,h_ne (by omega),h_same]
    ·rw [h_same];simp only [todo_s,List.length_append,List.length_singleton]
    ·cases hi;rw [h_ne (by omega),h_same,insC_app]
    ·cases hi;rw [h_ne (by omega),h_ne (by omega),hdej,h_ne (by omega),h_ne (by omega)];exact MH_b rfl
   ·have hjn2:j=n:=by omega
    have hgj:decide (((n-j:Nat):Int)>0)=false:=by simp;omega
    have hdkj:∀ X,delO X oj k=X k:=fun X=>delO_ne (fun i hi e=>by have:=hOj.a i hi;omega)
    have ne0:=nes5 0 1 k cj (cj+1) (by omega)
    repeat' ((with_reducible first|refine wr ?_|refine wb2 ?_ ?_<;>(intro hb;try simp only [hb])|fail)<;>try simp only [go_sem,seval,hgj,hDj,ne0])
    refine k_eval (r_apptodo (cs:=insC Ij) (fun e=>⟨len_nil (hnj e),insC_nil (hnj e)⟩) (fun i hi=>?_) (insC_len2 Ij) (by omega) (by omega) (by omega)) ?_
    ·have:=hOj.a i hi
     rw [h_ne (by omega)];exact MH_a hOj hi
    simp only [go_sem,seval,hdkj,hDj,ne0]
    repeat' ((with_reducible first|refine wr ?_|refine wb2 ?_ ?_<;>(intro hb;try simp only [hb])|fail)<;>try simp only [go_sem,seval,hdkj,hDj,hw,ne0])
    have hOb:=hOj.b _ rfl
    have hd0j:∀ X,delO X oj 0=X 0:=fun X=>delO_ne (fun i hi e=>by have:=hOj.a i hi;omega)
    have hd1j:∀ X,delO X oj 1=X 1:=fun X=>delO_ne (fun i hi e=>by have:=hOj.a i hi;omega)
    have hdej:∀ X,delO X oj (cc+1+1)=X (cc+1+1):=fun X=>delO_ne (fun i hi e=>hOj.ne i hi (by rw [← e]))
    have M1:(mdK t (i+1)).I=Ij++[⟨31,0⟩]:=by rw [hmd2];simp only [mdH];rw [← hn, ← hp2, ← hjn2, ← hIj]
    have M2:(mdK t (i+1)).E=E++[e']:=by rw [hmd2,he'];rfl
    have M3:(mdK t (i+1)).p=pj:=by rw [hmd2];simp only [mdH];rw [← hn, ← hp2, ← hjn2, ← hpj]
    refine ⟨(i+1,some (cj+1),some (cc+1+1)),rfl,?_,inv ⟨⟨hk2,by omega,fun i hi=>by cases hi;omega,fun i hi=>by cases hi;omega,fun i hi e=>by cases hi;cases e;omega⟩,hlt,by simp,by simp,by simp⟩,by simp only;omega⟩
    simp only [M1,M2,M3]
    refine MH_sub ?_ ?_ ?_ (fun i hi=>?_) (fun i hi=>?_)
    ·rw [h_ne (by omega),h_ne (by omega),hd0j,h_ne (by omega)];exact MH_0 hOj
    ·rw [h_ne (by omega),h_ne (by omega),hd1j,h_ne (by omega)];exact MH_1 hOj
    ·rw [h_same];simp only [todo_s,List.length_append,List.length_singleton]
    ·cases hi;rw [h_ne (by omega),h_same,insC_app,insC_one]
    ·cases hi;rw [h_ne (by omega),h_ne (by omega),hdej,h_ne (by omega)];exact MH_b rfl
  ·have hgt:decide ((i:Int)>0)=true:=by simp;omega
   repeat' ((with_reducible first|refine wr ?_|refine wb2 ?_ ?_<;>(intro hb;try simp only [hb])|fail)<;>try simp only [go_sem,seval,hkl,hd,hgt])
   refine AC.call (c_next t (by omega) p B1 2 (by omega) (by omega) _ _ 1 (MH_1 hO) (by have:=hO.kc;have:=hO.k2;omega)) ?_
   rintro v H' c3 ⟨rfl,rfl⟩ hc3
   rw [MH_t hO]
   replace hO:=hO.mono hc3
   by_cases hz:(nextM t p 2).1=0
   ·have hz1:(((nextM t p 2).1:Int) == 0)=true:=by simp [hz]
    have hmd2:mdK t (i+1)=⟨I,E,(nextM t p 2).2⟩:=by rw [hmd,mdI,if_neg hi0,if_pos hz]
    simp only [go_sem,seval,hz1]
    repeat' ((with_reducible first|refine wr ?_|refine wb2 ?_ ?_<;>(intro hb;try simp only [hb])|fail)<;>try simp only [go_sem,seval,hz1,hw])
    refine ⟨(i+1,o1,o2),rfl,?_,inv ⟨hO,hlt,?_,?_,fun _=>hne hi0⟩,by simp only;omega⟩
    ·simp only [hmd2];exact Sub.refl _
    ·simp only [hmd2];exact hn1
    ·simp only [hmd2];exact hn2
   ·have hz1:(((nextM t p 2).1:Int) == 0)=false:=by simp [hz]
    obtain ⟨pp,hpp⟩:∃ pp,pp=(nextM t p 2).2:=⟨_,rfl⟩
    have hmd2:mdK t (i+1)=mdH t e ⟨I,E,p⟩ pp:=by rw [hmd,mdI,if_neg hi0,if_neg hz,hpp]
    have Hpp:pp≤t.length:=by rw [hpp];exact nextM_le B1
    rw [← hpp]
    have hlt1:=r_lentodo (o:=o1) (n:=I.length) (fun e=>len_nil (hn1 e))
    have hD:=fun (p:Nat)=>MH_k (l:=t) (p:=p) (S:=strs mdS) (P:=ints (mdP t)) (V:=ints mdV) (I:=I) (E:=E) hO
    have hcc:=hO.kc
    have hk2:=hO.k2
    have hdk:∀ X,delO X o2 k=X k:=fun X=>delO_ne (fun i hi e=>by have:=hO.b i hi;omega)
    have hd1:∀ X,delO X o2 1=X 1:=fun X=>delO_ne (fun i hi e=>by have:=hO.b i hi;omega)
    have hd0:∀ X,delO X o2 0=X 0:=fun X=>delO_ne (fun i hi e=>by have:=hO.b i hi;omega)
    have hda:∀ X j,o1=some j→delO X o2 j=X j:=fun X j hj=>delO_ne (fun i hi e=>hO.ne j hj (by rw [e];exact hi))
    have ne0:=nes6 0 1 k c3 (c3+1) (c3+2) (by omega)
    simp only [go_sem,seval,hz1,hkl,hg,hlt1,hD,ne0]
    repeat' ((with_reducible first|refine wr ?_|refine wb2 ?_ ?_<;>(intro hb;try simp only [hb])|fail)<;>try simp only [go_sem,seval,hz1,hkl,hd,hg,hlt1,hD,ne0])
    refine k_eval (r_apptodo (cs:=cellsL (E.map Ent.v)) (fun e=>⟨len_nil (hn2 e),entC_nil (hn2 e)⟩) (fun i hi=>?_) (entC_len' E) (by omega) (by omega) (by omega)) ?_
    ·have:=hO.b i hi
     rw [h_ne (by omega),h_ne (by omega),h_ne (by omega),h_ne (by omega)];exact MH_b hi
    simp only [go_sem,seval,hdk,hD,ne0]
    repeat' ((with_reducible first|refine wr ?_|refine wb2 ?_ ?_<;>(intro hb;try simp only [hb])|fail)<;>try simp only [go_sem,seval,hdk,hD,ne0])
    refine AC.call (c_next t (by omega) pp Hpp 4 (by omega) (by omega) _ _ 1 (by repeat (first|exact MH_1 hO|rw [h_ne (by omega)]|rw [hd1])) (by omega)) ?_
    rintro v H' c4 ⟨rfl,rfl⟩ hc4
    have hq4:=nextM_lt (l:=t) (p:=pp) (n:=4) (by omega)
    have hp4:=nextM_le (l:=t) (p:=pp) (n:=4) Hpp
    obtain ⟨n,hn⟩:∃ n,n=(nextM t pp 4).1:=⟨_,rfl⟩
    obtain ⟨p2,hp2⟩:∃ p2,p2=(nextM t pp 4).2:=⟨_,rfl⟩
    rw [← hn, ← hp2]
    rw [← hn] at hq4
    rw [← hp2] at hp4
    simp only [go_sem,seval]
    repeat' ((with_reducible first|refine wr ?_|refine wb2 ?_ ?_<;>(intro hb;try simp only [hb])|fail)<;>try simp only [go_sem,seval])
    obtain ⟨e',he'⟩:∃ e':Ent,e'=⟨e.mode,e.trigger,e.index,(I.length:Int)⟩:=⟨_,rfl⟩
    have hE':cellsL ((E++[e']).map Ent.v)=cellsL (E.map Ent.v)++[I64 e.mode,I64 e.trigger,I64 e.index,I64 (I.length:Int)]:=by rw [entC_snoc,he']
    refine i_loop (fun q:Nat × Option Nat=>[(2,.ptr 0 0),(3,.ptr 1 0),(4,.ptr k 0),(5,entsV keysM),(6,I64 i),(8,I64 ((n-q.1:Nat):Int))]) (fun q=>MH k t (mdB t q.1 (I,p2)).2 (strs mdS) (ints (mdP t)) (ints mdV) (mdB t q.1 (I,p2)).1 (E++[e']) q.2 (some (c3+1+1)))
     (fun q c=>MO k q.2 (some (c3+1+1)) c∧q.1≤n∧(q.2=none→(mdB t q.1 (I,p2)).1=[])) (fun q=>n-q.1) (0,o1) (by simp [tmLe,tm,Tm.upd]) ?_ ?_ ?_
    ·refine MH_sub (by repeat (first|exact MH_0 hO|rw [h_ne (by omega)]|rw [hd0])) h_same ?_ (fun j hj=>?_) (fun j hj=>?_)
     ·rw [h_ne (by omega),h_same,List.length_append];rfl
     ·have:=hO.a j hj
      rw [h_ne (by omega),h_ne (by omega),h_ne (by omega),hda _ j hj,h_ne (by omega),h_ne (by omega),h_ne (by omega),h_ne (by omega)];exact MH_a hO hj
     ·cases hj
      rw [h_ne (by omega),h_ne (by omega),h_same,hE']
    ·exact ⟨⟨hk2,by omega,fun j hj=>by have:=hO.a j hj;omega,fun j hj=>by cases hj;omega,fun j hj e=>by cases e;have:=hO.a _ hj;omega⟩,by simp,hn1⟩
    rintro ⟨j,oj⟩ cj ⟨hOj,hjn,hnj⟩
    simp only at hOj hjn hnj
    have hbl:=mdB_len (l:=t) (x:=(I,p2)) j
    have hbp:=mdB_pos (l:=t) (x:=(I,p2)) hp4 j
    simp only at hbl
    obtain ⟨Ij,hIj⟩:∃ x,x=(mdB t j (I,p2)).1:=⟨_,rfl⟩
    obtain ⟨pj,hpj⟩:∃ x,x=(mdB t j (I,p2)).2:=⟨_,rfl⟩
    simp only
    rw [← hIj, ← hpj]
    rw [← hIj] at hbl hnj
    rw [← hpj] at hbp
    have hDj:=fun (p:Nat)=>MH_k (l:=t) (p:=p) (S:=strs mdS) (P:=ints (mdP t)) (V:=ints mdV) (I:=Ij) (E:=E++[e']) hOj
    have hltj:=r_lentodo (o:=oj) (n:=Ij.length) (fun e=>len_nil (hnj e))
    have hckj:=hOj.kc
    by_cases hj0:j<n
    ·have hgj:decide (((n-j:Nat):Int)>0)=true:=by simp;omega
     have hwj:IntKind.i64.wrap (((n-j:Nat):Int)-1)=((n-(j+1):Nat):Int):=by rw [w64 (by omega) (by omega)];omega
     have f0:=MH_n (l:=t) (p:=pj) (S:=strs mdS) (P:=ints (mdP t)) (V:=ints mdV) (I:=Ij) (E:=E++[e']) hOj (j:=cj) (by omega)
     have f1:=MH_n (l:=t) (p:=pj) (S:=strs mdS) (P:=ints (mdP t)) (V:=ints mdV) (I:=Ij) (E:=E++[e']) hOj (j:=cj+1) (by omega)
     have ne0:=nes5 0 1 k cj (cj+1) (by omega)
     repeat' ((with_reducible first|refine wr ?_|refine wb2 ?_ ?_<;>(intro hb;try simp only [hb])|fail)<;>try simp only [go_sem,seval,hgj,hDj,hltj,ne0])
     refine AC.call (c_stmt t (by omega) 2 (by omega) Ij.length pj (by omega) hbp _ _ 1 (MH_1 hOj) (by omega)) ?_
     rintro v H' c5 ⟨id,ia,ib,rfl,rfl⟩ hc5
     have hsl:=stmtM_len t 2 Ij.length pj
     have hs1:1≤(stmtM t 2 Ij.length pj).1.length:=stmtM_ne
     have ne0:=nes7 0 1 k cj (cj+1) id c5 (by omega)
     have hl2:=insC_len2 (stmtM t 2 Ij.length pj).1
     have hle2:(stmtM t 2 Ij.length pj).1.length * 2≤(insC (stmtM t 2 Ij.length pj).1).length:=by omega
     have htk:=List.take_of_length_le (l:=insC (stmtM t 2 Ij.length pj).1) (i:=(stmtM t 2 Ij.length pj).1.length * 2) (by omega)
     have hdkj:∀ X,delO X oj k=X k:=fun X=>delO_ne (fun i hi e=>by have:=hOj.a i hi;omega)
     simp only [go_sem,seval,f0,f1,hDj,hltj,hle2,htk,ne0]
     repeat' ((with_reducible first|refine wr ?_|refine wb2 ?_ ?_<;>(intro hb;try simp only [hb])|fail)<;>try simp only [go_sem,seval,f0,f1,hDj,hltj,hle2,htk,ne0])
     refine x_eval (r_apptodo (cs:=insC Ij) (fun e=>⟨len_nil (hnj e),insC_nil (hnj e)⟩) (fun i hi=>?_) (insC_len2 Ij) (by omega) (by omega) (by omega)) ?_
     ·have:=hOj.a i hi
      rw [h_ne (by omega),h_ne (by omega)];exact MH_a hOj hi
     simp only [go_sem,seval,hdkj,hDj,ne0]
     repeat' ((with_reducible first|refine wr ?_|refine wb2 ?_ ?_<;>(intro hb;try simp only [hb])|fail)<;>try simp only [go_sem,seval,hdkj,hDj,hwj,ne0])
     have hOb:=hOj.b _ rfl
     have hd0j:∀ X,delO X oj 0=X 0:=fun X=>delO_ne (fun i hi e=>by have:=hOj.a i hi;omega)
     have hd1j:∀ X,delO X oj 1=X 1:=fun X=>delO_ne (fun i hi e=>by have:=hOj.a i hi;omega)
     have hdej:∀ X,delO X oj (c3+1+1)=X (c3+1+1):=fun X=>delO_ne (fun i hi e=>hOj.ne i hi (by rw [← e]))
     have m1:(mdB t (j+1) (I,p2)).1=Ij++(stmtM t 2 Ij.length pj).1:=by simp only [mdB];rw [← hIj, ← hpj]
     have m2:(mdB t (j+1) (I,p2)).2=(stmtM t 2 Ij.length pj).2:=by simp only [mdB];rw [← hIj, ← hpj]
     refine ⟨(j+1,some c5),rfl,?_,inv ⟨⟨hk2,by omega,fun i hi=>by cases hi;omega,fun i hi=>by cases hi;omega,fun i hi e=>by cases hi;cases e;omega⟩,hj0,by simp⟩,by simp only;omega⟩
     simp only [m1,m2]
     refine MH_sub ?_ ?_ ?_ (fun i hi=>?_) (fun i hi=>?_)
     ·rw [h_ne (by omega),h_ne (by omega),hd0j,h_ne (by omega),h_ne (by omega)];exact MH_0 hOj
     ·rw [h_ne (by omega),h_ne (by omega),hd1j,h_ne (by omega),h_same]
     ·rw [h_same];simp only [todo_s,List.length_append,List.length_singleton]
     ·cases hi;rw [h_ne (by omega),h_same,insC_app]
     ·cases hi;rw [h_ne (by omega),h_ne (by omega),hdej,h_ne (by omega),h_ne (by omega)];exact MH_b rfl
    ·have hjn2:j=n:=by omega
     have hgj:decide (((n-j:Nat):Int)>0)=false:=by simp;omega
     have hdkj:∀ X,delO X oj k=X k:=fun X=>delO_ne (fun i hi e=>by have:=hOj.a i hi;omega)
     have ne0:=nes5 0 1 k cj (cj+1) (by omega)
     repeat' ((with_reducible first|refine wr ?_|refine wb2 ?_ ?_<;>(intro hb;try simp only [hb])|fail)<;>try simp only [go_sem,seval,hgj,hDj,ne0])
     refine k_eval (r_apptodo (cs:=insC Ij) (fun e=>⟨len_nil (hnj e),insC_nil (hnj e)⟩) (fun i hi=>?_) (insC_len2 Ij) (by omega) (by omega) (by omega)) ?_
     ·have:=hOj.a i hi
      rw [h_ne (by omega)];exact MH_a hOj hi
     simp only [go_sem,seval,hdkj,hDj,ne0]
     repeat' ((with_reducible first|refine wr ?_|refine wb2 ?_ ?_<;>(intro hb;try simp only [hb])|fail)<;>try simp only [go_sem,seval,hdkj,hDj,hw,ne0])
     have hOb:=hOj.b _ rfl
     have hd0j:∀ X,delO X oj 0=X 0:=fun X=>delO_ne (fun i hi e=>by have:=hOj.a i hi;omega)
     have hd1j:∀ X,delO X oj 1=X 1:=fun X=>delO_ne (fun i hi e=>by have:=hOj.a i hi;omega)
     have hdej:∀ X,delO X oj (c3+1+1)=X (c3+1+1):=fun X=>delO_ne (fun i hi e=>hOj.ne i hi (by rw [← e]))
     have M1:(mdK t (i+1)).I=Ij++[⟨31,0⟩]:=by rw [hmd2];simp only [mdH];rw [← hn, ← hp2, ← hjn2, ← hIj]
     have M2:(mdK t (i+1)).E=E++[e']:=by rw [hmd2,he'];rfl
     have M3:(mdK t (i+1)).p=pj:=by rw [hmd2];simp only [mdH];rw [← hn, ← hp2, ← hjn2, ← hpj]
     refine ⟨(i+1,some (cj+1),some (c3+1+1)),rfl,?_,inv ⟨⟨hk2,by omega,fun i hi=>by cases hi;omega,fun i hi=>by cases hi;omega,fun i hi e=>by cases hi;cases e;omega⟩,hlt,by simp,by simp,by simp⟩,by simp only;omega⟩
     simp only [M1,M2,M3]
     refine MH_sub ?_ ?_ ?_ (fun i hi=>?_) (fun i hi=>?_)
     ·rw [h_ne (by omega),h_ne (by omega),hd0j,h_ne (by omega)];exact MH_0 hOj
     ·rw [h_ne (by omega),h_ne (by omega),hd1j,h_ne (by omega)];exact MH_1 hOj
     ·rw [h_same];simp only [todo_s,List.length_append,List.length_singleton]
     ·cases hi;rw [h_ne (by omega),h_same,insC_app,insC_one]
     ·cases hi;rw [h_ne (by omega),h_ne (by omega),hdej,h_ne (by omega)];exact MH_b rfl
 ·have hi:i=9:=by omega
  have hd:decide ((i:Int)<9)=false:=by simp;omega
  obtain ⟨n1,n2⟩:=hne (by omega)
  have hD:=MH_k (l:=t) (p:=(mdK t i).p) (S:=strs mdS) (P:=ints (mdP t)) (V:=ints mdV) (I:=(mdK t i).I) (E:=(mdK t i).E) hO
  have hD0:=MH_0 (l:=t) (p:=(mdK t i).p) (S:=strs mdS) (P:=ints (mdP t)) (V:=ints mdV) (I:=(mdK t i).I) (E:=(mdK t i).E) hO
  rcases o1 with _|a
  ·exact absurd rfl n1
  rcases o2 with _|b
  ·exact absurd rfl n2
  have hDa:=MH_a (l:=t) (p:=(mdK t i).p) (S:=strs mdS) (P:=ints (mdP t)) (V:=ints mdV) (I:=(mdK t i).I) (E:=(mdK t i).E) hO rfl
  have hDb:=MH_b (k:=k) (l:=t) (p:=(mdK t i).p) (S:=strs mdS) (P:=ints (mdP t)) (V:=ints mdV) (I:=(mdK t i).I) (E:=(mdK t i).E) (o1:=some a) (o2:=some b) rfl
  simp only [todo_s] at hD
  repeat' ((with_reducible first|refine wr ?_|refine wb2 ?_ ?_<;>(intro hb;try simp only [hb])|fail)<;>try simp only [go_sem,seval,hkl,hd,hD,hD0])
  rw [k_rv (v:=.agg [.slc a 0 (mdK t i).I.length,strs mdS,.slc b 0 (mdK t i).E.length,ints (mdP t),ints mdV,I64 2,I64 2]) rfl]
  have ha:=hO.a a rfl
  have hb:=hO.b b rfl
  have hab:¬ a=b:=fun e=>hO.ne a rfl (by rw [e])
  have hm:madeM l=madeT t:=by rw [madeM,ht]
  have hI:(madeM l).instrs=(mdK t i).I:=by rw [hm,hi];rfl
  have hE:(madeM l).entries=(mdK t i).E:=by rw [hm,hi];rfl
  refine ⟨_,_,(g_one (a:=b) (k:=0) (u:=4) (u':=4) (pre:=[.slc a 0 (mdK t i).I.length,strs mdS]) (suf:=[ints (mdP t),ints mdV,I64 2,I64 2]) (xs:=(mdK t i).E.map Ent.v) (junk:=[]) h_same (by rw [h_ne (by omega),List.append_nil];exact hDb) (by simp [DV.one]) (by simp) (ent_unit _) (by omega)).trans
   (GL.less (H0:=nil.upd a ⟨2,true,insC (mdK t i).I⟩) (fun j=>?_)),a,?_,?_⟩
  ·by_cases e:j=a
   ·subst e;right;rw [h_same,h_ne (by omega),h_dne hab,h_ne (by omega)];exact hDa.symm
   ·left;rw [h_ne e];rfl
  ·unfold madeO;rw [hI,hE,ht];rfl
  ·rw [hI]
theorem c_MadeO (l:List UInt8) (hl:l.length≤9223372036854775807) (H:Hp) (c:Nat):AC Tryz.prog 8 [.lst (bytesC l)] H c (fun v H' c'=>v=madeO l c∧H'=H.upd c ⟨2,true,insC (madeM l).instrs⟩∧c'=c+1):=by
 have nlb:DV.nlL (bytesC l)=true:=nlL_map (fun _=>rfl) l
 refine AC.own (V:=madeO l) (c_MadeN l hl) (by simp [DV.nlL,DV.nl,nlb]) (nl_cellsL (nlL_map (fun _=>rfl) _)) (fun ρ ρ' id id' v h1 h2 h3=>VRel.head (by simp [DV.nlL,DV.nl,nlL_ints,nlL_strs,nlL_entries]) h1 h2 h3) H c
end Go.Proofs.YtcallbfckjlagaaGreat
end

/-
  HELPERS of the claim: part 4 of its texts.
-/
import Derived.ReadAgain
import Derived.ChangeBears
import Derived.Deep.Slices
import Derived.Below
import Derived.OpenShut
import Derived.Test.YtcallbfckjlagaaGreatProg
import Derived.KernelRfl
import Derived.Test.YtcallbfckjlagaaGreatExec
noncomputable section
set_option linter.unusedVariables false
set_option linter.unusedSimpArgs false
namespace Go.Sym
open Go.RowKit Go.Pb Go.Deep
section
variable {H:Type} {enc:TypeId × Value→H} {P:Program} {T:TypeId→Prop} {W W':World}
theorem arg_kept (K:Kids P T) (hz:∀ t e,T t→P.underlying t=some (.slice e)→0<P.cellsOf e) (hb:Below W.heap.size W W') {sp:Nat→Bool} :
  ∀ {ts:List TypeId} {vs:List Value} {ds:List (DataW H)} {ps:List MemPlace},(∀ t∈ts,T t)→DataW.TrodAll enc P W 0 (fun _=>true) true ts vs ds ps→(∀ p∈ps,sp p.block=true)→DataW.TrodAll enc P W' 0 sp true ts vs ds ps
 | [],[],[],_,_,h,_=>h
 | t :: ts,v :: vs,d :: ds,ps,hT,⟨p,q,h1,h2,e⟩,hs=>by
  have hlt:=h1
  refine ⟨p,q,?_,arg_kept K hz hb (fun t ht=>hT t (List.mem_cons.2 (Or.inr ht))) h2 (fun x hx=>hs x (by rw [e];exact List.mem_append_right _ hx)),e⟩
  have h3:=h1.respare K hz (hT _ (List.mem_cons.2 (Or.inl rfl))) (spare':=sp) (fun x hx=>hs x (by rw [e];exact List.mem_append_left _ hx))
  obtain ⟨n,hn⟩:=h3
  obtain ⟨m,hm⟩:=h1
  exact ⟨n,DataW.trod_carry n _ _ _ hn fun x hx=>hb.same (DataW.trod_lt m _ _ _ hm x hx)⟩
theorem u8_of {n:Int} (h:(Lit.int .u8 n).wf=true):n=((UInt8.ofNat n.toNat).toNat:Int):=by
 have:=bounds_u8 h
 simp
 omega
theorem open_bytes {t e:TypeId} {v:Value} {d:DataW H} {ps:List MemPlace} (ht:P.underlying t=some (.slice e)) (he:P.underlying e=some (.int .u8)) (hc:P.cellsOf e=1)
  (h:DataW.Trod enc P W 0 (fun _=>true) true t v d ps) (hv:v.cells = #[v]):∃ l:List UInt8,l.length≤9223372036854775807∧VRel (topR W) (.lst (bytesC l)) v:=by
 obtain ⟨n,hn⟩:=h
 rcases open_slice1 ht hc hn with ⟨h1, -⟩|⟨a,len,cap,m,n',V,D,Pl,h1,h2,h3,h4,h5,h6,h7⟩
 ·rw [hv] at h1
  have:v=.slice none 0 0:=by simpa using h1
  subst this
  exact ⟨[],by simp,.lnil0⟩
 ·rw [hv] at h1
  have hva:v=.slice (some a) len cap:=by simpa using h1
  subst hva
  simp only [if_true] at h5
  have hk:∀ i,i<len→∃ k:Int,V i=.int .u8 k∧(Lit.int .u8 k).wf=true:=by
   intro i hi
   obtain ⟨k,q1,q2,q3⟩:=DataW.trod_int he (h7 i (by omega)).2
   exact ⟨k,by simpa using q1,q3⟩
  by_cases hl0:len=0
  ·subst hl0
   exact ⟨[],by simp,.lnil a cap⟩
  have hcell:=(h7 0 (by omega)).1
  have hadd0:a.add 0=a:=by simp [Addr.add]
  rw [hadd0] at hcell
  obtain ⟨b,off,spot⟩:=a
  have hspot:spot=none:=by
   simp only [World.cell?] at hcell
   split at hcell
   ·split at hcell
    ·cases hcell
    ·rename_i h;cases spot with
     | none=>rfl
     | some s=>simp at h
   ·cases hcell
  subst hspot
  have hrow:∃ row ty fr,W.heap[b]? = some (.cells row ty fr):=by
   simp only [World.cell?] at hcell
   split at hcell
   ·rename_i row ty fr h;exact ⟨row,ty,fr,h⟩
   ·cases hcell
  obtain ⟨row,ty,fr,hb⟩:=hrow
  have hget:∀ i,i<len→row[off+i]? = some (V i):=by
   intro i hi
   have h8:=(h7 i (by omega)).1
   have e1:(⟨b,off,none⟩:Addr).add i=⟨b,off+i,none⟩:=by
    unfold Addr.add
    split
    ·rename_i h0;subst h0;rfl
    ·rfl
   rw [e1] at h8
   simp only [World.cell?,hb] at h8
   exact h8
  obtain ⟨F,hF⟩:∃ F:Nat→UInt8, ∀ i,i<len→V i=.int .u8 ((F i).toNat:Int):=by
   have:∀ i, ∃ f:UInt8,i<len→V i=.int .u8 (f.toNat:Int):=fun i=>by
    by_cases hi:i<len
    ·obtain ⟨k,q1,q2⟩:=hk i hi
     exact ⟨UInt8.ofNat k.toNat,fun _=>by rw [q1, ← u8_of q2]⟩
    ·exact ⟨0,fun h=>absurd h hi⟩
   exact ⟨fun i=>Classical.choose (this i),fun i hi=>Classical.choose_spec (this i) hi⟩
  refine ⟨(List.range len).map F,by simp only [List.length_map,List.length_range];simp only [maxLen] at h4;omega,?_⟩
  have hcl:cellsL (bytesC ((List.range len).map F))=bytesC ((List.range len).map F):=cellsL_map1 (fun _=>rfl) _
  have hlen:(bytesC ((List.range len).map F)).length=len:=by rw [bytesC_len];simp
  refine .lst _ _ 1 b off cap row (topR_cells hb) hlen.symm h3 h4 (fun x hx=>by obtain ⟨y, -,rfl⟩:=List.mem_map.1 hx;rfl) ?_ ?_ ?_
  ·rw [hcl,hlen]
   have:=(Array.getElem?_eq_some_iff.1 (hget (len-1) (by omega))).1
   omega
  ·rw [hcl];intro x hx;obtain ⟨y, -,rfl⟩:=List.mem_map.1 hx;rfl
  ·rw [hcl]
   intro k x y hx hy
   have hkl:k<len:=by have:=(List.getElem?_eq_some_iff.1 hx).1;omega
   rw [hget k hkl,hF k hkl] at hy
   cases hy
   have hx2:(bytesC ((List.range len).map F))[k]? = some (DV.int .u8 ((F k).toNat:Int)):=by simp [bytesC,hkl]
   rw [hx2] at hx
   cases hx
   exact .int _ _
end
end Go.Sym
set_option maxHeartbeats 4000000
set_option maxRecDepth 100000
namespace Go.Proofs.YtcallbfckjlagaaGreat
open Go.Eng (IC IOper DReg IFn IsFn)
open Go.Sym
section
abbrev u98_2:IC:=qS [oM 7 0,oM 8 1,oB 9 7 8 .geq,oM 10 9,gM 11 0 10,gM 12 2 10,oG 13 (.bin .leq (.t 11) (.t 12)) 10,oJ 14 10 13,oM 6 14] .ret [0,1,2]
abbrev u98_1:IC:=qS [oV 6 (.bool false)] u98_2 [0,1,2]
def u98:IFn:=⟨15,u98_1,[.tmp 6]⟩
end
theorem isU98:IsFn Tryz.prog 98 u98:=by unfold IsFn;kernel_rfl
section
abbrev u70_2:IC:=qS [oF 3 1 0,oL 4 3,oH 5 4,oK 6 5 .leq 4000,oM 7 6,gF 8 1 1 7,gL 9 8 7,oG 10 (.len (.t 9)) 7,gK 11 10 7 .leq 200,oJ 12 7 11,oM 13 12,gF 14 1 2 13,gL 15 14 13,oG 16 (.len (.t 15)) 13,gK 17 16 13 .leq 512,oJ 18 13 17,oM 19 18,gF 20 1 3 19,gL 21 20 19,oG 22 (.len (.t 21)) 19,gK 23 22 19 .leq 16,oJ 24 19 23,oM 25 24,gF 26 1 4 25,gL 27 26 25,oG 28 (.len (.t 27)) 25,gK 29 28 25 .leq 128,oJ 30 25 29,oM 31 30,gF 32 1 5 31,gL 33 32 31,⟨some 34,.call 98 [.t 33,.k (.int .i64 0),.k (.int .i64 128)],some (31,true)⟩,oJ 35 31 34,oM 36 35,gF 37 1 6 36,gL 38 37 36,⟨some 39,.call 98 [.t 38,.k (.int .i64 0),.k (.int .i64 128)],some (36,true)⟩,oJ 40 36 39,oM 2 40] .ret [1]
abbrev u70_1:IC:=qS [oX 1 0,oV 2 (.bool false)] u70_2 [0]
def u70:IFn:=⟨41,u70_1,[.tmp 2]⟩
end
theorem isU70:IsFn Tryz.prog 70 u70:=by unfold IsFn;kernel_rfl
section
abbrev u101_7:IC:=qK .skip (.exit 0) (.t 7) [0,3,7]
abbrev u101_6:IC:=qS [oM 4 3,oM 5 0,oP 6 (.lens (.t 5)),oB 7 4 6 .lss] u101_7 [0,3]
abbrev u101_11:IC:=qS [oV 2 (.bool false)] .ret []
abbrev u101_10:IC:=qK u101_11 .skip (.t 19) [0,3,19]
abbrev u101_9:IC:=qS [oM 10 0,oM 11 3,oP 12 (.idx (.t 10) (.t 11)),oP 13 (.bin .lss (.t 12) (.k (.int .u8 32))),oM 14 13,hM 15 0 14,hM 16 3 14,oR 17 (.idx (.t 15) (.t 16)) 14,oR 18 (.bin .gtr (.t 17) (.k (.int .u8 126))) 14,oO 19 14 18] u101_10 [0,3]
abbrev u101_12:IC:=qE [oM 8 3,oK 9 8 .add 1,oM 3 9] [0,3]
abbrev u101_8:IC:=qB u101_9 u101_12 1 [0,3]
abbrev u101_5:IC:=qQ u101_6 u101_8 [0,3]
abbrev u101_4:IC:=qJ (.loop u101_5) 0 [0,3]
abbrev u101_3:IC:=qS [oI 3 0] u101_4 [0]
abbrev u101_13:IC:=qS [oM 20 0,oP 21 (.lens (.t 20)),oK 22 21 .leq 32,oM 2 22] .ret [0]
abbrev u101_2:IC:=qQ u101_3 u101_13 [0]
abbrev u101_1:IC:=qS [oV 2 (.bool false)] u101_2 [0]
def u101:IFn:=⟨23,u101_1,[.tmp 2]⟩
end
theorem isU101:IsFn Tryz.prog 101 u101:=by unfold IsFn;kernel_rfl
section
abbrev u105_5:IC:=qS [oV 4 (.bool false)] .ret []
abbrev u105_4:IC:=qK u105_5 .skip (.t 12) [2,3,12]
abbrev u105_3:IC:=qS [oF 5 3 0,oL 6 5,oF 7 2 3,oL 8 7,oH 9 8,oK 10 9 .sub 1,oC 11 98 [.t 6,.k (.int .i64 0),.t 10],oY 12 11] u105_4 [2,3]
abbrev u105_12:IC:=qE [oK 17 14 .eql 2,oM 15 17] [2,3,14]
abbrev u105_11:IC:=qK .skip u105_12 (.t 15) [2,3,14,15]
abbrev u105_10:IC:=qS [oK 16 14 .eql 1,oM 15 16] u105_11 [2,3,14]
abbrev u105_14:IC:=qS [oF 18 3 2,oL 19 18,oK 20 19 .eql 0,oM 4 20] .ret [3]
abbrev u105_18:IC:=qE [oK 23 14 .eql 4,oM 21 23] [2,3,14]
abbrev u105_17:IC:=qK .skip u105_18 (.t 21) [2,3,14,21]
abbrev u105_16:IC:=qS [oK 22 14 .eql 3,oM 21 22] u105_17 [2,3,14]
abbrev u105_20:IC:=qS [oF 24 3 2,oL 25 24,oC 26 98 [.t 25,.k (.int .i64 0),.k (.int .i64 63)],oM 4 26] .ret [3]
abbrev u105_23:IC:=qS [oF 29 3 2,oL 30 29,oF 31 2 5,oL 32 31,oK 33 32 .sub 1,oC 34 98 [.t 30,.k (.int .i64 0),.t 33],oM 4 34] .ret [2,3]
abbrev u105_26:IC:=qS [oF 37 3 2,oL 38 37,oF 39 2 6,oL 40 39,oK 41 40 .sub 1,oC 42 98 [.t 38,.k (.int .i64 0),.t 41],oM 4 42] .ret [2,3]
abbrev u105_25:IC:=qK u105_26 .skip (.t 35) [2,3,35]
abbrev u105_24:IC:=qS [oK 36 14 .eql 6,oM 35 36] u105_25 [2,3,14]
abbrev u105_22:IC:=qK u105_23 u105_24 (.t 27) [2,3,14,27]
abbrev u105_21:IC:=qS [oK 28 14 .eql 5,oM 27 28] u105_22 [2,3,14]
abbrev u105_19:IC:=qK u105_20 u105_21 (.t 21) [2,3,14,21]
abbrev u105_15:IC:=qQ u105_16 u105_19 [2,3,14]
abbrev u105_13:IC:=qK u105_14 u105_15 (.t 15) [2,3,14,15]
abbrev u105_9:IC:=qQ u105_10 u105_13 [2,3,14]
abbrev u105_8:IC:=qJ u105_9 0 [2,3,14]
abbrev u105_7:IC:=qS [oF 13 3 1,oL 14 13] u105_8 [2,3]
abbrev u105_27:IC:=qS [oV 4 (.bool false)] .ret []
abbrev u105_6:IC:=qQ u105_7 u105_27 [2,3]
abbrev u105_2:IC:=qQ u105_3 u105_6 [2,3]
abbrev u105_1:IC:=qS [oX 2 0,oX 3 1,oV 4 (.bool false)] u105_2 [0,1]
def u105:IFn:=⟨43,u105_1,[.tmp 4]⟩
end
theorem isU105:IsFn Tryz.prog 105 u105:=by unfold IsFn;kernel_rfl
section
abbrev u107_2:IC:=qS [oM 3 0,oK 4 3 .eql 12,oM 5 4,hM 6 0 5,hK 7 6 5 .eql 13,oO 8 5 7,oM 9 8,hM 10 0 9,hK 11 10 9 .eql 14,oO 12 9 11,oM 2 12] .ret [0]
abbrev u107_1:IC:=qS [oV 2 (.bool false)] u107_2 [0]
def u107:IFn:=⟨13,u107_1,[.tmp 2]⟩
end
theorem isU107:IsFn Tryz.prog 107 u107:=by unfold IsFn;kernel_rfl
section
abbrev u106_7:IC:=qS [oI 4 (-2147483647),oI 5 2147483647] .ret []
abbrev u106_11:IC:=qE [oK 11 6 .eql 3,oM 9 11] [2,6]
abbrev u106_10:IC:=qK .skip u106_11 (.t 9) [2,6,9]
abbrev u106_9:IC:=qS [oK 10 6 .eql 2,oM 9 10] u106_10 [2,6]
abbrev u106_13:IC:=qD [oF 12 2 4,oL 13 12,oH 14 13,oK 15 14 .sub 1,oI 4 0,oM 5 15] .ret [(0,none),(1,none),(2,none),(3,none),(4,some [0,1,2,3]),(5,some [])] 6 [2]
abbrev u106_16:IC:=qS [oI 4 0,oI 5 63] .ret []
abbrev u106_22:IC:=qE [oK 21 6 .eql 24,oM 18 21] [2,6]
abbrev u106_21:IC:=qK .skip u106_22 (.t 18) [2,6,18]
abbrev u106_20:IC:=qS [oK 20 6 .eql 23,oM 18 20] u106_21 [2,6]
abbrev u106_19:IC:=qK .skip u106_20 (.t 18) [2,6,18]
abbrev u106_18:IC:=qS [oK 19 6 .eql 5,oM 18 19] u106_19 [2,6]
abbrev u106_24:IC:=qD [oF 22 2 3,oL 23 22,oH 24 23,oK 25 24 .sub 1,oI 4 0,oM 5 25] .ret [(0,none),(1,none),(2,none),(3,none),(4,some [0,1,2,3]),(5,some [])] 6 [2]
abbrev u106_30:IC:=qE [oK 29 6 .eql 22,oM 26 29] [2,6]
abbrev u106_29:IC:=qK .skip u106_30 (.t 26) [2,6,26]
abbrev u106_28:IC:=qS [oK 28 6 .eql 21,oM 26 28] u106_29 [2,6]
abbrev u106_27:IC:=qK .skip u106_28 (.t 26) [2,6,26]
abbrev u106_26:IC:=qS [oK 27 6 .eql 6,oM 26 27] u106_27 [2,6]
abbrev u106_32:IC:=qD [oF 30 2 5,oL 31 30,oK 32 31 .sub 1,oI 4 0,oM 5 32] .ret [(0,none),(1,none),(2,none),(3,some [0,1,2]),(4,some [])] 5 [2]
abbrev u106_35:IC:=qS [oI 4 12,oI 5 24] .ret []
abbrev u106_41:IC:=qE [oK 38 6 .eql 18,oM 35 38] [2,6]
abbrev u106_40:IC:=qK .skip u106_41 (.t 35) [2,6,35]
abbrev u106_39:IC:=qS [oK 37 6 .eql 17,oM 35 37] u106_40 [2,6]
abbrev u106_38:IC:=qK .skip u106_39 (.t 35) [2,6,35]
abbrev u106_37:IC:=qS [oK 36 6 .eql 16,oM 35 36] u106_38 [2,6]
abbrev u106_43:IC:=qS [oI 4 0,oI 5 31] .ret []
abbrev u106_53:IC:=qE [oK 44 6 .eql 28,oM 39 44] [2,6]
abbrev u106_52:IC:=qK .skip u106_53 (.t 39) [2,6,39]
abbrev u106_51:IC:=qS [oK 43 6 .eql 27,oM 39 43] u106_52 [2,6]
abbrev u106_50:IC:=qK .skip u106_51 (.t 39) [2,6,39]
abbrev u106_49:IC:=qS [oK 42 6 .eql 26,oM 39 42] u106_50 [2,6]
abbrev u106_48:IC:=qK .skip u106_49 (.t 39) [2,6,39]
abbrev u106_47:IC:=qS [oK 41 6 .eql 20,oM 39 41] u106_48 [2,6]
abbrev u106_46:IC:=qK .skip u106_47 (.t 39) [2,6,39]
abbrev u106_45:IC:=qS [oK 40 6 .eql 19,oM 39 40] u106_46 [2,6]
abbrev u106_55:IC:=qS [oI 4 0,oI 5 63] .ret []
abbrev u106_58:IC:=qD [oF 47 2 6,oL 48 47,oK 49 48 .sub 1,oI 4 0,oM 5 49] .ret [(0,none),(1,none),(2,none),(3,some [0,1,2]),(4,some [])] 5 [2]
abbrev u106_61:IC:=qD [oF 52 2 1,oL 53 52,oH 54 53,oK 55 54 .sub 1,oI 4 0,oM 5 55] .ret [(0,none),(1,none),(2,none),(3,none),(4,some [0,1,2,3]),(5,some [])] 6 [2]
abbrev u106_75:IC:=qE [oK 63 6 .eql 31,oM 56 63] [6]
abbrev u106_74:IC:=qK .skip u106_75 (.t 56) [6,56]
abbrev u106_73:IC:=qS [oK 62 6 .eql 30,oM 56 62] u106_74 [6]
abbrev u106_72:IC:=qK .skip u106_73 (.t 56) [6,56]
abbrev u106_71:IC:=qS [oK 61 6 .eql 15,oM 56 61] u106_72 [6]
abbrev u106_70:IC:=qK .skip u106_71 (.t 56) [6,56]
abbrev u106_69:IC:=qS [oK 60 6 .eql 10,oM 56 60] u106_70 [6]
abbrev u106_68:IC:=qK .skip u106_69 (.t 56) [6,56]
abbrev u106_67:IC:=qS [oK 59 6 .eql 9,oM 56 59] u106_68 [6]
abbrev u106_66:IC:=qK .skip u106_67 (.t 56) [6,56]
abbrev u106_65:IC:=qS [oK 58 6 .eql 8,oM 56 58] u106_66 [6]
abbrev u106_64:IC:=qK .skip u106_65 (.t 56) [6,56]
abbrev u106_63:IC:=qS [oK 57 6 .eql 7,oM 56 57] u106_64 [6]
abbrev u106_77:IC:=qS [oI 4 0,oI 5 0] .ret []
abbrev u106_76:IC:=qK u106_77 .skip (.t 56) [56]
abbrev u106_62:IC:=qQ u106_63 u106_76 [6]
abbrev u106_60:IC:=qK u106_61 u106_62 (.t 50) [2,6,50]
abbrev u106_59:IC:=qS [oK 51 6 .eql 29,oM 50 51] u106_60 [2,6]
abbrev u106_57:IC:=qK u106_58 u106_59 (.t 45) [2,6,45]
abbrev u106_56:IC:=qS [oK 46 6 .eql 25,oM 45 46] u106_57 [2,6]
abbrev u106_54:IC:=qK u106_55 u106_56 (.t 39) [2,6,39]
abbrev u106_44:IC:=qQ u106_45 u106_54 [2,6]
abbrev u106_42:IC:=qK u106_43 u106_44 (.t 35) [2,6,35]
abbrev u106_36:IC:=qQ u106_37 u106_42 [2,6]
abbrev u106_34:IC:=qK u106_35 u106_36 (.t 33) [2,6,33]
abbrev u106_33:IC:=qS [oK 34 6 .eql 11,oM 33 34] u106_34 [2,6]
abbrev u106_31:IC:=qK u106_32 u106_33 (.t 26) [2,6,26]
abbrev u106_25:IC:=qQ u106_26 u106_31 [2,6]
abbrev u106_23:IC:=qK u106_24 u106_25 (.t 18) [2,6,18]
abbrev u106_17:IC:=qQ u106_18 u106_23 [2,6]
abbrev u106_15:IC:=qK u106_16 u106_17 (.t 16) [2,6,16]
abbrev u106_14:IC:=qS [oK 17 6 .eql 4,oM 16 17] u106_15 [2,6]
abbrev u106_12:IC:=qK u106_13 u106_14 (.t 9) [2,6,9]
abbrev u106_8:IC:=qQ u106_9 u106_12 [2,6]
abbrev u106_6:IC:=qK u106_7 u106_8 (.t 7) [2,6,7]
abbrev u106_5:IC:=qS [oK 8 6 .eql 1,oM 7 8] u106_6 [2,6]
abbrev u106_4:IC:=qJ u106_5 0 [2,6]
abbrev u106_3:IC:=qS [oM 6 1] u106_4 [1,2]
abbrev u106_78:IC:=qS [oI 4 1,oI 5 0] .ret []
abbrev u106_2:IC:=qQ u106_3 u106_78 [1,2]
abbrev u106_1:IC:=qS [oX 2 0,oI 4 0,oI 5 0] u106_2 [0,1]
def u106:IFn:=⟨64,u106_1,[.tmp 4,.tmp 5]⟩
end
theorem isU106:IsFn Tryz.prog 106 u106:=by unfold IsFn;kernel_rfl
section
abbrev u110_18:IC:=qE [oK 12 4 .eql 8,oM 5 12] [4]
abbrev u110_17:IC:=qK .skip u110_18 (.t 5) [4,5]
abbrev u110_16:IC:=qS [oK 11 4 .eql 7,oM 5 11] u110_17 [4]
abbrev u110_15:IC:=qK .skip u110_16 (.t 5) [4,5]
abbrev u110_14:IC:=qS [oK 10 4 .eql 6,oM 5 10] u110_15 [4]
abbrev u110_13:IC:=qK .skip u110_14 (.t 5) [4,5]
abbrev u110_12:IC:=qS [oK 9 4 .eql 5,oM 5 9] u110_13 [4]
abbrev u110_11:IC:=qK .skip u110_12 (.t 5) [4,5]
abbrev u110_10:IC:=qS [oK 8 4 .eql 4,oM 5 8] u110_11 [4]
abbrev u110_9:IC:=qK .skip u110_10 (.t 5) [4,5]
abbrev u110_8:IC:=qS [oK 7 4 .eql 2,oM 5 7] u110_9 [4]
abbrev u110_7:IC:=qK .skip u110_8 (.t 5) [4,5]
abbrev u110_6:IC:=qS [oK 6 4 .eql 1,oM 5 6] u110_7 [4]
abbrev u110_20:IC:=qS [oI 2 0,oI 3 1] .ret []
abbrev u110_26:IC:=qE [oK 16 4 .eql 14,oM 13 16] [4]
abbrev u110_25:IC:=qK .skip u110_26 (.t 13) [4,13]
abbrev u110_24:IC:=qS [oK 15 4 .eql 10,oM 13 15] u110_25 [4]
abbrev u110_23:IC:=qK .skip u110_24 (.t 13) [4,13]
abbrev u110_22:IC:=qS [oK 14 4 .eql 9,oM 13 14] u110_23 [4]
abbrev u110_28:IC:=qS [oI 2 1,oI 3 1] .ret []
abbrev u110_31:IC:=qS [oI 2 2,oI 3 1] .ret []
abbrev u110_34:IC:=qS [oI 2 2,oI 3 0] .ret []
abbrev u110_46:IC:=qE [oK 27 4 .eql 29,oM 21 27] [4]
abbrev u110_45:IC:=qK .skip u110_46 (.t 21) [4,21]
abbrev u110_44:IC:=qS [oK 26 4 .eql 21,oM 21 26] u110_45 [4]
abbrev u110_43:IC:=qK .skip u110_44 (.t 21) [4,21]
abbrev u110_42:IC:=qS [oK 25 4 .eql 19,oM 21 25] u110_43 [4]
abbrev u110_41:IC:=qK .skip u110_42 (.t 21) [4,21]
abbrev u110_40:IC:=qS [oK 24 4 .eql 15,oM 21 24] u110_41 [4]
abbrev u110_39:IC:=qK .skip u110_40 (.t 21) [4,21]
abbrev u110_38:IC:=qS [oK 23 4 .eql 13,oM 21 23] u110_39 [4]
abbrev u110_37:IC:=qK .skip u110_38 (.t 21) [4,21]
abbrev u110_36:IC:=qS [oK 22 4 .eql 3,oM 21 22] u110_37 [4]
abbrev u110_48:IC:=qS [oI 2 1,oI 3 0] .ret []
abbrev u110_47:IC:=qK u110_48 .skip (.t 21) [21]
abbrev u110_35:IC:=qQ u110_36 u110_47 [4]
abbrev u110_33:IC:=qK u110_34 u110_35 (.t 19) [4,19]
abbrev u110_32:IC:=qS [oK 20 4 .eql 20,oM 19 20] u110_33 [4]
abbrev u110_30:IC:=qK u110_31 u110_32 (.t 17) [4,17]
abbrev u110_29:IC:=qS [oK 18 4 .eql 11,oM 17 18] u110_30 [4]
abbrev u110_27:IC:=qK u110_28 u110_29 (.t 13) [4,13]
abbrev u110_21:IC:=qQ u110_22 u110_27 [4]
abbrev u110_19:IC:=qK u110_20 u110_21 (.t 5) [4,5]
abbrev u110_5:IC:=qQ u110_6 u110_19 [4]
abbrev u110_4:IC:=qJ u110_5 0 [4]
abbrev u110_3:IC:=qS [oM 4 0] u110_4 [0]
abbrev u110_49:IC:=qS [oI 2 0,oI 3 0] .ret []
abbrev u110_2:IC:=qQ u110_3 u110_49 [0]
abbrev u110_1:IC:=qS [oI 2 0,oI 3 0] u110_2 [0]
def u110:IFn:=⟨28,u110_1,[.tmp 2,.tmp 3]⟩
end
theorem isU110:IsFn Tryz.prog 110 u110:=by unfold IsFn;kernel_rfl
section
abbrev u71_11:IC:=qE [oM 41 3,oM 42 41,hF 43 5 0 42,hL 44 43 42,⟨some 45,.call 107 [.t 44],some (42,false)⟩,oR 46 (.un .not (.t 45)) 42,hM 47 46 42,gF 48 5 1 47,gL 49 48 47,gM 50 6 47,gM 51 7 47,⟨some 52,.call 98 [.t 49,.t 50,.t 51],some (47,true)⟩,oG 53 (.un .not (.t 52)) 47,oR 54 (.pick (.t 47) (.t 53) (.k (.bool false))) 42,oO 55 42 54,oM 3 55] [1,3,5,6,7,28,29,30]
abbrev u71_10:IC:=qS [oD 35 1 7,oF 36 5 0,oL 37 36,oC 38 106 [.t 35,.t 37],oM 34 38,oE 39 34 0,oE 40 34 1,oM 6 39,oM 7 40] u71_11 [1,3,5,28,29,30]
abbrev u71_9:IC:=qS [oA 32 28 30 2,oD 33 32 2,oW 5 (.agg #[.int .i64 0,.int .i64 0]),oS 5 33 2] u71_10 [1,3,28,29,30]
abbrev u71_12:IC:=qE [oK 56 30 .add 1,oM 30 56] [1,3,28,29,30]
abbrev u71_8:IC:=qB u71_9 u71_12 1 [1,3,28,29,30]
abbrev u71_7:IC:=qC .skip u71_8 (.exit 0) (.t 31) [1,3,28,29,30,31]
abbrev u71_6:IC:=qS [oB 31 30 29 .lss] u71_7 [1,3,28,29,30]
abbrev u71_5:IC:=qJ (.loop u71_6) 0 [1,3,28,29,30]
abbrev u71_4:IC:=qS [oF 27 1 0,oL 28 27,oH 29 28,oI 30 0] u71_5 [1,3]
abbrev u71_13:IC:=qS [oM 57 3,oY 58 57,oM 2 58] .ret [3]
abbrev u71_3:IC:=qQ u71_4 u71_13 [1,3]
abbrev u71_2:IC:=qS [oF 8 1 1,oL 9 8,oC 10 99 [.t 9,.f 100],oM 11 10,hF 12 1 3 11,hL 13 12 11,⟨some 14,.call 33 [.t 13,.f 102],some (11,false)⟩,oO 15 11 14,oM 16 15,hF 17 1 4 16,hL 18 17 16,⟨some 19,.call 33 [.t 18,.f 103],some (16,false)⟩,oO 20 16 19,oM 21 20,hF 22 1 2 21,hL 23 22 21,oR 24 (.mkf 104 [] [.t 1]) 21,⟨some 25,.call 36 [.t 23,.t 24],some (21,false)⟩,oO 26 21 25,oM 3 26] u71_3 [1]
abbrev u71_1:IC:=qS [oX 1 0,oV 2 (.bool false)] u71_2 [0]
def u71:IFn:=⟨59,u71_1,[.tmp 2]⟩
end
theorem isU71:IsFn Tryz.prog 71 u71:=by unfold IsFn;kernel_rfl
section
abbrev u100_2:IC:=qS [oM 3 0,oC 4 101 [.t 3],oY 5 4,oM 2 5] .ret [0]
abbrev u100_1:IC:=qS [oV 2 (.bool false)] u100_2 [0]
def u100:IFn:=⟨6,u100_1,[.tmp 2]⟩
end
theorem isU100:IsFn Tryz.prog 100 u100:=by unfold IsFn;kernel_rfl
section
abbrev u102_2:IC:=qS [oM 3 0,oC 4 98 [.t 3,.k (.int .i64 0),.k (.int .i64 99)],oY 5 4,oM 2 5] .ret [0]
abbrev u102_1:IC:=qS [oV 2 (.bool false)] u102_2 [0]
def u102:IFn:=⟨6,u102_1,[.tmp 2]⟩
end
theorem isU102:IsFn Tryz.prog 102 u102:=by unfold IsFn;kernel_rfl
section
abbrev u103_2:IC:=qS [oM 3 0,oC 4 98 [.t 3,.k (.int .i64 (-2147483647)),.k (.int .i64 2147483647)],oY 5 4,oM 2 5] .ret [0]
abbrev u103_1:IC:=qS [oV 2 (.bool false)] u103_2 [0]
def u103:IFn:=⟨6,u103_1,[.tmp 2]⟩
end
theorem isU103:IsFn Tryz.prog 103 u103:=by unfold IsFn;kernel_rfl
section
abbrev u104_2:IC:=qS [oD 4 1 7,oD 5 2 4,oC 6 105 [.t 4,.t 5],oY 7 6,oM 3 7] .ret [1,2]
abbrev u104_1:IC:=qS [oX 2 0,oV 3 (.bool false)] u104_2 [0,1]
def u104:IFn:=⟨8,u104_1,[.tmp 3]⟩
end
theorem isU104:IsFn Tryz.prog 104 u104:=by unfold IsFn;kernel_rfl
section
abbrev u72_11:IC:=qS [oV 2 (.bool false)] .ret []
abbrev u72_10:IC:=qK u72_11 .skip (.t 24) [1,6,7,8,24]
abbrev u72_9:IC:=qS [oF 12 4 0,oL 13 12,oC 14 107 [.t 13],oM 15 14,gF 16 4 1 15,gL 17 16 15,gF 18 1 0 15,gL 19 18 15,oG 20 (.len (.t 19)) 15,gK 21 20 15 .sub 1,⟨some 22,.call 98 [.t 17,.k (.int .i64 0),.t 21],some (15,true)⟩,oG 23 (.un .not (.t 22)) 15,oJ 24 15 23] u72_10 [1,4,6,7,8]
abbrev u72_8:IC:=qS [oA 10 6 8 2,oD 11 10 2,oW 4 (.agg #[.int .i64 0,.int .i64 0]),oS 4 11 2] u72_9 [1,6,7,8]
abbrev u72_12:IC:=qE [oK 25 8 .add 1,oM 8 25] [1,6,7,8]
abbrev u72_7:IC:=qB u72_8 u72_12 1 [1,6,7,8]
abbrev u72_6:IC:=qC .skip u72_7 (.exit 0) (.t 9) [1,6,7,8,9]
abbrev u72_5:IC:=qS [oB 9 8 7 .lss] u72_6 [1,6,7,8]
abbrev u72_4:IC:=qJ (.loop u72_5) 0 [1,6,7,8]
abbrev u72_3:IC:=qS [oF 5 1 0,oL 6 5,oH 7 6,oI 8 0] u72_4 [1]
abbrev u72_13:IC:=qS [oF 26 1 2,oL 27 26,oP 28 (.mkf 108 [] [.t 1]),oC 29 36 [.t 27,.t 28],oY 30 29,oM 2 30] .ret [1]
abbrev u72_2:IC:=qQ u72_3 u72_13 [1]
abbrev u72_1:IC:=qS [oX 1 0,oV 2 (.bool false)] u72_2 [0]
def u72:IFn:=⟨31,u72_1,[.tmp 2]⟩
end
theorem isU72:IsFn Tryz.prog 72 u72:=by unfold IsFn;kernel_rfl
section
abbrev u108_2:IC:=qS [oF 4 2 3,oL 5 4,oF 6 1 0,oL 7 6,oH 8 7,oK 9 8 .sub 1,oC 10 98 [.t 5,.k (.int .i64 0),.t 9],oY 11 10,oM 3 11] .ret [1,2]
abbrev u108_1:IC:=qS [oX 2 0,oV 3 (.bool false)] u108_2 [0,1]
def u108:IFn:=⟨12,u108_1,[.tmp 3]⟩
end
theorem isU108:IsFn Tryz.prog 108 u108:=by unfold IsFn;kernel_rfl
section
abbrev u73_5:IC:=qS [oF 10 2 0,oL 11 10,oF 12 3 0,oL 13 12,oB 14 11 13 .lss,oM 4 14] .ret [2,3]
abbrev u73_4:IC:=qK u73_5 .skip (.t 9) [2,3,9]
abbrev u73_3:IC:=qS [oF 5 2 0,oL 6 5,oF 7 3 0,oL 8 7,oB 9 6 8 .neq] u73_4 [2,3]
abbrev u73_9:IC:=qS [oF 20 2 1,oL 21 20,oF 22 3 1,oL 23 22,oB 24 21 23 .lss,oM 4 24] .ret [2,3]
abbrev u73_8:IC:=qK u73_9 .skip (.t 19) [2,3,19]
abbrev u73_7:IC:=qS [oF 15 2 1,oL 16 15,oF 17 3 1,oL 18 17,oB 19 16 18 .neq] u73_8 [2,3]
abbrev u73_10:IC:=qS [oF 25 2 2,oL 26 25,oF 27 3 2,oL 28 27,oB 29 26 28 .lss,oM 4 29] .ret [2,3]
abbrev u73_6:IC:=qQ u73_7 u73_10 [2,3]
abbrev u73_2:IC:=qQ u73_3 u73_6 [2,3]
abbrev u73_1:IC:=qS [oX 2 0,oX 3 1,oV 4 (.bool false)] u73_2 [0,1]
def u73:IFn:=⟨30,u73_1,[.tmp 4]⟩
end
theorem isU73:IsFn Tryz.prog 73 u73:=by unfold IsFn;kernel_rfl
section
abbrev u74_10:IC:=qE [oL 25 4,oM 26 5,oA 27 25 26 1,⟨none,.eff (.st 1 (.t 27) (.k (.int .i64 (-1)))),none⟩] [1,4,5,21,22]
abbrev u74_9:IC:=qS [oM 24 22,oM 5 24] u74_10 [1,4,21,22]
abbrev u74_11:IC:=qE [oK 28 22 .add 1,oM 22 28] [1,4,21,22]
abbrev u74_8:IC:=qB u74_9 u74_11 1 [1,4,21,22]
abbrev u74_7:IC:=qC .skip u74_8 (.exit 0) (.t 23) [1,4,21,22,23]
abbrev u74_6:IC:=qS [oB 23 22 21 .lss] u74_7 [1,4,21,22]
abbrev u74_5:IC:=qJ (.loop u74_6) 0 [1,4,21,22]
abbrev u74_4:IC:=qS [oL 20 4,oH 21 20,oI 22 0] u74_5 [1,4]
abbrev u74_23:IC:=qS [oV 2 (.slice none 0 0),oV 3 (.bool false)] .ret []
abbrev u74_22:IC:=qK u74_23 .skip (.t 41) [1,4,6,7,31,32,33,41]
abbrev u74_21:IC:=qS [oM 37 7,oF 38 9 3,oL 39 38,⟨some 40,.callv (.t 37) [.t 39,.k (.int .i64 0)],none⟩,oY 41 40] u74_22 [1,4,6,7,9,31,32,33]
abbrev u74_20:IC:=qS [oA 35 31 33 4,oD 36 35 4,oW 9 (.agg #[.int .i64 0,.int .i64 0,.int .i64 0,.int .i64 0]),oS 9 36 4] u74_21 [1,4,6,7,31,32,33]
abbrev u74_24:IC:=qE [oK 42 33 .add 1,oM 33 42] [1,4,6,7,31,32,33]
abbrev u74_19:IC:=qB u74_20 u74_24 3 [1,4,6,7,31,32,33]
abbrev u74_18:IC:=qC .skip u74_19 (.exit 2) (.t 34) [1,4,6,7,31,32,33,34]
abbrev u74_17:IC:=qS [oB 34 33 32 .lss] u74_18 [1,4,6,7,31,32,33]
abbrev u74_16:IC:=qJ (.loop u74_17) 2 [1,4,6,7,31,32,33]
abbrev u74_15:IC:=qS [oF 30 1 2,oL 31 30,oH 32 31,oI 33 0] u74_16 [1,4,6,7]
abbrev u74_28:IC:=qK .skip (.exit 4) (.t 45) [1,4,6,7,45]
abbrev u74_27:IC:=qS [oL 43 6,oH 44 43,oK 45 44 .gtr 0] u74_28 [1,4,6,7]
abbrev u74_41:IC:=qE [oM 94 15,oM 95 94,gL 96 4 95,gM 97 10 95,oG 98 (.iad 1 (.t 96) (.t 97)) 95,gL 99 98 95,gK 100 99 95 .eql 0,oJ 101 95 100,oM 15 101] [1,4,6,7,10,15]
abbrev u74_44:IC:=qE [oM 104 15,oM 105 104,gM 106 7 105,gF 107 11 1 105,gL 108 107 105,gM 109 14 105,⟨some 110,.callv (.t 106) [.t 108,.t 109],some (105,true)⟩,oJ 111 105 110,oM 15 111] [1,4,6,7,11,14,15]
abbrev u74_47:IC:=qE [oM 114 15,oM 115 114,gM 116 7 115,gM 117 10 115,gK 118 117 115 .add 1,gM 119 14 115,⟨some 120,.callv (.t 116) [.t 118,.t 119],some (115,true)⟩,oJ 121 115 120,oM 122 121,gM 123 7 122,gF 124 11 1 122,gL 125 124 122,gM 126 14 122,⟨some 127,.callv (.t 123) [.t 125,.t 126],some (122,true)⟩,oJ 128 122 127,oM 15 128] [1,4,6,7,10,11,14,15]
abbrev u74_50:IC:=qE [oM 131 15,oM 132 131,gM 133 7 132,gM 134 10 132,gK 135 134 132 .add 1,gM 136 14 132,⟨some 137,.callv (.t 133) [.t 135,.t 136],some (132,true)⟩,oJ 138 132 137,oM 139 138,gM 140 7 139,gF 141 11 1 139,gL 142 141 139,gM 143 14 139,gK 144 143 139 .sub 1,⟨some 145,.callv (.t 140) [.t 142,.t 144],some (139,true)⟩,oJ 146 139 145,oM 15 146] [1,4,6,7,10,11,14,15]
abbrev u74_51:IC:=qE [oM 84 15,oM 85 84,gM 86 7 85,gM 87 10 85,gK 88 87 85 .add 1,gM 89 14 85,⟨some 90,.callv (.t 86) [.t 88,.t 89],some (85,true)⟩,oJ 91 85 90,oM 15 91] [1,4,6,7,10,14,15]
abbrev u74_49:IC:=qK u74_50 u74_51 (.t 129) [1,4,6,7,10,11,14,15,129]
abbrev u74_48:IC:=qS [oK 130 83 .eql 14,oM 129 130] u74_49 [1,4,6,7,10,11,14,15,83]
abbrev u74_46:IC:=qK u74_47 u74_48 (.t 112) [1,4,6,7,10,11,14,15,83,112]
abbrev u74_45:IC:=qS [oK 113 83 .eql 13,oM 112 113] u74_46 [1,4,6,7,10,11,14,15,83]
abbrev u74_43:IC:=qK u74_44 u74_45 (.t 102) [1,4,6,7,10,11,14,15,83,102]
abbrev u74_42:IC:=qS [oK 103 83 .eql 12,oM 102 103] u74_43 [1,4,6,7,10,11,14,15,83]
abbrev u74_40:IC:=qK u74_41 u74_42 (.t 92) [1,4,6,7,10,11,14,15,83,92]
abbrev u74_39:IC:=qS [oK 93 83 .eql 31,oM 92 93] u74_40 [1,4,6,7,10,11,14,15,83]
abbrev u74_38:IC:=qJ u74_39 6 [1,4,6,7,10,11,14,15,83]
abbrev u74_37:IC:=qS [oF 82 11 0,oL 83 82] u74_38 [1,4,6,7,10,11,14,15]
abbrev u74_54:IC:=qS [oV 2 (.slice none 0 0),oV 3 (.bool false)] .ret []
abbrev u74_53:IC:=qK u74_54 .skip (.t 148) [1,4,6,7,148]
abbrev u74_52:IC:=qS [oM 147 15,oY 148 147] u74_53 [1,4,6,7,15]
abbrev u74_36:IC:=qQ u74_37 u74_52 [1,4,6,7,10,11,14,15]
abbrev u74_35:IC:=qS [oL 76 4,oM 77 10,oA 78 76 77 1,oL 79 78,oM 80 12,oB 81 79 80 .geq,oM 15 81] u74_36 [1,4,6,7,10,11,12,14]
abbrev u74_34:IC:=qS [oL 68 4,oM 69 10,oA 70 68 69 1,oL 71 70,oM 72 12,oB 73 71 72 .sub,oM 74 13,oB 75 73 74 .add,oM 14 75] u74_35 [1,4,6,7,10,11,12,13]
abbrev u74_33:IC:=qS [oF 63 11 0,oL 64 63,oC 65 110 [.t 64],oM 62 65,oE 66 62 0,oE 67 62 1,oM 12 66,oM 13 67] u74_34 [1,4,6,7,10,11]
abbrev u74_32:IC:=qS [oF 57 1 0,oL 58 57,oM 59 10,oA 60 58 59 2,oD 61 60 2,oW 11 (.agg #[.int .i64 0,.int .i64 0]),oS 11 61 2] u74_33 [1,4,6,7,10]
abbrev u74_31:IC:=qS [oL 52 6,oL 53 6,oH 54 53,oK 55 54 .sub 1,oP 56 (.slc 1 (.t 52) none (some (.t 55))),oS 6 56 1] u74_32 [1,4,6,7,10]
abbrev u74_30:IC:=qS [oL 46 6,oL 47 6,oH 48 47,oK 49 48 .sub 1,oA 50 46 49 1,oL 51 50,oM 10 51] u74_31 [1,4,6,7]
abbrev u74_29:IC:=qJ u74_30 5 [1,4,6,7]
abbrev u74_26:IC:=qQ u74_27 u74_29 [1,4,6,7]
abbrev u74_55:IC:=qS [oL 149 4,oM 2 149,oV 3 (.bool true)] .ret [4]
abbrev u74_25:IC:=qB (.loop u74_26) u74_55 4 [1,4,6,7]
abbrev u74_14:IC:=qQ u74_15 u74_25 [1,4,6,7]
abbrev u74_13:IC:=qS [oP 29 (.mkf 109 [] [.t 4,.t 6]),oM 7 29] u74_14 [1,4,6]
abbrev u74_12:IC:=qS [oW 6 (.slice none 0 0)] u74_13 [1,4]
abbrev u74_3:IC:=qQ u74_4 u74_12 [1,4]
abbrev u74_2:IC:=qS [oF 16 1 0,oL 17 16,oH 18 17,⟨some 19,.new (.msl 1 8 #[.int .i64 0] (.t 18) (.t 18)),none⟩,oW 4 (.slice none 0 0),oS 4 19 1] u74_3 [1]
abbrev u74_1:IC:=qS [oX 1 0,oV 2 (.slice none 0 0),oV 3 (.bool false)] u74_2 [0]
def u74:IFn:=⟨150,u74_1,[.tmp 2,.tmp 3]⟩
end
theorem isU74:IsFn Tryz.prog 74 u74:=by unfold IsFn;kernel_rfl
section
abbrev u109_5:IC:=qS [oV 6 (.bool false)] .ret []
abbrev u109_4:IC:=qK u109_5 .skip (.t 29) [0,1,2,3,29]
abbrev u109_3:IC:=qS [oM 7 0,oL 8 2,oH 9 8,oB 10 7 9 .geq,oM 11 10,hM 12 1 11,hK 13 12 11 .gtr 48,oO 14 11 13,oM 15 14,hL 16 2 15,hM 17 0 15,oR 18 (.iad 1 (.t 16) (.t 17)) 15,hL 19 18 15,hK 20 19 15 .geq 0,hM 21 20 15,gL 22 2 21,gM 23 0 21,oG 24 (.iad 1 (.t 22) (.t 23)) 21,gL 25 24 21,gM 26 1 21,oG 27 (.bin .neq (.t 25) (.t 26)) 21,oR 28 (.pick (.t 21) (.t 27) (.k (.bool false))) 15,oO 29 15 28] u109_4 [0,1,2,3]
abbrev u109_10:IC:=qE [oL 39 3,oM 40 0,⟨some 41,.new (.bsl 1 1 #[.int .i64 0] [(0,.t 40)]),none⟩,oT 42 39 41 1 8,oS 3 42 1] [0,3]
abbrev u109_9:IC:=qS [oL 35 2,oM 36 0,oM 37 1,oA 38 35 36 1,oS 38 37 1] u109_10 [0,1,2,3]
abbrev u109_8:IC:=qK u109_9 .skip (.t 34) [0,1,2,3,34]
abbrev u109_7:IC:=qS [oL 30 2,oM 31 0,oA 32 30 31 1,oL 33 32,oK 34 33 .lss 0] u109_8 [0,1,2,3]
abbrev u109_11:IC:=qS [oV 6 (.bool true)] .ret []
abbrev u109_6:IC:=qQ u109_7 u109_11 [0,1,2,3]
abbrev u109_2:IC:=qQ u109_3 u109_6 [0,1,2,3]
abbrev u109_1:IC:=qS [oV 6 (.bool false)] u109_2 [0,1,2,3]
def u109:IFn:=⟨43,u109_1,[.tmp 6]⟩
end
theorem isU109:IsFn Tryz.prog 109 u109:=by unfold IsFn;kernel_rfl
section
abbrev u48_5:IC:=qS [oV 2 (.slice none 0 0),oI 3 9] .ret []
abbrev u48_8:IC:=qS [oV 2 (.slice none 0 0),oI 3 51] .ret []
abbrev u48_11:IC:=qS [oV 2 (.slice none 0 0),oI 3 54] .ret []
abbrev u48_10:IC:=qK u48_11 .skip (.t 15) [1,15]
abbrev u48_9:IC:=qS [oD 16 1 7,oC 17 72 [.t 16],oY 18 17,oM 15 18] u48_10 [1]
abbrev u48_7:IC:=qK u48_8 u48_9 (.t 11) [1,11]
abbrev u48_6:IC:=qS [oD 12 1 7,oC 13 71 [.t 12],oY 14 13,oM 11 14] u48_7 [1]
abbrev u48_4:IC:=qK u48_5 u48_6 (.t 7) [1,7]
abbrev u48_3:IC:=qS [oD 8 1 7,oC 9 70 [.t 8],oY 10 9,oM 7 10] u48_4 [1]
abbrev u48_17:IC:=qK .skip (.exit 1) (.t 23) [1,4,23]
abbrev u48_16:IC:=qS [oM 19 4,oF 20 1 2,oL 21 20,oH 22 21,oB 23 19 22 .lss] u48_17 [1,4]
abbrev u48_21:IC:=qS [oV 2 (.slice none 0 0),oI 3 66] .ret []
abbrev u48_20:IC:=qK u48_21 .skip (.t 38) [1,4,38]
abbrev u48_19:IC:=qP [oF 26 1 2,oL 27 26,oM 28 4,oK 29 28 .sub 1,oA 30 27 29 4,oD 31 30 4,oF 32 1 2,oL 33 32,oM 34 4,oA 35 33 34 4,oD 36 35 4,oC 37 73 [.t 31,.t 36],oY 38 37] u48_20 0 13 [1,4]
abbrev u48_22:IC:=qE [oM 24 4,oK 25 24 .add 1,oM 4 25] [1,4]
abbrev u48_18:IC:=qB u48_19 u48_22 2 [1,4]
abbrev u48_15:IC:=qQ u48_16 u48_18 [1,4]
abbrev u48_14:IC:=qJ (.loop u48_15) 1 [1,4]
abbrev u48_13:IC:=qS [oI 4 1] u48_14 [1]
abbrev u48_27:IC:=qS [oV 2 (.slice none 0 0),oI 3 53] .ret []
abbrev u48_26:IC:=qK u48_27 .skip (.t 45) [5,45]
abbrev u48_25:IC:=qS [oM 44 6,oY 45 44] u48_26 [5,6]
abbrev u48_28:IC:=qS [oM 46 5,oM 2 46,oI 3 0] .ret [5]
abbrev u48_24:IC:=qQ u48_25 u48_28 [5,6]
abbrev u48_23:IC:=qS [oD 40 1 7,oC 41 74 [.t 40],oM 39 41,oE 42 39 0,oE 43 39 1,oM 5 42,oM 6 43] u48_24 [1]
abbrev u48_12:IC:=qQ u48_13 u48_23 [1]
abbrev u48_2:IC:=qB u48_3 u48_12 0 [1]
abbrev u48_1:IC:=qS [oX 1 0,oV 2 (.slice none 0 0),oI 3 0] u48_2 [0]
def u48:IFn:=⟨47,u48_1,[.tmp 2,.tmp 3]⟩
end
theorem isU48:IsFn Tryz.prog 48 u48:=by unfold IsFn;kernel_rfl
section
abbrev u32_3:IC:=qS [oM 10 4,oM 2 10] .ret [4]
abbrev u32_2:IC:=qS [oD 6 1 7,oC 7 48 [.t 6],oM 5 7,oE 8 5 0,oE 9 5 1,oM 3 8,oM 4 9] u32_3 [1]
abbrev u32_1:IC:=qS [oX 1 0,oI 2 0] u32_2 [0]
def u32:IFn:=⟨11,u32_1,[.tmp 2]⟩
end
theorem isU32:IsFn Tryz.prog 32 u32:=by unfold IsFn;kernel_rfl
section
abbrev u135_11:IC:=qS [oM 17 5,oM 4 17] .ret [5]
abbrev u135_10:IC:=qK u135_11 .skip (.t 16) [0,1,5,7,8,16]
abbrev u135_9:IC:=qS [oM 11 1,oM 12 0,oM 13 5,oA 14 12 13 1,oL 15 14,⟨some 16,.callv (.t 11) [.t 15],none⟩] u135_10 [0,1,5,7,8]
abbrev u135_8:IC:=qS [oM 10 8,oM 5 10] u135_9 [0,1,7,8]
abbrev u135_12:IC:=qE [oK 18 8 .add 1,oM 8 18] [0,1,7,8]
abbrev u135_7:IC:=qB u135_8 u135_12 1 [0,1,7,8]
abbrev u135_6:IC:=qC .skip u135_7 (.exit 0) (.t 9) [0,1,7,8,9]
abbrev u135_5:IC:=qS [oB 9 8 7 .lss] u135_6 [0,1,7,8]
abbrev u135_4:IC:=qJ (.loop u135_5) 0 [0,1,7,8]
abbrev u135_3:IC:=qS [oM 6 0,oH 7 6,oI 8 0] u135_4 [0,1]
abbrev u135_13:IC:=qS [oI 4 (-1)] .ret []
abbrev u135_2:IC:=qQ u135_3 u135_13 [0,1]
abbrev u135_1:IC:=qS [oI 4 0] u135_2 [0,1]
def u135:IFn:=⟨19,u135_1,[.tmp 4]⟩
end
theorem isU135:IsFn Tryz.prog 135 u135:=by unfold IsFn;kernel_rfl
section
abbrev u49_11:IC:=qS [oM 17 5,oM 4 17] .ret [5]
abbrev u49_10:IC:=qK u49_11 .skip (.t 16) [0,1,5,7,8,16]
abbrev u49_9:IC:=qS [oM 11 1,oM 12 0,oM 13 5,oA 14 12 13 1,oL 15 14,⟨some 16,.callv (.t 11) [.t 15],none⟩] u49_10 [0,1,5,7,8]
abbrev u49_8:IC:=qS [oM 10 8,oM 5 10] u49_9 [0,1,7,8]
abbrev u49_12:IC:=qE [oK 18 8 .add 1,oM 8 18] [0,1,7,8]
abbrev u49_7:IC:=qB u49_8 u49_12 1 [0,1,7,8]
abbrev u49_6:IC:=qC .skip u49_7 (.exit 0) (.t 9) [0,1,7,8,9]
abbrev u49_5:IC:=qS [oB 9 8 7 .lss] u49_6 [0,1,7,8]
abbrev u49_4:IC:=qJ (.loop u49_5) 0 [0,1,7,8]
abbrev u49_3:IC:=qS [oM 6 0,oH 7 6,oI 8 0] u49_4 [0,1]
abbrev u49_13:IC:=qS [oI 4 (-1)] .ret []
abbrev u49_2:IC:=qQ u49_3 u49_13 [0,1]
abbrev u49_1:IC:=qS [oI 4 0] u49_2 [0,1]
def u49:IFn:=⟨19,u49_1,[.tmp 4]⟩
end
theorem isU49:IsFn Tryz.prog 49 u49:=by unfold IsFn;kernel_rfl
section
abbrev u55_11:IC:=qS [oM 17 5,oM 4 17] .ret [5]
abbrev u55_10:IC:=qK u55_11 .skip (.t 16) [0,1,5,7,8,16]
abbrev u55_9:IC:=qS [oM 11 1,oM 12 0,oM 13 5,oA 14 12 13 4,oD 15 14 4,⟨some 16,.callv (.t 11) [.t 15],none⟩] u55_10 [0,1,5,7,8]
abbrev u55_8:IC:=qS [oM 10 8,oM 5 10] u55_9 [0,1,7,8]
abbrev u55_12:IC:=qE [oK 18 8 .add 1,oM 8 18] [0,1,7,8]
abbrev u55_7:IC:=qB u55_8 u55_12 1 [0,1,7,8]
abbrev u55_6:IC:=qC .skip u55_7 (.exit 0) (.t 9) [0,1,7,8,9]
abbrev u55_5:IC:=qS [oB 9 8 7 .lss] u55_6 [0,1,7,8]
abbrev u55_4:IC:=qJ (.loop u55_5) 0 [0,1,7,8]
abbrev u55_3:IC:=qS [oM 6 0,oH 7 6,oI 8 0] u55_4 [0,1]
abbrev u55_13:IC:=qS [oI 4 (-1)] .ret []
abbrev u55_2:IC:=qQ u55_3 u55_13 [0,1]
abbrev u55_1:IC:=qS [oI 4 0] u55_2 [0,1]
def u55:IFn:=⟨19,u55_1,[.tmp 4]⟩
end
theorem isU55:IsFn Tryz.prog 55 u55:=by unfold IsFn;kernel_rfl
section
abbrev u99_2:IC:=qS [oM 5 0,oM 6 1,oC 7 135 [.t 5,.t 6],oK 8 7 .geq 0,oM 4 8] .ret [0,1]
abbrev u99_1:IC:=qS [oV 4 (.bool false)] u99_2 [0,1]
def u99:IFn:=⟨9,u99_1,[.tmp 4]⟩
end
theorem isU99:IsFn Tryz.prog 99 u99:=by unfold IsFn;kernel_rfl
section
abbrev u33_2:IC:=qS [oM 5 0,oM 6 1,oC 7 49 [.t 5,.t 6],oK 8 7 .geq 0,oM 4 8] .ret [0,1]
abbrev u33_1:IC:=qS [oV 4 (.bool false)] u33_2 [0,1]
def u33:IFn:=⟨9,u33_1,[.tmp 4]⟩
end
theorem isU33:IsFn Tryz.prog 33 u33:=by unfold IsFn;kernel_rfl
section
abbrev u36_2:IC:=qS [oM 5 0,oM 6 1,oC 7 55 [.t 5,.t 6],oK 8 7 .geq 0,oM 4 8] .ret [0,1]
abbrev u36_1:IC:=qS [oV 4 (.bool false)] u36_2 [0,1]
def u36:IFn:=⟨9,u36_1,[.tmp 4]⟩
end
theorem isU36:IsFn Tryz.prog 36 u36:=by unfold IsFn;kernel_rfl
end Go.Proofs.YtcallbfckjlagaaGreat
namespace Go.Proofs.YtcallbfckjlagaaGreat
open Go.Eng (IC IOper DReg IFn IsFn)
open Go.Sym
theorem mixedU:Tryz.prog.follows .mixedOrders=true:=by kernel_rfl
section
abbrev u50_2:IC:=qS [oM 7 0,oM 8 1,oB 9 7 8 .geq,oM 10 9,gM 11 0 10,gM 12 2 10,oG 13 (.bin .leq (.t 11) (.t 12)) 10,oJ 14 10 13,oM 6 14] .ret [0,1,2]
abbrev u50_1:IC:=qS [oV 6 (.bool false)] u50_2 [0,1,2]
def u50:IFn:=⟨15,u50_1,[.tmp 6]⟩
end
theorem isU50:IsFn Tryz.prog 50 u50:=by unfold IsFn;kernel_rfl
section
abbrev u53_5:IC:=qS [oF 10 2 0,oL 11 10,oF 12 3 0,oL 13 12,oB 14 11 13 .lss,oM 4 14] .ret [2,3]
abbrev u53_4:IC:=qK u53_5 .skip (.t 9) [2,3,9]
abbrev u53_3:IC:=qS [oF 5 2 0,oL 6 5,oF 7 3 0,oL 8 7,oB 9 6 8 .neq] u53_4 [2,3]
abbrev u53_9:IC:=qS [oF 20 2 1,oL 21 20,oF 22 3 1,oL 23 22,oB 24 21 23 .lss,oM 4 24] .ret [2,3]
abbrev u53_8:IC:=qK u53_9 .skip (.t 19) [2,3,19]
abbrev u53_7:IC:=qS [oF 15 2 1,oL 16 15,oF 17 3 1,oL 18 17,oB 19 16 18 .neq] u53_8 [2,3]
abbrev u53_10:IC:=qS [oF 25 2 2,oL 26 25,oF 27 3 2,oL 28 27,oB 29 26 28 .lss,oM 4 29] .ret [2,3]
abbrev u53_6:IC:=qQ u53_7 u53_10 [2,3]
abbrev u53_2:IC:=qQ u53_3 u53_6 [2,3]
abbrev u53_1:IC:=qS [oX 2 0,oX 3 1,oV 4 (.bool false)] u53_2 [0,1]
def u53:IFn:=⟨30,u53_1,[.tmp 4]⟩
end
theorem isU53:IsFn Tryz.prog 53 u53:=by unfold IsFn;kernel_rfl
section
abbrev u78_7:IC:=qS [oI 2 0,oI 3 1,oI 4 1] .ret []
abbrev u78_10:IC:=qS [oI 2 0,oI 3 1,oI 4 2] .ret []
abbrev u78_13:IC:=qS [oI 2 1,oI 3 0,oI 4 2] .ret []
abbrev u78_16:IC:=qS [oI 2 0,oI 3 1,oI 4 3] .ret []
abbrev u78_19:IC:=qS [oI 2 0,oI 3 1,oI 4 4] .ret []
abbrev u78_22:IC:=qS [oI 2 0,oI 3 1,oI 4 5] .ret []
abbrev u78_26:IC:=qE [oK 20 5 .eql 8,oM 18 20] [5]
abbrev u78_25:IC:=qK .skip u78_26 (.t 18) [5,18]
abbrev u78_24:IC:=qS [oK 19 5 .eql 7,oM 18 19] u78_25 [5]
abbrev u78_28:IC:=qS [oI 2 0,oI 3 1,oI 4 0] .ret []
abbrev u78_32:IC:=qE [oK 23 5 .eql 10,oM 21 23] [5]
abbrev u78_31:IC:=qK .skip u78_32 (.t 21) [5,21]
abbrev u78_30:IC:=qS [oK 22 5 .eql 9,oM 21 22] u78_31 [5]
abbrev u78_34:IC:=qS [oI 2 1,oI 3 1,oI 4 0] .ret []
abbrev u78_37:IC:=qS [oI 2 2,oI 3 1,oI 4 6] .ret []
abbrev u78_40:IC:=qS [oI 2 0,oI 3 0,oI 4 7] .ret []
abbrev u78_43:IC:=qS [oI 2 1,oI 3 0,oI 4 7] .ret []
abbrev u78_46:IC:=qS [oI 2 1,oI 3 1,oI 4 7] .ret []
abbrev u78_49:IC:=qS [oI 2 1,oI 3 0,oI 4 0] .ret []
abbrev u78_55:IC:=qE [oK 37 5 .eql 18,oM 34 37] [5]
abbrev u78_54:IC:=qK .skip u78_55 (.t 34) [5,34]
abbrev u78_53:IC:=qS [oK 36 5 .eql 17,oM 34 36] u78_54 [5]
abbrev u78_52:IC:=qK .skip u78_53 (.t 34) [5,34]
abbrev u78_51:IC:=qS [oK 35 5 .eql 16,oM 34 35] u78_52 [5]
abbrev u78_57:IC:=qS [oI 2 0,oI 3 0,oI 4 8] .ret []
abbrev u78_60:IC:=qS [oI 2 1,oI 3 0,oI 4 9] .ret []
abbrev u78_63:IC:=qS [oI 2 2,oI 3 0,oI 4 9] .ret []
abbrev u78_66:IC:=qS [oI 2 1,oI 3 0,oI 4 5] .ret []
abbrev u78_69:IC:=qS [oI 2 0,oI 3 0,oI 4 5] .ret []
abbrev u78_73:IC:=qE [oK 48 5 .eql 24,oM 46 48] [5]
abbrev u78_72:IC:=qK .skip u78_73 (.t 46) [5,46]
abbrev u78_71:IC:=qS [oK 47 5 .eql 23,oM 46 47] u78_72 [5]
abbrev u78_75:IC:=qS [oI 2 0,oI 3 0,oI 4 4] .ret []
abbrev u78_78:IC:=qS [oI 2 0,oI 3 0,oI 4 10] .ret []
abbrev u78_84:IC:=qE [oK 54 5 .eql 28,oM 51 54] [5]
abbrev u78_83:IC:=qK .skip u78_84 (.t 51) [5,51]
abbrev u78_82:IC:=qS [oK 53 5 .eql 27,oM 51 53] u78_83 [5]
abbrev u78_81:IC:=qK .skip u78_82 (.t 51) [5,51]
abbrev u78_80:IC:=qS [oK 52 5 .eql 26,oM 51 52] u78_81 [5]
abbrev u78_86:IC:=qS [oI 2 0,oI 3 0,oI 4 9] .ret []
abbrev u78_89:IC:=qS [oI 2 1,oI 3 0,oI 4 11] .ret []
abbrev u78_93:IC:=qE [oK 59 5 .eql 31,oM 57 59] [5]
abbrev u78_92:IC:=qK .skip u78_93 (.t 57) [5,57]
abbrev u78_91:IC:=qS [oK 58 5 .eql 30,oM 57 58] u78_92 [5]
abbrev u78_95:IC:=qS [oI 2 0,oI 3 0,oI 4 0] .ret []
abbrev u78_94:IC:=qK u78_95 .skip (.t 57) [57]
abbrev u78_90:IC:=qQ u78_91 u78_94 [5]
abbrev u78_88:IC:=qK u78_89 u78_90 (.t 55) [5,55]
abbrev u78_87:IC:=qS [oK 56 5 .eql 29,oM 55 56] u78_88 [5]
abbrev u78_85:IC:=qK u78_86 u78_87 (.t 51) [5,51]
abbrev u78_79:IC:=qQ u78_80 u78_85 [5]
abbrev u78_77:IC:=qK u78_78 u78_79 (.t 49) [5,49]
abbrev u78_76:IC:=qS [oK 50 5 .eql 25,oM 49 50] u78_77 [5]
abbrev u78_74:IC:=qK u78_75 u78_76 (.t 46) [5,46]
abbrev u78_70:IC:=qQ u78_71 u78_74 [5]
abbrev u78_68:IC:=qK u78_69 u78_70 (.t 44) [5,44]
abbrev u78_67:IC:=qS [oK 45 5 .eql 22,oM 44 45] u78_68 [5]
abbrev u78_65:IC:=qK u78_66 u78_67 (.t 42) [5,42]
abbrev u78_64:IC:=qS [oK 43 5 .eql 21,oM 42 43] u78_65 [5]
abbrev u78_62:IC:=qK u78_63 u78_64 (.t 40) [5,40]
abbrev u78_61:IC:=qS [oK 41 5 .eql 20,oM 40 41] u78_62 [5]
abbrev u78_59:IC:=qK u78_60 u78_61 (.t 38) [5,38]
abbrev u78_58:IC:=qS [oK 39 5 .eql 19,oM 38 39] u78_59 [5]
abbrev u78_56:IC:=qK u78_57 u78_58 (.t 34) [5,34]
abbrev u78_50:IC:=qQ u78_51 u78_56 [5]
abbrev u78_48:IC:=qK u78_49 u78_50 (.t 32) [5,32]
abbrev u78_47:IC:=qS [oK 33 5 .eql 15,oM 32 33] u78_48 [5]
abbrev u78_45:IC:=qK u78_46 u78_47 (.t 30) [5,30]
abbrev u78_44:IC:=qS [oK 31 5 .eql 14,oM 30 31] u78_45 [5]
abbrev u78_42:IC:=qK u78_43 u78_44 (.t 28) [5,28]
abbrev u78_41:IC:=qS [oK 29 5 .eql 13,oM 28 29] u78_42 [5]
abbrev u78_39:IC:=qK u78_40 u78_41 (.t 26) [5,26]
abbrev u78_38:IC:=qS [oK 27 5 .eql 12,oM 26 27] u78_39 [5]
abbrev u78_36:IC:=qK u78_37 u78_38 (.t 24) [5,24]
abbrev u78_35:IC:=qS [oK 25 5 .eql 11,oM 24 25] u78_36 [5]
abbrev u78_33:IC:=qK u78_34 u78_35 (.t 21) [5,21]
abbrev u78_29:IC:=qQ u78_30 u78_33 [5]
abbrev u78_27:IC:=qK u78_28 u78_29 (.t 18) [5,18]
abbrev u78_23:IC:=qQ u78_24 u78_27 [5]
abbrev u78_21:IC:=qK u78_22 u78_23 (.t 16) [5,16]
abbrev u78_20:IC:=qS [oK 17 5 .eql 6,oM 16 17] u78_21 [5]
abbrev u78_18:IC:=qK u78_19 u78_20 (.t 14) [5,14]
abbrev u78_17:IC:=qS [oK 15 5 .eql 5,oM 14 15] u78_18 [5]
abbrev u78_15:IC:=qK u78_16 u78_17 (.t 12) [5,12]
abbrev u78_14:IC:=qS [oK 13 5 .eql 4,oM 12 13] u78_15 [5]
abbrev u78_12:IC:=qK u78_13 u78_14 (.t 10) [5,10]
abbrev u78_11:IC:=qS [oK 11 5 .eql 3,oM 10 11] u78_12 [5]
abbrev u78_9:IC:=qK u78_10 u78_11 (.t 8) [5,8]
abbrev u78_8:IC:=qS [oK 9 5 .eql 2,oM 8 9] u78_9 [5]
abbrev u78_6:IC:=qK u78_7 u78_8 (.t 6) [5,6]
abbrev u78_5:IC:=qS [oK 7 5 .eql 1,oM 6 7] u78_6 [5]
abbrev u78_4:IC:=qJ u78_5 0 [5]
abbrev u78_3:IC:=qS [oM 5 0] u78_4 [0]
abbrev u78_96:IC:=qS [oI 2 0,oI 3 0,oI 4 (-1)] .ret []
abbrev u78_2:IC:=qQ u78_3 u78_96 [0]
abbrev u78_1:IC:=qS [oI 2 0,oI 3 0,oI 4 0] u78_2 [0]
def u78:IFn:=⟨60,u78_1,[.tmp 2,.tmp 3,.tmp 4]⟩
end
theorem isU78:IsFn Tryz.prog 78 u78:=by unfold IsFn;kernel_rfl
section
abbrev u75_7:IC:=qK .skip (.exit 0) (.t 7) [0,3,7]
abbrev u75_6:IC:=qS [oM 4 3,oM 5 0,oP 6 (.lens (.t 5)),oB 7 4 6 .lss] u75_7 [0,3]
abbrev u75_11:IC:=qS [oV 2 (.bool false)] .ret []
abbrev u75_10:IC:=qK u75_11 .skip (.t 19) [0,3,19]
abbrev u75_9:IC:=qS [oM 10 0,oM 11 3,oP 12 (.idx (.t 10) (.t 11)),oP 13 (.bin .lss (.t 12) (.k (.int .u8 32))),oM 14 13,hM 15 0 14,hM 16 3 14,oR 17 (.idx (.t 15) (.t 16)) 14,oR 18 (.bin .gtr (.t 17) (.k (.int .u8 126))) 14,oO 19 14 18] u75_10 [0,3]
abbrev u75_12:IC:=qE [oM 8 3,oK 9 8 .add 1,oM 3 9] [0,3]
abbrev u75_8:IC:=qB u75_9 u75_12 1 [0,3]
abbrev u75_5:IC:=qQ u75_6 u75_8 [0,3]
abbrev u75_4:IC:=qJ (.loop u75_5) 0 [0,3]
abbrev u75_3:IC:=qS [oI 3 0] u75_4 [0]
abbrev u75_13:IC:=qS [oM 20 0,oP 21 (.lens (.t 20)),oK 22 21 .leq 32,oM 2 22] .ret [0]
abbrev u75_2:IC:=qQ u75_3 u75_13 [0]
abbrev u75_1:IC:=qS [oV 2 (.bool false)] u75_2 [0]
def u75:IFn:=⟨23,u75_1,[.tmp 2]⟩
end
theorem isU75:IsFn Tryz.prog 75 u75:=by unfold IsFn;kernel_rfl
section
abbrev u76_5:IC:=qS [oV 4 (.bool false)] .ret []
abbrev u76_4:IC:=qK u76_5 .skip (.t 12) [2,3,12]
abbrev u76_3:IC:=qS [oF 5 3 0,oL 6 5,oF 7 2 3,oL 8 7,oH 9 8,oK 10 9 .sub 1,oC 11 50 [.t 6,.k (.int .i64 0),.t 10],oY 12 11] u76_4 [2,3]
abbrev u76_12:IC:=qE [oK 17 14 .eql 2,oM 15 17] [2,3,14]
abbrev u76_11:IC:=qK .skip u76_12 (.t 15) [2,3,14,15]
abbrev u76_10:IC:=qS [oK 16 14 .eql 1,oM 15 16] u76_11 [2,3,14]
abbrev u76_14:IC:=qS [oF 18 3 2,oL 19 18,oK 20 19 .eql 0,oM 4 20] .ret [3]
abbrev u76_18:IC:=qE [oK 23 14 .eql 4,oM 21 23] [2,3,14]
abbrev u76_17:IC:=qK .skip u76_18 (.t 21) [2,3,14,21]
abbrev u76_16:IC:=qS [oK 22 14 .eql 3,oM 21 22] u76_17 [2,3,14]
abbrev u76_20:IC:=qS [oF 24 3 2,oL 25 24,oC 26 50 [.t 25,.k (.int .i64 0),.k (.int .i64 63)],oM 4 26] .ret [3]
abbrev u76_23:IC:=qS [oF 29 3 2,oL 30 29,oF 31 2 5,oL 32 31,oK 33 32 .sub 1,oC 34 50 [.t 30,.k (.int .i64 0),.t 33],oM 4 34] .ret [2,3]
abbrev u76_26:IC:=qS [oF 37 3 2,oL 38 37,oF 39 2 6,oL 40 39,oK 41 40 .sub 1,oC 42 50 [.t 38,.k (.int .i64 0),.t 41],oM 4 42] .ret [2,3]
abbrev u76_25:IC:=qK u76_26 .skip (.t 35) [2,3,35]
abbrev u76_24:IC:=qS [oK 36 14 .eql 6,oM 35 36] u76_25 [2,3,14]
abbrev u76_22:IC:=qK u76_23 u76_24 (.t 27) [2,3,14,27]
abbrev u76_21:IC:=qS [oK 28 14 .eql 5,oM 27 28] u76_22 [2,3,14]
abbrev u76_19:IC:=qK u76_20 u76_21 (.t 21) [2,3,14,21]
abbrev u76_15:IC:=qQ u76_16 u76_19 [2,3,14]
abbrev u76_13:IC:=qK u76_14 u76_15 (.t 15) [2,3,14,15]
abbrev u76_9:IC:=qQ u76_10 u76_13 [2,3,14]
abbrev u76_8:IC:=qJ u76_9 0 [2,3,14]
abbrev u76_7:IC:=qS [oF 13 3 1,oL 14 13] u76_8 [2,3]
abbrev u76_27:IC:=qS [oV 4 (.bool false)] .ret []
abbrev u76_6:IC:=qQ u76_7 u76_27 [2,3]
abbrev u76_2:IC:=qQ u76_3 u76_6 [2,3]
abbrev u76_1:IC:=qS [oX 2 0,oX 3 1,oV 4 (.bool false)] u76_2 [0,1]
def u76:IFn:=⟨43,u76_1,[.tmp 4]⟩
end
theorem isU76:IsFn Tryz.prog 76 u76:=by unfold IsFn;kernel_rfl
section
abbrev u77_8:IC:=qS [oF 18 3 1,oL 19 18,oK 20 19 .eql 0,oM 4 20] .ret [3]
abbrev u77_11:IC:=qS [oF 23 3 1,oL 24 23,oC 25 50 [.t 24,.k (.int .i64 (-2147483647)),.k (.int .i64 2147483647)],oM 4 25] .ret [3]
abbrev u77_14:IC:=qS [oF 28 3 1,oL 29 28,oF 30 2 4,oL 31 30,oH 32 31,oK 33 32 .sub 1,oC 34 50 [.t 29,.k (.int .i64 0),.t 33],oM 4 34] .ret [2,3]
abbrev u77_18:IC:=qE [oK 37 15 .eql 9,oM 35 37] [2,3,15]
abbrev u77_17:IC:=qK .skip u77_18 (.t 35) [2,3,15,35]
abbrev u77_16:IC:=qS [oK 36 15 .eql 3,oM 35 36] u77_17 [2,3,15]
abbrev u77_20:IC:=qS [oF 38 3 1,oL 39 38,oC 40 50 [.t 39,.k (.int .i64 0),.k (.int .i64 63)],oM 4 40] .ret [3]
abbrev u77_23:IC:=qS [oF 43 3 1,oL 44 43,oF 45 2 3,oL 46 45,oH 47 46,oK 48 47 .sub 1,oC 49 50 [.t 44,.k (.int .i64 0),.t 48],oM 4 49] .ret [2,3]
abbrev u77_26:IC:=qS [oF 52 3 1,oL 53 52,oF 54 2 5,oL 55 54,oK 56 55 .sub 1,oC 57 50 [.t 53,.k (.int .i64 0),.t 56],oM 4 57] .ret [2,3]
abbrev u77_29:IC:=qS [oF 60 3 1,oL 61 60,oC 62 50 [.t 61,.k (.int .i64 12),.k (.int .i64 24)],oM 4 62] .ret [3]
abbrev u77_32:IC:=qS [oV 4 (.bool true)] .ret []
abbrev u77_35:IC:=qS [oF 67 3 1,oL 68 67,oC 69 50 [.t 68,.k (.int .i64 0),.k (.int .i64 31)],oM 4 69] .ret [3]
abbrev u77_38:IC:=qS [oF 72 3 1,oL 73 72,oF 74 2 6,oL 75 74,oK 76 75 .sub 1,oC 77 50 [.t 73,.k (.int .i64 0),.t 76],oM 4 77] .ret [2,3]
abbrev u77_41:IC:=qS [oF 80 3 1,oL 81 80,oF 82 2 1,oL 83 82,oH 84 83,oK 85 84 .sub 1,oC 86 50 [.t 81,.k (.int .i64 0),.t 85],oM 4 86] .ret [2,3]
abbrev u77_40:IC:=qK u77_41 .skip (.t 78) [2,3,78]
abbrev u77_39:IC:=qS [oK 79 15 .eql 11,oM 78 79] u77_40 [2,3,15]
abbrev u77_37:IC:=qK u77_38 u77_39 (.t 70) [2,3,15,70]
abbrev u77_36:IC:=qS [oK 71 15 .eql 10,oM 70 71] u77_37 [2,3,15]
abbrev u77_34:IC:=qK u77_35 u77_36 (.t 65) [2,3,15,65]
abbrev u77_33:IC:=qS [oK 66 15 .eql 8,oM 65 66] u77_34 [2,3,15]
abbrev u77_31:IC:=qK u77_32 u77_33 (.t 63) [2,3,15,63]
abbrev u77_30:IC:=qS [oK 64 15 .eql 7,oM 63 64] u77_31 [2,3,15]
abbrev u77_28:IC:=qK u77_29 u77_30 (.t 58) [2,3,15,58]
abbrev u77_27:IC:=qS [oK 59 15 .eql 6,oM 58 59] u77_28 [2,3,15]
abbrev u77_25:IC:=qK u77_26 u77_27 (.t 50) [2,3,15,50]
abbrev u77_24:IC:=qS [oK 51 15 .eql 5,oM 50 51] u77_25 [2,3,15]
abbrev u77_22:IC:=qK u77_23 u77_24 (.t 41) [2,3,15,41]
abbrev u77_21:IC:=qS [oK 42 15 .eql 4,oM 41 42] u77_22 [2,3,15]
abbrev u77_19:IC:=qK u77_20 u77_21 (.t 35) [2,3,15,35]
abbrev u77_15:IC:=qQ u77_16 u77_19 [2,3,15]
abbrev u77_13:IC:=qK u77_14 u77_15 (.t 26) [2,3,15,26]
abbrev u77_12:IC:=qS [oK 27 15 .eql 2,oM 26 27] u77_13 [2,3,15]
abbrev u77_10:IC:=qK u77_11 u77_12 (.t 21) [2,3,15,21]
abbrev u77_9:IC:=qS [oK 22 15 .eql 1,oM 21 22] u77_10 [2,3,15]
abbrev u77_7:IC:=qK u77_8 u77_9 (.t 16) [2,3,15,16]
abbrev u77_6:IC:=qS [oK 17 15 .eql 0,oM 16 17] u77_7 [2,3,15]
abbrev u77_5:IC:=qJ u77_6 0 [2,3,15]
abbrev u77_4:IC:=qS [oM 15 7] u77_5 [2,3,7]
abbrev u77_42:IC:=qS [oV 4 (.bool false)] .ret []
abbrev u77_3:IC:=qQ u77_4 u77_42 [2,3,7]
abbrev u77_2:IC:=qS [oF 9 3 0,oL 10 9,oC 11 78 [.t 10],oM 8 11,oE 12 8 0,oE 13 8 1,oE 14 8 2,oM 5 12,oM 6 13,oM 7 14] u77_3 [2,3]
abbrev u77_1:IC:=qS [oX 2 0,oX 3 1,oV 4 (.bool false)] u77_2 [0,1]
def u77:IFn:=⟨87,u77_1,[.tmp 4]⟩
end
theorem isU77:IsFn Tryz.prog 77 u77:=by unfold IsFn;kernel_rfl
section
abbrev u51_7:IC:=qK .skip (.exit 0) (.t 12) [1,3,12]
abbrev u51_6:IC:=qS [oM 8 3,oF 9 1 1,oL 10 9,oH 11 10,oB 12 8 11 .lss] u51_7 [1,3]
abbrev u51_11:IC:=qS [oV 2 (.bool false)] .ret []
abbrev u51_10:IC:=qK u51_11 .skip (.t 21) [1,3,21]
abbrev u51_9:IC:=qS [oF 15 1 1,oL 16 15,oM 17 3,oA 18 16 17 1,oL 19 18,oC 20 75 [.t 19],oY 21 20] u51_10 [1,3]
abbrev u51_12:IC:=qE [oM 13 3,oK 14 13 .add 1,oM 3 14] [1,3]
abbrev u51_8:IC:=qB u51_9 u51_12 1 [1,3]
abbrev u51_5:IC:=qQ u51_6 u51_8 [1,3]
abbrev u51_4:IC:=qJ (.loop u51_5) 0 [1,3]
abbrev u51_3:IC:=qS [oI 3 0] u51_4 [1]
abbrev u51_18:IC:=qK .skip (.exit 2) (.t 26) [1,4,26]
abbrev u51_17:IC:=qS [oM 22 4,oF 23 1 3,oL 24 23,oH 25 24,oB 26 22 25 .lss] u51_18 [1,4]
abbrev u51_22:IC:=qS [oV 2 (.bool false)] .ret []
abbrev u51_21:IC:=qK u51_22 .skip (.t 35) [1,4,35]
abbrev u51_20:IC:=qS [oF 29 1 3,oL 30 29,oM 31 4,oA 32 30 31 1,oL 33 32,oC 34 50 [.t 33,.k (.int .i64 0),.k (.int .i64 99)],oY 35 34] u51_21 [1,4]
abbrev u51_23:IC:=qE [oM 27 4,oK 28 27 .add 1,oM 4 28] [1,4]
abbrev u51_19:IC:=qB u51_20 u51_23 3 [1,4]
abbrev u51_16:IC:=qQ u51_17 u51_19 [1,4]
abbrev u51_15:IC:=qJ (.loop u51_16) 2 [1,4]
abbrev u51_14:IC:=qS [oI 4 0] u51_15 [1]
abbrev u51_29:IC:=qK .skip (.exit 4) (.t 40) [1,5,40]
abbrev u51_28:IC:=qS [oM 36 5,oF 37 1 4,oL 38 37,oH 39 38,oB 40 36 39 .lss] u51_29 [1,5]
abbrev u51_33:IC:=qS [oV 2 (.bool false)] .ret []
abbrev u51_32:IC:=qK u51_33 .skip (.t 49) [1,5,49]
abbrev u51_31:IC:=qS [oF 43 1 4,oL 44 43,oM 45 5,oA 46 44 45 1,oL 47 46,oC 48 50 [.t 47,.k (.int .i64 (-2147483647)),.k (.int .i64 2147483647)],oY 49 48] u51_32 [1,5]
abbrev u51_34:IC:=qE [oM 41 5,oK 42 41 .add 1,oM 5 42] [1,5]
abbrev u51_30:IC:=qB u51_31 u51_34 5 [1,5]
abbrev u51_27:IC:=qQ u51_28 u51_30 [1,5]
abbrev u51_26:IC:=qJ (.loop u51_27) 4 [1,5]
abbrev u51_25:IC:=qS [oI 5 0] u51_26 [1]
abbrev u51_40:IC:=qK .skip (.exit 6) (.t 54) [1,6,54]
abbrev u51_39:IC:=qS [oM 50 6,oF 51 1 2,oL 52 51,oH 53 52,oB 54 50 53 .lss] u51_40 [1,6]
abbrev u51_44:IC:=qS [oV 2 (.bool false)] .ret []
abbrev u51_43:IC:=qK u51_44 .skip (.t 64) [1,6,64]
abbrev u51_42:IC:=qP [oD 57 1 7,oF 58 1 2,oL 59 58,oM 60 6,oA 61 59 60 4,oD 62 61 4,oC 63 76 [.t 57,.t 62],oY 64 63] u51_43 0 8 [1,6]
abbrev u51_45:IC:=qE [oM 55 6,oK 56 55 .add 1,oM 6 56] [1,6]
abbrev u51_41:IC:=qB u51_42 u51_45 7 [1,6]
abbrev u51_38:IC:=qQ u51_39 u51_41 [1,6]
abbrev u51_37:IC:=qJ (.loop u51_38) 6 [1,6]
abbrev u51_36:IC:=qS [oI 6 0] u51_37 [1]
abbrev u51_51:IC:=qK .skip (.exit 8) (.t 69) [1,7,69]
abbrev u51_50:IC:=qS [oM 65 7,oF 66 1 0,oL 67 66,oH 68 67,oB 69 65 68 .lss] u51_51 [1,7]
abbrev u51_55:IC:=qS [oV 2 (.bool false)] .ret []
abbrev u51_54:IC:=qK u51_55 .skip (.t 79) [1,7,79]
abbrev u51_53:IC:=qP [oD 72 1 7,oF 73 1 0,oL 74 73,oM 75 7,oA 76 74 75 2,oD 77 76 2,oC 78 77 [.t 72,.t 77],oY 79 78] u51_54 0 8 [1,7]
abbrev u51_56:IC:=qE [oM 70 7,oK 71 70 .add 1,oM 7 71] [1,7]
abbrev u51_52:IC:=qB u51_53 u51_56 9 [1,7]
abbrev u51_49:IC:=qQ u51_50 u51_52 [1,7]
abbrev u51_48:IC:=qJ (.loop u51_49) 8 [1,7]
abbrev u51_47:IC:=qS [oI 7 0] u51_48 [1]
abbrev u51_57:IC:=qS [oV 2 (.bool true)] .ret []
abbrev u51_46:IC:=qQ u51_47 u51_57 [1]
abbrev u51_35:IC:=qQ u51_36 u51_46 [1]
abbrev u51_24:IC:=qQ u51_25 u51_35 [1]
abbrev u51_13:IC:=qQ u51_14 u51_24 [1]
abbrev u51_2:IC:=qQ u51_3 u51_13 [1]
abbrev u51_1:IC:=qS [oX 1 0,oV 2 (.bool false)] u51_2 [0]
def u51:IFn:=⟨80,u51_1,[.tmp 2]⟩
end
theorem isU51:IsFn Tryz.prog 51 u51:=by unfold IsFn;kernel_rfl
section
abbrev u52_7:IC:=qK .skip (.exit 0) (.t 12) [1,3,12]
abbrev u52_6:IC:=qS [oM 8 3,oF 9 1 0,oL 10 9,oH 11 10,oB 12 8 11 .lss] u52_7 [1,3]
abbrev u52_12:IC:=qS [oV 2 (.bool false)] .ret []
abbrev u52_11:IC:=qK u52_12 .skip (.t 41) [1,3,41]
abbrev u52_10:IC:=qP [oM 26 6,oK 27 26 .eql 7,oM 28 27,gF 29 1 0 28,gL 30 29 28,gM 31 3 28,oG 32 (.iad 2 (.t 30) (.t 31)) 28,gF 33 32 1 28,gL 34 33 28,gF 35 1 0 28,gL 36 35 28,oG 37 (.len (.t 36)) 28,gK 38 37 28 .sub 1,⟨some 39,.call 50 [.t 34,.k (.int .i64 0),.t 38],some (28,true)⟩,oG 40 (.un .not (.t 39)) 28,oJ 41 28 40] u52_11 0 16 [1,3,6]
abbrev u52_9:IC:=qS [oF 16 1 0,oL 17 16,oM 18 3,oA 19 17 18 2,oF 20 19 0,oL 21 20,oC 22 78 [.t 21],oM 15 22,oE 23 15 0,oE 24 15 1,oE 25 15 2,oM 4 23,oM 5 24,oM 6 25] u52_10 [1,3]
abbrev u52_13:IC:=qE [oM 13 3,oK 14 13 .add 1,oM 3 14] [1,3]
abbrev u52_8:IC:=qB u52_9 u52_13 1 [1,3]
abbrev u52_5:IC:=qQ u52_6 u52_8 [1,3]
abbrev u52_4:IC:=qJ (.loop u52_5) 0 [1,3]
abbrev u52_3:IC:=qS [oI 3 0] u52_4 [1]
abbrev u52_19:IC:=qK .skip (.exit 2) (.t 46) [1,7,46]
abbrev u52_18:IC:=qS [oM 42 7,oF 43 1 2,oL 44 43,oH 45 44,oB 46 42 45 .lss] u52_19 [1,7]
abbrev u52_23:IC:=qS [oV 2 (.bool false)] .ret []
abbrev u52_22:IC:=qK u52_23 .skip (.t 60) [1,7,60]
abbrev u52_21:IC:=qP [oF 49 1 2,oL 50 49,oM 51 7,oA 52 50 51 4,oF 53 52 3,oL 54 53,oF 55 1 0,oL 56 55,oH 57 56,oK 58 57 .sub 1,oC 59 50 [.t 54,.k (.int .i64 0),.t 58],oY 60 59] u52_22 0 12 [1,7]
abbrev u52_24:IC:=qE [oM 47 7,oK 48 47 .add 1,oM 7 48] [1,7]
abbrev u52_20:IC:=qB u52_21 u52_24 3 [1,7]
abbrev u52_17:IC:=qQ u52_18 u52_20 [1,7]
abbrev u52_16:IC:=qJ (.loop u52_17) 2 [1,7]
abbrev u52_15:IC:=qS [oI 7 0] u52_16 [1]
abbrev u52_25:IC:=qS [oV 2 (.bool true)] .ret []
abbrev u52_14:IC:=qQ u52_15 u52_25 [1]
abbrev u52_2:IC:=qQ u52_3 u52_14 [1]
abbrev u52_1:IC:=qS [oX 1 0,oV 2 (.bool false)] u52_2 [0]
def u52:IFn:=⟨61,u52_1,[.tmp 2]⟩
end
theorem isU52:IsFn Tryz.prog 52 u52:=by unfold IsFn;kernel_rfl
section
abbrev u79_8:IC:=qS [oV 6 (.slice none 0 0)] .ret []
abbrev u79_11:IC:=qS [oF 23 3 1,oL 24 23,oM 25 2,oP 26 (.bld #[.int .i64 0,.int .i64 0] [(0,1),(1,1)] [(0,.t 24),(1,.t 25)]),⟨some 27,.new (.bsl 2 1 #[.int .i64 0,.int .i64 0] [(0,.t 26)]),none⟩,oM 6 27] .ret [2,3]
abbrev u79_14:IC:=qS [oM 30 1,oK 31 30 .add 1,oM 32 2,oK 33 32 .sub 1,oP 34 (.bld #[.int .i64 0,.int .i64 0] [(0,1),(1,1)] [(0,.t 31),(1,.t 33)]),oF 35 3 1,oL 36 35,oM 37 2,oK 38 37 .sub 1,oP 39 (.bld #[.int .i64 0,.int .i64 0] [(0,1),(1,1)] [(0,.t 36),(1,.t 38)]),⟨some 40,.new (.bsl 2 2 #[.int .i64 0,.int .i64 0] [(0,.t 34),(1,.t 39)]),none⟩,oM 6 40] .ret [1,2,3]
abbrev u79_17:IC:=qS [oM 43 1,oK 44 43 .add 1,oM 45 2,oP 46 (.bld #[.int .i64 0,.int .i64 0] [(0,1),(1,1)] [(0,.t 44),(1,.t 45)]),oF 47 3 1,oL 48 47,oM 49 2,oK 50 49 .sub 1,oP 51 (.bld #[.int .i64 0,.int .i64 0] [(0,1),(1,1)] [(0,.t 48),(1,.t 50)]),⟨some 52,.new (.bsl 2 2 #[.int .i64 0,.int .i64 0] [(0,.t 46),(1,.t 51)]),none⟩,oM 6 52] .ret [1,2,3]
abbrev u79_16:IC:=qK u79_17 .skip (.t 41) [1,2,3,7,8,41]
abbrev u79_15:IC:=qS [oK 42 18 .eql 14,oM 41 42] u79_16 [1,2,3,7,8,18]
abbrev u79_13:IC:=qK u79_14 u79_15 (.t 28) [1,2,3,7,8,18,28]
abbrev u79_12:IC:=qS [oK 29 18 .eql 13,oM 28 29] u79_13 [1,2,3,7,8,18]
abbrev u79_10:IC:=qK u79_11 u79_12 (.t 21) [1,2,3,7,8,18,21]
abbrev u79_9:IC:=qS [oK 22 18 .eql 12,oM 21 22] u79_10 [1,2,3,7,8,18]
abbrev u79_7:IC:=qK u79_8 u79_9 (.t 19) [1,2,3,7,8,18,19]
abbrev u79_6:IC:=qS [oK 20 18 .eql 31,oM 19 20] u79_7 [1,2,3,7,8,18]
abbrev u79_5:IC:=qJ u79_6 0 [1,2,3,7,8,18]
abbrev u79_4:IC:=qS [oF 17 3 0,oL 18 17] u79_5 [1,2,3,7,8]
abbrev u79_18:IC:=qS [oM 53 1,oK 54 53 .add 1,oM 55 2,oM 56 7,oB 57 55 56 .sub,oM 58 8,oB 59 57 58 .add,oP 60 (.bld #[.int .i64 0,.int .i64 0] [(0,1),(1,1)] [(0,.t 54),(1,.t 59)]),⟨some 61,.new (.bsl 2 1 #[.int .i64 0,.int .i64 0] [(0,.t 60)]),none⟩,oM 6 61] .ret [1,2,7,8]
abbrev u79_3:IC:=qQ u79_4 u79_18 [1,2,3,7,8]
abbrev u79_2:IC:=qS [oF 11 3 0,oL 12 11,oC 13 78 [.t 12],oM 10 13,oE 14 10 0,oE 15 10 1,oE 16 10 2,oM 7 14,oM 8 15,oM 9 16] u79_3 [1,2,3]
abbrev u79_1:IC:=qS [oX 3 0,oV 6 (.slice none 0 0)] u79_2 [0,1,2]
def u79:IFn:=⟨62,u79_1,[.tmp 6]⟩
end
theorem isU79:IsFn Tryz.prog 79 u79:=by unfold IsFn;kernel_rfl
section
abbrev u54_8:IC:=qK .skip (.exit 0) (.t 20) [1,4,5,20]
abbrev u54_7:IC:=qS [oM 17 5,oM 18 4,oH 19 18,oB 20 17 19 .lss] u54_8 [1,4,5]
abbrev u54_10:IC:=qE [oM 23 4,oM 24 5,oA 25 23 24 1,⟨none,.eff (.st 1 (.t 25) (.k (.int .i64 (-1)))),none⟩] [1,4,5]
abbrev u54_11:IC:=qE [oM 21 5,oK 22 21 .add 1,oM 5 22] [1,4,5]
abbrev u54_9:IC:=qB u54_10 u54_11 1 [1,4,5]
abbrev u54_6:IC:=qQ u54_7 u54_9 [1,4,5]
abbrev u54_5:IC:=qJ (.loop u54_6) 0 [1,4,5]
abbrev u54_4:IC:=qS [oI 5 0] u54_5 [1,4]
abbrev u54_18:IC:=qK .skip (.exit 2) (.t 30) [1,4,6,7,30]
abbrev u54_17:IC:=qS [oM 26 7,oF 27 1 2,oL 28 27,oH 29 28,oB 30 26 29 .lss] u54_18 [1,4,6,7]
abbrev u54_20:IC:=qE [oM 33 6,oF 34 1 2,oL 35 34,oM 36 7,oA 37 35 36 4,oF 38 37 3,oL 39 38,oP 40 (.bld #[.int .i64 0,.int .i64 0] [(0,1),(1,1)] [(0,.t 39),(1,.k (.int .i64 0))]),⟨some 41,.new (.bsl 2 1 #[.int .i64 0,.int .i64 0] [(0,.t 40)]),none⟩,oT 42 33 41 2 16,oM 6 42] [1,4,6,7]
abbrev u54_21:IC:=qE [oM 31 7,oK 32 31 .add 1,oM 7 32] [1,4,6,7]
abbrev u54_19:IC:=qB u54_20 u54_21 3 [1,4,6,7]
abbrev u54_16:IC:=qQ u54_17 u54_19 [1,4,6,7]
abbrev u54_15:IC:=qJ (.loop u54_16) 2 [1,4,6,7]
abbrev u54_14:IC:=qS [oI 7 0] u54_15 [1,4,6]
abbrev u54_25:IC:=qK .skip (.exit 4) (.t 45) [1,4,6,45]
abbrev u54_24:IC:=qS [oM 43 6,oH 44 43,oK 45 44 .gtr 0] u54_25 [1,4,6]
abbrev u54_32:IC:=qS [oV 2 (.slice none 0 0),oV 3 (.bool false)] .ret []
abbrev u54_31:IC:=qK u54_32 .skip (.t 66) [1,4,6,8,66]
abbrev u54_30:IC:=qS [oF 57 8 0,oL 58 57,oM 59 4,oH 60 59,oB 61 58 60 .geq,oM 62 61,hF 63 8 1 62,hL 64 63 62,hK 65 64 62 .gtr 48,oO 66 62 65] u54_31 [1,4,6,8]
abbrev u54_39:IC:=qS [oV 2 (.slice none 0 0),oV 3 (.bool false)] .ret []
abbrev u54_38:IC:=qK u54_39 .skip (.t 80) [1,4,6,80]
abbrev u54_37:IC:=qP [oM 73 4,oF 74 8 0,oL 75 74,oA 76 73 75 1,oL 77 76,oF 78 8 1,oL 79 78,oB 80 77 79 .neq] u54_38 0 8 [1,4,6,8]
abbrev u54_36:IC:=qQ u54_37 (.exit 5) [1,4,6,8]
abbrev u54_35:IC:=qK u54_36 .skip (.t 72) [1,4,6,8,72]
abbrev u54_34:IC:=qS [oM 67 4,oF 68 8 0,oL 69 68,oA 70 67 69 1,oL 71 70,oK 72 71 .geq 0] u54_35 [1,4,6,8]
abbrev u54_46:IC:=qS [oV 2 (.slice none 0 0),oV 3 (.bool false)] .ret []
abbrev u54_45:IC:=qK u54_46 .skip (.t 113) [1,4,6,8,9,113]
abbrev u54_44:IC:=qS [oM 100 10,oF 101 8 1,oL 102 101,oB 103 100 102 .gtr,oM 104 103,hF 105 9 0 104,hL 106 105 104,hK 107 106 104 .eql 31,hM 108 107 104,gF 109 8 1 108,gL 110 109 108,gK 111 110 108 .neq 0,oR 112 (.pick (.t 108) (.t 111) (.k (.bool false))) 104,oO 113 104 112] u54_45 [1,4,6,8,9,10]
abbrev u54_43:IC:=qS [oF 94 9 0,oL 95 94,oC 96 78 [.t 95],oM 93 96,oE 97 93 0,oE 98 93 1,oE 99 93 2,oM 10 97,oM 11 98,oM 12 99] u54_44 [1,4,6,8,9]
abbrev u54_47:IC:=qE [oM 114 6,oD 115 9 2,oF 116 8 0,oL 117 116,oF 118 8 1,oL 119 118,oC 120 79 [.t 115,.t 117,.t 119],oT 121 114 120 2 16,oM 6 121] [1,4,6,8,9]
abbrev u54_42:IC:=qQ u54_43 u54_47 [1,4,6,8,9]
abbrev u54_41:IC:=qS [oF 87 1 0,oL 88 87,oF 89 8 0,oL 90 89,oA 91 88 90 2,oD 92 91 2,oW 9 (.agg #[.int .i64 0,.int .i64 0]),oS 9 92 2] u54_42 [1,4,6,8]
abbrev u54_40:IC:=qS [oM 81 4,oF 82 8 0,oL 83 82,oF 84 8 1,oL 85 84,oA 86 81 83 1,oS 86 85 1] u54_41 [1,4,6,8]
abbrev u54_33:IC:=qQ u54_34 u54_40 [1,4,6,8]
abbrev u54_29:IC:=qQ u54_30 u54_33 [1,4,6,8]
abbrev u54_28:IC:=qS [oM 52 6,oM 53 6,oH 54 53,oK 55 54 .sub 1,oP 56 (.slc 2 (.t 52) none (some (.t 55))),oM 6 56] u54_29 [1,4,6,8]
abbrev u54_27:IC:=qS [oM 46 6,oM 47 6,oH 48 47,oK 49 48 .sub 1,oA 50 46 49 2,oD 51 50 2,oW 8 (.agg #[.int .i64 0,.int .i64 0]),oS 8 51 2] u54_28 [1,4,6]
abbrev u54_26:IC:=qJ u54_27 5 [1,4,6]
abbrev u54_23:IC:=qQ u54_24 u54_26 [1,4,6]
abbrev u54_48:IC:=qS [oM 122 4,oM 2 122,oV 3 (.bool true)] .ret [4]
abbrev u54_22:IC:=qB (.loop u54_23) u54_48 4 [1,4,6]
abbrev u54_13:IC:=qQ u54_14 u54_22 [1,4,6]
abbrev u54_12:IC:=qS [oV 6 (.slice none 0 0)] u54_13 [1,4]
abbrev u54_3:IC:=qQ u54_4 u54_12 [1,4]
abbrev u54_2:IC:=qS [oF 13 1 0,oL 14 13,oH 15 14,⟨some 16,.new (.msl 1 8 #[.int .i64 0] (.t 15) (.t 15)),none⟩,oM 4 16] u54_3 [1]
abbrev u54_1:IC:=qS [oX 1 0,oV 2 (.slice none 0 0),oV 3 (.bool false)] u54_2 [0]
def u54:IFn:=⟨123,u54_1,[.tmp 2,.tmp 3]⟩
end
theorem isU54:IsFn Tryz.prog 54 u54:=by unfold IsFn;kernel_rfl
section
abbrev u34_5:IC:=qS [oI 2 9] .ret []
abbrev u34_4:IC:=qK u34_5 .skip (.t 45) [1,45]
abbrev u34_3:IC:=qS [oF 6 1 0,oL 7 6,oH 8 7,oK 9 8 .gtr 4000,oM 10 9,hF 11 1 1 10,hL 12 11 10,oR 13 (.len (.t 12)) 10,hK 14 13 10 .gtr 200,oO 15 10 14,oM 16 15,hF 17 1 2 16,hL 18 17 16,oR 19 (.len (.t 18)) 16,hK 20 19 16 .gtr 512,oO 21 16 20,oM 22 21,hF 23 1 3 22,hL 24 23 22,oR 25 (.len (.t 24)) 22,hK 26 25 22 .gtr 16,oO 27 22 26,oM 28 27,hF 29 1 4 28,hL 30 29 28,oR 31 (.len (.t 30)) 28,hK 32 31 28 .gtr 128,oO 33 28 32,oM 34 33,hF 35 1 5 34,hL 36 35 34,⟨some 37,.call 50 [.t 36,.k (.int .i64 0),.k (.int .i64 128)],some (34,false)⟩,oR 38 (.un .not (.t 37)) 34,oO 39 34 38,oM 40 39,hF 41 1 6 40,hL 42 41 40,⟨some 43,.call 50 [.t 42,.k (.int .i64 0),.k (.int .i64 128)],some (40,false)⟩,oR 44 (.un .not (.t 43)) 40,oO 45 40 44] u34_4 [1]
abbrev u34_9:IC:=qS [oI 2 51] .ret []
abbrev u34_8:IC:=qK u34_9 .skip (.t 48) [1,48]
abbrev u34_7:IC:=qS [oD 46 1 7,oC 47 51 [.t 46],oY 48 47] u34_8 [1]
abbrev u34_13:IC:=qS [oI 2 54] .ret []
abbrev u34_12:IC:=qK u34_13 .skip (.t 51) [1,51]
abbrev u34_11:IC:=qS [oD 49 1 7,oC 50 52 [.t 49],oY 51 50] u34_12 [1]
abbrev u34_19:IC:=qK .skip (.exit 0) (.t 56) [1,3,56]
abbrev u34_18:IC:=qS [oM 52 3,oF 53 1 2,oL 54 53,oH 55 54,oB 56 52 55 .lss] u34_19 [1,3]
abbrev u34_23:IC:=qS [oI 2 66] .ret []
abbrev u34_22:IC:=qK u34_23 .skip (.t 71) [1,3,71]
abbrev u34_21:IC:=qP [oF 59 1 2,oL 60 59,oM 61 3,oK 62 61 .sub 1,oA 63 60 62 4,oD 64 63 4,oF 65 1 2,oL 66 65,oM 67 3,oA 68 66 67 4,oD 69 68 4,oC 70 53 [.t 64,.t 69],oY 71 70] u34_22 0 13 [1,3]
abbrev u34_24:IC:=qE [oM 57 3,oK 58 57 .add 1,oM 3 58] [1,3]
abbrev u34_20:IC:=qB u34_21 u34_24 1 [1,3]
abbrev u34_17:IC:=qQ u34_18 u34_20 [1,3]
abbrev u34_16:IC:=qJ (.loop u34_17) 0 [1,3]
abbrev u34_15:IC:=qS [oI 3 1] u34_16 [1]
abbrev u34_29:IC:=qS [oI 2 53] .ret []
abbrev u34_28:IC:=qK u34_29 .skip (.t 78) [78]
abbrev u34_27:IC:=qS [oM 77 5,oY 78 77] u34_28 [5]
abbrev u34_26:IC:=qS [oD 73 1 7,oC 74 54 [.t 73],oM 72 74,oE 75 72 0,oE 76 72 1,oM 4 75,oM 5 76] u34_27 [1]
abbrev u34_30:IC:=qS [oI 2 0] .ret []
abbrev u34_25:IC:=qQ u34_26 u34_30 [1]
abbrev u34_14:IC:=qQ u34_15 u34_25 [1]
abbrev u34_10:IC:=qQ u34_11 u34_14 [1]
abbrev u34_6:IC:=qQ u34_7 u34_10 [1]
abbrev u34_2:IC:=qQ u34_3 u34_6 [1]
abbrev u34_1:IC:=qS [oX 1 0,oI 2 0] u34_2 [0]
def u34:IFn:=⟨79,u34_1,[.tmp 2]⟩
end
theorem isU34:IsFn Tryz.prog 34 u34:=by unfold IsFn;kernel_rfl
section
abbrev u11_5:IC:=qS [oV 4 (.bool false)] .ret []
abbrev u11_4:IC:=qK u11_5 .skip (.t 10) [0,1,10]
abbrev u11_3:IC:=qS [oM 6 0,oH 7 6,oM 8 1,oH 9 8,oB 10 7 9 .neq] u11_4 [0,1]
abbrev u11_11:IC:=qK .skip (.exit 0) (.t 14) [0,1,5,14]
abbrev u11_10:IC:=qS [oM 11 5,oM 12 0,oH 13 12,oB 14 11 13 .lss] u11_11 [0,1,5]
abbrev u11_15:IC:=qS [oV 4 (.bool false)] .ret []
abbrev u11_14:IC:=qK u11_15 .skip (.t 25) [0,1,5,25]
abbrev u11_13:IC:=qP [oM 17 0,oM 18 5,oA 19 17 18 1,oL 20 19,oM 21 1,oM 22 5,oA 23 21 22 1,oL 24 23,oB 25 20 24 .neq] u11_14 0 9 [0,1,5]
abbrev u11_16:IC:=qE [oM 15 5,oK 16 15 .add 1,oM 5 16] [0,1,5]
abbrev u11_12:IC:=qB u11_13 u11_16 1 [0,1,5]
abbrev u11_9:IC:=qQ u11_10 u11_12 [0,1,5]
abbrev u11_8:IC:=qJ (.loop u11_9) 0 [0,1,5]
abbrev u11_7:IC:=qS [oI 5 0] u11_8 [0,1]
abbrev u11_17:IC:=qS [oV 4 (.bool true)] .ret []
abbrev u11_6:IC:=qQ u11_7 u11_17 [0,1]
abbrev u11_2:IC:=qQ u11_3 u11_6 [0,1]
abbrev u11_1:IC:=qS [oV 4 (.bool false)] u11_2 [0,1]
def u11:IFn:=⟨26,u11_1,[.tmp 4]⟩
end
theorem isU11:IsFn Tryz.prog 11 u11:=by unfold IsFn;kernel_rfl
end Go.Proofs.YtcallbfckjlagaaGreat
namespace Go.Proofs.YtcallbfckjlagaaGreat
open Go.Eng (IC IOper DReg IFn IsFn)
open Go.Sym Go.Pb
theorem c_in (n lo hi:Int):PC Tryz.prog 50 [I64 n,I64 lo,I64 hi] (.bool (inM n lo hi)):=by
 refine PC.of mixedU isU50 (Nat.le_of_ble_eq_true rfl) (by simp [DV.nlL,DV.nl,nlL_ints,nlL_strs,nlL_instrs,nlL_entries,nlL_stp]) (by simp [DV.nlL,DV.nl,nlL_ints,nlL_strs,nlL_instrs,nlL_entries,nlL_stp]) ?_
 show IW Tryz.prog 15 u50_1 ⟨argT _,_,_⟩ (rt [.tmp 6] _)
 repeat' ((with_reducible first|refine wr ?_|refine wb2 ?_ ?_<;>(intro hb;try simp only [hb])|fail)<;>try simp only [go_sem,seval])
 all_goals (refine pc_ret ?_;simp_all [inM]<;>omega)
theorem c_less (a b:Ent):PC Tryz.prog 53 [a.v,b.v] (.bool (lessM a b)):=by
 refine PC.of mixedU isU53 (Nat.le_of_ble_eq_true rfl) (by simp [DV.nlL,DV.nl,nlL_ints,nlL_strs,nlL_instrs,nlL_entries,nlL_stp]) (by simp [DV.nlL,DV.nl,nlL_ints,nlL_strs,nlL_instrs,nlL_entries,nlL_stp]) ?_
 show IW Tryz.prog 30 u53_1 ⟨argT _,_,_⟩ (rt [.tmp 4] _)
 repeat' ((with_reducible first|refine wr ?_|refine wb2 ?_ ?_<;>(intro hb;try simp only [hb])|fail)<;>try simp only [go_sem,seval])
 all_goals (refine pc_ret ?_;simp_all [lessM])
theorem c_eff (op:Int):PC Tryz.prog 78 [I64 op] (.tup [I64 (effM op).1,I64 (effM op).2.1,I64 (effM op).2.2]):=by
 refine PC.of mixedU isU78 (Nat.le_of_ble_eq_true rfl) (by simp [DV.nlL,DV.nl,nlL_ints,nlL_strs,nlL_instrs,nlL_entries,nlL_stp]) (by simp [DV.nlL,DV.nl,nlL_ints,nlL_strs,nlL_instrs,nlL_entries,nlL_stp]) ?_
 show IW Tryz.prog 60 u78_1 ⟨argT _,_,_⟩ (rt [.tmp 2,.tmp 3,.tmp 4] _)
 repeat' ((with_reducible first|refine wr ?_|refine wb2 ?_ ?_<;>(intro hb;try simp only [hb])|fail)<;>try simp only [go_sem,seval])
 all_goals (refine pc_ret ?_;simp_all [effM])
theorem c_printable (s:List UInt8) (hs:s.length≤140737488355328):PC Tryz.prog 75 [.str s] (.bool (printM s)):=by
 refine PC.of mixedU isU75 (Nat.le_of_ble_eq_true rfl) (by simp [DV.nlL,DV.nl,nlL_ints,nlL_strs,nlL_instrs,nlL_entries,nlL_stp]) (by simp [DV.nlL,DV.nl,nlL_ints,nlL_strs,nlL_instrs,nlL_entries,nlL_stp]) ?_
 show IW Tryz.prog 23 u75_1 ⟨argT _,_,_⟩ (rt [.tmp 2] _)
 repeat' ((with_reducible first|refine wr ?_|refine wb2 ?_ ?_<;>(intro hb;try simp only [hb])|fail)<;>try simp only [go_sem,seval])
 refine i_loop (fun k:Nat=>[(0,.str s),(3,I64 k)]) (fun _=>nil) (fun k _=>k≤s.length∧(s.take k).all printB=true) (fun k=>s.length-k) 0 (by simp [tmLe,tm,Tm.upd]) (Sub.nil _) (by simp) ?_
 rintro k c ⟨hk,he⟩
 by_cases hlt:k<s.length
 ·have hd:decide ((k:Int)<s.length)=true:=by simpa using hlt
  have hg:=List.getElem?_eq_getElem hlt
  have hw:=w64 (n:=(k:Int)+1) (by omega) (by omega)
  repeat' ((with_reducible first|refine wr ?_|refine wb2 ?_ ?_<;>(intro hb;try simp only [hb])|fail)<;>try simp only [go_sem,seval,hd,hg,hw])
  ·refine pc_ret ?_
   rw [printM,all_fail printB s k _ hg (by simp_all [printB];omega)];rfl
  ·refine pc_ret ?_
   rw [printM,all_fail printB s k _ hg (by simp_all [printB];omega)];rfl
  ·exact ⟨k+1,rfl,Sub.refl _,inv ⟨by omega,by rw [all_take printB s k _ hg he];simp_all [printB];omega⟩,by omega⟩
 ·have hd:decide ((k:Int)<s.length)=false:=by simpa using hlt
  repeat' ((with_reducible first|refine wr ?_|refine wb2 ?_ ?_<;>(intro hb;try simp only [hb])|fail)<;>try simp only [go_sem,seval,hd])
  refine pc_ret ?_
  rw [printM,all_done printB s k (by omega) he,Bool.true_and];simp;omega
theorem c_entry (c:Prg) (hl:Lim c) (e:Ent):PC Tryz.prog 76 [c.v,e.v] (.bool (entryM c e)):=by
 obtain ⟨wp,wv,ws,wi,wt,we, -, -, -, -, -⟩:=hl
 refine PC.of mixedU isU76 (Nat.le_of_ble_eq_true rfl) (by simp [DV.nlL,DV.nl,nlL_ints,nlL_strs,nlL_instrs,nlL_entries,nlL_stp]) (by simp [DV.nlL,DV.nl,nlL_ints,nlL_strs,nlL_instrs,nlL_entries,nlL_stp]) ?_
 show IW Tryz.prog 43 u76_1 ⟨argT _,_,_⟩ (rt [.tmp 4] _)
 repeat' ((with_reducible first|refine wr ?_|refine cpc (c_in _ _ _) ?_|refine wb2 ?_ ?_<;>(intro hb;try simp only [hb])|fail)<;>try simp only [go_sem,seval,wp,wt,we])
 all_goals (refine pc_ret ?_;simp_all [entryM]<;>rfl)
theorem c_number (c:Prg) (hl:Lim c) (i:Ins):PC Tryz.prog 77 [c.v,i.v] (.bool (numberM c i)):=by
 obtain ⟨wp,wv,ws,wi,wt,we, -, -, -, -, -⟩:=hl
 refine PC.of mixedU isU77 (Nat.le_of_ble_eq_true rfl) (by simp [DV.nlL,DV.nl,nlL_ints,nlL_strs,nlL_instrs,nlL_entries,nlL_stp]) (by simp [DV.nlL,DV.nl,nlL_ints,nlL_strs,nlL_instrs,nlL_entries,nlL_stp]) ?_
 show IW Tryz.prog 87 u77_1 ⟨argT _,_,_⟩ (rt [.tmp 4] _)
 repeat' ((with_reducible first|refine wr ?_|refine cpc (c_in _ _ _) ?_|refine cpc (c_eff _) ?_|refine wb2 ?_ ?_<;>(intro hb;try simp only [hb])|fail)<;>try simp only [go_sem,seval,wp,wv,ws,wt,we])
 all_goals (refine pc_ret ?_;simp_all [numberM,kindM]<;>rfl)
theorem c_jumps (c:Prg) (hl:Lim c):PC Tryz.prog 52 [c.v] (.bool (jumpsM c)):=by
 obtain ⟨wp,wv,ws,wi,wt,we,li,ls,le,lp,lv⟩:=hl
 refine PC.of mixedU isU52 (Nat.le_of_ble_eq_true rfl) (by simp [DV.nlL,DV.nl,nlL_ints,nlL_strs,nlL_instrs,nlL_entries,nlL_stp]) (by simp [DV.nlL,DV.nl,nlL_ints,nlL_strs,nlL_instrs,nlL_entries,nlL_stp]) ?_
 show IW Tryz.prog 61 u52_1 ⟨argT _,_,_⟩ (rt [.tmp 2] _)
 repeat' ((with_reducible first|refine wr ?_|refine wb2 ?_ ?_<;>(intro hb;try simp only [hb])|fail)<;>try simp only [go_sem,seval])
 refine i_loop (fun k:Nat=>[(1,.ptr 0 0),(3,I64 k)]) (fun _=>nil.upd 0 ⟨0,true,c.cs⟩) (fun k cc=>1≤cc∧k≤c.instrs.length∧(c.instrs.take k).all (jumpI c)=true) (fun k=>c.instrs.length-k) 0 (by simp [tmLe,tm,Tm.upd]) (Sub.refl _) (by simp<;>omega) ?_
 rintro k cc ⟨h1c,hk,he⟩
 by_cases hlt:k<c.instrs.length
 ·have hd:decide ((k:Int)<c.instrs.length)=true:=by simpa using hlt
  have hg:=List.getElem?_eq_getElem hlt
  have hw:=w64 (n:=(k:Int)+1) (by omega) (by omega)
  repeat' ((with_reducible first|refine wr ?_|refine cpc (c_eff _) ?_|refine cpc (c_in _ _ _) ?_|refine wb2 ?_ ?_<;>(intro hb;try simp only [hb])|fail)<;>try simp only [go_sem,seval,hd,hg,hw,wi])
  all_goals first
   | (refine pc_ret ?_;have hf:=all_fail (jumpI c) c.instrs k _ hg (by simp_all [jumpI]);simp [jumpsM,hf])
   | exact ⟨k+1,rfl,by first|exact Sub.refl _|(intro j b hj;simp only [Hp.upd,nil] at hj ⊢;split at hj<;>simp_all<;>omega),inv ⟨by omega,by omega,by rw [all_take (jumpI c) c.instrs k _ hg he];simp_all [jumpI]⟩,by omega⟩
 have hd:decide ((k:Int)<c.instrs.length)=false:=by simpa using hlt
 have hall:=all_done (jumpI c) c.instrs k (by omega) he
 clear he hk
 repeat' ((with_reducible first|refine wr ?_|refine cpc (c_eff _) ?_|refine cpc (c_in _ _ _) ?_|refine wb2 ?_ ?_<;>(intro hb;try simp only [hb])|fail)<;>try simp only [go_sem,seval,hd,wi])
 clear hlt hd
 refine i_loop (fun k:Nat=>[(1,.ptr 0 0),(7,I64 k)]) (fun _=>nil.upd 0 ⟨0,true,c.cs⟩) (fun k cc=>1≤cc∧k≤c.entries.length∧(c.entries.take k).all (jumpE c)=true) (fun k=>c.entries.length-k) 0 (by simp [tmLe,tm,Tm.upd]) (Sub.refl _) (by simp<;>omega) ?_
 rintro k cc ⟨h1c,hk,he⟩
 by_cases hlt:k<c.entries.length
 ·have hd:decide ((k:Int)<c.entries.length)=true:=by simpa using hlt
  have hg:=List.getElem?_eq_getElem hlt
  have hw:=w64 (n:=(k:Int)+1) (by omega) (by omega)
  repeat' ((with_reducible first|refine wr ?_|refine cpc (c_eff _) ?_|refine cpc (c_in _ _ _) ?_|refine wb2 ?_ ?_<;>(intro hb;try simp only [hb])|fail)<;>try simp only [go_sem,seval,hd,hg,hw,wi])
  all_goals first
   | (refine pc_ret ?_;have hf:=all_fail (jumpE c) c.entries k _ hg (by simp_all [jumpE]);simp [jumpsM,hf])
   | exact ⟨k+1,rfl,by first|exact Sub.refl _|(intro j b hj;simp only [Hp.upd,nil] at hj ⊢;split at hj<;>simp_all<;>omega),inv ⟨by omega,by omega,by rw [all_take (jumpE c) c.entries k _ hg he];simp_all [jumpE]⟩,by omega⟩
 have hd:decide ((k:Int)<c.entries.length)=false:=by simpa using hlt
 have hall:=all_done (jumpE c) c.entries k (by omega) he
 clear he hk
 repeat' ((with_reducible first|refine wr ?_|refine cpc (c_eff _) ?_|refine cpc (c_in _ _ _) ?_|refine wb2 ?_ ?_<;>(intro hb;try simp only [hb])|fail)<;>try simp only [go_sem,seval,hd,wi])
 clear hlt hd
 refine pc_ret ?_
 simp_all [jumpsM]
theorem c_parts (c:Prg) (hl:Lim c) (hs:∀ s∈c.strings,s.length≤140737488355328):PC Tryz.prog 51 [c.v] (.bool (partsM c)):=by
 have hl0:=hl
 obtain ⟨wp,wv,ws,wi,wt,we,li,ls,le,lp,lv⟩:=hl
 refine PC.of mixedU isU51 (Nat.le_of_ble_eq_true rfl) (by simp [DV.nlL,DV.nl,nlL_ints,nlL_strs,nlL_instrs,nlL_entries,nlL_stp]) (by simp [DV.nlL,DV.nl,nlL_ints,nlL_strs,nlL_instrs,nlL_entries,nlL_stp]) ?_
 show IW Tryz.prog 80 u51_1 ⟨argT _,_,_⟩ (rt [.tmp 2] _)
 repeat' ((with_reducible first|refine wr ?_|refine wb2 ?_ ?_<;>(intro hb;try simp only [hb])|fail)<;>try simp only [go_sem,seval])
 refine i_loop (fun k:Nat=>[(1,.ptr 0 0),(3,I64 k)]) (fun _=>nil.upd 0 ⟨0,true,c.cs⟩) (fun k cc=>1≤cc∧k≤c.strings.length∧(c.strings.take k).all printM=true) (fun k=>c.strings.length-k) 0 (by simp [tmLe,tm,Tm.upd]) (Sub.refl _) (by simp<;>omega) ?_
 rintro k cc ⟨h1c,hk,he⟩
 by_cases hlt:k<c.strings.length
 ·have hd:decide ((k:Int)<c.strings.length)=true:=by simpa using hlt
  have hg:=List.getElem?_eq_getElem hlt
  have hw:=w64 (n:=(k:Int)+1) (by omega) (by omega)
  repeat' ((with_reducible first|refine wr ?_|refine cpc (c_printable _ (hs _ (List.getElem_mem _))) ?_|refine wb2 ?_ ?_<;>(intro hb;try simp only [hb])|fail)<;>try simp only [go_sem,seval,hd,hg,hw])
  all_goals first
   | (refine pc_ret ?_;have hf:=all_fail printM c.strings k _ hg (by simp_all []);simp [partsM,hf])
   | exact ⟨k+1,rfl,by first|exact Sub.refl _|(intro j b hj;simp only [Hp.upd,nil] at hj ⊢;split at hj<;>simp_all<;>omega),inv ⟨by omega,by omega,by rw [all_take printM c.strings k _ hg he];simp_all []⟩,by omega⟩
 have hd:decide ((k:Int)<c.strings.length)=false:=by simpa using hlt
 have hall:=all_done printM c.strings k (by omega) he
 clear he hk
 repeat' ((with_reducible first|refine wr ?_|refine cpc (c_printable _ (hs _ (List.getElem_mem _))) ?_|refine wb2 ?_ ?_<;>(intro hb;try simp only [hb])|fail)<;>try simp only [go_sem,seval,hd])
 clear hlt hd
 refine i_loop (fun k:Nat=>[(1,.ptr 0 0),(4,I64 k)]) (fun _=>nil.upd 0 ⟨0,true,c.cs⟩) (fun k cc=>1≤cc∧k≤c.prios.length∧(c.prios.take k).all (fun n=>inM n 0 99)=true) (fun k=>c.prios.length-k) 0 (by simp [tmLe,tm,Tm.upd]) (Sub.refl _) (by simp<;>omega) ?_
 rintro k cc ⟨h1c,hk,he⟩
 by_cases hlt:k<c.prios.length
 ·have hd:decide ((k:Int)<c.prios.length)=true:=by simpa using hlt
  have hg:=List.getElem?_eq_getElem hlt
  have hw:=w64 (n:=(k:Int)+1) (by omega) (by omega)
  repeat' ((with_reducible first|refine wr ?_|refine cpc (c_in _ _ _) ?_|refine wb2 ?_ ?_<;>(intro hb;try simp only [hb])|fail)<;>try simp only [go_sem,seval,hd,hg,hw])
  all_goals first
   | (refine pc_ret ?_;have hf:=all_fail (fun n=>inM n 0 99) c.prios k _ hg (by simp_all []);simp [partsM,hf])
   | exact ⟨k+1,rfl,by first|exact Sub.refl _|(intro j b hj;simp only [Hp.upd,nil] at hj ⊢;split at hj<;>simp_all<;>omega),inv ⟨by omega,by omega,by rw [all_take (fun n=>inM n 0 99) c.prios k _ hg he];simp_all []⟩,by omega⟩
 have hd:decide ((k:Int)<c.prios.length)=false:=by simpa using hlt
 have hall:=all_done (fun n=>inM n 0 99) c.prios k (by omega) he
 clear he hk
 repeat' ((with_reducible first|refine wr ?_|refine cpc (c_in _ _ _) ?_|refine wb2 ?_ ?_<;>(intro hb;try simp only [hb])|fail)<;>try simp only [go_sem,seval,hd])
 clear hlt hd
 refine i_loop (fun k:Nat=>[(1,.ptr 0 0),(5,I64 k)]) (fun _=>nil.upd 0 ⟨0,true,c.cs⟩) (fun k cc=>1≤cc∧k≤c.vars.length∧(c.vars.take k).all (fun n=>inM n (-2147483647) 2147483647)=true) (fun k=>c.vars.length-k) 0 (by simp [tmLe,tm,Tm.upd]) (Sub.refl _) (by simp<;>omega) ?_
 rintro k cc ⟨h1c,hk,he⟩
 by_cases hlt:k<c.vars.length
 ·have hd:decide ((k:Int)<c.vars.length)=true:=by simpa using hlt
  have hg:=List.getElem?_eq_getElem hlt
  have hw:=w64 (n:=(k:Int)+1) (by omega) (by omega)
  repeat' ((with_reducible first|refine wr ?_|refine cpc (c_in _ _ _) ?_|refine wb2 ?_ ?_<;>(intro hb;try simp only [hb])|fail)<;>try simp only [go_sem,seval,hd,hg,hw])
  all_goals first
   | (refine pc_ret ?_;have hf:=all_fail (fun n=>inM n (-2147483647) 2147483647) c.vars k _ hg (by simp_all []);simp [partsM,hf])
   | exact ⟨k+1,rfl,by first|exact Sub.refl _|(intro j b hj;simp only [Hp.upd,nil] at hj ⊢;split at hj<;>simp_all<;>omega),inv ⟨by omega,by omega,by rw [all_take (fun n=>inM n (-2147483647) 2147483647) c.vars k _ hg he];simp_all []⟩,by omega⟩
 have hd:decide ((k:Int)<c.vars.length)=false:=by simpa using hlt
 have hall:=all_done (fun n=>inM n (-2147483647) 2147483647) c.vars k (by omega) he
 clear he hk
 repeat' ((with_reducible first|refine wr ?_|refine cpc (c_in _ _ _) ?_|refine wb2 ?_ ?_<;>(intro hb;try simp only [hb])|fail)<;>try simp only [go_sem,seval,hd])
 clear hlt hd
 refine i_loop (fun k:Nat=>[(1,.ptr 0 0),(6,I64 k)]) (fun _=>nil.upd 0 ⟨0,true,c.cs⟩) (fun k cc=>1≤cc∧k≤c.entries.length∧(c.entries.take k).all (entryM c)=true) (fun k=>c.entries.length-k) 0 (by simp [tmLe,tm,Tm.upd]) (Sub.refl _) (by simp<;>omega) ?_
 rintro k cc ⟨h1c,hk,he⟩
 by_cases hlt:k<c.entries.length
 ·have hd:decide ((k:Int)<c.entries.length)=true:=by simpa using hlt
  have hg:=List.getElem?_eq_getElem hlt
  have hw:=w64 (n:=(k:Int)+1) (by omega) (by omega)
  repeat' ((with_reducible first|refine wr ?_|refine cpc (c_entry c hl0 _) ?_|refine wb2 ?_ ?_<;>(intro hb;try simp only [hb])|fail)<;>try simp only [go_sem,seval,hd,hg,hw])
  all_goals first
   | (refine pc_ret ?_;have hf:=all_fail (entryM c) c.entries k _ hg (by simp_all []);simp [partsM,hf])
   | exact ⟨k+1,rfl,by first|exact Sub.refl _|(intro j b hj;simp only [Hp.upd,nil] at hj ⊢;split at hj<;>simp_all<;>omega),inv ⟨by omega,by omega,by rw [all_take (entryM c) c.entries k _ hg he];simp_all []⟩,by omega⟩
 have hd:decide ((k:Int)<c.entries.length)=false:=by simpa using hlt
 have hall:=all_done (entryM c) c.entries k (by omega) he
 clear he hk
 repeat' ((with_reducible first|refine wr ?_|refine cpc (c_entry c hl0 _) ?_|refine wb2 ?_ ?_<;>(intro hb;try simp only [hb])|fail)<;>try simp only [go_sem,seval,hd])
 clear hlt hd
 refine i_loop (fun k:Nat=>[(1,.ptr 0 0),(7,I64 k)]) (fun _=>nil.upd 0 ⟨0,true,c.cs⟩) (fun k cc=>1≤cc∧k≤c.instrs.length∧(c.instrs.take k).all (numberM c)=true) (fun k=>c.instrs.length-k) 0 (by simp [tmLe,tm,Tm.upd]) (Sub.refl _) (by simp<;>omega) ?_
 rintro k cc ⟨h1c,hk,he⟩
 by_cases hlt:k<c.instrs.length
 ·have hd:decide ((k:Int)<c.instrs.length)=true:=by simpa using hlt
  have hg:=List.getElem?_eq_getElem hlt
  have hw:=w64 (n:=(k:Int)+1) (by omega) (by omega)
  repeat' ((with_reducible first|refine wr ?_|refine cpc (c_number c hl0 _) ?_|refine wb2 ?_ ?_<;>(intro hb;try simp only [hb])|fail)<;>try simp only [go_sem,seval,hd,hg,hw])
  all_goals first
   | (refine pc_ret ?_;have hf:=all_fail (numberM c) c.instrs k _ hg (by simp_all []);simp [partsM,hf])
   | exact ⟨k+1,rfl,by first|exact Sub.refl _|(intro j b hj;simp only [Hp.upd,nil] at hj ⊢;split at hj<;>simp_all<;>omega),inv ⟨by omega,by omega,by rw [all_take (numberM c) c.instrs k _ hg he];simp_all []⟩,by omega⟩
 have hd:decide ((k:Int)<c.instrs.length)=false:=by simpa using hlt
 have hall:=all_done (numberM c) c.instrs k (by omega) he
 clear he hk
 repeat' ((with_reducible first|refine wr ?_|refine cpc (c_number c hl0 _) ?_|refine wb2 ?_ ?_<;>(intro hb;try simp only [hb])|fail)<;>try simp only [go_sem,seval,hd])
 clear hlt hd
 refine pc_ret ?_
 simp_all [partsM]
end Go.Proofs.YtcallbfckjlagaaGreat
namespace Go.Proofs.YtcallbfckjlagaaGreat
open Go.Eng (IC IOper DReg IFn IsFn)
open Go.Sym Go.Pb
theorem c_within (n lo hi:Int):PC Tryz.prog 98 [I64 n,I64 lo,I64 hi] (.bool (inM n lo hi)):=by
 refine PC.of mixedU isU98 (Nat.le_of_ble_eq_true rfl) (by simp [DV.nlL,DV.nl,nlL_ints,nlL_strs,nlL_instrs,nlL_entries,nlL_stp]) (by simp [DV.nlL,DV.nl,nlL_ints,nlL_strs,nlL_instrs,nlL_entries,nlL_stp]) ?_
 show IW Tryz.prog 15 u98_1 ⟨argT _,_,_⟩ (rt [.tmp 6] _)
 repeat' ((with_reducible first|refine wr ?_|refine wb2 ?_ ?_<;>(intro hb;try simp only [hb])|fail)<;>try simp only [go_sem,seval])
 all_goals (refine pc_ret ?_;simp_all [inM]<;>omega)
theorem c_bless (a b:Ent):PC Tryz.prog 73 [a.v,b.v] (.bool (lessM a b)):=by
 refine PC.of mixedU isU73 (Nat.le_of_ble_eq_true rfl) (by simp [DV.nlL,DV.nl,nlL_ints,nlL_strs,nlL_instrs,nlL_entries,nlL_stp]) (by simp [DV.nlL,DV.nl,nlL_ints,nlL_strs,nlL_instrs,nlL_entries,nlL_stp]) ?_
 show IW Tryz.prog 30 u73_1 ⟨argT _,_,_⟩ (rt [.tmp 4] _)
 repeat' ((with_reducible first|refine wr ?_|refine wb2 ?_ ?_<;>(intro hb;try simp only [hb])|fail)<;>try simp only [go_sem,seval])
 all_goals (refine pc_ret ?_;simp_all [lessM])
theorem c_isText (s:List UInt8) (hs:s.length≤140737488355328):PC Tryz.prog 101 [.str s] (.bool (printM s)):=by
 refine PC.of mixedU isU101 (Nat.le_of_ble_eq_true rfl) (by simp [DV.nlL,DV.nl,nlL_ints,nlL_strs,nlL_instrs,nlL_entries,nlL_stp]) (by simp [DV.nlL,DV.nl,nlL_ints,nlL_strs,nlL_instrs,nlL_entries,nlL_stp]) ?_
 show IW Tryz.prog 23 u101_1 ⟨argT _,_,_⟩ (rt [.tmp 2] _)
 repeat' ((with_reducible first|refine wr ?_|refine wb2 ?_ ?_<;>(intro hb;try simp only [hb])|fail)<;>try simp only [go_sem,seval])
 refine i_loop (fun k:Nat=>[(0,.str s),(3,I64 k)]) (fun _=>nil) (fun k _=>k≤s.length∧(s.take k).all printB=true) (fun k=>s.length-k) 0 (by simp [tmLe,tm,Tm.upd]) (Sub.nil _) (by simp) ?_
 rintro k c ⟨hk,he⟩
 by_cases hlt:k<s.length
 ·have hd:decide ((k:Int)<s.length)=true:=by simpa using hlt
  have hg:=List.getElem?_eq_getElem hlt
  have hw:=w64 (n:=(k:Int)+1) (by omega) (by omega)
  repeat' ((with_reducible first|refine wr ?_|refine wb2 ?_ ?_<;>(intro hb;try simp only [hb])|fail)<;>try simp only [go_sem,seval,hd,hg,hw])
  ·refine pc_ret ?_
   rw [printM,all_fail printB s k _ hg (by simp_all [printB];omega)];rfl
  ·refine pc_ret ?_
   rw [printM,all_fail printB s k _ hg (by simp_all [printB];omega)];rfl
  ·exact ⟨k+1,rfl,Sub.refl _,inv ⟨by omega,by rw [all_take printB s k _ hg he];simp_all [printB];omega⟩,by omega⟩
 ·have hd:decide ((k:Int)<s.length)=false:=by simpa using hlt
  repeat' ((with_reducible first|refine wr ?_|refine wb2 ?_ ?_<;>(intro hb;try simp only [hb])|fail)<;>try simp only [go_sem,seval,hd])
  refine pc_ret ?_
  rw [printM,all_done printB s k (by omega) he,Bool.true_and];simp;omega
theorem c_goodEntry (c:Prg) (hl:Lim c) (e:Ent):PC Tryz.prog 105 [c.v,e.v] (.bool (entryM c e)):=by
 obtain ⟨wp,wv,ws,wi,wt,we, -, -, -, -, -⟩:=hl
 refine PC.of mixedU isU105 (Nat.le_of_ble_eq_true rfl) (by simp [DV.nlL,DV.nl,nlL_ints,nlL_strs,nlL_instrs,nlL_entries,nlL_stp]) (by simp [DV.nlL,DV.nl,nlL_ints,nlL_strs,nlL_instrs,nlL_entries,nlL_stp]) ?_
 show IW Tryz.prog 43 u105_1 ⟨argT _,_,_⟩ (rt [.tmp 4] _)
 repeat' ((with_reducible first|refine wr ?_|refine cpc (c_within _ _ _) ?_|refine wb2 ?_ ?_<;>(intro hb;try simp only [hb])|fail)<;>try simp only [go_sem,seval,wp,wt,we])
 all_goals (refine pc_ret ?_;simp_all [entryM]<;>rfl)
theorem c_isJ (op:Int):PC Tryz.prog 107 [I64 op] (.bool (isJ op)):=by
 refine PC.of mixedU isU107 (Nat.le_of_ble_eq_true rfl) (by simp [DV.nlL,DV.nl,nlL_ints,nlL_strs,nlL_instrs,nlL_entries,nlL_stp]) (by simp [DV.nlL,DV.nl,nlL_ints,nlL_strs,nlL_instrs,nlL_entries,nlL_stp]) ?_
 show IW Tryz.prog 13 u107_1 ⟨argT _,_,_⟩ (rt [.tmp 2] _)
 repeat' ((with_reducible first|refine wr ?_|refine wb2 ?_ ?_<;>(intro hb;try simp only [hb])|fail)<;>try simp only [go_sem,seval])
 all_goals (refine pc_ret ?_;simp_all [isJ]<;>rfl)
theorem c_stack (op:Int):PC Tryz.prog 110 [I64 op] (.tup [I64 (effM op).1,I64 (effM op).2.1]):=by
 refine PC.of mixedU isU110 (Nat.le_of_ble_eq_true rfl) (by simp [DV.nlL,DV.nl,nlL_ints,nlL_strs,nlL_instrs,nlL_entries,nlL_stp]) (by simp [DV.nlL,DV.nl,nlL_ints,nlL_strs,nlL_instrs,nlL_entries,nlL_stp]) ?_
 show IW Tryz.prog 28 u110_1 ⟨argT _,_,_⟩ (rt [.tmp 2,.tmp 3] _)
 repeat' ((with_reducible first|refine wr ?_|refine wb2 ?_ ?_<;>(intro hb;try simp only [hb])|fail)<;>try simp only [go_sem,seval])
 all_goals first
  | (simp only [beq_iff_eq] at hb;subst hb;exact pc_ret rfl)
  | (simp only [beq_eq_false_iff_ne,ne_eq] at *;refine pc_ret ?_;rw [(eff0 ‹_› ‹_› ‹_› ‹_› ‹_› ‹_› ‹_› ‹_› ‹_› ‹_› ‹_› ‹_› ‹_› ‹_› ‹_› ‹_› ‹_› ‹_›).1,(eff0 ‹_› ‹_› ‹_› ‹_› ‹_› ‹_› ‹_› ‹_› ‹_› ‹_› ‹_› ‹_› ‹_› ‹_› ‹_› ‹_› ‹_› ‹_›).2])
theorem c_span (c:Prg) (hl:Lim c) (op:Int):PC Tryz.prog 106 [c.v,I64 op] (.tup [I64 (spanM c op).1,I64 (spanM c op).2]):=by
 obtain ⟨wp,wv,ws,wi,wt,we, -, -, -, -, -⟩:=hl
 refine PC.of mixedU isU106 (Nat.le_of_ble_eq_true rfl) (by simp [DV.nlL,DV.nl,nlL_ints,nlL_strs,nlL_instrs,nlL_entries,nlL_stp]) (by simp [DV.nlL,DV.nl,nlL_ints,nlL_strs,nlL_instrs,nlL_entries,nlL_stp]) ?_
 show IW Tryz.prog 64 u106_1 ⟨argT _,_,_⟩ (rt [.tmp 4,.tmp 5] _)
 repeat' ((with_reducible first|refine wr ?_|refine wb2 ?_ ?_<;>(intro hb;try simp only [hb])|fail)<;>try simp only [go_sem,seval,wp,wv,ws,wt,we])
 all_goals first
  | (simp only [beq_iff_eq] at hb;subst hb;refine pc_ret ?_;simp [spanM];done)
  | (refine pc_ret ?_;simp_all [spanM])
theorem c_IF_str {g:(List UInt8)→Bool} {f:Nat} {a cs:List DV} (xs:List (List UInt8)) (hx:xs.length≤9223372036854775807) (na:DV.nlL a=true) (ncs:DV.nlL cs=true) (hf:∀ x∈xs,PC Tryz.prog f (a++[DV.str x]++cs) (.bool (g x))) :
  PC Tryz.prog 135 [.lst (xs.map DV.str),.func f a cs] (I64 (idxM g xs 0)):=by
 refine PC.of mixedU isU135 (Nat.le_of_ble_eq_true rfl) (by simp [DV.nlL,DV.nl,nlL_strs,nlL_ints,nlL_entries,na,ncs]) rfl ?_
 show IW Tryz.prog 19 u135_1 ⟨argT _,_,_⟩ (rt [.tmp 4] _)
 repeat' ((with_reducible first|refine wr ?_|refine wb2 ?_ ?_<;>(intro hb;try simp only [hb])|fail)<;>try simp only [go_sem,seval])
 refine i_loop (fun k:Nat=>[(0,.lst (xs.map DV.str)),(1,.func f a cs),(7,I64 xs.length),(8,I64 k)]) (fun _=>nil) (fun k _=>k≤xs.length∧idxM g xs 0=idxM g (xs.drop k) k) (fun k=>xs.length-k) 0 (by simp [tmLe,tm,Tm.upd]) (Sub.nil _) (by simp) ?_
 rintro k c ⟨hk,he⟩
 by_cases hlt:k<xs.length
 ·have hd:decide ((k:Int)<xs.length)=true:=by simpa using hlt
  have hg:=List.getElem?_eq_getElem hlt
  have hw:=w64 (n:=(k:Int)+1) (by omega) (by omega)
  have hst:=idxM_step (g:=g) hg
  have hc:=hf xs[k] (List.getElem_mem hlt)
  repeat' ((with_reducible first|refine wr ?_|refine cpc hc ?_|refine wb2 ?_ ?_<;>(intro hb;try simp only [hb])|fail)<;>try simp only [go_sem,seval,hd,hg,hw])
  ·refine pc_ret ?_
   rw [he,hst,hb];rfl
  ·exact ⟨k+1,rfl,Sub.refl _,inv ⟨by omega,by rw [he,hst,hb];rfl⟩,by omega⟩
 ·have hd:decide ((k:Int)<xs.length)=false:=by simpa using hlt
  repeat' ((with_reducible first|refine wr ?_|refine wb2 ?_ ?_<;>(intro hb;try simp only [hb])|fail)<;>try simp only [go_sem,seval,hd])
  refine pc_ret ?_
  rw [he,idxM_end (by omega)]
theorem c_CF_str {g:(List UInt8)→Bool} {f:Nat} {a cs:List DV} (xs:List (List UInt8)) (hx:xs.length≤9223372036854775807) (na:DV.nlL a=true) (ncs:DV.nlL cs=true) (hf:∀ x∈xs,PC Tryz.prog f (a++[DV.str x]++cs) (.bool (g x))) :
  PC Tryz.prog 99 [.lst (xs.map DV.str),.func f a cs] (.bool (xs.any g)):=by
 refine PC.of mixedU isU99 (Nat.le_of_ble_eq_true rfl) (by simp [DV.nlL,DV.nl,nlL_strs,nlL_ints,nlL_entries,na,ncs]) rfl ?_
 show IW Tryz.prog 9 u99_1 ⟨argT _,_,_⟩ (rt [.tmp 4] _)
 have hc:=c_IF_str xs hx na ncs hf
 repeat' ((with_reducible first|refine wr ?_|refine cpc hc ?_|refine wb2 ?_ ?_<;>(intro hb;try simp only [hb])|fail)<;>try simp only [go_sem,seval])
 refine pc_ret ?_
 rw [idxM_any]
theorem c_IF_int {g:Int→Bool} {f:Nat} {a cs:List DV} (xs:List Int) (hx:xs.length≤9223372036854775807) (na:DV.nlL a=true) (ncs:DV.nlL cs=true) (hf:∀ x∈xs,PC Tryz.prog f (a++[I64 x]++cs) (.bool (g x))) :
  PC Tryz.prog 49 [.lst (xs.map I64),.func f a cs] (I64 (idxM g xs 0)):=by
 refine PC.of mixedU isU49 (Nat.le_of_ble_eq_true rfl) (by simp [DV.nlL,DV.nl,nlL_strs,nlL_ints,nlL_entries,na,ncs]) rfl ?_
 show IW Tryz.prog 19 u49_1 ⟨argT _,_,_⟩ (rt [.tmp 4] _)
 repeat' ((with_reducible first|refine wr ?_|refine wb2 ?_ ?_<;>(intro hb;try simp only [hb])|fail)<;>try simp only [go_sem,seval])
 refine i_loop (fun k:Nat=>[(0,.lst (xs.map I64)),(1,.func f a cs),(7,I64 xs.length),(8,I64 k)]) (fun _=>nil) (fun k _=>k≤xs.length∧idxM g xs 0=idxM g (xs.drop k) k) (fun k=>xs.length-k) 0 (by simp [tmLe,tm,Tm.upd]) (Sub.nil _) (by simp) ?_
 rintro k c ⟨hk,he⟩
 by_cases hlt:k<xs.length
 ·have hd:decide ((k:Int)<xs.length)=true:=by simpa using hlt
  have hg:=List.getElem?_eq_getElem hlt
  have hw:=w64 (n:=(k:Int)+1) (by omega) (by omega)
  have hst:=idxM_step (g:=g) hg
  have hc:=hf xs[k] (List.getElem_mem hlt)
  repeat' ((with_reducible first|refine wr ?_|refine cpc hc ?_|refine wb2 ?_ ?_<;>(intro hb;try simp only [hb])|fail)<;>try simp only [go_sem,seval,hd,hg,hw])
  ·refine pc_ret ?_
   rw [he,hst,hb];rfl
  ·exact ⟨k+1,rfl,Sub.refl _,inv ⟨by omega,by rw [he,hst,hb];rfl⟩,by omega⟩
 ·have hd:decide ((k:Int)<xs.length)=false:=by simpa using hlt
  repeat' ((with_reducible first|refine wr ?_|refine wb2 ?_ ?_<;>(intro hb;try simp only [hb])|fail)<;>try simp only [go_sem,seval,hd])
  refine pc_ret ?_
  rw [he,idxM_end (by omega)]
theorem c_CF_int {g:Int→Bool} {f:Nat} {a cs:List DV} (xs:List Int) (hx:xs.length≤9223372036854775807) (na:DV.nlL a=true) (ncs:DV.nlL cs=true) (hf:∀ x∈xs,PC Tryz.prog f (a++[I64 x]++cs) (.bool (g x))) :
  PC Tryz.prog 33 [.lst (xs.map I64),.func f a cs] (.bool (xs.any g)):=by
 refine PC.of mixedU isU33 (Nat.le_of_ble_eq_true rfl) (by simp [DV.nlL,DV.nl,nlL_strs,nlL_ints,nlL_entries,na,ncs]) rfl ?_
 show IW Tryz.prog 9 u33_1 ⟨argT _,_,_⟩ (rt [.tmp 4] _)
 have hc:=c_IF_int xs hx na ncs hf
 repeat' ((with_reducible first|refine wr ?_|refine cpc hc ?_|refine wb2 ?_ ?_<;>(intro hb;try simp only [hb])|fail)<;>try simp only [go_sem,seval])
 refine pc_ret ?_
 rw [idxM_any]
theorem c_IF_ent {g:Ent→Bool} {f:Nat} {a cs:List DV} (xs:List Ent) (hx:xs.length≤9223372036854775807) (na:DV.nlL a=true) (ncs:DV.nlL cs=true) (hf:∀ x∈xs,PC Tryz.prog f (a++[Ent.v x]++cs) (.bool (g x))) :
  PC Tryz.prog 55 [.lst (xs.map Ent.v),.func f a cs] (I64 (idxM g xs 0)):=by
 refine PC.of mixedU isU55 (Nat.le_of_ble_eq_true rfl) (by simp [DV.nlL,DV.nl,nlL_strs,nlL_ints,nlL_entries,na,ncs]) rfl ?_
 show IW Tryz.prog 19 u55_1 ⟨argT _,_,_⟩ (rt [.tmp 4] _)
 repeat' ((with_reducible first|refine wr ?_|refine wb2 ?_ ?_<;>(intro hb;try simp only [hb])|fail)<;>try simp only [go_sem,seval])
 refine i_loop (fun k:Nat=>[(0,.lst (xs.map Ent.v)),(1,.func f a cs),(7,I64 xs.length),(8,I64 k)]) (fun _=>nil) (fun k _=>k≤xs.length∧idxM g xs 0=idxM g (xs.drop k) k) (fun k=>xs.length-k) 0 (by simp [tmLe,tm,Tm.upd]) (Sub.nil _) (by simp) ?_
 rintro k c ⟨hk,he⟩
 by_cases hlt:k<xs.length
 ·have hd:decide ((k:Int)<xs.length)=true:=by simpa using hlt
  have hg:=List.getElem?_eq_getElem hlt
  have hw:=w64 (n:=(k:Int)+1) (by omega) (by omega)
  have hst:=idxM_step (g:=g) hg
  have hc:=hf xs[k] (List.getElem_mem hlt)
  repeat' ((with_reducible first|refine wr ?_|refine cpc hc ?_|refine wb2 ?_ ?_<;>(intro hb;try simp only [hb])|fail)<;>try simp only [go_sem,seval,hd,hg,hw])
  ·refine pc_ret ?_
   rw [he,hst,hb];rfl
  ·exact ⟨k+1,rfl,Sub.refl _,inv ⟨by omega,by rw [he,hst,hb];rfl⟩,by omega⟩
 ·have hd:decide ((k:Int)<xs.length)=false:=by simpa using hlt
  repeat' ((with_reducible first|refine wr ?_|refine wb2 ?_ ?_<;>(intro hb;try simp only [hb])|fail)<;>try simp only [go_sem,seval,hd])
  refine pc_ret ?_
  rw [he,idxM_end (by omega)]
theorem c_CF_ent {g:Ent→Bool} {f:Nat} {a cs:List DV} (xs:List Ent) (hx:xs.length≤9223372036854775807) (na:DV.nlL a=true) (ncs:DV.nlL cs=true) (hf:∀ x∈xs,PC Tryz.prog f (a++[Ent.v x]++cs) (.bool (g x))) :
  PC Tryz.prog 36 [.lst (xs.map Ent.v),.func f a cs] (.bool (xs.any g)):=by
 refine PC.of mixedU isU36 (Nat.le_of_ble_eq_true rfl) (by simp [DV.nlL,DV.nl,nlL_strs,nlL_ints,nlL_entries,na,ncs]) rfl ?_
 show IW Tryz.prog 9 u36_1 ⟨argT _,_,_⟩ (rt [.tmp 4] _)
 have hc:=c_IF_ent xs hx na ncs hf
 repeat' ((with_reducible first|refine wr ?_|refine cpc hc ?_|refine wb2 ?_ ?_<;>(intro hb;try simp only [hb])|fail)<;>try simp only [go_sem,seval])
 refine pc_ret ?_
 rw [idxM_any]
end Go.Proofs.YtcallbfckjlagaaGreat
namespace Go.Proofs.YtcallbfckjlagaaGreat
open Go.Eng (IC IOper DReg IFn IsFn)
open Go.Sym Go.Pb
theorem c_limits (c:Prg):PC Tryz.prog 70 [c.v] (.bool (limitsM c)):=by
 refine PC.of mixedU isU70 (Nat.le_of_ble_eq_true rfl) (by simp [DV.nlL,DV.nl,nlL_ints,nlL_strs,nlL_instrs,nlL_entries,nlL_stp]) (by simp [DV.nlL,DV.nl,nlL_ints,nlL_strs,nlL_instrs,nlL_entries,nlL_stp]) ?_
 show IW Tryz.prog 41 u70_1 ⟨argT _,_,_⟩ (rt [.tmp 2] _)
 repeat' ((with_reducible first|refine wr ?_|refine cpc (c_within _ _ _) ?_|refine wb2 ?_ ?_<;>(intro hb;try simp only [hb])|fail)<;>try simp only [go_sem,seval])
 all_goals (refine pc_ret ?_;simp_all [limitsM]<;>omega)
theorem c_p1 (s:List UInt8) (hs:s.length≤140737488355328):PC Tryz.prog 100 [.str s] (.bool (!printM s)):=by
 refine PC.of mixedU isU100 (Nat.le_of_ble_eq_true rfl) (by simp [DV.nlL,DV.nl,nlL_ints,nlL_strs,nlL_instrs,nlL_entries,nlL_stp]) (by simp [DV.nlL,DV.nl,nlL_ints,nlL_strs,nlL_instrs,nlL_entries,nlL_stp]) ?_
 show IW Tryz.prog 6 u100_1 ⟨argT _,_,_⟩ (rt [.tmp 2] _)
 repeat' ((with_reducible first|refine wr ?_|refine cpc (c_isText s hs) ?_|refine wb2 ?_ ?_<;>(intro hb;try simp only [hb])|fail)<;>try simp only [go_sem,seval])
 exact pc_ret rfl
theorem c_p2 (n:Int):PC Tryz.prog 102 [I64 n] (.bool (!inM n 0 99)):=by
 refine PC.of mixedU isU102 (Nat.le_of_ble_eq_true rfl) (by simp [DV.nlL,DV.nl,nlL_ints,nlL_strs,nlL_instrs,nlL_entries,nlL_stp]) (by simp [DV.nlL,DV.nl,nlL_ints,nlL_strs,nlL_instrs,nlL_entries,nlL_stp]) ?_
 show IW Tryz.prog 6 u102_1 ⟨argT _,_,_⟩ (rt [.tmp 2] _)
 repeat' ((with_reducible first|refine wr ?_|refine cpc (c_within _ _ _) ?_|refine wb2 ?_ ?_<;>(intro hb;try simp only [hb])|fail)<;>try simp only [go_sem,seval])
 exact pc_ret rfl
theorem c_p3 (n:Int):PC Tryz.prog 103 [I64 n] (.bool (!inM n (-2147483647) 2147483647)):=by
 refine PC.of mixedU isU103 (Nat.le_of_ble_eq_true rfl) (by simp [DV.nlL,DV.nl,nlL_ints,nlL_strs,nlL_instrs,nlL_entries,nlL_stp]) (by simp [DV.nlL,DV.nl,nlL_ints,nlL_strs,nlL_instrs,nlL_entries,nlL_stp]) ?_
 show IW Tryz.prog 6 u103_1 ⟨argT _,_,_⟩ (rt [.tmp 2] _)
 repeat' ((with_reducible first|refine wr ?_|refine cpc (c_within _ _ _) ?_|refine wb2 ?_ ?_<;>(intro hb;try simp only [hb])|fail)<;>try simp only [go_sem,seval])
 exact pc_ret rfl
theorem c_p4 (c:Prg) (hl:Lim c) (e:Ent):PC Tryz.prog 104 [e.v,.fptr c.cs] (.bool (!entryM c e)):=by
 refine PC.of mixedU isU104 (Nat.le_of_ble_eq_true rfl) (by simp [DV.nlL,DV.nl,nlL_ints,nlL_strs,nlL_instrs,nlL_entries,nlL_stp]) (by simp [DV.nlL,DV.nl,nlL_ints,nlL_strs,nlL_instrs,nlL_entries,nlL_stp]) ?_
 show IW Tryz.prog 8 u104_1 ⟨argT _,_,_⟩ (rt [.tmp 3] _)
 repeat' ((with_reducible first|refine wr ?_|refine cpc (c_goodEntry c hl e) ?_|refine wb2 ?_ ?_<;>(intro hb;try simp only [hb])|fail)<;>try simp only [go_sem,seval])
 exact pc_ret rfl
theorem c_t1 (c:Prg) (hl:Lim c) (e:Ent):PC Tryz.prog 108 [e.v,.fptr c.cs] (.bool (!jumpE c e)):=by
 obtain ⟨wp,wv,ws,wi,wt,we,li,ls,le,lp,lv⟩:=hl
 refine PC.of mixedU isU108 (Nat.le_of_ble_eq_true rfl) (by simp [DV.nlL,DV.nl,nlL_ints,nlL_strs,nlL_instrs,nlL_entries,nlL_stp]) (by simp [DV.nlL,DV.nl,nlL_ints,nlL_strs,nlL_instrs,nlL_entries,nlL_stp]) ?_
 show IW Tryz.prog 12 u108_1 ⟨argT _,_,_⟩ (rt [.tmp 3] _)
 repeat' ((with_reducible first|refine wr ?_|refine cpc (c_within _ _ _) ?_|refine wb2 ?_ ?_<;>(intro hb;try simp only [hb])|fail)<;>try simp only [go_sem,seval,wi])
 exact pc_ret rfl
theorem g_cap (c:Prg) (fn:Nat) (l:List DV):GL (nil.upd 0 ⟨0,true,c.cs⟩) [.lst l,.func fn [] [.ptr 0 0]] nil [.lst l,.func fn [] [.fptr c.cs]] :=
 GL.one (b:=⟨0,true,c.cs⟩) rfl rfl (.cons _ _ _ _ (.same _) (.cons _ _ _ _ (.func _ _ _ _ _ .nil (.cons _ _ _ _ (.ptr 0 c.cs (Nat.zero_le _) rfl) .nil)) .nil))
theorem c_targets (c:Prg) (hl:Lim c):PC Tryz.prog 72 [c.v] (.bool (jumpsM c)):=by
 have hl0:=hl
 obtain ⟨wp,wv,ws,wi,wt,we,li,ls,le,lp,lv⟩:=hl
 have cf:=c_CF_ent (a:=[]) (cs:=[.fptr c.cs]) c.entries (by omega) rfl (by simp [DV.nlL,DV.nl,nlL_ints,nlL_strs,nlL_instrs,nlL_entries]) (fun e _=>c_t1 c hl0 e)
 rw [any_not] at cf
 refine PC.of mixedU isU72 (Nat.le_of_ble_eq_true rfl) (by simp [DV.nlL,DV.nl,nlL_ints,nlL_strs,nlL_instrs,nlL_entries,nlL_stp]) (by simp [DV.nlL,DV.nl,nlL_ints,nlL_strs,nlL_instrs,nlL_entries,nlL_stp]) ?_
 show IW Tryz.prog 31 u72_1 ⟨argT _,_,_⟩ (rt [.tmp 2] _)
 repeat' ((with_reducible first|refine wr ?_|refine wb2 ?_ ?_<;>(intro hb;try simp only [hb])|fail)<;>try simp only [go_sem,seval])
 refine i_loop (fun k:Nat=>[(1,.ptr 0 0),(6,inssV c.instrs),(7,I64 c.instrs.length),(8,I64 k)]) (fun _=>nil.upd 0 ⟨0,true,c.cs⟩) (fun k cc=>1≤cc∧k≤c.instrs.length∧(c.instrs.take k).all (jumpI c)=true) (fun k=>c.instrs.length-k) 0 (by simp [tmLe,tm,Tm.upd]) (Sub.refl _) (by simp) ?_
 rintro k cc ⟨h1c,hk,he⟩
 have ne0:=nes2 0 cc (by omega)
 by_cases hlt:k<c.instrs.length
 ·have hd:decide ((k:Int)<c.instrs.length)=true:=by simpa using hlt
  have hg:=List.getElem?_eq_getElem hlt
  have hw:=w64 (n:=(k:Int)+1) (by omega) (by omega)
  repeat' ((with_reducible first|refine wr ?_|refine cpc (c_isJ _) ?_|refine cpc (c_within _ _ _) ?_|refine wb2 ?_ ?_<;>(intro hb;try simp only [hb])|fail)<;>try simp only [go_sem,seval,hd,hg,hw,wi,ne0])
  ·refine pc_ret ?_
   have hf:=all_fail (jumpI c) c.instrs k _ hg (by rw [jumpI, ← isJ_kind];simp_all)
   simp [jumpsM,hf]
  all_goals exact ⟨k+1,rfl,by (intro j b hj;simp only [Hp.upd,Hp.del,Sym.nil,baseH,optH] at hj ⊢;(repeat' split at hj)<;>(repeat' split)<;>first|exact hj|(exfalso;omega)|cases hj),inv ⟨by omega,by omega,by rw [all_take (jumpI c) _ k _ hg he,jumpI, ← isJ_kind];simp_all⟩,by omega⟩
 ·have hd:decide ((k:Int)<c.instrs.length)=false:=by simpa using hlt
  have hall:=all_done (jumpI c) c.instrs k (by omega) he
  repeat' ((first|(with_reducible first|refine wr ?_)|(with_reducible refine wb2 ?_ ?_<;>(intro hb;try simp only [hb]))|((with_reducible refine AC.call (PC.lend cf rfl (g_cap c _ _)) ?_);rintro _ _ _ ⟨rfl,rfl,rfl⟩ -)|fail)<;>try simp only [go_sem,seval,hd])
  refine pc_ret ?_
  simp [jumpsM,hall]
theorem c_bparts (c:Prg) (hl:Lim c) (hs:∀ s∈c.strings,s.length≤140737488355328):PC Tryz.prog 71 [c.v] (.bool (partsM c)):=by
 have hl0:=hl
 obtain ⟨wp,wv,ws,wi,wt,we,li,ls,le,lp,lv⟩:=hl
 have cf1:=c_CF_str (g:=fun s => !printM s) (a:=[]) (cs:=[]) c.strings (by omega) rfl rfl (fun s h=>c_p1 s (hs s h))
 have cf2:=c_CF_int (g:=fun n => !inM n 0 99) (a:=[]) (cs:=[]) c.prios (by omega) rfl rfl (fun n _=>c_p2 n)
 have cf3:=c_CF_int (g:=fun n => !inM n (-2147483647) 2147483647) (a:=[]) (cs:=[]) c.vars (by omega) rfl rfl (fun n _=>c_p3 n)
 have cf4:=c_CF_ent (g:=fun e => !entryM c e) (a:=[]) (cs:=[.fptr c.cs]) c.entries (by omega) rfl (by simp [DV.nlL,DV.nl,nlL_ints,nlL_strs,nlL_instrs,nlL_entries]) (fun e _=>c_p4 c hl0 e)
 rw [any_not] at cf1 cf2 cf3 cf4
 have main:∀ (b:Bool) (cc:Nat),1≤cc→b = !(c.strings.all printM && c.prios.all (fun n=>inM n 0 99) && c.vars.all (fun n=>inM n (-2147483647) 2147483647) && c.entries.all (entryM c)) →
   IW Tryz.prog 59 (.loop u71_6) ⟨tm [(1,.ptr 0 0),(3,.bool b),(28,inssV c.instrs),(29,I64 c.instrs.length),(30,I64 0)],nil.upd 0 ⟨0,true,c.cs⟩,cc⟩ (bk 0 (sq Tryz.prog 59 u71_13 (rt [.tmp 2] fun v H' x => ∃ H2,GL H' [v] H2 [.bool (partsM c)]))):=by
  intro b cc h1c hbG
  refine i_loop (fun k:Nat=>[(1,.ptr 0 0),(3,.bool (b || !(c.instrs.take k).all (numberM c))),(28,inssV c.instrs),(29,I64 c.instrs.length),(30,I64 k)]) (fun _=>nil.upd 0 ⟨0,true,c.cs⟩) (fun k cc=>1≤cc∧k≤c.instrs.length) (fun k=>c.instrs.length-k) 0 (by simp [tmLe,tm,Tm.upd]) (Sub.refl _) (by simp;omega) ?_
  rintro k cc ⟨h1c,hk⟩
  have ne0:=nes2 0 cc (by omega)
  by_cases hlt:k<c.instrs.length
  ·have hd:decide ((k:Int)<c.instrs.length)=true:=by simpa using hlt
   have hg:=List.getElem?_eq_getElem hlt
   have hw:=w64 (n:=(k:Int)+1) (by omega) (by omega)
   have hta:=all_take' (numberM c) c.instrs k _ hg
   rw [number_span] at hta
   clear hbG
   generalize hB:(b || !(c.instrs.take k).all (numberM c))=B
   repeat' ((with_reducible first|refine wr ?_|refine cpc (c_isJ _) ?_|refine cpc (c_within _ _ _) ?_|refine cpc (c_span c hl0 _) ?_|refine wb2 ?_ ?_<;>(intro hb;try simp only [hb])|fail)<;>try simp only [go_sem,seval,hd,hg,hw,ne0])
   all_goals exact ⟨k+1,by rw [hta,step_bad,hB];simp_all,by (intro j b hj;simp only [Hp.upd,Hp.del,Sym.nil,baseH,optH] at hj ⊢;(repeat' split at hj)<;>(repeat' split)<;>first|exact hj|(exfalso;omega)|cases hj),inv ⟨by omega,hlt⟩,by omega⟩
  ·have hd:decide ((k:Int)<c.instrs.length)=false:=by simpa using hlt
   repeat' ((with_reducible first|refine wr ?_|refine wb2 ?_ ?_<;>(intro hb;try simp only [hb])|fail)<;>try simp only [go_sem,seval,hd])
   refine pc_ret ?_
   rw [List.take_of_length_le (by omega)]
   simp only [partsM,hbG]
   simp only [Bool.not_or,Bool.not_not]
 refine PC.of mixedU isU71 (Nat.le_of_ble_eq_true rfl) (by simp [DV.nlL,DV.nl,nlL_ints,nlL_strs,nlL_instrs,nlL_entries,nlL_stp]) (by simp [DV.nlL,DV.nl,nlL_ints,nlL_strs,nlL_instrs,nlL_entries,nlL_stp]) ?_
 show IW Tryz.prog 59 u71_1 ⟨argT _,_,_⟩ (rt [.tmp 2] _)
 repeat' ((first|(with_reducible first|refine wr ?_|refine cpc cf1 ?_|refine cpc cf2 ?_|refine cpc cf3 ?_)|(with_reducible refine wb2 ?_ ?_<;>(intro hb;try simp only [hb]))|((with_reducible refine AC.call (PC.lend cf4 rfl (g_cap c _ _)) ?_);rintro _ _ _ ⟨rfl,rfl,rfl⟩ -)|fail)<;>try simp only [go_sem,seval])
 all_goals (refine main _ _ (by omega) ?_;simp only [Bool.not_eq_true',Bool.not_eq_false'] at *;simp only [*,Bool.and_true,Bool.true_and,Bool.false_and,Bool.and_false,Bool.not_true,Bool.not_false])
end Go.Proofs.YtcallbfckjlagaaGreat
namespace Go.Proofs.YtcallbfckjlagaaGreat
open Go.Eng (IC IOper DReg IFn IsFn)
open Go.Sym Go.Pb
theorem c_reach (c:Prg) (h:List Int) (wk:List Nat) (o:Option Nat) (junk:List DV) (H:Hp) (cc:Nat) (p:Nat) (x:Int) (hS:WkS c h wk o junk H cc) (hw:wk.length≤100000) :
  AC Tryz.prog 109 [I64 (p:Int),I64 x,.ptr 2 0,.ptr 3 0] H cc (fun v H' c'=>match reachM h wk p x with
   | none=>v=.bool false
   | some (h',wk')=>v=.bool true∧∃ o' junk',WkS c h' wk' o' junk' H' c'∧∀ j,4≤j→j<cc→o≠some j→H' j=H j):=by
 obtain ⟨h0,h1,h2,h3,hn,hs,hc⟩:=hS
 refine AC.body mixedU isU109 (Nat.le_of_ble_eq_true rfl) fun hfr=>?_
 show IW Tryz.prog 43 u109_1 ⟨argT _,_,_⟩ (rt [.tmp 6] _)
 by_cases hp:h.length≤p
 ·have hd:decide ((p:Int)≥h.length)=true:=by simp;omega
  have hr:reachM h wk p x=none:=by rw [reachM,if_pos (.inl hp)]
  repeat' ((with_reducible first|refine wr ?_|refine wb2 ?_ ?_<;>(intro hb;try simp only [hb])|fail)<;>try simp only [go_sem,seval,h1,h2,h3,hd])
  exact ⟨_,_,GL.refl _ _,by rw [hr]⟩
 have hp':p<h.length:=by omega
 have hd:decide ((p:Int)≥h.length)=false:=by simp;omega
 have hg:=List.getElem?_eq_getElem hp'
 have hgd:h.getD p 0=h[p]:=by simp [List.getD,hg]
 have hput:=put_map (f:=I64) (l:=h) (n:=p) (a:=x) hp'
 have hle:p+1≤h.length:=hp'
 rcases o with _|id
 ·obtain rfl:=hn rfl
  have ne0:=nes6 0 1 2 3 cc (cc+1) (by omega)
  repeat' ((first|(with_reducible first|refine wr ?_)|(with_reducible refine wb2 ?_ ?_<;>(intro hb;try simp only [hb]))|((with_reducible refine k_eval (r_appn' (by decide) (by decide) (by decide)) ?_))|fail)<;>try simp only [go_sem,seval,h1,h2,h3,hd,hp',hg,hput,hle,List.length_nil,ne0])
  ·have hr:reachM h [] p x=none:=by simp_all [reachM]
   exact ⟨_,_,GL.refl _ _,by rw [hr]⟩
  ·have hr:reachM h [] p x=none:=by simp_all [reachM]
   exact ⟨_,_,GL.refl _ _,by rw [hr]⟩
  ·exfalso;simp at *;omega
  ·have hr:reachM h [] p x=some (h,[]):=by simp_all [reachM]<;>omega
   refine ⟨_,_,GL.refl _ _,?_⟩
   rw [hr]
   exact ⟨rfl,none,junk,⟨h0,h1,h2,h3,hn,hs,hc⟩,fun _ _ _ _=>rfl⟩
  ·have hr:reachM h [] p x=some (h.set p x,p :: []):=by simp_all [reachM]<;>omega
   refine ⟨_,_,GL.refl _ _,?_⟩
   rw [hr]
   refine ⟨rfl,some (cc+1),[],⟨?_,?_,?_,?_,by simp,fun i hi=>?_,by omega⟩,fun j hj1 hj2 hj3=>?_⟩
   ·simp only [go_sem,seval,ne0,h0]
   ·simp only [go_sem,seval,ne0]
   ·simp only [go_sem,seval,ne0,h2,List.length_set]
   ·simp only [go_sem,seval,ne0]
   ·cases hi
    refine ⟨by omega,by omega,?_⟩
    simp only [go_sem,seval,ne0,wkC_cons]
    try rfl
   ·have k1:¬ j=1:=by omega
    have k2:¬ j=3:=by omega
    have k3:¬ j=cc:=by omega
    have k4:¬ j=cc+1:=by omega
    simp only [go_sem,seval,k1,k2,k3,k4]
  ·exfalso;simp at *;omega
 ·obtain ⟨i2,i3,hi4⟩:=hs id rfl
  have ne0:=nes7 0 1 2 3 id cc (cc+1) (by omega)
  have hmx:wk.length+1≤maxLen:=by simp only [maxLen];omega
  have hcl:wk.length * 1≤(wkC wk++junk).length:=by simp [wkC_len]
  have htake:(wkC wk++junk).take (wk.length)=wkC wk:=List.take_left' (wkC_len wk)
  repeat' ((first|(with_reducible first|refine wr ?_)|(with_reducible refine wb2 ?_ ?_<;>(intro hb;try simp only [hb]))|((with_reducible refine k_eval (b_app hcl (by omega) hmx) ?_))|fail)<;>try simp only [go_sem,seval,h1,h2,h3,hi4,hd,hp',hg,hput,hle,htake,ne0])
  ·have hr:reachM h wk p x=none:=by simp_all [reachM]
   exact ⟨_,_,GL.refl _ _,by rw [hr]⟩
  ·have hr:reachM h wk p x=none:=by simp_all [reachM]
   exact ⟨_,_,GL.refl _ _,by rw [hr]⟩
  ·exfalso;simp at *;omega
  ·have hr:reachM h wk p x=some (h,wk):=by simp_all [reachM]<;>omega
   refine ⟨_,_,GL.refl _ _,?_⟩
   rw [hr]
   exact ⟨rfl,some id,junk,⟨h0,h1,h2,h3,hn,hs,hc⟩,fun _ _ _ _=>rfl⟩
  ·have hr:reachM h wk p x=some (h.set p x,p :: wk):=by simp_all [reachM]<;>omega
   refine ⟨_,_,GL.refl _ _,?_⟩
   rw [hr]
   refine ⟨rfl,some (cc+1),[],⟨?_,?_,?_,?_,by simp,fun i hi=>?_,by omega⟩,fun j hj1 hj2 hj3=>?_⟩
   ·simp only [go_sem,seval,ne0,h0]
   ·simp only [go_sem,seval,ne0]
   ·simp only [go_sem,seval,ne0,h2,List.length_set]
   ·simp only [go_sem,seval,ne0]
   ·cases hi
    refine ⟨by omega,by omega,?_⟩
    simp only [go_sem,seval,ne0,wkC_cons]
    try rfl
   ·have hj4:¬ j=id:=fun e=>hj3 (by rw [e])
    have k1:¬ j=1:=by omega
    have k2:¬ j=3:=by omega
    have k3:¬ j=cc:=by omega
    have k4:¬ j=cc+1:=by omega
    simp only [go_sem,seval,hj4,k1,k2,k3,k4]
  ·exfalso;simp at *;omega
theorem c_reach' (c:Prg) (h:List Int) (wk:List Nat) (o:Option Nat) (junk:List DV) (H:Hp) (cc:Nat) (p:Int) (x:Int) (hp:0≤p) (hS:WkS c h wk o junk H cc) (hw:wk.length≤100000) :
  AC Tryz.prog 109 [I64 p,I64 x,.ptr 2 0,.ptr 3 0] H cc (fun v H' c'=>(reachM h wk p.toNat x=none∧v=.bool false) ∨
   ∃ h' wk' o' junk',reachM h wk p.toNat x=some (h',wk')∧v=.bool true∧WkS c h' wk' o' junk' H' c'∧∀ j,4≤j→j<cc→o≠some j→H' j=H j):=by
 have hpp:(p.toNat:Int)=p:=by omega
 have key:=c_reach c h wk o junk H cc p.toNat x hS hw
 rw [hpp] at key
 refine key.mono fun v H' c' hq=>?_
 cases hr:reachM h wk p.toNat x with
 | none=>rw [hr] at hq;exact .inl ⟨rfl,hq⟩
 | some q =>
  obtain ⟨h',wk'⟩:=q
  rw [hr] at hq
  obtain ⟨e,o',junk',s1,s2⟩:=hq
  exact .inr ⟨h',wk',o',junk',rfl,e,s1,s2⟩
end Go.Proofs.YtcallbfckjlagaaGreat
namespace Go.Proofs.YtcallbfckjlagaaGreat
open Go.Eng (IC IOper DReg IFn IsFn)
open Go.Sym Go.Pb
abbrev clo:DV:=.func 109 [] [.ptr 2 0,.ptr 3 0]
theorem l_heightsP (c:Prg) (hl:Lim c) (hj:jumpsM c=true) (r:Option (List Int)) (n:Nat) (h:List Int) (wk:List Nat) (o:Option Nat) (junk:List DV) (cc:Nat) (hc4:4≤cc) (hn:o=none→wk=[]) (hs:∀ i,o=some i→4≤i∧i<cc)
  (hI:WkI c.instrs.length h wk) (hb:wk.length+2 * n≤60000) (hr:hgtP c n h wk=some r) :
  IW Tryz.prog 150 (.loop u74_26) ⟨tm [(1,.ptr 0 0),(4,.ptr 2 0),(6,.ptr 3 0),(7,clo)],WH c h wk o junk,cc⟩ (bk 4 (sq Tryz.prog 150 u74_55 (rt [.tmp 2,.tmp 3] fun v H' x => ∃ H2,GL H' [v] H2 [hgtV r]))):=by
 have hjI:∀ i∈c.instrs,i.op=12∨i.op=13∨i.op=14→0≤i.A∧i.A≤(c.instrs.length:Int)-1:=by
  intro i hi hop
  simp only [jumpsM,Bool.and_eq_true,List.all_eq_true] at hj
  have:=hj.1 i hi
  have hk:(effM i.op).2.2=7:=by rcases hop with e|e|e<;>rw [e]<;>decide
  simpa [jumpI,hk,inM] using this
 obtain ⟨wp,wv,ws,wi,wt,we,li,ls,le,lp,lv⟩:=hl
 refine i_loop (fun q:Nat × List Int × List Nat × Option Nat × List DV=>[(1,.ptr 0 0),(4,.ptr 2 0),(6,.ptr 3 0),(7,clo)])
  (fun q=>WH c q.2.1 q.2.2.1 q.2.2.2.1 q.2.2.2.2)
  (fun q cc=>4≤cc∧(q.2.2.2.1=none→q.2.2.1=[])∧(∀ i,q.2.2.2.1=some i→4≤i∧i<cc)∧WkI c.instrs.length q.2.1 q.2.2.1∧q.2.2.1.length+2 * q.1≤60000∧hgtP c q.1 q.2.1 q.2.2.1=some r)
  (fun q=>q.1) (n,h,wk,o,junk) ⟨rfl,rfl,rfl,rfl,trivial⟩ (Sub.refl _) ⟨hc4,hn,hs,hI,hb,hr⟩ ?_
 clear hc4 hn hs hI hb hr
 rintro ⟨n,h,wk,o,junk⟩ cc ⟨hc4,hn,hs,hI,hb,hr⟩
 simp only at hn hs hI hb hr
 obtain ⟨m,rfl⟩:∃ m,n=m+1:=by
  cases n with
  | zero=>cases hr
  | succ m=>exact ⟨m,rfl⟩
 have hS:=WkS.mk' (c:=c) (h:=h) (junk:=junk) hn hs hc4
 rcases wk with _|⟨p,wk⟩
 ·simp only [hgtP,Option.some.injEq] at hr
  subst hr
  have hlen:lenR (todoV o 0)=some (I64 0):=by cases o<;>rfl
  repeat' ((with_reducible first|refine wr ?_|refine wb2 ?_ ?_<;>(intro hb;try simp only [hb])|fail)<;>try simp only [go_sem,seval,hS.h0,hS.h1,hS.h2,hS.h3,hlen,List.length_nil])
  exact pc_slc2 (u:=1) hS.h1 rfl (by simp) (ints_unit h) ⟨[],by rw [cells_ints,List.append_nil]⟩
 rcases o with _|id
 ·exact absurd (hn rfl) (by simp)
 obtain ⟨i2,i3⟩:=hs id rfl
 have hbl:=(hS.hs id rfl).2.2
 rw [List.length_cons] at hb
 have hpos:decide (((wk.length+1:Nat):Int)>0)=true:=by simp
 have hw:=w64 (n:=(((wk.length+1:Nat):Int)-1)) (by omega) (by omega)
 have hw1:(((wk.length+1:Nat):Int)-1)=(wk.length:Int):=by omega
 rw [hw1] at hw
 obtain ⟨s1,s2,s3⟩:=hI.mem p List.mem_cons_self
 have hIt:WkI c.instrs.length h wk:=⟨hI.hl,fun q hq=>hI.mem q (List.mem_cons_of_mem _ hq)⟩
 have hlen:=hI.hl
 have hp':p<h.length:=by omega
 have hgh:=List.getElem?_eq_getElem hp'
 have hgi:=List.getElem?_eq_getElem s1
 have eh:h.getD p 0=h[p]:=by simp [List.getD,hgh]
 have ei:c.instrs.getD p ⟨0,0⟩=c.instrs[p]:=by simp [List.getD,hgi]
 simp only [hgtP] at hr
 rw [eh] at s2 s3
 rw [eh,ei] at hr
 obtain ⟨b1,b2,b3,b4⟩:=eff_bd c.instrs[p].op
 have w2:=w64 (n:=h[p]-(effM c.instrs[p].op).1) (by omega) (by omega)
 have w3:=w64 (n:=h[p]-(effM c.instrs[p].op).1+(effM c.instrs[p].op).2.1) (by omega) (by omega)
 have hcell:(wkC (p :: wk)++junk)[wk.length]? = some (I64 (p:Int)):=by
  rw [wkC_cons,List.append_assoc,List.getElem?_append_right (by simp [wkC_len]),wkC_len];simp
 have hblen:wk.length+1≤(wkC (p :: wk)++junk).length:=by simp [wkC_len]
 have ne0:=nes7 0 1 2 3 id cc (cc+1) (by omega)
 by_cases hok:¬ h[p]≥(effM c.instrs[p].op).1
 ·rw [if_pos (.inl (by omega))] at hr
  cases hr
  have hok':decide (h[p]≥(effM c.instrs[p].op).1)=false:=by simpa using hok
  repeat' ((with_reducible first|refine wr ?_|refine cpc (c_stack _) ?_|refine wb2 ?_ ?_<;>(intro hb;try simp only [hb])|fail)<;>try simp only [go_sem,seval,hS.h0,hS.h1,hS.h2,hS.h3,hbl,List.length_cons,hw1,hw,hpos,hcell,hblen,hgh,hgi,s1,hp',hlen,w2,w3,hok',Nat.lt_add_one,Nat.le_add_right,ne0])
  all_goals exact pc_snil2
 have hok1:h[p]≥(effM c.instrs[p].op).1:=by omega
 have hok':decide (h[p]≥(effM c.instrs[p].op).1)=true:=by simpa using hok1
 have hwp:=w64 (n:=(p:Int)+1) (by omega) (by omega)
 have hpp:((p:Int)+1).toNat=p+1:=by omega
 by_cases e31:c.instrs[p].op=31
 ·have o31:(c.instrs[p].op == 31)=true:=by simpa using e31
  by_cases hz:h[p]=0
  ·have hz':(h[p] == 0)=true:=by simpa using hz
   rw [if_neg (by omega)] at hr
   have hA:afterM c.instrs[p] p h[p]=[]:=by simp [afterM,e31]
   rw [hA] at hr
   simp only [reachL] at hr
   repeat' ((with_reducible first|refine wr ?_|refine cpc (c_stack _) ?_|refine wb2 ?_ ?_<;>(intro hb;try simp only [hb])|fail)<;>try simp only [go_sem,seval,hS.h0,hS.h1,hS.h2,hS.h3,hbl,List.length_cons,hw1,hw,hpos,hcell,hblen,hgh,hgi,s1,hp',hlen,w2,w3,hok',Nat.lt_add_one,Nat.le_add_right,ne0,o31,hz'])
   have hS':=(hS.pop.upd ⟨0,true,[DV.int IntKind.i64 0,DV.int IntKind.i64 0]⟩ (Nat.le_refl _) (Nat.le_refl _)).upd ⟨0,true,[I64 c.instrs[p].op,I64 c.instrs[p].A]⟩ (Nat.le_refl _) (Nat.le_succ _)
   exact ⟨(m,h,wk,some id,I64 (p:Int) :: junk),hS'.sub,inv ⟨hS'.hc,hS'.hn,fun i hi=>⟨(hS'.hs i hi).1,(hS'.hs i hi).2.1⟩,hIt,by simp only;omega,hr⟩,by simp only;omega⟩
  ·have hz':(h[p] == 0)=false:=by simpa using hz
   rw [if_pos (.inr ⟨e31,hz⟩)] at hr
   cases hr
   repeat' ((with_reducible first|refine wr ?_|refine cpc (c_stack _) ?_|refine wb2 ?_ ?_<;>(intro hb;try simp only [hb])|fail)<;>try simp only [go_sem,seval,hS.h0,hS.h1,hS.h2,hS.h3,hbl,List.length_cons,hw1,hw,hpos,hcell,hblen,hgh,hgi,s1,hp',hlen,w2,w3,hok',Nat.lt_add_one,Nat.le_add_right,ne0,o31,hz'])
   exact pc_snil2
 have o31:(c.instrs[p].op == 31)=false:=by simpa using e31
 rw [if_neg (by omega)] at hr
 by_cases e12:c.instrs[p].op=12
 ·have o12:(c.instrs[p].op == 12)=true:=by simpa using e12
  have p1:=(hjI _ (List.getElem_mem s1) (.inl e12)).1
  have hE:effM c.instrs[p].op=(0,0,7):=by rw [e12];decide
  have hA:afterM c.instrs[p] p h[p]=[(c.instrs[p].A.toNat,h[p])]:=by simp [afterM,e12]
  have hx:h[p]-(effM c.instrs[p].op).1+(effM c.instrs[p].op).2.1=h[p]:=by rw [hE];simp
  repeat' ((with_reducible first|refine wr ?_|refine cpc (c_stack _) ?_|refine wb2 ?_ ?_<;>(intro hb;try simp only [hb])|fail)<;>try simp only [go_sem,seval,hS.h0,hS.h1,hS.h2,hS.h3,hbl,List.length_cons,hw1,hw,hpos,hcell,hblen,hgh,hgi,s1,hp',hlen,w2,w3,hok',Nat.lt_add_one,Nat.le_add_right,ne0,o31,o12])
  refine AC.call (c_reach' c h wk (some id) _ _ _ (c.instrs[p].A) _ (p1) ((hS.pop.upd _ (Nat.le_refl _) (Nat.le_refl _)).upd _ (Nat.le_refl _) (Nat.le_succ _)) (by omega)) ?_
  rintro v H' c' hq hcc
  rw [hA] at hr
  rw [hx] at hq
  rcases hq with ⟨hr0,rfl⟩|⟨h',wk',o',junk',hr1,rfl,hS',hfr⟩
  ·simp only [reachL,hr0] at hr
   cases hr
   simp only [go_sem,seval]
   repeat' ((with_reducible first|refine wr ?_|refine wb2 ?_ ?_<;>(intro hb;try simp only [hb])|fail)<;>try simp only [go_sem,seval])
   exact pc_snil2
  ·simp only [reachL,hr1] at hr
   obtain ⟨hI',hwk'⟩:=reach_inv hIt s2 hr1
   simp only [go_sem,seval]
   repeat' ((with_reducible first|refine wr ?_|refine wb2 ?_ ?_<;>(intro hb;try simp only [hb])|fail)<;>try simp only [go_sem,seval])
   exact ⟨(m,h',wk',o',junk'),hS'.sub,inv ⟨hS'.hc,hS'.hn,fun i hi=>⟨(hS'.hs i hi).1,(hS'.hs i hi).2.1⟩,hI',by simp only;omega,hr⟩,by simp only;omega⟩
 have o12:(c.instrs[p].op == 12)=false:=by simpa using e12
 by_cases e13:c.instrs[p].op=13
 ·have o13:(c.instrs[p].op == 13)=true:=by simpa using e13
  have p1:=(hjI _ (List.getElem_mem s1) (.inr (.inl e13))).1
  have hE:effM c.instrs[p].op=(1,0,7):=by rw [e13];decide
  have hA:afterM c.instrs[p] p h[p]=[(p+1,h[p]-1),(c.instrs[p].A.toNat,h[p]-1)]:=by simp [afterM,e13]
  have hx:h[p]-(effM c.instrs[p].op).1+(effM c.instrs[p].op).2.1=h[p]-1:=by rw [hE];simp
  have hge:0≤h[p]-1:=by rw [hE] at hok1;simp only at hok1;omega
  repeat' ((with_reducible first|refine wr ?_|refine cpc (c_stack _) ?_|refine wb2 ?_ ?_<;>(intro hb;try simp only [hb])|fail)<;>try simp only [go_sem,seval,hS.h0,hS.h1,hS.h2,hS.h3,hbl,List.length_cons,hw1,hw,hpos,hcell,hblen,hgh,hgi,s1,hp',hlen,w2,w3,hok',Nat.lt_add_one,Nat.le_add_right,ne0,o31,o12,o13,hwp])
  refine AC.call (c_reach' c h wk (some id) _ _ _ ((p:Int)+1) _ (by omega) ((hS.pop.upd _ (Nat.le_refl _) (Nat.le_refl _)).upd _ (Nat.le_refl _) (Nat.le_succ _)) (by omega)) ?_
  rintro v H' c' hq hcc
  rw [hA] at hr
  rw [hx] at hq
  rw [hpp] at hq
  rcases hq with ⟨hr0,rfl⟩|⟨h',wk',o',junk',hr1,rfl,hS',hfr⟩
  ·simp only [reachL,hr0] at hr
   cases hr
   simp only [go_sem,seval]
   repeat' ((with_reducible first|refine wr ?_|refine wb2 ?_ ?_<;>(intro hb;try simp only [hb])|fail)<;>try simp only [go_sem,seval])
   exact pc_snil2
  ·obtain ⟨hI',hwk'⟩:=reach_inv hIt hge hr1
   simp only [reachL,hr1] at hr
   have hbox:=(hfr cc hc4 (Nat.lt_succ_self _) (by simp;omega)).trans h_same
   simp only [go_sem,seval,hbox,o31,o12,o13,hwp]
   repeat' ((with_reducible first|refine wr ?_|refine wb2 ?_ ?_<;>(intro hb;try simp only [hb])|fail)<;>try simp only [go_sem,seval,hbox,o31,o12,o13,hwp])
   refine AC.call (c_reach' c h' wk' o' junk' _ _ c.instrs[p].A _ p1 hS' (by omega)) ?_
   rintro v H2 c2 hq hcc2
   rw [hx] at hq
   rcases hq with ⟨hr0,rfl⟩|⟨h2,wk2,o2,junk2,hr2,rfl,hS2,hfr2⟩
   ·simp only [hr0] at hr
    cases hr
    simp only [go_sem,seval]
    repeat' ((with_reducible first|refine wr ?_|refine wb2 ?_ ?_<;>(intro hb;try simp only [hb])|fail)<;>try simp only [go_sem,seval])
    exact pc_snil2
   ·simp only [hr2] at hr
    obtain ⟨hI2,hwk2⟩:=reach_inv hI' hge hr2
    simp only [go_sem,seval]
    repeat' ((with_reducible first|refine wr ?_|refine wb2 ?_ ?_<;>(intro hb;try simp only [hb])|fail)<;>try simp only [go_sem,seval])
    exact ⟨(m,h2,wk2,o2,junk2),hS2.sub,inv ⟨hS2.hc,hS2.hn,fun i hi=>⟨(hS2.hs i hi).1,(hS2.hs i hi).2.1⟩,hI2,by simp only;omega,hr⟩,by simp only;omega⟩
 have o13:(c.instrs[p].op == 13)=false:=by simpa using e13
 by_cases e14:c.instrs[p].op=14
 ·have o14:(c.instrs[p].op == 14)=true:=by simpa using e14
  have p1:=(hjI _ (List.getElem_mem s1) (.inr (.inr e14))).1
  have hE:effM c.instrs[p].op=(1,1,7):=by rw [e14];decide
  have hA:afterM c.instrs[p] p h[p]=[(p+1,h[p]),(c.instrs[p].A.toNat,h[p]-1)]:=by simp [afterM,e14]
  have hx:h[p]-(effM c.instrs[p].op).1+(effM c.instrs[p].op).2.1=h[p]:=by rw [hE];simp
  have hge:0≤h[p]-1:=by rw [hE] at hok1;simp only at hok1;omega
  have w4:=w64 (n:=h[p]-(effM c.instrs[p].op).1+(effM c.instrs[p].op).2.1-1) (by omega) (by omega)
  repeat' ((with_reducible first|refine wr ?_|refine cpc (c_stack _) ?_|refine wb2 ?_ ?_<;>(intro hb;try simp only [hb])|fail)<;>try simp only [go_sem,seval,hS.h0,hS.h1,hS.h2,hS.h3,hbl,List.length_cons,hw1,hw,hpos,hcell,hblen,hgh,hgi,s1,hp',hlen,w2,w3,hok',Nat.lt_add_one,Nat.le_add_right,ne0,o31,o12,o13,o14,hwp,w4])
  refine AC.call (c_reach' c h wk (some id) _ _ _ ((p:Int)+1) _ (by omega) ((hS.pop.upd _ (Nat.le_refl _) (Nat.le_refl _)).upd _ (Nat.le_refl _) (Nat.le_succ _)) (by omega)) ?_
  rintro v H' c' hq hcc
  rw [hA] at hr
  rw [hx] at hq
  rw [hpp] at hq
  rcases hq with ⟨hr0,rfl⟩|⟨h',wk',o',junk',hr1,rfl,hS',hfr⟩
  ·simp only [reachL,hr0] at hr
   cases hr
   simp only [go_sem,seval]
   repeat' ((with_reducible first|refine wr ?_|refine wb2 ?_ ?_<;>(intro hb;try simp only [hb])|fail)<;>try simp only [go_sem,seval])
   exact pc_snil2
  ·obtain ⟨hI',hwk'⟩:=reach_inv hIt s2 hr1
   simp only [reachL,hr1] at hr
   have hbox:=(hfr cc hc4 (Nat.lt_succ_self _) (by simp;omega)).trans h_same
   simp only [go_sem,seval,hbox,o31,o12,o13,o14,hwp,w4]
   repeat' ((with_reducible first|refine wr ?_|refine wb2 ?_ ?_<;>(intro hb;try simp only [hb])|fail)<;>try simp only [go_sem,seval,hbox,o31,o12,o13,o14,hwp,w4])
   refine AC.call (c_reach' c h' wk' o' junk' _ _ c.instrs[p].A _ p1 hS' (by omega)) ?_
   rintro v H2 c2 hq hcc2
   rw [hx] at hq
   rcases hq with ⟨hr0,rfl⟩|⟨h2,wk2,o2,junk2,hr2,rfl,hS2,hfr2⟩
   ·simp only [hr0] at hr
    cases hr
    simp only [go_sem,seval]
    repeat' ((with_reducible first|refine wr ?_|refine wb2 ?_ ?_<;>(intro hb;try simp only [hb])|fail)<;>try simp only [go_sem,seval])
    exact pc_snil2
   ·simp only [hr2] at hr
    obtain ⟨hI2,hwk2⟩:=reach_inv hI' hge hr2
    simp only [go_sem,seval]
    repeat' ((with_reducible first|refine wr ?_|refine wb2 ?_ ?_<;>(intro hb;try simp only [hb])|fail)<;>try simp only [go_sem,seval])
    exact ⟨(m,h2,wk2,o2,junk2),hS2.sub,inv ⟨hS2.hc,hS2.hn,fun i hi=>⟨(hS2.hs i hi).1,(hS2.hs i hi).2.1⟩,hI2,by simp only;omega,hr⟩,by simp only;omega⟩
 have o14:(c.instrs[p].op == 14)=false:=by simpa using e14
 have hA:afterM c.instrs[p] p h[p]=[(p+1,h[p]-(effM c.instrs[p].op).1+(effM c.instrs[p].op).2.1)]:=by simp [afterM,e31,e12,e13,e14]
 have hge:0≤h[p]-(effM c.instrs[p].op).1+(effM c.instrs[p].op).2.1:=by omega
 repeat' ((with_reducible first|refine wr ?_|refine cpc (c_stack _) ?_|refine wb2 ?_ ?_<;>(intro hb;try simp only [hb])|fail)<;>try simp only [go_sem,seval,hS.h0,hS.h1,hS.h2,hS.h3,hbl,List.length_cons,hw1,hw,hpos,hcell,hblen,hgh,hgi,s1,hp',hlen,w2,w3,hok',Nat.lt_add_one,Nat.le_add_right,ne0,o31,o12,o13,o14,hwp])
 refine AC.call (c_reach' c h wk (some id) _ _ _ ((p:Int)+1) _ (by omega) ((hS.pop.upd _ (Nat.le_refl _) (Nat.le_refl _)).upd _ (Nat.le_refl _) (Nat.le_succ _)) (by omega)) ?_
 rintro v H' c' hq hcc
 rw [hA] at hr
 rw [hpp] at hq
 rcases hq with ⟨hr0,rfl⟩|⟨h',wk',o',junk',hr1,rfl,hS',hfr⟩
 ·simp only [reachL,hr0] at hr
  cases hr
  simp only [go_sem,seval]
  repeat' ((with_reducible first|refine wr ?_|refine wb2 ?_ ?_<;>(intro hb;try simp only [hb])|fail)<;>try simp only [go_sem,seval])
  exact pc_snil2
 ·simp only [reachL,hr1] at hr
  obtain ⟨hI',hwk'⟩:=reach_inv hIt hge hr1
  simp only [go_sem,seval]
  repeat' ((with_reducible first|refine wr ?_|refine wb2 ?_ ?_<;>(intro hb;try simp only [hb])|fail)<;>try simp only [go_sem,seval])
  exact ⟨(m,h',wk',o',junk'),hS'.sub,inv ⟨hS'.hc,hS'.hn,fun i hi=>⟨(hS'.hs i hi).1,(hS'.hs i hi).2.1⟩,hI',by simp only;omega,hr⟩,by simp only;omega⟩
theorem c_heightsP (c:Prg) (hl:Lim c) (hj:jumpsM c=true) (n:Nat) (hn0:n≤20000) (r:Option (List Int)) (hr:hgtP0 c n=some r):PC Tryz.prog 74 [c.v] (hgtV r):=by
 have hl0:=hl
 obtain ⟨wp,wv,ws,wi,wt,we,li,ls,le,lp,lv⟩:=hl
 have hms:=r_msl (sz:=1) (bytes:=8) (z:=[I64 0]) (k:=.i64) (k':=.i64) (n:=c.instrs.length) (by omega) (by omega) rfl rfl
 refine PC.of mixedU isU74 (Nat.le_of_ble_eq_true rfl) (by simp [DV.nlL,DV.nl,nlL_ints,nlL_strs,nlL_instrs,nlL_entries]) (by cases r<;>simp [hgtV,DV.nlL,DV.nl,nlL_ints]) ?_
 show IW Tryz.prog 150 u74_1 ⟨argT _,_,_⟩ (rt [.tmp 2,.tmp 3] _)
 repeat' ((with_reducible first|refine wr ?_|refine wb2 ?_ ?_<;>(intro hb;try simp only [hb])|fail)<;>try simp only [go_sem,seval,hms,madeL_one])
 -- every height is -1
 refine i_loop (fun k:Nat=>[(1,.ptr 0 0),(4,.ptr 2 0),(21,I64 c.instrs.length),(22,I64 k)]) (fun k=>((nil.upd 0 ⟨0,true,c.cs⟩).upd 1 ⟨1,true,(fillM c.instrs.length k).map I64⟩).upd 2 ⟨0,true,[.slc 1 0 c.instrs.length]⟩) (fun k cc=>cc=3∧k≤c.instrs.length) (fun k=>c.instrs.length-k) 0
  (by simp [tmLe,tm,Tm.upd]) (by rw [h_upd2];simpa [fillM] using Sub.refl _) (by simp) ?_
 rintro k cc ⟨rfl,hk⟩
 by_cases hlt:k<c.instrs.length
 ·have hd:decide ((k:Int)<c.instrs.length)=true:=by simpa using hlt
  have hw:=w64 (n:=(k:Int)+1) (by omega) (by omega)
  have hlen:(fillM c.instrs.length k).length=c.instrs.length:=by simp [fillM];omega
  have hle:k+1≤c.instrs.length:=hlt
  have hput:=put_map (f:=I64) (l:=fillM c.instrs.length k) (n:=k) (a := -1) (by rw [hlen];exact hlt)
  repeat' ((with_reducible first|refine wr ?_|refine wb2 ?_ ?_<;>(intro hb;try simp only [hb])|fail)<;>try simp only [go_sem,seval,hd,hw,hlen,hle,hlt,hput])
  exact ⟨k+1,rfl,by rw [fillM_succ hlt];(intro j b hj;simp only [Hp.upd,Hp.del,Sym.nil,baseH,optH] at hj ⊢;(repeat' split at hj)<;>(repeat' split)<;>first|exact hj|(exfalso;omega)|cases hj),inv ⟨rfl,hlt⟩,by omega⟩
 have hd:decide ((k:Int)<c.instrs.length)=false:=by simpa using hlt
 have hfull:fillM c.instrs.length k=List.replicate c.instrs.length (-1):=by
  have:c.instrs.length-k=0:=by omega
  have hk2:k=c.instrs.length:=by omega
  simp [fillM,this,hk2]
 repeat' ((with_reducible first|refine wr ?_|refine wb2 ?_ ?_<;>(intro hb;try simp only [hb])|fail)<;>try simp only [go_sem,seval,hd,hfull])
 clear hd hfull hlt hk
 -- the entries
 have hjE:∀ e∈c.entries,0≤e.pos∧e.pos≤(c.instrs.length:Int)-1:=by
  intro e he
  simp only [jumpsM,Bool.and_eq_true,List.all_eq_true] at hj
  have:=hj.2 e he
  simpa [jumpE,inM] using this
 refine i_loop (fun q:Nat × List Int × List Nat × Option Nat × List DV=>[(1,.ptr 0 0),(4,.ptr 2 0),(6,.ptr 3 0),(7,clo),(31,entsV c.entries),(32,I64 c.entries.length),(33,I64 q.1)])
  (fun q=>WH c q.2.1 q.2.2.1 q.2.2.2.1 q.2.2.2.2)
  (fun q cc=>4≤cc∧q.1≤c.entries.length∧(q.2.2.2.1=none→q.2.2.1=[])∧(∀ i,q.2.2.2.1=some i→4≤i∧i<cc)∧WkI c.instrs.length q.2.1 q.2.2.1∧q.2.2.1.length≤q.1∧reachL q.2.1 q.2.2.1 ((c.entries.drop q.1).map entP)=reachL (List.replicate c.instrs.length (-1)) [] (c.entries.map entP))
  (fun q=>c.entries.length-q.1) (0,List.replicate c.instrs.length (-1),[],none,[])
  (by simp [tmLe,tm,Tm.upd,todoV]) (by simpa [WH,optH,todoV] using Sub.refl _) ⟨by omega,by omega,fun _=>rfl,by simp,⟨by simp,by simp⟩,by simp,by simp⟩ ?_
 rintro ⟨k,h,wk,o,junk⟩ cc ⟨hc4,hk,hn,hs,hI,hwk,hrL⟩
 simp only at hk hn hs hI hwk hrL
 have hS:=WkS.mk' (c:=c) (h:=h) (junk:=junk) hn hs hc4
 by_cases hlt:k<c.entries.length
 ·have hd:decide ((k:Int)<c.entries.length)=true:=by simpa using hlt
  have hw:=w64 (n:=(k:Int)+1) (by omega) (by omega)
  have hg:=List.getElem?_eq_getElem hlt
  obtain ⟨p1,p2⟩:=hjE _ (List.getElem_mem hlt)
  have hpos:c.entries[k].pos=((c.entries[k].pos.toNat:Nat):Int):=by omega
  have ne0:=nes6 0 1 2 3 cc (cc+1) (by omega)
  repeat' ((with_reducible first|refine wr ?_|refine wb2 ?_ ?_<;>(intro hb;try simp only [hb])|fail)<;>try simp only [go_sem,seval,hd,hw,hg,hS.h0,hS.h1,hS.h2,hS.h3,ne0])
  rw [h_upd2]
  refine AC.call (c_reach' c h wk o junk _ _ c.entries[k].pos 0 p1 (hS.upd _ (Nat.le_refl _) (Nat.le_succ _)) (by omega)) ?_
  rintro v H' c' hq hcc
  rw [List.drop_eq_getElem_cons hlt,List.map_cons] at hrL
  rcases hq with ⟨hr0,rfl⟩|⟨h',wk',o',junk',hr1,rfl,hS',hfr⟩
  ·have hr2:r=none:=by
    rw [hgtP0, ← hrL] at hr
    simp only [reachL,entP,hr0] at hr
    simpa using hr.symm
   subst hr2
   simp only [go_sem,seval]
   repeat' ((with_reducible first|refine wr ?_|refine wb2 ?_ ?_<;>(intro hb;try simp only [hb])|fail)<;>try simp only [go_sem,seval])
   exact pc_snil2
  ·simp only [reachL,entP,hr1] at hrL
   obtain ⟨hI',hwk'⟩:=reach_inv hI (Int.le_refl 0) hr1
   simp only [go_sem,seval]
   repeat' ((with_reducible first|refine wr ?_|refine wb2 ?_ ?_<;>(intro hb;try simp only [hb])|fail)<;>try simp only [go_sem,seval,hw])
   exact ⟨(k+1,h',wk',o',junk'),rfl,hS'.sub,inv ⟨hS'.hc,hlt,hS'.hn,fun i hi=>⟨(hS'.hs i hi).1,(hS'.hs i hi).2.1⟩,hI',by simp only;omega,hrL⟩,by simp only;omega⟩
 have hd:decide ((k:Int)<c.entries.length)=false:=by simpa using hlt
 obtain rfl:k=c.entries.length:=by omega
 rw [List.drop_eq_nil_of_le (Nat.le_refl _)] at hrL
 rw [hgtP0, ← hrL] at hr
 simp only [List.map_nil,reachL] at hr
 repeat' ((with_reducible first|refine wr ?_|refine wb2 ?_ ?_<;>(intro hb;try simp only [hb])|fail)<;>try simp only [go_sem,seval,hd])
 exact l_heightsP c hl0 hj r n h wk o junk cc hc4 hn hs hI (by omega) hr
end Go.Proofs.YtcallbfckjlagaaGreat
namespace Go.Proofs.YtcallbfckjlagaaGreat
open Go.Eng (IC IOper DReg IFn IsFn)
open Go.Sym Go.Pb
theorem c_heightsP' (c:Prg) (hl:Lim c) (hj:jumpsM c=true):PC Tryz.prog 74 [c.v] (hgtV (hR c)) :=
 c_heightsP c hl hj 4001 (by omega) _ (hgtP_eq hl.li hj)
theorem c_verify (c:Prg) (hs:∀ s∈c.strings,s.length≤140737488355328) (n1:c.instrs.length≤9223372036854775807):PC Tryz.prog 48 [c.v] (.tup [ints (vHts c),I64 (validM c)]):=by
 by_cases hL:limitsM c=true
 ·have hl:=Lim.of hL
  have hl0:=hl
  obtain ⟨wp,wv,ws,wi,wt,we,li,ls,le,lp,lv⟩:=hl
  by_cases hp:partsM c=true
  ·by_cases hj:jumpsM c=true
   ·refine PC.of mixedU isU48 (Nat.le_of_ble_eq_true rfl) (by simp [DV.nlL,DV.nl,nlL_ints,nlL_strs,nlL_instrs,nlL_entries,nlL_stp]) (by simp [DV.nlL,DV.nl,nlL_ints,nlL_strs,nlL_instrs,nlL_entries,nlL_stp]) ?_
    show IW Tryz.prog 47 u48_1 ⟨argT _,_,_⟩ (rt [.tmp 2,.tmp 3] _)
    repeat' ((with_reducible first|refine wr ?_|refine cpc (c_limits c) ?_|refine cpc (c_bparts c hl0 hs) ?_|refine cpc (c_targets c hl0) ?_|refine wb2 ?_ ?_<;>(intro hb;try simp only [hb])|fail)<;>try simp only [go_sem,seval,hL,hp,hj])
    refine i_loop (fun k:Nat=>[(1,.ptr 0 0),(4,I64 k)]) (fun _=>nil.upd 0 ⟨0,true,c.cs⟩) (fun k cc=>1≤cc∧1≤k∧(k≤c.entries.length∨k=1)∧chainM (c.entries.take k)=true) (fun k=>c.entries.length-k) 1 (by simp [tmLe,tm,Tm.upd]) (Sub.refl _) ⟨by omega,by omega,by omega,by cases c.entries<;>rfl⟩ ?_
    rintro k cc ⟨h1c,h1k,hk,he⟩
    by_cases hlt:k<c.entries.length
    ·have hd:decide ((k:Int)<c.entries.length)=true:=by simpa using hlt
     have hg:=List.getElem?_eq_getElem hlt
     have hlt':k-1<c.entries.length:=by omega
     have hg':=List.getElem?_eq_getElem hlt'
     have hw:=w64 (n:=(k:Int)+1) (by omega) (by omega)
     have hw1:=w64 (n:=(k:Int)-1) (by omega) (by omega)
     have hw2:(k:Int)-1=((k-1:Nat):Int):=by omega
     rw [hw2] at hw1
     repeat' ((with_reducible first|refine wr ?_|refine cpc (c_bless _ _) ?_|refine wb2 ?_ ?_<;>(intro hb;try simp only [hb])|fail)<;>try simp only [go_sem,seval,hd,hg,hg',hw,hw2,hw1])
     ·have hf:=chain_fail h1k hg' hg (by simpa using hb)
      have e:validM c=66:=by simp [validM,hL,hp,hj,hf]
      simp only [vHts,e]
      exact pc_snil2
     ·exact ⟨k+1,rfl,Sub.refl _,inv ⟨by omega,by omega,by omega,by rw [chain_take h1k hg' hg he];simpa using hb⟩,by omega⟩
    ·have hd:decide ((k:Int)<c.entries.length)=false:=by simp;omega
     have hch:chainM c.entries=true:=by
      rw [List.take_of_length_le (by omega)] at he;exact he
     cases hh:hR c with
     | none =>
      have key:=c_heightsP' c hl0 hj
      rw [hh,hgtV_none] at key
      repeat' ((with_reducible first|refine wr ?_|refine cpc key ?_|refine wb2 ?_ ?_<;>(intro hb;try simp only [hb])|fail)<;>try simp only [go_sem,seval,hd])
      have e:validM c=53:=by simp [validM,hL,hp,hj,hch,hh]
      simp only [vHts,e]
      exact pc_snil2
     | some h =>
      have key:=c_heightsP' c hl0 hj
      rw [hh,hgtV_some] at key
      repeat' ((with_reducible first|refine wr ?_|refine cpc key ?_|refine wb2 ?_ ?_<;>(intro hb;try simp only [hb])|fail)<;>try simp only [go_sem,seval,hd])
      have e:validM c=0:=by simp [validM,hL,hp,hj,hch,hh]
      simp only [vHts,e,hh]
      exact pc_ret rfl
   ·have hj':jumpsM c=false:=by simpa using hj
    refine PC.of mixedU isU48 (Nat.le_of_ble_eq_true rfl) (by simp [DV.nlL,DV.nl,nlL_ints,nlL_strs,nlL_instrs,nlL_entries,nlL_stp]) (by simp [DV.nlL,DV.nl,nlL_ints,nlL_strs,nlL_instrs,nlL_entries,nlL_stp]) ?_
    show IW Tryz.prog 47 u48_1 ⟨argT _,_,_⟩ (rt [.tmp 2,.tmp 3] _)
    repeat' ((with_reducible first|refine wr ?_|refine cpc (c_limits c) ?_|refine cpc (c_bparts c hl0 hs) ?_|refine cpc (c_targets c hl0) ?_|refine wb2 ?_ ?_<;>(intro hb;try simp only [hb])|fail)<;>try simp only [go_sem,seval,hL,hp,hj'])
    have e:validM c=54:=by simp [validM,hL,hp,hj']
    simp only [vHts,e]
    exact pc_snil2
  ·have hp':partsM c=false:=by simpa using hp
   refine PC.of mixedU isU48 (Nat.le_of_ble_eq_true rfl) (by simp [DV.nlL,DV.nl,nlL_ints,nlL_strs,nlL_instrs,nlL_entries,nlL_stp]) (by simp [DV.nlL,DV.nl,nlL_ints,nlL_strs,nlL_instrs,nlL_entries,nlL_stp]) ?_
   show IW Tryz.prog 47 u48_1 ⟨argT _,_,_⟩ (rt [.tmp 2,.tmp 3] _)
   repeat' ((with_reducible first|refine wr ?_|refine cpc (c_limits c) ?_|refine cpc (c_bparts c hl0 hs) ?_|refine wb2 ?_ ?_<;>(intro hb;try simp only [hb])|fail)<;>try simp only [go_sem,seval,hL,hp'])
   have e:validM c=51:=by simp [validM,hL,hp']
   simp only [vHts,e]
   exact pc_snil2
 ·have hL':limitsM c=false:=by simpa using hL
  refine PC.of mixedU isU48 (Nat.le_of_ble_eq_true rfl) (by simp [DV.nlL,DV.nl,nlL_ints,nlL_strs,nlL_instrs,nlL_entries,nlL_stp]) (by simp [DV.nlL,DV.nl,nlL_ints,nlL_strs,nlL_instrs,nlL_entries,nlL_stp]) ?_
  show IW Tryz.prog 47 u48_1 ⟨argT _,_,_⟩ (rt [.tmp 2,.tmp 3] _)
  repeat' ((with_reducible first|refine wr ?_|refine cpc (c_limits c) ?_|refine wb2 ?_ ?_<;>(intro hb;try simp only [hb])|fail)<;>try simp only [go_sem,seval,hL'])
  have e:validM c=9:=by simp [validM,hL']
  simp only [vHts,e]
  exact pc_snil2
theorem c_valid (c:Prg) (hs:∀ s∈c.strings,s.length≤140737488355328) (n1:c.instrs.length≤9223372036854775807):PC Tryz.prog 32 [c.v] (I64 (validM c)):=by
 refine PC.of mixedU isU32 (Nat.le_of_ble_eq_true rfl) (by simp [DV.nlL,DV.nl,nlL_ints,nlL_strs,nlL_instrs,nlL_entries,nlL_stp]) (by simp [DV.nlL,DV.nl,nlL_ints,nlL_strs,nlL_instrs,nlL_entries,nlL_stp]) ?_
 show IW Tryz.prog 11 u32_1 ⟨argT _,_,_⟩ (rt [.tmp 2] _)
 repeat' ((with_reducible first|refine wr ?_|refine cpc (c_verify c hs n1) ?_|refine wb2 ?_ ?_<;>(intro hb;try simp only [hb])|fail)<;>try simp only [go_sem,seval])
 exact pc_ret rfl
end Go.Proofs.YtcallbfckjlagaaGreat
namespace Go.Proofs.YtcallbfckjlagaaGreat
open Go.Eng (IC IOper DReg IFn IsFn)
open Go.Sym Go.Pb
theorem c_after (i:Ins) (p:Nat) (h:Int) (hp:p≤4000) (h1 : -100≤h) (h2:h≤100) (hA:i.op=12∨i.op=13∨i.op=14→0≤i.A):PC Tryz.prog 79 [i.v,I64 (p:Int),I64 h] (.lst ((afterM i p h).map Stp.v)):=by
 obtain ⟨b1,b2,b3,b4⟩:=eff_bd i.op
 have w1:=w64 (n:=(p:Int)+1) (by omega) (by omega)
 have w2:=w64 (n:=h-1) (by omega) (by omega)
 have w3:=w64 (n:=h-(effM i.op).1) (by omega) (by omega)
 have w4:=w64 (n:=h-(effM i.op).1+(effM i.op).2.1) (by omega) (by omega)
 have n1:i.op=12→(i.A.toNat:Int)=i.A:=by omega
 have n2:i.op=13→(i.A.toNat:Int)=i.A:=by omega
 have n3:i.op=14→(i.A.toNat:Int)=i.A:=by omega
 refine PC.of mixedU isU79 (Nat.le_of_ble_eq_true rfl) (by simp [DV.nlL,DV.nl,nlL_ints,nlL_strs,nlL_instrs,nlL_entries,nlL_stp]) (by simp [DV.nlL,DV.nl,nlL_ints,nlL_strs,nlL_instrs,nlL_entries,nlL_stp]) ?_
 show IW Tryz.prog 62 u79_1 ⟨argT _,_,_⟩ (rt [.tmp 6] _)
 repeat' ((with_reducible first|refine wr ?_|refine cpc (c_eff _) ?_|refine wb2 ?_ ?_<;>(intro hb;try simp only [hb])|fail)<;>try simp only [go_sem,seval,w1,w2,w3,w4])
 ·have e:afterM i p h=[]:=by simp_all [afterM]
  rw [e];exact pc_snil
 all_goals
  refine pc_slc (u:=2) (by simp [Hp.upd];rfl) rfl ?_ (stp_unit _) ⟨[],?_⟩<;>simp_all [afterM,cellsL,DV.cells]
theorem l_heightsR (c:Prg) (hl:Lim c) (hj:jumpsM c=true) (r:Option (List Int)) (n:Nat) (h:List Int) (st:List (Nat × Int)) (o:Option Nat) (junk:List DV) (cc:Nat) (h2:2≤cc) (hlen:h.length=c.instrs.length)
  (hst:∀ s∈st,s.1≤4000∧0≤s.2∧s.2≤50) (hb:st.length+n≤200000) (ho:o=none→st=[]) (ho2:∀ i,o=some i→2≤i∧i<cc) (hr:hgtR c n h st=some r) :
  IW Tryz.prog 123 (.loop u54_23) ⟨tm [(1,.ptr 0 0),(4,.slc 1 0 c.instrs.length),(6,todoV o st.length)],optH (baseH c h) o ⟨2,true,stC st++junk⟩,cc⟩ (bk 4 (sq Tryz.prog 123 u54_48 (rt [.tmp 2,.tmp 3] fun v H' x => ∃ H2,GL H' [v] H2 [hgtV r]))):=by
 have hlI:=hl
 obtain ⟨wp,wv,ws,wi,wt,we,li,ls,le,lp,lv⟩:=hl
 have hjI:∀ i∈c.instrs,i.op=12∨i.op=13∨i.op=14→0≤i.A∧i.A≤(c.instrs.length:Int)-1:=by
  intro i hi hop
  simp only [jumpsM,Bool.and_eq_true,List.all_eq_true] at hj
  have:=hj.1 i hi
  have hk:(effM i.op).2.2=7:=by rcases hop with e|e|e<;>rw [e]<;>decide
  simpa [jumpI,hk,inM] using this
 refine i_loop (fun q:Nat × List Int × List (Nat × Int) × Option Nat × List DV=>[(1,.ptr 0 0),(4,.slc 1 0 c.instrs.length),(6,todoV q.2.2.2.1 q.2.2.1.length)])
  (fun q=>optH (baseH c q.2.1) q.2.2.2.1 ⟨2,true,stC q.2.2.1++q.2.2.2.2⟩)
  (fun q cc=>2≤cc∧q.2.1.length=c.instrs.length∧(∀ s∈q.2.2.1,s.1≤4000∧0≤s.2∧s.2≤50)∧q.2.2.1.length+q.1≤200000∧(q.2.2.2.1=none→q.2.2.1=[])∧(∀ i,q.2.2.2.1=some i→2≤i∧i<cc)∧hgtR c q.1 q.2.1 q.2.2.1=some r)
  (fun q=>q.1) (n,h,st,o,junk) ⟨rfl,rfl,rfl,trivial⟩ (Sub.refl _) ⟨h2,hlen,hst,hb,ho,ho2,hr⟩ ?_
 clear hlen hst hb ho ho2 hr h2
 rintro ⟨n,h,st,o,junk⟩ cc ⟨h2,hlen,hst,hb,ho,ho2,hr⟩
 simp only at hlen hst hb ho ho2 hr
 obtain ⟨m,rfl⟩:∃ m,n=m+1:=by
  cases n with
  | zero=>cases hr
  | succ m=>exact ⟨m,rfl⟩
 have e0:¬ 0=cc:=by omega
 have e1:¬ 1=cc:=by omega
 rcases st with _|⟨⟨p,x⟩,st⟩
 · -- nothing is left
  simp only [hgtR,Option.some.injEq] at hr
  subst hr
  rcases o with _|id
  ·repeat' ((with_reducible first|refine wr ?_|refine wb2 ?_ ?_<;>(intro hb;try simp only [hb])|fail)<;>try simp only [go_sem,seval])
   exact pc_slc2 (u:=1) (baseH_1 c h) rfl (by simp [hlen]) (ints_unit h) ⟨[],by rw [cells_ints,List.append_nil]⟩
  ·repeat' ((with_reducible first|refine wr ?_|refine wb2 ?_ ?_<;>(intro hb;try simp only [hb])|fail)<;>try simp only [go_sem,seval,Int.natCast_zero,Int.ofNat_zero,Int.cast_ofNat_Int])
   exact pc_slc2 (u:=1) (blk:=⟨1,true,h.map I64⟩) (by obtain ⟨i2,i3⟩:=ho2 id rfl;simp only [Hp.upd];rw [if_neg (by omega)];exact baseH_1 c h) rfl (by simp [hlen]) (ints_unit h) ⟨[],by rw [cells_ints,List.append_nil]⟩
 rcases o with _|id
 ·exact absurd (ho rfl) (by simp)
 obtain ⟨i2,i3⟩:=ho2 id rfl
 have ne0:=nes5 0 1 id cc (cc+1) (by omega)
 rw [List.length_cons] at hb
 have hpos:decide (((st.length+1:Nat):Int)>0)=true:=by simp
 have hw:=w64 (n:=(((st.length+1:Nat):Int)-1)) (by omega) (by omega)
 have hw1:(((st.length+1:Nat):Int)-1)=(st.length:Int):=by omega
 rw [hw1] at hw
 obtain ⟨s1,s2,s3⟩:=hst (p,x) List.mem_cons_self
 simp only at s1 s2 s3
 have hst':∀ s∈st,s.1≤4000∧0≤s.2∧s.2≤50:=fun s hs=>hst s (List.mem_cons_of_mem _ hs)
 have hsl:=stC_len st
 have hcell:ldB 2 true (st.length * 2) (some ⟨2,true,stC ((p,x) :: st)++junk⟩)=some (.agg [I64 (p:Int),I64 x]):=by
  rw [b_ldn (by rw [stC_cons];simp [hsl])]
  rw [stC_cons,List.append_assoc,List.drop_left' hsl];rfl
 have htake:(stC ((p,x) :: st)++junk).take (st.length * 2)=stC st:=by rw [stC_cons,List.append_assoc,List.take_left' hsl]
 have hcl:st.length * 2≤(stC ((p,x) :: st)++junk).length:=by rw [stC_cons];simp [hsl]
 simp only [hgtR] at hr
 by_cases hp:h.length≤p
 ·rw [if_pos (.inl hp)] at hr
  cases hr
  have hd:decide ((p:Int)≥c.instrs.length)=true:=by simp;omega
  repeat' ((with_reducible first|refine wr ?_|refine wb2 ?_ ?_<;>(intro hb;try simp only [hb])|fail)<;>try simp only [go_sem,seval,List.length_cons,hw1,hw,hpos,hcell,hd,ne0,baseH_0,baseH_1,Nat.lt_add_one,Nat.le_add_right])
  all_goals exact pc_snil2
 have hp':p<h.length:=by omega
 have hpi:p<c.instrs.length:=by omega
 have hgh:=List.getElem?_eq_getElem hp'
 have hgi:=List.getElem?_eq_getElem hpi
 have hd:decide ((p:Int)≥c.instrs.length)=false:=by simp;omega
 have eh:h.getD p 0=h[p]:=by simp [List.getD,hgh]
 have ei:c.instrs.getD p ⟨0,0⟩=c.instrs[p]:=by simp [List.getD,hgi]
 rw [eh,ei] at hr
 have hput:=put_map (f:=I64) (l:=h) (n:=p) (a:=x) hp'
 have hle:p+1≤h.length:=hp'
 obtain ⟨b1,b2,b3,b4⟩:=eff_bd c.instrs[p].op
 have hal:=afterM_len c.instrs[p] p x
 have hmx:st.length+(afterM c.instrs[p] p x).length≤maxLen:=by simp only [maxLen];omega
 repeat' ((first|(with_reducible first|refine wr ?_|refine cpc (c_eff _) ?_|refine cpc (c_after c.instrs[p] p x s1 (by omega) (by omega) (fun hop=>(hjI _ (List.getElem_mem hpi) hop).1)) ?_)|(with_reducible refine wb2 ?_ ?_<;>(intro hb;try simp only [hb]))|((with_reducible refine k_eval (b_app hcl (by omega) hmx) ?_))|fail)<;>try simp only [go_sem,seval,List.length_cons,hw1,hw,hpos,hcell,hd,hgh,hgi,hpi,ne0,baseH_0,baseH_1,Nat.lt_add_one,Nat.le_add_right,hput,hle,htake,unit_stp])
 ·rw [if_pos (.inr (by simpa using hb))] at hr
  cases hr
  exact pc_snil2
 ·rw [if_neg (by simp_all),if_pos (by simp_all),if_pos (by simp_all)] at hr
  cases hr
  exact pc_snil2
 ·rw [if_neg (by simp_all),if_pos (by simp_all),if_neg (by simp_all)] at hr
  exact ⟨(m,h,st,some id,[I64 (p:Int),I64 x]++junk),rfl,by rw [← List.append_assoc, ← stC_cons];(intro j b hj;simp only [Hp.upd,Hp.del,Sym.nil,baseH,optH] at hj ⊢;(repeat' split at hj)<;>(repeat' split)<;>first|exact hj|(exfalso;omega)|cases hj),inv ⟨by omega,hlen,hst',by simp only;omega,by simp,fun i hi=>by cases hi;omega,hr⟩,by simp⟩
 ·rw [if_neg (by simp_all),if_neg (by simp_all),if_pos (.inl (by simpa using hb))] at hr
  cases hr
  exact pc_snil2
 ·rw [if_neg (by simp_all),if_neg (by simp_all),if_pos (.inr (by simp_all))] at hr
  cases hr
  exact pc_snil2
 all_goals
  rw [if_neg (by simp_all),if_neg (by simp_all),if_neg (by simp_all)] at hr
  have hbd:=afterM_bd (x:=x) li hpi (hjI _ (List.getElem_mem hpi)) s2 (by simp_all) (by simp_all)
  exact ⟨(m,h.set p x,(afterM c.instrs[p] p x).reverse++st,some (cc+1+1),[]),by simp [todoV];omega,by rw [stC_app,List.append_nil];(intro j b hj;simp only [Hp.upd,Hp.del,Sym.nil,baseH,optH] at hj ⊢;(repeat' split at hj)<;>(repeat' split)<;>first|exact hj|(exfalso;omega)|cases hj),
   inv ⟨by omega,by simp [hlen],fun s hs=>by
    rw [List.mem_append,List.mem_reverse] at hs
    rcases hs with hs|hs
    ·exact hbd s hs
    ·exact hst' s hs,by simp only [List.length_append,List.length_reverse];omega,by simp,fun i hi=>by cases hi;omega,hr⟩,by simp⟩
theorem c_heightsR (c:Prg) (hl:Lim c) (hj:jumpsM c=true) (n:Nat) (hn0:n≤100000) (r:Option (List Int)) (hr:hgtR c n (List.replicate c.instrs.length (-1)) (entR c)=some r):PC Tryz.prog 54 [c.v] (hgtV r):=by
 have hl0:=hl
 obtain ⟨wp,wv,ws,wi,wt,we,li,ls,le,lp,lv⟩:=hl
 have hms:=r_msl (sz:=1) (bytes:=8) (z:=[I64 0]) (k:=.i64) (k':=.i64) (n:=c.instrs.length) (by omega) (by omega) rfl rfl
 refine PC.of mixedU isU54 (Nat.le_of_ble_eq_true rfl) (by simp [DV.nlL,DV.nl,nlL_ints,nlL_strs,nlL_instrs,nlL_entries]) (by cases r<;>simp [hgtV,DV.nlL,DV.nl,nlL_ints]) ?_
 show IW Tryz.prog 123 u54_1 ⟨argT _,_,_⟩ (rt [.tmp 2,.tmp 3] _)
 repeat' ((with_reducible first|refine wr ?_|refine wb2 ?_ ?_<;>(intro hb;try simp only [hb])|fail)<;>try simp only [go_sem,seval,hms,madeL_one])
 -- every height is -1
 refine i_loop (fun k:Nat=>[(1,.ptr 0 0),(4,.slc 1 0 c.instrs.length),(5,I64 k)]) (fun k=>(nil.upd 0 ⟨0,true,c.cs⟩).upd 1 ⟨1,true,(fillM c.instrs.length k).map I64⟩) (fun k cc=>2≤cc∧k≤c.instrs.length) (fun k=>c.instrs.length-k) 0
  (by simp [tmLe,tm,Tm.upd]) (by simpa [fillM] using Sub.refl _) (by simp) ?_
 rintro k cc ⟨h2c,hk⟩
 by_cases hlt:k<c.instrs.length
 ·have hd:decide ((k:Int)<c.instrs.length)=true:=by simpa using hlt
  have hw:=w64 (n:=(k:Int)+1) (by omega) (by omega)
  have hlen:(fillM c.instrs.length k).length=c.instrs.length:=by simp [fillM];omega
  have hle:k+1≤c.instrs.length:=hlt
  have hput:=put_map (f:=I64) (l:=fillM c.instrs.length k) (n:=k) (a := -1) (by rw [hlen];exact hlt)
  repeat' ((with_reducible first|refine wr ?_|refine wb2 ?_ ?_<;>(intro hb;try simp only [hb])|fail)<;>try simp only [go_sem,seval,hd,hw,hlen,hle,hlt,hput,h_upd2])
  exact ⟨k+1,rfl,by rw [fillM_succ hlt];exact Sub.refl _,inv ⟨h2c,hlt⟩,by omega⟩
 have hd:decide ((k:Int)<c.instrs.length)=false:=by simpa using hlt
 have hfull:fillM c.instrs.length k=List.replicate c.instrs.length (-1):=by
  have:c.instrs.length-k=0:=by omega
  have hk2:k=c.instrs.length:=by omega
  simp [fillM,this,hk2]
 repeat' ((with_reducible first|refine wr ?_|refine wb2 ?_ ?_<;>(intro hb;try simp only [hb])|fail)<;>try simp only [go_sem,seval,hd,hfull])
 clear hd hfull hlt hk
 -- the entries
 have hjE:∀ e∈c.entries,0≤e.pos∧e.pos≤(c.instrs.length:Int)-1:=by
  intro e he
  simp only [jumpsM,Bool.and_eq_true,List.all_eq_true] at hj
  have:=hj.2 e he
  simpa [jumpE,inM] using this
 refine i_loop (fun p:Nat × Option Nat=>[(1,.ptr 0 0),(4,.slc 1 0 c.instrs.length),(6,todoV p.2 p.1),(7,I64 p.1)])
  (fun p=>optH ((nil.upd 0 ⟨0,true,c.cs⟩).upd 1 ⟨1,true,(List.replicate c.instrs.length (-1)).map I64⟩) p.2 ⟨2,true,entC c p.1⟩)
  (fun p cc=>2≤cc∧p.1≤c.entries.length∧(p.2=none→p.1=0)∧∀ i,p.2=some i→2≤i∧i<cc) (fun p=>c.entries.length-p.1) (0,none)
  (by simp [tmLe,tm,Tm.upd,todoV]) (Sub.refl _) (by simp;omega) ?_
 rintro ⟨k,o⟩ cc ⟨h2c,hk,hn,hs⟩
 simp only at hk hn hs
 by_cases hlt:k<c.entries.length
 ·have hd:decide ((k:Int)<c.entries.length)=true:=by simpa using hlt
  have hw:=w64 (n:=(k:Int)+1) (by omega) (by omega)
  have hg:=List.getElem?_eq_getElem hlt
  obtain ⟨p1,p2⟩:=hjE _ (List.getElem_mem hlt)
  have hpos:c.entries[k].pos=((c.entries[k].pos.toNat:Nat):Int):=by omega
  rcases o with _|id
  ·obtain rfl:=hn rfl
   have hd0:decide (0<(c.entries.length:Int))=true:=by simpa using hlt
   have hw0:=w64 (n:=1) (by omega) (by omega)
   have ne0:=nes4 0 1 cc (cc+1) (by omega)
   repeat' ((first|(with_reducible first|refine wr ?_)|(with_reducible refine wb2 ?_ ?_<;>(intro hb;try simp only [hb]))|((with_reducible refine k_eval (r_appn' (by decide) (by decide) (by decide)) ?_))|fail)<;>try simp only [go_sem,seval,hd0,hw0,hg,ne0])
   refine ⟨(1,some (cc+1)),?_,?_,inv ⟨by omega,hlt,by simp,by simp;omega⟩,by simp;omega⟩
   ·simp [todoV]
   ·rw [entC_succ hg, ← hpos]
    have hz:entC c 0=[]:=rfl
    rw [hz,List.nil_append]
    (intro j b hj;simp only [Hp.upd,Hp.del,Sym.nil,baseH,optH] at hj ⊢;(repeat' split at hj)<;>(repeat' split)<;>first|exact hj|(exfalso;omega)|cases hj)
  ·obtain ⟨q1,q2⟩:=hs id rfl
   have ne0:=nes5 0 1 id cc (cc+1) (by omega)
   have hel:=entC_len hk
   repeat' ((first|(with_reducible first|refine wr ?_)|(with_reducible refine wb2 ?_ ?_<;>(intro hb;try simp only [hb]))|((with_reducible refine k_eval (b_appx (by rw [hel]) (by omega) (by omega)) ?_))|fail)<;>try simp only [go_sem,seval,hd,hw,hg,ne0])
   refine ⟨(k+1,some (cc+1)),?_,?_,inv ⟨by omega,hlt,by simp,by simp;omega⟩,by simp;omega⟩
   ·simp [todoV]
   ·rw [entC_succ hg, ← hpos]
    (intro j b hj;simp only [Hp.upd,Hp.del,Sym.nil,baseH,optH] at hj ⊢;(repeat' split at hj)<;>(repeat' split)<;>first|exact hj|(exfalso;omega)|cases hj)
 have hd:decide ((k:Int)<c.entries.length)=false:=by simpa using hlt
 obtain rfl:k=c.entries.length:=by omega
 have he:entC c c.entries.length=stC (entR c)++[]:=by simp [entC,entR,stC]
 have hel:(entR c).length=c.entries.length:=by simp [entR]
 have hst:∀ s∈entR c,s.1≤4000∧0≤s.2∧s.2≤50:=by
  intro s hs
  simp only [entR,List.mem_reverse,List.mem_map] at hs
  obtain ⟨e,h1,rfl⟩:=hs
  have:=hjE e h1
  simp only [entP];omega
 have key:=l_heightsR c hl0 hj r n (List.replicate c.instrs.length (-1)) (entR c) o [] cc h2c (by simp) hst (by omega) (fun h=>List.eq_nil_of_length_eq_zero (by rw [hel];exact hn h)) hs hr
 rw [← he,hel] at key
 rcases o with _|id
 ·repeat' ((with_reducible first|refine wr ?_|refine wb2 ?_ ?_<;>(intro hb;try simp only [hb])|fail)<;>try simp only [go_sem,seval,hd])
  exact key
 ·obtain ⟨q1,q2⟩:=hs id rfl
  have ne0:=nes3 0 1 id (by omega)
  repeat' ((with_reducible first|refine wr ?_|refine wb2 ?_ ?_<;>(intro hb;try simp only [hb])|fail)<;>try simp only [go_sem,seval,hd,ne0])
  exact key
end Go.Proofs.YtcallbfckjlagaaGreat
namespace Go.Proofs.YtcallbfckjlagaaGreat
open Go.Eng (IC IOper DReg IFn IsFn)
open Go.Sym Go.Pb
theorem c_heightsR' (c:Prg) (hl:Lim c) (hj:jumpsM c=true):PC Tryz.prog 54 [c.v] (hgtV (hR c)):=by
 have h1:=hl.li
 have h2:=hl.le
 exact c_heightsR c hl hj (fuelR c) (by simp only [fuelR];omega) _ (hR_eq h1 hj)
theorem hgtV_some {h:List Int}:hgtV (some h)=.tup [ints h,.bool true]:=rfl
theorem hgtV_none:hgtV none=.tup [.lst [],.bool false]:=rfl
theorem c_validR (c:Prg) (hs:∀ s∈c.strings,s.length≤140737488355328) (n1:c.instrs.length≤9223372036854775807):PC Tryz.prog 34 [c.v] (I64 (validM c)):=by
 by_cases hL:limitsM c=true
 ·have hl:=Lim.of hL
  have hl0:=hl
  obtain ⟨wp,wv,ws,wi,wt,we,li,ls,le,lp,lv⟩:=hl
  have hL':=hL
  simp only [limitsM,Bool.and_eq_true,decide_eq_true_eq] at hL'
  obtain ⟨⟨⟨⟨⟨⟨h1,h2⟩,h3⟩,h4⟩,h5⟩,h6⟩,h7⟩:=hL'
  have d1:decide ((c.instrs.length:Int)>4000)=false:=by simp;omega
  have d2:decide ((c.strings.length:Int)>200)=false:=by simp;omega
  have d3:decide ((c.entries.length:Int)>512)=false:=by simp;omega
  have d4:decide ((c.prios.length:Int)>16)=false:=by simp;omega
  have d5:decide ((c.vars.length:Int)>128)=false:=by simp;omega
  by_cases hp:partsM c=true
  ·by_cases hj:jumpsM c=true
   ·refine PC.of mixedU isU34 (Nat.le_of_ble_eq_true rfl) (by simp [DV.nlL,DV.nl,nlL_ints,nlL_strs,nlL_instrs,nlL_entries,nlL_stp]) (by simp [DV.nlL,DV.nl,nlL_ints,nlL_strs,nlL_instrs,nlL_entries,nlL_stp]) ?_
    show IW Tryz.prog 79 u34_1 ⟨argT _,_,_⟩ (rt [.tmp 2] _)
    repeat' ((with_reducible first|refine wr ?_|refine cpc (c_in _ _ _) ?_|refine cpc (c_parts c hl0 hs) ?_|refine cpc (c_jumps c hl0) ?_|refine wb2 ?_ ?_<;>(intro hb;try simp only [hb])|fail)<;>try simp only [go_sem,seval,d1,d2,d3,d4,d5,h6,h7,hp,hj])
    refine i_loop (fun k:Nat=>[(1,.ptr 0 0),(3,I64 k)]) (fun _=>nil.upd 0 ⟨0,true,c.cs⟩) (fun k cc=>1≤cc∧1≤k∧(k≤c.entries.length∨k=1)∧chainM (c.entries.take k)=true) (fun k=>c.entries.length-k) 1 (by simp [tmLe,tm,Tm.upd]) (Sub.refl _) ⟨by omega,by omega,by omega,by cases c.entries<;>rfl⟩ ?_
    rintro k cc ⟨h1c,h1k,hk,he⟩
    by_cases hlt:k<c.entries.length
    ·have hd:decide ((k:Int)<c.entries.length)=true:=by simpa using hlt
     have hg:=List.getElem?_eq_getElem hlt
     have hlt':k-1<c.entries.length:=by omega
     have hg':=List.getElem?_eq_getElem hlt'
     have hw:=w64 (n:=(k:Int)+1) (by omega) (by omega)
     have hw1:=w64 (n:=(k:Int)-1) (by omega) (by omega)
     have hw2:(k:Int)-1=((k-1:Nat):Int):=by omega
     rw [hw2] at hw1
     repeat' ((with_reducible first|refine wr ?_|refine cpc (c_less _ _) ?_|refine wb2 ?_ ?_<;>(intro hb;try simp only [hb])|fail)<;>try simp only [go_sem,seval,hd,hg,hg',hw,hw2,hw1])
     ·refine pc_ret ?_
      have hf:=chain_fail h1k hg' hg (by simpa using hb)
      simp [validM,hL,hp,hj,hf]
     ·exact ⟨k+1,rfl,Sub.refl _,inv ⟨by omega,by omega,by omega,by rw [chain_take h1k hg' hg he];simpa using hb⟩,by omega⟩
    ·have hd:decide ((k:Int)<c.entries.length)=false:=by simp;omega
     have hch:chainM c.entries=true:=by
      rw [List.take_of_length_le (by omega)] at he;exact he
     cases hh:hR c with
     | none =>
      have key:=c_heightsR' c hl0 hj
      rw [hh,hgtV_none] at key
      repeat' ((with_reducible first|refine wr ?_|refine cpc key ?_|refine wb2 ?_ ?_<;>(intro hb;try simp only [hb])|fail)<;>try simp only [go_sem,seval,hd])
      refine pc_ret ?_
      simp [validM,hL,hp,hj,hch,hh]
     | some h =>
      have key:=c_heightsR' c hl0 hj
      rw [hh,hgtV_some] at key
      repeat' ((with_reducible first|refine wr ?_|refine cpc key ?_|refine wb2 ?_ ?_<;>(intro hb;try simp only [hb])|fail)<;>try simp only [go_sem,seval,hd])
      refine pc_ret ?_
      simp [validM,hL,hp,hj,hch,hh]
   ·have hj':jumpsM c=false:=by simpa using hj
    refine PC.of mixedU isU34 (Nat.le_of_ble_eq_true rfl) (by simp [DV.nlL,DV.nl,nlL_ints,nlL_strs,nlL_instrs,nlL_entries,nlL_stp]) (by simp [DV.nlL,DV.nl,nlL_ints,nlL_strs,nlL_instrs,nlL_entries,nlL_stp]) ?_
    show IW Tryz.prog 79 u34_1 ⟨argT _,_,_⟩ (rt [.tmp 2] _)
    repeat' ((with_reducible first|refine wr ?_|refine cpc (c_in _ _ _) ?_|refine cpc (c_parts c hl0 hs) ?_|refine cpc (c_jumps c hl0) ?_|refine wb2 ?_ ?_<;>(intro hb;try simp only [hb])|fail)<;>try simp only [go_sem,seval,d1,d2,d3,d4,d5,h6,h7,hp,hj'])
    refine pc_ret ?_
    simp [validM,hL,hp,hj']
  ·have hp':partsM c=false:=by simpa using hp
   refine PC.of mixedU isU34 (Nat.le_of_ble_eq_true rfl) (by simp [DV.nlL,DV.nl,nlL_ints,nlL_strs,nlL_instrs,nlL_entries,nlL_stp]) (by simp [DV.nlL,DV.nl,nlL_ints,nlL_strs,nlL_instrs,nlL_entries,nlL_stp]) ?_
   show IW Tryz.prog 79 u34_1 ⟨argT _,_,_⟩ (rt [.tmp 2] _)
   repeat' ((with_reducible first|refine wr ?_|refine cpc (c_in _ _ _) ?_|refine cpc (c_parts c hl0 hs) ?_|refine cpc (c_jumps c hl0) ?_|refine wb2 ?_ ?_<;>(intro hb;try simp only [hb])|fail)<;>try simp only [go_sem,seval,d1,d2,d3,d4,d5,h6,h7,hp'])
   refine pc_ret ?_
   simp [validM,hL,hp']
 ·have hL':limitsM c=false:=by simpa using hL
  refine PC.of mixedU isU34 (Nat.le_of_ble_eq_true rfl) (by simp [DV.nlL,DV.nl,nlL_ints,nlL_strs,nlL_instrs,nlL_entries,nlL_stp]) (by simp [DV.nlL,DV.nl,nlL_ints,nlL_strs,nlL_instrs,nlL_entries,nlL_stp]) ?_
  show IW Tryz.prog 79 u34_1 ⟨argT _,_,_⟩ (rt [.tmp 2] _)
  repeat' ((with_reducible first|refine wr ?_|refine cpc (c_in _ _ _) ?_|refine wb2 ?_ ?_<;>(intro hb;try simp only [hb])|fail)<;>try simp only [go_sem,seval])
  all_goals first
   | (refine pc_ret ?_;simp [validM,hL'];done)
   | (exfalso;apply hL;simp_all [limitsM];omega)
end Go.Proofs.YtcallbfckjlagaaGreat
namespace Go.Proofs.YtcallbfckjlagaaGreat
open Go.Eng (IC IOper DReg IFn IsFn)
open Go.Sym Go.Pb
theorem c_SameInts (a b:List Int) (n1:a.length≤9223372036854775807):PC Tryz.prog 11 [.lst (a.map I64),.lst (b.map I64)] (.bool (decide (a=b))):=by
 refine PC.of mixedU isU11 (Nat.le_of_ble_eq_true rfl) (by simp [DV.nlL,DV.nl,nlL_ints]) rfl ?_
 show IW Tryz.prog 26 u11_1 ⟨argT _,_,_⟩ (rt [.tmp 4] _)
 by_cases hl:a.length=b.length
 case neg =>
  have hne:((a.length:Int) != (b.length:Int))=true:=by simp;omega
  repeat' ((with_reducible first|refine wr ?_|refine wb2 ?_ ?_<;>(intro hb;try simp only [hb])|fail)<;>try simp only [go_sem,seval,List.length_map,hne])
  rw [decide_eq_false (fun e=>hl (by rw [e]))];exact pc_ret rfl
 have hne:((a.length:Int) != (b.length:Int))=false:=by simp;omega
 repeat' ((with_reducible first|refine wr ?_|refine wb2 ?_ ?_<;>(intro hb;try simp only [hb])|fail)<;>try simp only [go_sem,seval,List.length_map,hne])
 refine i_loop (fun k:Nat=>[(0,.lst (a.map I64)),(1,.lst (b.map I64)),(5,I64 k)]) (fun _=>nil) (fun k cc=>k≤a.length∧a.take k=b.take k) (fun k=>a.length-k) 0 (by simp [tmLe,tm,Tm.upd]) (Sub.nil _) (by simp) ?_
 rintro k cc ⟨hk,he⟩
 by_cases hlt:k<a.length
 ·have hd:decide ((k:Int)<a.length)=true:=by simpa using hlt
  have hlt2:k<b.length:=by omega
  have hg:=List.getElem?_eq_getElem hlt
  have hg2:=List.getElem?_eq_getElem hlt2
  have hw:=w64 (n:=(k:Int)+1) (by omega) (by omega)
  repeat' ((with_reducible first|refine wr ?_|refine wb2 ?_ ?_<;>(intro hb;try simp only [hb])|fail)<;>try simp only [go_sem,seval,List.length_map,hd,hg,hg2,hw])
  all_goals first
   | (refine ⟨k+1,rfl,Sub.nil _,inv ⟨hlt,(eqTo_step hg hg2 he).2 ?_⟩,by omega⟩;simpa using hb)
   | (rw [decide_eq_false (eq_fail hg hg2 ?_)];exact pc_ret rfl;simpa using hb)
 have hd:decide ((k:Int)<a.length)=false:=by simpa using hlt
 repeat' ((with_reducible first|refine wr ?_|refine wb2 ?_ ?_<;>(intro hb;try simp only [hb])|fail)<;>try simp only [go_sem,seval,List.length_map,hd])
 rw [decide_eq_true (eq_done hl (by omega) he)];exact pc_ret rfl
end Go.Proofs.YtcallbfckjlagaaGreat
namespace Go.Pb
open Go.Sym
abbrev Sm (n:Int):Prop := -4611686018427387904≤n∧n≤4611686018427387903
structure Bnd (c:Prg):Prop where
 ins:∀ i∈c.instrs,Sm i.op∧Sm i.A
 ent:∀ e∈c.entries,Sm e.mode∧Sm e.trigger∧Sm e.index∧Sm e.pos
 pri:∀ n∈c.prios,Sm n
 var:∀ n∈c.vars,Sm n
 tim:Sm c.timers
 evt:Sm c.events
 str:∀ s∈c.strings,s.length≤32
theorem sm_in {n lo hi:Int} (h:inM n lo hi=true) (h1 : -4611686018427387904≤lo) (h2:hi≤4611686018427387903):Sm n:=by
 simp only [inM,Bool.and_eq_true,decide_eq_true_eq] at h
 exact ⟨by omega,by omega⟩
theorem op_bd {op:Int} (h:(effM op).2.2 ≠ -1):1≤op∧op≤31:=by
 by_cases h2:1≤op∧op≤31
 ·exact h2
 ·exfalso;apply h
  have h101:¬op=1:=by omega
  have h102:¬op=2:=by omega
  have h103:¬op=3:=by omega
  have h104:¬op=4:=by omega
  have h105:¬op=5:=by omega
  have h106:¬op=6:=by omega
  have h107:¬op=7:=by omega
  have h108:¬op=8:=by omega
  have h109:¬op=9:=by omega
  have h110:¬op=10:=by omega
  have h111:¬op=11:=by omega
  have h112:¬op=12:=by omega
  have h113:¬op=13:=by omega
  have h114:¬op=14:=by omega
  have h115:¬op=15:=by omega
  have h116:¬op=16:=by omega
  have h117:¬op=17:=by omega
  have h118:¬op=18:=by omega
  have h119:¬op=19:=by omega
  have h120:¬op=20:=by omega
  have h121:¬op=21:=by omega
  have h122:¬op=22:=by omega
  have h123:¬op=23:=by omega
  have h124:¬op=24:=by omega
  have h125:¬op=25:=by omega
  have h126:¬op=26:=by omega
  have h127:¬op=27:=by omega
  have h128:¬op=28:=by omega
  have h129:¬op=29:=by omega
  have h130:¬op=30:=by omega
  have h131:¬op=31:=by omega
  have e:effM op=(0,0, -1):=by
   unfold effM
   rw [if_neg h101,if_neg h102,if_neg h103,if_neg h104,if_neg h105,if_neg h106,if_neg h107,if_neg h108,if_neg h109,if_neg h110,if_neg h111,if_neg h112,if_neg h113,if_neg h114,if_neg h115,if_neg h116,if_neg h117,if_neg h118,if_neg h119,if_neg h120,if_neg h121,if_neg h122,if_neg h123,if_neg h124,if_neg h125,if_neg h126,if_neg h127,if_neg h128,if_neg h129,if_neg h130,if_neg h131]
  rw [e]
theorem Lim.dims {c:Prg} (h:limitsM c=true):c.instrs.length≤4000∧c.strings.length≤200∧c.entries.length≤512∧c.prios.length≤16∧c.vars.length≤128∧0≤c.timers∧c.timers≤128∧0≤c.events∧c.events≤128:=by
 simp only [limitsM,inM,Bool.and_eq_true,decide_eq_true_eq] at h
 omega
theorem kind_sm {c:Prg} (hL:limitsM c=true) {k a:Int} (hJ:k≠7) (h:kindM c k a=true):Sm a:=by
 obtain ⟨d1,d2,d3,d4,d5,d6,d7,d8,d9⟩:=Lim.dims hL
 by_cases e0:k=0
 ·subst e0
  have h':decide (a=0)=true:=h
  simp only [decide_eq_true_eq] at h';exact ⟨by omega,by omega⟩
 by_cases e1:k=1
 ·subst e1;exact sm_in (lo:=(-2147483647)) (hi:=2147483647) h (by omega) (by omega)
 by_cases e2:k=2
 ·subst e2;exact sm_in (lo:=0) (hi:=(c.vars.length-1)) h (by omega) (by omega)
 by_cases e3:k=3
 ·subst e3;exact sm_in (lo:=0) (hi:=63) h (by omega) (by omega)
 by_cases e9:k=9
 ·subst e9;exact sm_in (lo:=0) (hi:=63) h (by omega) (by omega)
 by_cases e4:k=4
 ·subst e4;exact sm_in (lo:=0) (hi:=(c.prios.length-1)) h (by omega) (by omega)
 by_cases e5:k=5
 ·subst e5;exact sm_in (lo:=0) (hi:=(c.timers-1)) h (by omega) (by omega)
 by_cases e6:k=6
 ·subst e6;exact sm_in (lo:=12) (hi:=24) h (by omega) (by omega)
 by_cases e8:k=8
 ·subst e8;exact sm_in (lo:=0) (hi:=31) h (by omega) (by omega)
 by_cases e10:k=10
 ·subst e10;exact sm_in (lo:=0) (hi:=(c.events-1)) h (by omega) (by omega)
 by_cases e11:k=11
 ·subst e11;exact sm_in (lo:=0) (hi:=(c.strings.length-1)) h (by omega) (by omega)
 have:kindM c k a=false:=by
  unfold kindM
  rw [if_neg e0,if_neg e1,if_neg e2,if_neg e3,if_neg e9,if_neg e4,if_neg e5,if_neg e6,if_neg hJ,if_neg e8,if_neg e10,if_neg e11]
 rw [this] at h;cases h
theorem Bnd.of {c:Prg} (hL:limitsM c=true) (hp:partsM c=true) (hj:jumpsM c=true):Bnd c:=by
 obtain ⟨d1,d2,d3,d4,d5,d6,d7,d8,d9⟩:=Lim.dims hL
 simp only [partsM,Bool.and_eq_true,List.all_eq_true] at hp
 obtain ⟨⟨⟨⟨p1,p2⟩,p3⟩,p4⟩,p5⟩:=hp
 refine ⟨fun i hi=>?_,fun e he=>?_,fun n hn=>sm_in (p2 n hn) (by omega) (by omega),fun n hn=>sm_in (p3 n hn) (by omega) (by omega),⟨by omega,by omega⟩,⟨by omega,by omega⟩,fun s hs=>?_⟩
 ·have h:=p5 i hi
  have h7:=jump_bd hj i hi
  have hk:(effM i.op).2.2 ≠ -1:=by
   intro e;rw [numberM,e] at h;simp [kindM] at h
  obtain ⟨o1,o2⟩:=op_bd hk
  refine ⟨⟨by omega,by omega⟩,?_⟩
  by_cases hJ:(effM i.op).2.2=7
  ·have hop:i.op=12∨i.op=13∨i.op=14:=by
    have:=isJ_kind i.op
    rw [hJ] at this
    simpa [isJ] using this
   have:=h7 hop
   exact ⟨by omega,by omega⟩
  ·exact kind_sm hL hJ h
 ·have h:=p4 e he
  have h7:=ent_bd hj e he
  simp only [entryM,Bool.and_eq_true] at h
  obtain ⟨h1,h2⟩:=h
  refine ⟨sm_in h1 (by omega) (by omega),?_,?_,⟨by omega,by omega⟩⟩
  ·repeat' split at h2
   all_goals first
    | cases h2;done
    | exact ⟨by omega,by omega⟩
  ·repeat' split at h2
   all_goals first
    | exact sm_in h2 (by omega) (by omega)
    | (simp only [decide_eq_true_eq] at h2;exact ⟨by omega,by omega⟩)
    | cases h2
 ·have h:=p1 s hs
  simp only [printM,Bool.and_eq_true,decide_eq_true_eq] at h
  exact h.2
theorem valid_all {c:Prg} (h0:validM c=0):limitsM c=true∧partsM c=true∧jumpsM c=true∧chainM c.entries=true∧∃ h,hR c=some h:=by
 unfold validM at h0
 split at h0
 ·exact absurd h0 (by decide)
 split at h0
 ·exact absurd h0 (by decide)
 split at h0
 ·exact absurd h0 (by decide)
 split at h0
 ·exact absurd h0 (by decide)
 split at h0
 ·exact absurd h0 (by decide)
 ·rename_i h1 h2 h3 h4 h5
  refine ⟨by simpa using h1,by simpa using h2,by simpa using h3,by simpa using h4,?_⟩
  cases hh:hR c with
  | none=>rw [hh] at h5;exact absurd rfl h5
  | some h=>exact ⟨h,rfl⟩
theorem Bnd.valid {c:Prg} (h0:validM c=0):Bnd c :=
 let ⟨a,b,d,_⟩:=valid_all h0
 Bnd.of a b d
end Go.Pb
namespace Go.Pb
open Go.Sym
def nextM (l:List UInt8) (p:Nat) (n:Nat):Nat × Nat:=if l.length≤p then (0,p) else ((l.getD p 0).toNat % n,p+1)
abbrev tapeB (l:List UInt8) (p:Nat):Blk:=⟨0,true,[.lst (bytesC l),I64 (p:Int)]⟩
theorem getB {l:List UInt8} {p:Nat} (h:p<l.length):(bytesC l)[p]? = some (DV.int .u8 ((l.getD p 0).toNat:Int)):=by
 simp [bytesC,List.getD,h]
theorem wb64 (b:UInt8):IntKind.i64.wrap (b.toNat:Int)=(b.toNat:Int):=by
 have:=b.toNat_lt
 exact w64 (by omega) (by omega)
theorem nat_tmod (a b:Nat):(a:Int).tmod (b:Int)=((a % b:Nat):Int):=by simp [Int.tmod]
def pushT:List Int:=[0,1,2,3, -1,7,1000,2147483647, -2147483647,65536]
def valueM (l:List UInt8):Nat→Nat→List Ins × Nat
 | d,p =>
  let (k0,p):=nextM l p 9
  let k:=if d=0∧5<k0 then 0 else k0
  match k,d with
  | 1,_=>let (a,p):=nextM l p 3;([⟨2,a⟩],p)
  | 2,_=>let (a,p):=nextM l p 64;([⟨4,a⟩],p)
  | 3,_=>let (a,p):=nextM l p 2;([⟨5,a⟩],p)
  | 4,_=>let (a,p):=nextM l p 2;([⟨6,a⟩],p)
  | 5,_=>let (a,p):=nextM l p 2;([⟨7+a,0⟩],p)
  | 6,d+1=>let (v,p):=valueM l d p;let (a,p):=nextM l p 2;(v++[⟨9+a,0⟩],p)
  | 7,d+1=>let (v,p):=valueM l d p;let (w,p):=valueM l d p;let (a,p):=nextM l p 13;(v++w++[⟨11,12+a⟩],p)
  | 8,d+1=>let (v,p):=valueM l d p;let (w,p):=valueM l d p;let (a,p):=nextM l p 13;(v++w++[⟨11,12+a⟩],p)
  | _,_=>let (a,p):=nextM l p 10;([⟨1,pushT.getD a 0⟩],p)
theorem nextM_le {l:List UInt8} {p n:Nat} (h:p≤l.length):(nextM l p n).2≤l.length:=by
 unfold nextM;split<;>simp only<;>omega
theorem nextM_lt {l:List UInt8} {p n:Nat} (h:1≤n):(nextM l p n).1<n:=by
 unfold nextM;split
 ·exact h
 ·exact Nat.mod_lt _ h
def insC (l:List Ins):List DV:=cellsL (l.map Ins.v)
theorem insC_app (a b:List Ins):insC (a++b)=insC a++insC b:=by simp [insC,cellsL_append]
theorem insC_one (i:Ins):insC [i]=[I64 i.op,I64 i.A]:=by simp [insC,cellsL,DV.cells]
theorem insC_len (l:List Ins):(insC l).length=l.length * 2:=by
 unfold insC
 rw [cellsL_length (u:=2)]
 ·simp
 ·intro x hx;obtain ⟨y, -,rfl⟩:=List.mem_map.1 hx;rfl
theorem push_get {a:Nat} (h:a<10):[DV.int .i64 0,DV.int .i64 1,DV.int .i64 2,DV.int .i64 3,DV.int .i64 (-1),DV.int .i64 7,DV.int .i64 1000,DV.int .i64 2147483647,DV.int .i64 (-2147483647),DV.int .i64 65536][a]? = some (I64 (pushT.getD a 0)):=by
 match a,h with
 | 0,_ | 1,_ | 2,_ | 3,_ | 4,_ | 5,_ | 6,_ | 7,_ | 8,_ | 9,_=>rfl
theorem valueM_le (l:List UInt8):∀ (d p:Nat),p≤l.length→(valueM l d p).2≤l.length
 | d,p,h=>by
  have h1:=nextM_le (n:=9) h
  unfold valueM
  simp only
  generalize (if d=0∧5<(nextM l p 9).1 then 0 else (nextM l p 9).1)=k
  split
  ·exact nextM_le h1
  ·exact nextM_le h1
  ·exact nextM_le h1
  ·exact nextM_le h1
  ·exact nextM_le h1
  ·exact nextM_le (valueM_le l _ _ h1)
  ·exact nextM_le (valueM_le l _ _ (valueM_le l _ _ h1))
  ·exact nextM_le (valueM_le l _ _ (valueM_le l _ _ h1))
  ·exact nextM_le h1
theorem insC_len2 (l:List Ins):(insC l).length=l.length * 2:=insC_len l
theorem valueM_len (l:List UInt8):∀ (d p:Nat),(valueM l d p).1.length+1≤2 ^ (d+1)
 | d,p=>by
  have h0:1≤2 ^ d:=Nat.one_le_two_pow
  have h1:2 ^ (d+1)=2 * 2 ^ d:=by rw [Nat.pow_succ];omega
  unfold valueM
  simp only
  generalize (if d=0∧5<(nextM l p 9).1 then 0 else (nextM l p 9).1)=k
  split
  ·simp only [List.length_singleton];omega
  ·simp only [List.length_singleton];omega
  ·simp only [List.length_singleton];omega
  ·simp only [List.length_singleton];omega
  ·simp only [List.length_singleton];omega
  ·have a:=valueM_len l ‹_› (nextM l p 9).2
   simp only [List.length_append,List.length_singleton];omega
  ·rename_i d
   have a:=valueM_len l d (nextM l p 9).2
   have b:=valueM_len l d (valueM l d (nextM l p 9).2).2
   simp only [List.length_append,List.length_singleton];omega
  ·rename_i d
   have a:=valueM_len l d (nextM l p 9).2
   have b:=valueM_len l d (valueM l d (nextM l p 9).2).2
   simp only [List.length_append,List.length_singleton];omega
  ·simp only [List.length_singleton];omega
theorem valueM_6 {l:List UInt8} {d p p1:Nat} (e0:nextM l p 9=(6,p1)):valueM l (d+1) p=((valueM l d p1).1++[⟨9+((nextM l (valueM l d p1).2 2).1:Int),0⟩],(nextM l (valueM l d p1).2 2).2):=by
 conv=>lhs;unfold valueM
 rw [e0];rfl
theorem valueM_7 {l:List UInt8} {d p p1:Nat} (e0:nextM l p 9=(7,p1)):valueM l (d+1) p=((valueM l d p1).1++(valueM l d (valueM l d p1).2).1++[⟨11,12+((nextM l (valueM l d (valueM l d p1).2).2 13).1:Int)⟩],(nextM l (valueM l d (valueM l d p1).2).2 13).2):=by
 conv=>lhs;unfold valueM
 rw [e0];rfl
theorem valueM_8 {l:List UInt8} {d p p1:Nat} (e0:nextM l p 9=(8,p1)):valueM l (d+1) p=((valueM l d p1).1++(valueM l d (valueM l d p1).2).1++[⟨11,12+((nextM l (valueM l d (valueM l d p1).2).2 13).1:Int)⟩],(nextM l (valueM l d (valueM l d p1).2).2 13).2):=by
 conv=>lhs;unfold valueM
 rw [e0];rfl
end Go.Pb
namespace Go.Pb
open Go.Sym
def clM (n:Int):Int:=if 2147483647<n then 2147483647 else if n < -2147483647 then -2147483647 else n
theorem clM_max (n:Int):(if (2147483647:Int)<(if -2147483647>n then -2147483647 else n) then 2147483647 else (if -2147483647>n then -2147483647 else n))=clM n:=by
 unfold clM;split<;>split<;>(try split)<;>omega
theorem clM_min (n:Int):(if (if n<2147483647 then n else 2147483647)>(-2147483647:Int) then (if n<2147483647 then n else 2147483647) else -2147483647)=clM n:=by
 unfold clM;split<;>split<;>(try split)<;>omega
theorem clM_bd (n:Int) : -2147483647≤clM n∧clM n≤2147483647:=by
 unfold clM;split<;>(try split)<;>omega
def bitM (b:Bool):Int:=if b=true then 1 else 0
def unM (k a:Int):Int:=if k=10 then -clM a else if k=11 then bitM (clM a == 0) else 0
def bzM (k A B:Int):Int :=
 if k=12 then clM (A * B) else if k=13 then (if B=0 then 0 else A.tdiv B) else if k=14 then (if B=0 then 0 else A.tmod B) else if k=15 then clM (A+B)
 else if k=16 then clM (A-B) else if k=17 then bitM (decide (A<B)) else if k=18 then bitM (decide (A≤B)) else if k=19 then bitM (decide (A>B)) else if k=20 then bitM (decide (A≥B))
 else if k=21 then bitM (A == B) else if k=22 then bitM (A != B) else if k=23 then bitM (A != 0 && B != 0) else if k=24 then bitM (A != 0 || B != 0) else 0
def binM (k a b:Int):Int:=bzM k (clM a) (clM b)
theorem mul_bd {A B:Int} (a : -2147483647≤A∧A≤2147483647) (b : -2147483647≤B∧B≤2147483647) : -9223372036854775808≤A * B∧A * B≤9223372036854775807:=by
 have h:(A * B).natAbs≤2147483647 * 2147483647:=by
  rw [Int.natAbs_mul]
  exact Nat.mul_le_mul (by omega) (by omega)
 omega
theorem quo_bd {A B:Int} (a : -2147483647≤A∧A≤2147483647) : -2147483647≤A.tdiv B∧A.tdiv B≤2147483647:=by
 have h:(A.tdiv B).natAbs≤A.natAbs:=by
  rw [Int.natAbs_tdiv]
  exact Nat.div_le_self _ _
 omega
structure Eff where
 kind:Int
 A:Int
 b:Int
 c:Int
 text:List UInt8
deriving DecidableEq
structure Envr where
 vars:List Int
 left:List Int
 closed:Nat
 active:Nat
 player:Int
 ball:Int
structure Mch where
 pc:Nat
 done:Bool
 vars:List Int
 stk:List Int
 effs:List Eff
abbrev Eff.v (e:Eff):DV:=.agg [I64 e.kind,I64 e.A,I64 e.b,I64 e.c,.str e.text]
abbrev Envr.cs (e:Envr):List DV:=[ints e.vars,ints e.left,.int .u64 (e.closed:Int),.int .u32 (e.active:Int),I64 e.player,I64 e.ball]
abbrev Envr.v (e:Envr):DV:=.agg e.cs
def effC (l:List Eff):List DV:=cellsL (l.map Eff.v)
theorem effC_app (a b:List Eff):effC (a++b)=effC a++effC b:=by simp [effC,cellsL_append]
theorem effC_one (e:Eff):effC [e]=[I64 e.kind,I64 e.A,I64 e.b,I64 e.c,.str e.text]:=by simp [effC,cellsL,DV.cells]
theorem eff_unit (l:List Eff):∀ x∈l.map Eff.v,x.cells.length=5:=by
 intro x hx;obtain ⟨y, -,rfl⟩:=List.mem_map.1 hx;rfl
theorem effC_len (l:List Eff):(effC l).length=l.length * 5:=by
 rw [effC,cellsL_length (u:=5) (eff_unit l)];simp
theorem nlL_effs (l:List Eff):DV.nlL (l.map Eff.v)=true:=nlL_map (fun _=>rfl) l
def Mch.push (x:Mch) (n:Int):Mch:={ x with stk:=n :: x.stk }
def Mch.pop (x:Mch):Mch:={ x with stk:=x.stk.tail }
def Mch.top (x:Mch):Int:=x.stk.headD 0
def Mch.ask (x:Mch) (e:Eff):Mch:={ x with effs:=x.effs++[e] }
def opM (c:Prg) (e:Envr) (op A:Int) (x:Mch):Mch :=
 if op=1 then x.push A
 else if op=2 then x.push (x.vars.getD A.toNat 0)
 else if op=3 then { x.pop with vars:=x.vars.set A.toNat x.top }
 else if op=4 then x.push ((e.closed / 2 ^ A.toNat % 2:Nat):Int)
 else if op=5 then x.push ((e.active / 2 ^ A.toNat % 2:Nat):Int)
 else if op=6 then x.push (e.left.getD A.toNat 0)
 else if op=7 then x.push e.player
 else if op=8 then x.push e.ball
 else if op=9 then x.pop.push (unM 10 x.top)
 else if op=10 then x.pop.push (unM 11 x.top)
 else if op=11 then x.pop.pop.push (binM A x.pop.top x.top)
 else if op=12 then { x with pc:=A.toNat }
 else if op=13 then (if x.top=0 then { x.pop with pc:=A.toNat } else x.pop)
 else if op=14 then (if x.top≤0 then { x.pop with pc:=A.toNat } else x.pop.push (x.top-1))
 else if op=15∨op=19∨op=21 then x.pop.ask ⟨op,A,x.top,0,[]⟩
 else if op=20 then x.pop.pop.ask ⟨op,A,x.pop.top,x.top,[]⟩
 else if op=29 then x.pop.ask ⟨op,0,x.top,0,c.strings.getD A.toNat []⟩
 else if op=31 then { x with done:=true }
 else x.ask ⟨op,A,0,0,[]⟩
def stepM (c:Prg) (e:Envr) (x:Mch):Mch:=opM c e (c.instrs.getD x.pc ⟨0,0⟩).op (c.instrs.getD x.pc ⟨0,0⟩).A { x with pc:=x.pc+1 }
end Go.Pb
namespace Go.Sym
open Go.Eng (IC)
def Hold (p:Prop):Prop:=p
theorem hold {p:Prop} (h:Hold p):p:=h
def jn (H F:Hp):Hp:=fun j=>match H j with
 | some b=>some b
 | none=>F j
theorem jn_l {H F:Hp} {j:Nat} {b:Blk} (h:H j=some b):jn H F j=some b:=by simp only [jn,h]
theorem jn_r {H F:Hp} {j:Nat} (h:H j=none):jn H F j=F j:=by simp only [jn,h]
theorem jn_i {H F:Hp} {j:Nat} {b:Blk} (h:jn H F j=some b):H j=some b∨(H j=none∧F j=some b):=by
 cases hj:H j with
 | some b0=>rw [jn_l hj] at h;exact .inl (by rw [← h])
 | none=>rw [jn_r hj] at h;exact .inr ⟨rfl,h⟩
theorem AC.frame {P:Program} {f:Nat} {args:List DV} {H F:Hp} {c:Nat} {Q:DV→Hp→Nat→Prop} (h:AC P f args H c Q) (hd:∀ j,F j≠none→H j=none) :
  AC P f args (jn H F) c (fun v H' c' => ∃ H1,Q v H1 c'∧(∀ j,F j≠none→H1 j=none)∧H'=jn H1 F):=by
 refine ⟨h.1,fun ρ w vs hR hf hA=>?_⟩
 have jF:∀ {j b},F j=some b→jn H F j=some b:=fun {j b} hj=>by rw [jn_r (hd j (by rw [hj];simp))];exact hj
 refine (h.2 ρ w vs (hR.less fun j=>?_) hf hA).mono ?_
 ·cases hj:H j with
  | none=>exact .inl rfl
  | some b=>exact .inr (jn_l hj).symm
 rintro e w' ⟨v,v',H1,c1, ρ1,rfl,q,d⟩
 have nF:∀ {j b},F j=some b→∃ t, ρ.nm j=some t∧BRel ρ b t w:=fun {j b} hj=>hR.blk j b (jF hj)
 have ltF:∀ {j b},F j=some b→j<c:=fun {j b} hj=>by
  obtain ⟨t,ht, -⟩:=nF hj
  by_cases e:j<c
  ·exact e
  ·rw [hf j (by omega)] at ht;cases ht
 have dF:∀ {j b},F j=some b→H1 j=none:=fun {j b} hj=>by
  cases h1:H1 j with
  | none=>rfl
  | some b1=>exact absurd (hd j (by rw [hj];simp)) (d.dom j (ltF hj) (by rw [h1];simp))
 have sFH:∀ {i j bi bj ti tj},H i=some bi→F j=some bj → ρ.nm i=some ti → ρ.nm j=some tj→(bi.own=true∨bj.own=true)→ti.block≠tj.block:=fun {i j bi bj ti tj} hi hj h1 h2 ho=>by
  have hij:i≠j:=fun e=>by subst e;rw [hd i (by rw [hj];simp)] at hi;cases hi
  rcases ho with ho|ho
  ·exact hR.sep i j bi bj ti tj (jn_l hi) (jF hj) hij h1 h2 ho
  ·exact (hR.sep j i bj bi tj ti (jF hj) (jn_l hi) (Ne.symm hij) h2 h1 ho).symm
 have row:∀ {j b t},F j=some b → ρ.nm j=some t→w'.heap[t.block]? = w.heap[t.block]? := fun {j b t} hj ht=>by
  obtain ⟨t2,ht2,hb⟩:=nF hj
  rw [ht] at ht2;cases ht2
  exact d.ext.keep t.block hb.lt fun id b0 t0 h1 ho h2=>sFH h1 hj h2 ht (.inl ho)
 have nm1:∀ {j b},F j=some b → ρ1.nm j = ρ.nm j:=fun {j b} hj=>d.same j (ltF hj)
 have sep1:∀ {i j bi bj ti tj},H1 i=some bi→F j=some bj → ρ1.nm i=some ti → ρ.nm j=some tj→(bi.own=true∨bj.own=true)→ti.block≠tj.block:=fun {i j bi bj ti tj} hi hj h1 h2 ho=>by
  obtain ⟨t2,ht2,hb⟩:=nF hj
  rw [h2] at ht2;cases ht2
  have:=hb.lt
  rcases d.ext.mine i bi ti hi h1 with h3|⟨i0,b0,t0,e1,e2,e3,e4⟩
  ·omega
  ·rw [← e4]
   exact sFH e1 hj e3 h2 (ho.imp e2 id)
 refine ⟨v,v',jn H1 F,c1, ρ1,rfl,⟨H1,q,fun j hj=>?_,rfl⟩,d.val,?_,d.fresh,d.up,fun j hj hne=>?_,d.same,?_⟩
 ·cases h1:F j with
  | none=>exact absurd h1 hj
  | some b=>exact dF h1
 ·refine ⟨fun j b hb=>?_,fun i j bi bj ti tj hi hj hij h1 h2 ho=>?_,d.rep.frz,fun j b t hb ho ht=>?_⟩
  ·rcases jn_i hb with h1|⟨-,h1⟩
   ·exact d.rep.blk j b h1
   ·obtain ⟨t,ht,hbr⟩:=nF h1
    exact ⟨t,by rw [nm1 h1];exact ht,(hbr.mono d.ext.le).world (row h1 ht)⟩
  ·rcases jn_i hi with h3|⟨-,h3⟩<;>rcases jn_i hj with h4|⟨-,h4⟩
   ·exact d.rep.sep i j bi bj ti tj h3 h4 hij h1 h2 ho
   ·rw [nm1 h4] at h2
    exact sep1 h3 h4 h1 h2 (.inl ho)
   ·rw [nm1 h3] at h1
    exact (sep1 h4 h3 h2 h1 (.inr ho)).symm
   ·rw [nm1 h3] at h1
    rw [nm1 h4] at h2
    exact hR.sep i j bi bj ti tj (jF h3) (jF h4) hij h1 h2 ho
  ·rcases jn_i hb with h1|⟨-,h1⟩
   ·exact d.rep.dis j b t h1 ho ht
   ·rw [nm1 h1] at ht
    cases hf1 : ρ1.fz t.block with
    | none=>rfl
    | some r =>
     rcases d.ext.fzn _ _ hf1 with h3|h3|⟨i,b0,t0,e1,e2,e3,e4⟩
     ·rw [hR.dis j b t (jF h1) ho ht] at h3;cases h3
     ·obtain ⟨t2,ht2,hb2⟩:=nF h1
      rw [ht] at ht2;cases ht2
      have:=hb2.lt;omega
     ·exact absurd e4 (sFH e1 h1 e3 ht (.inl e2))
 ·cases h1:H1 j with
  | some b1 =>
   have h2:=d.dom j hj (by rw [h1];simp)
   cases h3:H j with
   | none=>exact absurd h3 h2
   | some b3=>rw [jn_l h3];simp
  | none =>
   rw [jn_r h1] at hne
   cases h3:F j with
   | none=>exact absurd h3 hne
   | some b3=>rw [jF h3];simp
 ·refine ⟨d.ext.le,d.ext.os,d.ext.tape,d.ext.output,d.ext.size,fun k hk hn=>d.ext.keep k hk fun id b t h1 ho h2=>hn id b t (jn_l h1) ho h2,fun j b t hb ht=>?_,fun k r hk=>?_⟩
  ·rcases jn_i hb with h1|⟨-,h1⟩
   ·rcases d.ext.mine j b t h1 ht with h3|⟨i,b0,t0,e1,e2,e3,e4⟩
    ·exact .inl h3
    ·exact .inr ⟨i,b0,t0,jn_l e1,e2,e3,e4⟩
   ·rw [nm1 h1] at ht
    exact .inr ⟨j,b,t,jF h1,id,ht,rfl⟩
  ·rcases d.ext.fzn k r hk with h1|h1|⟨i,b0,t0,e1,e2,e3,e4⟩
   ·exact .inl h1
   ·exact .inr (.inl h1)
   ·exact .inr (.inr ⟨i,b0,t0,jn_l e1,e2,e3,e4⟩)
theorem AC.beside {P:Program} {f:Nat} {args:List DV} {H:Hp} {c k:Nat} {Q:DV→Hp→Nat→Prop} (h:AC P f args H c Q) (hk:H k=none) (b:Blk) :
  AC P f args (H.upd k b) c (fun v H' c' => ∃ H1,Q v H1 c'∧H1 k=none∧H'=H1.upd k b):=by
 have e:∀ X:Hp,X k=none→jn X (Sym.nil.upd k b)=X.upd k b:=fun X hX=>by
  funext j
  by_cases ej:j=k
  ·subst ej;rw [jn_r hX,h_same,h_same]
  ·rw [h_ne ej]
   cases hj:X j with
   | none=>rw [jn_r hj,h_ne ej];rfl
   | some b=>exact jn_l hj
 have hn:∀ j,(Sym.nil.upd k b) j≠none→j=k:=fun j hj=>by
  by_cases ej:j=k
  ·exact ej
  ·rw [h_ne ej] at hj;exact absurd rfl hj
 have:=h.frame (F:=Sym.nil.upd k b) (fun j hj=>by rw [hn j hj];exact hk)
 rw [e H hk] at this
 refine this.mono ?_
 rintro v H' c' ⟨H1,q,h1,rfl⟩
 have h2:H1 k=none:=h1 k (by rw [h_same];simp)
 exact ⟨H1,q,h2,e H1 h2⟩
end Go.Sym
namespace Go.Proofs.YtcallbfckjlagaaGreat
open Go.Eng (IC IOper DReg IFn IsFn)
open Go.Sym Go.Pb
section
abbrev u27_2:IC:=qS [oM 3 0,oP 4 (.mx (.t 3) (.k (.int .i64 (-2147483647)))),oP 5 (.mn (.t 4) (.k (.int .i64 2147483647))),oM 2 5] .ret [0]
abbrev u27_1:IC:=qS [oI 2 0] u27_2 [0]
def u27:IFn:=⟨6,u27_1,[.tmp 2]⟩
end
theorem isU27:IsFn Tryz.prog 27 u27:=by unfold IsFn;kernel_rfl
section
abbrev u56_5:IC:=qS [oI 2 1] .ret []
abbrev u56_4:IC:=qK u56_5 .skip (.t 3) [3]
abbrev u56_3:IC:=qS [oM 3 0] u56_4 [0]
abbrev u56_6:IC:=qS [oI 2 0] .ret []
abbrev u56_2:IC:=qQ u56_3 u56_6 [0]
abbrev u56_1:IC:=qS [oI 2 0] u56_2 [0]
def u56:IFn:=⟨4,u56_1,[.tmp 2]⟩
end
theorem isU56:IsFn Tryz.prog 56 u56:=by unfold IsFn;kernel_rfl
section
abbrev u41_8:IC:=qS [oM 10 1,oP 11 (.un .neg (.t 10)),oM 4 11] .ret [1]
abbrev u41_11:IC:=qS [oM 14 1,oK 15 14 .eql 0,oC 16 56 [.t 15],oM 4 16] .ret [1]
abbrev u41_10:IC:=qK u41_11 .skip (.t 12) [1,12]
abbrev u41_9:IC:=qS [oK 13 7 .eql 11,oM 12 13] u41_10 [1,7]
abbrev u41_7:IC:=qK u41_8 u41_9 (.t 8) [1,7,8]
abbrev u41_6:IC:=qS [oK 9 7 .eql 10,oM 8 9] u41_7 [1,7]
abbrev u41_5:IC:=qJ u41_6 0 [1,7]
abbrev u41_4:IC:=qS [oM 7 0] u41_5 [0,1]
abbrev u41_12:IC:=qS [oI 4 0] .ret []
abbrev u41_3:IC:=qQ u41_4 u41_12 [0,1]
abbrev u41_2:IC:=qS [oM 5 1,oC 6 27 [.t 5],oM 1 6] u41_3 [0,1]
abbrev u41_1:IC:=qS [oI 4 0] u41_2 [0,1]
def u41:IFn:=⟨17,u41_1,[.tmp 4]⟩
end
theorem isU41:IsFn Tryz.prog 41 u41:=by unfold IsFn;kernel_rfl
section
abbrev u42_8:IC:=qS [oM 14 1,oM 15 2,oB 16 14 15 .mul,oC 17 27 [.t 16],oM 6 17] .ret [1,2]
abbrev u42_13:IC:=qS [oM 22 1,oM 23 2,oB 24 22 23 .quo,oM 6 24] .ret [1,2]
abbrev u42_12:IC:=qK u42_13 .skip (.t 21) [1,2,21]
abbrev u42_11:IC:=qS [oM 20 2,oK 21 20 .neq 0] u42_12 [1,2]
abbrev u42_18:IC:=qS [oM 29 1,oM 30 2,oB 31 29 30 .rem,oM 6 31] .ret [1,2]
abbrev u42_17:IC:=qK u42_18 .skip (.t 28) [1,2,28]
abbrev u42_16:IC:=qS [oM 27 2,oK 28 27 .neq 0] u42_17 [1,2]
abbrev u42_21:IC:=qS [oM 34 1,oM 35 2,oB 36 34 35 .add,oC 37 27 [.t 36],oM 6 37] .ret [1,2]
abbrev u42_24:IC:=qS [oM 40 1,oM 41 2,oB 42 40 41 .sub,oC 43 27 [.t 42],oM 6 43] .ret [1,2]
abbrev u42_27:IC:=qS [oM 46 1,oM 47 2,oB 48 46 47 .lss,oC 49 56 [.t 48],oM 6 49] .ret [1,2]
abbrev u42_30:IC:=qS [oM 52 1,oM 53 2,oB 54 52 53 .leq,oC 55 56 [.t 54],oM 6 55] .ret [1,2]
abbrev u42_33:IC:=qS [oM 58 1,oM 59 2,oB 60 58 59 .gtr,oC 61 56 [.t 60],oM 6 61] .ret [1,2]
abbrev u42_36:IC:=qS [oM 64 1,oM 65 2,oB 66 64 65 .geq,oC 67 56 [.t 66],oM 6 67] .ret [1,2]
abbrev u42_39:IC:=qS [oM 70 1,oM 71 2,oB 72 70 71 .eql,oC 73 56 [.t 72],oM 6 73] .ret [1,2]
abbrev u42_42:IC:=qS [oM 76 1,oM 77 2,oB 78 76 77 .neq,oC 79 56 [.t 78],oM 6 79] .ret [1,2]
abbrev u42_45:IC:=qS [oM 82 1,oK 83 82 .neq 0,oM 84 83,gM 85 2 84,gK 86 85 84 .neq 0,oJ 87 84 86,oC 88 56 [.t 87],oM 6 88] .ret [1,2]
abbrev u42_48:IC:=qS [oM 91 1,oK 92 91 .neq 0,oM 93 92,hM 94 2 93,hK 95 94 93 .neq 0,oO 96 93 95,oC 97 56 [.t 96],oM 6 97] .ret [1,2]
abbrev u42_47:IC:=qK u42_48 .skip (.t 89) [1,2,89]
abbrev u42_46:IC:=qS [oK 90 11 .eql 24,oM 89 90] u42_47 [1,2,11]
abbrev u42_44:IC:=qK u42_45 u42_46 (.t 80) [1,2,11,80]
abbrev u42_43:IC:=qS [oK 81 11 .eql 23,oM 80 81] u42_44 [1,2,11]
abbrev u42_41:IC:=qK u42_42 u42_43 (.t 74) [1,2,11,74]
abbrev u42_40:IC:=qS [oK 75 11 .eql 22,oM 74 75] u42_41 [1,2,11]
abbrev u42_38:IC:=qK u42_39 u42_40 (.t 68) [1,2,11,68]
abbrev u42_37:IC:=qS [oK 69 11 .eql 21,oM 68 69] u42_38 [1,2,11]
abbrev u42_35:IC:=qK u42_36 u42_37 (.t 62) [1,2,11,62]
abbrev u42_34:IC:=qS [oK 63 11 .eql 20,oM 62 63] u42_35 [1,2,11]
abbrev u42_32:IC:=qK u42_33 u42_34 (.t 56) [1,2,11,56]
abbrev u42_31:IC:=qS [oK 57 11 .eql 19,oM 56 57] u42_32 [1,2,11]
abbrev u42_29:IC:=qK u42_30 u42_31 (.t 50) [1,2,11,50]
abbrev u42_28:IC:=qS [oK 51 11 .eql 18,oM 50 51] u42_29 [1,2,11]
abbrev u42_26:IC:=qK u42_27 u42_28 (.t 44) [1,2,11,44]
abbrev u42_25:IC:=qS [oK 45 11 .eql 17,oM 44 45] u42_26 [1,2,11]
abbrev u42_23:IC:=qK u42_24 u42_25 (.t 38) [1,2,11,38]
abbrev u42_22:IC:=qS [oK 39 11 .eql 16,oM 38 39] u42_23 [1,2,11]
abbrev u42_20:IC:=qK u42_21 u42_22 (.t 32) [1,2,11,32]
abbrev u42_19:IC:=qS [oK 33 11 .eql 15,oM 32 33] u42_20 [1,2,11]
abbrev u42_15:IC:=qK u42_16 u42_19 (.t 25) [1,2,11,25]
abbrev u42_14:IC:=qS [oK 26 11 .eql 14,oM 25 26] u42_15 [1,2,11]
abbrev u42_10:IC:=qK u42_11 u42_14 (.t 18) [1,2,11,18]
abbrev u42_9:IC:=qS [oK 19 11 .eql 13,oM 18 19] u42_10 [1,2,11]
abbrev u42_7:IC:=qK u42_8 u42_9 (.t 12) [1,2,11,12]
abbrev u42_6:IC:=qS [oK 13 11 .eql 12,oM 12 13] u42_7 [1,2,11]
abbrev u42_5:IC:=qJ u42_6 0 [1,2,11]
abbrev u42_4:IC:=qS [oM 11 0] u42_5 [0,1,2]
abbrev u42_49:IC:=qS [oI 6 0] .ret []
abbrev u42_3:IC:=qQ u42_4 u42_49 [0,1,2]
abbrev u42_2:IC:=qS [oM 7 1,oC 8 27 [.t 7],oM 9 2,oC 10 27 [.t 9],oM 1 8,oM 2 10] u42_3 [0,1,2]
abbrev u42_1:IC:=qS [oI 6 0] u42_2 [0,1,2]
def u42:IFn:=⟨98,u42_1,[.tmp 6]⟩
end
theorem isU42:IsFn Tryz.prog 42 u42:=by unfold IsFn;kernel_rfl
section
abbrev u19_2:IC:=qS [oM 3 0,oP 4 (.mn (.k (.int .i64 2147483647)) (.t 3)),oP 5 (.mx (.k (.int .i64 (-2147483647))) (.t 4)),oM 2 5] .ret [0]
abbrev u19_1:IC:=qS [oI 2 0] u19_2 [0]
def u19:IFn:=⟨6,u19_1,[.tmp 2]⟩
end
theorem isU19:IsFn Tryz.prog 19 u19:=by unfold IsFn;kernel_rfl
section
abbrev u97_5:IC:=qS [oI 2 1] .ret []
abbrev u97_4:IC:=qK u97_5 .skip (.t 3) [3]
abbrev u97_3:IC:=qS [oM 3 0] u97_4 [0]
abbrev u97_6:IC:=qS [oI 2 0] .ret []
abbrev u97_2:IC:=qQ u97_3 u97_6 [0]
abbrev u97_1:IC:=qS [oI 2 0] u97_2 [0]
def u97:IFn:=⟨4,u97_1,[.tmp 2]⟩
end
theorem isU97:IsFn Tryz.prog 97 u97:=by unfold IsFn;kernel_rfl
section
abbrev u67_8:IC:=qS [oM 10 1,oP 11 (.un .neg (.t 10)),oM 4 11] .ret [1]
abbrev u67_11:IC:=qS [oM 14 1,oK 15 14 .eql 0,oC 16 97 [.t 15],oM 4 16] .ret [1]
abbrev u67_10:IC:=qK u67_11 .skip (.t 12) [1,12]
abbrev u67_9:IC:=qS [oK 13 7 .eql 11,oM 12 13] u67_10 [1,7]
abbrev u67_7:IC:=qK u67_8 u67_9 (.t 8) [1,7,8]
abbrev u67_6:IC:=qS [oK 9 7 .eql 10,oM 8 9] u67_7 [1,7]
abbrev u67_5:IC:=qJ u67_6 0 [1,7]
abbrev u67_4:IC:=qS [oM 7 0] u67_5 [0,1]
abbrev u67_12:IC:=qS [oI 4 0] .ret []
abbrev u67_3:IC:=qQ u67_4 u67_12 [0,1]
abbrev u67_2:IC:=qS [oM 5 1,oC 6 19 [.t 5],oM 1 6] u67_3 [0,1]
abbrev u67_1:IC:=qS [oI 4 0] u67_2 [0,1]
def u67:IFn:=⟨17,u67_1,[.tmp 4]⟩
end
theorem isU67:IsFn Tryz.prog 67 u67:=by unfold IsFn;kernel_rfl
section
abbrev u68_8:IC:=qS [oM 14 1,oM 15 2,oB 16 14 15 .mul,oC 17 19 [.t 16],oM 6 17] .ret [1,2]
abbrev u68_14:IC:=qS [oI 6 0] .ret []
abbrev u68_13:IC:=qK u68_14 .skip (.t 21) [1,2,21]
abbrev u68_12:IC:=qS [oM 20 2,oK 21 20 .eql 0] u68_13 [1,2]
abbrev u68_15:IC:=qS [oM 22 1,oM 23 2,oB 24 22 23 .quo,oM 6 24] .ret [1,2]
abbrev u68_11:IC:=qQ u68_12 u68_15 [1,2]
abbrev u68_21:IC:=qS [oI 6 0] .ret []
abbrev u68_20:IC:=qK u68_21 .skip (.t 28) [1,2,28]
abbrev u68_19:IC:=qS [oM 27 2,oK 28 27 .eql 0] u68_20 [1,2]
abbrev u68_22:IC:=qS [oM 29 1,oM 30 2,oB 31 29 30 .rem,oM 6 31] .ret [1,2]
abbrev u68_18:IC:=qQ u68_19 u68_22 [1,2]
abbrev u68_25:IC:=qS [oM 34 1,oM 35 2,oB 36 34 35 .add,oC 37 19 [.t 36],oM 6 37] .ret [1,2]
abbrev u68_28:IC:=qS [oM 40 1,oM 41 2,oB 42 40 41 .sub,oC 43 19 [.t 42],oM 6 43] .ret [1,2]
abbrev u68_31:IC:=qS [oM 46 1,oM 47 2,oB 48 46 47 .lss,oC 49 97 [.t 48],oM 6 49] .ret [1,2]
abbrev u68_34:IC:=qS [oM 52 1,oM 53 2,oB 54 52 53 .leq,oC 55 97 [.t 54],oM 6 55] .ret [1,2]
abbrev u68_37:IC:=qS [oM 58 1,oM 59 2,oB 60 58 59 .gtr,oC 61 97 [.t 60],oM 6 61] .ret [1,2]
abbrev u68_40:IC:=qS [oM 64 1,oM 65 2,oB 66 64 65 .geq,oC 67 97 [.t 66],oM 6 67] .ret [1,2]
abbrev u68_43:IC:=qS [oM 70 1,oM 71 2,oB 72 70 71 .eql,oC 73 97 [.t 72],oM 6 73] .ret [1,2]
abbrev u68_46:IC:=qS [oM 76 1,oM 77 2,oB 78 76 77 .neq,oC 79 97 [.t 78],oM 6 79] .ret [1,2]
abbrev u68_49:IC:=qS [oM 82 1,oK 83 82 .neq 0,oM 84 83,gM 85 2 84,gK 86 85 84 .neq 0,oJ 87 84 86,oC 88 97 [.t 87],oM 6 88] .ret [1,2]
abbrev u68_52:IC:=qS [oM 91 1,oK 92 91 .neq 0,oM 93 92,hM 94 2 93,hK 95 94 93 .neq 0,oO 96 93 95,oC 97 97 [.t 96],oM 6 97] .ret [1,2]
abbrev u68_51:IC:=qK u68_52 .skip (.t 89) [1,2,89]
abbrev u68_50:IC:=qS [oK 90 11 .eql 24,oM 89 90] u68_51 [1,2,11]
abbrev u68_48:IC:=qK u68_49 u68_50 (.t 80) [1,2,11,80]
abbrev u68_47:IC:=qS [oK 81 11 .eql 23,oM 80 81] u68_48 [1,2,11]
abbrev u68_45:IC:=qK u68_46 u68_47 (.t 74) [1,2,11,74]
abbrev u68_44:IC:=qS [oK 75 11 .eql 22,oM 74 75] u68_45 [1,2,11]
abbrev u68_42:IC:=qK u68_43 u68_44 (.t 68) [1,2,11,68]
abbrev u68_41:IC:=qS [oK 69 11 .eql 21,oM 68 69] u68_42 [1,2,11]
abbrev u68_39:IC:=qK u68_40 u68_41 (.t 62) [1,2,11,62]
abbrev u68_38:IC:=qS [oK 63 11 .eql 20,oM 62 63] u68_39 [1,2,11]
abbrev u68_36:IC:=qK u68_37 u68_38 (.t 56) [1,2,11,56]
abbrev u68_35:IC:=qS [oK 57 11 .eql 19,oM 56 57] u68_36 [1,2,11]
abbrev u68_33:IC:=qK u68_34 u68_35 (.t 50) [1,2,11,50]
abbrev u68_32:IC:=qS [oK 51 11 .eql 18,oM 50 51] u68_33 [1,2,11]
abbrev u68_30:IC:=qK u68_31 u68_32 (.t 44) [1,2,11,44]
abbrev u68_29:IC:=qS [oK 45 11 .eql 17,oM 44 45] u68_30 [1,2,11]
abbrev u68_27:IC:=qK u68_28 u68_29 (.t 38) [1,2,11,38]
abbrev u68_26:IC:=qS [oK 39 11 .eql 16,oM 38 39] u68_27 [1,2,11]
abbrev u68_24:IC:=qK u68_25 u68_26 (.t 32) [1,2,11,32]
abbrev u68_23:IC:=qS [oK 33 11 .eql 15,oM 32 33] u68_24 [1,2,11]
abbrev u68_17:IC:=qK u68_18 u68_23 (.t 25) [1,2,11,25]
abbrev u68_16:IC:=qS [oK 26 11 .eql 14,oM 25 26] u68_17 [1,2,11]
abbrev u68_10:IC:=qK u68_11 u68_16 (.t 18) [1,2,11,18]
abbrev u68_9:IC:=qS [oK 19 11 .eql 13,oM 18 19] u68_10 [1,2,11]
abbrev u68_7:IC:=qK u68_8 u68_9 (.t 12) [1,2,11,12]
abbrev u68_6:IC:=qS [oK 13 11 .eql 12,oM 12 13] u68_7 [1,2,11]
abbrev u68_5:IC:=qJ u68_6 0 [1,2,11]
abbrev u68_4:IC:=qS [oM 11 0] u68_5 [0,1,2]
abbrev u68_53:IC:=qS [oI 6 0] .ret []
abbrev u68_3:IC:=qQ u68_4 u68_53 [0,1,2]
abbrev u68_2:IC:=qS [oM 7 1,oC 8 19 [.t 7],oM 9 2,oC 10 19 [.t 9],oM 1 8,oM 2 10] u68_3 [0,1,2]
abbrev u68_1:IC:=qS [oI 6 0] u68_2 [0,1,2]
def u68:IFn:=⟨98,u68_1,[.tmp 6]⟩
end
theorem isU68:IsFn Tryz.prog 68 u68:=by unfold IsFn;kernel_rfl
theorem c_Clamp (n:Int):PC Tryz.prog 27 [I64 n] (I64 (clM n)):=by
 refine PC.of mixedU isU27 (Nat.le_of_ble_eq_true rfl) (by simp [DV.nlL,DV.nl,nlL_ints,nlL_strs,nlL_instrs,nlL_entries,nlL_stp]) (by simp [DV.nlL,DV.nl,nlL_ints,nlL_strs,nlL_instrs,nlL_entries,nlL_stp]) ?_
 show IW Tryz.prog 6 u27_1 ⟨argT _,_,_⟩ (rt [.tmp 2] _)
 have h:=clM_max n
 repeat' ((with_reducible first|refine wr ?_|refine wb2 ?_ ?_<;>(intro hb;try simp only [hb])|fail)<;>try simp only [go_sem,seval,h])
 exact pc_ret rfl
theorem c_ClampR (n:Int):PC Tryz.prog 19 [I64 n] (I64 (clM n)):=by
 refine PC.of mixedU isU19 (Nat.le_of_ble_eq_true rfl) (by simp [DV.nlL,DV.nl,nlL_ints,nlL_strs,nlL_instrs,nlL_entries,nlL_stp]) (by simp [DV.nlL,DV.nl,nlL_ints,nlL_strs,nlL_instrs,nlL_entries,nlL_stp]) ?_
 show IW Tryz.prog 6 u19_1 ⟨argT _,_,_⟩ (rt [.tmp 2] _)
 have h:=clM_min n
 repeat' ((with_reducible first|refine wr ?_|refine wb2 ?_ ?_<;>(intro hb;try simp only [hb])|fail)<;>try simp only [go_sem,seval,h])
 exact pc_ret rfl
theorem c_bit (b:Bool):PC Tryz.prog 56 [.bool b] (I64 (bitM b)):=by
 refine PC.of mixedU isU56 (Nat.le_of_ble_eq_true rfl) (by simp [DV.nlL,DV.nl,nlL_ints,nlL_strs,nlL_instrs,nlL_entries,nlL_stp]) (by simp [DV.nlL,DV.nl,nlL_ints,nlL_strs,nlL_instrs,nlL_entries,nlL_stp]) ?_
 show IW Tryz.prog 4 u56_1 ⟨argT _,_,_⟩ (rt [.tmp 2] _)
 cases b
 ·repeat' ((with_reducible first|refine wr ?_|refine wb2 ?_ ?_<;>(intro hb;try simp only [hb])|fail)<;>try simp only [go_sem,seval])
  exact pc_ret rfl
 ·repeat' ((with_reducible first|refine wr ?_|refine wb2 ?_ ?_<;>(intro hb;try simp only [hb])|fail)<;>try simp only [go_sem,seval])
  exact pc_ret rfl
theorem c_truth (b:Bool):PC Tryz.prog 97 [.bool b] (I64 (bitM b)):=by
 refine PC.of mixedU isU97 (Nat.le_of_ble_eq_true rfl) (by simp [DV.nlL,DV.nl,nlL_ints,nlL_strs,nlL_instrs,nlL_entries,nlL_stp]) (by simp [DV.nlL,DV.nl,nlL_ints,nlL_strs,nlL_instrs,nlL_entries,nlL_stp]) ?_
 show IW Tryz.prog 4 u97_1 ⟨argT _,_,_⟩ (rt [.tmp 2] _)
 cases b
 ·repeat' ((with_reducible first|refine wr ?_|refine wb2 ?_ ?_<;>(intro hb;try simp only [hb])|fail)<;>try simp only [go_sem,seval])
  exact pc_ret rfl
 ·repeat' ((with_reducible first|refine wr ?_|refine wb2 ?_ ?_<;>(intro hb;try simp only [hb])|fail)<;>try simp only [go_sem,seval])
  exact pc_ret rfl
theorem c_Unary (k a:Int):PC Tryz.prog 41 [I64 k,I64 a] (I64 (unM k a)):=by
 refine PC.of mixedU isU41 (Nat.le_of_ble_eq_true rfl) (by simp [DV.nlL,DV.nl,nlL_ints,nlL_strs,nlL_instrs,nlL_entries,nlL_stp]) (by simp [DV.nlL,DV.nl,nlL_ints,nlL_strs,nlL_instrs,nlL_entries,nlL_stp]) ?_
 show IW Tryz.prog 17 u41_1 ⟨argT _,_,_⟩ (rt [.tmp 4] _)
 have hb:=clM_bd a
 have w:=w64 (n:=0-clM a) (by omega) (by omega)
 by_cases h1:k=10
 ·have d1:(k == 10)=true:=by simp [h1]
  repeat' ((with_reducible first|refine wr ?_|refine cpc (c_Clamp _) ?_|refine wb2 ?_ ?_<;>(intro hb;try simp only [hb])|fail)<;>try simp only [go_sem,seval,w,d1])
  rw [h1];exact pc_ret (by simp [unM])
 ·have d1:(k == 10)=false:=by simp [h1]
  by_cases h2:k=11
  ·have d2:(k == 11)=true:=by simp [h2]
   repeat' ((with_reducible first|refine wr ?_|refine cpc (c_Clamp _) ?_|refine cpc (c_bit _) ?_|refine wb2 ?_ ?_<;>(intro hb;try simp only [hb])|fail)<;>try simp only [go_sem,seval,d1,d2])
   rw [h2];exact pc_ret rfl
  ·have d2:(k == 11)=false:=by simp [h2]
   repeat' ((with_reducible first|refine wr ?_|refine cpc (c_Clamp _) ?_|refine cpc (c_bit _) ?_|refine wb2 ?_ ?_<;>(intro hb;try simp only [hb])|fail)<;>try simp only [go_sem,seval,d1,d2])
   exact pc_ret (by simp [unM,h1,h2])
theorem c_UnaryR (k a:Int):PC Tryz.prog 67 [I64 k,I64 a] (I64 (unM k a)):=by
 refine PC.of mixedU isU67 (Nat.le_of_ble_eq_true rfl) (by simp [DV.nlL,DV.nl,nlL_ints,nlL_strs,nlL_instrs,nlL_entries,nlL_stp]) (by simp [DV.nlL,DV.nl,nlL_ints,nlL_strs,nlL_instrs,nlL_entries,nlL_stp]) ?_
 show IW Tryz.prog 17 u67_1 ⟨argT _,_,_⟩ (rt [.tmp 4] _)
 have hb:=clM_bd a
 have w:=w64 (n:=0-clM a) (by omega) (by omega)
 by_cases h1:k=10
 ·have d1:(k == 10)=true:=by simp [h1]
  repeat' ((with_reducible first|refine wr ?_|refine cpc (c_ClampR _) ?_|refine wb2 ?_ ?_<;>(intro hb;try simp only [hb])|fail)<;>try simp only [go_sem,seval,w,d1])
  rw [h1];exact pc_ret (by simp [unM])
 ·have d1:(k == 10)=false:=by simp [h1]
  by_cases h2:k=11
  ·have d2:(k == 11)=true:=by simp [h2]
   repeat' ((with_reducible first|refine wr ?_|refine cpc (c_ClampR _) ?_|refine cpc (c_truth _) ?_|refine wb2 ?_ ?_<;>(intro hb;try simp only [hb])|fail)<;>try simp only [go_sem,seval,d1,d2])
   rw [h2];exact pc_ret rfl
  ·have d2:(k == 11)=false:=by simp [h2]
   repeat' ((with_reducible first|refine wr ?_|refine cpc (c_ClampR _) ?_|refine cpc (c_truth _) ?_|refine wb2 ?_ ?_<;>(intro hb;try simp only [hb])|fail)<;>try simp only [go_sem,seval,d1,d2])
   exact pc_ret (by simp [unM,h1,h2])
theorem c_Binary (k a b:Int):PC Tryz.prog 42 [I64 k,I64 a,I64 b] (I64 (binM k a b)):=by
 refine PC.of mixedU isU42 (Nat.le_of_ble_eq_true rfl) (by simp [DV.nlL,DV.nl,nlL_ints,nlL_strs,nlL_instrs,nlL_entries,nlL_stp]) (by simp [DV.nlL,DV.nl,nlL_ints,nlL_strs,nlL_instrs,nlL_entries,nlL_stp]) ?_
 show IW Tryz.prog 98 u42_1 ⟨argT _,_,_⟩ (rt [.tmp 6] _)
 unfold binM
 have hA:=clM_bd a
 have hB:=clM_bd b
 have cA:=c_Clamp a
 have cB:=c_Clamp b
 generalize clM a=A at *
 generalize clM b=B at *
 have wm:=mul_bd hA hB
 have wq:=quo_bd (B:=B) hA
 have w1:=w64 wm.1 wm.2
 have w2:=w64 (n:=A+B) (by omega) (by omega)
 have w3:=w64 (n:=A-B) (by omega) (by omega)
 by_cases hz:B=0
 ·have z1:(B != 0)=false:=by simp [hz]
  have z2:(B == 0)=true:=by simp [hz]
  repeat' ((with_reducible first|refine wr ?_|refine cpc cA ?_|refine cpc cB ?_|refine cpc (c_Clamp _) ?_|refine cpc (c_bit _) ?_|refine wb2 ?_ ?_<;>(intro hb;try simp only [hb])|fail)<;>try simp only [go_sem,seval,w1,w2,w3,z1,z2])
  all_goals (refine pc_ret ?_;clear wm wq w1 w2 w3 cA cB hA hB;simp_all [bzM]<;>simp [bitM,bne, *])
 ·have z1:(B != 0)=true:=by simp [hz]
  have z2:(B == 0)=false:=by simp [hz]
  have q1:binR .quo (.int .i64 A) (.int .i64 B)=some (.int .i64 (A.tdiv B)):=by rw [r_quo hz,w64 (by omega) (by omega)]
  have q2:=r_rem (k:=.i64) (m:=A) hz
  repeat' ((with_reducible first|refine wr ?_|refine cpc cA ?_|refine cpc cB ?_|refine cpc (c_Clamp _) ?_|refine cpc (c_bit _) ?_|refine wb2 ?_ ?_<;>(intro hb;try simp only [hb])|fail)<;>try simp only [go_sem,seval,w1,w2,w3,z1,z2,q1,q2])
  all_goals (refine pc_ret ?_;clear wm wq w1 w2 w3 cA cB hA hB q1 q2;simp_all [bzM]<;>simp [bitM,bne, *])
theorem c_BinaryR (k a b:Int):PC Tryz.prog 68 [I64 k,I64 a,I64 b] (I64 (binM k a b)):=by
 refine PC.of mixedU isU68 (Nat.le_of_ble_eq_true rfl) (by simp [DV.nlL,DV.nl,nlL_ints,nlL_strs,nlL_instrs,nlL_entries,nlL_stp]) (by simp [DV.nlL,DV.nl,nlL_ints,nlL_strs,nlL_instrs,nlL_entries,nlL_stp]) ?_
 show IW Tryz.prog 98 u68_1 ⟨argT _,_,_⟩ (rt [.tmp 6] _)
 unfold binM
 have hA:=clM_bd a
 have hB:=clM_bd b
 have cA:=c_ClampR a
 have cB:=c_ClampR b
 generalize clM a=A at *
 generalize clM b=B at *
 have wm:=mul_bd hA hB
 have wq:=quo_bd (B:=B) hA
 have w1:=w64 wm.1 wm.2
 have w2:=w64 (n:=A+B) (by omega) (by omega)
 have w3:=w64 (n:=A-B) (by omega) (by omega)
 by_cases hz:B=0
 ·have z1:(B != 0)=false:=by simp [hz]
  have z2:(B == 0)=true:=by simp [hz]
  repeat' ((with_reducible first|refine wr ?_|refine cpc cA ?_|refine cpc cB ?_|refine cpc (c_ClampR _) ?_|refine cpc (c_truth _) ?_|refine wb2 ?_ ?_<;>(intro hb;try simp only [hb])|fail)<;>try simp only [go_sem,seval,w1,w2,w3,z1,z2])
  all_goals (refine pc_ret ?_;clear wm wq w1 w2 w3 cA cB hA hB;simp_all [bzM]<;>simp [bitM,bne, *])
 ·have z1:(B != 0)=true:=by simp [hz]
  have z2:(B == 0)=false:=by simp [hz]
  have q1:binR .quo (.int .i64 A) (.int .i64 B)=some (.int .i64 (A.tdiv B)):=by rw [r_quo hz,w64 (by omega) (by omega)]
  have q2:=r_rem (k:=.i64) (m:=A) hz
  repeat' ((with_reducible first|refine wr ?_|refine cpc cA ?_|refine cpc cB ?_|refine cpc (c_ClampR _) ?_|refine cpc (c_truth _) ?_|refine wb2 ?_ ?_<;>(intro hb;try simp only [hb])|fail)<;>try simp only [go_sem,seval,w1,w2,w3,z1,z2,q1,q2])
  all_goals (refine pc_ret ?_;clear wm wq w1 w2 w3 cA cB hA hB q1 q2;simp_all [bzM]<;>simp [bitM,bne, *])
end Go.Proofs.YtcallbfckjlagaaGreat
namespace Go.Pb
open Go.Sym
theorem entC_len' (l:List Ent):(cellsL (l.map Ent.v)).length=l.length * 4:=by
 rw [cellsL_length (u:=4)]
 ·simp
 ·intro x hx;obtain ⟨y, -,rfl⟩:=List.mem_map.1 hx;rfl
theorem ins_unit (l:List Ins):∀ x∈l.map Ins.v,x.cells.length=2:=by
 intro x hx;obtain ⟨y, -,rfl⟩:=List.mem_map.1 hx;rfl
theorem str_unit (l:List (List UInt8)):∀ x∈l.map DV.str,x.cells.length=1:=by
 intro x hx;obtain ⟨y, -,rfl⟩:=List.mem_map.1 hx;rfl
theorem ent_unit (l:List Ent):∀ x∈l.map Ent.v,x.cells.length=4:=by
 intro x hx;obtain ⟨y, -,rfl⟩:=List.mem_map.1 hx;rfl
end Go.Pb
namespace Go.Pb
open Go.Sym
theorem valueM_l0 (l:List UInt8) (p:Nat):(valueM l 0 p).1.length≤1:=by have:=valueM_len l 0 p;omega
theorem valueM_l1 (l:List UInt8) (p:Nat):(valueM l 1 p).1.length≤3:=by
 have:=valueM_len l 1 p
 have e:2 ^ (1+1)=4:=rfl
 omega
theorem valueM_l2 (l:List UInt8) (p:Nat):(valueM l 2 p).1.length≤7:=by
 have:=valueM_len l 2 p
 have e:2 ^ (2+1)=8:=rfl
 omega
def stK (l:List UInt8) (rec:Nat→Nat→List Ins × Nat) (base k p:Nat):List Ins × Nat :=
 match k with
 | 1=>((valueM l 1 p).1++[⟨15,0⟩],(valueM l 1 p).2)
 | 2=>([⟨16+((nextM l p 3).1:Int),((nextM l (nextM l p 3).2 32).1:Int)⟩],(nextM l (nextM l p 3).2 32).2)
 | 3=>((valueM l 0 p).1++[⟨19,((nextM l (valueM l 0 p).2 64).1:Int)⟩],(nextM l (valueM l 0 p).2 64).2)
 | 4=>((valueM l 0 p).1++(valueM l 0 (valueM l 0 p).2).1++[⟨20,((nextM l (valueM l 0 (valueM l 0 p).2).2 64).1:Int)⟩],(nextM l (valueM l 0 (valueM l 0 p).2).2 64).2)
 | 5=>((valueM l 1 p).1++[⟨21,((nextM l (valueM l 1 p).2 2).1:Int)⟩],(nextM l (valueM l 1 p).2 2).2)
 | 6=>([⟨22,((nextM l p 2).1:Int)⟩],(nextM l p 2).2)
 | 7=>([⟨23+((nextM l p 2).1:Int),((nextM l (nextM l p 2).2 2).1:Int)⟩],(nextM l (nextM l p 2).2 2).2)
 | 8=>([⟨25,((nextM l p 2).1:Int)⟩],(nextM l p 2).2)
 | 9=>([⟨26+((nextM l p 3).1:Int),((nextM l (nextM l p 3).2 64).1:Int)⟩],(nextM l (nextM l p 3).2 64).2)
 | 10=>((valueM l 1 p).1++[⟨29,((nextM l (valueM l 1 p).2 2).1:Int)⟩],(nextM l (valueM l 1 p).2 2).2)
 | 11=>([⟨30,0⟩],p)
 | 12=>((valueM l 1 p).1++[⟨13,((base+(valueM l 1 p).1.length+1+(rec (base+(valueM l 1 p).1.length+1) (valueM l 1 p).2).1.length:Nat):Int)⟩]++(rec (base+(valueM l 1 p).1.length+1) (valueM l 1 p).2).1,(rec (base+(valueM l 1 p).1.length+1) (valueM l 1 p).2).2)
 | 13 | 14=>((valueM l 0 p).1++[⟨14,((base+(valueM l 0 p).1.length+2+(rec (base+(valueM l 0 p).1.length+1) (valueM l 0 p).2).1.length:Nat):Int)⟩]++(rec (base+(valueM l 0 p).1.length+1) (valueM l 0 p).2).1++[⟨12,((base+(valueM l 0 p).1.length:Nat):Int)⟩],(rec (base+(valueM l 0 p).1.length+1) (valueM l 0 p).2).2)
 | _=>((valueM l 2 p).1++[⟨3,((nextM l (valueM l 2 p).2 3).1:Int)⟩],(nextM l (valueM l 2 p).2 3).2)
def stmtM (l:List UInt8):Nat→Nat→Nat→List Ins × Nat
 | 0,base,p=>stK l (fun _ p=>([],p)) base (if 11<(nextM l p 15).1 then 0 else (nextM l p 15).1) (nextM l p 15).2
 | d+1,base,p=>stK l (stmtM l d) base (nextM l p 15).1 (nextM l p 15).2
theorem stK_pos {l:List UInt8} {rec:Nat→Nat→List Ins × Nat} (hr:∀ b p,p≤l.length→(rec b p).2≤l.length) (base k p:Nat) (h:p≤l.length):(stK l rec base k p).2≤l.length:=by
 unfold stK
 split
 all_goals first
  | exact h
  | exact nextM_le h
  | exact nextM_le (nextM_le h)
  | exact valueM_le _ _ _ h
  | exact nextM_le (valueM_le _ _ _ h)
  | exact nextM_le (valueM_le _ _ _ (valueM_le _ _ _ h))
  | exact hr _ _ (valueM_le _ _ _ h)
theorem stmtM_le (l:List UInt8):∀ (d base p:Nat),p≤l.length→(stmtM l d base p).2≤l.length
 | 0,base,p,h=>stK_pos (fun _ _ h=>h) _ _ _ (nextM_le h)
 | d+1,base,p,h=>stK_pos (fun b p h=>stmtM_le l d b p h) _ _ _ (nextM_le h)
theorem stK_len {l:List UInt8} {rec:Nat→Nat→List Ins × Nat} {m:Nat} (hr:∀ b p,(rec b p).1.length≤m) (h8:4≤m) (base k p:Nat):(stK l rec base k p).1.length≤m+4:=by
 have a:=valueM_l0 l
 have b:=valueM_l1 l
 have c:=valueM_l2 l
 unfold stK
 split
 all_goals simp only [List.length_append,List.length_singleton]
 ·have:=b p;omega
 ·omega
 ·have:=a p;omega
 ·have:=a p;have:=a (valueM l 0 p).2;omega
 ·have:=b p;omega
 ·omega
 ·omega
 ·omega
 ·omega
 ·have:=b p;omega
 ·omega
 ·have:=b p;have:=hr (base+(valueM l 1 p).1.length+1) (valueM l 1 p).2;omega
 ·have:=a p;have:=hr (base+(valueM l 0 p).1.length+1) (valueM l 0 p).2;omega
 ·have:=a p;have:=hr (base+(valueM l 0 p).1.length+1) (valueM l 0 p).2;omega
 ·have:=c p;omega
theorem stmtM_len (l:List UInt8):∀ (d base p:Nat),(stmtM l d base p).1.length≤8+4 * d
 | 0,base,p=>by
  have:=stK_len (l:=l) (rec:=fun _ p=>([],p)) (m:=4) (fun _ _=>by simp) (by omega) base (if 11<(nextM l p 15).1 then 0 else (nextM l p 15).1) (nextM l p 15).2
  simp only [stmtM];omega
 | d+1,base,p=>by
  have:=stK_len (l:=l) (rec:=stmtM l d) (m:=8+4 * d) (fun b p=>stmtM_len l d b p) (by omega) base (nextM l p 15).1 (nextM l p 15).2
  simp only [stmtM];omega
theorem w_sum {a b:Nat} (h:a+b≤1000000):IntKind.i64.wrap ((a:Int)+(b:Int))=((a+b:Nat):Int):=by rw [w64 (by omega) (by omega)];omega
theorem insL1 (a:List Ins) (x y:DV):(insC a++[x,y]).length=(a.length+1) * 2:=by rw [List.length_append,insC_len];simp;omega
theorem insL2 (a b:List Ins):(insC a++insC b).length=(a.length+b.length) * 2:=by rw [List.length_append,insC_len,insC_len];omega
theorem insL3 (a b:List Ins) (x y:DV):(insC a++[x,y]++insC b).length=(a.length+1+b.length) * 2:=by rw [List.length_append,insL1,insC_len];omega
end Go.Pb
namespace Go.Pb
open Go.Sym
theorem stK_ne {l:List UInt8} {rec:Nat→Nat→List Ins × Nat} {base k p:Nat}:1≤(stK l rec base k p).1.length:=by
 unfold stK
 split<;>simp only [List.length_append,List.length_singleton]<;>omega
theorem stmtM_ne {l:List UInt8} {d base p:Nat}:1≤(stmtM l d base p).1.length:=by
 cases d with
 | zero=>simp only [stmtM];exact stK_ne
 | succ d=>simp only [stmtM];exact stK_ne
def keysM:List Ent:=[⟨0,1,0,0⟩,⟨0,2,0,0⟩,⟨0,3,3,0⟩,⟨0,5,1,0⟩,⟨0,6,0,0⟩,⟨1,1,0,0⟩,⟨1,3,3,0⟩,⟨1,4,63,0⟩,⟨1,6,1,0⟩]
def mdB (l:List UInt8):Nat→List Ins × Nat→List Ins × Nat
 | 0,x=>x
 | n+1,x=>((mdB l n x).1++(stmtM l 2 (mdB l n x).1.length (mdB l n x).2).1,(stmtM l 2 (mdB l n x).1.length (mdB l n x).2).2)
structure MS where
 I:List Ins
 E:List Ent
 p:Nat
def mdH (l:List UInt8) (key:Ent) (x:MS) (p:Nat):MS :=
 ⟨(mdB l (nextM l p 4).1 (x.I,(nextM l p 4).2)).1++[⟨31,0⟩],x.E++[⟨key.mode,key.trigger,key.index,(x.I.length:Int)⟩],(mdB l (nextM l p 4).1 (x.I,(nextM l p 4).2)).2⟩
def mdI (l:List UInt8) (key:Ent) (i:Nat) (x:MS):MS :=
 if i=0 then mdH l key x x.p else if (nextM l x.p 2).1=0 then ⟨x.I,x.E,(nextM l x.p 2).2⟩ else mdH l key x (nextM l x.p 2).2
def mdK (l:List UInt8):Nat→MS
 | 0=>⟨[],[],(nextM l (nextM l 0 4).2 4).2⟩
 | i+1=>mdI l (keysM.getD i ⟨0,0,0,0⟩) i (mdK l i)
def mdP (l:List UInt8):List Int:=[((nextM l 0 4).1:Int),((nextM l (nextM l 0 4).2 4).1:Int)]
def mdS:List (List UInt8):=[[103,111],[111,118,101,114]]
def mdV:List Int:=[0,5, -3]
def madeT (t:List UInt8):Prg:=⟨(mdK t 9).I,mdS,(mdK t 9).E,mdP t,mdV,2,2⟩
def madeM (l:List UInt8):Prg:=madeT (l.take 200)
theorem mdB_pos {l:List UInt8} {x:List Ins × Nat} (h:x.2≤l.length):∀ n,(mdB l n x).2≤l.length
 | 0=>h
 | n+1=>stmtM_le l 2 _ _ (mdB_pos h n)
theorem mdB_len {l:List UInt8} {x:List Ins × Nat}:∀ n,(mdB l n x).1.length≤x.1.length+16 * n
 | 0=>by simp [mdB]
 | n+1=>by
  have:=mdB_len (l:=l) (x:=x) n
  have:=stmtM_len l 2 (mdB l n x).1.length (mdB l n x).2
  simp only [mdB,List.length_append];omega
theorem mdH_p {l:List UInt8} {key:Ent} {x:MS} {p:Nat} (h:p≤l.length):(mdH l key x p).p≤l.length:=mdB_pos (x:=(x.I,(nextM l p 4).2)) (nextM_le h) _
theorem mdH_I {l:List UInt8} {key:Ent} {x:MS} {p:Nat}:(mdH l key x p).I.length≤x.I.length+49:=by
 have:=mdB_len (l:=l) (x:=(x.I,(nextM l p 4).2)) (nextM l p 4).1
 have:=nextM_lt (l:=l) (p:=p) (n:=4) (by omega)
 simp only [mdH,List.length_append,List.length_singleton];simp only at *;omega
theorem mdK_bd {l:List UInt8}:∀ i,(mdK l i).p≤l.length∧(mdK l i).I.length≤49 * i∧(mdK l i).E.length≤i
 | 0=>⟨nextM_le (nextM_le (Nat.zero_le _)),by simp [mdK],by simp [mdK]⟩
 | i+1=>by
  obtain ⟨a,b,c⟩:=mdK_bd (l:=l) i
  simp only [mdK,mdI]
  split
  ·exact ⟨mdH_p a,by have:=mdH_I (l:=l) (key:=keysM.getD i ⟨0,0,0,0⟩) (x:=mdK l i) (p:=(mdK l i).p);omega,by simp only [mdH,List.length_append,List.length_singleton];omega⟩
  ·split
   ·exact ⟨nextM_le a,by simp only;omega,by simp only;omega⟩
   ·exact ⟨mdH_p (nextM_le a),by have:=mdH_I (l:=l) (key:=keysM.getD i ⟨0,0,0,0⟩) (x:=mdK l i) (p:=(nextM l (mdK l i).p 2).2);omega,by simp only [mdH,List.length_append,List.length_singleton];omega⟩
theorem entC_snoc (l:List Ent) (e:Ent):cellsL ((l++[e]).map Ent.v)=cellsL (l.map Ent.v)++[I64 e.mode,I64 e.trigger,I64 e.index,I64 e.pos]:=by
 rw [List.map_append,cellsL_append];simp [cellsL,DV.cells]
theorem entC_nil {l:List Ent} (h:l=[]):cellsL (l.map Ent.v)=[]:=by rw [h];rfl
theorem insC_nil {l:List Ins} (h:l=[]):insC l=[]:=by rw [h];rfl
theorem len_nil {α : Type} {l:List α} (h:l=[]):l.length=0:=by rw [h];rfl
theorem slc_to {H:Hp} {sz n:Nat} {xs:List DV} (h:n≤xs.length) (hu:unit sz xs=true):slcR H sz (.lst xs) none (some (.int .i64 (n:Int)))=some (.lst (xs.take n)):=by
 have h1:boundOf xs.length (some (.int .i64 (n:Int)))=some n:=by simp [boundOf]
 have h2:boundOf 0 none=some 0:=by simp [boundOf]
 simp only [slcR,h1,h2,hu,h,Nat.zero_le,and_self,if_true,List.drop_zero,Nat.sub_zero]
theorem unit_bytes (l:List UInt8):unit 1 (bytesC l)=true:=unit_iff.2 (fun x hx=>by obtain ⟨b, -,rfl⟩:=List.mem_map.1 hx;rfl)
theorem slc_bytes {H:Hp} {n:Nat} {l:List UInt8} (h:n≤l.length):slcR H 1 (.lst (bytesC l)) none (some (.int .i64 (n:Int)))=some (.lst (bytesC (l.take n))):=by
 rw [slc_to (by rw [bytesC_len];exact h) (unit_bytes l)]
 simp [bytesC,List.map_take]
def delO (H:Hp):Option Nat→Hp
 | none=>H
 | some i=>H.del i
theorem r_lentodo {o:Option Nat} {n:Nat} (h:o=none→n=0):lenR (todoV o n)=some (I64 (n:Int)):=by
 cases o with
 | none=>rw [h rfl];rfl
 | some i=>rfl
theorem r_apptodo {H:Hp} {c sz bytes n m:Nat} {o:Option Nat} {cs src:List DV} (hn:o=none→n=0∧cs=[]) (hb:∀ i,o=some i→H i=some ⟨sz,true,cs⟩) (hl:cs.length=n * sz) (hm:1≤m) (h2:(n+m) * bytes≤140737488355328) (h3:n+m≤9223372036854775807) :
  appR H c sz bytes (todoV o n) m src=some (.slc c 0 (n+m),(delO H o).upd c ⟨sz,true,cs++src⟩,c+1):=by
 cases o with
 | none =>
  obtain ⟨rfl,rfl⟩:=hn rfl
  rw [todo_n,r_appn' (by omega) (by simpa using h2) (by omega)]
  simp [delO]
 | some i=>rw [todo_s,r_apps,hb i rfl,b_appx hl h2 h3];rfl
theorem delO_ne {H:Hp} {o:Option Nat} {j:Nat} (h:∀ i,o=some i→¬ j=i):delO H o j=H j:=by
 cases o with
 | none=>rfl
 | some i=>exact h_dne (h i rfl)
def MH (k:Nat) (l:List UInt8) (p:Nat) (S P V:DV) (I:List Ins) (E:List Ent) (o1 o2:Option Nat):Hp :=
 optH (optH (((Sym.nil.upd 0 ⟨0,true,[.snil,.snil,.snil,.snil,.snil,I64 0,I64 0]⟩).upd 1 (tapeB l p)).upd k ⟨0,true,[todoV o1 I.length,S,todoV o2 E.length,P,V,I64 2,I64 2]⟩) o1 ⟨2,true,insC I⟩) o2 ⟨4,true,cellsL (E.map Ent.v)⟩
structure MO (k:Nat) (o1 o2:Option Nat) (cc:Nat):Prop where
 k2:2≤k
 kc:k<cc
 a:∀ i,o1=some i→k<i∧i<cc
 b:∀ i,o2=some i→k<i∧i<cc
 ne:∀ i,o1=some i→o2≠some i
theorem optH_ne {H:Hp} {o:Option Nat} {b:Blk} {j:Nat} (h:∀ i,o=some i→¬ j=i):optH H o b j=H j:=by
 cases o with
 | none=>rfl
 | some i=>exact h_ne (h i rfl)
section
variable {l:List UInt8} {k p:Nat} {S P V:DV} {I:List Ins} {E:List Ent} {o1 o2:Option Nat} {cc:Nat}
theorem MH_0 (h:MO k o1 o2 cc):MH k l p S P V I E o1 o2 0=some ⟨0,true,[.snil,.snil,.snil,.snil,.snil,I64 0,I64 0]⟩:=by
 have:=h.k2
 unfold MH;rw [optH_ne (fun i hi=>by have:=h.b i hi;omega),optH_ne (fun i hi=>by have:=h.a i hi;omega),h_ne (by omega)];rfl
theorem MH_1 (h:MO k o1 o2 cc):MH k l p S P V I E o1 o2 1=some (tapeB l p):=by
 have:=h.k2
 unfold MH;rw [optH_ne (fun i hi=>by have:=h.b i hi;omega),optH_ne (fun i hi=>by have:=h.a i hi;omega),h_ne (by omega)];rfl
theorem MH_k (h:MO k o1 o2 cc):MH k l p S P V I E o1 o2 k=some ⟨0,true,[todoV o1 I.length,S,todoV o2 E.length,P,V,I64 2,I64 2]⟩:=by
 unfold MH;rw [optH_ne (fun i hi=>by have:=h.b i hi;omega),optH_ne (fun i hi=>by have:=h.a i hi;omega),h_same]
theorem MH_a (h:MO k o1 o2 cc) {i:Nat} (hi:o1=some i):MH k l p S P V I E o1 o2 i=some ⟨2,true,insC I⟩:=by
 unfold MH;rw [optH_ne (fun j hj e=>h.ne i hi (by rw [e];exact hj))];subst hi;exact h_same
theorem MH_b {i:Nat} (hi:o2=some i):MH k l p S P V I E o1 o2 i=some ⟨4,true,cellsL (E.map Ent.v)⟩:=by
 unfold MH;subst hi;exact h_same
theorem MH_n (h:MO k o1 o2 cc) {j:Nat} (hc:cc≤j):MH k l p S P V I E o1 o2 j=none:=by
 have:=h.k2
 have:=h.kc
 unfold MH;rw [optH_ne (fun i hi=>by have:=h.b i hi;omega),optH_ne (fun i hi=>by have:=h.a i hi;omega),h_ne (by omega),h_ne (by omega),h_ne (by omega)];rfl
theorem MH_t {p':Nat} (h:MO k o1 o2 cc):(MH k l p S P V I E o1 o2).upd 1 (tapeB l p')=MH k l p' S P V I E o1 o2:=by
 have hk:=h.k2
 funext j
 by_cases e:j=1
 ·subst e;rw [h_same,MH_1 h]
 ·rw [h_ne e]
  unfold MH
  by_cases e2:o2=some j
  ·subst e2;simp only [optH,h_same]
  ·have q2:∀ (X:Hp) b,optH X o2 b j=X j:=fun X b=>optH_ne (fun i hi e3=>e2 (by rw [e3];exact hi))
   rw [q2,q2]
   by_cases e1:o1=some j
   ·subst e1;simp only [optH,h_same]
   ·have q1:∀ (X:Hp) b,optH X o1 b j=X j:=fun X b=>optH_ne (fun i hi e3=>e1 (by rw [e3];exact hi))
    rw [q1,q1]
    by_cases ek:j=k
    ·subst ek;rw [h_same,h_same]
    ·rw [h_ne ek,h_ne ek,h_ne e,h_ne e]
theorem MH_sub {H:Hp} (h0:H 0=some ⟨0,true,[.snil,.snil,.snil,.snil,.snil,I64 0,I64 0]⟩) (h1:H 1=some (tapeB l p)) (hk:H k=some ⟨0,true,[todoV o1 I.length,S,todoV o2 E.length,P,V,I64 2,I64 2]⟩)
  (ha:∀ i,o1=some i→H i=some ⟨2,true,insC I⟩) (hb:∀ i,o2=some i→H i=some ⟨4,true,cellsL (E.map Ent.v)⟩):Sub (MH k l p S P V I E o1 o2) H:=by
 intro j b hj
 unfold MH at hj
 by_cases e2:o2=some j
 ·subst e2;simp only [optH,h_same] at hj;rw [hb j rfl];exact hj
 ·rw [optH_ne (fun i hi e3=>e2 (by rw [e3];exact hi))] at hj
  by_cases e1:o1=some j
  ·subst e1;simp only [optH,h_same] at hj;rw [ha j rfl];exact hj
  ·rw [optH_ne (fun i hi e3=>e1 (by rw [e3];exact hi))] at hj
   by_cases ek:j=k
   ·subst ek;rw [h_same] at hj;rw [hk];exact hj
   ·rw [h_ne ek] at hj
    by_cases e:j=1
    ·subst e;rw [h_same] at hj;rw [h1];exact hj
    ·rw [h_ne e] at hj
     by_cases e0:j=0
     ·subst e0;rw [h_same] at hj;rw [h0];exact hj
     ·rw [h_ne e0] at hj;cases hj
theorem MO.mono (h:MO k o1 o2 cc) {c2:Nat} (hc:cc≤c2):MO k o1 o2 c2 :=
 ⟨h.k2,by have:=h.kc;omega,fun i hi=>by have:=h.a i hi;omega,fun i hi=>by have:=h.b i hi;omega,h.ne⟩
end
end Go.Pb
namespace Go.Pb
open Go.Sym
abbrev mcC (c:Prg) (e:Envr) (v nv:Nat) (pc:Int) (dn:Bool) (sv ev:DV):List DV :=
 [inssV c.instrs,strs c.strings,entsV c.entries,ints c.prios,ints c.vars,I64 c.timers,I64 c.events,.slc v 0 nv,ints e.left,.int .u64 (e.closed:Int),.int .u32 (e.active:Int),I64 e.player,I64 e.ball,I64 pc,.bool dn,sv,ev]
structure MN (m v:Nat) (so eo:Option Nat) (x:Mch) (cc:Nat):Prop where
 mv:m≠v
 mc:m<cc
 vc:v<cc
 sb:∀ i,so=some i→i≠m∧i≠v∧i<cc
 eb:∀ i,eo=some i→i≠m∧i≠v∧i<cc
 se:∀ i j,so=some i→eo=some j→i≠j
 sn:so=none→x.stk=[]
 en:eo=none→x.effs=[]
def VR (x:Mch) (m v:Nat) (so eo:Option Nat) (junk:List DV) (M:Blk):Hp :=
 optH (optH ((Sym.nil.upd m M).upd v ⟨1,true,x.vars.map I64⟩) so ⟨1,true,x.stk.reverse.map I64++junk⟩) eo ⟨5,true,effC x.effs⟩
section
variable {x:Mch} {m v cc:Nat} {so eo:Option Nat} {junk:List DV} {M:Blk}
theorem VR_m (h:MN m v so eo x cc):VR x m v so eo junk M m=some M:=by
 rw [VR,optH_ne (fun i hi=>Ne.symm (h.eb i hi).1),optH_ne (fun i hi=>Ne.symm (h.sb i hi).1),h_ne h.mv,h_same]
theorem VR_v (h:MN m v so eo x cc):VR x m v so eo junk M v=some ⟨1,true,x.vars.map I64⟩:=by
 rw [VR,optH_ne (fun i hi=>Ne.symm (h.eb i hi).2.1),optH_ne (fun i hi=>Ne.symm (h.sb i hi).2.1),h_same]
theorem VR_s (h:MN m v so eo x cc) {i:Nat} (hi:so=some i):VR x m v so eo junk M i=some ⟨1,true,x.stk.reverse.map I64++junk⟩:=by
 rw [VR,optH_ne (fun j hj=>h.se i j hi hj)];subst hi;exact h_same
theorem VR_e {i:Nat} (hi:eo=some i):VR x m v so eo junk M i=some ⟨5,true,effC x.effs⟩:=by
 rw [VR];subst hi;exact h_same
theorem VR_n (h:MN m v so eo x cc) {j:Nat} (hj:cc≤j):VR x m v so eo junk M j=none:=by
 have:=h.mc
 have:=h.vc
 rw [VR,optH_ne (fun i hi=>by have:=(h.eb i hi).2.2;omega),optH_ne (fun i hi=>by have:=(h.sb i hi).2.2;omega),h_ne (by omega),h_ne (by omega)];rfl
theorem VR_upd (h:MN m v so eo x cc) (M':Blk):(VR x m v so eo junk M).upd m M'=VR x m v so eo junk M':=by
 funext j
 by_cases e:j=m
 ·subst e;rw [h_same,VR_m h]
 ·rw [h_ne e,VR,VR]
  cases so<;>cases eo<;>simp only [optH,Hp.upd,if_neg e]
theorem VR_com {k:Nat} (h:MN m v so eo x cc) (hk:¬ k=m) (B M':Blk):((VR x m v so eo junk M).upd k B).upd m M'=(VR x m v so eo junk M').upd k B:=by
 rw [← VR_upd (M:=M) h M']
 funext j
 by_cases e:j=m
 ·subst e;rw [h_same,h_ne (Ne.symm hk),h_same]
 ·rw [h_ne e]
  by_cases e2:j=k
  ·subst e2;rw [h_same,h_same]
  ·rw [h_ne e2,h_ne e2,h_ne e]
theorem VR_sub {X:Hp} (hm:X m=some M) (hv:X v=some ⟨1,true,x.vars.map I64⟩) (hs:∀ i,so=some i→X i=some ⟨1,true,x.stk.reverse.map I64++junk⟩) (he:∀ i,eo=some i→X i=some ⟨5,true,effC x.effs⟩) :
  Sub (VR x m v so eo junk M) X:=by
 intro j b hj
 rw [VR] at hj
 by_cases h1:eo=some j
 ·subst h1
  simp only [optH] at hj
  rw [h_same] at hj
  rw [← hj];exact he j rfl
 rw [optH_ne (fun i hi e=>h1 (by rw [e];exact hi))] at hj
 by_cases h2:so=some j
 ·subst h2
  simp only [optH] at hj
  rw [h_same] at hj
  rw [← hj];exact hs j rfl
 rw [optH_ne (fun i hi e=>h2 (by rw [e];exact hi))] at hj
 by_cases h3:j=v
 ·subst h3;rw [h_same] at hj;rw [← hj];exact hv
 rw [h_ne h3] at hj
 by_cases h4:j=m
 ·subst h4;rw [h_same] at hj;rw [← hj];exact hm
 rw [h_ne h4] at hj
 cases hj
end
section
variable {x x':Mch} {m v cc c' i:Nat} {so eo:Option Nat}
theorem MN.newS (h:MN m v so eo x cc) (h1:cc≤i) (h2:i<c') (he:x'.effs=x.effs):MN m v (some i) eo x' c':=by
 have:=h.mc
 have:=h.vc
 exact ⟨h.mv,by omega,by omega,fun j hj=>by cases hj;omega,fun j hj=>by have:=h.eb j hj;omega,fun j k hj hk=>by cases hj;have:=h.eb k hk;omega,fun e=>(by cases e),fun e=>by rw [he];exact h.en e⟩
theorem MN.newE (h:MN m v so eo x cc) (h1:cc≤i) (h2:i<c') (he:x'.stk=x.stk):MN m v so (some i) x' c':=by
 have:=h.mc
 have:=h.vc
 exact ⟨h.mv,by omega,by omega,fun j hj=>by have:=h.sb j hj;omega,fun j hj=>by cases hj;omega,fun j k hj hk=>by cases hk;have:=h.sb j hj;omega,fun e=>by rw [he];exact h.sn e,fun e=>(by cases e)⟩
theorem MN.keep (h:MN m v so eo x cc) (hc:cc≤c') (hs:so=none→x'.stk=[]) (he:eo=none→x'.effs=[]):MN m v so eo x' c':=by
 have:=h.mc
 have:=h.vc
 exact ⟨h.mv,by omega,by omega,fun j hj=>by have:=h.sb j hj;omega,fun j hj=>by have:=h.eb j hj;omega,h.se,hs,he⟩
end
theorem r_appj {H:Hp} {c sz bytes n m:Nat} {o:Option Nat} {cs junk src:List DV} (hn:o=none→n=0∧cs=[]) (hb:∀ i,o=some i→H i=some ⟨sz,true,cs++junk⟩) (hl:cs.length=n * sz) (hm:1≤m) (h2:(n+m) * bytes≤140737488355328) (h3:n+m≤9223372036854775807) :
  appR H c sz bytes (todoV o n) m src=some (.slc c 0 (n+m),(delO H o).upd c ⟨sz,true,cs++src⟩,c+1):=by
 cases o with
 | none =>
  obtain ⟨rfl,rfl⟩:=hn rfl
  rw [todo_n,r_appn' (by omega) (by simpa using h2) (by omega)]
  simp [delO]
 | some i =>
  have h:=b_appj (H:=H) (c:=c) (id:=i) (j:=junk) (cs:=src) hl h2 h3
  rw [← hb i rfl] at h
  exact h
theorem and1_64 {q:Nat} (h:q<18446744073709551616):bits .and .u64 (q:Int) 1=((q % 2:Nat):Int):=by
 have e1:BitVec.ofInt 64 (q:Int)=BitVec.ofNat 64 q:=by simp
 have e2:BitVec.ofInt 64 1=BitVec.ofNat 64 1:=by decide
 show IntKind.u64.wrap (((BitVec.ofInt 64 (q:Int)) &&& (BitVec.ofInt 64 1)).toNat:Int)=_
 rw [e1,e2,BitVec.toNat_and,BitVec.toNat_ofNat,BitVec.toNat_ofNat,Nat.mod_eq_of_lt (by omega),show 1 % 2 ^ 64=1 from rfl,Nat.and_one_is_mod,wu64 (by omega) (by omega)]
theorem wu32 {n:Int} (h1:0≤n) (h2:n≤4294967295):IntKind.u32.wrap n=n:=by
 simp only [IntKind.wrap,IntKind.bits,IntKind.signed]
 simp
 omega
theorem and1_32 {q:Nat} (h:q<4294967296):bits .and .u32 (q:Int) 1=((q % 2:Nat):Int):=by
 have e1:BitVec.ofInt 32 (q:Int)=BitVec.ofNat 32 q:=by simp
 have e2:BitVec.ofInt 32 1=BitVec.ofNat 32 1:=by decide
 show IntKind.u32.wrap (((BitVec.ofInt 32 (q:Int)) &&& (BitVec.ofInt 32 1)).toNat:Int)=_
 rw [e1,e2,BitVec.toNat_and,BitVec.toNat_ofNat,BitVec.toNat_ofNat,Nat.mod_eq_of_lt (by omega),show 1 % 2 ^ 32=1 from rfl,Nat.and_one_is_mod,wu32 (by omega) (by omega)]
theorem shr_nat {q a:Nat} {k k':IntKind} (h:a≤k.bits):binR .shr (.int k (q:Int)) (.int k' (a:Int))=some (.int k ((q / 2 ^ a:Nat):Int)):=by
 rw [r_shr (by omega),Int.toNat_natCast,Nat.min_eq_left h,Int.fdiv_eq_ediv_of_nonneg _ (by exact_mod_cast Nat.zero_le _)]
 rw [Int.natCast_ediv,Int.natCast_pow];rfl
def badM (least n:Int):Bool:=decide (n<least) || decide (n>2147483647)
def isEnvM (c:Prg) (e:Envr):Bool :=
 (validM c == 0) && decide (e.vars.length=c.vars.length) && decide ((e.left.length:Int)=c.timers) && !e.vars.any (badM (-2147483647)) && !e.left.any (badM 0) && decide (e.active / 2 ^ c.prios.length=0) && !badM 0 e.player && !badM 0 e.ball
structure StepOk (c:Prg) (e:Envr) (x:Mch) (i:Ins):Prop where
 lim:limitsM c=true
 at_:c.instrs[x.pc]? = some i
 num:numberM c i=true
 jmp:i.op=12∨i.op=13∨i.op=14→0≤i.A∧i.A≤(c.instrs.length:Int)-1
 need:(effM i.op).1≤(x.stk.length:Int)
 left:(e.left.length:Int)=c.timers
 vars:x.vars.length=c.vars.length
 stk:x.stk.length≤1000
 effs:x.effs.length≤1000
 bnd:∀ n∈x.stk, -2147483647≤n∧n≤2147483647
 clo:e.closed<18446744073709551616
 act:e.active<4294967296
end Go.Pb
namespace Go.Proofs.YtcallbfckjlagaaGreat
open Go.Eng (IC IOper DReg IFn IsFn)
open Go.Sym Go.Pb
section
abbrev u39_1:IC:=qE [oM 4 0,oM 5 0,oN 6 5,oF 7 6 15,oL 8 7,oM 9 1,⟨some 10,.new (.bsl 1 1 #[.int .i64 0] [(0,.t 9)]),none⟩,oT 11 8 10 1 8,oN 12 4,oF 13 12 15,oS 13 11 1] [0,1]
def u39:IFn:=⟨14,u39_1,[]⟩
end
theorem isU39:IsFn Tryz.prog 39 u39:=by unfold IsFn;kernel_rfl
section
abbrev u40_4:IC:=qS [oM 30 3,oM 2 30] .ret [3]
abbrev u40_3:IC:=qP [oM 16 0,oM 17 0,oN 18 17,oF 19 18 15,oL 20 19,oM 21 0,oN 22 21,oF 23 22 15,oL 24 23,oH 25 24,oK 26 25 .sub 1,oP 27 (.slc 1 (.t 20) none (some (.t 26))),oN 28 16,oF 29 28 15,oS 29 27 1] u40_4 0 15 [0,3]
abbrev u40_2:IC:=qP [oM 4 0,oN 5 4,oF 6 5 15,oL 7 6,oM 8 0,oN 9 8,oF 10 9 15,oL 11 10,oH 12 11,oK 13 12 .sub 1,oA 14 7 13 1,oL 15 14,oM 3 15] u40_3 4096 13 [0]
abbrev u40_1:IC:=qS [oI 2 0] u40_2 [0]
def u40:IFn:=⟨31,u40_1,[.tmp 2]⟩
end
theorem isU40:IsFn Tryz.prog 40 u40:=by unfold IsFn;kernel_rfl
section
abbrev u43_2:IC:=qG [oM 8 0,oM 9 0,oN 10 9,oF 11 10 16,oL 12 11,oF 13 5 0,oL 14 13,oF 15 5 1,oL 16 15,oM 17 2,oM 18 3,oP 19 (.bld #[.int .i64 0,.int .i64 0,.int .i64 0,.int .i64 0,.string ⟨#[]⟩] [(0,1),(1,1),(2,1),(3,1),(4,1)] [(0,.t 14),(1,.t 16),(2,.t 17),(3,.t 18)]),⟨some 20,.new (.bsl 5 1 #[.int .i64 0,.int .i64 0,.int .i64 0,.int .i64 0,.string ⟨#[]⟩] [(0,.t 19)]),none⟩,oT 21 12 20 5 48,oN 22 8,oF 23 22 16,oS 23 21 1] [(0,none),(1,none),(2,none),(3,none),(4,none),(5,none),(6,none),(7,none),(8,none),(9,none),(10,none),(11,none),(12,none),(13,some [0]),(14,none),(15,none),(16,some [])] 17 [0,2,3,5]
abbrev u43_1:IC:=qS [oX 5 1] u43_2 [0,1,2,3]
def u43:IFn:=⟨24,u43_1,[]⟩
end
theorem isU43:IsFn Tryz.prog 43 u43:=by unfold IsFn;kernel_rfl
abbrev vmB (c:Prg) (e:Envr) (x:Mch) (v:Nat) (so eo:Option Nat):Blk:=⟨0,true,mcC c e v x.vars.length (x.pc:Int) x.done (todoV so x.stk.length) (todoV eo x.effs.length)⟩
def VM (c:Prg) (e:Envr) (x:Mch) (m v:Nat) (so eo:Option Nat) (junk:List DV):Hp:=VR x m v so eo junk (vmB c e x v so eo)
section
variable {c:Prg} {e:Envr} {x:Mch} {m v cc:Nat} {so eo:Option Nat} {junk:List DV}
theorem VM_m (h:MN m v so eo x cc):VM c e x m v so eo junk m=some (vmB c e x v so eo):=VR_m h
theorem c_vput (h:MN m v so eo x cc) (hb:x.stk.length≤100000) (n:Int) :
  AC Tryz.prog 39 [.ptr m 0,I64 n] (VM c e x m v so eo junk) cc (fun r H' c'=>r=.tup []∧∃ s2,cc≤s2∧s2<c'∧H'=VM c e (x.push n) m v (some s2) eo []):=by
 refine AC.body mixedU isU39 (Nat.le_of_ble_eq_true rfl) fun hfr=>?_
 show IW Tryz.prog 14 u39_1 ⟨argT _,_,_⟩ (rt [] _)
 have hM:=VM_m (c:=c) (e:=e) (junk:=junk) h
 have hn:=h
 obtain ⟨h1,h2,h3,h4,h5,h6,h7,h8⟩:=h
 have ne0:=nes4 m v cc (cc+1) (by omega)
 have dm:∀ X,delO X so m=X m:=fun X=>delO_ne (fun i hi e=>(h4 i hi).1 e.symm)
 have dv:∀ X,delO X so v=X v:=fun X=>delO_ne (fun i hi e=>(h4 i hi).2.1 e.symm)
 repeat' ((with_reducible first|refine wr ?_|refine wb2 ?_ ?_<;>(intro hb;try simp only [hb])|fail)<;>try simp only [go_sem,seval,hM,ne0])
 refine k_eval (r_appj (cs:=x.stk.reverse.map I64) (junk:=junk) (fun e=>⟨len_nil (h7 e),by rw [h7 e];rfl⟩) (fun i hi=>?_) (by simp) (by omega) (by omega) (by omega)) ?_
 ·have:=h4 i hi
  rw [h_ne (by omega)];exact VR_s ⟨h1,h2,h3,h4,h5,h6,h7,h8⟩ hi
 simp only [go_sem,seval,dm,hM,ne0]
 repeat' ((with_reducible first|refine wr ?_|refine wb2 ?_ ?_<;>(intro hb;try simp only [hb])|fail)<;>try simp only [go_sem,seval,dm,hM,ne0])
 refine ⟨_,_,GL.less' (VR_sub (x:=x.push n) (m:=m) (v:=v) (so:=some (cc+1)) (eo:=eo) (junk:=[]) (M:=vmB c e (x.push n) v (some (cc+1)) eo) ?_ ?_ (fun i hi=>?_) (fun i hi=>?_)),rfl,cc+1,by omega,by omega,rfl⟩
 ·rw [h_same];simp [Mch.push,todoV]
 ·rw [h_ne (by omega),h_ne (by omega),dv,h_ne (by omega)];exact VR_v hn
 ·cases hi;rw [h_ne (by omega),h_same];simp [Mch.push]
 ·have:=h5 i hi
  rw [h_ne (by omega),h_ne (by omega),delO_ne (fun j hj e=>h6 j i hj hi e.symm),h_ne (by omega)];exact VR_e hi
theorem c_vtake (h:MN m v so eo x cc) (hb:x.stk.length≤100000) (n:Int) (S:List Int) (hS:x.stk=n :: S) :
  AC Tryz.prog 40 [.ptr m 0] (VM c e x m v so eo junk) cc (fun r H' c'=>r=I64 n∧H'=VM c e x.pop m v so eo (I64 n :: junk)):=by
 obtain ⟨i,rfl⟩:∃ i,so=some i:=by
  cases so with
  | none=>have:=h.sn rfl;rw [hS] at this;cases this
  | some i=>exact ⟨i,rfl⟩
 refine AC.body mixedU isU40 (Nat.le_of_ble_eq_true rfl) fun hfr=>?_
 show IW Tryz.prog 31 u40_1 ⟨argT _,_,_⟩ (rt [.tmp 2] _)
 have hn:=h
 have hM:=VM_m (c:=c) (e:=e) (junk:=junk) h
 have hs:VM c e x m v (some i) eo junk i=some ⟨1,true,x.stk.reverse.map I64++junk⟩:=VR_s h rfl
 obtain ⟨h1,h2,h3,h4,h5,h6,h7,h8⟩:=h
 obtain ⟨q1,q2,q3⟩:=h4 i rfl
 have hl:x.stk.length=S.length+1:=by rw [hS];rfl
 have hw:IntKind.i64.wrap (((S.length+1:Nat):Int)-1)=(S.length:Int):=by rw [w64 (by omega) (by omega)];omega
 have hcell:(x.stk.reverse.map I64++junk)[S.length]? = some (I64 n):=by rw [hS];simp
 have hle:S.length≤S.length+1:=by omega
 have ne0:=nes3 m v i (by omega)
 repeat' ((with_reducible first|refine wr ?_|refine wb2 ?_ ?_<;>(intro hb;try simp only [hb])|fail)<;>try simp only [go_sem,seval,hM,hs,hl,hw,hcell,hle,Nat.lt_add_one,Nat.le_add_right,ne0])
 refine ⟨_,_,GL.less' (VR_sub (x:=x.pop) (m:=m) (v:=v) (so:=some i) (eo:=eo) (junk:=I64 n :: junk) (M:=vmB c e x.pop v (some i) eo) ?_ ?_ (fun j hj=>?_) (fun j hj=>?_)),rfl,rfl⟩
 ·rw [h_same];simp [Mch.pop,todoV,hS]
 ·rw [h_ne (by omega)];exact VR_v hn
 ·cases hj;rw [h_ne q1,hs];simp [Mch.pop,hS]
 ·have:=h5 j hj
  rw [h_ne (by omega)];exact VR_e hj
theorem c_veff (h:MN m v so eo x cc) (hb:x.effs.length≤100000) (op A b d:Int) :
  AC Tryz.prog 43 [.ptr m 0,.agg [I64 op,I64 A],I64 b,I64 d] (VM c e x m v so eo junk) cc (fun r H' c'=>r=.tup []∧∃ s2,cc≤s2∧s2<c'∧H'=VM c e (x.ask ⟨op,A,b,d,[]⟩) m v so (some s2) junk):=by
 refine AC.body mixedU isU43 (Nat.le_of_ble_eq_true rfl) fun hfr=>?_
 show IW Tryz.prog 24 u43_1 ⟨argT _,_,_⟩ (rt [] _)
 have hM:=VM_m (c:=c) (e:=e) (junk:=junk) h
 have hn:=h
 obtain ⟨h1,h2,h3,h4,h5,h6,h7,h8⟩:=h
 have fn:=fun j (hj:cc≤j)=>VR_n (junk:=junk) (M:=vmB c e x v so eo) hn hj
 have ne0:=nes6 m v cc (cc+1) (cc+1+12) (cc+1+17) (by omega)
 have dm:∀ X,delO X eo m=X m:=fun X=>delO_ne (fun i hi e=>(h5 i hi).1 e.symm)
 have dc:∀ X,delO X eo cc=X cc:=fun X=>delO_ne (fun i hi e=>by have:=h5 i hi;omega)
 have dc1:∀ X,delO X eo (cc+1)=X (cc+1):=fun X=>delO_ne (fun i hi e=>by have:=h5 i hi;omega)
 have f1:VM c e x m v so eo junk (cc+1)=none:=fn (cc+1) (by omega)
 repeat' ((with_reducible first|refine wr ?_|refine wb2 ?_ ?_<;>(intro hb;try simp only [hb])|fail)<;>try simp only [go_sem,seval,hM,ne0])
 refine x_eval (r_apptodo (cs:=effC x.effs) (fun e=>⟨len_nil (h8 e),by rw [h8 e];rfl⟩) (fun i hi=>?_) (effC_len _) (by omega) (by omega) (by omega)) ?_
 ·have:=h5 i hi
  rw [h_ne (by omega),h_ne (by omega)];exact VR_e hi
 simp only [go_sem,seval,dm,dc,dc1,f1,hM,ne0]
 repeat' ((with_reducible first|refine wr ?_|refine wb2 ?_ ?_<;>(intro hb;try simp only [hb])|fail)<;>try simp only [go_sem,seval,dm,dc,dc1,f1,hM,ne0])
 refine ⟨_,_,GL.less' (VR_sub (x:=x.ask ⟨op,A,b,d,[]⟩) (m:=m) (v:=v) (so:=so) (eo:=some (cc+1+17)) (junk:=junk) (M:=vmB c e (x.ask ⟨op,A,b,d,[]⟩) v so (some (cc+1+17))) ?_ ?_ (fun i hi=>?_) (fun i hi=>?_)),rfl,cc+1+17,by omega,by omega,rfl⟩
 ·rw [h_same];simp [Mch.ask,todoV]
 ·rw [h_ne (by omega),h_ne (by omega),delO_ne (fun j hj e=>(h5 j hj).2.1 e.symm),h_ne (by omega),h_ne (by omega)];exact VR_v hn
 ·have:=h4 i hi
  rw [h_ne (by omega),h_ne (by omega),delO_ne (fun j hj=>h6 i j hi hj),h_ne (by omega),h_ne (by omega)];exact VR_s hn hi
 ·cases hi;rw [h_ne (by omega),h_same];simp [Mch.ask,effC_app,effC_one]
end
end Go.Proofs.YtcallbfckjlagaaGreat
end

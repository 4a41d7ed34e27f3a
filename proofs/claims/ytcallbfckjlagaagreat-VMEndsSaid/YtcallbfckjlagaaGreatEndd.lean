/-
  HELPERS of the claim: part 4 of its texts.
-/
import Derived.ReadAgain
import Derived.ChangeBears
import Derived.Deep.Slices
import Derived.Below
import Derived.OpenShut
import Derived.Test.YtcallbfckjlagaaGreatProg
import Derived.KernelRfl
import Derived.Test.YtcallbfckjlagaaGreatEndc
noncomputable section
set_option linter.unusedVariables false
set_option linter.unusedSimpArgs false
namespace Go.Sym
open Go.RowKit Go.Pb Go.Deep
section
variable {H:Type} {enc:TypeId × Value→H} {P:Program} {T:TypeId→Prop} {W W':World}
theorem arg_kept (K:Kids P T) (hz:∀ t e,T t→P.underlying t=some (.slice e)→0<P.cellsOf e) (hb:Below W.heap.size W W') {sp:Nat→Bool} :
  ∀ {ts:List TypeId} {vs:List Value} {ds:List (DataW H)} {ps:List MemPlace},(∀ t∈ts,T t)→DataW.TrodAll enc P W 0 (fun _=>true) true ts vs ds ps→(∀ p∈ps,sp p.block=true)→DataW.TrodAll enc P W' 0 sp true ts vs ds ps
 | [],[],[],_,_,h,_=>h
 | t :: ts,v :: vs,d :: ds,ps,hT,⟨p,q,h1,h2,e⟩,hs=>by
  have hlt:=h1
  refine ⟨p,q,?_,arg_kept K hz hb (fun t ht=>hT t (List.mem_cons.2 (Or.inr ht))) h2 (fun x hx=>hs x (by rw [e];exact List.mem_append_right _ hx)),e⟩
  have h3:=h1.respare K hz (hT _ (List.mem_cons.2 (Or.inl rfl))) (spare':=sp) (fun x hx=>hs x (by rw [e];exact List.mem_append_left _ hx))
  obtain ⟨n,hn⟩:=h3
  obtain ⟨m,hm⟩:=h1
  exact ⟨n,DataW.trod_carry n _ _ _ hn fun x hx=>hb.same (DataW.trod_lt m _ _ _ hm x hx)⟩
theorem u8_of {n:Int} (h:(Lit.int .u8 n).wf=true):n=((UInt8.ofNat n.toNat).toNat:Int):=by
 have:=bounds_u8 h
 simp
 omega
theorem open_bytes {t e:TypeId} {v:Value} {d:DataW H} {ps:List MemPlace} (ht:P.underlying t=some (.slice e)) (he:P.underlying e=some (.int .u8)) (hc:P.cellsOf e=1)
  (h:DataW.Trod enc P W 0 (fun _=>true) true t v d ps) (hv:v.cells = #[v]):∃ l:List UInt8,l.length≤9223372036854775807∧VRel (topR W) (.lst (bytesC l)) v:=by
 obtain ⟨n,hn⟩:=h
 rcases open_slice1 ht hc hn with ⟨h1, -⟩|⟨a,len,cap,m,n',V,D,Pl,h1,h2,h3,h4,h5,h6,h7⟩
 ·rw [hv] at h1
  have:v=.slice none 0 0:=by simpa using h1
  subst this
  exact ⟨[],by simp,.lnil0⟩
 ·rw [hv] at h1
  have hva:v=.slice (some a) len cap:=by simpa using h1
  subst hva
  simp only [if_true] at h5
  have hk:∀ i,i<len→∃ k:Int,V i=.int .u8 k∧(Lit.int .u8 k).wf=true:=by
   intro i hi
   obtain ⟨k,q1,q2,q3⟩:=DataW.trod_int he (h7 i (by omega)).2
   exact ⟨k,by simpa using q1,q3⟩
  by_cases hl0:len=0
  ·subst hl0
   exact ⟨[],by simp,.lnil a cap⟩
  have hcell:=(h7 0 (by omega)).1
  have hadd0:a.add 0=a:=by simp [Addr.add]
  rw [hadd0] at hcell
  obtain ⟨b,off,spot⟩:=a
  have hspot:spot=none:=by
   simp only [World.cell?] at hcell
   split at hcell
   ·split at hcell
    ·cases hcell
    ·rename_i h;cases spot with
     | none=>rfl
     | some s=>simp at h
   ·cases hcell
  subst hspot
  have hrow:∃ row ty fr,W.heap[b]? = some (.cells row ty fr):=by
   simp only [World.cell?] at hcell
   split at hcell
   ·rename_i row ty fr h;exact ⟨row,ty,fr,h⟩
   ·cases hcell
  obtain ⟨row,ty,fr,hb⟩:=hrow
  have hget:∀ i,i<len→row[off+i]? = some (V i):=by
   intro i hi
   have h8:=(h7 i (by omega)).1
   have e1:(⟨b,off,none⟩:Addr).add i=⟨b,off+i,none⟩:=by
    unfold Addr.add
    split
    ·rename_i h0;subst h0;rfl
    ·rfl
   rw [e1] at h8
   simp only [World.cell?,hb] at h8
   exact h8
  obtain ⟨F,hF⟩:∃ F:Nat→UInt8, ∀ i,i<len→V i=.int .u8 ((F i).toNat:Int):=by
   have:∀ i, ∃ f:UInt8,i<len→V i=.int .u8 (f.toNat:Int):=fun i=>by
    by_cases hi:i<len
    ·obtain ⟨k,q1,q2⟩:=hk i hi
     exact ⟨UInt8.ofNat k.toNat,fun _=>by rw [q1, ← u8_of q2]⟩
    ·exact ⟨0,fun h=>absurd h hi⟩
   exact ⟨fun i=>Classical.choose (this i),fun i hi=>Classical.choose_spec (this i) hi⟩
  refine ⟨(List.range len).map F,by simp only [List.length_map,List.length_range];simp only [maxLen] at h4;omega,?_⟩
  have hcl:cellsL (bytesC ((List.range len).map F))=bytesC ((List.range len).map F):=cellsL_map1 (fun _=>rfl) _
  have hlen:(bytesC ((List.range len).map F)).length=len:=by rw [bytesC_len];simp
  refine .lst _ _ 1 b off cap row (topR_cells hb) hlen.symm h3 h4 (fun x hx=>by obtain ⟨y, -,rfl⟩:=List.mem_map.1 hx;rfl) ?_ ?_ ?_
  ·rw [hcl,hlen]
   have:=(Array.getElem?_eq_some_iff.1 (hget (len-1) (by omega))).1
   omega
  ·rw [hcl];intro x hx;obtain ⟨y, -,rfl⟩:=List.mem_map.1 hx;rfl
  ·rw [hcl]
   intro k x y hx hy
   have hkl:k<len:=by have:=(List.getElem?_eq_some_iff.1 hx).1;omega
   rw [hget k hkl,hF k hkl] at hy
   cases hy
   have hx2:(bytesC ((List.range len).map F))[k]? = some (DV.int .u8 ((F k).toNat:Int)):=by simp [bytesC,hkl]
   rw [hx2] at hx
   cases hx
   exact .int _ _
end
end Go.Sym
set_option maxHeartbeats 4000000
set_option maxRecDepth 100000
namespace Go.Proofs.YtcallbfckjlagaaGreat
open Go.Eng (IC IOper DReg IFn IsFn)
open Go.Sym
section
def u98_2r:List IOper:=[oM 7 0,oM 8 1,oB 9 7 8 .geq,oM 10 9,gM 11 0 10,gM 12 2 10,oG 13 (.bin .leq (.t 11) (.t 12)) 10,oP 14 (.pick (.t 10) (.t 13) (.k (.bool false))),oM 6 14]
def u98_2:IC:=.seq (.reg u98_2r) .ret
def u98_1r:List IOper:=[oP 6 (.mv (.k (.bool false)))]
def u98_1:IC:=.seq (.reg u98_1r) u98_2
def u98:IFn:=⟨15,u98_1,[.tmp 6]⟩
end
theorem isU98:IsFn Tryz.prog 98 u98:=by unfold IsFn;kernel_rfl
instance i98_2:WR Tryz.prog 15 u98_2 (rS u98_2r .ret [0,1,2]):=⟨mkS⟩
instance i98_1:WR Tryz.prog 15 u98_1 (rS u98_1r u98_2 [0,1,2]):=⟨mkS⟩
attribute [go_sem] u98_2r u98_1r
section
def u70_2r:List IOper:=[oF 3 1 0,oL 4 3,oH 5 4,oK 6 5 .leq 4000,oM 7 6,gF 8 1 1 7,gL 9 8 7,oG 10 (.len (.t 9)) 7,gK 11 10 7 .leq 200,oP 12 (.pick (.t 7) (.t 11) (.k (.bool false))),oM 13 12,gF 14 1 2 13,gL 15 14 13,oG 16 (.len (.t 15)) 13,gK 17 16 13 .leq 512,oP 18 (.pick (.t 13) (.t 17) (.k (.bool false))),oM 19 18,gF 20 1 3 19,gL 21 20 19,oG 22 (.len (.t 21)) 19,gK 23 22 19 .leq 16,oP 24 (.pick (.t 19) (.t 23) (.k (.bool false))),oM 25 24,gF 26 1 4 25,gL 27 26 25,oG 28 (.len (.t 27)) 25,gK 29 28 25 .leq 128,oP 30 (.pick (.t 25) (.t 29) (.k (.bool false))),oM 31 30,gF 32 1 5 31,gL 33 32 31,⟨some 34,.call 98 [.t 33,.k (.int .i64 0),.k (.int .i64 128)],some (31,true)⟩,oP 35 (.pick (.t 31) (.t 34) (.k (.bool false))),oM 36 35,gF 37 1 6 36,gL 38 37 36,⟨some 39,.call 98 [.t 38,.k (.int .i64 0),.k (.int .i64 128)],some (36,true)⟩,oP 40 (.pick (.t 36) (.t 39) (.k (.bool false))),oM 2 40]
def u70_2:IC:=.seq (.reg u70_2r) .ret
def u70_1r:List IOper:=[⟨some 1,.new (.box (.t 0)),none⟩,oP 2 (.mv (.k (.bool false)))]
def u70_1:IC:=.seq (.reg u70_1r) u70_2
def u70:IFn:=⟨41,u70_1,[.tmp 2]⟩
end
theorem isU70:IsFn Tryz.prog 70 u70:=by unfold IsFn;kernel_rfl
instance i70_2:WR Tryz.prog 41 u70_2 (rS u70_2r .ret [1]):=⟨mkS⟩
instance i70_1:WR Tryz.prog 41 u70_1 (rS u70_1r u70_2 [0]):=⟨mkS⟩
attribute [go_sem] u70_2r u70_1r
section
def u101_7:IC:=.cond (.t 7) .skip (.exit 0)
def u101_6r:List IOper:=[oM 4 3,oM 5 0,oP 6 (.lens (.t 5)),oB 7 4 6 .lss]
def u101_6:IC:=.seq (.reg u101_6r) u101_7
def u101_11r:List IOper:=[oP 2 (.mv (.k (.bool false)))]
def u101_11:IC:=.seq (.reg u101_11r) .ret
def u101_10:IC:=.cond (.t 19) u101_11 .skip
def u101_9r:List IOper:=[oM 10 0,oM 11 3,oP 12 (.idx (.t 10) (.t 11)),oP 13 (.bin .lss (.t 12) (.k (.int .u8 32))),oM 14 13,⟨some 15,.pur (.mv (.t 0)),some (14,false)⟩,⟨some 16,.pur (.mv (.t 3)),some (14,false)⟩,⟨some 17,.pur (.idx (.t 15) (.t 16)),some (14,false)⟩,⟨some 18,.pur (.bin .gtr (.t 17) (.k (.int .u8 126))),some (14,false)⟩,oP 19 (.pick (.t 14) (.k (.bool true)) (.t 18))]
def u101_9:IC:=.seq (.reg u101_9r) u101_10
def u101_12r:List IOper:=[oM 8 3,oK 9 8 .add 1,oM 3 9]
def u101_12:IC:=.reg u101_12r
def u101_8:IC:=.seq (.blk 1 u101_9) u101_12
def u101_5:IC:=.seq u101_6 u101_8
def u101_4:IC:=.blk 0 (.loop u101_5)
def u101_3r:List IOper:=[oI 3 0]
def u101_3:IC:=.seq (.reg u101_3r) u101_4
def u101_13r:List IOper:=[oM 20 0,oP 21 (.lens (.t 20)),oK 22 21 .leq 32,oM 2 22]
def u101_13:IC:=.seq (.reg u101_13r) .ret
def u101_2:IC:=.seq u101_3 u101_13
def u101_1r:List IOper:=[oP 2 (.mv (.k (.bool false)))]
def u101_1:IC:=.seq (.reg u101_1r) u101_2
def u101:IFn:=⟨23,u101_1,[.tmp 2]⟩
end
theorem isU101:IsFn Tryz.prog 101 u101:=by unfold IsFn;kernel_rfl
instance i101_7:WR Tryz.prog 23 u101_7 (rCE (.t 7) .skip (.exit 0) [0,3,7]):=⟨mkCE⟩
instance i101_6:WR Tryz.prog 23 u101_6 (rS u101_6r u101_7 [0,3]):=⟨mkS⟩
instance i101_11:WR Tryz.prog 23 u101_11 (rS u101_11r .ret []):=⟨mkS⟩
instance i101_10:WR Tryz.prog 23 u101_10 (rCE (.t 19) u101_11 .skip [0,3,19]):=⟨mkCE⟩
instance i101_9:WR Tryz.prog 23 u101_9 (rS u101_9r u101_10 [0,3]):=⟨mkS⟩
instance i101_12:WR Tryz.prog 23 u101_12 (rE u101_12r [0,3]):=⟨mkE⟩
instance i101_8:WR Tryz.prog 23 u101_8 (rB 1 u101_9 u101_12 [0,3]):=⟨mkB⟩
instance i101_5:WR Tryz.prog 23 u101_5 (rQ u101_6 u101_8 [0,3]):=⟨mkQ⟩
instance i101_4:WR Tryz.prog 23 u101_4 (rBE 0 (.loop u101_5) [0,3]):=⟨mkBE⟩
instance i101_3:WR Tryz.prog 23 u101_3 (rS u101_3r u101_4 [0]):=⟨mkS⟩
instance i101_13:WR Tryz.prog 23 u101_13 (rS u101_13r .ret [0]):=⟨mkS⟩
instance i101_2:WR Tryz.prog 23 u101_2 (rQ u101_3 u101_13 [0]):=⟨mkQ⟩
instance i101_1:WR Tryz.prog 23 u101_1 (rS u101_1r u101_2 [0]):=⟨mkS⟩
attribute [go_sem] u101_6r u101_11r u101_9r u101_12r u101_3r u101_13r u101_1r
section
def u105_5r:List IOper:=[oP 4 (.mv (.k (.bool false)))]
def u105_5:IC:=.seq (.reg u105_5r) .ret
def u105_4:IC:=.cond (.t 12) u105_5 .skip
def u105_3r:List IOper:=[oF 5 3 0,oL 6 5,oF 7 2 3,oL 8 7,oH 9 8,oK 10 9 .sub 1,oC 11 98 [.t 6,.k (.int .i64 0),.t 10],oP 12 (.un .not (.t 11))]
def u105_3:IC:=.seq (.reg u105_3r) u105_4
def u105_12r:List IOper:=[oK 17 14 .eql 2,oM 15 17]
def u105_12:IC:=.reg u105_12r
def u105_11:IC:=.cond (.t 15) .skip u105_12
def u105_10r:List IOper:=[oK 16 14 .eql 1,oM 15 16]
def u105_10:IC:=.seq (.reg u105_10r) u105_11
def u105_14r:List IOper:=[oF 18 3 2,oL 19 18,oK 20 19 .eql 0,oM 4 20]
def u105_14:IC:=.seq (.reg u105_14r) .ret
def u105_18r:List IOper:=[oK 23 14 .eql 4,oM 21 23]
def u105_18:IC:=.reg u105_18r
def u105_17:IC:=.cond (.t 21) .skip u105_18
def u105_16r:List IOper:=[oK 22 14 .eql 3,oM 21 22]
def u105_16:IC:=.seq (.reg u105_16r) u105_17
def u105_20r:List IOper:=[oF 24 3 2,oL 25 24,oC 26 98 [.t 25,.k (.int .i64 0),.k (.int .i64 63)],oM 4 26]
def u105_20:IC:=.seq (.reg u105_20r) .ret
def u105_23r:List IOper:=[oF 29 3 2,oL 30 29,oF 31 2 5,oL 32 31,oK 33 32 .sub 1,oC 34 98 [.t 30,.k (.int .i64 0),.t 33],oM 4 34]
def u105_23:IC:=.seq (.reg u105_23r) .ret
def u105_26r:List IOper:=[oF 37 3 2,oL 38 37,oF 39 2 6,oL 40 39,oK 41 40 .sub 1,oC 42 98 [.t 38,.k (.int .i64 0),.t 41],oM 4 42]
def u105_26:IC:=.seq (.reg u105_26r) .ret
def u105_25:IC:=.cond (.t 35) u105_26 .skip
def u105_24r:List IOper:=[oK 36 14 .eql 6,oM 35 36]
def u105_24:IC:=.seq (.reg u105_24r) u105_25
def u105_22:IC:=.cond (.t 27) u105_23 u105_24
def u105_21r:List IOper:=[oK 28 14 .eql 5,oM 27 28]
def u105_21:IC:=.seq (.reg u105_21r) u105_22
def u105_19:IC:=.cond (.t 21) u105_20 u105_21
def u105_15:IC:=.seq u105_16 u105_19
def u105_13:IC:=.cond (.t 15) u105_14 u105_15
def u105_9:IC:=.seq u105_10 u105_13
def u105_8:IC:=.blk 0 u105_9
def u105_7r:List IOper:=[oF 13 3 1,oL 14 13]
def u105_7:IC:=.seq (.reg u105_7r) u105_8
def u105_27r:List IOper:=[oP 4 (.mv (.k (.bool false)))]
def u105_27:IC:=.seq (.reg u105_27r) .ret
def u105_6:IC:=.seq u105_7 u105_27
def u105_2:IC:=.seq u105_3 u105_6
def u105_1r:List IOper:=[⟨some 2,.new (.box (.t 0)),none⟩,⟨some 3,.new (.box (.t 1)),none⟩,oP 4 (.mv (.k (.bool false)))]
def u105_1:IC:=.seq (.reg u105_1r) u105_2
def u105:IFn:=⟨43,u105_1,[.tmp 4]⟩
end
theorem isU105:IsFn Tryz.prog 105 u105:=by unfold IsFn;kernel_rfl
instance i105_5:WR Tryz.prog 43 u105_5 (rS u105_5r .ret []):=⟨mkS⟩
instance i105_4:WR Tryz.prog 43 u105_4 (rCE (.t 12) u105_5 .skip [2,3,12]):=⟨mkCE⟩
instance i105_3:WR Tryz.prog 43 u105_3 (rS u105_3r u105_4 [2,3]):=⟨mkS⟩
instance i105_12:WR Tryz.prog 43 u105_12 (rE u105_12r [2,3,14]):=⟨mkE⟩
instance i105_11:WR Tryz.prog 43 u105_11 (rCE (.t 15) .skip u105_12 [2,3,14,15]):=⟨mkCE⟩
instance i105_10:WR Tryz.prog 43 u105_10 (rS u105_10r u105_11 [2,3,14]):=⟨mkS⟩
instance i105_14:WR Tryz.prog 43 u105_14 (rS u105_14r .ret [3]):=⟨mkS⟩
instance i105_18:WR Tryz.prog 43 u105_18 (rE u105_18r [2,3,14]):=⟨mkE⟩
instance i105_17:WR Tryz.prog 43 u105_17 (rCE (.t 21) .skip u105_18 [2,3,14,21]):=⟨mkCE⟩
instance i105_16:WR Tryz.prog 43 u105_16 (rS u105_16r u105_17 [2,3,14]):=⟨mkS⟩
instance i105_20:WR Tryz.prog 43 u105_20 (rS u105_20r .ret [3]):=⟨mkS⟩
instance i105_23:WR Tryz.prog 43 u105_23 (rS u105_23r .ret [2,3]):=⟨mkS⟩
instance i105_26:WR Tryz.prog 43 u105_26 (rS u105_26r .ret [2,3]):=⟨mkS⟩
instance i105_25:WR Tryz.prog 43 u105_25 (rCE (.t 35) u105_26 .skip [2,3,35]):=⟨mkCE⟩
instance i105_24:WR Tryz.prog 43 u105_24 (rS u105_24r u105_25 [2,3,14]):=⟨mkS⟩
instance i105_22:WR Tryz.prog 43 u105_22 (rCE (.t 27) u105_23 u105_24 [2,3,14,27]):=⟨mkCE⟩
instance i105_21:WR Tryz.prog 43 u105_21 (rS u105_21r u105_22 [2,3,14]):=⟨mkS⟩
instance i105_19:WR Tryz.prog 43 u105_19 (rCE (.t 21) u105_20 u105_21 [2,3,14,21]):=⟨mkCE⟩
instance i105_15:WR Tryz.prog 43 u105_15 (rQ u105_16 u105_19 [2,3,14]):=⟨mkQ⟩
instance i105_13:WR Tryz.prog 43 u105_13 (rCE (.t 15) u105_14 u105_15 [2,3,14,15]):=⟨mkCE⟩
instance i105_9:WR Tryz.prog 43 u105_9 (rQ u105_10 u105_13 [2,3,14]):=⟨mkQ⟩
instance i105_8:WR Tryz.prog 43 u105_8 (rBE 0 u105_9 [2,3,14]):=⟨mkBE⟩
instance i105_7:WR Tryz.prog 43 u105_7 (rS u105_7r u105_8 [2,3]):=⟨mkS⟩
instance i105_27:WR Tryz.prog 43 u105_27 (rS u105_27r .ret []):=⟨mkS⟩
instance i105_6:WR Tryz.prog 43 u105_6 (rQ u105_7 u105_27 [2,3]):=⟨mkQ⟩
instance i105_2:WR Tryz.prog 43 u105_2 (rQ u105_3 u105_6 [2,3]):=⟨mkQ⟩
instance i105_1:WR Tryz.prog 43 u105_1 (rS u105_1r u105_2 [0,1]):=⟨mkS⟩
attribute [go_sem] u105_5r u105_3r u105_12r u105_10r u105_14r u105_18r u105_16r u105_20r u105_23r u105_26r u105_24r u105_21r u105_7r u105_27r u105_1r
section
def u107_2r:List IOper:=[oM 3 0,oK 4 3 .eql 12,oM 5 4,⟨some 6,.pur (.mv (.t 0)),some (5,false)⟩,⟨some 7,.pur (.bin .eql (.t 6) (.k (.int .i64 13))),some (5,false)⟩,oP 8 (.pick (.t 5) (.k (.bool true)) (.t 7)),oM 9 8,⟨some 10,.pur (.mv (.t 0)),some (9,false)⟩,⟨some 11,.pur (.bin .eql (.t 10) (.k (.int .i64 14))),some (9,false)⟩,oP 12 (.pick (.t 9) (.k (.bool true)) (.t 11)),oM 2 12]
def u107_2:IC:=.seq (.reg u107_2r) .ret
def u107_1r:List IOper:=[oP 2 (.mv (.k (.bool false)))]
def u107_1:IC:=.seq (.reg u107_1r) u107_2
def u107:IFn:=⟨13,u107_1,[.tmp 2]⟩
end
theorem isU107:IsFn Tryz.prog 107 u107:=by unfold IsFn;kernel_rfl
instance i107_2:WR Tryz.prog 13 u107_2 (rS u107_2r .ret [0]):=⟨mkS⟩
instance i107_1:WR Tryz.prog 13 u107_1 (rS u107_1r u107_2 [0]):=⟨mkS⟩
attribute [go_sem] u107_2r u107_1r
section
def u106_7r:List IOper:=[oI 4 (-2147483647),oI 5 2147483647]
def u106_7:IC:=.seq (.reg u106_7r) .ret
def u106_11r:List IOper:=[oK 11 6 .eql 3,oM 9 11]
def u106_11:IC:=.reg u106_11r
def u106_10:IC:=.cond (.t 9) .skip u106_11
def u106_9r:List IOper:=[oK 10 6 .eql 2,oM 9 10]
def u106_9:IC:=.seq (.reg u106_9r) u106_10
def u106_13r:DReg:=⟨[oF 12 2 4,oL 13 12,oH 14 13,oK 15 14 .sub 1,oI 4 0,oM 5 15],[[],[0],[1,0],[2,1,0],[],[3,4,0,1,2]],[(0,none),(1,none),(2,none),(3,none),(4,some [0,1,2,3]),(5,some [])]⟩
def u106_13:IC:=.seq (.drw 6 u106_13r) .ret
def u106_16r:List IOper:=[oI 4 0,oI 5 63]
def u106_16:IC:=.seq (.reg u106_16r) .ret
def u106_22r:List IOper:=[oK 21 6 .eql 24,oM 18 21]
def u106_22:IC:=.reg u106_22r
def u106_21:IC:=.cond (.t 18) .skip u106_22
def u106_20r:List IOper:=[oK 20 6 .eql 23,oM 18 20]
def u106_20:IC:=.seq (.reg u106_20r) u106_21
def u106_19:IC:=.cond (.t 18) .skip u106_20
def u106_18r:List IOper:=[oK 19 6 .eql 5,oM 18 19]
def u106_18:IC:=.seq (.reg u106_18r) u106_19
def u106_24r:DReg:=⟨[oF 22 2 3,oL 23 22,oH 24 23,oK 25 24 .sub 1,oI 4 0,oM 5 25],[[],[0],[1,0],[2,1,0],[],[3,4,0,1,2]],[(0,none),(1,none),(2,none),(3,none),(4,some [0,1,2,3]),(5,some [])]⟩
def u106_24:IC:=.seq (.drw 6 u106_24r) .ret
def u106_30r:List IOper:=[oK 29 6 .eql 22,oM 26 29]
def u106_30:IC:=.reg u106_30r
def u106_29:IC:=.cond (.t 26) .skip u106_30
def u106_28r:List IOper:=[oK 28 6 .eql 21,oM 26 28]
def u106_28:IC:=.seq (.reg u106_28r) u106_29
def u106_27:IC:=.cond (.t 26) .skip u106_28
def u106_26r:List IOper:=[oK 27 6 .eql 6,oM 26 27]
def u106_26:IC:=.seq (.reg u106_26r) u106_27
def u106_32r:DReg:=⟨[oF 30 2 5,oL 31 30,oK 32 31 .sub 1,oI 4 0,oM 5 32],[[],[0],[1,0],[],[2,3,0,1]],[(0,none),(1,none),(2,none),(3,some [0,1,2]),(4,some [])]⟩
def u106_32:IC:=.seq (.drw 5 u106_32r) .ret
def u106_35r:List IOper:=[oI 4 12,oI 5 24]
def u106_35:IC:=.seq (.reg u106_35r) .ret
def u106_41r:List IOper:=[oK 38 6 .eql 18,oM 35 38]
def u106_41:IC:=.reg u106_41r
def u106_40:IC:=.cond (.t 35) .skip u106_41
def u106_39r:List IOper:=[oK 37 6 .eql 17,oM 35 37]
def u106_39:IC:=.seq (.reg u106_39r) u106_40
def u106_38:IC:=.cond (.t 35) .skip u106_39
def u106_37r:List IOper:=[oK 36 6 .eql 16,oM 35 36]
def u106_37:IC:=.seq (.reg u106_37r) u106_38
def u106_43r:List IOper:=[oI 4 0,oI 5 31]
def u106_43:IC:=.seq (.reg u106_43r) .ret
def u106_53r:List IOper:=[oK 44 6 .eql 28,oM 39 44]
def u106_53:IC:=.reg u106_53r
def u106_52:IC:=.cond (.t 39) .skip u106_53
def u106_51r:List IOper:=[oK 43 6 .eql 27,oM 39 43]
def u106_51:IC:=.seq (.reg u106_51r) u106_52
def u106_50:IC:=.cond (.t 39) .skip u106_51
def u106_49r:List IOper:=[oK 42 6 .eql 26,oM 39 42]
def u106_49:IC:=.seq (.reg u106_49r) u106_50
def u106_48:IC:=.cond (.t 39) .skip u106_49
def u106_47r:List IOper:=[oK 41 6 .eql 20,oM 39 41]
def u106_47:IC:=.seq (.reg u106_47r) u106_48
def u106_46:IC:=.cond (.t 39) .skip u106_47
def u106_45r:List IOper:=[oK 40 6 .eql 19,oM 39 40]
def u106_45:IC:=.seq (.reg u106_45r) u106_46
def u106_55r:List IOper:=[oI 4 0,oI 5 63]
def u106_55:IC:=.seq (.reg u106_55r) .ret
def u106_58r:DReg:=⟨[oF 47 2 6,oL 48 47,oK 49 48 .sub 1,oI 4 0,oM 5 49],[[],[0],[1,0],[],[2,3,0,1]],[(0,none),(1,none),(2,none),(3,some [0,1,2]),(4,some [])]⟩
def u106_58:IC:=.seq (.drw 5 u106_58r) .ret
def u106_61r:DReg:=⟨[oF 52 2 1,oL 53 52,oH 54 53,oK 55 54 .sub 1,oI 4 0,oM 5 55],[[],[0],[1,0],[2,1,0],[],[3,4,0,1,2]],[(0,none),(1,none),(2,none),(3,none),(4,some [0,1,2,3]),(5,some [])]⟩
def u106_61:IC:=.seq (.drw 6 u106_61r) .ret
def u106_75r:List IOper:=[oK 63 6 .eql 31,oM 56 63]
def u106_75:IC:=.reg u106_75r
def u106_74:IC:=.cond (.t 56) .skip u106_75
def u106_73r:List IOper:=[oK 62 6 .eql 30,oM 56 62]
def u106_73:IC:=.seq (.reg u106_73r) u106_74
def u106_72:IC:=.cond (.t 56) .skip u106_73
def u106_71r:List IOper:=[oK 61 6 .eql 15,oM 56 61]
def u106_71:IC:=.seq (.reg u106_71r) u106_72
def u106_70:IC:=.cond (.t 56) .skip u106_71
def u106_69r:List IOper:=[oK 60 6 .eql 10,oM 56 60]
def u106_69:IC:=.seq (.reg u106_69r) u106_70
def u106_68:IC:=.cond (.t 56) .skip u106_69
def u106_67r:List IOper:=[oK 59 6 .eql 9,oM 56 59]
def u106_67:IC:=.seq (.reg u106_67r) u106_68
def u106_66:IC:=.cond (.t 56) .skip u106_67
def u106_65r:List IOper:=[oK 58 6 .eql 8,oM 56 58]
def u106_65:IC:=.seq (.reg u106_65r) u106_66
def u106_64:IC:=.cond (.t 56) .skip u106_65
def u106_63r:List IOper:=[oK 57 6 .eql 7,oM 56 57]
def u106_63:IC:=.seq (.reg u106_63r) u106_64
def u106_77r:List IOper:=[oI 4 0,oI 5 0]
def u106_77:IC:=.seq (.reg u106_77r) .ret
def u106_76:IC:=.cond (.t 56) u106_77 .skip
def u106_62:IC:=.seq u106_63 u106_76
def u106_60:IC:=.cond (.t 50) u106_61 u106_62
def u106_59r:List IOper:=[oK 51 6 .eql 29,oM 50 51]
def u106_59:IC:=.seq (.reg u106_59r) u106_60
def u106_57:IC:=.cond (.t 45) u106_58 u106_59
def u106_56r:List IOper:=[oK 46 6 .eql 25,oM 45 46]
def u106_56:IC:=.seq (.reg u106_56r) u106_57
def u106_54:IC:=.cond (.t 39) u106_55 u106_56
def u106_44:IC:=.seq u106_45 u106_54
def u106_42:IC:=.cond (.t 35) u106_43 u106_44
def u106_36:IC:=.seq u106_37 u106_42
def u106_34:IC:=.cond (.t 33) u106_35 u106_36
def u106_33r:List IOper:=[oK 34 6 .eql 11,oM 33 34]
def u106_33:IC:=.seq (.reg u106_33r) u106_34
def u106_31:IC:=.cond (.t 26) u106_32 u106_33
def u106_25:IC:=.seq u106_26 u106_31
def u106_23:IC:=.cond (.t 18) u106_24 u106_25
def u106_17:IC:=.seq u106_18 u106_23
def u106_15:IC:=.cond (.t 16) u106_16 u106_17
def u106_14r:List IOper:=[oK 17 6 .eql 4,oM 16 17]
def u106_14:IC:=.seq (.reg u106_14r) u106_15
def u106_12:IC:=.cond (.t 9) u106_13 u106_14
def u106_8:IC:=.seq u106_9 u106_12
def u106_6:IC:=.cond (.t 7) u106_7 u106_8
def u106_5r:List IOper:=[oK 8 6 .eql 1,oM 7 8]
def u106_5:IC:=.seq (.reg u106_5r) u106_6
def u106_4:IC:=.blk 0 u106_5
def u106_3r:List IOper:=[oM 6 1]
def u106_3:IC:=.seq (.reg u106_3r) u106_4
def u106_78r:List IOper:=[oI 4 1,oI 5 0]
def u106_78:IC:=.seq (.reg u106_78r) .ret
def u106_2:IC:=.seq u106_3 u106_78
def u106_1r:List IOper:=[⟨some 2,.new (.box (.t 0)),none⟩,oI 4 0,oI 5 0]
def u106_1:IC:=.seq (.reg u106_1r) u106_2
def u106:IFn:=⟨64,u106_1,[.tmp 4,.tmp 5]⟩
end
theorem isU106:IsFn Tryz.prog 106 u106:=by unfold IsFn;kernel_rfl
instance i106_7:WR Tryz.prog 64 u106_7 (rS u106_7r .ret []):=⟨mkS⟩
instance i106_11:WR Tryz.prog 64 u106_11 (rE u106_11r [2,6]):=⟨mkE⟩
instance i106_10:WR Tryz.prog 64 u106_10 (rCE (.t 9) .skip u106_11 [2,6,9]):=⟨mkCE⟩
instance i106_9:WR Tryz.prog 64 u106_9 (rS u106_9r u106_10 [2,6]):=⟨mkS⟩
instance i106_13:WR Tryz.prog 64 u106_13 (rD 6 u106_13r .ret [2]):=⟨mkD⟩
instance i106_16:WR Tryz.prog 64 u106_16 (rS u106_16r .ret []):=⟨mkS⟩
instance i106_22:WR Tryz.prog 64 u106_22 (rE u106_22r [2,6]):=⟨mkE⟩
instance i106_21:WR Tryz.prog 64 u106_21 (rCE (.t 18) .skip u106_22 [2,6,18]):=⟨mkCE⟩
instance i106_20:WR Tryz.prog 64 u106_20 (rS u106_20r u106_21 [2,6]):=⟨mkS⟩
instance i106_19:WR Tryz.prog 64 u106_19 (rCE (.t 18) .skip u106_20 [2,6,18]):=⟨mkCE⟩
instance i106_18:WR Tryz.prog 64 u106_18 (rS u106_18r u106_19 [2,6]):=⟨mkS⟩
instance i106_24:WR Tryz.prog 64 u106_24 (rD 6 u106_24r .ret [2]):=⟨mkD⟩
instance i106_30:WR Tryz.prog 64 u106_30 (rE u106_30r [2,6]):=⟨mkE⟩
instance i106_29:WR Tryz.prog 64 u106_29 (rCE (.t 26) .skip u106_30 [2,6,26]):=⟨mkCE⟩
instance i106_28:WR Tryz.prog 64 u106_28 (rS u106_28r u106_29 [2,6]):=⟨mkS⟩
instance i106_27:WR Tryz.prog 64 u106_27 (rCE (.t 26) .skip u106_28 [2,6,26]):=⟨mkCE⟩
instance i106_26:WR Tryz.prog 64 u106_26 (rS u106_26r u106_27 [2,6]):=⟨mkS⟩
instance i106_32:WR Tryz.prog 64 u106_32 (rD 5 u106_32r .ret [2]):=⟨mkD⟩
instance i106_35:WR Tryz.prog 64 u106_35 (rS u106_35r .ret []):=⟨mkS⟩
instance i106_41:WR Tryz.prog 64 u106_41 (rE u106_41r [2,6]):=⟨mkE⟩
instance i106_40:WR Tryz.prog 64 u106_40 (rCE (.t 35) .skip u106_41 [2,6,35]):=⟨mkCE⟩
instance i106_39:WR Tryz.prog 64 u106_39 (rS u106_39r u106_40 [2,6]):=⟨mkS⟩
instance i106_38:WR Tryz.prog 64 u106_38 (rCE (.t 35) .skip u106_39 [2,6,35]):=⟨mkCE⟩
instance i106_37:WR Tryz.prog 64 u106_37 (rS u106_37r u106_38 [2,6]):=⟨mkS⟩
instance i106_43:WR Tryz.prog 64 u106_43 (rS u106_43r .ret []):=⟨mkS⟩
instance i106_53:WR Tryz.prog 64 u106_53 (rE u106_53r [2,6]):=⟨mkE⟩
instance i106_52:WR Tryz.prog 64 u106_52 (rCE (.t 39) .skip u106_53 [2,6,39]):=⟨mkCE⟩
instance i106_51:WR Tryz.prog 64 u106_51 (rS u106_51r u106_52 [2,6]):=⟨mkS⟩
instance i106_50:WR Tryz.prog 64 u106_50 (rCE (.t 39) .skip u106_51 [2,6,39]):=⟨mkCE⟩
instance i106_49:WR Tryz.prog 64 u106_49 (rS u106_49r u106_50 [2,6]):=⟨mkS⟩
instance i106_48:WR Tryz.prog 64 u106_48 (rCE (.t 39) .skip u106_49 [2,6,39]):=⟨mkCE⟩
instance i106_47:WR Tryz.prog 64 u106_47 (rS u106_47r u106_48 [2,6]):=⟨mkS⟩
instance i106_46:WR Tryz.prog 64 u106_46 (rCE (.t 39) .skip u106_47 [2,6,39]):=⟨mkCE⟩
instance i106_45:WR Tryz.prog 64 u106_45 (rS u106_45r u106_46 [2,6]):=⟨mkS⟩
instance i106_55:WR Tryz.prog 64 u106_55 (rS u106_55r .ret []):=⟨mkS⟩
instance i106_58:WR Tryz.prog 64 u106_58 (rD 5 u106_58r .ret [2]):=⟨mkD⟩
instance i106_61:WR Tryz.prog 64 u106_61 (rD 6 u106_61r .ret [2]):=⟨mkD⟩
instance i106_75:WR Tryz.prog 64 u106_75 (rE u106_75r [6]):=⟨mkE⟩
instance i106_74:WR Tryz.prog 64 u106_74 (rCE (.t 56) .skip u106_75 [6,56]):=⟨mkCE⟩
instance i106_73:WR Tryz.prog 64 u106_73 (rS u106_73r u106_74 [6]):=⟨mkS⟩
instance i106_72:WR Tryz.prog 64 u106_72 (rCE (.t 56) .skip u106_73 [6,56]):=⟨mkCE⟩
instance i106_71:WR Tryz.prog 64 u106_71 (rS u106_71r u106_72 [6]):=⟨mkS⟩
instance i106_70:WR Tryz.prog 64 u106_70 (rCE (.t 56) .skip u106_71 [6,56]):=⟨mkCE⟩
instance i106_69:WR Tryz.prog 64 u106_69 (rS u106_69r u106_70 [6]):=⟨mkS⟩
instance i106_68:WR Tryz.prog 64 u106_68 (rCE (.t 56) .skip u106_69 [6,56]):=⟨mkCE⟩
instance i106_67:WR Tryz.prog 64 u106_67 (rS u106_67r u106_68 [6]):=⟨mkS⟩
instance i106_66:WR Tryz.prog 64 u106_66 (rCE (.t 56) .skip u106_67 [6,56]):=⟨mkCE⟩
instance i106_65:WR Tryz.prog 64 u106_65 (rS u106_65r u106_66 [6]):=⟨mkS⟩
instance i106_64:WR Tryz.prog 64 u106_64 (rCE (.t 56) .skip u106_65 [6,56]):=⟨mkCE⟩
instance i106_63:WR Tryz.prog 64 u106_63 (rS u106_63r u106_64 [6]):=⟨mkS⟩
instance i106_77:WR Tryz.prog 64 u106_77 (rS u106_77r .ret []):=⟨mkS⟩
instance i106_76:WR Tryz.prog 64 u106_76 (rCE (.t 56) u106_77 .skip [56]):=⟨mkCE⟩
instance i106_62:WR Tryz.prog 64 u106_62 (rQ u106_63 u106_76 [6]):=⟨mkQ⟩
instance i106_60:WR Tryz.prog 64 u106_60 (rCE (.t 50) u106_61 u106_62 [2,6,50]):=⟨mkCE⟩
instance i106_59:WR Tryz.prog 64 u106_59 (rS u106_59r u106_60 [2,6]):=⟨mkS⟩
instance i106_57:WR Tryz.prog 64 u106_57 (rCE (.t 45) u106_58 u106_59 [2,6,45]):=⟨mkCE⟩
instance i106_56:WR Tryz.prog 64 u106_56 (rS u106_56r u106_57 [2,6]):=⟨mkS⟩
instance i106_54:WR Tryz.prog 64 u106_54 (rCE (.t 39) u106_55 u106_56 [2,6,39]):=⟨mkCE⟩
instance i106_44:WR Tryz.prog 64 u106_44 (rQ u106_45 u106_54 [2,6]):=⟨mkQ⟩
instance i106_42:WR Tryz.prog 64 u106_42 (rCE (.t 35) u106_43 u106_44 [2,6,35]):=⟨mkCE⟩
instance i106_36:WR Tryz.prog 64 u106_36 (rQ u106_37 u106_42 [2,6]):=⟨mkQ⟩
instance i106_34:WR Tryz.prog 64 u106_34 (rCE (.t 33) u106_35 u106_36 [2,6,33]):=⟨mkCE⟩
instance i106_33:WR Tryz.prog 64 u106_33 (rS u106_33r u106_34 [2,6]):=⟨mkS⟩
instance i106_31:WR Tryz.prog 64 u106_31 (rCE (.t 26) u106_32 u106_33 [2,6,26]):=⟨mkCE⟩
instance i106_25:WR Tryz.prog 64 u106_25 (rQ u106_26 u106_31 [2,6]):=⟨mkQ⟩
instance i106_23:WR Tryz.prog 64 u106_23 (rCE (.t 18) u106_24 u106_25 [2,6,18]):=⟨mkCE⟩
instance i106_17:WR Tryz.prog 64 u106_17 (rQ u106_18 u106_23 [2,6]):=⟨mkQ⟩
instance i106_15:WR Tryz.prog 64 u106_15 (rCE (.t 16) u106_16 u106_17 [2,6,16]):=⟨mkCE⟩
instance i106_14:WR Tryz.prog 64 u106_14 (rS u106_14r u106_15 [2,6]):=⟨mkS⟩
instance i106_12:WR Tryz.prog 64 u106_12 (rCE (.t 9) u106_13 u106_14 [2,6,9]):=⟨mkCE⟩
instance i106_8:WR Tryz.prog 64 u106_8 (rQ u106_9 u106_12 [2,6]):=⟨mkQ⟩
instance i106_6:WR Tryz.prog 64 u106_6 (rCE (.t 7) u106_7 u106_8 [2,6,7]):=⟨mkCE⟩
instance i106_5:WR Tryz.prog 64 u106_5 (rS u106_5r u106_6 [2,6]):=⟨mkS⟩
instance i106_4:WR Tryz.prog 64 u106_4 (rBE 0 u106_5 [2,6]):=⟨mkBE⟩
instance i106_3:WR Tryz.prog 64 u106_3 (rS u106_3r u106_4 [1,2]):=⟨mkS⟩
instance i106_78:WR Tryz.prog 64 u106_78 (rS u106_78r .ret []):=⟨mkS⟩
instance i106_2:WR Tryz.prog 64 u106_2 (rQ u106_3 u106_78 [1,2]):=⟨mkQ⟩
instance i106_1:WR Tryz.prog 64 u106_1 (rS u106_1r u106_2 [0,1]):=⟨mkS⟩
attribute [go_sem] u106_7r u106_11r u106_9r u106_13r u106_16r u106_22r u106_20r u106_18r u106_24r u106_30r u106_28r u106_26r u106_32r u106_35r u106_41r u106_39r u106_37r u106_43r u106_53r u106_51r u106_49r u106_47r u106_45r u106_55r u106_58r u106_61r u106_75r u106_73r u106_71r u106_69r u106_67r u106_65r u106_63r u106_77r u106_59r u106_56r u106_33r u106_14r u106_5r u106_3r u106_78r u106_1r
section
def u110_18r:List IOper:=[oK 12 4 .eql 8,oM 5 12]
def u110_18:IC:=.reg u110_18r
def u110_17:IC:=.cond (.t 5) .skip u110_18
def u110_16r:List IOper:=[oK 11 4 .eql 7,oM 5 11]
def u110_16:IC:=.seq (.reg u110_16r) u110_17
def u110_15:IC:=.cond (.t 5) .skip u110_16
def u110_14r:List IOper:=[oK 10 4 .eql 6,oM 5 10]
def u110_14:IC:=.seq (.reg u110_14r) u110_15
def u110_13:IC:=.cond (.t 5) .skip u110_14
def u110_12r:List IOper:=[oK 9 4 .eql 5,oM 5 9]
def u110_12:IC:=.seq (.reg u110_12r) u110_13
def u110_11:IC:=.cond (.t 5) .skip u110_12
def u110_10r:List IOper:=[oK 8 4 .eql 4,oM 5 8]
def u110_10:IC:=.seq (.reg u110_10r) u110_11
def u110_9:IC:=.cond (.t 5) .skip u110_10
def u110_8r:List IOper:=[oK 7 4 .eql 2,oM 5 7]
def u110_8:IC:=.seq (.reg u110_8r) u110_9
def u110_7:IC:=.cond (.t 5) .skip u110_8
def u110_6r:List IOper:=[oK 6 4 .eql 1,oM 5 6]
def u110_6:IC:=.seq (.reg u110_6r) u110_7
def u110_20r:List IOper:=[oI 2 0,oI 3 1]
def u110_20:IC:=.seq (.reg u110_20r) .ret
def u110_26r:List IOper:=[oK 16 4 .eql 14,oM 13 16]
def u110_26:IC:=.reg u110_26r
def u110_25:IC:=.cond (.t 13) .skip u110_26
def u110_24r:List IOper:=[oK 15 4 .eql 10,oM 13 15]
def u110_24:IC:=.seq (.reg u110_24r) u110_25
def u110_23:IC:=.cond (.t 13) .skip u110_24
def u110_22r:List IOper:=[oK 14 4 .eql 9,oM 13 14]
def u110_22:IC:=.seq (.reg u110_22r) u110_23
def u110_28r:List IOper:=[oI 2 1,oI 3 1]
def u110_28:IC:=.seq (.reg u110_28r) .ret
def u110_31r:List IOper:=[oI 2 2,oI 3 1]
def u110_31:IC:=.seq (.reg u110_31r) .ret
def u110_34r:List IOper:=[oI 2 2,oI 3 0]
def u110_34:IC:=.seq (.reg u110_34r) .ret
def u110_46r:List IOper:=[oK 27 4 .eql 29,oM 21 27]
def u110_46:IC:=.reg u110_46r
def u110_45:IC:=.cond (.t 21) .skip u110_46
def u110_44r:List IOper:=[oK 26 4 .eql 21,oM 21 26]
def u110_44:IC:=.seq (.reg u110_44r) u110_45
def u110_43:IC:=.cond (.t 21) .skip u110_44
def u110_42r:List IOper:=[oK 25 4 .eql 19,oM 21 25]
def u110_42:IC:=.seq (.reg u110_42r) u110_43
def u110_41:IC:=.cond (.t 21) .skip u110_42
def u110_40r:List IOper:=[oK 24 4 .eql 15,oM 21 24]
def u110_40:IC:=.seq (.reg u110_40r) u110_41
def u110_39:IC:=.cond (.t 21) .skip u110_40
def u110_38r:List IOper:=[oK 23 4 .eql 13,oM 21 23]
def u110_38:IC:=.seq (.reg u110_38r) u110_39
def u110_37:IC:=.cond (.t 21) .skip u110_38
def u110_36r:List IOper:=[oK 22 4 .eql 3,oM 21 22]
def u110_36:IC:=.seq (.reg u110_36r) u110_37
def u110_48r:List IOper:=[oI 2 1,oI 3 0]
def u110_48:IC:=.seq (.reg u110_48r) .ret
def u110_47:IC:=.cond (.t 21) u110_48 .skip
def u110_35:IC:=.seq u110_36 u110_47
def u110_33:IC:=.cond (.t 19) u110_34 u110_35
def u110_32r:List IOper:=[oK 20 4 .eql 20,oM 19 20]
def u110_32:IC:=.seq (.reg u110_32r) u110_33
def u110_30:IC:=.cond (.t 17) u110_31 u110_32
def u110_29r:List IOper:=[oK 18 4 .eql 11,oM 17 18]
def u110_29:IC:=.seq (.reg u110_29r) u110_30
def u110_27:IC:=.cond (.t 13) u110_28 u110_29
def u110_21:IC:=.seq u110_22 u110_27
def u110_19:IC:=.cond (.t 5) u110_20 u110_21
def u110_5:IC:=.seq u110_6 u110_19
def u110_4:IC:=.blk 0 u110_5
def u110_3r:List IOper:=[oM 4 0]
def u110_3:IC:=.seq (.reg u110_3r) u110_4
def u110_49r:List IOper:=[oI 2 0,oI 3 0]
def u110_49:IC:=.seq (.reg u110_49r) .ret
def u110_2:IC:=.seq u110_3 u110_49
def u110_1r:List IOper:=[oI 2 0,oI 3 0]
def u110_1:IC:=.seq (.reg u110_1r) u110_2
def u110:IFn:=⟨28,u110_1,[.tmp 2,.tmp 3]⟩
end
theorem isU110:IsFn Tryz.prog 110 u110:=by unfold IsFn;kernel_rfl
instance i110_18:WR Tryz.prog 28 u110_18 (rE u110_18r [4]):=⟨mkE⟩
instance i110_17:WR Tryz.prog 28 u110_17 (rCE (.t 5) .skip u110_18 [4,5]):=⟨mkCE⟩
instance i110_16:WR Tryz.prog 28 u110_16 (rS u110_16r u110_17 [4]):=⟨mkS⟩
instance i110_15:WR Tryz.prog 28 u110_15 (rCE (.t 5) .skip u110_16 [4,5]):=⟨mkCE⟩
instance i110_14:WR Tryz.prog 28 u110_14 (rS u110_14r u110_15 [4]):=⟨mkS⟩
instance i110_13:WR Tryz.prog 28 u110_13 (rCE (.t 5) .skip u110_14 [4,5]):=⟨mkCE⟩
instance i110_12:WR Tryz.prog 28 u110_12 (rS u110_12r u110_13 [4]):=⟨mkS⟩
instance i110_11:WR Tryz.prog 28 u110_11 (rCE (.t 5) .skip u110_12 [4,5]):=⟨mkCE⟩
instance i110_10:WR Tryz.prog 28 u110_10 (rS u110_10r u110_11 [4]):=⟨mkS⟩
instance i110_9:WR Tryz.prog 28 u110_9 (rCE (.t 5) .skip u110_10 [4,5]):=⟨mkCE⟩
instance i110_8:WR Tryz.prog 28 u110_8 (rS u110_8r u110_9 [4]):=⟨mkS⟩
instance i110_7:WR Tryz.prog 28 u110_7 (rCE (.t 5) .skip u110_8 [4,5]):=⟨mkCE⟩
instance i110_6:WR Tryz.prog 28 u110_6 (rS u110_6r u110_7 [4]):=⟨mkS⟩
instance i110_20:WR Tryz.prog 28 u110_20 (rS u110_20r .ret []):=⟨mkS⟩
instance i110_26:WR Tryz.prog 28 u110_26 (rE u110_26r [4]):=⟨mkE⟩
instance i110_25:WR Tryz.prog 28 u110_25 (rCE (.t 13) .skip u110_26 [4,13]):=⟨mkCE⟩
instance i110_24:WR Tryz.prog 28 u110_24 (rS u110_24r u110_25 [4]):=⟨mkS⟩
instance i110_23:WR Tryz.prog 28 u110_23 (rCE (.t 13) .skip u110_24 [4,13]):=⟨mkCE⟩
instance i110_22:WR Tryz.prog 28 u110_22 (rS u110_22r u110_23 [4]):=⟨mkS⟩
instance i110_28:WR Tryz.prog 28 u110_28 (rS u110_28r .ret []):=⟨mkS⟩
instance i110_31:WR Tryz.prog 28 u110_31 (rS u110_31r .ret []):=⟨mkS⟩
instance i110_34:WR Tryz.prog 28 u110_34 (rS u110_34r .ret []):=⟨mkS⟩
instance i110_46:WR Tryz.prog 28 u110_46 (rE u110_46r [4]):=⟨mkE⟩
instance i110_45:WR Tryz.prog 28 u110_45 (rCE (.t 21) .skip u110_46 [4,21]):=⟨mkCE⟩
instance i110_44:WR Tryz.prog 28 u110_44 (rS u110_44r u110_45 [4]):=⟨mkS⟩
instance i110_43:WR Tryz.prog 28 u110_43 (rCE (.t 21) .skip u110_44 [4,21]):=⟨mkCE⟩
instance i110_42:WR Tryz.prog 28 u110_42 (rS u110_42r u110_43 [4]):=⟨mkS⟩
instance i110_41:WR Tryz.prog 28 u110_41 (rCE (.t 21) .skip u110_42 [4,21]):=⟨mkCE⟩
instance i110_40:WR Tryz.prog 28 u110_40 (rS u110_40r u110_41 [4]):=⟨mkS⟩
instance i110_39:WR Tryz.prog 28 u110_39 (rCE (.t 21) .skip u110_40 [4,21]):=⟨mkCE⟩
instance i110_38:WR Tryz.prog 28 u110_38 (rS u110_38r u110_39 [4]):=⟨mkS⟩
instance i110_37:WR Tryz.prog 28 u110_37 (rCE (.t 21) .skip u110_38 [4,21]):=⟨mkCE⟩
instance i110_36:WR Tryz.prog 28 u110_36 (rS u110_36r u110_37 [4]):=⟨mkS⟩
instance i110_48:WR Tryz.prog 28 u110_48 (rS u110_48r .ret []):=⟨mkS⟩
instance i110_47:WR Tryz.prog 28 u110_47 (rCE (.t 21) u110_48 .skip [21]):=⟨mkCE⟩
instance i110_35:WR Tryz.prog 28 u110_35 (rQ u110_36 u110_47 [4]):=⟨mkQ⟩
instance i110_33:WR Tryz.prog 28 u110_33 (rCE (.t 19) u110_34 u110_35 [4,19]):=⟨mkCE⟩
instance i110_32:WR Tryz.prog 28 u110_32 (rS u110_32r u110_33 [4]):=⟨mkS⟩
instance i110_30:WR Tryz.prog 28 u110_30 (rCE (.t 17) u110_31 u110_32 [4,17]):=⟨mkCE⟩
instance i110_29:WR Tryz.prog 28 u110_29 (rS u110_29r u110_30 [4]):=⟨mkS⟩
instance i110_27:WR Tryz.prog 28 u110_27 (rCE (.t 13) u110_28 u110_29 [4,13]):=⟨mkCE⟩
instance i110_21:WR Tryz.prog 28 u110_21 (rQ u110_22 u110_27 [4]):=⟨mkQ⟩
instance i110_19:WR Tryz.prog 28 u110_19 (rCE (.t 5) u110_20 u110_21 [4,5]):=⟨mkCE⟩
instance i110_5:WR Tryz.prog 28 u110_5 (rQ u110_6 u110_19 [4]):=⟨mkQ⟩
instance i110_4:WR Tryz.prog 28 u110_4 (rBE 0 u110_5 [4]):=⟨mkBE⟩
instance i110_3:WR Tryz.prog 28 u110_3 (rS u110_3r u110_4 [0]):=⟨mkS⟩
instance i110_49:WR Tryz.prog 28 u110_49 (rS u110_49r .ret []):=⟨mkS⟩
instance i110_2:WR Tryz.prog 28 u110_2 (rQ u110_3 u110_49 [0]):=⟨mkQ⟩
instance i110_1:WR Tryz.prog 28 u110_1 (rS u110_1r u110_2 [0]):=⟨mkS⟩
attribute [go_sem] u110_18r u110_16r u110_14r u110_12r u110_10r u110_8r u110_6r u110_20r u110_26r u110_24r u110_22r u110_28r u110_31r u110_34r u110_46r u110_44r u110_42r u110_40r u110_38r u110_36r u110_48r u110_32r u110_29r u110_3r u110_49r u110_1r
section
def u71_11r:List IOper:=[oM 41 3,oM 42 41,⟨some 43,.pur (.fad 0 (.t 5)),some (42,false)⟩,⟨some 44,.pur (.ld 1 false (.t 43)),some (42,false)⟩,⟨some 45,.call 107 [.t 44],some (42,false)⟩,⟨some 46,.pur (.un .not (.t 45)),some (42,false)⟩,⟨some 47,.pur (.mv (.t 46)),some (42,false)⟩,gF 48 5 1 47,gL 49 48 47,gM 50 6 47,gM 51 7 47,⟨some 52,.call 98 [.t 49,.t 50,.t 51],some (47,true)⟩,oG 53 (.un .not (.t 52)) 47,⟨some 54,.pur (.pick (.t 47) (.t 53) (.k (.bool false))),some (42,false)⟩,oP 55 (.pick (.t 42) (.k (.bool true)) (.t 54)),oM 3 55]
def u71_11:IC:=.reg u71_11r
def u71_10r:List IOper:=[oD 35 1 7,oF 36 5 0,oL 37 36,oC 38 106 [.t 35,.t 37],oM 34 38,oE 39 34 0,oE 40 34 1,oM 6 39,oM 7 40]
def u71_10:IC:=.seq (.reg u71_10r) u71_11
def u71_9r:List IOper:=[oA 32 28 30 2,oD 33 32 2,⟨some 5,.new (.box (.k (.agg #[.int .i64 0,.int .i64 0]))),none⟩,oS 5 33 2]
def u71_9:IC:=.seq (.reg u71_9r) u71_10
def u71_12r:List IOper:=[oK 56 30 .add 1,oM 30 56]
def u71_12:IC:=.reg u71_12r
def u71_8:IC:=.seq (.blk 1 u71_9) u71_12
def u71_7:IC:=.seq (.cond (.t 31) .skip (.exit 0)) u71_8
def u71_6r:List IOper:=[oB 31 30 29 .lss]
def u71_6:IC:=.seq (.reg u71_6r) u71_7
def u71_5:IC:=.blk 0 (.loop u71_6)
def u71_4r:List IOper:=[oF 27 1 0,oL 28 27,oH 29 28,oI 30 0]
def u71_4:IC:=.seq (.reg u71_4r) u71_5
def u71_13r:List IOper:=[oM 57 3,oP 58 (.un .not (.t 57)),oM 2 58]
def u71_13:IC:=.seq (.reg u71_13r) .ret
def u71_3:IC:=.seq u71_4 u71_13
def u71_2r:List IOper:=[oF 8 1 1,oL 9 8,oC 10 99 [.t 9,.f 100],oM 11 10,⟨some 12,.pur (.fad 3 (.t 1)),some (11,false)⟩,⟨some 13,.pur (.ld 1 false (.t 12)),some (11,false)⟩,⟨some 14,.call 33 [.t 13,.f 102],some (11,false)⟩,oP 15 (.pick (.t 11) (.k (.bool true)) (.t 14)),oM 16 15,⟨some 17,.pur (.fad 4 (.t 1)),some (16,false)⟩,⟨some 18,.pur (.ld 1 false (.t 17)),some (16,false)⟩,⟨some 19,.call 33 [.t 18,.f 103],some (16,false)⟩,oP 20 (.pick (.t 16) (.k (.bool true)) (.t 19)),oM 21 20,⟨some 22,.pur (.fad 2 (.t 1)),some (21,false)⟩,⟨some 23,.pur (.ld 1 false (.t 22)),some (21,false)⟩,⟨some 24,.pur (.mkf 104 [] [.t 1]),some (21,false)⟩,⟨some 25,.call 36 [.t 23,.t 24],some (21,false)⟩,oP 26 (.pick (.t 21) (.k (.bool true)) (.t 25)),oM 3 26]
def u71_2:IC:=.seq (.reg u71_2r) u71_3
def u71_1r:List IOper:=[⟨some 1,.new (.box (.t 0)),none⟩,oP 2 (.mv (.k (.bool false)))]
def u71_1:IC:=.seq (.reg u71_1r) u71_2
def u71:IFn:=⟨59,u71_1,[.tmp 2]⟩
end
theorem isU71:IsFn Tryz.prog 71 u71:=by unfold IsFn;kernel_rfl
instance i71_11:WR Tryz.prog 59 u71_11 (rE u71_11r [1,3,5,6,7,28,29,30]):=⟨mkE⟩
instance i71_10:WR Tryz.prog 59 u71_10 (rS u71_10r u71_11 [1,3,5,28,29,30]):=⟨mkS⟩
instance i71_9:WR Tryz.prog 59 u71_9 (rS u71_9r u71_10 [1,3,28,29,30]):=⟨mkS⟩
instance i71_12:WR Tryz.prog 59 u71_12 (rE u71_12r [1,3,28,29,30]):=⟨mkE⟩
instance i71_8:WR Tryz.prog 59 u71_8 (rB 1 u71_9 u71_12 [1,3,28,29,30]):=⟨mkB⟩
instance i71_7:WR Tryz.prog 59 u71_7 (rC (.t 31) .skip (.exit 0) u71_8 [1,3,28,29,30,31]):=⟨mkC⟩
instance i71_6:WR Tryz.prog 59 u71_6 (rS u71_6r u71_7 [1,3,28,29,30]):=⟨mkS⟩
instance i71_5:WR Tryz.prog 59 u71_5 (rBE 0 (.loop u71_6) [1,3,28,29,30]):=⟨mkBE⟩
instance i71_4:WR Tryz.prog 59 u71_4 (rS u71_4r u71_5 [1,3]):=⟨mkS⟩
instance i71_13:WR Tryz.prog 59 u71_13 (rS u71_13r .ret [3]):=⟨mkS⟩
instance i71_3:WR Tryz.prog 59 u71_3 (rQ u71_4 u71_13 [1,3]):=⟨mkQ⟩
instance i71_2:WR Tryz.prog 59 u71_2 (rS u71_2r u71_3 [1]):=⟨mkS⟩
instance i71_1:WR Tryz.prog 59 u71_1 (rS u71_1r u71_2 [0]):=⟨mkS⟩
attribute [go_sem] u71_11r u71_10r u71_9r u71_12r u71_6r u71_4r u71_13r u71_2r u71_1r
section
def u100_2r:List IOper:=[oM 3 0,oC 4 101 [.t 3],oP 5 (.un .not (.t 4)),oM 2 5]
def u100_2:IC:=.seq (.reg u100_2r) .ret
def u100_1r:List IOper:=[oP 2 (.mv (.k (.bool false)))]
def u100_1:IC:=.seq (.reg u100_1r) u100_2
def u100:IFn:=⟨6,u100_1,[.tmp 2]⟩
end
theorem isU100:IsFn Tryz.prog 100 u100:=by unfold IsFn;kernel_rfl
instance i100_2:WR Tryz.prog 6 u100_2 (rS u100_2r .ret [0]):=⟨mkS⟩
instance i100_1:WR Tryz.prog 6 u100_1 (rS u100_1r u100_2 [0]):=⟨mkS⟩
attribute [go_sem] u100_2r u100_1r
section
def u102_2r:List IOper:=[oM 3 0,oC 4 98 [.t 3,.k (.int .i64 0),.k (.int .i64 99)],oP 5 (.un .not (.t 4)),oM 2 5]
def u102_2:IC:=.seq (.reg u102_2r) .ret
def u102_1r:List IOper:=[oP 2 (.mv (.k (.bool false)))]
def u102_1:IC:=.seq (.reg u102_1r) u102_2
def u102:IFn:=⟨6,u102_1,[.tmp 2]⟩
end
theorem isU102:IsFn Tryz.prog 102 u102:=by unfold IsFn;kernel_rfl
instance i102_2:WR Tryz.prog 6 u102_2 (rS u102_2r .ret [0]):=⟨mkS⟩
instance i102_1:WR Tryz.prog 6 u102_1 (rS u102_1r u102_2 [0]):=⟨mkS⟩
attribute [go_sem] u102_2r u102_1r
section
def u103_2r:List IOper:=[oM 3 0,oC 4 98 [.t 3,.k (.int .i64 (-2147483647)),.k (.int .i64 2147483647)],oP 5 (.un .not (.t 4)),oM 2 5]
def u103_2:IC:=.seq (.reg u103_2r) .ret
def u103_1r:List IOper:=[oP 2 (.mv (.k (.bool false)))]
def u103_1:IC:=.seq (.reg u103_1r) u103_2
def u103:IFn:=⟨6,u103_1,[.tmp 2]⟩
end
theorem isU103:IsFn Tryz.prog 103 u103:=by unfold IsFn;kernel_rfl
instance i103_2:WR Tryz.prog 6 u103_2 (rS u103_2r .ret [0]):=⟨mkS⟩
instance i103_1:WR Tryz.prog 6 u103_1 (rS u103_1r u103_2 [0]):=⟨mkS⟩
attribute [go_sem] u103_2r u103_1r
section
def u104_2r:List IOper:=[oD 4 1 7,oD 5 2 4,oC 6 105 [.t 4,.t 5],oP 7 (.un .not (.t 6)),oM 3 7]
def u104_2:IC:=.seq (.reg u104_2r) .ret
def u104_1r:List IOper:=[⟨some 2,.new (.box (.t 0)),none⟩,oP 3 (.mv (.k (.bool false)))]
def u104_1:IC:=.seq (.reg u104_1r) u104_2
def u104:IFn:=⟨8,u104_1,[.tmp 3]⟩
end
theorem isU104:IsFn Tryz.prog 104 u104:=by unfold IsFn;kernel_rfl
instance i104_2:WR Tryz.prog 8 u104_2 (rS u104_2r .ret [1,2]):=⟨mkS⟩
instance i104_1:WR Tryz.prog 8 u104_1 (rS u104_1r u104_2 [0,1]):=⟨mkS⟩
attribute [go_sem] u104_2r u104_1r
section
def u72_11r:List IOper:=[oP 2 (.mv (.k (.bool false)))]
def u72_11:IC:=.seq (.reg u72_11r) .ret
def u72_10:IC:=.cond (.t 24) u72_11 .skip
def u72_9r:List IOper:=[oF 12 4 0,oL 13 12,oC 14 107 [.t 13],oM 15 14,gF 16 4 1 15,gL 17 16 15,gF 18 1 0 15,gL 19 18 15,oG 20 (.len (.t 19)) 15,gK 21 20 15 .sub 1,⟨some 22,.call 98 [.t 17,.k (.int .i64 0),.t 21],some (15,true)⟩,oG 23 (.un .not (.t 22)) 15,oP 24 (.pick (.t 15) (.t 23) (.k (.bool false)))]
def u72_9:IC:=.seq (.reg u72_9r) u72_10
def u72_8r:List IOper:=[oA 10 6 8 2,oD 11 10 2,⟨some 4,.new (.box (.k (.agg #[.int .i64 0,.int .i64 0]))),none⟩,oS 4 11 2]
def u72_8:IC:=.seq (.reg u72_8r) u72_9
def u72_12r:List IOper:=[oK 25 8 .add 1,oM 8 25]
def u72_12:IC:=.reg u72_12r
def u72_7:IC:=.seq (.blk 1 u72_8) u72_12
def u72_6:IC:=.seq (.cond (.t 9) .skip (.exit 0)) u72_7
def u72_5r:List IOper:=[oB 9 8 7 .lss]
def u72_5:IC:=.seq (.reg u72_5r) u72_6
def u72_4:IC:=.blk 0 (.loop u72_5)
def u72_3r:List IOper:=[oF 5 1 0,oL 6 5,oH 7 6,oI 8 0]
def u72_3:IC:=.seq (.reg u72_3r) u72_4
def u72_13r:List IOper:=[oF 26 1 2,oL 27 26,oP 28 (.mkf 108 [] [.t 1]),oC 29 36 [.t 27,.t 28],oP 30 (.un .not (.t 29)),oM 2 30]
def u72_13:IC:=.seq (.reg u72_13r) .ret
def u72_2:IC:=.seq u72_3 u72_13
def u72_1r:List IOper:=[⟨some 1,.new (.box (.t 0)),none⟩,oP 2 (.mv (.k (.bool false)))]
def u72_1:IC:=.seq (.reg u72_1r) u72_2
def u72:IFn:=⟨31,u72_1,[.tmp 2]⟩
end
theorem isU72:IsFn Tryz.prog 72 u72:=by unfold IsFn;kernel_rfl
instance i72_11:WR Tryz.prog 31 u72_11 (rS u72_11r .ret []):=⟨mkS⟩
instance i72_10:WR Tryz.prog 31 u72_10 (rCE (.t 24) u72_11 .skip [1,6,7,8,24]):=⟨mkCE⟩
instance i72_9:WR Tryz.prog 31 u72_9 (rS u72_9r u72_10 [1,4,6,7,8]):=⟨mkS⟩
instance i72_8:WR Tryz.prog 31 u72_8 (rS u72_8r u72_9 [1,6,7,8]):=⟨mkS⟩
instance i72_12:WR Tryz.prog 31 u72_12 (rE u72_12r [1,6,7,8]):=⟨mkE⟩
instance i72_7:WR Tryz.prog 31 u72_7 (rB 1 u72_8 u72_12 [1,6,7,8]):=⟨mkB⟩
instance i72_6:WR Tryz.prog 31 u72_6 (rC (.t 9) .skip (.exit 0) u72_7 [1,6,7,8,9]):=⟨mkC⟩
instance i72_5:WR Tryz.prog 31 u72_5 (rS u72_5r u72_6 [1,6,7,8]):=⟨mkS⟩
instance i72_4:WR Tryz.prog 31 u72_4 (rBE 0 (.loop u72_5) [1,6,7,8]):=⟨mkBE⟩
instance i72_3:WR Tryz.prog 31 u72_3 (rS u72_3r u72_4 [1]):=⟨mkS⟩
instance i72_13:WR Tryz.prog 31 u72_13 (rS u72_13r .ret [1]):=⟨mkS⟩
instance i72_2:WR Tryz.prog 31 u72_2 (rQ u72_3 u72_13 [1]):=⟨mkQ⟩
instance i72_1:WR Tryz.prog 31 u72_1 (rS u72_1r u72_2 [0]):=⟨mkS⟩
attribute [go_sem] u72_11r u72_9r u72_8r u72_12r u72_5r u72_3r u72_13r u72_1r
section
def u108_2r:List IOper:=[oF 4 2 3,oL 5 4,oF 6 1 0,oL 7 6,oH 8 7,oK 9 8 .sub 1,oC 10 98 [.t 5,.k (.int .i64 0),.t 9],oP 11 (.un .not (.t 10)),oM 3 11]
def u108_2:IC:=.seq (.reg u108_2r) .ret
def u108_1r:List IOper:=[⟨some 2,.new (.box (.t 0)),none⟩,oP 3 (.mv (.k (.bool false)))]
def u108_1:IC:=.seq (.reg u108_1r) u108_2
def u108:IFn:=⟨12,u108_1,[.tmp 3]⟩
end
theorem isU108:IsFn Tryz.prog 108 u108:=by unfold IsFn;kernel_rfl
instance i108_2:WR Tryz.prog 12 u108_2 (rS u108_2r .ret [1,2]):=⟨mkS⟩
instance i108_1:WR Tryz.prog 12 u108_1 (rS u108_1r u108_2 [0,1]):=⟨mkS⟩
attribute [go_sem] u108_2r u108_1r
section
def u73_5r:List IOper:=[oF 10 2 0,oL 11 10,oF 12 3 0,oL 13 12,oB 14 11 13 .lss,oM 4 14]
def u73_5:IC:=.seq (.reg u73_5r) .ret
def u73_4:IC:=.cond (.t 9) u73_5 .skip
def u73_3r:List IOper:=[oF 5 2 0,oL 6 5,oF 7 3 0,oL 8 7,oB 9 6 8 .neq]
def u73_3:IC:=.seq (.reg u73_3r) u73_4
def u73_9r:List IOper:=[oF 20 2 1,oL 21 20,oF 22 3 1,oL 23 22,oB 24 21 23 .lss,oM 4 24]
def u73_9:IC:=.seq (.reg u73_9r) .ret
def u73_8:IC:=.cond (.t 19) u73_9 .skip
def u73_7r:List IOper:=[oF 15 2 1,oL 16 15,oF 17 3 1,oL 18 17,oB 19 16 18 .neq]
def u73_7:IC:=.seq (.reg u73_7r) u73_8
def u73_10r:List IOper:=[oF 25 2 2,oL 26 25,oF 27 3 2,oL 28 27,oB 29 26 28 .lss,oM 4 29]
def u73_10:IC:=.seq (.reg u73_10r) .ret
def u73_6:IC:=.seq u73_7 u73_10
def u73_2:IC:=.seq u73_3 u73_6
def u73_1r:List IOper:=[⟨some 2,.new (.box (.t 0)),none⟩,⟨some 3,.new (.box (.t 1)),none⟩,oP 4 (.mv (.k (.bool false)))]
def u73_1:IC:=.seq (.reg u73_1r) u73_2
def u73:IFn:=⟨30,u73_1,[.tmp 4]⟩
end
theorem isU73:IsFn Tryz.prog 73 u73:=by unfold IsFn;kernel_rfl
instance i73_5:WR Tryz.prog 30 u73_5 (rS u73_5r .ret [2,3]):=⟨mkS⟩
instance i73_4:WR Tryz.prog 30 u73_4 (rCE (.t 9) u73_5 .skip [2,3,9]):=⟨mkCE⟩
instance i73_3:WR Tryz.prog 30 u73_3 (rS u73_3r u73_4 [2,3]):=⟨mkS⟩
instance i73_9:WR Tryz.prog 30 u73_9 (rS u73_9r .ret [2,3]):=⟨mkS⟩
instance i73_8:WR Tryz.prog 30 u73_8 (rCE (.t 19) u73_9 .skip [2,3,19]):=⟨mkCE⟩
instance i73_7:WR Tryz.prog 30 u73_7 (rS u73_7r u73_8 [2,3]):=⟨mkS⟩
instance i73_10:WR Tryz.prog 30 u73_10 (rS u73_10r .ret [2,3]):=⟨mkS⟩
instance i73_6:WR Tryz.prog 30 u73_6 (rQ u73_7 u73_10 [2,3]):=⟨mkQ⟩
instance i73_2:WR Tryz.prog 30 u73_2 (rQ u73_3 u73_6 [2,3]):=⟨mkQ⟩
instance i73_1:WR Tryz.prog 30 u73_1 (rS u73_1r u73_2 [0,1]):=⟨mkS⟩
attribute [go_sem] u73_5r u73_3r u73_9r u73_7r u73_10r u73_1r
section
def u74_10r:List IOper:=[oL 25 4,oM 26 5,oA 27 25 26 1,⟨none,.eff (.st 1 (.t 27) (.k (.int .i64 (-1)))),none⟩]
def u74_10:IC:=.reg u74_10r
def u74_9r:List IOper:=[oM 24 22,oM 5 24]
def u74_9:IC:=.seq (.reg u74_9r) u74_10
def u74_11r:List IOper:=[oK 28 22 .add 1,oM 22 28]
def u74_11:IC:=.reg u74_11r
def u74_8:IC:=.seq (.blk 1 u74_9) u74_11
def u74_7:IC:=.seq (.cond (.t 23) .skip (.exit 0)) u74_8
def u74_6r:List IOper:=[oB 23 22 21 .lss]
def u74_6:IC:=.seq (.reg u74_6r) u74_7
def u74_5:IC:=.blk 0 (.loop u74_6)
def u74_4r:List IOper:=[oL 20 4,oH 21 20,oI 22 0]
def u74_4:IC:=.seq (.reg u74_4r) u74_5
def u74_23r:List IOper:=[oP 2 (.mv (.k (.slice none 0 0))),oP 3 (.mv (.k (.bool false)))]
def u74_23:IC:=.seq (.reg u74_23r) .ret
def u74_22:IC:=.cond (.t 41) u74_23 .skip
def u74_21r:List IOper:=[oM 37 7,oF 38 9 3,oL 39 38,⟨some 40,.callv (.t 37) [.t 39,.k (.int .i64 0)],none⟩,oP 41 (.un .not (.t 40))]
def u74_21:IC:=.seq (.reg u74_21r) u74_22
def u74_20r:List IOper:=[oA 35 31 33 4,oD 36 35 4,⟨some 9,.new (.box (.k (.agg #[.int .i64 0,.int .i64 0,.int .i64 0,.int .i64 0]))),none⟩,oS 9 36 4]
def u74_20:IC:=.seq (.reg u74_20r) u74_21
def u74_24r:List IOper:=[oK 42 33 .add 1,oM 33 42]
def u74_24:IC:=.reg u74_24r
def u74_19:IC:=.seq (.blk 3 u74_20) u74_24
def u74_18:IC:=.seq (.cond (.t 34) .skip (.exit 2)) u74_19
def u74_17r:List IOper:=[oB 34 33 32 .lss]
def u74_17:IC:=.seq (.reg u74_17r) u74_18
def u74_16:IC:=.blk 2 (.loop u74_17)
def u74_15r:List IOper:=[oF 30 1 2,oL 31 30,oH 32 31,oI 33 0]
def u74_15:IC:=.seq (.reg u74_15r) u74_16
def u74_28:IC:=.cond (.t 45) .skip (.exit 4)
def u74_27r:List IOper:=[oL 43 6,oH 44 43,oK 45 44 .gtr 0]
def u74_27:IC:=.seq (.reg u74_27r) u74_28
def u74_41r:List IOper:=[oM 94 15,oM 95 94,gL 96 4 95,gM 97 10 95,oG 98 (.iad 1 (.t 96) (.t 97)) 95,gL 99 98 95,gK 100 99 95 .eql 0,oP 101 (.pick (.t 95) (.t 100) (.k (.bool false))),oM 15 101]
def u74_41:IC:=.reg u74_41r
def u74_44r:List IOper:=[oM 104 15,oM 105 104,gM 106 7 105,gF 107 11 1 105,gL 108 107 105,gM 109 14 105,⟨some 110,.callv (.t 106) [.t 108,.t 109],some (105,true)⟩,oP 111 (.pick (.t 105) (.t 110) (.k (.bool false))),oM 15 111]
def u74_44:IC:=.reg u74_44r
def u74_47r:List IOper:=[oM 114 15,oM 115 114,gM 116 7 115,gM 117 10 115,gK 118 117 115 .add 1,gM 119 14 115,⟨some 120,.callv (.t 116) [.t 118,.t 119],some (115,true)⟩,oP 121 (.pick (.t 115) (.t 120) (.k (.bool false))),oM 122 121,gM 123 7 122,gF 124 11 1 122,gL 125 124 122,gM 126 14 122,⟨some 127,.callv (.t 123) [.t 125,.t 126],some (122,true)⟩,oP 128 (.pick (.t 122) (.t 127) (.k (.bool false))),oM 15 128]
def u74_47:IC:=.reg u74_47r
def u74_50r:List IOper:=[oM 131 15,oM 132 131,gM 133 7 132,gM 134 10 132,gK 135 134 132 .add 1,gM 136 14 132,⟨some 137,.callv (.t 133) [.t 135,.t 136],some (132,true)⟩,oP 138 (.pick (.t 132) (.t 137) (.k (.bool false))),oM 139 138,gM 140 7 139,gF 141 11 1 139,gL 142 141 139,gM 143 14 139,gK 144 143 139 .sub 1,⟨some 145,.callv (.t 140) [.t 142,.t 144],some (139,true)⟩,oP 146 (.pick (.t 139) (.t 145) (.k (.bool false))),oM 15 146]
def u74_50:IC:=.reg u74_50r
def u74_51r:List IOper:=[oM 84 15,oM 85 84,gM 86 7 85,gM 87 10 85,gK 88 87 85 .add 1,gM 89 14 85,⟨some 90,.callv (.t 86) [.t 88,.t 89],some (85,true)⟩,oP 91 (.pick (.t 85) (.t 90) (.k (.bool false))),oM 15 91]
def u74_51:IC:=.reg u74_51r
def u74_49:IC:=.cond (.t 129) u74_50 u74_51
def u74_48r:List IOper:=[oK 130 83 .eql 14,oM 129 130]
def u74_48:IC:=.seq (.reg u74_48r) u74_49
def u74_46:IC:=.cond (.t 112) u74_47 u74_48
def u74_45r:List IOper:=[oK 113 83 .eql 13,oM 112 113]
def u74_45:IC:=.seq (.reg u74_45r) u74_46
def u74_43:IC:=.cond (.t 102) u74_44 u74_45
def u74_42r:List IOper:=[oK 103 83 .eql 12,oM 102 103]
def u74_42:IC:=.seq (.reg u74_42r) u74_43
def u74_40:IC:=.cond (.t 92) u74_41 u74_42
def u74_39r:List IOper:=[oK 93 83 .eql 31,oM 92 93]
def u74_39:IC:=.seq (.reg u74_39r) u74_40
def u74_38:IC:=.blk 6 u74_39
def u74_37r:List IOper:=[oF 82 11 0,oL 83 82]
def u74_37:IC:=.seq (.reg u74_37r) u74_38
def u74_54r:List IOper:=[oP 2 (.mv (.k (.slice none 0 0))),oP 3 (.mv (.k (.bool false)))]
def u74_54:IC:=.seq (.reg u74_54r) .ret
def u74_53:IC:=.cond (.t 148) u74_54 .skip
def u74_52r:List IOper:=[oM 147 15,oP 148 (.un .not (.t 147))]
def u74_52:IC:=.seq (.reg u74_52r) u74_53
def u74_36:IC:=.seq u74_37 u74_52
def u74_35r:List IOper:=[oL 76 4,oM 77 10,oA 78 76 77 1,oL 79 78,oM 80 12,oB 81 79 80 .geq,oM 15 81]
def u74_35:IC:=.seq (.reg u74_35r) u74_36
def u74_34r:List IOper:=[oL 68 4,oM 69 10,oA 70 68 69 1,oL 71 70,oM 72 12,oB 73 71 72 .sub,oM 74 13,oB 75 73 74 .add,oM 14 75]
def u74_34:IC:=.seq (.reg u74_34r) u74_35
def u74_33r:List IOper:=[oF 63 11 0,oL 64 63,oC 65 110 [.t 64],oM 62 65,oE 66 62 0,oE 67 62 1,oM 12 66,oM 13 67]
def u74_33:IC:=.seq (.reg u74_33r) u74_34
def u74_32r:List IOper:=[oF 57 1 0,oL 58 57,oM 59 10,oA 60 58 59 2,oD 61 60 2,⟨some 11,.new (.box (.k (.agg #[.int .i64 0,.int .i64 0]))),none⟩,oS 11 61 2]
def u74_32:IC:=.seq (.reg u74_32r) u74_33
def u74_31r:List IOper:=[oL 52 6,oL 53 6,oH 54 53,oK 55 54 .sub 1,oP 56 (.slc 1 (.t 52) none (some (.t 55))),oS 6 56 1]
def u74_31:IC:=.seq (.reg u74_31r) u74_32
def u74_30r:List IOper:=[oL 46 6,oL 47 6,oH 48 47,oK 49 48 .sub 1,oA 50 46 49 1,oL 51 50,oM 10 51]
def u74_30:IC:=.seq (.reg u74_30r) u74_31
def u74_29:IC:=.blk 5 u74_30
def u74_26:IC:=.seq u74_27 u74_29
def u74_55r:List IOper:=[oL 149 4,oM 2 149,oP 3 (.mv (.k (.bool true)))]
def u74_55:IC:=.seq (.reg u74_55r) .ret
def u74_25:IC:=.seq (.blk 4 (.loop u74_26)) u74_55
def u74_14:IC:=.seq u74_15 u74_25
def u74_13r:List IOper:=[oP 29 (.mkf 109 [] [.t 4,.t 6]),oM 7 29]
def u74_13:IC:=.seq (.reg u74_13r) u74_14
def u74_12r:List IOper:=[⟨some 6,.new (.box (.k (.slice none 0 0))),none⟩]
def u74_12:IC:=.seq (.reg u74_12r) u74_13
def u74_3:IC:=.seq u74_4 u74_12
def u74_2r:List IOper:=[oF 16 1 0,oL 17 16,oH 18 17,⟨some 19,.new (.msl 1 8 #[.int .i64 0] (.t 18) (.t 18)),none⟩,⟨some 4,.new (.box (.k (.slice none 0 0))),none⟩,oS 4 19 1]
def u74_2:IC:=.seq (.reg u74_2r) u74_3
def u74_1r:List IOper:=[⟨some 1,.new (.box (.t 0)),none⟩,oP 2 (.mv (.k (.slice none 0 0))),oP 3 (.mv (.k (.bool false)))]
def u74_1:IC:=.seq (.reg u74_1r) u74_2
def u74:IFn:=⟨150,u74_1,[.tmp 2,.tmp 3]⟩
end
theorem isU74:IsFn Tryz.prog 74 u74:=by unfold IsFn;kernel_rfl
instance i74_10:WR Tryz.prog 150 u74_10 (rE u74_10r [1,4,5,21,22]):=⟨mkE⟩
instance i74_9:WR Tryz.prog 150 u74_9 (rS u74_9r u74_10 [1,4,21,22]):=⟨mkS⟩
instance i74_11:WR Tryz.prog 150 u74_11 (rE u74_11r [1,4,21,22]):=⟨mkE⟩
instance i74_8:WR Tryz.prog 150 u74_8 (rB 1 u74_9 u74_11 [1,4,21,22]):=⟨mkB⟩
instance i74_7:WR Tryz.prog 150 u74_7 (rC (.t 23) .skip (.exit 0) u74_8 [1,4,21,22,23]):=⟨mkC⟩
instance i74_6:WR Tryz.prog 150 u74_6 (rS u74_6r u74_7 [1,4,21,22]):=⟨mkS⟩
instance i74_5:WR Tryz.prog 150 u74_5 (rBE 0 (.loop u74_6) [1,4,21,22]):=⟨mkBE⟩
instance i74_4:WR Tryz.prog 150 u74_4 (rS u74_4r u74_5 [1,4]):=⟨mkS⟩
instance i74_23:WR Tryz.prog 150 u74_23 (rS u74_23r .ret []):=⟨mkS⟩
instance i74_22:WR Tryz.prog 150 u74_22 (rCE (.t 41) u74_23 .skip [1,4,6,7,31,32,33,41]):=⟨mkCE⟩
instance i74_21:WR Tryz.prog 150 u74_21 (rS u74_21r u74_22 [1,4,6,7,9,31,32,33]):=⟨mkS⟩
instance i74_20:WR Tryz.prog 150 u74_20 (rS u74_20r u74_21 [1,4,6,7,31,32,33]):=⟨mkS⟩
instance i74_24:WR Tryz.prog 150 u74_24 (rE u74_24r [1,4,6,7,31,32,33]):=⟨mkE⟩
instance i74_19:WR Tryz.prog 150 u74_19 (rB 3 u74_20 u74_24 [1,4,6,7,31,32,33]):=⟨mkB⟩
instance i74_18:WR Tryz.prog 150 u74_18 (rC (.t 34) .skip (.exit 2) u74_19 [1,4,6,7,31,32,33,34]):=⟨mkC⟩
instance i74_17:WR Tryz.prog 150 u74_17 (rS u74_17r u74_18 [1,4,6,7,31,32,33]):=⟨mkS⟩
instance i74_16:WR Tryz.prog 150 u74_16 (rBE 2 (.loop u74_17) [1,4,6,7,31,32,33]):=⟨mkBE⟩
instance i74_15:WR Tryz.prog 150 u74_15 (rS u74_15r u74_16 [1,4,6,7]):=⟨mkS⟩
instance i74_28:WR Tryz.prog 150 u74_28 (rCE (.t 45) .skip (.exit 4) [1,4,6,7,45]):=⟨mkCE⟩
instance i74_27:WR Tryz.prog 150 u74_27 (rS u74_27r u74_28 [1,4,6,7]):=⟨mkS⟩
instance i74_41:WR Tryz.prog 150 u74_41 (rE u74_41r [1,4,6,7,10,15]):=⟨mkE⟩
instance i74_44:WR Tryz.prog 150 u74_44 (rE u74_44r [1,4,6,7,11,14,15]):=⟨mkE⟩
instance i74_47:WR Tryz.prog 150 u74_47 (rE u74_47r [1,4,6,7,10,11,14,15]):=⟨mkE⟩
instance i74_50:WR Tryz.prog 150 u74_50 (rE u74_50r [1,4,6,7,10,11,14,15]):=⟨mkE⟩
instance i74_51:WR Tryz.prog 150 u74_51 (rE u74_51r [1,4,6,7,10,14,15]):=⟨mkE⟩
instance i74_49:WR Tryz.prog 150 u74_49 (rCE (.t 129) u74_50 u74_51 [1,4,6,7,10,11,14,15,129]):=⟨mkCE⟩
instance i74_48:WR Tryz.prog 150 u74_48 (rS u74_48r u74_49 [1,4,6,7,10,11,14,15,83]):=⟨mkS⟩
instance i74_46:WR Tryz.prog 150 u74_46 (rCE (.t 112) u74_47 u74_48 [1,4,6,7,10,11,14,15,83,112]):=⟨mkCE⟩
instance i74_45:WR Tryz.prog 150 u74_45 (rS u74_45r u74_46 [1,4,6,7,10,11,14,15,83]):=⟨mkS⟩
instance i74_43:WR Tryz.prog 150 u74_43 (rCE (.t 102) u74_44 u74_45 [1,4,6,7,10,11,14,15,83,102]):=⟨mkCE⟩
instance i74_42:WR Tryz.prog 150 u74_42 (rS u74_42r u74_43 [1,4,6,7,10,11,14,15,83]):=⟨mkS⟩
instance i74_40:WR Tryz.prog 150 u74_40 (rCE (.t 92) u74_41 u74_42 [1,4,6,7,10,11,14,15,83,92]):=⟨mkCE⟩
instance i74_39:WR Tryz.prog 150 u74_39 (rS u74_39r u74_40 [1,4,6,7,10,11,14,15,83]):=⟨mkS⟩
instance i74_38:WR Tryz.prog 150 u74_38 (rBE 6 u74_39 [1,4,6,7,10,11,14,15,83]):=⟨mkBE⟩
instance i74_37:WR Tryz.prog 150 u74_37 (rS u74_37r u74_38 [1,4,6,7,10,11,14,15]):=⟨mkS⟩
instance i74_54:WR Tryz.prog 150 u74_54 (rS u74_54r .ret []):=⟨mkS⟩
instance i74_53:WR Tryz.prog 150 u74_53 (rCE (.t 148) u74_54 .skip [1,4,6,7,148]):=⟨mkCE⟩
instance i74_52:WR Tryz.prog 150 u74_52 (rS u74_52r u74_53 [1,4,6,7,15]):=⟨mkS⟩
instance i74_36:WR Tryz.prog 150 u74_36 (rQ u74_37 u74_52 [1,4,6,7,10,11,14,15]):=⟨mkQ⟩
instance i74_35:WR Tryz.prog 150 u74_35 (rS u74_35r u74_36 [1,4,6,7,10,11,12,14]):=⟨mkS⟩
instance i74_34:WR Tryz.prog 150 u74_34 (rS u74_34r u74_35 [1,4,6,7,10,11,12,13]):=⟨mkS⟩
instance i74_33:WR Tryz.prog 150 u74_33 (rS u74_33r u74_34 [1,4,6,7,10,11]):=⟨mkS⟩
instance i74_32:WR Tryz.prog 150 u74_32 (rS u74_32r u74_33 [1,4,6,7,10]):=⟨mkS⟩
instance i74_31:WR Tryz.prog 150 u74_31 (rS u74_31r u74_32 [1,4,6,7,10]):=⟨mkS⟩
instance i74_30:WR Tryz.prog 150 u74_30 (rS u74_30r u74_31 [1,4,6,7]):=⟨mkS⟩
instance i74_29:WR Tryz.prog 150 u74_29 (rBE 5 u74_30 [1,4,6,7]):=⟨mkBE⟩
instance i74_26:WR Tryz.prog 150 u74_26 (rQ u74_27 u74_29 [1,4,6,7]):=⟨mkQ⟩
instance i74_55:WR Tryz.prog 150 u74_55 (rS u74_55r .ret [4]):=⟨mkS⟩
instance i74_25:WR Tryz.prog 150 u74_25 (rB 4 (.loop u74_26) u74_55 [1,4,6,7]):=⟨mkB⟩
instance i74_14:WR Tryz.prog 150 u74_14 (rQ u74_15 u74_25 [1,4,6,7]):=⟨mkQ⟩
instance i74_13:WR Tryz.prog 150 u74_13 (rS u74_13r u74_14 [1,4,6]):=⟨mkS⟩
instance i74_12:WR Tryz.prog 150 u74_12 (rS u74_12r u74_13 [1,4]):=⟨mkS⟩
instance i74_3:WR Tryz.prog 150 u74_3 (rQ u74_4 u74_12 [1,4]):=⟨mkQ⟩
instance i74_2:WR Tryz.prog 150 u74_2 (rS u74_2r u74_3 [1]):=⟨mkS⟩
instance i74_1:WR Tryz.prog 150 u74_1 (rS u74_1r u74_2 [0]):=⟨mkS⟩
attribute [go_sem] u74_10r u74_9r u74_11r u74_6r u74_4r u74_23r u74_21r u74_20r u74_24r u74_17r u74_15r u74_27r u74_41r u74_44r u74_47r u74_50r u74_51r u74_48r u74_45r u74_42r u74_39r u74_37r u74_54r u74_52r u74_35r u74_34r u74_33r u74_32r u74_31r u74_30r u74_55r u74_13r u74_12r u74_2r u74_1r
section
def u109_5r:List IOper:=[oP 6 (.mv (.k (.bool false)))]
def u109_5:IC:=.seq (.reg u109_5r) .ret
def u109_4:IC:=.cond (.t 29) u109_5 .skip
def u109_3r:List IOper:=[oM 7 0,oL 8 2,oH 9 8,oB 10 7 9 .geq,oM 11 10,⟨some 12,.pur (.mv (.t 1)),some (11,false)⟩,⟨some 13,.pur (.bin .gtr (.t 12) (.k (.int .i64 48))),some (11,false)⟩,oP 14 (.pick (.t 11) (.k (.bool true)) (.t 13)),oM 15 14,⟨some 16,.pur (.ld 1 false (.t 2)),some (15,false)⟩,⟨some 17,.pur (.mv (.t 0)),some (15,false)⟩,⟨some 18,.pur (.iad 1 (.t 16) (.t 17)),some (15,false)⟩,⟨some 19,.pur (.ld 1 false (.t 18)),some (15,false)⟩,⟨some 20,.pur (.bin .geq (.t 19) (.k (.int .i64 0))),some (15,false)⟩,⟨some 21,.pur (.mv (.t 20)),some (15,false)⟩,gL 22 2 21,gM 23 0 21,oG 24 (.iad 1 (.t 22) (.t 23)) 21,gL 25 24 21,gM 26 1 21,oG 27 (.bin .neq (.t 25) (.t 26)) 21,⟨some 28,.pur (.pick (.t 21) (.t 27) (.k (.bool false))),some (15,false)⟩,oP 29 (.pick (.t 15) (.k (.bool true)) (.t 28))]
def u109_3:IC:=.seq (.reg u109_3r) u109_4
def u109_10r:List IOper:=[oL 39 3,oM 40 0,⟨some 41,.new (.bsl 1 1 #[.int .i64 0] [(0,.t 40)]),none⟩,⟨some 42,.eff (.app 1 8 (.t 39) (.t 41)),none⟩,oS 3 42 1]
def u109_10:IC:=.reg u109_10r
def u109_9r:List IOper:=[oL 35 2,oM 36 0,oM 37 1,oA 38 35 36 1,oS 38 37 1]
def u109_9:IC:=.seq (.reg u109_9r) u109_10
def u109_8:IC:=.cond (.t 34) u109_9 .skip
def u109_7r:List IOper:=[oL 30 2,oM 31 0,oA 32 30 31 1,oL 33 32,oK 34 33 .lss 0]
def u109_7:IC:=.seq (.reg u109_7r) u109_8
def u109_11r:List IOper:=[oP 6 (.mv (.k (.bool true)))]
def u109_11:IC:=.seq (.reg u109_11r) .ret
def u109_6:IC:=.seq u109_7 u109_11
def u109_2:IC:=.seq u109_3 u109_6
def u109_1r:List IOper:=[oP 6 (.mv (.k (.bool false)))]
def u109_1:IC:=.seq (.reg u109_1r) u109_2
def u109:IFn:=⟨43,u109_1,[.tmp 6]⟩
end
theorem isU109:IsFn Tryz.prog 109 u109:=by unfold IsFn;kernel_rfl
instance i109_5:WR Tryz.prog 43 u109_5 (rS u109_5r .ret []):=⟨mkS⟩
instance i109_4:WR Tryz.prog 43 u109_4 (rCE (.t 29) u109_5 .skip [0,1,2,3,29]):=⟨mkCE⟩
instance i109_3:WR Tryz.prog 43 u109_3 (rS u109_3r u109_4 [0,1,2,3]):=⟨mkS⟩
instance i109_10:WR Tryz.prog 43 u109_10 (rE u109_10r [0,3]):=⟨mkE⟩
instance i109_9:WR Tryz.prog 43 u109_9 (rS u109_9r u109_10 [0,1,2,3]):=⟨mkS⟩
instance i109_8:WR Tryz.prog 43 u109_8 (rCE (.t 34) u109_9 .skip [0,1,2,3,34]):=⟨mkCE⟩
instance i109_7:WR Tryz.prog 43 u109_7 (rS u109_7r u109_8 [0,1,2,3]):=⟨mkS⟩
instance i109_11:WR Tryz.prog 43 u109_11 (rS u109_11r .ret []):=⟨mkS⟩
instance i109_6:WR Tryz.prog 43 u109_6 (rQ u109_7 u109_11 [0,1,2,3]):=⟨mkQ⟩
instance i109_2:WR Tryz.prog 43 u109_2 (rQ u109_3 u109_6 [0,1,2,3]):=⟨mkQ⟩
instance i109_1:WR Tryz.prog 43 u109_1 (rS u109_1r u109_2 [0,1,2,3]):=⟨mkS⟩
attribute [go_sem] u109_5r u109_3r u109_10r u109_9r u109_7r u109_11r u109_1r
section
def u48_5r:List IOper:=[oP 2 (.mv (.k (.slice none 0 0))),oI 3 9]
def u48_5:IC:=.seq (.reg u48_5r) .ret
def u48_8r:List IOper:=[oP 2 (.mv (.k (.slice none 0 0))),oI 3 51]
def u48_8:IC:=.seq (.reg u48_8r) .ret
def u48_11r:List IOper:=[oP 2 (.mv (.k (.slice none 0 0))),oI 3 54]
def u48_11:IC:=.seq (.reg u48_11r) .ret
def u48_10:IC:=.cond (.t 15) u48_11 .skip
def u48_9r:List IOper:=[oD 16 1 7,oC 17 72 [.t 16],oP 18 (.un .not (.t 17)),oM 15 18]
def u48_9:IC:=.seq (.reg u48_9r) u48_10
def u48_7:IC:=.cond (.t 11) u48_8 u48_9
def u48_6r:List IOper:=[oD 12 1 7,oC 13 71 [.t 12],oP 14 (.un .not (.t 13)),oM 11 14]
def u48_6:IC:=.seq (.reg u48_6r) u48_7
def u48_4:IC:=.cond (.t 7) u48_5 u48_6
def u48_3r:List IOper:=[oD 8 1 7,oC 9 70 [.t 8],oP 10 (.un .not (.t 9)),oM 7 10]
def u48_3:IC:=.seq (.reg u48_3r) u48_4
def u48_17:IC:=.cond (.t 23) .skip (.exit 1)
def u48_16r:List IOper:=[oM 19 4,oF 20 1 2,oL 21 20,oH 22 21,oB 23 19 22 .lss]
def u48_16:IC:=.seq (.reg u48_16r) u48_17
def u48_21r:List IOper:=[oP 2 (.mv (.k (.slice none 0 0))),oI 3 66]
def u48_21:IC:=.seq (.reg u48_21r) .ret
def u48_20:IC:=.cond (.t 38) u48_21 .skip
def u48_19r:DReg:=⟨[oF 26 1 2,oL 27 26,oM 28 4,oK 29 28 .sub 1,oA 30 27 29 4,oD 31 30 4,oF 32 1 2,oL 33 32,oM 34 4,oA 35 33 34 4,oD 36 35 4,oC 37 73 [.t 31,.t 36],oP 38 (.un .not (.t 37))],[[],[0],[],[2],[1,3,0,2],[4,1,3,0,2],[],[6],[],[7,8,6],[9,7,8,6],[5,10,4,1,3,0,2,9,7,8,6],[11,5,10,4,1,3,0,2,9,7,8,6]],[(0,none),(1,none),(2,none),(3,none),(4,none),(5,none),(6,none),(7,none),(8,none),(9,none),(10,none),(11,some []),(12,none)]⟩
def u48_19:IC:=.seq (.drw 13 u48_19r) u48_20
def u48_22r:List IOper:=[oM 24 4,oK 25 24 .add 1,oM 4 25]
def u48_22:IC:=.reg u48_22r
def u48_18:IC:=.seq (.blk 2 u48_19) u48_22
def u48_15:IC:=.seq u48_16 u48_18
def u48_14:IC:=.blk 1 (.loop u48_15)
def u48_13r:List IOper:=[oI 4 1]
def u48_13:IC:=.seq (.reg u48_13r) u48_14
def u48_27r:List IOper:=[oP 2 (.mv (.k (.slice none 0 0))),oI 3 53]
def u48_27:IC:=.seq (.reg u48_27r) .ret
def u48_26:IC:=.cond (.t 45) u48_27 .skip
def u48_25r:List IOper:=[oM 44 6,oP 45 (.un .not (.t 44))]
def u48_25:IC:=.seq (.reg u48_25r) u48_26
def u48_28r:List IOper:=[oM 46 5,oM 2 46,oI 3 0]
def u48_28:IC:=.seq (.reg u48_28r) .ret
def u48_24:IC:=.seq u48_25 u48_28
def u48_23r:List IOper:=[oD 40 1 7,oC 41 74 [.t 40],oM 39 41,oE 42 39 0,oE 43 39 1,oM 5 42,oM 6 43]
def u48_23:IC:=.seq (.reg u48_23r) u48_24
def u48_12:IC:=.seq u48_13 u48_23
def u48_2:IC:=.seq (.blk 0 u48_3) u48_12
def u48_1r:List IOper:=[⟨some 1,.new (.box (.t 0)),none⟩,oP 2 (.mv (.k (.slice none 0 0))),oI 3 0]
def u48_1:IC:=.seq (.reg u48_1r) u48_2
def u48:IFn:=⟨47,u48_1,[.tmp 2,.tmp 3]⟩
end
theorem isU48:IsFn Tryz.prog 48 u48:=by unfold IsFn;kernel_rfl
instance i48_5:WR Tryz.prog 47 u48_5 (rS u48_5r .ret []):=⟨mkS⟩
instance i48_8:WR Tryz.prog 47 u48_8 (rS u48_8r .ret []):=⟨mkS⟩
instance i48_11:WR Tryz.prog 47 u48_11 (rS u48_11r .ret []):=⟨mkS⟩
instance i48_10:WR Tryz.prog 47 u48_10 (rCE (.t 15) u48_11 .skip [1,15]):=⟨mkCE⟩
instance i48_9:WR Tryz.prog 47 u48_9 (rS u48_9r u48_10 [1]):=⟨mkS⟩
instance i48_7:WR Tryz.prog 47 u48_7 (rCE (.t 11) u48_8 u48_9 [1,11]):=⟨mkCE⟩
instance i48_6:WR Tryz.prog 47 u48_6 (rS u48_6r u48_7 [1]):=⟨mkS⟩
instance i48_4:WR Tryz.prog 47 u48_4 (rCE (.t 7) u48_5 u48_6 [1,7]):=⟨mkCE⟩
instance i48_3:WR Tryz.prog 47 u48_3 (rS u48_3r u48_4 [1]):=⟨mkS⟩
instance i48_17:WR Tryz.prog 47 u48_17 (rCE (.t 23) .skip (.exit 1) [1,4,23]):=⟨mkCE⟩
instance i48_16:WR Tryz.prog 47 u48_16 (rS u48_16r u48_17 [1,4]):=⟨mkS⟩
instance i48_21:WR Tryz.prog 47 u48_21 (rS u48_21r .ret []):=⟨mkS⟩
instance i48_20:WR Tryz.prog 47 u48_20 (rCE (.t 38) u48_21 .skip [1,4,38]):=⟨mkCE⟩
instance i48_19:WR Tryz.prog 47 u48_19 (rP 13 u48_19r u48_20 [1,4]):=⟨mkP rfl⟩
instance i48_22:WR Tryz.prog 47 u48_22 (rE u48_22r [1,4]):=⟨mkE⟩
instance i48_18:WR Tryz.prog 47 u48_18 (rB 2 u48_19 u48_22 [1,4]):=⟨mkB⟩
instance i48_15:WR Tryz.prog 47 u48_15 (rQ u48_16 u48_18 [1,4]):=⟨mkQ⟩
instance i48_14:WR Tryz.prog 47 u48_14 (rBE 1 (.loop u48_15) [1,4]):=⟨mkBE⟩
instance i48_13:WR Tryz.prog 47 u48_13 (rS u48_13r u48_14 [1]):=⟨mkS⟩
instance i48_27:WR Tryz.prog 47 u48_27 (rS u48_27r .ret []):=⟨mkS⟩
instance i48_26:WR Tryz.prog 47 u48_26 (rCE (.t 45) u48_27 .skip [5,45]):=⟨mkCE⟩
instance i48_25:WR Tryz.prog 47 u48_25 (rS u48_25r u48_26 [5,6]):=⟨mkS⟩
instance i48_28:WR Tryz.prog 47 u48_28 (rS u48_28r .ret [5]):=⟨mkS⟩
instance i48_24:WR Tryz.prog 47 u48_24 (rQ u48_25 u48_28 [5,6]):=⟨mkQ⟩
instance i48_23:WR Tryz.prog 47 u48_23 (rS u48_23r u48_24 [1]):=⟨mkS⟩
instance i48_12:WR Tryz.prog 47 u48_12 (rQ u48_13 u48_23 [1]):=⟨mkQ⟩
instance i48_2:WR Tryz.prog 47 u48_2 (rB 0 u48_3 u48_12 [1]):=⟨mkB⟩
instance i48_1:WR Tryz.prog 47 u48_1 (rS u48_1r u48_2 [0]):=⟨mkS⟩
attribute [go_sem] u48_5r u48_8r u48_11r u48_9r u48_6r u48_3r u48_16r u48_21r u48_19r u48_22r u48_13r u48_27r u48_25r u48_28r u48_23r u48_1r
section
def u32_3r:List IOper:=[oM 10 4,oM 2 10]
def u32_3:IC:=.seq (.reg u32_3r) .ret
def u32_2r:List IOper:=[oD 6 1 7,oC 7 48 [.t 6],oM 5 7,oE 8 5 0,oE 9 5 1,oM 3 8,oM 4 9]
def u32_2:IC:=.seq (.reg u32_2r) u32_3
def u32_1r:List IOper:=[⟨some 1,.new (.box (.t 0)),none⟩,oI 2 0]
def u32_1:IC:=.seq (.reg u32_1r) u32_2
def u32:IFn:=⟨11,u32_1,[.tmp 2]⟩
end
theorem isU32:IsFn Tryz.prog 32 u32:=by unfold IsFn;kernel_rfl
instance i32_3:WR Tryz.prog 11 u32_3 (rS u32_3r .ret [4]):=⟨mkS⟩
instance i32_2:WR Tryz.prog 11 u32_2 (rS u32_2r u32_3 [1]):=⟨mkS⟩
instance i32_1:WR Tryz.prog 11 u32_1 (rS u32_1r u32_2 [0]):=⟨mkS⟩
attribute [go_sem] u32_3r u32_2r u32_1r
section
def u135_11r:List IOper:=[oM 17 5,oM 4 17]
def u135_11:IC:=.seq (.reg u135_11r) .ret
def u135_10:IC:=.cond (.t 16) u135_11 .skip
def u135_9r:List IOper:=[oM 11 1,oM 12 0,oM 13 5,oA 14 12 13 1,oL 15 14,⟨some 16,.callv (.t 11) [.t 15],none⟩]
def u135_9:IC:=.seq (.reg u135_9r) u135_10
def u135_8r:List IOper:=[oM 10 8,oM 5 10]
def u135_8:IC:=.seq (.reg u135_8r) u135_9
def u135_12r:List IOper:=[oK 18 8 .add 1,oM 8 18]
def u135_12:IC:=.reg u135_12r
def u135_7:IC:=.seq (.blk 1 u135_8) u135_12
def u135_6:IC:=.seq (.cond (.t 9) .skip (.exit 0)) u135_7
def u135_5r:List IOper:=[oB 9 8 7 .lss]
def u135_5:IC:=.seq (.reg u135_5r) u135_6
def u135_4:IC:=.blk 0 (.loop u135_5)
def u135_3r:List IOper:=[oM 6 0,oH 7 6,oI 8 0]
def u135_3:IC:=.seq (.reg u135_3r) u135_4
def u135_13r:List IOper:=[oI 4 (-1)]
def u135_13:IC:=.seq (.reg u135_13r) .ret
def u135_2:IC:=.seq u135_3 u135_13
def u135_1r:List IOper:=[oI 4 0]
def u135_1:IC:=.seq (.reg u135_1r) u135_2
def u135:IFn:=⟨19,u135_1,[.tmp 4]⟩
end
theorem isU135:IsFn Tryz.prog 135 u135:=by unfold IsFn;kernel_rfl
instance i135_11:WR Tryz.prog 19 u135_11 (rS u135_11r .ret [5]):=⟨mkS⟩
instance i135_10:WR Tryz.prog 19 u135_10 (rCE (.t 16) u135_11 .skip [0,1,5,7,8,16]):=⟨mkCE⟩
instance i135_9:WR Tryz.prog 19 u135_9 (rS u135_9r u135_10 [0,1,5,7,8]):=⟨mkS⟩
instance i135_8:WR Tryz.prog 19 u135_8 (rS u135_8r u135_9 [0,1,7,8]):=⟨mkS⟩
instance i135_12:WR Tryz.prog 19 u135_12 (rE u135_12r [0,1,7,8]):=⟨mkE⟩
instance i135_7:WR Tryz.prog 19 u135_7 (rB 1 u135_8 u135_12 [0,1,7,8]):=⟨mkB⟩
instance i135_6:WR Tryz.prog 19 u135_6 (rC (.t 9) .skip (.exit 0) u135_7 [0,1,7,8,9]):=⟨mkC⟩
instance i135_5:WR Tryz.prog 19 u135_5 (rS u135_5r u135_6 [0,1,7,8]):=⟨mkS⟩
instance i135_4:WR Tryz.prog 19 u135_4 (rBE 0 (.loop u135_5) [0,1,7,8]):=⟨mkBE⟩
instance i135_3:WR Tryz.prog 19 u135_3 (rS u135_3r u135_4 [0,1]):=⟨mkS⟩
instance i135_13:WR Tryz.prog 19 u135_13 (rS u135_13r .ret []):=⟨mkS⟩
instance i135_2:WR Tryz.prog 19 u135_2 (rQ u135_3 u135_13 [0,1]):=⟨mkQ⟩
instance i135_1:WR Tryz.prog 19 u135_1 (rS u135_1r u135_2 [0,1]):=⟨mkS⟩
attribute [go_sem] u135_11r u135_9r u135_8r u135_12r u135_5r u135_3r u135_13r u135_1r
section
def u49_11r:List IOper:=[oM 17 5,oM 4 17]
def u49_11:IC:=.seq (.reg u49_11r) .ret
def u49_10:IC:=.cond (.t 16) u49_11 .skip
def u49_9r:List IOper:=[oM 11 1,oM 12 0,oM 13 5,oA 14 12 13 1,oL 15 14,⟨some 16,.callv (.t 11) [.t 15],none⟩]
def u49_9:IC:=.seq (.reg u49_9r) u49_10
def u49_8r:List IOper:=[oM 10 8,oM 5 10]
def u49_8:IC:=.seq (.reg u49_8r) u49_9
def u49_12r:List IOper:=[oK 18 8 .add 1,oM 8 18]
def u49_12:IC:=.reg u49_12r
def u49_7:IC:=.seq (.blk 1 u49_8) u49_12
def u49_6:IC:=.seq (.cond (.t 9) .skip (.exit 0)) u49_7
def u49_5r:List IOper:=[oB 9 8 7 .lss]
def u49_5:IC:=.seq (.reg u49_5r) u49_6
def u49_4:IC:=.blk 0 (.loop u49_5)
def u49_3r:List IOper:=[oM 6 0,oH 7 6,oI 8 0]
def u49_3:IC:=.seq (.reg u49_3r) u49_4
def u49_13r:List IOper:=[oI 4 (-1)]
def u49_13:IC:=.seq (.reg u49_13r) .ret
def u49_2:IC:=.seq u49_3 u49_13
def u49_1r:List IOper:=[oI 4 0]
def u49_1:IC:=.seq (.reg u49_1r) u49_2
def u49:IFn:=⟨19,u49_1,[.tmp 4]⟩
end
theorem isU49:IsFn Tryz.prog 49 u49:=by unfold IsFn;kernel_rfl
instance i49_11:WR Tryz.prog 19 u49_11 (rS u49_11r .ret [5]):=⟨mkS⟩
instance i49_10:WR Tryz.prog 19 u49_10 (rCE (.t 16) u49_11 .skip [0,1,5,7,8,16]):=⟨mkCE⟩
instance i49_9:WR Tryz.prog 19 u49_9 (rS u49_9r u49_10 [0,1,5,7,8]):=⟨mkS⟩
instance i49_8:WR Tryz.prog 19 u49_8 (rS u49_8r u49_9 [0,1,7,8]):=⟨mkS⟩
instance i49_12:WR Tryz.prog 19 u49_12 (rE u49_12r [0,1,7,8]):=⟨mkE⟩
instance i49_7:WR Tryz.prog 19 u49_7 (rB 1 u49_8 u49_12 [0,1,7,8]):=⟨mkB⟩
instance i49_6:WR Tryz.prog 19 u49_6 (rC (.t 9) .skip (.exit 0) u49_7 [0,1,7,8,9]):=⟨mkC⟩
instance i49_5:WR Tryz.prog 19 u49_5 (rS u49_5r u49_6 [0,1,7,8]):=⟨mkS⟩
instance i49_4:WR Tryz.prog 19 u49_4 (rBE 0 (.loop u49_5) [0,1,7,8]):=⟨mkBE⟩
instance i49_3:WR Tryz.prog 19 u49_3 (rS u49_3r u49_4 [0,1]):=⟨mkS⟩
instance i49_13:WR Tryz.prog 19 u49_13 (rS u49_13r .ret []):=⟨mkS⟩
instance i49_2:WR Tryz.prog 19 u49_2 (rQ u49_3 u49_13 [0,1]):=⟨mkQ⟩
instance i49_1:WR Tryz.prog 19 u49_1 (rS u49_1r u49_2 [0,1]):=⟨mkS⟩
attribute [go_sem] u49_11r u49_9r u49_8r u49_12r u49_5r u49_3r u49_13r u49_1r
section
def u55_11r:List IOper:=[oM 17 5,oM 4 17]
def u55_11:IC:=.seq (.reg u55_11r) .ret
def u55_10:IC:=.cond (.t 16) u55_11 .skip
def u55_9r:List IOper:=[oM 11 1,oM 12 0,oM 13 5,oA 14 12 13 4,oD 15 14 4,⟨some 16,.callv (.t 11) [.t 15],none⟩]
def u55_9:IC:=.seq (.reg u55_9r) u55_10
def u55_8r:List IOper:=[oM 10 8,oM 5 10]
def u55_8:IC:=.seq (.reg u55_8r) u55_9
def u55_12r:List IOper:=[oK 18 8 .add 1,oM 8 18]
def u55_12:IC:=.reg u55_12r
def u55_7:IC:=.seq (.blk 1 u55_8) u55_12
def u55_6:IC:=.seq (.cond (.t 9) .skip (.exit 0)) u55_7
def u55_5r:List IOper:=[oB 9 8 7 .lss]
def u55_5:IC:=.seq (.reg u55_5r) u55_6
def u55_4:IC:=.blk 0 (.loop u55_5)
def u55_3r:List IOper:=[oM 6 0,oH 7 6,oI 8 0]
def u55_3:IC:=.seq (.reg u55_3r) u55_4
def u55_13r:List IOper:=[oI 4 (-1)]
def u55_13:IC:=.seq (.reg u55_13r) .ret
def u55_2:IC:=.seq u55_3 u55_13
def u55_1r:List IOper:=[oI 4 0]
def u55_1:IC:=.seq (.reg u55_1r) u55_2
def u55:IFn:=⟨19,u55_1,[.tmp 4]⟩
end
theorem isU55:IsFn Tryz.prog 55 u55:=by unfold IsFn;kernel_rfl
instance i55_11:WR Tryz.prog 19 u55_11 (rS u55_11r .ret [5]):=⟨mkS⟩
instance i55_10:WR Tryz.prog 19 u55_10 (rCE (.t 16) u55_11 .skip [0,1,5,7,8,16]):=⟨mkCE⟩
instance i55_9:WR Tryz.prog 19 u55_9 (rS u55_9r u55_10 [0,1,5,7,8]):=⟨mkS⟩
instance i55_8:WR Tryz.prog 19 u55_8 (rS u55_8r u55_9 [0,1,7,8]):=⟨mkS⟩
instance i55_12:WR Tryz.prog 19 u55_12 (rE u55_12r [0,1,7,8]):=⟨mkE⟩
instance i55_7:WR Tryz.prog 19 u55_7 (rB 1 u55_8 u55_12 [0,1,7,8]):=⟨mkB⟩
instance i55_6:WR Tryz.prog 19 u55_6 (rC (.t 9) .skip (.exit 0) u55_7 [0,1,7,8,9]):=⟨mkC⟩
instance i55_5:WR Tryz.prog 19 u55_5 (rS u55_5r u55_6 [0,1,7,8]):=⟨mkS⟩
instance i55_4:WR Tryz.prog 19 u55_4 (rBE 0 (.loop u55_5) [0,1,7,8]):=⟨mkBE⟩
instance i55_3:WR Tryz.prog 19 u55_3 (rS u55_3r u55_4 [0,1]):=⟨mkS⟩
instance i55_13:WR Tryz.prog 19 u55_13 (rS u55_13r .ret []):=⟨mkS⟩
instance i55_2:WR Tryz.prog 19 u55_2 (rQ u55_3 u55_13 [0,1]):=⟨mkQ⟩
instance i55_1:WR Tryz.prog 19 u55_1 (rS u55_1r u55_2 [0,1]):=⟨mkS⟩
attribute [go_sem] u55_11r u55_9r u55_8r u55_12r u55_5r u55_3r u55_13r u55_1r
section
def u99_2r:List IOper:=[oM 5 0,oM 6 1,oC 7 135 [.t 5,.t 6],oK 8 7 .geq 0,oM 4 8]
def u99_2:IC:=.seq (.reg u99_2r) .ret
def u99_1r:List IOper:=[oP 4 (.mv (.k (.bool false)))]
def u99_1:IC:=.seq (.reg u99_1r) u99_2
def u99:IFn:=⟨9,u99_1,[.tmp 4]⟩
end
theorem isU99:IsFn Tryz.prog 99 u99:=by unfold IsFn;kernel_rfl
instance i99_2:WR Tryz.prog 9 u99_2 (rS u99_2r .ret [0,1]):=⟨mkS⟩
instance i99_1:WR Tryz.prog 9 u99_1 (rS u99_1r u99_2 [0,1]):=⟨mkS⟩
attribute [go_sem] u99_2r u99_1r
section
def u33_2r:List IOper:=[oM 5 0,oM 6 1,oC 7 49 [.t 5,.t 6],oK 8 7 .geq 0,oM 4 8]
def u33_2:IC:=.seq (.reg u33_2r) .ret
def u33_1r:List IOper:=[oP 4 (.mv (.k (.bool false)))]
def u33_1:IC:=.seq (.reg u33_1r) u33_2
def u33:IFn:=⟨9,u33_1,[.tmp 4]⟩
end
theorem isU33:IsFn Tryz.prog 33 u33:=by unfold IsFn;kernel_rfl
instance i33_2:WR Tryz.prog 9 u33_2 (rS u33_2r .ret [0,1]):=⟨mkS⟩
instance i33_1:WR Tryz.prog 9 u33_1 (rS u33_1r u33_2 [0,1]):=⟨mkS⟩
attribute [go_sem] u33_2r u33_1r
section
def u36_2r:List IOper:=[oM 5 0,oM 6 1,oC 7 55 [.t 5,.t 6],oK 8 7 .geq 0,oM 4 8]
def u36_2:IC:=.seq (.reg u36_2r) .ret
def u36_1r:List IOper:=[oP 4 (.mv (.k (.bool false)))]
def u36_1:IC:=.seq (.reg u36_1r) u36_2
def u36:IFn:=⟨9,u36_1,[.tmp 4]⟩
end
theorem isU36:IsFn Tryz.prog 36 u36:=by unfold IsFn;kernel_rfl
instance i36_2:WR Tryz.prog 9 u36_2 (rS u36_2r .ret [0,1]):=⟨mkS⟩
instance i36_1:WR Tryz.prog 9 u36_1 (rS u36_1r u36_2 [0,1]):=⟨mkS⟩
attribute [go_sem] u36_2r u36_1r
end Go.Proofs.YtcallbfckjlagaaGreat
namespace Go.Proofs.YtcallbfckjlagaaGreat
open Go.Eng (IC IOper DReg IFn IsFn)
open Go.Sym
theorem mixedU:Tryz.prog.follows .mixedOrders=true:=by kernel_rfl
end Go.Proofs.YtcallbfckjlagaaGreat
namespace Go.Proofs.YtcallbfckjlagaaGreat
open Go.Eng (IC IOper DReg IFn IsFn)
open Go.Sym Go.Pb
theorem c_within (n lo hi:Int):PC Tryz.prog 98 [I64 n,I64 lo,I64 hi] (.bool (inM n lo hi)):=by
 refine PC.of mixedU isU98 (Nat.le_of_ble_eq_true rfl) (by simp [DV.nlL,DV.nl,nlL_ints,nlL_strs,nlL_instrs,nlL_entries,nlL_stp]) (by simp [DV.nlL,DV.nl,nlL_ints,nlL_strs,nlL_instrs,nlL_entries,nlL_stp]) ?_
 show IW Tryz.prog 15 u98_1 ⟨argT _,_,_⟩ (rt [.tmp 6] _)
 repeat' ((first|with_reducible refine wr ?_|((with_reducible refine wb2 ?_ ?_)<;>(intro hb;try simp only [hb]))|fail)<;>try simp only [go_sem,seval])
 all_goals (refine pc_ret ?_;simp_all [inM]<;>omega)
theorem c_bless (a b:Ent):PC Tryz.prog 73 [a.v,b.v] (.bool (lessM a b)):=by
 refine PC.of mixedU isU73 (Nat.le_of_ble_eq_true rfl) (by simp [DV.nlL,DV.nl,nlL_ints,nlL_strs,nlL_instrs,nlL_entries,nlL_stp]) (by simp [DV.nlL,DV.nl,nlL_ints,nlL_strs,nlL_instrs,nlL_entries,nlL_stp]) ?_
 show IW Tryz.prog 30 u73_1 ⟨argT _,_,_⟩ (rt [.tmp 4] _)
 repeat' ((first|with_reducible refine wr ?_|((with_reducible refine wb2 ?_ ?_)<;>(intro hb;try simp only [hb]))|fail)<;>try simp only [go_sem,seval])
 all_goals (refine pc_ret ?_;simp_all [lessM])
theorem c_isText (s:List UInt8) (hs:s.length≤140737488355328):PC Tryz.prog 101 [.str s] (.bool (printM s)):=by
 refine PC.of mixedU isU101 (Nat.le_of_ble_eq_true rfl) (by simp [DV.nlL,DV.nl,nlL_ints,nlL_strs,nlL_instrs,nlL_entries,nlL_stp]) (by simp [DV.nlL,DV.nl,nlL_ints,nlL_strs,nlL_instrs,nlL_entries,nlL_stp]) ?_
 show IW Tryz.prog 23 u101_1 ⟨argT _,_,_⟩ (rt [.tmp 2] _)
 repeat' ((first|with_reducible refine wr ?_|((with_reducible refine wb2 ?_ ?_)<;>(intro hb;try simp only [hb]))|fail)<;>try simp only [go_sem,seval])
 refine i_loop (fun k:Nat=>[(0,.str s),(3,I64 k)]) (fun _=>nil) (fun k _=>k≤s.length∧(s.take k).all printB=true) (fun k=>s.length-k) 0 (by simp [tmLe,tm,Tm.upd]) (Sub.nil _) (by simp) ?_
 rintro k c ⟨hk,he⟩
 by_cases hlt:k<s.length
 ·have hd:decide ((k:Int)<s.length)=true:=by simpa using hlt
  have hg:=List.getElem?_eq_getElem hlt
  have hw:=w64 (n:=(k:Int)+1) (by omega) (by omega)
  repeat' ((first|with_reducible refine wr ?_|((with_reducible refine wb2 ?_ ?_)<;>(intro hb;try simp only [hb]))|fail)<;>try simp only [go_sem,seval,hd,hg,hw])
  ·refine pc_ret ?_
   rw [printM,all_fail printB s k _ hg (by simp_all [printB];omega)];rfl
  ·refine pc_ret ?_
   rw [printM,all_fail printB s k _ hg (by simp_all [printB];omega)];rfl
  ·exact ⟨k+1,rfl,Sub.refl _,inv ⟨by omega,by rw [all_take printB s k _ hg he];simp_all [printB];omega⟩,by omega⟩
 ·have hd:decide ((k:Int)<s.length)=false:=by simpa using hlt
  repeat' ((first|with_reducible refine wr ?_|((with_reducible refine wb2 ?_ ?_)<;>(intro hb;try simp only [hb]))|fail)<;>try simp only [go_sem,seval,hd])
  refine pc_ret ?_
  rw [printM,all_done printB s k (by omega) he,Bool.true_and];simp;omega
theorem c_goodEntry (c:Prg) (hl:Lim c) (e:Ent):PC Tryz.prog 105 [c.v,e.v] (.bool (entryM c e)):=by
 obtain ⟨wp,wv,ws,wi,wt,we, -, -, -, -, -⟩:=hl
 refine PC.of mixedU isU105 (Nat.le_of_ble_eq_true rfl) (by simp [DV.nlL,DV.nl,nlL_ints,nlL_strs,nlL_instrs,nlL_entries,nlL_stp]) (by simp [DV.nlL,DV.nl,nlL_ints,nlL_strs,nlL_instrs,nlL_entries,nlL_stp]) ?_
 show IW Tryz.prog 43 u105_1 ⟨argT _,_,_⟩ (rt [.tmp 4] _)
 repeat' ((first|with_reducible refine wr ?_|((with_reducible refine wb2 ?_ ?_)<;>(intro hb;try simp only [hb]))|((with_reducible refine AC.call ((c_within _ _ _).at _ _) ?_);rintro _ _ _ ⟨rfl,rfl,rfl⟩ -)|fail)<;>try simp only [go_sem,seval,wp,wt,we])
 all_goals (refine pc_ret ?_;simp_all [entryM]<;>rfl)
theorem c_isJ (op:Int):PC Tryz.prog 107 [I64 op] (.bool (isJ op)):=by
 refine PC.of mixedU isU107 (Nat.le_of_ble_eq_true rfl) (by simp [DV.nlL,DV.nl,nlL_ints,nlL_strs,nlL_instrs,nlL_entries,nlL_stp]) (by simp [DV.nlL,DV.nl,nlL_ints,nlL_strs,nlL_instrs,nlL_entries,nlL_stp]) ?_
 show IW Tryz.prog 13 u107_1 ⟨argT _,_,_⟩ (rt [.tmp 2] _)
 repeat' ((first|with_reducible refine wr ?_|((with_reducible refine wb2 ?_ ?_)<;>(intro hb;try simp only [hb]))|fail)<;>try simp only [go_sem,seval])
 all_goals (refine pc_ret ?_;simp_all [isJ]<;>rfl)
theorem c_stack (op:Int):PC Tryz.prog 110 [I64 op] (.tup [I64 (effM op).1,I64 (effM op).2.1]):=by
 refine PC.of mixedU isU110 (Nat.le_of_ble_eq_true rfl) (by simp [DV.nlL,DV.nl,nlL_ints,nlL_strs,nlL_instrs,nlL_entries,nlL_stp]) (by simp [DV.nlL,DV.nl,nlL_ints,nlL_strs,nlL_instrs,nlL_entries,nlL_stp]) ?_
 show IW Tryz.prog 28 u110_1 ⟨argT _,_,_⟩ (rt [.tmp 2,.tmp 3] _)
 repeat' ((first|with_reducible refine wr ?_|((with_reducible refine wb2 ?_ ?_)<;>(intro hb;try simp only [hb]))|fail)<;>try simp only [go_sem,seval])
 all_goals first
  | (simp only [beq_iff_eq] at hb;subst hb;exact pc_ret rfl)
  | (simp only [beq_eq_false_iff_ne,ne_eq] at *;refine pc_ret ?_;rw [(eff0 ‹_› ‹_› ‹_› ‹_› ‹_› ‹_› ‹_› ‹_› ‹_› ‹_› ‹_› ‹_› ‹_› ‹_› ‹_› ‹_› ‹_› ‹_›).1,(eff0 ‹_› ‹_› ‹_› ‹_› ‹_› ‹_› ‹_› ‹_› ‹_› ‹_› ‹_› ‹_› ‹_› ‹_› ‹_› ‹_› ‹_› ‹_›).2])
theorem c_span (c:Prg) (hl:Lim c) (op:Int):PC Tryz.prog 106 [c.v,I64 op] (.tup [I64 (spanM c op).1,I64 (spanM c op).2]):=by
 obtain ⟨wp,wv,ws,wi,wt,we, -, -, -, -, -⟩:=hl
 refine PC.of mixedU isU106 (Nat.le_of_ble_eq_true rfl) (by simp [DV.nlL,DV.nl,nlL_ints,nlL_strs,nlL_instrs,nlL_entries,nlL_stp]) (by simp [DV.nlL,DV.nl,nlL_ints,nlL_strs,nlL_instrs,nlL_entries,nlL_stp]) ?_
 show IW Tryz.prog 64 u106_1 ⟨argT _,_,_⟩ (rt [.tmp 4,.tmp 5] _)
 repeat' ((first|with_reducible refine wr ?_|((with_reducible refine wb2 ?_ ?_)<;>(intro hb;try simp only [hb]))|fail)<;>try simp only [go_sem,seval,wp,wv,ws,wt,we])
 all_goals first
  | (simp only [beq_iff_eq] at hb;subst hb;refine pc_ret ?_;simp [spanM];done)
  | (refine pc_ret ?_;simp_all [spanM])
theorem c_IF_str {g:(List UInt8)→Bool} {f:Nat} {a cs:List DV} (xs:List (List UInt8)) (hx:xs.length≤9223372036854775807) (na:DV.nlL a=true) (ncs:DV.nlL cs=true) (hf:∀ x∈xs,PC Tryz.prog f (a++[DV.str x]++cs) (.bool (g x))) :
  PC Tryz.prog 135 [.lst (xs.map DV.str),.func f a cs] (I64 (idxM g xs 0)):=by
 refine PC.of mixedU isU135 (Nat.le_of_ble_eq_true rfl) (by simp [DV.nlL,DV.nl,nlL_strs,nlL_ints,nlL_entries,na,ncs]) rfl ?_
 show IW Tryz.prog 19 u135_1 ⟨argT _,_,_⟩ (rt [.tmp 4] _)
 repeat' ((first|with_reducible refine wr ?_|((with_reducible refine wb2 ?_ ?_)<;>(intro hb;try simp only [hb]))|fail)<;>try simp only [go_sem,seval])
 refine i_loop (fun k:Nat=>[(0,.lst (xs.map DV.str)),(1,.func f a cs),(7,I64 xs.length),(8,I64 k)]) (fun _=>nil) (fun k _=>k≤xs.length∧idxM g xs 0=idxM g (xs.drop k) k) (fun k=>xs.length-k) 0 (by simp [tmLe,tm,Tm.upd]) (Sub.nil _) (by simp) ?_
 rintro k c ⟨hk,he⟩
 by_cases hlt:k<xs.length
 ·have hd:decide ((k:Int)<xs.length)=true:=by simpa using hlt
  have hg:=List.getElem?_eq_getElem hlt
  have hw:=w64 (n:=(k:Int)+1) (by omega) (by omega)
  have hst:=idxM_step (g:=g) hg
  have hc:=hf xs[k] (List.getElem_mem hlt)
  repeat' ((first|with_reducible refine wr ?_|((with_reducible refine wb2 ?_ ?_)<;>(intro hb;try simp only [hb]))|((with_reducible refine AC.call ((hc).at _ _) ?_);rintro _ _ _ ⟨rfl,rfl,rfl⟩ -)|fail)<;>try simp only [go_sem,seval,hd,hg,hw])
  ·refine pc_ret ?_
   rw [he,hst,hb];rfl
  ·exact ⟨k+1,rfl,Sub.refl _,inv ⟨by omega,by rw [he,hst,hb];rfl⟩,by omega⟩
 ·have hd:decide ((k:Int)<xs.length)=false:=by simpa using hlt
  repeat' ((first|with_reducible refine wr ?_|((with_reducible refine wb2 ?_ ?_)<;>(intro hb;try simp only [hb]))|fail)<;>try simp only [go_sem,seval,hd])
  refine pc_ret ?_
  rw [he,idxM_end (by omega)]
theorem c_CF_str {g:(List UInt8)→Bool} {f:Nat} {a cs:List DV} (xs:List (List UInt8)) (hx:xs.length≤9223372036854775807) (na:DV.nlL a=true) (ncs:DV.nlL cs=true) (hf:∀ x∈xs,PC Tryz.prog f (a++[DV.str x]++cs) (.bool (g x))) :
  PC Tryz.prog 99 [.lst (xs.map DV.str),.func f a cs] (.bool (xs.any g)):=by
 refine PC.of mixedU isU99 (Nat.le_of_ble_eq_true rfl) (by simp [DV.nlL,DV.nl,nlL_strs,nlL_ints,nlL_entries,na,ncs]) rfl ?_
 show IW Tryz.prog 9 u99_1 ⟨argT _,_,_⟩ (rt [.tmp 4] _)
 have hc:=c_IF_str xs hx na ncs hf
 repeat' ((first|with_reducible refine wr ?_|((with_reducible refine wb2 ?_ ?_)<;>(intro hb;try simp only [hb]))|((with_reducible refine AC.call ((hc).at _ _) ?_);rintro _ _ _ ⟨rfl,rfl,rfl⟩ -)|fail)<;>try simp only [go_sem,seval])
 refine pc_ret ?_
 rw [idxM_any]
theorem c_IF_int {g:Int→Bool} {f:Nat} {a cs:List DV} (xs:List Int) (hx:xs.length≤9223372036854775807) (na:DV.nlL a=true) (ncs:DV.nlL cs=true) (hf:∀ x∈xs,PC Tryz.prog f (a++[I64 x]++cs) (.bool (g x))) :
  PC Tryz.prog 49 [.lst (xs.map I64),.func f a cs] (I64 (idxM g xs 0)):=by
 refine PC.of mixedU isU49 (Nat.le_of_ble_eq_true rfl) (by simp [DV.nlL,DV.nl,nlL_strs,nlL_ints,nlL_entries,na,ncs]) rfl ?_
 show IW Tryz.prog 19 u49_1 ⟨argT _,_,_⟩ (rt [.tmp 4] _)
 repeat' ((first|with_reducible refine wr ?_|((with_reducible refine wb2 ?_ ?_)<;>(intro hb;try simp only [hb]))|fail)<;>try simp only [go_sem,seval])
 refine i_loop (fun k:Nat=>[(0,.lst (xs.map I64)),(1,.func f a cs),(7,I64 xs.length),(8,I64 k)]) (fun _=>nil) (fun k _=>k≤xs.length∧idxM g xs 0=idxM g (xs.drop k) k) (fun k=>xs.length-k) 0 (by simp [tmLe,tm,Tm.upd]) (Sub.nil _) (by simp) ?_
 rintro k c ⟨hk,he⟩
 by_cases hlt:k<xs.length
 ·have hd:decide ((k:Int)<xs.length)=true:=by simpa using hlt
  have hg:=List.getElem?_eq_getElem hlt
  have hw:=w64 (n:=(k:Int)+1) (by omega) (by omega)
  have hst:=idxM_step (g:=g) hg
  have hc:=hf xs[k] (List.getElem_mem hlt)
  repeat' ((first|with_reducible refine wr ?_|((with_reducible refine wb2 ?_ ?_)<;>(intro hb;try simp only [hb]))|((with_reducible refine AC.call ((hc).at _ _) ?_);rintro _ _ _ ⟨rfl,rfl,rfl⟩ -)|fail)<;>try simp only [go_sem,seval,hd,hg,hw])
  ·refine pc_ret ?_
   rw [he,hst,hb];rfl
  ·exact ⟨k+1,rfl,Sub.refl _,inv ⟨by omega,by rw [he,hst,hb];rfl⟩,by omega⟩
 ·have hd:decide ((k:Int)<xs.length)=false:=by simpa using hlt
  repeat' ((first|with_reducible refine wr ?_|((with_reducible refine wb2 ?_ ?_)<;>(intro hb;try simp only [hb]))|fail)<;>try simp only [go_sem,seval,hd])
  refine pc_ret ?_
  rw [he,idxM_end (by omega)]
theorem c_CF_int {g:Int→Bool} {f:Nat} {a cs:List DV} (xs:List Int) (hx:xs.length≤9223372036854775807) (na:DV.nlL a=true) (ncs:DV.nlL cs=true) (hf:∀ x∈xs,PC Tryz.prog f (a++[I64 x]++cs) (.bool (g x))) :
  PC Tryz.prog 33 [.lst (xs.map I64),.func f a cs] (.bool (xs.any g)):=by
 refine PC.of mixedU isU33 (Nat.le_of_ble_eq_true rfl) (by simp [DV.nlL,DV.nl,nlL_strs,nlL_ints,nlL_entries,na,ncs]) rfl ?_
 show IW Tryz.prog 9 u33_1 ⟨argT _,_,_⟩ (rt [.tmp 4] _)
 have hc:=c_IF_int xs hx na ncs hf
 repeat' ((first|with_reducible refine wr ?_|((with_reducible refine wb2 ?_ ?_)<;>(intro hb;try simp only [hb]))|((with_reducible refine AC.call ((hc).at _ _) ?_);rintro _ _ _ ⟨rfl,rfl,rfl⟩ -)|fail)<;>try simp only [go_sem,seval])
 refine pc_ret ?_
 rw [idxM_any]
theorem c_IF_ent {g:Ent→Bool} {f:Nat} {a cs:List DV} (xs:List Ent) (hx:xs.length≤9223372036854775807) (na:DV.nlL a=true) (ncs:DV.nlL cs=true) (hf:∀ x∈xs,PC Tryz.prog f (a++[Ent.v x]++cs) (.bool (g x))) :
  PC Tryz.prog 55 [.lst (xs.map Ent.v),.func f a cs] (I64 (idxM g xs 0)):=by
 refine PC.of mixedU isU55 (Nat.le_of_ble_eq_true rfl) (by simp [DV.nlL,DV.nl,nlL_strs,nlL_ints,nlL_entries,na,ncs]) rfl ?_
 show IW Tryz.prog 19 u55_1 ⟨argT _,_,_⟩ (rt [.tmp 4] _)
 repeat' ((first|with_reducible refine wr ?_|((with_reducible refine wb2 ?_ ?_)<;>(intro hb;try simp only [hb]))|fail)<;>try simp only [go_sem,seval])
 refine i_loop (fun k:Nat=>[(0,.lst (xs.map Ent.v)),(1,.func f a cs),(7,I64 xs.length),(8,I64 k)]) (fun _=>nil) (fun k _=>k≤xs.length∧idxM g xs 0=idxM g (xs.drop k) k) (fun k=>xs.length-k) 0 (by simp [tmLe,tm,Tm.upd]) (Sub.nil _) (by simp) ?_
 rintro k c ⟨hk,he⟩
 by_cases hlt:k<xs.length
 ·have hd:decide ((k:Int)<xs.length)=true:=by simpa using hlt
  have hg:=List.getElem?_eq_getElem hlt
  have hw:=w64 (n:=(k:Int)+1) (by omega) (by omega)
  have hst:=idxM_step (g:=g) hg
  have hc:=hf xs[k] (List.getElem_mem hlt)
  repeat' ((first|with_reducible refine wr ?_|((with_reducible refine wb2 ?_ ?_)<;>(intro hb;try simp only [hb]))|((with_reducible refine AC.call ((hc).at _ _) ?_);rintro _ _ _ ⟨rfl,rfl,rfl⟩ -)|fail)<;>try simp only [go_sem,seval,hd,hg,hw])
  ·refine pc_ret ?_
   rw [he,hst,hb];rfl
  ·exact ⟨k+1,rfl,Sub.refl _,inv ⟨by omega,by rw [he,hst,hb];rfl⟩,by omega⟩
 ·have hd:decide ((k:Int)<xs.length)=false:=by simpa using hlt
  repeat' ((first|with_reducible refine wr ?_|((with_reducible refine wb2 ?_ ?_)<;>(intro hb;try simp only [hb]))|fail)<;>try simp only [go_sem,seval,hd])
  refine pc_ret ?_
  rw [he,idxM_end (by omega)]
theorem c_CF_ent {g:Ent→Bool} {f:Nat} {a cs:List DV} (xs:List Ent) (hx:xs.length≤9223372036854775807) (na:DV.nlL a=true) (ncs:DV.nlL cs=true) (hf:∀ x∈xs,PC Tryz.prog f (a++[Ent.v x]++cs) (.bool (g x))) :
  PC Tryz.prog 36 [.lst (xs.map Ent.v),.func f a cs] (.bool (xs.any g)):=by
 refine PC.of mixedU isU36 (Nat.le_of_ble_eq_true rfl) (by simp [DV.nlL,DV.nl,nlL_strs,nlL_ints,nlL_entries,na,ncs]) rfl ?_
 show IW Tryz.prog 9 u36_1 ⟨argT _,_,_⟩ (rt [.tmp 4] _)
 have hc:=c_IF_ent xs hx na ncs hf
 repeat' ((first|with_reducible refine wr ?_|((with_reducible refine wb2 ?_ ?_)<;>(intro hb;try simp only [hb]))|((with_reducible refine AC.call ((hc).at _ _) ?_);rintro _ _ _ ⟨rfl,rfl,rfl⟩ -)|fail)<;>try simp only [go_sem,seval])
 refine pc_ret ?_
 rw [idxM_any]
end Go.Proofs.YtcallbfckjlagaaGreat
namespace Go.Proofs.YtcallbfckjlagaaGreat
open Go.Eng (IC IOper DReg IFn IsFn)
open Go.Sym Go.Pb
theorem c_limits (c:Prg):PC Tryz.prog 70 [c.v] (.bool (limitsM c)):=by
 refine PC.of mixedU isU70 (Nat.le_of_ble_eq_true rfl) (by simp [DV.nlL,DV.nl,nlL_ints,nlL_strs,nlL_instrs,nlL_entries,nlL_stp]) (by simp [DV.nlL,DV.nl,nlL_ints,nlL_strs,nlL_instrs,nlL_entries,nlL_stp]) ?_
 show IW Tryz.prog 41 u70_1 ⟨argT _,_,_⟩ (rt [.tmp 2] _)
 repeat' ((first|with_reducible refine wr ?_|((with_reducible refine wb2 ?_ ?_)<;>(intro hb;try simp only [hb]))|((with_reducible refine AC.call ((c_within _ _ _).at _ _) ?_);rintro _ _ _ ⟨rfl,rfl,rfl⟩ -)|fail)<;>try simp only [go_sem,seval])
 all_goals (refine pc_ret ?_;simp_all [limitsM]<;>omega)
theorem c_p1 (s:List UInt8) (hs:s.length≤140737488355328):PC Tryz.prog 100 [.str s] (.bool (!printM s)):=by
 refine PC.of mixedU isU100 (Nat.le_of_ble_eq_true rfl) (by simp [DV.nlL,DV.nl,nlL_ints,nlL_strs,nlL_instrs,nlL_entries,nlL_stp]) (by simp [DV.nlL,DV.nl,nlL_ints,nlL_strs,nlL_instrs,nlL_entries,nlL_stp]) ?_
 show IW Tryz.prog 6 u100_1 ⟨argT _,_,_⟩ (rt [.tmp 2] _)
 repeat' ((first|with_reducible refine wr ?_|((with_reducible refine wb2 ?_ ?_)<;>(intro hb;try simp only [hb]))|((with_reducible refine AC.call ((c_isText s hs).at _ _) ?_);rintro _ _ _ ⟨rfl,rfl,rfl⟩ -)|fail)<;>try simp only [go_sem,seval])
 exact pc_ret rfl
theorem c_p2 (n:Int):PC Tryz.prog 102 [I64 n] (.bool (!inM n 0 99)):=by
 refine PC.of mixedU isU102 (Nat.le_of_ble_eq_true rfl) (by simp [DV.nlL,DV.nl,nlL_ints,nlL_strs,nlL_instrs,nlL_entries,nlL_stp]) (by simp [DV.nlL,DV.nl,nlL_ints,nlL_strs,nlL_instrs,nlL_entries,nlL_stp]) ?_
 show IW Tryz.prog 6 u102_1 ⟨argT _,_,_⟩ (rt [.tmp 2] _)
 repeat' ((first|with_reducible refine wr ?_|((with_reducible refine wb2 ?_ ?_)<;>(intro hb;try simp only [hb]))|((with_reducible refine AC.call ((c_within _ _ _).at _ _) ?_);rintro _ _ _ ⟨rfl,rfl,rfl⟩ -)|fail)<;>try simp only [go_sem,seval])
 exact pc_ret rfl
theorem c_p3 (n:Int):PC Tryz.prog 103 [I64 n] (.bool (!inM n (-2147483647) 2147483647)):=by
 refine PC.of mixedU isU103 (Nat.le_of_ble_eq_true rfl) (by simp [DV.nlL,DV.nl,nlL_ints,nlL_strs,nlL_instrs,nlL_entries,nlL_stp]) (by simp [DV.nlL,DV.nl,nlL_ints,nlL_strs,nlL_instrs,nlL_entries,nlL_stp]) ?_
 show IW Tryz.prog 6 u103_1 ⟨argT _,_,_⟩ (rt [.tmp 2] _)
 repeat' ((first|with_reducible refine wr ?_|((with_reducible refine wb2 ?_ ?_)<;>(intro hb;try simp only [hb]))|((with_reducible refine AC.call ((c_within _ _ _).at _ _) ?_);rintro _ _ _ ⟨rfl,rfl,rfl⟩ -)|fail)<;>try simp only [go_sem,seval])
 exact pc_ret rfl
theorem c_p4 (c:Prg) (hl:Lim c) (e:Ent):PC Tryz.prog 104 [e.v,.fptr c.cs] (.bool (!entryM c e)):=by
 refine PC.of mixedU isU104 (Nat.le_of_ble_eq_true rfl) (by simp [DV.nlL,DV.nl,nlL_ints,nlL_strs,nlL_instrs,nlL_entries,nlL_stp]) (by simp [DV.nlL,DV.nl,nlL_ints,nlL_strs,nlL_instrs,nlL_entries,nlL_stp]) ?_
 show IW Tryz.prog 8 u104_1 ⟨argT _,_,_⟩ (rt [.tmp 3] _)
 repeat' ((first|with_reducible refine wr ?_|((with_reducible refine wb2 ?_ ?_)<;>(intro hb;try simp only [hb]))|((with_reducible refine AC.call ((c_goodEntry c hl e).at _ _) ?_);rintro _ _ _ ⟨rfl,rfl,rfl⟩ -)|fail)<;>try simp only [go_sem,seval])
 exact pc_ret rfl
theorem c_t1 (c:Prg) (hl:Lim c) (e:Ent):PC Tryz.prog 108 [e.v,.fptr c.cs] (.bool (!jumpE c e)):=by
 obtain ⟨wp,wv,ws,wi,wt,we,li,ls,le,lp,lv⟩:=hl
 refine PC.of mixedU isU108 (Nat.le_of_ble_eq_true rfl) (by simp [DV.nlL,DV.nl,nlL_ints,nlL_strs,nlL_instrs,nlL_entries,nlL_stp]) (by simp [DV.nlL,DV.nl,nlL_ints,nlL_strs,nlL_instrs,nlL_entries,nlL_stp]) ?_
 show IW Tryz.prog 12 u108_1 ⟨argT _,_,_⟩ (rt [.tmp 3] _)
 repeat' ((first|with_reducible refine wr ?_|((with_reducible refine wb2 ?_ ?_)<;>(intro hb;try simp only [hb]))|((with_reducible refine AC.call ((c_within _ _ _).at _ _) ?_);rintro _ _ _ ⟨rfl,rfl,rfl⟩ -)|fail)<;>try simp only [go_sem,seval,wi])
 exact pc_ret rfl
theorem g_cap (c:Prg) (fn:Nat) (l:List DV):GL (nil.upd 0 ⟨0,true,c.cs⟩) [.lst l,.func fn [] [.ptr 0 0]] nil [.lst l,.func fn [] [.fptr c.cs]] :=
 GL.one (b:=⟨0,true,c.cs⟩) rfl rfl (.cons _ _ _ _ (.same _) (.cons _ _ _ _ (.func _ _ _ _ _ .nil (.cons _ _ _ _ (.ptr 0 c.cs (Nat.zero_le _) rfl) .nil)) .nil))
theorem c_targets (c:Prg) (hl:Lim c):PC Tryz.prog 72 [c.v] (.bool (jumpsM c)):=by
 have hl0:=hl
 obtain ⟨wp,wv,ws,wi,wt,we,li,ls,le,lp,lv⟩:=hl
 have cf:=c_CF_ent (a:=[]) (cs:=[.fptr c.cs]) c.entries (by omega) rfl (by simp [DV.nlL,DV.nl,nlL_ints,nlL_strs,nlL_instrs,nlL_entries]) (fun e _=>c_t1 c hl0 e)
 rw [any_not] at cf
 refine PC.of mixedU isU72 (Nat.le_of_ble_eq_true rfl) (by simp [DV.nlL,DV.nl,nlL_ints,nlL_strs,nlL_instrs,nlL_entries,nlL_stp]) (by simp [DV.nlL,DV.nl,nlL_ints,nlL_strs,nlL_instrs,nlL_entries,nlL_stp]) ?_
 show IW Tryz.prog 31 u72_1 ⟨argT _,_,_⟩ (rt [.tmp 2] _)
 repeat' ((first|with_reducible refine wr ?_|((with_reducible refine wb2 ?_ ?_)<;>(intro hb;try simp only [hb]))|fail)<;>try simp only [go_sem,seval])
 refine i_loop (fun k:Nat=>[(1,.ptr 0 0),(6,inssV c.instrs),(7,I64 c.instrs.length),(8,I64 k)]) (fun _=>nil.upd 0 ⟨0,true,c.cs⟩) (fun k cc=>1≤cc∧k≤c.instrs.length∧(c.instrs.take k).all (jumpI c)=true) (fun k=>c.instrs.length-k) 0 (by simp [tmLe,tm,Tm.upd]) (Sub.refl _) (by simp) ?_
 rintro k cc ⟨h1c,hk,he⟩
 have ne0:¬0=cc∧¬cc=0:=by and_intros<;>omega
 by_cases hlt:k<c.instrs.length
 ·have hd:decide ((k:Int)<c.instrs.length)=true:=by simpa using hlt
  have hg:=List.getElem?_eq_getElem hlt
  have hw:=w64 (n:=(k:Int)+1) (by omega) (by omega)
  repeat' ((first|with_reducible refine wr ?_|((with_reducible refine wb2 ?_ ?_)<;>(intro hb;try simp only [hb]))|((with_reducible refine AC.call ((c_isJ _).at _ _) ?_);rintro _ _ _ ⟨rfl,rfl,rfl⟩ -)|((with_reducible refine AC.call ((c_within _ _ _).at _ _) ?_);rintro _ _ _ ⟨rfl,rfl,rfl⟩ -)|fail)<;>try simp only [go_sem,seval,hd,hg,hw,wi,ne0])
  ·refine pc_ret ?_
   have hf:=all_fail (jumpI c) c.instrs k _ hg (by rw [jumpI, ← isJ_kind];simp_all)
   simp [jumpsM,hf]
  all_goals exact ⟨k+1,rfl,by (intro j b hj;simp only [Hp.upd,Hp.del,Sym.nil,baseH,optH] at hj ⊢;(repeat' split at hj)<;>(repeat' split)<;>first|exact hj|(exfalso;omega)|cases hj),inv ⟨by omega,by omega,by rw [all_take (jumpI c) _ k _ hg he,jumpI, ← isJ_kind];simp_all⟩,by omega⟩
 ·have hd:decide ((k:Int)<c.instrs.length)=false:=by simpa using hlt
  have hall:=all_done (jumpI c) c.instrs k (by omega) he
  repeat' ((first|with_reducible refine wr ?_|((with_reducible refine wb2 ?_ ?_)<;>(intro hb;try simp only [hb]))|((with_reducible refine AC.call (PC.lend cf rfl (g_cap c _ _)) ?_);rintro _ _ _ ⟨rfl,rfl,rfl⟩ -)|fail)<;>try simp only [go_sem,seval,hd])
  refine pc_ret ?_
  simp [jumpsM,hall]
theorem c_bparts (c:Prg) (hl:Lim c) (hs:∀ s∈c.strings,s.length≤140737488355328):PC Tryz.prog 71 [c.v] (.bool (partsM c)):=by
 have hl0:=hl
 obtain ⟨wp,wv,ws,wi,wt,we,li,ls,le,lp,lv⟩:=hl
 have cf1:=c_CF_str (g:=fun s => !printM s) (a:=[]) (cs:=[]) c.strings (by omega) rfl rfl (fun s h=>c_p1 s (hs s h))
 have cf2:=c_CF_int (g:=fun n => !inM n 0 99) (a:=[]) (cs:=[]) c.prios (by omega) rfl rfl (fun n _=>c_p2 n)
 have cf3:=c_CF_int (g:=fun n => !inM n (-2147483647) 2147483647) (a:=[]) (cs:=[]) c.vars (by omega) rfl rfl (fun n _=>c_p3 n)
 have cf4:=c_CF_ent (g:=fun e => !entryM c e) (a:=[]) (cs:=[.fptr c.cs]) c.entries (by omega) rfl (by simp [DV.nlL,DV.nl,nlL_ints,nlL_strs,nlL_instrs,nlL_entries]) (fun e _=>c_p4 c hl0 e)
 rw [any_not] at cf1 cf2 cf3 cf4
 have main:∀ (b:Bool) (cc:Nat),1≤cc→b = !(c.strings.all printM && c.prios.all (fun n=>inM n 0 99) && c.vars.all (fun n=>inM n (-2147483647) 2147483647) && c.entries.all (entryM c)) →
   IW Tryz.prog 59 (.loop u71_6) ⟨tm [(1,.ptr 0 0),(3,.bool b),(28,inssV c.instrs),(29,I64 c.instrs.length),(30,I64 0)],nil.upd 0 ⟨0,true,c.cs⟩,cc⟩ (bk 0 (sq Tryz.prog 59 u71_13 (rt [.tmp 2] fun v H' x => ∃ H2,GL H' [v] H2 [.bool (partsM c)]))):=by
  intro b cc h1c hbG
  refine i_loop (fun k:Nat=>[(1,.ptr 0 0),(3,.bool (b || !(c.instrs.take k).all (numberM c))),(28,inssV c.instrs),(29,I64 c.instrs.length),(30,I64 k)]) (fun _=>nil.upd 0 ⟨0,true,c.cs⟩) (fun k cc=>1≤cc∧k≤c.instrs.length) (fun k=>c.instrs.length-k) 0 (by simp [tmLe,tm,Tm.upd]) (Sub.refl _) (by simp;omega) ?_
  rintro k cc ⟨h1c,hk⟩
  have ne0:¬0=cc∧¬cc=0:=by and_intros<;>omega
  by_cases hlt:k<c.instrs.length
  ·have hd:decide ((k:Int)<c.instrs.length)=true:=by simpa using hlt
   have hg:=List.getElem?_eq_getElem hlt
   have hw:=w64 (n:=(k:Int)+1) (by omega) (by omega)
   have hta:=all_take' (numberM c) c.instrs k _ hg
   rw [number_span] at hta
   clear hbG
   generalize hB:(b || !(c.instrs.take k).all (numberM c))=B
   repeat' ((first|with_reducible refine wr ?_|((with_reducible refine wb2 ?_ ?_)<;>(intro hb;try simp only [hb]))|((with_reducible refine AC.call ((c_isJ _).at _ _) ?_);rintro _ _ _ ⟨rfl,rfl,rfl⟩ -)|((with_reducible refine AC.call ((c_within _ _ _).at _ _) ?_);rintro _ _ _ ⟨rfl,rfl,rfl⟩ -)|((with_reducible refine AC.call ((c_span c hl0 _).at _ _) ?_);rintro _ _ _ ⟨rfl,rfl,rfl⟩ -)|fail)<;>try simp only [go_sem,seval,hd,hg,hw,ne0])
   all_goals exact ⟨k+1,by rw [hta,step_bad,hB];simp_all,by (intro j b hj;simp only [Hp.upd,Hp.del,Sym.nil,baseH,optH] at hj ⊢;(repeat' split at hj)<;>(repeat' split)<;>first|exact hj|(exfalso;omega)|cases hj),inv ⟨by omega,hlt⟩,by omega⟩
  ·have hd:decide ((k:Int)<c.instrs.length)=false:=by simpa using hlt
   repeat' ((first|with_reducible refine wr ?_|((with_reducible refine wb2 ?_ ?_)<;>(intro hb;try simp only [hb]))|fail)<;>try simp only [go_sem,seval,hd])
   refine pc_ret ?_
   rw [List.take_of_length_le (by omega)]
   simp only [partsM,hbG]
   simp only [Bool.not_or,Bool.not_not]
 refine PC.of mixedU isU71 (Nat.le_of_ble_eq_true rfl) (by simp [DV.nlL,DV.nl,nlL_ints,nlL_strs,nlL_instrs,nlL_entries,nlL_stp]) (by simp [DV.nlL,DV.nl,nlL_ints,nlL_strs,nlL_instrs,nlL_entries,nlL_stp]) ?_
 show IW Tryz.prog 59 u71_1 ⟨argT _,_,_⟩ (rt [.tmp 2] _)
 repeat' ((first|with_reducible refine wr ?_|((with_reducible refine wb2 ?_ ?_)<;>(intro hb;try simp only [hb]))|((with_reducible refine AC.call ((cf1).at _ _) ?_);rintro _ _ _ ⟨rfl,rfl,rfl⟩ -)|((with_reducible refine AC.call ((cf2).at _ _) ?_);rintro _ _ _ ⟨rfl,rfl,rfl⟩ -)|((with_reducible refine AC.call ((cf3).at _ _) ?_);rintro _ _ _ ⟨rfl,rfl,rfl⟩ -)|((with_reducible refine AC.call (PC.lend cf4 rfl (g_cap c _ _)) ?_);rintro _ _ _ ⟨rfl,rfl,rfl⟩ -)|fail)<;>try simp only [go_sem,seval])
 all_goals (refine main _ _ (by omega) ?_;simp only [Bool.not_eq_true',Bool.not_eq_false'] at *;simp only [*,Bool.and_true,Bool.true_and,Bool.false_and,Bool.and_false,Bool.not_true,Bool.not_false])
end Go.Proofs.YtcallbfckjlagaaGreat
namespace Go.Proofs.YtcallbfckjlagaaGreat
open Go.Eng (IC IOper DReg IFn IsFn)
open Go.Sym Go.Pb
theorem c_reach (c:Prg) (h:List Int) (wk:List Nat) (o:Option Nat) (junk:List DV) (H:Hp) (cc:Nat) (p:Nat) (x:Int) (hS:WkS c h wk o junk H cc) (hw:wk.length≤100000) :
  AC Tryz.prog 109 [I64 (p:Int),I64 x,.ptr 2 0,.ptr 3 0] H cc (fun v H' c'=>match reachM h wk p x with
   | none=>v=.bool false
   | some (h',wk')=>v=.bool true∧∃ o' junk',WkS c h' wk' o' junk' H' c'∧∀ j,4≤j→j<cc→o≠some j→H' j=H j):=by
 obtain ⟨h0,h1,h2,h3,hn,hs,hc⟩:=hS
 refine AC.body mixedU isU109 (Nat.le_of_ble_eq_true rfl) fun hfr=>?_
 show IW Tryz.prog 43 u109_1 ⟨argT _,_,_⟩ (rt [.tmp 6] _)
 by_cases hp:h.length≤p
 ·have hd:decide ((p:Int)≥h.length)=true:=by simp;omega
  have hr:reachM h wk p x=none:=by rw [reachM,if_pos (.inl hp)]
  repeat' ((first|with_reducible refine wr ?_|((with_reducible refine wb2 ?_ ?_)<;>(intro hb;try simp only [hb]))|fail)<;>try simp only [go_sem,seval,h1,h2,h3,hd])
  exact ⟨_,_,GL.refl _ _,by rw [hr]⟩
 have hp':p<h.length:=by omega
 have hd:decide ((p:Int)≥h.length)=false:=by simp;omega
 have hg:=List.getElem?_eq_getElem hp'
 have hgd:h.getD p 0=h[p]:=by simp [List.getD,hg]
 have hput:=put_map (f:=I64) (l:=h) (n:=p) (a:=x) hp'
 have hle:p+1≤h.length:=hp'
 rcases o with _|id
 ·obtain rfl:=hn rfl
  have ne0:¬0=cc∧¬0=cc+1∧¬1=cc∧¬1=cc+1∧¬2=cc∧¬2=cc+1∧¬3=cc∧¬3=cc+1∧¬cc=0∧¬cc=1∧¬cc=2∧¬cc=3∧¬cc=cc+1∧¬cc+1=0∧¬cc+1=1∧¬cc+1=2∧¬cc+1=3∧¬cc+1=cc:=by and_intros<;>omega
  repeat' ((first|with_reducible refine wr ?_|((with_reducible refine wb2 ?_ ?_)<;>(intro hb;try simp only [hb]))|((with_reducible refine k_eval (r_appn' (by decide) (by decide) (by decide)) ?_))|fail)<;>try simp only [go_sem,seval,h1,h2,h3,hd,hp',hg,hput,hle,List.length_nil,ne0])
  ·have hr:reachM h [] p x=none:=by simp_all [reachM]
   exact ⟨_,_,GL.refl _ _,by rw [hr]⟩
  ·have hr:reachM h [] p x=none:=by simp_all [reachM]
   exact ⟨_,_,GL.refl _ _,by rw [hr]⟩
  ·exfalso;simp at *;omega
  ·have hr:reachM h [] p x=some (h,[]):=by simp_all [reachM]<;>omega
   refine ⟨_,_,GL.refl _ _,?_⟩
   rw [hr]
   exact ⟨rfl,none,junk,⟨h0,h1,h2,h3,hn,hs,hc⟩,fun _ _ _ _=>rfl⟩
  ·have hr:reachM h [] p x=some (h.set p x,p :: []):=by simp_all [reachM]<;>omega
   refine ⟨_,_,GL.refl _ _,?_⟩
   rw [hr]
   refine ⟨rfl,some (cc+1),[],⟨?_,?_,?_,?_,by simp,fun i hi=>?_,by omega⟩,fun j hj1 hj2 hj3=>?_⟩
   ·simp only [go_sem,seval,ne0,h0]
   ·simp only [go_sem,seval,ne0]
   ·simp only [go_sem,seval,ne0,h2,List.length_set]
   ·simp only [go_sem,seval,ne0]
   ·cases hi
    refine ⟨by omega,by omega,?_⟩
    simp only [go_sem,seval,ne0,wkC_cons]
    try rfl
   ·have k1:¬ j=1:=by omega
    have k2:¬ j=3:=by omega
    have k3:¬ j=cc:=by omega
    have k4:¬ j=cc+1:=by omega
    simp only [go_sem,seval,k1,k2,k3,k4]
  ·exfalso;simp at *;omega
 ·obtain ⟨i2,i3,hi4⟩:=hs id rfl
  have ne0:¬0=id∧¬0=cc∧¬0=cc+1∧¬1=id∧¬1=cc∧¬1=cc+1∧¬2=id∧¬2=cc∧¬2=cc+1∧¬3=id∧¬3=cc∧¬3=cc+1∧¬id=0∧¬id=1∧¬id=2∧¬id=3∧¬id=cc∧¬id=cc+1∧¬cc=0∧¬cc=1∧¬cc=2∧¬cc=3∧¬cc=id∧¬cc=cc+1∧¬cc+1=0∧¬cc+1=1∧¬cc+1=2∧¬cc+1=3∧¬cc+1=id∧¬cc+1=cc:=by and_intros<;>omega
  have hmx:wk.length+1≤maxLen:=by simp only [maxLen];omega
  have hcl:wk.length * 1≤(wkC wk++junk).length:=by simp [wkC_len]
  have htake:(wkC wk++junk).take (wk.length)=wkC wk:=List.take_left' (wkC_len wk)
  repeat' ((first|with_reducible refine wr ?_|((with_reducible refine wb2 ?_ ?_)<;>(intro hb;try simp only [hb]))|((with_reducible refine k_eval (b_app hcl (by omega) hmx) ?_))|fail)<;>try simp only [go_sem,seval,h1,h2,h3,hi4,hd,hp',hg,hput,hle,htake,ne0])
  ·have hr:reachM h wk p x=none:=by simp_all [reachM]
   exact ⟨_,_,GL.refl _ _,by rw [hr]⟩
  ·have hr:reachM h wk p x=none:=by simp_all [reachM]
   exact ⟨_,_,GL.refl _ _,by rw [hr]⟩
  ·exfalso;simp at *;omega
  ·have hr:reachM h wk p x=some (h,wk):=by simp_all [reachM]<;>omega
   refine ⟨_,_,GL.refl _ _,?_⟩
   rw [hr]
   exact ⟨rfl,some id,junk,⟨h0,h1,h2,h3,hn,hs,hc⟩,fun _ _ _ _=>rfl⟩
  ·have hr:reachM h wk p x=some (h.set p x,p :: wk):=by simp_all [reachM]<;>omega
   refine ⟨_,_,GL.refl _ _,?_⟩
   rw [hr]
   refine ⟨rfl,some (cc+1),[],⟨?_,?_,?_,?_,by simp,fun i hi=>?_,by omega⟩,fun j hj1 hj2 hj3=>?_⟩
   ·simp only [go_sem,seval,ne0,h0]
   ·simp only [go_sem,seval,ne0]
   ·simp only [go_sem,seval,ne0,h2,List.length_set]
   ·simp only [go_sem,seval,ne0]
   ·cases hi
    refine ⟨by omega,by omega,?_⟩
    simp only [go_sem,seval,ne0,wkC_cons]
    try rfl
   ·have hj4:¬ j=id:=fun e=>hj3 (by rw [e])
    have k1:¬ j=1:=by omega
    have k2:¬ j=3:=by omega
    have k3:¬ j=cc:=by omega
    have k4:¬ j=cc+1:=by omega
    simp only [go_sem,seval,hj4,k1,k2,k3,k4]
  ·exfalso;simp at *;omega
theorem c_reach' (c:Prg) (h:List Int) (wk:List Nat) (o:Option Nat) (junk:List DV) (H:Hp) (cc:Nat) (p:Int) (x:Int) (hp:0≤p) (hS:WkS c h wk o junk H cc) (hw:wk.length≤100000) :
  AC Tryz.prog 109 [I64 p,I64 x,.ptr 2 0,.ptr 3 0] H cc (fun v H' c'=>(reachM h wk p.toNat x=none∧v=.bool false) ∨
   ∃ h' wk' o' junk',reachM h wk p.toNat x=some (h',wk')∧v=.bool true∧WkS c h' wk' o' junk' H' c'∧∀ j,4≤j→j<cc→o≠some j→H' j=H j):=by
 have hpp:(p.toNat:Int)=p:=by omega
 have key:=c_reach c h wk o junk H cc p.toNat x hS hw
 rw [hpp] at key
 refine key.mono fun v H' c' hq=>?_
 cases hr:reachM h wk p.toNat x with
 | none=>rw [hr] at hq;exact .inl ⟨rfl,hq⟩
 | some q =>
  obtain ⟨h',wk'⟩:=q
  rw [hr] at hq
  obtain ⟨e,o',junk',s1,s2⟩:=hq
  exact .inr ⟨h',wk',o',junk',rfl,e,s1,s2⟩
end Go.Proofs.YtcallbfckjlagaaGreat
namespace Go.Proofs.YtcallbfckjlagaaGreat
open Go.Eng (IC IOper DReg IFn IsFn)
open Go.Sym Go.Pb
abbrev clo:DV:=.func 109 [] [.ptr 2 0,.ptr 3 0]
theorem l_heightsP (c:Prg) (hl:Lim c) (hj:jumpsM c=true) (r:Option (List Int)) (n:Nat) (h:List Int) (wk:List Nat) (o:Option Nat) (junk:List DV) (cc:Nat) (hc4:4≤cc) (hn:o=none→wk=[]) (hs:∀ i,o=some i→4≤i∧i<cc)
  (hI:WkI c.instrs.length h wk) (hb:wk.length+2 * n≤60000) (hr:hgtP c n h wk=some r) :
  IW Tryz.prog 150 (.loop u74_26) ⟨tm [(1,.ptr 0 0),(4,.ptr 2 0),(6,.ptr 3 0),(7,clo)],WH c h wk o junk,cc⟩ (bk 4 (sq Tryz.prog 150 u74_55 (rt [.tmp 2,.tmp 3] fun v H' x => ∃ H2,GL H' [v] H2 [hgtV r]))):=by
 have hjI:∀ i∈c.instrs,i.op=12∨i.op=13∨i.op=14→0≤i.A∧i.A≤(c.instrs.length:Int)-1:=by
  intro i hi hop
  simp only [jumpsM,Bool.and_eq_true,List.all_eq_true] at hj
  have:=hj.1 i hi
  have hk:(effM i.op).2.2=7:=by rcases hop with e|e|e<;>rw [e]<;>decide
  simpa [jumpI,hk,inM] using this
 obtain ⟨wp,wv,ws,wi,wt,we,li,ls,le,lp,lv⟩:=hl
 refine i_loop (fun q:Nat × List Int × List Nat × Option Nat × List DV=>[(1,.ptr 0 0),(4,.ptr 2 0),(6,.ptr 3 0),(7,clo)])
  (fun q=>WH c q.2.1 q.2.2.1 q.2.2.2.1 q.2.2.2.2)
  (fun q cc=>4≤cc∧(q.2.2.2.1=none→q.2.2.1=[])∧(∀ i,q.2.2.2.1=some i→4≤i∧i<cc)∧WkI c.instrs.length q.2.1 q.2.2.1∧q.2.2.1.length+2 * q.1≤60000∧hgtP c q.1 q.2.1 q.2.2.1=some r)
  (fun q=>q.1) (n,h,wk,o,junk) ⟨rfl,rfl,rfl,rfl,trivial⟩ (Sub.refl _) ⟨hc4,hn,hs,hI,hb,hr⟩ ?_
 clear hc4 hn hs hI hb hr
 rintro ⟨n,h,wk,o,junk⟩ cc ⟨hc4,hn,hs,hI,hb,hr⟩
 simp only at hn hs hI hb hr
 obtain ⟨m,rfl⟩:∃ m,n=m+1:=by
  cases n with
  | zero=>cases hr
  | succ m=>exact ⟨m,rfl⟩
 have hS:=WkS.mk' (c:=c) (h:=h) (junk:=junk) hn hs hc4
 rcases wk with _|⟨p,wk⟩
 ·simp only [hgtP,Option.some.injEq] at hr
  subst hr
  have hlen:lenR (todoV o 0)=some (I64 0):=by cases o<;>rfl
  repeat' ((first|with_reducible refine wr ?_|((with_reducible refine wb2 ?_ ?_)<;>(intro hb;try simp only [hb]))|fail)<;>try simp only [go_sem,seval,hS.h0,hS.h1,hS.h2,hS.h3,hlen,List.length_nil])
  exact pc_slc2 (u:=1) hS.h1 rfl (by simp) (ints_unit h) ⟨[],by rw [cells_ints,List.append_nil]⟩
 rcases o with _|id
 ·exact absurd (hn rfl) (by simp)
 obtain ⟨i2,i3⟩:=hs id rfl
 have hbl:=(hS.hs id rfl).2.2
 rw [List.length_cons] at hb
 have hpos:decide (((wk.length+1:Nat):Int)>0)=true:=by simp
 have hw:=w64 (n:=(((wk.length+1:Nat):Int)-1)) (by omega) (by omega)
 have hw1:(((wk.length+1:Nat):Int)-1)=(wk.length:Int):=by omega
 rw [hw1] at hw
 obtain ⟨s1,s2,s3⟩:=hI.mem p List.mem_cons_self
 have hIt:WkI c.instrs.length h wk:=⟨hI.hl,fun q hq=>hI.mem q (List.mem_cons_of_mem _ hq)⟩
 have hlen:=hI.hl
 have hp':p<h.length:=by omega
 have hgh:=List.getElem?_eq_getElem hp'
 have hgi:=List.getElem?_eq_getElem s1
 have eh:h.getD p 0=h[p]:=by simp [List.getD,hgh]
 have ei:c.instrs.getD p ⟨0,0⟩=c.instrs[p]:=by simp [List.getD,hgi]
 simp only [hgtP] at hr
 rw [eh] at s2 s3
 rw [eh,ei] at hr
 obtain ⟨b1,b2,b3,b4⟩:=eff_bd c.instrs[p].op
 have w2:=w64 (n:=h[p]-(effM c.instrs[p].op).1) (by omega) (by omega)
 have w3:=w64 (n:=h[p]-(effM c.instrs[p].op).1+(effM c.instrs[p].op).2.1) (by omega) (by omega)
 have hcell:(wkC (p :: wk)++junk)[wk.length]? = some (I64 (p:Int)):=by
  rw [wkC_cons,List.append_assoc,List.getElem?_append_right (by simp [wkC_len]),wkC_len];simp
 have hblen:wk.length+1≤(wkC (p :: wk)++junk).length:=by simp [wkC_len]
 have ne0:¬0=id∧¬0=cc∧¬0=cc+1∧¬1=id∧¬1=cc∧¬1=cc+1∧¬2=id∧¬2=cc∧¬2=cc+1∧¬3=id∧¬3=cc∧¬3=cc+1∧¬id=0∧¬id=1∧¬id=2∧¬id=3∧¬id=cc∧¬id=cc+1∧¬cc=0∧¬cc=1∧¬cc=2∧¬cc=3∧¬cc=id∧¬cc=cc+1∧¬cc+1=0∧¬cc+1=1∧¬cc+1=2∧¬cc+1=3∧¬cc+1=id∧¬cc+1=cc:=by and_intros<;>omega
 by_cases hok:¬ h[p]≥(effM c.instrs[p].op).1
 ·rw [if_pos (.inl (by omega))] at hr
  cases hr
  have hok':decide (h[p]≥(effM c.instrs[p].op).1)=false:=by simpa using hok
  repeat' ((first|with_reducible refine wr ?_|((with_reducible refine wb2 ?_ ?_)<;>(intro hb;try simp only [hb]))|((with_reducible refine AC.call ((c_stack _).at _ _) ?_);rintro _ _ _ ⟨rfl,rfl,rfl⟩ -)|fail)<;>try simp only [go_sem,seval,hS.h0,hS.h1,hS.h2,hS.h3,hbl,List.length_cons,hw1,hw,hpos,hcell,hblen,hgh,hgi,s1,hp',hlen,w2,w3,hok',Nat.lt_add_one,Nat.le_add_right,ne0])
  all_goals exact pc_snil2
 have hok1:h[p]≥(effM c.instrs[p].op).1:=by omega
 have hok':decide (h[p]≥(effM c.instrs[p].op).1)=true:=by simpa using hok1
 have hwp:=w64 (n:=(p:Int)+1) (by omega) (by omega)
 have hpp:((p:Int)+1).toNat=p+1:=by omega
 by_cases e31:c.instrs[p].op=31
 ·have o31:(c.instrs[p].op == 31)=true:=by simpa using e31
  by_cases hz:h[p]=0
  ·have hz':(h[p] == 0)=true:=by simpa using hz
   rw [if_neg (by omega)] at hr
   have hA:afterM c.instrs[p] p h[p]=[]:=by simp [afterM,e31]
   rw [hA] at hr
   simp only [reachL] at hr
   repeat' ((first|with_reducible refine wr ?_|((with_reducible refine wb2 ?_ ?_)<;>(intro hb;try simp only [hb]))|((with_reducible refine AC.call ((c_stack _).at _ _) ?_);rintro _ _ _ ⟨rfl,rfl,rfl⟩ -)|fail)<;>try simp only [go_sem,seval,hS.h0,hS.h1,hS.h2,hS.h3,hbl,List.length_cons,hw1,hw,hpos,hcell,hblen,hgh,hgi,s1,hp',hlen,w2,w3,hok',Nat.lt_add_one,Nat.le_add_right,ne0,o31,hz'])
   have hS':=(hS.pop.upd ⟨0,true,[DV.int IntKind.i64 0,DV.int IntKind.i64 0]⟩ (Nat.le_refl _) (Nat.le_refl _)).upd ⟨0,true,[I64 c.instrs[p].op,I64 c.instrs[p].A]⟩ (Nat.le_refl _) (Nat.le_succ _)
   exact ⟨(m,h,wk,some id,I64 (p:Int) :: junk),hS'.sub,inv ⟨hS'.hc,hS'.hn,fun i hi=>⟨(hS'.hs i hi).1,(hS'.hs i hi).2.1⟩,hIt,by simp only;omega,hr⟩,by simp only;omega⟩
  ·have hz':(h[p] == 0)=false:=by simpa using hz
   rw [if_pos (.inr ⟨e31,hz⟩)] at hr
   cases hr
   repeat' ((first|with_reducible refine wr ?_|((with_reducible refine wb2 ?_ ?_)<;>(intro hb;try simp only [hb]))|((with_reducible refine AC.call ((c_stack _).at _ _) ?_);rintro _ _ _ ⟨rfl,rfl,rfl⟩ -)|fail)<;>try simp only [go_sem,seval,hS.h0,hS.h1,hS.h2,hS.h3,hbl,List.length_cons,hw1,hw,hpos,hcell,hblen,hgh,hgi,s1,hp',hlen,w2,w3,hok',Nat.lt_add_one,Nat.le_add_right,ne0,o31,hz'])
   exact pc_snil2
 have o31:(c.instrs[p].op == 31)=false:=by simpa using e31
 rw [if_neg (by omega)] at hr
 by_cases e12:c.instrs[p].op=12
 ·have o12:(c.instrs[p].op == 12)=true:=by simpa using e12
  have p1:=(hjI _ (List.getElem_mem s1) (.inl e12)).1
  have hE:effM c.instrs[p].op=(0,0,7):=by rw [e12];decide
  have hA:afterM c.instrs[p] p h[p]=[(c.instrs[p].A.toNat,h[p])]:=by simp [afterM,e12]
  have hx:h[p]-(effM c.instrs[p].op).1+(effM c.instrs[p].op).2.1=h[p]:=by rw [hE];simp
  repeat' ((first|with_reducible refine wr ?_|((with_reducible refine wb2 ?_ ?_)<;>(intro hb;try simp only [hb]))|((with_reducible refine AC.call ((c_stack _).at _ _) ?_);rintro _ _ _ ⟨rfl,rfl,rfl⟩ -)|fail)<;>try simp only [go_sem,seval,hS.h0,hS.h1,hS.h2,hS.h3,hbl,List.length_cons,hw1,hw,hpos,hcell,hblen,hgh,hgi,s1,hp',hlen,w2,w3,hok',Nat.lt_add_one,Nat.le_add_right,ne0,o31,o12])
  refine AC.call (c_reach' c h wk (some id) _ _ _ (c.instrs[p].A) _ (p1) ((hS.pop.upd _ (Nat.le_refl _) (Nat.le_refl _)).upd _ (Nat.le_refl _) (Nat.le_succ _)) (by omega)) ?_
  rintro v H' c' hq hcc
  rw [hA] at hr
  rw [hx] at hq
  rcases hq with ⟨hr0,rfl⟩|⟨h',wk',o',junk',hr1,rfl,hS',hfr⟩
  ·simp only [reachL,hr0] at hr
   cases hr
   simp only [go_sem,seval]
   repeat' ((first|with_reducible refine wr ?_|((with_reducible refine wb2 ?_ ?_)<;>(intro hb;try simp only [hb]))|fail)<;>try simp only [go_sem,seval])
   exact pc_snil2
  ·simp only [reachL,hr1] at hr
   obtain ⟨hI',hwk'⟩:=reach_inv hIt s2 hr1
   simp only [go_sem,seval]
   repeat' ((first|with_reducible refine wr ?_|((with_reducible refine wb2 ?_ ?_)<;>(intro hb;try simp only [hb]))|fail)<;>try simp only [go_sem,seval])
   exact ⟨(m,h',wk',o',junk'),hS'.sub,inv ⟨hS'.hc,hS'.hn,fun i hi=>⟨(hS'.hs i hi).1,(hS'.hs i hi).2.1⟩,hI',by simp only;omega,hr⟩,by simp only;omega⟩
 have o12:(c.instrs[p].op == 12)=false:=by simpa using e12
 by_cases e13:c.instrs[p].op=13
 ·have o13:(c.instrs[p].op == 13)=true:=by simpa using e13
  have p1:=(hjI _ (List.getElem_mem s1) (.inr (.inl e13))).1
  have hE:effM c.instrs[p].op=(1,0,7):=by rw [e13];decide
  have hA:afterM c.instrs[p] p h[p]=[(p+1,h[p]-1),(c.instrs[p].A.toNat,h[p]-1)]:=by simp [afterM,e13]
  have hx:h[p]-(effM c.instrs[p].op).1+(effM c.instrs[p].op).2.1=h[p]-1:=by rw [hE];simp
  have hge:0≤h[p]-1:=by rw [hE] at hok1;simp only at hok1;omega
  repeat' ((first|with_reducible refine wr ?_|((with_reducible refine wb2 ?_ ?_)<;>(intro hb;try simp only [hb]))|((with_reducible refine AC.call ((c_stack _).at _ _) ?_);rintro _ _ _ ⟨rfl,rfl,rfl⟩ -)|fail)<;>try simp only [go_sem,seval,hS.h0,hS.h1,hS.h2,hS.h3,hbl,List.length_cons,hw1,hw,hpos,hcell,hblen,hgh,hgi,s1,hp',hlen,w2,w3,hok',Nat.lt_add_one,Nat.le_add_right,ne0,o31,o12,o13,hwp])
  refine AC.call (c_reach' c h wk (some id) _ _ _ ((p:Int)+1) _ (by omega) ((hS.pop.upd _ (Nat.le_refl _) (Nat.le_refl _)).upd _ (Nat.le_refl _) (Nat.le_succ _)) (by omega)) ?_
  rintro v H' c' hq hcc
  rw [hA] at hr
  rw [hx] at hq
  rw [hpp] at hq
  rcases hq with ⟨hr0,rfl⟩|⟨h',wk',o',junk',hr1,rfl,hS',hfr⟩
  ·simp only [reachL,hr0] at hr
   cases hr
   simp only [go_sem,seval]
   repeat' ((first|with_reducible refine wr ?_|((with_reducible refine wb2 ?_ ?_)<;>(intro hb;try simp only [hb]))|fail)<;>try simp only [go_sem,seval])
   exact pc_snil2
  ·obtain ⟨hI',hwk'⟩:=reach_inv hIt hge hr1
   simp only [reachL,hr1] at hr
   have hbox:=(hfr cc hc4 (Nat.lt_succ_self _) (by simp;omega)).trans h_same
   simp only [go_sem,seval,hbox,o31,o12,o13,hwp]
   repeat' ((first|with_reducible refine wr ?_|((with_reducible refine wb2 ?_ ?_)<;>(intro hb;try simp only [hb]))|fail)<;>try simp only [go_sem,seval,hbox,o31,o12,o13,hwp])
   refine AC.call (c_reach' c h' wk' o' junk' _ _ c.instrs[p].A _ p1 hS' (by omega)) ?_
   rintro v H2 c2 hq hcc2
   rw [hx] at hq
   rcases hq with ⟨hr0,rfl⟩|⟨h2,wk2,o2,junk2,hr2,rfl,hS2,hfr2⟩
   ·simp only [hr0] at hr
    cases hr
    simp only [go_sem,seval]
    repeat' ((first|with_reducible refine wr ?_|((with_reducible refine wb2 ?_ ?_)<;>(intro hb;try simp only [hb]))|fail)<;>try simp only [go_sem,seval])
    exact pc_snil2
   ·simp only [hr2] at hr
    obtain ⟨hI2,hwk2⟩:=reach_inv hI' hge hr2
    simp only [go_sem,seval]
    repeat' ((first|with_reducible refine wr ?_|((with_reducible refine wb2 ?_ ?_)<;>(intro hb;try simp only [hb]))|fail)<;>try simp only [go_sem,seval])
    exact ⟨(m,h2,wk2,o2,junk2),hS2.sub,inv ⟨hS2.hc,hS2.hn,fun i hi=>⟨(hS2.hs i hi).1,(hS2.hs i hi).2.1⟩,hI2,by simp only;omega,hr⟩,by simp only;omega⟩
 have o13:(c.instrs[p].op == 13)=false:=by simpa using e13
 by_cases e14:c.instrs[p].op=14
 ·have o14:(c.instrs[p].op == 14)=true:=by simpa using e14
  have p1:=(hjI _ (List.getElem_mem s1) (.inr (.inr e14))).1
  have hE:effM c.instrs[p].op=(1,1,7):=by rw [e14];decide
  have hA:afterM c.instrs[p] p h[p]=[(p+1,h[p]),(c.instrs[p].A.toNat,h[p]-1)]:=by simp [afterM,e14]
  have hx:h[p]-(effM c.instrs[p].op).1+(effM c.instrs[p].op).2.1=h[p]:=by rw [hE];simp
  have hge:0≤h[p]-1:=by rw [hE] at hok1;simp only at hok1;omega
  have w4:=w64 (n:=h[p]-(effM c.instrs[p].op).1+(effM c.instrs[p].op).2.1-1) (by omega) (by omega)
  repeat' ((first|with_reducible refine wr ?_|((with_reducible refine wb2 ?_ ?_)<;>(intro hb;try simp only [hb]))|((with_reducible refine AC.call ((c_stack _).at _ _) ?_);rintro _ _ _ ⟨rfl,rfl,rfl⟩ -)|fail)<;>try simp only [go_sem,seval,hS.h0,hS.h1,hS.h2,hS.h3,hbl,List.length_cons,hw1,hw,hpos,hcell,hblen,hgh,hgi,s1,hp',hlen,w2,w3,hok',Nat.lt_add_one,Nat.le_add_right,ne0,o31,o12,o13,o14,hwp,w4])
  refine AC.call (c_reach' c h wk (some id) _ _ _ ((p:Int)+1) _ (by omega) ((hS.pop.upd _ (Nat.le_refl _) (Nat.le_refl _)).upd _ (Nat.le_refl _) (Nat.le_succ _)) (by omega)) ?_
  rintro v H' c' hq hcc
  rw [hA] at hr
  rw [hx] at hq
  rw [hpp] at hq
  rcases hq with ⟨hr0,rfl⟩|⟨h',wk',o',junk',hr1,rfl,hS',hfr⟩
  ·simp only [reachL,hr0] at hr
   cases hr
   simp only [go_sem,seval]
   repeat' ((first|with_reducible refine wr ?_|((with_reducible refine wb2 ?_ ?_)<;>(intro hb;try simp only [hb]))|fail)<;>try simp only [go_sem,seval])
   exact pc_snil2
  ·obtain ⟨hI',hwk'⟩:=reach_inv hIt s2 hr1
   simp only [reachL,hr1] at hr
   have hbox:=(hfr cc hc4 (Nat.lt_succ_self _) (by simp;omega)).trans h_same
   simp only [go_sem,seval,hbox,o31,o12,o13,o14,hwp,w4]
   repeat' ((first|with_reducible refine wr ?_|((with_reducible refine wb2 ?_ ?_)<;>(intro hb;try simp only [hb]))|fail)<;>try simp only [go_sem,seval,hbox,o31,o12,o13,o14,hwp,w4])
   refine AC.call (c_reach' c h' wk' o' junk' _ _ c.instrs[p].A _ p1 hS' (by omega)) ?_
   rintro v H2 c2 hq hcc2
   rw [hx] at hq
   rcases hq with ⟨hr0,rfl⟩|⟨h2,wk2,o2,junk2,hr2,rfl,hS2,hfr2⟩
   ·simp only [hr0] at hr
    cases hr
    simp only [go_sem,seval]
    repeat' ((first|with_reducible refine wr ?_|((with_reducible refine wb2 ?_ ?_)<;>(intro hb;try simp only [hb]))|fail)<;>try simp only [go_sem,seval])
    exact pc_snil2
   ·simp only [hr2] at hr
    obtain ⟨hI2,hwk2⟩:=reach_inv hI' hge hr2
    simp only [go_sem,seval]
    repeat' ((first|with_reducible refine wr ?_|((with_reducible refine wb2 ?_ ?_)<;>(intro hb;try simp only [hb]))|fail)<;>try simp only [go_sem,seval])
    exact ⟨(m,h2,wk2,o2,junk2),hS2.sub,inv ⟨hS2.hc,hS2.hn,fun i hi=>⟨(hS2.hs i hi).1,(hS2.hs i hi).2.1⟩,hI2,by simp only;omega,hr⟩,by simp only;omega⟩
 have o14:(c.instrs[p].op == 14)=false:=by simpa using e14
 have hA:afterM c.instrs[p] p h[p]=[(p+1,h[p]-(effM c.instrs[p].op).1+(effM c.instrs[p].op).2.1)]:=by simp [afterM,e31,e12,e13,e14]
 have hge:0≤h[p]-(effM c.instrs[p].op).1+(effM c.instrs[p].op).2.1:=by omega
 repeat' ((first|with_reducible refine wr ?_|((with_reducible refine wb2 ?_ ?_)<;>(intro hb;try simp only [hb]))|((with_reducible refine AC.call ((c_stack _).at _ _) ?_);rintro _ _ _ ⟨rfl,rfl,rfl⟩ -)|fail)<;>try simp only [go_sem,seval,hS.h0,hS.h1,hS.h2,hS.h3,hbl,List.length_cons,hw1,hw,hpos,hcell,hblen,hgh,hgi,s1,hp',hlen,w2,w3,hok',Nat.lt_add_one,Nat.le_add_right,ne0,o31,o12,o13,o14,hwp])
 refine AC.call (c_reach' c h wk (some id) _ _ _ ((p:Int)+1) _ (by omega) ((hS.pop.upd _ (Nat.le_refl _) (Nat.le_refl _)).upd _ (Nat.le_refl _) (Nat.le_succ _)) (by omega)) ?_
 rintro v H' c' hq hcc
 rw [hA] at hr
 rw [hpp] at hq
 rcases hq with ⟨hr0,rfl⟩|⟨h',wk',o',junk',hr1,rfl,hS',hfr⟩
 ·simp only [reachL,hr0] at hr
  cases hr
  simp only [go_sem,seval]
  repeat' ((first|with_reducible refine wr ?_|((with_reducible refine wb2 ?_ ?_)<;>(intro hb;try simp only [hb]))|fail)<;>try simp only [go_sem,seval])
  exact pc_snil2
 ·simp only [reachL,hr1] at hr
  obtain ⟨hI',hwk'⟩:=reach_inv hIt hge hr1
  simp only [go_sem,seval]
  repeat' ((first|with_reducible refine wr ?_|((with_reducible refine wb2 ?_ ?_)<;>(intro hb;try simp only [hb]))|fail)<;>try simp only [go_sem,seval])
  exact ⟨(m,h',wk',o',junk'),hS'.sub,inv ⟨hS'.hc,hS'.hn,fun i hi=>⟨(hS'.hs i hi).1,(hS'.hs i hi).2.1⟩,hI',by simp only;omega,hr⟩,by simp only;omega⟩
theorem c_heightsP (c:Prg) (hl:Lim c) (hj:jumpsM c=true) (n:Nat) (hn0:n≤20000) (r:Option (List Int)) (hr:hgtP0 c n=some r):PC Tryz.prog 74 [c.v] (hgtV r):=by
 have hl0:=hl
 obtain ⟨wp,wv,ws,wi,wt,we,li,ls,le,lp,lv⟩:=hl
 have hms:=r_msl (sz:=1) (bytes:=8) (z:=[I64 0]) (k:=.i64) (k':=.i64) (n:=c.instrs.length) (by omega) (by omega) rfl rfl
 refine PC.of mixedU isU74 (Nat.le_of_ble_eq_true rfl) (by simp [DV.nlL,DV.nl,nlL_ints,nlL_strs,nlL_instrs,nlL_entries]) (by cases r<;>simp [hgtV,DV.nlL,DV.nl,nlL_ints]) ?_
 show IW Tryz.prog 150 u74_1 ⟨argT _,_,_⟩ (rt [.tmp 2,.tmp 3] _)
 repeat' ((first|with_reducible refine wr ?_|((with_reducible refine wb2 ?_ ?_)<;>(intro hb;try simp only [hb]))|fail)<;>try simp only [go_sem,seval,hms,madeL_one])
 -- every height is -1
 refine i_loop (fun k:Nat=>[(1,.ptr 0 0),(4,.ptr 2 0),(21,I64 c.instrs.length),(22,I64 k)]) (fun k=>((nil.upd 0 ⟨0,true,c.cs⟩).upd 1 ⟨1,true,(fillM c.instrs.length k).map I64⟩).upd 2 ⟨0,true,[.slc 1 0 c.instrs.length]⟩) (fun k cc=>cc=3∧k≤c.instrs.length) (fun k=>c.instrs.length-k) 0
  (by simp [tmLe,tm,Tm.upd]) (by rw [h_upd2];simpa [fillM] using Sub.refl _) (by simp) ?_
 rintro k cc ⟨rfl,hk⟩
 by_cases hlt:k<c.instrs.length
 ·have hd:decide ((k:Int)<c.instrs.length)=true:=by simpa using hlt
  have hw:=w64 (n:=(k:Int)+1) (by omega) (by omega)
  have hlen:(fillM c.instrs.length k).length=c.instrs.length:=by simp [fillM];omega
  have hle:k+1≤c.instrs.length:=hlt
  have hput:=put_map (f:=I64) (l:=fillM c.instrs.length k) (n:=k) (a := -1) (by rw [hlen];exact hlt)
  repeat' ((first|with_reducible refine wr ?_|((with_reducible refine wb2 ?_ ?_)<;>(intro hb;try simp only [hb]))|fail)<;>try simp only [go_sem,seval,hd,hw,hlen,hle,hlt,hput])
  exact ⟨k+1,rfl,by rw [fillM_succ hlt];(intro j b hj;simp only [Hp.upd,Hp.del,Sym.nil,baseH,optH] at hj ⊢;(repeat' split at hj)<;>(repeat' split)<;>first|exact hj|(exfalso;omega)|cases hj),inv ⟨rfl,hlt⟩,by omega⟩
 have hd:decide ((k:Int)<c.instrs.length)=false:=by simpa using hlt
 have hfull:fillM c.instrs.length k=List.replicate c.instrs.length (-1):=by
  have:c.instrs.length-k=0:=by omega
  have hk2:k=c.instrs.length:=by omega
  simp [fillM,this,hk2]
 repeat' ((first|with_reducible refine wr ?_|((with_reducible refine wb2 ?_ ?_)<;>(intro hb;try simp only [hb]))|fail)<;>try simp only [go_sem,seval,hd,hfull])
 clear hd hfull hlt hk
 -- the entries
 have hjE:∀ e∈c.entries,0≤e.pos∧e.pos≤(c.instrs.length:Int)-1:=by
  intro e he
  simp only [jumpsM,Bool.and_eq_true,List.all_eq_true] at hj
  have:=hj.2 e he
  simpa [jumpE,inM] using this
 refine i_loop (fun q:Nat × List Int × List Nat × Option Nat × List DV=>[(1,.ptr 0 0),(4,.ptr 2 0),(6,.ptr 3 0),(7,clo),(31,entsV c.entries),(32,I64 c.entries.length),(33,I64 q.1)])
  (fun q=>WH c q.2.1 q.2.2.1 q.2.2.2.1 q.2.2.2.2)
  (fun q cc=>4≤cc∧q.1≤c.entries.length∧(q.2.2.2.1=none→q.2.2.1=[])∧(∀ i,q.2.2.2.1=some i→4≤i∧i<cc)∧WkI c.instrs.length q.2.1 q.2.2.1∧q.2.2.1.length≤q.1∧reachL q.2.1 q.2.2.1 ((c.entries.drop q.1).map entP)=reachL (List.replicate c.instrs.length (-1)) [] (c.entries.map entP))
  (fun q=>c.entries.length-q.1) (0,List.replicate c.instrs.length (-1),[],none,[])
  (by simp [tmLe,tm,Tm.upd,todoV]) (by simpa [WH,optH,todoV] using Sub.refl _) ⟨by omega,by omega,fun _=>rfl,by simp,⟨by simp,by simp⟩,by simp,by simp⟩ ?_
 rintro ⟨k,h,wk,o,junk⟩ cc ⟨hc4,hk,hn,hs,hI,hwk,hrL⟩
 simp only at hk hn hs hI hwk hrL
 have hS:=WkS.mk' (c:=c) (h:=h) (junk:=junk) hn hs hc4
 by_cases hlt:k<c.entries.length
 ·have hd:decide ((k:Int)<c.entries.length)=true:=by simpa using hlt
  have hw:=w64 (n:=(k:Int)+1) (by omega) (by omega)
  have hg:=List.getElem?_eq_getElem hlt
  obtain ⟨p1,p2⟩:=hjE _ (List.getElem_mem hlt)
  have hpos:c.entries[k].pos=((c.entries[k].pos.toNat:Nat):Int):=by omega
  have ne0:¬0=cc∧¬0=cc+1∧¬1=cc∧¬1=cc+1∧¬2=cc∧¬2=cc+1∧¬3=cc∧¬3=cc+1∧¬cc=0∧¬cc=1∧¬cc=2∧¬cc=3∧¬cc=cc+1∧¬cc+1=0∧¬cc+1=1∧¬cc+1=2∧¬cc+1=3∧¬cc+1=cc:=by and_intros<;>omega
  repeat' ((first|with_reducible refine wr ?_|((with_reducible refine wb2 ?_ ?_)<;>(intro hb;try simp only [hb]))|fail)<;>try simp only [go_sem,seval,hd,hw,hg,hS.h0,hS.h1,hS.h2,hS.h3,ne0])
  rw [h_upd2]
  refine AC.call (c_reach' c h wk o junk _ _ c.entries[k].pos 0 p1 (hS.upd _ (Nat.le_refl _) (Nat.le_succ _)) (by omega)) ?_
  rintro v H' c' hq hcc
  rw [List.drop_eq_getElem_cons hlt,List.map_cons] at hrL
  rcases hq with ⟨hr0,rfl⟩|⟨h',wk',o',junk',hr1,rfl,hS',hfr⟩
  ·have hr2:r=none:=by
    rw [hgtP0, ← hrL] at hr
    simp only [reachL,entP,hr0] at hr
    simpa using hr.symm
   subst hr2
   simp only [go_sem,seval]
   repeat' ((first|with_reducible refine wr ?_|((with_reducible refine wb2 ?_ ?_)<;>(intro hb;try simp only [hb]))|fail)<;>try simp only [go_sem,seval])
   exact pc_snil2
  ·simp only [reachL,entP,hr1] at hrL
   obtain ⟨hI',hwk'⟩:=reach_inv hI (Int.le_refl 0) hr1
   simp only [go_sem,seval]
   repeat' ((first|with_reducible refine wr ?_|((with_reducible refine wb2 ?_ ?_)<;>(intro hb;try simp only [hb]))|fail)<;>try simp only [go_sem,seval,hw])
   exact ⟨(k+1,h',wk',o',junk'),rfl,hS'.sub,inv ⟨hS'.hc,hlt,hS'.hn,fun i hi=>⟨(hS'.hs i hi).1,(hS'.hs i hi).2.1⟩,hI',by simp only;omega,hrL⟩,by simp only;omega⟩
 have hd:decide ((k:Int)<c.entries.length)=false:=by simpa using hlt
 obtain rfl:k=c.entries.length:=by omega
 rw [List.drop_eq_nil_of_le (Nat.le_refl _)] at hrL
 rw [hgtP0, ← hrL] at hr
 simp only [List.map_nil,reachL] at hr
 repeat' ((first|with_reducible refine wr ?_|((with_reducible refine wb2 ?_ ?_)<;>(intro hb;try simp only [hb]))|fail)<;>try simp only [go_sem,seval,hd])
 exact l_heightsP c hl0 hj r n h wk o junk cc hc4 hn hs hI (by omega) hr
end Go.Proofs.YtcallbfckjlagaaGreat
namespace Go.Proofs.YtcallbfckjlagaaGreat
open Go.Eng (IC IOper DReg IFn IsFn)
open Go.Sym Go.Pb
theorem c_heightsP' (c:Prg) (hl:Lim c) (hj:jumpsM c=true):PC Tryz.prog 74 [c.v] (hgtV (hR c)) :=
 c_heightsP c hl hj 4001 (by omega) _ (hgtP_eq hl.li hj)
theorem c_verify (c:Prg) (hs:∀ s∈c.strings,s.length≤140737488355328) (n1:c.instrs.length≤9223372036854775807):PC Tryz.prog 48 [c.v] (.tup [ints (vHts c),I64 (validM c)]):=by
 by_cases hL:limitsM c=true
 ·have hl:=Lim.of hL
  have hl0:=hl
  obtain ⟨wp,wv,ws,wi,wt,we,li,ls,le,lp,lv⟩:=hl
  by_cases hp:partsM c=true
  ·by_cases hj:jumpsM c=true
   ·refine PC.of mixedU isU48 (Nat.le_of_ble_eq_true rfl) (by simp [DV.nlL,DV.nl,nlL_ints,nlL_strs,nlL_instrs,nlL_entries,nlL_stp]) (by simp [DV.nlL,DV.nl,nlL_ints,nlL_strs,nlL_instrs,nlL_entries,nlL_stp]) ?_
    show IW Tryz.prog 47 u48_1 ⟨argT _,_,_⟩ (rt [.tmp 2,.tmp 3] _)
    repeat' ((first|with_reducible refine wr ?_|((with_reducible refine wb2 ?_ ?_)<;>(intro hb;try simp only [hb]))|((with_reducible refine AC.call ((c_limits c).at _ _) ?_);rintro _ _ _ ⟨rfl,rfl,rfl⟩ -)|((with_reducible refine AC.call ((c_bparts c hl0 hs).at _ _) ?_);rintro _ _ _ ⟨rfl,rfl,rfl⟩ -)|((with_reducible refine AC.call ((c_targets c hl0).at _ _) ?_);rintro _ _ _ ⟨rfl,rfl,rfl⟩ -)|fail)<;>try simp only [go_sem,seval,hL,hp,hj])
    refine i_loop (fun k:Nat=>[(1,.ptr 0 0),(4,I64 k)]) (fun _=>nil.upd 0 ⟨0,true,c.cs⟩) (fun k cc=>1≤cc∧1≤k∧(k≤c.entries.length∨k=1)∧chainM (c.entries.take k)=true) (fun k=>c.entries.length-k) 1 (by simp [tmLe,tm,Tm.upd]) (Sub.refl _) ⟨by omega,by omega,by omega,by cases c.entries<;>rfl⟩ ?_
    rintro k cc ⟨h1c,h1k,hk,he⟩
    by_cases hlt:k<c.entries.length
    ·have hd:decide ((k:Int)<c.entries.length)=true:=by simpa using hlt
     have hg:=List.getElem?_eq_getElem hlt
     have hlt':k-1<c.entries.length:=by omega
     have hg':=List.getElem?_eq_getElem hlt'
     have hw:=w64 (n:=(k:Int)+1) (by omega) (by omega)
     have hw1:=w64 (n:=(k:Int)-1) (by omega) (by omega)
     have hw2:(k:Int)-1=((k-1:Nat):Int):=by omega
     rw [hw2] at hw1
     repeat' ((first|with_reducible refine wr ?_|((with_reducible refine wb2 ?_ ?_)<;>(intro hb;try simp only [hb]))|((with_reducible refine AC.call ((c_bless _ _).at _ _) ?_);rintro _ _ _ ⟨rfl,rfl,rfl⟩ -)|fail)<;>try simp only [go_sem,seval,hd,hg,hg',hw,hw2,hw1])
     ·have hf:=chain_fail h1k hg' hg (by simpa using hb)
      have e:validM c=66:=by simp [validM,hL,hp,hj,hf]
      simp only [vHts,e]
      exact pc_snil2
     ·exact ⟨k+1,rfl,Sub.refl _,inv ⟨by omega,by omega,by omega,by rw [chain_take h1k hg' hg he];simpa using hb⟩,by omega⟩
    ·have hd:decide ((k:Int)<c.entries.length)=false:=by simp;omega
     have hch:chainM c.entries=true:=by
      rw [List.take_of_length_le (by omega)] at he;exact he
     cases hh:hR c with
     | none =>
      have key:=c_heightsP' c hl0 hj
      rw [hh,hgtV_none] at key
      repeat' ((first|with_reducible refine wr ?_|((with_reducible refine wb2 ?_ ?_)<;>(intro hb;try simp only [hb]))|((with_reducible refine AC.call ((key).at _ _) ?_);rintro _ _ _ ⟨rfl,rfl,rfl⟩ -)|fail)<;>try simp only [go_sem,seval,hd])
      have e:validM c=53:=by simp [validM,hL,hp,hj,hch,hh]
      simp only [vHts,e]
      exact pc_snil2
     | some h =>
      have key:=c_heightsP' c hl0 hj
      rw [hh,hgtV_some] at key
      repeat' ((first|with_reducible refine wr ?_|((with_reducible refine wb2 ?_ ?_)<;>(intro hb;try simp only [hb]))|((with_reducible refine AC.call ((key).at _ _) ?_);rintro _ _ _ ⟨rfl,rfl,rfl⟩ -)|fail)<;>try simp only [go_sem,seval,hd])
      have e:validM c=0:=by simp [validM,hL,hp,hj,hch,hh]
      simp only [vHts,e,hh]
      exact pc_ret rfl
   ·have hj':jumpsM c=false:=by simpa using hj
    refine PC.of mixedU isU48 (Nat.le_of_ble_eq_true rfl) (by simp [DV.nlL,DV.nl,nlL_ints,nlL_strs,nlL_instrs,nlL_entries,nlL_stp]) (by simp [DV.nlL,DV.nl,nlL_ints,nlL_strs,nlL_instrs,nlL_entries,nlL_stp]) ?_
    show IW Tryz.prog 47 u48_1 ⟨argT _,_,_⟩ (rt [.tmp 2,.tmp 3] _)
    repeat' ((first|with_reducible refine wr ?_|((with_reducible refine wb2 ?_ ?_)<;>(intro hb;try simp only [hb]))|((with_reducible refine AC.call ((c_limits c).at _ _) ?_);rintro _ _ _ ⟨rfl,rfl,rfl⟩ -)|((with_reducible refine AC.call ((c_bparts c hl0 hs).at _ _) ?_);rintro _ _ _ ⟨rfl,rfl,rfl⟩ -)|((with_reducible refine AC.call ((c_targets c hl0).at _ _) ?_);rintro _ _ _ ⟨rfl,rfl,rfl⟩ -)|fail)<;>try simp only [go_sem,seval,hL,hp,hj'])
    have e:validM c=54:=by simp [validM,hL,hp,hj']
    simp only [vHts,e]
    exact pc_snil2
  ·have hp':partsM c=false:=by simpa using hp
   refine PC.of mixedU isU48 (Nat.le_of_ble_eq_true rfl) (by simp [DV.nlL,DV.nl,nlL_ints,nlL_strs,nlL_instrs,nlL_entries,nlL_stp]) (by simp [DV.nlL,DV.nl,nlL_ints,nlL_strs,nlL_instrs,nlL_entries,nlL_stp]) ?_
   show IW Tryz.prog 47 u48_1 ⟨argT _,_,_⟩ (rt [.tmp 2,.tmp 3] _)
   repeat' ((first|with_reducible refine wr ?_|((with_reducible refine wb2 ?_ ?_)<;>(intro hb;try simp only [hb]))|((with_reducible refine AC.call ((c_limits c).at _ _) ?_);rintro _ _ _ ⟨rfl,rfl,rfl⟩ -)|((with_reducible refine AC.call ((c_bparts c hl0 hs).at _ _) ?_);rintro _ _ _ ⟨rfl,rfl,rfl⟩ -)|fail)<;>try simp only [go_sem,seval,hL,hp'])
   have e:validM c=51:=by simp [validM,hL,hp']
   simp only [vHts,e]
   exact pc_snil2
 ·have hL':limitsM c=false:=by simpa using hL
  refine PC.of mixedU isU48 (Nat.le_of_ble_eq_true rfl) (by simp [DV.nlL,DV.nl,nlL_ints,nlL_strs,nlL_instrs,nlL_entries,nlL_stp]) (by simp [DV.nlL,DV.nl,nlL_ints,nlL_strs,nlL_instrs,nlL_entries,nlL_stp]) ?_
  show IW Tryz.prog 47 u48_1 ⟨argT _,_,_⟩ (rt [.tmp 2,.tmp 3] _)
  repeat' ((first|with_reducible refine wr ?_|((with_reducible refine wb2 ?_ ?_)<;>(intro hb;try simp only [hb]))|((with_reducible refine AC.call ((c_limits c).at _ _) ?_);rintro _ _ _ ⟨rfl,rfl,rfl⟩ -)|fail)<;>try simp only [go_sem,seval,hL'])
  have e:validM c=9:=by simp [validM,hL']
  simp only [vHts,e]
  exact pc_snil2
theorem c_valid (c:Prg) (hs:∀ s∈c.strings,s.length≤140737488355328) (n1:c.instrs.length≤9223372036854775807):PC Tryz.prog 32 [c.v] (I64 (validM c)):=by
 refine PC.of mixedU isU32 (Nat.le_of_ble_eq_true rfl) (by simp [DV.nlL,DV.nl,nlL_ints,nlL_strs,nlL_instrs,nlL_entries,nlL_stp]) (by simp [DV.nlL,DV.nl,nlL_ints,nlL_strs,nlL_instrs,nlL_entries,nlL_stp]) ?_
 show IW Tryz.prog 11 u32_1 ⟨argT _,_,_⟩ (rt [.tmp 2] _)
 repeat' ((first|with_reducible refine wr ?_|((with_reducible refine wb2 ?_ ?_)<;>(intro hb;try simp only [hb]))|((with_reducible refine AC.call ((c_verify c hs n1).at _ _) ?_);rintro _ _ _ ⟨rfl,rfl,rfl⟩ -)|fail)<;>try simp only [go_sem,seval])
 exact pc_ret rfl
end Go.Proofs.YtcallbfckjlagaaGreat
namespace Go.Pb
open Go.Sym
abbrev Sm (n:Int):Prop := -4611686018427387904≤n∧n≤4611686018427387903
structure Bnd (c:Prg):Prop where
 ins:∀ i∈c.instrs,Sm i.op∧Sm i.A
 ent:∀ e∈c.entries,Sm e.mode∧Sm e.trigger∧Sm e.index∧Sm e.pos
 pri:∀ n∈c.prios,Sm n
 var:∀ n∈c.vars,Sm n
 tim:Sm c.timers
 evt:Sm c.events
 str:∀ s∈c.strings,s.length≤32
theorem sm_in {n lo hi:Int} (h:inM n lo hi=true) (h1 : -4611686018427387904≤lo) (h2:hi≤4611686018427387903):Sm n:=by
 simp only [inM,Bool.and_eq_true,decide_eq_true_eq] at h
 exact ⟨by omega,by omega⟩
theorem op_bd {op:Int} (h:(effM op).2.2 ≠ -1):1≤op∧op≤31:=by
 by_cases h2:1≤op∧op≤31
 ·exact h2
 ·exfalso;apply h
  have h101:¬op=1:=by omega
  have h102:¬op=2:=by omega
  have h103:¬op=3:=by omega
  have h104:¬op=4:=by omega
  have h105:¬op=5:=by omega
  have h106:¬op=6:=by omega
  have h107:¬op=7:=by omega
  have h108:¬op=8:=by omega
  have h109:¬op=9:=by omega
  have h110:¬op=10:=by omega
  have h111:¬op=11:=by omega
  have h112:¬op=12:=by omega
  have h113:¬op=13:=by omega
  have h114:¬op=14:=by omega
  have h115:¬op=15:=by omega
  have h116:¬op=16:=by omega
  have h117:¬op=17:=by omega
  have h118:¬op=18:=by omega
  have h119:¬op=19:=by omega
  have h120:¬op=20:=by omega
  have h121:¬op=21:=by omega
  have h122:¬op=22:=by omega
  have h123:¬op=23:=by omega
  have h124:¬op=24:=by omega
  have h125:¬op=25:=by omega
  have h126:¬op=26:=by omega
  have h127:¬op=27:=by omega
  have h128:¬op=28:=by omega
  have h129:¬op=29:=by omega
  have h130:¬op=30:=by omega
  have h131:¬op=31:=by omega
  have e:effM op=(0,0, -1):=by
   unfold effM
   rw [if_neg h101,if_neg h102,if_neg h103,if_neg h104,if_neg h105,if_neg h106,if_neg h107,if_neg h108,if_neg h109,if_neg h110,if_neg h111,if_neg h112,if_neg h113,if_neg h114,if_neg h115,if_neg h116,if_neg h117,if_neg h118,if_neg h119,if_neg h120,if_neg h121,if_neg h122,if_neg h123,if_neg h124,if_neg h125,if_neg h126,if_neg h127,if_neg h128,if_neg h129,if_neg h130,if_neg h131]
  rw [e]
theorem Lim.dims {c:Prg} (h:limitsM c=true):c.instrs.length≤4000∧c.strings.length≤200∧c.entries.length≤512∧c.prios.length≤16∧c.vars.length≤128∧0≤c.timers∧c.timers≤128∧0≤c.events∧c.events≤128:=by
 simp only [limitsM,inM,Bool.and_eq_true,decide_eq_true_eq] at h
 omega
theorem kind_sm {c:Prg} (hL:limitsM c=true) {k a:Int} (hJ:k≠7) (h:kindM c k a=true):Sm a:=by
 obtain ⟨d1,d2,d3,d4,d5,d6,d7,d8,d9⟩:=Lim.dims hL
 by_cases e0:k=0
 ·subst e0
  have h':decide (a=0)=true:=h
  simp only [decide_eq_true_eq] at h';exact ⟨by omega,by omega⟩
 by_cases e1:k=1
 ·subst e1;exact sm_in (lo:=(-2147483647)) (hi:=2147483647) h (by omega) (by omega)
 by_cases e2:k=2
 ·subst e2;exact sm_in (lo:=0) (hi:=(c.vars.length-1)) h (by omega) (by omega)
 by_cases e3:k=3
 ·subst e3;exact sm_in (lo:=0) (hi:=63) h (by omega) (by omega)
 by_cases e9:k=9
 ·subst e9;exact sm_in (lo:=0) (hi:=63) h (by omega) (by omega)
 by_cases e4:k=4
 ·subst e4;exact sm_in (lo:=0) (hi:=(c.prios.length-1)) h (by omega) (by omega)
 by_cases e5:k=5
 ·subst e5;exact sm_in (lo:=0) (hi:=(c.timers-1)) h (by omega) (by omega)
 by_cases e6:k=6
 ·subst e6;exact sm_in (lo:=12) (hi:=24) h (by omega) (by omega)
 by_cases e8:k=8
 ·subst e8;exact sm_in (lo:=0) (hi:=31) h (by omega) (by omega)
 by_cases e10:k=10
 ·subst e10;exact sm_in (lo:=0) (hi:=(c.events-1)) h (by omega) (by omega)
 by_cases e11:k=11
 ·subst e11;exact sm_in (lo:=0) (hi:=(c.strings.length-1)) h (by omega) (by omega)
 have:kindM c k a=false:=by
  unfold kindM
  rw [if_neg e0,if_neg e1,if_neg e2,if_neg e3,if_neg e9,if_neg e4,if_neg e5,if_neg e6,if_neg hJ,if_neg e8,if_neg e10,if_neg e11]
 rw [this] at h;cases h
theorem Bnd.of {c:Prg} (hL:limitsM c=true) (hp:partsM c=true) (hj:jumpsM c=true):Bnd c:=by
 obtain ⟨d1,d2,d3,d4,d5,d6,d7,d8,d9⟩:=Lim.dims hL
 simp only [partsM,Bool.and_eq_true,List.all_eq_true] at hp
 obtain ⟨⟨⟨⟨p1,p2⟩,p3⟩,p4⟩,p5⟩:=hp
 refine ⟨fun i hi=>?_,fun e he=>?_,fun n hn=>sm_in (p2 n hn) (by omega) (by omega),fun n hn=>sm_in (p3 n hn) (by omega) (by omega),⟨by omega,by omega⟩,⟨by omega,by omega⟩,fun s hs=>?_⟩
 ·have h:=p5 i hi
  have h7:=jump_bd hj i hi
  have hk:(effM i.op).2.2 ≠ -1:=by
   intro e;rw [numberM,e] at h;simp [kindM] at h
  obtain ⟨o1,o2⟩:=op_bd hk
  refine ⟨⟨by omega,by omega⟩,?_⟩
  by_cases hJ:(effM i.op).2.2=7
  ·have hop:i.op=12∨i.op=13∨i.op=14:=by
    have:=isJ_kind i.op
    rw [hJ] at this
    simpa [isJ] using this
   have:=h7 hop
   exact ⟨by omega,by omega⟩
  ·exact kind_sm hL hJ h
 ·have h:=p4 e he
  have h7:=ent_bd hj e he
  simp only [entryM,Bool.and_eq_true] at h
  obtain ⟨h1,h2⟩:=h
  refine ⟨sm_in h1 (by omega) (by omega),?_,?_,⟨by omega,by omega⟩⟩
  ·repeat' split at h2
   all_goals first
    | cases h2;done
    | exact ⟨by omega,by omega⟩
  ·repeat' split at h2
   all_goals first
    | exact sm_in h2 (by omega) (by omega)
    | (simp only [decide_eq_true_eq] at h2;exact ⟨by omega,by omega⟩)
    | cases h2
 ·have h:=p1 s hs
  simp only [printM,Bool.and_eq_true,decide_eq_true_eq] at h
  exact h.2
theorem valid_all {c:Prg} (h0:validM c=0):limitsM c=true∧partsM c=true∧jumpsM c=true∧chainM c.entries=true∧∃ h,hR c=some h:=by
 unfold validM at h0
 split at h0
 ·exact absurd h0 (by decide)
 split at h0
 ·exact absurd h0 (by decide)
 split at h0
 ·exact absurd h0 (by decide)
 split at h0
 ·exact absurd h0 (by decide)
 split at h0
 ·exact absurd h0 (by decide)
 ·rename_i h1 h2 h3 h4 h5
  refine ⟨by simpa using h1,by simpa using h2,by simpa using h3,by simpa using h4,?_⟩
  cases hh:hR c with
  | none=>rw [hh] at h5;exact absurd rfl h5
  | some h=>exact ⟨h,rfl⟩
theorem Bnd.valid {c:Prg} (h0:validM c=0):Bnd c :=
 let ⟨a,b,d,_⟩:=valid_all h0
 Bnd.of a b d
end Go.Pb
namespace Go.Pb
open Go.Sym
def nextM (l:List UInt8) (p:Nat) (n:Nat):Nat × Nat:=if l.length≤p then (0,p) else ((l.getD p 0).toNat % n,p+1)
abbrev tapeB (l:List UInt8) (p:Nat):Blk:=⟨0,true,[.lst (bytesC l),I64 (p:Int)]⟩
theorem getB {l:List UInt8} {p:Nat} (h:p<l.length):(bytesC l)[p]? = some (DV.int .u8 ((l.getD p 0).toNat:Int)):=by
 simp [bytesC,List.getD,h]
theorem wb64 (b:UInt8):IntKind.i64.wrap (b.toNat:Int)=(b.toNat:Int):=by
 have:=b.toNat_lt
 exact w64 (by omega) (by omega)
theorem nat_tmod (a b:Nat):(a:Int).tmod (b:Int)=((a % b:Nat):Int):=by simp [Int.tmod]
def pushT:List Int:=[0,1,2,3, -1,7,1000,2147483647, -2147483647,65536]
def valueM (l:List UInt8):Nat→Nat→List Ins × Nat
 | d,p =>
  let (k0,p):=nextM l p 9
  let k:=if d=0∧5<k0 then 0 else k0
  match k,d with
  | 1,_=>let (a,p):=nextM l p 3;([⟨2,a⟩],p)
  | 2,_=>let (a,p):=nextM l p 64;([⟨4,a⟩],p)
  | 3,_=>let (a,p):=nextM l p 2;([⟨5,a⟩],p)
  | 4,_=>let (a,p):=nextM l p 2;([⟨6,a⟩],p)
  | 5,_=>let (a,p):=nextM l p 2;([⟨7+a,0⟩],p)
  | 6,d+1=>let (v,p):=valueM l d p;let (a,p):=nextM l p 2;(v++[⟨9+a,0⟩],p)
  | 7,d+1=>let (v,p):=valueM l d p;let (w,p):=valueM l d p;let (a,p):=nextM l p 13;(v++w++[⟨11,12+a⟩],p)
  | 8,d+1=>let (v,p):=valueM l d p;let (w,p):=valueM l d p;let (a,p):=nextM l p 13;(v++w++[⟨11,12+a⟩],p)
  | _,_=>let (a,p):=nextM l p 10;([⟨1,pushT.getD a 0⟩],p)
theorem nextM_le {l:List UInt8} {p n:Nat} (h:p≤l.length):(nextM l p n).2≤l.length:=by
 unfold nextM;split<;>simp only<;>omega
theorem nextM_lt {l:List UInt8} {p n:Nat} (h:1≤n):(nextM l p n).1<n:=by
 unfold nextM;split
 ·exact h
 ·exact Nat.mod_lt _ h
def insC (l:List Ins):List DV:=cellsL (l.map Ins.v)
theorem insC_app (a b:List Ins):insC (a++b)=insC a++insC b:=by simp [insC,cellsL_append]
theorem insC_one (i:Ins):insC [i]=[I64 i.op,I64 i.A]:=by simp [insC,cellsL,DV.cells]
theorem insC_len (l:List Ins):(insC l).length=l.length * 2:=by
 unfold insC
 rw [cellsL_length (u:=2)]
 ·simp
 ·intro x hx;obtain ⟨y, -,rfl⟩:=List.mem_map.1 hx;rfl
theorem push_get {a:Nat} (h:a<10):[DV.int .i64 0,DV.int .i64 1,DV.int .i64 2,DV.int .i64 3,DV.int .i64 (-1),DV.int .i64 7,DV.int .i64 1000,DV.int .i64 2147483647,DV.int .i64 (-2147483647),DV.int .i64 65536][a]? = some (I64 (pushT.getD a 0)):=by
 match a,h with
 | 0,_ | 1,_ | 2,_ | 3,_ | 4,_ | 5,_ | 6,_ | 7,_ | 8,_ | 9,_=>rfl
theorem valueM_le (l:List UInt8):∀ (d p:Nat),p≤l.length→(valueM l d p).2≤l.length
 | d,p,h=>by
  have h1:=nextM_le (n:=9) h
  unfold valueM
  simp only
  generalize (if d=0∧5<(nextM l p 9).1 then 0 else (nextM l p 9).1)=k
  split
  ·exact nextM_le h1
  ·exact nextM_le h1
  ·exact nextM_le h1
  ·exact nextM_le h1
  ·exact nextM_le h1
  ·exact nextM_le (valueM_le l _ _ h1)
  ·exact nextM_le (valueM_le l _ _ (valueM_le l _ _ h1))
  ·exact nextM_le (valueM_le l _ _ (valueM_le l _ _ h1))
  ·exact nextM_le h1
theorem insC_len2 (l:List Ins):(insC l).length=l.length * 2:=insC_len l
theorem valueM_len (l:List UInt8):∀ (d p:Nat),(valueM l d p).1.length+1≤2 ^ (d+1)
 | d,p=>by
  have h0:1≤2 ^ d:=Nat.one_le_two_pow
  have h1:2 ^ (d+1)=2 * 2 ^ d:=by rw [Nat.pow_succ];omega
  unfold valueM
  simp only
  generalize (if d=0∧5<(nextM l p 9).1 then 0 else (nextM l p 9).1)=k
  split
  ·simp only [List.length_singleton];omega
  ·simp only [List.length_singleton];omega
  ·simp only [List.length_singleton];omega
  ·simp only [List.length_singleton];omega
  ·simp only [List.length_singleton];omega
  ·have a:=valueM_len l ‹_› (nextM l p 9).2
   simp only [List.length_append,List.length_singleton];omega
  ·rename_i d
   have a:=valueM_len l d (nextM l p 9).2
   have b:=valueM_len l d (valueM l d (nextM l p 9).2).2
   simp only [List.length_append,List.length_singleton];omega
  ·rename_i d
   have a:=valueM_len l d (nextM l p 9).2
   have b:=valueM_len l d (valueM l d (nextM l p 9).2).2
   simp only [List.length_append,List.length_singleton];omega
  ·simp only [List.length_singleton];omega
theorem valueM_6 {l:List UInt8} {d p p1:Nat} (e0:nextM l p 9=(6,p1)):valueM l (d+1) p=((valueM l d p1).1++[⟨9+((nextM l (valueM l d p1).2 2).1:Int),0⟩],(nextM l (valueM l d p1).2 2).2):=by
 conv=>lhs;unfold valueM
 rw [e0];rfl
theorem valueM_7 {l:List UInt8} {d p p1:Nat} (e0:nextM l p 9=(7,p1)):valueM l (d+1) p=((valueM l d p1).1++(valueM l d (valueM l d p1).2).1++[⟨11,12+((nextM l (valueM l d (valueM l d p1).2).2 13).1:Int)⟩],(nextM l (valueM l d (valueM l d p1).2).2 13).2):=by
 conv=>lhs;unfold valueM
 rw [e0];rfl
theorem valueM_8 {l:List UInt8} {d p p1:Nat} (e0:nextM l p 9=(8,p1)):valueM l (d+1) p=((valueM l d p1).1++(valueM l d (valueM l d p1).2).1++[⟨11,12+((nextM l (valueM l d (valueM l d p1).2).2 13).1:Int)⟩],(nextM l (valueM l d (valueM l d p1).2).2 13).2):=by
 conv=>lhs;unfold valueM
 rw [e0];rfl
end Go.Pb
namespace Go.Pb
open Go.Sym
def clM (n:Int):Int:=if 2147483647<n then 2147483647 else if n < -2147483647 then -2147483647 else n
theorem clM_max (n:Int):(if (2147483647:Int)<(if -2147483647>n then -2147483647 else n) then 2147483647 else (if -2147483647>n then -2147483647 else n))=clM n:=by
 unfold clM;split<;>split<;>(try split)<;>omega
theorem clM_bd (n:Int) : -2147483647≤clM n∧clM n≤2147483647:=by
 unfold clM;split<;>(try split)<;>omega
def bitM (b:Bool):Int:=if b=true then 1 else 0
def unM (k a:Int):Int:=if k=10 then -clM a else if k=11 then bitM (clM a == 0) else 0
def bzM (k A B:Int):Int :=
 if k=12 then clM (A * B) else if k=13 then (if B=0 then 0 else A.tdiv B) else if k=14 then (if B=0 then 0 else A.tmod B) else if k=15 then clM (A+B)
 else if k=16 then clM (A-B) else if k=17 then bitM (decide (A<B)) else if k=18 then bitM (decide (A≤B)) else if k=19 then bitM (decide (A>B)) else if k=20 then bitM (decide (A≥B))
 else if k=21 then bitM (A == B) else if k=22 then bitM (A != B) else if k=23 then bitM (A != 0 && B != 0) else if k=24 then bitM (A != 0 || B != 0) else 0
def binM (k a b:Int):Int:=bzM k (clM a) (clM b)
theorem mul_bd {A B:Int} (a : -2147483647≤A∧A≤2147483647) (b : -2147483647≤B∧B≤2147483647) : -9223372036854775808≤A * B∧A * B≤9223372036854775807:=by
 have h:(A * B).natAbs≤2147483647 * 2147483647:=by
  rw [Int.natAbs_mul]
  exact Nat.mul_le_mul (by omega) (by omega)
 omega
theorem quo_bd {A B:Int} (a : -2147483647≤A∧A≤2147483647) : -2147483647≤A.tdiv B∧A.tdiv B≤2147483647:=by
 have h:(A.tdiv B).natAbs≤A.natAbs:=by
  rw [Int.natAbs_tdiv]
  exact Nat.div_le_self _ _
 omega
structure Eff where
 kind:Int
 A:Int
 b:Int
 c:Int
 text:List UInt8
deriving DecidableEq
structure Envr where
 vars:List Int
 left:List Int
 closed:Nat
 active:Nat
 player:Int
 ball:Int
structure Mch where
 pc:Nat
 done:Bool
 vars:List Int
 stk:List Int
 effs:List Eff
abbrev Eff.v (e:Eff):DV:=.agg [I64 e.kind,I64 e.A,I64 e.b,I64 e.c,.str e.text]
abbrev Envr.cs (e:Envr):List DV:=[ints e.vars,ints e.left,.int .u64 (e.closed:Int),.int .u32 (e.active:Int),I64 e.player,I64 e.ball]
abbrev Envr.v (e:Envr):DV:=.agg e.cs
def effC (l:List Eff):List DV:=cellsL (l.map Eff.v)
theorem effC_app (a b:List Eff):effC (a++b)=effC a++effC b:=by simp [effC,cellsL_append]
theorem effC_one (e:Eff):effC [e]=[I64 e.kind,I64 e.A,I64 e.b,I64 e.c,.str e.text]:=by simp [effC,cellsL,DV.cells]
theorem eff_unit (l:List Eff):∀ x∈l.map Eff.v,x.cells.length=5:=by
 intro x hx;obtain ⟨y, -,rfl⟩:=List.mem_map.1 hx;rfl
theorem effC_len (l:List Eff):(effC l).length=l.length * 5:=by
 rw [effC,cellsL_length (u:=5) (eff_unit l)];simp
theorem nlL_effs (l:List Eff):DV.nlL (l.map Eff.v)=true:=nlL_map (fun _=>rfl) l
def Mch.push (x:Mch) (n:Int):Mch:={ x with stk:=n :: x.stk }
def Mch.pop (x:Mch):Mch:={ x with stk:=x.stk.tail }
def Mch.top (x:Mch):Int:=x.stk.headD 0
def Mch.ask (x:Mch) (e:Eff):Mch:={ x with effs:=x.effs++[e] }
def opM (c:Prg) (e:Envr) (op A:Int) (x:Mch):Mch :=
 if op=1 then x.push A
 else if op=2 then x.push (x.vars.getD A.toNat 0)
 else if op=3 then { x.pop with vars:=x.vars.set A.toNat x.top }
 else if op=4 then x.push ((e.closed / 2 ^ A.toNat % 2:Nat):Int)
 else if op=5 then x.push ((e.active / 2 ^ A.toNat % 2:Nat):Int)
 else if op=6 then x.push (e.left.getD A.toNat 0)
 else if op=7 then x.push e.player
 else if op=8 then x.push e.ball
 else if op=9 then x.pop.push (unM 10 x.top)
 else if op=10 then x.pop.push (unM 11 x.top)
 else if op=11 then x.pop.pop.push (binM A x.pop.top x.top)
 else if op=12 then { x with pc:=A.toNat }
 else if op=13 then (if x.top=0 then { x.pop with pc:=A.toNat } else x.pop)
 else if op=14 then (if x.top≤0 then { x.pop with pc:=A.toNat } else x.pop.push (x.top-1))
 else if op=15∨op=19∨op=21 then x.pop.ask ⟨op,A,x.top,0,[]⟩
 else if op=20 then x.pop.pop.ask ⟨op,A,x.pop.top,x.top,[]⟩
 else if op=29 then x.pop.ask ⟨op,0,x.top,0,c.strings.getD A.toNat []⟩
 else if op=31 then { x with done:=true }
 else x.ask ⟨op,A,0,0,[]⟩
def stepM (c:Prg) (e:Envr) (x:Mch):Mch:=opM c e (c.instrs.getD x.pc ⟨0,0⟩).op (c.instrs.getD x.pc ⟨0,0⟩).A { x with pc:=x.pc+1 }
end Go.Pb
namespace Go.Sym
open Go.Eng (IC)
def Hold (p:Prop):Prop:=p
theorem hold {p:Prop} (h:Hold p):p:=h
def jn (H F:Hp):Hp:=fun j=>match H j with
 | some b=>some b
 | none=>F j
theorem jn_l {H F:Hp} {j:Nat} {b:Blk} (h:H j=some b):jn H F j=some b:=by simp only [jn,h]
theorem jn_r {H F:Hp} {j:Nat} (h:H j=none):jn H F j=F j:=by simp only [jn,h]
theorem jn_i {H F:Hp} {j:Nat} {b:Blk} (h:jn H F j=some b):H j=some b∨(H j=none∧F j=some b):=by
 cases hj:H j with
 | some b0=>rw [jn_l hj] at h;exact .inl (by rw [← h])
 | none=>rw [jn_r hj] at h;exact .inr ⟨rfl,h⟩
theorem AC.frame {P:Program} {f:Nat} {args:List DV} {H F:Hp} {c:Nat} {Q:DV→Hp→Nat→Prop} (h:AC P f args H c Q) (hd:∀ j,F j≠none→H j=none) :
  AC P f args (jn H F) c (fun v H' c' => ∃ H1,Q v H1 c'∧(∀ j,F j≠none→H1 j=none)∧H'=jn H1 F):=by
 refine ⟨h.1,fun ρ w vs hR hf hA=>?_⟩
 have jF:∀ {j b},F j=some b→jn H F j=some b:=fun {j b} hj=>by rw [jn_r (hd j (by rw [hj];simp))];exact hj
 refine (h.2 ρ w vs (hR.less fun j=>?_) hf hA).mono ?_
 ·cases hj:H j with
  | none=>exact .inl rfl
  | some b=>exact .inr (jn_l hj).symm
 rintro e w' ⟨v,v',H1,c1, ρ1,rfl,q,d⟩
 have nF:∀ {j b},F j=some b→∃ t, ρ.nm j=some t∧BRel ρ b t w:=fun {j b} hj=>hR.blk j b (jF hj)
 have ltF:∀ {j b},F j=some b→j<c:=fun {j b} hj=>by
  obtain ⟨t,ht, -⟩:=nF hj
  by_cases e:j<c
  ·exact e
  ·rw [hf j (by omega)] at ht;cases ht
 have dF:∀ {j b},F j=some b→H1 j=none:=fun {j b} hj=>by
  cases h1:H1 j with
  | none=>rfl
  | some b1=>exact absurd (hd j (by rw [hj];simp)) (d.dom j (ltF hj) (by rw [h1];simp))
 have sFH:∀ {i j bi bj ti tj},H i=some bi→F j=some bj → ρ.nm i=some ti → ρ.nm j=some tj→(bi.own=true∨bj.own=true)→ti.block≠tj.block:=fun {i j bi bj ti tj} hi hj h1 h2 ho=>by
  have hij:i≠j:=fun e=>by subst e;rw [hd i (by rw [hj];simp)] at hi;cases hi
  rcases ho with ho|ho
  ·exact hR.sep i j bi bj ti tj (jn_l hi) (jF hj) hij h1 h2 ho
  ·exact (hR.sep j i bj bi tj ti (jF hj) (jn_l hi) (Ne.symm hij) h2 h1 ho).symm
 have row:∀ {j b t},F j=some b → ρ.nm j=some t→w'.heap[t.block]? = w.heap[t.block]? := fun {j b t} hj ht=>by
  obtain ⟨t2,ht2,hb⟩:=nF hj
  rw [ht] at ht2;cases ht2
  exact d.ext.keep t.block hb.lt fun id b0 t0 h1 ho h2=>sFH h1 hj h2 ht (.inl ho)
 have nm1:∀ {j b},F j=some b → ρ1.nm j = ρ.nm j:=fun {j b} hj=>d.same j (ltF hj)
 have sep1:∀ {i j bi bj ti tj},H1 i=some bi→F j=some bj → ρ1.nm i=some ti → ρ.nm j=some tj→(bi.own=true∨bj.own=true)→ti.block≠tj.block:=fun {i j bi bj ti tj} hi hj h1 h2 ho=>by
  obtain ⟨t2,ht2,hb⟩:=nF hj
  rw [h2] at ht2;cases ht2
  have:=hb.lt
  rcases d.ext.mine i bi ti hi h1 with h3|⟨i0,b0,t0,e1,e2,e3,e4⟩
  ·omega
  ·rw [← e4]
   exact sFH e1 hj e3 h2 (ho.imp e2 id)
 refine ⟨v,v',jn H1 F,c1, ρ1,rfl,⟨H1,q,fun j hj=>?_,rfl⟩,d.val,?_,d.fresh,d.up,fun j hj hne=>?_,d.same,?_⟩
 ·cases h1:F j with
  | none=>exact absurd h1 hj
  | some b=>exact dF h1
 ·refine ⟨fun j b hb=>?_,fun i j bi bj ti tj hi hj hij h1 h2 ho=>?_,d.rep.frz,fun j b t hb ho ht=>?_⟩
  ·rcases jn_i hb with h1|⟨-,h1⟩
   ·exact d.rep.blk j b h1
   ·obtain ⟨t,ht,hbr⟩:=nF h1
    exact ⟨t,by rw [nm1 h1];exact ht,(hbr.mono d.ext.le).world (row h1 ht)⟩
  ·rcases jn_i hi with h3|⟨-,h3⟩<;>rcases jn_i hj with h4|⟨-,h4⟩
   ·exact d.rep.sep i j bi bj ti tj h3 h4 hij h1 h2 ho
   ·rw [nm1 h4] at h2
    exact sep1 h3 h4 h1 h2 (.inl ho)
   ·rw [nm1 h3] at h1
    exact (sep1 h4 h3 h2 h1 (.inr ho)).symm
   ·rw [nm1 h3] at h1
    rw [nm1 h4] at h2
    exact hR.sep i j bi bj ti tj (jF h3) (jF h4) hij h1 h2 ho
  ·rcases jn_i hb with h1|⟨-,h1⟩
   ·exact d.rep.dis j b t h1 ho ht
   ·rw [nm1 h1] at ht
    cases hf1 : ρ1.fz t.block with
    | none=>rfl
    | some r =>
     rcases d.ext.fzn _ _ hf1 with h3|h3|⟨i,b0,t0,e1,e2,e3,e4⟩
     ·rw [hR.dis j b t (jF h1) ho ht] at h3;cases h3
     ·obtain ⟨t2,ht2,hb2⟩:=nF h1
      rw [ht] at ht2;cases ht2
      have:=hb2.lt;omega
     ·exact absurd e4 (sFH e1 h1 e3 ht (.inl e2))
 ·cases h1:H1 j with
  | some b1 =>
   have h2:=d.dom j hj (by rw [h1];simp)
   cases h3:H j with
   | none=>exact absurd h3 h2
   | some b3=>rw [jn_l h3];simp
  | none =>
   rw [jn_r h1] at hne
   cases h3:F j with
   | none=>exact absurd h3 hne
   | some b3=>rw [jF h3];simp
 ·refine ⟨d.ext.le,d.ext.os,d.ext.tape,d.ext.output,d.ext.size,fun k hk hn=>d.ext.keep k hk fun id b t h1 ho h2=>hn id b t (jn_l h1) ho h2,fun j b t hb ht=>?_,fun k r hk=>?_⟩
  ·rcases jn_i hb with h1|⟨-,h1⟩
   ·rcases d.ext.mine j b t h1 ht with h3|⟨i,b0,t0,e1,e2,e3,e4⟩
    ·exact .inl h3
    ·exact .inr ⟨i,b0,t0,jn_l e1,e2,e3,e4⟩
   ·rw [nm1 h1] at ht
    exact .inr ⟨j,b,t,jF h1,id,ht,rfl⟩
  ·rcases d.ext.fzn k r hk with h1|h1|⟨i,b0,t0,e1,e2,e3,e4⟩
   ·exact .inl h1
   ·exact .inr (.inl h1)
   ·exact .inr (.inr ⟨i,b0,t0,jn_l e1,e2,e3,e4⟩)
theorem AC.beside {P:Program} {f:Nat} {args:List DV} {H:Hp} {c k:Nat} {Q:DV→Hp→Nat→Prop} (h:AC P f args H c Q) (hk:H k=none) (b:Blk) :
  AC P f args (H.upd k b) c (fun v H' c' => ∃ H1,Q v H1 c'∧H1 k=none∧H'=H1.upd k b):=by
 have e:∀ X:Hp,X k=none→jn X (Sym.nil.upd k b)=X.upd k b:=fun X hX=>by
  funext j
  by_cases ej:j=k
  ·subst ej;rw [jn_r hX,h_same,h_same]
  ·rw [h_ne ej]
   cases hj:X j with
   | none=>rw [jn_r hj,h_ne ej];rfl
   | some b=>exact jn_l hj
 have hn:∀ j,(Sym.nil.upd k b) j≠none→j=k:=fun j hj=>by
  by_cases ej:j=k
  ·exact ej
  ·rw [h_ne ej] at hj;exact absurd rfl hj
 have:=h.frame (F:=Sym.nil.upd k b) (fun j hj=>by rw [hn j hj];exact hk)
 rw [e H hk] at this
 refine this.mono ?_
 rintro v H' c' ⟨H1,q,h1,rfl⟩
 have h2:H1 k=none:=h1 k (by rw [h_same];simp)
 exact ⟨H1,q,h2,e H1 h2⟩
end Go.Sym
namespace Go.Proofs.YtcallbfckjlagaaGreat
open Go.Eng (IC IOper DReg IFn IsFn)
open Go.Sym Go.Pb
section
def u27_2r:List IOper:=[oM 3 0,oP 4 (.mx (.t 3) (.k (.int .i64 (-2147483647)))),oP 5 (.mn (.t 4) (.k (.int .i64 2147483647))),oM 2 5]
def u27_2:IC:=.seq (.reg u27_2r) .ret
def u27_1r:List IOper:=[oI 2 0]
def u27_1:IC:=.seq (.reg u27_1r) u27_2
def u27:IFn:=⟨6,u27_1,[.tmp 2]⟩
end
theorem isU27:IsFn Tryz.prog 27 u27:=by unfold IsFn;kernel_rfl
instance i27_2:WR Tryz.prog 6 u27_2 (rS u27_2r .ret [0]):=⟨mkS⟩
instance i27_1:WR Tryz.prog 6 u27_1 (rS u27_1r u27_2 [0]):=⟨mkS⟩
attribute [go_sem] u27_2r u27_1r
section
def u56_5r:List IOper:=[oI 2 1]
def u56_5:IC:=.seq (.reg u56_5r) .ret
def u56_4:IC:=.cond (.t 3) u56_5 .skip
def u56_3r:List IOper:=[oM 3 0]
def u56_3:IC:=.seq (.reg u56_3r) u56_4
def u56_6r:List IOper:=[oI 2 0]
def u56_6:IC:=.seq (.reg u56_6r) .ret
def u56_2:IC:=.seq u56_3 u56_6
def u56_1r:List IOper:=[oI 2 0]
def u56_1:IC:=.seq (.reg u56_1r) u56_2
def u56:IFn:=⟨4,u56_1,[.tmp 2]⟩
end
theorem isU56:IsFn Tryz.prog 56 u56:=by unfold IsFn;kernel_rfl
instance i56_5:WR Tryz.prog 4 u56_5 (rS u56_5r .ret []):=⟨mkS⟩
instance i56_4:WR Tryz.prog 4 u56_4 (rCE (.t 3) u56_5 .skip [3]):=⟨mkCE⟩
instance i56_3:WR Tryz.prog 4 u56_3 (rS u56_3r u56_4 [0]):=⟨mkS⟩
instance i56_6:WR Tryz.prog 4 u56_6 (rS u56_6r .ret []):=⟨mkS⟩
instance i56_2:WR Tryz.prog 4 u56_2 (rQ u56_3 u56_6 [0]):=⟨mkQ⟩
instance i56_1:WR Tryz.prog 4 u56_1 (rS u56_1r u56_2 [0]):=⟨mkS⟩
attribute [go_sem] u56_5r u56_3r u56_6r u56_1r
section
def u41_8r:List IOper:=[oM 10 1,oP 11 (.un .neg (.t 10)),oM 4 11]
def u41_8:IC:=.seq (.reg u41_8r) .ret
def u41_11r:List IOper:=[oM 14 1,oK 15 14 .eql 0,oC 16 56 [.t 15],oM 4 16]
def u41_11:IC:=.seq (.reg u41_11r) .ret
def u41_10:IC:=.cond (.t 12) u41_11 .skip
def u41_9r:List IOper:=[oK 13 7 .eql 11,oM 12 13]
def u41_9:IC:=.seq (.reg u41_9r) u41_10
def u41_7:IC:=.cond (.t 8) u41_8 u41_9
def u41_6r:List IOper:=[oK 9 7 .eql 10,oM 8 9]
def u41_6:IC:=.seq (.reg u41_6r) u41_7
def u41_5:IC:=.blk 0 u41_6
def u41_4r:List IOper:=[oM 7 0]
def u41_4:IC:=.seq (.reg u41_4r) u41_5
def u41_12r:List IOper:=[oI 4 0]
def u41_12:IC:=.seq (.reg u41_12r) .ret
def u41_3:IC:=.seq u41_4 u41_12
def u41_2r:List IOper:=[oM 5 1,oC 6 27 [.t 5],oM 1 6]
def u41_2:IC:=.seq (.reg u41_2r) u41_3
def u41_1r:List IOper:=[oI 4 0]
def u41_1:IC:=.seq (.reg u41_1r) u41_2
def u41:IFn:=⟨17,u41_1,[.tmp 4]⟩
end
theorem isU41:IsFn Tryz.prog 41 u41:=by unfold IsFn;kernel_rfl
instance i41_8:WR Tryz.prog 17 u41_8 (rS u41_8r .ret [1]):=⟨mkS⟩
instance i41_11:WR Tryz.prog 17 u41_11 (rS u41_11r .ret [1]):=⟨mkS⟩
instance i41_10:WR Tryz.prog 17 u41_10 (rCE (.t 12) u41_11 .skip [1,12]):=⟨mkCE⟩
instance i41_9:WR Tryz.prog 17 u41_9 (rS u41_9r u41_10 [1,7]):=⟨mkS⟩
instance i41_7:WR Tryz.prog 17 u41_7 (rCE (.t 8) u41_8 u41_9 [1,7,8]):=⟨mkCE⟩
instance i41_6:WR Tryz.prog 17 u41_6 (rS u41_6r u41_7 [1,7]):=⟨mkS⟩
instance i41_5:WR Tryz.prog 17 u41_5 (rBE 0 u41_6 [1,7]):=⟨mkBE⟩
instance i41_4:WR Tryz.prog 17 u41_4 (rS u41_4r u41_5 [0,1]):=⟨mkS⟩
instance i41_12:WR Tryz.prog 17 u41_12 (rS u41_12r .ret []):=⟨mkS⟩
instance i41_3:WR Tryz.prog 17 u41_3 (rQ u41_4 u41_12 [0,1]):=⟨mkQ⟩
instance i41_2:WR Tryz.prog 17 u41_2 (rS u41_2r u41_3 [0,1]):=⟨mkS⟩
instance i41_1:WR Tryz.prog 17 u41_1 (rS u41_1r u41_2 [0,1]):=⟨mkS⟩
attribute [go_sem] u41_8r u41_11r u41_9r u41_6r u41_4r u41_12r u41_2r u41_1r
section
def u42_8r:List IOper:=[oM 14 1,oM 15 2,oB 16 14 15 .mul,oC 17 27 [.t 16],oM 6 17]
def u42_8:IC:=.seq (.reg u42_8r) .ret
def u42_13r:List IOper:=[oM 22 1,oM 23 2,oB 24 22 23 .quo,oM 6 24]
def u42_13:IC:=.seq (.reg u42_13r) .ret
def u42_12:IC:=.cond (.t 21) u42_13 .skip
def u42_11r:List IOper:=[oM 20 2,oK 21 20 .neq 0]
def u42_11:IC:=.seq (.reg u42_11r) u42_12
def u42_18r:List IOper:=[oM 29 1,oM 30 2,oB 31 29 30 .rem,oM 6 31]
def u42_18:IC:=.seq (.reg u42_18r) .ret
def u42_17:IC:=.cond (.t 28) u42_18 .skip
def u42_16r:List IOper:=[oM 27 2,oK 28 27 .neq 0]
def u42_16:IC:=.seq (.reg u42_16r) u42_17
def u42_21r:List IOper:=[oM 34 1,oM 35 2,oB 36 34 35 .add,oC 37 27 [.t 36],oM 6 37]
def u42_21:IC:=.seq (.reg u42_21r) .ret
def u42_24r:List IOper:=[oM 40 1,oM 41 2,oB 42 40 41 .sub,oC 43 27 [.t 42],oM 6 43]
def u42_24:IC:=.seq (.reg u42_24r) .ret
def u42_27r:List IOper:=[oM 46 1,oM 47 2,oB 48 46 47 .lss,oC 49 56 [.t 48],oM 6 49]
def u42_27:IC:=.seq (.reg u42_27r) .ret
def u42_30r:List IOper:=[oM 52 1,oM 53 2,oB 54 52 53 .leq,oC 55 56 [.t 54],oM 6 55]
def u42_30:IC:=.seq (.reg u42_30r) .ret
def u42_33r:List IOper:=[oM 58 1,oM 59 2,oB 60 58 59 .gtr,oC 61 56 [.t 60],oM 6 61]
def u42_33:IC:=.seq (.reg u42_33r) .ret
def u42_36r:List IOper:=[oM 64 1,oM 65 2,oB 66 64 65 .geq,oC 67 56 [.t 66],oM 6 67]
def u42_36:IC:=.seq (.reg u42_36r) .ret
def u42_39r:List IOper:=[oM 70 1,oM 71 2,oB 72 70 71 .eql,oC 73 56 [.t 72],oM 6 73]
def u42_39:IC:=.seq (.reg u42_39r) .ret
def u42_42r:List IOper:=[oM 76 1,oM 77 2,oB 78 76 77 .neq,oC 79 56 [.t 78],oM 6 79]
def u42_42:IC:=.seq (.reg u42_42r) .ret
def u42_45r:List IOper:=[oM 82 1,oK 83 82 .neq 0,oM 84 83,gM 85 2 84,gK 86 85 84 .neq 0,oP 87 (.pick (.t 84) (.t 86) (.k (.bool false))),oC 88 56 [.t 87],oM 6 88]
def u42_45:IC:=.seq (.reg u42_45r) .ret
def u42_48r:List IOper:=[oM 91 1,oK 92 91 .neq 0,oM 93 92,⟨some 94,.pur (.mv (.t 2)),some (93,false)⟩,⟨some 95,.pur (.bin .neq (.t 94) (.k (.int .i64 0))),some (93,false)⟩,oP 96 (.pick (.t 93) (.k (.bool true)) (.t 95)),oC 97 56 [.t 96],oM 6 97]
def u42_48:IC:=.seq (.reg u42_48r) .ret
def u42_47:IC:=.cond (.t 89) u42_48 .skip
def u42_46r:List IOper:=[oK 90 11 .eql 24,oM 89 90]
def u42_46:IC:=.seq (.reg u42_46r) u42_47
def u42_44:IC:=.cond (.t 80) u42_45 u42_46
def u42_43r:List IOper:=[oK 81 11 .eql 23,oM 80 81]
def u42_43:IC:=.seq (.reg u42_43r) u42_44
def u42_41:IC:=.cond (.t 74) u42_42 u42_43
def u42_40r:List IOper:=[oK 75 11 .eql 22,oM 74 75]
def u42_40:IC:=.seq (.reg u42_40r) u42_41
def u42_38:IC:=.cond (.t 68) u42_39 u42_40
def u42_37r:List IOper:=[oK 69 11 .eql 21,oM 68 69]
def u42_37:IC:=.seq (.reg u42_37r) u42_38
def u42_35:IC:=.cond (.t 62) u42_36 u42_37
def u42_34r:List IOper:=[oK 63 11 .eql 20,oM 62 63]
def u42_34:IC:=.seq (.reg u42_34r) u42_35
def u42_32:IC:=.cond (.t 56) u42_33 u42_34
def u42_31r:List IOper:=[oK 57 11 .eql 19,oM 56 57]
def u42_31:IC:=.seq (.reg u42_31r) u42_32
def u42_29:IC:=.cond (.t 50) u42_30 u42_31
def u42_28r:List IOper:=[oK 51 11 .eql 18,oM 50 51]
def u42_28:IC:=.seq (.reg u42_28r) u42_29
def u42_26:IC:=.cond (.t 44) u42_27 u42_28
def u42_25r:List IOper:=[oK 45 11 .eql 17,oM 44 45]
def u42_25:IC:=.seq (.reg u42_25r) u42_26
def u42_23:IC:=.cond (.t 38) u42_24 u42_25
def u42_22r:List IOper:=[oK 39 11 .eql 16,oM 38 39]
def u42_22:IC:=.seq (.reg u42_22r) u42_23
def u42_20:IC:=.cond (.t 32) u42_21 u42_22
def u42_19r:List IOper:=[oK 33 11 .eql 15,oM 32 33]
def u42_19:IC:=.seq (.reg u42_19r) u42_20
def u42_15:IC:=.cond (.t 25) u42_16 u42_19
def u42_14r:List IOper:=[oK 26 11 .eql 14,oM 25 26]
def u42_14:IC:=.seq (.reg u42_14r) u42_15
def u42_10:IC:=.cond (.t 18) u42_11 u42_14
def u42_9r:List IOper:=[oK 19 11 .eql 13,oM 18 19]
def u42_9:IC:=.seq (.reg u42_9r) u42_10
def u42_7:IC:=.cond (.t 12) u42_8 u42_9
def u42_6r:List IOper:=[oK 13 11 .eql 12,oM 12 13]
def u42_6:IC:=.seq (.reg u42_6r) u42_7
def u42_5:IC:=.blk 0 u42_6
def u42_4r:List IOper:=[oM 11 0]
def u42_4:IC:=.seq (.reg u42_4r) u42_5
def u42_49r:List IOper:=[oI 6 0]
def u42_49:IC:=.seq (.reg u42_49r) .ret
def u42_3:IC:=.seq u42_4 u42_49
def u42_2r:List IOper:=[oM 7 1,oC 8 27 [.t 7],oM 9 2,oC 10 27 [.t 9],oM 1 8,oM 2 10]
def u42_2:IC:=.seq (.reg u42_2r) u42_3
def u42_1r:List IOper:=[oI 6 0]
def u42_1:IC:=.seq (.reg u42_1r) u42_2
def u42:IFn:=⟨98,u42_1,[.tmp 6]⟩
end
theorem isU42:IsFn Tryz.prog 42 u42:=by unfold IsFn;kernel_rfl
instance i42_8:WR Tryz.prog 98 u42_8 (rS u42_8r .ret [1,2]):=⟨mkS⟩
instance i42_13:WR Tryz.prog 98 u42_13 (rS u42_13r .ret [1,2]):=⟨mkS⟩
instance i42_12:WR Tryz.prog 98 u42_12 (rCE (.t 21) u42_13 .skip [1,2,21]):=⟨mkCE⟩
instance i42_11:WR Tryz.prog 98 u42_11 (rS u42_11r u42_12 [1,2]):=⟨mkS⟩
instance i42_18:WR Tryz.prog 98 u42_18 (rS u42_18r .ret [1,2]):=⟨mkS⟩
instance i42_17:WR Tryz.prog 98 u42_17 (rCE (.t 28) u42_18 .skip [1,2,28]):=⟨mkCE⟩
instance i42_16:WR Tryz.prog 98 u42_16 (rS u42_16r u42_17 [1,2]):=⟨mkS⟩
instance i42_21:WR Tryz.prog 98 u42_21 (rS u42_21r .ret [1,2]):=⟨mkS⟩
instance i42_24:WR Tryz.prog 98 u42_24 (rS u42_24r .ret [1,2]):=⟨mkS⟩
instance i42_27:WR Tryz.prog 98 u42_27 (rS u42_27r .ret [1,2]):=⟨mkS⟩
instance i42_30:WR Tryz.prog 98 u42_30 (rS u42_30r .ret [1,2]):=⟨mkS⟩
instance i42_33:WR Tryz.prog 98 u42_33 (rS u42_33r .ret [1,2]):=⟨mkS⟩
instance i42_36:WR Tryz.prog 98 u42_36 (rS u42_36r .ret [1,2]):=⟨mkS⟩
instance i42_39:WR Tryz.prog 98 u42_39 (rS u42_39r .ret [1,2]):=⟨mkS⟩
instance i42_42:WR Tryz.prog 98 u42_42 (rS u42_42r .ret [1,2]):=⟨mkS⟩
instance i42_45:WR Tryz.prog 98 u42_45 (rS u42_45r .ret [1,2]):=⟨mkS⟩
instance i42_48:WR Tryz.prog 98 u42_48 (rS u42_48r .ret [1,2]):=⟨mkS⟩
instance i42_47:WR Tryz.prog 98 u42_47 (rCE (.t 89) u42_48 .skip [1,2,89]):=⟨mkCE⟩
instance i42_46:WR Tryz.prog 98 u42_46 (rS u42_46r u42_47 [1,2,11]):=⟨mkS⟩
instance i42_44:WR Tryz.prog 98 u42_44 (rCE (.t 80) u42_45 u42_46 [1,2,11,80]):=⟨mkCE⟩
instance i42_43:WR Tryz.prog 98 u42_43 (rS u42_43r u42_44 [1,2,11]):=⟨mkS⟩
instance i42_41:WR Tryz.prog 98 u42_41 (rCE (.t 74) u42_42 u42_43 [1,2,11,74]):=⟨mkCE⟩
instance i42_40:WR Tryz.prog 98 u42_40 (rS u42_40r u42_41 [1,2,11]):=⟨mkS⟩
instance i42_38:WR Tryz.prog 98 u42_38 (rCE (.t 68) u42_39 u42_40 [1,2,11,68]):=⟨mkCE⟩
instance i42_37:WR Tryz.prog 98 u42_37 (rS u42_37r u42_38 [1,2,11]):=⟨mkS⟩
instance i42_35:WR Tryz.prog 98 u42_35 (rCE (.t 62) u42_36 u42_37 [1,2,11,62]):=⟨mkCE⟩
instance i42_34:WR Tryz.prog 98 u42_34 (rS u42_34r u42_35 [1,2,11]):=⟨mkS⟩
instance i42_32:WR Tryz.prog 98 u42_32 (rCE (.t 56) u42_33 u42_34 [1,2,11,56]):=⟨mkCE⟩
instance i42_31:WR Tryz.prog 98 u42_31 (rS u42_31r u42_32 [1,2,11]):=⟨mkS⟩
instance i42_29:WR Tryz.prog 98 u42_29 (rCE (.t 50) u42_30 u42_31 [1,2,11,50]):=⟨mkCE⟩
instance i42_28:WR Tryz.prog 98 u42_28 (rS u42_28r u42_29 [1,2,11]):=⟨mkS⟩
instance i42_26:WR Tryz.prog 98 u42_26 (rCE (.t 44) u42_27 u42_28 [1,2,11,44]):=⟨mkCE⟩
instance i42_25:WR Tryz.prog 98 u42_25 (rS u42_25r u42_26 [1,2,11]):=⟨mkS⟩
instance i42_23:WR Tryz.prog 98 u42_23 (rCE (.t 38) u42_24 u42_25 [1,2,11,38]):=⟨mkCE⟩
instance i42_22:WR Tryz.prog 98 u42_22 (rS u42_22r u42_23 [1,2,11]):=⟨mkS⟩
instance i42_20:WR Tryz.prog 98 u42_20 (rCE (.t 32) u42_21 u42_22 [1,2,11,32]):=⟨mkCE⟩
instance i42_19:WR Tryz.prog 98 u42_19 (rS u42_19r u42_20 [1,2,11]):=⟨mkS⟩
instance i42_15:WR Tryz.prog 98 u42_15 (rCE (.t 25) u42_16 u42_19 [1,2,11,25]):=⟨mkCE⟩
instance i42_14:WR Tryz.prog 98 u42_14 (rS u42_14r u42_15 [1,2,11]):=⟨mkS⟩
instance i42_10:WR Tryz.prog 98 u42_10 (rCE (.t 18) u42_11 u42_14 [1,2,11,18]):=⟨mkCE⟩
instance i42_9:WR Tryz.prog 98 u42_9 (rS u42_9r u42_10 [1,2,11]):=⟨mkS⟩
instance i42_7:WR Tryz.prog 98 u42_7 (rCE (.t 12) u42_8 u42_9 [1,2,11,12]):=⟨mkCE⟩
instance i42_6:WR Tryz.prog 98 u42_6 (rS u42_6r u42_7 [1,2,11]):=⟨mkS⟩
instance i42_5:WR Tryz.prog 98 u42_5 (rBE 0 u42_6 [1,2,11]):=⟨mkBE⟩
instance i42_4:WR Tryz.prog 98 u42_4 (rS u42_4r u42_5 [0,1,2]):=⟨mkS⟩
instance i42_49:WR Tryz.prog 98 u42_49 (rS u42_49r .ret []):=⟨mkS⟩
instance i42_3:WR Tryz.prog 98 u42_3 (rQ u42_4 u42_49 [0,1,2]):=⟨mkQ⟩
instance i42_2:WR Tryz.prog 98 u42_2 (rS u42_2r u42_3 [0,1,2]):=⟨mkS⟩
instance i42_1:WR Tryz.prog 98 u42_1 (rS u42_1r u42_2 [0,1,2]):=⟨mkS⟩
attribute [go_sem] u42_8r u42_13r u42_11r u42_18r u42_16r u42_21r u42_24r u42_27r u42_30r u42_33r u42_36r u42_39r u42_42r u42_45r u42_48r u42_46r u42_43r u42_40r u42_37r u42_34r u42_31r u42_28r u42_25r u42_22r u42_19r u42_14r u42_9r u42_6r u42_4r u42_49r u42_2r u42_1r
theorem c_Clamp (n:Int):PC Tryz.prog 27 [I64 n] (I64 (clM n)):=by
 refine PC.of mixedU isU27 (Nat.le_of_ble_eq_true rfl) (by simp [DV.nlL,DV.nl,nlL_ints,nlL_strs,nlL_instrs,nlL_entries,nlL_stp]) (by simp [DV.nlL,DV.nl,nlL_ints,nlL_strs,nlL_instrs,nlL_entries,nlL_stp]) ?_
 show IW Tryz.prog 6 u27_1 ⟨argT _,_,_⟩ (rt [.tmp 2] _)
 have h:=clM_max n
 repeat' ((first|with_reducible refine wr ?_|((with_reducible refine wb2 ?_ ?_)<;>(intro hb;try simp only [hb]))|fail)<;>try simp only [go_sem,seval,h])
 exact pc_ret rfl
theorem c_bit (b:Bool):PC Tryz.prog 56 [.bool b] (I64 (bitM b)):=by
 refine PC.of mixedU isU56 (Nat.le_of_ble_eq_true rfl) (by simp [DV.nlL,DV.nl,nlL_ints,nlL_strs,nlL_instrs,nlL_entries,nlL_stp]) (by simp [DV.nlL,DV.nl,nlL_ints,nlL_strs,nlL_instrs,nlL_entries,nlL_stp]) ?_
 show IW Tryz.prog 4 u56_1 ⟨argT _,_,_⟩ (rt [.tmp 2] _)
 cases b
 ·repeat' ((first|with_reducible refine wr ?_|((with_reducible refine wb2 ?_ ?_)<;>(intro hb;try simp only [hb]))|fail)<;>try simp only [go_sem,seval])
  exact pc_ret rfl
 ·repeat' ((first|with_reducible refine wr ?_|((with_reducible refine wb2 ?_ ?_)<;>(intro hb;try simp only [hb]))|fail)<;>try simp only [go_sem,seval])
  exact pc_ret rfl
theorem c_Unary (k a:Int):PC Tryz.prog 41 [I64 k,I64 a] (I64 (unM k a)):=by
 refine PC.of mixedU isU41 (Nat.le_of_ble_eq_true rfl) (by simp [DV.nlL,DV.nl,nlL_ints,nlL_strs,nlL_instrs,nlL_entries,nlL_stp]) (by simp [DV.nlL,DV.nl,nlL_ints,nlL_strs,nlL_instrs,nlL_entries,nlL_stp]) ?_
 show IW Tryz.prog 17 u41_1 ⟨argT _,_,_⟩ (rt [.tmp 4] _)
 have hb:=clM_bd a
 have w:=w64 (n:=0-clM a) (by omega) (by omega)
 by_cases h1:k=10
 ·have d1:(k == 10)=true:=by simp [h1]
  repeat' ((first|with_reducible refine wr ?_|((with_reducible refine wb2 ?_ ?_)<;>(intro hb;try simp only [hb]))|((with_reducible refine AC.call ((c_Clamp _).at _ _) ?_);rintro _ _ _ ⟨rfl,rfl,rfl⟩ -)|fail)<;>try simp only [go_sem,seval,w,d1])
  rw [h1];exact pc_ret (by simp [unM])
 ·have d1:(k == 10)=false:=by simp [h1]
  by_cases h2:k=11
  ·have d2:(k == 11)=true:=by simp [h2]
   repeat' ((first|with_reducible refine wr ?_|((with_reducible refine wb2 ?_ ?_)<;>(intro hb;try simp only [hb]))|((with_reducible refine AC.call ((c_Clamp _).at _ _) ?_);rintro _ _ _ ⟨rfl,rfl,rfl⟩ -)|((with_reducible refine AC.call ((c_bit _).at _ _) ?_);rintro _ _ _ ⟨rfl,rfl,rfl⟩ -)|fail)<;>try simp only [go_sem,seval,d1,d2])
   rw [h2];exact pc_ret rfl
  ·have d2:(k == 11)=false:=by simp [h2]
   repeat' ((first|with_reducible refine wr ?_|((with_reducible refine wb2 ?_ ?_)<;>(intro hb;try simp only [hb]))|((with_reducible refine AC.call ((c_Clamp _).at _ _) ?_);rintro _ _ _ ⟨rfl,rfl,rfl⟩ -)|((with_reducible refine AC.call ((c_bit _).at _ _) ?_);rintro _ _ _ ⟨rfl,rfl,rfl⟩ -)|fail)<;>try simp only [go_sem,seval,d1,d2])
   exact pc_ret (by simp [unM,h1,h2])
theorem c_Binary (k a b:Int):PC Tryz.prog 42 [I64 k,I64 a,I64 b] (I64 (binM k a b)):=by
 refine PC.of mixedU isU42 (Nat.le_of_ble_eq_true rfl) (by simp [DV.nlL,DV.nl,nlL_ints,nlL_strs,nlL_instrs,nlL_entries,nlL_stp]) (by simp [DV.nlL,DV.nl,nlL_ints,nlL_strs,nlL_instrs,nlL_entries,nlL_stp]) ?_
 show IW Tryz.prog 98 u42_1 ⟨argT _,_,_⟩ (rt [.tmp 6] _)
 unfold binM
 have hA:=clM_bd a
 have hB:=clM_bd b
 have cA:=c_Clamp a
 have cB:=c_Clamp b
 generalize clM a=A at *
 generalize clM b=B at *
 have wm:=mul_bd hA hB
 have wq:=quo_bd (B:=B) hA
 have w1:=w64 wm.1 wm.2
 have w2:=w64 (n:=A+B) (by omega) (by omega)
 have w3:=w64 (n:=A-B) (by omega) (by omega)
 by_cases hz:B=0
 ·have z1:(B != 0)=false:=by simp [hz]
  have z2:(B == 0)=true:=by simp [hz]
  repeat' ((first|with_reducible refine wr ?_|((with_reducible refine wb2 ?_ ?_)<;>(intro hb;try simp only [hb]))|((with_reducible refine AC.call ((cA).at _ _) ?_);rintro _ _ _ ⟨rfl,rfl,rfl⟩ -)|((with_reducible refine AC.call ((cB).at _ _) ?_);rintro _ _ _ ⟨rfl,rfl,rfl⟩ -)|((with_reducible refine AC.call ((c_Clamp _).at _ _) ?_);rintro _ _ _ ⟨rfl,rfl,rfl⟩ -)|((with_reducible refine AC.call ((c_bit _).at _ _) ?_);rintro _ _ _ ⟨rfl,rfl,rfl⟩ -)|fail)<;>try simp only [go_sem,seval,w1,w2,w3,z1,z2])
  all_goals (refine pc_ret ?_;clear wm wq w1 w2 w3 cA cB hA hB;simp_all [bzM]<;>simp [bitM,bne, *])
 ·have z1:(B != 0)=true:=by simp [hz]
  have z2:(B == 0)=false:=by simp [hz]
  have q1:binR .quo (.int .i64 A) (.int .i64 B)=some (.int .i64 (A.tdiv B)):=by rw [r_quo hz,w64 (by omega) (by omega)]
  have q2:=r_rem (k:=.i64) (m:=A) hz
  repeat' ((first|with_reducible refine wr ?_|((with_reducible refine wb2 ?_ ?_)<;>(intro hb;try simp only [hb]))|((with_reducible refine AC.call ((cA).at _ _) ?_);rintro _ _ _ ⟨rfl,rfl,rfl⟩ -)|((with_reducible refine AC.call ((cB).at _ _) ?_);rintro _ _ _ ⟨rfl,rfl,rfl⟩ -)|((with_reducible refine AC.call ((c_Clamp _).at _ _) ?_);rintro _ _ _ ⟨rfl,rfl,rfl⟩ -)|((with_reducible refine AC.call ((c_bit _).at _ _) ?_);rintro _ _ _ ⟨rfl,rfl,rfl⟩ -)|fail)<;>try simp only [go_sem,seval,w1,w2,w3,z1,z2,q1,q2])
  all_goals (refine pc_ret ?_;clear wm wq w1 w2 w3 cA cB hA hB q1 q2;simp_all [bzM]<;>simp [bitM,bne, *])
end Go.Proofs.YtcallbfckjlagaaGreat
namespace Go.Pb
open Go.Sym
theorem entC_len' (l:List Ent):(cellsL (l.map Ent.v)).length=l.length * 4:=by
 rw [cellsL_length (u:=4)]
 ·simp
 ·intro x hx;obtain ⟨y, -,rfl⟩:=List.mem_map.1 hx;rfl
theorem ins_unit (l:List Ins):∀ x∈l.map Ins.v,x.cells.length=2:=by
 intro x hx;obtain ⟨y, -,rfl⟩:=List.mem_map.1 hx;rfl
theorem str_unit (l:List (List UInt8)):∀ x∈l.map DV.str,x.cells.length=1:=by
 intro x hx;obtain ⟨y, -,rfl⟩:=List.mem_map.1 hx;rfl
theorem ent_unit (l:List Ent):∀ x∈l.map Ent.v,x.cells.length=4:=by
 intro x hx;obtain ⟨y, -,rfl⟩:=List.mem_map.1 hx;rfl
end Go.Pb
namespace Go.Pb
open Go.Sym
theorem valueM_l0 (l:List UInt8) (p:Nat):(valueM l 0 p).1.length≤1:=by have:=valueM_len l 0 p;omega
theorem valueM_l1 (l:List UInt8) (p:Nat):(valueM l 1 p).1.length≤3:=by
 have:=valueM_len l 1 p
 have e:2 ^ (1+1)=4:=rfl
 omega
theorem valueM_l2 (l:List UInt8) (p:Nat):(valueM l 2 p).1.length≤7:=by
 have:=valueM_len l 2 p
 have e:2 ^ (2+1)=8:=rfl
 omega
def stK (l:List UInt8) (rec:Nat→Nat→List Ins × Nat) (base k p:Nat):List Ins × Nat :=
 match k with
 | 1=>((valueM l 1 p).1++[⟨15,0⟩],(valueM l 1 p).2)
 | 2=>([⟨16+((nextM l p 3).1:Int),((nextM l (nextM l p 3).2 32).1:Int)⟩],(nextM l (nextM l p 3).2 32).2)
 | 3=>((valueM l 0 p).1++[⟨19,((nextM l (valueM l 0 p).2 64).1:Int)⟩],(nextM l (valueM l 0 p).2 64).2)
 | 4=>((valueM l 0 p).1++(valueM l 0 (valueM l 0 p).2).1++[⟨20,((nextM l (valueM l 0 (valueM l 0 p).2).2 64).1:Int)⟩],(nextM l (valueM l 0 (valueM l 0 p).2).2 64).2)
 | 5=>((valueM l 1 p).1++[⟨21,((nextM l (valueM l 1 p).2 2).1:Int)⟩],(nextM l (valueM l 1 p).2 2).2)
 | 6=>([⟨22,((nextM l p 2).1:Int)⟩],(nextM l p 2).2)
 | 7=>([⟨23+((nextM l p 2).1:Int),((nextM l (nextM l p 2).2 2).1:Int)⟩],(nextM l (nextM l p 2).2 2).2)
 | 8=>([⟨25,((nextM l p 2).1:Int)⟩],(nextM l p 2).2)
 | 9=>([⟨26+((nextM l p 3).1:Int),((nextM l (nextM l p 3).2 64).1:Int)⟩],(nextM l (nextM l p 3).2 64).2)
 | 10=>((valueM l 1 p).1++[⟨29,((nextM l (valueM l 1 p).2 2).1:Int)⟩],(nextM l (valueM l 1 p).2 2).2)
 | 11=>([⟨30,0⟩],p)
 | 12=>((valueM l 1 p).1++[⟨13,((base+(valueM l 1 p).1.length+1+(rec (base+(valueM l 1 p).1.length+1) (valueM l 1 p).2).1.length:Nat):Int)⟩]++(rec (base+(valueM l 1 p).1.length+1) (valueM l 1 p).2).1,(rec (base+(valueM l 1 p).1.length+1) (valueM l 1 p).2).2)
 | 13 | 14=>((valueM l 0 p).1++[⟨14,((base+(valueM l 0 p).1.length+2+(rec (base+(valueM l 0 p).1.length+1) (valueM l 0 p).2).1.length:Nat):Int)⟩]++(rec (base+(valueM l 0 p).1.length+1) (valueM l 0 p).2).1++[⟨12,((base+(valueM l 0 p).1.length:Nat):Int)⟩],(rec (base+(valueM l 0 p).1.length+1) (valueM l 0 p).2).2)
 | _=>((valueM l 2 p).1++[⟨3,((nextM l (valueM l 2 p).2 3).1:Int)⟩],(nextM l (valueM l 2 p).2 3).2)
def stmtM (l:List UInt8):Nat→Nat→Nat→List Ins × Nat
 | 0,base,p=>stK l (fun _ p=>([],p)) base (if 11<(nextM l p 15).1 then 0 else (nextM l p 15).1) (nextM l p 15).2
 | d+1,base,p=>stK l (stmtM l d) base (nextM l p 15).1 (nextM l p 15).2
theorem stK_pos {l:List UInt8} {rec:Nat→Nat→List Ins × Nat} (hr:∀ b p,p≤l.length→(rec b p).2≤l.length) (base k p:Nat) (h:p≤l.length):(stK l rec base k p).2≤l.length:=by
 unfold stK
 split
 all_goals first
  | exact h
  | exact nextM_le h
  | exact nextM_le (nextM_le h)
  | exact valueM_le _ _ _ h
  | exact nextM_le (valueM_le _ _ _ h)
  | exact nextM_le (valueM_le _ _ _ (valueM_le _ _ _ h))
  | exact hr _ _ (valueM_le _ _ _ h)
theorem stmtM_le (l:List UInt8):∀ (d base p:Nat),p≤l.length→(stmtM l d base p).2≤l.length
 | 0,base,p,h=>stK_pos (fun _ _ h=>h) _ _ _ (nextM_le h)
 | d+1,base,p,h=>stK_pos (fun b p h=>stmtM_le l d b p h) _ _ _ (nextM_le h)
theorem stK_len {l:List UInt8} {rec:Nat→Nat→List Ins × Nat} {m:Nat} (hr:∀ b p,(rec b p).1.length≤m) (h8:4≤m) (base k p:Nat):(stK l rec base k p).1.length≤m+4:=by
 have a:=valueM_l0 l
 have b:=valueM_l1 l
 have c:=valueM_l2 l
 unfold stK
 split
 all_goals simp only [List.length_append,List.length_singleton]
 ·have:=b p;omega
 ·omega
 ·have:=a p;omega
 ·have:=a p;have:=a (valueM l 0 p).2;omega
 ·have:=b p;omega
 ·omega
 ·omega
 ·omega
 ·omega
 ·have:=b p;omega
 ·omega
 ·have:=b p;have:=hr (base+(valueM l 1 p).1.length+1) (valueM l 1 p).2;omega
 ·have:=a p;have:=hr (base+(valueM l 0 p).1.length+1) (valueM l 0 p).2;omega
 ·have:=a p;have:=hr (base+(valueM l 0 p).1.length+1) (valueM l 0 p).2;omega
 ·have:=c p;omega
theorem stmtM_len (l:List UInt8):∀ (d base p:Nat),(stmtM l d base p).1.length≤8+4 * d
 | 0,base,p=>by
  have:=stK_len (l:=l) (rec:=fun _ p=>([],p)) (m:=4) (fun _ _=>by simp) (by omega) base (if 11<(nextM l p 15).1 then 0 else (nextM l p 15).1) (nextM l p 15).2
  simp only [stmtM];omega
 | d+1,base,p=>by
  have:=stK_len (l:=l) (rec:=stmtM l d) (m:=8+4 * d) (fun b p=>stmtM_len l d b p) (by omega) base (nextM l p 15).1 (nextM l p 15).2
  simp only [stmtM];omega
theorem w_sum {a b:Nat} (h:a+b≤1000000):IntKind.i64.wrap ((a:Int)+(b:Int))=((a+b:Nat):Int):=by rw [w64 (by omega) (by omega)];omega
theorem insL1 (a:List Ins) (x y:DV):(insC a++[x,y]).length=(a.length+1) * 2:=by rw [List.length_append,insC_len];simp;omega
theorem insL2 (a b:List Ins):(insC a++insC b).length=(a.length+b.length) * 2:=by rw [List.length_append,insC_len,insC_len];omega
theorem insL3 (a b:List Ins) (x y:DV):(insC a++[x,y]++insC b).length=(a.length+1+b.length) * 2:=by rw [List.length_append,insL1,insC_len];omega
end Go.Pb
namespace Go.Pb
open Go.Sym
theorem stK_ne {l:List UInt8} {rec:Nat→Nat→List Ins × Nat} {base k p:Nat}:1≤(stK l rec base k p).1.length:=by
 unfold stK
 split<;>simp only [List.length_append,List.length_singleton]<;>omega
theorem stmtM_ne {l:List UInt8} {d base p:Nat}:1≤(stmtM l d base p).1.length:=by
 cases d with
 | zero=>simp only [stmtM];exact stK_ne
 | succ d=>simp only [stmtM];exact stK_ne
def keysM:List Ent:=[⟨0,1,0,0⟩,⟨0,2,0,0⟩,⟨0,3,3,0⟩,⟨0,5,1,0⟩,⟨0,6,0,0⟩,⟨1,1,0,0⟩,⟨1,3,3,0⟩,⟨1,4,63,0⟩,⟨1,6,1,0⟩]
def mdB (l:List UInt8):Nat→List Ins × Nat→List Ins × Nat
 | 0,x=>x
 | n+1,x=>((mdB l n x).1++(stmtM l 2 (mdB l n x).1.length (mdB l n x).2).1,(stmtM l 2 (mdB l n x).1.length (mdB l n x).2).2)
structure MS where
 I:List Ins
 E:List Ent
 p:Nat
def mdH (l:List UInt8) (key:Ent) (x:MS) (p:Nat):MS :=
 ⟨(mdB l (nextM l p 4).1 (x.I,(nextM l p 4).2)).1++[⟨31,0⟩],x.E++[⟨key.mode,key.trigger,key.index,(x.I.length:Int)⟩],(mdB l (nextM l p 4).1 (x.I,(nextM l p 4).2)).2⟩
def mdI (l:List UInt8) (key:Ent) (i:Nat) (x:MS):MS :=
 if i=0 then mdH l key x x.p else if (nextM l x.p 2).1=0 then ⟨x.I,x.E,(nextM l x.p 2).2⟩ else mdH l key x (nextM l x.p 2).2
def mdK (l:List UInt8):Nat→MS
 | 0=>⟨[],[],(nextM l (nextM l 0 4).2 4).2⟩
 | i+1=>mdI l (keysM.getD i ⟨0,0,0,0⟩) i (mdK l i)
def mdP (l:List UInt8):List Int:=[((nextM l 0 4).1:Int),((nextM l (nextM l 0 4).2 4).1:Int)]
def mdS:List (List UInt8):=[[103,111],[111,118,101,114]]
def mdV:List Int:=[0,5, -3]
def madeT (t:List UInt8):Prg:=⟨(mdK t 9).I,mdS,(mdK t 9).E,mdP t,mdV,2,2⟩
def madeM (l:List UInt8):Prg:=madeT (l.take 200)
theorem mdB_pos {l:List UInt8} {x:List Ins × Nat} (h:x.2≤l.length):∀ n,(mdB l n x).2≤l.length
 | 0=>h
 | n+1=>stmtM_le l 2 _ _ (mdB_pos h n)
theorem mdB_len {l:List UInt8} {x:List Ins × Nat}:∀ n,(mdB l n x).1.length≤x.1.length+16 * n
 | 0=>by simp [mdB]
 | n+1=>by
  have:=mdB_len (l:=l) (x:=x) n
  have:=stmtM_len l 2 (mdB l n x).1.length (mdB l n x).2
  simp only [mdB,List.length_append];omega
theorem mdH_p {l:List UInt8} {key:Ent} {x:MS} {p:Nat} (h:p≤l.length):(mdH l key x p).p≤l.length:=mdB_pos (x:=(x.I,(nextM l p 4).2)) (nextM_le h) _
theorem mdH_I {l:List UInt8} {key:Ent} {x:MS} {p:Nat}:(mdH l key x p).I.length≤x.I.length+49:=by
 have:=mdB_len (l:=l) (x:=(x.I,(nextM l p 4).2)) (nextM l p 4).1
 have:=nextM_lt (l:=l) (p:=p) (n:=4) (by omega)
 simp only [mdH,List.length_append,List.length_singleton];simp only at *;omega
theorem mdK_bd {l:List UInt8}:∀ i,(mdK l i).p≤l.length∧(mdK l i).I.length≤49 * i∧(mdK l i).E.length≤i
 | 0=>⟨nextM_le (nextM_le (Nat.zero_le _)),by simp [mdK],by simp [mdK]⟩
 | i+1=>by
  obtain ⟨a,b,c⟩:=mdK_bd (l:=l) i
  simp only [mdK,mdI]
  split
  ·exact ⟨mdH_p a,by have:=mdH_I (l:=l) (key:=keysM.getD i ⟨0,0,0,0⟩) (x:=mdK l i) (p:=(mdK l i).p);omega,by simp only [mdH,List.length_append,List.length_singleton];omega⟩
  ·split
   ·exact ⟨nextM_le a,by simp only;omega,by simp only;omega⟩
   ·exact ⟨mdH_p (nextM_le a),by have:=mdH_I (l:=l) (key:=keysM.getD i ⟨0,0,0,0⟩) (x:=mdK l i) (p:=(nextM l (mdK l i).p 2).2);omega,by simp only [mdH,List.length_append,List.length_singleton];omega⟩
theorem entC_snoc (l:List Ent) (e:Ent):cellsL ((l++[e]).map Ent.v)=cellsL (l.map Ent.v)++[I64 e.mode,I64 e.trigger,I64 e.index,I64 e.pos]:=by
 rw [List.map_append,cellsL_append];simp [cellsL,DV.cells]
theorem entC_nil {l:List Ent} (h:l=[]):cellsL (l.map Ent.v)=[]:=by rw [h];rfl
theorem insC_nil {l:List Ins} (h:l=[]):insC l=[]:=by rw [h];rfl
theorem len_nil {α : Type} {l:List α} (h:l=[]):l.length=0:=by rw [h];rfl
theorem slc_to {H:Hp} {sz n:Nat} {xs:List DV} (h:n≤xs.length) (hu:unit sz xs=true):slcR H sz (.lst xs) none (some (.int .i64 (n:Int)))=some (.lst (xs.take n)):=by
 have h1:boundOf xs.length (some (.int .i64 (n:Int)))=some n:=by simp [boundOf]
 have h2:boundOf 0 none=some 0:=by simp [boundOf]
 simp only [slcR,h1,h2,hu,h,Nat.zero_le,and_self,if_true,List.drop_zero,Nat.sub_zero]
theorem unit_bytes (l:List UInt8):unit 1 (bytesC l)=true:=unit_iff.2 (fun x hx=>by obtain ⟨b, -,rfl⟩:=List.mem_map.1 hx;rfl)
theorem slc_bytes {H:Hp} {n:Nat} {l:List UInt8} (h:n≤l.length):slcR H 1 (.lst (bytesC l)) none (some (.int .i64 (n:Int)))=some (.lst (bytesC (l.take n))):=by
 rw [slc_to (by rw [bytesC_len];exact h) (unit_bytes l)]
 simp [bytesC,List.map_take]
def delO (H:Hp):Option Nat→Hp
 | none=>H
 | some i=>H.del i
theorem r_lentodo {o:Option Nat} {n:Nat} (h:o=none→n=0):lenR (todoV o n)=some (I64 (n:Int)):=by
 cases o with
 | none=>rw [h rfl];rfl
 | some i=>rfl
theorem r_apptodo {H:Hp} {c sz bytes n m:Nat} {o:Option Nat} {cs src:List DV} (hn:o=none→n=0∧cs=[]) (hb:∀ i,o=some i→H i=some ⟨sz,true,cs⟩) (hl:cs.length=n * sz) (hm:1≤m) (h2:(n+m) * bytes≤140737488355328) (h3:n+m≤9223372036854775807) :
  appR H c sz bytes (todoV o n) m src=some (.slc c 0 (n+m),(delO H o).upd c ⟨sz,true,cs++src⟩,c+1):=by
 cases o with
 | none =>
  obtain ⟨rfl,rfl⟩:=hn rfl
  rw [todo_n,r_appn' (by omega) (by simpa using h2) (by omega)]
  simp [delO]
 | some i=>rw [todo_s,r_apps,hb i rfl,b_appx hl h2 h3];rfl
theorem delO_ne {H:Hp} {o:Option Nat} {j:Nat} (h:∀ i,o=some i→¬ j=i):delO H o j=H j:=by
 cases o with
 | none=>rfl
 | some i=>exact h_dne (h i rfl)
def MH (k:Nat) (l:List UInt8) (p:Nat) (S P V:DV) (I:List Ins) (E:List Ent) (o1 o2:Option Nat):Hp :=
 optH (optH (((Sym.nil.upd 0 ⟨0,true,[.snil,.snil,.snil,.snil,.snil,I64 0,I64 0]⟩).upd 1 (tapeB l p)).upd k ⟨0,true,[todoV o1 I.length,S,todoV o2 E.length,P,V,I64 2,I64 2]⟩) o1 ⟨2,true,insC I⟩) o2 ⟨4,true,cellsL (E.map Ent.v)⟩
structure MO (k:Nat) (o1 o2:Option Nat) (cc:Nat):Prop where
 k2:2≤k
 kc:k<cc
 a:∀ i,o1=some i→k<i∧i<cc
 b:∀ i,o2=some i→k<i∧i<cc
 ne:∀ i,o1=some i→o2≠some i
theorem optH_ne {H:Hp} {o:Option Nat} {b:Blk} {j:Nat} (h:∀ i,o=some i→¬ j=i):optH H o b j=H j:=by
 cases o with
 | none=>rfl
 | some i=>exact h_ne (h i rfl)
section
variable {l:List UInt8} {k p:Nat} {S P V:DV} {I:List Ins} {E:List Ent} {o1 o2:Option Nat} {cc:Nat}
theorem MH_0 (h:MO k o1 o2 cc):MH k l p S P V I E o1 o2 0=some ⟨0,true,[.snil,.snil,.snil,.snil,.snil,I64 0,I64 0]⟩:=by
 have:=h.k2
 unfold MH;rw [optH_ne (fun i hi=>by have:=h.b i hi;omega),optH_ne (fun i hi=>by have:=h.a i hi;omega),h_ne (by omega)];rfl
theorem MH_1 (h:MO k o1 o2 cc):MH k l p S P V I E o1 o2 1=some (tapeB l p):=by
 have:=h.k2
 unfold MH;rw [optH_ne (fun i hi=>by have:=h.b i hi;omega),optH_ne (fun i hi=>by have:=h.a i hi;omega),h_ne (by omega)];rfl
theorem MH_k (h:MO k o1 o2 cc):MH k l p S P V I E o1 o2 k=some ⟨0,true,[todoV o1 I.length,S,todoV o2 E.length,P,V,I64 2,I64 2]⟩:=by
 unfold MH;rw [optH_ne (fun i hi=>by have:=h.b i hi;omega),optH_ne (fun i hi=>by have:=h.a i hi;omega),h_same]
theorem MH_a (h:MO k o1 o2 cc) {i:Nat} (hi:o1=some i):MH k l p S P V I E o1 o2 i=some ⟨2,true,insC I⟩:=by
 unfold MH;rw [optH_ne (fun j hj e=>h.ne i hi (by rw [e];exact hj))];subst hi;exact h_same
theorem MH_b {i:Nat} (hi:o2=some i):MH k l p S P V I E o1 o2 i=some ⟨4,true,cellsL (E.map Ent.v)⟩:=by
 unfold MH;subst hi;exact h_same
theorem MH_n (h:MO k o1 o2 cc) {j:Nat} (hc:cc≤j):MH k l p S P V I E o1 o2 j=none:=by
 have:=h.k2
 have:=h.kc
 unfold MH;rw [optH_ne (fun i hi=>by have:=h.b i hi;omega),optH_ne (fun i hi=>by have:=h.a i hi;omega),h_ne (by omega),h_ne (by omega),h_ne (by omega)];rfl
theorem MH_t {p':Nat} (h:MO k o1 o2 cc):(MH k l p S P V I E o1 o2).upd 1 (tapeB l p')=MH k l p' S P V I E o1 o2:=by
 have hk:=h.k2
 funext j
 by_cases e:j=1
 ·subst e;rw [h_same,MH_1 h]
 ·rw [h_ne e]
  unfold MH
  by_cases e2:o2=some j
  ·subst e2;simp only [optH,h_same]
  ·have q2:∀ (X:Hp) b,optH X o2 b j=X j:=fun X b=>optH_ne (fun i hi e3=>e2 (by rw [e3];exact hi))
   rw [q2,q2]
   by_cases e1:o1=some j
   ·subst e1;simp only [optH,h_same]
   ·have q1:∀ (X:Hp) b,optH X o1 b j=X j:=fun X b=>optH_ne (fun i hi e3=>e1 (by rw [e3];exact hi))
    rw [q1,q1]
    by_cases ek:j=k
    ·subst ek;rw [h_same,h_same]
    ·rw [h_ne ek,h_ne ek,h_ne e,h_ne e]
theorem MH_sub {H:Hp} (h0:H 0=some ⟨0,true,[.snil,.snil,.snil,.snil,.snil,I64 0,I64 0]⟩) (h1:H 1=some (tapeB l p)) (hk:H k=some ⟨0,true,[todoV o1 I.length,S,todoV o2 E.length,P,V,I64 2,I64 2]⟩)
  (ha:∀ i,o1=some i→H i=some ⟨2,true,insC I⟩) (hb:∀ i,o2=some i→H i=some ⟨4,true,cellsL (E.map Ent.v)⟩):Sub (MH k l p S P V I E o1 o2) H:=by
 intro j b hj
 unfold MH at hj
 by_cases e2:o2=some j
 ·subst e2;simp only [optH,h_same] at hj;rw [hb j rfl];exact hj
 ·rw [optH_ne (fun i hi e3=>e2 (by rw [e3];exact hi))] at hj
  by_cases e1:o1=some j
  ·subst e1;simp only [optH,h_same] at hj;rw [ha j rfl];exact hj
  ·rw [optH_ne (fun i hi e3=>e1 (by rw [e3];exact hi))] at hj
   by_cases ek:j=k
   ·subst ek;rw [h_same] at hj;rw [hk];exact hj
   ·rw [h_ne ek] at hj
    by_cases e:j=1
    ·subst e;rw [h_same] at hj;rw [h1];exact hj
    ·rw [h_ne e] at hj
     by_cases e0:j=0
     ·subst e0;rw [h_same] at hj;rw [h0];exact hj
     ·rw [h_ne e0] at hj;cases hj
theorem MO.mono (h:MO k o1 o2 cc) {c2:Nat} (hc:cc≤c2):MO k o1 o2 c2 :=
 ⟨h.k2,by have:=h.kc;omega,fun i hi=>by have:=h.a i hi;omega,fun i hi=>by have:=h.b i hi;omega,h.ne⟩
end
end Go.Pb
namespace Go.Pb
open Go.Sym
abbrev mcC (c:Prg) (e:Envr) (v nv:Nat) (pc:Int) (dn:Bool) (sv ev:DV):List DV :=
 [inssV c.instrs,strs c.strings,entsV c.entries,ints c.prios,ints c.vars,I64 c.timers,I64 c.events,.slc v 0 nv,ints e.left,.int .u64 (e.closed:Int),.int .u32 (e.active:Int),I64 e.player,I64 e.ball,I64 pc,.bool dn,sv,ev]
structure MN (m v:Nat) (so eo:Option Nat) (x:Mch) (cc:Nat):Prop where
 mv:m≠v
 mc:m<cc
 vc:v<cc
 sb:∀ i,so=some i→i≠m∧i≠v∧i<cc
 eb:∀ i,eo=some i→i≠m∧i≠v∧i<cc
 se:∀ i j,so=some i→eo=some j→i≠j
 sn:so=none→x.stk=[]
 en:eo=none→x.effs=[]
def VR (x:Mch) (m v:Nat) (so eo:Option Nat) (junk:List DV) (M:Blk):Hp :=
 optH (optH ((Sym.nil.upd m M).upd v ⟨1,true,x.vars.map I64⟩) so ⟨1,true,x.stk.reverse.map I64++junk⟩) eo ⟨5,true,effC x.effs⟩
section
variable {x:Mch} {m v cc:Nat} {so eo:Option Nat} {junk:List DV} {M:Blk}
theorem VR_m (h:MN m v so eo x cc):VR x m v so eo junk M m=some M:=by
 rw [VR,optH_ne (fun i hi=>Ne.symm (h.eb i hi).1),optH_ne (fun i hi=>Ne.symm (h.sb i hi).1),h_ne h.mv,h_same]
theorem VR_v (h:MN m v so eo x cc):VR x m v so eo junk M v=some ⟨1,true,x.vars.map I64⟩:=by
 rw [VR,optH_ne (fun i hi=>Ne.symm (h.eb i hi).2.1),optH_ne (fun i hi=>Ne.symm (h.sb i hi).2.1),h_same]
theorem VR_s (h:MN m v so eo x cc) {i:Nat} (hi:so=some i):VR x m v so eo junk M i=some ⟨1,true,x.stk.reverse.map I64++junk⟩:=by
 rw [VR,optH_ne (fun j hj=>h.se i j hi hj)];subst hi;exact h_same
theorem VR_e {i:Nat} (hi:eo=some i):VR x m v so eo junk M i=some ⟨5,true,effC x.effs⟩:=by
 rw [VR];subst hi;exact h_same
theorem VR_n (h:MN m v so eo x cc) {j:Nat} (hj:cc≤j):VR x m v so eo junk M j=none:=by
 have:=h.mc
 have:=h.vc
 rw [VR,optH_ne (fun i hi=>by have:=(h.eb i hi).2.2;omega),optH_ne (fun i hi=>by have:=(h.sb i hi).2.2;omega),h_ne (by omega),h_ne (by omega)];rfl
theorem VR_upd (h:MN m v so eo x cc) (M':Blk):(VR x m v so eo junk M).upd m M'=VR x m v so eo junk M':=by
 funext j
 by_cases e:j=m
 ·subst e;rw [h_same,VR_m h]
 ·rw [h_ne e,VR,VR]
  cases so<;>cases eo<;>simp only [optH,Hp.upd,if_neg e]
theorem VR_com {k:Nat} (h:MN m v so eo x cc) (hk:¬ k=m) (B M':Blk):((VR x m v so eo junk M).upd k B).upd m M'=(VR x m v so eo junk M').upd k B:=by
 rw [← VR_upd (M:=M) h M']
 funext j
 by_cases e:j=m
 ·subst e;rw [h_same,h_ne (Ne.symm hk),h_same]
 ·rw [h_ne e]
  by_cases e2:j=k
  ·subst e2;rw [h_same,h_same]
  ·rw [h_ne e2,h_ne e2,h_ne e]
theorem VR_sub {X:Hp} (hm:X m=some M) (hv:X v=some ⟨1,true,x.vars.map I64⟩) (hs:∀ i,so=some i→X i=some ⟨1,true,x.stk.reverse.map I64++junk⟩) (he:∀ i,eo=some i→X i=some ⟨5,true,effC x.effs⟩) :
  Sub (VR x m v so eo junk M) X:=by
 intro j b hj
 rw [VR] at hj
 by_cases h1:eo=some j
 ·subst h1
  simp only [optH] at hj
  rw [h_same] at hj
  rw [← hj];exact he j rfl
 rw [optH_ne (fun i hi e=>h1 (by rw [e];exact hi))] at hj
 by_cases h2:so=some j
 ·subst h2
  simp only [optH] at hj
  rw [h_same] at hj
  rw [← hj];exact hs j rfl
 rw [optH_ne (fun i hi e=>h2 (by rw [e];exact hi))] at hj
 by_cases h3:j=v
 ·subst h3;rw [h_same] at hj;rw [← hj];exact hv
 rw [h_ne h3] at hj
 by_cases h4:j=m
 ·subst h4;rw [h_same] at hj;rw [← hj];exact hm
 rw [h_ne h4] at hj
 cases hj
end
section
variable {x x':Mch} {m v cc c' i:Nat} {so eo:Option Nat}
theorem MN.newS (h:MN m v so eo x cc) (h1:cc≤i) (h2:i<c') (he:x'.effs=x.effs):MN m v (some i) eo x' c':=by
 have:=h.mc
 have:=h.vc
 exact ⟨h.mv,by omega,by omega,fun j hj=>by cases hj;omega,fun j hj=>by have:=h.eb j hj;omega,fun j k hj hk=>by cases hj;have:=h.eb k hk;omega,fun e=>(by cases e),fun e=>by rw [he];exact h.en e⟩
theorem MN.newE (h:MN m v so eo x cc) (h1:cc≤i) (h2:i<c') (he:x'.stk=x.stk):MN m v so (some i) x' c':=by
 have:=h.mc
 have:=h.vc
 exact ⟨h.mv,by omega,by omega,fun j hj=>by have:=h.sb j hj;omega,fun j hj=>by cases hj;omega,fun j k hj hk=>by cases hk;have:=h.sb j hj;omega,fun e=>by rw [he];exact h.sn e,fun e=>(by cases e)⟩
theorem MN.keep (h:MN m v so eo x cc) (hc:cc≤c') (hs:so=none→x'.stk=[]) (he:eo=none→x'.effs=[]):MN m v so eo x' c':=by
 have:=h.mc
 have:=h.vc
 exact ⟨h.mv,by omega,by omega,fun j hj=>by have:=h.sb j hj;omega,fun j hj=>by have:=h.eb j hj;omega,h.se,hs,he⟩
end
theorem r_appj {H:Hp} {c sz bytes n m:Nat} {o:Option Nat} {cs junk src:List DV} (hn:o=none→n=0∧cs=[]) (hb:∀ i,o=some i→H i=some ⟨sz,true,cs++junk⟩) (hl:cs.length=n * sz) (hm:1≤m) (h2:(n+m) * bytes≤140737488355328) (h3:n+m≤9223372036854775807) :
  appR H c sz bytes (todoV o n) m src=some (.slc c 0 (n+m),(delO H o).upd c ⟨sz,true,cs++src⟩,c+1):=by
 cases o with
 | none =>
  obtain ⟨rfl,rfl⟩:=hn rfl
  rw [todo_n,r_appn' (by omega) (by simpa using h2) (by omega)]
  simp [delO]
 | some i =>
  have h:=b_appj (H:=H) (c:=c) (id:=i) (j:=junk) (cs:=src) hl h2 h3
  rw [← hb i rfl] at h
  exact h
theorem and1_64 {q:Nat} (h:q<18446744073709551616):bits .and .u64 (q:Int) 1=((q % 2:Nat):Int):=by
 have e1:BitVec.ofInt 64 (q:Int)=BitVec.ofNat 64 q:=by simp
 have e2:BitVec.ofInt 64 1=BitVec.ofNat 64 1:=by decide
 show IntKind.u64.wrap (((BitVec.ofInt 64 (q:Int)) &&& (BitVec.ofInt 64 1)).toNat:Int)=_
 rw [e1,e2,BitVec.toNat_and,BitVec.toNat_ofNat,BitVec.toNat_ofNat,Nat.mod_eq_of_lt (by omega),show 1 % 2 ^ 64=1 from rfl,Nat.and_one_is_mod,wu64 (by omega) (by omega)]
theorem wu32 {n:Int} (h1:0≤n) (h2:n≤4294967295):IntKind.u32.wrap n=n:=by
 simp only [IntKind.wrap,IntKind.bits,IntKind.signed]
 simp
 omega
theorem and1_32 {q:Nat} (h:q<4294967296):bits .and .u32 (q:Int) 1=((q % 2:Nat):Int):=by
 have e1:BitVec.ofInt 32 (q:Int)=BitVec.ofNat 32 q:=by simp
 have e2:BitVec.ofInt 32 1=BitVec.ofNat 32 1:=by decide
 show IntKind.u32.wrap (((BitVec.ofInt 32 (q:Int)) &&& (BitVec.ofInt 32 1)).toNat:Int)=_
 rw [e1,e2,BitVec.toNat_and,BitVec.toNat_ofNat,BitVec.toNat_ofNat,Nat.mod_eq_of_lt (by omega),show 1 % 2 ^ 32=1 from rfl,Nat.and_one_is_mod,wu32 (by omega) (by omega)]
theorem shr_nat {q a:Nat} {k k':IntKind} (h:a≤k.bits):binR .shr (.int k (q:Int)) (.int k' (a:Int))=some (.int k ((q / 2 ^ a:Nat):Int)):=by
 rw [r_shr (by omega),Int.toNat_natCast,Nat.min_eq_left h,Int.fdiv_eq_ediv_of_nonneg _ (by exact_mod_cast Nat.zero_le _)]
 rw [Int.natCast_ediv,Int.natCast_pow];rfl
def badM (least n:Int):Bool:=decide (n<least) || decide (n>2147483647)
def isEnvM (c:Prg) (e:Envr):Bool :=
 (validM c == 0) && decide (e.vars.length=c.vars.length) && decide ((e.left.length:Int)=c.timers) && !e.vars.any (badM (-2147483647)) && !e.left.any (badM 0) && decide (e.active / 2 ^ c.prios.length=0) && !badM 0 e.player && !badM 0 e.ball
structure StepOk (c:Prg) (e:Envr) (x:Mch) (i:Ins):Prop where
 lim:limitsM c=true
 at_:c.instrs[x.pc]? = some i
 num:numberM c i=true
 jmp:i.op=12∨i.op=13∨i.op=14→0≤i.A∧i.A≤(c.instrs.length:Int)-1
 need:(effM i.op).1≤(x.stk.length:Int)
 left:(e.left.length:Int)=c.timers
 vars:x.vars.length=c.vars.length
 stk:x.stk.length≤1000
 effs:x.effs.length≤1000
 bnd:∀ n∈x.stk, -2147483647≤n∧n≤2147483647
 clo:e.closed<18446744073709551616
 act:e.active<4294967296
end Go.Pb
namespace Go.Proofs.YtcallbfckjlagaaGreat
open Go.Eng (IC IOper DReg IFn IsFn)
open Go.Sym Go.Pb
section
def u39_1r:List IOper:=[oM 4 0,oM 5 0,oN 6 5,oF 7 6 15,oL 8 7,oM 9 1,⟨some 10,.new (.bsl 1 1 #[.int .i64 0] [(0,.t 9)]),none⟩,⟨some 11,.eff (.app 1 8 (.t 8) (.t 10)),none⟩,oN 12 4,oF 13 12 15,oS 13 11 1]
def u39_1:IC:=.reg u39_1r
def u39:IFn:=⟨14,u39_1,[]⟩
end
theorem isU39:IsFn Tryz.prog 39 u39:=by unfold IsFn;kernel_rfl
instance i39_1:WR Tryz.prog 14 u39_1 (rE u39_1r [0,1]):=⟨mkE⟩
attribute [go_sem] u39_1r
section
def u40_4r:List IOper:=[oM 30 3,oM 2 30]
def u40_4:IC:=.seq (.reg u40_4r) .ret
def u40_3r:DReg:=⟨[oM 16 0,oM 17 0,oN 18 17,oF 19 18 15,oL 20 19,oM 21 0,oN 22 21,oF 23 22 15,oL 24 23,oH 25 24,oK 26 25 .sub 1,oP 27 (.slc 1 (.t 20) none (some (.t 26))),oN 28 16,oF 29 28 15,oS 29 27 1],[[],[],[1],[2,1],[3,2,1],[],[5],[6,5],[7,6,5],[8,7,6,5],[9,8,7,6,5],[4,10,3,2,1,9,8,7,6,5],[0,1,2,3,4,5,6,7,8,9,10,11],[12,0,1,2,3,4,5,6,7,8,9,10,11],[13,11,0,1,2,3,4,5,6,7,8,9,10,12]],[(0,none),(1,none),(2,none),(3,none),(4,none),(5,none),(6,none),(7,none),(8,none),(9,none),(10,none),(11,none),(12,none),(13,none),(14,some [])]⟩
def u40_3:IC:=.seq (.drw 15 u40_3r) u40_4
def u40_2r:DReg:=⟨[oM 4 0,oN 5 4,oF 6 5 15,oL 7 6,oM 8 0,oN 9 8,oF 10 9 15,oL 11 10,oH 12 11,oK 13 12 .sub 1,oA 14 7 13 1,oL 15 14,oM 3 15],[[],[0],[1,0],[2,1,0],[],[4],[5,4],[6,5,4],[7,6,5,4],[8,7,6,5,4],[3,9,2,1,0,8,7,6,5,4],[10,3,9,2,1,0,8,7,6,5,4],[11,0,1,2,3,4,5,6,7,8,9,10]],[(0,none),(1,none),(2,none),(3,none),(4,none),(5,none),(6,none),(7,none),(8,none),(9,none),(10,none),(11,none),(12,some [])]⟩
def u40_2:IC:=.seq (.drw 13 u40_2r) u40_3
def u40_1r:List IOper:=[oI 2 0]
def u40_1:IC:=.seq (.reg u40_1r) u40_2
def u40:IFn:=⟨31,u40_1,[.tmp 2]⟩
end
theorem isU40:IsFn Tryz.prog 40 u40:=by unfold IsFn;kernel_rfl
instance i40_4:WR Tryz.prog 31 u40_4 (rS u40_4r .ret [3]):=⟨mkS⟩
instance i40_3:WR Tryz.prog 31 u40_3 (rP 15 u40_3r u40_4 [0,3]):=⟨mkP rfl⟩
instance i40_2:WR Tryz.prog 31 u40_2 (rP 13 u40_2r u40_3 [0]):=⟨mkP rfl⟩
instance i40_1:WR Tryz.prog 31 u40_1 (rS u40_1r u40_2 [0]):=⟨mkS⟩
attribute [go_sem] u40_4r u40_3r u40_2r u40_1r
section
def u43_2r:DReg:=⟨[oM 8 0,oM 9 0,oN 10 9,oF 11 10 16,oL 12 11,oF 13 5 0,oL 14 13,oF 15 5 1,oL 16 15,oM 17 2,oM 18 3,oP 19 (.bld #[.int .i64 0,.int .i64 0,.int .i64 0,.int .i64 0,.string ⟨#[]⟩] [(0,1),(1,1),(2,1),(3,1),(4,1)] [(0,.t 14),(1,.t 16),(2,.t 17),(3,.t 18)]),⟨some 20,.new (.bsl 5 1 #[.int .i64 0,.int .i64 0,.int .i64 0,.int .i64 0,.string ⟨#[]⟩] [(0,.t 19)]),none⟩,⟨some 21,.eff (.app 5 48 (.t 12) (.t 20)),none⟩,oN 22 8,oF 23 22 16,oS 23 21 1],[[],[],[1],[2,1],[3,2,1],[],[5],[],[7],[],[],[6,8,9,10,5,7],[11,6,8,9,10,5,7],[4,12,3,2,1,11,6,8,9,10,5,7],[0,1,2,3,4,5,6,7,8,9,10,11,12,13],[14,0,1,2,3,4,5,6,7,8,9,10,11,12,13],[15,13,0,1,2,3,4,5,6,7,8,9,10,11,12,14]],[(0,none),(1,none),(2,none),(3,none),(4,none),(5,none),(6,none),(7,none),(8,none),(9,none),(10,none),(11,none),(12,none),(13,some [0]),(14,none),(15,none),(16,some [])]⟩
def u43_2:IC:=.drw 17 u43_2r
def u43_1r:List IOper:=[⟨some 5,.new (.box (.t 1)),none⟩]
def u43_1:IC:=.seq (.reg u43_1r) u43_2
def u43:IFn:=⟨24,u43_1,[]⟩
end
theorem isU43:IsFn Tryz.prog 43 u43:=by unfold IsFn;kernel_rfl
instance i43_2:WR Tryz.prog 24 u43_2 (rDE 17 u43_2r [0,2,3,5]):=⟨mkDE⟩
instance i43_1:WR Tryz.prog 24 u43_1 (rS u43_1r u43_2 [0,1,2,3]):=⟨mkS⟩
attribute [go_sem] u43_2r u43_1r
abbrev vmB (c:Prg) (e:Envr) (x:Mch) (v:Nat) (so eo:Option Nat):Blk:=⟨0,true,mcC c e v x.vars.length (x.pc:Int) x.done (todoV so x.stk.length) (todoV eo x.effs.length)⟩
def VM (c:Prg) (e:Envr) (x:Mch) (m v:Nat) (so eo:Option Nat) (junk:List DV):Hp:=VR x m v so eo junk (vmB c e x v so eo)
section
variable {c:Prg} {e:Envr} {x:Mch} {m v cc:Nat} {so eo:Option Nat} {junk:List DV}
theorem VM_m (h:MN m v so eo x cc):VM c e x m v so eo junk m=some (vmB c e x v so eo):=VR_m h
theorem c_vput (h:MN m v so eo x cc) (hb:x.stk.length≤100000) (n:Int) :
  AC Tryz.prog 39 [.ptr m 0,I64 n] (VM c e x m v so eo junk) cc (fun r H' c'=>r=.tup []∧∃ s2,cc≤s2∧s2<c'∧H'=VM c e (x.push n) m v (some s2) eo []):=by
 refine AC.body mixedU isU39 (Nat.le_of_ble_eq_true rfl) fun hfr=>?_
 show IW Tryz.prog 14 u39_1 ⟨argT _,_,_⟩ (rt [] _)
 have hM:=VM_m (c:=c) (e:=e) (junk:=junk) h
 have hn:=h
 obtain ⟨h1,h2,h3,h4,h5,h6,h7,h8⟩:=h
 have ne0:¬m=v∧¬m=cc∧¬m=cc+1∧¬v=m∧¬v=cc∧¬v=cc+1∧¬cc=m∧¬cc=v∧¬cc=cc+1∧¬cc+1=m∧¬cc+1=v∧¬cc+1=cc:=by and_intros<;>omega
 have dm:∀ X,delO X so m=X m:=fun X=>delO_ne (fun i hi e=>(h4 i hi).1 e.symm)
 have dv:∀ X,delO X so v=X v:=fun X=>delO_ne (fun i hi e=>(h4 i hi).2.1 e.symm)
 repeat' ((first|with_reducible refine wr ?_|((with_reducible refine wb2 ?_ ?_)<;>(intro hb;try simp only [hb]))|fail)<;>try simp only [go_sem,seval,hM,ne0])
 refine k_eval (r_appj (cs:=x.stk.reverse.map I64) (junk:=junk) (fun e=>⟨len_nil (h7 e),by rw [h7 e];rfl⟩) (fun i hi=>?_) (by simp) (by omega) (by omega) (by omega)) ?_
 ·have:=h4 i hi
  rw [h_ne (by omega)];exact VR_s ⟨h1,h2,h3,h4,h5,h6,h7,h8⟩ hi
 simp only [go_sem,seval,dm,hM,ne0]
 repeat' ((first|with_reducible refine wr ?_|((with_reducible refine wb2 ?_ ?_)<;>(intro hb;try simp only [hb]))|fail)<;>try simp only [go_sem,seval,dm,hM,ne0])
 refine ⟨_,_,GL.less' (VR_sub (x:=x.push n) (m:=m) (v:=v) (so:=some (cc+1)) (eo:=eo) (junk:=[]) (M:=vmB c e (x.push n) v (some (cc+1)) eo) ?_ ?_ (fun i hi=>?_) (fun i hi=>?_)),rfl,cc+1,by omega,by omega,rfl⟩
 ·rw [h_same];simp [Mch.push,todoV]
 ·rw [h_ne (by omega),h_ne (by omega),dv,h_ne (by omega)];exact VR_v hn
 ·cases hi;rw [h_ne (by omega),h_same];simp [Mch.push]
 ·have:=h5 i hi
  rw [h_ne (by omega),h_ne (by omega),delO_ne (fun j hj e=>h6 j i hj hi e.symm),h_ne (by omega)];exact VR_e hi
theorem c_vtake (h:MN m v so eo x cc) (hb:x.stk.length≤100000) (n:Int) (S:List Int) (hS:x.stk=n :: S) :
  AC Tryz.prog 40 [.ptr m 0] (VM c e x m v so eo junk) cc (fun r H' c'=>r=I64 n∧H'=VM c e x.pop m v so eo (I64 n :: junk)):=by
 obtain ⟨i,rfl⟩:∃ i,so=some i:=by
  cases so with
  | none=>have:=h.sn rfl;rw [hS] at this;cases this
  | some i=>exact ⟨i,rfl⟩
 refine AC.body mixedU isU40 (Nat.le_of_ble_eq_true rfl) fun hfr=>?_
 show IW Tryz.prog 31 u40_1 ⟨argT _,_,_⟩ (rt [.tmp 2] _)
 have hn:=h
 have hM:=VM_m (c:=c) (e:=e) (junk:=junk) h
 have hs:VM c e x m v (some i) eo junk i=some ⟨1,true,x.stk.reverse.map I64++junk⟩:=VR_s h rfl
 obtain ⟨h1,h2,h3,h4,h5,h6,h7,h8⟩:=h
 obtain ⟨q1,q2,q3⟩:=h4 i rfl
 have hl:x.stk.length=S.length+1:=by rw [hS];rfl
 have hw:IntKind.i64.wrap (((S.length+1:Nat):Int)-1)=(S.length:Int):=by rw [w64 (by omega) (by omega)];omega
 have hcell:(x.stk.reverse.map I64++junk)[S.length]? = some (I64 n):=by rw [hS];simp
 have hle:S.length≤S.length+1:=by omega
 have ne0:¬m=v∧¬m=i∧¬v=m∧¬v=i∧¬i=m∧¬i=v:=by and_intros<;>omega
 repeat' ((first|with_reducible refine wr ?_|((with_reducible refine wb2 ?_ ?_)<;>(intro hb;try simp only [hb]))|fail)<;>try simp only [go_sem,seval,hM,hs,hl,hw,hcell,hle,Nat.lt_add_one,Nat.le_add_right,ne0])
 refine ⟨_,_,GL.less' (VR_sub (x:=x.pop) (m:=m) (v:=v) (so:=some i) (eo:=eo) (junk:=I64 n :: junk) (M:=vmB c e x.pop v (some i) eo) ?_ ?_ (fun j hj=>?_) (fun j hj=>?_)),rfl,rfl⟩
 ·rw [h_same];simp [Mch.pop,todoV,hS]
 ·rw [h_ne (by omega)];exact VR_v hn
 ·cases hj;rw [h_ne q1,hs];simp [Mch.pop,hS]
 ·have:=h5 j hj
  rw [h_ne (by omega)];exact VR_e hj
theorem c_veff (h:MN m v so eo x cc) (hb:x.effs.length≤100000) (op A b d:Int) :
  AC Tryz.prog 43 [.ptr m 0,.agg [I64 op,I64 A],I64 b,I64 d] (VM c e x m v so eo junk) cc (fun r H' c'=>r=.tup []∧∃ s2,cc≤s2∧s2<c'∧H'=VM c e (x.ask ⟨op,A,b,d,[]⟩) m v so (some s2) junk):=by
 refine AC.body mixedU isU43 (Nat.le_of_ble_eq_true rfl) fun hfr=>?_
 show IW Tryz.prog 24 u43_1 ⟨argT _,_,_⟩ (rt [] _)
 have hM:=VM_m (c:=c) (e:=e) (junk:=junk) h
 have hn:=h
 obtain ⟨h1,h2,h3,h4,h5,h6,h7,h8⟩:=h
 have fn:=fun j (hj:cc≤j)=>VR_n (junk:=junk) (M:=vmB c e x v so eo) hn hj
 have ne0:¬m=v∧¬m=cc∧¬m=cc+1∧¬m=cc+1+12∧¬m=cc+1+17∧¬v=m∧¬v=cc∧¬v=cc+1∧¬v=cc+1+12∧¬v=cc+1+17∧¬cc=m∧¬cc=v∧¬cc=cc+1∧¬cc=cc+1+12∧¬cc=cc+1+17∧¬cc+1=m∧¬cc+1=v∧¬cc+1=cc∧¬cc+1=cc+1+12∧¬cc+1=cc+1+17∧¬cc+1+12=m∧¬cc+1+12=v∧¬cc+1+12=cc∧¬cc+1+12=cc+1∧¬cc+1+12=cc+1+17∧¬cc+1+17=m∧¬cc+1+17=v∧¬cc+1+17=cc∧¬cc+1+17=cc+1∧¬cc+1+17=cc+1+12:=by and_intros<;>omega
 have dm:∀ X,delO X eo m=X m:=fun X=>delO_ne (fun i hi e=>(h5 i hi).1 e.symm)
 have dc:∀ X,delO X eo cc=X cc:=fun X=>delO_ne (fun i hi e=>by have:=h5 i hi;omega)
 have dc1:∀ X,delO X eo (cc+1)=X (cc+1):=fun X=>delO_ne (fun i hi e=>by have:=h5 i hi;omega)
 have f1:VM c e x m v so eo junk (cc+1)=none:=fn (cc+1) (by omega)
 repeat' ((first|with_reducible refine wr ?_|((with_reducible refine wb2 ?_ ?_)<;>(intro hb;try simp only [hb]))|fail)<;>try simp only [go_sem,seval,hM,ne0])
 refine x_eval (r_apptodo (cs:=effC x.effs) (fun e=>⟨len_nil (h8 e),by rw [h8 e];rfl⟩) (fun i hi=>?_) (effC_len _) (by omega) (by omega) (by omega)) ?_
 ·have:=h5 i hi
  rw [h_ne (by omega),h_ne (by omega)];exact VR_e hi
 simp only [go_sem,seval,dm,dc,dc1,f1,hM,ne0]
 repeat' ((first|with_reducible refine wr ?_|((with_reducible refine wb2 ?_ ?_)<;>(intro hb;try simp only [hb]))|fail)<;>try simp only [go_sem,seval,dm,dc,dc1,f1,hM,ne0])
 refine ⟨_,_,GL.less' (VR_sub (x:=x.ask ⟨op,A,b,d,[]⟩) (m:=m) (v:=v) (so:=so) (eo:=some (cc+1+17)) (junk:=junk) (M:=vmB c e (x.ask ⟨op,A,b,d,[]⟩) v so (some (cc+1+17))) ?_ ?_ (fun i hi=>?_) (fun i hi=>?_)),rfl,cc+1+17,by omega,by omega,rfl⟩
 ·rw [h_same];simp [Mch.ask,todoV]
 ·rw [h_ne (by omega),h_ne (by omega),delO_ne (fun j hj e=>(h5 j hj).2.1 e.symm),h_ne (by omega),h_ne (by omega)];exact VR_v hn
 ·have:=h4 i hi
  rw [h_ne (by omega),h_ne (by omega),delO_ne (fun j hj=>h6 i j hi hj),h_ne (by omega),h_ne (by omega)];exact VR_s hn hi
 ·cases hi;rw [h_ne (by omega),h_same];simp [Mch.ask,effC_app,effC_one]
end
end Go.Proofs.YtcallbfckjlagaaGreat
end

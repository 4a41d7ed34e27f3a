/-
  HELPERS of the claim: part 5 of its texts.
-/
import Derived.Test.YtcallbfckjlagaaDoorJudd
noncomputable section
set_option maxHeartbeats 4000000
set_option maxRecDepth 100000
set_option linter.unusedSimpArgs false
set_option linter.unusedVariables false
namespace Go.Proofs.YtcallbfckjlagaaDoor
open Go.Eng (IC IOper DReg IFn IsFn)
open Go.Sym Go.Pb
section
abbrev u51_9:IC:=qS [oM 15 4,oP 16 (.bin .add (.k (.int .i64 48)) (.t 15)),oP 17 (.cvi .u8 (.t 16)),⟨some 18,.new (.bsl 1 1 #[.int .u8 0] [(0,.t 17)]),none⟩,oP 19 (.cvbs (.t 18)),oP 20 (.bin .add (.k (.string ⟨#[45]⟩)) (.t 19)),oM 2 20] .ret [4]
abbrev u51_8:IC:=qK u51_9 .skip (.t 14) [3,4,14]
abbrev u51_7:IC:=qS [oM 13 3,oK 14 13 .eql 0] u51_8 [3,4]
abbrev u51_10:IC:=qD [oM 21 3,oC 22 51 [.t 21],oM 23 4,oP 24 (.bin .add (.k (.int .i64 48)) (.t 23)),oP 25 (.cvi .u8 (.t 24)),⟨some 26,.new (.bsl 1 1 #[.int .u8 0] [(0,.t 25)]),none⟩,oP 27 (.cvbs (.t 26)),oB 28 22 27 .add,oM 2 28] .ret [(0,none),(2,none),(3,none),(4,none),(5,none),(6,none),(1,some [2,3,4,5,6]),(7,none),(8,some [])] 9 [3,4]
abbrev u51_6:IC:=qQ u51_7 u51_10 [3,4]
abbrev u51_5:IC:=qS [oM 8 0,oK 9 8 .quo 10,oM 10 0,oK 11 10 .rem 10,oP 12 (.un .neg (.t 11)),oM 3 9,oM 4 12] u51_6 [0]
abbrev u51_4:IC:=qK u51_5 .skip (.t 7) [0,7]
abbrev u51_3:IC:=qS [oM 6 0,oK 7 6 .lss 0] u51_4 [0]
abbrev u51_15:IC:=qS [oM 37 5,oM 2 37] .ret [5]
abbrev u51_14:IC:=qK u51_15 .skip (.t 36) [0,5,36]
abbrev u51_13:IC:=qS [oM 35 0,oK 36 35 .lss 10] u51_14 [0,5]
abbrev u51_16:IC:=qS [oM 38 0,oK 39 38 .quo 10,oC 40 51 [.t 39],oM 41 5,oB 42 40 41 .add,oM 2 42] .ret [0,5]
abbrev u51_12:IC:=qQ u51_13 u51_16 [0,5]
abbrev u51_11:IC:=qS [oM 29 0,oK 30 29 .rem 10,oP 31 (.bin .add (.k (.int .i64 48)) (.t 30)),oP 32 (.cvi .u8 (.t 31)),⟨some 33,.new (.bsl 1 1 #[.int .u8 0] [(0,.t 32)]),none⟩,oP 34 (.cvbs (.t 33)),oM 5 34] u51_12 [0]
abbrev u51_2:IC:=qQ u51_3 u51_11 [0]
abbrev u51_1:IC:=qS [oV 2 (.string ⟨#[]⟩)] u51_2 [0]
def u51:IFn:=⟨43,u51_1,[.tmp 2]⟩
end
theorem isU51:IsFn Tryd.prog 51 u51:=by unfold IsFn;kernel_rfl
theorem c_Dec:∀ (m:Nat) (n:Int),n.natAbs<m → -9223372036854775808≤n→n≤9223372036854775807→PC Tryd.prog 51 [I64 n] (.str (decI n)):=by
 intro m
 induction m with
 | zero=>intro n h;omega
 | succ m ih =>
  intro n h h1 h2
  have b:=dig_u8 (d:=lo10 n) (lo10_lt n)
  have hl:=lo10_lt n
  by_cases h0:n<0
  ·have hd:decide (n<0)=true:=by simpa using h0
   have e1:=neg_div h0
   have e2:=neg_mod h0
   have hh:=hi10_le (n:=n) (by omega)
   have w1:=w64 (n := -((hi10 n:Nat):Int)) (by omega) (by omega)
   have w2:=w64 (n:=0 - -((lo10 n:Nat):Int)) (by omega) (by omega)
   have w3:0 - -((lo10 n:Nat):Int)=(lo10 n:Int):=by omega
   rw [w3] at w2
   have hlen:=decI_len (n := -((hi10 n:Nat):Int)) (by omega) (by omega)
   have a0:=sadd (s:=decI (-((hi10 n:Nat):Int))) (t:=[digB (lo10 n)]) (by simp;omega)
   have a2:cvbsR (nil.upd 5 ⟨1,true,[DV.int .u8 ((digB (lo10 n)).toNat:Int)]⟩) (.slc 5 0 1)=some (.str [digB (lo10 n)]):=cv_own h_same rfl rfl
   have a1:=sadd (s:=[45]) (t:=[digB (lo10 n)]) (by simp)
   refine PC.of mixedU isU51 (Nat.le_of_ble_eq_true rfl) (by simp [DV.nlL,DV.nl,nlL_ints,nlL_strs,nlL_instrs,nlL_entries,nlL_stp]) (by simp [DV.nlL,DV.nl,nlL_ints,nlL_strs,nlL_instrs,nlL_entries,nlL_stp]) ?_
   show IW Tryd.prog 43 u51_1 ⟨argT _,_,_⟩ (rt [.tmp 2] _)
   repeat' ((first|(with_reducible first|refine wr ?_|refine cpc (ih (-((hi10 n:Nat):Int)) (by omega) (by omega) (by omega)) ?_)|(with_reducible refine wb2 ?_ ?_<;>(intro hb;try simp only [hb]))|((with_reducible refine k_val (cv_own (l:=[digB (lo10 n)]) h_same rfl rfl) ?_))|fail)<;>try simp only [go_sem,seval,hd,r_rem,r_quo,e1,e2,w1,w3,w2,b,a0,a1,a2])
   ·rw [decI_neg0 h0 (by simpa using hb)];exact pc_ret rfl
   ·rw [decI_neg h0 (by simpa using hb)]
    refine ⟨?_,?_⟩
    ·rw [ag_n]
     exact ⟨some 1,_,rfl,rfl,rfl⟩
    ·repeat' ((with_reducible first|refine wr ?_|refine wb2 ?_ ?_<;>(intro hb;try simp only [hb])|fail)<;>try simp only [go_sem,seval])
     exact pc_ret rfl
  ·have hd:decide (n<0)=false:=by simpa using h0
   have e1:=pos_div (n:=n) (by omega)
   have e2:=pos_mod (n:=n) (by omega)
   have hh:hi10 n≤n.natAbs:=by unfold hi10;omega
   have w1:=w64 (n:=((hi10 n:Nat):Int)) (by omega) (by omega)
   have hlen:=decI_len (n:=((hi10 n:Nat):Int)) (by omega) (by omega)
   have a0:=sadd (s:=decI ((hi10 n:Nat):Int)) (t:=[digB (lo10 n)]) (by simp;omega)
   by_cases h9:n<10
   ·have hd9:decide (n<10)=true:=by simpa using h9
    refine PC.of mixedU isU51 (Nat.le_of_ble_eq_true rfl) (by simp [DV.nlL,DV.nl,nlL_ints,nlL_strs,nlL_instrs,nlL_entries,nlL_stp]) (by simp [DV.nlL,DV.nl,nlL_ints,nlL_strs,nlL_instrs,nlL_entries,nlL_stp]) ?_
    show IW Tryd.prog 43 u51_1 ⟨argT _,_,_⟩ (rt [.tmp 2] _)
    repeat' ((first|(with_reducible first|refine wr ?_)|(with_reducible refine wb2 ?_ ?_<;>(intro hb;try simp only [hb]))|((with_reducible refine k_val (cv_own (l:=[digB (lo10 n)]) h_same rfl rfl) ?_))|fail)<;>try simp only [go_sem,seval,hd,hd9,r_rem,r_quo,e1,e2,w1,b])
    rw [decI_lt (by omega) h9];exact pc_ret rfl
   ·have hd9:decide (n<10)=false:=by simpa using h9
    have hh:=hi10_le (n:=n) (by omega)
    refine PC.of mixedU isU51 (Nat.le_of_ble_eq_true rfl) (by simp [DV.nlL,DV.nl,nlL_ints,nlL_strs,nlL_instrs,nlL_entries,nlL_stp]) (by simp [DV.nlL,DV.nl,nlL_ints,nlL_strs,nlL_instrs,nlL_entries,nlL_stp]) ?_
    show IW Tryd.prog 43 u51_1 ⟨argT _,_,_⟩ (rt [.tmp 2] _)
    repeat' ((first|(with_reducible first|refine wr ?_|refine cpc (ih ((hi10 n:Nat):Int) (by omega) (by omega) (by omega)) ?_)|(with_reducible refine wb2 ?_ ?_<;>(intro hb;try simp only [hb]))|((with_reducible refine k_val (cv_own (l:=[digB (lo10 n)]) h_same rfl rfl) ?_))|fail)<;>try simp only [go_sem,seval,hd,hd9,r_rem,r_quo,e1,e2,w1,b,a0])
    rw [decI_ge h9];exact pc_ret rfl
end Go.Proofs.YtcallbfckjlagaaDoor
namespace Go.Proofs.YtcallbfckjlagaaDoor
open Go.Eng (IC IOper DReg IFn IsFn)
open Go.Sym Go.Pb
section
abbrev u26_8:IC:=qK .skip (.exit 0) (.t 9) [1,3,4,9]
abbrev u26_7:IC:=qS [oM 5 4,oF 6 1 0,oL 7 6,oH 8 7,oB 9 5 8 .lss] u26_8 [1,3,4]
abbrev u26_10:IC:=qG [oM 12 3,oM 13 4,oC 14 51 [.t 13],oB 15 12 14 .add,oP 16 (.bin .add (.t 15) (.k (.string ⟨#[32]⟩))),oF 17 1 0,oL 18 17,oM 19 4,oA 20 18 19 2,oF 21 20 0,oL 22 21,oC 23 51 [.t 22],oB 24 16 23 .add,oP 25 (.bin .add (.t 24) (.k (.string ⟨#[32]⟩))),oF 26 1 0,oL 27 26,oM 28 4,oA 29 27 28 2,oF 30 29 1,oL 31 30,oC 32 51 [.t 31],oB 33 25 32 .add,oP 34 (.bin .add (.t 33) (.k (.string ⟨#[10]⟩))),oM 3 34] [(0,none),(1,none),(5,none),(6,none),(7,none),(8,none),(9,none),(10,none),(14,none),(15,none),(16,none),(17,none),(18,none),(19,none),(2,some [0,5,6,7,8,9,10,14,15,16,17,18,19]),(3,none),(4,none),(11,some [0,14,15,16,17,18,19,3,4]),(12,none),(13,none),(20,some [0,3,4,12,13]),(21,none),(22,none),(23,some [])] 24 [1,3,4]
abbrev u26_11:IC:=qE [oM 10 4,oK 11 10 .add 1,oM 4 11] [1,3,4]
abbrev u26_9:IC:=qB u26_10 u26_11 1 [1,3,4]
abbrev u26_6:IC:=qQ u26_7 u26_9 [1,3,4]
abbrev u26_5:IC:=qJ (.loop u26_6) 0 [1,3,4]
abbrev u26_4:IC:=qS [oI 4 0] u26_5 [1,3]
abbrev u26_12:IC:=qS [oM 35 3,oM 2 35] .ret [3]
abbrev u26_3:IC:=qQ u26_4 u26_12 [1,3]
abbrev u26_2:IC:=qS [oV 3 (.string ⟨#[]⟩)] u26_3 [1]
abbrev u26_1:IC:=qS [oX 1 0,oV 2 (.string ⟨#[]⟩)] u26_2 [0]
def u26:IFn:=⟨36,u26_1,[.tmp 2]⟩
end
theorem isU26:IsFn Tryd.prog 26 u26:=by unfold IsFn;kernel_rfl
theorem c_Dec' (n:Int) (h1 : -9223372036854775808≤n) (h2:n≤9223372036854775807):PC Tryd.prog 51 [I64 n] (.str (decI n)):=c_Dec (n.natAbs+1) n (by omega) h1 h2
theorem c_ListingR (c:Prg) (hl:c.instrs.length≤1000000) (hb:∀ i∈c.instrs,I6 i.op∧I6 i.A):PC Tryd.prog 26 [c.v] (.str (lstF c.instrs 0)):=by
 refine PC.of mixedU isU26 (Nat.le_of_ble_eq_true rfl) (by simp [DV.nlL,DV.nl,nlL_ints,nlL_strs,nlL_instrs,nlL_entries,nlL_stp]) (by simp [DV.nlL,DV.nl,nlL_ints,nlL_strs,nlL_instrs,nlL_entries,nlL_stp]) ?_
 show IW Tryd.prog 36 u26_1 ⟨argT _,_,_⟩ (rt [.tmp 2] _)
 repeat' ((with_reducible first|refine wr ?_|refine wb2 ?_ ?_<;>(intro hb;try simp only [hb])|fail)<;>try simp only [go_sem,seval])
 refine i_loop (fun k:Nat=>[(1,.ptr 0 0),(3,.str (lstF (c.instrs.take k) 0)),(4,I64 k)]) (fun _=>nil.upd 0 ⟨0,true,c.cs⟩) (fun k cc=>1≤cc∧k≤c.instrs.length) (fun k=>c.instrs.length-k) 0 (by simp [tmLe,tm,Tm.upd,lstF]) (Sub.refl _) (by simp) ?_
 rintro k cc ⟨h1c,hk⟩
 by_cases hlt:k<c.instrs.length
 ·have hd:decide ((k:Int)<c.instrs.length)=true:=by simpa using hlt
  have hg:=List.getElem?_eq_getElem hlt
  have hw:=w64 (n:=(k:Int)+1) (by omega) (by omega)
  have hx:=hb _ (List.getElem_mem hlt)
  have l0:=lstF_len (c.instrs.take k) 0 (by simp;omega) (fun i hi=>hb i (List.mem_of_mem_take hi))
  have l4:(c.instrs.take k).length≤1000000:=by simp;omega
  have l1:=decI_len (n:=(k:Int)) (by omega) (by omega)
  have l2:=decI_len hx.1.1 hx.1.2
  have l3:=decI_len hx.2.1 hx.2.2
  have a0:=sadd (s:=lstF (c.instrs.take k) 0) (t:=decI k) (by first|omega|(simp only [List.length_append,List.length_singleton];omega))
  have a1:=sadd (s:=lstF (c.instrs.take k) 0++decI k) (t:=[32]) (by first|omega|(simp only [List.length_append,List.length_singleton];omega))
  have a2:=sadd (s:=lstF (c.instrs.take k) 0++decI k++[32]) (t:=decI c.instrs[k].op) (by first|omega|(simp only [List.length_append,List.length_singleton];omega))
  have a3:=sadd (s:=lstF (c.instrs.take k) 0++decI k++[32]++decI c.instrs[k].op) (t:=[32]) (by first|omega|(simp only [List.length_append,List.length_singleton];omega))
  have a4:=sadd (s:=lstF (c.instrs.take k) 0++decI k++[32]++decI c.instrs[k].op++[32]) (t:=decI c.instrs[k].A) (by first|omega|(simp only [List.length_append,List.length_singleton];omega))
  have a5:=sadd (s:=lstF (c.instrs.take k) 0++decI k++[32]++decI c.instrs[k].op++[32]++decI c.instrs[k].A) (t:=[10]) (by first|omega|(simp only [List.length_append,List.length_singleton];omega))
  have fa1:¬cc+1=0:=by omega
  have fa2:¬cc+2=0:=by omega
  have fa3:¬cc+3=0:=by omega
  have fa4:¬cc+4=0:=by omega
  have fa5:¬cc+5=0:=by omega
  have fa6:¬cc+6=0:=by omega
  have fa7:¬cc+7=0:=by omega
  have fa8:¬cc+8=0:=by omega
  have fa9:¬cc+9=0:=by omega
  have fa10:¬cc+10=0:=by omega
  have fa11:¬cc+11=0:=by omega
  have fa12:¬cc+12=0:=by omega
  have fa13:¬cc+13=0:=by omega
  have fa14:¬cc+14=0:=by omega
  have fa15:¬cc+15=0:=by omega
  have fa16:¬cc+16=0:=by omega
  have fa17:¬cc+17=0:=by omega
  have fa18:¬cc+18=0:=by omega
  have fa19:¬cc+19=0:=by omega
  have fa20:¬cc+20=0:=by omega
  have fa21:¬cc+21=0:=by omega
  have fa22:¬cc+22=0:=by omega
  have fa23:¬cc+23=0:=by omega
  have fa24:¬cc+24=0:=by omega
  have fa0:¬cc=0:=by omega
  repeat' ((with_reducible first|refine wr ?_|refine cpc (c_Dec' (k:Int) (by omega) (by omega)) ?_|refine cpc (c_Dec' _ hx.1.1 hx.1.2) ?_|refine cpc (c_Dec' _ hx.2.1 hx.2.2) ?_|refine wb2 ?_ ?_<;>(intro hb;try simp only [hb])|fail)<;>try simp only [go_sem,seval,hd,hg,hw,a0,a1,a2,a3,a4,a5,fa0,fa1,fa2,fa3,fa4,fa5,fa6,fa7,fa8,fa9,fa10,fa11,fa12,fa13,fa14,fa15,fa16,fa17,fa18,fa19,fa20,fa21,fa22,fa23,fa24])
  exact ⟨k+1,by rw [lstF_step hg];simp [lineB,List.append_assoc],Sub.refl _,inv ⟨by omega,hlt⟩,by omega⟩
 have hd:decide ((k:Int)<c.instrs.length)=false:=by simpa using hlt
 repeat' ((with_reducible first|refine wr ?_|refine wb2 ?_ ?_<;>(intro hb;try simp only [hb])|fail)<;>try simp only [go_sem,seval,hd])
 rw [List.take_of_length_le (by omega)]
 exact pc_ret rfl
end Go.Proofs.YtcallbfckjlagaaDoor
set_option linter.unusedSectionVars false
namespace Go.Pb
variable [Go.Sym.Tab]
open Go.Sym
def nextM (l:List UInt8) (p:Nat) (n:Nat):Nat × Nat:=if l.length≤p then (0,p) else ((l.getD p 0).toNat % n,p+1)
abbrev tapeB (l:List UInt8) (p:Nat):Blk:=⟨0,true,[.lst (bytesC l),I64 (p:Int)]⟩
theorem getB {l:List UInt8} {p:Nat} (h:p<l.length):(bytesC l)[p]? = some (DV.int .u8 ((l.getD p 0).toNat:Int)):=by
 simp [bytesC,List.getD,h]
theorem wb64 (b:UInt8):IntKind.i64.wrap (b.toNat:Int)=(b.toNat:Int):=by
 have:=b.toNat_lt
 exact w64 (by omega) (by omega)
theorem nat_tmod (a b:Nat):(a:Int).tmod (b:Int)=((a % b:Nat):Int):=by simp [Int.tmod]
def pushT:List Int:=[0,1,2,3, -1,7,1000,2147483647, -2147483647,65536]
def valueM (l:List UInt8):Nat→Nat→List Ins × Nat
 | d,p =>
  let (k0,p):=nextM l p 9
  let k:=if d=0∧5<k0 then 0 else k0
  match k,d with
  | 1,_=>let (a,p):=nextM l p 3;([⟨2,a⟩],p)
  | 2,_=>let (a,p):=nextM l p 64;([⟨4,a⟩],p)
  | 3,_=>let (a,p):=nextM l p 2;([⟨5,a⟩],p)
  | 4,_=>let (a,p):=nextM l p 2;([⟨6,a⟩],p)
  | 5,_=>let (a,p):=nextM l p 2;([⟨7+a,0⟩],p)
  | 6,d+1=>let (v,p):=valueM l d p;let (a,p):=nextM l p 2;(v++[⟨9+a,0⟩],p)
  | 7,d+1=>let (v,p):=valueM l d p;let (w,p):=valueM l d p;let (a,p):=nextM l p 13;(v++w++[⟨11,12+a⟩],p)
  | 8,d+1=>let (v,p):=valueM l d p;let (w,p):=valueM l d p;let (a,p):=nextM l p 13;(v++w++[⟨11,12+a⟩],p)
  | _,_=>let (a,p):=nextM l p 10;([⟨1,pushT.getD a 0⟩],p)
theorem nextM_le {l:List UInt8} {p n:Nat} (h:p≤l.length):(nextM l p n).2≤l.length:=by
 unfold nextM;split<;>simp only<;>omega
theorem nextM_lt {l:List UInt8} {p n:Nat} (h:1≤n):(nextM l p n).1<n:=by
 unfold nextM;split
 ·exact h
 ·exact Nat.mod_lt _ h
def insC (l:List Ins):List DV:=cellsL (l.map Ins.v)
theorem insC_app (a b:List Ins):insC (a++b)=insC a++insC b:=by simp [insC,cellsL_append]
theorem insC_one (i:Ins):insC [i]=[I64 i.op,I64 i.A]:=by simp [insC,cellsL,DV.cells]
theorem insC_len (l:List Ins):(insC l).length=l.length * 2:=by
 unfold insC
 rw [cellsL_length (u:=2)]
 ·simp
 ·intro x hx;obtain ⟨y, -,rfl⟩:=List.mem_map.1 hx;rfl
theorem push_get {a:Nat} (h:a<10):[DV.int .i64 0,DV.int .i64 1,DV.int .i64 2,DV.int .i64 3,DV.int .i64 (-1),DV.int .i64 7,DV.int .i64 1000,DV.int .i64 2147483647,DV.int .i64 (-2147483647),DV.int .i64 65536][a]? = some (I64 (pushT.getD a 0)):=by
 match a,h with
 | 0,_ | 1,_ | 2,_ | 3,_ | 4,_ | 5,_ | 6,_ | 7,_ | 8,_ | 9,_=>rfl
theorem valueM_le (l:List UInt8):∀ (d p:Nat),p≤l.length→(valueM l d p).2≤l.length
 | d,p,h=>by
  have h1:=nextM_le (n:=9) h
  unfold valueM
  simp only
  generalize (if d=0∧5<(nextM l p 9).1 then 0 else (nextM l p 9).1)=k
  split
  ·exact nextM_le h1
  ·exact nextM_le h1
  ·exact nextM_le h1
  ·exact nextM_le h1
  ·exact nextM_le h1
  ·exact nextM_le (valueM_le l _ _ h1)
  ·exact nextM_le (valueM_le l _ _ (valueM_le l _ _ h1))
  ·exact nextM_le (valueM_le l _ _ (valueM_le l _ _ h1))
  ·exact nextM_le h1
theorem insC_len2 (l:List Ins):(insC l).length=l.length * 2:=insC_len l
theorem valueM_len (l:List UInt8):∀ (d p:Nat),(valueM l d p).1.length+1≤2 ^ (d+1)
 | d,p=>by
  have h0:1≤2 ^ d:=Nat.one_le_two_pow
  have h1:2 ^ (d+1)=2 * 2 ^ d:=by rw [Nat.pow_succ];omega
  unfold valueM
  simp only
  generalize (if d=0∧5<(nextM l p 9).1 then 0 else (nextM l p 9).1)=k
  split
  ·simp only [List.length_singleton];omega
  ·simp only [List.length_singleton];omega
  ·simp only [List.length_singleton];omega
  ·simp only [List.length_singleton];omega
  ·simp only [List.length_singleton];omega
  ·have a:=valueM_len l ‹_› (nextM l p 9).2
   simp only [List.length_append,List.length_singleton];omega
  ·rename_i d
   have a:=valueM_len l d (nextM l p 9).2
   have b:=valueM_len l d (valueM l d (nextM l p 9).2).2
   simp only [List.length_append,List.length_singleton];omega
  ·rename_i d
   have a:=valueM_len l d (nextM l p 9).2
   have b:=valueM_len l d (valueM l d (nextM l p 9).2).2
   simp only [List.length_append,List.length_singleton];omega
  ·simp only [List.length_singleton];omega
theorem valueM_6 {l:List UInt8} {d p p1:Nat} (e0:nextM l p 9=(6,p1)):valueM l (d+1) p=((valueM l d p1).1++[⟨9+((nextM l (valueM l d p1).2 2).1:Int),0⟩],(nextM l (valueM l d p1).2 2).2):=by
 conv=>lhs;unfold valueM
 rw [e0];rfl
theorem valueM_7 {l:List UInt8} {d p p1:Nat} (e0:nextM l p 9=(7,p1)):valueM l (d+1) p=((valueM l d p1).1++(valueM l d (valueM l d p1).2).1++[⟨11,12+((nextM l (valueM l d (valueM l d p1).2).2 13).1:Int)⟩],(nextM l (valueM l d (valueM l d p1).2).2 13).2):=by
 conv=>lhs;unfold valueM
 rw [e0];rfl
theorem valueM_8 {l:List UInt8} {d p p1:Nat} (e0:nextM l p 9=(8,p1)):valueM l (d+1) p=((valueM l d p1).1++(valueM l d (valueM l d p1).2).1++[⟨11,12+((nextM l (valueM l d (valueM l d p1).2).2 13).1:Int)⟩],(nextM l (valueM l d (valueM l d p1).2).2 13).2):=by
 conv=>lhs;unfold valueM
 rw [e0];rfl
end Go.Pb
namespace Go.Proofs.YtcallbfckjlagaaDoor
open Go.Eng (IC IOper DReg IFn IsFn)
open Go.Sym Go.Pb
section
abbrev u27_5:IC:=qS [oI 4 0] .ret []
abbrev u27_4:IC:=qK u27_5 .skip (.t 14) [0,1,14]
abbrev u27_3:IC:=qP [oM 5 0,oN 6 5,oF 7 6 1,oL 8 7,oM 9 0,oN 10 9,oF 11 10 0,oL 12 11,oH 13 12,oB 14 8 13 .geq] u27_4 0 10 [0,1]
abbrev u27_7:IC:=qP [oM 22 0,oN 23 22,oF 24 23 0,oL 25 24,oM 26 0,oN 27 26,oF 28 27 1,oL 29 28,oK 30 29 .sub 1,oA 31 25 30 1,oL 32 31,oP 33 (.cvi .i64 (.t 32)),oM 34 1,oB 35 33 34 .rem,oM 4 35] .ret 16384 15 [0,1]
abbrev u27_6:IC:=qS [oM 15 0,oN 16 15,oF 17 16 1,oL 18 17,oK 19 18 .add 1,oN 20 15,oF 21 20 1,oS 21 19 1] u27_7 [0,1]
abbrev u27_2:IC:=qQ u27_3 u27_6 [0,1]
abbrev u27_1:IC:=qS [oI 4 0] u27_2 [0,1]
def u27:IFn:=⟨36,u27_1,[.tmp 4]⟩
end
theorem isU27:IsFn Tryd.prog 27 u27:=by unfold IsFn;kernel_rfl
theorem c_next (l:List UInt8) (hl:l.length≤100000) (p:Nat) (hp:p≤l.length) (n:Nat) (h0:1≤n) (hn:n≤100000) (H:Hp) (cc t:Nat) (ht:H t=some (tapeB l p)) (htc:t<cc) :
  AC Tryd.prog 27 [.ptr t 0,I64 n] H cc (fun v H' c'=>v=I64 ((nextM l p n).1:Int)∧H'=H.upd t (tapeB l (nextM l p n).2)):=by
 refine AC.body mixedU isU27 (Nat.le_of_ble_eq_true rfl) fun hfr=>?_
 show IW Tryd.prog 36 u27_1 ⟨argT _,_,_⟩ (rt [.tmp 4] _)
 by_cases hlt:p<l.length
 ·have hd:decide ((p:Int)≥l.length)=false:=by simp;omega
  have hg:=getB hlt
  have hw:=w64 (n:=(p:Int)+1) (by omega) (by omega)
  have hw1:((p:Int)+1-1)=(p:Int):=by omega
  have hw2:=w64 (n:=(p:Int)) (by omega) (by omega)
  have hb:=wb64 (l.getD p 0)
  have hm:=nat_tmod (l.getD p 0).toNat n
  have hnz:¬(n:Int)=0:=by omega
  have hlen:=bytesC_len l
  repeat' ((with_reducible first|refine wr ?_|refine wb2 ?_ ?_<;>(intro hb;try simp only [hb])|fail)<;>try simp only [go_sem,seval,ht,hd,hg,hw,hw1,hw2,hb,hm,hnz,r_rem,hlen])
  have e:nextM l p n=((l.getD p 0).toNat % n,p+1):=by rw [nextM,if_neg (by omega)]
  rw [e]
  exact ⟨_,_,GL.refl _ _,rfl,rfl⟩
 ·have hd:decide ((p:Int)≥l.length)=true:=by simp;omega
  have hlen:=bytesC_len l
  repeat' ((with_reducible first|refine wr ?_|refine wb2 ?_ ?_<;>(intro hb;try simp only [hb])|fail)<;>try simp only [go_sem,seval,ht,hd,hlen])
  have e:nextM l p n=(0,p):=by rw [nextM,if_pos (by omega)]
  rw [e]
  refine ⟨_,_,GL.refl _ _,rfl,?_⟩
  funext j
  by_cases ej:j=t
  ·subst ej;rw [h_same,ht]
  ·rw [h_ne ej]
end Go.Proofs.YtcallbfckjlagaaDoor
namespace Go.Pb
variable [Go.Sym.Tab]
open Go.Sym
theorem and127 (b:UInt8):bits .and .u8 (b.toNat:Int) 127=((b.toNat % 128:Nat):Int):=by
 have key:∀ n:Nat,n<256→bits .and .u8 (n:Int) 127=((n % 128:Nat):Int):=by decide +kernel
 exact key _ (by have:=b.toNat_lt;omega)
theorem or64 {k z x:Nat} (hz:z<2 ^ (7 * k)) (hx:x<128) (hk:k≤7):bits .or .u64 (z:Int) ((x * 2 ^ (7 * k):Nat):Int)=((z+x * 2 ^ (7 * k):Nat):Int):=by
 have h1:2 ^ (7 * k)≤2 ^ 49:=Nat.pow_le_pow_right (by omega) (by omega)
 have h2:x * 2 ^ (7 * k)≤127 * 2 ^ 49:=Nat.mul_le_mul (by omega) h1
 have e0:(z ||| x * 2 ^ (7 * k))=z+x * 2 ^ (7 * k):=by
  rw [Nat.or_comm, ← Nat.shiftLeft_eq, ← Nat.shiftLeft_add_eq_or_of_lt hz,Nat.add_comm]
 have e1:BitVec.ofInt 64 (z:Int)=BitVec.ofNat 64 z:=by simp
 have e2:BitVec.ofInt 64 ((x * 2 ^ (7 * k):Nat):Int)=BitVec.ofNat 64 (x * 2 ^ (7 * k)):=BitVec.ofInt_natCast ..
 show IntKind.u64.wrap (((BitVec.ofInt 64 (z:Int)) ||| (BitVec.ofInt 64 ((x * 2 ^ (7 * k):Nat):Int))).toNat:Int)=_
 rw [e1,e2,BitVec.toNat_or,BitVec.toNat_ofNat,BitVec.toNat_ofNat,Nat.mod_eq_of_lt (by omega),Nat.mod_eq_of_lt (by omega),e0,wu64 (by omega) (by omega)]
theorem shl64 {k x:Nat} (hx:x<128) (hk:k≤7):binR .shl (.int .u64 (x:Int)) (.int .i64 ((7 * k:Nat):Int))=some (.int .u64 ((x * 2 ^ (7 * k):Nat):Int)):=by
 have h1:2 ^ (7 * k)≤2 ^ 49:=Nat.pow_le_pow_right (by omega) (by omega)
 have h2:x * 2 ^ (7 * k)≤127 * 2 ^ 49:=Nat.mul_le_mul (by omega) h1
 have e:min (((7 * k:Nat):Int).toNat) IntKind.u64.bits=7 * k:=by
  show min (((7 * k:Nat):Int).toNat) 64=7 * k
  omega
 rw [r_shl (by omega),e]
 have e2:(x:Int) * 2 ^ (7 * k)=((x * 2 ^ (7 * k):Nat):Int):=by simp
 rw [e2,wu64 (by omega) (by omega)]
theorem quo2 {z:Nat} (h:z<18446744073709551616):IntKind.u64.wrap ((z:Int).tdiv 2)=((z / 2:Nat):Int):=by
 have h1:((z:Int).tdiv 2)=((z / 2:Nat):Int):=by simp [Int.tdiv]
 rw [h1,wu64 (by omega) (by omega)]
theorem rem2 (z:Nat):(z:Int).tmod 2=((z % 2:Nat):Int):=by simp [Int.tmod]
theorem sls_from {s:List UInt8} {k:Nat} (h:k≤s.length):slsR s (some (.int .i64 (k:Int))) none=some (.str (s.drop k)):=by
 rw [r_sls (l:=k) (h:=s.length) rfl (by simp [boundOf]) (Nat.le_refl _) h,List.take_of_length_le (by simp)]
theorem sls_to {s:List UInt8} {k:Nat} (h:k≤s.length):slsR s none (some (.int .i64 (k:Int)))=some (.str (s.take k)):=by
 rw [r_sls (l:=0) (h:=k) (by simp [boundOf]) rfl h (Nat.zero_le _),List.drop_zero,Nat.sub_zero]
def varL:Nat→Nat→Nat→List UInt8→Option (Nat × List UInt8)
 | 0,_,_,_=>none
 | _+1,_,_,[]=>none
 | n+1,k,z,b :: r=>if b.toNat<128 then some (z+b.toNat % 128 * 2 ^ (7 * k),r) else varL n (k+1) (z+b.toNat % 128 * 2 ^ (7 * k)) r
def unzig (z:Nat):Int:=if z % 2=1 then -((z / 2:Nat):Int)-1 else ((z / 2:Nat):Int)
abbrev RS:=List UInt8 × Bool
def rdNum (s:RS):Int × RS:=match varL 8 0 0 s.1 with
 | some (z,r)=>(unzig z,(r,s.2))
 | none=>(0,([],true))
def rdCnt (s:RS):Nat × RS:=if (rdNum s).1<0∨(rdNum s).1>(rdNum s).2.1.length then (0,([],true)) else ((rdNum s).1.toNat,(rdNum s).2)
def rdMany {α : Type} (f:RS → α × RS):Nat→RS→List α × RS
 | 0,s=>([],s)
 | n+1,s=>((rdMany f n s).1++[(f (rdMany f n s).2).1],(f (rdMany f n s).2).2)
def rdIns (s:RS):Ins × RS:=(⟨(rdNum s).1,(rdNum (rdNum s).2).1⟩,(rdNum (rdNum s).2).2)
def rdStr (s:RS):List UInt8 × RS:=((rdCnt s).2.1.take (rdCnt s).1,((rdCnt s).2.1.drop (rdCnt s).1,(rdCnt s).2.2))
def rdEnt (s:RS):Ent × RS :=
 let a:=rdNum s;let b:=rdNum a.2;let c:=rdNum b.2;let d:=rdNum c.2
 (⟨a.1,b.1,c.1,d.1⟩,d.2)
def rdNums (s:RS):List Int × RS:=rdMany rdNum (rdCnt s).1 (rdCnt s).2
def rdPrg (s:RS):Prg × RS :=
 let a:=rdMany rdIns (rdCnt s).1 (rdCnt s).2
 let b:=rdMany rdStr (rdCnt a.2).1 (rdCnt a.2).2
 let c:=rdMany rdEnt (rdCnt b.2).1 (rdCnt b.2).2
 let d:=rdNums c.2
 let e:=rdNums d.2
 let f:=rdNum e.2
 let g:=rdNum f.2
 (⟨a.1,b.1,c.1,d.1,e.1,f.1,g.1⟩,g.2)
def Prg.none:Prg:=⟨[],[],[],[],[],0,0⟩
def decP (s:List UInt8):Option Prg:=if (rdPrg (s,false)).2.2=true∨validM (rdPrg (s,false)).1≠0∨encV (rdPrg (s,false)).1≠s then Option.none else some (rdPrg (s,false)).1
def decV:Option Prg→DV
 | Option.none=>.tup [Prg.none.v,I64 51]
 | some c=>.tup [c.v,I64 0]
abbrev rdB (s:RS):Blk:=⟨0,true,[.str s.1,.bool s.2]⟩
theorem varL_lt:∀ (n k z:Nat) (s:List UInt8) (z':Nat) (r:List UInt8),z<2 ^ (7 * k)→varL n k z s=some (z',r)→z'<2 ^ (7 * (k+n))∧r.length<s.length
 | 0,_,_,_,_,_,_,h=>by cases h
 | _+1,_,_,[],_,_,_,h=>by cases h
 | n+1,k,z,b :: s,z',r,hz,h=>by
  have hb:b.toNat % 128<128:=Nat.mod_lt _ (by omega)
  have h1:z+b.toNat % 128 * 2 ^ (7 * k)<2 ^ (7 * (k+1)):=by
   have e:2 ^ (7 * (k+1))=128 * 2 ^ (7 * k):=by rw [Nat.mul_add,Nat.pow_add];omega
   have:b.toNat % 128 * 2 ^ (7 * k)≤127 * 2 ^ (7 * k):=Nat.mul_le_mul_right _ (by omega)
   omega
  simp only [varL] at h
  split at h
  ·cases h
   refine ⟨Nat.lt_of_lt_of_le h1 (Nat.pow_le_pow_right (by omega) (by omega)),by simp⟩
  ·obtain ⟨a,b⟩:=varL_lt n (k+1) _ s z' r h1 h
   refine ⟨(by have e:k+1+n=k+(n+1):=(by omega);rwa [e] at a),by simp only [List.length_cons];omega⟩
theorem varL_step {n k z:Nat} {s:List UInt8} {b:UInt8} (h:s[k]? = some b):varL (n+1) k z (s.drop k)=if b.toNat<128 then some (z+b.toNat % 128 * 2 ^ (7 * k),s.drop (k+1)) else varL n (k+1) (z+b.toNat % 128 * 2 ^ (7 * k)) (s.drop (k+1)):=by
 have hk:k<s.length:=(List.getElem?_eq_some_iff.1 h).1
 rw [List.drop_eq_getElem_cons hk]
 rw [List.getElem?_eq_getElem hk] at h
 cases h
 rfl
theorem varL_end {n k z:Nat} {s:List UInt8} (h:¬(k<s.length∧n≠0)):varL n k z (s.drop k)=none:=by
 cases n with
 | zero=>rfl
 | succ n =>
  rw [List.drop_eq_nil_of_le (by omega)];rfl
theorem pow7 (k:Nat):2 ^ (7 * (k+1))=128 * 2 ^ (7 * k):=by rw [Nat.mul_add,Nat.pow_add];omega
theorem unzig_bd {z:Nat} (h:z<2 ^ 56) : -36028797018963968≤unzig z∧unzig z<36028797018963968:=by
 unfold unzig;split<;>omega
theorem rdNum_bd (s:RS) : -36028797018963968≤(rdNum s).1∧(rdNum s).1<36028797018963968:=by
 unfold rdNum
 split
 ·rename_i z r h
  exact unzig_bd (varL_lt 8 0 0 s.1 z r (by decide) h).1
 ·simp
theorem rdNum_len (s:RS):(rdNum s).2.1.length≤s.1.length:=by
 unfold rdNum
 split
 ·rename_i z r h
  have:=(varL_lt 8 0 0 s.1 z r (by decide) h).2
  simp only;omega
 ·simp
theorem rdCnt_len (s:RS):(rdCnt s).2.1.length≤s.1.length∧(rdCnt s).1≤(rdCnt s).2.1.length:=by
 have h:=rdNum_len s
 unfold rdCnt
 split
 ·simp
 ·rename_i h1;simp only;omega
theorem rdMany_len {α : Type} {f:RS → α × RS} (hf:∀ s,(f s).2.1.length≤s.1.length):∀ (n:Nat) (s:RS),(rdMany f n s).2.1.length≤s.1.length∧(rdMany f n s).1.length=n
 | 0,s=>⟨Nat.le_refl _,rfl⟩
 | n+1,s=>by
  obtain ⟨a,b⟩:=rdMany_len hf n s
  have:=hf (rdMany f n s).2
  simp only [rdMany,List.length_append,List.length_singleton];omega
theorem rdMany_all {α : Type} {f:RS → α × RS} {p : α → Prop} {m:Nat} (hf:∀ s:RS,s.1.length≤m→p (f s).1∧(f s).2.1.length≤s.1.length):∀ (n:Nat) (s:RS),s.1.length≤m→(∀ x∈(rdMany f n s).1,p x)∧(rdMany f n s).2.1.length≤s.1.length
 | 0,s,_=>⟨fun x hx=>(by cases hx),Nat.le_refl _⟩
 | n+1,s,h=>by
  obtain ⟨a,b⟩:=rdMany_all hf n s h
  obtain ⟨c,d⟩:=hf (rdMany f n s).2 (by omega)
  refine ⟨fun x hx=>?_,by simp only [rdMany];omega⟩
  simp only [rdMany,List.mem_append,List.mem_singleton] at hx
  rcases hx with hx|rfl
  ·exact a x hx
  ·exact c
theorem rdIns_len (s:RS):(rdIns s).2.1.length≤s.1.length:=by
 have a:=rdNum_len s
 have b:=rdNum_len (rdNum s).2
 simp only [rdIns];omega
theorem rdStr_len (s:RS):(rdStr s).2.1.length≤s.1.length:=by
 have a:=(rdCnt_len s).1
 simp only [rdStr,List.length_drop];omega
theorem rdEnt_len (s:RS):(rdEnt s).2.1.length≤s.1.length:=by
 have a:=rdNum_len s
 have b:=rdNum_len (rdNum s).2
 have c:=rdNum_len (rdNum (rdNum s).2).2
 have d:=rdNum_len (rdNum (rdNum (rdNum s).2).2).2
 simp only [rdEnt];omega
theorem rdNums_len (s:RS):(rdNums s).2.1.length≤s.1.length:=by
 have a:=(rdCnt_len s).1
 have b:=(rdMany_len rdNum_len (rdCnt s).1 (rdCnt s).2).1
 simp only [rdNums];omega
theorem rdEnt_many (s:RS):rdMany rdNum 4 s=([(rdEnt s).1.mode,(rdEnt s).1.trigger,(rdEnt s).1.index,(rdEnt s).1.pos],(rdEnt s).2):=rfl
theorem insC_step (s:RS) (n:Nat):insC (rdMany rdIns (n+1) s).1=insC (rdMany rdIns n s).1++[I64 (rdNum (rdMany rdIns n s).2).1,I64 (rdNum (rdNum (rdMany rdIns n s).2).2).1]:=by
 simp only [rdMany,insC_app,insC_one,rdIns]
theorem strC_len (l:List (List UInt8)):(cellsL (l.map DV.str)).length=l.length * 1:=by
 rw [cellsL_length (u:=1)]
 ·simp
 ·intro x hx;obtain ⟨y, -,rfl⟩:=List.mem_map.1 hx;rfl
theorem strC_step (s:RS) (n:Nat):cellsL ((rdMany rdStr (n+1) s).1.map DV.str)=cellsL ((rdMany rdStr n s).1.map DV.str)++[.str (rdStr (rdMany rdStr n s).2).1]:=by
 simp only [rdMany,List.map_append,cellsL_append];rfl
theorem entC_len' (l:List Ent):(cellsL (l.map Ent.v)).length=l.length * 4:=by
 rw [cellsL_length (u:=4)]
 ·simp
 ·intro x hx;obtain ⟨y, -,rfl⟩:=List.mem_map.1 hx;rfl
theorem entC_step (s:RS) (n:Nat):cellsL ((rdMany rdEnt (n+1) s).1.map Ent.v)=cellsL ((rdMany rdEnt n s).1.map Ent.v)++(rdEnt (rdMany rdEnt n s).2).1.v.cells:=by
 simp only [rdMany,List.map_append,cellsL_append];simp [cellsL]
theorem rdStr_all (n:Nat) (s:RS) (h:s.1.length≤1000000):∀ x∈(rdMany rdStr n s).1,x.length≤1000000 :=
 (rdMany_all (p:=fun x=>x.length≤1000000) (m:=1000000) (fun s hs=>⟨by
  have:=(rdCnt_len s).1
  simp only [rdStr,List.length_take];omega,rdStr_len s⟩) n s h).1
theorem ins_unit (l:List Ins):∀ x∈l.map Ins.v,x.cells.length=2:=by
 intro x hx;obtain ⟨y, -,rfl⟩:=List.mem_map.1 hx;rfl
theorem str_unit (l:List (List UInt8)):∀ x∈l.map DV.str,x.cells.length=1:=by
 intro x hx;obtain ⟨y, -,rfl⟩:=List.mem_map.1 hx;rfl
theorem ent_unit (l:List Ent):∀ x∈l.map Ent.v,x.cells.length=4:=by
 intro x hx;obtain ⟨y, -,rfl⟩:=List.mem_map.1 hx;rfl
theorem set_fill {l:List Int} {n k:Nat} {a:Int} (hl:l.length=k) (hk:k<n):(l++List.replicate (n-k) 0).set k a=l++[a]++List.replicate (n-(k+1)) 0:=by
 obtain ⟨m,hm⟩:∃ m,n-k=m+1:=⟨n-k-1,by omega⟩
 have hm2:n-(k+1)=m:=by omega
 rw [hm,hm2,List.set_append_right _ _ (by omega),hl,Nat.sub_self,List.replicate_succ,List.set_cons_zero]
 simp
def lnM:List Ins→Nat→List (List UInt8)
 | [],_=>[]
 | i :: r,k=>lineB k i :: lnM r (k+1)
theorem lnM_flat:∀ (l:List Ins) (k:Nat),(lnM l k).flatten=lstF l k
 | [],_=>rfl
 | i :: r,k=>by simp only [lnM,lstF,List.flatten_cons];rw [lnM_flat r (k+1)]
theorem lnM_len:∀ (l:List Ins) (k:Nat),(lnM l k).length=l.length
 | [],_=>rfl
 | i :: r,k=>by simp only [lnM,List.length_cons];rw [lnM_len r (k+1)]
theorem lnM_app:∀ (a b:List Ins) (n:Nat),lnM (a++b) n=lnM a n++lnM b (n+a.length)
 | [],b,n=>by simp [lnM]
 | i :: a,b,n=>by
  simp only [List.cons_append,lnM,List.length_cons]
  rw [lnM_app a b (n+1)]
  congr 3;omega
theorem lnM_step {l:List Ins} {k:Nat} {i:Ins} (h:l[k]? = some i):lnM (l.take (k+1)) 0=lnM (l.take k) 0++[lineB k i]:=by
 have hk:k<l.length:=(List.getElem?_eq_some_iff.1 h).1
 rw [List.take_add_one,h,lnM_app]
 have:(l.take k).length=k:=by simp;omega
 simp [lnM,this]
end Go.Pb
namespace Go.Proofs.YtcallbfckjlagaaDoor
open Go.Eng (IC IOper DReg IFn IsFn)
open Go.Sym Go.Pb
section
abbrev u34_8:IC:=qK .skip (.exit 0) (.t 15) [0,3,4,15]
abbrev u34_7:IC:=qS [oM 5 4,oM 6 0,oN 7 6,oF 8 7 0,oL 9 8,oP 10 (.lens (.t 9)),oB 11 5 10 .lss,oM 12 11,gM 13 4 12,gK 14 13 12 .lss 8,oJ 15 12 14] u34_8 [0,3,4]
abbrev u34_17:IC:=qS [oM 51 3,oP 52 (.bin .quo (.t 51) (.k (.int .u64 2))),oP 53 (.cvi .i64 (.t 52)),oP 54 (.un .neg (.t 53)),oK 55 54 .sub 1,oM 2 55] .ret [3]
abbrev u34_16:IC:=qK u34_17 .skip (.t 50) [3,50]
abbrev u34_15:IC:=qS [oM 48 3,oP 49 (.bin .rem (.t 48) (.k (.int .u64 2))),oP 50 (.bin .eql (.t 49) (.k (.int .u64 1)))] u34_16 [3]
abbrev u34_18:IC:=qS [oM 56 3,oP 57 (.bin .quo (.t 56) (.k (.int .u64 2))),oP 58 (.cvi .i64 (.t 57)),oM 2 58] .ret [3]
abbrev u34_14:IC:=qQ u34_15 u34_18 [3]
abbrev u34_13:IC:=qS [oM 38 0,oM 39 0,oN 40 39,oF 41 40 0,oL 42 41,oM 43 4,oK 44 43 .add 1,oP 45 (.sls (.t 42) (some (.t 44)) none),oN 46 38,oF 47 46 0,oS 47 45 1] u34_14 [0,3,4]
abbrev u34_12:IC:=qK u34_13 .skip (.t 37) [0,3,4,37]
abbrev u34_11:IC:=qS [oM 31 0,oN 32 31,oF 33 32 0,oL 34 33,oM 35 4,oP 36 (.idx (.t 34) (.t 35)),oP 37 (.bin .lss (.t 36) (.k (.int .u8 128)))] u34_12 [0,3,4]
abbrev u34_10:IC:=qS [oM 18 3,oM 19 0,oN 20 19,oF 21 20 0,oL 22 21,oM 23 4,oP 24 (.idx (.t 22) (.t 23)),oP 25 (.bin .and (.t 24) (.k (.int .u8 127))),oP 26 (.cvi .u64 (.t 25)),oM 27 4,oP 28 (.bin .mul (.k (.int .i64 7)) (.t 27)),oB 29 26 28 .shl,oB 30 18 29 .or,oM 3 30] u34_11 [0,3,4]
abbrev u34_19:IC:=qE [oM 16 4,oK 17 16 .add 1,oM 4 17] [0,3,4]
abbrev u34_9:IC:=qB u34_10 u34_19 1 [0,3,4]
abbrev u34_6:IC:=qQ u34_7 u34_9 [0,3,4]
abbrev u34_5:IC:=qJ (.loop u34_6) 0 [0,3,4]
abbrev u34_4:IC:=qS [oI 4 0] u34_5 [0,3]
abbrev u34_21:IC:=qS [oI 2 0] .ret []
abbrev u34_20:IC:=qS [oM 59 0,oM 60 0,oN 61 59,oF 62 61 1,⟨none,.eff (.st 1 (.t 62) (.k (.bool true))),none⟩,oN 63 60,oF 64 63 0,⟨none,.eff (.st 1 (.t 64) (.k (.string ⟨#[]⟩))),none⟩] u34_21 [0]
abbrev u34_3:IC:=qQ u34_4 u34_20 [0,3]
abbrev u34_2:IC:=qS [oV 3 (.int .u64 0)] u34_3 [0]
abbrev u34_1:IC:=qS [oI 2 0] u34_2 [0]
def u34:IFn:=⟨65,u34_1,[.tmp 2]⟩
end
theorem isU34:IsFn Tryd.prog 34 u34:=by unfold IsFn;kernel_rfl
section
abbrev u33_7:IC:=qS [oI 2 0] .ret []
abbrev u33_6:IC:=qS [oM 17 0,oM 18 0,oN 19 17,oF 20 19 1,⟨none,.eff (.st 1 (.t 20) (.k (.bool true))),none⟩,oN 21 18,oF 22 21 0,⟨none,.eff (.st 1 (.t 22) (.k (.string ⟨#[]⟩))),none⟩] u33_7 [0]
abbrev u33_5:IC:=qK u33_6 .skip (.t 16) [0,3,16]
abbrev u33_4:IC:=qS [oM 6 3,oK 7 6 .lss 0,oM 8 7,hM 9 3 8,hM 10 0 8,hN 11 10 8,hF 12 11 0 8,hL 13 12 8,oR 14 (.lens (.t 13)) 8,oR 15 (.bin .gtr (.t 9) (.t 14)) 8,oO 16 8 15] u33_5 [0,3]
abbrev u33_8:IC:=qS [oM 23 3,oM 2 23] .ret [3]
abbrev u33_3:IC:=qQ u33_4 u33_8 [0,3]
abbrev u33_2:IC:=qS [oM 4 0,oC 5 34 [.t 4],oM 3 5] u33_3 [0]
abbrev u33_1:IC:=qS [oI 2 0] u33_2 [0]
def u33:IFn:=⟨24,u33_1,[.tmp 2]⟩
end
theorem isU33:IsFn Tryd.prog 33 u33:=by unfold IsFn;kernel_rfl
section
abbrev u35_10:IC:=qE [oM 13 3,oM 14 4,oM 15 0,oC 16 34 [.t 15],oA 17 13 14 1,oS 17 16 1] [0,3,4,9,10]
abbrev u35_9:IC:=qS [oM 12 10,oM 4 12] u35_10 [0,3,9,10]
abbrev u35_11:IC:=qE [oK 18 10 .add 1,oM 10 18] [0,3,9,10]
abbrev u35_8:IC:=qB u35_9 u35_11 1 [0,3,9,10]
abbrev u35_7:IC:=qC .skip u35_8 (.exit 0) (.t 11) [0,3,9,10,11]
abbrev u35_6:IC:=qS [oB 11 10 9 .lss] u35_7 [0,3,9,10]
abbrev u35_5:IC:=qJ (.loop u35_6) 0 [0,3,9,10]
abbrev u35_4:IC:=qS [oM 8 3,oH 9 8,oI 10 0] u35_5 [0,3]
abbrev u35_12:IC:=qS [oM 19 3,oM 2 19] .ret [3]
abbrev u35_3:IC:=qQ u35_4 u35_12 [0,3]
abbrev u35_2:IC:=qS [oM 5 0,oC 6 33 [.t 5],⟨some 7,.new (.msl 1 8 #[.int .i64 0] (.t 6) (.t 6)),none⟩,oM 3 7] u35_3 [0]
abbrev u35_1:IC:=qS [oV 2 (.slice none 0 0)] u35_2 [0]
def u35:IFn:=⟨20,u35_1,[.tmp 2]⟩
end
theorem isU35:IsFn Tryd.prog 35 u35:=by unfold IsFn;kernel_rfl
theorem c_rnum (s:RS) (hs:s.1.length≤1000000) (H:Hp) (cc t:Nat) (ht:H t=some (rdB s)) (htc:t<cc) :
  AC Tryd.prog 34 [.ptr t 0] H cc (fun v H' c'=>v=I64 (rdNum s).1∧H'=H.upd t (rdB (rdNum s).2)):=by
 obtain ⟨s,bd⟩:=s
 simp only at hs
 refine AC.body mixedU isU34 (Nat.le_of_ble_eq_true rfl) fun hfr=>?_
 show IW Tryd.prog 65 u34_1 ⟨argT _,_,_⟩ (rt [.tmp 2] _)
 repeat' ((with_reducible first|refine wr ?_|refine wb2 ?_ ?_<;>(intro hb;try simp only [hb])|fail)<;>try simp only [go_sem,seval])
 refine i_loop (fun q:Nat × Nat=>[(0,.ptr t 0),(3,.int .u64 (q.2:Int)),(4,I64 q.1)]) (fun _=>H) (fun q c=>cc≤c∧q.1≤8∧q.1≤s.length∧q.2<2 ^ (7 * q.1)∧varL 8 0 0 s=varL (8-q.1) q.1 q.2 (s.drop q.1)) (fun q=>8-q.1) (0,0) (by simp [tmLe,tm,Tm.upd]) (Sub.refl _) (by simp) ?_
 rintro ⟨k,z⟩ c ⟨hc,hk8,hkl,hz,hv⟩
 simp only at hk8 hkl hz hv
 by_cases hlt:k<s.length∧k<8
 ·obtain ⟨h1,h2⟩:=hlt
  have hd1:decide ((k:Int)<s.length)=true:=by simpa using h1
  have hd2:decide ((k:Int)<8)=true:=by simp;omega
  obtain ⟨b,hb⟩:∃ b,b=s[k]:=⟨_,rfl⟩
  have hg:s[k]? = some b:=by rw [hb];exact List.getElem?_eq_getElem h1
  have hx:b.toNat % 128<128:=Nat.mod_lt _ (by omega)
  have hand:=and127 b
  have hc64:=wu64 (n:=((b.toNat % 128:Nat):Int)) (by omega) (by omega)
  have hmul:IntKind.i64.wrap (7 * (k:Int))=((7 * k:Nat):Int):=by rw [w64 (by omega) (by omega)];omega
  have hshl:=shl64 (k:=k) hx (by omega)
  have hor:=or64 (k:=k) hz hx (by omega)
  have hw:IntKind.i64.wrap ((k:Int)+1)=((k+1:Nat):Int):=by rw [w64 (by omega) (by omega)];omega
  have hst:=varL_step (n:=7-k) (z:=z) hg
  have e8:8-k=7-k+1:=by omega
  rw [e8,hst] at hv
  have hz':z+b.toNat % 128 * 2 ^ (7 * k)<2 ^ (7 * (k+1)):=by
   have:b.toNat % 128 * 2 ^ (7 * k)≤127 * 2 ^ (7 * k):=Nat.mul_le_mul_right _ (by omega)
   have e:=pow7 k
   omega
  have hz8:2 ^ (7 * (k+1))≤2 ^ 56:=Nat.pow_le_pow_right (by omega) (by omega)
  generalize z+b.toNat % 128 * 2 ^ (7 * k)=z' at *
  by_cases hlo:b.toNat<128
  ·have hd3:decide ((b.toNat:Int)<128)=true:=by simp;omega
   rw [if_pos hlo] at hv
   have hsl:=sls_from (s:=s) (k:=k+1) (by omega)
   have hq:=quo2 (z:=z') (by omega)
   have hr:=rem2 z'
   have hn2:¬(2:Int)=0:=by omega
   have wq:=w64 (n:=((z' / 2:Nat):Int)) (by omega) (by omega)
   have e:rdNum (s,bd)=(unzig z',(s.drop (k+1),bd)):=by rw [rdNum,hv]
   rw [e]
   by_cases h2z:z' % 2=1
   ·have hd4:(((z' % 2:Nat):Int) == 1)=true:=by rw [h2z];rfl
    have w1:IntKind.i64.wrap (0-((z' / 2:Nat):Int)) = -((z' / 2:Nat):Int):=by rw [w64 (by omega) (by omega)];omega
    have w2:=w64 (n := -((z' / 2:Nat):Int)-1) (by omega) (by omega)
    repeat' ((with_reducible first|refine wr ?_|refine wb2 ?_ ?_<;>(intro hb;try simp only [hb])|fail)<;>try simp only [go_sem,seval,ht,hd1,hd2,hg,hand,hc64,hmul,hshl,hor,hw,hd3,hsl,r_quo,r_rem,hq,hr,hn2,wq,hd4,w1,w2])
    exact ⟨_,_,GL.refl _ _,by rw [unzig,if_pos h2z],rfl⟩
   ·have hd4:(((z' % 2:Nat):Int) == 1)=false:=by simp;omega
    repeat' ((with_reducible first|refine wr ?_|refine wb2 ?_ ?_<;>(intro hb;try simp only [hb])|fail)<;>try simp only [go_sem,seval,ht,hd1,hd2,hg,hand,hc64,hmul,hshl,hor,hw,hd3,hsl,r_quo,r_rem,hq,hr,hn2,wq,hd4])
    exact ⟨_,_,GL.refl _ _,by rw [unzig,if_neg h2z],rfl⟩
  ·have hd3:decide ((b.toNat:Int)<128)=false:=by simp;omega
   rw [if_neg hlo] at hv
   repeat' ((with_reducible first|refine wr ?_|refine wb2 ?_ ?_<;>(intro hb;try simp only [hb])|fail)<;>try simp only [go_sem,seval,ht,hd1,hd2,hg,hand,hc64,hmul,hshl,hor,hw,hd3])
   exact ⟨(k+1,z'),by simp,Sub.refl _,inv ⟨by omega,by simp only;omega,by simp only;omega,hz',by simp only;rw [hv];congr 1;omega⟩,by simp only;omega⟩
 ·have e:rdNum (s,bd)=(0,([],true)):=by
   rw [rdNum,hv,varL_end (by omega)]
  rw [e]
  by_cases h1:k<s.length
  ·have hd1:decide ((k:Int)<s.length)=true:=by simpa using h1
   have hd2:decide ((k:Int)<8)=false:=by simp;omega
   repeat' ((with_reducible first|refine wr ?_|refine wb2 ?_ ?_<;>(intro hb;try simp only [hb])|fail)<;>try simp only [go_sem,seval,ht,hd1,hd2])
   exact ⟨_,_,GL.refl _ _,rfl,h_upd2⟩
  ·have hd1:decide ((k:Int)<s.length)=false:=by simp;omega
   repeat' ((with_reducible first|refine wr ?_|refine wb2 ?_ ?_<;>(intro hb;try simp only [hb])|fail)<;>try simp only [go_sem,seval,ht,hd1])
   exact ⟨_,_,GL.refl _ _,rfl,h_upd2⟩
theorem c_rcnt (s:RS) (hs:s.1.length≤1000000) (H:Hp) (cc t:Nat) (ht:H t=some (rdB s)) (htc:t<cc) :
  AC Tryd.prog 33 [.ptr t 0] H cc (fun v H' c'=>v=I64 ((rdCnt s).1:Int)∧H'=H.upd t (rdB (rdCnt s).2)):=by
 refine AC.body mixedU isU33 (Nat.le_of_ble_eq_true rfl) fun hfr=>?_
 show IW Tryd.prog 24 u33_1 ⟨argT _,_,_⟩ (rt [.tmp 2] _)
 repeat' ((with_reducible first|refine wr ?_|refine wb2 ?_ ?_<;>(intro hb;try simp only [hb])|fail)<;>try simp only [go_sem,seval])
 refine AC.call (c_rnum s hs H cc t ht htc) ?_
 rintro v H' c1 ⟨rfl,rfl⟩ hc
 have hB:=rdNum_bd s
 have hL:=rdNum_len s
 by_cases h1:(rdNum s).1<0
 ·have hd1:decide ((rdNum s).1<0)=true:=by simpa using h1
  have e:rdCnt s=(0,([],true)):=by rw [rdCnt,if_pos (.inl h1)]
  simp only [go_sem,seval,hd1]
  repeat' ((with_reducible first|refine wr ?_|refine wb2 ?_ ?_<;>(intro hb;try simp only [hb])|fail)<;>try simp only [go_sem,seval,hd1])
  rw [e]
  exact ⟨_,_,GL.refl _ _,rfl,by rw [h_upd2,h_upd2]⟩
 have hd1:decide ((rdNum s).1<0)=false:=by simpa using h1
 by_cases h2:(rdNum s).1>(rdNum s).2.1.length
 ·have hd2:decide ((rdNum s).1>(rdNum s).2.1.length)=true:=by simpa using h2
  have e:rdCnt s=(0,([],true)):=by rw [rdCnt,if_pos (.inr h2)]
  simp only [go_sem,seval,hd1,hd2]
  repeat' ((with_reducible first|refine wr ?_|refine wb2 ?_ ?_<;>(intro hb;try simp only [hb])|fail)<;>try simp only [go_sem,seval,hd1,hd2])
  rw [e]
  exact ⟨_,_,GL.refl _ _,rfl,by rw [h_upd2,h_upd2]⟩
 ·have hd2:decide ((rdNum s).1>(rdNum s).2.1.length)=false:=by simpa using h2
  have e:rdCnt s=((rdNum s).1.toNat,(rdNum s).2):=by rw [rdCnt,if_neg (by omega)]
  simp only [go_sem,seval,hd1,hd2]
  repeat' ((with_reducible first|refine wr ?_|refine wb2 ?_ ?_<;>(intro hb;try simp only [hb])|fail)<;>try simp only [go_sem,seval,hd1,hd2])
  rw [e]
  exact ⟨_,_,GL.refl _ _,by simp only;congr 1;omega,rfl⟩
theorem c_rnums (s:RS) (hs:s.1.length≤1000000) (H:Hp) (cc t:Nat) (ht:H t=some (rdB s)) (htc:t<cc) :
  AC Tryd.prog 35 [.ptr t 0] H cc (fun v H' c'=>v=ints (rdNums s).1∧H'=H.upd t (rdB (rdNums s).2)):=by
 refine AC.body mixedU isU35 (Nat.le_of_ble_eq_true rfl) fun hfr=>?_
 show IW Tryd.prog 20 u35_1 ⟨argT _,_,_⟩ (rt [.tmp 2] _)
 repeat' ((with_reducible first|refine wr ?_|refine wb2 ?_ ?_<;>(intro hb;try simp only [hb])|fail)<;>try simp only [go_sem,seval])
 refine AC.call (c_rcnt s hs H cc t ht htc) ?_
 rintro v H' id ⟨rfl,rfl⟩ hc
 obtain ⟨L1,L2⟩:=rdCnt_len s
 obtain ⟨n,hn⟩:∃ n,n=(rdCnt s).1:=⟨_,rfl⟩
 obtain ⟨st,hst⟩:∃ st,st=(rdCnt s).2:=⟨_,rfl⟩
 have e:rdNums s=rdMany rdNum n st:=by rw [hn,hst];rfl
 rw [e]
 rw [← hn, ← hst] at L2 ⊢
 have Ln:n≤1000000:=by have:=hst▸L1;omega
 rw [← hst] at L1
 simp only [go_sem,seval]
 repeat' ((first|(with_reducible first|refine wr ?_)|(with_reducible refine wb2 ?_ ?_<;>(intro hb;try simp only [hb]))|((with_reducible refine k_nval (r_msl (by omega) (by omega) rfl rfl) ?_))|fail)<;>try simp only [go_sem,seval])
 refine i_loop (fun k:Nat=>[(0,.ptr t 0),(3,.slc id 0 n),(9,I64 n),(10,I64 k)]) (fun k=>(H.upd t (rdB (rdMany rdNum k st).2)).upd id ⟨1,true,((rdMany rdNum k st).1++List.replicate (n-k) 0).map I64⟩) (fun k c=>id<c∧k≤n) (fun k=>n-k) 0 (by simp [tmLe,tm,Tm.upd]) (by simp [rdMany,madeL_one];exact Sub.refl _) (by omega) ?_
 rintro k c ⟨hc1,hk⟩
 have hti:¬ t=id:=by omega
 obtain ⟨M1,M2⟩:=rdMany_len (f:=rdNum) rdNum_len k st
 by_cases hlt:k<n
 ·have hd:decide ((k:Int)<(n:Int))=true:=by simpa using hlt
  have hw:IntKind.i64.wrap ((k:Int)+1)=((k+1:Nat):Int):=by rw [w64 (by omega) (by omega)];omega
  repeat' ((with_reducible first|refine wr ?_|refine wb2 ?_ ?_<;>(intro hb;try simp only [hb])|fail)<;>try simp only [go_sem,seval,hd])
  refine AC.call (c_rnum (rdMany rdNum k st).2 (by omega) _ c t (by rw [h_ne hti,h_same]) (by omega)) ?_
  rintro v H' c1 ⟨rfl,rfl⟩ hcc
  have hti2:¬ id=t:=by omega
  have hia:=r_iadsn (id:=id) (off:=0) (l:=n) (sz:=1) (k:=.i64) hlt
  have hlen:((rdMany rdNum k st).1++List.replicate (n-k) 0).length=n:=by simp [M2];omega
  have hle:k+1≤n:=hlt
  simp only [go_sem,seval,hia,hti,hti2,hlen,hle]
  repeat' ((with_reducible first|refine wr ?_|refine wb2 ?_ ?_<;>(intro hb;try simp only [hb])|fail)<;>try simp only [go_sem,seval,hia,hw,hti,hti2,hlen,hle])
  refine ⟨k+1,rfl,?_,inv ⟨by omega,hlt⟩,by omega⟩
  rw [put_map (by rw [hlen];omega)]
  have e2:((rdMany rdNum k st).1++List.replicate (n-k) 0).set k (rdNum (rdMany rdNum k st).2).1=(rdMany rdNum (k+1) st).1++List.replicate (n-(k+1)) 0:=by
   obtain ⟨m,hm⟩:∃ m,n-k=m+1:=⟨n-k-1,by omega⟩
   have hm2:n-(k+1)=m:=by omega
   rw [hm,hm2,List.set_append_right _ _ (by omega),M2,Nat.sub_self,List.replicate_succ,List.set_cons_zero,rdMany]
   simp
  rw [e2]
  intro j b hj
  simp only [Hp.upd] at hj ⊢
  repeat' split at hj
  all_goals (repeat' split)
  all_goals first|exact hj|(exfalso;omega)|(simp only [rdMany] at hj ⊢;exact hj)
 ·have hd:decide ((k:Int)<(n:Int))=false:=by simpa using hlt
  obtain rfl:k=n:=by omega
  repeat' ((with_reducible first|refine wr ?_|refine wb2 ?_ ?_<;>(intro hb;try simp only [hb])|fail)<;>try simp only [go_sem,seval,hd])
  refine ⟨_,_,GL.frzS (H':=H.upd t (rdB (rdMany rdNum k st).2)) (id:=id) h_same rfl (fun j=>?_) (.cons _ _ _ _ (fz_slc (u:=1) (by simp [M2]) (ints_unit (rdMany rdNum k st).1) ⟨[],by simp [cells_ints]⟩) .nil),rfl,rfl⟩
  by_cases ej:j=id
  ·subst ej;left;rw [h_ne (Ne.symm hti)];exact hfr j hc
  ·right;exact ⟨ej,(h_ne ej).symm⟩
end Go.Proofs.YtcallbfckjlagaaDoor
namespace Go.Proofs.YtcallbfckjlagaaDoor
open Go.Eng (IC IOper DReg IFn IsFn)
open Go.Sym Go.Pb
section
abbrev u16_11:IC:=qG [oF 21 5 0,oL 22 21,oM 23 6,oM 24 4,oC 25 34 [.t 24],oP 26 (.bld #[.int .i64 0,.int .i64 0] [(0,1),(1,1)] [(0,.t 23),(1,.t 25)]),⟨some 27,.new (.bsl 2 1 #[.int .i64 0,.int .i64 0] [(0,.t 26)]),none⟩,oT 28 22 27 2 16,oF 29 5 0,oS 29 28 1] [(0,none),(1,none),(2,none),(3,none),(4,some [0,1,2]),(5,none),(6,none),(7,some []),(8,none),(9,some [])] 10 [0,2,4,5,6,16,17]
abbrev u16_10:IC:=qS [oM 19 4,oC 20 34 [.t 19],oM 6 20] u16_11 [0,2,4,5,16,17]
abbrev u16_12:IC:=qE [oK 30 17 .add 1,oM 17 30] [0,2,4,5,16,17]
abbrev u16_9:IC:=qB u16_10 u16_12 1 [0,2,4,5,16,17]
abbrev u16_8:IC:=qC .skip u16_9 (.exit 0) (.t 18) [0,2,4,5,16,17,18]
abbrev u16_7:IC:=qS [oB 18 17 16 .lss] u16_8 [0,2,4,5,16,17]
abbrev u16_6:IC:=qJ (.loop u16_7) 0 [0,2,4,5,16,17]
abbrev u16_5:IC:=qS [oM 15 4,oC 16 33 [.t 15],oI 17 0] u16_6 [0,2,4,5]
abbrev u16_21:IC:=qE [oM 48 4,oM 49 4,oN 50 49,oF 51 50 0,oL 52 51,oM 53 7,oP 54 (.sls (.t 52) (some (.t 53)) none),oN 55 48,oF 56 55 0,oS 56 54 1] [0,2,4,5,7,32,33]
abbrev u16_20:IC:=qD [oF 37 5 1,oL 38 37,oM 39 4,oN 40 39,oF 41 40 0,oL 42 41,oM 43 7,oP 44 (.sls (.t 42) none (some (.t 43))),⟨some 45,.new (.bsl 1 1 #[.string ⟨#[]⟩] [(0,.t 44)]),none⟩,oT 46 38 45 1 16,oF 47 5 1,oS 47 46 1] u16_21 [(0,none),(1,none),(2,none),(3,none),(4,none),(5,none),(6,none),(7,none),(8,none),(9,some []),(10,none),(11,some [])] 12 [0,2,4,5,7,32,33]
abbrev u16_19:IC:=qS [oM 35 4,oC 36 33 [.t 35],oM 7 36] u16_20 [0,2,4,5,32,33]
abbrev u16_22:IC:=qE [oK 57 33 .add 1,oM 33 57] [0,2,4,5,32,33]
abbrev u16_18:IC:=qB u16_19 u16_22 3 [0,2,4,5,32,33]
abbrev u16_17:IC:=qC .skip u16_18 (.exit 2) (.t 34) [0,2,4,5,32,33,34]
abbrev u16_16:IC:=qS [oB 34 33 32 .lss] u16_17 [0,2,4,5,32,33]
abbrev u16_15:IC:=qJ (.loop u16_16) 2 [0,2,4,5,32,33]
abbrev u16_14:IC:=qS [oM 31 4,oC 32 33 [.t 31],oI 33 0] u16_15 [0,2,4,5]
abbrev u16_37:IC:=qE [oM 66 9,oM 67 4,oC 68 34 [.t 67],oP 69 (.iada 4 1 (.t 8) (.t 66)),oS 69 68 1] [0,2,4,5,8,9,59,60,63]
abbrev u16_36:IC:=qS [oM 65 63,oM 9 65] u16_37 [0,2,4,5,8,59,60,63]
abbrev u16_38:IC:=qE [oK 70 63 .add 1,oM 63 70] [0,2,4,5,8,59,60,63]
abbrev u16_35:IC:=qB u16_36 u16_38 7 [0,2,4,5,8,59,60,63]
abbrev u16_34:IC:=qC .skip u16_35 (.exit 6) (.t 64) [0,2,4,5,8,59,60,63,64]
abbrev u16_33:IC:=qS [oK 64 63 .lss 4] u16_34 [0,2,4,5,8,59,60,63]
abbrev u16_32:IC:=qJ (.loop u16_33) 6 [0,2,4,5,8,59,60,63]
abbrev u16_31:IC:=qS [oI 63 0] u16_32 [0,2,4,5,8,59,60]
abbrev u16_39:IC:=qE [oF 71 5 2,oL 72 71,oP 73 (.iada 4 1 (.t 8) (.k (.int .i64 0))),oL 74 73,oP 75 (.iada 4 1 (.t 8) (.k (.int .i64 1))),oL 76 75,oP 77 (.iada 4 1 (.t 8) (.k (.int .i64 2))),oL 78 77,oP 79 (.iada 4 1 (.t 8) (.k (.int .i64 3))),oL 80 79,oP 81 (.bld #[.int .i64 0,.int .i64 0,.int .i64 0,.int .i64 0] [(0,1),(1,1),(2,1),(3,1)] [(0,.t 74),(1,.t 76),(2,.t 78),(3,.t 80)]),⟨some 82,.new (.bsl 4 1 #[.int .i64 0,.int .i64 0,.int .i64 0,.int .i64 0] [(0,.t 81)]),none⟩,oT 83 72 82 4 32,oF 84 5 2,oS 84 83 1] [0,2,4,5,8,59,60]
abbrev u16_30:IC:=qQ u16_31 u16_39 [0,2,4,5,8,59,60]
abbrev u16_29:IC:=qS [oP 62 (.bld #[.int .i64 0,.int .i64 0,.int .i64 0,.int .i64 0] [] []),oW 8 (.agg #[.int .i64 0,.int .i64 0,.int .i64 0,.int .i64 0]),oS 8 62 4] u16_30 [0,2,4,5,59,60]
abbrev u16_40:IC:=qE [oK 85 60 .add 1,oM 60 85] [0,2,4,5,59,60]
abbrev u16_28:IC:=qB u16_29 u16_40 5 [0,2,4,5,59,60]
abbrev u16_27:IC:=qC .skip u16_28 (.exit 4) (.t 61) [0,2,4,5,59,60,61]
abbrev u16_26:IC:=qS [oB 61 60 59 .lss] u16_27 [0,2,4,5,59,60]
abbrev u16_25:IC:=qJ (.loop u16_26) 4 [0,2,4,5,59,60]
abbrev u16_24:IC:=qS [oM 58 4,oC 59 33 [.t 58],oI 60 0] u16_25 [0,2,4,5]
abbrev u16_49:IC:=qS [oP 116 (.bld #[.slice none 0 0,.slice none 0 0,.slice none 0 0,.slice none 0 0,.slice none 0 0,.int .i64 0,.int .i64 0] [(0,1),(1,1),(2,1),(3,1),(4,1),(5,1),(6,1)] []),oS 2 116 7,oI 3 51] .ret [2]
abbrev u16_48:IC:=qK u16_49 .skip (.t 115) [2,5,115]
abbrev u16_47:IC:=qS [oM 103 4,oN 104 103,oF 105 104 1,oL 106 105,oM 107 106,hM 108 11 107,hK 109 108 107 .neq 0,oO 110 107 109,oM 111 110,hM 112 10 111,hM 113 0 111,oR 114 (.bin .neq (.t 112) (.t 113)) 111,oO 115 111 114] u16_48 [0,2,4,5,10,11]
abbrev u16_46:IC:=qS [oD 99 5 7,oC 100 19 [.t 99],oM 98 100,oE 101 98 0,oE 102 98 1,oM 10 101,oM 11 102] u16_47 [0,2,4,5]
abbrev u16_50:IC:=qS [oD 117 5 7,oS 2 117 7,oI 3 0] .ret [2,5]
abbrev u16_45:IC:=qQ u16_46 u16_50 [0,2,4,5]
abbrev u16_44:IC:=qS [oM 95 4,oC 96 34 [.t 95],oF 97 5 6,oS 97 96 1] u16_45 [0,2,4,5]
abbrev u16_43:IC:=qS [oM 92 4,oC 93 34 [.t 92],oF 94 5 5,oS 94 93 1] u16_44 [0,2,4,5]
abbrev u16_42:IC:=qS [oM 89 4,oC 90 35 [.t 89],oF 91 5 4,oS 91 90 1] u16_43 [0,2,4,5]
abbrev u16_41:IC:=qS [oM 86 4,oC 87 35 [.t 86],oF 88 5 3,oS 88 87 1] u16_42 [0,2,4,5]
abbrev u16_23:IC:=qQ u16_24 u16_41 [0,2,4,5]
abbrev u16_13:IC:=qQ u16_14 u16_23 [0,2,4,5]
abbrev u16_4:IC:=qQ u16_5 u16_13 [0,2,4,5]
abbrev u16_3:IC:=qS [oW 5 (.agg #[.slice none 0 0,.slice none 0 0,.slice none 0 0,.slice none 0 0,.slice none 0 0,.int .i64 0,.int .i64 0])] u16_4 [0,2,4]
abbrev u16_2:IC:=qS [oM 12 0,oP 13 (.bld #[.string ⟨#[]⟩,.bool false] [(0,1),(1,1)] [(0,.t 12)]),oX 14 13,oM 4 14] u16_3 [0,2]
abbrev u16_1:IC:=qS [oW 2 (.agg #[.slice none 0 0,.slice none 0 0,.slice none 0 0,.slice none 0 0,.slice none 0 0,.int .i64 0,.int .i64 0]),oI 3 0] u16_2 [0]
def u16:IFn:=⟨118,u16_1,[.cell 2 7 true,.tmp 3]⟩
end
theorem isU16:IsFn Tryd.prog 16 u16:=by unfold IsFn;kernel_rfl
def DB (s:RS):Hp:=(Sym.nil.upd 0 ⟨0,true,[.snil,.snil,.snil,.snil,.snil,I64 0,I64 0]⟩).upd 1 (rdB s)
theorem DB_n (s:RS) {j:Nat} (h:2≤j):DB s j=none:=by
 unfold DB;rw [h_ne (by omega),h_ne (by omega)];rfl
def DH (s:RS) (cs:List DV) (o:Option Nat) (b:Blk):Hp:=optH ((DB s).upd 2 ⟨0,true,cs⟩) o b
theorem DH_0 {s:RS} {cs:List DV} {o:Option Nat} {b:Blk} (h:∀ i,o=some i→3≤i):DH s cs o b 0=some ⟨0,true,[.snil,.snil,.snil,.snil,.snil,I64 0,I64 0]⟩:=by
 cases o with
 | none=>rfl
 | some i=>have:=h i rfl;simp only [DH,optH];rw [h_ne (by omega)];rfl
theorem DH_1 {s:RS} {cs:List DV} {o:Option Nat} {b:Blk} (h:∀ i,o=some i→3≤i):DH s cs o b 1=some (rdB s):=by
 cases o with
 | none=>rfl
 | some i=>have:=h i rfl;simp only [DH,optH];rw [h_ne (by omega)];rfl
theorem DH_2 {s:RS} {cs:List DV} {o:Option Nat} {b:Blk} (h:∀ i,o=some i→3≤i):DH s cs o b 2=some ⟨0,true,cs⟩:=by
 cases o with
 | none=>rfl
 | some i=>have:=h i rfl;simp only [DH,optH];rw [h_ne (by omega)];rfl
theorem DH_r {s s':RS} {cs:List DV} {o:Option Nat} {b:Blk} (h:∀ i,o=some i→3≤i):(DH s cs o b).upd 1 (rdB s')=DH s' cs o b:=by
 funext j
 cases o with
 | none=>simp only [DH,DB,optH,Hp.upd];split<;>(try split)<;>(try split)<;>first|rfl|omega
 | some i=>have:=h i rfl;simp only [DH,DB,optH,Hp.upd];split<;>(try split)<;>(try split)<;>first|rfl|omega
theorem decV_nl (o:Option Prg):(decV o).nl=true:=by
 cases o<;>simp [decV,DV.nl,DV.nlL,nlL_ints,nlL_strs,nlL_instrs,nlL_entries,Prg.none]
theorem c_rnumD (s:RS) (hs:s.1.length≤1000000) {cs:List DV} {o:Option Nat} {b:Blk} (h:∀ i,o=some i→3≤i) (cc:Nat) (hc:3≤cc):AC Tryd.prog 34 [.ptr 1 0] (DH s cs o b) cc (fun v H' c'=>v=I64 (rdNum s).1∧H'=DH (rdNum s).2 cs o b) :=
 (c_rnum s hs _ cc 1 (DH_1 h) (by omega)).mono fun v H' c' q=>⟨q.1,by rw [q.2,DH_r h]⟩
theorem c_rcntD (s:RS) (hs:s.1.length≤1000000) {cs:List DV} {o:Option Nat} {b:Blk} (h:∀ i,o=some i→3≤i) (cc:Nat) (hc:3≤cc):AC Tryd.prog 33 [.ptr 1 0] (DH s cs o b) cc (fun v H' c'=>v=I64 ((rdCnt s).1:Int)∧H'=DH (rdCnt s).2 cs o b) :=
 (c_rcnt s hs _ cc 1 (DH_1 h) (by omega)).mono fun v H' c' q=>⟨q.1,by rw [q.2,DH_r h]⟩
theorem c_rnumsD (s:RS) (hs:s.1.length≤1000000) {cs:List DV} {o:Option Nat} {b:Blk} (h:∀ i,o=some i→3≤i) (cc:Nat) (hc:3≤cc):AC Tryd.prog 35 [.ptr 1 0] (DH s cs o b) cc (fun v H' c'=>v=ints (rdNums s).1∧H'=DH (rdNums s).2 cs o b) :=
 (c_rnums s hs _ cc 1 (DH_1 h) (by omega)).mono fun v H' c' q=>⟨q.1,by rw [q.2,DH_r h]⟩
theorem DH_fin {s:RS} {u n:Nat} {o:Option Nat} {pre suf:List DV} {xs ds:List DV} (h1:∀ d∈pre++suf,d.one=true) (hn:o=none→xs=[]) (hs:∀ i,o=some i→3≤i)
  (hl:xs.length=n) (hu:∀ x∈xs,x.cells.length=u) {b:Blk}:GL (DH s (pre++[todoV o n]++suf) o ⟨u,true,cellsL xs⟩) ds (DH s (pre++[.lst xs]++suf) none b) ds :=
 g_fin h1 hn (fun i hi=>⟨by have:=hs i hi;omega,DB_n s (by have:=hs i hi;omega)⟩) hl hu
theorem DH_s {s:RS} {cs:List DV} {i:Nat} {b:Blk}:DH s cs (some i) b i=some b:=h_same
theorem DH_n {s:RS} {cs:List DV} {o:Option Nat} {b:Blk} {j:Nat} (h:3≤j) (h2:∀ i,o=some i→i<j):DH s cs o b j=none:=by
 cases o with
 | none=>simp only [DH,optH];rw [h_ne (by omega),DB_n s (by omega)]
 | some i=>have:=h2 i rfl;simp only [DH,optH];rw [h_ne (by omega),h_ne (by omega),DB_n s (by omega)]
theorem no2 {j:Nat}:∀ i,(none:Option Nat)=some i→i<j:=fun i h=>by cases h
theorem no3:∀ i,(none:Option Nat)=some i→3≤i:=fun i h=>by cases h
theorem none_view {ρ : Ren} {v:Value} (h:VRel ρ (.agg [.snil,.snil,.snil,.snil,.snil,I64 0,I64 0]) v):VRel ρ Prg.none.v v:=by
 obtain ⟨b,rfl,hA⟩:=h.agg_inv
 refine .mkAgg ⟨hA.1,fun i x y hx hy=>?_⟩
 match i with
 | 0=>cases hx;exact (hA.2 0 _ y rfl hy).snil_lst
 | 1=>cases hx;exact (hA.2 1 _ y rfl hy).snil_lst
 | 2=>cases hx;exact (hA.2 2 _ y rfl hy).snil_lst
 | 3=>cases hx;exact (hA.2 3 _ y rfl hy).snil_lst
 | 4=>cases hx;exact (hA.2 4 _ y rfl hy).snil_lst
 | 5=>cases hx;exact hA.2 5 _ y rfl hy
 | 6=>cases hx;exact hA.2 6 _ y rfl hy
 | _+7=>cases hx
theorem g_none {H:Hp}:∃ H2,GL H [.tup [.agg [.snil,.snil,.snil,.snil,.snil,I64 0,I64 0],I64 51]] H2 [decV Option.none] :=
 ⟨H,GL.view fun ρ vs h=>arel_one (fun v h=>h.tup2 fun v h=>none_view h) vs h⟩
theorem c_Decode (s:List UInt8) (hs:s.length≤1000000):PC Tryd.prog 16 [.str s] (decV (decP s)):=by
 refine PC.of mixedU isU16 (Nat.le_of_ble_eq_true rfl) rfl (decV_nl _) ?_
 show IW Tryd.prog 118 u16_1 ⟨argT _,_,_⟩ (rt [.cell 2 7 true,.tmp 3] _)
 repeat' ((with_reducible first|refine wr ?_|refine wb2 ?_ ?_<;>(intro hb;try simp only [hb])|fail)<;>try simp only [go_sem,seval])
 refine AC.call (c_rcntD (s,false) hs (cs:=[.snil,.snil,.snil,.snil,.snil,I64 0,I64 0]) (b:=⟨0,true,[]⟩) no3 3 (by omega)) ?_
 rintro v H' c1 ⟨rfl,rfl⟩ hc1
 obtain ⟨L1,L2⟩:=rdCnt_len (s,false)
 obtain ⟨n1,hn1⟩:∃ n,n=(rdCnt (s,false)).1:=⟨_,rfl⟩
 obtain ⟨s1,hs1⟩:∃ st,st=(rdCnt (s,false)).2:=⟨_,rfl⟩
 rw [← hn1, ← hs1] at L2 ⊢
 rw [← hs1] at L1
 simp only at L1
 simp only [go_sem,seval]
 repeat' ((with_reducible first|refine wr ?_|refine wb2 ?_ ?_<;>(intro hb;try simp only [hb])|fail)<;>try simp only [go_sem,seval])
 refine i_loop (fun q:Nat × Option Nat=>[(0,.str s),(2,.ptr 0 0),(4,.ptr 1 0),(5,.ptr 2 0),(16,I64 n1),(17,I64 q.1)]) (fun q=>DH (rdMany rdIns q.1 s1).2 [todoV q.2 q.1,.snil,.snil,.snil,.snil,I64 0,I64 0] q.2 ⟨2,true,insC (rdMany rdIns q.1 s1).1⟩) (fun q cc=>3≤cc∧q.1≤n1∧(q.2=none→q.1=0)∧∀ i,q.2=some i→3≤i∧i<cc) (fun q=>n1-q.1) (0,none)
  (by simp [tmLe,tm,Tm.upd]) (Sub.refl _) ⟨by omega,by simp,by simp,by simp⟩ ?_
 rintro ⟨k,o⟩ cc ⟨h3,hk,hno,hso⟩
 simp only at hk hno hso
 have ho3:∀ i,o=some i→3≤i:=fun i hi=>(hso i hi).1
 obtain ⟨M1,M2⟩:=rdMany_len (f:=rdIns) rdIns_len k s1
 by_cases hlt:k<n1
 ·have hd:decide ((k:Int)<(n1:Int))=true:=by simpa using hlt
  have hw:IntKind.i64.wrap ((k:Int)+1)=((k+1:Nat):Int):=by rw [w64 (by omega) (by omega)];omega
  have N1:=rdNum_len (rdMany rdIns k s1).2
  repeat' ((with_reducible first|refine wr ?_|refine wb2 ?_ ?_<;>(intro hb;try simp only [hb])|fail)<;>try simp only [go_sem,seval,hd])
  refine AC.call (c_rnumD _ (by omega) ho3 cc h3) ?_
  rintro v H' c2 ⟨rfl,rfl⟩ hcc
  have hD2:=fun st=>DH_2 (s:=st) (cs:=[todoV o k,.snil,.snil,.snil,.snil,I64 0,I64 0]) (b:=⟨2,true,insC (rdMany rdIns k s1).1⟩) ho3
  simp only [go_sem,seval]
  repeat' ((with_reducible first|refine wr ?_|refine wb2 ?_ ?_<;>(intro hb;try simp only [hb])|fail)<;>try simp only [go_sem,seval,hD2])
  refine AC.call (c_rnumD _ (by omega) ho3 _ (by omega)) ?_
  rintro v H' c3 ⟨rfl,rfl⟩ hcc3
  have hL:=insC_len2 (rdMany rdIns k s1).1
  rw [M2] at hL
  have est:=insC_step s1 k
  have e2:(rdMany rdIns (k+1) s1).2=(rdNum (rdNum (rdMany rdIns k s1).2).2).2:=rfl
  rcases o with _|id
  ·obtain rfl:=hno rfl
   have hD2:=fun st=>DH_2 (s:=st) (cs:=[.snil,.snil,.snil,.snil,.snil,I64 0,I64 0]) (b:=⟨2,true,insC (rdMany rdIns 0 s1).1⟩) no3
   have f0:=fun st=>DH_n (s:=st) (cs:=[.snil,.snil,.snil,.snil,.snil,I64 0,I64 0]) (b:=⟨2,true,insC (rdMany rdIns 0 s1).1⟩) (j:=c2) (by omega) no2
   have f1:=fun st=>DH_n (s:=st) (cs:=[.snil,.snil,.snil,.snil,.snil,I64 0,I64 0]) (b:=⟨2,true,insC (rdMany rdIns 0 s1).1⟩) (j:=c2+1) (by omega) no2
   have f2:=fun st=>DH_n (s:=st) (cs:=[.snil,.snil,.snil,.snil,.snil,I64 0,I64 0]) (b:=⟨2,true,insC (rdMany rdIns 0 s1).1⟩) (j:=c2+2) (by omega) no2
   have ne0:=nes4 1 2 (c2+6) c3 (by omega)
   simp only [go_sem,seval,hD2,f0,f1,f2,ne0]
   repeat' ((first|(with_reducible first|refine wr ?_)|(with_reducible refine wb2 ?_ ?_<;>(intro hb;try simp only [hb]))|((with_reducible refine x_eval (r_appn' (by decide) (by decide) (by decide)) ?_))|fail)<;>try simp only [go_sem,seval,hD2,f0,f1,f2,hw,ne0])
   exact ⟨(1,some c3),rfl,by simp only [est,e2,insC,cellsL,List.map_nil,List.flatMap_nil,rdMany,todoV] at *;(intro j b hj;simp only [DH,DB,optH,Hp.upd,Hp.del,Sym.nil] at hj ⊢;(repeat' split at hj)<;>(repeat' split)<;>first|exact hj|(exfalso;omega)|cases hj),inv ⟨by omega,hlt,by simp,fun i hi=>by cases hi;omega⟩,by simp only;omega⟩
  ·obtain ⟨i1,i2⟩:=hso id rfl
   have hDs:=fun st=>DH_s (s:=st) (cs:=[.slc id 0 k,.snil,.snil,.snil,.snil,I64 0,I64 0]) (i:=id) (b:=⟨2,true,insC (rdMany rdIns k s1).1⟩)
   have hD2:=fun st=>DH_2 (s:=st) (cs:=[.slc id 0 k,.snil,.snil,.snil,.snil,I64 0,I64 0]) (b:=⟨2,true,insC (rdMany rdIns k s1).1⟩) ho3
   have hi2:∀ i,some id=some i→i<c2:=fun i hi=>by cases hi;omega
   have f0:=fun st=>DH_n (s:=st) (cs:=[.slc id 0 k,.snil,.snil,.snil,.snil,I64 0,I64 0]) (b:=⟨2,true,insC (rdMany rdIns k s1).1⟩) (j:=c2) (by omega) hi2
   have f1:=fun st=>DH_n (s:=st) (cs:=[.slc id 0 k,.snil,.snil,.snil,.snil,I64 0,I64 0]) (b:=⟨2,true,insC (rdMany rdIns k s1).1⟩) (j:=c2+1) (by omega) (fun i hi=>by have:=hi2 i hi;omega)
   have f2:=fun st=>DH_n (s:=st) (cs:=[.slc id 0 k,.snil,.snil,.snil,.snil,I64 0,I64 0]) (b:=⟨2,true,insC (rdMany rdIns k s1).1⟩) (j:=c2+2) (by omega) (fun i hi=>by have:=hi2 i hi;omega)
   have ne0:=nes5 1 2 id (c2+6) c3 (by omega)
   simp only [go_sem,seval,hD2,hDs,f0,f1,f2,ne0]
   repeat' ((first|(with_reducible first|refine wr ?_)|(with_reducible refine wb2 ?_ ?_<;>(intro hb;try simp only [hb]))|((with_reducible refine x_eval (b_appx hL (by omega) (by omega)) ?_))|fail)<;>try simp only [go_sem,seval,hD2,hDs,f0,f1,f2,hw,ne0])
   exact ⟨(k+1,some c3),rfl,by simp only [est,e2,todoV];(intro j b hj;simp only [DH,DB,optH,Hp.upd,Hp.del,Sym.nil] at hj ⊢;(repeat' split at hj)<;>(repeat' split)<;>first|exact hj|(exfalso;omega)|cases hj),inv ⟨by omega,hlt,by simp,fun i hi=>by cases hi;omega⟩,by simp only;omega⟩
 have hd:decide ((k:Int)<(n1:Int))=false:=by simpa using hlt
 obtain rfl:k=n1:=by omega
 repeat' ((with_reducible first|refine wr ?_|refine wb2 ?_ ?_<;>(intro hb;try simp only [hb])|fail)<;>try simp only [go_sem,seval,hd])
 refine AC.ghost (DH_fin (pre:=[]) (suf:=[.snil,.snil,.snil,.snil,I64 0,I64 0]) (xs:=(rdMany rdIns k s1).1.map Ins.v) (b:=⟨0,true,[]⟩) (by simp [DV.one]) (fun e=>by rw [hno e];rfl) ho3 (by simp [M2]) (ins_unit _)) ?_
 clear hd hlt hk hno hso ho3
 obtain ⟨I,hI⟩:∃ I,I=(rdMany rdIns k s1).1:=⟨_,rfl⟩
 obtain ⟨s2,hs2⟩:∃ s,s=(rdMany rdIns k s1).2:=⟨_,rfl⟩
 rw [← hI, ← hs2]
 rw [← hs2] at M1
 refine AC.call (c_rcntD s2 (by omega) (cs:=[inssV I,.snil,.snil,.snil,.snil,I64 0,I64 0]) (b:=⟨0,true,[]⟩) no3 cc h3) ?_
 rintro v H' c2 ⟨rfl,rfl⟩ hc2
 obtain ⟨L3,L4⟩:=rdCnt_len s2
 obtain ⟨n2,hn2⟩:∃ n,n=(rdCnt s2).1:=⟨_,rfl⟩
 obtain ⟨s3,hs3⟩:∃ st,st=(rdCnt s2).2:=⟨_,rfl⟩
 rw [← hn2, ← hs3] at L4 ⊢
 rw [← hs3] at L3
 simp only [go_sem,seval]
 repeat' ((with_reducible first|refine wr ?_|refine wb2 ?_ ?_<;>(intro hb;try simp only [hb])|fail)<;>try simp only [go_sem,seval])
 refine i_loop (fun q:Nat × Option Nat=>[(0,.str s),(2,.ptr 0 0),(4,.ptr 1 0),(5,.ptr 2 0),(32,I64 n2),(33,I64 q.1)]) (fun q=>DH (rdMany rdStr q.1 s3).2 [inssV I,todoV q.2 q.1,.snil,.snil,.snil,I64 0,I64 0] q.2 ⟨1,true,cellsL ((rdMany rdStr q.1 s3).1.map DV.str)⟩) (fun q cc=>3≤cc∧q.1≤n2∧(q.2=none→q.1=0)∧∀ i,q.2=some i→3≤i∧i<cc) (fun q=>n2-q.1) (0,none)
  (by simp [tmLe,tm,Tm.upd]) (Sub.refl _) ⟨by omega,by simp,by simp,by simp⟩ ?_
 clear h3 hc2 c2 cc
 rintro ⟨k2,o⟩ cc ⟨h3,hk,hno,hso⟩
 simp only at hk hno hso
 have ho3:∀ i,o=some i→3≤i:=fun i hi=>(hso i hi).1
 obtain ⟨M3,M4⟩:=rdMany_len (f:=rdStr) rdStr_len k2 s3
 by_cases hlt:k2<n2
 ·have hd:decide ((k2:Int)<(n2:Int))=true:=by simpa using hlt
  have hw:IntKind.i64.wrap ((k2:Int)+1)=((k2+1:Nat):Int):=by rw [w64 (by omega) (by omega)];omega
  obtain ⟨N1,N2⟩:=rdCnt_len (rdMany rdStr k2 s3).2
  repeat' ((with_reducible first|refine wr ?_|refine wb2 ?_ ?_<;>(intro hb;try simp only [hb])|fail)<;>try simp only [go_sem,seval,hd])
  refine AC.call (c_rcntD _ (by omega) ho3 cc h3) ?_
  rintro v H' c2 ⟨rfl,rfl⟩ hcc
  have hL:=strC_len (rdMany rdStr k2 s3).1
  rw [M4] at hL
  have est:=strC_step s3 k2
  have e2:(rdMany rdStr (k2+1) s3).2=((rdCnt (rdMany rdStr k2 s3).2).2.1.drop (rdCnt (rdMany rdStr k2 s3).2).1,(rdCnt (rdMany rdStr k2 s3).2).2.2):=rfl
  have e3:(rdStr (rdMany rdStr k2 s3).2).1=(rdCnt (rdMany rdStr k2 s3).2).2.1.take (rdCnt (rdMany rdStr k2 s3).2).1:=rfl
  have T1:=sls_to N2
  have T2:=sls_from N2
  rcases o with _|id
  ·obtain rfl:=hno rfl
   have hD1:=fun st=>DH_1 (s:=st) (cs:=[inssV I,.snil,.snil,.snil,.snil,I64 0,I64 0]) (b:=⟨1,true,cellsL ((rdMany rdStr 0 s3).1.map DV.str)⟩) no3
   have hD2:=fun st=>DH_2 (s:=st) (cs:=[inssV I,.snil,.snil,.snil,.snil,I64 0,I64 0]) (b:=⟨1,true,cellsL ((rdMany rdStr 0 s3).1.map DV.str)⟩) no3
   have ne0:=nes4 1 2 (c2+8) (c2+12) (by omega)
   simp only [go_sem,seval,hD1,hD2,T1,T2,ne0]
   repeat' ((first|(with_reducible first|refine wr ?_)|(with_reducible refine wb2 ?_ ?_<;>(intro hb;try simp only [hb]))|((with_reducible refine x_eval (r_appn' (by decide) (by decide) (by decide)) ?_))|fail)<;>try simp only [go_sem,seval,hD1,hD2,hw,T1,T2,ne0])
   exact ⟨(1,some (c2+12)),rfl,by simp only [est,e2,e3,cellsL,List.map_nil,List.flatMap_nil,rdMany,todoV] at *;(intro j b hj;simp only [DH,DB,optH,Hp.upd,Hp.del,Sym.nil] at hj ⊢;(repeat' split at hj)<;>(repeat' split)<;>first|exact hj|(exfalso;omega)|cases hj),inv ⟨by omega,hlt,by simp,fun i hi=>by cases hi;omega⟩,by simp only;omega⟩
  ·obtain ⟨i1,i2⟩:=hso id rfl
   have hDs:=fun st=>DH_s (s:=st) (cs:=[inssV I,.slc id 0 k2,.snil,.snil,.snil,I64 0,I64 0]) (i:=id) (b:=⟨1,true,cellsL ((rdMany rdStr k2 s3).1.map DV.str)⟩)
   have hD1:=fun st=>DH_1 (s:=st) (cs:=[inssV I,.slc id 0 k2,.snil,.snil,.snil,I64 0,I64 0]) (b:=⟨1,true,cellsL ((rdMany rdStr k2 s3).1.map DV.str)⟩) ho3
   have hD2:=fun st=>DH_2 (s:=st) (cs:=[inssV I,.slc id 0 k2,.snil,.snil,.snil,I64 0,I64 0]) (b:=⟨1,true,cellsL ((rdMany rdStr k2 s3).1.map DV.str)⟩) ho3
   have ne0:=nes5 1 2 id (c2+8) (c2+12) (by omega)
   simp only [go_sem,seval,hD1,hD2,hDs,T1,T2,ne0]
   repeat' ((first|(with_reducible first|refine wr ?_)|(with_reducible refine wb2 ?_ ?_<;>(intro hb;try simp only [hb]))|((with_reducible refine x_eval (b_appx hL (by omega) (by omega)) ?_))|fail)<;>try simp only [go_sem,seval,hD1,hD2,hDs,hw,T1,T2,ne0])
   exact ⟨(k2+1,some (c2+12)),rfl,by simp only [est,e2,e3,todoV];(intro j b hj;simp only [DH,DB,optH,Hp.upd,Hp.del,Sym.nil] at hj ⊢;(repeat' split at hj)<;>(repeat' split)<;>first|exact hj|(exfalso;omega)|cases hj),inv ⟨by omega,hlt,by simp,fun i hi=>by cases hi;omega⟩,by simp only;omega⟩
 have hd:decide ((k2:Int)<(n2:Int))=false:=by simpa using hlt
 obtain rfl:k2=n2:=by omega
 repeat' ((with_reducible first|refine wr ?_|refine wb2 ?_ ?_<;>(intro hb;try simp only [hb])|fail)<;>try simp only [go_sem,seval,hd])
 refine AC.ghost (DH_fin (pre:=[inssV I]) (suf:=[.snil,.snil,.snil,I64 0,I64 0]) (xs:=(rdMany rdStr k2 s3).1.map DV.str) (b:=⟨0,true,[]⟩) (by simp [DV.one]) (fun e=>by rw [hno e];rfl) ho3 (by simp [M4]) (str_unit _)) ?_
 clear hd hlt hk hno hso ho3
 obtain ⟨S,hS⟩:∃ S,S=(rdMany rdStr k2 s3).1:=⟨_,rfl⟩
 obtain ⟨s4,hs4⟩:∃ s,s=(rdMany rdStr k2 s3).2:=⟨_,rfl⟩
 rw [← hS, ← hs4]
 rw [← hs4] at M3
 refine AC.call (c_rcntD s4 (by omega) (cs:=[inssV I,strs S,.snil,.snil,.snil,I64 0,I64 0]) (b:=⟨0,true,[]⟩) no3 cc h3) ?_
 rintro v H' c2 ⟨rfl,rfl⟩ hc2
 obtain ⟨L5,L6⟩:=rdCnt_len s4
 obtain ⟨n3,hn3⟩:∃ n,n=(rdCnt s4).1:=⟨_,rfl⟩
 obtain ⟨s5,hs5⟩:∃ st,st=(rdCnt s4).2:=⟨_,rfl⟩
 rw [← hn3, ← hs5] at L6 ⊢
 rw [← hs5] at L5
 simp only [go_sem,seval]
 repeat' ((with_reducible first|refine wr ?_|refine wb2 ?_ ?_<;>(intro hb;try simp only [hb])|fail)<;>try simp only [go_sem,seval])
 refine i_loop (fun q:Nat × Option Nat=>[(0,.str s),(2,.ptr 0 0),(4,.ptr 1 0),(5,.ptr 2 0),(59,I64 n3),(60,I64 q.1)]) (fun q=>DH (rdMany rdEnt q.1 s5).2 [inssV I,strs S,todoV q.2 q.1,.snil,.snil,I64 0,I64 0] q.2 ⟨4,true,cellsL ((rdMany rdEnt q.1 s5).1.map Ent.v)⟩) (fun q cc=>3≤cc∧q.1≤n3∧(q.2=none→q.1=0)∧∀ i,q.2=some i→3≤i∧i<cc) (fun q=>n3-q.1) (0,none)
  (by simp [tmLe,tm,Tm.upd]) (Sub.refl _) ⟨by omega,by simp,by simp,by simp⟩ ?_
 clear h3 hc2 c2 cc
 rintro ⟨k3,o⟩ cc ⟨h3,hk,hno,hso⟩
 simp only at hk hno hso
 have ho3:∀ i,o=some i→3≤i:=fun i hi=>(hso i hi).1
 obtain ⟨M5,M6⟩:=rdMany_len (f:=rdEnt) rdEnt_len k3 s5
 by_cases hlt:k3<n3
 ·have hd:decide ((k3:Int)<(n3:Int))=true:=by simpa using hlt
  have hw:IntKind.i64.wrap ((k3:Int)+1)=((k3+1:Nat):Int):=by rw [w64 (by omega) (by omega)];omega
  obtain ⟨s6,hs6⟩:∃ s,s=(rdMany rdEnt k3 s5).2:=⟨_,rfl⟩
  rw [← hs6] at M5
  repeat' ((with_reducible first|refine wr ?_|refine wb2 ?_ ?_<;>(intro hb;try simp only [hb])|fail)<;>try simp only [go_sem,seval,hd])
  refine i_loop (fun k:Nat=>[(0,.str s),(2,.ptr 0 0),(4,.ptr 1 0),(5,.ptr 2 0),(8,.ptr cc 0),(59,I64 n3),(60,I64 k3),(63,I64 k)]) (fun k=>(DH (rdMany rdNum k s6).2 [inssV I,strs S,todoV o k3,.snil,.snil,I64 0,I64 0] o ⟨4,true,cellsL ((rdMany rdEnt k3 s5).1.map Ent.v)⟩).upd cc ⟨0,true,((rdMany rdNum k s6).1++List.replicate (4-k) 0).map I64⟩) (fun k c=>cc<c∧k≤4) (fun k=>4-k) 0
   (by simp [tmLe,tm,Tm.upd]) (by rw [hs6,h_upd2];exact Sub.refl _) ⟨by omega,by omega⟩ ?_
  rintro k c ⟨hcc,hk4⟩
  obtain ⟨M7,M8⟩:=rdMany_len (f:=rdNum) rdNum_len k s6
  by_cases hlt4:k<4
  ·have hd4:decide ((k:Int)<4)=true:=by simp;omega
   have hw4:IntKind.i64.wrap ((k:Int)+1)=((k+1:Nat):Int):=by rw [w64 (by omega) (by omega)];omega
   repeat' ((with_reducible first|refine wr ?_|refine wb2 ?_ ?_<;>(intro hb;try simp only [hb])|fail)<;>try simp only [go_sem,seval,hd4])
   refine AC.call (c_rnum (rdMany rdNum k s6).2 (by omega) _ c 1 (by rw [h_ne (by omega)];exact DH_1 ho3) (by omega)) ?_
   rintro v H' c1 ⟨rfl,rfl⟩ hcc1
   have hia:=r_iada (id:=cc) (off:=0) (sz:=1) (l:=4) (k:=.i64) (j:=(k:Int)) (by omega) (by omega)
   have hlen:((rdMany rdNum k s6).1++List.replicate (4-k) 0).length=4:=by simp [M8];omega
   have hle:k+1≤4:=hlt4
   have ne0:=nes2 1 cc (by omega)
   simp only [go_sem,seval,hia,hlen,hle,ne0]
   repeat' ((with_reducible first|refine wr ?_|refine wb2 ?_ ?_<;>(intro hb;try simp only [hb])|fail)<;>try simp only [go_sem,seval,hia,hw4,hlen,hle,ne0])
   refine ⟨k+1,rfl,?_,inv ⟨by omega,hlt4⟩,by omega⟩
   rw [put_map (by rw [hlen];omega),set_fill M8 hlt4]
   have q1:(rdMany rdNum (k+1) s6).1=(rdMany rdNum k s6).1++[(rdNum (rdMany rdNum k s6).2).1]:=rfl
   have q2:(rdMany rdNum (k+1) s6).2=(rdNum (rdMany rdNum k s6).2).2:=rfl
   simp only [q1,q2]
   rcases o with _|id
   ·(intro j b hj;simp only [DH,DB,optH,Hp.upd,Hp.del,Sym.nil] at hj ⊢;(repeat' split at hj)<;>(repeat' split)<;>first|exact hj|(exfalso;omega)|cases hj)
   ·have:=hso id rfl
    (intro j b hj;simp only [DH,DB,optH,Hp.upd,Hp.del,Sym.nil] at hj ⊢;(repeat' split at hj)<;>(repeat' split)<;>first|exact hj|(exfalso;omega)|cases hj)
  have hd4:decide ((k:Int)<4)=false:=by simp;omega
  obtain rfl:k=4:=by omega
  have ee:=rdEnt_many s6
  have hL:=entC_len' (rdMany rdEnt k3 s5).1
  rw [M6] at hL
  have est:=entC_step s5 k3
  have e2:(rdMany rdEnt (k3+1) s5).2=(rdEnt (rdMany rdEnt k3 s5).2).2:=rfl
  rw [← hs6] at e2 est
  have ecs:((rdMany rdNum 4 s6).1++List.replicate (4-4) 0).map I64=[I64 (rdEnt s6).1.mode,I64 (rdEnt s6).1.trigger,I64 (rdEnt s6).1.index,I64 (rdEnt s6).1.pos]:=by rw [ee];rfl
  have est2:(rdMany rdNum 4 s6).2=(rdEnt s6).2:=by rw [ee]
  rw [ecs,est2]
  have g0:=r_iada (id:=cc) (off:=0) (sz:=1) (l:=4) (k:=.i64) (j:=0) (by omega) (by omega)
  have g1:=r_iada (id:=cc) (off:=0) (sz:=1) (l:=4) (k:=.i64) (j:=1) (by omega) (by omega)
  have g2:=r_iada (id:=cc) (off:=0) (sz:=1) (l:=4) (k:=.i64) (j:=2) (by omega) (by omega)
  have g3:=r_iada (id:=cc) (off:=0) (sz:=1) (l:=4) (k:=.i64) (j:=3) (by omega) (by omega)
  rcases o with _|id
  ·obtain rfl:=hno rfl
   have h65:s5=s6:=hs6.symm
   subst h65
   have hD2:=fun st=>DH_2 (s:=st) (cs:=[inssV I,strs S,.snil,.snil,.snil,I64 0,I64 0]) (b:=⟨4,true,cellsL ((rdMany rdEnt 0 s5).1.map Ent.v)⟩) no3
   have ne0:=nes5 1 2 cc c (c+1) (by omega)
   repeat' ((first|(with_reducible first|refine wr ?_)|(with_reducible refine wb2 ?_ ?_<;>(intro hb;try simp only [hb]))|((with_reducible refine k_eval (r_appn' (by decide) (by decide) (by decide)) ?_))|fail)<;>try simp only [go_sem,seval,hd4,hD2,hw,g0,g1,g2,g3,ne0])
   exact ⟨(1,some (c+1)),rfl,by simp only [est,e2,cellsL,List.map_nil,List.flatMap_nil,rdMany,todoV,DV.cells,List.nil_append] at *;(intro j b hj;simp only [DH,DB,optH,Hp.upd,Hp.del,Sym.nil] at hj ⊢;(repeat' split at hj)<;>(repeat' split)<;>first|exact hj|(exfalso;omega)|cases hj),inv ⟨by omega,hlt,by simp,fun i hi=>by cases hi;omega⟩,by simp only;omega⟩
  ·obtain ⟨i1,i2⟩:=hso id rfl
   have hDs:=fun st=>DH_s (s:=st) (cs:=[inssV I,strs S,.slc id 0 k3,.snil,.snil,I64 0,I64 0]) (i:=id) (b:=⟨4,true,cellsL ((rdMany rdEnt k3 s5).1.map Ent.v)⟩)
   have hD2:=fun st=>DH_2 (s:=st) (cs:=[inssV I,strs S,.slc id 0 k3,.snil,.snil,I64 0,I64 0]) (b:=⟨4,true,cellsL ((rdMany rdEnt k3 s5).1.map Ent.v)⟩) ho3
   have ne0:=nes6 1 2 id cc c (c+1) (by omega)
   repeat' ((first|(with_reducible first|refine wr ?_)|(with_reducible refine wb2 ?_ ?_<;>(intro hb;try simp only [hb]))|((with_reducible refine k_eval (b_appx hL (by omega) (by omega)) ?_))|fail)<;>try simp only [go_sem,seval,hd4,hD2,hDs,hw,g0,g1,g2,g3,ne0])
   exact ⟨(k3+1,some (c+1)),rfl,by simp only [est,e2,todoV,DV.cells];(intro j b hj;simp only [DH,DB,optH,Hp.upd,Hp.del,Sym.nil] at hj ⊢;(repeat' split at hj)<;>(repeat' split)<;>first|exact hj|(exfalso;omega)|cases hj),inv ⟨by omega,hlt,by simp,fun i hi=>by cases hi;omega⟩,by simp only;omega⟩
 have hd:decide ((k3:Int)<(n3:Int))=false:=by simpa using hlt
 obtain rfl:k3=n3:=by omega
 repeat' ((with_reducible first|refine wr ?_|refine wb2 ?_ ?_<;>(intro hb;try simp only [hb])|fail)<;>try simp only [go_sem,seval,hd])
 refine AC.ghost (DH_fin (pre:=[inssV I,strs S]) (suf:=[.snil,.snil,I64 0,I64 0]) (xs:=(rdMany rdEnt k3 s5).1.map Ent.v) (b:=⟨0,true,[]⟩) (by simp [DV.one]) (fun e=>by rw [hno e];rfl) ho3 (by simp [M6]) (ent_unit _)) ?_
 clear hd hlt hk hno hso ho3
 obtain ⟨E,hE⟩:∃ E,E=(rdMany rdEnt k3 s5).1:=⟨_,rfl⟩
 obtain ⟨s6,hs6⟩:∃ s,s=(rdMany rdEnt k3 s5).2:=⟨_,rfl⟩
 rw [← hE, ← hs6]
 rw [← hs6] at M5
 refine AC.call (c_rnumsD s6 (by omega) (cs:=[inssV I,strs S,entsV E,.snil,.snil,I64 0,I64 0]) (b:=⟨0,true,[]⟩) no3 cc h3) ?_
 rintro v H' c2 ⟨rfl,rfl⟩ hc2
 have hc:∀ st cs cs',(DH st cs none ⟨0,true,[]⟩).upd 2 ⟨0,true,cs'⟩=DH st cs' none ⟨0,true,[]⟩:=fun st cs cs'=>h_upd2
 have R1:=rdNums_len s6
 have hD2:=fun st=>DH_2 (s:=st) (cs:=[inssV I,strs S,entsV E,.snil,.snil,I64 0,I64 0]) (b:=⟨0,true,[]⟩) no3
 simp only [go_sem,seval,hD2]
 repeat' ((with_reducible first|refine wr ?_|refine wb2 ?_ ?_<;>(intro hb;try simp only [hb])|fail)<;>try simp only [go_sem,seval,hD2])
 rw [hc]
 obtain ⟨p7,hp7⟩:∃ p,p=(rdNums s6).1:=⟨_,rfl⟩
 obtain ⟨s7,hs7⟩:∃ s,s=(rdNums s6).2:=⟨_,rfl⟩
 rw [← hp7, ← hs7]
 rw [← hs7] at R1
 refine AC.call (c_rnumsD s7 (by omega) (cs:=[inssV I,strs S,entsV E,ints p7,.snil,I64 0,I64 0]) (b:=⟨0,true,[]⟩) no3 c2 (by omega)) ?_
 rintro v H' c3 ⟨rfl,rfl⟩ hc3
 have R2:=rdNums_len s7
 have hD2:=fun st=>DH_2 (s:=st) (cs:=[inssV I,strs S,entsV E,ints p7,.snil,I64 0,I64 0]) (b:=⟨0,true,[]⟩) no3
 simp only [go_sem,seval,hD2]
 repeat' ((with_reducible first|refine wr ?_|refine wb2 ?_ ?_<;>(intro hb;try simp only [hb])|fail)<;>try simp only [go_sem,seval,hD2])
 rw [hc]
 obtain ⟨p8,hp8⟩:∃ p,p=(rdNums s7).1:=⟨_,rfl⟩
 obtain ⟨s8,hs8⟩:∃ s,s=(rdNums s7).2:=⟨_,rfl⟩
 rw [← hp8, ← hs8]
 rw [← hs8] at R2
 refine AC.call (c_rnumD s8 (by omega) (cs:=[inssV I,strs S,entsV E,ints p7,ints p8,I64 0,I64 0]) (b:=⟨0,true,[]⟩) no3 c3 (by omega)) ?_
 rintro v H' c4 ⟨rfl,rfl⟩ hc4
 have R3:=rdNum_len s8
 have hD2:=fun st=>DH_2 (s:=st) (cs:=[inssV I,strs S,entsV E,ints p7,ints p8,I64 0,I64 0]) (b:=⟨0,true,[]⟩) no3
 simp only [go_sem,seval,hD2]
 repeat' ((with_reducible first|refine wr ?_|refine wb2 ?_ ?_<;>(intro hb;try simp only [hb])|fail)<;>try simp only [go_sem,seval,hD2])
 rw [hc]
 obtain ⟨p9,hp9⟩:∃ p,p=(rdNum s8).1:=⟨_,rfl⟩
 obtain ⟨s9,hs9⟩:∃ s,s=(rdNum s8).2:=⟨_,rfl⟩
 rw [← hp9, ← hs9]
 rw [← hs9] at R3
 refine AC.call (c_rnumD s9 (by omega) (cs:=[inssV I,strs S,entsV E,ints p7,ints p8,I64 p9,I64 0]) (b:=⟨0,true,[]⟩) no3 c4 (by omega)) ?_
 rintro v H' c5 ⟨rfl,rfl⟩ hc5
 have hD2:=fun st=>DH_2 (s:=st) (cs:=[inssV I,strs S,entsV E,ints p7,ints p8,I64 p9,I64 0]) (b:=⟨0,true,[]⟩) no3
 simp only [go_sem,seval,hD2]
 repeat' ((with_reducible first|refine wr ?_|refine wb2 ?_ ?_<;>(intro hb;try simp only [hb])|fail)<;>try simp only [go_sem,seval,hD2])
 rw [hc]
 have hS2:∀ x∈S,x.length≤140737488355328:=fun x hx=>by
  have:=rdStr_all k2 s3 (by omega) x (hS▸hx)
  omega
 have hI2:I.length≤9223372036854775807:=by rw [hI,M2];omega
 have eP:rdPrg (s,false)=(⟨I,S,E,p7,p8,p9,(rdNum s9).1⟩,(rdNum s9).2):=by
  subst hs9 hp9 hs8 hp8 hs7 hp7 hs6 hE hs5 hn3 hs4 hS hs3 hn2 hs2 hI hs1 hn1
  rfl
 obtain ⟨cP,hcP⟩:∃ c:Prg,c=⟨I,S,E,p7,p8,p9,(rdNum s9).1⟩:=⟨_,rfl⟩
 obtain ⟨sz,hsz⟩:∃ x:RS,x=(rdNum s9).2:=⟨_,rfl⟩
 have hv:DV.agg [inssV I,strs S,entsV E,ints p7,ints p8,I64 p9,DV.int .i64 (rdNum s9).1]=cP.v:=by rw [hcP]
 have hcs:[inssV I,strs S,entsV E,ints p7,ints p8,I64 p9,DV.int .i64 (rdNum s9).1]=cP.cs:=by rw [hcP]
 rw [hv,hcs, ← hsz]
 rw [← hcP, ← hsz] at eP
 refine AC.call ((c_Encode cP (by rw [hcP];exact hS2) (by rw [hcP];exact hI2)).at _ _) ?_
 rintro _ _ _ ⟨rfl,rfl,rfl⟩ -
 have hD0:=DH_0 (s:=sz) (cs:=cP.cs) (b:=⟨0,true,[]⟩) no3
 have hD1:=DH_1 (s:=sz) (cs:=cP.cs) (b:=⟨0,true,[]⟩) no3
 have hD2:=DH_2 (s:=sz) (cs:=cP.cs) (b:=⟨0,true,[]⟩) no3
 have eD:decP s=if sz.2=true∨validM cP≠0∨encV cP≠s then Option.none else some cP:=by rw [decP,eP]
 rw [eD]
 simp only [go_sem,seval]
 cases hb:sz.2
 ·by_cases h0:validM cP=0
  ·have h1:(validM cP != 0)=false:=by simp [h0]
   by_cases h2:encV cP=s
   ·have h3:(!(encV cP == s))=false:=by simp [h2]
    rw [if_neg (by simp [h0,h2])]
    repeat' ((with_reducible first|refine wr ?_|refine wb2 ?_ ?_<;>(intro hb;try simp only [hb])|fail)<;>try simp only [go_sem,seval,hb,h1,h3,hD0,hD1,hD2])
    rw [k_rv (v:=.tup [cP.v,I64 0]) rfl]
    exact pc_ret rfl
   ·have h3:(!(encV cP == s))=true:=by simp [h2]
    rw [if_pos (.inr (.inr h2))]
    repeat' ((with_reducible first|refine wr ?_|refine wb2 ?_ ?_<;>(intro hb;try simp only [hb])|fail)<;>try simp only [go_sem,seval,hb,h1,h3,hD0,hD1,hD2])
    rw [k_rv (v:=.tup [.agg [.snil,.snil,.snil,.snil,.snil,I64 0,I64 0],I64 51]) rfl]
    exact g_none
  ·have h1:(validM cP != 0)=true:=by simp [h0]
   rw [if_pos (.inr (.inl h0))]
   repeat' ((with_reducible first|refine wr ?_|refine wb2 ?_ ?_<;>(intro hb;try simp only [hb])|fail)<;>try simp only [go_sem,seval,hb,h1,hD0,hD1,hD2])
   rw [k_rv (v:=.tup [.agg [.snil,.snil,.snil,.snil,.snil,I64 0,I64 0],I64 51]) rfl]
   exact g_none
 ·rw [if_pos (.inl rfl)]
  repeat' ((with_reducible first|refine wr ?_|refine wb2 ?_ ?_<;>(intro hb;try simp only [hb])|fail)<;>try simp only [go_sem,seval,hb,hD0,hD1,hD2])
  rw [k_rv (v:=.tup [.agg [.snil,.snil,.snil,.snil,.snil,I64 0,I64 0],I64 51]) rfl]
  exact g_none
end Go.Proofs.YtcallbfckjlagaaDoor
end

/-
  HELPERS of the claim: part 6 of its texts.
-/
import Derived.Test.YtndjhpjcankkaaaGreatDoorProg
import Derived.Shelf.RegionOpenPlain
import Derived.WalkKit
import Derived.Lib.Walk
import Derived.Lib.SliceRun
import Derived.Lib.JoinLaws
import Derived.Lib.AppendZeros
import Derived.Lib.AppendZerosOnto
import Derived.Laws.NewBlocks
import Derived.Lib.Overlaps
import Derived.Laws.Externs
import Derived.Laws.IdiomCopy
import Derived.KernelRfl
import Derived.Test.YtndjhpjcankkaaaGreatDoorAude
noncomputable section
set_option linter.unusedVariables false
set_option linter.unusedSimpArgs false
namespace Go.Ins
open Go.Shelf Go.RowKit Go.Lib Go.Proofs
variable {P:Program}
theorem run_copy_cellsN (w:World) (dT sT ty elem:TypeId) (b o dLen dCap:Nat) (a:Addr) (sLen sCap sz:Nat) (cs:List Value)
  (hu:P.underlying dT=some (.slice elem)) (hs:(P.info? elem).map (·.size)=some sz) (hn:cs.length=Nat.min sLen dLen * sz)
  (hsrc:∀ j v,cs[j]? = some v→w.cell? (a.add j)=some v) (hc:∀ j,j<cs.length→(w.cell? ⟨b,o+j,none⟩).isSome=true) (hf:∀ j,j<cs.length→w.frozen? ⟨b,o+j,none⟩=false) (h1:∀ v∈cs,v.oneCell'=true) :
  (Builtin.copy_ #[dT,sT] ty #[.slice (some ⟨b,o,none⟩) dLen dCap,.slice (some a) sLen sCap]).run P w=.ok (goInt (Nat.min sLen dLen)) (w.setCells b o cs):=by
 have hl:=run_loadCells_list (P:=P) w a cs hsrc
 have hst:=run_storeCells_cells (P:=P) b o cs 0 w (by simpa using hc) (by simpa using hf) h1
 cases hq:P.info? elem with
 | none=>simp [hq] at hs
 | some i =>
  have hi:i.size=sz:=by simpa [hq] using hs
  simp [Builtin.copy_,run_underlying hu,Builtin.lenOf,Builtin.firstCells,sizeOf,typeInfo,hq,hi, ← hn,hl,hst]
theorem isSome_setCells (b:Nat) (vs:List Value) (o:Nat) (w:World) (h:∀ j,j<vs.length→(w.cell? ⟨b,o+j,none⟩).isSome=true) (k:Nat) (hk:(w.cell? ⟨b,k,none⟩).isSome=true):((w.setCells b o vs).cell? ⟨b,k,none⟩).isSome=true:=by
 by_cases hin:o≤k∧k<o+vs.length
 ·have:=World.cell?_setCells_in b vs o w h (k-o) (by omega)
  rw [show o+(k-o)=k by omega] at this
  rw [this];rfl
 ·rw [World.cell?_setCells_out b vs o w ⟨b,k,none⟩ (fun _ _=>by show k<o∨o+vs.length≤k;omega)]
  exact hk
theorem step_copy_run {ops:Array Oper} {o:Oper} {a:Act} {w:World} {K:Act→World→Prop} {Q:Exit→Act→World→Prop} {E:Prop}
  (hg:o.guard=none) (d x:Operand) (dT sT:TypeId) (hop:o.op=Op.call { callee:=Callee.builtin Builtin.copy,args := #[d,x],argTypes := #[dT,sT] })
  (v u:Value) (hd:a.eval d=v) (hx:a.eval x=u) {v':Value} {w':World} (hr:(Builtin.copy_ #[dT,sT] o.type #[v,u]).run P w=.ok v' w') (hK:K (a.put o.dst v') w') :
  if Region.wanted o (yielded ops a.tmps)=true then Oper.wp P o a w K Q else E:=by
 have hw:Region.wanted o (yielded ops a.tmps)=true:=by simp [Region.wanted,hg]
 rw [if_pos hw]
 unfold Oper.wp
 simp [execOp,hop,resolve,invoke,builtin,hd,hx,hr,Result.andThen]
 exact hK
theorem mixed:Tryz.prog.follows .mixedOrders=true:=by kernel_rfl
set_option maxHeartbeats 4000000 in
set_option maxRecDepth 100000 in
theorem ins_room (b n c i vb vc:Nat) (cs vs:List Value) (w:World) (hi:i<n) (hroom:n+1≤c) (hc63:c≤9223372036854775807) (hvb:vb≠b)
  (hcl:cs.length=n * 2) (hvl:vs.length=2)
  (hcs:∀ j v,cs[j]? = some v→w.cell? ⟨b,j,none⟩=some v) (hsp:∀ j,j<(n+1) * 2→(w.cell? ⟨b,j,none⟩).isSome=true) (hfz:∀ j,j<(n+1) * 2→w.frozen? ⟨b,j,none⟩=false)
  (hvs:∀ j v,vs[j]? = some v→w.cell? ⟨vb,j,none⟩=some v) (h1c:∀ v∈cs,v.oneCell'=true) (h1v:∀ v∈vs,v.oneCell'=true)
  (tA tB:TypeId) (kA kB:Nat) (hsa:w.shape? vb=some (tA,kA)) (hsb:w.shape? b=some (tB,kB)) (hkB:kB≠0) (hfa:w.frozen? ⟨vb,0,none⟩=false) (hfe:w.frozen? ⟨vb,kA,none⟩=false) :
  Calls Tryz.prog 51 #[.slice (some ⟨b,0,none⟩) n c,.int .i64 i,.slice (some ⟨vb,0,none⟩) 1 vc] w fun e w' =>
   e=.returned (.slice (some ⟨b,0,none⟩) (n+1) c)∧w'=(w.drew.setCells b ((i+1) * 2) (cs.drop (i * 2))).setCells b (i * 2) vs:=by
 have hz2:¬ ((i:Int)=(n:Int)):=by omega
 have hsz:(Tryz.prog.info? 45).map (·.size)=some 2:=by kernel_rfl
 have hov:∀ lb cb,(callFunc 76 #[.slice (some ⟨vb,0,none⟩) 1 vc,.slice (some ⟨b,(i+1) * 2,none⟩) lb cb]).run Tryz.prog w=.ok (.value (.bool false)) w:=fun lb cb=>by
  rw [run_callFunc_extern Tryz.func76 (by kernel_rfl) (by kernel_rfl) (by kernel_rfl) (e:=Extern.SlicesOverlaps.overlaps #[23,23] #[4]) (by kernel_rfl),
   Lib.run_overlaps_apart w 23 4 45 Tryz.underlying23 2 Tryz.sizeOf45 ⟨vb,0,none⟩ ⟨b,(i+1) * 2,none⟩ 1 vc lb cb hvb tA tB kA kB hsa hsb hkB hfa hfe]
  rfl
 have hdl:(cs.drop (i * 2)).length=(n-i) * 2:=by rw [List.length_drop,hcl];omega
 have hw1:IntKind.i64.wrap ((i:Int)+1)=(i:Int)+1:=by rw [IntKind.wrap_i64];omega
 have hw2:IntKind.i64.wrap ((n:Int)+1)=(n:Int)+1:=by rw [IntKind.wrap_i64];omega
 have hb1:(0:Int)≤(i:Int)+1:=by omega
 have hin:i≤n:=by omega
 have htn:((i:Int)+1).toNat=i+1:=by omega
 have htn2:((n:Int)+1).toNat=n+1:=by omega
 have hb2:¬ (c=i+1):=by omega
 have hb3:(i:Int)≤(n:Int)+1:=by omega
 have hb4:¬ (c=i):=by omega
 have hcp1:∀ ty dc sc,(Builtin.copy_ #[23,23] ty #[.slice (some ⟨b,(i+1) * 2,none⟩) (n-i) dc,.slice (some ⟨b,i * 2,none⟩) (n+1-i) sc]).run Tryz.prog w.drew=.ok (goInt (n-i:Nat)) (w.drew.setCells b ((i+1) * 2) (cs.drop (i * 2))):=fun ty dc sc=>by
  have:=run_copy_cellsN (P:=Tryz.prog) w.drew 23 23 ty 45 b ((i+1) * 2) (n-i) dc ⟨b,i * 2,none⟩ (n+1-i) sc 2 (cs.drop (i * 2)) Tryz.underlying23 hsz (by rw [hdl];simp only [Nat.min_def];split<;>omega)
   (fun j v hj=>by rw [Addr.add_lit];exact hcs (i * 2+j) v (by rwa [List.getElem?_drop] at hj))
   (fun j hj=>hsp _ (by omega)) (fun j hj=>hfz _ (by omega)) (fun v hv=>h1c v (List.mem_of_mem_drop hv))
  rw [this]
  congr 2
  simp only [Nat.min_def];split<;>omega
 obtain ⟨W1,hW1⟩:∃ W1,W1=w.drew.setCells b ((i+1) * 2) (cs.drop (i * 2)):=⟨_,rfl⟩
 have hsp1:∀ k,k<(n+1) * 2→(W1.cell? ⟨b,k,none⟩).isSome=true:=fun k hk=>by
  rw [hW1]
  exact isSome_setCells b (cs.drop (i * 2)) ((i+1) * 2) w.drew (fun j hj=>hsp _ (by rw [hdl] at hj;omega)) k (hsp k hk)
 have hcp2:∀ (W:World),(∀ x,W.cell? x=W1.cell? x)→(∀ x,W.frozen? x=W1.frozen? x)→∀ ty dc,(Builtin.copy_ #[23,23] ty #[.slice (some ⟨b,i * 2,none⟩) (n+1-i) dc,.slice (some ⟨vb,0,none⟩) 1 vc]).run Tryz.prog W=.ok (goInt 1) (W.setCells b (i * 2) vs):=fun W hWc hWf ty dc=>by
  have:=run_copy_cellsN (P:=Tryz.prog) W 23 23 ty 45 b (i * 2) (n+1-i) dc ⟨vb,0,none⟩ 1 vc 2 vs Tryz.underlying23 hsz (by rw [hvl];simp only [Nat.min_def];split<;>omega)
   (fun j v hj=>by
    rw [Addr.add_lit,hWc,hW1,World.cell?_setCells_out b _ _ _ _ (fun h _=>absurd h hvb)]
    simpa using hvs j v hj)
   (fun j hj=>by rw [hWc];exact hsp1 _ (by omega)) (fun j hj=>by rw [hWf,hW1,World.frozen?_setCells];exact hfz _ (by omega)) h1v
  rw [this]
  congr 2
  simp only [Nat.min_def];split<;>omega
 rw [← hW1] at hcp1
 have u23:=Tryz.runUnderlying23
 have z45:=Tryz.sizeOf45
 have mx:=mixed
 go_enter Tryz.func51,Tryz.ntmps51
 go_wp2_with (simp only [hov])
 go_region_law_o (refine step_copy_run rfl _ _ 23 23 rfl _ _ (by simp [Act.eval,Act.put]) (by simp [Act.eval,Act.put]) (hcp1 _ _ _) ?_)
 go_wp2_with (at_builtin;refine wpList_copy_run _ rfl _ _ 23 23 rfl _ _ rfl rfl (hcp2 _ (fun _=>rfl) (fun _=>rfl) _ _) ?_)
 go_ret
 first|exact ⟨rfl,rfl⟩|exact ⟨rfl,by rw [hW1]⟩
set_option maxHeartbeats 4000000 in
set_option maxRecDepth 100000 in
theorem ins_grow (b n c i vb vc:Nat) (cs vs:List Value) (w:World) (hi:i<n) (hnc:n≤c) (hroom:c<n+1) (hbig:(n+1) * 24≤140737488355328)
  (hcl:cs.length=n * 2) (hvl:vs.length=2)
  (hcs:∀ j v,cs[j]? = some v→w.cell? ⟨b,j,none⟩=some v)
  (hvs:∀ j v,vs[j]? = some v→w.cell? ⟨vb,j,none⟩=some v) (h1c:∀ v∈cs,v.oneCell'=true) (h1v:∀ v∈vs,v.oneCell'=true) :
  Calls Tryz.prog 51 #[.slice (some ⟨b,0,none⟩) n c,.int .i64 i,.slice (some ⟨vb,0,none⟩) 1 vc] w fun e w' =>
   e=.returned (.slice (some ⟨w.heap.size,0,none⟩) (n+1) (grownCap w (n+1) c 45)) ∧
   w'=(((w.alloc (.cells ((cs.take (i * 2)).toArray++Builtin.zeroCells #[.string ⟨#[]⟩,.int .i64 0] (n+1-i)++Builtin.zeroCells #[.string ⟨#[]⟩,.int .i64 0] (grownCap w (n+1) c 45-(n+1))) 45)).drew.setCells w.heap.size (i * 2) vs).drew).setCells w.heap.size ((i+1) * 2) (cs.drop (i * 2)):=by
 obtain ⟨i0,hi0,hz0,hzs,hzb⟩:=info_parts (show (Tryz.prog.info? 45).map (fun i=>(i.zero,i.size,i.bytes))=some (some (.agg #[.string ⟨#[]⟩,.int .i64 0]),2,24) from by kernel_rfl)
 have hz2:¬ ((i:Int)=(n:Int)):=by omega
 have hz3:(c:Int)<(n:Int)+1:=by omega
 have hsz:(Tryz.prog.info? 45).map (·.size)=some 2:=by rw [hi0];simp [hzs]
 have hbw:b<w.heap.size:=block_lt_of_cell (hcs 0 _ (List.getElem?_eq_getElem (by omega)))
 have hvw:vb<w.heap.size:=block_lt_of_cell (hvs 0 _ (List.getElem?_eq_getElem (by omega)))
 have hkk:(n:Int)+1-(i:Int)=((n+1-i:Nat):Int):=by omega
 have hik:i+(n+1-i)=n+1:=by omega
 have hold:(Builtin.firstCells i0.size i (.slice (some ⟨b,0,none⟩) i c)).run Tryz.prog w.drew=.ok (cs.take (i * 2)).toArray w.drew:=by
  rw [hzs]
  exact run_firstCells_some w.drew 2 i ⟨b,0,none⟩ i c (cs.take (i * 2)) (by rw [List.length_take];omega) (fun j v hj=>by
   rw [Addr.add_lit]
   rw [List.getElem?_take] at hj
   split at hj
   ·rw [Nat.zero_add];exact hcs j v hj
   ·cases hj)
 have hrz:∀ ty,(Builtin.append_ #[23,3] ty #[.slice (some ⟨b,0,none⟩) i c,.int .i64 ((n:Int)+1-(i:Int))]).run Tryz.prog w =
   .ok (.slice (some ⟨w.heap.size,0,none⟩) (n+1) (grownCap w (n+1) c 45)) (w.drew.alloc (.cells ((cs.take (i * 2)).toArray++Builtin.zeroCells #[.string ⟨#[]⟩,.int .i64 0] (n+1-i)++Builtin.zeroCells #[.string ⟨#[]⟩,.int .i64 0] (grownCap w (n+1) c 45-(n+1))) 45)):=fun ty=>by
  have h:=Lib.run_append_grow_zeros w 23 3 ty 45 i0 _ .i64 .i64 Tryz.underlying23 Tryz.underlying3 hi0 hz0 (some ⟨b,0,none⟩) i c (cs.take (i * 2)) hold (n+1-i) (by omega) (by omega) (by omega) (by omega) (by rw [hzb];omega) (by rw [hzb,hik];exact growslice_fits hroom hbig)
  rw [hik] at h
  rw [hkk]
  exact h
 obtain ⟨G,hG⟩:∃ G,G=grownCap w (n+1) c 45:=⟨_,rfl⟩
 obtain ⟨ROW,hROW⟩:∃ ROW:Array Value,ROW=(cs.take (i * 2)).toArray++Builtin.zeroCells #[.string ⟨#[]⟩,.int .i64 0] (n+1-i)++Builtin.zeroCells #[.string ⟨#[]⟩,.int .i64 0] (G-(n+1)):=⟨_,rfl⟩
 rw [← hG] at hrz ⊢
 rw [← hROW] at hrz ⊢
 have hRl:(n+1) * 2≤ROW.size:=by
  rw [hROW]
  simp [Builtin.zeroCells]
  omega
 obtain ⟨W1,hW1⟩:∃ W1,W1=w.drew.alloc (.cells ROW 45):=⟨_,rfl⟩
 rw [← hW1] at hrz
 have hN:∀ j,j<(n+1) * 2→(W1.cell? ⟨w.heap.size,j,none⟩).isSome=true:=fun j hj=>by
  rw [hW1,World.cell?_alloc_at (w:=w.drew) ROW _ w.heap.size j rfl,Array.getElem?_eq_getElem (by omega)];rfl
 have hNf:∀ j,W1.frozen? ⟨w.heap.size,j,none⟩=false:=fun j=>by rw [hW1];exact World.frozen?_alloc_at (w:=w.drew) ROW _ w.heap.size j rfl
 have hOb:∀ j v,w.cell? ⟨b,j,none⟩=some v→W1.cell? ⟨b,j,none⟩=some v:=fun j v h=>by rw [hW1,World.cell?_alloc_past (w:=w.drew) _ b j hbw];exact h
 have hOv:∀ j v,w.cell? ⟨vb,j,none⟩=some v→W1.cell? ⟨vb,j,none⟩=some v:=fun j v h=>by rw [hW1,World.cell?_alloc_past (w:=w.drew) _ vb j hvw];exact h
 have hcpA:∀ (W:World),(∀ x,W.cell? x=W1.cell? x)→(∀ x,W.frozen? x=W1.frozen? x)→∀ ty dc,(Builtin.copy_ #[23,23] ty #[.slice (some ⟨w.heap.size,i * 2,none⟩) (n+1-i) dc,.slice (some ⟨vb,0,none⟩) 1 vc]).run Tryz.prog W=.ok (goInt 1) (W.setCells w.heap.size (i * 2) vs):=fun W hWc hWf ty dc=>by
  have:=run_copy_cellsN (P:=Tryz.prog) W 23 23 ty 45 w.heap.size (i * 2) (n+1-i) dc ⟨vb,0,none⟩ 1 vc 2 vs Tryz.underlying23 hsz (by rw [hvl];simp only [Nat.min_def];split<;>omega)
   (fun j v hj=>by rw [Addr.add_lit,hWc,Nat.zero_add];exact hOv _ v (hvs j v hj))
   (fun j hj=>by rw [hWc];exact hN _ (by omega)) (fun j hj=>by rw [hWf];exact hNf _) h1v
  rw [this]
  congr 2
  simp only [Nat.min_def];split<;>omega
 have hGn:n+1≤G:=by rw [hG];exact grownCap_ge w _ _ _
 have hG63:G≤9223372036854775807:=by
  have:=grownCap_le_maxLen w (n+1) c 45 (by unfold maxLen;omega)
  rw [← hG] at this
  unfold maxLen at this
  omega
 have hGi:¬ (G=i):=by omega
 have hGim:¬ (G=i+1):=by omega
 have hci:¬ (c=i):=by omega
 have hbN:b≠w.heap.size:=by omega
 have hdl:(cs.drop (i * 2)).length=(n-i) * 2:=by rw [List.length_drop,hcl];omega
 have hcpB:∀ (W:World),(∀ x,W.cell? x=(W1.setCells w.heap.size (i * 2) vs).cell? x)→(∀ x,W.frozen? x=(W1.setCells w.heap.size (i * 2) vs).frozen? x)→∀ ty dc sc,(Builtin.copy_ #[23,23] ty #[.slice (some ⟨w.heap.size,(i+1) * 2,none⟩) (n-i) dc,.slice (some ⟨b,i * 2,none⟩) (n-i) sc]).run Tryz.prog W=.ok (goInt (n-i:Nat)) (W.setCells w.heap.size ((i+1) * 2) (cs.drop (i * 2))):=fun W hWc hWf ty dc sc=>by
  have:=run_copy_cellsN (P:=Tryz.prog) W 23 23 ty 45 w.heap.size ((i+1) * 2) (n-i) dc ⟨b,i * 2,none⟩ (n-i) sc 2 (cs.drop (i * 2)) Tryz.underlying23 hsz (by rw [hdl];simp only [Nat.min_def];split<;>omega)
   (fun j v hj=>by
    rw [Addr.add_lit,hWc,World.cell?_setCells_out _ _ _ _ _ (fun h _=>absurd h hbN)]
    exact hOb _ v (hcs (i * 2+j) v (by rwa [List.getElem?_drop] at hj)))
   (fun j hj=>by rw [hWc];exact isSome_setCells w.heap.size vs (i * 2) W1 (fun t ht=>hN _ (by omega)) _ (hN _ (by omega)))
   (fun j hj=>by rw [hWf,World.frozen?_setCells];exact hNf _) (fun v hv=>h1c v (List.mem_of_mem_drop hv))
  rw [this]
  congr 2
  simp only [Nat.min_def];split<;>omega
 subst hW1
 have hE1:∀ x,((w.alloc (.cells ROW 45)).drew).cell? x=(w.drew.alloc (.cells ROW 45)).cell? x:=fun x=>rfl
 have hE2:∀ x,((w.alloc (.cells ROW 45)).drew).frozen? x=(w.drew.alloc (.cells ROW 45)).frozen? x:=fun x=>rfl
 have hF1:∀ x,(((w.alloc (.cells ROW 45)).drew.setCells w.heap.size (i * 2) vs).drew).cell? x=((w.drew.alloc (.cells ROW 45)).setCells w.heap.size (i * 2) vs).cell? x:=fun x=>rfl
 have hF2:∀ x,(((w.alloc (.cells ROW 45)).drew.setCells w.heap.size (i * 2) vs).drew).frozen? x=((w.drew.alloc (.cells ROW 45)).setCells w.heap.size (i * 2) vs).frozen? x:=fun x=>rfl
 have hw1:IntKind.i64.wrap ((i:Int)+1)=(i:Int)+1:=by rw [IntKind.wrap_i64];omega
 have hw2:IntKind.i64.wrap ((n:Int)+1)=(n:Int)+1:=by rw [IntKind.wrap_i64];omega
 have hw3:IntKind.i64.wrap ((n:Int)+1-(i:Int))=(n:Int)+1-(i:Int):=by rw [IntKind.wrap_i64];omega
 have hb1:(0:Int)≤(i:Int)+1:=by omega
 have hin:i≤n:=by omega
 have htn:((i:Int)+1).toNat=i+1:=by omega
 have hb3:(i:Int)≤(n:Int):=by omega
 clear hkk hik hold hROW hG hRl
 have u23:=Tryz.runUnderlying23
 have z45:=Tryz.sizeOf45
 have mx:=mixed
 go_enter Tryz.func51,Tryz.ntmps51
 go_wp2_with (first
  | (at_builtin;refine Lib.wpList_append_run _ rfl _ _ _ _ rfl _ _ rfl rfl _ _ (hrz _) ?_)
  | (at_builtin;refine wpList_copy_run _ rfl _ _ 23 23 rfl _ _ rfl rfl (hcpA _ hE1 hE2 _ _) ?_)
  | (at_builtin;refine wpList_copy_run _ rfl _ _ 23 23 rfl _ _ rfl rfl (hcpB _ (fun _=>rfl) (fun _=>rfl) _ _ _) ?_))
 go_region_law_o (refine step_copy_run rfl _ _ 23 23 rfl (.slice (some ⟨w.heap.size,(i+1) * 2,none⟩) (n-i) (G-(i+1))) (.slice (some ⟨b,i * 2,none⟩) (n-i) (c-i)) (by simp [Act.eval,Act.put]) (by simp [Act.eval,Act.put]) (hcpB _ hF1 hF2 3 (G-(i+1)) (c-i)) ?_)
 go_wp2
 go_ret
 exact ⟨rfl,rfl⟩
end Go.Ins
set_option linter.unusedSectionVars false
set_option maxHeartbeats 1000000
namespace Go.Sym
open Go.Eng Go.Lib
section
variable [Go.Sym.Tab] {ρ : Ren} {H:Hp} {w:World}
theorem Rep.rename (hR:Rep ρ H w) {id c:Nat} {b:Blk} (hb:H id=some b) (ho:b.own=true) {t:Tgt} (ht : ρ.nm id=some t) (hc : ρ.nm c=none) :
  Rep (ρ.upd c t) ((H.del id).upd c b) w:=by
 have hle : ρ.le (ρ.upd c t):=Ren.le_upd hc
 have back:∀ l bl tl,((H.del id).upd c b) l=some bl→(ρ.upd c t).nm l=some tl →
   ∃ l0,H l0=some bl ∧ ρ.nm l0=some tl∧(l=c∧l0=id∨l≠c∧l0=l∧l≠id):=by
  intro l bl tl hl hl2
  by_cases hlc:l=c
  ·subst hlc
   simp only [Hp.upd,if_true,Option.some.injEq] at hl
   simp only [Ren.upd,if_true,Option.some.injEq] at hl2
   subst hl hl2
   exact ⟨id,hb,ht,.inl ⟨rfl,rfl⟩⟩
  ·simp only [Hp.upd,hlc,if_false,Hp.del] at hl
   simp only [Ren.upd,hlc,if_false] at hl2
   split at hl
   ·cases hl
   ·rename_i hli
    exact ⟨l,hl,hl2,.inr ⟨hlc,rfl,hli⟩⟩
 constructor
 ·intro j bj hj
  by_cases hjc:j=c
  ·subst hjc
   simp only [Hp.upd,if_true,Option.some.injEq] at hj
   subst hj
   exact ⟨t,Ren.upd_same _ _ _,(hR.lookb hb ht).mono hle⟩
  ·simp only [Hp.upd,hjc,if_false,Hp.del] at hj
   split at hj
   ·cases hj
   ·obtain ⟨tj,q1,q2⟩:=hR.blk j bj hj
    exact ⟨tj,hle.nm _ _ q1,q2.mono hle⟩
 ·intro j k bj bk tj tk hj hk hjk h1 h2 ho'
  obtain ⟨j0,a1,a2,a5⟩:=back j bj tj hj h1
  obtain ⟨k0,b1,b2,b5⟩:=back k bk tk hk h2
  refine hR.sep j0 k0 bj bk tj tk a1 b1 ?_ a2 b2 ho'
  rcases a5 with ⟨q1,q2⟩|⟨q1,q2,q3⟩<;>rcases b5 with ⟨r1,r2⟩|⟨r1,r2,r3⟩<;>omega
 ·exact hR.frz
 ·intro j bj tj hj ho' hjt
  obtain ⟨j0,a1,a2, -⟩:=back j bj tj hj hjt
  exact hR.dis j0 bj tj a1 ho' a2
 ·intro k es hk
  obtain ⟨h1,h2⟩:=hR.frm k es hk
  refine ⟨h1,fun j bj tj hj ho' hjt=>?_⟩
  obtain ⟨j0,a1,a2, -⟩:=back j bj tj hj hjt
  exact h2 j0 bj tj a1 ho' a2
theorem Ext.rename {id c:Nat} {b:Blk} (hb:H id=some b) {t:Tgt} (ht : ρ.nm id=some t) (hc : ρ.nm c=none) :
  Ext ρ H w (ρ.upd c t) ((H.del id).upd c b) w where
 le:=Ren.le_upd hc
 os:=rfl
 tape:=rfl
 output:=rfl
 size:=Nat.le_refl _
 keep:=fun _ _ _=>rfl
 mine:=fun l bl tl hl hl2=>by
  by_cases hlc:l=c
  ·subst hlc
   simp only [Hp.upd,if_true,Option.some.injEq] at hl
   simp only [Ren.upd,if_true,Option.some.injEq] at hl2
   subst hl hl2
   exact .inr ⟨id,b,t,hb,fun h=>h,ht,rfl⟩
  ·simp only [Hp.upd,hlc,if_false,Hp.del] at hl
   simp only [Ren.upd,hlc,if_false] at hl2
   split at hl
   ·cases hl
   ·exact .inr ⟨l,bl,tl,hl,fun h=>h,hl2,rfl⟩
 fzn:=fun _ _ h=>.inl h
 fmn:=fun _ _ h=>.inl h
theorem setCells_row (g:Nat) (t:TypeId) (fr:Nat × Nat):∀ (vs:List Value) (o:Nat) (cur:Array Value) (w:World),w.heap[g]? = some (.cells cur t fr)→o+vs.length≤cur.size →
  w.setCells g o vs=w.setRow g (cur.toList.take o++vs++cur.toList.drop (o+vs.length)).toArray
 | [],o,cur,w,hg,_=>by
  simp only [World.setCells,List.append_nil,List.length_nil,Nat.add_zero,List.take_append_drop,Array.toArray_toList]
  rw [setRow_self w g cur t fr hg]
 | v :: rest,o,cur,w,hg,hl=>by
  have ih:=setCells_row g t fr rest (o+1) (cur.setIfInBounds o v) (w.setRow g (cur.setIfInBounds o v)) (setRow_heap w g cur _ t _ hg) (by simp at hl ⊢;omega)
  rw [World.setCells,setCell_eq_setRow w g o cur t fr v hg,ih,setRow_setRow]
  congr 1
  have e:=list_seg_step cur.toList o v rest (by simp at hl ⊢;omega)
  simpa [Array.toList_setIfInBounds,Nat.add_assoc] using congrArg List.toArray e
end
section
open Go.Proofs
theorem own2 [Go.Sym.Tab] {ρ : Ren} {H:Hp} {w:World} (hR:Rep ρ H w) {id:Nat} {cells:List DV} (hb:H id=some ⟨2,true,cells⟩) {t:Tgt} (ht : ρ.nm id=some t) (hm:t.mp=false) :
  ∃ cc e,w.heap[t.block]? = some (.cells cc e (0,0))∧t.room=cc.size∧cells.length≤cc.size∧t.unit=2∧t.shift=0∧(∀ (j:Nat) v,cells[j]? = some v→v.one=true∧∃ v',cc[j]? = some v'∧VRel ρ v v'):=by
 obtain ⟨cc,e,fr,g1,g2,g3,g4,g5,g6⟩:=hR.look hb ht hm
 obtain ⟨g8,g7⟩:=g6 rfl
 have hfr:fr=(0,0):=by
  rcases g8 with h|⟨h, -⟩
  ·exact h
  ·exact absurd h (by show ¬ (2≤1);omega)
 subst hfr
 rw [g7] at g2
 simp only [Nat.zero_add] at g2
 refine ⟨cc,e,g1,g2,by rw [← g2];exact g3,g4,g7,fun j v hv=>?_⟩
 have:=g5 j v hv
 rw [g7] at this
 simpa using this
theorem one_take [Go.Sym.Tab] {ρ : Ren} {cells:List DV} {cc:Array Value} (h:∀ (j:Nat) v,cells[j]? = some v→v.one=true∧∃ v',cc[j]? = some v'∧VRel ρ v v') (hl:cells.length≤cc.size) :
  ∀ v∈cc.toList.take cells.length,v.oneCell'=true:=by
 intro v hv
 obtain ⟨j,hj,rfl⟩:=List.getElem_of_mem hv
 have hj2:j<cells.length:=by simp at hj;omega
 obtain ⟨h1,v',h2,h3⟩:=h j _ (List.getElem?_eq_getElem hj2)
 have:(cc.toList.take cells.length)[j]=v':=by
  have h4:(cc.toList.take cells.length)[j]? = some v':=by rw [List.getElem?_take,if_pos hj2];simpa using h2
  exact Option.some.inj ((List.getElem?_eq_getElem hj).symm.trans h4)
 rw [this]
 exact h3.one h1
theorem ins_rel [Go.Sym.Tab] {ρ : Ren} {cells x:List DV} {cs vs rest:List Value} {a:Nat}
  (h:∀ (j:Nat) v,cells[j]? = some v→v.one=true∧∃ v',cs[j]? = some v'∧VRel ρ v v') (hx:∀ (j:Nat) v,x[j]? = some v→v.one=true∧∃ v',vs[j]? = some v'∧VRel ρ v v')
  (hl:cells.length=cs.length) (hxl:x.length=vs.length) (ha:a≤cells.length) :
  CRel ρ (cells.take a++x++cells.drop a) (cs.take a++vs++cs.drop a++rest).toArray 0:=by
 intro j v hv
 simp only [Nat.zero_add,List.getElem?_toArray]
 have e1:(cells.take a).length=a:=by rw [List.length_take];omega
 have e2:(cs.take a).length=a:=by rw [List.length_take];omega
 rw [List.append_assoc] at hv
 rw [List.append_assoc,List.append_assoc]
 by_cases h1:j<a
 ·rw [List.getElem?_append_left (by omega),List.getElem?_take,if_pos h1] at hv
  rw [List.getElem?_append_left (by omega),List.getElem?_take,if_pos h1]
  exact h j v hv
 ·rw [List.getElem?_append_right (by omega),e1] at hv
  rw [List.getElem?_append_right (by omega),e2]
  by_cases h2:j-a<x.length
  ·rw [List.getElem?_append_left h2] at hv
   rw [List.getElem?_append_left (by omega)]
   exact hx _ v hv
  ·rw [List.getElem?_append_right (by omega),List.getElem?_drop] at hv
   rw [List.getElem?_append_right (by omega), ← hxl]
   obtain ⟨q1,v',q2,q3⟩:=h _ v hv
   refine ⟨q1,v',?_,q3⟩
   have hlt:=(List.getElem?_eq_some_iff.1 q2).1
   rw [List.getElem?_append_left (by rw [List.length_drop];omega),List.getElem?_drop]
   exact q2
end
end Go.Sym
namespace Go.Proofs.YtndjhpjcankkaaaGreatDoor
open Go.Sym Go.Ins Go.Lib
set_option maxHeartbeats 2000000 in
theorem c_Insert {H:Hp} {c id id2 n at_:Nat} {cells x:List DV} (hb:H id=some ⟨2,true,cells⟩) (h2:H id2=some ⟨2,true,x⟩) (hne:id2≠id) (hl:cells.length=n * 2) (hx:x.length=2) (hi:at_<n) (hn:n<4294967296) :
  AC Tryz.prog 51 [.slc id 0 n,.int .i64 at_,.slc id2 0 1] H c (fun v H' c'=>v=.slc c 0 (n+1)∧c'=c+1∧H'=(H.del id).upd c ⟨2,true,cells.take (at_ * 2)++x++cells.drop (at_ * 2)⟩):=by
 refine ⟨by kernel_rfl,fun ρ w args' hR hf hA=>?_⟩
 obtain ⟨v0,e0,r0⟩:=hA.get (i:=0) rfl
 obtain ⟨v1,e1,r1⟩:=hA.get (i:=1) rfl
 obtain ⟨v2,e2,r2⟩:=hA.get (i:=2) rfl
 have hargs:args' = #[v0,v1,v2]:=by
  have hs:args'.size=3:=hA.1.symm
  apply Array.ext (by simpa using hs)
  intro i h1 h2
  have:i=0∨i=1∨i=2:=by omega
  rcases this with rfl|rfl|rfl
  ·simpa using (Array.getElem?_eq_some_iff.1 e0).2
  ·simpa using (Array.getElem?_eq_some_iff.1 e1).2
  ·simpa using (Array.getElem?_eq_some_iff.1 e2).2
 have r1':=r1.int_inv
 subst hargs r1'
 cases r0 with
 | slc _ _ _ cap tg htg hc hm hr hmp =>
 cases r2 with
 | slc _ _ _ cap2 tg2 htg2 hc2 hm2 hr2 hmp2 =>
 obtain ⟨cc,e,g1,g2,g3,g4,g7,g5⟩:=own2 hR hb htg hmp
 obtain ⟨cc2,e',k1,k2,k3,k4,k7,k5⟩:=own2 hR h2 htg2 hmp2
 have hbb:tg2.block≠tg.block:=hR.sep id2 id _ _ _ _ h2 hb hne htg2 htg rfl
 have hid : ρ.nm c=none:=hf c (Nat.le_refl _)
 simp only [g7,k7,Nat.add_zero]
 rw [Nat.zero_add] at hr hr2
 have hcsl:(cc.toList.take (n * 2)).length=n * 2:=by rw [List.length_take,Array.length_toList];omega
 have hvsl:(cc2.toList.take 2).length=2:=by rw [List.length_take,Array.length_toList];omega
 have hcs:∀ (j:Nat) v,(cc.toList.take (n * 2))[j]? = some v→w.cell? ⟨tg.block,j,none⟩=some v:=by
  intro j v hv
  rw [List.getElem?_take] at hv
  split at hv
  ·simp only [World.cell?,g1];simpa using hv
  ·cases hv
 have hvs:∀ (j:Nat) v,(cc2.toList.take 2)[j]? = some v→w.cell? ⟨tg2.block,j,none⟩=some v:=by
  intro j v hv
  rw [List.getElem?_take] at hv
  split at hv
  ·simp only [World.cell?,k1];simpa using hv
  ·cases hv
 have h1c:∀ v∈cc.toList.take (n * 2),v.oneCell'=true:=by rw [← hl];exact one_take g5 g3
 have h1v:∀ v∈cc2.toList.take 2,v.oneCell'=true:=by rw [← hx];exact one_take k5 k3
 have hrel:∀ rest,CRel ρ (cells.take (at_ * 2)++x++cells.drop (at_ * 2)) ((cc.toList.take (n * 2)).take (at_ * 2)++cc2.toList.take 2++(cc.toList.take (n * 2)).drop (at_ * 2)++rest).toArray 0:=fun rest =>
  ins_rel (fun j v hv=>by
   obtain ⟨q1,v',q2,q3⟩:=g5 j v hv
   have hj:=(List.getElem?_eq_some_iff.1 hv).1
   exact ⟨q1,v',by rw [List.getElem?_take,if_pos (by omega)];simpa using q2,q3⟩) (fun j v hv=>by
   obtain ⟨q1,v',q2,q3⟩:=k5 j v hv
   have hj:=(List.getElem?_eq_some_iff.1 hv).1
   exact ⟨q1,v',by rw [List.getElem?_take,if_pos (by omega)];simpa using q2,q3⟩) (by omega) (by omega) (by omega)
 have hnl:(cells.take (at_ * 2)++x++cells.drop (at_ * 2)).length=(n+1) * 2:=by
  simp only [List.length_append,List.length_take,List.length_drop,hx,hl];omega
 have hdl:((cc.toList.take (n * 2)).drop (at_ * 2)).length=(n-at_) * 2:=by rw [List.length_drop,hcsl];omega
 have hmx:(maxLen:Nat)≤9223372036854775807:=by unfold maxLen;omega
 by_cases hroom:n+1≤cap
 ·have hsz:(n+1) * 2≤cc.size:=by
   rcases hr with h0|h0
   ·omega
   ·rw [g4] at h0;omega
  refine (ins_room tg.block n cap at_ tg2.block cap2 _ _ w hi hroom (by omega) hbb hcsl hvsl hcs ?_ ?_ hvs h1c h1v e' e cc2.size cc.size ?_ ?_ (by omega) ?_ ?_).mono ?_
  ·intro j hj;simp only [World.cell?,g1];simp;omega
  ·intro j hj;simp [World.frozen?,g1]
  ·simp [World.shape?,k1]
  ·simp [World.shape?,g1]
  ·simp [World.frozen?,k1]
  ·simp [World.frozen?,k1]
  ·rintro ex w' ⟨rfl,rfl⟩
   generalize hrest:cc.toList.drop ((at_+1) * 2+((cc.toList.take (n * 2)).drop (at_ * 2)).length)=rest
   have hW:(w.drew.setCells tg.block ((at_+1) * 2) ((cc.toList.take (n * 2)).drop (at_ * 2))).setCells tg.block (at_ * 2) (cc2.toList.take 2) =
     w.drew.setRow tg.block ((cc.toList.take (n * 2)).take (at_ * 2)++cc2.toList.take 2++(cc.toList.take (n * 2)).drop (at_ * 2)++rest).toArray:=by
    rw [setCells_row tg.block e (0,0) _ ((at_+1) * 2) cc w.drew g1 (by rw [hdl];omega),hrest]
    rw [setCells_row tg.block e (0,0) _ (at_ * 2) _ _ (setRow_heap w.drew tg.block cc _ e _ g1) (by simp only [List.size_toArray,List.length_append,hdl,hvsl,List.length_take,Array.length_toList];omega),setRow_setRow]
    congr 2
    have q1:((cc.toList.take ((at_+1) * 2)).take (at_ * 2))=(cc.toList.take (n * 2)).take (at_ * 2):=by
     rw [List.take_take,List.take_take];congr 1;omega
    have q2:(cc.toList.take ((at_+1) * 2)).length=at_ * 2+2:=by rw [List.length_take,Array.length_toList];omega
    rw [hvsl,List.append_assoc (cc.toList.take ((at_+1) * 2)),List.take_append_of_le_length (by omega),q1,List.drop_append_of_le_length (by omega),List.drop_of_length_le (by omega)]
    simp only [List.nil_append,List.append_assoc]
   rw [hW]
   have hlen:((cc.toList.take (n * 2)).take (at_ * 2)++cc2.toList.take 2++(cc.toList.take (n * 2)).drop (at_ * 2)++rest).toArray.size=cc.size:=by
    rw [← hrest]
    simp only [List.size_toArray,List.length_append,hdl,hvsl,List.length_drop,List.length_take,Array.length_toList];omega
   have hwo:∀ k,k≠tg.block→(w.drew.setRow tg.block ((cc.toList.take (n * 2)).take (at_ * 2)++cc2.toList.take 2++(cc.toList.take (n * 2)).drop (at_ * 2)++rest).toArray).heap[k]? = w.heap[k]? := fun k hk=>setRow_other w.drew _ k _ hk
   have hw2:=setRow_heap w.drew tg.block cc ((cc.toList.take (n * 2)).take (at_ * 2)++cc2.toList.take 2++(cc.toList.take (n * 2)).drop (at_ * 2)++rest).toArray e (0,0) g1
   have hW1:=hR.write hb rfl htg hmp g1 hlen (cells:=cells.take (at_ * 2)++x++cells.drop (at_ * 2)) (by rw [hnl,g2];exact hsz) (hrel rest) hwo hw2
   have hH:((H.upd id ⟨2,true,cells.take (at_ * 2)++x++cells.drop (at_ * 2)⟩).del id).upd c ⟨2,true,cells.take (at_ * 2)++x++cells.drop (at_ * 2)⟩=(H.del id).upd c ⟨2,true,cells.take (at_ * 2)++x++cells.drop (at_ * 2)⟩:=by
    funext j;simp only [Hp.upd,Hp.del];split
    ·rfl
    ·split
     ·rfl
     ·rfl
   have hren:=hW1.rename (c:=c) (Hp.upd_same _ _ _) rfl htg hid
   have hext:=(Ext.write hb rfl htg hwo rfl rfl rfl (by simp) (b':=⟨2,true,cells.take (at_ * 2)++x++cells.drop (at_ * 2)⟩)).trans (Ext.rename (c:=c) (Hp.upd_same _ _ _) htg hid)
   rw [hH] at hren hext
   refine ⟨_,_,_,_, ρ.upd c tg,rfl,⟨rfl,rfl,rfl⟩,?_,hren,?_,Nat.le_succ _,?_,?_,hext⟩
   ·have:=VRel.slc (ρ := ρ.upd c tg) c 0 (n+1) cap tg (Ren.upd_same _ _ _) hroom hm (.inr (by
     rcases hr with h0|h0
     ·omega
     ·rw [Nat.zero_add];exact h0)) hmp
    simpa [g7] using this
   ·intro j hj
    simp only [Ren.upd,show j≠c by omega,if_false]
    exact hf j (by omega)
   ·intro j hj hne'
    simp only [Hp.upd,Hp.del,show j≠c by omega,if_false] at hne'
    split at hne'
    ·exact absurd rfl hne'
    ·exact hne'
   ·intro j hj
    simp only [Ren.upd,show j≠c by omega,if_false]
 ·have hceq:cap=n:=by omega
  subst hceq
  refine (ins_grow tg.block cap cap at_ tg2.block cap2 _ _ w hi (Nat.le_refl _) (by omega) (by omega) hcsl hvsl hcs hvs h1c h1v).mono ?_
  rintro ex w' ⟨rfl,rfl⟩
  generalize hG:grownCap w (cap+1) cap 45=G
  have hGn:cap+1≤G:=by rw [← hG];exact grownCap_ge w _ _ _
  have hGm:G≤maxLen:=by rw [← hG];exact grownCap_le_maxLen w (cap+1) cap 45 (by unfold maxLen;omega)
  generalize hrow:((cc.toList.take (cap * 2)).take (at_ * 2)).toArray++Builtin.zeroCells #[.string ⟨#[]⟩,.int .i64 0] (cap+1-at_)++Builtin.zeroCells #[.string ⟨#[]⟩,.int .i64 0] (G-(cap+1))=row
  have hrs:row.size=G * 2:=by
   rw [← hrow]
   simp only [Array.size_append,List.size_toArray,List.length_take,Array.length_toList,size_zeroCells]
   simp
   omega
  have hrt:row.toList.take (at_ * 2)=(cc.toList.take (cap * 2)).take (at_ * 2):=by
   rw [← hrow]
   have h0:((cc.toList.take (cap * 2)).take (at_ * 2)).length=at_ * 2:=by rw [List.length_take,hcsl];omega
   simp only [Array.toList_append,List.toList_toArray,List.append_assoc]
   rw [List.take_append_of_le_length (by omega),List.take_of_length_le (by omega)]
  have hg0:((w.alloc (.cells row 45)).drew).heap[w.heap.size]? = some (.cells row 45 (0,0)):=heap_alloc_new w _
  generalize hrest:row.toList.drop (at_ * 2+2+(cap-at_) * 2)=rest
  have hW:(((w.alloc (.cells row 45)).drew.setCells w.heap.size (at_ * 2) (cc2.toList.take 2)).drew).setCells w.heap.size ((at_+1) * 2) ((cc.toList.take (cap * 2)).drop (at_ * 2)) =
    ((w.alloc (.cells row 45)).drew.drew).setRow w.heap.size ((cc.toList.take (cap * 2)).take (at_ * 2)++cc2.toList.take 2++(cc.toList.take (cap * 2)).drop (at_ * 2)++rest).toArray:=by
   rw [setCells_row w.heap.size 45 (0,0) _ (at_ * 2) row _ hg0 (by rw [hvsl,hrs];omega)]
   rw [show ∀ (W:World) (g:Nat) (r:Array Value),(W.setRow g r).drew=W.drew.setRow g r from fun _ _ _=>rfl]
   rw [setCells_row w.heap.size 45 (0,0) _ ((at_+1) * 2) _ _ (setRow_heap ((w.alloc (.cells row 45)).drew.drew) w.heap.size row _ 45 _ hg0) (by simp only [List.size_toArray,List.length_append,hdl,hvsl,List.length_drop,List.length_take,Array.length_toList,hrs];omega)]
   rw [setRow_setRow]
   congr 2
   rw [hdl,hvsl,hrt]
   have q0:((cc.toList.take (cap * 2)).take (at_ * 2)).length=at_ * 2:=by rw [List.length_take,hcsl];omega
   have q1:((cc.toList.take (cap * 2)).take (at_ * 2)++cc2.toList.take 2).length=(at_+1) * 2:=by rw [List.length_append,q0,hvsl];omega
   generalize (cc.toList.take (cap * 2)).take (at_ * 2)++cc2.toList.take 2=A at q1 ⊢
   generalize (cc.toList.take (cap * 2)).drop (at_ * 2)=D
   have q2:(A++row.toList.drop (at_ * 2+2)).take ((at_+1) * 2)=A:=by rw [← q1,List.take_left'];rfl
   have q3:(A++row.toList.drop (at_ * 2+2)).drop ((at_+1) * 2+(cap-at_) * 2)=rest:=by
    rw [List.drop_append,q1,List.drop_of_length_le (by rw [q1];omega),List.nil_append,List.drop_drop, ← hrest]
    congr 1
    omega
   rw [q2,q3]
  rw [hW]
  generalize hfin:((cc.toList.take (cap * 2)).take (at_ * 2)++cc2.toList.take 2++(cc.toList.take (cap * 2)).drop (at_ * 2)++rest).toArray=fin
  have hfs:fin.size=G * 2:=by
   rw [← hfin, ← hrest]
   simp only [List.size_toArray,List.length_append,hdl,hvsl,List.length_drop,List.length_take,Array.length_toList,hrs];omega
  have hheap:(((w.alloc (.cells row 45)).drew.drew).setRow w.heap.size fin).heap=(w.alloc (.cells fin 45)).heap:=by
   apply Array.ext_getElem?
   intro k
   by_cases hk:k=w.heap.size
   ·subst hk
    rw [setRow_heap ((w.alloc (.cells row 45)).drew.drew) w.heap.size row fin 45 (0,0) hg0,heap_alloc_new]
   ·rw [setRow_other _ _ _ _ hk]
    show (w.alloc (.cells row 45)).heap[k]? = _
    simp only [World.alloc,Array.getElem?_push,hk,if_false]
  have hR0:Rep ρ (H.del id) w:=⟨fun j bj hj=>by
    simp only [Hp.del] at hj;split at hj
    ·cases hj
    ·exact hR.blk j bj hj,fun a b ba bb ta tb h1 h2=>by
    simp only [Hp.del] at h1 h2;split at h1
    ·cases h1
    ·split at h2
     ·cases h2
     ·exact hR.sep a b ba bb ta tb h1 h2,hR.frz,fun j bj tj h1=>by
    simp only [Hp.del] at h1;split at h1
    ·cases h1
    ·exact hR.dis j bj tj h1,fun k es hk=>⟨(hR.frm k es hk).1,fun j bj tj h1=>by
    simp only [Hp.del] at h1;split at h1
    ·cases h1
    ·exact (hR.frm k es hk).2 j bj tj h1⟩⟩
  have hcr:=hrel rest
  rw [hfin] at hcr
  have hrep:=hR0.alloc (id:=c) hid (b:=⟨2,true,cells.take (at_ * 2)++x++cells.drop (at_ * 2)⟩) hcr (by rw [hnl,hfs];omega) hheap
  have hx:=Ext.alloc (b:=⟨2,true,cells.take (at_ * 2)++x++cells.drop (at_ * 2)⟩) hR hid hheap rfl rfl rfl
  refine ⟨_,_,_,_,_,rfl,⟨rfl,rfl,rfl⟩,?_,hrep,?_,Nat.le_succ _,?_,?_,⟨hx.le,hx.os,hx.tape,hx.output,hx.size,hx.keep,fun j bj tj q1 q3=>?_,hx.fzn,hx.fmn⟩⟩
  ·have:=VRel.slc (ρ := ρ.upd c ⟨w.heap.size,0,fin.size,2,false⟩) c 0 (cap+1) G _ (Ren.upd_same _ _ _) hGn hGm (.inr (by simp only [hfs];omega)) rfl
   simpa using this
  ·intro j hj
   simp only [Ren.upd,show j≠c by omega,if_false]
   exact hf j (by omega)
  ·intro j hj hne'
   simp only [Hp.upd,Hp.del,show j≠c by omega,if_false] at hne'
   split at hne'
   ·exact absurd rfl hne'
   ·exact hne'
  ·intro j hj
   simp only [Ren.upd,show j≠c by omega,if_false]
  ·refine hx.mine j bj tj ?_ q3
   by_cases hjc:j=c
   ·subst hjc;simpa [Hp.upd] using q1
   ·simp only [Hp.upd,hjc,if_false,Hp.del] at q1 ⊢
    split at q1
    ·cases q1
    ·exact q1
end Go.Proofs.YtndjhpjcankkaaaGreatDoor
set_option maxHeartbeats 4000000
set_option maxRecDepth 100000
namespace Go.Proofs.YtndjhpjcankkaaaGreatDoor
open Go.Eng (IC IOper DReg IFn IsFn)
open Go.Sym Go.Pb
theorem c_Add (c:Book) (s:BSt) (hl:lenB c) (ht:lenT s) (i n:Int):PC Tryz.prog 38 [c.v,s.v,I64 i,I64 n] (.tup [(addM c s i n).1.v,I64 (addM c s i n).2]):=by
 have hk:=c_check c s hl ht i c.cnt (by
  by_cases h:isStM c s=true
  ·have:=(st_fit h).2.2.1;have h2:=ht.2.1;left;omega
  ·right;simpa using h)
 refine PC.of mixedU isU38 (Nat.le_of_ble_eq_true rfl) (by simp [DV.nlL,DV.nl,nlL_ints,nlL_scos,nlL_adjs]) (by simp [DV.nlL,DV.nl,nlL_ints,nlL_scos,nlL_adjs]) ?_
 show IW Tryz.prog 41 u38_1 ⟨argT _,_,_⟩ (rt [.cell 8 3 true,.tmp 9] _)
 by_cases e1:chkM c s i c.cnt=0
 rotate_left
 ·have e1':(chkM c s i c.cnt != 0)=true:=by simpa using e1
  repeat' ((with_reducible first|refine wr ?_|refine cpc hk ?_|refine k_cu ?_ ?_|refine wb2 ?_ ?_<;>(intro hb;try simp only [hb])|fail)<;>try simp only [go_sem,seval,e1'])
  simp only [addM,ne_eq,e1,not_false_eq_true,if_true]
  exact pc_no
 have e1':(chkM c s i c.cnt != 0)=false:=by simpa using e1
 obtain ⟨e2,g1,g2⟩:=chk_ok e1
 obtain ⟨s1,s2,s3,s4,s5⟩:=st_fit e2
 obtain ⟨f1,f2,f3,f4,f5⟩:=valid_fit s1
 obtain ⟨k,rfl⟩:∃ k:Nat,i=(k:Int):=⟨i.toNat,by omega⟩
 have hks:k<s.counts.length:=by omega
 have hg:=List.getElem?_eq_getElem hks
 have hgd:s.counts.getD k 0=s.counts[k]:=by rw [List.getD_eq_getElem?_getD,hg];rfl
 have h0:s.counts≠[]:=fun h=>by rw [h] at hks;simp at hks
 by_cases e3:inB n 0 999999999=true
 rotate_left
 ·have e3:inB n 0 999999999=false:=by simpa using e3
  repeat' ((with_reducible first|refine wr ?_|refine cpc hk ?_|refine cpc (c_within _ _ _) ?_|refine k_cu ?_ ?_|refine wb2 ?_ ?_<;>(intro hb;try simp only [hb])|fail)<;>try simp only [go_sem,seval,e1',e3])
  simp only [addM,ne_eq,e1,not_true_eq_false,if_false,e3,if_true]
  exact pc_no
 have hn:0≤n∧n≤999999999:=by simpa [inB] using e3
 have hv:0≤s.counts[k]∧s.counts[k]≤999999999:=by
  simp only [isStM,Bool.and_eq_true] at e2
  have:=List.all_eq_true.1 e2.2 _ (List.getElem_mem hks)
  simpa [inB] using this
 have hcl:=fun H cc=>c_cloneB s (by omega) (by omega) (by omega) h0 H cc
 have hsb:=fun H cc id v=>st_int (H:=H) (cc:=cc) (id:=id) (v:=v) hks
 have hia:=fun id=>r_iadsn (id:=id) (off:=0) (l:=s.counts.length) (n:=k) (sz:=1) (k:=.i64) hks
 have hw:=w64 (n:=s.counts[k]+n) (by omega) (by omega)
 have hld:(cellsL (s.counts.map I64))[k]? = some (I64 s.counts[k]):=by rw [cells_ints,List.getElem?_map,hg];rfl
 have hset:addM c s (k:Int) n=(⟨s.sets,s.counts.set k (min (s.counts[k]+n) 999999999),s.scores⟩,0):=by
  simp only [addM,ne_eq,e1,not_true_eq_false,if_false,Int.toNat_natCast,hgd,e3,Bool.true_eq_false]
 rw [hset,show min (s.counts[k]+n) 999999999=if 999999999<s.counts[k]+n then 999999999 else s.counts[k]+n by rw [Int.min_def];split<;>split<;>omega]
 repeat' ((first|(with_reducible first|refine wr ?_|refine cpc hk ?_|refine cpc (c_within _ _ _) ?_|refine k_cu ?_ ?_)|(with_reducible refine wb2 ?_ ?_<;>(intro hb;try simp only [hb]))|((with_reducible refine AC.call (hcl _ _) ?_);(rintro v H' c' ⟨rfl,rfl,rfl⟩ hcc))|fail)<;>try simp only [go_sem,seval,e1',e3,hw,hia,hsb,hld])
 all_goals exact pc_stB (xs:=(s.counts.set k (if 999999999<s.counts[k]+n then 999999999 else s.counts[k]+n)).map I64) (blk:=⟨1,true,cellsL ((s.counts.set k (if 999999999<s.counts[k]+n then 999999999 else s.counts[k]+n)).map I64)⟩) (by first|exact h_same|rfl) rfl (by simp) (ints_unit _) ⟨[],by simp⟩
theorem c_Reset (c:Book) (s:BSt) (hl:lenB c) (ht:lenT s) (part:Int):PC Tryz.prog 40 [c.v,s.v,I64 part] (.tup [(resetM c s part).1.v,I64 (resetM c s part).2]):=by
 have hk:=c_IsState c s hl ht
 refine PC.of mixedU isU40 (Nat.le_of_ble_eq_true rfl) (by simp [DV.nlL,DV.nl,nlL_ints,nlL_scos,nlL_adjs]) (by simp [DV.nlL,DV.nl,nlL_ints,nlL_scos,nlL_adjs]) ?_
 show IW Tryz.prog 36 u40_1 ⟨argT _,_,_⟩ (rt [.cell 6 3 true,.tmp 7] _)
 by_cases e1:isStM c s=true
 rotate_left
 ·have e1:isStM c s=false:=by simpa using e1
  repeat' ((with_reducible first|refine wr ?_|refine cpc hk ?_|refine k_cu ?_ ?_|refine wb2 ?_ ?_<;>(intro hb;try simp only [hb])|fail)<;>try simp only [go_sem,seval,e1])
  simp only [resetM,e1,if_true]
  exact pc_no
 obtain ⟨s1,s2,s3,s4,s5⟩:=st_fit e1
 obtain ⟨f1,f2,f3,f4,f5⟩:=valid_fit s1
 have hcl:=c_clone s (by omega) (by omega) (by omega)
 have hst:=c_settings c f1
 have hcs:=c_CloneS c.scores (by omega)
 obtain ⟨m,hm⟩:∃ m:Nat,c.cnt=(m:Int):=⟨c.cnt.toNat,by omega⟩
 have hm32:m≤32:=by omega
 have hms:mslR 1 8 [DV.int .i64 0] (I64 c.cnt) (I64 c.cnt)=some (some m,⟨1,true,List.replicate m (I64 0)⟩):=by rw [hm, ← madeL_one];exact r_msl (by omega) (by omega) rfl rfl
 by_cases p1:part=1
 ·subst p1
  repeat' ((with_reducible first|refine wr ?_|refine cpc hk ?_|refine cpc hcl ?_|refine cpc hst ?_|refine cpc hcs ?_|refine k_cu ?_ ?_|refine wb2 ?_ ?_<;>(intro hb;try simp only [hb])|fail)<;>try simp only [go_sem,seval,e1,hms])
  all_goals
   simp only [resetM,e1,Bool.true_eq_false,if_false,if_true]
   exact pc_ret rfl
 have p1':(part == 1)=false:=by simpa using p1
 by_cases p2:part=2
 ·subst p2
  repeat' ((with_reducible first|refine wr ?_|refine cpc hk ?_|refine cpc hcl ?_|refine cpc hst ?_|refine cpc hcs ?_|refine k_cu ?_ ?_|refine wb2 ?_ ?_<;>(intro hb;try simp only [hb])|fail)<;>try simp only [go_sem,seval,e1,hms])
  all_goals
   have er:resetM c s 2=(⟨s.sets,List.replicate m 0,s.scores⟩,0):=by simp [resetM,e1,hm]
   rw [er]
   refine pc_stB (blk:=⟨1,true,List.replicate m (I64 0)⟩) (xs:=(List.replicate m (0:Int)).map I64) (u:=1) (by first|exact h_same|rfl) rfl (by simp) (ints_unit _) ⟨[],?_⟩
   rw [List.append_nil,cells_ints];simp
 have p2':(part == 2)=false:=by simpa using p2
 by_cases p3:part=3
 ·subst p3
  repeat' ((with_reducible first|refine wr ?_|refine cpc hk ?_|refine cpc hcl ?_|refine cpc hst ?_|refine cpc hcs ?_|refine k_cu ?_ ?_|refine wb2 ?_ ?_<;>(intro hb;try simp only [hb])|fail)<;>try simp only [go_sem,seval,e1,hms])
  all_goals
   have er:resetM c s 3=(⟨s.sets,s.counts,c.scores⟩,0):=by simp [resetM,e1]
   rw [er]
   exact pc_ret rfl
 have p3':(part == 3)=false:=by simpa using p3
 repeat' ((with_reducible first|refine wr ?_|refine cpc hk ?_|refine cpc hcl ?_|refine cpc hst ?_|refine cpc hcs ?_|refine k_cu ?_ ?_|refine wb2 ?_ ?_<;>(intro hb;try simp only [hb])|fail)<;>try simp only [go_sem,seval,e1,p1',p2',p3'])
 all_goals
  have er:resetM c s part=(noSt,44):=by simp [resetM,e1,p1,p2,p3]
  rw [er]
  exact pc_no
theorem c_below (x y:Sco):PC Tryz.prog 50 [y.v,.fptr [.str x.name,I64 x.points]] (.bool (decide (y.points<x.points))):=by
 refine PC.of mixedU isU50 (Nat.le_of_ble_eq_true rfl) (by simp [DV.nlL,DV.nl,nlL_ints,nlL_strs,nlL_adjs,nlL_scos]) (by simp [DV.nlL,DV.nl,nlL_ints,nlL_strs,nlL_adjs,nlL_scos]) ?_
 show IW Tryz.prog 9 u50_1 ⟨argT _,_,_⟩ (rt [.tmp 3] _)
 repeat' ((with_reducible first|refine wr ?_|refine k_cu ?_ ?_|refine wb2 ?_ ?_<;>(intro hb;try simp only [hb])|fail)<;>try simp only [go_sem,seval])
 all_goals (refine pc_ret ?_;simp_all)
theorem idx_place (p:Int):∀ (l:List Sco) (k:Nat),idxM (fun y=>decide (y.points<p)) l k=if placeM p l=l.length then -1 else ((k+placeM p l:Nat):Int)
 | [],k=>rfl
 | y :: l,k=>by
  simp only [idxM,placeM]
  by_cases h:y.points<p
  ·simp [h]
  ·have:=idx_place p l (k+1)
   simp only [decide_eq_true_eq,h,if_false,this,List.length_cons,Nat.add_right_cancel_iff]
   split
   ·rfl
   ·congr 1;omega
theorem place_le (p:Int):∀ l:List Sco,placeM p l≤l.length
 | []=>Nat.le_refl _
 | y :: l=>by
  have:=place_le p l
  simp only [placeM,List.length_cons];split<;>omega
theorem scos_len (l:List Sco):(cellsL (l.map Sco.v)).length=l.length * 2:=by
 rw [cells_scos]
 induction l with
 | nil=>rfl
 | cons x r ih=>rw [List.flatMap_cons,List.length_append,ih];simp;omega
theorem scos_ins (l:List Sco) (p:Nat) (x:Sco) (hp:p≤l.length):(cellsL (l.map Sco.v)).take (p * 2)++[.str x.name,I64 x.points]++(cellsL (l.map Sco.v)).drop (p * 2)=cellsL ((l.take p++x :: l.drop p).map Sco.v):=by
 have e:cellsL (l.map Sco.v)=cellsL ((l.take p).map Sco.v)++cellsL ((l.drop p).map Sco.v):=by
  rw [← cellsL_append, ← List.map_append,List.take_append_drop]
 have hl:(cellsL ((l.take p).map Sco.v)).length=p * 2:=by rw [scos_len,List.length_take];omega
 rw [e,List.take_left' hl,List.drop_left' hl,List.map_append,cellsL_append,List.map_cons,List.append_assoc]
 rfl
theorem c_Enter (c:Book) (s:BSt) (hl:lenB c) (ht:lenT s) (x:Sco) (hx:x.name.length≤9223372036854775807):PC Tryz.prog 17 [c.v,s.v,x.v] (.tup [(enterM c s x).1.v,I64 (enterM c s x).2.1,I64 (enterM c s x).2.2]):=by
 have hk:=c_IsState c s hl ht
 have hsx:=c_isScore x hx
 refine PC.of mixedU isU17 (Nat.le_of_ble_eq_true rfl) (by simp [DV.nlL,DV.nl,nlL_ints,nlL_scos,nlL_adjs]) (by simp [DV.nlL,DV.nl,nlL_ints,nlL_scos,nlL_adjs]) ?_
 show IW Tryz.prog 41 u17_1 ⟨argT _,_,_⟩ (rt [.cell 6 3 true,.tmp 7,.tmp 8] _)
 by_cases e1:isStM c s=true
 rotate_left
 ·have e1:isStM c s=false:=by simpa using e1
  repeat' ((with_reducible first|refine wr ?_|refine cpc hk ?_|refine k_cu ?_ ?_|refine wb2 ?_ ?_<;>(intro hb;try simp only [hb])|fail)<;>try simp only [go_sem,seval,e1])
  simp only [enterM,e1,if_true]
  exact pc_no
 by_cases e2:isScoM x=true
 rotate_left
 ·have e2:isScoM x=false:=by simpa using e2
  repeat' ((with_reducible first|refine wr ?_|refine cpc hk ?_|refine cpc hsx ?_|refine k_cu ?_ ?_|refine wb2 ?_ ?_<;>(intro hb;try simp only [hb])|fail)<;>try simp only [go_sem,seval,e1,e2])
  simp only [enterM,e1,e2,if_true,Bool.true_eq_false,if_false]
  exact pc_no
 obtain ⟨s1,s2,s3,s4,s5⟩:=st_fit e1
 obtain ⟨f1,f2,f3,f4,f5⟩:=valid_fit s1
 have hif:=c_IF_sco (f:=50) (a:=[]) (cs:=[.fptr [.str x.name,I64 x.points]]) (g:=fun y=>decide (y.points<x.points)) s.scores ht.2.2.1 rfl rfl (fun y _=>c_below x y)
 rw [idx_place,Nat.zero_add] at hif
 by_cases e3:placeM x.points s.scores=s.scores.length
 ·rw [if_pos e3] at hif
  have hcl:=c_clone s (by omega) (by omega) (by omega)
  repeat' ((first|(with_reducible first|refine wr ?_|refine cpc hk ?_|refine cpc hsx ?_|refine cpc hcl ?_|refine k_cu ?_ ?_)|(with_reducible refine wb2 ?_ ?_<;>(intro hb;try simp only [hb]))|(refine AC.call (hif.lend rfl (GL.one (id:=2) (b:=⟨0,true,[.str x.name,I64 x.points]⟩) rfl rfl (.cons _ _ _ _ (.same _) (.cons _ _ _ _ (.func _ _ _ _ _ .nil (.cons _ _ _ _ (.ptr 0 _ (Nat.zero_le _) rfl) .nil)) .nil)))) ?_<;>rintro v H' c' ⟨rfl,rfl,rfl⟩ hcc)|fail)<;>try simp only [go_sem,seval,e1,e2])
  all_goals
   simp only [enterM,e1,e2,e3,Bool.true_eq_false,if_false,if_true]
   exact pc_ret rfl
 rw [if_neg e3] at hif
 have hpl:=place_le x.points s.scores
 obtain ⟨p,hp⟩:∃ p,p=placeM x.points s.scores:=⟨_,rfl⟩
 rw [← hp] at hif e3 hpl
 have h0:s.scores≠[]:=fun h=>by rw [h] at hpl e3;simp at hpl e3;omega
 have hcl:=fun H cc=>c_cloneC s (by omega) (by omega) (by omega) h0 H cc
 have hsl:=fun H id=>r_slch (H:=H) (id:=id) (off:=0) (l:=s.scores.length+1) (h:=s.scores.length) (sz:=2) (k:=.i64) (by omega)
 have hge:decide ((p:Int)≥0)=true:=by simp
 have er:enterM c s x=(⟨s.sets,s.counts,(s.scores.take p++x :: s.scores.drop p).take s.scores.length⟩,(p:Int),0):=by
  simp only [enterM,e1,e2, ← hp,e3,Bool.true_eq_false,if_false]
 rw [er]
 repeat' ((first|(with_reducible first|refine wr ?_|refine cpc hk ?_|refine cpc hsx ?_|refine k_cu ?_ ?_)|(with_reducible refine wb2 ?_ ?_<;>(intro hb;try simp only [hb]))|((with_reducible refine AC.call (hcl _ _) ?_);(rintro v H' c' ⟨rfl,rfl,rfl⟩ hcc))|(refine AC.call (hif.lend rfl (GL.one (id:=2) (b:=⟨0,true,[.str x.name,I64 x.points]⟩) rfl rfl (.cons _ _ _ _ (.same _) (.cons _ _ _ _ (.func _ _ _ _ _ .nil (.cons _ _ _ _ (.ptr 0 _ (Nat.zero_le _) rfl) .nil)) .nil)))) ?_<;>rintro v H' c' ⟨rfl,rfl,rfl⟩ hcc)|(refine AC.call (c_Insert (x:=[.str x.name,I64 x.points]) rfl rfl (by decide) (scos_len _) rfl (by omega) (by omega)) ?_<;>rintro v H' c' ⟨rfl,rfl,rfl⟩ hcc)|fail)<;>try simp only [go_sem,seval,e1,e2,hge,hsl])
 all_goals
  refine pc_stC (u:=2) (xs:=((s.scores.take p++x :: s.scores.drop p).take s.scores.length).map Sco.v) (blk:=⟨2,true,(cellsL (s.scores.map Sco.v)).take (p * 2)++[.str x.name,I64 x.points]++(cellsL (s.scores.map Sco.v)).drop (p * 2)⟩) (by first|exact h_same|rfl) rfl ?_ (scos_unit _) ⟨cellsL (((s.scores.take p++x :: s.scores.drop p).drop s.scores.length).map Sco.v),?_⟩
  ·rw [List.length_map,List.length_take];simp only [List.length_append,List.length_take,List.length_cons,List.length_drop];omega
  ·rw [scos_ins _ _ _ hpl, ← cellsL_append, ← List.map_append,List.take_append_drop]
end Go.Proofs.YtndjhpjcankkaaaGreatDoor
namespace Go.Proofs.YtndjhpjcankkaaaGreatDoor
open Go.Eng (IC IOper DReg IFn IsFn)
open Go.Sym Go.Pb
theorem c_inR (n lo hi:Int):PC Tryz.prog 46 [I64 n,I64 lo,I64 hi] (.bool (inB n lo hi)):=by
 refine PC.of mixedU isU46 (Nat.le_of_ble_eq_true rfl) (by simp [DV.nlL,DV.nl,nlL_ints,nlL_strs,nlL_adjs,nlL_scos]) (by simp [DV.nlL,DV.nl,nlL_ints,nlL_strs,nlL_adjs,nlL_scos]) ?_
 show IW Tryz.prog 15 u46_1 ⟨argT _,_,_⟩ (rt [.tmp 6] _)
 repeat' ((with_reducible first|refine wr ?_|refine k_cu ?_ ?_|refine wb2 ?_ ?_<;>(intro hb;try simp only [hb])|fail)<;>try simp only [go_sem,seval])
 all_goals (refine pc_ret ?_;simp_all [inB]<;>omega)
theorem c_valueR (a:Adj) (v:Int) (h:Adj.fit a):PC Tryz.prog 45 [a.v,I64 v] (.bool (isValM a v)):=by
 obtain ⟨h1,h2,h3,h4,h5⟩:=h
 by_cases hin:inB v a.lo a.hi=true
 ·have hb:a.lo≤v∧v≤a.hi:=by simpa [inB] using hin
  have hw:=w64 (n:=v-a.lo) (by omega) (by omega)
  have hr:binR .rem (I64 (v-a.lo)) (I64 a.step)=some (I64 ((v-a.lo).tmod a.step)):=r_rem (by omega)
  refine PC.of mixedU isU45 (Nat.le_of_ble_eq_true rfl) (by simp [DV.nlL,DV.nl,nlL_ints,nlL_strs,nlL_adjs,nlL_scos]) (by simp [DV.nlL,DV.nl,nlL_ints,nlL_strs,nlL_adjs,nlL_scos]) ?_
  show IW Tryz.prog 21 u45_1 ⟨argT _,_,_⟩ (rt [.tmp 4] _)
  repeat' ((with_reducible first|refine wr ?_|refine cpc (c_inR _ _ _) ?_|refine k_cu ?_ ?_|refine wb2 ?_ ?_<;>(intro hb;try simp only [hb])|fail)<;>try simp only [go_sem,seval,hw,hr,hin])
  all_goals (refine pc_ret ?_;simp_all [isValM]<;>omega)
 ·have hin:inB v a.lo a.hi=false:=by simpa using hin
  refine PC.of mixedU isU45 (Nat.le_of_ble_eq_true rfl) (by simp [DV.nlL,DV.nl,nlL_ints,nlL_strs,nlL_adjs,nlL_scos]) (by simp [DV.nlL,DV.nl,nlL_ints,nlL_strs,nlL_adjs,nlL_scos]) ?_
  show IW Tryz.prog 21 u45_1 ⟨argT _,_,_⟩ (rt [.tmp 4] _)
  repeat' ((with_reducible first|refine wr ?_|refine cpc (c_inR _ _ _) ?_|refine k_cu ?_ ?_|refine wb2 ?_ ?_<;>(intro hb;try simp only [hb])|fail)<;>try simp only [go_sem,seval,hin])
  all_goals (refine pc_ret ?_;simp_all [isValM]<;>omega)
theorem c_scoreR (x:Sco) (hx:x.name.length≤9223372036854775807):PC Tryz.prog 74 [x.v] (.bool (isScoM x)):=by
 refine PC.of mixedU isU74 (Nat.le_of_ble_eq_true rfl) (by simp [DV.nlL,DV.nl,nlL_ints,nlL_strs,nlL_adjs,nlL_scos]) (by simp [DV.nlL,DV.nl,nlL_ints,nlL_strs,nlL_adjs,nlL_scos]) ?_
 show IW Tryz.prog 30 u74_1 ⟨argT _,_,_⟩ (rt [.tmp 2] _)
 by_cases h3:x.name.length=3
 rotate_left
 ·have h3':((x.name.length:Int) != 3)=true:=by simp;omega
  repeat' ((with_reducible first|refine wr ?_|refine k_cu ?_ ?_|refine wb2 ?_ ?_<;>(intro hb;try simp only [hb])|fail)<;>try simp only [go_sem,seval,h3'])
  all_goals (refine pc_ret ?_;simp_all [isScoM])
 have h3':((x.name.length:Int) != 3)=false:=by simp [h3]
 by_cases h4:inB x.points 0 999999999999=true
 rotate_left
 ·have h4:inB x.points 0 999999999999=false:=by simpa using h4
  repeat' ((with_reducible first|refine wr ?_|refine cpc (c_inR _ _ _) ?_|refine k_cu ?_ ?_|refine wb2 ?_ ?_<;>(intro hb;try simp only [hb])|fail)<;>try simp only [go_sem,seval,h3',h4])
  all_goals (refine pc_ret ?_;simp_all [isScoM])
 repeat' ((with_reducible first|refine wr ?_|refine cpc (c_inR _ _ _) ?_|refine k_cu ?_ ?_|refine wb2 ?_ ?_<;>(intro hb;try simp only [hb])|fail)<;>try simp only [go_sem,seval,h3',h4])
 refine i_loop (fun k:Nat=>[(1,.ptr 0 0),(3,I64 k)]) (fun _=>nil.upd 0 ⟨0,true,[.str x.name,I64 x.points]⟩) (fun k cc=>1≤cc∧k≤x.name.length∧(x.name.take k).all capB=true) (fun k=>x.name.length-k) 0 (by simp [tmLe,tm,Tm.upd]) (Sub.refl _) (by simp) ?_
 rintro k cc ⟨h1c,hk,he⟩
 by_cases hlt:k<x.name.length
 ·have hd:decide ((k:Int)<3)=true:=by simp;omega
  have hg:=List.getElem?_eq_getElem hlt
  have hw:=w64 (n:=(k:Int)+1) (by omega) (by omega)
  repeat' ((with_reducible first|refine wr ?_|refine k_cu ?_ ?_|refine wb2 ?_ ?_<;>(intro hb;try simp only [hb])|fail)<;>try simp only [go_sem,seval,hd,hg,hw])
  all_goals first
   | (refine pc_ret ?_;rw [isScoM,all_fail capB x.name k _ hg (by simp_all [capB];omega)];rfl)
   | exact ⟨k+1,rfl,Sub.refl _,inv ⟨by omega,by omega,by rw [all_take capB x.name k _ hg he];simp_all [capB];omega⟩,by omega⟩
 ·have hd:decide ((k:Int)<3)=false:=by simp;omega
  have hall:=all_done capB x.name k (by omega) he
  repeat' ((with_reducible first|refine wr ?_|refine k_cu ?_ ?_|refine wb2 ?_ ?_<;>(intro hb;try simp only [hb])|fail)<;>try simp only [go_sem,seval,hd])
  all_goals (refine pc_ret ?_;simp_all [isScoM])
theorem ord_step {l:List Sco} {k:Nat} {y:Sco} (h:l[k]? = some y):ordM (l.take (k+1))=(ordM (l.take k) && (match k with | 0=>true|j+1=>match l[j]? with|some x=>decide (y.points≤x.points)|none=>true)):=by
 rw [Bool.eq_iff_iff,Bool.and_eq_true,ordM_iff,ordM_iff]
 have hk:=(List.getElem?_eq_some_iff.1 h).1
 constructor
 ·intro hh
  refine ⟨fun i a b ha hb=>?_,?_⟩
  ·have hi:=(List.getElem?_eq_some_iff.1 hb).1
   rw [List.length_take] at hi
   rw [List.getElem?_take,if_pos (by omega)] at ha hb
   exact hh i a b (by rw [List.getElem?_take,if_pos (by omega)];exact ha) (by rw [List.getElem?_take,if_pos (by omega)];exact hb)
  ·cases k with
   | zero=>rfl
   | succ j =>
    have hg:=List.getElem?_eq_getElem (show j<l.length by omega)
    simp only [hg,decide_eq_true_eq]
    exact hh j _ _ (by rw [List.getElem?_take,if_pos (by omega)];exact hg) (by rw [List.getElem?_take,if_pos (by omega)];exact h)
 ·rintro ⟨h1,h2⟩ i a b ha hb
  have hi:=(List.getElem?_eq_some_iff.1 hb).1
  rw [List.length_take] at hi
  rw [List.getElem?_take,if_pos (by omega)] at ha hb
  by_cases hik:i+1<k
  ·exact h1 i a b (by rw [List.getElem?_take,if_pos (by omega)];exact ha) (by rw [List.getElem?_take,if_pos (by omega)];exact hb)
  ·obtain rfl:k=i+1:=by omega
   simp only [ha,decide_eq_true_eq] at h2
   rw [h] at hb;cases hb
   exact h2
theorem c_scoresR (l:List Sco) (hl:lenS l):PC Tryz.prog 47 [scosV l] (.tup [.bool (l.all isScoM),.bool (ordM l)]):=by
 have hl1:=hl.1
 refine PC.of mixedU isU47 (Nat.le_of_ble_eq_true rfl) (by simp [DV.nlL,DV.nl,nlL_ints,nlL_strs,nlL_adjs,nlL_scos]) (by simp [DV.nlL,DV.nl,nlL_ints,nlL_strs,nlL_adjs,nlL_scos]) ?_
 show IW Tryz.prog 42 u47_1 ⟨argT _,_,_⟩ (rt [.tmp 2,.tmp 3] _)
 repeat' ((with_reducible first|refine wr ?_|refine k_cu ?_ ?_|refine wb2 ?_ ?_<;>(intro hb;try simp only [hb])|fail)<;>try simp only [go_sem,seval])
 refine i_loop (fun k:Nat=>[(0,scosV l),(4,.bool ((l.take k).all isScoM)),(5,.bool (ordM (l.take k))),(6,I64 k)]) (fun _=>nil) (fun k _=>k≤l.length) (fun k=>l.length-k) 0 (by simp [tmLe,tm,Tm.upd,ordM]) (Sub.nil _) (by simp) ?_
 intro k cc hk
 by_cases hlt:k<l.length
 ·have hd:decide ((k:Int)<l.length)=true:=by simpa using hlt
  have hg:=List.getElem?_eq_getElem hlt
  have hw:=w64 (n:=(k:Int)+1) (by omega) (by omega)
  have hc:=c_scoreR l[k] (hl.2 _ (List.getElem_mem _))
  have ha:(l.take (k+1)).all isScoM=((l.take k).all isScoM && isScoM l[k]):=all_take' isScoM l k _ hg
  have ho:=ord_step hg
  generalize l[k]=y at hg hc ha ho
  generalize (l.take k).all isScoM=p at ha ⊢
  generalize ordM (l.take k)=q at ho ⊢
  cases k with
  | zero =>
   have hd0:decide ((0:Int)<(l.length:Int))=true:=by simp;omega
   have hw0:IntKind.i64.wrap 1=1:=w64 (by omega) (by omega)
   simp only [List.take_zero,List.all_nil,ordM,Bool.true_and] at ha ho
   cases p<;>cases q
   all_goals
    repeat' ((with_reducible first|refine wr ?_|refine cpc hc ?_|refine k_cu ?_ ?_|refine wb2 ?_ ?_<;>(intro hb;try simp only [hb])|fail)<;>try simp only [go_sem,seval,hd0,hg,hw0])
    all_goals trace_state
    all_goals exact ⟨0+1,by simp_all,Sub.nil _,inv (by omega),by omega⟩
  | succ j =>
   have hz:(((j+1:Nat):Int) == 0)=false:=by simp;omega
   have hw1:IntKind.i64.wrap (((j+1:Nat):Int)-1)=(j:Int):=by rw [w64 (by omega) (by omega)];omega
   have hg1:=List.getElem?_eq_getElem (show j<l.length by omega)
   simp only [hg1] at ho
   cases p<;>cases q
   all_goals
    repeat' ((with_reducible first|refine wr ?_|refine cpc hc ?_|refine k_cu ?_ ?_|refine wb2 ?_ ?_<;>(intro hb;try simp only [hb])|fail)<;>try simp only [go_sem,seval,hd,hg,hw,hz,hw1,hg1])
    all_goals exact ⟨j+1+1,by simp_all,Sub.nil _,inv (by omega),by omega⟩
 ·have hd:decide ((k:Int)<l.length)=false:=by simpa using hlt
  repeat' ((with_reducible first|refine wr ?_|refine k_cu ?_ ?_|refine wb2 ?_ ?_<;>(intro hb;try simp only [hb])|fail)<;>try simp only [go_sem,seval,hd])
  refine pc_ret ?_
  rw [List.take_of_length_le (by omega)]
end Go.Proofs.YtndjhpjcankkaaaGreatDoor
namespace Go.Proofs.YtndjhpjcankkaaaGreatDoor
open Go.Eng (IC IOper DReg IFn IsFn)
open Go.Sym Go.Pb
theorem scos_dec (l:List Sco):decide (scosM l=0)=(l.all isScoM && ordM l):=by
 unfold scosM
 cases l.all isScoM<;>cases ordM l<;>rfl
theorem c_validR (c:Book) (hl:lenB c):PC Tryz.prog 35 [c.v] (I64 (validBM c)):=by
 have hcs:=c_scoresR c.scores hl.2
 have hla:=hl.1
 by_cases h0:32<c.adjs.length∨inB c.cnt 0 32=false∨8<c.scores.length
 ·have hv:validBM c=9:=by rw [validBM,if_pos h0]
  by_cases q1:32<c.adjs.length
  ·have q1':decide ((c.adjs.length:Int)>32)=true:=by simp;omega
   refine PC.of mixedU isU35 (Nat.le_of_ble_eq_true rfl) (by simp [DV.nlL,DV.nl,nlL_ints,nlL_strs,nlL_adjs,nlL_scos]) (by simp [DV.nlL,DV.nl,nlL_ints,nlL_strs,nlL_adjs,nlL_scos]) ?_
   show IW Tryz.prog 77 u35_1 ⟨argT _,_,_⟩ (rt [.tmp 2] _)
   repeat' ((with_reducible first|refine wr ?_|refine cpc (c_inR _ _ _) ?_|refine k_cu ?_ ?_|refine wb2 ?_ ?_<;>(intro hb;try simp only [hb])|fail)<;>try simp only [go_sem,seval,q1'])
   all_goals (refine pc_ret ?_;rw [hv])
  ·have q1':decide ((c.adjs.length:Int)>32)=false:=by simp;omega
   by_cases q2:inB c.cnt 0 32=false
   ·refine PC.of mixedU isU35 (Nat.le_of_ble_eq_true rfl) (by simp [DV.nlL,DV.nl,nlL_ints,nlL_strs,nlL_adjs,nlL_scos]) (by simp [DV.nlL,DV.nl,nlL_ints,nlL_strs,nlL_adjs,nlL_scos]) ?_
    show IW Tryz.prog 77 u35_1 ⟨argT _,_,_⟩ (rt [.tmp 2] _)
    repeat' ((with_reducible first|refine wr ?_|refine cpc (c_inR _ _ _) ?_|refine k_cu ?_ ?_|refine wb2 ?_ ?_<;>(intro hb;try simp only [hb])|fail)<;>try simp only [go_sem,seval,q1',q2])
    all_goals (refine pc_ret ?_;rw [hv])
   ·have q2:inB c.cnt 0 32=true:=by simpa using q2
    have q3:decide ((c.scores.length:Int)>8)=true:=by
     rcases h0 with h|h|h
     ·omega
     ·rw [q2] at h;cases h
     ·simp;omega
    refine PC.of mixedU isU35 (Nat.le_of_ble_eq_true rfl) (by simp [DV.nlL,DV.nl,nlL_ints,nlL_strs,nlL_adjs,nlL_scos]) (by simp [DV.nlL,DV.nl,nlL_ints,nlL_strs,nlL_adjs,nlL_scos]) ?_
    show IW Tryz.prog 77 u35_1 ⟨argT _,_,_⟩ (rt [.tmp 2] _)
    repeat' ((with_reducible first|refine wr ?_|refine cpc (c_inR _ _ _) ?_|refine k_cu ?_ ?_|refine wb2 ?_ ?_<;>(intro hb;try simp only [hb])|fail)<;>try simp only [go_sem,seval,q1',q2,q3])
    all_goals (refine pc_ret ?_;rw [hv])
 ·have h00:=h0
  have q1:decide ((c.adjs.length:Int)>32)=false:=by simp;omega
  have q2:inB c.cnt 0 32=true:=by cases h:inB c.cnt 0 32<;>simp_all
  have q3:decide ((c.scores.length:Int)>8)=false:=by simp;omega
  refine PC.of mixedU isU35 (Nat.le_of_ble_eq_true rfl) (by simp [DV.nlL,DV.nl,nlL_ints,nlL_strs,nlL_adjs,nlL_scos]) (by simp [DV.nlL,DV.nl,nlL_ints,nlL_strs,nlL_adjs,nlL_scos]) ?_
  show IW Tryz.prog 77 u35_1 ⟨argT _,_,_⟩ (rt [.tmp 2] _)
  repeat' ((with_reducible first|refine wr ?_|refine cpc (c_inR _ _ _) ?_|refine k_cu ?_ ?_|refine wb2 ?_ ?_<;>(intro hb;try simp only [hb])|fail)<;>try simp only [go_sem,seval,q1,q2,q3])
  refine i_loop (fun k:Nat=>[(1,.ptr 0 0),(3,I64 k)]) (fun _=>nil.upd 0 ⟨0,true,csB c⟩) (fun k cc=>1≤cc∧k≤c.adjs.length∧(c.adjs.take k).all adjM=true) (fun k=>c.adjs.length-k) 0 (by simp [tmLe,tm,Tm.upd]) (Sub.refl _) (by simp) ?_
  rintro k cc ⟨h1c,hk,he⟩
  by_cases hlt:k<c.adjs.length
  ·have hd:decide ((k:Int)<c.adjs.length)=true:=by simpa using hlt
   have hg:=List.getElem?_eq_getElem hlt
   have hw:=w64 (n:=(k:Int)+1) (by omega) (by omega)
   generalize c.adjs[k]=a at hg
   have fin:adjM a=false→validBM c=5:=fun h=>by
    rw [validBM,if_neg h00,if_pos (all_fail adjM c.adjs k a hg h)]
   have nxt:adjM a=true→(c.adjs.take (k+1)).all adjM=true:=fun h=>by rw [all_take adjM c.adjs k a hg he,h]
   by_cases h1:inB a.lo (-1000000000) 1000000000=true
   rotate_left
   ·have h1:inB a.lo (-1000000000) 1000000000=false:=by simpa using h1
    repeat' ((with_reducible first|refine wr ?_|refine cpc (c_inR _ _ _) ?_|refine k_cu ?_ ?_|refine wb2 ?_ ?_<;>(intro hb;try simp only [hb])|fail)<;>try simp only [go_sem,seval,hd,hg,hw,h1])
    all_goals (refine pc_ret ?_;rw [fin (by simp_all [adjM])])
   have h1' : -1000000000≤a.lo∧a.lo≤1000000000:=by simpa [inB] using h1
   by_cases h2:inB a.hi (-1000000000) 1000000000=true
   rotate_left
   ·have h2:inB a.hi (-1000000000) 1000000000=false:=by simpa using h2
    have h2':inB a.hi a.lo 1000000000=false:=by
     rw [Bool.eq_false_iff] at h2 ⊢;intro h;apply h2;simp [inB] at h ⊢;omega
    repeat' ((with_reducible first|refine wr ?_|refine cpc (c_inR _ _ _) ?_|refine k_cu ?_ ?_|refine wb2 ?_ ?_<;>(intro hb;try simp only [hb])|fail)<;>try simp only [go_sem,seval,hd,hg,hw,h1,h2])
    all_goals (refine pc_ret ?_;rw [fin (by simp_all [adjM])])
   have h2' : -1000000000≤a.hi∧a.hi≤1000000000:=by simpa [inB] using h2
   by_cases h3:a.lo>a.hi
   ·have h3':decide (a.lo>a.hi)=true:=by simpa using h3
    have h2'':inB a.hi a.lo 1000000000=false:=by
     rw [Bool.eq_false_iff];intro h;simp [inB] at h;omega
    repeat' ((with_reducible first|refine wr ?_|refine cpc (c_inR _ _ _) ?_|refine k_cu ?_ ?_|refine wb2 ?_ ?_<;>(intro hb;try simp only [hb])|fail)<;>try simp only [go_sem,seval,hd,hg,hw,h1,h2,h3'])
    all_goals (refine pc_ret ?_;rw [fin (by simp_all [adjM])])
   have h3':decide (a.lo>a.hi)=false:=by simpa using h3
   have h2'':inB a.hi a.lo 1000000000=true:=by simp [inB];omega
   by_cases h4:inB a.step 1 1000000000=true
   rotate_left
   ·have h4:inB a.step 1 1000000000=false:=by simpa using h4
    repeat' ((with_reducible first|refine wr ?_|refine cpc (c_inR _ _ _) ?_|refine k_cu ?_ ?_|refine wb2 ?_ ?_<;>(intro hb;try simp only [hb])|fail)<;>try simp only [go_sem,seval,hd,hg,hw,h1,h2,h3',h4])
    all_goals (refine pc_ret ?_;rw [fin (by simp_all [adjM])])
   have hc:=c_valueR a a.dflt (adjM_fit h1 h2'' h4)
   have hM:adjM a=isValM a a.dflt:=by simp [adjM,h1,h2'',h4]
   rw [hM] at fin nxt
   repeat' ((with_reducible first|refine wr ?_|refine cpc (c_inR _ _ _) ?_|refine cpc hc ?_|refine k_cu ?_ ?_|refine wb2 ?_ ?_<;>(intro hb;try simp only [hb])|fail)<;>try simp only [go_sem,seval,hd,hg,hw,h1,h2,h3',h4])
   all_goals first
    | (refine pc_ret ?_;rw [fin (by simp_all)])
    | exact ⟨k+1,rfl,by first|exact Sub.refl _|(intro j b hj;simp only [Hp.upd,nil] at hj ⊢;split at hj<;>simp_all<;>omega),inv ⟨by omega,by omega,nxt (by simp_all)⟩,by omega⟩
  ·have hd:decide ((k:Int)<c.adjs.length)=false:=by simpa using hlt
   have hall:=all_done adjM c.adjs k (by omega) he
   have hv:validBM c=scosM c.scores:=by rw [validBM,if_neg h00,if_neg (by rw [hall];simp)]
   rw [hv]
   repeat' ((with_reducible first|refine wr ?_|refine cpc hcs ?_|refine k_cu ?_ ?_|refine wb2 ?_ ?_<;>(intro hb;try simp only [hb])|fail)<;>try simp only [go_sem,seval,hd])
   all_goals (refine pc_ret ?_;simp_all [scosM])
theorem c_IsStateR (c:Book) (s:BSt) (hl:lenB c) (ht:lenT s):PC Tryz.prog 16 [c.v,s.v] (.bool (isStM c s)):=by
 have hv:=c_validR c hl
 have hs:=c_scoresR s.scores ht.2.2
 have ht1:=ht.1
 have ht2:=ht.2.1
 refine PC.of mixedU isU16 (Nat.le_of_ble_eq_true rfl) (by simp [DV.nlL,DV.nl,nlL_ints,nlL_strs,nlL_adjs,nlL_scos]) (by simp [DV.nlL,DV.nl,nlL_ints,nlL_strs,nlL_adjs,nlL_scos]) ?_
 show IW Tryz.prog 81 u16_1 ⟨argT _,_,_⟩ (rt [.tmp 4] _)
 by_cases e1:validBM c=0
 rotate_left
 ·have e1':(validBM c != 0)=true:=by simpa using e1
  repeat' ((with_reducible first|refine wr ?_|refine cpc hv ?_|refine k_cu ?_ ?_|refine wb2 ?_ ?_<;>(intro hb;try simp only [hb])|fail)<;>try simp only [go_sem,seval,e1'])
  all_goals (refine pc_ret ?_;simp [isStM,e1])
 have e1':(validBM c != 0)=false:=by simpa using e1
 by_cases e2:s.sets.length=c.adjs.length
 rotate_left
 ·have e2':((s.sets.length:Int) != (c.adjs.length:Int))=true:=by simp;omega
  repeat' ((with_reducible first|refine wr ?_|refine cpc hv ?_|refine k_cu ?_ ?_|refine wb2 ?_ ?_<;>(intro hb;try simp only [hb])|fail)<;>try simp only [go_sem,seval,e1',e2'])
  all_goals (refine pc_ret ?_;simp [isStM,e2])
 have e2':((s.sets.length:Int) != (c.adjs.length:Int))=false:=by simp [e2]
 by_cases e3:(s.counts.length:Int)=c.cnt
 rotate_left
 ·have e3':((s.counts.length:Int) != c.cnt)=true:=by simpa using e3
  repeat' ((with_reducible first|refine wr ?_|refine cpc hv ?_|refine k_cu ?_ ?_|refine wb2 ?_ ?_<;>(intro hb;try simp only [hb])|fail)<;>try simp only [go_sem,seval,e1',e2',e3'])
  all_goals (refine pc_ret ?_;simp [isStM,e3])
 have e3':((s.counts.length:Int) != c.cnt)=false:=by simp [e3]
 by_cases e4:s.scores.length=c.scores.length
 rotate_left
 ·have e4':((s.scores.length:Int) != (c.scores.length:Int))=true:=by simp;omega
  repeat' ((with_reducible first|refine wr ?_|refine cpc hv ?_|refine k_cu ?_ ?_|refine wb2 ?_ ?_<;>(intro hb;try simp only [hb])|fail)<;>try simp only [go_sem,seval,e1',e2',e3',e4'])
  all_goals (refine pc_ret ?_;simp [isStM,e4])
 have e4':((s.scores.length:Int) != (c.scores.length:Int))=false:=by simp [e4]
 repeat' ((with_reducible first|refine wr ?_|refine cpc hv ?_|refine k_cu ?_ ?_|refine wb2 ?_ ?_<;>(intro hb;try simp only [hb])|fail)<;>try simp only [go_sem,seval,e1',e2',e3',e4'])
 obtain ⟨f1,f2,f3,f4,f5⟩:=valid_fit e1
 have hrest:isStM c s=(decide (scosM s.scores=0) && zipVal c.adjs s.sets && s.counts.all fun n=>inB n 0 999999999):=by simp [isStM,e1,e2,e3,e4]
 rw [hrest]
 refine i_loop (fun k:Nat=>[(2,.ptr 0 0),(3,.ptr 1 0),(5,I64 k)]) (fun _=>(nil.upd 0 ⟨0,true,csB c⟩).upd 1 ⟨0,true,csS s⟩) (fun k cc=>2≤cc∧k≤s.sets.length∧∀ (i:Nat) (a:Adj) v,i<k→c.adjs[i]? = some a→s.sets[i]? = some v→isValM a v=true) (fun k=>s.sets.length-k) 0 (by simp [tmLe,tm,Tm.upd]) (Sub.refl _) ⟨by simp,by simp,fun i a v hi=>absurd hi (by omega)⟩ ?_
 rintro k cc ⟨h2c,hk,he⟩
 by_cases hlt:k<s.sets.length
 ·have hd:decide ((k:Int)<s.sets.length)=true:=by simpa using hlt
  have hg:=List.getElem?_eq_getElem hlt
  have hg2:=List.getElem?_eq_getElem (show k<c.adjs.length by omega)
  have hw:=w64 (n:=(k:Int)+1) (by omega) (by omega)
  have hc:=c_valueR c.adjs[k] s.sets[k] (fit_of_adjM (f4 _ (List.getElem_mem _)))
  have hnx:isValM c.adjs[k] s.sets[k]=true→∀ (i:Nat) (a:Adj) v,i<k+1→c.adjs[i]? = some a→s.sets[i]? = some v→isValM a v=true:=fun hvv i a v hi ha hv=>by
   rcases Nat.lt_or_ge i k with h|h
   ·exact he i a v h ha hv
   ·have:i=k:=by omega
    subst this
    rw [hg2] at ha;rw [hg] at hv;cases ha;cases hv
    exact hvv
  repeat' ((with_reducible first|refine wr ?_|refine cpc hc ?_|refine k_cu ?_ ?_|refine wb2 ?_ ?_<;>(intro hb;try simp only [hb])|fail)<;>try simp only [go_sem,seval,hd,hg,hg2,hw])
  all_goals first
   | (refine pc_ret (congrArg DV.bool ?_);have hz:zipVal c.adjs s.sets=false:=(by rw [Bool.eq_false_iff];intro h;have:=(zipVal_iff _ _ e2.symm).1 h k _ _ hg2 hg;simp_all);rw [hz];simp)
   | exact ⟨k+1,rfl,by first|exact Sub.refl _|(intro j b hj;simp only [Hp.upd,nil] at hj ⊢;split at hj<;>simp_all<;>omega),inv ⟨by omega,by omega,hnx (by simp_all)⟩,by omega⟩
 have hd:decide ((k:Int)<s.sets.length)=false:=by simpa using hlt
 have hz:zipVal c.adjs s.sets=true:=(zipVal_iff _ _ e2.symm).2 fun i a v ha hv=>he i a v (by have:=(List.getElem?_eq_some_iff.1 hv).1;omega) ha hv
 rw [hz]
 clear he
 repeat' ((with_reducible first|refine wr ?_|refine k_cu ?_ ?_|refine wb2 ?_ ?_<;>(intro hb;try simp only [hb])|fail)<;>try simp only [go_sem,seval,hd])
 clear hd hlt hk
 refine i_loop (fun k:Nat=>[(3,.ptr 1 0),(6,I64 k)]) (fun _=>(nil.upd 0 ⟨0,true,csB c⟩).upd 1 ⟨0,true,csS s⟩) (fun k cc=>2≤cc∧k≤s.counts.length∧(s.counts.take k).all (fun n=>inB n 0 999999999)=true) (fun k=>s.counts.length-k) 0 (by simp [tmLe,tm,Tm.upd]) (Sub.refl _) ⟨by omega,by simp,by simp⟩ ?_
 rintro k cc ⟨h2c,hk,he⟩
 by_cases hlt:k<s.counts.length
 ·have hd:decide ((k:Int)<s.counts.length)=true:=by simpa using hlt
  have hg:=List.getElem?_eq_getElem hlt
  have hw:=w64 (n:=(k:Int)+1) (by omega) (by omega)
  generalize s.counts[k]=v at hg
  repeat' ((with_reducible first|refine wr ?_|refine cpc (c_inR _ _ _) ?_|refine k_cu ?_ ?_|refine wb2 ?_ ?_<;>(intro hb;try simp only [hb])|fail)<;>try simp only [go_sem,seval,hd,hg,hw])
  all_goals first
   | (refine pc_ret (congrArg DV.bool ?_);rw [all_fail (fun n=>inB n 0 999999999) s.counts k v hg (by simp_all)];simp)
   | exact ⟨k+1,rfl,by first|exact Sub.refl _|(intro j b hj;simp only [Hp.upd,nil] at hj ⊢;split at hj<;>simp_all<;>omega),inv ⟨by omega,by omega,by rw [all_take (fun n=>inB n 0 999999999) s.counts k v hg he];simp_all⟩,by omega⟩
 ·have hd:decide ((k:Int)<s.counts.length)=false:=by simpa using hlt
  have hall:=all_done (fun n=>inB n 0 999999999) s.counts k (by omega) he
  rw [hall,scos_dec]
  clear hall he hrest f4 hv
  repeat' ((with_reducible first|refine wr ?_|refine cpc hs ?_|refine k_cu ?_ ?_|refine wb2 ?_ ?_<;>(intro hb;try simp only [hb])|fail)<;>try simp only [go_sem,seval,hd])
  all_goals (refine pc_ret (congrArg DV.bool ?_);simp_all)
end Go.Proofs.YtndjhpjcankkaaaGreatDoor
namespace Go.Pb
variable [Go.Sym.Tab]
open Go.Sym
theorem inB_iff {n lo hi:Int}:inB n lo hi=true↔lo≤n∧n≤hi:=by simp [inB]
theorem adj_lim {a:Adj} (h:adjM a=true) : -1000000000≤a.lo∧a.lo≤a.hi∧a.hi≤1000000000∧1≤a.step∧a.step≤1000000000∧isValM a a.dflt=true:=by
 simp only [adjM,Bool.and_eq_true,inB_iff] at h
 obtain ⟨h1,h2,h3,h4⟩:=h
 exact ⟨h1.1,h2.1,h2.2,h3.1,h3.2,h4⟩
def qM (a:Adj):Nat:=((a.hi-a.lo).tdiv a.step).toNat
def atM (a:Adj) (m:Nat):Int:=a.lo+(m:Int) * a.step
theorem tdiv_pos {x y:Int} (h:0≤x) (hy:1≤y):0≤x.tdiv y∧x.tdiv y * y≤x∧x<(x.tdiv y+1) * y:=by
 have e1:x.tdiv y=x / y:=Int.tdiv_eq_ediv_of_nonneg h
 have e2:=Int.emod_add_mul_ediv x y
 have e3:=Int.emod_nonneg x (b:=y) (by omega)
 have e4:=Int.emod_lt_of_pos x (b:=y) (by omega)
 have e5:0≤x / y:=Int.ediv_nonneg h (by omega)
 rw [e1,Int.add_mul,Int.one_mul,Int.mul_comm (x / y) y]
 omega
theorem q_spec {a:Adj} (h:adjM a=true):((qM a:Nat):Int)=(a.hi-a.lo).tdiv a.step∧atM a (qM a)≤a.hi∧a.hi<atM a (qM a+1)∧lastM a=atM a (qM a):=by
 have hl:=adj_lim h
 obtain ⟨d1,d2,d3⟩:=tdiv_pos (x:=a.hi-a.lo) (y:=a.step) (by omega) hl.2.2.2.1
 have hq:((qM a:Nat):Int)=(a.hi-a.lo).tdiv a.step:=by unfold qM;omega
 refine ⟨hq,?_,?_,?_⟩
 ·unfold atM;rw [hq];omega
 ·unfold atM
  rw [show ((qM a+1:Nat):Int)=(a.hi-a.lo).tdiv a.step+1 by omega];omega
 ·unfold atM lastM;rw [hq]
theorem at_lt {a:Adj} (h:adjM a=true) {m n:Nat}:atM a m<atM a n↔m<n:=by
 have hl:=(adj_lim h).2.2.2.1
 unfold atM
 constructor
 ·intro h1
  refine Nat.lt_of_not_le fun h2=>?_
  have:(n:Int) * a.step≤(m:Int) * a.step:=Int.mul_le_mul_of_nonneg_right (by omega) (by omega)
  omega
 ·intro h1
  have:(m:Int) * a.step<(n:Int) * a.step:=Int.mul_lt_mul_of_pos_right (by omega) (by omega)
  omega
theorem at_inj {a:Adj} (h:adjM a=true) {m n:Nat}:atM a m=atM a n↔m=n:=by
 constructor
 ·intro e
  rcases Nat.lt_trichotomy m n with h1|h1|h1
  ·have:=(at_lt h).2 h1;omega
  ·exact h1
  ·have:=(at_lt h).2 h1;omega
 ·rintro rfl;rfl
theorem at_zero (a:Adj):atM a 0=a.lo:=by unfold atM;simp
theorem at_succ (a:Adj) (m:Nat):atM a (m+1)=atM a m+a.step:=by
 unfold atM;rw [show ((m+1:Nat):Int)=(m:Int)+1 by omega,Int.add_mul,Int.one_mul];omega
theorem val_iff {a:Adj} (h:adjM a=true) {v:Int}:isValM a v=true↔∃ m,m≤qM a∧v=atM a m:=by
 have hl:=adj_lim h
 obtain ⟨q1,q2,q3,q4⟩:=q_spec h
 simp only [isValM,Bool.and_eq_true,inB_iff,beq_iff_eq]
 constructor
 ·rintro ⟨⟨h1,h2⟩,h3⟩
  have e1:(v-a.lo).tmod a.step=(v-a.lo) % a.step:=Int.tmod_eq_emod_of_nonneg (by omega)
  rw [e1] at h3
  have e2:=Int.emod_add_mul_ediv (v-a.lo) a.step
  have e5:0≤(v-a.lo) / a.step:=Int.ediv_nonneg (by omega) (by omega)
  have hv:v=atM a ((v-a.lo) / a.step).toNat:=by
   unfold atM
   rw [Int.toNat_of_nonneg e5,Int.mul_comm]
   omega
  refine ⟨((v-a.lo) / a.step).toNat,?_,hv⟩
  have:atM a ((v-a.lo) / a.step).toNat<atM a (qM a+1):=by omega
  have:=(at_lt h).1 this
  omega
 ·rintro ⟨m,hm,rfl⟩
  have h1:atM a 0≤atM a m:=by
   rcases Nat.eq_zero_or_pos m with rfl|h0
   ·exact Int.le_refl _
   ·have:=(at_lt h).2 h0;omega
  have h2:atM a m≤atM a (qM a):=by
   rcases Nat.eq_or_lt_of_le hm with rfl|h0
   ·exact Int.le_refl _
   ·have:=(at_lt h).2 h0;omega
  rw [at_zero] at h1
  refine ⟨⟨h1,by omega⟩,?_⟩
  have:atM a m-a.lo=(m:Int) * a.step:=by unfold atM;omega
  rw [this]
  exact Int.mul_tmod_left _ _
def stepM (q m:Nat) (up:Bool):Nat:=if up then (if m=q then 0 else m+1) else (if m=0 then q else m-1)
theorem step_le {q m:Nat} (h:m≤q) (up:Bool):stepM q m up≤q:=by
 unfold stepM;cases up<;>simp<;>split<;>omega
theorem turn_at {a:Adj} (h:adjM a=true) {m:Nat} (hm:m≤qM a) (up:Bool):turnV a (atM a m) up=atM a (stepM (qM a) m up):=by
 obtain ⟨q1,q2,q3,q4⟩:=q_spec h
 have hl:=adj_lim h
 have hz:=at_zero a
 cases up with
 | true =>
  unfold turnV stepM
  simp only [if_true]
  rw [q4, ← at_succ]
  by_cases e:m=qM a
  ·rw [if_pos e,if_pos ((at_lt h).2 (by omega)),hz]
  ·rw [if_neg e,if_neg (fun c=>by have:=(at_lt h).1 c;omega)]
   rw [if_neg]
   have:=(at_lt h).2 (show 0<m+1 by omega)
   omega
 | false =>
  unfold turnV stepM
  simp only [Bool.false_eq_true,if_false]
  rw [q4]
  by_cases e:m=0
  ·subst e
   rw [if_pos rfl,hz]
   have h2:a.lo≤atM a (qM a):=by
    rcases Nat.eq_zero_or_pos (qM a) with e0|h0
    ·rw [e0,hz];exact Int.le_refl _
    ·have:=(at_lt h).2 h0;omega
   rw [if_neg (by omega),if_pos (by omega)]
  ·obtain ⟨k,rfl⟩:∃ k,m=k+1:=⟨m-1,by omega⟩
   rw [if_neg e,at_succ,show atM a k+a.step-a.step=atM a k by omega,show k+1-1=k by omega]
   have h2:¬ atM a (qM a)<atM a k:=fun c=>by have:=(at_lt h).1 c;omega
   have h3:a.lo≤atM a k:=by
    rcases Nat.eq_zero_or_pos k with e0|h0
    ·rw [e0,hz];exact Int.le_refl _
    ·have:=(at_lt h).2 h0;omega
   rw [if_neg h2,if_neg (by omega)]
theorem step_back {q m:Nat} (h:m≤q) (up:Bool):stepM q (stepM q m up) (!up)=m:=by
 unfold stepM
 cases up with
 | true =>
  simp only [if_true,Bool.not_true,Bool.false_eq_true,if_false]
  by_cases e:m=q
  ·rw [if_pos e,if_pos rfl,e]
  ·rw [if_neg e,if_neg (by omega)];omega
 | false =>
  simp only [Bool.false_eq_true,if_false,Bool.not_false,if_true]
  by_cases e:m=0
  ·rw [if_pos e,if_pos rfl,e]
  ·rw [if_neg e,if_neg (by omega)];omega
def stepsM (q m:Nat) (up:Bool):Nat→Nat
 | 0=>m
 | j+1=>stepM q (stepsM q m up j) up
theorem steps_le {q m:Nat} (h:m≤q) (up:Bool):∀ j,stepsM q m up j≤q
 | 0=>h
 | j+1=>step_le (steps_le h up j) up
theorem steps_up {q m:Nat} (h:m≤q):∀ j,j≤q+1→stepsM q m true j=if m+j≤q then m+j else m+j-(q+1)
 | 0,_=>by simp [stepsM,h]
 | j+1,hj=>by
  rw [stepsM,steps_up h j (by omega),stepM]
  simp only [if_true]
  repeat' split
  all_goals omega
theorem steps_down {q m:Nat} (h:m≤q):∀ j,j≤q+1→stepsM q m false j=if j≤m then m-j else m+(q+1)-j
 | 0,_=>by simp [stepsM]
 | j+1,hj=>by
  rw [stepsM,steps_down h j (by omega),stepM]
  simp only [Bool.false_eq_true,if_false]
  repeat' split
  all_goals omega
theorem steps_round {q m:Nat} (h:m≤q) (up:Bool) {j:Nat} (h1:1≤j) (hj:j≤q+1):stepsM q m up j=m↔j=q+1:=by
 cases up with
 | true=>rw [steps_up h j hj];split<;>omega
 | false=>rw [steps_down h j hj];split<;>omega
theorem valid_adj {c:Book} (h:validBM c=0):(∀ a∈c.adjs,adjM a=true)∧c.adjs.length≤32∧0≤c.cnt∧c.cnt≤32∧c.scores.length≤8∧scosM c.scores=0:=by
 unfold validBM at h
 split at h
 ·omega
 ·rename_i h1
  split at h
  ·omega
  ·rename_i h2
   have h3:inB c.cnt 0 32=true:=by cases e:inB c.cnt 0 32 with|true=>rfl|false=>exact absurd (.inr (.inl e)) h1
   have h3:=inB_iff.1 h3
   have h4:c.adjs.all adjM=true:=by simpa using h2
   exact ⟨fun a ha=>List.all_eq_true.1 h4 a ha,by omega,by omega,by omega,by omega,h⟩
theorem zipVal_iff:∀ {l:List Adj} {r:List Int},l.length=r.length→(zipVal l r=true↔∀ k,k<l.length→isValM (l.getD k A0) (r.getD k 0)=true)
 | [],[],_=>by simp [zipVal]
 | a :: l,v :: r,h=>by
  simp only [zipVal,Bool.and_eq_true,List.length_cons]
  rw [zipVal_iff (l:=l) (r:=r) (by simpa using h)]
  constructor
  ·rintro ⟨h1,h2⟩ k hk
   cases k with
   | zero=>exact h1
   | succ k=>exact h2 k (by omega)
  ·intro h1
   exact ⟨h1 0 (by omega),fun k hk=>h1 (k+1) (by omega)⟩
theorem isSt_iff {c:Book} {s:BSt}:isStM c s=true↔validBM c=0∧s.sets.length=c.adjs.length∧(s.counts.length:Int)=c.cnt∧s.scores.length=c.scores.length∧scosM s.scores=0∧zipVal c.adjs s.sets=true∧∀ n∈s.counts,0≤n∧n≤999999999:=by
 simp only [isStM,Bool.and_eq_true,decide_eq_true_eq,List.all_eq_true,inB_iff]
 constructor
 ·rintro ⟨⟨⟨⟨⟨⟨h1,h2⟩,h3⟩,h4⟩,h5⟩,h6⟩,h7⟩;exact ⟨h1,h2,h3,h4,h5,h6,h7⟩
 ·rintro ⟨h1,h2,h3,h4,h5,h6,h7⟩;exact ⟨⟨⟨⟨⟨⟨h1,h2⟩,h3⟩,h4⟩,h5⟩,h6⟩,h7⟩
theorem getD_set {α : Type} {l:List α} {k j:Nat} {x d : α} (hk:k<l.length):(l.set k x).getD j d=if j=k then x else l.getD j d:=by
 rw [List.getD_eq_getElem?_getD,List.getD_eq_getElem?_getD,List.getElem?_set]
 by_cases e:k=j
 ·subst e;rw [if_pos rfl,if_pos hk,if_pos rfl];rfl
 ·rw [if_neg e,if_neg (fun h=>e h.symm)]
theorem isSt_set {c:Book} {s:BSt} (h:isStM c s=true) {k:Nat} (hk:k<c.adjs.length) {v:Int} (hv:isValM (c.adjs.getD k A0) v=true):isStM c { s with sets:=s.sets.set k v }=true:=by
 rw [isSt_iff] at h ⊢
 obtain ⟨h1,h2,h3,h4,h5,h6,h7⟩:=h
 refine ⟨h1,by simp [h2],h3,h4,h5,?_,h7⟩
 rw [zipVal_iff (by simp [h2])]
 rw [zipVal_iff (by simp [h2])] at h6
 intro j hj
 simp only
 rw [getD_set (by omega)]
 by_cases e:j=k
 ·rw [if_pos e,e];exact hv
 ·rw [if_neg e];exact h6 j hj
theorem chk_ok {c:Book} {s:BSt} (h:isStM c s=true) {i n:Int} (h0:0≤i) (h1:i<n):chkM c s i n=0:=by
 unfold chkM
 rw [if_neg (by simp [h]),if_neg]
 rw [inB_iff.2 ⟨h0,by omega⟩];simp
def turnsM (c:Book) (s:BSt) (k:Nat) (up:Bool):Nat→BSt
 | 0=>s
 | j+1=>(turnM c (turnsM c s k up j) k up).1
theorem turn_ok {c:Book} {s:BSt} (h:isStM c s=true) {k:Nat} (hk:k<c.adjs.length) (up:Bool) :
  turnM c s k up=({ s with sets:=s.sets.set k (turnV (c.adjs.getD k A0) (s.sets.getD k 0) up) },0):=by
 unfold turnM
 rw [chk_ok h (by omega) (by omega),if_neg (by simp)]
 simp
theorem getD_mem {α : Type} {l:List α} {k:Nat} (h:k<l.length) (d : α):l.getD k d∈l:=by
 rw [List.getD_eq_getElem?_getD,List.getElem?_eq_getElem h];exact List.getElem_mem h
theorem st_val {c:Book} {s:BSt} (h:isStM c s=true) {k:Nat} (hk:k<c.adjs.length):adjM (c.adjs.getD k A0)=true∧∃ m,m≤qM (c.adjs.getD k A0)∧s.sets.getD k 0=atM (c.adjs.getD k A0) m:=by
 obtain ⟨h1,h2,h3,h4,h5,h6,h7⟩:=isSt_iff.1 h
 have ha:=(valid_adj h1).1 _ (getD_mem hk A0)
 exact ⟨ha,(val_iff ha).1 ((zipVal_iff (by omega)).1 h6 k hk)⟩
theorem turn_step {c:Book} {s:BSt} (h:isStM c s=true) {k:Nat} (hk:k<c.adjs.length) {m:Nat} (hm:m≤qM (c.adjs.getD k A0)) (up:Bool) :
  turnM c { s with sets:=s.sets.set k (atM (c.adjs.getD k A0) m) } k up=({ s with sets:=s.sets.set k (atM (c.adjs.getD k A0) (stepM (qM (c.adjs.getD k A0)) m up)) },0):=by
 have ha:=(st_val h hk).1
 obtain ⟨h1,h2, -⟩:=isSt_iff.1 h
 have hs:=isSt_set h hk ((val_iff ha).2 ⟨m,hm,rfl⟩)
 rw [turn_ok hs hk]
 simp only
 rw [getD_set (by omega),if_pos rfl,turn_at ha hm,List.set_set]
theorem set_self {s:BSt} {k:Nat} (hk:k<s.sets.length):{ s with sets:=s.sets.set k (s.sets.getD k 0) }=s:=by
 have:s.sets.set k (s.sets.getD k 0)=s.sets:=by
  rw [List.getD_eq_getElem?_getD,List.getElem?_eq_getElem hk]
  exact List.set_getElem_self hk
 rw [this]
theorem turn_turn {c:Book} {s:BSt} (h:isStM c s=true) {k:Nat} (hk:k<c.adjs.length) (up:Bool) :
  (turnM c s k up).2=0∧turnM c (turnM c s k up).1 k (!up)=(s,0):=by
 obtain ⟨ha,m,hm,hv⟩:=st_val h hk
 have h2:=(isSt_iff.1 h).2.1
 have e:{ s with sets:=s.sets.set k (atM (c.adjs.getD k A0) m) }=s:=by rw [← hv];exact set_self (by omega)
 have h1:=turn_step h hk hm up
 rw [e] at h1
 rw [h1]
 refine ⟨rfl,?_⟩
 simp only
 rw [turn_step h hk (step_le hm up),step_back hm,e]
theorem turn_round {c:Book} {s:BSt} (h:isStM c s=true) {k:Nat} (hk:k<c.adjs.length) (up:Bool) {j:Nat} (hj:1≤j) (hn:j≤qM (c.adjs.getD k A0)+1) :
  (turnM c (turnsM c s k up (j-1)) k up).2=0∧isStM c (turnsM c s k up j)=true∧(((turnsM c s k up j).sets.getD k 0=s.sets.getD k 0)↔j=qM (c.adjs.getD k A0)+1)∧(j=qM (c.adjs.getD k A0)+1→turnsM c s k up j=s):=by
 obtain ⟨ha,m,hm,hv⟩:=st_val h hk
 have h2:=(isSt_iff.1 h).2.1
 have e:{ s with sets:=s.sets.set k (atM (c.adjs.getD k A0) m) }=s:=by rw [← hv];exact set_self (by omega)
 have key:∀ i,turnsM c s k up i = { s with sets:=s.sets.set k (atM (c.adjs.getD k A0) (stepsM (qM (c.adjs.getD k A0)) m up i)) }:=by
  intro i
  induction i with
  | zero=>rw [turnsM,stepsM,e]
  | succ i ih=>rw [turnsM,ih,turn_step h hk (steps_le hm up i),stepsM]
 have hr:=steps_round hm up hj hn
 refine ⟨?_,?_,?_,?_⟩
 ·rw [key,turn_step h hk (steps_le hm up _)]
 ·rw [key];exact isSt_set h hk ((val_iff ha).2 ⟨_,steps_le hm up j,rfl⟩)
 ·rw [key, ← hr]
  simp only
  rw [getD_set (by omega),if_pos rfl,hv,at_inj ha]
 ·intro hj2
  rw [key,hr.2 hj2,e]
end Go.Pb
namespace Go.Proofs.YtndjhpjcankkaaaGreatDoor
open Go.Eng (IC IOper DReg IFn IsFn)
open Go.Sym Go.Pb
theorem c_with (l:List Int) (k:Nat) (v:Int) (hk:k<l.length) (hl:l.length≤1000000):PC Tryz.prog 65 [intsV l,I64 k,I64 v] (intsV (l.set k v)):=by
 have hsb:=fun H cc id=>st_int (H:=H) (cc:=cc) (id:=id) (v:=v) hk
 have hia:=fun id=>r_iadsn (id:=id) (off:=0) (l:=l.length) (n:=k) (sz:=1) (k:=.i64) hk
 have hun:=unit_ints l
 refine PC.of mixedU isU65 (Nat.le_of_ble_eq_true rfl) (by simp [DV.nlL,DV.nl,nlL_ints]) (nlL_ints _) ?_
 show IW Tryz.prog 15 u65_1 ⟨argT _,_,_⟩ (rt [.tmp 6] _)
 repeat' ((with_reducible first|refine wr ?_|refine k_cu ?_ ?_|refine wb2 ?_ ?_<;>(intro hb;try simp only [hb])|fail)<;>try simp only [go_sem,seval,hsb,hia,hun])
 refine k_eval (r_appn' (by omega) (by omega) (by omega)) ?_
 simp only [go_sem,seval]
 repeat' ((with_reducible first|refine wr ?_|refine k_cu ?_ ?_|refine wb2 ?_ ?_<;>(intro hb;try simp only [hb])|fail)<;>try simp only [go_sem,seval,hsb,hia])
 exact pc_slc (blk:=⟨1,true,cellsL ((l.set k v).map I64)⟩) (by first|exact h_same|rfl) rfl (by simp) (ints_unit _) ⟨[],by simp⟩
theorem c_SetR (c:Book) (s:BSt) (hl:lenB c) (ht:lenT s) (i v:Int):PC Tryz.prog 31 [c.v,s.v,I64 i,I64 v] (.tup [(setM c s i v).1.v,I64 (setM c s i v).2]):=by
 have hk:=c_IsStateR c s hl ht
 have hla:=hl.1
 refine PC.of mixedU isU31 (Nat.le_of_ble_eq_true rfl) (by simp [DV.nlL,DV.nl,nlL_ints,nlL_scos,nlL_adjs]) (by simp [DV.nlL,DV.nl,nlL_ints,nlL_scos,nlL_adjs]) ?_
 show IW Tryz.prog 47 u31_1 ⟨argT _,_,_⟩ (rt [.cell 8 3 true,.tmp 9] _)
 by_cases e1:isStM c s=true
 rotate_left
 ·have e1:isStM c s=false:=by simpa using e1
  repeat' ((with_reducible first|refine wr ?_|refine cpc hk ?_|refine k_cu ?_ ?_|refine wb2 ?_ ?_<;>(intro hb;try simp only [hb])|fail)<;>try simp only [go_sem,seval,e1])
  have er:setM c s i v=(noSt,1):=by simp [setM,chkM,e1]
  rw [er]
  exact pc_no
 have hw:=w64 (n:=(c.adjs.length:Int)-1) (by omega) (by omega)
 by_cases e2:inB i 0 ((c.adjs.length:Int)-1)=true
 rotate_left
 ·have e2:inB i 0 ((c.adjs.length:Int)-1)=false:=by simpa using e2
  repeat' ((with_reducible first|refine wr ?_|refine cpc hk ?_|refine cpc (c_inR _ _ _) ?_|refine k_cu ?_ ?_|refine wb2 ?_ ?_<;>(intro hb;try simp only [hb])|fail)<;>try simp only [go_sem,seval,e1,hw,e2])
  have er:setM c s i v=(noSt,8):=by simp [setM,chkM,e1,e2]
  rw [er]
  exact pc_no
 have e0:chkM c s i c.adjs.length=0:=by simp [chkM,e1,e2]
 obtain ⟨-,g1,g2⟩:=chk_ok e0
 obtain ⟨s1,s2,s3,s4,s5⟩:=st_fit e1
 obtain ⟨f1,f2,f3,f4,f5⟩:=valid_fit s1
 obtain ⟨k,rfl⟩:∃ k:Nat,i=(k:Int):=⟨i.toNat,by omega⟩
 have hk1:k<c.adjs.length:=by omega
 have hg:=List.getElem?_eq_getElem hk1
 have hgd:c.adjs.getD k A0=c.adjs[k]:=by rw [List.getD_eq_getElem?_getD,hg];rfl
 have hfit:=fit_of_adjM (f4 _ (List.getElem_mem hk1))
 have hiv:=c_valueR c.adjs[k] v hfit
 have er:∀ r,setM c s (k:Int) v=r↔(if isValM c.adjs[k] v=false then (noSt,5) else ({ s with sets:=s.sets.set k v },0))=r:=fun r=>by
  simp only [setM,ne_eq,e0,not_true_eq_false,if_false,Int.toNat_natCast,hgd]
 by_cases e4:inB v (-1000000000) 1000000000=true
 rotate_left
 ·have e4':inB v (-1000000000) 1000000000=false:=by simpa using e4
  have e3:isValM c.adjs[k] v=false:=by
   rw [Bool.eq_false_iff];intro h;apply e4
   obtain ⟨y1,y2,y3,y4,y5⟩:=hfit
   simp [isValM,inB] at h ⊢;omega
  repeat' ((with_reducible first|refine wr ?_|refine cpc hk ?_|refine cpc (c_inR _ _ _) ?_|refine cpc hiv ?_|refine k_cu ?_ ?_|refine wb2 ?_ ?_<;>(intro hb;try simp only [hb])|fail)<;>try simp only [go_sem,seval,e1,hw,e2,e4',hg])
  rw [(er _).2 (by rw [if_pos e3])]
  exact pc_no
 by_cases e3:isValM c.adjs[k] v=true
 rotate_left
 ·have e3:isValM c.adjs[k] v=false:=by simpa using e3
  repeat' ((with_reducible first|refine wr ?_|refine cpc hk ?_|refine cpc (c_inR _ _ _) ?_|refine cpc hiv ?_|refine k_cu ?_ ?_|refine wb2 ?_ ?_<;>(intro hb;try simp only [hb])|fail)<;>try simp only [go_sem,seval,e1,hw,e2,e4,hg,e3])
  rw [(er _).2 (by rw [if_pos e3])]
  exact pc_no
 have hwi:=c_with s.sets k v (by omega) (by omega)
 repeat' ((with_reducible first|refine wr ?_|refine cpc hk ?_|refine cpc (c_inR _ _ _) ?_|refine cpc hiv ?_|refine cpc hwi ?_|refine k_cu ?_ ?_|refine wb2 ?_ ?_<;>(intro hb;try simp only [hb])|fail)<;>try simp only [go_sem,seval,e1,hw,e2,e4,hg,e3])
 rw [(er _).2 (by rw [if_neg (by simp [e3])])]
 exact pc_ret rfl
theorem c_AddR (c:Book) (s:BSt) (hl:lenB c) (ht:lenT s) (i n:Int):PC Tryz.prog 39 [c.v,s.v,I64 i,I64 n] (.tup [(addM c s i n).1.v,I64 (addM c s i n).2]):=by
 have hk:=c_IsStateR c s hl ht
 refine PC.of mixedU isU39 (Nat.le_of_ble_eq_true rfl) (by simp [DV.nlL,DV.nl,nlL_ints,nlL_scos,nlL_adjs]) (by simp [DV.nlL,DV.nl,nlL_ints,nlL_scos,nlL_adjs]) ?_
 show IW Tryz.prog 43 u39_1 ⟨argT _,_,_⟩ (rt [.cell 8 3 true,.tmp 9] _)
 by_cases e1:isStM c s=true
 rotate_left
 ·have e1:isStM c s=false:=by simpa using e1
  repeat' ((with_reducible first|refine wr ?_|refine cpc hk ?_|refine k_cu ?_ ?_|refine wb2 ?_ ?_<;>(intro hb;try simp only [hb])|fail)<;>try simp only [go_sem,seval,e1])
  have er:addM c s i n=(noSt,1):=by simp [addM,chkM,e1]
  rw [er]
  exact pc_no
 obtain ⟨s1,s2,s3,s4,s5⟩:=st_fit e1
 obtain ⟨f1,f2,f3,f4,f5⟩:=valid_fit s1
 have hw:=w64 (n:=c.cnt-1) (by omega) (by omega)
 by_cases e2:inB i 0 (c.cnt-1)=true
 rotate_left
 ·have e2:inB i 0 (c.cnt-1)=false:=by simpa using e2
  repeat' ((with_reducible first|refine wr ?_|refine cpc hk ?_|refine cpc (c_inR _ _ _) ?_|refine k_cu ?_ ?_|refine wb2 ?_ ?_<;>(intro hb;try simp only [hb])|fail)<;>try simp only [go_sem,seval,e1,hw,e2])
  have er:addM c s i n=(noSt,8):=by simp [addM,chkM,e1,e2]
  rw [er]
  exact pc_no
 have e0:chkM c s i c.cnt=0:=by simp [chkM,e1,e2]
 obtain ⟨-,g1,g2⟩:=chk_ok e0
 by_cases e3:inB n 0 999999999=true
 rotate_left
 ·have e3:inB n 0 999999999=false:=by simpa using e3
  repeat' ((with_reducible first|refine wr ?_|refine cpc hk ?_|refine cpc (c_inR _ _ _) ?_|refine k_cu ?_ ?_|refine wb2 ?_ ?_<;>(intro hb;try simp only [hb])|fail)<;>try simp only [go_sem,seval,e1,hw,e2,e3])
  have er:addM c s i n=(noSt,5):=by simp [addM,e0,e3]
  rw [er]
  exact pc_no
 obtain ⟨k,rfl⟩:∃ k:Nat,i=(k:Int):=⟨i.toNat,by omega⟩
 have hks:k<s.counts.length:=by omega
 have hg:=List.getElem?_eq_getElem hks
 have hgd:s.counts.getD k 0=s.counts[k]:=by rw [List.getD_eq_getElem?_getD,hg];rfl
 have hn:0≤n∧n≤999999999:=by simpa [inB] using e3
 have hv:0≤s.counts[k]∧s.counts[k]≤999999999:=by
  simp only [isStM,Bool.and_eq_true] at e1
  have:=List.all_eq_true.1 e1.2 _ (List.getElem_mem hks)
  simpa [inB] using this
 have hwn:=w64 (n:=s.counts[k]+n) (by omega) (by omega)
 have hset:addM c s (k:Int) n=(⟨s.sets,s.counts.set k (min (s.counts[k]+n) 999999999),s.scores⟩,0):=by
  simp only [addM,ne_eq,e0,not_true_eq_false,if_false,Int.toNat_natCast,hgd,e3,Bool.true_eq_false]
 rw [hset,show min (s.counts[k]+n) 999999999=if 999999999<s.counts[k]+n then 999999999 else s.counts[k]+n by rw [Int.min_def];split<;>split<;>omega]
 repeat' ((with_reducible first|refine wr ?_|refine cpc hk ?_|refine cpc (c_inR _ _ _) ?_|refine cpc (c_with s.counts k _ hks (by omega)) ?_|refine k_cu ?_ ?_|refine wb2 ?_ ?_<;>(intro hb;try simp only [hb])|fail)<;>try simp only [go_sem,seval,e1,hw,e2,e3,hg,hwn])
 all_goals exact pc_ret rfl
theorem lastR_eq {a:Adj}:a.hi-(a.hi-a.lo).tmod a.step=lastM a:=by
 unfold lastM
 have:=Int.tmod_add_mul_tdiv (a.hi-a.lo) a.step
 rw [Int.mul_comm] at this
 omega
theorem turn_up {a:Adj} (h:adjM a=true) {v:Int} (hv:isValM a v=true):turnV a v true=if v=lastM a then a.lo else v+a.step:=by
 obtain ⟨q1,q2,q3,q4⟩:=q_spec h
 obtain ⟨m,hm,rfl⟩:=(val_iff h).1 hv
 have h0:=at_zero a
 have hl0:atM a 0≤atM a (m+1):=Int.le_of_lt ((at_lt h).2 (by omega))
 simp only [turnV,if_true, ← at_succ,q4,at_inj h,at_lt h]
 by_cases e:m=qM a
 ·rw [if_pos (by omega),if_pos e]
 ·rw [if_neg (by omega),if_neg e,if_neg (by omega)]
theorem turn_down {a:Adj} (h:adjM a=true) {v:Int} (hv:isValM a v=true):turnV a v false=if v=a.lo then lastM a else v-a.step:=by
 obtain ⟨q1,q2,q3,q4⟩:=q_spec h
 obtain ⟨m,hm,rfl⟩:=(val_iff h).1 hv
 have h0:=at_zero a
 have hst:=(adj_lim h).2.2.2.1
 have hl:a.lo≤lastM a:=by
  rw [q4, ← h0]
  rcases Nat.eq_zero_or_pos (qM a) with e|e
  ·rw [e];omega
  ·exact Int.le_of_lt ((at_lt h).2 e)
 simp only [turnV,Bool.false_eq_true,if_false]
 cases m with
 | zero =>
  rw [h0,if_pos rfl,if_neg (by omega),if_pos (by omega)]
 | succ j =>
  have e1:atM a (j+1)-a.step=atM a j:=by rw [at_succ];omega
  have e2:atM a 0<atM a (j+1):=(at_lt h).2 (by omega)
  have e3:¬ atM a j<a.lo:=by
   rw [← h0,at_lt h];omega
  rw [e1,q4,if_neg (by rw [at_lt h];omega),if_neg e3,if_neg (by omega)]
theorem c_TurnR (c:Book) (s:BSt) (hl:lenB c) (ht:lenT s) (i:Int) (up:Bool):PC Tryz.prog 32 [c.v,s.v,I64 i,.bool up] (.tup [(turnM c s i up).1.v,I64 (turnM c s i up).2]):=by
 have hk:=c_IsStateR c s hl ht
 have hla:=hl.1
 refine PC.of mixedU isU32 (Nat.le_of_ble_eq_true rfl) (by simp [DV.nlL,DV.nl,nlL_ints,nlL_scos,nlL_adjs]) (by simp [DV.nlL,DV.nl,nlL_ints,nlL_scos,nlL_adjs]) ?_
 show IW Tryz.prog 81 u32_1 ⟨argT _,_,_⟩ (rt [.cell 8 3 true,.tmp 9] _)
 by_cases e1:isStM c s=true
 rotate_left
 ·have e1:isStM c s=false:=by simpa using e1
  repeat' ((with_reducible first|refine wr ?_|refine cpc hk ?_|refine k_cu ?_ ?_|refine wb2 ?_ ?_<;>(intro hb;try simp only [hb])|fail)<;>try simp only [go_sem,seval,e1])
  have er:turnM c s i up=(noSt,1):=by simp [turnM,chkM,e1]
  rw [er]
  exact pc_no
 have hw:=w64 (n:=(c.adjs.length:Int)-1) (by omega) (by omega)
 by_cases e2:inB i 0 ((c.adjs.length:Int)-1)=true
 rotate_left
 ·have e2:inB i 0 ((c.adjs.length:Int)-1)=false:=by simpa using e2
  repeat' ((with_reducible first|refine wr ?_|refine cpc hk ?_|refine cpc (c_inR _ _ _) ?_|refine k_cu ?_ ?_|refine wb2 ?_ ?_<;>(intro hb;try simp only [hb])|fail)<;>try simp only [go_sem,seval,e1,hw,e2])
  have er:turnM c s i up=(noSt,8):=by simp [turnM,chkM,e1,e2]
  rw [er]
  exact pc_no
 have e0:chkM c s i c.adjs.length=0:=by simp [chkM,e1,e2]
 obtain ⟨-,g1,g2⟩:=chk_ok e0
 obtain ⟨s1,s2,s3,s4,s5⟩:=st_fit e1
 obtain ⟨f1,f2,f3,f4,f5⟩:=valid_fit s1
 obtain ⟨k,rfl⟩:∃ k:Nat,i=(k:Int):=⟨i.toNat,by omega⟩
 have hk1:k<c.adjs.length:=by omega
 have hks:k<s.sets.length:=by omega
 have hg:=List.getElem?_eq_getElem hk1
 have hg2:=List.getElem?_eq_getElem hks
 have hgd:c.adjs.getD k A0=c.adjs[k]:=by rw [List.getD_eq_getElem?_getD,hg];rfl
 have hgd2:s.sets.getD k 0=s.sets[k]:=by rw [List.getD_eq_getElem?_getD,hg2];rfl
 have hadj:=f4 _ (List.getElem_mem hk1)
 have hfit:=fit_of_adjM hadj
 have hval:isValM c.adjs[k] s.sets[k]=true:=by
  have hz:zipVal c.adjs s.sets=true:=by
   simp only [isStM,Bool.and_eq_true] at e1;exact e1.1.2
  exact (zipVal_iff _ _ s2.symm).1 hz k _ _ hg hg2
 have hin:c.adjs[k].lo≤s.sets[k]∧s.sets[k]≤c.adjs[k].hi:=by
  have hval2:=hval
  simp only [isValM,inB,Bool.and_eq_true,decide_eq_true_eq] at hval2;exact hval2.1
 obtain ⟨b0,b1,b2,b3⟩:=last_fit hfit
 have hset:∀ up,(turnM c s (k:Int) up)=(⟨s.sets.set k (turnV c.adjs[k] s.sets[k] up),s.counts,s.scores⟩,0):=fun up=>by
  simp only [turnM,ne_eq,e0,not_true_eq_false,if_false,Int.toNat_natCast,hgd,hgd2]
 rw [hset]
 have hu1:=turn_up hadj hval
 have hu2:=turn_down hadj hval
 have hwi:=fun v=>c_with s.sets k v hks (by omega)
 clear hgd hgd2 hval hset hadj
 generalize hA:c.adjs[k]=a at *
 generalize hV:s.sets[k]=v0 at *
 obtain ⟨y1,y2,y3,y4,y5⟩:=hfit
 have hlr:=lastR_eq (a:=a)
 have hlm:a.lo≤lastM a∧lastM a≤a.hi:=by unfold lastM;omega
 have q1:=w64 (n:=a.hi-a.lo) (by omega) (by omega)
 have q2:binR .rem (I64 (a.hi-a.lo)) (I64 a.step)=some (I64 ((a.hi-a.lo).tmod a.step)):=r_rem (by omega)
 have q3:IntKind.i64.wrap (a.hi-(a.hi-a.lo).tmod a.step)=lastM a:=by rw [hlr];exact w64 (by omega) (by omega)
 have q5:=w64 (n:=v0-a.step) (by omega) (by omega)
 have q6:=w64 (n:=v0+a.step) (by omega) (by omega)
 cases up
 ·rw [hu2]
  by_cases e5:v0=a.lo
  ·have e5':(v0 == a.lo)=true:=by simpa using e5
   repeat' ((with_reducible first|refine wr ?_|refine cpc hk ?_|refine cpc (c_inR _ _ _) ?_|refine cpc (hwi _) ?_|refine k_cu ?_ ?_|refine wb2 ?_ ?_<;>(intro hb;try simp only [hb])|fail)<;>try simp only [go_sem,seval,e1,hw,e2,hg,hg2,q1,q2,q3,q5,q6,e5'])
   rw [if_pos e5]
   exact pc_ret rfl
  ·have e5':(v0 == a.lo)=false:=by simpa using e5
   repeat' ((with_reducible first|refine wr ?_|refine cpc hk ?_|refine cpc (c_inR _ _ _) ?_|refine cpc (hwi _) ?_|refine k_cu ?_ ?_|refine wb2 ?_ ?_<;>(intro hb;try simp only [hb])|fail)<;>try simp only [go_sem,seval,e1,hw,e2,hg,hg2,q1,q2,q3,q5,q6,e5'])
   rw [if_neg e5]
   exact pc_ret rfl
 ·rw [hu1]
  by_cases e5:v0=lastM a
  ·have e5':(v0 == lastM a)=true:=by simpa using e5
   repeat' ((with_reducible first|refine wr ?_|refine cpc hk ?_|refine cpc (c_inR _ _ _) ?_|refine cpc (hwi _) ?_|refine k_cu ?_ ?_|refine wb2 ?_ ?_<;>(intro hb;try simp only [hb])|fail)<;>try simp only [go_sem,seval,e1,hw,e2,hg,hg2,q1,q2,q3,q5,q6,e5'])
   rw [if_pos e5]
   exact pc_ret rfl
  ·have e5':(v0 == lastM a)=false:=by simpa using e5
   repeat' ((with_reducible first|refine wr ?_|refine cpc hk ?_|refine cpc (c_inR _ _ _) ?_|refine cpc (hwi _) ?_|refine k_cu ?_ ?_|refine wb2 ?_ ?_<;>(intro hb;try simp only [hb])|fail)<;>try simp only [go_sem,seval,e1,hw,e2,hg,hg2,q1,q2,q3,q5,q6,e5'])
   rw [if_neg e5]
   exact pc_ret rfl
end Go.Proofs.YtndjhpjcankkaaaGreatDoor
namespace Go.Proofs.YtndjhpjcankkaaaGreatDoor
open Go.Eng (IC IOper DReg IFn IsFn)
open Go.Sym Go.Pb
theorem place_step {p:Int} {l:List Sco} {k:Nat} {y:Sco} (hg:l[k]? = some y) (he:placeM p l=k+placeM p (l.drop k)):(y.points<p→placeM p l=k)∧(¬ y.points<p→placeM p l=k+1+placeM p (l.drop (k+1))):=by
 have hd:l.drop k=y :: l.drop (k+1):=by
  have hk:=(List.getElem?_eq_some_iff.1 hg)
  rw [List.drop_eq_getElem_cons hk.1,hk.2]
 rw [hd,placeM] at he
 constructor
 ·intro h;rw [if_pos h] at he;omega
 ·intro h;rw [if_neg h] at he;omega
theorem c_EnterR (c:Book) (s:BSt) (hl:lenB c) (ht:lenT s) (x:Sco) (hx:x.name.length≤9223372036854775807):PC Tryz.prog 42 [c.v,s.v,x.v] (.tup [(enterM c s x).1.v,I64 (enterM c s x).2.1,I64 (enterM c s x).2.2]):=by
 have hk:=c_IsStateR c s hl ht
 have hsx:=c_scoreR x hx
 refine PC.of mixedU isU42 (Nat.le_of_ble_eq_true rfl) (by simp [DV.nlL,DV.nl,nlL_ints,nlL_scos,nlL_adjs]) (by simp [DV.nlL,DV.nl,nlL_ints,nlL_scos,nlL_adjs]) ?_
 show IW Tryz.prog 68 u42_1 ⟨argT _,_,_⟩ (rt [.cell 6 3 true,.tmp 7,.tmp 8] _)
 by_cases e1:isStM c s=true
 rotate_left
 ·have e1:isStM c s=false:=by simpa using e1
  repeat' ((with_reducible first|refine wr ?_|refine cpc hk ?_|refine k_cu ?_ ?_|refine wb2 ?_ ?_<;>(intro hb;try simp only [hb])|fail)<;>try simp only [go_sem,seval,e1])
  have er:enterM c s x=(noSt,0,1):=by simp [enterM,e1]
  rw [er]
  exact pc_no
 by_cases e2:isScoM x=true
 rotate_left
 ·have e2:isScoM x=false:=by simpa using e2
  repeat' ((with_reducible first|refine wr ?_|refine cpc hk ?_|refine cpc hsx ?_|refine k_cu ?_ ?_|refine wb2 ?_ ?_<;>(intro hb;try simp only [hb])|fail)<;>try simp only [go_sem,seval,e1,e2])
  have er:enterM c s x=(noSt,0,6):=by simp [enterM,e1,e2]
  rw [er]
  exact pc_no
 obtain ⟨s1,s2,s3,s4,s5⟩:=st_fit e1
 obtain ⟨f1,f2,f3,f4,f5⟩:=valid_fit s1
 repeat' ((with_reducible first|refine wr ?_|refine cpc hk ?_|refine cpc hsx ?_|refine k_cu ?_ ?_|refine wb2 ?_ ?_<;>(intro hb;try simp only [hb])|fail)<;>try simp only [go_sem,seval,e1,e2])
 refine i_loop (fun k:Nat=>[(4,.ptr 1 0),(5,.ptr 2 0),(6,.ptr 3 0),(9,I64 k)]) (fun _=>(((nil.upd 0 ⟨0,true,csB c⟩).upd 1 ⟨0,true,csS s⟩).upd 2 ⟨0,true,[.str x.name,I64 x.points]⟩).upd 3 ⟨0,true,[.snil,.snil,.snil]⟩) (fun k cc=>4≤cc∧k≤s.scores.length∧placeM x.points s.scores=k+placeM x.points (s.scores.drop k)) (fun k=>s.scores.length-k) 0 (by simp [tmLe,tm,Tm.upd]) (Sub.refl _) ⟨by omega,by simp,by simp⟩ ?_
 rintro k cc ⟨h4c,hkl,he⟩
 have hcount:∀ p:Nat,placeM x.points s.scores=p→p<s.scores.length→enterM c s x=(⟨s.sets,s.counts,s.scores.take p++x :: (s.scores.drop p).take (s.scores.length-1-p)⟩,(p:Int),0):=fun p hp hlt=>by
  simp only [enterM,e1,e2,hp,Bool.true_eq_false,if_false]
  rw [if_neg (by omega),List.take_append,List.length_take,Nat.min_eq_left (by omega),List.take_of_length_le (by rw [List.length_take];omega)]
  congr 4
  rw [show s.scores.length-p=(s.scores.length-1-p)+1 by omega,List.take_succ_cons]
 by_cases hlt:k<s.scores.length
 ·have hd:decide ((k:Int)<s.scores.length)=true:=by simpa using hlt
  have hg:=List.getElem?_eq_getElem hlt
  have hw:IntKind.i64.wrap ((k:Int)+1)=((k+1:Nat):Int):=by rw [w64 (by omega) (by omega)];omega
  have hne:((k:Int) == (s.scores.length:Int))=false:=by simp;omega
  have hst:=place_step hg he
  generalize s.scores[k]=y at hg hst
  by_cases hy:y.points<x.points
  ·have hy':decide (y.points≥x.points)=false:=by simp;omega
   have hp:=hst.1 hy
   rw [hcount k hp hlt]
   have hs1:∀ H,slcR H 2 (scosV s.scores) none (some (I64 (k:Int)))=some (scosV (s.scores.take k)):=fun H=>by
    rw [show scosV (s.scores.take k)=.lst ((s.scores.map Sco.v).take k) by simp [List.map_take]]
    exact slc_to (by rw [List.length_map];omega) (unit_scos _)
   have hwn:IntKind.i64.wrap ((s.scores.length:Int)-1)=((s.scores.length-1:Nat):Int):=by rw [w64 (by omega) (by omega)];omega
   have hs2:∀ H,slcR H 2 (scosV s.scores) (some (I64 (k:Int))) (some (I64 ((s.scores.length-1:Nat):Int)))=some (scosV ((s.scores.drop k).take (s.scores.length-1-k))):=fun H=>by
    simp only [slcR,boundOf,Int.natCast_nonneg,if_true,Int.toNat_natCast,unit_scos,List.length_map,and_true]
    rw [if_pos ⟨by omega,by omega⟩];simp [List.map_take,List.map_drop]
   have hun:=unit_scos
   have hrl:((s.scores.drop k).take (s.scores.length-1-k)).length=s.scores.length-1-k:=by rw [List.length_take,List.length_drop];omega
   have htk:(s.scores.take k).length=k:=by rw [List.length_take];omega
   have hcl:∀ l:List Sco,(cellsL (l.map Sco.v)).length=l.length * 2:=scos_len
   rcases Nat.eq_zero_or_pos k with hk0|hk0
   ·have ha1:∀ H cc,apX H cc 2 24 .snil (srcOf H 2 (scosV (s.scores.take k)))=some (.snil,H,cc):=fun H cc=>by rw [hk0];rfl
    have ne0:=nes6 1 2 3 (cc+16) (cc+16+1) (cc+16+1+1) (by omega)
    repeat' ((with_reducible first|refine wr ?_|refine k_cu ?_ ?_|refine wb2 ?_ ?_<;>(intro hb;try simp only [hb])|fail)<;>try simp only [go_sem,seval,hd,hg,hw,hy',hne,hs1,hwn,hs2,ha1,ne0])
    refine k_eval (r_appn' (by omega) (by omega) (by omega)) ?_
    simp only [go_sem,seval,ne0]
    repeat' ((with_reducible first|refine wr ?_|refine k_cu ?_ ?_|refine wb2 ?_ ?_<;>(intro hb;try simp only [hb])|fail)<;>try simp only [go_sem,seval,hwn,hs2,hun,ne0])
    refine k_eval (b_appx rfl (by rw [hrl];omega) (by rw [hrl];omega)) ?_
    simp only [go_sem,seval,ne0]
    repeat' ((with_reducible first|refine wr ?_|refine k_cu ?_ ?_|refine wb2 ?_ ?_<;>(intro hb;try simp only [hb])|fail)<;>try simp only [go_sem,seval,ne0])
    refine pc_stC (u:=2) (xs:=(s.scores.take k++x :: (s.scores.drop k).take (s.scores.length-1-k)).map Sco.v) (blk:=⟨2,true,[.str x.name,I64 x.points]++cellsL (((s.scores.drop k).take (s.scores.length-1-k)).map Sco.v)⟩) (by dsimp only;repeat (first|exact h_same|rw [h_ne (by omega)])) rfl ?_ (scos_unit _) ⟨[],?_⟩
    ·rw [List.length_map,List.length_append,htk,List.length_cons];omega
    ·rw [hk0,List.append_nil];rfl
   ·skip
    have ne0:=nes7 1 2 3 (cc+16) (cc+16+1) (cc+16+1+1) (cc+16+1+1+1) (by omega)
    repeat' ((with_reducible first|refine wr ?_|refine k_cu ?_ ?_|refine wb2 ?_ ?_<;>(intro hb;try simp only [hb])|fail)<;>try simp only [go_sem,seval,hd,hg,hw,hy',hne,hs1,hwn,hs2,hun,ne0])
    refine k_eval (r_appn' (by omega) (by omega) (by omega)) ?_
    simp only [go_sem,seval,ne0]
    repeat' ((with_reducible first|refine wr ?_|refine k_cu ?_ ?_|refine wb2 ?_ ?_<;>(intro hb;try simp only [hb])|fail)<;>try simp only [go_sem,seval,hwn,hs2,hun,ne0])
    refine k_eval (b_appx (scos_len _) (by rw [htk];omega) (by rw [htk];omega)) ?_
    simp only [go_sem,seval,ne0]
    repeat' ((with_reducible first|refine wr ?_|refine k_cu ?_ ?_|refine wb2 ?_ ?_<;>(intro hb;try simp only [hb])|fail)<;>try simp only [go_sem,seval,hwn,hs2,hun,ne0])
    refine k_eval (b_appx (by rw [List.length_append,scos_len];simp;omega) (by rw [hrl,htk];omega) (by rw [hrl,htk];omega)) ?_
    simp only [go_sem,seval,ne0]
    repeat' ((with_reducible first|refine wr ?_|refine k_cu ?_ ?_|refine wb2 ?_ ?_<;>(intro hb;try simp only [hb])|fail)<;>try simp only [go_sem,seval,ne0])
    refine pc_stC (u:=2) (xs:=(s.scores.take k++x :: (s.scores.drop k).take (s.scores.length-1-k)).map Sco.v) (blk:=⟨2,true,cellsL ((s.scores.take k).map Sco.v)++[.str x.name,I64 x.points]++cellsL (((s.scores.drop k).take (s.scores.length-1-k)).map Sco.v)⟩) (by dsimp only;repeat (first|exact h_same|rw [h_ne (by omega)])) rfl ?_ (scos_unit _) ⟨[],?_⟩
    ·rw [List.length_map,List.length_append,List.length_cons];omega
    ·rw [List.append_nil,List.map_append,List.map_cons,cellsL_append,List.append_assoc];rfl
  ·have hy':decide (y.points≥x.points)=true:=by simp;omega
   repeat' ((with_reducible first|refine wr ?_|refine k_cu ?_ ?_|refine wb2 ?_ ?_<;>(intro hb;try simp only [hb])|fail)<;>try simp only [go_sem,seval,hd,hg,hw,hy'])
   exact ⟨k+1,rfl,Sub.refl _,inv ⟨by omega,by omega,hst.2 hy⟩,by omega⟩
 ·have hd:decide ((k:Int)<s.scores.length)=false:=by simpa using hlt
  have hkk:k=s.scores.length:=by omega
  have hp:placeM x.points s.scores=s.scores.length:=by rw [he,hkk,List.drop_length];rfl
  have hee:((k:Int) == (s.scores.length:Int))=true:=by simp;omega
  have er:enterM c s x=(s, -1,0):=by simp [enterM,e1,e2,hp]
  rw [er]
  repeat' ((with_reducible first|refine wr ?_|refine k_cu ?_ ?_|refine wb2 ?_ ?_<;>(intro hb;try simp only [hb])|fail)<;>try simp only [go_sem,seval,hd,hee])
  exact pc_ret rfl
end Go.Proofs.YtndjhpjcankkaaaGreatDoor
namespace Go.Proofs.YtndjhpjcankkaaaGreatDoor
open Go.Eng (IC IOper DReg IFn IsFn)
open Go.Sym Go.Pb
theorem c_NewR (c:Book) (hl:lenB c):PC Tryz.prog 29 [c.v] (.tup [(newM c).1.v,I64 (newM c).2]):=by
 have hv:=c_validR c hl
 refine PC.of mixedU isU29 (Nat.le_of_ble_eq_true rfl) (by simp [DV.nlL,DV.nl,nlL_ints,nlL_scos,nlL_adjs]) (by simp [DV.nlL,DV.nl,nlL_ints,nlL_scos,nlL_adjs]) ?_
 show IW Tryz.prog 39 u29_1 ⟨argT _,_,_⟩ (rt [.cell 2 3 true,.tmp 3] _)
 by_cases e1:validBM c=0
 rotate_left
 ·have e1':(validBM c != 0)=true:=by simpa using e1
  repeat' ((with_reducible first|refine wr ?_|refine cpc hv ?_|refine k_cu ?_ ?_|refine wb2 ?_ ?_<;>(intro hb;try simp only [hb])|fail)<;>try simp only [go_sem,seval,e1'])
  simp only [newM,if_neg e1]
  exact pc_no
 have e1':(validBM c != 0)=false:=by simpa using e1
 obtain ⟨f1,f2,f3,f4,f5⟩:=valid_fit e1
 obtain ⟨m,hm⟩:∃ m:Nat,c.cnt=(m:Int):=⟨c.cnt.toNat,by omega⟩
 have hm32:m≤32:=by omega
 have hms:mslR 1 8 [DV.int .i64 0] (I64 c.cnt) (I64 c.cnt)=some (some m,⟨1,true,List.replicate m (I64 0)⟩):=by rw [hm, ← madeL_one];exact r_msl (by omega) (by omega) rfl rfl
 have hun:=unit_scos c.scores
 repeat' ((with_reducible first|refine wr ?_|refine cpc hv ?_|refine k_cu ?_ ?_|refine wb2 ?_ ?_<;>(intro hb;try simp only [hb])|fail)<;>try simp only [go_sem,seval,e1',hms,hun])
 obtain ⟨B,hB⟩:∃ B:Hp,B=(Sym.nil.upd 0 ⟨0,true,csB c⟩).upd 1 ⟨0,true,[.snil,.snil,.snil]⟩:=⟨_,rfl⟩
 have hB0:B 0=some ⟨0,true,csB c⟩:=by rw [hB];rfl
 have hB1:B 1=some ⟨0,true,[.snil,.snil,.snil]⟩:=by rw [hB];rfl
 have hBn:∀ j,2≤j→B j=none:=fun j hj=>by rw [hB,h_ne (by omega),h_ne (by omega)];rfl
 have hsub:∀ (X:Hp) j q,((B.upd 9 ⟨0,true,csB c⟩) j=some q)→j=0∨j=1∨j=9:=fun X j q h=>by
  by_cases e9:j=9
  ·exact .inr (.inr e9)
  ·rw [h_ne e9] at h
   by_cases h2:2≤j
   ·rw [hBn j h2] at h;cases h
   ·omega
 have hend:∀ (o:Option Nat) (H:Hp) (T:Tm) (c':Nat),(o=none→c.scores=[])→(∀ i,o=some i→i=11∧12≤c')→11≤c'→T 1=.ptr 0 0→T 2=.ptr 1 0→T 5=.ptr 9 0 →
   H 0=some ⟨0,true,csB c⟩→H 1=some ⟨0,true,[.snil,.snil,.snil]⟩→H 9=some ⟨0,true,[.snil,.slc 4 0 m,todoV o c.scores.length]⟩→H 4=some ⟨1,true,List.replicate m (I64 0)⟩ →
   (∀ i,o=some i→H i=some ⟨2,true,cellsL (c.scores.map Sco.v)⟩)→IW Tryz.prog 39 u29_8 ⟨T,H,c'⟩ (rt [Eng.RV.cell 2 3 true,Eng.RV.tmp 3] fun v H' x => ∃ H2,GL H' [v] H2 [DV.tup [(newM c).fst.v,I64 (newM c).snd]]):=by
  intro o H T c' hno ho hc t1 t2 t5 k0 k1 k9 k4 ko
  refine IW.weaken (T':=tm [(1,.ptr 0 0),(2,.ptr 1 0),(5,.ptr 9 0)]) (H':=optH ((optH B o ⟨2,true,cellsL (c.scores.map Sco.v)⟩).upd 9 ⟨0,true,[.snil]++[todoV (some 4) m]++[todoV o c.scores.length]⟩) (some 4) ⟨1,true,cellsL ((List.replicate m (0:Int)).map I64)⟩) (tm_le (by simp [tmLe,t1,t2,t5])) ?_ ?_
  ·intro j q hj
   simp only [optH] at hj
   by_cases e4:j=4
   ·subst e4;rw [h_same,cells_ints] at hj;rw [k4, ← hj];simp
   rw [h_ne e4] at hj
   by_cases e9:j=9
   ·subst e9;rw [h_same] at hj;rw [k9, ← hj];rfl
   rw [h_ne e9] at hj
   have hBj:B j=some q→H j=some q:=fun h=>by
    by_cases h2:2≤j
    ·rw [hBn j h2] at h;cases h
    ·have:j=0∨j=1:=by omega
     rcases this with rfl|rfl
     ·rw [k0, ← h,hB0]
     ·rw [k1, ← h,hB1]
   cases o with
   | none=>exact hBj hj
   | some i =>
    simp only at hj
    by_cases ei:j=i
    ·subst ei;rw [h_same] at hj;rw [ko j rfl, ← hj]
    ·rw [h_ne ei] at hj;exact hBj hj
  have hBo:∀ j,2≤j→j≠11→optH B o ⟨2,true,cellsL (c.scores.map Sco.v)⟩ j=none:=fun j h2 h11=>by
   rw [optH_ne (fun i hi=>by have:=ho i hi;omega),hBn j h2]
  refine IW.keep [1,2,5] [.ptr 0 0,.ptr 1 0,.ptr 9 0] (g_fin (u:=1) (by simp [todoV,DV.one];cases o<;>rfl) (fun h=>by cases h) (fun i hi=>by cases hi;exact ⟨by omega,hBo 4 (by omega) (by omega)⟩) (by simp) (ints_unit _)) ?_
  refine IW.weaken (T':=tm [(1,.ptr 0 0),(2,.ptr 1 0),(5,.ptr 9 0)]) (H':=optH (B.upd 9 ⟨0,true,[.snil,.lst ((List.replicate m (0:Int)).map I64)]++[todoV o c.scores.length]++[]⟩) o ⟨2,true,cellsL (c.scores.map Sco.v)⟩) (tm_le (by simp [tmLe,tm,Tm.upd])) ?_ ?_
  ·intro j q hj
   cases o with
   | none=>exact hj
   | some i =>
    have hi:=(ho i rfl).1
    subst hi
    simp only [optH] at hj ⊢
    by_cases e9:j=9
    ·subst e9;rw [h_ne (by omega),h_same] at hj;rw [h_same];exact hj
    ·rw [h_ne e9]
     by_cases ei:j=11
     ·subst ei;rw [h_same] at hj ⊢;exact hj
     ·rw [h_ne ei,h_ne e9] at hj;rw [h_ne ei];exact hj
  refine IW.keep [1,2,5] [.ptr 0 0,.ptr 1 0,.ptr 9 0] (g_fin (u:=2) (by simp [DV.one]) (fun h=>by rw [hno h];rfl) (fun i hi=>⟨by have:=ho i hi;omega,hBn i (by have:=ho i hi;omega)⟩) (by simp) (scos_unit _)) ?_
  clear hno ho t1 t2 t5 k0 k1 k9 k4 ko hBo T H o hsub
  obtain ⟨cn,hcn⟩:∃ cn:DV,cn=.lst ((List.replicate m (0:Int)).map I64):=⟨_,rfl⟩
  have h9:∀ d,(⟨0,true,[.snil,.lst ((List.replicate m (0:Int)).map I64)]++[d]++[]⟩:Blk)=⟨0,true,[.snil,cn,d]⟩:=fun d=>by rw [hcn];rfl
  rw [h9]
  repeat' ((with_reducible first|refine wr ?_|refine k_cu ?_ ?_|refine wb2 ?_ ?_<;>(intro hb;try simp only [hb])|fail)<;>try simp only [go_sem,seval])
  refine i_loop (fun q:Nat × Option Nat=>[(1,.ptr 0 0),(2,.ptr 1 0),(5,.ptr 9 0),(6,I64 q.1)]) (fun q=>optH (B.upd 9 ⟨0,true,[todoV q.2 q.1,cn,scosV c.scores]⟩) q.2 ⟨1,true,cellsL (((c.adjs.take q.1).map Adj.dflt).map I64)⟩)
   (fun q cc=>11≤cc∧q.1≤c.adjs.length∧(q.2=none→q.1=0)∧∀ i,q.2=some i→i<cc∧11≤i) (fun q=>c.adjs.length-q.1) (0,none)
   (by simp [tmLe,tm,Tm.upd,todoV]) (Sub.refl _) ⟨by omega,by simp,by simp,by simp⟩ ?_
  rintro ⟨k,o⟩ cc ⟨h11,hk,hno,ho⟩
  simp only at hk hno ho
  simp only
  have hkl:((c.adjs.take k).map Adj.dflt).length=k:=by rw [List.length_map,List.length_take];omega
  have g0:∀ b b',optH (B.upd 9 b) o b' 0=some ⟨0,true,csB c⟩:=fun b b'=>by rw [optH_ne (fun i hi=>by have:=ho i hi;omega),h_ne (by omega),hB0]
  have g1:∀ b b',optH (B.upd 9 b) o b' 1=some ⟨0,true,[.snil,.snil,.snil]⟩:=fun b b'=>by rw [optH_ne (fun i hi=>by have:=ho i hi;omega),h_ne (by omega),hB1]
  have g9:∀ b b',optH (B.upd 9 b) o b' 9=some b:=fun b b'=>by rw [optH_ne (fun i hi=>by have:=ho i hi;omega),h_same]
  by_cases hlt:k<c.adjs.length
  ·have hd:decide ((k:Int)<c.adjs.length)=true:=by simpa using hlt
   have hg:=List.getElem?_eq_getElem hlt
   have hw:IntKind.i64.wrap ((k:Int)+1)=((k+1:Nat):Int):=by rw [w64 (by omega) (by omega)];omega
   have est:cellsL (((c.adjs.take (k+1)).map Adj.dflt).map I64)=cellsL (((c.adjs.take k).map Adj.dflt).map I64)++[I64 c.adjs[k].dflt]:=by
    rw [List.take_add_one,hg,Option.toList_some,List.map_append,List.map_append,cellsL_append];rfl
   generalize c.adjs[k]=a at hg est
   obtain ⟨cs,hcs⟩:∃ cs,cs=cellsL (((c.adjs.take k).map Adj.dflt).map I64):=⟨_,rfl⟩
   have hcl:cs.length=k * 1:=by rw [hcs,cells_ints,List.length_map,hkl];omega
   rw [← hcs] at est ⊢
   have hno2:o=none→k=0∧cs=[]:=fun e=>⟨hno e,by rw [hcs,hno e];rfl⟩
   have ne0:=nes6 0 1 9 (cc+12) (cc+8) cc (by omega)
   repeat' ((with_reducible first|refine wr ?_|refine k_cu ?_ ?_|refine wb2 ?_ ?_<;>(intro hb;try simp only [hb])|fail)<;>try simp only [go_sem,seval,hd,hg,hw,g0,g1,g9,ne0])
   have dk:∀ X j,j=0∨j=1∨j=9∨j=cc+8→delO X o j=X j:=fun X j hj=>delO_ne (fun i hi=>by have:=ho i hi;omega)
   have d0:=fun X=>dk X 0 (.inl rfl)
   have d1:=fun X=>dk X 1 (.inr (.inl rfl))
   have d9:=fun X=>dk X 9 (.inr (.inr (.inl rfl)))
   have d8:=fun X=>dk X (cc+8) (.inr (.inr (.inr rfl)))
   refine x_eval (r_apptodo (cs:=cs) hno2 (fun i hi=>?_) hcl (by omega) (by omega) (by omega)) ?_
   ·have:=ho i hi
    rw [h_ne (by omega)]
    exact opt_at hi
   simp only [go_sem,seval,ne0,hw,g0,g1,g9,d0,d1,d9,d8,hg]
   repeat' ((with_reducible first|refine wr ?_|refine k_cu ?_ ?_|refine wb2 ?_ ?_<;>(intro hb;try simp only [hb])|fail)<;>try simp only [go_sem,seval,hd,hg,hw,g0,g1,g9,d0,d1,d9,d8,ne0])
   refine ⟨(k+1,some (cc+12)),rfl,?_,inv ⟨by omega,hlt,by simp,fun i hi=>by cases hi;omega⟩,by simp only;omega⟩
   intro j q hj
   simp only [optH,todo_s] at hj
   by_cases e12:j=cc+12
   ·subst e12;rw [h_same] at hj;rw [h_ne (by omega),h_same, ← hj,est]
   rw [h_ne e12] at hj
   by_cases e9:j=9
   ·subst e9;rw [h_same] at hj ⊢;exact hj
   rw [h_ne e9] at hj
   have hj2:j=0∨j=1:=by
    by_cases h2:2≤j
    ·rw [hBn j h2] at hj;cases hj
    ·omega
   rw [h_ne e9,h_ne e12,dk _ j (by omega),h_ne (by omega),optH_ne (fun i hi=>by have:=ho i hi;omega),h_ne e9]
   exact hj
  ·have hd:decide ((k:Int)<c.adjs.length)=false:=by simpa using hlt
   obtain rfl:k=c.adjs.length:=by omega
   have hnew:newM c=(⟨c.adjs.map Adj.dflt,List.replicate m 0,c.scores⟩,0):=by simp [newM,e1,firstM,setsM,hm]
   rw [hnew,List.take_length]
   clear h9
   subst hcn
   rw [List.take_length] at hkl
   rcases o with _|i
   ·have h00:=hno rfl
    have h000:c.adjs=[]:=List.eq_nil_of_length_eq_zero h00
    simp only [optH,todo_n] at g0 g1 g9 ⊢
    repeat' ((with_reducible first|refine wr ?_|refine k_cu ?_ ?_|refine wb2 ?_ ?_<;>(intro hb;try simp only [hb])|fail)<;>try simp only [go_sem,seval,hd,hB0,hB1])
    rw [h000]
    exact pc_view1 fun ρ v h=>view_nilA h
   ·have:=ho i rfl
    simp only [optH,todo_s] at g0 g1 g9 ⊢
    have ne0:=nes4 0 1 9 i (by omega)
    repeat' ((with_reducible first|refine wr ?_|refine k_cu ?_ ?_|refine wb2 ?_ ?_<;>(intro hb;try simp only [hb])|fail)<;>try simp only [go_sem,seval,hd,hB0,hB1,ne0])
    exact pc_stA (xs:=(c.adjs.map Adj.dflt).map I64) (blk:=⟨1,true,cellsL ((c.adjs.map Adj.dflt).map I64)⟩) (by (try dsimp only);repeat (first|exact h_same|rw [h_ne (by omega)])) rfl (by simp) (ints_unit _) ⟨[],by simp⟩
 have hmo:∀ (H H':Hp) (j:Nat),¬ j=4→¬ j=9→merge [4,9] H H' j=H' j:=fun H H' j h1 h2=>by simp [merge,h1,h2]
 have hho:∀ (H:Hp) (j:Nat),¬ j=4→¬ j=9→hide H [4,9] j=H j:=fun H j h1 h2=>by simp [hide,h1,h2]
 have hm4:∀ (H H':Hp),merge [4,9] H H' 4=H 4:=fun _ _=>rfl
 have hm9:∀ (H H':Hp),merge [4,9] H H' 9=H 9:=fun _ _=>rfl
 by_cases h0:c.scores=[]
 ·refine x_eval (v:=.snil) (by rw [h0];rfl) ?_
  simp only [go_sem,seval,hmo,hho,hm4,hm9,hms]
  exact hend none _ _ _ (fun _=>h0) (fun i hi=>by cases hi) (by omega) rfl rfl rfl (by unfold csB;rw [h0];rfl) rfl (by rw [h0];rfl) rfl (fun i hi=>by cases hi)
 ·have hpos:0<c.scores.length:=List.length_pos_iff.2 h0
  refine x_eval (r_appn' (by omega) (by omega) (by omega)) ?_
  simp only [go_sem,seval,hmo,hho,hm4,hm9,hms]
  exact hend (some 11) _ _ _ (fun h=>by cases h) (fun i hi=>by cases hi;exact ⟨rfl,by omega⟩) (by omega) rfl rfl rfl rfl rfl rfl rfl (fun i hi=>by cases hi;rfl)
theorem c_ResetR (c:Book) (s:BSt) (hl:lenB c) (ht:lenT s) (part:Int):PC Tryz.prog 41 [c.v,s.v,I64 part] (.tup [(resetM c s part).1.v,I64 (resetM c s part).2]):=by
 have hk:=c_IsStateR c s hl ht
 refine PC.of mixedU isU41 (Nat.le_of_ble_eq_true rfl) (by simp [DV.nlL,DV.nl,nlL_ints,nlL_scos,nlL_adjs]) (by simp [DV.nlL,DV.nl,nlL_ints,nlL_scos,nlL_adjs]) ?_
 show IW Tryz.prog 38 u41_1 ⟨argT _,_,_⟩ (rt [.cell 6 3 true,.tmp 7] _)
 by_cases e1:isStM c s=true
 rotate_left
 ·have e1:isStM c s=false:=by simpa using e1
  repeat' ((with_reducible first|refine wr ?_|refine cpc hk ?_|refine k_cu ?_ ?_|refine wb2 ?_ ?_<;>(intro hb;try simp only [hb])|fail)<;>try simp only [go_sem,seval,e1])
  simp only [resetM,e1,if_true]
  exact pc_no
 obtain ⟨s1,s2,s3,s4,s5⟩:=st_fit e1
 have hn:=c_NewR c hl
 rw [show newM c=(firstM c,0) by simp [newM,s1]] at hn
 by_cases p1:part=1
 ·subst p1
  repeat' ((with_reducible first|refine wr ?_|refine cpc hk ?_|refine cpc hn ?_|refine k_cu ?_ ?_|refine wb2 ?_ ?_<;>(intro hb;try simp only [hb])|fail)<;>try simp only [go_sem,seval,e1])
  all_goals
   simp only [resetM,e1,Bool.true_eq_false,if_false,if_true]
   exact pc_ret rfl
 have p1':(part == 1)=false:=by simpa using p1
 by_cases p2:part=2
 ·subst p2
  repeat' ((with_reducible first|refine wr ?_|refine cpc hk ?_|refine cpc hn ?_|refine k_cu ?_ ?_|refine wb2 ?_ ?_<;>(intro hb;try simp only [hb])|fail)<;>try simp only [go_sem,seval,e1])
  all_goals
   have er:resetM c s 2=(⟨s.sets,List.replicate c.cnt.toNat 0,s.scores⟩,0):=by simp [resetM,e1]
   rw [er]
   exact pc_ret rfl
 have p2':(part == 2)=false:=by simpa using p2
 by_cases p3:part=3
 ·subst p3
  repeat' ((with_reducible first|refine wr ?_|refine cpc hk ?_|refine cpc hn ?_|refine k_cu ?_ ?_|refine wb2 ?_ ?_<;>(intro hb;try simp only [hb])|fail)<;>try simp only [go_sem,seval,e1])
  all_goals
   have er:resetM c s 3=(⟨s.sets,s.counts,c.scores⟩,0):=by simp [resetM,e1]
   rw [er]
   exact pc_ret rfl
 have p3':(part == 3)=false:=by simpa using p3
 repeat' ((with_reducible first|refine wr ?_|refine cpc hk ?_|refine cpc hn ?_|refine k_cu ?_ ?_|refine wb2 ?_ ?_<;>(intro hb;try simp only [hb])|fail)<;>try simp only [go_sem,seval,e1,p1',p2',p3'])
 all_goals
  have er:resetM c s part=(noSt,44):=by simp [resetM,e1,p1,p2,p3]
  rw [er]
  exact pc_no
end Go.Proofs.YtndjhpjcankkaaaGreatDoor
namespace Go.Proofs.YtndjhpjcankkaaaGreatDoor
open Go.Eng (IC IOper DReg IFn IsFn)
open Go.Sym Go.Pb
theorem eqa20 {g:Bool} {a c:List UInt8} {b d:Int}:eqaR g [2,0] (.agg [.str a,I64 b]) (.agg [.str c,I64 d])=some (.bool (g != (a == c && b == d))):=by
 simp only [eqaR,cellsEq,cellEq,if_true]
 generalize (a == c)=p;generalize (b == d)=q
 cases p<;>cases q<;>rfl
theorem sco_eq (i j:Sco):(i.name == j.name && i.points == j.points)=decide (i=j):=by
 cases i;cases j
 rw [Bool.eq_iff_iff];simp
theorem st_eq (a b:BSt):decide (a=b)=(decide (a.sets=b.sets) && (decide (a.counts=b.counts) && decide (a.scores=b.scores))):=by
 cases a;cases b
 rw [Bool.eq_iff_iff];simp
theorem c_eqN (a b:List Int) (n1:a.length≤9223372036854775807):PC Tryz.prog 72 [.lst (a.map I64),.lst (b.map I64)] (.bool (decide (a=b))):=by
 refine PC.of mixedU isU72 (Nat.le_of_ble_eq_true rfl) (by simp [DV.nlL,DV.nl,nlL_ints]) rfl ?_
 show IW Tryz.prog 26 u72_1 ⟨argT _,_,_⟩ (rt [.tmp 4] _)
 by_cases hl:a.length=b.length
 case neg =>
  have hne:((a.length:Int) != (b.length:Int))=true:=by simp;omega
  repeat' ((with_reducible first|refine wr ?_|refine k_cu ?_ ?_|refine wb2 ?_ ?_<;>(intro hb;try simp only [hb])|fail)<;>try simp only [go_sem,seval,List.length_map,hne])
  rw [decide_eq_false (fun e=>hl (by rw [e]))];exact pc_ret rfl
 have hne:((a.length:Int) != (b.length:Int))=false:=by simp;omega
 repeat' ((with_reducible first|refine wr ?_|refine k_cu ?_ ?_|refine wb2 ?_ ?_<;>(intro hb;try simp only [hb])|fail)<;>try simp only [go_sem,seval,List.length_map,hne])
 refine i_loop (fun k:Nat=>[(0,.lst (a.map I64)),(1,.lst (b.map I64)),(12,I64 a.length),(13,I64 k)]) (fun _=>nil) (fun k cc=>k≤a.length∧a.take k=b.take k) (fun k=>a.length-k) 0 (by simp [tmLe,tm,Tm.upd]) (Sub.nil _) (by simp) ?_
 rintro k cc ⟨hk,he⟩
 by_cases hlt:k<a.length
 ·have hd:decide ((k:Int)<a.length)=true:=by simpa using hlt
  have hlt2:k<b.length:=by omega
  have hg:=List.getElem?_eq_getElem hlt
  have hg2:=List.getElem?_eq_getElem hlt2
  have hw:=w64 (n:=(k:Int)+1) (by omega) (by omega)
  repeat' ((with_reducible first|refine wr ?_|refine k_cu ?_ ?_|refine wb2 ?_ ?_<;>(intro hb;try simp only [hb])|fail)<;>try simp only [go_sem,seval,List.length_map,hd,hg,hg2,hw])
  all_goals first
   | (refine ⟨k+1,rfl,Sub.nil _,inv ⟨hlt,(eqTo_step hg hg2 he).2 ?_⟩,by omega⟩;simpa using hb)
   | (rw [decide_eq_false (eq_fail hg hg2 ?_)];exact pc_ret rfl;simpa using hb)
 have hd:decide ((k:Int)<a.length)=false:=by simpa using hlt
 repeat' ((with_reducible first|refine wr ?_|refine k_cu ?_ ?_|refine wb2 ?_ ?_<;>(intro hb;try simp only [hb])|fail)<;>try simp only [go_sem,seval,List.length_map,hd])
 rw [decide_eq_true (eq_done hl (by omega) he)];exact pc_ret rfl
theorem c_eqC (a b:List Sco) (n1:a.length≤9223372036854775807):PC Tryz.prog 73 [.lst (a.map Sco.v),.lst (b.map Sco.v)] (.bool (decide (a=b))):=by
 refine PC.of mixedU isU73 (Nat.le_of_ble_eq_true rfl) (by simp [DV.nlL,DV.nl,nlL_scos]) rfl ?_
 show IW Tryz.prog 26 u73_1 ⟨argT _,_,_⟩ (rt [.tmp 4] _)
 by_cases hl:a.length=b.length
 case neg =>
  have hne:((a.length:Int) != (b.length:Int))=true:=by simp;omega
  repeat' ((with_reducible first|refine wr ?_|refine k_cu ?_ ?_|refine wb2 ?_ ?_<;>(intro hb;try simp only [hb])|fail)<;>try simp only [go_sem,seval,List.length_map,hne])
  rw [decide_eq_false (fun e=>hl (by rw [e]))];exact pc_ret rfl
 have hne:((a.length:Int) != (b.length:Int))=false:=by simp;omega
 repeat' ((with_reducible first|refine wr ?_|refine k_cu ?_ ?_|refine wb2 ?_ ?_<;>(intro hb;try simp only [hb])|fail)<;>try simp only [go_sem,seval,List.length_map,hne])
 refine i_loop (fun k:Nat=>[(0,.lst (a.map Sco.v)),(1,.lst (b.map Sco.v)),(12,I64 a.length),(13,I64 k)]) (fun _=>nil) (fun k cc=>k≤a.length∧a.take k=b.take k) (fun k=>a.length-k) 0 (by simp [tmLe,tm,Tm.upd]) (Sub.nil _) (by simp) ?_
 rintro k cc ⟨hk,he⟩
 by_cases hlt:k<a.length
 ·have hd:decide ((k:Int)<a.length)=true:=by simpa using hlt
  have hlt2:k<b.length:=by omega
  have hg:=List.getElem?_eq_getElem hlt
  have hg2:=List.getElem?_eq_getElem hlt2
  have hw:=w64 (n:=(k:Int)+1) (by omega) (by omega)
  repeat' ((with_reducible first|refine wr ?_|refine k_cu ?_ ?_|refine wb2 ?_ ?_<;>(intro hb;try simp only [hb])|fail)<;>try simp only [go_sem,seval,List.length_map,hd,hg,hg2,hw,eqa20])
  all_goals first
   | (refine ⟨k+1,rfl,Sub.nil _,inv ⟨hlt,(eqTo_step hg hg2 he).2 ?_⟩,by omega⟩;simpa [sco_eq] using hb)
   | (rw [decide_eq_false (eq_fail hg hg2 ?_)];exact pc_ret rfl;simpa [sco_eq] using hb)
 have hd:decide ((k:Int)<a.length)=false:=by simpa using hlt
 repeat' ((with_reducible first|refine wr ?_|refine k_cu ?_ ?_|refine wb2 ?_ ?_<;>(intro hb;try simp only [hb])|fail)<;>try simp only [go_sem,seval,List.length_map,hd])
 rw [decide_eq_true (eq_done hl (by omega) he)];exact pc_ret rfl
theorem c_Same (a b:BSt) (ha:lenT a):PC Tryz.prog 37 [a.v,b.v] (.bool (decide (a=b))):=by
 have h1:=c_eqN a.sets b.sets ha.1
 have h2:=c_eqN a.counts b.counts ha.2.1
 have h3:=c_eqC a.scores b.scores ha.2.2.1
 refine PC.of mixedU isU37 (Nat.le_of_ble_eq_true rfl) (by simp [DV.nlL,DV.nl,nlL_ints,nlL_strs,nlL_adjs,nlL_scos]) (by simp [DV.nlL,DV.nl,nlL_ints,nlL_strs,nlL_adjs,nlL_scos]) ?_
 show IW Tryz.prog 24 u37_1 ⟨argT _,_,_⟩ (rt [.tmp 4] _)
 repeat' ((with_reducible first|refine wr ?_|refine cpc h1 ?_|refine cpc h2 ?_|refine cpc h3 ?_|refine k_cu ?_ ?_|refine wb2 ?_ ?_<;>(intro hb;try simp only [hb])|fail)<;>try simp only [go_sem,seval])
 all_goals refine pc_ret ?_
 all_goals (congr 1;rw [st_eq,Bool.eq_iff_iff];simp_all)
theorem c_SameR (a b:BSt) (ha:lenT a):PC Tryz.prog 15 [a.v,b.v] (.bool (decide (a=b))):=by
 have ha1:=ha.1
 have ha2:=ha.2.1
 have ha3:=ha.2.2.1
 refine PC.of mixedU isU15 (Nat.le_of_ble_eq_true rfl) (by simp [DV.nlL,DV.nl,nlL_ints,nlL_strs,nlL_adjs,nlL_scos]) (by simp [DV.nlL,DV.nl,nlL_ints,nlL_strs,nlL_adjs,nlL_scos]) ?_
 show IW Tryz.prog 87 u15_1 ⟨argT _,_,_⟩ (rt [.tmp 4] _)
 by_cases h:a.sets.length=b.sets.length∧a.counts.length=b.counts.length∧a.scores.length=b.scores.length
 case neg =>
  repeat' ((with_reducible first|refine wr ?_|refine k_cu ?_ ?_|refine wb2 ?_ ?_<;>(intro hb;try simp only [hb])|fail)<;>try simp only [go_sem,seval])
  all_goals first
   | (refine pc_ret ?_;congr 1;rw [st_eq];simp_all;done)
   | (exfalso;simp only [bne_eq_false_iff_eq] at *;apply h;refine ⟨?_,?_,?_⟩<;>first|assumption|omega)
   | (refine pc_ret ?_;congr 1;symm;rw [decide_eq_false_iff_not];rintro rfl;exact h ⟨rfl,rfl,rfl⟩)
 obtain ⟨l1,l2,l3⟩:=h
 have e1:((a.sets.length:Int) != (b.sets.length:Int))=false:=by simp;omega
 have e2:((a.counts.length:Int) != (b.counts.length:Int))=false:=by simp;omega
 have e3:((a.scores.length:Int) != (b.scores.length:Int))=false:=by simp;omega
 repeat' ((with_reducible first|refine wr ?_|refine k_cu ?_ ?_|refine wb2 ?_ ?_<;>(intro hb;try simp only [hb])|fail)<;>try simp only [go_sem,seval,e1,e2,e3])
 refine i_loop (fun k:Nat=>[(2,.ptr 0 0),(3,.ptr 1 0),(5,I64 k)]) (fun _=>(nil.upd 0 ⟨0,true,csS a⟩).upd 1 ⟨0,true,csS b⟩) (fun k cc=>2≤cc∧k≤a.sets.length∧a.sets.take k=b.sets.take k) (fun k=>a.sets.length-k) 0 (by simp [tmLe,tm,Tm.upd]) (Sub.refl _) ⟨by omega,by simp,by simp⟩ ?_
 rintro k cc ⟨h2,hk,he⟩
 by_cases hlt:k<a.sets.length
 ·have hd:decide ((k:Int)<a.sets.length)=true:=by simpa using hlt
  have hlt2:k<b.sets.length:=by omega
  have hg:=List.getElem?_eq_getElem hlt
  have hg2:=List.getElem?_eq_getElem hlt2
  have hw:=w64 (n:=(k:Int)+1) (by omega) (by omega)
  repeat' ((with_reducible first|refine wr ?_|refine k_cu ?_ ?_|refine wb2 ?_ ?_<;>(intro hb;try simp only [hb])|fail)<;>try simp only [go_sem,seval,hd,hg,hg2,hw])
  all_goals first
   | (refine ⟨k+1,rfl,Sub.refl _,inv ⟨by omega,hlt,(eqTo_step hg hg2 he).2 ?_⟩,by omega⟩;simpa [sco_eq] using hb)
   | (refine pc_ret ?_;congr 1;rw [st_eq,decide_eq_false (eq_fail (a:=a.sets) (b:=b.sets) hg hg2 ?_)];simp;simpa [sco_eq] using hb)
 have hd:decide ((k:Int)<a.sets.length)=false:=by simpa using hlt
 have g5:=eq_done l1 (by omega) he
 clear he hk
 repeat' ((with_reducible first|refine wr ?_|refine k_cu ?_ ?_|refine wb2 ?_ ?_<;>(intro hb;try simp only [hb])|fail)<;>try simp only [go_sem,seval,hd])
 clear hd hlt
 refine i_loop (fun k:Nat=>[(2,.ptr 0 0),(3,.ptr 1 0),(6,I64 k)]) (fun _=>(nil.upd 0 ⟨0,true,csS a⟩).upd 1 ⟨0,true,csS b⟩) (fun k cc=>2≤cc∧k≤a.counts.length∧a.counts.take k=b.counts.take k) (fun k=>a.counts.length-k) 0 (by simp [tmLe,tm,Tm.upd]) (Sub.refl _) ⟨by omega,by simp,by simp⟩ ?_
 clear k cc h2
 rintro k cc ⟨h2,hk,he⟩
 by_cases hlt:k<a.counts.length
 ·have hd:decide ((k:Int)<a.counts.length)=true:=by simpa using hlt
  have hlt2:k<b.counts.length:=by omega
  have hg:=List.getElem?_eq_getElem hlt
  have hg2:=List.getElem?_eq_getElem hlt2
  have hw:=w64 (n:=(k:Int)+1) (by omega) (by omega)
  repeat' ((with_reducible first|refine wr ?_|refine k_cu ?_ ?_|refine wb2 ?_ ?_<;>(intro hb;try simp only [hb])|fail)<;>try simp only [go_sem,seval,hd,hg,hg2,hw])
  all_goals first
   | (refine ⟨k+1,rfl,Sub.refl _,inv ⟨by omega,hlt,(eqTo_step hg hg2 he).2 ?_⟩,by omega⟩;simpa [sco_eq] using hb)
   | (refine pc_ret ?_;congr 1;rw [st_eq,decide_eq_false (eq_fail (a:=a.counts) (b:=b.counts) hg hg2 ?_)];simp;simpa [sco_eq] using hb)
 have hd:decide ((k:Int)<a.counts.length)=false:=by simpa using hlt
 have g6:=eq_done l2 (by omega) he
 clear he hk
 repeat' ((with_reducible first|refine wr ?_|refine k_cu ?_ ?_|refine wb2 ?_ ?_<;>(intro hb;try simp only [hb])|fail)<;>try simp only [go_sem,seval,hd])
 clear hd hlt
 refine i_loop (fun k:Nat=>[(2,.ptr 0 0),(3,.ptr 1 0),(7,I64 k)]) (fun _=>(nil.upd 0 ⟨0,true,csS a⟩).upd 1 ⟨0,true,csS b⟩) (fun k cc=>2≤cc∧k≤a.scores.length∧a.scores.take k=b.scores.take k) (fun k=>a.scores.length-k) 0 (by simp [tmLe,tm,Tm.upd]) (Sub.refl _) ⟨by omega,by simp,by simp⟩ ?_
 clear k cc h2
 rintro k cc ⟨h2,hk,he⟩
 by_cases hlt:k<a.scores.length
 ·have hd:decide ((k:Int)<a.scores.length)=true:=by simpa using hlt
  have hlt2:k<b.scores.length:=by omega
  have hg:=List.getElem?_eq_getElem hlt
  have hg2:=List.getElem?_eq_getElem hlt2
  have hw:=w64 (n:=(k:Int)+1) (by omega) (by omega)
  repeat' ((with_reducible first|refine wr ?_|refine k_cu ?_ ?_|refine wb2 ?_ ?_<;>(intro hb;try simp only [hb])|fail)<;>try simp only [go_sem,seval,hd,hg,hg2,hw,eqa20])
  all_goals first
   | (refine ⟨k+1,rfl,Sub.refl _,inv ⟨by omega,hlt,(eqTo_step hg hg2 he).2 ?_⟩,by omega⟩;simpa [sco_eq] using hb)
   | (refine pc_ret ?_;congr 1;rw [st_eq,decide_eq_false (eq_fail (a:=a.scores) (b:=b.scores) hg hg2 ?_)];simp;simpa [sco_eq] using hb)
 have hd:decide ((k:Int)<a.scores.length)=false:=by simpa using hlt
 have g7:=eq_done l3 (by omega) he
 repeat' ((with_reducible first|refine wr ?_|refine k_cu ?_ ?_|refine wb2 ?_ ?_<;>(intro hb;try simp only [hb])|fail)<;>try simp only [go_sem,seval,hd])
 refine pc_ret ?_
 rw [st_eq,g5,g6,g7];simp
end Go.Proofs.YtndjhpjcankkaaaGreatDoor
end

/-
  HELPERS of the claim: part 10 of its texts.
-/
import Derived.Test.YtkkjpohaffjecaaGreatDoorCmyi
import Derived.Shelf.SlGeneric
import Derived.Shelf.SlSortCmp.WholeK
import Derived.Shelf.SlicesG.Cmp
import Derived.Ground.SlsfProg
import Derived.Ground.SlgcProg
import Derived.Test.YtkkjpohaffjecaaGreatDoorProg
import Derived.WalkKit
import Derived.Lib.Walk
import Derived.KernelRfl
import Derived.LoopN
import Derived.StillTailTactics
noncomputable section
namespace Go.Proofs
open Go.Shelf
def Tryz.sortP_ren:Go.Shelf.Ren:=⟨fun |6=>106 |15=>177 |14=>176 |28=>259 |29=>260 |20=>251 |21=>252 |22=>253 |23=>254 |24=>255 |25=>256 |26=>257 |27=>258 |46=>313 |47=>314 |48=>315 |49=>316 |50=>317 |57=>334|n=>n,fun |22=>113 |24=>117 |25=>186 |3=>3 |39=>123 |0=>0 |53=>38 |55=>37 |4=>4 |46=>287 |45=>286 |50=>52 |5=>5 |9=>9 |66=>318 |70=>322 |76=>337 |77=>104|n=>n,fun|n=>n⟩
theorem Tryz.sortP:Go.Proofs.SlLaysF0.n6 Tryz.prog Tryz.sortP_ren:={
 mixed:=by kernel_rfl
 f6:=⟨Tryz.f106.name,by decide,Tryz.func106.trans (congrArg some (by kernel_rfl))⟩
 f14:=⟨Tryz.f176.name,by decide,Tryz.func176.trans (congrArg some (by kernel_rfl))⟩
 f15:=Tryz.func177.trans (congrArg some (by kernel_rfl))
 f20:=⟨Tryz.f251.name,by decide,Tryz.func251.trans (congrArg some (by kernel_rfl))⟩
 f21:=⟨Tryz.f252.name,by decide,Tryz.func252.trans (congrArg some (by kernel_rfl))⟩
 f22:=⟨Tryz.f253.name,by decide,Tryz.func253.trans (congrArg some (by kernel_rfl))⟩
 f23:=⟨Tryz.f254.name,by decide,Tryz.func254.trans (congrArg some (by kernel_rfl))⟩
 f24:=⟨Tryz.f255.name,by decide,Tryz.func255.trans (congrArg some (by kernel_rfl))⟩
 f25:=⟨Tryz.f256.name,by decide,Tryz.func256.trans (congrArg some (by kernel_rfl))⟩
 f26:=⟨Tryz.f257.name,by decide,Tryz.func257.trans (congrArg some (by kernel_rfl))⟩
 f27:=⟨Tryz.f258.name,by decide,Tryz.func258.trans (congrArg some (by kernel_rfl))⟩
 f28:=Tryz.func259.trans (congrArg some (by kernel_rfl))
 f29:=Tryz.func260.trans (congrArg some (by kernel_rfl))
 f46:=⟨Tryz.f313.name,by decide,Tryz.func313.trans (congrArg some (by kernel_rfl))⟩
 f47:=Tryz.func314.trans (congrArg some (by kernel_rfl))
 f48:=Tryz.func315.trans (congrArg some (by kernel_rfl))
 f49:=⟨Tryz.f316.name,by decide,Tryz.func316.trans (congrArg some (by kernel_rfl))⟩
 f50:=⟨Tryz.f317.name,by decide,Tryz.func317.trans (congrArg some (by kernel_rfl))⟩
 f57:=⟨Tryz.f334.name,by decide,Tryz.func334.trans (congrArg some (by kernel_rfl))⟩
 t0:=Tryz.underlying0
 a0:=Tryz.isAgg0
 z0:=Tryz.sizeOf0
 v0:=Tryz.zeroValue0
 t3:=Tryz.underlying3
 a3:=Tryz.isAgg3
 z3:=Tryz.sizeOf3
 v3:=Tryz.zeroValue3
 t4:=Tryz.underlying4
 a4:=Tryz.isAgg4
 z4:=Tryz.sizeOf4
 v4:=Tryz.zeroValue4
 t5:=Tryz.underlying5
 a5:=Tryz.isAgg5
 z5:=Tryz.sizeOf5
 v5:=Tryz.zeroValue5
 t9:=Tryz.underlying9
 a9:=Tryz.isAgg9
 z9:=Tryz.sizeOf9
 v9:=Tryz.zeroValue9
 t22:=Tryz.underlying113
 a22:=Tryz.isAgg113
 z22:=Tryz.sizeOf113
 v22:=Tryz.zeroValue113
 t25:=Tryz.underlying186
 a25:=Tryz.isAgg186
 z25:=Tryz.sizeOf186
 v25:=Tryz.zeroValue186
 t39:=Tryz.underlying123
 a39:=Tryz.isAgg123
 z39:=Tryz.sizeOf123
 v39:=Tryz.zeroValue123
 t45:=Tryz.underlying286
 a45:=Tryz.isAgg286
 z45:=Tryz.sizeOf286
 v45:=Tryz.zeroValue286
 t46:=Tryz.underlying287
 a46:=Tryz.isAgg287
 z46:=Tryz.sizeOf287
 v46:=Tryz.zeroValue287
 t50:=Tryz.underlying52
 a50:=Tryz.isAgg52
 z50:=Tryz.sizeOf52
 v50:=Tryz.zeroValue52
 t53:=Tryz.underlying38
 a53:=Tryz.isAgg38
 z53:=Tryz.sizeOf38
 v53:=Tryz.zeroValue38
 t55:=Tryz.underlying37
 a55:=Tryz.isAgg37
 z55:=Tryz.sizeOf37
 v55:=Tryz.zeroValue37
 t66:=Tryz.underlying318
 a66:=Tryz.isAgg318
 z66:=Tryz.sizeOf318
 v66:=Tryz.zeroValue318
 t70:=Tryz.underlying322
 a70:=Tryz.isAgg322
 z70:=Tryz.sizeOf322
 v70:=Tryz.zeroValue322
 t76:=Tryz.underlying337
 a76:=Tryz.isAgg337
 z76:=Tryz.sizeOf337
 v76:=Tryz.zeroValue337
 t77:=Tryz.underlying104
 a77:=Tryz.isAgg104
 z77:=Tryz.sizeOf104
 v77:=Tryz.zeroValue104 }
def Tryz.cmpI_ren:Go.Shelf.Ren:=⟨fun |5=>109 |7=>178|n=>n,fun |22=>3 |3=>3 |4=>4|n=>n,fun|n=>n⟩
theorem Tryz.cmpI:Go.Proofs.SlLaysC2.n5 Tryz.prog Tryz.cmpI_ren:={
 mixed:=by kernel_rfl
 f5:=⟨Tryz.f109.name,by decide,Tryz.func109.trans (congrArg some (by kernel_rfl))⟩
 f7:=⟨Tryz.f178.name,by decide,Tryz.func178.trans (congrArg some (by kernel_rfl))⟩
 t3:=Tryz.underlying3
 a3:=Tryz.isAgg3
 z3:=Tryz.sizeOf3
 v3:=Tryz.zeroValue3
 t4:=Tryz.underlying4
 a4:=Tryz.isAgg4
 z4:=Tryz.sizeOf4
 v4:=Tryz.zeroValue4
 t22:=Tryz.underlying3
 a22:=Tryz.isAgg3
 z22:=Tryz.sizeOf3
 v22:=Tryz.zeroValue3 }
end Go.Proofs
set_option linter.unusedVariables false
set_option linter.unusedSimpArgs false
namespace Go.So
open Go.Shelf Go.RowKit Go.Lib Go.Proofs Go.Sort
set_option maxHeartbeats 4000000 in
set_option maxRecDepth 100000 in
theorem E3k(x y z:Int)(b:Nat)(W:World)(h0:W.cell? ⟨b,0,none⟩=some (.int .i64 x))(h1:W.cell? ⟨b,1,none⟩=some (.int .i64 y))(h2:W.cell? ⟨b,2,none⟩=some (.int .i64 z)):
  Calls Tryz.prog 108 #[.slice (some ⟨b,0,none⟩) 3 3] W fun e w'=>e=.returned (.int .i64 (if x≠0 then x else if y≠0 then y else z))/\w'=W:=by
 go_enter Tryz.func108,Tryz.ntmps108
 go_wp2
 refine wp_loop_rounds 4 ?_;rw[rounds_succ]
 go_wp2
 all_goals try (rw[rounds_succ];go_wp2)
 all_goals try (rw[rounds_succ];go_wp2)
 all_goals try (rw[rounds_succ];go_wp2)
 all_goals go_ret
 all_goals refine⟨?_,rfl⟩
 all_goals simp_all
abbrev PV:=Int × Int × Int × Int × {v:Value // v.oneCell'=true}
instance:Inhabited PV:=⟨(0,0,0,0,⟨.int .i64 0,rfl⟩)⟩
def A1i(x:PV):List Value:=[.int .i64 x.1,.int .i64 x.2.1,.int .i64 x.2.2.1,.int .i64 x.2.2.2.1,x.2.2.2.2.1]
def cfP(x y:PV):Int:=if Lib.compareInt x.1 y.1≠0 then Lib.compareInt x.1 y.1 else if Lib.compareInt x.2.1 y.2.1≠0 then Lib.compareInt x.2.1 y.2.1 else Lib.compareInt x.2.2.1 y.2.2.1
set_option maxHeartbeats 4000000 in
set_option maxRecDepth 100000 in
theorem B9k(x y:PV)(W:World):Calls Tryz.prog 107 #[.agg (A1i x).toArray,.agg (A1i y).toArray] W fun e w'=>e=.returned (.int .i64 (cfP x y))/\∃ q os',w'=grow (W.drewN q) os':=by
 have hcon:=fun a b W'=>AnyG.cmp_Compare_int Tryz.cmpI a b W'
 change ∀ a b W',Calls Tryz.prog 109 _ _ _ at hcon
 obtain⟨x1,x2,x3,x4,⟨x5,hx⟩⟩:=x;obtain⟨y1,y2,y3,y4,⟨y5,hy⟩⟩:=y;obtain⟨R,hR⟩:∃ R,R=cfP (x1,x2,x3,x4,⟨x5,hx⟩) (y1,y2,y3,y4,⟨y5,hy⟩):=⟨_,rfl⟩;rw[<- hR];unfold cfP at hR;unfold A1i;dsimp only at hR ⊢
 go_enter Tryz.func107,Tryz.ntmps107
 go_wp2_with fail
 generalize hV:((W.alloc (Obj.cells #[Value.int IntKind.i64 x1,Value.int IntKind.i64 x2,Value.int IntKind.i64 x3,Value.int IntKind.i64 x4,x5] 117)).alloc (Obj.cells #[Value.int IntKind.i64 y1,Value.int IntKind.i64 y2,Value.int IntKind.i64 y3,Value.int IntKind.i64 y4,y5] 117))=V;have f0:∀ j v, #[Value.int IntKind.i64 x1,Value.int IntKind.i64 x2,Value.int IntKind.i64 x3,Value.int IntKind.i64 x4,x5][j]? = some v->V.drew.cell? ⟨W.heap.size,j,none⟩=some v:=fun j v h=>by
  rw[<- hV];simp only[World.cell?,World.drew,World.alloc];rw[A4A,if_neg (by simp),A4A,if_pos rfl];exact h
 have f1:∀ j v, #[Value.int IntKind.i64 y1,Value.int IntKind.i64 y2,Value.int IntKind.i64 y3,Value.int IntKind.i64 y4,y5][j]? = some v->V.drew.cell? ⟨W.heap.size+1,j,none⟩=some v:=fun j v h=>by
  rw[<- hV];simp only[World.cell?,World.drew,World.alloc];rw[A4A,if_pos (by simp)];exact h
 have x1c:=f0 0 _ rfl;have x2c:=f0 1 _ rfl;have x3c:=f0 2 _ rfl;have y1c:=f1 0 _ rfl;have y2c:=f1 1 _ rfl;have y3c:=f1 2 _ rfl;have hg:∃ os,V=grow W os:=⟨_,by rw[<- hV,alloc_eq_grow,alloc_eq_grow,grow_grow]⟩;clear f0 f1 hV;refine wp_region_still_tail 21 (by kernel_rfl) (by kernel_rfl) ?_;simp only[A1D,A1I,List.drop_succ_cons,A4E]
 change wpStill _ _ V.drew _ _ _
 generalize V.drew=V2 at *
 repeat still_step
 refine wpStill_step (fun K hK=>?_)
 go_simp
 refine⟨_,hcon _ _ _,hK _ ?_⟩;clear hK K
 repeat still_step
 refine wpStill_step (fun K hK=>?_)
 go_simp
 refine⟨_,hcon _ _ _,hK _ ?_⟩;clear hK K
 repeat still_step
 refine wpStill_step (fun K hK=>?_)
 go_simp
 refine⟨_,hcon _ _ _,hK _ ?_⟩;clear hK K;refine wpStill_nil ?_;generalize compareInt x1 y1=A at *;generalize compareInt x2 y2=B at *;generalize compareInt x3 y3=C at *;have hcell:∀ (V:World) j v, #[Value.int IntKind.i64 A,Value.int IntKind.i64 B,Value.int IntKind.i64 C][j]? = some v->((V.alloc (Obj.cells #[Value.int IntKind.i64 A,Value.int IntKind.i64 B,Value.int IntKind.i64 C] 3)).drew).cell? ⟨V.heap.size,j,none⟩=some v:=fun V j v h=>by
  simp only[World.cell?,World.drew,World.alloc];rw[A4A,if_pos rfl];exact h
 have hor:=fun V=>E3k A B C V.heap.size _ (hcell V 0 _ rfl) (hcell V 1 _ rfl) (hcell V 2 _ rfl);rw[<- hR]at hor;clear hR hcell
 go_wp2_with fail
 refine (hor _).mono ?_;rintro e w' ⟨rfl,rfl⟩
 go_wp2_with fail
 go_ret
 obtain⟨os,hg⟩:=hg;refine⟨rfl,1,os ++ #[Obj.cells #[Value.int IntKind.i64 A,Value.int IntKind.i64 B,Value.int IntKind.i64 C] 3],?_⟩;subst hg;show (grow (W.drewN 1) os).alloc _=_;rw[alloc_eq_grow,grow_grow]
theorem B9j(a b:Int):Lib.compareInt a b=if a<b then -1 else if b<a then 1 else 0:=by
 unfold Lib.compareInt;rfl
def ltP(x y:PV):Prop:=x.1<y.1\/(x.1=y.1/\(x.2.1<y.2.1\/(x.2.1=y.2.1/\x.2.2.1<y.2.2.1)))
instance (x y:PV):Decidable (ltP x y):=by unfold ltP;infer_instance
theorem C1n(x y:PV):ltOf cfP x y=decide (ltP x y):=by
 unfold ltOf cfP ltP;obtain⟨x1,x2,x3,x4⟩:=x;obtain⟨y1,y2,y3,y4⟩:=y;dsimp only;rw[A2G];simp only[A0I,B9j];by_cases a1:x1<y1<;>by_cases a2:y1<x1<;>by_cases b1:x2<y2<;>by_cases b2:y2<x2<;>by_cases c1:x3<y3<;>by_cases c2:y3<x3<;>simp only[a1,a2,b1,b2,c1,c2,if_true,if_false]<;>first|(exfalso;omega)|(simp<;>omega)
theorem E4g:SWO (ltOf cfP) where
 irrefl x:=by rw[C1n];simp[ltP]
 trans x y z h1 h2:=by rw[C1n]at *;simp only[A0I]at *;unfold ltP at *;omega
 ntrans x y z h1 h2:=by rw[C1n]at *;simp only[A2C]at *;unfold ltP at *;omega
theorem D2y(blk off size:Nat)(w:World):CmpLays Tryz.prog 107 #[] A1i 5 cfP blk off size w:=fun _ _ _ _ x y=>B9k x y _
theorem sortP(blk cap:Nat)(d:Array PV)(w:World)(hH:HoldsK A1i 5 w blk 0 d)(hblk:blk<w.heap.size)(hsz:d.size<4611686018427387904):
  Calls Tryz.prog 106 #[.slice (some ⟨blk,0,none⟩) d.size cap,.func (.func 107) #[] #[]] w fun e w' =>
   e=.returned (.tuple #[])/\∃ d' n os,PermIn 0 d.size d d'/\SortedIn (ltOf cfP) 0 d.size d'/\w'=sortWorldK A1i 5 w blk 0 n d' os:=by
 have eg:∀ args w,(callFunc 107 args).run Tryz.prog w=.ok (.enter 107 args) w:=enters_of Tryz.func107 (by kernel_rfl) rfl;exact AnyQ.slices_SortFunc Tryz.sortP 5 Tryz.isAgg117 Tryz.sizeOf117 A1i (fun _=>rfl) (fun x v hv=>by
  obtain⟨x1,x2,x3,x4,⟨x5,hx⟩⟩:=x;simp[A1i]at hv;rcases hv with rfl|rfl|rfl|rfl|rfl
  ·rfl
  ·rfl
  ·rfl
  ·rfl
  ·exact hx) cfP E4g 107 #[] blk 0 cap d w eg (D2y blk 0 d.size w) hH hblk hsz
end Go.So
set_option linter.unusedSectionVars false
set_option maxHeartbeats 1000000
namespace Go.Sym
open Go.Eng Go.Lib Go.Pb Go.So Go.Sort Go.Proofs
variable [Go.Sym.Tab]
abbrev A3t(b:List (List Pb.St)):DV:=.lst (b.map D3)
def pvC(l:List C8):List DV:=l.flatMap fun p=>pcC p.1 (A3t p.2)
theorem B3h(l:List C8):(pvC l).length=l.length * 5:=by
 induction l with
 |nil=>rfl
 |cons p l ih=>rw[pvC,A2A,A0A];unfold pvC at ih;rw[ih];simp only[pcC,A0K,A1H];omega
theorem C0m:∀ {l:List C8} {j:Nat} {v:DV},(pvC l)[j]? = some v->∃ p,l[j / 5]? = some p/\(pcC p.1 (A3t p.2))[j % 5]? = some v
 |[],j,v,h=>by simp[pvC]at h
 |p :: l,j,v,h=>by
  have e:pvC (p :: l)=pcC p.1 (A3t p.2)++pvC l:=by simp[pvC]
  rw[e]at h;by_cases hj:j<5
  ·rw[A2E (by simpa using hj)]at h;refine⟨p,by rw[Nat.div_eq_of_lt hj];rfl,by rw[Nat.mod_eq_of_lt hj];exact h⟩
  ·rw[A1S (by simp;omega)]at h;have h5:(pcC p.1 (A3t p.2)).length=5:=rfl;rw[h5]at h;obtain⟨q,h1,h2⟩:=C0m h;refine⟨q,?_,?_⟩
   ·rw[show j / 5=(j-5) / 5+1 by omega];exact h1
   ·rw[show j % 5=(j-5) % 5 by omega];exact h2
def PR(ρ : Ren)(p:C8)(x:PV):Prop:=x.1=p.1.mode/\x.2.1=p.1.trig/\x.2.2.1=p.1.ix/\x.2.2.2.1=0/\VRel ρ (A3t p.2) x.2.2.2.2.1
theorem PR.cell{ρ : Ren}{p:C8}{x:PV}(h:PR ρ p x){r:Nat}{v:DV}(hv:(pcC p.1 (A3t p.2))[r]? = some v):v.one=true/\VRel ρ v (A1i x)[r]! := by
 obtain⟨h1,h2,h3,h4,h5⟩:=h;obtain⟨x1,x2,x3,x4,⟨x5,hx⟩⟩:=x;dsimp only at h1 h2 h3 h4 h5;subst h1 h2 h3 h4
 match r with
 |0=>cases hv;exact⟨rfl,.int _ _⟩
 |1=>cases hv;exact⟨rfl,.int _ _⟩
 |2=>cases hv;exact⟨rfl,.int _ _⟩
 |3=>cases hv;exact⟨rfl,.int _ _⟩
 |4=>cases hv;exact⟨rfl,h5⟩
 |_+5=>cases hv
theorem E1e{ρ : Ren}:∀ (l:List C8) (cs:List Value),(∀ (j:Nat) v,(pvC l)[j]? = some v->∃ v',cs[j]? = some v'/\VRel ρ v v')->∃ d:List PV,F2 (PR ρ) l d/\∀ (j:Nat),j<l.length * 5->cs[j]? = some (A1i (d[j / 5]!))[j % 5]!
 |[],cs,_=>⟨[],.nil,fun j hj=>by simp at hj⟩
 |p :: l,cs,h=>by
  have e:pvC (p :: l)=pcC p.1 (A3t p.2)++pvC l:=by simp[pvC]
  obtain⟨v0,a0,b0⟩:=h 0 (I64 p.1.mode) (by rw[e];rfl);obtain⟨v1,a1,b1⟩:=h 1 (I64 p.1.trig) (by rw[e];rfl);obtain⟨v2,a2,b2⟩:=h 2 (I64 p.1.ix) (by rw[e];rfl);obtain⟨v3,a3,b3⟩:=h 3 (I64 0) (by rw[e];rfl);obtain⟨v4,a4,b4⟩:=h 4 (A3t p.2) (by rw[e];rfl);have c0:=b0.int_inv;have c1:=b1.int_inv;have c2:=b2.int_inv;have c3:=b3.int_inv;subst c0 c1 c2 c3;obtain⟨d,hd,hc⟩:=E1e l (cs.drop 5) (fun j v hv=>by
   obtain⟨v',g1,g2⟩:=h (5+j) v (by rw[e,A1S (by simp[pcC])];simpa[pcC] using hv);exact⟨v',by rw[A2J];exact g1,g2⟩)
  refine⟨(p.1.mode,p.1.trig,p.1.ix,0,⟨v4,b4.one rfl⟩) :: d,.cons ⟨rfl,rfl,rfl,rfl,b4⟩ hd,fun j hj=>?_⟩;by_cases hj5:j<5
  ·rw[Nat.div_eq_of_lt hj5,Nat.mod_eq_of_lt hj5]
   match j,hj5 with
   |0,_=>exact a0
   |1,_=>exact a1
   |2,_=>exact a2
   |3,_=>exact a3
   |4,_=>exact a4
  ·have:=hc (j-5) (by simp only[A0K]at hj;omega);rw[A2J,show 5+(j-5)=j by omega]at this;rw[this,show j / 5=(j-5) / 5+1 by omega,show j % 5=(j-5) % 5 by omega];rfl
def D3n(l:List C8):Prop:=l.Pairwise fun a b=>¬ b.1.lt a.1
theorem E4r{ρ : Ren}{H:Hp}{w:World}(hR:Rep ρ H w){id:Nat}{cells:List DV}(hb:H id=some ⟨5,true,cells⟩){t:Tgt}(ht : ρ.nm id=some t)(hm:t.mp=false):
  ∃ cc e,w.heap[t.block]? = some (.cells cc e (0,0))/\t.room=cc.size/\cells.length<=cc.size/\t.unit=5/\t.shift=0/\(∀ (j:Nat) v,cells[j]? = some v->v.one=true/\∃ v',cc[j]? = some v'/\VRel ρ v v'):=by
 obtain⟨cc,e,fr,g1,g2,g3,g4,g5,g6⟩:=hR.look hb ht hm;obtain⟨g8,g7⟩:=g6 rfl;have hfr:fr=(0,0):=by
  rcases g8 with h|⟨h, -⟩
  ·exact h
  ·exact absurd h (by show ¬ (5<=1);omega)
 subst hfr;rw[g7]at g2;simp only[A1J]at g2;refine⟨cc,e,g1,g2,by rw[<- g2];exact g3,g4,g7,fun j v hv=>?_⟩;have:=g5 j v hv;rw[g7]at this;simpa using this
end Go.Sym
namespace Go.Proofs.YtkkjpohaffjecaaGreatDoor
open Go.Sym Go.Lib Go.Pb Go.So Go.Sort Go.Proofs
set_option maxHeartbeats 2000000 in
theorem c_Sort1{H:Hp}{c id:Nat}{l:List C8}(hb:H id=some ⟨5,true,pvC l⟩)(hl:l.length<=1000000):
  AC Tryz.prog 106 [.slc id 0 l.length,.func 107 [] []] H c (fun v H' c'=>v=.tup []/\∃ l':List C8,l.Perm l'/\D3n l'/\H'=H.upd id ⟨5,true,pvC l'⟩):=by
 refine⟨by kernel_rfl,fun ρ w args' hR hf hA=>?_⟩;obtain⟨v0,e0,r0⟩:=hA.get (i:=0) rfl;obtain⟨v1,e1,r1⟩:=hA.get (i:=1) rfl;have hargs:args' = #[v0,v1]:=by
  have hs:args'.size=2:=hA.1.symm;apply Array.ext (by simpa using hs);intro i h1 h2;have:i=0\/i=1:=by omega
  rcases this with rfl|rfl
  ·simpa using (A0V.1 e0).2
  ·simpa using (A0V.1 e1).2
 obtain⟨b1,d1,rfl,k1,k2⟩:=r1.func_inv;have hb1:b1 = #[]:=Array.size_eq_zero_iff.1 (by have:=k1.1;simpa using this.symm);have hd1:d1 = #[]:=Array.size_eq_zero_iff.1 (by have:=k2.1;simpa using this.symm);subst hargs hb1 hd1;cases r0 with
 |slc _ _ _ cap tg htg hc hm hr hmp =>
 obtain⟨cc,e,g1,g2,g3,g4,g7,g5⟩:=E4r hR hb htg hmp;have hbl:tg.block<w.heap.size:=(A0V.1 g1).1;obtain⟨d,hd,hcd⟩:=E1e l cc.toList (fun j v hv=>by
  obtain⟨-,v',h1,h2⟩:=g5 j v hv;exact⟨v',by simpa using h1,h2⟩)
 have hdl:=hd.len;rw[B3h]at g3;have hget:∀ (q:Nat),q<l.length->d.toArray[q]! = d[q]! := fun q hq=>by simp
 have hH:HoldsK A1i 5 w tg.block 0 d.toArray:=by
  intro j hj;have hj2:j<l.length * 5:=by simpa[<- hdl] using hj
  have h3:=hcd j hj2;refine⟨?_,?_⟩
  ·rw[_root_.id,get_flatK _ _ _ _ (by simpa[<- hdl] using hj2),hget _ (by omega)];simp only[World.cell?,A1J,g1];simpa using h3
  ·simp[World.frozen?,g1]
 have hsort:=sortP tg.block cap d.toArray w hH hbl (by simp[<- hdl];omega);have hds:d.toArray.size=l.length:=by simp[hdl]
 rw[hds]at hsort;simp only[g7,A3B];refine hsort.mono ?_;rintro ex w' ⟨rfl,d',n,os,hp,hs,rfl⟩;obtain⟨p1, -,p3⟩:=hp;have hpl:d.Perm d'.toList:=by
  have e1:d.toArray.extract 0 l.length=d.toArray:=by rw[<- hds];simp
  have e2:d'.extract 0 l.length=d':=by rw[<- hds, <- p1];simp
  rw[e1,e2]at p3;simpa using p3.symm
 obtain⟨l',q1,q2⟩:=F2.perm hpl hd;have hl':l'.length=l.length:=q1.length_eq.symm;have hd'l:d'.size=l.length:=p1.trans hds;have hord:D3n l':=by
  unfold D3n;rw[List.pairwise_iff_getElem];intro i j hi hj hij;obtain⟨x,hx,rx⟩:=q2.get (A0B hi);obtain⟨y,hy,ry⟩:=q2.get (A0B hj);have hss:=hs i j (A0O _) hij (by omega);have ei:d'[i]! = x:=by have h:=hx;rw[A3S]at h;rw[getElem!_def,h]
  have ej:d'[j]! = y:=by have h:=hy;rw[A3S]at h;rw[getElem!_def,h]
  rw[ei,ej,C1n,A2C]at hss;intro hlt;apply hss;unfold ltP;unfold Ky.lt at hlt;obtain⟨a1,a2,a3, -⟩:=rx;obtain⟨b1,b2,b3, -⟩:=ry;rw[a1,a2,a3,b1,b2,b3];exact hlt
 have hW:sortWorldK A1i 5 w tg.block 0 n d' os=putRowK A1i 5 (grow (Sort.ahead w n) os) tg.block 0 d':=by
  unfold sortWorldK;exact (putRowK_grow A1i 5 (Sort.ahead w n) os tg.block 0 d' hbl).symm
 rw[hW];have hgr:∀ k,k<w.heap.size->(grow (Sort.ahead w n) os).heap[k]? = w.heap[k]? := fun k hk=>C3z (Sort.ahead w n) os hk;have hR1:Rep ρ H (grow (Sort.ahead w n) os):=hR.grown hgr;have hg1:(grow (Sort.ahead w n) os).heap[tg.block]? = some (.cells cc e (0,0)):=by rw[hgr _ hbl];exact g1
 generalize hX:grow (Sort.ahead w n) os=X at hgr hR1 hg1;have hXs:w.heap.size<=X.heap.size:=by rw[<- hX];simp[grow,Sort.ahead]
 have hXo:X.os=w.os/\X.tape=w.tape/\X.output=w.output:=by rw[<- hX];exact⟨rfl,rfl,rfl⟩
 clear hX hW hsort;have hwo:∀ k,k≠tg.block->(putRowK A1i 5 X tg.block 0 d').heap[k]? = X.heap[k]? := fun k hk=>by
  simp only[putRowK,putRow,mapBlock,Array.getElem?_modify];rw[if_neg (Ne.symm hk)]
 have hw2:(putRowK A1i 5 X tg.block 0 d').heap[tg.block]? = some (.cells (putCells _root_.id 0 (flatK A1i 5 d') cc) e (0,0)):=by
  simp only[putRowK,putRow,mapBlock,Array.getElem?_modify,if_true,hg1];rfl
 have hcs:(putCells _root_.id 0 (flatK A1i 5 d') cc).size=cc.size:=by simp[putCells]
 have hrel:T3 ρ (pvC l') (putCells _root_.id 0 (flatK A1i 5 d') cc) 0:=by
  intro j v hv;have hj:j<l.length * 5:=by have:=(A0J.1 hv).1;rw[B3h,hl']at this;exact this
  obtain⟨pp,h1,h2⟩:=C0m hv;obtain⟨x,hx,rx⟩:=q2.get h1;obtain⟨o1,o2⟩:=rx.cell h2;refine⟨o1,_,?_,o2⟩;have ex:d'[j / 5]! = x:=by have h:=hx;rw[A3S]at h;rw[getElem!_def,h]
  rw[A1J];unfold putCells;rw[Array.getElem?_mapIdx,A2F (show j<cc.size by omega)];simp only[A3P];rw[if_pos ⟨A0O _,by rw[size_flatK,hd'l];omega⟩];rw[_root_.id,Nat.sub_zero,get_flatK _ _ _ _ (by rw[hd'l];exact hj),ex]
 have hrep:=hR1.write hb rfl htg hmp hg1 hcs (cells:=pvC l') (by rw[B3h,hl',g2];exact g3) hrel hwo hw2;refine⟨_,_,_,c, ρ,rfl,⟨rfl,l',q1,hord,rfl⟩,?_,hrep,hf,A0E _,?_,fun _ _=>rfl,?_⟩
 ·exact .tup _ _ rfl (fun i x y hx hy=>by cases hx)
 ·intro j hj hne;by_cases ej:j=id
  ·subst ej;rw[hb];simp
  ·rw[h_ne ej]at hne;exact hne
 ·refine⟨Ren.le_refl _,?_,?_,?_,?_,fun k hk hno=>?_,fun j bj tj g1' g3'=>?_,fun k r h=>.inl h,fun k r h=>.inl h⟩
  ·exact hXo.1
  ·exact hXo.2.1
  ·exact hXo.2.2
  ·rw[size_putRowK];exact hXs
  ·rw[hwo k (fun e=>hno id _ tg hb rfl htg e.symm),hgr k hk]
  ·by_cases ej:j=id
   ·subst ej;rw[htg]at g3';cases g3';exact .inr ⟨_,_,tg,hb,fun _=>rfl,htg,rfl⟩
   ·rw[h_ne ej]at g1';exact .inr ⟨j,bj,tj,g1',fun h=>h,g3',rfl⟩
end Go.Proofs.YtkkjpohaffjecaaGreatDoor
end

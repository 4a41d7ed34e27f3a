/-
  HELPERS of the claim: part 11 of its texts.
-/
import Derived.Test.YtnkkfehegdplgaaGreatDoorCcdj
import Derived.Shelf.SlGeneric
import Derived.Shelf.SlSortCmp.WholeK
import Derived.Shelf.SlicesG.Cmp
import Derived.Ground.SlsfProg
import Derived.Ground.SlgcProg
import Derived.Test.YtnkkfehegdplgaaGreatDoorProg
import Derived.WalkKit
import Derived.Lib.Walk
import Derived.KernelRfl
import Derived.LoopN
import Derived.StillTailTactics
noncomputable section
namespace Go.Proofs
open Go.Shelf
def Tryz.sortP_ren:Go.Shelf.Ren:=⟨fun |6=>47 |15=>86 |14=>85 |28=>133 |29=>134 |20=>125 |21=>126 |22=>127 |23=>128 |24=>129 |25=>130 |26=>131 |27=>132 |46=>176 |47=>177 |48=>178 |49=>179 |50=>180 |57=>207|n=>n,fun |22=>65 |24=>71 |25=>120 |3=>3 |39=>161 |0=>0 |53=>195 |55=>131 |4=>4 |46=>189 |45=>188 |50=>50 |5=>5 |9=>9 |66=>220 |70=>224 |76=>246 |77=>48|n=>n,fun|n=>n⟩
theorem Tryz.sortP:Go.Proofs.SlLaysF0.n6 Tryz.prog Tryz.sortP_ren:={
 mixed:=b8
 f6:=⟨Tryz.f47.name,n7,Tryz.func47.trans (congrArg some (by kernel_rfl))⟩
 f14:=⟨Tryz.f85.name,n7,Tryz.func85.trans (congrArg some (by kernel_rfl))⟩
 f15:=Tryz.func86.trans (congrArg some (by kernel_rfl))
 f20:=⟨Tryz.f125.name,n7,Tryz.func125.trans (congrArg some (by kernel_rfl))⟩
 f21:=⟨Tryz.f126.name,n7,Tryz.func126.trans (congrArg some (by kernel_rfl))⟩
 f22:=⟨Tryz.f127.name,n7,Tryz.func127.trans (congrArg some (by kernel_rfl))⟩
 f23:=⟨Tryz.f128.name,n7,Tryz.func128.trans (congrArg some (by kernel_rfl))⟩
 f24:=⟨Tryz.f129.name,n7,Tryz.func129.trans (congrArg some (by kernel_rfl))⟩
 f25:=⟨Tryz.f130.name,n7,Tryz.func130.trans (congrArg some (by kernel_rfl))⟩
 f26:=⟨Tryz.f131.name,n7,Tryz.func131.trans (congrArg some (by kernel_rfl))⟩
 f27:=⟨Tryz.f132.name,n7,Tryz.func132.trans (congrArg some (by kernel_rfl))⟩
 f28:=Tryz.func133.trans (congrArg some (by kernel_rfl))
 f29:=Tryz.func134.trans (congrArg some (by kernel_rfl))
 f46:=⟨Tryz.f176.name,n7,Tryz.func176.trans (congrArg some (by kernel_rfl))⟩
 f47:=Tryz.func177.trans (congrArg some (by kernel_rfl))
 f48:=Tryz.func178.trans (congrArg some (by kernel_rfl))
 f49:=⟨Tryz.f179.name,n7,Tryz.func179.trans (congrArg some (by kernel_rfl))⟩
 f50:=⟨Tryz.f180.name,n7,Tryz.func180.trans (congrArg some (by kernel_rfl))⟩
 f57:=⟨Tryz.f207.name,n7,Tryz.func207.trans (congrArg some (by kernel_rfl))⟩
 t0:=Tryz.underlying0
 a0:=Tryz.isAgg0
 z0:=Tryz.sizeOf0
 v0:=Tryz.zeroValue0
 t3:=Tryz.underlying3
 a3:=Tryz.isAgg3
 z3:=Tryz.sizeOf3
 v3:=Tryz.zeroValue3
 t4:=Tryz.underlying4
 a4:=Tryz.isAgg4
 z4:=Tryz.sizeOf4
 v4:=Tryz.zeroValue4
 t5:=Tryz.underlying5
 a5:=Tryz.isAgg5
 z5:=Tryz.sizeOf5
 v5:=Tryz.zeroValue5
 t9:=Tryz.underlying9
 a9:=Tryz.isAgg9
 z9:=Tryz.sizeOf9
 v9:=Tryz.zeroValue9
 t22:=Tryz.underlying65
 a22:=Tryz.isAgg65
 z22:=Tryz.sizeOf65
 v22:=Tryz.zeroValue65
 t25:=Tryz.underlying120
 a25:=Tryz.isAgg120
 z25:=Tryz.sizeOf120
 v25:=Tryz.zeroValue120
 t39:=Tryz.underlying161
 a39:=Tryz.isAgg161
 z39:=Tryz.sizeOf161
 v39:=Tryz.zeroValue161
 t45:=Tryz.underlying188
 a45:=Tryz.isAgg188
 z45:=Tryz.sizeOf188
 v45:=Tryz.zeroValue188
 t46:=Tryz.underlying189
 a46:=Tryz.isAgg189
 z46:=Tryz.sizeOf189
 v46:=Tryz.zeroValue189
 t50:=Tryz.underlying50
 a50:=Tryz.isAgg50
 z50:=Tryz.sizeOf50
 v50:=Tryz.zeroValue50
 t53:=Tryz.underlying195
 a53:=Tryz.isAgg195
 z53:=Tryz.sizeOf195
 v53:=Tryz.zeroValue195
 t55:=Tryz.underlying131
 a55:=Tryz.isAgg131
 z55:=Tryz.sizeOf131
 v55:=Tryz.zeroValue131
 t66:=Tryz.underlying220
 a66:=Tryz.isAgg220
 z66:=Tryz.sizeOf220
 v66:=Tryz.zeroValue220
 t70:=Tryz.underlying224
 a70:=Tryz.isAgg224
 z70:=Tryz.sizeOf224
 v70:=Tryz.zeroValue224
 t76:=Tryz.underlying246
 a76:=Tryz.isAgg246
 z76:=Tryz.sizeOf246
 v76:=Tryz.zeroValue246
 t77:=Tryz.underlying48
 a77:=Tryz.isAgg48
 z77:=Tryz.sizeOf48
 v77:=Tryz.zeroValue48 }
def Tryz.cmpI_ren:Go.Shelf.Ren:=⟨fun |5=>50 |7=>87|n=>n,fun |22=>3 |3=>3 |4=>4|n=>n,fun|n=>n⟩
theorem Tryz.cmpI:Go.Proofs.SlLaysC2.n5 Tryz.prog Tryz.cmpI_ren:={
 mixed:=b8
 f5:=⟨Tryz.f50.name,n7,Tryz.func50.trans (congrArg some (by kernel_rfl))⟩
 f7:=⟨Tryz.f87.name,n7,Tryz.func87.trans (congrArg some (by kernel_rfl))⟩
 t3:=Tryz.underlying3
 a3:=Tryz.isAgg3
 z3:=Tryz.sizeOf3
 v3:=Tryz.zeroValue3
 t4:=Tryz.underlying4
 a4:=Tryz.isAgg4
 z4:=Tryz.sizeOf4
 v4:=Tryz.zeroValue4
 t22:=Tryz.underlying3
 a22:=Tryz.isAgg3
 z22:=Tryz.sizeOf3
 v22:=Tryz.zeroValue3 }
end Go.Proofs
set_option linter.unusedVariables false
set_option linter.unusedSimpArgs false
namespace Go.So
open Go.Shelf Go.RowKit Go.Lib Go.Proofs Go.Sort
set_option maxHeartbeats 4000000 in
set_option maxRecDepth 100000 in
theorem F6o(x y z:Int)(b:Nat)(W:World)(h0:W.cell? ⟨b,0,none⟩=some (.int .i64 x))(h1:W.cell? ⟨b,1,none⟩=some (.int .i64 y))(h2:W.cell? ⟨b,2,none⟩=some (.int .i64 z)):
  Calls Tryz.prog 49 #[.slice (some ⟨b,0,none⟩) 3 3] W λe w'=>e=.returned (.int .i64 (if x≠0 then x else if y≠0 then y else z))/\w'=W:=by
 go_enter Tryz.func49,Tryz.ntmps49
 go_wp2
 refine wp_loop_rounds 4 ?_;rw[rounds_succ]
 go_wp2
 all_goals try(rw[rounds_succ];go_wp2)
 all_goals try(rw[rounds_succ];go_wp2)
 all_goals try(rw[rounds_succ];go_wp2)
 all_goals go_ret
 all_goals refine⟨?_,rfl⟩
 all_goals simp_all
abbrev PV:=Int × Int × Int × Int × {v:Value // v.oneCell'=true}
instance:Inhabited PV:=⟨(0,0,0,0,⟨.int .i64 0,rfl⟩)⟩
def A4r(x:PV):List Value:=[.int .i64 x.1,.int .i64 x.2.1,.int .i64 x.2.2.1,.int .i64 x.2.2.2.1,x.2.2.2.2.1]
def cfP(x y:PV):Int:=if Lib.compareInt x.1 y.1≠0 then Lib.compareInt x.1 y.1 else if Lib.compareInt x.2.1 y.2.1≠0 then Lib.compareInt x.2.1 y.2.1 else Lib.compareInt x.2.2.1 y.2.2.1
set_option maxHeartbeats 4000000 in
set_option maxRecDepth 100000 in
theorem D2i(x y:PV)(W:World):Calls Tryz.prog 48 #[.agg (A4r x).toArray,.agg (A4r y).toArray] W λe w'=>e=.returned (.int .i64 (cfP x y))/\∃q os',w'=grow (W.drewN q) os':=by
 have hcon:=λa b W'=>AnyG.cmp_Compare_int Tryz.cmpI a b W'
 change ∀a b W',Calls Tryz.prog 50 _ _ _ at hcon
 obtain⟨x1,x2,x3,x4,⟨x5,hx⟩⟩:=x;obtain⟨y1,y2,y3,y4,⟨y5,hy⟩⟩:=y;obtain⟨R,hR⟩:∃R,R=cfP (x1,x2,x3,x4,⟨x5,hx⟩) (y1,y2,y3,y4,⟨y5,hy⟩):=⟨_,rfl⟩;rw[<- hR];unfold cfP at hR;unfold A4r;dsimp only at hR ⊢
 go_enter Tryz.func48,Tryz.ntmps48
 go_wp2_with fail
 generalize hV:((W.alloc (Obj.cells #[Value.int IntKind.i64 x1,Value.int IntKind.i64 x2,Value.int IntKind.i64 x3,Value.int IntKind.i64 x4,x5] 71)).alloc (Obj.cells #[Value.int IntKind.i64 y1,Value.int IntKind.i64 y2,Value.int IntKind.i64 y3,Value.int IntKind.i64 y4,y5] 71))=V;have f0:∀j v, #[Value.int IntKind.i64 x1,Value.int IntKind.i64 x2,Value.int IntKind.i64 x3,Value.int IntKind.i64 x4,x5][j]? = some v->V.drew.cell? ⟨W.heap.size,j,none⟩=some v:=λj v h=>by
  rw[<- hV];simp only[World.cell?,World.drew,World.alloc];rw[A4A,if_neg (by simp),A4A,if_pos rfl];exact h
 have f1:∀j v, #[Value.int IntKind.i64 y1,Value.int IntKind.i64 y2,Value.int IntKind.i64 y3,Value.int IntKind.i64 y4,y5][j]? = some v->V.drew.cell? ⟨W.heap.size+1,j,none⟩=some v:=λj v h=>by
  rw[<- hV];simp only[World.cell?,World.drew,World.alloc];rw[A4A,if_pos (by simp)];exact h
 have x1c:=f0 0 _ rfl;have x2c:=f0 1 _ rfl;have x3c:=f0 2 _ rfl;have y1c:=f1 0 _ rfl;have y2c:=f1 1 _ rfl;have y3c:=f1 2 _ rfl;have hg:∃os,V=grow W os:=⟨_,by rw[<- hV,alloc_eq_grow,alloc_eq_grow,grow_grow]⟩;clear f0 f1 hV;refine wp_region_still_tail 21 (by kernel_rfl) (by kernel_rfl) ?_;simp only[A0Y,A1J,List.drop_succ_cons,A3V]
 change wpStill _ _ V.drew _ _ _
 generalize V.drew=V2 at *
 repeat still_step
 refine wpStill_step (λK hK=>?_)
 go_simp
 refine⟨_,hcon _ _ _,hK _ ?_⟩;clear hK K
 repeat still_step
 refine wpStill_step (λK hK=>?_)
 go_simp
 refine⟨_,hcon _ _ _,hK _ ?_⟩;clear hK K
 repeat still_step
 refine wpStill_step (λK hK=>?_)
 go_simp
 refine⟨_,hcon _ _ _,hK _ ?_⟩;clear hK K;refine wpStill_nil ?_;generalize compareInt x1 y1=A at *;generalize compareInt x2 y2=B at *;generalize compareInt x3 y3=C at *;have hcell:∀(V:World) j v, #[Value.int IntKind.i64 A,Value.int IntKind.i64 B,Value.int IntKind.i64 C][j]? = some v->((V.alloc (Obj.cells #[Value.int IntKind.i64 A,Value.int IntKind.i64 B,Value.int IntKind.i64 C] 3)).drew).cell? ⟨V.heap.size,j,none⟩=some v:=λV j v h=>by
  simp only[World.cell?,World.drew,World.alloc];rw[A4A,if_pos rfl];exact h
 have hor:=λV=>F6o A B C V.heap.size _ (hcell V 0 _ rfl) (hcell V 1 _ rfl) (hcell V 2 _ rfl);rw[<- hR]at hor;clear hR hcell
 go_wp2_with fail
 refine(hor _).mono ?_;rintro e w' ⟨rfl,rfl⟩
 go_wp2_with fail
 go_ret
 obtain⟨os,hg⟩:=hg;refine⟨rfl,1,os ++ #[Obj.cells #[Value.int IntKind.i64 A,Value.int IntKind.i64 B,Value.int IntKind.i64 C] 3],?_⟩;subst hg;show(grow (W.drewN 1) os).alloc _=_;rw[alloc_eq_grow,grow_grow]
theorem C6a(a b:Int):Lib.compareInt a b=if a<b then -1 else if b<a then 1 else 0:=by
 unfold Lib.compareInt;rfl
def ltP(x y:PV):Prop:=x.1<y.1\/(x.1=y.1/\(x.2.1<y.2.1\/(x.2.1=y.2.1/\x.2.2.1<y.2.2.1)))
instance (x y:PV):Decidable (ltP x y):=by unfold ltP;infer_instance
theorem C8q(x y:PV):ltOf cfP x y=decide (ltP x y):=by
 unfold ltOf cfP ltP;obtain⟨x1,x2,x3,x4⟩:=x;obtain⟨y1,y2,y3,y4⟩:=y;dsimp only;rw[A2G];simp only[A0L,C6a];by_cases a1:x1<y1<;>by_cases a2:y1<x1<;>by_cases b1:x2<y2<;>by_cases b2:y2<x2<;>by_cases c1:x3<y3<;>by_cases c2:y3<x3<;>simp only[a1,a2,b1,b2,c1,c2,if_true,if_false]<;>first|(exfalso;omega)|(simp<;>omega)
theorem F7q:SWO (ltOf cfP) where
 irrefl x:=by rw[C8q];simp[ltP]
 trans x y z h1 h2:=by rw[C8q]at *;simp only[A0L]at *;unfold ltP at *;omega
 ntrans x y z h1 h2:=by rw[C8q]at *;simp only[A1O]at *;unfold ltP at *;omega
theorem E3k(blk off size:Nat)(w:World):CmpLays Tryz.prog 48 #[] A4r 5 cfP blk off size w:=λ_ _ _ _ x y=>D2i x y _
theorem sortP(blk cap:Nat)(d:Array PV)(w:World)(hH:HoldsK A4r 5 w blk 0 d)(hblk:blk<w.heap.size)(hsz:d.size<4611686018427387904):
  Calls Tryz.prog 47 #[.slice (some ⟨blk,0,none⟩) d.size cap,.func (.func 48) #[] #[]] w λe w' =>
   e=.returned (.tuple #[])/\∃d' n os,PermIn 0 d.size d d'/\SortedIn (ltOf cfP) 0 d.size d'/\w'=sortWorldK A4r 5 w blk 0 n d' os:=by
 have eg:∀args w,(callFunc 48 args).run Tryz.prog w=.ok (.enter 48 args) w:=enters_of Tryz.func48 (by kernel_rfl) rfl;exact AnyQ.slices_SortFunc Tryz.sortP 5 Tryz.isAgg71 Tryz.sizeOf71 A4r (λ_=>rfl) (λx v hv=>by
  obtain⟨x1,x2,x3,x4,⟨x5,hx⟩⟩:=x;simp[A4r]at hv;rcases hv with rfl|rfl|rfl|rfl|rfl
  ·rfl
  ·rfl
  ·rfl
  ·rfl
  ·exact hx) cfP F7q 48 #[] blk 0 cap d w eg (E3k blk 0 d.size w) hH hblk hsz
end Go.So
set_option linter.unusedSectionVars false
set_option maxHeartbeats 1000000
namespace Go.Sym
open Go.Eng Go.Lib Go.Pb Go.So Go.Sort Go.Proofs
variable [Go.Sym.Tab]
abbrev A6x(b:List (List Pb.St)):DV:=.lst (b.map G7)
def pvC(l:List D6):List DV:=l.flatMap λp=>pcC p.1 (A6x p.2)
theorem B8e(l:List D6):(pvC l).length=l.length*5:=by
 induction l with
 |nil=>rfl
 |cons p l ih=>rw[pvC,A2B,A0A];unfold pvC at ih;rw[ih];simp only[pcC,A0C,A0M];omega
theorem C7p:∀ {l:List D6} {j:Nat} {v:DV},(pvC l)[j]? = some v->∃p,l[j / 5]? = some p/\(pcC p.1 (A6x p.2))[j%5]? = some v
 |[],j,v,h=>by simp[pvC]at h
 |p::l,j,v,h=>by
  have e:pvC (p::l)=pcC p.1 (A6x p.2)++pvC l:=by simp[pvC]
  rw[e]at h;by_cases hj:j<5
  ·rw[A2K (by simpa using hj)]at h;refine⟨p,by rw[Nat.div_eq_of_lt hj];rfl,by rw[Nat.mod_eq_of_lt hj];exact h⟩
  ·rw[A1W (by simp;omega)]at h;have h5:(pcC p.1 (A6x p.2)).length=5:=rfl;rw[h5]at h;obtain⟨q,h1,h2⟩:=C7p h;refine⟨q,?_,?_⟩
   ·rw[show j / 5=(j-5) / 5+1 by omega];exact h1
   ·rw[show j%5=(j-5)%5 by omega];exact h2
def PR(ρ:Ren)(p:D6)(x:PV):Prop:=x.1=p.1.mode/\x.2.1=p.1.trig/\x.2.2.1=p.1.ix/\x.2.2.2.1=0/\VRel ρ (A6x p.2) x.2.2.2.2.1
theorem PR.cell{ρ:Ren}{p:D6}{x:PV}(h:PR ρ p x){r:Nat}{v:DV}(hv:(pcC p.1 (A6x p.2))[r]? = some v):v.one=true/\VRel ρ v (A4r x)[r]! := by
 obtain⟨h1,h2,h3,h4,h5⟩:=h;obtain⟨x1,x2,x3,x4,⟨x5,hx⟩⟩:=x;dsimp only at h1 h2 h3 h4 h5;subst h1 h2 h3 h4
 match r with
 |0=>cases hv;exact⟨rfl,.int _ _⟩
 |1=>cases hv;exact⟨rfl,.int _ _⟩
 |2=>cases hv;exact⟨rfl,.int _ _⟩
 |3=>cases hv;exact⟨rfl,.int _ _⟩
 |4=>cases hv;exact⟨rfl,h5⟩
 |_+5=>cases hv
theorem F3y{ρ:Ren}:∀(l:List D6) (cs:List Value),(∀(j:Nat) v,(pvC l)[j]? = some v->∃v',cs[j]? = some v'/\VRel ρ v v')->∃d:List PV,F2 (PR ρ) l d/\∀(j:Nat),j<l.length*5->cs[j]? = some (A4r (d[j / 5]!))[j%5]!
 |[],cs,_=>⟨[],.nil,λj hj=>by simp at hj⟩
 |p::l,cs,h=>by
  have e:pvC (p::l)=pcC p.1 (A6x p.2)++pvC l:=by simp[pvC]
  obtain⟨v0,a0,b0⟩:=h 0 (I64 p.1.mode) (by rw[e];rfl);obtain⟨v1,a1,b1⟩:=h 1 (I64 p.1.trig) (by rw[e];rfl);obtain⟨v2,a2,b2⟩:=h 2 (I64 p.1.ix) (by rw[e];rfl);obtain⟨v3,a3,b3⟩:=h 3 (I64 0) (by rw[e];rfl);obtain⟨v4,a4,b4⟩:=h 4 (A6x p.2) (by rw[e];rfl);have c0:=b0.int_inv;have c1:=b1.int_inv;have c2:=b2.int_inv;have c3:=b3.int_inv;subst c0 c1 c2 c3;obtain⟨d,hd,hc⟩:=F3y l (cs.drop 5) (λj v hv=>by
   obtain⟨v',g1,g2⟩:=h (5+j) v (by rw[e,A1W (by simp[pcC])];simpa[pcC] using hv);exact⟨v',by rw[A2F];exact g1,g2⟩)
  refine⟨(p.1.mode,p.1.trig,p.1.ix,0,⟨v4,b4.one rfl⟩)::d,.cons ⟨rfl,rfl,rfl,rfl,b4⟩ hd,λj hj=>?_⟩;by_cases hj5:j<5
  ·rw[Nat.div_eq_of_lt hj5,Nat.mod_eq_of_lt hj5]
   match j,hj5 with
   |0,_=>exact a0
   |1,_=>exact a1
   |2,_=>exact a2
   |3,_=>exact a3
   |4,_=>exact a4
  ·have:=hc (j-5) (by simp only[A0C]at hj;omega);rw[A2F,show 5+(j-5)=j by omega]at this;rw[this,show j / 5=(j-5) / 5+1 by omega,show j%5=(j-5)%5 by omega];rfl
def E4h(l:List D6):Prop:=l.Pairwise λa b=>¬b.1.lt a.1
theorem F8b{ρ:Ren}{H:Hp}{w:World}(hR:Rep ρ H w){id:Nat}{cells:List DV}(hb:H id=some ⟨5,true,cells⟩){t:Tgt}(ht : ρ.nm id=some t)(hm:t.mp=false):
  ∃cc e,w.heap[t.block]? = some (.cells cc e (0,0))/\t.room=cc.size/\cells.length<=cc.size/\t.unit=5/\t.shift=0/\(∀(j:Nat) v,cells[j]? = some v->v.one=true/\∃v',cc[j]? = some v'/\VRel ρ v v'):=by
 obtain⟨cc,e,fr,g1,g2,g3,g4,g5,g6⟩:=hR.look hb ht hm;obtain⟨g8,g7⟩:=g6 rfl;have hfr:fr=(0,0):=by
  rcases g8 with h|⟨h, -⟩
  ·exact h
  ·exact absurd h (by show ¬(5<=1);omega)
 subst hfr;rw[g7]at g2;simp only[A1F]at g2;refine⟨cc,e,g1,g2,by rw[<- g2];exact g3,g4,g7,λj v hv=>?_⟩;have:=g5 j v hv;rw[g7]at this;simpa using this
end Go.Sym
namespace Go.Proofs.YtnkkfehegdplgaaGreatDoor
open Go.Sym Go.Lib Go.Pb Go.So Go.Sort Go.Proofs
set_option maxHeartbeats 2000000 in
theorem c_Sort1{H:Hp}{c id:Nat}{l:List D6}(hb:H id=some ⟨5,true,pvC l⟩)(hl:l.length<=1000000):
  AC Tryz.prog 47 [.slc id 0 l.length,.func 48 [] []] H c (λv H' c'=>v=.tup []/\∃l':List D6,l.Perm l'/\E4h l'/\H'=H.upd id ⟨5,true,pvC l'⟩):=by
 refine⟨b8,fun ρ w args' hR hf hA=>?_⟩;obtain⟨v0,e0,r0⟩:=hA.get (i:=0) rfl;obtain⟨v1,e1,r1⟩:=hA.get (i:=1) rfl;have hargs:args' = #[v0,v1]:=by
  have hs:args'.size=2:=hA.1.symm;apply Array.ext (by simpa using hs);intro i h1 h2;have:i=0\/i=1:=a8
  rcases this with rfl|rfl
  ·simpa using (A0Z.1 e0).2
  ·simpa using (A0Z.1 e1).2
 obtain⟨b1,d1,rfl,k1,k2⟩:=r1.func_inv;have hb1:b1 = #[]:=Array.size_eq_zero_iff.1 (by have:=k1.1;simpa using this.symm);have hd1:d1 = #[]:=Array.size_eq_zero_iff.1 (by have:=k2.1;simpa using this.symm);subst hargs hb1 hd1;cases r0 with
 |slc _ _ _ cap tg htg hc hm hr hmp =>
 obtain⟨cc,e,g1,g2,g3,g4,g7,g5⟩:=F8b hR hb htg hmp;have hbl:tg.block<w.heap.size:=(A0Z.1 g1).1;obtain⟨d,hd,hcd⟩:=F3y l cc.toList (λj v hv=>by
  obtain⟨-,v',h1,h2⟩:=g5 j v hv;exact⟨v',w9,h2⟩)
 have hdl:=hd.len;rw[B8e]at g3;have hget:∀(q:Nat),q<l.length->d.toArray[q]! =d[q]! := λq hq=>by simp
 have hH:HoldsK A4r 5 w tg.block 0 d.toArray:=by
  intro j hj;have hj2:j<l.length*5:=by simpa[<- hdl] using hj
  have h3:=hcd j hj2;refine⟨?_,?_⟩
  ·rw[_root_.id,get_flatK _ _ _ _ (by simpa[<- hdl] using hj2),hget _ (by omega)];simp only[World.cell?,A1F,g1];simpa using h3
  ·simp[World.frozen?,g1]
 have hsort:=sortP tg.block cap d.toArray w hH hbl (by simp[<- hdl];omega);have hds:d.toArray.size=l.length:=by simp[hdl]
 rw[hds]at hsort;simp only[g7,A3C];refine hsort.mono ?_;rintro ex w' ⟨rfl,d',n,os,hp,hs,rfl⟩;obtain⟨p1, -,p3⟩:=hp;have hpl:d.Perm d'.toList:=by
  have e1:d.toArray.extract 0 l.length=d.toArray:=by rw[<- hds];simp
  have e2:d'.extract 0 l.length=d':=by rw[<- hds, <- p1];simp
  rw[e1,e2]at p3;simpa using p3.symm
 obtain⟨l',q1,q2⟩:=F2.perm hpl hd;have hl':l'.length=l.length:=q1.length_eq.symm;have hd'l:d'.size=l.length:=p1.trans hds;have hord:E4h l':=by
  unfold E4h;rw[List.pairwise_iff_getElem];intro i j hi hj hij;obtain⟨x,hx,rx⟩:=q2.get (A0B hi);obtain⟨y,hy,ry⟩:=q2.get (A0B hj);have hss:=hs i j (A0Q _) hij (by omega);have ei:d'[i]! =x:=by have h:=hx;rw[A3R]at h;rw[getElem!_def,h]
  have ej:d'[j]! =y:=by have h:=hy;rw[A3R]at h;rw[getElem!_def,h]
  rw[ei,ej,C8q,A1O]at hss;intro hlt;apply hss;unfold ltP;unfold Ky.lt at hlt;obtain⟨a1,a2,a3, -⟩:=rx;obtain⟨b1,b2,b3, -⟩:=ry;rw[a1,a2,a3,b1,b2,b3];exact hlt
 have hW:sortWorldK A4r 5 w tg.block 0 n d' os=putRowK A4r 5 (grow (Sort.ahead w n) os) tg.block 0 d':=by
  unfold sortWorldK;exact(putRowK_grow A4r 5 (Sort.ahead w n) os tg.block 0 d' hbl).symm
 rw[hW];have hgr:∀k,k<w.heap.size->(grow (Sort.ahead w n) os).heap[k]? = w.heap[k]? := λk hk=>D1s (Sort.ahead w n) os hk;have hR1:Rep ρ H (grow (Sort.ahead w n) os):=hR.grown hgr;have hg1:(grow (Sort.ahead w n) os).heap[tg.block]? = some (.cells cc e (0,0)):=by rw[hgr _ hbl];exact g1
 generalize hX:grow (Sort.ahead w n) os=X at hgr hR1 hg1;have hXs:w.heap.size<=X.heap.size:=by rw[<- hX];simp[grow,Sort.ahead]
 have hXo:X.os=w.os/\X.tape=w.tape/\X.output=w.output:=by rw[<- hX];exact⟨rfl,rfl,rfl⟩
 clear hX hW hsort;have hwo:∀k,k≠tg.block->(putRowK A4r 5 X tg.block 0 d').heap[k]? = X.heap[k]? := λk hk=>by
  simp only[putRowK,putRow,mapBlock,Array.getElem?_modify];rw[if_neg (Ne.symm hk)]
 have hw2:(putRowK A4r 5 X tg.block 0 d').heap[tg.block]? = some (.cells (putCells _root_.id 0 (flatK A4r 5 d') cc) e (0,0)):=by
  simp only[putRowK,putRow,mapBlock,Array.getElem?_modify,if_true,hg1];rfl
 have hcs:(putCells _root_.id 0 (flatK A4r 5 d') cc).size=cc.size:=by simp[putCells]
 have hrel:A0k ρ (pvC l') (putCells _root_.id 0 (flatK A4r 5 d') cc) 0:=by
  intro j v hv;have hj:j<l.length*5:=by have:=(A1G.1 hv).1;rw[B8e,hl']at this;exact this
  obtain⟨pp,h1,h2⟩:=C7p hv;obtain⟨x,hx,rx⟩:=q2.get h1;obtain⟨o1,o2⟩:=rx.cell h2;refine⟨o1,_,?_,o2⟩;have ex:d'[j / 5]! =x:=by have h:=hx;rw[A3R]at h;rw[getElem!_def,h]
  rw[A1F];unfold putCells;rw[Array.getElem?_mapIdx,A2V (show j<cc.size by omega)];simp only[A3O];rw[if_pos ⟨A0Q _,by rw[size_flatK,hd'l];omega⟩];rw[_root_.id,Nat.sub_zero,get_flatK _ _ _ _ (by rw[hd'l];exact hj),ex]
 have hrep:=hR1.write hb rfl htg hmp hg1 hcs (cells:=pvC l') (by rw[B8e,hl',g2];exact g3) hrel hwo hw2;refine⟨_,_,_,c, ρ,rfl,⟨rfl,l',q1,hord,rfl⟩,?_,hrep,hf,A0E _,?_,λ_ _=>rfl,?_⟩
 ·exact .tup _ _ rfl (λi x y hx hy=>by cases hx)
 ·intro j hj hne;by_cases ej:j=id
  ·subst ej;rw[hb];simp
  ·rw[h_ne ej]at hne;exact hne
 ·refine⟨Ren.le_refl _,?_,?_,?_,?_,λk hk hno=>?_,λj bj tj g1' g3'=>?_,λk r h=>.inl h,λk r h=>.inl h⟩
  ·exact hXo.1
  ·exact hXo.2.1
  ·exact hXo.2.2
  ·rw[size_putRowK];exact hXs
  ·rw[hwo k (λe=>hno id _ tg hb rfl htg e.symm),hgr k hk]
  ·by_cases ej:j=id
   ·subst ej;rw[htg]at g3';cases g3';exact .inr ⟨_,_,tg,hb,λ_=>rfl,htg,rfl⟩
   ·rw[h_ne ej]at g1';exact .inr ⟨j,bj,tj,g1',λh=>h,g3',rfl⟩
end Go.Proofs.YtnkkfehegdplgaaGreatDoor
end

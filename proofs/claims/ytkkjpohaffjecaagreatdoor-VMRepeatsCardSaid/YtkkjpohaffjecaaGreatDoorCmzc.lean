/-
  HELPERS of the claim: part 3 of its texts.
-/
import Derived.Test.YtkkjpohaffjecaaGreatDoorCmzb
import Derived.IntWalk
import Derived.Below
import Derived.ChangeSame
noncomputable section
set_option linter.unusedVariables false
set_option linter.unusedSectionVars false
set_option linter.unusedSimpArgs false
namespace Go.Sym
variable [Go.Sym.Tab]
open Go.Eng (Opd FOp AOp EOp IOp IOper DReg isNew D5 I5 K9 X7 W5 P3 chk Lst D1 I6 C0 C9 L9 V5 U0 E9 E0 trO trF trA trE trI Y9 trG trL S1 G9 E2 J7 J8 M4 O2 T3)
section
open Classical
variable {P:Program} {ops:Array Oper} {io:List IOper} {bef:List (List Nat)} {n:Nat} {fr:List Nat} {c0 N:Nat} {T0:Tm}
variable {rest:List (Nat × Option (List Nat))} {done:List Nat} {listed:Array Bool} {s:St} {ρ : Ren} {a:Act} {w:World}
theorem DI.all(hD:DI ops io bef n fr c0 N T0 listed done rest s ρ a w)(hh:rest=[]\/∃ e pend r,rest=(e,some pend) :: r)(hall:∀ i,i<n->Lst listed i):
  rest=[]/\Sim N ρ s a w/\HS c0 listed done s=s.H:=by
 have hno:∀ j,¬ D1 listed done j:=fun j hj=>hj.2 (hall j (hD.dlt j hj.1));have hts:TS io T0 listed done s=s.T:=by funext t;unfold TS;grind
 have hhs:HS c0 listed done s=s.H:=by funext t;unfold HS;grind
 refine⟨?_,⟨by rw[<- hts];exact hD.tm,by rw[<- hhs];exact hD.rep,hD.frs,hD.sz,hD.dfr⟩,hhs⟩;rcases hh with h|⟨e,pend,r,h⟩
 ·omega
 ·have hck:=hD.ck;rw[h]at hck;simp only[chk,A0B,A1J,A0W,A1E,A1F]at hck;exact absurd (hD.lsub e (hall e (by omega))) hck.1.1.1.1.1.1.2
theorem A4x(hb:I5 ops bef n=true)(hn:n=ops.size)(hio:∀ (i:Nat) (o:Oper),ops[i]? = some o->∃ p,io[i]? = some p/\trO P N ops o=some p)
  (hlt:∀ (i:Nat) (o:Oper),ops[i]? = some o->∀ e∈o.after,Region.binds .any e=true->e.on<i) {Q':St->Prop} {Q:Exit->Act->World->Prop} :
  ∀ (fuel:Nat) (listed:Array Bool) (done:List Nat) (rest:List (Nat × Option (List Nat))) (s:St) (ρ : Ren) (a:Act) (w:World),DI ops io bef n fr c0 N T0 listed done rest s ρ a w->dwp P Q' io c0 rest s ->
   (rest=[]\/∃ e pend r,rest=(e,some pend) :: r)->listed.toList.count false=fuel ->
   (∀ ρ' s' a' w',Q' s'->Sim N ρ' s' a' w'->Ext ρ (HS c0 listed done s) w ρ' s'.H w'->(∀ id,id<c0 -> ρ'.nm id = ρ.nm id)->s.c<=s'.c->(∀ id,id<c0->s'.H id≠none->HS c0 listed done s id≠none)->Q .normal a' w') ->
   wpAny P .any ops Q fuel listed a w:=by
 intro fuel;have over:∀ (listed:Array Bool) (done:List Nat) (rest:List (Nat × Option (List Nat))) (s:St) (ρ : Ren) (a:Act) (w:World),DI ops io bef n fr c0 N T0 listed done rest s ρ a w->dwp P Q' io c0 rest s ->
   (rest=[]\/∃ e pend r,rest=(e,some pend) :: r)->(∀ i,i<n->Lst listed i) ->
   (∀ ρ' s' a' w',Q' s'->Sim N ρ' s' a' w'->Ext ρ (HS c0 listed done s) w ρ' s'.H w'->(∀ id,id<c0 -> ρ'.nm id = ρ.nm id)->s.c<=s'.c->(∀ id,id<c0->s'.H id≠none->HS c0 listed done s id≠none)->Q .normal a' w')->Q .normal a w:=by
  intro listed done rest s ρ a w hD hdw hh hall hq;obtain⟨rfl,hS,hhs⟩:=hD.all hh hall;exact hq ρ s a w hdw hS (by rw[hhs];exact Ext.refl _ _ _) (fun _ _=>rfl) (A0C _) (fun id _ h=>by simp_all)
 have noready:∀ (listed:Array Bool),listed.size=n->Region.ready .any ops listed=[]->∀ i,i<n->Lst listed i:=by
  intro listed hsz hr i
  induction i using Nat.strongRecOn with
  |_ i ih =>
   intro hi;refine Classical.byContradiction fun hnl=>?_;have ho:ops[i]? = some (ops[i]'(hn▸hi)):=by simp[hn▸hi]
   have:i∈Region.ready .any ops listed:=by
    rw[mem_ready];refine⟨?_,_,ho,fun e he hbd=>?_⟩
    ·unfold Lst at hnl;have hi':i<listed.size:=by omega
     rw[A1A,A1O hi']at hnl ⊢;simpa using hnl
    ·have:=hlt i _ ho e he hbd;exact ih e.on this (by omega)
   grind
 induction fuel with
 |zero =>
  intro listed done rest s ρ a w hD hdw hh hc hq;have hall:∀ i,i<n->Lst listed i:=fun i hi=>O2 hc (hD.lsz▸hi);refine⟨?_,over listed done rest s ρ a w hD hdw hh hall hq⟩;cases hr:Region.ready .any ops listed with
  |nil=>rfl
  |cons x xs =>
   have hx:x∈Region.ready .any ops listed:=by rw[hr];exact A0D
   rw[mem_ready]at hx;obtain⟨h1,o,ho, -⟩:=hx;have hxn:x<n:=hn▸(A0L.1 ho).1;have h2:=hall x hxn;have hi':x<listed.size:=by have:=hD.lsz;omega
   unfold Lst at h2
   grind
 |succ fuel ih =>
  intro listed done rest s ρ a w hD hdw hh hc hq;refine⟨fun hr=>over listed done rest s ρ a w hD hdw hh (noready listed hD.lsz hr) hq,fun i hi=>?_⟩;rw[mem_ready]at hi;obtain⟨h1,o,ho,hw0⟩:=hi;have hin:i<n:=hn▸(A0L.1 ho).1;have hls:i<listed.size:=by grind
  have hnl:¬ Lst listed i:=by
   unfold Lst
   grind
  have hw:I6 ops (Lst listed) i:=fun o' e he1 he2 he3=>by rw[ho]at he1;cases he1;exact hw0 e he2 he3
  by_cases hid:i∈done
  ·refine A4s hb hn hio hD ⟨hid,hnl⟩ hw fun ρ' a' w' hD' hx hsame=>?_;refine ih _ done rest s ρ' a' w' hD' hdw hh (M4 hls hnl hc) fun ρ2 s2 a2 w2 q2 hS2 hx2 hs2 hc2 hd2=>?_;refine hq ρ2 s2 a2 w2 q2 hS2 (hx.trans hx2) (fun id h=>(hs2 id h).trans (hsame id h)) hc2 fun id h hne=>?_;have:=hd2 id h hne;unfold HS at this ⊢
   grind
  ·rcases hh with rfl|⟨e,pend,r,rfl⟩
   ·rcases hD.cov i hin with h|h
    ·exact absurd h hid
    grind
   ·have hck:=hD.ck;have hck2:=hck;simp only[chk,A0B,A1J,A0W,A0H,A1L,A1E,A1F,A0J]at hck;obtain⟨⟨⟨⟨⟨⟨⟨k1,k2⟩,k3⟩,k4⟩,k5⟩,k6⟩,k7⟩,k8⟩:=hck;have hie:i=e:=by
     refine Classical.byContradiction fun hne=>?_;have hir:i∈r.map (·.1):=by
      rcases hD.cov i hin with h|h
      ·exact absurd h hid
      ·simp only[A0R]at h;cases h with
       |head=>exact absurd rfl hne
       |tail _ h=>exact h
     by_cases hif:i∈fr
     ·rcases k6 i hif with h|h
      ·exact hid h
      ·have:D5 ops i done=true:=C9 (fun o' e' g1 g2 g3=>hD.lsub _ (hw o' e' g1 g2 g3)) ho;rw[this]at h;cases h
     ·have:=J7 r (e :: done) k8 i hir hif e A0D k4;exact k2 (hD.lsub e (L9 hb hD.lcl i hin hw e this))
    subst hie;refine V3 hb hn hio hD hw hdw fun ρ' a' w' s' hD' hdw' hx hsame hcs hdom=>?_;obtain⟨done2,rest2,s2,hD2,hdw2,hh2,hc2,hhs2⟩:=adv hb Q' r _ s' hD' hdw';refine ih _ done2 rest2 s2 ρ' a' w' hD2 hdw2 hh2 (M4 hls hnl hc) fun ρ3 s3 a3 w3 q3 hS3 hx3 hs3 hc3 hd3=>?_;rw[hhs2]at hx3;refine hq ρ3 s3 a3 w3 q3 hS3 (hx.trans hx3) (fun id h=>(hs3 id h).trans (hsame id h)) (by omega) fun id h hne=>?_
    simp_all
theorem Rep.heap{H:Hp}{w':World}(hR:Rep ρ H w)(h:w'.heap=w.heap):Rep ρ H w' :=
 ⟨fun id b hb=>let ⟨t,h1,h2⟩:=hR.blk id b hb;⟨t,h1,h2.world (by rw[h])⟩,hR.sep,fun b r hb=>by rw[h];exact hR.frz b r hb,hR.dis,fun b r hb=>by rw[h];exact hR.frm b r hb⟩
theorem AWp.draw{id:Nat}{d:DReg}(hm:P.follows .mixedOrders=true)(htr:trL P N ops ops.toList=some d.ops)(hok:d.ok ops=true){s:St}{Q:Exit->St->Prop}
  (h:dwp P (Q .normal) d.ops s.c d.plan ⟨s.T,s.H,s.c+ops.size⟩):AWp P N (.region id ops true) s Q:=by
 intro ρ a w hS;unfold DReg.ok at hok;simp only[A0B,A0H,A2J,A1E,A0J]at hok;obtain⟨⟨⟨o1,o2⟩,o3⟩,o4⟩:=hok;have hio:∀ (i:Nat) (o:Oper),ops[i]? = some o->∃ p,d.ops[i]? = some p/\trO P N ops o=some p:=fun i o ho=>T3 htr i o (by grind);have hlt:∀ (i:Nat) (o:Oper),ops[i]? = some o->∀ e∈o.after,Region.binds .any e=true->e.on<i:=by
  intro i o ho e he hb;have hmem:(o,i)∈ops.toList.zipIdx:=by
   rw[List.mem_zipIdx_iff_getElem?];simpa using ho
  have h1:=o3 (o,i) hmem;have h2:=h1 e (by simpa using he)
  simp_all;omega
 let w1:World:={ w with drawn:=w.drawn+1 }
 have hR1:Rep ρ s.H w1:=hS.rep.heap rfl;have hnone:∀ j,s.H (s.c+j)=none:=by
  intro j;cases hc:s.H (s.c+j) with
  |none=>rfl
  |some b =>
   obtain⟨t,h1, -⟩:=hS.rep.blk _ b hc;rw[hS.fresh _ (A0Z _ _)]at h1
   grind
 have hl0:∀ j,¬ Lst (Array.replicate ops.size false) j:=by
  intro j hj;have:=U0 hj;unfold Lst at hj
  simp_all
 have hp0:∀ j,¬ D1 (Array.replicate ops.size false) [] j:=fun j hj=>by cases hj.1
 have hD0:DI ops d.ops d.bef ops.size (P3 d.plan) s.c N s.T (Array.replicate ops.size false) [] d.plan ⟨s.T,s.H,s.c+ops.size⟩ ρ a w1:=by
  refine⟨by simp,o4,fun i hi=>.inr (o2 i hi),by simp,by simp,fun i hi=>absurd hi (hl0 i),fun i hi=>absurd hi (hl0 i),by simp,fun i hi=>J8 _ _ o4 i hi,fun j hj=>absurd hj (hp0 j),?_,?_,fun id hid=>hS.fresh id (by grind),
   fun j hj _=>hS.fresh _ (A0Z _ _),fun j hj _=>⟨hnone j,fun _ _ _ _ _=>rfl⟩,A0C _,hS.size,hS.dfr⟩
  ·have:TS d.ops s.T (Array.replicate ops.size false) [] ⟨s.T,s.H,s.c+ops.size⟩=s.T:=by
    funext t;unfold TS;simp
   rw[this];exact hS.tm
  ·have:HS s.c (Array.replicate ops.size false) [] ⟨s.T,s.H,s.c+ops.size⟩=s.H:=by
    funext t;unfold HS;rw[if_neg];rintro⟨j,hj, -⟩;exact hp0 j hj
   grind
 have hHS0:HS s.c (Array.replicate ops.size false) [] ⟨s.T,s.H,s.c+ops.size⟩=s.H:=by
  funext t;unfold HS;grind
 obtain⟨done1,rest1,s1,hD1,hdw1,hh1,hc1,hhs1⟩:=adv o1 (Q .normal) d.plan [] _ hD0 h;refine wp_region_any hm ?_;refine A4x o1 rfl hio hlt ops.size _ done1 rest1 s1 ρ a w1 hD1 hdw1 hh1 (by simp) fun ρ' s' a' w' q hS' hx hsame hc hdom=>?_;rw[hhs1,hHS0]at hx hdom;have hx0:Ext ρ s.H w ρ s.H w1:=⟨Ren.le_refl _,rfl,rfl,rfl,A0C _,fun _ _ _=>rfl,fun id b t h1 h3=>.inr ⟨id,b,t,h1,fun h=>h,h3,rfl⟩,fun k r h=>.inl h,fun k r h=>.inl h⟩;exact⟨ρ',s',q,hS',⟨by grind,hdom,hsame,hx0.trans hx⟩⟩
end
open Go.Eng (Opd FOp AOp EOp IOp IOper DReg IC RV IFn trC trR S6 G8 opd O8 trO trF trA trE trI Y9 trG trL F0 B6 A2f T8)
def A0r(s:St):List RV->Option (List DV)
 |[]=>some []
 |.tmp t :: r=>match A0r s r with
  |some vs=>some (s.T t :: vs)
  |none=>none
 |.cell a n agg :: r=>match ldv s.H n agg (s.T a),A0r s r with
  |some v,some vs=>some (v :: vs)
  |_,_=>none
def A5q(s:St)(rs:List RV):Option DV :=
 match A0r s rs with
 |some [v]=>some v
 |some vs=>some (.tup vs)
 |none=>none
def IW(P:Program)(N:Nat)(ic:IC)(s:St)(Q:Exit->St->Prop):Prop :=
 P.follows .mixedOrders=true->∀ c,trC P N c=some ic->AWp P N c s Q
def wpI(P:Program)(N:Nat):IC->St->(Exit->St->Prop)->Prop
 |.skip,s,Q=>Q .normal s
 |.reg ops,s,Q=>rwp P (Q .normal) ops s
 |.drw n d,s,Q=>dwp P (Q .normal) d.ops s.c d.plan ⟨s.T,s.H,s.c+n⟩
 |.seq x y,s,Q=>wpI P N x s (R7 (fun s'=>IW P N y s' Q) Q)
 |.cond c x y,s,Q=>match ev s.T c with
  |.bool b=>(b=true->IW P N x s Q)/\(b=false->IW P N y s Q)
  |.ub=>IW P N x s Q/\IW P N y s Q
  |_=>False
 |.blk id x,s,Q=>wpI P N x s (A3a id Q)
 |.loop x,s,Q=>IW P N (.loop x) s Q
 |.exit id,s,Q=>Q (.exit id) s
 |.ret,s,Q=>Q .ret s
 |.bad,s,Q=>False
 |.rg _,s,Q=>False
theorem IW.mono{P:Program}{N:Nat}{ic:IC}{s:St}{Q Q':Exit->St->Prop}(h:IW P N ic s Q)(hq:∀ e s',Q e s'->Q' e s'):IW P N ic s Q' :=
 fun hm c hc=>(h hm c hc).mono hq
theorem IW.of{P:Program}{N:Nat}:∀ {ic:IC} {s:St} {Q:Exit->St->Prop},wpI P N ic s Q->IW P N ic s Q:=by
 intro ic
 induction ic with
 |skip =>
  intro s Q h hm c hc;cases c<;>simp only[trC]at hc<;>(try (cases hc;done))
  ·exact .skip h
  all_goals (repeat' (split at hc))<;>(try (cases hc;done))
  all_goals simp at hc
 |reg ops =>
  intro s Q h hm c hc;cases c<;>simp only[trC]at hc<;>(try (cases hc;done))
  ·rename_i id os dr;split at hc
   ·rename_i io hio;split at hc
    ·cases hc;exact .region hio h
    ·split at hc
     ·cases hc
     ·split at hc<;>cases hc
   grind
  all_goals (repeat' (split at hc))<;>(try (cases hc;done))
  all_goals simp at hc
 |drw n d =>
  intro s Q h hm c hc;cases c<;>simp only[trC]at hc<;>(try (cases hc;done))
  ·rename_i id os dr;split at hc
   ·rename_i io hio;split at hc
    ·cases hc
    ·split at hc
     ·rename_i hok;cases hc;exact .draw (d:=Go.Eng.mkD os io false) hm hio hok h
     ·split at hc
      ·rename_i hok;cases hc;exact .draw (d:=Go.Eng.mkD os io true) hm hio hok h
      ·cases hc
   grind
  all_goals (repeat' (split at hc))<;>(try (cases hc;done))
  all_goals simp at hc
 |seq x y ihx ihy =>
  intro s Q h hm c hc;cases c<;>simp only[trC]at hc<;>(try (cases hc;done))
  case seq a b =>
   split at hc
   ·rename_i x' y' hx hy;cases hc;refine .seq ((ihx h hm a hx).mono fun e s' q=>?_);cases e with
    |normal=>exact q hm b hy
    |_=>exact q
   grind
  all_goals (repeat' (split at hc))<;>(try (cases hc;done))
  all_goals simp at hc
 |cond o x y ihx ihy =>
  intro s Q h hm c hc;cases c<;>simp only[trC]at hc<;>(try (cases hc;done))
  case cond c0 a b =>
   split at hc
   ·rename_i c' x' y' hc0 hx hy;cases hc;simp only[wpI]at h;split at h
    ·rename_i b' hb;refine .cond hc0 hb ?_;cases b' with
     |true=>rw[if_pos rfl];exact h.1 rfl hm a hx
     |false=>rw[if_neg A2T];exact h.2 rfl hm b hy
    ·rename_i hb;exact .condU hc0 hb (h.1 hm a hx) (h.2 hm b hy)
    ·exact h.elim
   grind
  all_goals (repeat' (split at hc))<;>(try (cases hc;done))
  all_goals simp at hc
 |blk id x ih =>
  intro s Q h hm c hc;cases c<;>simp only[trC]at hc<;>(try (cases hc;done))
  case block i b =>
   simp only[A0G]at hc;obtain⟨x',hx,he⟩:=hc;cases he;exact .block (ih h hm b hx)
  all_goals (repeat' (split at hc))<;>(try (cases hc;done))
  simp_all
 |loop x ih=>exact fun h=>h
 |exit id =>
  intro s Q h hm c hc;cases c<;>simp only[trC]at hc<;>(try (cases hc;done))
  case exit i=>cases hc;exact .exit h
  all_goals (repeat' (split at hc))<;>(try (cases hc;done))
  all_goals simp at hc
 |ret =>
  intro s Q h hm c hc;cases c<;>simp only[trC]at hc<;>(try (cases hc;done))
  case ret=>exact .ret h
  all_goals (repeat' (split at hc))<;>(try (cases hc;done))
  all_goals simp at hc
 |bad=>exact fun h=>h.elim
 |rg r=>exact fun h=>h.elim
theorem IW.loop{P:Program}{N:Nat}{x:IC}{s:St}{Q:Exit->St->Prop}(I:Nat->St->Prop)(n:Nat)(h0:I n s)(h:∀ n s,I n s->IW P N x s (R7 (fun s' => ∃ m,m<n/\I m s') Q)):IW P N (.loop x) s Q:=by
 intro hm c hc;cases c<;>simp only[trC]at hc<;>(try (cases hc;done))
 case loop b =>
  simp only[A0G]at hc;obtain⟨x',hx,he⟩:=hc;cases he;exact .loop I h0 fun k s' hi=>h k s' hi hm b hx
 all_goals (repeat' (split at hc))<;>(try (cases hc;done))
 simp_all
def P9(args:List DV):Tm:=fun t=>args.getD t (.tup [])
def A4b(rs:List RV)(Q:DV->Hp->Nat->Prop):Exit->St->Prop
 |.normal,s |.ret,s=>match A5q s rs with
  |some v=>Q v s.H s.c
  |none=>False
 |_,_=>False
theorem N4{P:Program}{ρ : Ren}{w:World}{s:St}{a:Act}(hR:Rep ρ s.H w)(hT:J2 ρ s.T a):∀ (os:List ResultVar) (rs:List RV) (vs:List DV),trR P os=some rs->A0r s rs=some vs ->
  ∃ vs',(os.mapM (A2f a.tmps)).run P w=.ok vs' w/\A8 ρ vs vs'.toArray
 |[],rs,vs,h1,h2=>by
  simp only[trR,Option.some.injEq]at h1;subst h1;simp only[A0r,Option.some.injEq]at h2;subst h2;exact⟨[],rfl,rfl,by simp⟩
 |.tmp t :: os,rs,vs,h1,h2=>by
  simp only[trR,A0G]at h1;obtain⟨rs',h1,rfl⟩:=h1;simp only[A0r]at h2;split at h2
  ·rename_i vs0 hv;cases h2;obtain⟨vs',g1,g2⟩:=N4 hR hT os rs' vs0 h1 hv;refine⟨a.tmps.getD t undef :: vs',?_,by simpa using g2.1,fun i x y hx hy=>?_⟩
   ·simp only[List.mapM_cons,A2f,Sem.run_bind,Sem.run_pure,Result.andThen_ok,g1]
   ·cases i with
    |zero=>simp only[A0S,A2G,Option.some.injEq]at hx hy;subst hx hy;exact hT t
    |succ i=>exact g2.2 i x y (by simpa using hx) (by simpa using hy)
  grind
 |.cell x t :: os,rs,vs,h1,h2=>by
  simp only[trR]at h1;split at h1
  ·rename_i i u rs' hi hu hrs;cases h1;simp only[A0r]at h2;split at h2
   ·rename_i v vs0 hv hvs;cases h2;obtain⟨vs',g1,g2⟩:=N4 hR hT os rs' vs0 hrs hvs;obtain⟨v',g3,g4⟩:=A1c (P:=P) hR hi hu (hT x) hv;have g5:(A2f a.tmps (.cell x t)).run P w=.ok v' w:=by
     have hr:=hT x;unfold ldv at hv;split at hv
     ·rename_i id off he;rw[he]at hr;obtain⟨tg,ht,hmp,hp⟩:=hr.ptr_inv;rw[hp]at g3;simp only[A2f,hp];simpa[Instr.loadAt,Instr.sureAddr,asAddr] using g3
     ·rename_i cs he;rw[he]at hr;obtain⟨b0,off0,row0,hp, -, -⟩:=hr.fptr_inv;rw[hp]at g3;simp only[A2f,hp];simpa[Instr.loadAt,Instr.sureAddr,asAddr] using g3
     ·cases hv
    refine⟨v' :: vs',?_,by simpa using g2.1,fun i x y hx hy=>?_⟩
    ·simp only[List.mapM_cons,Sem.run_bind,g5,Sem.run_pure,Result.andThen_ok,g1]
    ·cases i with
     |zero=>simp only[A0S,A2G,Option.some.injEq]at hx hy;subst hx hy;exact g4
     |succ i=>exact g2.2 i x y (by simpa using hx) (by simpa using hy)
   ·cases h2
  grind
theorem AC.of{P:Program}(hm:P.follows .mixedOrders=true){f:Nat}{i:IFn}(hf:G8 P f i){args:List DV}(hn:args.length<=i.n){H:Hp}{c:Nat}{Q:DV->Hp->Nat->Prop}
  (h:IW P i.n i.body ⟨P9 args,H,c⟩ (A4b i.res Q)):AC P f args H c Q:=by
 unfold G8 at hf;cases hfn:P.funcs[f]? with
 |none=>rw[hfn]at hf;cases hf
 |some fn =>
  rw[hfn,Option.bind_some]at hf;unfold S6 at hf;split at hf
  ·cases hf
  ·rename_i hname;split at hf
   ·rename_i code hbody;split at hf
    ·rename_i b r hb hr;cases hf;refine⟨?_,fun ρ w args' hR hfr hA=>?_⟩
     ·unfold B6
      grind
     ·refine calls_of_wp hfn hbody ?_;have hsz:args'.size=args.length:=by have:=hA.1;omega
      have hS:Sim fn.ntmps ρ ⟨P9 args,H,c⟩ { tmps:=args'++Array.replicate (fn.ntmps-args'.size) undef,defers:=[] } w:=by
       refine⟨fun t=>?_,hR,hfr,?_,rfl⟩
       ·simp only[P9,A1A,Array.getElem?_append,List.getD_eq_getElem?_getD];split
        ·rename_i ht;have h1:args[t]? = some args[t]:=A0F (by omega);have h2:args'[t]? = some args'[t]:=by simp[ht]
         rw[h1,h2];exact hA.2 t _ _ (by simp) h2
        ·rename_i ht;rw[A2K (by omega)];simp only[Option.getD_none];rw[Array.getElem?_replicate];split<;>exact M3 ρ
       grind
      refine wp_mono (h hm code hb ρ _ w hS) fun e a' w' hk=>?_;obtain⟨ρ',s',q,hS',hst⟩:=hk;have fin:∀ v,A5q s' r=some v->Q v s'.H s'.c->a'.defers=[]/\∃ v',(results fn a'.tmps).run P w'=.ok v' w' /\
        ∃ v0 v0' H' c' ρ',Ending.returned v'=.returned v0'/\Q v0 H' c'/\Did ρ H c w v0' w' v0 H' c' ρ':=by
       intro v hv hq;unfold A5q at hv;have key:∀ vs,A0r s' r=some vs->∃ vs':List Value,(results fn a'.tmps).run P w'=.ok (if h:vs'.toArray.size=1 then vs'.toArray[0] else .tuple vs'.toArray) w'/\A8 ρ' vs vs'.toArray:=by
        intro vs hvs;obtain⟨vs',g1,g2⟩:=N4 (P:=P) hS'.rep hS'.tm fn.results.toList r vs hr hvs;refine⟨vs',?_,g2⟩;rw[T8,Array.mapM_eq_mapM_toList,Sem.run_bind,Sem.run_map,g1];rfl
       have did:∀ v',VRel ρ' v v'->Did ρ H c w v' w' v s'.H s'.c ρ':=fun v' hv'=>⟨hv',hS'.rep,hS'.fresh,hst.up,hst.dom,hst.same,hst.ext⟩;refine⟨hS'.dfr,?_⟩;split at hv
       ·rename_i v1 hl;cases hv;obtain⟨vs',g1,g2⟩:=key _ hl;have hlen:vs'.length=1:=by have:=g2.1;simpa using this.symm
        obtain⟨y,rfl⟩:∃ y,vs'=[y]:=by
         cases vs' with
         |nil=>simp at hlen
         |cons y t=>cases t with
          |nil=>exact⟨y,rfl⟩
          |cons z t=>simp at hlen
        refine⟨y,by simpa using g1,v,y,_,_,_,rfl,hq,did y (g2.2 0 v y rfl rfl)⟩
       ·rename_i vs hne hl;cases hv;obtain⟨vs',g1,g2⟩:=key _ hl;have hlen:vs.length=vs'.length:=by have:=g2.1;simpa using this
        have hn1:¬ vs'.toArray.size=1:=by
         intro h1;have h2:vs.length=1:=by rw[hlen];simpa using h1
         cases vs with
         |nil=>simp at h2
         |cons y t=>cases t with
          |nil=>exact hne y rfl
          |cons z t=>simp at h2
        refine⟨.tuple vs'.toArray,by rwa [dif_neg hn1]at g1,_,_,_,_,_,rfl,hq,did _ (.mkTup g2)⟩
       grind
      cases e<;>simp only[A4b]at q
      ·split at q
       ·rename_i v hv;exact fin v hv q
       grind
      ·split at q
       ·rename_i v hv;exact fin v hv q
       grind
    ·cases hf
   ·cases hf
open Go.Eng (Opd FOp AOp EOp IOp IOper DReg IC RV IFn trC S6 G8 B6)
variable {P:Program}
mutual
def DV.nl:DV->Bool
 |.bot=>true
 |.bool _=>true
 |.int _ _=>true
 |.str _=>true
 |.pnil=>true
 |.ptr _ _=>false
 |.snil=>true
 |.slc _ _ _=>false
 |.lst xs=>DV.nlL xs
 |.fptr cs=>DV.nlL cs
 |.fnil=>true
 |.func _ a c=>DV.nlL a && DV.nlL c
 |.inil=>true
 |.iface _ x=>x.nl
 |.agg cs=>DV.nlL cs
 |.tup vs=>DV.nlL vs
 |.mpc _ _ _=>false
 |.mid _=>false
 |.mp _ k v=>DV.nlL k && DV.nlL v
 |.mnil=>true
 |.ub=>true
def DV.nlL:List DV->Bool
 |[]=>true
 |x :: r=>x.nl && DV.nlL r
end
theorem E6:∀ {xs:List DV},DV.nlL xs=true->∀ x∈xs,x.nl=true
 |[],_,x,hx=>by grind
 |y :: r,h,x,hx=>by
  simp only[DV.nlL,A0B]at h;cases hx with
  |head=>grind
  |tail _ hx=>exact E6 h.2 x hx
theorem A5z:∀ {xs:List DV},(∀ x∈xs,x.nl=true)->DV.nlL xs=true
 |[],_=>rfl
 |y :: r,h=>by
  simp only[DV.nlL,A0B];exact⟨h y A0D,A5z fun x hx=>h x (A0A _ hx)⟩
theorem A5y{x:DV}(h:x.nl=true):∀ d∈x.cells,d.nl=true:=by
 cases x<;>simp only[DV.cells,A1V,forall_eq]<;>(try exact h);exact E6 (by assumption)
theorem A4h{xs:List DV}(h:DV.nlL xs=true):∀ d∈A6 xs,d.nl=true:=by
 intro d hd;simp only[A6,List.mem_flatMap]at hd;obtain⟨x,hx,hd⟩:=hd;exact A5y (E6 h x hx) d hd
theorem F6{α : Type}{f : α -> DV}(h:∀ x,(f x).nl=true)(l:List α):DV.nlL (l.map f)=true :=
 A5z fun x hx=>by grind
theorem VRel.nl{ρ ρ':Ren}(hf:∀ b r, ρ.fz b=some r -> ρ'.fz b=some r)(hg:∀ b r, ρ.fm b=some r -> ρ'.fm b=some r){d:DV}{v:Value}(h:VRel ρ d v):d.nl=true->VRel ρ' d v:=by
 induction h with
 |bot v=>exact fun _=>.bot v
 |bool b=>exact fun _=>.bool b
 |int k n=>exact fun _=>.int k n
 |str s=>exact fun _=>.str s
 |pnil=>exact fun _=>.pnil
 |ptr id off t h hm=>intro hn;trivial
 |snil=>exact fun _=>.snil
 |slc id off n c t h hc hm hr hp=>intro hn;trivial
 |lnil0=>exact fun _=>.lnil0
 |lnil a c=>exact fun _=>.lnil a c
 |lst xs n u b off c row h hn hc hm hu hl2 h1 _ ih =>
  intro hnl;simp only[DV.nl]at hnl;exact .lst xs n u b off c row (hf _ _ h) hn hc hm hu hl2 h1 fun k d v hd hv=>ih k d v hd hv (A4h hnl d (A0K hd))
 |fptr cs b off row h hl2 h1 _ ih =>
  intro hnl;simp only[DV.nl]at hnl;exact .fptr cs b off row (hf _ _ h) hl2 h1 fun k d v hd hv=>ih k d v hd hv (E6 hnl d (A0K hd))
 |fnil=>exact fun _=>.fnil
 |func f a b c d h1 _ h3 _ ih1 ih2 =>
  intro hnl;simp only[DV.nl,A0B]at hnl;exact .func f a b c d h1 (fun i x y hx hy=>ih1 i x y hx hy (E6 hnl.1 x (A0K hx))) h3 (fun i x y hx hy=>ih2 i x y hx hy (E6 hnl.2 x (A0K hx)))
 |inil=>exact fun _=>.inil
 |iface t x y _ ih=>intro hnl;simp only[DV.nl]at hnl;exact .iface t x y (ih hnl)
 |agg a b h1 _ ih=>intro hnl;simp only[DV.nl]at hnl;exact .agg a b h1 (fun i x y hx hy=>ih i x y hx hy (E6 hnl x (A0K hx)))
 |tup a b h1 _ ih=>intro hnl;simp only[DV.nl]at hnl;exact .tup a b h1 (fun i x y hx hy=>ih i x y hx hy (E6 hnl x (A0K hx)))
 |mid id t h hm=>intro hn;trivial
 |mp kd ks vs b es h h0 h1 h2 _ _ ih1 ih2 =>
  intro hnl;simp only[DV.nl,A0B]at hnl;exact .mp kd ks vs b es (hg _ _ h) h0 h1 h2 (fun i x e hx he=>ih1 i x e hx he (E6 hnl.1 x (A0K hx))) (fun i x e hx he=>ih2 i x e hx he (E6 hnl.2 x (A0K hx)))
 |mnil=>exact fun _=>.mnil
 |ub b=>exact fun _=>.ub b
theorem A8.nl{ρ ρ':Ren}(hf:∀ b r, ρ.fz b=some r -> ρ'.fz b=some r)(hg:∀ b r, ρ.fm b=some r -> ρ'.fm b=some r){ds:List DV}{vs:Array Value}(h:A8 ρ ds vs)(hn:DV.nlL ds=true):A8 ρ' ds vs :=
 ⟨h.1,fun i x y hx hy=>(h.2 i x y hx hy).nl hf hg (E6 hn x (A0K hx))⟩
theorem AC.call{f:Nat}{args:List DV}{H:Hp}{c:Nat}{Q K:DV->Hp->Nat->Prop}(h:AC P f args H c Q)(hk:∀ v H' c',Q v H' c'->c<=c'->K v H' c'):AC P f args H c K :=
 ⟨h.1,fun ρ w args' h1 h2 h3=>(h.2 ρ w args' h1 h2 h3).mono fun e w' ⟨v,v',H',c', ρ',e1,q,d⟩=>⟨v,v',H',c', ρ',e1,hk _ _ _ q d.up,d⟩⟩
theorem Rep.fresh{ρ : Ren}{H:Hp}{w:World}(hR:Rep ρ H w){c:Nat}(hf:∀ id,c<=id -> ρ.nm id=none):∀ id,c<=id->H id=none:=by
 intro id hid;cases hb:H id with
 |none=>rfl
 |some b =>
  obtain⟨t,ht, -⟩:=hR.blk id b hb
  grind
theorem IW.fresh{N:Nat}{ic:IC}{s:St}{Q:Exit->St->Prop}(h:(∀ id,s.c<=id->s.H id=none)->IW P N ic s Q):IW P N ic s Q :=
 fun hm c hc ρ a w hS=>h (hS.rep.fresh hS.fresh) hm c hc ρ a w hS
def GL(H:Hp)(ds:List DV)(H':Hp)(ds':List DV):Prop :=
 (∀ id,H' id≠none->H id≠none)/\∀ (ρ : Ren) (w:World) (vs:Array Value),Rep ρ H w->A8 ρ ds vs->∃ ρ':Ren, ρ'.nm = ρ.nm/\Rep ρ' H' w/\A8 ρ' ds' vs/\Ext ρ H w ρ' H' w
theorem GL.refl(H:Hp)(ds:List DV):GL H ds H ds:=⟨fun _ h=>h,fun ρ w vs h1 h2=>⟨ρ,rfl,h1,h2,Ext.refl _ _ _⟩⟩
theorem GL.trans{H H' H'':Hp}{ds ds' ds'':List DV}(h:GL H ds H' ds')(k:GL H' ds' H'' ds''):GL H ds H'' ds'' :=
 ⟨fun id hid=>h.1 id (k.1 id hid),fun ρ w vs h1 h2=>by
  obtain⟨ρ1,e1,r1,a1,x1⟩:=h.2 ρ w vs h1 h2;obtain⟨ρ2,e2,r2,a2,x2⟩:=k.2 ρ1 w vs r1 a1;exact⟨ρ2,e2.trans e1,r2,a2,x1.trans x2⟩⟩
theorem Ext.less{ρ : Ren}{H H0:Hp}{w:World}(h:∀ j,H0 j=none\/H0 j=H j):Ext ρ H w ρ H0 w :=
 ⟨Ren.le_refl _,rfl,rfl,rfl,A0C _,fun _ _ _=>rfl,fun id b t h1 h3=>.inr ⟨id,b,t,by
  grind,fun h=>h,h3,rfl⟩,fun k r h=>.inl h,fun k r h=>.inl h⟩
theorem GL.less{H H0:Hp}{ds:List DV}(h:∀ j,H0 j=none\/H0 j=H j):GL H ds H0 ds :=
 ⟨fun id hid=>by grind,fun ρ w vs h1 h2=>⟨ρ,rfl,h1.less h,h2,Ext.less h⟩⟩
theorem GL.less'{H H0:Hp}{ds:List DV}(h:∀ j b,H0 j=some b->H j=some b):GL H ds H0 ds :=
 GL.less fun j=>by
  cases hc:H0 j with
  |none=>simp
  |some b=>grind
mutual
inductive Fz (id:Nat) (b:Blk):DV->DV->Prop where
 |same (d:DV):Fz id b d d
 |bot (d:DV):Fz id b d .bot
 |slc (off n u:Nat) (xs:List DV) (hl:xs.length=n) (hu:∀ x∈xs,x.cells.length=u) (hle:off+n * u<=b.cells.length) (hc:A6 xs=(b.cells.drop off).take (n * u)):Fz id b (.slc id off n) (.lst xs)
 |ptr (off:Nat) (cs:List DV) (hle:off<=b.cells.length) (hc:cs=b.cells.drop off):Fz id b (.ptr id off) (.fptr cs)
 |agg (a a':List DV) (h:FzL id b a a'):Fz id b (.agg a) (.agg a')
 |tup (a a':List DV) (h:FzL id b a a'):Fz id b (.tup a) (.tup a')
 |func (f:Nat) (a a' c c':List DV) (h:FzL id b a a') (h':FzL id b c c'):Fz id b (.func f a c) (.func f a' c')
inductive FzL (id:Nat) (b:Blk):List DV->List DV->Prop where
 |nil:FzL id b [] []
 |cons (x y:DV) (a a':List DV) (h:Fz id b x y) (h':FzL id b a a'):FzL id b (x :: a) (y :: a')
end
theorem FzL.refl{id:Nat}{b:Blk}:∀ (l:List DV),FzL id b l l
 |[]=>.nil
 |x :: r=>.cons _ _ _ _ (.same x) (FzL.refl r)
def Ren.frz(ρ : Ren)(k:Nat)(row:Array Value)(h : ρ.fz k=none):Ren:=⟨ρ.nm,fun j=>if j=k then some row else ρ.fz j,fun p hp=>by
 obtain⟨r,h1,h3⟩ := ρ.tab p hp
 grind, ρ.fm⟩
theorem Ren.le_frz{ρ : Ren}{k:Nat}{row:Array Value}(h : ρ.fz k=none): ρ.le (ρ.frz k row h) :=
 ⟨fun _ _ h=>h,fun b r hb=>by
  unfold Ren.frz
  grind,fun _ _ h=>h⟩
section
variable {ρ : Ren} {H:Hp} {w:World} {id:Nat} {b:Blk} {t:Tgt} {row:Array Value} {hn : ρ.fz t.block=none}
mutual
theorem Fz.rel(hl : ρ.le (ρ.frz t.block row hn))(ht : ρ.nm id=some t)(hs:t.shift=0)(hlen:b.cells.length<=row.size)(hC:G4 ρ b.cells row 0):∀ {d d':DV} {v:Value},Fz id b d d'->VRel ρ d v->VRel (ρ.frz t.block row hn) d' v
 |_,_,v,.same d,h=>h.mono hl
 |_,_,v,.bot d,h=>.bot v
 |_,_,v,.slc off n u xs h1 hu hle hc,h=>by
  cases h with
  |slc _ _ _ c t' ht' hcc hm hr hp =>
   rw[ht]at ht';cases ht';rw[hs,A0O];have hfz:(ρ.frz t.block row hn).fz t.block=some row:=by simp[Ren.frz]
   have hcl:(A6 xs).length=n * u:=by grind
   have hget:∀ (k:Nat) d,(A6 xs)[k]? = some d->b.cells[off+k]? = some d:=by
    grind
   refine .lst xs n u t.block off c row hfz h1.symm hcc hm hu (by omega) (fun d hd=>?_) (fun k d v hd hv=>?_)
   ·obtain⟨k,hk,hkd⟩:=A2B hd;exact (hC _ _ (hget k d (by grind))).1
   ·obtain⟨-,v',e1,e2⟩:=hC _ _ (hget k d hd);rw[A0O,hv]at e1;cases e1;exact e2.mono hl
 |_,_,v,.ptr off cs hle hc,h=>by
  cases h with
  |ptr _ _ t' ht' hp =>
   rw[ht]at ht';cases ht';rw[hs,A0O];have hfz:(ρ.frz t.block row hn).fz t.block=some row:=by simp[Ren.frz]
   have hget:∀ (k:Nat) d,cs[k]? = some d->b.cells[off+k]? = some d:=by
    grind
   refine .fptr cs t.block off row hfz (by grind) (fun d hd=>?_) (fun k d v hd hv=>?_)
   ·obtain⟨k,hk,hkd⟩:=A2B hd;exact (hC _ _ (hget k d (by grind))).1
   ·obtain⟨-,v',e1,e2⟩:=hC _ _ (hget k d hd);rw[A0O,hv]at e1;cases e1;exact e2.mono hl
 |_,_,v,.agg a a' hf,h=>by
  obtain⟨b',rfl,hA⟩:=h.agg_inv;exact .mkAgg (FzL.rel hl ht hs hlen hC hf hA)
 |_,_,v,.tup a a' hf,h=>by
  obtain⟨b',rfl,hA⟩:=h.tup_inv;exact .mkTup (FzL.rel hl ht hs hlen hC hf hA)
 |_,_,v,.func f a a' c c' hf hf',h=>by
  obtain⟨b',d',rfl,hA,hB⟩:=h.func_inv;have h1:=FzL.rel hl ht hs hlen hC hf hA;have h2:=FzL.rel hl ht hs hlen hC hf' hB;exact .func _ _ _ _ _ h1.1 h1.2 h2.1 h2.2
theorem FzL.rel(hl : ρ.le (ρ.frz t.block row hn))(ht : ρ.nm id=some t)(hs:t.shift=0)(hlen:b.cells.length<=row.size)(hC:G4 ρ b.cells row 0):∀ {ds ds':List DV} {vs:Array Value},FzL id b ds ds'->A8 ρ ds vs->A8 (ρ.frz t.block row hn) ds' vs
 |_,_,vs,.nil,h=>⟨h.1,fun i x y hx=>by grind⟩
 |_,_,vs,.cons x y a a' hf hf',h=>by
  obtain⟨h1,h2⟩:=h;have hpos:0<vs.size:=by grind
  have hhd:=Fz.rel hl ht hs hlen hC hf (h2 0 x vs[0] rfl (by simp));have htl:A8 ρ a (vs.toList.tail).toArray:=by
   refine⟨by grind,fun i u v hu hv=>h2 (i+1) u v (by grind) (by grind)⟩
  have htl':=FzL.rel hl ht hs hlen hC hf' htl;refine⟨?_,fun i u v hu hv=>?_⟩
  ·have:=htl'.1
   grind
  ·cases i with
   |zero =>
    grind
   |succ i=>exact htl'.2 i u v (by grind) (by grind)
end
end
section
variable {ρ : Ren} {id:Nat} {b:Blk} {t:Tgt}
mutual
theorem Fz.relm(ht : ρ.nm id=some t)(hm:t.mp=true):∀ {d d':DV} {v:Value},Fz id b d d'->VRel ρ d v->VRel ρ d' v
 |_,_,v,.same d,h=>h
 |_,_,v,.bot d,h=>.bot v
 |_,_,v,.slc off n u xs h1 hu hle hc,h=>by
  cases h with
  |slc _ _ _ c t' ht' hcc hm' hr hp=>grind
 |_,_,v,.ptr off cs hle hc,h=>by
  cases h with
  |ptr _ _ t' ht' hp=>grind
 |_,_,v,.agg a a' hf,h=>by
  obtain⟨b',rfl,hA⟩:=h.agg_inv;exact .mkAgg (FzL.relm ht hm hf hA)
 |_,_,v,.tup a a' hf,h=>by
  obtain⟨b',rfl,hA⟩:=h.tup_inv;exact .mkTup (FzL.relm ht hm hf hA)
 |_,_,v,.func f a a' c c' hf hf',h=>by
  obtain⟨b',d',rfl,hA,hB⟩:=h.func_inv;have h1:=FzL.relm ht hm hf hA;have h2:=FzL.relm ht hm hf' hB;exact .func _ _ _ _ _ h1.1 h1.2 h2.1 h2.2
theorem FzL.relm(ht : ρ.nm id=some t)(hm:t.mp=true):∀ {ds ds':List DV} {vs:Array Value},FzL id b ds ds'->A8 ρ ds vs->A8 ρ ds' vs
 |_,_,vs,.nil,h=>⟨h.1,fun i x y hx=>by grind⟩
 |_,_,vs,.cons x y a a' hf hf',h=>by
  obtain⟨h1,h2⟩:=h;have hpos:0<vs.size:=by grind
  have hhd:=Fz.relm ht hm hf (h2 0 x vs[0] rfl (by simp));have htl:A8 ρ a (vs.toList.tail).toArray:=by
   refine⟨by grind,fun i u v hu hv=>h2 (i+1) u v (by grind) (by grind)⟩
  have htl':=FzL.relm ht hm hf' htl;refine⟨?_,fun i u v hu hv=>?_⟩
  ·have:=htl'.1
   grind
  ·cases i with
   |zero =>
    grind
   |succ i=>exact htl'.2 i u v (by grind) (by grind)
end
end
def FzH(id:Nat)(b:Blk)(H H':Hp):Prop :=
 ∀ j,H' j=none\/(j≠id/\(H' j=H j\/∃ bj bj',H j=some bj/\H' j=some bj'/\bj'.unit=bj.unit/\bj'.own=bj.own/\FzL id b bj.cells bj'.cells/\∀ d∈bj'.cells,d.one=true))
theorem GL.frz{H H':Hp}{ds ds':List DV}{id:Nat}{b:Blk}(hb:H id=some b)(ho:b.own=true)(hH:FzH id b H H')(hd:FzL id b ds ds'):GL H ds H' ds':=by
 refine⟨fun j hj=>?_,fun ρ w vs hR hA=>?_⟩
 ·rcases hH j with h0|⟨-,h0|⟨bj,bj',h1, -⟩⟩
  ·exact absurd h0 hj
  ·rw[<- h0];exact hj
  grind
 ·obtain⟨t,ht,hB⟩:=hR.blk id b hb;obtain⟨ρ2,hl,hnm,hfz,hfm,hdis,hrel⟩:∃ ρ2:Ren, ρ.le ρ2 /\ ρ2.nm = ρ.nm/\(∀ k r, ρ2.fz k=some r -> ρ.fz k=some r\/(k=t.block/\∃ e fr,w.heap[k]? = some (.cells r e fr))) /\ ρ2.fm = ρ.fm /\
    (∀ k,k≠t.block -> ρ2.fz k = ρ.fz k)/\∀ (ds ds':List DV) (vs:Array Value),FzL id b ds ds'->A8 ρ ds vs->A8 ρ2 ds' vs:=by
   rcases hB with ⟨hm,c,e,fr,g1,g2,g3,g4,g5,g6⟩|⟨hm, -⟩
   ·obtain⟨-,g7⟩:=g6 ho;rw[g7]at g2 g5;rw[A0O]at g2;have hnone:=hR.dis id b t hb ho ht;have hl : ρ.le (ρ.frz t.block c hnone):=Ren.le_frz hnone;refine⟨ρ.frz t.block c hnone,hl,rfl,fun k r hk=>?_,rfl,fun k hk=>?_,fun ds ds' vs h1 h2=>FzL.rel hl ht g7 (by omega) g5 h1 h2⟩
    ·simp only[Ren.frz]at hk
     grind
    ·simp only[Ren.frz,if_neg hk]
   ·exact⟨ρ,Ren.le_refl _,rfl,fun k r hk=>.inl hk,rfl,fun _ _=>rfl,fun ds ds' vs h1 h2=>FzL.relm ht hm h1 h2⟩
  have back:∀ j bj',H' j=some bj'->j≠id/\∃ bj,H j=some bj/\bj'.own=bj.own:=by
   intro j bj' hj;rcases hH j with h0|⟨hne,h0|⟨bj,bj2,h1,h2,h3,h4, -⟩⟩
   ·rw[h0]at hj;cases hj
   ·exact⟨hne,bj',by rw[<- h0];exact hj,rfl⟩
   grind
  refine⟨ρ2,hnm,⟨?_,?_,?_,?_,?_⟩,hrel _ _ _ hd hA,?_⟩
  ·intro j bj' hj;rw[hnm];rcases hH j with h0|⟨hne,h0|⟨bj,bj2,h1,h2,h3,h4,h5,h6⟩⟩
   ·grind
   ·obtain⟨tj,q1,q2⟩:=hR.blk j bj' (by grind);exact⟨tj,q1,q2.mono hl⟩
   ·rw[h2]at hj;cases hj;obtain⟨tj,q1,q2⟩:=hR.blk j bj h1;rcases q2 with ⟨qm,cj,ej,frj,r1,r2,r3,r4,r5,r6⟩|⟨qm, -, -,es,cl,kd,ks,vs', -,r2, -⟩
    ·have hA0:A8 ρ bj.cells ((cj.toList.drop tj.shift).take bj.cells.length).toArray:=by
      have hs:=r5.seg (off:=0) (n:=bj.cells.length) (by omega) (by omega);simpa using hs
     have hA1:=hrel _ _ _ h5 hA0;have hlen2:bj'.cells.length=bj.cells.length:=by rw[hA1.1, <- hA0.1]
     refine⟨tj,q1,.inl ⟨qm,cj,ej,frj,r1,r2,by omega,r4.trans h3.symm,fun i v hv=>⟨h6 v (A0K hv),?_⟩,fun ho'=>by rw[h3];exact r6 (h4▸ho')⟩⟩;obtain⟨y,y1,y2⟩:=hA1.get hv
     grind
    ·exfalso;rw[r2]at h5;generalize hcs:bj'.cells=cs at h5 h6;cases h5 with
     |cons x y a a' hf hf' =>
      have hy:=h6 y A0D;cases hf<;>simp[DV.one]at hy
  ·intro i j bi bj ti tj hi hj hij h1 h2 ho';rw[hnm]at h1 h2;obtain⟨-,b1,e1,o1⟩:=back i bi hi;obtain⟨-,b2,e2,o2⟩:=back j bj hj;exact hR.sep i j b1 b2 ti tj e1 e2 hij h1 h2 (o1▸ho')
  ·intro k r hk;rcases hfz k r hk with h1|⟨-,h1⟩
   ·exact hR.frz k r h1
   omega
  ·intro j bj tj hj ho' hjt;rw[hnm]at hjt;obtain⟨hne,b1,e1,o1⟩:=back j bj hj;rw[hdis _ (hR.sep j id b1 b tj t e1 hb hne hjt ht (o1▸ho'))];exact hR.dis j b1 tj e1 (o1▸ho') hjt
  ·intro k es hk;rw[hfm]at hk;refine⟨(hR.frm k es hk).1,fun j bj tj hj ho' hjt=>?_⟩;rw[hnm]at hjt;obtain⟨hne,b1,e1,o1⟩:=back j bj hj;exact (hR.frm k es hk).2 j b1 tj e1 (o1▸ho') hjt
  ·refine⟨hl,rfl,rfl,rfl,A0C _,fun _ _ _=>rfl,fun j bj tj hj hjt=>?_,fun k r hk=>?_,fun k r hk=>.inl (by rw[<- hfm];exact hk)⟩
   ·rw[hnm]at hjt;obtain⟨hne,b1,e1,o1⟩:=back j bj hj;exact .inr ⟨j,b1,tj,e1,fun h=>o1▸h,hjt,rfl⟩
   grind
theorem FzH.less{id:Nat}{b:Blk}{H H':Hp}(h:∀ j,H' j=none\/(j≠id/\H' j=H j)):FzH id b H H':=by
 intro j
 grind
theorem AC.ghost{f:Nat}{args args':List DV}{H H':Hp}{c:Nat}{Q:DV->Hp->Nat->Prop}(g:GL H args H' args')(h:AC P f args' H' c Q):AC P f args H c Q:=by
 refine⟨h.1,fun ρ w vs hR hf hA=>?_⟩;obtain⟨ρ1,e1,r1,a1,x1⟩:=g.2 ρ w vs hR hA;refine (h.2 ρ1 w vs r1 (by grind) a1).mono ?_;rintro e w' ⟨v,v',H2,c2, ρ2,rfl,q,d⟩;exact⟨v,v',H2,c2, ρ2,rfl,q,d.val,d.rep,d.fresh,d.up,fun id hid hne=>g.1 id (d.dom id hid hne),fun id hid=>(d.same id hid).trans (by grind),x1.trans d.ext⟩
theorem AC.post{f:Nat}{args:List DV}{H:Hp}{c:Nat}{Q:DV->Hp->Nat->Prop}(h:AC P f args H c fun v H' c' => ∃ v2 H2,GL H' [v] H2 [v2]/\Q v2 H2 c'):AC P f args H c Q:=by
 refine⟨h.1,fun ρ w vs hR hf hA=>(h.2 ρ w vs hR hf hA).mono ?_⟩;rintro e w' ⟨v,v',H1,c1, ρ1,rfl,⟨v2,H2,g,q⟩,d⟩;have hA1:A8 ρ1 [v] #[v']:=⟨rfl,fun i x y hx hy=>by
  cases i with
  |zero=>simp at hx hy;subst hx hy;exact d.val
  |succ i=>grind⟩
 obtain⟨ρ2,e2,r2,a2,x2⟩:=g.2 ρ1 w' #[v'] d.rep hA1;exact⟨v2,v',H2,c1, ρ2,rfl,q,a2.2 0 v2 v' rfl rfl,r2,by rw[e2];exact d.fresh,d.up,fun id hid hne=>d.dom id hid (g.1 id hne),fun id hid=>by rw[e2];exact d.same id hid,d.ext.trans x2⟩
def tm:List (Nat × DV)->Tm
 |[]=>fun _=>.bot
 |(k,v) :: r=>(tm r).upd k v
theorem A8u{ρ : Ren}{a:Act}:∀ {ks:List Nat} {ds:List DV},(∀ (i k:Nat) (d:DV),ks[i]? = some k->ds[i]? = some d->VRel ρ d (a.tmps.getD k undef))->J2 ρ (tm (ks.zip ds)) a
 |[],ds,h=>fun t=>.bot _
 |k :: ks,[],h=>fun t=>.bot _
 |k :: ks,d :: ds,h=>fun t=>by
  simp only[List.zip_cons_cons,tm,Tm.upd];by_cases e:t=k
  ·subst e;rw[if_pos rfl];exact h 0 _ _ rfl rfl
  ·rw[if_neg e];exact A8u (fun i k d hk hd=>h (i+1) k d hk hd) t
theorem IW.keep{N:Nat}{ic:IC}{T:Tm}{H H':Hp}{c:Nat}{Q:Exit->St->Prop}(ks:List Nat)(ds':List DV)(g:GL H (ks.map T) H' ds')(h:IW P N ic ⟨tm (ks.zip ds'),H',c⟩ Q):IW P N ic ⟨T,H,c⟩ Q:=by
 intro hm cd hc ρ a w hS;have hA:A8 ρ (ks.map T) ((ks.map fun k=>a.tmps.getD k undef)).toArray:=by
  refine⟨by simp,fun i x y hx hy=>?_⟩;simp only[A1G,A0G,A0S]at hx hy;obtain⟨k,hk,rfl⟩:=hx;obtain⟨k',hk',rfl⟩:=hy;rw[hk]at hk';cases hk';exact hS.tm k
 obtain⟨ρ1,e1,r1,a1,x1⟩:=g.2 ρ w _ hS.rep hA;have hS1:Sim N ρ1 ⟨tm (ks.zip ds'),H',c⟩ a w:=by
  refine⟨A8u fun i k d hk hd=>a1.2 i d _ hd (by grind),r1,by rw[e1];exact hS.fresh,hS.size,hS.dfr⟩
 refine wp_mono (h hm cd hc ρ1 a w hS1) fun e a' w' hq=>?_;obtain⟨ρ2,s2,q,hS2,hst⟩:=hq;exact⟨ρ2,s2,q,hS2,⟨hst.up,fun id hid hne=>g.1 id (hst.dom id hid hne),fun id hid=>(hst.same id hid).trans (by grind),x1.trans hst.ext⟩⟩
theorem IW.slots{N:Nat}{ic:IC}{T:Tm}{H:Hp}{c:Nat}{Q:Exit->St->Prop}(ks:List Nat)(h:IW P N ic ⟨tm (ks.zip (ks.map T)),H,c⟩ Q):IW P N ic ⟨T,H,c⟩ Q :=
 IW.keep ks _ (GL.refl _ _) h
def nil:Hp:=fun _=>none
theorem Rep.nil{ρ : Ren}{H:Hp}{w:World}(hR:Rep ρ H w):Rep ⟨fun _=>none, ρ.fz, ρ.tab, ρ.fm⟩ nil w :=
 ⟨fun id b h=>(by cases h),fun i j bi bj ti tj h=>(by simp),hR.frz,fun id b t h=>(by simp),fun k es hk=>⟨(hR.frm k es hk).1,fun id b t h=>(by simp)⟩⟩
theorem AC.lift{f:Nat}{args:List DV}{Q:DV->Prop}(h:AC P f args nil 0 (fun v _ _=>Q v))(hn:DV.nlL args=true)(hq:∀ v,Q v->v.nl=true)(H:Hp)(c:Nat):AC P f args H c (fun v H' c'=>Q v/\H'=H/\c'=c):=by
 refine⟨h.1,fun ρ w vs hR hf hA=>?_⟩;refine (h.2 ⟨fun _=>none, ρ.fz, ρ.tab, ρ.fm⟩ w vs hR.nil (fun _ _=>rfl) (hA.nl (ρ := ρ) (ρ':=⟨fun _=>none, ρ.fz, ρ.tab, ρ.fm⟩) (fun _ _ h=>h) (fun _ _ h=>h) hn)).mono ?_;rintro e w' ⟨v,v',H1,c1, ρ1,rfl,q,d⟩;have hb:=d.ext.below (fun id b hb=>by cases hb);obtain⟨b1,b2,b3,b4,b5⟩:=hb;refine⟨v,v',H,c,⟨ρ.nm, ρ1.fz, ρ1.tab, ρ1.fm⟩,rfl,⟨q,rfl,rfl⟩,d.val.nl (ρ := ρ1) (ρ':=⟨ρ.nm, ρ1.fz, ρ1.tab, ρ1.fm⟩) (fun _ _ h=>h) (fun _ _ h=>h) (hq v q),?_,hf,A0C _,fun _ _ h=>h,fun _ _=>rfl,?_⟩
 ·have hle : ρ.le ⟨ρ.nm, ρ1.fz, ρ1.tab, ρ1.fm⟩:=⟨fun _ _ h=>h,d.ext.le.fz,d.ext.le.fm⟩;refine⟨fun id b hb=>?_,hR.sep,d.rep.frz,fun id b t hb ho ht=>?_,fun k es hk=>⟨(d.rep.frm k es hk).1,fun id b t hb ho ht=>?_⟩⟩
  ·obtain⟨t,ht,hbr⟩:=hR.blk id b hb;exact⟨t,ht,(hbr.mono hle).world (b5 _ hbr.lt)⟩
  ·cases hf1 : ρ1.fz t.block with
   |none=>rfl
   |some r =>
    rcases d.ext.fzn _ _ hf1 with h1|h1|⟨i,b0,t0,e1, -⟩
    ·rw[hR.dis id b t hb ho ht]at h1;cases h1
    ·have:=(hR.lookb hb ht).lt;omega
    trivial
  ·rcases d.ext.fmn _ _ hk with h1|h1|⟨i,b0,t0,e1, -⟩
   ·exact (hR.frm _ _ h1).2 id b t hb ho ht
   ·have:=(hR.lookb hb ht).lt;omega
   trivial
 ·refine⟨⟨fun _ _ h=>h,d.ext.le.fz,d.ext.le.fm⟩,b1,b2,b3,b4,fun k hk _=>b5 k hk,fun id b t h1 h2=>.inr ⟨id,b,t,h1,fun h=>h,h2,rfl⟩,fun k r hk=>?_,fun k r hk=>?_⟩
  ·rcases d.ext.fzn k r hk with h1|h1|⟨i,b0,t0,e1, -⟩
   ·exact .inl h1
   ·exact .inr (.inl h1)
   trivial
  ·rcases d.ext.fmn k r hk with h1|h1|⟨i,b0,t0,e1, -⟩
   ·exact .inl h1
   ·exact .inr (.inl h1)
   trivial
def DV.flat:DV->Bool
 |.tup vs=>vs.all DV.scal
 |.agg vs=>vs.all DV.scal
 |d=>d.scal
theorem VRel.flat{ρ ρ':Ren}{d:DV}{v:Value}(h:VRel ρ d v)(hs:d.flat=true):VRel ρ' d v:=by
 have key:∀ {a:List DV} {b:Array Value},a.all DV.scal=true->A8 ρ a b->A8 ρ' a b:=by
  intro a b ha hA;rw[A0H]at ha;exact⟨hA.1,fun i x y hx hy=>(hA.2 i x y hx hy).scal (ha x (A0K hx))⟩
 unfold DV.flat at hs;split at hs
 ·obtain⟨b,rfl,hA⟩:=h.tup_inv;exact .mkTup (key hs hA)
 ·obtain⟨b,rfl,hA⟩:=h.agg_inv;exact .mkAgg (key hs hA)
 ·exact h.scal hs
theorem AC.lend{f:Nat}{args args':List DV}{Q:DV->Prop}{H H0:Hp}{c:Nat}(g:GL H args H0 args')(h:AC P f args' nil 0 (fun v _ _=>Q v))(hn:DV.nlL args'=true)(hq:∀ v,Q v->v.flat=true):
  AC P f args H c (fun v H' c'=>Q v/\H'=H/\c'=c):=by
 refine⟨h.1,fun ρ w vs hR hf hA=>?_⟩;obtain⟨ρ0,e0,r0,a0,x0⟩:=g.2 ρ w vs hR hA;refine (h.2 ⟨fun _=>none, ρ0.fz, ρ0.tab, ρ0.fm⟩ w vs r0.nil (fun _ _=>rfl) (a0.nl (ρ := ρ0) (ρ':=⟨fun _=>none, ρ0.fz, ρ0.tab, ρ0.fm⟩) (fun _ _ h=>h) (fun _ _ h=>h) hn)).mono ?_;rintro e w' ⟨v,v',H1,c1, ρ1,rfl,q,d⟩;have hb:=d.ext.below (fun id b hb=>by cases hb);obtain⟨b1,b2,b3,b4,b5⟩:=hb;refine⟨v,v',H,c, ρ,rfl,⟨q,rfl,rfl⟩,d.val.flat (hq v q),⟨fun id b hb=>?_,hR.sep,fun b r hb=>?_,hR.dis,fun b r hb=>?_⟩,hf,A0C _,fun _ _ h=>h,fun _ _=>rfl,?_⟩
 ·obtain⟨t,ht,hbr⟩:=hR.blk id b hb;exact⟨t,ht,hbr.world (b5 _ hbr.lt)⟩
 ·obtain⟨e,fr,h1⟩:=hR.frz b r hb
  grind
 ·obtain⟨⟨cl,h1,hst⟩,h2⟩:=hR.frm b r hb
  grind
 ·exact⟨Ren.le_refl _,b1,b2,b3,b4,fun k hk _=>b5 k hk,fun id b t h1 h2=>.inr ⟨id,b,t,h1,fun h=>h,h2,rfl⟩,fun k r hk=>.inl hk,fun k r hk=>.inl hk⟩
structure PC (P:Program) (f:Nat) (args:List DV) (r:DV):Prop where
 na:DV.nlL args=true
 nr:r.nl=true
 ac:AC P f args nil 0 (fun v _ _=>v=r)
theorem PC.at{f:Nat}{args:List DV}{r:DV}(h:PC P f args r)(H:Hp)(c:Nat):AC P f args H c (fun v H' c'=>v=r/\H'=H/\c'=c) :=
 h.ac.lift h.na (fun v e=>by rw[e];exact h.nr) H c
theorem PC.of(hm:P.follows .mixedOrders=true){f:Nat}{i:IFn}(hf:G8 P f i){args:List DV}(hn:args.length<=i.n){r:DV}(na:DV.nlL args=true)(nr:r.nl=true)
  (h:IW P i.n i.body ⟨P9 args,nil,0⟩ (A4b i.res fun v H' _ => ∃ H2,GL H' [v] H2 [r])):PC P f args r :=
 ⟨na,nr,AC.post (AC.of hm hf hn (h.mono fun e s' q=>by
  grind))⟩
theorem AC.body(hm:P.follows .mixedOrders=true){f:Nat}{i:IFn}(hf:G8 P f i){args:List DV}(hn:args.length<=i.n){H:Hp}{c:Nat}{Q:DV->Hp->Nat->Prop}
  (h:(∀ id,c<=id->H id=none)->IW P i.n i.body ⟨P9 args,H,c⟩ (A4b i.res fun v H' c' => ∃ v2 H2,GL H' [v] H2 [v2]/\Q v2 H2 c')):AC P f args H c Q :=
 AC.post (AC.of hm hf hn (IW.fresh h))
end Go.Sym
namespace Go.Sym
variable [Go.Sym.Tab]
open Go.Eng (KKey Opd FOp AOp EOp IOp IOper DReg IC RV IFn trC S6 G8 B6)
variable {P:Program} {N:Nat} {Q:Exit->St->Prop} {R:St->Prop} {s:St} {x y:IC} {os:List IOper} {T:Tm} {H:Hp} {c:Nat} {dst:Option Nat} {v:DV}
def nx(P:Program)(N:Nat)(y:IC)(Q:Exit->St->Prop):St->Prop:=fun s=>IW P N y s Q
def sq(P:Program)(N:Nat)(y:IC)(Q:Exit->St->Prop):Exit->St->Prop:=R7 (nx P N y Q) Q
def bk(id:Nat)(Q:Exit->St->Prop):Exit->St->Prop:=A3a id Q
def no(Q:Exit->St->Prop):St->Prop:=Q .normal
def rt(rs:List RV)(Q:DV->Hp->Nat->Prop):Exit->St->Prop:=A4b rs Q
def B3c(P:Program)(R:St->Prop)(os:List IOper)(T:Tm)(H:Hp)(c:Nat)(dst:Option Nat):Option DV->Prop
 |some v=>rwp P R os ⟨A9 T dst v,H,c⟩
 |none=>False
def B3h(P:Program)(R:St->Prop)(os:List IOper)(T:Tm)(H:Hp)(c:Nat)(dst:Option Nat):Option (Option Nat × Blk)->Prop
 |some (k,b)=>rwp P R os ⟨A9 T dst (mkv c k),H.upd c b,c+1⟩
 |none=>False
def B1s(P:Program)(R:St->Prop)(os:List IOper)(T:Tm)(dst:Option Nat):Option (DV × Hp × Nat)->Prop
 |some (v,H',c')=>rwp P R os ⟨A9 T dst v,H',c'⟩
 |none=>False
def A8n(P:Program)(R:St->Prop)(os:List IOper)(T:Tm)(dst:Option Nat)(v:DV)(H:Hp)(c:Nat):Prop:=rwp P R os ⟨A9 T dst v,H,c⟩
def B5g(P:Program)(R:St->Prop)(os:List IOper)(T:Tm)(H:Hp)(c:Nat)(dst:Option Nat)(args:List DV):DV->Prop
 |.func f a cs=>AC P f (a++args++cs) H c (A8n P R os T dst)
 |_=>False
def A0b(P:Program)(R:St->Prop)(dst:Option Nat)(op:IOp)(os:List IOper)(T:Tm)(H:Hp)(c:Nat):Option Bool->Prop
 |some true=>rwp P R (⟨dst,op,none⟩ :: os) ⟨T,H,c⟩
 |some false=>rwp P R os ⟨A9 T dst (.tup []),H,c⟩
 |none=>False
def T1(P:Program)(N:Nat)(x y:IC)(s:St)(Q:Exit->St->Prop):DV->Prop
 |.bool b=>(b=true->IW P N x s Q)/\(b=false->IW P N y s Q)
 |.ub=>IW P N x s Q/\IW P N y s Q
 |_=>False
theorem A6k(h:IW P N x s (sq P N y Q)):IW P N (.seq x y) s Q:=by
 intro hm c hc;cases c<;>simp only[trC]at hc<;>(try (cases hc;done))
 case seq a b =>
  split at hc
  ·rename_i x' y' hx hy;cases hc;refine .seq ((h hm a hx).mono fun e s' q=>?_);cases e with
   |normal=>exact q hm b hy
   |_=>exact q
  grind
 all_goals (repeat' (split at hc))<;>(try (cases hc;done))
 all_goals simp at hc
theorem B1d(h:rwp P (nx P N y Q) os s):IW P N (.seq (.reg os) y) s Q:=IW.of h
theorem A6l{n:Nat}{d:DReg}(h:dwp P (nx P N y Q) d.ops s.c d.plan ⟨s.T,s.H,s.c+n⟩):IW P N (.seq (.drw n d) y) s Q:=IW.of h
theorem B4a(h:rwp P (no Q) os s):IW P N (.reg os) s Q:=IW.of h
theorem A9b{n:Nat}{d:DReg}(h:dwp P (no Q) d.ops s.c d.plan ⟨s.T,s.H,s.c+n⟩):IW P N (.drw n d) s Q:=IW.of h
theorem A6m{o:Opd}(h:T1 P N x y s Q (ev s.T o)):IW P N (.cond o x y) s Q:=by
 refine IW.of ?_;assumption
theorem A7y{o:Opd}{z:IC}(h:T1 P N x y s (sq P N z Q) (ev s.T o)):IW P N (.seq (.cond o x y) z) s Q:=A6k (A6m h)
theorem A9c{id:Nat}(h:IW P N x s (bk id Q)):IW P N (.blk id x) s Q:=by
 intro hm c hc;cases c<;>simp only[trC]at hc<;>(try (cases hc;done))
 case block i b =>
  simp only[A0G]at hc;obtain⟨x',hx,he⟩:=hc;cases he;exact .block (h hm b hx)
 all_goals (repeat' (split at hc))<;>(try (cases hc;done))
 simp_all
theorem B1f{id:Nat}(h:Q (.exit id) s):IW P N (.exit id) s Q:=IW.of h
theorem B3z(h:Q .ret s):IW P N .ret s Q:=IW.of h
theorem B1e(h:Q .normal s):IW P N .skip s Q:=IW.of h
theorem B6v:nx P N y Q ⟨T,H,c⟩=IW P N y ⟨T,H,c⟩ Q:=propext Iff.rfl
theorem B6w:no Q s=Q .normal s:=propext Iff.rfl
theorem B6q:sq P N y Q .normal ⟨T,H,c⟩=IW P N y ⟨T,H,c⟩ Q:=propext Iff.rfl
theorem B6p:sq P N y Q .ret s=Q .ret s:=propext Iff.rfl
theorem B6r{i:Nat}:sq P N y Q (.exit i) s=Q (.exit i) s:=propext Iff.rfl
theorem B7i{i:Nat}:bk i Q .normal s=Q .normal s:=propext Iff.rfl
theorem B7h{i:Nat}:bk i Q .ret s=Q .ret s:=propext Iff.rfl
theorem B7j{i:Nat}:bk i Q (.exit i) s=Q .normal s:=if_pos rfl
theorem B6u{t:Nat}{q:DV->Hp->Nat->Prop}:rt [.tmp t] q .ret ⟨T,H,c⟩=q (T t) H c:=propext Iff.rfl
theorem B6t{t u:Nat}{q:DV->Hp->Nat->Prop}:rt [.tmp t,.tmp u] q .ret ⟨T,H,c⟩=q (.tup [T t,T u]) H c:=propext Iff.rfl
theorem B6s{t u w z:Nat}{q:DV->Hp->Nat->Prop}:rt [.tmp t,.tmp u,.tmp w,.tmp z] q .ret ⟨T,H,c⟩=q (.tup [T t,T u,T w,T z]) H c:=propext Iff.rfl
theorem B6x{q:DV->Hp->Nat->Prop}:rt [] q .normal ⟨T,H,c⟩=q (.tup []) H c:=propext Iff.rfl
theorem B3p:rwp P R [] s=R s:=propext Iff.rfl
theorem B3o{f:FOp}:rwp P R (⟨dst,.pur f,none⟩ :: os) ⟨T,H,c⟩=B3c P R os T H c dst (fev H (ev T) f):=by
 rfl
theorem B3q{f:AOp}:rwp P R (⟨dst,.new f,none⟩ :: os) ⟨T,H,c⟩=B3h P R os T H c dst (aev (ev T) f):=by
 rfl
theorem B3s{f:EOp}:rwp P R (⟨dst,.eff f,none⟩ :: os) ⟨T,H,c⟩=B1s P R os T dst (eev H c (ev T) f):=by
 rfl
theorem B0v{f:Nat}{as:List Opd}:rwp P R (⟨dst,.call f as,none⟩ :: os) ⟨T,H,c⟩=AC P f (as.map (ev T)) H c (A8n P R os T dst):=propext Iff.rfl
theorem B3t{o:Opd}{as:List Opd}:rwp P R (⟨dst,.callv o as,none⟩ :: os) ⟨T,H,c⟩=B5g P R os T H c dst (as.map (ev T)) (ev T o):=by
 rfl
theorem B3u{f:Nat}{a cs args:List DV}:B5g P R os T H c dst args (.func f a cs)=AC P f (a++args++cs) H c (A8n P R os T dst):=propext Iff.rfl
theorem B0u:B3c P R os T H c dst (some v)=rwp P R os ⟨A9 T dst v,H,c⟩:=propext Iff.rfl
theorem A7u{k:Option Nat}{b:Blk}:B3h P R os T H c dst (some (k,b))=rwp P R os ⟨A9 T dst (mkv c k),H.upd c b,c+1⟩:=propext Iff.rfl
theorem A7v{H':Hp}{c':Nat}:B1s P R os T dst (some (v,H',c'))=rwp P R os ⟨A9 T dst v,H',c'⟩:=propext Iff.rfl
theorem B7k{H':Hp}{c':Nat}:A8n P R os T dst v H' c'=rwp P R os ⟨A9 T dst v,H',c'⟩:=propext Iff.rfl
theorem B3r{op:IOp}{t:Nat}{b:Bool}:rwp P R (⟨dst,op,some (t,b)⟩ :: os) ⟨T,H,c⟩=A0b P R dst op os T H c (X0 (T t) b):=by
 rfl
theorem B7b{op:IOp}:A0b P R dst op os T H c (some true)=rwp P R (⟨dst,op,none⟩ :: os) ⟨T,H,c⟩:=propext Iff.rfl
theorem B7c{op:IOp}:A0b P R dst op os T H c (some false)=rwp P R os ⟨A9 T dst (.tup []),H,c⟩:=propext Iff.rfl
theorem B0t{b d:Bool}:X0 (.bool b) d=some (b == d):=id rfl
theorem B6o{d:Bool}:X0 (.tup []) d=some false:=id rfl
theorem B7e:T1 P N x y s Q (.bool true)=IW P N x s Q:=by
 apply propext;constructor
 ·intro h;exact h.1 rfl
 ·intro h;exact⟨fun _=>h,fun e=>(by cases e)⟩
theorem B7f:T1 P N x y s Q (.bool false)=IW P N y s Q:=by
 apply propext;constructor
 ·intro h;exact h.2 rfl
 ·intro h;exact⟨fun e=>(by cases e),fun _=>h⟩
theorem B7g{b:Bool}(h1:b=true->IW P N x s Q)(h2:b=false->IW P N y s Q):T1 P N x y s Q (.bool b):=⟨h1,h2⟩
theorem B7d{op:IOp}{b d:Bool}(h1:b=true->A0b P R dst op os T H c (some (true == d)))(h2:b=false->A0b P R dst op os T H c (some (false == d))):A0b P R dst op os T H c (some (b == d)):=by
 cases b
 ·exact h2 rfl
 grind
theorem Z7{o:Option (DV × Hp × Nat)}{H':Hp}{c':Nat}(h:o=some (v,H',c'))(k:rwp P R os ⟨A9 T dst v,H',c'⟩):B1s P R os T dst o:=by rw[h];exact k
theorem A9l{d:Nat}:A9 T (some d) v=T.upd d v:=id rfl
theorem A9n:A9 T none v=T:=id rfl
theorem A9m{d:Nat}:T.upd d v d=v:=by simp[Tm.upd]
theorem B5w{d j:Nat}(h:¬ j=d):T.upd d v j=T j:=by simp[Tm.upd,h]
theorem A9t{k:Nat}{r:List (Nat × DV)}:tm ((k,v) :: r) k=v:=by simp[tm,Tm.upd]
theorem B5x{k j:Nat}{r:List (Nat × DV)}(h:¬ j=k):tm ((k,v) :: r) j=tm r j:=by simp[tm,Tm.upd,h]
theorem A7{id:Nat}{b:Blk}:(H.upd id b) id=some b:=by simp[Hp.upd]
theorem L0{id j:Nat}{b:Blk}(h:¬ j=id):(H.upd id b) j=H j:=by simp[Hp.upd,h]
theorem hnO{id j:Nat}{b:Blk}(h:¬ j=id:=by omega):(H.upd id b) j=H j:=L0 h
theorem dtz{a b:Nat}(h:a<b):decide ((a:Int)<(b:Int))=true:=by simpa using h
theorem dfz{a b:Nat}(h:¬ a<b):decide ((a:Int)<(b:Int))=false:=by simpa using h
theorem A0a{id:Nat}:(H.del id) id=none:=by simp[Hp.del]
theorem S0{id j:Nat}(h:¬ j=id):(H.del id) j=H j:=by simp[Hp.del,h]
theorem B4b{j:Nat}:nil j=none:=id rfl
theorem C4{id:Nat}{b b':Blk}:(H.upd id b).upd id b'=H.upd id b':=by
 funext j;simp only[Hp.upd];grind
theorem e_t{n:Nat}:ev T (.t n)=T n:=id rfl
theorem e_k{v:Value}:ev T (.k v)=inj v:=id rfl
theorem e_f{n:Nat}:ev T (.f n)=.func n [] []:=id rfl
theorem a_0{r:List DV}:P9 (v :: r) 0=v:=id rfl
theorem a_1{a b:DV}{r:List DV}:P9 (a :: b :: r) 1=b:=id rfl
theorem a_2{a b d:DV}{r:List DV}:P9 (a :: b :: d :: r) 2=d:=id rfl
theorem a_3{a b d e:DV}{r:List DV}:P9 (a :: b :: d :: e :: r) 3=e:=id rfl
theorem B1c{b:Bool}:inj (.bool b)=.bool b:=id rfl
theorem B3w{k:IntKind}{n:Int}:inj (.int k n)=.int k n:=id rfl
theorem B3v{a:Array UInt8}:inj (.string ⟨a⟩)=.str a.toList:=id rfl
theorem B1a:inj (.pointer none)=.pnil:=id rfl
theorem B0y:inj (.slice none 0 0)=.snil:=id rfl
theorem B1b:inj .nilFunc=.fnil:=id rfl
theorem B3x{a:List Value}:inj (.agg ⟨a⟩)=.agg (a.map injS):=id rfl
theorem A7x{b:Bool}:injS (.bool b)=.bool b:=id rfl
theorem B0z{k:IntKind}{n:Int}:injS (.int k n)=.int k n:=id rfl
theorem B0x{a:Array UInt8}:injS (.string ⟨a⟩)=.str a.toList:=id rfl
theorem A7w:injS (.slice none 0 0)=.snil:=id rfl
section
variable {e:Opd->DV} {a b o:Opd} {n off sz:Nat}
theorem B8b:fev H e (.mv o)=some (e o):=id rfl
theorem B1k:fev H e (.pick o a b)=A0s (e o) (e a) (e b):=id rfl
theorem B8d{g:Bool}:fev H e (.ld n g o)=ldv H n g (e o):=id rfl
theorem B4r:fev H e (.fad off o)=A4t off (e o):=id rfl
theorem B4q:fev H e (.iad sz a b)=U7 sz (e a) (e b):=id rfl
theorem B4p:fev H e (.idx a b)=A6i (e a) (e b):=id rfl
theorem B4s:fev H e (.ext o n)=A8b n (e o):=id rfl
theorem B4m:fev H e (.nck o)=A7p (e o):=id rfl
theorem B4x{op:BinOp}:fev H e (.bin op a b)=binR op (e a) (e b):=id rfl
theorem B4t{g:Bool}{kd:Nat}:fev H e (.eqn g kd a b)=A2t g kd (e a) (e b):=id rfl
theorem B4u{g:Bool}{ks:List Nat}:fev H e (.eqa g ks a b)=A4u g ks (e a) (e b):=id rfl
theorem B7z{op:UnOp}:fev H e (.un op a)=unR op (e a):=id rfl
theorem B4v{k:IntKind}:fev H e (.cvi k a)=A8l k (e a):=id rfl
theorem B4l{lo hi:Option Opd}:fev H e (.slc sz a lo hi)=W6 H sz (e a) (lo.map e) (hi.map e):=id rfl
theorem B4n{f:Nat}{p q:List Opd}:fev H e (.mkf f p q)=some (.func f (p.map e) (q.map e)):=id rfl
theorem B4w{z:Array Value}{pl:List (Nat × Nat)}{ps:List (Nat × Opd)}:fev H e (.bld z pl ps)=A6y (z.toList.map injS) pl (ps.map fun p=>(p.1,e p.2)):=id rfl
theorem B4o:fev H e (.len a)=A2n (e a):=id rfl
theorem B1l:fev H e (.lens a)=A3p (e a):=id rfl
theorem B8c:fev H e (.mn a b)=mnR (e a) (e b):=id rfl
theorem B8a:fev H e (.mx a b)=mxR (e a) (e b):=id rfl
theorem B4f:aev e (.box a)=A4z (e a):=id rfl
theorem B4e{z:Array Value}{ps:List (Nat × Opd)}:aev e (.bsl sz n z ps)=A8o sz n (z.toList.map injS) (ps.map fun p=>(p.1,e p.2)):=id rfl
theorem B4d{z:Array Value}{bytes:Nat}:aev e (.msl sz bytes z a b)=A6b sz bytes (z.toList.map injS) (e a) (e b):=id rfl
theorem B7o:eev H c e (.st n a b)=stR H c n (e a) (e b):=id rfl
theorem B4g{bytes:Nat}:eev H c e (.app sz bytes a b)=apX H c sz bytes (e a) (O6 H sz (e b)):=id rfl
end
section
variable {kd:KKey} {ks vs:List DV} {k z:DV} {id u i:Nat} {own ok:Bool} {s:List UInt8} {n:Int} {ik:IntKind} {b:Bool}
end
def ldB(n:Nat)(agg:Bool)(off:Nat):Option Blk->Option DV
 |some b=>match agg with
  |true=>match Nat.ble (off+n) b.cells.length with
   |true=>some (.agg ((b.cells.drop off).take n))
   |false=>none
  |false=>b.cells[off]?
 |none=>none
def A6j(sz:Nat):Option DV->Option DV
 |some y=>if y.cells.length=sz then some (.fptr y.cells) else none
 |none=>none
def chO:Option UInt8->Option DV
 |some d=>some (.int .u8 d.toNat)
 |none=>none
def stB(H:Hp)(c id n off:Nat)(v:DV):Option Blk->Option (DV × Hp × Nat)
 |some b =>
  if b.own=true/\v.cells.length=n/\off+n<=b.cells.length/\v.cells.all DV.one=true then
   some (.tup [],H.upd id ⟨b.unit,true,b.cells.take off++v.cells++b.cells.drop (off+n)⟩,c)
  else none
 |none=>none
def srB(sz o m:Nat):Option Blk->Option (Nat × List DV)
 |some b=>match Nat.ble (o+m * sz) b.cells.length with
  |true=>some (m,(b.cells.drop o).take (m * sz))
  |false=>none
 |none=>none
def apB(H:Hp)(c id sz bytes n m:Nat)(src:List DV):Option Blk->Option (DV × Hp × Nat)
 |some b =>
  if b.own=true/\b.unit=sz/\n * sz<=b.cells.length/\(n+m) * bytes<=140737488355328/\n+m<=maxLen then
   some (.slc c 0 (n+m),(H.del id).upd c ⟨sz,true,b.cells.take (n * sz)++src⟩,c+1)
  else none
 |none=>none
section
variable {k:IntKind} {m n j:Int} {id off i sz bytes:Nat} {cs xs:List DV} {blk:Blk} {p q b:Bool}
theorem B6d{a b:DV}:A0s (.bool true) a b=some a:=_root_.id rfl
theorem B6e{a b:DV}:A0s (.bool false) a b=some b:=_root_.id rfl
theorem B6h{g:Bool}:ldv H i g (.ptr id off)=ldB i g off (H id):=by
 rfl
theorem B5j{u:Nat}{o:Bool}:ldB 1 false off (some ⟨u,o,cs⟩)=cs[off]? := _root_.id rfl
theorem B5i{u:Nat}{o:Bool}(hl:off+i<=cs.length):ldB i true off (some ⟨u,o,cs⟩)=some (.agg ((cs.drop off).take i)):=by
 have:Nat.ble (off+i) cs.length=true:=by simp_all
 simp only[ldB,this]
theorem B0j:ldv H 1 false (.fptr cs)=cs[0]? := _root_.id rfl
theorem B0i{sz:Nat}(hl:sz<=cs.length):ldv H sz true (.fptr cs)=some (.agg (cs.take sz)):=by
 have:Nat.ble sz cs.length=true:=by simp_all
 simp only[ldv,this]
theorem B0k:A4t off (.ptr id i)=some (.ptr id (i+off)):=_root_.id rfl
theorem B0l(hl:off<=cs.length):A4t off (.fptr cs)=some (.fptr (cs.drop off)):=by
 have:Nat.ble off cs.length=true:=by simp_all
 simp only[A4t,this]
theorem B0g:U7 sz (.lst xs) (.int k j)=if 0<=j then A6j sz xs[j.toNat]? else none:=by
 by_cases h:0<=j
 ·simp only[U7,h,true_and,if_true];by_cases h2:j<xs.length
  ·simp only[h2,if_true];rfl
  ·simp only[h2,if_false];rw[A2K (by omega)];rfl
 ·simp only[U7,h,false_and,if_false]
theorem A5s{l:Nat}:U7 sz (.lst xs) (.int k (l:Int))=A6j sz xs[l]? := by
 rw[B0g,if_pos (Int.natCast_nonneg l),A1I]
theorem B3f{y:DV}(h:y.cells.length=sz):A6j sz (some y)=some (.fptr y.cells):=by simp only[A6j,h,if_true]
theorem A5r{l:Nat}(h0:0<=j)(h1:j<l):U7 sz (.slc id off l) (.int k j)=some (.ptr id (off+j.toNat * sz)):=by
 simp only[U7,h0,h1,and_self,if_true]
theorem B8x{s:List UInt8}:A6i (.str s) (.int k j)=if 0<=j then chO s[j.toNat]? else none:=by
 rfl
theorem B0f{s:List UInt8}{l:Nat}:A6i (.str s) (.int k (l:Int))=chO s[l]? := by
 rfl
theorem B6i{d:UInt8}:chO (some d)=some (.int .u8 d.toNat):=_root_.id rfl
theorem B2v:A8b i (.tup xs)=xs[i]? := _root_.id rfl
theorem B0c:A7p (.ptr id off)=some (.ptr id off):=_root_.id rfl
theorem B2o:unR .neg (.int k n)=some (.int k (k.wrap (0-n))):=_root_.id rfl
theorem B2m:unR .not (.bool p)=some (.bool (!p)):=_root_.id rfl
theorem B2x{k':IntKind}:A8l k (.int k' n)=some (.int k (k.wrap n)):=_root_.id rfl
theorem B0d{l:Nat}:A2n (.slc id off l)=some (.int .i64 l):=_root_.id rfl
theorem B0e:A2n (.lst xs)=some (.int .i64 xs.length):=_root_.id rfl
theorem B0a{s:List UInt8}:A3p (.str s)=some (.int .i64 s.length):=_root_.id rfl
theorem B6g{k':IntKind}:mnR (.int k m) (.int k' n)=some (.int k (if n<m then n else m)):=_root_.id rfl
theorem B6f{k':IntKind}:mxR (.int k m) (.int k' n)=some (.int k (if n>m then n else m)):=_root_.id rfl
theorem B2w:binR .eql (.int k m) (.int k n)=some (.bool (m == n)):=by cases k<;>rfl
theorem B2n:binR .neq (.int k m) (.int k n)=some (.bool (m != n)):=by cases k<;>rfl
theorem B2r:binR .lss (.int k m) (.int k n)=some (.bool (decide (m<n))):=by cases k<;>rfl
theorem B2s:binR .leq (.int k m) (.int k n)=some (.bool (decide (m<=n))):=by cases k<;>rfl
theorem B2t:binR .gtr (.int k m) (.int k n)=some (.bool (decide (m>n))):=by cases k<;>rfl
theorem B2u:binR .geq (.int k m) (.int k n)=some (.bool (decide (m≥n))):=by cases k<;>rfl
theorem B3b:binR .add (.int k m) (.int k n)=some (.int k (k.wrap (m+n))):=by cases k<;>rfl
theorem B2j:binR .sub (.int k m) (.int k n)=some (.int k (k.wrap (m-n))):=by cases k<;>rfl
theorem B2p:binR .mul (.int k m) (.int k n)=some (.int k (k.wrap (m * n))):=by cases k<;>rfl
theorem B2l(h:¬ n=0):binR .quo (.int k m) (.int k n)=some (.int k (k.wrap (m.tdiv n))):=by cases k<;>exact if_neg h
theorem A8x(h:¬ n=0):binR .rem (.int k m) (.int k n)=some (.int k (m.tmod n)):=by cases k<;>exact if_neg h
theorem B3a:binR .and (.int k m) (.int k n)=some (.int k (bits .and k m n)):=by cases k<;>rfl
theorem B2k{k':IntKind}(h:¬ n<0):binR .shr (.int k m) (.int k' n)=some (.int k (m.fdiv (2 ^ (min n.toNat k.bits)))):=if_neg h
theorem m_p:mkv c none=.ptr c 0:=_root_.id rfl
theorem m_s{l:Nat}:mkv c (some l)=.slc c 0 l:=_root_.id rfl
theorem B2y(h:v.cells.all DV.one=true):A4z v=some (none,⟨0,true,v.cells⟩):=by simp only[A4z,h]
theorem B6c:stR H c i (.ptr id off) v=stB H c id i off v (H id):=by
 rfl
theorem B8q{u:Nat}(h1:v.cells.length=i)(h2:off+i<=cs.length)(h3:v.cells.all DV.one=true):
  stB H c id i off v (some ⟨u,true,cs⟩)=some (.tup [],H.upd id ⟨u,true,cs.take off++v.cells++cs.drop (off+i)⟩,c):=by
 simp only[stB,h1,h2,h3,and_self,if_true]
theorem B2z{l:Nat}{s:DV}:apX H c sz bytes s (some (l,cs))=Q0 H c sz bytes s l cs:=_root_.id rfl
theorem A9z(h:unit sz xs=true):O6 H sz (.lst xs)=some (xs.length,A6 xs):=by simp only[O6,h]
theorem A9y{l:Nat}:O6 H sz (.slc id off l)=srB sz off l (H id):=by
 rfl
theorem B5h{l u:Nat}{o:Bool}(h1:off+l * sz<=cs.length):srB sz off l (some ⟨u,o,cs⟩)=some (l,(cs.drop off).take (l * sz)):=by
 have:Nat.ble (off+l * sz) cs.length=true:=by simp_all
 simp only[srB,this]
theorem B0m{l:Nat}(h:¬ l=0)(h1:l * bytes<=140737488355328)(h2:l<=maxLen):Q0 H c sz bytes .snil l cs=some (.slc c 0 l,H.upd c ⟨sz,true,cs⟩,c+1):=by
 simp only[Q0,h,if_false,h1,h2,and_self,if_true]
theorem A5t{l w:Nat}:Q0 H c sz bytes (.slc id 0 l) w cs=apB H c id sz bytes l w cs (H id):=by
 rfl
theorem A7b{l w:Nat}{cs':List DV}(h1:l * sz<=cs'.length)(h2:(l+w) * bytes<=140737488355328)(h3:l+w<=maxLen):
  apB H c id sz bytes l w cs (some ⟨sz,true,cs'⟩)=some (.slc c 0 (l+w),(H.del id).upd c ⟨sz,true,cs'.take (l * sz)++cs⟩,c+1):=by
 simp only[apB,h1,h2,h3,and_self,if_true]
end
theorem A4{r:DV}(h:v=r):∃ H2,GL H [v] H2 [r]:=⟨H,by rw[h];exact GL.refl _ _⟩
def G0:List (Nat × DV)->Tm->Prop
 |[],_=>True
 |(k,v) :: r,T=>T k=v/\G0 r T
def Sub(h H:Hp):Prop:=∀ j b,h j=some b->H j=some b
theorem Sub.refl(H:Hp):Sub H H:=fun _ _ h=>h
theorem Sub.upd{h H:Hp}(hs:Sub h H){id:Nat}(b:Blk)(hn:h id=none):Sub h (H.upd id b):=fun j b' hj=>by
 unfold Hp.upd;by_cases e:j=id
 ·grind
 ·rw[if_neg e];exact hs j b' hj
theorem Sub.put{h H:Hp}(hs:Sub h H){id:Nat}{b:Blk}(hb:H id=some b):Sub (h.upd id b) H:=fun j b' hj=>by
 unfold Hp.upd at hj;by_cases e:j=id
 ·grind
 ·rw[if_neg e]at hj;exact hs j b' hj
theorem Sub.nil(H:Hp):Sub nil H:=fun j b h=>by cases h
theorem A8v{l:List (Nat × DV)}{T:Tm}(h:G0 l T):∀ t,tm l t=.bot\/tm l t=T t:=by
 induction l with
 |nil=>exact fun t=>.inl rfl
 |cons p r ih =>
  intro t;simp only[tm,Tm.upd];by_cases e:t=p.1
  ·rw[if_pos e,e];exact .inr h.1.symm
  ·rw[if_neg e];exact ih h.2 t
theorem IW.weaken{T':Tm}{H':Hp}(hT:∀ t,T' t=.bot\/T' t=T t)(hH:Sub H' H)(h:IW P N x ⟨T',H',c⟩ Q):IW P N x ⟨T,H,c⟩ Q:=by
 intro hm cd hc ρ a w hS;have hj:∀ j,H' j=none\/H' j=H j:=fun j=>by
  cases hc:H' j with
  |none=>simp
  |some b=>exact .inr (hH j b hc).symm
 have hS1:Sim N ρ ⟨T',H',c⟩ a w:=⟨fun t=>by
  show VRel ρ (T' t) _;rcases hT t with h0|h0
  ·rw[h0];exact .bot _
  ·rw[h0];exact hS.tm t,hS.rep.less hj,hS.fresh,hS.size,hS.dfr⟩
 refine wp_mono (h hm cd hc ρ a w hS1) fun e a' w' hq=>?_;obtain⟨ρ2,s2,q,hS2,hst⟩:=hq;exact⟨ρ2,s2,q,hS2,⟨hst.up,fun id hid hne=>by
  have:=hst.dom id hid hne
  grind,hst.same,(Ext.less hj).trans hst.ext⟩⟩
def lp{σ : Type}(L : σ -> List (Nat × DV))(h : σ -> Hp)(I : σ -> Nat->Prop)(μ : σ -> Nat)(m:Nat)(Q:Exit->St->Prop):Exit->St->Prop
 |.normal,⟨T,H,c⟩ => ∃ b,G0 (L b) T/\Sub (h b) H/\I b c /\ μ b<m
 |e,s=>Q e s
theorem G5{σ : Type}(L : σ -> List (Nat × DV))(h : σ -> Hp)(I : σ -> Nat->Prop)(μ : σ -> Nat)(a : σ)(h0:G0 (L a) T)(hH:Sub (h a) H)(hI:I a c)
  (step:∀ a c,I a c->IW P N x ⟨tm (L a),h a,c⟩ (lp L h I μ (μ a) Q)):IW P N (.loop x) ⟨T,H,c⟩ Q:=by
 refine IW.loop (fun n s => ∃ b,G0 (L b) s.T/\Sub (h b) s.H/\I b s.c /\ μ b=n) (μ a) ⟨a,h0,hH,hI,rfl⟩ ?_;rintro n ⟨T,H,c⟩ ⟨b,e1,e2,e3,rfl⟩;refine IW.weaken (A8v e1) e2 ((step b c e3).mono fun e s' q=>?_);obtain⟨T',H',c'⟩:=s';cases e with
 |normal=>obtain⟨d,q1,q2,q3,q4⟩:=q;exact⟨_,q4,d,q1,q2,q3,rfl⟩
 |_=>exact q
def B5m{σ : Type}(I : σ -> Nat->Prop)(b : σ)(c:Nat):Prop:=I b c
theorem inv{σ : Type}{I : σ -> Nat->Prop}{b : σ}{c:Nat}(h:I b c):B5m I b c:=h
theorem B6z{σ : Type}{L : σ -> List (Nat × DV)}{h : σ -> Hp}{I : σ -> Nat->Prop}{μ : σ -> Nat}{m:Nat}:lp L h I μ m Q .normal ⟨T,H,c⟩ = ∃ b,G0 (L b) T/\Sub (h b) H/\B5m I b c /\ μ b<m:=propext Iff.rfl
theorem B6y{σ : Type}{L : σ -> List (Nat × DV)}{h : σ -> Hp}{I : σ -> Nat->Prop}{μ : σ -> Nat}{m:Nat}:lp L h I μ m Q .ret ⟨T,H,c⟩=Q .ret ⟨T,H,c⟩:=propext Iff.rfl
theorem B7a{σ : Type}{L : σ -> List (Nat × DV)}{h : σ -> Hp}{I : σ -> Nat->Prop}{μ : σ -> Nat}{m i:Nat}:lp L h I μ m Q (.exit i) ⟨T,H,c⟩=Q (.exit i) ⟨T,H,c⟩:=propext Iff.rfl
theorem B0q:G0 [] T=True:=id rfl
theorem A7r{k:Nat}{r:List (Nat × DV)}:G0 ((k,v) :: r) T=(T k=v/\G0 r T):=id rfl
theorem w64{n:Int}(h1 : -9223372036854775808<=n:=by omega)(h2:n<=9223372036854775807:=by omega):IntKind.i64.wrap n=n:=by rw[IntWalk.i64_left,IntWalk.wrap64_in n ⟨h1,h2⟩]
theorem w6z{n:Int}(h : -9223372036854775808<=n/\n<=9223372036854775807):IntKind.i64.wrap n=n:=w64 h.1 h.2
end Go.Sym
namespace Go.Sym
variable [Go.Sym.Tab]
open Go.Eng (Opd FOp AOp EOp IOp IOper DReg IC RV IFn trC S6 G8 B6 isNew)
variable {P:Program} {N:Nat} {Q:Exit->St->Prop} {R:St->Prop} {s:St} {x y z:IC} {os io:List IOper} {T:Tm} {H:Hp} {c c0:Nat} {dst:Option Nat} {v:DV}
def kp(L:List Nat)(T:Tm):List (Nat × DV):=L.map fun k=>(k,T k)
theorem A6f:∀ (L:List Nat),L.zip (L.map T)=kp L T
 |[]=>rfl
 |k :: L=>by simp only[A0R,List.zip_cons_cons,A6f L];rfl
theorem IW.kp(L:List Nat)(h:IW P N x ⟨tm (kp L T),H,c⟩ Q):IW P N x ⟨T,H,c⟩ Q:=IW.slots L (by rw[A6f];exact h)
theorem B0s:kp [] T=[]:=id rfl
theorem A7s{k:Nat}{L:List Nat}:kp (k :: L) T=(k,T k) :: kp L T:=id rfl
theorem A4e{K K':DV->Hp->Nat->Prop}(hk:∀ v H c,K v H c->K' v H c){op:IOp}(h:D3 P s K op):D3 P s K' op:=by
 cases op with
 |pur f=>simp only[D3]at h ⊢;grind
 |new f=>simp only[D3]at h ⊢;grind
 |eff f=>simp only[D3]at h ⊢;grind
 |call f a=>exact AC.mono h hk
 |callv x a =>
  simp only[D3]at h ⊢;split at h
  ·exact AC.mono h hk
  omega
abbrev WS(P:Program)(N:Nat)(u:IC)(r:List IOper)(y:IC)(L:List Nat):Prop:=∀ {Q:Exit->St->Prop} {T:Tm} {H:Hp} {c:Nat},rwp P (nx P N y Q) r ⟨tm (kp L T),H,c⟩->IW P N u ⟨T,H,c⟩ Q
abbrev WE(P:Program)(N:Nat)(u:IC)(r:List IOper)(L:List Nat):Prop:=∀ {Q:Exit->St->Prop} {T:Tm} {H:Hp} {c:Nat},rwp P (no Q) r ⟨tm (kp L T),H,c⟩->IW P N u ⟨T,H,c⟩ Q
abbrev WP(P:Program)(N:Nat)(u:IC)(n:Nat)(d:DReg)(y:IC)(L:List Nat):Prop:=∀ {Q:Exit->St->Prop} {T:Tm} {H:Hp} {c:Nat},rwp P (nx P N y Q) d.ops ⟨tm (kp L T),H,c+n⟩->IW P N u ⟨T,H,c⟩ Q
abbrev WPE(P:Program)(N:Nat)(u:IC)(n:Nat)(d:DReg)(L:List Nat):Prop:=∀ {Q:Exit->St->Prop} {T:Tm} {H:Hp} {c:Nat},rwp P (no Q) d.ops ⟨tm (kp L T),H,c+n⟩->IW P N u ⟨T,H,c⟩ Q
abbrev WD(P:Program)(N:Nat)(u:IC)(n:Nat)(d:DReg)(y:IC)(L:List Nat):Prop:=∀ {Q:Exit->St->Prop} {T:Tm} {H:Hp} {c:Nat},dwp P (nx P N y Q) d.ops c d.plan ⟨tm (kp L T),H,c+n⟩->IW P N u ⟨T,H,c⟩ Q
abbrev WDE(P:Program)(N:Nat)(u:IC)(n:Nat)(d:DReg)(L:List Nat):Prop:=∀ {Q:Exit->St->Prop} {T:Tm} {H:Hp} {c:Nat},dwp P (no Q) d.ops c d.plan ⟨tm (kp L T),H,c+n⟩->IW P N u ⟨T,H,c⟩ Q
abbrev WC(P:Program)(N:Nat)(u:IC)(o:Opd)(x z y:IC)(L:List Nat):Prop:=∀ {Q:Exit->St->Prop} {T:Tm} {H:Hp} {c:Nat},T1 P N x z ⟨tm (kp L T),H,c⟩ (sq P N y Q) (ev (tm (kp L T)) o)->IW P N u ⟨T,H,c⟩ Q
abbrev WCE(P:Program)(N:Nat)(u:IC)(o:Opd)(x z:IC)(L:List Nat):Prop:=∀ {Q:Exit->St->Prop} {T:Tm} {H:Hp} {c:Nat},T1 P N x z ⟨tm (kp L T),H,c⟩ Q (ev (tm (kp L T)) o)->IW P N u ⟨T,H,c⟩ Q
abbrev WB(P:Program)(N:Nat)(u:IC)(i:Nat)(x y:IC)(L:List Nat):Prop:=∀ {Q:Exit->St->Prop} {T:Tm} {H:Hp} {c:Nat},IW P N x ⟨tm (kp L T),H,c⟩ (bk i (sq P N y Q))->IW P N u ⟨T,H,c⟩ Q
abbrev WBE(P:Program)(N:Nat)(u:IC)(i:Nat)(x:IC)(L:List Nat):Prop:=∀ {Q:Exit->St->Prop} {T:Tm} {H:Hp} {c:Nat},IW P N x ⟨tm (kp L T),H,c⟩ (bk i Q)->IW P N u ⟨T,H,c⟩ Q
abbrev WQ(P:Program)(N:Nat)(u x y:IC)(L:List Nat):Prop:=∀ {Q:Exit->St->Prop} {T:Tm} {H:Hp} {c:Nat},IW P N x ⟨tm (kp L T),H,c⟩ (sq P N y Q)->IW P N u ⟨T,H,c⟩ Q
def asc:Nat->List (Nat × Option (List Nat))->List IOper->Bool
 |_,[],[]=>true
 |k,(i,none) :: r,⟨_,.pur _,_⟩ :: io=>Nat.beq i k && asc (k+1) r io
 |k,(i,some []) :: r,_ :: io=>Nat.beq i k && asc (k+1) r io
 |_,_,_=>false
theorem F4:∀ (plan:List (Nat × Option (List Nat))) (os:List IOper) (k:Nat) (s:St),asc k plan os=true->io.drop k=os->rwp P R os s->dwp P R io c0 plan s
 |[],[],k,s,_,_,h=>h
 |[],_ :: _,k,s,ha,_,h=>by trivial
 |(i,none) :: r,[],k,s,ha,_,h=>by trivial
 |(i,none) :: r,⟨d,.pur f,g⟩ :: os,k,s,ha,he,h=>by
  simp only[asc,A0B,Nat.beq_eq]at ha;obtain⟨rfl,ha⟩:=ha;have hget:io[i]? = some ⟨d,.pur f,g⟩:=by
   have:(io.drop i)[0]? = some ⟨d,.pur f,g⟩:=by rw[he];rfl
   simpa using this
  have hdr:io.drop (i+1)=os:=by rw[<- List.drop_drop,he];rfl
  simp only[dwp,hget,K7];simp only[rwp]at h;split at h
  ·rename_i hw;try simp only[hw]
   simp only[D3]at h;split at h
   ·rename_i v hv;simp only[hv];exact F4 r os (i+1) _ ha hdr h
   ·exact h.elim
  ·rename_i hw;try simp only[hw]
   exact F4 r os (i+1) _ ha hdr h
  grind
 |(i,none) :: r,⟨d,.new f,g⟩ :: os,k,s,ha,_,h=>by trivial
 |(i,none) :: r,⟨d,.eff f,g⟩ :: os,k,s,ha,_,h=>by trivial
 |(i,none) :: r,⟨d,.call f a,g⟩ :: os,k,s,ha,_,h=>by trivial
 |(i,none) :: r,⟨d,.callv f a,g⟩ :: os,k,s,ha,_,h=>by trivial
 |(i,some (_ :: _)) :: r,os,k,s,ha,_,h=>by trivial
 |(i,some []) :: r,[],k,s,ha,_,h=>by trivial
 |(i,some []) :: r,o :: os,k,s,ha,he,h=>by
  simp only[asc,A0B,Nat.beq_eq]at ha;obtain⟨rfl,ha⟩:=ha;have hget:io[i]? = some o:=by
   have:(io.drop i)[0]? = some o:=by rw[he];rfl
   simpa using this
  have hdr:io.drop (i+1)=os:=by rw[<- List.drop_drop,he];rfl
  have hh:∀ H:Hp,M8 H []=H:=fun H=>by funext j;simp[M8]
  have hm:∀ H H':Hp,E7 [] H H'=H':=fun H H'=>by funext j;simp[E7]
  simp only[dwp,hget,List.filter_nil,A1P,hh,hm,G6,true_and,A1m];simp only[rwp]at h;split at h
  ·rename_i hw;try simp only[hw]
   exact A4e (fun v H' c' h'=>F4 r os (i+1) _ ha hdr h') h
  ·rename_i hw;try simp only[hw]
   exact F4 r os (i+1) _ ha hdr h
  grind
section
variable {u:IC} {r:List IOper} {L:List Nat} {n i:Nat} {d:DReg} {o:Opd}
theorem mkS:WS P N (.seq (.reg r) y) r y L:=fun h=>IW.kp L (B1d h)
theorem mkE:WE P N (.reg r) r L:=fun h=>IW.kp L (B4a h)
theorem mkP(h1:asc 0 d.plan d.ops=true):WP P N (.seq (.drw n d) y) n d y L:=fun h=>IW.kp L (A6l (F4 d.plan d.ops 0 _ h1 rfl h))
theorem B6k(h1:asc 0 d.plan d.ops=true):WPE P N (.drw n d) n d L:=fun h=>IW.kp L (A9b (F4 d.plan d.ops 0 _ h1 rfl h))
theorem mkD:WD P N (.seq (.drw n d) y) n d y L:=fun h=>IW.kp L (A6l h)
theorem B6l:WDE P N (.drw n d) n d L:=fun h=>IW.kp L (A9b h)
theorem mkC:WC P N (.seq (.cond o x z) y) o x z y L:=fun h=>IW.kp L (A7y h)
theorem B6m:WCE P N (.cond o x z) o x z L:=fun h=>IW.kp L (A6m h)
theorem mkB:WB P N (.seq (.blk i x) y) i x y L:=fun h=>IW.kp L (A6k (A9c h))
theorem B6n:WBE P N (.blk i x) i x L:=fun h=>IW.kp L (A9c h)
theorem mkQ:WQ P N (.seq x y) x y L:=fun h=>IW.kp L (A6k h)
end
def dpK(P:Program)(R:St->Prop)(io:List IOper)(c0:Nat)(r:List (Nat × Option (List Nat)))(T:Tm)(H:Hp)(c:Nat)(dst:Option Nat):Option DV->Prop
 |some v=>dwp P R io c0 r ⟨A9 T dst v,H,c⟩
 |none=>False
def dnK(P:Program)(R:St->Prop)(io:List IOper)(c0 i:Nat)(r:List (Nat × Option (List Nat)))(T:Tm)(H:Hp)(c:Nat)(dst:Option Nat):Option (Option Nat × Blk)->Prop
 |some (k,b)=>dwp P R io c0 r ⟨A9 T dst (mkv (c0+i) k),H.upd (c0+i) b,c⟩
 |none=>False
def dgK(P:Program)(R:St->Prop)(io:List IOper)(c0 i:Nat)(r:List (Nat × Option (List Nat)))(T:Tm)(H:Hp)(c:Nat)(dst:Option Nat)(op:IOp):Option Bool->Prop
 |some true=>match op with
  |.pur f=>dpK P R io c0 r T H c dst (fev H (ev T) f)
  |.new f=>dnK P R io c0 i r T H c dst (aev (ev T) f)
  |.eff (.lkp kd z ok m k)=>dpK P R io c0 r T H c dst (lkR kd (inj z) ok (ev T k) (F2 H kd (ev T m)))
  |_=>False
 |some false=>dwp P R io c0 r ⟨A9 T dst (.tup []),H,c⟩
 |none=>False
def dfK(P:Program)(R:St->Prop)(io:List IOper)(c0 i:Nat)(r:List (Nat × Option (List Nat)))(T:Tm)(H:Hp)(c:Nat):Option IOper->Prop
 |some o=>dgK P R io c0 i r T H c o.dst o.op (E1 T o.guard)
 |none=>False
def dk(P:Program)(R:St->Prop)(io:List IOper)(c0:Nat)(r:List (Nat × Option (List Nat)))(T:Tm)(H:Hp)(dst:Option Nat)(pend:List Nat)(v:DV)(H':Hp)(c':Nat):Prop :=
 G6 io c0 ⟨A9 T dst v,E7 ((pend.filter (isNew io)).map (c0 + ·)) H H',c'⟩ pend/\dwp P R io c0 r ⟨A9 T dst v,E7 ((pend.filter (isNew io)).map (c0 + ·)) H H',c'⟩
def deK(P:Program)(R:St->Prop)(io:List IOper)(c0:Nat)(r:List (Nat × Option (List Nat)))(T:Tm)(H:Hp)(c:Nat)(pend:List Nat):Option IOper->Prop
 |some o=>A1m P ⟨T,M8 H ((pend.filter (isNew io)).map (c0 + ·)),c⟩ o (dk P R io c0 r T H o.dst pend)
 |none=>False
section
variable {i:Nat} {r:List (Nat × Option (List Nat))} {pend:List Nat} {op:IOp}
theorem B5c:dwp P R io c0 [] s=R s:=propext Iff.rfl
theorem B1v:dwp P R io c0 ((i,none) :: r) ⟨T,H,c⟩=dfK P R io c0 i r T H c io[i]? := by
 simp only[dwp];cases io[i]? with
 |none=>rfl
 |some o =>
  obtain⟨d,op,g⟩:=o;simp only[dfK,K7];cases E1 T g with
  |none=>rfl
  |some b =>
   cases b with
   |false=>rfl
   |true =>
    cases op with
    |pur f=>simp only[dgK,dpK];cases fev H (ev T) f<;>rfl
    |new f=>simp only[dgK,dnK];cases aev (ev T) f<;>rfl
    |eff f =>
     cases f with
     |lkp kd z ok m k=>simp only[dgK,dpK];cases lkR kd (inj z) ok (ev T k) (F2 H kd (ev T m))<;>rfl
     |_=>rfl
    |_=>rfl
theorem B8o{o:IOper}:dfK P R io c0 i r T H c (some o)=dgK P R io c0 i r T H c o.dst o.op (E1 T o.guard):=propext Iff.rfl
theorem B8l{f:FOp}:dgK P R io c0 i r T H c dst (.pur f) (some true)=dpK P R io c0 r T H c dst (fev H (ev T) f):=propext Iff.rfl
theorem B8m{f:AOp}:dgK P R io c0 i r T H c dst (.new f) (some true)=dnK P R io c0 i r T H c dst (aev (ev T) f):=propext Iff.rfl
theorem B8n:dgK P R io c0 i r T H c dst op (some false)=dwp P R io c0 r ⟨A9 T dst (.tup []),H,c⟩:=propext Iff.rfl
theorem B8j:dpK P R io c0 r T H c dst (some v)=dwp P R io c0 r ⟨A9 T dst v,H,c⟩:=propext Iff.rfl
theorem B8k{k:Option Nat}{b:Blk}:dnK P R io c0 i r T H c dst (some (k,b))=dwp P R io c0 r ⟨A9 T dst (mkv (c0+i) k),H.upd (c0+i) b,c⟩:=propext Iff.rfl
theorem B5d:dwp P R io c0 ((i,some pend) :: r) ⟨T,H,c⟩=deK P R io c0 r T H c pend io[i]? := by
 rfl
theorem B8p{o:IOper}:deK P R io c0 r T H c pend (some o)=A1m P ⟨T,M8 H ((pend.filter (isNew io)).map (c0 + ·)),c⟩ o (dk P R io c0 r T H o.dst pend):=propext Iff.rfl
theorem A3y:E1 T none=some true:=id rfl
theorem A3x{t:Nat}{b:Bool}:E1 T (some (t,b))=X0 (T t) b:=id rfl
def egK(P:Program)(T:Tm)(H:Hp)(c:Nat)(op:IOp)(K:DV->Hp->Nat->Prop):Option Bool->Prop
 |some true=>D3 P ⟨T,H,c⟩ K op
 |some false=>K (.tup []) H c
 |none=>False
def opK(H:Hp)(c:Nat)(K:DV->Hp->Nat->Prop):Option DV->Prop
 |some v=>K v H c
 |none=>False
def oeK(K:DV->Hp->Nat->Prop):Option (DV × Hp × Nat)->Prop
 |some (v,H',c')=>K v H' c'
 |none=>False
def ovK(P:Program)(H:Hp)(c:Nat)(K:DV->Hp->Nat->Prop)(args:List DV):DV->Prop
 |.func f a cs=>AC P f (a++args++cs) H c K
 |_=>False
variable {K:DV->Hp->Nat->Prop}
theorem B2e{o:IOper}:A1m P ⟨T,H,c⟩ o K=egK P T H c o.op K (E1 T o.guard):=by
 rfl
theorem x_t:egK P T H c op K (some true)=D3 P ⟨T,H,c⟩ K op:=propext Iff.rfl
theorem x_f:egK P T H c op K (some false)=K (.tup []) H c:=propext Iff.rfl
theorem B2d{f:FOp}:D3 P ⟨T,H,c⟩ K (.pur f)=opK H c K (fev H (ev T) f):=by
 rfl
theorem x_e{f:EOp}:D3 P ⟨T,H,c⟩ K (.eff f)=oeK K (eev H c (ev T) f):=by
 rfl
theorem A9g{f:Nat}{as:List Opd}:D3 P ⟨T,H,c⟩ K (.call f as)=AC P f (as.map (ev T)) H c K:=propext Iff.rfl
theorem B2f{o:Opd}{as:List Opd}:D3 P ⟨T,H,c⟩ K (.callv o as)=ovK P H c K (as.map (ev T)) (ev T o):=by
 rfl
theorem B2g{f:Nat}{a cs args:List DV}:ovK P H c K args (.func f a cs)=AC P f (a++args++cs) H c K:=propext Iff.rfl
theorem B5s:opK H c K (some v)=K v H c:=propext Iff.rfl
theorem B5t{H':Hp}{c':Nat}:oeK K (some (v,H',c'))=K v H' c':=propext Iff.rfl
theorem B5u{H':Hp}{c':Nat}:dk P R io c0 r T H dst pend v H' c'=(G6 io c0 ⟨A9 T dst v,E7 ((pend.filter (isNew io)).map (c0 + ·)) H H',c'⟩ pend/\dwp P R io c0 r ⟨A9 T dst v,E7 ((pend.filter (isNew io)).map (c0 + ·)) H H',c'⟩):=propext Iff.rfl
theorem A1f:M8 H []=H:=by rfl
theorem A4j{H':Hp}:E7 [] H H'=H':=by rfl
def agK(c0 j:Nat)(T:Tm)(H:Hp)(dst:Option Nat)(op:IOp):Option Bool->Prop
 |some true=>match op with
  |.pur f=>match fev H (ev T) f with
   |some v=>(∀ d,dst=some d->T d=v)/\H (c0+j)=none
   |none=>False
  |.new f=>match aev (ev T) f with
   |some (k,b)=>(∀ d,dst=some d->T d=mkv (c0+j) k)/\H (c0+j)=some b
   |none=>False
  |.eff (.lkp kd z ok m k)=>match lkR kd (inj z) ok (ev T k) (F2 H kd (ev T m)) with
   |some v=>(∀ d,dst=some d->T d=v)/\H (c0+j)=none
   |none=>False
  |_=>False
 |some false=>(∀ d,dst=some d->T d=.tup [])/\H (c0+j)=none
 |none=>False
def agO(c0 j:Nat)(T:Tm)(H:Hp):Option IOper->Prop
 |some o=>agK c0 j T H o.dst o.op (E1 T o.guard)
 |none=>False
theorem B1z:G6 io c0 s []=True:=id rfl
theorem A8s{j:Nat}{l:List Nat}:G6 io c0 ⟨T,H,c⟩ (j :: l)=(agO c0 j T H io[j]? /\ G6 io c0 ⟨T,H,c⟩ l):=by
 simp only[G6,M1]
 congr 1
 cases io[j]? with
 |none=>rfl
 |some o =>
  obtain⟨d,op,g⟩:=o;simp only[agO,agK,K7]
  grind
theorem B8t{j:Nat}{o:IOper}:agO c0 j T H (some o)=agK c0 j T H o.dst o.op (E1 T o.guard):=propext Iff.rfl
def apK(T:Tm)(d:Nat)(hn:Prop):Option DV->Prop
 |some v=>T d=v/\hn
 |none=>False
theorem B8u{j d:Nat}{f:FOp}:agK c0 j T H (some d) (.pur f) (some true)=apK T d (H (c0+j)=none) (fev H (ev T) f):=by
 simp only[agK,apK];simp
theorem B8v{j d:Nat}:agK c0 j T H (some d) op (some false)=(T d=.tup []/\H (c0+j)=none):=by
 apply propext;simp only[agK];simp
theorem B5k{d:Nat}{hn:Prop}:apK T d hn (some v)=(T d=v/\hn):=propext Iff.rfl
end
theorem PC.lend{f:Nat}{args args':List DV}{r:DV}{H0:Hp}(h:PC P f args' r)(hr:r.flat=true)(g:GL H args H0 args'):AC P f args H c (fun v H' c'=>v=r/\H'=H/\c'=c) :=
 AC.lend g h.ac h.na (fun v e=>by grind)
theorem GL.one{id:Nat}{b:Blk}{ds ds':List DV}(hb:H id=some b)(ho:b.own=true)(hd:FzL id b ds ds'):GL H ds nil ds' :=
 GL.frz hb ho (fun j=>.inl rfl) hd
theorem A2l{z:List DV}:E8 z 0=[]:=id rfl
theorem A2m{z:List DV}{n:Nat}:E8 z (n+1)=z++E8 z n:=by rfl
attribute [go_sem] B0s A7s B6v B6w B6q B6p B6r B7i B7h B7j B6u B6t B6s B6x B3p B3o B3q B3s B0v B3t B3u B0u A7u A7v B7k B3r B7b B7c B0t B6o B7e B7f B6z B6y B7a B0q A7r A9l A9n A9m B5w A9t B5x A7 L0 A0a S0 B4b e_t e_k e_f a_0 a_1 a_2 a_3 B1c B3w B3v B1a B0y B1b B3x A7x B0z B0x A7w B8b B1k B8d B4r B4q B4p B4s B4m B4x B4t B4u B7z B4v B4l B4n B4w B4o B1l B8c B8a B4f B4e B4d B7o B4g B6d B6e B6h B5j B5i B0j B0i B0k B0l A5s B3f A5r B0f B6i B2v B0c B2o B2m B2x B0d B0e B0a B6g B6f B2w B2n B2r B2s B2t B2u B3b B2j B2p B3a m_p m_s B2y B6c B8q B2z A9z A9y B5h A5t A8o A6y K8 A2e A2l A2m B5c B1v B8o B8l B8m B8n B8j B8k B5d B8p A3y A3x B2e x_t x_f B2d x_e A9g B2f B2g B5s B5t B5u A1f A4j B1z A8s B8t B8u B8v B5k List.filter_cons Eng.isNew A0Y A0R A1P A2G A1H A1G A2C Option.map_none List.drop_succ_cons List.drop_zero A2Q List.take_zero A0I A1W A1C List.cons_append A2O List.append_nil List.set_cons_zero List.set_cons_succ A2R List.replicate_zero List.flatten_cons List.flatten_nil List.filter_nil A1f DV.cells DV.one List.all_cons List.all_nil Bool.and_true Bool.true_and Bool.and_self Bool.false_and Bool.and_false not_false_eq_true and_self and_true true_and beq_self_eq_true bne_self_eq_false Bool.true_beq Bool.false_beq Bool.not_true Bool.not_false A1I A0C A0O A2S Nat.zero_mul Nat.one_mul Nat.mul_one
end Go.Sym
namespace Go.Sym
variable [Go.Sym.Tab]
open Go.Eng (Opd FOp AOp EOp IOp IOper DReg IC RV IFn trC S6 G8 B6 isNew)
variable {P:Program} {N:Nat} {Q:Exit->St->Prop} {R:St->Prop} {s:St} {x y z:IC} {os io:List IOper} {T:Tm} {H:Hp} {c c0:Nat} {dst:Option Nat} {v:DV}
theorem GL.view{ds ds':List DV}(h:∀ (ρ : Ren) (vs:Array Value),A8 ρ ds vs->A8 ρ ds' vs):GL H ds H ds' :=
 ⟨fun _ h=>h,fun ρ w vs h1 h2=>⟨ρ,rfl,h1,h ρ vs h2,Ext.refl _ _ _⟩⟩
theorem V7{ρ : Ren}{d d':DV}(h:∀ v,VRel ρ d v->VRel ρ d' v)(vs:Array Value)(hA:A8 ρ [d] vs):A8 ρ [d'] vs :=
 ⟨hA.1,fun i x y hx hy=>by
  cases i with
  |zero=>cases hx;exact h y (hA.2 0 d y rfl hy)
  |succ i=>grind⟩
theorem VRel.snil_lst{ρ : Ren}{v:Value}(h:VRel ρ .snil v):VRel ρ (.lst []) v:=by cases h;exact .lnil0
theorem VRel.tup2{ρ : Ren}{a a' b:DV}{v:Value}(ha:∀ v,VRel ρ a v->VRel ρ a' v)(h:VRel ρ (.tup [a,b]) v):VRel ρ (.tup [a',b]) v:=by
 obtain⟨vs,rfl,hA⟩:=h.tup_inv;refine .mkTup ⟨hA.1,fun i x y hx hy=>?_⟩
 match i with
 |0=>cases hx;exact ha y (hA.2 0 a y rfl hy)
 |1=>cases hx;exact hA.2 1 b y rfl hy
 |_+2=>grind
theorem C6{b:DV}:∃ H2,GL H [.tup [.snil,b]] H2 [.tup [.lst [],b]]:=⟨H,GL.view fun ρ vs h=>V7 (fun v h=>h.tup2 fun v h=>h.snil_lst) vs h⟩
theorem A0d{id n u:Nat}{xs:List DV}{blk:Blk}(hl:xs.length=n)(hu:∀ x∈xs,x.cells.length=u)(hc:∃ r,blk.cells=A6 xs++r):Fz id blk (.slc id 0 n) (.lst xs):=by
 obtain⟨r,hr⟩:=hc;have hcl:=D2 hu;refine .slc 0 n u xs hl hu ?_ ?_
 ·rw[hr,A0X,hcl,hl];omega
 grind
theorem A7k{id n u:Nat}{xs:List DV}{blk:Blk}{b:DV}(hb:H id=some blk)(ho:blk.own=true)(hl:xs.length=n)(hu:∀ x∈xs,x.cells.length=u)(hc:∃ r,blk.cells=A6 xs++r):
  ∃ H2,GL H [.tup [.slc id 0 n,b]] H2 [.tup [.lst xs,b]] :=
 ⟨nil,GL.one hb ho (.cons _ _ _ _ (.tup _ _ (.cons _ _ _ _ (A0d hl hu hc) (.cons _ _ _ _ (.same _) .nil))) .nil)⟩
theorem S4{α : Type}{f : α -> DV}(h:∀ a,(f a).cells=[f a]):∀ (l:List α),A6 (l.map f)=l.map f
 |[]=>rfl
 |a :: l=>by
  have:=S4 h l;simp only[A6,A0R,A1X,h a,List.cons_append,A2O]at this ⊢
  grind
theorem W9(a b:List DV):A6 (a++b)=A6 a++A6 b:=by simp[A6]
theorem Z2{α : Type}{f : α -> DV}{l:List α}{n:Nat}{a : α}(h:n<l.length):(l.map f).take n++[f a]++(l.map f).drop (n+1)=(l.set n a).map f:=by
 rw[List.set_eq_take_append_cons_drop,if_pos h];simp
theorem A7j{id off l n sz:Nat}{k:IntKind}(h:n<l):U7 sz (.slc id off l) (.int k (n:Int))=some (.ptr id (off+n * sz)):=by
 rw[A5r (Int.natCast_nonneg n) (by omega),A1I]
theorem B0b{id off l h sz:Nat}{k:IntKind}(hh:h<=l):W6 H sz (.slc id off l) none (some (.int k (h:Int)))=some (.slc id off h):=by
 simp only[W6,boundOf,Int.natCast_nonneg,if_true,A1I,hh,A2V,and_self]
theorem B2q{sz bytes n:Nat}{z:List DV}{k k':IntKind}(h1:bytes * n<=281474976710656)(h2:n<=9223372036854775807)(h3:z.all DV.one=true)(h4:z.length=sz):
  A6b sz bytes z (.int k (n:Int)) (.int k' (n:Int))=some (some n,⟨sz,true,E8 z n⟩):=by
 simp only[A6b]
 grind
theorem A4k(a:DV)(n:Nat):E8 [a] n=List.replicate n a:=by
 induction n with
 |zero=>rfl
 |succ n ih=>simp only[E8,A2R,List.flatten_cons,List.cons_append,A2O]at ih ⊢;simp
section
variable {id sz bytes l w:Nat} {cs cs' a j:List DV}
theorem A7a(h0:cs'.length=l * sz)(h2:(l+w) * bytes<=140737488355328)(h3:l+w<=9223372036854775807):
  apB H c id sz bytes l w cs (some ⟨sz,true,cs'⟩)=some (.slc c 0 (l+w),(H.del id).upd c ⟨sz,true,cs'++cs⟩,c+1):=by
 rw[A7b (by omega) h2 (by assumption),A1U (by omega)]
theorem B1x(h0:a.length=l * sz)(h2:(l+w) * bytes<=140737488355328)(h3:l+w<=9223372036854775807):
  apB H c id sz bytes l w cs (some ⟨sz,true,a++j⟩)=some (.slc c 0 (l+w),(H.del id).upd c ⟨sz,true,a++cs⟩,c+1):=by
 rw[A7b (by grind) h2 (by assumption),List.take_left' h0]
theorem Z1(h:¬ l=0)(h1:l * bytes<=140737488355328)(h2:l<=9223372036854775807):Q0 H c sz bytes .snil l cs=some (.slc c 0 l,H.upd c ⟨sz,true,cs⟩,c+1) :=
 B0m h h1 (by assumption)
end
def C7:Option Nat->Nat->DV
 |none,_=>.snil
 |some id,n=>.slc id 0 n
def S7(H:Hp):Option Nat->Blk->Hp
 |none,_=>H
 |some id,b=>H.upd id b
theorem A2c{n:Nat}:C7 none n=.snil:=id rfl
theorem A5l{i n:Nat}:C7 (some i) n=.slc i 0 n:=id rfl
attribute [go_sem] A7j B0b A2c A5l
end Go.Sym
namespace Go.Sym
open Go.Eng (Opd FOp IOp IOper DReg)
abbrev oG(d:Nat)(e:FOp)(g:Nat):IOper:=⟨some d,.pur e,some (g,true)⟩
abbrev oR(d:Nat)(e:FOp)(g:Nat):IOper:=⟨some d,.pur e,some (g,false)⟩
section
variable (d a b k g:Nat) (o:BinOp)
abbrev oP(e:FOp):IOper:=⟨some d,.pur e,none⟩
abbrev oM:IOper:=⟨some d,.pur (.mv (.t a)),none⟩
abbrev oL:IOper:=⟨some d,.pur (.ld 1 false (.t a)),none⟩
abbrev oF:IOper:=⟨some d,.pur (.fad k (.t a)),none⟩
abbrev oB:IOper:=⟨some d,.pur (.bin o (.t a) (.t b)),none⟩
abbrev oK(n:Int):IOper:=⟨some d,.pur (.bin o (.t a) (.k (.int .i64 n))),none⟩
abbrev oI(n:Int):IOper:=⟨some d,.pur (.mv (.k (.int .i64 n))),none⟩
abbrev oE:IOper:=⟨some d,.pur (.ext (.t a) k),none⟩
abbrev oH:IOper:=⟨some d,.pur (.len (.t a)),none⟩
abbrev oA:IOper:=⟨some d,.pur (.iad k (.t a) (.t b)),none⟩
abbrev oD:IOper:=⟨some d,.pur (.ld k true (.t a)),none⟩
abbrev oC(l:List Opd):IOper:=⟨some d,.call k l,none⟩
abbrev oS:IOper:=⟨none,.eff (.st k (.t a) (.t b)),none⟩
abbrev oW(v:Value):IOper:=⟨some d,.new (.box (.k v)),none⟩
abbrev oV(v:Value):IOper:=⟨some d,.pur (.mv (.k v)),none⟩
abbrev oO:IOper:=⟨some d,.pur (.pick (.t a) (.k (.bool true)) (.t b)),none⟩
abbrev gM:IOper:=⟨some d,.pur (.mv (.t a)),some (g,true)⟩
abbrev gL:IOper:=⟨some d,.pur (.ld 1 false (.t a)),some (g,true)⟩
abbrev gK(n:Int):IOper:=⟨some d,.pur (.bin o (.t a) (.k (.int .i64 n))),some (g,true)⟩
abbrev hM:IOper:=⟨some d,.pur (.mv (.t a)),some (g,false)⟩
abbrev hL:IOper:=⟨some d,.pur (.ld 1 false (.t a)),some (g,false)⟩
abbrev hF:IOper:=⟨some d,.pur (.fad k (.t a)),some (g,false)⟩
abbrev hK(n:Int):IOper:=⟨some d,.pur (.bin o (.t a) (.k (.int .i64 n))),some (g,false)⟩
end
def V6(e:Nat):Nat->List IOper->List (Nat × Option (List Nat))
 |_,[]=>[]
 |k,⟨_,.pur _,_⟩ :: r=>(k,match e.testBit k with|true=>some []|false=>none) :: V6 e (k+1) r
 |k,_ :: r=>(k,some []) :: V6 e (k+1) r
abbrev dQ(r:List IOper)(e:Nat):DReg:=⟨r,[],V6 e 0 r⟩
end Go.Sym
namespace Go.Sym
variable [Go.Sym.Tab]
open Go.Eng (Opd IOper DReg IC)
abbrev Rl:Type:=Program->Nat->(Exit->St->Prop)->Tm->Hp->Nat->Prop
def rS(r:List IOper)(y:IC)(L:List Nat):Rl:=fun P N Q T H c=>rwp P (nx P N y Q) r ⟨tm (kp L T),H,c⟩
def rE(r:List IOper)(L:List Nat):Rl:=fun P N Q T H c=>rwp P (no Q) r ⟨tm (kp L T),H,c⟩
def rP(r:List IOper)(y:IC)(n:Nat)(L:List Nat):Rl:=fun P N Q T H c=>rwp P (nx P N y Q) r ⟨tm (kp L T),H,c+n⟩
def rPE(r:List IOper)(n:Nat)(L:List Nat):Rl:=fun P N Q T H c=>rwp P (no Q) r ⟨tm (kp L T),H,c+n⟩
def rD(r:List IOper)(p:List (Nat × Option (List Nat)))(y:IC)(n:Nat)(L:List Nat):Rl:=fun P N Q T H c=>dwp P (nx P N y Q) r c p ⟨tm (kp L T),H,c+n⟩
def rDE(r:List IOper)(p:List (Nat × Option (List Nat)))(n:Nat)(L:List Nat):Rl:=fun P N Q T H c=>dwp P (no Q) r c p ⟨tm (kp L T),H,c+n⟩
def rC(o:Opd)(x z y:IC)(L:List Nat):Rl:=fun P N Q T H c=>T1 P N x z ⟨tm (kp L T),H,c⟩ (sq P N y Q) (ev (tm (kp L T)) o)
def rCE(o:Opd)(x z:IC)(L:List Nat):Rl:=fun P N Q T H c=>T1 P N x z ⟨tm (kp L T),H,c⟩ Q (ev (tm (kp L T)) o)
def rB(i:Nat)(x y:IC)(L:List Nat):Rl:=fun P N Q T H c=>IW P N x ⟨tm (kp L T),H,c⟩ (bk i (sq P N y Q))
def rBE(i:Nat)(x:IC)(L:List Nat):Rl:=fun P N Q T H c=>IW P N x ⟨tm (kp L T),H,c⟩ (bk i Q)
def rQ(x y:IC)(L:List Nat):Rl:=fun P N Q T H c=>IW P N x ⟨tm (kp L T),H,c⟩ (sq P N y Q)
def rT(e:Exit):Rl:=fun P N Q T H c=>Q e ⟨T,H,c⟩
class WR (P:Program) (N:Nat) (u:IC) (r:outParam Rl):Prop where
 out:∀ {Q:Exit->St->Prop} {T:Tm} {H:Hp} {c:Nat},r P N Q T H c->IW P N u ⟨T,H,c⟩ Q
theorem H8(e:Nat):∀ (r:List IOper) (k:Nat),asc k (V6 e k r) r=true
 |[],k=>by rfl
 |⟨_,.pur _,_⟩ :: r,k=>by
  unfold V6;cases e.testBit k<;>simp[asc,H8 e r (k+1)]
 |⟨_,.new _,_⟩ :: r,k=>by simp[V6,asc,H8 e r (k+1)]
 |⟨_,.eff _,_⟩ :: r,k=>by simp[V6,asc,H8 e r (k+1)]
 |⟨_,.call _ _,_⟩ :: r,k=>by simp[V6,asc,H8 e r (k+1)]
 |⟨_,.callv _ _,_⟩ :: r,k=>by simp[V6,asc,H8 e r (k+1)]
section
variable {P:Program} {N:Nat} {u x y z:IC} {Q:Exit->St->Prop} {T:Tm} {H:Hp} {c n i:Nat} {r:List IOper} {p:List (Nat × Option (List Nat))} {L:List Nat} {o:Opd} {e:Nat}
theorem wr{w:Rl}[k:WR P N u w](h:w P N Q T H c):IW P N u ⟨T,H,c⟩ Q:=k.out h
theorem e_S:rS r y L P N Q T H c=rwp P (nx P N y Q) r ⟨tm (kp L T),H,c⟩:=propext Iff.rfl
theorem e_E:rE r L P N Q T H c=rwp P (no Q) r ⟨tm (kp L T),H,c⟩:=propext Iff.rfl
theorem e_P:rP r y n L P N Q T H c=rwp P (nx P N y Q) r ⟨tm (kp L T),H,c+n⟩:=propext Iff.rfl
theorem B8f:rPE r n L P N Q T H c=rwp P (no Q) r ⟨tm (kp L T),H,c+n⟩:=propext Iff.rfl
theorem e_D:rD r p y n L P N Q T H c=dwp P (nx P N y Q) r c p ⟨tm (kp L T),H,c+n⟩:=propext Iff.rfl
theorem B8g:rDE r p n L P N Q T H c=dwp P (no Q) r c p ⟨tm (kp L T),H,c+n⟩:=propext Iff.rfl
theorem e_C:rC o x z y L P N Q T H c=T1 P N x z ⟨tm (kp L T),H,c⟩ (sq P N y Q) (ev (tm (kp L T)) o):=propext Iff.rfl
theorem B8h:rCE o x z L P N Q T H c=T1 P N x z ⟨tm (kp L T),H,c⟩ Q (ev (tm (kp L T)) o):=propext Iff.rfl
theorem e_B:rB i x y L P N Q T H c=IW P N x ⟨tm (kp L T),H,c⟩ (bk i (sq P N y Q)):=propext Iff.rfl
theorem B8i:rBE i x L P N Q T H c=IW P N x ⟨tm (kp L T),H,c⟩ (bk i Q):=propext Iff.rfl
theorem e_Q:rQ x y L P N Q T H c=IW P N x ⟨tm (kp L T),H,c⟩ (sq P N y Q):=propext Iff.rfl
theorem e_T{e:Exit}:rT e P N Q T H c=Q e ⟨T,H,c⟩:=propext Iff.rfl
theorem cpc{f:Nat}{args:List DV}{v:DV}{K:DV->Hp->Nat->Prop}(h:PC P f args v)(k:K v H c):AC P f args H c K:=(h.at H c).mono (by grind)
instance wRet:WR P N .ret (rT .ret):=⟨fun h=>B3z h⟩
instance wSkip:WR P N .skip (rT .normal):=⟨fun h=>B1e h⟩
instance wExit:WR P N (.exit i) (rT (.exit i)):=⟨fun h=>B1f h⟩
theorem B0h{sz:Nat}{xs:List DV}{k:IntKind}:U7 sz (.lst xs) (.int k 0)=A6j sz xs[0]? := A5s (l:=0)
class W2 (G:Prop) (b:outParam Bool) (A B:outParam Prop):Prop where
 out:(b=true->A)->(b=false->B)->G
theorem wb2{G A B:Prop}{b:Bool}[k:W2 G b A B](h1:b=true->A)(h2:b=false->B):G:=k.out h1 h2
instance w2C {s:St} {b:Bool}:W2 (T1 P N x y s Q (.bool b)) b (IW P N x s Q) (IW P N y s Q):=⟨fun h1 h2=>B7g h1 h2⟩
instance w2G {R:St->Prop} {dst:Option Nat} {op:Go.Eng.IOp} {os:List IOper} {b d:Bool}:W2 (A0b P R dst op os T H c (some (b == d))) b (A0b P R dst op os T H c (some (true == d))) (A0b P R dst op os T H c (some (false == d))):=⟨fun h1 h2=>B7d h1 h2⟩
end
theorem B3k(a b:Nat)(h0:¬a=b):¬a=b/\¬b=a:=⟨h0,fun e=>h0 e.symm⟩
theorem B3j(a b c:Nat)(h:¬a=b/\¬a=c/\¬b=c):¬a=b/\¬a=c/\¬b=a/\¬b=c/\¬c=a/\¬c=b:=by
 omega
theorem L3(a b c d:Nat)(h:¬a=b/\¬a=c/\¬a=d/\¬b=c/\¬b=d/\¬c=d):¬a=b/\¬a=c/\¬a=d/\¬b=a/\¬b=c/\¬b=d/\¬c=a/\¬c=b/\¬c=d/\¬d=a/\¬d=b/\¬d=c:=by
 omega
theorem B6j(a b c d e:Nat)(h:¬a=b/\¬a=c/\¬a=d/\¬a=e/\¬b=c/\¬b=d/\¬b=e/\¬c=d/\¬c=e/\¬d=e):¬a=b/\¬a=c/\¬a=d/\¬a=e/\¬b=a/\¬b=c/\¬b=d/\¬b=e/\¬c=a/\¬c=b/\¬c=d/\¬c=e/\¬d=a/\¬d=b/\¬d=c/\¬d=e/\¬e=a/\¬e=b/\¬e=c/\¬e=d:=by
 omega
theorem A7o(a b c d e f:Nat)(h:¬a=b/\¬a=c/\¬a=d/\¬a=e/\¬a=f/\¬b=c/\¬b=d/\¬b=e/\¬b=f/\¬c=d/\¬c=e/\¬c=f/\¬d=e/\¬d=f/\¬e=f):¬a=b/\¬a=c/\¬a=d/\¬a=e/\¬a=f/\¬b=a/\¬b=c/\¬b=d/\¬b=e/\¬b=f/\¬c=a/\¬c=b/\¬c=d/\¬c=e/\¬c=f/\¬d=a/\¬d=b/\¬d=c/\¬d=e/\¬d=f/\¬e=a/\¬e=b/\¬e=c/\¬e=d/\¬e=f/\¬f=a/\¬f=b/\¬f=c/\¬f=d/\¬f=e:=by
 grind
theorem B3i(a b c d e f g:Nat)(h:¬a=b/\¬a=c/\¬a=d/\¬a=e/\¬a=f/\¬a=g/\¬b=c/\¬b=d/\¬b=e/\¬b=f/\¬b=g/\¬c=d/\¬c=e/\¬c=f/\¬c=g/\¬d=e/\¬d=f/\¬d=g/\¬e=f/\¬e=g/\¬f=g):¬a=b/\¬a=c/\¬a=d/\¬a=e/\¬a=f/\¬a=g/\¬b=a/\¬b=c/\¬b=d/\¬b=e/\¬b=f/\¬b=g/\¬c=a/\¬c=b/\¬c=d/\¬c=e/\¬c=f/\¬c=g/\¬d=a/\¬d=b/\¬d=c/\¬d=e/\¬d=f/\¬d=g/\¬e=a/\¬e=b/\¬e=c/\¬e=d/\¬e=f/\¬e=g/\¬f=a/\¬f=b/\¬f=c/\¬f=d/\¬f=e/\¬f=g/\¬g=a/\¬g=b/\¬g=c/\¬g=d/\¬g=e/\¬g=f:=by
 grind
attribute [go_sem] e_T B0h decide_true decide_false
attribute [go_sem] e_S e_E e_P B8f e_D B8g e_C B8h e_B B8i e_Q
end Go.Sym
namespace Go.Eng
open Go.RowKit Go.WideShapes Go.ChangeShapes
section
variable {H:Type} {enc:TypeId × Value->H} {P:Program}
theorem post_of_below{f:Func}{s:ChangeSpec}{apart fresh handsOn again:Bool}{W W':World}{args:Array Value}{v:Value}{ds gs:List (DataW H)}{before pa pv:List MemPlace}
  (hW:DataW.Whole enc P f.params.toList s.vars apart W args.toList ds gs before)
  (hres:∀ (b:Nat) (sp:Nat->Bool) (hd:Bool),DataW.TrodAll enc P W' b sp hd f.resultTypes.toList (v.resultList f.resultTypes.size) (s.fn H (ds++gs)).results [])
  (hargs:∀ sp:Nat->Bool,(∀ p∈before,sp p.block=true)->DataW.TrodAll enc P W' 0 sp true f.params.toList args.toList (s.fn H (ds++gs)).args pa)
  (hvars:∀ sp:Nat->Bool,(∀ p∈before,sp p.block=true)->DataW.TrodVars enc P W' sp s.vars (s.fn H (ds++gs)).vars pv)
  (hps:before=pa++pv) (hb:Below W.heap.size W W')
  (hok:∀ (j:Nat) (t:TypeId) (r:Value),f.resultTypes[j]? = some t->(v.resultList f.resultTypes.size)[j]? = some r->Value.okWide P W' .any 0 t r) :
  s.post enc P f apart fresh handsOn again W args v W':=by
 have hlt:∀ p∈before,p.block<W.heap.size:=fun p hp=>hW.lt p hp;have J0:∀ p∈before,(fun b=>decide (b<W.heap.size)) p.block=true:=fun p hp=>by grind
 refine⟨ds,gs,before,[],pa,pv,hW,hres _ _ _,hargs _ J0,hvars _ J0,World.keptBut_mono (fun p hp=>⟨hp,?_⟩) (hb.frame (· ∈ before)),fun _=>?_⟩
 ·grind
 ·obtain⟨_,_,_,_,_,hz,hn⟩:=hW;refine⟨hok,_,_,([]++pa)++pv,⟨[]++pa,pv,trodAll_append (hargs _ (fun _ _=>rfl)) (hres _ _ _),hvars _ (fun _ _=>rfl),rfl,?_,?_⟩,?_⟩
  ·intro b off hp;have hin:MemPlace.cell b off∈before:=by rw[hps];simpa using hp
   rw[hb.frozen (hlt _ hin)];exact hz b off hin
  ·intro ha;have:=hn ha;rw[hps]at this;simpa using this
  grind
end
end Go.Eng
namespace Go.Sym
variable [Go.Sym.Tab]
open Go.Eng (Opd FOp AOp EOp IOp IOper DReg IC RV IFn trC S6 G8 B6 isNew)
open Go.RowKit
variable {P:Program}
def A2b(w:World):Nat->Option (Array Value):=fun b=>match w.heap[b]? with
 |some (.cells r _ _)=>some r
 |_=>none
def TabOk(w:World):Prop:=∀ p∈Tab.tab, ∃ r,A2b w p.1=some r/\p.2 r
def topR(w:World)(hT:TabOk w):Ren:=⟨fun _=>none,A2b w,hT,fun _=>none⟩
theorem A5k(w:World)(hT:TabOk w):Rep (topR w hT) nil w:=by
 refine⟨fun id b h=>(by cases h),fun i j bi bj ti tj h=>(by cases h),fun b r h=>?_,fun id b t h=>(by cases h),fun b r h=>⟨?_,fun id b t h=>(by cases h)⟩⟩
 ·simp only[topR,A2b]at h;split at h
  ·rename_i r' e fr h1;cases h;exact⟨e,fr,h1⟩
  ·cases h
 trivial
theorem AC.top{f:Nat}{args:List DV}{Q:DV->Hp->Nat->Prop}(h:AC P f args nil 0 Q)(w:World)(hT:TabOk w)(vs:Array Value)(ha:A8 (topR w hT) args vs):
  Calls P f vs w fun e w' => ∃ v v' H' c' ρ',e=.returned v'/\Q v H' c'/\VRel ρ' v v'/\Below w.heap.size w w':=by
 refine (h.2 (topR w hT) w vs (A5k w hT) (fun _ _=>rfl) ha).mono ?_;rintro e w' ⟨v,v',H',c', ρ',e1,q,d⟩;exact⟨v,v',H',c', ρ',e1,q,d.val,d.ext.below (fun id b hb=>by cases hb)⟩
theorem PC.of_calls{f:Nat}{args:List DV}{r:DV}(hc:B6 P f=true)(na:DV.nlL args=true)(nr:r.nl=true)
  (h:∀ (ρ : Ren) (w:World) (vs:Array Value),(∀ b r, ρ.fz b=some r->∃ e fr,w.heap[b]? = some (.cells r e fr))->A8 ρ args vs ->
   Calls P f vs w fun e w' => ∃ v',e=.returned v'/\(∀ ρ':Ren,VRel ρ' r v')/\Below w.heap.size w w'):PC P f args r:=by
 refine⟨na,nr,hc,fun ρ w vs hR hf hA=>?_⟩;refine (h ρ w vs hR.frz hA).mono ?_;rintro e w' ⟨v',rfl,hv,b1,b2,b3,b4,b5⟩;refine⟨r,v',nil,0, ρ,rfl,rfl,hv ρ,⟨fun id b h=>(by cases h),fun i j bi bj ti tj h=>(by grind),fun b r hb=>?_,fun id b t h=>(by grind),fun b r hb=>⟨?_,fun id b t h=>(by grind)⟩⟩,hf,A0C _,fun id hid h=>absurd rfl h,fun _ _=>rfl,
  ⟨Ren.le_refl _,b1,b2,b3,b4,fun k hk _=>b5 k hk,fun id b t h1=>(by grind),fun k r h=>.inl h,fun k r h=>.inl h⟩⟩
 ·obtain⟨e,fr,h1⟩:=hR.frz b r hb
  grind
 ·obtain⟨⟨cl,h1,hst⟩, -⟩:=hR.frm b r hb
  grind
theorem GL.frzS{H H':Hp}{ds ds':List DV}{id:Nat}{b:Blk}(hb:H id=some b)(ho:b.own=true)(h:∀ j,H' j=none\/(j≠id/\H' j=H j))(hd:FzL id b ds ds'):GL H ds H' ds':=by
 refine⟨fun j hj=>?_,fun ρ w vs hR hA=>?_⟩
 ·grind
 ·exact (GL.frz hb ho (FzH.less h) hd).2 ρ w vs hR hA
theorem A5f{K:DV->Hp->Nat->Prop}{o:Option (DV × Hp × Nat)}{v:DV}{H':Hp}{c':Nat}(h:o=some (v,H',c'))(k:K v H' c'):oeK K o:=by rw[h];exact k
end Go.Sym
namespace Go.Pb
variable [Go.Sym.Tab]
open Go.Sym
abbrev I64(n:Int):DV:=.int .i64 n
abbrev I9(l:List Int):DV:=.lst (l.map I64)
abbrev strs(l:List (List UInt8)):DV:=.lst (l.map DV.str)
structure Ins where
 op:Int
 A:Int
deriving DecidableEq
structure Ent where
 mode:Int
 trigger:Int
 index:Int
 pos:Int
deriving DecidableEq
structure Prg where
 instrs:List Ins
 strings:List (List UInt8)
 entries:List Ent
 prios:List Int
 vars:List Int
 timers:Int
 events:Int
deriving DecidableEq
abbrev Ins.v(i:Ins):DV:=.agg [I64 i.op,I64 i.A]
abbrev Ent.v(e:Ent):DV:=.agg [I64 e.mode,I64 e.trigger,I64 e.index,I64 e.pos]
abbrev U4(l:List Ins):DV:=.lst (l.map Ins.v)
abbrev A1k(l:List Ent):DV:=.lst (l.map Ent.v)
abbrev Prg.cs(c:Prg):List DV:=[U4 c.instrs,strs c.strings,A1k c.entries,I9 c.prios,I9 c.vars,I64 c.timers,I64 c.events]
abbrev Prg.v(c:Prg):DV:=.agg c.cs
@[simp]theorem G2(l:List Int):DV.nlL (l.map I64)=true:=F6 (fun _=>rfl) l
@[simp]theorem H6(l:List (List UInt8)):DV.nlL (l.map DV.str)=true:=F6 (fun _=>rfl) l
@[simp]theorem K4(l:List Ins):DV.nlL (l.map Ins.v)=true:=F6 (fun _=>rfl) l
@[simp]theorem E4(l:List Ent):DV.nlL (l.map Ent.v)=true:=F6 (fun _=>rfl) l
def inM(n lo hi:Int):Bool:=decide (lo<=n) && decide (n<=hi)
def A2(op:Int):Int × Int × Int :=
 if op=1 then (0,1,1) else if op=2 then (0,1,2) else if op=3 then (1,0,2) else if op=4 then (0,1,3) else if op=5 then (0,1,4) else if op=6 then (0,1,5)
 else if op=7 then (0,1,0) else if op=8 then (0,1,0) else if op=9 then (1,1,0) else if op=10 then (1,1,0) else if op=11 then (2,1,6) else if op=12 then (0,0,7)
 else if op=13 then (1,0,7) else if op=14 then (1,1,7) else if op=15 then (1,0,0) else if op=16 then (0,0,8) else if op=17 then (0,0,8) else if op=18 then (0,0,8)
 else if op=19 then (1,0,9) else if op=20 then (2,0,9) else if op=21 then (1,0,5) else if op=22 then (0,0,5) else if op=23 then (0,0,4) else if op=24 then (0,0,4)
 else if op=25 then (0,0,10) else if op=26 then (0,0,9) else if op=27 then (0,0,9) else if op=28 then (0,0,9) else if op=29 then (1,0,11) else if op=30 then (0,0,0) else if op=31 then (0,0,0)
 else (0,0, -1)
theorem A8f(op:Int):A2 op∈[((0:Int),(1:Int),(1:Int)),(0,1,2),(1,0,2),(0,1,3),(0,1,4),(0,1,5),(0,1,0),(1,1,0),(2,1,6),(0,0,7),(1,0,7),(1,1,7),(1,0,0),(0,0,8),(1,0,9),(2,0,9),(1,0,5),(0,0,5),(0,0,4),(0,0,10),(0,0,9),(1,0,11),(0,0,0),(0,0, -1)]:=by
 by_cases h1:op=1
 ·subst h1;decide
 by_cases h2:op=2
 ·subst h2;decide
 by_cases h3:op=3
 ·subst h3;decide
 by_cases h4:op=4
 ·subst h4;decide
 by_cases h5:op=5
 ·subst h5;decide
 by_cases h6:op=6
 ·subst h6;decide
 by_cases h7:op=7
 ·subst h7;decide
 by_cases h8:op=8
 ·subst h8;decide
 by_cases h9:op=9
 ·subst h9;decide
 by_cases h10:op=10
 ·subst h10;decide
 by_cases h11:op=11
 ·subst h11;decide
 by_cases h12:op=12
 ·subst h12;decide
 by_cases h13:op=13
 ·subst h13;decide
 by_cases h14:op=14
 ·subst h14;decide
 by_cases h15:op=15
 ·subst h15;decide
 by_cases h16:op=16
 ·subst h16;decide
 by_cases h17:op=17
 ·subst h17;decide
 by_cases h18:op=18
 ·subst h18;decide
 by_cases h19:op=19
 ·subst h19;decide
 by_cases h20:op=20
 ·subst h20;decide
 by_cases h21:op=21
 ·subst h21;decide
 by_cases h22:op=22
 ·subst h22;decide
 by_cases h23:op=23
 ·subst h23;decide
 by_cases h24:op=24
 ·subst h24;decide
 by_cases h25:op=25
 ·subst h25;decide
 by_cases h26:op=26
 ·subst h26;decide
 by_cases h27:op=27
 ·subst h27;decide
 by_cases h28:op=28
 ·subst h28;decide
 by_cases h29:op=29
 ·subst h29;decide
 by_cases h30:op=30
 ·subst h30;decide
 by_cases h31:op=31
 ·subst h31;decide
 have e:A2 op=(0,0, -1):=by simp[A2, *]
 simp_all
theorem A0g(op:Int):0<=(A2 op).1/\(A2 op).1<=2/\0<=(A2 op).2.1/\(A2 op).2.1<=1:=by
 have h:∀ x∈[((0:Int),(1:Int),(1:Int)),(0,1,2),(1,0,2),(0,1,3),(0,1,4),(0,1,5),(0,1,0),(1,1,0),(2,1,6),(0,0,7),(1,0,7),(1,1,7),(1,0,0),(0,0,8),(1,0,9),(2,0,9),(1,0,5),(0,0,5),(0,0,4),(0,0,10),(0,0,9),(1,0,11),(0,0,0),(0,0, -1)],0<=x.1/\x.1<=2/\0<=x.2.1/\x.2.1<=1:=by simp
 exact h _ (A8f op)
def B1(c:Prg)(k a:Int):Bool :=
 if k=0 then decide (a=0) else if k=1 then inM a (-2147483647) 2147483647 else if k=2 then inM a 0 (c.vars.length-1) else if k=3 then inM a 0 63 else if k=9 then inM a 0 63
 else if k=4 then inM a 0 (c.prios.length-1) else if k=5 then inM a 0 (c.timers-1) else if k=6 then inM a 12 24 else if k=7 then true else if k=8 then inM a 0 31
 else if k=10 then inM a 0 (c.events-1) else if k=11 then inM a 0 (c.strings.length-1) else false
def A5(c:Prg)(i:Ins):Bool:=B1 c (A2 i.op).2.2 i.A
def N9(c:Prg)(e:Ent):Bool :=
 inM e.mode 0 (c.prios.length-1) && (if e.trigger=1\/e.trigger=2 then decide (e.index=0) else if e.trigger=3\/e.trigger=4 then inM e.index 0 63
  else if e.trigger=5 then inM e.index 0 (c.timers-1) else if e.trigger=6 then inM e.index 0 (c.events-1) else false)
def K3(b:UInt8):Bool:=decide (32<=b.toNat) && decide (b.toNat<=126)
def K2(s:List UInt8):Bool:=s.all K3 && decide (s.length<=32)
def H4(c:Prg):Bool :=
 c.strings.all K2 && c.prios.all (fun n=>inM n 0 99) && c.vars.all (fun n=>inM n (-2147483647) 2147483647) && c.entries.all (N9 c) && c.instrs.all (A5 c)
def P0(c:Prg)(i:Ins):Bool := !(decide ((A2 i.op).2.2=7) && !inM i.A 0 (c.instrs.length-1))
def A3q(c:Prg)(e:Ent):Bool:=inM e.pos 0 (c.instrs.length-1)
def C2(c:Prg):Bool:=c.instrs.all (P0 c) && c.entries.all (A3q c)
def A1b(a b:Ent):Bool:=if a.mode≠b.mode then decide (a.mode<b.mode) else if a.trigger≠b.trigger then decide (a.trigger<b.trigger) else decide (a.index<b.index)
def H7:List Ent->Bool
 |a :: b :: r=>A1b a b && H7 (b :: r)
 |_=>true
def D7(c:Prg):Bool :=
 decide (c.instrs.length<=4000) && decide (c.strings.length<=200) && decide (c.entries.length<=512) && decide (c.prios.length<=16) && decide (c.vars.length<=128) && inM c.timers 0 128 && inM c.events 0 128
structure Lim (c:Prg):Prop where
 p:IntKind.i64.wrap ((c.prios.length:Int)-1)=(c.prios.length:Int)-1
 v:IntKind.i64.wrap ((c.vars.length:Int)-1)=(c.vars.length:Int)-1
 s:IntKind.i64.wrap ((c.strings.length:Int)-1)=(c.strings.length:Int)-1
 i:IntKind.i64.wrap ((c.instrs.length:Int)-1)=(c.instrs.length:Int)-1
 t:IntKind.i64.wrap (c.timers-1)=c.timers-1
 e:IntKind.i64.wrap (c.events-1)=c.events-1
 li:c.instrs.length<=4000
 ls:c.strings.length<=200
 le:c.entries.length<=512
 lp:c.prios.length<=16
 lv:c.vars.length<=128
theorem Lim.of{c:Prg}(h:D7 c=true):Lim c:=by
 simp only[D7,inM,A0B,A0J]at h;obtain⟨⟨⟨⟨⟨⟨h1,h2⟩,h3⟩,h4⟩,h5⟩,h6,h7⟩,h8,h9⟩:=h;constructor<;>first|assumption|exact w6z (by omega)
abbrev Stp.v(p:Nat × Int):DV:=.agg [I64 (p.1:Int),I64 p.2]
@[simp]theorem B5p(l:List (Nat × Int)):DV.nlL (l.map Stp.v)=true:=F6 (fun _=>rfl) l
theorem X8(l:List Int):∀ x∈l.map I64,x.cells.length=1:=by
 intro x hx;obtain⟨y, -,rfl⟩:=A1B.1 hx;rfl
theorem O1(l:List Int):A6 (l.map I64)=l.map I64:=S4 (fun _=>rfl) l
def A3(i:Ins)(p:Nat)(h:Int):List (Nat × Int) :=
 if i.op=31 then [] else if i.op=12 then [(i.A.toNat,h)] else if i.op=13 then [(p+1,h-1),(i.A.toNat,h-1)] else if i.op=14 then [(p+1,h),(i.A.toNat,h-1)]
 else [(p+1,h-(A2 i.op).1+(A2 i.op).2.1)]
def Z9(c:Prg):Nat->List Int->List (Nat × Int)->Option (Option (List Int))
 |0,_,_=>none
 |n+1,h,[]=>some (some h)
 |n+1,h,(p,x) :: st =>
  if h.length<=p\/x>48 then some none
  else if 0<=h.getD p 0 then (if h.getD p 0≠x then some none else Z9 c n h st)
  else if (A2 (c.instrs.getD p ⟨0,0⟩).op).1>x\/((c.instrs.getD p ⟨0,0⟩).op=31/\x≠0) then some none
  else Z9 c n (h.set p x) ((A3 (c.instrs.getD p ⟨0,0⟩) p x).reverse++st)
def V2(e:Ent):Nat × Int:=(e.pos.toNat,0)
def A4v(c:Prg):List (Nat × Int):=(c.entries.map V2).reverse
def A4r:Option (List Int)->DV
 |none=>.tup [.lst [],.bool false]
 |some h=>.tup [I9 h,.bool true]
def N2(n k:Nat):List Int:=List.replicate k (-1)++List.replicate (n-k) 0
theorem A2r{n k:Nat}(h:k<n):N2 n (k+1)=(N2 n k).set k (-1):=by
 unfold N2;rw[List.set_append_right _ _ (by simp)];simp only[List.length_replicate,Nat.sub_self];obtain⟨m,hm⟩:∃ m,n-k=m+1:=⟨n-k-1,by omega⟩;have h2:n-(k+1)=m:=by omega
 rw[hm,h2,A2R (n:=m),List.set_cons_zero,List.replicate_succ' (n:=k)];simp
theorem A3e(i:Ins)(p:Nat)(h:Int):(A3 i p h).length<=2:=by
 unfold A3;grind
theorem A5d{i:Ins}{p:Nat}{x:Int}{len:Nat}(hl:len<=4000)(hp:p<len)(hA:i.op=12\/i.op=13\/i.op=14->0<=i.A/\i.A<=(len:Int)-1)(h0:0<=x)(h1:x<=48)(he:(A2 i.op).1<=x):
  ∀ s∈A3 i p x,s.1<=4000/\0<=s.2/\s.2<=50:=by
 obtain⟨b1,b2,b3,b4⟩:=A0g i.op;intro s hs;unfold A3 at hs;split at hs
 ·cases hs
 split at hs
 ·rename_i e;have:=hA (.inl e);simp only[A1V]at hs;subst hs;simp only;omega
 split at hs
 ·rename_i e;have:=hA (.inr (.inl e));have e1:(A2 i.op).1=1:=by rw[e];decide
  simp only[A0N,A2A,or_false]at hs;rcases hs with rfl|rfl<;>simp only<;>omega
 split at hs
 ·rename_i e;have:=hA (.inr (.inr e));have e1:(A2 i.op).1=1:=by rw[e];decide
  simp only[A0N,A2A,or_false]at hs;rcases hs with rfl|rfl<;>simp only<;>omega
 grind
theorem Z8{c:Prg}(hj:C2 c=true):∀ i∈c.instrs,i.op=12\/i.op=13\/i.op=14->0<=i.A/\i.A<=(c.instrs.length:Int)-1:=by
 intro i hi hop;simp only[C2,A0B,A0H]at hj;have:=hj.1 i hi;have hk:(A2 i.op).2.2=7:=by rcases hop with e|e|e<;>rw[e]<;>decide
 simpa[P0,hk,inM] using this
theorem A2u{c:Prg}(hj:C2 c=true):∀ e∈c.entries,0<=e.pos/\e.pos<=(c.instrs.length:Int)-1:=by
 intro e he;simp only[C2,A0B,A0H]at hj;have:=hj.2 e he;simpa[A3q,inM] using this
def S8(h:List Int):Nat:=h.countP fun x=>decide (x<0)
theorem Q8(c:Prg)(hl:c.instrs.length<=4000)(hj:C2 c=true):∀ (n:Nat) (h:List Int) (st:List (Nat × Int)),h.length=c.instrs.length->(∀ s∈st,s.1<=4000/\0<=s.2/\s.2<=50)->3 * S8 h+st.length<n->∃ r,Z9 c n h st=some r
 |0,h,st,_,_,hlt=>by omega
 |n+1,h,[],_,_,_=>⟨some h,rfl⟩
 |n+1,h,(p,x) :: st,hlen,hst,hlt=>by
  simp only[A0I]at hlt;have hst':∀ s∈st,s.1<=4000/\0<=s.2/\s.2<=50:=fun s hs=>hst s (A0A _ hs);obtain⟨s1,s2,s3⟩:=hst (p,x) A0D;simp only at s1 s2 s3;simp only[Z9];split
  ·simp
  ·rename_i h1;have hp:p<h.length:=by omega
   have hpi:p<c.instrs.length:=by omega
   have hgi:c.instrs.getD p ⟨0,0⟩=c.instrs[p]:=by grind
   have hgh:h.getD p 0=h[p]:=by grind
   rw[hgi,hgh];split
   ·split
    ·simp
    ·exact Q8 c hl hj n h st hlen hst' (by omega)
   ·rename_i h2;split
    ·simp
    ·rename_i h3;have hbd:=A5d (x:=x) hl hpi (Z8 hj _ (A0U hpi)) s2 (by omega) (by omega);have hal:=A3e c.instrs[p] p x;refine Q8 c hl hj n (h.set p x) _ (by grind) (fun s hs=>?_) ?_
     ·grind
     ·have hneg:S8 (h.set p x)+1=S8 h:=by
       unfold S8;rw[List.countP_set hp];have e1:decide (h[p]<0)=true:=by simp;omega
       have e2:decide (x<0)=false:=by simp;omega
       simp only[e1,e2,if_true,A0Y,if_false];have:0<h.countP fun x=>decide (x<0):=List.countP_pos_iff.2 ⟨h[p],A0U hp,e1⟩;omega
      grind
def A3t(c:Prg):Nat:=3 * c.instrs.length+c.entries.length+1
def hR(c:Prg):Option (List Int):=(Z9 c (A3t c) (List.replicate c.instrs.length (-1)) (A4v c)).getD none
theorem B4c{c:Prg}(hl:c.instrs.length<=4000)(hj:C2 c=true):Z9 c (A3t c) (List.replicate c.instrs.length (-1)) (A4v c)=some (hR c):=by
 obtain⟨r,hr⟩:=Q8 c hl hj (A3t c) (List.replicate c.instrs.length (-1)) (A4v c) (by simp) (by
  intro s hs;simp only[A4v,List.mem_reverse,A1B]at hs;obtain⟨e,h1,rfl⟩:=hs;have:=A2u hj e h1;simp only[V2];omega) (by simp[S8,A3t,A4v,List.countP_replicate])
 rw[hR,hr];rfl
def B3(c:Prg):Int:=if D7 c=false then 9 else if H4 c=false then 51 else if C2 c=false then 54 else if H7 c.entries=false then 66 else if (hR c).isNone then 53 else 0
theorem A2y{l:List Ent}:∀ {k:Nat} {a b:Ent},1<=k->l[k-1]? = some a->l[k]? = some b->H7 (l.take k)=true->H7 (l.take (k+1))=A1b a b:=by
 induction l with
 |nil=>simp
 |cons x l ih =>
  intro k a b hk ha hb hc;obtain⟨k,rfl⟩:∃ j,k=j+1:=⟨k-1,by omega⟩;rw[A2Q]at hc ⊢;simp only[A2F,A1H]at ha hb;cases k with
  |zero =>
   simp only[A2G,Option.some.injEq]at ha;subst ha;cases l with
   |nil=>grind
   |cons y l=>simp at hb;subst hb;simp[H7]
  |succ k =>
   cases l with
   |nil=>grind
   |cons y l =>
    simp only[A1H]at ha;have hb':(y :: l)[k+1]? = some b:=hb;rw[A2Q]at hc ⊢;simp only[H7,A0B]at hc ⊢
    simp_all
theorem A2z{l:List Ent}:∀ {k:Nat} {a b:Ent},1<=k->l[k-1]? = some a->l[k]? = some b->A1b a b=false->H7 l=false:=by
 induction l with
 |nil=>simp
 |cons x l ih =>
  intro k a b hk ha hb hc;obtain⟨k,rfl⟩:∃ j,k=j+1:=⟨k-1,by omega⟩;simp only[A2F,A1H]at ha hb;cases l with
  |nil=>grind
  |cons y l =>
   simp only[H7];cases k with
   |zero=>grind
   |succ k =>
    grind
def L5{α : Type}(g : α -> Bool):List α -> Nat->Int
 |[],_ => -1
 |x :: r,k=>if g x then (k:Int) else L5 g r (k+1)
theorem A1e{α : Type}(g : α -> Bool):∀ (l:List α) (k:Nat),(0<=L5 g l k)↔l.any g=true
 |[],k=>by simp[L5]
 |x :: r,k=>by
  simp only[L5,List.any_cons,A1L];by_cases hg:g x=true
  ·grind
  ·rw[if_neg hg,A1e g r (k+1)];grind
theorem U6{α : Type}(g : α -> Bool)(l:List α)(k:Nat):decide (L5 g l k≥0)=l.any g:=by
 rw[A2D,decide_eq_true_iff];exact A1e g l k
theorem Q7{α : Type}{g : α -> Bool}{l:List α}{k:Nat}{x : α}(h:l[k]? = some x):L5 g (l.drop k) k=if g x then (k:Int) else L5 g (l.drop (k+1)) (k+1):=by
 have hk:k<l.length:=(A0M.1 h).1;rw[A2U hk];rw[A0F hk]at h;cases h;rfl
theorem U5{α : Type}{g : α -> Bool}{l:List α}{k:Nat}(h:l.length<=k):L5 g (l.drop k) k = -1:=by
 rw[List.drop_eq_nil_of_le h];rfl
def isJ(op:Int):Bool:=decide (op=12) || (decide (op=13) || decide (op=14))
def B0(c:Prg)(op:Int):Int × Int :=
 if op=1 then (-2147483647,2147483647) else if op=2\/op=3 then (0,c.vars.length-1) else if op=4 then (0,63) else if op=5\/op=23\/op=24 then (0,c.prios.length-1)
 else if op=6\/op=21\/op=22 then (0,c.timers-1) else if op=11 then (12,24) else if op=16\/op=17\/op=18 then (0,31)
 else if op=19\/op=20\/op=26\/op=27\/op=28 then (0,63) else if op=25 then (0,c.events-1) else if op=29 then (0,c.strings.length-1)
 else if op=7\/op=8\/op=9\/op=10\/op=15\/op=30\/op=31 then (0,0) else (1,0)
theorem B5b{op:Int}(h1:¬ op=1)(h2:¬ op=2)(h3:¬ op=3)(h4:¬ op=4)(h5:¬ op=5)(h6:¬ op=6)(h7:¬ op=7)(h8:¬ op=8)(h9:¬ op=9)(h10:¬ op=10)(h11:¬ op=11)(h13:¬ op=13)(h14:¬ op=14)(h15:¬ op=15)(h19:¬ op=19)(h20:¬ op=20)(h21:¬ op=21)(h29:¬ op=29):(A2 op).1=0/\(A2 op).2.1=0:=by
 by_cases h12:op=12
 ·subst h12;decide
 by_cases h16:op=16
 ·subst h16;decide
 by_cases h17:op=17
 ·subst h17;decide
 by_cases h18:op=18
 ·subst h18;decide
 by_cases h22:op=22
 ·subst h22;decide
 by_cases h23:op=23
 ·subst h23;decide
 by_cases h24:op=24
 ·subst h24;decide
 by_cases h25:op=25
 ·subst h25;decide
 by_cases h26:op=26
 ·subst h26;decide
 by_cases h27:op=27
 ·subst h27;decide
 by_cases h28:op=28
 ·subst h28;decide
 by_cases h30:op=30
 ·subst h30;decide
 by_cases h31:op=31
 ·subst h31;decide
 have e:A2 op=(0,0, -1):=by simp[A2, *]
 grind
theorem U3(op:Int):isJ op=decide ((A2 op).2.2=7):=by
 by_cases h1:op=1
 ·subst h1;rfl
 by_cases h2:op=2
 ·subst h2;rfl
 by_cases h3:op=3
 ·subst h3;rfl
 by_cases h4:op=4
 ·subst h4;rfl
 by_cases h5:op=5
 ·subst h5;rfl
 by_cases h6:op=6
 ·subst h6;rfl
 by_cases h7:op=7
 ·subst h7;rfl
 by_cases h8:op=8
 ·subst h8;rfl
 by_cases h9:op=9
 ·subst h9;rfl
 by_cases h10:op=10
 ·subst h10;rfl
 by_cases h11:op=11
 ·subst h11;rfl
 by_cases h12:op=12
 ·subst h12;rfl
 by_cases h13:op=13
 ·subst h13;rfl
 by_cases h14:op=14
 ·subst h14;rfl
 by_cases h15:op=15
 ·subst h15;rfl
 by_cases h16:op=16
 ·subst h16;rfl
 by_cases h17:op=17
 ·subst h17;rfl
 by_cases h18:op=18
 ·subst h18;rfl
 by_cases h19:op=19
 ·subst h19;rfl
 by_cases h20:op=20
 ·subst h20;rfl
 by_cases h21:op=21
 ·subst h21;rfl
 by_cases h22:op=22
 ·subst h22;rfl
 by_cases h23:op=23
 ·subst h23;rfl
 by_cases h24:op=24
 ·subst h24;rfl
 by_cases h25:op=25
 ·subst h25;rfl
 by_cases h26:op=26
 ·subst h26;rfl
 by_cases h27:op=27
 ·subst h27;rfl
 by_cases h28:op=28
 ·subst h28;rfl
 by_cases h29:op=29
 ·subst h29;rfl
 by_cases h30:op=30
 ·subst h30;rfl
 by_cases h31:op=31
 ·subst h31;rfl
 have e:A2 op=(0,0, -1):=by simp[A2, *]
 rw[e];simp[isJ, *]
theorem A2q(a:Int):inM a 0 0=decide (a=0):=by
 rw[A2D];simp[inM];omega
theorem A0w(c:Prg)(i:Ins):A5 c i=(isJ i.op || inM i.A (B0 c i.op).1 (B0 c i.op).2):=by
 by_cases h1:i.op=1
 ·simp[A5,B1,A2,isJ,B0,h1]
 by_cases h2:i.op=2
 ·simp[A5,B1,A2,isJ,B0,h2]
 by_cases h3:i.op=3
 ·simp[A5,B1,A2,isJ,B0,h3]
 by_cases h4:i.op=4
 ·simp[A5,B1,A2,isJ,B0,h4]
 by_cases h5:i.op=5
 ·simp[A5,B1,A2,isJ,B0,h5]
 by_cases h6:i.op=6
 ·simp[A5,B1,A2,isJ,B0,h6]
 by_cases h7:i.op=7
 ·simp[A5,B1,A2,isJ,B0,A2q,h7]
 by_cases h8:i.op=8
 ·simp[A5,B1,A2,isJ,B0,A2q,h8]
 by_cases h9:i.op=9
 ·simp[A5,B1,A2,isJ,B0,A2q,h9]
 by_cases h10:i.op=10
 ·simp[A5,B1,A2,isJ,B0,A2q,h10]
 by_cases h11:i.op=11
 ·simp[A5,B1,A2,isJ,B0,h11]
 by_cases h12:i.op=12
 ·simp[A5,B1,A2,isJ,B0,h12]
 by_cases h13:i.op=13
 ·simp[A5,B1,A2,isJ,B0,h13]
 by_cases h14:i.op=14
 ·simp[A5,B1,A2,isJ,B0,h14]
 by_cases h15:i.op=15
 ·simp[A5,B1,A2,isJ,B0,A2q,h15]
 by_cases h16:i.op=16
 ·simp[A5,B1,A2,isJ,B0,h16]
 by_cases h17:i.op=17
 ·simp[A5,B1,A2,isJ,B0,h17]
 by_cases h18:i.op=18
 ·simp[A5,B1,A2,isJ,B0,h18]
 by_cases h19:i.op=19
 ·simp[A5,B1,A2,isJ,B0,h19]
 by_cases h20:i.op=20
 ·simp[A5,B1,A2,isJ,B0,h20]
 by_cases h21:i.op=21
 ·simp[A5,B1,A2,isJ,B0,h21]
 by_cases h22:i.op=22
 ·simp[A5,B1,A2,isJ,B0,h22]
 by_cases h23:i.op=23
 ·simp[A5,B1,A2,isJ,B0,h23]
 by_cases h24:i.op=24
 ·simp[A5,B1,A2,isJ,B0,h24]
 by_cases h25:i.op=25
 ·simp[A5,B1,A2,isJ,B0,h25]
 by_cases h26:i.op=26
 ·simp[A5,B1,A2,isJ,B0,h26]
 by_cases h27:i.op=27
 ·simp[A5,B1,A2,isJ,B0,h27]
 by_cases h28:i.op=28
 ·simp[A5,B1,A2,isJ,B0,h28]
 by_cases h29:i.op=29
 ·simp[A5,B1,A2,isJ,B0,h29]
 by_cases h30:i.op=30
 ·simp[A5,B1,A2,isJ,B0,A2q,h30]
 by_cases h31:i.op=31
 ·simp[A5,B1,A2,isJ,B0,A2q,h31]
 have e:A2 i.op=(0,0, -1):=by simp[A2, *]
 simp[A5,B1,isJ,B0, *,inM];omega
theorem A3w{α : Type}(p : α -> Bool)(l:List α):(l.any fun x => !p x) = !l.all p:=by
 grind
theorem A5c{α : Type}(p : α -> Bool)(l:List α)(k:Nat)(x : α)(hx:l[k]? = some x):(l.take (k+1)).all p=((l.take k).all p && p x):=by
 rw[List.take_add_one,hx,List.all_append];simp
theorem A5m(b x n:Bool):(b || !(x && n))=((b || !x) || !n):=by grind
def B2(h:List Int)(wk:List Nat)(p:Nat)(x:Int):Option (List Int × List Nat) :=
 if h.length<=p\/x>48\/(0<=h.getD p 0/\h.getD p 0≠x) then none
 else if h.getD p 0<0 then some (h.set p x,p :: wk) else some (h,wk)
def wkC(wk:List Nat):List DV:=wk.reverse.map fun (p:Nat)=>I64 (p:Int)
theorem O4(p:Nat)(wk:List Nat):wkC (p :: wk)=wkC wk++[I64 (p:Int)]:=by simp[wkC]
theorem O3(wk:List Nat):(wkC wk).length=wk.length:=by simp[wkC]
structure WkS (c:Prg) (h:List Int) (wk:List Nat) (o:Option Nat) (junk:List DV) (H:Hp) (cc:Nat):Prop where
 h0:H 0=some ⟨0,true,c.cs⟩
 h1:H 1=some ⟨1,true,h.map I64⟩
 h2:H 2=some ⟨0,true,[.slc 1 0 h.length]⟩
 h3:H 3=some ⟨0,true,[C7 o wk.length]⟩
 hn:o=none->wk=[]
 hs:∀ i,o=some i->4<=i/\i<cc/\H i=some ⟨1,true,wkC wk++junk⟩
 hc:4<=cc
def WH(c:Prg)(h:List Int)(wk:List Nat)(o:Option Nat)(junk:List DV):Hp :=
 S7 ((((Sym.nil.upd 0 ⟨0,true,c.cs⟩).upd 1 ⟨1,true,h.map I64⟩).upd 2 ⟨0,true,[.slc 1 0 h.length]⟩).upd 3 ⟨0,true,[C7 o wk.length]⟩) o ⟨1,true,wkC wk++junk⟩
theorem WkS.sub{c:Prg}{h:List Int}{wk:List Nat}{o:Option Nat}{junk:List DV}{H:Hp}{cc:Nat}(hS:WkS c h wk o junk H cc):Sub (WH c h wk o junk) H:=by
 obtain⟨h0,h1,h2,h3,hn,hs,hc⟩:=hS;have base:Sub ((((Sym.nil.upd 0 ⟨0,true,c.cs⟩).upd 1 ⟨1,true,h.map I64⟩).upd 2 ⟨0,true,[.slc 1 0 h.length]⟩).upd 3 ⟨0,true,[C7 o wk.length]⟩) H :=
  ((((Sub.nil H).put h0).put h1).put h2).put h3
 cases o with
 |none=>trivial
 |some i=>exact base.put (hs i rfl).2.2
theorem WkS.mk'{c:Prg}{h:List Int}{wk:List Nat}{o:Option Nat}{junk:List DV}{cc:Nat}(hn:o=none->wk=[])(hs:∀ i,o=some i->4<=i/\i<cc)(hc:4<=cc):WkS c h wk o junk (WH c h wk o junk) cc:=by
 cases o with
 |none=>exact⟨rfl,rfl,rfl,rfl,hn,fun i hi=>(by grind),hc⟩
 |some i =>
  obtain⟨i1,i2⟩:=hs i rfl;refine⟨?_,?_,?_,?_,hn,fun j hj=>?_,hc⟩
  ·simp only[WH,S7];rw[hnO];rfl
  ·simp only[WH,S7];rw[hnO];rfl
  ·simp only[WH,S7];rw[hnO];rfl
  ·simp only[WH,S7];rw[hnO];rfl
  ·cases hj;exact⟨i1,i2,A7⟩
theorem WkS.upd{c:Prg}{h:List Int}{wk:List Nat}{o:Option Nat}{junk:List DV}{H:Hp}{cc:Nat}(hS:WkS c h wk o junk H cc){k c2:Nat}(b:Blk)(hk:cc<=k)(hk2:cc<=c2):WkS c h wk o junk (H.upd k b) c2:=by
 obtain⟨h0,h1,h2,h3,hn,hs,hc⟩:=hS;exact⟨by rw[hnO];omega,by rw[hnO];omega,by rw[hnO];omega,by rw[hnO];omega,hn,
  fun i hi=>⟨(hs i hi).1,by grind,by have:=(hs i hi).2.1;rw[hnO];grind⟩,by omega⟩
def C1(h:List Int)(wk:List Nat):List (Nat × Int)->Option (List Int × List Nat)
 |[]=>some (h,wk)
 |(p,x) :: r=>match B2 h wk p x with
  |none=>none
  |some (h',wk')=>C1 h' wk' r
def A1h(c:Prg):Nat->List Int->List Nat->Option (Option (List Int))
 |0,_,_=>none
 |n+1,h,[]=>some (some h)
 |n+1,h,p :: wk =>
  if (A2 (c.instrs.getD p ⟨0,0⟩).op).1>h.getD p 0\/((c.instrs.getD p ⟨0,0⟩).op=31/\h.getD p 0≠0) then some none
  else match C1 h wk (A3 (c.instrs.getD p ⟨0,0⟩) p (h.getD p 0)) with
   |none=>some none
   |some (h',wk')=>A1h c n h' wk'
def A1g(c:Prg)(n:Nat):Option (Option (List Int)) :=
 match C1 (List.replicate c.instrs.length (-1)) [] (c.entries.map V2) with
 |none=>some none
 |some (h,wk)=>A1h c n h wk
structure WkI (len:Nat) (h:List Int) (wk:List Nat):Prop where
 hl:h.length=len
 mem:∀ p∈wk,p<len/\0<=h.getD p 0/\h.getD p 0<=48
theorem E3{len:Nat}{h h':List Int}{wk wk':List Nat}{p:Nat}{x:Int}(hI:WkI len h wk)(hx:0<=x)(hr:B2 h wk p x=some (h',wk')):WkI len h' wk'/\wk'.length<=wk.length+1:=by
 unfold B2 at hr;split at hr
 ·grind
 ·rename_i hc;have hp:p<h.length:=by omega
  split at hr
  ·cases hr;refine⟨⟨by simpa using hI.hl,fun q hq=>?_⟩,by simp⟩;have hset:∀ j,(h.set p x).getD j 0=if j=p then x else h.getD j 0:=by
    intro j;simp only[List.getD,A2W];by_cases e:p=j
    ·subst e;simp[hp]
    ·rw[if_neg e,if_neg (Ne.symm e)]
   simp only[hset];by_cases e:q=p
   ·subst e;simp only[if_true];have:=hI.hl;omega
   ·simp only[e,if_false];cases hq with
    |head=>exact absurd rfl e
    |tail _ hq=>exact hI.mem q hq
  grind
theorem N5{len:Nat}:∀ (l:List (Nat × Int)) {h h':List Int} {wk wk':List Nat},WkI len h wk->(∀ s∈l,0<=s.2)->C1 h wk l=some (h',wk')->WkI len h' wk'/\wk'.length<=wk.length+l.length
 |[],h,h',wk,wk',hI,_,hr=>by cases hr;grind
 |(p,x) :: l,h,h',wk,wk',hI,hx,hr=>by
  simp only[C1]at hr;split at hr
  ·grind
  ·rename_i h1 wk1 h2;obtain⟨a,b⟩:=E3 hI (hx _ A0D) h2;obtain⟨a',b'⟩:=N5 l a (fun s hs=>hx s (A0A _ hs)) hr
   grind
theorem WkS.pop{c:Prg}{h:List Int}{p:Nat}{wk:List Nat}{id:Nat}{junk:List DV}{H:Hp}{cc:Nat}(hS:WkS c h (p :: wk) (some id) junk H cc):
  WkS c h wk (some id) (I64 p :: junk) (H.upd 3 ⟨0,true,[.slc id 0 wk.length]⟩) cc:=by
 obtain⟨h0,h1,h2,h3,hn,hs,hc⟩:=hS;refine⟨by assumption,by assumption,by assumption,A7,by simp,fun i hi=>?_,hc⟩;obtain⟨a,b,d⟩:=hs i hi;refine⟨a,b,?_⟩;rw[hnO,d,O4];simp
theorem A1w{α : Type}(p : α -> Bool)(l:List α)(k:Nat)(x : α)(hx:l[k]? = some x)(h:(l.take k).all p=true):(l.take (k+1)).all p=p x:=by
 rw[List.take_add_one,hx,List.all_append,h];simp
theorem V8{α : Type}(p : α -> Bool)(l:List α)(k:Nat)(x : α)(hx:l[k]? = some x)(h:p x=false):l.all p=false:=by
 grind
theorem A1x{α : Type}(p : α -> Bool)(l:List α)(k:Nat)(hk:l.length<=k)(h:(l.take k).all p=true):l.all p=true:=by
 rwa [A1U hk]at h
abbrev Prg.ins(c:Prg)(p:Nat):Ins:=c.instrs.getD p ⟨0,0⟩
def OKs(c:Prg)(p:Nat)(x:Int):Prop:=p<c.instrs.length/\x<=48/\(A2 (c.ins p).op).1<=x/\¬((c.ins p).op=31/\x≠0)
inductive Rch (c:Prg):Nat->Int->Prop
 |ent {e:Ent}:e∈c.entries->Rch c e.pos.toNat 0
 |step {p:Nat} {x:Int} {s:Nat × Int}:Rch c p x->OKs c p x->s∈A3 (c.ins p) p x->Rch c s.1 s.2
def Bad(c:Prg):Prop:=∃ p x,Rch c p x/\(¬OKs c p x\/∃ y,Rch c p y/\y≠x)
structure Hts (c:Prg) (h:List Int):Prop where
 len:h.length=c.instrs.length
 all:∀ p x,Rch c p x->OKs c p x/\h[p]? = some x
 only:∀ p x,h[p]? = some x->x = -1\/(0<=x/\Rch c p x)
theorem OKs.nn{c:Prg}{p:Nat}{x:Int}(h:OKs c p x):0<=x:=by
 have:=(A0g (c.ins p).op).1;have:=h.2.2.1;omega
theorem Q1{c:Prg}{p:Nat}{x:Int}(hok:OKs c p x):∀ s∈A3 (c.ins p) p x,0<=s.2:=by
 intro s hs';have q3:=hok.2.2.1;have b:=A0g (c.ins p).op;unfold A3 at hs';split at hs'
 ·cases hs'
 split at hs'
 ·simp only[A1V]at hs';subst hs';simp only;omega
 split at hs'
 ·rename_i e;rw[e]at q3;have:(A2 13).1=1:=by decide
  simp only[A0N,A2A,or_false]at hs';rcases hs' with rfl|rfl<;>simp only<;>omega
 split at hs'
 ·rename_i e;rw[e]at q3;have:(A2 14).1=1:=by decide
  simp only[A0N,A2A,or_false]at hs';rcases hs' with rfl|rfl<;>simp only<;>omega
 grind
theorem Hts.uniq{c:Prg}{h h':List Int}(a:Hts c h)(b:Hts c h'):h=h':=by
 refine List.ext_getElem? fun p=>?_;by_cases hp:p<c.instrs.length
 ·have e1:=A0F (l:=h) (i:=p) (by rw[a.len];omega);have e2:=A0F (l:=h') (i:=p) (by rw[b.len];omega);rcases a.only _ _ e1 with h1|⟨h1,h2⟩
  ·rcases b.only _ _ e2 with h3|⟨h3,h4⟩
   ·grind
   ·rw[(a.all _ _ h4).2,e2]
  ·rw[e1,(b.all _ _ h2).2]
 ·rw[A2K (by rw[a.len];omega),A2K (by rw[b.len];omega)]
theorem Hts.notBad{c:Prg}{h:List Int}(a:Hts c h):¬Bad c:=by
 rintro⟨p,x,h1,h2|⟨y,h2,h3⟩⟩
 ·exact h2 (a.all _ _ h1).1
 ·have e1:=(a.all _ _ h1).2;rw[(a.all _ _ h2).2]at e1
  grind
def A1y(c:Prg):Option (List Int)->Prop
 |some h=>Hts c h
 |none=>Bad c
theorem A1y.uniq{c:Prg}{r r':Option (List Int)}(a:A1y c r)(b:A1y c r'):r=r':=by
 cases r with
 |none=>cases r' with
  |none=>rfl
  |some h=>exact absurd a (Hts.notBad b)
 |some h=>cases r' with
  |none=>exact absurd b (Hts.notBad a)
  |some h'=>rw[Hts.uniq a b]
theorem P2{h:List Int}{p:Nat}(hp:p<h.length):h[p]? = some (h.getD p 0):=by
 grind
structure HInv (c:Prg) (h:List Int) (wk:List Nat) (l:List (Nat × Int)):Prop where
 len:h.length=c.instrs.length
 ok:∀ p x,h[p]? = some x->x = -1\/(0<=x/\Rch c p x/\(p ∉ wk->OKs c p x/\∀ s∈A3 (c.ins p) p x,h[s.1]? = some s.2\/s∈l))
 to:∀ s∈l,Rch c s.1 s.2
 en:∀ e∈c.entries,h[e.pos.toNat]? = some 0\/V2 e∈l
theorem HInv.done{c:Prg}{h:List Int}(a:HInv c h [] []):Hts c h:=by
 have key:∀ p x,Rch c p x->h[p]? = some x:=by
  intro p x hr
  induction hr with
  |ent he =>
   rcases a.en _ he with h1|h1
   ·exact h1
   grind
  |step h1 h2 h3 ih =>
   rcases a.ok _ _ ih with h4|⟨-, -,h4⟩
   ·have:=h2.nn;omega
   grind
 refine⟨a.len,fun p x hr=>⟨?_,key p x hr⟩,fun p x hp=>?_⟩
 ·rcases a.ok _ _ (key p x hr) with h4|⟨-, -,h4⟩
  ·exfalso;cases hr with
   |ent he=>omega
   |step h1 h2 h3 =>
    have:=Q1 h2 _ h3;omega
  grind
 ·rcases a.ok _ _ hp with h4|⟨h5,h6, -⟩
  ·exact .inl h4
  grind
theorem HInv.start(c:Prg):HInv c (List.replicate c.instrs.length (-1)) [] (c.entries.map V2):=by
 refine⟨by simp,fun p x hp=>?_,fun s hs=>?_,fun e he=>.inr (List.mem_map_of_mem he)⟩
 ·grind
 ·obtain⟨e,he,rfl⟩:=A1B.1 hs;exact .ent he
theorem HInv.perm{c:Prg}{h:List Int}{wk:List Nat}{l l':List (Nat × Int)}(a:HInv c h wk l)(hp:∀ s,s∈l↔s∈l'):HInv c h wk l' :=
 ⟨a.len,fun p x hx=>(a.ok p x hx).imp_right fun ⟨u,v,w⟩=>⟨u,v,fun hn=>⟨(w hn).1,fun s hs=>((w hn).2 s hs).imp_right (hp s).1⟩⟩,fun s hs=>a.to s ((hp s).2 hs),fun e he=>(a.en e he).imp_right (hp _).1⟩
theorem HInv.skip{c:Prg}{h:List Int}{wk:List Nat}{l:List (Nat × Int)}{p:Nat}{x:Int}(a:HInv c h wk ((p,x) :: l))(hx:h[p]? = some x):HInv c h wk l:=by
 refine⟨a.len,fun q y hq=>?_,fun s hs=>a.to s (A0A _ hs),fun e he=>?_⟩
 ·rcases a.ok q y hq with h1|⟨u,v,w⟩
  ·exact .inl h1
  grind
 ·rcases a.en e he with h1|h1
  ·grind
  ·have hc:=A0N.1 h1;rcases hc with h2|h2
   ·left;have e1:e.pos.toNat=p:=congrArg Prod.fst h2;have e2:(0:Int)=x:=congrArg Prod.snd h2;rw[e1,e2];exact hx
   grind
theorem HInv.set{c:Prg}{h:List Int}{wk:List Nat}{l:List (Nat × Int)}{p:Nat}{x:Int}(a:HInv c h wk ((p,x) :: l))(hp:p<h.length)(hn:h.getD p 0<0)(h0:0<=x):HInv c (h.set p x) (p :: wk) l:=by
 have hg:=P2 hp;have up:∀ (q:Nat) (y:Int),h[q]? = some y->0<=y->(h.set p x)[q]? = some y:=by
  grind
 have hput:(h.set p x)[p]? = some x:=by grind
 refine⟨by simpa using a.len,fun q y hq=>?_,fun s hs=>a.to s (A0A _ hs),fun e he=>?_⟩
 ·by_cases e:q=p
  ·subst e;rw[hput]at hq;cases hq;exact .inr ⟨h0,a.to _ A0D,fun hn=>absurd A0D hn⟩
  ·rw[A2W,if_neg (Ne.symm e)]at hq;rcases a.ok q y hq with h1|⟨u,v,w⟩
   ·omega
   ·refine .inr ⟨u,v,fun hn2=>?_⟩;have hw:=w fun hm=>hn2 (A0A _ hm);refine⟨hw.1,fun s hs=>?_⟩;rcases hw.2 s hs with h2|h2
    ·have hr:=Rch.step v hw.1 hs;by_cases hs0:0<=s.2
     ·exact .inl (up _ _ h2 hs0)
     ·rcases a.ok _ _ h2 with h3|⟨h3, -⟩
      ·exact absurd (Q1 hw.1 _ hs) hs0
      ·exact absurd h3 hs0
    grind
 ·rcases a.en e he with h1|h1
  ·grind
  ·rcases A0N.1 h1 with h2|h2
   ·left;have e1:e.pos.toNat=p:=congrArg Prod.fst h2;have e2:(0:Int)=x:=congrArg Prod.snd h2;rw[e1,e2];exact hput
   grind
theorem HInv.pop{c:Prg}{h:List Int}{wk:List Nat}{l:List (Nat × Int)}{p:Nat}(a:HInv c h (p :: wk) l)(hok:OKs c p (h.getD p 0)):HInv c h wk (A3 (c.ins p) p (h.getD p 0)++l):=by
 have hp:p<h.length:=by rw[a.len];exact hok.1
 have hg:=P2 hp;have hr:Rch c p (h.getD p 0):=by
  rcases a.ok _ _ hg with h1|⟨-,h1, -⟩
  ·have:=hok.nn;omega
  omega
 refine⟨a.len,fun q y hq=>?_,fun s hs=>?_,fun e he=>(a.en e he).imp_right fun h1=>List.mem_append_right _ h1⟩
 ·rcases a.ok q y hq with h1|⟨u,v,w⟩
  ·exact .inl h1
  grind
 ·rcases A1K.1 hs with h1|h1
  ·exact .step hr hok h1
  ·exact a.to s h1
theorem HInv.rch{c:Prg}{h:List Int}{wk:List Nat}{l:List (Nat × Int)}{p:Nat}{x:Int}(a:HInv c h wk l)(hp:h[p]? = some x)(h0:0<=x):Rch c p x:=by
 rcases a.ok _ _ hp with h1|⟨-,h1, -⟩
 ·omega
 omega
theorem Q9(c:Prg):∀ (n:Nat) (h:List Int) (st:List (Nat × Int)) (r:Option (List Int)),HInv c h [] st->Z9 c n h st=some r->A1y c r
 |0,_,_,_,_,hr=>by cases hr
 |n+1,h,[],r,a,hr=>by
  simp only[Z9]at hr;cases hr;exact a.done
 |n+1,h,(p,x) :: st,r,a,hr=>by
  simp only[Z9]at hr;have hrc:=a.to _ A0D;simp only at hrc;split at hr
  ·rename_i h1;cases hr;refine⟨p,x,hrc,.inl fun hok=>?_⟩;have:=a.len;have:=hok.1;have:=hok.2.1;omega
  ·rename_i h1;have hp:p<h.length:=by omega
   have hg:=P2 hp;split at hr
   ·rename_i h2;split at hr
    ·rename_i h3;cases hr;exact⟨p,x,hrc,.inr ⟨_,a.rch hg h2,h3⟩⟩
    ·rename_i h3;have e:h.getD p 0=x:=Classical.not_not.1 h3;rw[e]at hg;exact Q9 c n h st r (a.skip hg) hr
   ·rename_i h2;split at hr
    ·rename_i h3;cases hr;refine⟨p,x,hrc,.inl fun hok=>?_⟩;rcases h3 with h3|h3
     ·have:=hok.2.2.1;grind
     ·exact hok.2.2.2 h3
    ·rename_i h3;have hok:OKs c p x:=⟨by rw[<- a.len];omega,by omega,by grind,fun hh=>h3 (.inr hh)⟩;have s1:=a.set hp (by omega) hok.nn;have e:(h.set p x).getD p 0=x:=by grind
     have s2:=s1.pop (by grind);rw[e]at s2;exact Q9 c n _ _ r (s2.perm fun s=>by simp) hr
theorem I1(c:Prg):∀ (l:List (Nat × Int)) (h:List Int) (wk:List Nat),HInv c h wk l->(∀ s∈l,0<=s.2)->match C1 h wk l with
  |none=>Bad c
  |some (h',wk')=>HInv c h' wk' []/\wk'.length+S8 h'<=wk.length+S8 h
 |[],h,wk,a,_=>⟨a,A0C _⟩
 |(p,x) :: l,h,wk,a,h0=>by
  have hrc:=a.to _ A0D;have hx:=h0 _ A0D;simp only at hrc hx;have h0':∀ s∈l,0<=s.2:=fun s hs=>h0 s (A0A _ hs);simp only[C1];cases hR:B2 h wk p x with
  |none =>
   simp only;unfold B2 at hR;split at hR
   ·rename_i h1;by_cases hp:h.length<=p
    ·exact⟨p,x,hrc,.inl fun hok=>by have:=hok.1;have:=a.len;omega⟩
    by_cases h2:x>48
    ·exact⟨p,x,hrc,.inl fun hok=>by have:=hok.2.1;omega⟩
    ·have h3:0<=h.getD p 0/\h.getD p 0≠x:=by omega
     exact⟨p,x,hrc,.inr ⟨_,a.rch (P2 (by omega)) h3.1,h3.2⟩⟩
   grind
  |some q =>
   obtain⟨h',wk'⟩:=q;simp only;unfold B2 at hR;split at hR
   ·grind
   ·rename_i h1;have hp:p<h.length:=by omega
    split at hR
    ·rename_i h2;cases hR;have:=I1 c l _ _ (a.set hp h2 hx) h0';have hneg:S8 (h.set p x)+1=S8 h:=by
      have hgh:h.getD p 0=h[p]:=by simp[List.getD,hp]
      unfold S8;rw[List.countP_set hp];have e1:decide (h[p]<0)=true:=by simp;omega
      have e2:decide (x<0)=false:=by simp;omega
      simp only[e1,e2,if_true,A0Y,if_false];have:0<h.countP fun x=>decide (x<0):=List.countP_pos_iff.2 ⟨h[p],A0U hp,e1⟩;omega
     grind
    ·cases hR;have e:h.getD p 0=x:=by omega
     exact I1 c l _ _ (a.skip (by grind)) h0'
theorem X9(c:Prg):∀ (n:Nat) (h:List Int) (wk:List Nat),HInv c h wk []->WkI c.instrs.length h wk->wk.length+S8 h<n->∃ r,A1h c n h wk=some r/\A1y c r
 |0,_,_,_,_,hn=>by omega
 |n+1,h,[],a,_,_=>⟨some h,rfl,a.done⟩
 |n+1,h,p :: wk,a,hI,hn=>by
  simp only[A1h];obtain⟨s1,s2,s3⟩:=hI.mem p A0D;have hp:p<h.length:=by rw[hI.hl];omega
  have hrc:=a.rch (P2 hp) s2;split
  ·rename_i h1;refine⟨none,rfl,p,_,hrc,.inl fun hok=>?_⟩;rcases h1 with h1|h1
   ·have:=hok.2.2.1;grind
   ·exact hok.2.2.2 h1
  ·rename_i h1;have hok:OKs c p (h.getD p 0):=⟨s1,s3,by grind,fun hh=>h1 (.inr hh)⟩;have key:=I1 c _ h wk ((a.pop hok).perm (l':=A3 (c.ins p) p (h.getD p 0)) fun s=>by simp) (Q1 hok);have hIt:WkI c.instrs.length h wk:=⟨hI.hl,fun q hq=>hI.mem q (A0A _ hq)⟩;have kI:=fun h' wk'=>N5 (h':=h') (wk':=wk') _ hIt (Q1 hok)
   revert key kI
   simp only[Prg.ins];cases C1 h wk (A3 (c.instrs.getD p ⟨0,0⟩) p (h.getD p 0)) with
   |none=>exact fun key _=>⟨none,rfl,key⟩
   |some q =>
    obtain⟨h',wk'⟩:=q;rintro⟨a1,a2⟩ kI;exact X9 c n h' wk' a1 (kI h' wk' rfl).1 (by grind)
theorem A3r{c:Prg}(hl:c.instrs.length<=4000)(hj:C2 c=true):A1y c (hR c) :=
 Q9 c _ _ _ _ ((HInv.start c).perm fun s=>by simp[A4v]) (B4c hl hj)
theorem A7z{c:Prg}(hl:c.instrs.length<=4000)(hj:C2 c=true):A1g c 4001=some (hR c):=by
 have hr:=A3r hl hj;unfold A1g;have key:=I1 c _ _ [] (HInv.start c) (fun s hs=>by obtain⟨e, -,rfl⟩:=A1B.1 hs;exact Int.le_refl 0);have kI:=fun h' wk'=>N5 (len:=c.instrs.length) (h':=h') (wk':=wk') (c.entries.map V2) (h:=List.replicate c.instrs.length (-1)) (wk:=[]) ⟨by simp,by simp⟩ (fun s hs=>by obtain⟨e, -,rfl⟩:=A1B.1 hs;exact Int.le_refl 0)
 revert key kI
 cases C1 (List.replicate c.instrs.length (-1)) [] (c.entries.map V2) with
 |none=>exact fun key _=>congrArg some (A1y.uniq (r:=none) key hr)
 |some q =>
  obtain⟨h',wk'⟩:=q;rintro⟨a1,a2⟩ kI;obtain⟨r,e,s⟩:=X9 c 4001 h' wk' a1 (kI h' wk' rfl).1 (by simp[S8,List.countP_replicate]at a2 ⊢;omega);simp only[e];rw[A1y.uniq s hr]
def W4(c:Prg):List Int:=if B3 c=0 then (hR c).getD [] else []
theorem A4p{h:List Int}:A4r (some h)=.tup [I9 h,.bool true]:=rfl
theorem A4q:A4r none=.tup [.lst [],.bool false]:=rfl
theorem A7h{c:Prg}(h0:B3 c=0):D7 c=true/\C2 c=true/\∃ h,hR c=some h:=by
 unfold B3 at h0;split at h0
 ·omega
 split at h0
 ·omega
 split at h0
 ·omega
 split at h0
 ·omega
 split at h0
 ·omega
 ·rename_i h1 h2 h3 h4 h5;refine⟨by grind,by grind,?_⟩;cases hh:hR c with
  |none=>grind
  |some h=>simp
theorem A9h{n:Int}(h1:0<=n)(h2:n<=18446744073709551615):IntKind.u64.wrap n=n:=by
 simp only[IntKind.wrap,IntKind.bits,IntKind.signed]
 grind
end Go.Pb
end

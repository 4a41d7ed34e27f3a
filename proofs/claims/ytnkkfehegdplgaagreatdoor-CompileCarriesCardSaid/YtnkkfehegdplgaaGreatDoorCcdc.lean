/-
  HELPERS of the claim: part 3 of its texts.
-/
import Derived.Test.YtnkkfehegdplgaaGreatDoorCcdb
import Derived.IntWalk
import Derived.Below
import Derived.ChangeSame
noncomputable section
set_option linter.unusedVariables false
set_option linter.unusedSectionVars false
set_option linter.unusedSimpArgs false
namespace Go.Sym
variable [Go.Sym.Tab]
open Go.Eng (Opd FOp AOp EOp IOp IOper DReg isNew R8 A2z A5b B6v B5q A9d chk Lst Q7 A3a M9 P5 A5v B5k B4i Y6 U8 trO trF trA trE trI B7v trG trL B1l A1v W4 A3v A3w A6p A8a B2j)
section
open Classical
variable {P:Program} {ops:Array Oper} {io:List IOper} {bef:List (List Nat)} {n:Nat} {fr:List Nat} {c0 N:Nat} {T0:Tm}
variable {rest:List (Nat × Option (List Nat))} {done:List Nat} {listed:Array Bool} {s:St} {ρ:Ren} {a:Act} {w:World}
theorem DI.all(hD:DI ops io bef n fr c0 N T0 listed done rest s ρ a w)(hh:rest=[]\/∃e pend r,rest=(e,some pend)::r)(hall:∀i,i<n->Lst listed i):
  rest=[]/\Sim N ρ s a w/\HS c0 listed done s=s.H:=by
 have hno:∀j,¬Q7 listed done j:=λj hj=>hj.2 (hall j (hD.dlt j hj.1));have hts:TS io T0 listed done s=s.T:=by funext t;unfold TS;grind
 have hhs:HS c0 listed done s=s.H:=by funext t;unfold HS;grind
 refine⟨?_,⟨by rw[<- hts];exact hD.tm,by rw[<- hhs];exact hD.rep,hD.frs,hD.sz,hD.dfr⟩,hhs⟩;rcases hh with h|⟨e,pend,r,h⟩
 ·omega
 ·have hck:=hD.ck;rw[h]at hck;simp only[chk,A0G,A3H,A2L,A2Y,A1O]at hck;exact absurd (hD.lsub e (hall e (by omega))) hck.1.1.1.1.1.1.2
theorem D2b(hb:A2z ops bef n=true)(hn:n=ops.size)(hio:∀(i:Nat) (o:Oper),ops[i]? = some o->∃p,io[i]? = some p/\trO P N ops o=some p)
  (hlt:∀(i:Nat) (o:Oper),ops[i]? = some o->∀e∈o.after,Region.binds .any e=true->e.on<i) {Q':St->Prop} {Q:Exit->Act->World->Prop} :
  ∀(fuel:Nat) (listed:Array Bool) (done:List Nat) (rest:List (Nat × Option (List Nat))) (s:St) (ρ:Ren) (a:Act) (w:World),DI ops io bef n fr c0 N T0 listed done rest s ρ a w->dwp P Q' io c0 rest s ->
   (rest=[]\/∃e pend r,rest=(e,some pend)::r)->listed.toList.count false=fuel ->
   (∀ ρ' s' a' w',Q' s'->Sim N ρ' s' a' w'->Ext ρ (HS c0 listed done s) w ρ' s'.H w'->(∀id,id<c0 -> ρ'.nm id = ρ.nm id)->s.c<=s'.c->(∀id,id<c0->s'.H id≠none->HS c0 listed done s id≠none)->Q .normal a' w') ->
   wpAny P .any ops Q fuel listed a w:=by
 intro fuel;have over:∀(listed:Array Bool) (done:List Nat) (rest:List (Nat × Option (List Nat))) (s:St) (ρ:Ren) (a:Act) (w:World),DI ops io bef n fr c0 N T0 listed done rest s ρ a w->dwp P Q' io c0 rest s ->
   (rest=[]\/∃e pend r,rest=(e,some pend)::r)->(∀i,i<n->Lst listed i) ->
   (∀ ρ' s' a' w',Q' s'->Sim N ρ' s' a' w'->Ext ρ (HS c0 listed done s) w ρ' s'.H w'->(∀id,id<c0 -> ρ'.nm id = ρ.nm id)->s.c<=s'.c->(∀id,id<c0->s'.H id≠none->HS c0 listed done s id≠none)->Q .normal a' w')->Q .normal a w:=by
  intro listed done rest s ρ a w hD hdw hh hall hq;obtain⟨rfl,hS,hhs⟩:=hD.all hh hall;exact hq ρ s a w hdw hS (by rw[hhs];exact Ext.refl _ _ _) (λ_ _=>rfl) (A0E _) (λid _ h=>by simp_all)
 have noready:∀(listed:Array Bool),listed.size=n->Region.ready .any ops listed=[]->∀i,i<n->Lst listed i:=by
  intro listed hsz hr i
  induction i using Nat.strongRecOn with
  |_ i ih =>
   intro hi;refine Classical.byContradiction λhnl=>?_;have ho:ops[i]? = some (ops[i]'(hn▸hi)):=by simp[hn▸hi]
   have:i∈Region.ready .any ops listed:=by
    rw[mem_ready];refine⟨?_,_,ho,λe he hbd=>?_⟩
    ·unfold Lst at hnl;have hi':i<listed.size:=by omega
     rw[A2O,A2V hi']at hnl ⊢;simpa using hnl
    ·have:=hlt i _ ho e he hbd;exact ih e.on this (by omega)
   grind
 induction fuel with
 |zero =>
  intro listed done rest s ρ a w hD hdw hh hc hq;have hall:∀i,i<n->Lst listed i:=λi hi=>A8a hc (hD.lsz▸hi);refine⟨?_,over listed done rest s ρ a w hD hdw hh hall hq⟩;cases hr:Region.ready .any ops listed with
  |nil=>rfl
  |cons x xs =>
   have hx:x∈Region.ready .any ops listed:=by rw[hr];exact A0H
   rw[mem_ready]at hx;obtain⟨h1,o,ho, -⟩:=hx;have hxn:x<n:=hn▸(A0Z.1 ho).1;have h2:=hall x hxn;have hi':x<listed.size:=by have:=hD.lsz;omega
   unfold Lst at h2
   grind
 |succ fuel ih =>
  intro listed done rest s ρ a w hD hdw hh hc hq;refine⟨λhr=>over listed done rest s ρ a w hD hdw hh (noready listed hD.lsz hr) hq,λi hi=>?_⟩;rw[mem_ready]at hi;obtain⟨h1,o,ho,hw0⟩:=hi;have hin:i<n:=hn▸(A0Z.1 ho).1;have hls:i<listed.size:=j8
  have hnl:¬Lst listed i:=by
   unfold Lst
   grind
  have hw:A3a ops (Lst listed) i:=λo' e he1 he2 he3=>by rw[ho]at he1;cases he1;exact hw0 e he2 he3
  by_cases hid:i∈done
  ·refine D1u hb hn hio hD ⟨hid,hnl⟩ hw fun ρ' a' w' hD' hx hsame=>?_;refine ih _ done rest s ρ' a' w' hD' hdw hh (A6p hls hnl hc) fun ρ2 s2 a2 w2 q2 hS2 hx2 hs2 hc2 hd2=>?_;refine hq ρ2 s2 a2 w2 q2 hS2 (hx.trans hx2) (λid h=>(hs2 id h).trans (hsame id h)) hc2 λid h hne=>?_;have:=hd2 id h hne;unfold HS at this ⊢
   grind
  ·rcases hh with rfl|⟨e,pend,r,rfl⟩
   ·rcases hD.cov i hin with h|h
    ·exact absurd h hid
    grind
   ·have hck:=hD.ck;have hck2:=hck;simp only[chk,A0G,A3H,A2L,A0R,A1H,A2Y,A1O,A0L]at hck;obtain⟨⟨⟨⟨⟨⟨⟨k1,k2⟩,k3⟩,k4⟩,k5⟩,k6⟩,k7⟩,k8⟩:=hck;have hie:i=e:=by
     refine Classical.byContradiction λhne=>?_;have hir:i∈r.map (·.1):=by
      rcases hD.cov i hin with h|h
      ·exact absurd h hid
      ·simp only[A0P]at h;cases h with
       |head=>exact absurd rfl hne
       |tail _ h=>exact h
     by_cases hif:i∈fr
     ·rcases k6 i hif with h|h
      ·exact hid h
      ·have:R8 ops i done=true:=P5 (λo' e' g1 g2 g3=>hD.lsub _ (hw o' e' g1 g2 g3)) ho;rw[this]at h;cases h
     ·have:=A3v r (e::done) k8 i hir hif e A0H k4;exact k2 (hD.lsub e (A5v hb hD.lcl i hin hw e this))
    subst hie;refine D8o hb hn hio hD hw hdw fun ρ' a' w' s' hD' hdw' hx hsame hcs hdom=>?_;obtain⟨done2,rest2,s2,hD2,hdw2,hh2,hc2,hhs2⟩:=adv hb Q' r _ s' hD' hdw';refine ih _ done2 rest2 s2 ρ' a' w' hD2 hdw2 hh2 (A6p hls hnl hc) fun ρ3 s3 a3 w3 q3 hS3 hx3 hs3 hc3 hd3=>?_;rw[hhs2]at hx3;refine hq ρ3 s3 a3 w3 q3 hS3 (hx.trans hx3) (λid h=>(hs3 id h).trans (hsame id h)) (by omega) λid h hne=>?_
    simp_all
theorem Rep.heap{H:Hp}{w':World}(hR:Rep ρ H w)(h:w'.heap=w.heap):Rep ρ H w' :=
 ⟨λid b hb=>let ⟨t,h1,h2⟩:=hR.blk id b hb;⟨t,h1,h2.world (by rw[h])⟩,hR.sep,λb r hb=>by rw[h];exact hR.frz b r hb,hR.dis,λb r hb=>by rw[h];exact hR.frm b r hb⟩
theorem AWp.draw{id:Nat}{d:DReg}(hm:P.follows .mixedOrders=true)(htr:trL P N ops ops.toList=some d.ops)(hok:d.ok ops=true){s:St}{Q:Exit->St->Prop}
  (h:dwp P (Q .normal) d.ops s.c d.plan ⟨s.T,s.H,s.c+ops.size⟩):AWp P N (.region id ops true) s Q:=by
 intro ρ a w hS;unfold DReg.ok at hok;simp only[A0G,A0R,A4G,A2Y,A0L]at hok;obtain⟨⟨⟨o1,o2⟩,o3⟩,o4⟩:=hok;have hio:∀(i:Nat) (o:Oper),ops[i]? = some o->∃p,d.ops[i]? = some p/\trO P N ops o=some p:=λi o ho=>B2j htr i o (by grind);have hlt:∀(i:Nat) (o:Oper),ops[i]? = some o->∀e∈o.after,Region.binds .any e=true->e.on<i:=by
  intro i o ho e he hb;have hmem:(o,i)∈ops.toList.zipIdx:=by
   rw[List.mem_zipIdx_iff_getElem?];simpa using ho
  have h1:=o3 (o,i) hmem;have h2:=h1 e (by simpa using he)
  simp_all;omega
 let w1:World:={ w with drawn:=w.drawn+1 }
 have hR1:Rep ρ s.H w1:=hS.rep.heap rfl;have hnone:∀j,s.H (s.c+j)=none:=by
  intro j;cases hc:s.H (s.c+j) with
  |none=>rfl
  |some b =>
   obtain⟨t,h1, -⟩:=hS.rep.blk _ b hc;rw[hS.fresh _ (A2W _ _)]at h1
   grind
 have hl0:∀j,¬Lst (Array.replicate ops.size false) j:=by
  intro j hj;have:=B4i hj;unfold Lst at hj
  simp_all
 have hp0:∀j,¬Q7 (Array.replicate ops.size false) [] j:=λj hj=>by cases hj.1
 have hD0:DI ops d.ops d.bef ops.size (A9d d.plan) s.c N s.T (Array.replicate ops.size false) [] d.plan ⟨s.T,s.H,s.c+ops.size⟩ ρ a w1:=by
  refine⟨by simp,o4,λi hi=>.inr (o2 i hi),by simp,by simp,λi hi=>absurd hi (hl0 i),λi hi=>absurd hi (hl0 i),by simp,λi hi=>A3w _ _ o4 i hi,λj hj=>absurd hj (hp0 j),?_,?_,λid hid=>hS.fresh id (by grind),
   λj hj _=>hS.fresh _ (A2W _ _),λj hj _=>⟨hnone j,λ_ _ _ _ _=>rfl⟩,A0E _,hS.size,hS.dfr⟩
  ·have:TS d.ops s.T (Array.replicate ops.size false) [] ⟨s.T,s.H,s.c+ops.size⟩=s.T:=by
    funext t;unfold TS;simp
   rw[this];exact hS.tm
  ·have:HS s.c (Array.replicate ops.size false) [] ⟨s.T,s.H,s.c+ops.size⟩=s.H:=by
    funext t;unfold HS;rw[if_neg];rintro⟨j,hj, -⟩;exact hp0 j hj
   grind
 have hHS0:HS s.c (Array.replicate ops.size false) [] ⟨s.T,s.H,s.c+ops.size⟩=s.H:=by
  funext t;unfold HS;grind
 obtain⟨done1,rest1,s1,hD1,hdw1,hh1,hc1,hhs1⟩:=adv o1 (Q .normal) d.plan [] _ hD0 h;refine wp_region_any hm ?_;refine D2b o1 rfl hio hlt ops.size _ done1 rest1 s1 ρ a w1 hD1 hdw1 hh1 (by simp) fun ρ' s' a' w' q hS' hx hsame hc hdom=>?_;rw[hhs1,hHS0]at hx hdom;have hx0:Ext ρ s.H w ρ s.H w1:=⟨Ren.le_refl _,rfl,rfl,rfl,A0E _,λ_ _ _=>rfl,λid b t h1 h3=>.inr ⟨id,b,t,h1,λh=>h,h3,rfl⟩,λk r h=>.inl h,λk r h=>.inl h⟩;exact⟨ρ',s',q,hS',⟨j8,hdom,hsame,hx0.trans hx⟩⟩
end
open Go.Eng (Opd FOp AOp EOp IOp IOper DReg IC RV IFn trC trR B1q P0 opd A8o trO trF trA trE trI B7v trG trL Y8 K4 C4g B3p)
def A7o(s:St):List RV->Option (List DV)
 |[]=>some []
 |.tmp t::r=>match A7o s r with
  |some vs=>some (s.T t::vs)
  |none=>none
 |.cell a n agg::r=>match ldv s.H n agg (s.T a),A7o s r with
  |some v,some vs=>some (v::vs)
  |_,_=>none
def A7m(s:St)(rs:List RV):Option DV :=
 match A7o s rs with
 |some [v]=>some v
 |some vs=>some (.tup vs)
 |none=>none
def IW(P:Program)(N:Nat)(ic:IC)(s:St)(Q:Exit->St->Prop):Prop :=
 P.follows .mixedOrders=true->∀c,trC P N c=some ic->AWp P N c s Q
def wpI(P:Program)(N:Nat):IC->St->(Exit->St->Prop)->Prop
 |.skip,s,Q=>Q .normal s
 |.reg ops,s,Q=>rwp P (Q .normal) ops s
 |.drw n d,s,Q=>dwp P (Q .normal) d.ops s.c d.plan ⟨s.T,s.H,s.c+n⟩
 |.seq x y,s,Q=>wpI P N x s (B1h (λs'=>IW P N y s' Q) Q)
 |.cond c x y,s,Q=>match ev s.T c with
  |.bool b=>(b=true->IW P N x s Q)/\(b=false->IW P N y s Q)
  |.ub=>IW P N x s Q/\IW P N y s Q
  |_=>False
 |.blk id x,s,Q=>wpI P N x s (C6i id Q)
 |.loop x,s,Q=>IW P N (.loop x) s Q
 |.exit id,s,Q=>Q (.exit id) s
 |.ret,s,Q=>Q .ret s
 |.bad,s,Q=>False
 |.rg _,s,Q=>False
theorem IW.mono{P:Program}{N:Nat}{ic:IC}{s:St}{Q Q':Exit->St->Prop}(h:IW P N ic s Q)(hq:∀e s',Q e s'->Q' e s'):IW P N ic s Q' :=
 λhm c hc=>(h hm c hc).mono hq
theorem IW.of{P:Program}{N:Nat}:∀ {ic:IC} {s:St} {Q:Exit->St->Prop},wpI P N ic s Q->IW P N ic s Q:=by
 intro ic
 induction ic with
 |skip =>
  intro s Q h hm c hc;cases c<;>simp only[trC]at hc<;>(try(cases hc;done))
  ·exact .skip h
  all_goals(repeat'(split at hc))<;>(try(cases hc;done))
  all_goals simp at hc
 |reg ops =>
  intro s Q h hm c hc;cases c<;>simp only[trC]at hc<;>(try(cases hc;done))
  ·rename_i id os dr;split at hc
   ·rename_i io hio;split at hc
    ·cases hc;exact .region hio h
    ·split at hc
     ·cases hc
     ·split at hc<;>cases hc
   grind
  all_goals(repeat'(split at hc))<;>(try(cases hc;done))
  all_goals simp at hc
 |drw n d =>
  intro s Q h hm c hc;cases c<;>simp only[trC]at hc<;>(try(cases hc;done))
  ·rename_i id os dr;split at hc
   ·rename_i io hio;split at hc
    ·cases hc
    ·split at hc
     ·rename_i hok;cases hc;exact .draw (d:=Go.Eng.mkD os io false) hm hio hok h
     ·split at hc
      ·rename_i hok;cases hc;exact .draw (d:=Go.Eng.mkD os io true) hm hio hok h
      ·cases hc
   grind
  all_goals(repeat'(split at hc))<;>(try(cases hc;done))
  all_goals simp at hc
 |seq x y ihx ihy =>
  intro s Q h hm c hc;cases c<;>simp only[trC]at hc<;>(try(cases hc;done))
  case seq a b =>
   split at hc
   ·rename_i x' y' hx hy;cases hc;refine .seq ((ihx h hm a hx).mono λe s' q=>?_);cases e with
    |normal=>exact q hm b hy
    |_=>exact q
   grind
  all_goals(repeat'(split at hc))<;>(try(cases hc;done))
  all_goals simp at hc
 |cond o x y ihx ihy =>
  intro s Q h hm c hc;cases c<;>simp only[trC]at hc<;>(try(cases hc;done))
  case cond c0 a b =>
   split at hc
   ·rename_i c' x' y' hc0 hx hy;cases hc;simp only[wpI]at h;split at h
    ·rename_i b' hb;refine .cond hc0 hb ?_;cases b' with
     |true=>rw[if_pos rfl];exact h.1 rfl hm a hx
     |false=>rw[if_neg A4D];exact h.2 rfl hm b hy
    ·rename_i hb;exact .condU hc0 hb (h.1 hm a hx) (h.2 hm b hy)
    ·exact h.elim
   grind
  all_goals(repeat'(split at hc))<;>(try(cases hc;done))
  all_goals simp at hc
 |blk id x ih =>
  intro s Q h hm c hc;cases c<;>simp only[trC]at hc<;>(try(cases hc;done))
  case block i b =>
   simp only[A0T]at hc;obtain⟨x',hx,he⟩:=hc;cases he;exact .block (ih h hm b hx)
  all_goals(repeat'(split at hc))<;>(try(cases hc;done))
  simp_all
 |loop x ih=>exact λh=>h
 |exit id =>
  intro s Q h hm c hc;cases c<;>simp only[trC]at hc<;>(try(cases hc;done))
  case exit i=>cases hc;exact .exit h
  all_goals(repeat'(split at hc))<;>(try(cases hc;done))
  all_goals simp at hc
 |ret =>
  intro s Q h hm c hc;cases c<;>simp only[trC]at hc<;>(try(cases hc;done))
  case ret=>exact .ret h
  all_goals(repeat'(split at hc))<;>(try(cases hc;done))
  all_goals simp at hc
 |bad=>exact λh=>h.elim
 |rg r=>exact λh=>h.elim
theorem IW.loop{P:Program}{N:Nat}{x:IC}{s:St}{Q:Exit->St->Prop}(I:Nat->St->Prop)(n:Nat)(h0:I n s)(h:∀n s,I n s->IW P N x s (B1h (λs' => ∃m,m<n/\I m s') Q)):IW P N (.loop x) s Q:=by
 intro hm c hc;cases c<;>simp only[trC]at hc<;>(try(cases hc;done))
 case loop b =>
  simp only[A0T]at hc;obtain⟨x',hx,he⟩:=hc;cases he;exact .loop I h0 λk s' hi=>h k s' hi hm b hx
 all_goals(repeat'(split at hc))<;>(try(cases hc;done))
 simp_all
def A5d(args:List DV):Tm:=λt=>args.getD t (.tup [])
def C4f(rs:List RV)(Q:DV->Hp->Nat->Prop):Exit->St->Prop
 |.normal,s |.ret,s=>match A7m s rs with
  |some v=>Q v s.H s.c
  |none=>False
 |_,_=>False
theorem A7n{P:Program}{ρ:Ren}{w:World}{s:St}{a:Act}(hR:Rep ρ s.H w)(hT:A3k ρ s.T a):∀(os:List ResultVar) (rs:List RV) (vs:List DV),trR P os=some rs->A7o s rs=some vs ->
  ∃vs',(os.mapM (C4g a.tmps)).run P w=.ok vs' w/\I3 ρ vs vs'.toArray
 |[],rs,vs,h1,h2=>by
  simp only[trR,Option.some.injEq]at h1;subst h1;simp only[A7o,Option.some.injEq]at h2;subst h2;exact⟨[],rfl,rfl,by simp⟩
 |.tmp t::os,rs,vs,h1,h2=>by
  simp only[trR,A0T]at h1;obtain⟨rs',h1,rfl⟩:=h1;simp only[A7o]at h2;split at h2
  ·rename_i vs0 hv;cases h2;obtain⟨vs',g1,g2⟩:=A7n hR hT os rs' vs0 h1 hv;refine⟨a.tmps.getD t undef::vs',?_,by simpa using g2.1,λi x y hx hy=>?_⟩
   ·simp only[List.mapM_cons,C4g,Sem.run_bind,Sem.run_pure,Result.andThen_ok,g1]
   ·cases i with
    |zero=>simp only[A1X,A2Z,Option.some.injEq]at hx hy;subst hx hy;exact hT t
    |succ i=>exact g2.2 i x y (by simpa using hx) (by simpa using hy)
  grind
 |.cell x t::os,rs,vs,h1,h2=>by
  simp only[trR]at h1;split at h1
  ·rename_i i u rs' hi hu hrs;cases h1;simp only[A7o]at h2;split at h2
   ·rename_i v vs0 hv hvs;cases h2;obtain⟨vs',g1,g2⟩:=A7n hR hT os rs' vs0 hrs hvs;obtain⟨v',g3,g4⟩:=C1o (P:=P) hR hi hu (hT x) hv;have g5:(C4g a.tmps (.cell x t)).run P w=.ok v' w:=by
     have hr:=hT x;unfold ldv at hv;split at hv
     ·rename_i id off he;rw[he]at hr;obtain⟨tg,ht,hmp,hp⟩:=hr.ptr_inv;rw[hp]at g3;simp only[C4g,hp];simpa[Instr.loadAt,Instr.sureAddr,asAddr] using g3
     ·rename_i cs he;rw[he]at hr;obtain⟨b0,off0,row0,hp, -, -⟩:=hr.fptr_inv;rw[hp]at g3;simp only[C4g,hp];simpa[Instr.loadAt,Instr.sureAddr,asAddr] using g3
     ·cases hv
    refine⟨v'::vs',?_,by simpa using g2.1,λi x y hx hy=>?_⟩
    ·simp only[List.mapM_cons,Sem.run_bind,g5,Sem.run_pure,Result.andThen_ok,g1]
    ·cases i with
     |zero=>simp only[A1X,A2Z,Option.some.injEq]at hx hy;subst hx hy;exact g4
     |succ i=>exact g2.2 i x y (by simpa using hx) (by simpa using hy)
   ·cases h2
  grind
theorem AC.of{P:Program}(hm:P.follows .mixedOrders=true){f:Nat}{i:IFn}(hf:P0 P f i){args:List DV}(hn:args.length<=i.n){H:Hp}{c:Nat}{Q:DV->Hp->Nat->Prop}
  (h:IW P i.n i.body ⟨A5d args,H,c⟩ (C4f i.res Q)):AC P f args H c Q:=by
 unfold P0 at hf;cases hfn:P.funcs[f]? with
 |none=>rw[hfn]at hf;cases hf
 |some fn =>
  rw[hfn,Option.bind_some]at hf;unfold B1q at hf;split at hf
  ·cases hf
  ·rename_i hname;split at hf
   ·rename_i code hbody;split at hf
    ·rename_i b r hb hr;cases hf;refine⟨?_,fun ρ w args' hR hfr hA=>?_⟩
     ·unfold K4
      grind
     ·refine calls_of_wp hfn hbody ?_;have hsz:args'.size=args.length:=by have:=hA.1;omega
      have hS:Sim fn.ntmps ρ ⟨A5d args,H,c⟩ { tmps:=args'++Array.replicate (fn.ntmps-args'.size) undef,defers:=[] } w:=by
       refine⟨λt=>?_,hR,hfr,?_,rfl⟩
       ·simp only[A5d,A2O,Array.getElem?_append,A1L];split
        ·rename_i ht;have h1:args[t]? = some args[t]:=A0B (by omega);have h2:args'[t]? = some args'[t]:=by simp[ht]
         rw[h1,h2];exact hA.2 t _ _ (by simp) h2
        ·rename_i ht;rw[A3F (by omega)];simp only[Option.getD_none];rw[Array.getElem?_replicate];split<;>exact A5z ρ
       grind
      refine wp_mono (h hm code hb ρ _ w hS) λe a' w' hk=>?_;obtain⟨ρ',s',q,hS',hst⟩:=hk;have fin:∀v,A7m s' r=some v->Q v s'.H s'.c->a'.defers=[]/\∃v',(results fn a'.tmps).run P w'=.ok v' w' /\
        ∃v0 v0' H' c' ρ',Ending.returned v'=.returned v0'/\Q v0 H' c'/\Did ρ H c w v0' w' v0 H' c' ρ':=by
       intro v hv hq;unfold A7m at hv;have key:∀vs,A7o s' r=some vs->∃vs':List Value,(results fn a'.tmps).run P w'=.ok (if h:vs'.toArray.size=1 then vs'.toArray[0] else .tuple vs'.toArray) w'/\I3 ρ' vs vs'.toArray:=by
        intro vs hvs;obtain⟨vs',g1,g2⟩:=A7n (P:=P) hS'.rep hS'.tm fn.results.toList r vs hr hvs;refine⟨vs',?_,g2⟩;rw[B3p,Array.mapM_eq_mapM_toList,Sem.run_bind,Sem.run_map,g1];rfl
       have did:∀v',VRel ρ' v v'->Did ρ H c w v' w' v s'.H s'.c ρ':=λv' hv'=>⟨hv',hS'.rep,hS'.fresh,hst.up,hst.dom,hst.same,hst.ext⟩;refine⟨hS'.dfr,?_⟩;split at hv
       ·rename_i v1 hl;cases hv;obtain⟨vs',g1,g2⟩:=key _ hl;have hlen:vs'.length=1:=by have:=g2.1;simpa using this.symm
        obtain⟨y,rfl⟩:∃y,vs'=[y]:=by
         cases vs' with
         |nil=>simp at hlen
         |cons y t=>cases t with
          |nil=>exact⟨y,rfl⟩
          |cons z t=>simp at hlen
        refine⟨y,by simpa using g1,v,y,_,_,_,rfl,hq,did y (g2.2 0 v y rfl rfl)⟩
       ·rename_i vs hne hl;cases hv;obtain⟨vs',g1,g2⟩:=key _ hl;have hlen:vs.length=vs'.length:=by have:=g2.1;simpa using this
        have hn1:¬vs'.toArray.size=1:=by
         intro h1;have h2:vs.length=1:=by rw[hlen];simpa using h1
         cases vs with
         |nil=>simp at h2
         |cons y t=>cases t with
          |nil=>exact hne y rfl
          |cons z t=>simp at h2
        refine⟨.tuple vs'.toArray,by rwa [dif_neg hn1]at g1,_,_,_,_,_,rfl,hq,did _ (.mkTup g2)⟩
       grind
      cases e<;>simp only[C4f]at q
      ·split at q
       ·rename_i v hv;exact fin v hv q
       grind
      ·split at q
       ·rename_i v hv;exact fin v hv q
       grind
    ·cases hf
   ·cases hf
open Go.Eng (Opd FOp AOp EOp IOp IOper DReg IC RV IFn trC B1q P0 K4)
variable {P:Program}
mutual
def DV.nl:DV->Bool
 |.bot=>true
 |.bool _=>true
 |.int _ _=>true
 |.str _=>true
 |.pnil=>true
 |.ptr _ _=>false
 |.snil=>true
 |.slc _ _ _=>false
 |.lst xs=>DV.nlL xs
 |.fptr cs=>DV.nlL cs
 |.fnil=>true
 |.func _ a c=>DV.nlL a&&DV.nlL c
 |.inil=>true
 |.iface _ x=>x.nl
 |.agg cs=>DV.nlL cs
 |.tup vs=>DV.nlL vs
 |.mpc _ _ _=>false
 |.mid _=>false
 |.mp _ k v=>DV.nlL k&&DV.nlL v
 |.mnil=>true
 |.ub=>true
def DV.nlL:List DV->Bool
 |[]=>true
 |x::r=>x.nl&&DV.nlL r
end
theorem Y4:∀ {xs:List DV},DV.nlL xs=true->∀x∈xs,x.nl=true
 |[],_,x,hx=>j8
 |y::r,h,x,hx=>by
  simp only[DV.nlL,A0G]at h;cases hx with
  |head=>grind
  |tail _ hx=>exact Y4 h.2 x hx
theorem D6d:∀ {xs:List DV},(∀x∈xs,x.nl=true)->DV.nlL xs=true
 |[],_=>rfl
 |y::r,h=>by
  simp only[DV.nlL,A0G];exact⟨h y A0H,D6d λx hx=>h x (A0D _ hx)⟩
theorem D6c{x:DV}(h:x.nl=true):∀d∈x.cells,d.nl=true:=by
 cases x<;>simp only[DV.cells,A1N,forall_eq]<;>(try exact h);exact Y4 (by assumption)
theorem D1b{xs:List DV}(h:DV.nlL xs=true):∀d∈cellsL xs,d.nl=true:=by
 intro d hd;simp only[cellsL,List.mem_flatMap]at hd;obtain⟨x,hx,hd⟩:=hd;exact D6c (Y4 h x hx) d hd
theorem P1{α:Type}{f : α->DV}(h:∀x,(f x).nl=true)(l:List α):DV.nlL (l.map f)=true :=
 D6d λx hx=>j8
theorem VRel.nl{ρ ρ':Ren}(hf:∀b r, ρ.fz b=some r -> ρ'.fz b=some r)(hg:∀b r, ρ.fm b=some r -> ρ'.fm b=some r){d:DV}{v:Value}(h:VRel ρ d v):d.nl=true->VRel ρ' d v:=by
 induction h with
 |bot v=>exact λ_=>.bot v
 |bool b=>exact λ_=>.bool b
 |int k n=>exact λ_=>.int k n
 |str s=>exact λ_=>.str s
 |pnil=>exact λ_=>.pnil
 |ptr id off t h hm=>intro hn;trivial
 |snil=>exact λ_=>.snil
 |slc id off n c t h hc hm hr hp=>intro hn;trivial
 |lnil0=>exact λ_=>.lnil0
 |lnil a c=>exact λ_=>.lnil a c
 |lst xs n u b off c row h hn hc hm hu hl2 h1 _ ih =>
  intro hnl;simp only[DV.nl]at hnl;exact .lst xs n u b off c row (hf _ _ h) hn hc hm hu hl2 h1 λk d v hd hv=>ih k d v hd hv (D1b hnl d (A0W hd))
 |fptr cs b off row h hl2 h1 _ ih =>
  intro hnl;simp only[DV.nl]at hnl;exact .fptr cs b off row (hf _ _ h) hl2 h1 λk d v hd hv=>ih k d v hd hv (Y4 hnl d (A0W hd))
 |fnil=>exact λ_=>.fnil
 |func f a b c d h1 _ h3 _ ih1 ih2 =>
  intro hnl;simp only[DV.nl,A0G]at hnl;exact .func f a b c d h1 (λi x y hx hy=>ih1 i x y hx hy (Y4 hnl.1 x (A0W hx))) h3 (λi x y hx hy=>ih2 i x y hx hy (Y4 hnl.2 x (A0W hx)))
 |inil=>exact λ_=>.inil
 |iface t x y _ ih=>intro hnl;simp only[DV.nl]at hnl;exact .iface t x y (ih hnl)
 |agg a b h1 _ ih=>intro hnl;simp only[DV.nl]at hnl;exact .agg a b h1 (λi x y hx hy=>ih i x y hx hy (Y4 hnl x (A0W hx)))
 |tup a b h1 _ ih=>intro hnl;simp only[DV.nl]at hnl;exact .tup a b h1 (λi x y hx hy=>ih i x y hx hy (Y4 hnl x (A0W hx)))
 |mid id t h hm=>intro hn;trivial
 |mp kd ks vs b es h h0 h1 h2 _ _ ih1 ih2 =>
  intro hnl;simp only[DV.nl,A0G]at hnl;exact .mp kd ks vs b es (hg _ _ h) h0 h1 h2 (λi x e hx he=>ih1 i x e hx he (Y4 hnl.1 x (A0W hx))) (λi x e hx he=>ih2 i x e hx he (Y4 hnl.2 x (A0W hx)))
 |mnil=>exact λ_=>.mnil
 |ub b=>exact λ_=>.ub b
theorem I3.nl{ρ ρ':Ren}(hf:∀b r, ρ.fz b=some r -> ρ'.fz b=some r)(hg:∀b r, ρ.fm b=some r -> ρ'.fm b=some r){ds:List DV}{vs:Array Value}(h:I3 ρ ds vs)(hn:DV.nlL ds=true):I3 ρ' ds vs :=
 ⟨h.1,λi x y hx hy=>(h.2 i x y hx hy).nl hf hg (Y4 hn x (A0W hx))⟩
theorem AC.call{f:Nat}{args:List DV}{H:Hp}{c:Nat}{Q K:DV->Hp->Nat->Prop}(h:AC P f args H c Q)(hk:∀v H' c',Q v H' c'->c<=c'->K v H' c'):AC P f args H c K :=
 ⟨h.1,fun ρ w args' h1 h2 h3=>(h.2 ρ w args' h1 h2 h3).mono λe w' ⟨v,v',H',c', ρ',e1,q,d⟩=>⟨v,v',H',c', ρ',e1,hk _ _ _ q d.up,d⟩⟩
theorem Rep.fresh{ρ:Ren}{H:Hp}{w:World}(hR:Rep ρ H w){c:Nat}(hf:∀id,c<=id -> ρ.nm id=none):∀id,c<=id->H id=none:=by
 intro id hid;cases hb:H id with
 |none=>rfl
 |some b =>
  obtain⟨t,ht, -⟩:=hR.blk id b hb
  grind
theorem IW.fresh{N:Nat}{ic:IC}{s:St}{Q:Exit->St->Prop}(h:(∀id,s.c<=id->s.H id=none)->IW P N ic s Q):IW P N ic s Q :=
 λhm c hc ρ a w hS=>h (hS.rep.fresh hS.fresh) hm c hc ρ a w hS
def GL(H:Hp)(ds:List DV)(H':Hp)(ds':List DV):Prop :=
 (∀id,H' id≠none->H id≠none)/\∀(ρ:Ren) (w:World) (vs:Array Value),Rep ρ H w->I3 ρ ds vs->∃ ρ':Ren, ρ'.nm = ρ.nm/\Rep ρ' H' w/\I3 ρ' ds' vs/\Ext ρ H w ρ' H' w
theorem GL.refl(H:Hp)(ds:List DV):GL H ds H ds:=⟨λ_ h=>h,fun ρ w vs h1 h2=>⟨ρ,rfl,h1,h2,Ext.refl _ _ _⟩⟩
theorem GL.trans{H H' H'':Hp}{ds ds' ds'':List DV}(h:GL H ds H' ds')(k:GL H' ds' H'' ds''):GL H ds H'' ds'' :=
 ⟨λid hid=>h.1 id (k.1 id hid),fun ρ w vs h1 h2=>by
  obtain⟨ρ1,e1,r1,a1,x1⟩:=h.2 ρ w vs h1 h2;obtain⟨ρ2,e2,r2,a2,x2⟩:=k.2 ρ1 w vs r1 a1;exact⟨ρ2,e2.trans e1,r2,a2,x1.trans x2⟩⟩
theorem Ext.less{ρ:Ren}{H H0:Hp}{w:World}(h:∀j,H0 j=none\/H0 j=H j):Ext ρ H w ρ H0 w :=
 ⟨Ren.le_refl _,rfl,rfl,rfl,A0E _,λ_ _ _=>rfl,λid b t h1 h3=>.inr ⟨id,b,t,by
  grind,λh=>h,h3,rfl⟩,λk r h=>.inl h,λk r h=>.inl h⟩
theorem GL.less{H H0:Hp}{ds:List DV}(h:∀j,H0 j=none\/H0 j=H j):GL H ds H0 ds :=
 ⟨λid hid=>j8,fun ρ w vs h1 h2=>⟨ρ,rfl,h1.less h,h2,Ext.less h⟩⟩
theorem GL.less'{H H0:Hp}{ds:List DV}(h:∀j b,H0 j=some b->H j=some b):GL H ds H0 ds :=
 GL.less λj=>by
  cases hc:H0 j with
  |none=>simp
  |some b=>grind
mutual
inductive Fz (id:Nat) (b:Blk):DV->DV->Prop where
 |same (d:DV):Fz id b d d
 |bot (d:DV):Fz id b d .bot
 |slc (off n u:Nat) (xs:List DV) (hl:xs.length=n) (hu:∀x∈xs,x.cells.length=u) (hle:off+n*u<=b.cells.length) (hc:cellsL xs=(b.cells.drop off).take (n*u)):Fz id b (.slc id off n) (.lst xs)
 |ptr (off:Nat) (cs:List DV) (hle:off<=b.cells.length) (hc:cs=b.cells.drop off):Fz id b (.ptr id off) (.fptr cs)
 |agg (a a':List DV) (h:FzL id b a a'):Fz id b (.agg a) (.agg a')
 |tup (a a':List DV) (h:FzL id b a a'):Fz id b (.tup a) (.tup a')
 |func (f:Nat) (a a' c c':List DV) (h:FzL id b a a') (h':FzL id b c c'):Fz id b (.func f a c) (.func f a' c')
inductive FzL (id:Nat) (b:Blk):List DV->List DV->Prop where
 |nil:FzL id b [] []
 |cons (x y:DV) (a a':List DV) (h:Fz id b x y) (h':FzL id b a a'):FzL id b (x::a) (y::a')
end
theorem FzL.refl{id:Nat}{b:Blk}:∀(l:List DV),FzL id b l l
 |[]=>.nil
 |x::r=>.cons _ _ _ _ (.same x) (FzL.refl r)
def Ren.frz(ρ:Ren)(k:Nat)(row:Array Value)(h : ρ.fz k=none):Ren:=⟨ρ.nm,λj=>if j=k then some row else ρ.fz j,λp hp=>by
 obtain⟨r,h1,h3⟩ := ρ.tab p hp
 grind, ρ.fm⟩
theorem Ren.le_frz{ρ:Ren}{k:Nat}{row:Array Value}(h : ρ.fz k=none): ρ.le (ρ.frz k row h) :=
 ⟨λ_ _ h=>h,λb r hb=>by
  unfold Ren.frz
  grind,λ_ _ h=>h⟩
section
variable {ρ:Ren} {H:Hp} {w:World} {id:Nat} {b:Blk} {t:Tgt} {row:Array Value} {hn : ρ.fz t.block=none}
mutual
theorem Fz.rel(hl : ρ.le (ρ.frz t.block row hn))(ht : ρ.nm id=some t)(hs:t.shift=0)(hlen:b.cells.length<=row.size)(hC:A0k ρ b.cells row 0):∀ {d d':DV} {v:Value},Fz id b d d'->VRel ρ d v->VRel (ρ.frz t.block row hn) d' v
 |_,_,v,.same d,h=>h.mono hl
 |_,_,v,.bot d,h=>.bot v
 |_,_,v,.slc off n u xs h1 hu hle hc,h=>by
  cases h with
  |slc _ _ _ c t' ht' hcc hm hr hp =>
   rw[ht]at ht';cases ht';rw[hs,A1F];have hfz:(ρ.frz t.block row hn).fz t.block=some row:=by simp[Ren.frz]
   have hcl:(cellsL xs).length=n*u:=j8
   have hget:∀(k:Nat) d,(cellsL xs)[k]? = some d->b.cells[off+k]? = some d:=by
    grind
   refine .lst xs n u t.block off c row hfz h1.symm hcc hm hu (by omega) (λd hd=>?_) (λk d v hd hv=>?_)
   ·obtain⟨k,hk,hkd⟩:=A3Z hd;exact(hC _ _ (hget k d (by grind))).1
   ·obtain⟨-,v',e1,e2⟩:=hC _ _ (hget k d hd);rw[A1F,hv]at e1;cases e1;exact e2.mono hl
 |_,_,v,.ptr off cs hle hc,h=>by
  cases h with
  |ptr _ _ t' ht' hp =>
   rw[ht]at ht';cases ht';rw[hs,A1F];have hfz:(ρ.frz t.block row hn).fz t.block=some row:=by simp[Ren.frz]
   have hget:∀(k:Nat) d,cs[k]? = some d->b.cells[off+k]? = some d:=by
    grind
   refine .fptr cs t.block off row hfz (by grind) (λd hd=>?_) (λk d v hd hv=>?_)
   ·obtain⟨k,hk,hkd⟩:=A3Z hd;exact(hC _ _ (hget k d (by grind))).1
   ·obtain⟨-,v',e1,e2⟩:=hC _ _ (hget k d hd);rw[A1F,hv]at e1;cases e1;exact e2.mono hl
 |_,_,v,.agg a a' hf,h=>by
  obtain⟨b',rfl,hA⟩:=h.agg_inv;exact .mkAgg (FzL.rel hl ht hs hlen hC hf hA)
 |_,_,v,.tup a a' hf,h=>by
  obtain⟨b',rfl,hA⟩:=h.tup_inv;exact .mkTup (FzL.rel hl ht hs hlen hC hf hA)
 |_,_,v,.func f a a' c c' hf hf',h=>by
  obtain⟨b',d',rfl,hA,hB⟩:=h.func_inv;have h1:=FzL.rel hl ht hs hlen hC hf hA;have h2:=FzL.rel hl ht hs hlen hC hf' hB;exact .func _ _ _ _ _ h1.1 h1.2 h2.1 h2.2
theorem FzL.rel(hl : ρ.le (ρ.frz t.block row hn))(ht : ρ.nm id=some t)(hs:t.shift=0)(hlen:b.cells.length<=row.size)(hC:A0k ρ b.cells row 0):∀ {ds ds':List DV} {vs:Array Value},FzL id b ds ds'->I3 ρ ds vs->I3 (ρ.frz t.block row hn) ds' vs
 |_,_,vs,.nil,h=>⟨h.1,λi x y hx=>by grind⟩
 |_,_,vs,.cons x y a a' hf hf',h=>by
  obtain⟨h1,h2⟩:=h;have hpos:0<vs.size:=j8
  have hhd:=Fz.rel hl ht hs hlen hC hf (h2 0 x vs[0] rfl (by simp));have htl:I3 ρ a (vs.toList.tail).toArray:=by
   refine⟨j8,λi u v hu hv=>h2 (i+1) u v (by grind) (by grind)⟩
  have htl':=FzL.rel hl ht hs hlen hC hf' htl;refine⟨?_,λi u v hu hv=>?_⟩
  ·have:=htl'.1
   grind
  ·cases i with
   |zero =>
    grind
   |succ i=>exact htl'.2 i u v (by grind) (by grind)
end
end
section
variable {ρ:Ren} {id:Nat} {b:Blk} {t:Tgt}
mutual
theorem Fz.relm(ht : ρ.nm id=some t)(hm:t.mp=true):∀ {d d':DV} {v:Value},Fz id b d d'->VRel ρ d v->VRel ρ d' v
 |_,_,v,.same d,h=>h
 |_,_,v,.bot d,h=>.bot v
 |_,_,v,.slc off n u xs h1 hu hle hc,h=>by
  cases h with
  |slc _ _ _ c t' ht' hcc hm' hr hp=>grind
 |_,_,v,.ptr off cs hle hc,h=>by
  cases h with
  |ptr _ _ t' ht' hp=>grind
 |_,_,v,.agg a a' hf,h=>by
  obtain⟨b',rfl,hA⟩:=h.agg_inv;exact .mkAgg (FzL.relm ht hm hf hA)
 |_,_,v,.tup a a' hf,h=>by
  obtain⟨b',rfl,hA⟩:=h.tup_inv;exact .mkTup (FzL.relm ht hm hf hA)
 |_,_,v,.func f a a' c c' hf hf',h=>by
  obtain⟨b',d',rfl,hA,hB⟩:=h.func_inv;have h1:=FzL.relm ht hm hf hA;have h2:=FzL.relm ht hm hf' hB;exact .func _ _ _ _ _ h1.1 h1.2 h2.1 h2.2
theorem FzL.relm(ht : ρ.nm id=some t)(hm:t.mp=true):∀ {ds ds':List DV} {vs:Array Value},FzL id b ds ds'->I3 ρ ds vs->I3 ρ ds' vs
 |_,_,vs,.nil,h=>⟨h.1,λi x y hx=>by grind⟩
 |_,_,vs,.cons x y a a' hf hf',h=>by
  obtain⟨h1,h2⟩:=h;have hpos:0<vs.size:=j8
  have hhd:=Fz.relm ht hm hf (h2 0 x vs[0] rfl (by simp));have htl:I3 ρ a (vs.toList.tail).toArray:=by
   refine⟨j8,λi u v hu hv=>h2 (i+1) u v (by grind) (by grind)⟩
  have htl':=FzL.relm ht hm hf' htl;refine⟨?_,λi u v hu hv=>?_⟩
  ·have:=htl'.1
   grind
  ·cases i with
   |zero =>
    grind
   |succ i=>exact htl'.2 i u v (by grind) (by grind)
end
end
def FzH(id:Nat)(b:Blk)(H H':Hp):Prop :=
 ∀j,H' j=none\/(j≠id/\(H' j=H j\/∃bj bj',H j=some bj/\H' j=some bj'/\bj'.unit=bj.unit/\bj'.own=bj.own/\FzL id b bj.cells bj'.cells/\∀d∈bj'.cells,d.one=true))
theorem GL.frz{H H':Hp}{ds ds':List DV}{id:Nat}{b:Blk}(hb:H id=some b)(ho:b.own=true)(hH:FzH id b H H')(hd:FzL id b ds ds'):GL H ds H' ds':=by
 refine⟨λj hj=>?_,fun ρ w vs hR hA=>?_⟩
 ·rcases hH j with h0|⟨-,h0|⟨bj,bj',h1, -⟩⟩
  ·exact absurd h0 hj
  ·rw[<- h0];exact hj
  grind
 ·obtain⟨t,ht,hB⟩:=hR.blk id b hb;obtain⟨ρ2,hl,hnm,hfz,hfm,hdis,hrel⟩:∃ ρ2:Ren, ρ.le ρ2 /\ ρ2.nm = ρ.nm/\(∀k r, ρ2.fz k=some r -> ρ.fz k=some r\/(k=t.block/\∃e fr,w.heap[k]? = some (.cells r e fr))) /\ ρ2.fm = ρ.fm /\
    (∀k,k≠t.block -> ρ2.fz k = ρ.fz k)/\∀(ds ds':List DV) (vs:Array Value),FzL id b ds ds'->I3 ρ ds vs->I3 ρ2 ds' vs:=by
   rcases hB with ⟨hm,c,e,fr,g1,g2,g3,g4,g5,g6⟩|⟨hm, -⟩
   ·obtain⟨-,g7⟩:=g6 ho;rw[g7]at g2 g5;rw[A1F]at g2;have hnone:=hR.dis id b t hb ho ht;have hl : ρ.le (ρ.frz t.block c hnone):=Ren.le_frz hnone;refine⟨ρ.frz t.block c hnone,hl,rfl,λk r hk=>?_,rfl,λk hk=>?_,λds ds' vs h1 h2=>FzL.rel hl ht g7 (by omega) g5 h1 h2⟩
    ·simp only[Ren.frz]at hk
     grind
    ·simp only[Ren.frz,if_neg hk]
   ·exact⟨ρ,Ren.le_refl _,rfl,λk r hk=>.inl hk,rfl,λ_ _=>rfl,λds ds' vs h1 h2=>FzL.relm ht hm h1 h2⟩
  have back:∀j bj',H' j=some bj'->j≠id/\∃bj,H j=some bj/\bj'.own=bj.own:=by
   intro j bj' hj;rcases hH j with h0|⟨hne,h0|⟨bj,bj2,h1,h2,h3,h4, -⟩⟩
   ·rw[h0]at hj;cases hj
   ·exact⟨hne,bj',by rw[<- h0];exact hj,rfl⟩
   grind
  refine⟨ρ2,hnm,⟨?_,?_,?_,?_,?_⟩,hrel _ _ _ hd hA,?_⟩
  ·intro j bj' hj;rw[hnm];rcases hH j with h0|⟨hne,h0|⟨bj,bj2,h1,h2,h3,h4,h5,h6⟩⟩
   ·grind
   ·obtain⟨tj,q1,q2⟩:=hR.blk j bj' (by grind);exact⟨tj,q1,q2.mono hl⟩
   ·rw[h2]at hj;cases hj;obtain⟨tj,q1,q2⟩:=hR.blk j bj h1;rcases q2 with ⟨qm,cj,ej,frj,r1,r2,r3,r4,r5,r6⟩|⟨qm, -, -,es,cl,kd,ks,vs', -,r2, -⟩
    ·have hA0:I3 ρ bj.cells ((cj.toList.drop tj.shift).take bj.cells.length).toArray:=by
      have hs:=r5.seg (off:=0) (n:=bj.cells.length) (by omega) (by omega);simpa using hs
     have hA1:=hrel _ _ _ h5 hA0;have hlen2:bj'.cells.length=bj.cells.length:=by rw[hA1.1, <- hA0.1]
     refine⟨tj,q1,.inl ⟨qm,cj,ej,frj,r1,r2,a8,r4.trans h3.symm,λi v hv=>⟨h6 v (A0W hv),?_⟩,λho'=>by rw[h3];exact r6 (h4▸ho')⟩⟩;obtain⟨y,y1,y2⟩:=hA1.get hv
     grind
    ·exfalso;rw[r2]at h5;generalize hcs:bj'.cells=cs at h5 h6;cases h5 with
     |cons x y a a' hf hf' =>
      have hy:=h6 y A0H;cases hf<;>simp[DV.one]at hy
  ·intro i j bi bj ti tj hi hj hij h1 h2 ho';rw[hnm]at h1 h2;obtain⟨-,b1,e1,o1⟩:=back i bi hi;obtain⟨-,b2,e2,o2⟩:=back j bj hj;exact hR.sep i j b1 b2 ti tj e1 e2 hij h1 h2 (o1▸ho')
  ·intro k r hk;rcases hfz k r hk with h1|⟨-,h1⟩
   ·exact hR.frz k r h1
   omega
  ·intro j bj tj hj ho' hjt;rw[hnm]at hjt;obtain⟨hne,b1,e1,o1⟩:=back j bj hj;rw[hdis _ (hR.sep j id b1 b tj t e1 hb hne hjt ht (o1▸ho'))];exact hR.dis j b1 tj e1 (o1▸ho') hjt
  ·intro k es hk;rw[hfm]at hk;refine⟨(hR.frm k es hk).1,λj bj tj hj ho' hjt=>?_⟩;rw[hnm]at hjt;obtain⟨hne,b1,e1,o1⟩:=back j bj hj;exact(hR.frm k es hk).2 j b1 tj e1 (o1▸ho') hjt
  ·refine⟨hl,rfl,rfl,rfl,A0E _,λ_ _ _=>rfl,λj bj tj hj hjt=>?_,λk r hk=>?_,λk r hk=>.inl (by rw[<- hfm];exact hk)⟩
   ·rw[hnm]at hjt;obtain⟨hne,b1,e1,o1⟩:=back j bj hj;exact .inr ⟨j,b1,tj,e1,λh=>o1▸h,hjt,rfl⟩
   grind
theorem FzH.less{id:Nat}{b:Blk}{H H':Hp}(h:∀j,H' j=none\/(j≠id/\H' j=H j)):FzH id b H H':=by
 intro j
 grind
theorem AC.ghost{f:Nat}{args args':List DV}{H H':Hp}{c:Nat}{Q:DV->Hp->Nat->Prop}(g:GL H args H' args')(h:AC P f args' H' c Q):AC P f args H c Q:=by
 refine⟨h.1,fun ρ w vs hR hf hA=>?_⟩;obtain⟨ρ1,e1,r1,a1,x1⟩:=g.2 ρ w vs hR hA;refine(h.2 ρ1 w vs r1 (by grind) a1).mono ?_;rintro e w' ⟨v,v',H2,c2, ρ2,rfl,q,d⟩;exact⟨v,v',H2,c2, ρ2,rfl,q,d.val,d.rep,d.fresh,d.up,λid hid hne=>g.1 id (d.dom id hid hne),λid hid=>(d.same id hid).trans (by grind),x1.trans d.ext⟩
theorem AC.post{f:Nat}{args:List DV}{H:Hp}{c:Nat}{Q:DV->Hp->Nat->Prop}(h:AC P f args H c λv H' c' => ∃v2 H2,GL H' [v] H2 [v2]/\Q v2 H2 c'):AC P f args H c Q:=by
 refine⟨h.1,fun ρ w vs hR hf hA=>(h.2 ρ w vs hR hf hA).mono ?_⟩;rintro e w' ⟨v,v',H1,c1, ρ1,rfl,⟨v2,H2,g,q⟩,d⟩;have hA1:I3 ρ1 [v] #[v']:=⟨rfl,λi x y hx hy=>by
  cases i with
  |zero=>simp at hx hy;subst hx hy;exact d.val
  |succ i=>grind⟩
 obtain⟨ρ2,e2,r2,a2,x2⟩:=g.2 ρ1 w' #[v'] d.rep hA1;exact⟨v2,v',H2,c1, ρ2,rfl,q,a2.2 0 v2 v' rfl rfl,r2,by rw[e2];exact d.fresh,d.up,λid hid hne=>d.dom id hid (g.1 id hne),λid hid=>by rw[e2];exact d.same id hid,d.ext.trans x2⟩
def tm:List (Nat × DV)->Tm
 |[]=>λ_=>.bot
 |(k,v)::r=>(tm r).upd k v
theorem D3s{ρ:Ren}{a:Act}:∀ {ks:List Nat} {ds:List DV},(∀(i k:Nat) (d:DV),ks[i]? = some k->ds[i]? = some d->VRel ρ d (a.tmps.getD k undef))->A3k ρ (tm (ks.zip ds)) a
 |[],ds,h=>λt=>.bot _
 |k::ks,[],h=>λt=>.bot _
 |k::ks,d::ds,h=>λt=>by
  simp only[List.zip_cons_cons,tm,Tm.upd];by_cases e:t=k
  ·subst e;rw[if_pos rfl];exact h 0 _ _ rfl rfl
  ·rw[if_neg e];exact D3s (λi k d hk hd=>h (i+1) k d hk hd) t
theorem IW.keep{N:Nat}{ic:IC}{T:Tm}{H H':Hp}{c:Nat}{Q:Exit->St->Prop}(ks:List Nat)(ds':List DV)(g:GL H (ks.map T) H' ds')(h:IW P N ic ⟨tm (ks.zip ds'),H',c⟩ Q):IW P N ic ⟨T,H,c⟩ Q:=by
 intro hm cd hc ρ a w hS;have hA:I3 ρ (ks.map T) ((ks.map λk=>a.tmps.getD k undef)).toArray:=by
  refine⟨by simp,λi x y hx hy=>?_⟩;simp only[A1Z,A0T,A1X]at hx hy;obtain⟨k,hk,rfl⟩:=hx;obtain⟨k',hk',rfl⟩:=hy;rw[hk]at hk';cases hk';exact hS.tm k
 obtain⟨ρ1,e1,r1,a1,x1⟩:=g.2 ρ w _ hS.rep hA;have hS1:Sim N ρ1 ⟨tm (ks.zip ds'),H',c⟩ a w:=by
  refine⟨D3s λi k d hk hd=>a1.2 i d _ hd (by grind),r1,by rw[e1];exact hS.fresh,hS.size,hS.dfr⟩
 refine wp_mono (h hm cd hc ρ1 a w hS1) λe a' w' hq=>?_;obtain⟨ρ2,s2,q,hS2,hst⟩:=hq;exact⟨ρ2,s2,q,hS2,⟨hst.up,λid hid hne=>g.1 id (hst.dom id hid hne),λid hid=>(hst.same id hid).trans (by grind),x1.trans hst.ext⟩⟩
theorem IW.slots{N:Nat}{ic:IC}{T:Tm}{H:Hp}{c:Nat}{Q:Exit->St->Prop}(ks:List Nat)(h:IW P N ic ⟨tm (ks.zip (ks.map T)),H,c⟩ Q):IW P N ic ⟨T,H,c⟩ Q :=
 IW.keep ks _ (GL.refl _ _) h
def nil:Hp:=λ_=>none
theorem Rep.nil{ρ:Ren}{H:Hp}{w:World}(hR:Rep ρ H w):Rep ⟨λ_=>none, ρ.fz, ρ.tab, ρ.fm⟩ nil w :=
 ⟨λid b h=>(by cases h),λi j bi bj ti tj h=>(by simp),hR.frz,λid b t h=>(by simp),λk es hk=>⟨(hR.frm k es hk).1,λid b t h=>(by simp)⟩⟩
theorem AC.lift{f:Nat}{args:List DV}{Q:DV->Prop}(h:AC P f args nil 0 (λv _ _=>Q v))(hn:DV.nlL args=true)(hq:∀v,Q v->v.nl=true)(H:Hp)(c:Nat):AC P f args H c (λv H' c'=>Q v/\H'=H/\c'=c):=by
 refine⟨h.1,fun ρ w vs hR hf hA=>?_⟩;refine(h.2 ⟨λ_=>none, ρ.fz, ρ.tab, ρ.fm⟩ w vs hR.nil (λ_ _=>rfl) (hA.nl (ρ := ρ) (ρ':=⟨λ_=>none, ρ.fz, ρ.tab, ρ.fm⟩) (λ_ _ h=>h) (λ_ _ h=>h) hn)).mono ?_;rintro e w' ⟨v,v',H1,c1, ρ1,rfl,q,d⟩;have hb:=d.ext.below (λid b hb=>by cases hb);obtain⟨b1,b2,b3,b4,b5⟩:=hb;refine⟨v,v',H,c,⟨ρ.nm, ρ1.fz, ρ1.tab, ρ1.fm⟩,rfl,⟨q,rfl,rfl⟩,d.val.nl (ρ := ρ1) (ρ':=⟨ρ.nm, ρ1.fz, ρ1.tab, ρ1.fm⟩) (λ_ _ h=>h) (λ_ _ h=>h) (hq v q),?_,hf,A0E _,λ_ _ h=>h,λ_ _=>rfl,?_⟩
 ·have hle : ρ.le ⟨ρ.nm, ρ1.fz, ρ1.tab, ρ1.fm⟩:=⟨λ_ _ h=>h,d.ext.le.fz,d.ext.le.fm⟩;refine⟨λid b hb=>?_,hR.sep,d.rep.frz,λid b t hb ho ht=>?_,λk es hk=>⟨(d.rep.frm k es hk).1,λid b t hb ho ht=>?_⟩⟩
  ·obtain⟨t,ht,hbr⟩:=hR.blk id b hb;exact⟨t,ht,(hbr.mono hle).world (b5 _ hbr.lt)⟩
  ·cases hf1 : ρ1.fz t.block with
   |none=>rfl
   |some r =>
    rcases d.ext.fzn _ _ hf1 with h1|h1|⟨i,b0,t0,e1, -⟩
    ·rw[hR.dis id b t hb ho ht]at h1;cases h1
    ·have:=(hR.lookb hb ht).lt;omega
    trivial
  ·rcases d.ext.fmn _ _ hk with h1|h1|⟨i,b0,t0,e1, -⟩
   ·exact(hR.frm _ _ h1).2 id b t hb ho ht
   ·have:=(hR.lookb hb ht).lt;omega
   trivial
 ·refine⟨⟨λ_ _ h=>h,d.ext.le.fz,d.ext.le.fm⟩,b1,b2,b3,b4,λk hk _=>b5 k hk,λid b t h1 h2=>.inr ⟨id,b,t,h1,λh=>h,h2,rfl⟩,λk r hk=>?_,λk r hk=>?_⟩
  ·rcases d.ext.fzn k r hk with h1|h1|⟨i,b0,t0,e1, -⟩
   ·exact .inl h1
   ·exact .inr (.inl h1)
   trivial
  ·rcases d.ext.fmn k r hk with h1|h1|⟨i,b0,t0,e1, -⟩
   ·exact .inl h1
   ·exact .inr (.inl h1)
   trivial
def DV.flat:DV->Bool
 |.tup vs=>vs.all DV.scal
 |.agg vs=>vs.all DV.scal
 |d=>d.scal
theorem VRel.flat{ρ ρ':Ren}{d:DV}{v:Value}(h:VRel ρ d v)(hs:d.flat=true):VRel ρ' d v:=by
 have key:∀ {a:List DV} {b:Array Value},a.all DV.scal=true->I3 ρ a b->I3 ρ' a b:=by
  intro a b ha hA;rw[A0R]at ha;exact⟨hA.1,λi x y hx hy=>(hA.2 i x y hx hy).scal (ha x (A0W hx))⟩
 unfold DV.flat at hs;split at hs
 ·obtain⟨b,rfl,hA⟩:=h.tup_inv;exact .mkTup (key hs hA)
 ·obtain⟨b,rfl,hA⟩:=h.agg_inv;exact .mkAgg (key hs hA)
 ·exact h.scal hs
theorem AC.lend{f:Nat}{args args':List DV}{Q:DV->Prop}{H H0:Hp}{c:Nat}(g:GL H args H0 args')(h:AC P f args' nil 0 (λv _ _=>Q v))(hn:DV.nlL args'=true)(hq:∀v,Q v->v.flat=true):
  AC P f args H c (λv H' c'=>Q v/\H'=H/\c'=c):=by
 refine⟨h.1,fun ρ w vs hR hf hA=>?_⟩;obtain⟨ρ0,e0,r0,a0,x0⟩:=g.2 ρ w vs hR hA;refine(h.2 ⟨λ_=>none, ρ0.fz, ρ0.tab, ρ0.fm⟩ w vs r0.nil (λ_ _=>rfl) (a0.nl (ρ := ρ0) (ρ':=⟨λ_=>none, ρ0.fz, ρ0.tab, ρ0.fm⟩) (λ_ _ h=>h) (λ_ _ h=>h) hn)).mono ?_;rintro e w' ⟨v,v',H1,c1, ρ1,rfl,q,d⟩;have hb:=d.ext.below (λid b hb=>by cases hb);obtain⟨b1,b2,b3,b4,b5⟩:=hb;refine⟨v,v',H,c, ρ,rfl,⟨q,rfl,rfl⟩,d.val.flat (hq v q),⟨λid b hb=>?_,hR.sep,λb r hb=>?_,hR.dis,λb r hb=>?_⟩,hf,A0E _,λ_ _ h=>h,λ_ _=>rfl,?_⟩
 ·obtain⟨t,ht,hbr⟩:=hR.blk id b hb;exact⟨t,ht,hbr.world (b5 _ hbr.lt)⟩
 ·obtain⟨e,fr,h1⟩:=hR.frz b r hb
  grind
 ·obtain⟨⟨cl,h1,hst⟩,h2⟩:=hR.frm b r hb
  grind
 ·exact⟨Ren.le_refl _,b1,b2,b3,b4,λk hk _=>b5 k hk,λid b t h1 h2=>.inr ⟨id,b,t,h1,λh=>h,h2,rfl⟩,λk r hk=>.inl hk,λk r hk=>.inl hk⟩
structure PC (P:Program) (f:Nat) (args:List DV) (r:DV):Prop where
 na:DV.nlL args=true
 nr:r.nl=true
 ac:AC P f args nil 0 (λv _ _=>v=r)
theorem PC.at{f:Nat}{args:List DV}{r:DV}(h:PC P f args r)(H:Hp)(c:Nat):AC P f args H c (λv H' c'=>v=r/\H'=H/\c'=c) :=
 h.ac.lift h.na (λv e=>by rw[e];exact h.nr) H c
theorem PC.of(hm:P.follows .mixedOrders=true){f:Nat}{i:IFn}(hf:P0 P f i){args:List DV}(hn:args.length<=i.n){r:DV}(na:DV.nlL args=true)(nr:r.nl=true)
  (h:IW P i.n i.body ⟨A5d args,nil,0⟩ (C4f i.res λv H' _ => ∃H2,GL H' [v] H2 [r])):PC P f args r :=
 ⟨na,nr,AC.post (AC.of hm hf hn (h.mono λe s' q=>by
  grind))⟩
theorem AC.body(hm:P.follows .mixedOrders=true){f:Nat}{i:IFn}(hf:P0 P f i){args:List DV}(hn:args.length<=i.n){H:Hp}{c:Nat}{Q:DV->Hp->Nat->Prop}
  (h:(∀id,c<=id->H id=none)->IW P i.n i.body ⟨A5d args,H,c⟩ (C4f i.res λv H' c' => ∃v2 H2,GL H' [v] H2 [v2]/\Q v2 H2 c')):AC P f args H c Q :=
 AC.post (AC.of hm hf hn (IW.fresh h))
end Go.Sym
namespace Go.Sym
variable [Go.Sym.Tab]
open Go.Eng (KKey Opd FOp AOp EOp IOp IOper DReg IC RV IFn trC B1q P0 K4)
variable {P:Program} {N:Nat} {Q:Exit->St->Prop} {R:St->Prop} {s:St} {x y:IC} {os:List IOper} {T:Tm} {H:Hp} {c:Nat} {dst:Option Nat} {v:DV}
def nx(P:Program)(N:Nat)(y:IC)(Q:Exit->St->Prop):St->Prop:=λs=>IW P N y s Q
def sq(P:Program)(N:Nat)(y:IC)(Q:Exit->St->Prop):Exit->St->Prop:=B1h (nx P N y Q) Q
def bk(id:Nat)(Q:Exit->St->Prop):Exit->St->Prop:=C6i id Q
def no(Q:Exit->St->Prop):St->Prop:=Q .normal
def rt(rs:List RV)(Q:DV->Hp->Nat->Prop):Exit->St->Prop:=C4f rs Q
def E8n(P:Program)(R:St->Prop)(os:List IOper)(T:Tm)(H:Hp)(c:Nat)(dst:Option Nat):Option DV->Prop
 |some v=>rwp P R os ⟨J3 T dst v,H,c⟩
 |none=>False
def E9e(P:Program)(R:St->Prop)(os:List IOper)(T:Tm)(H:Hp)(c:Nat)(dst:Option Nat):Option (Option Nat × Blk)->Prop
 |some (k,b)=>rwp P R os ⟨J3 T dst (mkv c k),H.upd c b,c+1⟩
 |none=>False
def F1c(P:Program)(R:St->Prop)(os:List IOper)(T:Tm)(dst:Option Nat):Option (DV × Hp × Nat)->Prop
 |some (v,H',c')=>rwp P R os ⟨J3 T dst v,H',c'⟩
 |none=>False
def E3o(P:Program)(R:St->Prop)(os:List IOper)(T:Tm)(dst:Option Nat)(v:DV)(H:Hp)(c:Nat):Prop:=rwp P R os ⟨J3 T dst v,H,c⟩
def F6p(P:Program)(R:St->Prop)(os:List IOper)(T:Tm)(H:Hp)(c:Nat)(dst:Option Nat)(args:List DV):DV->Prop
 |.func f a cs=>AC P f (a++args++cs) H c (E3o P R os T dst)
 |_=>False
def B8t(P:Program)(R:St->Prop)(dst:Option Nat)(op:IOp)(os:List IOper)(T:Tm)(H:Hp)(c:Nat):Option Bool->Prop
 |some true=>rwp P R (⟨dst,op,none⟩::os) ⟨T,H,c⟩
 |some false=>rwp P R os ⟨J3 T dst (.tup []),H,c⟩
 |none=>False
def B1x(P:Program)(N:Nat)(x y:IC)(s:St)(Q:Exit->St->Prop):DV->Prop
 |.bool b=>(b=true->IW P N x s Q)/\(b=false->IW P N y s Q)
 |.ub=>IW P N x s Q/\IW P N y s Q
 |_=>False
theorem D7a(h:IW P N x s (sq P N y Q)):IW P N (.seq x y) s Q:=by
 intro hm c hc;cases c<;>simp only[trC]at hc<;>(try(cases hc;done))
 case seq a b =>
  split at hc
  ·rename_i x' y' hx hy;cases hc;refine .seq ((h hm a hx).mono λe s' q=>?_);cases e with
   |normal=>exact q hm b hy
   |_=>exact q
  grind
 all_goals(repeat'(split at hc))<;>(try(cases hc;done))
 all_goals simp at hc
theorem F0c(h:rwp P (nx P N y Q) os s):IW P N (.seq (.reg os) y) s Q:=IW.of h
theorem D7b{n:Nat}{d:DReg}(h:dwp P (nx P N y Q) d.ops s.c d.plan ⟨s.T,s.H,s.c+n⟩):IW P N (.seq (.drw n d) y) s Q:=IW.of h
theorem F4p(h:rwp P (no Q) os s):IW P N (.reg os) s Q:=IW.of h
theorem E5d{n:Nat}{d:DReg}(h:dwp P (no Q) d.ops s.c d.plan ⟨s.T,s.H,s.c+n⟩):IW P N (.drw n d) s Q:=IW.of h
theorem D7c{o:Opd}(h:B1x P N x y s Q (ev s.T o)):IW P N (.cond o x y) s Q:=by
 refine IW.of ?_;assumption
theorem E2i{o:Opd}{z:IC}(h:B1x P N x y s (sq P N z Q) (ev s.T o)):IW P N (.seq (.cond o x y) z) s Q:=D7a (D7c h)
theorem E5e{id:Nat}(h:IW P N x s (bk id Q)):IW P N (.blk id x) s Q:=by
 intro hm c hc;cases c<;>simp only[trC]at hc<;>(try(cases hc;done))
 case block i b =>
  simp only[A0T]at hc;obtain⟨x',hx,he⟩:=hc;cases he;exact .block (h hm b hx)
 all_goals(repeat'(split at hc))<;>(try(cases hc;done))
 simp_all
theorem F0e{id:Nat}(h:Q (.exit id) s):IW P N (.exit id) s Q:=IW.of h
theorem F4o(h:Q .ret s):IW P N .ret s Q:=IW.of h
theorem F0d(h:Q .normal s):IW P N .skip s Q:=IW.of h
theorem F8u:nx P N y Q ⟨T,H,c⟩=IW P N y ⟨T,H,c⟩ Q:=propext Iff.rfl
theorem F8v:no Q s=Q .normal s:=propext Iff.rfl
theorem F8o:sq P N y Q .normal ⟨T,H,c⟩=IW P N y ⟨T,H,c⟩ Q:=propext Iff.rfl
theorem F8n:sq P N y Q .ret s=Q .ret s:=propext Iff.rfl
theorem F8p{i:Nat}:sq P N y Q (.exit i) s=Q (.exit i) s:=propext Iff.rfl
theorem F9h{i:Nat}:bk i Q .normal s=Q .normal s:=propext Iff.rfl
theorem F9g{i:Nat}:bk i Q .ret s=Q .ret s:=propext Iff.rfl
theorem F9i{i:Nat}:bk i Q (.exit i) s=Q .normal s:=if_pos rfl
theorem F8s{t:Nat}{q:DV->Hp->Nat->Prop}:rt [.tmp t] q .ret ⟨T,H,c⟩=q (T t) H c:=propext Iff.rfl
theorem F8r{t u:Nat}{q:DV->Hp->Nat->Prop}:rt [.tmp t,.tmp u] q .ret ⟨T,H,c⟩=q (.tup [T t,T u]) H c:=propext Iff.rfl
theorem F8q{t u w:Nat}{q:DV->Hp->Nat->Prop}:rt [.tmp t,.tmp u,.tmp w] q .ret ⟨T,H,c⟩=q (.tup [T t,T u,T w]) H c:=propext Iff.rfl
theorem F8t{q:DV->Hp->Nat->Prop}:rt [] q .ret ⟨T,H,c⟩=q (.tup []) H c:=propext Iff.rfl
theorem F8w{q:DV->Hp->Nat->Prop}:rt [] q .normal ⟨T,H,c⟩=q (.tup []) H c:=propext Iff.rfl
theorem G4{rs:List RV}{q:DV->Hp->Nat->Prop}{v:DV}(h:A7m s rs=some v):rt rs q .ret s=q v s.H s.c:=by simp only[rt,C4f,h]
theorem F4c:rwp P R [] s=R s:=propext Iff.rfl
theorem F4b{f:FOp}:rwp P R (⟨dst,.pur f,none⟩::os) ⟨T,H,c⟩=E8n P R os T H c dst (fev H (ev T) f):=by
 rfl
theorem F4d{f:AOp}:rwp P R (⟨dst,.new f,none⟩::os) ⟨T,H,c⟩=E9e P R os T H c dst (aev (ev T) f):=by
 rfl
theorem F4h{f:EOp}:rwp P R (⟨dst,.eff f,none⟩::os) ⟨T,H,c⟩=F1c P R os T dst (eev H c (ev T) f):=by
 rfl
theorem E9v{f:Nat}{as:List Opd}:rwp P R (⟨dst,.call f as,none⟩::os) ⟨T,H,c⟩=AC P f (as.map (ev T)) H c (E3o P R os T dst):=propext Iff.rfl
theorem F4i{o:Opd}{as:List Opd}:rwp P R (⟨dst,.callv o as,none⟩::os) ⟨T,H,c⟩=F6p P R os T H c dst (as.map (ev T)) (ev T o):=by
 rfl
theorem F4j{f:Nat}{a cs args:List DV}:F6p P R os T H c dst args (.func f a cs)=AC P f (a++args++cs) H c (E3o P R os T dst):=propext Iff.rfl
theorem E9t:E8n P R os T H c dst (some v)=rwp P R os ⟨J3 T dst v,H,c⟩:=propext Iff.rfl
theorem E2e{k:Option Nat}{b:Blk}:E9e P R os T H c dst (some (k,b))=rwp P R os ⟨J3 T dst (mkv c k),H.upd c b,c+1⟩:=propext Iff.rfl
theorem E2f{H':Hp}{c':Nat}:F1c P R os T dst (some (v,H',c'))=rwp P R os ⟨J3 T dst v,H',c'⟩:=propext Iff.rfl
theorem F9j{H':Hp}{c':Nat}:E3o P R os T dst v H' c'=rwp P R os ⟨J3 T dst v,H',c'⟩:=propext Iff.rfl
theorem F4g{op:IOp}{t:Nat}{b:Bool}:rwp P R (⟨dst,op,some (t,b)⟩::os) ⟨T,H,c⟩=B8t P R dst op os T H c (B5y (T t) b):=by
 rfl
theorem F9a{op:IOp}:B8t P R dst op os T H c (some true)=rwp P R (⟨dst,op,none⟩::os) ⟨T,H,c⟩:=propext Iff.rfl
theorem F9b{op:IOp}:B8t P R dst op os T H c (some false)=rwp P R os ⟨J3 T dst (.tup []),H,c⟩:=propext Iff.rfl
theorem E9s{b d:Bool}:B5y (.bool b) d=some (b==d):=id rfl
theorem F8m{d:Bool}:B5y (.tup []) d=some false:=id rfl
theorem F9d:B1x P N x y s Q (.bool true)=IW P N x s Q:=by
 apply propext;constructor
 ·intro h;exact h.1 rfl
 ·intro h;exact⟨λ_=>h,λe=>(by cases e)⟩
theorem F9e:B1x P N x y s Q (.bool false)=IW P N y s Q:=by
 apply propext;constructor
 ·intro h;exact h.2 rfl
 ·intro h;exact⟨λe=>(by cases e),λ_=>h⟩
theorem F9f{b:Bool}(h1:b=true->IW P N x s Q)(h2:b=false->IW P N y s Q):B1x P N x y s Q (.bool b):=⟨h1,h2⟩
theorem F9c{op:IOp}{b d:Bool}(h1:b=true->B8t P R dst op os T H c (some (true==d)))(h2:b=false->B8t P R dst op os T H c (some (false==d))):B8t P R dst op os T H c (some (b==d)):=by
 cases b
 ·exact h2 rfl
 grind
theorem C8x{o:Option DV}(h:o=some v)(k:rwp P R os ⟨J3 T dst v,H,c⟩):E8n P R os T H c dst o:=by rw[h];exact k
theorem G6{o:Option (DV × Hp × Nat)}{H':Hp}{c':Nat}(h:o=some (v,H',c'))(k:rwp P R os ⟨J3 T dst v,H',c'⟩):F1c P R os T dst o:=by rw[h];exact k
theorem E9u{o:Option (Option Nat × Blk)}{k:Option Nat}{b:Blk}(h:o=some (k,b))(k':rwp P R os ⟨J3 T dst (mkv c k),H.upd c b,c+1⟩):E9e P R os T H c dst o:=by rw[h];exact k'
theorem E6i{d:Nat}:J3 T (some d) v=T.upd d v:=id rfl
theorem E6k:J3 T none v=T:=id rfl
theorem E6j{d:Nat}:T.upd d v d=v:=by simp[Tm.upd]
theorem F7o{d j:Nat}(h:¬j=d):T.upd d v j=T j:=by simp[Tm.upd,h]
theorem E6z{k:Nat}{r:List (Nat × DV)}:tm ((k,v)::r) k=v:=by simp[tm,Tm.upd]
theorem F7p{k j:Nat}{r:List (Nat × DV)}(h:¬j=k):tm ((k,v)::r) j=tm r j:=by simp[tm,Tm.upd,h]
theorem A0{id:Nat}{b:Blk}:(H.upd id b) id=some b:=by simp[Hp.upd]
theorem h_ne{id j:Nat}{b:Blk}(h:¬j=id):(H.upd id b) j=H j:=by simp[Hp.upd,h]
theorem hnO{id j:Nat}{b:Blk}(h:¬j=id:=by omega):(H.upd id b) j=H j:=h_ne h
theorem dtz{a b:Nat}(h:a<b):decide ((a:Int)<(b:Int))=true:=by simpa using h
theorem dfz{a b:Nat}(h:¬a<b):decide ((a:Int)<(b:Int))=false:=by simpa using h
theorem hSm{H:Hp}{id:Nat}{b:Blk}:(H.upd id b) id=some b:=A0
theorem iN{c:Prop}[Decidable c]{α:Sort _}{t e : α}(h:¬c:=by omega):ite c t e=e:=if_neg h
theorem iP{c:Prop}[Decidable c]{α:Sort _}{t e : α}(h:c:=by omega):ite c t e=t:=if_pos h
theorem A6j{id:Nat}:(H.del id) id=none:=by simp[Hp.del]
theorem I7{id j:Nat}(h:¬j=id):(H.del id) j=H j:=by simp[Hp.del,h]
theorem F4r{j:Nat}:nil j=none:=id rfl
theorem A1{id:Nat}{b b':Blk}:(H.upd id b).upd id b'=H.upd id b':=by
 funext j;simp only[Hp.upd];grind
theorem e_t{n:Nat}:ev T (.t n)=T n:=id rfl
theorem e_k{v:Value}:ev T (.k v)=inj v:=id rfl
theorem e_f{n:Nat}:ev T (.f n)=.func n [] []:=id rfl
theorem a_0{r:List DV}:A5d (v::r) 0=v:=id rfl
theorem a_1{a b:DV}{r:List DV}:A5d (a::b::r) 1=b:=id rfl
theorem a_2{a b d:DV}{r:List DV}:A5d (a::b::d::r) 2=d:=id rfl
theorem a_3{a b d e:DV}{r:List DV}:A5d (a::b::d::e::r) 3=e:=id rfl
theorem a_4{a b d e f:DV}{r:List DV}:A5d (a::b::d::e::f::r) 4=f:=id rfl
theorem a_5{a b d e f g:DV}{r:List DV}:A5d (a::b::d::e::f::g::r) 5=g:=id rfl
theorem F0a{b:Bool}:inj (.bool b)=.bool b:=id rfl
theorem F4l{k:IntKind}{n:Int}:inj (.int k n)=.int k n:=id rfl
theorem F4k{a:Array UInt8}:inj (.string ⟨a⟩)=.str a.toList:=id rfl
theorem E9z:inj (.pointer none)=.pnil:=id rfl
theorem E9x:inj (.slice none 0 0)=.snil:=id rfl
theorem F4m{a:List Value}:inj (.agg ⟨a⟩)=.agg (a.map injS):=id rfl
theorem E2h{b:Bool}:injS (.bool b)=.bool b:=id rfl
theorem E9y{k:IntKind}{n:Int}:injS (.int k n)=.int k n:=id rfl
theorem E9w{a:Array UInt8}:injS (.string ⟨a⟩)=.str a.toList:=id rfl
theorem E2g:injS (.slice none 0 0)=.snil:=id rfl
section
variable {e:Opd->DV} {a b o:Opd} {n off sz:Nat}
theorem F9z:fev H e (.mv o)=some (e o):=id rfl
theorem F0p:fev H e (.pick o a b)=C0v (e o) (e a) (e b):=id rfl
theorem G0b{g:Bool}:fev H e (.ld n g o)=ldv H n g (e o):=id rfl
theorem F5t:fev H e (.fad off o)=D1w off (e o):=id rfl
theorem F5r:fev H e (.iad sz a b)=A9b sz (e a) (e b):=id rfl
theorem F0r:fev H e (.iada n sz a b)=C1u n sz (e a) (e b):=id rfl
theorem F5q:fev H e (.idx a b)=C5j (e a) (e b):=id rfl
theorem F5s{g:Bool}:fev H e (.fld off n g o)=C5o off n g (e o):=id rfl
theorem F5u:fev H e (.ext o n)=E2v n (e o):=id rfl
theorem F5n:fev H e (.nck o)=E1k (e o):=id rfl
theorem F5z{op:BinOp}:fev H e (.bin op a b)=binR op (e a) (e b):=id rfl
theorem F5v{g:Bool}{ks:List Nat}:fev H e (.eqa g ks a b)=B4x g ks (e a) (e b):=id rfl
theorem F9x{op:UnOp}:fev H e (.un op a)=unR op (e a):=id rfl
theorem F5x{k:IntKind}:fev H e (.cvi k a)=E3i k (e a):=id rfl
theorem F0s:fev H e (.cvbs a)=A5a H (e a):=id rfl
theorem F5m{lo hi:Option Opd}:fev H e (.slc sz a lo hi)=A7j H sz (e a) (lo.map e) (hi.map e):=id rfl
theorem F5l{lo hi:Option Opd}:fev H e (.sls a lo hi)=E0h (e a) (lo.map e) (hi.map e):=id rfl
theorem F5o{f:Nat}{p q:List Opd}:fev H e (.mkf f p q)=some (.func f (p.map e) (q.map e)):=id rfl
theorem F5y{z:Array Value}{pl:List (Nat × Nat)}{ps:List (Nat × Opd)}:fev H e (.bld z pl ps)=D9h (z.toList.map injS) pl (ps.map λp=>(p.1,e p.2)):=id rfl
theorem F5p:fev H e (.len a)=B1t (e a):=id rfl
theorem F0q:fev H e (.lens a)=C8v (e a):=id rfl
theorem G0a:fev H e (.mn a b)=mnR (e a) (e b):=id rfl
theorem F9y:fev H e (.mx a b)=mxR (e a) (e b):=id rfl
theorem F5e:aev e (.box a)=C6g (e a):=id rfl
theorem F5d{z:Array Value}{ps:List (Nat × Opd)}:aev e (.bsl sz n z ps)=E3q sz n (z.toList.map injS) (ps.map λp=>(p.1,e p.2)):=id rfl
theorem F5a{z:Array Value}{bytes:Nat}:aev e (.msl sz bytes z a b)=D6i sz bytes (z.toList.map injS) (e a) (e b):=id rfl
theorem F9m:eev H c e (.st n a b)=stR H c n (e a) (e b):=id rfl
theorem F5f{bytes:Nat}:eev H c e (.app sz bytes a b)=apX H c sz bytes (e a) (A7b H sz (e b)):=id rfl
theorem F0n:eev H c e (.apps a b)=E3x H c (e a) (e b):=id rfl
theorem F5b{kd:KKey}:eev H c e (.mkm kd)=some (.mid c,H.upd c ⟨0,true,[.mpc kd [] []]⟩,c+1):=id rfl
theorem F4z{kd:KKey}:eev H c e (.mup kd o a b)=muR H c kd (e a) (e b) (e o):=id rfl
theorem F5c{kd:KKey}{z:Value}{ok:Bool}:eev H c e (.lkp kd z ok o a)=lkE H c (lkR kd (inj z) ok (e a) (U2 H kd (e o))):=id rfl
end
section
variable {kd:KKey} {ks vs:List DV} {k z:DV} {id u i:Nat} {own ok:Bool} {s:List UInt8} {n:Int} {ik:IntKind} {b:Bool}
theorem F3z:U2 H kd (.mid id)=mcB kd (H id):=_root_.id rfl
theorem F8l:U2 H kd (.mp kd ks vs)=some (ks,vs):=if_pos rfl
theorem m_b:mcB kd (some ⟨u,own,[.mpc kd ks vs]⟩)=some (ks,vs):=if_pos rfl
theorem l_s:lkR .s z ok (.str s) (some (ks,vs))=lkV z ok vs (G5 (.str s) ks 0):=_root_.id rfl
theorem l_i:lkR (.i ik) z ok (.int ik n) (some (ks,vs))=lkV z ok vs (G5 (.int ik n) ks 0):=by
 simp[lkR,A1j]
def lkO(ok:Bool):Option DV->Option DV
 |some v=>match ok with
  |true=>some (.tup [v,.bool true])
  |false=>some v
 |none=>none
theorem E1z:lkV z true vs none=some (.tup [z,.bool false]):=_root_.id rfl
theorem D6u:lkV z ok vs (some i)=lkO ok vs[i]? := _root_.id rfl
theorem l_e:lkE H c (some v)=some (v,H,c):=_root_.id rfl
theorem E9g:muR H c kd k v (.mid id)=muB H c id kd k v (H id):=_root_.id rfl
theorem F8f:muB H c id .s (.str s) v (some ⟨u,true,[.mpc .s ks vs]⟩)=muV H c id u .s ks vs (.str s) v (G5 (.str s) ks 0):=by rfl
theorem F8g:muB H c id (.i ik) (.int ik n) v (some ⟨u,true,[.mpc (.i ik) ks vs]⟩)=muV H c id u (.i ik) ks vs (.int ik n) v (G5 (.int ik n) ks 0):=by simp[muB,A1j]
theorem E1l:muV H c id u kd ks vs k v none=some (.tup [],H.upd id ⟨u,true,[.mpc kd (ks++[k]) (vs++[v])]⟩,c):=_root_.id rfl
end
def ldB(n:Nat)(agg:Bool)(off:Nat):Option Blk->Option DV
 |some b=>match agg with
  |true=>match Nat.ble (off+n) b.cells.length with
   |true=>some (.agg ((b.cells.drop off).take n))
   |false=>none
  |false=>b.cells[off]?
 |none=>none
def D1n(sz:Nat):Option DV->Option DV
 |some y=>if y.cells.length=sz then some (.fptr y.cells) else none
 |none=>none
def chO:Option UInt8->Option DV
 |some d=>some (.int .u8 d.toNat)
 |none=>none
def stB(H:Hp)(c id n off:Nat)(v:DV):Option Blk->Option (DV × Hp × Nat)
 |some b =>
  if b.own=true/\v.cells.length=n/\off+n<=b.cells.length/\v.cells.all DV.one=true then
   some (.tup [],H.upd id ⟨b.unit,true,b.cells.take off++v.cells++b.cells.drop (off+n)⟩,c)
  else none
 |none=>none
def srB(sz o m:Nat):Option Blk->Option (Nat × List DV)
 |some b=>match Nat.ble (o+m*sz) b.cells.length with
  |true=>some (m,(b.cells.drop o).take (m*sz))
  |false=>none
 |none=>none
def apB(H:Hp)(c id sz bytes n m:Nat)(src:List DV):Option Blk->Option (DV × Hp × Nat)
 |some b =>
  if b.own=true/\b.unit=sz/\n*sz<=b.cells.length/\(n+m)*bytes<=140737488355328/\n+m<=maxLen then
   some (.slc c 0 (n+m),(H.del id).upd c ⟨sz,true,b.cells.take (n*sz)++src⟩,c+1)
  else none
 |none=>none
section
variable {k:IntKind} {m n j:Int} {id off i sz bytes:Nat} {cs xs:List DV} {blk:Blk} {p q b:Bool}
theorem F7u{a b:DV}:C0v (.bool true) a b=some a:=_root_.id rfl
theorem F7v{a b:DV}:C0v (.bool false) a b=some b:=_root_.id rfl
theorem F7z{g:Bool}:ldv H i g (.ptr id off)=ldB i g off (H id):=by
 rfl
theorem F6x{u:Nat}{o:Bool}:ldB 1 false off (some ⟨u,o,cs⟩)=cs[off]? := _root_.id rfl
theorem F6w{u:Nat}{o:Bool}(hl:off+i<=cs.length):ldB i true off (some ⟨u,o,cs⟩)=some (.agg ((cs.drop off).take i)):=by
 have:Nat.ble (off+i) cs.length=true:=zae
 simp only[ldB,this]
theorem E8g:ldv H 1 false (.fptr cs)=cs[0]? := _root_.id rfl
theorem E8e{sz:Nat}(hl:sz<=cs.length):ldv H sz true (.fptr cs)=some (.agg (cs.take sz)):=by
 have:Nat.ble sz cs.length=true:=zae
 simp only[ldv,this]
theorem E8h:D1w off (.ptr id i)=some (.ptr id (i+off)):=_root_.id rfl
theorem E8i(hl:off<=cs.length):D1w off (.fptr cs)=some (.fptr (cs.drop off)):=by
 have:Nat.ble off cs.length=true:=zae
 simp only[D1w,this]
theorem E8c:A9b sz (.lst xs) (.int k j)=if 0<=j then D1n sz xs[j.toNat]? else none:=by
 by_cases h:0<=j
 ·simp only[A9b,h,true_and,if_true];by_cases h2:j<xs.length
  ·simp only[h2,if_true];rfl
  ·simp only[h2,if_false];rw[A3F (by omega)];rfl
 ·simp only[A9b,h,false_and,if_false]
theorem C4i{l:Nat}:A9b sz (.lst xs) (.int k (l:Int))=D1n sz xs[l]? := by
 rw[E8c,if_pos (A2H l),A1U]
theorem F3t{y:DV}(h:y.cells.length=sz):D1n sz (some y)=some (.fptr y.cells):=by simp only[D1n,h,if_true]
theorem D5d{l:Nat}(h0:0<=j)(h1:j<l):A9b sz (.slc id off l) (.int k j)=some (.ptr id (off+j.toNat*sz)):=by
 simp only[A9b,h0,h1,and_self,if_true]
theorem B0e{l:Nat}(h0:0<=j)(h1:j<l):C1u l sz (.ptr id off) (.int k j)=some (.ptr id (off+j.toNat*sz)):=by
 simp only[C1u,h0,h1,and_self,if_true]
theorem G0y{s:List UInt8}:C5j (.str s) (.int k j)=if 0<=j then chO s[j.toNat]? else none:=by
 rfl
theorem E8b{s:List UInt8}{l:Nat}:C5j (.str s) (.int k (l:Int))=chO s[l]? := by
 rfl
theorem F8d{d:UInt8}:chO (some d)=some (.int .u8 d.toNat):=_root_.id rfl
theorem E8f:C5o off i false (.agg cs)=cs[off]? := _root_.id rfl
theorem F3h:E2v i (.tup xs)=xs[i]? := _root_.id rfl
theorem E7x:E1k (.ptr id off)=some (.ptr id off):=_root_.id rfl
theorem F3b:unR .neg (.int k n)=some (.int k (k.wrap (0-n))):=_root_.id rfl
theorem F2z:unR .not (.bool p)=some (.bool (!p)):=_root_.id rfl
theorem F3j{k':IntKind}:E3i k (.int k' n)=some (.int k (k.wrap n)):=_root_.id rfl
theorem E7z:B1t .snil=some (.int .i64 0):=_root_.id rfl
theorem E7y{l:Nat}:B1t (.slc id off l)=some (.int .i64 l):=_root_.id rfl
theorem E8a:B1t (.lst xs)=some (.int .i64 xs.length):=_root_.id rfl
theorem E7u{s:List UInt8}:C8v (.str s)=some (.int .i64 s.length):=_root_.id rfl
theorem F7y{k':IntKind}:mnR (.int k m) (.int k' n)=some (.int k (if n<m then n else m)):=_root_.id rfl
theorem F7x{k':IntKind}:mxR (.int k m) (.int k' n)=some (.int k (if n>m then n else m)):=_root_.id rfl
theorem E7t{s:List UInt8}{lo hi:Option DV}:E0h (.str s) lo hi=slsR s lo hi:=_root_.id rfl
theorem E4q{s:List UInt8}{lo hi:Option DV}{l h:Nat}(h1:boundOf s.length hi=some h)(h2:boundOf 0 lo=some l)(h3:h<=s.length)(h4:l<=h):slsR s lo hi=some (.str ((s.drop l).take (h-l))):=by
 simp only[slsR,h1,h2,h3,h4,and_self,if_true]
theorem F3i:binR .eql (.int k m) (.int k n)=some (.bool (m==n)):=v6
theorem F3a:binR .neq (.int k m) (.int k n)=some (.bool (m != n)):=v6
theorem F3d:binR .lss (.int k m) (.int k n)=some (.bool (decide (m<n))):=v6
theorem F3e:binR .leq (.int k m) (.int k n)=some (.bool (decide (m<=n))):=v6
theorem F3f:binR .gtr (.int k m) (.int k n)=some (.bool (decide (m>n))):=v6
theorem F3g:binR .geq (.int k m) (.int k n)=some (.bool (decide (m≥n))):=v6
theorem F3o:binR .add (.int k m) (.int k n)=some (.int k (k.wrap (m+n))):=v6
theorem F2x:binR .sub (.int k m) (.int k n)=some (.int k (k.wrap (m-n))):=v6
theorem F3c:binR .mul (.int k m) (.int k n)=some (.int k (k.wrap (m*n))):=v6
theorem B3u(h:¬n=0):binR .quo (.int k m) (.int k n)=some (.int k (k.wrap (m.tdiv n))):=by cases k<;>exact if_neg h
theorem A8k(h:¬n=0):binR .rem (.int k m) (.int k n)=some (.int k (m.tmod n)):=by cases k<;>exact if_neg h
theorem F3n:binR .and (.int k m) (.int k n)=some (.int k (bits .and k m n)):=v6
theorem F7w:binR .or (.int k m) (.int k n)=some (.int k (bits .or k m n)):=v6
theorem F2y{k':IntKind}(h:¬n<0):binR .shl (.int k m) (.int k' n)=some (.int k (k.wrap (m*2 ^ (min n.toNat k.bits)))):=if_neg h
theorem D5c{s t:List UInt8}(h:s.length+t.length<=maxLen):binR .add (.str s) (.str t)=some (.str (s++t)):=if_pos h
theorem E7w{s t:List UInt8}:binR .eql (.str s) (.str t)=some (.bool (s==t)):=_root_.id rfl
theorem E7s{s t:List UInt8}:binR .neq (.str s) (.str t)=some (.bool (!(s==t))):=_root_.id rfl
theorem m_p:mkv c none=.ptr c 0:=_root_.id rfl
theorem m_s{l:Nat}:mkv c (some l)=.slc c 0 l:=_root_.id rfl
theorem F3k(h:v.cells.all DV.one=true):C6g v=some (none,⟨0,true,v.cells⟩):=by simp only[C6g,h]
theorem F7t:stR H c i (.ptr id off) v=stB H c id i off v (H id):=by
 rfl
theorem B2a{u:Nat}(h1:v.cells.length=i)(h2:off+i<=cs.length)(h3:v.cells.all DV.one=true):
  stB H c id i off v (some ⟨u,true,cs⟩)=some (.tup [],H.upd id ⟨u,true,cs.take off++v.cells++cs.drop (off+i)⟩,c):=by
 simp only[stB,h1,h2,h3,and_self,if_true]
theorem F3l{l:Nat}{s:DV}:apX H c sz bytes s (some (l,cs))=A9p H c sz bytes s l cs:=_root_.id rfl
theorem F3m{s:DV}{t:List UInt8}:E3x H c s (.str t)=A9p H c 1 1 s t.length (bytesV t):=_root_.id rfl
theorem X9(h:unit sz xs=true):A7b H sz (.lst xs)=some (xs.length,cellsL xs):=by simp only[A7b,h]
theorem E7r{l:Nat}:A7b H sz (.slc id off l)=srB sz off l (H id):=by
 rfl
theorem F6v{l u:Nat}{o:Bool}(h1:off+l*sz<=cs.length):srB sz off l (some ⟨u,o,cs⟩)=some (l,(cs.drop off).take (l*sz)):=by
 have:Nat.ble (off+l*sz) cs.length=true:=zae
 simp only[srB,this]
theorem E8j{l:Nat}(h:¬l=0)(h1:l*bytes<=140737488355328)(h2:l<=maxLen):A9p H c sz bytes .snil l cs=some (.slc c 0 l,H.upd c ⟨sz,true,cs⟩,c+1):=by
 simp only[A9p,h,if_false,h1,h2,and_self,if_true]
theorem D5g{l w:Nat}:A9p H c sz bytes (.slc id 0 l) w cs=apB H c id sz bytes l w cs (H id):=by
 rfl
theorem E5t{l w:Nat}{cs':List DV}(h1:l*sz<=cs'.length)(h2:(l+w)*bytes<=140737488355328)(h3:l+w<=maxLen):
  apB H c id sz bytes l w cs (some ⟨sz,true,cs'⟩)=some (.slc c 0 (l+w),(H.del id).upd c ⟨sz,true,cs'.take (l*sz)++cs⟩,c+1):=by
 simp only[apB,h1,h2,h3,and_self,if_true]
end
theorem A4{r:DV}(h:v=r):∃H2,GL H [v] H2 [r]:=⟨H,by rw[h];exact GL.refl _ _⟩
def B5:List (Nat × DV)->Tm->Prop
 |[],_=>True
 |(k,v)::r,T=>T k=v/\B5 r T
def Sub(h H:Hp):Prop:=∀j b,h j=some b->H j=some b
theorem Sub.refl(H:Hp):Sub H H:=λ_ _ h=>h
theorem Sub.upd{h H:Hp}(hs:Sub h H){id:Nat}(b:Blk)(hn:h id=none):Sub h (H.upd id b):=λj b' hj=>by
 unfold Hp.upd;by_cases e:j=id
 ·grind
 ·rw[if_neg e];exact hs j b' hj
theorem Sub.put{h H:Hp}(hs:Sub h H){id:Nat}{b:Blk}(hb:H id=some b):Sub (h.upd id b) H:=λj b' hj=>by
 unfold Hp.upd at hj;by_cases e:j=id
 ·grind
 ·rw[if_neg e]at hj;exact hs j b' hj
theorem Sub.nil(H:Hp):Sub nil H:=λj b h=>y8
theorem E4j{l:List (Nat × DV)}{T:Tm}(h:B5 l T):∀t,tm l t=.bot\/tm l t=T t:=by
 induction l with
 |nil=>exact λt=>.inl rfl
 |cons p r ih =>
  intro t;simp only[tm,Tm.upd];by_cases e:t=p.1
  ·rw[if_pos e,e];exact .inr h.1.symm
  ·rw[if_neg e];exact ih h.2 t
theorem IW.weaken{T':Tm}{H':Hp}(hT:∀t,T' t=.bot\/T' t=T t)(hH:Sub H' H)(h:IW P N x ⟨T',H',c⟩ Q):IW P N x ⟨T,H,c⟩ Q:=by
 intro hm cd hc ρ a w hS;have hj:∀j,H' j=none\/H' j=H j:=λj=>by
  cases hc:H' j with
  |none=>simp
  |some b=>exact .inr (hH j b hc).symm
 have hS1:Sim N ρ ⟨T',H',c⟩ a w:=⟨λt=>by
  show VRel ρ (T' t) _;rcases hT t with h0|h0
  ·rw[h0];exact .bot _
  ·rw[h0];exact hS.tm t,hS.rep.less hj,hS.fresh,hS.size,hS.dfr⟩
 refine wp_mono (h hm cd hc ρ a w hS1) λe a' w' hq=>?_;obtain⟨ρ2,s2,q,hS2,hst⟩:=hq;exact⟨ρ2,s2,q,hS2,⟨hst.up,λid hid hne=>by
  have:=hst.dom id hid hne
  grind,hst.same,(Ext.less hj).trans hst.ext⟩⟩
def lp{σ:Type}(L : σ->List (Nat × DV))(h : σ->Hp)(I : σ->Nat->Prop)(μ : σ->Nat)(m:Nat)(Q:Exit->St->Prop):Exit->St->Prop
 |.normal,⟨T,H,c⟩ => ∃b,B5 (L b) T/\Sub (h b) H/\I b c /\ μ b<m
 |e,s=>Q e s
theorem A9{σ:Type}(L : σ->List (Nat × DV))(h : σ->Hp)(I : σ->Nat->Prop)(μ : σ->Nat)(a : σ)(h0:B5 (L a) T)(hH:Sub (h a) H)(hI:I a c)
  (step:∀a c,I a c->IW P N x ⟨tm (L a),h a,c⟩ (lp L h I μ (μ a) Q)):IW P N (.loop x) ⟨T,H,c⟩ Q:=by
 refine IW.loop (λn s => ∃b,B5 (L b) s.T/\Sub (h b) s.H/\I b s.c /\ μ b=n) (μ a) ⟨a,h0,hH,hI,rfl⟩ ?_;rintro n ⟨T,H,c⟩ ⟨b,e1,e2,e3,rfl⟩;refine IW.weaken (E4j e1) e2 ((step b c e3).mono λe s' q=>?_);obtain⟨T',H',c'⟩:=s';cases e with
 |normal=>obtain⟨d,q1,q2,q3,q4⟩:=q;exact⟨_,q4,d,q1,q2,q3,rfl⟩
 |_=>exact q
def C3m{σ:Type}(I : σ->Nat->Prop)(b : σ)(c:Nat):Prop:=I b c
theorem inv{σ:Type}{I : σ->Nat->Prop}{b : σ}{c:Nat}(h:I b c):C3m I b c:=h
theorem F8y{σ:Type}{L : σ->List (Nat × DV)}{h : σ->Hp}{I : σ->Nat->Prop}{μ : σ->Nat}{m:Nat}:lp L h I μ m Q .normal ⟨T,H,c⟩ = ∃b,B5 (L b) T/\Sub (h b) H/\C3m I b c /\ μ b<m:=propext Iff.rfl
theorem F8x{σ:Type}{L : σ->List (Nat × DV)}{h : σ->Hp}{I : σ->Nat->Prop}{μ : σ->Nat}{m:Nat}:lp L h I μ m Q .ret ⟨T,H,c⟩=Q .ret ⟨T,H,c⟩:=propext Iff.rfl
theorem F8z{σ:Type}{L : σ->List (Nat × DV)}{h : σ->Hp}{I : σ->Nat->Prop}{μ : σ->Nat}{m i:Nat}:lp L h I μ m Q (.exit i) ⟨T,H,c⟩=Q (.exit i) ⟨T,H,c⟩:=propext Iff.rfl
theorem E9q:B5 [] T=True:=id rfl
theorem E1y{k:Nat}{r:List (Nat × DV)}:B5 ((k,v)::r) T=(T k=v/\B5 r T):=id rfl
theorem w64{n:Int}(h1 : -9223372036854775808<=n:=by omega)(h2:n<=9223372036854775807:=by omega):IntKind.i64.wrap n=n:=by rw[IntWalk.i64_left,IntWalk.wrap64_in n ⟨h1,h2⟩]
theorem w6z{n:Int}(h : -9223372036854775808<=n/\n<=9223372036854775807:=by omega):IntKind.i64.wrap n=n:=w64 h.1 h.2
end Go.Sym
namespace Go.Sym
variable [Go.Sym.Tab]
open Go.Eng (Opd FOp AOp EOp IOp IOper DReg IC RV IFn trC B1q P0 K4 isNew)
variable {P:Program} {N:Nat} {Q:Exit->St->Prop} {R:St->Prop} {s:St} {x y z:IC} {os io:List IOper} {T:Tm} {H:Hp} {c c0:Nat} {dst:Option Nat} {v:DV}
def kp(L:List Nat)(T:Tm):List (Nat × DV):=L.map λk=>(k,T k)
theorem D6v:∀(L:List Nat),L.zip (L.map T)=kp L T
 |[]=>rfl
 |k::L=>by simp only[A0P,List.zip_cons_cons,D6v L];rfl
theorem IW.kp(L:List Nat)(h:IW P N x ⟨tm (kp L T),H,c⟩ Q):IW P N x ⟨T,H,c⟩ Q:=IW.slots L (by rw[D6v];exact h)
theorem E9r:kp [] T=[]:=id rfl
theorem E2a{k:Nat}{L:List Nat}:kp (k::L) T=(k,T k)::kp L T:=id rfl
theorem D0u{K K':DV->Hp->Nat->Prop}(hk:∀v H c,K v H c->K' v H c){op:IOp}(h:V0 P s K op):V0 P s K' op:=by
 cases op with
 |pur f=>simp only[V0]at h ⊢;grind
 |new f=>simp only[V0]at h ⊢;grind
 |eff f=>simp only[V0]at h ⊢;grind
 |call f a=>exact AC.mono h hk
 |callv x a =>
  simp only[V0]at h ⊢;split at h
  ·exact AC.mono h hk
  omega
abbrev WS(P:Program)(N:Nat)(u:IC)(r:List IOper)(y:IC)(L:List Nat):Prop:=∀ {Q:Exit->St->Prop} {T:Tm} {H:Hp} {c:Nat},rwp P (nx P N y Q) r ⟨tm (kp L T),H,c⟩->IW P N u ⟨T,H,c⟩ Q
abbrev WE(P:Program)(N:Nat)(u:IC)(r:List IOper)(L:List Nat):Prop:=∀ {Q:Exit->St->Prop} {T:Tm} {H:Hp} {c:Nat},rwp P (no Q) r ⟨tm (kp L T),H,c⟩->IW P N u ⟨T,H,c⟩ Q
abbrev WP(P:Program)(N:Nat)(u:IC)(n:Nat)(d:DReg)(y:IC)(L:List Nat):Prop:=∀ {Q:Exit->St->Prop} {T:Tm} {H:Hp} {c:Nat},rwp P (nx P N y Q) d.ops ⟨tm (kp L T),H,c+n⟩->IW P N u ⟨T,H,c⟩ Q
abbrev WPE(P:Program)(N:Nat)(u:IC)(n:Nat)(d:DReg)(L:List Nat):Prop:=∀ {Q:Exit->St->Prop} {T:Tm} {H:Hp} {c:Nat},rwp P (no Q) d.ops ⟨tm (kp L T),H,c+n⟩->IW P N u ⟨T,H,c⟩ Q
abbrev WD(P:Program)(N:Nat)(u:IC)(n:Nat)(d:DReg)(y:IC)(L:List Nat):Prop:=∀ {Q:Exit->St->Prop} {T:Tm} {H:Hp} {c:Nat},dwp P (nx P N y Q) d.ops c d.plan ⟨tm (kp L T),H,c+n⟩->IW P N u ⟨T,H,c⟩ Q
abbrev WDE(P:Program)(N:Nat)(u:IC)(n:Nat)(d:DReg)(L:List Nat):Prop:=∀ {Q:Exit->St->Prop} {T:Tm} {H:Hp} {c:Nat},dwp P (no Q) d.ops c d.plan ⟨tm (kp L T),H,c+n⟩->IW P N u ⟨T,H,c⟩ Q
abbrev WC(P:Program)(N:Nat)(u:IC)(o:Opd)(x z y:IC)(L:List Nat):Prop:=∀ {Q:Exit->St->Prop} {T:Tm} {H:Hp} {c:Nat},B1x P N x z ⟨tm (kp L T),H,c⟩ (sq P N y Q) (ev (tm (kp L T)) o)->IW P N u ⟨T,H,c⟩ Q
abbrev WCE(P:Program)(N:Nat)(u:IC)(o:Opd)(x z:IC)(L:List Nat):Prop:=∀ {Q:Exit->St->Prop} {T:Tm} {H:Hp} {c:Nat},B1x P N x z ⟨tm (kp L T),H,c⟩ Q (ev (tm (kp L T)) o)->IW P N u ⟨T,H,c⟩ Q
abbrev WB(P:Program)(N:Nat)(u:IC)(i:Nat)(x y:IC)(L:List Nat):Prop:=∀ {Q:Exit->St->Prop} {T:Tm} {H:Hp} {c:Nat},IW P N x ⟨tm (kp L T),H,c⟩ (bk i (sq P N y Q))->IW P N u ⟨T,H,c⟩ Q
abbrev WBE(P:Program)(N:Nat)(u:IC)(i:Nat)(x:IC)(L:List Nat):Prop:=∀ {Q:Exit->St->Prop} {T:Tm} {H:Hp} {c:Nat},IW P N x ⟨tm (kp L T),H,c⟩ (bk i Q)->IW P N u ⟨T,H,c⟩ Q
abbrev WQ(P:Program)(N:Nat)(u x y:IC)(L:List Nat):Prop:=∀ {Q:Exit->St->Prop} {T:Tm} {H:Hp} {c:Nat},IW P N x ⟨tm (kp L T),H,c⟩ (sq P N y Q)->IW P N u ⟨T,H,c⟩ Q
def asc:Nat->List (Nat × Option (List Nat))->List IOper->Bool
 |_,[],[]=>true
 |k,(i,none)::r,⟨_,.pur _,_⟩::io=>Nat.beq i k&&asc (k+1) r io
 |k,(i,some [])::r,_::io=>Nat.beq i k&&asc (k+1) r io
 |_,_,_=>false
theorem A0h:∀(plan:List (Nat × Option (List Nat))) (os:List IOper) (k:Nat) (s:St),asc k plan os=true->io.drop k=os->rwp P R os s->dwp P R io c0 plan s
 |[],[],k,s,_,_,h=>h
 |[],_::_,k,s,ha,_,h=>l9
 |(i,none)::r,[],k,s,ha,_,h=>l9
 |(i,none)::r,⟨d,.pur f,g⟩::os,k,s,ha,he,h=>by
  simp only[asc,A0G,Nat.beq_eq]at ha;obtain⟨rfl,ha⟩:=ha;have hget:io[i]? = some ⟨d,.pur f,g⟩:=by
   have:(io.drop i)[0]? = some ⟨d,.pur f,g⟩:=by rw[he];rfl
   simpa using this
  have hdr:io.drop (i+1)=os:=by rw[<- A3E,he];rfl
  simp only[dwp,hget,A4x];simp only[rwp]at h;split at h
  ·rename_i hw;try simp only[hw]
   simp only[V0]at h;split at h
   ·rename_i v hv;simp only[hv];exact A0h r os (i+1) _ ha hdr h
   ·exact h.elim
  ·rename_i hw;try simp only[hw]
   exact A0h r os (i+1) _ ha hdr h
  grind
 |(i,none)::r,⟨d,.new f,g⟩::os,k,s,ha,_,h=>l9
 |(i,none)::r,⟨d,.eff f,g⟩::os,k,s,ha,_,h=>l9
 |(i,none)::r,⟨d,.call f a,g⟩::os,k,s,ha,_,h=>l9
 |(i,none)::r,⟨d,.callv f a,g⟩::os,k,s,ha,_,h=>l9
 |(i,some (_::_))::r,os,k,s,ha,_,h=>l9
 |(i,some [])::r,[],k,s,ha,_,h=>l9
 |(i,some [])::r,o::os,k,s,ha,he,h=>by
  simp only[asc,A0G,Nat.beq_eq]at ha;obtain⟨rfl,ha⟩:=ha;have hget:io[i]? = some o:=by
   have:(io.drop i)[0]? = some o:=by rw[he];rfl
   simpa using this
  have hdr:io.drop (i+1)=os:=by rw[<- A3E,he];rfl
  have hh:∀H:Hp,K3 H []=H:=λH=>by funext j;simp[K3]
  have hm:∀H H':Hp,O9 [] H H'=H':=λH H'=>by funext j;simp[O9]
  simp only[dwp,hget,List.filter_nil,List.map_nil,hh,hm,A1g,true_and,C2p];simp only[rwp]at h;split at h
  ·rename_i hw;try simp only[hw]
   exact D0u (λv H' c' h'=>A0h r os (i+1) _ ha hdr h') h
  ·rename_i hw;try simp only[hw]
   exact A0h r os (i+1) _ ha hdr h
  grind
section
variable {u:IC} {r:List IOper} {L:List Nat} {n i:Nat} {d:DReg} {o:Opd}
theorem mkS:WS P N (.seq (.reg r) y) r y L:=λh=>IW.kp L (F0c h)
theorem mkE:WE P N (.reg r) r L:=λh=>IW.kp L (F4p h)
theorem mkP(h1:asc 0 d.plan d.ops=true):WP P N (.seq (.drw n d) y) n d y L:=λh=>IW.kp L (D7b (A0h d.plan d.ops 0 _ h1 rfl h))
theorem F8h(h1:asc 0 d.plan d.ops=true):WPE P N (.drw n d) n d L:=λh=>IW.kp L (E5d (A0h d.plan d.ops 0 _ h1 rfl h))
theorem mkD:WD P N (.seq (.drw n d) y) n d y L:=λh=>IW.kp L (D7b h)
theorem F8i:WDE P N (.drw n d) n d L:=λh=>IW.kp L (E5d h)
theorem mkC:WC P N (.seq (.cond o x z) y) o x z y L:=λh=>IW.kp L (E2i h)
theorem F8j:WCE P N (.cond o x z) o x z L:=λh=>IW.kp L (D7c h)
theorem mkB:WB P N (.seq (.blk i x) y) i x y L:=λh=>IW.kp L (D7a (E5e h))
theorem F8k:WBE P N (.blk i x) i x L:=λh=>IW.kp L (E5e h)
theorem mkQ:WQ P N (.seq x y) x y L:=λh=>IW.kp L (D7a h)
end
def dpK(P:Program)(R:St->Prop)(io:List IOper)(c0:Nat)(r:List (Nat × Option (List Nat)))(T:Tm)(H:Hp)(c:Nat)(dst:Option Nat):Option DV->Prop
 |some v=>dwp P R io c0 r ⟨J3 T dst v,H,c⟩
 |none=>False
def dnK(P:Program)(R:St->Prop)(io:List IOper)(c0 i:Nat)(r:List (Nat × Option (List Nat)))(T:Tm)(H:Hp)(c:Nat)(dst:Option Nat):Option (Option Nat × Blk)->Prop
 |some (k,b)=>dwp P R io c0 r ⟨J3 T dst (mkv (c0+i) k),H.upd (c0+i) b,c⟩
 |none=>False
def dgK(P:Program)(R:St->Prop)(io:List IOper)(c0 i:Nat)(r:List (Nat × Option (List Nat)))(T:Tm)(H:Hp)(c:Nat)(dst:Option Nat)(op:IOp):Option Bool->Prop
 |some true=>match op with
  |.pur f=>dpK P R io c0 r T H c dst (fev H (ev T) f)
  |.new f=>dnK P R io c0 i r T H c dst (aev (ev T) f)
  |.eff (.lkp kd z ok m k)=>dpK P R io c0 r T H c dst (lkR kd (inj z) ok (ev T k) (U2 H kd (ev T m)))
  |_=>False
 |some false=>dwp P R io c0 r ⟨J3 T dst (.tup []),H,c⟩
 |none=>False
def dfK(P:Program)(R:St->Prop)(io:List IOper)(c0 i:Nat)(r:List (Nat × Option (List Nat)))(T:Tm)(H:Hp)(c:Nat):Option IOper->Prop
 |some o=>dgK P R io c0 i r T H c o.dst o.op (X2 T o.guard)
 |none=>False
def dk(P:Program)(R:St->Prop)(io:List IOper)(c0:Nat)(r:List (Nat × Option (List Nat)))(T:Tm)(H:Hp)(dst:Option Nat)(pend:List Nat)(v:DV)(H':Hp)(c':Nat):Prop :=
 A1g io c0 ⟨J3 T dst v,O9 ((pend.filter (isNew io)).map (c0 + ·)) H H',c'⟩ pend/\dwp P R io c0 r ⟨J3 T dst v,O9 ((pend.filter (isNew io)).map (c0 + ·)) H H',c'⟩
def deK(P:Program)(R:St->Prop)(io:List IOper)(c0:Nat)(r:List (Nat × Option (List Nat)))(T:Tm)(H:Hp)(c:Nat)(pend:List Nat):Option IOper->Prop
 |some o=>C2p P ⟨T,K3 H ((pend.filter (isNew io)).map (c0 + ·)),c⟩ o (dk P R io c0 r T H o.dst pend)
 |none=>False
section
variable {i:Nat} {r:List (Nat × Option (List Nat))} {pend:List Nat} {op:IOp}
theorem F6k:dwp P R io c0 [] s=R s:=propext Iff.rfl
theorem F1i:dwp P R io c0 ((i,none)::r) ⟨T,H,c⟩=dfK P R io c0 i r T H c io[i]? := by
 simp only[dwp];cases io[i]? with
 |none=>rfl
 |some o =>
  obtain⟨d,op,g⟩:=o;simp only[dfK,A4x];cases X2 T g with
  |none=>rfl
  |some b =>
   cases b with
   |false=>rfl
   |true =>
    cases op with
    |pur f=>simp only[dgK,dpK];cases fev H (ev T) f<;>rfl
    |new f=>simp only[dgK,dnK];cases aev (ev T) f<;>rfl
    |eff f =>
     cases f with
     |lkp kd z ok m k=>simp only[dgK,dpK];cases lkR kd (inj z) ok (ev T k) (U2 H kd (ev T m))<;>rfl
     |_=>rfl
    |_=>rfl
theorem G0n{o:IOper}:dfK P R io c0 i r T H c (some o)=dgK P R io c0 i r T H c o.dst o.op (X2 T o.guard):=propext Iff.rfl
theorem G0j{f:FOp}:dgK P R io c0 i r T H c dst (.pur f) (some true)=dpK P R io c0 r T H c dst (fev H (ev T) f):=propext Iff.rfl
theorem G0l{kd:Go.Eng.KKey}{z:Value}{ok:Bool}{m k:Opd}:dgK P R io c0 i r T H c dst (.eff (.lkp kd z ok m k)) (some true)=dpK P R io c0 r T H c dst (lkR kd (inj z) ok (ev T k) (U2 H kd (ev T m))):=propext Iff.rfl
theorem G0k{f:AOp}:dgK P R io c0 i r T H c dst (.new f) (some true)=dnK P R io c0 i r T H c dst (aev (ev T) f):=propext Iff.rfl
theorem G0m:dgK P R io c0 i r T H c dst op (some false)=dwp P R io c0 r ⟨J3 T dst (.tup []),H,c⟩:=propext Iff.rfl
theorem G0h:dpK P R io c0 r T H c dst (some v)=dwp P R io c0 r ⟨J3 T dst v,H,c⟩:=propext Iff.rfl
theorem G0i{k:Option Nat}{b:Blk}:dnK P R io c0 i r T H c dst (some (k,b))=dwp P R io c0 r ⟨J3 T dst (mkv (c0+i) k),H.upd (c0+i) b,c⟩:=propext Iff.rfl
theorem F6l:dwp P R io c0 ((i,some pend)::r) ⟨T,H,c⟩=deK P R io c0 r T H c pend io[i]? := by
 rfl
theorem G0o{o:IOper}:deK P R io c0 r T H c pend (some o)=C2p P ⟨T,K3 H ((pend.filter (isNew io)).map (c0 + ·)),c⟩ o (dk P R io c0 r T H o.dst pend):=propext Iff.rfl
theorem D0d:X2 T none=some true:=id rfl
theorem D0c{t:Nat}{b:Bool}:X2 T (some (t,b))=B5y (T t) b:=id rfl
def egK(P:Program)(T:Tm)(H:Hp)(c:Nat)(op:IOp)(K:DV->Hp->Nat->Prop):Option Bool->Prop
 |some true=>V0 P ⟨T,H,c⟩ K op
 |some false=>K (.tup []) H c
 |none=>False
def opK(H:Hp)(c:Nat)(K:DV->Hp->Nat->Prop):Option DV->Prop
 |some v=>K v H c
 |none=>False
def oeK(K:DV->Hp->Nat->Prop):Option (DV × Hp × Nat)->Prop
 |some (v,H',c')=>K v H' c'
 |none=>False
def ovK(P:Program)(H:Hp)(c:Nat)(K:DV->Hp->Nat->Prop)(args:List DV):DV->Prop
 |.func f a cs=>AC P f (a++args++cs) H c K
 |_=>False
variable {K:DV->Hp->Nat->Prop}
theorem F2j{o:IOper}:C2p P ⟨T,H,c⟩ o K=egK P T H c o.op K (X2 T o.guard):=by
 rfl
theorem x_t:egK P T H c op K (some true)=V0 P ⟨T,H,c⟩ K op:=propext Iff.rfl
theorem x_f:egK P T H c op K (some false)=K (.tup []) H c:=propext Iff.rfl
theorem F2i{f:FOp}:V0 P ⟨T,H,c⟩ K (.pur f)=opK H c K (fev H (ev T) f):=by
 rfl
theorem x_e{f:EOp}:V0 P ⟨T,H,c⟩ K (.eff f)=oeK K (eev H c (ev T) f):=by
 rfl
theorem E6a{f:Nat}{as:List Opd}:V0 P ⟨T,H,c⟩ K (.call f as)=AC P f (as.map (ev T)) H c K:=propext Iff.rfl
theorem F2k{o:Opd}{as:List Opd}:V0 P ⟨T,H,c⟩ K (.callv o as)=ovK P H c K (as.map (ev T)) (ev T o):=by
 rfl
theorem F2l{f:Nat}{a cs args:List DV}:ovK P H c K args (.func f a cs)=AC P f (a++args++cs) H c K:=propext Iff.rfl
theorem F7f:opK H c K (some v)=K v H c:=propext Iff.rfl
theorem F7g{H':Hp}{c':Nat}:oeK K (some (v,H',c'))=K v H' c':=propext Iff.rfl
theorem F7h{H':Hp}{c':Nat}:dk P R io c0 r T H dst pend v H' c'=(A1g io c0 ⟨J3 T dst v,O9 ((pend.filter (isNew io)).map (c0 + ·)) H H',c'⟩ pend/\dwp P R io c0 r ⟨J3 T dst v,O9 ((pend.filter (isNew io)).map (c0 + ·)) H H',c'⟩):=propext Iff.rfl
theorem C1w:K3 H []=H:=by rfl
theorem D1f{H':Hp}:O9 [] H H'=H':=by rfl
theorem E2k{ks:List Nat}:O9 ks H (K3 H ks)=H:=by
 funext j;simp only[O9,K3];grind
def agK(c0 j:Nat)(T:Tm)(H:Hp)(dst:Option Nat)(op:IOp):Option Bool->Prop
 |some true=>match op with
  |.pur f=>match fev H (ev T) f with
   |some v=>(∀d,dst=some d->T d=v)/\H (c0+j)=none
   |none=>False
  |.new f=>match aev (ev T) f with
   |some (k,b)=>(∀d,dst=some d->T d=mkv (c0+j) k)/\H (c0+j)=some b
   |none=>False
  |.eff (.lkp kd z ok m k)=>match lkR kd (inj z) ok (ev T k) (U2 H kd (ev T m)) with
   |some v=>(∀d,dst=some d->T d=v)/\H (c0+j)=none
   |none=>False
  |_=>False
 |some false=>(∀d,dst=some d->T d=.tup [])/\H (c0+j)=none
 |none=>False
def agO(c0 j:Nat)(T:Tm)(H:Hp):Option IOper->Prop
 |some o=>agK c0 j T H o.dst o.op (X2 T o.guard)
 |none=>False
theorem F1w:A1g io c0 s []=True:=id rfl
theorem E4a{j:Nat}{l:List Nat}:A1g io c0 ⟨T,H,c⟩ (j::l)=(agO c0 j T H io[j]? /\ A1g io c0 ⟨T,H,c⟩ l):=by
 simp only[A1g,A5x]
 congr 1
 cases io[j]? with
 |none=>rfl
 |some o =>
  obtain⟨d,op,g⟩:=o;simp only[agO,agK,A4x]
  grind
theorem G0s{j:Nat}{o:IOper}:agO c0 j T H (some o)=agK c0 j T H o.dst o.op (X2 T o.guard):=propext Iff.rfl
def apK(T:Tm)(d:Nat)(hn:Prop):Option DV->Prop
 |some v=>T d=v/\hn
 |none=>False
theorem G0t{j d:Nat}{f:FOp}:agK c0 j T H (some d) (.pur f) (some true)=apK T d (H (c0+j)=none) (fev H (ev T) f):=by
 simp only[agK,apK];simp
theorem G0u{j d:Nat}{kd:Go.Eng.KKey}{z:Value}{ok:Bool}{m k:Opd}:agK c0 j T H (some d) (.eff (.lkp kd z ok m k)) (some true)=apK T d (H (c0+j)=none) (lkR kd (inj z) ok (ev T k) (U2 H kd (ev T m))):=by
 simp only[agK,apK];simp
theorem G0v{j d:Nat}:agK c0 j T H (some d) op (some false)=(T d=.tup []/\H (c0+j)=none):=by
 apply propext;simp only[agK];simp
theorem F6y{d:Nat}{hn:Prop}:apK T d hn (some v)=(T d=v/\hn):=propext Iff.rfl
theorem G0z{j d:Nat}{f:AOp}:agK c0 j T H (some d) (.new f) (some true) = ∃k b,aev (ev T) f=some (k,b)/\T d=mkv (c0+j) k/\H (c0+j)=some b:=by
 apply propext;simp only[agK]
 grind
end
theorem PC.lend{f:Nat}{args args':List DV}{r:DV}{H0:Hp}(h:PC P f args' r)(hr:r.flat=true)(g:GL H args H0 args'):AC P f args H c (λv H' c'=>v=r/\H'=H/\c'=c) :=
 AC.lend g h.ac h.na (λv e=>by grind)
theorem GL.one{id:Nat}{b:Blk}{ds ds':List DV}(hb:H id=some b)(ho:b.own=true)(hd:FzL id b ds ds'):GL H ds nil ds' :=
 GL.frz hb ho (λj=>.inl rfl) hd
theorem C5c{z:List DV}:Y5 z 0=[]:=id rfl
theorem C5d{z:List DV}{n:Nat}:Y5 z (n+1)=z++Y5 z n:=by rfl
attribute [go_sem] F5b F4z F5c F3z F8l m_b l_s l_i E1z D6u l_e E9g F8f F8g E1l
attribute [go_sem] E9r E2a F8u F8v F8o F8n F8p F9h F9g F9i F8s F8r F8q F8t F8w F4c F4b F4d F4h E9v F4i F4j E9t E2e E2f F9j F4g F9a F9b E9s F8m F9d F9e F8y F8x F8z E9q E1y E6i E6k E6j F7o E6z F7p A0 h_ne A6j I7 F4r e_t e_k e_f a_0 a_1 a_2 a_3 a_4 a_5 F0a F4l F4k E9z E9x F4m E2h E9y E9w E2g F9z F0p G0b F5t F5r F0r F5q F5s F5u F5n F5z F5v F9x F5x F0s F5m F5l F5o F5y F5p F0q G0a F9y F5e F5d F5a F9m F5f F0n F7u F7v F7z F6x F6w E8g E8e E8h E8i C4i F3t D5d B0e E8b F8d E8f F3h E7x F3b F2z F3j E7z E7y E8a E7u F7y F7x E7t F3i F3a F3d F3e F3f F3g F3o F2x F3c F3n F7w D5c E7w E7s m_p m_s F3k F7t B2a F3l F3m X9 E7r F6v D5g E3q D9h A4y C4b C5c C5d F6k F1i G0n G0j G0l G0k G0m G0h G0i F6l G0o D0d D0c F2j x_t x_f F2i x_e E6a F2k F2l F7f F7g F7h C1w D1f E2k F1w E4a G0s G0t G0u G0v F6y List.filter_cons Eng.isNew A1M A0P List.map_nil A2Z A2N A1Z A3O Option.map_none List.drop_succ_cons A3V A0Y A1J A0C A0M A0N List.cons_append List.nil_append A1D List.set_cons_zero A4S A3X List.replicate_zero A1K A3L List.filter_nil C1w DV.cells DV.one A2Q List.all_nil A3I A2D Bool.and_self Bool.false_and A3W not_false_eq_true and_self and_true true_and beq_self_eq_true bne_self_eq_false Bool.true_beq Bool.false_beq Bool.not_true Bool.not_false A1U A0E A1F A3C Nat.zero_mul Nat.one_mul Nat.mul_one
end Go.Sym
namespace Go.Sym
variable [Go.Sym.Tab]
open Go.Eng (Opd FOp AOp EOp IOp IOper DReg IC RV IFn trC B1q P0 K4 isNew)
variable {P:Program} {N:Nat} {Q:Exit->St->Prop} {R:St->Prop} {s:St} {x y z:IC} {os io:List IOper} {T:Tm} {H:Hp} {c c0:Nat} {dst:Option Nat} {v:DV}
theorem GL.view{ds ds':List DV}(h:∀(ρ:Ren) (vs:Array Value),I3 ρ ds vs->I3 ρ ds' vs):GL H ds H ds' :=
 ⟨λ_ h=>h,fun ρ w vs h1 h2=>⟨ρ,rfl,h1,h ρ vs h2,Ext.refl _ _ _⟩⟩
theorem P8{ρ:Ren}{d d':DV}(h:∀v,VRel ρ d v->VRel ρ d' v)(vs:Array Value)(hA:I3 ρ [d] vs):I3 ρ [d'] vs :=
 ⟨hA.1,λi x y hx hy=>by
  cases i with
  |zero=>cases hx;exact h y (hA.2 0 d y rfl hy)
  |succ i=>grind⟩
theorem VRel.snil_lst{ρ:Ren}{v:Value}(h:VRel ρ .snil v):VRel ρ (.lst []) v:=by cases h;exact .lnil0
theorem VRel.tup2{ρ:Ren}{a a' b:DV}{v:Value}(ha:∀v,VRel ρ a v->VRel ρ a' v)(h:VRel ρ (.tup [a,b]) v):VRel ρ (.tup [a',b]) v:=by
 obtain⟨vs,rfl,hA⟩:=h.tup_inv;refine .mkTup ⟨hA.1,λi x y hx hy=>?_⟩
 match i with
 |0=>cases hx;exact ha y (hA.2 0 a y rfl hy)
 |1=>cases hx;exact hA.2 1 b y rfl hy
 |_+2=>grind
theorem C7y:∃H2,GL H [.snil] H2 [.lst []]:=⟨H,GL.view fun ρ vs h=>P8 (λv h=>h.snil_lst) vs h⟩
theorem O3{b:DV}:∃H2,GL H [.tup [.snil,b]] H2 [.tup [.lst [],b]]:=⟨H,GL.view fun ρ vs h=>P8 (λv h=>h.tup2 λv h=>h.snil_lst) vs h⟩
theorem U3{id n u:Nat}{xs:List DV}{blk:Blk}(hl:xs.length=n)(hu:∀x∈xs,x.cells.length=u)(hc:∃r,blk.cells=cellsL xs++r):Fz id blk (.slc id 0 n) (.lst xs):=by
 obtain⟨r,hr⟩:=hc;have hcl:=C3 hu;refine .slc 0 n u xs hl hu ?_ ?_
 ·rw[hr,A0A,hcl,hl];omega
 grind
theorem U1{id n u:Nat}{xs:List DV}{blk:Blk}(hb:H id=some blk)(ho:blk.own=true)(hl:xs.length=n)(hu:∀x∈xs,x.cells.length=u)(hc:∃r,blk.cells=cellsL xs++r):
  ∃H2,GL H [.slc id 0 n] H2 [.lst xs]:=⟨nil,GL.one hb ho (.cons _ _ _ _ (U3 hl hu hc) .nil)⟩
theorem E0x{id n u:Nat}{xs:List DV}{blk:Blk}{b:DV}(hb:H id=some blk)(ho:blk.own=true)(hl:xs.length=n)(hu:∀x∈xs,x.cells.length=u)(hc:∃r,blk.cells=cellsL xs++r):
  ∃H2,GL H [.tup [.slc id 0 n,b]] H2 [.tup [.lst xs,b]] :=
 ⟨nil,GL.one hb ho (.cons _ _ _ _ (.tup _ _ (.cons _ _ _ _ (U3 hl hu hc) (.cons _ _ _ _ (.same _) .nil))) .nil)⟩
theorem A2x{α:Type}{f : α->DV}(h:∀a,(f a).cells=[f a]):∀(l:List α),cellsL (l.map f)=l.map f
 |[]=>rfl
 |a::l=>by
  have:=A2x h l;simp only[cellsL,A0P,A2B,h a,List.cons_append,List.nil_append]at this ⊢
  grind
theorem C4(a b:List DV):cellsL (a++b)=cellsL a++cellsL b:=by simp[cellsL]
theorem B2q{α:Type}{f : α->DV}{l:List α}{n:Nat}{a : α}(h:n<l.length):(l.map f).take n++[f a]++(l.map f).drop (n+1)=(l.set n a).map f:=by
 rw[List.set_eq_take_append_cons_drop,if_pos h];simp
theorem C7m{id off l n sz:Nat}{k:IntKind}(h:n<l):A9b sz (.slc id off l) (.int k (n:Int))=some (.ptr id (off+n*sz)):=by
 rw[D5d (A2H n) (by omega),A1U]
theorem E7v{id off l h sz:Nat}{k:IntKind}(hh:h<=l):A7j H sz (.slc id off l) none (some (.int k (h:Int)))=some (.slc id off h):=by
 simp only[A7j,boundOf,A2H,if_true,A1U,hh,A0Q,and_self]
theorem E4r{sz bytes n:Nat}{z:List DV}{k k':IntKind}(h1:bytes*n<=281474976710656)(h2:n<=9223372036854775807)(h3:z.all DV.one=true)(h4:z.length=sz):
  D6i sz bytes z (.int k (n:Int)) (.int k' (n:Int))=some (some n,⟨sz,true,Y5 z n⟩):=by
 simp only[D6i]
 grind
theorem B6s(a:DV)(n:Nat):Y5 [a] n=List.replicate n a:=by
 induction n with
 |zero=>rfl
 |succ n ih=>simp only[Y5,A3X,A1K,List.cons_append,List.nil_append]at ih ⊢;simp
section
variable {id sz bytes l w:Nat} {cs cs' a j:List DV}
theorem Z6(h0:cs'.length=l*sz)(h2:(l+w)*bytes<=140737488355328)(h3:l+w<=9223372036854775807):
  apB H c id sz bytes l w cs (some ⟨sz,true,cs'⟩)=some (.slc c 0 (l+w),(H.del id).upd c ⟨sz,true,cs'++cs⟩,c+1):=by
 rw[E5t (by omega) h2 (by assumption),A0J (by omega)]
theorem A0l(h:¬l=0)(h1:l*bytes<=140737488355328)(h2:l<=9223372036854775807):A9p H c sz bytes .snil l cs=some (.slc c 0 l,H.upd c ⟨sz,true,cs⟩,c+1) :=
 E8j h h1 (by assumption)
end
def todoV:Option Nat->Nat->DV
 |none,_=>.snil
 |some id,n=>.slc id 0 n
def optH(H:Hp):Option Nat->Blk->Hp
 |none,_=>H
 |some id,b=>H.upd id b
theorem B7w{n:Nat}:todoV none n=.snil:=id rfl
theorem A9y{i n:Nat}:todoV (some i) n=.slc i 0 n:=id rfl
theorem F3s{b:Blk}:optH H none b=H:=id rfl
theorem F3r{i:Nat}{b:Blk}:optH H (some i) b=H.upd i b:=id rfl
attribute [go_sem] C7m E7v B7w A9y F3s F3r
end Go.Sym
namespace Go.Sym
open Go.Eng (Opd FOp IOp IOper DReg)
abbrev oR(d:Nat)(e:FOp)(g:Nat):IOper:=⟨some d,.pur e,some (g,false)⟩
section
variable (d a b k g:Nat) (o:BinOp)
abbrev oP(e:FOp):IOper:=⟨some d,.pur e,none⟩
abbrev oM:IOper:=⟨some d,.pur (.mv (.t a)),none⟩
abbrev oL:IOper:=⟨some d,.pur (.ld 1 false (.t a)),none⟩
abbrev oF:IOper:=⟨some d,.pur (.fad k (.t a)),none⟩
abbrev oB:IOper:=⟨some d,.pur (.bin o (.t a) (.t b)),none⟩
abbrev oK(n:Int):IOper:=⟨some d,.pur (.bin o (.t a) (.k (.int .i64 n))),none⟩
abbrev oI(n:Int):IOper:=⟨some d,.pur (.mv (.k (.int .i64 n))),none⟩
abbrev oH:IOper:=⟨some d,.pur (.len (.t a)),none⟩
abbrev oA:IOper:=⟨some d,.pur (.iad k (.t a) (.t b)),none⟩
abbrev oD:IOper:=⟨some d,.pur (.ld k true (.t a)),none⟩
abbrev oC(l:List Opd):IOper:=⟨some d,.call k l,none⟩
abbrev oS:IOper:=⟨none,.eff (.st k (.t a) (.t b)),none⟩
abbrev oX:IOper:=⟨some d,.new (.box (.t a)),none⟩
abbrev oW(v:Value):IOper:=⟨some d,.new (.box (.k v)),none⟩
abbrev oV(v:Value):IOper:=⟨some d,.pur (.mv (.k v)),none⟩
abbrev oJ:IOper:=⟨some d,.pur (.pick (.t a) (.t b) (.k (.bool false))),none⟩
abbrev oO:IOper:=⟨some d,.pur (.pick (.t a) (.k (.bool true)) (.t b)),none⟩
abbrev gL:IOper:=⟨some d,.pur (.ld 1 false (.t a)),some (g,true)⟩
abbrev gF:IOper:=⟨some d,.pur (.fad k (.t a)),some (g,true)⟩
abbrev hM:IOper:=⟨some d,.pur (.mv (.t a)),some (g,false)⟩
abbrev hL:IOper:=⟨some d,.pur (.ld 1 false (.t a)),some (g,false)⟩
abbrev hF:IOper:=⟨some d,.pur (.fad k (.t a)),some (g,false)⟩
end
def B5l(e:Nat):Nat->List IOper->List (Nat × Option (List Nat))
 |_,[]=>[]
 |k,⟨_,.pur _,_⟩::r=>(k,match e.testBit k with|true=>some []|false=>none)::B5l e (k+1) r
 |k,_::r=>(k,some [])::B5l e (k+1) r
abbrev dQ(r:List IOper)(e:Nat):DReg:=⟨r,[],B5l e 0 r⟩
end Go.Sym
namespace Go.Sym
variable [Go.Sym.Tab]
open Go.Eng (Opd IOper DReg IC)
abbrev Rl:Type:=Program->Nat->(Exit->St->Prop)->Tm->Hp->Nat->Prop
def rS(r:List IOper)(y:IC)(L:List Nat):Rl:=λP N Q T H c=>rwp P (nx P N y Q) r ⟨tm (kp L T),H,c⟩
def rE(r:List IOper)(L:List Nat):Rl:=λP N Q T H c=>rwp P (no Q) r ⟨tm (kp L T),H,c⟩
def rP(r:List IOper)(y:IC)(n:Nat)(L:List Nat):Rl:=λP N Q T H c=>rwp P (nx P N y Q) r ⟨tm (kp L T),H,c+n⟩
def rPE(r:List IOper)(n:Nat)(L:List Nat):Rl:=λP N Q T H c=>rwp P (no Q) r ⟨tm (kp L T),H,c+n⟩
def rD(r:List IOper)(p:List (Nat × Option (List Nat)))(y:IC)(n:Nat)(L:List Nat):Rl:=λP N Q T H c=>dwp P (nx P N y Q) r c p ⟨tm (kp L T),H,c+n⟩
def rDE(r:List IOper)(p:List (Nat × Option (List Nat)))(n:Nat)(L:List Nat):Rl:=λP N Q T H c=>dwp P (no Q) r c p ⟨tm (kp L T),H,c+n⟩
def rC(o:Opd)(x z y:IC)(L:List Nat):Rl:=λP N Q T H c=>B1x P N x z ⟨tm (kp L T),H,c⟩ (sq P N y Q) (ev (tm (kp L T)) o)
def rCE(o:Opd)(x z:IC)(L:List Nat):Rl:=λP N Q T H c=>B1x P N x z ⟨tm (kp L T),H,c⟩ Q (ev (tm (kp L T)) o)
def rB(i:Nat)(x y:IC)(L:List Nat):Rl:=λP N Q T H c=>IW P N x ⟨tm (kp L T),H,c⟩ (bk i (sq P N y Q))
def rBE(i:Nat)(x:IC)(L:List Nat):Rl:=λP N Q T H c=>IW P N x ⟨tm (kp L T),H,c⟩ (bk i Q)
def rQ(x y:IC)(L:List Nat):Rl:=λP N Q T H c=>IW P N x ⟨tm (kp L T),H,c⟩ (sq P N y Q)
def rT(e:Exit):Rl:=λP N Q T H c=>Q e ⟨T,H,c⟩
class WR (P:Program) (N:Nat) (u:IC) (r:outParam Rl):Prop where
 out:∀ {Q:Exit->St->Prop} {T:Tm} {H:Hp} {c:Nat},r P N Q T H c->IW P N u ⟨T,H,c⟩ Q
theorem A2g(e:Nat):∀(r:List IOper) (k:Nat),asc k (B5l e k r) r=true
 |[],k=>by rfl
 |⟨_,.pur _,_⟩::r,k=>by
  unfold B5l;cases e.testBit k<;>simp[asc,A2g e r (k+1)]
 |⟨_,.new _,_⟩::r,k=>y6
 |⟨_,.eff _,_⟩::r,k=>y6
 |⟨_,.call _ _,_⟩::r,k=>y6
 |⟨_,.callv _ _,_⟩::r,k=>y6
section
variable {P:Program} {N:Nat} {u x y z:IC} {Q:Exit->St->Prop} {T:Tm} {H:Hp} {c n i:Nat} {r:List IOper} {p:List (Nat × Option (List Nat))} {L:List Nat} {o:Opd} {e:Nat}
theorem wr{w:Rl}[k:WR P N u w](h:w P N Q T H c):IW P N u ⟨T,H,c⟩ Q:=k.out h
theorem e_S:rS r y L P N Q T H c=rwp P (nx P N y Q) r ⟨tm (kp L T),H,c⟩:=propext Iff.rfl
theorem e_E:rE r L P N Q T H c=rwp P (no Q) r ⟨tm (kp L T),H,c⟩:=propext Iff.rfl
theorem e_P:rP r y n L P N Q T H c=rwp P (nx P N y Q) r ⟨tm (kp L T),H,c+n⟩:=propext Iff.rfl
theorem G0d:rPE r n L P N Q T H c=rwp P (no Q) r ⟨tm (kp L T),H,c+n⟩:=propext Iff.rfl
theorem e_D:rD r p y n L P N Q T H c=dwp P (nx P N y Q) r c p ⟨tm (kp L T),H,c+n⟩:=propext Iff.rfl
theorem G0e:rDE r p n L P N Q T H c=dwp P (no Q) r c p ⟨tm (kp L T),H,c+n⟩:=propext Iff.rfl
theorem e_C:rC o x z y L P N Q T H c=B1x P N x z ⟨tm (kp L T),H,c⟩ (sq P N y Q) (ev (tm (kp L T)) o):=propext Iff.rfl
theorem G0f:rCE o x z L P N Q T H c=B1x P N x z ⟨tm (kp L T),H,c⟩ Q (ev (tm (kp L T)) o):=propext Iff.rfl
theorem e_B:rB i x y L P N Q T H c=IW P N x ⟨tm (kp L T),H,c⟩ (bk i (sq P N y Q)):=propext Iff.rfl
theorem G0g:rBE i x L P N Q T H c=IW P N x ⟨tm (kp L T),H,c⟩ (bk i Q):=propext Iff.rfl
theorem e_Q:rQ x y L P N Q T H c=IW P N x ⟨tm (kp L T),H,c⟩ (sq P N y Q):=propext Iff.rfl
theorem e_T{e:Exit}:rT e P N Q T H c=Q e ⟨T,H,c⟩:=propext Iff.rfl
theorem cpc{f:Nat}{args:List DV}{v:DV}{K:DV->Hp->Nat->Prop}(h:PC P f args v)(k:K v H c):AC P f args H c K:=(h.at H c).mono (by grind)
theorem ca3{f:Nat}{args:List DV}{r:DV}{X:Hp}{y:Nat}{K:DV->Hp->Nat->Prop}(h:AC P f args H c (λv H2 c2=>v=r/\H2=X/\c2=y))(k:K r X y):AC P f args H c K:=h.mono (by rintro _ _ _ ⟨rfl,rfl,rfl⟩;exact k)
instance wRet:WR P N .ret (rT .ret):=⟨λh=>F4o h⟩
instance wSkip:WR P N .skip (rT .normal):=⟨λh=>F0d h⟩
instance wExit:WR P N (.exit i) (rT (.exit i)):=⟨λh=>F0e h⟩
theorem E8d{sz:Nat}{xs:List DV}{k:IntKind}:A9b sz (.lst xs) (.int k 0)=D1n sz xs[0]? := C4i (l:=0)
class W2 (G:Prop) (b:outParam Bool) (A B:outParam Prop):Prop where
 out:(b=true->A)->(b=false->B)->G
theorem wb2{G A B:Prop}{b:Bool}[k:W2 G b A B](h1:b=true->A)(h2:b=false->B):G:=k.out h1 h2
instance w2C {s:St} {b:Bool}:W2 (B1x P N x y s Q (.bool b)) b (IW P N x s Q) (IW P N y s Q):=⟨λh1 h2=>F9f h1 h2⟩
instance w2G {R:St->Prop} {dst:Option Nat} {op:Go.Eng.IOp} {os:List IOper} {b d:Bool}:W2 (B8t P R dst op os T H c (some (b==d))) b (B8t P R dst op os T H c (some (true==d))) (B8t P R dst op os T H c (some (false==d))):=⟨λh1 h2=>F9c h1 h2⟩
end
theorem A1z(a b:Nat)(h0:¬a=b):¬a=b/\¬b=a:=⟨h0,λe=>h0 e.symm⟩
theorem W9(a b c:Nat)(h:¬a=b/\¬a=c/\¬b=c):¬a=b/\¬a=c/\¬b=a/\¬b=c/\¬c=a/\¬c=b:=by
 omega
theorem V8(a b c d:Nat)(h:¬a=b/\¬a=c/\¬a=d/\¬b=c/\¬b=d/\¬c=d):¬a=b/\¬a=c/\¬a=d/\¬b=a/\¬b=c/\¬b=d/\¬c=a/\¬c=b/\¬c=d/\¬d=a/\¬d=b/\¬d=c:=by
 omega
theorem A1y(a b c d e:Nat)(h:¬a=b/\¬a=c/\¬a=d/\¬a=e/\¬b=c/\¬b=d/\¬b=e/\¬c=d/\¬c=e/\¬d=e):¬a=b/\¬a=c/\¬a=d/\¬a=e/\¬b=a/\¬b=c/\¬b=d/\¬b=e/\¬c=a/\¬c=b/\¬c=d/\¬c=e/\¬d=a/\¬d=b/\¬d=c/\¬d=e/\¬e=a/\¬e=b/\¬e=c/\¬e=d:=by
 omega
theorem A7s(a b c d e f:Nat)(h:¬a=b/\¬a=c/\¬a=d/\¬a=e/\¬a=f/\¬b=c/\¬b=d/\¬b=e/\¬b=f/\¬c=d/\¬c=e/\¬c=f/\¬d=e/\¬d=f/\¬e=f):¬a=b/\¬a=c/\¬a=d/\¬a=e/\¬a=f/\¬b=a/\¬b=c/\¬b=d/\¬b=e/\¬b=f/\¬c=a/\¬c=b/\¬c=d/\¬c=e/\¬c=f/\¬d=a/\¬d=b/\¬d=c/\¬d=e/\¬d=f/\¬e=a/\¬e=b/\¬e=c/\¬e=d/\¬e=f/\¬f=a/\¬f=b/\¬f=c/\¬f=d/\¬f=e:=by
 grind
theorem E9f(a b c d e f g:Nat)(h:¬a=b/\¬a=c/\¬a=d/\¬a=e/\¬a=f/\¬a=g/\¬b=c/\¬b=d/\¬b=e/\¬b=f/\¬b=g/\¬c=d/\¬c=e/\¬c=f/\¬c=g/\¬d=e/\¬d=f/\¬d=g/\¬e=f/\¬e=g/\¬f=g):¬a=b/\¬a=c/\¬a=d/\¬a=e/\¬a=f/\¬a=g/\¬b=a/\¬b=c/\¬b=d/\¬b=e/\¬b=f/\¬b=g/\¬c=a/\¬c=b/\¬c=d/\¬c=e/\¬c=f/\¬c=g/\¬d=a/\¬d=b/\¬d=c/\¬d=e/\¬d=f/\¬d=g/\¬e=a/\¬e=b/\¬e=c/\¬e=d/\¬e=f/\¬e=g/\¬f=a/\¬f=b/\¬f=c/\¬f=d/\¬f=e/\¬f=g/\¬g=a/\¬g=b/\¬g=c/\¬g=d/\¬g=e/\¬g=f:=by
 grind
attribute [go_sem] e_T E8d decide_true decide_false
attribute [go_sem] e_S e_E e_P G0d e_D G0e e_C G0f e_B G0g e_Q
end Go.Sym
namespace Go.Eng
open Go.RowKit Go.WideShapes Go.ChangeShapes
section
variable {H:Type} {enc:TypeId × Value->H} {P:Program}
theorem post_of_below{f:Func}{s:ChangeSpec}{apart fresh handsOn again:Bool}{W W':World}{args:Array Value}{v:Value}{ds gs:List (DataW H)}{before pa pv:List MemPlace}
  (hW:DataW.Whole enc P f.params.toList s.vars apart W args.toList ds gs before)
  (hres:∀(b:Nat) (sp:Nat->Bool) (hd:Bool),DataW.TrodAll enc P W' b sp hd f.resultTypes.toList (v.resultList f.resultTypes.size) (s.fn H (ds++gs)).results [])
  (hargs:∀sp:Nat->Bool,(∀p∈before,sp p.block=true)->DataW.TrodAll enc P W' 0 sp true f.params.toList args.toList (s.fn H (ds++gs)).args pa)
  (hvars:∀sp:Nat->Bool,(∀p∈before,sp p.block=true)->DataW.TrodVars enc P W' sp s.vars (s.fn H (ds++gs)).vars pv)
  (hps:before=pa++pv) (hb:Below W.heap.size W W')
  (hok:∀(j:Nat) (t:TypeId) (r:Value),f.resultTypes[j]? = some t->(v.resultList f.resultTypes.size)[j]? = some r->Value.okWide P W' .any 0 t r) :
  s.post enc P f apart fresh handsOn again W args v W':=by
 have hlt:∀p∈before,p.block<W.heap.size:=λp hp=>hW.lt p hp;have O8:∀p∈before,(λb=>decide (b<W.heap.size)) p.block=true:=λp hp=>j8
 refine⟨ds,gs,before,[],pa,pv,hW,hres _ _ _,hargs _ O8,hvars _ O8,World.keptBut_mono (λp hp=>⟨hp,?_⟩) (hb.frame (· ∈ before)),λ_=>?_⟩
 ·grind
 ·obtain⟨_,_,_,_,_,hz,hn⟩:=hW;refine⟨hok,_,_,([]++pa)++pv,⟨[]++pa,pv,trodAll_append (hargs _ (λ_ _=>rfl)) (hres _ _ _),hvars _ (λ_ _=>rfl),rfl,?_,?_⟩,?_⟩
  ·intro b off hp;have hin:MemPlace.cell b off∈before:=by rw[hps];simpa using hp
   rw[hb.frozen (hlt _ hin)];exact hz b off hin
  ·intro ha;have:=hn ha;rw[hps]at this;simpa using this
  grind
end
end Go.Eng
namespace Go.Sym
variable [Go.Sym.Tab]
open Go.Eng (Opd FOp AOp EOp IOp IOper DReg IC RV IFn trC B1q P0 K4 isNew)
open Go.RowKit
variable {P:Program}
def B9x(w:World):Nat->Option (Array Value):=λb=>match w.heap[b]? with
 |some (.cells r _ _)=>some r
 |_=>none
def TabOk(w:World):Prop:=∀p∈Tab.tab, ∃r,B9x w p.1=some r/\p.2 r
def topR(w:World)(hT:TabOk w):Ren:=⟨λ_=>none,B9x w,hT,λ_=>none⟩
theorem C3w{w:World}{b:Nat}{r:Array Value}{e:TypeId}{fr:Nat × Nat}{hT:TabOk w}(h:w.heap[b]? = some (.cells r e fr)):(topR w hT).fz b=some r:=by
 simp only[topR,B9x,h]
theorem D3r(w:World)(hT:TabOk w):Rep (topR w hT) nil w:=by
 refine⟨λid b h=>(by cases h),λi j bi bj ti tj h=>(by cases h),λb r h=>?_,λid b t h=>(by cases h),λb r h=>⟨?_,λid b t h=>(by cases h)⟩⟩
 ·simp only[topR,B9x]at h;split at h
  ·rename_i r' e fr h1;cases h;exact⟨e,fr,h1⟩
  ·cases h
 trivial
theorem AC.top{f:Nat}{args:List DV}{Q:DV->Hp->Nat->Prop}(h:AC P f args nil 0 Q)(w:World)(hT:TabOk w)(vs:Array Value)(ha:I3 (topR w hT) args vs):
  Calls P f vs w λe w' => ∃v v' H' c' ρ',e=.returned v'/\Q v H' c'/\VRel ρ' v v'/\Below w.heap.size w w':=by
 refine(h.2 (topR w hT) w vs (D3r w hT) (λ_ _=>rfl) ha).mono ?_;rintro e w' ⟨v,v',H',c', ρ',e1,q,d⟩;exact⟨v,v',H',c', ρ',e1,q,d.val,d.ext.below (λid b hb=>by cases hb)⟩
theorem PC.of_calls{f:Nat}{args:List DV}{r:DV}(hc:K4 P f=true)(na:DV.nlL args=true)(nr:r.nl=true)
  (h:∀(ρ:Ren) (w:World) (vs:Array Value),(∀b r, ρ.fz b=some r->∃e fr,w.heap[b]? = some (.cells r e fr))->I3 ρ args vs ->
   Calls P f vs w λe w' => ∃v',e=.returned v'/\(∀ ρ':Ren,VRel ρ' r v')/\Below w.heap.size w w'):PC P f args r:=by
 refine⟨na,nr,hc,fun ρ w vs hR hf hA=>?_⟩;refine(h ρ w vs hR.frz hA).mono ?_;rintro e w' ⟨v',rfl,hv,b1,b2,b3,b4,b5⟩;refine⟨r,v',nil,0, ρ,rfl,rfl,hv ρ,⟨λid b h=>(by cases h),λi j bi bj ti tj h=>(by grind),λb r hb=>?_,λid b t h=>(by grind),λb r hb=>⟨?_,λid b t h=>(by grind)⟩⟩,hf,A0E _,λid hid h=>absurd rfl h,λ_ _=>rfl,
  ⟨Ren.le_refl _,b1,b2,b3,b4,λk hk _=>b5 k hk,λid b t h1=>(by grind),λk r h=>.inl h,λk r h=>.inl h⟩⟩
 ·obtain⟨e,fr,h1⟩:=hR.frz b r hb
  grind
 ·obtain⟨⟨cl,h1,hst⟩, -⟩:=hR.frm b r hb
  grind
theorem GL.cells{H H':Hp}{ds:List DV}(h:∀j,H' j=none\/H' j=H j\/∃bj bj',H j=some bj/\H' j=some bj'/\bj'.unit=bj.unit/\bj'.own=bj.own/\bj'.cells.length<=bj.cells.length/\(∃d∈bj.cells,d.one=true) /\
   ∀(i:Nat) d',bj'.cells[i]? = some d'->∃d,bj.cells[i]? = some d/\(d'=d\/(d'.one=true/\∀ ρ v,VRel ρ d v->VRel ρ d' v))):GL H ds H' ds:=by
 have hd:∀id,H' id≠none->H id≠none:=λid hid=>by
  grind
 have back:∀j bj',H' j=some bj'->∃bj,H j=some bj/\bj'.own=bj.own:=by
  grind
 refine⟨hd,fun ρ w vs hR hA=>⟨ρ,rfl,⟨λj b hj=>?_,λi j bi bj ti tj hi hj hij h1 h2 ho=>?_,hR.frz,λj b t hj ho ht=>?_,λk es hk=>⟨(hR.frm k es hk).1,λj b t hj ho ht=>?_⟩⟩,hA,?_⟩⟩
 ·rcases h j with h0|h0|⟨bj,bj',h1,h2,h3,h4,h5,hone,h6⟩
  ·grind
  ·exact hR.blk j b (by grind)
  rw[h2]at hj;cases hj;obtain⟨t,ht,hB⟩:=hR.blk j bj h1;rcases hB with ⟨gm,c,e,fr,g1,g2,g3,g4,g5,g6⟩|⟨-, -, -,es,cl,kd,ks,vs', -,g2, -⟩
  ·refine⟨t,ht,.inl ⟨gm,c,e,fr,g1,g2,a8,g4.trans h3.symm,λi v hv=>?_,λho=>by rw[h3];exact g6 (h4▸ho)⟩⟩;obtain⟨d,q2,q3⟩:=h6 i v hv;obtain⟨q1,v',q4,q5⟩:=g5 i d q2
   grind
  ·exfalso;obtain⟨d,q1,q2⟩:=hone;rw[g2]at q1;cases A1N.1 q1
   trivial
 ·obtain⟨b1,e1,e4⟩:=back i bi hi;obtain⟨b2,f1, -⟩:=back j bj hj;exact hR.sep i j b1 b2 ti tj e1 f1 hij h1 h2 (e4▸ho)
 ·obtain⟨b1,e1,e4⟩:=back j b hj;exact hR.dis j b1 t e1 (e4▸ho) ht
 ·obtain⟨b1,e1,e4⟩:=back j b hj;exact(hR.frm k es hk).2 j b1 t e1 (e4▸ho) ht
 ·refine⟨Ren.le_refl _,rfl,rfl,rfl,A0E _,λ_ _ _=>rfl,λj b t hj ht=>?_,λk r hk=>.inl hk,λk r hk=>.inl hk⟩
  grind
theorem GL.frzS{H H':Hp}{ds ds':List DV}{id:Nat}{b:Blk}(hb:H id=some b)(ho:b.own=true)(h:∀j,H' j=none\/(j≠id/\H' j=H j))(hd:FzL id b ds ds'):GL H ds H' ds':=by
 refine⟨λj hj=>?_,fun ρ w vs hR hA=>?_⟩
 ·grind
 ·exact(GL.frz hb ho (FzH.less h) hd).2 ρ w vs hR hA
theorem GL.frzT{H H':Hp}{ds ds':List DV}{id:Nat}{b:Blk}(hb:H id=some b)(ho:b.own=true)
  (h:∀j,H' j=none\/(j≠id/\(H' j=H j\/∃bj bj',H j=some bj/\H' j=some bj'/\bj'.unit=bj.unit/\bj'.own=bj.own/\FzL id b bj.cells bj'.cells/\∀d∈bj'.cells,d.one=true))) (hd:FzL id b ds ds'):GL H ds H' ds':=by
 have h0:∀j,H' j≠none->H j≠none:=λj hj=>by
  grind
 refine⟨h0,fun ρ w vs hR hA=>?_⟩;exact(GL.frz hb ho h hd).2 ρ w vs hR hA
theorem A5e{K:DV->Hp->Nat->Prop}{o:Option (DV × Hp × Nat)}{v:DV}{H':Hp}{c':Nat}(h:o=some (v,H',c'))(k:K v H' c'):oeK K o:=by rw[h];exact k
theorem FzL.app{id:Nat}{b:Blk}:∀ {a a' c c':List DV},FzL id b a a'->FzL id b c c'->FzL id b (a++c) (a'++c')
 |[],[],_,_,_,h=>h
 |x::a,y::a',_,_,h,k=>by cases h with|cons _ _ _ _ h1 h2=>exact .cons _ _ _ _ h1 (FzL.app h2 k)
theorem g_fin{Hb:Hp}{ci u n:Nat}{o:Option Nat}{pre suf:List DV}{xs ds:List DV}(h1:∀d∈pre++suf,d.one=true)(hn:o=none->xs=[])(hs:∀i,o=some i->i≠ci/\Hb i=none)
  (hl:xs.length=n) (hu:∀x∈xs,x.cells.length=u) :
  GL (optH (Hb.upd ci ⟨0,true,pre++[todoV o n]++suf⟩) o ⟨u,true,cellsL xs⟩) ds (Hb.upd ci ⟨0,true,pre++[.lst xs]++suf⟩) ds:=by
 cases o with
 |none =>
  obtain rfl:=hn rfl;refine GL.cells λj=>?_;simp only[optH];by_cases ej:j=ci
  ·subst ej;rw[A0,A0];refine .inr (.inr ⟨_,_,rfl,rfl,rfl,rfl,by simp,⟨.snil,by simp[todoV],rfl⟩,λi d' hd=>?_⟩);simp only[todoV]at hd ⊢;rcases Nat.lt_trichotomy i pre.length with hi|hi|hi
   ·refine⟨d',?_,.inl rfl⟩;rw[A0K,A2K hi]at hd ⊢;exact hd
   ·subst hi;rw[A0K,A1W (A0E _)]at hd ⊢;simp at hd ⊢;subst hd;exact .inr ⟨rfl,fun ρ v h=>h.snil_lst⟩
   grind
  ·rw[h_ne ej,h_ne ej];simp
 |some id =>
  obtain⟨e1,e2⟩:=hs id rfl;simp only[optH,todoV];refine GL.frzT (id:=id) (b:=⟨u,true,cellsL xs⟩) A0 rfl (λj=>?_) (FzL.refl ds);by_cases ej:j=ci
  ·subst ej;refine .inr ⟨Ne.symm e1,.inr ⟨⟨0,true,pre++[.slc id 0 n]++suf⟩,⟨0,true,pre++[.lst xs]++suf⟩,by rw[h_ne (Ne.symm e1),A0],A0,rfl,rfl,?_,λd hd=>?_⟩⟩
   ·exact FzL.app (FzL.app (FzL.refl _) (.cons _ _ _ _ (U3 (blk:=⟨u,true,cellsL xs⟩) hl hu ⟨[],by simp⟩) .nil)) (FzL.refl _)
   ·simp only[A0K,A1A,A1N]at hd;rcases hd with hd|rfl|hd
    ·exact h1 d (A3G _ hd)
    ·rfl
    grind
  ·rw[h_ne ej];by_cases ei:j=id
   ·grind
   ·exact .inr ⟨ei,.inl (by rw[h_ne ei,h_ne ej])⟩
theorem g_cell{H:Hp}{a k u u' n:Nat}{pre suf xs ds junk:List DV}(hk:H k=some ⟨0,true,pre++[.slc a 0 n]++suf⟩)(ha:H a=some ⟨u,true,cellsL xs++junk⟩)
  (h1:∀d∈pre++suf,d.one=true) (hl:xs.length=n) (hu:∀x∈xs,x.cells.length=u') (hak:¬a=k) :
  GL H ds ((H.del a).upd k ⟨0,true,pre++[.lst xs]++suf⟩) ds:=by
 have hz:FzL a ⟨u,true,cellsL xs++junk⟩ (pre++[.slc a 0 n]++suf) (pre++[.lst xs]++suf) :=
  FzL.app (FzL.app (FzL.refl _) (.cons _ _ _ _ (U3 (blk:=⟨u,true,cellsL xs++junk⟩) hl hu ⟨junk,rfl⟩) .nil)) (FzL.refl _)
 refine GL.frzT (id:=a) ha rfl (λj=>?_) (FzL.refl ds);by_cases ej:j=k
 ·subst ej;refine .inr ⟨Ne.symm hak,.inr ⟨_,_,hk,A0,rfl,rfl,hz,λd hd=>?_⟩⟩;simp only[A0K,A1A,A1N]at hd;rcases hd with hd|rfl|hd
  ·exact h1 d (A3G _ hd)
  ·rfl
  grind
 ·rw[h_ne ej];by_cases ea:j=a
  ·subst ea;exact .inl A6j
  ·exact .inr ⟨ea,.inl (I7 ea)⟩
end Go.Sym
namespace Go.Pb
variable [Go.Sym.Tab]
open Go.Sym
abbrev I64(n:Int):DV:=.int .i64 n
abbrev J5(l:List Int):DV:=.lst (l.map I64)
abbrev strs(l:List (List UInt8)):DV:=.lst (l.map DV.str)
structure Ins where
 op:Int
 A:Int
deriving DecidableEq
structure Ent where
 mode:Int
 trigger:Int
 index:Int
 pos:Int
deriving DecidableEq
structure Prg where
 instrs:List Ins
 strings:List (List UInt8)
 entries:List Ent
 prios:List Int
 vars:List Int
 timers:Int
 events:Int
deriving DecidableEq
abbrev Ins.v(i:Ins):DV:=.agg [I64 i.op,I64 i.A]
abbrev Ent.v(e:Ent):DV:=.agg [I64 e.mode,I64 e.trigger,I64 e.index,I64 e.pos]
abbrev K7(l:List Ins):DV:=.lst (l.map Ins.v)
abbrev Q6(l:List Ent):DV:=.lst (l.map Ent.v)
abbrev Prg.cs(c:Prg):List DV:=[K7 c.instrs,strs c.strings,Q6 c.entries,J5 c.prios,J5 c.vars,I64 c.timers,I64 c.events]
abbrev Prg.v(c:Prg):DV:=.agg c.cs
@[simp]theorem N4(l:List Int):DV.nlL (l.map I64)=true:=P1 (λ_=>rfl) l
@[simp]theorem J1(l:List (List UInt8)):DV.nlL (l.map DV.str)=true:=P1 (λ_=>rfl) l
@[simp]theorem A0f(l:List Ins):DV.nlL (l.map Ins.v)=true:=P1 (λ_=>rfl) l
@[simp]theorem K0(l:List Ent):DV.nlL (l.map Ent.v)=true:=P1 (λ_=>rfl) l
def inM(n lo hi:Int):Bool:=decide (lo<=n)&&decide (n<=hi)
def D4(op:Int):Int × Int × Int :=
 if op=1 then(0,1,1) else if op=2 then(0,1,2) else if op=3 then(1,0,2) else if op=4 then(0,1,3) else if op=5 then(0,1,4) else if op=6 then(0,1,5)
 else if op=7 then(0,1,0) else if op=8 then(0,1,0) else if op=9 then(1,1,0) else if op=10 then(1,1,0) else if op=11 then(2,1,6) else if op=12 then(0,0,7)
 else if op=13 then(1,0,7) else if op=14 then(1,1,7) else if op=15 then(1,0,0) else if op=16 then(0,0,8) else if op=17 then(0,0,8) else if op=18 then(0,0,8)
 else if op=19 then(1,0,9) else if op=20 then(2,0,9) else if op=21 then(1,0,5) else if op=22 then(0,0,5) else if op=23 then(0,0,4) else if op=24 then(0,0,4)
 else if op=25 then(0,0,10) else if op=26 then(0,0,9) else if op=27 then(0,0,9) else if op=28 then(0,0,9) else if op=29 then(1,0,11) else if op=30 then(0,0,0) else if op=31 then(0,0,0)
 else(0,0, -1)
theorem E3a(op:Int):D4 op∈[((0:Int),(1:Int),(1:Int)),(0,1,2),(1,0,2),(0,1,3),(0,1,4),(0,1,5),(0,1,0),(1,1,0),(2,1,6),(0,0,7),(1,0,7),(1,1,7),(1,0,0),(0,0,8),(1,0,9),(2,0,9),(1,0,5),(0,0,5),(0,0,4),(0,0,10),(0,0,9),(1,0,11),(0,0,0),(0,0, -1)]:=by
 by_cases h1:op=1
 ·subst h1;decide
 by_cases h2:op=2
 ·subst h2;decide
 by_cases h3:op=3
 ·subst h3;decide
 by_cases h4:op=4
 ·subst h4;decide
 by_cases h5:op=5
 ·subst h5;decide
 by_cases h6:op=6
 ·subst h6;decide
 by_cases h7:op=7
 ·subst h7;decide
 by_cases h8:op=8
 ·subst h8;decide
 by_cases h9:op=9
 ·subst h9;decide
 by_cases h10:op=10
 ·subst h10;decide
 by_cases h11:op=11
 ·subst h11;decide
 by_cases h12:op=12
 ·subst h12;decide
 by_cases h13:op=13
 ·subst h13;decide
 by_cases h14:op=14
 ·subst h14;decide
 by_cases h15:op=15
 ·subst h15;decide
 by_cases h16:op=16
 ·subst h16;decide
 by_cases h17:op=17
 ·subst h17;decide
 by_cases h18:op=18
 ·subst h18;decide
 by_cases h19:op=19
 ·subst h19;decide
 by_cases h20:op=20
 ·subst h20;decide
 by_cases h21:op=21
 ·subst h21;decide
 by_cases h22:op=22
 ·subst h22;decide
 by_cases h23:op=23
 ·subst h23;decide
 by_cases h24:op=24
 ·subst h24;decide
 by_cases h25:op=25
 ·subst h25;decide
 by_cases h26:op=26
 ·subst h26;decide
 by_cases h27:op=27
 ·subst h27;decide
 by_cases h28:op=28
 ·subst h28;decide
 by_cases h29:op=29
 ·subst h29;decide
 by_cases h30:op=30
 ·subst h30;decide
 simp_all[D4];omega
theorem B9a(op:Int):0<=(D4 op).1/\(D4 op).1<=2/\0<=(D4 op).2.1/\(D4 op).2.1<=1:=by
 have h:∀x∈[((0:Int),(1:Int),(1:Int)),(0,1,2),(1,0,2),(0,1,3),(0,1,4),(0,1,5),(0,1,0),(1,1,0),(2,1,6),(0,0,7),(1,0,7),(1,1,7),(1,0,0),(0,0,8),(1,0,9),(2,0,9),(1,0,5),(0,0,5),(0,0,4),(0,0,10),(0,0,9),(1,0,11),(0,0,0),(0,0, -1)],0<=x.1/\x.1<=2/\0<=x.2.1/\x.2.1<=1:=n7
 grind[E3a]
def I1(c:Prg)(k a:Int):Bool :=
 if k=0 then decide (a=0) else if k=1 then inM a (-2147483647) 2147483647 else if k=2 then inM a 0 (c.vars.length-1) else if k=3 then inM a 0 63 else if k=9 then inM a 0 63
 else if k=4 then inM a 0 (c.prios.length-1) else if k=5 then inM a 0 (c.timers-1) else if k=6 then inM a 12 24 else if k=7 then true else if k=8 then inM a 0 31
 else if k=10 then inM a 0 (c.events-1) else if k=11 then inM a 0 (c.strings.length-1) else false
def D2(c:Prg)(i:Ins):Bool:=I1 c (D4 i.op).2.2 i.A
def A4q(c:Prg)(e:Ent):Bool :=
 inM e.mode 0 (c.prios.length-1)&&(if e.trigger=1\/e.trigger=2 then decide (e.index=0) else if e.trigger=3\/e.trigger=4 then inM e.index 0 63
  else if e.trigger=5 then inM e.index 0 (c.timers-1) else if e.trigger=6 then inM e.index 0 (c.events-1) else false)
def A4l(b:UInt8):Bool:=decide (32<=b.toNat)&&decide (b.toNat<=126)
def U0(s:List UInt8):Bool:=s.all A4l&&decide (s.length<=32)
def A0d(c:Prg):Bool :=
 c.strings.all U0&&c.prios.all (λn=>inM n 0 99)&&c.vars.all (λn=>inM n (-2147483647) 2147483647)&&c.entries.all (A4q c)&&c.instrs.all (D2 c)
def A7e(c:Prg)(i:Ins):Bool := !(decide ((D4 i.op).2.2=7) && !inM i.A 0 (c.instrs.length-1))
def C1p(c:Prg)(e:Ent):Bool:=inM e.pos 0 (c.instrs.length-1)
def K9(c:Prg):Bool:=c.instrs.all (A7e c)&&c.entries.all (C1p c)
def B6u(a b:Ent):Bool:=if a.mode≠b.mode then decide (a.mode<b.mode) else if a.trigger≠b.trigger then decide (a.trigger<b.trigger) else decide (a.index<b.index)
def Z4:List Ent->Bool
 |a::b::r=>B6u a b&&Z4 (b::r)
 |_=>true
def P2(c:Prg):Bool :=
 decide (c.instrs.length<=4000)&&decide (c.strings.length<=200)&&decide (c.entries.length<=512)&&decide (c.prios.length<=16)&&decide (c.vars.length<=128)&&inM c.timers 0 128&&inM c.events 0 128
structure Lim (c:Prg):Prop where
 p:IntKind.i64.wrap ((c.prios.length:Int)-1)=(c.prios.length:Int)-1
 v:IntKind.i64.wrap ((c.vars.length:Int)-1)=(c.vars.length:Int)-1
 s:IntKind.i64.wrap ((c.strings.length:Int)-1)=(c.strings.length:Int)-1
 i:IntKind.i64.wrap ((c.instrs.length:Int)-1)=(c.instrs.length:Int)-1
 t:IntKind.i64.wrap (c.timers-1)=c.timers-1
 e:IntKind.i64.wrap (c.events-1)=c.events-1
 li:c.instrs.length<=4000
 ls:c.strings.length<=200
 le:c.entries.length<=512
 lp:c.prios.length<=16
 lv:c.vars.length<=128
theorem Lim.of{c:Prg}(h:P2 c=true):Lim c:=by
 simp only[P2,inM,A0G,A0L]at h;obtain⟨⟨⟨⟨⟨⟨h1,h2⟩,h3⟩,h4⟩,h5⟩,h6,h7⟩,h8,h9⟩:=h;constructor<;>first|assumption|exact w6z
abbrev Stp.v(p:Nat × Int):DV:=.agg [I64 (p.1:Int),I64 p.2]
@[simp]theorem F7d(l:List (Nat × Int)):DV.nlL (l.map Stp.v)=true:=P1 (λ_=>rfl) l
theorem B0s(l:List Int):∀x∈l.map I64,x.cells.length=1:=by
 intro x hx;obtain⟨y, -,rfl⟩:=A0X.1 hx;rfl
theorem A2f(l:List Int):cellsL (l.map I64)=l.map I64:=A2x (λ_=>rfl) l
def I2(i:Ins)(p:Nat)(h:Int):List (Nat × Int) :=
 if i.op=31 then [] else if i.op=12 then [(i.A.toNat,h)] else if i.op=13 then [(p+1,h-1),(i.A.toNat,h-1)] else if i.op=14 then [(p+1,h),(i.A.toNat,h-1)]
 else [(p+1,h-(D4 i.op).1+(D4 i.op).2.1)]
def B8r(c:Prg):Nat->List Int->List (Nat × Int)->Option (Option (List Int))
 |0,_,_=>none
 |n+1,h,[]=>some (some h)
 |n+1,h,(p,x)::st =>
  if h.length<=p\/x>48 then some none
  else if 0<=h.getD p 0 then(if h.getD p 0≠x then some none else B8r c n h st)
  else if(D4 (c.instrs.getD p ⟨0,0⟩).op).1>x\/((c.instrs.getD p ⟨0,0⟩).op=31/\x≠0) then some none
  else B8r c n (h.set p x) ((I2 (c.instrs.getD p ⟨0,0⟩) p x).reverse++st)
def B4y(e:Ent):Nat × Int:=(e.pos.toNat,0)
def D1y(c:Prg):List (Nat × Int):=(c.entries.map B4y).reverse
def D1q:Option (List Int)->DV
 |none=>.tup [.lst [],.bool false]
 |some h=>.tup [J5 h,.bool true]
def A7g(n k:Nat):List Int:=List.replicate k (-1)++List.replicate (n-k) 0
theorem C5q{n k:Nat}(h:k<n):A7g n (k+1)=(A7g n k).set k (-1):=by
 unfold A7g;rw[List.set_append_right _ _ (by simp)];simp only[List.length_replicate,A4P];obtain⟨m,hm⟩:∃m,n-k=m+1:=⟨n-k-1,by omega⟩<;>grind[List.replicate_succ']
theorem C6m(i:Ins)(p:Nat)(h:Int):(I2 i p h).length<=2:=by
 grind[I2]
def B1n(c:Prg)(h:List Int):Hp:=(Sym.nil.upd 0 ⟨0,true,c.cs⟩).upd 1 ⟨1,true,h.map I64⟩
theorem D2r{i:Ins}{p:Nat}{x:Int}{len:Nat}(hl:len<=4000)(hp:p<len)(hA:i.op=12\/i.op=13\/i.op=14->0<=i.A/\i.A<=(len:Int)-1)(h0:0<=x)(h1:x<=48)(he:(D4 i.op).1<=x):
  ∀s∈I2 i p x,s.1<=4000/\0<=s.2/\s.2<=50:=by
 obtain⟨b1,b2,b3,b4⟩:=B9a i.op;intro s hs;unfold I2 at hs;split at hs
 ·cases hs
 split at hs
 ·rename_i e;have:=hA (.inl e);simp only[A1N]at hs;subst hs;simp only;omega
 split at hs
 ·rename_i e;have:=hA (.inr (.inl e));have e1:(D4 i.op).1=1:=by rw[e];decide
  simp only[A0U,A1R,or_false]at hs;rcases hs with rfl|rfl<;>simp only<;>omega
 split at hs
 ·rename_i e;have:=hA (.inr (.inr e));have e1:(D4 i.op).1=1:=by rw[e];decide
  simp only[A0U,A1R,or_false]at hs;rcases hs with rfl|rfl<;>simp only<;>omega
 grind
theorem B8q{c:Prg}(hj:K9 c=true):∀i∈c.instrs,i.op=12\/i.op=13\/i.op=14->0<=i.A/\i.A<=(c.instrs.length:Int)-1:=by
 intro i hi hop;simp only[K9,A0G,A0R]at hj;have:=hj.1 i hi;have hk:(D4 i.op).2.2=7:=by rcases hop with e|e|e<;>rw[e]<;>decide
 grind[A7e,inM]
theorem C5v{c:Prg}(hj:K9 c=true):∀e∈c.entries,0<=e.pos/\e.pos<=(c.instrs.length:Int)-1:=by
 simp_all[K9,C1p,inM]
def B1s(h:List Int):Nat:=h.countP λx=>decide (x<0)
theorem B0t(c:Prg)(hl:c.instrs.length<=4000)(hj:K9 c=true):∀(n:Nat) (h:List Int) (st:List (Nat × Int)),h.length=c.instrs.length->(∀s∈st,s.1<=4000/\0<=s.2/\s.2<=50)->3*B1s h+st.length<n->∃r,B8r c n h st=some r
 |0,h,st,_,_,hlt=>a8
 |n+1,h,[],_,_,_=>⟨some h,rfl⟩
 |n+1,h,(p,x)::st,hlen,hst,hlt=>by
  simp only[A0C]at hlt;have hst':∀s∈st,s.1<=4000/\0<=s.2/\s.2<=50:=λs hs=>hst s (A0D _ hs);obtain⟨s1,s2,s3⟩:=hst (p,x) A0H;simp only at s1 s2 s3;simp only[B8r];split
  ·simp
  ·rename_i h1;have hp:p<h.length:=by omega
   have hpi:p<c.instrs.length:=a8
   have hgi:c.instrs.getD p ⟨0,0⟩=c.instrs[p]:=j8
   have hgh:h.getD p 0=h[p]:=j8
   rw[hgi,hgh];split
   ·split
    ·simp
    ·exact B0t c hl hj n h st hlen hst' (by omega)
   ·rename_i h2;split
    ·simp
    ·rename_i h3;have hbd:=D2r (x:=x) hl hpi (B8q hj _ (A0O hpi)) s2 (by omega) (by omega);have hal:=C6m c.instrs[p] p x;refine B0t c hl hj n (h.set p x) _ (by grind) (λs hs=>?_) ?_
     ·grind
     ·have hneg:B1s (h.set p x)+1=B1s h:=by
       unfold B1s;rw[List.countP_set hp];have e1:decide (h[p]<0)=true:=b9
       have e2:decide (x<0)=false:=b9
       simp only[e1,e2,if_true,A1M,if_false];have:0<h.countP λx=>decide (x<0):=List.countP_pos_iff.2 ⟨h[p],A0O hp,e1⟩;omega
      grind
def C9h(c:Prg):Nat:=3*c.instrs.length+c.entries.length+1
def hR(c:Prg):Option (List Int):=(B8r c (C9h c) (List.replicate c.instrs.length (-1)) (D1y c)).getD none
theorem F4t{c:Prg}(hl:c.instrs.length<=4000)(hj:K9 c=true):B8r c (C9h c) (List.replicate c.instrs.length (-1)) (D1y c)=some (hR c):=by
 obtain⟨r,hr⟩:=B0t c hl hj (C9h c) (List.replicate c.instrs.length (-1)) (D1y c) (by simp) (by
  intro s hs;simp only[D1y,List.mem_reverse,A0X]at hs;obtain⟨e,h1,rfl⟩:=hs;have:=C5v hj e h1
  grind[B4y]) (by grind[B1s,C9h,D1y,List.countP_replicate])
 rw[hR,hr];rfl
def H6(c:Prg):Int:=if P2 c=false then 9 else if A0d c=false then 51 else if K9 c=false then 54 else if Z4 c.entries=false then 66 else if(hR c).isNone then 53 else 0
theorem C6b{l:List Ent}:∀ {k:Nat} {a b:Ent},1<=k->l[k-1]? = some a->l[k]? = some b->Z4 (l.take k)=true->Z4 (l.take (k+1))=B6u a b:=by
 induction l with
 |nil=>simp
 |cons x l ih =>
  intro k a b hk ha hb hc;obtain⟨k,rfl⟩:∃j,k=j+1:=⟨k-1,by omega⟩;rw[A0Y]at hc ⊢;simp only[A4B,A2N]at ha hb;cases k with
  |zero =>
   simp only[A2Z,Option.some.injEq]at ha;subst ha;cases l<;>simp_all[Z4]
  |succ k =>
   cases l<;>simp_all[Z4]
theorem C6c{l:List Ent}:∀ {k:Nat} {a b:Ent},1<=k->l[k-1]? = some a->l[k]? = some b->B6u a b=false->Z4 l=false:=by
 induction l with
 |nil=>simp
 |cons x l ih =>
  intro k a b hk ha hb hc;obtain⟨k,rfl⟩:∃j,k=j+1:=⟨k-1,by omega⟩;simp only[A4B,A2N]at ha hb;cases l with
  |nil=>grind
  |cons y l =>
   simp only[Z4];cases k<;>grind
def V9{α:Type}(g : α->Bool):List α->Nat->Int
 |[],_ => -1
 |x::r,k=>if g x then(k:Int) else V9 g r (k+1)
theorem C1t{α:Type}(g : α->Bool):∀(l:List α) (k:Nat),(0<=V9 g l k)↔l.any g=true
 |[],k=>by simp[V9]
 |x::r,k=>by
  simp only[V9,List.any_cons,A1H];by_cases hg:g x=true
  ·grind
  ·rw[if_neg hg,C1t g r (k+1)];grind
theorem A0v{α:Type}(g : α->Bool)(l:List α)(k:Nat):decide (V9 g l k≥0)=l.any g:=by
 rw[A2G,decide_eq_true_iff]
 grind[C1t]
theorem W7{α:Type}{g : α->Bool}{l:List α}{k:Nat}{x : α}(h:l[k]? = some x):V9 g (l.drop k) k=if g x then(k:Int) else V9 g (l.drop (k+1)) (k+1):=by
 have hk:k<l.length:=(A1G.1 h).1;rw[A1I hk];rw[A0B hk]at h;cases h;rfl
theorem A0u{α:Type}{g : α->Bool}{l:List α}{k:Nat}(h:l.length<=k):V9 g (l.drop k) k = -1:=by
 rw[A2S h];rfl
def isJ(op:Int):Bool:=decide (op=12)||(decide (op=13)||decide (op=14))
def J9(c:Prg)(op:Int):Int × Int :=
 if op=1 then(-2147483647,2147483647) else if op=2\/op=3 then(0,c.vars.length-1) else if op=4 then(0,63) else if op=5\/op=23\/op=24 then(0,c.prios.length-1)
 else if op=6\/op=21\/op=22 then(0,c.timers-1) else if op=11 then(12,24) else if op=16\/op=17\/op=18 then(0,31)
 else if op=19\/op=20\/op=26\/op=27\/op=28 then(0,63) else if op=25 then(0,c.events-1) else if op=29 then(0,c.strings.length-1)
 else if op=7\/op=8\/op=9\/op=10\/op=15\/op=30\/op=31 then(0,0) else(1,0)
theorem F6g{op:Int}(h1:¬op=1)(h2:¬op=2)(h3:¬op=3)(h4:¬op=4)(h5:¬op=5)(h6:¬op=6)(h7:¬op=7)(h8:¬op=8)(h9:¬op=9)(h10:¬op=10)(h11:¬op=11)(h13:¬op=13)(h14:¬op=14)(h15:¬op=15)(h19:¬op=19)(h20:¬op=20)(h21:¬op=21)(h29:¬op=29):(D4 op).1=0/\(D4 op).2.1=0:=by
 by_cases h12:op=12
 ·subst h12;decide
 by_cases h16:op=16
 ·subst h16;decide
 by_cases h17:op=17
 ·subst h17;decide
 by_cases h18:op=18
 ·subst h18;decide
 by_cases h22:op=22
 ·subst h22;decide
 grind[D4]
theorem A5k(op:Int):isJ op=decide ((D4 op).2.2=7):=by
 by_cases h1:op=1
 ·subst h1;decide
 by_cases h2:op=2
 ·subst h2;decide
 by_cases h3:op=3
 ·subst h3;decide
 by_cases h4:op=4
 ·subst h4;decide
 by_cases h5:op=5
 ·subst h5;decide
 by_cases h6:op=6
 ·subst h6;decide
 by_cases h7:op=7
 ·subst h7;decide
 by_cases h8:op=8
 ·subst h8;decide
 by_cases h9:op=9
 ·subst h9;decide
 by_cases h10:op=10
 ·subst h10;decide
 by_cases h11:op=11
 ·subst h11;decide
 by_cases h12:op=12
 ·subst h12;decide
 by_cases h13:op=13
 ·subst h13;decide
 by_cases h14:op=14
 ·subst h14;decide
 by_cases h15:op=15
 ·subst h15;decide
 by_cases h16:op=16
 ·subst h16;decide
 by_cases h17:op=17
 ·subst h17;decide
 by_cases h18:op=18
 ·subst h18;decide
 by_cases h19:op=19
 ·subst h19;decide
 by_cases h20:op=20
 ·subst h20;decide
 by_cases h21:op=21
 ·subst h21;decide
 by_cases h22:op=22
 ·subst h22;decide
 grind[D4,isJ]
theorem C5i(a:Int):inM a 0 0=decide (a=0):=by
 rw[A2G];simp[inM];omega
theorem C1a(c:Prg)(i:Ins):D2 c i=(isJ i.op||inM i.A (J9 c i.op).1 (J9 c i.op).2):=by
 by_cases h1:i.op=1
 ·simp[D2,I1,D4,isJ,J9,h1]
 by_cases h2:i.op=2
 ·simp[D2,I1,D4,isJ,J9,h2]
 by_cases h3:i.op=3
 ·simp[D2,I1,D4,isJ,J9,h3]
 by_cases h4:i.op=4
 ·simp[D2,I1,D4,isJ,J9,h4]
 by_cases h5:i.op=5
 ·simp[D2,I1,D4,isJ,J9,h5]
 by_cases h6:i.op=6
 ·simp[D2,I1,D4,isJ,J9,h6]
 by_cases h7:i.op=7
 ·simp[D2,I1,D4,isJ,J9,C5i,h7]
 by_cases h8:i.op=8
 ·simp[D2,I1,D4,isJ,J9,C5i,h8]
 by_cases h9:i.op=9
 ·simp[D2,I1,D4,isJ,J9,C5i,h9]
 by_cases h10:i.op=10
 ·simp[D2,I1,D4,isJ,J9,C5i,h10]
 by_cases h11:i.op=11
 ·simp[D2,I1,D4,isJ,J9,h11]
 by_cases h12:i.op=12
 ·simp[D2,I1,D4,isJ,J9,h12]
 by_cases h13:i.op=13
 ·simp[D2,I1,D4,isJ,J9,h13]
 by_cases h14:i.op=14
 ·simp[D2,I1,D4,isJ,J9,h14]
 by_cases h15:i.op=15
 ·simp[D2,I1,D4,isJ,J9,C5i,h15]
 by_cases h16:i.op=16
 ·simp[D2,I1,D4,isJ,J9,h16]
 by_cases h17:i.op=17
 ·simp[D2,I1,D4,isJ,J9,h17]
 by_cases h18:i.op=18
 ·simp[D2,I1,D4,isJ,J9,h18]
 by_cases h19:i.op=19
 ·simp[D2,I1,D4,isJ,J9,h19]
 by_cases h20:i.op=20
 ·simp[D2,I1,D4,isJ,J9,h20]
 by_cases h21:i.op=21
 ·simp[D2,I1,D4,isJ,J9,h21]
 by_cases h22:i.op=22
 ·simp[D2,I1,D4,isJ,J9,h22]
 by_cases h23:i.op=23
 ·simp[D2,I1,D4,isJ,J9,h23]
 by_cases h24:i.op=24
 ·simp[D2,I1,D4,isJ,J9,h24]
 by_cases h25:i.op=25
 ·simp[D2,I1,D4,isJ,J9,h25]
 by_cases h26:i.op=26
 ·simp[D2,I1,D4,isJ,J9,h26]
 by_cases h27:i.op=27
 ·simp[D2,I1,D4,isJ,J9,h27]
 by_cases h28:i.op=28
 ·simp[D2,I1,D4,isJ,J9,h28]
 by_cases h29:i.op=29
 ·simp[D2,I1,D4,isJ,J9,h29]
 by_cases h30:i.op=30
 ·simp[D2,I1,D4,isJ,J9,C5i,h30]
 by_cases h31:i.op=31
 ·simp[D2,I1,D4,isJ,J9,C5i,h31]
 simp_all[D4,D2,I1,isJ,J9,inM];omega
theorem A6s{α:Type}(p : α->Bool)(l:List α):(l.any λx => !p x) = !l.all p:=by
 grind
theorem A6t{α:Type}(p : α->Bool)(l:List α)(k:Nat)(x : α)(hx:l[k]? = some x):(l.take (k+1)).all p=((l.take k).all p&&p x):=by
 grind[List.take_add_one]
theorem D3y(b x n:Bool):(b || !(x&&n))=((b || !x) || !n):=j8
def K1(h:List Int)(wk:List Nat)(p:Nat)(x:Int):Option (List Int × List Nat) :=
 if h.length<=p\/x>48\/(0<=h.getD p 0/\h.getD p 0≠x) then none
 else if h.getD p 0<0 then some (h.set p x,p::wk) else some (h,wk)
def wkC(wk:List Nat):List DV:=wk.reverse.map λ(p:Nat)=>I64 (p:Int)
theorem A8d(p:Nat)(wk:List Nat):wkC (p::wk)=wkC wk++[I64 (p:Int)]:=by simp[wkC]
theorem A8c(wk:List Nat):(wkC wk).length=wk.length:=by simp[wkC]
structure WkS (c:Prg) (h:List Int) (wk:List Nat) (o:Option Nat) (junk:List DV) (H:Hp) (cc:Nat):Prop where
 h0:H 0=some ⟨0,true,c.cs⟩
 h1:H 1=some ⟨1,true,h.map I64⟩
 h2:H 2=some ⟨0,true,[.slc 1 0 h.length]⟩
 h3:H 3=some ⟨0,true,[todoV o wk.length]⟩
 hn:o=none->wk=[]
 hs:∀i,o=some i->4<=i/\i<cc/\H i=some ⟨1,true,wkC wk++junk⟩
 hc:4<=cc
def WH(c:Prg)(h:List Int)(wk:List Nat)(o:Option Nat)(junk:List DV):Hp :=
 optH ((((Sym.nil.upd 0 ⟨0,true,c.cs⟩).upd 1 ⟨1,true,h.map I64⟩).upd 2 ⟨0,true,[.slc 1 0 h.length]⟩).upd 3 ⟨0,true,[todoV o wk.length]⟩) o ⟨1,true,wkC wk++junk⟩
theorem WkS.sub{c:Prg}{h:List Int}{wk:List Nat}{o:Option Nat}{junk:List DV}{H:Hp}{cc:Nat}(hS:WkS c h wk o junk H cc):Sub (WH c h wk o junk) H:=by
 obtain⟨h0,h1,h2,h3,hn,hs,hc⟩:=hS;have base:Sub ((((Sym.nil.upd 0 ⟨0,true,c.cs⟩).upd 1 ⟨1,true,h.map I64⟩).upd 2 ⟨0,true,[.slc 1 0 h.length]⟩).upd 3 ⟨0,true,[todoV o wk.length]⟩) H :=
  ((((Sub.nil H).put h0).put h1).put h2).put h3
 cases o with
 |none=>trivial
 |some i=>exact base.put (hs i rfl).2.2
theorem WkS.mk'{c:Prg}{h:List Int}{wk:List Nat}{o:Option Nat}{junk:List DV}{cc:Nat}(hn:o=none->wk=[])(hs:∀i,o=some i->4<=i/\i<cc)(hc:4<=cc):WkS c h wk o junk (WH c h wk o junk) cc:=by
 cases o with
 |none=>exact⟨rfl,rfl,rfl,rfl,hn,λi hi=>(by grind),hc⟩
 |some i =>
  obtain⟨i1,i2⟩:=hs i rfl;refine⟨?_,?_,?_,?_,hn,λj hj=>?_,hc⟩
  ·simp only[WH,optH];rw[hnO];rfl
  ·simp only[WH,optH];rw[hnO];rfl
  ·simp only[WH,optH];rw[hnO];rfl
  ·simp only[WH,optH];rw[hnO];rfl
  ·cases hj;exact⟨i1,i2,A0⟩
theorem WkS.upd{c:Prg}{h:List Int}{wk:List Nat}{o:Option Nat}{junk:List DV}{H:Hp}{cc:Nat}(hS:WkS c h wk o junk H cc){k c2:Nat}(b:Blk)(hk:cc<=k)(hk2:cc<=c2):WkS c h wk o junk (H.upd k b) c2:=by
 obtain⟨h0,h1,h2,h3,hn,hs,hc⟩:=hS;exact⟨by grind[h_ne],by grind[h_ne],by grind[h_ne],by grind[h_ne],hn,
  λi hi=>⟨(hs i hi).1,j8,by grind[h_ne]⟩,by omega⟩
def N0(h:List Int)(wk:List Nat):List (Nat × Int)->Option (List Int × List Nat)
 |[]=>some (h,wk)
 |(p,x)::r=>match K1 h wk p x with
  |none=>none
  |some (h',wk')=>N0 h' wk' r
def C1y(c:Prg):Nat->List Int->List Nat->Option (Option (List Int))
 |0,_,_=>none
 |n+1,h,[]=>some (some h)
 |n+1,h,p::wk =>
  if(D4 (c.instrs.getD p ⟨0,0⟩).op).1>h.getD p 0\/((c.instrs.getD p ⟨0,0⟩).op=31/\h.getD p 0≠0) then some none
  else match N0 h wk (I2 (c.instrs.getD p ⟨0,0⟩) p (h.getD p 0)) with
   |none=>some none
   |some (h',wk')=>C1y c n h' wk'
def C1x(c:Prg)(n:Nat):Option (Option (List Int)) :=
 match N0 (List.replicate c.instrs.length (-1)) [] (c.entries.map B4y) with
 |none=>some none
 |some (h,wk)=>C1y c n h wk
structure WkI (len:Nat) (h:List Int) (wk:List Nat):Prop where
 hl:h.length=len
 mem:∀p∈wk,p<len/\0<=h.getD p 0/\h.getD p 0<=48
theorem W6{len:Nat}{h h':List Int}{wk wk':List Nat}{p:Nat}{x:Int}(hI:WkI len h wk)(hx:0<=x)(hr:K1 h wk p x=some (h',wk')):WkI len h' wk'/\wk'.length<=wk.length+1:=by
 unfold K1 at hr;split at hr
 ·grind
 ·rename_i hc;have hp:p<h.length:=by omega
  split at hr
  ·cases hr;refine⟨⟨by simpa using hI.hl,λq hq=>?_⟩,by simp⟩;have hset:∀j,(h.set p x).getD j 0=if j=p then x else h.getD j 0:=by
    intro j;simp only[List.getD,A4W];by_cases e:p=j
    ·subst e;simp[hp]
    ·rw[if_neg e,if_neg (Ne.symm e)]
   simp only[hset];by_cases e:q=p
   ·subst e;simp only[if_true];have:=hI.hl;omega
   ·simp only[e,if_false];cases hq with
    |head=>exact absurd rfl e
    |tail _ hq=>exact hI.mem q hq
  grind
theorem A7p{len:Nat}:∀(l:List (Nat × Int)) {h h':List Int} {wk wk':List Nat},WkI len h wk->(∀s∈l,0<=s.2)->N0 h wk l=some (h',wk')->WkI len h' wk'/\wk'.length<=wk.length+l.length
 |[],h,h',wk,wk',hI,_,hr=>by cases hr<;>simp_all
 |(p,x)::l,h,h',wk,wk',hI,hx,hr=>by
  simp only[N0]at hr;split at hr
  ·grind
  ·rename_i h1 wk1 h2;obtain⟨a,b⟩:=W6 hI (hx _ A0H) h2;obtain⟨a',b'⟩:=A7p l a (λs hs=>hx s (A0D _ hs)) hr<;>grind
theorem WkS.pop{c:Prg}{h:List Int}{p:Nat}{wk:List Nat}{id:Nat}{junk:List DV}{H:Hp}{cc:Nat}(hS:WkS c h (p::wk) (some id) junk H cc):
  WkS c h wk (some id) (I64 p::junk) (H.upd 3 ⟨0,true,[.slc id 0 wk.length]⟩) cc:=by
 obtain⟨h0,h1,h2,h3,hn,hs,hc⟩:=hS;refine⟨by rw[hnO];exact h0,by rw[hnO];exact h1,by rw[hnO];exact h2,A0,by simp,λi hi=>?_,hc⟩
 grind[h_ne,A8d]
theorem C3g{α:Type}(p : α->Bool)(l:List α)(k:Nat)(x : α)(hx:l[k]? = some x)(h:(l.take k).all p=true):(l.take (k+1)).all p=p x:=by
 grind[List.take_add_one]
theorem A3y{α:Type}(p : α->Bool)(l:List α)(k:Nat)(x : α)(hx:l[k]? = some x)(h:p x=false):l.all p=false:=by
 grind
theorem A9r{α:Type}(p : α->Bool)(l:List α)(k:Nat)(hk:l.length<=k)(h:(l.take k).all p=true):l.all p=true:=by
 grind[List.take_of_length_le]
abbrev Prg.ins(c:Prg)(p:Nat):Ins:=c.instrs.getD p ⟨0,0⟩
def OKs(c:Prg)(p:Nat)(x:Int):Prop:=p<c.instrs.length/\x<=48/\(D4 (c.ins p).op).1<=x/\¬((c.ins p).op=31/\x≠0)
inductive Rch (c:Prg):Nat->Int->Prop
 |ent {e:Ent}:e∈c.entries->Rch c e.pos.toNat 0
 |step {p:Nat} {x:Int} {s:Nat × Int}:Rch c p x->OKs c p x->s∈I2 (c.ins p) p x->Rch c s.1 s.2
def Bad(c:Prg):Prop:=∃p x,Rch c p x/\(¬OKs c p x\/∃y,Rch c p y/\y≠x)
structure Hts (c:Prg) (h:List Int):Prop where
 len:h.length=c.instrs.length
 all:∀p x,Rch c p x->OKs c p x/\h[p]? = some x
 only:∀p x,h[p]? = some x->x = -1\/(0<=x/\Rch c p x)
theorem OKs.nn{c:Prg}{p:Nat}{x:Int}(h:OKs c p x):0<=x:=by
 have:=(B9a (c.ins p).op).1;have:=h.2.2.1;omega
theorem A9s{c:Prg}{p:Nat}{x:Int}(hok:OKs c p x):∀s∈I2 (c.ins p) p x,0<=s.2:=by
 intro s hs';have q3:=hok.2.2.1;have b:=B9a (c.ins p).op;unfold I2 at hs';split at hs'
 ·cases hs'
 split at hs'
 ·simp only[A1N]at hs';subst hs';simp only;omega
 split at hs'
 ·rename_i e;rw[e]at q3;have:(D4 13).1=1:=by decide
  simp only[A0U,A1R,or_false]at hs';rcases hs' with rfl|rfl<;>simp only<;>omega
 split at hs'
 ·rename_i e;rw[e]at q3;have:(D4 14).1=1:=by decide
  simp only[A0U,A1R,or_false]at hs';rcases hs' with rfl|rfl<;>simp only<;>omega
 grind
theorem Hts.uniq{c:Prg}{h h':List Int}(a:Hts c h)(b:Hts c h'):h=h':=by
 refine List.ext_getElem? λp=>?_;by_cases hp:p<c.instrs.length
 ·have e1:=A0B (l:=h) (i:=p) (by rw[a.len];omega);have e2:=A0B (l:=h') (i:=p) (by rw[b.len];omega);rcases a.only _ _ e1 with h1|⟨h1,h2⟩
  ·rcases b.only _ _ e2 with h3|⟨h3,h4⟩
   ·grind
   ·rw[(a.all _ _ h4).2,e2]
  ·rw[e1,(b.all _ _ h2).2]
 ·rw[A3F (by rw[a.len];omega),A3F (by rw[b.len];omega)]
theorem Hts.notBad{c:Prg}{h:List Int}(a:Hts c h):¬Bad c:=by
 rintro⟨p,x,h1,h2|⟨y,h2,h3⟩⟩
 ·exact h2 (a.all _ _ h1).1
 ·have e1:=(a.all _ _ h1).2;rw[(a.all _ _ h2).2]at e1
  grind
def C3k(c:Prg):Option (List Int)->Prop
 |some h=>Hts c h
 |none=>Bad c
theorem C3k.uniq{c:Prg}{r r':Option (List Int)}(a:C3k c r)(b:C3k c r'):r=r':=by
 cases r with
 |none=>cases r' with
  |none=>rfl
  |some h=>exact absurd a (Hts.notBad b)
 |some h=>cases r' with
  |none=>exact absurd b (Hts.notBad a)
  |some h'=>rw[Hts.uniq a b]
theorem A9c{h:List Int}{p:Nat}(hp:p<h.length):h[p]? = some (h.getD p 0):=by
 grind
structure HInv (c:Prg) (h:List Int) (wk:List Nat) (l:List (Nat × Int)):Prop where
 len:h.length=c.instrs.length
 ok:∀p x,h[p]? = some x->x = -1\/(0<=x/\Rch c p x/\(p ∉ wk->OKs c p x/\∀s∈I2 (c.ins p) p x,h[s.1]? = some s.2\/s∈l))
 to:∀s∈l,Rch c s.1 s.2
 en:∀e∈c.entries,h[e.pos.toNat]? = some 0\/B4y e∈l
theorem HInv.done{c:Prg}{h:List Int}(a:HInv c h [] []):Hts c h:=by
 have key:∀p x,Rch c p x->h[p]? = some x:=by
  intro p x hr
  induction hr with
  |ent he =>
   rcases a.en _ he with h1|h1<;>simp_all
  |step h1 h2 h3 ih =>
   rcases a.ok _ _ ih with h4|⟨-, -,h4⟩
   ·have:=h2.nn;omega
   grind
 refine⟨a.len,λp x hr=>⟨?_,key p x hr⟩,λp x hp=>?_⟩
 ·rcases a.ok _ _ (key p x hr) with h4|⟨-, -,h4⟩
  ·exfalso;cases hr with
   |ent he=>omega
   |step h1 h2 h3 =>
    have:=A9s h2 _ h3;omega
  grind
 ·rcases a.ok _ _ hp with h4|⟨h5,h6, -⟩<;>simp_all
theorem HInv.start(c:Prg):HInv c (List.replicate c.instrs.length (-1)) [] (c.entries.map B4y):=by
 refine⟨by simp,λp x hp=>?_,λs hs=>?_,λe he=>.inr (A4N he)⟩
 ·grind
 ·obtain⟨e,he,rfl⟩:=A0X.1 hs;exact .ent he
theorem HInv.perm{c:Prg}{h:List Int}{wk:List Nat}{l l':List (Nat × Int)}(a:HInv c h wk l)(hp:∀s,s∈l↔s∈l'):HInv c h wk l' :=
 ⟨a.len,λp x hx=>(a.ok p x hx).imp_right λ⟨u,v,w⟩=>⟨u,v,λhn=>⟨(w hn).1,λs hs=>((w hn).2 s hs).imp_right (hp s).1⟩⟩,λs hs=>a.to s ((hp s).2 hs),λe he=>(a.en e he).imp_right (hp _).1⟩
theorem HInv.skip{c:Prg}{h:List Int}{wk:List Nat}{l:List (Nat × Int)}{p:Nat}{x:Int}(a:HInv c h wk ((p,x)::l))(hx:h[p]? = some x):HInv c h wk l:=by
 refine⟨a.len,λq y hq=>?_,λs hs=>a.to s (A0D _ hs),λe he=>?_⟩
 ·rcases a.ok q y hq with h1|⟨u,v,w⟩<;>grind
 ·rcases a.en e he with h1|h1
  ·grind
  ·have hc:=A0U.1 h1;rcases hc with h2|h2
   ·left;have e1:e.pos.toNat=p:=congrArg Prod.fst h2;have e2:(0:Int)=x:=congrArg Prod.snd h2;rw[e1,e2];exact hx
   grind
theorem HInv.set{c:Prg}{h:List Int}{wk:List Nat}{l:List (Nat × Int)}{p:Nat}{x:Int}(a:HInv c h wk ((p,x)::l))(hp:p<h.length)(hn:h.getD p 0<0)(h0:0<=x):HInv c (h.set p x) (p::wk) l:=by
 have hg:=A9c hp;have up:∀(q:Nat) (y:Int),h[q]? = some y->0<=y->(h.set p x)[q]? = some y:=by
  grind
 have hput:(h.set p x)[p]? = some x:=j8
 refine⟨by simpa using a.len,λq y hq=>?_,λs hs=>a.to s (A0D _ hs),λe he=>?_⟩
 ·by_cases e:q=p
  ·subst e;rw[hput]at hq;cases hq;exact .inr ⟨h0,a.to _ A0H,λhn=>absurd A0H hn⟩
  ·rw[A4W,if_neg (Ne.symm e)]at hq;rcases a.ok q y hq with h1|⟨u,v,w⟩
   ·omega
   ·refine .inr ⟨u,v,λhn2=>?_⟩;have hw:=w λhm=>hn2 (A0D _ hm);refine⟨hw.1,λs hs=>?_⟩
    grind[A9s]
 ·rcases a.en e he with h1|h1
  ·grind
  ·rcases A0U.1 h1 with h2|h2
   ·left;have e1:e.pos.toNat=p:=congrArg Prod.fst h2;have e2:(0:Int)=x:=congrArg Prod.snd h2;rw[e1,e2];exact hput
   grind
theorem HInv.pop{c:Prg}{h:List Int}{wk:List Nat}{l:List (Nat × Int)}{p:Nat}(a:HInv c h (p::wk) l)(hok:OKs c p (h.getD p 0)):HInv c h wk (I2 (c.ins p) p (h.getD p 0)++l):=by
 have hp:p<h.length:=by rw[a.len];exact hok.1
 have hg:=A9c hp;have hr:Rch c p (h.getD p 0):=by
  rcases a.ok _ _ hg with h1|⟨-,h1, -⟩
  ·have:=hok.nn;omega
  omega
 refine⟨a.len,λq y hq=>?_,λs hs=>?_,λe he=>(a.en e he).imp_right λh1=>A4H _ h1⟩
 ·rcases a.ok q y hq with h1|⟨u,v,w⟩<;>grind
 ·rcases A1A.1 hs with h1|h1
  ·exact .step hr hok h1
  ·exact a.to s h1
theorem HInv.rch{c:Prg}{h:List Int}{wk:List Nat}{l:List (Nat × Int)}{p:Nat}{x:Int}(a:HInv c h wk l)(hp:h[p]? = some x)(h0:0<=x):Rch c p x:=by
 rcases a.ok _ _ hp with h1|⟨-,h1, -⟩<;>simp_all
theorem B0u(c:Prg):∀(n:Nat) (h:List Int) (st:List (Nat × Int)) (r:Option (List Int)),HInv c h [] st->B8r c n h st=some r->C3k c r
 |0,_,_,_,_,hr=>by cases hr
 |n+1,h,[],r,a,hr=>by
  simp only[B8r]at hr;cases hr;exact a.done
 |n+1,h,(p,x)::st,r,a,hr=>by
  simp only[B8r]at hr;have hrc:=a.to _ A0H;simp only at hrc;split at hr
  ·rename_i h1;cases hr;refine⟨p,x,hrc,.inl λhok=>?_⟩;have:=a.len;have:=hok.1;have:=hok.2.1;omega
  ·rename_i h1;have hp:p<h.length:=by omega
   have hg:=A9c hp;split at hr
   ·rename_i h2;split at hr
    ·rename_i h3;cases hr;exact⟨p,x,hrc,.inr ⟨_,a.rch hg h2,h3⟩⟩
    ·rename_i h3;have e:h.getD p 0=x:=Classical.not_not.1 h3;rw[e]at hg;exact B0u c n h st r (a.skip hg) hr
   ·rename_i h2;split at hr
    ·rename_i h3;cases hr;refine⟨p,x,hrc,.inl λhok=>?_⟩;rcases h3 with h3|h3
     ·have:=hok.2.2.1;grind
     ·exact hok.2.2.2 h3
    ·rename_i h3;have hok:OKs c p x:=⟨by rw[<- a.len];omega,a8,j8,λhh=>h3 (.inr hh)⟩;have s1:=a.set hp (by omega) hok.nn;have e:(h.set p x).getD p 0=x:=by grind
     have s2:=s1.pop (by grind);rw[e]at s2;exact B0u c n _ _ r (s2.perm λs=>by simp) hr
theorem A2r(c:Prg):∀(l:List (Nat × Int)) (h:List Int) (wk:List Nat),HInv c h wk l->(∀s∈l,0<=s.2)->match N0 h wk l with
  |none=>Bad c
  |some (h',wk')=>HInv c h' wk' []/\wk'.length+B1s h'<=wk.length+B1s h
 |[],h,wk,a,_=>⟨a,A0E _⟩
 |(p,x)::l,h,wk,a,h0=>by
  have hrc:=a.to _ A0H;have hx:=h0 _ A0H;simp only at hrc hx;have h0':∀s∈l,0<=s.2:=λs hs=>h0 s (A0D _ hs);simp only[N0];cases hR:K1 h wk p x with
  |none =>
   simp only;unfold K1 at hR;split at hR
   ·rename_i h1;by_cases hp:h.length<=p
    ·exact⟨p,x,hrc,.inl λhok=>by have:=hok.1;have:=a.len;omega⟩
    by_cases h2:x>48
    ·exact⟨p,x,hrc,.inl λhok=>by have:=hok.2.1;omega⟩
    ·have h3:0<=h.getD p 0/\h.getD p 0≠x:=by omega
     exact⟨p,x,hrc,.inr ⟨_,a.rch (A9c (by omega)) h3.1,h3.2⟩⟩
   grind
  |some q =>
   obtain⟨h',wk'⟩:=q;simp only;unfold K1 at hR;split at hR
   ·grind
   ·rename_i h1;have hp:p<h.length:=by omega
    split at hR
    ·rename_i h2;cases hR;have:=A2r c l _ _ (a.set hp h2 hx) h0';have hneg:B1s (h.set p x)+1=B1s h:=by
      have hgh:h.getD p 0=h[p]:=by simp[List.getD,hp]
      unfold B1s;rw[List.countP_set hp];have e1:decide (h[p]<0)=true:=b9
      have e2:decide (x<0)=false:=b9
      simp only[e1,e2,if_true,A1M,if_false];have:0<h.countP λx=>decide (x<0):=List.countP_pos_iff.2 ⟨h[p],A0O hp,e1⟩;omega
     grind
    ·cases hR;have e:h.getD p 0=x:=by omega
     exact A2r c l _ _ (a.skip (by grind)) h0'
theorem B6x(c:Prg):∀(n:Nat) (h:List Int) (wk:List Nat),HInv c h wk []->WkI c.instrs.length h wk->wk.length+B1s h<n->∃r,C1y c n h wk=some r/\C3k c r
 |0,_,_,_,_,hn=>a8
 |n+1,h,[],a,_,_=>⟨some h,rfl,a.done⟩
 |n+1,h,p::wk,a,hI,hn=>by
  simp only[C1y];obtain⟨s1,s2,s3⟩:=hI.mem p A0H;have hp:p<h.length:=by rw[hI.hl];omega
  have hrc:=a.rch (A9c hp) s2;split
  ·rename_i h1;refine⟨none,rfl,p,_,hrc,.inl λhok=>?_⟩;rcases h1 with h1|h1
   ·have:=hok.2.2.1;grind
   ·exact hok.2.2.2 h1
  ·rename_i h1;have hok:OKs c p (h.getD p 0):=⟨s1,s3,j8,λhh=>h1 (.inr hh)⟩;have key:=A2r c _ h wk ((a.pop hok).perm (l':=I2 (c.ins p) p (h.getD p 0)) λs=>by simp) (A9s hok);have hIt:WkI c.instrs.length h wk:=⟨hI.hl,λq hq=>hI.mem q (A0D _ hq)⟩;have kI:=λh' wk'=>A7p (h':=h') (wk':=wk') _ hIt (A9s hok)
   revert key kI
   simp only[Prg.ins];cases N0 h wk (I2 (c.instrs.getD p ⟨0,0⟩) p (h.getD p 0)) with
   |none=>exact λkey _=>⟨none,rfl,key⟩
   |some q =>
    obtain⟨h',wk'⟩:=q;rintro⟨a1,a2⟩ kI;exact B6x c n h' wk' a1 (kI h' wk' rfl).1 (by grind)
theorem C9g{c:Prg}(hl:c.instrs.length<=4000)(hj:K9 c=true):C3k c (hR c) :=
 B0u c _ _ _ _ ((HInv.start c).perm λs=>by simp[D1y]) (F4t hl hj)
theorem E2l{c:Prg}(hl:c.instrs.length<=4000)(hj:K9 c=true):C1x c 4001=some (hR c):=by
 have hr:=C9g hl hj;unfold C1x;have key:=A2r c _ _ [] (HInv.start c) (λs hs=>by obtain⟨e, -,rfl⟩:=A0X.1 hs;exact A2U 0);have kI:=λh' wk'=>A7p (len:=c.instrs.length) (h':=h') (wk':=wk') (c.entries.map B4y) (h:=List.replicate c.instrs.length (-1)) (wk:=[]) ⟨by simp,by simp⟩ (λs hs=>by obtain⟨e, -,rfl⟩:=A0X.1 hs;exact A2U 0)
 revert key kI
 cases N0 (List.replicate c.instrs.length (-1)) [] (c.entries.map B4y) with
 |none=>exact λkey _=>congrArg some (C3k.uniq (r:=none) key hr)
 |some q =>
  obtain⟨h',wk'⟩:=q;rintro⟨a1,a2⟩ kI;obtain⟨r,e,s⟩:=B6x c 4001 h' wk' a1 (kI h' wk' rfl).1 (by simp[B1s,List.countP_replicate]at a2 ⊢;omega)
  grind[C3k.uniq]
def C3v(c:Prg):List Int:=if H6 c=0 then(hR c).getD [] else []
theorem D1o{h:List Int}:D1q (some h)=.tup [J5 h,.bool true]:=rfl
theorem D1p:D1q none=.tup [.lst [],.bool false]:=rfl
theorem F6f{g:Bool}{a b c d:Int}:B4x g [0,0] (.agg [I64 a,I64 b]) (.agg [I64 c,I64 d])=some (.bool (g != (a==c&&b==d))):=by
 simp only[B4x,V3,A5t,if_true]
 grind
theorem F6e{g:Bool}{a b c d a' b' c' d':Int}:B4x g [0,0,0,0] (.agg [I64 a,I64 b,I64 c,I64 d]) (.agg [I64 a',I64 b',I64 c',I64 d'])=some (.bool (g != (a==a'&&(b==b'&&(c==c'&&d==d'))))):=by
 simp only[B4x,V3,A5t,if_true]
 grind
theorem B3v(a b:Prg):decide (a=b)=(decide (a.instrs=b.instrs)&&(decide (a.strings=b.strings)&&(decide (a.entries=b.entries)&&(decide (a.prios=b.prios)&&(decide (a.vars=b.vars)&&(decide (a.timers=b.timers)&&decide (a.events=b.events))))))):=by
 cases a;cases b<;>simp_all
theorem A6o{α:Type}[DecidableEq α]{a b:List α}{k:Nat}{x y : α}(ha:a[k]? = some x)(hb:b[k]? = some y)(h:a.take k=b.take k):(a.take (k+1)=b.take (k+1))↔x=y:=by
 simp_all[A0V]
theorem B2z{α:Type}{a b:List α}{k:Nat}{x y : α}(ha:a[k]? = some x)(hb:b[k]? = some y)(h:x≠y):a≠b:=by
 grind
theorem B3a{α:Type}{a b:List α}{k:Nat}(hl:a.length=b.length)(hk:a.length<=k)(h:a.take k=b.take k):a=b:=by
 grind[List.take_of_length_le]
theorem D6y(i j:Ins):(i.op==j.op&&i.A==j.A)=decide (i=j):=by
 cases i;cases j<;>grind
theorem D8l(i j:Ent):(i.mode==j.mode&&(i.trigger==j.trigger&&(i.index==j.index&&i.pos==j.pos)))=decide (i=j):=by
 cases i;cases j<;>grind
def A7f(mode trigger index:Int):List Ent->Option Int
 |[]=>none
 |e::r=>if e.mode=mode/\e.trigger=trigger/\e.index=index then some e.pos else A7f mode trigger index r
theorem C5p{m t i:Int}{l:List Ent}{k:Nat}{e:Ent}(h:l[k]? = some e):A7f m t i (l.drop k)=if e.mode=m/\e.trigger=t/\e.index=i then some e.pos else A7f m t i (l.drop (k+1)):=by
 have hk:k<l.length:=(A1G.1 h).1;rw[A1I hk];rw[A0B hk]at h;cases h;rfl
def F5k:Option Int->DV
 |some a=>.tup [I64 a,.bool true]
 |none=>.tup [I64 0,.bool false]
theorem B9r{n:Int}(h1:0<=n)(h2:n<=18446744073709551615):IntKind.u64.wrap n=n:=by
 grind[IntKind.wrap,IntKind.bits,IntKind.signed]
theorem wu8{n:Int}(h1:0<=n)(h2:n<=255):IntKind.u8.wrap n=n:=by
 grind[IntKind.wrap,IntKind.bits,IntKind.signed]
def zig(n:Int):Nat:=if n<0 then(-2*n-1).toNat else(2*n).toNat
def B3z(z:Nat):List UInt8:=if z<128 then [UInt8.ofNat z] else UInt8.ofNat (z%128+128)::B3z (z / 128)
termination_by z
decreasing_by omega
theorem A8q{z:Nat}(h:z<128):B3z z=[UInt8.ofNat z]:=by simp_all[B3z]
theorem B2t{z:Nat}(h:¬z<128):B3z z=UInt8.ofNat (z%128+128)::B3z (z / 128):=by rw[B3z,if_neg h]
theorem C1d:∀(k z:Nat),z<128 ^ (k+1)->(B3z z).length<=k+1
 |0,z,h=>by grind[A8q]
 |k+1,z,h=>by
  by_cases h0:z<128
  ·grind[A8q]
  ·rw[B2t h0,A0C];have:=C1d k (z / 128) (by omega);omega
def J0(n:Int):List UInt8:=B3z (zig n)
def bytesC(l:List UInt8):List DV:=l.map λb=>DV.int .u8 (b.toNat:Int)
theorem B5f(l:List UInt8):(bytesC l).length=l.length:=by simp[bytesC]
theorem A0j(l r:List UInt8):bytesC (l++r)=bytesC l++bytesC r:=by simp[bytesC]
theorem B7j:∀(l:List UInt8),A1n (bytesC l)=some l
 |[]=>rfl
 |b::l=>by
  show(match A1n (bytesC l) with
   |some s=>some (UInt8.ofNat (b.toNat:Int).toNat::s)
   |none=>none)=_
  rw[B7j l];simp
theorem A2y(l:List UInt8):(bytesC l).length=l.length*1:=by simp[bytesC]
theorem B1b{H:Hp}{id n u:Nat}{l:List UInt8}{cs:List DV}(h:H id=some ⟨u,true,cs⟩)(hc:cs=bytesC l)(hn:n=l.length):A5a H (.slc id 0 n)=some (.str l):=by
 simp_all[A5a,Nat.ble_eq_true_of_le,B5f,A0J,B7j]
theorem D9d(z:Nat):IntKind.u8.wrap (IntKind.u64.wrap ((z:Int).tmod 128+128))=((UInt8.ofNat (z%128+128)).toNat:Int):=by
 have h1:((z:Int).tmod 128)=((z%128:Nat):Int):=by simp[Int.tmod]
 rw[h1,B9r (by omega) (by omega),wu8 (by omega) (by omega)];simp;omega
theorem E3p{z:Nat}(h:z<128):IntKind.u8.wrap (z:Int)=((UInt8.ofNat z).toNat:Int):=by
 rfl
theorem E8k{z:Nat}(h:z<18446744073709551616):IntKind.u64.wrap ((z:Int).tdiv 128)=((z / 128:Nat):Int):=by
 grind[B9r]
theorem D2x{n:Int}(h0:0<=n)(h:n<=4611686018427387903):IntKind.u64.wrap (IntKind.i64.wrap (2*n))=(zig n:Int):=by
 rw[w6z,B9r (by omega) (by omega),zig,if_neg (by omega)];omega
theorem D2y{n:Int}(h0:n<0)(h : -4611686018427387904<=n):IntKind.u64.wrap (IntKind.i64.wrap (IntKind.i64.wrap (-2*n)-1))=(zig n:Int):=by
 have e:IntKind.i64.wrap (IntKind.i64.wrap (-2*n)-1) = -2*n-1:=by
  by_cases h1:n = -4611686018427387904
  ·subst h1;decide
  grind[w64]
 rw[e,B9r (by omega) (by omega),zig,if_pos h0];omega
theorem D2w{n:Int}(h1 : -4611686018427387904<=n)(h2:n<=4611686018427387903):zig n<18446744073709551616:=by
 grind[zig]
end Go.Pb
end

/-
  HELPERS of the claim: part 2 of its texts.
-/
import Derived.Test.YtnkkfehegdplgaaGreatDoorCcda
import Derived.Deep.LoopGhost
import Derived.MapKept
import Derived.MapFrom
import Derived.Lib.ConvBytes
import Derived.Lib.AppendZeros
noncomputable section
set_option linter.unusedVariables false
set_option linter.unusedSimpArgs false
namespace Go.Eng
structure St where
 T:Tm
 H:Hp
 c:Nat
def K4(P:Program)(f:Nat):Bool :=
 match P.funcs[f]? with
 | some fn => !(fn.name == "runtime.NumGoroutine") && fn.body.isSome
 |none=>false
inductive IOp where
 |pur (f:FOp)
 |new (f:AOp)
 |eff (f:EOp)
 |call (f:Nat) (args:List Opd)
 |callv (x:Opd) (args:List Opd)
structure IOper where
 dst:Option Nat
 op:IOp
 guard:Option (Nat × Bool)
def B7v(P:Program):Op->Option IOp
 |.call { callee:=.value (.func f),args,.. }=>(A8o args.toList).map (.call f)
 |.call { callee:=.value (.tmp t),args,.. }=>(A8o args.toList).map (.callv (.t t))
 |_=>none
def trI(P:Program)(op:Op):Option IOp :=
 match trF P op with
 |some f=>some (.pur f)
 |none=>match trA P op with
  |some f=>some (.new f)
  |none=>match trE P op with
   |some f=>some (.eff f)
   |none=>B7v P op
theorem A4k{P:Program}{f:Nat}(h:K4 P f=true)(args:Array Value)(w:World):(callFunc f args).run P w=.ok (.enter f args) w:=by
 unfold K4 at h;split at h
 ·rename_i fn hf;simp only[A0G,A3H]at h;have h1 : ¬ (fn.name == "runtime.NumGoroutine") = true := by rw [h.1]; simp
  have h2:¬fn.body.isNone=true:=by cases hb:fn.body<;>simp[hb]at h ⊢
  unfold callFunc;rw[Sem.run_bind,run_program,Result.andThen_ok];simp only[hf];rw[if_neg h1,if_neg h2];rfl
 grind
section
variable {P:Program} {ρ:Ren} {w:World} {a:Act} {N:Nat}
end
def trG(ops:Array Oper):Option (Nat × Bool)->Option (Option (Nat × Bool))
 |none=>some none
 |some (j,b)=>match ops[j]? with
  |some o=>match o.dst with
   |some t=>some (some (t,b))
   |none=>none
  |none=>none
def B1l(N:Nat):Option Nat->Bool
 |none=>true
 |some d=>Nat.ble (d+1) N
def trO(P:Program)(N:Nat)(ops:Array Oper)(o:Oper):Option IOper :=
 match trI P o.op,trG ops o.guard,B1l N o.dst with
 |some i,some g,true=>some ⟨o.dst,i,g⟩
 |_,_,_=>none
def trL(P:Program)(N:Nat)(ops:Array Oper):List Oper->Option (List IOper)
 |[]=>some []
 |o::r=>match trO P N ops o,trL P N ops r with
  |some i,some s=>some (i::s)
  |_,_=>none
section
variable {P:Program} {ρ:Ren} {w:World} {a:Act} {N:Nat}
theorem A1v(a:Act)(d:Option Nat)(v:Value):(a.put d v).tmps.size=a.tmps.size:=by
 cases d<;>simp[Act.put]
theorem W4(a:Act)(d:Option Nat)(v:Value):(a.put d v).defers=a.defers:=by
 cases d<;>rfl
end
def FOp.opds:FOp->List Opd
 |.mv x |.ld _ _ x |.fad _ x |.fld _ _ _ x |.ext x _ |.nck x |.un _ x |.cvi _ x |.cvs x |.cvbs x |.len x |.lens x=>[x]
 |.pick c a b=>[c,a,b]
 |.iad _ x i |.iada _ _ x i |.idx x i |.bin _ x i |.eqb _ x i |.eqn _ _ x i |.eqa _ _ x i |.mn x i |.mx x i=>[x,i]
 |.slc _ x lo hi |.sls x lo hi=>x::(lo.toList++hi.toList)
 |.mkf _ a c=>a++c
 |.bld _ _ ps=>ps.map (·.2)
def AOp.opds:AOp->List Opd
 |.box x=>[x]
 |.bsl _ _ _ ps=>ps.map (·.2)
 |.msl _ _ _ l c=>[l,c]
def EOp.opds:EOp->List Opd
 |.st _ x v=>[x,v]
 |.app _ _ s x |.apps s x=>[s,x]
 |.mkm _=>[]
 |.mup _ m k v=>[m,k,v]
 |.lkp _ _ _ m k=>[m,k]
 |.cvsb x |.cap0 x=>[x]
 |.cpy _ d s |.cpys d s=>[d,s]
 |.appz _ _ _ s x=>[s,x]
def IOp.opds:IOp->List Opd
 |.pur f=>f.opds
 |.new f=>f.opds
 |.eff f=>f.opds
 |.call _ args=>args
 |.callv x args=>x::args
structure DReg where
 ops:List IOper
 bef:List (List Nat)
 plan:List (Nat × Option (List Nat))
def isNew(io:List IOper)(j:Nat):Bool :=
 match io[j]? with
 |some ⟨_,.new _,_⟩=>true
 |_=>false
def K3(H:Hp)(ks:List Nat):Hp:=λid=>if id∈ks then none else H id
def O9(ks:List Nat)(H H':Hp):Hp:=λid=>if id∈ks then H id else H' id
def Opd.tmp? : Opd->Option Nat
 |.t n=>some n
 |_=>none
def IOper.sees(o:IOper):List Nat :=
 (match o.guard with
 |some (t,_)=>[t]
 |none=>[])++o.op.opds.filterMap Opd.tmp?
def A5b(bef:List (List Nat))(i:Nat):List Nat:=bef.getD i []
def R8(ops:Array Oper)(i:Nat)(done:List Nat):Bool :=
 match ops[i]? with
 |some o=>o.after.toList.all λe => !Region.binds .any e||done.contains e.on
 |none=>false
def A2z(ops:Array Oper)(bef:List (List Nat))(n:Nat):Bool :=
 (List.range n).all λi=>(A5b bef i).all λj=>match ops[i]? with
  |some o=>o.after.toList.any λe=>Region.binds .any e&&Nat.ble (e.on+1) i&&(e.on==j||(A5b bef e.on).contains j)
  |none=>false
def B6v:Opd->Bool
 |.k c=>flat c
 |_=>true
def B5q(io:List IOper)(bef:List (List Nat))(n i:Nat):Bool :=
 match io[i]? with
 |some o=>((match o.op with |.pur _ |.new _ |.eff (.lkp ..)=>true|_=>false)&&o.op.opds.all B6v)&&(match o.dst with
  |some d=>(List.range n).all λj=>match io[j]? with
   |some p=>(!p.sees.contains d||(A5b bef j).contains i)&&(j==i||p.dst != some d)
   |none=>false
  |none=>true)
 |none=>false
def A9d(plan:List (Nat × Option (List Nat))):List Nat:=(plan.filter λp=>p.2.isNone).map (·.1)
def chk(ops:Array Oper)(io:List IOper)(bef:List (List Nat))(n:Nat)(fr:List Nat):List Nat->List (Nat × Option (List Nat))->Bool
 |_,[]=>true
 |done,(i,none)::r=>R8 ops i done && !done.contains i&&Nat.ble (i+1) n&&B5q io bef n i&&fr.contains i&&chk ops io bef n fr (i::done) r
 |done,(i,some pend)::r=>R8 ops i done && !done.contains i&&Nat.ble (i+1) n && !fr.contains i &&
  (done.all λj=>(A5b bef i).contains j||(fr.contains j&&pend.contains j)) &&
  (fr.all λj=>done.contains j || !R8 ops j done) &&
  (pend.all λj=>done.contains j&&fr.contains j) &&
  chk ops io bef n fr (i::done) r
def DReg.ok(ops:Array Oper)(d:DReg):Bool :=
 let n:=ops.size
 let fr:=A9d d.plan
 A2z ops d.bef n&&((List.range n).all λi=>(d.plan.map (·.1)).contains i) &&
  (ops.toList.zipIdx.all λp=>p.1.after.toList.all λe => !Region.binds .any e||Nat.ble (e.on+1) p.2)&&chk ops d.ops d.bef n fr [] d.plan
section
open Classical
variable {P:Program} {ops:Array Oper} {io:List IOper} {bef:List (List Nat)} {n:Nat} {fr:List Nat} {c0 N:Nat} {T0:Tm}
def Lst(listed:Array Bool)(j:Nat):Prop:=listed.getD j false=true
def Q7(listed:Array Bool)(done:List Nat)(j:Nat):Prop:=j∈done/\¬Lst listed j
def A3a(ops:Array Oper)(X:Nat->Prop)(i:Nat):Prop:=∀o e,ops[i]? = some o->e∈o.after->Region.binds .any e=true->X e.on
theorem M9{i:Nat}{done:List Nat}(h:R8 ops i done=true):A3a ops (· ∈ done) i/\∃o,ops[i]? = some o:=by
 unfold R8 at h;split at h
 ·rename_i o ho;refine⟨λo' e ho' he hb=>?_,o,ho⟩;rw[ho]at ho';cases ho';rw[Array.all_toList,Array.all_eq_true']at h;have:=h e he;simpa[hb] using this
 grind
theorem P5{i:Nat}{done:List Nat}(h:A3a ops (· ∈ done) i){o:Oper}(ho:ops[i]? = some o):R8 ops i done=true:=by
 unfold R8;simp only[ho];rw[Array.all_toList,Array.all_eq_true'];intro e he;cases hb:Region.binds .any e with
 |false=>simp
 |true=>simpa using h o e ho he hb
theorem A5v(hb:A2z ops bef n=true){X:Nat->Prop}(hX:∀k,X k->A3a ops X k):∀(i:Nat),i<n->A3a ops X i->∀j∈A5b bef i,X j:=by
 intro i
 induction i using Nat.strongRecOn with
 |_ i ih =>
  intro hi hw j hj;unfold A2z at hb;rw[A0R]at hb;have h1:=hb i (A4G.2 hi);rw[A0R]at h1;have h2:=h1 j hj;split at h2
  ·rename_i o ho;rw[Array.any_toList,Array.any_eq_true']at h2;obtain⟨e,he,h3⟩:=h2;simp only[A0G,A1H,A2L,A1S]at h3;obtain⟨⟨h4,h5⟩,h6⟩:=h3;have hon:=hw o e ho he h4;rcases h6 with h6|h6
   ·exact h6▸hon
   ·exact ih e.on (by omega) (by omega) (hX _ hon) j (by simpa using h6)
  grind
theorem B5k(hb:A2z ops bef n=true){i j:Nat}(hi:i<n)(hj:j∈A5b bef i):j<i:=by
 induction i using Nat.strongRecOn generalizing j with
 |_ i ih =>
  unfold A2z at hb;rw[A0R]at hb;have h1:=hb i (A4G.2 hi);rw[A0R]at h1;have h2:=h1 j hj;split at h2
  ·rename_i o ho;rw[Array.any_toList,Array.any_eq_true']at h2;obtain⟨e,he,h3⟩:=h2;simp only[A0G,A1H,A2L,A1S]at h3;obtain⟨⟨h4,h5⟩,h6⟩:=h3;rcases h6 with h6|h6
   ·omega
   ·have:=ih e.on (by omega) (by omega) (j:=j) (by simpa using h6);omega
  grind
theorem B4i{listed:Array Bool}{j:Nat}(h:Lst listed j):j<listed.size:=by
 rcases Nat.lt_or_ge j listed.size with h'|h'
 ·omega
 ·simp[Lst,Array.getElem?_eq_none h']at h
theorem Y6{listed:Array Bool}{i j:Nat}(hi:i<listed.size):Lst (listed.setIfInBounds i true) j↔j=i\/Lst listed j:=by
 unfold Lst;by_cases h:i=j
 ·subst h;simp[hi]
 simp_all;omega
theorem U8{i:Nat}(h:B5q io bef n i=true):∃o,io[i]? = some o/\(∀x∈o.op.opds,B6v x=true) /\
  ∀d,o.dst=some d->∀j,j<n->∃p,io[j]? = some p/\(d∈p.sees->i∈A5b bef j)/\(j≠i->p.dst≠some d):=by
 unfold B5q at h;split at h
 ·rename_i o ho;rw[A0G]at h;obtain⟨h1,h2⟩:=h;refine⟨o,ho,?_,λd hd j hj=>?_⟩
  ·rw[A0G]at h1;exact A0R.1 h1.2
  ·rw[hd]at h2;simp only[A0R,A4G]at h2;have h3:=h2 j hj;split at h3
   ·rename_i p hp;refine⟨p,hp,λhs=>?_,λhne=>?_⟩
    ·rw[A0G]at h3;have:=h3.1;simpa[hs] using this
    ·rw[A0G]at h3;have:=h3.2;simp only[A1H,A1S,hne,false_or,bne_iff_ne]at this;exact this
   ·cases h3
 grind
end
section
open Classical
variable {P:Program} {ops:Array Oper} {io:List IOper} {bef:List (List Nat)} {n:Nat} {fr:List Nat} {c0 N:Nat} {T0:Tm}
theorem A3v:∀(r:List (Nat × Option (List Nat))) (done:List Nat),chk ops io bef n fr done r=true->∀i,i∈r.map (·.1)->i ∉ fr->∀e∈done,e ∉ fr->e∈A5b bef i
 |[],_,_,i,hi,_,e,_,_=>j8
 |(i0,none)::r,done,h,i,hi,hif,e,he,hef=>by
  simp only[chk,A0G,A2Y,A0L]at h;simp only[A0P]at hi;cases hi with
  |head=>grind
  |tail _ hi=>exact A3v r _ h.2 i hi hif e (A0D _ he) hef
 |(i0,some pend)::r,done,h,i,hi,hif,e,he,hef=>by
  simp only[chk,A0G,A3H,A0R,A1H,A2Y,A1O,A0L]at h;simp only[A0P]at hi;cases hi with
  |head =>
   grind
  |tail _ hi=>exact A3v r _ h.2 i hi hif e (A0D _ he) hef
theorem A3w:∀(r:List (Nat × Option (List Nat))) (done:List Nat),chk ops io bef n fr done r=true->∀i∈A9d r,B5q io bef n i=true
 |[],_,_,i,hi=>l9
 |(i0,none)::r,done,h,i,hi=>by
  simp only[chk,A0G]at h;simp only[A9d,List.filter_cons,Option.isNone_none,if_true,A0P]at hi;cases hi with
  |head=>grind
  |tail _ hi=>exact A3w r _ h.2 i hi
 |(i0,some pend)::r,done,h,i,hi=>by
  simp only[chk,A0G]at h;simp only[A9d,List.filter_cons,Option.isNone_some,A1M,if_false]at hi;exact A3w r _ h.2 i hi
theorem A6p{listed:Array Bool}{i:Nat}(hi:i<listed.size)(hl:¬Lst listed i){k:Nat}(h:listed.toList.count false=k+1):(listed.setIfInBounds i true).toList.count false=k:=by
 have hf:listed[i]=false:=by
  unfold Lst at hl;rw[A2O,A2V hi]at hl;simpa using hl
 grind
theorem A8a{listed:Array Bool}(h:listed.toList.count false=0){i:Nat}(hi:i<listed.size):Lst listed i:=by
 rw[List.count_eq_zero]at h;unfold Lst;rw[A2O,A2V hi]
 grind
variable {rest:List (Nat × Option (List Nat))} {done:List Nat} {listed:Array Bool} {s:St} {ρ:Ren} {a:Act} {w:World}
theorem B2j:∀ {os:List Oper} {is:List IOper},trL P N ops os=some is->∀(i:Nat) (o:Oper),os[i]? = some o->∃p,is[i]? = some p/\trO P N ops o=some p
 |[],is,h,i,o,ho=>j8
 |o0::os,is,h,i,o,ho=>by
  simp only[trL]at h;split at h
  ·rename_i p is' hp his;cases h;cases i with
   |zero=>cases ho;exact⟨p,rfl,hp⟩
   |succ i=>exact B2j his i o (by simpa using ho)
  grind
end
inductive Rg where
 |bad
 |r1 (io:List IOper) (m it:Nat)
 |r2 (it n:Nat) (io:List IOper)
 |r3 (it e:Nat) (io:List IOper)
inductive IC where
 |skip
 |reg (ops:List IOper)
 |drw (n:Nat) (d:DReg)
 |seq (x y:IC)
 |cond (c:Opd) (x y:IC)
 |blk (id:Nat) (x:IC)
 |loop (x:IC)
 |exit (id:Nat)
 |ret
 |bad
 |rg (r:Rg)
def E4t(o:Oper):List Nat:=(o.after.toList.filter λe=>Region.binds .any e).map (·.on)
def E5b:List Oper->List (List Nat)->List (List Nat)
 |[],acc=>acc
 |o::r,acc=>E5b r (acc++[((E4t o)++(E4t o).flatMap λj=>acc.getD j []).eraseDups])
def F9k(io:List IOper)(i:Nat):Bool :=
 match io[i]? with
 |some o=>match o.op with
  |.eff (.lkp ..)=>true
  |_=>false
 |none=>false
def F4n(ops:Array Oper)(io:List IOper)(bef:List (List Nat))(n:Nat)(lk:Bool)(i:Nat):Bool :=
 match ops[i]? with
 |some o=>match o.op with
  |.assign _=>true
  |_ => !B5q io bef n i||(!lk&&F9k io i)
 |none=>true
def C1h(ops:Array Oper)(eff:List Bool)(done:List Nat):Nat->Nat->Option Nat
 |0,_=>none
 |k+1,i=>if !(eff.getD i true) && !done.contains i&&R8 ops i done then some i else C1h ops eff done k (i+1)
def C8g(ops:Array Oper)(eff:List Bool)(done:List Nat):Nat->Nat->Option Nat
 |0,_=>none
 |k+1,i=>if eff.getD i true && !done.contains i&&R8 ops i done then some i else C8g ops eff done k (i+1)
def C4y(ops:Array Oper)(eff:List Bool)(bef:List (List Nat))(n:Nat):Nat->List Nat->List (Nat × Option (List Nat))
 |0,_=>[]
 |k+1,done =>
  match C1h ops eff done n 0 with
  |some i=>(i,none)::C4y ops eff bef n k (i::done)
  |none=>match C8g ops eff done n 0 with
   |some i=>(i,some ((done.filter λj => !(eff.getD j true) && !(bef.getD i []).contains j).reverse))::C4y ops eff bef n k (i::done)
   |none=>[]
def mkD(ops:Array Oper)(io:List IOper)(lk:Bool):DReg :=
 let n:=ops.size
 let bef:=E5b ops.toList []
 let eff:=(List.range n).map (F4n ops io bef n lk)
 ⟨io,bef,C4y ops eff bef n n []⟩
def F7r(P:Program)(N:Nat)(ops:Array Oper):Rg :=
 match ops.toList.reverse with
 |⟨some it,.range ty (.tmp m),_,_,_,none⟩::pre =>
  match P.underlying ty,trL P N ops pre.reverse,it.blt N with
  |some (.map _ _),some io,true=>.r1 io m it
  |_,_,_=>.bad
 |_=>.bad
def rgT(P:Program)(N:Nat)(ops:Array Oper):Bool->Rg
 |true=>.bad
 |false=>match ops.toList with
  |⟨some n,.next (.tmp it) false,_,_,_,none⟩::r=>match trL P N ops r,n.blt N with
   |some io,true=>.r2 it n io
   |_,_=>.bad
  |⟨some e,.entry (.tmp it),_,_,_,none⟩::r=>match trL P N ops r,e.blt N with
   |some io,true=>.r3 it e io
   |_,_=>.bad
  |_=>F7r P N ops
def trC(P:Program)(N:Nat):Code->Option IC
 |.skip=>some .skip
 |.region _ ops draw=>match trL P N ops ops.toList with
  |some io=>match draw with
   |false=>some (.reg io)
   |true=>if(mkD ops io false).ok ops then some (.drw ops.size ⟨io,[],(mkD ops io false).plan⟩) else if(mkD ops io true).ok ops then some (.drw ops.size ⟨io,[],(mkD ops io true).plan⟩) else some .bad
  |none=>some (.rg (rgT P N ops draw))
 |.seq a b=>match trC P N a,trC P N b with
  |some x,some y=>some (.seq x y)
  |_,_=>none
 |.cond c a b=>match opd c,trC P N a,trC P N b with
  |some c,some x,some y=>some (.cond c x y)
  |_,_,_=>none
 |.block id b=>(trC P N b).map (.blk id)
 |.loop b=>(trC P N b).map .loop
 |.exit id=>some (.exit id)
 |.ret=>some .ret
 |_=>some .bad
inductive RV where
 |tmp (t:Nat)
 |cell (a n:Nat) (agg:Bool)
def trR(P:Program):List ResultVar->Option (List RV)
 |[]=>some []
 |.tmp t::r=>(trR P r).map (.tmp t :: ·)
 |.cell a t::r=>match P.info? t,P.underlying t,trR P r with
  |some i,some u,some s=>some (.cell a i.size (Y8 u)::s)
  |_,_,_=>none
structure IFn where
 n:Nat
 body:IC
 res:List RV
def B1q(P:Program)(fn:Func):Option IFn :=
 if fn.name == "runtime.NumGoroutine" then none else
 match fn.body with
 |some c=>match trC P fn.ntmps c,trR P fn.results.toList with
  |some b,some r=>some ⟨fn.ntmps,b,r⟩
  |_,_=>none
 |none=>none
def P0(P:Program)(f:Nat)(i:IFn):Prop:=(P.funcs[f]?).bind (B1q P)=some i
def A7o(s:St):List RV->Option (List Value)
 |[]=>some []
 |.tmp t::r=>match A7o s r with
  |some vs=>some (s.T t::vs)
  |none=>none
 |.cell a n agg::r=>match ldv s.H n agg (s.T a),A7o s r with
  |some v,some vs=>some (v::vs)
  |_,_=>none
def C4g(tmps:Array Value):ResultVar->Sem Value
 |.tmp t=>pure (tmps.getD t undef)
 |.cell x t=>do loadVar t (<- asAddr (tmps.getD x undef))
theorem B3p(fn:Func)(tmps:Array Value):results fn tmps=(do let vs <- fn.results.mapM (C4g tmps);pure (if h:vs.size=1 then vs[0] else .tuple vs)):=by
 rfl
end Go.Eng
set_option linter.unusedSectionVars false
namespace Go.Sym
open Go.Eng (KKey)
class Tab where
 tab:List (Nat × (Array Value->Prop))
variable [Tab]
structure Tgt where
 block:Nat
 shift:Nat
 room:Nat
 unit:Nat
 mp:Bool
inductive DV where
 |bot
 |bool (b:Bool)
 |int (k:IntKind) (n:Int)
 |str (s:List UInt8)
 |pnil
 |ptr (id off:Nat)
 |snil
 |slc (id off n:Nat)
 |lst (xs:List DV)
 |fptr (cs:List DV)
 |fnil
 |func (f:Nat) (a c:List DV)
 |inil
 |iface (t:TypeId) (x:DV)
 |agg (cs:List DV)
 |tup (vs:List DV)
 |mpc (kd:KKey) (ks vs:List DV)
 |mid (id:Nat)
 |mp (kd:KKey) (ks vs:List DV)
 |mnil
 |ub
def DV.cells:DV->List DV
 |.agg cs=>cs
 |.bot=>[.bot]
 |.bool b=>[.bool b]
 |.int k n=>[.int k n]
 |.str s=>[.str s]
 |.pnil=>[.pnil]
 |.ptr i o=>[.ptr i o]
 |.snil=>[.snil]
 |.slc i o n=>[.slc i o n]
 |.lst xs=>[.lst xs]
 |.fptr cs=>[.fptr cs]
 |.fnil=>[.fnil]
 |.func f a c=>[.func f a c]
 |.inil=>[.inil]
 |.iface t x=>[.iface t x]
 |.tup vs=>[.tup vs]
 |.mpc d k v=>[.mpc d k v]
 |.mid i=>[.mid i]
 |.mp d k v=>[.mp d k v]
 |.mnil=>[.mnil]
 |.ub=>[.ub]
def DV.one:DV->Bool
 |.bot |.agg _ |.tup _ |.mpc _ _ _=>false
 |_=>true
def A1j:KKey->DV->Bool
 |.s,.str _=>true
 |.b,.bool _=>true
 |.i k,.int k' _=>decide (k'=k)
 |_,_=>false
def cellsL(xs:List DV):List DV:=xs.flatMap DV.cells
structure Ren where
 nm:Nat->Option Tgt
 fz:Nat->Option (Array Value)
 tab:∀p∈Tab.tab, ∃r,fz p.1=some r/\p.2 r
 fm:Nat->Option (Array MapEntry)
instance:CoeFun Ren (λ_=>Nat->Option Tgt):=⟨Ren.nm⟩
inductive VRel (ρ:Ren):DV->Value->Prop where
 |bot (v:Value):VRel ρ .bot v
 |bool (b:Bool):VRel ρ (.bool b) (.bool b)
 |int (k:IntKind) (n:Int):VRel ρ (.int k n) (.int k n)
 |str (s:ByteArray):VRel ρ (.str s.data.toList) (.string s)
 |pnil:VRel ρ .pnil (.pointer none)
 |ptr (id off:Nat) (t:Tgt) (h : ρ.nm id=some t) (hm:t.mp=false):VRel ρ (.ptr id off) (.pointer (some ⟨t.block,t.shift+off,none⟩))
 |snil:VRel ρ .snil (.slice none 0 0)
 |slc (id off n c:Nat) (t:Tgt) (h : ρ.nm id=some t) (hc:n<=c) (hm:c<=maxLen) (hr:t.unit=0\/off+c*t.unit<=t.room) (hp:t.mp=false) :
   VRel ρ (.slc id off n) (.slice (some ⟨t.block,t.shift+off,none⟩) n c)
 |lnil0:VRel ρ (.lst []) (.slice none 0 0)
 |lnil (a:Addr) (c:Nat):VRel ρ (.lst []) (.slice (some a) 0 c)
 |lst (xs:List DV) (n u b off c:Nat) (row:Array Value) (h : ρ.fz b=some row) (hn:n=xs.length) (hc:n<=c) (hm:c<=maxLen) (hu:∀x∈xs,x.cells.length=u)
   (hl:off+(cellsL xs).length<=row.size) (h1:∀d∈cellsL xs,d.one=true) (hx:∀(k:Nat) d v,(cellsL xs)[k]? = some d->row[off+k]? = some v->VRel ρ d v) :
   VRel ρ (.lst xs) (.slice (some ⟨b,off,none⟩) n c)
 |fptr (cs:List DV) (b off:Nat) (row:Array Value) (h : ρ.fz b=some row) (hl:off+cs.length<=row.size) (h1:∀d∈cs,d.one=true)
   (hx:∀(k:Nat) d v,cs[k]? = some d->row[off+k]? = some v->VRel ρ d v):VRel ρ (.fptr cs) (.pointer (some ⟨b,off,none⟩))
 |fnil:VRel ρ .fnil .nilFunc
 |func (f:Nat) (a:List DV) (b:Array Value) (c:List DV) (d:Array Value) (h1:a.length=b.size) (h2:∀(i:Nat) x y,a[i]? = some x->b[i]? = some y->VRel ρ x y)
   (h3:c.length=d.size) (h4:∀(i:Nat) x y,c[i]? = some x->d[i]? = some y->VRel ρ x y):VRel ρ (.func f a c) (.func (.func f) b d)
 |inil:VRel ρ .inil .nilIface
 |iface (t:TypeId) (x:DV) (y:Value) (h:VRel ρ x y):VRel ρ (.iface t x) (.iface t y)
 |agg (a:List DV) (b:Array Value) (h1:a.length=b.size) (h2:∀(i:Nat) x y,a[i]? = some x->b[i]? = some y->VRel ρ x y):VRel ρ (.agg a) (.agg b)
 |tup (a:List DV) (b:Array Value) (h1:a.length=b.size) (h2:∀(i:Nat) x y,a[i]? = some x->b[i]? = some y->VRel ρ x y):VRel ρ (.tup a) (.tuple b)
 |mid (id:Nat) (t:Tgt) (h : ρ.nm id=some t) (hm:t.mp=true):VRel ρ (.mid id) (.map (some t.block))
 |mp (kd:KKey) (ks vs:List DV) (b:Nat) (es:Array MapEntry) (h : ρ.fm b=some es) (h0:ks.all (A1j kd)=true) (h1:ks.length=es.size) (h2:vs.length=es.size)
   (h3:∀(i:Nat) x (e:MapEntry),ks[i]? = some x->es[i]? = some e->VRel ρ x e.key) (h4:∀(i:Nat) x (e:MapEntry),vs[i]? = some x->es[i]? = some e->VRel ρ x e.val):VRel ρ (.mp kd ks vs) (.map (some b))
 |mnil:VRel ρ .mnil (.map none)
 |ub (b:Bool):VRel ρ .ub (.bool b)
def I3(ρ:Ren)(a:List DV)(b:Array Value):Prop:=a.length=b.size/\∀(i:Nat) x y,a[i]? = some x->b[i]? = some y->VRel ρ x y
def B2c(ρ:Ren)(cs:List DV)(row:Array Value)(off:Nat):Prop :=
 off+cs.length<=row.size/\(∀d∈cs,d.one=true)/\∀(k:Nat) d v,cs[k]? = some d->row[off+k]? = some v->VRel ρ d v
structure Ren.le (ρ ρ':Ren):Prop where
 nm:∀id t, ρ.nm id=some t -> ρ'.nm id=some t
 fz:∀b r, ρ.fz b=some r -> ρ'.fz b=some r
 fm:∀b r, ρ.fm b=some r -> ρ'.fm b=some r
theorem Ren.le_refl(ρ:Ren): ρ.le ρ := ⟨λ_ _ h=>h,λ_ _ h=>h,λ_ _ h=>h⟩
theorem Ren.le_trans{a b c:Ren}(h:a.le b)(k:b.le c):a.le c:=⟨λid t e=>k.nm id t (h.nm id t e),λid t e=>k.fz id t (h.fz id t e),λid t e=>k.fm id t (h.fm id t e)⟩
theorem VRel.mono{ρ ρ':Ren}(hl : ρ.le ρ'){d:DV}{v:Value}(h:VRel ρ d v):VRel ρ' d v:=by
 induction h with
 |bot v=>exact .bot v
 |bool b=>exact .bool b
 |int k n=>exact .int k n
 |str s=>exact .str s
 |pnil=>exact .pnil
 |ptr id off t h hm=>exact .ptr id off t (hl.nm _ _ h) hm
 |snil=>exact .snil
 |slc id off n c t h hc hm hr hp=>exact .slc id off n c t (hl.nm _ _ h) hc hm hr hp
 |lnil0=>exact .lnil0
 |lnil a c=>exact .lnil a c
 |lst xs n u b off c row h hn hc hm hu hl2 h1 _ ih=>exact .lst xs n u b off c row (hl.fz _ _ h) hn hc hm hu hl2 h1 ih
 |fptr cs b off row h hl2 h1 _ ih=>exact .fptr cs b off row (hl.fz _ _ h) hl2 h1 ih
 |fnil=>exact .fnil
 |func f a b c d h1 _ h3 _ ih1 ih2=>exact .func f a b c d h1 ih1 h3 ih2
 |inil=>exact .inil
 |iface t x y _ ih=>exact .iface t x y ih
 |agg a b h1 _ ih=>exact .agg a b h1 ih
 |tup a b h1 _ ih=>exact .tup a b h1 ih
 |mid id t h hm=>exact .mid id t (hl.nm _ _ h) hm
 |mp kd ks vs b es h h0 h1 h2 _ _ ih1 ih2=>exact .mp kd ks vs b es (hl.fm _ _ h) h0 h1 h2 ih1 ih2
 |mnil=>exact .mnil
 |ub b=>exact .ub b
theorem I3.get{ρ:Ren}{a:List DV}{b:Array Value}(h:I3 ρ a b){i:Nat}{x:DV}(hx:a[i]? = some x):∃y,b[i]? = some y/\VRel ρ x y:=by
 have hi:i<a.length:=(A1G.1 hx).1;have hi':i<b.size:=h.1▸hi;exact⟨b[i],by simp,h.2 i x _ hx (by simp)⟩
section inv
variable {ρ:Ren} {v:Value}
theorem VRel.bool_inv{b:Bool}(h:VRel ρ (.bool b) v):v=.bool b:=by cases h;rfl
theorem VRel.int_inv{k:IntKind}{n:Int}(h:VRel ρ (.int k n) v):v=.int k n:=by cases h;rfl
theorem VRel.str_inv{s:List UInt8}(h:VRel ρ (.str s) v):v=.string ⟨s.toArray⟩:=by
 generalize hd:DV.str s=d at h;cases h<;>first|(cases hd;done)|skip
 simp_all
theorem VRel.mkStr{s:List UInt8}:VRel ρ (.str s) (.string ⟨s.toArray⟩):=by
 have:=VRel.str (ρ := ρ) ⟨s.toArray⟩;omega
theorem VRel.ptr_inv{id off:Nat}(h:VRel ρ (.ptr id off) v):∃t, ρ.nm id=some t/\t.mp=false/\v=.pointer (some ⟨t.block,t.shift+off,none⟩):=by
 cases h with
 |ptr _ _ t h hm=>grind
theorem VRel.fptr_inv{cs:List DV}(h:VRel ρ (.fptr cs) v):∃b off row,v=.pointer (some ⟨b,off,none⟩) /\ ρ.fz b=some row/\B2c ρ cs row off:=by
 cases h with
 |fptr _ b off row h hl h1 hx=>exact⟨b,off,row,rfl,h,hl,h1,hx⟩
theorem VRel.lst_inv{xs:List DV}(h:VRel ρ (.lst xs) v):(xs=[]/\(v=.slice none 0 0\/∃a c,v=.slice (some a) 0 c)) \/
  ∃u b off c row,v=.slice (some ⟨b,off,none⟩) xs.length c /\ ρ.fz b=some row/\xs.length<=c/\c<=maxLen/\(∀x∈xs,x.cells.length=u)/\B2c ρ (cellsL xs) row off:=by
 cases h with
 |lnil0=>simp
 |lnil a c=>simp
 |lst _ n u b off c row h hn hc hm hu hl h1 hx=>subst hn;exact .inr ⟨u,b,off,c,row,rfl,h,hc,hm,hu,hl,h1,hx⟩
theorem VRel.mid_inv{id:Nat}(h:VRel ρ (.mid id) v):∃t, ρ.nm id=some t/\t.mp=true/\v=.map (some t.block):=by
 cases h with
 |mid _ t h hm=>grind
theorem VRel.agg_inv{a:List DV}(h:VRel ρ (.agg a) v):∃b,v=.agg b/\I3 ρ a b:=by
 cases h with
 |agg _ b h1 h2=>exact⟨b,rfl,h1,h2⟩
theorem VRel.tup_inv{a:List DV}(h:VRel ρ (.tup a) v):∃b,v=.tuple b/\I3 ρ a b:=by
 cases h with
 |tup _ b h1 h2=>exact⟨b,rfl,h1,h2⟩
theorem VRel.func_inv{f:Nat}{a c:List DV}(h:VRel ρ (.func f a c) v):∃b d,v=.func (.func f) b d/\I3 ρ a b/\I3 ρ c d:=by
 cases h with
 |func _ _ b _ d h1 h2 h3 h4=>exact⟨b,d,rfl,⟨h1,h2⟩,⟨h3,h4⟩⟩
theorem VRel.mkAgg{a:List DV}{b:Array Value}(h:I3 ρ a b):VRel ρ (.agg a) (.agg b):=.agg a b h.1 h.2
theorem VRel.mkTup{a:List DV}{b:Array Value}(h:I3 ρ a b):VRel ρ (.tup a) (.tuple b):=.tup a b h.1 h.2
end inv
theorem VRel.one{ρ:Ren}{d:DV}{v:Value}(h:VRel ρ d v)(h1:d.one=true):v.oneCell'=true:=by
 cases h<;>first|rfl|(simp[DV.one]at h1;done)
theorem VRel.cells{ρ:Ren}{d:DV}{v:Value}(h:VRel ρ d v)(hb:d.cells.all DV.one=true):I3 ρ d.cells v.cells:=by
 have key:∀(x:DV) (y:Value),VRel ρ x y->I3 ρ [x] #[y]:=λx y hxy=>⟨rfl,λi a b ha hb=>by
  grind⟩
 cases h with
 |agg a b h1 h2=>trivial
 |bot v=>trivial
 |_=>refine key _ _ ?_;constructor<;>assumption
def injS:Value->DV
 |.bool b=>.bool b
 |.int k n=>.int k n
 |.string s=>.str s.data.toList
 |.pointer none=>.pnil
 |.nilFunc=>.fnil
 |.nilIface=>.inil
 |.slice none 0 0=>.snil
 |.map none=>.mnil
 |_=>.bot
def inj:Value->DV
 |.agg a=>.agg (a.toList.map injS)
 |.tuple a=>.tup (a.toList.map injS)
 |v=>injS v
theorem VRel.injS{ρ:Ren}(v:Value):VRel ρ (injS v) v:=by
 unfold Sym.injS;split<;>constructor
theorem A6r{ρ:Ren}(a:Array Value):I3 ρ (a.toList.map Sym.injS) a:=by
 refine⟨by simp,λi x y hx hy=>?_⟩;simp only[A1Z,A3R,hy,A3O,Option.some.injEq]at hx;subst hx;exact .injS y
theorem VRel.inj{ρ:Ren}(v:Value):VRel ρ (inj v) v:=by
 unfold Sym.inj;split
 ·exact .mkAgg (A6r _)
 ·exact .mkTup (A6r _)
 ·exact .injS v
def DV.scal:DV->Bool
 |.bool _ |.int .. |.str _ |.pnil |.snil |.fnil |.inil |.mnil=>true
 |_=>false
theorem VRel.scal{ρ ρ':Ren}{d:DV}{v:Value}(h:VRel ρ d v)(hs:d.scal=true):VRel ρ' d v:=by
 cases h<;>first|(constructor;done)|(simp[DV.scal]at hs;done)
structure Blk where
 unit:Nat
 own:Bool
 cells:List DV
abbrev Hp:=Nat->Option Blk
def Hp.upd(H:Hp)(id:Nat)(b:Blk):Hp:=λj=>if j=id then some b else H j
def Hp.del(H:Hp)(id:Nat):Hp:=λj=>if j=id then none else H j
def Ren.upd(ρ:Ren)(id:Nat)(t:Tgt):Ren:=⟨λj=>if j=id then some t else ρ.nm j, ρ.fz, ρ.tab, ρ.fm⟩
theorem Ren.le_upd{ρ:Ren}{id:Nat}{t:Tgt}(h : ρ.nm id=none): ρ.le (ρ.upd id t):=⟨λj u hj=>by
 unfold Ren.upd
 grind,λ_ _ h=>h,λ_ _ h=>h⟩
theorem Ren.upd_same(ρ:Ren)(id:Nat)(t:Tgt):(ρ.upd id t).nm id=some t:=by simp[Ren.upd]
def A0k(ρ:Ren)(cells:List DV)(c:Array Value)(shift:Nat):Prop :=
 ∀(i:Nat) v,cells[i]? = some v->v.one=true/\∃v',c[shift+i]? = some v'/\VRel ρ v v'
def E4c(u:Nat)(c:Array Value)(fr:Nat × Nat):Prop:=fr=(0,0)\/(u<=1/\c.size<=fr.1)
def E5y(ρ:Ren)(b:Blk)(t:Tgt)(w:World):Prop :=
 ∃c e fr,w.heap[t.block]? = some (.cells c e fr)/\t.shift+t.room=c.size/\b.cells.length<=t.room/\t.unit=b.unit/\A0k ρ b.cells c t.shift /\
  (b.own=true->E4c b.unit c fr/\t.shift=0)
def B1e(ρ:Ren)(kd:KKey)(ks vs:List DV)(es:Array MapEntry):Prop :=
 ks.all (A1j kd)=true/\ks.length=es.size/\vs.length=es.size/\(∀(i:Nat) x (e:MapEntry),ks[i]? = some x->es[i]? = some e->VRel ρ x e.key)/\∀(i:Nat) x (e:MapEntry),vs[i]? = some x->es[i]? = some e->VRel ρ x e.val
def Stp(es:Array MapEntry)(cl:Nat):Prop:=(es.toList.map (·.born)).Nodup/\∀x∈es.toList,x.born<cl
def E5x(ρ:Ren)(b:Blk)(t:Tgt)(w:World):Prop :=
 b.own=true/\t.shift=0/\∃es cl kd ks vs,w.heap[t.block]? = some (.map es cl)/\b.cells=[.mpc kd ks vs]/\B1e ρ kd ks vs es/\Stp es cl
def B2f(ρ:Ren)(b:Blk)(t:Tgt)(w:World):Prop:=(t.mp=false/\E5y ρ b t w)\/(t.mp=true/\E5x ρ b t w)
structure Rep (ρ:Ren) (H:Hp) (w:World):Prop where
 blk:∀id b,H id=some b->∃t, ρ.nm id=some t/\B2f ρ b t w
 sep:∀i j bi bj ti tj,H i=some bi->H j=some bj->i≠j -> ρ.nm i=some ti -> ρ.nm j=some tj->bi.own=true->ti.block≠tj.block
 frz:∀b r, ρ.fz b=some r->∃e fr,w.heap[b]? = some (.cells r e fr)
 dis:∀id b t,H id=some b->b.own=true -> ρ.nm id=some t -> ρ.fz t.block=none
 frm:∀b es, ρ.fm b=some es->(∃cl,w.heap[b]? = some (.map es cl)/\Stp es cl)/\∀id bl t,H id=some bl->bl.own=true -> ρ.nm id=some t->t.block≠b
theorem A0k.mono{ρ ρ':Ren}(hl : ρ.le ρ'){cells:List DV}{c:Array Value}{s:Nat}(h:A0k ρ cells c s):A0k ρ' cells c s :=
 λi v hv=>let ⟨h1,v',h2,h3⟩:=h i v hv;⟨h1,v',h2,h3.mono hl⟩
theorem B1e.mono{ρ ρ':Ren}(hl : ρ.le ρ'){kd:KKey}{ks vs:List DV}{es:Array MapEntry}(h:B1e ρ kd ks vs es):B1e ρ' kd ks vs es :=
 ⟨h.1,h.2.1,h.2.2.1,λi x e h1 h2=>(h.2.2.2.1 i x e h1 h2).mono hl,λi x e h1 h2=>(h.2.2.2.2 i x e h1 h2).mono hl⟩
theorem B2f.mono{ρ ρ':Ren}(hl : ρ.le ρ'){b:Blk}{t:Tgt}{w:World}(h:B2f ρ b t w):B2f ρ' b t w:=by
 rcases h with ⟨hm,c,e,fr,h1,h2,h3,h4,h5,h6⟩|⟨hm,h1,h2,es,cl,kd,ks,vs,h3,h4,h5⟩
 ·exact .inl ⟨hm,c,e,fr,h1,h2,h3,h4,h5.mono hl,h6⟩
 ·exact .inr ⟨hm,h1,h2,es,cl,kd,ks,vs,h3,h4,h5.1.mono hl,h5.2⟩
theorem B2f.world{ρ:Ren}{b:Blk}{t:Tgt}{w w':World}(h:B2f ρ b t w)(he:w'.heap[t.block]? = w.heap[t.block]?):B2f ρ b t w':=by
 rcases h with ⟨hm,c,e,fr,h1,h2⟩|⟨hm,h1,h2,es,cl,kd,ks,vs,h3,h4⟩
 ·exact .inl ⟨hm,c,e,fr,he.trans h1,h2⟩
 ·exact .inr ⟨hm,h1,h2,es,cl,kd,ks,vs,he.trans h3,h4⟩
theorem B2f.lt{ρ:Ren}{b:Blk}{t:Tgt}{w:World}(h:B2f ρ b t w):t.block<w.heap.size:=by
 rcases h with ⟨hm,c,e,fr,h1,h2⟩|⟨hm,h1,h2,es,cl,kd,ks,vs,h3,h4⟩
 ·exact(A0Z.1 h1).1
 grind
theorem Rep.flt{ρ:Ren}{H:Hp}{w:World}(h:Rep ρ H w){b:Nat}{r:Array Value}(hb : ρ.fz b=some r):b<w.heap.size :=
 let ⟨_,_,h1⟩:=h.frz b r hb;(A0Z.1 h1).1
structure Ext (ρ:Ren) (H:Hp) (w:World) (ρ':Ren) (H':Hp) (w':World):Prop where
 le : ρ.le ρ'
 os:w'.os=w.os
 tape:w'.tape=w.tape
 output:w'.output=w.output
 size:w.heap.size<=w'.heap.size
 keep:∀k,k<w.heap.size->(∀id b t,H id=some b->b.own=true -> ρ.nm id=some t->t.block≠k)->w'.heap[k]? = w.heap[k]?
 mine:∀id b t,H' id=some b -> ρ'.nm id=some t->w.heap.size<=t.block\/∃i b0 t0,H i=some b0/\(b.own=true->b0.own=true) /\ ρ.nm i=some t0/\t0.block=t.block
 fzn:∀k r, ρ'.fz k=some r -> ρ.fz k=some r\/w.heap.size<=k\/∃i b0 t0,H i=some b0/\b0.own=true /\ ρ.nm i=some t0/\t0.block=k
 fmn:∀k r, ρ'.fm k=some r -> ρ.fm k=some r\/w.heap.size<=k\/∃i b0 t0,H i=some b0/\b0.own=true /\ ρ.nm i=some t0/\t0.block=k
theorem Ext.refl(ρ:Ren)(H:Hp)(w:World):Ext ρ H w ρ H w :=
 ⟨Ren.le_refl _,rfl,rfl,rfl,A0E _,λ_ _ _=>rfl,λid b t h1 h3=>.inr ⟨id,b,t,h1,λh=>h,h3,rfl⟩,λk r h=>.inl h,λk r h=>.inl h⟩
theorem Ext.trans{ρ ρ' ρ'':Ren}{H H' H'':Hp}{w w' w'':World}(h:Ext ρ H w ρ' H' w')(k:Ext ρ' H' w' ρ'' H'' w''):Ext ρ H w ρ'' H'' w'' where
 le:=Ren.le_trans h.le k.le
 os:=k.os.trans h.os
 tape:=k.tape.trans h.tape
 output:=k.output.trans h.output
 size:=A1B h.size k.size
 keep:=λn hn hno=>by
  rw[k.keep n (A4R hn h.size) ?_,h.keep n hn hno];intro id b t h1 h2 h3 h4;rcases h.mine id b t h1 h3 with h5|⟨i,b0,t0,e1,e2,e3,e4⟩
  ·omega
  grind
 mine:=λid b t h1 h3=>by
  rcases k.mine id b t h1 h3 with h5|⟨i,b0,t0,e1,e2,e3,e4⟩
  ·exact .inl (A1B h.size h5)
  ·rcases h.mine i b0 t0 e1 e3 with h5|⟨i',b',t',f1,f2,f3,f4⟩
   ·exact .inl (e4▸h5)
   grind
 fzn:=λn r hr=>by
  rcases k.fzn n r hr with h1|h1|⟨i,b0,t0,e1,e2,e3,e4⟩
  ·exact h.fzn n r h1
  ·exact .inr (.inl (A1B h.size h1))
  ·rcases h.mine i b0 t0 e1 e3 with h5|⟨i',b',t',f1,f2,f3,f4⟩
   ·exact .inr (.inl (e4▸h5))
   grind
 fmn:=λn r hr=>by
  rcases k.fmn n r hr with h1|h1|⟨i,b0,t0,e1,e2,e3,e4⟩
  ·exact h.fmn n r h1
  ·exact .inr (.inl (A1B h.size h1))
  ·rcases h.mine i b0 t0 e1 e3 with h5|⟨i',b',t',f1,f2,f3,f4⟩
   ·exact .inr (.inl (e4▸h5))
   grind
theorem Ext.below{ρ ρ':Ren}{H H':Hp}{w w':World}(h:Ext ρ H w ρ' H' w')(hn:∀id b,H id=some b->b.own=false):RowKit.Below w.heap.size w w' :=
 ⟨h.os,h.tape,h.output,h.size,λk hk=>h.keep k hk λid b t h1 h2 _=>by grind⟩
end Go.Sym
namespace Go.Sym
variable [Go.Sym.Tab]
open Go.Eng (Opd FOp opd A8o B5r trF Y8 Y0 R9 A5j Q0 A2u C6u B7u)
abbrev Tm:=Nat->DV
def ev(T:Tm):Opd->DV
 |.t n=>T n
 |.k v=>inj v
 |.f n=>.func n [] []
def Tm.upd(T:Tm)(d:Nat)(v:DV):Tm:=λj=>if j=d then v else T j
def A3k(ρ:Ren)(T:Tm)(a:Act):Prop:=∀t,VRel ρ (T t) (a.tmps.getD t undef)
theorem A3k.mono{ρ ρ':Ren}(hl : ρ.le ρ'){T:Tm}{a:Act}(h:A3k ρ T a):A3k ρ' T a:=λt=>(h t).mono hl
theorem B4{ρ:Ren}{T:Tm}{a:Act}(hT:A3k ρ T a){o:Operand}{x:Opd}(h:opd o=some x):VRel ρ (ev T x) (a.eval o):=by
 cases o with
 |tmp t=>simp only[opd,Option.some.injEq]at h;subst h;exact hT t
 |const v =>
  simp only[opd]at h;split at h
  ·cases h;exact .inj _
  grind
 |func f=>simp only[opd,Option.some.injEq]at h;subst h;exact .func _ _ _ _ _ rfl (by simp) rfl (by simp)
 |global g=>cases h
theorem A1w{ρ:Ren}{T:Tm}{a:Act}(hT:A3k ρ T a):∀ {os:List Operand} {xs:List Opd},A8o os=some xs ->
  I3 ρ (xs.map (ev T)) (os.map a.eval).toArray
 |[],xs,h=>by simp only[A8o,Option.some.injEq]at h;subst h;exact⟨rfl,by simp⟩
 |o::os,xs,h=>by
  simp only[A8o]at h;split at h
  ·rename_i y s hy hs;cases h;have ih:=A1w hT hs;refine⟨by simpa using ih.1,λi x z hx hz=>?_⟩;cases i with
   |zero=>simp at hx hz;subst hx hz;exact B4 hT hy
   |succ i=>exact ih.2 i x z (by simpa using hx) (by simpa using hz)
  grind
theorem C4q{ρ:Ren}{T:Tm}{a:Act}(hT:A3k ρ T a){o:Option Operand}{x:Option Opd}(h:B5r o=some x):
  (x=none/\o=none)\/∃y z,x=some y/\o=some z/\VRel ρ (ev T y) (a.eval z):=by
 cases o with
 |none=>simp only[B5r,Option.some.injEq]at h;grind
 |some z =>
  simp only[B5r]at h;split at h
  ·rename_i y hy;cases h;exact .inr ⟨y,z,rfl,rfl,B4 hT hy⟩
  grind
def ldv(H:Hp)(n:Nat)(agg:Bool):DV->Option DV
 |.ptr id off =>
  match H id with
  |some b =>
   match agg with
   |true=>match Nat.ble (off+n) b.cells.length with
    |true=>some (.agg ((b.cells.drop off).take n))
    |false=>none
   |false=>b.cells[off]?
  |none=>none
 |.fptr cs =>
  match agg with
  |true=>match Nat.ble n cs.length with
   |true=>some (.agg (cs.take n))
   |false=>none
  |false=>cs[0]?
 |_=>none
def intR(op:BinOp)(k:IntKind)(a b:Int):Option DV :=
 match op with
 |.add=>some (.int k (k.wrap (a+b)))
 |.sub=>some (.int k (k.wrap (a-b)))
 |.mul=>some (.int k (k.wrap (a*b)))
 |.quo=>if b=0 then none else some (.int k (k.wrap (a.tdiv b)))
 |.rem=>if b=0 then none else some (.int k (a.tmod b))
 |.and=>some (.int k (bits .and k a b))
 |.or=>some (.int k (bits .or k a b))
 |.xor=>some (.int k (bits .xor k a b))
 |.andNot=>some (.int k (bits .andNot k a b))
 |.eql=>some (.bool (a==b))
 |.neq=>some (.bool (a != b))
 |.lss=>some (.bool (a<b))
 |.leq=>some (.bool (a<=b))
 |.gtr=>some (.bool (a>b))
 |.geq=>some (.bool (a≥b))
 |_=>none
def strR(op:BinOp)(a b:List UInt8):Option DV :=
 match op with
 |.add=>if a.length+b.length<=maxLen then some (.str (a++b)) else none
 |.eql=>some (.bool (a==b))
 |.neq=>some (.bool !(a==b))
 |.lss=>some (.bool (Op.bytesLess a b))
 |.leq=>some (.bool (Op.bytesLess a b||a==b))
 |.gtr=>some (.bool !(Op.bytesLess a b||a==b))
 |.geq=>some (.bool !(Op.bytesLess a b))
 |_=>none
def binR(op:BinOp)(x y:DV):Option DV :=
 match x,y with
 |.int k a,.int j b =>
  match op with
  |.shl=>if b<0 then none else some (.int k (k.wrap (a*2 ^ (min b.toNat k.bits))))
  |.shr=>if b<0 then none else some (.int k (a.fdiv (2 ^ (min b.toNat k.bits))))
  |_=>if k=j then intR op k a b else none
 |.str a,.str b=>strR op a b
 |_,_=>none
def unR(op:UnOp)(x:DV):Option DV :=
 match op,x with
 |.neg,.int k n=>some (.int k (k.wrap (0-n)))
 |.xor,.int k n=>some (.int k (bits .xor k (if k.signed then -1 else k.max) n))
 |.not,.bool b=>some (.bool !b)
 |_,_=>none
def B5t(kd:Nat)(x y:DV):Option Bool :=
 match kd,x,y with
 |0,.pnil,.pnil=>some true
 |0,.pnil,.ptr _ _=>some false
 |0,.pnil,.fptr _=>some false
 |0,.ptr _ _,.pnil=>some false
 |0,.fptr _,.pnil=>some false
 |1,.snil,.snil=>some true
 |1,.snil,.slc _ _ _=>some false
 |1,.slc _ _ _,.snil=>some false
 |1,.lst (_::_),.snil=>some false
 |2,.fnil,.fnil=>some true
 |2,.fnil,.func _ _ _=>some false
 |2,.func _ _ _,.fnil=>some false
 |3,.inil,.inil=>some true
 |3,.iface _ _,.inil=>some false
 |_,_,_=>none
def A5t(kd:Nat)(x y:DV):Option Bool :=
 match kd,x,y with
 |0,.int j a,.int k b=>if j=k then some (a==b) else none
 |1,.bool a,.bool b=>some (a==b)
 |2,.str a,.str b=>some (a==b)
 |_,_,_=>none
def V3:List Nat->List DV->List DV->Option Bool
 |[],_,_=>some true
 |kd::ks,x::a,y::b =>
  match A5t kd x y with
   |some true=>V3 ks a b
   |some false=>some false
   |none=>none
 |_,_,_=>none
def A1n:List DV->Option (List UInt8)
 |[]=>some []
 |.int .u8 n::r=>match A1n r with
  |some s=>some (UInt8.ofNat n.toNat::s)
  |none=>none
 |_::_=>none
def boundOf(d:Nat):Option DV->Option Nat
 |none=>some d
 |some (.int _ n)=>if 0<=n then some n.toNat else none
 |some _=>none
def unit(sz:Nat)(xs:List DV):Bool:=xs.all λx=>x.cells.length==sz
def A7j(H:Hp)(sz:Nat)(x:DV)(lo hi:Option DV):Option DV :=
 match x with
 |.snil =>
  match boundOf 0 hi,boundOf 0 lo with
  |some 0,some 0=>some .snil
  |_,_=>none
 |.slc id off n =>
  match boundOf n hi,boundOf 0 lo with
  |some h,some l =>
   if h<=n/\l<=h then
    if l=0 then some (.slc id off h)
    else if l=h then some (.lst [])
    else match H id with
     |some b=>if b.unit=sz\/b.unit=0 then some (.slc id (off+l*sz) (h-l)) else none
     |none=>none
   else none
  |_,_=>none
 |.lst xs =>
  match boundOf xs.length hi,boundOf 0 lo with
  |some h,some l=>if h<=xs.length/\l<=h/\unit sz xs=true then some (.lst ((xs.drop l).take (h-l))) else none
  |_,_=>none
 |_=>none
def slsR(s:List UInt8)(lo hi:Option DV):Option DV :=
 match boundOf s.length hi,boundOf 0 lo with
 |some h,some l=>if h<=s.length/\l<=h then some (.str ((s.drop l).take (h-l))) else none
 |_,_=>none
def C4b(off:Nat):List DV->List DV->List DV
 |[],cs=>cs
 |x::xs,cs=>C4b (off+1) xs (cs.set off x)
def A4y(pl:Nat->Option (Nat × Nat)):List (Nat × DV)->List DV->Option (List DV)
 |[],cs=>some cs
 |(i,v)::ps,cs =>
  match pl i with
  |some (off,size)=>if v.cells.length=size/\off+size<=cs.length/\v.cells.all DV.one=true then A4y pl ps (C4b off v.cells cs) else none
  |none=>none
def A9b(sz:Nat)(x i:DV):Option DV :=
 match x,i with
 |.slc id o n,.int _ j=>if 0<=j/\j<n then some (.ptr id (o+j.toNat*sz)) else none
 |.lst xs,.int _ j=>if 0<=j/\j<xs.length then
   match xs[j.toNat]? with
   |some y=>if y.cells.length=sz then some (.fptr y.cells) else none
   |none=>none
  else none
 |_,_=>none
def C1u(len sz:Nat)(x i:DV):Option DV :=
 match x,i with
 |.ptr id o,.int _ j=>if 0<=j/\j<len then some (.ptr id (o+j.toNat*sz)) else none
 |.fptr cs,.int _ j=>if 0<=j/\j<len/\j.toNat*sz<=cs.length then some (.fptr (cs.drop (j.toNat*sz))) else none
 |_,_=>none
def C5j(x i:DV):Option DV :=
 match x,i with
 |.str s,.int _ j=>if 0<=j then(match s[j.toNat]? with|some b=>some (.int .u8 b.toNat)|none=>none) else none
 |_,_=>none
def A5a(H:Hp):DV->Option DV
 |.snil=>some (.str [])
 |.slc id o n =>
  match H id with
  |some b=>match Nat.ble (o+n) b.cells.length with
   |true=>match A1n ((b.cells.drop o).take n) with
    |some l=>some (.str l)
    |none=>none
   |false=>none
  |none=>none
 |.lst xs=>match A1n xs with
  |some l=>some (.str l)
  |none=>none
 |_=>none
def D1w(off:Nat):DV->Option DV
 |.ptr id o=>some (.ptr id (o+off))
 |.fptr cs=>match Nat.ble off cs.length with
  |true=>some (.fptr (cs.drop off))
  |false=>none
 |_=>none
def C5o(off n:Nat)(agg:Bool):DV->Option DV
 |.agg cs=>match agg with
  |true=>match Nat.ble (off+n) cs.length with
   |true=>some (.agg ((cs.drop off).take n))
   |false=>none
  |false=>cs[off]?
 |_=>none
def C0v(c a b:DV):Option DV :=
 match c with
 |.bool true=>some a
 |.bool false=>some b
 |_=>none
def E2v(i:Nat):DV->Option DV
 |.tup vs=>vs[i]?
 |_=>none
def E1k:DV->Option DV
 |.ptr id o=>some (.ptr id o)
 |.fptr cs=>some (.fptr cs)
 |.func f a c=>some (.func f a c)
 |_=>none
def F0w(neg:Bool)(x y:DV):Option DV :=
 match x,y with
 |.bool a,.bool b=>some (.bool (neg != (a==b)))
 |_,_=>none
def E2x:Nat->DV->DV->Option DV
 |1,.lst [],.snil=>some .ub
 |_,_,_=>none
def D8h(neg:Bool)(kd:Nat)(x y:DV):Option DV :=
 match B5t kd x y with
 |some r=>some (.bool (neg != r))
 |none=>E2x kd x y
def B4x(neg:Bool)(ks:List Nat)(x y:DV):Option DV :=
 match x,y with
 |.agg a,.agg b=>match V3 ks a b with
  |some r=>some (.bool (neg != r))
  |none=>none
 |_,_=>none
def E3i(k:IntKind):DV->Option DV
 |.int _ n=>some (.int k (k.wrap n))
 |_=>none
def F6m:DV->Option DV
 |.str s=>some (.str s)
 |_=>none
def B1t:DV->Option DV
 |.snil=>some (.int .i64 0)
 |.slc _ _ n=>some (.int .i64 n)
 |.lst xs=>some (.int .i64 xs.length)
 |_=>none
def C8v:DV->Option DV
 |.str s=>some (.int .i64 s.length)
 |_=>none
def mnR(x y:DV):Option DV :=
 match x,y with
 |.int k a,.int _ b=>some (.int k (if b<a then b else a))
 |_,_=>none
def mxR(x y:DV):Option DV :=
 match x,y with
 |.int k a,.int _ b=>some (.int k (if b>a then b else a))
 |_,_=>none
def E0h(x:DV)(lo hi:Option DV):Option DV :=
 match x with
 |.str s=>slsR s lo hi
 |_=>none
def D9h(zero:List DV)(pl:List (Nat × Nat))(parts:List (Nat × DV)):Option DV :=
 match A4y (λi=>pl[i]?) parts zero with
 |some cs=>some (.agg cs)
 |none=>none
def fev(H:Hp)(e:Opd->DV):FOp->Option DV
 |.mv x=>some (e x)
 |.pick c a b=>C0v (e c) (e a) (e b)
 |.ld n agg x=>ldv H n agg (e x)
 |.fad off x=>D1w off (e x)
 |.iad sz x i=>A9b sz (e x) (e i)
 |.iada len sz x i=>C1u len sz (e x) (e i)
 |.idx x i=>C5j (e x) (e i)
 |.fld off n agg x=>C5o off n agg (e x)
 |.ext x i=>E2v i (e x)
 |.nck x=>E1k (e x)
 |.bin op x y=>binR op (e x) (e y)
 |.eqb neg x y=>F0w neg (e x) (e y)
 |.eqn neg kd x y=>D8h neg kd (e x) (e y)
 |.eqa neg ks x y=>B4x neg ks (e x) (e y)
 |.un op x=>unR op (e x)
 |.cvi k x=>E3i k (e x)
 |.cvs x=>F6m (e x)
 |.cvbs x=>A5a H (e x)
 |.slc sz x lo hi=>A7j H sz (e x) (lo.map e) (hi.map e)
 |.sls x lo hi=>E0h (e x) (lo.map e) (hi.map e)
 |.mkf f a c=>some (.func f (a.map e) (c.map e))
 |.bld zero pl parts=>D9h (zero.toList.map injS) pl (parts.map λp=>(p.1,e p.2))
 |.len x=>B1t (e x)
 |.lens x=>C8v (e x)
 |.mn x y=>mnR (e x) (e y)
 |.mx x y=>mxR (e x) (e y)
open Go.Eng (Opd FOp opd A8o B5r trF Y8 Y0 R9 A5j Q0 A2u C6u B7u A1c)
section
variable {P:Program} {ρ:Ren} {H:Hp} {w:World} {T:Tm} {a:Act}
theorem Rep.look(hR:Rep ρ H w){id:Nat}{b:Blk}(hb:H id=some b){t:Tgt}(ht : ρ.nm id=some t)(hm:t.mp=false):E5y ρ b t w:=by
 obtain⟨t',h1,h2⟩:=hR.blk id b hb;rw[ht]at h1;cases h1;rcases h2 with ⟨-,h2⟩|⟨h2, -⟩
 ·exact h2
 grind
theorem Rep.lookm(hR:Rep ρ H w){id:Nat}{b:Blk}(hb:H id=some b){t:Tgt}(ht : ρ.nm id=some t)(hm:t.mp=true):E5x ρ b t w:=by
 obtain⟨t',h1,h2⟩:=hR.blk id b hb;rw[ht]at h1;cases h1;rcases h2 with ⟨h2, -⟩|⟨-,h2⟩
 ·rw[hm]at h2;cases h2
 omega
theorem Rep.lookb(hR:Rep ρ H w){id:Nat}{b:Blk}(hb:H id=some b){t:Tgt}(ht : ρ.nm id=some t):B2f ρ b t w:=by
 obtain⟨t',h1,h2⟩:=hR.blk id b hb
 grind
theorem A0k.get{cells:List DV}{c:Array Value}{s:Nat}(h:A0k ρ cells c s){i:Nat}{v:DV}(hv:cells[i]? = some v):∃v',c[s+i]? = some v'/\VRel ρ v v':=(h i v hv).2
theorem A0k.seg{cells:List DV}{c:Array Value}{s:Nat}(h:A0k ρ cells c s){off n:Nat}(hn:off+n<=cells.length)(hc:s+cells.length<=c.size):
  I3 ρ ((cells.drop off).take n) ((c.toList.drop (s+off)).take n).toArray:=by
 refine⟨b9,λi x y hx hy=>?_⟩;simp only[A1X,A1V,A2F]at hx hy;split at hx
 ·rename_i hi;simp only[hi,if_true]at hy;obtain⟨v',h1,h2⟩:=h.get hx;rw[<- A2P]at h1;have:c[s+off+i]? = some y:=by simpa using hy
  rw[h1]at this;cases this;exact h2
 grind
theorem B2c.seg{cs:List DV}{row:Array Value}{off:Nat}(h:B2c ρ cs row off){n:Nat}(hn:n<=cs.length):I3 ρ (cs.take n) ((row.toList.drop off).take n).toArray:=by
 obtain⟨h1,h2,h3⟩:=h;refine⟨b9,λi x y hx hy=>?_⟩
 grind
theorem B2c.drop{cs:List DV}{row:Array Value}{off:Nat}(h:B2c ρ cs row off){k:Nat}(hk:k<=cs.length):B2c ρ (cs.drop k) row (off+k):=by
 obtain⟨h1,h2,h3⟩:=h;refine⟨b9,λd hd=>h2 d (List.mem_of_mem_drop hd),λi x y hx hy=>?_⟩
 grind
theorem B2c.take{cs:List DV}{row:Array Value}{off:Nat}(h:B2c ρ cs row off)(k:Nat):B2c ρ (cs.take k) row off:=by
 obtain⟨h1,h2,h3⟩:=h;refine⟨b9,λd hd=>h2 d (A3U hd),λi x y hx hy=>?_⟩
 grind
theorem VRel.mkFptr{cs:List DV}{b off:Nat}{row:Array Value}(h : ρ.fz b=some row)(hf:B2c ρ cs row off):VRel ρ (.fptr cs) (.pointer (some ⟨b,off,none⟩)) :=
 .fptr cs b off row h hf.1 hf.2.1 hf.2.2
theorem C3{u:Nat}:∀ {xs:List DV},(∀x∈xs,x.cells.length=u)->(cellsL xs).length=xs.length*u
 |[],_=>by simp[cellsL]
 |x::xs,h=>by
  have ih:=C3 (xs:=xs) λy hy=>h y (A0D _ hy);have hx:=h x A0H;simp only[cellsL,A2B,A0A,A0C]at ih ⊢
  grind
theorem A5s{u:Nat}:∀ {xs:List DV},(∀x∈xs,x.cells.length=u)->∀k,cellsL (xs.drop k)=(cellsL xs).drop (k*u)
 |[],_,k=>by simp[cellsL]
 |x::xs,h,0=>by simp
 |x::xs,h,k+1=>by
  have ih:=A5s (xs:=xs) (λy hy=>h y (A0D _ hy)) k;have hx:=h x A0H;rw[List.drop_succ_cons,ih];simp only[cellsL,A2B];rw[List.drop_append,hx,A3M,Nat.one_mul,A4B,A2S (i:=k*u+u) (as:=x.cells) (by omega),List.nil_append]
theorem B1m{u:Nat}:∀ {xs:List DV},(∀x∈xs,x.cells.length=u)->∀k,cellsL (xs.take k)=(cellsL xs).take (k*u)
 |[],_,k=>by simp[cellsL]
 |x::xs,h,0=>by simp[cellsL]
 |x::xs,h,k+1=>by
  have ih:=B1m (xs:=xs) (λy hy=>h y (A0D _ hy)) k;have hx:=h x A0H;rw[A0Y];simp only[cellsL,A2B]at ih ⊢;rw[ih,List.take_append,hx,A3M,Nat.one_mul,A4B]
  grind
theorem C3c{u:Nat}{xs:List DV}(h:∀x∈xs,x.cells.length=u){j:Nat}{y:DV}(hy:xs[j]? = some y):((cellsL xs).drop (j*u)).take u=y.cells:=by
 rw[<- A5s h];have hj:j<xs.length:=(A1G.1 hy).1;have e:xs.drop j=y::xs.drop (j+1):=by
  rw[A1I hj]
  congr 1
  rw[A0B hj]at hy;exact Option.some.inj hy
 have hm:y∈xs:=A0W hy;rw[e];simp only[cellsL,A2B]
 grind
theorem B9t{sz:Nat}{xs:List DV}:unit sz xs=true↔∀x∈xs,x.cells.length=sz:=by
 simp[unit,A0R]
theorem C1o(hR:Rep ρ H w){t:TypeId}{i:TypeInfo}{u:TypeDesc}(hi:P.info? t=some i)(hu:P.underlying t=some u){p v:DV}{p':Value}(hp:VRel ρ p p')
  (h:ldv H i.size (Y8 u) p=some v):∃v',(Instr.loadAt t p').run P w=.ok v' w/\VRel ρ v v':=by
 have go:∀(b off:Nat) (row:Array Value) (e:TypeId) (fr:Nat × Nat),w.heap[b]? = some (.cells row e fr)->∀(cs:List DV),off+cs.length<=row.size->I3 ρ cs ((row.toList.drop off).take cs.length).toArray ->
   (match Y8 u with
   |true=>match Nat.ble i.size cs.length with
    |true=>some (.agg (cs.take i.size))
    |false=>none
   |false=>cs[0]?)=some v->∃v',(Instr.loadAt t (.pointer (some ⟨b,off,none⟩))).run P w=.ok v' w/\VRel ρ v v':=by
  intro b off row e fr hb cs hl hA h;split at h
  ·rename_i hagg;split at h
   ·rename_i hle;rw[A2L]at hle;cases h;have hA':I3 ρ (cs.take i.size) ((row.toList.drop off).take i.size).toArray:=by
     refine⟨b9,λj x y hx hy=>hA.2 j x y ?_ ?_⟩
     ·rw[A1V]at hx;split at hx
      ·exact hx
      ·cases hx
     ·simp only[A1X,A1V]at hy ⊢;split at hy
      ·rename_i hj;have:j<cs.length:=by omega
       simp only[this,if_true];exact hy
      ·cases hy
    refine⟨_,?_,.mkAgg hA'⟩;simp only[Instr.loadAt,Instr.sureAddr,loadVar,Sem.run_bind,Sem.run_pure,Result.andThen_ok,Eng.run_isAgg hu,hagg,if_true,Eng.run_sizeOf hi,
     Eng.run_loadCells_row hb (show off+i.size<=row.size by omega)]
   ·cases h
  ·rename_i hagg;obtain⟨v',g1,g2⟩:=hA.get h;have hlt:0<cs.length:=(A1G.1 h).1;have g3:row[off]? = some v':=by
    simp only[A1X,A1V,hlt,if_true,A2F]at g1;simpa using g1
   refine⟨v',?_,g2⟩;have hc:w.cell? ⟨b,off,none⟩=some v':=by rw[cell_of_row w _ _ row e fr hb];exact g3
   simp only[Instr.loadAt,Instr.sureAddr,loadVar,Sem.run_bind,Sem.run_pure,Result.andThen_ok,Eng.run_isAgg hu,hagg,A1M,if_false,run_load,hc]
 unfold ldv at h;split at h
 ·rename_i id off;obtain⟨tg,ht,hmp,rfl⟩:=hp.ptr_inv;split at h
  ·rename_i b hb;obtain⟨c,e,fr,h1,h2,h3,h4,h5,h6⟩:=hR.look hb ht hmp;by_cases hoff:off<=b.cells.length
   ·have hs:=h5.seg (off:=off) (n:=b.cells.length-off) (by omega) (by omega);have hd:(b.cells.drop off).take (b.cells.length-off)=b.cells.drop off:=A0J (by simp);rw[hd]at hs;refine go tg.block (tg.shift+off) c e fr h1 (b.cells.drop off) (by simp;omega) (by simpa using hs) ?_;cases hagg:Y8 u with
    |true =>
     rw[hagg]at h;simp only at h ⊢;cases hc:Nat.ble (off+i.size) b.cells.length with
     |true =>
      rw[hc]at h;rw[A2L]at hc;have:Nat.ble i.size (b.cells.drop off).length=true:=by rw[A2L];simp;omega
      rw[this];exact h
     |false=>rw[hc]at h;cases h
    |false=>rw[hagg]at h;simp only at h ⊢;rw[A2F];simpa using h
   ·exfalso;cases hagg:Y8 u with
    |true =>
     rw[hagg]at h;simp only at h;split at h
     ·rename_i hc;rw[A2L]at hc;omega
     ·cases h
    |false=>rw[hagg]at h;simp only at h;have:=(A1G.1 h).1;omega
  ·cases h
 ·rename_i cs;obtain⟨b,off,row,rfl,hf,hF⟩:=hp.fptr_inv;obtain⟨e,fr,hb⟩:=hR.frz b row hf;refine go b off row e fr hb cs hF.1 ?_ h;have:=hF.seg (A0E cs.length)
  rwa [A1T]at this
 grind
theorem C4o{t:TypeId}{i:TypeInfo}{u:TypeDesc}(hi:P.info? t=some i)(hu:P.underlying t=some u){cs:List DV}{cs':Array Value}(hc:I3 ρ cs cs'){off:Nat}{v:DV}
  (h:C5o off i.size (Y8 u) (.agg cs)=some v):∃v',(part t cs' off).run P w=.ok v' w/\VRel ρ v v':=by
 unfold C5o at h;simp only[]at h;split at h
 ·rename_i hagg;split at h
  ·rename_i hle;rw[A2L]at hle;cases h;refine⟨.agg (cs'.extract off (off+i.size)),?_,?_⟩
   ·simp[part,Eng.run_isAgg hu,hagg,Eng.run_sizeOf hi]
   ·refine .mkAgg ⟨?_,λj x y hx hy=>?_⟩
    ·have:=hc.1;simp;omega
    ·simp only[A1V,A2F]at hx;split at hx
     ·rename_i hj;rw[Array.getElem?_extract]at hy;split at hy
      ·exact hc.2 (off+j) x y (by simpa using hx) hy
      ·cases hy
     ·cases hx
  grind
 ·rename_i hagg;obtain⟨y,hy,hr⟩:=hc.get h;refine⟨y,?_,hr⟩;simp[part,Eng.run_isAgg hu,hagg,hy]
def toS:DV->Option Value
 |.bool b=>some (.bool b)
 |.int k n=>some (.int k n)
 |.str s=>some (.string ⟨s.toArray⟩)
 |_=>none
theorem C6w{d:DV}{v s:Value}(h:VRel ρ d v)(hs:toS d=some s):v=s:=by
 cases d<;>simp only[toS,Option.some.injEq,reduceCtorEq]at hs<;>subst hs
 ·exact h.bool_inv
 ·exact h.int_inv
 ·exact h.str_inv
def ρ0:Eng.Ren:=λ_=>none
theorem D8m{d:DV}{s:Value}(hs:toS d=some s):Eng.VRel ρ0 s s:=by
 cases d<;>simp only[toS,Option.some.injEq,reduceCtorEq]at hs<;>subst hs<;>constructor
theorem E0g(s:List UInt8):Eng.strL ⟨s.toArray⟩=s:=by rfl
theorem bin_sound{op:BinOp}{t:TypeId}{x y:Operand}{u v r:DV}{u' v':Value}(hx:VRel ρ u u')(hy:VRel ρ v v')(h:binR op u v=some r):
  ∃r',(do eqGuard op t x y u' v';binOp op t u' v').run P w=.ok r' w/\VRel ρ r r':=by
 have fin:∀(s1 s2 r':Value),toS u=some s1->toS v=some s2->Eng.binR op s1 s2=some r'->VRel ρ r r'->∃r',(do eqGuard op t x y u' v';binOp op t u' v').run P w=.ok r' w/\VRel ρ r r':=by
  intro s1 s2 r' h1 h2 h3 h4;rw[C6w hx h1,C6w hy h2];exact⟨r',(Eng.bin_sound (P:=P) (w:=w) (t:=t) (x:=x) (y:=y) (D8m h1) (D8m h2) h3).1,h4⟩
 unfold binR at h;split at h
 ·rename_i k m j n;have key:∃r',Eng.binR op (.int k m) (.int j n)=some r'/\VRel ρ r r':=by
   unfold Eng.binR;simp only[];cases op
   case shl=>simp only[]at h ⊢;split at h<;>cases h;rename_i hn;rw[if_neg hn];exact⟨_,rfl,.int _ _⟩
   case shr=>simp only[]at h ⊢;split at h<;>cases h;rename_i hn;rw[if_neg hn];exact⟨_,rfl,.int _ _⟩
   all_goals
    simp only[]at h ⊢;split at h
    case isFalse=>cases h
    rename_i hkj;rw[if_pos hkj];subst hkj;unfold intR at h;unfold Eng.intR;simp only[]at h ⊢;first
     |(cases h;done)
     |(cases h;exact⟨_,rfl,by constructor⟩)
     |(split at h;cases h;rename_i hn;rw[if_neg hn];cases h;exact⟨_,rfl,by constructor⟩)
  obtain⟨r',k1,k2⟩:=key;exact fin _ _ r' rfl rfl k1 k2
 ·rename_i s1 s2;have key:∃r',Eng.binR op (.string ⟨s1.toArray⟩) (.string ⟨s2.toArray⟩)=some r'/\VRel ρ r r':=by
   unfold Eng.binR;simp only[];unfold Eng.strR;unfold strR at h;cases op<;>simp only[E0g]at h ⊢ <;> first
    |(cases h;done)
    |(cases h;exact⟨_,rfl,by constructor⟩)
    |skip
   split at h
   ·rename_i hle;cases h;refine⟨.string ⟨s1.toArray++s2.toArray⟩,?_,?_⟩
    ·rw[if_pos (by simpa using hle)]
    ·have:=VRel.mkStr (ρ := ρ) (s:=s1++s2)
     rwa [<- List.append_toArray]at this
   ·cases h
  obtain⟨r',k1,k2⟩:=key;exact fin _ _ r' rfl rfl k1 k2
 grind
theorem D3j{op:UnOp}{u r:DV}{u':Value}(hx:VRel ρ u u')(h:unR op u=some r):∃r',(Op.unary op u').run P w=.ok r' w/\VRel ρ r r':=by
 unfold unR at h;split at h
 ·cases hx.int_inv;cases h;exact⟨_,by simp[Op.unary,Op.intArith],.int _ _⟩
 ·cases hx.int_inv;cases h;exact⟨_,by simp[Op.unary,intBits_xor],.int _ _⟩
 ·cases hx.bool_inv;cases h;exact⟨_,by simp[Op.unary],.bool _⟩
 grind
theorem C2o{d:Nat}{t:TypeId}{D:TypeDesc}(hu:P.underlying t=some D){kd:Nat}(hD:A2u D=some kd)
  {u v:DV} {u' v':Value} {r:Bool} (hx:VRel ρ u u') (hy:VRel ρ v v') (h:B5t kd u v=some r):(Op.equalIn (d+1) t u' v').run P w=.ok r w:=by
 cases D<;>simp only[A2u,Option.some.injEq,reduceCtorEq]at hD<;>subst hD<;>unfold B5t at h<;>split at h;all_goals(first|(cases h;done)|(rename_i he;cases he;done)|skip)
 all_goals cases hx<;>cases hy<;>cases h<;>simp[Op.equalIn,run_underlying hu]
theorem B0z{t:TypeId}{x y:Operand}{D:TypeDesc}(hu:P.underlying t=some D){kd:Nat}(hD:A2u D=some kd)
  {u v:DV} {u' v':Value} {r:Bool} (hx:VRel ρ u u') (hy:VRel ρ v v') (h:B5t kd u v=some r) :
  (do eqGuard .eql t x y u' v';binOp .eql t u' v').run P w=.ok (.bool r) w/\(do eqGuard .neq t x y u' v';binOp .neq t u' v').run P w=.ok (.bool (!r)) w:=by
 have he:=C2o (d:=9999) (w:=w) hu hD hx hy h;have h3:kd≠3:=by rintro rfl;cases D<;>cases hD
 have hg:∀op,eqGuard op t x y u' v'=pure ():=by
  intro op;unfold B5t at h;split at h;all_goals(first|(cases h;done)|(exact absurd rfl h3)|skip)
  all_goals cases hx<;>cases hy<;>cases op<;>rfl
 have hb:(binOp .eql t u' v').run P w=.ok (.bool r) w/\(binOp .neq t u' v').run P w=.ok (.bool (!r)) w:=by
  unfold B5t at h;split at h;all_goals(first|(cases h;done)|(exact absurd rfl h3)|skip)
  all_goals cases hx<;>cases hy<;>simp only[binOp]<;>simp[Op.equal,Op.maxDepth,he]
 grind
theorem B4w{t:TypeId}{x y:Operand}{D:TypeDesc}(hu:P.underlying t=some D){kd:Nat}(hD:A2u D=some kd)
  {u v d:DV} {u' v':Value} (hx:VRel ρ u u') (hy:VRel ρ v v') (h:E2x kd u v=some d) :
  ∃r,(do eqGuard .eql t x y u' v';binOp .eql t u' v').run P w=.ok (.bool r) w/\(do eqGuard .neq t x y u' v';binOp .neq t u' v').run P w=.ok (.bool (!r)) w/\d=.ub:=by
 unfold E2x at h;split at h
 ·cases h;have hv:v'=.slice none 0 0:=by cases hy;rfl
  subst hv;have hcase:u'=.slice none 0 0\/∃a c,u'=.slice (some a) 0 c:=by
   rcases hx.lst_inv with ⟨-,h|⟨a,c,h⟩⟩|⟨u0,b,off,c,row,h, -⟩
   ·exact .inl h
   ·exact .inr ⟨a,c,h⟩
   ·exact .inr ⟨_,c,h⟩
  rcases hcase with rfl|⟨a,c,rfl⟩
  ·obtain⟨h1,h2⟩:=B0z (w:=w) (x:=x) (y:=y) (ρ := ρ) hu hD (u:=.snil) (v:=.snil) .snil .snil rfl;exact⟨true,h1,h2,rfl⟩
  ·have he1:∀d,(Op.equalIn (d+1) t (.slice (some a) 0 c) (.slice none 0 0)).run P w=.ok false w:=by
    intro d;cases D<;>simp only[A2u,Option.some.injEq,reduceCtorEq]at hD<;>(try(cases hD;done))<;>simp[Op.equalIn,run_underlying hu]
   have he:=he1 9999;have hg:∀op,eqGuard op t x y (.slice (some a) 0 c) (.slice none 0 0)=pure ():=by intro op;cases op<;>rfl
   refine⟨false,?_,?_,rfl⟩
   ·rw[Sem.run_bind,hg,Sem.run_pure,Result.andThen_ok];simp only[binOp];simp[Op.equal,Op.maxDepth,he]
   ·rw[Sem.run_bind,hg,Sem.run_pure,Result.andThen_ok];simp only[binOp];simp[Op.equal,Op.maxDepth,he]
 grind
theorem D8i{x y:DV}:E2x 3 x y=none:=by
 rfl
theorem B7d{t:TypeId}{x:Operand}{ms:Array (String × TypeId)}(hu:P.underlying t=some (.interface ms))
  {u:DV} {u':Value} {r:Bool} (hx:VRel ρ u u') (h:B5t 3 u .inil=some r) :
  (do eqGuard .eql t x (.const .nilIface) u' .nilIface;binOp .eql t u' .nilIface).run P w=.ok (.bool r) w/\(do eqGuard .neq t x (.const .nilIface) u' .nilIface;binOp .neq t u' .nilIface).run P w=.ok (.bool (!r)) w:=by
 have he1:∀d,(Op.equalIn (d+1) t u' .nilIface).run P w=.ok r w:=by
  intro d;unfold B5t at h;split at h;all_goals(first|(cases h;done)|(rename_i q1 q2 q3;cases q1;done)|skip)
  all_goals(first|(rename_i he;cases he;done)|skip)
  all_goals cases hx<;>cases h<;>simp[Op.equalIn,run_underlying hu]
 have he:=he1 9999;have hg:∀op,eqGuard op t x (.const .nilIface) u' .nilIface=pure ():=by
  intro op;unfold B5t at h;split at h;all_goals(first|(cases h;done)|skip)
  all_goals(first|(cases hx<;>cases op<;>simp[eqGuard]<;>done)|skip)
 have hb:(binOp .eql t u' .nilIface).run P w=.ok (.bool r) w/\(binOp .neq t u' .nilIface).run P w=.ok (.bool (!r)) w:=by
  unfold B5t at h;split at h;all_goals(first|(cases h;done)|skip)
  all_goals cases hx<;>simp only[binOp]<;>simp[Op.equal,Op.maxDepth,he]
 grind
theorem I3.set{a:List DV}{b:Array Value}(h:I3 ρ a b){x:DV}{y:Value}(hv:VRel ρ x y)(i:Nat):I3 ρ (a.set i x) (b.setIfInBounds i y):=by
 refine⟨by simpa using h.1,λj u v hu hv'=>?_⟩;rw[A4W]at hu;rw[A4M]at hv';by_cases e:i=j
 ·grind
 ·simp only[e,if_false]at hu hv';exact h.2 j u v hu hv'
theorem C7c(off:Nat):∀(xs:List DV) (ys:List Value) (k:Nat) (a:List DV) (b:Array Value),xs.length=ys.length->(∀(i:Nat) x y,xs[i]? = some x->ys[i]? = some y->VRel ρ x y)->I3 ρ a b ->
  I3 ρ (C4b (off+k) xs a) ((ys.zipIdx k).foldl (λcs (p:Value × Nat)=>cs.setIfInBounds (off+p.2) p.1) b)
 |[],[],k,a,b,_,_,h=>h
 |[],_::_,k,a,b,hl,_,h=>j8
 |_::_,[],k,a,b,hl,_,h=>j8
 |x::xs,y::ys,k,a,b,hl,hr,h=>by
  simp only[List.zipIdx_cons,List.foldl_cons,C4b];exact C7c off xs ys (k+1) _ _ (by grind) (λi u v hu hv=>hr (i+1) u v (by grind) (by grind)) (h.set (hr 0 x y rfl rfl) _)
theorem B1i:∀(xs:List DV) (off:Nat) (cs:List DV),(C4b off xs cs).length=cs.length
 |[],_,_=>rfl
 |x::xs,off,cs=>by simp only[C4b];rw[B1i xs];simp
theorem A7x(pl:Nat->Option (Nat × Nat)):∀(ps:List (Nat × DV)) (qs:List (Nat × Value)) (z:List DV) (z':Array Value) (c:List DV),ps.length=qs.length ->
  (∀(i:Nat) p q,ps[i]? = some p->qs[i]? = some q->p.1=q.1/\VRel ρ p.2 q.2)->I3 ρ z z'->A4y pl ps z=some c->∃c',Instr.fill pl z' qs=some c'/\I3 ρ c c'
 |[],[],z,z',c,_,_,h,hc=>by simp only[A4y,Option.some.injEq]at hc;subst hc;exact⟨z',rfl,h⟩
 |[],_::_,z,z',c,hl,_,h,hc=>j8
 |_::_,[],z,z',c,hl,_,h,hc=>j8
 |p::ps,q::qs,z,z',c,hl,hr,h,hc=>by
  obtain⟨i,v⟩:=p;obtain⟨j,u⟩:=q;obtain⟨rfl,huv⟩:i=j/\VRel ρ v u:=hr 0 (i,v) (j,u) rfl rfl;simp only[A4y]at hc;simp only[Instr.fill];split at hc
  ·rename_i off size hpl;split at hc
   ·rename_i hg;obtain⟨g1,g2,g3⟩:=hg;have hcs:=huv.cells g3;rw[hpl];simp only[];have hno':¬((u.cells.size != size||decide (off+u.cells.size>z'.size))=true):=by
     rw[<- hcs.1, <- h.1];simp only[A1H,A0L,not_or,bne_iff_ne,ne_eq,Decidable.not_not];omega
    rw[if_neg (by simpa using hno')];refine A7x pl ps qs _ _ c (by simpa using hl) (λk a b ha hb=>hr (k+1) a b (by simpa using ha) (by simpa using hb)) ?_ hc;rw[<- Array.foldl_toList];simp only[Array.toList_zipIdx];have:=C7c off v.cells u.cells.toList 0 z z' (by simpa using hcs.1) (λk a b ha hb=>hcs.2 k a b (by simpa using ha) (by simpa using hb)) h;simpa using this
   ·cases hc
  grind
theorem A9f(pl:Nat->Option (Nat × Nat)):∀(ps:List (Nat × DV)) (z c:List DV),A4y pl ps z=some c->c.length=z.length
 |[],z,c,h=>by simp only[A4y,Option.some.injEq]at h;rw[h]
 |p::ps,z,c,h=>by
  obtain⟨i,v⟩:=p;simp only[A4y]at h;split at h
  ·split at h
   ·rw[A9f pl ps _ _ h,B1i]
   ·cases h
  grind
theorem A9n{d:Nat}{t:TypeId}{kd:Nat}(hk:A5j (P.underlying t)=some kd){x y:DV}{x' y':Value}{r:Bool}(hx:VRel ρ x x')(hy:VRel ρ y y')(h:A5t kd x y=some r):
  (Op.equalIn (d+1) t x' y').run P w=.ok r w:=by
 cases hu:P.underlying t with
 |none=>rw[hu]at hk;cases hk
 |some D =>
  rw[hu]at hk;cases D<;>simp only[A5j,Option.some.injEq,reduceCtorEq]at hk<;>subst hk<;>unfold A5t at h<;>split at h;all_goals(first|(cases h;done)|(rename_i he;cases he;done)|skip)
  ·cases hx.bool_inv;cases hy.bool_inv;cases h;simp[Op.equalIn,run_underlying hu]
  ·cases hx.int_inv;cases hy.int_inv;split at h
   ·rename_i hjk;subst hjk;cases h;simp[Op.equalIn,run_underlying hu]
   grind
  ·cases hx.str_inv;cases hy.str_inv;cases h;simp[Op.equalIn,run_underlying hu,beq_toListBytes,ByteArray.toList_eq]
theorem cell_part{t:TypeId}{kd:Nat}(hk:A5j (P.underlying t)=some kd){cs:Array Value}{i:Nat}{v:Value}(h:cs[i]? = some v):(part t cs i).run P w=.ok v w:=Eng.cell_part hk h
theorem A7h(d:Nat){a b:List DV}{a' b':Array Value}(ha:I3 ρ a a')(hb:I3 ρ b b'):∀(fs:List Field) (n:Nat) (ks:List Nat) (r:Bool),
  Q0 P n fs=some ks->V3 ks (a.drop n) (b.drop n)=some r->(Op.eqFields (d+1) a' b' fs).run P w=.ok r w
 |[],n,ks,r,hp,h=>by
  simp only[Q0,Option.some.injEq]at hp;subst hp;simp only[V3,Option.some.injEq]at h;subst h;rfl
 |f::fs,n,ks,r,hp,h=>by
  simp only[Q0]at hp;split at hp
  ·rename_i k ks' hk hks;split at hp
   ·rename_i hof;obtain⟨h1,h2⟩:=hof;cases hp;have hda:∀ {l:List DV} {z:DV} {r:List DV},l.drop n=z::r->l[n]? = some z/\l.drop (n+1)=r:=by
     intro l z r hl;have e1:(l.drop n)[0]? = some z:=by rw[hl];rfl
     rw[A2F]at e1;refine⟨by simpa using e1,?_⟩;rw[<- A3E,hl];rfl
    cases hla:a.drop n with
    |nil=>rw[hla]at h;simp only[V3,reduceCtorEq]at h
    |cons x as =>
    cases hlb:b.drop n with
    |nil=>rw[hla,hlb]at h;simp only[V3,reduceCtorEq]at h
    |cons y bs =>
     rw[hla,hlb]at h;simp only[V3]at h;obtain⟨hx,ea⟩:=hda hla;obtain⟨hy,eb⟩:=hda hlb;obtain⟨x',hx',rx⟩:=ha.get hx;obtain⟨y',hy',ry⟩:=hb.get hy;have e1:(part f.type a' f.offset).run P w=.ok x' w:=cell_part hk (by rw[h1];exact hx');have e2:(part f.type b' f.offset).run P w=.ok y' w:=cell_part hk (by rw[h1];exact hy');simp only[Op.eqFields,ne_eq,h2,not_false_eq_true,if_true,Sem.run_bind,e1,e2,Result.andThen_ok];split at h
     ·rename_i hc;rw[A9n hk rx ry hc];simp only[Result.andThen_ok,Bool.not_true,A1M,if_false];exact A7h d ha hb fs (n+1) ks' r hks (by rw[ea,eb];exact h)
     ·rename_i hc;cases h;rw[A9n hk rx ry hc];simp
     ·cases h
   ·cases hp
  grind
theorem B7e{t:TypeId}{x y:Operand}{fs:Array Field}(hu:P.underlying t=some (.struct fs)){ks:List Nat}(hp:Q0 P 0 fs.toList=some ks)(h1:P.stoodInHeld t=false)
  (h2:P.eqGuardType P.depth t=false) {a b:List DV} {a' b':Array Value} {r:Bool} (ha:I3 ρ a a') (hb:I3 ρ b b') (h:V3 ks a b=some r) :
  (do eqGuard .eql t x y (.agg a') (.agg b');binOp .eql t (.agg a') (.agg b')).run P w=.ok (.bool r) w /\
  (do eqGuard .neq t x y (.agg a') (.agg b');binOp .neq t (.agg a') (.agg b')).run P w=.ok (.bool (!r)) w:=by
 have hf:P.fieldsOf t=fs:=by simp[Program.fieldsOf,hu]
 have he:(Op.equalIn 10000 t (.agg a') (.agg b')).run P w=.ok r w:=by
  rw[run_equalIn_agg w 9999 t a' b' (by grind) h1,hf];exact A7h 9998 ha hb fs.toList 0 ks r hp h
 constructor
 ·rw[Sem.run_bind,run_eqGuard_agg w .eql t x y a' b' h2,Result.andThen_ok,run_eql_struct,he];rfl
 ·rw[Sem.run_bind,run_eqGuard_agg w .neq t x y a' b' h2,Result.andThen_ok,run_neq_struct,he];rfl
theorem A0o{d:Nat}{x:Option DV}{b:Nat}(h:boundOf d x=some b):(x=none/\b=d)\/∃k n,x=some (.int k n)/\0<=n/\n.toNat=b:=by
 unfold boundOf at h
 grind
theorem A6q(hT:A3k ρ T a){o:Option Operand}{x:Option Opd}(h:B5r o=some x){d b:Nat}(hb:boundOf d (x.map (ev T))=some b):Eng.boundOf d (o.map a.eval)=some b:=by
 rcases C4q hT h with ⟨rfl,rfl⟩|⟨y,z,rfl,rfl,hr⟩
 ·exact hb
 ·rcases A0o hb with ⟨h1,_⟩|⟨k,n,h1,h2,h3⟩
  ·grind
  ·simp only[A3O,Option.some.injEq]at h1 ⊢;rw[h1]at hr;rw[hr.int_inv];simp only[Eng.boundOf,h2,if_true,h3]
theorem D0k(hR:Rep ρ H w){t e:TypeId}{i:TypeInfo}(ht:P.underlying t=some (.slice e))(hi:P.info? e=some i){x v:DV}{x':Value}(hx:VRel ρ x x'){lo hi':Option DV}{lo1 hi1:Option Value}
  (hlo:∀d b,boundOf d lo=some b->Eng.boundOf d lo1=some b) (hhi:∀d b,boundOf d hi'=some b->Eng.boundOf d hi1=some b)
  (h:A7j H i.size x lo hi'=some v):∃v',(Instr.sliceAt t x' lo1 hi1 none).run P w=.ok v' w/\VRel ρ v v':=by
 have hs:(Instr.sliceAt t x' lo1 hi1 none).run P w=(Instr.slice t x' lo1 hi1 none).run P w:=by simp[Instr.sliceAt,run_underlying ht]
 rw[hs];have nil0:Eng.boundOf 0 hi1=some 0->Eng.boundOf 0 lo1=some 0->(Instr.slice t (.slice none 0 0) lo1 hi1 none).run P w=.ok (.slice none 0 0) w:=by
  intro h1 h2;simp[Instr.slice,run_underlying ht,Eng.run_bounds (P:=P) (w:=w) (isSlice:=true) h2 h1 rfl rfl (A0E 0) (A0E 0) (A0E 0),Eng.run_sizeOf hi]
 have some0:∀(ad:Addr) (n c l h:Nat),Eng.boundOf n hi1=some h->Eng.boundOf 0 lo1=some l->h<=n->l<=h->n<=c ->
   (Instr.slice t (.slice (some ad) n c) lo1 hi1 none).run P w=.ok (.slice (if c=l then some ad else some (ad.add (l*i.size))) (h-l) (c-l)) w:=by
  intro ad n c l h h1 h2 h3 h4 h5;have hb:=Eng.run_bounds (P:=P) (w:=w) (isSlice:=true) (cap:=c) h2 h1 rfl rfl h4 h3 h5;simp[Instr.slice,run_underlying ht,hb,Eng.run_sizeOf hi]
 unfold A7j at h;split at h
 ·cases hx;split at h
  ·rename_i h1 h2;cases h;exact⟨_,nil0 (hhi _ _ h1) (hlo _ _ h2),.snil⟩
  ·cases h
 ·rename_i id off n;split at h
  ·rename_i hh ll h1 h2;split at h
   ·rename_i hg;obtain⟨b1,b2⟩:=hg;cases hx with
    |slc _ _ _ c' tg htg hc hm hr hmp =>
     refine⟨_,some0 _ n c' ll hh (hhi _ _ h1) (hlo _ _ h2) b1 b2 hc,?_⟩;rw[A1c];by_cases hl0:ll=0
     ·rw[if_pos hl0]at h;cases h;subst hl0;have:(if c'=0 then some (⟨tg.block,tg.shift+off,none⟩:Addr) else some ⟨tg.block,tg.shift+off+0*i.size,none⟩)=some ⟨tg.block,tg.shift+off,none⟩:=by simp
      rw[this];exact .slc id off hh c' tg htg (by omega) hm hr hmp
     ·rw[if_neg hl0]at h;by_cases hlh:ll=hh
      ·rw[if_pos hlh]at h;cases h;subst hlh;rw[A4P];split<;>exact .lnil _ _
      ·rw[if_neg hlh]at h;have hne:¬c'=ll:=by omega
       rw[if_neg hne];split at h
       ·rename_i b hb';obtain⟨cc,ee,fr,g1,g2,g3,g4,g5⟩:=hR.look hb' htg hmp;split at h
        ·rename_i hu;cases h;have e1:tg.shift+off+ll*i.size=tg.shift+(off+ll*i.size):=by omega
         rw[e1];refine .slc id _ _ _ tg htg (by omega) (by omega) ?_ hmp;rcases hu with hu|hu
         ·rcases hr with hr|hr
          ·exact .inl hr
          ·right;rw[g4,hu];rw[g4,hu]at hr;have:ll*i.size+(c'-ll)*i.size=c'*i.size:=by rw[<- A3M];congr 1;omega
           omega
         ·exact .inl (g4.trans hu)
        ·cases h
       ·cases h
   ·cases h
  ·cases h
 ·rename_i xs;split at h
  ·rename_i hh ll h1 h2;split at h
   ·rename_i hg;obtain⟨b1,b2,b3⟩:=hg;rw[B9t]at b3;cases h;rcases hx.lst_inv with ⟨rfl,rfl|⟨ad,c,rfl⟩⟩|⟨u,b,off,c,row,rfl,hf,hc,hm,hu,hF⟩
    ·simp only[A0M,Nat.le_zero_eq]at b1;subst b1;obtain rfl:ll=0:=by omega
     exact⟨_,nil0 (hhi _ _ h1) (hlo _ _ h2),.lnil0⟩
    ·simp only[A0M,Nat.le_zero_eq]at b1;subst b1;obtain rfl:ll=0:=by omega
     refine⟨_,some0 ad 0 c 0 0 (hhi _ _ h1) (hlo _ _ h2) (A0E _) (A0E _) (A0Q _),?_⟩;split<;>exact .lnil _ _
    ·refine⟨_,some0 _ _ c ll hh (hhi _ _ h1) (hlo _ _ h2) b1 b2 hc,?_⟩;rw[A1c];by_cases hlh:hh-ll=0
     ·rw[hlh,A1J];split<;>exact .lnil _ _
     ·have hne:¬c=ll:=by omega
      rw[if_neg hne];have hus:u=i.size:=by
       cases xs with
       |nil=>simp at b1;omega
       |cons x xs=>rw[<- hu x A0H,b3 x A0H]
      have hlen:((xs.drop ll).take (hh-ll)).length=hh-ll:=b9
      have hsub:cellsL ((xs.drop ll).take (hh-ll))=((cellsL xs).drop (ll*i.size)).take ((hh-ll)*i.size):=by
       rw[B1m (u:=i.size) (λx hx=>b3 x (List.mem_of_mem_drop hx)),A5s b3]
      have hcl:=C3 b3;have hF':B2c ρ (cellsL ((xs.drop ll).take (hh-ll))) row (off+ll*i.size):=by
       rw[hsub];exact(hF.drop (by rw[hcl];exact A2X _ (by omega))).take _
      exact .lst _ _ i.size b _ _ row hf hlen.symm (by omega) (by omega) (λx hx=>b3 x (List.mem_of_mem_drop (A3U hx))) hF'.1 hF'.2.1 hF'.2.2
   ·cases h
  ·cases h
 grind
theorem sls_sound{t:TypeId}(ht:P.underlying t=some .string){s:List UInt8}{lo hi':Option DV}{lo1 hi1:Option Value}{v:DV}
  (hlo:∀d b,boundOf d lo=some b->Eng.boundOf d lo1=some b) (hhi:∀d b,boundOf d hi'=some b->Eng.boundOf d hi1=some b) (h:slsR s lo hi'=some v) :
  ∃v',(Instr.sliceAt t (.string ⟨s.toArray⟩) lo1 hi1 none).run P w=.ok v' w/\VRel ρ v v':=by
 unfold slsR at h;split at h
 ·rename_i hh ll h1 h2;split at h
  ·rename_i hg;obtain⟨b1,b2⟩:=hg;cases h;have:Eng.slsR ⟨s.toArray⟩ lo1 hi1=some (.string ⟨((s.drop ll).take (hh-ll)).toArray⟩):=by
    unfold Eng.slsR;have e1:=hhi _ _ h1;have e2:=hlo _ _ h2;simp only[A4F];rw[e1,e2];have c1:Nat.ble hh s.length=true:=by rw[A2L];exact b1
    have c2:Nat.ble ll hh=true:=by rw[A2L];exact b2
    simp only[c1,c2]
   exact⟨_,(Eng.sls_sound (P:=P) (w:=w) (ρ := ρ0) ht this).1,.mkStr⟩
  ·cases h
 grind
theorem A5u:∀ {l:List DV} {bs:List UInt8},A1n l=some bs->∃ns:List Int,l=ns.map (DV.int .u8)/\bs=ns.map λn=>UInt8.ofNat n.toNat
 |[],bs,h=>by simp only[A1n,Option.some.injEq]at h;simp_all
 |x::r,bs,h=>by
  unfold A1n at h;split at h
  ·rename_i heq;cases heq
  ·rename_i n r' heq;cases heq;split at h
   ·rename_i s hs;cases h;obtain⟨ns,rfl,rfl⟩:=A5u hs;exact⟨n::ns,rfl,rfl⟩
   ·cases h
  grind
theorem C6j{ns:List Int}{b:Array Value}(h:I3 ρ (ns.map (DV.int .u8)) b):b.toList=ns.map (Value.int .u8):=by
 apply List.ext_getElem?;intro j;obtain⟨h1,h2⟩:=h;simp only[A0N]at h1;by_cases hj:j<ns.length
 ·have e2:b[j]? = some (b[j]'(by omega)):=by simp[show j<b.size by omega]
  have:=h2 j (.int .u8 ns[j]) _ (by simp[hj]) e2;rw[A3R,e2,this.int_inv];simp[hj]
 grind
theorem C2s{s d e:TypeId}(hs:P.underlying s=some (.slice e))(he:P.underlying e=some (.int .u8))(hd:P.underlying d=some .string){b o n c:Nat}{row:Array Value}{ty:TypeId}{fr:Nat × Nat}
  (hb:w.heap[b]? = some (.cells row ty fr)) (hle:o+n<=row.size) {l:List DV} (hA:I3 ρ l ((row.toList.drop o).take n).toArray) {bs:List UInt8} (hl:A1n l=some bs) :
  (convert s d (.slice (some ⟨b,o,none⟩) n c)).run P w=.ok (.string ⟨bs.toArray⟩) w:=by
 obtain⟨ns,rfl,rfl⟩:=A5u hl;have hlist:=C6j hA;simp only at hlist;have hld:=Eng.run_loadCells_row (P:=P) (w:=w) (off:=o) (n:=n) hb hle;rw[run_convert_bytes_string w s d e (some ⟨b,o,none⟩) n c hs he hd];rw[hlist]at hld;rw[run_bytesToString w ⟨b,o,none⟩ n c ns hld,Eng.foldl_push];simp
end
section
variable {P:Program} {ρ:Ren} {H:Hp} {w:World} {T:Tm} {a:Act}
theorem C5y(hR:Rep ρ H w){s d e:TypeId}(hs:P.underlying s=some (.slice e))(he:P.underlying e=some (.int .u8))(hd:P.underlying d=some .string)
  {x v:DV} {x':Value} (hx:VRel ρ x x') (h:A5a H x=some v):∃v',(convert s d x').run P w=.ok v' w/\VRel ρ v v':=by
 unfold A5a at h;split at h
 ·cases h;cases hx;exact⟨_,Eng.cvbs_zero hs he hd none 0,.mkStr⟩
 ·rename_i id o n;split at h
  ·rename_i b hb;split at h
   ·rename_i hle;rw[A2L]at hle;split at h
    ·rename_i l hl;cases h;cases hx with
     |slc _ _ _ c' tg htg hc hm hr hmp =>
      obtain⟨cc,ee,fr,g1,g2,g3,g4,g5,g6⟩:=hR.look hb htg hmp;exact⟨_,C2s hs he hd g1 (by omega) (g5.seg hle (by omega)) hl,.mkStr⟩
    ·cases h
   ·cases h
  ·cases h
 ·rename_i xs;split at h
  ·rename_i l hl;cases h;rcases hx.lst_inv with ⟨rfl,rfl|⟨ad,c,rfl⟩⟩|⟨u,b,off,c,row,rfl,hf,hc,hm,hu,hF⟩
   ·cases hl;exact⟨_,Eng.cvbs_zero hs he hd none 0,.mkStr⟩
   ·cases hl;exact⟨_,Eng.cvbs_zero hs he hd (some ad) c,.mkStr⟩
   ·obtain⟨ty,fr,hb⟩:=hR.frz b row hf;have hcx:cellsL xs=xs:=by
     obtain⟨ns,rfl, -⟩:=A5u hl;clear hl hx hc hu hF
     induction ns with
     |nil=>rfl
     |cons n ns ih=>simp only[cellsL,A0P,A2B,DV.cells,List.cons_append,List.nil_append]at ih ⊢;rw[ih]
    have:=hF.seg (A0E _);rw[hcx,A1T]at this;exact⟨_,C2s hs he hd hb (by have:=hF.1;rw[hcx]at this;exact this) this hl,.mkStr⟩
  ·cases h
 grind
theorem A3f(hT:A3k ρ T a):∀ {os:List (Nat × Operand)} {xs:List (Nat × Opd)},R9 os=some xs ->
  (xs.map λp=>(p.1,ev T p.2)).length=(os.map λp=>(p.1,a.eval p.2)).length /\
  ∀(i:Nat) p q,(xs.map λp=>(p.1,ev T p.2))[i]? = some p->(os.map λp=>(p.1,a.eval p.2))[i]? = some q->p.1=q.1/\VRel ρ p.2 q.2
 |[],xs,h=>by simp only[R9,Option.some.injEq]at h;grind
 |o::os,xs,h=>by
  simp only[R9]at h;split at h
  ·rename_i y s hy hs;cases h;obtain⟨ih1,ih2⟩:=A3f hT hs;refine⟨by simpa using ih1,λi p q hp hq=>?_⟩;cases i with
   |zero=>simp at hp hq;subst hp hq;exact⟨rfl,B4 hT hy⟩
   |succ i=>exact ih2 i p q (by simpa using hp) (by simpa using hq)
  grind
theorem D2o(hT:A3k ρ T a){t:TypeId}{i:TypeInfo}(hi:P.info? t=some i){fs:Array Field}(hu:P.underlying t=some (.struct fs)){z:Value}(hz:i.zero=some z)
  {pl:List (Nat × Nat)} (hpl:Y0 P fs.toList=some pl) {ps:Array (Nat × Operand)} {qs:List (Nat × Opd)} (hq:R9 ps.toList=some qs) {c:List DV}
  (h:A4y (λi=>pl[i]?) (qs.map λp=>(p.1,ev T p.2)) (z.cells.toList.map injS)=some c) :
  ∃c',(Instr.build t (ps.map λ(i,x)=>(i,a.eval x))).run P w=.ok (.agg c') w/\I3 ρ c c':=by
 obtain⟨hl,hr⟩:=A3f hT hq;obtain⟨c',h1,h2⟩:=A7x (λi=>pl[i]?) _ _ (z.cells.toList.map injS) z.cells c hl hr (A6r _) h;refine⟨c',?_,h2⟩;have hm:=Eng.placesOf_sound (w:=w) hpl _ rfl;have hm':(fs.mapM λf=>(do pure (f.offset, <- sizeOf f.type):Sem (Nat × Nat))).run P w=.ok pl.toArray w:=by
  rw[Array.mapM_eq_mapM_toList,Sem.run_map,hm,Result.andThen_ok]
 have hfun:(λ(i:Nat)=>pl.toArray[i]?)=λ(i:Nat)=>pl[i]? := by funext i;simp
 have hps:(ps.map λ(i,x)=>(i,a.eval x)).toList=ps.toList.map λp=>(p.1,a.eval p.2):=by simp
 unfold Instr.build;rw[Sem.run_bind,Eng.run_zeroValue hi hz,Result.andThen_ok,Sem.run_bind,run_underlying hu,Result.andThen_ok,Sem.run_bind]
 simp_all
theorem B6z(hR:Rep ρ H w)(hT:A3k ρ T a){o:Oper}{f:FOp}(htr:trF P o.op=some f){v:DV}(h:fev H (ev T) f=some v):
  ∃v',(execOp a.eval o).run P w=.ok (.value v') w/\VRel ρ v v':=by
 obtain⟨dst,op,ty,pos,aft,guard⟩:=o;have wrapS:∀ {s:Sem Value} {v':Value},s.run P w=.ok v' w->(do pure (Next.value (<- s)):Sem Next).run P w=.ok (.value v') w:=λhs=>by
  simp_all
 cases op<;>simp only[trF]at htr<;>(try(cases htr;done))
 case move x =>
  simp only[A0T]at htr;obtain⟨y,hy,rfl⟩:=htr;simp only[fev,Option.some.injEq]at h;subst h;exact⟨_,rfl,B4 hT hy⟩
 case assign x =>
  simp only[A0T]at htr;obtain⟨y,hy,rfl⟩:=htr;simp only[fev,Option.some.injEq]at h;subst h;exact⟨_,rfl,B4 hT hy⟩
 case pick c x y =>
  split at htr
  ·rename_i c' x' y' hc hx hy;cases htr;have rc:=B4 hT hc;simp only[fev,C0v]at h;split at h
   ·rename_i hb;cases h;rw[hb]at rc;exact⟨_,by simp[execOp,rc.bool_inv,asBool],B4 hT hx⟩
   ·rename_i hb;cases h;rw[hb]at rc;exact⟨_,by simp[execOp,rc.bool_inv,asBool],B4 hT hy⟩
   ·cases h
  grind
 case build t ps =>
  split at htr
  ·rename_i i fs qs hi hu hq;split at htr
   ·rename_i z pl hz hpl;split at htr
    ·rename_i hsc;cases htr;simp only[fev,D9h]at h;split at h
     ·rename_i c hc;cases h;obtain⟨c',h1,h2⟩:=D2o (w:=w) hT hi hu hz hpl hq hc;exact⟨_,wrapS h1,.mkAgg h2⟩
     ·cases h
    ·cases htr
   ·cases htr
  ·rename_i i n e hi hu hq;split at htr
   ·rename_i z ie hz hie;split at htr
    ·rename_i hsc;cases htr;simp only[fev,D9h,List.map_nil,A4y,Option.some.injEq]at h;subst h;exact⟨_,wrapS (Eng.bldA_run hi hu hz hie hq),.mkAgg (A6r _)⟩
    ·cases htr
   ·cases htr
  grind
 case load t x =>
  split at htr
  ·rename_i y i u hy hi hu;cases htr;obtain⟨v',h1,h2⟩:=C1o hR hi hu (B4 hT hy) h;exact⟨v',wrapS h1,h2⟩
  grind
 case nilCheck x =>
  simp only[A0T]at htr;obtain⟨y,hy,rfl⟩:=htr;have rx:=B4 hT hy;simp only[fev]at h;unfold E1k at h;split at h
  ·rename_i id off he;cases h;rw[he]at rx;have rx':=rx;obtain⟨tg,ht,hmp,hv⟩:=rx.ptr_inv;exact⟨a.eval x,by simp[execOp,hv],rx'⟩
  ·rename_i cs he;cases h;rw[he]at rx;have rx':=rx;obtain⟨b,off,row,hv, -, -⟩:=rx.fptr_inv;exact⟨a.eval x,by simp[execOp,hv],rx'⟩
  ·rename_i g b c he;cases h;rw[he]at rx;have rx':=rx;obtain⟨b',c',hv, -, -⟩:=rx.func_inv;exact⟨a.eval x,by simp[execOp,hv],rx'⟩
  grind
 case binOp op t x y yt =>
  split at htr
  ·rename_i x' y' hx hy;have rx:=B4 hT hx;have ry:=B4 hT hy;unfold C6u at htr;split at htr
   ·rename_i hu;split at htr
    ·cases htr;simp only[fev,F0w]at h;split at h
     ·rename_i b c e1 e2;cases h;rw[e1]at rx;rw[e2]at ry;refine⟨.bool (b==c),?_,by simpa using VRel.bool _⟩;have:=(Eng.eqb_sound (w:=w) (x:=x) (y:=y) hu b c).1;simp only[execOp,rx.bool_inv,ry.bool_inv];exact wrapS this
     ·cases h
    ·cases htr;simp only[fev,F0w]at h;split at h
     ·rename_i b c e1 e2;cases h;rw[e1]at rx;rw[e2]at ry;refine⟨.bool (!(b==c)),?_,by cases b<;>cases c<;>exact VRel.bool _⟩;have:=(Eng.eqb_sound (w:=w) (x:=x) (y:=y) hu b c).2;simp only[execOp,rx.bool_inv,ry.bool_inv];exact wrapS this
     ·cases h
    ·cases htr
   ·cases htr;obtain⟨r',h1,h2⟩:=bin_sound (P:=P) (w:=w) (t:=t) (x:=x) (y:=y) rx ry h;exact⟨r',wrapS h1,h2⟩
   ·cases htr;obtain⟨r',h1,h2⟩:=bin_sound (P:=P) (w:=w) (t:=t) (x:=x) (y:=y) rx ry h;exact⟨r',wrapS h1,h2⟩
   ·rename_i fs hu;split at htr
    ·rename_i ks hks;split at htr
     ·rename_i hg;obtain⟨g1,g2⟩:=hg;split at htr
      ·cases htr;simp only[fev,B4x]at h;split at h
       ·rename_i b c e1 e2;split at h
        ·rename_i r hr;cases h;rw[e1]at rx;rw[e2]at ry;obtain⟨b',hb,rb⟩:=rx.agg_inv;obtain⟨c',hc,rc⟩:=ry.agg_inv;have:=(B7e (w:=w) (x:=x) (y:=y) hu hks g1 g2 rb rc hr).1;refine⟨.bool r,?_,by simpa using VRel.bool _⟩;simp only[execOp,hb,hc];exact wrapS this
        ·cases h
       ·cases h
      ·cases htr;simp only[fev,B4x]at h;split at h
       ·rename_i b c e1 e2;split at h
        ·rename_i r hr;cases h;rw[e1]at rx;rw[e2]at ry;obtain⟨b',hb,rb⟩:=rx.agg_inv;obtain⟨c',hc,rc⟩:=ry.agg_inv;have:=(B7e (w:=w) (x:=x) (y:=y) hu hks g1 g2 rb rc hr).2;refine⟨.bool (!r),?_,by cases r<;>exact VRel.bool _⟩;simp only[execOp,hb,hc];exact wrapS this
        ·cases h
       ·cases h
      ·cases htr
     ·cases htr
    ·cases htr
   ·rename_i ms hu;split at htr
    ·cases htr;simp only[fev,D8h]at h;split at h
     ·rename_i r hr;cases h;have:=Go.Eng.opd_inil hy;subst this;have:=(B7d (w:=w) (x:=x) hu rx hr).1;exact⟨.bool r,wrapS this,by simpa using VRel.bool _⟩
     ·rw[D8i]at h;cases h
    ·cases htr;simp only[fev,D8h]at h;split at h
     ·rename_i r hr;cases h;have:=Go.Eng.opd_inil hy;subst this;have:=(B7d (w:=w) (x:=x) hu rx hr).2;exact⟨.bool (!r),wrapS this,by cases r<;>exact VRel.bool _⟩
     ·rw[D8i]at h;cases h
    ·cases htr
   ·rename_i D _ _ _ _ _ hu;split at htr
    ·rename_i kd hkd;cases htr;simp only[fev,D8h]at h;split at h
     ·rename_i r hr;cases h;have:=(B0z (w:=w) (x:=x) (y:=y) hu hkd rx ry hr).1;exact⟨.bool r,wrapS this,by simpa using VRel.bool _⟩
     ·obtain⟨r,h1,h2,rfl⟩:=B4w (w:=w) (x:=x) (y:=y) hu hkd rx ry h;exact⟨.bool r,wrapS h1,.ub _⟩
    ·rename_i kd hkd;cases htr;simp only[fev,D8h]at h;split at h
     ·rename_i r hr;cases h;have:=(B0z (w:=w) (x:=x) (y:=y) hu hkd rx ry hr).2;exact⟨.bool (!r),wrapS this,by cases r<;>exact VRel.bool _⟩
     ·obtain⟨r,h1,h2,rfl⟩:=B4w (w:=w) (x:=x) (y:=y) hu hkd rx ry h;exact⟨.bool (!r),wrapS h2,.ub _⟩
    ·cases htr
   ·cases htr
  grind
 case unOp op t x =>
  simp only[A0T]at htr;obtain⟨y,hy,rfl⟩:=htr;obtain⟨r',h1,h2⟩:=D3j (P:=P) (w:=w) (B4 hT hy) h;exact⟨r',wrapS h1,h2⟩
 case convert s d x =>
  split at htr
  ·rename_i y hy;have rx:=B4 hT hy;unfold B7u at htr;split at htr
   ·rename_i k1 k2 hs hd;cases htr;simp only[fev]at h;unfold E3i at h;split at h
    ·rename_i k n he;cases h;rw[he]at rx;refine⟨_,wrapS ?_,.int _ _⟩;rw[rx.int_inv];simp[convert,run_underlying hs,run_underlying hd,Conv.intToInt]
    ·cases h
   ·rename_i hs hd;cases htr;simp only[fev]at h;unfold F6m at h;split at h
    ·rename_i s' he;cases h;rw[he]at rx;refine⟨_,wrapS ?_,.mkStr⟩;rw[rx.str_inv];simp[convert,run_underlying hs,run_underlying hd]
    ·cases h
   ·rename_i e hs hd;split at htr
    ·rename_i he;split at htr
     ·rename_i i hi;split at htr
      ·rename_i hsz;cases htr;obtain⟨v',h1,h2⟩:=C5y hR hs he hd rx h;exact⟨v',wrapS h1,h2⟩
      ·cases htr
     ·cases htr
    ·cases htr
   ·cases htr
  grind
 case makeFunc fn fs cs =>
  cases fn<;>simp only[]at htr<;>(try(cases htr;done));rename_i f';split at htr
  ·rename_i a' c' ha hc;cases htr;simp only[fev,Option.some.injEq]at h;subst h;have r1:=A1w hT ha;have r2:=A1w hT hc;refine⟨_,wrapS rfl,.func _ _ _ _ _ ?_ ?_ ?_ ?_⟩
   ·simpa using r1.1
   ·intro j x y hx hy;exact r1.2 j x y hx (by simpa using hy)
   ·simpa using r2.1
   ·intro j x y hx hy;exact r2.2 j x y hx (by simpa using hy)
  grind
 case slice t x lo hi mx =>
  cases mx<;>simp only[]at htr<;>(try(cases htr;done));split at htr
  ·rename_i x' lo' hi' e hx hlo hhi ht;simp only[A0T]at htr;obtain⟨inf,hinf,rfl⟩:=htr;have rx:=B4 hT hx;obtain⟨v',h1,h2⟩:=D0k hR ht hinf rx (λd b hb=>A6q hT hlo hb) (λd b hb=>A6q hT hhi hb) h;exact⟨v',wrapS h1,h2⟩
  ·rename_i x' lo' hi' hx hlo hhi ht;cases htr;have rx:=B4 hT hx;simp only[fev,E0h]at h;split at h
   ·rename_i s he;rw[he]at rx;obtain⟨v',h1,h2⟩:=sls_sound (w:=w) ht (λd b hb=>A6q hT hlo hb) (λd b hb=>A6q hT hhi hb) h;refine⟨v',wrapS ?_,h2⟩;rw[rx.str_inv];exact h1
   ·cases h
  grind
 case fieldAddr s x k =>
  split at htr
  ·rename_i y fs hy hu;split at htr
   ·rename_i f hf;split at htr
    ·rename_i i hi;split at htr
     ·cases htr
     ·rename_i hsz;cases htr;have rx:=B4 hT hy;have hrun:∀b o,(Instr.fieldAt s (.pointer (some ⟨b,o,none⟩)) k).run P w=.ok (.pointer (some ⟨b,o+f.offset,none⟩)) w:=by
       intro b o;simp[Instr.fieldAt,run_underlying hu,hf,Instr.sureAddr,fieldPlace,Eng.run_sizeOf hi,hsz,A1c]
      simp only[fev]at h;unfold D1w at h;split at h
      ·rename_i id off he;cases h;rw[he]at rx;obtain⟨tg,ht,hmp,hv⟩:=rx.ptr_inv;refine⟨_,wrapS (by rw[hv];exact hrun _ _),?_⟩;rw[show tg.shift+off+f.offset=tg.shift+(off+f.offset) by omega];exact .ptr _ _ _ ht hmp
      ·rename_i cs he;split at h
       ·rename_i hle;rw[A2L]at hle;cases h;rw[he]at rx;obtain⟨b,off,row,hv,hf2,hF⟩:=rx.fptr_inv;exact⟨_,wrapS (by rw[hv];exact hrun _ _),.mkFptr hf2 (hF.drop hle)⟩
       ·cases h
      ·cases h
    ·cases htr
   ·cases htr
  grind
 case field t x k =>
  split at htr
  ·rename_i y fs hy hu;split at htr
   ·rename_i f hf;split at htr
    ·rename_i i u hi hu';cases htr;have rx:=B4 hT hy;simp only[fev]at h;cases he:ev T y<;>rw[he]at h<;>simp only[C5o,reduceCtorEq]at h;rename_i cs;rw[he]at rx;obtain⟨cs',hv,rc⟩:=rx.agg_inv;obtain⟨v',h1,h2⟩:=C4o (w:=w) hi hu' rc (by unfold C5o;exact h);refine⟨v',wrapS ?_,h2⟩;rw[hv];simp only[Instr.field,Sem.run_bind,run_underlying hu,Result.andThen_ok,hf,asAgg,Sem.run_pure,h1]
    ·cases htr
   ·cases htr
  grind
 case indexAddr t x i =>
  split at htr
  ·rename_i x' i' e hx hi ht;simp only[A0T]at htr;obtain⟨inf,hinf,rfl⟩:=htr;have rx:=B4 hT hx;have ri:=B4 hT hi;have hrun:∀(b o n c:Nat) k (j:Int),0<=j->j<n->(Instr.indexAt t (.slice (some ⟨b,o,none⟩) n c) (.int k j)).run P w=.ok (.pointer (some ⟨b,o+j.toNat*inf.size,none⟩)) w:=by
    intro b o n c k j h1 h2;simp[Instr.indexAt,asIntOf,run_underlying ht,h1,h2,Eng.run_sizeOf hinf,A1c]
   simp only[fev]at h;unfold A9b at h;split at h
   ·rename_i id off n k j e1 e2;split at h
    ·rename_i hj;cases h;rw[e1]at rx;rw[e2]at ri;have hi':=ri.int_inv;cases hx':a.eval x<;>rw[hx']at rx<;>cases rx;rename_i cap tg a1 a2 a3 a4 a5;refine⟨_,wrapS (by rw[hx',hi'];exact hrun _ _ _ _ _ _ hj.1 hj.2),?_⟩;rw[show tg.shift+off+j.toNat*inf.size=tg.shift+(off+j.toNat*inf.size) by omega];exact .ptr _ _ _ (by assumption) (by assumption)
    ·cases h
   ·rename_i xs k j e1 e2;split at h
    ·rename_i hj;split at h
     ·rename_i y hy;split at h
      ·rename_i hsz;cases h;rw[e1]at rx;rw[e2]at ri;have hi':=ri.int_inv;rcases rx.lst_inv with ⟨rfl,_⟩|⟨u,b,off,c,row,hv,hf,hc,hm,hu,hF⟩
       ·simp at hy
       ·have hm':y∈xs:=A0W hy;have hus:u=inf.size:=by rw[<- hu y hm',hsz]
        subst hus;refine⟨_,wrapS (by rw[hv,hi'];exact hrun _ _ _ _ _ _ hj.1 hj.2),.mkFptr hf ?_⟩;have hjl:j.toNat<xs.length:=a8
        have hcl:=C3 hu;rw[<- C3c hu hy];exact(hF.drop (k:=j.toNat*inf.size) (by rw[hcl];exact A2X _ (Nat.le_of_lt hjl))).take _
      ·cases h
     ·cases h
    ·cases h
   ·cases h
  ·rename_i x' i' n e hx hi ht;simp only[A0T]at htr;obtain⟨inf,hinf,rfl⟩:=htr;have rx:=B4 hT hx;have ri:=B4 hT hi;have hrun:∀b o k (j:Int),0<=j->j<n->(Instr.indexAt t (.pointer (some ⟨b,o,none⟩)) (.int k j)).run P w=.ok (.pointer (some ⟨b,o+j.toNat*inf.size,none⟩)) w:=by
    intro b o k j h1 h2;simp[Instr.indexAt,asIntOf,run_underlying ht,h1,h2,Eng.run_sizeOf hinf,A1c,Instr.sureAddr]
   simp only[fev]at h;unfold C1u at h;split at h
   ·rename_i id off k j e1 e2;split at h
    ·rename_i hj;cases h;rw[e1]at rx;rw[e2]at ri;have hi':=ri.int_inv;obtain⟨tg,htg,hmp,hv⟩:=rx.ptr_inv;refine⟨_,wrapS (by rw[hv,hi'];exact hrun _ _ _ _ hj.1 hj.2),?_⟩;rw[show tg.shift+off+j.toNat*inf.size=tg.shift+(off+j.toNat*inf.size) by omega];exact .ptr _ _ _ htg hmp
    ·cases h
   ·rename_i cs k j e1 e2;split at h
    ·rename_i hj;cases h;rw[e1]at rx;rw[e2]at ri;have hi':=ri.int_inv;obtain⟨b,off,row,hv,hf,hF⟩:=rx.fptr_inv;exact⟨_,wrapS (by rw[hv,hi'];exact hrun _ _ _ _ hj.1 hj.2.1),.mkFptr hf (hF.drop hj.2.2)⟩
    ·cases h
   ·cases h
  grind
 case index t x i =>
  split at htr
  ·rename_i x' i' hx hi ht;cases htr;have rx:=B4 hT hx;have ri:=B4 hT hi;simp only[fev]at h;unfold C5j at h;split at h
   ·rename_i s k j e1 e2;split at h
    ·rename_i hj;split at h
     ·rename_i b hb;cases h;rw[e1]at rx;rw[e2]at ri;refine⟨.int .u8 b.toNat,wrapS ?_,.int _ _⟩;rw[rx.str_inv,ri.int_inv];have hlt:j.toNat<s.length:=(A1G.1 hb).1;have hb':(⟨s.toArray⟩:ByteArray)[j.toNat]? = some b:=by
       rw[ByteArray.getElem?_lt' _ j.toNat (show j.toNat<s.toArray.size by simpa using hlt)];have:s.toArray[j.toNat]? = some b:=by simpa using hb
       rw[A2V (by simpa using hlt)]at this;exact this
      simp[Instr.index,asIntOf,run_underlying ht,hj,hb']
     ·cases h
    ·cases h
   ·cases h
  grind
 case extract x i =>
  simp only[A0T]at htr;obtain⟨y,hy,rfl⟩:=htr;have rx:=B4 hT hy;simp only[fev]at h;unfold E2v at h;split at h
  ·rename_i vs he;rw[he]at rx;obtain⟨vs',hv,rv⟩:=rx.tup_inv;obtain⟨u,hu,r⟩:=rv.get h;exact⟨u,wrapS (by rw[hv];simp[Instr.extract,hu]),r⟩
  grind
 case call c =>
  obtain⟨callee,args,ats⟩:=c;cases callee with
  |value f=>grind
  |invoke r m=>grind
  |builtin b =>
   cases b<;>simp only[]at htr<;>(try(cases htr;done))
   case len =>
    split at htr
    ·rename_i x t hargs hats;obtain rfl:args = #[x]:=by apply Array.ext';simpa using hargs
     obtain rfl:ats = #[t]:=w6
     split at htr
     ·rename_i y e hy ht;cases htr;have rx:=B4 hT hy;have hrun:∀ad n c,a.eval x=.slice ad n c->(execOp a.eval ⟨dst,.call ⟨.builtin .len, #[x], #[t]⟩,ty,pos,aft,guard⟩).run P w=.ok (.value (.int .i64 n)) w:=by
       intro ad n c hx';simp[execOp,resolve,invoke,builtin,Builtin.len_,hx',run_underlying ht,goInt]
      simp only[fev]at h;unfold B1t at h;split at h
      ·rename_i he;cases h;rw[he]at rx;cases hx':a.eval x<;>rw[hx']at rx<;>cases rx;exact⟨_,hrun _ _ _ hx',.int _ _⟩
      ·rename_i n he;cases h;rw[he]at rx;cases hx':a.eval x<;>rw[hx']at rx<;>cases rx;exact⟨_,hrun _ _ _ hx',.int _ _⟩
      ·rename_i xs he;cases h;rw[he]at rx;rcases rx.lst_inv with ⟨rfl,hv|⟨ad,c,hv⟩⟩|⟨u,b,off,c,row,hv,_⟩
       ·exact⟨_,hrun _ _ _ hv,.int _ _⟩
       ·exact⟨_,hrun _ _ _ hv,.int _ _⟩
       ·exact⟨_,hrun _ _ _ hv,.int _ _⟩
      ·cases h
     ·rename_i y hy ht;cases htr;have rx:=B4 hT hy;simp only[fev]at h;unfold C8v at h;split at h
      ·rename_i s he;cases h;rw[he]at rx;have hsz:((⟨s.toArray⟩:ByteArray).size:Int)=(s.length:Int):=by simp[ByteArray.size]
       refine⟨.int .i64 s.length,?_,.int _ _⟩;simp only[execOp,resolve,invoke,builtin,A4K,A0P,List.map_nil,rx.str_inv,Sem.run_bind,Sem.run_pure,Result.andThen_ok];simp[Builtin.len_,run_underlying ht,goInt,hsz]
      ·cases h
     ·cases htr
    grind
   case max =>
    split at htr
    ·rename_i x y hargs;obtain rfl:args = #[x,y]:=by apply Array.ext';simpa using hargs
     split at htr
     ·rename_i x' y' hx hy;cases htr;have rx:=B4 hT hx;have ry:=B4 hT hy;simp only[fev]at h;unfold mxR at h;split at h
      ·rename_i k n k' m e1 e2;cases h;rw[e1]at rx;rw[e2]at ry;refine⟨_,?_,.int _ _⟩;simp only[execOp,resolve,invoke,builtin,A4K,A0P,List.map_nil,rx.int_inv,ry.int_inv,Sem.run_bind,Sem.run_pure,Result.andThen_ok,run_max_int2]
      ·cases h
     ·cases htr
    grind
   case min =>
    split at htr
    ·rename_i x y hargs;obtain rfl:args = #[x,y]:=by apply Array.ext';simpa using hargs
     split at htr
     ·rename_i x' y' hx hy;cases htr;have rx:=B4 hT hx;have ry:=B4 hT hy;simp only[fev]at h;unfold mnR at h;split at h
      ·rename_i k n k' m e1 e2;cases h;rw[e1]at rx;rw[e2]at ry;refine⟨_,?_,.int _ _⟩;simp only[execOp,resolve,invoke,builtin,A4K,A0P,List.map_nil,rx.int_inv,ry.int_inv,Sem.run_bind,Sem.run_pure,Result.andThen_ok,run_min_int2]
      ·cases h
     ·cases htr
    grind
end
open Go.Eng (KKey Opd FOp AOp EOp opd A8o B5r trF trA trE Y8 Y0 R9 A1c)
def mkv(id:Nat):Option Nat->DV
 |none=>.ptr id 0
 |some n=>.slc id 0 n
def Y5(z:List DV)(n:Nat):List DV:=(List.replicate n z).flatten
def C6g(v:DV):Option (Option Nat × Blk) :=
 match v.cells.all DV.one with
 |true=>some (none,⟨0,true,v.cells⟩)
 |false=>none
def E3q(sz n:Nat)(zero:List DV)(parts:List (Nat × DV)):Option (Option Nat × Blk) :=
 match A4y (λi=>some (i*sz,sz)) parts (Y5 zero n) with
 |some cs=>match cs.all DV.one with
  |true=>some (some n,⟨sz,true,cs⟩)
  |false=>none
 |none=>none
def D6i(sz bytes:Nat)(zero:List DV)(l c:DV):Option (Option Nat × Blk) :=
 match l,c with
 |.int _ l,.int _ c =>
  if 0<=l/\l<=c/\(bytes:Int)*c<=281474976710656/\c<=9223372036854775807/\zero.all DV.one=true/\zero.length=sz then
   some (some l.toNat,⟨sz,true,Y5 zero c.toNat⟩)
  else none
 |_,_=>none
def aev(e:Opd->DV):AOp->Option (Option Nat × Blk)
 |.box x=>C6g (e x)
 |.bsl sz n zero parts=>E3q sz n (zero.toList.map injS) (parts.map λp=>(p.1,e p.2))
 |.msl sz bytes zero l c=>D6i sz bytes (zero.toList.map injS) (e l) (e c)
section
variable {P:Program} {ρ:Ren} {H:Hp} {w:World} {T:Tm} {a:Act}
theorem A0k.of_arel{xs:List DV}{c:Array Value}(h:I3 ρ xs c)(h1:xs.all DV.one=true):A0k ρ xs c 0:=by
 intro i v hv;rw[A0R]at h1;obtain⟨y,hy,r⟩:=h.get hv
 grind
theorem B6t{z:List DV}:∀ {n i:Nat} {d:DV},(Y5 z n)[i]? = some d->z[i%z.length]? = some d
 |0,i,d,h=>l9
 |n+1,i,d,h=>by
  simp only[Y5,A3X,A1K]at h;rw[A2A]at h;split at h
  ·rename_i hi;rwa [Nat.mod_eq_of_lt hi]
  ·rename_i hi;have:=B6t (n:=n) (i:=i-z.length) (d:=d) h
   rwa [<- Nat.mod_eq_sub_mod (by omega)]at this
theorem A8v(z:List DV)(n:Nat):(Y5 z n).length=n*z.length:=by simp[Y5]
theorem B4h(z:Array Value)(n:Nat):I3 ρ (Y5 (z.toList.map injS) n) (madeCells z (n*z.size)):=by
 refine⟨by rw[A8v,size_madeCells];simp,λi x y hx hy=>?_⟩;have h1:=B6t hx;simp only[A0N,A3B,A1Z,A0T]at h1;obtain⟨v,hv,rfl⟩:=h1;have hv':z[i%z.size]? = some v:=j8
 have hlt:i%z.size<z.size:=(A0Z.1 hv').1;simp only[madeCells,Array.getElem?_map,A0T]at hy;obtain⟨j,hj,rfl⟩:=hy;have:j=i:=by
  grind
 subst this;rw[getElem!_pos z (j%z.size) hlt];rw[A2V hlt]at hv';cases hv';exact .injS _
theorem Rep.allocT(hR:Rep ρ H w){id:Nat}(hid : ρ.nm id=none){b:Blk}{c:Array Value}{e:TypeId}(hc:A0k ρ b.cells c 0)(hl:b.cells.length<=c.size){fr:Nat × Nat}(hth:E4c b.unit c fr){w':World}
  (hw:w'.heap=(w.alloc (.cells c e fr)).heap):Rep (ρ.upd id ⟨w.heap.size,0,c.size,b.unit,false⟩) (H.upd id b) w':=by
 have hle : ρ.le (ρ.upd id ⟨w.heap.size,0,c.size,b.unit,false⟩):=Ren.le_upd hid;have O8:∀j bj tj,H j=some bj->(ρ.upd id ⟨w.heap.size,0,c.size,b.unit,false⟩).nm j=some tj->j≠id /\ ρ.nm j=some tj/\tj.block<w.heap.size:=by
  intro j bj tj h1 h2;obtain⟨t,g1,g2⟩:=hR.blk j bj h1;have hj:j≠id:=λe=>j8
  simp only[Ren.upd,hj,if_false]at h2;refine⟨hj,h2,?_⟩;rw[g1]at h2;cases h2;exact g2.lt
 constructor
 ·intro j bj hj;by_cases hji:j=id
  ·subst hji;simp only[Hp.upd,if_true,Option.some.injEq]at hj;subst hj;refine⟨_,Ren.upd_same _ _ _,?_⟩;refine .inl ⟨rfl,c,e,fr,by rw[hw];exact heap_alloc_new w _,by simp,hl,rfl,hc.mono hle,λ_=>⟨hth,rfl⟩⟩
  ·simp only[Hp.upd,hji,if_false]at hj;obtain⟨t,g1,g2⟩:=hR.blk j bj hj;refine⟨t,hle.nm _ _ g1,(g2.mono hle).world ?_⟩;rw[hw];exact heap_alloc_old w _ g2.lt
 ·intro i j bi bj ti tj hi hj hij h1 h2 ho;by_cases hii:i=id
  ·subst hii;have hji:j≠i:=Ne.symm hij;simp only[Hp.upd,hji,if_false]at hj;obtain⟨-, -,h3⟩:=O8 j bj tj hj h2;simp only[Ren.upd,if_true,Option.some.injEq]at h1
   grind
  ·simp only[Hp.upd,hii,if_false]at hi;obtain⟨-,g1,g2⟩:=O8 i bi ti hi h1;by_cases hjj:j=id
   ·subst hjj;simp only[Ren.upd,if_true,Option.some.injEq]at h2
    grind
   ·simp only[Hp.upd,hjj,if_false]at hj;obtain⟨-,g3, -⟩:=O8 j bj tj hj h2;exact hR.sep i j bi bj ti tj hi hj hij g1 g3 ho
 ·intro k r hk;obtain⟨e',fr,h1⟩:=hR.frz k r hk;exact⟨e',fr,by rw[hw,heap_alloc_old w _ (A0Z.1 h1).1];omega⟩
 ·intro j bj tj hj ho hjt;by_cases hji:j=id
  ·subst hji;rw[Ren.upd_same]at hjt;cases hjt;simp only[Ren.upd];cases hf : ρ.fz w.heap.size with
   |none=>rfl
   |some r=>exact absurd (hR.flt hf) (Nat.lt_irrefl _)
  ·simp only[Hp.upd,hji,if_false]at hj;obtain⟨-,g1, -⟩:=O8 j bj tj hj hjt;exact hR.dis j bj tj hj ho g1
 ·intro k es hk;obtain⟨⟨cl,h1,hst⟩,h2⟩:=hR.frm k es hk;have hlt:=(A0Z.1 h1).1;refine⟨⟨cl,by rw[hw,heap_alloc_old w _ hlt];omega,hst⟩,λj bj tj hj ho hjt=>?_⟩;by_cases hji:j=id
  ·subst hji;rw[Ren.upd_same]at hjt
   grind
  ·simp only[Hp.upd,hji,if_false]at hj
   grind
theorem Rep.alloc(hR:Rep ρ H w){id:Nat}(hid : ρ.nm id=none){b:Blk}{c:Array Value}{e:TypeId}(hc:A0k ρ b.cells c 0)(hl:b.cells.length<=c.size){w':World}
  (hw:w'.heap=(w.alloc (.cells c e)).heap):Rep (ρ.upd id ⟨w.heap.size,0,c.size,b.unit,false⟩) (H.upd id b) w' :=
 hR.allocT hid hc hl (.inl rfl) hw
theorem Ext.alloc(hR:Rep ρ H w){id:Nat}(hid : ρ.nm id=none){b:Blk}{c:Array Value}{e:TypeId}{w':World}(hw:w'.heap=(w.alloc (.cells c e)).heap)
  (ho:w'.os=w.os) (ht:w'.tape=w.tape) (hu:w'.output=w.output):Ext ρ H w (ρ.upd id ⟨w.heap.size,0,c.size,b.unit,false⟩) (H.upd id b) w' where
 le:=Ren.le_upd hid
 os:=ho
 tape:=ht
 output:=hu
 size:=zae
 keep:=λk hk _=>by rw[hw];exact heap_alloc_old w _ hk
 mine:=λj bj tj h1 h3=>by
  by_cases hji:j=id
  ·subst hji;simp only[Ren.upd,if_true,Option.some.injEq]at h3
   grind
  ·simp only[Hp.upd,hji,if_false]at h1;simp only[Ren.upd,hji,if_false]at h3
   grind
 fzn:=λk r h=>.inl h
 fmn:=λk r h=>.inl h
theorem B7p(hT:A3k ρ T a){id:Nat}(hid : ρ.nm id=none){o:Oper}{f:AOp}(htr:trA P o.op=some f){k:Option Nat}{b:Blk}(h:aev (ev T) f=some (k,b)):
  ∃v' c e,(execOp a.eval o).run P w=.ok (.value v') (w.alloc (.cells c e))/\VRel (ρ.upd id ⟨w.heap.size,0,c.size,b.unit,false⟩) (mkv id k) v'/\b.cells.length<=c.size/\A0k ρ b.cells c 0:=by
 obtain⟨dst,op,ty,pos,aft,guard⟩:=o;have wrapS:∀ {s:Sem Value} {v':Value} {w':World},s.run P w=.ok v' w'->(do pure (Next.value (<- s)):Sem Next).run P w=.ok (.value v') w':=λhs=>by
  simp_all
 cases op<;>simp only[trA]at htr<;>(try(cases htr;done))
 case alloc e =>
  split at htr
  ·rename_i i hi;split at htr
   ·rename_i z hz;split at htr
    ·rename_i hf;cases htr;simp only[aev,ev,C6g]at h;split at h
     ·rename_i h1;cases h;have hr:VRel ρ (inj z) z:=.inj z;have hcs:=hr.cells h1;refine⟨_,z.cells,e,wrapS ?_,.ptr id 0 _ (Ren.upd_same _ _ _) rfl,by simp[hcs.1],A0k.of_arel hcs h1⟩;simp[Instr.alloc,Eng.run_zeroValue hi hz,newVar,newRow]
     ·cases h
    ·cases htr
   ·cases htr
  grind
 case box e x =>
  simp only[A0T]at htr;obtain⟨y,hy,rfl⟩:=htr;have rx:=B4 hT hy;simp only[aev,C6g]at h;split at h
  ·rename_i h1;cases h;have hcs:=rx.cells h1;refine⟨_,(a.eval x).cells,e,wrapS ?_,.ptr id 0 _ (Ren.upd_same _ _ _) rfl,?_,A0k.of_arel hcs h1⟩
   ·simp[Instr.box,newVar,newRow]
   ·simp[hcs.1]
  grind
 case buildSlice t n ps =>
  split at htr
  ·rename_i e qs ht hq;split at htr
   ·rename_i i hi;split at htr
    ·rename_i z hz;split at htr
     ·rename_i hg;obtain⟨g1,g2,g3,g4⟩:=hg;cases htr;simp only[aev,E3q]at h;split at h
      ·rename_i cs hcs;split at h
       ·rename_i h1;cases h;obtain⟨hl,hr⟩:=A3f hT hq;have hmr:=B4h (ρ := ρ) z.cells n;rw[g2]at hmr;obtain⟨c',h2,h3⟩:=A7x (λj=>some (j*i.size,i.size)) _ _ _ _ cs hl hr hmr hcs;have hsz:c'.size=n*i.size:=by rw[<- h3.1,A9f _ _ _ _ hcs,A8v];simp[g2]
        refine⟨.slice (some ⟨w.heap.size,0,none⟩) n n,c',e,wrapS ?_,?_,by simp[h3.1],A0k.of_arel h3 h1⟩
        ·have hlim:¬(n*i.size>2 ^ 24):=by omega
         have hps:(ps.map λ(i,x)=>(i,a.eval x)).toList=ps.toList.map λp=>(p.1,a.eval p.2):=by simp
         by_cases h0:n*i.size=0
         ·have e0:(Array.range 0).map (λi=>(#[]:Array Value)[i%(#[]:Array Value).size]!)=madeCells z.cells (n*i.size):=by rw[h0];simp[madeCells,Array.range_zero']
          simp only[Instr.buildSlice,Sem.run_bind,run_underlying ht,Result.andThen_ok,Eng.run_sizeOf hi];rw[if_neg hlim,if_pos h0];rw[h0]at e0 h2;rw[Sem.run_bind,Sem.run_pure,Result.andThen_ok,h0,e0,hps,h2];rfl
         ·simp only[Instr.buildSlice,Sem.run_bind,run_underlying ht,Result.andThen_ok,Eng.run_sizeOf hi];rw[if_neg hlim,if_neg h0];simp only[Sem.run_bind,Eng.run_zeroValue hi hz,Sem.run_pure,Result.andThen_ok];have e1:((Array.range (n*i.size)).map λi=>z.cells[i%z.cells.size]!)=madeCells z.cells (n*i.size):=rfl;rw[e1,hps,h2];rfl
        ·refine .slc id 0 n n _ (Ren.upd_same _ _ _) (A0E _) g4 (.inr ?_) rfl;simp only[];omega
       ·cases h
      ·cases h
     ·cases htr
    ·cases htr
   ·cases htr
  grind
 case makeSlice t l c =>
  split at htr
  ·rename_i e l' c' ht hl hc;split at htr
   ·rename_i i hi;split at htr
    ·rename_i z hz;split at htr
     ·rename_i hg;obtain⟨g1,g2⟩:=hg;cases htr;have rl:=B4 hT hl;have rc:=B4 hT hc;simp only[aev,D6i]at h;split at h
      ·rename_i k1 n k2 m e1 e2;split at h
       ·rename_i hb;obtain⟨b1,b2,b3,b4,b5,b6⟩:=hb;cases h;rw[e1]at rl;rw[e2]at rc;have hrun:=run_make (P:=P) w t e i z ht hi hz k1 k2 n m b1 b2 b3 b4;have hmr:=B4h (ρ := ρ) z.cells m.toNat;rw[g2]at hmr;refine⟨_,_,_,wrapS (by rw[rl.int_inv,rc.int_inv];exact hrun),?_,Nat.le_of_eq hmr.1,?_⟩
        ·refine .slc id 0 _ _ _ (Ren.upd_same _ _ _) (by omega) (by simp only[maxLen];omega) (.inr ?_) rfl;simp only[size_madeCells];omega
        ·refine A0k.of_arel hmr ?_;rw[A0R];intro x hx;simp only[Y5,A4J,List.mem_replicate]at hx;obtain⟨l0,⟨-,rfl⟩,hx⟩:=hx;rw[A0R]at b5;exact b5 x hx
       ·cases h
      ·cases h
     ·cases htr
    ·cases htr
   ·cases htr
  grind
end
def A7b(H:Hp)(sz:Nat):DV->Option (Nat × List DV)
 |.snil=>some (0,[])
 |.lst xs=>match unit sz xs with
  |true=>some (xs.length,cellsL xs)
  |false=>none
 |.slc id o m =>
  match H id with
   |some b=>match Nat.ble (o+m*sz) b.cells.length with
    |true=>some (m,(b.cells.drop o).take (m*sz))
    |false=>none
   |none=>none
 |_=>none
def A9p(H:Hp)(c sz bytes:Nat)(s:DV)(m:Nat)(src:List DV):Option (DV × Hp × Nat) :=
 match s with
 |.snil =>
  if m=0 then some (.snil,H,c)
  else if m*bytes<=140737488355328/\m<=maxLen then some (.slc c 0 m,H.upd c ⟨sz,true,src⟩,c+1) else none
 |.slc id 0 n =>
  match H id with
  |some b =>
   if b.own=true/\b.unit=sz/\n*sz<=b.cells.length/\(n+m)*bytes<=140737488355328/\n+m<=maxLen then
    some (.slc c 0 (n+m),(H.del id).upd c ⟨sz,true,b.cells.take (n*sz)++src⟩,c+1)
   else none
  |none=>none
 |_=>none
def bytesV(s:List UInt8):List DV:=s.map λb=>DV.int .u8 b.toNat
def stR(H:Hp)(c n:Nat)(x v:DV):Option (DV × Hp × Nat) :=
 match x with
 |.ptr id off=>match H id with
  |some b =>
   if b.own=true/\v.cells.length=n/\off+n<=b.cells.length/\v.cells.all DV.one=true then
    some (.tup [],H.upd id ⟨b.unit,true,b.cells.take off++v.cells++b.cells.drop (off+n)⟩,c)
   else none
  |none=>none
 |_=>none
def apX(H:Hp)(c sz bytes:Nat)(s:DV):Option (Nat × List DV)->Option (DV × Hp × Nat)
 |some (m,src)=>A9p H c sz bytes s m src
 |none=>none
def E3x(H:Hp)(c:Nat)(s x:DV):Option (DV × Hp × Nat) :=
 match x with
 |.str t=>A9p H c 1 1 s t.length (bytesV t)
 |_=>none
def B4k:DV->DV->Bool
 |.str a,.str b=>a==b
 |.int _ a,.int _ b=>a==b
 |.bool a,.bool b=>a==b
 |_,_=>false
def G5(k:DV):List DV->Nat->Option Nat
 |[],_=>none
 |x::r,i=>match B4k k x with
  |true=>some i
  |false=>G5 k r (i+1)
def mcB(kd:KKey):Option Blk->Option (List DV × List DV)
 |some ⟨_,_,[.mpc kd' ks vs]⟩=>if kd=kd' then some (ks,vs) else none
 |_=>none
def U2(H:Hp):KKey->DV->Option (List DV × List DV)
 |_,.mnil=>some ([],[])
 |kd,.mp kd' ks vs=>if kd=kd' then some (ks,vs) else none
 |kd,.mid id=>mcB kd (H id)
 |_,_=>none
def lkV(z:DV)(ok:Bool)(vs:List DV):Option Nat->Option DV
 |some i=>match vs[i]? with
  |some v=>match ok with
   |true=>some (.tup [v,.bool true])
   |false=>some v
  |none=>none
 |none=>match ok with
  |true=>some (.tup [z,.bool false])
  |false=>some z
def lkR(kd:KKey)(z:DV)(ok:Bool)(key:DV):Option (List DV × List DV)->Option DV
 |some (ks,vs)=>match A1j kd key with
  |true=>lkV z ok vs (G5 key ks 0)
  |false=>none
 |none=>none
def muV(H:Hp)(c id u:Nat)(kd:KKey)(ks vs:List DV)(key v:DV):Option Nat->Option (DV × Hp × Nat)
 |some i=>some (.tup [],H.upd id ⟨u,true,[.mpc kd (ks.set i key) (vs.set i v)]⟩,c)
 |none=>some (.tup [],H.upd id ⟨u,true,[.mpc kd (ks++[key]) (vs++[v])]⟩,c)
def muB(H:Hp)(c id:Nat)(kd:KKey)(key v:DV):Option Blk->Option (DV × Hp × Nat)
 |some ⟨u,own,[.mpc kd' ks vs]⟩=>if own=true/\kd=kd'/\A1j kd key=true then muV H c id u kd ks vs key v (G5 key ks 0) else none
 |_=>none
def muR(H:Hp)(c:Nat)(kd:KKey)(key v:DV):DV->Option (DV × Hp × Nat)
 |.mid id=>muB H c id kd key v (H id)
 |_=>none
def lkE(H:Hp)(c:Nat):Option DV->Option (DV × Hp × Nat)
 |some v=>some (v,H,c)
 |none=>none
def cvR(H:Hp)(c:Nat):DV->Option (DV × Hp × Nat)
 |.str t=>if t.length<=maxLen then some (.slc c 0 t.length,H.upd c ⟨1,true,bytesV t⟩,c+1) else none
 |_=>none
def cpB(H:Hp)(c id off n sz m:Nat)(src:List DV):Option Blk->Option (DV × Hp × Nat)
 |some b=>if b.own=true/\b.unit=sz/\m<=n/\m<=maxLen/\off+m*sz<=b.cells.length then
   some (.int .i64 m,H.upd id ⟨b.unit,true,b.cells.take off++src++b.cells.drop (off+m*sz)⟩,c)
  else none
 |none=>none
def cpR(H:Hp)(c sz:Nat)(d:DV):Option (Nat × List DV)->Option (DV × Hp × Nat)
 |some (m,src)=>match d with
  |.slc id off n=>cpB H c id off n sz m src (H id)
  |_=>none
 |none=>none
def F6n(H:Hp)(c:Nat)(d x:DV):Option (DV × Hp × Nat) :=
 match x with
 |.str t=>cpR H c 1 d (some (t.length,bytesV t))
 |_=>none
def azR(H:Hp)(c sz bytes:Nat)(zero:List DV)(s x:DV):Option (DV × Hp × Nat) :=
 match s,x with
 |.snil,.int _ k=>if 0<k/\k.toNat*bytes<=281474976710656/\k<=9223372036854775807/\zero.all DV.one=true/\zero.length=sz then
   some (.slc c 0 k.toNat,H.upd c ⟨sz,true,Y5 zero k.toNat⟩,c+1)
  else none
 |_,_=>none
def caR(H:Hp)(c:Nat):DV->Option (DV × Hp × Nat)
 |.snil=>some (.int .i64 0,H,c)
 |_=>none
def eev(H:Hp)(c:Nat)(e:Opd->DV):EOp->Option (DV × Hp × Nat)
 |.st n x v=>stR H c n (e x) (e v)
 |.app sz bytes s x=>apX H c sz bytes (e s) (A7b H sz (e x))
 |.apps s x=>E3x H c (e s) (e x)
 |.mkm kd=>some (.mid c,H.upd c ⟨0,true,[.mpc kd [] []]⟩,c+1)
 |.mup kd m k v=>muR H c kd (e k) (e v) (e m)
 |.lkp kd z ok m k=>lkE H c (lkR kd (inj z) ok (e k) (U2 H kd (e m)))
 |.cvsb x=>cvR H c (e x)
 |.cpy sz d s=>cpR H c sz (e d) (A7b H sz (e s))
 |.cpys d s=>F6n H c (e d) (e s)
 |.cap0 x=>caR H c (e x)
 |.appz sz bytes zero s x=>azR H c sz bytes (zero.toList.map injS) (e s) (e x)
section
variable {P:Program} {ρ:Ren} {H:Hp} {w:World} {T:Tm} {a:Act}
structure Did (ρ:Ren) (H:Hp) (c:Nat) (w:World) (v':Value) (w':World) (v:DV) (H':Hp) (c':Nat) (ρ':Ren):Prop where
 val:VRel ρ' v v'
 rep:Rep ρ' H' w'
 fresh:∀id,c'<=id -> ρ'.nm id=none
 up:c<=c'
 dom:∀id,id<c->H' id≠none->H id≠none
 same:∀id,id<c -> ρ'.nm id = ρ.nm id
 ext:Ext ρ H w ρ' H' w'
theorem Rep.write(hR:Rep ρ H w){id:Nat}{b:Blk}(hb:H id=some b)(ho:b.own=true){t:Tgt}(ht : ρ.nm id=some t)(hmp:t.mp=false){c c':Array Value}{e:TypeId}{fr0:Nat × Nat}
  (hc:w.heap[t.block]? = some (.cells c e fr0)) (hs:c'.size=c.size) {cells:List DV} (hl:cells.length<=t.room) (hr:A0k ρ cells c' 0) {w':World}
  (hw:∀k,k≠t.block->w'.heap[k]? = w.heap[k]?) (hw2:w'.heap[t.block]? = some (.cells c' e fr0)):Rep ρ (H.upd id ⟨b.unit,true,cells⟩) w':=by
 obtain⟨c0,e0,fr,g1,g2,g3,g4,g5,g6⟩:=hR.look hb ht hmp;rw[hc]at g1;obtain⟨rfl,rfl,rfl⟩:c=c0/\e=e0/\fr0=fr:=j8
 obtain⟨g8,g7⟩:=g6 ho;have back:∀k bk,(H.upd id ⟨b.unit,true,cells⟩) k=some bk->∃b0,H k=some b0/\b0.own=bk.own:=by
  intro k bk hk;by_cases hki:k=id
  ·subst hki;simp only[Hp.upd,if_true,Option.some.injEq]at hk
   grind
  ·simp only[Hp.upd,hki,if_false]at hk
   grind
 constructor
 ·intro j bj hj;by_cases hji:j=id
  ·subst hji;simp only[Hp.upd,if_true,Option.some.injEq]at hj;subst hj;exact⟨t,ht,.inl ⟨hmp,c',e,fr0,hw2,a8,hl,g4,j8,λ_=>⟨g8.imp id (λh=>⟨h.1,by omega⟩),g7⟩⟩⟩
  ·simp only[Hp.upd,hji,if_false]at hj;obtain⟨tj,h1,h2⟩:=hR.blk j bj hj;exact⟨tj,h1,h2.world (hw _ (Ne.symm (hR.sep id j b bj t tj hb hj (Ne.symm hji) ht h1 ho)))⟩
 ·intro i j bi bj ti tj hi hj hij h1 h2 ho';obtain⟨b1,e1,o1⟩:=back i bi hi;obtain⟨b2,e2,o2⟩:=back j bj hj;exact hR.sep i j b1 b2 ti tj e1 e2 hij h1 h2 (o1.trans ho')
 ·intro k r hk;obtain⟨e',fr',h1⟩:=hR.frz k r hk;refine⟨e',fr',?_⟩;rw[hw k (λe=>by have:=hR.dis id b t hb ho ht;rw[<- e,hk]at this;cases this)];omega
 ·intro j bj tj hj ho' hjt;obtain⟨b1,e1,o1⟩:=back j bj hj;exact hR.dis j b1 tj e1 (o1.trans ho') hjt
 ·intro k es hk;obtain⟨⟨cl,h1,hst⟩,h2⟩:=hR.frm k es hk
  grind
theorem Ext.write{id:Nat}{b:Blk}{t:Tgt}(hb:H id=some b)(ho:b.own=true)(ht : ρ.nm id=some t){b':Blk}{w':World}
  (hw:∀k,k≠t.block->w'.heap[k]? = w.heap[k]?) (h1:w'.os=w.os) (h2:w'.tape=w.tape) (h3:w'.output=w.output) (h4:w.heap.size<=w'.heap.size):Ext ρ H w ρ (H.upd id b') w' where
 le:=Ren.le_refl _
 os:=h1
 tape:=h2
 output:=h3
 size:=h4
 keep:=λk hk hno=>hw k (λe=>hno id b t hb ho ht e.symm)
 mine:=λj bj tj g1 g3=>by
  by_cases hji:j=id
  ·grind
  ·simp only[Hp.upd,hji,if_false]at g1
   grind
 fzn:=λk r h=>.inl h
 fmn:=λk r h=>.inl h
theorem R7{u:Nat}(P:Program)(g o:Nat)(t:TypeId)(fr:Nat × Nat):∀(vs:List Value) (i:Nat) (cur:Array Value) (w:World),w.heap[g]? = some (.cells cur t fr)->E4c u cur fr->o+i+vs.length<=cur.size->(∀v∈vs,v.oneCell'=true) ->
  (storeCells ⟨g,o,none⟩ vs i).run P w=.ok () (w.setRow g (cur.toList.take (o+i)++vs++cur.toList.drop (o+i+vs.length)).toArray)
 |[],i,cur,w,hg,_,_,_=>by
  simp only[storeCells,A1D,A0M,A3C,A1P,Array.toArray_toList];rw[setRow_self w g cur t fr hg];rfl
 |v::rest,i,cur,w,hg,hth,hl,h1=>by
  have hi:o+i<cur.size:=by simp at hl;omega
  have hadd:(⟨g,o,none⟩:Addr).add i=⟨g,o+i,none⟩:=by unfold Addr.add;split<;>simp_all
  have hcell:w.cell? ⟨g,o+i,none⟩=some cur[o+i]:=by simp[World.cell?,hg,hi]
  have hfro:w.frozen? ⟨g,o+i,none⟩=false:=by
   obtain⟨lo,hi'⟩:=fr;rcases hth with h|h
   ·cases h;simp[World.frozen?,hg]
   ·have h:cur.size<=lo:=h.2;simp[World.frozen?,hg];omega
  have hst:(store ((⟨g,o,none⟩:Addr).add i) v).run P w=.ok () (w.setRow g (cur.setIfInBounds (o+i) v)):=by
   rw[hadd,run_store P w _ v _ (h1 v (by simp)),hcell];simp[hfro,setCell_eq_setRow w g (o+i) cur t fr v hg]
  have ih:=R7 P g o t fr rest (i+1) (cur.setIfInBounds (o+i) v) (w.setRow g (cur.setIfInBounds (o+i) v)) (setRow_heap w g cur _ t _ hg) (hth.imp id (λh=>⟨h.1,by simpa using h.2⟩)) (by simp at hl ⊢;omega) (λx hx=>h1 x (by simp[hx]));simp only[storeCells,Sem.run_bind,hst,Result.andThen_ok,ih,setRow_setRow]
  congr 3
  have e:=list_seg_step cur.toList (o+i) v rest (by simp at hl ⊢;omega)
  grind
theorem D4b(hR:Rep ρ H w){c:Nat}(hf:∀id,c<=id -> ρ.nm id=none){t:TypeId}{i:TypeInfo}(hi:P.info? t=some i){p u:DV}{p' u':Value}(hp:VRel ρ p p')(hu:VRel ρ u u')
  {id off:Nat} (hpe:p=.ptr id off) {b:Blk} (hb:H id=some b) (ho:b.own=true) (hn:u.cells.length=i.size) (hl:off+i.size<=b.cells.length)
  (h1:u.cells.all DV.one=true) :
  ∃w',(Instr.storeAt t p' u').run P w=.ok () w'/\Did ρ H c w undef w' (.tup []) (H.upd id ⟨b.unit,true,b.cells.take off++u.cells++b.cells.drop (off+i.size)⟩) c ρ := by
 subst hpe;obtain⟨tg,ht,hmp,rfl⟩:=hp.ptr_inv;obtain⟨cc,e,fr,g1,g2,g3,g4,g5,g6⟩:=hR.look hb ht hmp;obtain⟨g8,g7⟩:=g6 ho;rw[g7]at g2 g5;have hcs:=hu.cells h1;have hlen:u'.cells.toList.length=i.size:=by rw[A3B, <- hcs.1];omega
 have hone:∀v∈u'.cells.toList,v.oneCell'=true:=by
  intro v hv;obtain⟨j,hj,hvj⟩:=A3Z hv;have hvj':u'.cells[j]? = some v:=j8
  have hj':j<u.cells.length:=a8
  have hr:=hcs.2 j _ v (A0B hj') hvj';rw[A0R]at h1;exact hr.one (h1 _ (A0O hj'))
 have hst:=R7 P tg.block off e fr u'.cells.toList 0 cc w g1 g8 (by omega) hone;rw[A3C,hlen]at hst;refine⟨w.setRow tg.block (cc.toList.take off++u'.cells.toList++cc.toList.drop (off+i.size)).toArray,?_,?_⟩
 ·have hsz:u'.cells.size=i.size:=by rw[<- hcs.1];exact hn
  simp only[Instr.storeAt,Instr.sureAddr,Sem.run_bind,Sem.run_pure,Result.andThen_ok,storeVar,Eng.run_sizeOf hi,hsz,ne_eq,not_true_eq_false,if_false,g7,A1F];omega
 ·have hsz2:(cc.toList.take off++u'.cells.toList++cc.toList.drop (off+i.size)).toArray.size=cc.size:=by
   grind
  have hwo:∀k,k≠tg.block->(w.setRow tg.block (cc.toList.take off++u'.cells.toList++cc.toList.drop (off+i.size)).toArray).heap[k]? = w.heap[k]? := λk hk=>setRow_other w _ k _ hk;refine⟨.tup _ _ rfl (by simp),?_,hf,A0E _,?_,λ_ _=>rfl,Ext.write hb ho ht hwo rfl rfl rfl (by simp)⟩
  ·refine hR.write hb ho ht hmp g1 hsz2 ?_ ?_ hwo (setRow_heap w _ cc _ e _ g1)
   ·grind
   ·intro j v hv;rw[A0K,A2A]at hv;simp only[A1C]at hv;have hmin:min off b.cells.length=off:=by omega
    have hmin':min off cc.size=off:=a8
    rw[hmin]at hv;simp only[A1F,A1X];rw[A0K,A2A];simp only[A1C,A3B,hmin'];split at hv
    ·rename_i hj;rw[if_pos hj];rw[A1V,if_pos hj]at hv;obtain⟨q1,v',q2,q3⟩:=g5 j v hv
     grind
    ·rename_i hj;rw[if_neg hj];rw[A2A]at hv ⊢;simp only[hn]at hv;simp only[hlen];split at hv
     ·rename_i hj2;rw[if_pos hj2];obtain⟨y,q1,q2⟩:=hcs.get hv
      grind
     ·rename_i hj2;rw[if_neg hj2];rw[A2F]at hv ⊢;obtain⟨q1,v',q2,q3⟩:=g5 _ v hv
      grind
  ·intro j hj hne;by_cases hji:j=id
   ·grind
   ·simpa[Hp.upd,hji] using hne
end
open Go.Eng (C0n C0l)
section
variable {P:Program} {ρ:Ren} {H:Hp} {w:World} {T:Tm} {a:Act}
structure Src (P:Program) (ρ:Ren) (w:World) (sz:Nat) (m:Nat) (src:List DV) (x':Value) (news:List Value):Prop where
 len:∀w0:World,(Builtin.lenOf x').run P w0=.ok m w0
 run:∀w0:World,w0.heap=w.heap->(Builtin.firstCells sz m x').run P w0=.ok news.toArray w0
 size:news.length=m*sz
 size':src.length=m*sz
 rel:∀(i:Nat) v,src[i]? = some v->v.one=true/\∃v',news[i]? = some v'/\VRel ρ v v'
 one:∀u∈news,u.oneCell'=true
theorem Src.zero{sz:Nat}{x':Value}(h:x'=.slice none 0 0\/∃ad c,x'=.slice (some ad) 0 c):Src P ρ w sz 0 [] x' []:=by
 rcases h with rfl|⟨ad,c,rfl⟩
 ·exact⟨λ_=>rfl,λw0 _=>rfl,by simp,by simp,by simp,by simp⟩
 ·exact⟨λ_=>rfl,λw0 _=>by simp[Builtin.firstCells,loadCells,loadCellsFrom],by simp,by simp,by simp,by simp⟩
theorem Src.row{sz m:Nat}{src:List DV}{b o c:Nat}{row:Array Value}{e:TypeId}{fr:Nat × Nat}(hb:w.heap[b]? = some (.cells row e fr))(hle:o+m*sz<=row.size)(hl:src.length=m*sz)
  (hA:I3 ρ src ((row.toList.drop o).take (m*sz)).toArray) (h1:∀d∈src,d.one=true):Src P ρ w sz m src (.slice (some ⟨b,o,none⟩) m c) ((row.toList.drop o).take (m*sz)):=by
 refine⟨λ_=>rfl,λw0 h0=>?_,j8,hl,λi v hv=>?_,λu hu=>?_⟩
 ·have g1':w0.heap[b]? = some (.cells row e fr):=by grind
  exact Eng.run_loadCells_row g1' hle
 ·obtain⟨y,q1,q2⟩:=hA.get hv
  grind
 ·obtain⟨j,hj,hju⟩:=A3Z hu;have hj2:j<src.length:=by grind
  have hr:=hA.2 j _ u (A0B hj2) (by grind);exact hr.one (h1 _ (A0O hj2))
theorem B6d(hR:Rep ρ H w){sz:Nat}{x:DV}{x':Value}(hx:VRel ρ x x'){m:Nat}{src:List DV}(h:A7b H sz x=some (m,src)):∃news,Src P ρ w sz m src x' news:=by
 unfold A7b at h;split at h
 ·cases h;cases hx;exact⟨[],Src.zero (.inl rfl)⟩
 ·rename_i xs;split at h
  ·rename_i hu0;rw[B9t]at hu0;cases h;rcases hx.lst_inv with ⟨rfl,hv|⟨ad,c,hv⟩⟩|⟨u,b,off,c,row,rfl,hf,hc,hm,hu,hF⟩
   ·exact⟨[],Src.zero (.inl hv)⟩
   ·exact⟨[],Src.zero (.inr ⟨ad,c,hv⟩)⟩
   ·obtain⟨ty,fr,hb⟩:=hR.frz b row hf;have hcl:=C3 hu0;have hs:=hF.seg (A0E _);rw[A1T,hcl]at hs;exact⟨_,Src.row hb (by have:=hF.1;omega) hcl hs hF.2.1⟩
  ·cases h
 ·rename_i id o m';split at h
  ·rename_i b hb;split at h
   ·rename_i hle;rw[A2L]at hle;cases h;cases hx with
    |slc _ _ _ cap tg htg hc hmx hr hmp =>
     obtain⟨cc,e,fr,g1,g2,g3,g4,g5,g6⟩:=hR.look hb htg hmp;refine⟨_,Src.row g1 (by omega) (by simp;omega) (g5.seg hle (by omega)) λd hd=>?_⟩;obtain⟨j,hj,hju⟩:=A3Z hd;have hj2:j<m*sz:=by simp at hj;omega
     have e1:b.cells[o+j]? = some d:=by
      rw[<- hju];simp only[List.getElem_take,List.getElem_drop];exact A0B _
     exact(g5 _ _ e1).1
   ·cases h
  ·cases h
 grind
theorem str_src(s:List UInt8):Src P ρ w 1 s.length (bytesV s) (.string ⟨s.toArray⟩) (s.map λb=>Value.int .u8 b.toNat):=by
 have h:=Eng.str_src (P:=P) (ρ := ρ0) (w:=w) ⟨s.toArray⟩;have e1:Eng.bytesV ⟨s.toArray⟩=s.map λb=>Value.int .u8 b.toNat:=by rfl
 rw[e1]at h;refine⟨h.len,h.run,h.size,by simp[bytesV],λi v hv=>?_,h.one⟩;simp only[bytesV,A1Z,A0T]at hv;obtain⟨b,hb,rfl⟩:=hv;exact⟨rfl,.int .u8 b.toNat,j8,.int _ _⟩
theorem C0m{t u ty e:TypeId}{i:TypeInfo}(ht:P.underlying t=some (.slice e)){D:TypeDesc}(hu:P.underlying u=some D)(hD:(∃e',D=.slice e')\/D=.string)(hi:P.info? e=some i)
  {g sLen sCap m:Nat} {cur:Array Value} {e':TypeId} {fr:Nat × Nat} (hg:w.heap[g]? = some (.cells cur e' fr)) {un:Nat} (hth:E4c un cur fr) {x':Value} {news:List Value}
  (hlen:∀w0:World,(Builtin.lenOf x').run P w0=.ok m w0) (hnew:∀w0:World,w0.heap=w.heap->(Builtin.firstCells i.size m x').run P w0=.ok news.toArray w0)
  (h1:∀u∈news,u.oneCell'=true) (hroom:sLen+m<=sCap) (hfit:sLen*i.size+news.length<=cur.size) :
  (Builtin.append_ #[t,u] ty #[.slice (some ⟨g,0,none⟩) sLen sCap,x']).run P w =
   .ok (.slice (some ⟨g,0,none⟩) (sLen+m) sCap) (w.setRow g (cur.toList.take (sLen*i.size)++news++cur.toList.drop (sLen*i.size+news.length)).toArray):=by
 have hf:=hnew w rfl;have hst:=R7 P g (sLen*i.size) e' fr news 0 cur w hg hth (by omega) h1;simp only[A3C]at hst;rcases hD with ⟨e',rfl⟩|rfl<;>simp[Builtin.append_,run_underlying ht,run_underlying hu,sizeOf,typeInfo,hi,hlen,hroom,hf,Addr.add_lit,hst]
theorem B7l(hR:Rep ρ H w){c:Nat}(hf:∀id,c<=id -> ρ.nm id=none){t u ty e:TypeId}{i:TypeInfo}{z:Value}(ht:P.underlying t=some (.slice e)){D:TypeDesc}(hu:P.underlying u=some D)
  (hD:(∃e',D=.slice e')\/D=.string) (hi:P.info? e=some i) (hz:i.zero=some z) (hzs:z.cells.size=i.size) (hsz:0<i.size)
  {s:DV} {s' x':Value} (hs:VRel ρ s s') {m:Nat} {src:List DV} {news:List Value} (hsrc:Src P ρ w i.size m src x' news) {v:DV} {H':Hp} {c':Nat} (h:A9p H c i.size i.bytes s m src=some (v,H',c')) :
  ∃v' w' ρ',(Builtin.append_ #[t,u] ty #[s',x']).run P w=.ok v' w'/\Did ρ H c w v' w' v H' c' ρ':=by
 unfold A9p at h
 have grown:∀(base:Option Addr) (sLen sCap:Nat) (olds:List Value) (known:List DV),(∀w0:World,w0.heap=w.heap->(Builtin.firstCells i.size sLen (.slice base sLen sCap)).run P w0=.ok olds.toArray w0) ->
   sCap<sLen+m->sLen+m<=maxLen->(sLen+m)*i.bytes<=140737488355328->olds.length=sLen*i.size->known.length=sLen*i.size ->
   (∀(j:Nat) v,known[j]? = some v->v.one=true/\∃v',olds[j]? = some v'/\VRel ρ v v')->∀H0:Hp,(∀j,H0 j=none\/H0 j=H j) ->
   ∃v' w' ρ',(Builtin.append_ #[t,u] ty #[.slice base sLen sCap,x']).run P w=.ok v' w'/\Did ρ H c w v' w' (.slc c 0 (sLen+m)) (H0.upd c ⟨i.size,true,known++src⟩) (c+1) ρ':=by
  intro base sLen sCap olds known O8 hg h63 hb hlo hlk hrel H0 hH0;have hrun:=C0n (w:=w) (ty:=ty) ht hu hD hi hz hsrc.len O8 hsrc.run hg h63 hb;have hge:=grownCap_ge w (sLen+m) sCap e;have hcm:=grownCap_le_maxLen w (sLen+m) sCap e h63;have hR0:Rep ρ H0 w:=⟨λj bj hj=>hR.blk j bj (by rcases hH0 j with h0|h0<;>rw[h0]at hj;exact absurd hj (by simp);exact hj),λa b ba bb ta tb h1 h2=>by
   have g1:H a=some ba:=by rcases hH0 a with h0|h0<;>rw[h0]at h1;exact absurd h1 (by simp);exact h1
   have g2:H b=some bb:=by rcases hH0 b with h0|h0<;>rw[h0]at h2;exact absurd h2 (by simp);exact h2
   exact hR.sep a b ba bb ta tb g1 g2,hR.frz,λj bj tj h1=>by
   have g1:H j=some bj:=z7
   exact hR.dis j bj tj g1,λk es hk=>⟨(hR.frm k es hk).1,λj bj tj h1=>by
   have g1:H j=some bj:=z7
   exact(hR.frm k es hk).2 j bj tj g1⟩⟩
  have hid : ρ.nm c=none:=hf c (A0E _);have hsz3:(olds.toArray++news.toArray++Builtin.zeroCells z.cells (grownCap w (sLen+m) sCap e-(sLen+m))).size=grownCap w (sLen+m) sCap e*i.size:=by
   simp only[Array.size_append,A4F,size_zeroCells,hzs,hlo,hsrc.size, <- A3M]
   congr 1
   omega
  have hcr:A0k ρ (known++src) (olds.toArray++news.toArray++Builtin.zeroCells z.cells (grownCap w (sLen+m) sCap e-(sLen+m))) 0:=by
   intro j v hv;rw[A1F];have hL:(olds++news).length=(sLen+m)*i.size:=by rw[A0A,hlo,hsrc.size,A3M]
   have hjlt:j<(known++src).length:=(A1G.1 hv).1;have hjlt2:j<(olds++news).length:=by rw[hL];rw[A0A,hlk,hsrc.size', <- A3M]at hjlt;exact hjlt
   have key:v.one=true/\∃v',(olds++news)[j]? = some v'/\VRel ρ v v':=by
    rw[A2A]at hv ⊢;rw[hlo];rw[hlk]at hv;split at hv
    ·rename_i hj;rw[if_pos hj];exact hrel j v hv
    ·rename_i hj;rw[if_neg hj];exact hsrc.rel _ v hv
   obtain⟨k1,v',k2,k3⟩:=key;refine⟨k1,v',?_,k3⟩;rw[show olds.toArray++news.toArray=(olds++news).toArray by simp,Array.getElem?_append_left (by simpa using hjlt2)];simpa using k2
  refine⟨_,_, ρ.upd c ⟨w.heap.size,0,(olds.toArray++news.toArray++Builtin.zeroCells z.cells (grownCap w (sLen+m) sCap e-(sLen+m))).size,i.size,false⟩,hrun,?_,?_,?_,A2M _,?_,λj hj=>o9,?_⟩
  ·have:=VRel.slc (ρ := ρ.upd c ⟨w.heap.size,0,(olds.toArray++news.toArray++Builtin.zeroCells z.cells (grownCap w (sLen+m) sCap e-(sLen+m))).size,i.size,false⟩) c 0 (sLen+m) (grownCap w (sLen+m) sCap e) _ (Ren.upd_same _ _ _) hge hcm (.inr (by simp only[hsz3];omega)) rfl;simpa using this
  ·exact hR0.alloc (b:=⟨i.size,true,known++src⟩) hid hcr (by rw[hsz3];simp only[A0A,hlk,hsrc.size', <- A3M];exact A2X _ hge) rfl
  ·intro j hj;simp only[Ren.upd,show j≠c by omega,if_false];exact hf j (by omega)
  ·intro j hj hne;simp only[Hp.upd,show j≠c by omega,if_false]at hne;rcases hH0 j with h0|h0
   ·exact absurd h0 hne
   ·rwa [h0]at hne
  ·have hx:=Ext.alloc (b:=⟨i.size,true,known++src⟩) (c:=(olds.toArray++news.toArray++Builtin.zeroCells z.cells (grownCap w (sLen+m) sCap e-(sLen+m)))) (e:=e)
    (w':=w.drew.alloc (.cells (olds.toArray++news.toArray++Builtin.zeroCells z.cells (grownCap w (sLen+m) sCap e-(sLen+m))) e)) hR hid rfl rfl rfl rfl
   refine⟨hx.le,hx.os,hx.tape,hx.output,hx.size,hx.keep,λj bj tj g1 g3=>?_,hx.fzn,hx.fmn⟩;refine hx.mine j bj tj ?_ g3;by_cases hjc:j=c
   ·subst hjc;simpa[Hp.upd] using g1
   ·simp only[Hp.upd,hjc,if_false]at g1 ⊢;rcases hH0 j with h0|h0<;>rw[h0]at g1
    ·cases g1
    ·exact g1
 split at h
 ·cases hs;split at h
  ·rename_i hm0;subst hm0;cases h;have hn:news=[]:=A1Y (by simpa using hsrc.size);subst hn;exact⟨_,w, ρ,C0l ht hu hD hi hsrc.len hsrc.run,.snil,hR,hf,A0E _,λ_ _ h=>h,λ_ _=>rfl,Ext.refl _ _ _⟩
  ·rename_i hm;split at h
   ·rename_i b12;obtain⟨b1,b2⟩:=b12;cases h;have hpos:0<m:=Nat.pos_of_ne_zero hm;have:=grown none 0 0 [] [] (λw0 _=>rfl) (by omega) (by omega) (by rw[A1F];exact b1) (by simp) (by simp) (by simp) H (λj=>.inr rfl);simpa using this
   ·cases h
 ·rename_i id n;split at h
  ·rename_i b hb;split at h
   ·rename_i hg;obtain⟨ho,hun,hle,hbb,hmx⟩:=hg;cases h;cases hs with
    |slc _ _ _ cap tg htg hc hm hr hmp =>
     obtain⟨cc,ee,fr,g1,g2,g3,g4,g5,g6⟩:=hR.look hb htg hmp;obtain⟨g8,g7⟩:=g6 ho;simp only[g7,A1F,A3C]at *;by_cases hroom:n+m<=cap
     ·
      have hfit:(n+m)*i.size<=cc.size:=by
       rcases hr with h0|h0
       ·omega
       ·have:=A2X i.size hroom;rw[g4,hun]at h0;omega
      have hnl:n*i.size+news.length<=cc.size:=by rw[hsrc.size, <- A3M];exact hfit
      have hrun:=C0m (w:=w) (ty:=ty) ht hu hD hi (sLen:=n) (sCap:=cap) g1 g8 hsrc.len hsrc.run hsrc.one hroom hnl;have hid : ρ.nm c=none:=hf c (A0E _);have hne:id≠c:=λe=>by rw[e]at htg;rw[hid]at htg;cases htg
      have hle' : ρ.le (ρ.upd c ⟨tg.block,0,tg.room,i.size,false⟩):=Ren.le_upd hid;have hlt:tg.block<w.heap.size:=(A0Z.1 g1).1;refine⟨_,_, ρ.upd c ⟨tg.block,0,tg.room,i.size,false⟩,hrun,?_,?_,?_,A2M _,?_,λj hj=>o9,?_⟩
      ·have:=VRel.slc (ρ := ρ.upd c ⟨tg.block,0,tg.room,i.size,false⟩) c 0 (n+m) cap _ (Ren.upd_same _ _ _) hroom hm (.inr (by
        simp only[];rcases hr with h0|h0
        ·omega
        ·rw[g4,hun]at h0;omega)) rfl
       simpa using this
      ·have hcs:(cc.toList.take (n*i.size)++news++cc.toList.drop (n*i.size+news.length)).toArray.size=cc.size:=by
        simp only[A4F,A0A,A1C,A2J,A3B];omega
       have hcr:A0k ρ (b.cells.take (n*i.size)++src) (cc.toList.take (n*i.size)++news++cc.toList.drop (n*i.size+news.length)).toArray 0:=by
        intro j v hv;simp only[A1F,A1X];rw[A2A]at hv;have hmin:(b.cells.take (n*i.size)).length=n*i.size:=by rw[A1C];omega
        have hmin':(cc.toList.take (n*i.size)).length=n*i.size:=by rw[A1C,A3B];omega
        rw[hmin]at hv;rw[A0K,A2A,hmin'];split at hv
        ·rename_i hj;rw[if_pos hj];rw[A1V,if_pos hj]at hv;obtain⟨q1,v',q2,q3⟩:=g5 j v hv;refine⟨q1,v',?_,q3⟩;rw[A1V,if_pos hj];simpa using q2
        ·rename_i hj;rw[if_neg hj];obtain⟨q1,v',q2,q3⟩:=hsrc.rel _ v hv;refine⟨q1,v',?_,q3⟩;rw[A2K (A1G.1 q2).1];exact q2
       have hwo:∀k,k≠tg.block->(w.setRow tg.block (cc.toList.take (n*i.size)++news++cc.toList.drop (n*i.size+news.length)).toArray).heap[k]? = w.heap[k]? := λk hk=>setRow_other w _ k _ hk;constructor
       ·intro j bj hj;by_cases hjc:j=c
        ·subst hjc;simp only[Hp.upd,if_true,Option.some.injEq]at hj;subst hj;refine⟨_,Ren.upd_same _ _ _,.inl ⟨rfl,_,ee,fr,setRow_heap w _ cc _ ee _ g1,by simp only[];rw[hcs,A1F];exact g2,?_,rfl,hcr.mono hle',λ_=>⟨g8.imp (λh=>h) (λh=>⟨hun▸h.1,by rw[hcs];exact h.2⟩),rfl⟩⟩⟩;simp only[A0A,A1C,hsrc.size'];rw[g2];have e1:min (n*i.size) b.cells.length=n*i.size:=by omega
         rw[e1, <- A3M];exact hfit
        ·simp only[Hp.upd,hjc,if_false,Hp.del]at hj;split at hj
         ·cases hj
         ·rename_i hji;obtain⟨tj,q1,q2⟩:=hR.blk j bj hj;exact⟨tj,hle'.nm _ _ q1,(q2.mono hle').world (hwo _ (Ne.symm (hR.sep id j b bj tg tj hb hj (Ne.symm hji) htg q1 ho)))⟩
       ·intro j k bj bk tj tk hj hk hjk h1 h2 ho';have back:∀l bl tl,((H.del id).upd c ⟨i.size,true,b.cells.take (n*i.size)++src⟩) l=some bl->(ρ.upd c ⟨tg.block,0,tg.room,i.size,false⟩).nm l=some tl ->
          ∃l0 bl0 tl0,H l0=some bl0 /\ ρ.nm l0=some tl0/\tl0.block=tl.block/\bl0.own=bl.own/\(l=c/\l0=id\/l≠c/\l0=l/\l≠id):=by
         intro l bl tl hl hl2;by_cases hlc:l=c
         ·subst hlc;simp only[Hp.upd,if_true,Option.some.injEq]at hl;simp only[Ren.upd,if_true,Option.some.injEq]at hl2;subst hl hl2;exact⟨id,b,tg,hb,htg,rfl,ho,.inl ⟨rfl,rfl⟩⟩
         ·simp only[Hp.upd,hlc,if_false,Hp.del]at hl;simp only[Ren.upd,hlc,if_false]at hl2;split at hl
          ·cases hl
          ·rename_i hli;exact⟨l,bl,tl,hl,hl2,rfl,rfl,.inr ⟨hlc,rfl,hli⟩⟩
        obtain⟨j0,bj0,tj0,a1,a2,a3,a4,a5⟩:=back j bj tj hj h1;obtain⟨k0,bk0,tk0,b1,b2,b3,b4,b5⟩:=back k bk tk hk h2;rw[<- a3, <- b3];refine hR.sep j0 k0 bj0 bk0 tj0 tk0 a1 b1 ?_ a2 b2 (a4.trans ho');rcases a5 with ⟨q1,q2⟩|⟨q1,q2,q3⟩<;>rcases b5 with ⟨r1,r2⟩|⟨r1,r2,r3⟩<;>omega
       ·intro k r hk;obtain⟨e',fr',h1⟩:=hR.frz k r hk;refine⟨e',fr',?_⟩;rw[hwo k (λe=>by have:=hR.dis id b tg hb ho htg;rw[<- e]at this;rw[show ρ.fz k=some r from hk]at this;cases this)];exact h1
       ·intro j bj tj hj ho' hjt;by_cases hjc:j=c
        ·subst hjc;rw[Ren.upd_same]at hjt;cases hjt;exact hR.dis id b tg hb ho htg
        ·simp only[Hp.upd,hjc,if_false,Hp.del]at hj;simp only[Ren.upd,hjc,if_false]at hjt;split at hj
         ·cases hj
         ·exact hR.dis j bj tj hj ho' hjt
       ·intro k es hk;obtain⟨⟨cl,h1,hst⟩,h2⟩:=hR.frm k es hk;refine⟨⟨cl,by rw[hwo k (λe=>h2 id b tg hb ho htg e.symm)];exact h1,hst⟩,λj bj tj hj ho' hjt=>?_⟩;by_cases hjc:j=c
        ·subst hjc;rw[Ren.upd_same]at hjt;cases hjt;exact h2 id b tg hb ho htg
        ·simp only[Hp.upd,hjc,if_false,Hp.del]at hj;simp only[Ren.upd,hjc,if_false]at hjt;split at hj
         ·cases hj
         ·exact h2 j bj tj hj ho' hjt
      ·intro j hj;simp only[Ren.upd,show j≠c by omega,if_false];exact hf j (by omega)
      ·intro j hj hne';simp only[Hp.upd,show j≠c by omega,if_false,Hp.del]at hne';split at hne'
       ·exact absurd rfl hne'
       ·exact hne'
      ·refine⟨hle',rfl,rfl,rfl,by simp,λk hk hno=>setRow_other w _ k _ (λe=>hno id b tg hb ho htg e.symm),λj bj tj q1 q3=>?_,λk r h=>.inl h,λk r h=>.inl h⟩;by_cases hjc:j=c
       ·subst hjc;simp only[Ren.upd,if_true,Option.some.injEq]at q3;subst q3;exact .inr ⟨id,b,tg,hb,λ_=>ho,htg,rfl⟩
       ·simp only[Hp.upd,hjc,if_false,Hp.del]at q1;simp only[Ren.upd,hjc,if_false]at q3;split at q1
        ·cases q1
        ·exact .inr ⟨j,bj,tj,q1,λh=>h,q3,rfl⟩
     ·
      have hld:∀w0:World,w0.heap=w.heap->(Builtin.firstCells i.size n (.slice (some ⟨tg.block,0,none⟩) n cap)).run P w0=.ok ((cc.toList.drop 0).take (n*i.size)).toArray w0:=by
       intro w0 h0;have g1':w0.heap[tg.block]? = some (.cells cc ee fr):=by rw[h0];exact g1
       exact Eng.run_loadCells_row g1' (by omega)
      refine grown (some ⟨tg.block,0,none⟩) n cap _ (b.cells.take (n*i.size)) hld (by omega) hmx hbb (by simp;omega) (by simp;omega) ?_ (H.del id) (λj=>by unfold Hp.del;split<;>simp);intro j v hv;rw[A1V]at hv;split at hv
      ·rename_i hj;obtain⟨q1,v',q2,q3⟩:=g5 j v hv;refine⟨q1,v',?_,q3⟩;rw[A3V,A1V,if_pos hj];simpa using q2
      ·cases hv
   ·cases h
  ·cases h
 grind
end
open Go.Eng (KKey B1u)
section
variable {P:Program} {ρ:Ren} {H:Hp} {w w':World} {kd:KKey} {d:TypeDesc}
theorem A2w(hd:B1u d=some kd){x:DV}{v:Value}(hx:VRel ρ x v)(hk:A1j kd x=true):MapKept.IsKey d v:=by
 cases d<;>simp only[B1u,Option.some.injEq,reduceCtorEq]at hd<;>subst hd<;>cases x<;>simp only[A1j,A1M,A0L]at hk
 ·rw[hx.bool_inv];trivial
 ·rw[hx.int_inv];exact hk
 ·rw[hx.str_inv];trivial
theorem D1j(hd:B1u d=some kd){x y:DV}{v u:Value}(hx:VRel ρ x v)(hy:VRel ρ y u)(h1:A1j kd x=true)(h2:A1j kd y=true):B4k x y=true↔v=u:=by
 cases d<;>simp only[B1u,Option.some.injEq,reduceCtorEq]at hd<;>subst hd<;>cases x<;>simp only[A1j,A1M,A0L]at h1 <;>
  cases y<;>simp only[A1j,A1M,A0L]at h2
 ·rw[hx.bool_inv,hy.bool_inv];simp[B4k]
 ·rw[hx.int_inv,hy.int_inv];simp[B4k,h1,h2]
 ·rw[hx.str_inv,hy.str_inv];simp[B4k]
theorem B4s(hd:B1u d=some kd){k:DV}{k':Value}(rk:VRel ρ k k')(hk:A1j kd k=true):∀(ks:List DV) (l:List MapEntry) (i:Nat),ks.length=l.length->ks.all (A1j kd)=true ->
  (∀(j:Nat) x (e:MapEntry),ks[j]? = some x->l[j]? = some e->VRel ρ x e.key) ->
  (G5 k ks i=none/\Instr.findNow d k' l i=some none)\/∃j e,G5 k ks i=some (i+j)/\l[j]? = some e/\Instr.findNow d k' l i=some (some (i+j,e.val))/\e.key=k'
 |[],[],i,_,_,_=>.inl ⟨rfl,rfl⟩
 |[],_::_,i,h,_,_=>j8
 |_::_,[],i,h,_,_=>j8
 |x::ks,e::l,i,hl,ha,hr=>by
  simp only[A2Q,A0G]at ha;have rx:=hr 0 x e rfl rfl;have hI:=A2w hd rk hk;have hI2:=A2w hd rx ha.1;obtain⟨r,h1,h2⟩:=MapKept.sameNow_of_keys hI hI2;have h3:=D1j hd rk rx hk ha.1;cases hq:B4k k x with
  |true =>
   rw[hq]at h3;have he:=h3.1 rfl;have:r=true:=h2.2 he;subst this;exact .inr ⟨0,e,by simp[G5,hq],rfl,by simp[Instr.findNow,h1],he.symm⟩
  |false =>
   have:r=false:=by
    grind
   subst this;rcases B4s hd rk hk ks l (i+1) (by grind) ha.2 (λj x e h4 h5=>hr (j+1) x e (by grind) (by grind)) with ⟨h4,h5⟩|⟨j,e',h4,h5,h6,h7⟩
   ·exact .inl ⟨by simp[G5,hq,h4],by simp[Instr.findNow,h1,h5]⟩
   ·exact .inr ⟨j+1,e',by simp[G5,hq,h4];omega,j8,by simp[Instr.findNow,h1,h6];omega,h7⟩
theorem D8t(hR:Rep ρ H w){m:DV}{m':Value}(rm:VRel ρ m m'){ks vs:List DV}(h:U2 H kd m=some (ks,vs)):
  ∃es,B1e ρ kd ks vs es/\((m'=.map none/\es = #[])\/∃b cl,m'=.map (some b)/\w.heap[b]? = some (.map es cl)):=by
 unfold U2 at h;split at h
 ·cases h;cases rm;exact⟨#[],⟨rfl,rfl,rfl,λi x e hx=>(by cases hx),λi x e hx=>(by cases hx)⟩,.inl ⟨rfl,rfl⟩⟩
 ·split at h
  ·rename_i hk;cases h;subst hk;cases rm with
   |mp _ _ _ b es h0 h1 h2 h3 h4 h5 =>
    obtain⟨⟨cl,hb, -⟩, -⟩:=hR.frm b es h0;exact⟨es,⟨h1,h2,h3,h4,h5⟩,.inr ⟨b,cl,rfl,hb⟩⟩
  ·cases h
 ·rename_i kd' id;unfold mcB at h;split at h
  ·rename_i u own kd2 ks2 vs2 hb;split at h
   ·rename_i hk;cases h;subst hk;obtain⟨t,ht,hmp,rfl⟩:=rm.mid_inv;obtain⟨-, -,es,cl,kd3,ks3,vs3,g1,g2,g3, -⟩:=hR.lookm hb ht hmp;cases g2;exact⟨es,g3,.inr ⟨t.block,cl,rfl,g1⟩⟩
   ·cases h
  ·cases h
 grind
theorem D1h(hR:Rep ρ H w){t kt et:TypeId}{i:TypeInfo}{z:Value}(hm:P.underlying t=some (.map kt et))(hd:P.underlying kt=some d)(hk:B1u d=some kd)(hi:P.info? et=some i)(hz:i.zero=some z)
  {m k:DV} {m' k':Value} (rm:VRel ρ m m') (rk:VRel ρ k k') {ok:Bool} {v:DV} (h:lkR kd (inj z) ok k (U2 H kd m)=some v):∃v',(Instr.lookup t m' k' ok).run P w=.ok v' w/\VRel ρ v v':=by
 unfold lkR at h;split at h
 ·rename_i ks vs hc;split at h
  ·rename_i hok;obtain⟨es,⟨a1,a2,a3,a4,a5⟩,hm'⟩:=D8t hR rm hc;have hI:=A2w hk rk hok;have F:=B4s (k':=k') hk rk hok ks es.toList 0 (by simpa using a2) a1 (λj x e h1 h2=>a4 j x e h1 (by simpa using h2));have run:∀a,Instr.findNow d k' es.toList 0=some a->(Instr.lookup t m' k' ok).run P w=.ok (match a with
     |some (_,v)=>if ok then .tuple #[v,.bool true] else v
     |none=>if ok then .tuple #[z,.bool false] else z) w:=by
    intro a ha;rcases hm' with ⟨rfl,rfl⟩|⟨b,cl,rfl,hb⟩
    ·simp only[Instr.lookup,Sem.run_bind,run_underlying hm,Result.andThen_ok,Sem.run_pure,MapKept.run_checkKey hd hI,MapKept.run_findKey hd ha];cases a<;>simp[Eng.run_zeroValue hi hz]<;>cases ok<;>simp
    ·simp only[Instr.lookup,Sem.run_bind,run_underlying hm,Result.andThen_ok,MapKept.run_getObj_map hb,Sem.run_pure,MapKept.run_checkKey hd hI,MapKept.run_findKey hd ha];cases a<;>simp[Eng.run_zeroValue hi hz]<;>cases ok<;>simp
   rcases F with ⟨f1,f2⟩|⟨j,e,f1,f2,f3, -⟩
   ·rw[f1]at h;refine⟨_,run _ f2,?_⟩;cases ok<;>simp only[lkV,Option.some.injEq]at h<;>subst h
    ·simpa using VRel.inj z
    ·refine .tup _ _ rfl (λi x y hx hy=>?_);rcases i with _|_|i
     ·cases hx;cases hy;exact VRel.inj z
     ·cases hx;cases hy;exact .bool _
     ·cases hx
   ·rw[f1,A1F]at h;refine⟨_,run _ f3,?_⟩;simp only[lkV]at h;split at h
    ·rename_i v0 hv;have rv:=a5 j v0 e hv (by simpa using f2);cases ok<;>simp only[Option.some.injEq]at h<;>subst h
     ·simpa using rv
     ·refine .tup _ _ rfl (λi x y hx hy=>?_);rcases i with _|_|i
      ·cases hx;cases hy;exact rv
      ·cases hx;cases hy;exact .bool _
      ·cases hx
    ·cases h
  ·cases h
 grind
theorem Rep.writem(hR:Rep ρ H w){id:Nat}{b:Blk}(hb:H id=some b)(ho:b.own=true){t:Tgt}(ht : ρ.nm id=some t)(hmp:t.mp=true)(hs:t.shift=0)
  (hw:∀k,k≠t.block->w'.heap[k]? = w.heap[k]?) {es:Array MapEntry} {cl u:Nat} (hw2:w'.heap[t.block]? = some (.map es cl)) {ks vs:List DV} (hM:B1e ρ kd ks vs es) (hSt:Stp es cl) :
  Rep ρ (H.upd id ⟨u,true,[.mpc kd ks vs]⟩) w':=by
 have back:∀k bk,(H.upd id ⟨u,true,[.mpc kd ks vs]⟩) k=some bk->∃b0,H k=some b0/\b0.own=bk.own:=by
  intro k bk hk;by_cases hki:k=id
  ·subst hki;simp only[Hp.upd,if_true,Option.some.injEq]at hk
   grind
  ·simp only[Hp.upd,hki,if_false]at hk
   grind
 refine⟨λj bj hj=>?_,λi j bi bj ti tj hi hj hij h1 h2 ho'=>?_,λk r hk=>?_,λj bj tj hj ho' hjt=>?_,λk r hk=>?_⟩
 ·by_cases hji:j=id
  ·subst hji;simp only[Hp.upd,if_true,Option.some.injEq]at hj;subst hj;exact⟨t,ht,.inr ⟨hmp,rfl,hs,es,cl,kd,ks,vs,hw2,rfl,hM,hSt⟩⟩
  ·simp only[Hp.upd,hji,if_false]at hj;obtain⟨tj,h1,h2⟩:=hR.blk j bj hj;exact⟨tj,h1,h2.world (hw _ (Ne.symm (hR.sep id j b bj t tj hb hj (Ne.symm hji) ht h1 ho)))⟩
 ·obtain⟨b1,e1,o1⟩:=back i bi hi;obtain⟨b2,e2,o2⟩:=back j bj hj;exact hR.sep i j b1 b2 ti tj e1 e2 hij h1 h2 (o1.trans ho')
 ·obtain⟨e',fr',h1⟩:=hR.frz k r hk;refine⟨e',fr',?_⟩;rw[hw k (λe=>by have:=hR.dis id b t hb ho ht;rw[<- e,hk]at this;cases this)];omega
 ·obtain⟨b1,e1,o1⟩:=back j bj hj;exact hR.dis j b1 tj e1 (o1.trans ho') hjt
 ·obtain⟨⟨cl,h1,hst⟩,h2⟩:=hR.frm k r hk
  grind
theorem B1e.push{ks vs:List DV}{es:Array MapEntry}(h:B1e ρ kd ks vs es){k v:DV}{k' v':Value}(rk:VRel ρ k k')(rv:VRel ρ v v')(hk:A1j kd k=true)(n:Nat):
  B1e ρ kd (ks++[k]) (vs++[v]) (es.push { key:=k',val:=v',born:=n }):=by
 obtain⟨h1,h2,h3,h4,h5⟩:=h;refine⟨by simp only[List.all_append,h1,A2Q,hk,List.all_nil,Bool.and_self],by simp[h2],by simp[h3],λi x e hx he=>?_,λi x e hx he=>?_⟩
 ·rw[A4A]at he;by_cases hi:i=es.size
  ·subst hi;rw[if_pos rfl]at he;cases he;rw[<- h2,A1W (A0E _)]at hx;simp at hx;subst hx;exact rk
  ·rw[if_neg hi]at he;have:i<ks.length:=by have:=(A0Z.1 he).1;omega
   rw[A2K this]at hx;exact h4 i x e hx he
 grind
theorem B1e.put{ks vs:List DV}{es:Array MapEntry}(h:B1e ρ kd ks vs es){k v:DV}{k' v':Value}(rk:VRel ρ k k')(rv:VRel ρ v v')(hk:A1j kd k=true)(j:Nat):
  B1e ρ kd (ks.set j k) (vs.set j v) (es.modify j λe=>{ e with key:=k',val:=v' }):=by
 obtain⟨h1,h2,h3,h4,h5⟩:=h;refine⟨?_,by simp[h2],by simp[h3],λi x e hx he=>?_,λi x e hx he=>?_⟩
 ·rw[A0R]at h1 ⊢;intro x hx;rcases List.mem_or_eq_of_mem_set hx with h|rfl
  ·exact h1 x h
  ·exact hk
 ·rw[Array.getElem?_modify]at he;rw[A4W]at hx;by_cases hij:j=i
  ·subst hij;rw[if_pos rfl]at he hx;split at hx
   ·cases hx;obtain⟨e0, -,rfl⟩:=A0T.1 he;exact rk
   ·cases hx
  ·rw[if_neg hij]at he hx;exact h4 i x e hx he
 grind
theorem Stp.push{es:Array MapEntry}{cl:Nat}(h:Stp es cl)(e:MapEntry)(he:e.born=cl):Stp (es.push e) (cl+1):=by
 obtain⟨h1,h2⟩:=h;refine⟨?_,λx hx=>?_⟩
 ·rw[Array.toList_push,A0S,A4V];refine⟨h1,by simp,λa ha b hb=>?_⟩;obtain⟨x,hx,rfl⟩:=A0X.1 ha;simp only[A0P,List.map_nil,A1N]at hb;have:=h2 x hx;omega
 grind
theorem Stp.put{es:Array MapEntry}{cl:Nat}(h:Stp es cl)(j:Nat)(k v:Value):Stp (es.modify j λe=>{ e with key:=k,val:=v }) cl:=by
 have e1:((es.modify j λe=>{ e with key:=k,val:=v }).toList.map (·.born))=es.toList.map (·.born):=by
  apply List.ext_getElem?
  grind
 refine⟨by rw[e1];exact h.1,λx hx=>?_⟩;have h3:x.born∈(es.modify j λe=>{ e with key:=k,val:=v }).toList.map (·.born):=A0X.2 ⟨x,hx,rfl⟩;rw[e1]at h3;obtain⟨y,hy,h4⟩:=A0X.1 h3;rw[<- h4];exact h.2 y hy
theorem B6m(hR:Rep ρ H w){c:Nat}(hf:∀id,c<=id -> ρ.nm id=none){t kt et:TypeId}(hm:P.underlying t=some (.map kt et))(hd:P.underlying kt=some d)(hk:B1u d=some kd)
  {m k v:DV} {m' k' v':Value} (rm:VRel ρ m m') (rk:VRel ρ k k') (rv:VRel ρ v v') {r:DV} {H':Hp} {c':Nat} (h:muR H c kd k v m=some (r,H',c')) :
  ∃w',(Instr.mapUpdate t m' k' v').run P w=.ok () w'/\Did ρ H c w undef w' r H' c' ρ := by
 unfold muR at h;split at h
 ·rename_i id;unfold muB at h;split at h
  ·rename_i u own kd' ks vs hb;split at h
   ·rename_i hg;obtain⟨g1,g2,g3⟩:=hg;subst g1 g2;obtain⟨tg,ht,hmp,rfl⟩:=rm.mid_inv;obtain⟨-,hs,es,cl,kd3,ks3,vs3,q1,q2,q3,q5⟩:=hR.lookm hb ht hmp;cases q2;have hI:=A2w hk rk g3;have q4:=q3;obtain⟨a1,a2,a3,a4,a5⟩:=q4;have hlt:=(A0Z.1 q1).1;have F:=B4s (k':=k') hk rk g3 ks es.toList 0 (by simpa using a2) a1 (λj x e h1 h2=>a4 j x e h1 (by simpa using h2));have fin:∀(es':Array MapEntry) (cl':Nat) (ks' vs':List DV),B1e ρ kd ks' vs' es'->Stp es' cl' ->
      Did ρ H c w undef { w with heap:=w.heap.setIfInBounds tg.block (.map es' cl') } (.tup []) (H.upd id ⟨u,true,[.mpc kd ks' vs']⟩) c ρ := by
     intro es' cl' ks' vs' hM hSt;have hwo:∀k,k≠tg.block->({ w with heap:=w.heap.setIfInBounds tg.block (.map es' cl') }:World).heap[k]? = w.heap[k]? := λk hk=>by
      simp only[];rw[A4M,if_neg (Ne.symm hk)]
     refine⟨.tup _ _ rfl (by simp),hR.writem hb rfl ht hmp hs hwo (cl:=cl') (es:=es') ?_ hM hSt,hf,A0E _,λj hj hne=>?_,λ_ _=>rfl,Ext.write hb rfl ht hwo rfl rfl rfl (by simp)⟩
     ·simp only[];rw[A4M,if_pos rfl,if_pos hlt]
     ·by_cases hji:j=id
      ·subst hji;rw[hb];simp
      ·simpa[Hp.upd,hji] using hne
    rcases F with ⟨f1,f2⟩|⟨j,e,f1,f2,f3,f4⟩
    ·rw[f1]at h;simp only[muV,Option.some.injEq,Prod.mk.injEq]at h;obtain⟨rfl,rfl,rfl⟩:=h;refine⟨_,?_,fin (es.push { key:=k',val:=v',born:=cl }) (cl+1) _ _ (q3.push rk rv g3 cl) (q5.push _ rfl)⟩;simp only[Instr.mapUpdate,Sem.run_bind,run_underlying hm,Result.andThen_ok,MapKept.run_getObj_map q1,MapKept.run_checkKey hd hI,MapKept.run_findKey hd f2,MapKept.run_setObj_map _ q1]
    ·rw[f1,A1F]at h;simp only[muV,Option.some.injEq,Prod.mk.injEq]at h;obtain⟨rfl,rfl,rfl⟩:=h;have hej:es[j]? = some e:=by simpa using f2
     refine⟨_,?_,fin (es.modify j λe=>{ e with key:=k',val:=v' }) cl _ _ (q3.put rk rv g3 j) (q5.put j _ _)⟩;rw[A1F]at f3;simp only[Instr.mapUpdate,Sem.run_bind,run_underlying hm,Result.andThen_ok,MapKept.run_getObj_map q1,MapKept.run_checkKey hd hI,MapKept.run_findKey hd f3,hej,A3O,A4I,f4,MapKept.run_keyThatStays hI,MapKept.run_setObj_map _ q1]
   ·cases h
  ·cases h
 grind
theorem Rep.allocm(hR:Rep ρ H w){id:Nat}(hid : ρ.nm id=none)(hw:w'.heap=(w.alloc (.map #[] 0)).heap)(kd:KKey):
  Rep (ρ.upd id ⟨w.heap.size,0,0,0,true⟩) (H.upd id ⟨0,true,[.mpc kd [] []]⟩) w':=by
 have hle : ρ.le (ρ.upd id ⟨w.heap.size,0,0,0,true⟩):=Ren.le_upd hid;have O8:∀j bj tj,H j=some bj->(ρ.upd id ⟨w.heap.size,0,0,0,true⟩).nm j=some tj->j≠id /\ ρ.nm j=some tj/\tj.block<w.heap.size:=by
  intro j bj tj h1 h2;obtain⟨t,g1,g2⟩:=hR.blk j bj h1;have hj:j≠id:=λe=>j8
  simp only[Ren.upd,hj,if_false]at h2;refine⟨hj,h2,?_⟩;rw[g1]at h2;cases h2;exact g2.lt
 refine⟨λj bj hj=>?_,λi j bi bj ti tj hi hj hij h1 h2 ho=>?_,λk r hk=>?_,λj bj tj hj ho hjt=>?_,λk es hk=>?_⟩
 ·by_cases hji:j=id
  ·subst hji;simp only[Hp.upd,if_true,Option.some.injEq]at hj;subst hj;exact⟨_,Ren.upd_same _ _ _,.inr ⟨rfl,rfl,rfl, #[],0,kd,[],[],by rw[hw];exact heap_alloc_new w _,rfl,⟨rfl,rfl,rfl,λi x e hx=>(by simp),λi x e hx=>(by simp)⟩,by trivial⟩⟩
  ·simp only[Hp.upd,hji,if_false]at hj;obtain⟨t,g1,g2⟩:=hR.blk j bj hj;refine⟨t,hle.nm _ _ g1,(g2.mono hle).world ?_⟩;rw[hw];exact heap_alloc_old w _ g2.lt
 ·by_cases hii:i=id
  ·subst hii;have hji:j≠i:=Ne.symm hij;simp only[Hp.upd,hji,if_false]at hj;obtain⟨-, -,h3⟩:=O8 j bj tj hj h2;simp only[Ren.upd,if_true,Option.some.injEq]at h1
   grind
  ·simp only[Hp.upd,hii,if_false]at hi;obtain⟨-,g1,g2⟩:=O8 i bi ti hi h1;by_cases hjj:j=id
   ·subst hjj;simp only[Ren.upd,if_true,Option.some.injEq]at h2
    grind
   ·simp only[Hp.upd,hjj,if_false]at hj;obtain⟨-,g3, -⟩:=O8 j bj tj hj h2;exact hR.sep i j bi bj ti tj hi hj hij g1 g3 ho
 ·obtain⟨e',fr,h1⟩:=hR.frz k r hk;exact⟨e',fr,by rw[hw,heap_alloc_old w _ (A0Z.1 h1).1];omega⟩
 ·by_cases hji:j=id
  ·subst hji;rw[Ren.upd_same]at hjt;cases hjt;simp only[Ren.upd];cases hf : ρ.fz w.heap.size with
   |none=>rfl
   |some r=>exact absurd (hR.flt hf) (Nat.lt_irrefl _)
  ·simp only[Hp.upd,hji,if_false]at hj;obtain⟨-,g1, -⟩:=O8 j bj tj hj hjt;exact hR.dis j bj tj hj ho g1
 ·obtain⟨⟨cl,h1,hst⟩,h2⟩:=hR.frm k es hk;have hlt:=(A0Z.1 h1).1;refine⟨⟨cl,by rw[hw,heap_alloc_old w _ hlt];omega,hst⟩,λj bj tj hj ho hjt=>?_⟩;by_cases hji:j=id
  ·subst hji;rw[Ren.upd_same]at hjt
   grind
  ·simp only[Hp.upd,hji,if_false]at hj
   grind
theorem D1e(hR:Rep ρ H w){c:Nat}(hf:∀id,c<=id -> ρ.nm id=none)(t:TypeId)(kd:KKey){r:Option Value}(hr:r=none\/(∃kt et,P.underlying t=some (.map kt et))/\∃k n,r=some (.int k n)):
  ∃w' ρ',(Instr.makeMap t r).run P w=.ok (.map (some w.heap.size)) w'/\Did ρ H c w (.map (some w.heap.size)) w' (.mid c) (H.upd c ⟨0,true,[.mpc kd [] []]⟩) (c+1) ρ':=by
 have hid:=hf c (A0E _);have run:(Instr.makeMap t r).run P w=.ok (.map (some w.heap.size)) (w.alloc (.map #[] 0)):=by
  rcases hr with rfl|⟨⟨kt,et,hm⟩,k,n,rfl⟩
  ·rfl
  ·simp[Instr.makeMap,run_underlying hm,asInt,asIntOf,Result.andThen]
 refine⟨_,_,run,⟨.mid c _ (Ren.upd_same ρ c ⟨w.heap.size,0,0,0,true⟩) rfl,hR.allocm hid rfl kd,λj hj=>?_,A2M _,λj hj hne=>?_,λj hj=>o9,?_⟩⟩
 ·simp only[Ren.upd,show j≠c by omega,if_false]
  grind
 ·simpa[Hp.upd,show j≠c by omega] using hne
 ·refine⟨Ren.le_upd hid,rfl,rfl,rfl,by simp,λk hk _=>heap_alloc_old w _ hk,λj bj tj h1 h3=>?_,λk r h=>.inl h,λk r h=>.inl h⟩;by_cases hji:j=c
  ·subst hji;simp only[Ren.upd,if_true,Option.some.injEq]at h3
   grind
  ·simp only[Hp.upd,hji,if_false]at h1;simp only[Ren.upd,hji,if_false]at h3
   grind
theorem C5x(hR:Rep ρ H w){c:Nat}(hf:∀id,c<=id -> ρ.nm id=none){src dst e:TypeId}(hs:P.underlying src=some .string)(hd:P.underlying dst=some (.slice e))(he:P.underlying e=some (.int .u8))
  {t:List UInt8} (ht:t.length<=maxLen) :
  ∃v' w' ρ',(convert src dst (.string ⟨t.toArray⟩)).run P w=.ok v' w'/\Did ρ H c w v' w' (.slc c 0 t.length) (H.upd c ⟨1,true,bytesV t⟩) (c+1) ρ':=by
 have hid:=hf c (A0E _);have run:=Lib.run_convert_string_bytes (P:=P) w src dst e ⟨t.toArray⟩ hs hd he;have hsz:(⟨t.toArray⟩:ByteArray).size=t.length:=rfl;have hge:=grownCap_ge w t.length 0 e;have hcm:=grownCap_le_maxLen w t.length 0 e ht;have hcs:(Lib.bytesCells w e ⟨t.toArray⟩).size=grownCap w t.length 0 e:=by
  unfold Lib.bytesCells
  grind
 have hheap:(Lib.bytesWorld w e ⟨t.toArray⟩).heap=(w.alloc (.cells (Lib.bytesCells w e ⟨t.toArray⟩) e ((Lib.bytesCells w e ⟨t.toArray⟩).size,(Lib.bytesCells w e ⟨t.toArray⟩).size+1))).heap:=by
  apply Array.ext_getElem?;intro k;by_cases hk:k<w.heap.size
  ·rw[Lib.bytesWorld_at_old w e _ k hk,heap_alloc_old w _ hk]
  ·by_cases hk2:k=w.heap.size
   ·subst hk2;rw[Lib.bytesWorld_at_new,heap_alloc_new]
   ·rw[Array.getElem?_eq_none (by rw[Lib.bytesWorld_size];omega),Array.getElem?_eq_none (by simp;omega)]
 have hcr:A0k ρ (bytesV t) (Lib.bytesCells w e ⟨t.toArray⟩) 0:=by
  intro j v hv;unfold bytesV at hv;rw[A1Z]at hv;obtain⟨b,hb,rfl⟩:=A0T.1 hv;refine⟨rfl,_,?_,.int _ _⟩;have hj:=(A1G.1 hb).1;rw[A1F];unfold Lib.bytesCells
  grind
 refine⟨_,_, ρ.upd c ⟨w.heap.size,0,(Lib.bytesCells w e ⟨t.toArray⟩).size,1,false⟩,run,?_,?_,?_,A2M _,?_,λj hj=>o9,?_⟩
 ·have:=VRel.slc (ρ := ρ.upd c ⟨w.heap.size,0,(Lib.bytesCells w e ⟨t.toArray⟩).size,1,false⟩) c 0 t.length (grownCap w t.length 0 e) _ (Ren.upd_same _ _ _) hge hcm (.inr (by simp only[hcs];omega)) rfl
  grind
 ·exact hR.allocT (b:=⟨1,true,bytesV t⟩) hid hcr (by rw[hcs];simp only[bytesV,A0N];omega) (.inr ⟨A0E 1,A0E _⟩) hheap
 ·intro j hj;simp only[Ren.upd,show j≠c by omega,if_false]
  grind
 ·intro j hj hne;simpa[Hp.upd,show j≠c by omega] using hne
 ·refine⟨Ren.le_upd hid,by rfl,by rfl,by rfl,zae,λk hk _=>Lib.bytesWorld_at_old w e _ k hk,λj bj tj h1 h3=>?_,λk r h=>.inl h,λk r h=>.inl h⟩;by_cases hji:j=c
  ·subst hji;simp only[Ren.upd,if_true,Option.some.injEq]at h3
   grind
  ·simp only[Hp.upd,hji,if_false]at h1;simp only[Ren.upd,hji,if_false]at h3
   grind
theorem B7h(hR:Rep ρ H w){c:Nat}(hf:∀id,c<=id -> ρ.nm id=none){t u ty e:TypeId}{i:TypeInfo}(ht:P.underlying t=some (.slice e))(hi:P.info? e=some i)
  {d:DV} {d' x':Value} (hd:VRel ρ d d') {m:Nat} {src:List DV} {news:List Value} (hsrc:Src P ρ w i.size m src x' news) {v:DV} {H':Hp} {c':Nat} (h:cpR H c i.size d (some (m,src))=some (v,H',c')) :
  ∃v' w',(Builtin.copy_ #[t,u] ty #[d',x']).run P w=.ok v' w'/\Did ρ H c w v' w' v H' c' ρ := by
 simp only[cpR]at h;split at h
 ·rename_i id off n;cases hb:H id with
  |none=>rw[hb]at h;cases h
  |some b =>
   rw[hb]at h;simp only[cpB]at h;split at h
   ·rename_i hg;obtain⟨ho,hun,hmn,hmx,hfit⟩:=hg;simp only[Option.some.injEq,Prod.mk.injEq]at h;obtain⟨rfl,rfl,rfl⟩:=h;cases hd with
    |slc _ _ _ cap tg htg hc hm hr hmp =>
     obtain⟨cc,ee,fr,g1,g2,g3,g4,g5,g6⟩:=hR.look hb htg hmp;obtain⟨g8,g7⟩:=g6 ho;simp only[g7,A1F]at *;have hst:=R7 P tg.block off ee fr news 0 cc w g1 g8 (by rw[hsrc.size];omega) hsrc.one;rw[A3C,hsrc.size]at hst;have hrun:=hsrc.run w rfl;refine⟨.int .i64 (m:Int),w.setRow tg.block (cc.toList.take off++news++cc.toList.drop (off+m*i.size)).toArray,?_,?_⟩
     ·simp[Builtin.copy_,run_underlying ht,hsrc.len w,Eng.run_sizeOf hi,Nat.min_eq_left hmn,hrun,hst,Result.andThen,goInt]
     ·have hsz2:(cc.toList.take off++news++cc.toList.drop (off+m*i.size)).toArray.size=cc.size:=by
       simp only[A4F,A0A,A1C,A2J,A3B,hsrc.size]at *;omega
      have hwo:∀k,k≠tg.block->(w.setRow tg.block (cc.toList.take off++news++cc.toList.drop (off+m*i.size)).toArray).heap[k]? = w.heap[k]? := λk hk=>setRow_other w _ k _ hk;refine⟨.int _ _,?_,hf,A0E _,?_,λ_ _=>rfl,Ext.write hb ho htg hwo rfl rfl rfl (by simp)⟩
      ·refine hR.write hb ho htg hmp g1 hsz2 ?_ ?_ hwo (setRow_heap w _ cc _ ee _ g1)
       ·simp only[A0A,A1C,A2J,hsrc.size'];omega
       ·intro j v hv;rw[A0K,A2A]at hv;simp only[A1C]at hv;have hmin:min off b.cells.length=off:=by omega
        have hmin':min off cc.size=off:=a8
        rw[hmin]at hv;simp only[A1F,A1X];rw[A0K,A2A];simp only[A1C,A3B,hmin'];split at hv
        ·rename_i hj;rw[if_pos hj];rw[A1V,if_pos hj]at hv;obtain⟨q1,v',q2,q3⟩:=g5 j v hv;refine⟨q1,v',?_,q3⟩;rw[A1V,if_pos hj];simpa using q2
        ·rename_i hj;rw[if_neg hj];rw[A2A]at hv ⊢;simp only[hsrc.size']at hv;simp only[hsrc.size];split at hv
         ·rename_i hj2;rw[if_pos hj2];exact hsrc.rel _ v hv
         ·rename_i hj2;rw[if_neg hj2];rw[A2F]at hv ⊢;obtain⟨q1,v',q2,q3⟩:=g5 _ v hv;exact⟨q1,v',by simpa using q2,q3⟩
      ·intro j hj hne;by_cases hji:j=id
       ·subst hji;rw[hb];simp
       ·simpa[Hp.upd,hji] using hne
   ·cases h
 grind
theorem C6k(hR:Rep ρ H w){c:Nat}(hf:∀id,c<=id -> ρ.nm id=none){t tn ty e:TypeId}{i:TypeInfo}{z:Value}{kn:IntKind}(ht:P.underlying t=some (.slice e))(htn:P.underlying tn=some (.int kn))(hi:P.info? e=some i)(hz:i.zero=some z)
  (hzs:z.cells.size=i.size) (hsz:0<i.size) {kq:IntKind} {k:Int} {v:DV} {H':Hp} {c':Nat} (h:azR H c i.size i.bytes (z.cells.toList.map injS) .snil (.int kq k)=some (v,H',c')) :
  ∃v' w' ρ',(Builtin.append_ #[t,tn] ty #[.slice none 0 0,.int kq k]).run P w=.ok v' w'/\Did ρ H c w v' w' v H' c' ρ':=by
 simp only[azR]at h;split at h
 ·rename_i hb;obtain⟨b1,b2,b3,b5,b6⟩:=hb;simp only[Option.some.injEq,Prod.mk.injEq]at h;obtain⟨rfl,rfl,rfl⟩:=h;obtain⟨n,rfl⟩:∃n:Nat,k=(n:Int):=⟨k.toNat,by omega⟩;simp only[A1U]at b2 ⊢;have hid:=hf c (A0E _);have run:=Lib.run_append_nil_zeros (P:=P) w t tn ty e i z kq kn ht htn hi hz n (by omega) hsz b3 b2;have hge:=grownCap_ge w n 0 e;have hcm:=grownCap_le_maxLen w n 0 e (by simp only[maxLen];omega);have hmr:=B4h (ρ := ρ) z.cells n;rw[hzs]at hmr;have e1:Builtin.zeroCells z.cells n=madeCells z.cells (n*i.size):=by rw[<- hzs];rfl
  have hcr0:A0k ρ (Y5 (z.cells.toList.map injS) n) (madeCells z.cells (n*i.size)) 0:=by
   refine A0k.of_arel hmr ?_;rw[A0R];intro x hx;simp only[Y5,A4J,List.mem_replicate]at hx;obtain⟨l0,⟨-,rfl⟩,hx⟩:=hx;rw[A0R]at b5;exact b5 x hx
  rw[e1]at run;obtain⟨row,hrow⟩:∃row,row=madeCells z.cells (n*i.size)++Builtin.zeroCells z.cells (grownCap w n 0 e-n):=⟨_,rfl⟩;rw[<- hrow]at run;have hrs:row.size=grownCap w n 0 e*i.size:=by
   rw[hrow,Array.size_append,size_madeCells,size_zeroCells,hzs, <- A3M]
   congr 1;omega
  have hcr:A0k ρ (Y5 (z.cells.toList.map injS) n) row 0:=by
   intro j v hv;obtain⟨q1,v',q2,q3⟩:=hcr0 j v hv;refine⟨q1,v',?_,q3⟩;rw[hrow,Array.getElem?_append_left (A0Z.1 q2).1];exact q2
  refine⟨_,_, ρ.upd c ⟨w.heap.size,0,row.size,i.size,false⟩,run,?_,?_,?_,A2M _,?_,λj hj=>o9,?_⟩
  ·have:=VRel.slc (ρ := ρ.upd c ⟨w.heap.size,0,row.size,i.size,false⟩) c 0 n (grownCap w n 0 e) _ (Ren.upd_same _ _ _) hge hcm (.inr (by simp only[hrs];omega)) rfl;simpa using this
  ·exact hR.alloc (b:=⟨i.size,true,Y5 (z.cells.toList.map injS) n⟩) hid hcr (by
    have hlen:=hmr.1;rw[size_madeCells]at hlen;simp only[hlen,hrs];exact A2X _ hge) rfl
  ·intro j hj;simp only[Ren.upd,show j≠c by omega,if_false];exact hf j (by omega)
  ·intro j hj hne;simpa[Hp.upd,show j≠c by omega] using hne
  ·refine⟨Ren.le_upd hid,rfl,rfl,rfl,by simp,λk hk _=>heap_alloc_old w _ hk,λj bj tj h1 h3=>?_,λk r h=>.inl h,λk r h=>.inl h⟩;by_cases hji:j=c
   ·subst hji;simp only[Ren.upd,if_true,Option.some.injEq]at h3;subst h3;exact .inl (A0E _)
   ·simp only[Hp.upd,hji,if_false]at h1;simp only[Ren.upd,hji,if_false]at h3;exact .inr ⟨j,bj,tj,h1,λh=>h,h3,rfl⟩
 grind
end
open Go.Eng (KKey B1u E6t B9v D3q E6u E6v E6w Opd FOp AOp EOp IOp IOper opd A8o B5r trF trA trE B7v trI trG trO trL B1l K4 A4k A1v W4)
structure St where
 T:Tm
 H:Hp
 c:Nat
structure Sim (N:Nat) (ρ:Ren) (s:St) (a:Act) (w:World):Prop where
 tm:A3k ρ s.T a
 rep:Rep ρ s.H w
 fresh:∀id,s.c<=id -> ρ.nm id=none
 size:a.tmps.size=N
 dfr:a.defers=[]
structure Step (ρ:Ren) (s:St) (w:World) (ρ':Ren) (s':St) (w':World):Prop where
 up:s.c<=s'.c
 dom:∀id,id<s.c->s'.H id≠none->s.H id≠none
 same:∀id,id<s.c -> ρ'.nm id = ρ.nm id
 ext:Ext ρ s.H w ρ' s'.H w'
theorem Step.refl(ρ:Ren)(s:St)(w:World):Step ρ s w ρ s w:=⟨A0E _,λ_ _ h=>h,λ_ _=>rfl,Ext.refl _ _ _⟩
theorem Step.trans{ρ ρ' ρ'':Ren}{s s' s'':St}{w w' w'':World}(h:Step ρ s w ρ' s' w')(k:Step ρ' s' w' ρ'' s'' w''):Step ρ s w ρ'' s'' w'' :=
 ⟨A1B h.up k.up,λid hid hne=>h.dom id hid (k.dom id (A4R hid h.up) hne),λid hid=>(k.same id (A4R hid h.up)).trans (h.same id hid),h.ext.trans k.ext⟩
def AC(P:Program)(f:Nat)(args:List DV)(H:Hp)(c:Nat)(Q:DV->Hp->Nat->Prop):Prop :=
 K4 P f=true/\∀(ρ:Ren) (w:World) (args':Array Value),Rep ρ H w->(∀id,c<=id -> ρ.nm id=none)->I3 ρ args args' ->
  Calls P f args' w λe w' => ∃v v' H' c' ρ',e=.returned v'/\Q v H' c'/\Did ρ H c w v' w' v H' c' ρ'
theorem AC.mono{P:Program}{f:Nat}{args:List DV}{H:Hp}{c:Nat}{Q Q':DV->Hp->Nat->Prop}(h:AC P f args H c Q)(hq:∀v H' c',Q v H' c'->Q' v H' c'):AC P f args H c Q' :=
 ⟨h.1,fun ρ w args' h1 h2 h3=>(h.2 ρ w args' h1 h2 h3).mono λe w' ⟨v,v',H',c', ρ',e1,q,d⟩=>⟨v,v',H',c', ρ',e1,hq _ _ _ q,d⟩⟩
def V0(P:Program)(s:St)(K:DV->Hp->Nat->Prop):IOp->Prop
 |.pur f=>match fev s.H (ev s.T) f with
  |some v=>K v s.H s.c
  |none=>False
 |.new f=>match aev (ev s.T) f with
  |some (k,b)=>K (mkv s.c k) (s.H.upd s.c b) (s.c+1)
  |none=>False
 |.eff f=>match eev s.H s.c (ev s.T) f with
  |some (v,H',c')=>K v H' c'
  |none=>False
 |.call f args=>AC P f (args.map (ev s.T)) s.H s.c K
 |.callv x args=>match ev s.T x with
  |.func f a c=>AC P f (a++args.map (ev s.T)++c) s.H s.c K
  |_=>False
section
variable {P:Program} {ρ:Ren} {w:World} {a:Act} {N:Nat}
theorem B0h{s:St}(hS:Sim N ρ s a w){o:Oper}{i:IOp}(htr:trI P o.op=some i){K:DV->Hp->Nat->Prop}(h:V0 P s K i){next:Act->World->Prop}{Q:Exit->Act->World->Prop}
  (hn:∀v v' H' c' ρ' w',K v H' c'->Did ρ s.H s.c w v' w' v H' c' ρ'->next (a.put o.dst v') w'):o.wp P a w next Q:=by
 unfold trI at htr;split at htr
 ·rename_i f hf;cases htr;simp only[V0]at h;split at h
  ·rename_i v hv;obtain⟨v',h1,h2⟩:=B6z hS.rep hS.tm hf hv;unfold Oper.wp;rw[h1];exact hn v v' _ _ ρ w h ⟨h2,hS.rep,hS.fresh,A0E _,λ_ _ h=>h,λ_ _=>rfl,Ext.refl _ _ _⟩
  grind
 ·rename_i hn1;clear hn1;split at htr
  ·rename_i f hf;cases htr;simp only[V0]at h;split at h
   ·rename_i k b hk;have hid:=hS.fresh s.c (A0E _);obtain⟨v',c,e,h1,h2,h3,h4⟩:=B7p (w:=w) hS.tm hid hf hk;unfold Oper.wp;rw[h1];refine hn _ v' _ _ _ _ h ⟨h2,hS.rep.alloc hid h4 h3 rfl,λj hj=>?_,A2M _,λj hj hne=>?_,λj hj=>by simp only[Ren.upd,show j≠s.c by omega,if_false],Ext.alloc hS.rep hid rfl rfl rfl rfl⟩
    ·simp only[Ren.upd,show j≠s.c by omega,if_false];exact hS.fresh j (by omega)
    ·simpa[Hp.upd,show j≠s.c by omega] using hne
   grind
  ·rename_i hn1;clear hn1;split at htr
   ·rename_i f hf;cases htr;obtain⟨dst,op,ty,pos,aft,guard⟩:=o;simp only[V0]at h;split at h
    ·rename_i v H' c' hv;cases op<;>simp only[trE]at hf<;>(try(cases hf;done))
     case store t x y =>
      split at hf
      ·rename_i inf x' y' hi hx hy;cases hf;have rx:=B4 hS.tm hx;have ry:=B4 hS.tm hy;simp only[eev]at hv;unfold stR at hv;split at hv
       ·rename_i id off he;split at hv
        ·rename_i b hb;split at hv
         ·rename_i hg;obtain⟨g1,g2,g3,g4⟩:=hg;cases hv;obtain⟨w',q1,q2⟩:=D4b hS.rep hS.fresh hi rx ry he hb g1 g2 g3 g4;unfold Oper.wp;have hrun:(execOp a.eval ⟨dst,.store t x y,ty,pos,aft,guard⟩).run P w=.ok .skip w':=by
           simp only[execOp,Sem.run_bind,q1,Result.andThen_ok,Sem.run_pure]
          rw[hrun];exact hn _ _ _ _ _ _ h q2
         ·cases hv
        ·cases hv
       ·cases hv
      ·cases hf
     case call cl =>
      obtain⟨callee,args,ats⟩:=cl;cases callee with
      |value f=>simp only[]at hf;cases hf
      |invoke r m=>simp only[]at hf;cases hf
      |builtin b =>
       cases b<;>simp only[]at hf<;>(try(cases hf;done))
       case cap =>
        unfold E6w at hf;split at hf
        ·rename_i x t hargs hats;obtain rfl:args = #[x]:=by apply Array.ext';simpa using hargs
         obtain rfl:ats = #[t]:=w6
         split at hf
         ·rename_i x' e hx ht;cases hf;have rx:=B4 hS.tm hx;simp only[eev]at hv;unfold caR at hv;split at hv
          ·rename_i he;rw[he]at rx;simp only[Option.some.injEq,Prod.mk.injEq]at hv;obtain⟨rfl,rfl,rfl⟩:=hv;have hav:a.eval x=.slice none 0 0:=by generalize a.eval x=z at rx;cases rx;rfl
           have hrun:(execOp a.eval ⟨dst,.call ⟨.builtin .cap, #[x], #[t]⟩,ty,pos,aft,guard⟩).run P w=.ok (.value (.int .i64 0)) w:=by
            simp[execOp,resolve,invoke,builtin,Builtin.cap_,hav,run_underlying ht,Result.andThen,goInt]
           unfold Oper.wp;rw[hrun];exact hn _ _ _ _ _ _ h ⟨.int _ _,hS.rep,hS.fresh,A0E _,λ_ _ h=>h,λ_ _=>rfl,Ext.refl _ _ _⟩
          ·cases hv
         ·cases hf
        ·cases hf
       case copy =>
        unfold E6v at hf;split at hf
        ·rename_i x y t u hargs hats;obtain rfl:args = #[x,y]:=by apply Array.ext';simpa using hargs
         obtain rfl:ats = #[t,u]:=w6
         have hex:∀v' w',(Builtin.copy_ #[t,u] ty #[a.eval x,a.eval y]).run P w=.ok v' w' ->
           (execOp a.eval ⟨dst,.call ⟨.builtin .copy, #[x,y], #[t,u]⟩,ty,pos,aft,guard⟩).run P w=.ok (.value v') w':=by
          intro v' w' hr;simp only[execOp,resolve,invoke,builtin,Sem.run_bind,Sem.run_pure,Result.andThen_ok,A4K,A0P,List.map_nil,hr]
         split at hf
         ·rename_i x' y' e hx hy ht;split at hf
          ·rename_i inf hi;split at hf
           ·rename_i g2;have rx:=B4 hS.tm hx;have ry:=B4 hS.tm hy;split at hf
            ·rename_i htu;subst htu;cases hf;simp only[eev]at hv;cases hsrc:A7b s.H inf.size (ev s.T y') with
             |none=>rw[hsrc]at hv;simp[cpR]at hv
             |some q =>
              obtain⟨m,src⟩:=q;rw[hsrc]at hv;obtain⟨news,hs⟩:=B6d (P:=P) hS.rep ry hsrc;obtain⟨v',w',q1,q2⟩:=B7h (u:=t) (ty:=ty) hS.rep hS.fresh ht hi rx hs hv;unfold Oper.wp;rw[hex _ _ q1];exact hn _ _ _ _ _ _ h q2
            ·split at hf
             ·rename_i hu;split at hf
              ·rename_i h1;cases hf;simp only[eev]at hv;unfold F6n at hv;split at hv
               ·rename_i str he;rw[he]at ry;have hs:=str_src (P:=P) (ρ := ρ) (w:=w) str;rw[<- h1]at hs hv;obtain⟨v',w',q1,q2⟩:=B7h (u:=u) (ty:=ty) hS.rep hS.fresh ht hi rx hs hv;unfold Oper.wp;rw[hex _ _ (by rw[ry.str_inv];exact q1)];exact hn _ _ _ _ _ _ h q2
               ·cases hv
              ·cases hf
             ·cases hf
           ·cases hf
          ·cases hf
         ·cases hf
        ·cases hf
       split at hf
       ·rename_i x y t u hargs hats;obtain rfl:args = #[x,y]:=by apply Array.ext';simpa using hargs
        obtain rfl:ats = #[t,u]:=w6
        split at hf
        ·rename_i x' y' e hx hy ht;split at hf
         ·rename_i inf hi;split at hf
          ·rename_i z hz;split at hf
           ·rename_i hg;obtain⟨g1,g2⟩:=hg;have rx:=B4 hS.tm hx;have ry:=B4 hS.tm hy;have hex:∀v' w',(Builtin.append_ #[t,u] ty #[a.eval x,a.eval y]).run P w=.ok v' w' ->
              (execOp a.eval ⟨dst,.call ⟨.builtin .append, #[x,y], #[t,u]⟩,ty,pos,aft,guard⟩).run P w=.ok (.value v') w':=by
             intro v' w' hr;simp only[execOp,resolve,invoke,builtin,Sem.run_bind,Sem.run_pure,Result.andThen_ok,A4K,A0P,List.map_nil,hr]
            split at hf
            ·rename_i htu;subst htu;cases hf;simp only[eev]at hv;unfold apX at hv;split at hv
             ·rename_i m src hsrc;obtain⟨news,hs⟩:=B6d (P:=P) hS.rep ry hsrc;obtain⟨v',w', ρ',q1,q2⟩:=B7l (ty:=ty) hS.rep hS.fresh ht ht (.inl ⟨_,rfl⟩) hi hz g1 g2 rx hs hv;unfold Oper.wp;rw[hex _ _ q1];exact hn _ _ _ _ _ _ h q2
             ·cases hv
            ·split at hf
             ·rename_i hu;split at hf
              ·rename_i h11;obtain⟨h1,h2⟩:=h11;cases hf;simp only[eev]at hv;unfold E3x at hv;split at hv
               ·rename_i str he;rw[he]at ry;have hs:=str_src (P:=P) (ρ := ρ) (w:=w) str;rw[<- h1]at hs;have hv':A9p s.H s.c inf.size inf.bytes (ev s.T x') str.length (bytesV str)=some (v,H',c'):=by rw[h1,h2];exact hv
                obtain⟨v',w', ρ',q1,q2⟩:=B7l (ty:=ty) hS.rep hS.fresh ht hu (.inr rfl) hi hz g1 g2 rx hs hv';unfold Oper.wp;rw[hex _ _ (by rw[ry.str_inv];exact q1)];exact hn _ _ _ _ _ _ h q2
               ·cases hv
              ·cases hf
             ·rename_i kn hu;cases hf;simp only[eev]at hv;cases hs1:ev s.T x' with
              |snil =>
               cases hx1:ev s.T y' with
               |int kq k =>
                rw[hs1,hx1]at hv;rw[hs1]at rx;rw[hx1]at ry;have e1:a.eval x=.slice none 0 0:=by generalize a.eval x=q at rx;cases rx;rfl
                obtain⟨v',w', ρ',q1,q2⟩:=C6k (ty:=ty) hS.rep hS.fresh ht hu hi hz g1 g2 hv;unfold Oper.wp;rw[hex _ _ (by rw[e1,ry.int_inv];exact q1)];exact hn _ _ _ _ _ _ h q2
               |_=>rw[hs1,hx1]at hv;simp[azR]at hv
              |_=>rw[hs1]at hv;simp[azR]at hv
             ·cases hf
           ·cases hf
          ·cases hf
         ·cases hf
        ·cases hf
       ·cases hf
     case makeMap t r =>
      unfold E6t at hf;split at hf
      ·rename_i kt et hm;split at hf
       ·rename_i kd hk;have go:∀r',(r.map a.eval=r')->(r'=none\/(∃kt et,P.underlying t=some (.map kt et))/\∃k n,r'=some (.int k n))->eev s.H s.c (ev s.T) (.mkm kd)=some (v,H',c') ->
          Oper.wp P ⟨dst,.makeMap t r,ty,pos,aft,guard⟩ a w next Q:=by
         intro r' hr' hr hv;simp only[eev,Option.some.injEq,Prod.mk.injEq]at hv;obtain⟨rfl,rfl,rfl⟩:=hv;obtain⟨w', ρ',q1,q2⟩:=D1e hS.rep hS.fresh t kd hr;unfold Oper.wp;have hrun:(execOp a.eval ⟨dst,.makeMap t r,ty,pos,aft,guard⟩).run P w=.ok (.value (.map (some w.heap.size))) w':=by
          simp only[execOp,hr',Sem.run_bind,q1,Result.andThen_ok,Sem.run_pure]
         rw[hrun];exact hn _ _ _ _ _ _ h q2
        split at hf
        ·cases hf;exact go none rfl (.inl rfl) hv
        ·rename_i r0;split at hf
         ·rename_i k n ho;cases hf;have ro:=B4 hS.tm ho;have e1:inj (Value.int k n)=.int k n:=rfl;exact go (some (.int k n)) (by simp only[A3O,(show VRel ρ (.int k n) (a.eval r0) from ro).int_inv]) (.inr ⟨⟨_,_,hm⟩,_,_,rfl⟩) hv
         ·cases hf
       ·cases hf
      ·cases hf
     case mapUpdate t m k x =>
      unfold B9v at hf;split at hf
      ·rename_i kt et hm;split at hf
       ·rename_i kd m' k' x' hk ho1 ho2 ho3;cases hf;obtain⟨d,hd,hkd⟩:=Option.bind_eq_some_iff.1 hk;simp only[eev]at hv;obtain⟨w',q1,q2⟩:=B6m hS.rep hS.fresh hm hd hkd (B4 hS.tm ho1) (B4 hS.tm ho2) (B4 hS.tm ho3) hv;unfold Oper.wp;have hrun:(execOp a.eval ⟨dst,.mapUpdate t m k x,ty,pos,aft,guard⟩).run P w=.ok .skip w':=by
         simp only[execOp,Sem.run_bind,q1,Result.andThen_ok,Sem.run_pure]
        rw[hrun];exact hn _ _ _ _ _ _ h q2
       ·cases hf
      ·cases hf
     case insert t m k x =>
      unfold B9v at hf;split at hf
      ·rename_i kt et hm;split at hf
       ·rename_i kd m' k' x' hk ho1 ho2 ho3;cases hf;obtain⟨d,hd,hkd⟩:=Option.bind_eq_some_iff.1 hk;simp only[eev]at hv;obtain⟨w',q1,q2⟩:=B6m hS.rep hS.fresh hm hd hkd (B4 hS.tm ho1) (B4 hS.tm ho2) (B4 hS.tm ho3) hv;unfold Oper.wp;have hrun:(execOp a.eval ⟨dst,.insert t m k x,ty,pos,aft,guard⟩).run P w=.ok .skip w':=by
         simp only[execOp,Sem.run_bind,q1,Result.andThen_ok,Sem.run_pure]
        rw[hrun];exact hn _ _ _ _ _ _ h q2
       ·cases hf
      ·cases hf
     case convert sT dT x =>
      unfold E6u at hf;split at hf
      ·rename_i e hs hd;split at hf
       ·rename_i x' he hx;split at hf
        ·cases hf;have rx:=B4 hS.tm hx;simp only[eev]at hv;unfold cvR at hv;split at hv
         ·rename_i str hstr;rw[hstr]at rx;split at hv
          ·rename_i hlen;simp only[Option.some.injEq,Prod.mk.injEq]at hv;obtain⟨rfl,rfl,rfl⟩:=hv;obtain⟨v',w', ρ',q1,q2⟩:=C5x (P:=P) hS.rep hS.fresh hs hd he hlen;unfold Oper.wp;have hrun:(execOp a.eval ⟨dst,.convert sT dT x,ty,pos,aft,guard⟩).run P w=.ok (.value v') w':=by
            simp only[execOp,rx.str_inv,Sem.run_bind,q1,Result.andThen_ok,Sem.run_pure]
           rw[hrun];exact hn _ _ _ _ _ _ h q2
          ·cases hv
         ·cases hv
        ·cases hf
       ·cases hf
      ·cases hf
     case lookup t m k ok =>
      unfold D3q at hf;split at hf
      ·rename_i kt et hm;split at hf
       ·rename_i kd i m' k' hk hi ho1 ho2;split at hf
        ·rename_i z hz;cases hf;obtain⟨d,hd,hkd⟩:=Option.bind_eq_some_iff.1 hk;simp only[eev,lkE]at hv;split at hv
         ·rename_i v0 hv0;cases hv;obtain⟨v',q1,q2⟩:=D1h (P:=P) hS.rep hm hd hkd hi hz (B4 hS.tm ho1) (B4 hS.tm ho2) hv0;unfold Oper.wp;have hrun:(execOp a.eval ⟨dst,.lookup t m k ok,ty,pos,aft,guard⟩).run P w=.ok (.value v') w:=by
           simp only[execOp,Sem.run_bind,q1,Result.andThen_ok,Sem.run_pure]
          rw[hrun];exact hn _ _ _ _ _ _ h ⟨q2,hS.rep,hS.fresh,A0E _,λ_ _ h=>h,λ_ _=>rfl,Ext.refl _ _ _⟩
         ·cases hv
        ·cases hf
       ·cases hf
      ·cases hf
    grind
   ·rename_i hn1;clear hn1;obtain⟨dst,op,ty,pos,aft,guard⟩:=o;unfold B7v at htr;split at htr
    ·rename_i f args ats heq;simp only[]at heq;subst heq;simp only[A0T]at htr;obtain⟨xs,hxs,rfl⟩:=htr;simp only[V0]at h;have hr:=A1w hS.tm hxs;have hargs:(args.map a.eval)=(args.toList.map a.eval).toArray:=by apply Array.ext';simp
     unfold Oper.wp;have hrun:(execOp a.eval ⟨dst,.call ⟨.value (.func f),args,ats⟩,ty,pos,aft,guard⟩).run P w=.ok (.enter f (args.map a.eval)) w:=by
      simp only[execOp,resolve,Act.eval,Deferred.ofValue,Sem.run_bind,Sem.run_pure,Result.andThen_ok,invoke,Array.empty_append,Array.append_empty,A4k h.1]
     rw[hrun,Oper.upon_enter,hargs];refine(h.2 ρ w _ hS.rep hS.fresh hr).mono λe w' hq=>?_;obtain⟨v,v',H',c', ρ',rfl,q,d⟩:=hq;exact hn _ _ _ _ _ _ q d
    ·rename_i t args ats heq;simp only[]at heq;subst heq;simp only[A0T]at htr;obtain⟨xs,hxs,rfl⟩:=htr;simp only[V0]at h;have rt:=hS.tm t;simp only[ev]at h;split at h
     ·rename_i f fa fc hT;rw[hT]at rt;obtain⟨fa',fc',hv,ra,rc⟩:=rt.func_inv;have hr:=A1w hS.tm hxs;have hargs:(args.map a.eval)=(args.toList.map a.eval).toArray:=by apply Array.ext';simp
      unfold Oper.wp;have hev:a.eval (.tmp t)=.func (.func f) fa' fc':=hv;have hrun:(execOp a.eval ⟨dst,.call ⟨.value (.tmp t),args,ats⟩,ty,pos,aft,guard⟩).run P w=.ok (.enter f (fa'++args.map a.eval++fc')) w:=by
       simp only[execOp,resolve,hev,Deferred.ofValue,Sem.run_bind,Sem.run_pure,Result.andThen_ok,invoke,A4k h.1]
      rw[hrun,Oper.upon_enter,hargs];have h2:∀ {p q:List DV} {p' q':Array Value},I3 ρ p p'->I3 ρ q q'->I3 ρ (p++q) (p'++q'):=by
       intro p q p' q' hp hq;refine⟨by simp[hp.1,hq.1],λi x y hx hy=>?_⟩;rw[A2A]at hx;rw[Array.getElem?_append]at hy;rw[<- hp.1]at hy;split at hx
       ·rename_i hi;rw[if_pos hi]at hy;exact hp.2 i x y hx hy
       ·rename_i hi;rw[if_neg hi]at hy;exact hq.2 _ x y hx hy
      have hall:I3 ρ (fa++xs.map (ev s.T)++fc) (fa'++(args.toList.map a.eval).toArray++fc'):=h2 (h2 ra hr) rc;refine(h.2 ρ w _ hS.rep hS.fresh hall).mono λe w' hq=>?_;obtain⟨v,v',H',c', ρ',rfl,q,d⟩:=hq;exact hn _ _ _ _ _ _ q d
     ·exact h.elim
    grind
end
def B5y(v:DV)(b:Bool):Option Bool :=
 match v with
 |.bool c=>some (c==b)
 |.tup []=>some false
 |_=>none
def X2(T:Tm):Option (Nat × Bool)->Option Bool
 |none=>some true
 |some (t,b)=>B5y (T t) b
def J3(T:Tm)(d:Option Nat)(v:DV):Tm :=
 match d with
 |some d=>T.upd d v
 |none=>T
def rwp(P:Program)(Q:St->Prop):List IOper->St->Prop
 |[],s=>Q s
 |o::os,s =>
  match X2 s.T o.guard with
  |some true=>V0 P s (λv H' c'=>rwp P Q os ⟨J3 s.T o.dst v,H',c'⟩) o.op
  |some false=>rwp P Q os ⟨J3 s.T o.dst (.tup []),s.H,s.c⟩
  |none=>False
section
variable {P:Program} {ρ:Ren} {w:World} {a:Act} {N:Nat}
theorem A3k.put{T:Tm}(hT:A3k ρ T a){d:Nat}(hd:d<a.tmps.size){v:DV}{v':Value}(hv:VRel ρ v v'):A3k ρ (T.upd d v) (a.put (some d) v'):=by
 intro t;simp only[Tm.upd,Act.put];by_cases h:t=d
 ·simp_all
 ·simp only[h,if_false,A2O,Array.getElem?_setIfInBounds_ne (Ne.symm h)];have:=hT t
  simp_all
theorem A3k.putO{T:Tm}(hT:A3k ρ T a){d:Option Nat}(hd:B1l a.tmps.size d=true){v:DV}{v':Value}(hv:VRel ρ v v'):A3k ρ (J3 T d v) (a.put d v'):=by
 cases d with
 |none=>exact hT
 |some d=>exact hT.put (by simp only[B1l,A2L]at hd;omega) hv
theorem A5z(ρ:Ren):VRel ρ (.tup []) undef:=.tup _ _ rfl (by simp)
theorem Sim.did{s:St}(hS:Sim N ρ s a w){d:Option Nat}(hd:B1l N d=true){v:DV}{v':Value}{w':World}{H':Hp}{c':Nat}{ρ':Ren}(h:Did ρ s.H s.c w v' w' v H' c' ρ'):
  Sim N ρ' ⟨J3 s.T d v,H',c'⟩ (a.put d v') w'/\Step ρ s w ρ' ⟨J3 s.T d v,H',c'⟩ w' :=
 ⟨⟨(hS.tm.mono h.ext.le).putO (by rw[hS.size];omega) h.val,h.rep,h.fresh,(A1v _ _ _).trans hS.size,(W4 _ _ _).trans hS.dfr⟩,⟨h.up,h.dom,h.same,h.ext⟩⟩
theorem A3m{s:St}(hS:Sim N ρ s a w){ops:Array Oper}{g:Option (Nat × Bool)}{g':Option (Nat × Bool)}(h:trG ops g=some g'){o:Oper}(ho:o.guard=g){r:Bool}(hr:X2 s.T g'=some r):
  Region.wanted o (yielded ops a.tmps)=r:=by
 unfold Region.wanted;rw[ho];cases g with
 |none=>simp only[trG,Option.some.injEq]at h;subst h;simp only[X2,Option.some.injEq]at hr;omega
 |some jb =>
  obtain⟨j,b⟩:=jb;simp only[trG]at h;split at h
  ·rename_i oj hj;split at h
   ·rename_i t ht;cases h;simp only[X2]at hr;simp only[yielded,hj,Option.bind_some,ht];have hv:=hS.tm t;rw[A2O]at hv;unfold B5y at hr;split at hr
    ·rename_i c hc;rw[hc]at hv;have:=hv.bool_inv;cases hr;cases hx:a.tmps[t]? with
     |none=>rw[hx]at this;cases this
     |some y =>
      rw[hx]at this;simp only[A4I]at this;subst this;cases b<;>cases c<;>rfl
    ·rename_i hc;rw[hc]at hv;obtain⟨b',hb', -⟩:=hv.tup_inv;cases hr;cases hx:a.tmps[t]? with
     |none=>rfl
     |some y =>
      rw[hx]at hb';simp only[A4I]at hb';subst hb';rfl
    ·cases hr
   ·cases h
  grind
def D9t(N:Nat)(ρ:Ren)(s:St)(w:World)(Q:Exit->St->Prop):Exit->Act->World->Prop :=
 λe a' w' => ∃ ρ' s',Q e s'/\Sim N ρ' s' a' w'/\Step ρ s w ρ' s' w'
theorem B0b{ops:Array Oper}{Q:Exit->Act->World->Prop}{Q':St->Prop}:∀(os:List Oper) (is:List IOper) {ρ:Ren} {s:St} {a:Act} {w:World},trL P N ops os=some is->Sim N ρ s a w ->
  rwp P Q' is s->(∀ ρ' s' a' w',Q' s'->Sim N ρ' s' a' w'->Step ρ s w ρ' s' w'->Q .normal a' w')->wpList P ops Q os a w
 |[],is, ρ,s,a,w,htr,hS,h,hq=>by
  simp only[trL,Option.some.injEq]at htr;subst htr;exact hq ρ s a w h hS (Step.refl _ _ _)
 |o::os,is, ρ,s,a,w,htr,hS,h,hq=>by
  simp only[trL]at htr;split at htr
  ·rename_i i is' ho his;cases htr;unfold trO at ho;split at ho
   ·rename_i op g hop hg hd;cases ho;unfold wpList;simp only[rwp]at h;split at h
    ·rename_i hw;rw[A3m hS hg rfl hw];rw[if_pos rfl];left;refine B0h hS hop h λv v' H' c' ρ' w' hk d=>?_;obtain⟨hS',hst⟩:=hS.did hd d;exact B0b os is' his hS' hk fun ρ2 s2 a2 w2 q2 hS2 hst2=>hq ρ2 s2 a2 w2 q2 hS2 (hst.trans hst2)
    ·rename_i hw;rw[A3m hS hg rfl hw];rw[if_neg A4D];have d:Did ρ s.H s.c w undef w (.tup []) s.H s.c ρ := ⟨A5z ρ,hS.rep,hS.fresh,A0E _,λ_ _ h=>h,λ_ _=>rfl,Ext.refl _ _ _⟩;obtain⟨hS',hst⟩:=hS.did hd d;exact B0b os is' his hS' h fun ρ2 s2 a2 w2 q2 hS2 hst2=>hq ρ2 s2 a2 w2 q2 hS2 (hst.trans hst2)
    ·exact h.elim
   ·cases ho
  grind
def AWp(P:Program)(N:Nat)(c:Code)(s:St)(Q:Exit->St->Prop):Prop :=
 ∀(ρ:Ren) (a:Act) (w:World),Sim N ρ s a w->c.wp P (D9t N ρ s w Q) a w
theorem AWp.mono{c:Code}{s:St}{Q Q':Exit->St->Prop}(h:AWp P N c s Q)(hq:∀e s',Q e s'->Q' e s'):AWp P N c s Q' :=
 fun ρ a w hS=>wp_mono (h ρ a w hS) λe a' w' ⟨ρ',s',q,r⟩=>⟨ρ',s',hq _ _ q,r⟩
theorem AWp.region{id:Nat}{ops:Array Oper}{is:List IOper}(htr:trL P N ops ops.toList=some is){s:St}{Q:Exit->St->Prop}(h:rwp P (Q .normal) is s):AWp P N (.region id ops false) s Q :=
 fun ρ a w hS=>wp_region_list (B0b ops.toList is htr hS h fun ρ' s' a' w' q hS' hst=>⟨ρ',s',q,hS',hst⟩)
def B1h(next:St->Prop)(Q:Exit->St->Prop):Exit->St->Prop
 |.normal,s=>next s
 |e,s=>Q e s
theorem D9t.step{s s':St}{ρ ρ':Ren}{w w':World}(h:Step ρ s w ρ' s' w'){Q:Exit->St->Prop}{e:Exit}{a'':Act}{w'':World}(k:D9t N ρ' s' w' Q e a'' w''):D9t N ρ s w Q e a'' w'' :=
 let ⟨ρ2,s2,q,hS,hst⟩:=k;⟨ρ2,s2,q,hS,h.trans hst⟩
theorem AWp.seq{x y:Code}{s:St}{Q:Exit->St->Prop}(h:AWp P N x s (B1h (λs'=>AWp P N y s' Q) Q)):AWp P N (.seq x y) s Q:=by
 intro ρ a w hS;refine wp_seq (wp_mono (h ρ a w hS) λe a' w' hk=>?_);obtain⟨ρ',s',q,hS',hst⟩:=hk;cases e with
 |normal=>exact wp_mono (q ρ' a' w' hS') λe2 a2 w2 hk2=>D9t.step hst hk2
 |_=>exact⟨ρ',s',q,hS',hst⟩
theorem AWp.cond{c:Operand}{x:Opd}(hc:opd c=some x){t e:Code}{s:St}{Q:Exit->St->Prop}{b:Bool}(hb:ev s.T x=.bool b)(h:AWp P N (if b then t else e) s Q):AWp P N (.cond c t e) s Q:=by
 intro ρ a w hS;have hr:=B4 hS.tm hc;rw[hb]at hr;exact wp_cond hr.bool_inv (h ρ a w hS)
theorem AWp.condU{c:Operand}{x:Opd}(hc:opd c=some x){t e:Code}{s:St}{Q:Exit->St->Prop}(hb:ev s.T x=.ub)(h1:AWp P N t s Q)(h2:AWp P N e s Q):AWp P N (.cond c t e) s Q:=by
 intro ρ a w hS;have hr:=B4 hS.tm hc;rw[hb]at hr;generalize hv:a.eval c=v at hr;cases hr with
 |ub b=>cases b with
  |true=>exact wp_cond hv (h1 ρ a w hS)
  |false=>exact wp_cond hv (h2 ρ a w hS)
def C6i(id:Nat)(Q:Exit->St->Prop):Exit->St->Prop
 |.exit i,s=>if i=id then Q .normal s else Q (.exit i) s
 |e,s=>Q e s
theorem AWp.block{id:Nat}{c:Code}{s:St}{Q:Exit->St->Prop}(h:AWp P N c s (C6i id Q)):AWp P N (.block id c) s Q:=by
 intro ρ a w hS;refine wp_block (wp_mono (h ρ a w hS) λe a' w' hk=>?_);obtain⟨ρ',s',q,hS',hst⟩:=hk;cases e with
 |exit i =>
  simp only[C6i]at q;simp only[Exit.inBlock];split
  ·rename_i hi;rw[if_pos hi]at q;exact⟨ρ',s',q,hS',hst⟩
  ·rename_i hi;rw[if_neg hi]at q;exact⟨ρ',s',q,hS',hst⟩
 |_=>exact⟨ρ',s',q,hS',hst⟩
theorem AWp.skip{s:St}{Q:Exit->St->Prop}(h:Q .normal s):AWp P N .skip s Q:=fun ρ a w hS=>wp_skip ⟨ρ,s,h,hS,Step.refl _ _ _⟩
theorem AWp.exit{id:Nat}{s:St}{Q:Exit->St->Prop}(h:Q (.exit id) s):AWp P N (.exit id) s Q:=fun ρ a w hS=>wp_exit ⟨ρ,s,h,hS,Step.refl _ _ _⟩
theorem AWp.ret{s:St}{Q:Exit->St->Prop}(h:Q .ret s):AWp P N .ret s Q:=fun ρ a w hS=>wp_ret ⟨ρ,s,h,hS,Step.refl _ _ _⟩
theorem AWp.loop{c:Code}{s:St}{Q:Exit->St->Prop}(I:Nat->St->Prop){n:Nat}(h0:I n s)(hI:∀n s,I n s->AWp P N c s (B1h (λs' => ∃m,m<n/\I m s') Q)):AWp P N (.loop c) s Q:=by
 intro ρ a w hS;refine wp_loop_ghost (λn a' w' => ∃ ρ' s',I n s'/\Sim N ρ' s' a' w'/\Step ρ s w ρ' s' w') n ⟨ρ,s,h0,hS,Step.refl _ _ _⟩ ?_;rintro k a1 w1 ⟨ρ1,s1,hi,hS1,hst1⟩;refine wp_mono (hI k s1 hi ρ1 a1 w1 hS1) λe a2 w2 hk=>?_;obtain⟨ρ2,s2,q,hS2,hst2⟩:=hk;cases e with
 |normal =>
  obtain⟨m,hm,hi2⟩:=q;exact⟨m,hm, ρ2,s2,hi2,hS2,hst1.trans hst2⟩
 |_=>exact⟨ρ2,s2,q,hS2,hst1.trans hst2⟩
theorem Rep.less{ρ:Ren}{H H0:Hp}{w:World}(hR:Rep ρ H w)(h:∀j,H0 j=none\/H0 j=H j):Rep ρ H0 w:=by
 have up:∀j b,H0 j=some b->H j=some b:=λj b hj=>by
  grind
 exact⟨λj b hj=>hR.blk j b (up j b hj),λa b ba bb ta tb h1 h2=>hR.sep a b ba bb ta tb (up a ba h1) (up b bb h2),hR.frz,λj b t hj=>hR.dis j b t (up j b hj),λk es hk=>⟨(hR.frm k es hk).1,λj b t hj=>(hR.frm k es hk).2 j b t (up j b hj)⟩⟩
end
open Go.Eng (Opd FOp AOp EOp IOp IOper)
def A5g:DV->Option Nat
 |.ptr id _=>some id
 |.slc id _ _=>some id
 |.mid id=>some id
 |_=>none
theorem A0n{e e':Opd->DV}{l:List Opd}(h:∀x∈l,e x=e' x):l.map e=l.map e':=A3Y h
theorem A7c{e e':Opd->DV}{l:List (Nat × Opd)}(h:∀x∈l.map (·.2),e x=e' x):(l.map λp=>(p.1,e p.2))=l.map λp=>(p.1,e' p.2) :=
 A3Y λp hp=>j8
theorem A0m{e e':Opd->DV}{o:Option Opd}(h:∀x∈o.toList,e x=e' x):o.map e=o.map e':=by
 cases o with
 |none=>rfl
 |some x=>grind
theorem D1i{H H':Hp}{n:Nat}{agg:Bool}{x:DV}(h:∀id,A5g x=some id->H' id=H id):ldv H' n agg x=ldv H n agg x:=by
 unfold ldv;split
 ·rename_i id off;rw[h id rfl]
 ·rfl
 rfl
theorem C2t{H H':Hp}{x:DV}(h:∀id,A5g x=some id->H' id=H id):A5a H' x=A5a H x:=by
 unfold A5a;split
 ·rfl
 ·rename_i id o n;rw[h id rfl]
 ·rfl
 rfl
theorem C4a{H H':Hp}{sz:Nat}{x:DV}{lo hi:Option DV}(h:∀id,A5g x=some id->H' id=H id):A7j H' sz x lo hi=A7j H sz x lo hi:=by
 unfold A7j;split
 ·rfl
 ·rename_i id off n;rw[h id rfl]
 ·rfl
 rfl
theorem B0w{H H':Hp}{e e':Opd->DV}{f:FOp}(h:∀x∈f.opds,e x=e' x)(hH:∀x∈f.opds, ∀id,A5g (e x)=some id->H' id=H id):fev H' e' f=fev H e f:=by
 cases f with
 |mv x|fad _ x|fld _ _ _ x|ext x _|nck x|un _ x|cvi _ x|cvs x|len x|lens x =>
  have h1:=h x (by simp[FOp.opds]);simp only[fev, <- h1]
 |pick c a b =>
  have h1:=h c (by simp[FOp.opds]);have h2:=h a (by simp[FOp.opds]);have h3:=h b (by simp[FOp.opds]);simp only[fev, <- h1, <- h2, <- h3]
 |iad _ x i|iada _ _ x i|idx x i|bin _ x i|eqb _ x i|eqn _ _ x i|eqa _ _ x i|mn x i|mx x i =>
  have h1:=h x (by simp[FOp.opds]);have h2:=h i (by simp[FOp.opds]);simp only[fev, <- h1, <- h2]
 |ld n agg x =>
  have h1:=h x (by simp[FOp.opds]);simp only[fev, <- h1];exact D1i (hH x (by simp[FOp.opds]))
 |cvbs x =>
  have h1:=h x (by simp[FOp.opds]);simp only[fev, <- h1];exact C2t (hH x (by simp[FOp.opds]))
 |slc sz x lo hi =>
  have h1:=h x (by simp[FOp.opds]);have h3:lo.map e=lo.map e':=A0m λy hy=>h y (by simp only[FOp.opds,A0U,A1A];grind);have h4:hi.map e=hi.map e':=A0m λy hy=>h y (by simp only[FOp.opds,A0U,A1A];grind);simp only[fev, <- h1, <- h3, <- h4];exact C4a (hH x (by simp[FOp.opds]))
 |sls x lo hi =>
  have h1:=h x (by simp[FOp.opds]);have h3:lo.map e=lo.map e':=A0m λy hy=>h y (by simp only[FOp.opds,A0U,A1A];grind);have h4:hi.map e=hi.map e':=A0m λy hy=>h y (by simp only[FOp.opds,A0U,A1A];grind);simp only[fev, <- h1, <- h3, <- h4]
 |mkf g a c =>
  have h1:a.map e=a.map e':=A0n λy hy=>h y (by simp only[FOp.opds,A1A];grind);have h2:c.map e=c.map e':=A0n λy hy=>h y (by simp only[FOp.opds,A1A];grind);simp only[fev,h1,h2]
 |bld z pl ps =>
  have h1:=A7c (l:=ps) (e:=e) (e':=e') (λy hy=>h y hy);simp only[fev,h1]
theorem B1d{e e':Opd->DV}{f:AOp}(h:∀x∈f.opds,e x=e' x):aev e' f=aev e f:=by
 cases f with
 |box x=>have h1:=h x (by simp[AOp.opds]);simp only[aev, <- h1]
 |bsl sz n z ps=>have h1:=A7c (l:=ps) (e:=e) (e':=e') (λy hy=>h y hy);simp only[aev,h1]
 |msl _ _ _ l c=>have h1:=h l (by simp[AOp.opds]);have h2:=h c (by simp[AOp.opds]);simp only[aev, <- h1, <- h2]
theorem D2a{H:Hp}{c:Nat}{e e':Opd->DV}{f:EOp}(h:∀x∈f.opds,e x=e' x):eev H c e' f=eev H c e f:=by
 cases f with
 |st n x v=>have h1:=h x (by simp[EOp.opds]);have h2:=h v (by simp[EOp.opds]);simp only[eev, <- h1, <- h2]
 |app _ _ s x|apps s x=>have h1:=h s (by simp[EOp.opds]);have h2:=h x (by simp[EOp.opds]);simp only[eev, <- h1, <- h2]
 |mkm _=>rfl
 |mup _ m k v=>have h1:=h m (by simp[EOp.opds]);have h2:=h k (by simp[EOp.opds]);have h3:=h v (by simp[EOp.opds]);simp only[eev, <- h1, <- h2, <- h3]
 |cvsb x|cap0 x=>have h1:=h x (by simp[EOp.opds]);simp only[eev, <- h1]
 |appz _ _ _ d s|cpy _ d s|cpys d s=>have h1:=h d (by simp[EOp.opds]);have h2:=h s (by simp[EOp.opds]);simp only[eev, <- h1, <- h2]
 |lkp _ _ _ m k=>have h1:=h m (by simp[EOp.opds]);have h2:=h k (by simp[EOp.opds]);simp only[eev, <- h1, <- h2]
theorem C4r{P:Program}{T T':Tm}{H:Hp}{c:Nat}{K:DV->Hp->Nat->Prop}{i:IOp}(h:∀x∈i.opds,ev T x=ev T' x):V0 P ⟨T',H,c⟩ K i=V0 P ⟨T,H,c⟩ K i:=by
 cases i with
 |pur f=>simp only[V0,B0w (H:=H) (H':=H) (f:=f) h (λ_ _ _ _=>rfl)]
 |new f=>simp only[V0,B1d (f:=f) h]
 |eff f=>simp only[V0,D2a (f:=f) h]
 |call g args=>simp only[V0,A0n (l:=args) h]
 |callv x args =>
  have h1:=h x (by simp[IOp.opds]);have h2:args.map (ev T)=args.map (ev T'):=A0n (λy hy=>h y (by simp[IOp.opds,hy]));simp only[V0,h1,h2]
theorem D7v{H H':Hp}(hH:∀id b,H id=some b->H' id=some b){e:Opd->DV}{f:FOp}{v:DV}(h:fev H e f=some v):fev H' e f=some v:=by
 cases f with
 |ld n agg x =>
  simp only[fev]at h ⊢;unfold ldv at h ⊢
  grind
 |cvbs x =>
  simp only[fev]at h ⊢;unfold A5a at h ⊢
  grind
 |slc sz x lo hi =>
  simp only[fev]at h ⊢;unfold A7j at h ⊢;split at h
  ·exact h
  ·split at h
   ·split at h
    ·rename_i hg;rw[if_pos hg];split at h
     ·rename_i h0;rw[if_pos h0];exact h
     ·rename_i h0;rw[if_neg h0];split at h
      ·rename_i h1;rw[if_pos h1];exact h
      ·rename_i h1;rw[if_neg h1];split at h
       ·rename_i b hb;simp only[hH _ _ hb];exact h
       ·cases h
    ·cases h
   ·cases h
  ·exact h
  omega
 |_=>exact h
theorem VRel.top{ρ:Ren}{x:DV}{y:Value}(h:VRel ρ x y){id:Nat}(ht:A5g x=some id):∃t, ρ.nm id=some t:=by
 cases h<;>simp only[A5g,Option.some.injEq,reduceCtorEq]at ht;all_goals(subst ht;exact⟨_,by assumption⟩)
open Go.Eng (Opd FOp AOp EOp IOp IOper DReg isNew R8 A2z A5b B6v B5q A9d chk Lst Q7 A3a M9 P5 A5v B5k B4i Y6 U8 A8o trO)
def A4x(s:St)(id:Nat)(o:IOper):Option (DV × Option Blk) :=
 match X2 s.T o.guard with
 |some false=>some (.tup [],none)
 |some true=>match o.op with
  |.pur f=>match fev s.H (ev s.T) f with
   |some v=>some (v,none)
   |none=>none
  |.new f=>match aev (ev s.T) f with
   |some (k,b)=>some (mkv id k,some b)
   |none=>none
  |.eff (.lkp kd z ok m k)=>match lkR kd (inj z) ok (ev s.T k) (U2 s.H kd (ev s.T m)) with
   |some v=>some (v,none)
   |none=>none
  |_=>none
 |none=>none
def A4d(H:Hp)(id:Nat):Option Blk->Hp
 |some b=>H.upd id b
 |none=>H
def K3(H:Hp)(ks:List Nat):Hp:=λid=>if id∈ks then none else H id
def O9(ks:List Nat)(H H':Hp):Hp:=λid=>if id∈ks then H id else H' id
def C2p(P:Program)(s:St)(o:IOper)(K:DV->Hp->Nat->Prop):Prop :=
 match X2 s.T o.guard with
 |some true=>V0 P s K o.op
 |some false=>K (.tup []) s.H s.c
 |none=>False
def A5x(io:List IOper)(c0:Nat)(s:St)(j:Nat):Prop :=
 match io[j]? with
 |some o=>match A4x s (c0+j) o with
  |some (v,ob)=>(∀d,o.dst=some d->s.T d=v)/\s.H (c0+j)=ob
  |none=>False
 |none=>False
def A1g(io:List IOper)(c0:Nat)(s:St):List Nat->Prop
 |[]=>True
 |j::r=>A5x io c0 s j/\A1g io c0 s r
def dwp(P:Program)(Q:St->Prop)(io:List IOper)(c0:Nat):List (Nat × Option (List Nat))->St->Prop
 |[],s=>Q s
 |(i,none)::r,s=>match io[i]? with
  |some o=>match A4x s (c0+i) o with
   |some (v,ob)=>dwp P Q io c0 r ⟨J3 s.T o.dst v,A4d s.H (c0+i) ob,s.c⟩
   |none=>False
  |none=>False
 |(i,some pend)::r,s=>match io[i]? with
  |some o=>C2p P ⟨s.T,K3 s.H ((pend.filter (isNew io)).map (c0 + ·)),s.c⟩ o λv H' c' =>
    A1g io c0 ⟨J3 s.T o.dst v,O9 ((pend.filter (isNew io)).map (c0 + ·)) s.H H',c'⟩ pend /\
    dwp P Q io c0 r ⟨J3 s.T o.dst v,O9 ((pend.filter (isNew io)).map (c0 + ·)) s.H H',c'⟩
  |none=>False
section
open Classical
variable {P:Program} {ops:Array Oper} {io:List IOper} {bef:List (List Nat)} {n:Nat} {fr:List Nat} {c0 N:Nat} {T0:Tm}
def TS(io:List IOper)(T0:Tm)(listed:Array Bool)(done:List Nat)(s:St):Tm:=λt =>
 if ∃j,Q7 listed done j/\∃o,io[j]? = some o/\o.dst=some t then T0 t else s.T t
def HS(c0:Nat)(listed:Array Bool)(done:List Nat)(s:St):Hp:=λid =>
 if ∃j,Q7 listed done j/\id=c0+j then none else s.H id
structure DI (ops:Array Oper) (io:List IOper) (bef:List (List Nat)) (n:Nat) (fr:List Nat) (c0 N:Nat) (T0:Tm) (listed:Array Bool) (done:List Nat) (rest:List (Nat × Option (List Nat))) (s:St)
  (ρ:Ren) (a:Act) (w:World):Prop where
 lsz:listed.size=n
 ck:chk ops io bef n fr done rest=true
 cov:∀i,i<n->i∈done\/i∈rest.map (·.1)
 dlt:∀i∈done,i<n
 dcl:∀i∈done,A3a ops (· ∈ done) i
 lcl:∀i,Lst listed i->A3a ops (Lst listed) i
 lsub:∀i,Lst listed i->i∈done
 eff:∀i∈done,i ∉ fr->Lst listed i
 fro:∀i∈fr,B5q io bef n i=true
 agn:∀j,Q7 listed done j->A5x io c0 s j
 tm:A3k ρ (TS io T0 listed done s) a
 rep:Rep ρ (HS c0 listed done s) w
 frs:∀id,s.c<=id -> ρ.nm id=none
 frp:∀j,j<n->¬Lst listed j -> ρ.nm (c0+j)=none
 und:∀j,j<n->j ∉ done->s.H (c0+j)=none/\(j∈fr->∀o d,io[j]? = some o->o.dst=some d->s.T d=T0 d)
 cle:c0+n<=s.c
 sz:a.tmps.size=N
 dfr:a.defers=[]
theorem C6v(c:Value):A5g (inj c)=none:=by
 unfold inj;split
 ·rfl
 ·rfl
 ·unfold injS;split<;>rfl
theorem A7y{o:IOper}{T T':Tm}(h:∀t∈o.sees,T t=T' t):(∀x∈o.op.opds,ev T x=ev T' x)/\X2 T o.guard=X2 T' o.guard:=by
 constructor
 ·intro x hx;cases x with
  |t k=>exact h k (by unfold IOper.sees;exact A4H _ (A4T.2 ⟨.t k,hx,rfl⟩))
  |k v=>rfl
  |f g=>rfl
 ·cases hg:o.guard with
  |none=>rfl
  |some tb =>
   obtain⟨t,b⟩:=tb;have:T t=T' t:=h t (by unfold IOper.sees;grind);simp only[X2,this]
theorem C5b{H H':Hp}(hH:∀id b,H id=some b->H' id=some b){kd:Go.Eng.KKey}{x:DV}{cs:List DV × List DV}(h:U2 H kd x=some cs):U2 H' kd x=some cs:=by
 cases x with
 |mid id =>
  simp only[U2]at h ⊢;cases hb:H id with
  |none=>rw[hb]at h;cases h
  |some b=>grind
 |_=>exact h
theorem D6p{H H':Hp}(hH:∀id b,H id=some b->H' id=some b){kd:Go.Eng.KKey}{z k x v:DV}{ok:Bool}(h:lkR kd z ok k (U2 H kd x)=some v):lkR kd z ok k (U2 H' kd x)=some v:=by
 cases hc:U2 H kd x with
 |none=>rw[hc]at h;cases h
 |some cs=>rw[C5b hH hc];grind
theorem B4r{s s':St}{o:IOper}(ht:∀t∈o.sees,s.T t=s'.T t)(hH:∀id b,s.H id=some b->s'.H id=some b){id:Nat}{r:DV × Option Blk}(h:A4x s id o=some r):A4x s' id o=some r:=by
 obtain⟨h1,h2⟩:=A7y ht;unfold A4x at h ⊢;rw[<- h2];split at h
 ·exact h
 ·split at h
  ·rename_i f hf;rw[hf]at h1;split at h
   ·rename_i v hv;have h3:fev s'.H (ev s'.T) f=some v:=by
     refine D7v hH ?_;rw[B0w (H:=s.H) (H':=s.H) (e:=ev s.T) (f:=f) h1 (λ_ _ _ _=>rfl)];exact hv
    simp only[h3];exact h
   ·cases h
  ·rename_i f hf;rw[hf]at h1;rw[B1d (f:=f) h1];exact h
  ·rename_i kd z ok m k hf;rw[hf]at h1;have hm:ev s.T m=ev s'.T m:=h1 m (by simp[IOp.opds,EOp.opds]);have hk:ev s.T k=ev s'.T k:=h1 k (by simp[IOp.opds,EOp.opds]);split at h
   ·rename_i v hv;rw[hm,hk]at hv;simp only[D6p hH hv];exact h
   ·cases h
  ·cases h
 omega
theorem C7d{listed:Array Bool}{done:List Nat}{rest:List (Nat × Option (List Nat))}{s:St}{ρ:Ren}{a:Act}{w:World}(hb:A2z ops bef n=true)(hD:DI ops io bef n fr c0 N T0 listed done rest s ρ a w)
  {j:Nat} (hj:j<n) (hw:A3a ops (Lst listed) j) {o:IOper} (ho:io[j]? = some o):∀t∈o.sees,TS io T0 listed done s t=s.T t:=by
 intro t ht;unfold TS;rw[if_neg];rintro⟨i,⟨hi,hnl⟩,p,hp,hd⟩;have hfr:i∈fr:=Classical.byContradiction λhne=>hnl (hD.eff i hi hne);obtain⟨p',hp', -,hall⟩:=U8 (hD.fro i hfr);rw[hp]at hp';cases hp';obtain⟨q,hq,h1, -⟩:=hall t hd j hj;rw[ho]at hq;cases hq;exact hnl (A5v hb hD.lcl j hj hw i (h1 ht))
end
open Go.Eng (Opd FOp AOp EOp IOp IOper DReg isNew R8 A2z A5b B6v B5q A9d chk Lst Q7 A3a M9 P5 A5v B5k B4i Y6 U8 trO trF trA trE trI B7v trG trL B1l A1v W4)
section
open Classical
variable {P:Program} {ops:Array Oper} {io:List IOper} {bef:List (List Nat)} {n:Nat} {fr:List Nat} {c0 N:Nat} {T0:Tm}
theorem Rep.frame{ρ ρ':Ren}{H H1 H':Hp}{c c':Nat}{w w':World}{v:DV}{v':Value}(hR:Rep ρ H w)(hsub:∀j,H1 j=none\/H1 j=H j)(d:Did ρ H1 c w v' w' v H' c' ρ'){X:Nat->Prop}
  (hX:∀j,X j->H1 j=none) :
  Rep ρ' (λj=>if X j then H j else H' j) w'/\Ext ρ H w ρ' (λj=>if X j then H j else H' j) w':=by
 have up:∀j b,H1 j=some b->H j=some b:=λj b hj=>by
  grind
 have stay:∀j b t,X j->H j=some b -> ρ.nm j=some t->w'.heap[t.block]? = w.heap[t.block]? := by
  intro j b t hx hb ht;have hlt:=(hR.lookb hb ht).lt;refine d.ext.keep t.block hlt λk bk tk h1 h2 h3 h4=>?_;have hkj:k≠j:=λe=>j8
  exact hR.sep k j bk b tk t (up k bk h1) hb hkj h3 ht h2 h4
 have oldblk:∀k bk tk,H' k=some bk -> ρ'.nm k=some tk->w.heap.size<=tk.block\/∃i b0 t0,H1 i=some b0/\H i=some b0/\(bk.own=true->b0.own=true) /\ ρ.nm i=some t0/\t0.block=tk.block:=by
  intro k bk tk h1 h2;rcases d.ext.mine k bk tk h1 h2 with h3|⟨i,b0,t0,e1,e2,e3,e4⟩
  ·exact .inl h3
  grind
 refine⟨⟨λj b hj=>?_,λi j bi bj ti tj hi hj hij h1 h2 ho=>?_,d.rep.frz,λj b t hj ho ht=>?_,λk es hk=>⟨(d.rep.frm k es hk).1,λj b t hj ho ht=>?_⟩⟩,⟨d.ext.le,d.ext.os,d.ext.tape,d.ext.output,d.ext.size,λk hk hno=>?_,λj b t hj ht=>?_,λk r hk=>?_,λk r hk=>?_⟩⟩
 ·by_cases hx:X j
  ·simp only[hx,if_true]at hj;obtain⟨t,g1,g2⟩:=hR.blk j b hj;exact⟨t,d.ext.le.nm _ _ g1,(g2.mono d.ext.le).world (stay j b t hx hj g1)⟩
  ·simp only[hx,if_false]at hj;exact d.rep.blk j b hj
 ·by_cases hxi:X i<;>by_cases hxj:X j
  ·simp only[hxi,hxj,if_true]at hi hj;obtain⟨t,g1,g2⟩:=hR.blk i bi hi;obtain⟨u,g3,g4⟩:=hR.blk j bj hj;rw[d.ext.le.nm _ _ g1]at h1;cases h1;rw[d.ext.le.nm _ _ g3]at h2;cases h2;exact hR.sep i j bi bj _ _ hi hj hij g1 g3 ho
  ·simp only[hxi,hxj,if_true,if_false]at hi hj;obtain⟨t,g1,g2⟩:=hR.blk i bi hi;rw[d.ext.le.nm _ _ g1]at h1;cases h1;rcases oldblk j bj tj hj h2 with h3|⟨k,b0,t0,e1,e2,e3,e4,e5⟩
   ·have:=g2.lt;omega
   ·rw[<- e5];exact hR.sep i k bi b0 _ t0 hi e2 (λe=>by grind) g1 e4 ho
  ·simp only[hxi,hxj,if_true,if_false]at hi hj;obtain⟨u,g3,g4⟩:=hR.blk j bj hj;rw[d.ext.le.nm _ _ g3]at h2;cases h2;rcases oldblk i bi ti hi h1 with h3|⟨k,b0,t0,e1,e2,e3,e4,e5⟩
   ·have:=g4.lt;omega
   ·rw[<- e5];exact hR.sep k j b0 bj t0 _ e2 hj (λe=>by grind) e4 g3 (e3 ho)
  ·simp only[hxi,hxj,if_false]at hi hj;exact d.rep.sep i j bi bj ti tj hi hj hij h1 h2 ho
 ·by_cases hx:X j
  ·simp only[hx,if_true]at hj;obtain⟨u,g1,g2⟩:=hR.blk j b hj;rw[d.ext.le.nm _ _ g1]at ht;cases ht;cases hf : ρ'.fz t.block with
   |none=>rfl
   |some r =>
    rcases d.ext.fzn _ r hf with h1|h1|⟨i,b0,t0,e1,e2,e3,e4⟩
    ·rw[hR.dis j b t hj ho g1]at h1;grind
    ·have:=g2.lt;omega
    ·exact absurd e4 (hR.sep i j b0 b t0 t (up i b0 e1) hj (λe=>by grind) e3 g1 e2)
  ·simp only[hx,if_false]at hj;exact d.rep.dis j b t hj ho ht
 ·by_cases hx:X j
  ·simp only[hx,if_true]at hj;obtain⟨u,g1,g2⟩:=hR.blk j b hj;rw[d.ext.le.nm _ _ g1]at ht;cases ht;rcases d.ext.fmn _ _ hk with h1|h1|⟨i,b0,t0,e1,e2,e3,e4⟩
   ·exact(hR.frm k es h1).2 j b t hj ho g1
   ·have:=g2.lt;omega
   ·rw[<- e4];exact(hR.sep i j b0 b t0 t (up i b0 e1) hj (λe=>by grind) e3 g1 e2).symm
  ·simp only[hx,if_false]at hj;exact(d.rep.frm k es hk).2 j b t hj ho ht
 ·exact d.ext.keep k hk λid b t h1 h2 h3=>hno id b t (up id b h1) h2 h3
 ·by_cases hx:X j
  ·simp only[hx,if_true]at hj;obtain⟨u,g1,g2⟩:=hR.blk j b hj;rw[d.ext.le.nm _ _ g1]at ht;cases ht;exact .inr ⟨j,b,_,hj,λh=>h,g1,rfl⟩
  grind
 ·rcases d.ext.fzn k r hk with h1|h1|⟨i,b0,t0,e1,e2,e3,e4⟩
  ·exact .inl h1
  ·exact .inr (.inl h1)
  grind
 ·rcases d.ext.fmn k r hk with h1|h1|⟨i,b0,t0,e1,e2,e3,e4⟩
  ·exact .inl h1
  ·exact .inr (.inl h1)
  grind
variable {listed:Array Bool} {done:List Nat} {rest:List (Nat × Option (List Nat))} {s:St} {ρ:Ren} {a:Act} {w:World}
theorem DI.sim(hD:DI ops io bef n fr c0 N T0 listed done rest s ρ a w):Sim N ρ ⟨TS io T0 listed done s,HS c0 listed done s,s.c⟩ a w :=
 ⟨hD.tm,hD.rep,hD.frs,hD.sz,hD.dfr⟩
theorem D1u(hb:A2z ops bef n=true)(hn:n=ops.size)(hio:∀(i:Nat) (o:Oper),ops[i]? = some o->∃p,io[i]? = some p/\trO P N ops o=some p)
  (hD:DI ops io bef n fr c0 N T0 listed done rest s ρ a w) {j:Nat} (hj:Q7 listed done j) (hrd:A3a ops (Lst listed) j) {Q:Exit->Act->World->Prop} {K:Act->World->Prop}
  (hK:∀ ρ' a' w',DI ops io bef n fr c0 N T0 (listed.setIfInBounds j true) done rest s ρ' a' w'->Ext ρ (HS c0 listed done s) w ρ' (HS c0 (listed.setIfInBounds j true) done s) w'->(∀id,id<c0 -> ρ'.nm id = ρ.nm id)->K a' w') :
  wpOp P ops Q j K a w:=by
 have hjn:j<n:=hD.dlt j hj.1;have hjo:∃o,ops[j]? = some o:=⟨ops[j]'(hn▸hjn),by simp[hn▸hjn]⟩;obtain⟨o,ho⟩:=hjo;obtain⟨p,hp,htr⟩:=hio j o ho;have hjf:j∈fr:=Classical.byContradiction λh=>hj.2 (hD.eff j hj.1 h);obtain⟨p',hp',hkind,hsolo⟩:=U8 (hD.fro j hjf);rw[hp]at hp';cases hp';have hls:j<listed.size:=hD.lsz▸hjn;have hag:=hD.agn j hj;unfold A5x at hag;rw[hp]at hag;simp only[]at hag;split at hag
 case h_2=>exact hag.elim
 rename_i v ob hfv;obtain⟨hag1,hag2⟩:=hag;have hsee:=C7d hb hD hjn hrd hp;obtain⟨hev,hwt⟩:=A7y (o:=p) (T:=TS io T0 listed done s) (T':=s.T) hsee;unfold trO at htr;split at htr
 case h_2=>cases htr
 rename_i op g hop hg hd;cases htr
 have fin:∀(ρ':Ren) (v':Value) (w':World),VRel ρ' v v'->Rep ρ' (HS c0 (listed.setIfInBounds j true) done s) w' -> ρ.le ρ'->(∀id,s.c<=id -> ρ'.nm id=none)->(∀i,i<n->i≠j->¬Lst listed i -> ρ'.nm (c0+i)=none) ->
   DI ops io bef n fr c0 N T0 (listed.setIfInBounds j true) done rest s ρ' (a.put o.dst v') w':=by
  intro ρ' v' w' hv hr hle hf hf2;have hl:∀i,Lst (listed.setIfInBounds j true) i↔i=j\/Lst listed i:=λi=>Y6 hls;have hpd:∀i,Q7 (listed.setIfInBounds j true) done i↔Q7 listed done i/\i≠j:=by
   intro i;unfold Q7;rw[hl];constructor
   ·rintro⟨h1,h2⟩;exact⟨⟨h1,λh=>h2 (.inr h)⟩,λh=>h2 (.inl h)⟩
   ·rintro⟨⟨h1,h2⟩,h3⟩;exact⟨h1,λh=>h.elim h3 h2⟩
  refine⟨by simpa using hD.lsz,hD.ck,hD.cov,hD.dlt,hD.dcl,?_,?_,?_,hD.fro,?_,?_,hr,hf,?_,hD.und,hD.cle,(A1v _ _ _).trans hD.sz,(W4 _ _ _).trans hD.dfr⟩
  ·intro i hi o' e he1 he2 he3;rw[hl]at hi ⊢;rcases hi with rfl|hi
   ·exact .inr (hrd o' e he1 he2 he3)
   ·exact .inr (hD.lcl i hi o' e he1 he2 he3)
  ·intro i hi;rw[hl]at hi;rcases hi with rfl|hi
   ·exact hj.1
   ·exact hD.lsub i hi
  ·intro i h1 h2;rw[hl];exact .inr (hD.eff i h1 h2)
  ·intro i hi;exact hD.agn i ((hpd i).1 hi).1
  ·
   have hts:∀t,TS io T0 (listed.setIfInBounds j true) done s t=J3 (TS io T0 listed done s) o.dst v t:=by
    intro t;by_cases ht:o.dst=some t
    ·rw[ht];simp only[J3,Tm.upd,if_true];unfold TS;rw[if_neg]
     ·exact hag1 t ht
     ·rintro⟨i,hi,q,hq,hqd⟩;obtain⟨h1,h2⟩:=(hpd i).1 hi;obtain⟨q',hq', -,h3⟩:=hsolo t ht i (hD.dlt i h1.1);rw[hq]at hq';cases hq';exact h3 h2 hqd
    ·have h1:J3 (TS io T0 listed done s) o.dst v t=TS io T0 listed done s t:=by
      cases hd':o.dst with
      |none=>rfl
      |some d=>simp only[J3,Tm.upd];rw[if_neg (λe=>ht (by rw[hd',e]))]
     rw[h1];unfold TS;have:(∃i,Q7 (listed.setIfInBounds j true) done i/\∃o,io[i]? = some o/\o.dst=some t)↔∃i,Q7 listed done i/\∃o,io[i]? = some o/\o.dst=some t:=by
      constructor
      ·rintro⟨i,hi,h⟩;exact⟨i,((hpd i).1 hi).1,h⟩
      ·rintro⟨i,hi,q,hq,hqd⟩;refine⟨i,(hpd i).2 ⟨hi,?_⟩,q,hq,hqd⟩;rintro rfl;rw[hp]at hq;cases hq;exact ht hqd
     simp only[this]
   have h2:=(hD.tm.mono hle).putO (d:=o.dst) (by rw[hD.sz];exact hd) hv;intro t;rw[hts t];exact h2 t
  ·intro i hi hl2;rw[hl]at hl2;exact hf2 i hi (λh=>hl2 (.inl h)) (λh=>hl2 (.inr h))
 have hhs:HS c0 (listed.setIfInBounds j true) done s=A4d (HS c0 listed done s) (c0+j) ob:=by
  funext id
  have hpd:∀i,Q7 (listed.setIfInBounds j true) done i↔Q7 listed done i/\i≠j:=by
   intro i;unfold Q7;rw[Y6 hls];constructor
   ·rintro⟨h1,h2⟩;exact⟨⟨h1,λh=>h2 (.inr h)⟩,λh=>h2 (.inl h)⟩
   ·rintro⟨⟨h1,h2⟩,h3⟩;exact⟨h1,λh=>h.elim h3 h2⟩
  by_cases hid:id=c0+j
  ·subst hid;have e1:HS c0 (listed.setIfInBounds j true) done s (c0+j)=ob:=by
    unfold HS;rw[if_neg]
    ·exact hag2
    ·rintro⟨i,hi,he⟩;exact((hpd i).1 hi).2 (by omega)
   rw[e1];cases ob with
   |none=>simp only[A4d];unfold HS;rw[if_pos ⟨j,hj,rfl⟩]
   |some b=>simp[A4d,Hp.upd]
  ·have e1:A4d (HS c0 listed done s) (c0+j) ob id=HS c0 listed done s id:=by
    cases ob with
    |none=>rfl
    |some b=>simp[A4d,Hp.upd,hid]
   rw[e1];unfold HS;have:(∃i,Q7 (listed.setIfInBounds j true) done i/\id=c0+i)↔∃i,Q7 listed done i/\id=c0+i:=by
    constructor
    ·rintro⟨i,hi,h⟩;exact⟨i,((hpd i).1 hi).1,h⟩
    ·rintro⟨i,hi,h⟩;exact⟨i,(hpd i).2 ⟨hi,λe=>hid (by rw[h,e])⟩,h⟩
   simp only[this]
 have hid : ρ.nm (c0+j)=none:=hD.frp j hjn hj.2;unfold wpOp;simp only[ho];unfold A4x at hfv;simp only[]at hfv hwt hev;rw[<- hwt]at hfv;split at hfv
 ·rename_i hw;rw[A3m hD.sim hg rfl hw,if_neg A4D];cases hfv;exact hK ρ _ w (fin ρ undef w (A5z ρ) (by rw[hhs];exact hD.rep) (Ren.le_refl _) hD.frs (λi h1 _ h3=>hD.frp i h1 h3)) (by rw[hhs];exact Ext.refl _ _ _) (λ_ _=>rfl)
 ·rename_i hw;rw[A3m hD.sim hg rfl hw,if_pos rfl];left;split at hfv
  ·rename_i f;split at hfv
   ·rename_i v0 hv0;cases hfv;have htop:∀x∈f.opds, ∀id,A5g (ev s.T x)=some id->HS c0 listed done s id=s.H id:=by
     intro x hx id hid';have hx1:ev (TS io T0 listed done s) x=ev s.T x:=hev x hx;cases x with
     |t k =>
      have hr:=hD.tm k;simp only[ev]at hx1 hid';rw[hx1]at hr;obtain⟨tg,htg⟩:=hr.top hid';unfold HS;rw[if_neg];rintro⟨i,hi,rfl⟩;rw[hD.frp i (hD.dlt i hi.1) hi.2]at htg;cases htg
     |k c =>
      simp only[ev]at hid';have hk:=hkind (.k c) hx;rw[C6v]at hid';cases hid'
     |f g=>simp[ev,A5g]at hid'
    have hfe:fev (HS c0 listed done s) (ev (TS io T0 listed done s)) f=some v:=by
     rw[B0w (H:=s.H) (e:=ev s.T) (f:=f) (λx hx=>(hev x hx).symm) htop];exact hv0
    have htrf:trF P o.op=some f:=by
     unfold trI at hop;split at hop
     ·cases hop;assumption
     ·split at hop
      ·cases hop
      ·split at hop
       ·cases hop
       ·unfold B7v at hop;split at hop<;>simp at hop
    obtain⟨v',h1,h2⟩:=B6z hD.rep hD.tm htrf hfe;unfold Oper.wp;rw[h1];exact hK ρ _ w (fin ρ v' w h2 (by rw[hhs];exact hD.rep) (Ren.le_refl _) hD.frs (λi h1 _ h3=>hD.frp i h1 h3)) (by rw[hhs];exact Ext.refl _ _ _) (λ_ _=>rfl)
   ·cases hfv
  ·rename_i f;split at hfv
   ·rename_i k b hk;cases hfv;have hfe:aev (ev (TS io T0 listed done s)) f=some (k,b):=by
     rw[B1d (f:=f) (e:=ev s.T) (λx hx=>(hev x hx).symm)];exact hk
    have htrf:trA P o.op=some f:=by
     unfold trI at hop;split at hop
     ·cases hop
     ·split at hop
      ·cases hop;assumption
      ·split at hop
       ·cases hop
       ·unfold B7v at hop;split at hop<;>simp at hop
    obtain⟨v',c,e,h1,h2,h3,h4⟩:=B7p (w:=w) hD.tm hid htrf hfe;unfold Oper.wp;rw[h1];refine hK _ _ _ (fin _ v' _ h2 (by rw[hhs];exact hD.rep.alloc hid h4 h3 rfl) (Ren.le_upd hid) ?_ ?_) (by rw[hhs];exact Ext.alloc hD.rep hid rfl rfl rfl rfl) (λid hid'=>?_)
    ·intro id hid';have:=hD.cle;simp only[Ren.upd,show id≠c0+j by omega,if_false];exact hD.frs id hid'
    ·intro i hi hij hnl;simp only[Ren.upd,show c0+i≠c0+j by omega,if_false];exact hD.frp i hi hnl
    ·simp only[Ren.upd,show id≠c0+j by omega,if_false]
   ·cases hfv
  ·rename_i kd z ok m k;split at hfv
   ·rename_i v0 hv0;cases hfv;have hm:ev (TS io T0 listed done s) m=ev s.T m:=hev m (by simp[IOp.opds,EOp.opds]);have hk:ev (TS io T0 listed done s) k=ev s.T k:=hev k (by simp[IOp.opds,EOp.opds]);have htop:∀id,A5g (ev s.T m)=some id->HS c0 listed done s id=s.H id:=by
     intro id hid';rw[<- hm]at hid';cases m with
     |t q =>
      have hr:=hD.tm q;simp only[ev]at hid';obtain⟨tg,htg⟩:=hr.top hid';unfold HS;rw[if_neg];rintro⟨i,hi,rfl⟩;rw[hD.frp i (hD.dlt i hi.1) hi.2]at htg;cases htg
     |k c =>
      simp only[ev]at hid';rw[C6v]at hid';cases hid'
     |f g=>simp[ev,A5g]at hid'
    have hc:U2 (HS c0 listed done s) kd (ev s.T m)=U2 s.H kd (ev s.T m):=by
     cases hx:ev s.T m with
     |mid id=>simp only[U2];rw[htop id (by rw[hx];rfl)]
     |_=>rfl
    have hlk:lkR kd (inj z) ok (ev (TS io T0 listed done s) k) (U2 (HS c0 listed done s) kd (ev (TS io T0 listed done s) m))=some v:=by rw[hm,hk,hc];exact hv0
    refine B0h hD.sim hop (K:=λv' H' c'=>v'=v/\H'=HS c0 listed done s/\c'=s.c) ?_ ?_
    ·simp only[V0,eev,hlk,lkE];exact⟨trivial,trivial,trivial⟩
    ·rintro v1 v' H' c' ρ' w' ⟨rfl,rfl,rfl⟩ d;exact hK ρ' _ w' (fin ρ' v' w' d.val (by rw[hhs];exact d.rep) d.ext.le d.fresh (λi h1 _ h3=>by
      by_cases hlt:c0+i<s.c
      ·rw[d.same _ hlt];exact hD.frp i h1 h3
      ·exact d.fresh _ (by omega))) (by rw[hhs];exact d.ext) (λid hid'=>d.same id (by have:=hD.cle;show id<s.c;omega))
   ·cases hfv
  ·cases hfv
 grind
end
open Go.Eng (Opd FOp AOp EOp IOp IOper DReg isNew R8 A2z A5b B6v B5q A9d chk Lst Q7 A3a M9 P5 A5v B5k B4i Y6 U8 trO trF trA trE trI B7v trG trL B1l A1v W4 A3v A3w A6p A8a B2j)
section
open Classical
variable {P:Program} {ops:Array Oper} {io:List IOper} {bef:List (List Nat)} {n:Nat} {fr:List Nat} {c0 N:Nat} {T0:Tm}
variable {listed:Array Bool} {done:List Nat} {rest:List (Nat × Option (List Nat))} {s:St} {ρ:Ren} {a:Act} {w:World}
theorem B5n{io:List IOper}{c0:Nat}{s:St}:∀ {l:List Nat},A1g io c0 s l->∀j∈l,A5x io c0 s j
 |[],_,j,hj=>j8
 |i::r,h,j,hj=>by
  cases hj with
  |head=>exact h.1
  |tail _ hj=>exact B5n h.2 j hj
theorem adv(hb:A2z ops bef n=true)(Q:St->Prop):∀(rest:List (Nat × Option (List Nat))) (done:List Nat) (s:St),DI ops io bef n fr c0 N T0 listed done rest s ρ a w->dwp P Q io c0 rest s ->
  ∃done' rest' s',DI ops io bef n fr c0 N T0 listed done' rest' s' ρ a w/\dwp P Q io c0 rest' s'/\(rest'=[]\/∃e pend r,rest'=(e,some pend)::r)/\s'.c=s.c/\HS c0 listed done' s'=HS c0 listed done s:=by
 intro rest
 induction rest with
 |nil=>grind
 |cons x r ih =>
  intro done s hD h;obtain⟨i,k⟩:=x;cases k with
  |some pend=>grind
  |none =>
   have hck:=hD.ck;simp only[chk,A0G,A3H,A2L,A2Y,A1O,A0L]at hck;obtain⟨⟨⟨⟨⟨k1,k2⟩,k3⟩,k4⟩,k5⟩,k6⟩:=hck;have hin:i<n:=a8
   obtain⟨p,hp,hkind,hsolo⟩:=U8 k4;simp only[dwp,hp]at h;split at h
   case h_2=>exact h.elim
   rename_i v ob hfv;have hnl:¬Lst listed i:=λhl=>k2 (hD.lsub i hl);obtain⟨u1,u2⟩:=hD.und i hin k2;have hself:∀d,p.dst=some d->d ∉ p.sees:=by
    intro d hd hs;obtain⟨q,hq,h1, -⟩:=hsolo d hd i hin;rw[hp]at hq;cases hq;exact absurd (B5k hb hin (h1 hs)) (Nat.lt_irrefl _)
   have hT:∀t,p.dst≠some t->J3 s.T p.dst v t=s.T t:=by
    intro t ht;cases hd:p.dst with
    |none=>rfl
    |some d=>simp only[J3,Tm.upd];rw[if_neg (λe=>ht (by rw[hd,e]))]
   have hH:∀id b,s.H id=some b->A4d s.H (c0+i) ob id=some b:=by
    intro id b hb';cases ob with
    |none=>exact hb'
    |some b' =>
     simp only[A4d,Hp.upd];rw[if_neg]
     ·exact hb'
     ·rintro rfl;rw[u1]at hb';cases hb'
   have hHne:∀id,id≠c0+i->A4d s.H (c0+i) ob id=s.H id:=by
    intro id hid;cases ob with
    |none=>rfl
    |some b'=>simp only[A4d,Hp.upd];rw[if_neg hid]
   have hHi:A4d s.H (c0+i) ob (c0+i)=ob:=by
    cases ob with
    |none=>exact u1
    |some b'=>simp[A4d,Hp.upd]
   have hpend:∀j,Q7 listed (i::done) j↔j=i\/Q7 listed done j:=by
    intro j;unfold Q7;constructor
    ·rintro⟨h1,h2⟩;cases h1 with
     |head=>exact .inl rfl
     |tail _ h1=>exact .inr ⟨h1,h2⟩
    ·rintro(rfl|⟨h1,h2⟩)
     ·exact⟨A0H,hnl⟩
     ·exact⟨A0D _ h1,h2⟩
   have hdistinct:∀j,Q7 listed done j->∀q d,io[j]? = some q->q.dst=some d->p.dst≠some d:=by
    intro j hj q d hq hd hpd;obtain⟨q',hq', -,h2⟩:=hsolo d hpd j (hD.dlt j hj.1);rw[hq]at hq';cases hq';exact h2 (λe=>k2 (e▸hj.1)) hd
   have hts:TS io T0 listed (i::done) ⟨J3 s.T p.dst v,A4d s.H (c0+i) ob,s.c⟩=TS io T0 listed done s:=by
    funext t
    unfold TS;by_cases ht:p.dst=some t
    ·rw[if_pos ⟨i,(hpend i).2 (.inl rfl),p,hp,ht⟩,if_neg]
     ·exact(u2 k5 p t hp ht).symm
     ·rintro⟨j,hj,q,hq,hqd⟩;exact hdistinct j hj q t hq hqd ht
    ·have:(∃j,Q7 listed (i::done) j/\∃o,io[j]? = some o/\o.dst=some t)↔∃j,Q7 listed done j/\∃o,io[j]? = some o/\o.dst=some t:=by
      constructor
      ·rintro⟨j,hj,q,hq,hqd⟩;rcases(hpend j).1 hj with rfl|hj
       ·rw[hp]at hq;cases hq;exact absurd hqd ht
       ·exact⟨j,hj,q,hq,hqd⟩
      ·rintro⟨j,hj,q,hq,hqd⟩;exact⟨j,(hpend j).2 (.inr hj),q,hq,hqd⟩
     simp only[this,hT t ht]
   have hhs:HS c0 listed (i::done) ⟨J3 s.T p.dst v,A4d s.H (c0+i) ob,s.c⟩=HS c0 listed done s:=by
    funext id
    unfold HS;by_cases hid:id=c0+i
    ·subst hid;rw[if_pos ⟨i,(hpend i).2 (.inl rfl),rfl⟩];split
     ·rfl
     ·exact u1.symm
    ·have:(∃j,Q7 listed (i::done) j/\id=c0+j)↔∃j,Q7 listed done j/\id=c0+j:=by
      constructor
      ·rintro⟨j,hj,hj2⟩;rcases(hpend j).1 hj with rfl|hj
       ·exact absurd hj2 hid
       ·exact⟨j,hj,hj2⟩
      ·rintro⟨j,hj,hj2⟩;exact⟨j,(hpend j).2 (.inr hj),hj2⟩
     simp only[this,hHne id hid]
   have hag:∀j,Q7 listed (i::done) j->A5x io c0 ⟨J3 s.T p.dst v,A4d s.H (c0+i) ob,s.c⟩ j:=by
    intro j hj;rcases(hpend j).1 hj with rfl|hj
    ·unfold A5x;simp only[hp];have:=B4r (s:=s) (s':=⟨J3 s.T p.dst v,A4d s.H (c0+j) ob,s.c⟩) (o:=p) (λt ht=>(hT t (λe=>hself t e ht)).symm) hH hfv;rw[this];refine⟨λd hd=>?_,hHi⟩;rw[hd];simp[J3,Tm.upd]
    ·have h0:=hD.agn j hj;unfold A5x at h0 ⊢;split at h0
     ·rename_i q hq;split at h0
      ·rename_i v' ob' hv';have hnot:∀t∈q.sees,s.T t=J3 s.T p.dst v t:=by
        intro t ht;refine(hT t λe=>?_).symm;obtain⟨q',hq',h1, -⟩:=hsolo t e j (hD.dlt j hj.1);rw[hq]at hq';cases hq';exact k2 (A5v (X:=(· ∈ done)) hb hD.dcl j (hD.dlt j hj.1) (hD.dcl j hj.1) i (h1 ht))
       have:=B4r (s:=s) (s':=⟨J3 s.T p.dst v,A4d s.H (c0+i) ob,s.c⟩) (o:=q) hnot hH hv';simp only[this];refine⟨λd hd=>?_,?_⟩
       ·rw[hT d (λe=>hdistinct j hj q d hq hd e)];exact h0.1 d hd
       ·rw[hHne _ (λe=>k2 (by have:j=i:=(by omega);exact this▸hj.1))];exact h0.2
      ·exact h0.elim
     ·exact h0.elim
   have hDI:DI ops io bef n fr c0 N T0 listed (i::done) r ⟨J3 s.T p.dst v,A4d s.H (c0+i) ob,s.c⟩ ρ a w:=by
    refine⟨hD.lsz,k6,λj hj=>?_,λj hj=>?_,λj hj o e he1 he2 he3=>?_,hD.lcl,λj hj=>A0D _ (hD.lsub j hj),λj hj hjf=>?_,hD.fro,hag,by rw[hts];exact hD.tm,by rw[hhs];exact hD.rep,hD.frs,hD.frp,λj hj hjd=>?_,hD.cle,hD.sz,hD.dfr⟩
    ·rcases hD.cov j hj with h1|h1
     ·exact .inl (A0D _ h1)
     ·simp only[A0P]at h1;cases h1 with
      |head=>exact .inl A0H
      |tail _ h1=>exact .inr h1
    ·cases hj with
     |head=>exact hin
     |tail _ hj=>exact hD.dlt j hj
    ·cases hj with
     |head=>exact A0D _ ((M9 k1).1 o e he1 he2 he3)
     |tail _ hj=>exact A0D _ (hD.dcl j hj o e he1 he2 he3)
    ·cases hj with
     |head=>exact absurd k5 hjf
     |tail _ hj=>exact hD.eff j hj hjf
    ·have hjd':j ∉ done:=λh=>hjd (A0D _ h);have hji:j≠i:=λe=>hjd (e▸A0H);obtain⟨w1,w2⟩:=hD.und j hj hjd';refine⟨(hHne _ (by omega)).trans w1,λhjf o d ho hd=>?_⟩;refine(hT d ?_).trans ?_
     rotate_left
     ·exact w2 hjf o d ho hd
     ·intro hpd;obtain⟨q',hq', -,h2⟩:=hsolo d hpd j hj;rw[ho]at hq';cases hq';exact h2 hji hd
   grind
theorem D8o(hb:A2z ops bef n=true)(hn:n=ops.size)(hio:∀(i:Nat) (o:Oper),ops[i]? = some o->∃p,io[i]? = some p/\trO P N ops o=some p){Q':St->Prop}{e:Nat}{pend:List Nat}{r:List (Nat × Option (List Nat))}
  (hD:DI ops io bef n fr c0 N T0 listed done ((e,some pend)::r) s ρ a w) (hrd:A3a ops (Lst listed) e) (hdw:dwp P Q' io c0 ((e,some pend)::r) s) {Q:Exit->Act->World->Prop} {K:Act->World->Prop}
  (hK:∀ ρ' a' w' s',DI ops io bef n fr c0 N T0 (listed.setIfInBounds e true) (e::done) r s' ρ' a' w'->dwp P Q' io c0 r s' ->
   Ext ρ (HS c0 listed done s) w ρ' (HS c0 (listed.setIfInBounds e true) (e::done) s') w'->(∀id,id<c0 -> ρ'.nm id = ρ.nm id)->s.c<=s'.c ->
   (∀id,id<c0->HS c0 (listed.setIfInBounds e true) (e::done) s' id≠none->HS c0 listed done s id≠none)->K a' w') :
  wpOp P ops Q e K a w:=by
 have hck:=hD.ck;simp only[chk,A0G,A3H,A2L,A0R,A1H,A2Y,A1O,A0L]at hck;obtain⟨⟨⟨⟨⟨⟨⟨k1,k2⟩,k3⟩,k4⟩,k5⟩,k6⟩,k7⟩,k8⟩:=hck;have hen:e<n:=a8
 have hnl:¬Lst listed e:=λhl=>k2 (hD.lsub e hl);have hls:e<listed.size:=hD.lsz▸hen;obtain⟨o,ho⟩:∃o,ops[e]? = some o:=⟨ops[e]'(hn▸hen),by simp[hn▸hen]⟩;obtain⟨p,hp,htr⟩:=hio e o ho;have hsee:=C7d hb hD hen hrd hp;obtain⟨hev,hwt⟩:=A7y (o:=p) (T:=TS io T0 listed done s) (T':=s.T) hsee;simp only[dwp,hp]at hdw
 have hpd:∀j,Q7 listed done j->j∈pend/\j∈fr:=by
  intro j hj;rcases k5 j hj.1 with h1|h1
  ·exact absurd (A5v hb hD.lcl e hen hrd j h1) hj.2
  ·exact⟨h1.2,h1.1⟩
 generalize hks:(pend.filter (isNew io)).map (c0 + ·)=ks at hdw;have hksmem:∀id,id∈ks↔∃j,j∈pend/\isNew io j=true/\id=c0+j:=by
  intro id;rw[<- hks];simp only[A0X,List.mem_filter];constructor
  ·rintro⟨j,⟨h1,h2⟩,rfl⟩;exact⟨j,h1,h2,rfl⟩
  ·rintro⟨j,h1,h2,rfl⟩;exact⟨j,⟨h1,h2⟩,rfl⟩
 have hnew:∀j,Q7 listed done j->isNew io j=false->s.H (c0+j)=none:=by
  intro j hj hnew;have h0:=hD.agn j hj;unfold A5x at h0;split at h0
  ·rename_i q hq;split at h0
   ·rename_i v ob hv;rw[h0.2];unfold A4x at hv;unfold isNew at hnew;rw[hq]at hnew;split at hv
    ·cases hv;rfl
    ·split at hv
     ·split at hv
      ·cases hv;rfl
      ·cases hv
     ·rename_i f hf;obtain⟨d1,op1,g1⟩:=q;simp only at hf;subst hf;simp at hnew
     ·split at hv
      ·cases hv;rfl
      ·cases hv
     ·cases hv
    ·cases hv
   ·exact h0.elim
  ·exact h0.elim
 have hhide:∀id,K3 s.H ks id=none\/K3 s.H ks id=HS c0 listed done s id:=by
  intro id;unfold K3 HS;by_cases hid:id∈ks
  ·rw[if_pos hid];exact .inl rfl
  ·rw[if_neg hid];split
   ·rename_i hex;obtain⟨j,hj,rfl⟩:=hex;left;refine hnew j hj ?_;cases hc:isNew io j with
    |false=>rfl
    |true=>exact absurd ((hksmem _).2 ⟨j,(hpd j hj).1,hc,rfl⟩) hid
   ·exact .inr rfl
 have hS0:Sim N ρ ⟨TS io T0 listed done s,K3 s.H ks,s.c⟩ a w:=⟨hD.tm,hD.rep.less hhide,hD.frs,hD.sz,hD.dfr⟩;unfold trO at htr;split at htr
 case h_2=>cases htr
 rename_i op g hop hg hd;cases htr;have hpend':∀j,Q7 (listed.setIfInBounds e true) (e::done) j↔Q7 listed done j:=by
  intro j;unfold Q7;rw[Y6 hls];constructor
  ·rintro⟨h1,h2⟩;cases h1 with
   |head=>exact absurd (.inl rfl) h2
   |tail _ h1=>exact⟨h1,λh=>h2 (.inr h)⟩
  ·rintro⟨h1,h2⟩;exact⟨A0D _ h1,λh=>h.elim (λh3=>k2 (h3▸h1)) h2⟩
 have fin:∀v v' H' c' ρ' w',(A1g io c0 ⟨J3 s.T o.dst v,O9 ks s.H H',c'⟩ pend/\dwp P Q' io c0 r ⟨J3 s.T o.dst v,O9 ks s.H H',c'⟩)->Did ρ (K3 s.H ks) s.c w v' w' v H' c' ρ'->K (a.put o.dst v') w':=by
  intro v v' H' c' ρ' w' ⟨hag,hdw'⟩ d;obtain⟨X,hX⟩:∃X:Nat->Prop, ∀id,X id↔(id∈ks/\¬ ∃j,Q7 listed done j/\id=c0+j):=⟨_,λ_=>Iff.rfl⟩;have hfr2:=hD.rep.frame (H1:=K3 s.H ks) hhide d (X:=X) (λid hx=>by unfold K3;rw[if_pos ((hX id).1 hx).1]);obtain⟨hr2,hx2⟩:=hfr2;have hless:∀id,HS c0 (listed.setIfInBounds e true) (e::done) ⟨J3 s.T o.dst v,O9 ks s.H H',c'⟩ id=none \/
    HS c0 (listed.setIfInBounds e true) (e::done) ⟨J3 s.T o.dst v,O9 ks s.H H',c'⟩ id=(if X id then HS c0 listed done s id else H' id):=by
   intro id;unfold HS;simp only[hpend'];by_cases hex:∃j,Q7 listed done j/\id=c0+j
   ·rw[if_pos hex];exact .inl rfl
   ·right;rw[if_neg hex];unfold O9;by_cases hid:id∈ks
    ·rw[if_pos ((hX id).2 ⟨hid,hex⟩),if_neg hex];simp only[hid,if_true]
    ·rw[if_neg (λh=>hid ((hX id).1 h).1)];simp only[hid,if_false]
  have hrep:=hr2.less hless;refine hK ρ' _ w' ⟨J3 s.T o.dst v,O9 ks s.H H',c'⟩ ?_ hdw' ?_ ?_ d.up ?_
  ·refine⟨by simpa using hD.lsz,k8,λj hj=>?_,λj hj=>?_,λj hj o' e' he1 he2 he3=>?_,λj hj=>?_,λj hj=>?_,λj hj hjf=>?_,hD.fro,λj hj=>?_,?_,hrep,d.fresh,λj hj hnl'=>?_,λj hj hjd=>?_,A1B hD.cle d.up,
    (A1v _ _ _).trans hD.sz,(W4 _ _ _).trans hD.dfr⟩
   ·rcases hD.cov j hj with h1|h1
    ·exact .inl (A0D _ h1)
    ·simp only[A0P]at h1;cases h1 with
     |head=>exact .inl A0H
     |tail _ h1=>exact .inr h1
   ·cases hj with
    |head=>exact hen
    |tail _ hj=>exact hD.dlt j hj
   ·cases hj with
    |head=>exact A0D _ ((M9 k1).1 o' e' he1 he2 he3)
    |tail _ hj=>exact A0D _ (hD.dcl j hj o' e' he1 he2 he3)
   ·intro o' e' he1 he2 he3;rw[Y6 hls]at hj ⊢;rcases hj with rfl|hj
    ·exact .inr (hrd o' e' he1 he2 he3)
    ·exact .inr (hD.lcl j hj o' e' he1 he2 he3)
   ·rw[Y6 hls]at hj;rcases hj with rfl|hj
    ·exact A0H
    ·exact A0D _ (hD.lsub j hj)
   ·rw[Y6 hls];cases hj with
    |head=>exact .inl rfl
    |tail _ hj=>exact .inr (hD.eff j hj hjf)
   ·exact B5n hag j (hpd j ((hpend' j).1 hj)).1
   ·have hts:∀t,TS io T0 (listed.setIfInBounds e true) (e::done) ⟨J3 s.T o.dst v,O9 ks s.H H',c'⟩ t=J3 (TS io T0 listed done s) o.dst v t:=by
     intro t;unfold TS;simp only[hpend'];by_cases hex:∃j,Q7 listed done j/\∃o,io[j]? = some o/\o.dst=some t
     ·rw[if_pos hex];have hne:o.dst≠some t:=by
       obtain⟨j,hj,q,hq,hqd⟩:=hex;obtain⟨q',hq', -,h2⟩:=U8 (hD.fro j (hpd j hj).2);rw[hq]at hq';cases hq';obtain⟨p',hp', -,h3⟩:=h2 t hqd e hen;rw[hp]at hp';cases hp';exact h3 (λh=>k2 (h▸hj.1))
      cases hdd:o.dst with
      |none=>simp only[J3];rw[if_pos hex]
      |some dd =>
       have:t≠dd:=λh=>hne (by rw[hdd,h]);simp only[J3,Tm.upd,this,if_false];rw[if_pos hex]
     ·rw[if_neg hex];cases hdd:o.dst with
      |none=>simp only[J3];rw[if_neg hex]
      |some dd =>
       by_cases ht:t=dd
       ·simp only[J3,Tm.upd,ht,if_true]
       ·simp only[J3,Tm.upd,ht,if_false];rw[if_neg hex]
    have h2:=(hD.tm.mono d.ext.le).putO (d:=o.dst) (by rw[hD.sz];exact hd) d.val;intro t;rw[hts t];exact h2 t
   ·rw[Y6 hls]at hnl';rw[d.same (c0+j) (by have:=hD.cle;omega)];exact hD.frp j hj (λh=>hnl' (.inr h))
   ·have hjd':j ∉ done:=λh=>hjd (A0D _ h);have hje:j≠e:=λh=>hjd (h▸A0H);obtain⟨w1,w2⟩:=hD.und j hj hjd';have hnk:c0+j ∉ ks:=by
     intro hk;obtain⟨i,hi, -,he⟩:=(hksmem _).1 hk;have:j=i:=a8
     exact hjd' (this▸(k7 i hi).1)
    refine⟨?_,λhjf q dd hq hqd=>?_⟩
    ·simp only[O9,hnk,if_false];refine Classical.byContradiction λhne=>?_;have:=d.dom (c0+j) (by have:=hD.cle;omega) hne;unfold K3 at this;rw[if_neg hnk]at this;exact this w1
    ·obtain⟨q',hq', -,h2⟩:=U8 (hD.fro j hjf);rw[hq]at hq';cases hq';obtain⟨p',hp', -,h3⟩:=h2 dd hqd e hen;rw[hp]at hp';cases hp';have hne:o.dst≠some dd:=h3 (Ne.symm hje);cases hdd:o.dst with
     |none=>exact w2 hjf q dd hq hqd
     |some d2 =>
      have:dd≠d2:=λh=>hne (by rw[hdd,h]);simp only[J3,Tm.upd,this,if_false];exact w2 hjf q dd hq hqd
  ·refine⟨hx2.le,hx2.os,hx2.tape,hx2.output,hx2.size,hx2.keep,λid b t h1 h2=>?_,hx2.fzn,hx2.fmn⟩;rcases hless id with h0|h0
   ·rw[h0]at h1;cases h1
   ·rw[h0]at h1;exact hx2.mine id b t h1 h2
  ·intro id hid;exact d.same id (by have:=hD.cle;omega)
  ·intro id hid hne;have hno:¬ ∃j,Q7 listed done j/\id=c0+j:=by rintro⟨j, -,rfl⟩;omega
   have hnk:id ∉ ks:=by
    intro hk;obtain⟨i,hi, -,he⟩:=(hksmem _).1 hk;omega
   unfold HS at hne ⊢;simp only[hpend']at hne;rw[if_neg hno]at hne ⊢;simp only[O9,hnk,if_false]at hne;have:=d.dom id (by have:=hD.cle;omega) hne;unfold K3 at this
   rwa [if_neg hnk]at this
 unfold wpOp;simp only[ho];unfold C2p at hdw;simp only[]at hdw hwt hev;rw[<- hwt]at hdw;split at hdw
 ·rename_i hw;rw[A3m hS0 hg rfl hw,if_pos rfl];left;rw[<- C4r (T':=TS io T0 listed done s) (λx hx=>(hev x hx).symm)]at hdw;exact B0h hS0 hop hdw λv v' H' c' ρ' w' hk d=>fin v v' H' c' ρ' w' hk d
 ·rename_i hw;rw[A3m hS0 hg rfl hw,if_neg A4D];exact fin (.tup []) undef _ s.c ρ w hdw ⟨A5z ρ,hS0.rep,hD.frs,A0E _,λ_ _ h=>h,λ_ _=>rfl,Ext.refl _ _ _⟩
 grind
end
end Go.Sym
end

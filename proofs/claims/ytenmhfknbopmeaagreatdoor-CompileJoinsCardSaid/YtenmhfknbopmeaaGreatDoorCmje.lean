/-
  HELPERS of the claim: part 5 of its texts.
-/
import Derived.Test.YtenmhfknbopmeaaGreatDoorCmjd
noncomputable section
set_option linter.unusedVariables false
set_option linter.unusedSectionVars false
set_option linter.unusedSimpArgs false
namespace Go.Sym
variable [Go.Sym.Tab]
open Go.Eng (E6)
open Go.RowKit
variable {P:Program}
theorem PC.of_callsF{f:Nat}{args:List DV}{r:DV}(hc:E6 P f=true)(na:DV.nlL args=true)(nr:r.nl=true)
  (h:∀ (ρ : Ren) (w:World) (vs:Array Value),(∀ b r, ρ.fz b=some r->∃ e fr,w.heap[b]? = some (.cells r e fr))->D4 ρ args vs ->
   Calls P f vs w fun e w' => ∃ v' b row ty fr,e=.returned v'/\w.heap.size<=b/\w'.heap[b]? = some (.cells row ty fr)/\(∀ ρ':Ren, ρ'.fz b=some row->VRel ρ' r v')/\Below w.heap.size w w'):PC P f args r:=by
 refine⟨na,nr,hc,fun ρ w vs hR hf hA=>?_⟩;refine (h ρ w vs hR.frz hA).mono ?_;rintro e w' ⟨v',b,row,ty,fr,rfl,hb,hrow,hv,b1,b2,b3,b4,b5⟩;have hnone : ρ.fz b=none:=by
  cases hz : ρ.fz b with
  |none=>rfl
  |some r=>have:=hR.flt hz;omega
 have hfz:(ρ.frz b row hnone).fz b=some row:=by simp[Ren.frz]
 refine⟨r,v',nil,0, ρ.frz b row hnone,rfl,rfl,hv _ hfz,⟨fun id b h=>(by cases h),fun i j bi bj ti tj h=>(by cases h),fun k r' hk=>?_,fun id b t h=>(by cases h),fun k r' hk=>⟨?_,fun id b t h=>(by cases h)⟩⟩,hf,A0C _,fun id hid h=>absurd rfl h,fun _ _=>rfl,
  ⟨Ren.le_frz hnone,b1,b2,b3,b4,fun k hk _=>b5 k hk,fun id b t h1=>(by cases h1),fun k r' hk=>?_,fun k r h=>.inl h⟩⟩
 ·simp only[Ren.frz]at hk;split at hk
  ·grind
  ·obtain⟨e,fr,h1⟩:=hR.frz k r' hk
   grind
 ·obtain⟨⟨cl,h1,hst⟩, -⟩:=hR.frm k r' hk
  grind
 ·simp only[Ren.frz]at hk
  grind
theorem VRel.strs{ρ : Ren}{l:List (List UInt8)}{b n c:Nat}(h : ρ.fz b=some ((l.map fun s=>Value.string ⟨s.toArray⟩).toArray))(hn:n=l.length)(hc:n<=c)(hm:c<=maxLen):
  VRel ρ (.lst (l.map DV.str)) (.slice (some ⟨b,0,none⟩) n c):=by
 have hcl:cellsL (l.map DV.str)=l.map DV.str:=by
  clear h hn
  induction l with
  |nil=>rfl
  |cons x r ih =>
   have:cellsL ((x :: r).map DV.str)=[DV.str x]++cellsL (r.map DV.str):=rfl
   grind
 refine .lst _ n 1 b 0 c _ h (by grind) hc hm (fun x hx=>by obtain⟨y, -,rfl⟩:=A1C.1 hx;rfl) ?_ ?_ ?_
 ·grind
 ·rw[hcl];intro d hd;obtain⟨y, -,rfl⟩:=A1C.1 hd;rfl
 ·rw[hcl];intro k d v hd hv;rw[A1P]at hd;obtain⟨s,hs,rfl⟩:=A0H.1 hd;simp only[A0Z,A1N,A1P,hs,A2R,Option.some.injEq]at hv;subst hv;exact .mkStr
end Go.Sym
namespace Go.Pb
variable [Go.Sym.Tab]
open Go.Sym
variable {nm:List UInt8->Int}
def A0r(nm:List UInt8->Int)(s:St)(x:Cg):Cg:=(x.1++(cgS nm x.1.length x.2 s).1,(cgS nm x.1.length x.2 s).2)
def I8(nm:List UInt8->Int)(l:List St)(x:Cg):Cg:=(x.1++(cgB nm x.1.length x.2 l).1,(cgB nm x.1.length x.2 l).2)
theorem V3(x:Cg):I8 nm [] x=x:=by simp[I8,cgB]
theorem A2u(s:St)(l:List St)(x:Cg):I8 nm (s :: l) x=I8 nm l (A0r nm s x):=by
 unfold I8 A0r;rw[cgB];simp
theorem Z5:∀ (a b:List St) (x:Cg),I8 nm (a++b) x=I8 nm b (I8 nm a x)
 |[],b,x=>by rw[V3];rfl
 |s :: a,b,x=>by rw[A0W,A2u,A2u,Z5 a b]
theorem B9u{l:List St}{k:Nat}{s:St}(h:l[k]? = some s)(x:Cg):I8 nm (l.take (k+1)) x=A0r nm s (I8 nm (l.take k) x):=by
 rw[A1F,h,Z5];show I8 nm [s] _=_;rw[A2u,V3]
def B5k(x y:Cg):Prop:=x.1.length<=y.1.length/\x.2.length<=y.2.length
theorem C8k(l:List St)(x:Cg):B5k x (I8 nm l x):=⟨by simp[I8],Z6 nm l _ _⟩
theorem C8j(s:St)(x:Cg):B5k x (A0r nm s x):=⟨by simp[A0r],C4s nm s _ _⟩
theorem B9t(l:List St)(k:Nat)(x:Cg):B5k (I8 nm (l.take k) x) (I8 nm l x):=by
 have h:=Z5 (nm:=nm) (l.take k) (l.drop k) x;rw[A1V]at h;rw[h];exact C8k _ _
def CgB(x:Cg):Prop:=x.1.length<=99999999/\x.2.length<=99999999
theorem B5k.bnd{x y:Cg}(h:B5k x y)(hy:CgB y):CgB x:=⟨A0X h.1 hy.1,A0X h.2 hy.2⟩
section
variable {k:Int} {n t:List UInt8} {a:List Ex} {u v:List St} {q:Int} {x x1:Cg}
theorem B2p(h1:x1=(x.1++C8 nm a,x.2))(hv:v.length=0):A0r nm (.mk 2 n t a u v q) x =
  (x1.1++⟨13,((x1.1++(⟨13,0⟩:Ins) :: (cgB nm (x1.1.length+1) x1.2 u).1).length:Int)⟩ :: (cgB nm (x1.1.length+1) x1.2 u).1,(cgB nm (x1.1.length+1) x1.2 u).2):=by
 subst h1;unfold A0r;rw[cgS,if_pos rfl,if_pos hv]
 grind
theorem B2o(h1:x1=(x.1++C8 nm a,x.2))(hv:¬ v.length=0){T:Cg}(hT:T=cgB nm (x1.1.length+1) x1.2 u){W:Cg}(hW:W=cgB nm (x1.1.length+1+T.1.length+1) T.2 v):A0r nm (.mk 2 n t a u v q) x =
  ((x1.1++⟨13,((x1.1.length+1+T.1.length+1:Nat):Int)⟩ :: T.1)++⟨12,((x1.1.length+1+T.1.length+1+W.1.length:Nat):Int)⟩ :: W.1,W.2):=by
 subst hW hT h1;unfold A0r;rw[cgS,if_pos rfl,if_neg hv];simp
theorem B2m(h1:x1=(x.1++C8 nm a,x.2)){T:Cg}(hT:T=cgB nm (x1.1.length+1) x1.2 u):A0r nm (.mk 3 n t a u v q) x =
  (x1.1++⟨14,((x1.1.length+1+T.1.length+1:Nat):Int)⟩ :: (T.1++[⟨12,(x1.1.length:Int)⟩]),T.2):=by
 subst hT h1;unfold A0r;rw[cgS,if_neg (by decide),if_pos rfl];simp
theorem B2l(h1:x1=(x.1++C8 nm a,x.2)):A0r nm (.mk 18 n t a u v q) x=(x1.1++[⟨29,((txS x1.2 t).1:Int)⟩],(txS x1.2 t).2):=by
 subst h1;unfold A0r;rw[cgS,if_neg (by decide),if_neg (by decide),if_pos rfl];simp
theorem B2n(h1:x1=(x.1++C8 nm a,x.2))(h2:¬ k=2)(h3:¬ k=3)(h18:¬ k=18):A0r nm (.mk k n t a u v q) x=(x1.1++[⟨Pb.stOp k,nm n⟩],x1.2):=by
 subst h1;unfold A0r;rw[cgS,if_neg h2,if_neg h3,if_neg h18];simp
theorem B9s(s:St)(x:Cg):B5k (x.1++C8 nm s.args,x.2) (A0r nm s x):=by
 obtain⟨k,n,t,a,u,v,q⟩:=s;refine⟨?_,show x.2.length<=_ from (C8j _ _).2⟩;simp only[St.args];by_cases h2:k=2
 ·subst h2;by_cases hv:v.length=0
  ·rw[B2p rfl hv];simp
  ·rw[B2o rfl hv rfl rfl];simp
 ·by_cases h3:k=3
  ·subst h3;rw[B2m rfl rfl];simp
  ·by_cases h18:k=18
   ·subst h18;rw[B2l rfl];simp
   ·rw[B2n rfl h2 h3 h18];simp
end
section
variable {H0:Hp} {t c i d:Nat} {b:Option Nat} {mk:DV->DV->List DV} {l r:List Ins} {S:List (List UInt8)} {op k z:Int}
end
end Go.Pb
namespace Go.Sym
variable [Go.Sym.Tab]
variable {P:Program}
theorem AC.own{f:Nat}{args:List DV}{V:Nat->DV}{u:Nat}{cs:List DV}(h:AC P f args nil 0 (fun v H' _ => ∃ id,v=V id/\H'=nil.upd id ⟨u,true,cs⟩))(hn:DV.nlL args=true)(hcs:∀ d∈cs,d.nl=true)
  (hV:∀ (ρ ρ':Ren) (id id':Nat) (v:Value), ρ.nm id = ρ'.nm id'->((∀ b r, ρ.fz b=some r -> ρ'.fz b=some r)/\∀ b r, ρ.fm b=some r -> ρ'.fm b=some r)->VRel ρ (V id) v->VRel ρ' (V id') v) (H:Hp) (c:Nat) :
  AC P f args H c (fun v H' c'=>v=V c/\H'=H.upd c ⟨u,true,cs⟩/\c'=c+1):=by
 refine⟨h.1,fun ρ w vs hR hf hA=>?_⟩;refine (h.2 ⟨fun _=>none, ρ.fz, ρ.tab, ρ.fm⟩ w vs hR.nil (fun _ _=>rfl) (hA.nl (ρ := ρ) (ρ':=⟨fun _=>none, ρ.fz, ρ.tab, ρ.fm⟩) (fun _ _ h=>h) (fun _ _ h=>h) hn)).mono ?_;rintro e w' ⟨v,v',H1,c1, ρ1,rfl,⟨id,rfl,rfl⟩,d⟩;have hb:=d.ext.below (fun id b hb=>by cases hb);obtain⟨b1,b2,b3,b4,b5⟩:=hb;obtain⟨t,ht,hbr⟩:=d.rep.blk id _ h_same;have hsz:w.heap.size<=t.block:=by
  rcases d.ext.mine id _ t h_same ht with h1|⟨i,b0,t0,e1, -⟩
  ·exact h1
  trivial
 obtain⟨ρ2,hρ⟩:∃ ρ2:Ren, ρ2=⟨fun j=>if j=c then some t else ρ.nm j, ρ1.fz, ρ1.tab, ρ1.fm⟩:=⟨_,rfl⟩;have n1 : ρ2.nm c=some t:=by simp_all
 have n2:∀ {j},¬ j=c -> ρ2.nm j = ρ.nm j:=fun {j} hj=>by simp_all
 have n3 : ρ2.fz = ρ1.fz:=by grind
 have n4 : ρ2.fm = ρ1.fm:=by grind
 have hle : ρ.le ρ2:=⟨fun j x hj=>by
  grind,fun b r hb=>by rw[n3];exact d.ext.le.fz b r hb,fun b r hb=>by rw[n4];exact d.ext.le.fm b r hb⟩
 refine⟨V c,v',_,_, ρ2,rfl,⟨rfl,rfl,rfl⟩,hV ρ1 ρ2 id c v' (by grind) ⟨fun b r hb=>by grind,fun b r hb=>by grind⟩ d.val,?_,fun j hj=>by grind,by omega,
  fun j hj hne=>by rw[hnO]at hne;omega,fun j hj=>n2 (by omega),?_⟩
 ·refine⟨fun j b hb=>?_,fun i j bi bj ti tj hi hj hij h1 h2 ho=>?_,by rw[n3];exact d.rep.frz,fun j b t2 hb ho ht2=>?_,fun k es hk=>?_⟩
  ·by_cases e:j=c
   ·subst e;rw[h_same]at hb;cases hb;refine⟨t,n1,?_⟩;rcases hbr with ⟨gm,c0,e0,fr,g1,g2,g3,g4,g5,g6⟩|⟨-, -, -,es,cl,kd,ks,vs', -,g2, -⟩
    case inr =>
     simp only at g2;subst g2;have:=hcs _ A0I
     trivial
    refine .inl ⟨gm,c0,e0,fr,g1,g2,g3,g4,fun i x hx=>?_,g6⟩;obtain⟨q1,x',q2,q3⟩:=g5 i x hx;exact⟨q1,x',q2,q3.nl (ρ := ρ1) (ρ' := ρ2) (fun b r hb=>by grind) (fun b r hb=>by grind) (hcs x (A0O hx))⟩
   ·rw[h_ne e]at hb;obtain⟨t2,ht2,hb2⟩:=hR.blk j b hb;exact⟨t2,by grind,(hb2.mono hle).world (b5 _ hb2.lt)⟩
  ·by_cases e1:i=c
   ·subst e1;have e2:¬ j=i:=fun e=>hij e.symm;rw[h_ne e2]at hj;rw[n1]at h1;cases h1;rw[n2 e2]at h2;have:=(hR.blk j bj hj);obtain⟨t2,ht2,hb2⟩:=this;rw[h2]at ht2;cases ht2;have:=hb2.lt;omega
   ·rw[h_ne e1]at hi;rw[n2 e1]at h1;by_cases e2:j=c
    ·subst e2;rw[n1]at h2;cases h2;obtain⟨t2,ht2,hb2⟩:=hR.blk i bi hi;rw[h1]at ht2;cases ht2;have:=hb2.lt;omega
    ·rw[h_ne e2]at hj;rw[n2 e2]at h2;exact hR.sep i j bi bj ti tj hi hj hij h1 h2 ho
  ·rw[n3];by_cases e:j=c
   ·subst e;rw[h_same]at hb;cases hb;rw[n1]at ht2;cases ht2;exact d.rep.dis id _ t h_same rfl ht
   ·rw[h_ne e]at hb;rw[n2 e]at ht2;cases hf1 : ρ1.fz t2.block with
    |none=>rfl
    |some r =>
     rcases d.ext.fzn _ _ hf1 with h1|h1|⟨i,b0,t0,e1, -⟩
     ·rw[hR.dis j b t2 hb ho ht2]at h1;cases h1
     ·have:=(hR.lookb hb ht2).lt;omega
     trivial
  ·rw[n4]at hk;refine⟨(d.rep.frm k es hk).1,fun j b t2 hb ho ht2=>?_⟩;by_cases e:j=c
   ·subst e;rw[h_same]at hb;cases hb;rw[n1]at ht2;cases ht2;exact (d.rep.frm k es hk).2 id _ t h_same rfl ht
   ·rw[h_ne e]at hb;rw[n2 e]at ht2;rcases d.ext.fmn _ _ hk with h1|h1|⟨i,b0,t0,e1, -⟩
    ·exact (hR.frm k es h1).2 j b t2 hb ho ht2
    ·have:=(hR.lookb hb ht2).lt;omega
    trivial
 ·refine⟨hle,b1,b2,b3,b4,fun k hk _=>b5 k hk,fun j b t2 h1 h2=>?_,fun k r hk=>?_,fun k r hk=>?_⟩
  ·by_cases e:j=c
   ·grind
   ·rw[h_ne e]at h1
    grind
  ·rw[n3]at hk;rcases d.ext.fzn k r hk with h1|h1|⟨i,b0,t0,e1, -⟩
   ·exact .inl h1
   ·exact .inr (.inl h1)
   trivial
  ·rw[n4]at hk;rcases d.ext.fmn k r hk with h1|h1|⟨i,b0,t0,e1, -⟩
   ·exact .inl h1
   ·exact .inr (.inl h1)
   trivial
section
open Go.Eng (IC)
variable {N:Nat} {x:IC} {T:Tm} {H:Hp} {c:Nat} {Q:Exit->St->Prop}
theorem IW.gl{s:St}(h:IW P N x s (fun e s'=>Q e s'\/∃ (ks:List Nat) (ds':List DV) (H2:Hp),GL s'.H (ks.map s'.T) H2 ds'/\Q e ⟨tm (ks.zip ds'),H2,s'.c⟩)):IW P N x s Q:=by
 intro hm cd hc ρ a w hS;refine wp_mono (h hm cd hc ρ a w hS) fun e a' w' hq=>?_;obtain⟨ρ2,s2,q,hS2,hst⟩:=hq;rcases q with q|⟨ks,ds',H2,g,q⟩
 ·exact⟨ρ2,s2,q,hS2,hst⟩
 have hA:D4 ρ2 (ks.map s2.T) ((ks.map fun k=>a'.tmps.getD k undef)).toArray:=by
  refine⟨by simp,fun i x y hx hy=>?_⟩;simp only[A1P,A0H,A1N]at hx hy;obtain⟨k,hk,rfl⟩:=hx;obtain⟨k',hk',rfl⟩:=hy;rw[hk]at hk';cases hk';exact hS2.tm k
 obtain⟨ρ1,e1,r1,a1,x1⟩:=g.2 ρ2 w' _ hS2.rep hA;refine⟨ρ1,⟨tm (ks.zip ds'),H2,s2.c⟩,q,⟨C0u fun i k d hk hd=>a1.2 i d _ hd (by grind),r1,by rw[e1];exact hS2.fresh,hS2.size,hS2.dfr⟩,?_⟩;exact⟨hst.up,fun id hid hne=>hst.dom id hid (g.1 id hne),fun id hid=>by rw[e1];exact hst.same id hid,hst.ext.trans x1⟩
theorem B0d:∀ {L:List (Nat × DV)} {T:Tm},B9 L T->(L.map Prod.fst).map T=L.map Prod.snd
 |[],_,_=>rfl
 |(k,v) :: r,T,⟨h1,h2⟩=>by simp only[A0R,h1,B0d h2]
theorem D0d(L:List (Nat × DV)):(L.map Prod.fst).zip (L.map Prod.snd)=L:=by
 induction L with
 |nil=>rfl
 |cons a r ih=>grind
def lpG{σ : Type}(L : σ -> List (Nat × DV))(h : σ -> Hp)(I : σ -> Nat->Prop)(μ : σ -> Nat)(m:Nat)(Q:Exit->St->Prop):Exit->St->Prop
 |.normal,⟨T,H,c⟩ => ∃ b,B9 (L b) T/\GL H ((L b).map Prod.snd) (h b) ((L b).map Prod.snd)/\I b c /\ μ b<m
 |e,s=>Q e s
theorem C7t{σ : Type}(L : σ -> List (Nat × DV))(h : σ -> Hp)(I : σ -> Nat->Prop)(μ : σ -> Nat)(a : σ)(hL:∀ b,B9 (L b) (tm (L b)))(h0:B9 (L a) T)(hH:Sub (h a) H)(hI:I a c)
  (step:∀ a c,I a c->IW P N x ⟨tm (L a),h a,c⟩ (lpG L h I μ (μ a) Q)):IW P N (.loop x) ⟨T,H,c⟩ Q:=by
 refine B6 L h I μ a h0 hH hI fun a c hI=>IW.gl ((step a c hI).mono fun e s' q=>?_);obtain⟨T',H',c'⟩:=s';cases e with
 |normal =>
  obtain⟨b,q1,q2,q3,q4⟩:=q;refine .inr ⟨(L b).map Prod.fst,(L b).map Prod.snd,h b,by rw[B0d q1];omega,?_⟩;rw[D0d];exact⟨b,hL b,Sub.refl _,q3,q4⟩
 |_=>exact .inl q
theorem D7d{σ : Type}{L : σ -> List (Nat × DV)}{h : σ -> Hp}{I : σ -> Nat->Prop}{μ : σ -> Nat}{m:Nat}:lpG L h I μ m Q .normal ⟨T,H,c⟩ = ∃ b,B9 (L b) T/\GL H ((L b).map Prod.snd) (h b) ((L b).map Prod.snd)/\B5h I b c /\ μ b<m:=propext Iff.rfl
theorem D7c{σ : Type}{L : σ -> List (Nat × DV)}{h : σ -> Hp}{I : σ -> Nat->Prop}{μ : σ -> Nat}{m:Nat}:lpG L h I μ m Q .ret ⟨T,H,c⟩=Q .ret ⟨T,H,c⟩:=propext Iff.rfl
end
section
open Go.Eng (AOp)
variable {c0:Nat} {T:Tm} {H:Hp}
def agN(T:Tm)(H:Hp)(d n:Nat):Option (Option Nat × Blk)->Prop
 |some (k,b)=>T d=mkv n k/\H n=some b
 |none=>False
theorem D9k{j d:Nat}{f:AOp}:agK c0 j T H (some d) (.new f) (some true)=agN T H d (c0+j) (aev (ev T) f):=by
 simp only[agK,agN]
 grind
theorem D9l{d n:Nat}{k:Option Nat}{b:Blk}:agN T H d n (some (k,b))=(T d=mkv n k/\H n=some b):=propext Iff.rfl
end
attribute [go_sem] D9k D9l
attribute [go_sem] D7d D7c
end Go.Sym
namespace Go.Pb
variable [Go.Sym.Tab]
open Go.Sym
abbrev NmL:=List (List UInt8 × (Int × Int))
def inL(l:NmL):List (List UInt8 × DV):=l.map fun p=>(p.1,I64 p.2.2)
theorem U8(n:List UInt8):∀ l:NmL,(inL l).lookup n=(l.lookup n).map fun q=>I64 q.2
 |[]=>rfl
 |p :: l=>by
  simp only[inL,A0R,List.lookup];cases n == p.1 with
  |true=>rfl
  |false=>exact U8 n l
abbrev A5a(l:NmL):Blk:=⟨0,true,[.mpc .s (mkK (inL l)) (mvV (inL l))]⟩
abbrev bgC(o2:Option Nat)(ps:List Int)(o:Option Nat)(vs:List Int)(t n:Int)(m:DV):List DV:=[.snil,.snil,.snil,todoV o2 ps.length,todoV o vs.length,I64 t,I64 n,m]
def bgM(D:List Dc)(M:List Md)(l:NmL)(a:List (Int × Nat))(o2:Option Nat)(ps:List Int)(o:Option Nat)(vs:List Int):Hp :=
 optH (optH ((((nil.upd 0 ⟨0,true,[F7 D,E4 M]⟩).upd 1 (A5a l)).upd 2 ⟨0,true,bgC o2 ps o vs 0 0 (.mid 1)⟩).upd 3 ⟨0,true,[.mpc (.i .i64) (ahK a) (ahV a)]⟩) o2 ⟨1,true,ps.map I64⟩) o ⟨1,true,vs.map I64⟩
structure BN (o2:Option Nat) (ps:List Int) (o:Option Nat) (vs:List Int) (c:Nat):Prop where
 c4:4<=c
 h2:∀ i,o2=some i->4<=i/\i<c
 ho:∀ i,o=some i->4<=i/\i<c
 ne:∀ i j,o2=some i->o=some j->i≠j
 n2:o2=none->ps=[]
 no:o=none->vs=[]
section
variable {D:List Dc} {M:List Md} {l:NmL} {a:List (Int × Nat)} {o2 o:Option Nat} {ps vs:List Int} {c:Nat} {X:Hp}
theorem B7u(h:BN o2 ps o vs c){j:Nat}(hj:j<4):bgM D M l a o2 ps o vs j=((((nil.upd 0 ⟨0,true,[F7 D,E4 M]⟩).upd 1 (A5a l)).upd 2 ⟨0,true,bgC o2 ps o vs 0 0 (.mid 1)⟩).upd 3 ⟨0,true,[.mpc (.i .i64) (ahK a) (ahV a)]⟩) j:=by
 rw[bgM,B1 (fun i hi=>by have:=h.ho i hi;omega),B1 (fun i hi=>by have:=h.h2 i hi;omega)]
theorem bg0(h:BN o2 ps o vs c):bgM D M l a o2 ps o vs 0=some ⟨0,true,[F7 D,E4 M]⟩:=by rw[B7u h (by simp)];rfl
theorem bg1(h:BN o2 ps o vs c):bgM D M l a o2 ps o vs 1=some (A5a l):=by rw[B7u h (by simp)];rfl
theorem bg2(h:BN o2 ps o vs c):bgM D M l a o2 ps o vs 2=some ⟨0,true,bgC o2 ps o vs 0 0 (.mid 1)⟩:=by rw[B7u h (by simp)];rfl
theorem bg3(h:BN o2 ps o vs c):bgM D M l a o2 ps o vs 3=some ⟨0,true,[.mpc (.i .i64) (ahK a) (ahV a)]⟩:=by rw[B7u h (by simp)];rfl
theorem bgP(h:BN o2 ps o vs c){i:Nat}(hi:o2=some i):bgM D M l a o2 ps o vs i=some ⟨1,true,ps.map I64⟩:=by
 rw[bgM,B1 (fun j hj=>h.ne i j hi hj)];subst hi;exact h_same
theorem bgV{i:Nat}(hi:o=some i):bgM D M l a o2 ps o vs i=some ⟨1,true,vs.map I64⟩:=by
 rw[bgM];subst hi;exact h_same
theorem bgN(h:BN o2 ps o vs c){j:Nat}(hj:c<=j):bgM D M l a o2 ps o vs j=none:=by
 have:=h.c4;rw[bgM,B1 (fun i hi=>by have:=h.ho i hi;omega),B1 (fun i hi=>by have:=h.h2 i hi;omega),hnO,hnO,hnO,hnO];rfl
theorem A6e(h0:X 0=some ⟨0,true,[F7 D,E4 M]⟩)(h1:X 1=some (A5a l))(h2:X 2=some ⟨0,true,bgC o2 ps o vs 0 0 (.mid 1)⟩)(h3:X 3=some ⟨0,true,[.mpc (.i .i64) (ahK a) (ahV a)]⟩)
  (hp:∀ i,o2=some i->X i=some ⟨1,true,ps.map I64⟩) (hv:∀ i,o=some i->X i=some ⟨1,true,vs.map I64⟩):Sub (bgM D M l a o2 ps o vs) X:=by
 intro j B hj;rw[bgM]at hj;by_cases e1:o=some j
 ·subst e1;simp only[optH]at hj;rw[h_same]at hj
  grind
 rw[B1 (fun i hi e=>e1 (by grind))]at hj;by_cases e2:o2=some j
 ·subst e2;simp only[optH]at hj;rw[h_same]at hj
  grind
 rw[B1 (fun i hi e=>e2 (by grind))]at hj;by_cases e3:j=3
 ·subst e3;rw[h_same]at hj;grind
 rw[h_ne e3]at hj;by_cases e4:j=2
 ·subst e4;rw[h_same]at hj;grind
 rw[h_ne e4]at hj;by_cases e5:j=1
 ·subst e5;rw[h_same]at hj;grind
 rw[h_ne e5]at hj;by_cases e6:j=0
 ·subst e6;rw[h_same]at hj;grind
 rw[h_ne e6]at hj;cases hj
theorem BN.le{c':Nat}(h:BN o2 ps o vs c)(hc:c<=c'):BN o2 ps o vs c' :=
 ⟨by have:=h.c4;omega,fun i hi=>by have:=h.h2 i hi;omega,fun i hi=>by have:=h.ho i hi;omega,h.ne,h.n2,h.no⟩
theorem BN.newV{c' i:Nat}{vs':List Int}(h:BN o2 ps o vs c)(h1:c<=i)(h2:i<c'):BN o2 ps (some i) vs' c':=by
 have:=h.c4;exact⟨by omega,fun j hj=>by have:=h.h2 j hj;omega,fun j hj=>by grind,fun j k hj hk=>by cases hk;have:=h.h2 j hj;omega,h.n2,fun e=>(by grind)⟩
theorem BN.newP{c' i:Nat}{ps':List Int}(h:BN o2 ps o vs c)(h1:c<=i)(h2:i<c'):BN (some i) ps' o vs c':=by
 have:=h.c4;exact⟨by omega,fun j hj=>by grind,fun j hj=>by have:=h.ho j hj;omega,fun j k hj hk=>by cases hj;have:=h.ho k hk;omega,fun e=>(by grind),h.no⟩
end
theorem B1c{l:NmL}{n:List UInt8}{y q:Int × Int}(hl:l.lookup n=some y):Q0 l n q=l/\lkV (I64 0) true (mvV (inL l)) (C3 (.str n) (mkK (inL l)) 0)=some (.tup [I64 y.2,.bool true]) :=
 ⟨by rw[Q0,if_pos (by grind)],A1r (ok:=true) (by rw[U8,hl];rfl)⟩
theorem B1d{l:NmL}{n:List UInt8}{q:Int × Int}(hl:l.lookup n=none):A5a (Q0 l n q)=⟨0,true,[.mpc .s (mkK (inL l)++[.str n]) (mvV (inL l)++[I64 q.2])]⟩ /\
  lkV (I64 0) true (mvV (inL l)) (C3 (.str n) (mkK (inL l)) 0)=some (.tup [I64 0,.bool false])/\C3 (.str n) (mkK (inL l)) 0=none:=by
 have h:(inL l).lookup n=none:=by rw[U8,hl];rfl
 refine⟨?_,A1s (ok:=true) h,B6v h⟩;rw[Q0,if_neg (by grind)];simp[A5a,inL,mkK,mvV]
theorem C2m{r:Ru}(hk:Q5 r.decls)(n:List UInt8):lkV (I64 0) false (mvV (inL (nmL r))) (C3 (.str n) (mkK (inL (nmL r))) 0)=some (I64 (H7 r n).2):=by
 cases hl:(nmL r).lookup n with
 |some q =>
  obtain⟨h1,h2⟩:=B6o hk hl;rw[h1];exact A1r (ok:=false) (by rw[U8,hl];rfl)
 |none =>
  rw[B6q hk hl];exact A1s (ok:=false) (by rw[U8,hl];rfl)
end Go.Pb
namespace Go.Sym
variable [Go.Sym.Tab]
open Go.Eng (KKey)
theorem C0y{α : Type}{pre suf:List α}{x y v : α}{i:Nat}(h:(pre++[y]++suf)[i]? = some v):(i=pre.length/\v=y/\(pre++[x]++suf)[i]? = some x)\/(pre++[x]++suf)[i]? = some v:=by
 grind
theorem GL.frzmC{H H':Hp}{ds:List DV}{id k u u':Nat}{kd:KKey}{ks vs pre suf:List DV}(hb:H id=some ⟨u,true,[.mpc kd ks vs]⟩)(hk:H k=some ⟨u',true,pre++[.mid id]++suf⟩)(hne:k≠id)
  (hk':H' k=some ⟨u',true,pre++[.mp kd ks vs]++suf⟩) (hH:∀ j,j≠k->H' j=none\/(j≠id/\H' j=H j)):GL H ds H' ds:=by
 have back:∀ j bj,H' j=some bj->j≠id/\∃ b0,H j=some b0/\b0.own=bj.own:=by
  grind
 refine⟨fun j hj=>?_,fun ρ w a2 hR hA=>?_⟩
 ·grind
 obtain⟨t,ht,hB⟩:=hR.blk id _ hb;rcases hB with ⟨hm,c,e,fr, -, -, -, -,g5, -⟩|⟨hm, -,hs,es,cl,kd',ks',vs',g1,g2,g3,g6⟩
 ·have:=(g5 0 _ rfl).1
  trivial
 cases g2;have hnone : ρ.fm t.block=none:=by
  cases hf : ρ.fm t.block with
  |none=>rfl
  |some es'=>exact absurd rfl ((hR.frm _ _ hf).2 id _ t hb rfl ht)
 obtain⟨ρ2,hρ⟩:∃ ρ2:Ren, ρ2=⟨ρ.nm, ρ.fz, ρ.tab,fun k=>if k=t.block then some es else ρ.fm k⟩:=⟨_,rfl⟩;have n1 : ρ2.nm = ρ.nm:=by grind
 have n2 : ρ2.fz = ρ.fz:=by grind
 have n3:∀ k r, ρ2.fm k=some r->(k=t.block/\r=es) \/ ρ.fm k=some r:=by
  intro k r hk;rw[hρ]at hk
  grind
 have n4 : ρ2.fm t.block=some es:=by simp_all
 have hle : ρ.le ρ2:=⟨fun i x h=>by grind,fun b r h=>by grind,fun b r h=>by
  rw[hρ]
  grind⟩
 have hval:∀ v,VRel ρ (.mid id) v->VRel ρ2 (.mp kd ks vs) v:=by
  intro v hv;obtain⟨t',ht', -,rfl⟩:=hv.mid_inv;rw[ht]at ht';cases ht';obtain⟨a1,a2,a3,a4,a5⟩:=g3;exact .mp kd ks vs t.block es n4 a1 a2 a3 (fun i x e hx he=>(a4 i x e hx he).mono hle) (fun i x e hx he=>(a5 i x e hx he).mono hle)
 refine⟨ρ2,n1,⟨fun j bj hj=>?_,fun i j bi bj ti tj hi hj hij h1 h2 ho=>?_,fun k r hk=>?_,fun j bj tj hj ho hjt=>?_,fun k r hk=>?_⟩,⟨hA.1,fun i x y hx hy=>(hA.2 i x y hx hy).mono hle⟩,?_⟩
 ·rw[n1];by_cases ej:j=k
  ·subst ej;rw[hk']at hj;cases hj;obtain⟨tj,q1,q2⟩:=hR.blk j _ hk;refine⟨tj,q1,?_⟩;rcases q2 with ⟨gm,c,e,fr,p1,p2,p3,p4,p5,p6⟩|⟨-, -, -,es2,cl2,kd2,ks2,vs2, -,p2, -⟩
   ·refine .inl ⟨gm,c,e,fr,p1,p2,by grind,p4,fun i v hv=>?_,p6⟩;rcases C0y (x:=.mid id) hv with ⟨h1,rfl,h3⟩|h1
    ·obtain⟨q1,v',q2,q3⟩:=p5 i _ h3;exact⟨rfl,v',q2,hval v' q3⟩
    ·obtain⟨q1,v',q2,q3⟩:=p5 i v h1;exact⟨q1,v',q2,q3.mono hle⟩
   ·exfalso;have h3:(DV.mid id)∈[DV.mpc kd2 ks2 vs2]:=by rw[<- p2];simp
    grind
  ·rcases hH j ej with h0|⟨-,h0⟩
   ·grind
   ·obtain⟨tj,q1,q2⟩:=hR.blk j bj (by grind);exact⟨tj,q1,q2.mono hle⟩
 ·rw[n1]at h1 h2;obtain⟨-,b1,e1,e4⟩:=back i bi hi;obtain⟨-,b2,f1, -⟩:=back j bj hj;exact hR.sep i j b1 b2 ti tj e1 f1 hij h1 h2 (e4.trans ho)
 ·rw[n2]at hk;exact hR.frz k r hk
 ·rw[n1]at hjt;rw[n2];obtain⟨-,b1,e1,e4⟩:=back j bj hj;exact hR.dis j b1 tj e1 (e4.trans ho) hjt
 ·rcases n3 k r hk with ⟨rfl,rfl⟩|h1
  ·refine⟨⟨cl,g1,g6⟩,fun j bj tj hj ho hjt=>?_⟩;rw[n1]at hjt;obtain⟨hne,b1,e1,e4⟩:=back j bj hj;exact hR.sep j id b1 _ tj t e1 hb hne hjt ht (e4.trans ho)
  ·refine⟨(hR.frm k r h1).1,fun j bj tj hj ho hjt=>?_⟩;rw[n1]at hjt;obtain⟨-,b1,e1,e4⟩:=back j bj hj;exact (hR.frm k r h1).2 j b1 tj e1 (e4.trans ho) hjt
 ·refine⟨hle,rfl,rfl,rfl,A0C _,fun _ _ _=>rfl,fun j bj tj hj hjt=>?_,fun k r hk=>.inl (by rw[<- n2];exact hk),fun k r hk=>?_⟩
  ·rw[n1]at hjt;obtain⟨-,b1,e1,e4⟩:=back j bj hj;exact .inr ⟨j,b1,tj,e1,fun h=>e4.trans h,hjt,rfl⟩
  grind
theorem C7x{H:Hp}{a k u u' w n:Nat}{pre suf xs ds junk:List DV}(hk:H k=some ⟨w,true,pre++[.slc a 0 n]++suf⟩)(ha:H a=some ⟨u,true,cellsL xs++junk⟩)
  (h1:∀ d∈pre++suf,d.one=true) (hl:xs.length=n) (hu:∀ x∈xs,x.cells.length=u') (hak:¬ a=k) :
  GL H ds ((H.del a).upd k ⟨w,true,pre++[.lst xs]++suf⟩) ds:=by
 have hz:FzL a ⟨u,true,cellsL xs++junk⟩ (pre++[.slc a 0 n]++suf) (pre++[.lst xs]++suf) :=
  FzL.app (FzL.app (FzL.refl _) (.cons _ _ _ _ (M2 (blk:=⟨u,true,cellsL xs++junk⟩) hl hu ⟨junk,rfl⟩) .nil)) (FzL.refl _)
 refine GL.frzT (id:=a) ha rfl (fun j=>?_) (FzL.refl ds);by_cases ej:j=k
 ·subst ej;refine .inr ⟨Ne.symm hak,.inr ⟨_,_,hk,h_same,rfl,rfl,hz,fun d hd=>?_⟩⟩;simp only[A0L,A1G,A2K]at hd;rcases hd with hd|rfl|hd
  ·exact h1 d (A2U _ hd)
  ·rfl
  grind
 ·rw[h_ne ej];by_cases ea:j=a
  ·subst ea;left;simp[Hp.del]
  ·refine .inr ⟨ea,.inl ?_⟩;rw[D5 ea]
end Go.Sym
namespace Go.Pb
variable [Go.Sym.Tab]
open Go.Sym
variable {nm:List UInt8->Int}
mutual
theorem C4y:∀ e:Ex,(cgE nm e).length<=e.sz
 |.mk k v n a p=>by
  rw[cgE,Ex.sz,A0D,A0K];have:=A9n a;omega
theorem A9n:∀ l:List Ex,(C8 nm l).length<=Ex.szs l
 |[]=>by simp[C8]
 |e :: l=>by
  rw[C8,Ex.szs,A0D];have:=C4y e;have:=A9n l;omega
end
theorem D0p(S:List (List UInt8))(t:List UInt8):(txS S t).2.length<=S.length+1:=by
 unfold txS;grind
mutual
theorem D4s:∀ (s:St) (p:Nat) (S:List (List UInt8)),(cgS nm p S s).1.length<=2 * s.sz/\(cgS nm p S s).2.length<=S.length+s.sz
 |.mk k n t a x y q,p,S=>by
  have ha:=A9n (nm:=nm) a;rw[cgS,St.sz];by_cases h2:k=2
  ·rw[if_pos h2];obtain⟨b1,b2⟩:=A6a x (p+(C8 nm a).length+1) S;by_cases hy:y.length=0
   ·grind
   ·rw[if_neg hy];obtain⟨c1,c2⟩:=A6a y (p+(C8 nm a).length+1+(cgB nm (p+(C8 nm a).length+1) S x).1.length+1) (cgB nm (p+(C8 nm a).length+1) S x).2
    grind
  ·rw[if_neg h2];by_cases h3:k=3
   ·rw[if_pos h3];obtain⟨b1,b2⟩:=A6a x (p+(C8 nm a).length+1) S
    grind
   ·rw[if_neg h3];by_cases h18:k=18
    ·rw[if_pos h18];have:=D0p S t;simp only[A0D,A0N,List.length_nil];constructor<;>omega
    grind
theorem A6a:∀ (l:List St) (p:Nat) (S:List (List UInt8)),(cgB nm p S l).1.length<=2 * St.szs l/\(cgB nm p S l).2.length<=S.length+St.szs l
 |[],p,S=>by simp[cgB]
 |s :: l,p,S=>by
  rw[cgB,St.szs];obtain⟨a1,a2⟩:=D4s s p S;obtain⟨b1,b2⟩:=A6a l (p+(cgS nm p S s).1.length) (cgS nm p S s).2
  grind
end
theorem B7s(l:List St)(x:Cg):(I8 nm l x).1.length<=x.1.length+2 * St.szs l/\(I8 nm l x).2.length<=x.2.length+St.szs l:=by
 obtain⟨h1,h2⟩:=A6a (nm:=nm) l x.1.length x.2;unfold I8
 grind
theorem B0f(a b:List St):St.szs (a++b)=St.szs a+St.szs b:=by simp[St.szs_map]
theorem A4r:∀ l:List (List St),St.szs l.flatten=(l.map St.szs).sum
 |[]=>rfl
 |a :: l=>by rw[List.flatten_cons,B0f,A4r l];simp
theorem C8p(q:List KB)(k:Ky):((M9 q k).map St.szs).sum<=(q.map fun x=>St.szs x.2).sum:=by
 induction q with
 |nil=>simp[M9]
 |cons x q ih =>
  rw[A7s]
  grind
theorem B5y:∀ (M:List Md) (i:Nat) (p:B8),p∈A0p nm i M->St.szs p.2.flatten<=(M.map Md.sz).sum
 |[],_,_,h=>by cases h
 |m :: M,i,p,h=>by
  rw[A0p]at h;rcases A1G.1 h with h|h
  ·unfold rfP ptK at h;obtain⟨k, -,hk⟩:=List.mem_filterMap.1 h;split at hk
   ·grind
   ·cases hk;rw[A4r];have h1:=C8p (m.hds.map (hdK nm i)) k;rw[List.map_map]at h1;have h2:(m.hds.map ((fun x:KB=>St.szs x.2)∘hdK nm i)).sum<=(m.hds.map Hd.sz).sum:=by
     generalize m.hds=hs
     induction hs with
     |nil=>simp
     |cons x hs ih =>
      simp only[A0R,List.sum_cons];have:St.szs (hdK nm i x).2<=x.sz:=by show St.szs x.body<=1+x.name.length+St.szs x.body;omega
      grind
    simp only[A0R,List.sum_cons,Md.sz];omega
  ·have:=B5y M (i+1) p h
   grind
theorem D1b{l:List B8}(h1:l.Pairwise fun a b=>¬ b.1.lt a.1)(h2:(l.map (·.1)).Nodup):Srt l:=by
 unfold Srt;have h3:l.Pairwise fun a b=>a.1≠b.1:=by
  rw[List.Nodup,List.pairwise_map]at h2;exact h2
 refine (h1.and h3).imp ?_;rintro a b ⟨g1,g2⟩;rcases Ky.tri a.1 b.1 with g|g|g
 ·exact g
 ·exact absurd g g2
 grind
theorem C2g{r:Ru}(h:ChkR r){s:List B8}(hp:(D9 [] (hkM (nmR r) 0 r.modes)).Perm s)(ho:s.Pairwise fun a b=>¬ b.1.lt a.1):s=A0p (nmR r) 0 r.modes:=by
 refine B0y (fun m hm x hx=>(h.hd m hm x hx).ok h) hp.symm (D1b ho ?_);exact ((hp.map _).nodup_iff).1 (A1j _ (by simp))
end Go.Pb
namespace Go.Pb
variable [Go.Sym.Tab]
theorem B7g(nm:List UInt8->Int):∀ (l:List Md) (k:Nat),(hkM nm k l).length=(l.map fun m=>m.hds.length).sum
 |[],_=>rfl
 |m :: l,k=>by rw[hkM,A0D,A0J,B7g nm l];simp
theorem C8t(q:List KB):PB q.length (D9 [] q):=by
 have key:∀ (q:List KB) (n:Nat) (l:List B8),PB n l->PB (n+q.length) (D9 l q):=by
  intro q
  induction q with
  |nil=>intro n l h;exact h
  |cons x q ih =>
   intro n l h;have:=ih (n+1) _ (PB.add (k:=x.1) (b:=x.2) h);exact this.le (by simp only[A0N];omega)
 have:=key q 0 [] ⟨by simp,fun p hp=>by cases hp⟩
 grind
theorem B7i{r:Ru}(h:ChkR r):(r.modes.map fun m=>m.hds.length).sum<=32 * 16:=by
 have h1:=h.lens.2;have:∀ l:List Md,(∀ m∈l,m.hds.length<=32)->(l.map fun m=>m.hds.length).sum<=32 * l.length:=by
  intro l
  induction l with
  |nil=>simp
  |cons m l ih =>
   grind
 have:=this r.modes fun m hm=>by
  have:=h.mode m hm;unfold T6 at this
  grind
 omega
theorem D3r{r:Ru}(h:ChkR r):(r.modes.map fun m=>m.hds.length).sum+r.modes.length<=1000000:=by
 have:=B7i h;have:=h.lens.2;omega
theorem C3l{r:Ru}(h:ChkR r):PB 512 (D9 [] (hkM (nmR r) 0 r.modes)):=(C8t _).le (by
 rw[B7g];have:=B7i h;omega)
theorem D5y{r:Ru}(h:ChkR r){s:List B8}(hp:(D9 [] (hkM (nmR r) 0 r.modes)).Perm s):PB 512 s:=by
 have:=C3l h;exact⟨by rw[<- hp.length_eq];exact this.1,fun p hm=>this.2 p (hp.mem_iff.2 hm)⟩
theorem C4t{l:List B8}{k:Nat}{q:B8}(h:l[k]? = some q):l.take (k+1)=l.take k++[q]:=by
 rw[A1F,h];rfl
abbrev D4t(nm:List UInt8->Int)(q:B8)(x:Cg):Cg:=((I8 nm q.2.flatten x).1++[⟨31,0⟩],(I8 nm q.2.flatten x).2)
theorem C4w(nm:List UInt8->Int){l:List B8}{k:Nat}{q:B8}(h:l[k]? = some q):
  ((cgL nm 0 [] (l.take (k+1))).1,(cgL nm 0 [] (l.take (k+1))).2.2)=D4t nm q ((cgL nm 0 [] (l.take k)).1,(cgL nm 0 [] (l.take k)).2.2) /\
  (cgL nm 0 [] (l.take (k+1))).2.1=(cgL nm 0 [] (l.take k)).2.1++[⟨q.1.mode,q.1.trig,q.1.ix,((cgL nm 0 [] (l.take k)).1.length:Int)⟩]:=by
 rw[C4t h,C4v];simp[D4t,I8]
theorem B9h{b:List (List St)}{j:Nat}{y:List St}(h:b[j]? = some y):(b.take (j+1)).flatten=(b.take j).flatten++y:=by
 rw[A1F,h];simp
theorem A0t(b:List (List St))(j:Nat):St.szs (b.take j).flatten<=St.szs b.flatten:=by
 have h:=congrArg (fun l:List (List St)=>St.szs l.flatten) (A1V j b);simp only[List.flatten_append,B0f]at h;omega
theorem A8d{b:List (List St)}{y:List St}(h:y∈b):St.szs y<=St.szs b.flatten:=by
 rw[A4r]
 induction b with
 |nil=>grind
 |cons x b ih =>
  grind
theorem A9d{H:Sym.Hp}{k u u' n:Nat}{o:Option Nat}{pre suf xs ds:List Sym.DV}(hk:H k=some ⟨0,true,pre++[Sym.todoV o n]++suf⟩)(ho:∀ i,o=some i->H i=some ⟨u,true,Sym.cellsL xs⟩/\i≠k)
  (hn:o=none->xs=[]) (h1:∀ d∈pre++suf,d.one=true) (hl:xs.length=n) (hu:∀ x∈xs,x.cells.length=u') :
  Sym.GL H ds ((Go.Pb.delO H o).upd k ⟨0,true,pre++[.lst xs]++suf⟩) ds:=by
 cases o with
 |none =>
  have e:H=Sym.optH (H.upd k ⟨0,true,pre++[Sym.todoV none n]++suf⟩) none ⟨u',true,Sym.cellsL xs⟩:=by
   funext j
   by_cases ej:j=k
   ·subst ej;simp only[Sym.optH];rw[Sym.h_same,hk]
   ·simp only[Sym.optH];rw[Sym.h_ne ej]
  have g:=Sym.g_fin (Hb:=H) (ci:=k) (o:=none) (n:=n) (ds:=ds) h1 hn (fun i h=>by grind) hl hu;rw[<- e]at g;exact g
 |some i =>
  obtain⟨h2,h3⟩:=ho i rfl;exact Sym.g_cell (junk:=[]) hk (by rw[A1B];exact h2) h1 hl hu h3
end Go.Pb
end

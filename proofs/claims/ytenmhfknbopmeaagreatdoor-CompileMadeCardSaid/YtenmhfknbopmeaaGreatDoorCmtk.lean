/-
  HELPERS of the claim: part 11 of its texts.
-/
import Derived.Test.YtenmhfknbopmeaaGreatDoorCmtj
import Derived.Shelf.SlSortCmp.NoneTotal
import Derived.Test.YtenmhfknbopmeaaGreatDoorProg
noncomputable section
set_option linter.unusedVariables false
set_option linter.unusedSimpArgs false
namespace Go.Proofs.YtenmhfknbopmeaaGreatDoor
open Go.Sym Go.Lib Go.Pb Go.So Go.Sort Go.Proofs
theorem c_Sort0{H:Hp}{c:Nat}:AC Tryz.prog 64 [.snil,.func 65 [] []] H c (λv H' c'=>v=.tup []/\H'=H):=by
 refine⟨by kernel_rfl,fun ρ w args' hR hf hA=>?_⟩;obtain⟨v0,e0,r0⟩:=hA.get (i:=0) rfl;obtain⟨v1,e1,r1⟩:=hA.get (i:=1) rfl;have hargs:args' = #[v0,v1]:=by
  have hs:args'.size=2:=hA.1.symm;apply Array.ext (by simpa using hs);intro i h1 h2;have:i=0\/i=1:=by omega
  rcases this with rfl|rfl
  ·simpa using (A0Z.1 e0).2
  ·simpa using (A0Z.1 e1).2
 subst hargs;cases r0 with
 |snil =>
 refine(AnyF.slices_SortFunc_none Tryz.sortP none 0 v1 w).mono ?_;rintro ex w' ⟨rfl,rfl⟩;exact⟨_,_,_,c, ρ,rfl,⟨rfl,rfl⟩,.tup _ _ rfl (λi x y hx hy=>by cases hx),hR,hf,A0E _,λ_ _ h=>h,λ_ _=>rfl,Ext.refl _ _ _⟩
end Go.Proofs.YtenmhfknbopmeaaGreatDoor
set_option maxHeartbeats 4000000
set_option maxRecDepth 100000
namespace Go.Proofs.YtenmhfknbopmeaaGreatDoor
open Go.Eng (IC IOper DReg IFn L1)
open Go.Sym Go.Pb
theorem C7o(b:List (List Pb.St)):cellsL (b.map D5)=b.map D5:=by
 induction b with
 |nil=>rfl
 |cons x b ih=>rw[A0W];show DV.cells (D5 x)++cellsL (b.map D5)=_;rw[ih];rfl
theorem E1l(l:List C8):∀d∈pvC l,d.one=true:=by
 intro d hd;obtain⟨p, -,hp⟩:=List.mem_flatMap.1 hd;simp only[pcC,A1C,A2S,or_false]at hp;rcases hp with rfl|rfl|rfl|rfl|rfl<;>rfl
theorem D0k:∀(is:List Nat) (l:List C8), ∀d∈ptC is l,d.one=true
 |i::is,p::l,d,hd=>by
  rw[ptC]at hd;rcases A1A.1 hd with hd|hd
  ·simp only[pcC,A1C,A2S,or_false]at hd;rcases hd with rfl|rfl|rfl|rfl|rfl<;>rfl
  ·exact D0k is l d hd
 |[],_,d,hd=>by cases hd
 |_::_,[],d,hd=>by cases hd
theorem C9v(a b:List C8):pvC (a++b)=pvC a++pvC b:=by simp[pvC]
theorem E6v{G:Hp}{i:Nat}{ds:List DV}(hGi:G i=none):∀(is:List Nat) (l pre:List C8),is.length=l.length->is.Nodup->i ∉ is->(∀j∈is,G j=none) ->
  GL ((A1a G is l).upd i ⟨5,true,pvC pre++ptC is l⟩) ds (G.upd i ⟨5,true,pvC (pre++l)⟩) ds
 |[],[],pre,_,_,_,_=>by rw[A0X];simp only[A1a,ptC,A0X];exact GL.refl _ _
 |j::is,p::l,pre,hl,hn,hi,hg=>by
  obtain⟨n1,n2⟩:=A3G.1 hn;have hji:j≠i:=λe=>hi (by rw[e];exact A0J);have ih:=E6v (ds:=ds) hGi is l (pre++[p]) (Nat.succ.inj hl) n2 (λhm=>hi (A0G _ hm)) (λq hq=>hg q (A0G _ hq));rw[A0Q,List.singleton_append]at ih;have hF:A1a G is l j=none:=by rw[B5k n1];exact hg j A0J
  have g:=D6r (H:=(A1a G (j::is) (p::l)).upd i ⟨5,true,pvC pre++ptC (j::is) (p::l)⟩) (a:=j) (k:=i) (u:=1) (u':=1) (w:=5) (n:=p.2.length) (pre:=pvC pre++[I64 p.1.mode,I64 p.1.trig,I64 p.1.ix,I64 0]) (suf:=ptC is l) (xs:=p.2.map D5) (junk:=[]) (ds:=ds)
   (by rw[A0,ptC];simp[pcC]) (by rw[h_ne hji,A1a,A0,C7o,A0X]) (λd hd=>by
    rcases A1A.1 hd with hd|hd
    ·rcases A1A.1 hd with hd|hd
     ·exact E1l pre d hd
     ·simp only[A1C,A2S,or_false]at hd;rcases hd with rfl|rfl|rfl|rfl<;>rfl
    ·exact D0k is l d hd) (by simp) (λx hx=>by obtain⟨y, -,rfl⟩:=A1B.1 hx;rfl) hji
  refine g.trans ?_;have e:(((A1a G (j::is) (p::l)).upd i ⟨5,true,pvC pre++ptC (j::is) (p::l)⟩).del j).upd i ⟨5,true,pvC pre++[I64 p.1.mode,I64 p.1.trig,I64 p.1.ix,I64 0]++[.lst (p.2.map D5)]++ptC is l⟩=(A1a G is l).upd i ⟨5,true,pvC (pre++[p])++ptC is l⟩:=by
   funext k
   by_cases ek:k=i
   ·subst ek;rw[A0,A0,C9v];simp[pvC,pcC]
   ·rw[h_ne ek,h_ne ek];by_cases ej:k=j
    ·subst ej;rw[hF];simp[Hp.del]
    ·rw[G8 ej,h_ne ek,A1a,h_ne ej]
  rw[e];exact ih
abbrev paV(p:C8):DV:=.agg (pcC p.1 (A4q p.2))
abbrev C5z(l:List C8):DV:=.lst (l.map paV)
theorem D3s(l:List C8):cellsL (l.map paV)=pvC l:=by
 induction l with
 |nil=>rfl
 |cons p l ih =>
  rw[A0W];show DV.cells (paV p)++cellsL (l.map paV)=_;rw[ih,show p::l=[p]++l from rfl,C9v];simp[pvC,pcC,DV.cells]
theorem c_parts(gs:List DV)(ks vs:List DV)(nm:List UInt8->Int)(hm:∀s,Sym.lkV (I64 0) false vs (E7 (.str s) ks 0)=some (I64 (nm s)))(hgs:gs[7]? = some (.mp .s ks vs))(D:List Dc)(M:List Md)(hs:(M.map λm=>m.hds.length).sum+M.length<=1000000)
  (H:Hp) (c t:Nat) (ht:H t=some ⟨0,true,gs⟩) (htc:t<c) (hl:(I0 [] (hkM nm 0 M)).length<=1000000) :
  AC Tryz.prog 27 [.ptr t 0,.agg [C3 D,C6 M]] H c (λv H' c'=>H'=H/\∃l',(I0 [] (hkM nm 0 M)).Perm l'/\D7u l'/\v=C5z l'):=by
 obtain⟨L,hL⟩:∃L,L=I0 [] (hkM nm 0 M):=⟨_,rfl⟩;rw[<- hL]at hl;refine⟨by kernel_rfl,fun ρ w args' hR hf hA=>?_⟩;have hHn:∀j,c<=j->H j=none:=λj hj=>by
  cases h:H j with
  |none=>rfl
  |some b=>obtain⟨t,h1, -⟩:=hR.blk j b h;rw[hf j hj]at h1;cases h1
 refine(c_gather gs ks vs nm hm hgs D M hs H c t ht htc _ ?_).2 ρ w args' hR hf hA;intro o is c1 hc1 hN;rw[<- hL]at hN ⊢;obtain⟨G,hG⟩:∃G:Hp,G=H.upd c ⟨0,true,[C3 D,C6 M]⟩:=⟨_,rfl⟩;rw[<- hG]at hN ⊢;cases o with
 |none =>
  have hLn:=hN.no rfl;subst hLn;repeat'(apply wr<;>try simp only[go_sem,seval])
  refine AC.call c_Sort0 ?_;rintro _ _ c2 ⟨rfl,rfl⟩ hc2;simp only[go_sem,seval];repeat'(apply wr<;>try simp only[go_sem,seval])
  have his:is=[]:=A2I.1 hN.len;subst his;have g:GL (PM G none [] []) [.snil] H [.lst []]:=(GL.less' (λj b hj=>by
   show G j=some b;rw[hG,h_ne (by rintro rfl;rw[hHn _ (A0E _)]at hj;cases hj)];exact hj)).trans (GL.view fun ρ vs hA=>M9 (λv h=>h.snil_lst) vs hA)
  exact⟨_,_,g,rfl,[],.nil,.nil,rfl⟩
 |some i =>
  have hi:=hN.fo i rfl;have hnm:i ∉ is:=λhm=>(hN.fi i hm).2.2 rfl;have hic:i≠c:=λe=>by have h:=hi.2;rw[e,hG,A0]at h;cases h
  have g:GL (PM G (some i) is L) [.slc i 0 L.length] (G.upd i ⟨5,true,pvC L⟩) [.slc i 0 L.length]:=E6v hi.2 is L [] hN.len hN.nd hnm (λj hj=>(hN.fi j hj).2.1);refine IW.keep [5] [.slc i 0 L.length] g ?_;have hb:(G.upd i ⟨5,true,pvC L⟩) i=some ⟨5,true,pvC L⟩:=A0;repeat'(apply wr<;>try simp only[go_sem,seval])
  refine AC.call (c_Sort1 hb hl) ?_;rintro _ _ c2 ⟨rfl,l',q1,q2,rfl⟩ hc2;simp only[go_sem,seval];repeat'(apply wr<;>try simp only[go_sem,seval])
  rw[A4];have hl':l'.length=L.length:=q1.length_eq.symm;have g2:GL (G.upd i ⟨5,true,pvC l'⟩) [.slc i 0 L.length] H [C5z l']:=GL.frzS (id:=i) A0 rfl (λj=>by
   by_cases ej:j=i
   ·subst ej;left;have h:=hi.2;rw[hG,h_ne hic]at h;exact h
   ·by_cases ec:j=c
    ·subst ec;left;exact hHn _ (A0E _)
    ·right;exact⟨ej,by rw[h_ne ej,hG,h_ne ec]⟩) (.cons _ _ _ _ (P6 (u:=5) (by rw[A0C,hl']) (λx hx=>by obtain⟨y, -,rfl⟩:=A1B.1 hx;rfl) ⟨[],by rw[D3s,A0X]⟩) .nil)
  exact⟨_,_,g2,rfl,l',q1,q2,rfl⟩
end Go.Proofs.YtenmhfknbopmeaaGreatDoor
set_option maxHeartbeats 8000000
namespace Go.Proofs.YtenmhfknbopmeaaGreatDoor
open Go.Eng (IC IOper DReg IFn L1)
open Go.Sym Go.Pb
abbrev C6n(l:List (List UInt8 × (Int × Int))):Blk:=⟨0,true,[.mpc .s (mkK (A0g l)) (mvV (A0g l))]⟩
theorem c_set(n:List UInt8)(q:Int × Int)(l:List (List UInt8 × (Int × Int)))(H:Hp)(cc b t:Nat)(hb:H b=some ⟨0,true,[.mid t]⟩)(ht:H t=some (C6n l))(hbc:b<cc)(htc:t<cc):
  AC Tryz.prog 110 [.str n,A7u q,.ptr b 0] H cc (λv H' c'=>v=.tup []/\H'=H.upd t (C6n (X7 l n q))):=by
 refine AC.go A2 λhfr=>?_;have hbt:b≠t:=λe=>by rw[e,ht]at hb;cases hb
 cases hl:l.lookup n with
 |some y =>
  have hs:X7 l n q=l:=by rw[X7,if_pos (by rw[hl];rfl)]
  have h1:Sym.lkV (.agg [I64 0,I64 0]) true (mvV (A0g l)) (E7 (.str n) (mkK (A0g l)) 0)=some (.tup [A7u y,.bool true]):=A6j (ok:=true) (by rw[Z6,hl];rfl);unfold A7u at h1 ⊢;rw[hs,upd_same ht];have ne0:=X9 b t cc (cc+1) (by omega);repeat'(apply wr<;>try simp only[go_sem,seval,hb,ht,h1,ne0,A0,A4])
  refine⟨_,_,GL.less' λj b hj=>?_,rfl,rfl⟩;have:=B5e hfr hj;have h2:j≠cc+1:=by rintro rfl;rw[hfr _ (by omega)]at hj;cases hj
  rw[h_ne h2,h_ne this];exact hj
 |none =>
  have hs:X7 l n q=l++[(n,q)]:=by rw[X7,if_neg (by rw[hl];simp)]
  have hl':(A0g l).lookup n=none:=by rw[Z6,hl];rfl
  have h1:Sym.lkV (.agg [I64 0,I64 0]) true (mvV (A0g l)) (E7 (.str n) (mkK (A0g l)) 0)=some (.tup [.agg [I64 0,I64 0],.bool false]):=A6k (ok:=true) hl';have h2:=C4c hl';have e1:mkK (A0g (l++[(n,q)]))=mkK (A0g l)++[.str n]:=by simp[mkK,A0g]
  have e2:mvV (A0g (l++[(n,q)]))=mvV (A0g l)++[A7u q]:=by simp[mvV,A0g]
  unfold A7u at e2 ⊢;rw[hs];unfold C6n;rw[e1,e2];have ne0:=X9 b t cc (cc+1) (by omega);repeat'(apply wr<;>try simp only[go_sem,seval,hb,ht,h2,ne0,A0,A4])
  refine⟨_,_,GL.less' λj b hj=>?_,rfl,rfl⟩;by_cases e:j=t
  ·subst e;rw[A0]at hj ⊢;exact hj
  ·rw[h_ne e]at hj ⊢;have:=B5e hfr hj;have h2:j≠cc+1:=by rintro rfl;rw[hfr _ (by omega)]at hj;cases hj
   rw[h_ne h2,h_ne this];exact hj
def nmH(D:List Dc)(M:List Md)(l:List (List UInt8 × (Int × Int)))(a:List (Int × Nat)):Hp:=(((Sym.nil.upd 0 ⟨0,true,[C3 D,C6 M]⟩).upd 1 (C6n l)).upd 2 ⟨0,true,[.mid 1]⟩).upd 3 ⟨0,true,[.mpc (.i .i64) (ahK a) (ahV a)]⟩
section
variable {D:List Dc} {M:List Md} {l:List (List UInt8 × (Int × Int))} {a:List (Int × Nat)}
theorem E1t:nmH D M l a 0=some ⟨0,true,[C3 D,C6 M]⟩:=rfl
theorem E1s:nmH D M l a 1=some (C6n l):=rfl
theorem E1r:nmH D M l a 2=some ⟨0,true,[.mid 1]⟩:=rfl
theorem E5l:nmH D M l a 3=some ⟨0,true,[.mpc (.i .i64) (ahK a) (ahV a)]⟩:=rfl
theorem E1q(j:Nat)(h:4<=j):nmH D M l a j=none:=by
 unfold nmH;rw[hnO,hnO,hnO,hnO];rfl
theorem A7r{H:Hp}(h0:H 0=some ⟨0,true,[C3 D,C6 M]⟩)(h1:H 1=some (C6n l))(h2:H 2=some ⟨0,true,[.mid 1]⟩)(h3:H 3=some ⟨0,true,[.mpc (.i .i64) (ahK a) (ahV a)]⟩):Sym.Sub (nmH D M l a) H:=by
 intro j b hj;have hlt:j<4:=A1S λh=>by rw[E1q j h]at hj;cases hj
 match j,hlt with
 |0,_=>rw[h0];exact hj
 |1,_=>rw[h1];exact hj
 |2,_=>rw[h2];exact hj
 |3,_=>rw[h3];exact hj
end
theorem E1p(r:Ru):(nmV r).nl=true:=by
 unfold nmV mkK mvV A0g;simp only[DV.nl];rw[A3Q,A3Q];rw[show((λp:List UInt8 × DV=>DV.str p.1)∘λp:List UInt8 × (Int × Int)=>(p.1,A7u p.2))=λp=>DV.str p.1 from rfl,show((λp:List UInt8 × DV=>p.2)∘λp:List UInt8 × (Int × Int)=>(p.1,A7u p.2))=λp=>A7u p.2 from rfl];rw[L3 (λ_=>rfl),L3 (λ_=>rfl)];rfl
theorem c_names(r:Ru)(h1:r.decls.length<=1000000000)(h2:r.modes.length<=1000000000):PC Tryz.prog 54 [r.v] (nmV r):=by
 refine PC.ofT A2 rfl (A0H rfl) (by simp[DV.nlL,DV.nl,K7,K6]) (E1p _) ?_;obtain⟨R,hR⟩:∃R,R=nmL r:=⟨_,rfl⟩;unfold nmV;rw[<- hR];unfold nmL at hR;obtain⟨D,M⟩:=r;dsimp only at h1 h2 hR;dsimp only[Ru.v];repeat'(apply wr<;>try simp only[go_sem,seval,B9e])
 refine A6 (λq:Nat × List (List UInt8 × (Int × Int))=>[(1,.ptr 0 0),(3,.ptr 2 0),(4,.mid 3),(5,.func 110 [] [.ptr 2 0]),(15,C3 D),(16,I64 D.length),(17,I64 q.1)]) (λq=>nmH D M q.2 (ahM (D.take q.1)))
  (λq c=>4<=c/\q.1<=D.length/\nmD [] [] D=nmD (D.take q.1) q.2 (D.drop q.1)) (λq=>D.length-q.1) (0,[])
  (by simp[B7,tm,Tm.upd]) (A7r rfl rfl rfl rfl) ⟨by omega,A0P _,rfl⟩ ?_
 rintro⟨i,l⟩ c ⟨h1c,hk,he⟩;dsimp only at hk he ⊢;by_cases hlt:i<D.length
 ·have hd:=dtz hlt;have hg:=A0B hlt;have hw:=w64 (n:=(i:Int)+1);rw[B7n hg]at he;have hah:ahM (D.take (i+1))=ahS (ahM (D.take i)) D[i].kind:=by rw[A0R,hg];exact B2f _ _
  have hlk:=C5h D[i].kind (ahM (D.take i));have hmu:=D8w D[i].kind (ahM (D.take i));have hcn:=C2a (D.take i) D[i].kind;have hcl:=C1o (D.take i) D[i].kind;rw[A0Y]at hcl;generalize D[i]=d at hg he hah hlk hmu hcn hcl;rw[hcn]at hlk hmu;have hw2:=w64 (n:=(cnD (D.take i) d.kind:Int)+1);have hb0:nmH D M l (ahM (D.take i)) 0=_:=E1t;have hb1:nmH D M l (ahM (D.take i)) 1=_:=E1s;have hb2:nmH D M l (ahM (D.take i)) 2=_:=E1r;have hb3:nmH D M l (ahM (D.take i)) 3=_:=E5l;have hbn:∀j,4<=j->nmH D M l (ahM (D.take i)) j=none:=λj=>E1q j;generalize nmH D M l (ahM (D.take i))=HH at hb0 hb1 hb2 hb3 hbn ⊢;have ne0:=A6f 0 1 2 3 c (c+1) (by omega);by_cases hkk:d.kind=6\/d.kind=7\/d.kind=8
  ·have hnum:U2 (D.take i) d=(cnD (D.take i) d.kind:Int):=by rw[U2,if_pos hkk]
   rw[hnum]at he;by_cases k6:d.kind=6
   ·have k6:(d.kind==6)=true:=by simpa using k6
    repeat'(apply wr<;>try simp only[go_sem,seval,hb3,hd,hg,hw2,hlk,hmu,k6,A4o,ne0,A0,A4])
    refine AC.call (c_set d.name (d.kind,(cnD (D.take i) d.kind:Int)) l _ _ 2 1 (by rw[hnO,hnO,hnO];exact hb2) (by rw[hnO,hnO,hnO];exact hb1) (by omega) (by omega)) ?_;rintro v H' c' ⟨rfl,rfl⟩ hcc;simp only[go_sem,seval];repeat'(apply wr<;>try simp only[go_sem,seval,hw])
    refine⟨(i+1,X7 l d.name (d.kind,(cnD (D.take i) d.kind:Int))),by simp[],?_,inv ⟨by omega,by omega,he⟩,by simp only;omega⟩;dsimp only;rw[hah];refine A7r ?_ A0 ?_ ?_
    ·rw[hnO,hnO,hnO,hnO];exact hb0
    ·rw[hnO,hnO,hnO,hnO];exact hb2
    ·rw[hnO,A0]
   have k6:(d.kind==6)=false:=by simpa using k6
   by_cases k7:d.kind=7
   ·have k7:(d.kind==7)=true:=by simpa using k7
    repeat'(apply wr<;>try simp only[go_sem,seval,hb3,hd,hg,hw2,hlk,hmu,k6,k7,A4o,ne0,A0,A4])
    refine AC.call (c_set d.name (d.kind,(cnD (D.take i) d.kind:Int)) l _ _ 2 1 (by rw[hnO,hnO,hnO];exact hb2) (by rw[hnO,hnO,hnO];exact hb1) (by omega) (by omega)) ?_;rintro v H' c' ⟨rfl,rfl⟩ hcc;simp only[go_sem,seval];repeat'(apply wr<;>try simp only[go_sem,seval,hw])
    refine⟨(i+1,X7 l d.name (d.kind,(cnD (D.take i) d.kind:Int))),by simp[],?_,inv ⟨by omega,by omega,he⟩,by simp only;omega⟩;dsimp only;rw[hah];refine A7r ?_ A0 ?_ ?_
    ·rw[hnO,hnO,hnO,hnO];exact hb0
    ·rw[hnO,hnO,hnO,hnO];exact hb2
    ·rw[hnO,A0]
   have k7:(d.kind==7)=false:=by simpa using k7
   have k8:(d.kind==8)=true:=by simp at k6 k7 ⊢;omega
   repeat'(apply wr<;>try simp only[go_sem,seval,hb3,hd,hg,hw2,hlk,hmu,k6,k7,k8,A4o,ne0,A0,A4])
   refine AC.call (c_set d.name (d.kind,(cnD (D.take i) d.kind:Int)) l _ _ 2 1 (by rw[hnO,hnO,hnO];exact hb2) (by rw[hnO,hnO,hnO];exact hb1) (by omega) (by omega)) ?_;rintro v H' c' ⟨rfl,rfl⟩ hcc;simp only[go_sem,seval];repeat'(apply wr<;>try simp only[go_sem,seval,hw])
   refine⟨(i+1,X7 l d.name (d.kind,(cnD (D.take i) d.kind:Int))),by simp[],?_,inv ⟨by omega,by omega,he⟩,by simp only;omega⟩;dsimp only;rw[hah];refine A7r ?_ A0 ?_ ?_
   ·rw[hnO,hnO,hnO,hnO];exact hb0
   ·rw[hnO,hnO,hnO,hnO];exact hb2
   ·rw[hnO,A0]
  ·have hnum:U2 (D.take i) d=d.value:=by rw[U2,if_neg hkk]
   rw[hnum]at he;have k6:(d.kind==6)=false:=by simp;omega
   have k7:(d.kind==7)=false:=by simp;omega
   have k8:(d.kind==8)=false:=by simp;omega
   repeat'(apply wr<;>try simp only[go_sem,seval,hb3,hd,hg,hw2,hlk,hmu,k6,k7,k8,A4o,ne0,A0,A4])
   refine AC.call (c_set d.name (d.kind,d.value) l _ _ 2 1 (by rw[hnO,hnO,hnO];exact hb2) (by rw[hnO,hnO,hnO];exact hb1) (by omega) (by omega)) ?_;rintro v H' c' ⟨rfl,rfl⟩ hcc;simp only[go_sem,seval];repeat'(apply wr<;>try simp only[go_sem,seval,hw])
   refine⟨(i+1,X7 l d.name (d.kind,d.value)),by simp[],?_,inv ⟨by omega,by omega,he⟩,by simp only;omega⟩;dsimp only;rw[hah];refine A7r ?_ A0 ?_ ?_
   ·rw[hnO,hnO,hnO,hnO];exact hb0
   ·rw[hnO,hnO,hnO,hnO];exact hb2
   ·rw[hnO,A0]
 have hd:=dfz hlt;rw[A1Q (by omega),nmD]at he;rw[he]at hR;repeat'(apply wr<;>try simp only[go_sem,seval,hd,A0C,E1t])
 clear he hd hlt hk;generalize ahM (D.take i)=A;clear i;refine A6 (λq:Nat × List (List UInt8 × (Int × Int))=>[(3,.ptr 2 0),(5,.func 110 [] [.ptr 2 0]),(56,C6 M),(57,I64 M.length),(58,I64 q.1)]) (λq=>nmH D M q.2 A)
  (λq c=>4<=c/\q.1<=M.length/\R=nmX q.1 q.2 (M.drop q.1)) (λq=>M.length-q.1) (0,l)
  (by simp[B7,tm,Tm.upd]) (Sub.refl _) ⟨h1c,A0P _,hR⟩ ?_
 clear hR h1c c l;rintro⟨i,l⟩ c ⟨h1c,hk,he⟩;dsimp only at hk he ⊢;by_cases hlt:i<M.length
 ·have hd:=dtz hlt;have hg:=A0B hlt;have hw:=w64 (n:=(i:Int)+1);rw[B7m hg]at he;generalize M[i]=d at hg he;have hb0:nmH D M l A 0=_:=E1t;have hb1:nmH D M l A 1=_:=E1s;have hb2:nmH D M l A 2=_:=E1r;have hb3:nmH D M l A 3=_:=E5l;have hbn:∀j,4<=j->nmH D M l A j=none:=λj=>E1q j;generalize nmH D M l A=HH at hb0 hb1 hb2 hb3 hbn ⊢;have ne0:=A6f 0 1 2 3 c (c+1) (by omega);repeat'(apply wr<;>try simp only[go_sem,seval,hd,hg,B0z,A0,A4])
  refine AC.call (c_set d.name (9,(i:Int)) l _ _ 2 1 (by rw[hnO];exact hb2) (by rw[hnO];exact hb1) (by omega) (by omega)) ?_;rintro v H' c' ⟨rfl,rfl⟩ hcc;simp only[go_sem,seval];repeat'(apply wr<;>try simp only[go_sem,seval,hw])
  refine⟨(i+1,X7 l d.name (9,(i:Int))),by simp[],?_,inv ⟨by omega,by omega,he⟩,by simp only;omega⟩;refine A7r ?_ A0 ?_ ?_
  ·rw[hnO,hnO];exact hb0
  ·rw[hnO,hnO];exact hb2
  ·rw[hnO,hnO];exact hb3
 have hd:=dfz hlt;rw[A1Q (by omega),nmX]at he;subst he;have hb2:nmH D M R A 2=_:=E1r;repeat'(apply wr<;>try simp only[go_sem,seval,hd,hb2])
 exact D0h E1s
def ckB(r:Ru)(s:Int × Int):Blk:=⟨0,true,[nmV r,I64 s.1,I64 s.2]⟩
theorem D3f{r:Ru}{n:List UInt8}{k p:Int}(h:k=0\/(F3 r n).1=k):dnE r n k p=none:=by unfold dnE dnM;rw[if_pos h];rfl
theorem E7r{r:Ru}{n:List UInt8}{k p:Int}(h:¬(k=0\/(F3 r n).1=k))(h2:(F3 r n).1=0):dnE r n k p=some (p,8):=by unfold dnE dnM;rw[if_neg h,if_pos h2];rfl
theorem E7s{r:Ru}{n:List UInt8}{k p:Int}(h:¬(k=0\/(F3 r n).1=k))(h2:¬(F3 r n).1=0):dnE r n k p=some (p,44):=by unfold dnE dnM;rw[if_neg h,if_neg h2];rfl
theorem B5j{H:Hp}{cc t:Nat}{b b':Blk}{ds:List DV}(hfr:∀i,cc<=i->H i=none)(htc:t<cc):GL ((H.upd cc b).upd t b') ds (H.upd t b') ds:=GL.less' λj q hj=>by
 by_cases e:j=t
 ·subst e;rw[A0]at hj ⊢;exact hj
 ·rw[h_ne e]at hj ⊢;rw[h_ne (B5e hfr hj)];exact hj
theorem c_inE32(k:Int):PC Tryz.prog 145 [I64 k] (I64 (kdE k)):=by
 refine PC.go A2 ?_;repeat'((with_reducible first|apply wr|apply wb2<;>(intro hb;try simp only[hb]))<;>try simp only[go_sem,seval])
 all_goals(refine A1 (congrArg I64 ?_);simp_all[kdE])
theorem c_inS32(k:Int):PC Tryz.prog 114 [I64 k] (I64 (kdS k)):=by
 refine PC.go A2 ?_;repeat'((with_reducible first|apply wr|apply wb2<;>(intro hb;try simp only[hb]))<;>try simp only[go_sem,seval])
 all_goals(refine A1 (congrArg I64 ?_);simp_all[kdS])
theorem c_inH32(k:Int):PC Tryz.prog 57 [I64 k] (I64 (kdH k)):=by
 refine PC.go A2 ?_;repeat'((with_reducible first|apply wr|apply wb2<;>(intro hb;try simp only[hb]))<;>try simp only[go_sem,seval])
 all_goals(refine A1 (congrArg I64 ?_);simp_all[kdH])
theorem c_most32(k:Int):PC Tryz.prog 112 [I64 k] (I64 (A4l k)):=by
 refine PC.go A2 ?_;repeat'((with_reducible first|apply wr|apply wb2<;>(intro hb;try simp only[hb]))<;>try simp only[go_sem,seval])
 all_goals(refine A1 (congrArg I64 ?_);simp_all[A4l])
theorem c_truth32(k:Int):PC Tryz.prog 146 [I64 k] (.bool (D4j k)):=by
 refine PC.go A2 ?_;repeat'((with_reducible first|apply wr|apply wb2<;>(intro hb;try simp only[hb]))<;>try simp only[go_sem,seval])
 all_goals(refine A1 (congrArg DV.bool ?_);simp_all[D4j]<;>omega)
theorem c_typ32(k:Int)(h:k<=24):PC Tryz.prog 95 [I64 k] (I64 (M3 k)):=by
 refine PC.go A2 ?_;have ht:=c_truth32 k;rw[D4i h]at ht;repeat'((with_reducible first|apply wr|refine cpc ht ?_|apply wb2<;>(intro hb;try simp only[hb]))<;>try simp only[go_sem,seval])
 all_goals(refine A1 (congrArg I64 ?_);simp_all[M3])
theorem c_fail32(r:Ru)(s:Int × Int)(H:Hp)(cc t:Nat)(ht:H t=some (ckB r s))(htc:t<cc)(p e:Int):AC Tryz.prog 60 [.ptr t 0,I64 p,I64 e] H cc (λv H' c'=>v=.tup []/\H'=H.upd t (ckB r (upS s (some (p,e))))):=by
 refine AC.go A2 λhfr=>?_;unfold ckB at ht ⊢;cases h:(s.2==0) with
 |true =>
  have e0:upS s (some (p,e))=(p,e):=by unfold upS;rw[if_pos (by simpa using h)];rfl
  rw[e0];repeat'(apply wr<;>try simp only[go_sem,seval,ht,h,A0,A4])
  exact⟨_,_,GL.refl _ _,rfl,rfl⟩
 |false =>
  have e0:upS s (some (p,e))=s:=by unfold upS;rw[if_neg (by simpa using h)]
  rw[e0,upd_same ht];repeat'(apply wr<;>try simp only[go_sem,seval,ht,h])
  exact⟨_,_,GL.refl _ _,rfl,rfl⟩
theorem c_den32(r:Ru)(hk:Y5 r.decls)(s:Int × Int)(H:Hp)(cc t:Nat)(ht:H t=some (ckB r s))(htc:t<cc)(n:List UInt8)(k p:Int):AC Tryz.prog 56 [.ptr t 0,.str n,I64 k,I64 p] H cc (λv H' c'=>v=.tup []/\H'=H.upd t (ckB r (upS s (dnE r n k p)))):=by
 refine AC.go A2 λhfr=>?_;have ht':=ht;unfold ckB nmV at ht';have ne0:=W9 t cc (by omega);cases hl:(nmL r).lookup n with
 |some q =>
  obtain⟨h1,h2⟩:=C3r hk hl;have hlk:Sym.lkV (.agg [I64 0,I64 0]) true (mvV (A0g (nmL r))) (E7 (.str n) (mkK (A0g (nmL r))) 0)=some (.tup [A7u q,.bool true]):=A6j (ok:=true) (by rw[Z6,hl];rfl);unfold A7u at hlk;by_cases hk0:k=0
  ·subst hk0;have e0:dnE r n 0 p=none:=D3f (.inl rfl);rw[e0,L5,upd_same ht];repeat'(apply wr<;>try simp only[go_sem,seval,ht',hlk,A0,A4])
   exact⟨_,_,A7z hfr,rfl,rfl⟩
  have q0:(k==0)=false:=by simpa using hk0
  by_cases hq:q.1=k
  ·have e0:dnE r n k p=none:=D3f (.inr (by rw[h1];exact hq));rw[e0,L5,upd_same ht];have q1:(q.1 != k)=false:=by simp[hq]
   repeat'(apply wr<;>try simp only[go_sem,seval,ht',hlk,q0,q1,A0,A4])
   exact⟨_,_,A7z hfr,rfl,rfl⟩
  ·have e0:dnE r n k p=some (p,44):=E7s (by rw[h1];simp[hk0,hq]) (by rw[h1];exact h2);rw[e0];have q1:(q.1 != k)=true:=by simp[hq]
   repeat'(apply wr<;>try simp only[go_sem,seval,ht',hlk,q0,q1,A0,A4])
   refine AC.call (c_fail32 r s _ _ t (by rw[hnO];exact ht) (by omega) p 44) ?_;rintro v H' c' ⟨rfl,rfl⟩ hcc;simp only[go_sem,seval];repeat'(apply wr<;>try simp only[go_sem,seval])
   exact⟨_,_,B5j hfr htc,rfl,rfl⟩
 |none =>
  have h1:=C3s hk hl;have hlk:Sym.lkV (.agg [I64 0,I64 0]) true (mvV (A0g (nmL r))) (E7 (.str n) (mkK (A0g (nmL r))) 0)=some (.tup [.agg [I64 0,I64 0],.bool false]):=A6k (ok:=true) (by rw[Z6,hl];rfl);by_cases hk0:k=0
  ·subst hk0;have e0:dnE r n 0 p=none:=D3f (.inl rfl);rw[e0,L5,upd_same ht];repeat'(apply wr<;>try simp only[go_sem,seval,ht',hlk,A0,A4])
   exact⟨_,_,A7z hfr,rfl,rfl⟩
  have q0:(k==0)=false:=by simpa using hk0
  have e0:dnE r n k p=some (p,8):=E7r (by rw[h1];simp;omega) (by rw[h1]);rw[e0];repeat'(apply wr<;>try simp only[go_sem,seval,ht',hlk,q0,A0,A4])
  refine AC.call (c_fail32 r s _ _ t (by rw[hnO];exact ht) (by omega) p 8) ?_;rintro v H' c' ⟨rfl,rfl⟩ hcc;simp only[go_sem,seval];repeat'(apply wr<;>try simp only[go_sem,seval])
  exact⟨_,_,B5j hfr htc,rfl,rfl⟩
theorem A9k{G:Hp}{t c:Nat}{b0 b1 b:Blk}(hG:∀j,c<=j->G j=none)(htc:t<c):Sym.Sub (G.upd t b) (((G.upd t b0).upd c b1).upd t b):=by
 intro j q hj;by_cases e:j=t
 ·subst e;rw[A0]at hj ⊢;exact hj
 ·rw[h_ne e]at hj;have:j<c:=A1S λh=>by rw[hG j h]at hj;cases hj
  rw[h_ne e,hnO,h_ne e];exact hj
theorem C2m{G:Hp}{t c:Nat}{b0 b1:Blk}(hG:∀j,c<=j->G j=none)(htc:t<c):Sym.Sub (G.upd t b0) ((G.upd t b0).upd c b1):=by
 intro j q hj;have:j<c:=A1S λh=>by rw[hnO,hG j h]at hj;cases hj
 rw[hnO];exact hj
theorem c_exp32(r:Ru)(hk:Y5 r.decls):∀(m:Nat) (e:Ex),e.sz<m->e.sz<=100000000->(∃q,msM e=some q)->∀(s:Int × Int) (H:Hp) (cc t:Nat) (ht:H t=some (ckB r s)) (htc:t<cc),
  AC Tryz.prog 94 [.ptr t 0,e.v] H cc (λv H' c'=>v=.tup []/\H'=H.upd t (ckB r (upS s (erE r e)))):=by
 intro m
 induction m with
 |zero=>intro e h;omega
 |succ m ih =>
 intro e hm hB ⟨q0,hq0⟩ s H cc t ht htc;have hal:Ex.szs e.args<e.sz:=by cases e with|mk k v n a p=>rw[Ex.sz];show Ex.szs a<_;omega
 have hargs:∀x∈e.args,x.sz<=Ex.szs e.args:=λx hx=>Ex.szs_mem hx;have hll:=Ex.szs_len e.args;have hms:=C3z hq0;have h22:=D0y hq0;have hknd:∀x∈e.args,x.kind<=24:=λx hx=>by obtain⟨q,hq⟩:=hms x hx;exact C3y hq
 rw[E7o,Ex.v_w];dsimp only[Ex.w];have ih:∀x∈e.args, ∀(s:Int × Int) (H:Hp) (cc t:Nat) (ht:H t=some (ckB r s)) (htc:t<cc),AC Tryz.prog 94 [.ptr t 0,x.v] H cc (λv H' c'=>v=.tup []/\H'=H.upd t (ckB r (upS s (erE r x)))):=λx hx=>ih x (by have:=hargs x hx;omega) (by have:=hargs x hx;omega) (hms x hx);have hk1:=c_inE32 e.kind;have hden:=λ(s:Int × Int) (H:Hp) (cc t:Nat) (ht:H t=some (ckB r s)) (htc:t<cc)=>c_den32 r hk s H cc t ht htc e.name (kdE e.kind) e.pos;generalize ek:e.kind=k at *;generalize e.value=v at *;generalize e.name=n at *;generalize e.args=a at *;generalize e.pos=p at *;refine AC.go A2 λhfr=>?_;repeat'(apply wr<;>try simp only[go_sem,seval])
 obtain⟨G,hG⟩:∃G,G=H.upd cc ⟨0,true,[I64 k,I64 v,.str n,H9 a,I64 p]⟩:=⟨_,rfl⟩;have hGc:∀b,(G.upd t b) cc=some ⟨0,true,[I64 k,I64 v,.str n,H9 a,I64 p]⟩:=λb=>by rw[hnO,hG,A0]
 have hGn:∀j,cc+1<=j->G j=none:=λj hj=>by rw[hG,hnO];exact hfr j (by omega)
 have hGt:G=G.upd t (ckB r s):=by rw[upd_same];rw[hG,hnO];exact ht
 rw[<- hG,hGt];refine A6 (λi:Nat=>[(0,.ptr t 0),(3,.ptr cc 0),(10,H9 a),(11,I64 a.length),(12,I64 i)]) (λi=>G.upd t (ckB r (upS s (W3 r (a.take i))))) (λi c=>cc+1<=c/\i<=a.length) (λi=>a.length-i) 0 (by simp[B7,tm,Tm.upd]) (by rw[A1I,W3,L5];exact Sub.refl _) ⟨by omega,A0P _⟩ ?_;rintro i c ⟨h1c,hki⟩;by_cases hlt:i<a.length
 ·have hd:=dtz hlt;have hg:=A0B hlt;have hw:=w64 (n:=(i:Int)+1);have hc:=ih _ (A0L hlt);have het:=B3q (r:=r) hg;generalize a[i]=x at hg hc het;rw[Ex.v_w]at hc;have ne0:=W9 t c (by omega);repeat'(apply wr<;>try simp only[go_sem,seval,hd,hg,Ex.v_w,A0,A4])
  refine AC.call (hc (upS s (W3 r (a.take i))) _ _ t (by rw[hnO,A0]) (by omega)) ?_;rintro v' H' c' ⟨rfl,rfl⟩ hcc;simp only[go_sem,seval];repeat'(apply wr<;>try simp only[go_sem,seval,hw])
  refine⟨i+1,by simp,?_,inv ⟨by omega,by omega⟩,by omega⟩;rw[L4 (B7h _ _), <- het];exact A9k (λj hj=>hGn j (by omega)) (by omega)
 have hd:=dfz hlt;rw[A0M (by omega)];repeat'((with_reducible first|apply wr|refine cpc hk1 ?_)<;>try simp only[go_sem,seval,hd,hGc])
 refine⟨by and_intros<;>(rw[hnO];exact hGn _ (by omega)),?_⟩;refine AC.call (hden (upS s (W3 r a)) _ _ t A0 (by omega)) ?_;rintro v' H' c' ⟨rfl,rfl⟩ hcc;rw[A4,L4 (B7h _ _)];obtain⟨s1,hs1⟩:∃s1,s1=upS s ((W3 r a).or (dnE r n (kdE k) p)):=⟨_,rfl⟩;have nz1:NzE ((W3 r a).or (dnE r n (kdE k) p)):=(B7h _ _).or (B2y _ _ _ _);rw[<- hs1, <- L4 nz1, <- hs1];clear hs1;have kL:∀c2:Nat,c+9<=c2->IW Tryz.prog 61 (.loop (pz Tryz.prog 94 (.i (.o (.i (.o (.i .h))))))) ⟨tm [(0,.ptr t 0),(3,.ptr cc 0),(6,I64 (A1c k a)),(45,H9 a),(46,I64 a.length),(47,I64 0)],G.upd t (ckB r s1),c2⟩ (bk 3 (rt [] λv H' c' => ∃v2 H2,GL H' [v] H2 [v2]/\v2=.tup []/\H2=H.upd t (ckB r (upS s1 (if(a.all λx=>M3 x.kind==A1c k a)=true then none else some (p,49)))))):=by
  intro c2 hc2;generalize A1c k a=wnt;refine A6 (λi:Nat=>[(0,.ptr t 0),(3,.ptr cc 0),(6,I64 wnt),(45,H9 a),(46,I64 a.length),(47,I64 i)]) (λi=>G.upd t (ckB r (upS s1 (if((a.take i).all λx=>M3 x.kind==wnt)=true then none else some (p,49))))) (λi c=>cc+1<=c/\i<=a.length) (λi=>a.length-i) 0 (by simp[B7,tm,Tm.upd]) (by rw[A1I,List.all_nil,if_pos rfl,L5];exact Sub.refl _) ⟨by omega,A0P _⟩ ?_;rintro i c3 ⟨h3c,hki3⟩;by_cases hlt3:i<a.length
  ·have hd3:=dtz hlt3;have hg3:=A0B hlt3;have hw3:=w64 (n:=(i:Int)+1);have hat:=A1n (λx:Ex=>M3 x.kind==wnt) a i _ hg3;have hty:=c_typ32 _ (hknd _ (A0L hlt3));generalize a[i]=x at hg3 hat hty;obtain⟨o,ho⟩:∃o:Er,o=if((a.take i).all λx=>M3 x.kind==wnt)=true then none else some (p,49):=⟨_,rfl⟩
   rw[<- ho];have ne0:=P5 t c3 cc (by omega);by_cases hx:M3 x.kind=wnt
   ·have hxn:(M3 x.kind != wnt)=false:=by simp[hx]
    repeat'((with_reducible first|apply wr|refine cpc hty ?_)<;>try simp only[go_sem,seval,hd3,hg3,hw3,Ex.v_w,A0,A4,hxn])
    refine⟨i+1,by simp,?_,inv ⟨by omega,by omega⟩,by omega⟩;rw[hat,show(M3 x.kind==wnt)=true by simpa using hx,A2H, <- ho];exact C2m (λj hj=>hGn j (by omega)) (by omega)
   ·have hxn:(M3 x.kind != wnt)=true:=by simp[hx]
    repeat'((with_reducible first|apply wr|refine cpc hty ?_)<;>try simp only[go_sem,seval,hd3,hg3,Ex.v_w,ne0,A0,A4,hGc,hxn])
    refine AC.call (c_fail32 r (upS s1 o) _ _ t (by rw[hnO,A0]) (by omega) p 49) ?_;rintro v' H' c4 ⟨rfl,rfl⟩ hcc4;simp only[go_sem,seval];repeat'(apply wr<;>try simp only[go_sem,seval,hw3])
    refine⟨i+1,by simp,?_,inv ⟨by omega,by omega⟩,by omega⟩;have eo:upS (upS s1 o) (some (p,49))=upS s1 (some (p,49)):=by
     rw[ho];split
     ·rw[L5]
     ·exact C8c s1 p 49 (by decide)
    rw[hat,show(M3 x.kind==wnt)=false by simpa using hx,A3Z,if_neg (by decide),eo];exact A9k (λj hj=>hGn j (by omega)) (by omega)
  have hd3:=dfz hlt3;rw[A0M (by omega)];repeat'(apply wr<;>try simp only[go_sem,seval,hd3])
  refine⟨_,_,?_,rfl,rfl⟩;rw[hG];exact B5j hfr htc
 simp only[go_sem,seval];by_cases ka:k=11\/k=23\/k=24
 ·have ew:A1c k a=2:=by unfold A1c;rw[if_pos ka]
  rw[ew]at kL ⊢;rcases ka with rfl|rfl|rfl
  all_goals(repeat'(apply wr<;>try simp only[go_sem,seval,hGc]))
  all_goals exact kL _ hcc
 have ka1:(k==11)=false:=by simp;omega
 have ka2:(k==23)=false:=by simp;omega
 have ka3:(k==24)=false:=by simp;omega
 by_cases kb:k=21\/k=22
 ·have hl2:=h22 kb;obtain⟨x0,l0,ha⟩:∃x l,a=x::l:=by
   cases a with
   |nil=>simp at hl2
   |cons x l=>exact⟨x,l,rfl⟩
  have ew:A1c k a=M3 x0.kind:=by rw[ha];unfold A1c;rw[if_neg ka,if_pos kb]
  have hg0:a[0]? = some x0:=by rw[ha];rfl
  have hty:=c_typ32 _ (hknd x0 (by rw[ha];exact A0J));rw[ew]at kL ⊢;rcases kb with rfl|rfl
  all_goals(repeat'((with_reducible first|apply wr|refine cpc hty ?_)<;>try simp only[go_sem,seval,hGc,ka1,ka2,ka3,hg0,Ex.v_w]))
  all_goals exact kL _ hcc
 have ew:A1c k a=1:=by unfold A1c;rw[if_neg ka,if_neg kb]
 rw[ew]at kL ⊢;have kb1:(k==21)=false:=by simp;omega
 have kb2:(k==22)=false:=by simp;omega
 repeat'(apply wr<;>try simp only[go_sem,seval,hGc,ka1,ka2,ka3,kb1,kb2])
 exact kL _ hcc
theorem B4f{H:Hp}{i j:Nat}{a b:Blk}(h:i≠j):(H.upd i a).upd j b=(H.upd j b).upd i a:=by
 funext k
 by_cases e:k=j
 ·subst e;rw[A0,h_ne (Ne.symm h),A0]
 ·rw[h_ne e];by_cases e2:k=i
  ·subst e2;rw[A0,A0]
  ·rw[h_ne e2,h_ne e2,h_ne e]
theorem B4q{H:Hp}{t c:Nat}{b1 b:Blk}(hG:∀j,c<=j->H j=none)(htc:t<c):Sym.Sub (H.upd t b) ((H.upd c b1).upd t b):=by
 rw[<- B4f (Nat.ne_of_lt htc)];exact C2m hG htc
theorem C8e(k:Int)(b:Bool):M3 k=(if b=true then 2 else 1)↔(M3 k==2)=b:=by
 unfold M3;cases b<;>cases C7p k<;>simp
theorem c_blk32(r:Ru)(hk:Y5 r.decls):∀(m:Nat) (l:List Pb.St) (d:Nat),Pb.St.szs l<m->Pb.St.szs l<=100000000->G6 d l=true->∀(s:Int × Int) (H:Hp) (cc t:Nat) (ht:H t=some (ckB r s)) (htc:t<cc),
  AC Tryz.prog 61 [.ptr t 0,D5 l] H cc (λv H' c'=>v=.tup []/\H'=H.upd t (ckB r (upS s (erB r l)))):=by
 intro m
 induction m with
 |zero=>intro l d h;omega
 |succ m ih =>
 intro l d hm hB hv s H cc t ht htc;have hl:=Pb.St.szs_len l;refine AC.go A2 λhfr=>?_;repeat'(apply wr<;>try simp only[go_sem,seval])
 have hHt:H=H.upd t (ckB r s):=(upd_same ht).symm;refine A6 (λi:Nat=>[(0,.ptr t 0),(9,D5 l),(10,I64 l.length),(11,I64 i)]) (λi=>H.upd t (ckB r (upS s (erB r (l.take i))))) (λi c=>cc<=c/\i<=l.length) (λi=>l.length-i) 0 (by simp[B7,tm,Tm.upd]) (by rw[A1I,erB,L5, <- hHt];exact Sub.refl _) ⟨by omega,A0P _⟩ ?_;rintro i c ⟨h1c,hki⟩;by_cases hlt:i<l.length
 ·have hd:=dtz hlt;have hg:=A0B hlt;have hw:=w64 (n:=(i:Int)+1);have hsx:=Pb.St.szs_mem (A0L hlt);obtain⟨v1,v2,v3⟩:=B0b (A7f hv _ (A0L hlt));have het:=B8p (r:=r) hg;rw[D8q]at het;generalize l[i]=x at hg hsx v1 v2 v3 het;have hsa:Ex.szs x.args<x.sz:=by cases x with|mk k n t a x y p=>rw[Pb.St.sz];show Ex.szs a<_;omega
  have hal:=Ex.szs_len x.args;have hX:=ih x.thn (d+1) (by have:=x.sz_thn;omega) (by have:=x.sz_thn;omega) v2;have hY:=ih x.els (d+1) (by have:=x.sz_els;omega) (by have:=x.sz_els;omega) v3;have hk1:=c_inS32 x.kind;obtain⟨s0,hs0⟩:∃s0,s0=upS s (erB r (l.take i)):=⟨_,rfl⟩;have hfin:upS s (erB r (l.take (i+1)))=upS s0 ((((dnE r x.name (kdS x.kind) x.pos).or (erA r (x.kind==2) x.args)).or (erB r x.thn)).or (erB r x.els)):=by rw[het, <- L4 (B5b _ _), <- hs0]
  rw[<- hs0];have ne0:=W9 t c (by omega);repeat'((with_reducible first|apply wr|refine cpc hk1 ?_)<;>try simp only[go_sem,seval,hd,hg,Pb.St.v_w,A0,A4])
  obtain⟨G,hG⟩:∃G,G=H.upd c ⟨0,true,[I64 x.kind,.str x.name,.str x.text,H9 x.args,D5 x.thn,D5 x.els,I64 x.pos]⟩:=⟨_,rfl⟩;have hGc:∀b,(G.upd t b) c=some ⟨0,true,[I64 x.kind,.str x.name,.str x.text,H9 x.args,D5 x.thn,D5 x.els,I64 x.pos]⟩:=λb=>by rw[hnO,hG,A0]
  have hGn:∀j,c+1<=j->G j=none:=λj hj=>by rw[hG,hnO];exact hfr j (by omega)
  rw[B4f (by omega), <- hG];refine⟨by and_intros<;>(rw[hnO];exact hGn _ (by omega)),?_⟩;refine AC.call (c_den32 r hk s0 _ _ t A0 (by omega) x.name (kdS x.kind) x.pos) ?_;rintro v' H' c2 ⟨rfl,rfl⟩ hc2;rw[A4];obtain⟨s1,hs1⟩:∃s1,s1=upS s0 (dnE r x.name (kdS x.kind) x.pos):=⟨_,rfl⟩;rw[A2V,A2V, <- L4 (B2y _ _ _ _), <- hs1]at hfin;rw[<- hs1];have kL:∀c3:Nat,c+1<=c3->IW Tryz.prog 56 (.loop (pz Tryz.prog 61 (.o (.i (.i (.i .h)))))) ⟨tm [(0,.ptr t 0),(5,.ptr c 0),(6,I64 (if(x.kind==2)=true then 2 else 1)),(9,D5 l),(10,I64 l.length),(11,I64 i),(28,H9 x.args),(29,I64 x.args.length),(30,I64 0)],G.upd t (ckB r s1),c3⟩ (bk 2 (sq Tryz.prog 56 (pz Tryz.prog 61 (.o (.o (.o (.o (.i .h)))))) (bk 1 (sq Tryz.prog 56 (pz Tryz.prog 61 (.i (.i (.o (.o (.i .h))))))
    (lp (λi:Nat=>[(0,DV.ptr t 0),(9,D5 l),(10,I64 l.length),(11,I64 i)]) (λi:Nat=>H.upd t (ckB r (upS s (erB r (l.take i))))) (λ(i c:Nat)=>cc<=c/\i<=l.length) (λi:Nat=>l.length-i) (l.length-i) (bk 0 (rt [] λv H' c' => ∃v2 H2,GL H' [v] H2 [v2]/\v2=DV.tup []/\H2=H.upd t (ckB r (upS s (erB r l)))))))))):=by
   intro c3 hc3;obtain⟨wnt,hwnt⟩:∃wnt:Int,wnt=if(x.kind==2)=true then 2 else 1:=⟨_,rfl⟩
   rw[<- hwnt];refine A6 (λj:Nat=>[(0,.ptr t 0),(5,.ptr c 0),(6,I64 wnt),(9,D5 l),(10,I64 l.length),(11,I64 i),(28,H9 x.args),(29,I64 x.args.length),(30,I64 j)]) (λj=>G.upd t (ckB r (upS s1 (erA r (x.kind==2) (x.args.take j))))) (λj c4=>c+1<=c4/\j<=x.args.length) (λj=>x.args.length-j) 0 (by simp[B7,tm,Tm.upd]) (by rw[A1I,erA,L5];exact Sub.refl _) ⟨by omega,A0P _⟩ ?_;rintro j c4 ⟨h4c,hkj⟩;by_cases hlt2:j<x.args.length
   ·have hd2:=dtz hlt2;have hg2:=A0B hlt2;have hw2:=w64 (n:=(j:Int)+1);have hxs:=Ex.szs_mem (A0L hlt2);have hmy:=v1 _ (A0L hlt2);have heA:=B8q (r:=r) (b:=x.kind==2) hg2;generalize x.args[j]=y at hg2 hxs hmy heA;have hex:=c_exp32 r hk _ y (A1N _) (by omega) hmy;obtain⟨qy,hqy⟩:=hmy;have hty:=c_typ32 _ (C3y hqy);rw[Ex.v_w]at hex;obtain⟨o,ho⟩:∃o,o=erA r (x.kind==2) (x.args.take j):=⟨_,rfl⟩;have hno:NzE o:=by rw[ho];exact D0o _ _ _
    have htw:=C8e y.kind (x.kind==2);rw[<- hwnt]at htw;rw[<- ho];rw[<- ho, <- A2V]at heA;have ne0:=P5 t c c4 (by omega);repeat'(apply wr<;>try simp only[go_sem,seval,hd2,hg2,Ex.v_w,A0,A4])
    refine AC.call (hex (upS s1 o) _ _ t (by rw[hnO,A0]) (by omega)) ?_;rintro v' H' c5 ⟨rfl,rfl⟩ hc5;rw[L4 hno];simp only[go_sem,seval];by_cases hx:M3 y.kind=wnt
    ·have hxn:(M3 y.kind != wnt)=false:=by simp[hx]
     repeat'((with_reducible first|apply wr|refine cpc hty ?_)<;>try simp only[go_sem,seval,hw2,ne0,A0,hxn])
     refine⟨j+1,by simp,?_,inv ⟨by omega,by omega⟩,by omega⟩;rw[heA,if_pos (htw.1 hx),A3N];exact A9k (λj hj=>hGn j (by omega)) (by omega)
    ·have hxn:(M3 y.kind != wnt)=true:=by simp[hx]
     repeat'((with_reducible first|apply wr|refine cpc hty ?_)<;>try simp only[go_sem,seval,ne0,A0,hxn])
     refine AC.call (c_fail32 r (upS s1 (o.or (erE r y))) _ _ t A0 (by omega) y.pos 49) ?_;rintro v' H' c6 ⟨rfl,rfl⟩ hc6;simp only[go_sem,seval,A4];repeat'(apply wr<;>try simp only[go_sem,seval,hw2])
     refine⟨j+1,by simp,?_,inv ⟨by omega,by omega⟩,by omega⟩;rw[L4 (hno.or (D0n _ _)),heA,if_neg (λh=>hx (htw.2 h))];exact A9k (λj hj=>hGn j (by omega)) (by omega)
   have hd2:=dfz hlt2;rw[A0M (by omega)];repeat'(apply wr<;>try simp only[go_sem,seval,hd2,hGc])
   refine AC.call (hX (upS s1 (erA r (x.kind==2) x.args)) _ _ t A0 (by omega)) ?_;rintro v' H' c5 ⟨rfl,rfl⟩ hc5;rw[A4,L4 (D0o _ _ _)];simp only[go_sem,seval];repeat'(apply wr<;>try simp only[go_sem,seval,hGc])
   refine AC.call (hY (upS s1 ((erA r (x.kind==2) x.args).or (erB r x.thn))) _ _ t A0 (by omega)) ?_;rintro v' H' c6 ⟨rfl,rfl⟩ hc6;rw[A4,L4 ((D0o _ _ _).or (B5b _ _))];simp only[go_sem,seval];repeat'(apply wr<;>try simp only[go_sem,seval,hw])
   refine⟨i+1,by simp,?_,inv ⟨by omega,by omega⟩,by omega⟩;rw[hfin,A2V,hG];exact B4q (λj hj=>hfr j (by omega)) (by omega)
  simp only[go_sem,seval];cases hb2:(x.kind==2) with
  |true =>
   rw[hb2]at kL;repeat'(apply wr<;>try simp only[go_sem,seval,hGc,hb2])
   exact kL _ (by omega)
  |false =>
   rw[hb2]at kL;repeat'(apply wr<;>try simp only[go_sem,seval,hGc,hb2])
   exact kL _ (by omega)
 have hd:=dfz hlt;rw[A0M (by omega)];repeat'(apply wr<;>try simp only[go_sem,seval,hd])
 exact⟨_,_,GL.refl _ _,rfl,rfl⟩
abbrev C5v(l:List (List UInt8)):Blk:=⟨0,true,[.mpc .s (mkK (W8 l)) (mvV (W8 l))]⟩
theorem c_head1(r:Ru)(s:Int × Int)(l:List (List UInt8))(nm:List UInt8)(p val most:Int)(H:Hp)(cc t a b mm:Nat)(ht:H t=some (ckB r s))(ha:H a=some ⟨0,true,[.ptr t 0]⟩)(hb:H b=some ⟨0,true,[.mid mm]⟩)(hm:H mm=some (C5v l))
  (htc:t<cc) (hac:a<cc) (hbc:b<cc) (hmc:mm<cc) (hta:t≠a) (htb:t≠b) (htm:t≠mm) (hbm:b≠mm) (ham:a≠mm) (hab:a≠b) :
  AC Tryz.prog 111 [.str nm,I64 p,I64 val,I64 most,.ptr a 0,.ptr b 0] H cc (λv H' c'=>v=.tup []/\H'=(H.upd t (ckB r (upS s ((if val>most then some (p,5) else none:Er).or (if l.contains nm=true then some (p,7) else none))))).upd mm (C5v (A8x l nm))):=by
 refine AC.go A2 λhfr=>?_;have hlk:=E0i nm l;have hmu:=λH c id u=>E0h nm l H c id u;obtain⟨o1,ho1⟩:∃o1:Er,o1=if val>most then some (p,5) else none:=⟨_,rfl⟩
 have n1:NzE o1:=by rw[ho1];exact B5a (by decide)
 rw[<- ho1];have hkB:∀c0,cc<=c0->IW Tryz.prog 24 (pz Tryz.prog 111 (.i (.i .h))) ⟨tm [(0,.str nm),(1,I64 p),(4,.ptr a 0),(5,.ptr b 0)],H.upd t (ckB r (upS s o1)),c0⟩ (rt [] λv H' c' => ∃v2 H2,GL H' [v] H2 [v2]/\v2=.tup []/\H2=(H.upd t (ckB r (upS s (o1.or (if l.contains nm=true then some (p,7) else none))))).upd mm (C5v (A8x l nm))):=by
  intro c0 hc0;have ne0:=X9 t a b mm (by omega);cases hc:l.contains nm with
  |false =>
   rw[hc]at hlk;rw[if_neg (by decide),A3N];repeat'(apply wr<;>try simp only[go_sem,seval,hb,hm,hlk,hmu,ne0])
   exact⟨_,_,GL.refl _ _,rfl,rfl⟩
  |true =>
   rw[hc]at hlk;rw[if_pos rfl];repeat'(apply wr<;>try simp only[go_sem,seval,ha,hb,hm,hlk,ne0])
   refine AC.call (c_fail32 r (upS s o1) _ _ t A0 (by omega) p 7) ?_;rintro v' H' c2 ⟨rfl,rfl⟩ hc2;rw[A4,L4 n1];simp only[go_sem,seval];repeat'(apply wr<;>try simp only[go_sem,seval,hb,hm,hmu,ne0])
   exact⟨_,_,GL.refl _ _,rfl,rfl⟩
 have ne0:=X9 t a b mm (by omega);by_cases hv:val>most
 ·have qv:decide (val>most)=true:=by simpa using hv
  rw[if_pos hv]at ho1;rw[ho1]at hkB ⊢;repeat'(apply wr<;>try simp only[go_sem,seval,ha,qv])
  refine AC.call (c_fail32 r s _ _ t ht (by omega) p 5) ?_;rintro v' H' c2 ⟨rfl,rfl⟩ hc2;simp only[go_sem,seval];repeat'((with_reducible first|refine I4 (p:=IW _ _ (pz Tryz.prog 111 (.i (.i .h))) _ _) ?_|refine wr ?_)<;>try simp only[go_sem,seval])
  exact IW.stage (by simp[B7,tm,Tm.upd]) (hkB _ hc2)
 ·have qv:decide (val>most)=false:=by simpa using hv
  rw[if_neg hv]at ho1;rw[ho1,L5,upd_same ht]at hkB;rw[ho1];repeat'((with_reducible first|refine I4 (p:=IW _ _ (pz Tryz.prog 111 (.i (.i .h))) _ _) ?_|refine wr ?_)<;>try simp only[go_sem,seval,qv])
  exact IW.stage (by simp[B7,tm,Tm.upd]) (hkB _ (A0E _))
def hdH(H:Hp)(r:Ru)(t cc:Nat)(s:Int × Int)(l:List (List UInt8)):Hp:=((((H.upd t (ckB r s)).upd cc ⟨0,true,[.ptr t 0]⟩).upd (cc+1) ⟨0,true,[C3 r.decls,C6 r.modes]⟩).upd (cc+2) (C5v l)).upd (cc+3) ⟨0,true,[.mid (cc+2)]⟩
theorem C4q{H:Hp}{r:Ru}{t cc:Nat}{s:Int × Int}{l:List (List UInt8)}(htc:t<cc):hdH H r t cc s l t=some (ckB r s):=by
 unfold hdH;rw[hnO,hnO,hnO,hnO,A0]
theorem D1v{H:Hp}{r:Ru}{t cc:Nat}{s:Int × Int}{l:List (List UInt8)}:hdH H r t cc s l cc=some ⟨0,true,[.ptr t 0]⟩:=by
 unfold hdH;rw[hnO,hnO,hnO,A0]
theorem C4s{H:Hp}{r:Ru}{t cc:Nat}{s:Int × Int}{l:List (List UInt8)}:hdH H r t cc s l (cc+1)=some ⟨0,true,[C3 r.decls,C6 r.modes]⟩:=by
 unfold hdH;rw[hnO,hnO,A0]
theorem D1u{H:Hp}{r:Ru}{t cc:Nat}{s:Int × Int}{l:List (List UInt8)}:hdH H r t cc s l (cc+2)=some (C5v l):=by
 unfold hdH;rw[hnO,A0]
theorem D1t{H:Hp}{r:Ru}{t cc:Nat}{s:Int × Int}{l:List (List UInt8)}:hdH H r t cc s l (cc+3)=some ⟨0,true,[.mid (cc+2)]⟩:=by
 unfold hdH;rw[A0]
theorem D1s{H:Hp}{r:Ru}{t cc:Nat}{s:Int × Int}{l:List (List UInt8)}(htc:t<cc)(hfr:∀i,cc<=i->H i=none)(j:Nat)(hj:cc+4<=j):hdH H r t cc s l j=none:=by
 unfold hdH;rw[hnO,hnO,hnO,hnO,hnO];exact hfr j (by omega)
theorem C4r{H:Hp}{r:Ru}{t cc:Nat}{s:Int × Int}{l:List (List UInt8)}(j:Nat)(hj:j<cc)(hjt:j≠t):hdH H r t cc s l j=H j:=by
 unfold hdH;rw[hnO,hnO,hnO,hnO,h_ne hjt]
theorem C1c{H X:Hp}{r:Ru}{t cc:Nat}{s:Int × Int}{l:List (List UInt8)}(htc:t<cc)(hfr:∀i,cc<=i->H i=none)(ht:X t=some (ckB r s))(h0:X cc=some ⟨0,true,[.ptr t 0]⟩)(h1:X (cc+1)=some ⟨0,true,[C3 r.decls,C6 r.modes]⟩)(h2:X (cc+2)=some (C5v l))(h3:X (cc+3)=some ⟨0,true,[.mid (cc+2)]⟩)
  (ho:∀j,j<cc->j≠t->X j=H j):Sym.Sub (hdH H r t cc s l) X:=by
 intro j b hj;by_cases hlt:j<cc
 ·by_cases hjt:j=t
  ·subst hjt;rw[C4q htc]at hj;rw[ht];exact hj
  ·rw[C4r j hlt hjt]at hj;rw[ho j hlt hjt];exact hj
 ·have h4:j<cc+4:=A1S λh=>by rw[D1s htc hfr j h]at hj;cases hj
  have:j=cc\/j=cc+1\/j=cc+2\/j=cc+3:=by omega
  rcases this with rfl|rfl|rfl|rfl
  ·rw[D1v]at hj;rw[h0];exact hj
  ·rw[C4s]at hj;rw[h1];exact hj
  ·rw[D1u]at hj;rw[h2];exact hj
  ·rw[D1t]at hj;rw[h3];exact hj
theorem c_heads32(r:Ru)(hk:Y5 r.decls)(s:Int × Int)(H:Hp)(cc t:Nat)(ht:H t=some (ckB r s))(htc:t<cc)(h1:r.decls.length<=1000000000)(h2:r.modes.length<=1000000000):
  AC Tryz.prog 55 [.ptr t 0,r.v] H cc (λv H' c'=>v=.tup []/\H'=H.upd t (ckB r (upS s (A7y r)))):=by
 have hrv:r.v=.agg [C3 r.decls,C6 r.modes]:=rfl;rw[hrv];have hkt:∀i,Y5 (r.decls.take i):=λi d hd=>hk d (List.mem_of_mem_take hd);refine AC.go A2 λhfr=>?_;have ne0:=A2y t cc (cc+1) (cc+1+1) (cc+1+1+1) (by omega);repeat'(apply wr<;>try simp only[go_sem,seval,B9e,ne0,A0,A4])
 refine A6 (λq:Nat × List (List UInt8)=>[(3,.ptr (cc+1) 0),(5,.func 111 [] [.ptr cc 0,.ptr (cc+1+1+1) 0]),(13,C3 r.decls),(14,I64 r.decls.length),(15,I64 q.1)]) (λq=>hdH H r t cc (upS s (erD [] (r.decls.take q.1))) q.2)
  (λq c=>cc+4<=c/\q.1<=r.decls.length/\∀n,q.2.contains n=(r.decls.take q.1).any (λd=>d.name==n)) (λq=>r.decls.length-q.1) (0,[]) (by simp[B7,tm,Tm.upd])
  (by
   dsimp only;rw[A1I,erD,L5];refine C1c htc hfr ?_ ?_ ?_ ?_ A0 ?_
   ·repeat rw[hnO]
    exact ht
   ·repeat rw[hnO]
    exact A0
   ·repeat rw[hnO]
    exact A0
   ·rw[hnO];exact A0
   ·intro j hj hjt
    repeat rw[hnO]) ⟨by omega,A0P _,λn=>rfl⟩ ?_
 rintro⟨i,l⟩ c ⟨h1c,hki,hsn⟩;dsimp only at hki hsn ⊢;by_cases hlt:i<r.decls.length
 ·have hd:=dtz hlt;have hg:=A0B hlt;have hw:=w64 (n:=(i:Int)+1);have het:=D2s hg;have hnx:=λn=>A8h (λd:Dc=>d.name==n) r.decls i _ hg;have hlo:=λn=>A9r (r.decls.take i) [] n (hkt i);generalize r.decls[i]=d at hg het hnx;have hmo:=c_most32 d.kind;obtain⟨o,ho⟩:∃o,o=erD [] (r.decls.take i):=⟨_,rfl⟩;have hno:NzE o:=by rw[ho];exact C6e _ _
  rw[<- ho]at het ⊢;have hb0:hdH H r t cc (upS s o) l cc=_:=D1v;have hb1:hdH H r t cc (upS s o) l (cc+1)=_:=C4s;have hb2:hdH H r t cc (upS s o) l (cc+2)=_:=D1u;have hb3:hdH H r t cc (upS s o) l (cc+1+1+1)=_:=D1t;have hbt:hdH H r t cc (upS s o) l t=_:=C4q htc;have hbn:=D1s (s:=upS s o) (l:=l) (r:=r) htc hfr;have hbo:=C4r (H:=H) (cc:=cc) (t:=t) (s:=upS s o) (l:=l) (r:=r);generalize hdH H r t cc (upS s o) l=HH at hb0 hb1 hb2 hb3 hbt hbn hbo ⊢;have ne0:=X9 c t cc (cc+1) (by omega);repeat'((with_reducible first|apply wr|refine cpc hmo ?_)<;>try simp only[go_sem,seval,hd,hg,A4o,A0,A4])
  refine⟨by and_intros<;>(rw[hnO];exact hbn _ (by omega)),?_⟩;refine AC.call (c_head1 r (upS s o) l d.name d.pos d.value (A4l d.kind) _ _ t cc (cc+1+1+1) (cc+2) (by rw[hnO];exact hbt) (by rw[hnO];exact hb0) (by rw[hnO];exact hb3) (by rw[hnO];exact hb2) (by omega) (by omega) (by omega) (by omega) (by omega) (by omega) (by omega) (by omega) (by omega) (by omega)) ?_;rintro v' H' c2 ⟨rfl,rfl⟩ hc2;have est:((if d.value>A4l d.kind then some (d.pos,5) else none:Er).or (if l.contains d.name=true then some (d.pos,7) else none))=stD (r.decls.take i) d:=by
   unfold stD
   congr 1
   rw[hsn];have:=hlo d.name;cases ha:(r.decls.take i).any (λx=>x.name==d.name) with
   |true=>rw[ha]at this;rw[if_pos rfl,if_neg (λh=>by simpa using (this.1 h).1)]
   |false=>rw[ha]at this;rw[if_neg (by decide),if_pos (this.2 ⟨rfl,rfl⟩)]
  rw[est,L4 hno, <- het];simp only[go_sem,seval];repeat'(apply wr<;>try simp only[go_sem,seval,hw])
  refine⟨(i+1,A8x l d.name),by simp[],?_,inv ⟨by omega,by omega,λn=>?_⟩,by simp only;omega⟩
  ·refine C1c htc hfr ?_ ?_ ?_ A0 ?_ ?_
   ·rw[hnO,A0]
   ·repeat rw[hnO]
    exact hb0
   ·repeat rw[hnO]
    exact hb1
   ·repeat rw[hnO]
    exact hb3
   ·intro j hj hjt;rw[hnO,h_ne hjt,hnO];exact hbo j hj hjt
  ·simp only;rw[B6t,hsn,hnx]
   congr 1
   rw[A2G];simp;exact eq_comm
 have hd:=dfz hlt;rw[A0M (by omega)]at hsn ⊢;have hb1:hdH H r t cc (upS s (erD [] r.decls)) l (cc+1)=_:=C4s;repeat'(apply wr<;>try simp only[go_sem,seval,hd,hb1])
 clear hd hlt hki i hb1;have hrp:A7y r=(erD [] r.decls).or (erP r.decls [] r.modes):=rfl;rw[hrp, <- L4 (C6e _ _)];obtain⟨s1,hs1⟩:∃s1,s1=upS s (erD [] r.decls):=⟨_,rfl⟩;rw[<- hs1];refine A6 (λq:Nat × List (List UInt8)=>[(5,.func 111 [] [.ptr cc 0,.ptr (cc+1+1+1) 0]),(32,C6 r.modes),(33,I64 r.modes.length),(34,I64 q.1)]) (λq=>hdH H r t cc (upS s1 (erP r.decls [] (r.modes.take q.1))) q.2)
  (λq c=>cc+4<=c/\q.1<=r.modes.length/\∀n,q.2.contains n=(r.decls.any (λd=>d.name==n)||(r.modes.take q.1).any (λd=>d.name==n))) (λq=>r.modes.length-q.1) (0,l) (by simp[B7,tm,Tm.upd])
  (by
   dsimp only;rw[A1I,erP,L5];exact Sub.refl _) ⟨h1c,A0P _,λn=>by rw[hsn];simp⟩ ?_
 clear hsn h1c c l hs1;rintro⟨i,l⟩ c ⟨h1c,hki,hsn⟩;dsimp only at hki hsn ⊢;by_cases hlt:i<r.modes.length
 ·have hd:=dtz hlt;have hg:=A0B hlt;have hw:=w64 (n:=(i:Int)+1);have het:=D2n (D:=r.decls) hg;have hnx:=λn=>A8h (λd:Md=>d.name==n) r.modes i _ hg;have hlo:=λn=>A9r r.decls (r.modes.take i) n hk;generalize r.modes[i]=d at hg het hnx;obtain⟨o,ho⟩:∃o,o=erP r.decls [] (r.modes.take i):=⟨_,rfl⟩;have hno:NzE o:=by rw[ho];exact D0m _ _ _
  rw[<- ho]at het ⊢;have hb0:hdH H r t cc (upS s1 o) l cc=_:=D1v;have hb1:hdH H r t cc (upS s1 o) l (cc+1)=_:=C4s;have hb2:hdH H r t cc (upS s1 o) l (cc+2)=_:=D1u;have hb3:hdH H r t cc (upS s1 o) l (cc+1+1+1)=_:=D1t;have hbt:hdH H r t cc (upS s1 o) l t=_:=C4q htc;have hbn:=D1s (s:=upS s1 o) (l:=l) (r:=r) htc hfr;have hbo:=C4r (H:=H) (cc:=cc) (t:=t) (s:=upS s1 o) (l:=l) (r:=r);generalize hdH H r t cc (upS s1 o) l=HH at hb0 hb1 hb2 hb3 hbt hbn hbo ⊢;have ne0:=X9 c t cc (cc+1) (by omega);repeat'(apply wr<;>try simp only[go_sem,seval,hd,hg,B0z,A0,A4])
  refine AC.call (c_head1 r (upS s1 o) l d.name d.pos d.prio 99 _ _ t cc (cc+1+1+1) (cc+2) (by rw[hnO];exact hbt) (by rw[hnO];exact hb0) (by rw[hnO];exact hb3) (by rw[hnO];exact hb2) (by omega) (by omega) (by omega) (by omega) (by omega) (by omega) (by omega) (by omega) (by omega) (by omega)) ?_;rintro v' H' c2 ⟨rfl,rfl⟩ hc2;have est:((if d.prio>99 then some (d.pos,5) else none:Er).or (if l.contains d.name=true then some (d.pos,7) else none))=stP r.decls (r.modes.take i) d:=by
   unfold stP
   congr 1
   rw[hsn];have:=hlo d.name;cases ha:r.decls.any (λx=>x.name==d.name) with
   |true=>rw[ha]at this;rw[Bool.true_or,if_pos rfl,if_neg (λh=>by simpa using (this.1 h).1)]
   |false =>
    rw[ha]at this;cases ha2:(r.modes.take i).any (λx=>x.name==d.name) with
    |true=>rw[ha2]at this;rw[Bool.false_or,if_pos rfl,if_neg (λh=>by simpa using (this.1 h).2)]
    |false=>rw[ha2]at this;rw[Bool.false_or,if_neg (by decide),if_pos (this.2 ⟨rfl,rfl⟩)]
  rw[est,L4 hno, <- het];simp only[go_sem,seval];repeat'(apply wr<;>try simp only[go_sem,seval,hw])
  refine⟨(i+1,A8x l d.name),by simp[],?_,inv ⟨by omega,by omega,λn=>?_⟩,by simp only;omega⟩
  ·refine C1c htc hfr ?_ ?_ ?_ A0 ?_ ?_
   ·rw[hnO,A0]
   ·repeat rw[hnO]
    exact hb0
   ·repeat rw[hnO]
    exact hb1
   ·repeat rw[hnO]
    exact hb3
   ·intro j hj hjt;rw[hnO,h_ne hjt,hnO];exact hbo j hj hjt
  ·simp only;rw[B6t,hsn,hnx,Bool.or_assoc]
   congr 2
   rw[A2G];simp;exact eq_comm
 have hd:=dfz hlt;rw[A0M (by omega)];repeat'(apply wr<;>try simp only[go_sem,seval,hd])
 refine⟨_,_,GL.less' (λj b hj=>?_),rfl,rfl⟩;by_cases e:j=t
 ·subst e;rw[A0]at hj;rw[C4q htc];exact hj
 ·rw[h_ne e]at hj;have:j<cc:=A1S λh=>by rw[hfr _ h]at hj;cases hj
  rw[C4r j this e];exact hj
theorem c_chk1(x h:Hd):PC Tryz.prog 59 [x.v,.fptr [I64 h.trig,.str h.name,D5 h.body,I64 h.pos]] (.bool (x.trig==h.trig&&x.name==h.name)):=by
 rw[A4x];refine PC.go A2 ?_;cases h1:(x.trig==h.trig) with
 |false =>
  repeat'(apply wr<;>try simp only[go_sem,seval,h1])
  exact A1 rfl
 |true =>
  cases h2:(x.name==h.name) with
  |false =>
   repeat'(apply wr<;>try simp only[go_sem,seval,h1,h2])
   exact A1 rfl
  |true =>
   repeat'(apply wr<;>try simp only[go_sem,seval,h1,h2])
   exact A1 rfl
theorem c_Check32(r:Ru)(hB:r.sz<4000000):PC Tryz.prog 25 [r.v] (B5u r):=by
 have hv:=c_Valid r (by omega);have hdl:=B0f r;have hml:=B0e r;have hnm:=c_names r (by omega) (by omega);have hch:B5u r=if L9 r=true then erV (A4p r) else .tup [I64 0,I64 1]:=rfl
 refine PC.ofT A2 rfl (A0H rfl) (by simp[DV.nlL,DV.nl,K7,K6]) (C5b _) ?_;have hrv:r.v=.agg [C3 r.decls,C6 r.modes]:=rfl;cases hvd:L9 r with
 |false =>
  rw[hvd]at hv hch;rw[hch];rw[hrv]at hv ⊢;repeat'((with_reducible first|apply wr|refine cpc hv ?_)<;>try simp only[go_sem,seval])
  exact A1 rfl
 |true =>
 have hk:=D9g hvd;have hbv:=@B6e _ r hvd;have hms:∀m∈r.modes,m.sz<=r.sz:=λm h=>C8n h;rw[hvd]at hv hch;rw[if_pos rfl]at hch;rw[hch,E3e];unfold A4p;rw[<- L4 (D0l r)];have hhd:=λH cc t ht htc=>c_heads32 r hk (0,0) H cc t ht htc (by omega) (by omega);obtain⟨K,V,hKV⟩:∃K V,nmV r=.mp .s K V:=⟨_,_,rfl⟩;have hck:∀s:Int × Int,(⟨0,true,[.mp .s K V,I64 s.1,I64 s.2]⟩:Blk)=ckB r s:=λs=>by unfold ckB;rw[hKV]
 rw[hKV]at hnm;rw[hrv]at hv hnm hhd ⊢;repeat'((with_reducible first|apply wr|refine cpc hv ?_|refine cpc hnm ?_)<;>try simp only[go_sem,seval])
 refine AC.call (hhd _ _ 1 (by rw[A0];exact congrArg some (hck (0,0))) (by omega)) ?_;rintro v' H' c' ⟨rfl,rfl⟩ hcc;rw[A4];obtain⟨s0,hs0⟩:∃s0,s0=upS (0,0) (A7y r):=⟨_,rfl⟩;rw[<- hs0];have hb0:∀b,((Sym.nil.upd 0 ⟨0,true,[C3 r.decls,C6 r.modes]⟩).upd 1 b) 0=some ⟨0,true,[C3 r.decls,C6 r.modes]⟩:=λb=>rfl;simp only[go_sem,seval];repeat'(apply wr<;>try simp only[go_sem,seval,hb0])
 have hG0:∀j,1<=j->(Sym.nil.upd 0 ⟨0,true,[C3 r.decls,C6 r.modes]⟩) j=none:=λj hj=>by rw[hnO];rfl
 generalize Sym.nil.upd 0 ⟨0,true,[C3 r.decls,C6 r.modes]⟩=G0 at hG0 ⊢;clear hb0 hs0 hhd;refine A6 (λi:Nat=>[(4,.ptr 1 0),(20,C6 r.modes),(21,I64 r.modes.length),(22,I64 i)]) (λi=>G0.upd 1 (ckB r (upS s0 (erM r (r.modes.take i))))) (λi c=>2<=c/\i<=r.modes.length) (λi=>r.modes.length-i) 0 (by simp[B7,tm,Tm.upd]) (by rw[A1I,erM,L5];exact Sub.refl _) ⟨by omega,A0P _⟩ ?_;rintro i c ⟨h1c,hki⟩;by_cases hlt:i<r.modes.length
 ·have hd:=dtz hlt;have hg:=A0B hlt;have hw:=w64 (n:=(i:Int)+1);have hms:=hms _ (A0L hlt);have hbv:=hbv _ (A0L hlt);have het:=B8k (r:=r) hg;generalize r.modes[i]=d at hg hms hbv het;have hhl:=D7v d;obtain⟨s1,hs1⟩:∃s1,s1=upS s0 (erM r (r.modes.take i)):=⟨_,rfl⟩;rw[<- hs1];have hfin:upS s0 (erM r (r.modes.take (i+1)))=upS s1 (erH r [] d.hds):=by rw[het, <- L4 (D5l _ _), <- hs1]
  have ne0:=W9 1 c (by omega);repeat'(apply wr<;>try simp only[go_sem,seval,hd,hg,B0z,A0,A4])
  obtain⟨G,hG⟩:∃G,G=G0.upd c ⟨0,true,[.str d.name,I64 d.prio,M5 d.hds,I64 d.pos]⟩:=⟨_,rfl⟩;have hGc:∀b,(G.upd 1 b) c=some ⟨0,true,[.str d.name,I64 d.prio,M5 d.hds,I64 d.pos]⟩:=λb=>by rw[hnO,hG,A0]
  have hGn:∀j,c+1<=j->G j=none:=λj hj=>by rw[hG,hnO];exact hG0 j (by omega)
  rw[B4f (by omega), <- hG];refine A6 (λj:Nat=>[(4,.ptr 1 0),(6,.ptr c 0),(20,C6 r.modes),(21,I64 r.modes.length),(22,I64 i),(27,M5 d.hds),(28,I64 d.hds.length),(29,I64 j)]) (λj=>G.upd 1 (ckB r (upS s1 (erH r [] (d.hds.take j))))) (λj c2=>c+1<=c2/\j<=d.hds.length) (λj=>d.hds.length-j) 0 (by simp[B7,tm,Tm.upd]) (by rw[A1I,erH,L5];exact Sub.refl _) ⟨by omega,A0P _⟩ ?_;rintro j c2 ⟨h2c,hkj⟩;by_cases hlt2:j<d.hds.length
  ·have hd2:=dtz hlt2;have hg2:=A0B hlt2;have hw2:=w64 (n:=(j:Int)+1);have hxs:=C8o (A0L hlt2);have hbv:=hbv _ (A0L hlt2);have heH:=D2q (r:=r) hg2;generalize d.hds[j]=x at hg2 hxs hbv heH;have hxe:x.sz=1+x.name.length+Pb.St.szs x.body:=rfl;have hbl:=c_blk32 r hk _ x.body 1 (A1N _) (by omega) hbv;have hik:=c_inH32 x.trig;have hcf:=c_CF_hd (f:=59) (a:=[]) (cs:=[.fptr [I64 x.trig,.str x.name,D5 x.body,I64 x.pos]]) (g:=λy=>y.trig==x.trig&&y.name==x.name) (d.hds.take j) (by rw[A0Y];omega) rfl (by simp[DV.nlL,DV.nl,X8]) (λy _=>c_chk1 y x);obtain⟨o,ho⟩:∃o,o=erH r [] (d.hds.take j):=⟨_,rfl⟩;have hno:NzE o:=by rw[ho];exact E1n _ _ _
   rw[<- ho]at heH ⊢;have hsl:=λH=>B4r (xs:=d.hds.map Hd.v) (h:=j) (sz:=4) (by rw[A0C];omega) (A3z _) H;rw[<- List.map_take]at hsl;have ne0:=P5 1 c c2 (by omega);repeat'((with_reducible first|apply wr|refine cpc hik ?_)<;>try simp only[go_sem,seval,hd2,hg2,A4x,A0,A4])
   obtain⟨G2,hG2⟩:∃G2,G2=G.upd c2 ⟨0,true,[I64 x.trig,.str x.name,D5 x.body,I64 x.pos]⟩:=⟨_,rfl⟩;have h2c2:∀b,(G2.upd 1 b) c2=some ⟨0,true,[I64 x.trig,.str x.name,D5 x.body,I64 x.pos]⟩:=λb=>by rw[hnO,hG2,A0]
   have h2c:∀b,(G2.upd 1 b) c=some ⟨0,true,[.str d.name,I64 d.prio,M5 d.hds,I64 d.pos]⟩:=λb=>by rw[hnO,hG2,hnO,hG,A0]
   have h2n:∀j,c2+1<=j->G2 j=none:=λj hj=>by rw[hG2,hnO];exact hGn j (by omega)
   rw[B4f (by omega), <- hG2];refine⟨by and_intros<;>(rw[hnO];exact h2n _ (by omega)),?_⟩;refine AC.call (c_den32 r hk (upS s1 o) _ _ 1 A0 (by omega) x.name (kdH x.trig) x.pos) ?_;rintro v' H' c3 ⟨rfl,rfl⟩ hc3;rw[A4,L4 hno];obtain⟨o2,ho2⟩:∃o2,o2=o.or (dnE r x.name (kdH x.trig) x.pos):=⟨_,rfl⟩;have hno2:NzE o2:=by rw[ho2];exact hno.or (B2y _ _ _ _)
   have heH2:erH r [] (d.hds.take (j+1))=(o2.or (if(d.hds.take j).any (λy=>y.trig==x.trig&&y.name==x.name)=true then some (x.pos,7) else none)).or (erB r x.body):=by
    rw[heH,ho2];unfold stH;simp only[A2V]
   rw[<- ho2];simp only[go_sem,seval];generalize (d.hds.take j).any (λy=>y.trig==x.trig&&y.name==x.name)=bq at hcf heH2;have kE:∀(s2:Int × Int) (c4:Nat),c2+1<=c4->upS s1 (erH r [] (d.hds.take (j+1)))=upS s2 (erB r x.body)->IW Tryz.prog 67 (pz Tryz.prog 25 (.o (.o (.i (.o (.i .h)))))) ⟨tm [(4,.ptr 1 0),(6,.ptr c 0),(8,.ptr c2 0),(20,C6 r.modes),(21,I64 r.modes.length),(22,I64 i),(27,M5 d.hds),(28,I64 d.hds.length),(29,I64 j)],G2.upd 1 (ckB r s2),c4⟩ (bk 3
      (sq Tryz.prog 67 (pz Tryz.prog 25 (.i (.o (.i (.o (.i .h))))))
       (lp (λj:Nat=>[(4,DV.ptr 1 0),(6,DV.ptr c 0),(20,C6 r.modes),(21,I64 r.modes.length),(22,I64 i),(27,M5 d.hds),(28,I64 d.hds.length),(29,I64 j)])
        (λj:Nat=>G.upd 1 (ckB r (upS s1 (erH r [] (d.hds.take j)))))
        (λj c2=>c+1<=c2/\j<=d.hds.length) (λj=>d.hds.length-j) (d.hds.length-j)
        (bk 2
         (bk 1
          (sq Tryz.prog 67 (pz Tryz.prog 25 (.o (.i (.i (.o (.i .h))))))
           (lp (λi:Nat=>[(4,DV.ptr 1 0),(20,C6 r.modes),(21,I64 r.modes.length),(22,I64 i)])
            (λi:Nat=>G0.upd 1 (ckB r (upS s0 (erM r (r.modes.take i)))))
            (λi c=>2<=c/\i<=r.modes.length) (λi=>r.modes.length-i) (r.modes.length-i)
            (bk 0
             (sq Tryz.prog 67 (pz Tryz.prog 25 (.i (.i (.i (.o (.i .h))))))
              (rt [Eng.RV.tmp 2,Eng.RV.tmp 3] λv H' x =>
               ∃H2,GL H' [v] H2 [DV.tup [I64 (upS s0 (erM r r.modes)).1,I64 (upS s0 (erM r r.modes)).2]])))))))))):=by
    intro s2 c4 hc4 hs2;repeat'(apply wr<;>try simp only[go_sem,seval,h2c2])
    refine AC.call (hbl s2 _ _ 1 A0 (by omega)) ?_;rintro v' H' c5 ⟨rfl,rfl⟩ hc5;rw[A4, <- hs2];simp only[go_sem,seval];repeat'(apply wr<;>try simp only[go_sem,seval,hw2])
    refine⟨j+1,by simp,?_,inv ⟨by omega,by omega⟩,by omega⟩;rw[hG2];exact B4q (λj hj=>hGn j (by omega)) (by omega)
   cases bq with
   |true =>
    rw[if_pos rfl]at heH2;repeat'((first|(with_reducible first|apply wr)|(with_reducible apply wb2<;>(intro hb;try simp only[hb]))|(refine AC.call (hcf.lend rfl (GL.one (id:=c2) (b:=⟨0,true,[I64 x.trig,.str x.name,D5 x.body,I64 x.pos]⟩) (h2c2 _) rfl (.cons _ _ _ _ (.same _) (.cons _ _ _ _ (.func _ _ _ _ _ .nil (.cons _ _ _ _ (.ptr 0 _ (A0P _) rfl) .nil)) .nil)))) ?_<;>rintro v' H' c' ⟨rfl,rfl,rfl⟩ hcc))<;>try simp only[go_sem,seval,h2c2,h2c,hsl])
    refine AC.call (c_fail32 r (upS s1 o2) _ _ 1 A0 (by omega) x.pos 7) ?_;rintro v' H' c5 ⟨rfl,rfl⟩ hc5;rw[A4,L4 hno2];simp only[go_sem,seval];repeat'((with_reducible first|refine I4 (p:=IW _ _ (pz Tryz.prog 25 (.o (.o (.i (.o (.i .h)))))) _ _) ?_|refine wr ?_)<;>try simp only[go_sem,seval])
    refine IW.stage (by simp[B7,tm,Tm.upd]) (kE _ _ (by omega) ?_);rw[heH2,L4 (hno2.or (λa b h=>by cases h;decide))]
   |false =>
    rw[if_neg (by decide),A3N]at heH2;repeat'((first|(with_reducible first|refine I4 (p:=IW _ _ (pz Tryz.prog 25 (.o (.o (.i (.o (.i .h)))))) _ _) ?_|refine wr ?_)|(with_reducible apply wb2<;>(intro hb;try simp only[hb]))|(refine AC.call (hcf.lend rfl (GL.one (id:=c2) (b:=⟨0,true,[I64 x.trig,.str x.name,D5 x.body,I64 x.pos]⟩) (h2c2 _) rfl (.cons _ _ _ _ (.same _) (.cons _ _ _ _ (.func _ _ _ _ _ .nil (.cons _ _ _ _ (.ptr 0 _ (A0P _) rfl) .nil)) .nil)))) ?_<;>rintro v' H' c' ⟨rfl,rfl,rfl⟩ hcc))<;>try simp only[go_sem,seval,h2c,hsl])
    refine IW.stage (by simp[B7,tm,Tm.upd]) (kE _ _ (by omega) ?_);rw[heH2,L4 hno2]
  have hd2:=dfz hlt2;rw[A0M (by omega)];repeat'(apply wr<;>try simp only[go_sem,seval,hd2,hw])
  refine⟨i+1,by simp,?_,inv ⟨by omega,by omega⟩,by omega⟩;rw[hfin,hG];exact B4q (λj hj=>hG0 j (by omega)) (by omega)
 have hd:=dfz hlt;rw[A0M (by omega)];have hb1:(G0.upd 1 (ckB r (upS s0 (erM r r.modes)))) 1=some (ckB r (upS s0 (erM r r.modes))):=A0;have hcs:=(hck (upS s0 (erM r r.modes))).symm;have hbn:∀j,c<=j->(G0.upd 1 (ckB r (upS s0 (erM r r.modes)))) j=none:=λj hj=>by rw[hnO];exact hG0 j (by omega)
 rw[hcs]at hb1 hbn ⊢;repeat'(apply wr<;>try simp only[go_sem,seval,hd,hb1])
 refine⟨by and_intros<;>exact hG0 _ (by omega),?_⟩;repeat'(apply wr<;>try simp only[go_sem,seval])
 exact A1 rfl
theorem C5a(q:Prg × Int × Int):(B5t q).nl=true:=by
 simp[B5t,Prg.v,Prg.cs,DV.nlL,DV.nl,S0,J6,A2a,Q7]
abbrev cd0:List DV:=[.snil,.snil,.snil,.snil,.snil,I64 0,I64 0]
theorem D9j{ρ:Ren}{v:Value}{p c:Int}(h:VRel ρ (.tup [.agg cd0,I64 p,I64 c]) v):VRel ρ (B5t (B6b,p,c)) v:=by
 obtain⟨bb,rfl,k1,k2⟩:=h.tup_inv;refine .tup _ _ k1 λj x y hx hy=>?_
 match j with
 |0 =>
  cases hx;have h0:=k2 0 (.agg cd0) y rfl hy;obtain⟨b2,rfl,m1,m2⟩:=h0.agg_inv;refine .agg _ _ m1 λj x y hx hy=>?_
  match j with
  |0=>cases hx;exact(m2 0 _ y rfl hy).snil_lst
  |1=>cases hx;exact(m2 1 _ y rfl hy).snil_lst
  |2=>cases hx;exact(m2 2 _ y rfl hy).snil_lst
  |3=>cases hx;exact(m2 3 _ y rfl hy).snil_lst
  |4=>cases hx;exact(m2 4 _ y rfl hy).snil_lst
  |5=>cases hx;exact m2 5 _ y rfl hy
  |6=>cases hx;exact m2 6 _ y rfl hy
  |_+7=>cases hx
 |1=>cases hx;exact k2 1 _ y rfl hy
 |2=>cases hx;exact k2 2 _ y rfl hy
 |_+3=>cases hx
theorem A0q{H:Hp}{p c:Int}:∃H2,GL H [.tup [.agg cd0,I64 p,I64 c]] H2 [B5t (B6b,p,c)] :=
 ⟨H,GL.view fun ρ vs hA=>M9 (λv h=>D9j h) vs hA⟩
theorem D6q{X0:Hp}{a b eo:Option Nat}{x:Cg}{E:List Ent}{p v m:DV}{t n:Int}{c:Nat}{ds:List DV}(h:GN (optH X0 eo ⟨4,true,cellsL (E.map Ent.v)⟩) 2 a b x c)(he:∀i,eo=some i->3<=i)(hn:eo=none->E=[])
  (hp:p.one=true) (hv:v.one=true) (hm:m.one=true) :
  ∃Y,GL (GM (optH X0 eo ⟨4,true,cellsL (E.map Ent.v)⟩) 2 a b (mkP (todoV eo E.length) p v m t n) x) ds Y ds/\Y 2=some ⟨0,true,[A2l x.1,strs x.2,B3t E,p,v,I64 t,I64 n,m]⟩/\∀j B,j≠2->X0 j=some B->(∀i,eo=some i->i≠j)->Y j=some B:=by
 have o1:∀(o:Option Nat) (n:Nat),(todoV o n).one=true:=λo n=>by cases o<;>rfl
 have heX:∀i,eo=some i->(optH X0 eo ⟨4,true,cellsL (E.map Ent.v)⟩) i=some ⟨4,true,cellsL (E.map Ent.v)⟩:=λi hi=>by subst hi;exact A0
 have g1:=A3f (H:=GM (optH X0 eo ⟨4,true,cellsL (E.map Ent.v)⟩) 2 a b (mkP (todoV eo E.length) p v m t n) x) (k:=2) (o:=a) (n:=x.1.length) (u:=2) (u':=2) (pre:=[]) (suf:=[todoV b x.2.length,todoV eo E.length,p,v,I64 t,I64 n,m]) (xs:=x.1.map Ins.v) (ds:=ds)
  (Y6 h) (λi hi=>⟨A5s h hi,(h.ha i hi).1⟩) (λe=>by rw[h.an e];rfl) (λd hd=>by simp at hd;rcases hd with rfl|rfl|rfl|rfl|rfl|rfl|rfl<;>(first|exact o1 _ _|assumption|rfl)) (by simp) (λy hy=>by obtain⟨z, -,rfl⟩:=A1B.1 hy;rfl)
 obtain⟨Y1,hY1⟩:∃Y:Hp,Y=(delO (GM (optH X0 eo ⟨4,true,cellsL (E.map Ent.v)⟩) 2 a b (mkP (todoV eo E.length) p v m t n) x) a).upd 2 ⟨0,true,[]++[.lst (x.1.map Ins.v)]++[todoV b x.2.length,todoV eo E.length,p,v,I64 t,I64 n,m]⟩:=⟨_,rfl⟩;rw[<- hY1]at g1;have y1:∀j,j≠2->(∀i,a=some i->¬j=i)->Y1 j=GM (optH X0 eo ⟨4,true,cellsL (E.map Ent.v)⟩) 2 a b (mkP (todoV eo E.length) p v m t n) x j:=λj h1 h2=>by rw[hY1,h_ne h1,A8 h2]
 have g2:=A3f (H:=Y1) (k:=2) (o:=b) (n:=x.2.length) (u:=1) (u':=1) (pre:=[A2l x.1]) (suf:=[todoV eo E.length,p,v,I64 t,I64 n,m]) (xs:=x.2.map DV.str) (ds:=ds)
  (by rw[hY1,A0];rfl) (λi hi=>⟨by rw[y1 i (h.hb i hi).1 (λj hj e=>h.ne j i hj hi e.symm),A7d hi,A5m],(h.hb i hi).1⟩) (λe=>by rw[h.bn e];rfl) (λd hd=>by simp at hd;rcases hd with rfl|rfl|rfl|rfl|rfl|rfl|rfl<;>(first|exact o1 _ _|assumption|rfl)) (by simp) (λy hy=>by obtain⟨z, -,rfl⟩:=A1B.1 hy;rfl)
 obtain⟨Y2,hY2⟩:∃Y:Hp,Y=(delO Y1 b).upd 2 ⟨0,true,[A2l x.1]++[.lst (x.2.map DV.str)]++[todoV eo E.length,p,v,I64 t,I64 n,m]⟩:=⟨_,rfl⟩;rw[<- hY2]at g2;have y2:∀j,j≠2->(∀i,a=some i->¬j=i)->(∀i,b=some i->¬j=i)->Y2 j=GM (optH X0 eo ⟨4,true,cellsL (E.map Ent.v)⟩) 2 a b (mkP (todoV eo E.length) p v m t n) x j:=λj h1 h2 h3=>by rw[hY2,h_ne h1,A8 h3,y1 j h1 h2]
 have ab:∀j B,(optH X0 eo ⟨4,true,cellsL (E.map Ent.v)⟩) j=some B->(∀i,a=some i->¬j=i)/\(∀i,b=some i->¬j=i):=λj B hj=>⟨λi hi e=>(by subst e;have:=(h.ha j hi).2.2;rw[hj]at this;cases this),λi hi e=>(by subst e;have:=(h.hb j hi).2.2;rw[hj]at this;cases this)⟩;have ob:∀j B,j≠2->(optH X0 eo ⟨4,true,cellsL (E.map Ent.v)⟩) j=some B->Y2 j=some B:=λj B h1 hj=>by rw[y2 j h1 (ab j B hj).1 (ab j B hj).2,T4 h hj h1]
 have g3:=A3f (H:=Y2) (k:=2) (o:=eo) (n:=E.length) (u:=4) (u':=4) (pre:=[A2l x.1,strs x.2]) (suf:=[p,v,I64 t,I64 n,m]) (xs:=E.map Ent.v) (ds:=ds)
  (by rw[hY2,A0];rfl) (λi hi=>⟨ob i _ (by have:=he i hi;omega) (heX i hi),by have:=he i hi;omega⟩) (λe=>by rw[hn e];rfl) (λd hd=>by simp at hd;rcases hd with rfl|rfl|rfl|rfl|rfl|rfl|rfl<;>(first|exact o1 _ _|assumption|rfl)) (by simp) (λy hy=>by obtain⟨z, -,rfl⟩:=A1B.1 hy;rfl)
 refine⟨_,(g1.trans g2).trans g3,by rw[A0];rfl,λj B h1 hj hne=>?_⟩;rw[h_ne h1,A8 (λi hi e=>hne i hi e.symm),ob j B h1 (by rw[B5 (λi hi e=>hne i hi e.symm),hj])]
theorem c_PCompile(r:Ru)(hB:r.sz<4000000):PC Tryz.prog 8 [r.v] (B5t (W4 r)):=by
 refine PC.ofT A2 rfl (A0H rfl) (by simp[DV.nlL,DV.nl,K7,K6]) (C5a _) ?_;have hck:=c_Check32 r hB;unfold B5u at hck;obtain⟨R,hR⟩:∃R,R=W4 r:=⟨_,rfl⟩;rw[<- hR];unfold W4 at hR;cases hv:L9 r with
 |false =>
  rw[hv]at hck hR;rw[if_neg A3S]at hck hR;subst hR;obtain⟨D,M⟩:=r;dsimp only[Ru.v]at hck ⊢;repeat'((with_reducible first|apply wr|refine cpc hck ?_)<;>try simp only[go_sem,seval])
  rw[E6 (v:=.tup [.agg cd0,I64 0,I64 1]) rfl];exact A0q
 |true =>
  rw[hv]at hck hR;rw[if_pos rfl]at hck hR;cases he:A4p r with
  |some q =>
   obtain⟨p,c⟩:=q;rw[he]at hck hR;have hck:PC Tryz.prog 25 [r.v] (.tup [I64 p,I64 c]):=hck;dsimp only at hR;have hnz:(c != 0)=true:=by
    have h:NzE (A4p r):=by unfold A4p A7y;exact((C6e _ _).or (D0m _ _ _)).or (D5l _ _)
    simpa using h _ _ he
   subst hR;obtain⟨D,M⟩:=r;dsimp only[Ru.v]at hck ⊢;repeat'((with_reducible first|apply wr|refine cpc hck ?_)<;>try simp only[go_sem,seval,hnz])
   rw[E6 (v:=.tup [.agg cd0,I64 p,I64 c]) rfl];exact A0q
  |none =>
   rw[he]at hck hR;dsimp only at hR;have hC:ChkR r:=⟨hv,he⟩;have hlen:=hC.lens;have hnil:nmR r []=0:=by show(F3 r []).2=0;rw[hC.nil]
   have hnum:=E1o (r:=r) hC.kd;have hbe:=c_begin r (by omega) (by omega);have hms:(r.modes.map λm=>m.hds.length).sum+r.modes.length<=1000000:=E2r hC;have hal:(I0 [] (hkM (nmR r) 0 r.modes)).length<=1000000:=A1D (D1r hC).1 (by omega);have hrf:=λs h1 h2=>D0i (s:=s) hC h1 h2;have hpb:=λs h1=>E4n (s:=s) hC h1;obtain⟨L,hL⟩:∃L,L=E3 (nmR r) 0 r.modes:=⟨_,rfl⟩;have hsz:∀p∈L,St.szs p.2.flatten<=4000000:=λp hp=>by
    rw[hL]at hp;have h1:=C2v r.modes 0 p hp;have h2:r.sz=(r.decls.map Dc.sz).sum+(r.modes.map Md.sz).sum:=rfl;omega
   have hcm:cmC r=⟨(cgL (nmR r) 0 [] L).1,(cgL (nmR r) 0 [] L).2.2,(cgL (nmR r) 0 [] L).2.1,r.modes.map Md.prio,(r.decls.filter λd=>d.kind=6).map Dc.value,(cnD r.decls 7:Int),(cnD r.decls 8:Int)⟩:=by
    rw[hL];rfl
   have hparts:=λH c t ht htc=>c_parts (beC r) (mkK (inL (nmL r))) (mvV (inL (nmL r))) (nmR r) hnum rfl r.decls r.modes hms H c t ht htc hal;have hck:PC Tryz.prog 25 [r.v] (.tup [I64 0,I64 0]):=hck;rw[hcm]at hR;dsimp only at hR;obtain⟨V,hV⟩:∃V,V=(r.decls.filter λd=>d.kind=6).map Dc.value:=⟨_,rfl⟩;obtain⟨P,hP⟩:∃P,P=r.modes.map Md.prio:=⟨_,rfl⟩;obtain⟨m7,h7⟩:∃m7:Int,m7=(cnD r.decls 7:Int):=⟨_,rfl⟩;obtain⟨m8,h8⟩:∃m8:Int,m8=(cnD r.decls 8:Int):=⟨_,rfl⟩;obtain⟨mp,hmp⟩:∃mp,mp=DV.mp .s (mkK (inL (nmL r))) (mvV (inL (nmL r))):=⟨_,rfl⟩;have hbeC:beC r=[.snil,.snil,.snil,M7 P,M7 V,I64 m7,I64 m8,mp]:=by rw[hP,hV,h7,h8,hmp]
   rw[<- hV, <- hP, <- h7, <- h8]at hR;have hgb:=λ(e:DV)=>c_gblock e (M7 P) (M7 V) (mkK (inL (nmL r))) (mvV (inL (nmL r))) m7 m8 (nmR r) hnum;have hem:=λ(e:DV)=>c_emit e (M7 P) (M7 V) mp m7 m8 31 0;rw[<- hmp]at hgb;have hmp1:mp.one=true:=by rw[hmp];rfl
   rw[hbeC]at hbe hparts;clear hcm hnum he hv hms hal hV hP h7 h8 hmp hbeC;generalize nmR r=nm at *;clear hnil hlen hC;obtain⟨D,M⟩:=r;dsimp only[Ru.v]at hck hbe hparts hrf hpb hL ⊢;repeat'((with_reducible first|apply wr|refine cpc hck ?_)<;>try simp only[go_sem,seval])
   refine ca3 (hbe _ _) ?_;simp only[go_sem,seval];repeat'(apply wr<;>try simp only[go_sem,seval,A0])
   refine AC.call (hparts _ _ _ A0 (by omega)) ?_;rintro _ _ c2 ⟨rfl,l',q1,q2,rfl⟩ hc2;have hPB:=hpb l' q1;obtain rfl:=hrf l' q1 q2;rw[<- hL]at hPB ⊢;simp only[go_sem,seval];repeat'(apply wr<;>try simp only[go_sem,seval])
   obtain⟨X0,hX⟩:∃X:Hp,X=((nil.upd 0 ⟨0,true,[C3 D,C6 M]⟩).upd 1 ⟨0,true,[.snil,.snil,.snil,.snil,.snil,I64 0,I64 0]⟩):=⟨_,rfl⟩;rw[<- hX];have x1:X0 1=some ⟨0,true,cd0⟩:=by rw[hX,A0]
   have x2:X0 2=none:=by rw[hX,h_ne (by decide),h_ne (by decide)];rfl
   have xf:∀j,2<=j->X0 j=none:=λj hj=>by rw[hX,hnO,hnO];rfl
   clear hX hparts hbe hck q1 q2 hrf hpb;refine A6 (λq:Nat × Option Nat × Option Nat × Option Nat=>[(2,.ptr 1 0),(7,.ptr 2 0),(26,C5z L),(27,I64 L.length),(28,I64 q.1)])
    (λq=>GM (optH X0 q.2.2.2 ⟨4,true,cellsL ((cgL nm 0 [] (L.take q.1)).2.1.map Ent.v)⟩) 2 q.2.1 q.2.2.1 (mkP (todoV q.2.2.2 q.1) (M7 P) (M7 V) mp m7 m8) ((cgL nm 0 [] (L.take q.1)).1,(cgL nm 0 [] (L.take q.1)).2.2))
    (λq cc=>c2<=cc/\q.1<=L.length/\GN (optH X0 q.2.2.2 ⟨4,true,cellsL ((cgL nm 0 [] (L.take q.1)).2.1.map Ent.v)⟩) 2 q.2.1 q.2.2.1 ((cgL nm 0 [] (L.take q.1)).1,(cgL nm 0 [] (L.take q.1)).2.2) cc /\
     (∀i,q.2.2.2=some i->3<=i/\i<cc)/\(q.2.2.2=none->q.1=0)/\(cgL nm 0 [] (L.take q.1)).1.length<=4000/\(cgL nm 0 [] (L.take q.1)).2.2.length<=200) (λq=>L.length-q.1) (0,none,none,none)
    (by simp[B7,tm,Tm.upd]) (by simp only[A1I,cgL];exact Sub.refl _) ⟨A0E _,A0P _,⟨by omega,λi h=>(by cases h),λi h=>(by cases h),λi j h=>(by cases h),λ_=>rfl,λ_=>rfl,λj hj=>xf j (by omega)⟩,λi h=>(by cases h),λ_=>rfl,A0P _,A0P _⟩ ?_
   rintro⟨k,a,b,eo⟩ cc ⟨hc,hk,hN0,heo,hen,hl1,hl2⟩;replace hk:k<=L.length:=hk;replace hc:c2<=cc:=hc;replace heo:∀i,eo=some i->3<=i/\i<cc:=heo;replace hen:eo=none->k=0:=hen;dsimp only at hN0 hl1 hl2 ⊢;obtain⟨x,hx⟩:∃x:Cg,x=((cgL nm 0 [] (L.take k)).1,(cgL nm 0 [] (L.take k)).2.2):=⟨_,rfl⟩;have hx1:(cgL nm 0 [] (L.take k)).1=x.1:=by rw[hx]
   have hx2:(cgL nm 0 [] (L.take k)).2.2=x.2:=by rw[hx]
   rw[hx1]at hl1;rw[hx2]at hl2;obtain⟨E,hE⟩:∃E,E=(cgL nm 0 [] (L.take k)).2.1:=⟨_,rfl⟩;have hEl:E.length=k:=by rw[hE,A3h,A0Y];omega
   by_cases hlt:k<L.length
   rotate_left
   ·have hd:=dfz hlt;have hkl:k=L.length:=by omega
    rw[<- hx, <- hE]at hN0 ⊢;have hcgx:(if 4000<(cgL nm 0 [] L).1.length\/200<(cgL nm 0 [] L).2.2.length then(B6b,(0:Int),(9:Int)) else(⟨(cgL nm 0 [] L).1,(cgL nm 0 [] L).2.2,(cgL nm 0 [] L).2.1,P,V,m7,m8⟩,0,0))=((⟨x.1,x.2,E,P,V,m7,m8⟩:Prg),(0:Int),(0:Int)):=by
     rw[hkl,A1P]at hx1 hx2 hE;rw[hx1,hx2, <- hE,iN]
    obtain⟨Y,gY,yb,yo⟩:=D6q (p:=M7 P) (v:=M7 V) (m:=mp) (t:=m7) (n:=m8) (ds:=[.ptr 1 0,.ptr 2 0]) hN0 (λi hi=>(heo i hi).1) (λe=>A2I.1 (by rw[hEl,hen e])) rfl rfl hmp1;have ya:=yo 1 _ (by decide) x1 (λi hi=>by have:=(heo i hi).1;omega);rw[hEl]at gY;repeat'((with_reducible first|refine I4 (p:=IW _ _ (pz Tryz.prog 8 (.i (.o (.i (.i (.i .h)))))) _ _) ?_|refine wr ?_)<;>try simp only[go_sem,seval,hd])
    refine IW.keep [2,7] [.ptr 1 0,.ptr 2 0] gY ?_;show IW Tryz.prog _ _ ⟨tm [(2,.ptr 1 0),(7,.ptr 2 0)],_,_⟩ _;repeat'(apply wr<;>try simp only[go_sem,seval,ya,yb])
    rw[E6 (v:=B5t (⟨x.1,x.2,E,P,V,m7,m8⟩,0,0)) rfl,hR,hcgx];exact⟨_,GL.refl _ _⟩
   have hd:=dtz hlt;have hg:=A0B hlt;have hw:=w64 (n:=(k:Int)+1) (by have:=hPB.1;omega) (by have:=hPB.1;omega);have hnx:=D3r nm hg;have hszp:=hsz _ (A0L hlt);have hbp:=hPB.2 _ (A0L hlt);generalize L[k]=p at hg hnx hszp hbp;rw[<- hx, <- hE]at hN0 hnx ⊢;rw[hx1]at hnx;have hM:=Y6 (mk:=mkP (todoV eo k) (M7 P) (M7 V) mp m7 m8) hN0;have hfr:=λj (hj:cc<=j)=>A8k (mk:=mkP (todoV eo k) (M7 P) (M7 V) mp m7 m8) hN0 hj;obtain⟨ky,bd⟩:=p;dsimp only at hnx hszp hbp hg;have hgv:(L.map paV)[k]? = some (.agg (pcC ky (A4q bd))):=by rw[A1O,hg];rfl
   have hnc:cc≠2:=by omega
   have hla:=N2 (o:=a) (n:=x.1.length) (λe=>P9 (hN0.an e));have hnc':=hnc.symm;repeat'((with_reducible first|refine I4 (p:=IW _ _ (pz Tryz.prog 8 (.o (.o (.o (.o (.o .h)))))) _ _) ?_|refine wr ?_)<;>try simp only[go_sem,seval,hd,hgv,hM,hla,A0,A4,hnc'])
   obtain⟨B,hBe⟩:∃B:Blk,B=⟨0,true,[I64 ky.mode,I64 ky.trig,I64 ky.ix,I64 x.1.length,A4q bd]⟩:=⟨_,rfl⟩;obtain⟨HH,hHH⟩:∃HH:Hp,HH=(GM (optH X0 eo ⟨4,true,cellsL (E.map Ent.v)⟩) 2 a b (mkP (todoV eo k) (M7 P) (M7 V) mp m7 m8) x).upd cc ⟨0,true,[I64 ky.mode,I64 ky.trig,I64 ky.ix,I64 x.1.length,A4q bd]⟩:=⟨_,rfl⟩;unfold B2o;show IW Tryz.prog _ _ ⟨_,(GM _ 2 a b _ x).upd cc ⟨0,true,[I64 ky.mode,I64 ky.trig,I64 ky.ix,I64 x.1.length,A4q bd]⟩,cc+1⟩ _;rw[<- hHH];have hh2:HH 2=some ⟨0,true,[todoV a x.1.length,todoV b x.2.length,todoV eo k,M7 P,M7 V,I64 m7,I64 m8,mp]⟩:=by rw[hHH,h_ne hnc'];exact hM
   have hhc:HH cc=some ⟨0,true,[I64 ky.mode,I64 ky.trig,I64 ky.ix,I64 x.1.length,A4q bd]⟩:=by rw[hHH,A0]
   have hhf:∀j,cc+1<=j->HH j=none:=λj hj=>by rw[hHH,hnO];exact hfr j (by omega)
   have hhe:∀i,eo=some i->HH i=some ⟨4,true,cellsL (E.map Ent.v)⟩:=λi hi=>by
    have:=heo i hi;rw[hHH,hnO];exact T4 hN0 (by subst hi;exact A0) (by omega)
   have ne0:=P5 2 cc (cc+1) (by omega);repeat'(apply wr<;>try simp only[go_sem,seval,hh2,hhc,A0])
   refine A0w (D4 (cs:=cellsL (E.map Ent.v)) (λe=>⟨hen e,by rw[A2I.1 (hEl.trans (hen e))];rfl⟩) (λi hi=>?_) (by rw[B3v,hEl]) (by omega) (by have:=hPB.1;omega) (by have:=hPB.1;omega)) ?_
   ·have:=heo i hi;rw[hnO];exact hhe i hi
   have dm:∀X:Hp,delO X eo 2=X 2:=λX=>A8 (λi hi e=>by have:=heo i hi;omega);simp only[go_sem,seval,dm,hh2];refine⟨by rw[hnO,A8 (λi hi e=>by have:=heo i hi;omega),hnO];exact hhf _ (by omega),?_⟩;obtain⟨E',hE'⟩:∃E',E'=E++[(⟨ky.mode,ky.trig,ky.ix,(x.1.length:Int)⟩:Ent)]:=⟨_,rfl⟩;have hEC:cellsL (E'.map Ent.v)=cellsL (E.map Ent.v)++[I64 ky.mode,I64 ky.trig,I64 ky.ix,I64 x.1.length]:=by rw[hE',A0T,C2];rfl
   obtain⟨i',hi'⟩:∃i',i'=cc+1+14:=⟨_,rfl⟩;have hEl':E'.length=k+1:=by rw[hE',A0A,hEl];rfl
   have xn:∀j,2<=j->j≠i'->(optH X0 (some i') ⟨4,true,cellsL (E'.map Ent.v)⟩) j=none:=λj h1 h2=>by simp only[optH];rw[h_ne h2];exact xf j h1
   have hN1:GN ((optH X0 (some i') ⟨4,true,cellsL (E'.map Ent.v)⟩).upd cc B) 2 a b x (i'+1) :=
    ⟨by omega,λi hi=>by have h:=hN0.ha i hi;exact⟨h.1,by omega,by rw[hnO];simp only[optH];rw[hnO];have h3:=h.2.2;rcases Nat.lt_or_ge i 2 with h4|h4;(· rw[B5 (λq hq e=>by have:=heo q hq;omega)]at h3;exact h3);(· exact xf i h4)⟩,
     λi hi=>by have h:=hN0.hb i hi;exact⟨h.1,by omega,by rw[hnO];simp only[optH];rw[hnO];have h3:=h.2.2;rcases Nat.lt_or_ge i 2 with h4|h4;(· rw[B5 (λq hq e=>by have:=heo q hq;omega)]at h3;exact h3);(· exact xf i h4)⟩,
     hN0.ne,hN0.an,hN0.bn,λj hj=>by rw[hnO];exact xn j (by omega) (by omega)⟩
   obtain⟨mk,hmk⟩:∃mk,mk=mkP (todoV (some i') (k+1)) (M7 P) (M7 V) mp m7 m8:=⟨_,rfl⟩;have gz:∀ds,GL (((delO (HH.upd (cc+1+8) ⟨4,true,[I64 ky.mode,I64 ky.trig,I64 ky.ix,I64 x.1.length]⟩) eo).upd (cc+1+14) ⟨4,true,cellsL (E.map Ent.v)++[I64 ky.mode,I64 ky.trig,I64 ky.ix,I64 x.1.length]⟩).upd 2 ⟨0,true,[todoV a x.1.length,todoV b x.2.length,.slc (cc+1+14) 0 (k+1),M7 P,M7 V,I64 m7,I64 m8,mp]⟩) ds
     (GM ((optH X0 (some i') ⟨4,true,cellsL (E'.map Ent.v)⟩).upd cc B) 2 a b mk x) ds:=λds=>GL.less' (A5r (by rw[A0,hmk,hi'];rfl)
     (λi hi=>by
      have h:=hN0.ha i hi;rw[h_ne h.1,hnO,A8 (λq hq e=>by have h2:=h.2.2;subst e;rw[hq]at h2;simp only[optH]at h2;rw[A0]at h2;cases h2),hnO,hHH,hnO];exact A5s hN0 hi)
     (λi hi=>by
      have h:=hN0.hb i hi;rw[h_ne h.1,hnO,A8 (λq hq e=>by have h2:=h.2.2;subst e;rw[hq]at h2;simp only[optH]at h2;rw[A0]at h2;cases h2),hnO,hHH,hnO];exact A7d hi)
     (λj Q hj hQ=>by
      rw[h_ne hj];by_cases e1:j=i'
      ·subst e1;rw[hnO]at hQ;simp only[optH]at hQ;rw[A0]at hQ;rw[hi',A0, <- hEC];exact hQ
      rw[hnO];by_cases e2:j=cc
      ·subst e2;rw[A0]at hQ;rw[A8 (λq hq e=>by have:=heo q hq;omega),hnO,hhc, <- hBe];exact hQ
      rw[h_ne e2]at hQ;simp only[optH]at hQ;rw[h_ne e1]at hQ;have hj2:j<2:=A1S λh=>by rw[xf j h]at hQ;cases hQ
      rw[A8 (λq hq e=>by have:=heo q hq;omega),hnO,hHH,hnO];exact T4 hN0 (by rw[B5 (λq hq e=>by have:=heo q hq;omega)];exact hQ) (by omega)))
   refine IW.keep [2,7,9,26,27,28] [.ptr 1 0,.ptr 2 0,.ptr cc 0,C5z L,I64 L.length,I64 k] (gz _) ?_;show IW Tryz.prog _ _ ⟨tm [(2,.ptr 1 0),(7,.ptr 2 0),(9,.ptr cc 0),(26,C5z L),(27,I64 L.length),(28,I64 k)],_,_⟩ _;rw[<- hi'];have hcc0:(optH X0 (some i') ⟨4,true,cellsL (E'.map Ent.v)⟩) cc=none:=xn cc (by omega) (by omega);have hcf0:∀j,i'+1<=j->(optH X0 (some i') ⟨4,true,cellsL (E'.map Ent.v)⟩) j=none:=λj hj=>xn j (by omega) (by omega);have hx01:(optH X0 (some i') ⟨4,true,cellsL (E'.map Ent.v)⟩) 1=some ⟨0,true,cd0⟩:=by simp only[optH];rw[hnO];exact x1
   have hgb:=hgb (todoV (some i') (k+1));have hem:=hem (todoV (some i') (k+1));rw[<- hmk]at hgb hem;have hNi:∀a' b' x' c',GN ((optH X0 (some i') ⟨4,true,cellsL (E'.map Ent.v)⟩).upd cc B) 2 a' b' x' c'->GM ((optH X0 (some i') ⟨4,true,cellsL (E'.map Ent.v)⟩).upd cc B) 2 a' b' mk x' cc=some B:=λa' b' x' c' h=>T4 h A0 hnc;generalize hX1:(optH X0 (some i') ⟨4,true,cellsL (E'.map Ent.v)⟩).upd cc B=X1 at hN1 hNi ⊢;have hB0:GM X1 2 a b mk x cc=some ⟨0,true,[I64 ky.mode,I64 ky.trig,I64 ky.ix,I64 x.1.length,A4q bd]⟩:=by rw[hNi _ _ _ _ hN1,hBe]
   clear gz hN0 hh2 hhc hhf hhe hHH HH hM hfr dm hla;have hxx1:x.1.length<=4000:=hl1;repeat'(apply wr<;>try simp only[go_sem,seval,hB0])
   refine A6 (λq:Nat × Option Nat × Option Nat=>[(2,.ptr 1 0),(7,.ptr 2 0),(26,C5z L),(27,I64 L.length),(28,I64 k),(54,A4q bd),(55,I64 bd.length),(56,I64 q.1)])
    (λq=>GM X1 2 q.2.1 q.2.2 mk (F9 nm (bd.take q.1).flatten x))
    (λq c3=>i'+1<=c3/\q.1<=bd.length/\GN X1 2 q.2.1 q.2.2 (F9 nm (bd.take q.1).flatten x) c3) (λq=>bd.length-q.1) (0,a,b)
    (by simp[B7,tm,Tm.upd]) (by simp only[A1I,A2N,M8];exact Sub.refl _) ⟨A0E _,A0P _,by simp only[A1I,A2N,M8];exact hN1⟩ ?_
   clear hB0 hN1 a b;rintro⟨j,a,b⟩ c3 ⟨hc3,hj,hN⟩;replace hj:j<=bd.length:=hj;replace hc3:i'+1<=c3:=hc3;dsimp only at hN ⊢;by_cases hltj:j<bd.length
   ·have hdj:=dtz hltj;have hgj:=A0B hltj;have hwj:=w64 (n:=(j:Int)+1);have hfs:=C7e hgj;have hm1:=B4o (A0L hltj);have hm2:=A4r bd j;have hm3:=A4r bd (j+1);have hgjv:(bd.map D5)[j]? = some (D5 bd[j]):=by rw[A1O,hgj];rfl
    generalize bd[j]=y at hgj hfs hm1 hgjv;have hbx:=C5d (nm:=nm) ((bd.take j).flatten++y) x;rw[<- hfs]at hbx;have hcall:=hgb _ y (A1N _) (by omega) (F9 nm (bd.take j).flatten x) (by rw[<- S8, <- hfs];exact⟨by omega,by omega⟩);rw[<- S8, <- hfs]at hcall;repeat'(apply wr<;>try simp only[go_sem,seval,hdj,hgjv])
    refine AC.call (hcall _ _ _ _ _ hN) ?_;rintro _ _ c4 ⟨rfl,a2,b2,hN2,rfl⟩ hc4;simp only[go_sem,seval];repeat'(apply wr<;>try simp only[go_sem,seval,hwj])
    exact⟨(j+1,a2,b2),by simp[],Sub.refl _,inv ⟨by omega,hltj,hN2⟩,by simp only;omega⟩
   have hdj:=dfz hltj;have hjb:j=bd.length:=by omega
   subst hjb;rw[A1P]at hN ⊢;have hbx:=C5d (nm:=nm) bd.flatten x;repeat'(apply wr<;>try simp only[go_sem,seval,hdj])
   refine AC.call (hem _ (by omega) _ _ _ _ _ hN) ?_;rintro _ _ c4 ⟨rfl,a2,b2,hN2,rfl⟩ hc4;have hM2:=Y6 (mk:=mk) hN2;rw[hmk]at hM2;have hnx1:=hnx.1;have hnx2:=hnx.2;unfold D3o at hnx1;dsimp only at hnx1 hM2 hN2;obtain⟨z,hz⟩:∃z:Cg,z=((F9 nm bd.flatten x).1++[⟨31,0⟩],(F9 nm bd.flatten x).2):=⟨_,rfl⟩;rw[<- hz]at hnx1 hN2 hM2 ⊢;have hl3:=N2 (o:=a2) (n:=z.1.length) (λe=>P9 (hN2.an e));have hl4:=N2 (o:=b2) (n:=z.2.length) (λe=>P9 (hN2.bn e));have hz1:(cgL nm 0 [] (L.take (k+1))).1=z.1:=congrArg Prod.fst hnx1;have hz2:(cgL nm 0 [] (L.take (k+1))).2.2=z.2:=congrArg Prod.snd hnx1;have hle:=B8x (nm:=nm) (l:=L) (S:=[]) (k+1);rw[hz1,hz2]at hle;obtain⟨mk2,hmk2⟩:∃mk2,mk2=mk:=⟨_,rfl⟩;rw[<- hmk]at hM2;have hx11:GM X1 2 a2 b2 mk z 1=some ⟨0,true,cd0⟩:=T4 hN2 (by rw[<- hX1,hnO];exact hx01) (by decide);have hMz:GM X1 2 a2 b2 mk z 2=some ⟨0,true,[todoV a2 z.1.length,todoV b2 z.2.length,todoV (some i') (k+1),M7 P,M7 V,I64 m7,I64 m8,mp]⟩:=by rw[hM2,hmk]
   by_cases d1:4000<z.1.length
   ·have d1':decide ((z.1.length:Int)>4000)=true:=by simp;omega
    have d1'':decide ((z.1.length:Int)<=4000)=false:=by simp;omega
    simp only[go_sem,seval];repeat'(apply wr<;>try simp only[go_sem,seval,hMz,hx11,hl3,d1'])
    rw[hR,iP,E6 (v:=.tup [.agg cd0,I64 0,I64 9]) rfl];exact A0q
   have d1':decide ((z.1.length:Int)>4000)=false:=by simp;omega
   by_cases d2:200<z.2.length
   ·have d2':decide ((z.2.length:Int)>200)=true:=by simp;omega
    simp only[go_sem,seval];repeat'(apply wr<;>try simp only[go_sem,seval,hMz,hx11,hl3,hl4,d1',d2'])
    rw[hR,iP,E6 (v:=.tup [.agg cd0,I64 0,I64 9]) rfl];exact A0q
   have d2':decide ((z.2.length:Int)>200)=false:=by simp;omega
   simp only[go_sem,seval];repeat'(apply wr<;>try simp only[go_sem,seval,hMz,hl3,hl4,d1',d2',hw])
   refine⟨(k+1,a2,b2,some i'),by simp[],?_,inv ⟨by omega,hlt,?_,λi hi=>(by cases hi;exact⟨by omega,by omega⟩),λe=>(by cases e),?_,?_⟩,by simp only;omega⟩
   ·dsimp only;rw[hnx1,hnx2, <- hE', <- hmk];rw[<- hX1]at hN2 ⊢;exact J8 hcc0 hnc hN2
   ·dsimp only;rw[hnx1,hnx2, <- hE'];rw[<- hX1]at hN2;exact hN2.unbox hcc0 (by omega) hcf0
   ·dsimp only;rw[hz1];omega
   ·dsimp only;rw[hz2];omega
def vaL(D:List Dc):List Int:=(D.filter λd=>d.kind=6).map Dc.value
theorem D9i(D:List Dc):(vaL D).length<=D.length:=by unfold vaL;rw[A0C];exact List.length_filter_le _ _
theorem C8a{D:List Dc}{i:Nat}{d:Dc}(h:D[i]? = some d):vaL (D.take (i+1))=vaL (D.take i)++if d.kind=6 then [d.value] else []:=by
 unfold vaL;rw[A0R,h,List.filter_append,A0T]
 congr 1
 by_cases e:d.kind=6<;>simp[e]
def vaH(X:Hp)(vo:Option Nat)(V:List Int)(m7 m8:Int):Hp:=(optH X vo ⟨1,true,V.map λz=>I64 z⟩).upd 8 ⟨0,true,[.snil,.snil,.snil,.snil,todoV vo V.length,I64 m7,I64 m8]⟩
theorem A4d{X:Hp}{o:Option Nat}{j:Nat}(h:X j=none):delO X o j=none:=by
 cases o with
 |none=>exact h
 |some i =>
  by_cases e:j=i
  ·subst e;simp[delO,Hp.del]
  ·rw[A8 (λk hk h=>e (by cases hk;exact h))];exact h
theorem C6a(M:List Md):cellsL (prC M)=prC M:=by
 unfold prC cellsL
 induction M with
 |nil=>rfl
 |cons m M ih=>rw[A0W,A2C,ih];rfl
theorem E2y{r:Ru}{X0:Hp}{a b eo po:Option Nat}{x:Cg}{E:List Ent}{V4:DV}{m7 m8:Int}{c:Nat}{ds:List DV}(h:GN (ouH (optH X0 po ⟨1,true,prC r.modes⟩) eo E (todoV po r.modes.length) V4 m7 m8) 2 a b x c)(he:EoN (optH X0 po ⟨1,true,prC r.modes⟩) eo c E.length)
  (hp:∀i,po=some i->9<=i) (hpn:po=none->r.modes=[]) (hv:V4.one=true) :
  ∃Y,GL (GM (ouH (optH X0 po ⟨1,true,prC r.modes⟩) eo E (todoV po r.modes.length) V4 m7 m8) 2 a b (mkQ r) x) ds Y ds/\Y 2=some ⟨0,true,[C3 r.decls,C6 r.modes,A2l x.1,strs x.2]⟩/\Y 8=some ⟨0,true,[.snil,.snil,B3t E,M7 (r.modes.map Md.prio),V4,I64 m7,I64 m8]⟩/\(∀B,X0 1=some B->Y 1=some B)/\∀j,c<=j->Y j=none:=by
 have o1:∀(o:Option Nat) (n:Nat),(todoV o n).one=true:=λo n=>by cases o<;>rfl
 obtain⟨G,hG⟩:∃G:Hp,G=GM (ouH (optH X0 po ⟨1,true,prC r.modes⟩) eo E (todoV po r.modes.length) V4 m7 m8) 2 a b (mkQ r) x:=⟨_,rfl⟩;rw[<- hG];have n8:∀(o:Option Nat),(∀i,o=some i->i≠2/\i<c/\ouH (optH X0 po ⟨1,true,prC r.modes⟩) eo E (todoV po r.modes.length) V4 m7 m8 i=none)->∀i,o=some i->¬ 8=i:=λo ho i hi e=>by have:=(ho i hi).2.2;rw[<- e,B4w]at this;cases this
 have g8:G 8=some (ouB eo E.length (todoV po r.modes.length) V4 m7 m8):=by rw[hG];exact T4 h B4w (by decide)
 have pe:∀i,po=some i->eo≠some i:=λi hi e=>by have:=(he.lt i e).2.2;subst hi;simp only[optH]at this;rw[A0]at this;cases this
 have ge:∀i,eo=some i->G i=some ⟨4,true,cellsL (E.map Ent.v)⟩:=λi hi=>by
  have:=he.lt i hi;rw[hG];refine T4 h ?_ (by omega);subst hi;exact C6b (by omega)
 have gp:∀i,po=some i->G i=some ⟨1,true,prC r.modes⟩:=λi hi=>by
  have:=hp i hi;rw[hG];refine T4 h ?_ (by omega);rw[V1 (by omega) (pe i hi)];subst hi;exact A0
 have ea:∀i,a=some i->eo≠some i/\po≠some i:=λi hi=>⟨(A0p (h.ha i hi).2.2).2.1,(A0p (h.ha i hi).2.2).2.2.1⟩;have eb:∀i,b=some i->eo≠some i/\po≠some i:=λi hi=>⟨(A0p (h.hb i hi).2.2).2.1,(A0p (h.hb i hi).2.2).2.2.1⟩;have g1:=A3f (H:=G) (k:=2) (o:=a) (n:=x.1.length) (u:=2) (u':=2) (pre:=[C3 r.decls,C6 r.modes]) (suf:=[todoV b x.2.length]) (xs:=x.1.map Ins.v) (ds:=ds)
  (by rw[hG];exact Y6 h) (λi hi=>⟨by rw[hG];exact A5s h hi,(h.ha i hi).1⟩) (λe=>by rw[h.an e];rfl) (λd hd=>by simp at hd;rcases hd with rfl|rfl|rfl<;>(first|exact o1 _ _|rfl)) (by simp) (λy hy=>by obtain⟨z, -,rfl⟩:=A1B.1 hy;rfl)
 obtain⟨Y1,hY1⟩:∃Y:Hp,Y=(delO G a).upd 2 ⟨0,true,[C3 r.decls,C6 r.modes]++[.lst (x.1.map Ins.v)]++[todoV b x.2.length]⟩:=⟨_,rfl⟩;rw[<- hY1]at g1;have y1:∀j,j≠2->(∀i,a=some i->¬j=i)->Y1 j=G j:=λj h1 h2=>by rw[hY1,h_ne h1,A8 h2]
 have g2:=A3f (H:=Y1) (k:=2) (o:=b) (n:=x.2.length) (u:=1) (u':=1) (pre:=[C3 r.decls,C6 r.modes,A2l x.1]) (suf:=[]) (xs:=x.2.map DV.str) (ds:=ds)
  (by rw[hY1,A0];rfl) (λi hi=>⟨by rw[y1 i (h.hb i hi).1 (λj hj e=>h.ne j i hj hi e.symm),hG,A7d hi,A5m],(h.hb i hi).1⟩) (λe=>by rw[h.bn e];rfl) (λd hd=>by simp at hd;rcases hd with rfl|rfl|rfl<;>rfl) (by simp) (λy hy=>by obtain⟨z, -,rfl⟩:=A1B.1 hy;rfl)
 obtain⟨Y2,hY2⟩:∃Y:Hp,Y=(delO Y1 b).upd 2 ⟨0,true,[C3 r.decls,C6 r.modes,A2l x.1]++[.lst (x.2.map DV.str)]++[]⟩:=⟨_,rfl⟩;rw[<- hY2]at g2;have y2:∀j,j≠2->(∀i,a=some i->¬j=i)->(∀i,b=some i->¬j=i)->Y2 j=G j:=λj h1 h2 h3=>by rw[hY2,h_ne h1,A8 h3,y1 j h1 h2]
 have ye:∀i,eo=some i->Y2 i=some ⟨4,true,cellsL (E.map Ent.v)⟩:=λi hi=>by
  rw[y2 i (by have:=(he.lt i hi).1;omega) (λk hk e=>(ea k hk).1 (by rw[<- e];exact hi)) (λk hk e=>(eb k hk).1 (by rw[<- e];exact hi))];exact ge i hi
 have yp:∀i,po=some i->Y2 i=some ⟨1,true,prC r.modes⟩:=λi hi=>by
  rw[y2 i (by have:=hp i hi;omega) (λk hk e=>(ea k hk).2 (by rw[<- e];exact hi)) (λk hk e=>(eb k hk).2 (by rw[<- e];exact hi))];exact gp i hi
 have y8:Y2 8=some (ouB eo E.length (todoV po r.modes.length) V4 m7 m8):=by rw[y2 8 (by decide) (n8 a h.ha) (n8 b h.hb)];exact g8
 have g3:=A3f (H:=Y2) (k:=8) (o:=eo) (n:=E.length) (u:=4) (u':=4) (pre:=[.snil,.snil]) (suf:=[todoV po r.modes.length,V4,I64 m7,I64 m8]) (xs:=E.map Ent.v) (ds:=ds)
  (by rw[y8];rfl) (λi hi=>⟨ye i hi,by have:=(he.lt i hi).1;omega⟩) (λe=>by rw[A2I.1 (he.nil e)];rfl) (λd hd=>by simp at hd;rcases hd with rfl|rfl|rfl|rfl|rfl|rfl<;>(first|exact o1 _ _|assumption|rfl)) (by simp) (λy hy=>by obtain⟨z, -,rfl⟩:=A1B.1 hy;rfl)
 obtain⟨Y3,hY3⟩:∃Y:Hp,Y=(delO Y2 eo).upd 8 ⟨0,true,[.snil,.snil]++[.lst (E.map Ent.v)]++[todoV po r.modes.length,V4,I64 m7,I64 m8]⟩:=⟨_,rfl⟩;rw[<- hY3]at g3;have y3:∀j,j≠8->(∀i,eo=some i->¬j=i)->Y3 j=Y2 j:=λj h1 h2=>by rw[hY3,h_ne h1,A8 h2]
 have g4:=A3f (H:=Y3) (k:=8) (o:=po) (n:=r.modes.length) (u:=1) (u':=1) (pre:=[.snil,.snil,B3t E]) (suf:=[V4,I64 m7,I64 m8]) (xs:=prC r.modes) (ds:=ds)
  (by rw[hY3,A0];rfl) (λi hi=>⟨by rw[y3 i (by have:=hp i hi;omega) (λk hk e=>pe i hi (by rw[e];exact hk)),yp i hi,C6a],by have:=hp i hi;omega⟩) (λe=>by rw[hpn e];rfl) (λd hd=>by simp at hd;rcases hd with rfl|rfl|rfl|rfl|rfl|rfl<;>(first|exact o1 _ _|assumption|rfl)) (C3l _) (λy hy=>by unfold prC at hy;obtain⟨z, -,rfl⟩:=A1B.1 hy;rfl)
 have lo:∀(o:Option Nat),(∀i,o=some i->9<=i)->∀j,j<9->∀i,o=some i->¬j=i:=λo ho j hj i hi e=>by have:=ho i hi;omega
 refine⟨_,((g1.trans g2).trans g3).trans g4,?_,?_,λB hB=>?_,λj hj=>?_⟩
 ·rw[h_ne (by decide),A8 (lo po hp 2 (by decide)),y3 2 (by decide) (lo eo (λi hi=>(he.lt i hi).1) 2 (by decide)),hY2,A0];rfl
 ·rw[A0];simp[prC,M7,Function.comp_def]
 ·have h1:ouH (optH X0 po ⟨1,true,prC r.modes⟩) eo E (todoV po r.modes.length) V4 m7 m8 1=some B:=by
   rw[V1 (by decide) (λe=>by have:=(he.lt _ e).1;omega),B5 (lo po hp 1 (by decide))];exact hB
  have a1:∀i,a=some i->¬ 1=i:=λi hi e=>by have:=(h.ha i hi).2.2;rw[<- e,h1]at this;cases this
  have b1:∀i,b=some i->¬ 1=i:=λi hi e=>by have:=(h.hb i hi).2.2;rw[<- e,h1]at this;cases this
  rw[h_ne (by decide),A8 (lo po hp 1 (by decide)),y3 1 (by decide) (lo eo (λi hi=>(he.lt i hi).1) 1 (by decide)),y2 1 (by decide) a1 b1,hG];exact T4 h h1 (by decide)
 ·have h1:=h.tc;have h9:8<c:=A1S λhc=>by have:=h.fr 8 hc;rw[B4w]at this;cases this
  have h2:G j=none:=by rw[hG];exact A8k h hj
  rw[hnO];refine A4d ?_;rw[hY3,hnO];refine A4d ?_;rw[hY2,hnO];refine A4d ?_;rw[hY1,hnO];exact A4d h2
theorem c_RCompile(r:Ru)(hB:r.sz<4000000):PC Tryz.prog 45 [r.v] (B5t (W4 r)):=by
 refine PC.ofT A2 rfl (A0H rfl) (by simp[DV.nlL,DV.nl,K7,K6]) (C5a _) ?_;have hck:=c_CheckR r hB;unfold B5u at hck;obtain⟨R,hR⟩:∃R,R=W4 r:=⟨_,rfl⟩;rw[<- hR];unfold W4 at hR;cases hv:L9 r with
 |false =>
  rw[hv]at hck hR;rw[if_neg A3S]at hck hR;subst hR;obtain⟨D,M⟩:=r;dsimp only[Ru.v]at hck ⊢;repeat'((with_reducible first|apply wr|refine cpc hck ?_)<;>try simp only[go_sem,seval])
  rw[E6 (v:=.tup [.agg cd0,I64 0,I64 1]) rfl];exact A0q
 |true =>
  rw[hv]at hck hR;rw[if_pos rfl]at hck hR;cases he:A4p r with
  |some q =>
   obtain⟨p,c⟩:=q;rw[he]at hck hR;have hck:PC Tryz.prog 96 [r.v] (.tup [I64 p,I64 c]):=hck;dsimp only at hR;have hnz:(c != 0)=true:=by
    have h:NzE (A4p r):=by unfold A4p A7y;exact((C6e _ _).or (D0m _ _ _)).or (D5l _ _)
    simpa using h _ _ he
   subst hR;obtain⟨D,M⟩:=r;dsimp only[Ru.v]at hck ⊢;repeat'((with_reducible first|apply wr|refine cpc hck ?_)<;>try simp only[go_sem,seval,hnz])
   rw[E6 (v:=.tup [.agg cd0,I64 p,I64 c]) rfl];exact A0q
  |none =>
   rw[he]at hck hR;dsimp only at hR;have hC:ChkR r:=⟨hv,he⟩;have hlen:=hC.lens;have hnil:nmR r []=0:=by show(F3 r []).2=0;rw[hC.nil]
   have hck:PC Tryz.prog 96 [r.v] (.tup [I64 0,I64 0]):=hck;have h7:=c_CountR r 7 hB;have h8:=c_CountR r 8 hB;unfold cnV at h7 h8;rw[if_pos hv]at h7 h8;have e7:(cnR r 7:Int)=(cnD r.decls 7:Int):=by unfold cnR;rw[if_neg (by decide)]
   have e8:(cnR r 8:Int)=(cnD r.decls 8:Int):=by unfold cnR;rw[if_neg (by decide)]
   rw[e7]at h7;rw[e8]at h8;have hcm:cmC r=⟨(cgP (nmR r) (E3 (nmR r) 0 r.modes)).1,(cgP (nmR r) (E3 (nmR r) 0 r.modes)).2,enP (nmR r) (E3 (nmR r) 0 r.modes),r.modes.map Md.prio,(r.decls.filter λd=>d.kind=6).map Dc.value,(cnD r.decls 7:Int),(cnD r.decls 8:Int)⟩:=rfl;rw[hcm]at hR;have hsum:r.sz=(r.decls.map Dc.sz).sum+(r.modes.map Md.sz).sum:=rfl;have hG:=λ(c:Nat) (X0:Hp) (V4:DV) (m7 m8:Int) (Q:Exit->Go.Sym.St->Prop) (hv4:V4.one=true)=>c_rcG r hB hv c X0 V4 m7 m8 Q (by omega)
    (λmd hm=>by
     have h1:=hC.mode md hm;unfold R0 at h1;simp only[A0D,A0I]at h1;omega) hv4
    (λmd hm h hh=>by
     have q:=hC.hd md hm h hh;exact⟨q.tr.1,q.nn⟩)
    (λmd hm h hh y hy=>by
     have q:=hC.hd md hm h hh;have hb:=q.bl;unfold N3 at hb;simp only[A0D]at hb;have hsz:Pb.St.szs h.body<=4000000:=by
      have h1:=C8n hm;have h2:=C8o hh;have h3:h.sz=1+h.name.length+Pb.St.szs h.body:=rfl;omega
     exact c_body34 r hB hv hnil _ h.body 1 hb.2 (A1N _) (by omega) y hy)
   generalize (cnD r.decls 7:Int)=m7 at *;generalize (cnD r.decls 8:Int)=m8 at *;clear hcm hv hsum hlen hnil hC he e7 e8;have hx:r.v=.agg [C3 r.decls,C6 r.modes]:=rfl;rw[hx]at hck h7 h8 ⊢;repeat'((with_reducible first|apply wr|refine cpc hck ?_|refine cpc h7 ?_|refine cpc h8 ?_)<;>try simp only[go_sem,seval])
   obtain⟨X1,hX⟩:∃X:Hp,X=(((nil.upd 0 ⟨0,true,[C3 r.decls,C6 r.modes]⟩).upd 1 ⟨0,true,[.snil,.snil,.snil,.snil,.snil,I64 0,I64 0]⟩).upd 2 ⟨0,true,[C3 r.decls,C6 r.modes,.snil,.snil]⟩):=⟨_,rfl⟩;rw[<- hX];have x0:X1 0=some ⟨0,true,[C3 r.decls,C6 r.modes]⟩:=by rw[hX];rfl
   have xf:∀j,3<=j->X1 j=none:=λj hj=>by rw[hX,hnO,hnO,hnO];rfl
   have hdl:r.decls.length<=4000000:=by have:=B0f r;omega
   refine A6 (λq:Nat × Option Nat=>[(1,.ptr 0 0),(2,.ptr 1 0),(7,.ptr 2 0),(8,.ptr 8 0),(9,I64 q.1)])
    (λq=>vaH X1 q.2 (vaL (r.decls.take q.1)) m7 m8)
    (λq cc=>10<=cc/\q.1<=r.decls.length/\(∀i,q.2=some i->9<=i/\i<cc)/\(q.2=none->vaL (r.decls.take q.1)=[])) (λq=>r.decls.length-q.1) (0,none)
    (by simp[B7,tm,Tm.upd]) (λj B hj=>by
     by_cases e:j=8
     ·subst e;rw[A0];rw[vaH,A0]at hj;exact hj
     ·rw[h_ne e,h_ne e];rw[vaH,h_ne e]at hj;exact hj) ⟨A0E _,A0P _,λi h=>(by cases h),λ_=>rfl⟩ ?_
   rintro⟨i,vo⟩ cc ⟨hc,hi,hvo,hvn⟩;replace hi:i<=r.decls.length:=hi;replace hvo:∀i,vo=some i->9<=i/\i<cc:=hvo;replace hvn:vo=none->vaL (r.decls.take i)=[]:=hvn;dsimp only at hc ⊢;have hv0:vaH X1 vo (vaL (r.decls.take i)) m7 m8 0=some ⟨0,true,[C3 r.decls,C6 r.modes]⟩:=by
    rw[vaH,h_ne (by decide),B5 (λj hj e=>by have:=hvo j hj;omega)];exact x0
   by_cases hlt:i<r.decls.length
   rotate_left
   ·have hd:=dfz hlt;obtain rfl:i=r.decls.length:=by omega
    rw[A1P]at hvn hv0 ⊢;repeat'((with_reducible first|refine I4 (p:=IW _ _ (pz Tryz.prog 45 (.o (.o (.i (.o (.o .h)))))) _ _) ?_|refine wr ?_)<;>try simp only[go_sem,seval,hd,hv0,A0C])
    obtain⟨V,hV⟩:∃V,V=vaL r.decls:=⟨_,rfl⟩;have hR':(r.decls.filter λd=>d.kind=6).map Dc.value=V:=hV.symm;rw[hR']at hR;rw[<- hV]at hvn hv0 ⊢;unfold B2o;have g1:=A3f (H:=vaH X1 vo V m7 m8) (k:=8) (o:=vo) (n:=V.length) (u:=1) (u':=1) (pre:=[.snil,.snil,.snil,.snil]) (suf:=[I64 m7,I64 m8]) (xs:=V.map λz=>I64 z) (ds:=[.ptr 0 0,.ptr 1 0,.ptr 2 0,.ptr 8 0])
     A0 (λi hi=>⟨by have:=hvo i hi;rw[vaH,hnO];subst hi;rw[A2f];exact A0,by have:=hvo i hi;omega⟩) (λe=>by rw[hvn e];rfl) (λd hd=>by simp at hd;rcases hd with rfl|rfl|rfl<;>rfl) (by simp) (λy hy=>by obtain⟨z, -,rfl⟩:=A1B.1 hy;rfl)
    obtain⟨X0,hX0⟩:∃X:Hp,X=((nil.upd 0 ⟨0,true,[C3 r.decls,C6 r.modes]⟩).upd 1 ⟨0,true,cd0⟩):=⟨_,rfl⟩;have g2:∀ds,GL ((delO (vaH X1 vo V m7 m8) vo).upd 8 ⟨0,true,[.snil,.snil,.snil,.snil]++[.lst (V.map λz=>I64 z)]++[I64 m7,I64 m8]⟩) ds (GM (ouH X0 none [] .snil (M7 V) m7 m8) 2 none none (mkQ r) ([],[])) ds:=λds=>GL.less' (λj B hj=>by
     have hj:(ouH X0 none [] .snil (M7 V) m7 m8).upd 2 ⟨0,true,[C3 r.decls,C6 r.modes,.snil,.snil]⟩ j=some B:=hj;by_cases e8:j=8
     ·subst e8;rw[h_ne (by decide),B4w]at hj;rw[A0, <- hj];rfl
     rw[h_ne e8];by_cases e2:j=2
     ·subst e2;rw[A0]at hj;rw[A8 (λk hk e=>by have:=hvo k hk;omega),vaH,h_ne (by decide),B5 (λk hk e=>by have:=hvo k hk;omega),hX,A0];exact hj
     rw[h_ne e2,V1 e8 (λe=>by cases e)]at hj;have hj2:j<2:=A1S λh=>by rw[hX0,hnO,hnO]at hj;cases hj
     rw[A8 (λk hk e=>by have:=hvo k hk;omega),vaH,h_ne e8,B5 (λk hk e=>by have:=hvo k hk;omega),hX,h_ne e2, <- hX0];exact hj)
    refine IW.keep [1,2,7,8] [.ptr 0 0,.ptr 1 0,.ptr 2 0,.ptr 8 0] (g1.trans (g2 _)) ?_;show IW Tryz.prog _ _ ⟨tm [(1,.ptr 0 0),(2,.ptr 1 0),(7,.ptr 2 0),(8,.ptr 8 0)],_,_⟩ _;refine hG _ X0 (M7 V) m7 m8 _ rfl (by rw[hX0];rfl) (λj hj=>by rw[hX0,hnO,hnO];rfl) (by omega) ?_;intro a b eo po c' hN heo hpo hpn;have x1:X0 1=some ⟨0,true,cd0⟩:=by rw[hX0];rfl
    clear hX0 g1 g2 hG;generalize cgP (nmR r) (E3 (nmR r) 0 r.modes)=x at *;generalize enP (nmR r) (E3 (nmR r) 0 r.modes)=E at *;have hR:R=if 4000<x.1.length\/200<x.2.length then(B6b,(0:Int),(9:Int)) else((⟨x.1,x.2,E,r.modes.map Md.prio,V,m7,m8⟩:Prg),(0:Int),(0:Int)):=hR
    obtain⟨Y,gY,y2,y8,y1,yf⟩:=E2y (ds:=[.ptr 1 0,.ptr 2 0,.ptr 8 0]) hN heo hpo hpn rfl;have y1:=y1 _ x1;refine IW.keep [2,7,8] [.ptr 1 0,.ptr 2 0,.ptr 8 0] gY ?_;show IW Tryz.prog _ _ ⟨tm [(2,.ptr 1 0),(7,.ptr 2 0),(8,.ptr 8 0)],_,_⟩ _;by_cases d1:4000<x.1.length
    ·have d1':decide ((x.1.length:Int)>4000)=true:=by simp;omega
     repeat'(apply wr<;>try simp only[go_sem,seval,y2,y1,d1',A0C])
     rw[hR,iP,E6 (v:=.tup [.agg cd0,I64 0,I64 9]) rfl];exact A0q
    have d1':decide ((x.1.length:Int)>4000)=false:=by simp;omega
    by_cases d2:200<x.2.length
    ·have d2':decide ((x.2.length:Int)>200)=true:=by simp;omega
     repeat'(apply wr<;>try simp only[go_sem,seval,y2,y1,d1',d2',A0C])
     rw[hR,iP,E6 (v:=.tup [.agg cd0,I64 0,I64 9]) rfl];exact A0q
    have d2':decide ((x.2.length:Int)>200)=false:=by simp;omega
    have hc8:8<c':=A1S λhc=>by have:=yf 8 hc;rw[y8]at this;cases this
    have n82:¬(8:Nat)=2:=by decide
    repeat'(apply wr<;>try simp only[go_sem,seval,y2,y8,d1',d2',A0,A4,n82,A0C])
    refine⟨by and_intros<;>(rw[hnO];exact yf _ (by omega)),?_⟩;repeat'(apply wr<;>try simp only[go_sem,seval,y1,A0])
    rw[E6 (v:=B5t (⟨x.1,x.2,E,r.modes.map Md.prio,V,m7,m8⟩,0,0)) rfl,hR,iN];exact⟨_,GL.refl _ _⟩
   have hd:=dtz hlt;have hg:=A0B hlt;have hw:=w64 (n:=(i:Int)+1);have hgm:(r.decls.map Dc.v)[i]? = some r.decls[i].v:=by rw[A1O,hg];rfl
   have hsn:=C8a hg;have hvl:(vaL (r.decls.take i)).length<=4000000:=by
    have:=D9i (r.decls.take i);rw[A0Y]at this;omega
   generalize r.decls[i]=d at hg hgm hsn;by_cases hk:d.kind=6
   rotate_left
   ·have hk':(d.kind==6)=false:=by simpa using hk
    rw[if_neg hk,A0X]at hsn;repeat'(apply wr<;>try simp only[go_sem,seval,hd,hv0,hgm,hk',hw,A0C])
    exact⟨(i+1,vo),by simp[],by simp only[hsn];exact Sub.refl _,inv ⟨hc,hlt,hvo,by simp only[hsn];exact hvn⟩,by simp only;omega⟩
   rw[if_pos hk]at hsn;have hv8:vaH X1 vo (vaL (r.decls.take i)) m7 m8 8=some ⟨0,true,[.snil,.snil,.snil,.snil,todoV vo (vaL (r.decls.take i)).length,I64 m7,I64 m8]⟩:=A0;have hvb:∀j,vo=some j->vaH X1 vo (vaL (r.decls.take i)) m7 m8 j=some ⟨1,true,(vaL (r.decls.take i)).map λz=>I64 z⟩:=λj hj=>by
    have:=hvo j hj;rw[vaH,hnO];subst hj;exact A0
   have hvf:∀j,cc<=j->vaH X1 vo (vaL (r.decls.take i)) m7 m8 j=none:=λj hj=>by
    rw[vaH,hnO,B5 (λk hk e=>by have:=hvo k hk;omega)];exact xf j (by omega)
   obtain⟨V,hV⟩:∃V,V=vaL (r.decls.take i):=⟨_,rfl⟩;rw[<- hV]at hsn hvl hvn hv0 hv8 hvb hvf ⊢;obtain⟨HH,hHH⟩:∃HH,HH=vaH X1 vo V m7 m8:=⟨_,rfl⟩;rw[<- hHH]at hv0 hv8 hvb hvf ⊢;have ne0:=P5 8 0 cc (by omega);repeat'(apply wr<;>try simp only[go_sem,seval,hd,hv0,hv8,hgm,hk,A0C])
   refine A0w (D4 (cs:=V.map λz=>I64 z) (λe=>by rw[hvn e];exact⟨rfl,rfl⟩) (λi hi=>by rw[h_ne (by have:=hvo i hi;omega)];exact hvb i hi) (by rw[A0C,A4R]) (by omega) (by omega) (by omega)) ?_;have dm8:∀X:Hp,delO X vo 8=X 8:=λX=>A8 (λi hi e=>by have:=hvo i hi;omega);have ne8:¬ 8=cc+8:=by omega
   have ne12:¬ 8=cc+12:=by omega
   simp only[go_sem,seval,dm8,hv8,ne8,ne12];repeat'(apply wr<;>try simp only[go_sem,seval,hw])
   refine⟨(i+1,some (cc+12)),by simp[],?_,inv ⟨by omega,hlt,λi hi=>by cases hi;exact⟨by omega,by omega⟩,λe=>by cases e⟩,by simp only;omega⟩;dsimp only;intro j B hj;rw[hsn,vaH,A0A,A0T]at hj;by_cases e8:j=8
   ·subst e8;rw[A0]at hj ⊢;exact hj
   rw[h_ne e8]at hj ⊢;simp only[optH]at hj;by_cases e12:j=cc+12
   ·subst e12;rw[A0]at hj ⊢;exact hj
   rw[h_ne e12]at hj ⊢;have hj3:j<3:=A1S λh=>by rw[xf j h]at hj;cases hj
   rw[A8 (λk hk e=>by have:=hvo k hk;omega),hnO,hHH,vaH,h_ne e8,B5 (λk hk e=>by have:=hvo k hk;omega)];exact hj
def E3v(f:Nat)(a:List DV):Option DV :=
 if f==178 then match a with
  |[.str s]=>if s==C7x then some (.lst (F8.map DV.str)) else none
  |_=>none
 else if f==232 then match a with
  |[.str s,.int .u8 z]=>if((UInt8.ofNat z.toNat).toNat:Int)==z then some (I64 (Lib.indexByte s (UInt8.ofNat z.toNat))) else none
  |_=>none
 else if f==231 then match a with
  |[.str s,.int .i64 x,.int .i64 y]=>if x==10&&y==64&&s != []&&Nat.ble s.length 100&&s.all dgB&&Nat.ble (U1 s) 9223372036854775807 then some (.tup [I64 (U1 s),.inil]) else none
  |_=>none
 else none
theorem D7m:E4b Tryz.prog E3v:=by
 intro f a r h;unfold E3v at h;split at h
 ·rename_i e;obtain rfl:=eq_of_beq e;split at h
  ·split at h
   ·rename_i e;obtain rfl:=eq_of_beq e;cases h;exact c_Fields
   ·cases h
  ·cases h
 ·split at h
  ·rename_i e;obtain rfl:=eq_of_beq e;split at h
   ·split at h
    ·rename_i s z e;cases h;have:=c_IndexByte s (UInt8.ofNat z.toNat)
     rwa [eq_of_beq e]at this
    ·cases h
   ·cases h
  ·split at h
   ·rename_i e;obtain rfl:=eq_of_beq e;split at h
    ·split at h
     ·rename_i s x y e;simp only[A0D,A1T,bne_iff_ne,ne_eq,A0S]at e;obtain⟨⟨⟨⟨⟨e1,e2⟩,e3⟩,e4⟩,e5⟩,e6⟩:=e;cases h;subst e1 e2;exact c_ParseOk s (A1D (A0H e4) (by decide)) e5 e3 (A0H e6)
     ·cases h
    ·cases h
   ·cases h
theorem c_sane34:PC Tryz.prog 12 [] (.bool true):=PC.run A2 E3v D7m 3000 60 _ _ _ rfl rfl (by kernel_rfl)
end Go.Proofs.YtenmhfknbopmeaaGreatDoor
set_option maxHeartbeats 4000000
namespace Go.Proofs.YtenmhfknbopmeaaGreatDoor
open Go.Eng (IC IOper DReg IFn L1)
open Go.Sym
abbrev x203:XT Tryz.prog 203:=mkF
instance t203:FT Tryz.prog 203 x203.d:=x203.ft
abbrev x153:XT Tryz.prog 153:=mkF
instance t153:FT Tryz.prog 153 x153.d:=x153.ft
abbrev x206:XT Tryz.prog 206:=mkF
instance t206:FT Tryz.prog 206 x206.d:=x206.ft
abbrev x212:XT Tryz.prog 212:=mkF
instance t212:FT Tryz.prog 212 x212.d:=x212.ft
abbrev x214:XT Tryz.prog 214:=mkF
instance t214:FT Tryz.prog 214 x214.d:=x214.ft
abbrev x213:XT Tryz.prog 213:=mkF
instance t213:FT Tryz.prog 213 x213.d:=x213.ft
abbrev x217:XT Tryz.prog 217:=mkF
instance t217:FT Tryz.prog 217 x217.d:=x217.ft
abbrev x154:XT Tryz.prog 154:=mkF
instance t154:FT Tryz.prog 154 x154.d:=x154.ft
abbrev x205:XT Tryz.prog 205:=mkF
instance t205:FT Tryz.prog 205 x205.d:=x205.ft
abbrev x208:XT Tryz.prog 208:=mkF
instance t208:FT Tryz.prog 208 x208.d:=x208.ft
abbrev x209:XT Tryz.prog 209:=mkF
instance t209:FT Tryz.prog 209 x209.d:=x209.ft
abbrev x211:XT Tryz.prog 211:=mkF
instance t211:FT Tryz.prog 211 x211.d:=x211.ft
abbrev x155:XT Tryz.prog 155:=mkF
instance t155:FT Tryz.prog 155 x155.d:=x155.ft
abbrev x215:XT Tryz.prog 215:=mkF
instance t215:FT Tryz.prog 215 x215.d:=x215.ft
abbrev x156:XT Tryz.prog 156:=mkF
instance t156:FT Tryz.prog 156 x156.d:=x156.ft
abbrev x157:XT Tryz.prog 157:=mkF
instance t157:FT Tryz.prog 157 x157.d:=x157.ft
abbrev x216:XT Tryz.prog 216:=mkF
instance t216:FT Tryz.prog 216 x216.d:=x216.ft
abbrev x101:XT Tryz.prog 101:=mkF
instance t101:FT Tryz.prog 101 x101.d:=x101.ft
abbrev x46:XT Tryz.prog 46:=mkF
instance t46:FT Tryz.prog 46 x46.d:=x46.ft
abbrev x239:XT Tryz.prog 239:=mkF
instance t239:FT Tryz.prog 239 x239.d:=x239.ft
abbrev x240:XT Tryz.prog 240:=mkF
instance t240:FT Tryz.prog 240 x240.d:=x240.ft
abbrev x241:XT Tryz.prog 241:=mkF
instance t241:FT Tryz.prog 241 x241.d:=x241.ft
abbrev x204:XT Tryz.prog 204:=mkF
instance t204:FT Tryz.prog 204 x204.d:=x204.ft
abbrev x207:XT Tryz.prog 207:=mkF
instance t207:FT Tryz.prog 207 x207.d:=x207.ft
abbrev x210:XT Tryz.prog 210:=mkF
instance t210:FT Tryz.prog 210 x210.d:=x210.ft
abbrev x31:XT Tryz.prog 31:=mkF
instance t31:FT Tryz.prog 31 x31.d:=x31.ft
open Go.Sym Go.Pb
theorem c_within(n lo hi:Int):PC Tryz.prog 203 [I64 n,I64 lo,I64 hi] (.bool (inM n lo hi)):=by
 refine PC.go A2 ?_;repeat'((with_reducible first|apply wr|apply wb2<;>(intro hb;try simp only[hb]))<;>try simp only[go_sem,seval])
 all_goals(refine A1 ?_;simp_all[inM]<;>omega)
theorem c_bless(a b:Ent):PC Tryz.prog 156 [a.v,b.v] (.bool (B3i a b)):=by
 refine PC.go A2 ?_;repeat'((with_reducible first|apply wr|apply wb2<;>(intro hb;try simp only[hb]))<;>try simp only[go_sem,seval])
 all_goals(refine A1 ?_;simp_all[B3i])
theorem c_bIsText(s:List UInt8)(hs:s.length<=140737488355328):PC Tryz.prog 206 [.str s] (.bool (P2 s)):=by
 refine PC.go A2 ?_;repeat'(apply wr<;>try simp only[go_sem,seval])
 refine A6 (λk:Nat=>[(0,.str s),(3,I64 k)]) (λ_=>nil) (λk _=>k<=s.length/\(s.take k).all A1w=true) (λk=>s.length-k) 0 (by simp[B7,tm,Tm.upd]) (Sub.nil _) (by simp) ?_;rintro k c ⟨hk,he⟩;by_cases hlt:k<s.length
 ·have hd:=dtz hlt;have hg:=A0B hlt;have hw:=w64 (n:=(k:Int)+1);repeat'((with_reducible first|apply wr|apply wb2<;>(intro hb;try simp only[hb]))<;>try simp only[go_sem,seval,hd,hg,hw])
  ·refine A1 ?_;rw[P2,A0b A1w s k _ hg (by simp_all[A1w];omega)];rfl
  ·refine A1 ?_;rw[P2,A0b A1w s k _ hg (by simp_all[A1w];omega)];rfl
  ·exact⟨k+1,rfl,Sub.refl _,inv ⟨by omega,by rw[B9g A1w s k _ hg he];simp_all[A1w];omega⟩,by omega⟩
 ·have hd:=dfz hlt;repeat'(apply wr<;>try simp only[go_sem,seval,hd])
  refine A1 ?_;rw[P2,A3m A1w s k (by omega) he,A2E];simp;omega
theorem c_goodEntry(c:Prg)(hl:Lim c)(e:Ent):PC Tryz.prog 212 [c.v,e.v] (.bool (A3g c e)):=by
 obtain⟨wp,wv,ws,wi,wt,we, -, -, -, -, -⟩:=hl;refine PC.go A2 ?_;repeat'((with_reducible first|apply wr|refine cpc (c_within _ _ _) ?_|apply wb2<;>(intro hb;try simp only[hb]))<;>try simp only[go_sem,seval,wp,wt,we])
 all_goals(refine A1 ?_;simp_all[A3g]<;>rfl)
theorem c_isJ(op:Int):PC Tryz.prog 214 [I64 op] (.bool (isJ op)):=by
 refine PC.go A2 ?_;repeat'((with_reducible first|apply wr|apply wb2<;>(intro hb;try simp only[hb]))<;>try simp only[go_sem,seval])
 all_goals(refine A1 ?_;simp_all[isJ]<;>rfl)
theorem c_stack(op:Int):PC Tryz.prog 217 [I64 op] (.tup [I64 (D2 op).1,I64 (D2 op).2.1]):=by
 refine PC.go A2 ?_;repeat'((with_reducible first|apply wr|apply wb2<;>(intro hb;try simp only[hb]))<;>try simp only[go_sem,seval])
 all_goals first
  |(simp only[A1T]at hb;subst hb;exact A1 rfl)
  |(simp only[beq_eq_false_iff_ne,ne_eq]at *;refine A1 ?_;rw[(E7q ‹_› ‹_› ‹_› ‹_› ‹_› ‹_› ‹_› ‹_› ‹_› ‹_› ‹_› ‹_› ‹_› ‹_› ‹_› ‹_› ‹_› ‹_›).1,(E7q ‹_› ‹_› ‹_› ‹_› ‹_› ‹_› ‹_› ‹_› ‹_› ‹_› ‹_› ‹_› ‹_› ‹_› ‹_› ‹_› ‹_› ‹_›).2])
theorem c_bSpan(c:Prg)(hl:Lim c)(op:Int):PC Tryz.prog 213 [c.v,I64 op] (.tup [I64 (I1 c op).1,I64 (I1 c op).2]):=by
 obtain⟨wp,wv,ws,wi,wt,we, -, -, -, -, -⟩:=hl;refine PC.go A2 ?_;repeat'((with_reducible first|apply wr|apply wb2<;>(intro hb;try simp only[hb]))<;>try simp only[go_sem,seval,wp,wv,ws,wt,we])
 all_goals first
  |(simp only[A1T]at hb;subst hb;refine A1 ?_;simp[I1];done)
  |(refine A1 ?_;simp_all[I1])
theorem c_IF_str{g:(List UInt8)->Bool}{f:Nat}{a cs:List DV}(xs:List (List UInt8))(hx:xs.length<=9223372036854775807)(na:DV.nlL a=true)(ncs:DV.nlL cs=true)(hf:∀x∈xs,PC Tryz.prog f (a++[DV.str x]++cs) (.bool (g x))):
  PC Tryz.prog 239 [.lst (xs.map DV.str),.func f a cs] (I64 (P8 g xs 0)):=by
 refine PC.ofT A2 rfl (A0H rfl) (by simp[DV.nlL,DV.nl,J6,na,ncs]) rfl ?_;repeat'(apply wr<;>try simp only[go_sem,seval])
 refine A6 (λk:Nat=>[(0,.lst (xs.map DV.str)),(1,.func f a cs),(7,I64 xs.length),(8,I64 k)]) (λ_=>nil) (λk _=>k<=xs.length/\P8 g xs 0=P8 g (xs.drop k) k) (λk=>xs.length-k) 0 (by simp[B7,tm,Tm.upd]) (Sub.nil _) (by simp) ?_;rintro k c ⟨hk,he⟩;by_cases hlt:k<xs.length
 ·have hd:=dtz hlt;have hg:=A0B hlt;have hw:=w64 (n:=(k:Int)+1);have hst:=Q8 (g:=g) hg;have hc:=hf xs[k] (A0L hlt);repeat'((with_reducible first|apply wr|refine cpc hc ?_|apply wb2<;>(intro hb;try simp only[hb]))<;>try simp only[go_sem,seval,hd,hg,hw])
  ·refine A1 ?_;rw[he,hst,hb];rfl
  ·exact⟨k+1,rfl,Sub.refl _,inv ⟨by omega,by rw[he,hst,hb];rfl⟩,by omega⟩
 ·have hd:=dfz hlt;repeat'(apply wr<;>try simp only[go_sem,seval,hd])
  refine A1 ?_;rw[he,V7 (by omega)]
theorem c_CF_str{g:(List UInt8)->Bool}{f:Nat}{a cs:List DV}(xs:List (List UInt8))(hx:xs.length<=9223372036854775807)(na:DV.nlL a=true)(ncs:DV.nlL cs=true)(hf:∀x∈xs,PC Tryz.prog f (a++[DV.str x]++cs) (.bool (g x))):
  PC Tryz.prog 204 [.lst (xs.map DV.str),.func f a cs] (.bool (xs.any g)):=by
 refine PC.ofT A2 rfl (A0H rfl) (by simp[DV.nlL,DV.nl,J6,na,ncs]) rfl ?_;have hc:=c_IF_str xs hx na ncs hf;repeat'((with_reducible first|apply wr|refine cpc hc ?_)<;>try simp only[go_sem,seval])
 refine A1 ?_;rw[V8]
theorem c_IF_int{g:Int->Bool}{f:Nat}{a cs:List DV}(xs:List Int)(hx:xs.length<=9223372036854775807)(na:DV.nlL a=true)(ncs:DV.nlL cs=true)(hf:∀x∈xs,PC Tryz.prog f (a++[I64 x]++cs) (.bool (g x))):
  PC Tryz.prog 240 [.lst (xs.map I64),.func f a cs] (I64 (P8 g xs 0)):=by
 refine PC.ofT A2 rfl (A0H rfl) (by simp[DV.nlL,DV.nl,S0,na,ncs]) rfl ?_;repeat'(apply wr<;>try simp only[go_sem,seval])
 refine A6 (λk:Nat=>[(0,.lst (xs.map I64)),(1,.func f a cs),(7,I64 xs.length),(8,I64 k)]) (λ_=>nil) (λk _=>k<=xs.length/\P8 g xs 0=P8 g (xs.drop k) k) (λk=>xs.length-k) 0 (by simp[B7,tm,Tm.upd]) (Sub.nil _) (by simp) ?_;rintro k c ⟨hk,he⟩;by_cases hlt:k<xs.length
 ·have hd:=dtz hlt;have hg:=A0B hlt;have hw:=w64 (n:=(k:Int)+1);have hst:=Q8 (g:=g) hg;have hc:=hf xs[k] (A0L hlt);repeat'((with_reducible first|apply wr|refine cpc hc ?_|apply wb2<;>(intro hb;try simp only[hb]))<;>try simp only[go_sem,seval,hd,hg,hw])
  ·refine A1 ?_;rw[he,hst,hb];rfl
  ·exact⟨k+1,rfl,Sub.refl _,inv ⟨by omega,by rw[he,hst,hb];rfl⟩,by omega⟩
 ·have hd:=dfz hlt;repeat'(apply wr<;>try simp only[go_sem,seval,hd])
  refine A1 ?_;rw[he,V7 (by omega)]
theorem c_CF_int{g:Int->Bool}{f:Nat}{a cs:List DV}(xs:List Int)(hx:xs.length<=9223372036854775807)(na:DV.nlL a=true)(ncs:DV.nlL cs=true)(hf:∀x∈xs,PC Tryz.prog f (a++[I64 x]++cs) (.bool (g x))):
  PC Tryz.prog 207 [.lst (xs.map I64),.func f a cs] (.bool (xs.any g)):=by
 refine PC.ofT A2 rfl (A0H rfl) (by simp[DV.nlL,DV.nl,S0,na,ncs]) rfl ?_;have hc:=c_IF_int xs hx na ncs hf;repeat'((with_reducible first|apply wr|refine cpc hc ?_)<;>try simp only[go_sem,seval])
 refine A1 ?_;rw[V8]
theorem c_IF_ent{g:Ent->Bool}{f:Nat}{a cs:List DV}(xs:List Ent)(hx:xs.length<=9223372036854775807)(na:DV.nlL a=true)(ncs:DV.nlL cs=true)(hf:∀x∈xs,PC Tryz.prog f (a++[Ent.v x]++cs) (.bool (g x))):
  PC Tryz.prog 241 [.lst (xs.map Ent.v),.func f a cs] (I64 (P8 g xs 0)):=by
 refine PC.ofT A2 rfl (A0H rfl) (by simp[DV.nlL,DV.nl,Q7,na,ncs]) rfl ?_;repeat'(apply wr<;>try simp only[go_sem,seval])
 refine A6 (λk:Nat=>[(0,.lst (xs.map Ent.v)),(1,.func f a cs),(7,I64 xs.length),(8,I64 k)]) (λ_=>nil) (λk _=>k<=xs.length/\P8 g xs 0=P8 g (xs.drop k) k) (λk=>xs.length-k) 0 (by simp[B7,tm,Tm.upd]) (Sub.nil _) (by simp) ?_;rintro k c ⟨hk,he⟩;by_cases hlt:k<xs.length
 ·have hd:=dtz hlt;have hg:=A0B hlt;have hw:=w64 (n:=(k:Int)+1);have hst:=Q8 (g:=g) hg;have hc:=hf xs[k] (A0L hlt);repeat'((with_reducible first|apply wr|refine cpc hc ?_|apply wb2<;>(intro hb;try simp only[hb]))<;>try simp only[go_sem,seval,hd,hg,hw])
  ·refine A1 ?_;rw[he,hst,hb];rfl
  ·exact⟨k+1,rfl,Sub.refl _,inv ⟨by omega,by rw[he,hst,hb];rfl⟩,by omega⟩
 ·have hd:=dfz hlt;repeat'(apply wr<;>try simp only[go_sem,seval,hd])
  refine A1 ?_;rw[he,V7 (by omega)]
theorem c_CF_ent{g:Ent->Bool}{f:Nat}{a cs:List DV}(xs:List Ent)(hx:xs.length<=9223372036854775807)(na:DV.nlL a=true)(ncs:DV.nlL cs=true)(hf:∀x∈xs,PC Tryz.prog f (a++[Ent.v x]++cs) (.bool (g x))):
  PC Tryz.prog 210 [.lst (xs.map Ent.v),.func f a cs] (.bool (xs.any g)):=by
 refine PC.ofT A2 rfl (A0H rfl) (by simp[DV.nlL,DV.nl,Q7,na,ncs]) rfl ?_;have hc:=c_IF_ent xs hx na ncs hf;repeat'((with_reducible first|apply wr|refine cpc hc ?_)<;>try simp only[go_sem,seval])
 refine A1 ?_;rw[V8]
theorem c_limits(c:Prg):PC Tryz.prog 153 [c.v] (.bool (N9 c)):=by
 refine PC.go A2 ?_;repeat'((with_reducible first|apply wr|refine cpc (c_within _ _ _) ?_|apply wb2<;>(intro hb;try simp only[hb]))<;>try simp only[go_sem,seval])
 all_goals(refine A1 ?_;simp_all[N9]<;>omega)
theorem c_p1(s:List UInt8)(hs:s.length<=140737488355328):PC Tryz.prog 205 [.str s] (.bool (!P2 s)):=by
 refine PC.go A2 ?_;repeat'((with_reducible first|apply wr|refine cpc (c_bIsText s hs) ?_)<;>try simp only[go_sem,seval])
 exact A1 rfl
theorem c_p2(n:Int):PC Tryz.prog 208 [I64 n] (.bool (!inM n 0 99)):=by
 refine PC.go A2 ?_;repeat'((with_reducible first|apply wr|refine cpc (c_within _ _ _) ?_)<;>try simp only[go_sem,seval])
 exact A1 rfl
theorem c_p3(n:Int):PC Tryz.prog 209 [I64 n] (.bool (!inM n (-2147483647) 2147483647)):=by
 refine PC.go A2 ?_;repeat'((with_reducible first|apply wr|refine cpc (c_within _ _ _) ?_)<;>try simp only[go_sem,seval])
 exact A1 rfl
theorem c_p4(c:Prg)(hl:Lim c)(e:Ent):PC Tryz.prog 211 [e.v,.fptr c.cs] (.bool (!A3g c e)):=by
 refine PC.go A2 ?_;repeat'((with_reducible first|apply wr|refine cpc (c_goodEntry c hl e) ?_)<;>try simp only[go_sem,seval])
 exact A1 rfl
theorem c_t1(c:Prg)(hl:Lim c)(e:Ent):PC Tryz.prog 215 [e.v,.fptr c.cs] (.bool (!B7u c e)):=by
 obtain⟨wp,wv,ws,wi,wt,we,li,ls,le,lp,lv⟩:=hl;refine PC.go A2 ?_;repeat'((with_reducible first|apply wr|refine cpc (c_within _ _ _) ?_)<;>try simp only[go_sem,seval,wi])
 exact A1 rfl
theorem D8o(c:Prg)(fn:Nat)(l:List DV):GL (nil.upd 0 ⟨0,true,c.cs⟩) [.lst l,.func fn [] [.ptr 0 0]] nil [.lst l,.func fn [] [.fptr c.cs]] :=
 GL.one (b:=⟨0,true,c.cs⟩) rfl rfl (.cons _ _ _ _ (.same _) (.cons _ _ _ _ (.func _ _ _ _ _ .nil (.cons _ _ _ _ (.ptr 0 c.cs (A0P _) rfl) .nil)) .nil))
theorem c_targets(c:Prg)(hl:Lim c):PC Tryz.prog 155 [c.v] (.bool (J2 c)):=by
 have hl0:=hl;obtain⟨wp,wv,ws,wi,wt,we,li,ls,le,lp,lv⟩:=hl;have cf:=c_CF_ent (a:=[]) (cs:=[.fptr c.cs]) c.entries (by omega) rfl (by simp[DV.nlL,DV.nl,S0,J6,A2a,Q7]) (λe _=>c_t1 c hl0 e);rw[A4k]at cf;refine PC.go A2 ?_;repeat'(apply wr<;>try simp only[go_sem,seval])
 refine A6 (λk:Nat=>[(1,.ptr 0 0),(6,A2l c.instrs),(7,I64 c.instrs.length),(8,I64 k)]) (λ_=>nil.upd 0 ⟨0,true,c.cs⟩) (λk cc=>1<=cc/\k<=c.instrs.length/\(c.instrs.take k).all (A4w c)=true) (λk=>c.instrs.length-k) 0 (by simp[B7,tm,Tm.upd]) (Sub.refl _) (by simp) ?_;rintro k cc ⟨h1c,hk,he⟩;have ne0:=W9 0 cc (by omega);by_cases hlt:k<c.instrs.length
 ·have hd:=dtz hlt;have hg:=A0B hlt;have hw:=w64 (n:=(k:Int)+1);repeat'((with_reducible first|apply wr|refine cpc (c_isJ _) ?_|refine cpc (c_within _ _ _) ?_|apply wb2<;>(intro hb;try simp only[hb]))<;>try simp only[go_sem,seval,hd,hg,hw,wi,ne0])
  ·refine A1 ?_;have hf:=A0b (A4w c) c.instrs k _ hg (by rw[A4w, <- A6n];simp_all);simp[J2,hf]
  all_goals exact⟨k+1,rfl,by(intro j b hj;simp only[Hp.upd,Sym.nil]at hj ⊢;(repeat' split at hj)<;>(repeat' split)<;>first|exact hj|(exfalso;omega)|cases hj),inv ⟨by omega,by omega,by rw[B9g (A4w c) _ k _ hg he,A4w, <- A6n];simp_all⟩,by omega⟩
 ·have hd:=dfz hlt;have hall:=A3m (A4w c) c.instrs k (by omega) he;repeat'((first|(with_reducible first|apply wr)|(with_reducible apply wb2<;>(intro hb;try simp only[hb]))|((with_reducible refine AC.call (PC.lend cf rfl (D8o c _ _)) ?_);rintro _ _ _ ⟨rfl,rfl,rfl⟩ -))<;>try simp only[go_sem,seval,hd])
  refine A1 ?_;simp[J2,hall]
theorem c_bparts(c:Prg)(hl:Lim c)(hs:∀s∈c.strings,s.length<=140737488355328):PC Tryz.prog 154 [c.v] (.bool (Z3 c)):=by
 have hl0:=hl;obtain⟨wp,wv,ws,wi,wt,we,li,ls,le,lp,lv⟩:=hl;have cf1:=c_CF_str (g:=λs => !P2 s) (a:=[]) (cs:=[]) c.strings (by omega) rfl rfl (λs h=>c_p1 s (hs s h));have cf2:=c_CF_int (g:=λn => !inM n 0 99) (a:=[]) (cs:=[]) c.prios (by omega) rfl rfl (λn _=>c_p2 n);have cf3:=c_CF_int (g:=λn => !inM n (-2147483647) 2147483647) (a:=[]) (cs:=[]) c.vars (by omega) rfl rfl (λn _=>c_p3 n);have cf4:=c_CF_ent (g:=λe => !A3g c e) (a:=[]) (cs:=[.fptr c.cs]) c.entries (by omega) rfl (by simp[DV.nlL,DV.nl,S0,J6,A2a,Q7]) (λe _=>c_p4 c hl0 e);rw[A4k]at cf1 cf2 cf3 cf4;have main:∀(b:Bool) (cc:Nat),1<=cc->b = !(c.strings.all P2&&c.prios.all (λn=>inM n 0 99)&&c.vars.all (λn=>inM n (-2147483647) 2147483647)&&c.entries.all (A3g c)) ->
   IW Tryz.prog 59 (.loop (pz Tryz.prog 154 (.o (.i (.o .h))))) ⟨tm [(1,.ptr 0 0),(3,.bool b),(28,A2l c.instrs),(29,I64 c.instrs.length),(30,I64 0)],nil.upd 0 ⟨0,true,c.cs⟩,cc⟩ (bk 0 (sq Tryz.prog 59 (pz Tryz.prog 154 (.o (.o (.o (.i .h))))) (rt [.tmp 2] λv H' x => ∃H2,GL H' [v] H2 [.bool (Z3 c)]))):=by
  intro b cc h1c hbG;refine A6 (λk:Nat=>[(1,.ptr 0 0),(3,.bool (b || !(c.instrs.take k).all (D3 c))),(28,A2l c.instrs),(29,I64 c.instrs.length),(30,I64 k)]) (λ_=>nil.upd 0 ⟨0,true,c.cs⟩) (λk cc=>1<=cc/\k<=c.instrs.length) (λk=>c.instrs.length-k) 0 (by simp[B7,tm,Tm.upd]) (Sub.refl _) (by simp;omega) ?_;rintro k cc ⟨h1c,hk⟩;have ne0:=W9 0 cc (by omega);by_cases hlt:k<c.instrs.length
  ·have hd:=dtz hlt;have hg:=A0B hlt;have hw:=w64 (n:=(k:Int)+1);have hta:=A1n (D3 c) c.instrs k _ hg;rw[B7i]at hta;clear hbG;generalize hB:(b || !(c.instrs.take k).all (D3 c))=B;repeat'((with_reducible first|apply wr|refine cpc (c_isJ _) ?_|refine cpc (c_within _ _ _) ?_|refine cpc (c_bSpan c hl0 _) ?_|apply wb2<;>(intro hb;try simp only[hb]))<;>try simp only[go_sem,seval,hd,hg,hw,ne0])
   all_goals exact⟨k+1,by rw[hta,C8r,hB];simp_all,by(intro j b hj;simp only[Hp.upd,Sym.nil]at hj ⊢;(repeat' split at hj)<;>(repeat' split)<;>first|exact hj|(exfalso;omega)|cases hj),inv ⟨by omega,hlt⟩,by omega⟩
  ·have hd:=dfz hlt;repeat'(apply wr<;>try simp only[go_sem,seval,hd])
   refine A1 ?_;rw[A0M (by omega)];simp only[Z3,hbG];simp only[Bool.not_or,Bool.not_not]
 refine PC.go A2 ?_;repeat'((first|(with_reducible first|apply wr|refine cpc cf1 ?_|refine cpc cf2 ?_|refine cpc cf3 ?_)|(with_reducible apply wb2<;>(intro hb;try simp only[hb]))|((with_reducible refine AC.call (PC.lend cf4 rfl (D8o c _ _)) ?_);rintro _ _ _ ⟨rfl,rfl,rfl⟩ -))<;>try simp only[go_sem,seval])
 all_goals(refine main _ _ (by omega) ?_;simp only[A3M,Bool.not_eq_false']at *;simp only[*,A2H,A2E,Bool.false_and,A3Z,Bool.not_false])
theorem c_reach(c:Prg)(h:List Int)(wk:List Nat)(o:Option Nat)(junk:List DV)(H:Hp)(cc:Nat)(p:Nat)(x:Int)(hS:WkS c h wk o junk H cc)(hw:wk.length<=100000):
  AC Tryz.prog 216 [I64 (p:Int),I64 x,.ptr 2 0,.ptr 3 0] H cc (λv H' c'=>match I2 h wk p x with
   |none=>v=.bool false
   |some (h',wk')=>v=.bool true/\∃o' junk',WkS c h' wk' o' junk' H' c'/\∀j,4<=j->j<cc->o≠some j->H' j=H j):=by
 obtain⟨h0,h1,h2,h3,hn,hs,hc⟩:=hS;refine AC.go A2 λhfr=>?_;by_cases hp:h.length<=p
 ·have hd:decide ((p:Int)≥h.length)=true:=by simp;omega
  have hr:I2 h wk p x=none:=by rw[I2,if_pos (.inl hp)]
  repeat'(apply wr<;>try simp only[go_sem,seval,h2,hd])
  exact⟨_,_,GL.refl _ _,by rw[hr]⟩
 have hp':p<h.length:=by omega
 have hd:decide ((p:Int)≥h.length)=false:=by simp;omega
 have hg:=A0B hp';have hgd:h.getD p 0=h[p]:=by simp[List.getD,hg]
 have hput:=C3c (f:=I64) (l:=h) (n:=p) (a:=x) hp';have hle:p+1<=h.length:=hp';rcases o with _|id
 ·obtain rfl:=hn rfl;have ne0:=A6f 0 1 2 3 cc (cc+1) (by omega);repeat'((first|(with_reducible first|apply wr)|(with_reducible apply wb2<;>(intro hb;try simp only[hb]))|((with_reducible refine F6 (A3t (by decide) (by decide) (by decide)) ?_)))<;>try simp only[go_sem,seval,h1,h2,h3,hd,hp',hg,hput,hle,A0O,ne0])
  ·have hr:I2 h [] p x=none:=by simp_all[I2]
   exact⟨_,_,GL.refl _ _,by rw[hr]⟩
  ·have hr:I2 h [] p x=none:=by simp_all[I2]
   exact⟨_,_,GL.refl _ _,by rw[hr]⟩
  ·exfalso;simp at *;omega
  ·have hr:I2 h [] p x=some (h,[]):=by simp_all[I2]<;>omega
   refine⟨_,_,GL.refl _ _,?_⟩;rw[hr];exact⟨rfl,none,junk,⟨h0,h1,h2,h3,hn,hs,hc⟩,λ_ _ _ _=>rfl⟩
  ·have hr:I2 h [] p x=some (h.set p x,p :: []):=by simp_all[I2]<;>omega
   refine⟨_,_,GL.refl _ _,?_⟩;rw[hr];refine⟨rfl,some (cc+1),[],⟨?_,?_,?_,?_,by simp,λi hi=>?_,by omega⟩,λj hj1 hj2 hj3=>?_⟩
   ·simp only[go_sem,seval,ne0,h0]
   ·simp only[go_sem,seval,ne0]
   ·simp only[go_sem,seval,ne0,h2,List.length_set]
   ·simp only[go_sem,seval]
   ·cases hi;refine⟨by omega,by omega,?_⟩;simp only[go_sem,seval,ne0,A5u];try rfl
   ·have k1:¬j=1:=by omega
    have k2:¬j=3:=by omega
    have k3:¬j=cc:=by omega
    have k4:¬j=cc+1:=by omega
    simp only[go_sem,seval,k1,k2,k3,k4]
  ·exfalso;simp at *;omega
 ·obtain⟨i2,i3,hi4⟩:=hs id rfl;have ne0:=E1v 0 1 2 3 id cc (cc+1) (by omega);have hmx:wk.length+1<=maxLen:=by simp only[maxLen];omega
  have hcl:wk.length*1<=(wkC wk++junk).length:=by simp[A5t]
  have htake:(wkC wk++junk).take (wk.length)=wkC wk:=List.take_left' (A5t wk);repeat'((first|(with_reducible first|apply wr)|(with_reducible apply wb2<;>(intro hb;try simp only[hb]))|((with_reducible refine F6 (D8u hcl (by omega) hmx) ?_)))<;>try simp only[go_sem,seval,h1,h2,h3,hi4,hd,hp',hg,hput,hle,htake,ne0])
  ·have hr:I2 h wk p x=none:=by simp_all[I2]
   exact⟨_,_,GL.refl _ _,by rw[hr]⟩
  ·have hr:I2 h wk p x=none:=by simp_all[I2]
   exact⟨_,_,GL.refl _ _,by rw[hr]⟩
  ·exfalso;simp at *;omega
  ·have hr:I2 h wk p x=some (h,wk):=by simp_all[I2]<;>omega
   refine⟨_,_,GL.refl _ _,?_⟩;rw[hr];exact⟨rfl,some id,junk,⟨h0,h1,h2,h3,hn,hs,hc⟩,λ_ _ _ _=>rfl⟩
  ·have hr:I2 h wk p x=some (h.set p x,p::wk):=by simp_all[I2]<;>omega
   refine⟨_,_,GL.refl _ _,?_⟩;rw[hr];refine⟨rfl,some (cc+1),[],⟨?_,?_,?_,?_,by simp,λi hi=>?_,by omega⟩,λj hj1 hj2 hj3=>?_⟩
   ·simp only[go_sem,seval,ne0,h0]
   ·simp only[go_sem,seval,ne0]
   ·simp only[go_sem,seval,ne0,h2,List.length_set]
   ·simp only[go_sem,seval]
   ·cases hi;refine⟨by omega,by omega,?_⟩;simp only[go_sem,seval,ne0,A5u];try rfl
   ·have hj4:¬j=id:=λe=>hj3 (by rw[e]);have k1:¬j=1:=by omega
    have k2:¬j=3:=by omega
    have k3:¬j=cc:=by omega
    have k4:¬j=cc+1:=by omega
    simp only[go_sem,seval,hj4,k1,k2,k3,k4]
  ·exfalso;simp at *;omega
theorem c_reach'(c:Prg)(h:List Int)(wk:List Nat)(o:Option Nat)(junk:List DV)(H:Hp)(cc:Nat)(p:Int)(x:Int)(hp:0<=p)(hS:WkS c h wk o junk H cc)(hw:wk.length<=100000):
  AC Tryz.prog 216 [I64 p,I64 x,.ptr 2 0,.ptr 3 0] H cc (λv H' c'=>(I2 h wk p.toNat x=none/\v=.bool false) \/
   ∃h' wk' o' junk',I2 h wk p.toNat x=some (h',wk')/\v=.bool true/\WkS c h' wk' o' junk' H' c'/\∀j,4<=j->j<cc->o≠some j->H' j=H j):=by
 have hpp:(p.toNat:Int)=p:=by omega
 have key:=c_reach c h wk o junk H cc p.toNat x hS hw;rw[hpp]at key;refine key.mono λv H' c' hq=>?_;cases hr:I2 h wk p.toNat x with
 |none=>rw[hr]at hq;exact .inl ⟨rfl,hq⟩
 |some q =>
  obtain⟨h',wk'⟩:=q;rw[hr]at hq;obtain⟨e,o',junk',s1,s2⟩:=hq;exact .inr ⟨h',wk',o',junk',rfl,e,s1,s2⟩
abbrev clo:DV:=.func 216 [] [.ptr 2 0,.ptr 3 0]
theorem C0y(c:Prg)(hl:Lim c)(hj:J2 c=true)(r:Option (List Int))(n:Nat)(h:List Int)(wk:List Nat)(o:Option Nat)(junk:List DV)(cc:Nat)(hc4:4<=cc)(hn:o=none->wk=[])(hs:∀i,o=some i->4<=i/\i<cc)
  (hI:WkI c.instrs.length h wk) (hb:wk.length+2*n<=60000) (hr:B8d c n h wk=some r) :
  IW Tryz.prog 150 (.loop (pz Tryz.prog 157 (.o (.o (.i (.o (.i .h))))))) ⟨tm [(1,.ptr 0 0),(4,.ptr 2 0),(6,.ptr 3 0),(7,clo)],WH c h wk o junk,cc⟩ (bk 4 (sq Tryz.prog 150 (pz Tryz.prog 157 (.i (.i (.o (.o (.o (.i .h))))))) (rt [.tmp 2,.tmp 3] λv H' x => ∃H2,GL H' [v] H2 [C6v r]))):=by
 have hjI:∀i∈c.instrs,i.op=12\/i.op=13\/i.op=14->0<=i.A/\i.A<=(c.instrs.length:Int)-1:=by
  intro i hi hop;simp only[J2,A0D,A0S]at hj;have:=hj.1 i hi;have hk:(D2 i.op).2.2=7:=by rcases hop with e|e|e<;>rw[e]<;>decide
  simpa[A4w,hk,inM] using this
 obtain⟨wp,wv,ws,wi,wt,we,li,ls,le,lp,lv⟩:=hl;refine A6 (λq:Nat × List Int × List Nat × Option Nat × List DV=>[(1,.ptr 0 0),(4,.ptr 2 0),(6,.ptr 3 0),(7,clo)])
  (λq=>WH c q.2.1 q.2.2.1 q.2.2.2.1 q.2.2.2.2)
  (λq cc=>4<=cc/\(q.2.2.2.1=none->q.2.2.1=[])/\(∀i,q.2.2.2.1=some i->4<=i/\i<cc)/\WkI c.instrs.length q.2.1 q.2.2.1/\q.2.2.1.length+2*q.1<=60000/\B8d c q.1 q.2.1 q.2.2.1=some r)
  (λq=>q.1) (n,h,wk,o,junk) ⟨rfl,rfl,rfl,rfl,trivial⟩ (Sub.refl _) ⟨hc4,hn,hs,hI,hb,hr⟩ ?_
 clear hc4 hn hs hI hb hr;rintro⟨n,h,wk,o,junk⟩ cc ⟨hc4,hn,hs,hI,hb,hr⟩;simp only at hn hs hI hb hr;obtain⟨m,rfl⟩:∃m,n=m+1:=by
  cases n with
  |zero=>cases hr
  |succ m=>exact⟨m,rfl⟩
 have hS:=WkS.mk' (c:=c) (h:=h) (junk:=junk) hn hs hc4;rcases wk with _|⟨p,wk⟩
 ·simp only[B8d,Option.some.injEq]at hr;subst hr;have hlen:A6m (todoV o 0)=some (I64 0):=by cases o<;>rfl
  repeat'(apply wr<;>try simp only[go_sem,seval,hS.h2,hS.h3,hlen,A0O])
  exact D5h (u:=1) hS.h1 rfl (by simp) (C6r h) ⟨[],by rw[A2f,A0X]⟩
 rcases o with _|id
 ·exact absurd (hn rfl) (by simp)
 obtain⟨i2,i3⟩:=hs id rfl;have hbl:=(hS.hs id rfl).2.2;rw[A0F]at hb;have hpos:decide (((wk.length+1:Nat):Int)>0)=true:=by simp
 have hw:=w64 (n:=(((wk.length+1:Nat):Int)-1)) (by omega) (by omega);have hw1:(((wk.length+1:Nat):Int)-1)=(wk.length:Int):=by omega
 rw[hw1]at hw;obtain⟨s1,s2,s3⟩:=hI.mem p A0J;have hIt:WkI c.instrs.length h wk:=⟨hI.hl,λq hq=>hI.mem q (A0G _ hq)⟩;have hlen:=hI.hl;have hp':p<h.length:=by omega
 have hgh:=A0B hp';have hgi:=A0B s1;have eh:h.getD p 0=h[p]:=by simp[List.getD,hgh]
 have ei:c.instrs.getD p ⟨0,0⟩=c.instrs[p]:=by simp[List.getD,hgi]
 simp only[B8d]at hr;rw[eh]at s2 s3;rw[eh,ei]at hr;obtain⟨b1,b2,b3,b4⟩:=B5o c.instrs[p].op;have w2:=w64 (n:=h[p]-(D2 c.instrs[p].op).1);have w3:=w64 (n:=h[p]-(D2 c.instrs[p].op).1+(D2 c.instrs[p].op).2.1);have hcell:(wkC (p::wk)++junk)[wk.length]? = some (I64 (p:Int)):=by
  rw[A5u,A0Q,A2D (by simp[A5t]),A5t];simp
 have hblen:wk.length+1<=(wkC (p::wk)++junk).length:=by simp[A5t]
 have ne0:=E1v 0 1 2 3 id cc (cc+1) (by omega);by_cases hok:¬h[p]≥(D2 c.instrs[p].op).1
 ·rw[if_pos (.inl (by omega))]at hr;cases hr;have hok':decide (h[p]≥(D2 c.instrs[p].op).1)=false:=by simpa using hok
  repeat'((with_reducible first|apply wr|refine cpc (c_stack _) ?_|apply wb2<;>(intro hb;try simp only[hb]))<;>try simp only[go_sem,seval,hS.h0,hS.h1,hS.h2,hS.h3,hbl,A0F,hw1,hw,hpos,hcell,hgh,hgi,s1,hlen,w2,w3,hok',A3W,A2Z,ne0])
  all_goals exact K5
 have hok1:h[p]≥(D2 c.instrs[p].op).1:=by omega
 have hok':decide (h[p]≥(D2 c.instrs[p].op).1)=true:=by simpa using hok1
 have hwp:=w64 (n:=(p:Int)+1);have hpp:((p:Int)+1).toNat=p+1:=by omega
 by_cases e31:c.instrs[p].op=31
 ·have o31:(c.instrs[p].op==31)=true:=by simpa using e31
  by_cases hz:h[p]=0
  ·have hz':(h[p]==0)=true:=by simpa using hz
   rw[iN]at hr;have hA:G5 c.instrs[p] p h[p]=[]:=by simp[G5,e31]
   rw[hA]at hr;simp only[J5]at hr;repeat'((with_reducible first|apply wr|refine cpc (c_stack _) ?_)<;>try simp only[go_sem,seval,hS.h0,hS.h1,hS.h2,hS.h3,hbl,A0F,hw1,hw,hpos,hcell,hgh,hgi,s1,hlen,w2,w3,hok',A3W,A2Z,ne0,o31,hz'])
   have hS':=(hS.pop.upd ⟨0,true,[DV.int IntKind.i64 0,DV.int IntKind.i64 0]⟩ (A0E _) (A0E _)).upd ⟨0,true,[I64 c.instrs[p].op,I64 c.instrs[p].A]⟩ (A0E _) (A2R _);exact⟨(m,h,wk,some id,I64 (p:Int)::junk),hS'.sub,inv ⟨hS'.hc,hS'.hn,λi hi=>⟨(hS'.hs i hi).1,(hS'.hs i hi).2.1⟩,hIt,by simp only;omega,hr⟩,by simp only;omega⟩
  ·have hz':(h[p]==0)=false:=by simpa using hz
   rw[if_pos (.inr ⟨e31,hz⟩)]at hr;cases hr;repeat'((with_reducible first|apply wr|refine cpc (c_stack _) ?_)<;>try simp only[go_sem,seval,hS.h0,hS.h1,hS.h2,hS.h3,hbl,A0F,hw1,hw,hpos,hcell,hgh,hgi,s1,hlen,w2,w3,hok',A3W,A2Z,ne0,o31,hz'])
   exact K5
 have o31:(c.instrs[p].op==31)=false:=by simpa using e31
 rw[iN]at hr;by_cases e12:c.instrs[p].op=12
 ·have o12:(c.instrs[p].op==12)=true:=by simpa using e12
  have p1:=(hjI _ (A0L s1) (.inl e12)).1;have hE:D2 c.instrs[p].op=(0,0,7):=by rw[e12];decide
  have hA:G5 c.instrs[p] p h[p]=[(c.instrs[p].A.toNat,h[p])]:=by simp[G5,e12]
  have hx:h[p]-(D2 c.instrs[p].op).1+(D2 c.instrs[p].op).2.1=h[p]:=by rw[hE];simp
  repeat'((with_reducible first|apply wr|refine cpc (c_stack _) ?_)<;>try simp only[go_sem,seval,hS.h0,hS.h1,hS.h2,hS.h3,hbl,A0F,hw1,hw,hpos,hcell,hgh,hgi,s1,hlen,w2,w3,hok',A3W,A2Z,ne0,o31,o12])
  refine AC.call (c_reach' c h wk (some id) _ _ _ (c.instrs[p].A) _ (p1) ((hS.pop.upd _ (A0E _) (A0E _)).upd _ (A0E _) (A2R _)) (by omega)) ?_;rintro v H' c' hq hcc;rw[hA]at hr;rw[hx]at hq;rcases hq with ⟨hr0,rfl⟩|⟨h',wk',o',junk',hr1,rfl,hS',hfr⟩
  ·simp only[J5,hr0]at hr;cases hr;simp only[go_sem,seval];repeat'(apply wr<;>try simp only[go_sem,seval])
   exact K5
  ·simp only[J5,hr1]at hr;obtain⟨hI',hwk'⟩:=Q6 hIt s2 hr1;simp only[go_sem,seval];repeat'(apply wr<;>try simp only[go_sem,seval])
   exact⟨(m,h',wk',o',junk'),hS'.sub,inv ⟨hS'.hc,hS'.hn,λi hi=>⟨(hS'.hs i hi).1,(hS'.hs i hi).2.1⟩,hI',by simp only;omega,hr⟩,by simp only;omega⟩
 have o12:(c.instrs[p].op==12)=false:=by simpa using e12
 by_cases e13:c.instrs[p].op=13
 ·have o13:(c.instrs[p].op==13)=true:=by simpa using e13
  have p1:=(hjI _ (A0L s1) (.inr (.inl e13))).1;have hE:D2 c.instrs[p].op=(1,0,7):=by rw[e13];decide
  have hA:G5 c.instrs[p] p h[p]=[(p+1,h[p]-1),(c.instrs[p].A.toNat,h[p]-1)]:=by simp[G5,e13]
  have hx:h[p]-(D2 c.instrs[p].op).1+(D2 c.instrs[p].op).2.1=h[p]-1:=by rw[hE];simp
  have hge:0<=h[p]-1:=by rw[hE]at hok1;simp only at hok1;omega
  repeat'((with_reducible first|apply wr|refine cpc (c_stack _) ?_)<;>try simp only[go_sem,seval,hS.h0,hS.h1,hS.h2,hS.h3,hbl,A0F,hw1,hw,hpos,hcell,hgh,hgi,s1,hlen,w2,w3,hok',A3W,A2Z,ne0,o31,o12,o13,hwp])
  refine AC.call (c_reach' c h wk (some id) _ _ _ ((p:Int)+1) _ (by omega) ((hS.pop.upd _ (A0E _) (A0E _)).upd _ (A0E _) (A2R _)) (by omega)) ?_;rintro v H' c' hq hcc;rw[hA]at hr;rw[hx]at hq;rw[hpp]at hq;rcases hq with ⟨hr0,rfl⟩|⟨h',wk',o',junk',hr1,rfl,hS',hfr⟩
  ·simp only[J5,hr0]at hr;cases hr;simp only[go_sem,seval];repeat'(apply wr<;>try simp only[go_sem,seval])
   exact K5
  ·obtain⟨hI',hwk'⟩:=Q6 hIt hge hr1;simp only[J5,hr1]at hr;have hbox:=(hfr cc hc4 (A1N _) (by simp;omega)).trans A0;simp only[go_sem,seval,hbox];repeat'(apply wr<;>try simp only[go_sem,seval,hbox,o31,o12,o13,hwp])
   refine AC.call (c_reach' c h' wk' o' junk' _ _ c.instrs[p].A _ p1 hS' (by omega)) ?_;rintro v H2 c2 hq hcc2;rw[hx]at hq;rcases hq with ⟨hr0,rfl⟩|⟨h2,wk2,o2,junk2,hr2,rfl,hS2,hfr2⟩
   ·simp only[hr0]at hr;cases hr;simp only[go_sem,seval];repeat'(apply wr<;>try simp only[go_sem,seval])
    exact K5
   ·simp only[hr2]at hr;obtain⟨hI2,hwk2⟩:=Q6 hI' hge hr2;simp only[go_sem,seval];repeat'(apply wr<;>try simp only[go_sem,seval])
    exact⟨(m,h2,wk2,o2,junk2),hS2.sub,inv ⟨hS2.hc,hS2.hn,λi hi=>⟨(hS2.hs i hi).1,(hS2.hs i hi).2.1⟩,hI2,by simp only;omega,hr⟩,by simp only;omega⟩
 have o13:(c.instrs[p].op==13)=false:=by simpa using e13
 by_cases e14:c.instrs[p].op=14
 ·have o14:(c.instrs[p].op==14)=true:=by simpa using e14
  have p1:=(hjI _ (A0L s1) (.inr (.inr e14))).1;have hE:D2 c.instrs[p].op=(1,1,7):=by rw[e14];decide
  have hA:G5 c.instrs[p] p h[p]=[(p+1,h[p]),(c.instrs[p].A.toNat,h[p]-1)]:=by simp[G5,e14]
  have hx:h[p]-(D2 c.instrs[p].op).1+(D2 c.instrs[p].op).2.1=h[p]:=by rw[hE];simp
  have hge:0<=h[p]-1:=by rw[hE]at hok1;simp only at hok1;omega
  have w4:=w64 (n:=h[p]-(D2 c.instrs[p].op).1+(D2 c.instrs[p].op).2.1-1);repeat'((with_reducible first|apply wr|refine cpc (c_stack _) ?_)<;>try simp only[go_sem,seval,hS.h0,hS.h1,hS.h2,hS.h3,hbl,A0F,hw1,hw,hpos,hcell,hgh,hgi,s1,hlen,w2,w3,hok',A3W,A2Z,ne0,o31,o12,o13,o14,hwp])
  refine AC.call (c_reach' c h wk (some id) _ _ _ ((p:Int)+1) _ (by omega) ((hS.pop.upd _ (A0E _) (A0E _)).upd _ (A0E _) (A2R _)) (by omega)) ?_;rintro v H' c' hq hcc;rw[hA]at hr;rw[hx]at hq;rw[hpp]at hq;rcases hq with ⟨hr0,rfl⟩|⟨h',wk',o',junk',hr1,rfl,hS',hfr⟩
  ·simp only[J5,hr0]at hr;cases hr;simp only[go_sem,seval];repeat'(apply wr<;>try simp only[go_sem,seval])
   exact K5
  ·obtain⟨hI',hwk'⟩:=Q6 hIt s2 hr1;simp only[J5,hr1]at hr;have hbox:=(hfr cc hc4 (A1N _) (by simp;omega)).trans A0;simp only[go_sem,seval,hbox,w4];repeat'(apply wr<;>try simp only[go_sem,seval,hbox,o31,o12,o13,o14,hwp,w4])
   refine AC.call (c_reach' c h' wk' o' junk' _ _ c.instrs[p].A _ p1 hS' (by omega)) ?_;rintro v H2 c2 hq hcc2;rw[hx]at hq;rcases hq with ⟨hr0,rfl⟩|⟨h2,wk2,o2,junk2,hr2,rfl,hS2,hfr2⟩
   ·simp only[hr0]at hr;cases hr;simp only[go_sem,seval];repeat'(apply wr<;>try simp only[go_sem,seval])
    exact K5
   ·simp only[hr2]at hr;obtain⟨hI2,hwk2⟩:=Q6 hI' hge hr2;simp only[go_sem,seval];repeat'(apply wr<;>try simp only[go_sem,seval])
    exact⟨(m,h2,wk2,o2,junk2),hS2.sub,inv ⟨hS2.hc,hS2.hn,λi hi=>⟨(hS2.hs i hi).1,(hS2.hs i hi).2.1⟩,hI2,by simp only;omega,hr⟩,by simp only;omega⟩
 have o14:(c.instrs[p].op==14)=false:=by simpa using e14
 have hA:G5 c.instrs[p] p h[p]=[(p+1,h[p]-(D2 c.instrs[p].op).1+(D2 c.instrs[p].op).2.1)]:=by simp[G5,e31,e12,e13,e14]
 have hge:0<=h[p]-(D2 c.instrs[p].op).1+(D2 c.instrs[p].op).2.1:=by omega
 repeat'((with_reducible first|apply wr|refine cpc (c_stack _) ?_)<;>try simp only[go_sem,seval,hS.h0,hS.h1,hS.h2,hS.h3,hbl,A0F,hw1,hw,hpos,hcell,hgh,hgi,s1,hlen,w2,w3,hok',A3W,A2Z,ne0,o31,o12,o13,o14,hwp])
 refine AC.call (c_reach' c h wk (some id) _ _ _ ((p:Int)+1) _ (by omega) ((hS.pop.upd _ (A0E _) (A0E _)).upd _ (A0E _) (A2R _)) (by omega)) ?_;rintro v H' c' hq hcc;rw[hA]at hr;rw[hpp]at hq;rcases hq with ⟨hr0,rfl⟩|⟨h',wk',o',junk',hr1,rfl,hS',hfr⟩
 ·simp only[J5,hr0]at hr;cases hr;simp only[go_sem,seval];repeat'(apply wr<;>try simp only[go_sem,seval])
  exact K5
 ·simp only[J5,hr1]at hr;obtain⟨hI',hwk'⟩:=Q6 hIt hge hr1;simp only[go_sem,seval];repeat'(apply wr<;>try simp only[go_sem,seval])
  exact⟨(m,h',wk',o',junk'),hS'.sub,inv ⟨hS'.hc,hS'.hn,λi hi=>⟨(hS'.hs i hi).1,(hS'.hs i hi).2.1⟩,hI',by simp only;omega,hr⟩,by simp only;omega⟩
theorem c_heightsP(c:Prg)(hl:Lim c)(hj:J2 c=true)(n:Nat)(hn0:n<=20000)(r:Option (List Int))(hr:B8c c n=some r):PC Tryz.prog 157 [c.v] (C6v r):=by
 have hl0:=hl;obtain⟨wp,wv,ws,wi,wt,we,li,ls,le,lp,lv⟩:=hl;have hms:=D7z (sz:=1) (bytes:=8) (z:=[I64 0]) (k:=.i64) (k':=.i64) (n:=c.instrs.length) (by omega) (by omega) rfl rfl;refine PC.ofT A2 rfl (A0H rfl) (by simp[DV.nlL,DV.nl,S0,J6,A2a,Q7]) (by cases r<;>simp[C6v,DV.nlL,DV.nl,S0]) ?_;repeat'(apply wr<;>try simp only[go_sem,seval,hms,B3g])
 refine A6 (λk:Nat=>[(1,.ptr 0 0),(4,.ptr 2 0),(21,I64 c.instrs.length),(22,I64 k)]) (λk=>((nil.upd 0 ⟨0,true,c.cs⟩).upd 1 ⟨1,true,(A4y c.instrs.length k).map I64⟩).upd 2 ⟨0,true,[.slc 1 0 c.instrs.length]⟩) (λk cc=>cc=3/\k<=c.instrs.length) (λk=>c.instrs.length-k) 0
  (by simp[B7,tm,Tm.upd]) (by rw[A4];simpa[A4y] using Sub.refl _) (by simp) ?_
 rintro k cc ⟨rfl,hk⟩;by_cases hlt:k<c.instrs.length
 ·have hd:=dtz hlt;have hw:=w64 (n:=(k:Int)+1);have hlen:(A4y c.instrs.length k).length=c.instrs.length:=by simp[A4y];omega
  have hle:k+1<=c.instrs.length:=hlt;have hput:=C3c (f:=I64) (l:=A4y c.instrs.length k) (n:=k) (a := -1) (by rw[hlen];exact hlt);repeat'(apply wr<;>try simp only[go_sem,seval,hd,hw,hlen,hle,hlt,hput])
  exact⟨k+1,rfl,by rw[C1f hlt];(intro j b hj;simp only[Hp.upd,Sym.nil]at hj ⊢;(repeat' split at hj)<;>(repeat' split)<;>first|exact hj|(exfalso;omega)|cases hj),inv ⟨rfl,hlt⟩,by omega⟩
 have hd:=dfz hlt;have hfull:A4y c.instrs.length k=List.replicate c.instrs.length (-1):=by
  have:c.instrs.length-k=0:=by omega
  have hk2:k=c.instrs.length:=by omega
  simp[A4y,hk2]
 repeat'(apply wr<;>try simp only[go_sem,seval,hd,hfull])
 clear hd hfull hlt hk
 have hjE:∀e∈c.entries,0<=e.pos/\e.pos<=(c.instrs.length:Int)-1:=by
  intro e he;simp only[J2,A0D,A0S]at hj;have:=hj.2 e he;simpa[B7u,inM] using this
 refine A6 (λq:Nat × List Int × List Nat × Option Nat × List DV=>[(1,.ptr 0 0),(4,.ptr 2 0),(6,.ptr 3 0),(7,clo),(31,B3t c.entries),(32,I64 c.entries.length),(33,I64 q.1)])
  (λq=>WH c q.2.1 q.2.2.1 q.2.2.2.1 q.2.2.2.2)
  (λq cc=>4<=cc/\q.1<=c.entries.length/\(q.2.2.2.1=none->q.2.2.1=[])/\(∀i,q.2.2.2.1=some i->4<=i/\i<cc)/\WkI c.instrs.length q.2.1 q.2.2.1/\q.2.2.1.length<=q.1/\J5 q.2.1 q.2.2.1 ((c.entries.drop q.1).map B1p)=J5 (List.replicate c.instrs.length (-1)) [] (c.entries.map B1p))
  (λq=>c.entries.length-q.1) (0,List.replicate c.instrs.length (-1),[],none,[])
  (by simp[B7,tm,Tm.upd]) (by simpa[WH,optH,todoV] using Sub.refl _) ⟨by omega,by omega,λ_=>rfl,by simp,⟨by simp,by simp⟩,by simp,by simp⟩ ?_
 rintro⟨k,h,wk,o,junk⟩ cc ⟨hc4,hk,hn,hs,hI,hwk,hrL⟩;simp only at hk hn hs hI hwk hrL;have hS:=WkS.mk' (c:=c) (h:=h) (junk:=junk) hn hs hc4;by_cases hlt:k<c.entries.length
 ·have hd:=dtz hlt;have hw:=w64 (n:=(k:Int)+1);have hg:=A0B hlt;obtain⟨p1,p2⟩:=hjE _ (A0L hlt);have hpos:c.entries[k].pos=((c.entries[k].pos.toNat:Nat):Int):=by omega
  have ne0:=A6f 0 1 2 3 cc (cc+1) (by omega);repeat'(apply wr<;>try simp only[go_sem,seval,hd,hg])
  rw[A4];refine AC.call (c_reach' c h wk o junk _ _ c.entries[k].pos 0 p1 (hS.upd _ (A0E _) (A2R _)) (by omega)) ?_;rintro v H' c' hq hcc;rw[A1F hlt,A0W]at hrL;rcases hq with ⟨hr0,rfl⟩|⟨h',wk',o',junk',hr1,rfl,hS',hfr⟩
  ·have hr2:r=none:=by
    rw[B8c, <- hrL]at hr;simp only[J5,B1p,hr0]at hr;simpa using hr.symm
   subst hr2;simp only[go_sem,seval];repeat'(apply wr<;>try simp only[go_sem,seval])
   exact K5
  ·simp only[J5,B1p,hr1]at hrL;obtain⟨hI',hwk'⟩:=Q6 hI (A3L 0) hr1;simp only[go_sem,seval];repeat'(apply wr<;>try simp only[go_sem,seval,hw])
   exact⟨(k+1,h',wk',o',junk'),rfl,hS'.sub,inv ⟨hS'.hc,hlt,hS'.hn,λi hi=>⟨(hS'.hs i hi).1,(hS'.hs i hi).2.1⟩,hI',by simp only;omega,hrL⟩,by simp only;omega⟩
 have hd:=dfz hlt;obtain rfl:k=c.entries.length:=by omega
 rw[A3R (A0E _)]at hrL;rw[B8c, <- hrL]at hr;simp only[List.map_nil,J5]at hr;repeat'(apply wr<;>try simp only[go_sem,seval,hd])
 exact C0y c hl0 hj r n h wk o junk cc hc4 hn hs hI (by omega) hr
theorem c_heightsP'(c:Prg)(hl:Lim c)(hj:J2 c=true):PC Tryz.prog 157 [c.v] (C6v (hR c)) :=
 c_heightsP c hl hj 4001 (by omega) _ (D6n hl.li hj)
theorem c_verify(c:Prg)(hs:∀s∈c.strings,s.length<=140737488355328)(n1:c.instrs.length<=9223372036854775807):PC Tryz.prog 101 [c.v] (.tup [M7 (B9q c),I64 (K0 c)]):=by
 by_cases hL:N9 c=true
 ·have hl:=Lim.of hL;have hl0:=hl;obtain⟨wp,wv,ws,wi,wt,we,li,ls,le,lp,lv⟩:=hl;by_cases hp:Z3 c=true
  ·by_cases hj:J2 c=true
   ·refine PC.go A2 ?_;repeat'((with_reducible first|apply wr|refine cpc (c_limits c) ?_|refine cpc (c_bparts c hl0 hs) ?_|refine cpc (c_targets c hl0) ?_)<;>try simp only[go_sem,seval,hL,hp,hj])
    refine A6 (λk:Nat=>[(1,.ptr 0 0),(4,I64 k)]) (λ_=>nil.upd 0 ⟨0,true,c.cs⟩) (λk cc=>1<=cc/\1<=k/\(k<=c.entries.length\/k=1)/\Q3 (c.entries.take k)=true) (λk=>c.entries.length-k) 1 (by simp[B7,tm,Tm.upd]) (Sub.refl _) ⟨by omega,by omega,by omega,by cases c.entries<;>rfl⟩ ?_;rintro k cc ⟨h1c,h1k,hk,he⟩;by_cases hlt:k<c.entries.length
    ·have hd:=dtz hlt;have hg:=A0B hlt;have hlt':k-1<c.entries.length:=by omega
     have hg':=A0B hlt';have hw:=w64 (n:=(k:Int)+1);have hw1:=w64 (n:=(k:Int)-1);have hw2:(k:Int)-1=((k-1:Nat):Int):=by omega
     rw[hw2]at hw1;repeat'((with_reducible first|apply wr|refine cpc (c_bless _ _) ?_|apply wb2<;>(intro hb;try simp only[hb]))<;>try simp only[go_sem,seval,hd,hg,hg',hw,hw2,hw1])
     ·have hf:=C1r h1k hg' hg (by simpa using hb);have e:K0 c=66:=by simp[K0,hL,hp,hj,hf]
      simp only[B9q,e];exact K5
     ·exact⟨k+1,rfl,Sub.refl _,inv ⟨by omega,by omega,by omega,by rw[C1q h1k hg' hg he];simpa using hb⟩,by omega⟩
    ·have hd:decide ((k:Int)<c.entries.length)=false:=by simp;omega
     have hch:Q3 c.entries=true:=by
      rw[A0M (by omega)]at he;exact he
     cases hh:hR c with
     |none =>
      have key:=c_heightsP' c hl0 hj;rw[hh,C6u]at key;repeat'((with_reducible first|apply wr|refine cpc key ?_)<;>try simp only[go_sem,seval,hd])
      have e:K0 c=53:=by simp[K0,hL,hp,hj,hch,hh]
      simp only[B9q,e];exact K5
     |some h =>
      have key:=c_heightsP' c hl0 hj;rw[hh,C6t]at key;repeat'((with_reducible first|apply wr|refine cpc key ?_)<;>try simp only[go_sem,seval,hd])
      have e:K0 c=0:=by simp[K0,hL,hp,hj,hch,hh]
      simp only[B9q,e,hh];exact A1 rfl
   ·have hj':J2 c=false:=by simpa using hj
    refine PC.go A2 ?_;repeat'((with_reducible first|apply wr|refine cpc (c_limits c) ?_|refine cpc (c_bparts c hl0 hs) ?_|refine cpc (c_targets c hl0) ?_)<;>try simp only[go_sem,seval,hL,hp,hj'])
    have e:K0 c=54:=by simp[K0,hL,hp,hj']
    simp only[B9q,e];exact K5
  ·have hp':Z3 c=false:=by simpa using hp
   refine PC.go A2 ?_;repeat'((with_reducible first|apply wr|refine cpc (c_limits c) ?_|refine cpc (c_bparts c hl0 hs) ?_)<;>try simp only[go_sem,seval,hL,hp'])
   have e:K0 c=51:=by simp[K0,hL,hp']
   simp only[B9q,e];exact K5
 ·have hL':N9 c=false:=by simpa using hL
  refine PC.go A2 ?_;repeat'((with_reducible first|apply wr|refine cpc (c_limits c) ?_)<;>try simp only[go_sem,seval,hL'])
  have e:K0 c=9:=by simp[K0,hL']
  simp only[B9q,e];exact K5
theorem c_valid(c:Prg)(hs:∀s∈c.strings,s.length<=140737488355328)(n1:c.instrs.length<=9223372036854775807):PC Tryz.prog 46 [c.v] (I64 (K0 c)):=by
 refine PC.go A2 ?_;repeat'((with_reducible first|apply wr|refine cpc (c_verify c hs n1) ?_)<;>try simp only[go_sem,seval])
 exact A1 rfl
abbrev x10:XT Tryz.prog 10:=mkF (i:=⟨113,.seq (.reg [oX 2 0,oX 3 1,oV 4 (.bool false)]) (.seq (.seq (.reg [oF 8 2 0,oL 9 8,oH 10 9,oF 11 3 0,oL 12 11,oH 13 12,oB 14 10 13 .neq,oM 15 14,hF 16 2 1 15,hL 17 16 15,oR 18 (.len (.t 17)) 15,hF 19 3 1 15,hL 20 19 15,oR 21 (.len (.t 20)) 15,oR 22 (.bin .neq (.t 18) (.t 21)) 15,oO 23 15 22,oM 24 23,hF 25 2 2 24,hL 26 25 24,oR 27 (.len (.t 26)) 24,hF 28 3 2 24,hL 29 28 24,oR 30 (.len (.t 29)) 24,oR 31 (.bin .neq (.t 27) (.t 30)) 24,oO 32 24 31,oM 33 32,hF 34 2 5 33,hL 35 34 33,hF 36 3 5 33,hL 37 36 33,oR 38 (.bin .neq (.t 35) (.t 37)) 33,oO 39 33 38,oM 40 39,hF 41 2 6 40,hL 42 41 40,hF 43 3 6 40,hL 44 43 40,oR 45 (.bin .neq (.t 42) (.t 44)) 40,oO 46 40 45]) (.cond (.t 46) (.seq (.reg [oV 4 (.bool false)]) .ret) .skip)) (.seq (.seq (.reg [oI 5 0]) (.blk 0 (.loop (.seq (.seq (.reg [oM 47 5,oF 48 2 0,oL 49 48,oH 50 49,oB 51 47 50 .lss]) (.cond (.t 51) .skip (.exit 0))) (.seq (.blk 1 (.seq (.drw 11 (dQ [oF 54 2 0,oL 55 54,oM 56 5,oA 57 55 56 2,oD 58 57 2,oF 59 3 0,oL 60 59,oM 61 5,oA 62 60 61 2,oD 63 62 2,oP 64 (.eqa true [0,0] (.t 58) (.t 63))] 0)) (.cond (.t 64) (.seq (.reg [oV 4 (.bool false)]) .ret) .skip))) (.reg [oM 52 5,oK 53 52 .add 1,oM 5 53])))))) (.seq (.seq (.reg [oI 6 0]) (.blk 2 (.loop (.seq (.seq (.reg [oM 65 6,oF 66 2 1,oL 67 66,oH 68 67,oB 69 65 68 .lss]) (.cond (.t 69) .skip (.exit 2))) (.seq (.blk 3 (.seq (.drw 11 (dQ [oF 72 2 1,oL 73 72,oM 74 6,oA 75 73 74 1,oL 76 75,oF 77 3 1,oL 78 77,oM 79 6,oA 80 78 79 1,oL 81 80,oB 82 76 81 .neq] 0)) (.cond (.t 82) (.seq (.reg [oV 4 (.bool false)]) .ret) .skip))) (.reg [oM 70 6,oK 71 70 .add 1,oM 6 71])))))) (.seq (.seq (.reg [oI 7 0]) (.blk 4 (.loop (.seq (.seq (.reg [oM 83 7,oF 84 2 2,oL 85 84,oH 86 85,oB 87 83 86 .lss]) (.cond (.t 87) .skip (.exit 4))) (.seq (.blk 5 (.seq (.drw 11 (dQ [oF 90 2 2,oL 91 90,oM 92 7,oA 93 91 92 4,oD 94 93 4,oF 95 3 2,oL 96 95,oM 97 7,oA 98 96 97 4,oD 99 98 4,oP 100 (.eqa true [0,0,0,0] (.t 94) (.t 99))] 0)) (.cond (.t 100) (.seq (.reg [oV 4 (.bool false)]) .ret) .skip))) (.reg [oM 88 7,oK 89 88 .add 1,oM 7 89])))))) (.seq (.reg [oF 101 2 3,oL 102 101,oF 103 3 3,oL 104 103,oC 105 31 [.t 102,.t 104],oM 106 105,gF 107 2 4 106,gL 108 107 106,gF 109 3 4 106,gL 110 109 106,⟨some 111,.call 31 [.t 108,.t 110],some (106,true)⟩,oJ 112 106 111,oM 4 112]) .ret))))),[.tmp 4]⟩) (by unfold L1;kernel_rfl) (λh=>by conv=>lhs;cbv)
instance t10:FT Tryz.prog 10 x10.d:=x10.ft
theorem c_SameInts(a b:List Int)(n1:a.length<=9223372036854775807):PC Tryz.prog 31 [.lst (a.map I64),.lst (b.map I64)] (.bool (decide (a=b))):=by
 refine PC.go A2 ?_;by_cases hl:a.length=b.length
 case neg =>
  have hne:((a.length:Int) != (b.length:Int))=true:=by simp;omega
  repeat'(apply wr<;>try simp only[go_sem,seval,A0C,hne])
  rw[decide_eq_false (λe=>hl (by rw[e]))];exact A1 rfl
 have hne:((a.length:Int) != (b.length:Int))=false:=by simp;omega
 repeat'(apply wr<;>try simp only[go_sem,seval,A0C,hne])
 refine A6 (λk:Nat=>[(0,.lst (a.map I64)),(1,.lst (b.map I64)),(5,I64 k)]) (λ_=>nil) (λk cc=>k<=a.length/\a.take k=b.take k) (λk=>a.length-k) 0 (by simp[B7,tm,Tm.upd]) (Sub.nil _) (by simp) ?_;rintro k cc ⟨hk,he⟩;by_cases hlt:k<a.length
 ·have hd:=dtz hlt;have hlt2:k<b.length:=by omega
  have hg:=A0B hlt;have hg2:=A0B hlt2;have hw:=w64 (n:=(k:Int)+1);repeat'((with_reducible first|apply wr|apply wb2<;>(intro hb;try simp only[hb]))<;>try simp only[go_sem,seval,A0C,hd,hg,hg2,hw])
  all_goals first
   |(refine⟨k+1,rfl,Sub.nil _,inv ⟨hlt,(A4c hg hg2 he).2 ?_⟩,by omega⟩;simpa using hb)
   |(rw[decide_eq_false (A9v hg hg2 ?_)];exact A1 rfl;simpa using hb)
 have hd:=dfz hlt;repeat'(apply wr<;>try simp only[go_sem,seval,A0C,hd])
 rw[decide_eq_true (A9w hl (by omega) he)];exact A1 rfl
theorem c_SameR(a b:Prg)(n1:a.instrs.length<=9223372036854775807)(n2:a.strings.length<=9223372036854775807)(n3:a.entries.length<=9223372036854775807)(n4:a.prios.length<=9223372036854775807)(n5:a.vars.length<=9223372036854775807):
  PC Tryz.prog 10 [a.v,b.v] (.bool (decide (a=b))):=by
 refine PC.go A2 ?_;by_cases h:a.instrs.length=b.instrs.length/\a.strings.length=b.strings.length/\a.entries.length=b.entries.length/\a.timers=b.timers/\a.events=b.events
 case neg =>
  repeat'((with_reducible first|apply wr|apply wb2<;>(intro hb;try simp only[hb]))<;>try simp only[go_sem,seval])
  all_goals first
   |(refine A1 ?_;congr 1;rw[B0p];simp_all;done)
   |(exfalso;simp only[bne_eq_false_iff_eq]at *;apply h;refine⟨?_,?_,?_,?_,?_⟩<;>first|assumption|omega)
 obtain⟨l1,l2,l3,l4,l5⟩:=h;have e1:((a.instrs.length:Int) != (b.instrs.length:Int))=false:=by simp;omega
 have e2:((a.strings.length:Int) != (b.strings.length:Int))=false:=by simp;omega
 have e3:((a.entries.length:Int) != (b.entries.length:Int))=false:=by simp;omega
 have e4:(a.timers != b.timers)=false:=by simp[l4]
 have e5:(a.events != b.events)=false:=by simp[l5]
 repeat'(apply wr<;>try simp only[go_sem,seval,e1,e2,e3,e4,e5])
 refine A6 (λk:Nat=>[(2,.ptr 0 0),(3,.ptr 1 0),(5,I64 k)]) (λ_=>(nil.upd 0 ⟨0,true,a.cs⟩).upd 1 ⟨0,true,b.cs⟩) (λk cc=>2<=cc/\k<=a.instrs.length/\a.instrs.take k=b.instrs.take k) (λk=>a.instrs.length-k) 0 (by simp[B7,tm,Tm.upd]) (Sub.refl _) (by simp) ?_;rintro k cc ⟨h2,hk,he⟩;by_cases hlt:k<a.instrs.length
 ·have hd:=dtz hlt;have hlt2:k<b.instrs.length:=by omega
  have hg:=A0B hlt;have hg2:=A0B hlt2;have hw:=w64 (n:=(k:Int)+1);repeat'((with_reducible first|apply wr|apply wb2<;>(intro hb;try simp only[hb]))<;>try simp only[go_sem,seval,hd,hg,hg2,hw,F1f])
  all_goals first
   |(refine⟨k+1,rfl,Sub.refl _,inv ⟨by omega,hlt,(A4c hg hg2 he).2 ?_⟩,by omega⟩;simpa[D1k] using hb)
   |(refine A1 ?_;congr 1;rw[B0p,decide_eq_false (A9v hg hg2 ?_)];rfl;simpa[D1k] using hb)
 have hd:=dfz hlt;have g1:=A9w l1 (by omega) he;clear he hk;repeat'(apply wr<;>try simp only[go_sem,seval,hd])
 clear hd hlt;refine A6 (λk:Nat=>[(2,.ptr 0 0),(3,.ptr 1 0),(6,I64 k)]) (λ_=>(nil.upd 0 ⟨0,true,a.cs⟩).upd 1 ⟨0,true,b.cs⟩) (λk cc=>2<=cc/\k<=a.strings.length/\a.strings.take k=b.strings.take k) (λk=>a.strings.length-k) 0 (by simp[B7,tm,Tm.upd]) (Sub.refl _) (by simp;omega) ?_;clear k cc h2;rintro k cc ⟨h2,hk,he⟩;by_cases hlt:k<a.strings.length
 ·have hd:=dtz hlt;have hlt2:k<b.strings.length:=by omega
  have hg:=A0B hlt;have hg2:=A0B hlt2;have hw:=w64 (n:=(k:Int)+1);repeat'((with_reducible first|apply wr|apply wb2<;>(intro hb;try simp only[hb]))<;>try simp only[go_sem,seval,hd,hg,hg2,hw])
  all_goals first
   |(refine⟨k+1,rfl,Sub.refl _,inv ⟨by omega,hlt,(A4c hg hg2 he).2 ?_⟩,by omega⟩;simpa using hb)
   |(refine A1 ?_;congr 1;rw[B0p,decide_eq_false (A9v hg hg2 (by simpa using hb))];simp)
 have hd:=dfz hlt;have g2:=A9w l2 (by omega) he;clear he hk;repeat'(apply wr<;>try simp only[go_sem,seval,hd])
 clear hd hlt;refine A6 (λk:Nat=>[(2,.ptr 0 0),(3,.ptr 1 0),(7,I64 k)]) (λ_=>(nil.upd 0 ⟨0,true,a.cs⟩).upd 1 ⟨0,true,b.cs⟩) (λk cc=>2<=cc/\k<=a.entries.length/\a.entries.take k=b.entries.take k) (λk=>a.entries.length-k) 0 (by simp[B7,tm,Tm.upd]) (Sub.refl _) (by simp;omega) ?_;clear k cc h2;rintro k cc ⟨h2,hk,he⟩;by_cases hlt:k<a.entries.length
 ·have hd:=dtz hlt;have hlt2:k<b.entries.length:=by omega
  have hg:=A0B hlt;have hg2:=A0B hlt2;have hw:=w64 (n:=(k:Int)+1);repeat'((with_reducible first|apply wr|apply wb2<;>(intro hb;try simp only[hb]))<;>try simp only[go_sem,seval,hd,hg,hg2,hw,E7p])
  all_goals first
   |(refine⟨k+1,rfl,Sub.refl _,inv ⟨by omega,hlt,(A4c hg hg2 he).2 ?_⟩,by omega⟩;simpa[D3a] using hb)
   |(refine A1 ?_;congr 1;rw[B0p,decide_eq_false (A9v hg hg2 (by simpa[D3a] using hb))];simp)
 have hd:=dfz hlt;have g3:=A9w l3 (by omega) he;clear he hk;repeat'((with_reducible first|apply wr|refine cpc (c_SameInts _ _ n4) ?_|refine cpc (c_SameInts _ _ n5) ?_|apply wb2<;>(intro hb;try simp only[hb]))<;>try simp only[go_sem,seval,hd])
 all_goals refine A1 ?_
 all_goals(congr 1;rw[B0p];simp_all)
end Go.Proofs.YtenmhfknbopmeaaGreatDoor
set_option maxHeartbeats 8000000
namespace Go.Proofs.YtenmhfknbopmeaaGreatDoor
open Go.Eng (IC IOper DReg IFn L1)
open Go.Sym Go.Pb
theorem E7x(q:Prg × Int × Int):B5t q=.tup [.agg [A2l q.1.instrs,strs q.1.strings,B3t q.1.entries,M7 q.1.prios,M7 q.1.vars,I64 q.1.timers,I64 q.1.events],I64 q.2.1,I64 q.2.2]:=rfl
theorem D3l(r:Ru):(W4 r).1.instrs.length<=4000/\(W4 r).1.strings.length<=200/\(W4 r).1.entries.length<=512/\(W4 r).1.prios.length<=16/\(W4 r).1.vars.length<=128/\∀s∈(W4 r).1.strings,s.length<=32:=by
 obtain⟨a,b,d, -⟩:=C5p (B3x r);obtain⟨d1,d2,d3,d4,d5, -⟩:=Lim.dims a;exact⟨d1,d2,d3,d4,d5,(Bnd.of a b d).str⟩
theorem c_compiles(r:Ru)(hB:r.sz<4000000):PC Tryz.prog 19 [r.v] (.bool true):=by
 have h1:=c_PCompile r hB;have h2:=c_RCompile r hB;obtain⟨d1,d2,d3,d4,d5,d6⟩:=D3l r;have hs:=c_SameR (W4 r).1 (W4 r).1 (by omega) (by omega) (by omega) (by omega) (by omega);have hv:=c_valid (W4 r).1 (λs h=>A1D (d6 s h) (by decide)) (by omega);rw[B3x]at hv;rw[decide_eq_true rfl]at hs;rw[E7x]at h1 h2;dsimp only[Prg.v,Prg.cs]at hs hv;generalize (W4 r).1.instrs=a1 at *;generalize (W4 r).1.strings=a2 at *;generalize (W4 r).1.entries=a3 at *;generalize (W4 r).1.prios=a4 at *;generalize (W4 r).1.vars=a5 at *;generalize (W4 r).1.timers=a6 at *;generalize (W4 r).1.events=a7 at *;generalize (W4 r).2.1=p at *;generalize (W4 r).2.2=e at *;refine PC.go A2 ?_;have hrv:r.v=.agg [C3 r.decls,C6 r.modes]:=rfl;rw[hrv]at h1 h2 ⊢;by_cases he:e=0
 ·subst he;repeat'((with_reducible first|apply wr|refine cpc h1 ?_|refine cpc h2 ?_|refine cpc hs ?_|refine cpc hv ?_)<;>try simp only[go_sem,seval])
  all_goals exact A1 rfl
 ·have he':(e != 0)=true:=by simpa using he
  repeat'((with_reducible first|apply wr|refine cpc h1 ?_|refine cpc h2 ?_|refine cpc hs ?_)<;>try simp only[go_sem,seval,he'])
  all_goals exact A1 rfl
end Go.Proofs.YtenmhfknbopmeaaGreatDoor
set_option maxHeartbeats 4000000
namespace Go.Proofs.YtenmhfknbopmeaaGreatDoor
open Go.Eng (IC IOper DReg IFn L1)
open Go.Sym
abbrev x14:XT Tryz.prog 14:=mkF
instance t14:FT Tryz.prog 14 x14.d:=x14.ft
abbrev x36:XT Tryz.prog 36:=mkF
instance t36:FT Tryz.prog 36 x36.d:=x36.ft
abbrev x38:XT Tryz.prog 38:=mkF
instance t38:FT Tryz.prog 38 x38.d:=x38.ft
abbrev x15:XT Tryz.prog 15:=mkF
instance t15:FT Tryz.prog 15 x15.d:=x15.ft
abbrev x37:XT Tryz.prog 37:=mkF
instance t37:FT Tryz.prog 37 x37.d:=x37.ft
abbrev x158:XT Tryz.prog 158:=mkF
instance t158:FT Tryz.prog 158 x158.d:=x158.ft
abbrev x103:XT Tryz.prog 103:=mkF
instance t103:FT Tryz.prog 103 x103.d:=x103.ft
abbrev x52:XT Tryz.prog 52:=mkF
instance t52:FT Tryz.prog 52 x52.d:=x52.ft
abbrev x24:XT Tryz.prog 24:=mkF
instance t24:FT Tryz.prog 24 x24.d:=x24.ft
abbrev x7:XT Tryz.prog 7:=mkF
instance t7:FT Tryz.prog 7 x7.d:=x7.ft
end Go.Proofs.YtenmhfknbopmeaaGreatDoor
set_option maxHeartbeats 8000000
namespace Go.Proofs.YtenmhfknbopmeaaGreatDoor
open Go.Eng (IC IOper DReg IFn L1)
open Go.Sym Go.Pb
abbrev mkB(L:List UInt8)(w i:Nat):Blk:=⟨0,true,[.lst (bytesC L),I64 i,I64 w]⟩
theorem C1t{L:List UInt8}{i:Nat}{b:UInt8}(h:L[i]? = some b):(bytesC L)[i]? = some (.int .u8 (b.toNat:Int)):=by
 simp[bytesC,h]
theorem A6p{H:Hp}{cc t c2:Nat}{b0 b1 b:Blk}{ds:List DV}(hfr:∀i,cc<=i->H i=none)(htc:t<cc)(hc:cc<=c2):GL (((H.upd t b0).upd c2 b1).upd t b) ds (H.upd t b) ds:=GL.less' λj q hj=>by
 by_cases e:j=t
 ·subst e;rw[A0]at hj ⊢;exact hj
 ·rw[h_ne e]at hj;have:j≠c2:=by rintro rfl;rw[hfr _ (by omega)]at hj;cases hj
  rw[h_ne e,h_ne this,h_ne e];exact hj
theorem D2d{H:Hp}{cc t c2:Nat}{b1 b:Blk}{ds:List DV}(hfr:∀i,cc<=i->H i=none)(htc:t<cc)(hc:cc<=c2):GL ((H.upd c2 b1).upd t b) ds (H.upd t b) ds:=GL.less' λj q hj=>by
 by_cases e:j=t
 ·subst e;rw[A0]at hj ⊢;exact hj
 ·rw[h_ne e]at hj ⊢;have:j≠c2:=by rintro rfl;rw[hfr _ (by omega)]at hj;cases hj
  rw[h_ne this];exact hj
theorem D1b{X:Hp}{k t:Nat}{B:Blk}(h:¬t=k):L2 [k] X ((H6 X [k]).upd t B)=X.upd t B:=by
 funext j
 simp only[L2];by_cases e:j=k
 ·subst e;rw[if_pos (by simp),h_ne (Ne.symm h)]
 ·rw[if_neg (by simpa using e)];by_cases e2:j=t
  ·subst e2;rw[A0,A0]
  ·rw[h_ne e2,h_ne e2];simp only[H6];rw[if_neg (by simpa using e)]
theorem B1k(k:Int)(h:0<=k/\k<1000)(H:Hp)(c:Nat):AC Tryz.prog 39 [I64 k] H c (λv H' c' => ∃d:List UInt8,d.length<=40/\v=.str d/\H'=H) :=
 ((c_Dec' k (by omega) (by omega)).at H c).mono λv H' c' ⟨h1,h2,h3⟩=>⟨_,A1D (B1r (by omega) (by omega)) (by decide),h1,h2⟩
def MZ(f:Nat)(xs:List DV)(L:List UInt8)(w n:Nat):Prop:=∀(H:Hp) (cc t i:Nat) (ht:H t=some (mkB L w i)) (hi:i<=300) (htc:t<cc),
  AC Tryz.prog f (.ptr t 0::xs) H cc (λv H' c' => ∃s j,s.length<=n/\j<=300/\v=.str s/\H'=H.upd t (mkB L w j))
section
variable (L:List UInt8) (hL:L.length<=300) (w:Nat) (hw:w<=100)
include hL in
theorem f_Next(n:Int)(H:Hp)(cc t i:Nat)(ht:H t=some (mkB L w i))(hi:i<=300)(htc:t<cc)(hn:0<n)(hn2:n<=1000):
  AC Tryz.prog 36 [.ptr t 0,I64 n] H cc (λv H' c' => ∃k j,k<n.toNat/\j<=300/\v=I64 (k:Nat)/\H'=H.upd t (mkB L w j)):=by
 obtain⟨n,rfl⟩:=Int.eq_ofNat_of_zero_le (Int.le_of_lt hn);refine AC.go A2 λhfr=>?_;have hlen:(bytesC L).length=L.length:=by simp[bytesC]
 by_cases hlt:i<L.length
 ·have hd:decide ((i:Int)≥L.length)=false:=by simp;omega
  have hg:=C1t (A0B hlt);generalize L[i]=b at hg;have hw:=w64 (n:=(i:Int)+1);have hw3:IntKind.i64.wrap ((i:Int)+1-1)=(i:Int):=by rw[w6z];omega
  have hb:=b.toNat_lt;have hw4:=w64 (n:=(b.toNat:Int));have hrm:binR .rem (.int .i64 (b.toNat:Int)) (I64 (n:Int))=some (I64 ((b.toNat%n:Nat):Int)):=by
   rw[B2x (by omega)];rfl
  repeat'(apply wr<;>try simp only[go_sem,seval,ht,hd,hg,hw,hw3,hw4,hrm,hlen,A0])
  exact⟨_,_,GL.refl _ _,_,i+1,Nat.mod_lt _ (by omega),by omega,rfl,rfl⟩
 ·have hd:decide ((i:Int)≥L.length)=true:=by simp;omega
  repeat'(apply wr<;>try simp only[go_sem,seval,ht,hd,hlen])
  exact⟨_,_,GL.refl _ _,0,i,by omega,hi,rfl,(upd_same ht).symm⟩
include hL hw in
theorem f_name(p:List UInt8)(n:Int)(hp:p.length<=4)(hn:0<n)(hn2:n<=1000):MZ 38 [.str p,I64 n] L w 50:=by
 intro H cc t i ht hi htc;refine AC.go A2 λhfr=>?_;have hw1:=w64 (n:=(w:Int)-1);obtain⟨q,q0⟩:∃q,decide ((w:Int)>0)=q:=⟨_,rfl⟩;cases q
 ·repeat'((first|apply wr|(refine AC.call (f_Next L hL w _ _ _ t _ (by first|exact ht|exact A0|(rw[hnO];first|exact ht|exact A0)|(simp only[H6];rw[if_neg (by simp;omega)];(repeat rw[hnO]);first|exact A0|exact ht)) (by assumption) (by omega) (by omega) (by omega)) ?_;rintro _ _ _ ⟨k,_,hk,_,rfl,rfl⟩ _;(try simp only[Int.reduceToNat]at hk);(repeat'(rcases A1X.1 hk with hk|rfl));all_goals try exact absurd hk (A2W _))|(refine AC.call (B1k _ (by omega) _ _) ?_;rintro _ _ _ ⟨s,_,rfl,rfl⟩ _)|(apply wb2<;>(intro hb;try simp only[hb]))|exact⟨_,_,by first|exact GL.refl _ _|exact A6p hfr htc (by omega),_,_,by(try simp only[A0A]);omega,by assumption,rfl,rfl⟩|(refine⟨by and_intros<;>first|rfl|((repeat rw[hnO]);exact hfr _ (by omega)),?_⟩))<;>try simp (disch:=(first|omega|(simp only[A0A,A0F,A0O];omega))) only[go_sem,seval,T3,ht,q0])
 ·have h0:0<(w:Int):=by simpa using q0
  repeat'((first|apply wr|(refine AC.call (f_Next L hL w _ _ _ t _ (by first|exact ht|exact A0|(rw[hnO];first|exact ht|exact A0)|(simp only[H6];rw[if_neg (by simp;omega)];(repeat rw[hnO]);first|exact A0|exact ht)) (by assumption) (by omega) (by omega) (by omega)) ?_;rintro _ _ _ ⟨k,_,hk,_,rfl,rfl⟩ _;(try simp only[Int.reduceToNat]at hk);(repeat'(rcases A1X.1 hk with hk|rfl));all_goals try exact absurd hk (A2W _))|(refine AC.call (B1k _ (by omega) _ _) ?_;rintro _ _ _ ⟨s,_,rfl,rfl⟩ _)|(apply wb2<;>(intro hb;try simp only[hb]))|exact⟨_,_,by first|exact GL.refl _ _|exact A6p hfr htc (by omega),_,_,by(try simp only[A0A,A0F,A0O]);omega,by assumption,rfl,rfl⟩|(refine⟨by and_intros<;>first|rfl|((repeat rw[hnO]);exact hfr _ (by omega)),?_⟩))<;>try simp (disch:=(first|omega|(simp only[A0A,A0F,A0O];omega))) only[go_sem,seval,T3,h_ne,A0,A4,ht,hw1,q0])
include hL hw in
theorem f_Bool(E:Nat)(hE:100<=E/\E<=1000000)(D:Int)(hD : -10<=D/\D<=10)(h:D<=0\/(MZ 37 [I64 0] L w E/\MZ 37 [I64 (D-1)] L w E/\MZ 15 [I64 (D-1)] L w E)):MZ 37 [I64 D] L w (2*E+20):=by
 intro H cc t i ht hi htc;refine AC.go A2 λhfr=>?_;have hw1:=w64 (n:=D-1);rcases h with h|⟨h1,h2,h3⟩
 ·have qd:decide (D<=0)=true:=by simpa using h
  repeat'((first|apply wr|(refine AC.call (f_Next L hL w _ _ _ t _ (by first|exact ht|exact A0|(rw[hnO];first|exact ht|exact A0)|(simp only[H6];rw[if_neg (by simp;omega)];(repeat rw[hnO]);first|exact A0|exact ht)) (by assumption) (by omega) (by omega) (by omega)) ?_;rintro _ _ _ ⟨k,_,hk,_,rfl,rfl⟩ _;(try simp only[Int.reduceToNat]at hk);(repeat'(rcases A1X.1 hk with hk|rfl));all_goals try exact absurd hk (A2W _))|(refine AC.call (f_name L hL w hw _ _ (by decide) (by decide) (by decide) _ _ t _ (by first|exact ht|exact A0|(rw[hnO];first|exact ht|exact A0)|(simp only[H6];rw[if_neg (by simp;omega)];(repeat rw[hnO]);first|exact A0|exact ht)) (by assumption) (by omega)) ?_;rintro _ _ _ ⟨s,_,_,_,rfl,rfl⟩ _)|(apply wb2<;>(intro hb;try simp only[hb]))|exact⟨_,_,by first|exact GL.refl _ _|exact A6p hfr htc (by omega),_,_,by(try simp only[A0F,A0O]);omega,by assumption,rfl,rfl⟩|(refine⟨by and_intros<;>first|rfl|((repeat rw[hnO]);exact hfr _ (by omega)),?_⟩))<;>try simp (disch:=(first|omega|(simp only[A0A,A0F,A0O];omega))) only[go_sem,seval,T3,A4,qd])
 ·obtain⟨q,qd⟩:∃q,decide (D<=0)=q:=⟨_,rfl⟩;cases q;all_goals
   repeat'((first|apply wr|(refine AC.call (f_Next L hL w _ _ _ t _ (by first|exact ht|exact A0|(rw[hnO];first|exact ht|exact A0)|(simp only[H6];rw[if_neg (by simp;omega)];(repeat rw[hnO]);first|exact A0|exact ht)) (by assumption) (by omega) (by omega) (by omega)) ?_;rintro _ _ _ ⟨k,_,hk,_,rfl,rfl⟩ _;(try simp only[Int.reduceToNat]at hk);(repeat'(rcases A1X.1 hk with hk|rfl));all_goals try exact absurd hk (A2W _))|(refine AC.call (f_name L hL w hw _ _ (by decide) (by decide) (by decide) _ _ t _ (by first|exact ht|exact A0|(rw[hnO];first|exact ht|exact A0)|(simp only[H6];rw[if_neg (by simp;omega)];(repeat rw[hnO]);first|exact A0|exact ht)) (by assumption) (by omega)) ?_;rintro _ _ _ ⟨s,_,_,_,rfl,rfl⟩ _)|(refine AC.call (h1 _ _ t _ (by first|exact ht|exact A0|(rw[hnO];first|exact ht|exact A0)|(simp only[H6];rw[if_neg (by simp;omega)];(repeat rw[hnO]);first|exact A0|exact ht)) (by assumption) (by omega)) ?_;rintro _ _ _ ⟨s,_,_,_,rfl,rfl⟩ _)|(refine AC.call (h2 _ _ t _ (by first|exact ht|exact A0|(rw[hnO];first|exact ht|exact A0)|(simp only[H6];rw[if_neg (by simp;omega)];(repeat rw[hnO]);first|exact A0|exact ht)) (by assumption) (by omega)) ?_;rintro _ _ _ ⟨s,_,_,_,rfl,rfl⟩ _)|(refine AC.call (h3 _ _ t _ (by first|exact ht|exact A0|(rw[hnO];first|exact ht|exact A0)|(simp only[H6];rw[if_neg (by simp;omega)];(repeat rw[hnO]);first|exact A0|exact ht)) (by assumption) (by omega)) ?_;rintro _ _ _ ⟨s,_,_,_,rfl,rfl⟩ _)|(apply wb2<;>(intro hb;try simp only[hb]))|exact⟨_,_,by first|exact GL.refl _ _|exact A6p hfr htc (by omega),_,_,by(try simp only[A0A,A0F,A0O]);omega,by assumption,rfl,rfl⟩|(refine⟨by and_intros<;>first|rfl|((repeat rw[hnO]);exact hfr _ (by omega)),?_⟩))<;>try simp (disch:=(first|omega|(simp only[A0A,A0F,A0O];omega))) only[go_sem,seval,T3,h_ne,A0,A4,D1b,hw1,qd])
include hL hw in
theorem f_Int(E:Nat)(hE:100<=E/\E<=1000000)(D:Int)(hD : -10<=D/\D<=10)(hB:MZ 37 [I64 (D-1)] L w E)(h:D<=0\/(MZ 15 [I64 0] L w E/\MZ 15 [I64 (D-1)] L w E)):MZ 15 [I64 D] L w (2*E+20):=by
 intro H cc t i ht hi htc;refine AC.go A2 λhfr=>?_;have hw1:=w64 (n:=D-1);have hw4:=w64 (n:=4*(w:Int));obtain⟨q,q0⟩:∃q,decide ((w:Int)>0)=q:=⟨_,rfl⟩;have hq:q=false\/0<(w:Int):=by cases q;exact .inl rfl;exact .inr (by simpa using q0)
 rcases h with h|⟨h1,h2⟩
 ·have qd:decide (D<=0)=true:=by simpa using h
  rcases hq with rfl|h0
  all_goals
   try cases q
   all_goals
    repeat'((first|apply wr|(refine AC.call (f_Next L hL w _ _ _ t _ (by first|exact ht|exact A0|(rw[hnO];first|exact ht|exact A0)|(simp only[H6];rw[if_neg (by simp;omega)];(repeat rw[hnO]);first|exact A0|exact ht)) (by assumption) (by omega) (by omega) (by omega)) ?_;rintro _ _ _ ⟨k,_,hk,_,rfl,rfl⟩ _;(try simp only[Int.reduceToNat]at hk);(repeat'(rcases A1X.1 hk with hk|rfl));all_goals try exact absurd hk (A2W _))|(refine AC.call (f_name L hL w hw _ _ (by decide) (by decide) (by decide) _ _ t _ (by first|exact ht|exact A0|(rw[hnO];first|exact ht|exact A0)|(simp only[H6];rw[if_neg (by simp;omega)];(repeat rw[hnO]);first|exact A0|exact ht)) (by assumption) (by omega)) ?_;rintro _ _ _ ⟨s,_,_,_,rfl,rfl⟩ _)|(refine AC.call (hB _ _ t _ (by first|exact ht|exact A0|(rw[hnO];first|exact ht|exact A0)|(simp only[H6];rw[if_neg (by simp;omega)];(repeat rw[hnO]);first|exact A0|exact ht)) (by assumption) (by omega)) ?_;rintro _ _ _ ⟨s,_,_,_,rfl,rfl⟩ _)|(refine AC.call (B1k _ (by omega) _ _) ?_;rintro _ _ _ ⟨s,_,rfl,rfl⟩ _)|(apply wb2<;>(intro hb;try simp only[hb]))|exact⟨_,_,by first|exact GL.refl _ _|exact A6p hfr htc (by omega),_,_,by(try simp only[A0F,A0O]);omega,by assumption,rfl,rfl⟩|(refine⟨by and_intros<;>first|rfl|((repeat rw[hnO]);exact hfr _ (by omega)),?_⟩))<;>try simp (disch:=(first|omega|(simp only[A0A,A0F,A0O];omega))) only[go_sem,seval,T3,h_ne,A0,A4,ht,hw1,hw4,q0,qd])
 ·obtain⟨qq,qd⟩:∃q,decide (D<=0)=q:=⟨_,rfl⟩;rcases hq with rfl|h0
  all_goals
   try cases q
   all_goals
    cases qq;all_goals
     repeat'((first|apply wr|(refine AC.call (f_Next L hL w _ _ _ t _ (by first|exact ht|exact A0|(rw[hnO];first|exact ht|exact A0)|(simp only[H6];rw[if_neg (by simp;omega)];(repeat rw[hnO]);first|exact A0|exact ht)) (by assumption) (by omega) (by omega) (by omega)) ?_;rintro _ _ _ ⟨k,_,hk,_,rfl,rfl⟩ _;(try simp only[Int.reduceToNat]at hk);(repeat'(rcases A1X.1 hk with hk|rfl));all_goals try exact absurd hk (A2W _))|(refine AC.call (f_name L hL w hw _ _ (by decide) (by decide) (by decide) _ _ t _ (by first|exact ht|exact A0|(rw[hnO];first|exact ht|exact A0)|(simp only[H6];rw[if_neg (by simp;omega)];(repeat rw[hnO]);first|exact A0|exact ht)) (by assumption) (by omega)) ?_;rintro _ _ _ ⟨s,_,_,_,rfl,rfl⟩ _)|(refine AC.call (hB _ _ t _ (by first|exact ht|exact A0|(rw[hnO];first|exact ht|exact A0)|(simp only[H6];rw[if_neg (by simp;omega)];(repeat rw[hnO]);first|exact A0|exact ht)) (by assumption) (by omega)) ?_;rintro _ _ _ ⟨s,_,_,_,rfl,rfl⟩ _)|(refine AC.call (h1 _ _ t _ (by first|exact ht|exact A0|(rw[hnO];first|exact ht|exact A0)|(simp only[H6];rw[if_neg (by simp;omega)];(repeat rw[hnO]);first|exact A0|exact ht)) (by assumption) (by omega)) ?_;rintro _ _ _ ⟨s,_,_,_,rfl,rfl⟩ _)|(refine AC.call (h2 _ _ t _ (by first|exact ht|exact A0|(rw[hnO];first|exact ht|exact A0)|(simp only[H6];rw[if_neg (by simp;omega)];(repeat rw[hnO]);first|exact A0|exact ht)) (by assumption) (by omega)) ?_;rintro _ _ _ ⟨s,_,_,_,rfl,rfl⟩ _)|(refine AC.call (B1k _ (by omega) _ _) ?_;rintro _ _ _ ⟨s,_,rfl,rfl⟩ _)|(apply wb2<;>(intro hb;try simp only[hb]))|exact⟨_,_,by first|exact GL.refl _ _|exact A6p hfr htc (by omega),_,_,by(try simp only[A0A,A0F,A0O]);omega,by assumption,rfl,rfl⟩|(refine⟨by and_intros<;>first|rfl|((repeat rw[hnO]);exact hfr _ (by omega)),?_⟩))<;>try simp (disch:=(first|omega|(simp only[A0A,A0F,A0O];omega))) only[go_sem,seval,T3,h_ne,A0,A4,ht,hw1,hw4,q0,qd])
theorem MZ.mono{f:Nat}{xs:List DV}{n m:Nat}(h:MZ f xs L w n)(hm:n<=m):MZ f xs L w m:=λH cc t i ht hi htc=>(h H cc t i ht hi htc).mono λv H' c' ⟨s,j,a,b⟩=>⟨s,j,A1D a hm,b⟩
include hL hw in
theorem F1e:(MZ 15 [I64 0] L w 2000/\MZ 15 [I64 1] L w 2000/\MZ 15 [I64 2] L w 2000)/\MZ 37 [I64 0] L w 2000/\MZ 37 [I64 1] L w 2000:=by
 have bm:=f_Bool L hL w hw 100 (by omega) (-1) (by omega) (.inl (by omega));have i0:=f_Int L hL w hw 220 (by omega) 0 (by omega) bm (.inl (by omega));have b0:=(f_Bool L hL w hw 100 (by omega) 0 (by omega) (.inl (by omega))).mono L w (show 220<=460 by omega);have i1:=f_Int L hL w hw 460 (by omega) 1 (by omega) b0 (.inr ⟨i0,i0⟩);have b1:=f_Bool L hL w hw 460 (by omega) 1 (by omega) (.inr ⟨b0,b0,i0⟩);have i2:=f_Int L hL w hw 940 (by omega) 2 (by omega) b1 (.inr ⟨i0.mono L w (by omega),i1⟩);exact⟨⟨i0.mono L w (by omega),i1.mono L w (by omega),i2.mono L w (by omega)⟩,b0.mono L w (by omega),b1.mono L w (by omega)⟩
include hL hw in
theorem C1h(B:Nat)(hB:B<=1000000)(D:Int)(hD : -10<=D/\D<=10)(h:D<=0\/MZ 103 [I64 (D-1)] L w B):MZ 158 [I64 D] L w (2*B+5000):=by
 intro H cc t i ht hi htc;obtain⟨⟨i0,i1,i2⟩,b0,b1⟩:=F1e L hL w hw;refine AC.go A2 λhfr=>?_;have hw1:=w64 (n:=D-1);rcases h with h|h
 ·have qd:decide (D<=0)=true:=by simpa using h
  repeat'((first|apply wr|(refine AC.call (f_Next L hL w _ _ _ t _ (by first|exact ht|exact A0|(rw[hnO];first|exact ht|exact A0)|(simp only[H6];rw[if_neg (by simp;omega)];(repeat rw[hnO]);first|exact A0|exact ht)) (by assumption) (by omega) (by omega) (by omega)) ?_;rintro _ _ _ ⟨k,_,hk,_,rfl,rfl⟩ _;(try simp only[Int.reduceToNat]at hk);(repeat'(rcases A1X.1 hk with hk|rfl));all_goals try exact absurd hk (A2W _))|(refine AC.call (f_name L hL w hw _ _ (by decide) (by decide) (by decide) _ _ t _ (by first|exact ht|exact A0|(rw[hnO];first|exact ht|exact A0)|(simp only[H6];rw[if_neg (by simp;omega)];(repeat rw[hnO]);first|exact A0|exact ht)) (by assumption) (by omega)) ?_;rintro _ _ _ ⟨s,_,_,_,rfl,rfl⟩ _)|(refine AC.call (i0 _ _ t _ (by first|exact ht|exact A0|(rw[hnO];first|exact ht|exact A0)|(simp only[H6];rw[if_neg (by simp;omega)];(repeat rw[hnO]);first|exact A0|exact ht)) (by assumption) (by omega)) ?_;rintro _ _ _ ⟨s,_,_,_,rfl,rfl⟩ _)|(refine AC.call (i1 _ _ t _ (by first|exact ht|exact A0|(rw[hnO];first|exact ht|exact A0)|(simp only[H6];rw[if_neg (by simp;omega)];(repeat rw[hnO]);first|exact A0|exact ht)) (by assumption) (by omega)) ?_;rintro _ _ _ ⟨s,_,_,_,rfl,rfl⟩ _)|(refine AC.call (i2 _ _ t _ (by first|exact ht|exact A0|(rw[hnO];first|exact ht|exact A0)|(simp only[H6];rw[if_neg (by simp;omega)];(repeat rw[hnO]);first|exact A0|exact ht)) (by assumption) (by omega)) ?_;rintro _ _ _ ⟨s,_,_,_,rfl,rfl⟩ _)|(refine AC.call (b0 _ _ t _ (by first|exact ht|exact A0|(rw[hnO];first|exact ht|exact A0)|(simp only[H6];rw[if_neg (by simp;omega)];(repeat rw[hnO]);first|exact A0|exact ht)) (by assumption) (by omega)) ?_;rintro _ _ _ ⟨s,_,_,_,rfl,rfl⟩ _)|(refine AC.call (b1 _ _ t _ (by first|exact ht|exact A0|(rw[hnO];first|exact ht|exact A0)|(simp only[H6];rw[if_neg (by simp;omega)];(repeat rw[hnO]);first|exact A0|exact ht)) (by assumption) (by omega)) ?_;rintro _ _ _ ⟨s,_,_,_,rfl,rfl⟩ _)|(apply wb2<;>(intro hb;try simp only[hb]))|exact⟨_,_,by first|exact GL.refl _ _|exact A6p hfr htc (by omega),_,_,by(try simp only[A0A,A0F,A0O]);omega,by assumption,rfl,rfl⟩|(refine⟨by and_intros<;>first|rfl|((repeat rw[hnO]);exact hfr _ (by omega)),?_⟩))<;>try simp (disch:=(first|omega|(simp only[A0A,A0F,A0O];omega))) only[go_sem,seval,T3,h_ne,A0,A4,D1b,qd])
 ·obtain⟨q,qd⟩:∃q,decide (D<=0)=q:=⟨_,rfl⟩;cases q;all_goals
   repeat'((first|apply wr|(refine AC.call (f_Next L hL w _ _ _ t _ (by first|exact ht|exact A0|(rw[hnO];first|exact ht|exact A0)|(simp only[H6];rw[if_neg (by simp;omega)];(repeat rw[hnO]);first|exact A0|exact ht)) (by assumption) (by omega) (by omega) (by omega)) ?_;rintro _ _ _ ⟨k,_,hk,_,rfl,rfl⟩ _;(try simp only[Int.reduceToNat]at hk);(repeat'(rcases A1X.1 hk with hk|rfl));all_goals try exact absurd hk (A2W _))|(refine AC.call (f_name L hL w hw _ _ (by decide) (by decide) (by decide) _ _ t _ (by first|exact ht|exact A0|(rw[hnO];first|exact ht|exact A0)|(simp only[H6];rw[if_neg (by simp;omega)];(repeat rw[hnO]);first|exact A0|exact ht)) (by assumption) (by omega)) ?_;rintro _ _ _ ⟨s,_,_,_,rfl,rfl⟩ _)|(refine AC.call (i0 _ _ t _ (by first|exact ht|exact A0|(rw[hnO];first|exact ht|exact A0)|(simp only[H6];rw[if_neg (by simp;omega)];(repeat rw[hnO]);first|exact A0|exact ht)) (by assumption) (by omega)) ?_;rintro _ _ _ ⟨s,_,_,_,rfl,rfl⟩ _)|(refine AC.call (i1 _ _ t _ (by first|exact ht|exact A0|(rw[hnO];first|exact ht|exact A0)|(simp only[H6];rw[if_neg (by simp;omega)];(repeat rw[hnO]);first|exact A0|exact ht)) (by assumption) (by omega)) ?_;rintro _ _ _ ⟨s,_,_,_,rfl,rfl⟩ _)|(refine AC.call (i2 _ _ t _ (by first|exact ht|exact A0|(rw[hnO];first|exact ht|exact A0)|(simp only[H6];rw[if_neg (by simp;omega)];(repeat rw[hnO]);first|exact A0|exact ht)) (by assumption) (by omega)) ?_;rintro _ _ _ ⟨s,_,_,_,rfl,rfl⟩ _)|(refine AC.call (b0 _ _ t _ (by first|exact ht|exact A0|(rw[hnO];first|exact ht|exact A0)|(simp only[H6];rw[if_neg (by simp;omega)];(repeat rw[hnO]);first|exact A0|exact ht)) (by assumption) (by omega)) ?_;rintro _ _ _ ⟨s,_,_,_,rfl,rfl⟩ _)|(refine AC.call (b1 _ _ t _ (by first|exact ht|exact A0|(rw[hnO];first|exact ht|exact A0)|(simp only[H6];rw[if_neg (by simp;omega)];(repeat rw[hnO]);first|exact A0|exact ht)) (by assumption) (by omega)) ?_;rintro _ _ _ ⟨s,_,_,_,rfl,rfl⟩ _)|(refine AC.call (h _ _ t _ (by first|exact ht|exact A0|(rw[hnO];first|exact ht|exact A0)|(simp only[H6];rw[if_neg (by simp;omega)];(repeat rw[hnO]);first|exact A0|exact ht)) (by assumption) (by omega)) ?_;rintro _ _ _ ⟨s,_,_,_,rfl,rfl⟩ _)|(apply wb2<;>(intro hb;try simp only[hb]))|exact⟨_,_,by first|exact GL.refl _ _|exact A6p hfr htc (by omega),_,_,by(try simp only[A0A,A0F,A0O]);omega,by assumption,rfl,rfl⟩|(refine⟨by and_intros<;>first|rfl|((repeat rw[hnO]);exact hfr _ (by omega)),?_⟩))<;>try simp (disch:=(first|omega|(simp only[A0A,A0F,A0O];omega))) only[go_sem,seval,T3,h_ne,A0,A4,D1b,hw1,qd])
end
end Go.Proofs.YtenmhfknbopmeaaGreatDoor
set_option maxHeartbeats 40000000
namespace Go.Proofs.YtenmhfknbopmeaaGreatDoor
open Go.Eng (IC IOper DReg IFn L1)
open Go.Sym Go.Pb
section
variable (L:List UInt8) (hL:L.length<=300) (w:Nat) (hw:w<=100)
include hL in
theorem f_block(S:Nat)(hS2:S<=1000000)(D:Int)(hS:MZ 158 [I64 D] L w S):MZ 103 [I64 D] L w (3*S+10):=by
 intro H cc t i ht hi htc;refine AC.go A2 λhfr=>?_;obtain⟨Z,hZ⟩:∃Z,Z=S+1:=⟨_,rfl⟩;repeat'(apply wr<;>try simp only[go_sem,seval])
 refine AC.call (f_Next L hL w 4 _ _ t i ht hi (by omega) (by decide) (by decide)) ?_;rintro v' H' c2 ⟨k,j,hlt,hj,rfl,rfl⟩ hc2;have h3:=A3J Z (show k<=3 by omega);simp only[go_sem,seval];repeat'(apply wr<;>try simp only[go_sem,seval])
 refine A6 (λq:Nat × Nat × List UInt8=>[(0,.ptr t 0),(1,I64 D),(5,.str q.2.2),(6,I64 q.1)]) (λq=>H.upd t (mkB L w q.2.1))
  (λq c=>cc<=c/\q.1<=3/\q.2.1<=300/\q.2.2.length+q.1*Z<=3*Z+1) (λq=>q.1) (k,j,[123])
  (by simp[B7,tm,Tm.upd]) (Sub.refl _) ⟨hc2,by show k<=3;omega,hj,by show 1+k*Z<=_;omega⟩ ?_
 rintro⟨n,i2,ss⟩ c ⟨hc,hn,hi2,hl⟩;dsimp only at hc hn hi2 hl ⊢;cases n with
 |succ n =>
  have qn:decide (((n+1:Nat):Int)>0)=true:=decide_eq_true (by omega);have hw1:IntKind.i64.wrap (((n+1:Nat):Int)-1)=(n:Int):=by rw[w6z];omega
  rw[Nat.succ_mul]at hl;have a1:=T3 (s:=ss) (t:=[32]) (by simp;omega);generalize ((n+1:Nat):Int)=N1 at qn hw1 ⊢;repeat'(apply wr<;>try simp only[go_sem,seval,qn,a1])
  refine AC.call (hS _ _ t i2 A0 hi2 (by omega)) ?_;rintro v' H' c3 ⟨r,i3,l,hi3,rfl,rfl⟩ hc3;have a2:=T3 (s:=ss++[32]) (t:=r) (by simp;omega);rw[A4];simp only[go_sem,seval,a2];repeat'(apply wr<;>try simp only[go_sem,seval,hw1])
  exact⟨(n,i3,ss++[32]++r),by simp[],Sub.refl _,inv ⟨by omega,by omega,hi3,by simp only[A0A,A0K];omega⟩,by simp⟩
 |zero =>
  have a1:=T3 (s:=ss) (t:=[32,125]) (by simp;omega);repeat'(apply wr<;>try simp only[go_sem,seval,a1])
  exact⟨_,_,GL.refl _ _,_,i2,by simp;omega,hi2,rfl,rfl⟩
include hL hw in
theorem f_handler(k:Nat)(hk0:k<=1000)(B:Nat)(hB2:B<=1000000)(hB:MZ 103 [I64 2] L w B):MZ 52 [I64 k] L w (B+200):=by
 intro H cc t i ht hi htc;refine AC.go A2 λhfr=>?_;have hrm:binR .rem (I64 (k:Int)) (.int .i64 11)=some (I64 ((k%11:Nat):Int)):=by rw[B2x (by decide)];rfl
 have hk:=Nat.mod_lt k (show 0<11 by decide);generalize k%11=m at hrm hk;obtain⟨q,q0⟩:∃q,decide ((w:Int)>0)=q:=⟨_,rfl⟩;have hq:q=false\/0<(w:Int):=by cases q;exact .inl rfl;exact .inr (by simpa using q0)
 (repeat'(rcases A1X.1 hk with hk|rfl));all_goals try exact absurd hk (A2W _)
 all_goals
  rcases hq with rfl|h0
  all_goals
   try cases q
   all_goals
    repeat'((first|apply wr|(refine AC.call (f_Next L hL w _ _ _ t _ (by first|exact ht|exact A0|(rw[hnO];first|exact ht|exact A0)|(simp only[H6];rw[if_neg (by simp;omega)];(repeat rw[hnO]);first|exact A0|exact ht)) (by assumption) (by omega) (by omega) (by omega)) ?_;rintro _ _ _ ⟨k,_,hk,_,rfl,rfl⟩ _)|(refine AC.call (B1k _ (by omega) _ _) ?_;rintro _ _ _ ⟨s,_,rfl,rfl⟩ _)|(refine AC.call (hB _ _ t _ (by first|exact ht|exact A0|(rw[hnO];first|exact ht|exact A0)|(simp only[H6];rw[if_neg (by simp;omega)];(repeat rw[hnO]);first|exact A0|exact ht)) (by assumption) (by omega)) ?_;rintro _ _ _ ⟨s,_,_,_,rfl,rfl⟩ _)|(refine AC.call (f_name L hL w hw _ _ (by decide) (by decide) (by decide) _ _ t _ (by first|exact ht|exact A0|(rw[hnO];first|exact ht|exact A0)|(simp only[H6];rw[if_neg (by simp;omega)];(repeat rw[hnO]);first|exact A0|exact ht)) (by assumption) (by omega)) ?_;rintro _ _ _ ⟨s,_,_,_,rfl,rfl⟩ _)|(apply wb2<;>(intro hb;try simp only[hb]))|exact⟨_,_,by first|exact GL.refl _ _|exact A6p hfr htc (by omega)|exact D2d hfr htc (by omega),_,_,by(try simp only[A0A,A0F,A0O]);omega,by assumption,rfl,rfl⟩|(refine⟨by and_intros<;>first|rfl|((repeat rw[hnO]);exact hfr _ (by omega)),?_⟩))<;>try simp (disch:=(first|omega|(simp only[A0A,A0F,A0O];omega))) only[go_sem,seval,T3,h_ne,A0,A4,ht,hrm,q0])
end
section
variable (L:List UInt8) (hL:L.length<=300) (w:Nat) (hw:w<=100)
include hL in
theorem f_rules(Hn:Nat)(hH2:Hn<=1000000)(hH:∀k:Nat,k<=1000->MZ 52 [I64 k] L w Hn):MZ 24 [] L w 100000000:=by
 intro H cc t i ht hi htc;refine AC.go A2 λhfr=>?_;have kL:∀(G:Hp) (j c0:Nat) (s:List UInt8),j<=300->t<c0->s.length<=1000->(∀B ds,GL (G.upd t B) ds (H.upd t B) ds)->IW Tryz.prog 50 (pz Tryz.prog 24 (.i (.i .h))) ⟨tm [(0,.ptr t 0),(3,.str s)],G.upd t (mkB L w j),c0⟩ (rt [.tmp 2] λv H' c' => ∃v2 H2,GL H' [v] H2 [v2]/\∃s j,s.length<=100000000/\j<=300/\v2=.str s/\H2=H.upd t (mkB L w j)):=by
  intro G j c0 s hj hc0 hs hG;repeat'(apply wr<;>try simp only[go_sem,seval])
  refine A6 (λq:Nat × Nat × List UInt8=>[(0,.ptr t 0),(3,.str q.2.2),(4,I64 q.1)]) (λq=>G.upd t (mkB L w q.2.1)) (λq c=>t<c/\q.1<=3/\q.2.1<=300/\q.2.2.length<=1000+10000000*q.1) (λq=>3-q.1) (0,j,s) (by simp[B7,tm,Tm.upd]) (Sub.refl _) ⟨hc0,by omega,hj,hs⟩ ?_;clear hj hc0 hs;rintro⟨i,j,s⟩ c ⟨hc,hi3,hj,hl⟩;dsimp only at hc hi3 hj hl ⊢;by_cases h3:i<3
  ·have qi:decide ((i:Int)<3)=true:=by simp;omega
   try simp (disch:=(first|omega|(simp only[A0A,A0F,A0O];omega))) only[go_sem,seval,T3,A0,A4,qi]
   repeat'(apply wr<;>try simp (disch:=(first|omega|(simp only[A0A,A0F,A0O];omega))) only[go_sem,seval,T3,qi])
   refine AC.call (B1k _ (by omega) _ _) ?_;rintro _ _ c1 ⟨d1,hd1,rfl,rfl⟩ hc1;try simp (disch:=(first|omega|(simp only[A0A,A0F,A0O];omega))) only[go_sem,seval,T3]
   repeat'(apply wr<;>try simp (disch:=(first|omega|(simp only[A0A,A0F,A0O];omega))) only[go_sem,seval,T3,A0,A4])
   refine AC.call (f_Next L hL w 4 _ _ t j A0 hj (by omega) (by decide) (by decide)) ?_;rintro _ _ c2 ⟨p,j2,hp,hj2,rfl,rfl⟩ hc2;try simp (disch:=(first|omega|(simp only[A0A,A0F,A0O];omega))) only[go_sem,seval,A4]
   repeat'(apply wr<;>try simp (disch:=(first|omega|(simp only[A0A,A0F,A0O];omega))) only[go_sem,seval,T3,A0,A4])
   refine AC.call (B1k _ (by omega) _ _) ?_;rintro _ _ c3 ⟨d2,hd2,rfl,rfl⟩ hc3;try simp (disch:=(first|omega|(simp only[A0A,A0F,A0O];omega))) only[go_sem,seval,T3]
   repeat'(apply wr<;>try simp (disch:=(first|omega|(simp only[A0A,A0F,A0O];omega))) only[go_sem,seval])
   refine AC.call (f_Next L hL w 11 _ _ t j2 A0 hj2 (by omega) (by decide) (by decide)) ?_;rintro _ _ c4 ⟨k,j3,hk,hj3,rfl,rfl⟩ hc4;try simp (disch:=(first|omega|(simp only[A0A,A0F,A0O];omega))) only[go_sem,seval,A4]
   repeat'(apply wr<;>try simp (disch:=(first|omega|(simp only[A0A,A0F,A0O];omega))) only[go_sem,seval])
   refine AC.call (f_Next L hL w 5 _ _ t j3 A0 hj3 (by omega) (by decide) (by decide)) ?_;rintro _ _ c5 ⟨n,j4,hn,hj4,rfl,rfl⟩ hc5;try simp (disch:=(first|omega|(simp only[A0A,A0F,A0O];omega))) only[go_sem,seval,A4]
   repeat'(apply wr<;>try simp (disch:=(first|omega|(simp only[A0A,A0F,A0O];omega))) only[go_sem,seval])
   refine A6 (λq:Nat × Nat × Nat × List UInt8=>[(0,.ptr t 0),(3,.str q.2.2.2),(4,I64 i),(5,I64 q.2.2.1),(6,I64 q.1)]) (λq=>G.upd t (mkB L w q.2.1)) (λq c=>t<c/\q.1+q.2.2.1<=20/\q.2.1<=300/\q.2.2.2.length+2000000*q.1<=9000000+10000000*i) (λq=>q.1) (n,j4,k,_) ⟨rfl,rfl,rfl,rfl,rfl,trivial⟩ (Sub.refl _) ⟨by omega,by show n+k<=20;omega,hj4,by simp only[A0A,A0F,A0O];omega⟩ ?_;rintro⟨n,j,k,y⟩ c ⟨hc,hn,hj,hl⟩;dsimp only at hc hn hj hl ⊢;cases n with
   |succ n =>
    have qn:decide (((n+1:Nat):Int)>0)=true:=decide_eq_true (by omega);have hw1:IntKind.i64.wrap (((n+1:Nat):Int)-1)=(n:Int):=by rw[w6z];omega
    have hw2:IntKind.i64.wrap ((k:Int)+1)=((k+1:Nat):Int):=by rw[w6z];omega
    generalize ((n+1:Nat):Int)=N1 at qn hw1 ⊢;try simp (disch:=(first|omega|(simp only[A0A,A0F,A0O];omega))) only[go_sem,seval,T3,A0,A4,qn]
    repeat'(apply wr<;>try simp (disch:=(first|omega|(simp only[A0A,A0F,A0O];omega))) only[go_sem,seval,qn])
    refine AC.call (hH k (by omega) _ _ t j A0 hj (by omega)) ?_;rintro _ _ c6 ⟨r,j5,l,hj5,rfl,rfl⟩ hc6;try simp (disch:=(first|omega|(simp only[A0A,A0F,A0O];omega))) only[go_sem,seval,T3,A4]
    repeat'(apply wr<;>try simp (disch:=(first|omega|(simp only[A0A,A0F,A0O];omega))) only[go_sem,seval,hw1,hw2])
    exact⟨(n,j5,k+1,_),⟨rfl,rfl,rfl⟩,Sub.refl _,inv ⟨by omega,by show n+(k+1)<=20;omega,hj5,by simp only[A0A,A0F,A0O];omega⟩,by simp⟩
   |zero =>
    have hw2:IntKind.i64.wrap ((i:Int)+1)=((i+1:Nat):Int):=by rw[w6z];omega
    try simp (disch:=(first|omega|(simp only[A0A,A0F,A0O];omega))) only[go_sem,seval]
    repeat'(apply wr<;>try simp (disch:=(first|omega|(simp only[A0A,A0F,A0O];omega))) only[go_sem,seval,T3,hw2])
    exact⟨(i+1,j,_),⟨rfl,rfl⟩,Sub.refl _,inv ⟨by omega,by show i+1<=3;omega,hj,by simp only[A0A,A0F,A0O];omega⟩,by simp only;omega⟩
  ·have qi:decide ((i:Int)<3)=false:=by simp;omega
   try simp (disch:=(first|omega|(simp only[A0A,A0F,A0O];omega))) only[go_sem,seval,T3,A0,A4,qi]
   repeat'(apply wr<;>try simp (disch:=(first|omega|(simp only[A0A,A0F,A0O];omega))) only[go_sem,seval,qi])
   exact⟨_,_,hG _ _,s,j,by omega,hj,rfl,rfl⟩
 have kH:∀(s:List UInt8) (c0:Nat),s.length<=600->cc<=c0->IW Tryz.prog 50 (pz Tryz.prog 24 (.i (.o .h))) ⟨tm [(0,.ptr t 0),(3,.str s)],H,c0⟩ (rt [.tmp 2] λv H' c' => ∃v2 H2,GL H' [v] H2 [v2]/\∃s j,s.length<=100000000/\j<=300/\v2=.str s/\H2=H.upd t (mkB L w j)):=by
  intro s c0 hs hc0;have a1:=T3 (s:=s) (t:=[118,97,114,32,118,48,32]) (by simp;omega);repeat'(apply wr<;>try simp only[go_sem,seval,a1])
  refine AC.call (f_Next L hL w 4 _ _ t i (by rw[hnO];exact ht) hi (by omega) (by decide) (by decide)) ?_;rintro _ _ c3 ⟨k,j,hk,hj,rfl,rfl⟩ hc3;generalize hWL:([.str [48],.str [53],.str [45,55],.str [50,49,52,55,52,56,51,54,52,55]]:List DV)=WL;obtain⟨og,hog,hld⟩:∃og:List UInt8,og.length<=10/\WL[k]? = some (.str og):=by
   subst hWL
   (try simp only[Int.reduceToNat]at hk);(repeat'(rcases A1X.1 hk with hk|rfl));all_goals first|exact absurd hk (A2W _)|exact⟨_,by decide,rfl⟩
  have hk4:k<4:=hk;have hia:A0i 1 (.slc c0 0 4) (I64 (k:Int))=some (.ptr c0 k):=by simp[A0i];omega
  have a2:=T3 (s:=s++[118,97,114,32,118,48,32]) (t:=og) (by simp;omega);obtain⟨Y,hY,a3⟩:∃Y:List UInt8,Y.length<=1000/\binR .add (.str (s++[118,97,114,32,118,48,32]++og)) (.str [59,32,118,97,114,32,118,49,32,49,59,32,118,97,114,32,118,50,32,48,59,32,116,105,109,101,114,32,116,109,48,59,32,116,105,109,101,114,32,116,109,49,59,32,101,118,101,110,116,32,101,118,48,59,32,101,118,101,110,116,32,101,118,49,59,10])=some (.str Y):=⟨_,by simp;omega,T3 (by simp;omega)⟩;have ne0:=W9 t c0 (by omega);simp only[go_sem,seval,A0,ne0,hia,hld,a2,a3];repeat'((with_reducible first|refine I4 (p:=IW _ _ (pz Tryz.prog 24 (.i (.i .h))) _ _) ?_|refine wr ?_)<;>try simp only[go_sem,seval])
  exact IW.stage (by simp[B7,tm,Tm.upd]) (kL _ j _ Y hj (by omega) hY λB ds=>D2d hfr htc (by omega))
 repeat'((with_reducible first|refine I4 (p:=IW _ _ (pz Tryz.prog 24 (.i (.o .h))) _ _) ?_|refine wr ?_)<;>try simp only[go_sem,seval])
 exact IW.stage (L:=[(0,.ptr t 0),(3,.str _)]) ⟨rfl,rfl,trivial⟩ (kH _ _ (by simp) (by omega))
theorem E7n(l:List UInt8)(hl:l.length<=9223372036854775807)(H:Hp)(cc:Nat):
  AC Tryz.prog 14 [.lst (bytesC l)] H cc (λv H' c' => ∃t L,L.length<=300/\cc<=t/\t<c'/\v=.ptr t 0/\H'=H.upd t (mkB L 0 0)):=by
 refine AC.go A2 λhfr=>?_;have hlen:(bytesC l).length=l.length:=by simp[bytesC]
 have hmin:(if(300:Int)<((l.length:Nat):Int) then(300:Int) else((l.length:Nat):Int))=((min l.length 300:Nat):Int):=by split<;>omega
 have hsl:A5b H 1 (.lst (bytesC l)) none (some (I64 ((min l.length 300:Nat):Int)))=some (.lst (bytesC (l.take (min l.length 300)))):=by
  have hb:boundOf (bytesC l).length (some (I64 ((min l.length 300:Nat):Int)))=some (min l.length 300):=by simp[boundOf]
  have hu:Sym.unit 1 (bytesC l)=true:=by simp only[Sym.unit,bytesC,List.all_map];exact A0S.2 λx _=>rfl
  simp only[A5b,hb,show boundOf 0 none=some 0 from rfl];rw[if_pos ⟨by rw[hlen];omega,A0P _,hu⟩,A3O,Nat.sub_zero];unfold bytesC;rw[<- List.map_take]
 repeat'(apply wr<;>try simp only[go_sem,seval,hlen,hmin,hsl])
 exact⟨_,_,GL.refl _ _,cc,l.take (min l.length 300),by rw[A0Y];omega,A0E _,A1N _,rfl,rfl⟩
theorem D2i(l:List UInt8)(hl:l.length<=9223372036854775807)(u:UInt8)(H:Hp)(cc:Nat):
  AC Tryz.prog 7 [.lst (bytesC l),.int .u8 (u.toNat:Int)] H cc (λv H' c' => ∃s,v=(A1x s).1.v/\H'=H):=by
 refine AC.go A2 λhfr=>?_;have hb:=u.toNat_lt;repeat'(apply wr<;>try simp only[go_sem,seval])
 refine AC.call (E7n l hl _ _) ?_;rintro v' H' c2 ⟨t,L,hL,ht1,ht2,rfl,rfl⟩ hc2;have hrm:binR .rem (.int .u8 (u.toNat:Int)) (.int .u8 20)=some (.int .u8 ((u.toNat%20:Nat):Int)):=by rw[B2x (by decide)];rfl
 have hw1:IntKind.i64.wrap ((u.toNat%20:Nat):Int)=((u.toNat%20:Nat):Int):=w6z;have hw:u.toNat%20<=100:=by omega
 have s0:=C1h L hL _ hw 0 (by omega) 0 (by omega) (.inl (by omega));have s1:=C1h L hL _ hw 15010 (by omega) 1 (by omega) (.inr (f_block L hL _ _ (by omega) 0 s0));have s2:=C1h L hL _ hw 105070 (by omega) 2 (by omega) (.inr (f_block L hL _ _ (by omega) 1 s1));have hH:=λk hk=>f_handler L hL _ hw k hk _ (by omega) (f_block L hL _ _ (by omega) 2 s2);have hR:=f_rules L hL _ _ (by omega) hH;simp only[go_sem,seval];repeat'(apply wr<;>try simp only[go_sem,seval,A0,A4,hrm,hw1])
 refine AC.call (hR _ _ t 0 A0 (by omega) (by omega)) ?_;rintro v' H' c3 ⟨s,j,ls,b,rfl,rfl⟩ hc3;have hp:=c_Parse s (by omega);have hpv:D5k (A1x s)=.tup [(A1x s).1.v,I64 (A1x s).2.1,I64 (A1x s).2.2]:=rfl;rw[hpv]at hp;generalize hr:(A1x s).1=r at hp;generalize (A1x s).2.1=r1 at hp;generalize (A1x s).2.2=r2 at hp;have hrv:r.v=.agg [C3 r.decls,C6 r.modes]:=rfl;rw[hrv]at hp;rw[A4];have ne0:=P5 cc t c3 (by omega);simp only[go_sem,seval];repeat'((with_reducible first|apply wr|refine cpc hp ?_)<;>try simp only[go_sem,seval,ne0,A0,A4])
 rw[E6 (rv2 rfl A0)];refine⟨_,_,GL.less' (λj2 q hj=>?_),s,by rw[hr],rfl⟩;have hj2:j2<cc:=Classical.byContradiction λh=>by rw[hfr _ (by omega)]at hj;cases hj
 dsimp only;rw[hnO,hnO,hnO,hnO];exact hj
end
end Go.Proofs.YtenmhfknbopmeaaGreatDoor
set_option maxHeartbeats 8000000
namespace Go.Proofs.YtenmhfknbopmeaaGreatDoor
open Go.Eng (IC IOper DReg IFn L1)
open Go.Sym Go.Pb
theorem c_CompileMade2(l:List UInt8)(hl:l.length<=9223372036854775807)(u:UInt8):PC Tryz.prog 5 [.lst (bytesC l),.int .u8 (u.toNat:Int)] (.bool true):=by
 have hs:=c_sane34;have hb:DV.nlL (bytesC l)=true:=L3 (λ_=>rfl) l;refine PC.ofT A2 rfl (A0H rfl) (by simp[DV.nlL,DV.nl,hb]) rfl ?_;have hm0:=D2i l hl 0;rw[show((0:UInt8).toNat:Int)=0 from rfl]at hm0;have hrv:∀r:Ru,r.v=.agg [C3 r.decls,C6 r.modes]:=λ_=>rfl;repeat'(apply wr<;>try simp only[go_sem,seval])
 refine AC.call (D2i l hl u _ _) ?_;rintro v' H' c2 ⟨s,rfl,rfl⟩ hc2;have hz:=C3n s;have hc:=c_compiles (A1x s).1 (by omega);rw[hrv]at hc ⊢;simp only[go_sem,seval];repeat'((with_reducible first|apply wr|refine cpc hc ?_)<;>try simp only[go_sem,seval])
 refine AC.call (hm0 _ _) ?_;rintro v' H' c3 ⟨s2,rfl,rfl⟩ hc3;have hz2:=C3n s2;have hc2:=c_compiles (A1x s2).1 (by omega);rw[hrv]at hc2 ⊢;simp only[go_sem,seval];repeat'((with_reducible first|apply wr|refine cpc hc2 ?_|refine cpc hs ?_)<;>try simp only[go_sem,seval])
 exact A1 rfl
end Go.Proofs.YtenmhfknbopmeaaGreatDoor
end

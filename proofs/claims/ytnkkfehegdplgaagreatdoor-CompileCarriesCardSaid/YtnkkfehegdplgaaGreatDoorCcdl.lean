/-
  HELPERS of the claim: part 12 of its texts.
-/
import Derived.Test.YtnkkfehegdplgaaGreatDoorCcdk
import Derived.Shelf.SlSortCmp.NoneTotal
import Derived.Test.YtnkkfehegdplgaaGreatDoorProg
noncomputable section
set_option linter.unusedVariables false
set_option linter.unusedSimpArgs false
namespace Go.Proofs.YtnkkfehegdplgaaGreatDoor
open Go.Sym Go.Lib Go.Pb Go.So Go.Sort Go.Proofs
theorem c_Sort0{H:Hp}{c:Nat}:AC Tryz.prog 47 [.snil,.func 48 [] []] H c (λv H' c'=>v=.tup []/\H'=H):=by
 refine⟨b8,fun ρ w args' hR hf hA=>?_⟩;obtain⟨v0,e0,r0⟩:=hA.get (i:=0) rfl;obtain⟨v1,e1,r1⟩:=hA.get (i:=1) rfl;have hargs:args' = #[v0,v1]:=by
  have hs:args'.size=2:=hA.1.symm;apply Array.ext (by simpa using hs);intro i h1 h2;have:i=0\/i=1:=a8
  rcases this with rfl|rfl
  ·simpa using (A0Z.1 e0).2
  ·simpa using (A0Z.1 e1).2
 subst hargs;cases r0 with
 |snil =>
 refine(AnyF.slices_SortFunc_none Tryz.sortP none 0 v1 w).mono ?_;rintro ex w' ⟨rfl,rfl⟩;exact⟨_,_,_,c, ρ,rfl,⟨rfl,rfl⟩,.tup _ _ rfl (λi x y hx hy=>by cases hx),hR,hf,A0E _,λ_ _ h=>h,λ_ _=>rfl,Ext.refl _ _ _⟩
end Go.Proofs.YtnkkfehegdplgaaGreatDoor
set_option maxHeartbeats 4000000
set_option maxRecDepth 100000
namespace Go.Proofs.YtnkkfehegdplgaaGreatDoor
open Go.Eng (IC IOper DReg IFn P0)
open Go.Sym Go.Pb
theorem D2n(b:List (List Pb.St)):cellsL (b.map G7)=b.map G7:=by
 induction b with
 |nil=>rfl
 |cons x b ih=>rw[A0P];show DV.cells (G7 x)++cellsL (b.map G7)=_;rw[ih];rfl
theorem E8r(l:List D6):∀d∈pvC l,d.one=true:=by
 intro d hd;obtain⟨p, -,hp⟩:=List.mem_flatMap.1 hd;simp only[pcC,A0U,A1R,or_false]at hp;rcases hp with rfl|rfl|rfl|rfl|rfl<;>rfl
theorem D5x:∀(is:List Nat) (l:List D6), ∀d∈ptC is l,d.one=true
 |i::is,p::l,d,hd=>by
  rw[ptC]at hd;rcases A1A.1 hd with hd|hd
  ·simp only[pcC,A0U,A1R,or_false]at hd;rcases hd with rfl|rfl|rfl|rfl|rfl<;>rfl
  ·exact D5x is l d hd
 |[],_,d,hd=>by cases hd
 |_::_,[],d,hd=>by cases hd
theorem D5l(a b:List D6):pvC (a++b)=pvC a++pvC b:=by simp[pvC]
theorem F5h{G:Hp}{i:Nat}{ds:List DV}(hGi:G i=none):∀(is:List Nat) (l pre:List D6),is.length=l.length->is.Nodup->i ∉ is->(∀j∈is,G j=none) ->
  GL ((A3i G is l).upd i ⟨5,true,pvC pre++ptC is l⟩) ds (G.upd i ⟨5,true,pvC (pre++l)⟩) ds
 |[],[],pre,_,_,_,_=>by rw[A1D];simp only[A3i,ptC,A1D];exact GL.refl _ _
 |j::is,p::l,pre,hl,hn,hi,hg=>by
  obtain⟨n1,n2⟩:=A3P.1 hn;have hji:j≠i:=λe=>hi (by rw[e];exact A0H);have ih:=F5h (ds:=ds) hGi is l (pre++[p]) (Nat.succ.inj hl) n2 (λhm=>hi (A0D _ hm)) (λq hq=>hg q (A0D _ hq));rw[A0K,List.singleton_append]at ih;have hF:A3i G is l j=none:=by rw[B8v n1];exact hg j A0H
  have g:=E2s (H:=(A3i G (j::is) (p::l)).upd i ⟨5,true,pvC pre++ptC (j::is) (p::l)⟩) (a:=j) (k:=i) (u:=1) (u':=1) (w:=5) (n:=p.2.length) (pre:=pvC pre++[I64 p.1.mode,I64 p.1.trig,I64 p.1.ix,I64 0]) (suf:=ptC is l) (xs:=p.2.map G7) (junk:=[]) (ds:=ds)
   (by rw[A0,ptC];simp[pcC]) (by rw[h_ne hji,A3i,A0,D2n,A1D]) (λd hd=>by
    rcases A1A.1 hd with hd|hd
    ·rcases A1A.1 hd with hd|hd
     ·exact E8r pre d hd
     ·simp only[A0U,A1R,or_false]at hd;rcases hd with rfl|rfl|rfl|rfl<;>rfl
    ·exact D5x is l d hd) (by simp) (λx hx=>by obtain⟨y, -,rfl⟩:=A0X.1 hx;rfl) hji
  refine g.trans ?_;have e:(((A3i G (j::is) (p::l)).upd i ⟨5,true,pvC pre++ptC (j::is) (p::l)⟩).del j).upd i ⟨5,true,pvC pre++[I64 p.1.mode,I64 p.1.trig,I64 p.1.ix,I64 0]++[.lst (p.2.map G7)]++ptC is l⟩=(A3i G is l).upd i ⟨5,true,pvC (pre++[p])++ptC is l⟩:=by
   funext k
   by_cases ek:k=i
   ·subst ek;rw[A0,A0,D5l];simp[pvC,pcC]
   ·rw[h_ne ek,h_ne ek];by_cases ej:k=j
    ·subst ej;rw[hF];simp[Hp.del]
    ·rw[I7 ej,h_ne ek,A3i,h_ne ej]
  rw[e];exact ih
abbrev paV(p:D6):DV:=.agg (pcC p.1 (A6x p.2))
abbrev D0t(l:List D6):DV:=.lst (l.map paV)
theorem D9c(l:List D6):cellsL (l.map paV)=pvC l:=by
 induction l with
 |nil=>rfl
 |cons p l ih =>
  rw[A0P];show DV.cells (paV p)++cellsL (l.map paV)=_;rw[ih,show p::l=[p]++l from rfl,D5l];simp[pvC,paV,pcC,DV.cells,cellsL]
theorem c_parts(gs:List DV)(ks vs:List DV)(nm:List UInt8->Int)(hm:∀s,Sym.lkV (I64 0) false vs (G5 (.str s) ks 0)=some (I64 (nm s)))(hgs:gs[7]? = some (.mp .s ks vs))(D:List Dc)(M:List Md)(hs:(M.map λm=>m.hds.length).sum+M.length<=1000000)
  (H:Hp) (c t:Nat) (ht:H t=some ⟨0,true,gs⟩) (htc:t<c) (hl:(J8 [] (hkM nm 0 M)).length<=1000000) :
  AC Tryz.prog 17 [.ptr t 0,.agg [D7 D,F6 M]] H c (λv H' c'=>H'=H/\∃l',(J8 [] (hkM nm 0 M)).Perm l'/\E4h l'/\v=D0t l'):=by
 obtain⟨L,hL⟩:∃L,L=J8 [] (hkM nm 0 M):=⟨_,rfl⟩;rw[<- hL]at hl;refine⟨b8,fun ρ w args' hR hf hA=>?_⟩;have hHn:∀j,c<=j->H j=none:=λj hj=>by
  cases h:H j with
  |none=>rfl
  |some b=>obtain⟨t,h1, -⟩:=hR.blk j b h;rw[hf j hj]at h1;cases h1
 refine(c_gather gs ks vs nm hm hgs D M hs H c t ht htc _ ?_).2 ρ w args' hR hf hA;intro o is c1 hc1 hN;rw[<- hL]at hN ⊢;obtain⟨G,hG⟩:∃G:Hp,G=H.upd c ⟨0,true,[D7 D,F6 M]⟩:=⟨_,rfl⟩;rw[<- hG]at hN ⊢;cases o with
 |none =>
  have hLn:=hN.no rfl;subst hLn;refine wAp ?_;refine AC.call c_Sort0 ?_;rintro _ _ c2 ⟨rfl,rfl⟩ hc2;refine wAq ?_;have his:is=[]:=A3K.1 hN.len;subst his;have g:GL (PM G none [] []) [.snil] H [.lst []]:=(GL.less' (λj b hj=>by
   show G j=some b;rw[hG,h_ne (by rintro rfl;rw[hHn _ (A0E _)]at hj;cases hj)];exact hj)).trans (GL.view fun ρ vs hA=>P8 (λv h=>h.snil_lst) vs hA)
  exact⟨_,_,g,rfl,[],.nil,.nil,rfl⟩
 |some i =>
  have hi:=hN.fo i rfl;have hnm:i ∉ is:=λhm=>(hN.fi i hm).2.2 rfl;have hic:i≠c:=λe=>by have h:=hi.2;rw[e,hG,A0]at h;cases h
  have g:GL (PM G (some i) is L) [.slc i 0 L.length] (G.upd i ⟨5,true,pvC L⟩) [.slc i 0 L.length]:=F5h hi.2 is L [] hN.len hN.nd hnm (λj hj=>(hN.fi j hj).2.1);refine IW.keep [5] [.slc i 0 L.length] g ?_;have hb:(G.upd i ⟨5,true,pvC L⟩) i=some ⟨5,true,pvC L⟩:=A0;refine wAp ?_;refine AC.call (c_Sort1 hb hl) ?_;rintro _ _ c2 ⟨rfl,l',q1,q2,rfl⟩ hc2;refine wAq ?_;rw[A1];have hl':l'.length=L.length:=q1.length_eq.symm;have g2:GL (G.upd i ⟨5,true,pvC l'⟩) [.slc i 0 L.length] H [D0t l']:=GL.frzS (id:=i) A0 rfl (λj=>by
   by_cases ej:j=i
   ·subst ej;left;have h:=hi.2;rw[hG,h_ne hic]at h;exact h
   ·by_cases ec:j=c
    ·subst ec;left;exact hHn _ (A0E _)
    ·right;exact⟨ej,by rw[h_ne ej,hG,h_ne ec]⟩) (.cons _ _ _ _ (U3 (u:=5) (by rw[A0N,hl']) (λx hx=>by obtain⟨y, -,rfl⟩:=A0X.1 hx;rfl) ⟨[],by rw[D9c,A1D]⟩) .nil)
  exact⟨_,_,g2,rfl,l',q1,q2,rfl⟩
end Go.Proofs.YtnkkfehegdplgaaGreatDoor
set_option maxHeartbeats 8000000
namespace Go.Proofs.YtnkkfehegdplgaaGreatDoor
open Go.Eng (IC IOper DReg IFn P0)
open Go.Sym Go.Pb
abbrev D1g(l:List (List UInt8 × (Int × Int))):Blk:=⟨0,true,[.mpc .s (mkK (A2m l)) (mvV (A2m l))]⟩
theorem c_set(n:List UInt8)(q:Int × Int)(l:List (List UInt8 × (Int × Int)))(H:Hp)(cc b t:Nat)(hb:H b=some ⟨0,true,[.mid t]⟩)(ht:H t=some (D1g l))(hbc:b<cc)(htc:t<cc):
  AC Tryz.prog 78 [.str n,B0o q,.ptr b 0] H cc (λv H' c'=>v=.tup []/\H'=H.upd t (D1g (A1m l n q))):=by
 refine AC.go A3 λhfr=>?_;have hbt:b≠t:=λe=>by rw[e,ht]at hb;cases hb
 cases hl:l.lookup n with
 |some y =>
  have hs:A1m l n q=l:=by rw[A1m,if_pos (by rw[hl];rfl)]
  have h1:Sym.lkV (.agg [I64 0,I64 0]) true (mvV (A2m l)) (G5 (.str n) (mkK (A2m l)) 0)=some (.tup [B0o y,.bool true]):=A8w (ok:=true) (by rw[A2b,hl];rfl);unfold B0o at h1 ⊢;rw[hs,upd_same ht];have ne0:=V8 b t cc (cc+1) (by omega);refine wA1 hb ht h1 ne0 @A0 @A1 ?_;refine⟨_,_,GL.less' λj b hj=>?_,rfl,rfl⟩;have:=B8k hfr hj;have h2:j≠cc+1:=by rintro rfl;rw[hfr _ (by omega)]at hj;cases hj
  rw[h_ne h2,h_ne this];exact hj
 |none =>
  have hs:A1m l n q=l++[(n,q)]:=by rw[A1m,if_neg (by rw[hl];simp)]
  have hl':(A2m l).lookup n=none:=by rw[A2b,hl];rfl
  have h1:Sym.lkV (.agg [I64 0,I64 0]) true (mvV (A2m l)) (G5 (.str n) (mkK (A2m l)) 0)=some (.tup [.agg [I64 0,I64 0],.bool false]):=A8x (ok:=true) hl';have h2:=C8o hl';have e1:mkK (A2m (l++[(n,q)]))=mkK (A2m l)++[.str n]:=by simp[mkK,A2m]
  have e2:mvV (A2m (l++[(n,q)]))=mvV (A2m l)++[B0o q]:=by simp[mvV,A2m]
  unfold B0o at e2 ⊢;rw[hs];unfold D1g;rw[e1,e2];have ne0:=V8 b t cc (cc+1) (by omega);refine wA3 hb ht h1 h2 ne0 @A0 @A1 ?_;refine⟨_,_,GL.less' λj b hj=>?_,rfl,rfl⟩;by_cases e:j=t
  ·subst e;rw[A0]at hj ⊢;exact hj
  ·rw[h_ne e]at hj ⊢;have:=B8k hfr hj;have h2:j≠cc+1:=by rintro rfl;rw[hfr _ (by omega)]at hj;cases hj
   rw[h_ne h2,h_ne this];exact hj
def nmH(D:List Dc)(M:List Md)(l:List (List UInt8 × (Int × Int)))(a:List (Int × Nat)):Hp:=(((Sym.nil.upd 0 ⟨0,true,[D7 D,F6 M]⟩).upd 1 (D1g l)).upd 2 ⟨0,true,[.mid 1]⟩).upd 3 ⟨0,true,[.mpc (.i .i64) (ahK a) (ahV a)]⟩
section
variable {D:List Dc} {M:List Md} {l:List (List UInt8 × (Int × Int))} {a:List (Int × Nat)}
theorem E9c:nmH D M l a 0=some ⟨0,true,[D7 D,F6 M]⟩:=rfl
theorem E1f:nmH D M l a 1=some (D1g l):=rfl
theorem E1e:nmH D M l a 2=some ⟨0,true,[.mid 1]⟩:=rfl
theorem E9b:nmH D M l a 3=some ⟨0,true,[.mpc (.i .i64) (ahK a) (ahV a)]⟩:=rfl
theorem E9a(j:Nat)(h:4<=j):nmH D M l a j=none:=by
 unfold nmH;rw[hnO,hnO,hnO,hnO];rfl
theorem B0j{H:Hp}(h0:H 0=some ⟨0,true,[D7 D,F6 M]⟩)(h1:H 1=some (D1g l))(h2:H 2=some ⟨0,true,[.mid 1]⟩)(h3:H 3=some ⟨0,true,[.mpc (.i .i64) (ahK a) (ahV a)]⟩):Sym.Sub (nmH D M l a) H:=by
 intro j b hj;have hlt:j<4:=A2I λh=>by rw[E9a j h]at hj;cases hj
 match j,hlt with
 |0,_=>rw[h0];exact hj
 |1,_=>rw[h1];exact hj
 |2,_=>rw[h2];exact hj
 |3,_=>rw[h3];exact hj
end
theorem E8z(r:Ru):(nmV r).nl=true:=by
 unfold nmV mkK mvV A2m;simp only[DV.nl];rw[A2E,A2E];rw[show((λp:List UInt8 × DV=>DV.str p.1)∘λp:List UInt8 × (Int × Int)=>(p.1,B0o p.2))=λp=>DV.str p.1 from rfl,show((λp:List UInt8 × DV=>p.2)∘λp:List UInt8 × (Int × Int)=>(p.1,B0o p.2))=λp=>B0o p.2 from rfl];rw[P1 (λ_=>rfl),P1 (λ_=>rfl)];rfl
theorem c_names(r:Ru)(h1:r.decls.length<=1000000000)(h2:r.modes.length<=1000000000):PC Tryz.prog 37 [r.v] (nmV r):=by
 refine PC.ofT A3 rfl (A0F rfl) (by simp[Ru.v,DV.nlL,DV.nl,S6,S0]) (E8z _) ?_;obtain⟨R,hR⟩:∃R,R=nmL r:=⟨_,rfl⟩;unfold nmV;rw[<- hR];unfold nmL at hR;obtain⟨D,M⟩:=r;dsimp only at h1 h2 hR;dsimp only[Ru.v];refine wAs @B5g ?_;refine A9 (λq:Nat × List (List UInt8 × (Int × Int))=>[(1,.ptr 0 0),(3,.ptr 2 0),(4,.mid 3),(5,.func 78 [] [.ptr 2 0]),(15,D7 D),(16,I64 D.length),(17,I64 q.1)]) (λq=>nmH D M q.2 (ahM (D.take q.1)))
  (λq c=>4<=c/\q.1<=D.length/\nmD [] [] D=nmD (D.take q.1) q.2 (D.drop q.1)) (λq=>D.length-q.1) (0,[])
  (by simp[B5,tm,Tm.upd]) (B0j rfl rfl rfl rfl) ⟨a8,A0Q _,rfl⟩ ?_
 rintro⟨i,l⟩ c ⟨h1c,hk,he⟩;dsimp only at hk he ⊢;by_cases hlt:i<D.length
 ·have hd:=dtz hlt;have hg:=A0B hlt;have hw:=w64 (n:=(i:Int)+1);rw[C1g hg]at he;have hah:ahM (D.take (i+1))=ahS (ahM (D.take i)) D[i].kind:=by rw[A0V,hg];exact B5m _ _
  have hlk:=C9y D[i].kind (ahM (D.take i));have hmu:=E5v D[i].kind (ahM (D.take i));have hcn:=C6l (D.take i) D[i].kind;have hcl:=C5z (D.take i) D[i].kind;rw[A1C]at hcl;generalize D[i]=d at hg he hah hlk hmu hcn hcl;rw[hcn]at hlk hmu;have hw2:=w64 (n:=(cnD (D.take i) d.kind:Int)+1);have hb0:nmH D M l (ahM (D.take i)) 0=_:=E9c;have hb1:nmH D M l (ahM (D.take i)) 1=_:=E1f;have hb2:nmH D M l (ahM (D.take i)) 2=_:=E1e;have hb3:nmH D M l (ahM (D.take i)) 3=_:=E9b;have hbn:∀j,4<=j->nmH D M l (ahM (D.take i)) j=none:=λj=>E9a j;generalize nmH D M l (ahM (D.take i))=HH at hb0 hb1 hb2 hb3 hbn ⊢;have ne0:=A7s 0 1 2 3 c (c+1) (by omega);by_cases hkk:d.kind=6\/d.kind=7\/d.kind=8
  ·have hnum:A0e (D.take i) d=(cnD (D.take i) d.kind:Int):=by rw[A0e,if_pos hkk]
   rw[hnum]at he;by_cases k6:d.kind=6
   ·have k6:(d.kind==6)=true:=by simpa using k6
    refine wAr (wJ hb0 (wJ hb1 (wJ hb2 (wJ hb3 (wJ hd (wJ hg (wJ hw (wJ hw2 (wJ hlk (wJ hmu (wJ k6 (wJ @B1a (wJ ne0 (wJ @A0 @A1)))))))))))))) ?_;refine AC.call (c_set d.name (d.kind,(cnD (D.take i) d.kind:Int)) l _ _ 2 1 (by rw[hnO,hnO,hnO];exact hb2) (by rw[hnO,hnO,hnO];exact hb1) (by omega) (by omega)) ?_;rintro v H' c' ⟨rfl,rfl⟩ hcc;refine wAu hw ?_;refine⟨(i+1,A1m l d.name (d.kind,(cnD (D.take i) d.kind:Int))),i6,?_,inv ⟨a8,a8,he⟩,by simp only;omega⟩;dsimp only;rw[hah];refine B0j ?_ A0 ?_ ?_
    ·rw[hnO,hnO,hnO,hnO];exact hb0
    ·rw[hnO,hnO,hnO,hnO];exact hb2
    ·rw[hnO,A0]
   have k6:(d.kind==6)=false:=by simpa using k6
   by_cases k7:d.kind=7
   ·have k7:(d.kind==7)=true:=by simpa using k7
    refine wAr (wJ hb0 (wJ hb1 (wJ hb2 (wJ hb3 (wJ hd (wJ hg (wJ hw (wJ hw2 (wJ hlk (wJ hmu (wJ k6 (wJ k7 (wJ @B1a (wJ ne0 (wJ @A0 @A1))))))))))))))) ?_;refine AC.call (c_set d.name (d.kind,(cnD (D.take i) d.kind:Int)) l _ _ 2 1 (by rw[hnO,hnO,hnO];exact hb2) (by rw[hnO,hnO,hnO];exact hb1) (by omega) (by omega)) ?_;rintro v H' c' ⟨rfl,rfl⟩ hcc;refine wAu hw ?_;refine⟨(i+1,A1m l d.name (d.kind,(cnD (D.take i) d.kind:Int))),i6,?_,inv ⟨a8,a8,he⟩,by simp only;omega⟩;dsimp only;rw[hah];refine B0j ?_ A0 ?_ ?_
    ·rw[hnO,hnO,hnO,hnO];exact hb0
    ·rw[hnO,hnO,hnO,hnO];exact hb2
    ·rw[hnO,A0]
   have k7:(d.kind==7)=false:=by simpa using k7
   have k8:(d.kind==8)=true:=by simp at k6 k7 ⊢;omega
   refine wAr (wJ hb0 (wJ hb1 (wJ hb2 (wJ hb3 (wJ hd (wJ hg (wJ hw (wJ hw2 (wJ hlk (wJ hmu (wJ k6 (wJ k7 (wJ k8 (wJ @B1a (wJ ne0 (wJ @A0 @A1)))))))))))))))) ?_;refine AC.call (c_set d.name (d.kind,(cnD (D.take i) d.kind:Int)) l _ _ 2 1 (by rw[hnO,hnO,hnO];exact hb2) (by rw[hnO,hnO,hnO];exact hb1) (by omega) (by omega)) ?_;rintro v H' c' ⟨rfl,rfl⟩ hcc;refine wAu hw ?_;refine⟨(i+1,A1m l d.name (d.kind,(cnD (D.take i) d.kind:Int))),i6,?_,inv ⟨a8,a8,he⟩,by simp only;omega⟩;dsimp only;rw[hah];refine B0j ?_ A0 ?_ ?_
   ·rw[hnO,hnO,hnO,hnO];exact hb0
   ·rw[hnO,hnO,hnO,hnO];exact hb2
   ·rw[hnO,A0]
  ·have hnum:A0e (D.take i) d=d.value:=by rw[A0e,if_neg hkk]
   rw[hnum]at he;have k6:(d.kind==6)=false:=b9
   have k7:(d.kind==7)=false:=b9
   have k8:(d.kind==8)=false:=b9
   refine wAr (wJ hb0 (wJ hb1 (wJ hb2 (wJ hb3 (wJ hd (wJ hg (wJ hw (wJ hw2 (wJ hlk (wJ hmu (wJ k6 (wJ k7 (wJ k8 (wJ @B1a (wJ ne0 (wJ @A0 @A1)))))))))))))))) ?_;refine AC.call (c_set d.name (d.kind,d.value) l _ _ 2 1 (by rw[hnO,hnO,hnO];exact hb2) (by rw[hnO,hnO,hnO];exact hb1) (by omega) (by omega)) ?_;rintro v H' c' ⟨rfl,rfl⟩ hcc;refine wAu hw ?_;refine⟨(i+1,A1m l d.name (d.kind,d.value)),i6,?_,inv ⟨a8,a8,he⟩,by simp only;omega⟩;dsimp only;rw[hah];refine B0j ?_ A0 ?_ ?_
   ·rw[hnO,hnO,hnO,hnO];exact hb0
   ·rw[hnO,hnO,hnO,hnO];exact hb2
   ·rw[hnO,A0]
 have hd:=dfz hlt;rw[A2R (by omega),nmD]at he;rw[he]at hR;refine wAr (wJ hd (wJ @E9c (wJ @E1f (wJ @E1e @E9b)))) ?_;clear he hd hlt hk;generalize ahM (D.take i)=A;clear i;refine A9 (λq:Nat × List (List UInt8 × (Int × Int))=>[(3,.ptr 2 0),(5,.func 78 [] [.ptr 2 0]),(56,F6 M),(57,I64 M.length),(58,I64 q.1)]) (λq=>nmH D M q.2 A)
  (λq c=>4<=c/\q.1<=M.length/\R=nmX q.1 q.2 (M.drop q.1)) (λq=>M.length-q.1) (0,l)
  (by simp[B5,tm,Tm.upd]) (Sub.refl _) ⟨h1c,A0Q _,hR⟩ ?_
 clear hR h1c c l;rintro⟨i,l⟩ c ⟨h1c,hk,he⟩;dsimp only at hk he ⊢;by_cases hlt:i<M.length
 ·have hd:=dtz hlt;have hg:=A0B hlt;have hw:=w64 (n:=(i:Int)+1);rw[C1f hg]at he;generalize M[i]=d at hg he;have hb0:nmH D M l A 0=_:=E9c;have hb1:nmH D M l A 1=_:=E1f;have hb2:nmH D M l A 2=_:=E1e;have hb3:nmH D M l A 3=_:=E9b;have hbn:∀j,4<=j->nmH D M l A j=none:=λj=>E9a j;generalize nmH D M l A=HH at hb0 hb1 hb2 hb3 hbn ⊢;have ne0:=A7s 0 1 2 3 c (c+1) (by omega);refine wAr (wJ hb0 (wJ hb1 (wJ hb2 (wJ hb3 (wJ hd (wJ hg (wJ hw (wJ @C5a (wJ ne0 (wJ @A0 @A1)))))))))) ?_;refine AC.call (c_set d.name (9,(i:Int)) l _ _ 2 1 (by rw[hnO];exact hb2) (by rw[hnO];exact hb1) (by omega) (by omega)) ?_;rintro v H' c' ⟨rfl,rfl⟩ hcc;refine wAu hw ?_;refine⟨(i+1,A1m l d.name (9,(i:Int))),i6,?_,inv ⟨a8,a8,he⟩,by simp only;omega⟩;refine B0j ?_ A0 ?_ ?_
  ·rw[hnO,hnO];exact hb0
  ·rw[hnO,hnO];exact hb2
  ·rw[hnO,hnO];exact hb3
 have hd:=dfz hlt;rw[A2R (by omega),nmX]at he;subst he;have hb2:nmH D M R A 2=_:=E1e;refine wAr (wJ hd hb2) ?_;exact D5u E1f
def ckB(r:Ru)(s:Int × Int):Blk:=⟨0,true,[nmV r,I64 s.1,I64 s.2]⟩
theorem A4z{r:Ru}{n:List UInt8}{k p:Int}(h:k=0\/(H5 r n).1=k):dnE r n k p=none:=by unfold dnE dnM;rw[if_pos h];rfl
theorem F6h{r:Ru}{n:List UInt8}{k p:Int}(h:¬(k=0\/(H5 r n).1=k))(h2:(H5 r n).1=0):dnE r n k p=some (p,8):=by unfold dnE dnM;rw[if_neg h,if_pos h2];rfl
theorem F6i{r:Ru}{n:List UInt8}{k p:Int}(h:¬(k=0\/(H5 r n).1=k))(h2:¬(H5 r n).1=0):dnE r n k p=some (p,44):=by unfold dnE dnM;rw[if_neg h,if_neg h2];rfl
theorem B8u{H:Hp}{cc t:Nat}{b b':Blk}{ds:List DV}(hfr:∀i,cc<=i->H i=none)(htc:t<cc):GL ((H.upd cc b).upd t b') ds (H.upd t b') ds:=GL.less' λj q hj=>by
 by_cases e:j=t
 ·subst e;rw[A0]at hj ⊢;exact hj
 ·rw[h_ne e]at hj ⊢;rw[h_ne (B8k hfr hj)];exact hj
theorem c_inE32(k:Int):PC Tryz.prog 123 [I64 k] (I64 (kdE k)):=by
 refine PC.go A3 ?_;repeat'((with_reducible first|apply wr|refine k_cu ?_ ?_|apply wb2<;>(intro hb;try simp only[hb]))<;>try simp only[go_sem,seval])
 all_goals(refine A4 (congrArg I64 ?_);simp_all[kdE])
theorem c_inS32(k:Int):PC Tryz.prog 82 [I64 k] (I64 (kdS k)):=by
 refine PC.go A3 ?_;repeat'((with_reducible first|apply wr|refine k_cu ?_ ?_|apply wb2<;>(intro hb;try simp only[hb]))<;>try simp only[go_sem,seval])
 all_goals(refine A4 (congrArg I64 ?_);simp_all[kdS])
theorem c_inH32(k:Int):PC Tryz.prog 40 [I64 k] (I64 (kdH k)):=by
 refine PC.go A3 ?_;repeat'((with_reducible first|apply wr|refine k_cu ?_ ?_|apply wb2<;>(intro hb;try simp only[hb]))<;>try simp only[go_sem,seval])
 all_goals(refine A4 (congrArg I64 ?_);simp_all[kdH])
theorem c_most32(k:Int):PC Tryz.prog 80 [I64 k] (I64 (B4c k)):=by
 refine PC.go A3 ?_;repeat'((with_reducible first|apply wr|refine k_cu ?_ ?_|apply wb2<;>(intro hb;try simp only[hb]))<;>try simp only[go_sem,seval])
 all_goals(refine A4 (congrArg I64 ?_);simp_all[B4c])
theorem c_truth32(k:Int):PC Tryz.prog 124 [I64 k] (.bool (E0a k)):=by
 refine PC.go A3 ?_;repeat'((with_reducible first|apply wr|refine k_cu ?_ ?_|apply wb2<;>(intro hb;try simp only[hb]))<;>try simp only[go_sem,seval])
 all_goals(refine A4 (congrArg DV.bool ?_);simp_all[E0a]<;>omega)
theorem c_typ32(k:Int)(h:k<=24):PC Tryz.prog 84 [I64 k] (I64 (A0a k)):=by
 refine PC.go A3 ?_;have ht:=c_truth32 k;rw[D9z h]at ht;repeat'((with_reducible first|apply wr|refine cpc ht ?_|refine k_cu ?_ ?_|apply wb2<;>(intro hb;try simp only[hb]))<;>try simp only[go_sem,seval])
 all_goals(refine A4 (congrArg I64 ?_);simp_all[A0a])
theorem c_fail32(r:Ru)(s:Int × Int)(H:Hp)(cc t:Nat)(ht:H t=some (ckB r s))(htc:t<cc)(p e:Int):AC Tryz.prog 43 [.ptr t 0,I64 p,I64 e] H cc (λv H' c'=>v=.tup []/\H'=H.upd t (ckB r (upS s (some (p,e))))):=by
 refine AC.go A3 λhfr=>?_;unfold ckB at ht ⊢;cases h:(s.2==0) with
 |true =>
  have e0:upS s (some (p,e))=(p,e):=by unfold upS;rw[if_pos (by simpa using h)];rfl
  rw[e0];refine wAy ht h @A0 @A1 ?_;exact⟨_,_,GL.refl _ _,rfl,rfl⟩
 |false =>
  have e0:upS s (some (p,e))=s:=by unfold upS;rw[if_neg (by simpa using h)]
  rw[e0,upd_same ht];refine wAy ht h @A0 @A1 ?_;exact⟨_,_,GL.refl _ _,rfl,rfl⟩
theorem c_den32(r:Ru)(hk:A1e r.decls)(s:Int × Int)(H:Hp)(cc t:Nat)(ht:H t=some (ckB r s))(htc:t<cc)(n:List UInt8)(k p:Int):AC Tryz.prog 39 [.ptr t 0,.str n,I64 k,I64 p] H cc (λv H' c'=>v=.tup []/\H'=H.upd t (ckB r (upS s (dnE r n k p)))):=by
 refine AC.go A3 λhfr=>?_;have ht':=ht;unfold ckB nmV at ht';have ne0:=A1z t cc (by omega);cases hl:(nmL r).lookup n with
 |some q =>
  obtain⟨h1,h2⟩:=C8c hk hl;have hlk:Sym.lkV (.agg [I64 0,I64 0]) true (mvV (A2m (nmL r))) (G5 (.str n) (mkK (A2m (nmL r))) 0)=some (.tup [B0o q,.bool true]):=A8w (ok:=true) (by rw[A2b,hl];rfl);unfold B0o at hlk;by_cases hk0:k=0
  ·subst hk0;have e0:dnE r n 0 p=none:=A4z (.inl rfl);rw[e0,P4,upd_same ht];refine wA0 ht' hlk ne0 @A0 @A1 ?_;exact⟨_,_,B0v hfr,rfl,rfl⟩
  have q0:(k==0)=false:=by simpa using hk0
  by_cases hq:q.1=k
  ·have e0:dnE r n k p=none:=A4z (.inr (by rw[h1];exact hq));rw[e0,P4,upd_same ht];have q1:(q.1 != k)=false:=by simp[hq]
   refine wA3 ht' hlk q0 q1 ne0 @A0 @A1 ?_;exact⟨_,_,B0v hfr,rfl,rfl⟩
  ·have e0:dnE r n k p=some (p,44):=F6i (by rw[h1];simp[hk0,hq]) (by rw[h1];exact h2);rw[e0];have q1:(q.1 != k)=true:=by simp[hq]
   refine wA3 ht' hlk q0 q1 ne0 @A0 @A1 ?_;refine AC.call (c_fail32 r s _ _ t (by rw[hnO];exact ht) (by omega) p 44) ?_;rintro v H' c' ⟨rfl,rfl⟩ hcc;refine wAq ?_;exact⟨_,_,B8u hfr htc,rfl,rfl⟩
 |none =>
  have h1:=C8d hk hl;have hlk:Sym.lkV (.agg [I64 0,I64 0]) true (mvV (A2m (nmL r))) (G5 (.str n) (mkK (A2m (nmL r))) 0)=some (.tup [.agg [I64 0,I64 0],.bool false]):=A8x (ok:=true) (by rw[A2b,hl];rfl);by_cases hk0:k=0
  ·subst hk0;have e0:dnE r n 0 p=none:=A4z (.inl rfl);rw[e0,P4,upd_same ht];refine wA0 ht' hlk ne0 @A0 @A1 ?_;exact⟨_,_,B0v hfr,rfl,rfl⟩
  have q0:(k==0)=false:=by simpa using hk0
  have e0:dnE r n k p=some (p,8):=F6h (by rw[h1];simp;omega) (by rw[h1]);rw[e0];refine wA1 ht' hlk q0 ne0 @A0 @A1 ?_;refine AC.call (c_fail32 r s _ _ t (by rw[hnO];exact ht) (by omega) p 8) ?_;rintro v H' c' ⟨rfl,rfl⟩ hcc;refine wAq ?_;exact⟨_,_,B8u hfr htc,rfl,rfl⟩
theorem B2l{G:Hp}{t c:Nat}{b0 b1 b:Blk}(hG:∀j,c<=j->G j=none)(htc:t<c):Sym.Sub (G.upd t b) (((G.upd t b0).upd c b1).upd t b):=by
 intro j q hj;by_cases e:j=t
 ·subst e;rw[A0]at hj ⊢;exact hj
 ·rw[h_ne e]at hj;have:j<c:=A2I λh=>by rw[hG j h]at hj;cases hj
  rw[h_ne e,hnO,h_ne e];exact hj
theorem C7a{G:Hp}{t c:Nat}{b0 b1:Blk}(hG:∀j,c<=j->G j=none)(htc:t<c):Sym.Sub (G.upd t b0) ((G.upd t b0).upd c b1):=by
 intro j q hj;have:j<c:=A2I λh=>by rw[hnO,hG j h]at hj;cases hj
 rw[hnO];exact hj
theorem c_exp32(r:Ru)(hk:A1e r.decls):∀(m:Nat) (e:Ex),e.sz<m->e.sz<=100000000->(∃q,msM e=some q)->∀(s:Int × Int) (H:Hp) (cc t:Nat) (ht:H t=some (ckB r s)) (htc:t<cc),
  AC Tryz.prog 83 [.ptr t 0,e.v] H cc (λv H' c'=>v=.tup []/\H'=H.upd t (ckB r (upS s (erE r e)))):=by
 intro m
 induction m with
 |zero=>intro e h;omega
 |succ m ih =>
 intro e hm hB ⟨q0,hq0⟩ s H cc t ht htc;have hal:Ex.szs e.args<e.sz:=by cases e with|mk k v n a p=>rw[Ex.sz];show Ex.szs a<_;omega
 have hargs:∀x∈e.args,x.sz<=Ex.szs e.args:=λx hx=>Ex.szs_mem hx;have hll:=Ex.szs_len e.args;have hms:=E1o hq0;have h22:=E9h hq0;have hknd:∀x∈e.args,x.kind<=24:=λx hx=>by obtain⟨q,hq⟩:=hms x hx;exact C8l hq
 rw[F6d,Ex.v_w];dsimp only[Ex.w];have ih:∀x∈e.args, ∀(s:Int × Int) (H:Hp) (cc t:Nat) (ht:H t=some (ckB r s)) (htc:t<cc),AC Tryz.prog 83 [.ptr t 0,x.v] H cc (λv H' c'=>v=.tup []/\H'=H.upd t (ckB r (upS s (erE r x)))):=λx hx=>ih x (by have:=hargs x hx;omega) (by have:=hargs x hx;omega) (hms x hx);have hk1:=c_inE32 e.kind;have hden:=λ(s:Int × Int) (H:Hp) (cc t:Nat) (ht:H t=some (ckB r s)) (htc:t<cc)=>c_den32 r hk s H cc t ht htc e.name (kdE e.kind) e.pos;generalize ek:e.kind=k at *;generalize e.value=v at *;generalize e.name=n at *;generalize e.args=a at *;generalize e.pos=p at *;refine AC.go A3 λhfr=>?_;refine wAp ?_;obtain⟨G,hG⟩:∃G,G=H.upd cc ⟨0,true,[I64 k,I64 v,.str n,L9 a,I64 p]⟩:=⟨_,rfl⟩;have hGc:∀b,(G.upd t b) cc=some ⟨0,true,[I64 k,I64 v,.str n,L9 a,I64 p]⟩:=λb=>by rw[hnO,hG,A0]
 have hGn:∀j,cc+1<=j->G j=none:=λj hj=>zad
 have hGt:G=G.upd t (ckB r s):=by rw[upd_same];rw[hG,hnO];exact ht
 rw[<- hG,hGt];refine A9 (λi:Nat=>[(0,.ptr t 0),(3,.ptr cc 0),(10,L9 a),(11,I64 a.length),(12,I64 i)]) (λi=>G.upd t (ckB r (upS s (Z2 r (a.take i))))) (λi c=>cc+1<=c/\i<=a.length) (λi=>a.length-i) 0 (by simp[B5,tm,Tm.upd]) (by rw[A1J,Z2,P4];exact Sub.refl _) ⟨a8,A0Q _⟩ ?_;rintro i c ⟨h1c,hki⟩;by_cases hlt:i<a.length
 ·have hd:=dtz hlt;have hg:=A0B hlt;have hw:=w64 (n:=(i:Int)+1);have hc:=ih _ (A0O hlt);have het:=B7c (r:=r) hg;generalize a[i]=x at hg hc het;rw[Ex.v_w]at hc;have ne0:=A1z t c (by omega);refine wA4 hd hg hw @Ex.v_w ne0 @A0 @A1 hGc ?_;refine AC.call (hc (upS s (Z2 r (a.take i))) _ _ t (by rw[hnO,A0]) (by omega)) ?_;rintro v' H' c' ⟨rfl,rfl⟩ hcc;refine wAu hw ?_;refine⟨i+1,by simp,?_,inv ⟨a8,by omega⟩,by omega⟩;rw[P3 (C0z _ _), <- het];exact B2l (λj hj=>hGn j (by omega)) (by omega)
 have hd:=dfz hlt;rw[A0J (by omega)];refine wA8 hk1 (wJ hd hGc) ?_;refine⟨by and_intros<;>(rw[hnO];exact hGn _ (by omega)),?_⟩;refine AC.call (hden (upS s (Z2 r a)) _ _ t A0 (by omega)) ?_;rintro v' H' c' ⟨rfl,rfl⟩ hcc;rw[A1,P3 (C0z _ _)];obtain⟨s1,hs1⟩:∃s1,s1=upS s ((Z2 r a).or (dnE r n (kdE k) p)):=⟨_,rfl⟩;have nz1:NzE ((Z2 r a).or (dnE r n (kdE k) p)):=(C0z _ _).or (B6j _ _ _ _);rw[<- hs1, <- P3 nz1, <- hs1];clear hs1;have kL:∀c2:Nat,c+9<=c2->IW Tryz.prog 61 (.loop (pz Tryz.prog 83 (.i (.o (.i (.o (.i .h))))))) ⟨tm [(0,.ptr t 0),(3,.ptr cc 0),(6,I64 (A4a k a)),(45,L9 a),(46,I64 a.length),(47,I64 0)],G.upd t (ckB r s1),c2⟩ (bk 3 (rt [] λv H' c' => ∃v2 H2,GL H' [v] H2 [v2]/\v2=.tup []/\H2=H.upd t (ckB r (upS s1 (if(a.all λx=>A0a x.kind==A4a k a)=true then none else some (p,49)))))):=by
  intro c2 hc2;generalize A4a k a=wnt;refine A9 (λi:Nat=>[(0,.ptr t 0),(3,.ptr cc 0),(6,I64 wnt),(45,L9 a),(46,I64 a.length),(47,I64 i)]) (λi=>G.upd t (ckB r (upS s1 (if((a.take i).all λx=>A0a x.kind==wnt)=true then none else some (p,49))))) (λi c=>cc+1<=c/\i<=a.length) (λi=>a.length-i) 0 (by simp[B5,tm,Tm.upd]) (by rw[A1J,List.all_nil,if_pos rfl,P4];exact Sub.refl _) ⟨a8,A0Q _⟩ ?_;rintro i c3 ⟨h3c,hki3⟩;by_cases hlt3:i<a.length
  ·have hd3:=dtz hlt3;have hg3:=A0B hlt3;have hw3:=w64 (n:=(i:Int)+1);have hat:=A6t (λx:Ex=>A0a x.kind==wnt) a i _ hg3;have hty:=c_typ32 _ (hknd _ (A0O hlt3));generalize a[i]=x at hg3 hat hty;obtain⟨o,ho⟩:∃o:Er,o=if((a.take i).all λx=>A0a x.kind==wnt)=true then none else some (p,49):=⟨_,rfl⟩
   rw[<- ho];have ne0:=W9 t c3 cc (by omega);by_cases hx:A0a x.kind=wnt
   ·have hxn:(A0a x.kind != wnt)=false:=by simp[hx]
    refine wA8 hty (wJ hd3 (wJ hg3 (wJ hw3 (wJ @Ex.v_w (wJ ne0 (wJ @A0 (wJ @A1 (wJ hGc hxn)))))))) ?_;refine⟨i+1,by simp,?_,inv ⟨a8,by omega⟩,by omega⟩;rw[hat,show(A0a x.kind==wnt)=true by simpa using hx,A3I, <- ho];exact C7a (λj hj=>hGn j (by omega)) (by omega)
   ·have hxn:(A0a x.kind != wnt)=true:=by simp[hx]
    refine wA8 hty (wJ hd3 (wJ hg3 (wJ hw3 (wJ @Ex.v_w (wJ ne0 (wJ @A0 (wJ @A1 (wJ hGc hxn)))))))) ?_;refine AC.call (c_fail32 r (upS s1 o) _ _ t (by rw[hnO,A0]) (by omega) p 49) ?_;rintro v' H' c4 ⟨rfl,rfl⟩ hcc4;refine wAu hw3 ?_;refine⟨i+1,by simp,?_,inv ⟨a8,by omega⟩,by omega⟩;have eo:upS (upS s1 o) (some (p,49))=upS s1 (some (p,49)):=by
     rw[ho];split
     ·rw[P4]
     ·exact D3h s1 p 49 (by decide)
    rw[hat,show(A0a x.kind==wnt)=false by simpa using hx,A3W,if_neg (by decide),eo];exact B2l (λj hj=>hGn j (by omega)) (by omega)
  have hd3:=dfz hlt3;rw[A0J (by omega)];refine wAs hd3 ?_;refine⟨_,_,?_,rfl,rfl⟩;rw[hG];exact B8u hfr htc
 simp only[go_sem,seval];by_cases ka:k=11\/k=23\/k=24
 ·have ew:A4a k a=2:=by unfold A4a;rw[if_pos ka]
  rw[ew]at kL ⊢;rcases ka with rfl|rfl|rfl
  all_goals(refine wAs hGc ?_)
  all_goals exact kL _ hcc
 have ka1:(k==11)=false:=b9
 have ka2:(k==23)=false:=b9
 have ka3:(k==24)=false:=b9
 by_cases kb:k=21\/k=22
 ·have hl2:=h22 kb;obtain⟨x0,l0,ha⟩:∃x l,a=x::l:=by
   cases a with
   |nil=>simp at hl2
   |cons x l=>exact⟨x,l,rfl⟩
  have ew:A4a k a=A0a x0.kind:=by rw[ha];unfold A4a;rw[if_neg ka,if_pos kb]
  have hg0:a[0]? = some x0:=by rw[ha];rfl
  have hty:=c_typ32 _ (hknd x0 (by rw[ha];exact A0H));rw[ew]at kL ⊢;rcases kb with rfl|rfl
  all_goals(refine wA8 hty (wJ hGc (wJ ka1 (wJ ka2 (wJ ka3 (wJ hg0 @Ex.v_w))))) ?_)
  all_goals exact kL _ hcc
 have ew:A4a k a=1:=by unfold A4a;rw[if_neg ka,if_neg kb]
 rw[ew]at kL ⊢;have kb1:(k==21)=false:=b9
 have kb2:(k==22)=false:=b9
 refine wA1 hGc ka1 ka2 ka3 kb1 kb2 ?_;exact kL _ hcc
theorem B7s{H:Hp}{i j:Nat}{a b:Blk}(h:i≠j):(H.upd i a).upd j b=(H.upd j b).upd i a:=by
 funext k
 by_cases e:k=j
 ·subst e;rw[A0,h_ne (Ne.symm h),A0]
 ·rw[h_ne e];by_cases e2:k=i
  ·subst e2;rw[A0,A0]
  ·rw[h_ne e2,h_ne e2,h_ne e]
theorem B8b{H:Hp}{t c:Nat}{b1 b:Blk}(hG:∀j,c<=j->H j=none)(htc:t<c):Sym.Sub (H.upd t b) ((H.upd c b1).upd t b):=by
 rw[<- B7s (Nat.ne_of_lt htc)];exact C7a hG htc
theorem D3m(k:Int)(b:Bool):A0a k=(if b=true then 2 else 1)↔(A0a k==2)=b:=by
 unfold A0a;cases b<;>cases E3r k<;>simp
theorem c_blk32(r:Ru)(hk:A1e r.decls):∀(m:Nat) (l:List Pb.St) (d:Nat),Pb.St.szs l<m->Pb.St.szs l<=100000000->I8 d l=true->∀(s:Int × Int) (H:Hp) (cc t:Nat) (ht:H t=some (ckB r s)) (htc:t<cc),
  AC Tryz.prog 44 [.ptr t 0,G7 l] H cc (λv H' c'=>v=.tup []/\H'=H.upd t (ckB r (upS s (erB r l)))):=by
 intro m
 induction m with
 |zero=>intro l d h;omega
 |succ m ih =>
 intro l d hm hB hv s H cc t ht htc;have hl:=Pb.St.szs_len l;refine AC.go A3 λhfr=>?_;refine wAp ?_;have hHt:H=H.upd t (ckB r s):=(upd_same ht).symm;refine A9 (λi:Nat=>[(0,.ptr t 0),(9,G7 l),(10,I64 l.length),(11,I64 i)]) (λi=>H.upd t (ckB r (upS s (erB r (l.take i))))) (λi c=>cc<=c/\i<=l.length) (λi=>l.length-i) 0 (by simp[B5,tm,Tm.upd]) (by rw[A1J,erB,P4, <- hHt];exact Sub.refl _) ⟨a8,A0Q _⟩ ?_;rintro i c ⟨h1c,hki⟩;by_cases hlt:i<l.length
 ·have hd:=dtz hlt;have hg:=A0B hlt;have hw:=w64 (n:=(i:Int)+1);have hsx:=Pb.St.szs_mem (A0O hlt);obtain⟨v1,v2,v3⟩:=C3p (B5z hv _ (A0O hlt));have het:=C2m (r:=r) hg;rw[F6c]at het;generalize l[i]=x at hg hsx v1 v2 v3 het;have hsa:Ex.szs x.args<x.sz:=by cases x with|mk k n t a x y p=>rw[Pb.St.sz];show Ex.szs a<_;omega
  have hal:=Ex.szs_len x.args;have hX:=ih x.thn (d+1) (by have:=x.sz_thn;omega) (by have:=x.sz_thn;omega) v2;have hY:=ih x.els (d+1) (by have:=x.sz_els;omega) (by have:=x.sz_els;omega) v3;have hk1:=c_inS32 x.kind;obtain⟨s0,hs0⟩:∃s0,s0=upS s (erB r (l.take i)):=⟨_,rfl⟩;have hfin:upS s (erB r (l.take (i+1)))=upS s0 ((((dnE r x.name (kdS x.kind) x.pos).or (erA r (x.kind==2) x.args)).or (erB r x.thn)).or (erB r x.els)):=by rw[het, <- P3 (D0w _ _), <- hs0]
  rw[<- hs0];have ne0:=A1z t c (by omega);refine wA8 hk1 (wJ hd (wJ hg (wJ hw (wJ @Pb.St.v_w (wJ ne0 (wJ @A0 @A1)))))) ?_;obtain⟨G,hG⟩:∃G,G=H.upd c ⟨0,true,[I64 x.kind,.str x.name,.str x.text,L9 x.args,G7 x.thn,G7 x.els,I64 x.pos]⟩:=⟨_,rfl⟩;have hGc:∀b,(G.upd t b) c=some ⟨0,true,[I64 x.kind,.str x.name,.str x.text,L9 x.args,G7 x.thn,G7 x.els,I64 x.pos]⟩:=λb=>by rw[hnO,hG,A0]
  have hGn:∀j,c+1<=j->G j=none:=λj hj=>zad
  rw[B7s (by omega), <- hG];refine⟨by and_intros<;>(rw[hnO];exact hGn _ (by omega)),?_⟩;refine AC.call (c_den32 r hk s0 _ _ t A0 (by omega) x.name (kdS x.kind) x.pos) ?_;rintro v' H' c2 ⟨rfl,rfl⟩ hc2;rw[A1];obtain⟨s1,hs1⟩:∃s1,s1=upS s0 (dnE r x.name (kdS x.kind) x.pos):=⟨_,rfl⟩;rw[A2T,A2T, <- P3 (B6j _ _ _ _), <- hs1]at hfin;rw[<- hs1];have kL:∀c3:Nat,c+1<=c3->IW Tryz.prog 56 (.loop (pz Tryz.prog 44 (.o (.i (.i (.i .h)))))) ⟨tm [(0,.ptr t 0),(5,.ptr c 0),(6,I64 (if(x.kind==2)=true then 2 else 1)),(9,G7 l),(10,I64 l.length),(11,I64 i),(28,L9 x.args),(29,I64 x.args.length),(30,I64 0)],G.upd t (ckB r s1),c3⟩ (bk 2 (sq Tryz.prog 56 (pz Tryz.prog 44 (.o (.o (.o (.o (.i .h)))))) (bk 1 (sq Tryz.prog 56 (pz Tryz.prog 44 (.i (.i (.o (.o (.i .h))))))
    (lp (λi:Nat=>[(0,DV.ptr t 0),(9,G7 l),(10,I64 l.length),(11,I64 i)]) (λi:Nat=>H.upd t (ckB r (upS s (erB r (l.take i))))) (λ(i c:Nat)=>cc<=c/\i<=l.length) (λi:Nat=>l.length-i) (l.length-i) (bk 0 (rt [] λv H' c' => ∃v2 H2,GL H' [v] H2 [v2]/\v2=DV.tup []/\H2=H.upd t (ckB r (upS s (erB r l)))))))))):=by
   intro c3 hc3;obtain⟨wnt,hwnt⟩:∃wnt:Int,wnt=if(x.kind==2)=true then 2 else 1:=⟨_,rfl⟩
   rw[<- hwnt];refine A9 (λj:Nat=>[(0,.ptr t 0),(5,.ptr c 0),(6,I64 wnt),(9,G7 l),(10,I64 l.length),(11,I64 i),(28,L9 x.args),(29,I64 x.args.length),(30,I64 j)]) (λj=>G.upd t (ckB r (upS s1 (erA r (x.kind==2) (x.args.take j))))) (λj c4=>c+1<=c4/\j<=x.args.length) (λj=>x.args.length-j) 0 (by simp[B5,tm,Tm.upd]) (by rw[A1J,erA,P4];exact Sub.refl _) ⟨a8,A0Q _⟩ ?_;rintro j c4 ⟨h4c,hkj⟩;by_cases hlt2:j<x.args.length
   ·have hd2:=dtz hlt2;have hg2:=A0B hlt2;have hw2:=w64 (n:=(j:Int)+1);have hxs:=Ex.szs_mem (A0O hlt2);have hmy:=v1 _ (A0O hlt2);have heA:=C2n (r:=r) (b:=x.kind==2) hg2;generalize x.args[j]=y at hg2 hxs hmy heA;have hex:=c_exp32 r hk _ y (A1Q _) (by omega) hmy;obtain⟨qy,hqy⟩:=hmy;have hty:=c_typ32 _ (C8l hqy);rw[Ex.v_w]at hex;obtain⟨o,ho⟩:∃o,o=erA r (x.kind==2) (x.args.take j):=⟨_,rfl⟩;have hno:NzE o:=by rw[ho];exact D5z _ _ _
    have htw:=D3m y.kind (x.kind==2);rw[<- hwnt]at htw;rw[<- ho];rw[<- ho, <- A2T]at heA;have ne0:=W9 t c c4 (by omega);refine wA4 hd2 hg2 hw2 @Ex.v_w ne0 @A0 @A1 hGc ?_;refine AC.call (hex (upS s1 o) _ _ t (by rw[hnO,A0]) (by omega)) ?_;rintro v' H' c5 ⟨rfl,rfl⟩ hc5;rw[P3 hno];simp only[go_sem,seval,hw2,A1];by_cases hx:A0a y.kind=wnt
    ·have hxn:(A0a y.kind != wnt)=false:=by simp[hx]
     refine wA8 hty (wJ hw2 (wJ ne0 (wJ @A0 (wJ @A1 hxn)))) ?_;refine⟨j+1,by simp,?_,inv ⟨a8,by omega⟩,by omega⟩;rw[heA,if_pos (htw.1 hx),A4E];exact B2l (λj hj=>hGn j (by omega)) (by omega)
    ·have hxn:(A0a y.kind != wnt)=true:=by simp[hx]
     refine wA8 hty (wJ hw2 (wJ ne0 (wJ @A0 (wJ @A1 hxn)))) ?_;refine AC.call (c_fail32 r (upS s1 (o.or (erE r y))) _ _ t A0 (by omega) y.pos 49) ?_;rintro v' H' c6 ⟨rfl,rfl⟩ hc6;simp only[go_sem,seval,hw2,A1];refine wAs hw2 ?_;refine⟨j+1,by simp,?_,inv ⟨a8,by omega⟩,by omega⟩;rw[P3 (hno.or (E8w _ _)),heA,if_neg (λh=>hx (htw.2 h))];exact B2l (λj hj=>hGn j (by omega)) (by omega)
   have hd2:=dfz hlt2;rw[A0J (by omega)];refine wAs (wJ hd2 hGc) ?_;refine AC.call (hX (upS s1 (erA r (x.kind==2) x.args)) _ _ t A0 (by omega)) ?_;rintro v' H' c5 ⟨rfl,rfl⟩ hc5;rw[A1,P3 (D5z _ _ _)];refine wAu hGc ?_;refine AC.call (hY (upS s1 ((erA r (x.kind==2) x.args).or (erB r x.thn))) _ _ t A0 (by omega)) ?_;rintro v' H' c6 ⟨rfl,rfl⟩ hc6;rw[A1,P3 ((D5z _ _ _).or (D0w _ _))];refine wAu hw ?_;refine⟨i+1,by simp,?_,inv ⟨a8,by omega⟩,by omega⟩;rw[hfin,A2T,hG];exact B8b (λj hj=>hfr j (by omega)) (by omega)
  simp only[go_sem,seval];cases hb2:(x.kind==2) with
  |true =>
   rw[hb2]at kL;refine wAw hGc hw hb2 ?_;exact kL _ (by omega)
  |false =>
   rw[hb2]at kL;refine wAw hGc hw hb2 ?_;exact kL _ (by omega)
 have hd:=dfz hlt;rw[A0J (by omega)];refine wAs hd ?_;exact⟨_,_,GL.refl _ _,rfl,rfl⟩
abbrev D0n(l:List (List UInt8)):Blk:=⟨0,true,[.mpc .s (mkK (A3p l)) (mvV (A3p l))]⟩
theorem c_head1(r:Ru)(s:Int × Int)(l:List (List UInt8))(nm:List UInt8)(p val most:Int)(H:Hp)(cc t a b mm:Nat)(ht:H t=some (ckB r s))(ha:H a=some ⟨0,true,[.ptr t 0]⟩)(hb:H b=some ⟨0,true,[.mid mm]⟩)(hm:H mm=some (D0n l))
  (htc:t<cc) (hac:a<cc) (hbc:b<cc) (hmc:mm<cc) (hta:t≠a) (htb:t≠b) (htm:t≠mm) (hbm:b≠mm) (ham:a≠mm) (hab:a≠b) :
  AC Tryz.prog 79 [.str nm,I64 p,I64 val,I64 most,.ptr a 0,.ptr b 0] H cc (λv H' c'=>v=.tup []/\H'=(H.upd t (ckB r (upS s ((if val>most then some (p,5) else none:Er).or (if l.contains nm=true then some (p,7) else none))))).upd mm (D0n (B3l l nm))):=by
 refine AC.go A3 λhfr=>?_;have hlk:=E7i nm l;have hmu:=λH c id u=>E7h nm l H c id u;obtain⟨o1,ho1⟩:∃o1:Er,o1=if val>most then some (p,5) else none:=⟨_,rfl⟩
 have n1:NzE o1:=by rw[ho1];exact B8j (by decide)
 rw[<- ho1];have hkB:∀c0,cc<=c0->IW Tryz.prog 24 (pz Tryz.prog 79 (.i (.i .h))) ⟨tm [(0,.str nm),(1,I64 p),(4,.ptr a 0),(5,.ptr b 0)],H.upd t (ckB r (upS s o1)),c0⟩ (rt [] λv H' c' => ∃v2 H2,GL H' [v] H2 [v2]/\v2=.tup []/\H2=(H.upd t (ckB r (upS s (o1.or (if l.contains nm=true then some (p,7) else none))))).upd mm (D0n (B3l l nm))):=by
  intro c0 hc0;have ne0:=V8 t a b mm (by omega);cases hc:l.contains nm with
  |false =>
   rw[hc]at hlk;rw[if_neg (by decide),A4E];refine wA4 ha hb hm hlk hmu ne0 @A0 @A1 ?_;exact⟨_,_,GL.refl _ _,rfl,rfl⟩
  |true =>
   rw[hc]at hlk;rw[if_pos rfl];refine wA4 ha hb hm hlk hmu ne0 @A0 @A1 ?_;refine AC.call (c_fail32 r (upS s o1) _ _ t A0 (by omega) p 7) ?_;rintro v' H' c2 ⟨rfl,rfl⟩ hc2;rw[A1,P3 n1];refine wAu (wJ ha (wJ hb (wJ hm (wJ hlk (wJ hmu (wJ ne0 (wJ @A0 @A1))))))) ?_;exact⟨_,_,GL.refl _ _,rfl,rfl⟩
 have ne0:=V8 t a b mm (by omega);by_cases hv:val>most
 ·have qv:decide (val>most)=true:=by simpa using hv
  rw[if_pos hv]at ho1;rw[ho1]at hkB ⊢;refine wA3 ha hb hm qv ne0 @A0 @A1 ?_;refine AC.call (c_fail32 r s _ _ t ht (by omega) p 5) ?_;rintro v' H' c2 ⟨rfl,rfl⟩ hc2;simp only[go_sem,seval];(repeat'((with_reducible first|refine O8 (p:=IW _ _ (pz Tryz.prog 79 (.i (.i .h))) _ _) ?_|refine wr ?_|refine k_cu ?_ ?_|apply wb2<;>(intro hb;try simp only[hb]))<;>try simp only[go_sem,seval]));exact IW.stage (by simp[B5,tm,Tm.upd]) (hkB _ hc2)
 ·have qv:decide (val>most)=false:=by simpa using hv
  rw[if_neg hv]at ho1;rw[ho1,P4,upd_same ht]at hkB;rw[ho1];(repeat'((with_reducible first|refine O8 (p:=IW _ _ (pz Tryz.prog 79 (.i (.i .h))) _ _) ?_|refine wr ?_|refine k_cu ?_ ?_|apply wb2<;>(intro hb;try simp only[hb]))<;>try simp only[go_sem,seval,ha,hb,hm,qv,ne0,A0,A1]));exact IW.stage (by simp[B5,tm,Tm.upd]) (hkB _ (A0E _))
def hdH(H:Hp)(r:Ru)(t cc:Nat)(s:Int × Int)(l:List (List UInt8)):Hp:=((((H.upd t (ckB r s)).upd cc ⟨0,true,[.ptr t 0]⟩).upd (cc+1) ⟨0,true,[D7 r.decls,F6 r.modes]⟩).upd (cc+2) (D0n l)).upd (cc+3) ⟨0,true,[.mid (cc+2)]⟩
theorem C9d{H:Hp}{r:Ru}{t cc:Nat}{s:Int × Int}{l:List (List UInt8)}(htc:t<cc):hdH H r t cc s l t=some (ckB r s):=by
 unfold hdH;rw[hnO,hnO,hnO,hnO,A0]
theorem D7i{H:Hp}{r:Ru}{t cc:Nat}{s:Int × Int}{l:List (List UInt8)}:hdH H r t cc s l cc=some ⟨0,true,[.ptr t 0]⟩:=by
 unfold hdH;rw[hnO,hnO,hnO,A0]
theorem C9f{H:Hp}{r:Ru}{t cc:Nat}{s:Int × Int}{l:List (List UInt8)}:hdH H r t cc s l (cc+1)=some ⟨0,true,[D7 r.decls,F6 r.modes]⟩:=by
 unfold hdH;rw[hnO,hnO,A0]
theorem D7h{H:Hp}{r:Ru}{t cc:Nat}{s:Int × Int}{l:List (List UInt8)}:hdH H r t cc s l (cc+2)=some (D0n l):=by
 unfold hdH;rw[hnO,A0]
theorem D7g{H:Hp}{r:Ru}{t cc:Nat}{s:Int × Int}{l:List (List UInt8)}:hdH H r t cc s l (cc+3)=some ⟨0,true,[.mid (cc+2)]⟩:=by
 unfold hdH;rw[A0]
theorem D7f{H:Hp}{r:Ru}{t cc:Nat}{s:Int × Int}{l:List (List UInt8)}(htc:t<cc)(hfr:∀i,cc<=i->H i=none)(j:Nat)(hj:cc+4<=j):hdH H r t cc s l j=none:=by
 unfold hdH;rw[hnO,hnO,hnO,hnO,hnO];exact hfr j (by omega)
theorem C9e{H:Hp}{r:Ru}{t cc:Nat}{s:Int × Int}{l:List (List UInt8)}(j:Nat)(hj:j<cc)(hjt:j≠t):hdH H r t cc s l j=H j:=by
 unfold hdH;rw[hnO,hnO,hnO,hnO,h_ne hjt]
theorem C5k{H X:Hp}{r:Ru}{t cc:Nat}{s:Int × Int}{l:List (List UInt8)}(htc:t<cc)(hfr:∀i,cc<=i->H i=none)(ht:X t=some (ckB r s))(h0:X cc=some ⟨0,true,[.ptr t 0]⟩)(h1:X (cc+1)=some ⟨0,true,[D7 r.decls,F6 r.modes]⟩)(h2:X (cc+2)=some (D0n l))(h3:X (cc+3)=some ⟨0,true,[.mid (cc+2)]⟩)
  (ho:∀j,j<cc->j≠t->X j=H j):Sym.Sub (hdH H r t cc s l) X:=by
 intro j b hj;by_cases hlt:j<cc
 ·by_cases hjt:j=t
  ·subst hjt;rw[C9d htc]at hj;rw[ht];exact hj
  ·rw[C9e j hlt hjt]at hj;rw[ho j hlt hjt];exact hj
 ·have h4:j<cc+4:=A2I λh=>by rw[D7f htc hfr j h]at hj;cases hj
  have:j=cc\/j=cc+1\/j=cc+2\/j=cc+3:=a8
  rcases this with rfl|rfl|rfl|rfl
  ·rw[D7i]at hj;rw[h0];exact hj
  ·rw[C9f]at hj;rw[h1];exact hj
  ·rw[D7h]at hj;rw[h2];exact hj
  ·rw[D7g]at hj;rw[h3];exact hj
theorem c_heads32(r:Ru)(hk:A1e r.decls)(s:Int × Int)(H:Hp)(cc t:Nat)(ht:H t=some (ckB r s))(htc:t<cc)(h1:r.decls.length<=1000000000)(h2:r.modes.length<=1000000000):
  AC Tryz.prog 38 [.ptr t 0,r.v] H cc (λv H' c'=>v=.tup []/\H'=H.upd t (ckB r (upS s (B8s r)))):=by
 have hrv:r.v=.agg [D7 r.decls,F6 r.modes]:=rfl;rw[hrv];have hkt:∀i,A1e (r.decls.take i):=λi d hd=>hk d (A3U hd);refine AC.go A3 λhfr=>?_;have ne0:=A1y t cc (cc+1) (cc+1+1) (cc+1+1+1) (by omega);refine wAy @B5g ne0 @A0 @A1 ?_;refine A9 (λq:Nat × List (List UInt8)=>[(3,.ptr (cc+1) 0),(5,.func 79 [] [.ptr cc 0,.ptr (cc+1+1+1) 0]),(13,D7 r.decls),(14,I64 r.decls.length),(15,I64 q.1)]) (λq=>hdH H r t cc (upS s (erD [] (r.decls.take q.1))) q.2)
  (λq c=>cc+4<=c/\q.1<=r.decls.length/\∀n,q.2.contains n=(r.decls.take q.1).any (λd=>d.name==n)) (λq=>r.decls.length-q.1) (0,[]) (by simp[B5,tm,Tm.upd])
  (by
   dsimp only;rw[A1J,erD,P4];refine C5k htc hfr ?_ ?_ ?_ ?_ A0 ?_
   ·repeat rw[hnO]
    exact ht
   ·repeat rw[hnO]
    exact A0
   ·repeat rw[hnO]
    exact A0
   ·rw[hnO];exact A0
   ·intro j hj hjt
    repeat rw[hnO]) ⟨a8,A0Q _,λn=>rfl⟩ ?_
 rintro⟨i,l⟩ c ⟨h1c,hki,hsn⟩;dsimp only at hki hsn ⊢;by_cases hlt:i<r.decls.length
 ·have hd:=dtz hlt;have hg:=A0B hlt;have hw:=w64 (n:=(i:Int)+1);have het:=D8g hg;have hnx:=λn=>B7m (λd:Dc=>d.name==n) r.decls i _ hg;have hlo:=λn=>B2v (r.decls.take i) [] n (hkt i);generalize r.decls[i]=d at hg het hnx;have hmo:=c_most32 d.kind;obtain⟨o,ho⟩:∃o,o=erD [] (r.decls.take i):=⟨_,rfl⟩;have hno:NzE o:=by rw[ho];exact D5y _ _
  rw[<- ho]at het ⊢;have hb0:hdH H r t cc (upS s o) l cc=_:=D7i;have hb1:hdH H r t cc (upS s o) l (cc+1)=_:=C9f;have hb2:hdH H r t cc (upS s o) l (cc+2)=_:=D7h;have hb3:hdH H r t cc (upS s o) l (cc+1+1+1)=_:=D7g;have hbt:hdH H r t cc (upS s o) l t=_:=C9d htc;have hbn:=D7f (s:=upS s o) (l:=l) (r:=r) htc hfr;have hbo:=C9e (H:=H) (cc:=cc) (t:=t) (s:=upS s o) (l:=l) (r:=r);generalize hdH H r t cc (upS s o) l=HH at hb0 hb1 hb2 hb3 hbt hbn hbo ⊢;have ne0:=V8 c t cc (cc+1) (by omega);refine wBa hmo hd hg @B1a hb0 hb1 hb2 hb3 hbt ne0 @A0 @A1 ?_;refine⟨by and_intros<;>(rw[hnO];exact hbn _ (by omega)),?_⟩;refine AC.call (c_head1 r (upS s o) l d.name d.pos d.value (B4c d.kind) _ _ t cc (cc+1+1+1) (cc+2) (by rw[hnO];exact hbt) (by rw[hnO];exact hb0) (by rw[hnO];exact hb3) (by rw[hnO];exact hb2) (by omega) (by omega) (by omega) (by omega) (by omega) (by omega) (by omega) (by omega) (by omega) (by omega)) ?_;rintro v' H' c2 ⟨rfl,rfl⟩ hc2;have est:((if d.value>B4c d.kind then some (d.pos,5) else none:Er).or (if l.contains d.name=true then some (d.pos,7) else none))=stD (r.decls.take i) d:=by
   unfold stD
   congr 1
   rw[hsn];have:=hlo d.name;cases ha:(r.decls.take i).any (λx=>x.name==d.name) with
   |true=>rw[ha]at this;rw[if_pos rfl,if_neg (λh=>by simpa using (this.1 h).1)]
   |false=>rw[ha]at this;rw[if_neg (by decide),if_pos (this.2 ⟨rfl,rfl⟩)]
  rw[est,P3 hno, <- het];refine wAu hw ?_;refine⟨(i+1,B3l l d.name),i6,?_,inv ⟨a8,a8,λn=>?_⟩,by simp only;omega⟩
  ·refine C5k htc hfr ?_ ?_ ?_ A0 ?_ ?_
   ·rw[hnO,A0]
   ·repeat rw[hnO]
    exact hb0
   ·repeat rw[hnO]
    exact hb1
   ·repeat rw[hnO]
    exact hb3
   ·intro j hj hjt;rw[hnO,h_ne hjt,hnO];exact hbo j hj hjt
  ·simp only;rw[C0i,hsn,hnx]
   congr 1
   rw[A2G];simp;exact eq_comm
 have hd:=dfz hlt;rw[A0J (by omega)]at hsn ⊢;have hb1:hdH H r t cc (upS s (erD [] r.decls)) l (cc+1)=_:=C9f;refine wAs (wJ hd hb1) ?_;clear hd hlt hki i hb1;have hrp:B8s r=(erD [] r.decls).or (erP r.decls [] r.modes):=rfl;rw[hrp, <- P3 (D5y _ _)];obtain⟨s1,hs1⟩:∃s1,s1=upS s (erD [] r.decls):=⟨_,rfl⟩;rw[<- hs1];refine A9 (λq:Nat × List (List UInt8)=>[(5,.func 79 [] [.ptr cc 0,.ptr (cc+1+1+1) 0]),(32,F6 r.modes),(33,I64 r.modes.length),(34,I64 q.1)]) (λq=>hdH H r t cc (upS s1 (erP r.decls [] (r.modes.take q.1))) q.2)
  (λq c=>cc+4<=c/\q.1<=r.modes.length/\∀n,q.2.contains n=(r.decls.any (λd=>d.name==n)||(r.modes.take q.1).any (λd=>d.name==n))) (λq=>r.modes.length-q.1) (0,l) (by simp[B5,tm,Tm.upd])
  (by
   dsimp only;rw[A1J,erP,P4];exact Sub.refl _) ⟨h1c,A0Q _,λn=>by rw[hsn];simp⟩ ?_
 clear hsn h1c c l hs1;rintro⟨i,l⟩ c ⟨h1c,hki,hsn⟩;dsimp only at hki hsn ⊢;by_cases hlt:i<r.modes.length
 ·have hd:=dtz hlt;have hg:=A0B hlt;have hw:=w64 (n:=(i:Int)+1);have het:=D8d (D:=r.decls) hg;have hnx:=λn=>B7m (λd:Md=>d.name==n) r.modes i _ hg;have hlo:=λn=>B2v r.decls (r.modes.take i) n hk;generalize r.modes[i]=d at hg het hnx;obtain⟨o,ho⟩:∃o,o=erP r.decls [] (r.modes.take i):=⟨_,rfl⟩;have hno:NzE o:=by rw[ho];exact E1c _ _ _
  rw[<- ho]at het ⊢;have hb0:hdH H r t cc (upS s1 o) l cc=_:=D7i;have hb1:hdH H r t cc (upS s1 o) l (cc+1)=_:=C9f;have hb2:hdH H r t cc (upS s1 o) l (cc+2)=_:=D7h;have hb3:hdH H r t cc (upS s1 o) l (cc+1+1+1)=_:=D7g;have hbt:hdH H r t cc (upS s1 o) l t=_:=C9d htc;have hbn:=D7f (s:=upS s1 o) (l:=l) (r:=r) htc hfr;have hbo:=C9e (H:=H) (cc:=cc) (t:=t) (s:=upS s1 o) (l:=l) (r:=r);generalize hdH H r t cc (upS s1 o) l=HH at hb0 hb1 hb2 hb3 hbt hbn hbo ⊢;have ne0:=V8 c t cc (cc+1) (by omega);refine wAs (wJ hd (wJ hg (wJ @C5a (wJ hb0 (wJ hb1 (wJ hb2 (wJ hb3 (wJ hbt (wJ ne0 (wJ @A0 @A1)))))))))) ?_;refine AC.call (c_head1 r (upS s1 o) l d.name d.pos d.prio 99 _ _ t cc (cc+1+1+1) (cc+2) (by rw[hnO];exact hbt) (by rw[hnO];exact hb0) (by rw[hnO];exact hb3) (by rw[hnO];exact hb2) (by omega) (by omega) (by omega) (by omega) (by omega) (by omega) (by omega) (by omega) (by omega) (by omega)) ?_;rintro v' H' c2 ⟨rfl,rfl⟩ hc2;have est:((if d.prio>99 then some (d.pos,5) else none:Er).or (if l.contains d.name=true then some (d.pos,7) else none))=stP r.decls (r.modes.take i) d:=by
   unfold stP
   congr 1
   rw[hsn];have:=hlo d.name;cases ha:r.decls.any (λx=>x.name==d.name) with
   |true=>rw[ha]at this;rw[Bool.true_or,if_pos rfl,if_neg (λh=>by simpa using (this.1 h).1)]
   |false =>
    rw[ha]at this;cases ha2:(r.modes.take i).any (λx=>x.name==d.name) with
    |true=>rw[ha2]at this;rw[Bool.false_or,if_pos rfl,if_neg (λh=>by simpa using (this.1 h).2)]
    |false=>rw[ha2]at this;rw[Bool.false_or,if_neg (by decide),if_pos (this.2 ⟨rfl,rfl⟩)]
  rw[est,P3 hno, <- het];refine wAu hw ?_;refine⟨(i+1,B3l l d.name),i6,?_,inv ⟨a8,a8,λn=>?_⟩,by simp only;omega⟩
  ·refine C5k htc hfr ?_ ?_ ?_ A0 ?_ ?_
   ·rw[hnO,A0]
   ·repeat rw[hnO]
    exact hb0
   ·repeat rw[hnO]
    exact hb1
   ·repeat rw[hnO]
    exact hb3
   ·intro j hj hjt;rw[hnO,h_ne hjt,hnO];exact hbo j hj hjt
  ·simp only;rw[C0i,hsn,hnx,Bool.or_assoc]
   congr 2
   rw[A2G];simp;exact eq_comm
 have hd:=dfz hlt;rw[A0J (by omega)];refine wAs hd ?_;refine⟨_,_,GL.less' (λj b hj=>?_),rfl,rfl⟩;by_cases e:j=t
 ·subst e;rw[A0]at hj;rw[C9d htc];exact hj
 ·rw[h_ne e]at hj;have:j<cc:=A2I λh=>by rw[hfr _ h]at hj;cases hj
  rw[C9e j this e];exact hj
theorem c_chk1(x h:Hd):PC Tryz.prog 42 [x.v,.fptr [I64 h.trig,.str h.name,G7 h.body,I64 h.pos]] (.bool (x.trig==h.trig&&x.name==h.name)):=by
 rw[E5f];refine PC.go A3 ?_;cases h1:(x.trig==h.trig) with
 |false =>
  refine wAs h1 ?_;exact A4 rfl
 |true =>
  cases h2:(x.name==h.name) with
  |false =>
   refine wAs (wJ h1 h2) ?_;exact A4 rfl
  |true =>
   refine wAs (wJ h1 h2) ?_;exact A4 rfl
theorem c_Check32(r:Ru)(hB:r.sz<4000000):PC Tryz.prog 15 [r.v] (D8w r):=by
 have hv:=c_Valid r (by omega);have hdl:=E4l r;have hml:=E4k r;have hnm:=c_names r (by omega) (by omega);have hch:D8w r=if X3 r=true then erV (B1y r) else .tup [I64 0,I64 1]:=rfl
 refine PC.ofT A3 rfl (A0F rfl) (by simp[Ru.v,DV.nlL,DV.nl,S6,S0]) (E3l _) ?_;have hrv:r.v=.agg [D7 r.decls,F6 r.modes]:=rfl;cases hvd:X3 r with
 |false =>
  rw[hvd]at hv hch;rw[hch];rw[hrv]at hv ⊢;refine wA5 hv ?_;exact A4 rfl
 |true =>
 have hk:=E6e hvd;have hbv:=@D3d _ r hvd;have hms:∀m∈r.modes,m.sz<=r.sz:=λm h=>F2r h;rw[hvd]at hv hch;rw[if_pos rfl]at hch;rw[hch,F0u];unfold B1y;rw[<- P3 (E8t r)];have hhd:=λH cc t ht htc=>c_heads32 r hk (0,0) H cc t ht htc (by omega) (by omega);obtain⟨K,V,hKV⟩:∃K V,nmV r=.mp .s K V:=⟨_,_,rfl⟩;have hck:∀s:Int × Int,(⟨0,true,[.mp .s K V,I64 s.1,I64 s.2]⟩:Blk)=ckB r s:=λs=>by unfold ckB;rw[hKV]
 rw[hKV]at hnm;rw[hrv]at hv hnm hhd ⊢;refine wBb hv hnm ?_;refine AC.call (hhd _ _ 1 (by rw[A0];exact congrArg some (hck (0,0))) (by omega)) ?_;rintro v' H' c' ⟨rfl,rfl⟩ hcc;rw[A1];obtain⟨s0,hs0⟩:∃s0,s0=upS (0,0) (B8s r):=⟨_,rfl⟩;rw[<- hs0];have hb0:∀b,((Sym.nil.upd 0 ⟨0,true,[D7 r.decls,F6 r.modes]⟩).upd 1 b) 0=some ⟨0,true,[D7 r.decls,F6 r.modes]⟩:=λb=>rfl;refine wAu hb0 ?_;have hG0:∀j,1<=j->(Sym.nil.upd 0 ⟨0,true,[D7 r.decls,F6 r.modes]⟩) j=none:=λj hj=>by rw[hnO];rfl
 generalize Sym.nil.upd 0 ⟨0,true,[D7 r.decls,F6 r.modes]⟩=G0 at hG0 ⊢;clear hb0 hs0 hhd;refine A9 (λi:Nat=>[(4,.ptr 1 0),(20,F6 r.modes),(21,I64 r.modes.length),(22,I64 i)]) (λi=>G0.upd 1 (ckB r (upS s0 (erM r (r.modes.take i))))) (λi c=>2<=c/\i<=r.modes.length) (λi=>r.modes.length-i) 0 (by simp[B5,tm,Tm.upd]) (by rw[A1J,erM,P4];exact Sub.refl _) ⟨a8,A0Q _⟩ ?_;rintro i c ⟨h1c,hki⟩;by_cases hlt:i<r.modes.length
 ·have hd:=dtz hlt;have hg:=A0B hlt;have hw:=w64 (n:=(i:Int)+1);have hms:=hms _ (A0O hlt);have hbv:=hbv _ (A0O hlt);have het:=C2i (r:=r) hg;generalize r.modes[i]=d at hg hms hbv het;have hhl:=F2s d;obtain⟨s1,hs1⟩:∃s1,s1=upS s0 (erM r (r.modes.take i)):=⟨_,rfl⟩;rw[<- hs1];have hfin:upS s0 (erM r (r.modes.take (i+1)))=upS s1 (erH r [] d.hds):=by rw[het, <- P3 (E8u _ _), <- hs1]
  have ne0:=A1z 1 c (by omega);refine wA1 hd hg @C5a ne0 @A0 @A1 ?_;obtain⟨G,hG⟩:∃G,G=G0.upd c ⟨0,true,[.str d.name,I64 d.prio,W0 d.hds,I64 d.pos]⟩:=⟨_,rfl⟩;have hGc:∀b,(G.upd 1 b) c=some ⟨0,true,[.str d.name,I64 d.prio,W0 d.hds,I64 d.pos]⟩:=λb=>by rw[hnO,hG,A0]
  have hGn:∀j,c+1<=j->G j=none:=λj hj=>by rw[hG,hnO];exact hG0 j (by omega)
  rw[B7s (by omega), <- hG];refine A9 (λj:Nat=>[(4,.ptr 1 0),(6,.ptr c 0),(20,F6 r.modes),(21,I64 r.modes.length),(22,I64 i),(27,W0 d.hds),(28,I64 d.hds.length),(29,I64 j)]) (λj=>G.upd 1 (ckB r (upS s1 (erH r [] (d.hds.take j))))) (λj c2=>c+1<=c2/\j<=d.hds.length) (λj=>d.hds.length-j) 0 (by simp[B5,tm,Tm.upd]) (by rw[A1J,erH,P4];exact Sub.refl _) ⟨a8,A0Q _⟩ ?_;rintro j c2 ⟨h2c,hkj⟩;by_cases hlt2:j<d.hds.length
  ·have hd2:=dtz hlt2;have hg2:=A0B hlt2;have hw2:=w64 (n:=(j:Int)+1);have hxs:=F2t (A0O hlt2);have hbv:=hbv _ (A0O hlt2);have heH:=D8e (r:=r) hg2;generalize d.hds[j]=x at hg2 hxs hbv heH;have hxe:x.sz=1+x.name.length+Pb.St.szs x.body:=rfl;have hbl:=c_blk32 r hk _ x.body 1 (A1Q _) (by omega) hbv;have hik:=c_inH32 x.trig;have hcf:=c_CF_hd (f:=42) (a:=[]) (cs:=[.fptr [I64 x.trig,.str x.name,G7 x.body,I64 x.pos]]) (g:=λy=>y.trig==x.trig&&y.name==x.name) (d.hds.take j) (by rw[A1C];omega) rfl (by simp[DV.nlL,DV.nl,A2t]) (λy _=>c_chk1 y x);obtain⟨o,ho⟩:∃o,o=erH r [] (d.hds.take j):=⟨_,rfl⟩;have hno:NzE o:=by rw[ho];exact E8v _ _ _
   rw[<- ho]at heH ⊢;have hsl:=λH=>D5b (xs:=d.hds.map Hd.v) (h:=j) (sz:=4) (by rw[A0N];omega) (A6i _) H;rw[<- List.map_take]at hsl;have ne0:=W9 1 c c2 (by omega);refine wA8 hik (wJ hd2 (wJ hg2 (wJ @E5f (wJ ne0 (wJ @A0 (wJ @A1 hGc)))))) ?_;obtain⟨G2,hG2⟩:∃G2,G2=G.upd c2 ⟨0,true,[I64 x.trig,.str x.name,G7 x.body,I64 x.pos]⟩:=⟨_,rfl⟩;have h2c2:∀b,(G2.upd 1 b) c2=some ⟨0,true,[I64 x.trig,.str x.name,G7 x.body,I64 x.pos]⟩:=λb=>by rw[hnO,hG2,A0]
   have h2c:∀b,(G2.upd 1 b) c=some ⟨0,true,[.str d.name,I64 d.prio,W0 d.hds,I64 d.pos]⟩:=λb=>by rw[hnO,hG2,hnO,hG,A0]
   have h2n:∀j,c2+1<=j->G2 j=none:=λj hj=>by rw[hG2,hnO];exact hGn j (by omega)
   rw[B7s (by omega), <- hG2];refine⟨by and_intros<;>(rw[hnO];exact h2n _ (by omega)),?_⟩;refine AC.call (c_den32 r hk (upS s1 o) _ _ 1 A0 (by omega) x.name (kdH x.trig) x.pos) ?_;rintro v' H' c3 ⟨rfl,rfl⟩ hc3;rw[A1,P3 hno];obtain⟨o2,ho2⟩:∃o2,o2=o.or (dnE r x.name (kdH x.trig) x.pos):=⟨_,rfl⟩;have hno2:NzE o2:=by rw[ho2];exact hno.or (B6j _ _ _ _)
   have heH2:erH r [] (d.hds.take (j+1))=(o2.or (if(d.hds.take j).any (λy=>y.trig==x.trig&&y.name==x.name)=true then some (x.pos,7) else none)).or (erB r x.body):=by
    rw[heH,ho2];unfold stH;simp only[A2T]
   rw[<- ho2];simp only[go_sem,seval];generalize (d.hds.take j).any (λy=>y.trig==x.trig&&y.name==x.name)=bq at hcf heH2;have kE:∀(s2:Int × Int) (c4:Nat),c2+1<=c4->upS s1 (erH r [] (d.hds.take (j+1)))=upS s2 (erB r x.body)->IW Tryz.prog 67 (pz Tryz.prog 15 (.o (.o (.i (.o (.i .h)))))) ⟨tm [(4,.ptr 1 0),(6,.ptr c 0),(8,.ptr c2 0),(20,F6 r.modes),(21,I64 r.modes.length),(22,I64 i),(27,W0 d.hds),(28,I64 d.hds.length),(29,I64 j)],G2.upd 1 (ckB r s2),c4⟩ (bk 3
      (sq Tryz.prog 67 (pz Tryz.prog 15 (.i (.o (.i (.o (.i .h))))))
       (lp (λj:Nat=>[(4,DV.ptr 1 0),(6,DV.ptr c 0),(20,F6 r.modes),(21,I64 r.modes.length),(22,I64 i),(27,W0 d.hds),(28,I64 d.hds.length),(29,I64 j)])
        (λj:Nat=>G.upd 1 (ckB r (upS s1 (erH r [] (d.hds.take j)))))
        (λj c2=>c+1<=c2/\j<=d.hds.length) (λj=>d.hds.length-j) (d.hds.length-j)
        (bk 2
         (bk 1
          (sq Tryz.prog 67 (pz Tryz.prog 15 (.o (.i (.i (.o (.i .h))))))
           (lp (λi:Nat=>[(4,DV.ptr 1 0),(20,F6 r.modes),(21,I64 r.modes.length),(22,I64 i)])
            (λi:Nat=>G0.upd 1 (ckB r (upS s0 (erM r (r.modes.take i)))))
            (λi c=>2<=c/\i<=r.modes.length) (λi=>r.modes.length-i) (r.modes.length-i)
            (bk 0
             (sq Tryz.prog 67 (pz Tryz.prog 15 (.i (.i (.i (.o (.i .h))))))
              (rt [Eng.RV.tmp 2,Eng.RV.tmp 3] λv H' x =>
               ∃H2,GL H' [v] H2 [DV.tup [I64 (upS s0 (erM r r.modes)).1,I64 (upS s0 (erM r r.modes)).2]])))))))))):=by
    intro s2 c4 hc4 hs2;refine wAs (wJ h2c2 h2c) ?_;refine AC.call (hbl s2 _ _ 1 A0 (by omega)) ?_;rintro v' H' c5 ⟨rfl,rfl⟩ hc5;rw[A1, <- hs2];refine wAu hw2 ?_;refine⟨j+1,by simp,?_,inv ⟨a8,by omega⟩,by omega⟩;rw[hG2];exact B8b (λj hj=>hGn j (by omega)) (by omega)
   cases bq with
   |true =>
    rw[if_pos rfl]at heH2;repeat'((first|(with_reducible first|apply wr|refine k_cu ?_ ?_)|(with_reducible apply wb2<;>(intro hb;try simp only[hb]))|(refine AC.call (hcf.lend rfl (GL.one (id:=c2) (b:=⟨0,true,[I64 x.trig,.str x.name,G7 x.body,I64 x.pos]⟩) (h2c2 _) rfl (.cons _ _ _ _ (.same _) (.cons _ _ _ _ (.func _ _ _ _ _ .nil (.cons _ _ _ _ (.ptr 0 _ (A0Q _) rfl) .nil)) .nil)))) ?_<;>rintro v' H' c' ⟨rfl,rfl,rfl⟩ hcc))<;>try simp only[go_sem,seval,h2c2,h2c,hsl])
    refine AC.call (c_fail32 r (upS s1 o2) _ _ 1 A0 (by omega) x.pos 7) ?_;rintro v' H' c5 ⟨rfl,rfl⟩ hc5;rw[A1,P3 hno2];simp only[go_sem,seval];(repeat'((with_reducible first|refine O8 (p:=IW _ _ (pz Tryz.prog 15 (.o (.o (.i (.o (.i .h)))))) _ _) ?_|refine wr ?_|refine k_cu ?_ ?_|apply wb2<;>(intro hb;try simp only[hb]))<;>try simp only[go_sem,seval]));refine IW.stage (by simp[B5,tm,Tm.upd]) (kE _ _ (by omega) ?_);rw[heH2,P3 (hno2.or (λa b h=>by cases h;decide))]
   |false =>
    rw[if_neg (by decide),A4E]at heH2;repeat'((first|(with_reducible first|refine O8 (p:=IW _ _ (pz Tryz.prog 15 (.o (.o (.i (.o (.i .h)))))) _ _) ?_|refine wr ?_|refine k_cu ?_ ?_)|(with_reducible apply wb2<;>(intro hb;try simp only[hb]))|(refine AC.call (hcf.lend rfl (GL.one (id:=c2) (b:=⟨0,true,[I64 x.trig,.str x.name,G7 x.body,I64 x.pos]⟩) (h2c2 _) rfl (.cons _ _ _ _ (.same _) (.cons _ _ _ _ (.func _ _ _ _ _ .nil (.cons _ _ _ _ (.ptr 0 _ (A0Q _) rfl) .nil)) .nil)))) ?_<;>rintro v' H' c' ⟨rfl,rfl,rfl⟩ hcc))<;>try simp only[go_sem,seval,h2c2,h2c,hsl])
    refine IW.stage (by simp[B5,tm,Tm.upd]) (kE _ _ (by omega) ?_);rw[heH2,P3 hno2]
  have hd2:=dfz hlt2;rw[A0J (by omega)];refine wAs (wJ hd2 hw) ?_;refine⟨i+1,by simp,?_,inv ⟨a8,by omega⟩,by omega⟩;rw[hfin,hG];exact B8b (λj hj=>hG0 j (by omega)) (by omega)
 have hd:=dfz hlt;rw[A0J (by omega)];have hb1:(G0.upd 1 (ckB r (upS s0 (erM r r.modes)))) 1=some (ckB r (upS s0 (erM r r.modes))):=A0;have hcs:=(hck (upS s0 (erM r r.modes))).symm;have hbn:∀j,c<=j->(G0.upd 1 (ckB r (upS s0 (erM r r.modes)))) j=none:=λj hj=>by rw[hnO];exact hG0 j (by omega)
 rw[hcs]at hb1 hbn ⊢;refine wAs (wJ hd hb1) ?_;refine⟨by and_intros<;>exact hG0 _ (by omega),?_⟩;refine wAs hb1 ?_;exact A4 rfl
theorem E3j(q:Prg × Int × Int):(D2h q).nl=true:=by
 simp[D2h,Prg.v,Prg.cs,DV.nlL,DV.nl,N4,J1,A0f,K0]
abbrev cd0:List DV:=[.snil,.snil,.snil,.snil,.snil,I64 0,I64 0]
theorem E6g{ρ:Ren}{v:Value}{p c:Int}(h:VRel ρ (.tup [.agg cd0,I64 p,I64 c]) v):VRel ρ (D2h (C3l,p,c)) v:=by
 obtain⟨bb,rfl,k1,k2⟩:=h.tup_inv;refine .tup _ _ k1 λj x y hx hy=>?_
 match j with
 |0 =>
  cases hx;have h0:=k2 0 (.agg cd0) y rfl hy;obtain⟨b2,rfl,m1,m2⟩:=h0.agg_inv;refine .agg _ _ m1 λj x y hx hy=>?_
  match j with
  |0=>cases hx;exact(m2 0 _ y rfl hy).snil_lst
  |1=>cases hx;exact(m2 1 _ y rfl hy).snil_lst
  |2=>cases hx;exact(m2 2 _ y rfl hy).snil_lst
  |3=>cases hx;exact(m2 3 _ y rfl hy).snil_lst
  |4=>cases hx;exact(m2 4 _ y rfl hy).snil_lst
  |5=>cases hx;exact m2 5 _ y rfl hy
  |6=>cases hx;exact m2 6 _ y rfl hy
  |_+7=>cases hx
 |1=>cases hx;exact k2 1 _ y rfl hy
 |2=>cases hx;exact k2 2 _ y rfl hy
 |_+3=>cases hx
theorem B2s{H:Hp}{p c:Int}:∃H2,GL H [.tup [.agg cd0,I64 p,I64 c]] H2 [D2h (C3l,p,c)] :=
 ⟨H,GL.view fun ρ vs hA=>P8 (λv h=>E6g h) vs hA⟩
theorem E2r{X0:Hp}{a b eo:Option Nat}{x:Cg}{E:List Ent}{p v m:DV}{t n:Int}{c:Nat}{ds:List DV}(h:GN (optH X0 eo ⟨4,true,cellsL (E.map Ent.v)⟩) 2 a b x c)(he:∀i,eo=some i->3<=i)(hn:eo=none->E=[])
  (hp:p.one=true) (hv:v.one=true) (hm:m.one=true) :
  ∃Y,GL (GM (optH X0 eo ⟨4,true,cellsL (E.map Ent.v)⟩) 2 a b (mkP (todoV eo E.length) p v m t n) x) ds Y ds/\Y 2=some ⟨0,true,[K7 x.1,strs x.2,Q6 E,p,v,I64 t,I64 n,m]⟩/\∀j B,j≠2->X0 j=some B->(∀i,eo=some i->i≠j)->Y j=some B:=by
 have o1:∀(o:Option Nat) (n:Nat),(todoV o n).one=true:=λo n=>by cases o<;>rfl
 have heX:∀i,eo=some i->(optH X0 eo ⟨4,true,cellsL (E.map Ent.v)⟩) i=some ⟨4,true,cellsL (E.map Ent.v)⟩:=λi hi=>u5
 have g1:=C5m (H:=GM (optH X0 eo ⟨4,true,cellsL (E.map Ent.v)⟩) 2 a b (mkP (todoV eo E.length) p v m t n) x) (k:=2) (o:=a) (n:=x.1.length) (u:=2) (u':=2) (pre:=[]) (suf:=[todoV b x.2.length,todoV eo E.length,p,v,I64 t,I64 n,m]) (xs:=x.1.map Ins.v) (ds:=ds)
  (B9q h) (λi hi=>⟨D2u h hi,(h.ha i hi).1⟩) (λe=>by rw[h.an e];rfl) (λd hd=>by simp at hd;rcases hd with rfl|rfl|rfl|rfl|rfl|rfl|rfl<;>(first|exact o1 _ _|assumption|rfl)) (by simp) (λy hy=>by obtain⟨z, -,rfl⟩:=A0X.1 hy;rfl)
 obtain⟨Y1,hY1⟩:∃Y:Hp,Y=(delO (GM (optH X0 eo ⟨4,true,cellsL (E.map Ent.v)⟩) 2 a b (mkP (todoV eo E.length) p v m t n) x) a).upd 2 ⟨0,true,[]++[.lst (x.1.map Ins.v)]++[todoV b x.2.length,todoV eo E.length,p,v,I64 t,I64 n,m]⟩:=⟨_,rfl⟩;rw[<- hY1]at g1;have y1:∀j,j≠2->(∀i,a=some i->¬j=i)->Y1 j=GM (optH X0 eo ⟨4,true,cellsL (E.map Ent.v)⟩) 2 a b (mkP (todoV eo E.length) p v m t n) x j:=λj h1 h2=>by rw[hY1,h_ne h1,C5 h2]
 have g2:=C5m (H:=Y1) (k:=2) (o:=b) (n:=x.2.length) (u:=1) (u':=1) (pre:=[K7 x.1]) (suf:=[todoV eo E.length,p,v,I64 t,I64 n,m]) (xs:=x.2.map DV.str) (ds:=ds)
  (by rw[hY1,A0];rfl) (λi hi=>⟨by rw[y1 i (h.hb i hi).1 (λj hj e=>h.ne j i hj hi e.symm),C6q hi,B5e],(h.hb i hi).1⟩) (λe=>by rw[h.bn e];rfl) (λd hd=>by simp at hd;rcases hd with rfl|rfl|rfl|rfl|rfl|rfl|rfl<;>(first|exact o1 _ _|assumption|rfl)) (by simp) (λy hy=>by obtain⟨z, -,rfl⟩:=A0X.1 hy;rfl)
 obtain⟨Y2,hY2⟩:∃Y:Hp,Y=(delO Y1 b).upd 2 ⟨0,true,[K7 x.1]++[.lst (x.2.map DV.str)]++[todoV eo E.length,p,v,I64 t,I64 n,m]⟩:=⟨_,rfl⟩;rw[<- hY2]at g2;have y2:∀j,j≠2->(∀i,a=some i->¬j=i)->(∀i,b=some i->¬j=i)->Y2 j=GM (optH X0 eo ⟨4,true,cellsL (E.map Ent.v)⟩) 2 a b (mkP (todoV eo E.length) p v m t n) x j:=λj h1 h2 h3=>by rw[hY2,h_ne h1,C5 h3,y1 j h1 h2]
 have ab:∀j B,(optH X0 eo ⟨4,true,cellsL (E.map Ent.v)⟩) j=some B->(∀i,a=some i->¬j=i)/\(∀i,b=some i->¬j=i):=λj B hj=>⟨λi hi e=>(by subst e;have:=(h.ha j hi).2.2;rw[hj]at this;cases this),λi hi e=>(by subst e;have:=(h.hb j hi).2.2;rw[hj]at this;cases this)⟩;have ob:∀j B,j≠2->(optH X0 eo ⟨4,true,cellsL (E.map Ent.v)⟩) j=some B->Y2 j=some B:=λj B h1 hj=>by rw[y2 j h1 (ab j B hj).1 (ab j B hj).2,B5p h hj h1]
 have g3:=C5m (H:=Y2) (k:=2) (o:=eo) (n:=E.length) (u:=4) (u':=4) (pre:=[K7 x.1,strs x.2]) (suf:=[p,v,I64 t,I64 n,m]) (xs:=E.map Ent.v) (ds:=ds)
  (by rw[hY2,A0];rfl) (λi hi=>⟨ob i _ (by have:=he i hi;omega) (heX i hi),by have:=he i hi;omega⟩) (λe=>by rw[hn e];rfl) (λd hd=>by simp at hd;rcases hd with rfl|rfl|rfl|rfl|rfl|rfl|rfl<;>(first|exact o1 _ _|assumption|rfl)) (by simp) (λy hy=>by obtain⟨z, -,rfl⟩:=A0X.1 hy;rfl)
 refine⟨_,(g1.trans g2).trans g3,by rw[A0];rfl,λj B h1 hj hne=>?_⟩;rw[h_ne h1,C5 (λi hi e=>hne i hi e.symm),ob j B h1 (by rw[B9 (λi hi e=>hne i hi e.symm),hj])]
theorem c_PCompile(r:Ru)(hB:r.sz<4000000):PC Tryz.prog 5 [r.v] (D2h (C2u r)):=by
 refine PC.ofT A3 rfl (A0F rfl) (by simp[Ru.v,DV.nlL,DV.nl,S6,S0]) (E3j _) ?_;have hck:=c_Check32 r hB;unfold D8w at hck;obtain⟨R,hR⟩:∃R,R=C2u r:=⟨_,rfl⟩;rw[<- hR];unfold C2u at hR;cases hv:X3 r with
 |false =>
  rw[hv]at hck hR;rw[if_neg A4D]at hck hR;subst hR;obtain⟨D,M⟩:=r;dsimp only[Ru.v]at hck ⊢;refine wA5 hck ?_;rw[G4 (v:=.tup [.agg cd0,I64 0,I64 1]) rfl];exact B2s
 |true =>
  rw[hv]at hck hR;rw[if_pos rfl]at hck hR;cases he:B1y r with
  |some q =>
   obtain⟨p,c⟩:=q;rw[he]at hck hR;have hck:PC Tryz.prog 15 [r.v] (.tup [I64 p,I64 c]):=hck;dsimp only at hR;have hnz:(c != 0)=true:=by
    have h:NzE (B1y r):=by unfold B1y B8s;exact((D5y _ _).or (E1c _ _ _)).or (E8u _ _)
    simpa using h _ _ he
   subst hR;obtain⟨D,M⟩:=r;dsimp only[Ru.v]at hck ⊢;refine wA8 hck hnz ?_;rw[G4 (v:=.tup [.agg cd0,I64 p,I64 c]) rfl];exact B2s
  |none =>
   rw[he]at hck hR;dsimp only at hR;have hC:ChkR r:=⟨hv,he⟩;have hlen:=hC.lens;have hnil:nmR r []=0:=by show(H5 r []).2=0;rw[hC.nil]
   have hnum:=E8x (r:=r) hC.kd;have hbe:=c_begin r (by omega) (by omega);have hms:(r.modes.map λm=>m.hds.length).sum+r.modes.length<=1000000:=F0f hC;have hal:(J8 [] (hkM (nmR r) 0 r.modes)).length<=1000000:=A1B (D7e hC).1 (by omega);have hrf:=λs h1 h2=>D5v (s:=s) hC h1 h2;have hpb:=λs h1=>F2w (s:=s) hC h1;obtain⟨L,hL⟩:∃L,L=V7 (nmR r) 0 r.modes:=⟨_,rfl⟩;have hsz:∀p∈L,St.szs p.2.flatten<=4000000:=λp hp=>by
    rw[hL]at hp;have h1:=C7i r.modes 0 p hp;have h2:r.sz=(r.decls.map Dc.sz).sum+(r.modes.map Md.sz).sum:=rfl;omega
   have hcm:cmC r=⟨(cgL (nmR r) 0 [] L).1,(cgL (nmR r) 0 [] L).2.2,(cgL (nmR r) 0 [] L).2.1,r.modes.map Md.prio,(r.decls.filter λd=>d.kind=6).map Dc.value,(cnD r.decls 7:Int),(cnD r.decls 8:Int)⟩:=by
    rw[hL];rfl
   have hparts:=λH c t ht htc=>c_parts (beC r) (mkK (inL (nmL r))) (mvV (inL (nmL r))) (nmR r) hnum rfl r.decls r.modes hms H c t ht htc hal;have hck:PC Tryz.prog 15 [r.v] (.tup [I64 0,I64 0]):=hck;rw[hcm]at hR;dsimp only at hR;obtain⟨V,hV⟩:∃V,V=(r.decls.filter λd=>d.kind=6).map Dc.value:=⟨_,rfl⟩;obtain⟨P,hP⟩:∃P,P=r.modes.map Md.prio:=⟨_,rfl⟩;obtain⟨m7,h7⟩:∃m7:Int,m7=(cnD r.decls 7:Int):=⟨_,rfl⟩;obtain⟨m8,h8⟩:∃m8:Int,m8=(cnD r.decls 8:Int):=⟨_,rfl⟩;obtain⟨mp,hmp⟩:∃mp,mp=DV.mp .s (mkK (inL (nmL r))) (mvV (inL (nmL r))):=⟨_,rfl⟩;have hbeC:beC r=[.snil,.snil,.snil,J5 P,J5 V,I64 m7,I64 m8,mp]:=by rw[hP,hV,h7,h8,hmp]
   rw[<- hV, <- hP, <- h7, <- h8]at hR;have hgb:=λ(e:DV)=>c_gblock e (J5 P) (J5 V) (mkK (inL (nmL r))) (mvV (inL (nmL r))) m7 m8 (nmR r) hnum;have hem:=λ(e:DV)=>c_emit e (J5 P) (J5 V) mp m7 m8 31 0;rw[<- hmp]at hgb;have hmp1:mp.one=true:=by rw[hmp];rfl
   rw[hbeC]at hbe hparts;clear hcm hnum he hv hms hal hV hP h7 h8 hmp hbeC;generalize nmR r=nm at *;clear hnil hlen hC;obtain⟨D,M⟩:=r;dsimp only[Ru.v]at hck hbe hparts hrf hpb hL ⊢;refine wA5 hck ?_;refine ca3 (hbe _ _) ?_;refine wAu @A0 ?_;refine AC.call (hparts _ _ _ A0 (by omega)) ?_;rintro _ _ c2 ⟨rfl,l',q1,q2,rfl⟩ hc2;have hPB:=hpb l' q1;obtain rfl:=hrf l' q1 q2;rw[<- hL]at hPB ⊢;simp only[go_sem,seval];(repeat'((with_reducible first|apply wr|refine k_cu ?_ ?_|apply wb2<;>(intro hb;try simp only[hb]))<;>try simp only[go_sem,seval,A0N]));obtain⟨X0,hX⟩:∃X:Hp,X=((nil.upd 0 ⟨0,true,[D7 D,F6 M]⟩).upd 1 ⟨0,true,[.snil,.snil,.snil,.snil,.snil,I64 0,I64 0]⟩):=⟨_,rfl⟩;rw[<- hX];have x1:X0 1=some ⟨0,true,cd0⟩:=by rw[hX,A0]
   have x2:X0 2=none:=by rw[hX,h_ne (by decide),h_ne (by decide)];rfl
   have xf:∀j,2<=j->X0 j=none:=λj hj=>by rw[hX,hnO,hnO];rfl
   clear hX hparts hbe hck q1 q2 hrf hpb;refine A9 (λq:Nat × Option Nat × Option Nat × Option Nat=>[(2,.ptr 1 0),(7,.ptr 2 0),(26,D0t L),(27,I64 L.length),(28,I64 q.1)])
    (λq=>GM (optH X0 q.2.2.2 ⟨4,true,cellsL ((cgL nm 0 [] (L.take q.1)).2.1.map Ent.v)⟩) 2 q.2.1 q.2.2.1 (mkP (todoV q.2.2.2 q.1) (J5 P) (J5 V) mp m7 m8) ((cgL nm 0 [] (L.take q.1)).1,(cgL nm 0 [] (L.take q.1)).2.2))
    (λq cc=>c2<=cc/\q.1<=L.length/\GN (optH X0 q.2.2.2 ⟨4,true,cellsL ((cgL nm 0 [] (L.take q.1)).2.1.map Ent.v)⟩) 2 q.2.1 q.2.2.1 ((cgL nm 0 [] (L.take q.1)).1,(cgL nm 0 [] (L.take q.1)).2.2) cc /\
     (∀i,q.2.2.2=some i->3<=i/\i<cc)/\(q.2.2.2=none->q.1=0)/\(cgL nm 0 [] (L.take q.1)).1.length<=4000/\(cgL nm 0 [] (L.take q.1)).2.2.length<=200) (λq=>L.length-q.1) (0,none,none,none)
    (by simp[B5,tm,Tm.upd]) (by simp only[A1J,cgL];exact Sub.refl _) ⟨A0E _,A0Q _,⟨a8,λi h=>(by cases h),λi h=>(by cases h),λi j h=>(by cases h),λ_=>rfl,λ_=>rfl,λj hj=>xf j (by omega)⟩,λi h=>(by cases h),λ_=>rfl,A0Q _,A0Q _⟩ ?_
   rintro⟨k,a,b,eo⟩ cc ⟨hc,hk,hN0,heo,hen,hl1,hl2⟩;replace hk:k<=L.length:=hk;replace hc:c2<=cc:=hc;replace heo:∀i,eo=some i->3<=i/\i<cc:=heo;replace hen:eo=none->k=0:=hen;dsimp only at hN0 hl1 hl2 ⊢;obtain⟨x,hx⟩:∃x:Cg,x=((cgL nm 0 [] (L.take k)).1,(cgL nm 0 [] (L.take k)).2.2):=⟨_,rfl⟩;have hx1:(cgL nm 0 [] (L.take k)).1=x.1:=by rw[hx]
   have hx2:(cgL nm 0 [] (L.take k)).2.2=x.2:=by rw[hx]
   rw[hx1]at hl1;rw[hx2]at hl2;obtain⟨E,hE⟩:∃E,E=(cgL nm 0 [] (L.take k)).2.1:=⟨_,rfl⟩;have hEl:E.length=k:=by rw[hE,A5q,A1C];omega
   by_cases hlt:k<L.length
   rotate_left
   ·have hd:=dfz hlt;have hkl:k=L.length:=by omega
    rw[<- hx, <- hE]at hN0 ⊢;have hcgx:(if 4000<(cgL nm 0 [] L).1.length\/200<(cgL nm 0 [] L).2.2.length then(C3l,(0:Int),(9:Int)) else(⟨(cgL nm 0 [] L).1,(cgL nm 0 [] L).2.2,(cgL nm 0 [] L).2.1,P,V,m7,m8⟩,0,0))=((⟨x.1,x.2,E,P,V,m7,m8⟩:Prg),(0:Int),(0:Int)):=by
     rw[hkl,A1T]at hx1 hx2 hE;rw[hx1,hx2, <- hE,iN]
    obtain⟨Y,gY,yb,yo⟩:=E2r (p:=J5 P) (v:=J5 V) (m:=mp) (t:=m7) (n:=m8) (ds:=[.ptr 1 0,.ptr 2 0]) hN0 (λi hi=>(heo i hi).1) (λe=>A3K.1 (by rw[hEl,hen e])) rfl rfl hmp1;have ya:=yo 1 _ (by decide) x1 (λi hi=>by have:=(heo i hi).1;omega);rw[hEl]at gY;(repeat'((with_reducible first|refine O8 (p:=IW _ _ (pz Tryz.prog 5 (.i (.o (.i (.i (.i .h)))))) _ _) ?_|refine wr ?_|refine k_cu ?_ ?_|apply wb2<;>(intro hb;try simp only[hb]))<;>try simp only[go_sem,seval,hd,A0N]));refine IW.keep [2,7] [.ptr 1 0,.ptr 2 0] gY ?_;show IW Tryz.prog _ _ ⟨tm [(2,.ptr 1 0),(7,.ptr 2 0)],_,_⟩ _;refine wAw ya yb @A0 ?_;rw[G4 (v:=D2h (⟨x.1,x.2,E,P,V,m7,m8⟩,0,0)) rfl,hR,hcgx];exact⟨_,GL.refl _ _⟩
   have hd:=dtz hlt;have hg:=A0B hlt;have hw:=w64 (n:=(k:Int)+1) (by have:=hPB.1;omega) (by have:=hPB.1;omega);have hnx:=D9b nm hg;have hszp:=hsz _ (A0O hlt);have hbp:=hPB.2 _ (A0O hlt);generalize L[k]=p at hg hnx hszp hbp;rw[<- hx, <- hE]at hN0 hnx ⊢;rw[hx1]at hnx;have hM:=B9q (mk:=mkP (todoV eo k) (J5 P) (J5 V) mp m7 m8) hN0;have hfr:=λj (hj:cc<=j)=>D9s (mk:=mkP (todoV eo k) (J5 P) (J5 V) mp m7 m8) hN0 hj;obtain⟨ky,bd⟩:=p;dsimp only at hnx hszp hbp hg;have hgv:(L.map paV)[k]? = some (.agg (pcC ky (A6x bd))):=by rw[A1Z,hg];rfl
   have hnc:cc≠2:=a8
   have hla:=A1q (o:=a) (n:=x.1.length) (λe=>A2v (hN0.an e));have hnc':=hnc.symm;(repeat'((with_reducible first|refine O8 (p:=IW _ _ (pz Tryz.prog 5 (.o (.o (.o (.o (.o .h)))))) _ _) ?_|refine wr ?_|refine k_cu ?_ ?_|apply wb2<;>(intro hb;try simp only[hb]))<;>try simp only[go_sem,seval,hd,hgv,hM,hla,A0N,A0,A1,hnc,hnc']));obtain⟨B,hBe⟩:∃B:Blk,B=⟨0,true,[I64 ky.mode,I64 ky.trig,I64 ky.ix,I64 x.1.length,A6x bd]⟩:=⟨_,rfl⟩;obtain⟨HH,hHH⟩:∃HH:Hp,HH=(GM (optH X0 eo ⟨4,true,cellsL (E.map Ent.v)⟩) 2 a b (mkP (todoV eo k) (J5 P) (J5 V) mp m7 m8) x).upd cc ⟨0,true,[I64 ky.mode,I64 ky.trig,I64 ky.ix,I64 x.1.length,A6x bd]⟩:=⟨_,rfl⟩;unfold B9p;show IW Tryz.prog _ _ ⟨_,(GM _ 2 a b _ x).upd cc ⟨0,true,[I64 ky.mode,I64 ky.trig,I64 ky.ix,I64 x.1.length,A6x bd]⟩,cc+1⟩ _;rw[<- hHH];have hh2:HH 2=some ⟨0,true,[todoV a x.1.length,todoV b x.2.length,todoV eo k,J5 P,J5 V,I64 m7,I64 m8,mp]⟩:=by rw[hHH,h_ne hnc'];exact hM
   have hhc:HH cc=some ⟨0,true,[I64 ky.mode,I64 ky.trig,I64 ky.ix,I64 x.1.length,A6x bd]⟩:=by rw[hHH,A0]
   have hhf:∀j,cc+1<=j->HH j=none:=λj hj=>by rw[hHH,hnO];exact hfr j (by omega)
   have hhe:∀i,eo=some i->HH i=some ⟨4,true,cellsL (E.map Ent.v)⟩:=λi hi=>by
    have:=heo i hi;rw[hHH,hnO];exact B5p hN0 (by subst hi;exact A0) (by omega)
   have ne0:=W9 2 cc (cc+1) (by omega);refine wA0 hh2 hhc ne0 @A0 @A1 ?_;refine A5e (F9 (cs:=cellsL (E.map Ent.v)) (λe=>⟨hen e,by rw[A3K.1 (hEl.trans (hen e))];rfl⟩) (λi hi=>?_) (by rw[B7g,hEl]) (by omega) (by have:=hPB.1;omega) (by have:=hPB.1;omega)) ?_
   ·have:=heo i hi;rw[hnO];exact hhe i hi
   have dm:∀X:Hp,delO X eo 2=X 2:=λX=>C5 (λi hi e=>by have:=heo i hi;omega);simp only[go_sem,seval,dm,hh2,ne0,A0];refine⟨by rw[hnO,C5 (λi hi e=>by have:=heo i hi;omega),hnO];exact hhf _ (by omega),?_⟩;obtain⟨E',hE'⟩:∃E',E'=E++[(⟨ky.mode,ky.trig,ky.ix,(x.1.length:Int)⟩:Ent)]:=⟨_,rfl⟩;have hEC:cellsL (E'.map Ent.v)=cellsL (E.map Ent.v)++[I64 ky.mode,I64 ky.trig,I64 ky.ix,I64 x.1.length]:=by rw[hE',A0S,C4];rfl
   obtain⟨i',hi'⟩:∃i',i'=cc+1+14:=⟨_,rfl⟩;have hEl':E'.length=k+1:=by rw[hE',A0A,hEl];rfl
   have xn:∀j,2<=j->j≠i'->(optH X0 (some i') ⟨4,true,cellsL (E'.map Ent.v)⟩) j=none:=λj h1 h2=>by simp only[optH];rw[h_ne h2];exact xf j h1
   have hN1:GN ((optH X0 (some i') ⟨4,true,cellsL (E'.map Ent.v)⟩).upd cc B) 2 a b x (i'+1) :=
    ⟨a8,λi hi=>by have h:=hN0.ha i hi;exact⟨h.1,a8,by rw[hnO];simp only[optH];rw[hnO];have h3:=h.2.2;rcases Nat.lt_or_ge i 2 with h4|h4;(· rw[B9 (λq hq e=>by have:=heo q hq;omega)]at h3;exact h3);(· exact xf i h4)⟩,
     λi hi=>by have h:=hN0.hb i hi;exact⟨h.1,a8,by rw[hnO];simp only[optH];rw[hnO];have h3:=h.2.2;rcases Nat.lt_or_ge i 2 with h4|h4;(· rw[B9 (λq hq e=>by have:=heo q hq;omega)]at h3;exact h3);(· exact xf i h4)⟩,
     hN0.ne,hN0.an,hN0.bn,λj hj=>by rw[hnO];exact xn j (by omega) (by omega)⟩
   obtain⟨mk,hmk⟩:∃mk,mk=mkP (todoV (some i') (k+1)) (J5 P) (J5 V) mp m7 m8:=⟨_,rfl⟩;have gz:∀ds,GL (((delO (HH.upd (cc+1+8) ⟨4,true,[I64 ky.mode,I64 ky.trig,I64 ky.ix,I64 x.1.length]⟩) eo).upd (cc+1+14) ⟨4,true,cellsL (E.map Ent.v)++[I64 ky.mode,I64 ky.trig,I64 ky.ix,I64 x.1.length]⟩).upd 2 ⟨0,true,[todoV a x.1.length,todoV b x.2.length,.slc (cc+1+14) 0 (k+1),J5 P,J5 V,I64 m7,I64 m8,mp]⟩) ds
     (GM ((optH X0 (some i') ⟨4,true,cellsL (E'.map Ent.v)⟩).upd cc B) 2 a b mk x) ds:=λds=>GL.less' (B5o (by rw[A0,hmk,hi'];rfl)
     (λi hi=>by
      have h:=hN0.ha i hi;rw[h_ne h.1,hnO,C5 (λq hq e=>by have h2:=h.2.2;subst e;rw[hq]at h2;simp only[optH]at h2;rw[A0]at h2;cases h2),hnO,hHH,hnO];exact D2u hN0 hi)
     (λi hi=>by
      have h:=hN0.hb i hi;rw[h_ne h.1,hnO,C5 (λq hq e=>by have h2:=h.2.2;subst e;rw[hq]at h2;simp only[optH]at h2;rw[A0]at h2;cases h2),hnO,hHH,hnO];exact C6q hi)
     (λj Q hj hQ=>by
      rw[h_ne hj];by_cases e1:j=i'
      ·subst e1;rw[hnO]at hQ;simp only[optH]at hQ;rw[A0]at hQ;rw[hi',A0, <- hEC];exact hQ
      rw[hnO];by_cases e2:j=cc
      ·subst e2;rw[A0]at hQ;rw[C5 (λq hq e=>by have:=heo q hq;omega),hnO,hhc, <- hBe];exact hQ
      rw[h_ne e2]at hQ;simp only[optH]at hQ;rw[h_ne e1]at hQ;have hj2:j<2:=A2I λh=>by rw[xf j h]at hQ;cases hQ
      rw[C5 (λq hq e=>by have:=heo q hq;omega),hnO,hHH,hnO];exact B5p hN0 (by rw[B9 (λq hq e=>by have:=heo q hq;omega)];exact hQ) (by omega)))
   refine IW.keep [2,7,9,26,27,28] [.ptr 1 0,.ptr 2 0,.ptr cc 0,D0t L,I64 L.length,I64 k] (gz _) ?_;show IW Tryz.prog _ _ ⟨tm [(2,.ptr 1 0),(7,.ptr 2 0),(9,.ptr cc 0),(26,D0t L),(27,I64 L.length),(28,I64 k)],_,_⟩ _;rw[<- hi'];have hcc0:(optH X0 (some i') ⟨4,true,cellsL (E'.map Ent.v)⟩) cc=none:=xn cc (by omega) (by omega);have hcf0:∀j,i'+1<=j->(optH X0 (some i') ⟨4,true,cellsL (E'.map Ent.v)⟩) j=none:=λj hj=>xn j (by omega) (by omega);have hx01:(optH X0 (some i') ⟨4,true,cellsL (E'.map Ent.v)⟩) 1=some ⟨0,true,cd0⟩:=by simp only[optH];rw[hnO];exact x1
   have hgb:=hgb (todoV (some i') (k+1));have hem:=hem (todoV (some i') (k+1));rw[<- hmk]at hgb hem;have hNi:∀a' b' x' c',GN ((optH X0 (some i') ⟨4,true,cellsL (E'.map Ent.v)⟩).upd cc B) 2 a' b' x' c'->GM ((optH X0 (some i') ⟨4,true,cellsL (E'.map Ent.v)⟩).upd cc B) 2 a' b' mk x' cc=some B:=λa' b' x' c' h=>B5p h A0 hnc;generalize hX1:(optH X0 (some i') ⟨4,true,cellsL (E'.map Ent.v)⟩).upd cc B=X1 at hN1 hNi ⊢;have hB0:GM X1 2 a b mk x cc=some ⟨0,true,[I64 ky.mode,I64 ky.trig,I64 ky.ix,I64 x.1.length,A6x bd]⟩:=by rw[hNi _ _ _ _ hN1,hBe]
   clear gz hN0 hh2 hhc hhf hhe hHH HH hM hfr dm hla;have hxx1:x.1.length<=4000:=hl1;refine wAs hB0 ?_;refine A9 (λq:Nat × Option Nat × Option Nat=>[(2,.ptr 1 0),(7,.ptr 2 0),(26,D0t L),(27,I64 L.length),(28,I64 k),(54,A6x bd),(55,I64 bd.length),(56,I64 q.1)])
    (λq=>GM X1 2 q.2.1 q.2.2 mk (T6 nm (bd.take q.1).flatten x))
    (λq c3=>i'+1<=c3/\q.1<=bd.length/\GN X1 2 q.2.1 q.2.2 (T6 nm (bd.take q.1).flatten x) c3) (λq=>bd.length-q.1) (0,a,b)
    (by simp[B5,tm,Tm.upd]) (by simp only[A1J,A3L,A3x];exact Sub.refl _) ⟨A0E _,A0Q _,by simp only[A1J,A3L,A3x];exact hN1⟩ ?_
   clear hB0 hN1 a b;rintro⟨j,a,b⟩ c3 ⟨hc3,hj,hN⟩;replace hj:j<=bd.length:=hj;replace hc3:i'+1<=c3:=hc3;dsimp only at hN ⊢;by_cases hltj:j<bd.length
   ·have hdj:=dtz hltj;have hgj:=A0B hltj;have hwj:=w64 (n:=(j:Int)+1);have hfs:=D1v hgj;have hm1:=B8a (A0O hltj);have hm2:=A6y bd j;have hm3:=A6y bd (j+1);have hgjv:(bd.map G7)[j]? = some (G7 bd[j]):=by rw[A1Z,hgj];rfl
    generalize bd[j]=y at hgj hfs hm1 hgjv;have hbx:=C9r (nm:=nm) ((bd.take j).flatten++y) x;rw[<- hfs]at hbx;have hcall:=hgb _ y (A1Q _) (by omega) (T6 nm (bd.take j).flatten x) (by rw[<- A5r, <- hfs];exact⟨a8,by omega⟩);rw[<- A5r, <- hfs]at hcall;refine wAr (wJ hdj (wJ hgjv hwj)) ?_;refine AC.call (hcall _ _ _ _ _ hN) ?_;rintro _ _ c4 ⟨rfl,a2,b2,hN2,rfl⟩ hc4;refine wAu hwj ?_;exact⟨(j+1,a2,b2),i6,Sub.refl _,inv ⟨a8,hltj,hN2⟩,by simp only;omega⟩
   have hdj:=dfz hltj;have hjb:j=bd.length:=a8
   subst hjb;rw[A1T]at hN ⊢;have hbx:=C9r (nm:=nm) bd.flatten x;refine wAr hdj ?_;refine AC.call (hem _ (by omega) _ _ _ _ _ hN) ?_;rintro _ _ c4 ⟨rfl,a2,b2,hN2,rfl⟩ hc4;have hM2:=B9q (mk:=mk) hN2;rw[hmk]at hM2;have hnx1:=hnx.1;have hnx2:=hnx.2;unfold F6r at hnx1;dsimp only at hnx1 hM2 hN2;obtain⟨z,hz⟩:∃z:Cg,z=((T6 nm bd.flatten x).1++[⟨31,0⟩],(T6 nm bd.flatten x).2):=⟨_,rfl⟩;rw[<- hz]at hnx1 hN2 hM2 ⊢;have hl3:=A1q (o:=a2) (n:=z.1.length) (λe=>A2v (hN2.an e));have hl4:=A1q (o:=b2) (n:=z.2.length) (λe=>A2v (hN2.bn e));have hz1:(cgL nm 0 [] (L.take (k+1))).1=z.1:=congrArg Prod.fst hnx1;have hz2:(cgL nm 0 [] (L.take (k+1))).2.2=z.2:=congrArg Prod.snd hnx1;have hle:=D8z (nm:=nm) (l:=L) (S:=[]) (k+1);rw[hz1,hz2]at hle;obtain⟨mk2,hmk2⟩:∃mk2,mk2=mk:=⟨_,rfl⟩;rw[<- hmk]at hM2;have hx11:GM X1 2 a2 b2 mk z 1=some ⟨0,true,cd0⟩:=B5p hN2 (by rw[<- hX1,hnO];exact hx01) (by decide);have hMz:GM X1 2 a2 b2 mk z 2=some ⟨0,true,[todoV a2 z.1.length,todoV b2 z.2.length,todoV (some i') (k+1),J5 P,J5 V,I64 m7,I64 m8,mp]⟩:=by rw[hM2,hmk]
   by_cases d1:4000<z.1.length
   ·have d1':decide ((z.1.length:Int)>4000)=true:=by simp;omega
    have d1'':decide ((z.1.length:Int)<=4000)=false:=b9
    refine wA2 hMz hx11 hl3 hl4 d1' d1'' ?_;rw[hR,iP,G4 (v:=.tup [.agg cd0,I64 0,I64 9]) rfl];exact B2s
   have d1':decide ((z.1.length:Int)>4000)=false:=b9
   by_cases d2:200<z.2.length
   ·have d2':decide ((z.2.length:Int)>200)=true:=by simp;omega
    refine wA2 hMz hx11 hl3 hl4 d1' d2' ?_;rw[hR,iP,G4 (v:=.tup [.agg cd0,I64 0,I64 9]) rfl];exact B2s
   have d2':decide ((z.2.length:Int)>200)=false:=b9
   refine wAu (wJ hMz (wJ hx11 (wJ hl3 (wJ hl4 (wJ d1' (wJ d2' hw)))))) ?_;refine⟨(k+1,a2,b2,some i'),i6,?_,inv ⟨a8,hlt,?_,λi hi=>(by cases hi;exact⟨a8,by omega⟩),λe=>(by cases e),?_,?_⟩,by simp only;omega⟩
   ·dsimp only;rw[hnx1,hnx2, <- hE', <- hmk];rw[<- hX1]at hN2 ⊢;exact A1o hcc0 hnc hN2
   ·dsimp only;rw[hnx1,hnx2, <- hE'];rw[<- hX1]at hN2;exact hN2.unbox hcc0 (by omega) hcf0
   ·dsimp only;rw[hz1];omega
   ·dsimp only;rw[hz2];omega
def F1t(f:Nat)(a:List DV):Option DV :=
 if f==188 then match a with
  |[.str s]=>if s==D3a then some (.lst (H8.map DV.str)) else none
  |_=>none
 else if f==212 then match a with
  |[.str s,.int .u8 z]=>if((UInt8.ofNat z.toNat).toNat:Int)==z then some (I64 (Lib.indexByte s (UInt8.ofNat z.toNat))) else none
  |_=>none
 else if f==211 then match a with
  |[.str s,.int .i64 x,.int .i64 y]=>if x==10&&y==64&&s != []&&Nat.ble s.length 100&&s.all dgB&&Nat.ble (Y3 s) 9223372036854775807 then some (.tup [I64 (Y3 s),.inil]) else none
  |_=>none
 else none
theorem E3y:F2b Tryz.prog F1t:=by
 intro f a r h;unfold F1t at h;split at h
 ·rename_i e;obtain rfl:=eq_of_beq e;split at h
  ·split at h
   ·rename_i e;obtain rfl:=eq_of_beq e;cases h;exact c_Fields
   ·cases h
  ·cases h
 ·split at h
  ·rename_i e;obtain rfl:=eq_of_beq e;split at h
   ·split at h
    ·rename_i s z e;cases h;have:=c_IndexByte s (UInt8.ofNat z.toNat)
     rwa [eq_of_beq e]at this
    ·cases h
   ·cases h
  ·split at h
   ·rename_i e;obtain rfl:=eq_of_beq e;split at h
    ·split at h
     ·rename_i s x y e;simp only[A0G,A1S,bne_iff_ne,ne_eq,A0R]at e;obtain⟨⟨⟨⟨⟨e1,e2⟩,e3⟩,e4⟩,e5⟩,e6⟩:=e;cases h;subst e1 e2;exact c_ParseOk s (A1B (A0F e4) (by decide)) e5 e3 (A0F e6)
     ·cases h
    ·cases h
   ·cases h
theorem c_sane34:PC Tryz.prog 11 [] (.bool true):=PC.run A3 F1t E3y 3000 60 _ _ _ rfl rfl (by kernel_rfl)
end Go.Proofs.YtnkkfehegdplgaaGreatDoor
set_option maxHeartbeats 4000000
namespace Go.Proofs.YtnkkfehegdplgaaGreatDoor
open Go.Eng (IC IOper DReg IFn P0)
open Go.Sym
abbrev x12:XT Tryz.prog 12:=mkF
instance t12:FT Tryz.prog 12 x12.d:=x12.ft
abbrev x33:XT Tryz.prog 33:=mkF
instance t33:FT Tryz.prog 33 x33.d:=x33.ft
abbrev x70:XT Tryz.prog 70:=mkF
instance t70:FT Tryz.prog 70 x70.d:=x70.ft
abbrev x168:XT Tryz.prog 168:=mkF
instance t168:FT Tryz.prog 168 x168.d:=x168.ft
abbrev x167:XT Tryz.prog 167:=mkF
instance t167:FT Tryz.prog 167 x167.d:=x167.ft
abbrev x118:XT Tryz.prog 118:=mkF
instance t118:FT Tryz.prog 118 x118.d:=x118.ft
abbrev x71:XT Tryz.prog 71:=mkF
instance t71:FT Tryz.prog 71 x71.d:=x71.ft
abbrev x35:XT Tryz.prog 35:=mkF
instance t35:FT Tryz.prog 35 x35.d:=x35.ft
abbrev x14:XT Tryz.prog 14:=mkF
instance t14:FT Tryz.prog 14 x14.d:=x14.ft
abbrev x4:XT Tryz.prog 4:=mkF
instance t4:FT Tryz.prog 4 x4.d:=x4.ft
end Go.Proofs.YtnkkfehegdplgaaGreatDoor
end

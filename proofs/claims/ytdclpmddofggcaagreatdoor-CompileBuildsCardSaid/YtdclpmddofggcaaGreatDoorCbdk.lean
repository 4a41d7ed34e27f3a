/-
  HELPERS of the claim: part 11 of its texts.
-/
import Derived.Test.YtdclpmddofggcaaGreatDoorCbdj
import Derived.Shelf.SlSortCmp.NoneTotal
noncomputable section
set_option linter.unusedVariables false
set_option linter.unusedSimpArgs false
namespace Go.Proofs.YtdclpmddofggcaaGreatDoor
open Go.Sym Go.Lib Go.Pb Go.So Go.Sort Go.Proofs
theorem c_Sort0{H:Hp}{c:Nat}:AC Tryz.prog 59 [.snil,.func 60 [] []] H c (λv H' c'=>v=.tup []/\H'=H):=by
 refine⟨i6,fun ρ w args' hR hf hA=>?_⟩;obtain⟨v0,e0,r0⟩:=hA.get (i:=0) rfl;obtain⟨v1,e1,r1⟩:=hA.get (i:=1) rfl;have hargs:args' = #[v0,v1]:=by
  have hs:args'.size=2:=hA.1.symm;apply Array.ext (by simpa using hs);intro i h1 h2;have:i=0\/i=1:=b8
  rcases this with rfl|rfl
  ·simpa using (A0X.1 e0).2
  ·simpa using (A0X.1 e1).2
 subst hargs;cases r0 with
 |snil =>
 refine(AnyF.slices_SortFunc_none Tryz.sortP none 0 v1 w).mono ?_;rintro ex w' ⟨rfl,rfl⟩;exact⟨_,_,_,c, ρ,rfl,⟨rfl,rfl⟩,.tup _ _ rfl (λi x y hx hy=>by cases hx),hR,hf,A0D _,λ_ _ h=>h,λ_ _=>rfl,Ext.refl _ _ _⟩
end Go.Proofs.YtdclpmddofggcaaGreatDoor
set_option maxHeartbeats 4000000
set_option maxRecDepth 100000
namespace Go.Proofs.YtdclpmddofggcaaGreatDoor
open Go.Eng (IC IOper DReg IFn L4)
open Go.Sym Go.Pb
theorem C7m(b:List (List Pb.St)):cellsL (b.map F5)=b.map F5:=by
 induction b with
 |nil=>rfl
 |cons x b ih=>rw[A0U];show DV.cells (F5 x)++cellsL (b.map F5)=_;rw[ih];rfl
theorem E0p(l:List F4):∀d∈pvC l,d.one=true:=by
 intro d hd;obtain⟨p, -,hp⟩:=List.mem_flatMap.1 hd;simp only[pcC,A1N,A4D,or_false]at hp;rcases hp with rfl|rfl|rfl|rfl|rfl<;>rfl
theorem D0e:∀(is:List Nat) (l:List F4), ∀d∈ptC is l,d.one=true
 |i::is,p::l,d,hd=>by
  rw[ptC]at hd;rcases A1Q.1 hd with hd|hd
  ·simp only[pcC,A1N,A4D,or_false]at hd;rcases hd with rfl|rfl|rfl|rfl|rfl<;>rfl
  ·exact D0e is l d hd
 |[],_,d,hd=>by cases hd
 |_::_,[],d,hd=>by cases hd
theorem C9q(a b:List F4):pvC (a++b)=pvC a++pvC b:=by simp[pvC]
theorem E6c{G:Hp}{i:Nat}{ds:List DV}(hGi:G i=none):∀(is:List Nat) (l pre:List F4),is.length=l.length->is.Nodup->i ∉ is->(∀j∈is,G j=none) ->
  GL ((A1l G is l).upd i ⟨5,true,pvC pre++ptC is l⟩) ds (G.upd i ⟨5,true,pvC (pre++l)⟩) ds
 |[],[],pre,_,_,_,_=>by rw[A0Y];simp only[A1l,ptC,A0Y];exact GL.refl _ _
 |j::is,p::l,pre,hl,hn,hi,hg=>by
  obtain⟨n1,n2⟩:=A3L.1 hn;have hji:j≠i:=λe=>hi (by rw[e];exact A0M);have ih:=E6c (ds:=ds) hGi is l (pre++[p]) (Nat.succ.inj hl) n2 (λhm=>hi (A0H _ hm)) (λq hq=>hg q (A0H _ hq));rw[A0O,List.singleton_append]at ih;have hF:A1l G is l j=none:=by rw[B5u n1];exact hg j A0M
  have g:=D6h (H:=(A1l G (j::is) (p::l)).upd i ⟨5,true,pvC pre++ptC (j::is) (p::l)⟩) (a:=j) (k:=i) (u:=1) (u':=1) (w:=5) (n:=p.2.length) (pre:=pvC pre++[I64 p.1.mode,I64 p.1.trig,I64 p.1.ix,I64 0]) (suf:=ptC is l) (xs:=p.2.map F5) (junk:=[]) (ds:=ds)
   (by rw[A0,ptC];simp[pcC]) (by rw[h_ne hji,A1l,A0,C7m,A0Y]) (λd hd=>by
    rcases A1Q.1 hd with hd|hd
    ·rcases A1Q.1 hd with hd|hd
     ·exact E0p pre d hd
     ·simp only[A1N,A4D,or_false]at hd;rcases hd with rfl|rfl|rfl|rfl<;>rfl
    ·exact D0e is l d hd) (by simp) (λx hx=>by obtain⟨y, -,rfl⟩:=A1D.1 hx;rfl) hji
  refine g.trans ?_;have e:(((A1l G (j::is) (p::l)).upd i ⟨5,true,pvC pre++ptC (j::is) (p::l)⟩).del j).upd i ⟨5,true,pvC pre++[I64 p.1.mode,I64 p.1.trig,I64 p.1.ix,I64 0]++[.lst (p.2.map F5)]++ptC is l⟩=(A1l G is l).upd i ⟨5,true,pvC (pre++[p])++ptC is l⟩:=by
   funext k
   by_cases ek:k=i
   ·subst ek;rw[A0,A0,C9q];simp[pvC,pcC]
   ·rw[h_ne ek,h_ne ek];by_cases ej:k=j
    ·subst ej;rw[hF];simp[Hp.del]
    ·rw[D5 ej,h_ne ek,A1l,h_ne ej]
  rw[e];exact ih
abbrev paV(p:F4):DV:=.agg (pcC p.1 (A4v p.2))
abbrev C6c(l:List F4):DV:=.lst (l.map paV)
theorem D3h(l:List F4):cellsL (l.map paV)=pvC l:=by
 induction l with
 |nil=>rfl
 |cons p l ih =>
  rw[A0U];show DV.cells (paV p)++cellsL (l.map paV)=_;rw[ih,show p::l=[p]++l from rfl,C9q];simp[pvC,paV,pcC,DV.cells,cellsL]
theorem c_parts(gs:List DV)(ks vs:List DV)(nm:List UInt8->Int)(hm:∀s,Sym.lkV (I64 0) false vs (F8 (.str s) ks 0)=some (I64 (nm s)))(hgs:gs[7]? = some (.mp .s ks vs))(D:List Dc)(M:List Md)(hs:(M.map λm=>m.hds.length).sum+M.length<=1000000)
  (H:Hp) (c t:Nat) (ht:H t=some ⟨0,true,gs⟩) (htc:t<c) (hl:(J5 [] (hkM nm 0 M)).length<=1000000) :
  AC Tryz.prog 27 [.ptr t 0,.agg [D0 D,D8 M]] H c (λv H' c'=>H'=H/\∃l',(J5 [] (hkM nm 0 M)).Perm l'/\D7h l'/\v=C6c l'):=by
 obtain⟨L,hL⟩:∃L,L=J5 [] (hkM nm 0 M):=⟨_,rfl⟩;rw[<- hL]at hl;refine⟨i6,fun ρ w args' hR hf hA=>?_⟩;have hHn:∀j,c<=j->H j=none:=λj hj=>by
  cases h:H j with
  |none=>rfl
  |some b=>obtain⟨t,h1, -⟩:=hR.blk j b h;rw[hf j hj]at h1;cases h1
 refine(c_gather gs ks vs nm hm hgs D M hs H c t ht htc _ ?_).2 ρ w args' hR hf hA;intro o is c1 hc1 hN;rw[<- hL]at hN ⊢;obtain⟨G,hG⟩:∃G:Hp,G=H.upd c ⟨0,true,[D0 D,D8 M]⟩:=⟨_,rfl⟩;rw[<- hG]at hN ⊢;cases o with
 |none =>
  have hLn:=hN.no rfl;subst hLn;refine wAp ?_;refine AC.call c_Sort0 ?_;rintro _ _ c2 ⟨rfl,rfl⟩ hc2;refine wAq ?_;have his:is=[]:=A2K.1 hN.len;subst his;have g:GL (PM G none [] []) [.snil] H [.lst []]:=(GL.less' (λj b hj=>by
   show G j=some b;rw[hG,h_ne (by rintro rfl;rw[hHn _ (A0D _)]at hj;cases hj)];exact hj)).trans (GL.view fun ρ vs hA=>M6 (λv h=>h.snil_lst) vs hA)
  exact⟨_,_,g,rfl,[],.nil,.nil,rfl⟩
 |some i =>
  have hi:=hN.fo i rfl;have hnm:i ∉ is:=λhm=>(hN.fi i hm).2.2 rfl;have hic:i≠c:=λe=>by have h:=hi.2;rw[e,hG,A0]at h;cases h
  have g:GL (PM G (some i) is L) [.slc i 0 L.length] (G.upd i ⟨5,true,pvC L⟩) [.slc i 0 L.length]:=E6c hi.2 is L [] hN.len hN.nd hnm (λj hj=>(hN.fi j hj).2.1);refine IW.keep [5] [.slc i 0 L.length] g ?_;have hb:(G.upd i ⟨5,true,pvC L⟩) i=some ⟨5,true,pvC L⟩:=A0;refine wAp ?_;refine AC.call (c_Sort1 hb hl) ?_;rintro _ _ c2 ⟨rfl,l',q1,q2,rfl⟩ hc2;refine wAq ?_;rw[A1];have hl':l'.length=L.length:=q1.length_eq.symm;have g2:GL (G.upd i ⟨5,true,pvC l'⟩) [.slc i 0 L.length] H [C6c l']:=GL.frzS (id:=i) A0 rfl (λj=>by
   by_cases ej:j=i
   ·subst ej;left;have h:=hi.2;rw[hG,h_ne hic]at h;exact h
   ·by_cases ec:j=c
    ·subst ec;left;exact hHn _ (A0D _)
    ·right;exact⟨ej,by rw[h_ne ej,hG,h_ne ec]⟩) (.cons _ _ _ _ (Q2 (u:=5) (by rw[A0I,hl']) (λx hx=>by obtain⟨y, -,rfl⟩:=A1D.1 hx;rfl) ⟨[],by rw[D3h,A0Y]⟩) .nil)
  exact⟨_,_,g2,rfl,l',q1,q2,rfl⟩
end Go.Proofs.YtdclpmddofggcaaGreatDoor
set_option maxHeartbeats 8000000
namespace Go.Proofs.YtdclpmddofggcaaGreatDoor
open Go.Eng (IC IOper DReg IFn L4)
open Go.Sym Go.Pb
abbrev C6r(l:List (List UInt8 × (Int × Int))):Blk:=⟨0,true,[.mpc .s (mkK (A0s l)) (mvV (A0s l))]⟩
theorem c_set(n:List UInt8)(q:Int × Int)(l:List (List UInt8 × (Int × Int)))(H:Hp)(cc b t:Nat)(hb:H b=some ⟨0,true,[.mid t]⟩)(ht:H t=some (C6r l))(hbc:b<cc)(htc:t<cc):
  AC Tryz.prog 107 [.str n,A7q q,.ptr b 0] H cc (λv H' c'=>v=.tup []/\H'=H.upd t (C6r (Z5 l n q))):=by
 refine AC.go A2 λhfr=>?_;have hbt:b≠t:=λe=>by rw[e,ht]at hb;cases hb
 cases hl:l.lookup n with
 |some y =>
  have hs:Z5 l n q=l:=by rw[Z5,if_pos (by rw[hl];rfl)]
  have h1:Sym.lkV (.agg [I64 0,I64 0]) true (mvV (A0s l)) (F8 (.str n) (mkK (A0s l)) 0)=some (.tup [A7q y,.bool true]):=A6j (ok:=true) (by rw[A0k,hl];rfl);unfold A7q at h1 ⊢;rw[hs,upd_same ht];have ne0:=V3 b t cc (cc+1) (by omega);refine wA5 hb ht h1 ne0 @A0 @A1 ?_;refine⟨_,_,GL.less' λj b hj=>?_,rfl,rfl⟩;have:=B5o hfr hj;have h2:j≠cc+1:=by rintro rfl;rw[hfr _ (by omega)]at hj;cases hj
  rw[h_ne h2,h_ne this];exact hj
 |none =>
  have hs:Z5 l n q=l++[(n,q)]:=by rw[Z5,if_neg (by rw[hl];simp)]
  have hl':(A0s l).lookup n=none:=by rw[A0k,hl];rfl
  have h1:Sym.lkV (.agg [I64 0,I64 0]) true (mvV (A0s l)) (F8 (.str n) (mkK (A0s l)) 0)=some (.tup [.agg [I64 0,I64 0],.bool false]):=A6k (ok:=true) hl';have h2:=C4g hl';have e1:mkK (A0s (l++[(n,q)]))=mkK (A0s l)++[.str n]:=by simp[mkK,A0s]
  have e2:mvV (A0s (l++[(n,q)]))=mvV (A0s l)++[A7q q]:=by simp[mvV,A0s]
  unfold A7q at e2 ⊢;rw[hs];unfold C6r;rw[e1,e2];have ne0:=V3 b t cc (cc+1) (by omega);refine wA7 hb ht h1 h2 ne0 @A0 @A1 ?_;refine⟨_,_,GL.less' λj b hj=>?_,rfl,rfl⟩;by_cases e:j=t
  ·subst e;rw[A0]at hj ⊢;exact hj
  ·rw[h_ne e]at hj ⊢;have:=B5o hfr hj;have h2:j≠cc+1:=by rintro rfl;rw[hfr _ (by omega)]at hj;cases hj
   rw[h_ne h2,h_ne this];exact hj
def nmH(D:List Dc)(M:List Md)(l:List (List UInt8 × (Int × Int)))(a:List (Int × Nat)):Hp:=(((Sym.nil.upd 0 ⟨0,true,[D0 D,D8 M]⟩).upd 1 (C6r l)).upd 2 ⟨0,true,[.mid 1]⟩).upd 3 ⟨0,true,[.mpc (.i .i64) (ahK a) (ahV a)]⟩
section
variable {D:List Dc} {M:List Md} {l:List (List UInt8 × (Int × Int))} {a:List (Int × Nat)}
theorem E0x:nmH D M l a 0=some ⟨0,true,[D0 D,D8 M]⟩:=rfl
theorem D5d:nmH D M l a 1=some (C6r l):=rfl
theorem D5c:nmH D M l a 2=some ⟨0,true,[.mid 1]⟩:=rfl
theorem E0w:nmH D M l a 3=some ⟨0,true,[.mpc (.i .i64) (ahK a) (ahV a)]⟩:=rfl
theorem E0v(j:Nat)(h:4<=j):nmH D M l a j=none:=by
 unfold nmH;rw[hnO,hnO,hnO,hnO];rfl
theorem A7l{H:Hp}(h0:H 0=some ⟨0,true,[D0 D,D8 M]⟩)(h1:H 1=some (C6r l))(h2:H 2=some ⟨0,true,[.mid 1]⟩)(h3:H 3=some ⟨0,true,[.mpc (.i .i64) (ahK a) (ahV a)]⟩):Sym.Sub (nmH D M l a) H:=by
 intro j b hj;have hlt:j<4:=A1S λh=>by rw[E0v j h]at hj;cases hj
 match j,hlt with
 |0,_=>rw[h0];exact hj
 |1,_=>rw[h1];exact hj
 |2,_=>rw[h2];exact hj
 |3,_=>rw[h3];exact hj
end
theorem E0u(r:Ru):(nmV r).nl=true:=by
 unfold nmV mkK mvV A0s;simp only[DV.nl];rw[A3U,A3U];rw[show((λp:List UInt8 × DV=>DV.str p.1)∘λp:List UInt8 × (Int × Int)=>(p.1,A7q p.2))=λp=>DV.str p.1 from rfl,show((λp:List UInt8 × DV=>p.2)∘λp:List UInt8 × (Int × Int)=>(p.1,A7q p.2))=λp=>A7q p.2 from rfl];rw[L5 (λ_=>rfl),L5 (λ_=>rfl)];rfl
theorem c_names(r:Ru)(h1:r.decls.length<=1000000000)(h2:r.modes.length<=1000000000):PC Tryz.prog 49 [r.v] (nmV r):=by
 refine PC.ofT A2 rfl (A0C rfl) (by simp[Ru.v,DV.nlL,DV.nl,K4,K3]) (E0u _) ?_;obtain⟨R,hR⟩:∃R,R=nmL r:=⟨_,rfl⟩;unfold nmV;rw[<- hR];unfold nmL at hR;obtain⟨D,M⟩:=r;dsimp only at h1 h2 hR;dsimp only[Ru.v];refine wAs @B2e ?_;refine B6 (λq:Nat × List (List UInt8 × (Int × Int))=>[(1,.ptr 0 0),(3,.ptr 2 0),(4,.mid 3),(5,.func 107 [] [.ptr 2 0]),(15,D0 D),(16,I64 D.length),(17,I64 q.1)]) (λq=>nmH D M q.2 (ahM (D.take q.1)))
  (λq c=>4<=c/\q.1<=D.length/\nmD [] [] D=nmD (D.take q.1) q.2 (D.drop q.1)) (λq=>D.length-q.1) (0,[])
  (by simp[B5,tm,Tm.upd]) (A7l rfl rfl rfl rfl) ⟨b8,A0N _,rfl⟩ ?_
 rintro⟨i,l⟩ c ⟨h1c,hk,he⟩;dsimp only at hk he ⊢;by_cases hlt:i<D.length
 ·have hd:=dtz hlt;have hg:=A0B hlt;have hw:=w64 (n:=(i:Int)+1);rw[B7z hg]at he;have hah:ahM (D.take (i+1))=ahS (ahM (D.take i)) D[i].kind:=by rw[A0R,hg];exact B2o _ _
  have hlk:=C5k D[i].kind (ahM (D.take i));have hmu:=D8d D[i].kind (ahM (D.take i));have hcn:=C2m (D.take i) D[i].kind;have hcl:=C2c (D.take i) D[i].kind;rw[A0W]at hcl;generalize D[i]=d at hg he hah hlk hmu hcn hcl;rw[hcn]at hlk hmu;have hw2:=w64 (n:=(cnD (D.take i) d.kind:Int)+1);have hb0:nmH D M l (ahM (D.take i)) 0=_:=E0x;have hb1:nmH D M l (ahM (D.take i)) 1=_:=D5d;have hb2:nmH D M l (ahM (D.take i)) 2=_:=D5c;have hb3:nmH D M l (ahM (D.take i)) 3=_:=E0w;have hbn:∀j,4<=j->nmH D M l (ahM (D.take i)) j=none:=λj=>E0v j;generalize nmH D M l (ahM (D.take i))=HH at hb0 hb1 hb2 hb3 hbn ⊢;have ne0:=A7n 0 1 2 3 c (c+1) (by omega);by_cases hkk:d.kind=6\/d.kind=7\/d.kind=8
  ·have hnum:W0 (D.take i) d=(cnD (D.take i) d.kind:Int):=by rw[W0,if_pos hkk]
   rw[hnum]at he;by_cases k6:d.kind=6
   ·have k6:(d.kind==6)=true:=by simpa using k6
    refine wAr (wJ hb0 (wJ hb1 (wJ hb2 (wJ hb3 (wJ hd (wJ hg (wJ hw (wJ hw2 (wJ hlk (wJ hmu (wJ k6 (wJ @A1m (wJ ne0 (wJ @A0 @A1)))))))))))))) ?_;refine AC.call (c_set d.name (d.kind,(cnD (D.take i) d.kind:Int)) l _ _ 2 1 (by rw[hnO,hnO,hnO];exact hb2) (by rw[hnO,hnO,hnO];exact hb1) (by omega) (by omega)) ?_;rintro v H' c' ⟨rfl,rfl⟩ hcc;refine wAu hw ?_;refine⟨(i+1,Z5 l d.name (d.kind,(cnD (D.take i) d.kind:Int))),b9,?_,inv ⟨b8,b8,he⟩,by simp only;omega⟩;dsimp only;rw[hah];refine A7l ?_ A0 ?_ ?_
    ·rw[hnO,hnO,hnO,hnO];exact hb0
    ·rw[hnO,hnO,hnO,hnO];exact hb2
    ·rw[hnO,A0]
   have k6:(d.kind==6)=false:=by simpa using k6
   by_cases k7:d.kind=7
   ·have k7:(d.kind==7)=true:=by simpa using k7
    refine wAr (wJ hb0 (wJ hb1 (wJ hb2 (wJ hb3 (wJ hd (wJ hg (wJ hw (wJ hw2 (wJ hlk (wJ hmu (wJ k6 (wJ k7 (wJ @A1m (wJ ne0 (wJ @A0 @A1))))))))))))))) ?_;refine AC.call (c_set d.name (d.kind,(cnD (D.take i) d.kind:Int)) l _ _ 2 1 (by rw[hnO,hnO,hnO];exact hb2) (by rw[hnO,hnO,hnO];exact hb1) (by omega) (by omega)) ?_;rintro v H' c' ⟨rfl,rfl⟩ hcc;refine wAu hw ?_;refine⟨(i+1,Z5 l d.name (d.kind,(cnD (D.take i) d.kind:Int))),b9,?_,inv ⟨b8,b8,he⟩,by simp only;omega⟩;dsimp only;rw[hah];refine A7l ?_ A0 ?_ ?_
    ·rw[hnO,hnO,hnO,hnO];exact hb0
    ·rw[hnO,hnO,hnO,hnO];exact hb2
    ·rw[hnO,A0]
   have k7:(d.kind==7)=false:=by simpa using k7
   have k8:(d.kind==8)=true:=by simp at k6 k7 ⊢;omega
   refine wAr (wJ hb0 (wJ hb1 (wJ hb2 (wJ hb3 (wJ hd (wJ hg (wJ hw (wJ hw2 (wJ hlk (wJ hmu (wJ k6 (wJ k7 (wJ k8 (wJ @A1m (wJ ne0 (wJ @A0 @A1)))))))))))))))) ?_;refine AC.call (c_set d.name (d.kind,(cnD (D.take i) d.kind:Int)) l _ _ 2 1 (by rw[hnO,hnO,hnO];exact hb2) (by rw[hnO,hnO,hnO];exact hb1) (by omega) (by omega)) ?_;rintro v H' c' ⟨rfl,rfl⟩ hcc;refine wAu hw ?_;refine⟨(i+1,Z5 l d.name (d.kind,(cnD (D.take i) d.kind:Int))),b9,?_,inv ⟨b8,b8,he⟩,by simp only;omega⟩;dsimp only;rw[hah];refine A7l ?_ A0 ?_ ?_
   ·rw[hnO,hnO,hnO,hnO];exact hb0
   ·rw[hnO,hnO,hnO,hnO];exact hb2
   ·rw[hnO,A0]
  ·have hnum:W0 (D.take i) d=d.value:=by rw[W0,if_neg hkk]
   rw[hnum]at he;have k6:(d.kind==6)=false:=a8
   have k7:(d.kind==7)=false:=a8
   have k8:(d.kind==8)=false:=a8
   refine wAr (wJ hb0 (wJ hb1 (wJ hb2 (wJ hb3 (wJ hd (wJ hg (wJ hw (wJ hw2 (wJ hlk (wJ hmu (wJ k6 (wJ k7 (wJ k8 (wJ @A1m (wJ ne0 (wJ @A0 @A1)))))))))))))))) ?_;refine AC.call (c_set d.name (d.kind,d.value) l _ _ 2 1 (by rw[hnO,hnO,hnO];exact hb2) (by rw[hnO,hnO,hnO];exact hb1) (by omega) (by omega)) ?_;rintro v H' c' ⟨rfl,rfl⟩ hcc;refine wAu hw ?_;refine⟨(i+1,Z5 l d.name (d.kind,d.value)),b9,?_,inv ⟨b8,b8,he⟩,by simp only;omega⟩;dsimp only;rw[hah];refine A7l ?_ A0 ?_ ?_
   ·rw[hnO,hnO,hnO,hnO];exact hb0
   ·rw[hnO,hnO,hnO,hnO];exact hb2
   ·rw[hnO,A0]
 have hd:=dfz hlt;rw[A1L (by omega),nmD]at he;rw[he]at hR;refine wA1 hd @E0x @D5d @D5c @E0w ?_;clear he hd hlt hk;generalize ahM (D.take i)=A;clear i;refine B6 (λq:Nat × List (List UInt8 × (Int × Int))=>[(3,.ptr 2 0),(5,.func 107 [] [.ptr 2 0]),(56,D8 M),(57,I64 M.length),(58,I64 q.1)]) (λq=>nmH D M q.2 A)
  (λq c=>4<=c/\q.1<=M.length/\R=nmX q.1 q.2 (M.drop q.1)) (λq=>M.length-q.1) (0,l)
  (by simp[B5,tm,Tm.upd]) (Sub.refl _) ⟨h1c,A0N _,hR⟩ ?_
 clear hR h1c c l;rintro⟨i,l⟩ c ⟨h1c,hk,he⟩;dsimp only at hk he ⊢;by_cases hlt:i<M.length
 ·have hd:=dtz hlt;have hg:=A0B hlt;have hw:=w64 (n:=(i:Int)+1);rw[B7y hg]at he;generalize M[i]=d at hg he;have hb0:nmH D M l A 0=_:=E0x;have hb1:nmH D M l A 1=_:=D5d;have hb2:nmH D M l A 2=_:=D5c;have hb3:nmH D M l A 3=_:=E0w;have hbn:∀j,4<=j->nmH D M l A j=none:=λj=>E0v j;generalize nmH D M l A=HH at hb0 hb1 hb2 hb3 hbn ⊢;have ne0:=A7n 0 1 2 3 c (c+1) (by omega);refine wAr (wJ hb0 (wJ hb1 (wJ hb2 (wJ hb3 (wJ hd (wJ hg (wJ hw (wJ @A7r (wJ ne0 (wJ @A0 @A1)))))))))) ?_;refine AC.call (c_set d.name (9,(i:Int)) l _ _ 2 1 (by rw[hnO];exact hb2) (by rw[hnO];exact hb1) (by omega) (by omega)) ?_;rintro v H' c' ⟨rfl,rfl⟩ hcc;refine wAu hw ?_;refine⟨(i+1,Z5 l d.name (9,(i:Int))),b9,?_,inv ⟨b8,b8,he⟩,by simp only;omega⟩;refine A7l ?_ A0 ?_ ?_
  ·rw[hnO,hnO];exact hb0
  ·rw[hnO,hnO];exact hb2
  ·rw[hnO,hnO];exact hb3
 have hd:=dfz hlt;rw[A1L (by omega),nmX]at he;subst he;have hb2:nmH D M R A 2=_:=D5c;refine wAr (wJ hd hb2) ?_;exact B0u D5d
def ckB(r:Ru)(s:Int × Int):Blk:=⟨0,true,[nmV r,I64 s.1,I64 s.2]⟩
theorem D2u{r:Ru}{n:List UInt8}{k p:Int}(h:k=0\/(K0 r n).1=k):dnE r n k p=none:=by unfold dnE dnM;rw[if_pos h];rfl
theorem E7a{r:Ru}{n:List UInt8}{k p:Int}(h:¬(k=0\/(K0 r n).1=k))(h2:(K0 r n).1=0):dnE r n k p=some (p,8):=by unfold dnE dnM;rw[if_neg h,if_pos h2];rfl
theorem E7b{r:Ru}{n:List UInt8}{k p:Int}(h:¬(k=0\/(K0 r n).1=k))(h2:¬(K0 r n).1=0):dnE r n k p=some (p,44):=by unfold dnE dnM;rw[if_neg h,if_neg h2];rfl
theorem B5t{H:Hp}{cc t:Nat}{b b':Blk}{ds:List DV}(hfr:∀i,cc<=i->H i=none)(htc:t<cc):GL ((H.upd cc b).upd t b') ds (H.upd t b') ds:=GL.less' λj q hj=>by
 by_cases e:j=t
 ·subst e;rw[A0]at hj ⊢;exact hj
 ·rw[h_ne e]at hj ⊢;rw[h_ne (B5o hfr hj)];exact hj
theorem c_inE32(k:Int):PC Tryz.prog 151 [I64 k] (I64 (kdE k)):=by
 refine PC.go A2 ?_;repeat'((with_reducible first|apply wr|refine B0 ?_ ?_|apply wb2<;>(intro hb;try simp only[hb]))<;>try simp only[go_sem,seval])
 all_goals(refine A3 (congrArg I64 ?_);simp_all[kdE])
theorem c_inS32(k:Int):PC Tryz.prog 111 [I64 k] (I64 (kdS k)):=by
 refine PC.go A2 ?_;repeat'((with_reducible first|apply wr|refine B0 ?_ ?_|apply wb2<;>(intro hb;try simp only[hb]))<;>try simp only[go_sem,seval])
 all_goals(refine A3 (congrArg I64 ?_);simp_all[kdS])
theorem c_inH32(k:Int):PC Tryz.prog 52 [I64 k] (I64 (kdH k)):=by
 refine PC.go A2 ?_;repeat'((with_reducible first|apply wr|refine B0 ?_ ?_|apply wb2<;>(intro hb;try simp only[hb]))<;>try simp only[go_sem,seval])
 all_goals(refine A3 (congrArg I64 ?_);simp_all[kdH])
theorem c_most32(k:Int):PC Tryz.prog 109 [I64 k] (I64 (A4r k)):=by
 refine PC.go A2 ?_;repeat'((with_reducible first|apply wr|refine B0 ?_ ?_|apply wb2<;>(intro hb;try simp only[hb]))<;>try simp only[go_sem,seval])
 all_goals(refine A3 (congrArg I64 ?_);simp_all[A4r])
theorem c_truth32(k:Int):PC Tryz.prog 152 [I64 k] (.bool (D3z k)):=by
 refine PC.go A2 ?_;repeat'((with_reducible first|apply wr|refine B0 ?_ ?_|apply wb2<;>(intro hb;try simp only[hb]))<;>try simp only[go_sem,seval])
 all_goals(refine A3 (congrArg DV.bool ?_);simp_all[D3z]<;>omega)
theorem c_typ32(k:Int)(h:k<=24):PC Tryz.prog 113 [I64 k] (I64 (O3 k)):=by
 refine PC.go A2 ?_;have ht:=c_truth32 k;rw[D3y h]at ht;repeat'((with_reducible first|apply wr|refine cpc ht ?_|refine B0 ?_ ?_|apply wb2<;>(intro hb;try simp only[hb]))<;>try simp only[go_sem,seval])
 all_goals(refine A3 (congrArg I64 ?_);simp_all[O3])
theorem c_fail32(r:Ru)(s:Int × Int)(H:Hp)(cc t:Nat)(ht:H t=some (ckB r s))(htc:t<cc)(p e:Int):AC Tryz.prog 55 [.ptr t 0,I64 p,I64 e] H cc (λv H' c'=>v=.tup []/\H'=H.upd t (ckB r (upS s (some (p,e))))):=by
 refine AC.go A2 λhfr=>?_;unfold ckB at ht ⊢;cases h:(s.2==0) with
 |true =>
  have e0:upS s (some (p,e))=(p,e):=by unfold upS;rw[if_pos (by simpa using h)];rfl
  rw[e0];refine wAz ht h @A0 @A1 ?_;exact⟨_,_,GL.refl _ _,rfl,rfl⟩
 |false =>
  have e0:upS s (some (p,e))=s:=by unfold upS;rw[if_neg (by simpa using h)]
  rw[e0,upd_same ht];refine wAz ht h @A0 @A1 ?_;exact⟨_,_,GL.refl _ _,rfl,rfl⟩
theorem c_den32(r:Ru)(hk:A0b r.decls)(s:Int × Int)(H:Hp)(cc t:Nat)(ht:H t=some (ckB r s))(htc:t<cc)(n:List UInt8)(k p:Int):AC Tryz.prog 51 [.ptr t 0,.str n,I64 k,I64 p] H cc (λv H' c'=>v=.tup []/\H'=H.upd t (ckB r (upS s (dnE r n k p)))):=by
 refine AC.go A2 λhfr=>?_;have ht':=ht;unfold ckB nmV at ht';have ne0:=Q8 t cc (by omega);cases hl:(nmL r).lookup n with
 |some q =>
  obtain⟨h1,h2⟩:=C3x hk hl;have hlk:Sym.lkV (.agg [I64 0,I64 0]) true (mvV (A0s (nmL r))) (F8 (.str n) (mkK (A0s (nmL r))) 0)=some (.tup [A7q q,.bool true]):=A6j (ok:=true) (by rw[A0k,hl];rfl);unfold A7q at hlk;by_cases hk0:k=0
  ·subst hk0;have e0:dnE r n 0 p=none:=D2u (.inl rfl);rw[e0,N3,upd_same ht];refine wA2 ht' hlk ne0 @A0 @A1 ?_;exact⟨_,_,W3 hfr,rfl,rfl⟩
  have q0:(k==0)=false:=by simpa using hk0
  by_cases hq:q.1=k
  ·have e0:dnE r n k p=none:=D2u (.inr (by rw[h1];exact hq));rw[e0,N3,upd_same ht];have q1:(q.1 != k)=false:=by simp[hq]
   refine wA7 ht' hlk q0 q1 ne0 @A0 @A1 ?_;exact⟨_,_,W3 hfr,rfl,rfl⟩
  ·have e0:dnE r n k p=some (p,44):=E7b (by rw[h1];simp[hk0,hq]) (by rw[h1];exact h2);rw[e0];have q1:(q.1 != k)=true:=by simp[hq]
   refine wA7 ht' hlk q0 q1 ne0 @A0 @A1 ?_;refine AC.call (c_fail32 r s _ _ t (by rw[hnO];exact ht) (by omega) p 44) ?_;rintro v H' c' ⟨rfl,rfl⟩ hcc;refine wAq ?_;exact⟨_,_,B5t hfr htc,rfl,rfl⟩
 |none =>
  have h1:=C3y hk hl;have hlk:Sym.lkV (.agg [I64 0,I64 0]) true (mvV (A0s (nmL r))) (F8 (.str n) (mkK (A0s (nmL r))) 0)=some (.tup [.agg [I64 0,I64 0],.bool false]):=A6k (ok:=true) (by rw[A0k,hl];rfl);by_cases hk0:k=0
  ·subst hk0;have e0:dnE r n 0 p=none:=D2u (.inl rfl);rw[e0,N3,upd_same ht];refine wA2 ht' hlk ne0 @A0 @A1 ?_;exact⟨_,_,W3 hfr,rfl,rfl⟩
  have q0:(k==0)=false:=by simpa using hk0
  have e0:dnE r n k p=some (p,8):=E7a (by rw[h1];simp;omega) (by rw[h1]);rw[e0];refine wA5 ht' hlk q0 ne0 @A0 @A1 ?_;refine AC.call (c_fail32 r s _ _ t (by rw[hnO];exact ht) (by omega) p 8) ?_;rintro v H' c' ⟨rfl,rfl⟩ hcc;refine wAq ?_;exact⟨_,_,B5t hfr htc,rfl,rfl⟩
theorem A9h{G:Hp}{t c:Nat}{b0 b1 b:Blk}(hG:∀j,c<=j->G j=none)(htc:t<c):Sym.Sub (G.upd t b) (((G.upd t b0).upd c b1).upd t b):=by
 intro j q hj;by_cases e:j=t
 ·subst e;rw[A0]at hj ⊢;exact hj
 ·rw[h_ne e]at hj;have:j<c:=A1S λh=>by rw[hG j h]at hj;cases hj
  rw[h_ne e,hnO,h_ne e];exact hj
theorem C2y{G:Hp}{t c:Nat}{b0 b1:Blk}(hG:∀j,c<=j->G j=none)(htc:t<c):Sym.Sub (G.upd t b0) ((G.upd t b0).upd c b1):=by
 intro j q hj;have:j<c:=A1S λh=>by rw[hnO,hG j h]at hj;cases hj
 rw[hnO];exact hj
theorem c_exp32(r:Ru)(hk:A0b r.decls):∀(m:Nat) (e:Ex),e.sz<m->e.sz<=100000000->(∃q,msM e=some q)->∀(s:Int × Int) (H:Hp) (cc t:Nat) (ht:H t=some (ckB r s)) (htc:t<cc),
  AC Tryz.prog 112 [.ptr t 0,e.v] H cc (λv H' c'=>v=.tup []/\H'=H.upd t (ckB r (upS s (erE r e)))):=by
 intro m
 induction m with
 |zero=>intro e h;omega
 |succ m ih =>
 intro e hm hB ⟨q0,hq0⟩ s H cc t ht htc;have hal:Ex.szs e.args<e.sz:=by cases e with|mk k v n a p=>rw[Ex.sz];show Ex.szs a<_;omega
 have hargs:∀x∈e.args,x.sz<=Ex.szs e.args:=λx hx=>Ex.szs_mem hx;have hll:=Ex.szs_len e.args;have hms:=C4d hq0;have h22:=D0q hq0;have hknd:∀x∈e.args,x.kind<=24:=λx hx=>by obtain⟨q,hq⟩:=hms x hx;exact C4c hq
 rw[E6w,Ex.v_w];dsimp only[Ex.w];have ih:∀x∈e.args, ∀(s:Int × Int) (H:Hp) (cc t:Nat) (ht:H t=some (ckB r s)) (htc:t<cc),AC Tryz.prog 112 [.ptr t 0,x.v] H cc (λv H' c'=>v=.tup []/\H'=H.upd t (ckB r (upS s (erE r x)))):=λx hx=>ih x (by have:=hargs x hx;omega) (by have:=hargs x hx;omega) (hms x hx);have hk1:=c_inE32 e.kind;have hden:=λ(s:Int × Int) (H:Hp) (cc t:Nat) (ht:H t=some (ckB r s)) (htc:t<cc)=>c_den32 r hk s H cc t ht htc e.name (kdE e.kind) e.pos;generalize ek:e.kind=k at *;generalize e.value=v at *;generalize e.name=n at *;generalize e.args=a at *;generalize e.pos=p at *;refine AC.go A2 λhfr=>?_;refine wAp ?_;obtain⟨G,hG⟩:∃G,G=H.upd cc ⟨0,true,[I64 k,I64 v,.str n,J4 a,I64 p]⟩:=⟨_,rfl⟩;have hGc:∀b,(G.upd t b) cc=some ⟨0,true,[I64 k,I64 v,.str n,J4 a,I64 p]⟩:=λb=>by rw[hnO,hG,A0]
 have hGn:∀j,cc+1<=j->G j=none:=λj hj=>zag
 have hGt:G=G.upd t (ckB r s):=by rw[upd_same];rw[hG,hnO];exact ht
 rw[<- hG,hGt];refine B6 (λi:Nat=>[(0,.ptr t 0),(3,.ptr cc 0),(10,J4 a),(11,I64 a.length),(12,I64 i)]) (λi=>G.upd t (ckB r (upS s (Z8 r (a.take i))))) (λi c=>cc+1<=c/\i<=a.length) (λi=>a.length-i) 0 (by simp[B5,tm,Tm.upd]) (by rw[A1F,Z8,N3];exact Sub.refl _) ⟨b8,A0N _⟩ ?_;rintro i c ⟨h1c,hki⟩;by_cases hlt:i<a.length
 ·have hd:=dtz hlt;have hg:=A0B hlt;have hw:=w64 (n:=(i:Int)+1);have hc:=ih _ (A0K hlt);have het:=B4c (r:=r) hg;generalize a[i]=x at hg hc het;rw[Ex.v_w]at hc;have ne0:=Q8 t c (by omega);refine wA8 hd hg hw @Ex.v_w ne0 @A0 @A1 hGc ?_;refine AC.call (hc (upS s (Z8 r (a.take i))) _ _ t (by rw[hnO,A0]) (by omega)) ?_;rintro v' H' c' ⟨rfl,rfl⟩ hcc;refine wAu hw ?_;refine⟨i+1,by simp,?_,inv ⟨b8,by omega⟩,by omega⟩;rw[N2 (B7u _ _), <- het];exact A9h (λj hj=>hGn j (by omega)) (by omega)
 have hd:=dfz hlt;rw[A0J (by omega)];refine wBc hk1 (wJ hd hGc) ?_;refine⟨by and_intros<;>(rw[hnO];exact hGn _ (by omega)),?_⟩;refine AC.call (hden (upS s (Z8 r a)) _ _ t A0 (by omega)) ?_;rintro v' H' c' ⟨rfl,rfl⟩ hcc;rw[A1,N2 (B7u _ _)];obtain⟨s1,hs1⟩:∃s1,s1=upS s ((Z8 r a).or (dnE r n (kdE k) p)):=⟨_,rfl⟩;have nz1:NzE ((Z8 r a).or (dnE r n (kdE k) p)):=(B7u _ _).or (B3m _ _ _ _);rw[<- hs1, <- N2 nz1, <- hs1];clear hs1;have kL:∀c2:Nat,c+9<=c2->IW Tryz.prog 61 (.loop (pz Tryz.prog 112 (.i (.o (.i (.o (.i .h))))))) ⟨tm [(0,.ptr t 0),(3,.ptr cc 0),(6,I64 (A1p k a)),(45,J4 a),(46,I64 a.length),(47,I64 0)],G.upd t (ckB r s1),c2⟩ (bk 3 (rt [] λv H' c' => ∃v2 H2,GL H' [v] H2 [v2]/\v2=.tup []/\H2=H.upd t (ckB r (upS s1 (if(a.all λx=>O3 x.kind==A1p k a)=true then none else some (p,49)))))):=by
  intro c2 hc2;generalize A1p k a=wnt;refine B6 (λi:Nat=>[(0,.ptr t 0),(3,.ptr cc 0),(6,I64 wnt),(45,J4 a),(46,I64 a.length),(47,I64 i)]) (λi=>G.upd t (ckB r (upS s1 (if((a.take i).all λx=>O3 x.kind==wnt)=true then none else some (p,49))))) (λi c=>cc+1<=c/\i<=a.length) (λi=>a.length-i) 0 (by simp[B5,tm,Tm.upd]) (by rw[A1F,List.all_nil,if_pos rfl,N3];exact Sub.refl _) ⟨b8,A0N _⟩ ?_;rintro i c3 ⟨h3c,hki3⟩;by_cases hlt3:i<a.length
  ·have hd3:=dtz hlt3;have hg3:=A0B hlt3;have hw3:=w64 (n:=(i:Int)+1);have hat:=A4q (λx:Ex=>O3 x.kind==wnt) a i _ hg3;have hty:=c_typ32 _ (hknd _ (A0K hlt3));generalize a[i]=x at hg3 hat hty;obtain⟨o,ho⟩:∃o:Er,o=if((a.take i).all λx=>O3 x.kind==wnt)=true then none else some (p,49):=⟨_,rfl⟩
   rw[<- ho];have ne0:=M7 t c3 cc (by omega);by_cases hx:O3 x.kind=wnt
   ·have hxn:(O3 x.kind != wnt)=false:=by simp[hx]
    refine wBc hty (wJ hd3 (wJ hg3 (wJ hw3 (wJ @Ex.v_w (wJ ne0 (wJ @A0 (wJ @A1 (wJ hGc hxn)))))))) ?_;refine⟨i+1,by simp,?_,inv ⟨b8,by omega⟩,by omega⟩;rw[hat,show(O3 x.kind==wnt)=true by simpa using hx,A2U, <- ho];exact C2y (λj hj=>hGn j (by omega)) (by omega)
   ·have hxn:(O3 x.kind != wnt)=true:=by simp[hx]
    refine wBc hty (wJ hd3 (wJ hg3 (wJ hw3 (wJ @Ex.v_w (wJ ne0 (wJ @A0 (wJ @A1 (wJ hGc hxn)))))))) ?_;refine AC.call (c_fail32 r (upS s1 o) _ _ t (by rw[hnO,A0]) (by omega) p 49) ?_;rintro v' H' c4 ⟨rfl,rfl⟩ hcc4;refine wAu hw3 ?_;refine⟨i+1,by simp,?_,inv ⟨b8,by omega⟩,by omega⟩;have eo:upS (upS s1 o) (some (p,49))=upS s1 (some (p,49)):=by
     rw[ho];split
     ·rw[N3]
     ·exact C8b s1 p 49 (by decide)
    rw[hat,show(O3 x.kind==wnt)=false by simpa using hx,A2Y,if_neg (by decide),eo];exact A9h (λj hj=>hGn j (by omega)) (by omega)
  have hd3:=dfz hlt3;rw[A0J (by omega)];refine wAs hd3 ?_;refine⟨_,_,?_,rfl,rfl⟩;rw[hG];exact B5t hfr htc
 simp only[go_sem,seval];by_cases ka:k=11\/k=23\/k=24
 ·have ew:A1p k a=2:=by unfold A1p;rw[if_pos ka]
  rw[ew]at kL ⊢;rcases ka with rfl|rfl|rfl
  all_goals(refine wAs hGc ?_)
  all_goals exact kL _ hcc
 have ka1:(k==11)=false:=a8
 have ka2:(k==23)=false:=a8
 have ka3:(k==24)=false:=a8
 by_cases kb:k=21\/k=22
 ·have hl2:=h22 kb;obtain⟨x0,l0,ha⟩:∃x l,a=x::l:=by
   cases a with
   |nil=>simp at hl2
   |cons x l=>exact⟨x,l,rfl⟩
  have ew:A1p k a=O3 x0.kind:=by rw[ha];unfold A1p;rw[if_neg ka,if_pos kb]
  have hg0:a[0]? = some x0:=by rw[ha];rfl
  have hty:=c_typ32 _ (hknd x0 (by rw[ha];exact A0M));rw[ew]at kL ⊢;rcases kb with rfl|rfl
  all_goals(refine wBc hty (wJ hGc (wJ ka1 (wJ ka2 (wJ ka3 (wJ hg0 @Ex.v_w))))) ?_)
  all_goals exact kL _ hcc
 have ew:A1p k a=1:=by unfold A1p;rw[if_neg ka,if_neg kb]
 rw[ew]at kL ⊢;have kb1:(k==21)=false:=a8
 have kb2:(k==22)=false:=a8
 refine wA5 hGc ka1 ka2 ka3 kb1 kb2 ?_;exact kL _ hcc
theorem B4p{H:Hp}{i j:Nat}{a b:Blk}(h:i≠j):(H.upd i a).upd j b=(H.upd j b).upd i a:=by
 funext k
 by_cases e:k=j
 ·subst e;rw[A0,h_ne (Ne.symm h),A0]
 ·rw[h_ne e];by_cases e2:k=i
  ·subst e2;rw[A0,A0]
  ·rw[h_ne e2,h_ne e2,h_ne e]
theorem B4x{H:Hp}{t c:Nat}{b1 b:Blk}(hG:∀j,c<=j->H j=none)(htc:t<c):Sym.Sub (H.upd t b) ((H.upd c b1).upd t b):=by
 rw[<- B4p (Nat.ne_of_lt htc)];exact C2y hG htc
theorem C8d(k:Int)(b:Bool):O3 k=(if b=true then 2 else 1)↔(O3 k==2)=b:=by
 unfold O3;cases b<;>cases C7n k<;>simp
theorem c_blk32(r:Ru)(hk:A0b r.decls):∀(m:Nat) (l:List Pb.St) (d:Nat),Pb.St.szs l<m->Pb.St.szs l<=100000000->J0 d l=true->∀(s:Int × Int) (H:Hp) (cc t:Nat) (ht:H t=some (ckB r s)) (htc:t<cc),
  AC Tryz.prog 56 [.ptr t 0,F5 l] H cc (λv H' c'=>v=.tup []/\H'=H.upd t (ckB r (upS s (erB r l)))):=by
 intro m
 induction m with
 |zero=>intro l d h;omega
 |succ m ih =>
 intro l d hm hB hv s H cc t ht htc;have hl:=Pb.St.szs_len l;refine AC.go A2 λhfr=>?_;refine wAp ?_;have hHt:H=H.upd t (ckB r s):=(upd_same ht).symm;refine B6 (λi:Nat=>[(0,.ptr t 0),(9,F5 l),(10,I64 l.length),(11,I64 i)]) (λi=>H.upd t (ckB r (upS s (erB r (l.take i))))) (λi c=>cc<=c/\i<=l.length) (λi=>l.length-i) 0 (by simp[B5,tm,Tm.upd]) (by rw[A1F,erB,N3, <- hHt];exact Sub.refl _) ⟨b8,A0N _⟩ ?_;rintro i c ⟨h1c,hki⟩;by_cases hlt:i<l.length
 ·have hd:=dtz hlt;have hg:=A0B hlt;have hw:=w64 (n:=(i:Int)+1);have hsx:=Pb.St.szs_mem (A0K hlt);obtain⟨v1,v2,v3⟩:=B0c (A6z hv _ (A0K hlt));have het:=B9d (r:=r) hg;rw[D7x]at het;generalize l[i]=x at hg hsx v1 v2 v3 het;have hsa:Ex.szs x.args<x.sz:=by cases x with|mk k n t a x y p=>rw[Pb.St.sz];show Ex.szs a<_;omega
  have hal:=Ex.szs_len x.args;have hX:=ih x.thn (d+1) (by have:=x.sz_thn;omega) (by have:=x.sz_thn;omega) v2;have hY:=ih x.els (d+1) (by have:=x.sz_els;omega) (by have:=x.sz_els;omega) v3;have hk1:=c_inS32 x.kind;obtain⟨s0,hs0⟩:∃s0,s0=upS s (erB r (l.take i)):=⟨_,rfl⟩;have hfin:upS s (erB r (l.take (i+1)))=upS s0 ((((dnE r x.name (kdS x.kind) x.pos).or (erA r (x.kind==2) x.args)).or (erB r x.thn)).or (erB r x.els)):=by rw[het, <- N2 (B5n _ _), <- hs0]
  rw[<- hs0];have ne0:=Q8 t c (by omega);refine wBc hk1 (wJ hd (wJ hg (wJ hw (wJ @Pb.St.v_w (wJ ne0 (wJ @A0 @A1)))))) ?_;obtain⟨G,hG⟩:∃G,G=H.upd c ⟨0,true,[I64 x.kind,.str x.name,.str x.text,J4 x.args,F5 x.thn,F5 x.els,I64 x.pos]⟩:=⟨_,rfl⟩;have hGc:∀b,(G.upd t b) c=some ⟨0,true,[I64 x.kind,.str x.name,.str x.text,J4 x.args,F5 x.thn,F5 x.els,I64 x.pos]⟩:=λb=>by rw[hnO,hG,A0]
  have hGn:∀j,c+1<=j->G j=none:=λj hj=>zag
  rw[B4p (by omega), <- hG];refine⟨by and_intros<;>(rw[hnO];exact hGn _ (by omega)),?_⟩;refine AC.call (c_den32 r hk s0 _ _ t A0 (by omega) x.name (kdS x.kind) x.pos) ?_;rintro v' H' c2 ⟨rfl,rfl⟩ hc2;rw[A1];obtain⟨s1,hs1⟩:∃s1,s1=upS s0 (dnE r x.name (kdS x.kind) x.pos):=⟨_,rfl⟩;rw[A2Q,A2Q, <- N2 (B3m _ _ _ _), <- hs1]at hfin;rw[<- hs1];have kL:∀c3:Nat,c+1<=c3->IW Tryz.prog 56 (.loop (pz Tryz.prog 56 (.o (.i (.i (.i .h)))))) ⟨tm [(0,.ptr t 0),(5,.ptr c 0),(6,I64 (if(x.kind==2)=true then 2 else 1)),(9,F5 l),(10,I64 l.length),(11,I64 i),(28,J4 x.args),(29,I64 x.args.length),(30,I64 0)],G.upd t (ckB r s1),c3⟩ (bk 2 (sq Tryz.prog 56 (pz Tryz.prog 56 (.o (.o (.o (.o (.i .h)))))) (bk 1 (sq Tryz.prog 56 (pz Tryz.prog 56 (.i (.i (.o (.o (.i .h))))))
    (lp (λi:Nat=>[(0,DV.ptr t 0),(9,F5 l),(10,I64 l.length),(11,I64 i)]) (λi:Nat=>H.upd t (ckB r (upS s (erB r (l.take i))))) (λ(i c:Nat)=>cc<=c/\i<=l.length) (λi:Nat=>l.length-i) (l.length-i) (bk 0 (rt [] λv H' c' => ∃v2 H2,GL H' [v] H2 [v2]/\v2=DV.tup []/\H2=H.upd t (ckB r (upS s (erB r l)))))))))):=by
   intro c3 hc3;obtain⟨wnt,hwnt⟩:∃wnt:Int,wnt=if(x.kind==2)=true then 2 else 1:=⟨_,rfl⟩
   rw[<- hwnt];refine B6 (λj:Nat=>[(0,.ptr t 0),(5,.ptr c 0),(6,I64 wnt),(9,F5 l),(10,I64 l.length),(11,I64 i),(28,J4 x.args),(29,I64 x.args.length),(30,I64 j)]) (λj=>G.upd t (ckB r (upS s1 (erA r (x.kind==2) (x.args.take j))))) (λj c4=>c+1<=c4/\j<=x.args.length) (λj=>x.args.length-j) 0 (by simp[B5,tm,Tm.upd]) (by rw[A1F,erA,N3];exact Sub.refl _) ⟨b8,A0N _⟩ ?_;rintro j c4 ⟨h4c,hkj⟩;by_cases hlt2:j<x.args.length
   ·have hd2:=dtz hlt2;have hg2:=A0B hlt2;have hw2:=w64 (n:=(j:Int)+1);have hxs:=Ex.szs_mem (A0K hlt2);have hmy:=v1 _ (A0K hlt2);have heA:=B9e (r:=r) (b:=x.kind==2) hg2;generalize x.args[j]=y at hg2 hxs hmy heA;have hex:=c_exp32 r hk _ y (A1M _) (by omega) hmy;obtain⟨qy,hqy⟩:=hmy;have hty:=c_typ32 _ (C4c hqy);rw[Ex.v_w]at hex;obtain⟨o,ho⟩:∃o,o=erA r (x.kind==2) (x.args.take j):=⟨_,rfl⟩;have hno:NzE o:=by rw[ho];exact D0i _ _ _
    have htw:=C8d y.kind (x.kind==2);rw[<- hwnt]at htw;rw[<- ho];rw[<- ho, <- A2Q]at heA;have ne0:=M7 t c c4 (by omega);refine wA8 hd2 hg2 hw2 @Ex.v_w ne0 @A0 @A1 hGc ?_;refine AC.call (hex (upS s1 o) _ _ t (by rw[hnO,A0]) (by omega)) ?_;rintro v' H' c5 ⟨rfl,rfl⟩ hc5;rw[N2 hno];simp only[go_sem,seval,hw2,A1];by_cases hx:O3 y.kind=wnt
    ·have hxn:(O3 y.kind != wnt)=false:=by simp[hx]
     refine wBc hty (wJ hw2 (wJ ne0 (wJ @A0 (wJ @A1 hxn)))) ?_;refine⟨j+1,by simp,?_,inv ⟨b8,by omega⟩,by omega⟩;rw[heA,if_pos (htw.1 hx),A3Y];exact A9h (λj hj=>hGn j (by omega)) (by omega)
    ·have hxn:(O3 y.kind != wnt)=true:=by simp[hx]
     refine wBc hty (wJ hw2 (wJ ne0 (wJ @A0 (wJ @A1 hxn)))) ?_;refine AC.call (c_fail32 r (upS s1 (o.or (erE r y))) _ _ t A0 (by omega) y.pos 49) ?_;rintro v' H' c6 ⟨rfl,rfl⟩ hc6;simp only[go_sem,seval,hw2,A1];refine wAs hw2 ?_;refine⟨j+1,by simp,?_,inv ⟨b8,by omega⟩,by omega⟩;rw[N2 (hno.or (D0h _ _)),heA,if_neg (λh=>hx (htw.2 h))];exact A9h (λj hj=>hGn j (by omega)) (by omega)
   have hd2:=dfz hlt2;rw[A0J (by omega)];refine wAs (wJ hd2 hGc) ?_;refine AC.call (hX (upS s1 (erA r (x.kind==2) x.args)) _ _ t A0 (by omega)) ?_;rintro v' H' c5 ⟨rfl,rfl⟩ hc5;rw[A1,N2 (D0i _ _ _)];refine wAu hGc ?_;refine AC.call (hY (upS s1 ((erA r (x.kind==2) x.args).or (erB r x.thn))) _ _ t A0 (by omega)) ?_;rintro v' H' c6 ⟨rfl,rfl⟩ hc6;rw[A1,N2 ((D0i _ _ _).or (B5n _ _))];refine wAu hw ?_;refine⟨i+1,by simp,?_,inv ⟨b8,by omega⟩,by omega⟩;rw[hfin,A2Q,hG];exact B4x (λj hj=>hfr j (by omega)) (by omega)
  simp only[go_sem,seval];cases hb2:(x.kind==2) with
  |true =>
   rw[hb2]at kL;refine wAx hGc hw hb2 ?_;exact kL _ (by omega)
  |false =>
   rw[hb2]at kL;refine wAx hGc hw hb2 ?_;exact kL _ (by omega)
 have hd:=dfz hlt;rw[A0J (by omega)];refine wAs hd ?_;exact⟨_,_,GL.refl _ _,rfl,rfl⟩
abbrev C5x(l:List (List UInt8)):Blk:=⟨0,true,[.mpc .s (mkK (A1s l)) (mvV (A1s l))]⟩
theorem c_head1(r:Ru)(s:Int × Int)(l:List (List UInt8))(nm:List UInt8)(p val most:Int)(H:Hp)(cc t a b mm:Nat)(ht:H t=some (ckB r s))(ha:H a=some ⟨0,true,[.ptr t 0]⟩)(hb:H b=some ⟨0,true,[.mid mm]⟩)(hm:H mm=some (C5x l))
  (htc:t<cc) (hac:a<cc) (hbc:b<cc) (hmc:mm<cc) (hta:t≠a) (htb:t≠b) (htm:t≠mm) (hbm:b≠mm) (ham:a≠mm) (hab:a≠b) :
  AC Tryz.prog 108 [.str nm,I64 p,I64 val,I64 most,.ptr a 0,.ptr b 0] H cc (λv H' c'=>v=.tup []/\H'=(H.upd t (ckB r (upS s ((if val>most then some (p,5) else none:Er).or (if l.contains nm=true then some (p,7) else none))))).upd mm (C5x (B0l l nm))):=by
 refine AC.go A2 λhfr=>?_;have hlk:=D9k nm l;have hmu:=λH c id u=>D9j nm l H c id u;obtain⟨o1,ho1⟩:∃o1:Er,o1=if val>most then some (p,5) else none:=⟨_,rfl⟩
 have n1:NzE o1:=by rw[ho1];exact B5m (by decide)
 rw[<- ho1];have hkB:∀c0,cc<=c0->IW Tryz.prog 24 (pz Tryz.prog 108 (.i (.i .h))) ⟨tm [(0,.str nm),(1,I64 p),(4,.ptr a 0),(5,.ptr b 0)],H.upd t (ckB r (upS s o1)),c0⟩ (rt [] λv H' c' => ∃v2 H2,GL H' [v] H2 [v2]/\v2=.tup []/\H2=(H.upd t (ckB r (upS s (o1.or (if l.contains nm=true then some (p,7) else none))))).upd mm (C5x (B0l l nm))):=by
  intro c0 hc0;have ne0:=V3 t a b mm (by omega);cases hc:l.contains nm with
  |false =>
   rw[hc]at hlk;rw[if_neg (by decide),A3Y];refine wA8 ha hb hm hlk hmu ne0 @A0 @A1 ?_;exact⟨_,_,GL.refl _ _,rfl,rfl⟩
  |true =>
   rw[hc]at hlk;rw[if_pos rfl];refine wA8 ha hb hm hlk hmu ne0 @A0 @A1 ?_;refine AC.call (c_fail32 r (upS s o1) _ _ t A0 (by omega) p 7) ?_;rintro v' H' c2 ⟨rfl,rfl⟩ hc2;rw[A1,N2 n1];refine wAu (wJ ha (wJ hb (wJ hm (wJ hlk (wJ hmu (wJ ne0 (wJ @A0 @A1))))))) ?_;exact⟨_,_,GL.refl _ _,rfl,rfl⟩
 have ne0:=V3 t a b mm (by omega);by_cases hv:val>most
 ·have qv:decide (val>most)=true:=by simpa using hv
  rw[if_pos hv]at ho1;rw[ho1]at hkB ⊢;refine wA7 ha hb hm qv ne0 @A0 @A1 ?_;refine AC.call (c_fail32 r s _ _ t ht (by omega) p 5) ?_;rintro v' H' c2 ⟨rfl,rfl⟩ hc2;simp only[go_sem,seval];(repeat'((with_reducible first|refine J8 (p:=IW _ _ (pz Tryz.prog 108 (.i (.i .h))) _ _) ?_|refine wr ?_|refine B0 ?_ ?_|apply wb2<;>(intro hb;try simp only[hb]))<;>try simp only[go_sem,seval]));exact IW.stage (by simp[B5,tm,Tm.upd]) (hkB _ hc2)
 ·have qv:decide (val>most)=false:=by simpa using hv
  rw[if_neg hv]at ho1;rw[ho1,N3,upd_same ht]at hkB;rw[ho1];(repeat'((with_reducible first|refine J8 (p:=IW _ _ (pz Tryz.prog 108 (.i (.i .h))) _ _) ?_|refine wr ?_|refine B0 ?_ ?_|apply wb2<;>(intro hb;try simp only[hb]))<;>try simp only[go_sem,seval,ha,hb,hm,qv,ne0,A0,A1]));exact IW.stage (by simp[B5,tm,Tm.upd]) (hkB _ (A0D _))
def hdH(H:Hp)(r:Ru)(t cc:Nat)(s:Int × Int)(l:List (List UInt8)):Hp:=((((H.upd t (ckB r s)).upd cc ⟨0,true,[.ptr t 0]⟩).upd (cc+1) ⟨0,true,[D0 r.decls,D8 r.modes]⟩).upd (cc+2) (C5x l)).upd (cc+3) ⟨0,true,[.mid (cc+2)]⟩
theorem C4x{H:Hp}{r:Ru}{t cc:Nat}{s:Int × Int}{l:List (List UInt8)}(htc:t<cc):hdH H r t cc s l t=some (ckB r s):=by
 unfold hdH;rw[hnO,hnO,hnO,hnO,A0]
theorem D1p{H:Hp}{r:Ru}{t cc:Nat}{s:Int × Int}{l:List (List UInt8)}:hdH H r t cc s l cc=some ⟨0,true,[.ptr t 0]⟩:=by
 unfold hdH;rw[hnO,hnO,hnO,A0]
theorem C4z{H:Hp}{r:Ru}{t cc:Nat}{s:Int × Int}{l:List (List UInt8)}:hdH H r t cc s l (cc+1)=some ⟨0,true,[D0 r.decls,D8 r.modes]⟩:=by
 unfold hdH;rw[hnO,hnO,A0]
theorem D1o{H:Hp}{r:Ru}{t cc:Nat}{s:Int × Int}{l:List (List UInt8)}:hdH H r t cc s l (cc+2)=some (C5x l):=by
 unfold hdH;rw[hnO,A0]
theorem D1n{H:Hp}{r:Ru}{t cc:Nat}{s:Int × Int}{l:List (List UInt8)}:hdH H r t cc s l (cc+3)=some ⟨0,true,[.mid (cc+2)]⟩:=by
 unfold hdH;rw[A0]
theorem D1m{H:Hp}{r:Ru}{t cc:Nat}{s:Int × Int}{l:List (List UInt8)}(htc:t<cc)(hfr:∀i,cc<=i->H i=none)(j:Nat)(hj:cc+4<=j):hdH H r t cc s l j=none:=by
 unfold hdH;rw[hnO,hnO,hnO,hnO,hnO];exact hfr j (by omega)
theorem C4y{H:Hp}{r:Ru}{t cc:Nat}{s:Int × Int}{l:List (List UInt8)}(j:Nat)(hj:j<cc)(hjt:j≠t):hdH H r t cc s l j=H j:=by
 unfold hdH;rw[hnO,hnO,hnO,hnO,h_ne hjt]
theorem C1r{H X:Hp}{r:Ru}{t cc:Nat}{s:Int × Int}{l:List (List UInt8)}(htc:t<cc)(hfr:∀i,cc<=i->H i=none)(ht:X t=some (ckB r s))(h0:X cc=some ⟨0,true,[.ptr t 0]⟩)(h1:X (cc+1)=some ⟨0,true,[D0 r.decls,D8 r.modes]⟩)(h2:X (cc+2)=some (C5x l))(h3:X (cc+3)=some ⟨0,true,[.mid (cc+2)]⟩)
  (ho:∀j,j<cc->j≠t->X j=H j):Sym.Sub (hdH H r t cc s l) X:=by
 intro j b hj;by_cases hlt:j<cc
 ·by_cases hjt:j=t
  ·subst hjt;rw[C4x htc]at hj;rw[ht];exact hj
  ·rw[C4y j hlt hjt]at hj;rw[ho j hlt hjt];exact hj
 ·have h4:j<cc+4:=A1S λh=>by rw[D1m htc hfr j h]at hj;cases hj
  have:j=cc\/j=cc+1\/j=cc+2\/j=cc+3:=b8
  rcases this with rfl|rfl|rfl|rfl
  ·rw[D1p]at hj;rw[h0];exact hj
  ·rw[C4z]at hj;rw[h1];exact hj
  ·rw[D1o]at hj;rw[h2];exact hj
  ·rw[D1n]at hj;rw[h3];exact hj
theorem c_heads32(r:Ru)(hk:A0b r.decls)(s:Int × Int)(H:Hp)(cc t:Nat)(ht:H t=some (ckB r s))(htc:t<cc)(h1:r.decls.length<=1000000000)(h2:r.modes.length<=1000000000):
  AC Tryz.prog 50 [.ptr t 0,r.v] H cc (λv H' c'=>v=.tup []/\H'=H.upd t (ckB r (upS s (A7s r)))):=by
 have hrv:r.v=.agg [D0 r.decls,D8 r.modes]:=rfl;rw[hrv];have hkt:∀i,A0b (r.decls.take i):=λi d hd=>hk d (List.mem_of_mem_take hd);refine AC.go A2 λhfr=>?_;have ne0:=S7 t cc (cc+1) (cc+1+1) (cc+1+1+1) (by omega);refine wAz @B2e ne0 @A0 @A1 ?_;refine B6 (λq:Nat × List (List UInt8)=>[(3,.ptr (cc+1) 0),(5,.func 108 [] [.ptr cc 0,.ptr (cc+1+1+1) 0]),(13,D0 r.decls),(14,I64 r.decls.length),(15,I64 q.1)]) (λq=>hdH H r t cc (upS s (erD [] (r.decls.take q.1))) q.2)
  (λq c=>cc+4<=c/\q.1<=r.decls.length/\∀n,q.2.contains n=(r.decls.take q.1).any (λd=>d.name==n)) (λq=>r.decls.length-q.1) (0,[]) (by simp[B5,tm,Tm.upd])
  (by
   dsimp only;rw[A1F,erD,N3];refine C1r htc hfr ?_ ?_ ?_ ?_ A0 ?_
   ·repeat rw[hnO]
    exact ht
   ·repeat rw[hnO]
    exact A0
   ·repeat rw[hnO]
    exact A0
   ·rw[hnO];exact A0
   ·intro j hj hjt
    repeat rw[hnO]) ⟨b8,A0N _,λn=>rfl⟩ ?_
 rintro⟨i,l⟩ c ⟨h1c,hki,hsn⟩;dsimp only at hki hsn ⊢;by_cases hlt:i<r.decls.length
 ·have hd:=dtz hlt;have hg:=A0B hlt;have hw:=w64 (n:=(i:Int)+1);have het:=D2j hg;have hnx:=λn=>A8e (λd:Dc=>d.name==n) r.decls i _ hg;have hlo:=λn=>A9q (r.decls.take i) [] n (hkt i);generalize r.decls[i]=d at hg het hnx;have hmo:=c_most32 d.kind;obtain⟨o,ho⟩:∃o,o=erD [] (r.decls.take i):=⟨_,rfl⟩;have hno:NzE o:=by rw[ho];exact C6h _ _
  rw[<- ho]at het ⊢;have hb0:hdH H r t cc (upS s o) l cc=_:=D1p;have hb1:hdH H r t cc (upS s o) l (cc+1)=_:=C4z;have hb2:hdH H r t cc (upS s o) l (cc+2)=_:=D1o;have hb3:hdH H r t cc (upS s o) l (cc+1+1+1)=_:=D1n;have hbt:hdH H r t cc (upS s o) l t=_:=C4x htc;have hbn:=D1m (s:=upS s o) (l:=l) (r:=r) htc hfr;have hbo:=C4y (H:=H) (cc:=cc) (t:=t) (s:=upS s o) (l:=l) (r:=r);generalize hdH H r t cc (upS s o) l=HH at hb0 hb1 hb2 hb3 hbt hbn hbo ⊢;have ne0:=V3 c t cc (cc+1) (by omega);refine wBf hmo hd hg @A1m hb0 hb1 hb2 hb3 hbt ne0 @A0 @A1 ?_;refine⟨by and_intros<;>(rw[hnO];exact hbn _ (by omega)),?_⟩;refine AC.call (c_head1 r (upS s o) l d.name d.pos d.value (A4r d.kind) _ _ t cc (cc+1+1+1) (cc+2) (by rw[hnO];exact hbt) (by rw[hnO];exact hb0) (by rw[hnO];exact hb3) (by rw[hnO];exact hb2) (by omega) (by omega) (by omega) (by omega) (by omega) (by omega) (by omega) (by omega) (by omega) (by omega)) ?_;rintro v' H' c2 ⟨rfl,rfl⟩ hc2;have est:((if d.value>A4r d.kind then some (d.pos,5) else none:Er).or (if l.contains d.name=true then some (d.pos,7) else none))=stD (r.decls.take i) d:=by
   unfold stD
   congr 1
   rw[hsn];have:=hlo d.name;cases ha:(r.decls.take i).any (λx=>x.name==d.name) with
   |true=>rw[ha]at this;rw[if_pos rfl,if_neg (λh=>by simpa using (this.1 h).1)]
   |false=>rw[ha]at this;rw[if_neg (by decide),if_pos (this.2 ⟨rfl,rfl⟩)]
  rw[est,N2 hno, <- het];refine wAu hw ?_;refine⟨(i+1,B0l l d.name),b9,?_,inv ⟨b8,b8,λn=>?_⟩,by simp only;omega⟩
  ·refine C1r htc hfr ?_ ?_ ?_ A0 ?_ ?_
   ·rw[hnO,A0]
   ·repeat rw[hnO]
    exact hb0
   ·repeat rw[hnO]
    exact hb1
   ·repeat rw[hnO]
    exact hb3
   ·intro j hj hjt;rw[hnO,h_ne hjt,hnO];exact hbo j hj hjt
  ·simp only;rw[B7e,hsn,hnx]
   congr 1
   rw[A2E];simp;exact eq_comm
 have hd:=dfz hlt;rw[A0J (by omega)]at hsn ⊢;have hb1:hdH H r t cc (upS s (erD [] r.decls)) l (cc+1)=_:=C4z;refine wAs (wJ hd hb1) ?_;clear hd hlt hki i hb1;have hrp:A7s r=(erD [] r.decls).or (erP r.decls [] r.modes):=rfl;rw[hrp, <- N2 (C6h _ _)];obtain⟨s1,hs1⟩:∃s1,s1=upS s (erD [] r.decls):=⟨_,rfl⟩;rw[<- hs1];refine B6 (λq:Nat × List (List UInt8)=>[(5,.func 108 [] [.ptr cc 0,.ptr (cc+1+1+1) 0]),(32,D8 r.modes),(33,I64 r.modes.length),(34,I64 q.1)]) (λq=>hdH H r t cc (upS s1 (erP r.decls [] (r.modes.take q.1))) q.2)
  (λq c=>cc+4<=c/\q.1<=r.modes.length/\∀n,q.2.contains n=(r.decls.any (λd=>d.name==n)||(r.modes.take q.1).any (λd=>d.name==n))) (λq=>r.modes.length-q.1) (0,l) (by simp[B5,tm,Tm.upd])
  (by
   dsimp only;rw[A1F,erP,N3];exact Sub.refl _) ⟨h1c,A0N _,λn=>by rw[hsn];simp⟩ ?_
 clear hsn h1c c l hs1;rintro⟨i,l⟩ c ⟨h1c,hki,hsn⟩;dsimp only at hki hsn ⊢;by_cases hlt:i<r.modes.length
 ·have hd:=dtz hlt;have hg:=A0B hlt;have hw:=w64 (n:=(i:Int)+1);have het:=D2e (D:=r.decls) hg;have hnx:=λn=>A8e (λd:Md=>d.name==n) r.modes i _ hg;have hlo:=λn=>A9q r.decls (r.modes.take i) n hk;generalize r.modes[i]=d at hg het hnx;obtain⟨o,ho⟩:∃o,o=erP r.decls [] (r.modes.take i):=⟨_,rfl⟩;have hno:NzE o:=by rw[ho];exact D0g _ _ _
  rw[<- ho]at het ⊢;have hb0:hdH H r t cc (upS s1 o) l cc=_:=D1p;have hb1:hdH H r t cc (upS s1 o) l (cc+1)=_:=C4z;have hb2:hdH H r t cc (upS s1 o) l (cc+2)=_:=D1o;have hb3:hdH H r t cc (upS s1 o) l (cc+1+1+1)=_:=D1n;have hbt:hdH H r t cc (upS s1 o) l t=_:=C4x htc;have hbn:=D1m (s:=upS s1 o) (l:=l) (r:=r) htc hfr;have hbo:=C4y (H:=H) (cc:=cc) (t:=t) (s:=upS s1 o) (l:=l) (r:=r);generalize hdH H r t cc (upS s1 o) l=HH at hb0 hb1 hb2 hb3 hbt hbn hbo ⊢;have ne0:=V3 c t cc (cc+1) (by omega);refine wAv hd hg @A7r hb0 hb1 hb2 hb3 hbt ne0 @A0 @A1 ?_;refine AC.call (c_head1 r (upS s1 o) l d.name d.pos d.prio 99 _ _ t cc (cc+1+1+1) (cc+2) (by rw[hnO];exact hbt) (by rw[hnO];exact hb0) (by rw[hnO];exact hb3) (by rw[hnO];exact hb2) (by omega) (by omega) (by omega) (by omega) (by omega) (by omega) (by omega) (by omega) (by omega) (by omega)) ?_;rintro v' H' c2 ⟨rfl,rfl⟩ hc2;have est:((if d.prio>99 then some (d.pos,5) else none:Er).or (if l.contains d.name=true then some (d.pos,7) else none))=stP r.decls (r.modes.take i) d:=by
   unfold stP
   congr 1
   rw[hsn];have:=hlo d.name;cases ha:r.decls.any (λx=>x.name==d.name) with
   |true=>rw[ha]at this;rw[Bool.true_or,if_pos rfl,if_neg (λh=>by simpa using (this.1 h).1)]
   |false =>
    rw[ha]at this;cases ha2:(r.modes.take i).any (λx=>x.name==d.name) with
    |true=>rw[ha2]at this;rw[Bool.false_or,if_pos rfl,if_neg (λh=>by simpa using (this.1 h).2)]
    |false=>rw[ha2]at this;rw[Bool.false_or,if_neg (by decide),if_pos (this.2 ⟨rfl,rfl⟩)]
  rw[est,N2 hno, <- het];refine wAu hw ?_;refine⟨(i+1,B0l l d.name),b9,?_,inv ⟨b8,b8,λn=>?_⟩,by simp only;omega⟩
  ·refine C1r htc hfr ?_ ?_ ?_ A0 ?_ ?_
   ·rw[hnO,A0]
   ·repeat rw[hnO]
    exact hb0
   ·repeat rw[hnO]
    exact hb1
   ·repeat rw[hnO]
    exact hb3
   ·intro j hj hjt;rw[hnO,h_ne hjt,hnO];exact hbo j hj hjt
  ·simp only;rw[B7e,hsn,hnx,Bool.or_assoc]
   congr 2
   rw[A2E];simp;exact eq_comm
 have hd:=dfz hlt;rw[A0J (by omega)];refine wAs hd ?_;refine⟨_,_,GL.less' (λj b hj=>?_),rfl,rfl⟩;by_cases e:j=t
 ·subst e;rw[A0]at hj;rw[C4x htc];exact hj
 ·rw[h_ne e]at hj;have:j<cc:=A1S λh=>by rw[hfr _ h]at hj;cases hj
  rw[C4y j this e];exact hj
theorem c_chk1(x h:Hd):PC Tryz.prog 54 [x.v,.fptr [I64 h.trig,.str h.name,F5 h.body,I64 h.pos]] (.bool (x.trig==h.trig&&x.name==h.name)):=by
 rw[A3o];refine PC.go A2 ?_;cases h1:(x.trig==h.trig) with
 |false =>
  refine wAs h1 ?_;exact A3 rfl
 |true =>
  cases h2:(x.name==h.name) with
  |false =>
   refine wAs (wJ h1 h2) ?_;exact A3 rfl
  |true =>
   refine wAs (wJ h1 h2) ?_;exact A3 rfl
theorem c_Check32(r:Ru)(hB:r.sz<4000000):PC Tryz.prog 25 [r.v] (B5z r):=by
 have hv:=c_Valid r (by omega);have hdl:=B0g r;have hml:=B0f r;have hnm:=c_names r (by omega) (by omega);have hch:B5z r=if M8 r=true then erV (A4t r) else .tup [I64 0,I64 1]:=rfl
 refine PC.ofT A2 rfl (A0C rfl) (by simp[Ru.v,DV.nlL,DV.nl,K4,K3]) (C5e _) ?_;have hrv:r.v=.agg [D0 r.decls,D8 r.modes]:=rfl;cases hvd:M8 r with
 |false =>
  rw[hvd]at hv hch;rw[hch];rw[hrv]at hv ⊢;refine wA9 hv ?_;exact A3 rfl
 |true =>
 have hk:=D8n hvd;have hbv:=@B6k _ r hvd;have hms:∀m∈r.modes,m.sz<=r.sz:=λm h=>C8n h;rw[hvd]at hv hch;rw[if_pos rfl]at hch;rw[hch,E2k];unfold A4t;rw[<- N2 (D0f r)];have hhd:=λH cc t ht htc=>c_heads32 r hk (0,0) H cc t ht htc (by omega) (by omega);obtain⟨K,V,hKV⟩:∃K V,nmV r=.mp .s K V:=⟨_,_,rfl⟩;have hck:∀s:Int × Int,(⟨0,true,[.mp .s K V,I64 s.1,I64 s.2]⟩:Blk)=ckB r s:=λs=>by unfold ckB;rw[hKV]
 rw[hKV]at hnm;rw[hrv]at hv hnm hhd ⊢;refine wBg hv hnm ?_;refine AC.call (hhd _ _ 1 (by rw[A0];exact congrArg some (hck (0,0))) (by omega)) ?_;rintro v' H' c' ⟨rfl,rfl⟩ hcc;rw[A1];obtain⟨s0,hs0⟩:∃s0,s0=upS (0,0) (A7s r):=⟨_,rfl⟩;rw[<- hs0];have hb0:∀b,((Sym.nil.upd 0 ⟨0,true,[D0 r.decls,D8 r.modes]⟩).upd 1 b) 0=some ⟨0,true,[D0 r.decls,D8 r.modes]⟩:=λb=>rfl;refine wAu hb0 ?_;have hG0:∀j,1<=j->(Sym.nil.upd 0 ⟨0,true,[D0 r.decls,D8 r.modes]⟩) j=none:=λj hj=>by rw[hnO];rfl
 generalize Sym.nil.upd 0 ⟨0,true,[D0 r.decls,D8 r.modes]⟩=G0 at hG0 ⊢;clear hb0 hs0 hhd;refine B6 (λi:Nat=>[(4,.ptr 1 0),(20,D8 r.modes),(21,I64 r.modes.length),(22,I64 i)]) (λi=>G0.upd 1 (ckB r (upS s0 (erM r (r.modes.take i))))) (λi c=>2<=c/\i<=r.modes.length) (λi=>r.modes.length-i) 0 (by simp[B5,tm,Tm.upd]) (by rw[A1F,erM,N3];exact Sub.refl _) ⟨b8,A0N _⟩ ?_;rintro i c ⟨h1c,hki⟩;by_cases hlt:i<r.modes.length
 ·have hd:=dtz hlt;have hg:=A0B hlt;have hw:=w64 (n:=(i:Int)+1);have hms:=hms _ (A0K hlt);have hbv:=hbv _ (A0K hlt);have het:=B8y (r:=r) hg;generalize r.modes[i]=d at hg hms hbv het;have hhl:=D7i d;obtain⟨s1,hs1⟩:∃s1,s1=upS s0 (erM r (r.modes.take i)):=⟨_,rfl⟩;rw[<- hs1];have hfin:upS s0 (erM r (r.modes.take (i+1)))=upS s1 (erH r [] d.hds):=by rw[het, <- N2 (D4z _ _), <- hs1]
  have ne0:=Q8 1 c (by omega);refine wA5 hd hg @A7r ne0 @A0 @A1 ?_;obtain⟨G,hG⟩:∃G,G=G0.upd c ⟨0,true,[.str d.name,I64 d.prio,O0 d.hds,I64 d.pos]⟩:=⟨_,rfl⟩;have hGc:∀b,(G.upd 1 b) c=some ⟨0,true,[.str d.name,I64 d.prio,O0 d.hds,I64 d.pos]⟩:=λb=>by rw[hnO,hG,A0]
  have hGn:∀j,c+1<=j->G j=none:=λj hj=>by rw[hG,hnO];exact hG0 j (by omega)
  rw[B4p (by omega), <- hG];refine B6 (λj:Nat=>[(4,.ptr 1 0),(6,.ptr c 0),(20,D8 r.modes),(21,I64 r.modes.length),(22,I64 i),(27,O0 d.hds),(28,I64 d.hds.length),(29,I64 j)]) (λj=>G.upd 1 (ckB r (upS s1 (erH r [] (d.hds.take j))))) (λj c2=>c+1<=c2/\j<=d.hds.length) (λj=>d.hds.length-j) 0 (by simp[B5,tm,Tm.upd]) (by rw[A1F,erH,N3];exact Sub.refl _) ⟨b8,A0N _⟩ ?_;rintro j c2 ⟨h2c,hkj⟩;by_cases hlt2:j<d.hds.length
  ·have hd2:=dtz hlt2;have hg2:=A0B hlt2;have hw2:=w64 (n:=(j:Int)+1);have hxs:=C8o (A0K hlt2);have hbv:=hbv _ (A0K hlt2);have heH:=D2h (r:=r) hg2;generalize d.hds[j]=x at hg2 hxs hbv heH;have hxe:x.sz=1+x.name.length+Pb.St.szs x.body:=rfl;have hbl:=c_blk32 r hk _ x.body 1 (A1M _) (by omega) hbv;have hik:=c_inH32 x.trig;have hcf:=c_CF_hd (f:=54) (a:=[]) (cs:=[.fptr [I64 x.trig,.str x.name,F5 x.body,I64 x.pos]]) (g:=λy=>y.trig==x.trig&&y.name==x.name) (d.hds.take j) (by rw[A0W];omega) rfl (by simp[DV.nlL,DV.nl,Z6]) (λy _=>c_chk1 y x);obtain⟨o,ho⟩:∃o,o=erH r [] (d.hds.take j):=⟨_,rfl⟩;have hno:NzE o:=by rw[ho];exact E0r _ _ _
   rw[<- ho]at heH ⊢;have hsl:=λH=>B5b (xs:=d.hds.map Hd.v) (h:=j) (sz:=4) (by rw[A0I];omega) (A2m _) H;rw[<- List.map_take]at hsl;have ne0:=M7 1 c c2 (by omega);refine wBc hik (wJ hd2 (wJ hg2 (wJ @A3o (wJ ne0 (wJ @A0 (wJ @A1 hGc)))))) ?_;obtain⟨G2,hG2⟩:∃G2,G2=G.upd c2 ⟨0,true,[I64 x.trig,.str x.name,F5 x.body,I64 x.pos]⟩:=⟨_,rfl⟩;have h2c2:∀b,(G2.upd 1 b) c2=some ⟨0,true,[I64 x.trig,.str x.name,F5 x.body,I64 x.pos]⟩:=λb=>by rw[hnO,hG2,A0]
   have h2c:∀b,(G2.upd 1 b) c=some ⟨0,true,[.str d.name,I64 d.prio,O0 d.hds,I64 d.pos]⟩:=λb=>by rw[hnO,hG2,hnO,hG,A0]
   have h2n:∀j,c2+1<=j->G2 j=none:=λj hj=>by rw[hG2,hnO];exact hGn j (by omega)
   rw[B4p (by omega), <- hG2];refine⟨by and_intros<;>(rw[hnO];exact h2n _ (by omega)),?_⟩;refine AC.call (c_den32 r hk (upS s1 o) _ _ 1 A0 (by omega) x.name (kdH x.trig) x.pos) ?_;rintro v' H' c3 ⟨rfl,rfl⟩ hc3;rw[A1,N2 hno];obtain⟨o2,ho2⟩:∃o2,o2=o.or (dnE r x.name (kdH x.trig) x.pos):=⟨_,rfl⟩;have hno2:NzE o2:=by rw[ho2];exact hno.or (B3m _ _ _ _)
   have heH2:erH r [] (d.hds.take (j+1))=(o2.or (if(d.hds.take j).any (λy=>y.trig==x.trig&&y.name==x.name)=true then some (x.pos,7) else none)).or (erB r x.body):=by
    rw[heH,ho2];unfold stH;simp only[A2Q]
   rw[<- ho2];simp only[go_sem,seval];generalize (d.hds.take j).any (λy=>y.trig==x.trig&&y.name==x.name)=bq at hcf heH2;have kE:∀(s2:Int × Int) (c4:Nat),c2+1<=c4->upS s1 (erH r [] (d.hds.take (j+1)))=upS s2 (erB r x.body)->IW Tryz.prog 67 (pz Tryz.prog 25 (.o (.o (.i (.o (.i .h)))))) ⟨tm [(4,.ptr 1 0),(6,.ptr c 0),(8,.ptr c2 0),(20,D8 r.modes),(21,I64 r.modes.length),(22,I64 i),(27,O0 d.hds),(28,I64 d.hds.length),(29,I64 j)],G2.upd 1 (ckB r s2),c4⟩ (bk 3
      (sq Tryz.prog 67 (pz Tryz.prog 25 (.i (.o (.i (.o (.i .h))))))
       (lp (λj:Nat=>[(4,DV.ptr 1 0),(6,DV.ptr c 0),(20,D8 r.modes),(21,I64 r.modes.length),(22,I64 i),(27,O0 d.hds),(28,I64 d.hds.length),(29,I64 j)])
        (λj:Nat=>G.upd 1 (ckB r (upS s1 (erH r [] (d.hds.take j)))))
        (λj c2=>c+1<=c2/\j<=d.hds.length) (λj=>d.hds.length-j) (d.hds.length-j)
        (bk 2
         (bk 1
          (sq Tryz.prog 67 (pz Tryz.prog 25 (.o (.i (.i (.o (.i .h))))))
           (lp (λi:Nat=>[(4,DV.ptr 1 0),(20,D8 r.modes),(21,I64 r.modes.length),(22,I64 i)])
            (λi:Nat=>G0.upd 1 (ckB r (upS s0 (erM r (r.modes.take i)))))
            (λi c=>2<=c/\i<=r.modes.length) (λi=>r.modes.length-i) (r.modes.length-i)
            (bk 0
             (sq Tryz.prog 67 (pz Tryz.prog 25 (.i (.i (.i (.o (.i .h))))))
              (rt [Eng.RV.tmp 2,Eng.RV.tmp 3] λv H' x =>
               ∃H2,GL H' [v] H2 [DV.tup [I64 (upS s0 (erM r r.modes)).1,I64 (upS s0 (erM r r.modes)).2]])))))))))):=by
    intro s2 c4 hc4 hs2;refine wAs (wJ h2c2 h2c) ?_;refine AC.call (hbl s2 _ _ 1 A0 (by omega)) ?_;rintro v' H' c5 ⟨rfl,rfl⟩ hc5;rw[A1, <- hs2];refine wAu hw2 ?_;refine⟨j+1,by simp,?_,inv ⟨b8,by omega⟩,by omega⟩;rw[hG2];exact B4x (λj hj=>hGn j (by omega)) (by omega)
   cases bq with
   |true =>
    rw[if_pos rfl]at heH2;repeat'((first|(with_reducible first|apply wr|refine B0 ?_ ?_)|(with_reducible apply wb2<;>(intro hb;try simp only[hb]))|(refine AC.call (hcf.lend rfl (GL.one (id:=c2) (b:=⟨0,true,[I64 x.trig,.str x.name,F5 x.body,I64 x.pos]⟩) (h2c2 _) rfl (.cons _ _ _ _ (.same _) (.cons _ _ _ _ (.func _ _ _ _ _ .nil (.cons _ _ _ _ (.ptr 0 _ (A0N _) rfl) .nil)) .nil)))) ?_<;>rintro v' H' c' ⟨rfl,rfl,rfl⟩ hcc))<;>try simp only[go_sem,seval,h2c2,h2c,hsl])
    refine AC.call (c_fail32 r (upS s1 o2) _ _ 1 A0 (by omega) x.pos 7) ?_;rintro v' H' c5 ⟨rfl,rfl⟩ hc5;rw[A1,N2 hno2];simp only[go_sem,seval];(repeat'((with_reducible first|refine J8 (p:=IW _ _ (pz Tryz.prog 25 (.o (.o (.i (.o (.i .h)))))) _ _) ?_|refine wr ?_|refine B0 ?_ ?_|apply wb2<;>(intro hb;try simp only[hb]))<;>try simp only[go_sem,seval]));refine IW.stage (by simp[B5,tm,Tm.upd]) (kE _ _ (by omega) ?_);rw[heH2,N2 (hno2.or (λa b h=>by cases h;decide))]
   |false =>
    rw[if_neg (by decide),A3Y]at heH2;repeat'((first|(with_reducible first|refine J8 (p:=IW _ _ (pz Tryz.prog 25 (.o (.o (.i (.o (.i .h)))))) _ _) ?_|refine wr ?_|refine B0 ?_ ?_)|(with_reducible apply wb2<;>(intro hb;try simp only[hb]))|(refine AC.call (hcf.lend rfl (GL.one (id:=c2) (b:=⟨0,true,[I64 x.trig,.str x.name,F5 x.body,I64 x.pos]⟩) (h2c2 _) rfl (.cons _ _ _ _ (.same _) (.cons _ _ _ _ (.func _ _ _ _ _ .nil (.cons _ _ _ _ (.ptr 0 _ (A0N _) rfl) .nil)) .nil)))) ?_<;>rintro v' H' c' ⟨rfl,rfl,rfl⟩ hcc))<;>try simp only[go_sem,seval,h2c2,h2c,hsl])
    refine IW.stage (by simp[B5,tm,Tm.upd]) (kE _ _ (by omega) ?_);rw[heH2,N2 hno2]
  have hd2:=dfz hlt2;rw[A0J (by omega)];refine wAs (wJ hd2 hw) ?_;refine⟨i+1,by simp,?_,inv ⟨b8,by omega⟩,by omega⟩;rw[hfin,hG];exact B4x (λj hj=>hG0 j (by omega)) (by omega)
 have hd:=dfz hlt;rw[A0J (by omega)];have hb1:(G0.upd 1 (ckB r (upS s0 (erM r r.modes)))) 1=some (ckB r (upS s0 (erM r r.modes))):=A0;have hcs:=(hck (upS s0 (erM r r.modes))).symm;have hbn:∀j,c<=j->(G0.upd 1 (ckB r (upS s0 (erM r r.modes)))) j=none:=λj hj=>by rw[hnO];exact hG0 j (by omega)
 rw[hcs]at hb1 hbn ⊢;refine wAs (wJ hd hb1) ?_;refine⟨by and_intros<;>exact hG0 _ (by omega),?_⟩;refine wAs hb1 ?_;exact A3 rfl
theorem A9y(q:Prg × Int × Int):(A6s q).nl=true:=by
 simp[A6s,Prg.v,Prg.cs,DV.nlL,DV.nl,B0z,M4,C1c,B8a]
abbrev cd0:List DV:=[.snil,.snil,.snil,.snil,.snil,I64 0,I64 0]
theorem D8q{ρ:Ren}{v:Value}{p c:Int}(h:VRel ρ (.tup [.agg cd0,I64 p,I64 c]) v):VRel ρ (A6s (A8g,p,c)) v:=by
 obtain⟨bb,rfl,k1,k2⟩:=h.tup_inv;refine .tup _ _ k1 λj x y hx hy=>?_
 match j with
 |0 =>
  cases hx;have h0:=k2 0 (.agg cd0) y rfl hy;obtain⟨b2,rfl,m1,m2⟩:=h0.agg_inv;refine .agg _ _ m1 λj x y hx hy=>?_
  match j with
  |0=>cases hx;exact(m2 0 _ y rfl hy).snil_lst
  |1=>cases hx;exact(m2 1 _ y rfl hy).snil_lst
  |2=>cases hx;exact(m2 2 _ y rfl hy).snil_lst
  |3=>cases hx;exact(m2 3 _ y rfl hy).snil_lst
  |4=>cases hx;exact(m2 4 _ y rfl hy).snil_lst
  |5=>cases hx;exact m2 5 _ y rfl hy
  |6=>cases hx;exact m2 6 _ y rfl hy
  |_+7=>cases hx
 |1=>cases hx;exact k2 1 _ y rfl hy
 |2=>cases hx;exact k2 2 _ y rfl hy
 |_+3=>cases hx
theorem W6{H:Hp}{p c:Int}:∃H2,GL H [.tup [.agg cd0,I64 p,I64 c]] H2 [A6s (A8g,p,c)] :=
 ⟨H,GL.view fun ρ vs hA=>M6 (λv h=>D8q h) vs hA⟩
theorem D6g{X0:Hp}{a b eo:Option Nat}{x:Cg}{E:List Ent}{p v m:DV}{t n:Int}{c:Nat}{ds:List DV}(h:GN (optH X0 eo ⟨4,true,cellsL (E.map Ent.v)⟩) 2 a b x c)(he:∀i,eo=some i->3<=i)(hn:eo=none->E=[])
  (hp:p.one=true) (hv:v.one=true) (hm:m.one=true) :
  ∃Y,GL (GM (optH X0 eo ⟨4,true,cellsL (E.map Ent.v)⟩) 2 a b (mkP (todoV eo E.length) p v m t n) x) ds Y ds/\Y 2=some ⟨0,true,[A8p x.1,strs x.2,C5c E,p,v,I64 t,I64 n,m]⟩/\∀j B,j≠2->X0 j=some B->(∀i,eo=some i->i≠j)->Y j=some B:=by
 have o1:∀(o:Option Nat) (n:Nat),(todoV o n).one=true:=λo n=>z7
 have heX:∀i,eo=some i->(optH X0 eo ⟨4,true,cellsL (E.map Ent.v)⟩) i=some ⟨4,true,cellsL (E.map Ent.v)⟩:=λi hi=>o9
 have g1:=A3r (H:=GM (optH X0 eo ⟨4,true,cellsL (E.map Ent.v)⟩) 2 a b (mkP (todoV eo E.length) p v m t n) x) (k:=2) (o:=a) (n:=x.1.length) (u:=2) (u':=2) (pre:=[]) (suf:=[todoV b x.2.length,todoV eo E.length,p,v,I64 t,I64 n,m]) (xs:=x.1.map Ins.v) (ds:=ds)
  (A0c h) (λi hi=>⟨A5q h hi,(h.ha i hi).1⟩) (λe=>by rw[h.an e];rfl) (λd hd=>by simp at hd;rcases hd with rfl|rfl|rfl|rfl|rfl|rfl|rfl<;>(first|exact o1 _ _|assumption|rfl)) (by simp) (λy hy=>by obtain⟨z, -,rfl⟩:=A1D.1 hy;rfl)
 obtain⟨Y1,hY1⟩:∃Y:Hp,Y=(delO (GM (optH X0 eo ⟨4,true,cellsL (E.map Ent.v)⟩) 2 a b (mkP (todoV eo E.length) p v m t n) x) a).upd 2 ⟨0,true,[]++[.lst (x.1.map Ins.v)]++[todoV b x.2.length,todoV eo E.length,p,v,I64 t,I64 n,m]⟩:=⟨_,rfl⟩;rw[<- hY1]at g1;have y1:∀j,j≠2->(∀i,a=some i->¬j=i)->Y1 j=GM (optH X0 eo ⟨4,true,cellsL (E.map Ent.v)⟩) 2 a b (mkP (todoV eo E.length) p v m t n) x j:=λj h1 h2=>by rw[hY1,h_ne h1,A9 h2]
 have g2:=A3r (H:=Y1) (k:=2) (o:=b) (n:=x.2.length) (u:=1) (u':=1) (pre:=[A8p x.1]) (suf:=[todoV eo E.length,p,v,I64 t,I64 n,m]) (xs:=x.2.map DV.str) (ds:=ds)
  (by rw[hY1,A0];rfl) (λi hi=>⟨by rw[y1 i (h.hb i hi).1 (λj hj e=>h.ne j i hj hi e.symm),A8j hi,A2p],(h.hb i hi).1⟩) (λe=>by rw[h.bn e];rfl) (λd hd=>by simp at hd;rcases hd with rfl|rfl|rfl|rfl|rfl|rfl|rfl<;>(first|exact o1 _ _|assumption|rfl)) (by simp) (λy hy=>by obtain⟨z, -,rfl⟩:=A1D.1 hy;rfl)
 obtain⟨Y2,hY2⟩:∃Y:Hp,Y=(delO Y1 b).upd 2 ⟨0,true,[A8p x.1]++[.lst (x.2.map DV.str)]++[todoV eo E.length,p,v,I64 t,I64 n,m]⟩:=⟨_,rfl⟩;rw[<- hY2]at g2;have y2:∀j,j≠2->(∀i,a=some i->¬j=i)->(∀i,b=some i->¬j=i)->Y2 j=GM (optH X0 eo ⟨4,true,cellsL (E.map Ent.v)⟩) 2 a b (mkP (todoV eo E.length) p v m t n) x j:=λj h1 h2 h3=>by rw[hY2,h_ne h1,A9 h3,y1 j h1 h2]
 have ab:∀j B,(optH X0 eo ⟨4,true,cellsL (E.map Ent.v)⟩) j=some B->(∀i,a=some i->¬j=i)/\(∀i,b=some i->¬j=i):=λj B hj=>⟨λi hi e=>(by subst e;have:=(h.ha j hi).2.2;rw[hj]at this;cases this),λi hi e=>(by subst e;have:=(h.hb j hi).2.2;rw[hj]at this;cases this)⟩;have ob:∀j B,j≠2->(optH X0 eo ⟨4,true,cellsL (E.map Ent.v)⟩) j=some B->Y2 j=some B:=λj B h1 hj=>by rw[y2 j h1 (ab j B hj).1 (ab j B hj).2,V5 h hj h1]
 have g3:=A3r (H:=Y2) (k:=2) (o:=eo) (n:=E.length) (u:=4) (u':=4) (pre:=[A8p x.1,strs x.2]) (suf:=[p,v,I64 t,I64 n,m]) (xs:=E.map Ent.v) (ds:=ds)
  (by rw[hY2,A0];rfl) (λi hi=>⟨ob i _ (by have:=he i hi;omega) (heX i hi),by have:=he i hi;omega⟩) (λe=>by rw[hn e];rfl) (λd hd=>by simp at hd;rcases hd with rfl|rfl|rfl|rfl|rfl|rfl|rfl<;>(first|exact o1 _ _|assumption|rfl)) (by simp) (λy hy=>by obtain⟨z, -,rfl⟩:=A1D.1 hy;rfl)
 refine⟨_,(g1.trans g2).trans g3,by rw[A0];rfl,λj B h1 hj hne=>?_⟩;rw[h_ne h1,A9 (λi hi e=>hne i hi e.symm),ob j B h1 (by rw[A8 (λi hi e=>hne i hi e.symm),hj])]
theorem c_PCompile(r:Ru)(hB:r.sz<4000000):PC Tryz.prog 15 [r.v] (A6s (B2z r)):=by
 refine PC.ofT A2 rfl (A0C rfl) (by simp[Ru.v,DV.nlL,DV.nl,K4,K3]) (A9y _) ?_;have hck:=c_Check32 r hB;unfold B5z at hck;obtain⟨R,hR⟩:∃R,R=B2z r:=⟨_,rfl⟩;rw[<- hR];unfold B2z at hR;cases hv:M8 r with
 |false =>
  rw[hv]at hck hR;rw[if_neg A3J]at hck hR;subst hR;obtain⟨D,M⟩:=r;dsimp only[Ru.v]at hck ⊢;refine wA9 hck ?_;rw[C9 (v:=.tup [.agg cd0,I64 0,I64 1]) rfl];exact W6
 |true =>
  rw[hv]at hck hR;rw[if_pos rfl]at hck hR;cases he:A4t r with
  |some q =>
   obtain⟨p,c⟩:=q;rw[he]at hck hR;have hck:PC Tryz.prog 25 [r.v] (.tup [I64 p,I64 c]):=hck;dsimp only at hR;have hnz:(c != 0)=true:=by
    have h:NzE (A4t r):=zak
    simpa using h _ _ he
   subst hR;obtain⟨D,M⟩:=r;dsimp only[Ru.v]at hck ⊢;refine wBc hck hnz ?_;rw[C9 (v:=.tup [.agg cd0,I64 p,I64 c]) rfl];exact W6
  |none =>
   rw[he]at hck hR;dsimp only at hR;have hC:ChkR r:=⟨hv,he⟩;have hlen:=hC.lens;have hnil:nmR r []=0:=by show(K0 r []).2=0;rw[hC.nil]
   have hnum:=E0s (r:=r) hC.kd;have hbe:=c_begin r (by omega) (by omega);have hms:(r.modes.map λm=>m.hds.length).sum+r.modes.length<=1000000:=E1u hC;have hal:(J5 [] (hkM (nmR r) 0 r.modes)).length<=1000000:=A1B (D1l hC).1 (by omega);have hrf:=λs h1 h2=>D0c (s:=s) hC h1 h2;have hpb:=λs h1=>E3v (s:=s) hC h1;obtain⟨L,hL⟩:∃L,L=G5 (nmR r) 0 r.modes:=⟨_,rfl⟩;have hsz:∀p∈L,St.szs p.2.flatten<=4000000:=λp hp=>by
    rw[hL]at hp;have h1:=C3i r.modes 0 p hp;have h2:r.sz=(r.decls.map Dc.sz).sum+(r.modes.map Md.sz).sum:=rfl;omega
   have hcm:cmC r=⟨(cgL (nmR r) 0 [] L).1,(cgL (nmR r) 0 [] L).2.2,(cgL (nmR r) 0 [] L).2.1,r.modes.map Md.prio,(r.decls.filter λd=>d.kind=6).map Dc.value,(cnD r.decls 7:Int),(cnD r.decls 8:Int)⟩:=by
    rw[hL];rfl
   have hparts:=λH c t ht htc=>c_parts (beC r) (mkK (inL (nmL r))) (mvV (inL (nmL r))) (nmR r) hnum rfl r.decls r.modes hms H c t ht htc hal;have hck:PC Tryz.prog 25 [r.v] (.tup [I64 0,I64 0]):=hck;rw[hcm]at hR;dsimp only at hR;obtain⟨V,hV⟩:∃V,V=(r.decls.filter λd=>d.kind=6).map Dc.value:=⟨_,rfl⟩;obtain⟨P,hP⟩:∃P,P=r.modes.map Md.prio:=⟨_,rfl⟩;obtain⟨m7,h7⟩:∃m7:Int,m7=(cnD r.decls 7:Int):=⟨_,rfl⟩;obtain⟨m8,h8⟩:∃m8:Int,m8=(cnD r.decls 8:Int):=⟨_,rfl⟩;obtain⟨mp,hmp⟩:∃mp,mp=DV.mp .s (mkK (inL (nmL r))) (mvV (inL (nmL r))):=⟨_,rfl⟩;have hbeC:beC r=[.snil,.snil,.snil,R9 P,R9 V,I64 m7,I64 m8,mp]:=by rw[hP,hV,h7,h8,hmp]
   rw[<- hV, <- hP, <- h7, <- h8]at hR;have hgb:=λ(e:DV)=>c_gblock e (R9 P) (R9 V) (mkK (inL (nmL r))) (mvV (inL (nmL r))) m7 m8 (nmR r) hnum;have hem:=λ(e:DV)=>c_emit e (R9 P) (R9 V) mp m7 m8 31 0;rw[<- hmp]at hgb;have hmp1:mp.one=true:=by rw[hmp];rfl
   rw[hbeC]at hbe hparts;clear hcm hnum he hv hms hal hV hP h7 h8 hmp hbeC;generalize nmR r=nm at *;clear hnil hlen hC;obtain⟨D,M⟩:=r;dsimp only[Ru.v]at hck hbe hparts hrf hpb hL ⊢;refine wA9 hck ?_;refine ca3 (hbe _ _) ?_;refine wAu @A0 ?_;refine AC.call (hparts _ _ _ A0 (by omega)) ?_;rintro _ _ c2 ⟨rfl,l',q1,q2,rfl⟩ hc2;have hPB:=hpb l' q1;obtain rfl:=hrf l' q1 q2;rw[<- hL]at hPB ⊢;simp only[go_sem,seval];(repeat'((with_reducible first|apply wr|refine B0 ?_ ?_|apply wb2<;>(intro hb;try simp only[hb]))<;>try simp only[go_sem,seval,A0I]));obtain⟨X0,hX⟩:∃X:Hp,X=((nil.upd 0 ⟨0,true,[D0 D,D8 M]⟩).upd 1 ⟨0,true,[.snil,.snil,.snil,.snil,.snil,I64 0,I64 0]⟩):=⟨_,rfl⟩;rw[<- hX];have x1:X0 1=some ⟨0,true,cd0⟩:=by rw[hX,A0]
   have x2:X0 2=none:=by rw[hX,h_ne (by decide),h_ne (by decide)];rfl
   have xf:∀j,2<=j->X0 j=none:=λj hj=>by rw[hX,hnO,hnO];rfl
   clear hX hparts hbe hck q1 q2 hrf hpb;refine B6 (λq:Nat × Option Nat × Option Nat × Option Nat=>[(2,.ptr 1 0),(7,.ptr 2 0),(26,C6c L),(27,I64 L.length),(28,I64 q.1)])
    (λq=>GM (optH X0 q.2.2.2 ⟨4,true,cellsL ((cgL nm 0 [] (L.take q.1)).2.1.map Ent.v)⟩) 2 q.2.1 q.2.2.1 (mkP (todoV q.2.2.2 q.1) (R9 P) (R9 V) mp m7 m8) ((cgL nm 0 [] (L.take q.1)).1,(cgL nm 0 [] (L.take q.1)).2.2))
    (λq cc=>c2<=cc/\q.1<=L.length/\GN (optH X0 q.2.2.2 ⟨4,true,cellsL ((cgL nm 0 [] (L.take q.1)).2.1.map Ent.v)⟩) 2 q.2.1 q.2.2.1 ((cgL nm 0 [] (L.take q.1)).1,(cgL nm 0 [] (L.take q.1)).2.2) cc /\
     (∀i,q.2.2.2=some i->3<=i/\i<cc)/\(q.2.2.2=none->q.1=0)/\(cgL nm 0 [] (L.take q.1)).1.length<=4000/\(cgL nm 0 [] (L.take q.1)).2.2.length<=200) (λq=>L.length-q.1) (0,none,none,none)
    (by simp[B5,tm,Tm.upd]) (by simp only[A1F,cgL];exact Sub.refl _) ⟨A0D _,A0N _,⟨b8,λi h=>(by cases h),λi h=>(by cases h),λi j h=>(by cases h),λ_=>rfl,λ_=>rfl,λj hj=>xf j (by omega)⟩,λi h=>(by cases h),λ_=>rfl,A0N _,A0N _⟩ ?_
   rintro⟨k,a,b,eo⟩ cc ⟨hc,hk,hN0,heo,hen,hl1,hl2⟩;replace hk:k<=L.length:=hk;replace hc:c2<=cc:=hc;replace heo:∀i,eo=some i->3<=i/\i<cc:=heo;replace hen:eo=none->k=0:=hen;dsimp only at hN0 hl1 hl2 ⊢;obtain⟨x,hx⟩:∃x:Cg,x=((cgL nm 0 [] (L.take k)).1,(cgL nm 0 [] (L.take k)).2.2):=⟨_,rfl⟩;have hx1:(cgL nm 0 [] (L.take k)).1=x.1:=by rw[hx]
   have hx2:(cgL nm 0 [] (L.take k)).2.2=x.2:=by rw[hx]
   rw[hx1]at hl1;rw[hx2]at hl2;obtain⟨E,hE⟩:∃E,E=(cgL nm 0 [] (L.take k)).2.1:=⟨_,rfl⟩;have hEl:E.length=k:=by rw[hE,A8r,A0W];omega
   by_cases hlt:k<L.length
   rotate_left
   ·have hd:=dfz hlt;have hkl:k=L.length:=by omega
    rw[<- hx, <- hE]at hN0 ⊢;have hcgx:(if 4000<(cgL nm 0 [] L).1.length\/200<(cgL nm 0 [] L).2.2.length then(A8g,(0:Int),(9:Int)) else(⟨(cgL nm 0 [] L).1,(cgL nm 0 [] L).2.2,(cgL nm 0 [] L).2.1,P,V,m7,m8⟩,0,0))=((⟨x.1,x.2,E,P,V,m7,m8⟩:Prg),(0:Int),(0:Int)):=by
     rw[hkl,A1K]at hx1 hx2 hE;rw[hx1,hx2, <- hE,iN]
    obtain⟨Y,gY,yb,yo⟩:=D6g (p:=R9 P) (v:=R9 V) (m:=mp) (t:=m7) (n:=m8) (ds:=[.ptr 1 0,.ptr 2 0]) hN0 (λi hi=>(heo i hi).1) (λe=>A2K.1 (by rw[hEl,hen e])) rfl rfl hmp1;have ya:=yo 1 _ (by decide) x1 (λi hi=>by have:=(heo i hi).1;omega);rw[hEl]at gY;(repeat'((with_reducible first|refine J8 (p:=IW _ _ (pz Tryz.prog 15 (.i (.o (.i (.i (.i .h)))))) _ _) ?_|refine wr ?_|refine B0 ?_ ?_|apply wb2<;>(intro hb;try simp only[hb]))<;>try simp only[go_sem,seval,hd,A0I]));refine IW.keep [2,7] [.ptr 1 0,.ptr 2 0] gY ?_;show IW Tryz.prog _ _ ⟨tm [(2,.ptr 1 0),(7,.ptr 2 0)],_,_⟩ _;refine wAx ya yb @A0 ?_;rw[C9 (v:=A6s (⟨x.1,x.2,E,P,V,m7,m8⟩,0,0)) rfl,hR,hcgx];exact⟨_,GL.refl _ _⟩
   have hd:=dtz hlt;have hg:=A0B hlt;have hw:=w64 (n:=(k:Int)+1) (by have:=hPB.1;omega) (by have:=hPB.1;omega);have hnx:=D3f nm hg;have hszp:=hsz _ (A0K hlt);have hbp:=hPB.2 _ (A0K hlt);generalize L[k]=p at hg hnx hszp hbp;rw[<- hx, <- hE]at hN0 hnx ⊢;rw[hx1]at hnx;have hM:=A0c (mk:=mkP (todoV eo k) (R9 P) (R9 V) mp m7 m8) hN0;have hfr:=λj (hj:cc<=j)=>A8i (mk:=mkP (todoV eo k) (R9 P) (R9 V) mp m7 m8) hN0 hj;obtain⟨ky,bd⟩:=p;dsimp only at hnx hszp hbp hg;have hgv:(L.map paV)[k]? = some (.agg (pcC ky (A4v bd))):=v8
   have hnc:cc≠2:=b8
   have hla:=P5 (o:=a) (n:=x.1.length) (λe=>S3 (hN0.an e));have hnc':=hnc.symm;(repeat'((with_reducible first|refine J8 (p:=IW _ _ (pz Tryz.prog 15 (.o (.o (.o (.o (.o .h)))))) _ _) ?_|refine wr ?_|refine B0 ?_ ?_|apply wb2<;>(intro hb;try simp only[hb]))<;>try simp only[go_sem,seval,hd,hgv,hM,hla,A0I,A0,A1,hnc,hnc']));obtain⟨B,hBe⟩:∃B:Blk,B=⟨0,true,[I64 ky.mode,I64 ky.trig,I64 ky.ix,I64 x.1.length,A4v bd]⟩:=⟨_,rfl⟩;obtain⟨HH,hHH⟩:∃HH:Hp,HH=(GM (optH X0 eo ⟨4,true,cellsL (E.map Ent.v)⟩) 2 a b (mkP (todoV eo k) (R9 P) (R9 V) mp m7 m8) x).upd cc ⟨0,true,[I64 ky.mode,I64 ky.trig,I64 ky.ix,I64 x.1.length,A4v bd]⟩:=⟨_,rfl⟩;unfold B3a;show IW Tryz.prog _ _ ⟨_,(GM _ 2 a b _ x).upd cc ⟨0,true,[I64 ky.mode,I64 ky.trig,I64 ky.ix,I64 x.1.length,A4v bd]⟩,cc+1⟩ _;rw[<- hHH];have hh2:HH 2=some ⟨0,true,[todoV a x.1.length,todoV b x.2.length,todoV eo k,R9 P,R9 V,I64 m7,I64 m8,mp]⟩:=by rw[hHH,h_ne hnc'];exact hM
   have hhc:HH cc=some ⟨0,true,[I64 ky.mode,I64 ky.trig,I64 ky.ix,I64 x.1.length,A4v bd]⟩:=by rw[hHH,A0]
   have hhf:∀j,cc+1<=j->HH j=none:=λj hj=>by rw[hHH,hnO];exact hfr j (by omega)
   have hhe:∀i,eo=some i->HH i=some ⟨4,true,cellsL (E.map Ent.v)⟩:=λi hi=>by
    have:=heo i hi;rw[hHH,hnO];exact V5 hN0 (by subst hi;exact A0) (by omega)
   have ne0:=M7 2 cc (cc+1) (by omega);refine wA2 hh2 hhc ne0 @A0 @A1 ?_;refine S8 (D4 (cs:=cellsL (E.map Ent.v)) (λe=>⟨hen e,by rw[A2K.1 (hEl.trans (hen e))];rfl⟩) (λi hi=>?_) (by rw[B4f,hEl]) (by omega) (by have:=hPB.1;omega) (by have:=hPB.1;omega)) ?_
   ·have:=heo i hi;rw[hnO];exact hhe i hi
   have dm:∀X:Hp,delO X eo 2=X 2:=λX=>A9 (λi hi e=>by have:=heo i hi;omega);simp only[go_sem,seval,dm,hh2,ne0,A0];refine⟨by rw[hnO,A9 (λi hi e=>by have:=heo i hi;omega),hnO];exact hhf _ (by omega),?_⟩;obtain⟨E',hE'⟩:∃E',E'=E++[(⟨ky.mode,ky.trig,ky.ix,(x.1.length:Int)⟩:Ent)]:=⟨_,rfl⟩;have hEC:cellsL (E'.map Ent.v)=cellsL (E.map Ent.v)++[I64 ky.mode,I64 ky.trig,I64 ky.ix,I64 x.1.length]:=by rw[hE',A0P,C8];rfl
   obtain⟨i',hi'⟩:∃i',i'=cc+1+14:=⟨_,rfl⟩;have hEl':E'.length=k+1:=by rw[hE',A0A,hEl];rfl
   have xn:∀j,2<=j->j≠i'->(optH X0 (some i') ⟨4,true,cellsL (E'.map Ent.v)⟩) j=none:=λj h1 h2=>by simp only[optH];rw[h_ne h2];exact xf j h1
   have hN1:GN ((optH X0 (some i') ⟨4,true,cellsL (E'.map Ent.v)⟩).upd cc B) 2 a b x (i'+1) :=
    ⟨b8,λi hi=>by have h:=hN0.ha i hi;exact⟨h.1,b8,by rw[hnO];simp only[optH];rw[hnO];have h3:=h.2.2;rcases Nat.lt_or_ge i 2 with h4|h4;(· rw[A8 (λq hq e=>by have:=heo q hq;omega)]at h3;exact h3);(· exact xf i h4)⟩,
     λi hi=>by have h:=hN0.hb i hi;exact⟨h.1,b8,by rw[hnO];simp only[optH];rw[hnO];have h3:=h.2.2;rcases Nat.lt_or_ge i 2 with h4|h4;(· rw[A8 (λq hq e=>by have:=heo q hq;omega)]at h3;exact h3);(· exact xf i h4)⟩,
     hN0.ne,hN0.an,hN0.bn,λj hj=>by rw[hnO];exact xn j (by omega) (by omega)⟩
   obtain⟨mk,hmk⟩:∃mk,mk=mkP (todoV (some i') (k+1)) (R9 P) (R9 V) mp m7 m8:=⟨_,rfl⟩;have gz:∀ds,GL (((delO (HH.upd (cc+1+8) ⟨4,true,[I64 ky.mode,I64 ky.trig,I64 ky.ix,I64 x.1.length]⟩) eo).upd (cc+1+14) ⟨4,true,cellsL (E.map Ent.v)++[I64 ky.mode,I64 ky.trig,I64 ky.ix,I64 x.1.length]⟩).upd 2 ⟨0,true,[todoV a x.1.length,todoV b x.2.length,.slc (cc+1+14) 0 (k+1),R9 P,R9 V,I64 m7,I64 m8,mp]⟩) ds
     (GM ((optH X0 (some i') ⟨4,true,cellsL (E'.map Ent.v)⟩).upd cc B) 2 a b mk x) ds:=λds=>GL.less' (A5p (by rw[A0,hmk,hi'];rfl)
     (λi hi=>by
      have h:=hN0.ha i hi;rw[h_ne h.1,hnO,A9 (λq hq e=>by have h2:=h.2.2;subst e;rw[hq]at h2;simp only[optH]at h2;rw[A0]at h2;cases h2),hnO,hHH,hnO];exact A5q hN0 hi)
     (λi hi=>by
      have h:=hN0.hb i hi;rw[h_ne h.1,hnO,A9 (λq hq e=>by have h2:=h.2.2;subst e;rw[hq]at h2;simp only[optH]at h2;rw[A0]at h2;cases h2),hnO,hHH,hnO];exact A8j hi)
     (λj Q hj hQ=>by
      rw[h_ne hj];by_cases e1:j=i'
      ·subst e1;rw[hnO]at hQ;simp only[optH]at hQ;rw[A0]at hQ;rw[hi',A0, <- hEC];exact hQ
      rw[hnO];by_cases e2:j=cc
      ·subst e2;rw[A0]at hQ;rw[A9 (λq hq e=>by have:=heo q hq;omega),hnO,hhc, <- hBe];exact hQ
      rw[h_ne e2]at hQ;simp only[optH]at hQ;rw[h_ne e1]at hQ;have hj2:j<2:=A1S λh=>by rw[xf j h]at hQ;cases hQ
      rw[A9 (λq hq e=>by have:=heo q hq;omega),hnO,hHH,hnO];exact V5 hN0 (by rw[A8 (λq hq e=>by have:=heo q hq;omega)];exact hQ) (by omega)))
   refine IW.keep [2,7,9,26,27,28] [.ptr 1 0,.ptr 2 0,.ptr cc 0,C6c L,I64 L.length,I64 k] (gz _) ?_;show IW Tryz.prog _ _ ⟨tm [(2,.ptr 1 0),(7,.ptr 2 0),(9,.ptr cc 0),(26,C6c L),(27,I64 L.length),(28,I64 k)],_,_⟩ _;rw[<- hi'];have hcc0:(optH X0 (some i') ⟨4,true,cellsL (E'.map Ent.v)⟩) cc=none:=xn cc (by omega) (by omega);have hcf0:∀j,i'+1<=j->(optH X0 (some i') ⟨4,true,cellsL (E'.map Ent.v)⟩) j=none:=λj hj=>xn j (by omega) (by omega);have hx01:(optH X0 (some i') ⟨4,true,cellsL (E'.map Ent.v)⟩) 1=some ⟨0,true,cd0⟩:=by simp only[optH];rw[hnO];exact x1
   have hgb:=hgb (todoV (some i') (k+1));have hem:=hem (todoV (some i') (k+1));rw[<- hmk]at hgb hem;have hNi:∀a' b' x' c',GN ((optH X0 (some i') ⟨4,true,cellsL (E'.map Ent.v)⟩).upd cc B) 2 a' b' x' c'->GM ((optH X0 (some i') ⟨4,true,cellsL (E'.map Ent.v)⟩).upd cc B) 2 a' b' mk x' cc=some B:=λa' b' x' c' h=>V5 h A0 hnc;generalize hX1:(optH X0 (some i') ⟨4,true,cellsL (E'.map Ent.v)⟩).upd cc B=X1 at hN1 hNi ⊢;have hB0:GM X1 2 a b mk x cc=some ⟨0,true,[I64 ky.mode,I64 ky.trig,I64 ky.ix,I64 x.1.length,A4v bd]⟩:=by rw[hNi _ _ _ _ hN1,hBe]
   clear gz hN0 hh2 hhc hhf hhe hHH HH hM hfr dm hla;have hxx1:x.1.length<=4000:=hl1;refine wAs hB0 ?_;refine B6 (λq:Nat × Option Nat × Option Nat=>[(2,.ptr 1 0),(7,.ptr 2 0),(26,C6c L),(27,I64 L.length),(28,I64 k),(54,A4v bd),(55,I64 bd.length),(56,I64 q.1)])
    (λq=>GM X1 2 q.2.1 q.2.2 mk (I0 nm (bd.take q.1).flatten x))
    (λq c3=>i'+1<=c3/\q.1<=bd.length/\GN X1 2 q.2.1 q.2.2 (I0 nm (bd.take q.1).flatten x) c3) (λq=>bd.length-q.1) (0,a,b)
    (by simp[B5,tm,Tm.upd]) (by simp only[A1F,A2I,P1];exact Sub.refl _) ⟨A0D _,A0N _,by simp only[A1F,A2I,P1];exact hN1⟩ ?_
   clear hB0 hN1 a b;rintro⟨j,a,b⟩ c3 ⟨hc3,hj,hN⟩;replace hj:j<=bd.length:=hj;replace hc3:i'+1<=c3:=hc3;dsimp only at hN ⊢;by_cases hltj:j<bd.length
   ·have hdj:=dtz hltj;have hgj:=A0B hltj;have hwj:=w64 (n:=(j:Int)+1);have hfs:=C7e hgj;have hm1:=B4w (A0K hltj);have hm2:=A4w bd j;have hm3:=A4w bd (j+1);have hgjv:(bd.map F5)[j]? = some (F5 bd[j]):=by rw[A1G,hgj];rfl
    generalize bd[j]=y at hgj hfs hm1 hgjv;have hbx:=C5g (nm:=nm) ((bd.take j).flatten++y) x;rw[<- hfs]at hbx;have hcall:=hgb _ y (A1M _) (by omega) (I0 nm (bd.take j).flatten x) (by rw[<- U6, <- hfs];exact⟨b8,by omega⟩);rw[<- U6, <- hfs]at hcall;refine wAr (wJ hdj (wJ hgjv hwj)) ?_;refine AC.call (hcall _ _ _ _ _ hN) ?_;rintro _ _ c4 ⟨rfl,a2,b2,hN2,rfl⟩ hc4;refine wAu hwj ?_;exact⟨(j+1,a2,b2),b9,Sub.refl _,inv ⟨b8,hltj,hN2⟩,by simp only;omega⟩
   have hdj:=dfz hltj;have hjb:j=bd.length:=b8
   subst hjb;rw[A1K]at hN ⊢;have hbx:=C5g (nm:=nm) bd.flatten x;refine wAr hdj ?_;refine AC.call (hem _ (by omega) _ _ _ _ _ hN) ?_;rintro _ _ c4 ⟨rfl,a2,b2,hN2,rfl⟩ hc4;have hM2:=A0c (mk:=mk) hN2;rw[hmk]at hM2;have hnx1:=hnx.1;have hnx2:=hnx.2;unfold E2x at hnx1;dsimp only at hnx1 hM2 hN2;obtain⟨z,hz⟩:∃z:Cg,z=((I0 nm bd.flatten x).1++[⟨31,0⟩],(I0 nm bd.flatten x).2):=⟨_,rfl⟩;rw[<- hz]at hnx1 hN2 hM2 ⊢;have hl3:=P5 (o:=a2) (n:=z.1.length) (λe=>S3 (hN2.an e));have hl4:=P5 (o:=b2) (n:=z.2.length) (λe=>S3 (hN2.bn e));have hz1:(cgL nm 0 [] (L.take (k+1))).1=z.1:=congrArg Prod.fst hnx1;have hz2:(cgL nm 0 [] (L.take (k+1))).2.2=z.2:=congrArg Prod.snd hnx1;have hle:=B9m (nm:=nm) (l:=L) (S:=[]) (k+1);rw[hz1,hz2]at hle;obtain⟨mk2,hmk2⟩:∃mk2,mk2=mk:=⟨_,rfl⟩;rw[<- hmk]at hM2;have hx11:GM X1 2 a2 b2 mk z 1=some ⟨0,true,cd0⟩:=V5 hN2 (by rw[<- hX1,hnO];exact hx01) (by decide);have hMz:GM X1 2 a2 b2 mk z 2=some ⟨0,true,[todoV a2 z.1.length,todoV b2 z.2.length,todoV (some i') (k+1),R9 P,R9 V,I64 m7,I64 m8,mp]⟩:=by rw[hM2,hmk]
   by_cases d1:4000<z.1.length
   ·have d1':decide ((z.1.length:Int)>4000)=true:=by simp;omega
    have d1'':decide ((z.1.length:Int)<=4000)=false:=a8
    refine wA6 hMz hx11 hl3 hl4 d1' d1'' ?_;rw[hR,iP,C9 (v:=.tup [.agg cd0,I64 0,I64 9]) rfl];exact W6
   have d1':decide ((z.1.length:Int)>4000)=false:=a8
   by_cases d2:200<z.2.length
   ·have d2':decide ((z.2.length:Int)>200)=true:=by simp;omega
    refine wA6 hMz hx11 hl3 hl4 d1' d2' ?_;rw[hR,iP,C9 (v:=.tup [.agg cd0,I64 0,I64 9]) rfl];exact W6
   have d2':decide ((z.2.length:Int)>200)=false:=a8
   refine wAu (wJ hMz (wJ hx11 (wJ hl3 (wJ hl4 (wJ d1' (wJ d2' hw)))))) ?_;refine⟨(k+1,a2,b2,some i'),b9,?_,inv ⟨b8,hlt,?_,λi hi=>(by cases hi;exact⟨b8,by omega⟩),λe=>(by cases e),?_,?_⟩,by simp only;omega⟩
   ·dsimp only;rw[hnx1,hnx2, <- hE', <- hmk];rw[<- hX1]at hN2 ⊢;exact L6 hcc0 hnc hN2
   ·dsimp only;rw[hnx1,hnx2, <- hE'];rw[<- hX1]at hN2;exact hN2.unbox hcc0 (by omega) hcf0
   ·dsimp only;rw[hz1];omega
   ·dsimp only;rw[hz2];omega
def vaL(D:List Dc):List Int:=(D.filter λd=>d.kind=6).map Dc.value
theorem D8p(D:List Dc):(vaL D).length<=D.length:=by unfold vaL;rw[A0I];exact A4B _ _
theorem C7z{D:List Dc}{i:Nat}{d:Dc}(h:D[i]? = some d):vaL (D.take (i+1))=vaL (D.take i)++if d.kind=6 then [d.value] else []:=by
 unfold vaL;rw[A0R,h,List.filter_append,A0P]
 congr 1
 by_cases e:d.kind=6<;>simp[e]
def vaH(X:Hp)(vo:Option Nat)(V:List Int)(m7 m8:Int):Hp:=(optH X vo ⟨1,true,V.map λz=>I64 z⟩).upd 8 ⟨0,true,[.snil,.snil,.snil,.snil,todoV vo V.length,I64 m7,I64 m8]⟩
theorem A4l{X:Hp}{o:Option Nat}{j:Nat}(h:X j=none):delO X o j=none:=by
 cases o with
 |none=>exact h
 |some i =>
  by_cases e:j=i
  ·subst e;simp[delO,Hp.del]
  ·rw[A9 (λk hk h=>e (by cases hk;exact h))];exact h
theorem C6d(M:List Md):cellsL (prC M)=prC M:=by
 unfold prC cellsL
 induction M with
 |nil=>rfl
 |cons m M ih=>rw[A0U,A2C,ih];rfl
theorem E2b{r:Ru}{X0:Hp}{a b eo po:Option Nat}{x:Cg}{E:List Ent}{V4:DV}{m7 m8:Int}{c:Nat}{ds:List DV}(h:GN (ouH (optH X0 po ⟨1,true,prC r.modes⟩) eo E (todoV po r.modes.length) V4 m7 m8) 2 a b x c)(he:EoN (optH X0 po ⟨1,true,prC r.modes⟩) eo c E.length)
  (hp:∀i,po=some i->9<=i) (hpn:po=none->r.modes=[]) (hv:V4.one=true) :
  ∃Y,GL (GM (ouH (optH X0 po ⟨1,true,prC r.modes⟩) eo E (todoV po r.modes.length) V4 m7 m8) 2 a b (mkQ r) x) ds Y ds/\Y 2=some ⟨0,true,[D0 r.decls,D8 r.modes,A8p x.1,strs x.2]⟩/\Y 8=some ⟨0,true,[.snil,.snil,C5c E,R9 (r.modes.map Md.prio),V4,I64 m7,I64 m8]⟩/\(∀B,X0 1=some B->Y 1=some B)/\∀j,c<=j->Y j=none:=by
 have o1:∀(o:Option Nat) (n:Nat),(todoV o n).one=true:=λo n=>z7
 obtain⟨G,hG⟩:∃G:Hp,G=GM (ouH (optH X0 po ⟨1,true,prC r.modes⟩) eo E (todoV po r.modes.length) V4 m7 m8) 2 a b (mkQ r) x:=⟨_,rfl⟩;rw[<- hG];have n8:∀(o:Option Nat),(∀i,o=some i->i≠2/\i<c/\ouH (optH X0 po ⟨1,true,prC r.modes⟩) eo E (todoV po r.modes.length) V4 m7 m8 i=none)->∀i,o=some i->¬ 8=i:=λo ho i hi e=>by have:=(ho i hi).2.2;rw[<- e,B5i]at this;cases this
 have g8:G 8=some (ouB eo E.length (todoV po r.modes.length) V4 m7 m8):=by rw[hG];exact V5 h B5i (by decide)
 have pe:∀i,po=some i->eo≠some i:=λi hi e=>by have:=(he.lt i e).2.2;subst hi;simp only[optH]at this;rw[A0]at this;cases this
 have ge:∀i,eo=some i->G i=some ⟨4,true,cellsL (E.map Ent.v)⟩:=λi hi=>by
  have:=he.lt i hi;rw[hG];refine V5 h ?_ (by omega);subst hi;exact C6e (by omega)
 have gp:∀i,po=some i->G i=some ⟨1,true,prC r.modes⟩:=λi hi=>by
  have:=hp i hi;rw[hG];refine V5 h ?_ (by omega);rw[X6 (by omega) (pe i hi)];subst hi;exact A0
 have ea:∀i,a=some i->eo≠some i/\po≠some i:=λi hi=>⟨(A0y (h.ha i hi).2.2).2.1,(A0y (h.ha i hi).2.2).2.2.1⟩;have eb:∀i,b=some i->eo≠some i/\po≠some i:=λi hi=>⟨(A0y (h.hb i hi).2.2).2.1,(A0y (h.hb i hi).2.2).2.2.1⟩;have g1:=A3r (H:=G) (k:=2) (o:=a) (n:=x.1.length) (u:=2) (u':=2) (pre:=[D0 r.decls,D8 r.modes]) (suf:=[todoV b x.2.length]) (xs:=x.1.map Ins.v) (ds:=ds)
  (by rw[hG];exact A0c h) (λi hi=>⟨by rw[hG];exact A5q h hi,(h.ha i hi).1⟩) (λe=>by rw[h.an e];rfl) (λd hd=>by simp at hd;rcases hd with rfl|rfl|rfl<;>(first|exact o1 _ _|rfl)) (by simp) (λy hy=>by obtain⟨z, -,rfl⟩:=A1D.1 hy;rfl)
 obtain⟨Y1,hY1⟩:∃Y:Hp,Y=(delO G a).upd 2 ⟨0,true,[D0 r.decls,D8 r.modes]++[.lst (x.1.map Ins.v)]++[todoV b x.2.length]⟩:=⟨_,rfl⟩;rw[<- hY1]at g1;have y1:∀j,j≠2->(∀i,a=some i->¬j=i)->Y1 j=G j:=λj h1 h2=>by rw[hY1,h_ne h1,A9 h2]
 have g2:=A3r (H:=Y1) (k:=2) (o:=b) (n:=x.2.length) (u:=1) (u':=1) (pre:=[D0 r.decls,D8 r.modes,A8p x.1]) (suf:=[]) (xs:=x.2.map DV.str) (ds:=ds)
  (by rw[hY1,A0];rfl) (λi hi=>⟨by rw[y1 i (h.hb i hi).1 (λj hj e=>h.ne j i hj hi e.symm),hG,A8j hi,A2p],(h.hb i hi).1⟩) (λe=>by rw[h.bn e];rfl) (λd hd=>by simp at hd;rcases hd with rfl|rfl|rfl<;>rfl) (by simp) (λy hy=>by obtain⟨z, -,rfl⟩:=A1D.1 hy;rfl)
 obtain⟨Y2,hY2⟩:∃Y:Hp,Y=(delO Y1 b).upd 2 ⟨0,true,[D0 r.decls,D8 r.modes,A8p x.1]++[.lst (x.2.map DV.str)]++[]⟩:=⟨_,rfl⟩;rw[<- hY2]at g2;have y2:∀j,j≠2->(∀i,a=some i->¬j=i)->(∀i,b=some i->¬j=i)->Y2 j=G j:=λj h1 h2 h3=>by rw[hY2,h_ne h1,A9 h3,y1 j h1 h2]
 have ye:∀i,eo=some i->Y2 i=some ⟨4,true,cellsL (E.map Ent.v)⟩:=λi hi=>by
  rw[y2 i (by have:=(he.lt i hi).1;omega) (λk hk e=>(ea k hk).1 (by rw[<- e];exact hi)) (λk hk e=>(eb k hk).1 (by rw[<- e];exact hi))];exact ge i hi
 have yp:∀i,po=some i->Y2 i=some ⟨1,true,prC r.modes⟩:=λi hi=>by
  rw[y2 i (by have:=hp i hi;omega) (λk hk e=>(ea k hk).2 (by rw[<- e];exact hi)) (λk hk e=>(eb k hk).2 (by rw[<- e];exact hi))];exact gp i hi
 have y8:Y2 8=some (ouB eo E.length (todoV po r.modes.length) V4 m7 m8):=by rw[y2 8 (by decide) (n8 a h.ha) (n8 b h.hb)];exact g8
 have g3:=A3r (H:=Y2) (k:=8) (o:=eo) (n:=E.length) (u:=4) (u':=4) (pre:=[.snil,.snil]) (suf:=[todoV po r.modes.length,V4,I64 m7,I64 m8]) (xs:=E.map Ent.v) (ds:=ds)
  (by rw[y8];rfl) (λi hi=>⟨ye i hi,by have:=(he.lt i hi).1;omega⟩) (λe=>by rw[A2K.1 (he.nil e)];rfl) (λd hd=>by simp at hd;rcases hd with rfl|rfl|rfl|rfl|rfl|rfl<;>(first|exact o1 _ _|assumption|rfl)) (by simp) (λy hy=>by obtain⟨z, -,rfl⟩:=A1D.1 hy;rfl)
 obtain⟨Y3,hY3⟩:∃Y:Hp,Y=(delO Y2 eo).upd 8 ⟨0,true,[.snil,.snil]++[.lst (E.map Ent.v)]++[todoV po r.modes.length,V4,I64 m7,I64 m8]⟩:=⟨_,rfl⟩;rw[<- hY3]at g3;have y3:∀j,j≠8->(∀i,eo=some i->¬j=i)->Y3 j=Y2 j:=λj h1 h2=>by rw[hY3,h_ne h1,A9 h2]
 have g4:=A3r (H:=Y3) (k:=8) (o:=po) (n:=r.modes.length) (u:=1) (u':=1) (pre:=[.snil,.snil,C5c E]) (suf:=[V4,I64 m7,I64 m8]) (xs:=prC r.modes) (ds:=ds)
  (by rw[hY3,A0];rfl) (λi hi=>⟨by rw[y3 i (by have:=hp i hi;omega) (λk hk e=>pe i hi (by rw[e];exact hk)),yp i hi,C6d],by have:=hp i hi;omega⟩) (λe=>by rw[hpn e];rfl) (λd hd=>by simp at hd;rcases hd with rfl|rfl|rfl|rfl|rfl|rfl<;>(first|exact o1 _ _|assumption|rfl)) (C3r _) (λy hy=>by unfold prC at hy;obtain⟨z, -,rfl⟩:=A1D.1 hy;rfl)
 have lo:∀(o:Option Nat),(∀i,o=some i->9<=i)->∀j,j<9->∀i,o=some i->¬j=i:=λo ho j hj i hi e=>by have:=ho i hi;omega
 refine⟨_,((g1.trans g2).trans g3).trans g4,?_,?_,λB hB=>?_,λj hj=>?_⟩
 ·rw[h_ne (by decide),A9 (lo po hp 2 (by decide)),y3 2 (by decide) (lo eo (λi hi=>(he.lt i hi).1) 2 (by decide)),hY2,A0];rfl
 ·rw[A0];simp[prC,R9,Function.comp_def]
 ·have h1:ouH (optH X0 po ⟨1,true,prC r.modes⟩) eo E (todoV po r.modes.length) V4 m7 m8 1=some B:=by
   rw[X6 (by decide) (λe=>by have:=(he.lt _ e).1;omega),A8 (lo po hp 1 (by decide))];exact hB
  have a1:∀i,a=some i->¬ 1=i:=λi hi e=>by have:=(h.ha i hi).2.2;rw[<- e,h1]at this;cases this
  have b1:∀i,b=some i->¬ 1=i:=λi hi e=>by have:=(h.hb i hi).2.2;rw[<- e,h1]at this;cases this
  rw[h_ne (by decide),A9 (lo po hp 1 (by decide)),y3 1 (by decide) (lo eo (λi hi=>(he.lt i hi).1) 1 (by decide)),y2 1 (by decide) a1 b1,hG];exact V5 h h1 (by decide)
 ·have h1:=h.tc;have h9:8<c:=A1S λhc=>by have:=h.fr 8 hc;rw[B5i]at this;cases this
  have h2:G j=none:=by rw[hG];exact A8i h hj
  rw[hnO];refine A4l ?_;rw[hY3,hnO];refine A4l ?_;rw[hY2,hnO];refine A4l ?_;rw[hY1,hnO];exact A4l h2
theorem c_RCompile(r:Ru)(hB:r.sz<4000000):PC Tryz.prog 17 [r.v] (A6s (B2z r)):=by
 refine PC.ofT A2 rfl (A0C rfl) (by simp[Ru.v,DV.nlL,DV.nl,K4,K3]) (A9y _) ?_;have hck:=c_CheckR r hB;unfold B5z at hck;obtain⟨R,hR⟩:∃R,R=B2z r:=⟨_,rfl⟩;rw[<- hR];unfold B2z at hR;cases hv:M8 r with
 |false =>
  rw[hv]at hck hR;rw[if_neg A3J]at hck hR;subst hR;obtain⟨D,M⟩:=r;dsimp only[Ru.v]at hck ⊢;refine wA9 hck ?_;rw[C9 (v:=.tup [.agg cd0,I64 0,I64 1]) rfl];exact W6
 |true =>
  rw[hv]at hck hR;rw[if_pos rfl]at hck hR;cases he:A4t r with
  |some q =>
   obtain⟨p,c⟩:=q;rw[he]at hck hR;have hck:PC Tryz.prog 33 [r.v] (.tup [I64 p,I64 c]):=hck;dsimp only at hR;have hnz:(c != 0)=true:=by
    have h:NzE (A4t r):=zak
    simpa using h _ _ he
   subst hR;obtain⟨D,M⟩:=r;dsimp only[Ru.v]at hck ⊢;refine wBc hck hnz ?_;rw[C9 (v:=.tup [.agg cd0,I64 p,I64 c]) rfl];exact W6
  |none =>
   rw[he]at hck hR;dsimp only at hR;have hC:ChkR r:=⟨hv,he⟩;have hlen:=hC.lens;have hnil:nmR r []=0:=by show(K0 r []).2=0;rw[hC.nil]
   have hck:PC Tryz.prog 33 [r.v] (.tup [I64 0,I64 0]):=hck;have h7:=c_CountR r 7 hB;have h8:=c_CountR r 8 hB;unfold cnV at h7 h8;rw[if_pos hv]at h7 h8;have e7:(cnR r 7:Int)=(cnD r.decls 7:Int):=by unfold cnR;rw[if_neg (by decide)]
   have e8:(cnR r 8:Int)=(cnD r.decls 8:Int):=by unfold cnR;rw[if_neg (by decide)]
   rw[e7]at h7;rw[e8]at h8;have hcm:cmC r=⟨(cgP (nmR r) (G5 (nmR r) 0 r.modes)).1,(cgP (nmR r) (G5 (nmR r) 0 r.modes)).2,enP (nmR r) (G5 (nmR r) 0 r.modes),r.modes.map Md.prio,(r.decls.filter λd=>d.kind=6).map Dc.value,(cnD r.decls 7:Int),(cnD r.decls 8:Int)⟩:=rfl;rw[hcm]at hR;have hsum:r.sz=(r.decls.map Dc.sz).sum+(r.modes.map Md.sz).sum:=rfl;have hG:=λ(c:Nat) (X0:Hp) (V4:DV) (m7 m8:Int) (Q:Exit->Go.Sym.St->Prop) (hv4:V4.one=true)=>c_rcG r hB hv c X0 V4 m7 m8 Q (by omega)
    (λmd hm=>by
     have h1:=hC.mode md hm;unfold V0 at h1;simp only[A0F,A0Q]at h1;omega) hv4
    (λmd hm h hh=>by
     have q:=hC.hd md hm h hh;exact⟨q.tr.1,q.nn⟩)
    (λmd hm h hh y hy=>by
     have q:=hC.hd md hm h hh;have hb:=q.bl;unfold Q4 at hb;simp only[A0F]at hb;have hsz:Pb.St.szs h.body<=4000000:=by
      have h1:=C8n hm;have h2:=C8o hh;have h3:h.sz=1+h.name.length+Pb.St.szs h.body:=rfl;omega
     exact c_body34 r hB hv hnil _ h.body 1 hb.2 (A1M _) (by omega) y hy)
   generalize (cnD r.decls 7:Int)=m7 at *;generalize (cnD r.decls 8:Int)=m8 at *;clear hcm hv hsum hlen hnil hC he e7 e8;have hx:r.v=.agg [D0 r.decls,D8 r.modes]:=rfl;rw[hx]at hck h7 h8 ⊢;(repeat'((with_reducible first|apply wr|refine cpc hck ?_|refine cpc h7 ?_|refine cpc h8 ?_|refine B0 ?_ ?_|apply wb2<;>(intro hb;try simp only[hb]))<;>try simp only[go_sem,seval]));obtain⟨X1,hX⟩:∃X:Hp,X=(((nil.upd 0 ⟨0,true,[D0 r.decls,D8 r.modes]⟩).upd 1 ⟨0,true,[.snil,.snil,.snil,.snil,.snil,I64 0,I64 0]⟩).upd 2 ⟨0,true,[D0 r.decls,D8 r.modes,.snil,.snil]⟩):=⟨_,rfl⟩;rw[<- hX];have x0:X1 0=some ⟨0,true,[D0 r.decls,D8 r.modes]⟩:=by rw[hX];rfl
   have xf:∀j,3<=j->X1 j=none:=λj hj=>by rw[hX,hnO,hnO,hnO];rfl
   have hdl:r.decls.length<=4000000:=by have:=B0g r;omega
   refine B6 (λq:Nat × Option Nat=>[(1,.ptr 0 0),(2,.ptr 1 0),(7,.ptr 2 0),(8,.ptr 8 0),(9,I64 q.1)])
    (λq=>vaH X1 q.2 (vaL (r.decls.take q.1)) m7 m8)
    (λq cc=>10<=cc/\q.1<=r.decls.length/\(∀i,q.2=some i->9<=i/\i<cc)/\(q.2=none->vaL (r.decls.take q.1)=[])) (λq=>r.decls.length-q.1) (0,none)
    (by simp[B5,tm,Tm.upd]) (λj B hj=>by
     by_cases e:j=8
     ·subst e;rw[A0];rw[vaH,A0]at hj;exact hj
     ·rw[h_ne e,h_ne e];rw[vaH,h_ne e]at hj;exact hj) ⟨A0D _,A0N _,λi h=>(by cases h),λ_=>rfl⟩ ?_
   rintro⟨i,vo⟩ cc ⟨hc,hi,hvo,hvn⟩;replace hi:i<=r.decls.length:=hi;replace hvo:∀i,vo=some i->9<=i/\i<cc:=hvo;replace hvn:vo=none->vaL (r.decls.take i)=[]:=hvn;dsimp only at hc ⊢;have hv0:vaH X1 vo (vaL (r.decls.take i)) m7 m8 0=some ⟨0,true,[D0 r.decls,D8 r.modes]⟩:=by
    rw[vaH,h_ne (by decide),A8 (λj hj e=>by have:=hvo j hj;omega)];exact x0
   by_cases hlt:i<r.decls.length
   rotate_left
   ·have hd:=dfz hlt;obtain rfl:i=r.decls.length:=by omega
    rw[A1K]at hvn hv0 ⊢;(repeat'((with_reducible first|refine J8 (p:=IW _ _ (pz Tryz.prog 17 (.o (.o (.i (.o (.o .h)))))) _ _) ?_|refine wr ?_|refine B0 ?_ ?_|apply wb2<;>(intro hb;try simp only[hb]))<;>try simp only[go_sem,seval,hd,hv0,A0I]));obtain⟨V,hV⟩:∃V,V=vaL r.decls:=⟨_,rfl⟩;have hR':(r.decls.filter λd=>d.kind=6).map Dc.value=V:=hV.symm;rw[hR']at hR;rw[<- hV]at hvn hv0 ⊢;unfold B3a;have g1:=A3r (H:=vaH X1 vo V m7 m8) (k:=8) (o:=vo) (n:=V.length) (u:=1) (u':=1) (pre:=[.snil,.snil,.snil,.snil]) (suf:=[I64 m7,I64 m8]) (xs:=V.map λz=>I64 z) (ds:=[.ptr 0 0,.ptr 1 0,.ptr 2 0,.ptr 8 0])
     A0 (λi hi=>⟨by have:=hvo i hi;rw[vaH,hnO];subst hi;rw[A5m];exact A0,by have:=hvo i hi;omega⟩) (λe=>by rw[hvn e];rfl) (λd hd=>by simp at hd;rcases hd with rfl|rfl|rfl<;>rfl) (by simp) (λy hy=>by obtain⟨z, -,rfl⟩:=A1D.1 hy;rfl)
    obtain⟨X0,hX0⟩:∃X:Hp,X=((nil.upd 0 ⟨0,true,[D0 r.decls,D8 r.modes]⟩).upd 1 ⟨0,true,cd0⟩):=⟨_,rfl⟩;have g2:∀ds,GL ((delO (vaH X1 vo V m7 m8) vo).upd 8 ⟨0,true,[.snil,.snil,.snil,.snil]++[.lst (V.map λz=>I64 z)]++[I64 m7,I64 m8]⟩) ds (GM (ouH X0 none [] .snil (R9 V) m7 m8) 2 none none (mkQ r) ([],[])) ds:=λds=>GL.less' (λj B hj=>by
     have hj:(ouH X0 none [] .snil (R9 V) m7 m8).upd 2 ⟨0,true,[D0 r.decls,D8 r.modes,.snil,.snil]⟩ j=some B:=hj;by_cases e8:j=8
     ·subst e8;rw[h_ne (by decide),B5i]at hj;rw[A0, <- hj];rfl
     rw[h_ne e8];by_cases e2:j=2
     ·subst e2;rw[A0]at hj;rw[A9 (λk hk e=>by have:=hvo k hk;omega),vaH,h_ne (by decide),A8 (λk hk e=>by have:=hvo k hk;omega),hX,A0];exact hj
     rw[h_ne e2,X6 e8 (λe=>by cases e)]at hj;have hj2:j<2:=A1S λh=>by rw[hX0,hnO,hnO]at hj;cases hj
     rw[A9 (λk hk e=>by have:=hvo k hk;omega),vaH,h_ne e8,A8 (λk hk e=>by have:=hvo k hk;omega),hX,h_ne e2, <- hX0];exact hj)
    refine IW.keep [1,2,7,8] [.ptr 0 0,.ptr 1 0,.ptr 2 0,.ptr 8 0] (g1.trans (g2 _)) ?_;show IW Tryz.prog _ _ ⟨tm [(1,.ptr 0 0),(2,.ptr 1 0),(7,.ptr 2 0),(8,.ptr 8 0)],_,_⟩ _;refine hG _ X0 (R9 V) m7 m8 _ rfl (by rw[hX0];rfl) (λj hj=>by rw[hX0,hnO,hnO];rfl) (by omega) ?_;intro a b eo po c' hN heo hpo hpn;have x1:X0 1=some ⟨0,true,cd0⟩:=by rw[hX0];rfl
    clear hX0 g1 g2 hG;generalize cgP (nmR r) (G5 (nmR r) 0 r.modes)=x at *;generalize enP (nmR r) (G5 (nmR r) 0 r.modes)=E at *;have hR:R=if 4000<x.1.length\/200<x.2.length then(A8g,(0:Int),(9:Int)) else((⟨x.1,x.2,E,r.modes.map Md.prio,V,m7,m8⟩:Prg),(0:Int),(0:Int)):=hR
    obtain⟨Y,gY,y2,y8,y1,yf⟩:=E2b (ds:=[.ptr 1 0,.ptr 2 0,.ptr 8 0]) hN heo hpo hpn rfl;have y1:=y1 _ x1;refine IW.keep [2,7,8] [.ptr 1 0,.ptr 2 0,.ptr 8 0] gY ?_;show IW Tryz.prog _ _ ⟨tm [(2,.ptr 1 0),(7,.ptr 2 0),(8,.ptr 8 0)],_,_⟩ _;by_cases d1:4000<x.1.length
    ·have d1':decide ((x.1.length:Int)>4000)=true:=by simp;omega
     refine wAr (wJ y2 (wJ y8 (wJ y1 d1'))) ?_;rw[hR,iP,C9 (v:=.tup [.agg cd0,I64 0,I64 9]) rfl];exact W6
    have d1':decide ((x.1.length:Int)>4000)=false:=a8
    by_cases d2:200<x.2.length
    ·have d2':decide ((x.2.length:Int)>200)=true:=by simp;omega
     refine wA1 y2 y8 y1 d1' d2' ?_;rw[hR,iP,C9 (v:=.tup [.agg cd0,I64 0,I64 9]) rfl];exact W6
    have d2':decide ((x.2.length:Int)>200)=false:=a8
    have hc8:8<c':=A1S λhc=>by have:=yf 8 hc;rw[y8]at this;cases this
    have n82:¬(8:Nat)=2:=r9
    refine wAr (wJ y2 (wJ y8 (wJ y1 (wJ d1' (wJ d2' (wJ @A0 (wJ @A1 n82))))))) ?_;refine⟨by and_intros<;>(rw[hnO];exact yf _ (by omega)),?_⟩;refine wAx y1 @A0 @A1 ?_;rw[C9 (v:=A6s (⟨x.1,x.2,E,r.modes.map Md.prio,V,m7,m8⟩,0,0)) rfl,hR,iN];exact⟨_,GL.refl _ _⟩
   have hd:=dtz hlt;have hg:=A0B hlt;have hw:=w64 (n:=(i:Int)+1);have hgm:(r.decls.map Dc.v)[i]? = some r.decls[i].v:=v8
   have hsn:=C7z hg;have hvl:(vaL (r.decls.take i)).length<=4000000:=by
    have:=D8p (r.decls.take i);rw[A0W]at this;omega
   generalize r.decls[i]=d at hg hgm hsn;by_cases hk:d.kind=6
   rotate_left
   ·have hk':(d.kind==6)=false:=by simpa using hk
    rw[if_neg hk,A0Y]at hsn;refine wA1 hd hv0 hgm hk' hw ?_;exact⟨(i+1,vo),b9,by simp only[hsn];exact Sub.refl _,inv ⟨hc,hlt,hvo,by simp only[hsn];exact hvn⟩,by simp only;omega⟩
   rw[if_pos hk]at hsn;have hv8:vaH X1 vo (vaL (r.decls.take i)) m7 m8 8=some ⟨0,true,[.snil,.snil,.snil,.snil,todoV vo (vaL (r.decls.take i)).length,I64 m7,I64 m8]⟩:=A0;have hvb:∀j,vo=some j->vaH X1 vo (vaL (r.decls.take i)) m7 m8 j=some ⟨1,true,(vaL (r.decls.take i)).map λz=>I64 z⟩:=λj hj=>by
    have:=hvo j hj;rw[vaH,hnO];subst hj;exact A0
   have hvf:∀j,cc<=j->vaH X1 vo (vaL (r.decls.take i)) m7 m8 j=none:=λj hj=>by
    rw[vaH,hnO,A8 (λk hk e=>by have:=hvo k hk;omega)];exact xf j (by omega)
   obtain⟨V,hV⟩:∃V,V=vaL (r.decls.take i):=⟨_,rfl⟩;rw[<- hV]at hsn hvl hvn hv0 hv8 hvb hvf ⊢;obtain⟨HH,hHH⟩:∃HH,HH=vaH X1 vo V m7 m8:=⟨_,rfl⟩;rw[<- hHH]at hv0 hv8 hvb hvf ⊢;have ne0:=M7 8 0 cc (by omega);(repeat'((with_reducible first|apply wr|refine B0 ?_ ?_|apply wb2<;>(intro hb;try simp only[hb]))<;>try simp only[go_sem,seval,hd,hv0,hv8,hgm,hk,ne0,A0I]));refine S8 (D4 (cs:=V.map λz=>I64 z) (λe=>by rw[hvn e];exact⟨rfl,rfl⟩) (λi hi=>by rw[h_ne (by have:=hvo i hi;omega)];exact hvb i hi) (by rw[A0I,A4F]) (by omega) (by omega) (by omega)) ?_;have dm8:∀X:Hp,delO X vo 8=X 8:=λX=>A9 (λi hi e=>by have:=hvo i hi;omega);have ne8:¬ 8=cc+8:=b8
   have ne12:¬ 8=cc+12:=b8
   simp only[go_sem,seval,dm8,hv8,ne8,ne12,A0];refine wAs hw ?_;refine⟨(i+1,some (cc+12)),b9,?_,inv ⟨b8,hlt,λi hi=>by cases hi;exact⟨b8,by omega⟩,λe=>by cases e⟩,by simp only;omega⟩;dsimp only;intro j B hj;rw[hsn,vaH,A0A,A0P]at hj;by_cases e8:j=8
   ·subst e8;rw[A0]at hj ⊢;exact hj
   rw[h_ne e8]at hj ⊢;simp only[optH]at hj;by_cases e12:j=cc+12
   ·subst e12;rw[A0]at hj ⊢;exact hj
   rw[h_ne e12]at hj ⊢;have hj3:j<3:=A1S λh=>by rw[xf j h]at hj;cases hj
   rw[A9 (λk hk e=>by have:=hvo k hk;omega),hnO,hHH,vaH,h_ne e8,A8 (λk hk e=>by have:=hvo k hk;omega)];exact hj
end Go.Proofs.YtdclpmddofggcaaGreatDoor
set_option maxHeartbeats 4000000
namespace Go.Proofs.YtdclpmddofggcaaGreatDoor
open Go.Eng (IC IOper DReg IFn L4)
open Go.Sym Go.Pb
theorem D5e:∀l:List Int,DV.nlL (l.map λk=>I64 k)=true:=λl=>L5 (λ_=>rfl) l
abbrev D4d(ks:List (List UInt8))(vs:List Int):DV:=.mp .s (ks.map DV.str) (vs.map λk=>I64 k)
theorem C0e(ks:List (List UInt8))(vs:List Int):(D4d ks vs).nl=true:=by simp only[DV.nl,M4,D5e,A2U]
theorem B3t(x:List UInt8):∀(l:List (List UInt8)) (k:Nat),(L7 x k l = -1/\F8 (.str x) (l.map DV.str) k=none)\/∃j:Nat,L7 x k l=j/\F8 (.str x) (l.map DV.str) k=some j/\j<k+l.length
 |[],k=>.inl ⟨rfl,rfl⟩
 |w::l,k=>by
  simp only[A0U,F8,W1,L7];cases h:(x==w) with
  |true=>exact .inr ⟨k,by simp,by simp,by simp⟩
  |false =>
   simp only[A1R,if_false];rcases B3t x l (k+1) with h|⟨j,h1,h2,h3⟩
   ·exact .inl h
   ·exact .inr ⟨j,h1,h2,by simp only[A0G];omega⟩
theorem B5q(ks:List (List UInt8))(vs:List Int)(hl:ks.length=vs.length)(x:List UInt8):lkV (I64 0) false (vs.map λk=>I64 k) (F8 (.str x) (ks.map DV.str) 0)=some (I64 (lkI ks vs x)):=by
 unfold lkI;rcases B3t x ks 0 with ⟨h1,h2⟩|⟨j,h1,h2,h3⟩
 ·rw[h1,h2,if_pos rfl];rfl
 ·have hj:j<vs.length:=by omega
  rw[h1,h2,if_neg (by omega),C1o,A1G,A0B hj,A3D,A1E,A0B hj];rfl
theorem c_ops:PC Tryz.prog 235 [] (D4d D2 B7t):=by
 refine PC.ofT A2 rfl (A0C rfl) rfl (C0e _ _) ?_;(repeat'((with_reducible first|apply wr|refine B0 ?_ ?_|apply wb2<;>(intro hb;try simp only[hb]))<;>try simp only[go_sem,seval,F8,W1,A3X,List.nil_beq_eq,List.beq_nil_eq,List.isEmpty_cons,List.isEmpty_nil,A3H,A2A,A2U,A2Y,A1]));exact B0u A0
theorem c_stms:PC Tryz.prog 207 [] (D4d C5 C0g):=by
 refine PC.ofT A2 rfl (A0C rfl) rfl (C0e _ _) ?_;(repeat'((with_reducible first|apply wr|refine B0 ?_ ?_|apply wb2<;>(intro hb;try simp only[hb]))<;>try simp only[go_sem,seval,F8,W1,A3X,List.nil_beq_eq,List.beq_nil_eq,List.isEmpty_cons,List.isEmpty_nil,A3H,A2A,A2U,A2Y,A1]));exact B0u A0
theorem c_lvs:PC Tryz.prog 248 [] (D4d K7 V9):=by
 refine PC.ofT A2 rfl (A0C rfl) rfl (C0e _ _) ?_;(repeat'((with_reducible first|apply wr|refine B0 ?_ ?_|apply wb2<;>(intro hb;try simp only[hb]))<;>try simp only[go_sem,seval,F8,W1,A3X,List.nil_beq_eq,List.beq_nil_eq,List.isEmpty_cons,List.isEmpty_nil,A3H,A2A,A2U,A2Y,A1]));exact B0u A0
theorem c_pdecls:PC Tryz.prog 43 [] (Z2 D7):=by
 refine PC.ofT A2 rfl (A0C rfl) rfl (M4 _) ?_;refine wAp ?_;exact O6 (xs:=D7.map DV.str) (u:=1) A0 rfl rfl (N4 _) ⟨[],rfl⟩
theorem c_ptrigs:PC Tryz.prog 145 [] (Z2 F1):=by
 refine PC.ofT A2 rfl (A0C rfl) rfl (M4 _) ?_;refine wAp ?_;exact O6 (xs:=F1.map DV.str) (u:=1) A0 rfl rfl (N4 _) ⟨[],rfl⟩
theorem c_levP(k:Int):PC Tryz.prog 236 [I64 k] (I64 (B9 k)):=by
 refine PC.go A2 ?_;repeat'((with_reducible first|apply wr|refine B0 ?_ ?_|apply wb2<;>(intro hb;try simp only[hb]))<;>try simp only[go_sem,seval])
 all_goals
  refine A3 (congrArg I64 ?_);simp only[A1T,beq_eq_false_iff_ne,A0Q,A1O,A0F,A1J,Bool.and_eq_false_iff,A4G]at *;unfold B9;repeat' split
  all_goals omega
theorem c_nmdP(k:Int):PC Tryz.prog 237 [I64 k] (.bool (C6l k)):=by
 refine PC.go A2 ?_;repeat'((with_reducible first|apply wr|refine B0 ?_ ?_|apply wb2<;>(intro hb;try simp only[hb]))<;>try simp only[go_sem,seval])
 all_goals exact A3 (by simp_all[C6l])
theorem c_deeper(L:List Tok)(E:Int)(s:Rd)(H:Hp)(cc t:Nat)(ht:H t=some (paB L E s))(htc:t<cc)(hi:s.i<=10000000000)(h0:0<=s.par)(h1:s.par<=16):AC Tryz.prog 243 [.ptr t 0] H cc (λv H' c'=>v=.bool (!(s.par==16))/\H'=H.upd t (paB L E (if s.par=16 then pfl L E s 50 else { s with i:=s.i+1,par:=s.par+1 }))):=by
 refine AC.bodyT A2 rfl (A0C rfl) λhfr=>?_;by_cases h:s.par=16
 ·have hd:(s.par==16)=true:=by simpa using h
  rw[if_pos h,hd];refine wAs (wJ ht hd) ?_;refine AC.call (c_pfail L E s _ _ t ht (by omega) 50) ?_;rintro v H' c1 ⟨rfl,rfl⟩ hc;refine wAq ?_;exact⟨_,_,GL.refl _ _,rfl,rfl⟩
 ·have hd:(s.par==16)=false:=by simpa using h
  have hw:IntKind.i64.wrap ((s.i:Int)+1)=((s.i+1:Nat):Int):=i7
  have hw2:IntKind.i64.wrap (s.par+1)=s.par+1:=w6z;rw[if_neg h,hd];refine wA5 ht hd hw hw2 @A0 @A1 ?_;exact⟨_,_,GL.refl _ _,rfl,rfl⟩
structure PaE (L:List Tok) (s:Rd) (q:Ex × Rd) (x:Ex) (s':Rd):Prop where
 eq:Eqv s' q.2
 vl:okR q.2=true->x=q.1
 bd:PI L s'
 pr:s'.par=s.par
abbrev PeC(L:List Tok)(E:Int)(f:Nat)(vs:List DV)(s:Rd)(q:Ex × Rd):Prop :=
 ∀(H:Hp) (cc t:Nat),H t=some (paB L E s)->t<cc->AC Tryz.prog f (.ptr t 0::vs) H cc (λv H' c' => ∃x s',v=x.v/\H'=H.upd t (paB L E s')/\PaE L s q x s')
abbrev E2i(k v:Int)(n:List UInt8)(p:Int):Blk:=⟨0,true,[I64 k,I64 v,.str n,.snil,I64 p]⟩
theorem c_pleaf(L:List Tok)(E:Int)(hL:L.length<=1000000000)(hK:∀t∈L,K8 t)(s m:Rd)(hq:Eqv s m)(hP:PI L s)(hp:isP L E s 5 [[40]]=false):PeC L E 242 [] s (I7 L E m):=by
 intro H cc t ht htc;have hri:=hP.i;have hro:=hP.o0;have hro1:=hP.o1;refine AC.bodyT A2 rfl (A0C rfl) λhfr=>?_;have hio:=c_pisO L E s (H.upd cc A5k) (cc+2) t (cc+1) (by rw[hnO];exact hfr _ (by omega)) (by rw[hnO];exact ht) (by omega) 5 [[40]] (by simp);refine wAp ?_;refine AC.call hio ?_;rintro v H' c1 ⟨rfl,rfl⟩ hc1;refine wAu hp ?_;refine AC.call (c_here L E s _ _ t (by rw[hnO];exact ht) (by omega)) ?_;rintro v H' c2 ⟨rfl,rfl⟩ hc2;have ne0:=V3 t cc c2 (c2+1) (by omega);have tail:∀(kd vl:Int) (nm:List UInt8) (c3:Nat),c2+2<=c3->(kd,vl,nm)=lfK (A4 L E s)->IW Tryz.prog 96 (pz Tryz.prog 242 (.o (.o (.i (.i (.o .h)))))) ⟨tm [(0,.ptr t 0),(2,.ptr cc 0),(5,.ptr (c2+1) 0)],((H.upd cc A5k).upd c2 (tkB (A4 L E s))).upd (c2+1) (E2i kd vl nm (A4 L E s).pos),c3⟩ (rt [.cell 2 5 true] λv H' c' => ∃v2 H2,GL H' [v] H2 [v2]/\∃x s',v2=x.v/\H2=H.upd t (paB L E s')/\PaE L s (I7 L E m) x s'):=by
  intro kd vl nm c3 hc3 hlf;have hGt:(((H.upd cc A5k).upd c2 (tkB (A4 L E s))).upd (c2+1) (E2i kd vl nm (A4 L E s).pos)) t=some (paB L E s):=by rw[hnO,hnO,hnO];exact ht
  have hbad:∀(e:Int) (c4:Nat),PaE L s (I7 L E m) Ex0 (pfl L E s e)->GL (((((H.upd cc A5k).upd c2 (tkB (A4 L E s))).upd (c2+1) (E2i kd vl nm (A4 L E s).pos)).upd t (paB L E (pfl L E s e))).upd cc A5k) [.agg [I64 0,I64 0,.str [],.snil,I64 0]] (H.upd t (paB L E (pfl L E s e))) [.agg [I64 0,I64 0,.str [],.lst [],I64 0]]:=λe c4 _ =>
   A2u (cc:=cc) (B7 hfr htc) (λj hj=>by simp[Hp.upd,show ¬j=cc by omega,show ¬j=c2 by omega,show ¬j=c2+1 by omega])
  by_cases hk0:kd=0
  ·have hd:(kd==0)=true:=by simpa using hk0
   have hr:PaE L s (I7 L E m) Ex0 (pfl L E s 4):=by
    rcases hq.cas with ⟨rfl,ho⟩|⟨h1,h2⟩
    ·rw[B3k hK ho];unfold B8g;dsimp only;rw[<- hlf,if_pos hk0];exact⟨.refl _,λ_=>rfl,hP.fl,B0t.2.2⟩
    ·rw[B0q h2,A0z h1];exact⟨hq,λh=>(by simp[h2]at h),hP,rfl⟩
   refine wAz hd ne0 @A0 @A1 ?_;refine AC.call (c_pfail L E s _ _ t hGt (by omega) 4) ?_;rintro v H' c4 ⟨rfl,rfl⟩ hc4;refine wAy ne0 @A0 @A1 ?_;rw[C9 (rv5 rfl A0)];exact⟨_,_,hbad 4 c4 hr,Ex0,_,rfl,rfl,hr⟩
  have hd:(kd==0)=false:=by simpa using hk0
  refine wAz hd ne0 @A0 @A1 ?_;refine AC.call (c_pok L E s _ _ t hGt (by omega)) ?_;rintro v H' c4 ⟨rfl,rfl⟩ hc4;cases ho:okR s with
  |false =>
   have hm:okR m=false:=by rw[<- hq.ok,ho]
   have hr:PaE L s (I7 L E m) Ex0 (pfl L E s 4):=by
    rw[B0q hm,A0z ho];exact⟨hq,λh=>(by simp[hm]at h),hP,rfl⟩
   refine wA0 ho ne0 @A0 @A1 ?_;refine AC.call (c_pfail L E s _ _ t hGt (by omega) 4) ?_;rintro v H' c5 ⟨rfl,rfl⟩ hc5;refine wAy ne0 @A0 @A1 ?_;rw[C9 (rv5 rfl A0)];exact⟨_,_,hbad 4 c4 hr,Ex0,_,rfl,rfl,hr⟩
  |true =>
   obtain rfl:s=m:=hq.s (by rw[<- hq.ok,ho]);have hpr:I7 L E s=B8g L E s:=B3k hK ho;unfold B8g at hpr;dsimp only at hpr;rw[<- hlf]at hpr;dsimp only at hpr;rw[if_neg hk0]at hpr;by_cases h32:s.ops=32
   ·have hd2:(s.ops==32)=true:=by simpa using h32
    rw[if_pos (by omega)]at hpr;have hr:PaE L s (I7 L E s) Ex0 (pfl L E s 9):=by
     rw[hpr];refine⟨.bad ?_ ?_ (A9r (by omega) (by decide)),λ_=>rfl,hP.fl,B0t.2.2⟩
     ·dsimp only;rw[D1a (by omega) ho,C9z ho]
     ·dsimp only;rw[D1a (by omega) ho,C9z ho]
    refine wA6 ho hd2 hGt ne0 @A0 @A1 ?_;refine AC.call (c_pfail L E s _ _ t hGt (by omega) 9) ?_;rintro v H' c5 ⟨rfl,rfl⟩ hc5;refine wAy ne0 @A0 @A1 ?_;rw[C9 (rv5 rfl A0)];exact⟨_,_,hbad 9 c4 hr,Ex0,_,rfl,rfl,hr⟩
   ·have hd2:(s.ops==32)=false:=by simpa using h32
    have hlt:s.i<L.length:=by
     have hk:(A4 L E s).kind≠0:=λh=>by
      rw[lfK,if_neg (by omega),if_neg (by omega),if_neg (by omega)]at hlf;exact hk0 (congrArg (·.1) hlf)
     exact(J1 hk rfl).2
    have hw1:IntKind.i64.wrap (s.ops+1)=s.ops+1:=w6z;have hw2:IntKind.i64.wrap ((s.i:Int)+1)=((s.i+1:Nat):Int):=i7
    rw[if_neg (by omega)]at hpr;have hP3:PI L ({ s with i:=s.i+1,ops:=s.ops+1 }:Rd):=⟨hlt,by show 0<=s.ops+1;omega,by show s.ops+1<=32;omega,hP.p0,hP.p1⟩;have hcn:=c_nmdP kd;cases hn:C6l kd with
    |true =>
     rw[hn]at hcn;refine wBd hcn (wJ ho (wJ hd2 (wJ hGt (wJ hw1 (wJ hw2 (wJ ne0 (wJ @A0 @A1))))))) ?_;rw[if_pos hn]at hpr;obtain⟨g1,g2⟩:=hP3.take (E:=E) (x:=1) (by decide);have hnm:vl=0/\nm=[]:=by
      unfold lfK at hlf;split at hlf
      ·cases hlf;cases hn
      ·split at hlf
       ·cases hlf;cases hn
       ·split at hlf<;>cases hlf<;>exact⟨rfl,rfl⟩
     obtain⟨rfl,rfl⟩:=hnm;refine AC.call (c_ptake L E { s with i:=s.i+1,ops:=s.ops+1 } _ _ t A0 (by omega) (by show s.i+1<=10000000000;omega) 1) ?_;rintro v H' c5 ⟨rfl,rfl⟩ hc5;refine wAy ne0 @A0 @A1 ?_;rw[C9 (rv5 rfl A0)];refine⟨_,_,A2u (cc:=cc) (K:=H.upd t (paB L E (A7 L E ({ s with i:=s.i+1,ops:=s.ops+1 }:Rd) 1).2)) (B7 hfr htc) (λj hj=>?_),.mk kd 0 (A7 L E ({ s with i:=s.i+1,ops:=s.ops+1 }:Rd) 1).1.text [] (A4 L E s).pos,_,rfl,rfl,?_⟩
     ·simp[Hp.upd,show ¬j=cc by omega,show ¬j=c2 by omega,show ¬j=c2+1 by omega];try(split<;>rfl)
     ·rw[hpr];exact⟨.refl _,λ_=>rfl,g1,g2⟩
    |false =>
     rw[if_neg (by simp[hn])]at hpr;rw[hn]at hcn;refine wBd hcn (wJ ho (wJ hd2 (wJ hGt (wJ hw1 (wJ hw2 (wJ ne0 (wJ @A0 @A1))))))) ?_;rw[C9 (rv5 rfl A0)];refine⟨_,_,A2u (cc:=cc) (K:=H.upd t (paB L E ({ s with i:=s.i+1,ops:=s.ops+1 }:Rd))) (B7 hfr htc) (λj hj=>?_),.mk kd vl nm [] (A4 L E s).pos,_,rfl,rfl,?_⟩
     ·simp[Hp.upd,show ¬j=cc by omega,show ¬j=c2 by omega,show ¬j=c2+1 by omega];try(split<;>rfl)
     ·rw[hpr];exact⟨.refl _,λ_=>rfl,hP3,rfl⟩
 have hlk:=B5q K7 V9 rfl (A4 L E s).text;by_cases h3:(A4 L E s).kind=3
 ·have e3:((A4 L E s).kind==3)=true:=by simpa using h3
  refine wAm (wJ e3 (wJ ne0 (wJ @A0 @A1))) ?_
  and_intros
  all_goals try((repeat rw[hnO]);exact hfr _ (by omega))
  refine wAl (wJ e3 (wJ ne0 (wJ @A0 @A1))) ?_;exact IW.stage (by simp[B5,tm,Tm.upd]) (tail 1 (A4 L E s).value [] _ (by omega) (by rw[lfK,if_pos h3]))
 have e3:((A4 L E s).kind==3)=false:=by simpa using h3
 by_cases h1:(A4 L E s).kind=1
 ·have e1:((A4 L E s).kind==1)=true:=by simpa using h1
  refine wAm (wJ e3 (wJ e1 (wJ ne0 (wJ @A0 @A1)))) ?_
  and_intros
  all_goals try((repeat rw[hnO]);exact hfr _ (by omega))
  refine wAl (wJ e3 (wJ e1 (wJ ne0 (wJ @A0 @A1)))) ?_;exact IW.stage (by simp[B5,tm,Tm.upd]) (tail 2 0 (A4 L E s).text _ (by omega) (by rw[lfK,if_neg h3,if_pos h1]))
 have e1:((A4 L E s).kind==1)=false:=w7
 by_cases h2:(A4 L E s).kind=2
 ·have e2:((A4 L E s).kind==2)=true:=by simpa using h2
  simp only[go_sem,seval,ne0,A0,A1];(repeat'((with_reducible first|refine J8 (p:=IW _ _ (pz Tryz.prog 242 (.o (.o (.i (.i (.o .h)))))) _ _) ?_|refine wr ?_|refine cpc c_lvs ?_|refine B0 ?_ ?_|apply wb2<;>(intro hb;try simp only[hb]))<;>try simp only[go_sem,seval,e3,e1,e2,hlk,ne0,A0,A1]))
  and_intros
  all_goals try((repeat rw[hnO]);exact hfr _ (by omega))
  (repeat'((with_reducible first|refine J8 (p:=IW _ _ (pz Tryz.prog 242 (.o (.o (.i (.i (.o .h)))))) _ _) ?_|refine wr ?_|refine cpc c_lvs ?_|refine B0 ?_ ?_|apply wb2<;>(intro hb;try simp only[hb]))<;>try simp only[go_sem,seval,e3,e1,e2,hlk,ne0,A0,A1]));exact IW.stage (by simp[B5,tm,Tm.upd]) (tail (lkI K7 V9 (A4 L E s).text) 0 [] _ (by omega) (by rw[lfK,if_neg h3,if_neg h1,if_pos h2]))
 have e2:((A4 L E s).kind==2)=false:=by simpa using h2
 refine wAm (wJ e3 (wJ e1 (wJ e2 (wJ ne0 (wJ @A0 @A1))))) ?_;exact IW.stage (by simp[B5,tm,Tm.upd]) (tail 0 0 [] _ (by omega) (by rw[lfK,if_neg h3,if_neg h1,if_neg h2]))
theorem E5q{G:Hp}{k t:Nat}{b:Blk}(h:¬t=k):I3 (G.upd k b) [k] t=G t:=by
 simp only[I3];rw[if_neg (by simpa using h),h_ne h]
theorem mgP{X:Hp}{k t:Nat}{B:Blk}(h:¬t=k):L2 [k] X ((I3 X [k]).upd t B)=X.upd t B:=by
 funext j
 simp only[L2];by_cases e:j=k
 ·subst e;rw[if_pos (by simp),h_ne (λe=>h e.symm)]
 ·rw[if_neg (by simpa using e)];by_cases e2:j=t
  ·subst e2;rw[A0,A0]
  ·rw[h_ne e2,h_ne e2];simp only[I3];rw[if_neg (by simpa using e)]
theorem c_pprim(L:List Tok)(E:Int)(hL:L.length<=1000000000)(hK:∀t∈L,K8 t)(f:Nat)
  (ib:∀n s m r,1<=n->n<=6->Eqv s m->J6 L E f n m=some r->PI L s->PeC L E 226 [I64 n] s r)
  (s m:Rd) (r:Ex × Rd) (hq:Eqv s m) (h:R5 L E (f+1) m=some r) (hP:PI L s) (hp0:isP L E s 5 [[45],[33]]=false):PeC L E 242 [] s r:=by
 unfold R5 at h;dsimp only at h;cases hp:isP L E s 5 [[40]] with
 |false =>
  rw[if_pos (E0l hK (by rw[<- hq.isP];exact hp0) (by rw[<- hq.isP];exact hp))]at h;cases h;exact c_pleaf L E hL hK s m hq hP hp
 |true =>
  obtain⟨ho,hlt, -⟩:=U2 (by decide) hp;obtain rfl:s=m:=hq.s (by rw[<- hq.ok,ho]);have hk:B8 L E s O9=2:=C2l hK hp O9 (by decide +kernel);rw[hk,if_neg (by decide)]at h;have hri:=hP.i;have hp0':=hP.p0;have hp1:=hP.p1;intro H cc t ht htc;refine AC.bodyT A2 rfl (A0C rfl) λhfr=>?_;have hio:=c_pisO L E s (H.upd cc A5k) (cc+2) t (cc+1) (by rw[hnO];exact hfr _ (by omega)) (by rw[hnO];exact ht) (by omega) 5 [[40]] (by simp);refine wAp ?_;refine AC.call hio ?_;rintro v H' c1 ⟨rfl,rfl⟩ hc1;refine wAu hp ?_;refine AC.call (c_deeper L E s _ _ t (by rw[hnO];exact ht) (by omega) (by omega) hp0' hp1) ?_;rintro v H' c2 ⟨rfl,rfl⟩ hc2;have ne0:=M7 t cc c2 (by omega);by_cases h16:s.par=16
  ·have hd:(s.par==16)=true:=by simpa using h16
   have hl:D3 L E s (s.par+1) 16 50=pfl L E s 50:=u5
   rw[hl,if_pos (by unfold pfl;exact Q9 (by decide))]at h;cases h;rw[if_pos h16];refine wA0 hd ne0 @A0 @A1 ?_;rw[C9 (rv5 rfl A0)];refine⟨_,_,A2u (cc:=cc) (K:=H.upd t (paB L E (pfl L E s 50))) (B7 hfr htc) (λj hj=>by simp[Hp.upd,show ¬j=cc by omega]),Ex0,_,rfl,rfl,.refl _,λ_=>rfl,hP.fl,B0t.2.2⟩
  ·have hd:(s.par==16)=false:=by simpa using h16
   rw[A1k (by omega),if_neg (by rw[ho];decide),if_pos rfl]at h;rw[if_neg h16];have hP2:PI L ({ s with i:=s.i+1,par:=s.par+1 }:Rd):=⟨hlt,hP.o0,hP.o1,by show 0<=s.par+1;omega,by show s.par+1<=16;omega⟩;cases hb:J6 L E f 1 { s with i:=s.i+1,par:=s.par+1 } with
   |none=>rw[hb]at h;cases h
   |some q =>
    obtain⟨e,m3⟩:=q;rw[hb]at h;dsimp only at h;cases h;refine wA0 hd ne0 @A0 @A1 ?_;refine AC.call (ib 1 _ _ _ (by decide) (by decide) (.refl _) hb hP2 _ _ t A0 (by omega)) ?_;rintro v H' c3 ⟨x,s3,rfl,rfl,hx⟩ hc3;have hi3:=hx.bd.i;have ne0:=M7 t cc c3 (by omega);simp only[go_sem,seval,ne0,A0,A1,Ex.v_w];refine wAx ne0 @A0 @A1 ?_;refine AC.call (c_want L E s3 _ _ t (by repeat (first|exact A0|rw[hnO])) (by omega) (by omega) 5 [41]) ?_;rintro v H' c4 ⟨rfl,rfl⟩ hc4;obtain⟨w1,w2⟩:=hx.bd.want (E:=E) (k:=5) (w:=[41]) (by decide);have hpr3:=hx.pr;dsimp only at hpr3;have hw5:IntKind.i64.wrap ((H8 L E s3 5 [41]).par-1)=(H8 L E s3 5 [41]).par-1:=w6z;have heq:=hx.eq.want (L:=L) (E:=E) (k:=5) (w:=[41]) (λs=>I4 hK (by decide +kernel));have hres:PaE L s (e, { D9 L E m3 [41] with par:=(D9 L E m3 [41]).par-1 }) x ({ H8 L E s3 5 [41] with par:=(H8 L E s3 5 [41]).par-1 }:Rd):=by
     refine⟨heq.par (λk=>by rw[heq.s k]),λk=>?_,⟨w1.i,w1.o0,w1.o1,by show 0<=(H8 L E s3 5 [41]).par-1;omega,by show(H8 L E s3 5 [41]).par-1<=16;omega⟩,by show(H8 L E s3 5 [41]).par-1=s.par;omega⟩;have k2:okR (D9 L E m3 [41])=true:=k;exact hx.vl (A0m (A7w k2).1).1
    generalize H8 L E s3 5 [41]=s4 at *;refine wA0 hw5 ne0 @A0 @A1 ?_;rw[C9 (rv5 rfl A0)];refine⟨_,_,K1 (cc:=cc) (K:=H.upd t (paB L E { s4 with par:=s4.par-1 })) (B7 hfr htc) (λj hj=>?_),x,_,rfl,rfl,hres⟩;simp[Hp.upd,show ¬j=cc by omega,show ¬j=c3 by omega];try(split<;>rfl)
theorem c_punary(L:List Tok)(E:Int)(hL:L.length<=1000000000)(hK:∀t∈L,K8 t)(f:Nat)
  (ib:∀n s m r,1<=n->n<=6->Eqv s m->J6 L E f n m=some r->PI L s->PeC L E 226 [I64 n] s r)
  (iu:∀s m r,Eqv s m->R5 L E f m=some r->PI L s->PeC L E 234 [] s r)
  (s m:Rd) (r:Ex × Rd) (hq:Eqv s m) (h:R5 L E (f+1) m=some r) (hP:PI L s):PeC L E 234 [] s r:=by
 intro H cc t ht htc;have hri:=hP.i;have hp0':=hP.p0;have hp1:=hP.p1;refine AC.bodyT A2 rfl (A0C rfl) λhfr=>?_;refine wAp ?_;refine AC.call (c_here L E s _ _ t (by rw[hnO];exact ht) (by omega)) ?_;rintro v H' c1 ⟨rfl,rfl⟩ hc;have ne0:=V3 t cc c1 (c1+1) (by omega);have hio:=c_pisO L E s ((H.upd cc A5k).upd c1 (tkB (A4 L E s))) (c1+1+1) t (c1+1) (by rw[hnO,hnO];exact hfr _ (by omega)) (by rw[hnO,hnO];exact ht) (by omega) 5 [[45],[33]] (by simp);refine wAy ne0 @A0 @A1 ?_;refine AC.call hio ?_;rintro v H' c2 ⟨rfl,rfl⟩ hc2;have hGt:((H.upd cc A5k).upd c1 (tkB (A4 L E s))) t=some (paB L E s):=zal
 cases hp:isP L E s 5 [[45],[33]] with
 |false =>
  refine wAu hp ?_;refine AC.call (c_pprim L E hL hK f ib s m r hq h hP hp _ _ t hGt (by omega)) ?_;rintro v H' c3 ⟨x,s3,rfl,rfl,hx⟩ hc3;simp only[go_sem,seval,ne0,A0,A1,Ex.v_w];refine wAx ne0 @A0 @A1 ?_;rw[C9 (rv5 rfl A0)];refine⟨_,_,K1 (cc:=cc) (K:=H.upd t (paB L E s3)) (B7 hfr htc) (λj hj=>?_),x,s3,rfl,rfl,hx⟩;simp[Hp.upd,show ¬j=cc by omega,show ¬j=c1 by omega]
 |true =>
  obtain⟨ho,hlt, -⟩:=U2 (by decide) hp;obtain rfl:s=m:=hq.s (by rw[<- hq.ok,ho]);obtain⟨b,hb33,hk⟩:∃b:Bool,((A4 L E s).text == [33])=b/\B8 L E s O9=if b=true then 1 else 0:=by
   rcases D6b hp with h1|h1
   ·exact⟨false,by rw[C1p h1];rfl,C2l hK h1 O9 (by decide +kernel)⟩
   ·exact⟨true,by rw[C1p h1];rfl,C2l hK h1 O9 (by decide +kernel)⟩
  unfold R5 at h;dsimp only at h;rw[hk,if_neg (by cases b<;>decide)]at h;refine wAu hp ?_;refine AC.call (c_deeper L E s _ _ t hGt (by omega) (by omega) hp0' hp1) ?_;rintro v H' c3 ⟨rfl,rfl⟩ hc3;by_cases h16:s.par=16
  ·have hd:(s.par==16)=true:=by simpa using h16
   have hl:D3 L E s (s.par+1) 16 50=pfl L E s 50:=u5
   rw[hl,if_pos (by unfold pfl;exact Q9 (by decide))]at h;cases h;rw[if_pos h16];refine wA0 hd ne0 @A0 @A1 ?_;rw[C9 (rv5 rfl A0)];refine⟨_,_,A2u (cc:=cc) (K:=H.upd t (paB L E (pfl L E s 50))) (B7 hfr htc) (λj hj=>by simp[Hp.upd,show ¬j=cc by omega,show ¬j=c1 by omega]),Ex0,_,rfl,rfl,.refl _,λ_=>rfl,hP.fl,B0t.2.2⟩
  have hd:(s.par==16)=false:=by simpa using h16
  rw[A1k (by omega),if_neg (by rw[ho];decide),if_neg (by cases b<;>decide)]at h;rw[if_neg h16];have hP2:PI L ({ s with i:=s.i+1,par:=s.par+1 }:Rd):=⟨hlt,hP.o0,hP.o1,by show 0<=s.par+1;omega,by show s.par+1<=16;omega⟩;cases hu:R5 L E f { s with i:=s.i+1,par:=s.par+1 } with
  |none=>rw[hu]at h;cases h
  |some q =>
   obtain⟨e,m3⟩:=q;rw[hu]at h;dsimp only at h;cases h;have ne0:=S7 t cc c1 (c3+2) (c3+6) (by omega);refine wA0 hd ne0 @A0 @A1 ?_;refine AC.call (iu _ _ _ (.refl _) hu hP2 _ _ t (by rw[E5q (by omega)];exact A0) (by omega)) ?_;rintro v H' c4 ⟨x,s3,rfl,rfl,hx⟩ hc4;have hi3:=hx.bd.i;have hpr3:=hx.pr;have hb3:=hx.bd;have hxe:=hx.eq;have hxv:=hx.vl;dsimp only at hpr3 hxe hxv;have hw5:IntKind.i64.wrap (s3.par-1)=s3.par-1:=w6z;have hres:PaE L s (.mk (10+if b=true then 1 else 0) 0 [] [e] (A4 L E s).pos, { m3 with par:=m3.par-1 }) (.mk (if b=true then 11 else 10) 0 [] [x] (A4 L E s).pos) ({ s3 with par:=s3.par-1 }:Rd):=by
    refine⟨hxe.par (λk=>by rw[hxe.s k]),λk=>?_,⟨hb3.i,hb3.o0,hb3.o1,by show 0<=s3.par-1;omega,by show s3.par-1<=16;omega⟩,by show s3.par-1=s.par;omega⟩;have k2:okR m3=true:=k;rw[hxv k2];cases b<;>rfl
   have hmg:∀(X:Hp) (B:Blk),L2 [c3+6] X ((I3 X [c3+6]).upd t B)=X.upd t B:=λX B=>mgP (by omega);cases b with
   |true =>
    simp only[go_sem,seval,ne0,A0,A1,hmg,Ex.v_w];refine wAz ne0 @A0 @A1 hb33 ?_
    and_intros
    all_goals try((repeat rw[hnO]);exact hfr _ (by omega))
    refine wA2 hw5 ne0 @A0 @A1 hb33 ?_;rw[C9 (rv5 rfl A0)];refine⟨_,_,B8s (cc:=cc) (b:=c3+2) (K:=H.upd t (paB L E { s3 with par:=s3.par-1 })) [x] (B7 hfr htc) (by omega) ?_ (λj hj=>?_),.mk 11 0 [] [x] (A4 L E s).pos,_,rfl,rfl,hres⟩
    ·rw[V7];dsimp only
     repeat (first|exact A0|rw[hnO])
    simp[Hp.upd,show ¬j=cc by omega,show ¬j=c1 by omega,show ¬j=c3+2 by omega,show ¬j=c3+6 by omega];try(split<;>rfl)
   |false =>
    simp only[go_sem,seval,ne0,A0,A1,hmg,Ex.v_w];refine wAz ne0 @A0 @A1 hb33 ?_
    and_intros
    all_goals try((repeat rw[hnO]);exact hfr _ (by omega))
    refine wA2 hw5 ne0 @A0 @A1 hb33 ?_;rw[C9 (rv5 rfl A0)];refine⟨_,_,B8s (cc:=cc) (b:=c3+2) (K:=H.upd t (paB L E { s3 with par:=s3.par-1 })) [x] (B7 hfr htc) (by omega) ?_ (λj hj=>?_),.mk 10 0 [] [x] (A4 L E s).pos,_,rfl,rfl,hres⟩
    ·rw[V7];dsimp only
     repeat (first|exact A0|rw[hnO])
    simp[Hp.upd,show ¬j=cc by omega,show ¬j=c1 by omega,show ¬j=c3+2 by omega,show ¬j=c3+6 by omega];try(split<;>rfl)
theorem c_plevel(L:List Tok)(E:Int)(hL:L.length<=1000000000)(hK:∀t∈L,K8 t)(f:Nat)
  (ib:∀g,g<=f->∀n s m r,1<=n->n<=6->Eqv s m->J6 L E g n m=some r->PI L s->PeC L E 226 [I64 n] s r)
  (iu:∀s m r,Eqv s m->R5 L E f m=some r->PI L s->PeC L E 234 [] s r)
  (n:Int) (s m:Rd) (r:Ex × Rd) (hn1:1<=n) (hn6:n<=6) (hq:Eqv s m) (h:J6 L E (f+1) n m=some r) (hP:PI L s):PeC L E 226 [I64 n] s r:=by
 intro H cc t ht htc;refine AC.bodyT A2 rfl (A0C rfl) λhfr=>?_;unfold J6 at h;have ne0:=Q8 t cc (by omega);by_cases h5:5<n
 ·rw[if_pos h5]at h;have hd:(n==6)=true:=by simp;omega
  refine wAs hd ?_;refine AC.call (iu _ _ _ hq h hP _ _ t (by rw[hnO];exact ht) (by omega)) ?_;rintro v H' c1 ⟨x,s1,rfl,rfl,hx⟩ hc1;simp only[go_sem,seval,ne0,A0,A1,Ex.v_w];refine wAx ne0 @A0 @A1 ?_;rw[C9 (rv5 rfl A0)];refine⟨_,_,K1 (cc:=cc) (K:=H.upd t (paB L E s1)) (B7 hfr htc) (λj hj=>?_),x,s1,rfl,rfl,hx⟩;simp[Hp.upd,show ¬j=cc by omega]
 rw[if_neg h5]at h;have hd:(n==6)=false:=a8
 have hw:IntKind.i64.wrap (n+1)=n+1:=w6z;cases hb:J6 L E f (n+1) m with
 |none=>rw[hb]at h;cases h
 |some q =>
  obtain⟨e,m1⟩:=q;rw[hb]at h;dsimp only at h;refine wAs (wJ hd hw) ?_;refine AC.call (ib f (A0D _) (n+1) _ _ _ (by omega) (by omega) hq hb hP _ _ t (by rw[hnO];exact ht) (by omega)) ?_;rintro v H' c1 ⟨x,s1,rfl,rfl,hx⟩ hc1;have hx1:=hx.eq;have hx2:=hx.vl;have hx3:=hx.bd;have hx4:=hx.pr;dsimp only at hx1 hx2;have ne0:=M7 t cc c1 (by omega);simp only[go_sem,seval,ne0,A0,A1,Ex.v_w];refine wAx ne0 @A0 @A1 ?_;refine C4s (λ_:Nat × Ex × Rd × Ex × Rd=>[(0,.ptr t 0),(1,I64 n),(4,.ptr cc 0),(5,.ptr c1 0)]) (λq=>((H.upd cc A5k).upd t (paB L E q.2.2.2.2)).upd c1 (exB q.2.2.2.1))
   (λq c=>c1+1<=c/\q.1<=f/\R2 L E q.1 n q.2.1 q.2.2.1=some r/\Eqv q.2.2.2.2 q.2.2.1/\(okR q.2.2.1=true->q.2.2.2.1=q.2.1)/\PI L q.2.2.2.2/\q.2.2.2.2.par=s.par) (λq=>q.1) (f,e,m1,x,s1) (λb=>by simp[B5,tm,Tm.upd]) (by simp[B5,tm,Tm.upd]) (Sub.refl _) ⟨A0D _,A0D _,h,hx1,hx2,hx3,hx4⟩ ?_
  clear h hb hx hx1 hx2 hx3 hx4 s1 e m1 x;rintro⟨g,e,m1,x,s1⟩ c ⟨hc,hg,hv,k1,k2,k3,k4⟩;dsimp only at hc hg hv k1 k2 k3 k4 ⊢;have hri:=k3.i;cases g with
  |zero=>simp[R2]at hv
  |succ g =>
  have hTt:∀b:Blk,(((H.upd cc A5k).upd t (paB L E s1)).upd c1 b) t=some (paB L E s1):=λb=>by rw[hnO,A0]
  refine wAp ?_;refine AC.call (c_pok L E s1 _ _ t (hTt _) (by omega)) ?_;rintro v H' c2 ⟨rfl,rfl⟩ hc2;cases ho:okR s1 with
  |false =>
   have hm:okR m1=false:=by rw[<- k1.ok,ho]
   obtain rfl:=(EN.all (g+1)).2.1 _ _ _ _ hv hm;refine wA0 ho ne0 @A0 @A1 ?_;rw[C9 (rv5 rfl A0)];refine⟨_,_,K1 (cc:=cc) (K:=H.upd t (paB L E s1)) (B7 hfr htc) (λj hj=>?_),x,s1,rfl,rfl,k1,λk=>(by simp[hm]at k),k3,k4⟩;simp[Hp.upd,show ¬j=cc by omega,show ¬j=c1 by omega]
  |true =>
  obtain rfl:s1=m1:=k1.s (by rw[<- k1.ok,ho]);obtain rfl:=k2 ho;unfold R2 at hv;dsimp only at hv;obtain⟨hl1,hl2⟩:=E1e (E:=E) hK ho hn1 (by omega:n<=5);have hnn:0<=B8 L E s1 D2->s1.i<L.length:=λh=>(I6 h).2.1;have hlk:=B5q D2 B7t rfl (A4 L E s1).text;refine wA0 ho ne0 @A0 @A1 ?_;refine AC.call (c_here L E s1 _ _ t (hTt _) (by omega)) ?_;rintro v H' c3 ⟨rfl,rfl⟩ hc3;have ne0:=S7 t cc c1 c3 (c3+12) (by omega);by_cases hstop:B8 L E s1 D2<0\/B9 (12+B8 L E s1 D2)≠n
  ·rw[if_pos hstop]at hv;cases hv;have hs2:=hl1.1 hstop;by_cases hk5:(A4 L E s1).kind=5
   ·have e5:((A4 L E s1).kind != 5)=false:=by simpa using hk5
    have el:(B9 (lkI D2 B7t (A4 L E s1).text) != n)=true:=by
     rcases hs2 with h|h
     ·exact absurd hk5 h
     ·simpa using h
    simp only[go_sem,seval,ne0,A0,A1];(repeat'((with_reducible first|apply wr|refine cpc c_ops ?_|refine cpc (c_levP _) ?_|refine B0 ?_ ?_|apply wb2<;>(intro hb;try simp only[hb]))<;>try simp only[go_sem,seval,e5,el,hlk,ne0,A0,A1]))
    and_intros
    all_goals try((repeat rw[hnO]);exact hfr _ (by omega))
    (repeat'((with_reducible first|apply wr|refine cpc c_ops ?_|refine cpc (c_levP _) ?_|refine B0 ?_ ?_|apply wb2<;>(intro hb;try simp only[hb]))<;>try simp only[go_sem,seval,e5,el,hlk,ne0,A0,A1]));rw[C9 (rv5 rfl A0)];refine⟨_,_,K1 (cc:=cc) (K:=H.upd t (paB L E s1)) (B7 hfr htc) (λj hj=>?_),_,s1,rfl,rfl,.refl _,λ_=>rfl,k3,k4⟩;simp[Hp.upd,show ¬j=cc by omega,show ¬j=c1 by omega,show ¬j=c3 by omega]
   ·have e5:((A4 L E s1).kind != 5)=true:=by simpa using hk5
    simp only[go_sem,seval,ne0,A0,A1];(repeat'((with_reducible first|apply wr|refine cpc c_ops ?_|refine cpc (c_levP _) ?_|refine B0 ?_ ?_|apply wb2<;>(intro hb;try simp only[hb]))<;>try simp only[go_sem,seval,e5,hlk,ne0,A0,A1]))
    and_intros
    all_goals try((repeat rw[hnO]);exact hfr _ (by omega))
    (repeat'((with_reducible first|apply wr|refine cpc c_ops ?_|refine cpc (c_levP _) ?_|refine B0 ?_ ?_|apply wb2<;>(intro hb;try simp only[hb]))<;>try simp only[go_sem,seval,e5,hlk,ne0,A0,A1]));rw[C9 (rv5 rfl A0)];refine⟨_,_,K1 (cc:=cc) (K:=H.upd t (paB L E s1)) (B7 hfr htc) (λj hj=>?_),_,s1,rfl,rfl,.refl _,λ_=>rfl,k3,k4⟩;simp[Hp.upd,show ¬j=cc by omega,show ¬j=c1 by omega,show ¬j=c3 by omega]
  rw[if_neg hstop]at hv;have hk0:0<=B8 L E s1 D2:=b8
  have hlt:=hnn hk0;obtain⟨hl3,hk5,hl4⟩:=hl2 hk0;have e5:((A4 L E s1).kind != 5)=false:=by simpa using hk5
  have el:(B9 (lkI D2 B7t (A4 L E s1).text) != n)=false:=by
   rw[hl3];simp;omega
  have hP2:=k3.nxt hlt;have hwi:IntKind.i64.wrap ((s1.i:Int)+1)=((s1.i+1:Nat):Int):=i7
  cases hb:J6 L E g (n+1) (A6 s1) with
  |none=>rw[hb]at hv;cases hv
  |some q =>
   obtain⟨e2,m2⟩:=q;rw[hb]at hv;dsimp only at hv;rw[<- hl3]at hv;simp only[go_sem,seval,ne0,A0,A1];(repeat'((with_reducible first|apply wr|refine cpc c_ops ?_|refine cpc (c_levP _) ?_|refine B0 ?_ ?_|apply wb2<;>(intro hb;try simp only[hb]))<;>try simp only[go_sem,seval,e5,el,hlk,hwi,hw,ne0,A0,A1]))
   and_intros
   all_goals try((repeat rw[hnO]);exact hfr _ (by omega))
   (repeat'((with_reducible first|apply wr|refine cpc c_ops ?_|refine cpc (c_levP _) ?_|refine B0 ?_ ?_|apply wb2<;>(intro hb;try simp only[hb]))<;>try simp only[go_sem,seval,e5,el,hlk,hwi,hw,ne0,A0,A1]));refine AC.call (ib g (by omega) (n+1) (A6 s1) (A6 s1) _ (by omega) (by omega) (.refl _) hb hP2 _ _ t (by repeat (first|exact A0|rw[hnO])) (by omega)) ?_;rintro v H' c4 ⟨y,s2,rfl,rfl,hy⟩ hc4;have y1:=hy.eq;have y2:=hy.vl;have y3:=hy.bd;have y4:=hy.pr;dsimp only at y1 y2;generalize lkI D2 B7t (A4 L E s1).text=kd at *;simp only[go_sem,seval,ne0,A0,A1,Ex.v_w];refine wAx ne0 @A0 @A1 ?_
   and_intros
   all_goals try((repeat rw[hnO]);exact hfr _ (by omega))
   by_cases h3:n=3
   ·have hd3:(n==3)=true:=by simpa using h3
    rw[if_pos h3]at hv;cases hv;refine wAz hd3 ne0 @A0 @A1 ?_;rw[C9 (rv5 rfl A0)];refine⟨_,_,B8s (cc:=cc) (b:=c3+12) (K:=H.upd t (paB L E s2)) [x,y] (B7 hfr htc) (by omega) ?_ (λj hj=>?_),.mk kd 0 [] [x,y] (A4 L E s1).pos,s2,rfl,rfl,y1,λk=>(by rw[y2 k]),y3,y4.trans k4⟩
    ·rw[B4b];dsimp only
     repeat (first|exact A0|rw[hnO])
    simp[Hp.upd,show ¬j=cc by omega,show ¬j=c1 by omega,show ¬j=c3 by omega,show ¬j=c3+12 by omega];try(split<;>rfl)
   ·have hd3:(n==3)=false:=by simpa using h3
    rw[if_neg h3]at hv;refine wAz hd3 ne0 @A0 @A1 ?_;refine⟨(g,.mk kd 0 [] [x,e2] (A4 L E s1).pos,m2,.mk kd 0 [] [x,y] (A4 L E s1).pos,s2),?_,inv ⟨b8,g9,hv,y1,λk=>(by simp only[y2 k]),y3,y4.trans k4⟩,by simp only;omega⟩;refine GL.frzT (id:=c3+12) (b:=⟨5,true,cellsL ([x,y].map Ex.v)⟩) ?_ rfl (λj=>?_) (FzL.refl _)
    ·rw[B4b]
     repeat (first|exact A0|rw[hnO])
    by_cases j1:j=c1
    ·subst j1;refine .inr ⟨b8,.inr ⟨_,_,A0,A0,rfl,rfl,.cons _ _ _ _ (.same _) (.cons _ _ _ _ (.same _) (.cons _ _ _ _ (.same _) (.cons _ _ _ _ (Q2 (u:=5) (xs:=[x,y].map Ex.v) (by simp) (A4i _) ⟨[],by simp⟩) (.cons _ _ _ _ (.same _) .nil)))),by simp[DV.one]⟩⟩
    ·by_cases j2:j=c3+12
     ·subst j2;left
      repeat rw[hnO]
      exact hfr _ (by omega)
     ·by_cases j3:j=c3
      ·subst j3;left
       repeat rw[hnO]
       exact hfr _ (by omega)
      refine .inr ⟨j2,.inl ?_⟩;simp[Hp.upd,j1,j2,j3];try(split<;>rfl)
theorem c_plu(L:List Tok)(E:Int)(hL:L.length<=1000000000)(hK:∀t∈L,K8 t):∀f:Nat,(∀n s m r,1<=n->n<=6->Eqv s m->J6 L E f n m=some r->PI L s->PeC L E 226 [I64 n] s r)/\(∀s m r,Eqv s m->R5 L E f m=some r->PI L s->PeC L E 234 [] s r):=by
 intro f
 induction f using Nat.strongRecOn with
 |_ f ih =>
  cases f with
  |zero=>exact⟨λn s m r _ _ _ h=>by simp[J6]at h,λs m r _ h=>by simp[R5]at h⟩
  |succ f =>
   exact⟨λn s m r h1 h2 hq h hP=>c_plevel L E hL hK f (λg hg=>(ih g (by omega)).1) (ih f (by omega)).2 n s m r h1 h2 hq h hP,
    λs m r hq h hP=>c_punary L E hL hK f (ih f (by omega)).1 (ih f (by omega)).2 s m r hq h hP⟩
theorem c_pexpr(L:List Tok)(E:Int)(hL:L.length<=1000000000)(hK:∀t∈L,K8 t)(f:Nat)(s m:Rd)(r:Ex × Rd)(hq:Eqv s m)(h:L3 L E f m=some r)(hi:s.i<=L.length):
  ∀(H:Hp) (cc t:Nat),H t=some (paB L E s)->t<cc->AC Tryz.prog 208 [.ptr t 0] H cc (λv H' c' => ∃x s',v=x.v/\H'=H.upd t (paB L E s')/\Eqv s' r.2/\(okR r.2=true->x=r.1)/\PI L s'):=by
 intro H cc t ht htc;refine AC.bodyT A2 rfl (A0C rfl) λhfr=>?_;have ne0:=Q8 t cc (by omega);refine wAz ht ne0 @A0 @A1 ?_;refine AC.call ((c_plu L E hL hK f).1 1 { s with ops:=0,par:=0 } { m with ops:=0,par:=0 } r (by decide) (by decide) ⟨hq.e,hq.p,λk=>by rw[hq.s k]⟩ h ⟨hi,A2W 0,(by decide:(0:Int)<=32),A2W 0,(by decide:(0:Int)<=16)⟩ _ _ t (by exact A0) (by omega)) ?_;rintro v H' c1 ⟨x,s1,rfl,rfl,hx⟩ hc1;simp only[go_sem,seval,ne0,A0,A1,Ex.v_w];refine wAx ne0 @A0 @A1 ?_;rw[C9 (rv5 rfl A0)];refine⟨_,_,K1 (cc:=cc) (K:=H.upd t (paB L E s1)) (B7 hfr htc) (λj hj=>?_),x,s1,rfl,rfl,hx.eq,hx.vl,hx.bd⟩;simp[Hp.upd,show ¬j=cc by omega];try(split<;>rfl)
end Go.Proofs.YtdclpmddofggcaaGreatDoor
set_option maxHeartbeats 8000000
namespace Go.Proofs.YtdclpmddofggcaaGreatDoor
open Go.Eng (IC IOper DReg IFn L4)
open Go.Sym Go.Pb
theorem c_begins(L:List Tok)(E:Int)(s:Rd)(H:Hp)(cc t:Nat)(ht:H t=some (paB L E s))(htc:t<cc):AC Tryz.prog 181 [.ptr t 0] H cc (λv H' c'=>v=.bool (B2j L E s)/\H'=H):=by
 refine AC.bodyT A2 rfl (A0C rfl) λhfr=>?_;refine wAp ?_;refine AC.call (c_here L E s _ _ t ht (by omega)) ?_;rintro v H' c1 ⟨rfl,rfl⟩ hc;have ne0:=Q8 t c1 (by omega);have hlk:=B5q C5 C0g rfl (A4 L E s).text;refine wAy ne0 @A0 @A1 ?_;refine AC.call (c_pok L E s _ _ t (by rw[hnO];exact ht) (by omega)) ?_;rintro v H' c2 ⟨rfl,rfl⟩ hc2;unfold B2j;cases ho:okR s with
 |false =>
  refine wA0 ne0 @A0 @A1 ho ?_
  and_intros
  all_goals try((repeat rw[hnO]);exact hfr _ (by omega))
  refine wAz ne0 @A0 @A1 ho ?_;exact⟨_,_,W3 (λi hi=>hfr i (by omega)),by simp[*],rfl⟩
 |true =>
  by_cases h1:(A4 L E s).kind=1
  ·have e1:((A4 L E s).kind==1)=true:=by simpa using h1
   refine wA3 ne0 @A0 @A1 ho e1 ?_
   and_intros
   all_goals try((repeat rw[hnO]);exact hfr _ (by omega))
   refine wAz ne0 @A0 @A1 ho ?_;exact⟨_,_,W3 (λi hi=>hfr i (by omega)),by simp[*],rfl⟩
  have e1:((A4 L E s).kind==1)=false:=w7
  by_cases h2:(A4 L E s).kind=2
  ·have e2:((A4 L E s).kind==2)=true:=by simpa using h2
   refine wBd c_stms (wJ ne0 (wJ @A0 (wJ @A1 (wJ ho (wJ e1 (wJ e2 hlk)))))) ?_
   and_intros
   all_goals try((repeat rw[hnO]);exact hfr _ (by omega))
   refine wAz ne0 @A0 @A1 ho ?_;exact⟨_,_,W3 (λi hi=>hfr i (by omega)),by simp[*],rfl⟩
  have e2:((A4 L E s).kind==2)=false:=by simpa using h2
  refine wA6 ne0 @A0 @A1 ho e1 e2 ?_
  and_intros
  all_goals try((repeat rw[hnO]);exact hfr _ (by omega))
  refine wAz ne0 @A0 @A1 ho ?_;exact⟨_,_,W3 (λi hi=>hfr i (by omega)),by simp[*],rfl⟩
abbrev PsC(L:List Tok)(E:Int)(f:Nat)(vs:List DV)(s:Rd)(q:Pb.St × Rd):Prop :=
 ∀(H:Hp) (cc t:Nat),H t=some (paB L E s)->t<cc->AC Tryz.prog f (.ptr t 0::vs) H cc (λv H' c' => ∃x s',v=Pb.St.v x/\H'=H.upd t (paB L E s')/\Eqv s' q.2/\(okR q.2=true->x=q.1)/\PI L s')
abbrev PlC(L:List Tok)(E:Int)(f:Nat)(vs:List DV)(s:Rd)(q:List Pb.St × Rd):Prop :=
 ∀(H:Hp) (cc t:Nat),H t=some (paB L E s)->t<cc->AC Tryz.prog f (.ptr t 0::vs) H cc (λv H' c' => ∃x s',v=F5 x/\H'=H.upd t (paB L E s')/\Eqv s' q.2/\(okR q.2=true->x=q.1)/\PI L s')
def B9h(L:List Tok)(E:Int)(f:Nat)(d:Int)(m:Rd):Option (List Pb.St × Rd):=if isR L E m [101,108,115,101]=true then T8 L E f d (A6 m) else some ([],m)
theorem A8q{L:List Tok}{E:Int}{m:Rd}{w:List UInt8}(k:okR (D9 L E m w)=true):okR m=true:=(A0m (A7w k).1).1
theorem E2h{L:List Tok}{E:Int}{f:Nat}{m:Rd}{q:Ex × Rd}(h:L3 L E f m=some q)(k:okR q.2=true):okR m=true:=by
 cases ho:okR m with
 |true=>rfl
 |false=>obtain rfl:=D2b h ho;have:okR m=true:=k;rw[ho]at this;cases this
theorem D8b{L:List Tok}{E:Int}{f:Nat}{d:Int}{m:Rd}{q:List Pb.St × Rd}(h:K5 L E f d m=some q)(k:okR q.2=true):okR m=true:=by
 cases ho:okR m with
 |true=>rfl
 |false=>obtain rfl:=D6z h ho;exact absurd k (by simp[ho])
theorem E6z{L:List Tok}{E:Int}{f:Nat}{d:Int}{m:Rd}{q:List Pb.St × Rd}(h:B9h L E f d m=some q)(k:okR q.2=true):okR m=true:=by
 unfold B9h at h;split at h
 ·rename_i hi;exact(A0m hi).1
 ·cases h;exact k
theorem c_pstmt(L:List Tok)(E:Int)(hL:L.length<=1000000000)(hK:∀t∈L,K8 t)(f:Nat)
  (ib:∀d s m r,0<=d->d<=9->Eqv s m->K5 L E f d m=some r->PI L s->PlC L E 146 [I64 d] s r)
  (io:∀d s m r,0<=d->d<=8->Eqv s m->B9h L E f d m=some r->PI L s->PlC L E 209 [I64 (d+1)] s r)
  (d:Int) (s:Rd) (r:Pb.St × Rd) (hd0:0<=d) (hd:d<=8) (hbg:B2j L E s=true) (h:O8 L E (f+1) d s=some r) (hP:PI L s):PsC L E 182 [I64 d] s r:=by
 intro H cc t ht htc;obtain⟨ho,hbk⟩:=(C5i hK).1 hbg;obtain⟨hs1,hs2⟩:=C0f (E:=E) hK ho;have hri:=hP.i;unfold O8 at h;dsimp only at h;rw[A1k (by omega:¬(8:Int)<d),if_neg (by rw[ho];decide)]at h;have hlt:s.i<L.length:=by
  rcases hbk with hk|hk
  ·exact(I6 hk).2.1
  ·exact(J1 (by decide) (J7 hk).2).2
 have hw1:IntKind.i64.wrap ((s.i:Int)+1)=((s.i+1:Nat):Int):=i7
 have hwd:IntKind.i64.wrap (d+1)=d+1:=w6z;have hPn:=hP.nxt hlt;have hqn:=Eqv.refl (A6 s);refine AC.bodyT A2 rfl (A0C rfl) λhfr=>?_;refine wAp ?_;refine AC.call (c_here L E s _ _ t (by rw[hnO];exact ht) (by omega)) ?_;rintro v H' c1 ⟨rfl,rfl⟩ hc1;have ne0:=V3 t cc c1 (c1+1) (by omega);by_cases hk1:(A4 L E s).kind=1
 ·have e1:((A4 L E s).kind==1)=true:=by simpa using hk1
  have hkk:I9 L E s 1=true:=by unfold I9;rw[ho,hk1];rfl
  have htk:A7 L E s 1=(A4 L E s,A6 s):=by unfold A7;rw[hkk,if_neg (by decide)]
  have hk:B8 L E s C5<0:=by
   by_cases hk:B8 L E s C5<0
   ·exact hk
   ·have:=(hs1 (by omega)).1;omega
  rw[if_pos hk,htk]at h;dsimp only at h;cases hz2:L3 L E f (D9 L E (A6 s) [61]) with
  |none=>rw[hz2]at h;cases h
  |some qhz2 =>
   obtain⟨e,m2⟩:=qhz2;rw[hz2]at h;dsimp only at h;cases h;refine wA6 e1 ht hw1 ne0 @A0 @A1 ?_;refine AC.call (c_want L E (A6 s) _ _ t (by repeat (first|exact A0|rw[hnO]|rw[D5 (by omega)])) (by omega) (by have:=hPn.i;omega) 5 [61]) ?_;rintro v H' c3 ⟨rfl,rfl⟩ hc3;have qc3:=hqn.want (L:=L) (E:=E) (k:=5) (w:=[61]) (λs=>I4 hK (by decide +kernel));have bc3:=(hPn.want (E:=E) (k:=5) (w:=[61]) (by decide)).1;refine wAy ne0 @A0 @A1 ?_;refine AC.call (c_pexpr L E hL hK f (H8 L E (A6 s) 5 [61]) (D9 L E (A6 s) [61]) (e,m2) qc3 hz2 bc3.i _ _ t (by repeat (first|exact A0|rw[hnO]|rw[D5 (by omega)])) (by omega)) ?_;rintro v H' c4 ⟨xc4,sc4,rfl,rfl,qc4,uc4,bc4⟩ hc4;dsimp only at qc4 uc4;have ne0:=S7 t cc c1 (c1+1) c4 (by omega);simp only[go_sem,seval,Ex.v_w,ne0,A0,A1];refine wAx ne0 @A0 @A1 ?_;refine AC.call (c_want L E sc4 _ _ t (by repeat (first|exact A0|rw[hnO]|rw[D5 (by omega)])) (by omega) (by have:=bc4.i;omega) 5 [59]) ?_;rintro v H' c5 ⟨rfl,rfl⟩ hc5;have qc5:=qc4.want (L:=L) (E:=E) (k:=5) (w:=[59]) (λs=>I4 hK (by decide +kernel));have bc5:=(bc4.want (E:=E) (k:=5) (w:=[59]) (by decide)).1;refine wAy ne0 @A0 @A1 ?_;rw[C9 (rv7 rfl A0)];refine⟨_,_,S0 (cc:=cc) (K:=H.upd t (paB L E (H8 L E sc4 5 [59]))) (i:=c4) [xc4] (.inr ⟨rfl,rfl⟩) (.inr ⟨rfl,rfl⟩) (B7 hfr htc) (by omega) ?_ (λj hj=>?_),.mk 1 (A4 L E s).text [] [xc4] [] [] (A4 L E s).pos,(H8 L E sc4 5 [59]),s8,rfl,qc5,λk=>?_,bc5⟩
   ·rw[V7];dsimp only
    repeat (first|exact A0|rw[hnO]|rw[D5 (by omega)])
   ·simp[Hp.upd,Hp.del,show ¬j=cc by omega,show ¬j=c1 by omega,show ¬j=c1+1 by omega,show ¬j=c4 by omega];try(split<;>rfl)
   ·rw[uc4 (A8q k)]
 have e1:((A4 L E s).kind==1)=false:=by simpa using hk1
 have hk0:0<=B8 L E s C5:=by
  rcases hbk with hk|hk
  ·exact hk
  ·exact absurd (J7 hk).2 hk1
 obtain⟨hk2,hlv,hk18⟩:=hs1 hk0;have hlk:=B5q C5 C0g rfl (A4 L E s).text;rw[if_neg (by omega)]at h;generalize B8 L E s C5=k at h hlv hk0 hk18;rw[hlv]at hlk;clear hlv hs1 hs2 hbk;refine wBd c_stms (wJ e1 (wJ ht (wJ hw1 (wJ hlk (wJ ne0 (wJ @A0 @A1)))))) ?_
 and_intros
 all_goals try((repeat rw[hnO]);exact hfr _ (by omega))
 by_cases k0:k=0
 ·rw[if_pos (.inl k0)]at h;cases hz6:L3 L E f (A6 s) with
  |none=>rw[hz6]at h;cases h
  |some qhz6 =>
   obtain⟨e,m2⟩:=qhz6;rw[hz6]at h;dsimp only at h;cases hz7:K5 L E f (d+1) m2 with
   |none=>rw[hz7]at h;cases h
   |some qhz7 =>
    obtain⟨tt,m3⟩:=qhz7;rw[hz7]at h;dsimp only at h;have h':(match B9h L E f d m3 with|none=>none|some (o,s4)=>some (Pb.St.mk 2 [] [] [e] tt o (A4 L E s).pos,s4))=some r:=by
     unfold B9h;cases hi:isR L E m3 [101,108,115,101] with
     |true=>rw[if_pos ⟨k0,hi⟩]at h;rw[if_pos rfl];exact h
     |false=>rw[if_neg (by simp[hi])]at h;rw[if_neg (by decide), <- h];subst k0;rfl
    clear h;have h:=h';clear h';cases hz8:B9h L E f d m3 with
    |none=>rw[hz8]at h;cases h
    |some qhz8 =>
     obtain⟨oo,m4⟩:=qhz8;rw[hz8]at h;dsimp only at h;cases h;have f2:(2+k==2)=true:=a8
     have f3:(2+k==3)=false:=a8
     have f4:(2+k==4)=false:=a8
     have f8:(2+k==8)=false:=a8
     have f10:(2+k==10)=false:=a8
     have f9:(2+k==9)=false:=a8
     have f18:(2+k==18)=false:=a8
     have f19:(2+k==19)=false:=a8
     refine wAs (wJ f2 (wJ f3 (wJ f4 (wJ f8 (wJ f10 (wJ f9 (wJ f18 (wJ f19 (wJ hwd (wJ ne0 (wJ @A0 @A1))))))))))) ?_;refine AC.call (c_pexpr L E hL hK f (A6 s) (A6 s) (e,m2) hqn hz6 hPn.i _ _ t (by repeat (first|exact A0|rw[hnO]|rw[D5 (by omega)])) (by omega)) ?_;rintro v H' c9 ⟨xc9,sc9,rfl,rfl,qc9,uc9,bc9⟩ hc9;dsimp only at qc9 uc9;have ne0:=S7 t cc c1 (c1+1) c9 (by omega);simp only[go_sem,seval,Ex.v_w,ne0,A0,A1];refine wAz hwd ne0 @A0 @A1 ?_;refine AC.call (ib (d+1) sc9 m2 (tt,m3) (by omega) (by omega) qc9 hz7 bc9 _ _ t (by repeat (first|exact A0|rw[hnO]|rw[D5 (by omega)])) (by omega)) ?_;rintro v H' c10 ⟨xc10,sc10,rfl,rfl,qc10,uc10,bc10⟩ hc10;dsimp only at qc10 uc10;refine wA0 hwd ne0 @A0 @A1 ?_;refine AC.call (io d sc10 m3 (oo,m4) (by omega) (by omega) qc10 hz8 bc10 _ _ t (by repeat (first|exact A0|rw[hnO]|rw[D5 (by omega)])) (by omega)) ?_;rintro v H' c11 ⟨xc11,sc11,rfl,rfl,qc11,uc11,bc11⟩ hc11;dsimp only at qc11 uc11;refine wA0 hwd ne0 @A0 @A1 ?_;subst k0;rw[C9 (rv7 rfl A0)];refine⟨_,_,S0 (cc:=cc) (K:=H.upd t (paB L E sc11)) (i:=c9) [xc9] (.inl rfl) (.inl rfl) (B7 hfr htc) (by omega) ?_ (λj hj=>?_),.mk 2 [] [] [xc9] xc10 xc11 (A4 L E s).pos,sc11,s8,rfl,qc11,λk=>?_,bc11⟩
     ·rw[V7];dsimp only
      repeat (first|exact A0|rw[hnO]|rw[D5 (by omega)])
     ·simp[Hp.upd,Hp.del,show ¬j=cc by omega,show ¬j=c1 by omega,show ¬j=c1+1 by omega,show ¬j=c9 by omega];try(split<;>rfl)
     ·have k3:=E6z hz8 k;have k2:=D8b hz7 k3;rw[uc11 k,uc10 k3,uc9 k2]
 by_cases k1:k=1
 ·rw[if_pos (.inr k1)]at h;cases hz12:L3 L E f (A6 s) with
  |none=>rw[hz12]at h;cases h
  |some qhz12 =>
   obtain⟨e,m2⟩:=qhz12;rw[hz12]at h;dsimp only at h;cases hz13:K5 L E f (d+1) m2 with
   |none=>rw[hz13]at h;cases h
   |some qhz13 =>
    obtain⟨tt,m3⟩:=qhz13;rw[hz13]at h;dsimp only at h;rw[if_neg (λh=>k0 h.1)]at h;cases h;have f2:(2+k==2)=false:=a8
    have f3:(2+k==3)=true:=a8
    have f4:(2+k==4)=false:=a8
    have f8:(2+k==8)=false:=a8
    have f10:(2+k==10)=false:=a8
    have f9:(2+k==9)=false:=a8
    have f18:(2+k==18)=false:=a8
    have f19:(2+k==19)=false:=a8
    refine wAs (wJ f2 (wJ f3 (wJ f4 (wJ f8 (wJ f10 (wJ f9 (wJ f18 (wJ f19 (wJ hwd (wJ ne0 (wJ @A0 @A1))))))))))) ?_;refine AC.call (c_pexpr L E hL hK f (A6 s) (A6 s) (e,m2) hqn hz12 hPn.i _ _ t (by repeat (first|exact A0|rw[hnO]|rw[D5 (by omega)])) (by omega)) ?_;rintro v H' c14 ⟨xc14,sc14,rfl,rfl,qc14,uc14,bc14⟩ hc14;dsimp only at qc14 uc14;have ne0:=S7 t cc c1 (c1+1) c14 (by omega);simp only[go_sem,seval,Ex.v_w,ne0,A0,A1];refine wAz hwd ne0 @A0 @A1 ?_;refine AC.call (ib (d+1) sc14 m2 (tt,m3) (by omega) (by omega) qc14 hz13 bc14 _ _ t (by repeat (first|exact A0|rw[hnO]|rw[D5 (by omega)])) (by omega)) ?_;rintro v H' c15 ⟨xc15,sc15,rfl,rfl,qc15,uc15,bc15⟩ hc15;dsimp only at qc15 uc15;refine wA0 hwd ne0 @A0 @A1 ?_;subst k1;rw[C9 (rv7 rfl A0)];refine⟨_,_,S0 (cc:=cc) (K:=H.upd t (paB L E sc15)) (i:=c14) [xc14] (.inl rfl) (.inr ⟨rfl,rfl⟩) (B7 hfr htc) (by omega) ?_ (λj hj=>?_),.mk 3 [] [] [xc14] xc15 [] (A4 L E s).pos,sc15,s8,rfl,qc15,λk=>?_,bc15⟩
    ·rw[V7];dsimp only
     repeat (first|exact A0|rw[hnO]|rw[D5 (by omega)])
    ·simp[Hp.upd,Hp.del,show ¬j=cc by omega,show ¬j=c1 by omega,show ¬j=c1+1 by omega,show ¬j=c14 by omega];try(split<;>rfl)
    ·have k2:=D8b hz13 k;rw[uc15 k,uc14 k2];rfl
 rw[if_neg (by omega)]at h;unfold P6 at h;by_cases k4:2+k=4
 ·rw[if_pos k4]at h;cases hz16:L3 L E f (A6 s) with
  |none=>rw[hz16]at h;cases h
  |some qhz16 =>
   obtain⟨e,m2⟩:=qhz16;rw[hz16]at h;dsimp only at h;cases h;have f2:(2+k==2)=false:=a8
   have f3:(2+k==3)=false:=a8
   have f4:(2+k==4)=true:=a8
   have f8:(2+k==8)=false:=a8
   have f10:(2+k==10)=false:=a8
   have f9:(2+k==9)=false:=a8
   have f18:(2+k==18)=false:=a8
   have f19:(2+k==19)=false:=a8
   refine wAv f2 f3 f4 f8 f10 f9 f18 f19 ne0 @A0 @A1 ?_;refine AC.call (c_pexpr L E hL hK f (A6 s) (A6 s) (e,m2) hqn hz16 hPn.i _ _ t (by repeat (first|exact A0|rw[hnO]|rw[D5 (by omega)])) (by omega)) ?_;rintro v H' c17 ⟨xc17,sc17,rfl,rfl,qc17,uc17,bc17⟩ hc17;dsimp only at qc17 uc17;have ne0:=S7 t cc c1 (c1+1) c17 (by omega);simp only[go_sem,seval,Ex.v_w,ne0,A0,A1];refine wAx ne0 @A0 @A1 ?_;refine AC.call (c_want L E sc17 _ _ t (by repeat (first|exact A0|rw[hnO]|rw[D5 (by omega)])) (by omega) (by have:=bc17.i;omega) 5 [59]) ?_;rintro v H' c18 ⟨rfl,rfl⟩ hc18;have qc18:=qc17.want (L:=L) (E:=E) (k:=5) (w:=[59]) (λs=>I4 hK (by decide +kernel));have bc18:=(bc17.want (E:=E) (k:=5) (w:=[59]) (by decide)).1;refine wAy ne0 @A0 @A1 ?_;rw[C9 (rv7 rfl A0)];refine⟨_,_,S0 (cc:=cc) (K:=H.upd t (paB L E (H8 L E sc17 5 [59]))) (i:=c17) [xc17] (.inr ⟨rfl,rfl⟩) (.inr ⟨rfl,rfl⟩) (B7 hfr htc) (by omega) ?_ (λj hj=>?_),.mk (2+k) [] [] [xc17] [] [] (A4 L E s).pos,(H8 L E sc17 5 [59]),s8,rfl,qc18,λk=>?_,bc18⟩
   ·rw[V7];dsimp only
    repeat (first|exact A0|rw[hnO]|rw[D5 (by omega)])
   ·simp[Hp.upd,Hp.del,show ¬j=cc by omega,show ¬j=c1 by omega,show ¬j=c1+1 by omega,show ¬j=c17 by omega];try(split<;>rfl)
   ·rw[uc17 (A8q k)]
 rw[if_neg k4]at h;by_cases k18:2+k=18
 ·rw[if_pos k18]at h;cases hz19:L3 L E f (D9 L E (A7 L E (A6 s) 4).2 [44]) with
  |none=>rw[hz19]at h;cases h
  |some qhz19 =>
   obtain⟨e,m2⟩:=qhz19;rw[hz19]at h;dsimp only at h;cases h;have f2:(2+k==2)=false:=a8
   have f3:(2+k==3)=false:=a8
   have f4:(2+k==4)=false:=a8
   have f8:(2+k==8)=false:=a8
   have f10:(2+k==10)=false:=a8
   have f9:(2+k==9)=false:=a8
   have f18:(2+k==18)=true:=a8
   have f19:(2+k==19)=false:=a8
   refine wAv f2 f3 f4 f8 f10 f9 f18 f19 ne0 @A0 @A1 ?_;refine AC.call (c_ptake L E (A6 s) _ _ t (by repeat (first|exact A0|rw[hnO]|rw[D5 (by omega)])) (by omega) (by have:=hPn.i;omega) 4) ?_;rintro v H' c20 ⟨rfl,rfl⟩ hc20;obtain⟨qc20,vc20⟩:=hqn.take (L:=L) (E:=E) (k:=4);have bc20:=(hPn.take (E:=E) (x:=4) (by decide)).1;refine wAy ne0 @A0 @A1 ?_;refine AC.call (c_want L E (A7 L E (A6 s) 4).2 _ _ t (by repeat (first|exact A0|rw[hnO]|rw[D5 (by omega)])) (by omega) (by have:=bc20.i;omega) 5 [44]) ?_;rintro v H' c21 ⟨rfl,rfl⟩ hc21;have qc21:=qc20.want (L:=L) (E:=E) (k:=5) (w:=[44]) (λs=>I4 hK (by decide +kernel));have bc21:=(bc20.want (E:=E) (k:=5) (w:=[44]) (by decide)).1;refine wAy ne0 @A0 @A1 ?_;refine AC.call (c_pexpr L E hL hK f (H8 L E (A7 L E (A6 s) 4).2 5 [44]) (D9 L E (A7 L E (A6 s) 4).2 [44]) (e,m2) qc21 hz19 bc21.i _ _ t (by repeat (first|exact A0|rw[hnO]|rw[D5 (by omega)])) (by omega)) ?_;rintro v H' c22 ⟨xc22,sc22,rfl,rfl,qc22,uc22,bc22⟩ hc22;dsimp only at qc22 uc22;have ne0:=S7 t cc c1 (c1+1) c22 (by omega);simp only[go_sem,seval,Ex.v_w,ne0,A0,A1];refine wAx ne0 @A0 @A1 ?_;refine AC.call (c_want L E sc22 _ _ t (by repeat (first|exact A0|rw[hnO]|rw[D5 (by omega)])) (by omega) (by have:=bc22.i;omega) 5 [59]) ?_;rintro v H' c23 ⟨rfl,rfl⟩ hc23;have qc23:=qc22.want (L:=L) (E:=E) (k:=5) (w:=[59]) (λs=>I4 hK (by decide +kernel));have bc23:=(bc22.want (E:=E) (k:=5) (w:=[59]) (by decide)).1;refine wAy ne0 @A0 @A1 ?_;rw[C9 (rv7 rfl A0)];refine⟨_,_,S0 (cc:=cc) (K:=H.upd t (paB L E (H8 L E sc22 5 [59]))) (i:=c22) [xc22] (.inr ⟨rfl,rfl⟩) (.inr ⟨rfl,rfl⟩) (B7 hfr htc) (by omega) ?_ (λj hj=>?_),.mk (2+k) [] (A7 L E (A6 s) 4).1.text [xc22] [] [] (A4 L E s).pos,(H8 L E sc22 5 [59]),s8,rfl,qc23,λk=>?_,bc23⟩
   ·rw[V7];dsimp only
    repeat (first|exact A0|rw[hnO]|rw[D5 (by omega)])
   ·simp[Hp.upd,Hp.del,show ¬j=cc by omega,show ¬j=c1 by omega,show ¬j=c1+1 by omega,show ¬j=c22 by omega];try(split<;>rfl)
   ·rw[uc22 (A8q k)]
 rw[if_neg k18]at h;by_cases k19:2+k=19
 ·rw[if_pos k19]at h;cases h;have f2:(2+k==2)=false:=by simp;omega
  have f3:(2+k==3)=false:=a8
  have f4:(2+k==4)=false:=a8
  have f8:(2+k==8)=false:=a8
  have f10:(2+k==10)=false:=a8
  have f9:(2+k==9)=false:=a8
  have f18:(2+k==18)=false:=a8
  have f19:(2+k==19)=true:=a8
  refine wAv f2 f3 f4 f8 f10 f9 f18 f19 ne0 @A0 @A1 ?_;refine AC.call (c_want L E (A6 s) _ _ t (by repeat (first|exact A0|rw[hnO]|rw[D5 (by omega)])) (by omega) (by have:=hPn.i;omega) 5 [59]) ?_;rintro v H' c24 ⟨rfl,rfl⟩ hc24;have qc24:=hqn.want (L:=L) (E:=E) (k:=5) (w:=[59]) (λs=>I4 hK (by decide +kernel));have bc24:=(hPn.want (E:=E) (k:=5) (w:=[59]) (by decide)).1;refine wAy ne0 @A0 @A1 ?_;rw[C9 (rv7 rfl A0)];refine⟨_,_,B8r (cc:=cc) (K:=H.upd t (paB L E (H8 L E (A6 s) 5 [59]))) (.inr ⟨rfl,rfl⟩) (.inr ⟨rfl,rfl⟩) (.inr ⟨rfl,rfl⟩) (B7 hfr htc) (λj hj=>?_),.mk (2+k) [] [] [] [] [] (A4 L E s).pos,(H8 L E (A6 s) 5 [59]),s8,rfl,qc24,λk=>?_,bc24⟩
  ·simp[Hp.upd,Hp.del,show ¬j=cc by omega,show ¬j=c1 by omega,show ¬j=c1+1 by omega];try(split<;>rfl)
  ·rfl
 rw[if_neg k19]at h;dsimp only at h;by_cases k8:2+k=8
 ·rw[if_pos (by omega)]at h;cases hz25:L3 L E f (A7 L E (A6 s) 1).2 with
  |none=>rw[hz25]at h;cases h
  |some qhz25 =>
   obtain⟨e,m2⟩:=qhz25;rw[hz25]at h;dsimp only at h;rw[if_neg (by omega)]at h;cases h;have f2:(2+k==2)=false:=a8
   have f3:(2+k==3)=false:=a8
   have f4:(2+k==4)=false:=a8
   have f8:(2+k==8)=true:=a8
   have f10:(2+k==10)=false:=a8
   have f9:(2+k==9)=false:=a8
   have f18:(2+k==18)=false:=a8
   have f19:(2+k==19)=false:=a8
   refine wAv f2 f3 f4 f8 f10 f9 f18 f19 ne0 @A0 @A1 ?_;refine AC.call (c_ptake L E (A6 s) _ _ t (by repeat (first|exact A0|rw[hnO]|rw[D5 (by omega)])) (by omega) (by have:=hPn.i;omega) 1) ?_;rintro v H' c26 ⟨rfl,rfl⟩ hc26;obtain⟨qc26,vc26⟩:=hqn.take (L:=L) (E:=E) (k:=1);have bc26:=(hPn.take (E:=E) (x:=1) (by decide)).1;refine wAy ne0 @A0 @A1 ?_;refine AC.call (c_pexpr L E hL hK f (A7 L E (A6 s) 1).2 (A7 L E (A6 s) 1).2 (e,m2) qc26 hz25 bc26.i _ _ t (by repeat (first|exact A0|rw[hnO]|rw[D5 (by omega)])) (by omega)) ?_;rintro v H' c27 ⟨xc27,sc27,rfl,rfl,qc27,uc27,bc27⟩ hc27;dsimp only at qc27 uc27;have ne0:=S7 t cc c1 (c1+1) c27 (by omega);simp only[go_sem,seval,Ex.v_w,ne0,A0,A1];refine wAx ne0 @A0 @A1 ?_;refine AC.call (c_want L E sc27 _ _ t (by repeat (first|exact A0|rw[hnO]|rw[D5 (by omega)])) (by omega) (by have:=bc27.i;omega) 5 [59]) ?_;rintro v H' c28 ⟨rfl,rfl⟩ hc28;have qc28:=qc27.want (L:=L) (E:=E) (k:=5) (w:=[59]) (λs=>I4 hK (by decide +kernel));have bc28:=(bc27.want (E:=E) (k:=5) (w:=[59]) (by decide)).1;refine wAy ne0 @A0 @A1 ?_;rw[C9 (rv7 rfl A0)];refine⟨_,_,S0 (cc:=cc) (K:=H.upd t (paB L E (H8 L E sc27 5 [59]))) (i:=c27) [xc27] (.inr ⟨rfl,rfl⟩) (.inr ⟨rfl,rfl⟩) (B7 hfr htc) (by omega) ?_ (λj hj=>?_),.mk (2+k) (A7 L E (A6 s) 1).1.text [] [xc27] [] [] (A4 L E s).pos,(H8 L E sc27 5 [59]),s8,rfl,qc28,λk=>?_,bc28⟩
   ·rw[V7];dsimp only
    repeat (first|exact A0|rw[hnO]|rw[D5 (by omega)])
   ·simp[Hp.upd,Hp.del,show ¬j=cc by omega,show ¬j=c1 by omega,show ¬j=c1+1 by omega,show ¬j=c27 by omega];try(split<;>rfl)
   ·rw[uc27 (A8q k)]
 by_cases k10:2+k=10
 ·rw[if_pos (by omega)]at h;cases hz29:L3 L E f (A7 L E (A6 s) 1).2 with
  |none=>rw[hz29]at h;cases h
  |some qhz29 =>
   obtain⟨e,m2⟩:=qhz29;rw[hz29]at h;dsimp only at h;rw[if_neg (by omega)]at h;cases h;have f2:(2+k==2)=false:=a8
   have f3:(2+k==3)=false:=a8
   have f4:(2+k==4)=false:=a8
   have f8:(2+k==8)=false:=a8
   have f10:(2+k==10)=true:=a8
   have f9:(2+k==9)=false:=a8
   have f18:(2+k==18)=false:=a8
   have f19:(2+k==19)=false:=a8
   refine wAv f2 f3 f4 f8 f10 f9 f18 f19 ne0 @A0 @A1 ?_;refine AC.call (c_ptake L E (A6 s) _ _ t (by repeat (first|exact A0|rw[hnO]|rw[D5 (by omega)])) (by omega) (by have:=hPn.i;omega) 1) ?_;rintro v H' c30 ⟨rfl,rfl⟩ hc30;obtain⟨qc30,vc30⟩:=hqn.take (L:=L) (E:=E) (k:=1);have bc30:=(hPn.take (E:=E) (x:=1) (by decide)).1;refine wAy ne0 @A0 @A1 ?_;refine AC.call (c_pexpr L E hL hK f (A7 L E (A6 s) 1).2 (A7 L E (A6 s) 1).2 (e,m2) qc30 hz29 bc30.i _ _ t (by repeat (first|exact A0|rw[hnO]|rw[D5 (by omega)])) (by omega)) ?_;rintro v H' c31 ⟨xc31,sc31,rfl,rfl,qc31,uc31,bc31⟩ hc31;dsimp only at qc31 uc31;have ne0:=S7 t cc c1 (c1+1) c31 (by omega);simp only[go_sem,seval,Ex.v_w,ne0,A0,A1];refine wAx ne0 @A0 @A1 ?_;refine AC.call (c_want L E sc31 _ _ t (by repeat (first|exact A0|rw[hnO]|rw[D5 (by omega)])) (by omega) (by have:=bc31.i;omega) 5 [59]) ?_;rintro v H' c32 ⟨rfl,rfl⟩ hc32;have qc32:=qc31.want (L:=L) (E:=E) (k:=5) (w:=[59]) (λs=>I4 hK (by decide +kernel));have bc32:=(bc31.want (E:=E) (k:=5) (w:=[59]) (by decide)).1;refine wAy ne0 @A0 @A1 ?_;rw[C9 (rv7 rfl A0)];refine⟨_,_,S0 (cc:=cc) (K:=H.upd t (paB L E (H8 L E sc31 5 [59]))) (i:=c31) [xc31] (.inr ⟨rfl,rfl⟩) (.inr ⟨rfl,rfl⟩) (B7 hfr htc) (by omega) ?_ (λj hj=>?_),.mk (2+k) (A7 L E (A6 s) 1).1.text [] [xc31] [] [] (A4 L E s).pos,(H8 L E sc31 5 [59]),s8,rfl,qc32,λk=>?_,bc32⟩
   ·rw[V7];dsimp only
    repeat (first|exact A0|rw[hnO]|rw[D5 (by omega)])
   ·simp[Hp.upd,Hp.del,show ¬j=cc by omega,show ¬j=c1 by omega,show ¬j=c1+1 by omega,show ¬j=c31 by omega];try(split<;>rfl)
   ·rw[uc31 (A8q k)]
 by_cases k9:2+k=9
 ·rw[if_pos (by omega)]at h;cases hz33:L3 L E f (A7 L E (A6 s) 1).2 with
  |none=>rw[hz33]at h;cases h
  |some qhz33 =>
   obtain⟨e,m2⟩:=qhz33;rw[hz33]at h;dsimp only at h;rw[if_pos k9]at h;cases hz34:L3 L E f (D9 L E m2 [44]) with
   |none=>rw[hz34]at h;cases h
   |some qhz34 =>
    obtain⟨e2,m3⟩:=qhz34;rw[hz34]at h;dsimp only at h;cases h;have f2:(2+k==2)=false:=a8
    have f3:(2+k==3)=false:=a8
    have f4:(2+k==4)=false:=a8
    have f8:(2+k==8)=false:=a8
    have f10:(2+k==10)=false:=a8
    have f9:(2+k==9)=true:=a8
    have f18:(2+k==18)=false:=a8
    have f19:(2+k==19)=false:=a8
    refine wAv f2 f3 f4 f8 f10 f9 f18 f19 ne0 @A0 @A1 ?_;refine AC.call (c_ptake L E (A6 s) _ _ t (by repeat (first|exact A0|rw[hnO]|rw[D5 (by omega)])) (by omega) (by have:=hPn.i;omega) 1) ?_;rintro v H' c35 ⟨rfl,rfl⟩ hc35;obtain⟨qc35,vc35⟩:=hqn.take (L:=L) (E:=E) (k:=1);have bc35:=(hPn.take (E:=E) (x:=1) (by decide)).1;refine wAy ne0 @A0 @A1 ?_;refine AC.call (c_pexpr L E hL hK f (A7 L E (A6 s) 1).2 (A7 L E (A6 s) 1).2 (e,m2) qc35 hz33 bc35.i _ _ t (by repeat (first|exact A0|rw[hnO]|rw[D5 (by omega)])) (by omega)) ?_;rintro v H' c36 ⟨xc36,sc36,rfl,rfl,qc36,uc36,bc36⟩ hc36;dsimp only at qc36 uc36;have ne0:=S7 t cc c1 (c1+1) c36 (by omega);simp only[go_sem,seval,Ex.v_w,ne0,A0,A1];refine wAx ne0 @A0 @A1 ?_;refine AC.call (c_want L E sc36 _ _ t (by repeat (first|exact A0|rw[hnO]|rw[D5 (by omega)])) (by omega) (by have:=bc36.i;omega) 5 [44]) ?_;rintro v H' c37 ⟨rfl,rfl⟩ hc37;have qc37:=qc36.want (L:=L) (E:=E) (k:=5) (w:=[44]) (λs=>I4 hK (by decide +kernel));have bc37:=(bc36.want (E:=E) (k:=5) (w:=[44]) (by decide)).1;refine wAy ne0 @A0 @A1 ?_;refine AC.call (c_pexpr L E hL hK f (H8 L E sc36 5 [44]) (D9 L E m2 [44]) (e2,m3) qc37 hz34 bc37.i _ _ t (by repeat (first|exact A0|rw[hnO]|rw[D5 (by omega)])) (by omega)) ?_;rintro v H' c38 ⟨xc38,sc38,rfl,rfl,qc38,uc38,bc38⟩ hc38;dsimp only at qc38 uc38;have ne0:=A7n t cc c1 (c1+1) c36 (c37+4) (by omega);simp only[go_sem,seval,Ex.v_w,ne0,A0,A1];refine wAx ne0 @A0 @A1 ?_;refine⟨?_,?_⟩
    ·and_intros
     all_goals((repeat rw[hnO]);exact hfr _ (by omega))
    have ne0:=E4v t cc c1 (c1+1) c36 (c37+4) c38 (by omega);try simp only[go_sem,seval,delO,D5,W9,ne0,A0,A1]
    (repeat'((with_reducible first|apply wr|refine B0 ?_ ?_|apply wb2<;>(intro hb;try simp only[hb]))<;>try simp only[go_sem,seval,delO,D5,W9,ne0,A0,A1]));refine S8 (A1n (by rfl) (by omega) (by omega)) ?_;try simp only[go_sem,seval,D5,W9,ne0,A0,A1]
    refine wA2 @D5 @W9 ne0 @A0 @A1 ?_;refine AC.call (c_want L E sc38 _ _ t (by repeat (first|exact A0|rw[hnO]|rw[D5 (by omega)])) (by omega) (by have:=bc38.i;omega) 5 [59]) ?_;rintro v H' c39 ⟨rfl,rfl⟩ hc39;have qc39:=qc38.want (L:=L) (E:=E) (k:=5) (w:=[59]) (λs=>I4 hK (by decide +kernel));have bc39:=(bc38.want (E:=E) (k:=5) (w:=[59]) (by decide)).1;refine wAy ne0 @A0 @A1 ?_;rw[C9 (rv7 rfl A0)];refine⟨_,_,S0 (cc:=cc) (K:=H.upd t (paB L E (H8 L E sc38 5 [59]))) (i:=c38) [xc36,xc38] (.inr ⟨rfl,rfl⟩) (.inr ⟨rfl,rfl⟩) (B7 hfr htc) (by omega) ?_ (λj hj=>?_),.mk (2+k) (A7 L E (A6 s) 1).1.text [] [xc36,xc38] [] [] (A4 L E s).pos,(H8 L E sc38 5 [59]),s8,rfl,qc39,λk=>?_,bc39⟩
    ·rw[B4b];dsimp only
     repeat (first|exact A0|rw[hnO]|rw[D5 (by omega)])
    ·simp[Hp.upd,Hp.del,show ¬j=cc by omega,show ¬j=c1 by omega,show ¬j=c1+1 by omega,show ¬j=c36 by omega,show ¬j=c37+4 by omega,show ¬j=c38 by omega];try(split<;>rfl)
    ·have k2:=A8q k;have k3:=A8q (E2h hz34 k2);rw[uc38 k2,uc36 k3]
 rw[if_neg (by omega)]at h;cases h;have f2:(2+k==2)=false:=a8
 have f3:(2+k==3)=false:=a8
 have f4:(2+k==4)=false:=a8
 have f8:(2+k==8)=false:=a8
 have f10:(2+k==10)=false:=a8
 have f9:(2+k==9)=false:=a8
 have f18:(2+k==18)=false:=a8
 have f19:(2+k==19)=false:=a8
 refine wAv f2 f3 f4 f8 f10 f9 f18 f19 ne0 @A0 @A1 ?_;refine AC.call (c_ptake L E (A6 s) _ _ t (by repeat (first|exact A0|rw[hnO]|rw[D5 (by omega)])) (by omega) (by have:=hPn.i;omega) 1) ?_;rintro v H' c40 ⟨rfl,rfl⟩ hc40;obtain⟨qc40,vc40⟩:=hqn.take (L:=L) (E:=E) (k:=1);have bc40:=(hPn.take (E:=E) (x:=1) (by decide)).1;refine wAy ne0 @A0 @A1 ?_;refine AC.call (c_want L E (A7 L E (A6 s) 1).2 _ _ t (by repeat (first|exact A0|rw[hnO]|rw[D5 (by omega)])) (by omega) (by have:=bc40.i;omega) 5 [59]) ?_;rintro v H' c41 ⟨rfl,rfl⟩ hc41;have qc41:=qc40.want (L:=L) (E:=E) (k:=5) (w:=[59]) (λs=>I4 hK (by decide +kernel));have bc41:=(bc40.want (E:=E) (k:=5) (w:=[59]) (by decide)).1;refine wAy ne0 @A0 @A1 ?_;rw[C9 (rv7 rfl A0)];refine⟨_,_,B8r (cc:=cc) (K:=H.upd t (paB L E (H8 L E (A7 L E (A6 s) 1).2 5 [59]))) (.inr ⟨rfl,rfl⟩) (.inr ⟨rfl,rfl⟩) (.inr ⟨rfl,rfl⟩) (B7 hfr htc) (λj hj=>?_),.mk (2+k) (A7 L E (A6 s) 1).1.text [] [] [] [] (A4 L E s).pos,(H8 L E (A7 L E (A6 s) 1).2 5 [59]),s8,rfl,qc41,λk=>?_,bc41⟩
 ·simp[Hp.upd,Hp.del,show ¬j=cc by omega,show ¬j=c1 by omega,show ¬j=c1+1 by omega];try(split<;>rfl)
 ·rfl
theorem c_pother(L:List Tok)(E:Int)(hL:L.length<=1000000000)(hK:∀t∈L,K8 t)(f:Nat)
  (ib:∀g,g<f->∀d s m r,0<=d->d<=9->Eqv s m->K5 L E g d m=some r->PI L s->PlC L E 146 [I64 d] s r)
  (is:∀g,g<f->∀d s r,0<=d->d<=8->B2j L E s=true->O8 L E g d s=some r->PI L s->PsC L E 182 [I64 d] s r)
  (d:Int) (s m:Rd) (r:List Pb.St × Rd) (hd0:0<=d) (hd:d<=8) (hq:Eqv s m) (h:B9h L E f d m=some r) (hP:PI L s):PlC L E 209 [I64 (d+1)] s r:=by
 intro H cc t ht htc;have hri:=hP.i;refine AC.bodyT A2 rfl (A0C rfl) λhfr=>?_;have hio:=c_pisO L E s H (cc+1) t cc (hfr _ (A0D _)) ht (by omega) 2 [[101,108,115,101]] (by simp);unfold B9h at h;rw[X9 hK (by decide +kernel), <- hq.isP]at h;refine wAp ?_;refine AC.call hio ?_;rintro v H c1 ⟨rfl,rfl⟩ hc1;cases he:isP L E s 2 [[101,108,115,101]] with
 |false =>
  rw[he,if_neg (by decide)]at h;cases h;refine wAu he ?_;exact⟨_,_,GL.view fun ρ vs hA=>M6 (λv h=>h.snil_lst) vs hA,[],s,rfl,(upd_same ht).symm,hq,λ_=>rfl,hP⟩
 |true =>
  obtain⟨ho,hlt, -⟩:=U2 (by decide) he;obtain rfl:s=m:=hq.s (by rw[<- hq.ok,ho]);rw[he,if_pos rfl]at h;have hP1:=hP.nxt hlt;have hw1:IntKind.i64.wrap ((s.i:Int)+1)=((s.i+1:Nat):Int):=i7
  have hio2:=c_pisO L E (A6 s) (H.upd t (paB L E (A6 s))) (c1+1) t c1 (by rw[hnO];exact hfr _ (by omega)) A0 (by omega) 2 [[105,102]] (by simp);cases f with
  |zero=>simp[T8]at h
  |succ f =>
  unfold T8 at h;rw[X9 hK (by decide +kernel)]at h;refine wA3 he ht hw1 @A0 @A1 ?_;refine AC.call hio2 ?_;rintro v H' c2 ⟨rfl,rfl⟩ hc2;cases hf:isP L E (A6 s) 2 [[105,102]] with
  |false =>
   rw[hf,if_neg (by decide)]at h;refine wAu hf ?_;refine AC.call (ib f (by omega) (d+1) _ _ r (by omega) (by omega) (.refl _) h hP1 _ _ t A0 (by omega)) ?_;rintro v H' c3 ⟨x,s3,rfl,rfl,q1,q2,q3⟩ hc3;refine wAu @A1 ?_;exact⟨_,_,GL.refl _ _,x,s3,rfl,rfl,q1,q2,q3⟩
  |true =>
   rw[hf,if_pos rfl]at h;cases hs:O8 L E f (d+1) (A6 s) with
   |none=>rw[hs]at h;cases h
   |some q =>
   obtain⟨x0,m3⟩:=q;rw[hs]at h;cases h;by_cases h8:d+1>8
   ·have hd8:decide (d+1>8)=true:=by simpa using h8
    have hm3:okR m3=false/\Eqv (pfl L E (A6 s) 50) m3:=by
     cases f with
     |zero=>simp[O8]at hs
     |succ f =>
      unfold O8 at hs;dsimp only at hs;have hl:D3 L E (A6 s) (d+1) 8 50=pfl L E (A6 s) 50:=by rw[Z7,if_pos h8]
      have hnk:okR (pfl L E (A6 s) 50)=false:=p7
      rw[hl,if_pos hnk]at hs;cases hs;exact⟨hnk,.refl _⟩
    refine wAu (wJ hf hd8) ?_;refine AC.call (c_pfail L E (A6 s) _ _ t A0 (by omega) 50) ?_;rintro v H' c3 ⟨rfl,rfl⟩ hc3;refine wAu @A1 ?_;exact⟨_,_,GL.view fun ρ vs hA=>M6 (λv h=>h.snil_lst) vs hA,[],_,rfl,rfl,hm3.2,λk=>(by simp[hm3.1]at k),hP1.fl⟩
   ·have hd8:decide (d+1>8)=false:=by simpa using h8
    have hbg:B2j L E (A6 s)=true:=by
     obtain⟨g1,g2,g3⟩:=U2 (by decide) hf;unfold B2j;rw[g1,g3,C1p hf];decide +kernel
    refine wAu (wJ hf hd8) ?_;refine AC.call (is f (by omega) (d+1) (A6 s) _ (by omega) (by omega) hbg hs hP1 _ _ t A0 (by omega)) ?_;rintro v H' c3 ⟨x,s3,rfl,rfl,q1,q2,q3⟩ hc3;simp only[go_sem,seval,A1,Pb.St.v_w];refine wAs @A1 ?_;refine⟨_,_,C1s (cc:=cc) (K:=H.upd t (paB L E s3)) [x] (B7 hfr htc) (by omega) (by rw[B6y];exact A0) (λj hj=>by rw[hnO]),[x],s3,rfl,rfl,q1,λk=>(by rw[q2 k]),q3⟩
theorem c_pblock(L:List Tok)(E:Int)(hL:L.length<=1000000000)(hK:∀t∈L,K8 t)(f:Nat)
  (is:∀g,g<=f->∀d s r,0<=d->d<=8->B2j L E s=true->O8 L E g d s=some r->PI L s->PsC L E 182 [I64 d] s r)
  (d:Int) (s m:Rd) (r:List Pb.St × Rd) (hd0:0<=d) (hd:d<=9) (hq:Eqv s m) (h:K5 L E (f+1) d m=some r) (hP:PI L s):PlC L E 146 [I64 d] s r:=by
 intro H cc t ht htc;have hri:=hP.i;refine AC.bodyT A2 rfl (A0C rfl) λhfr=>?_;unfold K5 at h;refine wAp ?_;refine AC.call (c_want L E s _ _ t ht (by omega) (by omega) 5 [123]) ?_;rintro v H' c1 ⟨rfl,rfl⟩ hc1;have q0:=hq.want (L:=L) (E:=E) (k:=5) (w:=[123]) (λs=>I4 hK (by decide +kernel));have b0:=(hP.want (E:=E) (k:=5) (w:=[123]) (by decide)).1;refine wAq ?_;refine B6 (λq:Nat × List Pb.St × Rd × Option Nat × List Pb.St × Rd=>[(0,.ptr t 0),(1,I64 d),(5,todoV q.2.2.2.1 q.2.2.2.2.1.length)]) (λq=>optH (H.upd t (paB L E q.2.2.2.2.2)) q.2.2.2.1 ⟨7,true,cellsL (q.2.2.2.2.1.map Pb.St.v)⟩)
  (λq c=>cc<=c/\q.1<=f/\(q.2.2.2.1=none->q.2.2.2.2.1=[])/\(∀i,q.2.2.2.1=some i->cc<=i/\i<c)/\q.2.2.2.2.1.length<=64/\R4 L E q.1 d q.2.1 q.2.2.1=some r/\Eqv q.2.2.2.2.2 q.2.2.1/\(okR q.2.2.1=true->q.2.2.2.2.1=q.2.1)/\PI L q.2.2.2.2.2) (λq=>q.1) (f,[],D9 L E m [123],none,[],H8 L E s 5 [123])
  (by simp[B5,tm,Tm.upd,todoV]) (Sub.refl _) ⟨hc1,A0D _,λ_=>rfl,(λi hi=>by cases hi),by simp,h,q0,λ_=>rfl,b0⟩ ?_
 clear h q0 b0 hri;rintro⟨g,l,m,o,xs,u⟩ c ⟨hc,hg,hno,ho,hl1,hv,hq,hxs,hP⟩;dsimp only at hc hg hno ho hl1 hv hq hxs hP ⊢;have hri:=hP.i;have hHt:optH (H.upd t (paB L E u)) o ⟨7,true,cellsL (xs.map Pb.St.v)⟩ t=some (paB L E u):=j7
 have hfin:∀(z:Rd) (j:Nat),j<cc->((optH (H.upd t (paB L E u)) o ⟨7,true,cellsL (xs.map Pb.St.v)⟩).upd t (paB L E z)) j=(H.upd t (paB L E z)) j:=λz j hj=>by
  by_cases ej:j=t
  ·subst ej;rw[A0,A0]
  ·rw[h_ne ej,h_ne ej,A8 (λi hi=>by have:=ho i hi;omega),h_ne ej]
 have hbo:∀(z:Rd) (i:Nat),o=some i->((optH (H.upd t (paB L E u)) o ⟨7,true,cellsL (xs.map Pb.St.v)⟩).upd t (paB L E z)) i=some ⟨7,true,cellsL (xs.map Pb.St.v)⟩:=λz i hi=>by
  have:=ho i hi;rw[hnO];subst hi;exact A0
 have hsub:∀z,Sub (optH (H.upd t (paB L E z)) o ⟨7,true,cellsL (xs.map Pb.St.v)⟩) ((optH (H.upd t (paB L E u)) o ⟨7,true,cellsL (xs.map Pb.St.v)⟩).upd t (paB L E z)):=λz j b hj=>by
  by_cases e:j=t
  ·subst e;rw[A8 (λi hi=>by have:=ho i hi;omega),A0]at hj;rw[A0];exact hj
  ·rw[h_ne e];cases o with
   |none=>simp only[optH]at hj ⊢;rw[h_ne e]at hj ⊢;exact hj
   |some i =>
    simp only[optH]at hj ⊢;by_cases e2:j=i
    ·subst e2;rw[A0]at hj ⊢;exact hj
    ·rw[h_ne e2,h_ne e]at hj ⊢;exact hj
 cases g with
 |zero=>simp[R4]at hv
 |succ g =>
 unfold R4 at hv;refine wAp ?_;refine AC.call (c_begins L E u _ _ t hHt (by omega)) ?_;rintro v H' c2 ⟨rfl,rfl⟩ hc2;have hba:=C5i (E:=E) hK (s:=u);cases hb:B2j L E u with
 |false =>
  have hres:Eqv (H8 L E u 5 [125]) r.2/\(okR r.2=true->xs=r.1):=by
   by_cases h1:okR m=true/\isR L E m [125]=false
   ·rw[if_pos h1]at hv;obtain rfl:=hq.s h1.1;have hn:¬(0<=B8 L E u C5\/I9 L E u 1=true):=λhh=>by
     have:=hba.2 ⟨h1.1,hh⟩;rw[hb]at this;cases this
    rw[if_pos ⟨b8,by cases hk:I9 L E u 1 with|false=>rfl|true=>exact absurd (.inr hk) hn⟩]at hv;cases hv;have hw:H8 L E u 5 [125]=R6 L E u:=by
     rw[H8, <- I4 hK (by decide +kernel),if_pos h1.2];rfl
    rw[hw];exact⟨.refl _,λk=>(by rw[Z0]at k;cases k)⟩
   ·rw[if_neg h1]at hv;cases hv;exact⟨hq.want (λs=>I4 hK (by decide +kernel)),λk=>hxs (A8q k)⟩
  have b1:=(hP.want (E:=E) (k:=5) (w:=[125]) (by decide)).1;refine wAu hb ?_;refine AC.call (c_want L E u _ _ t hHt (by omega) (by omega) 5 [125]) ?_;rintro v H' c3 ⟨rfl,rfl⟩ hc3;refine wAq ?_;exact⟨_,_,B1n (cc:=cc) xs (B7 hfr htc) (λi hi=>(ho i hi).1) hno (hbo _) (hfin _),xs,_,rfl,rfl,hres.1,hres.2,b1⟩
 |true =>
  obtain⟨hok,hbk⟩:=hba.1 hb;obtain rfl:u=m:=hq.s (by rw[<- hq.ok,hok]);obtain rfl:xs=l:=hxs hok;have hnb:isR L E u [125]=false:=by
   rw[I4 hK (by decide +kernel)];have hk5:((A4 L E u).kind==5)=false:=by
    rcases hbk with hk|hk
    ·have:=((C0f (E:=E) hK hok).1 hk).1;simp[this]
    ·have:=(J7 hk).2;simp[this]
   unfold isP;rw[hok,hk5];rfl
  rw[if_pos ⟨hok,hnb⟩,if_neg (λhh=>by
   rcases hbk with hk|hk
   ·omega
   ·rw[hh.2]at hk;cases hk)]at hv
  have hlen:A3i (todoV o xs.length)=some (I64 xs.length):=by
   cases o with
   |none=>rw[hno rfl];rfl
   |some b=>rfl
  cases hs:O8 L E g d (D3 L E u ((xs.length:Int)+1) 64 9) with
  |none=>rw[hs]at hv;cases hv
  |some q =>
  obtain⟨x0,m1⟩:=q;rw[hs]at hv;dsimp only at hv;by_cases h64:xs.length=64
  ·have hd64:((xs.length:Int)==64)=true:=by simp;omega
   have hl:D3 L E u ((xs.length:Int)+1) 64 9=pfl L E u 9:=u5
   have hnk:okR (pfl L E u 9)=false:=p7
   rw[hl]at hs;cases D4i hs hnk;refine wAy hb hlen hd64 ?_;refine AC.call (c_pfail L E u _ _ t hHt (by omega) 9) ?_;rintro v H' c3 ⟨rfl,rfl⟩ hc3;refine wAq ?_;refine⟨(g,xs++[St0],pfl L E u 9,o,xs,pfl L E u 9),b9,?_,inv ⟨b8,g9,hno,(λi hi=>⟨(ho i hi).1,by have:=(ho i hi).2;omega⟩),hl1,hv,.refl _,λk=>(by rw[hnk]at k;cases k),hP.fl⟩,by simp only;omega⟩;exact hsub _
  have hd64:((xs.length:Int)==64)=false:=a8
  rw[A1k (by omega)]at hs;by_cases h8:d>8
  ·have hd8:decide (d>8)=true:=by simpa using h8
   have hnk:okR (pfl L E u 50)=false:=p7
   have hm1:m1=pfl L E u 50:=by
    cases g with
    |zero=>simp[O8]at hs
    |succ g =>
     unfold O8 at hs;dsimp only at hs;have hl:D3 L E u d 8 50=pfl L E u 50:=by rw[Z7,if_pos h8]
     rw[hl,if_pos hnk]at hs;cases hs;rfl
   subst hm1;refine wA0 hb hlen hd64 hd8 ?_;refine AC.call (c_pfail L E u _ _ t hHt (by omega) 50) ?_;rintro v H' c3 ⟨rfl,rfl⟩ hc3;refine wAq ?_;refine⟨(g,xs++[x0],pfl L E u 50,o,xs,pfl L E u 50),b9,?_,inv ⟨b8,g9,hno,(λi hi=>⟨(ho i hi).1,by have:=(ho i hi).2;omega⟩),hl1,hv,.refl _,λk=>(by rw[hnk]at k;cases k),hP.fl⟩,by simp only;omega⟩;exact hsub _
  have hd8:decide (d>8)=false:=by simpa using h8
  refine wA0 hb hlen hd64 hd8 ?_;refine AC.call (is g (by omega) d u _ hd0 (by omega) hb hs hP _ _ t hHt (by omega)) ?_;rintro v H' c3 ⟨x,s3,rfl,rfl,q1,q2,q3⟩ hc3;dsimp only at q1 q2;have ne0:=M7 t c3 (c3+1) (by omega);simp only[go_sem,seval,ne0,A1,Pb.St.v_w];refine wAs ne0 ?_;refine G7 (D4 (cs:=cellsL (xs.map Pb.St.v)) (λe=>by rw[hno e];exact⟨rfl,rfl⟩) (λi hi=>?_) (by rw[C7 (u:=7) (A5v _)];simp) (by omega) (by omega) (by omega)) ?_
  ·have:=ho i hi;rw[hnO];exact hbo _ i hi
  refine wAu ne0 ?_;refine⟨(g,xs++[x0],m1,some (c3+1),xs++[x],s3),o7,?_,inv ⟨b8,g9,(λh=>by cases h),(λi hi=>by cases hi;omega),o8,hv,q1,λk=>(by simp only[q2 k]),q3⟩,by simp only;omega⟩;intro jj b hj;simp only[optH]at hj;by_cases e1:jj=c3+1
  ·subst e1;rw[A0]at hj ⊢;rw[<- hj,A0P,C8,B6y]
  ·rw[h_ne e1]at hj ⊢;by_cases e2:jj=t
   ·subst e2;rw[A0]at hj;rw[A9 (λi hi=>by have:=ho i hi;omega),hnO,A0];exact hj
   ·rw[h_ne e2]at hj;have hjc:jj<cc:=Classical.byContradiction λh=>by rw[hfr jj (by omega)]at hj;cases hj
    rw[A9 (λi hi=>by have:=ho i hi;omega),hnO,h_ne e2,A8 (λi hi=>by have:=ho i hi;omega),h_ne e2];exact hj
theorem c_pst(L:List Tok)(E:Int)(hL:L.length<=1000000000)(hK:∀t∈L,K8 t):∀f:Nat,
  (∀d s m r,0<=d->d<=9->Eqv s m->K5 L E f d m=some r->PI L s->PlC L E 146 [I64 d] s r) /\
  (∀d s r,0<=d->d<=8->B2j L E s=true->O8 L E f d s=some r->PI L s->PsC L E 182 [I64 d] s r):=by
 intro f
 induction f using Nat.strongRecOn with
 |_ f ih =>
  cases f with
  |zero=>exact⟨λd s m r _ _ _ h=>by simp[K5]at h,λd s r _ _ _ h=>by simp[O8]at h⟩
  |succ f =>
   exact⟨λd s m r h1 h2 hq h hP=>c_pblock L E hL hK f (λg hg=>(ih g (by omega)).2) d s m r h1 h2 hq h hP,
    λd s r h1 h2 hb h hP=>c_pstmt L E hL hK f (ih f (by omega)).1 (λd s m r h1 h2 hq h hP=>c_pother L E hL hK f (λg hg=>(ih g (by omega)).1) (λg hg=>(ih g (by omega)).2) d s m r h1 h2 hq h hP) d s r h1 h2 hb h hP⟩
theorem C7w{L:List Tok}{E:Int}{s:Rd}{k:Int}{w:List UInt8}(h:isR L E s w=isP L E s k [w]):H8 L E s k w=D9 L E s w:=by unfold H8 D9;rw[h];rfl
theorem A2c{L:List Tok}{E:Int}(hK:∀t∈L,K8 t){s:Rd}{w:List UInt8}(h:G9 w=false):H8 L E s 5 w=D9 L E s w:=C7w (I4 hK h)
theorem c_pdecl(L:List Tok)(E:Int)(s:Rd)(H:Hp)(cc t:Nat)(ht:H t=some (paB L E s))(htc:t<cc)(hL:L.length<=1000000000)(hv:∀x∈L,0<=x.value/\x.value<=9223372036854775807)(hK:∀t∈L,K8 t)(hd:isP L E s 2 D7=true):
  AC Tryz.prog 45 [.ptr t 0] H cc (λv H' c'=>v=(R0 L E (B8 L E s D7) s).1.v/\H'=H.upd t (paB L E (R0 L E (B8 L E s D7) s).2)):=by
 obtain⟨hok,hi,hk2⟩:=U2 (by decide) hd;have hkd:B8 L E s D7=L7 (A4 L E s).text 0 D7:=A1f (A5c hK s (by decide +kernel)) (by rw[hok,hk2];rfl) 0;have hk0:0<=B8 L E s D7:=by
  have:=A9s (A5c (E:=E) hK s (l:=D7) (by decide +kernel));rw[hd]at this;exact of_decide_eq_true this.symm
 have hk8:B8 L E s D7<8:=(A2r L E s D7 0).2;have htk:A7 L E s 2=(A4 L E s,A6 s):=by
  have hkk:I9 L E s 2=true:=by unfold I9;rw[hok,hk2];rfl
  unfold A7;rw[hkk,if_neg (by decide)]
 have hix:=c_Idx (A4 L E s).text D7 (by decide);rw[<- hkd]at hix;generalize B8 L E s D7=k at *;have hwk:IntKind.i64.wrap (1+k)=1+k:=w6z;have hn:(A6 s).i<=L.length:=hi;have hti:=M0 (E:=E) (x:=1) (by decide) hn;refine AC.bodyT A2 rfl (A0C rfl) λhfr=>?_;refine wAp ?_;refine AC.call (c_ptake L E s _ _ t (by rw[hnO];exact ht) (by omega) (by omega) 2) ?_;rintro v H' c1 ⟨rfl,rfl⟩ hc1;rw[htk];have ne0:=V3 t cc c1 (c1+1+8) (by omega);refine wBj c_pdecls hix (wJ hwk (wJ ne0 (wJ @A0 @A1))) ?_;refine⟨by and_intros<;>((repeat rw[hnO]);exact hfr _ (by omega)),?_⟩;refine wBi c_pdecls hix (wJ hwk (wJ ne0 (wJ @A0 @A1))) ?_;refine⟨by and_intros<;>((repeat rw[hnO]);exact hfr _ (by omega)),?_⟩;refine wBi c_pdecls hix (wJ hwk (wJ ne0 (wJ @A0 @A1))) ?_;refine AC.call (c_ptake L E (A6 s) _ _ t (by repeat (first|exact A0|rw[hnO])) (by omega) (by omega) 1) ?_;rintro v H' c2 ⟨rfl,rfl⟩ hc2;have hval:∀z,0<=(A7 L E z 3).1.value/\(A7 L E z 3).1.value<=9223372036854775807:=λz=>by
  unfold A7;split
  ·exact⟨A2W 0,(by decide:(0:Int)<=9223372036854775807)⟩
  ·show 0<=(A4 L E z).value/\(A4 L E z).value<=9223372036854775807;unfold A4;rw[A1E];cases hg:L[z.i]? with
   |none=>exact⟨A2W 0,(by decide:(0:Int)<=9223372036854775807)⟩
   |some x=>exact hv x (A0S hg)
 obtain⟨D,hD⟩:∃D,D=R0 L E k s:=⟨_,rfl⟩;rw[<- hD];unfold R0 at hD;dsimp only at hD;generalize (A4 L E s).pos=p at hD ⊢;generalize (A7 L E (A6 s) 1).2=s2 at hD hti ⊢;by_cases h6:k+1<=6
 ·rw[if_pos h6]at hD;have f7:(1+k==7)=false:=by simp;omega
  have f8:(1+k==8)=false:=a8
  have hw2:IntKind.i64.wrap ((s2.i:Int)+1)=((s2.i+1:Nat):Int):=i7
  by_cases h5:k=5
  ·have f6:(1+k==6)=true:=by simp;omega
   have hm:(k+1==6)=true:=a8
   rw[hm,A2A]at hD;have hm2:isR L E s2 [45]=isP L E s2 5 [[45]]:=I4 hK (by decide +kernel);rw[hm2]at hD;refine wA6 f6 f7 f8 ne0 @A0 @A1 ?_;refine AC.call (c_pisO L E s2 _ _ t c2 (by(repeat rw[hnO]);exact hfr _ (by omega)) (by repeat (first|exact A0|rw[hnO])) (by omega) 5 [[45]] (by simp)) ?_;rintro v H' c3 ⟨rfl,rfl⟩ hc3;cases hq:isP L E s2 5 [[45]] with
   |true =>
    rw[hq,if_pos rfl,if_pos rfl]at hD;have hn2:(A6 s2).i<=L.length:=(U2 (by decide) hq).2.1;have hv2:=hval (A6 s2);have hneg:IntKind.i64.wrap (0-(A7 L E (A6 s2) 3).1.value) = -(A7 L E (A6 s2) 3).1.value:=i7
    simp only[go_sem,seval,hq,hw2,ne0,A0,A1];refine wAz hw2 ne0 @A0 @A1 ?_;have h4i:=M0 (E:=E) (x:=3) (by decide) hn2;subst hD;refine AC.call (c_ptake L E (A6 s2) _ _ t (by repeat (first|exact A0|rw[hnO])) (by omega) (by omega) 3) ?_;rintro v H' c4 ⟨rfl,rfl⟩ hc4;try dsimp only
    refine wA0 hneg ne0 @A0 @A1 ?_;refine AC.call (c_want L E (A7 L E (A6 s2) 3).2 _ _ t (by repeat (first|exact A0|rw[hnO])) (by omega) (by omega) 5 [59]) ?_;rintro v H' c9 ⟨rfl,rfl⟩ hc9;rw[A2c hK (by decide +kernel)];refine wAy ne0 @A0 @A1 ?_;rw[C9 (rv4 rfl A0)];refine⟨_,_,K1 (cc:=cc) (B7 hfr htc) (λj hj=>?_),rfl,rfl⟩;simp[Hp.upd,show ¬j=cc by omega,show ¬j=c1 by omega,show ¬j=c1+1+8 by omega];try(split<;>rfl)
   |false =>
    rw[hq,if_neg (by decide),if_neg (by decide)]at hD;simp only[go_sem,seval,hq,ne0,A0,A1];refine wAx ne0 @A0 @A1 ?_;have h4i:=M0 (E:=E) (x:=3) (by decide) hti;subst hD;refine AC.call (c_ptake L E s2 _ _ t (by repeat (first|exact A0|rw[hnO])) (by omega) (by omega) 3) ?_;rintro v H' c4 ⟨rfl,rfl⟩ hc4;try dsimp only
    refine wAy ne0 @A0 @A1 ?_;refine AC.call (c_want L E (A7 L E s2 3).2 _ _ t (by repeat (first|exact A0|rw[hnO])) (by omega) (by omega) 5 [59]) ?_;rintro v H' c9 ⟨rfl,rfl⟩ hc9;rw[A2c hK (by decide +kernel)];refine wAy ne0 @A0 @A1 ?_;rw[C9 (rv4 rfl A0)];refine⟨_,_,K1 (cc:=cc) (B7 hfr htc) (λj hj=>?_),rfl,rfl⟩;simp[Hp.upd,show ¬j=cc by omega,show ¬j=c1 by omega,show ¬j=c1+1+8 by omega];try(split<;>rfl)
  ·have hm:(k+1==6)=false:=by simp;omega
   have f6:(1+k==6)=false:=a8
   rw[hm,A3H,if_neg (by decide)]at hD;refine wA6 f6 f7 f8 ne0 @A0 @A1 ?_;have h4i:=M0 (E:=E) (x:=3) (by decide) hti;subst hD;refine AC.call (c_ptake L E s2 _ _ t (by repeat (first|exact A0|rw[hnO])) (by omega) (by omega) 3) ?_;rintro v H' c4 ⟨rfl,rfl⟩ hc4;try dsimp only
   refine wAy ne0 @A0 @A1 ?_;refine AC.call (c_want L E (A7 L E s2 3).2 _ _ t (by repeat (first|exact A0|rw[hnO])) (by omega) (by omega) 5 [59]) ?_;rintro v H' c9 ⟨rfl,rfl⟩ hc9;rw[A2c hK (by decide +kernel)];refine wAy ne0 @A0 @A1 ?_;rw[C9 (rv4 rfl A0)];refine⟨_,_,K1 (cc:=cc) (B7 hfr htc) (λj hj=>?_),rfl,rfl⟩;simp[Hp.upd,show ¬j=cc by omega,show ¬j=c1 by omega,show ¬j=c1+1+8 by omega];try(split<;>rfl)
 ·rw[if_neg h6]at hD;have f:((1+k==7)=true)\/((1+k==7)=false/\(1+k==8)=true):=by
   by_cases hh:k=6
   ·left;simp;omega
   ·right;constructor<;>simp<;>omega
  subst hD;rcases f with f7|⟨f7,f8⟩
  ·refine wA0 f7 ne0 @A0 @A1 ?_;refine AC.call (c_want L E s2 _ _ t (by repeat (first|exact A0|rw[hnO])) (by omega) (by omega) 5 [59]) ?_;rintro v H' c9 ⟨rfl,rfl⟩ hc9;rw[A2c hK (by decide +kernel)];refine wAy ne0 @A0 @A1 ?_;rw[C9 (rv4 rfl A0)];refine⟨_,_,K1 (cc:=cc) (B7 hfr htc) (λj hj=>?_),rfl,rfl⟩;simp[Hp.upd,show ¬j=cc by omega,show ¬j=c1 by omega,show ¬j=c1+1+8 by omega];try(split<;>rfl)
  ·refine wA3 f7 f8 ne0 @A0 @A1 ?_;refine AC.call (c_want L E s2 _ _ t (by repeat (first|exact A0|rw[hnO])) (by omega) (by omega) 5 [59]) ?_;rintro v H' c9 ⟨rfl,rfl⟩ hc9;rw[A2c hK (by decide +kernel)];refine wAy ne0 @A0 @A1 ?_;rw[C9 (rv4 rfl A0)];refine⟨_,_,K1 (cc:=cc) (B7 hfr htc) (λj hj=>?_),rfl,rfl⟩;simp[Hp.upd,show ¬j=cc by omega,show ¬j=c1 by omega,show ¬j=c1+1+8 by omega];try(split<;>rfl)
def hdM(L:List Tok)(E:Int)(f:Nat)(s:Rd):Option (Hd × Rd) :=
 let p:=(A4 L E s).pos
 let s2:=A6 s
 let k:=B8 L E s2 F1
 if k<0 then some (⟨0,[],[],p⟩,R6 L E s2) else
 let s3:=A6 s2
 let n:=if 2<=k then(A7 L E s3 1).1.text else []
 let s4:=if 2<=k then(A7 L E s3 1).2 else s3
 match K5 L E f 1 s4 with
 |none=>none
 |some (b,s5)=>some (⟨1+k,n,b,p⟩,s5)
theorem c_phand(L:List Tok)(E:Int)(hL:L.length<=1000000000)(hK:∀t∈L,K8 t)(f:Nat)(s:Rd)(q:Hd × Rd)(h:hdM L E f s=some q)(hP:PI L s)(hon:isP L E s 2 [[111,110]]=true):
  ∀(H:Hp) (cc t:Nat),H t=some (paB L E s)->t<cc->AC Tryz.prog 100 [.ptr t 0] H cc (λv H' c' => ∃x s',v=Hd.v x/\H'=H.upd t (paB L E s')/\Eqv s' q.2/\(okR q.2=true->x=q.1)/\PI L s'):=by
 intro H cc t ht htc;obtain⟨hok,hi,hk2⟩:=U2 (by decide) hon;have htk:A7 L E s 2=(A4 L E s,A6 s):=by
  have hkk:I9 L E s 2=true:=by unfold I9;rw[hok,hk2];rfl
  unfold A7;rw[hkk,if_neg (by decide)]
 have hP1:=hP.nxt hi;have hri:=hP1.i;have hri0:=hP.i;unfold hdM at h;dsimp only at h;have hpa:=A9s (A5c (E:=E) hK (A6 s) (l:=F1) (by decide +kernel));have hkr:B8 L E (A6 s) F1<6:=(A2r L E (A6 s) F1 0).2;have hkx:0<=B8 L E (A6 s) F1->B8 L E (A6 s) F1=L7 (A4 L E (A6 s)).text 0 F1/\(A4 L E (A6 s)).kind=2/\(A6 s).i<L.length:=λhh=>by
  rw[decide_eq_true hh]at hpa;obtain⟨g1,g2,g3⟩:=U2 (by decide) hpa;exact⟨A1f (A5c hK (A6 s) (by decide +kernel)) (by rw[g1,g3];rfl) 0,g3,g2⟩
 have hix:=c_Idx (A4 L E (A6 s)).text F1 (by decide);refine AC.bodyT A2 rfl (A0C rfl) λhfr=>?_;refine wAp ?_;refine AC.call (c_ptake L E s _ _ t (by rw[hnO];exact ht) (by omega) (by omega) 2) ?_;rintro v H' c1 ⟨rfl,rfl⟩ hc1;rw[htk];have ne0:=M7 t cc c1 (by omega);refine wBd c_ptrigs (wJ ne0 (wJ @A0 @A1)) ?_;refine AC.call (c_pis L E (A6 s) _ _ t (by repeat (first|exact A0|rw[hnO])) (by omega) 2 F1 (by decide)) ?_;rintro v H' c2 ⟨rfl,rfl⟩ hc2;by_cases hk:B8 L E (A6 s) F1<0
 ·rw[if_pos hk]at h;cases h;have hpf:isP L E (A6 s) 2 F1=false:=by rw[hpa];exact decide_eq_false (by omega)
  simp only[go_sem,seval,hpf,ne0,A0,A1];refine wBc c_ptrigs (wJ ne0 (wJ @A0 @A1)) ?_;refine AC.call (c_pfail L E (A6 s) _ _ t (by repeat (first|exact A0|rw[hnO])) (by omega) 4) ?_;rintro v H' c3 ⟨rfl,rfl⟩ hc3;refine wAy ne0 @A0 @A1 ?_;rw[C9 (rv4 rfl A0)];refine⟨_,_,(K1 (cc:=cc) (K:=H.upd t (paB L E (pfl L E (A6 s) 4))) (B7 hfr htc) (λj hj=>?_)).trans (GL.view fun ρ vs hA=>M6 (λv h=>E3s h) vs hA),⟨0,[],[],(A4 L E s).pos⟩,_,rfl,rfl,.refl _,λk=>?_,hP1.fl⟩
  ·simp[Hp.upd,show ¬j=cc by omega,show ¬j=c1 by omega];try(split<;>rfl)
  ·exact absurd k (by rw[Z0];decide)
 rw[if_neg hk]at h;obtain⟨hk1,hkd2,hi2⟩:=hkx (by omega);rw[<- hk1]at hix;have hpt:isP L E (A6 s) 2 F1=true:=by rw[hpa];exact decide_eq_true (by omega)
 have htk2:A7 L E (A6 s) 2=(A4 L E (A6 s),A6 (A6 s)):=by
  have hkk:I9 L E (A6 s) 2=true:=by unfold I9;rw[(U2 (by decide) hpt).1,hkd2];rfl
  unfold A7;rw[hkk,if_neg (by decide)]
 have hP2:=hP1.nxt hi2;have hri2:=hP2.i;generalize B8 L E (A6 s) F1=k at *;have hwk:IntKind.i64.wrap (1+k)=1+k:=w6z;simp only[go_sem,seval,hpt,ne0,A0,A1];refine wBc c_ptrigs (wJ ne0 (wJ @A0 @A1)) ?_;refine AC.call (c_ptake L E (A6 s) _ _ t (by repeat (first|exact A0|rw[hnO])) (by omega) (by omega) 2) ?_;rintro v H' c3 ⟨rfl,rfl⟩ hc3;rw[htk2];by_cases hk2':2<=k
 ·rw[if_pos hk2',if_pos hk2']at h;have hd3:decide (1+k≥3)=true:=by simp;omega
  refine wBd hix (wJ hwk (wJ hd3 (wJ ne0 (wJ @A0 @A1)))) ?_;refine AC.call (c_ptake L E (A6 (A6 s)) _ _ t (by repeat (first|exact A0|rw[hnO])) (by omega) (by omega) 1) ?_;rintro v H' c4 ⟨rfl,rfl⟩ hc4;have hP3:=(hP2.take (E:=E) (x:=1) (by decide)).1;cases hb:K5 L E f 1 (A7 L E (A6 (A6 s)) 1).2 with
  |none=>rw[hb]at h;cases h
  |some qb =>
   obtain⟨bd,m5⟩:=qb;rw[hb]at h;dsimp only at h;cases h;refine wAy ne0 @A0 @A1 ?_;refine AC.call ((c_pst L E hL hK f).1 1 _ _ (bd,m5) (by decide) (by decide) (.refl _) hb hP3 _ _ t (by repeat (first|exact A0|rw[hnO])) (by omega)) ?_;rintro v H' c5 ⟨x,s5,rfl,rfl,q1,q2,q3⟩ hc5;dsimp only at q1 q2;refine wAy ne0 @A0 @A1 ?_;rw[C9 (rv4 rfl A0)];refine⟨_,_,K1 (cc:=cc) (K:=H.upd t (paB L E s5)) (B7 hfr htc) (λj hj=>?_),⟨1+k,(A7 L E (A6 (A6 s)) 1).1.text,x,(A4 L E s).pos⟩,s5,rfl,rfl,q1,λk=>(by rw[q2 k]),q3⟩;simp[Hp.upd,show ¬j=cc by omega,show ¬j=c1 by omega];try(split<;>rfl)
 ·rw[if_neg hk2',if_neg hk2']at h;have hd3:decide (1+k≥3)=false:=by simp;omega
  cases hb:K5 L E f 1 (A6 (A6 s)) with
  |none=>rw[hb]at h;cases h
  |some qb =>
   obtain⟨bd,m5⟩:=qb;rw[hb]at h;dsimp only at h;cases h;refine wBd hix (wJ hwk (wJ hd3 (wJ ne0 (wJ @A0 @A1)))) ?_;refine AC.call ((c_pst L E hL hK f).1 1 _ _ (bd,m5) (by decide) (by decide) (.refl _) hb hP2 _ _ t (by repeat (first|exact A0|rw[hnO])) (by omega)) ?_;rintro v H' c5 ⟨x,s5,rfl,rfl,q1,q2,q3⟩ hc5;dsimp only at q1 q2;refine wAy ne0 @A0 @A1 ?_;rw[C9 (rv4 rfl A0)];refine⟨_,_,K1 (cc:=cc) (K:=H.upd t (paB L E s5)) (B7 hfr htc) (λj hj=>?_),⟨1+k,[],x,(A4 L E s).pos⟩,s5,rfl,rfl,q1,λk=>(by rw[q2 k]),q3⟩;simp[Hp.upd,show ¬j=cc by omega,show ¬j=c1 by omega];try(split<;>rfl)
end Go.Proofs.YtdclpmddofggcaaGreatDoor
end

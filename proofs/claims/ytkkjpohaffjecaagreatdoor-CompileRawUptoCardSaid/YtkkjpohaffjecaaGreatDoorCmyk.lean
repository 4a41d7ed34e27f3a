/-
  HELPERS of the claim: part 11 of its texts.
-/
import Derived.Test.YtkkjpohaffjecaaGreatDoorCmyj
import Derived.Shelf.SlSortCmp.NoneTotal
import Derived.Test.YtkkjpohaffjecaaGreatDoorProg
noncomputable section
set_option linter.unusedVariables false
set_option linter.unusedSimpArgs false
namespace Go.Proofs.YtkkjpohaffjecaaGreatDoor
open Go.Sym Go.Lib Go.Pb Go.So Go.Sort Go.Proofs
theorem c_Sort0{H:Hp}{c:Nat}:AC Tryz.prog 106 [.snil,.func 107 [] []] H c (fun v H' c'=>v=.tup []/\H'=H):=by
 refine⟨by kernel_rfl,fun ρ w args' hR hf hA=>?_⟩;obtain⟨v0,e0,r0⟩:=hA.get (i:=0) rfl;obtain⟨v1,e1,r1⟩:=hA.get (i:=1) rfl;have hargs:args' = #[v0,v1]:=by
  have hs:args'.size=2:=hA.1.symm;apply Array.ext (by simpa using hs);intro i h1 h2;have:i=0\/i=1:=by omega
  rcases this with rfl|rfl
  ·simpa using (A0V.1 e0).2
  ·simpa using (A0V.1 e1).2
 subst hargs;cases r0 with
 |snil =>
 refine (AnyF.slices_SortFunc_none Tryz.sortP none 0 v1 w).mono ?_;rintro ex w' ⟨rfl,rfl⟩;exact⟨_,_,_,c, ρ,rfl,⟨rfl,rfl⟩,.tup _ _ rfl (fun i x y hx hy=>by cases hx),hR,hf,A0E _,fun _ _ h=>h,fun _ _=>rfl,Ext.refl _ _ _⟩
end Go.Proofs.YtkkjpohaffjecaaGreatDoor
set_option maxHeartbeats 4000000
set_option maxRecDepth 100000
namespace Go.Proofs.YtkkjpohaffjecaaGreatDoor
open Go.Eng (IC IOper DReg IFn L2)
open Go.Sym Go.Pb
theorem C4o(b:List (List Pb.St)):cellsL (b.map D3)=b.map D3:=by
 induction b with
 |nil=>rfl
 |cons x b ih=>rw[A0Q];show DV.cells (D3 x)++cellsL (b.map D3)=_;rw[ih];rfl
theorem D7a(l:List C8):∀ d∈pvC l,d.one=true:=by
 intro d hd;obtain⟨p, -,hp⟩:=List.mem_flatMap.1 hd;simp only[pcC,A0Y,A2R,or_false]at hp;rcases hp with rfl|rfl|rfl|rfl|rfl<;>rfl
theorem C6w:∀ (is:List Nat) (l:List C8), ∀ d∈ptC is l,d.one=true
 |i :: is,p :: l,d,hd=>by
  rw[ptC]at hd;rcases A0X.1 hd with hd|hd
  ·simp only[pcC,A0Y,A2R,or_false]at hd;rcases hd with rfl|rfl|rfl|rfl|rfl<;>rfl
  ·exact C6w is l d hd
 |[],_,d,hd=>by cases hd
 |_ :: _,[],d,hd=>by cases hd
theorem C6i(a b:List C8):pvC (a++b)=pvC a++pvC b:=by simp[pvC]
theorem E2j{G:Hp}{i:Nat}{ds:List DV}(hGi:G i=none):∀ (is:List Nat) (l pre:List C8),is.length=l.length->is.Nodup->i ∉ is->(∀ j∈is,G j=none) ->
  GL ((A0e G is l).upd i ⟨5,true,pvC pre++ptC is l⟩) ds (G.upd i ⟨5,true,pvC (pre++l)⟩) ds
 |[],[],pre,_,_,_,_=>by rw[A0W];simp only[A0e,ptC,A0W];exact GL.refl _ _
 |j :: is,p :: l,pre,hl,hn,hi,hg=>by
  obtain⟨n1,n2⟩:=A2Y.1 hn;have hji:j≠i:=fun e=>hi (by rw[e];exact A0H);have ih:=E2j (ds:=ds) hGi is l (pre++[p]) (Nat.succ.inj hl) n2 (fun hm=>hi (A0G _ hm)) (fun q hq=>hg q (A0G _ hq));rw[A0P,List.singleton_append]at ih;have hF:A0e G is l j=none:=by rw[B3x n1];exact hg j A0H
  have g:=D2o (H:=(A0e G (j :: is) (p :: l)).upd i ⟨5,true,pvC pre++ptC (j :: is) (p :: l)⟩) (a:=j) (k:=i) (u:=1) (u':=1) (w:=5) (n:=p.2.length) (pre:=pvC pre++[I64 p.1.mode,I64 p.1.trig,I64 p.1.ix,I64 0]) (suf:=ptC is l) (xs:=p.2.map D3) (junk:=[]) (ds:=ds)
   (by rw[h_same,ptC];simp[pcC]) (by rw[h_ne hji,A0e,h_same,C4o,A0W]) (fun d hd=>by
    rcases A0X.1 hd with hd|hd
    ·rcases A0X.1 hd with hd|hd
     ·exact D7a pre d hd
     ·simp only[A0Y,A2R,or_false]at hd;rcases hd with rfl|rfl|rfl|rfl<;>rfl
    ·exact C6w is l d hd) (by simp) (fun x hx=>by obtain⟨y, -,rfl⟩:=A1A.1 hx;rfl) hji
  refine g.trans ?_;have e:(((A0e G (j :: is) (p :: l)).upd i ⟨5,true,pvC pre++ptC (j :: is) (p :: l)⟩).del j).upd i ⟨5,true,pvC pre++[I64 p.1.mode,I64 p.1.trig,I64 p.1.ix,I64 0]++[.lst (p.2.map D3)]++ptC is l⟩=(A0e G is l).upd i ⟨5,true,pvC (pre++[p])++ptC is l⟩:=by
   funext k
   by_cases ek:k=i
   ·subst ek;rw[h_same,h_same,C6i];simp[pvC,pcC]
   ·rw[h_ne ek,h_ne ek];by_cases ej:k=j
    ·subst ej;rw[hF];simp[Hp.del]
    ·rw[G4 ej,h_ne ek,A0e,h_ne ej]
  rw[e];exact ih
abbrev paV(p:C8):DV:=.agg (pcC p.1 (A3t p.2))
abbrev C3d(l:List C8):DV:=.lst (l.map paV)
theorem C9z(l:List C8):cellsL (l.map paV)=pvC l:=by
 induction l with
 |nil=>rfl
 |cons p l ih =>
  rw[A0Q];show DV.cells (paV p)++cellsL (l.map paV)=_;rw[ih,show p :: l=[p]++l from rfl,C6i];simp[pvC,pcC,DV.cells]
theorem c_parts(gs:List DV)(ks vs:List DV)(nm:List UInt8->Int)(hm:∀ s,Sym.lkV (I64 0) false vs (E4 (.str s) ks 0)=some (I64 (nm s)))(hgs:gs[7]? = some (.mp .s ks vs))(D:List Dc)(M:List Md)(hs:(M.map fun m=>m.hds.length).sum+M.length<=1000000)
  (H:Hp) (c t:Nat) (ht:H t=some ⟨0,true,gs⟩) (htc:t<c) (hl:(H5 [] (hkM nm 0 M)).length<=1000000) :
  AC Tryz.prog 50 [.ptr t 0,.agg [C3 D,C7 M]] H c (fun v H' c'=>H'=H/\∃ l',(H5 [] (hkM nm 0 M)).Perm l'/\D3n l'/\v=C3d l'):=by
 obtain⟨L,hL⟩:∃ L,L=H5 [] (hkM nm 0 M):=⟨_,rfl⟩;rw[<- hL]at hl;refine⟨by kernel_rfl,fun ρ w args' hR hf hA=>?_⟩;have hHn:∀ j,c<=j->H j=none:=fun j hj=>by
  cases h:H j with
  |none=>rfl
  |some b=>obtain⟨t,h1, -⟩:=hR.blk j b h;rw[hf j hj]at h1;cases h1
 refine (c_gather gs ks vs nm hm hgs D M hs H c t ht htc _ ?_).2 ρ w args' hR hf hA;intro o is c1 hc1 hN;rw[<- hL]at hN ⊢;obtain⟨G,hG⟩:∃ G:Hp,G=H.upd c ⟨0,true,[C3 D,C7 M]⟩:=⟨_,rfl⟩;rw[<- hG]at hN ⊢;cases o with
 |none =>
  have hLn:=hN.no rfl;subst hLn;repeat' (apply wr<;>try simp only[go_sem,seval])
  refine AC.call c_Sort0 ?_;rintro _ _ c2 ⟨rfl,rfl⟩ hc2;simp only[go_sem,seval];repeat' (apply wr<;>try simp only[go_sem,seval])
  have his:is=[]:=A2K.1 hN.len;subst his;have g:GL (PM G none [] []) [.snil] H [.lst []]:=(GL.less' (fun j b hj=>by
   show G j=some b;rw[hG,h_ne (by rintro rfl;rw[hHn _ (A0E _)]at hj;cases hj)];exact hj)).trans (GL.view fun ρ vs hA=>N6 (fun v h=>h.snil_lst) vs hA)
  exact⟨_,_,g,rfl,[],.nil,.nil,rfl⟩
 |some i =>
  have hi:=hN.fo i rfl;have hnm:i ∉ is:=fun hm=>(hN.fi i hm).2.2 rfl;have hic:i≠c:=fun e=>by have h:=hi.2;rw[e,hG,h_same]at h;cases h
  have g:GL (PM G (some i) is L) [.slc i 0 L.length] (G.upd i ⟨5,true,pvC L⟩) [.slc i 0 L.length]:=E2j hi.2 is L [] hN.len hN.nd hnm (fun j hj=>(hN.fi j hj).2.1);refine IW.keep [5] [.slc i 0 L.length] g ?_;have hb:(G.upd i ⟨5,true,pvC L⟩) i=some ⟨5,true,pvC L⟩:=h_same;repeat' (apply wr<;>try simp only[go_sem,seval])
  refine AC.call (c_Sort1 hb hl) ?_;rintro _ _ c2 ⟨rfl,l',q1,q2,rfl⟩ hc2;simp only[go_sem,seval];repeat' (apply wr<;>try simp only[go_sem,seval])
  rw[A5];have hl':l'.length=L.length:=q1.length_eq.symm;have g2:GL (G.upd i ⟨5,true,pvC l'⟩) [.slc i 0 L.length] H [C3d l']:=GL.frzS (id:=i) h_same rfl (fun j=>by
   by_cases ej:j=i
   ·subst ej;left;have h:=hi.2;rw[hG,h_ne hic]at h;exact h
   ·by_cases ec:j=c
    ·subst ec;left;exact hHn _ (A0E _)
    ·right;exact⟨ej,by rw[h_ne ej,hG,h_ne ec]⟩) (.cons _ _ _ _ (P0 (u:=5) (by rw[A0C,hl']) (fun x hx=>by obtain⟨y, -,rfl⟩:=A1A.1 hx;rfl) ⟨[],by rw[C9z,A0W]⟩) .nil)
  exact⟨_,_,g2,rfl,l',q1,q2,rfl⟩
end Go.Proofs.YtkkjpohaffjecaaGreatDoor
set_option maxHeartbeats 8000000
namespace Go.Proofs.YtkkjpohaffjecaaGreatDoor
open Go.Eng (IC IOper DReg IFn L2)
open Go.Sym Go.Pb
abbrev C3q(l:List (List UInt8 × (Int × Int))):Blk:=⟨0,true,[.mpc .s (mkK (Z1 l)) (mvV (Z1 l))]⟩
theorem c_set(n:List UInt8)(q:Int × Int)(l:List (List UInt8 × (Int × Int)))(H:Hp)(cc b t:Nat)(hb:H b=some ⟨0,true,[.mid t]⟩)(ht:H t=some (C3q l))(hbc:b<cc)(htc:t<cc):
  AC Tryz.prog 171 [.str n,A6w q,.ptr b 0] H cc (fun v H' c'=>v=.tup []/\H'=H.upd t (C3q (V9 l n q))):=by
 refine AC.bodyT A2 rfl (A0D rfl) fun hfr=>?_;have hbt:b≠t:=fun e=>by rw[e,ht]at hb;cases hb
 cases hl:l.lookup n with
 |some y =>
  have hs:V9 l n q=l:=by rw[V9,if_pos (by rw[hl];rfl)]
  have h1:Sym.lkV (.agg [I64 0,I64 0]) true (mvV (Z1 l)) (E4 (.str n) (mkK (Z1 l)) 0)=some (.tup [A6w y,.bool true]):=A5o (ok:=true) (by rw[X6,hl];rfl);unfold A6w at h1 ⊢;rw[hs,upd_same ht];have ne0:=W3 b t cc (cc+1) (by omega);repeat' (apply wr<;>try simp only[go_sem,seval,hb,ht,h1,ne0,h_same,A5])
  refine⟨_,_,GL.less' fun j b hj=>?_,rfl,rfl⟩;have:=B3r hfr hj;have h2:j≠cc+1:=by rintro rfl;rw[hfr _ (by omega)]at hj;cases hj
  rw[h_ne h2,h_ne this];exact hj
 |none =>
  have hs:V9 l n q=l++[(n,q)]:=by rw[V9,if_neg (by rw[hl];simp)]
  have hl':(Z1 l).lookup n=none:=by rw[X6,hl];rfl
  have h1:Sym.lkV (.agg [I64 0,I64 0]) true (mvV (Z1 l)) (E4 (.str n) (mkK (Z1 l)) 0)=some (.tup [.agg [I64 0,I64 0],.bool false]):=A5p (ok:=true) hl';have h2:=C1l hl';have e1:mkK (Z1 (l++[(n,q)]))=mkK (Z1 l)++[.str n]:=by simp[mkK,Z1]
  have e2:mvV (Z1 (l++[(n,q)]))=mvV (Z1 l)++[A6w q]:=by simp[mvV,Z1]
  unfold A6w at e2 ⊢;rw[hs];unfold C3q;rw[e1,e2];have ne0:=W3 b t cc (cc+1) (by omega);repeat' (apply wr<;>try simp only[go_sem,seval,hb,ht,h2,ne0,h_same,A5])
  refine⟨_,_,GL.less' fun j b hj=>?_,rfl,rfl⟩;by_cases e:j=t
  ·subst e;rw[h_same]at hj ⊢;exact hj
  ·rw[h_ne e]at hj ⊢;have:=B3r hfr hj;have h2:j≠cc+1:=by rintro rfl;rw[hfr _ (by omega)]at hj;cases hj
   rw[h_ne h2,h_ne this];exact hj
def nmH(D:List Dc)(M:List Md)(l:List (List UInt8 × (Int × Int)))(a:List (Int × Nat)):Hp:=(((Sym.nil.upd 0 ⟨0,true,[C3 D,C7 M]⟩).upd 1 (C3q l)).upd 2 ⟨0,true,[.mid 1]⟩).upd 3 ⟨0,true,[.mpc (.i .i64) (ahK a) (ahV a)]⟩
section
variable {D:List Dc} {M:List Md} {l:List (List UInt8 × (Int × Int))} {a:List (Int × Nat)}
theorem D7h:nmH D M l a 0=some ⟨0,true,[C3 D,C7 M]⟩:=rfl
theorem D7g:nmH D M l a 1=some (C3q l):=rfl
theorem D7f:nmH D M l a 2=some ⟨0,true,[.mid 1]⟩:=rfl
theorem E0z:nmH D M l a 3=some ⟨0,true,[.mpc (.i .i64) (ahK a) (ahV a)]⟩:=rfl
theorem D7e(j:Nat)(h:4<=j):nmH D M l a j=none:=by
 unfold nmH;rw[hnO,hnO,hnO,hnO];rfl
theorem A6t{H:Hp}(h0:H 0=some ⟨0,true,[C3 D,C7 M]⟩)(h1:H 1=some (C3q l))(h2:H 2=some ⟨0,true,[.mid 1]⟩)(h3:H 3=some ⟨0,true,[.mpc (.i .i64) (ahK a) (ahV a)]⟩):Sym.Sub (nmH D M l a) H:=by
 intro j b hj;have hlt:j<4:=A1T fun h=>by rw[D7e j h]at hj;cases hj
 match j,hlt with
 |0,_=>rw[h0];exact hj
 |1,_=>rw[h1];exact hj
 |2,_=>rw[h2];exact hj
 |3,_=>rw[h3];exact hj
end
theorem D7d(r:Ru):(nmV r).nl=true:=by
 unfold nmV mkK mvV Z1;simp only[DV.nl];rw[A2V,A2V];rw[show ((fun p:List UInt8 × DV=>DV.str p.1)∘fun p:List UInt8 × (Int × Int)=>(p.1,A6w p.2))=fun p=>DV.str p.1 from rfl,show ((fun p:List UInt8 × DV=>p.2)∘fun p:List UInt8 × (Int × Int)=>(p.1,A6w p.2))=fun p=>A6w p.2 from rfl];rw[L8 (fun _=>rfl),L8 (fun _=>rfl)];rfl
theorem c_names(r:Ru)(h1:r.decls.length<=1000000000)(h2:r.modes.length<=1000000000):PC Tryz.prog 96 [r.v] (nmV r):=by
 refine PC.ofT A2 rfl (A0D rfl) (by simp[DV.nlL,DV.nl,K4,K3]) (D7d _) ?_;obtain⟨R,hR⟩:∃ R,R=nmL r:=⟨_,rfl⟩;unfold nmV;rw[<- hR];unfold nmL at hR;obtain⟨D,M⟩:=r;dsimp only at h1 h2 hR;dsimp only[Ru.v];repeat' (apply wr<;>try simp only[go_sem,seval,B0q])
 refine A9 (fun q:Nat × List (List UInt8 × (Int × Int))=>[(1,.ptr 0 0),(3,.ptr 2 0),(4,.mid 3),(5,.func 171 [] [.ptr 2 0]),(15,C3 D),(16,I64 D.length),(17,I64 q.1)]) (fun q=>nmH D M q.2 (ahM (D.take q.1)))
  (fun q c=>4<=c/\q.1<=D.length/\nmD [] [] D=nmD (D.take q.1) q.2 (D.drop q.1)) (fun q=>D.length-q.1) (0,[])
  (by simp[C1,tm,Tm.upd]) (A6t rfl rfl rfl rfl) ⟨by omega,A0O _,rfl⟩ ?_
 rintro⟨i,l⟩ c ⟨h1c,hk,he⟩;dsimp only at hk he ⊢;by_cases hlt:i<D.length
 ·have hd:=dtz hlt;have hg:=A0B hlt;have hw:=w64 (n:=(i:Int)+1);rw[B5q hg]at he;have hah:ahM (D.take (i+1))=ahS (ahM (D.take i)) D[i].kind:=by rw[A0S,hg];exact B0x _ _
  have hlk:=C2o D[i].kind (ahM (D.take i));have hmu:=D4p D[i].kind (ahM (D.take i));have hcn:=B9r (D.take i) D[i].kind;have hcl:=B9i (D.take i) D[i].kind;rw[A1B]at hcl;generalize D[i]=d at hg he hah hlk hmu hcn hcl;rw[hcn]at hlk hmu;have hw2:=w64 (n:=(cnD (D.take i) d.kind:Int)+1);have hb0:nmH D M l (ahM (D.take i)) 0=_:=D7h;have hb1:nmH D M l (ahM (D.take i)) 1=_:=D7g;have hb2:nmH D M l (ahM (D.take i)) 2=_:=D7f;have hb3:nmH D M l (ahM (D.take i)) 3=_:=E0z;have hbn:∀ j,4<=j->nmH D M l (ahM (D.take i)) j=none:=fun j=>D7e j;generalize nmH D M l (ahM (D.take i))=HH at hb0 hb1 hb2 hb3 hbn ⊢;have ne0:=A5k 0 1 2 3 c (c+1) (by omega);by_cases hkk:d.kind=6\/d.kind=7\/d.kind=8
  ·have hnum:S8 (D.take i) d=(cnD (D.take i) d.kind:Int):=by rw[S8,if_pos hkk]
   rw[hnum]at he;by_cases k6:d.kind=6
   ·have k6:(d.kind == 6)=true:=by simpa using k6
    repeat' (apply wr<;>try simp only[go_sem,seval,hb3,hd,hg,hw2,hlk,hmu,k6,A3r,ne0,h_same,A5])
    refine AC.call (c_set d.name (d.kind,(cnD (D.take i) d.kind:Int)) l _ _ 2 1 (by rw[hnO,hnO,hnO];exact hb2) (by rw[hnO,hnO,hnO];exact hb1) (by omega) (by omega)) ?_;rintro v H' c' ⟨rfl,rfl⟩ hcc;simp only[go_sem,seval];repeat' (apply wr<;>try simp only[go_sem,seval,hw])
    refine⟨(i+1,V9 l d.name (d.kind,(cnD (D.take i) d.kind:Int))),by simp[],?_,inv ⟨by omega,by omega,he⟩,by simp only;omega⟩;dsimp only;rw[hah];refine A6t ?_ h_same ?_ ?_
    ·rw[hnO,hnO,hnO,hnO];exact hb0
    ·rw[hnO,hnO,hnO,hnO];exact hb2
    ·rw[hnO,h_same]
   have k6:(d.kind == 6)=false:=by simpa using k6
   by_cases k7:d.kind=7
   ·have k7:(d.kind == 7)=true:=by simpa using k7
    repeat' (apply wr<;>try simp only[go_sem,seval,hb3,hd,hg,hw2,hlk,hmu,k6,k7,A3r,ne0,h_same,A5])
    refine AC.call (c_set d.name (d.kind,(cnD (D.take i) d.kind:Int)) l _ _ 2 1 (by rw[hnO,hnO,hnO];exact hb2) (by rw[hnO,hnO,hnO];exact hb1) (by omega) (by omega)) ?_;rintro v H' c' ⟨rfl,rfl⟩ hcc;simp only[go_sem,seval];repeat' (apply wr<;>try simp only[go_sem,seval,hw])
    refine⟨(i+1,V9 l d.name (d.kind,(cnD (D.take i) d.kind:Int))),by simp[],?_,inv ⟨by omega,by omega,he⟩,by simp only;omega⟩;dsimp only;rw[hah];refine A6t ?_ h_same ?_ ?_
    ·rw[hnO,hnO,hnO,hnO];exact hb0
    ·rw[hnO,hnO,hnO,hnO];exact hb2
    ·rw[hnO,h_same]
   have k7:(d.kind == 7)=false:=by simpa using k7
   have k8:(d.kind == 8)=true:=by simp at k6 k7 ⊢;omega
   repeat' (apply wr<;>try simp only[go_sem,seval,hb3,hd,hg,hw2,hlk,hmu,k6,k7,k8,A3r,ne0,h_same,A5])
   refine AC.call (c_set d.name (d.kind,(cnD (D.take i) d.kind:Int)) l _ _ 2 1 (by rw[hnO,hnO,hnO];exact hb2) (by rw[hnO,hnO,hnO];exact hb1) (by omega) (by omega)) ?_;rintro v H' c' ⟨rfl,rfl⟩ hcc;simp only[go_sem,seval];repeat' (apply wr<;>try simp only[go_sem,seval,hw])
   refine⟨(i+1,V9 l d.name (d.kind,(cnD (D.take i) d.kind:Int))),by simp[],?_,inv ⟨by omega,by omega,he⟩,by simp only;omega⟩;dsimp only;rw[hah];refine A6t ?_ h_same ?_ ?_
   ·rw[hnO,hnO,hnO,hnO];exact hb0
   ·rw[hnO,hnO,hnO,hnO];exact hb2
   ·rw[hnO,h_same]
  ·have hnum:S8 (D.take i) d=d.value:=by rw[S8,if_neg hkk]
   rw[hnum]at he;have k6:(d.kind == 6)=false:=by simp;omega
   have k7:(d.kind == 7)=false:=by simp;omega
   have k8:(d.kind == 8)=false:=by simp;omega
   repeat' (apply wr<;>try simp only[go_sem,seval,hb3,hd,hg,hw2,hlk,hmu,k6,k7,k8,A3r,ne0,h_same,A5])
   refine AC.call (c_set d.name (d.kind,d.value) l _ _ 2 1 (by rw[hnO,hnO,hnO];exact hb2) (by rw[hnO,hnO,hnO];exact hb1) (by omega) (by omega)) ?_;rintro v H' c' ⟨rfl,rfl⟩ hcc;simp only[go_sem,seval];repeat' (apply wr<;>try simp only[go_sem,seval,hw])
   refine⟨(i+1,V9 l d.name (d.kind,d.value)),by simp[],?_,inv ⟨by omega,by omega,he⟩,by simp only;omega⟩;dsimp only;rw[hah];refine A6t ?_ h_same ?_ ?_
   ·rw[hnO,hnO,hnO,hnO];exact hb0
   ·rw[hnO,hnO,hnO,hnO];exact hb2
   ·rw[hnO,h_same]
 have hd:=dfz hlt;rw[A1Q (by omega),nmD]at he;rw[he]at hR;repeat' (apply wr<;>try simp only[go_sem,seval,hd,A0C,D7h])
 clear he hd hlt hk;generalize ahM (D.take i)=A;clear i;refine A9 (fun q:Nat × List (List UInt8 × (Int × Int))=>[(3,.ptr 2 0),(5,.func 171 [] [.ptr 2 0]),(56,C7 M),(57,I64 M.length),(58,I64 q.1)]) (fun q=>nmH D M q.2 A)
  (fun q c=>4<=c/\q.1<=M.length/\R=nmX q.1 q.2 (M.drop q.1)) (fun q=>M.length-q.1) (0,l)
  (by simp[C1,tm,Tm.upd]) (Sub.refl _) ⟨h1c,A0O _,hR⟩ ?_
 clear hR h1c c l;rintro⟨i,l⟩ c ⟨h1c,hk,he⟩;dsimp only at hk he ⊢;by_cases hlt:i<M.length
 ·have hd:=dtz hlt;have hg:=A0B hlt;have hw:=w64 (n:=(i:Int)+1);rw[B5p hg]at he;generalize M[i]=d at hg he;have hb0:nmH D M l A 0=_:=D7h;have hb1:nmH D M l A 1=_:=D7g;have hb2:nmH D M l A 2=_:=D7f;have hb3:nmH D M l A 3=_:=E0z;have hbn:∀ j,4<=j->nmH D M l A j=none:=fun j=>D7e j;generalize nmH D M l A=HH at hb0 hb1 hb2 hb3 hbn ⊢;have ne0:=A5k 0 1 2 3 c (c+1) (by omega);repeat' (apply wr<;>try simp only[go_sem,seval,hd,hg,A8a,h_same,A5])
  refine AC.call (c_set d.name (9,(i:Int)) l _ _ 2 1 (by rw[hnO];exact hb2) (by rw[hnO];exact hb1) (by omega) (by omega)) ?_;rintro v H' c' ⟨rfl,rfl⟩ hcc;simp only[go_sem,seval];repeat' (apply wr<;>try simp only[go_sem,seval,hw])
  refine⟨(i+1,V9 l d.name (9,(i:Int))),by simp[],?_,inv ⟨by omega,by omega,he⟩,by simp only;omega⟩;refine A6t ?_ h_same ?_ ?_
  ·rw[hnO,hnO];exact hb0
  ·rw[hnO,hnO];exact hb2
  ·rw[hnO,hnO];exact hb3
 have hd:=dfz hlt;rw[A1Q (by omega),nmX]at he;subst he;have hb2:nmH D M R A 2=_:=D7f;repeat' (apply wr<;>try simp only[go_sem,seval,hd,hb2])
 exact C6t D7g
def ckB(r:Ru)(s:Int × Int):Blk:=⟨0,true,[nmV r,I64 s.1,I64 s.2]⟩
theorem C9n{r:Ru}{n:List UInt8}{k p:Int}(h:k=0\/(E7 r n).1=k):dnE r n k p=none:=by unfold dnE dnM;rw[if_pos h];rfl
theorem E3c{r:Ru}{n:List UInt8}{k p:Int}(h:¬ (k=0\/(E7 r n).1=k))(h2:(E7 r n).1=0):dnE r n k p=some (p,8):=by unfold dnE dnM;rw[if_neg h,if_pos h2];rfl
theorem E3d{r:Ru}{n:List UInt8}{k p:Int}(h:¬ (k=0\/(E7 r n).1=k))(h2:¬ (E7 r n).1=0):dnE r n k p=some (p,44):=by unfold dnE dnM;rw[if_neg h,if_neg h2];rfl
theorem B3w{H:Hp}{cc t:Nat}{b b':Blk}{ds:List DV}(hfr:∀ i,cc<=i->H i=none)(htc:t<cc):GL ((H.upd cc b).upd t b') ds (H.upd t b') ds:=GL.less' fun j q hj=>by
 by_cases e:j=t
 ·subst e;rw[h_same]at hj ⊢;exact hj
 ·rw[h_ne e]at hj ⊢;rw[h_ne (B3r hfr hj)];exact hj
theorem c_inE32(k:Int):PC Tryz.prog 240 [I64 k] (I64 (kdE k)):=by
 refine PC.go A2 ?_;repeat' ((with_reducible first|refine wr ?_|refine wb2 ?_ ?_<;>(intro hb;try simp only[hb])|fail)<;>try simp only[go_sem,seval])
 all_goals (refine A3 (congrArg I64 ?_);simp_all[kdE])
theorem c_inS32(k:Int):PC Tryz.prog 175 [I64 k] (I64 (kdS k)):=by
 refine PC.go A2 ?_;repeat' ((with_reducible first|refine wr ?_|refine wb2 ?_ ?_<;>(intro hb;try simp only[hb])|fail)<;>try simp only[go_sem,seval])
 all_goals (refine A3 (congrArg I64 ?_);simp_all[kdS])
theorem c_inH32(k:Int):PC Tryz.prog 99 [I64 k] (I64 (kdH k)):=by
 refine PC.go A2 ?_;repeat' ((with_reducible first|refine wr ?_|refine wb2 ?_ ?_<;>(intro hb;try simp only[hb])|fail)<;>try simp only[go_sem,seval])
 all_goals (refine A3 (congrArg I64 ?_);simp_all[kdH])
theorem c_most32(k:Int):PC Tryz.prog 173 [I64 k] (I64 (A3o k)):=by
 refine PC.go A2 ?_;repeat' ((with_reducible first|refine wr ?_|refine wb2 ?_ ?_<;>(intro hb;try simp only[hb])|fail)<;>try simp only[go_sem,seval])
 all_goals (refine A3 (congrArg I64 ?_);simp_all[A3o])
theorem c_truth32(k:Int):PC Tryz.prog 241 [I64 k] (.bool (D0p k)):=by
 refine PC.go A2 ?_;repeat' ((with_reducible first|refine wr ?_|refine wb2 ?_ ?_<;>(intro hb;try simp only[hb])|fail)<;>try simp only[go_sem,seval])
 all_goals (refine A3 (congrArg DV.bool ?_);simp_all[D0p]<;>omega)
theorem c_typ32(k:Int)(h:k<=24):PC Tryz.prog 165 [I64 k] (I64 (L7 k)):=by
 refine PC.go A2 ?_;have ht:=c_truth32 k;rw[D0o h]at ht;repeat' ((with_reducible first|refine wr ?_|refine cpc ht ?_|refine wb2 ?_ ?_<;>(intro hb;try simp only[hb])|fail)<;>try simp only[go_sem,seval])
 all_goals (refine A3 (congrArg I64 ?_);simp_all[L7])
theorem c_fail32(r:Ru)(s:Int × Int)(H:Hp)(cc t:Nat)(ht:H t=some (ckB r s))(htc:t<cc)(p e:Int):AC Tryz.prog 102 [.ptr t 0,I64 p,I64 e] H cc (fun v H' c'=>v=.tup []/\H'=H.upd t (ckB r (upS s (some (p,e))))):=by
 refine AC.bodyT A2 rfl (A0D rfl) fun hfr=>?_;unfold ckB at ht ⊢;cases h:(s.2 == 0) with
 |true =>
  have e0:upS s (some (p,e))=(p,e):=by unfold upS;rw[if_pos (by simpa using h)];rfl
  rw[e0];repeat' (apply wr<;>try simp only[go_sem,seval,ht,h,h_same,A5])
  exact⟨_,_,GL.refl _ _,rfl,rfl⟩
 |false =>
  have e0:upS s (some (p,e))=s:=by unfold upS;rw[if_neg (by simpa using h)]
  rw[e0,upd_same ht];repeat' (apply wr<;>try simp only[go_sem,seval,ht,h])
  exact⟨_,_,GL.refl _ _,rfl,rfl⟩
theorem c_den32(r:Ru)(hk:W5 r.decls)(s:Int × Int)(H:Hp)(cc t:Nat)(ht:H t=some (ckB r s))(htc:t<cc)(n:List UInt8)(k p:Int):AC Tryz.prog 98 [.ptr t 0,.str n,I64 k,I64 p] H cc (fun v H' c'=>v=.tup []/\H'=H.upd t (ckB r (upS s (dnE r n k p)))):=by
 refine AC.bodyT A2 rfl (A0D rfl) fun hfr=>?_;have ht':=ht;unfold ckB nmV at ht';have ne0:=A0m t cc (by omega);cases hl:(nmL r).lookup n with
 |some q =>
  obtain⟨h1,h2⟩:=C1a hk hl;have hlk:Sym.lkV (.agg [I64 0,I64 0]) true (mvV (Z1 (nmL r))) (E4 (.str n) (mkK (Z1 (nmL r))) 0)=some (.tup [A6w q,.bool true]):=A5o (ok:=true) (by rw[X6,hl];rfl);unfold A6w at hlk;by_cases hk0:k=0
  ·subst hk0;have e0:dnE r n 0 p=none:=C9n (.inl rfl);rw[e0,K6,upd_same ht];repeat' (apply wr<;>try simp only[go_sem,seval,ht',hlk,h_same,A5])
   exact⟨_,_,A7b hfr,rfl,rfl⟩
  have q0:(k == 0)=false:=by simpa using hk0
  by_cases hq:q.1=k
  ·have e0:dnE r n k p=none:=C9n (.inr (by rw[h1];exact hq));rw[e0,K6,upd_same ht];have q1:(q.1 != k)=false:=by simp[hq]
   repeat' (apply wr<;>try simp only[go_sem,seval,ht',hlk,q0,q1,h_same,A5])
   exact⟨_,_,A7b hfr,rfl,rfl⟩
  ·have e0:dnE r n k p=some (p,44):=E3d (by rw[h1];simp[hk0,hq]) (by rw[h1];exact h2);rw[e0];have q1:(q.1 != k)=true:=by simp[hq]
   repeat' (apply wr<;>try simp only[go_sem,seval,ht',hlk,q0,q1,h_same,A5])
   refine AC.call (c_fail32 r s _ _ t (by rw[hnO];exact ht) (by omega) p 44) ?_;rintro v H' c' ⟨rfl,rfl⟩ hcc;simp only[go_sem,seval];repeat' (apply wr<;>try simp only[go_sem,seval])
   exact⟨_,_,B3w hfr htc,rfl,rfl⟩
 |none =>
  have h1:=C1b hk hl;have hlk:Sym.lkV (.agg [I64 0,I64 0]) true (mvV (Z1 (nmL r))) (E4 (.str n) (mkK (Z1 (nmL r))) 0)=some (.tup [.agg [I64 0,I64 0],.bool false]):=A5p (ok:=true) (by rw[X6,hl];rfl);by_cases hk0:k=0
  ·subst hk0;have e0:dnE r n 0 p=none:=C9n (.inl rfl);rw[e0,K6,upd_same ht];repeat' (apply wr<;>try simp only[go_sem,seval,ht',hlk,h_same,A5])
   exact⟨_,_,A7b hfr,rfl,rfl⟩
  have q0:(k == 0)=false:=by simpa using hk0
  have e0:dnE r n k p=some (p,8):=E3c (by rw[h1];simp;omega) (by rw[h1]);rw[e0];repeat' (apply wr<;>try simp only[go_sem,seval,ht',hlk,q0,h_same,A5])
  refine AC.call (c_fail32 r s _ _ t (by rw[hnO];exact ht) (by omega) p 8) ?_;rintro v H' c' ⟨rfl,rfl⟩ hcc;simp only[go_sem,seval];repeat' (apply wr<;>try simp only[go_sem,seval])
  exact⟨_,_,B3w hfr htc,rfl,rfl⟩
theorem A8i{G:Hp}{t c:Nat}{b0 b1 b:Blk}(hG:∀ j,c<=j->G j=none)(htc:t<c):Sym.Sub (G.upd t b) (((G.upd t b0).upd c b1).upd t b):=by
 intro j q hj;by_cases e:j=t
 ·subst e;rw[h_same]at hj ⊢;exact hj
 ·rw[h_ne e]at hj;have:j<c:=A1T fun h=>by rw[hG j h]at hj;cases hj
  rw[h_ne e,hnO,h_ne e];exact hj
theorem C0c{G:Hp}{t c:Nat}{b0 b1:Blk}(hG:∀ j,c<=j->G j=none)(htc:t<c):Sym.Sub (G.upd t b0) ((G.upd t b0).upd c b1):=by
 intro j q hj;have:j<c:=A1T fun h=>by rw[hnO,hG j h]at hj;cases hj
 rw[hnO];exact hj
theorem c_exp32(r:Ru)(hk:W5 r.decls):∀ (m:Nat) (e:Ex),e.sz<m->e.sz<=100000000->(∃ q,msM e=some q)->∀ (s:Int × Int) (H:Hp) (cc t:Nat) (ht:H t=some (ckB r s)) (htc:t<cc),
  AC Tryz.prog 164 [.ptr t 0,e.v] H cc (fun v H' c'=>v=.tup []/\H'=H.upd t (ckB r (upS s (erE r e)))):=by
 intro m
 induction m with
 |zero=>intro e h;omega
 |succ m ih =>
 intro e hm hB ⟨q0,hq0⟩ s H cc t ht htc;have hal:Ex.szs e.args<e.sz:=by cases e with|mk k v n a p=>rw[Ex.sz];show Ex.szs a<_;omega
 have hargs:∀ x∈e.args,x.sz<=Ex.szs e.args:=fun x hx=>Ex.szs_mem hx;have hll:=Ex.szs_len e.args;have hms:=C1i hq0;have h22:=C7k hq0;have hknd:∀ x∈e.args,x.kind<=24:=fun x hx=>by obtain⟨q,hq⟩:=hms x hx;exact C1h hq
 rw[E2z,Ex.v_w];dsimp only[Ex.w];have ih:∀ x∈e.args, ∀ (s:Int × Int) (H:Hp) (cc t:Nat) (ht:H t=some (ckB r s)) (htc:t<cc),AC Tryz.prog 164 [.ptr t 0,x.v] H cc (fun v H' c'=>v=.tup []/\H'=H.upd t (ckB r (upS s (erE r x)))):=fun x hx=>ih x (by have:=hargs x hx;omega) (by have:=hargs x hx;omega) (hms x hx);have hk1:=c_inE32 e.kind;have hden:=fun (s:Int × Int) (H:Hp) (cc t:Nat) (ht:H t=some (ckB r s)) (htc:t<cc)=>c_den32 r hk s H cc t ht htc e.name (kdE e.kind) e.pos;generalize ek:e.kind=k at *;generalize e.value=v at *;generalize e.name=n at *;generalize e.args=a at *;generalize e.pos=p at *;refine AC.bodyT A2 rfl (A0D rfl) fun hfr=>?_;repeat' (apply wr<;>try simp only[go_sem,seval])
 obtain⟨G,hG⟩:∃ G,G=H.upd cc ⟨0,true,[I64 k,I64 v,.str n,G9 a,I64 p]⟩:=⟨_,rfl⟩;have hGc:∀ b,(G.upd t b) cc=some ⟨0,true,[I64 k,I64 v,.str n,G9 a,I64 p]⟩:=fun b=>by rw[hnO,hG,h_same]
 have hGn:∀ j,cc+1<=j->G j=none:=fun j hj=>by rw[hG,hnO];exact hfr j (by omega)
 have hGt:G=G.upd t (ckB r s):=by rw[upd_same];rw[hG,hnO];exact ht
 rw[<- hG,hGt];refine A9 (fun i:Nat=>[(0,.ptr t 0),(3,.ptr cc 0),(10,G9 a),(11,I64 a.length),(12,I64 i)]) (fun i=>G.upd t (ckB r (upS s (U6 r (a.take i))))) (fun i c=>cc+1<=c/\i<=a.length) (fun i=>a.length-i) 0 (by simp[C1,tm,Tm.upd]) (by rw[A1I,U6,K6];exact Sub.refl _) ⟨by omega,A0O _⟩ ?_;rintro i c ⟨h1c,hki⟩;by_cases hlt:i<a.length
 ·have hd:=dtz hlt;have hg:=A0B hlt;have hw:=w64 (n:=(i:Int)+1);have hc:=ih _ (A0L hlt);have het:=B2f (r:=r) hg;generalize a[i]=x at hg hc het;rw[Ex.v_w]at hc;have ne0:=A0m t c (by omega);repeat' (apply wr<;>try simp only[go_sem,seval,hd,hg,Ex.v_w,h_same,A5])
  refine AC.call (hc (upS s (U6 r (a.take i))) _ _ t (by rw[hnO,h_same]) (by omega)) ?_;rintro v' H' c' ⟨rfl,rfl⟩ hcc;simp only[go_sem,seval];repeat' (apply wr<;>try simp only[go_sem,seval,hw])
  refine⟨i+1,by simp,?_,inv ⟨by omega,by omega⟩,by omega⟩;rw[K5 (B5l _ _), <- het];exact A8i (fun j hj=>hGn j (by omega)) (by omega)
 have hd:=dfz hlt;rw[A0M (by omega)];repeat' ((with_reducible first|apply wr|refine cpc hk1 ?_|fail)<;>try simp only[go_sem,seval,hd,hGc])
 refine⟨by and_intros<;>(rw[hnO];exact hGn _ (by omega)),?_⟩;refine AC.call (hden (upS s (U6 r a)) _ _ t h_same (by omega)) ?_;rintro v' H' c' ⟨rfl,rfl⟩ hcc;rw[A5,K5 (B5l _ _)];obtain⟨s1,hs1⟩:∃ s1,s1=upS s ((U6 r a).or (dnE r n (kdE k) p)):=⟨_,rfl⟩;have nz1:NzE ((U6 r a).or (dnE r n (kdE k) p)):=(B5l _ _).or (B1n _ _ _ _);rw[<- hs1, <- K5 nz1, <- hs1];clear hs1;have kL:∀ c2:Nat,c+9<=c2->IW Tryz.prog 61 (.loop (pz Tryz.prog 164 (.i (.o (.i (.o (.i .h))))))) ⟨tm [(0,.ptr t 0),(3,.ptr cc 0),(6,I64 (A0h k a)),(45,G9 a),(46,I64 a.length),(47,I64 0)],G.upd t (ckB r s1),c2⟩ (bk 3 (rt [] fun v H' c' => ∃ v2 H2,GL H' [v] H2 [v2]/\v2=.tup []/\H2=H.upd t (ckB r (upS s1 (if (a.all fun x=>L7 x.kind == A0h k a)=true then none else some (p,49)))))):=by
  intro c2 hc2;generalize A0h k a=wnt;refine A9 (fun i:Nat=>[(0,.ptr t 0),(3,.ptr cc 0),(6,I64 wnt),(45,G9 a),(46,I64 a.length),(47,I64 i)]) (fun i=>G.upd t (ckB r (upS s1 (if ((a.take i).all fun x=>L7 x.kind == wnt)=true then none else some (p,49))))) (fun i c=>cc+1<=c/\i<=a.length) (fun i=>a.length-i) 0 (by simp[C1,tm,Tm.upd]) (by rw[A1I,List.all_nil,if_pos rfl,K6];exact Sub.refl _) ⟨by omega,A0O _⟩ ?_;rintro i c3 ⟨h3c,hki3⟩;by_cases hlt3:i<a.length
  ·have hd3:=dtz hlt3;have hg3:=A0B hlt3;have hw3:=w64 (n:=(i:Int)+1);have hat:=A0u (fun x:Ex=>L7 x.kind == wnt) a i _ hg3;have hty:=c_typ32 _ (hknd _ (A0L hlt3));generalize a[i]=x at hg3 hat hty;obtain⟨o,ho⟩:∃ o:Er,o=if ((a.take i).all fun x=>L7 x.kind == wnt)=true then none else some (p,49):=⟨_,rfl⟩
   rw[<- ho];have ne0:=R9 t c3 cc (by omega);by_cases hx:L7 x.kind=wnt
   ·have hxn:(L7 x.kind != wnt)=false:=by simp[hx]
    repeat' ((with_reducible first|apply wr|refine cpc hty ?_|fail)<;>try simp only[go_sem,seval,hd3,hg3,hw3,Ex.v_w,h_same,A5,hxn])
    refine⟨i+1,by simp,?_,inv ⟨by omega,by omega⟩,by omega⟩;rw[hat,show (L7 x.kind == wnt)=true by simpa using hx,A3H, <- ho];exact C0c (fun j hj=>hGn j (by omega)) (by omega)
   ·have hxn:(L7 x.kind != wnt)=true:=by simp[hx]
    repeat' ((with_reducible first|apply wr|refine cpc hty ?_|fail)<;>try simp only[go_sem,seval,hd3,hg3,Ex.v_w,ne0,h_same,A5,hGc,hxn])
    refine AC.call (c_fail32 r (upS s1 o) _ _ t (by rw[hnO,h_same]) (by omega) p 49) ?_;rintro v' H' c4 ⟨rfl,rfl⟩ hcc4;simp only[go_sem,seval];repeat' (apply wr<;>try simp only[go_sem,seval,hw3])
    refine⟨i+1,by simp,?_,inv ⟨by omega,by omega⟩,by omega⟩;have eo:upS (upS s1 o) (some (p,49))=upS s1 (some (p,49)):=by
     rw[ho];split
     ·rw[K6]
     ·exact C5c s1 p 49 (by decide)
    rw[hat,show (L7 x.kind == wnt)=false by simpa using hx,A3V,if_neg (by decide),eo];exact A8i (fun j hj=>hGn j (by omega)) (by omega)
  have hd3:=dfz hlt3;rw[A0M (by omega)];repeat' (apply wr<;>try simp only[go_sem,seval,hd3])
  refine⟨_,_,?_,rfl,rfl⟩;rw[hG];exact B3w hfr htc
 simp only[go_sem,seval];by_cases ka:k=11\/k=23\/k=24
 ·have ew:A0h k a=2:=by unfold A0h;rw[if_pos ka]
  rw[ew]at kL ⊢;rcases ka with rfl|rfl|rfl
  all_goals (repeat' (apply wr<;>try simp only[go_sem,seval,hGc]))
  all_goals exact kL _ hcc
 have ka1:(k == 11)=false:=by simp;omega
 have ka2:(k == 23)=false:=by simp;omega
 have ka3:(k == 24)=false:=by simp;omega
 by_cases kb:k=21\/k=22
 ·have hl2:=h22 kb;obtain⟨x0,l0,ha⟩:∃ x l,a=x :: l:=by
   cases a with
   |nil=>simp at hl2
   |cons x l=>exact⟨x,l,rfl⟩
  have ew:A0h k a=L7 x0.kind:=by rw[ha];unfold A0h;rw[if_neg ka,if_pos kb]
  have hg0:a[0]? = some x0:=by rw[ha];rfl
  have hty:=c_typ32 _ (hknd x0 (by rw[ha];exact A0H));rw[ew]at kL ⊢;rcases kb with rfl|rfl
  all_goals (repeat' ((with_reducible first|apply wr|refine cpc hty ?_|fail)<;>try simp only[go_sem,seval,hGc,ka1,ka2,ka3,hg0,Ex.v_w]))
  all_goals exact kL _ hcc
 have ew:A0h k a=1:=by unfold A0h;rw[if_neg ka,if_neg kb]
 rw[ew]at kL ⊢;have kb1:(k == 21)=false:=by simp;omega
 have kb2:(k == 22)=false:=by simp;omega
 repeat' (apply wr<;>try simp only[go_sem,seval,hGc,ka1,ka2,ka3,kb1,kb2])
 exact kL _ hcc
theorem B2s{H:Hp}{i j:Nat}{a b:Blk}(h:i≠j):(H.upd i a).upd j b=(H.upd j b).upd i a:=by
 funext k
 by_cases e:k=j
 ·subst e;rw[h_same,h_ne (Ne.symm h),h_same]
 ·rw[h_ne e];by_cases e2:k=i
  ·subst e2;rw[h_same,h_same]
  ·rw[h_ne e2,h_ne e2,h_ne e]
theorem B3c{H:Hp}{t c:Nat}{b1 b:Blk}(hG:∀ j,c<=j->H j=none)(htc:t<c):Sym.Sub (H.upd t b) ((H.upd c b1).upd t b):=by
 rw[<- B2s (Nat.ne_of_lt htc)];exact C0c hG htc
theorem C5e(k:Int)(b:Bool):L7 k=(if b=true then 2 else 1)↔(L7 k == 2)=b:=by
 unfold L7;cases b<;>cases C4p k<;>simp
theorem c_blk32(r:Ru)(hk:W5 r.decls):∀ (m:Nat) (l:List Pb.St) (d:Nat),Pb.St.szs l<m->Pb.St.szs l<=100000000->F8 d l=true->∀ (s:Int × Int) (H:Hp) (cc t:Nat) (ht:H t=some (ckB r s)) (htc:t<cc),
  AC Tryz.prog 103 [.ptr t 0,D3 l] H cc (fun v H' c'=>v=.tup []/\H'=H.upd t (ckB r (upS s (erB r l)))):=by
 intro m
 induction m with
 |zero=>intro l d h;omega
 |succ m ih =>
 intro l d hm hB hv s H cc t ht htc;have hl:=Pb.St.szs_len l;refine AC.bodyT A2 rfl (A0D rfl) fun hfr=>?_;repeat' (apply wr<;>try simp only[go_sem,seval])
 have hHt:H=H.upd t (ckB r s):=(upd_same ht).symm;refine A9 (fun i:Nat=>[(0,.ptr t 0),(9,D3 l),(10,I64 l.length),(11,I64 i)]) (fun i=>H.upd t (ckB r (upS s (erB r (l.take i))))) (fun i c=>cc<=c/\i<=l.length) (fun i=>l.length-i) 0 (by simp[C1,tm,Tm.upd]) (by rw[A1I,erB,K6, <- hHt];exact Sub.refl _) ⟨by omega,A0O _⟩ ?_;rintro i c ⟨h1c,hki⟩;by_cases hlt:i<l.length
 ·have hd:=dtz hlt;have hg:=A0B hlt;have hw:=w64 (n:=(i:Int)+1);have hsx:=Pb.St.szs_mem (A0L hlt);obtain⟨v1,v2,v3⟩:=A8w (A6i hv _ (A0L hlt));have het:=B6s (r:=r) hg;rw[D4j]at het;generalize l[i]=x at hg hsx v1 v2 v3 het;have hsa:Ex.szs x.args<x.sz:=by cases x with|mk k n t a x y p=>rw[Pb.St.sz];show Ex.szs a<_;omega
  have hal:=Ex.szs_len x.args;have hX:=ih x.thn (d+1) (by have:=x.sz_thn;omega) (by have:=x.sz_thn;omega) v2;have hY:=ih x.els (d+1) (by have:=x.sz_els;omega) (by have:=x.sz_els;omega) v3;have hk1:=c_inS32 x.kind;obtain⟨s0,hs0⟩:∃ s0,s0=upS s (erB r (l.take i)):=⟨_,rfl⟩;have hfin:upS s (erB r (l.take (i+1)))=upS s0 ((((dnE r x.name (kdS x.kind) x.pos).or (erA r (x.kind == 2) x.args)).or (erB r x.thn)).or (erB r x.els)):=by rw[het, <- K5 (B3o _ _), <- hs0]
  rw[<- hs0];have ne0:=A0m t c (by omega);repeat' ((with_reducible first|apply wr|refine cpc hk1 ?_|fail)<;>try simp only[go_sem,seval,hd,hg,Pb.St.v_w,h_same,A5])
  obtain⟨G,hG⟩:∃ G,G=H.upd c ⟨0,true,[I64 x.kind,.str x.name,.str x.text,G9 x.args,D3 x.thn,D3 x.els,I64 x.pos]⟩:=⟨_,rfl⟩;have hGc:∀ b,(G.upd t b) c=some ⟨0,true,[I64 x.kind,.str x.name,.str x.text,G9 x.args,D3 x.thn,D3 x.els,I64 x.pos]⟩:=fun b=>by rw[hnO,hG,h_same]
  have hGn:∀ j,c+1<=j->G j=none:=fun j hj=>by rw[hG,hnO];exact hfr j (by omega)
  rw[B2s (by omega), <- hG];refine⟨by and_intros<;>(rw[hnO];exact hGn _ (by omega)),?_⟩;refine AC.call (c_den32 r hk s0 _ _ t h_same (by omega) x.name (kdS x.kind) x.pos) ?_;rintro v' H' c2 ⟨rfl,rfl⟩ hc2;rw[A5];obtain⟨s1,hs1⟩:∃ s1,s1=upS s0 (dnE r x.name (kdS x.kind) x.pos):=⟨_,rfl⟩;rw[A2X,A2X, <- K5 (B1n _ _ _ _), <- hs1]at hfin;rw[<- hs1];have kL:∀ c3:Nat,c+1<=c3->IW Tryz.prog 56 (.loop (pz Tryz.prog 103 (.o (.i (.i (.i .h)))))) ⟨tm [(0,.ptr t 0),(5,.ptr c 0),(6,I64 (if (x.kind == 2)=true then 2 else 1)),(9,D3 l),(10,I64 l.length),(11,I64 i),(28,G9 x.args),(29,I64 x.args.length),(30,I64 0)],G.upd t (ckB r s1),c3⟩ (bk 2 (sq Tryz.prog 56 (pz Tryz.prog 103 (.o (.o (.o (.o (.i .h)))))) (bk 1 (sq Tryz.prog 56 (pz Tryz.prog 103 (.i (.i (.o (.o (.i .h))))))
    (lp (fun i:Nat=>[(0,DV.ptr t 0),(9,D3 l),(10,I64 l.length),(11,I64 i)]) (fun i:Nat=>H.upd t (ckB r (upS s (erB r (l.take i))))) (fun (i c:Nat)=>cc<=c/\i<=l.length) (fun i:Nat=>l.length-i) (l.length-i) (bk 0 (rt [] fun v H' c' => ∃ v2 H2,GL H' [v] H2 [v2]/\v2=DV.tup []/\H2=H.upd t (ckB r (upS s (erB r l)))))))))):=by
   intro c3 hc3;obtain⟨wnt,hwnt⟩:∃ wnt:Int,wnt=if (x.kind == 2)=true then 2 else 1:=⟨_,rfl⟩
   rw[<- hwnt];refine A9 (fun j:Nat=>[(0,.ptr t 0),(5,.ptr c 0),(6,I64 wnt),(9,D3 l),(10,I64 l.length),(11,I64 i),(28,G9 x.args),(29,I64 x.args.length),(30,I64 j)]) (fun j=>G.upd t (ckB r (upS s1 (erA r (x.kind == 2) (x.args.take j))))) (fun j c4=>c+1<=c4/\j<=x.args.length) (fun j=>x.args.length-j) 0 (by simp[C1,tm,Tm.upd]) (by rw[A1I,erA,K6];exact Sub.refl _) ⟨by omega,A0O _⟩ ?_;rintro j c4 ⟨h4c,hkj⟩;by_cases hlt2:j<x.args.length
   ·have hd2:=dtz hlt2;have hg2:=A0B hlt2;have hw2:=w64 (n:=(j:Int)+1);have hxs:=Ex.szs_mem (A0L hlt2);have hmy:=v1 _ (A0L hlt2);have heA:=B6t (r:=r) (b:=x.kind == 2) hg2;generalize x.args[j]=y at hg2 hxs hmy heA;have hex:=c_exp32 r hk _ y (A1O _) (by omega) hmy;obtain⟨qy,hqy⟩:=hmy;have hty:=c_typ32 _ (C1h hqy);rw[Ex.v_w]at hex;obtain⟨o,ho⟩:∃ o,o=erA r (x.kind == 2) (x.args.take j):=⟨_,rfl⟩;have hno:NzE o:=by rw[ho];exact C7a _ _ _
    have htw:=C5e y.kind (x.kind == 2);rw[<- hwnt]at htw;rw[<- ho];rw[<- ho, <- A2X]at heA;have ne0:=R9 t c c4 (by omega);repeat' (apply wr<;>try simp only[go_sem,seval,hd2,hg2,Ex.v_w,h_same,A5])
    refine AC.call (hex (upS s1 o) _ _ t (by rw[hnO,h_same]) (by omega)) ?_;rintro v' H' c5 ⟨rfl,rfl⟩ hc5;rw[K5 hno];simp only[go_sem,seval];by_cases hx:L7 y.kind=wnt
    ·have hxn:(L7 y.kind != wnt)=false:=by simp[hx]
     repeat' ((with_reducible first|apply wr|refine cpc hty ?_|fail)<;>try simp only[go_sem,seval,hw2,ne0,h_same,hxn])
     refine⟨j+1,by simp,?_,inv ⟨by omega,by omega⟩,by omega⟩;rw[heA,if_pos (htw.1 hx),A3K];exact A8i (fun j hj=>hGn j (by omega)) (by omega)
    ·have hxn:(L7 y.kind != wnt)=true:=by simp[hx]
     repeat' ((with_reducible first|apply wr|refine cpc hty ?_|fail)<;>try simp only[go_sem,seval,ne0,h_same,hxn])
     refine AC.call (c_fail32 r (upS s1 (o.or (erE r y))) _ _ t h_same (by omega) y.pos 49) ?_;rintro v' H' c6 ⟨rfl,rfl⟩ hc6;simp only[go_sem,seval,A5];repeat' (apply wr<;>try simp only[go_sem,seval,hw2])
     refine⟨j+1,by simp,?_,inv ⟨by omega,by omega⟩,by omega⟩;rw[K5 (hno.or (C6z _ _)),heA,if_neg (fun h=>hx (htw.2 h))];exact A8i (fun j hj=>hGn j (by omega)) (by omega)
   have hd2:=dfz hlt2;rw[A0M (by omega)];repeat' (apply wr<;>try simp only[go_sem,seval,hd2,hGc])
   refine AC.call (hX (upS s1 (erA r (x.kind == 2) x.args)) _ _ t h_same (by omega)) ?_;rintro v' H' c5 ⟨rfl,rfl⟩ hc5;rw[A5,K5 (C7a _ _ _)];simp only[go_sem,seval];repeat' (apply wr<;>try simp only[go_sem,seval,hGc])
   refine AC.call (hY (upS s1 ((erA r (x.kind == 2) x.args).or (erB r x.thn))) _ _ t h_same (by omega)) ?_;rintro v' H' c6 ⟨rfl,rfl⟩ hc6;rw[A5,K5 ((C7a _ _ _).or (B3o _ _))];simp only[go_sem,seval];repeat' (apply wr<;>try simp only[go_sem,seval,hw])
   refine⟨i+1,by simp,?_,inv ⟨by omega,by omega⟩,by omega⟩;rw[hfin,A2X,hG];exact B3c (fun j hj=>hfr j (by omega)) (by omega)
  simp only[go_sem,seval];cases hb2:(x.kind == 2) with
  |true =>
   rw[hb2]at kL;repeat' (apply wr<;>try simp only[go_sem,seval,hGc,hb2])
   exact kL _ (by omega)
  |false =>
   rw[hb2]at kL;repeat' (apply wr<;>try simp only[go_sem,seval,hGc,hb2])
   exact kL _ (by omega)
 have hd:=dfz hlt;rw[A0M (by omega)];repeat' (apply wr<;>try simp only[go_sem,seval,hd])
 exact⟨_,_,GL.refl _ _,rfl,rfl⟩
abbrev C3b(l:List (List UInt8)):Blk:=⟨0,true,[.mpc .s (mkK (V0 l)) (mvV (V0 l))]⟩
theorem c_head1(r:Ru)(s:Int × Int)(l:List (List UInt8))(nm:List UInt8)(p val most:Int)(H:Hp)(cc t a b mm:Nat)(ht:H t=some (ckB r s))(ha:H a=some ⟨0,true,[.ptr t 0]⟩)(hb:H b=some ⟨0,true,[.mid mm]⟩)(hm:H mm=some (C3b l))
  (htc:t<cc) (hac:a<cc) (hbc:b<cc) (hmc:mm<cc) (hta:t≠a) (htb:t≠b) (htm:t≠mm) (hbm:b≠mm) (ham:a≠mm) (hab:a≠b) :
  AC Tryz.prog 172 [.str nm,I64 p,I64 val,I64 most,.ptr a 0,.ptr b 0] H cc (fun v H' c'=>v=.tup []/\H'=(H.upd t (ckB r (upS s ((if val>most then some (p,5) else none:Er).or (if l.contains nm=true then some (p,7) else none))))).upd mm (C3b (A7x l nm))):=by
 refine AC.bodyT A2 rfl (A0D rfl) fun hfr=>?_;have hlk:=D5y nm l;have hmu:=fun H c id u=>D5x nm l H c id u;obtain⟨o1,ho1⟩:∃ o1:Er,o1=if val>most then some (p,5) else none:=⟨_,rfl⟩
 have n1:NzE o1:=by rw[ho1];exact B3n (by decide)
 rw[<- ho1];have hkB:∀ c0,cc<=c0->IW Tryz.prog 24 (pz Tryz.prog 172 (.i (.i .h))) ⟨tm [(0,.str nm),(1,I64 p),(4,.ptr a 0),(5,.ptr b 0)],H.upd t (ckB r (upS s o1)),c0⟩ (rt [] fun v H' c' => ∃ v2 H2,GL H' [v] H2 [v2]/\v2=.tup []/\H2=(H.upd t (ckB r (upS s (o1.or (if l.contains nm=true then some (p,7) else none))))).upd mm (C3b (A7x l nm))):=by
  intro c0 hc0;have ne0:=W3 t a b mm (by omega);cases hc:l.contains nm with
  |false =>
   rw[hc]at hlk;rw[if_neg (by decide),A3K];repeat' (apply wr<;>try simp only[go_sem,seval,hb,hm,hlk,hmu,ne0])
   exact⟨_,_,GL.refl _ _,rfl,rfl⟩
  |true =>
   rw[hc]at hlk;rw[if_pos rfl];repeat' (apply wr<;>try simp only[go_sem,seval,ha,hb,hm,hlk,ne0])
   refine AC.call (c_fail32 r (upS s o1) _ _ t h_same (by omega) p 7) ?_;rintro v' H' c2 ⟨rfl,rfl⟩ hc2;rw[A5,K5 n1];simp only[go_sem,seval];repeat' (apply wr<;>try simp only[go_sem,seval,hb,hm,hmu,ne0])
   exact⟨_,_,GL.refl _ _,rfl,rfl⟩
 have ne0:=W3 t a b mm (by omega);by_cases hv:val>most
 ·have qv:decide (val>most)=true:=by simpa using hv
  rw[if_pos hv]at ho1;rw[ho1]at hkB ⊢;repeat' (apply wr<;>try simp only[go_sem,seval,ha,qv])
  refine AC.call (c_fail32 r s _ _ t ht (by omega) p 5) ?_;rintro v' H' c2 ⟨rfl,rfl⟩ hc2;simp only[go_sem,seval];repeat' ((with_reducible first|refine H9 (p:=IW _ _ (pz Tryz.prog 172 (.i (.i .h))) _ _) ?_|refine wr ?_|fail)<;>try simp only[go_sem,seval])
  exact IW.stage (by simp[C1,tm,Tm.upd]) (hkB _ hc2)
 ·have qv:decide (val>most)=false:=by simpa using hv
  rw[if_neg hv]at ho1;rw[ho1,K6,upd_same ht]at hkB;rw[ho1];repeat' ((with_reducible first|refine H9 (p:=IW _ _ (pz Tryz.prog 172 (.i (.i .h))) _ _) ?_|refine wr ?_|fail)<;>try simp only[go_sem,seval,qv])
  exact IW.stage (by simp[C1,tm,Tm.upd]) (hkB _ (A0E _))
def hdH(H:Hp)(r:Ru)(t cc:Nat)(s:Int × Int)(l:List (List UInt8)):Hp:=((((H.upd t (ckB r s)).upd cc ⟨0,true,[.ptr t 0]⟩).upd (cc+1) ⟨0,true,[C3 r.decls,C7 r.modes]⟩).upd (cc+2) (C3b l)).upd (cc+3) ⟨0,true,[.mid (cc+2)]⟩
theorem C1x{H:Hp}{r:Ru}{t cc:Nat}{s:Int × Int}{l:List (List UInt8)}(htc:t<cc):hdH H r t cc s l t=some (ckB r s):=by
 unfold hdH;rw[hnO,hnO,hnO,hnO,h_same]
theorem C8f{H:Hp}{r:Ru}{t cc:Nat}{s:Int × Int}{l:List (List UInt8)}:hdH H r t cc s l cc=some ⟨0,true,[.ptr t 0]⟩:=by
 unfold hdH;rw[hnO,hnO,hnO,h_same]
theorem C1z{H:Hp}{r:Ru}{t cc:Nat}{s:Int × Int}{l:List (List UInt8)}:hdH H r t cc s l (cc+1)=some ⟨0,true,[C3 r.decls,C7 r.modes]⟩:=by
 unfold hdH;rw[hnO,hnO,h_same]
theorem C8e{H:Hp}{r:Ru}{t cc:Nat}{s:Int × Int}{l:List (List UInt8)}:hdH H r t cc s l (cc+2)=some (C3b l):=by
 unfold hdH;rw[hnO,h_same]
theorem C8d{H:Hp}{r:Ru}{t cc:Nat}{s:Int × Int}{l:List (List UInt8)}:hdH H r t cc s l (cc+3)=some ⟨0,true,[.mid (cc+2)]⟩:=by
 unfold hdH;rw[h_same]
theorem C8c{H:Hp}{r:Ru}{t cc:Nat}{s:Int × Int}{l:List (List UInt8)}(htc:t<cc)(hfr:∀ i,cc<=i->H i=none)(j:Nat)(hj:cc+4<=j):hdH H r t cc s l j=none:=by
 unfold hdH;rw[hnO,hnO,hnO,hnO,hnO];exact hfr j (by omega)
theorem C1y{H:Hp}{r:Ru}{t cc:Nat}{s:Int × Int}{l:List (List UInt8)}(j:Nat)(hj:j<cc)(hjt:j≠t):hdH H r t cc s l j=H j:=by
 unfold hdH;rw[hnO,hnO,hnO,hnO,h_ne hjt]
theorem B8x{H X:Hp}{r:Ru}{t cc:Nat}{s:Int × Int}{l:List (List UInt8)}(htc:t<cc)(hfr:∀ i,cc<=i->H i=none)(ht:X t=some (ckB r s))(h0:X cc=some ⟨0,true,[.ptr t 0]⟩)(h1:X (cc+1)=some ⟨0,true,[C3 r.decls,C7 r.modes]⟩)(h2:X (cc+2)=some (C3b l))(h3:X (cc+3)=some ⟨0,true,[.mid (cc+2)]⟩)
  (ho:∀ j,j<cc->j≠t->X j=H j):Sym.Sub (hdH H r t cc s l) X:=by
 intro j b hj;by_cases hlt:j<cc
 ·by_cases hjt:j=t
  ·subst hjt;rw[C1x htc]at hj;rw[ht];exact hj
  ·rw[C1y j hlt hjt]at hj;rw[ho j hlt hjt];exact hj
 ·have h4:j<cc+4:=A1T fun h=>by rw[C8c htc hfr j h]at hj;cases hj
  have:j=cc\/j=cc+1\/j=cc+2\/j=cc+3:=by omega
  rcases this with rfl|rfl|rfl|rfl
  ·rw[C8f]at hj;rw[h0];exact hj
  ·rw[C1z]at hj;rw[h1];exact hj
  ·rw[C8e]at hj;rw[h2];exact hj
  ·rw[C8d]at hj;rw[h3];exact hj
theorem c_heads32(r:Ru)(hk:W5 r.decls)(s:Int × Int)(H:Hp)(cc t:Nat)(ht:H t=some (ckB r s))(htc:t<cc)(h1:r.decls.length<=1000000000)(h2:r.modes.length<=1000000000):
  AC Tryz.prog 97 [.ptr t 0,r.v] H cc (fun v H' c'=>v=.tup []/\H'=H.upd t (ckB r (upS s (A7a r)))):=by
 have hrv:r.v=.agg [C3 r.decls,C7 r.modes]:=rfl;rw[hrv];have hkt:∀ i,W5 (r.decls.take i):=fun i d hd=>hk d (List.mem_of_mem_take hd);refine AC.bodyT A2 rfl (A0D rfl) fun hfr=>?_;have ne0:=A2a t cc (cc+1) (cc+1+1) (cc+1+1+1) (by omega);repeat' (apply wr<;>try simp only[go_sem,seval,B0q,ne0,h_same,A5])
 refine A9 (fun q:Nat × List (List UInt8)=>[(3,.ptr (cc+1) 0),(5,.func 172 [] [.ptr cc 0,.ptr (cc+1+1+1) 0]),(13,C3 r.decls),(14,I64 r.decls.length),(15,I64 q.1)]) (fun q=>hdH H r t cc (upS s (erD [] (r.decls.take q.1))) q.2)
  (fun q c=>cc+4<=c/\q.1<=r.decls.length/\∀ n,q.2.contains n=(r.decls.take q.1).any (fun d=>d.name == n)) (fun q=>r.decls.length-q.1) (0,[]) (by simp[C1,tm,Tm.upd])
  (by
   dsimp only;rw[A1I,erD,K6];refine B8x htc hfr ?_ ?_ ?_ ?_ h_same ?_
   ·repeat rw[hnO]
    exact ht
   ·repeat rw[hnO]
    exact h_same
   ·repeat rw[hnO]
    exact h_same
   ·rw[hnO];exact h_same
   ·intro j hj hjt
    repeat rw[hnO]) ⟨by omega,A0O _,fun n=>rfl⟩ ?_
 rintro⟨i,l⟩ c ⟨h1c,hki,hsn⟩;dsimp only at hki hsn ⊢;by_cases hlt:i<r.decls.length
 ·have hd:=dtz hlt;have hg:=A0B hlt;have hw:=w64 (n:=(i:Int)+1);have het:=C9a hg;have hnx:=fun n=>A7i (fun d:Dc=>d.name == n) r.decls i _ hg;have hlo:=fun n=>A8n (r.decls.take i) [] n (hkt i);generalize r.decls[i]=d at hg het hnx;have hmo:=c_most32 d.kind;obtain⟨o,ho⟩:∃ o,o=erD [] (r.decls.take i):=⟨_,rfl⟩;have hno:NzE o:=by rw[ho];exact C3j _ _
  rw[<- ho]at het ⊢;have hb0:hdH H r t cc (upS s o) l cc=_:=C8f;have hb1:hdH H r t cc (upS s o) l (cc+1)=_:=C1z;have hb2:hdH H r t cc (upS s o) l (cc+2)=_:=C8e;have hb3:hdH H r t cc (upS s o) l (cc+1+1+1)=_:=C8d;have hbt:hdH H r t cc (upS s o) l t=_:=C1x htc;have hbn:=C8c (s:=upS s o) (l:=l) (r:=r) htc hfr;have hbo:=C1y (H:=H) (cc:=cc) (t:=t) (s:=upS s o) (l:=l) (r:=r);generalize hdH H r t cc (upS s o) l=HH at hb0 hb1 hb2 hb3 hbt hbn hbo ⊢;have ne0:=W3 c t cc (cc+1) (by omega);repeat' ((with_reducible first|apply wr|refine cpc hmo ?_|fail)<;>try simp only[go_sem,seval,hd,hg,A3r,h_same,A5])
  refine⟨by and_intros<;>(rw[hnO];exact hbn _ (by omega)),?_⟩;refine AC.call (c_head1 r (upS s o) l d.name d.pos d.value (A3o d.kind) _ _ t cc (cc+1+1+1) (cc+2) (by rw[hnO];exact hbt) (by rw[hnO];exact hb0) (by rw[hnO];exact hb3) (by rw[hnO];exact hb2) (by omega) (by omega) (by omega) (by omega) (by omega) (by omega) (by omega) (by omega) (by omega) (by omega)) ?_;rintro v' H' c2 ⟨rfl,rfl⟩ hc2;have est:((if d.value>A3o d.kind then some (d.pos,5) else none:Er).or (if l.contains d.name=true then some (d.pos,7) else none))=stD (r.decls.take i) d:=by
   unfold stD
   congr 1
   rw[hsn];have:=hlo d.name;cases ha:(r.decls.take i).any (fun x=>x.name == d.name) with
   |true=>rw[ha]at this;rw[if_pos rfl,if_neg (fun h=>by simpa using (this.1 h).1)]
   |false=>rw[ha]at this;rw[if_neg (by decide),if_pos (this.2 ⟨rfl,rfl⟩)]
  rw[est,K5 hno, <- het];simp only[go_sem,seval];repeat' (apply wr<;>try simp only[go_sem,seval,hw])
  refine⟨(i+1,A7x l d.name),by simp[],?_,inv ⟨by omega,by omega,fun n=>?_⟩,by simp only;omega⟩
  ·refine B8x htc hfr ?_ ?_ ?_ h_same ?_ ?_
   ·rw[hnO,h_same]
   ·repeat rw[hnO]
    exact hb0
   ·repeat rw[hnO]
    exact hb1
   ·repeat rw[hnO]
    exact hb3
   ·intro j hj hjt;rw[hnO,h_ne hjt,hnO];exact hbo j hj hjt
  ·simp only;rw[B5b,hsn,hnx]
   congr 1
   rw[A2G];simp;exact eq_comm
 have hd:=dfz hlt;rw[A0M (by omega)]at hsn ⊢;have hb1:hdH H r t cc (upS s (erD [] r.decls)) l (cc+1)=_:=C1z;repeat' (apply wr<;>try simp only[go_sem,seval,hd,hb1])
 clear hd hlt hki i hb1;have hrp:A7a r=(erD [] r.decls).or (erP r.decls [] r.modes):=rfl;rw[hrp, <- K5 (C3j _ _)];obtain⟨s1,hs1⟩:∃ s1,s1=upS s (erD [] r.decls):=⟨_,rfl⟩;rw[<- hs1];refine A9 (fun q:Nat × List (List UInt8)=>[(5,.func 172 [] [.ptr cc 0,.ptr (cc+1+1+1) 0]),(32,C7 r.modes),(33,I64 r.modes.length),(34,I64 q.1)]) (fun q=>hdH H r t cc (upS s1 (erP r.decls [] (r.modes.take q.1))) q.2)
  (fun q c=>cc+4<=c/\q.1<=r.modes.length/\∀ n,q.2.contains n=(r.decls.any (fun d=>d.name == n) || (r.modes.take q.1).any (fun d=>d.name == n))) (fun q=>r.modes.length-q.1) (0,l) (by simp[C1,tm,Tm.upd])
  (by
   dsimp only;rw[A1I,erP,K6];exact Sub.refl _) ⟨h1c,A0O _,fun n=>by rw[hsn];simp⟩ ?_
 clear hsn h1c c l hs1;rintro⟨i,l⟩ c ⟨h1c,hki,hsn⟩;dsimp only at hki hsn ⊢;by_cases hlt:i<r.modes.length
 ·have hd:=dtz hlt;have hg:=A0B hlt;have hw:=w64 (n:=(i:Int)+1);have het:=C8v (D:=r.decls) hg;have hnx:=fun n=>A7i (fun d:Md=>d.name == n) r.modes i _ hg;have hlo:=fun n=>A8n r.decls (r.modes.take i) n hk;generalize r.modes[i]=d at hg het hnx;obtain⟨o,ho⟩:∃ o,o=erP r.decls [] (r.modes.take i):=⟨_,rfl⟩;have hno:NzE o:=by rw[ho];exact C6y _ _ _
  rw[<- ho]at het ⊢;have hb0:hdH H r t cc (upS s1 o) l cc=_:=C8f;have hb1:hdH H r t cc (upS s1 o) l (cc+1)=_:=C1z;have hb2:hdH H r t cc (upS s1 o) l (cc+2)=_:=C8e;have hb3:hdH H r t cc (upS s1 o) l (cc+1+1+1)=_:=C8d;have hbt:hdH H r t cc (upS s1 o) l t=_:=C1x htc;have hbn:=C8c (s:=upS s1 o) (l:=l) (r:=r) htc hfr;have hbo:=C1y (H:=H) (cc:=cc) (t:=t) (s:=upS s1 o) (l:=l) (r:=r);generalize hdH H r t cc (upS s1 o) l=HH at hb0 hb1 hb2 hb3 hbt hbn hbo ⊢;have ne0:=W3 c t cc (cc+1) (by omega);repeat' (apply wr<;>try simp only[go_sem,seval,hd,hg,A8a,h_same,A5])
  refine AC.call (c_head1 r (upS s1 o) l d.name d.pos d.prio 99 _ _ t cc (cc+1+1+1) (cc+2) (by rw[hnO];exact hbt) (by rw[hnO];exact hb0) (by rw[hnO];exact hb3) (by rw[hnO];exact hb2) (by omega) (by omega) (by omega) (by omega) (by omega) (by omega) (by omega) (by omega) (by omega) (by omega)) ?_;rintro v' H' c2 ⟨rfl,rfl⟩ hc2;have est:((if d.prio>99 then some (d.pos,5) else none:Er).or (if l.contains d.name=true then some (d.pos,7) else none))=stP r.decls (r.modes.take i) d:=by
   unfold stP
   congr 1
   rw[hsn];have:=hlo d.name;cases ha:r.decls.any (fun x=>x.name == d.name) with
   |true=>rw[ha]at this;rw[Bool.true_or,if_pos rfl,if_neg (fun h=>by simpa using (this.1 h).1)]
   |false =>
    rw[ha]at this;cases ha2:(r.modes.take i).any (fun x=>x.name == d.name) with
    |true=>rw[ha2]at this;rw[Bool.false_or,if_pos rfl,if_neg (fun h=>by simpa using (this.1 h).2)]
    |false=>rw[ha2]at this;rw[Bool.false_or,if_neg (by decide),if_pos (this.2 ⟨rfl,rfl⟩)]
  rw[est,K5 hno, <- het];simp only[go_sem,seval];repeat' (apply wr<;>try simp only[go_sem,seval,hw])
  refine⟨(i+1,A7x l d.name),by simp[],?_,inv ⟨by omega,by omega,fun n=>?_⟩,by simp only;omega⟩
  ·refine B8x htc hfr ?_ ?_ ?_ h_same ?_ ?_
   ·rw[hnO,h_same]
   ·repeat rw[hnO]
    exact hb0
   ·repeat rw[hnO]
    exact hb1
   ·repeat rw[hnO]
    exact hb3
   ·intro j hj hjt;rw[hnO,h_ne hjt,hnO];exact hbo j hj hjt
  ·simp only;rw[B5b,hsn,hnx,Bool.or_assoc]
   congr 2
   rw[A2G];simp;exact eq_comm
 have hd:=dfz hlt;rw[A0M (by omega)];repeat' (apply wr<;>try simp only[go_sem,seval,hd])
 refine⟨_,_,GL.less' (fun j b hj=>?_),rfl,rfl⟩;by_cases e:j=t
 ·subst e;rw[h_same]at hj;rw[C1x htc];exact hj
 ·rw[h_ne e]at hj;have:j<cc:=A1T fun h=>by rw[hfr _ h]at hj;cases hj
  rw[C1y j this e];exact hj
theorem c_chk1(x h:Hd):PC Tryz.prog 101 [x.v,.fptr [I64 h.trig,.str h.name,D3 h.body,I64 h.pos]] (.bool (x.trig == h.trig && x.name == h.name)):=by
 rw[A4b];refine PC.go A2 ?_;cases h1:(x.trig == h.trig) with
 |false =>
  repeat' (apply wr<;>try simp only[go_sem,seval,h1])
  exact A3 rfl
 |true =>
  cases h2:(x.name == h.name) with
  |false =>
   repeat' (apply wr<;>try simp only[go_sem,seval,h1,h2])
   exact A3 rfl
  |true =>
   repeat' (apply wr<;>try simp only[go_sem,seval,h1,h2])
   exact A3 rfl
theorem c_Check32(r:Ru)(hB:r.sz<4000000):PC Tryz.prog 48 [r.v] (B4f r):=by
 have hv:=c_Valid r (by omega);have hdl:=A7p r;have hml:=A7o r;have hnm:=c_names r (by omega) (by omega);have hch:B4f r=if L1 r=true then erV (A3s r) else .tup [I64 0,I64 1]:=rfl
 refine PC.ofT A2 rfl (A0D rfl) (by simp[DV.nlL,DV.nl,K4,K3]) (C2i _) ?_;have hrv:r.v=.agg [C3 r.decls,C7 r.modes]:=rfl;cases hvd:L1 r with
 |false =>
  rw[hvd]at hv hch;rw[hch];rw[hrv]at hv ⊢;repeat' ((with_reducible first|apply wr|refine cpc hv ?_|fail)<;>try simp only[go_sem,seval])
  exact A3 rfl
 |true =>
 have hk:=D4z hvd;have hbv:=@B4o _ r hvd;have hms:∀ m∈r.modes,m.sz<=r.sz:=fun m h=>C5m h;rw[hvd]at hv hch;rw[if_pos rfl]at hch;rw[hch,D8s];unfold A3s;rw[<- K5 (C6x r)];have hhd:=fun H cc t ht htc=>c_heads32 r hk (0,0) H cc t ht htc (by omega) (by omega);obtain⟨K,V,hKV⟩:∃ K V,nmV r=.mp .s K V:=⟨_,_,rfl⟩;have hck:∀ s:Int × Int,(⟨0,true,[.mp .s K V,I64 s.1,I64 s.2]⟩:Blk)=ckB r s:=fun s=>by unfold ckB;rw[hKV]
 rw[hKV]at hnm;rw[hrv]at hv hnm hhd ⊢;repeat' ((with_reducible first|apply wr|refine cpc hv ?_|refine cpc hnm ?_|fail)<;>try simp only[go_sem,seval])
 refine AC.call (hhd _ _ 1 (by rw[h_same];exact congrArg some (hck (0,0))) (by omega)) ?_;rintro v' H' c' ⟨rfl,rfl⟩ hcc;rw[A5];obtain⟨s0,hs0⟩:∃ s0,s0=upS (0,0) (A7a r):=⟨_,rfl⟩;rw[<- hs0];have hb0:∀ b,((Sym.nil.upd 0 ⟨0,true,[C3 r.decls,C7 r.modes]⟩).upd 1 b) 0=some ⟨0,true,[C3 r.decls,C7 r.modes]⟩:=fun b=>rfl;simp only[go_sem,seval];repeat' (apply wr<;>try simp only[go_sem,seval,hb0])
 have hG0:∀ j,1<=j->(Sym.nil.upd 0 ⟨0,true,[C3 r.decls,C7 r.modes]⟩) j=none:=fun j hj=>by rw[hnO];rfl
 generalize Sym.nil.upd 0 ⟨0,true,[C3 r.decls,C7 r.modes]⟩=G0 at hG0 ⊢;clear hb0 hs0 hhd;refine A9 (fun i:Nat=>[(4,.ptr 1 0),(20,C7 r.modes),(21,I64 r.modes.length),(22,I64 i)]) (fun i=>G0.upd 1 (ckB r (upS s0 (erM r (r.modes.take i))))) (fun i c=>2<=c/\i<=r.modes.length) (fun i=>r.modes.length-i) 0 (by simp[C1,tm,Tm.upd]) (by rw[A1I,erM,K6];exact Sub.refl _) ⟨by omega,A0O _⟩ ?_;rintro i c ⟨h1c,hki⟩;by_cases hlt:i<r.modes.length
 ·have hd:=dtz hlt;have hg:=A0B hlt;have hw:=w64 (n:=(i:Int)+1);have hms:=hms _ (A0L hlt);have hbv:=hbv _ (A0L hlt);have het:=B6n (r:=r) hg;generalize r.modes[i]=d at hg hms hbv het;have hhl:=D3p d;obtain⟨s1,hs1⟩:∃ s1,s1=upS s0 (erM r (r.modes.take i)):=⟨_,rfl⟩;rw[<- hs1];have hfin:upS s0 (erM r (r.modes.take (i+1)))=upS s1 (erH r [] d.hds):=by rw[het, <- K5 (D1k _ _), <- hs1]
  have ne0:=A0m 1 c (by omega);repeat' (apply wr<;>try simp only[go_sem,seval,hd,hg,A8a,h_same,A5])
  obtain⟨G,hG⟩:∃ G,G=G0.upd c ⟨0,true,[.str d.name,I64 d.prio,K8 d.hds,I64 d.pos]⟩:=⟨_,rfl⟩;have hGc:∀ b,(G.upd 1 b) c=some ⟨0,true,[.str d.name,I64 d.prio,K8 d.hds,I64 d.pos]⟩:=fun b=>by rw[hnO,hG,h_same]
  have hGn:∀ j,c+1<=j->G j=none:=fun j hj=>by rw[hG,hnO];exact hG0 j (by omega)
  rw[B2s (by omega), <- hG];refine A9 (fun j:Nat=>[(4,.ptr 1 0),(6,.ptr c 0),(20,C7 r.modes),(21,I64 r.modes.length),(22,I64 i),(27,K8 d.hds),(28,I64 d.hds.length),(29,I64 j)]) (fun j=>G.upd 1 (ckB r (upS s1 (erH r [] (d.hds.take j))))) (fun j c2=>c+1<=c2/\j<=d.hds.length) (fun j=>d.hds.length-j) 0 (by simp[C1,tm,Tm.upd]) (by rw[A1I,erH,K6];exact Sub.refl _) ⟨by omega,A0O _⟩ ?_;rintro j c2 ⟨h2c,hkj⟩;by_cases hlt2:j<d.hds.length
  ·have hd2:=dtz hlt2;have hg2:=A0B hlt2;have hw2:=w64 (n:=(j:Int)+1);have hxs:=C5n (A0L hlt2);have hbv:=hbv _ (A0L hlt2);have heH:=C8y (r:=r) hg2;generalize d.hds[j]=x at hg2 hxs hbv heH;have hxe:x.sz=1+x.name.length+Pb.St.szs x.body:=rfl;have hbl:=c_blk32 r hk _ x.body 1 (A1O _) (by omega) hbv;have hik:=c_inH32 x.trig;have hcf:=c_CF_hd (f:=101) (a:=[]) (cs:=[.fptr [I64 x.trig,.str x.name,D3 x.body,I64 x.pos]]) (g:=fun y=>y.trig == x.trig && y.name == x.name) (d.hds.take j) (by rw[A1B];omega) rfl (by simp[DV.nlL,DV.nl,W1]) (fun y _=>c_chk1 y x);obtain⟨o,ho⟩:∃ o,o=erH r [] (d.hds.take j):=⟨_,rfl⟩;have hno:NzE o:=by rw[ho];exact D7b _ _ _
   rw[<- ho]at heH ⊢;have hsl:=fun H=>B3g (xs:=d.hds.map Hd.v) (h:=j) (sz:=4) (by rw[A0C];omega) (A3d _) H;rw[<- List.map_take]at hsl;have ne0:=R9 1 c c2 (by omega);repeat' ((with_reducible first|apply wr|refine cpc hik ?_|fail)<;>try simp only[go_sem,seval,hd2,hg2,A4b,h_same,A5])
   obtain⟨G2,hG2⟩:∃ G2,G2=G.upd c2 ⟨0,true,[I64 x.trig,.str x.name,D3 x.body,I64 x.pos]⟩:=⟨_,rfl⟩;have h2c2:∀ b,(G2.upd 1 b) c2=some ⟨0,true,[I64 x.trig,.str x.name,D3 x.body,I64 x.pos]⟩:=fun b=>by rw[hnO,hG2,h_same]
   have h2c:∀ b,(G2.upd 1 b) c=some ⟨0,true,[.str d.name,I64 d.prio,K8 d.hds,I64 d.pos]⟩:=fun b=>by rw[hnO,hG2,hnO,hG,h_same]
   have h2n:∀ j,c2+1<=j->G2 j=none:=fun j hj=>by rw[hG2,hnO];exact hGn j (by omega)
   rw[B2s (by omega), <- hG2];refine⟨by and_intros<;>(rw[hnO];exact h2n _ (by omega)),?_⟩;refine AC.call (c_den32 r hk (upS s1 o) _ _ 1 h_same (by omega) x.name (kdH x.trig) x.pos) ?_;rintro v' H' c3 ⟨rfl,rfl⟩ hc3;rw[A5,K5 hno];obtain⟨o2,ho2⟩:∃ o2,o2=o.or (dnE r x.name (kdH x.trig) x.pos):=⟨_,rfl⟩;have hno2:NzE o2:=by rw[ho2];exact hno.or (B1n _ _ _ _)
   have heH2:erH r [] (d.hds.take (j+1))=(o2.or (if (d.hds.take j).any (fun y=>y.trig == x.trig && y.name == x.name)=true then some (x.pos,7) else none)).or (erB r x.body):=by
    rw[heH,ho2];unfold stH;simp only[A2X]
   rw[<- ho2];simp only[go_sem,seval];generalize (d.hds.take j).any (fun y=>y.trig == x.trig && y.name == x.name)=bq at hcf heH2;have kE:∀ (s2:Int × Int) (c4:Nat),c2+1<=c4->upS s1 (erH r [] (d.hds.take (j+1)))=upS s2 (erB r x.body)->IW Tryz.prog 67 (pz Tryz.prog 48 (.o (.o (.i (.o (.i .h)))))) ⟨tm [(4,.ptr 1 0),(6,.ptr c 0),(8,.ptr c2 0),(20,C7 r.modes),(21,I64 r.modes.length),(22,I64 i),(27,K8 d.hds),(28,I64 d.hds.length),(29,I64 j)],G2.upd 1 (ckB r s2),c4⟩ (bk 3
      (sq Tryz.prog 67 (pz Tryz.prog 48 (.i (.o (.i (.o (.i .h))))))
       (lp (fun j:Nat=>[(4,DV.ptr 1 0),(6,DV.ptr c 0),(20,C7 r.modes),(21,I64 r.modes.length),(22,I64 i),(27,K8 d.hds),(28,I64 d.hds.length),(29,I64 j)])
        (fun j:Nat=>G.upd 1 (ckB r (upS s1 (erH r [] (d.hds.take j)))))
        (fun j c2=>c+1<=c2/\j<=d.hds.length) (fun j=>d.hds.length-j) (d.hds.length-j)
        (bk 2
         (bk 1
          (sq Tryz.prog 67 (pz Tryz.prog 48 (.o (.i (.i (.o (.i .h))))))
           (lp (fun i:Nat=>[(4,DV.ptr 1 0),(20,C7 r.modes),(21,I64 r.modes.length),(22,I64 i)])
            (fun i:Nat=>G0.upd 1 (ckB r (upS s0 (erM r (r.modes.take i)))))
            (fun i c=>2<=c/\i<=r.modes.length) (fun i=>r.modes.length-i) (r.modes.length-i)
            (bk 0
             (sq Tryz.prog 67 (pz Tryz.prog 48 (.i (.i (.i (.o (.i .h))))))
              (rt [Eng.RV.tmp 2,Eng.RV.tmp 3] fun v H' x =>
               ∃ H2,GL H' [v] H2 [DV.tup [I64 (upS s0 (erM r r.modes)).1,I64 (upS s0 (erM r r.modes)).2]])))))))))):=by
    intro s2 c4 hc4 hs2;repeat' (apply wr<;>try simp only[go_sem,seval,h2c2])
    refine AC.call (hbl s2 _ _ 1 h_same (by omega)) ?_;rintro v' H' c5 ⟨rfl,rfl⟩ hc5;rw[A5, <- hs2];simp only[go_sem,seval];repeat' (apply wr<;>try simp only[go_sem,seval,hw2])
    refine⟨j+1,by simp,?_,inv ⟨by omega,by omega⟩,by omega⟩;rw[hG2];exact B3c (fun j hj=>hGn j (by omega)) (by omega)
   cases bq with
   |true =>
    rw[if_pos rfl]at heH2;repeat' ((first|(with_reducible first|refine wr ?_)|(with_reducible refine wb2 ?_ ?_<;>(intro hb;try simp only[hb]))|(refine AC.call (hcf.lend rfl (GL.one (id:=c2) (b:=⟨0,true,[I64 x.trig,.str x.name,D3 x.body,I64 x.pos]⟩) (h2c2 _) rfl (.cons _ _ _ _ (.same _) (.cons _ _ _ _ (.func _ _ _ _ _ .nil (.cons _ _ _ _ (.ptr 0 _ (A0O _) rfl) .nil)) .nil)))) ?_<;>rintro v' H' c' ⟨rfl,rfl,rfl⟩ hcc)|fail)<;>try simp only[go_sem,seval,h2c2,h2c,hsl])
    refine AC.call (c_fail32 r (upS s1 o2) _ _ 1 h_same (by omega) x.pos 7) ?_;rintro v' H' c5 ⟨rfl,rfl⟩ hc5;rw[A5,K5 hno2];simp only[go_sem,seval];repeat' ((with_reducible first|refine H9 (p:=IW _ _ (pz Tryz.prog 48 (.o (.o (.i (.o (.i .h)))))) _ _) ?_|refine wr ?_|fail)<;>try simp only[go_sem,seval])
    refine IW.stage (by simp[C1,tm,Tm.upd]) (kE _ _ (by omega) ?_);rw[heH2,K5 (hno2.or (fun a b h=>by cases h;decide))]
   |false =>
    rw[if_neg (by decide),A3K]at heH2;repeat' ((first|(with_reducible first|refine H9 (p:=IW _ _ (pz Tryz.prog 48 (.o (.o (.i (.o (.i .h)))))) _ _) ?_|refine wr ?_)|(with_reducible refine wb2 ?_ ?_<;>(intro hb;try simp only[hb]))|(refine AC.call (hcf.lend rfl (GL.one (id:=c2) (b:=⟨0,true,[I64 x.trig,.str x.name,D3 x.body,I64 x.pos]⟩) (h2c2 _) rfl (.cons _ _ _ _ (.same _) (.cons _ _ _ _ (.func _ _ _ _ _ .nil (.cons _ _ _ _ (.ptr 0 _ (A0O _) rfl) .nil)) .nil)))) ?_<;>rintro v' H' c' ⟨rfl,rfl,rfl⟩ hcc)|fail)<;>try simp only[go_sem,seval,h2c,hsl])
    refine IW.stage (by simp[C1,tm,Tm.upd]) (kE _ _ (by omega) ?_);rw[heH2,K5 hno2]
  have hd2:=dfz hlt2;rw[A0M (by omega)];repeat' (apply wr<;>try simp only[go_sem,seval,hd2,hw])
  refine⟨i+1,by simp,?_,inv ⟨by omega,by omega⟩,by omega⟩;rw[hfin,hG];exact B3c (fun j hj=>hG0 j (by omega)) (by omega)
 have hd:=dfz hlt;rw[A0M (by omega)];have hb1:(G0.upd 1 (ckB r (upS s0 (erM r r.modes)))) 1=some (ckB r (upS s0 (erM r r.modes))):=h_same;have hcs:=(hck (upS s0 (erM r r.modes))).symm;have hbn:∀ j,c<=j->(G0.upd 1 (ckB r (upS s0 (erM r r.modes)))) j=none:=fun j hj=>by rw[hnO];exact hG0 j (by omega)
 rw[hcs]at hb1 hbn ⊢;repeat' (apply wr<;>try simp only[go_sem,seval,hd,hb1])
 refine⟨by and_intros<;>exact hG0 _ (by omega),?_⟩;repeat' (apply wr<;>try simp only[go_sem,seval])
 exact A3 rfl
theorem C2h(q:Prg × Int × Int):(B4e q).nl=true:=by
 simp[B4e,Prg.v,Prg.cs,DV.nlL,DV.nl,Q9,K0,A1e,P7]
abbrev cd0:List DV:=[.snil,.snil,.snil,.snil,.snil,I64 0,I64 0]
theorem D5c{ρ : Ren}{v:Value}{p c:Int}(h:VRel ρ (.tup [.agg cd0,I64 p,I64 c]) v):VRel ρ (B4e (B4l,p,c)) v:=by
 obtain⟨bb,rfl,k1,k2⟩:=h.tup_inv;refine .tup _ _ k1 fun j x y hx hy=>?_
 match j with
 |0 =>
  cases hx;have h0:=k2 0 (.agg cd0) y rfl hy;obtain⟨b2,rfl,m1,m2⟩:=h0.agg_inv;refine .agg _ _ m1 fun j x y hx hy=>?_
  match j with
  |0=>cases hx;exact (m2 0 _ y rfl hy).snil_lst
  |1=>cases hx;exact (m2 1 _ y rfl hy).snil_lst
  |2=>cases hx;exact (m2 2 _ y rfl hy).snil_lst
  |3=>cases hx;exact (m2 3 _ y rfl hy).snil_lst
  |4=>cases hx;exact (m2 4 _ y rfl hy).snil_lst
  |5=>cases hx;exact m2 5 _ y rfl hy
  |6=>cases hx;exact m2 6 _ y rfl hy
  |_+7=>cases hx
 |1=>cases hx;exact k2 1 _ y rfl hy
 |2=>cases hx;exact k2 2 _ y rfl hy
 |_+3=>cases hx
theorem Z7{H:Hp}{p c:Int}:∃ H2,GL H [.tup [.agg cd0,I64 p,I64 c]] H2 [B4e (B4l,p,c)] :=
 ⟨H,GL.view fun ρ vs hA=>N6 (fun v h=>D5c h) vs hA⟩
theorem D2n{X0:Hp}{a b eo:Option Nat}{x:Cg}{E:List Ent}{p v m:DV}{t n:Int}{c:Nat}{ds:List DV}(h:GN (optH X0 eo ⟨4,true,cellsL (E.map Ent.v)⟩) 2 a b x c)(he:∀ i,eo=some i->3<=i)(hn:eo=none->E=[])
  (hp:p.one=true) (hv:v.one=true) (hm:m.one=true) :
  ∃ Y,GL (GM (optH X0 eo ⟨4,true,cellsL (E.map Ent.v)⟩) 2 a b (mkP (todoV eo E.length) p v m t n) x) ds Y ds/\Y 2=some ⟨0,true,[A1q x.1,strs x.2,B2i E,p,v,I64 t,I64 n,m]⟩/\∀ j B,j≠2->X0 j=some B->(∀ i,eo=some i->i≠j)->Y j=some B:=by
 have o1:∀ (o:Option Nat) (n:Nat),(todoV o n).one=true:=fun o n=>by cases o<;>rfl
 have heX:∀ i,eo=some i->(optH X0 eo ⟨4,true,cellsL (E.map Ent.v)⟩) i=some ⟨4,true,cellsL (E.map Ent.v)⟩:=fun i hi=>by subst hi;exact h_same
 have g1:=A2h (H:=GM (optH X0 eo ⟨4,true,cellsL (E.map Ent.v)⟩) 2 a b (mkP (todoV eo E.length) p v m t n) x) (k:=2) (o:=a) (n:=x.1.length) (u:=2) (u':=2) (pre:=[]) (suf:=[todoV b x.2.length,todoV eo E.length,p,v,I64 t,I64 n,m]) (xs:=x.1.map Ins.v) (ds:=ds)
  (W6 h) (fun i hi=>⟨A4x h hi,(h.ha i hi).1⟩) (fun e=>by rw[h.an e];rfl) (fun d hd=>by simp at hd;rcases hd with rfl|rfl|rfl|rfl|rfl|rfl|rfl<;>(first|exact o1 _ _|assumption|rfl)) (by simp) (fun y hy=>by obtain⟨z, -,rfl⟩:=A1A.1 hy;rfl)
 obtain⟨Y1,hY1⟩:∃ Y:Hp,Y=(delO (GM (optH X0 eo ⟨4,true,cellsL (E.map Ent.v)⟩) 2 a b (mkP (todoV eo E.length) p v m t n) x) a).upd 2 ⟨0,true,[]++[.lst (x.1.map Ins.v)]++[todoV b x.2.length,todoV eo E.length,p,v,I64 t,I64 n,m]⟩:=⟨_,rfl⟩;rw[<- hY1]at g1;have y1:∀ j,j≠2->(∀ i,a=some i->¬ j=i)->Y1 j=GM (optH X0 eo ⟨4,true,cellsL (E.map Ent.v)⟩) 2 a b (mkP (todoV eo E.length) p v m t n) x j:=fun j h1 h2=>by rw[hY1,h_ne h1,B0 h2]
 have g2:=A2h (H:=Y1) (k:=2) (o:=b) (n:=x.2.length) (u:=1) (u':=1) (pre:=[A1q x.1]) (suf:=[todoV eo E.length,p,v,I64 t,I64 n,m]) (xs:=x.2.map DV.str) (ds:=ds)
  (by rw[hY1,h_same];rfl) (fun i hi=>⟨by rw[y1 i (h.hb i hi).1 (fun j hj e=>h.ne j i hj hi e.symm),A6h hi,A4r],(h.hb i hi).1⟩) (fun e=>by rw[h.bn e];rfl) (fun d hd=>by simp at hd;rcases hd with rfl|rfl|rfl|rfl|rfl|rfl|rfl<;>(first|exact o1 _ _|assumption|rfl)) (by simp) (fun y hy=>by obtain⟨z, -,rfl⟩:=A1A.1 hy;rfl)
 obtain⟨Y2,hY2⟩:∃ Y:Hp,Y=(delO Y1 b).upd 2 ⟨0,true,[A1q x.1]++[.lst (x.2.map DV.str)]++[todoV eo E.length,p,v,I64 t,I64 n,m]⟩:=⟨_,rfl⟩;rw[<- hY2]at g2;have y2:∀ j,j≠2->(∀ i,a=some i->¬ j=i)->(∀ i,b=some i->¬ j=i)->Y2 j=GM (optH X0 eo ⟨4,true,cellsL (E.map Ent.v)⟩) 2 a b (mkP (todoV eo E.length) p v m t n) x j:=fun j h1 h2 h3=>by rw[hY2,h_ne h1,B0 h3,y1 j h1 h2]
 have ab:∀ j B,(optH X0 eo ⟨4,true,cellsL (E.map Ent.v)⟩) j=some B->(∀ i,a=some i->¬ j=i)/\(∀ i,b=some i->¬ j=i):=fun j B hj=>⟨fun i hi e=>(by subst e;have:=(h.ha j hi).2.2;rw[hj]at this;cases this),fun i hi e=>(by subst e;have:=(h.hb j hi).2.2;rw[hj]at this;cases this)⟩;have ob:∀ j B,j≠2->(optH X0 eo ⟨4,true,cellsL (E.map Ent.v)⟩) j=some B->Y2 j=some B:=fun j B h1 hj=>by rw[y2 j h1 (ab j B hj).1 (ab j B hj).2,S0 h hj h1]
 have g3:=A2h (H:=Y2) (k:=2) (o:=eo) (n:=E.length) (u:=4) (u':=4) (pre:=[A1q x.1,strs x.2]) (suf:=[p,v,I64 t,I64 n,m]) (xs:=E.map Ent.v) (ds:=ds)
  (by rw[hY2,h_same];rfl) (fun i hi=>⟨ob i _ (by have:=he i hi;omega) (heX i hi),by have:=he i hi;omega⟩) (fun e=>by rw[hn e];rfl) (fun d hd=>by simp at hd;rcases hd with rfl|rfl|rfl|rfl|rfl|rfl|rfl<;>(first|exact o1 _ _|assumption|rfl)) (by simp) (fun y hy=>by obtain⟨z, -,rfl⟩:=A1A.1 hy;rfl)
 refine⟨_,(g1.trans g2).trans g3,by rw[h_same];rfl,fun j B h1 hj hne=>?_⟩;rw[h_ne h1,B0 (fun i hi e=>hne i hi e.symm),ob j B h1 (by rw[B7 (fun i hi e=>hne i hi e.symm),hj])]
theorem c_PCompile(r:Ru)(hB:r.sz<4000000):PC Tryz.prog 14 [r.v] (B4e (U7 r)):=by
 refine PC.ofT A2 rfl (A0D rfl) (by simp[DV.nlL,DV.nl,K4,K3]) (C2h _) ?_;have hck:=c_Check32 r hB;unfold B4f at hck;obtain⟨R,hR⟩:∃ R,R=U7 r:=⟨_,rfl⟩;rw[<- hR];unfold U7 at hR;cases hv:L1 r with
 |false =>
  rw[hv]at hck hR;rw[if_neg A3O]at hck hR;subst hR;obtain⟨D,M⟩:=r;dsimp only[Ru.v]at hck ⊢;repeat' ((with_reducible first|apply wr|refine cpc hck ?_|fail)<;>try simp only[go_sem,seval])
  rw[I1 (v:=.tup [.agg cd0,I64 0,I64 1]) rfl];exact Z7
 |true =>
  rw[hv]at hck hR;rw[if_pos rfl]at hck hR;cases he:A3s r with
  |some q =>
   obtain⟨p,c⟩:=q;rw[he]at hck hR;have hck:PC Tryz.prog 48 [r.v] (.tup [I64 p,I64 c]):=hck;dsimp only at hR;have hnz:(c != 0)=true:=by
    have h:NzE (A3s r):=by unfold A3s A7a;exact ((C3j _ _).or (C6y _ _ _)).or (D1k _ _)
    simpa using h _ _ he
   subst hR;obtain⟨D,M⟩:=r;dsimp only[Ru.v]at hck ⊢;repeat' ((with_reducible first|apply wr|refine cpc hck ?_|fail)<;>try simp only[go_sem,seval,hnz])
   rw[I1 (v:=.tup [.agg cd0,I64 p,I64 c]) rfl];exact Z7
  |none =>
   rw[he]at hck hR;dsimp only at hR;have hC:ChkR r:=⟨hv,he⟩;have hlen:=hC.lens;have hnil:nmR r []=0:=by show (E7 r []).2=0;rw[hC.nil]
   have hnum:=D7c (r:=r) hC.kd;have hbe:=c_begin r (by omega) (by omega);have hms:(r.modes.map fun m=>m.hds.length).sum+r.modes.length<=1000000:=D8g hC;have hal:(H5 [] (hkM (nmR r) 0 r.modes)).length<=1000000:=A1E (C8b hC).1 (by omega);have hrf:=fun s h1 h2=>C6u (s:=s) hC h1 h2;have hpb:=fun s h1=>D9z (s:=s) hC h1;obtain⟨L,hL⟩:∃ L,L=E0 (nmR r) 0 r.modes:=⟨_,rfl⟩;have hsz:∀ p∈L,St.szs p.2.flatten<=4000000:=fun p hp=>by
    rw[hL]at hp;have h1:=C0i r.modes 0 p hp;have h2:r.sz=(r.decls.map Dc.sz).sum+(r.modes.map Md.sz).sum:=rfl;omega
   have hcm:cmC r=⟨(cgL (nmR r) 0 [] L).1,(cgL (nmR r) 0 [] L).2.2,(cgL (nmR r) 0 [] L).2.1,r.modes.map Md.prio,(r.decls.filter fun d=>d.kind=6).map Dc.value,(cnD r.decls 7:Int),(cnD r.decls 8:Int)⟩:=by
    rw[hL];rfl
   have hparts:=fun H c t ht htc=>c_parts (beC r) (mkK (inL (nmL r))) (mvV (inL (nmL r))) (nmR r) hnum rfl r.decls r.modes hms H c t ht htc hal;have hck:PC Tryz.prog 48 [r.v] (.tup [I64 0,I64 0]):=hck;rw[hcm]at hR;dsimp only at hR;obtain⟨V,hV⟩:∃ V,V=(r.decls.filter fun d=>d.kind=6).map Dc.value:=⟨_,rfl⟩;obtain⟨P,hP⟩:∃ P,P=r.modes.map Md.prio:=⟨_,rfl⟩;obtain⟨m7,h7⟩:∃ m7:Int,m7=(cnD r.decls 7:Int):=⟨_,rfl⟩;obtain⟨m8,h8⟩:∃ m8:Int,m8=(cnD r.decls 8:Int):=⟨_,rfl⟩;obtain⟨mp,hmp⟩:∃ mp,mp=DV.mp .s (mkK (inL (nmL r))) (mvV (inL (nmL r))):=⟨_,rfl⟩;have hbeC:beC r=[.snil,.snil,.snil,M1 P,M1 V,I64 m7,I64 m8,mp]:=by rw[hP,hV,h7,h8,hmp]
   rw[<- hV, <- hP, <- h7, <- h8]at hR;have hgb:=fun (e:DV)=>c_gblock e (M1 P) (M1 V) (mkK (inL (nmL r))) (mvV (inL (nmL r))) m7 m8 (nmR r) hnum;have hem:=fun (e:DV)=>c_emit e (M1 P) (M1 V) mp m7 m8 31 0;rw[<- hmp]at hgb;have hmp1:mp.one=true:=by rw[hmp];rfl
   rw[hbeC]at hbe hparts;clear hcm hnum he hv hms hal hV hP h7 h8 hmp hbeC;generalize nmR r=nm at *;clear hnil hlen hC;obtain⟨D,M⟩:=r;dsimp only[Ru.v]at hck hbe hparts hrf hpb hL ⊢;repeat' ((with_reducible first|apply wr|refine cpc hck ?_|fail)<;>try simp only[go_sem,seval])
   refine AC.call (hbe _ _) ?_;rintro _ _ _ ⟨rfl,rfl,rfl⟩ -;simp only[go_sem,seval];repeat' (apply wr<;>try simp only[go_sem,seval,h_same])
   refine AC.call (hparts _ _ _ h_same (by omega)) ?_;rintro _ _ c2 ⟨rfl,l',q1,q2,rfl⟩ hc2;have hPB:=hpb l' q1;obtain rfl:=hrf l' q1 q2;rw[<- hL]at hPB ⊢;simp only[go_sem,seval];repeat' (apply wr<;>try simp only[go_sem,seval])
   obtain⟨X0,hX⟩:∃ X:Hp,X=((nil.upd 0 ⟨0,true,[C3 D,C7 M]⟩).upd 1 ⟨0,true,[.snil,.snil,.snil,.snil,.snil,I64 0,I64 0]⟩):=⟨_,rfl⟩;rw[<- hX];have x1:X0 1=some ⟨0,true,cd0⟩:=by rw[hX,h_same]
   have x2:X0 2=none:=by rw[hX,h_ne (by decide),h_ne (by decide)];rfl
   have xf:∀ j,2<=j->X0 j=none:=fun j hj=>by rw[hX,hnO,hnO];rfl
   clear hX hparts hbe hck q1 q2 hrf hpb;refine A9 (fun q:Nat × Option Nat × Option Nat × Option Nat=>[(2,.ptr 1 0),(7,.ptr 2 0),(26,C3d L),(27,I64 L.length),(28,I64 q.1)])
    (fun q=>GM (optH X0 q.2.2.2 ⟨4,true,cellsL ((cgL nm 0 [] (L.take q.1)).2.1.map Ent.v)⟩) 2 q.2.1 q.2.2.1 (mkP (todoV q.2.2.2 q.1) (M1 P) (M1 V) mp m7 m8) ((cgL nm 0 [] (L.take q.1)).1,(cgL nm 0 [] (L.take q.1)).2.2))
    (fun q cc=>c2<=cc/\q.1<=L.length/\GN (optH X0 q.2.2.2 ⟨4,true,cellsL ((cgL nm 0 [] (L.take q.1)).2.1.map Ent.v)⟩) 2 q.2.1 q.2.2.1 ((cgL nm 0 [] (L.take q.1)).1,(cgL nm 0 [] (L.take q.1)).2.2) cc /\
     (∀ i,q.2.2.2=some i->3<=i/\i<cc)/\(q.2.2.2=none->q.1=0)/\(cgL nm 0 [] (L.take q.1)).1.length<=4000/\(cgL nm 0 [] (L.take q.1)).2.2.length<=200) (fun q=>L.length-q.1) (0,none,none,none)
    (by simp[C1,tm,Tm.upd]) (by simp only[A1I,cgL];exact Sub.refl _) ⟨A0E _,A0O _,⟨by omega,fun i h=>(by cases h),fun i h=>(by cases h),fun i j h=>(by cases h),fun _=>rfl,fun _=>rfl,fun j hj=>xf j (by omega)⟩,fun i h=>(by cases h),fun _=>rfl,A0O _,A0O _⟩ ?_
   rintro⟨k,a,b,eo⟩ cc ⟨hc,hk,hN0,heo,hen,hl1,hl2⟩;replace hk:k<=L.length:=hk;replace hc:c2<=cc:=hc;replace heo:∀ i,eo=some i->3<=i/\i<cc:=heo;replace hen:eo=none->k=0:=hen;dsimp only at hN0 hl1 hl2 ⊢;obtain⟨x,hx⟩:∃ x:Cg,x=((cgL nm 0 [] (L.take k)).1,(cgL nm 0 [] (L.take k)).2.2):=⟨_,rfl⟩;have hx1:(cgL nm 0 [] (L.take k)).1=x.1:=by rw[hx]
   have hx2:(cgL nm 0 [] (L.take k)).2.2=x.2:=by rw[hx]
   rw[hx1]at hl1;rw[hx2]at hl2;obtain⟨E,hE⟩:∃ E,E=(cgL nm 0 [] (L.take k)).2.1:=⟨_,rfl⟩;have hEl:E.length=k:=by rw[hE,A2j,A1B];omega
   by_cases hlt:k<L.length
   rotate_left
   ·have hd:=dfz hlt;have hkl:k=L.length:=by omega
    rw[<- hx, <- hE]at hN0 ⊢;have hcgx:(if 4000<(cgL nm 0 [] L).1.length\/200<(cgL nm 0 [] L).2.2.length then (B4l,(0:Int),(9:Int)) else (⟨(cgL nm 0 [] L).1,(cgL nm 0 [] L).2.2,(cgL nm 0 [] L).2.1,P,V,m7,m8⟩,0,0))=((⟨x.1,x.2,E,P,V,m7,m8⟩:Prg),(0:Int),(0:Int)):=by
     rw[hkl,A1P]at hx1 hx2 hE;rw[hx1,hx2, <- hE,if_neg (by omega)]
    obtain⟨Y,gY,yb,yo⟩:=D2n (p:=M1 P) (v:=M1 V) (m:=mp) (t:=m7) (n:=m8) (ds:=[.ptr 1 0,.ptr 2 0]) hN0 (fun i hi=>(heo i hi).1) (fun e=>A2K.1 (by rw[hEl,hen e])) rfl rfl hmp1;have ya:=yo 1 _ (by decide) x1 (fun i hi=>by have:=(heo i hi).1;omega);rw[hEl]at gY;repeat' ((with_reducible first|refine H9 (p:=IW _ _ (pz Tryz.prog 14 (.i (.o (.i (.i (.i .h)))))) _ _) ?_|refine wr ?_|fail)<;>try simp only[go_sem,seval,hd])
    refine IW.keep [2,7] [.ptr 1 0,.ptr 2 0] gY ?_;show IW Tryz.prog _ _ ⟨tm [(2,.ptr 1 0),(7,.ptr 2 0)],_,_⟩ _;repeat' (apply wr<;>try simp only[go_sem,seval,ya,yb])
    rw[I1 (v:=B4e (⟨x.1,x.2,E,P,V,m7,m8⟩,0,0)) rfl,hR,hcgx];exact⟨_,GL.refl _ _⟩
   have hd:=dtz hlt;have hg:=A0B hlt;have hw:=w64 (n:=(k:Int)+1) (by have:=hPB.1;omega) (by have:=hPB.1;omega);have hnx:=C9y nm hg;have hszp:=hsz _ (A0L hlt);have hbp:=hPB.2 _ (A0L hlt);generalize L[k]=p at hg hnx hszp hbp;rw[<- hx, <- hE]at hN0 hnx ⊢;rw[hx1]at hnx;have hM:=W6 (mk:=mkP (todoV eo k) (M1 P) (M1 V) mp m7 m8) hN0;have hfr:=fun j (hj:cc<=j)=>A7l (mk:=mkP (todoV eo k) (M1 P) (M1 V) mp m7 m8) hN0 hj;obtain⟨ky,bd⟩:=p;dsimp only at hnx hszp hbp hg;have hgv:(L.map paV)[k]? = some (.agg (pcC ky (A3t bd))):=by rw[A1N,hg];rfl
   have hnc:cc≠2:=by omega
   have hla:=O0 (o:=a) (n:=x.1.length) (fun e=>O6 (hN0.an e));have hnc':=hnc.symm;repeat' ((with_reducible first|refine H9 (p:=IW _ _ (pz Tryz.prog 14 (.o (.o (.o (.o (.o .h)))))) _ _) ?_|refine wr ?_|fail)<;>try simp only[go_sem,seval,hd,hgv,hM,hla,h_same,A5,hnc'])
   obtain⟨B,hBe⟩:∃ B:Blk,B=⟨0,true,[I64 ky.mode,I64 ky.trig,I64 ky.ix,I64 x.1.length,A3t bd]⟩:=⟨_,rfl⟩;obtain⟨HH,hHH⟩:∃ HH:Hp,HH=(GM (optH X0 eo ⟨4,true,cellsL (E.map Ent.v)⟩) 2 a b (mkP (todoV eo k) (M1 P) (M1 V) mp m7 m8) x).upd cc ⟨0,true,[I64 ky.mode,I64 ky.trig,I64 ky.ix,I64 x.1.length,A3t bd]⟩:=⟨_,rfl⟩;unfold B1f;show IW Tryz.prog _ _ ⟨_,(GM _ 2 a b _ x).upd cc ⟨0,true,[I64 ky.mode,I64 ky.trig,I64 ky.ix,I64 x.1.length,A3t bd]⟩,cc+1⟩ _;rw[<- hHH];have hh2:HH 2=some ⟨0,true,[todoV a x.1.length,todoV b x.2.length,todoV eo k,M1 P,M1 V,I64 m7,I64 m8,mp]⟩:=by rw[hHH,h_ne hnc'];exact hM
   have hhc:HH cc=some ⟨0,true,[I64 ky.mode,I64 ky.trig,I64 ky.ix,I64 x.1.length,A3t bd]⟩:=by rw[hHH,h_same]
   have hhf:∀ j,cc+1<=j->HH j=none:=fun j hj=>by rw[hHH,hnO];exact hfr j (by omega)
   have hhe:∀ i,eo=some i->HH i=some ⟨4,true,cellsL (E.map Ent.v)⟩:=fun i hi=>by
    have:=heo i hi;rw[hHH,hnO];exact S0 hN0 (by subst hi;exact h_same) (by omega)
   have ne0:=R9 2 cc (cc+1) (by omega);repeat' (apply wr<;>try simp only[go_sem,seval,hh2,hhc,h_same])
   refine A0c (D5 (cs:=cellsL (E.map Ent.v)) (fun e=>⟨hen e,by rw[A2K.1 (hEl.trans (hen e))];rfl⟩) (fun i hi=>?_) (by rw[B2k,hEl]) (by omega) (by have:=hPB.1;omega) (by have:=hPB.1;omega)) ?_
   ·have:=heo i hi;rw[hnO];exact hhe i hi
   have dm:∀ X:Hp,delO X eo 2=X 2:=fun X=>B0 (fun i hi e=>by have:=heo i hi;omega);simp only[go_sem,seval,dm,hh2];refine⟨by rw[hnO,B0 (fun i hi e=>by have:=heo i hi;omega),hnO];exact hhf _ (by omega),?_⟩;obtain⟨E',hE'⟩:∃ E',E'=E++[(⟨ky.mode,ky.trig,ky.ix,(x.1.length:Int)⟩:Ent)]:=⟨_,rfl⟩;have hEC:cellsL (E'.map Ent.v)=cellsL (E.map Ent.v)++[I64 ky.mode,I64 ky.trig,I64 ky.ix,I64 x.1.length]:=by rw[hE',A0T,C4];rfl
   obtain⟨i',hi'⟩:∃ i',i'=cc+1+14:=⟨_,rfl⟩;have hEl':E'.length=k+1:=by rw[hE',A0A,hEl];rfl
   have xn:∀ j,2<=j->j≠i'->(optH X0 (some i') ⟨4,true,cellsL (E'.map Ent.v)⟩) j=none:=fun j h1 h2=>by simp only[optH];rw[h_ne h2];exact xf j h1
   have hN1:GN ((optH X0 (some i') ⟨4,true,cellsL (E'.map Ent.v)⟩).upd cc B) 2 a b x (i'+1) :=
    ⟨by omega,fun i hi=>by have h:=hN0.ha i hi;exact⟨h.1,by omega,by rw[hnO];simp only[optH];rw[hnO];have h3:=h.2.2;rcases Nat.lt_or_ge i 2 with h4|h4;(· rw[B7 (fun q hq e=>by have:=heo q hq;omega)]at h3;exact h3);(· exact xf i h4)⟩,
     fun i hi=>by have h:=hN0.hb i hi;exact⟨h.1,by omega,by rw[hnO];simp only[optH];rw[hnO];have h3:=h.2.2;rcases Nat.lt_or_ge i 2 with h4|h4;(· rw[B7 (fun q hq e=>by have:=heo q hq;omega)]at h3;exact h3);(· exact xf i h4)⟩,
     hN0.ne,hN0.an,hN0.bn,fun j hj=>by rw[hnO];exact xn j (by omega) (by omega)⟩
   obtain⟨mk,hmk⟩:∃ mk,mk=mkP (todoV (some i') (k+1)) (M1 P) (M1 V) mp m7 m8:=⟨_,rfl⟩;have gz:∀ ds,GL (((delO (HH.upd (cc+1+8) ⟨4,true,[I64 ky.mode,I64 ky.trig,I64 ky.ix,I64 x.1.length]⟩) eo).upd (cc+1+14) ⟨4,true,cellsL (E.map Ent.v)++[I64 ky.mode,I64 ky.trig,I64 ky.ix,I64 x.1.length]⟩).upd 2 ⟨0,true,[todoV a x.1.length,todoV b x.2.length,.slc (cc+1+14) 0 (k+1),M1 P,M1 V,I64 m7,I64 m8,mp]⟩) ds
     (GM ((optH X0 (some i') ⟨4,true,cellsL (E'.map Ent.v)⟩).upd cc B) 2 a b mk x) ds:=fun ds=>GL.less' (A4w (by rw[h_same,hmk,hi'];rfl)
     (fun i hi=>by
      have h:=hN0.ha i hi;rw[h_ne h.1,hnO,B0 (fun q hq e=>by have h2:=h.2.2;subst e;rw[hq]at h2;simp only[optH]at h2;rw[h_same]at h2;cases h2),hnO,hHH,hnO];exact A4x hN0 hi)
     (fun i hi=>by
      have h:=hN0.hb i hi;rw[h_ne h.1,hnO,B0 (fun q hq e=>by have h2:=h.2.2;subst e;rw[hq]at h2;simp only[optH]at h2;rw[h_same]at h2;cases h2),hnO,hHH,hnO];exact A6h hi)
     (fun j Q hj hQ=>by
      rw[h_ne hj];by_cases e1:j=i'
      ·subst e1;rw[hnO]at hQ;simp only[optH]at hQ;rw[h_same]at hQ;rw[hi',h_same, <- hEC];exact hQ
      rw[hnO];by_cases e2:j=cc
      ·subst e2;rw[h_same]at hQ;rw[B0 (fun q hq e=>by have:=heo q hq;omega),hnO,hhc, <- hBe];exact hQ
      rw[h_ne e2]at hQ;simp only[optH]at hQ;rw[h_ne e1]at hQ;have hj2:j<2:=A1T fun h=>by rw[xf j h]at hQ;cases hQ
      rw[B0 (fun q hq e=>by have:=heo q hq;omega),hnO,hHH,hnO];exact S0 hN0 (by rw[B7 (fun q hq e=>by have:=heo q hq;omega)];exact hQ) (by omega)))
   refine IW.keep [2,7,9,26,27,28] [.ptr 1 0,.ptr 2 0,.ptr cc 0,C3d L,I64 L.length,I64 k] (gz _) ?_;show IW Tryz.prog _ _ ⟨tm [(2,.ptr 1 0),(7,.ptr 2 0),(9,.ptr cc 0),(26,C3d L),(27,I64 L.length),(28,I64 k)],_,_⟩ _;rw[<- hi'];have hcc0:(optH X0 (some i') ⟨4,true,cellsL (E'.map Ent.v)⟩) cc=none:=xn cc (by omega) (by omega);have hcf0:∀ j,i'+1<=j->(optH X0 (some i') ⟨4,true,cellsL (E'.map Ent.v)⟩) j=none:=fun j hj=>xn j (by omega) (by omega);have hx01:(optH X0 (some i') ⟨4,true,cellsL (E'.map Ent.v)⟩) 1=some ⟨0,true,cd0⟩:=by simp only[optH];rw[hnO];exact x1
   have hgb:=hgb (todoV (some i') (k+1));have hem:=hem (todoV (some i') (k+1));rw[<- hmk]at hgb hem;have hNi:∀ a' b' x' c',GN ((optH X0 (some i') ⟨4,true,cellsL (E'.map Ent.v)⟩).upd cc B) 2 a' b' x' c'->GM ((optH X0 (some i') ⟨4,true,cellsL (E'.map Ent.v)⟩).upd cc B) 2 a' b' mk x' cc=some B:=fun a' b' x' c' h=>S0 h h_same hnc;generalize hX1:(optH X0 (some i') ⟨4,true,cellsL (E'.map Ent.v)⟩).upd cc B=X1 at hN1 hNi ⊢;have hB0:GM X1 2 a b mk x cc=some ⟨0,true,[I64 ky.mode,I64 ky.trig,I64 ky.ix,I64 x.1.length,A3t bd]⟩:=by rw[hNi _ _ _ _ hN1,hBe]
   clear gz hN0 hh2 hhc hhf hhe hHH HH hM hfr dm hla;have hxx1:x.1.length<=4000:=hl1;repeat' (apply wr<;>try simp only[go_sem,seval,hB0])
   refine A9 (fun q:Nat × Option Nat × Option Nat=>[(2,.ptr 1 0),(7,.ptr 2 0),(26,C3d L),(27,I64 L.length),(28,I64 k),(54,A3t bd),(55,I64 bd.length),(56,I64 q.1)])
    (fun q=>GM X1 2 q.2.1 q.2.2 mk (F5 nm (bd.take q.1).flatten x))
    (fun q c3=>i'+1<=c3/\q.1<=bd.length/\GN X1 2 q.2.1 q.2.2 (F5 nm (bd.take q.1).flatten x) c3) (fun q=>bd.length-q.1) (0,a,b)
    (by simp[C1,tm,Tm.upd]) (by simp only[A1I,A2O,M2];exact Sub.refl _) ⟨A0E _,A0O _,by simp only[A1I,A2O,M2];exact hN1⟩ ?_
   clear hB0 hN1 a b;rintro⟨j,a,b⟩ c3 ⟨hc3,hj,hN⟩;replace hj:j<=bd.length:=hj;replace hc3:i'+1<=c3:=hc3;dsimp only at hN ⊢;by_cases hltj:j<bd.length
   ·have hdj:=dtz hltj;have hgj:=A0B hltj;have hwj:=w64 (n:=(j:Int)+1);have hfs:=C4g hgj;have hm1:=B3a (A0L hltj);have hm2:=A3v bd j;have hm3:=A3v bd (j+1);have hgjv:(bd.map D3)[j]? = some (D3 bd[j]):=by rw[A1N,hgj];rfl
    generalize bd[j]=y at hgj hfs hm1 hgjv;have hbx:=C2k (nm:=nm) ((bd.take j).flatten++y) x;rw[<- hfs]at hbx;have hcall:=hgb _ y (A1O _) (by omega) (F5 nm (bd.take j).flatten x) (by rw[<- R6, <- hfs];exact⟨by omega,by omega⟩);rw[<- R6, <- hfs]at hcall;repeat' (apply wr<;>try simp only[go_sem,seval,hdj,hgjv])
    refine AC.call (hcall _ _ _ _ _ hN) ?_;rintro _ _ c4 ⟨rfl,a2,b2,hN2,rfl⟩ hc4;simp only[go_sem,seval];repeat' (apply wr<;>try simp only[go_sem,seval,hwj])
    exact⟨(j+1,a2,b2),by simp[],Sub.refl _,inv ⟨by omega,hltj,hN2⟩,by simp only;omega⟩
   have hdj:=dfz hltj;have hjb:j=bd.length:=by omega
   subst hjb;rw[A1P]at hN ⊢;have hbx:=C2k (nm:=nm) bd.flatten x;repeat' (apply wr<;>try simp only[go_sem,seval,hdj])
   refine AC.call (hem _ (by omega) _ _ _ _ _ hN) ?_;rintro _ _ c4 ⟨rfl,a2,b2,hN2,rfl⟩ hc4;have hM2:=W6 (mk:=mk) hN2;rw[hmk]at hM2;have hnx1:=hnx.1;have hnx2:=hnx.2;unfold C9v at hnx1;dsimp only at hnx1 hM2 hN2;obtain⟨z,hz⟩:∃ z:Cg,z=((F5 nm bd.flatten x).1++[⟨31,0⟩],(F5 nm bd.flatten x).2):=⟨_,rfl⟩;rw[<- hz]at hnx1 hN2 hM2 ⊢;have hl3:=O0 (o:=a2) (n:=z.1.length) (fun e=>O6 (hN2.an e));have hl4:=O0 (o:=b2) (n:=z.2.length) (fun e=>O6 (hN2.bn e));have hz1:(cgL nm 0 [] (L.take (k+1))).1=z.1:=congrArg Prod.fst hnx1;have hz2:(cgL nm 0 [] (L.take (k+1))).2.2=z.2:=congrArg Prod.snd hnx1;have hle:=B6z (nm:=nm) (l:=L) (S:=[]) (k+1);rw[hz1,hz2]at hle;obtain⟨mk2,hmk2⟩:∃ mk2,mk2=mk:=⟨_,rfl⟩;rw[<- hmk]at hM2;have hx11:GM X1 2 a2 b2 mk z 1=some ⟨0,true,cd0⟩:=S0 hN2 (by rw[<- hX1,hnO];exact hx01) (by decide);have hMz:GM X1 2 a2 b2 mk z 2=some ⟨0,true,[todoV a2 z.1.length,todoV b2 z.2.length,todoV (some i') (k+1),M1 P,M1 V,I64 m7,I64 m8,mp]⟩:=by rw[hM2,hmk]
   by_cases d1:4000<z.1.length
   ·have d1':decide ((z.1.length:Int)>4000)=true:=by simp;omega
    have d1'':decide ((z.1.length:Int)<=4000)=false:=by simp;omega
    simp only[go_sem,seval];repeat' (apply wr<;>try simp only[go_sem,seval,hMz,hx11,hl3,d1'])
    rw[hR,if_pos (by omega),I1 (v:=.tup [.agg cd0,I64 0,I64 9]) rfl];exact Z7
   have d1':decide ((z.1.length:Int)>4000)=false:=by simp;omega
   by_cases d2:200<z.2.length
   ·have d2':decide ((z.2.length:Int)>200)=true:=by simp;omega
    simp only[go_sem,seval];repeat' (apply wr<;>try simp only[go_sem,seval,hMz,hx11,hl3,hl4,d1',d2'])
    rw[hR,if_pos (by omega),I1 (v:=.tup [.agg cd0,I64 0,I64 9]) rfl];exact Z7
   have d2':decide ((z.2.length:Int)>200)=false:=by simp;omega
   simp only[go_sem,seval];repeat' (apply wr<;>try simp only[go_sem,seval,hMz,hl3,hl4,d1',d2',hw])
   refine⟨(k+1,a2,b2,some i'),by simp[],?_,inv ⟨by omega,hlt,?_,fun i hi=>(by cases hi;exact⟨by omega,by omega⟩),fun e=>(by cases e),?_,?_⟩,by simp only;omega⟩
   ·dsimp only;rw[hnx1,hnx2, <- hE', <- hmk];rw[<- hX1]at hN2 ⊢;exact J0 hcc0 hnc hN2
   ·dsimp only;rw[hnx1,hnx2, <- hE'];rw[<- hX1]at hN2;exact hN2.unbox hcc0 (by omega) hcf0
   ·dsimp only;rw[hz1];omega
   ·dsimp only;rw[hz2];omega
def vaL(D:List Dc):List Int:=(D.filter fun d=>d.kind=6).map Dc.value
theorem D5b(D:List Dc):(vaL D).length<=D.length:=by unfold vaL;rw[A0C];exact List.length_filter_le _ _
theorem C5b{D:List Dc}{i:Nat}{d:Dc}(h:D[i]? = some d):vaL (D.take (i+1))=vaL (D.take i)++if d.kind=6 then [d.value] else []:=by
 unfold vaL;rw[A0S,h,List.filter_append,A0T]
 congr 1
 by_cases e:d.kind=6<;>simp[e]
def vaH(X:Hp)(vo:Option Nat)(V:List Int)(m7 m8:Int):Hp:=(optH X vo ⟨1,true,V.map fun z=>I64 z⟩).upd 8 ⟨0,true,[.snil,.snil,.snil,.snil,todoV vo V.length,I64 m7,I64 m8]⟩
theorem A3h{X:Hp}{o:Option Nat}{j:Nat}(h:X j=none):delO X o j=none:=by
 cases o with
 |none=>exact h
 |some i =>
  by_cases e:j=i
  ·subst e;simp[delO,Hp.del]
  ·rw[B0 (fun k hk h=>e (by cases hk;exact h))];exact h
theorem C3e(M:List Md):cellsL (prC M)=prC M:=by
 unfold prC cellsL
 induction M with
 |nil=>rfl
 |cons m M ih=>rw[A0Q,A2A,ih];rfl
theorem D8n{r:Ru}{X0:Hp}{a b eo po:Option Nat}{x:Cg}{E:List Ent}{V4:DV}{m7 m8:Int}{c:Nat}{ds:List DV}(h:GN (ouH (optH X0 po ⟨1,true,prC r.modes⟩) eo E (todoV po r.modes.length) V4 m7 m8) 2 a b x c)(he:EoN (optH X0 po ⟨1,true,prC r.modes⟩) eo c E.length)
  (hp:∀ i,po=some i->9<=i) (hpn:po=none->r.modes=[]) (hv:V4.one=true) :
  ∃ Y,GL (GM (ouH (optH X0 po ⟨1,true,prC r.modes⟩) eo E (todoV po r.modes.length) V4 m7 m8) 2 a b (mkQ r) x) ds Y ds/\Y 2=some ⟨0,true,[C3 r.decls,C7 r.modes,A1q x.1,strs x.2]⟩/\Y 8=some ⟨0,true,[.snil,.snil,B2i E,M1 (r.modes.map Md.prio),V4,I64 m7,I64 m8]⟩/\(∀ B,X0 1=some B->Y 1=some B)/\∀ j,c<=j->Y j=none:=by
 have o1:∀ (o:Option Nat) (n:Nat),(todoV o n).one=true:=fun o n=>by cases o<;>rfl
 obtain⟨G,hG⟩:∃ G:Hp,G=GM (ouH (optH X0 po ⟨1,true,prC r.modes⟩) eo E (todoV po r.modes.length) V4 m7 m8) 2 a b (mkQ r) x:=⟨_,rfl⟩;rw[<- hG];have n8:∀ (o:Option Nat),(∀ i,o=some i->i≠2/\i<c/\ouH (optH X0 po ⟨1,true,prC r.modes⟩) eo E (todoV po r.modes.length) V4 m7 m8 i=none)->∀ i,o=some i->¬ 8=i:=fun o ho i hi e=>by have:=(ho i hi).2.2;rw[<- e,B3j]at this;cases this
 have g8:G 8=some (ouB eo E.length (todoV po r.modes.length) V4 m7 m8):=by rw[hG];exact S0 h B3j (by decide)
 have pe:∀ i,po=some i->eo≠some i:=fun i hi e=>by have:=(he.lt i e).2.2;subst hi;simp only[optH]at this;rw[h_same]at this;cases this
 have ge:∀ i,eo=some i->G i=some ⟨4,true,cellsL (E.map Ent.v)⟩:=fun i hi=>by
  have:=he.lt i hi;rw[hG];refine S0 h ?_ (by omega);subst hi;exact C3f (by omega)
 have gp:∀ i,po=some i->G i=some ⟨1,true,prC r.modes⟩:=fun i hi=>by
  have:=hp i hi;rw[hG];refine S0 h ?_ (by omega);rw[T9 (by omega) (pe i hi)];subst hi;exact h_same
 have ea:∀ i,a=some i->eo≠some i/\po≠some i:=fun i hi=>⟨(Z6 (h.ha i hi).2.2).2.1,(Z6 (h.ha i hi).2.2).2.2.1⟩;have eb:∀ i,b=some i->eo≠some i/\po≠some i:=fun i hi=>⟨(Z6 (h.hb i hi).2.2).2.1,(Z6 (h.hb i hi).2.2).2.2.1⟩;have g1:=A2h (H:=G) (k:=2) (o:=a) (n:=x.1.length) (u:=2) (u':=2) (pre:=[C3 r.decls,C7 r.modes]) (suf:=[todoV b x.2.length]) (xs:=x.1.map Ins.v) (ds:=ds)
  (by rw[hG];exact W6 h) (fun i hi=>⟨by rw[hG];exact A4x h hi,(h.ha i hi).1⟩) (fun e=>by rw[h.an e];rfl) (fun d hd=>by simp at hd;rcases hd with rfl|rfl|rfl<;>(first|exact o1 _ _|rfl)) (by simp) (fun y hy=>by obtain⟨z, -,rfl⟩:=A1A.1 hy;rfl)
 obtain⟨Y1,hY1⟩:∃ Y:Hp,Y=(delO G a).upd 2 ⟨0,true,[C3 r.decls,C7 r.modes]++[.lst (x.1.map Ins.v)]++[todoV b x.2.length]⟩:=⟨_,rfl⟩;rw[<- hY1]at g1;have y1:∀ j,j≠2->(∀ i,a=some i->¬ j=i)->Y1 j=G j:=fun j h1 h2=>by rw[hY1,h_ne h1,B0 h2]
 have g2:=A2h (H:=Y1) (k:=2) (o:=b) (n:=x.2.length) (u:=1) (u':=1) (pre:=[C3 r.decls,C7 r.modes,A1q x.1]) (suf:=[]) (xs:=x.2.map DV.str) (ds:=ds)
  (by rw[hY1,h_same];rfl) (fun i hi=>⟨by rw[y1 i (h.hb i hi).1 (fun j hj e=>h.ne j i hj hi e.symm),hG,A6h hi,A4r],(h.hb i hi).1⟩) (fun e=>by rw[h.bn e];rfl) (fun d hd=>by simp at hd;rcases hd with rfl|rfl|rfl<;>rfl) (by simp) (fun y hy=>by obtain⟨z, -,rfl⟩:=A1A.1 hy;rfl)
 obtain⟨Y2,hY2⟩:∃ Y:Hp,Y=(delO Y1 b).upd 2 ⟨0,true,[C3 r.decls,C7 r.modes,A1q x.1]++[.lst (x.2.map DV.str)]++[]⟩:=⟨_,rfl⟩;rw[<- hY2]at g2;have y2:∀ j,j≠2->(∀ i,a=some i->¬ j=i)->(∀ i,b=some i->¬ j=i)->Y2 j=G j:=fun j h1 h2 h3=>by rw[hY2,h_ne h1,B0 h3,y1 j h1 h2]
 have ye:∀ i,eo=some i->Y2 i=some ⟨4,true,cellsL (E.map Ent.v)⟩:=fun i hi=>by
  rw[y2 i (by have:=(he.lt i hi).1;omega) (fun k hk e=>(ea k hk).1 (by rw[<- e];exact hi)) (fun k hk e=>(eb k hk).1 (by rw[<- e];exact hi))];exact ge i hi
 have yp:∀ i,po=some i->Y2 i=some ⟨1,true,prC r.modes⟩:=fun i hi=>by
  rw[y2 i (by have:=hp i hi;omega) (fun k hk e=>(ea k hk).2 (by rw[<- e];exact hi)) (fun k hk e=>(eb k hk).2 (by rw[<- e];exact hi))];exact gp i hi
 have y8:Y2 8=some (ouB eo E.length (todoV po r.modes.length) V4 m7 m8):=by rw[y2 8 (by decide) (n8 a h.ha) (n8 b h.hb)];exact g8
 have g3:=A2h (H:=Y2) (k:=8) (o:=eo) (n:=E.length) (u:=4) (u':=4) (pre:=[.snil,.snil]) (suf:=[todoV po r.modes.length,V4,I64 m7,I64 m8]) (xs:=E.map Ent.v) (ds:=ds)
  (by rw[y8];rfl) (fun i hi=>⟨ye i hi,by have:=(he.lt i hi).1;omega⟩) (fun e=>by rw[A2K.1 (he.nil e)];rfl) (fun d hd=>by simp at hd;rcases hd with rfl|rfl|rfl|rfl|rfl|rfl<;>(first|exact o1 _ _|assumption|rfl)) (by simp) (fun y hy=>by obtain⟨z, -,rfl⟩:=A1A.1 hy;rfl)
 obtain⟨Y3,hY3⟩:∃ Y:Hp,Y=(delO Y2 eo).upd 8 ⟨0,true,[.snil,.snil]++[.lst (E.map Ent.v)]++[todoV po r.modes.length,V4,I64 m7,I64 m8]⟩:=⟨_,rfl⟩;rw[<- hY3]at g3;have y3:∀ j,j≠8->(∀ i,eo=some i->¬ j=i)->Y3 j=Y2 j:=fun j h1 h2=>by rw[hY3,h_ne h1,B0 h2]
 have g4:=A2h (H:=Y3) (k:=8) (o:=po) (n:=r.modes.length) (u:=1) (u':=1) (pre:=[.snil,.snil,B2i E]) (suf:=[V4,I64 m7,I64 m8]) (xs:=prC r.modes) (ds:=ds)
  (by rw[hY3,h_same];rfl) (fun i hi=>⟨by rw[y3 i (by have:=hp i hi;omega) (fun k hk e=>pe i hi (by rw[e];exact hk)),yp i hi,C3e],by have:=hp i hi;omega⟩) (fun e=>by rw[hpn e];rfl) (fun d hd=>by simp at hd;rcases hd with rfl|rfl|rfl|rfl|rfl|rfl<;>(first|exact o1 _ _|assumption|rfl)) (C0v _) (fun y hy=>by unfold prC at hy;obtain⟨z, -,rfl⟩:=A1A.1 hy;rfl)
 have lo:∀ (o:Option Nat),(∀ i,o=some i->9<=i)->∀ j,j<9->∀ i,o=some i->¬ j=i:=fun o ho j hj i hi e=>by have:=ho i hi;omega
 refine⟨_,((g1.trans g2).trans g3).trans g4,?_,?_,fun B hB=>?_,fun j hj=>?_⟩
 ·rw[h_ne (by decide),B0 (lo po hp 2 (by decide)),y3 2 (by decide) (lo eo (fun i hi=>(he.lt i hi).1) 2 (by decide)),hY2,h_same];rfl
 ·rw[h_same];simp[prC,M1,Function.comp_def]
 ·have h1:ouH (optH X0 po ⟨1,true,prC r.modes⟩) eo E (todoV po r.modes.length) V4 m7 m8 1=some B:=by
   rw[T9 (by decide) (fun e=>by have:=(he.lt _ e).1;omega),B7 (lo po hp 1 (by decide))];exact hB
  have a1:∀ i,a=some i->¬ 1=i:=fun i hi e=>by have:=(h.ha i hi).2.2;rw[<- e,h1]at this;cases this
  have b1:∀ i,b=some i->¬ 1=i:=fun i hi e=>by have:=(h.hb i hi).2.2;rw[<- e,h1]at this;cases this
  rw[h_ne (by decide),B0 (lo po hp 1 (by decide)),y3 1 (by decide) (lo eo (fun i hi=>(he.lt i hi).1) 1 (by decide)),y2 1 (by decide) a1 b1,hG];exact S0 h h1 (by decide)
 ·have h1:=h.tc;have h9:8<c:=A1T fun hc=>by have:=h.fr 8 hc;rw[B3j]at this;cases this
  have h2:G j=none:=by rw[hG];exact A7l h hj
  rw[hnO];refine A3h ?_;rw[hY3,hnO];refine A3h ?_;rw[hY2,hnO];refine A3h ?_;rw[hY1,hnO];exact A3h h2
theorem c_RCompile(r:Ru)(hB:r.sz<4000000):PC Tryz.prog 81 [r.v] (B4e (U7 r)):=by
 refine PC.ofT A2 rfl (A0D rfl) (by simp[DV.nlL,DV.nl,K4,K3]) (C2h _) ?_;have hck:=c_CheckR r hB;unfold B4f at hck;obtain⟨R,hR⟩:∃ R,R=U7 r:=⟨_,rfl⟩;rw[<- hR];unfold U7 at hR;cases hv:L1 r with
 |false =>
  rw[hv]at hck hR;rw[if_neg A3O]at hck hR;subst hR;obtain⟨D,M⟩:=r;dsimp only[Ru.v]at hck ⊢;repeat' ((with_reducible first|apply wr|refine cpc hck ?_|fail)<;>try simp only[go_sem,seval])
  rw[I1 (v:=.tup [.agg cd0,I64 0,I64 1]) rfl];exact Z7
 |true =>
  rw[hv]at hck hR;rw[if_pos rfl]at hck hR;cases he:A3s r with
  |some q =>
   obtain⟨p,c⟩:=q;rw[he]at hck hR;have hck:PC Tryz.prog 155 [r.v] (.tup [I64 p,I64 c]):=hck;dsimp only at hR;have hnz:(c != 0)=true:=by
    have h:NzE (A3s r):=by unfold A3s A7a;exact ((C3j _ _).or (C6y _ _ _)).or (D1k _ _)
    simpa using h _ _ he
   subst hR;obtain⟨D,M⟩:=r;dsimp only[Ru.v]at hck ⊢;repeat' ((with_reducible first|apply wr|refine cpc hck ?_|fail)<;>try simp only[go_sem,seval,hnz])
   rw[I1 (v:=.tup [.agg cd0,I64 p,I64 c]) rfl];exact Z7
  |none =>
   rw[he]at hck hR;dsimp only at hR;have hC:ChkR r:=⟨hv,he⟩;have hlen:=hC.lens;have hnil:nmR r []=0:=by show (E7 r []).2=0;rw[hC.nil]
   have hck:PC Tryz.prog 155 [r.v] (.tup [I64 0,I64 0]):=hck;have h7:=c_CountR r 7 hB;have h8:=c_CountR r 8 hB;unfold cnV at h7 h8;rw[if_pos hv]at h7 h8;have e7:(cnR r 7:Int)=(cnD r.decls 7:Int):=by unfold cnR;rw[if_neg (by decide)]
   have e8:(cnR r 8:Int)=(cnD r.decls 8:Int):=by unfold cnR;rw[if_neg (by decide)]
   rw[e7]at h7;rw[e8]at h8;have hcm:cmC r=⟨(cgP (nmR r) (E0 (nmR r) 0 r.modes)).1,(cgP (nmR r) (E0 (nmR r) 0 r.modes)).2,enP (nmR r) (E0 (nmR r) 0 r.modes),r.modes.map Md.prio,(r.decls.filter fun d=>d.kind=6).map Dc.value,(cnD r.decls 7:Int),(cnD r.decls 8:Int)⟩:=rfl;rw[hcm]at hR;have hsum:r.sz=(r.decls.map Dc.sz).sum+(r.modes.map Md.sz).sum:=rfl;have hG:=fun (c:Nat) (X0:Hp) (V4:DV) (m7 m8:Int) (Q:Exit->Go.Sym.St->Prop) (hv4:V4.one=true)=>c_rcG r hB hv c X0 V4 m7 m8 Q (by omega)
    (fun md hm=>by
     have h1:=hC.mode md hm;unfold Q0 at h1;simp only[A0F,A0I]at h1;omega) hv4
    (fun md hm h hh=>by
     have q:=hC.hd md hm h hh;exact⟨q.tr.1,q.nn⟩)
    (fun md hm h hh y hy=>by
     have q:=hC.hd md hm h hh;have hb:=q.bl;unfold M4 at hb;simp only[A0F]at hb;have hsz:Pb.St.szs h.body<=4000000:=by
      have h1:=C5m hm;have h2:=C5n hh;have h3:h.sz=1+h.name.length+Pb.St.szs h.body:=rfl;omega
     exact c_body34 r hB hv hnil _ h.body 1 hb.2 (A1O _) (by omega) y hy)
   generalize (cnD r.decls 7:Int)=m7 at *;generalize (cnD r.decls 8:Int)=m8 at *;clear hcm hv hsum hlen hnil hC he e7 e8;have hx:r.v=.agg [C3 r.decls,C7 r.modes]:=rfl;rw[hx]at hck h7 h8 ⊢;repeat' ((with_reducible first|apply wr|refine cpc hck ?_|refine cpc h7 ?_|refine cpc h8 ?_|fail)<;>try simp only[go_sem,seval])
   obtain⟨X1,hX⟩:∃ X:Hp,X=(((nil.upd 0 ⟨0,true,[C3 r.decls,C7 r.modes]⟩).upd 1 ⟨0,true,[.snil,.snil,.snil,.snil,.snil,I64 0,I64 0]⟩).upd 2 ⟨0,true,[C3 r.decls,C7 r.modes,.snil,.snil]⟩):=⟨_,rfl⟩;rw[<- hX];have x0:X1 0=some ⟨0,true,[C3 r.decls,C7 r.modes]⟩:=by rw[hX];rfl
   have xf:∀ j,3<=j->X1 j=none:=fun j hj=>by rw[hX,hnO,hnO,hnO];rfl
   have hdl:r.decls.length<=4000000:=by have:=A7p r;omega
   refine A9 (fun q:Nat × Option Nat=>[(1,.ptr 0 0),(2,.ptr 1 0),(7,.ptr 2 0),(8,.ptr 8 0),(9,I64 q.1)])
    (fun q=>vaH X1 q.2 (vaL (r.decls.take q.1)) m7 m8)
    (fun q cc=>10<=cc/\q.1<=r.decls.length/\(∀ i,q.2=some i->9<=i/\i<cc)/\(q.2=none->vaL (r.decls.take q.1)=[])) (fun q=>r.decls.length-q.1) (0,none)
    (by simp[C1,tm,Tm.upd]) (fun j B hj=>by
     by_cases e:j=8
     ·subst e;rw[h_same];rw[vaH,h_same]at hj;exact hj
     ·rw[h_ne e,h_ne e];rw[vaH,h_ne e]at hj;exact hj) ⟨A0E _,A0O _,fun i h=>(by cases h),fun _=>rfl⟩ ?_
   rintro⟨i,vo⟩ cc ⟨hc,hi,hvo,hvn⟩;replace hi:i<=r.decls.length:=hi;replace hvo:∀ i,vo=some i->9<=i/\i<cc:=hvo;replace hvn:vo=none->vaL (r.decls.take i)=[]:=hvn;dsimp only at hc ⊢;have hv0:vaH X1 vo (vaL (r.decls.take i)) m7 m8 0=some ⟨0,true,[C3 r.decls,C7 r.modes]⟩:=by
    rw[vaH,h_ne (by decide),B7 (fun j hj e=>by have:=hvo j hj;omega)];exact x0
   by_cases hlt:i<r.decls.length
   rotate_left
   ·have hd:=dfz hlt;obtain rfl:i=r.decls.length:=by omega
    rw[A1P]at hvn hv0 ⊢;repeat' ((with_reducible first|refine H9 (p:=IW _ _ (pz Tryz.prog 81 (.o (.o (.i (.o (.o .h)))))) _ _) ?_|refine wr ?_|fail)<;>try simp only[go_sem,seval,hd,hv0,A0C])
    obtain⟨V,hV⟩:∃ V,V=vaL r.decls:=⟨_,rfl⟩;have hR':(r.decls.filter fun d=>d.kind=6).map Dc.value=V:=hV.symm;rw[hR']at hR;rw[<- hV]at hvn hv0 ⊢;unfold B1f;have g1:=A2h (H:=vaH X1 vo V m7 m8) (k:=8) (o:=vo) (n:=V.length) (u:=1) (u':=1) (pre:=[.snil,.snil,.snil,.snil]) (suf:=[I64 m7,I64 m8]) (xs:=V.map fun z=>I64 z) (ds:=[.ptr 0 0,.ptr 1 0,.ptr 2 0,.ptr 8 0])
     h_same (fun i hi=>⟨by have:=hvo i hi;rw[vaH,hnO];subst hi;rw[A1j];exact h_same,by have:=hvo i hi;omega⟩) (fun e=>by rw[hvn e];rfl) (fun d hd=>by simp at hd;rcases hd with rfl|rfl|rfl<;>rfl) (by simp) (fun y hy=>by obtain⟨z, -,rfl⟩:=A1A.1 hy;rfl)
    obtain⟨X0,hX0⟩:∃ X:Hp,X=((nil.upd 0 ⟨0,true,[C3 r.decls,C7 r.modes]⟩).upd 1 ⟨0,true,cd0⟩):=⟨_,rfl⟩;have g2:∀ ds,GL ((delO (vaH X1 vo V m7 m8) vo).upd 8 ⟨0,true,[.snil,.snil,.snil,.snil]++[.lst (V.map fun z=>I64 z)]++[I64 m7,I64 m8]⟩) ds (GM (ouH X0 none [] .snil (M1 V) m7 m8) 2 none none (mkQ r) ([],[])) ds:=fun ds=>GL.less' (fun j B hj=>by
     have hj:(ouH X0 none [] .snil (M1 V) m7 m8).upd 2 ⟨0,true,[C3 r.decls,C7 r.modes,.snil,.snil]⟩ j=some B:=hj;by_cases e8:j=8
     ·subst e8;rw[h_ne (by decide),B3j]at hj;rw[h_same, <- hj];rfl
     rw[h_ne e8];by_cases e2:j=2
     ·subst e2;rw[h_same]at hj;rw[B0 (fun k hk e=>by have:=hvo k hk;omega),vaH,h_ne (by decide),B7 (fun k hk e=>by have:=hvo k hk;omega),hX,h_same];exact hj
     rw[h_ne e2,T9 e8 (fun e=>by cases e)]at hj;have hj2:j<2:=A1T fun h=>by rw[hX0,hnO,hnO]at hj;cases hj
     rw[B0 (fun k hk e=>by have:=hvo k hk;omega),vaH,h_ne e8,B7 (fun k hk e=>by have:=hvo k hk;omega),hX,h_ne e2, <- hX0];exact hj)
    refine IW.keep [1,2,7,8] [.ptr 0 0,.ptr 1 0,.ptr 2 0,.ptr 8 0] (g1.trans (g2 _)) ?_;show IW Tryz.prog _ _ ⟨tm [(1,.ptr 0 0),(2,.ptr 1 0),(7,.ptr 2 0),(8,.ptr 8 0)],_,_⟩ _;refine hG _ X0 (M1 V) m7 m8 _ rfl (by rw[hX0];rfl) (fun j hj=>by rw[hX0,hnO,hnO];rfl) (by omega) ?_;intro a b eo po c' hN heo hpo hpn;have x1:X0 1=some ⟨0,true,cd0⟩:=by rw[hX0];rfl
    clear hX0 g1 g2 hG;generalize cgP (nmR r) (E0 (nmR r) 0 r.modes)=x at *;generalize enP (nmR r) (E0 (nmR r) 0 r.modes)=E at *;have hR:R=if 4000<x.1.length\/200<x.2.length then (B4l,(0:Int),(9:Int)) else ((⟨x.1,x.2,E,r.modes.map Md.prio,V,m7,m8⟩:Prg),(0:Int),(0:Int)):=hR
    obtain⟨Y,gY,y2,y8,y1,yf⟩:=D8n (ds:=[.ptr 1 0,.ptr 2 0,.ptr 8 0]) hN heo hpo hpn rfl;have y1:=y1 _ x1;refine IW.keep [2,7,8] [.ptr 1 0,.ptr 2 0,.ptr 8 0] gY ?_;show IW Tryz.prog _ _ ⟨tm [(2,.ptr 1 0),(7,.ptr 2 0),(8,.ptr 8 0)],_,_⟩ _;by_cases d1:4000<x.1.length
    ·have d1':decide ((x.1.length:Int)>4000)=true:=by simp;omega
     repeat' (apply wr<;>try simp only[go_sem,seval,y2,y1,d1',A0C])
     rw[hR,if_pos (by omega),I1 (v:=.tup [.agg cd0,I64 0,I64 9]) rfl];exact Z7
    have d1':decide ((x.1.length:Int)>4000)=false:=by simp;omega
    by_cases d2:200<x.2.length
    ·have d2':decide ((x.2.length:Int)>200)=true:=by simp;omega
     repeat' (apply wr<;>try simp only[go_sem,seval,y2,y1,d1',d2',A0C])
     rw[hR,if_pos (by omega),I1 (v:=.tup [.agg cd0,I64 0,I64 9]) rfl];exact Z7
    have d2':decide ((x.2.length:Int)>200)=false:=by simp;omega
    have hc8:8<c':=A1T fun hc=>by have:=yf 8 hc;rw[y8]at this;cases this
    have n82:¬ (8:Nat)=2:=by decide
    repeat' (apply wr<;>try simp only[go_sem,seval,y2,y8,d1',d2',h_same,A5,n82,A0C])
    refine⟨by and_intros<;>(rw[hnO];exact yf _ (by omega)),?_⟩;repeat' (apply wr<;>try simp only[go_sem,seval,y1,h_same])
    rw[I1 (v:=B4e (⟨x.1,x.2,E,r.modes.map Md.prio,V,m7,m8⟩,0,0)) rfl,hR,if_neg (by omega)];exact⟨_,GL.refl _ _⟩
   have hd:=dtz hlt;have hg:=A0B hlt;have hw:=w64 (n:=(i:Int)+1);have hgm:(r.decls.map Dc.v)[i]? = some r.decls[i].v:=by rw[A1N,hg];rfl
   have hsn:=C5b hg;have hvl:(vaL (r.decls.take i)).length<=4000000:=by
    have:=D5b (r.decls.take i);rw[A1B]at this;omega
   generalize r.decls[i]=d at hg hgm hsn;by_cases hk:d.kind=6
   rotate_left
   ·have hk':(d.kind == 6)=false:=by simpa using hk
    rw[if_neg hk,A0W]at hsn;repeat' (apply wr<;>try simp only[go_sem,seval,hd,hv0,hgm,hk',hw,A0C])
    exact⟨(i+1,vo),by simp[],by simp only[hsn];exact Sub.refl _,inv ⟨hc,hlt,hvo,by simp only[hsn];exact hvn⟩,by simp only;omega⟩
   rw[if_pos hk]at hsn;have hv8:vaH X1 vo (vaL (r.decls.take i)) m7 m8 8=some ⟨0,true,[.snil,.snil,.snil,.snil,todoV vo (vaL (r.decls.take i)).length,I64 m7,I64 m8]⟩:=h_same;have hvb:∀ j,vo=some j->vaH X1 vo (vaL (r.decls.take i)) m7 m8 j=some ⟨1,true,(vaL (r.decls.take i)).map fun z=>I64 z⟩:=fun j hj=>by
    have:=hvo j hj;rw[vaH,hnO];subst hj;exact h_same
   have hvf:∀ j,cc<=j->vaH X1 vo (vaL (r.decls.take i)) m7 m8 j=none:=fun j hj=>by
    rw[vaH,hnO,B7 (fun k hk e=>by have:=hvo k hk;omega)];exact xf j (by omega)
   obtain⟨V,hV⟩:∃ V,V=vaL (r.decls.take i):=⟨_,rfl⟩;rw[<- hV]at hsn hvl hvn hv0 hv8 hvb hvf ⊢;obtain⟨HH,hHH⟩:∃ HH,HH=vaH X1 vo V m7 m8:=⟨_,rfl⟩;rw[<- hHH]at hv0 hv8 hvb hvf ⊢;have ne0:=R9 8 0 cc (by omega);repeat' (apply wr<;>try simp only[go_sem,seval,hd,hv0,hv8,hgm,hk,A0C])
   refine A0c (D5 (cs:=V.map fun z=>I64 z) (fun e=>by rw[hvn e];exact⟨rfl,rfl⟩) (fun i hi=>by rw[h_ne (by have:=hvo i hi;omega)];exact hvb i hi) (by rw[A0C,A4P]) (by omega) (by omega) (by omega)) ?_;have dm8:∀ X:Hp,delO X vo 8=X 8:=fun X=>B0 (fun i hi e=>by have:=hvo i hi;omega);have ne8:¬ 8=cc+8:=by omega
   have ne12:¬ 8=cc+12:=by omega
   simp only[go_sem,seval,dm8,hv8,ne8,ne12];repeat' (apply wr<;>try simp only[go_sem,seval,hw])
   refine⟨(i+1,some (cc+12)),by simp[],?_,inv ⟨by omega,hlt,fun i hi=>by cases hi;exact⟨by omega,by omega⟩,fun e=>by cases e⟩,by simp only;omega⟩;dsimp only;intro j B hj;rw[hsn,vaH,A0A,A0T]at hj;by_cases e8:j=8
   ·subst e8;rw[h_same]at hj ⊢;exact hj
   rw[h_ne e8]at hj ⊢;simp only[optH]at hj;by_cases e12:j=cc+12
   ·subst e12;rw[h_same]at hj ⊢;exact hj
   rw[h_ne e12]at hj ⊢;have hj3:j<3:=A1T fun h=>by rw[xf j h]at hj;cases hj
   rw[B0 (fun k hk e=>by have:=hvo k hk;omega),hnO,hHH,vaH,h_ne e8,B7 (fun k hk e=>by have:=hvo k hk;omega)];exact hj
def D9g(f:Nat)(a:List DV):Option DV :=
 if f == 282 then match a with
  |[.str s]=>if s == C4y then some (.lst (F3.map DV.str)) else none
  |_=>none
 else if f == 329 then match a with
  |[.str s,.int .u8 z]=>if ((UInt8.ofNat z.toNat).toNat:Int) == z then some (I64 (Lib.indexByte s (UInt8.ofNat z.toNat))) else none
  |_=>none
 else if f == 328 then match a with
  |[.str s,.int .i64 x,.int .i64 y]=>if x == 10 && y == 64 && s != [] && Nat.ble s.length 100 && s.all dgB && Nat.ble (A9j s) 9223372036854775807 then some (.tup [I64 (A9j s),.inil]) else none
  |_=>none
 else none
theorem D3f:D9m Tryz.prog D9g:=by
 intro f a r h;unfold D9g at h;split at h
 ·rename_i e;obtain rfl:=eq_of_beq e;split at h
  ·split at h
   ·rename_i e;obtain rfl:=eq_of_beq e;cases h;exact c_Fields
   ·cases h
  ·cases h
 ·split at h
  ·rename_i e;obtain rfl:=eq_of_beq e;split at h
   ·split at h
    ·rename_i s z e;cases h;have:=c_IndexByte s (UInt8.ofNat z.toNat)
     rwa [eq_of_beq e]at this
    ·cases h
   ·cases h
  ·split at h
   ·rename_i e;obtain rfl:=eq_of_beq e;split at h
    ·split at h
     ·rename_i s x y e;simp only[A0F,A1Y,bne_iff_ne,ne_eq,A0R]at e;obtain⟨⟨⟨⟨⟨e1,e2⟩,e3⟩,e4⟩,e5⟩,e6⟩:=e;cases h;subst e1 e2;exact c_ParseOk s (A1E (A0D e4) (by decide)) e5 e3 (A0D e6)
     ·cases h
    ·cases h
   ·cases h
theorem c_sane34:PC Tryz.prog 35 [] (.bool true):=PC.run A2 D9g D3f 3000 60 _ _ _ rfl rfl (by kernel_rfl)
end Go.Proofs.YtkkjpohaffjecaaGreatDoor
set_option maxHeartbeats 4000000
namespace Go.Proofs.YtkkjpohaffjecaaGreatDoor
open Go.Eng (IC IOper DReg IFn L2)
open Go.Sym
abbrev x300:XT Tryz.prog 300:=mkF
instance t300:FT Tryz.prog 300 x300.d:=x300.ft
abbrev x246:XT Tryz.prog 246:=mkF
instance t246:FT Tryz.prog 246 x246.d:=x246.ft
abbrev x303:XT Tryz.prog 303:=mkF
instance t303:FT Tryz.prog 303 x303.d:=x303.ft
abbrev x307:XT Tryz.prog 307:=mkF
instance t307:FT Tryz.prog 307 x307.d:=x307.ft
abbrev x309:XT Tryz.prog 309:=mkF
instance t309:FT Tryz.prog 309 x309.d:=x309.ft
abbrev x308:XT Tryz.prog 308:=mkF
instance t308:FT Tryz.prog 308 x308.d:=x308.ft
abbrev x312:XT Tryz.prog 312:=mkF
instance t312:FT Tryz.prog 312 x312.d:=x312.ft
abbrev x247:XT Tryz.prog 247:=mkF
instance t247:FT Tryz.prog 247 x247.d:=x247.ft
abbrev x302:XT Tryz.prog 302:=mkF
instance t302:FT Tryz.prog 302 x302.d:=x302.ft
abbrev x304:XT Tryz.prog 304:=mkF
instance t304:FT Tryz.prog 304 x304.d:=x304.ft
abbrev x305:XT Tryz.prog 305:=mkF
instance t305:FT Tryz.prog 305 x305.d:=x305.ft
abbrev x306:XT Tryz.prog 306:=mkF
instance t306:FT Tryz.prog 306 x306.d:=x306.ft
abbrev x248:XT Tryz.prog 248:=mkF
instance t248:FT Tryz.prog 248 x248.d:=x248.ft
abbrev x310:XT Tryz.prog 310:=mkF
instance t310:FT Tryz.prog 310 x310.d:=x310.ft
abbrev x249:XT Tryz.prog 249:=mkF
instance t249:FT Tryz.prog 249 x249.d:=x249.ft
abbrev x250:XT Tryz.prog 250:=mkF
instance t250:FT Tryz.prog 250 x250.d:=x250.ft
abbrev x311:XT Tryz.prog 311:=mkF
instance t311:FT Tryz.prog 311 x311.d:=x311.ft
abbrev x169:XT Tryz.prog 169:=mkF
instance t169:FT Tryz.prog 169 x169.d:=x169.ft
abbrev x90:XT Tryz.prog 90:=mkF
instance t90:FT Tryz.prog 90 x90.d:=x90.ft
abbrev x333:XT Tryz.prog 333:=mkF
instance t333:FT Tryz.prog 333 x333.d:=x333.ft
abbrev x261:XT Tryz.prog 261:=mkF
instance t261:FT Tryz.prog 261 x261.d:=x261.ft
abbrev x183:XT Tryz.prog 183:=mkF
instance t183:FT Tryz.prog 183 x183.d:=x183.ft
abbrev x301:XT Tryz.prog 301:=mkF
instance t301:FT Tryz.prog 301 x301.d:=x301.ft
abbrev x182:XT Tryz.prog 182:=mkF
instance t182:FT Tryz.prog 182 x182.d:=x182.ft
abbrev x114:XT Tryz.prog 114:=mkF
instance t114:FT Tryz.prog 114 x114.d:=x114.ft
abbrev x20:XT Tryz.prog 20:=mkF
instance t20:FT Tryz.prog 20 x20.d:=x20.ft
open Go.Sym Go.Pb
theorem c_within(n lo hi:Int):PC Tryz.prog 300 [I64 n,I64 lo,I64 hi] (.bool (inM n lo hi)):=by
 refine PC.go A2 ?_;repeat' ((with_reducible first|refine wr ?_|refine wb2 ?_ ?_<;>(intro hb;try simp only[hb])|fail)<;>try simp only[go_sem,seval])
 all_goals (refine A3 ?_;simp_all[inM]<;>omega)
theorem c_bless(a b:Ent):PC Tryz.prog 249 [a.v,b.v] (.bool (B1x a b)):=by
 refine PC.go A2 ?_;repeat' ((with_reducible first|refine wr ?_|refine wb2 ?_ ?_<;>(intro hb;try simp only[hb])|fail)<;>try simp only[go_sem,seval])
 all_goals (refine A3 ?_;simp_all[B1x])
theorem c_bIsText(s:List UInt8)(hs:s.length<=140737488355328):PC Tryz.prog 303 [.str s] (.bool (O3 s)):=by
 refine PC.go A2 ?_;repeat' (apply wr<;>try simp only[go_sem,seval])
 refine A9 (fun k:Nat=>[(0,.str s),(3,I64 k)]) (fun _=>nil) (fun k _=>k<=s.length/\(s.take k).all A1b=true) (fun k=>s.length-k) 0 (by simp[C1,tm,Tm.upd]) (Sub.nil _) (by simp) ?_;rintro k c ⟨hk,he⟩;by_cases hlt:k<s.length
 ·have hd:=dtz hlt;have hg:=A0B hlt;have hw:=w64 (n:=(k:Int)+1);repeat' ((with_reducible first|refine wr ?_|refine wb2 ?_ ?_<;>(intro hb;try simp only[hb])|fail)<;>try simp only[go_sem,seval,hd,hg,hw])
  ·refine A3 ?_;rw[O3,Y6 A1b s k _ hg (by simp_all[A1b];omega)];rfl
  ·refine A3 ?_;rw[O3,Y6 A1b s k _ hg (by simp_all[A1b];omega)];rfl
  ·exact⟨k+1,rfl,Sub.refl _,inv ⟨by omega,by rw[B7f A1b s k _ hg he];simp_all[A1b];omega⟩,by omega⟩
 ·have hd:=dfz hlt;repeat' (apply wr<;>try simp only[go_sem,seval,hd])
  refine A3 ?_;rw[O3,A2p A1b s k (by omega) he,A2N];simp;omega
theorem c_goodEntry(c:Prg)(hl:Lim c)(e:Ent):PC Tryz.prog 307 [c.v,e.v] (.bool (A2i c e)):=by
 obtain⟨wp,wv,ws,wi,wt,we, -, -, -, -, -⟩:=hl;refine PC.go A2 ?_;repeat' ((with_reducible first|refine wr ?_|refine cpc (c_within _ _ _) ?_|refine wb2 ?_ ?_<;>(intro hb;try simp only[hb])|fail)<;>try simp only[go_sem,seval,wp,wt,we])
 all_goals (refine A3 ?_;simp_all[A2i]<;>rfl)
theorem c_isJ(op:Int):PC Tryz.prog 309 [I64 op] (.bool (isJ op)):=by
 refine PC.go A2 ?_;repeat' ((with_reducible first|refine wr ?_|refine wb2 ?_ ?_<;>(intro hb;try simp only[hb])|fail)<;>try simp only[go_sem,seval])
 all_goals (refine A3 ?_;simp_all[isJ]<;>rfl)
theorem c_stack(op:Int):PC Tryz.prog 312 [I64 op] (.tup [I64 (D0 op).1,I64 (D0 op).2.1]):=by
 refine PC.go A2 ?_;repeat' ((with_reducible first|refine wr ?_|refine wb2 ?_ ?_<;>(intro hb;try simp only[hb])|fail)<;>try simp only[go_sem,seval])
 all_goals first
  |(simp only[A1Y]at hb;subst hb;exact A3 rfl)
  |(simp only[beq_eq_false_iff_ne,ne_eq]at *;refine A3 ?_;rw[(E3b ‹_› ‹_› ‹_› ‹_› ‹_› ‹_› ‹_› ‹_› ‹_› ‹_› ‹_› ‹_› ‹_› ‹_› ‹_› ‹_› ‹_› ‹_›).1,(E3b ‹_› ‹_› ‹_› ‹_› ‹_› ‹_› ‹_› ‹_› ‹_› ‹_› ‹_› ‹_› ‹_› ‹_› ‹_› ‹_› ‹_› ‹_›).2])
theorem c_bSpan(c:Prg)(hl:Lim c)(op:Int):PC Tryz.prog 308 [c.v,I64 op] (.tup [I64 (H6 c op).1,I64 (H6 c op).2]):=by
 obtain⟨wp,wv,ws,wi,wt,we, -, -, -, -, -⟩:=hl;refine PC.go A2 ?_;repeat' ((with_reducible first|refine wr ?_|refine wb2 ?_ ?_<;>(intro hb;try simp only[hb])|fail)<;>try simp only[go_sem,seval,wp,wv,ws,wt,we])
 all_goals first
  |(simp only[A1Y]at hb;subst hb;refine A3 ?_;simp[H6];done)
  |(refine A3 ?_;simp_all[H6])
theorem c_IF_str{g:(List UInt8)->Bool}{f:Nat}{a cs:List DV}(xs:List (List UInt8))(hx:xs.length<=9223372036854775807)(na:DV.nlL a=true)(ncs:DV.nlL cs=true)(hf:∀ x∈xs,PC Tryz.prog f (a++[DV.str x]++cs) (.bool (g x))):
  PC Tryz.prog 333 [.lst (xs.map DV.str),.func f a cs] (I64 (O5 g xs 0)):=by
 refine PC.ofT A2 rfl (A0D rfl) (by simp[DV.nlL,DV.nl,K0,na,ncs]) rfl ?_;repeat' (apply wr<;>try simp only[go_sem,seval])
 refine A9 (fun k:Nat=>[(0,.lst (xs.map DV.str)),(1,.func f a cs),(7,I64 xs.length),(8,I64 k)]) (fun _=>nil) (fun k _=>k<=xs.length/\O5 g xs 0=O5 g (xs.drop k) k) (fun k=>xs.length-k) 0 (by simp[C1,tm,Tm.upd]) (Sub.nil _) (by simp) ?_;rintro k c ⟨hk,he⟩;by_cases hlt:k<xs.length
 ·have hd:=dtz hlt;have hg:=A0B hlt;have hw:=w64 (n:=(k:Int)+1);have hst:=P8 (g:=g) hg;have hc:=hf xs[k] (A0L hlt);repeat' ((with_reducible first|refine wr ?_|refine cpc hc ?_|refine wb2 ?_ ?_<;>(intro hb;try simp only[hb])|fail)<;>try simp only[go_sem,seval,hd,hg,hw])
  ·refine A3 ?_;rw[he,hst,hb];rfl
  ·exact⟨k+1,rfl,Sub.refl _,inv ⟨by omega,by rw[he,hst,hb];rfl⟩,by omega⟩
 ·have hd:=dfz hlt;repeat' (apply wr<;>try simp only[go_sem,seval,hd])
  refine A3 ?_;rw[he,U2 (by omega)]
theorem c_CF_str{g:(List UInt8)->Bool}{f:Nat}{a cs:List DV}(xs:List (List UInt8))(hx:xs.length<=9223372036854775807)(na:DV.nlL a=true)(ncs:DV.nlL cs=true)(hf:∀ x∈xs,PC Tryz.prog f (a++[DV.str x]++cs) (.bool (g x))):
  PC Tryz.prog 301 [.lst (xs.map DV.str),.func f a cs] (.bool (xs.any g)):=by
 refine PC.ofT A2 rfl (A0D rfl) (by simp[DV.nlL,DV.nl,K0,na,ncs]) rfl ?_;have hc:=c_IF_str xs hx na ncs hf;repeat' ((with_reducible first|apply wr|refine cpc hc ?_|fail)<;>try simp only[go_sem,seval])
 refine A3 ?_;rw[U3]
theorem c_IF_int{g:Int->Bool}{f:Nat}{a cs:List DV}(xs:List Int)(hx:xs.length<=9223372036854775807)(na:DV.nlL a=true)(ncs:DV.nlL cs=true)(hf:∀ x∈xs,PC Tryz.prog f (a++[I64 x]++cs) (.bool (g x))):
  PC Tryz.prog 261 [.lst (xs.map I64),.func f a cs] (I64 (O5 g xs 0)):=by
 refine PC.ofT A2 rfl (A0D rfl) (by simp[DV.nlL,DV.nl,Q9,na,ncs]) rfl ?_;repeat' (apply wr<;>try simp only[go_sem,seval])
 refine A9 (fun k:Nat=>[(0,.lst (xs.map I64)),(1,.func f a cs),(7,I64 xs.length),(8,I64 k)]) (fun _=>nil) (fun k _=>k<=xs.length/\O5 g xs 0=O5 g (xs.drop k) k) (fun k=>xs.length-k) 0 (by simp[C1,tm,Tm.upd]) (Sub.nil _) (by simp) ?_;rintro k c ⟨hk,he⟩;by_cases hlt:k<xs.length
 ·have hd:=dtz hlt;have hg:=A0B hlt;have hw:=w64 (n:=(k:Int)+1);have hst:=P8 (g:=g) hg;have hc:=hf xs[k] (A0L hlt);repeat' ((with_reducible first|refine wr ?_|refine cpc hc ?_|refine wb2 ?_ ?_<;>(intro hb;try simp only[hb])|fail)<;>try simp only[go_sem,seval,hd,hg,hw])
  ·refine A3 ?_;rw[he,hst,hb];rfl
  ·exact⟨k+1,rfl,Sub.refl _,inv ⟨by omega,by rw[he,hst,hb];rfl⟩,by omega⟩
 ·have hd:=dfz hlt;repeat' (apply wr<;>try simp only[go_sem,seval,hd])
  refine A3 ?_;rw[he,U2 (by omega)]
theorem c_CF_int{g:Int->Bool}{f:Nat}{a cs:List DV}(xs:List Int)(hx:xs.length<=9223372036854775807)(na:DV.nlL a=true)(ncs:DV.nlL cs=true)(hf:∀ x∈xs,PC Tryz.prog f (a++[I64 x]++cs) (.bool (g x))):
  PC Tryz.prog 182 [.lst (xs.map I64),.func f a cs] (.bool (xs.any g)):=by
 refine PC.ofT A2 rfl (A0D rfl) (by simp[DV.nlL,DV.nl,Q9,na,ncs]) rfl ?_;have hc:=c_IF_int xs hx na ncs hf;repeat' ((with_reducible first|apply wr|refine cpc hc ?_|fail)<;>try simp only[go_sem,seval])
 refine A3 ?_;rw[U3]
theorem c_IF_ent{g:Ent->Bool}{f:Nat}{a cs:List DV}(xs:List Ent)(hx:xs.length<=9223372036854775807)(na:DV.nlL a=true)(ncs:DV.nlL cs=true)(hf:∀ x∈xs,PC Tryz.prog f (a++[Ent.v x]++cs) (.bool (g x))):
  PC Tryz.prog 183 [.lst (xs.map Ent.v),.func f a cs] (I64 (O5 g xs 0)):=by
 refine PC.ofT A2 rfl (A0D rfl) (by simp[DV.nlL,DV.nl,P7,na,ncs]) rfl ?_;repeat' (apply wr<;>try simp only[go_sem,seval])
 refine A9 (fun k:Nat=>[(0,.lst (xs.map Ent.v)),(1,.func f a cs),(7,I64 xs.length),(8,I64 k)]) (fun _=>nil) (fun k _=>k<=xs.length/\O5 g xs 0=O5 g (xs.drop k) k) (fun k=>xs.length-k) 0 (by simp[C1,tm,Tm.upd]) (Sub.nil _) (by simp) ?_;rintro k c ⟨hk,he⟩;by_cases hlt:k<xs.length
 ·have hd:=dtz hlt;have hg:=A0B hlt;have hw:=w64 (n:=(k:Int)+1);have hst:=P8 (g:=g) hg;have hc:=hf xs[k] (A0L hlt);repeat' ((with_reducible first|refine wr ?_|refine cpc hc ?_|refine wb2 ?_ ?_<;>(intro hb;try simp only[hb])|fail)<;>try simp only[go_sem,seval,hd,hg,hw])
  ·refine A3 ?_;rw[he,hst,hb];rfl
  ·exact⟨k+1,rfl,Sub.refl _,inv ⟨by omega,by rw[he,hst,hb];rfl⟩,by omega⟩
 ·have hd:=dfz hlt;repeat' (apply wr<;>try simp only[go_sem,seval,hd])
  refine A3 ?_;rw[he,U2 (by omega)]
theorem c_CF_ent{g:Ent->Bool}{f:Nat}{a cs:List DV}(xs:List Ent)(hx:xs.length<=9223372036854775807)(na:DV.nlL a=true)(ncs:DV.nlL cs=true)(hf:∀ x∈xs,PC Tryz.prog f (a++[Ent.v x]++cs) (.bool (g x))):
  PC Tryz.prog 114 [.lst (xs.map Ent.v),.func f a cs] (.bool (xs.any g)):=by
 refine PC.ofT A2 rfl (A0D rfl) (by simp[DV.nlL,DV.nl,P7,na,ncs]) rfl ?_;have hc:=c_IF_ent xs hx na ncs hf;repeat' ((with_reducible first|apply wr|refine cpc hc ?_|fail)<;>try simp only[go_sem,seval])
 refine A3 ?_;rw[U3]
theorem c_limits(c:Prg):PC Tryz.prog 246 [c.v] (.bool (M9 c)):=by
 refine PC.go A2 ?_;repeat' ((with_reducible first|refine wr ?_|refine cpc (c_within _ _ _) ?_|refine wb2 ?_ ?_<;>(intro hb;try simp only[hb])|fail)<;>try simp only[go_sem,seval])
 all_goals (refine A3 ?_;simp_all[M9]<;>omega)
theorem c_p1(s:List UInt8)(hs:s.length<=140737488355328):PC Tryz.prog 302 [.str s] (.bool (!O3 s)):=by
 refine PC.go A2 ?_;repeat' ((with_reducible first|refine wr ?_|refine cpc (c_bIsText s hs) ?_|fail)<;>try simp only[go_sem,seval])
 exact A3 rfl
theorem c_p2(n:Int):PC Tryz.prog 304 [I64 n] (.bool (!inM n 0 99)):=by
 refine PC.go A2 ?_;repeat' ((with_reducible first|refine wr ?_|refine cpc (c_within _ _ _) ?_|fail)<;>try simp only[go_sem,seval])
 exact A3 rfl
theorem c_p3(n:Int):PC Tryz.prog 305 [I64 n] (.bool (!inM n (-2147483647) 2147483647)):=by
 refine PC.go A2 ?_;repeat' ((with_reducible first|refine wr ?_|refine cpc (c_within _ _ _) ?_|fail)<;>try simp only[go_sem,seval])
 exact A3 rfl
theorem c_p4(c:Prg)(hl:Lim c)(e:Ent):PC Tryz.prog 306 [e.v,.fptr c.cs] (.bool (!A2i c e)):=by
 refine PC.go A2 ?_;repeat' ((with_reducible first|refine wr ?_|refine cpc (c_goodEntry c hl e) ?_|fail)<;>try simp only[go_sem,seval])
 exact A3 rfl
theorem c_t1(c:Prg)(hl:Lim c)(e:Ent):PC Tryz.prog 310 [e.v,.fptr c.cs] (.bool (!B5x c e)):=by
 obtain⟨wp,wv,ws,wi,wt,we,li,ls,le,lp,lv⟩:=hl;refine PC.go A2 ?_;repeat' ((with_reducible first|refine wr ?_|refine cpc (c_within _ _ _) ?_|fail)<;>try simp only[go_sem,seval,wi])
 exact A3 rfl
theorem D4h(c:Prg)(fn:Nat)(l:List DV):GL (nil.upd 0 ⟨0,true,c.cs⟩) [.lst l,.func fn [] [.ptr 0 0]] nil [.lst l,.func fn [] [.fptr c.cs]] :=
 GL.one (b:=⟨0,true,c.cs⟩) rfl rfl (.cons _ _ _ _ (.same _) (.cons _ _ _ _ (.func _ _ _ _ _ .nil (.cons _ _ _ _ (.ptr 0 c.cs (A0O _) rfl) .nil)) .nil))
theorem c_targets(c:Prg)(hl:Lim c):PC Tryz.prog 248 [c.v] (.bool (I5 c)):=by
 have hl0:=hl;obtain⟨wp,wv,ws,wi,wt,we,li,ls,le,lp,lv⟩:=hl;have cf:=c_CF_ent (a:=[]) (cs:=[.fptr c.cs]) c.entries (by omega) rfl (by simp[DV.nlL,DV.nl,Q9,K0,A1e,P7]) (fun e _=>c_t1 c hl0 e);rw[A3n]at cf;refine PC.go A2 ?_;repeat' (apply wr<;>try simp only[go_sem,seval])
 refine A9 (fun k:Nat=>[(1,.ptr 0 0),(6,A1q c.instrs),(7,I64 c.instrs.length),(8,I64 k)]) (fun _=>nil.upd 0 ⟨0,true,c.cs⟩) (fun k cc=>1<=cc/\k<=c.instrs.length/\(c.instrs.take k).all (A4a c)=true) (fun k=>c.instrs.length-k) 0 (by simp[C1,tm,Tm.upd]) (Sub.refl _) (by simp) ?_;rintro k cc ⟨h1c,hk,he⟩;have ne0:=A0m 0 cc (by omega);by_cases hlt:k<c.instrs.length
 ·have hd:=dtz hlt;have hg:=A0B hlt;have hw:=w64 (n:=(k:Int)+1);repeat' ((with_reducible first|refine wr ?_|refine cpc (c_isJ _) ?_|refine cpc (c_within _ _ _) ?_|refine wb2 ?_ ?_<;>(intro hb;try simp only[hb])|fail)<;>try simp only[go_sem,seval,hd,hg,hw,wi,ne0])
  ·refine A3 ?_;have hf:=Y6 (A4a c) c.instrs k _ hg (by rw[A4a, <- A5t];simp_all);simp[I5,hf]
  all_goals exact⟨k+1,rfl,by (intro j b hj;simp only[Hp.upd,Sym.nil]at hj ⊢;(repeat' split at hj)<;>(repeat' split)<;>first|exact hj|(exfalso;omega)|cases hj),inv ⟨by omega,by omega,by rw[B7f (A4a c) _ k _ hg he,A4a, <- A5t];simp_all⟩,by omega⟩
 ·have hd:=dfz hlt;have hall:=A2p (A4a c) c.instrs k (by omega) he;repeat' ((first|(with_reducible first|refine wr ?_)|(with_reducible refine wb2 ?_ ?_<;>(intro hb;try simp only[hb]))|((with_reducible refine AC.call (PC.lend cf rfl (D4h c _ _)) ?_);rintro _ _ _ ⟨rfl,rfl,rfl⟩ -)|fail)<;>try simp only[go_sem,seval,hd])
  refine A3 ?_;simp[I5,hall]
theorem c_bparts(c:Prg)(hl:Lim c)(hs:∀ s∈c.strings,s.length<=140737488355328):PC Tryz.prog 247 [c.v] (.bool (X3 c)):=by
 have hl0:=hl;obtain⟨wp,wv,ws,wi,wt,we,li,ls,le,lp,lv⟩:=hl;have cf1:=c_CF_str (g:=fun s => !O3 s) (a:=[]) (cs:=[]) c.strings (by omega) rfl rfl (fun s h=>c_p1 s (hs s h));have cf2:=c_CF_int (g:=fun n => !inM n 0 99) (a:=[]) (cs:=[]) c.prios (by omega) rfl rfl (fun n _=>c_p2 n);have cf3:=c_CF_int (g:=fun n => !inM n (-2147483647) 2147483647) (a:=[]) (cs:=[]) c.vars (by omega) rfl rfl (fun n _=>c_p3 n);have cf4:=c_CF_ent (g:=fun e => !A2i c e) (a:=[]) (cs:=[.fptr c.cs]) c.entries (by omega) rfl (by simp[DV.nlL,DV.nl,Q9,K0,A1e,P7]) (fun e _=>c_p4 c hl0 e);rw[A3n]at cf1 cf2 cf3 cf4;have main:∀ (b:Bool) (cc:Nat),1<=cc->b = !(c.strings.all O3 && c.prios.all (fun n=>inM n 0 99) && c.vars.all (fun n=>inM n (-2147483647) 2147483647) && c.entries.all (A2i c)) ->
   IW Tryz.prog 59 (.loop (pz Tryz.prog 247 (.o (.i (.o .h))))) ⟨tm [(1,.ptr 0 0),(3,.bool b),(28,A1q c.instrs),(29,I64 c.instrs.length),(30,I64 0)],nil.upd 0 ⟨0,true,c.cs⟩,cc⟩ (bk 0 (sq Tryz.prog 59 (pz Tryz.prog 247 (.o (.o (.o (.i .h))))) (rt [.tmp 2] fun v H' x => ∃ H2,GL H' [v] H2 [.bool (X3 c)]))):=by
  intro b cc h1c hbG;refine A9 (fun k:Nat=>[(1,.ptr 0 0),(3,.bool (b || !(c.instrs.take k).all (D2 c))),(28,A1q c.instrs),(29,I64 c.instrs.length),(30,I64 k)]) (fun _=>nil.upd 0 ⟨0,true,c.cs⟩) (fun k cc=>1<=cc/\k<=c.instrs.length) (fun k=>c.instrs.length-k) 0 (by simp[C1,tm,Tm.upd]) (Sub.refl _) (by simp;omega) ?_;rintro k cc ⟨h1c,hk⟩;have ne0:=A0m 0 cc (by omega);by_cases hlt:k<c.instrs.length
  ·have hd:=dtz hlt;have hg:=A0B hlt;have hw:=w64 (n:=(k:Int)+1);have hta:=A0u (D2 c) c.instrs k _ hg;rw[B5m]at hta;clear hbG;generalize hB:(b || !(c.instrs.take k).all (D2 c))=B;repeat' ((with_reducible first|refine wr ?_|refine cpc (c_isJ _) ?_|refine cpc (c_within _ _ _) ?_|refine cpc (c_bSpan c hl0 _) ?_|refine wb2 ?_ ?_<;>(intro hb;try simp only[hb])|fail)<;>try simp only[go_sem,seval,hd,hg,hw,ne0])
   all_goals exact⟨k+1,by rw[hta,C5q,hB];simp_all,by (intro j b hj;simp only[Hp.upd,Sym.nil]at hj ⊢;(repeat' split at hj)<;>(repeat' split)<;>first|exact hj|(exfalso;omega)|cases hj),inv ⟨by omega,hlt⟩,by omega⟩
  ·have hd:=dfz hlt;repeat' (apply wr<;>try simp only[go_sem,seval,hd])
   refine A3 ?_;rw[A0M (by omega)];simp only[X3,hbG];simp only[Bool.not_or,Bool.not_not]
 refine PC.go A2 ?_;repeat' ((first|(with_reducible first|refine wr ?_|refine cpc cf1 ?_|refine cpc cf2 ?_|refine cpc cf3 ?_)|(with_reducible refine wb2 ?_ ?_<;>(intro hb;try simp only[hb]))|((with_reducible refine AC.call (PC.lend cf4 rfl (D4h c _ _)) ?_);rintro _ _ _ ⟨rfl,rfl,rfl⟩ -)|fail)<;>try simp only[go_sem,seval])
 all_goals (refine main _ _ (by omega) ?_;simp only[A3J,Bool.not_eq_false']at *;simp only[*,A3H,A2N,Bool.false_and,A3V,Bool.not_false])
theorem c_reach(c:Prg)(h:List Int)(wk:List Nat)(o:Option Nat)(junk:List DV)(H:Hp)(cc:Nat)(p:Nat)(x:Int)(hS:WkS c h wk o junk H cc)(hw:wk.length<=100000):
  AC Tryz.prog 311 [I64 (p:Int),I64 x,.ptr 2 0,.ptr 3 0] H cc (fun v H' c'=>match H7 h wk p x with
   |none=>v=.bool false
   |some (h',wk')=>v=.bool true/\∃ o' junk',WkS c h' wk' o' junk' H' c'/\∀ j,4<=j->j<cc->o≠some j->H' j=H j):=by
 obtain⟨h0,h1,h2,h3,hn,hs,hc⟩:=hS;refine AC.bodyT A2 rfl (A0D rfl) fun hfr=>?_;by_cases hp:h.length<=p
 ·have hd:decide ((p:Int)≥h.length)=true:=by simp;omega
  have hr:H7 h wk p x=none:=by rw[H7,if_pos (.inl hp)]
  repeat' (apply wr<;>try simp only[go_sem,seval,h2,hd])
  exact⟨_,_,GL.refl _ _,by rw[hr]⟩
 have hp':p<h.length:=by omega
 have hd:decide ((p:Int)≥h.length)=false:=by simp;omega
 have hg:=A0B hp';have hgd:h.getD p 0=h[p]:=by simp[List.getD,hg]
 have hput:=C0n (f:=I64) (l:=h) (n:=p) (a:=x) hp';have hle:p+1<=h.length:=hp';rcases o with _|id
 ·obtain rfl:=hn rfl;have ne0:=A5k 0 1 2 3 cc (cc+1) (by omega);repeat' ((first|(with_reducible first|refine wr ?_)|(with_reducible refine wb2 ?_ ?_<;>(intro hb;try simp only[hb]))|((with_reducible refine F4 (A2x (by decide) (by decide) (by decide)) ?_))|fail)<;>try simp only[go_sem,seval,h1,h2,h3,hd,hp',hg,hput,hle,A1H,ne0])
  ·have hr:H7 h [] p x=none:=by simp_all[H7]
   exact⟨_,_,GL.refl _ _,by rw[hr]⟩
  ·have hr:H7 h [] p x=none:=by simp_all[H7]
   exact⟨_,_,GL.refl _ _,by rw[hr]⟩
  ·exfalso;simp at *;omega
  ·have hr:H7 h [] p x=some (h,[]):=by simp_all[H7]<;>omega
   refine⟨_,_,GL.refl _ _,?_⟩;rw[hr];exact⟨rfl,none,junk,⟨h0,h1,h2,h3,hn,hs,hc⟩,fun _ _ _ _=>rfl⟩
  ·have hr:H7 h [] p x=some (h.set p x,p :: []):=by simp_all[H7]<;>omega
   refine⟨_,_,GL.refl _ _,?_⟩;rw[hr];refine⟨rfl,some (cc+1),[],⟨?_,?_,?_,?_,by simp,fun i hi=>?_,by omega⟩,fun j hj1 hj2 hj3=>?_⟩
   ·simp only[go_sem,seval,ne0,h0]
   ·simp only[go_sem,seval,ne0]
   ·simp only[go_sem,seval,ne0,h2,List.length_set]
   ·simp only[go_sem,seval]
   ·cases hi;refine⟨by omega,by omega,?_⟩;simp only[go_sem,seval,ne0,A4z];try rfl
   ·have k1:¬ j=1:=by omega
    have k2:¬ j=3:=by omega
    have k3:¬ j=cc:=by omega
    have k4:¬ j=cc+1:=by omega
    simp only[go_sem,seval,k1,k2,k3,k4]
  ·exfalso;simp at *;omega
 ·obtain⟨i2,i3,hi4⟩:=hs id rfl;have ne0:=D7j 0 1 2 3 id cc (cc+1) (by omega);have hmx:wk.length+1<=maxLen:=by simp only[maxLen];omega
  have hcl:wk.length * 1<=(wkC wk++junk).length:=by simp[A4y]
  have htake:(wkC wk++junk).take (wk.length)=wkC wk:=List.take_left' (A4y wk);repeat' ((first|(with_reducible first|refine wr ?_)|(with_reducible refine wb2 ?_ ?_<;>(intro hb;try simp only[hb]))|((with_reducible refine F4 (D4n hcl (by omega) hmx) ?_))|fail)<;>try simp only[go_sem,seval,h1,h2,h3,hi4,hd,hp',hg,hput,hle,htake,ne0])
  ·have hr:H7 h wk p x=none:=by simp_all[H7]
   exact⟨_,_,GL.refl _ _,by rw[hr]⟩
  ·have hr:H7 h wk p x=none:=by simp_all[H7]
   exact⟨_,_,GL.refl _ _,by rw[hr]⟩
  ·exfalso;simp at *;omega
  ·have hr:H7 h wk p x=some (h,wk):=by simp_all[H7]<;>omega
   refine⟨_,_,GL.refl _ _,?_⟩;rw[hr];exact⟨rfl,some id,junk,⟨h0,h1,h2,h3,hn,hs,hc⟩,fun _ _ _ _=>rfl⟩
  ·have hr:H7 h wk p x=some (h.set p x,p :: wk):=by simp_all[H7]<;>omega
   refine⟨_,_,GL.refl _ _,?_⟩;rw[hr];refine⟨rfl,some (cc+1),[],⟨?_,?_,?_,?_,by simp,fun i hi=>?_,by omega⟩,fun j hj1 hj2 hj3=>?_⟩
   ·simp only[go_sem,seval,ne0,h0]
   ·simp only[go_sem,seval,ne0]
   ·simp only[go_sem,seval,ne0,h2,List.length_set]
   ·simp only[go_sem,seval]
   ·cases hi;refine⟨by omega,by omega,?_⟩;simp only[go_sem,seval,ne0,A4z];try rfl
   ·have hj4:¬ j=id:=fun e=>hj3 (by rw[e]);have k1:¬ j=1:=by omega
    have k2:¬ j=3:=by omega
    have k3:¬ j=cc:=by omega
    have k4:¬ j=cc+1:=by omega
    simp only[go_sem,seval,hj4,k1,k2,k3,k4]
  ·exfalso;simp at *;omega
theorem c_reach'(c:Prg)(h:List Int)(wk:List Nat)(o:Option Nat)(junk:List DV)(H:Hp)(cc:Nat)(p:Int)(x:Int)(hp:0<=p)(hS:WkS c h wk o junk H cc)(hw:wk.length<=100000):
  AC Tryz.prog 311 [I64 p,I64 x,.ptr 2 0,.ptr 3 0] H cc (fun v H' c'=>(H7 h wk p.toNat x=none/\v=.bool false) \/
   ∃ h' wk' o' junk',H7 h wk p.toNat x=some (h',wk')/\v=.bool true/\WkS c h' wk' o' junk' H' c'/\∀ j,4<=j->j<cc->o≠some j->H' j=H j):=by
 have hpp:(p.toNat:Int)=p:=by omega
 have key:=c_reach c h wk o junk H cc p.toNat x hS hw;rw[hpp]at key;refine key.mono fun v H' c' hq=>?_;cases hr:H7 h wk p.toNat x with
 |none=>rw[hr]at hq;exact .inl ⟨rfl,hq⟩
 |some q =>
  obtain⟨h',wk'⟩:=q;rw[hr]at hq;obtain⟨e,o',junk',s1,s2⟩:=hq;exact .inr ⟨h',wk',o',junk',rfl,e,s1,s2⟩
abbrev clo:DV:=.func 311 [] [.ptr 2 0,.ptr 3 0]
theorem B8t(c:Prg)(hl:Lim c)(hj:I5 c=true)(r:Option (List Int))(n:Nat)(h:List Int)(wk:List Nat)(o:Option Nat)(junk:List DV)(cc:Nat)(hc4:4<=cc)(hn:o=none->wk=[])(hs:∀ i,o=some i->4<=i/\i<cc)
  (hI:WkI c.instrs.length h wk) (hb:wk.length+2 * n<=60000) (hr:B6g c n h wk=some r) :
  IW Tryz.prog 150 (.loop (pz Tryz.prog 250 (.o (.o (.i (.o (.i .h))))))) ⟨tm [(1,.ptr 0 0),(4,.ptr 2 0),(6,.ptr 3 0),(7,clo)],WH c h wk o junk,cc⟩ (bk 4 (sq Tryz.prog 150 (pz Tryz.prog 250 (.i (.i (.o (.o (.o (.i .h))))))) (rt [.tmp 2,.tmp 3] fun v H' x => ∃ H2,GL H' [v] H2 [C3y r]))):=by
 have hjI:∀ i∈c.instrs,i.op=12\/i.op=13\/i.op=14->0<=i.A/\i.A<=(c.instrs.length:Int)-1:=by
  intro i hi hop;simp only[I5,A0F,A0R]at hj;have:=hj.1 i hi;have hk:(D0 i.op).2.2=7:=by rcases hop with e|e|e<;>rw[e]<;>decide
  simpa[A4a,hk,inM] using this
 obtain⟨wp,wv,ws,wi,wt,we,li,ls,le,lp,lv⟩:=hl;refine A9 (fun q:Nat × List Int × List Nat × Option Nat × List DV=>[(1,.ptr 0 0),(4,.ptr 2 0),(6,.ptr 3 0),(7,clo)])
  (fun q=>WH c q.2.1 q.2.2.1 q.2.2.2.1 q.2.2.2.2)
  (fun q cc=>4<=cc/\(q.2.2.2.1=none->q.2.2.1=[])/\(∀ i,q.2.2.2.1=some i->4<=i/\i<cc)/\WkI c.instrs.length q.2.1 q.2.2.1/\q.2.2.1.length+2 * q.1<=60000/\B6g c q.1 q.2.1 q.2.2.1=some r)
  (fun q=>q.1) (n,h,wk,o,junk) ⟨rfl,rfl,rfl,rfl,trivial⟩ (Sub.refl _) ⟨hc4,hn,hs,hI,hb,hr⟩ ?_
 clear hc4 hn hs hI hb hr;rintro⟨n,h,wk,o,junk⟩ cc ⟨hc4,hn,hs,hI,hb,hr⟩;simp only at hn hs hI hb hr;obtain⟨m,rfl⟩:∃ m,n=m+1:=by
  cases n with
  |zero=>cases hr
  |succ m=>exact⟨m,rfl⟩
 have hS:=WkS.mk' (c:=c) (h:=h) (junk:=junk) hn hs hc4;rcases wk with _|⟨p,wk⟩
 ·simp only[B6g,Option.some.injEq]at hr;subst hr;have hlen:A5r (todoV o 0)=some (I64 0):=by cases o<;>rfl
  repeat' (apply wr<;>try simp only[go_sem,seval,hS.h2,hS.h3,hlen,A1H])
  exact D1i (u:=1) hS.h1 rfl (by simp) (C3u h) ⟨[],by rw[A1j,A0W]⟩
 rcases o with _|id
 ·exact absurd (hn rfl) (by simp)
 obtain⟨i2,i3⟩:=hs id rfl;have hbl:=(hS.hs id rfl).2.2;rw[A0K]at hb;have hpos:decide (((wk.length+1:Nat):Int)>0)=true:=by simp
 have hw:=w64 (n:=(((wk.length+1:Nat):Int)-1)) (by omega) (by omega);have hw1:(((wk.length+1:Nat):Int)-1)=(wk.length:Int):=by omega
 rw[hw1]at hw;obtain⟨s1,s2,s3⟩:=hI.mem p A0H;have hIt:WkI c.instrs.length h wk:=⟨hI.hl,fun q hq=>hI.mem q (A0G _ hq)⟩;have hlen:=hI.hl;have hp':p<h.length:=by omega
 have hgh:=A0B hp';have hgi:=A0B s1;have eh:h.getD p 0=h[p]:=by simp[List.getD,hgh]
 have ei:c.instrs.getD p ⟨0,0⟩=c.instrs[p]:=by simp[List.getD,hgi]
 simp only[B6g]at hr;rw[eh]at s2 s3;rw[eh,ei]at hr;obtain⟨b1,b2,b3,b4⟩:=B4b c.instrs[p].op;have w2:=w64 (n:=h[p]-(D0 c.instrs[p].op).1);have w3:=w64 (n:=h[p]-(D0 c.instrs[p].op).1+(D0 c.instrs[p].op).2.1);have hcell:(wkC (p :: wk)++junk)[wk.length]? = some (I64 (p:Int)):=by
  rw[A4z,A0P,A1S (by simp[A4y]),A4y];simp
 have hblen:wk.length+1<=(wkC (p :: wk)++junk).length:=by simp[A4y]
 have ne0:=D7j 0 1 2 3 id cc (cc+1) (by omega);by_cases hok:¬ h[p]≥(D0 c.instrs[p].op).1
 ·rw[if_pos (.inl (by omega))]at hr;cases hr;have hok':decide (h[p]≥(D0 c.instrs[p].op).1)=false:=by simpa using hok
  repeat' ((with_reducible first|refine wr ?_|refine cpc (c_stack _) ?_|refine wb2 ?_ ?_<;>(intro hb;try simp only[hb])|fail)<;>try simp only[go_sem,seval,hS.h0,hS.h1,hS.h2,hS.h3,hbl,A0K,hw1,hw,hpos,hcell,hgh,hgi,s1,hlen,w2,w3,hok',A3U,A3A,ne0])
  all_goals exact J9
 have hok1:h[p]≥(D0 c.instrs[p].op).1:=by omega
 have hok':decide (h[p]≥(D0 c.instrs[p].op).1)=true:=by simpa using hok1
 have hwp:=w64 (n:=(p:Int)+1);have hpp:((p:Int)+1).toNat=p+1:=by omega
 by_cases e31:c.instrs[p].op=31
 ·have o31:(c.instrs[p].op == 31)=true:=by simpa using e31
  by_cases hz:h[p]=0
  ·have hz':(h[p] == 0)=true:=by simpa using hz
   rw[if_neg (by omega)]at hr;have hA:F6 c.instrs[p] p h[p]=[]:=by simp[F6,e31]
   rw[hA]at hr;simp only[I8]at hr;repeat' ((with_reducible first|refine wr ?_|refine cpc (c_stack _) ?_|fail)<;>try simp only[go_sem,seval,hS.h0,hS.h1,hS.h2,hS.h3,hbl,A0K,hw1,hw,hpos,hcell,hgh,hgi,s1,hlen,w2,w3,hok',A3U,A3A,ne0,o31,hz'])
   have hS':=(hS.pop.upd ⟨0,true,[DV.int IntKind.i64 0,DV.int IntKind.i64 0]⟩ (A0E _) (A0E _)).upd ⟨0,true,[I64 c.instrs[p].op,I64 c.instrs[p].A]⟩ (A0E _) (A2Q _);exact⟨(m,h,wk,some id,I64 (p:Int) :: junk),hS'.sub,inv ⟨hS'.hc,hS'.hn,fun i hi=>⟨(hS'.hs i hi).1,(hS'.hs i hi).2.1⟩,hIt,by simp only;omega,hr⟩,by simp only;omega⟩
  ·have hz':(h[p] == 0)=false:=by simpa using hz
   rw[if_pos (.inr ⟨e31,hz⟩)]at hr;cases hr;repeat' ((with_reducible first|refine wr ?_|refine cpc (c_stack _) ?_|fail)<;>try simp only[go_sem,seval,hS.h0,hS.h1,hS.h2,hS.h3,hbl,A0K,hw1,hw,hpos,hcell,hgh,hgi,s1,hlen,w2,w3,hok',A3U,A3A,ne0,o31,hz'])
   exact J9
 have o31:(c.instrs[p].op == 31)=false:=by simpa using e31
 rw[if_neg (by omega)]at hr;by_cases e12:c.instrs[p].op=12
 ·have o12:(c.instrs[p].op == 12)=true:=by simpa using e12
  have p1:=(hjI _ (A0L s1) (.inl e12)).1;have hE:D0 c.instrs[p].op=(0,0,7):=by rw[e12];decide
  have hA:F6 c.instrs[p] p h[p]=[(c.instrs[p].A.toNat,h[p])]:=by simp[F6,e12]
  have hx:h[p]-(D0 c.instrs[p].op).1+(D0 c.instrs[p].op).2.1=h[p]:=by rw[hE];simp
  repeat' ((with_reducible first|refine wr ?_|refine cpc (c_stack _) ?_|fail)<;>try simp only[go_sem,seval,hS.h0,hS.h1,hS.h2,hS.h3,hbl,A0K,hw1,hw,hpos,hcell,hgh,hgi,s1,hlen,w2,w3,hok',A3U,A3A,ne0,o31,o12])
  refine AC.call (c_reach' c h wk (some id) _ _ _ (c.instrs[p].A) _ (p1) ((hS.pop.upd _ (A0E _) (A0E _)).upd _ (A0E _) (A2Q _)) (by omega)) ?_;rintro v H' c' hq hcc;rw[hA]at hr;rw[hx]at hq;rcases hq with ⟨hr0,rfl⟩|⟨h',wk',o',junk',hr1,rfl,hS',hfr⟩
  ·simp only[I8,hr0]at hr;cases hr;simp only[go_sem,seval];repeat' (apply wr<;>try simp only[go_sem,seval])
   exact J9
  ·simp only[I8,hr1]at hr;obtain⟨hI',hwk'⟩:=P6 hIt s2 hr1;simp only[go_sem,seval];repeat' (apply wr<;>try simp only[go_sem,seval])
   exact⟨(m,h',wk',o',junk'),hS'.sub,inv ⟨hS'.hc,hS'.hn,fun i hi=>⟨(hS'.hs i hi).1,(hS'.hs i hi).2.1⟩,hI',by simp only;omega,hr⟩,by simp only;omega⟩
 have o12:(c.instrs[p].op == 12)=false:=by simpa using e12
 by_cases e13:c.instrs[p].op=13
 ·have o13:(c.instrs[p].op == 13)=true:=by simpa using e13
  have p1:=(hjI _ (A0L s1) (.inr (.inl e13))).1;have hE:D0 c.instrs[p].op=(1,0,7):=by rw[e13];decide
  have hA:F6 c.instrs[p] p h[p]=[(p+1,h[p]-1),(c.instrs[p].A.toNat,h[p]-1)]:=by simp[F6,e13]
  have hx:h[p]-(D0 c.instrs[p].op).1+(D0 c.instrs[p].op).2.1=h[p]-1:=by rw[hE];simp
  have hge:0<=h[p]-1:=by rw[hE]at hok1;simp only at hok1;omega
  repeat' ((with_reducible first|refine wr ?_|refine cpc (c_stack _) ?_|fail)<;>try simp only[go_sem,seval,hS.h0,hS.h1,hS.h2,hS.h3,hbl,A0K,hw1,hw,hpos,hcell,hgh,hgi,s1,hlen,w2,w3,hok',A3U,A3A,ne0,o31,o12,o13,hwp])
  refine AC.call (c_reach' c h wk (some id) _ _ _ ((p:Int)+1) _ (by omega) ((hS.pop.upd _ (A0E _) (A0E _)).upd _ (A0E _) (A2Q _)) (by omega)) ?_;rintro v H' c' hq hcc;rw[hA]at hr;rw[hx]at hq;rw[hpp]at hq;rcases hq with ⟨hr0,rfl⟩|⟨h',wk',o',junk',hr1,rfl,hS',hfr⟩
  ·simp only[I8,hr0]at hr;cases hr;simp only[go_sem,seval];repeat' (apply wr<;>try simp only[go_sem,seval])
   exact J9
  ·obtain⟨hI',hwk'⟩:=P6 hIt hge hr1;simp only[I8,hr1]at hr;have hbox:=(hfr cc hc4 (A1O _) (by simp;omega)).trans h_same;simp only[go_sem,seval,hbox];repeat' (apply wr<;>try simp only[go_sem,seval,hbox,o31,o12,o13,hwp])
   refine AC.call (c_reach' c h' wk' o' junk' _ _ c.instrs[p].A _ p1 hS' (by omega)) ?_;rintro v H2 c2 hq hcc2;rw[hx]at hq;rcases hq with ⟨hr0,rfl⟩|⟨h2,wk2,o2,junk2,hr2,rfl,hS2,hfr2⟩
   ·simp only[hr0]at hr;cases hr;simp only[go_sem,seval];repeat' (apply wr<;>try simp only[go_sem,seval])
    exact J9
   ·simp only[hr2]at hr;obtain⟨hI2,hwk2⟩:=P6 hI' hge hr2;simp only[go_sem,seval];repeat' (apply wr<;>try simp only[go_sem,seval])
    exact⟨(m,h2,wk2,o2,junk2),hS2.sub,inv ⟨hS2.hc,hS2.hn,fun i hi=>⟨(hS2.hs i hi).1,(hS2.hs i hi).2.1⟩,hI2,by simp only;omega,hr⟩,by simp only;omega⟩
 have o13:(c.instrs[p].op == 13)=false:=by simpa using e13
 by_cases e14:c.instrs[p].op=14
 ·have o14:(c.instrs[p].op == 14)=true:=by simpa using e14
  have p1:=(hjI _ (A0L s1) (.inr (.inr e14))).1;have hE:D0 c.instrs[p].op=(1,1,7):=by rw[e14];decide
  have hA:F6 c.instrs[p] p h[p]=[(p+1,h[p]),(c.instrs[p].A.toNat,h[p]-1)]:=by simp[F6,e14]
  have hx:h[p]-(D0 c.instrs[p].op).1+(D0 c.instrs[p].op).2.1=h[p]:=by rw[hE];simp
  have hge:0<=h[p]-1:=by rw[hE]at hok1;simp only at hok1;omega
  have w4:=w64 (n:=h[p]-(D0 c.instrs[p].op).1+(D0 c.instrs[p].op).2.1-1);repeat' ((with_reducible first|refine wr ?_|refine cpc (c_stack _) ?_|fail)<;>try simp only[go_sem,seval,hS.h0,hS.h1,hS.h2,hS.h3,hbl,A0K,hw1,hw,hpos,hcell,hgh,hgi,s1,hlen,w2,w3,hok',A3U,A3A,ne0,o31,o12,o13,o14,hwp])
  refine AC.call (c_reach' c h wk (some id) _ _ _ ((p:Int)+1) _ (by omega) ((hS.pop.upd _ (A0E _) (A0E _)).upd _ (A0E _) (A2Q _)) (by omega)) ?_;rintro v H' c' hq hcc;rw[hA]at hr;rw[hx]at hq;rw[hpp]at hq;rcases hq with ⟨hr0,rfl⟩|⟨h',wk',o',junk',hr1,rfl,hS',hfr⟩
  ·simp only[I8,hr0]at hr;cases hr;simp only[go_sem,seval];repeat' (apply wr<;>try simp only[go_sem,seval])
   exact J9
  ·obtain⟨hI',hwk'⟩:=P6 hIt s2 hr1;simp only[I8,hr1]at hr;have hbox:=(hfr cc hc4 (A1O _) (by simp;omega)).trans h_same;simp only[go_sem,seval,hbox,w4];repeat' (apply wr<;>try simp only[go_sem,seval,hbox,o31,o12,o13,o14,hwp,w4])
   refine AC.call (c_reach' c h' wk' o' junk' _ _ c.instrs[p].A _ p1 hS' (by omega)) ?_;rintro v H2 c2 hq hcc2;rw[hx]at hq;rcases hq with ⟨hr0,rfl⟩|⟨h2,wk2,o2,junk2,hr2,rfl,hS2,hfr2⟩
   ·simp only[hr0]at hr;cases hr;simp only[go_sem,seval];repeat' (apply wr<;>try simp only[go_sem,seval])
    exact J9
   ·simp only[hr2]at hr;obtain⟨hI2,hwk2⟩:=P6 hI' hge hr2;simp only[go_sem,seval];repeat' (apply wr<;>try simp only[go_sem,seval])
    exact⟨(m,h2,wk2,o2,junk2),hS2.sub,inv ⟨hS2.hc,hS2.hn,fun i hi=>⟨(hS2.hs i hi).1,(hS2.hs i hi).2.1⟩,hI2,by simp only;omega,hr⟩,by simp only;omega⟩
 have o14:(c.instrs[p].op == 14)=false:=by simpa using e14
 have hA:F6 c.instrs[p] p h[p]=[(p+1,h[p]-(D0 c.instrs[p].op).1+(D0 c.instrs[p].op).2.1)]:=by simp[F6,e31,e12,e13,e14]
 have hge:0<=h[p]-(D0 c.instrs[p].op).1+(D0 c.instrs[p].op).2.1:=by omega
 repeat' ((with_reducible first|refine wr ?_|refine cpc (c_stack _) ?_|fail)<;>try simp only[go_sem,seval,hS.h0,hS.h1,hS.h2,hS.h3,hbl,A0K,hw1,hw,hpos,hcell,hgh,hgi,s1,hlen,w2,w3,hok',A3U,A3A,ne0,o31,o12,o13,o14,hwp])
 refine AC.call (c_reach' c h wk (some id) _ _ _ ((p:Int)+1) _ (by omega) ((hS.pop.upd _ (A0E _) (A0E _)).upd _ (A0E _) (A2Q _)) (by omega)) ?_;rintro v H' c' hq hcc;rw[hA]at hr;rw[hpp]at hq;rcases hq with ⟨hr0,rfl⟩|⟨h',wk',o',junk',hr1,rfl,hS',hfr⟩
 ·simp only[I8,hr0]at hr;cases hr;simp only[go_sem,seval];repeat' (apply wr<;>try simp only[go_sem,seval])
  exact J9
 ·simp only[I8,hr1]at hr;obtain⟨hI',hwk'⟩:=P6 hIt hge hr1;simp only[go_sem,seval];repeat' (apply wr<;>try simp only[go_sem,seval])
  exact⟨(m,h',wk',o',junk'),hS'.sub,inv ⟨hS'.hc,hS'.hn,fun i hi=>⟨(hS'.hs i hi).1,(hS'.hs i hi).2.1⟩,hI',by simp only;omega,hr⟩,by simp only;omega⟩
theorem c_heightsP(c:Prg)(hl:Lim c)(hj:I5 c=true)(n:Nat)(hn0:n<=20000)(r:Option (List Int))(hr:B6f c n=some r):PC Tryz.prog 250 [c.v] (C3y r):=by
 have hl0:=hl;obtain⟨wp,wv,ws,wi,wt,we,li,ls,le,lp,lv⟩:=hl;have hms:=D3s (sz:=1) (bytes:=8) (z:=[I64 0]) (k:=.i64) (k':=.i64) (n:=c.instrs.length) (by omega) (by omega) rfl rfl;refine PC.ofT A2 rfl (A0D rfl) (by simp[DV.nlL,DV.nl,Q9,K0,A1e,P7]) (by cases r<;>simp[C3y,DV.nlL,DV.nl,Q9]) ?_;repeat' (apply wr<;>try simp only[go_sem,seval,hms,B1v])
 refine A9 (fun k:Nat=>[(1,.ptr 0 0),(4,.ptr 2 0),(21,I64 c.instrs.length),(22,I64 k)]) (fun k=>((nil.upd 0 ⟨0,true,c.cs⟩).upd 1 ⟨1,true,(A4d c.instrs.length k).map I64⟩).upd 2 ⟨0,true,[.slc 1 0 c.instrs.length]⟩) (fun k cc=>cc=3/\k<=c.instrs.length) (fun k=>c.instrs.length-k) 0
  (by simp[C1,tm,Tm.upd]) (by rw[A5];simpa[A4d] using Sub.refl _) (by simp) ?_
 rintro k cc ⟨rfl,hk⟩;by_cases hlt:k<c.instrs.length
 ·have hd:=dtz hlt;have hw:=w64 (n:=(k:Int)+1);have hlen:(A4d c.instrs.length k).length=c.instrs.length:=by simp[A4d];omega
  have hle:k+1<=c.instrs.length:=hlt;have hput:=C0n (f:=I64) (l:=A4d c.instrs.length k) (n:=k) (a := -1) (by rw[hlen];exact hlt);repeat' (apply wr<;>try simp only[go_sem,seval,hd,hw,hlen,hle,hlt,hput])
  exact⟨k+1,rfl,by rw[B9a hlt];(intro j b hj;simp only[Hp.upd,Sym.nil]at hj ⊢;(repeat' split at hj)<;>(repeat' split)<;>first|exact hj|(exfalso;omega)|cases hj),inv ⟨rfl,hlt⟩,by omega⟩
 have hd:=dfz hlt;have hfull:A4d c.instrs.length k=List.replicate c.instrs.length (-1):=by
  have:c.instrs.length-k=0:=by omega
  have hk2:k=c.instrs.length:=by omega
  simp[A4d,hk2]
 repeat' (apply wr<;>try simp only[go_sem,seval,hd,hfull])
 clear hd hfull hlt hk
 have hjE:∀ e∈c.entries,0<=e.pos/\e.pos<=(c.instrs.length:Int)-1:=by
  intro e he;simp only[I5,A0F,A0R]at hj;have:=hj.2 e he;simpa[B5x,inM] using this
 refine A9 (fun q:Nat × List Int × List Nat × Option Nat × List DV=>[(1,.ptr 0 0),(4,.ptr 2 0),(6,.ptr 3 0),(7,clo),(31,B2i c.entries),(32,I64 c.entries.length),(33,I64 q.1)])
  (fun q=>WH c q.2.1 q.2.2.1 q.2.2.2.1 q.2.2.2.2)
  (fun q cc=>4<=cc/\q.1<=c.entries.length/\(q.2.2.2.1=none->q.2.2.1=[])/\(∀ i,q.2.2.2.1=some i->4<=i/\i<cc)/\WkI c.instrs.length q.2.1 q.2.2.1/\q.2.2.1.length<=q.1/\I8 q.2.1 q.2.2.1 ((c.entries.drop q.1).map B0g)=I8 (List.replicate c.instrs.length (-1)) [] (c.entries.map B0g))
  (fun q=>c.entries.length-q.1) (0,List.replicate c.instrs.length (-1),[],none,[])
  (by simp[C1,tm,Tm.upd]) (by simpa[WH,optH,todoV] using Sub.refl _) ⟨by omega,by omega,fun _=>rfl,by simp,⟨by simp,by simp⟩,by simp,by simp⟩ ?_
 rintro⟨k,h,wk,o,junk⟩ cc ⟨hc4,hk,hn,hs,hI,hwk,hrL⟩;simp only at hk hn hs hI hwk hrL;have hS:=WkS.mk' (c:=c) (h:=h) (junk:=junk) hn hs hc4;by_cases hlt:k<c.entries.length
 ·have hd:=dtz hlt;have hw:=w64 (n:=(k:Int)+1);have hg:=A0B hlt;obtain⟨p1,p2⟩:=hjE _ (A0L hlt);have hpos:c.entries[k].pos=((c.entries[k].pos.toNat:Nat):Int):=by omega
  have ne0:=A5k 0 1 2 3 cc (cc+1) (by omega);repeat' (apply wr<;>try simp only[go_sem,seval,hd,hg])
  rw[A5];refine AC.call (c_reach' c h wk o junk _ _ c.entries[k].pos 0 p1 (hS.upd _ (A0E _) (A2Q _)) (by omega)) ?_;rintro v H' c' hq hcc;rw[A1C hlt,A0Q]at hrL;rcases hq with ⟨hr0,rfl⟩|⟨h',wk',o',junk',hr1,rfl,hS',hfr⟩
  ·have hr2:r=none:=by
    rw[B6f, <- hrL]at hr;simp only[I8,B0g,hr0]at hr;simpa using hr.symm
   subst hr2;simp only[go_sem,seval];repeat' (apply wr<;>try simp only[go_sem,seval])
   exact J9
  ·simp only[I8,B0g,hr1]at hrL;obtain⟨hI',hwk'⟩:=P6 hI (A3G 0) hr1;simp only[go_sem,seval];repeat' (apply wr<;>try simp only[go_sem,seval,hw])
   exact⟨(k+1,h',wk',o',junk'),rfl,hS'.sub,inv ⟨hS'.hc,hlt,hS'.hn,fun i hi=>⟨(hS'.hs i hi).1,(hS'.hs i hi).2.1⟩,hI',by simp only;omega,hrL⟩,by simp only;omega⟩
 have hd:=dfz hlt;obtain rfl:k=c.entries.length:=by omega
 rw[List.drop_eq_nil_of_le (A0E _)]at hrL;rw[B6f, <- hrL]at hr;simp only[List.map_nil,I8]at hr;repeat' (apply wr<;>try simp only[go_sem,seval,hd])
 exact B8t c hl0 hj r n h wk o junk cc hc4 hn hs hI (by omega) hr
theorem c_heightsP'(c:Prg)(hl:Lim c)(hj:I5 c=true):PC Tryz.prog 250 [c.v] (C3y (hR c)) :=
 c_heightsP c hl hj 4001 (by omega) _ (D2k hl.li hj)
theorem c_verify(c:Prg)(hs:∀ s∈c.strings,s.length<=140737488355328)(n1:c.instrs.length<=9223372036854775807):PC Tryz.prog 169 [c.v] (.tup [M1 (B7p c),I64 (J4 c)]):=by
 by_cases hL:M9 c=true
 ·have hl:=Lim.of hL;have hl0:=hl;obtain⟨wp,wv,ws,wi,wt,we,li,ls,le,lp,lv⟩:=hl;by_cases hp:X3 c=true
  ·by_cases hj:I5 c=true
   ·refine PC.go A2 ?_;repeat' ((with_reducible first|refine wr ?_|refine cpc (c_limits c) ?_|refine cpc (c_bparts c hl0 hs) ?_|refine cpc (c_targets c hl0) ?_|fail)<;>try simp only[go_sem,seval,hL,hp,hj])
    refine A9 (fun k:Nat=>[(1,.ptr 0 0),(4,I64 k)]) (fun _=>nil.upd 0 ⟨0,true,c.cs⟩) (fun k cc=>1<=cc/\1<=k/\(k<=c.entries.length\/k=1)/\P2 (c.entries.take k)=true) (fun k=>c.entries.length-k) 1 (by simp[C1,tm,Tm.upd]) (Sub.refl _) ⟨by omega,by omega,by omega,by cases c.entries<;>rfl⟩ ?_;rintro k cc ⟨h1c,h1k,hk,he⟩;by_cases hlt:k<c.entries.length
    ·have hd:=dtz hlt;have hg:=A0B hlt;have hlt':k-1<c.entries.length:=by omega
     have hg':=A0B hlt';have hw:=w64 (n:=(k:Int)+1);have hw1:=w64 (n:=(k:Int)-1);have hw2:(k:Int)-1=((k-1:Nat):Int):=by omega
     rw[hw2]at hw1;repeat' ((with_reducible first|refine wr ?_|refine cpc (c_bless _ _) ?_|refine wb2 ?_ ?_<;>(intro hb;try simp only[hb])|fail)<;>try simp only[go_sem,seval,hd,hg,hg',hw,hw2,hw1])
     ·have hf:=B9m h1k hg' hg (by simpa using hb);have e:J4 c=66:=by simp[J4,hL,hp,hj,hf]
      simp only[B7p,e];exact J9
     ·exact⟨k+1,rfl,Sub.refl _,inv ⟨by omega,by omega,by omega,by rw[B9l h1k hg' hg he];simpa using hb⟩,by omega⟩
    ·have hd:decide ((k:Int)<c.entries.length)=false:=by simp;omega
     have hch:P2 c.entries=true:=by
      rw[A0M (by omega)]at he;exact he
     cases hh:hR c with
     |none =>
      have key:=c_heightsP' c hl0 hj;rw[hh,C3x]at key;repeat' ((with_reducible first|apply wr|refine cpc key ?_|fail)<;>try simp only[go_sem,seval,hd])
      have e:J4 c=53:=by simp[J4,hL,hp,hj,hch,hh]
      simp only[B7p,e];exact J9
     |some h =>
      have key:=c_heightsP' c hl0 hj;rw[hh,C3w]at key;repeat' ((with_reducible first|apply wr|refine cpc key ?_|fail)<;>try simp only[go_sem,seval,hd])
      have e:J4 c=0:=by simp[J4,hL,hp,hj,hch,hh]
      simp only[B7p,e,hh];exact A3 rfl
   ·have hj':I5 c=false:=by simpa using hj
    refine PC.go A2 ?_;repeat' ((with_reducible first|refine wr ?_|refine cpc (c_limits c) ?_|refine cpc (c_bparts c hl0 hs) ?_|refine cpc (c_targets c hl0) ?_|fail)<;>try simp only[go_sem,seval,hL,hp,hj'])
    have e:J4 c=54:=by simp[J4,hL,hp,hj']
    simp only[B7p,e];exact J9
  ·have hp':X3 c=false:=by simpa using hp
   refine PC.go A2 ?_;repeat' ((with_reducible first|refine wr ?_|refine cpc (c_limits c) ?_|refine cpc (c_bparts c hl0 hs) ?_|fail)<;>try simp only[go_sem,seval,hL,hp'])
   have e:J4 c=51:=by simp[J4,hL,hp']
   simp only[B7p,e];exact J9
 ·have hL':M9 c=false:=by simpa using hL
  refine PC.go A2 ?_;repeat' ((with_reducible first|refine wr ?_|refine cpc (c_limits c) ?_|fail)<;>try simp only[go_sem,seval,hL'])
  have e:J4 c=9:=by simp[J4,hL']
  simp only[B7p,e];exact J9
theorem c_valid(c:Prg)(hs:∀ s∈c.strings,s.length<=140737488355328)(n1:c.instrs.length<=9223372036854775807):PC Tryz.prog 90 [c.v] (I64 (J4 c)):=by
 refine PC.go A2 ?_;repeat' ((with_reducible first|refine wr ?_|refine cpc (c_verify c hs n1) ?_|fail)<;>try simp only[go_sem,seval])
 exact A3 rfl
abbrev x34:XT Tryz.prog 34:=mkF (i:=⟨113,.seq (.reg [oX 2 0,oX 3 1,oV 4 (.bool false)]) (.seq (.seq (.reg [oF 8 2 0,oL 9 8,oH 10 9,oF 11 3 0,oL 12 11,oH 13 12,oB 14 10 13 .neq,oM 15 14,hF 16 2 1 15,hL 17 16 15,oR 18 (.len (.t 17)) 15,hF 19 3 1 15,hL 20 19 15,oR 21 (.len (.t 20)) 15,oR 22 (.bin .neq (.t 18) (.t 21)) 15,oO 23 15 22,oM 24 23,hF 25 2 2 24,hL 26 25 24,oR 27 (.len (.t 26)) 24,hF 28 3 2 24,hL 29 28 24,oR 30 (.len (.t 29)) 24,oR 31 (.bin .neq (.t 27) (.t 30)) 24,oO 32 24 31,oM 33 32,hF 34 2 5 33,hL 35 34 33,hF 36 3 5 33,hL 37 36 33,oR 38 (.bin .neq (.t 35) (.t 37)) 33,oO 39 33 38,oM 40 39,hF 41 2 6 40,hL 42 41 40,hF 43 3 6 40,hL 44 43 40,oR 45 (.bin .neq (.t 42) (.t 44)) 40,oO 46 40 45]) (.cond (.t 46) (.seq (.reg [oV 4 (.bool false)]) .ret) .skip)) (.seq (.seq (.reg [oI 5 0]) (.blk 0 (.loop (.seq (.seq (.reg [oM 47 5,oF 48 2 0,oL 49 48,oH 50 49,oB 51 47 50 .lss]) (.cond (.t 51) .skip (.exit 0))) (.seq (.blk 1 (.seq (.drw 11 (dQ [oF 54 2 0,oL 55 54,oM 56 5,oA 57 55 56 2,oD 58 57 2,oF 59 3 0,oL 60 59,oM 61 5,oA 62 60 61 2,oD 63 62 2,oP 64 (.eqa true [0,0] (.t 58) (.t 63))] 0)) (.cond (.t 64) (.seq (.reg [oV 4 (.bool false)]) .ret) .skip))) (.reg [oM 52 5,oK 53 52 .add 1,oM 5 53])))))) (.seq (.seq (.reg [oI 6 0]) (.blk 2 (.loop (.seq (.seq (.reg [oM 65 6,oF 66 2 1,oL 67 66,oH 68 67,oB 69 65 68 .lss]) (.cond (.t 69) .skip (.exit 2))) (.seq (.blk 3 (.seq (.drw 11 (dQ [oF 72 2 1,oL 73 72,oM 74 6,oA 75 73 74 1,oL 76 75,oF 77 3 1,oL 78 77,oM 79 6,oA 80 78 79 1,oL 81 80,oB 82 76 81 .neq] 0)) (.cond (.t 82) (.seq (.reg [oV 4 (.bool false)]) .ret) .skip))) (.reg [oM 70 6,oK 71 70 .add 1,oM 6 71])))))) (.seq (.seq (.reg [oI 7 0]) (.blk 4 (.loop (.seq (.seq (.reg [oM 83 7,oF 84 2 2,oL 85 84,oH 86 85,oB 87 83 86 .lss]) (.cond (.t 87) .skip (.exit 4))) (.seq (.blk 5 (.seq (.drw 11 (dQ [oF 90 2 2,oL 91 90,oM 92 7,oA 93 91 92 4,oD 94 93 4,oF 95 3 2,oL 96 95,oM 97 7,oA 98 96 97 4,oD 99 98 4,oP 100 (.eqa true [0,0,0,0] (.t 94) (.t 99))] 0)) (.cond (.t 100) (.seq (.reg [oV 4 (.bool false)]) .ret) .skip))) (.reg [oM 88 7,oK 89 88 .add 1,oM 7 89])))))) (.seq (.reg [oF 101 2 3,oL 102 101,oF 103 3 3,oL 104 103,oC 105 20 [.t 102,.t 104],oM 106 105,gF 107 2 4 106,gL 108 107 106,gF 109 3 4 106,gL 110 109 106,⟨some 111,.call 20 [.t 108,.t 110],some (106,true)⟩,oJ 112 106 111,oM 4 112]) .ret))))),[.tmp 4]⟩) (by unfold L2;kernel_rfl) (fun h=>by conv=>lhs;cbv)
instance t34:FT Tryz.prog 34 x34.d:=x34.ft
theorem c_SameInts(a b:List Int)(n1:a.length<=9223372036854775807):PC Tryz.prog 20 [.lst (a.map I64),.lst (b.map I64)] (.bool (decide (a=b))):=by
 refine PC.go A2 ?_;by_cases hl:a.length=b.length
 case neg =>
  have hne:((a.length:Int) != (b.length:Int))=true:=by simp;omega
  repeat' (apply wr<;>try simp only[go_sem,seval,A0C,hne])
  rw[decide_eq_false (fun e=>hl (by rw[e]))];exact A3 rfl
 have hne:((a.length:Int) != (b.length:Int))=false:=by simp;omega
 repeat' (apply wr<;>try simp only[go_sem,seval,A0C,hne])
 refine A9 (fun k:Nat=>[(0,.lst (a.map I64)),(1,.lst (b.map I64)),(5,I64 k)]) (fun _=>nil) (fun k cc=>k<=a.length/\a.take k=b.take k) (fun k=>a.length-k) 0 (by simp[C1,tm,Tm.upd]) (Sub.nil _) (by simp) ?_;rintro k cc ⟨hk,he⟩;by_cases hlt:k<a.length
 ·have hd:=dtz hlt;have hlt2:k<b.length:=by omega
  have hg:=A0B hlt;have hg2:=A0B hlt2;have hw:=w64 (n:=(k:Int)+1);repeat' ((with_reducible first|refine wr ?_|refine wb2 ?_ ?_<;>(intro hb;try simp only[hb])|fail)<;>try simp only[go_sem,seval,A0C,hd,hg,hg2,hw])
  all_goals first
   |(refine⟨k+1,rfl,Sub.nil _,inv ⟨hlt,(A3g hg hg2 he).2 ?_⟩,by omega⟩;simpa using hb)
   |(rw[decide_eq_false (A8r hg hg2 ?_)];exact A3 rfl;simpa using hb)
 have hd:=dfz hlt;repeat' (apply wr<;>try simp only[go_sem,seval,A0C,hd])
 rw[decide_eq_true (A8s hl (by omega) he)];exact A3 rfl
theorem c_SameR(a b:Prg)(n1:a.instrs.length<=9223372036854775807)(n2:a.strings.length<=9223372036854775807)(n3:a.entries.length<=9223372036854775807)(n4:a.prios.length<=9223372036854775807)(n5:a.vars.length<=9223372036854775807):
  PC Tryz.prog 34 [a.v,b.v] (.bool (decide (a=b))):=by
 refine PC.go A2 ?_;by_cases h:a.instrs.length=b.instrs.length/\a.strings.length=b.strings.length/\a.entries.length=b.entries.length/\a.timers=b.timers/\a.events=b.events
 case neg =>
  repeat' ((with_reducible first|refine wr ?_|refine wb2 ?_ ?_<;>(intro hb;try simp only[hb])|fail)<;>try simp only[go_sem,seval])
  all_goals first
   |(refine A3 ?_;congr 1;rw[A9h];simp_all;done)
   |(exfalso;simp only[bne_eq_false_iff_eq]at *;apply h;refine⟨?_,?_,?_,?_,?_⟩<;>first|assumption|omega)
 obtain⟨l1,l2,l3,l4,l5⟩:=h;have e1:((a.instrs.length:Int) != (b.instrs.length:Int))=false:=by simp;omega
 have e2:((a.strings.length:Int) != (b.strings.length:Int))=false:=by simp;omega
 have e3:((a.entries.length:Int) != (b.entries.length:Int))=false:=by simp;omega
 have e4:(a.timers != b.timers)=false:=by simp[l4]
 have e5:(a.events != b.events)=false:=by simp[l5]
 repeat' (apply wr<;>try simp only[go_sem,seval,e1,e2,e3,e4,e5])
 refine A9 (fun k:Nat=>[(2,.ptr 0 0),(3,.ptr 1 0),(5,I64 k)]) (fun _=>(nil.upd 0 ⟨0,true,a.cs⟩).upd 1 ⟨0,true,b.cs⟩) (fun k cc=>2<=cc/\k<=a.instrs.length/\a.instrs.take k=b.instrs.take k) (fun k=>a.instrs.length-k) 0 (by simp[C1,tm,Tm.upd]) (Sub.refl _) (by simp) ?_;rintro k cc ⟨h2,hk,he⟩;by_cases hlt:k<a.instrs.length
 ·have hd:=dtz hlt;have hlt2:k<b.instrs.length:=by omega
  have hg:=A0B hlt;have hg2:=A0B hlt2;have hw:=w64 (n:=(k:Int)+1);repeat' ((with_reducible first|refine wr ?_|refine wb2 ?_ ?_<;>(intro hb;try simp only[hb])|fail)<;>try simp only[go_sem,seval,hd,hg,hg2,hw,E6t])
  all_goals first
   |(refine⟨k+1,rfl,Sub.refl _,inv ⟨by omega,hlt,(A3g hg hg2 he).2 ?_⟩,by omega⟩;simpa[C7u] using hb)
   |(refine A3 ?_;congr 1;rw[A9h,decide_eq_false (A8r hg hg2 ?_)];rfl;simpa[C7u] using hb)
 have hd:=dfz hlt;have g1:=A8s l1 (by omega) he;clear he hk;repeat' (apply wr<;>try simp only[go_sem,seval,hd])
 clear hd hlt;refine A9 (fun k:Nat=>[(2,.ptr 0 0),(3,.ptr 1 0),(6,I64 k)]) (fun _=>(nil.upd 0 ⟨0,true,a.cs⟩).upd 1 ⟨0,true,b.cs⟩) (fun k cc=>2<=cc/\k<=a.strings.length/\a.strings.take k=b.strings.take k) (fun k=>a.strings.length-k) 0 (by simp[C1,tm,Tm.upd]) (Sub.refl _) (by simp;omega) ?_;clear k cc h2;rintro k cc ⟨h2,hk,he⟩;by_cases hlt:k<a.strings.length
 ·have hd:=dtz hlt;have hlt2:k<b.strings.length:=by omega
  have hg:=A0B hlt;have hg2:=A0B hlt2;have hw:=w64 (n:=(k:Int)+1);repeat' ((with_reducible first|refine wr ?_|refine wb2 ?_ ?_<;>(intro hb;try simp only[hb])|fail)<;>try simp only[go_sem,seval,hd,hg,hg2,hw])
  all_goals first
   |(refine⟨k+1,rfl,Sub.refl _,inv ⟨by omega,hlt,(A3g hg hg2 he).2 ?_⟩,by omega⟩;simpa using hb)
   |(refine A3 ?_;congr 1;rw[A9h,decide_eq_false (A8r hg hg2 (by simpa using hb))];simp)
 have hd:=dfz hlt;have g2:=A8s l2 (by omega) he;clear he hk;repeat' (apply wr<;>try simp only[go_sem,seval,hd])
 clear hd hlt;refine A9 (fun k:Nat=>[(2,.ptr 0 0),(3,.ptr 1 0),(7,I64 k)]) (fun _=>(nil.upd 0 ⟨0,true,a.cs⟩).upd 1 ⟨0,true,b.cs⟩) (fun k cc=>2<=cc/\k<=a.entries.length/\a.entries.take k=b.entries.take k) (fun k=>a.entries.length-k) 0 (by simp[C1,tm,Tm.upd]) (Sub.refl _) (by simp;omega) ?_;clear k cc h2;rintro k cc ⟨h2,hk,he⟩;by_cases hlt:k<a.entries.length
 ·have hd:=dtz hlt;have hlt2:k<b.entries.length:=by omega
  have hg:=A0B hlt;have hg2:=A0B hlt2;have hw:=w64 (n:=(k:Int)+1);repeat' ((with_reducible first|refine wr ?_|refine wb2 ?_ ?_<;>(intro hb;try simp only[hb])|fail)<;>try simp only[go_sem,seval,hd,hg,hg2,hw,E3a])
  all_goals first
   |(refine⟨k+1,rfl,Sub.refl _,inv ⟨by omega,hlt,(A3g hg hg2 he).2 ?_⟩,by omega⟩;simpa[C9i] using hb)
   |(refine A3 ?_;congr 1;rw[A9h,decide_eq_false (A8r hg hg2 (by simpa[C9i] using hb))];simp)
 have hd:=dfz hlt;have g3:=A8s l3 (by omega) he;clear he hk;repeat' ((with_reducible first|refine wr ?_|refine cpc (c_SameInts _ _ n4) ?_|refine cpc (c_SameInts _ _ n5) ?_|refine wb2 ?_ ?_<;>(intro hb;try simp only[hb])|fail)<;>try simp only[go_sem,seval,hd])
 all_goals refine A3 ?_
 all_goals (congr 1;rw[A9h];simp_all)
end Go.Proofs.YtkkjpohaffjecaaGreatDoor
set_option maxHeartbeats 8000000
namespace Go.Proofs.YtkkjpohaffjecaaGreatDoor
open Go.Eng (IC IOper DReg IFn L2)
open Go.Sym Go.Pb
theorem E3j(q:Prg × Int × Int):B4e q=.tup [.agg [A1q q.1.instrs,strs q.1.strings,B2i q.1.entries,M1 q.1.prios,M1 q.1.vars,I64 q.1.timers,I64 q.1.events],I64 q.2.1,I64 q.2.2]:=rfl
theorem C9s(r:Ru):(U7 r).1.instrs.length<=4000/\(U7 r).1.strings.length<=200/\(U7 r).1.entries.length<=512/\(U7 r).1.prios.length<=16/\(U7 r).1.vars.length<=128/\∀ s∈(U7 r).1.strings,s.length<=32:=by
 obtain⟨a,b,d, -⟩:=C2w (B2m r);obtain⟨d1,d2,d3,d4,d5, -⟩:=Lim.dims a;exact⟨d1,d2,d3,d4,d5,(Bnd.of a b d).str⟩
theorem c_compiles(r:Ru)(hB:r.sz<4000000):PC Tryz.prog 43 [r.v] (.bool true):=by
 have h1:=c_PCompile r hB;have h2:=c_RCompile r hB;obtain⟨d1,d2,d3,d4,d5,d6⟩:=C9s r;have hs:=c_SameR (U7 r).1 (U7 r).1 (by omega) (by omega) (by omega) (by omega) (by omega);have hv:=c_valid (U7 r).1 (fun s h=>A1E (d6 s h) (by decide)) (by omega);rw[B2m]at hv;rw[decide_eq_true rfl]at hs;rw[E3j]at h1 h2;dsimp only[Prg.v,Prg.cs]at hs hv;generalize (U7 r).1.instrs=a1 at *;generalize (U7 r).1.strings=a2 at *;generalize (U7 r).1.entries=a3 at *;generalize (U7 r).1.prios=a4 at *;generalize (U7 r).1.vars=a5 at *;generalize (U7 r).1.timers=a6 at *;generalize (U7 r).1.events=a7 at *;generalize (U7 r).2.1=p at *;generalize (U7 r).2.2=e at *;refine PC.go A2 ?_;have hrv:r.v=.agg [C3 r.decls,C7 r.modes]:=rfl;rw[hrv]at h1 h2 ⊢;by_cases he:e=0
 ·subst he;repeat' ((with_reducible first|apply wr|refine cpc h1 ?_|refine cpc h2 ?_|refine cpc hs ?_|refine cpc hv ?_|fail)<;>try simp only[go_sem,seval])
  all_goals exact A3 rfl
 ·have he':(e != 0)=true:=by simpa using he
  repeat' ((with_reducible first|apply wr|refine cpc h1 ?_|refine cpc h2 ?_|refine cpc hs ?_|fail)<;>try simp only[go_sem,seval,he'])
  all_goals exact A3 rfl
theorem c_CompileRaw(r:Ru)(hB:r.sz<4000000):PC Tryz.prog 10 [r.v] (.bool true):=by
 have hs:=c_sane34;have hc:=c_compiles r hB;have hdl:=A7p r;have hml:=A7o r;refine PC.go A2 ?_;have hrv:r.v=.agg [C3 r.decls,C7 r.modes]:=rfl;rw[hrv]at hc ⊢;repeat' ((with_reducible first|refine wr ?_|refine cpc hs ?_|refine wb2 ?_ ?_<;>(intro hb;try simp only[hb])|fail)<;>try simp only[go_sem,seval,A0C])
 ·exact A3 rfl
 ·exact A3 rfl
 refine A9 (fun i:Nat=>[(1,.ptr 0 0),(3,I64 i)]) (fun _=>Sym.nil.upd 0 ⟨0,true,[C3 r.decls,C7 r.modes]⟩) (fun i c=>i<=r.modes.length) (fun i=>r.modes.length-i) 0 (by simp[C1,tm,Tm.upd]) (Sub.refl _) (A0O _) ?_;rintro i c hk;by_cases hlt:i<r.modes.length
 ·have hd:=dtz hlt;have hg:=A0B hlt;have hw:=w64 (n:=(i:Int)+1);generalize r.modes[i]=d at hg;repeat' ((with_reducible first|refine wr ?_|refine cpc hs ?_|refine wb2 ?_ ?_<;>(intro hb;try simp only[hb])|fail)<;>try simp only[go_sem,seval,hd,hg,hw,A8a,A0C])
  ·exact A3 rfl
  ·exact⟨i+1,by simp[],Sub.refl _,inv (by omega),by omega⟩
 have hd:=dfz hlt;repeat' ((with_reducible first|apply wr|refine cpc hs ?_|refine cpc hc ?_|fail)<;>try simp only[go_sem,seval,hd,A0C])
 exact A3 rfl
end Go.Proofs.YtkkjpohaffjecaaGreatDoor
end

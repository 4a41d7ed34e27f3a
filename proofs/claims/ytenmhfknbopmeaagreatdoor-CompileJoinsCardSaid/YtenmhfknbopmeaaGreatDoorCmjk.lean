/-
  HELPERS of the claim: part 11 of its texts.
-/
import Derived.Test.YtenmhfknbopmeaaGreatDoorCmjj
import Derived.Shelf.SlSortCmp.NoneTotal
import Derived.Test.YtenmhfknbopmeaaGreatDoorProg
noncomputable section
set_option linter.unusedVariables false
set_option linter.unusedSimpArgs false
namespace Go.Proofs.YtenmhfknbopmeaaGreatDoor
open Go.Sym Go.Lib Go.Pb Go.So Go.Sort Go.Proofs
theorem c_Sort0{H:Hp}{c:Nat}:AC Tryz.prog 64 [.snil,.func 65 [] []] H c (fun v H' c'=>v=.tup []/\H'=H):=by
 refine⟨by kernel_rfl,fun ρ w args' hR hf hA=>?_⟩;obtain⟨v0,e0,r0⟩:=hA.get (i:=0) rfl;obtain⟨v1,e1,r1⟩:=hA.get (i:=1) rfl;have hargs:args' = #[v0,v1]:=by
  have hs:args'.size=2:=hA.1.symm;apply Array.ext (by simpa using hs);intro i h1 h2;have:i=0\/i=1:=by omega
  rcases this with rfl|rfl
  ·simpa using (A0M.1 e0).2
  ·simpa using (A0M.1 e1).2
 subst hargs;cases r0 with
 |snil =>
 refine (AnyF.slices_SortFunc_none Tryz.sortP none 0 v1 w).mono ?_;rintro ex w' ⟨rfl,rfl⟩;exact⟨_,_,_,c, ρ,rfl,⟨rfl,rfl⟩,.tup _ _ rfl (fun i x y hx hy=>by cases hx),hR,hf,A0C _,fun _ _ h=>h,fun _ _=>rfl,Ext.refl _ _ _⟩
end Go.Proofs.YtenmhfknbopmeaaGreatDoor
set_option maxHeartbeats 4000000
set_option maxRecDepth 100000
namespace Go.Proofs.YtenmhfknbopmeaaGreatDoor
open Go.Eng (IC IOper DReg IFn I5)
open Go.Sym Go.Pb
theorem B9v(b:List (List Pb.St)):cellsL (b.map D2)=b.map D2:=by
 induction b with
 |nil=>rfl
 |cons x b ih=>rw[A0R];show DV.cells (D2 x)++cellsL (b.map D2)=_;rw[ih];rfl
theorem D2g(l:List B8):∀ d∈pvC l,d.one=true:=by
 intro d hd;obtain⟨p, -,hp⟩:=List.mem_flatMap.1 hd;simp only[pcC,A1A,A1Y,or_false]at hp;rcases hp with rfl|rfl|rfl|rfl|rfl<;>rfl
theorem C2i:∀ (is:List Nat) (l:List B8), ∀ d∈ptC is l,d.one=true
 |i :: is,p :: l,d,hd=>by
  rw[ptC]at hd;rcases A1G.1 hd with hd|hd
  ·simp only[pcC,A1A,A1Y,or_false]at hd;rcases hd with rfl|rfl|rfl|rfl|rfl<;>rfl
  ·exact C2i is l d hd
 |[],_,d,hd=>by cases hd
 |_ :: _,[],d,hd=>by cases hd
theorem C2a(a b:List B8):pvC (a++b)=pvC a++pvC b:=by simp[pvC]
theorem D7y{G:Hp}{i:Nat}{ds:List DV}(hGi:G i=none):∀ (is:List Nat) (l pre:List B8),is.length=l.length->is.Nodup->i ∉ is->(∀ j∈is,G j=none) ->
  GL ((U0 G is l).upd i ⟨5,true,pvC pre++ptC is l⟩) ds (G.upd i ⟨5,true,pvC (pre++l)⟩) ds
 |[],[],pre,_,_,_,_=>by rw[A1B];simp only[U0,ptC,A1B];exact GL.refl _ _
 |j :: is,p :: l,pre,hl,hn,hi,hg=>by
  obtain⟨n1,n2⟩:=A2S.1 hn;have hji:j≠i:=fun e=>hi (by rw[e];exact A0I);have ih:=D7y (ds:=ds) hGi is l (pre++[p]) (Nat.succ.inj hl) n2 (fun hm=>hi (A0F _ hm)) (fun q hq=>hg q (A0F _ hq));rw[A0L,List.singleton_append]at ih;have hF:U0 G is l j=none:=by rw[A9e n1];exact hg j A0I
  have g:=C7x (H:=(U0 G (j :: is) (p :: l)).upd i ⟨5,true,pvC pre++ptC (j :: is) (p :: l)⟩) (a:=j) (k:=i) (u:=1) (u':=1) (w:=5) (n:=p.2.length) (pre:=pvC pre++[I64 p.1.mode,I64 p.1.trig,I64 p.1.ix,I64 0]) (suf:=ptC is l) (xs:=p.2.map D2) (junk:=[]) (ds:=ds)
   (by rw[h_same,ptC];simp[pcC]) (by rw[h_ne hji,U0,h_same,B9v,A1B]) (fun d hd=>by
    rcases A1G.1 hd with hd|hd
    ·rcases A1G.1 hd with hd|hd
     ·exact D2g pre d hd
     ·simp only[A1A,A1Y,or_false]at hd;rcases hd with rfl|rfl|rfl|rfl<;>rfl
    ·exact C2i is l d hd) (by simp) (fun x hx=>by obtain⟨y, -,rfl⟩:=A1C.1 hx;rfl) hji
  refine g.trans ?_;have e:(((U0 G (j :: is) (p :: l)).upd i ⟨5,true,pvC pre++ptC (j :: is) (p :: l)⟩).del j).upd i ⟨5,true,pvC pre++[I64 p.1.mode,I64 p.1.trig,I64 p.1.ix,I64 0]++[.lst (p.2.map D2)]++ptC is l⟩=(U0 G is l).upd i ⟨5,true,pvC (pre++[p])++ptC is l⟩:=by
   funext k
   by_cases ek:k=i
   ·subst ek;rw[h_same,h_same,C2a];simp[pvC,pcC]
   ·rw[h_ne ek,h_ne ek];by_cases ej:k=j
    ·subst ej;rw[hF];simp[Hp.del]
    ·rw[D5 ej,h_ne ek,U0,h_ne ej]
  rw[e];exact ih
abbrev paV(p:B8):DV:=.agg (pcC p.1 (A0s p.2))
abbrev B8k(l:List B8):DV:=.lst (l.map paV)
theorem C4z(l:List B8):cellsL (l.map paV)=pvC l:=by
 induction l with
 |nil=>rfl
 |cons p l ih =>
  rw[A0R];show DV.cells (paV p)++cellsL (l.map paV)=_;rw[ih,show p :: l=[p]++l from rfl,C2a];simp[pvC,pcC,DV.cells]
theorem c_parts(gs:List DV)(ks vs:List DV)(nm:List UInt8->Int)(hm:∀ s,Sym.lkV (I64 0) false vs (C3 (.str s) ks 0)=some (I64 (nm s)))(hgs:gs[7]? = some (.mp .s ks vs))(D:List Dc)(M:List Md)(hs:(M.map fun m=>m.hds.length).sum+M.length<=1000000)
  (H:Hp) (c t:Nat) (ht:H t=some ⟨0,true,gs⟩) (htc:t<c) (hl:(D9 [] (hkM nm 0 M)).length<=1000000) :
  AC Tryz.prog 27 [.ptr t 0,.agg [F7 D,E4 M]] H c (fun v H' c'=>H'=H/\∃ l',(D9 [] (hkM nm 0 M)).Perm l'/\C8x l'/\v=B8k l'):=by
 obtain⟨L,hL⟩:∃ L,L=D9 [] (hkM nm 0 M):=⟨_,rfl⟩;rw[<- hL]at hl;refine⟨by kernel_rfl,fun ρ w args' hR hf hA=>?_⟩;have hHn:∀ j,c<=j->H j=none:=fun j hj=>by
  cases h:H j with
  |none=>rfl
  |some b=>obtain⟨t,h1, -⟩:=hR.blk j b h;rw[hf j hj]at h1;cases h1
 refine (c_gather gs ks vs nm hm hgs D M hs H c t ht htc _ ?_).2 ρ w args' hR hf hA;intro o is c1 hc1 hN;rw[<- hL]at hN ⊢;obtain⟨G,hG⟩:∃ G:Hp,G=H.upd c ⟨0,true,[F7 D,E4 M]⟩:=⟨_,rfl⟩;rw[<- hG]at hN ⊢;cases o with
 |none =>
  have hLn:=hN.no rfl;subst hLn;repeat' (apply wr<;>try simp only[go_sem,seval])
  refine AC.call c_Sort0 ?_;rintro _ _ c2 ⟨rfl,rfl⟩ hc2;simp only[go_sem,seval];repeat' (apply wr<;>try simp only[go_sem,seval])
  have his:is=[]:=A3K.1 hN.len;subst his;have g:GL (PM G none [] []) [.snil] H [.lst []]:=(GL.less' (fun j b hj=>by
   show G j=some b;rw[hG,h_ne (by rintro rfl;rw[hHn _ (A0C _)]at hj;cases hj)];exact hj)).trans (GL.view fun ρ vs hA=>arel_one (fun v h=>h.snil_lst) vs hA)
  exact⟨_,_,g,rfl,[],.nil,.nil,rfl⟩
 |some i =>
  have hi:=hN.fo i rfl;have hnm:i ∉ is:=fun hm=>(hN.fi i hm).2.2 rfl;have hic:i≠c:=fun e=>by have h:=hi.2;rw[e,hG,h_same]at h;cases h
  have g:GL (PM G (some i) is L) [.slc i 0 L.length] (G.upd i ⟨5,true,pvC L⟩) [.slc i 0 L.length]:=D7y hi.2 is L [] hN.len hN.nd hnm (fun j hj=>(hN.fi j hj).2.1);refine IW.keep [5] [.slc i 0 L.length] g ?_;have hb:(G.upd i ⟨5,true,pvC L⟩) i=some ⟨5,true,pvC L⟩:=h_same;repeat' (apply wr<;>try simp only[go_sem,seval])
  refine AC.call (c_Sort1 hb hl) ?_;rintro _ _ c2 ⟨rfl,l',q1,q2,rfl⟩ hc2;simp only[go_sem,seval];repeat' (apply wr<;>try simp only[go_sem,seval])
  rw[A0];have hl':l'.length=L.length:=q1.length_eq.symm;have g2:GL (G.upd i ⟨5,true,pvC l'⟩) [.slc i 0 L.length] H [B8k l']:=GL.frzS (id:=i) h_same rfl (fun j=>by
   by_cases ej:j=i
   ·subst ej;left;have h:=hi.2;rw[hG,h_ne hic]at h;exact h
   ·by_cases ec:j=c
    ·subst ec;left;exact hHn _ (A0C _)
    ·right;exact⟨ej,by rw[h_ne ej,hG,h_ne ec]⟩) (.cons _ _ _ _ (M2 (u:=5) (by rw[A0J,hl']) (fun x hx=>by obtain⟨y, -,rfl⟩:=A1C.1 hx;rfl) ⟨[],by rw[C4z,A1B]⟩) .nil)
  exact⟨_,_,g2,rfl,l',q1,q2,rfl⟩
end Go.Proofs.YtenmhfknbopmeaaGreatDoor
set_option maxHeartbeats 8000000
namespace Go.Proofs.YtenmhfknbopmeaaGreatDoor
open Go.Eng (IC IOper DReg IFn I5)
open Go.Sym Go.Pb
abbrev B8x(l:List (List UInt8 × (Int × Int))):Blk:=⟨0,true,[.mpc .s (mkK (S3 l)) (mvV (S3 l))]⟩
theorem c_set(n:List UInt8)(q:Int × Int)(l:List (List UInt8 × (Int × Int)))(H:Hp)(cc b t:Nat)(hb:H b=some ⟨0,true,[.mid t]⟩)(ht:H t=some (B8x l))(hbc:b<cc)(htc:t<cc):
  AC Tryz.prog 110 [.str n,A2o q,.ptr b 0] H cc (fun v H' c'=>v=.tup []/\H'=H.upd t (B8x (Q0 l n q))):=by
 refine AC.bodyT A2 rfl (A0A rfl) fun hfr=>?_;have hbt:b≠t:=fun e=>by rw[e,ht]at hb;cases hb
 cases hl:l.lookup n with
 |some y =>
  have hs:Q0 l n q=l:=by rw[Q0,if_pos (by rw[hl];rfl)]
  have h1:Sym.lkV (.agg [I64 0,I64 0]) true (mvV (S3 l)) (C3 (.str n) (mkK (S3 l)) 0)=some (.tup [A2o y,.bool true]):=A1r (ok:=true) (by rw[R2,hl];rfl);unfold A2o at h1 ⊢;rw[hs,upd_same ht];have ne0:=T8 b t cc (cc+1) (by omega);repeat' (apply wr<;>try simp only[go_sem,seval,hb,ht,h1,ne0,h_same,A0])
  refine⟨_,_,GL.less' fun j b hj=>?_,rfl,rfl⟩;have:=A8u hfr hj;have h2:j≠cc+1:=by rintro rfl;rw[hfr _ (by omega)]at hj;cases hj
  rw[h_ne h2,h_ne this];exact hj
 |none =>
  have hs:Q0 l n q=l++[(n,q)]:=by rw[Q0,if_neg (by rw[hl];simp)]
  have hl':(S3 l).lookup n=none:=by rw[R2,hl];rfl
  have h1:Sym.lkV (.agg [I64 0,I64 0]) true (mvV (S3 l)) (C3 (.str n) (mkK (S3 l)) 0)=some (.tup [.agg [I64 0,I64 0],.bool false]):=A1s (ok:=true) hl';have h2:=B6v hl';have e1:mkK (S3 (l++[(n,q)]))=mkK (S3 l)++[.str n]:=by simp[mkK,S3]
  have e2:mvV (S3 (l++[(n,q)]))=mvV (S3 l)++[A2o q]:=by simp[mvV,S3]
  unfold A2o at e2 ⊢;rw[hs];unfold B8x;rw[e1,e2];have ne0:=T8 b t cc (cc+1) (by omega);repeat' (apply wr<;>try simp only[go_sem,seval,hb,ht,h2,ne0,h_same,A0])
  refine⟨_,_,GL.less' fun j b hj=>?_,rfl,rfl⟩;by_cases e:j=t
  ·subst e;rw[h_same]at hj ⊢;exact hj
  ·rw[h_ne e]at hj ⊢;have:=A8u hfr hj;have h2:j≠cc+1:=by rintro rfl;rw[hfr _ (by omega)]at hj;cases hj
   rw[h_ne h2,h_ne this];exact hj
def nmH(D:List Dc)(M:List Md)(l:List (List UInt8 × (Int × Int)))(a:List (Int × Nat)):Hp:=(((Sym.nil.upd 0 ⟨0,true,[F7 D,E4 M]⟩).upd 1 (B8x l)).upd 2 ⟨0,true,[.mid 1]⟩).upd 3 ⟨0,true,[.mpc (.i .i64) (ahK a) (ahV a)]⟩
section
variable {D:List Dc} {M:List Md} {l:List (List UInt8 × (Int × Int))} {a:List (Int × Nat)}
theorem D2q:nmH D M l a 0=some ⟨0,true,[F7 D,E4 M]⟩:=rfl
theorem D2p:nmH D M l a 1=some (B8x l):=rfl
theorem D2o:nmH D M l a 2=some ⟨0,true,[.mid 1]⟩:=rfl
theorem D6r:nmH D M l a 3=some ⟨0,true,[.mpc (.i .i64) (ahK a) (ahV a)]⟩:=rfl
theorem D2n(j:Nat)(h:4<=j):nmH D M l a j=none:=by
 unfold nmH;rw[hnO,hnO,hnO,hnO];rfl
theorem A2k{H:Hp}(h0:H 0=some ⟨0,true,[F7 D,E4 M]⟩)(h1:H 1=some (B8x l))(h2:H 2=some ⟨0,true,[.mid 1]⟩)(h3:H 3=some ⟨0,true,[.mpc (.i .i64) (ahK a) (ahV a)]⟩):Sym.Sub (nmH D M l a) H:=by
 intro j b hj;have hlt:j<4:=A1X fun h=>by rw[D2n j h]at hj;cases hj
 match j,hlt with
 |0,_=>rw[h0];exact hj
 |1,_=>rw[h1];exact hj
 |2,_=>rw[h2];exact hj
 |3,_=>rw[h3];exact hj
end
theorem D2m(r:Ru):(nmV r).nl=true:=by
 unfold nmV mkK mvV S3;simp only[DV.nl];rw[List.map_map,List.map_map];rw[show ((fun p:List UInt8 × DV=>DV.str p.1)∘fun p:List UInt8 × (Int × Int)=>(p.1,A2o p.2))=fun p=>DV.str p.1 from rfl,show ((fun p:List UInt8 × DV=>p.2)∘fun p:List UInt8 × (Int × Int)=>(p.1,A2o p.2))=fun p=>A2o p.2 from rfl];rw[I2 (fun _=>rfl),I2 (fun _=>rfl)];rfl
theorem c_names(r:Ru)(h1:r.decls.length<=1000000000)(h2:r.modes.length<=1000000000):PC Tryz.prog 54 [r.v] (nmV r):=by
 refine PC.ofT A2 rfl (A0A rfl) (by simp[DV.nlL,DV.nl,S7,S6]) (D2m _) ?_;obtain⟨R,hR⟩:∃ R,R=nmL r:=⟨_,rfl⟩;unfold nmV;rw[<- hR];unfold nmL at hR;obtain⟨D,M⟩:=r;dsimp only at h1 h2 hR;dsimp only[Ru.v];repeat' (apply wr<;>try simp only[go_sem,seval,B2t])
 refine B6 (fun q:Nat × List (List UInt8 × (Int × Int))=>[(1,.ptr 0 0),(3,.ptr 2 0),(4,.mid 3),(5,.func 110 [] [.ptr 2 0]),(15,F7 D),(16,I64 D.length),(17,I64 q.1)]) (fun q=>nmH D M q.2 (ahM (D.take q.1)))
  (fun q c=>4<=c/\q.1<=D.length/\nmD [] [] D=nmD (D.take q.1) q.2 (D.drop q.1)) (fun q=>D.length-q.1) (0,[])
  (by simp[B9,tm,Tm.upd]) (A2k rfl rfl rfl rfl) ⟨by omega,A0V _,rfl⟩ ?_
 rintro⟨i,l⟩ c ⟨h1c,hk,he⟩;dsimp only at hk he ⊢;by_cases hlt:i<D.length
 ·have hd:=dtz hlt;have hg:=A0B hlt;have hw:=w64 (n:=(i:Int)+1);rw[B1g hg]at he;have hah:ahM (D.take (i+1))=ahS (ahM (D.take i)) D[i].kind:=by rw[A1F,hg];exact A6i _ _
  have hlk:=B7z D[i].kind (ahM (D.take i));have hmu:=C9z D[i].kind (ahM (D.take i));have hcn:=B5d (D.take i) D[i].kind;have hcl:=B4t (D.take i) D[i].kind;rw[A1D]at hcl;generalize D[i]=d at hg he hah hlk hmu hcn hcl;rw[hcn]at hlk hmu;have hw2:=w64 (n:=(cnD (D.take i) d.kind:Int)+1);have hb0:nmH D M l (ahM (D.take i)) 0=_:=D2q;have hb1:nmH D M l (ahM (D.take i)) 1=_:=D2p;have hb2:nmH D M l (ahM (D.take i)) 2=_:=D2o;have hb3:nmH D M l (ahM (D.take i)) 3=_:=D6r;have hbn:∀ j,4<=j->nmH D M l (ahM (D.take i)) j=none:=fun j=>D2n j;generalize nmH D M l (ahM (D.take i))=HH at hb0 hb1 hb2 hb3 hbn ⊢;have ne0:=B3x 0 1 2 3 c (c+1) (by omega);by_cases hkk:d.kind=6\/d.kind=7\/d.kind=8
  ·have hnum:M7 (D.take i) d=(cnD (D.take i) d.kind:Int):=by rw[M7,if_pos hkk]
   rw[hnum]at he;by_cases k6:d.kind=6
   ·have k6:(d.kind == 6)=true:=by simpa using k6
    repeat' (apply wr<;>try simp only[go_sem,seval,hb3,hd,hg,hw2,hlk,hmu,k6,A9k,ne0,h_same,A0])
    refine AC.call (c_set d.name (d.kind,(cnD (D.take i) d.kind:Int)) l _ _ 2 1 (by rw[hnO,hnO,hnO];exact hb2) (by rw[hnO,hnO,hnO];exact hb1) (by omega) (by omega)) ?_;rintro v H' c' ⟨rfl,rfl⟩ hcc;simp only[go_sem,seval];repeat' (apply wr<;>try simp only[go_sem,seval,hw])
    refine⟨(i+1,Q0 l d.name (d.kind,(cnD (D.take i) d.kind:Int))),by simp[],?_,inv ⟨by omega,by omega,he⟩,by simp only;omega⟩;dsimp only;rw[hah];refine A2k ?_ h_same ?_ ?_
    ·rw[hnO,hnO,hnO,hnO];exact hb0
    ·rw[hnO,hnO,hnO,hnO];exact hb2
    ·rw[hnO,h_same]
   have k6:(d.kind == 6)=false:=by simpa using k6
   by_cases k7:d.kind=7
   ·have k7:(d.kind == 7)=true:=by simpa using k7
    repeat' (apply wr<;>try simp only[go_sem,seval,hb3,hd,hg,hw2,hlk,hmu,k6,k7,A9k,ne0,h_same,A0])
    refine AC.call (c_set d.name (d.kind,(cnD (D.take i) d.kind:Int)) l _ _ 2 1 (by rw[hnO,hnO,hnO];exact hb2) (by rw[hnO,hnO,hnO];exact hb1) (by omega) (by omega)) ?_;rintro v H' c' ⟨rfl,rfl⟩ hcc;simp only[go_sem,seval];repeat' (apply wr<;>try simp only[go_sem,seval,hw])
    refine⟨(i+1,Q0 l d.name (d.kind,(cnD (D.take i) d.kind:Int))),by simp[],?_,inv ⟨by omega,by omega,he⟩,by simp only;omega⟩;dsimp only;rw[hah];refine A2k ?_ h_same ?_ ?_
    ·rw[hnO,hnO,hnO,hnO];exact hb0
    ·rw[hnO,hnO,hnO,hnO];exact hb2
    ·rw[hnO,h_same]
   have k7:(d.kind == 7)=false:=by simpa using k7
   have k8:(d.kind == 8)=true:=by simp at k6 k7 ⊢;omega
   repeat' (apply wr<;>try simp only[go_sem,seval,hb3,hd,hg,hw2,hlk,hmu,k6,k7,k8,A9k,ne0,h_same,A0])
   refine AC.call (c_set d.name (d.kind,(cnD (D.take i) d.kind:Int)) l _ _ 2 1 (by rw[hnO,hnO,hnO];exact hb2) (by rw[hnO,hnO,hnO];exact hb1) (by omega) (by omega)) ?_;rintro v H' c' ⟨rfl,rfl⟩ hcc;simp only[go_sem,seval];repeat' (apply wr<;>try simp only[go_sem,seval,hw])
   refine⟨(i+1,Q0 l d.name (d.kind,(cnD (D.take i) d.kind:Int))),by simp[],?_,inv ⟨by omega,by omega,he⟩,by simp only;omega⟩;dsimp only;rw[hah];refine A2k ?_ h_same ?_ ?_
   ·rw[hnO,hnO,hnO,hnO];exact hb0
   ·rw[hnO,hnO,hnO,hnO];exact hb2
   ·rw[hnO,h_same]
  ·have hnum:M7 (D.take i) d=d.value:=by rw[M7,if_neg hkk]
   rw[hnum]at he;have k6:(d.kind == 6)=false:=by simp;omega
   have k7:(d.kind == 7)=false:=by simp;omega
   have k8:(d.kind == 8)=false:=by simp;omega
   repeat' (apply wr<;>try simp only[go_sem,seval,hb3,hd,hg,hw2,hlk,hmu,k6,k7,k8,A9k,ne0,h_same,A0])
   refine AC.call (c_set d.name (d.kind,d.value) l _ _ 2 1 (by rw[hnO,hnO,hnO];exact hb2) (by rw[hnO,hnO,hnO];exact hb1) (by omega) (by omega)) ?_;rintro v H' c' ⟨rfl,rfl⟩ hcc;simp only[go_sem,seval];repeat' (apply wr<;>try simp only[go_sem,seval,hw])
   refine⟨(i+1,Q0 l d.name (d.kind,d.value)),by simp[],?_,inv ⟨by omega,by omega,he⟩,by simp only;omega⟩;dsimp only;rw[hah];refine A2k ?_ h_same ?_ ?_
   ·rw[hnO,hnO,hnO,hnO];exact hb0
   ·rw[hnO,hnO,hnO,hnO];exact hb2
   ·rw[hnO,h_same]
 have hd:=dfz hlt;rw[A2Y (by omega),nmD]at he;rw[he]at hR;repeat' (apply wr<;>try simp only[go_sem,seval,hd,A0J,D2q])
 clear he hd hlt hk;generalize ahM (D.take i)=A;clear i;refine B6 (fun q:Nat × List (List UInt8 × (Int × Int))=>[(3,.ptr 2 0),(5,.func 110 [] [.ptr 2 0]),(56,E4 M),(57,I64 M.length),(58,I64 q.1)]) (fun q=>nmH D M q.2 A)
  (fun q c=>4<=c/\q.1<=M.length/\R=nmX q.1 q.2 (M.drop q.1)) (fun q=>M.length-q.1) (0,l)
  (by simp[B9,tm,Tm.upd]) (Sub.refl _) ⟨h1c,A0V _,hR⟩ ?_
 clear hR h1c c l;rintro⟨i,l⟩ c ⟨h1c,hk,he⟩;dsimp only at hk he ⊢;by_cases hlt:i<M.length
 ·have hd:=dtz hlt;have hg:=A0B hlt;have hw:=w64 (n:=(i:Int)+1);rw[B1f hg]at he;generalize M[i]=d at hg he;have hb0:nmH D M l A 0=_:=D2q;have hb1:nmH D M l A 1=_:=D2p;have hb2:nmH D M l A 2=_:=D2o;have hb3:nmH D M l A 3=_:=D6r;have hbn:∀ j,4<=j->nmH D M l A j=none:=fun j=>D2n j;generalize nmH D M l A=HH at hb0 hb1 hb2 hb3 hbn ⊢;have ne0:=B3x 0 1 2 3 c (c+1) (by omega);repeat' (apply wr<;>try simp only[go_sem,seval,hd,hg,C2v,h_same,A0])
  refine AC.call (c_set d.name (9,(i:Int)) l _ _ 2 1 (by rw[hnO];exact hb2) (by rw[hnO];exact hb1) (by omega) (by omega)) ?_;rintro v H' c' ⟨rfl,rfl⟩ hcc;simp only[go_sem,seval];repeat' (apply wr<;>try simp only[go_sem,seval,hw])
  refine⟨(i+1,Q0 l d.name (9,(i:Int))),by simp[],?_,inv ⟨by omega,by omega,he⟩,by simp only;omega⟩;refine A2k ?_ h_same ?_ ?_
  ·rw[hnO,hnO];exact hb0
  ·rw[hnO,hnO];exact hb2
  ·rw[hnO,hnO];exact hb3
 have hd:=dfz hlt;rw[A2Y (by omega),nmX]at he;subst he;have hb2:nmH D M R A 2=_:=D2o;repeat' (apply wr<;>try simp only[go_sem,seval,hd,hb2])
 exact C2f D2p
def ckB(r:Ru)(s:Int × Int):Blk:=⟨0,true,[nmV r,I64 s.1,I64 s.2]⟩
theorem R6{r:Ru}{n:List UInt8}{k p:Int}(h:k=0\/(H7 r n).1=k):dnE r n k p=none:=by unfold dnE dnM;rw[if_pos h];rfl
theorem D8t{r:Ru}{n:List UInt8}{k p:Int}(h:¬ (k=0\/(H7 r n).1=k))(h2:(H7 r n).1=0):dnE r n k p=some (p,8):=by unfold dnE dnM;rw[if_neg h,if_pos h2];rfl
theorem D8u{r:Ru}{n:List UInt8}{k p:Int}(h:¬ (k=0\/(H7 r n).1=k))(h2:¬ (H7 r n).1=0):dnE r n k p=some (p,44):=by unfold dnE dnM;rw[if_neg h,if_neg h2];rfl
theorem A9c{H:Hp}{cc t:Nat}{b b':Blk}{ds:List DV}(hfr:∀ i,cc<=i->H i=none)(htc:t<cc):GL ((H.upd cc b).upd t b') ds (H.upd t b') ds:=GL.less' fun j q hj=>by
 by_cases e:j=t
 ·subst e;rw[h_same]at hj ⊢;exact hj
 ·rw[h_ne e]at hj ⊢;rw[h_ne (A8u hfr hj)];exact hj
theorem c_inE32(k:Int):PC Tryz.prog 145 [I64 k] (I64 (kdE k)):=by
 refine PC.go A2 ?_;repeat' ((with_reducible first|refine wr ?_|refine wb2 ?_ ?_<;>(intro hb;try simp only[hb])|fail)<;>try simp only[go_sem,seval])
 all_goals (refine A1 (congrArg I64 ?_);simp_all[kdE])
theorem c_inS32(k:Int):PC Tryz.prog 114 [I64 k] (I64 (kdS k)):=by
 refine PC.go A2 ?_;repeat' ((with_reducible first|refine wr ?_|refine wb2 ?_ ?_<;>(intro hb;try simp only[hb])|fail)<;>try simp only[go_sem,seval])
 all_goals (refine A1 (congrArg I64 ?_);simp_all[kdS])
theorem c_inH32(k:Int):PC Tryz.prog 57 [I64 k] (I64 (kdH k)):=by
 refine PC.go A2 ?_;repeat' ((with_reducible first|refine wr ?_|refine wb2 ?_ ?_<;>(intro hb;try simp only[hb])|fail)<;>try simp only[go_sem,seval])
 all_goals (refine A1 (congrArg I64 ?_);simp_all[kdH])
theorem c_most32(k:Int):PC Tryz.prog 112 [I64 k] (I64 (A3m k)):=by
 refine PC.go A2 ?_;repeat' ((with_reducible first|refine wr ?_|refine wb2 ?_ ?_<;>(intro hb;try simp only[hb])|fail)<;>try simp only[go_sem,seval])
 all_goals (refine A1 (congrArg I64 ?_);simp_all[A3m])
theorem c_truth32(k:Int):PC Tryz.prog 146 [I64 k] (.bool (C5x k)):=by
 refine PC.go A2 ?_;repeat' ((with_reducible first|refine wr ?_|refine wb2 ?_ ?_<;>(intro hb;try simp only[hb])|fail)<;>try simp only[go_sem,seval])
 all_goals (refine A1 (congrArg DV.bool ?_);simp_all[C5x]<;>omega)
theorem c_typ32(k:Int)(h:k<=24):PC Tryz.prog 95 [I64 k] (I64 (L2 k)):=by
 refine PC.go A2 ?_;have ht:=c_truth32 k;rw[C5w h]at ht;repeat' ((with_reducible first|refine wr ?_|refine cpc ht ?_|refine wb2 ?_ ?_<;>(intro hb;try simp only[hb])|fail)<;>try simp only[go_sem,seval])
 all_goals (refine A1 (congrArg I64 ?_);simp_all[L2])
theorem c_fail32(r:Ru)(s:Int × Int)(H:Hp)(cc t:Nat)(ht:H t=some (ckB r s))(htc:t<cc)(p e:Int):AC Tryz.prog 60 [.ptr t 0,I64 p,I64 e] H cc (fun v H' c'=>v=.tup []/\H'=H.upd t (ckB r (upS s (some (p,e))))):=by
 refine AC.bodyT A2 rfl (A0A rfl) fun hfr=>?_;unfold ckB at ht ⊢;cases h:(s.2 == 0) with
 |true =>
  have e0:upS s (some (p,e))=(p,e):=by unfold upS;rw[if_pos (by simpa using h)];rfl
  rw[e0];repeat' (apply wr<;>try simp only[go_sem,seval,ht,h,h_same,A0])
  exact⟨_,_,GL.refl _ _,rfl,rfl⟩
 |false =>
  have e0:upS s (some (p,e))=s:=by unfold upS;rw[if_neg (by simpa using h)]
  rw[e0,upd_same ht];repeat' (apply wr<;>try simp only[go_sem,seval,ht,h])
  exact⟨_,_,GL.refl _ _,rfl,rfl⟩
theorem c_den32(r:Ru)(hk:Q5 r.decls)(s:Int × Int)(H:Hp)(cc t:Nat)(ht:H t=some (ckB r s))(htc:t<cc)(n:List UInt8)(k p:Int):AC Tryz.prog 56 [.ptr t 0,.str n,I64 k,I64 p] H cc (fun v H' c'=>v=.tup []/\H'=H.upd t (ckB r (upS s (dnE r n k p)))):=by
 refine AC.bodyT A2 rfl (A0A rfl) fun hfr=>?_;have ht':=ht;unfold ckB nmV at ht';have ne0:=X4 t cc (by omega);cases hl:(nmL r).lookup n with
 |some q =>
  obtain⟨h1,h2⟩:=B6o hk hl;have hlk:Sym.lkV (.agg [I64 0,I64 0]) true (mvV (S3 (nmL r))) (C3 (.str n) (mkK (S3 (nmL r))) 0)=some (.tup [A2o q,.bool true]):=A1r (ok:=true) (by rw[R2,hl];rfl);unfold A2o at hlk;by_cases hk0:k=0
  ·subst hk0;have e0:dnE r n 0 p=none:=R6 (.inl rfl);rw[e0,H5,upd_same ht];repeat' (apply wr<;>try simp only[go_sem,seval,ht',hlk,h_same,A0])
   exact⟨_,_,A2q hfr,rfl,rfl⟩
  have q0:(k == 0)=false:=by simpa using hk0
  by_cases hq:q.1=k
  ·have e0:dnE r n k p=none:=R6 (.inr (by rw[h1];exact hq));rw[e0,H5,upd_same ht];have q1:(q.1 != k)=false:=by simp[hq]
   repeat' (apply wr<;>try simp only[go_sem,seval,ht',hlk,q0,q1,h_same,A0])
   exact⟨_,_,A2q hfr,rfl,rfl⟩
  ·have e0:dnE r n k p=some (p,44):=D8u (by rw[h1];simp[hk0,hq]) (by rw[h1];exact h2);rw[e0];have q1:(q.1 != k)=true:=by simp[hq]
   repeat' (apply wr<;>try simp only[go_sem,seval,ht',hlk,q0,q1,h_same,A0])
   refine AC.call (c_fail32 r s _ _ t (by rw[hnO];exact ht) (by omega) p 44) ?_;rintro v H' c' ⟨rfl,rfl⟩ hcc;simp only[go_sem,seval];repeat' (apply wr<;>try simp only[go_sem,seval])
   exact⟨_,_,A9c hfr htc,rfl,rfl⟩
 |none =>
  have h1:=B6q hk hl;have hlk:Sym.lkV (.agg [I64 0,I64 0]) true (mvV (S3 (nmL r))) (C3 (.str n) (mkK (S3 (nmL r))) 0)=some (.tup [.agg [I64 0,I64 0],.bool false]):=A1s (ok:=true) (by rw[R2,hl];rfl);by_cases hk0:k=0
  ·subst hk0;have e0:dnE r n 0 p=none:=R6 (.inl rfl);rw[e0,H5,upd_same ht];repeat' (apply wr<;>try simp only[go_sem,seval,ht',hlk,h_same,A0])
   exact⟨_,_,A2q hfr,rfl,rfl⟩
  have q0:(k == 0)=false:=by simpa using hk0
  have e0:dnE r n k p=some (p,8):=D8t (by rw[h1];simp;omega) (by rw[h1]);rw[e0];repeat' (apply wr<;>try simp only[go_sem,seval,ht',hlk,q0,h_same,A0])
  refine AC.call (c_fail32 r s _ _ t (by rw[hnO];exact ht) (by omega) p 8) ?_;rintro v H' c' ⟨rfl,rfl⟩ hcc;simp only[go_sem,seval];repeat' (apply wr<;>try simp only[go_sem,seval])
  exact⟨_,_,A9c hfr htc,rfl,rfl⟩
theorem A4a{G:Hp}{t c:Nat}{b0 b1 b:Blk}(hG:∀ j,c<=j->G j=none)(htc:t<c):Sym.Sub (G.upd t b) (((G.upd t b0).upd c b1).upd t b):=by
 intro j q hj;by_cases e:j=t
 ·subst e;rw[h_same]at hj ⊢;exact hj
 ·rw[h_ne e]at hj;have:j<c:=A1X fun h=>by rw[hG j h]at hj;cases hj
  rw[h_ne e,hnO,h_ne e];exact hj
theorem B5q{G:Hp}{t c:Nat}{b0 b1:Blk}(hG:∀ j,c<=j->G j=none)(htc:t<c):Sym.Sub (G.upd t b0) ((G.upd t b0).upd c b1):=by
 intro j q hj;have:j<c:=A1X fun h=>by rw[hnO,hG j h]at hj;cases hj
 rw[hnO];exact hj
theorem c_exp32(r:Ru)(hk:Q5 r.decls):∀ (m:Nat) (e:Ex),e.sz<m->e.sz<=100000000->(∃ q,msM e=some q)->∀ (s:Int × Int) (H:Hp) (cc t:Nat) (ht:H t=some (ckB r s)) (htc:t<cc),
  AC Tryz.prog 94 [.ptr t 0,e.v] H cc (fun v H' c'=>v=.tup []/\H'=H.upd t (ckB r (upS s (erE r e)))):=by
 intro m
 induction m with
 |zero=>intro e h;omega
 |succ m ih =>
 intro e hm hB ⟨q0,hq0⟩ s H cc t ht htc;have hal:Ex.szs e.args<e.sz:=by cases e with|mk k v n a p=>rw[Ex.sz];show Ex.szs a<_;omega
 have hargs:∀ x∈e.args,x.sz<=Ex.szs e.args:=fun x hx=>Ex.szs_mem hx;have hll:=Ex.szs_len e.args;have hms:=C7c hq0;have h22:=D2t hq0;have hknd:∀ x∈e.args,x.kind<=24:=fun x hx=>by obtain⟨q,hq⟩:=hms x hx;exact A8v hq
 rw[D8r,Ex.v_w];dsimp only[Ex.w];have ih:∀ x∈e.args, ∀ (s:Int × Int) (H:Hp) (cc t:Nat) (ht:H t=some (ckB r s)) (htc:t<cc),AC Tryz.prog 94 [.ptr t 0,x.v] H cc (fun v H' c'=>v=.tup []/\H'=H.upd t (ckB r (upS s (erE r x)))):=fun x hx=>ih x (by have:=hargs x hx;omega) (by have:=hargs x hx;omega) (hms x hx);have hk1:=c_inE32 e.kind;have hden:=fun (s:Int × Int) (H:Hp) (cc t:Nat) (ht:H t=some (ckB r s)) (htc:t<cc)=>c_den32 r hk s H cc t ht htc e.name (kdE e.kind) e.pos;generalize ek:e.kind=k at *;generalize e.value=v at *;generalize e.name=n at *;generalize e.args=a at *;generalize e.pos=p at *;refine AC.bodyT A2 rfl (A0A rfl) fun hfr=>?_;repeat' (apply wr<;>try simp only[go_sem,seval])
 obtain⟨G,hG⟩:∃ G,G=H.upd cc ⟨0,true,[I64 k,I64 v,.str n,G7 a,I64 p]⟩:=⟨_,rfl⟩;have hGc:∀ b,(G.upd t b) cc=some ⟨0,true,[I64 k,I64 v,.str n,G7 a,I64 p]⟩:=fun b=>by rw[hnO,hG,h_same]
 have hGn:∀ j,cc+1<=j->G j=none:=fun j hj=>by rw[hG,hnO];exact hfr j (by omega)
 have hGt:G=G.upd t (ckB r s):=by rw[upd_same];rw[hG,hnO];exact ht
 rw[<- hG,hGt];refine B6 (fun i:Nat=>[(0,.ptr t 0),(3,.ptr cc 0),(10,G7 a),(11,I64 a.length),(12,I64 i)]) (fun i=>G.upd t (ckB r (upS s (M6 r (a.take i))))) (fun i c=>cc+1<=c/\i<=a.length) (fun i=>a.length-i) 0 (by simp[B9,tm,Tm.upd]) (by rw[A0Y,M6,H5];exact Sub.refl _) ⟨by omega,A0V _⟩ ?_;rintro i c ⟨h1c,hki⟩;by_cases hlt:i<a.length
 ·have hd:=dtz hlt;have hg:=A0B hlt;have hw:=w64 (n:=(i:Int)+1);have hc:=ih _ (A0S hlt);have het:=A7m (r:=r) hg;generalize a[i]=x at hg hc het;rw[Ex.v_w]at hc;have ne0:=X4 t c (by omega);repeat' (apply wr<;>try simp only[go_sem,seval,hd,hg,Ex.v_w,h_same,A0])
  refine AC.call (hc (upS s (M6 r (a.take i))) _ _ t (by rw[hnO,h_same]) (by omega)) ?_;rintro v' H' c' ⟨rfl,rfl⟩ hcc;simp only[go_sem,seval];repeat' (apply wr<;>try simp only[go_sem,seval,hw])
  refine⟨i+1,by simp,?_,inv ⟨by omega,by omega⟩,by omega⟩;rw[H4 (B1b _ _), <- het];exact A4a (fun j hj=>hGn j (by omega)) (by omega)
 have hd:=dfz hlt;rw[A0U (by omega)];repeat' ((with_reducible first|apply wr|refine cpc hk1 ?_|fail)<;>try simp only[go_sem,seval,hd,hGc])
 refine⟨by and_intros<;>(rw[hnO];exact hGn _ (by omega)),?_⟩;refine AC.call (hden (upS s (M6 r a)) _ _ t h_same (by omega)) ?_;rintro v' H' c' ⟨rfl,rfl⟩ hcc;rw[A0,H4 (B1b _ _)];obtain⟨s1,hs1⟩:∃ s1,s1=upS s ((M6 r a).or (dnE r n (kdE k) p)):=⟨_,rfl⟩;have nz1:NzE ((M6 r a).or (dnE r n (kdE k) p)):=(B1b _ _).or (A7d _ _ _ _);rw[<- hs1, <- H4 nz1, <- hs1];clear hs1;have kL:∀ c2:Nat,c+9<=c2->IW Tryz.prog 61 (.loop (pz Tryz.prog 94 (.i (.o (.i (.o (.i .h))))))) ⟨tm [(0,.ptr t 0),(3,.ptr cc 0),(6,I64 (U2 k a)),(45,G7 a),(46,I64 a.length),(47,I64 0)],G.upd t (ckB r s1),c2⟩ (bk 3 (rt [] fun v H' c' => ∃ v2 H2,GL H' [v] H2 [v2]/\v2=.tup []/\H2=H.upd t (ckB r (upS s1 (if (a.all fun x=>L2 x.kind == U2 k a)=true then none else some (p,49)))))):=by
  intro c2 hc2;generalize U2 k a=wnt;refine B6 (fun i:Nat=>[(0,.ptr t 0),(3,.ptr cc 0),(6,I64 wnt),(45,G7 a),(46,I64 a.length),(47,I64 i)]) (fun i=>G.upd t (ckB r (upS s1 (if ((a.take i).all fun x=>L2 x.kind == wnt)=true then none else some (p,49))))) (fun i c=>cc+1<=c/\i<=a.length) (fun i=>a.length-i) 0 (by simp[B9,tm,Tm.upd]) (by rw[A0Y,List.all_nil,if_pos rfl,H5];exact Sub.refl _) ⟨by omega,A0V _⟩ ?_;rintro i c3 ⟨h3c,hki3⟩;by_cases hlt3:i<a.length
  ·have hd3:=dtz hlt3;have hg3:=A0B hlt3;have hw3:=w64 (n:=(i:Int)+1);have hat:=A2w (fun x:Ex=>L2 x.kind == wnt) a i _ hg3;have hty:=c_typ32 _ (hknd _ (A0S hlt3));generalize a[i]=x at hg3 hat hty;obtain⟨o,ho⟩:∃ o:Er,o=if ((a.take i).all fun x=>L2 x.kind == wnt)=true then none else some (p,49):=⟨_,rfl⟩
   rw[<- ho];have ne0:=U6 t c3 cc (by omega);by_cases hx:L2 x.kind=wnt
   ·have hxn:(L2 x.kind != wnt)=false:=by simp[hx]
    repeat' ((with_reducible first|apply wr|refine cpc hty ?_|fail)<;>try simp only[go_sem,seval,hd3,hg3,hw3,Ex.v_w,h_same,A0,hxn])
    refine⟨i+1,by simp,?_,inv ⟨by omega,by omega⟩,by omega⟩;rw[hat,show (L2 x.kind == wnt)=true by simpa using hx,A2P, <- ho];exact B5q (fun j hj=>hGn j (by omega)) (by omega)
   ·have hxn:(L2 x.kind != wnt)=true:=by simp[hx]
    repeat' ((with_reducible first|apply wr|refine cpc hty ?_|fail)<;>try simp only[go_sem,seval,hd3,hg3,Ex.v_w,ne0,h_same,A0,hGc,hxn])
    refine AC.call (c_fail32 r (upS s1 o) _ _ t (by rw[hnO,h_same]) (by omega) p 49) ?_;rintro v' H' c4 ⟨rfl,rfl⟩ hcc4;simp only[go_sem,seval];repeat' (apply wr<;>try simp only[go_sem,seval,hw3])
    refine⟨i+1,by simp,?_,inv ⟨by omega,by omega⟩,by omega⟩;have eo:upS (upS s1 o) (some (p,49))=upS s1 (some (p,49)):=by
     rw[ho];split
     ·rw[H5]
     ·exact C0i s1 p 49 (by decide)
    rw[hat,show (L2 x.kind == wnt)=false by simpa using hx,Bool.and_false,if_neg (by decide),eo];exact A4a (fun j hj=>hGn j (by omega)) (by omega)
  have hd3:=dfz hlt3;rw[A0U (by omega)];repeat' (apply wr<;>try simp only[go_sem,seval,hd3])
  refine⟨_,_,?_,rfl,rfl⟩;rw[hG];exact A9c hfr htc
 simp only[go_sem,seval];by_cases ka:k=11\/k=23\/k=24
 ·have ew:U2 k a=2:=by unfold U2;rw[if_pos ka]
  rw[ew]at kL ⊢;rcases ka with rfl|rfl|rfl
  all_goals (repeat' (apply wr<;>try simp only[go_sem,seval,hGc]))
  all_goals exact kL _ hcc
 have ka1:(k == 11)=false:=by simp;omega
 have ka2:(k == 23)=false:=by simp;omega
 have ka3:(k == 24)=false:=by simp;omega
 by_cases kb:k=21\/k=22
 ·have hl2:=h22 kb;obtain⟨x0,l0,ha⟩:∃ x l,a=x :: l:=by
   cases a with
   |nil=>simp at hl2
   |cons x l=>exact⟨x,l,rfl⟩
  have ew:U2 k a=L2 x0.kind:=by rw[ha];unfold U2;rw[if_neg ka,if_pos kb]
  have hg0:a[0]? = some x0:=by rw[ha];rfl
  have hty:=c_typ32 _ (hknd x0 (by rw[ha];exact A0I));rw[ew]at kL ⊢;rcases kb with rfl|rfl
  all_goals (repeat' ((with_reducible first|apply wr|refine cpc hty ?_|fail)<;>try simp only[go_sem,seval,hGc,ka1,ka2,ka3,hg0,Ex.v_w]))
  all_goals exact kL _ hcc
 have ew:U2 k a=1:=by unfold U2;rw[if_neg ka,if_neg kb]
 rw[ew]at kL ⊢;have kb1:(k == 21)=false:=by simp;omega
 have kb2:(k == 22)=false:=by simp;omega
 repeat' (apply wr<;>try simp only[go_sem,seval,hGc,ka1,ka2,ka3,kb1,kb2])
 exact kL _ hcc
theorem A8a{H:Hp}{i j:Nat}{a b:Blk}(h:i≠j):(H.upd i a).upd j b=(H.upd j b).upd i a:=by
 funext k
 by_cases e:k=j
 ·subst e;rw[h_same,h_ne (Ne.symm h),h_same]
 ·rw[h_ne e];by_cases e2:k=i
  ·subst e2;rw[h_same,h_same]
  ·rw[h_ne e2,h_ne e2,h_ne e]
theorem A8f{H:Hp}{t c:Nat}{b1 b:Blk}(hG:∀ j,c<=j->H j=none)(htc:t<c):Sym.Sub (H.upd t b) ((H.upd c b1).upd t b):=by
 rw[<- A8a (Nat.ne_of_lt htc)];exact B5q hG htc
theorem C0m(k:Int)(b:Bool):L2 k=(if b=true then 2 else 1)↔(L2 k == 2)=b:=by
 unfold L2;cases b<;>cases C8n k<;>simp
theorem c_blk32(r:Ru)(hk:Q5 r.decls):∀ (m:Nat) (l:List Pb.St) (d:Nat),Pb.St.szs l<m->Pb.St.szs l<=100000000->K2 d l=true->∀ (s:Int × Int) (H:Hp) (cc t:Nat) (ht:H t=some (ckB r s)) (htc:t<cc),
  AC Tryz.prog 61 [.ptr t 0,D2 l] H cc (fun v H' c'=>v=.tup []/\H'=H.upd t (ckB r (upS s (erB r l)))):=by
 intro m
 induction m with
 |zero=>intro l d h;omega
 |succ m ih =>
 intro l d hm hB hv s H cc t ht htc;have hl:=Pb.St.szs_len l;refine AC.bodyT A2 rfl (A0A rfl) fun hfr=>?_;repeat' (apply wr<;>try simp only[go_sem,seval])
 have hHt:H=H.upd t (ckB r s):=(upd_same ht).symm;refine B6 (fun i:Nat=>[(0,.ptr t 0),(9,D2 l),(10,I64 l.length),(11,I64 i)]) (fun i=>H.upd t (ckB r (upS s (erB r (l.take i))))) (fun i c=>cc<=c/\i<=l.length) (fun i=>l.length-i) 0 (by simp[B9,tm,Tm.upd]) (by rw[A0Y,erB,H5, <- hHt];exact Sub.refl _) ⟨by omega,A0V _⟩ ?_;rintro i c ⟨h1c,hki⟩;by_cases hlt:i<l.length
 ·have hd:=dtz hlt;have hg:=A0B hlt;have hw:=w64 (n:=(i:Int)+1);have hsx:=Pb.St.szs_mem (A0S hlt);obtain⟨v1,v2,v3⟩:=B3c (A6w hv _ (A0S hlt));have het:=B2d (r:=r) hg;rw[D8q]at het;generalize l[i]=x at hg hsx v1 v2 v3 het;have hsa:Ex.szs x.args<x.sz:=by cases x with|mk k n t a x y p=>rw[Pb.St.sz];show Ex.szs a<_;omega
  have hal:=Ex.szs_len x.args;have hX:=ih x.thn (d+1) (by have:=x.sz_thn;omega) (by have:=x.sz_thn;omega) v2;have hY:=ih x.els (d+1) (by have:=x.sz_els;omega) (by have:=x.sz_els;omega) v3;have hk1:=c_inS32 x.kind;obtain⟨s0,hs0⟩:∃ s0,s0=upS s (erB r (l.take i)):=⟨_,rfl⟩;have hfin:upS s (erB r (l.take (i+1)))=upS s0 ((((dnE r x.name (kdS x.kind) x.pos).or (erA r (x.kind == 2) x.args)).or (erB r x.thn)).or (erB r x.els)):=by rw[het, <- H4 (B8n _ _), <- hs0]
  rw[<- hs0];have ne0:=X4 t c (by omega);repeat' ((with_reducible first|apply wr|refine cpc hk1 ?_|fail)<;>try simp only[go_sem,seval,hd,hg,Pb.St.v_w,h_same,A0])
  obtain⟨G,hG⟩:∃ G,G=H.upd c ⟨0,true,[I64 x.kind,.str x.name,.str x.text,G7 x.args,D2 x.thn,D2 x.els,I64 x.pos]⟩:=⟨_,rfl⟩;have hGc:∀ b,(G.upd t b) c=some ⟨0,true,[I64 x.kind,.str x.name,.str x.text,G7 x.args,D2 x.thn,D2 x.els,I64 x.pos]⟩:=fun b=>by rw[hnO,hG,h_same]
  have hGn:∀ j,c+1<=j->G j=none:=fun j hj=>by rw[hG,hnO];exact hfr j (by omega)
  rw[A8a (by omega), <- hG];refine⟨by and_intros<;>(rw[hnO];exact hGn _ (by omega)),?_⟩;refine AC.call (c_den32 r hk s0 _ _ t h_same (by omega) x.name (kdS x.kind) x.pos) ?_;rintro v' H' c2 ⟨rfl,rfl⟩ hc2;rw[A0];obtain⟨s1,hs1⟩:∃ s1,s1=upS s0 (dnE r x.name (kdS x.kind) x.pos):=⟨_,rfl⟩;rw[A2G,A2G, <- H4 (A7d _ _ _ _), <- hs1]at hfin;rw[<- hs1];have kL:∀ c3:Nat,c+1<=c3->IW Tryz.prog 56 (.loop (pz Tryz.prog 61 (.o (.i (.i (.i .h)))))) ⟨tm [(0,.ptr t 0),(5,.ptr c 0),(6,I64 (if (x.kind == 2)=true then 2 else 1)),(9,D2 l),(10,I64 l.length),(11,I64 i),(28,G7 x.args),(29,I64 x.args.length),(30,I64 0)],G.upd t (ckB r s1),c3⟩ (bk 2 (sq Tryz.prog 56 (pz Tryz.prog 61 (.o (.o (.o (.o (.i .h)))))) (bk 1 (sq Tryz.prog 56 (pz Tryz.prog 61 (.i (.i (.o (.o (.i .h))))))
    (lp (fun i:Nat=>[(0,DV.ptr t 0),(9,D2 l),(10,I64 l.length),(11,I64 i)]) (fun i:Nat=>H.upd t (ckB r (upS s (erB r (l.take i))))) (fun (i c:Nat)=>cc<=c/\i<=l.length) (fun i:Nat=>l.length-i) (l.length-i) (bk 0 (rt [] fun v H' c' => ∃ v2 H2,GL H' [v] H2 [v2]/\v2=DV.tup []/\H2=H.upd t (ckB r (upS s (erB r l)))))))))):=by
   intro c3 hc3;obtain⟨wnt,hwnt⟩:∃ wnt:Int,wnt=if (x.kind == 2)=true then 2 else 1:=⟨_,rfl⟩
   rw[<- hwnt];refine B6 (fun j:Nat=>[(0,.ptr t 0),(5,.ptr c 0),(6,I64 wnt),(9,D2 l),(10,I64 l.length),(11,I64 i),(28,G7 x.args),(29,I64 x.args.length),(30,I64 j)]) (fun j=>G.upd t (ckB r (upS s1 (erA r (x.kind == 2) (x.args.take j))))) (fun j c4=>c+1<=c4/\j<=x.args.length) (fun j=>x.args.length-j) 0 (by simp[B9,tm,Tm.upd]) (by rw[A0Y,erA,H5];exact Sub.refl _) ⟨by omega,A0V _⟩ ?_;rintro j c4 ⟨h4c,hkj⟩;by_cases hlt2:j<x.args.length
   ·have hd2:=dtz hlt2;have hg2:=A0B hlt2;have hw2:=w64 (n:=(j:Int)+1);have hxs:=Ex.szs_mem (A0S hlt2);have hmy:=v1 _ (A0S hlt2);have heA:=B2e (r:=r) (b:=x.kind == 2) hg2;generalize x.args[j]=y at hg2 hxs hmy heA;have hex:=c_exp32 r hk _ y (A1I _) (by omega) hmy;obtain⟨qy,hqy⟩:=hmy;have hty:=c_typ32 _ (A8v hqy);rw[Ex.v_w]at hex;obtain⟨o,ho⟩:∃ o,o=erA r (x.kind == 2) (x.args.take j):=⟨_,rfl⟩;have hno:NzE o:=by rw[ho];exact C2l _ _ _
    have htw:=C0m y.kind (x.kind == 2);rw[<- hwnt]at htw;rw[<- ho];rw[<- ho, <- A2G]at heA;have ne0:=U6 t c c4 (by omega);repeat' (apply wr<;>try simp only[go_sem,seval,hd2,hg2,Ex.v_w,h_same,A0])
    refine AC.call (hex (upS s1 o) _ _ t (by rw[hnO,h_same]) (by omega)) ?_;rintro v' H' c5 ⟨rfl,rfl⟩ hc5;rw[H4 hno];simp only[go_sem,seval];by_cases hx:L2 y.kind=wnt
    ·have hxn:(L2 y.kind != wnt)=false:=by simp[hx]
     repeat' ((with_reducible first|apply wr|refine cpc hty ?_|fail)<;>try simp only[go_sem,seval,hw2,ne0,h_same,hxn])
     refine⟨j+1,by simp,?_,inv ⟨by omega,by omega⟩,by omega⟩;rw[heA,if_pos (htw.1 hx),A2Q];exact A4a (fun j hj=>hGn j (by omega)) (by omega)
    ·have hxn:(L2 y.kind != wnt)=true:=by simp[hx]
     repeat' ((with_reducible first|apply wr|refine cpc hty ?_|fail)<;>try simp only[go_sem,seval,ne0,h_same,hxn])
     refine AC.call (c_fail32 r (upS s1 (o.or (erE r y))) _ _ t h_same (by omega) y.pos 49) ?_;rintro v' H' c6 ⟨rfl,rfl⟩ hc6;simp only[go_sem,seval,A0];repeat' (apply wr<;>try simp only[go_sem,seval,hw2])
     refine⟨j+1,by simp,?_,inv ⟨by omega,by omega⟩,by omega⟩;rw[H4 (hno.or (C2j _ _)),heA,if_neg (fun h=>hx (htw.2 h))];exact A4a (fun j hj=>hGn j (by omega)) (by omega)
   have hd2:=dfz hlt2;rw[A0U (by omega)];repeat' (apply wr<;>try simp only[go_sem,seval,hd2,hGc])
   refine AC.call (hX (upS s1 (erA r (x.kind == 2) x.args)) _ _ t h_same (by omega)) ?_;rintro v' H' c5 ⟨rfl,rfl⟩ hc5;rw[A0,H4 (C2l _ _ _)];simp only[go_sem,seval];repeat' (apply wr<;>try simp only[go_sem,seval,hGc])
   refine AC.call (hY (upS s1 ((erA r (x.kind == 2) x.args).or (erB r x.thn))) _ _ t h_same (by omega)) ?_;rintro v' H' c6 ⟨rfl,rfl⟩ hc6;rw[A0,H4 ((C2l _ _ _).or (B8n _ _))];simp only[go_sem,seval];repeat' (apply wr<;>try simp only[go_sem,seval,hw])
   refine⟨i+1,by simp,?_,inv ⟨by omega,by omega⟩,by omega⟩;rw[hfin,A2G,hG];exact A8f (fun j hj=>hfr j (by omega)) (by omega)
  simp only[go_sem,seval];cases hb2:(x.kind == 2) with
  |true =>
   rw[hb2]at kL;repeat' (apply wr<;>try simp only[go_sem,seval,hGc,hb2])
   exact kL _ (by omega)
  |false =>
   rw[hb2]at kL;repeat' (apply wr<;>try simp only[go_sem,seval,hGc,hb2])
   exact kL _ (by omega)
 have hd:=dfz hlt;rw[A0U (by omega)];repeat' (apply wr<;>try simp only[go_sem,seval,hd])
 exact⟨_,_,GL.refl _ _,rfl,rfl⟩
abbrev B8g(l:List (List UInt8)):Blk:=⟨0,true,[.mpc .s (mkK (O5 l)) (mvV (O5 l))]⟩
theorem c_head1(r:Ru)(s:Int × Int)(l:List (List UInt8))(nm:List UInt8)(p val most:Int)(H:Hp)(cc t a b mm:Nat)(ht:H t=some (ckB r s))(ha:H a=some ⟨0,true,[.ptr t 0]⟩)(hb:H b=some ⟨0,true,[.mid mm]⟩)(hm:H mm=some (B8g l))
  (htc:t<cc) (hac:a<cc) (hbc:b<cc) (hmc:mm<cc) (hta:t≠a) (htb:t≠b) (htm:t≠mm) (hbm:b≠mm) (ham:a≠mm) (hab:a≠b) :
  AC Tryz.prog 111 [.str nm,I64 p,I64 val,I64 most,.ptr a 0,.ptr b 0] H cc (fun v H' c'=>v=.tup []/\H'=(H.upd t (ckB r (upS s ((if val>most then some (p,5) else none:Er).or (if l.contains nm=true then some (p,7) else none))))).upd mm (B8g (A3l l nm))):=by
 refine AC.bodyT A2 rfl (A0A rfl) fun hfr=>?_;have hlk:=D1g nm l;have hmu:=fun H c id u=>D1f nm l H c id u;obtain⟨o1,ho1⟩:∃ o1:Er,o1=if val>most then some (p,5) else none:=⟨_,rfl⟩
 have n1:NzE o1:=by rw[ho1];exact A8r (by decide)
 rw[<- ho1];have hkB:∀ c0,cc<=c0->IW Tryz.prog 24 (pz Tryz.prog 111 (.i (.i .h))) ⟨tm [(0,.str nm),(1,I64 p),(4,.ptr a 0),(5,.ptr b 0)],H.upd t (ckB r (upS s o1)),c0⟩ (rt [] fun v H' c' => ∃ v2 H2,GL H' [v] H2 [v2]/\v2=.tup []/\H2=(H.upd t (ckB r (upS s (o1.or (if l.contains nm=true then some (p,7) else none))))).upd mm (B8g (A3l l nm))):=by
  intro c0 hc0;have ne0:=T8 t a b mm (by omega);cases hc:l.contains nm with
  |false =>
   rw[hc]at hlk;rw[if_neg (by decide),A2Q];repeat' (apply wr<;>try simp only[go_sem,seval,hb,hm,hlk,hmu,ne0])
   exact⟨_,_,GL.refl _ _,rfl,rfl⟩
  |true =>
   rw[hc]at hlk;rw[if_pos rfl];repeat' (apply wr<;>try simp only[go_sem,seval,ha,hb,hm,hlk,ne0])
   refine AC.call (c_fail32 r (upS s o1) _ _ t h_same (by omega) p 7) ?_;rintro v' H' c2 ⟨rfl,rfl⟩ hc2;rw[A0,H4 n1];simp only[go_sem,seval];repeat' (apply wr<;>try simp only[go_sem,seval,hb,hm,hmu,ne0])
   exact⟨_,_,GL.refl _ _,rfl,rfl⟩
 have ne0:=T8 t a b mm (by omega);by_cases hv:val>most
 ·have qv:decide (val>most)=true:=by simpa using hv
  rw[if_pos hv]at ho1;rw[ho1]at hkB ⊢;repeat' (apply wr<;>try simp only[go_sem,seval,ha,qv])
  refine AC.call (c_fail32 r s _ _ t ht (by omega) p 5) ?_;rintro v' H' c2 ⟨rfl,rfl⟩ hc2;simp only[go_sem,seval];repeat' ((with_reducible first|refine F6 (p:=IW _ _ (pz Tryz.prog 111 (.i (.i .h))) _ _) ?_|refine wr ?_|fail)<;>try simp only[go_sem,seval])
  exact IW.stage (by simp[B9,tm,Tm.upd]) (hkB _ hc2)
 ·have qv:decide (val>most)=false:=by simpa using hv
  rw[if_neg hv]at ho1;rw[ho1,H5,upd_same ht]at hkB;rw[ho1];repeat' ((with_reducible first|refine F6 (p:=IW _ _ (pz Tryz.prog 111 (.i (.i .h))) _ _) ?_|refine wr ?_|fail)<;>try simp only[go_sem,seval,qv])
  exact IW.stage (by simp[B9,tm,Tm.upd]) (hkB _ (A0C _))
def hdH(H:Hp)(r:Ru)(t cc:Nat)(s:Int × Int)(l:List (List UInt8)):Hp:=((((H.upd t (ckB r s)).upd cc ⟨0,true,[.ptr t 0]⟩).upd (cc+1) ⟨0,true,[F7 r.decls,E4 r.modes]⟩).upd (cc+2) (B8g l)).upd (cc+3) ⟨0,true,[.mid (cc+2)]⟩
theorem B7j{H:Hp}{r:Ru}{t cc:Nat}{s:Int × Int}{l:List (List UInt8)}(htc:t<cc):hdH H r t cc s l t=some (ckB r s):=by
 unfold hdH;rw[hnO,hnO,hnO,hnO,h_same]
theorem C3q{H:Hp}{r:Ru}{t cc:Nat}{s:Int × Int}{l:List (List UInt8)}:hdH H r t cc s l cc=some ⟨0,true,[.ptr t 0]⟩:=by
 unfold hdH;rw[hnO,hnO,hnO,h_same]
theorem B7l{H:Hp}{r:Ru}{t cc:Nat}{s:Int × Int}{l:List (List UInt8)}:hdH H r t cc s l (cc+1)=some ⟨0,true,[F7 r.decls,E4 r.modes]⟩:=by
 unfold hdH;rw[hnO,hnO,h_same]
theorem C3p{H:Hp}{r:Ru}{t cc:Nat}{s:Int × Int}{l:List (List UInt8)}:hdH H r t cc s l (cc+2)=some (B8g l):=by
 unfold hdH;rw[hnO,h_same]
theorem C3o{H:Hp}{r:Ru}{t cc:Nat}{s:Int × Int}{l:List (List UInt8)}:hdH H r t cc s l (cc+3)=some ⟨0,true,[.mid (cc+2)]⟩:=by
 unfold hdH;rw[h_same]
theorem C3n{H:Hp}{r:Ru}{t cc:Nat}{s:Int × Int}{l:List (List UInt8)}(htc:t<cc)(hfr:∀ i,cc<=i->H i=none)(j:Nat)(hj:cc+4<=j):hdH H r t cc s l j=none:=by
 unfold hdH;rw[hnO,hnO,hnO,hnO,hnO];exact hfr j (by omega)
theorem B7k{H:Hp}{r:Ru}{t cc:Nat}{s:Int × Int}{l:List (List UInt8)}(j:Nat)(hj:j<cc)(hjt:j≠t):hdH H r t cc s l j=H j:=by
 unfold hdH;rw[hnO,hnO,hnO,hnO,h_ne hjt]
theorem B4k{H X:Hp}{r:Ru}{t cc:Nat}{s:Int × Int}{l:List (List UInt8)}(htc:t<cc)(hfr:∀ i,cc<=i->H i=none)(ht:X t=some (ckB r s))(h0:X cc=some ⟨0,true,[.ptr t 0]⟩)(h1:X (cc+1)=some ⟨0,true,[F7 r.decls,E4 r.modes]⟩)(h2:X (cc+2)=some (B8g l))(h3:X (cc+3)=some ⟨0,true,[.mid (cc+2)]⟩)
  (ho:∀ j,j<cc->j≠t->X j=H j):Sym.Sub (hdH H r t cc s l) X:=by
 intro j b hj;by_cases hlt:j<cc
 ·by_cases hjt:j=t
  ·subst hjt;rw[B7j htc]at hj;rw[ht];exact hj
  ·rw[B7k j hlt hjt]at hj;rw[ho j hlt hjt];exact hj
 ·have h4:j<cc+4:=A1X fun h=>by rw[C3n htc hfr j h]at hj;cases hj
  have:j=cc\/j=cc+1\/j=cc+2\/j=cc+3:=by omega
  rcases this with rfl|rfl|rfl|rfl
  ·rw[C3q]at hj;rw[h0];exact hj
  ·rw[B7l]at hj;rw[h1];exact hj
  ·rw[C3p]at hj;rw[h2];exact hj
  ·rw[C3o]at hj;rw[h3];exact hj
theorem c_heads32(r:Ru)(hk:Q5 r.decls)(s:Int × Int)(H:Hp)(cc t:Nat)(ht:H t=some (ckB r s))(htc:t<cc)(h1:r.decls.length<=1000000000)(h2:r.modes.length<=1000000000):
  AC Tryz.prog 55 [.ptr t 0,r.v] H cc (fun v H' c'=>v=.tup []/\H'=H.upd t (ckB r (upS s (A8z r)))):=by
 have hrv:r.v=.agg [F7 r.decls,E4 r.modes]:=rfl;rw[hrv];have hkt:∀ i,Q5 (r.decls.take i):=fun i d hd=>hk d (List.mem_of_mem_take hd);refine AC.bodyT A2 rfl (A0A rfl) fun hfr=>?_;have ne0:=A2m t cc (cc+1) (cc+1+1) (cc+1+1+1) (by omega);repeat' (apply wr<;>try simp only[go_sem,seval,B2t,ne0,h_same,A0])
 refine B6 (fun q:Nat × List (List UInt8)=>[(3,.ptr (cc+1) 0),(5,.func 111 [] [.ptr cc 0,.ptr (cc+1+1+1) 0]),(13,F7 r.decls),(14,I64 r.decls.length),(15,I64 q.1)]) (fun q=>hdH H r t cc (upS s (erD [] (r.decls.take q.1))) q.2)
  (fun q c=>cc+4<=c/\q.1<=r.decls.length/\∀ n,q.2.contains n=(r.decls.take q.1).any (fun d=>d.name == n)) (fun q=>r.decls.length-q.1) (0,[]) (by simp[B9,tm,Tm.upd])
  (by
   dsimp only;rw[A0Y,erD,H5];refine B4k htc hfr ?_ ?_ ?_ ?_ h_same ?_
   ·repeat rw[hnO]
    exact ht
   ·repeat rw[hnO]
    exact h_same
   ·repeat rw[hnO]
    exact h_same
   ·rw[hnO];exact h_same
   ·intro j hj hjt
    repeat rw[hnO]) ⟨by omega,A0V _,fun n=>rfl⟩ ?_
 rintro⟨i,l⟩ c ⟨h1c,hki,hsn⟩;dsimp only at hki hsn ⊢;by_cases hlt:i<r.decls.length
 ·have hd:=dtz hlt;have hg:=A0B hlt;have hw:=w64 (n:=(i:Int)+1);have het:=C4c hg;have hnx:=fun n=>A7u (fun d:Dc=>d.name == n) r.decls i _ hg;have hlo:=fun n=>A4g (r.decls.take i) [] n (hkt i);generalize r.decls[i]=d at hg het hnx;have hmo:=c_most32 d.kind;obtain⟨o,ho⟩:∃ o,o=erD [] (r.decls.take i):=⟨_,rfl⟩;have hno:NzE o:=by rw[ho];exact C2k _ _
  rw[<- ho]at het ⊢;have hb0:hdH H r t cc (upS s o) l cc=_:=C3q;have hb1:hdH H r t cc (upS s o) l (cc+1)=_:=B7l;have hb2:hdH H r t cc (upS s o) l (cc+2)=_:=C3p;have hb3:hdH H r t cc (upS s o) l (cc+1+1+1)=_:=C3o;have hbt:hdH H r t cc (upS s o) l t=_:=B7j htc;have hbn:=C3n (s:=upS s o) (l:=l) (r:=r) htc hfr;have hbo:=B7k (H:=H) (cc:=cc) (t:=t) (s:=upS s o) (l:=l) (r:=r);generalize hdH H r t cc (upS s o) l=HH at hb0 hb1 hb2 hb3 hbt hbn hbo ⊢;have ne0:=T8 c t cc (cc+1) (by omega);repeat' ((with_reducible first|apply wr|refine cpc hmo ?_|fail)<;>try simp only[go_sem,seval,hd,hg,A9k,h_same,A0])
  refine⟨by and_intros<;>(rw[hnO];exact hbn _ (by omega)),?_⟩;refine AC.call (c_head1 r (upS s o) l d.name d.pos d.value (A3m d.kind) _ _ t cc (cc+1+1+1) (cc+2) (by rw[hnO];exact hbt) (by rw[hnO];exact hb0) (by rw[hnO];exact hb3) (by rw[hnO];exact hb2) (by omega) (by omega) (by omega) (by omega) (by omega) (by omega) (by omega) (by omega) (by omega) (by omega)) ?_;rintro v' H' c2 ⟨rfl,rfl⟩ hc2;have est:((if d.value>A3m d.kind then some (d.pos,5) else none:Er).or (if l.contains d.name=true then some (d.pos,7) else none))=stD (r.decls.take i) d:=by
   unfold stD
   congr 1
   rw[hsn];have:=hlo d.name;cases ha:(r.decls.take i).any (fun x=>x.name == d.name) with
   |true=>rw[ha]at this;rw[if_pos rfl,if_neg (fun h=>by simpa using (this.1 h).1)]
   |false=>rw[ha]at this;rw[if_neg (by decide),if_pos (this.2 ⟨rfl,rfl⟩)]
  rw[est,H4 hno, <- het];simp only[go_sem,seval];repeat' (apply wr<;>try simp only[go_sem,seval,hw])
  refine⟨(i+1,A3l l d.name),by simp[],?_,inv ⟨by omega,by omega,fun n=>?_⟩,by simp only;omega⟩
  ·refine B4k htc hfr ?_ ?_ ?_ h_same ?_ ?_
   ·rw[hnO,h_same]
   ·repeat rw[hnO]
    exact hb0
   ·repeat rw[hnO]
    exact hb1
   ·repeat rw[hnO]
    exact hb3
   ·intro j hj hjt;rw[hnO,h_ne hjt,hnO];exact hbo j hj hjt
  ·simp only;rw[B0k,hsn,hnx]
   congr 1
   rw[A2C];simp;exact eq_comm
 have hd:=dfz hlt;rw[A0U (by omega)]at hsn ⊢;have hb1:hdH H r t cc (upS s (erD [] r.decls)) l (cc+1)=_:=B7l;repeat' (apply wr<;>try simp only[go_sem,seval,hd,hb1])
 clear hd hlt hki i hb1;have hrp:A8z r=(erD [] r.decls).or (erP r.decls [] r.modes):=rfl;rw[hrp, <- H4 (C2k _ _)];obtain⟨s1,hs1⟩:∃ s1,s1=upS s (erD [] r.decls):=⟨_,rfl⟩;rw[<- hs1];refine B6 (fun q:Nat × List (List UInt8)=>[(5,.func 111 [] [.ptr cc 0,.ptr (cc+1+1+1) 0]),(32,E4 r.modes),(33,I64 r.modes.length),(34,I64 q.1)]) (fun q=>hdH H r t cc (upS s1 (erP r.decls [] (r.modes.take q.1))) q.2)
  (fun q c=>cc+4<=c/\q.1<=r.modes.length/\∀ n,q.2.contains n=(r.decls.any (fun d=>d.name == n) || (r.modes.take q.1).any (fun d=>d.name == n))) (fun q=>r.modes.length-q.1) (0,l) (by simp[B9,tm,Tm.upd])
  (by
   dsimp only;rw[A0Y,erP,H5];exact Sub.refl _) ⟨h1c,A0V _,fun n=>by rw[hsn];simp⟩ ?_
 clear hsn h1c c l hs1;rintro⟨i,l⟩ c ⟨h1c,hki,hsn⟩;dsimp only at hki hsn ⊢;by_cases hlt:i<r.modes.length
 ·have hd:=dtz hlt;have hg:=A0B hlt;have hw:=w64 (n:=(i:Int)+1);have het:=C4a (D:=r.decls) hg;have hnx:=fun n=>A7u (fun d:Md=>d.name == n) r.modes i _ hg;have hlo:=fun n=>A4g r.decls (r.modes.take i) n hk;generalize r.modes[i]=d at hg het hnx;obtain⟨o,ho⟩:∃ o,o=erP r.decls [] (r.modes.take i):=⟨_,rfl⟩;have hno:NzE o:=by rw[ho];exact C6t _ _ _
  rw[<- ho]at het ⊢;have hb0:hdH H r t cc (upS s1 o) l cc=_:=C3q;have hb1:hdH H r t cc (upS s1 o) l (cc+1)=_:=B7l;have hb2:hdH H r t cc (upS s1 o) l (cc+2)=_:=C3p;have hb3:hdH H r t cc (upS s1 o) l (cc+1+1+1)=_:=C3o;have hbt:hdH H r t cc (upS s1 o) l t=_:=B7j htc;have hbn:=C3n (s:=upS s1 o) (l:=l) (r:=r) htc hfr;have hbo:=B7k (H:=H) (cc:=cc) (t:=t) (s:=upS s1 o) (l:=l) (r:=r);generalize hdH H r t cc (upS s1 o) l=HH at hb0 hb1 hb2 hb3 hbt hbn hbo ⊢;have ne0:=T8 c t cc (cc+1) (by omega);repeat' (apply wr<;>try simp only[go_sem,seval,hd,hg,C2v,h_same,A0])
  refine AC.call (c_head1 r (upS s1 o) l d.name d.pos d.prio 99 _ _ t cc (cc+1+1+1) (cc+2) (by rw[hnO];exact hbt) (by rw[hnO];exact hb0) (by rw[hnO];exact hb3) (by rw[hnO];exact hb2) (by omega) (by omega) (by omega) (by omega) (by omega) (by omega) (by omega) (by omega) (by omega) (by omega)) ?_;rintro v' H' c2 ⟨rfl,rfl⟩ hc2;have est:((if d.prio>99 then some (d.pos,5) else none:Er).or (if l.contains d.name=true then some (d.pos,7) else none))=stP r.decls (r.modes.take i) d:=by
   unfold stP
   congr 1
   rw[hsn];have:=hlo d.name;cases ha:r.decls.any (fun x=>x.name == d.name) with
   |true=>rw[ha]at this;rw[Bool.true_or,if_pos rfl,if_neg (fun h=>by simpa using (this.1 h).1)]
   |false =>
    rw[ha]at this;cases ha2:(r.modes.take i).any (fun x=>x.name == d.name) with
    |true=>rw[ha2]at this;rw[Bool.false_or,if_pos rfl,if_neg (fun h=>by simpa using (this.1 h).2)]
    |false=>rw[ha2]at this;rw[Bool.false_or,if_neg (by decide),if_pos (this.2 ⟨rfl,rfl⟩)]
  rw[est,H4 hno, <- het];simp only[go_sem,seval];repeat' (apply wr<;>try simp only[go_sem,seval,hw])
  refine⟨(i+1,A3l l d.name),by simp[],?_,inv ⟨by omega,by omega,fun n=>?_⟩,by simp only;omega⟩
  ·refine B4k htc hfr ?_ ?_ ?_ h_same ?_ ?_
   ·rw[hnO,h_same]
   ·repeat rw[hnO]
    exact hb0
   ·repeat rw[hnO]
    exact hb1
   ·repeat rw[hnO]
    exact hb3
   ·intro j hj hjt;rw[hnO,h_ne hjt,hnO];exact hbo j hj hjt
  ·simp only;rw[B0k,hsn,hnx,Bool.or_assoc]
   congr 2
   rw[A2C];simp;exact eq_comm
 have hd:=dfz hlt;rw[A0U (by omega)];repeat' (apply wr<;>try simp only[go_sem,seval,hd])
 refine⟨_,_,GL.less' (fun j b hj=>?_),rfl,rfl⟩;by_cases e:j=t
 ·subst e;rw[h_same]at hj;rw[B7j htc];exact hj
 ·rw[h_ne e]at hj;have:j<cc:=A1X fun h=>by rw[hfr _ h]at hj;cases hj
  rw[B7k j this e];exact hj
theorem c_chk1(x h:Hd):PC Tryz.prog 59 [x.v,.fptr [I64 h.trig,.str h.name,D2 h.body,I64 h.pos]] (.bool (x.trig == h.trig && x.name == h.name)):=by
 rw[C9s];refine PC.go A2 ?_;cases h1:(x.trig == h.trig) with
 |false =>
  repeat' (apply wr<;>try simp only[go_sem,seval,h1])
  exact A1 rfl
 |true =>
  cases h2:(x.name == h.name) with
  |false =>
   repeat' (apply wr<;>try simp only[go_sem,seval,h1,h2])
   exact A1 rfl
  |true =>
   repeat' (apply wr<;>try simp only[go_sem,seval,h1,h2])
   exact A1 rfl
theorem c_Check32(r:Ru)(hB:r.sz<4000000):PC Tryz.prog 25 [r.v] (C4q r):=by
 have hv:=c_Valid r (by omega);have hdl:=C9c r;have hml:=C9b r;have hnm:=c_names r (by omega) (by omega);have hch:C4q r=if L1 r=true then erV (A3q r) else .tup [I64 0,I64 1]:=rfl
 refine PC.ofT A2 rfl (A0A rfl) (by simp[DV.nlL,DV.nl,S7,S6]) (C8i _) ?_;have hrv:r.v=.agg [F7 r.decls,E4 r.modes]:=rfl;cases hvd:L1 r with
 |false =>
  rw[hvd]at hv hch;rw[hch];rw[hrv]at hv ⊢;repeat' ((with_reducible first|apply wr|refine cpc hv ?_|fail)<;>try simp only[go_sem,seval])
  exact A1 rfl
 |true =>
 have hk:=B3b hvd;have hbv:=@C0g _ r hvd;have hms:∀ m∈r.modes,m.sz<=r.sz:=fun m h=>D5t h;rw[hvd]at hv hch;rw[if_pos rfl]at hch;rw[hch,D4a];unfold A3q;rw[<- H4 (D2j r)];have hhd:=fun H cc t ht htc=>c_heads32 r hk (0,0) H cc t ht htc (by omega) (by omega);obtain⟨K,V,hKV⟩:∃ K V,nmV r=.mp .s K V:=⟨_,_,rfl⟩;have hck:∀ s:Int × Int,(⟨0,true,[.mp .s K V,I64 s.1,I64 s.2]⟩:Blk)=ckB r s:=fun s=>by unfold ckB;rw[hKV]
 rw[hKV]at hnm;rw[hrv]at hv hnm hhd ⊢;repeat' ((with_reducible first|apply wr|refine cpc hv ?_|refine cpc hnm ?_|fail)<;>try simp only[go_sem,seval])
 refine AC.call (hhd _ _ 1 (by rw[h_same];exact congrArg some (hck (0,0))) (by omega)) ?_;rintro v' H' c' ⟨rfl,rfl⟩ hcc;rw[A0];obtain⟨s0,hs0⟩:∃ s0,s0=upS (0,0) (A8z r):=⟨_,rfl⟩;rw[<- hs0];have hb0:∀ b,((Sym.nil.upd 0 ⟨0,true,[F7 r.decls,E4 r.modes]⟩).upd 1 b) 0=some ⟨0,true,[F7 r.decls,E4 r.modes]⟩:=fun b=>rfl;simp only[go_sem,seval];repeat' (apply wr<;>try simp only[go_sem,seval,hb0])
 have hG0:∀ j,1<=j->(Sym.nil.upd 0 ⟨0,true,[F7 r.decls,E4 r.modes]⟩) j=none:=fun j hj=>by rw[hnO];rfl
 generalize Sym.nil.upd 0 ⟨0,true,[F7 r.decls,E4 r.modes]⟩=G0 at hG0 ⊢;clear hb0 hs0 hhd;refine B6 (fun i:Nat=>[(4,.ptr 1 0),(20,E4 r.modes),(21,I64 r.modes.length),(22,I64 i)]) (fun i=>G0.upd 1 (ckB r (upS s0 (erM r (r.modes.take i))))) (fun i c=>2<=c/\i<=r.modes.length) (fun i=>r.modes.length-i) 0 (by simp[B9,tm,Tm.upd]) (by rw[A0Y,erM,H5];exact Sub.refl _) ⟨by omega,A0V _⟩ ?_;rintro i c ⟨h1c,hki⟩;by_cases hlt:i<r.modes.length
 ·have hd:=dtz hlt;have hg:=A0B hlt;have hw:=w64 (n:=(i:Int)+1);have hms:=hms _ (A0S hlt);have hbv:=hbv _ (A0S hlt);have het:=B1y (r:=r) hg;generalize r.modes[i]=d at hg hms hbv het;have hhl:=D5u d;obtain⟨s1,hs1⟩:∃ s1,s1=upS s0 (erM r (r.modes.take i)):=⟨_,rfl⟩;rw[<- hs1];have hfin:upS s0 (erM r (r.modes.take (i+1)))=upS s1 (erH r [] d.hds):=by rw[het, <- H4 (D2k _ _), <- hs1]
  have ne0:=X4 1 c (by omega);repeat' (apply wr<;>try simp only[go_sem,seval,hd,hg,C2v,h_same,A0])
  obtain⟨G,hG⟩:∃ G,G=G0.upd c ⟨0,true,[.str d.name,I64 d.prio,N8 d.hds,I64 d.pos]⟩:=⟨_,rfl⟩;have hGc:∀ b,(G.upd 1 b) c=some ⟨0,true,[.str d.name,I64 d.prio,N8 d.hds,I64 d.pos]⟩:=fun b=>by rw[hnO,hG,h_same]
  have hGn:∀ j,c+1<=j->G j=none:=fun j hj=>by rw[hG,hnO];exact hG0 j (by omega)
  rw[A8a (by omega), <- hG];refine B6 (fun j:Nat=>[(4,.ptr 1 0),(6,.ptr c 0),(20,E4 r.modes),(21,I64 r.modes.length),(22,I64 i),(27,N8 d.hds),(28,I64 d.hds.length),(29,I64 j)]) (fun j=>G.upd 1 (ckB r (upS s1 (erH r [] (d.hds.take j))))) (fun j c2=>c+1<=c2/\j<=d.hds.length) (fun j=>d.hds.length-j) 0 (by simp[B9,tm,Tm.upd]) (by rw[A0Y,erH,H5];exact Sub.refl _) ⟨by omega,A0V _⟩ ?_;rintro j c2 ⟨h2c,hkj⟩;by_cases hlt2:j<d.hds.length
  ·have hd2:=dtz hlt2;have hg2:=A0B hlt2;have hw2:=w64 (n:=(j:Int)+1);have hxs:=D5v (A0S hlt2);have hbv:=hbv _ (A0S hlt2);have heH:=C4b (r:=r) hg2;generalize d.hds[j]=x at hg2 hxs hbv heH;have hxe:x.sz=1+x.name.length+Pb.St.szs x.body:=rfl;have hbl:=c_blk32 r hk _ x.body 1 (A1I _) (by omega) hbv;have hik:=c_inH32 x.trig;have hcf:=c_CF_hd (f:=59) (a:=[]) (cs:=[.fptr [I64 x.trig,.str x.name,D2 x.body,I64 x.pos]]) (g:=fun y=>y.trig == x.trig && y.name == x.name) (d.hds.take j) (by rw[A1D];omega) rfl (by simp[DV.nlL,DV.nl,A1n]) (fun y _=>c_chk1 y x);obtain⟨o,ho⟩:∃ o,o=erH r [] (d.hds.take j):=⟨_,rfl⟩;have hno:NzE o:=by rw[ho];exact D2l _ _ _
   rw[<- ho]at heH ⊢;have hsl:=fun H=>D1l (xs:=d.hds.map Hd.v) (h:=j) (sz:=4) (by rw[A0J];omega) (A4h _) H;rw[<- List.map_take]at hsl;have ne0:=U6 1 c c2 (by omega);repeat' ((with_reducible first|apply wr|refine cpc hik ?_|fail)<;>try simp only[go_sem,seval,hd2,hg2,C9s,h_same,A0])
   obtain⟨G2,hG2⟩:∃ G2,G2=G.upd c2 ⟨0,true,[I64 x.trig,.str x.name,D2 x.body,I64 x.pos]⟩:=⟨_,rfl⟩;have h2c2:∀ b,(G2.upd 1 b) c2=some ⟨0,true,[I64 x.trig,.str x.name,D2 x.body,I64 x.pos]⟩:=fun b=>by rw[hnO,hG2,h_same]
   have h2c:∀ b,(G2.upd 1 b) c=some ⟨0,true,[.str d.name,I64 d.prio,N8 d.hds,I64 d.pos]⟩:=fun b=>by rw[hnO,hG2,hnO,hG,h_same]
   have h2n:∀ j,c2+1<=j->G2 j=none:=fun j hj=>by rw[hG2,hnO];exact hGn j (by omega)
   rw[A8a (by omega), <- hG2];refine⟨by and_intros<;>(rw[hnO];exact h2n _ (by omega)),?_⟩;refine AC.call (c_den32 r hk (upS s1 o) _ _ 1 h_same (by omega) x.name (kdH x.trig) x.pos) ?_;rintro v' H' c3 ⟨rfl,rfl⟩ hc3;rw[A0,H4 hno];obtain⟨o2,ho2⟩:∃ o2,o2=o.or (dnE r x.name (kdH x.trig) x.pos):=⟨_,rfl⟩;have hno2:NzE o2:=by rw[ho2];exact hno.or (A7d _ _ _ _)
   have heH2:erH r [] (d.hds.take (j+1))=(o2.or (if (d.hds.take j).any (fun y=>y.trig == x.trig && y.name == x.name)=true then some (x.pos,7) else none)).or (erB r x.body):=by
    rw[heH,ho2];unfold stH;simp only[A2G]
   rw[<- ho2];simp only[go_sem,seval];generalize (d.hds.take j).any (fun y=>y.trig == x.trig && y.name == x.name)=bq at hcf heH2;have kE:∀ (s2:Int × Int) (c4:Nat),c2+1<=c4->upS s1 (erH r [] (d.hds.take (j+1)))=upS s2 (erB r x.body)->IW Tryz.prog 67 (pz Tryz.prog 25 (.o (.o (.i (.o (.i .h)))))) ⟨tm [(4,.ptr 1 0),(6,.ptr c 0),(8,.ptr c2 0),(20,E4 r.modes),(21,I64 r.modes.length),(22,I64 i),(27,N8 d.hds),(28,I64 d.hds.length),(29,I64 j)],G2.upd 1 (ckB r s2),c4⟩ (bk 3
      (sq Tryz.prog 67 (pz Tryz.prog 25 (.i (.o (.i (.o (.i .h))))))
       (lp (fun j:Nat=>[(4,DV.ptr 1 0),(6,DV.ptr c 0),(20,E4 r.modes),(21,I64 r.modes.length),(22,I64 i),(27,N8 d.hds),(28,I64 d.hds.length),(29,I64 j)])
        (fun j:Nat=>G.upd 1 (ckB r (upS s1 (erH r [] (d.hds.take j)))))
        (fun j c2=>c+1<=c2/\j<=d.hds.length) (fun j=>d.hds.length-j) (d.hds.length-j)
        (bk 2
         (bk 1
          (sq Tryz.prog 67 (pz Tryz.prog 25 (.o (.i (.i (.o (.i .h))))))
           (lp (fun i:Nat=>[(4,DV.ptr 1 0),(20,E4 r.modes),(21,I64 r.modes.length),(22,I64 i)])
            (fun i:Nat=>G0.upd 1 (ckB r (upS s0 (erM r (r.modes.take i)))))
            (fun i c=>2<=c/\i<=r.modes.length) (fun i=>r.modes.length-i) (r.modes.length-i)
            (bk 0
             (sq Tryz.prog 67 (pz Tryz.prog 25 (.i (.i (.i (.o (.i .h))))))
              (rt [Eng.RV.tmp 2,Eng.RV.tmp 3] fun v H' x =>
               ∃ H2,GL H' [v] H2 [DV.tup [I64 (upS s0 (erM r r.modes)).1,I64 (upS s0 (erM r r.modes)).2]])))))))))):=by
    intro s2 c4 hc4 hs2;repeat' (apply wr<;>try simp only[go_sem,seval,h2c2])
    refine AC.call (hbl s2 _ _ 1 h_same (by omega)) ?_;rintro v' H' c5 ⟨rfl,rfl⟩ hc5;rw[A0, <- hs2];simp only[go_sem,seval];repeat' (apply wr<;>try simp only[go_sem,seval,hw2])
    refine⟨j+1,by simp,?_,inv ⟨by omega,by omega⟩,by omega⟩;rw[hG2];exact A8f (fun j hj=>hGn j (by omega)) (by omega)
   cases bq with
   |true =>
    rw[if_pos rfl]at heH2;repeat' ((first|(with_reducible first|refine wr ?_)|(with_reducible refine wb2 ?_ ?_<;>(intro hb;try simp only[hb]))|(refine AC.call (hcf.lend rfl (GL.one (id:=c2) (b:=⟨0,true,[I64 x.trig,.str x.name,D2 x.body,I64 x.pos]⟩) (h2c2 _) rfl (.cons _ _ _ _ (.same _) (.cons _ _ _ _ (.func _ _ _ _ _ .nil (.cons _ _ _ _ (.ptr 0 _ (A0V _) rfl) .nil)) .nil)))) ?_<;>rintro v' H' c' ⟨rfl,rfl,rfl⟩ hcc)|fail)<;>try simp only[go_sem,seval,h2c2,h2c,hsl])
    refine AC.call (c_fail32 r (upS s1 o2) _ _ 1 h_same (by omega) x.pos 7) ?_;rintro v' H' c5 ⟨rfl,rfl⟩ hc5;rw[A0,H4 hno2];simp only[go_sem,seval];repeat' ((with_reducible first|refine F6 (p:=IW _ _ (pz Tryz.prog 25 (.o (.o (.i (.o (.i .h)))))) _ _) ?_|refine wr ?_|fail)<;>try simp only[go_sem,seval])
    refine IW.stage (by simp[B9,tm,Tm.upd]) (kE _ _ (by omega) ?_);rw[heH2,H4 (hno2.or (fun a b h=>by cases h;decide))]
   |false =>
    rw[if_neg (by decide),A2Q]at heH2;repeat' ((first|(with_reducible first|refine F6 (p:=IW _ _ (pz Tryz.prog 25 (.o (.o (.i (.o (.i .h)))))) _ _) ?_|refine wr ?_)|(with_reducible refine wb2 ?_ ?_<;>(intro hb;try simp only[hb]))|(refine AC.call (hcf.lend rfl (GL.one (id:=c2) (b:=⟨0,true,[I64 x.trig,.str x.name,D2 x.body,I64 x.pos]⟩) (h2c2 _) rfl (.cons _ _ _ _ (.same _) (.cons _ _ _ _ (.func _ _ _ _ _ .nil (.cons _ _ _ _ (.ptr 0 _ (A0V _) rfl) .nil)) .nil)))) ?_<;>rintro v' H' c' ⟨rfl,rfl,rfl⟩ hcc)|fail)<;>try simp only[go_sem,seval,h2c,hsl])
    refine IW.stage (by simp[B9,tm,Tm.upd]) (kE _ _ (by omega) ?_);rw[heH2,H4 hno2]
  have hd2:=dfz hlt2;rw[A0U (by omega)];repeat' (apply wr<;>try simp only[go_sem,seval,hd2,hw])
  refine⟨i+1,by simp,?_,inv ⟨by omega,by omega⟩,by omega⟩;rw[hfin,hG];exact A8f (fun j hj=>hG0 j (by omega)) (by omega)
 have hd:=dfz hlt;rw[A0U (by omega)];have hb1:(G0.upd 1 (ckB r (upS s0 (erM r r.modes)))) 1=some (ckB r (upS s0 (erM r r.modes))):=h_same;have hcs:=(hck (upS s0 (erM r r.modes))).symm;have hbn:∀ j,c<=j->(G0.upd 1 (ckB r (upS s0 (erM r r.modes)))) j=none:=fun j hj=>by rw[hnO];exact hG0 j (by omega)
 rw[hcs]at hb1 hbn ⊢;repeat' (apply wr<;>try simp only[go_sem,seval,hd,hb1])
 refine⟨by and_intros<;>exact hG0 _ (by omega),?_⟩;repeat' (apply wr<;>try simp only[go_sem,seval])
 exact A1 rfl
theorem C8g(q:Prg × Int × Int):(B4u q).nl=true:=by
 simp[B4u,Prg.v,Prg.cs,DV.nlL,DV.nl,A5d,L8,A5e,B1h]
abbrev cd0:List DV:=[.snil,.snil,.snil,.snil,.snil,I64 0,I64 0]
theorem D0j{ρ : Ren}{v:Value}{p c:Int}(h:VRel ρ (.tup [.agg cd0,I64 p,I64 c]) v):VRel ρ (B4u (C0b,p,c)) v:=by
 obtain⟨bb,rfl,k1,k2⟩:=h.tup_inv;refine .tup _ _ k1 fun j x y hx hy=>?_
 match j with
 |0 =>
  cases hx;have h0:=k2 0 (.agg cd0) y rfl hy;obtain⟨b2,rfl,m1,m2⟩:=h0.agg_inv;refine .agg _ _ m1 fun j x y hx hy=>?_
  match j with
  |0=>cases hx;exact (m2 0 _ y rfl hy).snil_lst
  |1=>cases hx;exact (m2 1 _ y rfl hy).snil_lst
  |2=>cases hx;exact (m2 2 _ y rfl hy).snil_lst
  |3=>cases hx;exact (m2 3 _ y rfl hy).snil_lst
  |4=>cases hx;exact (m2 4 _ y rfl hy).snil_lst
  |5=>cases hx;exact m2 5 _ y rfl hy
  |6=>cases hx;exact m2 6 _ y rfl hy
  |_+7=>cases hx
 |1=>cases hx;exact k2 1 _ y rfl hy
 |2=>cases hx;exact k2 2 _ y rfl hy
 |_+3=>cases hx
theorem A4b{H:Hp}{p c:Int}:∃ H2,GL H [.tup [.agg cd0,I64 p,I64 c]] H2 [B4u (C0b,p,c)] :=
 ⟨H,GL.view fun ρ vs hA=>arel_one (fun v h=>D0j h) vs hA⟩
theorem C7w{X0:Hp}{a b eo:Option Nat}{x:Cg}{E:List Ent}{p v m:DV}{t n:Int}{c:Nat}{ds:List DV}(h:GN (optH X0 eo ⟨4,true,cellsL (E.map Ent.v)⟩) 2 a b x c)(he:∀ i,eo=some i->3<=i)(hn:eo=none->E=[])
  (hp:p.one=true) (hv:v.one=true) (hm:m.one=true) :
  ∃ Y,GL (GM (optH X0 eo ⟨4,true,cellsL (E.map Ent.v)⟩) 2 a b (mkP (todoV eo E.length) p v m t n) x) ds Y ds/\Y 2=some ⟨0,true,[R3 x.1,strs x.2,B2g E,p,v,I64 t,I64 n,m]⟩/\∀ j B,j≠2->X0 j=some B->(∀ i,eo=some i->i≠j)->Y j=some B:=by
 have o1:∀ (o:Option Nat) (n:Nat),(todoV o n).one=true:=fun o n=>by cases o<;>rfl
 have heX:∀ i,eo=some i->(optH X0 eo ⟨4,true,cellsL (E.map Ent.v)⟩) i=some ⟨4,true,cellsL (E.map Ent.v)⟩:=fun i hi=>by subst hi;exact h_same
 have g1:=A9d (H:=GM (optH X0 eo ⟨4,true,cellsL (E.map Ent.v)⟩) 2 a b (mkP (todoV eo E.length) p v m t n) x) (k:=2) (o:=a) (n:=x.1.length) (u:=2) (u':=2) (pre:=[]) (suf:=[todoV b x.2.length,todoV eo E.length,p,v,I64 t,I64 n,m]) (xs:=x.1.map Ins.v) (ds:=ds)
  (A6u h) (fun i hi=>⟨B5j h hi,(h.ha i hi).1⟩) (fun e=>by rw[h.an e];rfl) (fun d hd=>by simp at hd;rcases hd with rfl|rfl|rfl|rfl|rfl|rfl|rfl<;>(first|exact o1 _ _|assumption|rfl)) (by simp) (fun y hy=>by obtain⟨z, -,rfl⟩:=A1C.1 hy;rfl)
 obtain⟨Y1,hY1⟩:∃ Y:Hp,Y=(delO (GM (optH X0 eo ⟨4,true,cellsL (E.map Ent.v)⟩) 2 a b (mkP (todoV eo E.length) p v m t n) x) a).upd 2 ⟨0,true,[]++[.lst (x.1.map Ins.v)]++[todoV b x.2.length,todoV eo E.length,p,v,I64 t,I64 n,m]⟩:=⟨_,rfl⟩;rw[<- hY1]at g1;have y1:∀ j,j≠2->(∀ i,a=some i->¬ j=i)->Y1 j=GM (optH X0 eo ⟨4,true,cellsL (E.map Ent.v)⟩) 2 a b (mkP (todoV eo E.length) p v m t n) x j:=fun j h1 h2=>by rw[hY1,h_ne h1,B4 h2]
 have g2:=A9d (H:=Y1) (k:=2) (o:=b) (n:=x.2.length) (u:=1) (u':=1) (pre:=[R3 x.1]) (suf:=[todoV eo E.length,p,v,I64 t,I64 n,m]) (xs:=x.2.map DV.str) (ds:=ds)
  (by rw[hY1,h_same];rfl) (fun i hi=>⟨by rw[y1 i (h.hb i hi).1 (fun j hj e=>h.ne j i hj hi e.symm),B5i hi,A6b],(h.hb i hi).1⟩) (fun e=>by rw[h.bn e];rfl) (fun d hd=>by simp at hd;rcases hd with rfl|rfl|rfl|rfl|rfl|rfl|rfl<;>(first|exact o1 _ _|assumption|rfl)) (by simp) (fun y hy=>by obtain⟨z, -,rfl⟩:=A1C.1 hy;rfl)
 obtain⟨Y2,hY2⟩:∃ Y:Hp,Y=(delO Y1 b).upd 2 ⟨0,true,[R3 x.1]++[.lst (x.2.map DV.str)]++[todoV eo E.length,p,v,I64 t,I64 n,m]⟩:=⟨_,rfl⟩;rw[<- hY2]at g2;have y2:∀ j,j≠2->(∀ i,a=some i->¬ j=i)->(∀ i,b=some i->¬ j=i)->Y2 j=GM (optH X0 eo ⟨4,true,cellsL (E.map Ent.v)⟩) 2 a b (mkP (todoV eo E.length) p v m t n) x j:=fun j h1 h2 h3=>by rw[hY2,h_ne h1,B4 h3,y1 j h1 h2]
 have ab:∀ j B,(optH X0 eo ⟨4,true,cellsL (E.map Ent.v)⟩) j=some B->(∀ i,a=some i->¬ j=i)/\(∀ i,b=some i->¬ j=i):=fun j B hj=>⟨fun i hi e=>(by subst e;have:=(h.ha j hi).2.2;rw[hj]at this;cases this),fun i hi e=>(by subst e;have:=(h.hb j hi).2.2;rw[hj]at this;cases this)⟩;have ob:∀ j B,j≠2->(optH X0 eo ⟨4,true,cellsL (E.map Ent.v)⟩) j=some B->Y2 j=some B:=fun j B h1 hj=>by rw[y2 j h1 (ab j B hj).1 (ab j B hj).2,A6m h hj h1]
 have g3:=A9d (H:=Y2) (k:=2) (o:=eo) (n:=E.length) (u:=4) (u':=4) (pre:=[R3 x.1,strs x.2]) (suf:=[p,v,I64 t,I64 n,m]) (xs:=E.map Ent.v) (ds:=ds)
  (by rw[hY2,h_same];rfl) (fun i hi=>⟨ob i _ (by have:=he i hi;omega) (heX i hi),by have:=he i hi;omega⟩) (fun e=>by rw[hn e];rfl) (fun d hd=>by simp at hd;rcases hd with rfl|rfl|rfl|rfl|rfl|rfl|rfl<;>(first|exact o1 _ _|assumption|rfl)) (by simp) (fun y hy=>by obtain⟨z, -,rfl⟩:=A1C.1 hy;rfl)
 refine⟨_,(g1.trans g2).trans g3,by rw[h_same];rfl,fun j B h1 hj hne=>?_⟩;rw[h_ne h1,B4 (fun i hi e=>hne i hi e.symm),ob j B h1 (by rw[B1 (fun i hi e=>hne i hi e.symm),hj])]
theorem c_PCompile(r:Ru)(hB:r.sz<4000000):PC Tryz.prog 8 [r.v] (B4u (C4o r)):=by
 refine PC.ofT A2 rfl (A0A rfl) (by simp[DV.nlL,DV.nl,S7,S6]) (C8g _) ?_;have hck:=c_Check32 r hB;unfold C4q at hck;obtain⟨R,hR⟩:∃ R,R=C4o r:=⟨_,rfl⟩;rw[<- hR];unfold C4o at hR;cases hv:L1 r with
 |false =>
  rw[hv]at hck hR;rw[if_neg A3J]at hck hR;subst hR;obtain⟨D,M⟩:=r;dsimp only[Ru.v]at hck ⊢;repeat' ((with_reducible first|apply wr|refine cpc hck ?_|fail)<;>try simp only[go_sem,seval])
  rw[C7 (v:=.tup [.agg cd0,I64 0,I64 1]) rfl];exact A4b
 |true =>
  rw[hv]at hck hR;rw[if_pos rfl]at hck hR;cases he:A3q r with
  |some q =>
   obtain⟨p,c⟩:=q;rw[he]at hck hR;have hck:PC Tryz.prog 25 [r.v] (.tup [I64 p,I64 c]):=hck;dsimp only at hR;have hnz:(c != 0)=true:=by
    have h:NzE (A3q r):=by unfold A3q A8z;exact ((C2k _ _).or (C6t _ _ _)).or (D2k _ _)
    simpa using h _ _ he
   subst hR;obtain⟨D,M⟩:=r;dsimp only[Ru.v]at hck ⊢;repeat' ((with_reducible first|apply wr|refine cpc hck ?_|fail)<;>try simp only[go_sem,seval,hnz])
   rw[C7 (v:=.tup [.agg cd0,I64 p,I64 c]) rfl];exact A4b
  |none =>
   rw[he]at hck hR;dsimp only at hR;have hC:ChkR r:=⟨hv,he⟩;have hlen:=hC.lens;have hnil:nmR r []=0:=by show (H7 r []).2=0;rw[hC.nil]
   have hnum:=C2m (r:=r) hC.kd;have hbe:=c_begin r (by omega) (by omega);have hms:(r.modes.map fun m=>m.hds.length).sum+r.modes.length<=1000000:=D3r hC;have hal:(D9 [] (hkM (nmR r) 0 r.modes)).length<=1000000:=A0X (C3l hC).1 (by omega);have hrf:=fun s h1 h2=>C2g (s:=s) hC h1 h2;have hpb:=fun s h1=>D5y (s:=s) hC h1;obtain⟨L,hL⟩:∃ L,L=A0p (nmR r) 0 r.modes:=⟨_,rfl⟩;have hsz:∀ p∈L,St.szs p.2.flatten<=4000000:=fun p hp=>by
    rw[hL]at hp;have h1:=B5y r.modes 0 p hp;have h2:r.sz=(r.decls.map Dc.sz).sum+(r.modes.map Md.sz).sum:=rfl;omega
   have hcm:cmC r=⟨(cgL (nmR r) 0 [] L).1,(cgL (nmR r) 0 [] L).2.2,(cgL (nmR r) 0 [] L).2.1,r.modes.map Md.prio,(r.decls.filter fun d=>d.kind=6).map Dc.value,(cnD r.decls 7:Int),(cnD r.decls 8:Int)⟩:=by
    rw[hL];rfl
   have hparts:=fun H c t ht htc=>c_parts (beC r) (mkK (inL (nmL r))) (mvV (inL (nmL r))) (nmR r) hnum rfl r.decls r.modes hms H c t ht htc hal;have hck:PC Tryz.prog 25 [r.v] (.tup [I64 0,I64 0]):=hck;rw[hcm]at hR;dsimp only at hR;obtain⟨V,hV⟩:∃ V,V=(r.decls.filter fun d=>d.kind=6).map Dc.value:=⟨_,rfl⟩;obtain⟨P,hP⟩:∃ P,P=r.modes.map Md.prio:=⟨_,rfl⟩;obtain⟨m7,h7⟩:∃ m7:Int,m7=(cnD r.decls 7:Int):=⟨_,rfl⟩;obtain⟨m8,h8⟩:∃ m8:Int,m8=(cnD r.decls 8:Int):=⟨_,rfl⟩;obtain⟨mp,hmp⟩:∃ mp,mp=DV.mp .s (mkK (inL (nmL r))) (mvV (inL (nmL r))):=⟨_,rfl⟩;have hbeC:beC r=[.snil,.snil,.snil,H8 P,H8 V,I64 m7,I64 m8,mp]:=by rw[hP,hV,h7,h8,hmp]
   rw[<- hV, <- hP, <- h7, <- h8]at hR;have hgb:=fun (e:DV)=>c_gblock e (H8 P) (H8 V) (mkK (inL (nmL r))) (mvV (inL (nmL r))) m7 m8 (nmR r) hnum;have hem:=fun (e:DV)=>c_emit e (H8 P) (H8 V) mp m7 m8 31 0;rw[<- hmp]at hgb;have hmp1:mp.one=true:=by rw[hmp];rfl
   rw[hbeC]at hbe hparts;clear hcm hnum he hv hms hal hV hP h7 h8 hmp hbeC;generalize nmR r=nm at *;clear hnil hlen hC;obtain⟨D,M⟩:=r;dsimp only[Ru.v]at hck hbe hparts hrf hpb hL ⊢;repeat' ((with_reducible first|apply wr|refine cpc hck ?_|fail)<;>try simp only[go_sem,seval])
   refine AC.call (hbe _ _) ?_;rintro _ _ _ ⟨rfl,rfl,rfl⟩ -;simp only[go_sem,seval];repeat' (apply wr<;>try simp only[go_sem,seval,h_same])
   refine AC.call (hparts _ _ _ h_same (by omega)) ?_;rintro _ _ c2 ⟨rfl,l',q1,q2,rfl⟩ hc2;have hPB:=hpb l' q1;obtain rfl:=hrf l' q1 q2;rw[<- hL]at hPB ⊢;simp only[go_sem,seval];repeat' (apply wr<;>try simp only[go_sem,seval])
   obtain⟨X0,hX⟩:∃ X:Hp,X=((nil.upd 0 ⟨0,true,[F7 D,E4 M]⟩).upd 1 ⟨0,true,[.snil,.snil,.snil,.snil,.snil,I64 0,I64 0]⟩):=⟨_,rfl⟩;rw[<- hX];have x1:X0 1=some ⟨0,true,cd0⟩:=by rw[hX,h_same]
   have x2:X0 2=none:=by rw[hX,h_ne (by decide),h_ne (by decide)];rfl
   have xf:∀ j,2<=j->X0 j=none:=fun j hj=>by rw[hX,hnO,hnO];rfl
   clear hX hparts hbe hck q1 q2 hrf hpb;refine B6 (fun q:Nat × Option Nat × Option Nat × Option Nat=>[(2,.ptr 1 0),(7,.ptr 2 0),(26,B8k L),(27,I64 L.length),(28,I64 q.1)])
    (fun q=>GM (optH X0 q.2.2.2 ⟨4,true,cellsL ((cgL nm 0 [] (L.take q.1)).2.1.map Ent.v)⟩) 2 q.2.1 q.2.2.1 (mkP (todoV q.2.2.2 q.1) (H8 P) (H8 V) mp m7 m8) ((cgL nm 0 [] (L.take q.1)).1,(cgL nm 0 [] (L.take q.1)).2.2))
    (fun q cc=>c2<=cc/\q.1<=L.length/\GN (optH X0 q.2.2.2 ⟨4,true,cellsL ((cgL nm 0 [] (L.take q.1)).2.1.map Ent.v)⟩) 2 q.2.1 q.2.2.1 ((cgL nm 0 [] (L.take q.1)).1,(cgL nm 0 [] (L.take q.1)).2.2) cc /\
     (∀ i,q.2.2.2=some i->3<=i/\i<cc)/\(q.2.2.2=none->q.1=0)/\(cgL nm 0 [] (L.take q.1)).1.length<=4000/\(cgL nm 0 [] (L.take q.1)).2.2.length<=200) (fun q=>L.length-q.1) (0,none,none,none)
    (by simp[B9,tm,Tm.upd]) (by simp only[A0Y,cgL];exact Sub.refl _) ⟨A0C _,A0V _,⟨by omega,fun i h=>(by cases h),fun i h=>(by cases h),fun i j h=>(by cases h),fun _=>rfl,fun _=>rfl,fun j hj=>xf j (by omega)⟩,fun i h=>(by cases h),fun _=>rfl,A0V _,A0V _⟩ ?_
   rintro⟨k,a,b,eo⟩ cc ⟨hc,hk,hN0,heo,hen,hl1,hl2⟩;replace hk:k<=L.length:=hk;replace hc:c2<=cc:=hc;replace heo:∀ i,eo=some i->3<=i/\i<cc:=heo;replace hen:eo=none->k=0:=hen;dsimp only at hN0 hl1 hl2 ⊢;obtain⟨x,hx⟩:∃ x:Cg,x=((cgL nm 0 [] (L.take k)).1,(cgL nm 0 [] (L.take k)).2.2):=⟨_,rfl⟩;have hx1:(cgL nm 0 [] (L.take k)).1=x.1:=by rw[hx]
   have hx2:(cgL nm 0 [] (L.take k)).2.2=x.2:=by rw[hx]
   rw[hx1]at hl1;rw[hx2]at hl2;obtain⟨E,hE⟩:∃ E,E=(cgL nm 0 [] (L.take k)).2.1:=⟨_,rfl⟩;have hEl:E.length=k:=by rw[hE,A3g,A1D];omega
   by_cases hlt:k<L.length
   rotate_left
   ·have hd:=dfz hlt;have hkl:k=L.length:=by omega
    rw[<- hx, <- hE]at hN0 ⊢;have hcgx:(if 4000<(cgL nm 0 [] L).1.length\/200<(cgL nm 0 [] L).2.2.length then (C0b,(0:Int),(9:Int)) else (⟨(cgL nm 0 [] L).1,(cgL nm 0 [] L).2.2,(cgL nm 0 [] L).2.1,P,V,m7,m8⟩,0,0))=((⟨x.1,x.2,E,P,V,m7,m8⟩:Prg),(0:Int),(0:Int)):=by
     rw[hkl,A1S]at hx1 hx2 hE;rw[hx1,hx2, <- hE,if_neg (by omega)]
    obtain⟨Y,gY,yb,yo⟩:=C7w (p:=H8 P) (v:=H8 V) (m:=mp) (t:=m7) (n:=m8) (ds:=[.ptr 1 0,.ptr 2 0]) hN0 (fun i hi=>(heo i hi).1) (fun e=>A3K.1 (by rw[hEl,hen e])) rfl rfl hmp1;have ya:=yo 1 _ (by decide) x1 (fun i hi=>by have:=(heo i hi).1;omega);rw[hEl]at gY;repeat' ((with_reducible first|refine F6 (p:=IW _ _ (pz Tryz.prog 8 (.i (.o (.i (.i (.i .h)))))) _ _) ?_|refine wr ?_|fail)<;>try simp only[go_sem,seval,hd])
    refine IW.keep [2,7] [.ptr 1 0,.ptr 2 0] gY ?_;show IW Tryz.prog _ _ ⟨tm [(2,.ptr 1 0),(7,.ptr 2 0)],_,_⟩ _;repeat' (apply wr<;>try simp only[go_sem,seval,ya,yb])
    rw[C7 (v:=B4u (⟨x.1,x.2,E,P,V,m7,m8⟩,0,0)) rfl,hR,hcgx];exact⟨_,GL.refl _ _⟩
   have hd:=dtz hlt;have hg:=A0B hlt;have hw:=w64 (n:=(k:Int)+1) (by have:=hPB.1;omega) (by have:=hPB.1;omega);have hnx:=C4w nm hg;have hszp:=hsz _ (A0S hlt);have hbp:=hPB.2 _ (A0S hlt);generalize L[k]=p at hg hnx hszp hbp;rw[<- hx, <- hE]at hN0 hnx ⊢;rw[hx1]at hnx;have hM:=A6u (mk:=mkP (todoV eo k) (H8 P) (H8 V) mp m7 m8) hN0;have hfr:=fun j (hj:cc<=j)=>C5p (mk:=mkP (todoV eo k) (H8 P) (H8 V) mp m7 m8) hN0 hj;obtain⟨ky,bd⟩:=p;dsimp only at hnx hszp hbp hg;have hgv:(L.map paV)[k]? = some (.agg (pcC ky (A0s bd))):=by rw[A1P,hg];rfl
   have hnc:cc≠2:=by omega
   have hla:=Q7 (o:=a) (n:=x.1.length) (fun e=>S9 (hN0.an e));have hnc':=hnc.symm;repeat' ((with_reducible first|refine F6 (p:=IW _ _ (pz Tryz.prog 8 (.o (.o (.o (.o (.o .h)))))) _ _) ?_|refine wr ?_|fail)<;>try simp only[go_sem,seval,hd,hgv,hM,hla,h_same,A0,hnc'])
   obtain⟨B,hBe⟩:∃ B:Blk,B=⟨0,true,[I64 ky.mode,I64 ky.trig,I64 ky.ix,I64 x.1.length,A0s bd]⟩:=⟨_,rfl⟩;obtain⟨HH,hHH⟩:∃ HH:Hp,HH=(GM (optH X0 eo ⟨4,true,cellsL (E.map Ent.v)⟩) 2 a b (mkP (todoV eo k) (H8 P) (H8 V) mp m7 m8) x).upd cc ⟨0,true,[I64 ky.mode,I64 ky.trig,I64 ky.ix,I64 x.1.length,A0s bd]⟩:=⟨_,rfl⟩;unfold C5o;show IW Tryz.prog _ _ ⟨_,(GM _ 2 a b _ x).upd cc ⟨0,true,[I64 ky.mode,I64 ky.trig,I64 ky.ix,I64 x.1.length,A0s bd]⟩,cc+1⟩ _;rw[<- hHH];have hh2:HH 2=some ⟨0,true,[todoV a x.1.length,todoV b x.2.length,todoV eo k,H8 P,H8 V,I64 m7,I64 m8,mp]⟩:=by rw[hHH,h_ne hnc'];exact hM
   have hhc:HH cc=some ⟨0,true,[I64 ky.mode,I64 ky.trig,I64 ky.ix,I64 x.1.length,A0s bd]⟩:=by rw[hHH,h_same]
   have hhf:∀ j,cc+1<=j->HH j=none:=fun j hj=>by rw[hHH,hnO];exact hfr j (by omega)
   have hhe:∀ i,eo=some i->HH i=some ⟨4,true,cellsL (E.map Ent.v)⟩:=fun i hi=>by
    have:=heo i hi;rw[hHH,hnO];exact A6m hN0 (by subst hi;exact h_same) (by omega)
   have ne0:=U6 2 cc (cc+1) (by omega);repeat' (apply wr<;>try simp only[go_sem,seval,hh2,hhc,h_same])
   refine A1z (E8 (cs:=cellsL (E.map Ent.v)) (fun e=>⟨hen e,by rw[A3K.1 (hEl.trans (hen e))];rfl⟩) (fun i hi=>?_) (by rw[B9l,hEl]) (by omega) (by have:=hPB.1;omega) (by have:=hPB.1;omega)) ?_
   ·have:=heo i hi;rw[hnO];exact hhe i hi
   have dm:∀ X:Hp,delO X eo 2=X 2:=fun X=>B4 (fun i hi e=>by have:=heo i hi;omega);simp only[go_sem,seval,dm,hh2];refine⟨by rw[hnO,B4 (fun i hi e=>by have:=heo i hi;omega),hnO];exact hhf _ (by omega),?_⟩;obtain⟨E',hE'⟩:∃ E',E'=E++[(⟨ky.mode,ky.trig,ky.ix,(x.1.length:Int)⟩:Ent)]:=⟨_,rfl⟩;have hEC:cellsL (E'.map Ent.v)=cellsL (E.map Ent.v)++[I64 ky.mode,I64 ky.trig,I64 ky.ix,I64 x.1.length]:=by rw[hE',A1K,F3];rfl
   obtain⟨i',hi'⟩:∃ i',i'=cc+1+14:=⟨_,rfl⟩;have hEl':E'.length=k+1:=by rw[hE',A0D,hEl];rfl
   have xn:∀ j,2<=j->j≠i'->(optH X0 (some i') ⟨4,true,cellsL (E'.map Ent.v)⟩) j=none:=fun j h1 h2=>by simp only[optH];rw[h_ne h2];exact xf j h1
   have hN1:GN ((optH X0 (some i') ⟨4,true,cellsL (E'.map Ent.v)⟩).upd cc B) 2 a b x (i'+1) :=
    ⟨by omega,fun i hi=>by have h:=hN0.ha i hi;exact⟨h.1,by omega,by rw[hnO];simp only[optH];rw[hnO];have h3:=h.2.2;rcases Nat.lt_or_ge i 2 with h4|h4;(· rw[B1 (fun q hq e=>by have:=heo q hq;omega)]at h3;exact h3);(· exact xf i h4)⟩,
     fun i hi=>by have h:=hN0.hb i hi;exact⟨h.1,by omega,by rw[hnO];simp only[optH];rw[hnO];have h3:=h.2.2;rcases Nat.lt_or_ge i 2 with h4|h4;(· rw[B1 (fun q hq e=>by have:=heo q hq;omega)]at h3;exact h3);(· exact xf i h4)⟩,
     hN0.ne,hN0.an,hN0.bn,fun j hj=>by rw[hnO];exact xn j (by omega) (by omega)⟩
   obtain⟨mk,hmk⟩:∃ mk,mk=mkP (todoV (some i') (k+1)) (H8 P) (H8 V) mp m7 m8:=⟨_,rfl⟩;have gz:∀ ds,GL (((delO (HH.upd (cc+1+8) ⟨4,true,[I64 ky.mode,I64 ky.trig,I64 ky.ix,I64 x.1.length]⟩) eo).upd (cc+1+14) ⟨4,true,cellsL (E.map Ent.v)++[I64 ky.mode,I64 ky.trig,I64 ky.ix,I64 x.1.length]⟩).upd 2 ⟨0,true,[todoV a x.1.length,todoV b x.2.length,.slc (cc+1+14) 0 (k+1),H8 P,H8 V,I64 m7,I64 m8,mp]⟩) ds
     (GM ((optH X0 (some i') ⟨4,true,cellsL (E'.map Ent.v)⟩).upd cc B) 2 a b mk x) ds:=fun ds=>GL.less' (A6l (by rw[h_same,hmk,hi'];rfl)
     (fun i hi=>by
      have h:=hN0.ha i hi;rw[h_ne h.1,hnO,B4 (fun q hq e=>by have h2:=h.2.2;subst e;rw[hq]at h2;simp only[optH]at h2;rw[h_same]at h2;cases h2),hnO,hHH,hnO];exact B5j hN0 hi)
     (fun i hi=>by
      have h:=hN0.hb i hi;rw[h_ne h.1,hnO,B4 (fun q hq e=>by have h2:=h.2.2;subst e;rw[hq]at h2;simp only[optH]at h2;rw[h_same]at h2;cases h2),hnO,hHH,hnO];exact B5i hi)
     (fun j Q hj hQ=>by
      rw[h_ne hj];by_cases e1:j=i'
      ·subst e1;rw[hnO]at hQ;simp only[optH]at hQ;rw[h_same]at hQ;rw[hi',h_same, <- hEC];exact hQ
      rw[hnO];by_cases e2:j=cc
      ·subst e2;rw[h_same]at hQ;rw[B4 (fun q hq e=>by have:=heo q hq;omega),hnO,hhc, <- hBe];exact hQ
      rw[h_ne e2]at hQ;simp only[optH]at hQ;rw[h_ne e1]at hQ;have hj2:j<2:=A1X fun h=>by rw[xf j h]at hQ;cases hQ
      rw[B4 (fun q hq e=>by have:=heo q hq;omega),hnO,hHH,hnO];exact A6m hN0 (by rw[B1 (fun q hq e=>by have:=heo q hq;omega)];exact hQ) (by omega)))
   refine IW.keep [2,7,9,26,27,28] [.ptr 1 0,.ptr 2 0,.ptr cc 0,B8k L,I64 L.length,I64 k] (gz _) ?_;show IW Tryz.prog _ _ ⟨tm [(2,.ptr 1 0),(7,.ptr 2 0),(9,.ptr cc 0),(26,B8k L),(27,I64 L.length),(28,I64 k)],_,_⟩ _;rw[<- hi'];have hcc0:(optH X0 (some i') ⟨4,true,cellsL (E'.map Ent.v)⟩) cc=none:=xn cc (by omega) (by omega);have hcf0:∀ j,i'+1<=j->(optH X0 (some i') ⟨4,true,cellsL (E'.map Ent.v)⟩) j=none:=fun j hj=>xn j (by omega) (by omega);have hx01:(optH X0 (some i') ⟨4,true,cellsL (E'.map Ent.v)⟩) 1=some ⟨0,true,cd0⟩:=by simp only[optH];rw[hnO];exact x1
   have hgb:=hgb (todoV (some i') (k+1));have hem:=hem (todoV (some i') (k+1));rw[<- hmk]at hgb hem;have hNi:∀ a' b' x' c',GN ((optH X0 (some i') ⟨4,true,cellsL (E'.map Ent.v)⟩).upd cc B) 2 a' b' x' c'->GM ((optH X0 (some i') ⟨4,true,cellsL (E'.map Ent.v)⟩).upd cc B) 2 a' b' mk x' cc=some B:=fun a' b' x' c' h=>A6m h h_same hnc;generalize hX1:(optH X0 (some i') ⟨4,true,cellsL (E'.map Ent.v)⟩).upd cc B=X1 at hN1 hNi ⊢;have hB0:GM X1 2 a b mk x cc=some ⟨0,true,[I64 ky.mode,I64 ky.trig,I64 ky.ix,I64 x.1.length,A0s bd]⟩:=by rw[hNi _ _ _ _ hN1,hBe]
   clear gz hN0 hh2 hhc hhf hhe hHH HH hM hfr dm hla;have hxx1:x.1.length<=4000:=hl1;repeat' (apply wr<;>try simp only[go_sem,seval,hB0])
   refine B6 (fun q:Nat × Option Nat × Option Nat=>[(2,.ptr 1 0),(7,.ptr 2 0),(26,B8k L),(27,I64 L.length),(28,I64 k),(54,A0s bd),(55,I64 bd.length),(56,I64 q.1)])
    (fun q=>GM X1 2 q.2.1 q.2.2 mk (I8 nm (bd.take q.1).flatten x))
    (fun q c3=>i'+1<=c3/\q.1<=bd.length/\GN X1 2 q.2.1 q.2.2 (I8 nm (bd.take q.1).flatten x) c3) (fun q=>bd.length-q.1) (0,a,b)
    (by simp[B9,tm,Tm.upd]) (by simp only[A0Y,List.flatten_nil,V3];exact Sub.refl _) ⟨A0C _,A0V _,by simp only[A0Y,List.flatten_nil,V3];exact hN1⟩ ?_
   clear hB0 hN1 a b;rintro⟨j,a,b⟩ c3 ⟨hc3,hj,hN⟩;replace hj:j<=bd.length:=hj;replace hc3:i'+1<=c3:=hc3;dsimp only at hN ⊢;by_cases hltj:j<bd.length
   ·have hdj:=dtz hltj;have hgj:=A0B hltj;have hwj:=w64 (n:=(j:Int)+1);have hfs:=B9h hgj;have hm1:=A8d (A0S hltj);have hm2:=A0t bd j;have hm3:=A0t bd (j+1);have hgjv:(bd.map D2)[j]? = some (D2 bd[j]):=by rw[A1P,hgj];rfl
    generalize bd[j]=y at hgj hfs hm1 hgjv;have hbx:=B7s (nm:=nm) ((bd.take j).flatten++y) x;rw[<- hfs]at hbx;have hcall:=hgb _ y (A1I _) (by omega) (I8 nm (bd.take j).flatten x) (by rw[<- Z5, <- hfs];exact⟨by omega,by omega⟩);rw[<- Z5, <- hfs]at hcall;repeat' (apply wr<;>try simp only[go_sem,seval,hdj,hgjv])
    refine AC.call (hcall _ _ _ _ _ hN) ?_;rintro _ _ c4 ⟨rfl,a2,b2,hN2,rfl⟩ hc4;simp only[go_sem,seval];repeat' (apply wr<;>try simp only[go_sem,seval,hwj])
    exact⟨(j+1,a2,b2),by simp[],Sub.refl _,inv ⟨by omega,hltj,hN2⟩,by simp only;omega⟩
   have hdj:=dfz hltj;have hjb:j=bd.length:=by omega
   subst hjb;rw[A1S]at hN ⊢;have hbx:=B7s (nm:=nm) bd.flatten x;repeat' (apply wr<;>try simp only[go_sem,seval,hdj])
   refine AC.call (hem _ (by omega) _ _ _ _ _ hN) ?_;rintro _ _ c4 ⟨rfl,a2,b2,hN2,rfl⟩ hc4;have hM2:=A6u (mk:=mk) hN2;rw[hmk]at hM2;have hnx1:=hnx.1;have hnx2:=hnx.2;unfold D4t at hnx1;dsimp only at hnx1 hM2 hN2;obtain⟨z,hz⟩:∃ z:Cg,z=((I8 nm bd.flatten x).1++[⟨31,0⟩],(I8 nm bd.flatten x).2):=⟨_,rfl⟩;rw[<- hz]at hnx1 hN2 hM2 ⊢;have hl3:=Q7 (o:=a2) (n:=z.1.length) (fun e=>S9 (hN2.an e));have hl4:=Q7 (o:=b2) (n:=z.2.length) (fun e=>S9 (hN2.bn e));have hz1:(cgL nm 0 [] (L.take (k+1))).1=z.1:=congrArg Prod.fst hnx1;have hz2:(cgL nm 0 [] (L.take (k+1))).2.2=z.2:=congrArg Prod.snd hnx1;have hle:=C4u (nm:=nm) (l:=L) (S:=[]) (k+1);rw[hz1,hz2]at hle;obtain⟨mk2,hmk2⟩:∃ mk2,mk2=mk:=⟨_,rfl⟩;rw[<- hmk]at hM2;have hx11:GM X1 2 a2 b2 mk z 1=some ⟨0,true,cd0⟩:=A6m hN2 (by rw[<- hX1,hnO];exact hx01) (by decide);have hMz:GM X1 2 a2 b2 mk z 2=some ⟨0,true,[todoV a2 z.1.length,todoV b2 z.2.length,todoV (some i') (k+1),H8 P,H8 V,I64 m7,I64 m8,mp]⟩:=by rw[hM2,hmk]
   by_cases d1:4000<z.1.length
   ·have d1':decide ((z.1.length:Int)>4000)=true:=by simp;omega
    have d1'':decide ((z.1.length:Int)<=4000)=false:=by simp;omega
    simp only[go_sem,seval];repeat' (apply wr<;>try simp only[go_sem,seval,hMz,hx11,hl3,d1'])
    rw[hR,if_pos (by omega),C7 (v:=.tup [.agg cd0,I64 0,I64 9]) rfl];exact A4b
   have d1':decide ((z.1.length:Int)>4000)=false:=by simp;omega
   by_cases d2:200<z.2.length
   ·have d2':decide ((z.2.length:Int)>200)=true:=by simp;omega
    simp only[go_sem,seval];repeat' (apply wr<;>try simp only[go_sem,seval,hMz,hx11,hl3,hl4,d1',d2'])
    rw[hR,if_pos (by omega),C7 (v:=.tup [.agg cd0,I64 0,I64 9]) rfl];exact A4b
   have d2':decide ((z.2.length:Int)>200)=false:=by simp;omega
   simp only[go_sem,seval];repeat' (apply wr<;>try simp only[go_sem,seval,hMz,hl3,hl4,d1',d2',hw])
   refine⟨(k+1,a2,b2,some i'),by simp[],?_,inv ⟨by omega,hlt,?_,fun i hi=>(by cases hi;exact⟨by omega,by omega⟩),fun e=>(by cases e),?_,?_⟩,by simp only;omega⟩
   ·dsimp only;rw[hnx1,hnx2, <- hE', <- hmk];rw[<- hX1]at hN2 ⊢;exact Q6 hcc0 hnc hN2
   ·dsimp only;rw[hnx1,hnx2, <- hE'];rw[<- hX1]at hN2;exact hN2.unbox hcc0 (by omega) hcf0
   ·dsimp only;rw[hz1];omega
   ·dsimp only;rw[hz2];omega
def D5b(f:Nat)(a:List DV):Option DV :=
 if f == 178 then match a with
  |[.str s]=>if s == C0d then some (.lst (C9.map DV.str)) else none
  |_=>none
 else if f == 232 then match a with
  |[.str s,.int .u8 z]=>if ((UInt8.ofNat z.toNat).toNat:Int) == z then some (I64 (Lib.indexByte s (UInt8.ofNat z.toNat))) else none
  |_=>none
 else if f == 231 then match a with
  |[.str s,.int .i64 x,.int .i64 y]=>if x == 10 && y == 64 && s != [] && Nat.ble s.length 100 && s.all dgB && Nat.ble (L7 s) 9223372036854775807 then some (.tup [I64 (L7 s),.inil]) else none
  |_=>none
 else none
theorem C8r:D5j Tryz.prog D5b:=by
 intro f a r h;unfold D5b at h;split at h
 ·rename_i e;obtain rfl:=eq_of_beq e;split at h
  ·split at h
   ·rename_i e;obtain rfl:=eq_of_beq e;cases h;exact c_Fields
   ·cases h
  ·cases h
 ·split at h
  ·rename_i e;obtain rfl:=eq_of_beq e;split at h
   ·split at h
    ·rename_i s z e;cases h;have:=c_IndexByte s (UInt8.ofNat z.toNat)
     rwa [eq_of_beq e]at this
    ·cases h
   ·cases h
  ·split at h
   ·rename_i e;obtain rfl:=eq_of_beq e;split at h
    ·split at h
     ·rename_i s x y e;simp only[A0E,A1R,bne_iff_ne,ne_eq,A0Q]at e;obtain⟨⟨⟨⟨⟨e1,e2⟩,e3⟩,e4⟩,e5⟩,e6⟩:=e;cases h;subst e1 e2;exact c_ParseOk s (A0X (A0A e4) (by decide)) e5 e3 (A0A e6)
     ·cases h
    ·cases h
   ·cases h
theorem c_sane34:PC Tryz.prog 12 [] (.bool true):=PC.run A2 D5b C8r 3000 60 _ _ _ rfl rfl (by kernel_rfl)
theorem c_SameI(a b:List Ins)(n1:a.length<=9223372036854775807):PC Tryz.prog 18 [R3 a,R3 b] (.bool (decide (a=b))):=by
 refine PC.go A2 ?_;by_cases hl:a.length=b.length
 case neg =>
  have hne:((a.length:Int) != (b.length:Int))=true:=by simp;omega
  repeat' (apply wr<;>try simp only[go_sem,seval,A0J,hne])
  rw[decide_eq_false (fun e=>hl (by rw[e]))];exact A1 rfl
 have hne:((a.length:Int) != (b.length:Int))=false:=by simp;omega
 repeat' (apply wr<;>try simp only[go_sem,seval,A0J,hne])
 refine B6 (fun k:Nat=>[(0,.lst (a.map Ins.v)),(1,.lst (b.map Ins.v)),(5,I64 k)]) (fun _=>nil) (fun k cc=>k<=a.length/\a.take k=b.take k) (fun k=>a.length-k) 0 (by simp[B9,tm,Tm.upd]) (Sub.nil _) (by simp) ?_;rintro k cc ⟨hk,he⟩;by_cases hlt:k<a.length
 ·have hd:=dtz hlt;have hlt2:k<b.length:=by omega
  have hg:=A0B hlt;have hg2:=A0B hlt2;have hw:=w64 (n:=(k:Int)+1);repeat' ((with_reducible first|refine wr ?_|refine wb2 ?_ ?_<;>(intro hb;try simp only[hb])|fail)<;>try simp only[go_sem,seval,A0J,hd,hg,hg2,hw,E2j])
  all_goals first
   |(refine⟨k+1,rfl,Sub.nil _,inv ⟨hlt,(B9k hg hg2 he).2 ?_⟩,by omega⟩;simpa[C3d] using hb)
   |(rw[decide_eq_false (C8a hg hg2 ?_)];exact A1 rfl;simpa[C3d] using hb)
 have hd:=dfz hlt;repeat' (apply wr<;>try simp only[go_sem,seval,A0J,hd])
 rw[decide_eq_true (C8b hl (by omega) he)];exact A1 rfl
theorem c_TypeOf32(r:Ru)(e:Ex)(hB:r.sz<4000000)(hE:e.sz<4000000):PC Tryz.prog 43 [r.v,e.v] (C0n r e):=by
 have hv:=c_Valid r (by omega);have hve:=c_ValidExpr e (by omega);have hdl:=C9c r;have hml:=C9b r;have hnm:=c_names r (by omega) (by omega);refine PC.ofT A2 rfl (A0A rfl) (by simp[DV.nlL,DV.nl,S7,S6,Ex.nl]) (C5t _ _) ?_;have hrv:r.v=.agg [F7 r.decls,E4 r.modes]:=rfl;unfold C0n;cases hvd:L1 r with
 |false =>
  rw[hvd]at hv;rw[hrv]at hv ⊢;rw[Ex.v_w]at hve ⊢;repeat' ((with_reducible first|refine wr ?_|refine cpc hv ?_|refine cpc hve ?_|refine k_cu ?_ ?_|refine wb2 ?_ ?_<;>(intro hb;try simp only[hb])|fail)<;>try simp only[go_sem,seval])
  exact A1 rfl
 |true =>
 have hk:=B3b hvd;rw[hvd]at hv;cases hev:R8 e with
 |false =>
  rw[hev]at hve;rw[hrv]at hv ⊢;rw[Ex.v_w]at hve ⊢;repeat' ((with_reducible first|refine wr ?_|refine cpc hv ?_|refine cpc hve ?_|refine k_cu ?_ ?_|refine wb2 ?_ ?_<;>(intro hb;try simp only[hb])|fail)<;>try simp only[go_sem,seval])
  exact A1 rfl
 |true =>
 rw[hev]at hve;obtain⟨q,hq⟩:=C5r hev;have hex:=c_exp32 r hk _ e (A1I _) (by omega) ⟨q,hq⟩ (0,0);have hty:=c_typ32 e.kind (A8v hq);rw[show (true && true)=true from rfl,if_pos rfl];have hnz:=C2j r e;unfold tyV;obtain⟨K,V,hKV⟩:∃ K V,nmV r=.mp .s K V:=⟨_,_,rfl⟩;have hck:∀ s:Int × Int,(⟨0,true,[.mp .s K V,I64 s.1,I64 s.2]⟩:Blk)=ckB r s:=fun s=>by unfold ckB;rw[hKV]
 rw[hKV]at hnm;rw[hrv]at hv hnm ⊢;rw[Ex.v_w]at hve hex ⊢;repeat' ((with_reducible first|refine wr ?_|refine cpc hv ?_|refine cpc hve ?_|refine cpc hnm ?_|refine k_cu ?_ ?_|refine wb2 ?_ ?_<;>(intro hb;try simp only[hb])|fail)<;>try simp only[go_sem,seval])
 refine AC.call (hex _ _ 2 (by rw[h_same];exact congrArg some (hck (0,0))) (by omega)) ?_;rintro v' H' c' ⟨rfl,rfl⟩ hcc;rw[A0, <- hck];cases her:erE r e with
 |some q =>
  obtain⟨p,c⟩:=q;have hnc:(c != 0)=true:=by simpa using hnz _ _ her
  have hup:upS (0,0) (some (p,c))=(p,c):=rfl;rw[hup];dsimp only;simp only[go_sem,seval];repeat' ((with_reducible first|refine wr ?_|refine cpc hty ?_|refine k_cu ?_ ?_|refine wb2 ?_ ?_<;>(intro hb;try simp only[hb])|fail)<;>try simp only[go_sem,seval,hnc])
  refine⟨by (try and_intros)<;>(repeat rw[hnO])<;>rfl,?_⟩;repeat' ((with_reducible first|refine wr ?_|refine cpc hty ?_|refine k_cu ?_ ?_|refine wb2 ?_ ?_<;>(intro hb;try simp only[hb])|fail)<;>try simp only[go_sem,seval])
  exact A1 rfl
 |none =>
  have hup:upS (0,0) none=(0,0):=rfl;rw[hup];dsimp only;simp only[go_sem,seval];repeat' ((with_reducible first|refine wr ?_|refine cpc hty ?_|refine k_cu ?_ ?_|refine wb2 ?_ ?_<;>(intro hb;try simp only[hb])|fail)<;>try simp only[go_sem,seval])
  exact A1 rfl
theorem c_PExpr(r:Ru)(e:Ex)(hB:r.sz<4000000)(hE:e.sz<4000000):PC Tryz.prog 17 [r.v,e.v] (cxV (cxM r e)):=by
 refine PC.ofT A2 rfl (A0A rfl) (by simp[DV.nlL,DV.nl,S7,S6,Ex.nl]) (D4q _) ?_;have ht:=c_TypeOf32 r e hB hE;unfold C0n tyV at ht;unfold cxM;by_cases hv:(L1 r && R8 e)=true
 rotate_left
 ·rw[if_neg hv]at ht ⊢;obtain⟨D,M⟩:=r;rw[Ex.v_w]at ht ⊢;dsimp only[Ru.v,Ex.w,cxV]at ht ⊢;repeat' ((with_reducible first|refine wr ?_|refine cpc ht ?_|refine k_cu ?_ ?_|refine wb2 ?_ ?_<;>(intro hb;try simp only[hb])|fail)<;>try simp only[go_sem,seval])
  exact B0w
 rw[if_pos hv]at ht ⊢;rw[A0E]at hv;have hnum:=C2m (r:=r) (B3b hv.1);have hdm:=C0f hv.1;have hbe:=c_begin r (by omega) (by omega);have hnz:=C2j r e;cases he:erE r e with
 |some q =>
  obtain⟨p,c⟩:=q;rw[he]at ht hnz;have hcz:(c != 0)=true:=by simpa using hnz _ _ rfl
  obtain⟨D,M⟩:=r;rw[Ex.v_w]at ht ⊢;dsimp only[Ru.v,Ex.w,cxV]at ht ⊢;repeat' ((with_reducible first|refine wr ?_|refine cpc ht ?_|refine k_cu ?_ ?_|refine wb2 ?_ ?_<;>(intro hb;try simp only[hb])|fail)<;>try simp only[go_sem,seval,hcz])
  exact B0w
 |none =>
  rw[he]at ht;have hln:=C4y (nm:=nmR r) e;have hge:=c_gexpr .snil (H8 (r.modes.map Md.prio)) (H8 ((r.decls.filter fun d=>d.kind=6).map Dc.value)) (mkK (inL (nmL r))) (mvV (inL (nmL r))) (cnD r.decls 7:Int) (cnD r.decls 8:Int) (nmR r) hnum _ e (A1I _) (by omega) ([],[]) (by dsimp only[List.length_nil];omega);unfold beC at hbe;generalize nmR r=nm at *;obtain⟨D,M⟩:=r;rw[Ex.v_w]at ht hge ⊢;dsimp only[Ru.v,Ex.w,cxV]at ht hbe hge ⊢;repeat' ((with_reducible first|refine wr ?_|refine cpc ht ?_|refine k_cu ?_ ?_|refine wb2 ?_ ?_<;>(intro hb;try simp only[hb])|fail)<;>try simp only[go_sem,seval])
  refine AC.call (hbe _ _) ?_;rintro _ _ _ ⟨rfl,rfl,rfl⟩ -;simp only[go_sem,seval];repeat' ((with_reducible first|refine wr ?_|refine k_cu ?_ ?_|refine wb2 ?_ ?_<;>(intro hb;try simp only[hb])|fail)<;>try simp only[go_sem,seval])
  obtain⟨X0,hX⟩:∃ X:Hp,X=(Sym.nil.upd 0 ⟨0,true,[F7 D,E4 M]⟩).upd 1 ⟨0,true,[I64 e.kind,I64 e.value,.str e.name,G7 e.args,I64 e.pos]⟩:=⟨_,rfl⟩;rw[<- hX];have xf:∀ j,2<=j->X0 j=none:=fun j hj=>by rw[hX,hnO,hnO];rfl
  have hN:GN X0 2 none none ([],[]) 3:=⟨by omega,fun i h=>(by cases h),fun i h=>(by cases h),fun i j h=>(by cases h),fun _=>rfl,fun _=>rfl,fun j hj=>xf j (by omega)⟩;refine AC.call (hge _ _ _ _ _ hN) ?_;rintro _ _ c2 ⟨rfl,a,b,hN2,rfl⟩ hc2;have o1:∀ (o:Option Nat) (n:Nat),(todoV o n).one=true:=fun o n=>by cases o<;>rfl
  simp only[go_sem,seval];repeat' ((with_reducible first|refine F6 (p:=IW _ _ (pz Tryz.prog 17 (.i (.o (.o (.o .h))))) _ _) ?_|refine wr ?_|refine k_cu ?_ ?_|refine wb2 ?_ ?_<;>(intro hb;try simp only[hb])|fail)<;>try simp only[go_sem,seval])
  try unfold C5o
  generalize hmk:mkP .snil (H8 (M.map Md.prio)) (H8 ((D.filter fun d=>d.kind=6).map Dc.value)) (.mp .s (mkK (inL (nmL ⟨D,M⟩))) (mvV (inL (nmL ⟨D,M⟩)))) (cnD D 7:Int) (cnD D 8:Int)=mk at hge ⊢;have g1:=A9d (H:=GM X0 2 a b mk ([]++cgE nm e,[])) (k:=2) (o:=a) (n:=(cgE nm e).length) (u:=2) (u':=2) (pre:=[]) (suf:=[todoV b 0,.snil,H8 (M.map Md.prio),H8 ((D.filter fun d=>d.kind=6).map Dc.value),I64 (cnD D 7),I64 (cnD D 8),.mp .s (mkK (inL (nmL ⟨D,M⟩))) (mvV (inL (nmL ⟨D,M⟩)))]) (xs:=(cgE nm e).map Ins.v) (ds:=[.ptr 2 0])
   (by rw[A6u hN2, <- hmk];rfl) (fun i hi=>⟨B5j hN2 hi,(hN2.ha i hi).1⟩) (fun h=>by have:=hN2.an h;rw[show cgE nm e=[] from this];rfl) (fun d hd=>by simp at hd;rcases hd with rfl|rfl|rfl|rfl|rfl|rfl|rfl<;>(first|exact o1 _ _|rfl)) (by simp) (fun y hy=>by obtain⟨z, -,rfl⟩:=A1C.1 hy;rfl)
  refine IW.keep [10] [.ptr 2 0] g1 ?_;show IW Tryz.prog _ _ ⟨tm [(10,.ptr 2 0)],_,_⟩ _;repeat' ((with_reducible first|refine wr ?_|refine k_cu ?_ ?_|refine wb2 ?_ ?_<;>(intro hb;try simp only[hb])|fail)<;>try simp only[go_sem,seval,h_same])
  exact⟨_,GL.refl _ _⟩
end Go.Proofs.YtenmhfknbopmeaaGreatDoor
set_option maxHeartbeats 4000000
namespace Go.Proofs.YtenmhfknbopmeaaGreatDoor
open Go.Eng (IC IOper DReg IFn I5)
open Go.Sym Go.Pb
theorem D3u{K H':Hp}{o:Option Nat}{a:DV}(l:List Md)(hno:o=none->l=[])(hb:∀ i,o=some i->H' i=some ⟨4,true,cellsL (l.map Md.v)⟩)(hko:∀ i,o=some i->K i=none)(h:∀ j b,K j=some b->H' j=some b):
  GL H' [.agg [a,todoV o l.length]] K [.agg [a,E4 l]]:=by
 cases o with
 |none =>
  obtain rfl:=hno rfl;exact (GL.less' h).trans (GL.view fun ρ vs hA=>arel_one (fun v h=>D9r h) vs hA)
 |some i =>
  exact GL.frzS (id:=i) (hb i rfl) rfl (fun j=>by
   cases hj:K j with
   |none=>exact .inl rfl
   |some b=>exact .inr ⟨(fun e=>by subst e;rw[hko j rfl]at hj;cases hj),(h j b hj).symm⟩) (.cons _ _ _ _ (.agg _ _ (.cons _ _ _ _ (.same _) (.cons _ _ _ _ (M2 (u:=4) (by simp) (B6w l) ⟨[],by simp⟩) .nil))) .nil)
theorem c_rulesO(L:List Tok)(E:Int)(hL:L.length<=1000000000)(hv:∀ x∈L,0<=x.value/\x.value<=9223372036854775807)(f:Nat)(s:Rd)(r:Ru × Rd)(h:A6o L E f s=some r)(hi:s.i<=L.length)(hokr:okR r.2=true)(hne:r.1.decls≠[])
  (H:Hp) (cc t:Nat) (ht:H t=some (rdR L E s)) (htc:t<cc):AC Tryz.prog 41 [.ptr t 0] H cc (fun v H' c' => ∃ i1,cc<i1/\i1<c'/\v=.agg [.slc i1 0 r.1.decls.length,E4 r.1.modes]/\H'=(H.upd i1 ⟨4,true,cellsL (r.1.decls.map Dc.v)⟩).upd t (rdR L E r.2)):=by
 refine AC.bodyT A2 rfl (A0A rfl) fun hfr=>?_;unfold A6o at h;cases hd:S1 L E f [] s with
 |none=>rw[hd]at h;cases h
 |some q =>
 obtain⟨dl,s1⟩:=q;rw[hd]at h;dsimp only at h;cases hm:Q1 L E f [] s1 with
 |none=>rw[hm]at h;cases h
 |some q =>
 obtain⟨ml,s2⟩:=q;rw[hm]at h;cases h;dsimp only at hokr hne ⊢;have ne0:=U6 t cc (cc+1) (by omega);repeat' ((with_reducible first|refine wr ?_|refine cpc c_decls31 ?_|refine k_cu ?_ ?_|refine wb2 ?_ ?_<;>(intro hb;try simp only[hb])|fail)<;>try simp only[go_sem,seval,ne0,h_same,A0])
 refine AC.call (c_among L E s _ _ t (by repeat (first|exact ht|rw[hnO])) (by omega) C2 (by decide)) ?_;rintro v H' c1 ⟨rfl,rfl⟩ hc1;simp only[go_sem,seval,ne0];repeat' ((with_reducible first|refine wr ?_|refine k_cu ?_ ?_|refine wb2 ?_ ?_<;>(intro hb;try simp only[hb])|fail)<;>try simp only[go_sem,seval,ne0])
 refine B6 (fun q:Nat × Option Nat × List Dc × Rd=>[(0,.ptr t 0),(2,.ptr cc 0),(3,.ptr (cc+1) 0),(4,I64 (A8 L E q.2.2.2 C2))]) (fun q=>optH (((H.upd cc ⟨0,true,[.snil,.snil]⟩).upd t (rdR L E q.2.2.2)).upd (cc+1) ⟨0,true,[todoV q.2.1 q.2.2.1.length,.snil]⟩) q.2.1 ⟨4,true,cellsL (q.2.2.1.map Dc.v)⟩)
  (fun q c=>cc+2<=c/\q.1<=f/\q.2.2.2.i<=L.length/\(q.2.1=none->q.2.2.1=[])/\(∀ i,q.2.1=some i->cc+1<i/\i<c)/\q.2.2.1.length<=128/\S1 L E q.1 q.2.2.1 q.2.2.2=some (dl,s1)) (fun q=>q.1) (f,none,[],s)
  (by simp[B9,tm,Tm.upd]) (fun j b hj=>?_) ⟨by omega,A0C _,hi,fun _=>rfl,(fun i hi=>by cases hi),by simp,hd⟩ ?_
 ·simp only[optH,A4p]at hj;by_cases e1:j=cc+1
  ·subst e1;rw[h_same]at hj ⊢;exact hj
  ·rw[h_ne e1]at hj ⊢;by_cases e2:j=t
   ·subst e2;rw[h_same]at hj;rw[hnO,ht];exact hj
   ·rw[h_ne e2]at hj;exact hj
 clear hd;rintro⟨g,o,l,u⟩ c ⟨hc,hg,hi5,hno,ho,hl1,hv0⟩;dsimp only at hc hg hi5 hno ho hl1 hv0 ⊢;cases g with
 |zero=>simp[S1]at hv0
 |succ g =>
 unfold S1 at hv0;dsimp only at hv0;have hkr : -1<=A8 L E u C2/\A8 L E u C2<8:=A1h L E u C2 0;have hw:IntKind.i64.wrap ((l.length:Int)+1)=(l.length:Int)+1:=w6z (by omega);have hlen:A5l (todoV o l.length)=some (I64 l.length):=by
  cases o with
  |none=>rw[hno rfl];rfl
  |some b=>rfl
 by_cases hk:A8 L E u C2<0
 ·rw[if_pos hk]at hv0;have hdk:decide (A8 L E u C2≥0)=false:=by simp;omega
  have e1:l=dl:=congrArg Prod.fst (Option.some.inj hv0);have e2:u=s1:=congrArg Prod.snd (Option.some.inj hv0);subst e1 e2;repeat' ((with_reducible first|refine wr ?_|refine k_cu ?_ ?_|refine wb2 ?_ ?_<;>(intro hb;try simp only[hb])|fail)<;>try simp only[go_sem,seval,hdk])
  clear hdk hkr hk hv0;cases o with
  |none=>exact absurd (hno rfl) hne
  |some i1 =>
  obtain⟨hi1,hi1c⟩:=ho i1 rfl;obtain⟨c0,hc0⟩:∃ c0,c0=c:=⟨_,rfl⟩;obtain⟨H1,hH1⟩:∃ H1:Hp,H1=H.upd i1 ⟨4,true,cellsL (l.map Dc.v)⟩:=⟨_,rfl⟩;have hS:∀ j b,H1 j=some b->j≠cc/\j≠cc+1/\j<c0:=fun j b hj=>by
   rw[hH1]at hj;by_cases e:j=i1
   ·subst e;exact⟨by omega,by omega,by omega⟩
   ·rw[h_ne e]at hj;have hjc:j<cc:=Classical.byContradiction fun h=>by rw[hfr j (by omega)]at hj;cases hj
    exact⟨by omega,by omega,by omega⟩
  have hN:∀ j,c0<=j->H1 j=none:=fun j hj=>by
   cases e:H1 j with
   |none=>rfl
   |some b=>have:=(hS j b e).2.2;omega
  refine B6 (fun q:Nat × Option Nat × List Md × Rd=>[(0,.ptr t 0),(2,.ptr cc 0),(3,.ptr (cc+1) 0)]) (fun q=>optH (((H1.upd cc ⟨0,true,[.snil,.snil]⟩).upd t (rdR L E q.2.2.2)).upd (cc+1) ⟨0,true,[.slc i1 0 l.length,todoV q.2.1 q.2.2.1.length]⟩) q.2.1 ⟨4,true,cellsL (q.2.2.1.map Md.v)⟩)
   (fun q c=>c0<=c/\q.1<=f/\q.2.2.2.i<=L.length/\(q.2.1=none->q.2.2.1=[])/\(∀ i,q.2.1=some i->c0<=i/\i<c)/\q.2.2.1.length<=16/\Q1 L E q.1 q.2.2.1 q.2.2.2=some (ml,s2)) (fun q=>q.1) (f,none,[],u)
   (by simp[B9,tm,Tm.upd]) (fun j b hj=>?_) ⟨by omega,A0C _,hi5,fun _=>rfl,(fun i hi=>by cases hi),by simp,hm⟩ ?_
  ·simp only[optH,A4p,A0x]at hj ⊢;by_cases e1:j=cc+1
   ·subst e1;rw[h_same]at hj;rw[hnO,h_same];exact hj
   rw[h_ne e1]at hj;by_cases e0:j=i1
   ·subst e0;rw[hnO,hnO,hH1,h_same]at hj;rw[h_same];exact hj
   rw[h_ne e0,h_ne e1];by_cases e2:j=t
   ·subst e2;rw[h_same]at hj ⊢;exact hj
   rw[h_ne e2]at hj ⊢;by_cases e3:j=cc
   ·subst e3;rw[h_same]at hj ⊢;exact hj
   ·rw[h_ne e3]at hj ⊢;rw[hH1,h_ne e0]at hj;exact hj
  clear hm hlen hw;clear hno ho hl1 hi5;rintro⟨g,o,m,u⟩ c ⟨hc,hg,hi5,hno,ho,hl1,hv⟩;dsimp only at hc hg hi5 hno ho hl1 hv ⊢;cases g with
  |zero=>simp[Q1]at hv
  |succ g =>
  unfold Q1 at hv;dsimp only at hv;have hw:IntKind.i64.wrap ((m.length:Int)+1)=(m.length:Int)+1:=w6z (by omega);have hlen:A5l (todoV o m.length)=some (I64 m.length):=by
   cases o with
   |none=>rw[hno rfl];rfl
   |some b=>rfl
  have hHt:optH (((H1.upd cc ⟨0,true,[.snil,.snil]⟩).upd t (rdR L E u)).upd (cc+1) ⟨0,true,[.slc i1 0 l.length,todoV o m.length]⟩) o ⟨4,true,cellsL (m.map Md.v)⟩ t=some (rdR L E u):=by rw[B1 (fun i hi=>by have:=ho i hi;omega),hnO,h_same]
  have hbx:optH (((H1.upd cc ⟨0,true,[.snil,.snil]⟩).upd t (rdR L E u)).upd (cc+1) ⟨0,true,[.slc i1 0 l.length,todoV o m.length]⟩) o ⟨4,true,cellsL (m.map Md.v)⟩ (cc+1)=some ⟨0,true,[.slc i1 0 l.length,todoV o m.length]⟩:=by rw[B1 (fun i hi=>by have:=ho i hi;omega),h_same]
  have hbo:∀ i:Nat,o=some i->optH (((H1.upd cc ⟨0,true,[.snil,.snil]⟩).upd t (rdR L E u)).upd (cc+1) ⟨0,true,[.slc i1 0 l.length,todoV o m.length]⟩) o ⟨4,true,cellsL (m.map Md.v)⟩ i=some ⟨4,true,cellsL (m.map Md.v)⟩:=fun i hi=>by subst hi;exact h_same
  have hbj:∀ j:Nat,¬ j=t->¬ j=cc->¬ j=cc+1->(∀ i,o=some i->¬ j=i)->optH (((H1.upd cc ⟨0,true,[.snil,.snil]⟩).upd t (rdR L E u)).upd (cc+1) ⟨0,true,[.slc i1 0 l.length,todoV o m.length]⟩) o ⟨4,true,cellsL (m.map Md.v)⟩ j=H1 j:=fun j h1 h2 h3 h4=>by rw[B1 h4,h_ne h3,h_ne h1,h_ne h2]
  have hb0:optH (((H1.upd cc ⟨0,true,[.snil,.snil]⟩).upd t (rdR L E u)).upd (cc+1) ⟨0,true,[.slc i1 0 l.length,todoV o m.length]⟩) o ⟨4,true,cellsL (m.map Md.v)⟩ cc=some ⟨0,true,[.snil,.snil]⟩:=by rw[B1 (fun i hi=>by have:=ho i hi;omega),hnO,hnO,h_same]
  have hbn:∀ j:Nat,c<=j->optH (((H1.upd cc ⟨0,true,[.snil,.snil]⟩).upd t (rdR L E u)).upd (cc+1) ⟨0,true,[.slc i1 0 l.length,todoV o m.length]⟩) o ⟨4,true,cellsL (m.map Md.v)⟩ j=none:=fun j h1=>by rw[B1 (fun i hi=>by have:=ho i hi;omega),hnO,hnO,hnO];exact hN j (by omega)
  have hT:(todoV o m.length).one=true:=by cases o<;>rfl
  generalize hHH:optH (((H1.upd cc ⟨0,true,[.snil,.snil]⟩).upd t (rdR L E u)).upd (cc+1) ⟨0,true,[.slc i1 0 l.length,todoV o m.length]⟩) o ⟨4,true,cellsL (m.map Md.v)⟩=HH at hHt hbx hbo hbj hb0 hbn ⊢;have fin:∀ (u2:Rd) (x:Blk),GL ((HH.upd t (rdR L E u2)).upd cc x) [.agg [.slc i1 0 l.length,todoV o m.length]] (H1.upd t (rdR L E u2)) [.agg [.slc i1 0 l.length,E4 m]]:=fun u2 x =>
   D3u m hno (fun i hi=>by have:=ho i hi;rw[hnO,hnO];exact hbo i hi) (fun i hi=>by have:=ho i hi;rw[hnO];exact hN i this.1) (fun j b hj=>by
    by_cases e1:j=t
    ·subst e1;rw[h_same]at hj;rw[hnO,h_same];exact hj
    rw[h_ne e1]at hj;obtain⟨h1,h2,h3⟩:=hS j b hj;rw[h_ne h1,h_ne e1,hbj j e1 h1 h2 (fun i hi=>by have:=ho i hi;omega)];exact hj)
  have fin0:∀ (x:Blk),GL (HH.upd cc x) [.agg [.slc i1 0 l.length,todoV o m.length]] (H1.upd t (rdR L E u)) [.agg [.slc i1 0 l.length,E4 m]]:=fun x=>by
   have h1:=fin u x
   rwa [upd_same hHt]at h1
  repeat' ((with_reducible first|refine wr ?_|refine k_cu ?_ ?_|refine wb2 ?_ ?_<;>(intro hb;try simp only[hb])|fail)<;>try simp only[go_sem,seval])
  refine AC.call (c_rdok L E u _ _ t hHt (by omega)) ?_;rintro v H' c2 ⟨rfl,rfl⟩ hc2;cases hok:okR u with
  |false =>
   rw[if_neg (by simp[hok])]at hv;have e1:m=ml:=congrArg Prod.fst (Option.some.inj hv);have e2:u=s2:=congrArg Prod.snd (Option.some.inj hv);rw[<- e2,hok]at hokr;cases hokr
  |true =>
   by_cases hlt:u.i<L.length
   ·rw[if_pos ⟨hok,hlt⟩]at hv;have hdl:decide ((u.i:Int)<(L.length:Int))=true:=by simpa using hlt
    simp only[go_sem,seval,hok,hHt,hdl];repeat' ((with_reducible first|refine wr ?_|refine k_cu ?_ ?_|refine wb2 ?_ ?_<;>(intro hb;try simp only[hb])|fail)<;>try simp only[go_sem,seval,hok,hHt,hdl])
    refine AC.call (c_is L E u _ _ t hHt (by omega) _) ?_;rintro v H' c3 ⟨rfl,rfl⟩ hc3;cases hmo:isR L E u [109,111,100,101] with
    |false =>
     rw[if_pos hmo]at hv;have e1:m=ml:=congrArg Prod.fst (Option.some.inj hv);have e2:K8 L E u=s2:=congrArg Prod.snd (Option.some.inj hv);rw[<- e2,A0y]at hokr;cases hokr
    |true =>
     rw[if_neg (by rw[hmo];decide)]at hv;simp only[go_sem,seval,hmo];repeat' ((with_reducible first|refine wr ?_|refine k_cu ?_ ?_|refine wb2 ?_ ?_<;>(intro hb;try simp only[hb])|fail)<;>try simp only[go_sem,seval,hmo,hbx,hlen,hw])
     refine AC.call (c_limit L E u _ _ t hHt (by omega) _ _ _) ?_;rintro v H' c4 ⟨rfl,rfl⟩ hc4;have j1:(A9 L E u ((m.length:Int)+1) 16 9).i=u.i:=D8;have j2:=fun h=>E1 (L:=L) (E:=E) (s:=u) (n:=(m.length:Int)+1) (m:=16) (e:=9) (by decide) h;generalize A9 L E u ((m.length:Int)+1) 16 9=u1 at hv j1 j2 ⊢;simp only[go_sem,seval];repeat' ((with_reducible first|refine wr ?_|refine k_cu ?_ ?_|refine wb2 ?_ ?_<;>(intro hb;try simp only[hb])|fail)<;>try simp only[go_sem,seval])
     refine AC.call (c_rdok L E u1 _ _ t h_same (by omega)) ?_;rintro v H' c5 ⟨rfl,rfl⟩ hc5;cases hok1:okR u1 with
     |false =>
      rw[if_neg (by rw[hok1];decide)]at hv;simp only[go_sem,seval,hok1];repeat' ((with_reducible first|refine wr ?_|refine k_cu ?_ ?_|refine wb2 ?_ ?_<;>(intro hb;try simp only[hb])|fail)<;>try simp only[go_sem,seval,hok1])
      refine⟨(g,o,m,u1),?_,inv ⟨by omega,by simp only;omega,by rw[j1];exact hi5,hno,(fun i hi=>by have:=ho i hi;omega),hl1,hv⟩,by simp only;omega⟩;intro j b hj;by_cases e2:j=t
      ·subst e2;rw[B1 (fun i hi=>by have:=ho i hi;omega),hnO,h_same]at hj;rw[h_same];exact hj
      ·rw[h_ne e2, <- hHH];cases o with
       |none =>
        simp only[optH]at hj ⊢;by_cases e1:j=cc+1
        ·subst e1;rw[h_same]at hj ⊢;exact hj
        ·rw[h_ne e1,h_ne e2]at hj ⊢;exact hj
       |some i =>
        simp only[optH]at hj ⊢;by_cases e0:j=i
        ·subst e0;rw[h_same]at hj ⊢;exact hj
        rw[h_ne e0]at hj ⊢;by_cases e1:j=cc+1
        ·subst e1;rw[h_same]at hj ⊢;exact hj
        ·rw[h_ne e1,h_ne e2]at hj ⊢;exact hj
     |true =>
      rw[if_pos hok1]at hv;obtain⟨-,j3,rfl⟩:=j2 hok1;cases hmd:A1p L E g u1 with
      |none=>rw[hmd]at hv;cases hv
      |some qm =>
       obtain⟨md,u2⟩:=qm;rw[hmd]at hv;dsimp only at hv;have j6:=C9l hmd hi5;have ne0:=U6 t cc (cc+1) (by omega);simp only[go_sem,seval,hok1,ne0,h_same,A0,hbx];repeat' ((with_reducible first|refine wr ?_|refine k_cu ?_ ?_|refine wb2 ?_ ?_<;>(intro hb;try simp only[hb])|fail)<;>try simp only[go_sem,seval,hok1,ne0,h_same,A0,hbx])
       refine AC.call (c_mode L E hL g u1 (md,u2) hmd hi5 _ _ t h_same (by omega)) ?_;rintro v H' c6 ⟨rfl,rfl⟩ hc6;dsimp only;have ne0:=A2m t cc (cc+1) c6 (c6+1) (by omega);simp only[go_sem,seval,ne0,h_same,A0,hbx];repeat' ((with_reducible first|refine wr ?_|refine k_cu ?_ ?_|refine wb2 ?_ ?_<;>(intro hb;try simp only[hb])|fail)<;>try simp only[go_sem,seval,ne0,h_same,A0,hbx])
       refine⟨⟨by rw[hnO];exact hbn _ (by omega),by rw[hnO];exact hbn _ (by omega)⟩,?_⟩;have hl4:(cellsL (m.map Md.v)).length=m.length * 4:=C4 (u:=4) (B6w _) |>.trans (by simp);repeat' ((with_reducible first|refine wr ?_|refine k_cu ?_ ?_|refine wb2 ?_ ?_<;>(intro hb;try simp only[hb])|fail)<;>try simp only[go_sem,seval,ne0,h_same,A0,hbx])
       rw[E8 (cs:=cellsL (m.map Md.v)) (fun e=>by rw[hno e];exact⟨rfl,rfl⟩) (fun i hi=>by have:=ho i hi;rw[hnO,hnO];exact hbo i hi) hl4 (by omega) (by omega) (by omega)];have hdx:∀ X:Hp,delO X o (cc+1)=X (cc+1):=fun X=>B4 (fun i hi=>by have:=ho i hi;omega);have ne0:=A2m t cc (cc+1) (c5+4) c6 (by omega);simp only[go_sem,seval,ne0,h_same,A0,hdx,hbx];repeat' ((with_reducible first|refine wr ?_|refine k_cu ?_ ?_|refine wb2 ?_ ?_<;>(intro hb;try simp only[hb])|fail)<;>try simp only[go_sem,seval,ne0,h_same,A0,hdx,hbx])
       refine⟨(g,some c6,m++[md],u2),?_,inv ⟨by omega,by simp only;omega,j6,(fun h=>by cases h),(fun i hi=>by cases hi;omega),by simp only[A0D,A0K];omega,hv⟩,by simp only;omega⟩;intro j b hj;simp only[optH,A0x,A0D,A0K,A1K,F3]at hj;by_cases e1:j=cc+1
       ·subst e1;by_cases e3:cc+1=c6
        ·omega
        rw[h_ne e3,h_same]at hj;rw[h_same];exact hj
       rw[h_ne e1];by_cases e0:j=c6
       ·subst e0;rw[h_same]at hj;rw[h_same, <- hj];rfl
       rw[h_ne e0]at hj ⊢;rw[h_ne e1]at hj;by_cases e2:j=t
       ·subst e2;rw[h_same]at hj;rw[B4 (fun i hi=>by have:=ho i hi;omega),hnO,h_same];exact hj
       rw[h_ne e2]at hj;by_cases e4:j=cc
       ·subst e4;rw[h_same]at hj;rw[B4 (fun i hi=>by have:=ho i hi;omega)]
        repeat rw[hnO]
        rw[hb0];exact hj
       ·rw[h_ne e4]at hj;obtain⟨-, -,hjc⟩:=hS j _ hj;rw[B4 (fun i hi=>by have:=ho i hi;omega)]
        repeat rw[hnO]
        rw[hbj j e2 e4 e1 (fun i hi=>by have:=ho i hi;omega)];exact hj
   ·rw[if_neg (by simp[hlt])]at hv;have hdl:decide ((u.i:Int)<(L.length:Int))=false:=by simpa using hlt
    have e1:m=ml:=congrArg Prod.fst (Option.some.inj hv);have e2:u=s2:=congrArg Prod.snd (Option.some.inj hv);subst e1 e2;have ne0:=U6 t cc (cc+1) (by omega);simp only[go_sem,seval,hok,hHt,hdl,hbx,ne0,hT,hb0];repeat' ((with_reducible first|refine wr ?_|refine k_cu ?_ ?_|refine wb2 ?_ ?_<;>(intro hb;try simp only[hb])|fail)<;>try simp only[go_sem,seval,hok,hHt,hdl,hbx,ne0,hT])
    rw[hb0];refine O7 (A9q (by rfl) (by decide) (by clear hHH;cases o<;>rfl)) ?_;simp only[go_sem,seval,ne0,h_same];repeat' ((with_reducible first|refine wr ?_|refine k_cu ?_ ?_|refine wb2 ?_ ?_<;>(intro hb;try simp only[hb])|fail)<;>try simp only[go_sem,seval,ne0,h_same])
    rw[C7 (rv2 rfl h_same)];exact⟨_,_,fin0 _,i1,by omega,(show i1<c2 by omega),rfl,by rw[hH1]⟩
 ·rw[if_neg hk]at hv0;have hdk:decide (A8 L E u C2≥0)=true:=by simp;omega
  have hHt:optH (((H.upd cc ⟨0,true,[.snil,.snil]⟩).upd t (rdR L E u)).upd (cc+1) ⟨0,true,[todoV o l.length,.snil]⟩) o ⟨4,true,cellsL (l.map Dc.v)⟩ t=some (rdR L E u):=by rw[B1 (fun i hi=>by have:=ho i hi;omega),hnO,h_same]
  have hbx:optH (((H.upd cc ⟨0,true,[.snil,.snil]⟩).upd t (rdR L E u)).upd (cc+1) ⟨0,true,[todoV o l.length,.snil]⟩) o ⟨4,true,cellsL (l.map Dc.v)⟩ (cc+1)=some ⟨0,true,[todoV o l.length,.snil]⟩:=by rw[B1 (fun i hi=>by have:=ho i hi;omega),h_same]
  have hbo:∀ i:Nat,o=some i->optH (((H.upd cc ⟨0,true,[.snil,.snil]⟩).upd t (rdR L E u)).upd (cc+1) ⟨0,true,[todoV o l.length,.snil]⟩) o ⟨4,true,cellsL (l.map Dc.v)⟩ i=some ⟨4,true,cellsL (l.map Dc.v)⟩:=fun i hi=>by subst hi;exact h_same
  have hbj:∀ j:Nat,j<cc->¬ j=t->optH (((H.upd cc ⟨0,true,[.snil,.snil]⟩).upd t (rdR L E u)).upd (cc+1) ⟨0,true,[todoV o l.length,.snil]⟩) o ⟨4,true,cellsL (l.map Dc.v)⟩ j=H j:=fun j h1 h2=>by rw[B1 (fun i hi=>by have:=ho i hi;omega),hnO,h_ne h2,hnO]
  have hb0:optH (((H.upd cc ⟨0,true,[.snil,.snil]⟩).upd t (rdR L E u)).upd (cc+1) ⟨0,true,[todoV o l.length,.snil]⟩) o ⟨4,true,cellsL (l.map Dc.v)⟩ cc=some ⟨0,true,[.snil,.snil]⟩:=by rw[B1 (fun i hi=>by have:=ho i hi;omega),hnO,hnO,h_same]
  have hbn:∀ j:Nat,c<=j->optH (((H.upd cc ⟨0,true,[.snil,.snil]⟩).upd t (rdR L E u)).upd (cc+1) ⟨0,true,[todoV o l.length,.snil]⟩) o ⟨4,true,cellsL (l.map Dc.v)⟩ j=none:=fun j h1=>by rw[B1 (fun i hi=>by have:=ho i hi;omega),hnO,hnO,hnO];exact hfr j (by omega)
  obtain⟨hok0,hi0, -⟩:=E2 (show 0<=A8 L E u C2 by omega);generalize hHH:optH (((H.upd cc ⟨0,true,[.snil,.snil]⟩).upd t (rdR L E u)).upd (cc+1) ⟨0,true,[todoV o l.length,.snil]⟩) o ⟨4,true,cellsL (l.map Dc.v)⟩=HH at hHt hbx hbo hbj hb0 hbn ⊢;generalize hkk:A8 L E u C2=k at hv0 hk hdk hkr ⊢;repeat' ((with_reducible first|refine wr ?_|refine k_cu ?_ ?_|refine wb2 ?_ ?_<;>(intro hb;try simp only[hb])|fail)<;>try simp only[go_sem,seval,hdk,hbx,hlen,hw])
  refine AC.call (c_limit L E u _ _ t hHt (by omega) _ _ _) ?_;rintro v H' c2 ⟨rfl,rfl⟩ hc2;have j1:(A9 L E u ((l.length:Int)+1) 128 9).i=u.i:=D8;have j2:=fun h=>E1 (L:=L) (E:=E) (s:=u) (n:=(l.length:Int)+1) (m:=128) (e:=9) (by decide) h;generalize A9 L E u ((l.length:Int)+1) 128 9=u1 at hv0 j1 j2 ⊢;simp only[go_sem,seval];repeat' ((with_reducible first|refine wr ?_|refine k_cu ?_ ?_|refine wb2 ?_ ?_<;>(intro hb;try simp only[hb])|fail)<;>try simp only[go_sem,seval])
  refine AC.call (c_rdok L E u1 _ _ t h_same (by omega)) ?_;rintro v H' c3 ⟨rfl,rfl⟩ hc3;cases hok:okR u1 with
  |false =>
   rw[if_neg (by rw[hok];decide)]at hv0;simp only[go_sem,seval,hok];repeat' ((with_reducible first|refine wr ?_|refine cpc c_decls31 ?_|refine k_cu ?_ ?_|refine wb2 ?_ ?_<;>(intro hb;try simp only[hb])|fail)<;>try simp only[go_sem,seval,hok])
   refine AC.call (c_among L E u1 _ _ t h_same (by omega) C2 (by decide)) ?_;rintro v H' c4 ⟨rfl,rfl⟩ hc4;simp only[go_sem,seval];repeat' ((with_reducible first|refine wr ?_|refine k_cu ?_ ?_|refine wb2 ?_ ?_<;>(intro hb;try simp only[hb])|fail)<;>try simp only[go_sem,seval])
   refine⟨(g,o,l,u1),by simp[B9,tm,Tm.upd],?_,inv ⟨by omega,by simp only;omega,by rw[j1];exact hi5,hno,(fun i hi=>by have:=ho i hi;omega),hl1,hv0⟩,by simp only;omega⟩;intro j b hj;by_cases e2:j=t
   ·subst e2;rw[B1 (fun i hi=>by have:=ho i hi;omega),hnO,h_same]at hj;rw[h_same];exact hj
   ·rw[h_ne e2, <- hHH];cases o with
    |none =>
     simp only[optH]at hj ⊢;by_cases e1:j=cc+1
     ·subst e1;rw[h_same]at hj ⊢;exact hj
     ·rw[h_ne e1,h_ne e2]at hj ⊢;exact hj
    |some i =>
     simp only[optH]at hj ⊢;by_cases e0:j=i
     ·subst e0;rw[h_same]at hj ⊢;exact hj
     rw[h_ne e0]at hj ⊢;by_cases e1:j=cc+1
     ·subst e1;rw[h_same]at hj ⊢;exact hj
     ·rw[h_ne e1,h_ne e2]at hj ⊢;exact hj
  |true =>
   rw[if_pos hok]at hv0;obtain⟨-,j3,rfl⟩:=j2 hok;simp only[go_sem,seval,hok];have ne0:=U6 t cc (cc+1) (by omega);repeat' ((with_reducible first|refine wr ?_|refine k_cu ?_ ?_|refine wb2 ?_ ?_<;>(intro hb;try simp only[hb])|fail)<;>try simp only[go_sem,seval,hok,ne0,h_same,A0,hbx])
   refine AC.call (c_declaration L E u1 _ _ t h_same (by omega) hL hv k (by omega) (by omega) (by omega)) ?_;rintro v H' c4 ⟨rfl,rfl⟩ hc4;have ne0:=A2m t cc (cc+1) c4 (c4+1) (by omega);simp only[go_sem,seval,ne0,h_same,A0,hbx];repeat' ((with_reducible first|refine wr ?_|refine k_cu ?_ ?_|refine wb2 ?_ ?_<;>(intro hb;try simp only[hb])|fail)<;>try simp only[go_sem,seval,ne0,h_same,A0,hbx])
   refine⟨⟨by rw[hnO];exact hbn _ (by omega),by rw[hnO];exact hbn _ (by omega)⟩,?_⟩;have hl4:(cellsL (l.map Dc.v)).length=l.length * 4:=C4 (u:=4) (B7q _) |>.trans (by simp);repeat' ((with_reducible first|refine wr ?_|refine k_cu ?_ ?_|refine wb2 ?_ ?_<;>(intro hb;try simp only[hb])|fail)<;>try simp only[go_sem,seval,ne0,h_same,A0,hbx])
   rw[E8 (cs:=cellsL (l.map Dc.v)) (fun e=>by rw[hno e];exact⟨rfl,rfl⟩) (fun i hi=>by have:=ho i hi;rw[hnO,hnO];exact hbo i hi) hl4 (by omega) (by omega) (by omega)];have hdx:∀ X:Hp,delO X o (cc+1)=X (cc+1):=fun X=>B4 (fun i hi=>by have:=ho i hi;omega);have ne0:=A2m t cc (cc+1) (c3+5) c4 (by omega);simp only[go_sem,seval,ne0,h_same,A0,hdx,hbx];repeat' ((with_reducible first|refine wr ?_|refine cpc c_decls31 ?_|refine k_cu ?_ ?_|refine wb2 ?_ ?_<;>(intro hb;try simp only[hb])|fail)<;>try simp only[go_sem,seval,ne0,h_same,A0,hdx,hbx])
   refine AC.call (c_among L E (S4 L E k u1).2 _ _ t (by rw[hnO,hnO,B4 (fun i hi=>by have:=ho i hi;omega),hnO,h_same]) (by omega) C2 (by decide)) ?_;rintro v H' c5 ⟨rfl,rfl⟩ hc5;simp only[go_sem,seval];repeat' ((with_reducible first|refine wr ?_|refine k_cu ?_ ?_|refine wb2 ?_ ?_<;>(intro hb;try simp only[hb])|fail)<;>try simp only[go_sem,seval])
   refine⟨(g,some c4,l++[(S4 L E k u1).1],(S4 L E k u1).2),by simp[B9,tm,Tm.upd],?_,inv ⟨by omega,by simp only;omega,C9v (by omega),(fun h=>by cases h),(fun i hi=>by cases hi;omega),by simp only[A0D,A0K];omega,hv0⟩,by simp only;omega⟩;intro j b hj;simp only[optH,A0x,A0D,A0K,A1K,F3]at hj;by_cases e1:j=cc+1
   ·subst e1;by_cases e3:cc+1=c4
    ·omega
    rw[h_ne e3,h_same]at hj;rw[h_same];exact hj
   rw[h_ne e1];by_cases e0:j=c4
   ·subst e0;rw[h_same]at hj;rw[h_same, <- hj];rfl
   rw[h_ne e0]at hj ⊢;rw[h_ne e1]at hj;by_cases e2:j=t
   ·subst e2;rw[h_same]at hj;rw[B4 (fun i hi=>by have:=ho i hi;omega),hnO,h_same];exact hj
   rw[h_ne e2]at hj;by_cases e4:j=cc
   ·subst e4;rw[h_same]at hj;rw[B4 (fun i hi=>by have:=ho i hi;omega)]
    repeat rw[hnO]
    rw[hb0];exact hj
   ·rw[h_ne e4]at hj;have hjc:j<cc:=Classical.byContradiction fun h=>by rw[hfr j (by omega)]at hj;cases hj
    rw[B4 (fun i hi=>by have:=ho i hi;omega)]
    repeat rw[hnO]
    rw[hbj j hjc e2];exact hj
theorem D9x{s:Sym.St}{x p q i u:Nat}{a b:DV}{o:Bool}(h:s.T x=.ptr i 0)(hb:s.H i=some ⟨u,o,[a,b]⟩):Sym.resV s [.cell x 2 true,.tmp p,.tmp q]=some (.tup [.agg [a,b],s.T p,s.T q]):=by
 simp only[Sym.resV,A0q,h,ldv,ldB,hb];rfl
theorem c_ParseO(s:List UInt8)(hs:s.length<=1000000000){r:Ru}(hM:B1a s=(r,0,0))(hne:r.decls≠[])(H:Hp)(cc:Nat):
  AC Tryz.prog 16 [.str s] H cc (fun v H' c' => ∃ i1,cc<=i1/\i1<c'/\v=.tup [.agg [.slc i1 0 r.decls.length,E4 r.modes],I64 0,I64 0]/\H'=H.upd i1 ⟨4,true,cellsL (r.decls.map Dc.v)⟩):=by
 refine AC.bodyT A2 rfl (A0A rfl) fun hfr=>?_;have hsc:=c_ScanR s hs;have hM0:=hM;unfold B1a at hM;dsimp only at hM;by_cases h0:(E7 s).2.2=0
 ·rw[if_neg (by simpa using h0)]at hM;cases hok:okR (A4x (E7 s).1 s.length).2 with
  |false =>
   rw[hok,if_pos rfl]at hM;have e:(A4x (E7 s).1 s.length).2.e=0:=congrArg (fun x=>x.2.2) hM;unfold okR at hok;simp[e]at hok
  |true =>
  rw[hok,if_neg (by decide)]at hM;obtain rfl:(A4x (E7 s).1 s.length).1=r:=congrArg Prod.fst hM;have hd:((E7 s).2.2 != 0)=false:=by simpa using h0
  repeat' ((with_reducible first|refine wr ?_|refine cpc hsc ?_|refine k_cu ?_ ?_|refine wb2 ?_ ?_<;>(intro hb;try simp only[hb])|fail)<;>try simp only[go_sem,seval,hd])
  obtain⟨f,hf⟩:=(A8h (E7 s).1 s.length).get;refine AC.call (c_rulesO (E7 s).1 s.length (by have:=B5w h0;omega) (C1i h0) f rd0 _ hf (A0V _) hok hne _ _ (cc+1) (by exact h_same) (by omega)) ?_;rintro v H' c2 ⟨i1,h1,h2,rfl,rfl⟩ hc2;have ne0:=T8 cc (cc+1) i1 c2 (by omega);simp only[go_sem,seval,ne0,h_same,A0];repeat' ((with_reducible first|refine wr ?_|refine k_cu ?_ ?_|refine wb2 ?_ ?_<;>(intro hb;try simp only[hb])|fail)<;>try simp only[go_sem,seval,ne0,h_same,A0])
  refine AC.call (c_rdok (E7 s).1 s.length (A4x (E7 s).1 s.length).2 _ _ (cc+1) (by repeat (first|exact h_same|rw[hnO])) (by omega)) ?_;rintro v H' c3 ⟨rfl,rfl⟩ hc3;have ne0:=A2m cc (cc+1) i1 c2 c3 (by omega);simp only[go_sem,seval,hok,ne0,h_same,A0];repeat' ((with_reducible first|refine wr ?_|refine k_cu ?_ ?_|refine wb2 ?_ ?_<;>(intro hb;try simp only[hb])|fail)<;>try simp only[go_sem,seval,hok,ne0,h_same,A0])
  rw[C7 (D9x rfl h_same)];refine⟨_,_,GL.less' (fun j b hj=>?_),i1,by omega,(show i1<c3 by omega),rfl,rfl⟩;dsimp only;by_cases e:j=i1
  ·subst e;rw[h_same]at hj
   repeat (first|rw[h_same]|rw[hnO])
   exact hj
  ·rw[h_ne e]at hj;have hjc:j<cc:=Classical.byContradiction fun h=>by rw[hfr j (by omega)]at hj;cases hj
   repeat rw[hnO]
   exact hj
 ·rw[if_pos (by simpa using h0)]at hM;exact absurd (congrArg (fun x=>x.2.2) hM) h0
open Go.Sym
abbrev x14:XT Tryz.prog 14:=mkF
instance t14:FT Tryz.prog 14 x14.d:=x14.ft
abbrev x36:XT Tryz.prog 36:=mkF
instance t36:FT Tryz.prog 36 x36.d:=x36.ft
abbrev x38:XT Tryz.prog 38:=mkF
instance t38:FT Tryz.prog 38 x38.d:=x38.ft
abbrev x15:XT Tryz.prog 15:=mkF
instance t15:FT Tryz.prog 15 x15.d:=x15.ft
abbrev x37:XT Tryz.prog 37:=mkF
instance t37:FT Tryz.prog 37 x37.d:=x37.ft
abbrev x7:XT Tryz.prog 7:=mkF
end Go.Proofs.YtenmhfknbopmeaaGreatDoor
set_option maxHeartbeats 8000000
namespace Go.Proofs.YtenmhfknbopmeaaGreatDoor
open Go.Eng (IC IOper DReg IFn I5)
open Go.Sym Go.Pb
abbrev mkB(L:List UInt8)(w i:Nat):Blk:=⟨0,true,[.lst (bytesC L),I64 i,I64 w]⟩
theorem B4w{L:List UInt8}{i:Nat}{b:UInt8}(h:L[i]? = some b):(bytesC L)[i]? = some (.int .u8 (b.toNat:Int)):=by
 simp[bytesC,h]
theorem c_Next(L:List UInt8)(hL:L.length<=300)(w i:Nat)(hi:i<=300)(n:Nat)(hn:0<n)(hn2:n<=1000)(H:Hp)(cc t:Nat)(ht:H t=some (mkB L w i))(htc:t<cc):
  AC Tryz.prog 36 [.ptr t 0,I64 n] H cc (fun v H' c'=>v=I64 (nxK L n i).1/\H'=H.upd t (mkB L w (nxK L n i).2)):=by
 refine AC.bodyT A2 rfl (A0A rfl) fun hfr=>?_;have hlen:(bytesC L).length=L.length:=by simp[bytesC]
 unfold nxK;by_cases hlt:i<L.length
 ·have hd:decide ((i:Int)≥L.length)=false:=by simp;omega
  have hg:=B4w (A0B hlt);rw[dif_pos hlt];generalize L[i]=b at hg;have hw:=w64 (n:=(i:Int)+1);have hw3:IntKind.i64.wrap ((i:Int)+1-1)=(i:Int):=by rw[w6z (by omega)];omega
  have hb:=b.toNat_lt;have hw4:=w64 (n:=(b.toNat:Int));have hrm:binR .rem (.int .i64 (b.toNat:Int)) (I64 (n:Int))=some (I64 ((b.toNat % n:Nat):Int)):=by
   rw[B0t (by omega)];rfl
  repeat' (apply wr<;>try simp only[go_sem,seval,ht,hd,hg,hw,hw3,hw4,hrm,hlen,h_same,A0])
  exact⟨_,_,GL.refl _ _,rfl,rfl⟩
 ·have hd:decide ((i:Int)≥L.length)=true:=by simp;omega
  rw[dif_neg hlt];repeat' (apply wr<;>try simp only[go_sem,seval,ht,hd,hlen,h_same,A0])
  exact⟨_,_,GL.refl _ _,rfl,(upd_same ht).symm⟩
theorem E3{L:List UInt8}(hL:L.length<=300){n i:Nat}(hi:i<=300):(nxK L n i).2<=300:=by
 unfold nxK;split<;>simp<;>omega
theorem c_name32(L:List UInt8)(hL:L.length<=300)(w i:Nat)(hw:w<=100)(hi:i<=300)(p:List UInt8)(hp:p.length<=100)(n:Nat)(hn:0<n)(hn2:n<=1000)(H:Hp)(cc t:Nat)(ht:H t=some (mkB L w i))(htc:t<cc):
  AC Tryz.prog 38 [.ptr t 0,.str p,I64 n] H cc (fun v H' c'=>v=.str (nmK L w p n i).1/\H'=H.upd t (mkB L w (nmK L w p n i).2)):=by
 refine AC.bodyT A2 rfl (A0A rfl) fun hfr=>?_;unfold nmK;by_cases h0:0<w
 ·have q0:decide ((w:Int)>0)=true:=by simpa using h0
  repeat' (apply wr<;>try simp only[go_sem,seval,ht,q0,h_same,A0])
  refine AC.call (c_Next L hL w i hi w h0 (by omega) _ _ t ht (by omega)) ?_;rintro v' H' c2 ⟨rfl,rfl⟩ hc2;have hi2:=E3 hL (n:=w) hi;have hw1:=w64 (n:=(w:Int)-1);simp only[go_sem,seval,h_same,A0];repeat' (apply wr<;>try simp only[go_sem,seval,h_same,A0,hw1])
  refine⟨by and_intros<;>(rw[hnO];exact hfr _ (by omega)),?_⟩;by_cases hq:(nxK L w i).1+1=w
  ·have qq:(((nxK L w i).1:Int) == IntKind.i64.wrap ((w:Int)-1))=true:=by rw[hw1];simp;omega
   rw[if_pos ⟨h0,hq⟩];repeat' (apply wr<;>try simp only[go_sem,seval,h_same,A0,qq])
   refine AC.call (c_Next L hL w _ hi2 10 (by decide) (by decide) _ _ t (by rw[hnO];exact h_same) (by omega)) ?_;rintro v' H' c3 ⟨rfl,rfl⟩ hc3;have hlt:=I7 L (nxK L w i).2 (n:=10) (by decide);generalize (nxK L 10 (nxK L w i).2)=kq at hlt ⊢;obtain⟨k,i3⟩:=kq;dsimp only at hlt ⊢;have hia:T9 1 (.slc c2 0 10) (I64 (k:Int))=some (.ptr c2 k):=by simp[T9];omega
   have hld:([.str [115,119,48],.str [99,111,105,108,48],.str [108,97,109,112,48],.str [118,48],.str [116,109,48],.str [101,118,48],.str [109,111,100,101,48],.str [110,111,110,101],.str [115,110,100,48],.str [115,104,111,119,48]]:List DV)[k]? = some (.str (U3.getD k [])):=by
    match k,hlt with
    |0,_=>rfl
    |1,_=>rfl
    |2,_=>rfl
    |3,_=>rfl
    |4,_=>rfl
    |5,_=>rfl
    |6,_=>rfl
    |7,_=>rfl
    |8,_=>rfl
    |9,_=>rfl
   have ne0:=X4 t c2 (by omega);generalize hWL:([.str [115,119,48],.str [99,111,105,108,48],.str [108,97,109,112,48],.str [118,48],.str [116,109,48],.str [101,118,48],.str [109,111,100,101,48],.str [110,111,110,101],.str [115,110,100,48],.str [115,104,111,119,48]]:List DV)=WL at hld ⊢;simp only[go_sem,seval,h_same,A0,ne0,hia,hld];repeat' (apply wr<;>try simp only[go_sem,seval,h_same,A0,ne0,hia,hld])
   refine⟨_,_,GL.less' (fun j b hj=>?_),rfl,rfl⟩;by_cases e:j=t
   ·subst e;rw[h_same]at hj ⊢;exact hj
   ·rw[h_ne e]at hj;have:j≠c2:=by rintro rfl;rw[hfr _ (by omega)]at hj;cases hj
    rw[h_ne e,h_ne this,h_ne e];exact hj
  ·have qq:(((nxK L w i).1:Int) == IntKind.i64.wrap ((w:Int)-1))=false:=by rw[hw1];simp;omega
   rw[if_neg (fun h=>hq h.2),if_pos h0];repeat' (apply wr<;>try simp only[go_sem,seval,h_same,A0,qq])
   refine AC.call (c_Next L hL w _ hi2 n hn hn2 _ _ t h_same (by omega)) ?_;rintro v' H' c3 ⟨rfl,rfl⟩ hc3;have hlt:=I7 L (nxK L w i).2 hn;have hdc:=c_Dec' ((nxK L n (nxK L w i).2).1:Int) (by omega) (by omega);have hdl:=O1 (n:=((nxK L n (nxK L w i).2).1:Int)) (by omega) (by omega);have hadd:=L5 (s:=p) (t:=O9 ((nxK L n (nxK L w i).2).1:Int)) (by omega);simp only[go_sem,seval,A0];repeat' ((with_reducible first|apply wr|refine cpc hdc ?_|fail)<;>try simp only[go_sem,seval,h_same,A0,hadd])
   exact⟨_,_,GL.refl _ _,rfl,rfl⟩
 ·have q0:decide ((w:Int)>0)=false:=by simpa using h0
  rw[if_neg (fun h=>h0 h.1),if_neg h0];repeat' (apply wr<;>try simp only[go_sem,seval,ht,q0,h_same,A0])
  refine⟨by and_intros<;>exact hfr _ (by omega),?_⟩;repeat' (apply wr<;>try simp only[go_sem,seval,ht,q0,h_same,A0])
  refine AC.call (c_Next L hL w i hi n hn hn2 _ _ t ht (by omega)) ?_;rintro v' H' c2 ⟨rfl,rfl⟩ hc2;have hlt:=I7 L i hn;have hdc:=c_Dec' ((nxK L n i).1:Int) (by omega) (by omega);have hdl:=O1 (n:=((nxK L n i).1:Int)) (by omega) (by omega);have hadd:=L5 (s:=p) (t:=O9 ((nxK L n i).1:Int)) (by omega);simp only[go_sem,seval];repeat' ((with_reducible first|apply wr|refine cpc hdc ?_|fail)<;>try simp only[go_sem,seval,h_same,A0,hadd])
  exact⟨_,_,GL.refl _ _,rfl,rfl⟩
theorem A4e{L:List UInt8}(hL:L.length<=300){w n i:Nat}{p:List UInt8}(hi:i<=300):(nmK L w p n i).2<=300:=by
 unfold nmK;dsimp only;split
 ·exact E3 hL (E3 hL hi)
 ·split
  ·exact E3 hL (E3 hL hi)
  ·exact E3 hL hi
theorem X3{L:List UInt8}{w n i:Nat}{p:List UInt8}(hn:0<n)(hn2:n<=1000):(nmK L w p n i).1.length<=p.length+100:=by
 unfold nmK;dsimp only;split
 ·have:=I7 L (nxK L w i).2 (n:=10) (by decide);generalize (nxK L 10 (nxK L w i).2).1=k at this
  match k,this with
  |0,_=>simp[U3]
  |1,_=>simp[U3]
  |2,_=>simp[U3]
  |3,_=>simp[U3]
  |4,_=>simp[U3]
  |5,_=>simp[U3]
  |6,_=>simp[U3]
  |7,_=>simp[U3]
  |8,_=>simp[U3]
  |9,_=>simp[U3]
 ·have:=I7 L (if 0<w then (nxK L w i).2 else i) hn;have h:=O1 (n:=((nxK L n (if 0<w then (nxK L w i).2 else i)).1:Int)) (by omega) (by omega);rw[A0D];omega
theorem c_bl0(L:List UInt8)(hL:L.length<=300)(w:Nat)(hw:w<=100)(i:Nat)(hi:i<=300)(d:Int)(hd:d<=0)(H:Hp)(cc t:Nat)(ht:H t=some (mkB L w i))(htc:t<cc):
  AC Tryz.prog 37 [.ptr t 0,I64 d] H cc (fun v H' c'=>v=.str (bl0 L w i).1/\H'=H.upd t (mkB L w (bl0 L w i).2)):=by
 refine AC.bodyT A2 rfl (A0A rfl) fun hfr=>?_;have qd:decide (d<=0)=true:=by simpa using hd
 unfold bl0;repeat' (apply wr<;>try simp only[go_sem,seval,qd])
 refine AC.call (c_Next L hL w i hi 5 (by decide) (by decide) _ _ t ht (by omega)) ?_;rintro v' H' c2 ⟨rfl,rfl⟩ hc2;have hi2:=E3 hL (n:=5) hi;generalize nxK L 5 i=k at hi2 ⊢;obtain⟨k,i2⟩:=k;dsimp only at hi2 ⊢;by_cases k0:k=0
 ·subst k0;simp only[go_sem,seval];repeat' (apply wr<;>try simp only[go_sem,seval])
  exact⟨_,_,GL.refl _ _,rfl,rfl⟩
 have q0:((k:Int) == 0)=false:=by simpa using k0
 rw[if_neg k0];by_cases k1:k=1
 ·subst k1;simp only[go_sem,seval];repeat' (apply wr<;>try simp only[go_sem,seval])
  exact⟨_,_,GL.refl _ _,rfl,rfl⟩
 have q1:((k:Int) == 1)=false:=by simp;omega
 rw[if_neg k1];by_cases k2:k=2
 ·subst k2;rw[if_pos rfl];simp only[go_sem,seval];repeat' (apply wr<;>try simp only[go_sem,seval])
  refine AC.call (c_name32 L hL w i2 hw hi2 [109,111,100,101] (by decide) 3 (by decide) (by decide) _ _ t h_same (by omega)) ?_;rintro v' H' c3 ⟨rfl,rfl⟩ hc3;have hl:=X3 (L:=L) (w:=w) (i:=i2) (p:=[109,111,100,101]) (n:=3) (by decide) (by decide);generalize nmK L w [109,111,100,101] 3 i2=a at hl ⊢;have hadd:=L5 (s:=[97,99,116,105,118,101,32]) (t:=a.1) (by simp at hl ⊢;omega);simp only[go_sem,seval,A0,hadd];repeat' (apply wr<;>try simp only[go_sem,seval,A0,hadd])
  exact⟨_,_,GL.refl _ _,rfl,rfl⟩
 have q2:((k:Int) == 2)=false:=by simp;omega
 rw[if_neg k2];simp only[go_sem,seval,q0,q1,q2];repeat' (apply wr<;>try simp only[go_sem,seval,q0,q1,q2])
 refine AC.call (c_name32 L hL w i2 hw hi2 [115,119] (by decide) 4 (by decide) (by decide) _ _ t h_same (by omega)) ?_;rintro v' H' c3 ⟨rfl,rfl⟩ hc3;have hl:=X3 (L:=L) (w:=w) (i:=i2) (p:=[115,119]) (n:=4) (by decide) (by decide);generalize nmK L w [115,119] 4 i2=a at hl ⊢;have hadd:=L5 (s:=[99,108,111,115,101,100,32]) (t:=a.1) (by simp at hl ⊢;omega);simp only[go_sem,seval,A0,hadd];repeat' (apply wr<;>try simp only[go_sem,seval,A0,hadd])
 exact⟨_,_,GL.refl _ _,rfl,rfl⟩
theorem A9b{H:Hp}{cc t c2:Nat}{b0 b1 b:Blk}{ds:List DV}(hfr:∀ i,cc<=i->H i=none)(htc:t<cc)(hc:cc<=c2):GL (((H.upd t b0).upd c2 b1).upd t b) ds (H.upd t b) ds:=GL.less' fun j q hj=>by
 by_cases e:j=t
 ·subst e;rw[h_same]at hj ⊢;exact hj
 ·rw[h_ne e]at hj;have:j≠c2:=by rintro rfl;rw[hfr _ (by omega)]at hj;cases hj
  rw[h_ne e,h_ne this,h_ne e];exact hj
theorem c_in0(L:List UInt8)(hL:L.length<=300)(w:Nat)(hw:w<=100)(i:Nat)(hi:i<=300)(d:Int)(hd:d<=0)(hd2 : -1000<=d)(H:Hp)(cc t:Nat)(ht:H t=some (mkB L w i))(htc:t<cc):
  AC Tryz.prog 15 [.ptr t 0,I64 d] H cc (fun v H' c'=>v=.str (in0 L w i).1/\H'=H.upd t (mkB L w (in0 L w i).2)):=by
 refine AC.bodyT A2 rfl (A0A rfl) fun hfr=>?_;have qd:decide (d<=0)=true:=by simpa using hd
 have kI:∀ (j c0:Nat),j<=300->cc<=c0->IW Tryz.prog 86 (pz Tryz.prog 15 (.i (.i (.o .h)))) ⟨tm [(0,.ptr t 0),(1,I64 d)],H.upd t (mkB L w j),c0⟩ (rt [.tmp 4] fun v H' c' => ∃ v2 H2,GL H' [v] H2 [v2]/\v2=.str (in1 L w j).1/\H2=H.upd t (mkB L w (in1 L w j).2)):=by
  intro j c0 hj hc0;unfold in1;repeat' (apply wr<;>try simp only[go_sem,seval,qd])
  refine AC.call (c_Next L hL w j hj 7 (by decide) (by decide) _ _ t h_same (by omega)) ?_;rintro v' H' c2 ⟨rfl,rfl⟩ hc2;rw[A0];have hi2:=E3 hL (n:=7) hj;generalize nxK L 7 j=k at hi2 ⊢;obtain⟨k,i2⟩:=k;dsimp only at hi2 ⊢;by_cases k0:k=0
  ·subst k0;rw[if_pos (.inl rfl)];simp only[go_sem,seval];repeat' (apply wr<;>try simp only[go_sem,seval])
   refine AC.call (c_name32 L hL w i2 hw hi2 [118] (by decide) 3 (by decide) (by decide) _ _ t h_same (by omega)) ?_;rintro v' H' c3 ⟨rfl,rfl⟩ hc3;rw[A0];simp only[go_sem,seval];repeat' (apply wr<;>try simp only[go_sem,seval])
   exact⟨_,_,GL.refl _ _,rfl,rfl⟩
  have q0:((k:Int) == 0)=false:=by simpa using k0
  by_cases k1:k=1
  ·subst k1;rw[if_pos (.inr rfl)];simp only[go_sem,seval];repeat' (apply wr<;>try simp only[go_sem,seval])
   refine AC.call (c_name32 L hL w i2 hw hi2 [118] (by decide) 3 (by decide) (by decide) _ _ t h_same (by omega)) ?_;rintro v' H' c3 ⟨rfl,rfl⟩ hc3;rw[A0];simp only[go_sem,seval];repeat' (apply wr<;>try simp only[go_sem,seval])
   exact⟨_,_,GL.refl _ _,rfl,rfl⟩
  have q1:((k:Int) == 1)=false:=by simp;omega
  rw[if_neg (by omega)];by_cases k2:k=2
  ·subst k2;simp only[go_sem,seval];repeat' (apply wr<;>try simp only[go_sem,seval])
   exact⟨_,_,GL.refl _ _,rfl,rfl⟩
  have q2:((k:Int) == 2)=false:=by simp;omega
  rw[if_neg k2];by_cases k3:k=3
  ·subst k3;simp only[go_sem,seval];repeat' (apply wr<;>try simp only[go_sem,seval])
   exact⟨_,_,GL.refl _ _,rfl,rfl⟩
  have q3:((k:Int) == 3)=false:=by simp;omega
  rw[if_neg k3];by_cases k4:k=4
  ·subst k4;rw[if_pos rfl];simp only[go_sem,seval];repeat' (apply wr<;>try simp only[go_sem,seval])
   refine AC.call (c_name32 L hL w i2 hw hi2 [116,109] (by decide) 2 (by decide) (by decide) _ _ t h_same (by omega)) ?_;rintro v' H' c3 ⟨rfl,rfl⟩ hc3;have hl:=X3 (L:=L) (w:=w) (i:=i2) (p:=[116,109]) (n:=2) (by decide) (by decide);generalize nmK L w [116,109] 2 i2=a at hl ⊢;have hadd:=L5 (s:=[108,101,102,116,32]) (t:=a.1) (by simp at hl ⊢;omega);simp only[go_sem,seval,A0,hadd];repeat' (apply wr<;>try simp only[go_sem,seval,A0,hadd])
   exact⟨_,_,GL.refl _ _,rfl,rfl⟩
  have q4:((k:Int) == 4)=false:=by simp;omega
  rw[if_neg k4];by_cases k5:k=5
  ·subst k5;rw[if_pos rfl];simp only[go_sem,seval];repeat' (apply wr<;>try simp only[go_sem,seval])
   refine AC.call (c_Next L hL w i2 hi2 4 (by decide) (by decide) _ _ t (by rw[hnO];exact h_same) (by omega)) ?_;rintro v' H' c3 ⟨rfl,rfl⟩ hc3;have hlt:=I7 L i2 (n:=4) (by decide);generalize (nxK L 4 i2)=kq at hlt ⊢;obtain⟨k,i3⟩:=kq;dsimp only at hlt ⊢;have hia:T9 1 (.slc c2 0 4) (I64 (k:Int))=some (.ptr c2 k):=by simp[T9];omega
   have hld:([.str [50,49,52,55,52,56,51,54,52,55],.str [49,48,48,48,48,48,48],.str [54,53,53,51,54],.str [49,48,48,48,48,48]]:List DV)[k]? = some (.str (D4y.getD k [])):=by
    match k,hlt with
    |0,_=>rfl
    |1,_=>rfl
    |2,_=>rfl
    |3,_=>rfl
   have ne0:=X4 t c2 (by omega);generalize hWL:([.str [50,49,52,55,52,56,51,54,52,55],.str [49,48,48,48,48,48,48],.str [54,53,53,51,54],.str [49,48,48,48,48,48]]:List DV)=WL at hld ⊢;simp only[go_sem,seval,h_same,A0,ne0,hia,hld];repeat' (apply wr<;>try simp only[go_sem,seval,h_same,A0,ne0,hia,hld])
   exact⟨_,_,A9b hfr htc (by omega),rfl,rfl⟩
  have q5:((k:Int) == 5)=false:=by simp;omega
  rw[if_neg k5];simp only[go_sem,seval,q0,q1,q2,q3,q4,q5];repeat' (apply wr<;>try simp only[go_sem,seval,q0,q1,q2,q3,q4,q5])
  refine AC.call (c_Next L hL w i2 hi2 12 (by decide) (by decide) _ _ t h_same (by omega)) ?_;rintro v' H' c3 ⟨rfl,rfl⟩ hc3;rw[A0];have hlt:=I7 L i2 (n:=12) (by decide);have hdc:=c_Dec' ((nxK L 12 i2).1:Int) (by omega) (by omega);simp only[go_sem,seval];repeat' ((with_reducible first|apply wr|refine cpc hdc ?_|fail)<;>try simp only[go_sem,seval])
  exact⟨_,_,GL.refl _ _,rfl,rfl⟩
 unfold in0 wlK;by_cases h0:0<w
 ·have q0:decide ((w:Int)>0)=true:=by simpa using h0
  have hw4:IntKind.i64.wrap (4 * (w:Int))=((4 * w:Nat):Int):=by rw[w6z (by omega)];omega
  repeat' (apply wr<;>try simp only[go_sem,seval,ht,q0,hw4])
  refine AC.call (c_Next L hL w i hi (4 * w) (by omega) (by omega) _ _ t ht (by omega)) ?_;rintro v' H' c2 ⟨rfl,rfl⟩ hc2;have hi2:=E3 hL (n:=4 * w) hi;generalize nxK L (4 * w) i=k at hi2 ⊢;obtain⟨k,i2⟩:=k;dsimp only at hi2 ⊢;by_cases k1:k=1
  ·subst k1;rw[if_pos ⟨h0,rfl⟩];have hw1:=w64 (n:=d-1);simp only[go_sem,seval];repeat' (apply wr<;>try simp only[go_sem,seval,hw1])
   refine AC.call (c_bl0 L hL w hw i2 hi2 (d-1) (by omega) _ _ t h_same (by omega)) ?_;rintro v' H' c3 ⟨rfl,rfl⟩ hc3;rw[A0];simp only[go_sem,seval];repeat' (apply wr<;>try simp only[go_sem,seval])
   exact⟨_,_,GL.refl _ _,rfl,rfl⟩
  have q1:((k:Int) == 1)=false:=by simp;omega
  rw[if_neg (fun h=>k1 h.2),if_pos h0];simp only[go_sem,seval,q1];repeat' ((with_reducible first|refine F6 (p:=IW _ _ (pz Tryz.prog 15 (.i (.i (.o .h)))) _ _) ?_|refine wr ?_|fail)<;>try simp only[go_sem,seval,q1])
  exact IW.stage (by simp[B9,tm,Tm.upd]) (kI i2 _ hi2 hc2)
 ·have q0:decide ((w:Int)>0)=false:=by simpa using h0
  rw[if_neg (fun h=>h0 h.1),if_neg h0];have hHt:H=H.upd t (mkB L w i):=(upd_same ht).symm;repeat' ((with_reducible first|refine F6 (p:=IW _ _ (pz Tryz.prog 15 (.i (.i (.o .h)))) _ _) ?_|refine wr ?_|fail)<;>try simp only[go_sem,seval,ht,q0])
  have:=kI i cc hi (A0C _);rw[upd_same ht]at this;exact IW.stage (by simp[B9,tm,Tm.upd]) this
def lnB:Nat->Nat
 |0=>300
 |d+1=>2 * lnB d+300
theorem C7g(d:Nat):300<=lnB d:=by cases d<;>simp only[lnB]<;>omega
def A6k(n:Nat)(f:Nat->Mk):Prop:=∀ i,i<=300->(f i).1.length<=n/\(f i).2<=300
theorem A8q{L:List UInt8}(hL:L.length<=300)(w:Nat):A6k 300 (bl0 L w):=by
 intro i hi;unfold bl0;dsimp only;have h2:=E3 hL (n:=5) hi;split
 ·exact⟨by simp,h2⟩
 ·split
  ·exact⟨by simp,h2⟩
  ·split
   ·have:=X3 (L:=L) (w:=w) (i:=(nxK L 5 i).2) (p:=[109,111,100,101]) (n:=3) (by decide) (by decide);exact⟨by simp at this ⊢;omega,A4e hL h2⟩
   ·have:=X3 (L:=L) (w:=w) (i:=(nxK L 5 i).2) (p:=[115,119]) (n:=4) (by decide) (by decide);exact⟨by simp at this ⊢;omega,A4e hL h2⟩
theorem Z4{l:List (List UInt8)}{n:Nat}(h:∀ x∈l,x.length<=n)(k:Nat):(l.getD k []).length<=n:=by
 rw[A1E];cases hk:l[k]? with
 |none=>simp
 |some x=>exact h x (A0O hk)
theorem D2i{L:List UInt8}(hL:L.length<=300)(w:Nat):A6k 300 (in1 L w):=by
 intro i hi;unfold in1;dsimp only;have h2:=E3 hL (n:=7) hi;split
 ·have:=X3 (L:=L) (w:=w) (i:=(nxK L 7 i).2) (p:=[118]) (n:=3) (by decide) (by decide);exact⟨by simp at this ⊢;omega,A4e hL h2⟩
 ·split
  ·exact⟨by simp,h2⟩
  ·split
   ·exact⟨by simp,h2⟩
   ·split
    ·have:=X3 (L:=L) (w:=w) (i:=(nxK L 7 i).2) (p:=[116,109]) (n:=2) (by decide) (by decide);exact⟨by simp at this ⊢;omega,A4e hL h2⟩
    ·split
     ·exact⟨A0X (Z4 (n:=300) (by decide) _) (by decide),E3 hL h2⟩
     ·have hlt:=I7 L (nxK L 7 i).2 (n:=12) (by decide);have h:=O1 (n:=((nxK L 12 (nxK L 7 i).2).1:Int)) (by omega) (by omega);exact⟨A0X h (by decide),E3 hL h2⟩
theorem C9j{L:List UInt8}(hL:L.length<=300){w n:Nat}{f g:Nat->Mk}(hf:A6k n f)(hg:A6k n g):A6k n (wlK L w f g):=by
 intro i hi;unfold wlK;dsimp only;have h2:=E3 hL (n:=4 * w) hi;split
 ·exact hf _ h2
 ·split
  ·exact hg _ h2
  ·exact hg _ hi
theorem A6k.mono{n m:Nat}{f:Nat->Mk}(h:A6k n f)(hnm:n<=m):A6k m f:=fun i hi=>⟨A0X (h i hi).1 hnm,(h i hi).2⟩
theorem A8p{L:List UInt8}(hL:L.length<=300)(w:Nat):A6k 300 (in0 L w):=C9j hL (A8q hL w) (D2i hL w)
theorem A4c{L:List UInt8}(hL:L.length<=300)(w:Nat):∀ d,A6k (lnB d) (inK L w d)/\A6k (lnB d) (blK L w d)
 |0=>⟨fun i hi=>by rw[inK];exact A8p hL w i hi,fun i hi=>by rw[blK];exact A8q hL w i hi⟩
 |d+1=>by
  obtain⟨h1,h2⟩:=A4c hL w d;have h300:=C7g d;have e:lnB (d+1)=2 * lnB d+300:=rfl;refine⟨fun i hi=>?_,fun i hi=>?_⟩
  ·rw[inK];refine C9j hL (h2.mono (by omega)) (fun i hi=>?_) i hi;dsimp only;have hk:=E3 hL (n:=5) hi;split
   ·exact (A8p hL w).mono (by omega) _ hk
   ·split
    ·have:=A8p hL w _ hk;exact⟨by simp;omega,this.2⟩
    ·have ha:=h1 _ hk;have hc:=h1 _ ha.2;refine⟨?_,E3 hL hc.2⟩;have ho:=Z4 (l:=B5c) (n:=5) (by decide) (nxK L 5 (inK L w d (inK L w d (nxK L 5 i).2).2).2).1;simp only[A0D,A0N,List.length_nil];omega
  ·rw[blK];dsimp only;have hk:=E3 hL (n:=6) hi;split
   ·have:=A8q hL w _ hk;exact⟨by simp;omega,this.2⟩
   ·split
    ·have ha:=h2 _ hk;have hc:=h2 _ ha.2;exact⟨by simp only[A0D,A0N,List.length_nil];omega,hc.2⟩
    ·split
     ·have ha:=h2 _ hk;have hc:=h2 _ ha.2;exact⟨by simp only[A0D,A0N,List.length_nil];omega,hc.2⟩
     ·have ha:=h1 _ hk;have ho:=E3 hL (n:=6) ha.2;have hc:=h1 _ ho;have hg:=Z4 (l:=B9q) (n:=5) (by decide) (nxK L 6 (inK L w d (nxK L 6 i).2).2).1;exact⟨by simp only[A0D,A0N,List.length_nil];omega,hc.2⟩
def InC(L:List UInt8)(w d:Nat):Prop:=∀ (i:Nat) (hi:i<=300) (H:Hp) (cc t:Nat) (ht:H t=some (mkB L w i)) (htc:t<cc),
  AC Tryz.prog 15 [.ptr t 0,I64 d] H cc (fun v H' c'=>v=.str (inK L w d i).1/\H'=H.upd t (mkB L w (inK L w d i).2))
def BlC(L:List UInt8)(w d:Nat):Prop:=∀ (i:Nat) (hi:i<=300) (H:Hp) (cc t:Nat) (ht:H t=some (mkB L w i)) (htc:t<cc),
  AC Tryz.prog 37 [.ptr t 0,I64 d] H cc (fun v H' c'=>v=.str (blK L w d i).1/\H'=H.upd t (mkB L w (blK L w d i).2))
theorem D7o{G:Hp}{k t:Nat}{b:Blk}(h:¬ t=k):O8 (G.upd k b) [k] t=G t:=by
 simp only[O8];rw[if_neg (by simpa using h),h_ne h]
theorem C7f{X:Hp}{k t:Nat}{B:Blk}(h:¬ t=k):I0 [k] X ((O8 X [k]).upd t B)=X.upd t B:=by
 funext j
 simp only[I0];by_cases e:j=k
 ·subst e;rw[if_pos (by simp),h_ne (Ne.symm h)]
 ·rw[if_neg (by simpa using e)];by_cases e2:j=t
  ·subst e2;rw[h_same,h_same]
  ·rw[h_ne e2,h_ne e2];simp only[O8];rw[if_neg (by simpa using e)]
theorem c_bl1(L:List UInt8)(hL:L.length<=300)(w:Nat)(hw:w<=100)(d:Nat)(hd:d<=10)(h1:InC L w d)(h2:BlC L w d):BlC L w (d+1):=by
 intro i hi H cc t ht htc;obtain⟨o1,o2⟩:=A4c hL w d;have hB:lnB d<=1000000:=by
  have:∀ d,d<=10->lnB d<=1000000:=by decide
  exact this d hd
 refine AC.bodyT A2 rfl (A0A rfl) fun hfr=>?_;have qd:decide (((d+1:Nat):Int)<=0)=false:=by simp<;>omega
 have hw1:IntKind.i64.wrap (((d+1:Nat):Int)-1)=(d:Int):=by rw[w6z (by omega)];omega
 rw[blK];dsimp only;generalize hD:((d+1:Nat):Int)=D at qd hw1 ⊢;repeat' (apply wr<;>try simp only[go_sem,seval,qd])
 refine AC.call (c_Next L hL w i hi 6 (by decide) (by decide) _ _ t ht (by omega)) ?_;rintro v' H' c2 ⟨rfl,rfl⟩ hc2;have hi2:=E3 hL (n:=6) hi;generalize nxK L 6 i=k at hi2 ⊢;obtain⟨k,i2⟩:=k;dsimp only at hi2 ⊢;by_cases k0:k=0
 ·subst k0;rw[if_pos rfl];simp only[go_sem,seval];repeat' (apply wr<;>try simp only[go_sem,seval])
  refine AC.call (c_bl0 L hL w hw i2 hi2 0 (by omega) _ _ t h_same (by omega)) ?_;rintro v' H' c3 ⟨rfl,rfl⟩ hc3;have hl:=(A8q hL w i2 hi2).1;have hadd:=L5 (s:=[33]) (t:=(bl0 L w i2).1) (by simp;omega);rw[A0];simp only[go_sem,seval,hadd];repeat' (apply wr<;>try simp only[go_sem,seval,hadd])
  exact⟨_,_,GL.refl _ _,rfl,rfl⟩
 have q0:((k:Int) == 0)=false:=by simpa using k0
 rw[if_neg k0];by_cases k1:k=1
 ·subst k1;rw[if_pos rfl];simp only[go_sem,seval];repeat' (apply wr<;>try simp only[go_sem,seval,hw1])
  refine AC.call (h2 i2 hi2 _ _ t h_same (by omega)) ?_;rintro v' H' c3 ⟨rfl,rfl⟩ hc3;have hl:=o2 i2 hi2;generalize blK L w d i2=a at hl ⊢;have a1:=L5 (s:=[40]) (t:=a.1) (by simp;omega);have a2:=L5 (s:=40 :: a.1) (t:=[32,38,38,32]) (by simp;omega);rw[A0];simp only[go_sem,seval,a1,a2];repeat' (apply wr<;>try simp only[go_sem,seval,hw1,a1,a2])
  refine AC.call (h2 a.2 hl.2 _ _ t h_same (by omega)) ?_;rintro v' H' c4 ⟨rfl,rfl⟩ hc4;have hl2:=o2 a.2 hl.2;generalize blK L w d a.2=c at hl2 ⊢;have a3:=L5 (s:=40 :: (a.1++[32,38,38,32])) (t:=c.1) (by simp;omega);have a4:=L5 (s:=40 :: (a.1++[32,38,38,32]++c.1)) (t:=[41]) (by simp;omega);rw[A0];simp only[go_sem,seval,a3,a4];repeat' (apply wr<;>try simp only[go_sem,seval,a3,a4])
  refine⟨_,_,GL.refl _ _,?_,rfl⟩;simp
 have q1:((k:Int) == 1)=false:=by simp;omega
 rw[if_neg k1];by_cases k2:k=2
 ·subst k2;rw[if_pos rfl];simp only[go_sem,seval];repeat' (apply wr<;>try simp only[go_sem,seval,hw1])
  refine AC.call (h2 i2 hi2 _ _ t h_same (by omega)) ?_;rintro v' H' c3 ⟨rfl,rfl⟩ hc3;have hl:=o2 i2 hi2;generalize blK L w d i2=a at hl ⊢;have a1:=L5 (s:=[40]) (t:=a.1) (by simp;omega);have a2:=L5 (s:=40 :: a.1) (t:=[32,124,124,32]) (by simp;omega);rw[A0];simp only[go_sem,seval,a1,a2];repeat' (apply wr<;>try simp only[go_sem,seval,hw1,a1,a2])
  refine AC.call (h2 a.2 hl.2 _ _ t h_same (by omega)) ?_;rintro v' H' c4 ⟨rfl,rfl⟩ hc4;have hl2:=o2 a.2 hl.2;generalize blK L w d a.2=c at hl2 ⊢;have a3:=L5 (s:=40 :: (a.1++[32,124,124,32])) (t:=c.1) (by simp;omega);have a4:=L5 (s:=40 :: (a.1++[32,124,124,32]++c.1)) (t:=[41]) (by simp;omega);rw[A0];simp only[go_sem,seval,a3,a4];repeat' (apply wr<;>try simp only[go_sem,seval,a3,a4])
  refine⟨_,_,GL.refl _ _,?_,rfl⟩;simp
 have q2:((k:Int) == 2)=false:=by simp;omega
 rw[if_neg k2];simp only[go_sem,seval,q0,q1,q2];repeat' (apply wr<;>try simp only[go_sem,seval,q0,q1,q2,hw1])
 refine AC.call (h1 i2 hi2 _ _ t h_same (by omega)) ?_;rintro v' H' c3 ⟨rfl,rfl⟩ hc3;have hl:=o1 i2 hi2;generalize inK L w d i2=a at hl ⊢;have a1:=L5 (s:=a.1) (t:=[32]) (by simp;omega);rw[A0];simp only[go_sem,seval,a1,hw1];repeat' (apply wr<;>try simp only[go_sem,seval,hw1,a1])
 refine AC.call (c_Next L hL w a.2 hl.2 6 (by decide) (by decide) _ _ t (by rw[D7o (by omega)];exact h_same) (by omega)) ?_;rintro v' H' c4 ⟨rfl,rfl⟩ hc4;have hlt:=I7 L a.2 (n:=6) (by decide);have ho2:=E3 hL (n:=6) hl.2;generalize nxK L 6 a.2=kq at hlt ho2 ⊢;obtain⟨k3,i3⟩:=kq;dsimp only at hlt ho2 ⊢;have hmg:∀ (X:Hp) (B:Blk),I0 [c3+2] X ((O8 X [c3+2]).upd t B)=X.upd t B:=fun X B=>C7f (by omega);have hia:T9 1 (.slc (c3+2) 0 6) (I64 (k3:Int))=some (.ptr (c3+2) k3):=by simp[T9];omega
 have hld:([.str [60],.str [60,61],.str [62],.str [62,61],.str [61,61],.str [33,61]]:List DV)[k3]? = some (.str (B9q.getD k3 [])):=by
  match k3,hlt with
  |0,_=>rfl
  |1,_=>rfl
  |2,_=>rfl
  |3,_=>rfl
  |4,_=>rfl
  |5,_=>rfl
 have hg:=Z4 (l:=B9q) (n:=5) (by decide) k3;generalize B9q.getD k3 []=og at hg hld ⊢;generalize hWL:([.str [60],.str [60,61],.str [62],.str [62,61],.str [61,61],.str [33,61]]:List DV)=WL at hld ⊢;have ne0:=X4 t (c3+2) (by omega);have a2:=L5 (s:=a.1++[32]) (t:=og) (by simp;omega);have a3:=L5 (s:=a.1++[32]++og) (t:=[32]) (by simp;omega);simp only[go_sem,seval,hmg,h_same,A0,ne0,hia,hld,a1,a2,a3,hw1];refine⟨by and_intros<;>first|rfl|(rw[<- hWL];done)|((repeat rw[hnO]);exact hfr _ (by omega)),?_⟩;refine AC.call (h1 i3 ho2 _ _ t (by simp only[O8];rw[if_neg (by simp;omega)];exact h_same) (by omega)) ?_;rintro v' H' c5 ⟨rfl,rfl⟩ hc5;have hl3:=o1 i3 ho2;generalize inK L w d i3=c at hl3 ⊢;have a4:=L5 (s:=a.1++[32]++og++[32]) (t:=c.1) (by simp;omega);simp only[go_sem,seval,hmg,h_same,A0,ne0,hia,hld,a1,a2,a3,a4,hw1];refine⟨by and_intros<;>first|rfl|(rw[<- hWL];done)|((repeat rw[hnO]);exact hfr _ (by omega)),?_⟩;repeat' (apply wr<;>try simp only[go_sem,seval])
 exact⟨_,_,A9b hfr htc (by omega),by simp,rfl⟩
def in2(L:List UInt8)(w d i:Nat):Mk :=
 let k:=nxK L 5 i
 if k.1=0 then in0 L w k.2
 else if k.1=1 then let a:=in0 L w k.2;([45]++a.1,a.2)
 else
  let a:=inK L w d k.2
  let c:=inK L w d a.2
  let o:=nxK L 5 c.2
  (((((([40]++a.1)++[32])++B5c.getD o.1 [])++[32])++c.1)++[41],o.2)
theorem c_in2(L:List UInt8)(hL:L.length<=300)(w:Nat)(hw:w<=100)(d:Nat)(hd:d<=10)(h1:InC L w d)(h2:BlC L w d):InC L w (d+1):=by
 intro i hi H cc t ht htc;obtain⟨o1,o2⟩:=A4c hL w d;have hB:lnB d<=1000000:=by
  have:∀ d,d<=10->lnB d<=1000000:=by decide
  exact this d hd
 refine AC.bodyT A2 rfl (A0A rfl) fun hfr=>?_;have qd:decide (((d+1:Nat):Int)<=0)=false:=by simp<;>omega
 have hw1:IntKind.i64.wrap (((d+1:Nat):Int)-1)=(d:Int):=by rw[w6z (by omega)];omega
 rw[show inK L w (d+1) i=wlK L w (blK L w d) (in2 L w d) i from by rw[inK];rfl];generalize hD:((d+1:Nat):Int)=D at qd hw1 ⊢;have kI:∀ (j c0:Nat),j<=300->cc<=c0->IW Tryz.prog 86 (pz Tryz.prog 15 (.i (.i (.o .h)))) ⟨tm [(0,.ptr t 0),(1,I64 D)],H.upd t (mkB L w j),c0⟩ (rt [.tmp 4] fun v H' c' => ∃ v2 H2,GL H' [v] H2 [v2]/\v2=.str (in2 L w d j).1/\H2=H.upd t (mkB L w (in2 L w d j).2)):=by
  intro j c0 hj hc0;unfold in2;repeat' (apply wr<;>try simp only[go_sem,seval,qd])
  refine AC.call (c_Next L hL w j hj 5 (by decide) (by decide) _ _ t h_same (by omega)) ?_;rintro v' H' c2 ⟨rfl,rfl⟩ hc2;rw[A0];have hi2:=E3 hL (n:=5) hj;generalize nxK L 5 j=k at hi2 ⊢;obtain⟨k,i2⟩:=k;dsimp only at hi2 ⊢;by_cases k0:k=0
  ·subst k0;rw[if_pos rfl];simp only[go_sem,seval];repeat' (apply wr<;>try simp only[go_sem,seval])
   refine AC.call (c_in0 L hL w hw i2 hi2 0 (by omega) (by omega) _ _ t h_same (by omega)) ?_;rintro v' H' c3 ⟨rfl,rfl⟩ hc3;rw[A0];simp only[go_sem,seval];repeat' (apply wr<;>try simp only[go_sem,seval])
   exact⟨_,_,GL.refl _ _,rfl,rfl⟩
  have q0:((k:Int) == 0)=false:=by simpa using k0
  rw[if_neg k0];by_cases k1:k=1
  ·subst k1;rw[if_pos rfl];simp only[go_sem,seval];repeat' (apply wr<;>try simp only[go_sem,seval])
   refine AC.call (c_in0 L hL w hw i2 hi2 0 (by omega) (by omega) _ _ t h_same (by omega)) ?_;rintro v' H' c3 ⟨rfl,rfl⟩ hc3;rw[A0];have hl:=(A8p hL w i2 hi2).1;have hadd:=L5 (s:=[45]) (t:=(in0 L w i2).1) (by simp;omega);simp only[go_sem,seval,hadd];repeat' (apply wr<;>try simp only[go_sem,seval,hadd])
   exact⟨_,_,GL.refl _ _,rfl,rfl⟩
  have q1:((k:Int) == 1)=false:=by simp;omega
  rw[if_neg k1];simp only[go_sem,seval,q0,q1];repeat' (apply wr<;>try simp only[go_sem,seval,q0,q1,hw1])
  refine AC.call (h1 i2 hi2 _ _ t h_same (by omega)) ?_;rintro v' H' c3 ⟨rfl,rfl⟩ hc3;have hl:=o1 i2 hi2;generalize inK L w d i2=a at hl ⊢;rw[A0];simp only[go_sem,seval,hw1];repeat' (apply wr<;>try simp only[go_sem,seval,hw1])
  refine AC.call (h1 a.2 hl.2 _ _ t h_same (by omega)) ?_;rintro v' H' c4 ⟨rfl,rfl⟩ hc4;have hl2:=o1 a.2 hl.2;generalize inK L w d a.2=c at hl2 ⊢;rw[A0];have a1:=L5 (s:=[40]) (t:=a.1) (by simp;omega);have a2:=L5 (s:=40 :: a.1) (t:=[32]) (by simp;omega);simp only[go_sem,seval,a1,a2];repeat' (apply wr<;>try simp only[go_sem,seval,a1,a2])
  refine AC.call (c_Next L hL w c.2 hl2.2 5 (by decide) (by decide) _ _ t (by rw[hnO];exact h_same) (by omega)) ?_;rintro v' H' c5 ⟨rfl,rfl⟩ hc5;have hlt:=I7 L c.2 (n:=5) (by decide);generalize nxK L 5 c.2=kq at hlt ⊢;obtain⟨k3,i3⟩:=kq;dsimp only at hlt ⊢;have hia:T9 1 (.slc c4 0 5) (I64 (k3:Int))=some (.ptr c4 k3):=by simp[T9];omega
  have hld:([.str [43],.str [45],.str [42],.str [47],.str [37]]:List DV)[k3]? = some (.str (B5c.getD k3 [])):=by
   match k3,hlt with
   |0,_=>rfl
   |1,_=>rfl
   |2,_=>rfl
   |3,_=>rfl
   |4,_=>rfl
  have hg:=Z4 (l:=B5c) (n:=5) (by decide) k3;generalize B5c.getD k3 []=og at hg hld ⊢;generalize hWL:([.str [43],.str [45],.str [42],.str [47],.str [37]]:List DV)=WL at hld ⊢;have ne0:=X4 t c4 (by omega);have a3:=L5 (s:=40 :: (a.1++[32])) (t:=og) (by simp;omega);have a4:=L5 (s:=40 :: (a.1++[32]++og)) (t:=[32]) (by simp;omega);have a5:=L5 (s:=40 :: (a.1++[32]++og++[32])) (t:=c.1) (by simp;omega);have a6:=L5 (s:=40 :: (a.1++[32]++og++[32]++c.1)) (t:=[41]) (by simp;omega);simp only[go_sem,seval,h_same,A0,ne0,hia,hld,a3,a4,a5,a6];repeat' (apply wr<;>try simp only[go_sem,seval,h_same,A0,ne0,hia,hld,a3,a4,a5,a6])
  exact⟨_,_,A9b hfr htc (by omega),by simp,rfl⟩
 unfold wlK;by_cases h0:0<w
 ·have q0:decide ((w:Int)>0)=true:=by simpa using h0
  have hw4:IntKind.i64.wrap (4 * (w:Int))=((4 * w:Nat):Int):=by rw[w6z (by omega)];omega
  repeat' (apply wr<;>try simp only[go_sem,seval,ht,q0,hw4])
  refine AC.call (c_Next L hL w i hi (4 * w) (by omega) (by omega) _ _ t ht (by omega)) ?_;rintro v' H' c2 ⟨rfl,rfl⟩ hc2;have hi2:=E3 hL (n:=4 * w) hi;generalize nxK L (4 * w) i=k at hi2 ⊢;obtain⟨k,i2⟩:=k;dsimp only at hi2 ⊢;by_cases k1:k=1
  ·subst k1;rw[if_pos ⟨h0,rfl⟩];simp only[go_sem,seval];repeat' (apply wr<;>try simp only[go_sem,seval,hw1])
   refine AC.call (h2 i2 hi2 _ _ t h_same (by omega)) ?_;rintro v' H' c3 ⟨rfl,rfl⟩ hc3;rw[A0];simp only[go_sem,seval];repeat' (apply wr<;>try simp only[go_sem,seval])
   exact⟨_,_,GL.refl _ _,rfl,rfl⟩
  have q1:((k:Int) == 1)=false:=by simp;omega
  rw[if_neg (fun h=>k1 h.2),if_pos h0];simp only[go_sem,seval,q1];repeat' ((with_reducible first|refine F6 (p:=IW _ _ (pz Tryz.prog 15 (.i (.i (.o .h)))) _ _) ?_|refine wr ?_|fail)<;>try simp only[go_sem,seval,q1])
  exact IW.stage (by simp[B9,tm,Tm.upd]) (kI i2 _ hi2 hc2)
 ·have q0:decide ((w:Int)>0)=false:=by simpa using h0
  rw[if_neg (fun h=>h0 h.1),if_neg h0];repeat' ((with_reducible first|refine F6 (p:=IW _ _ (pz Tryz.prog 15 (.i (.i (.o .h)))) _ _) ?_|refine wr ?_|fail)<;>try simp only[go_sem,seval,ht,q0])
  have:=kI i cc hi (A0C _);rw[upd_same ht]at this;exact IW.stage (by simp[B9,tm,Tm.upd]) this
theorem c_exK(L:List UInt8)(hL:L.length<=300)(w:Nat)(hw:w<=100):∀ d,d<=10->InC L w d/\BlC L w d
 |0,_=>⟨fun i hi H cc t ht htc=>by rw[inK];exact c_in0 L hL w hw i hi 0 (by omega) (by omega) H cc t ht htc,fun i hi H cc t ht htc=>by rw[blK];exact c_bl0 L hL w hw i hi 0 (by omega) H cc t ht htc⟩
 |d+1,h=>by
  obtain⟨h1,h2⟩:=c_exK L hL w hw d (by omega);exact⟨c_in2 L hL w hw d (by omega) h1 h2,c_bl1 L hL w hw d (by omega) h1 h2⟩
theorem c_New(l:List UInt8)(hl:l.length<=9223372036854775807)(H:Hp)(cc:Nat):
  AC Tryz.prog 14 [.lst (bytesC l)] H cc (fun v H' c' => ∃ t,cc<=t/\t<c'/\v=.ptr t 0/\H'=H.upd t (mkB (l.take 300) 0 0)):=by
 refine AC.bodyT A2 rfl (A0A rfl) fun hfr=>?_;have hlen:(bytesC l).length=l.length:=by simp[bytesC]
 have hmin:(if (300:Int)<((l.length:Nat):Int) then (300:Int) else ((l.length:Nat):Int))=((min l.length 300:Nat):Int):=by split<;>omega
 have hsl:A2c H 1 (.lst (bytesC l)) none (some (I64 ((min l.length 300:Nat):Int)))=some (.lst (bytesC (l.take 300))):=by
  have hb:boundOf (bytesC l).length (some (I64 ((min l.length 300:Nat):Int)))=some (min l.length 300):=by simp[boundOf]
  have hu:Sym.unit 1 (bytesC l)=true:=by simp only[Sym.unit,bytesC,List.all_map];exact A0Q.2 fun x _=>rfl
  simp only[A2c,hb];have h0:boundOf 0 none=some 0:=rfl;rw[h0];dsimp only;rw[if_pos ⟨by rw[hlen];omega,A0V _,hu⟩];rw[A2X,Nat.sub_zero];unfold bytesC;rw[<- List.map_take];have e:l.take (min l.length 300)=l.take 300:=by
   rcases Nat.le_total l.length 300 with h|h
   ·rw[Nat.min_eq_left h,A0U (A0C _),A0U h]
   ·rw[Nat.min_eq_right h]
  rw[e]
 repeat' ((with_reducible first|refine wr ?_|refine k_cu ?_ ?_|refine wb2 ?_ ?_<;>(intro hb;try simp only[hb])|fail)<;>try simp only[go_sem,seval,hlen,hmin,hsl])
 exact⟨_,_,GL.refl _ _,cc,A0C _,A1I _,rfl,rfl⟩
theorem sj{a b:List UInt8}{w:Option DV}(hz:binR .add (.str a) (.str b)=w){n:Nat}(h:a.length+b.length<=n)(hn:n<=1000000):∃ z,z=a++b/\z.length<=n/\w=some (.str z) :=
 ⟨_,rfl,by simpa using h,by rw[<- hz];exact L5 (by omega)⟩
theorem D1u{sz:Nat}{xs:List DV}{k:IntKind}:T9 sz (.lst xs) (.int k 2)=B4j sz xs[2]? := A8i (l:=2)
theorem hi(L:List Ins)(H:Hp):A0u H 2 (R3 L)=some (L.length,K9 L):=by
 have hu:Sym.unit 2 (L.map Ins.v)=true:=by unfold Sym.unit;rw[List.all_map];exact A0Q.2 fun _ _=>rfl
 rw[C1p hu,A0J];rfl
theorem hil(L:List Ins):(K9 L).length=L.length * 2:=by
 unfold K9;rw[C4 (u:=2) (B1p L),A0J]
theorem ht(L:List Ins):(K9 L).take (L.length * 2)=K9 L:=by rw[<- hil];exact A1S
theorem h15(L:List Ins):K9 L++[DV.int .i64 15,DV.int .i64 0]=K9 (L++[⟨15,0⟩]):=by rw[N7];rfl
theorem h45(L:List Ins):K9 L++[DV.int .i64 15,DV.int .i64 0,DV.int .i64 31,DV.int .i64 0,DV.int .i64 30,DV.int .i64 0,DV.int .i64 31,DV.int .i64 0]=K9 (L++[⟨15,0⟩,⟨31,0⟩,⟨30,0⟩,⟨31,0⟩]):=by rw[N7];rfl
theorem c_SameIO(a b:List Ins)(n1:a.length<=9223372036854775807){id n cc:Nat}{H:Hp}(hb:H id=some ⟨2,true,K9 b⟩)(hn:b.length=n):
  AC Tryz.prog 18 [R3 a,.slc id 0 n] H cc (fun v H' c'=>v=.bool (decide (a=b))/\H'=delO H (some id)/\c'=cc) :=
 AC.ghost (GL.frzS (id:=id) hb rfl (fun j=>by
  by_cases e:j=id
  ·subst e;exact .inl (by rw[A9h,if_pos rfl])
  ·exact .inr ⟨e,by rw[A9h,if_neg e]⟩) (.cons _ _ _ _ (.same _) (.cons _ _ _ _ (M2 (xs:=b.map Ins.v) (u:=2) (by rw[A0J,hn]) (B1p _) ⟨[],by rw[A1B];rfl⟩) .nil))) ((c_SameI a b n1).at _ cc)
theorem eq4(a b c d:Int):A5x false [0,0,0,0] (.agg [I64 a,I64 b,I64 c,I64 d]) (.agg [I64 a,I64 b,I64 c,I64 d])=some (.bool true):=by simp[A5x,K1,Z8]
theorem c_CompileJoins(l:List UInt8)(hl:l.length<=9223372036854775807)(u:UInt8):PC Tryz.prog 4 [.lst (bytesC l),.int .u8 (u.toNat:Int)] (.bool true):=by
 have hs:=c_sane34;refine PC.ofT A2 rfl (A0A rfl) (by simp[DV.nlL,DV.nl,show DV.nlL (bytesC l)=true from I2 (fun _=>rfl) l]) rfl ?_;have h300:(l.take 300).length<=300:=by rw[A1D];omega
 have hub:=u.toNat_lt;have hrm:binR .rem (.int .u8 (u.toNat:Int)) (.int .u8 64)=some (.int .u8 ((u.toNat % 64:Nat):Int)):=by rw[B0t (by decide)];rfl
 have hw1:IntKind.i64.wrap ((u.toNat % 64:Nat):Int)=((u.toNat % 64:Nat):Int):=w6z (by omega);have hu:u.toNat % 64<64:=Nat.mod_lt _ (by decide);generalize u.toNat % 64=k at hrm hw1 hu;repeat' ((with_reducible first|refine wr ?_|refine k_cu ?_ ?_|refine wb2 ?_ ?_<;>(intro hb;try simp only[hb])|fail)<;>try simp only[go_sem,seval])
 refine AC.call (c_New l hl _ _) ?_;rintro v' H' c3 ⟨t,ht1,ht2,rfl,rfl⟩ hc3;simp only[go_sem,seval,hrm,hw1];repeat' ((with_reducible first|refine wr ?_|refine k_cu ?_ ?_|refine wb2 ?_ ?_<;>(intro hb;try simp only[hb])|fail)<;>try simp only[go_sem,seval,hrm,hw1])
 have hK:=c_exK (l.take 300) h300 0 (by omega) 1 (by omega);have hP:=C3f (l.take 300) 0 1;have hO:=A4c h300 0 1;have hX:=C3g (l.take 300) 1;refine AC.call (hK.1 0 (by omega) _ _ t h_same (by omega)) ?_;rintro v' H' c4 ⟨rfl,rfl⟩ hc4;have hpot:=hP.1 0;have hok:=(hO.1 0 (by omega)).2;have xA:=hX.1 0;generalize inK (l.take 300) 0 1 0=a at hpot hok xA ⊢;obtain⟨A,i⟩:=a;dsimp only at hpot hok xA ⊢;rw[A0];simp only[go_sem,seval];repeat' ((with_reducible first|refine wr ?_|refine k_cu ?_ ?_|refine wb2 ?_ ?_<;>(intro hb;try simp only[hb])|fail)<;>try simp only[go_sem,seval])
 refine AC.call (hK.1 i hok _ _ t h_same (by omega)) ?_;rintro v' H' c5 ⟨rfl,rfl⟩ hc5;have hpot2:=hP.1 i;have hok2:=(hO.1 i hok).2;have xB:=hX.1 i;generalize inK (l.take 300) 0 1 i=b at hpot2 hok2 xB ⊢;obtain⟨B,j⟩:=b;dsimp only at hpot2 hok2 xB ⊢;rw[A0];obtain⟨q,x,y,p,hpar,hx,hy⟩:=C0p (A:=A) (B:=B) xA xB (by omega);simp only[go_sem,seval];repeat' ((with_reducible first|refine wr ?_|refine k_cu ?_ ?_|refine wb2 ?_ ?_<;>(intro hb;try simp only[hb])|fail)<;>try simp only[go_sem,seval])
 generalize hz:binR BinOp.add _ _=w;obtain⟨z1,e1,n1,rfl⟩:=sj (n:=200) hz (by simp) (by omega);clear hz;simp only[go_sem,seval];repeat' ((with_reducible first|refine wr ?_|refine k_cu ?_ ?_|refine wb2 ?_ ?_<;>(intro hb;try simp only[hb])|fail)<;>try simp only[go_sem,seval])
 generalize hz:binR BinOp.add _ _=w;obtain⟨z2,e2,n2,rfl⟩:=sj (n:=300) hz (by simp;omega) (by omega);clear hz;simp only[go_sem,seval];repeat' ((with_reducible first|refine wr ?_|refine k_cu ?_ ?_|refine wb2 ?_ ?_<;>(intro hb;try simp only[hb])|fail)<;>try simp only[go_sem,seval])
 generalize hz:binR BinOp.add _ _=w;obtain⟨z3,e3,n3,rfl⟩:=sj (n:=300+A.length) hz (by omega) (by omega);clear hz;simp only[go_sem,seval];repeat' ((with_reducible first|refine wr ?_|refine k_cu ?_ ?_|refine wb2 ?_ ?_<;>(intro hb;try simp only[hb])|fail)<;>try simp only[go_sem,seval])
 generalize hz:binR BinOp.add _ _=w;obtain⟨z4,e4,n4,rfl⟩:=sj (n:=500+A.length) hz (by simp;omega) (by omega);clear hz;simp only[go_sem,seval];repeat' ((with_reducible first|refine wr ?_|refine k_cu ?_ ?_|refine wb2 ?_ ?_<;>(intro hb;try simp only[hb])|fail)<;>try simp only[go_sem,seval])
 generalize hz:binR BinOp.add _ _=w;obtain⟨z5,e5,n5,rfl⟩:=sj (n:=500+A.length+B.length) hz (by omega) (by omega);clear hz;simp only[go_sem,seval];repeat' ((with_reducible first|refine wr ?_|refine k_cu ?_ ?_|refine wb2 ?_ ?_<;>(intro hb;try simp only[hb])|fail)<;>try simp only[go_sem,seval])
 generalize hz:binR BinOp.add _ _=w;obtain⟨z6,e6,n6,rfl⟩:=sj (n:=600+A.length+B.length) hz (by simp;omega) (by omega);clear hz;simp only[go_sem,seval];repeat' ((with_reducible first|refine wr ?_|refine k_cu ?_ ?_|refine wb2 ?_ ?_<;>(intro hb;try simp only[hb])|fail)<;>try simp only[go_sem,seval])
 have hz:z6=txJ A B:=by
  rw[e6,e5,e4,e3,e2,e1];simp[txJ]
 rw[hz];refine AC.call (c_ParseO (txJ A B) (by rw[<- hz];omega) hpar (by simp[rJ,dsJ]) _ _) ?_;rintro v' H' c6 ⟨i1,h1,h2,rfl,rfl⟩ hc6;rw[show (rJ (dsJ 0 q) x y p).decls.length=7 from rfl,show cellsL ((rJ (dsJ 0 q) x y p).decls.map Dc.v)=cellsL ((dsJ 0 q).map Dc.v) from rfl];clear e1 e2 e3 e4 e5 e6 n1 n2 n3 n4 n5 n6 hz hpot hpot2 hP hK hO hX xA xB;obtain⟨M,hM⟩:∃ M,M=(rJ (dsJ 0 q) x y p).modes.map Md.v:=⟨_,rfl⟩;rw[show E4 (rJ (dsJ 0 q) x y p).modes=.lst M by rw[hM]];have ne0:=T8 t i1 c6 (c6+1) (by omega);have b0:cellsL ((dsJ 0 q).map Dc.v)=[I64 1,.str [112],I64 0,I64 (q.getD 0 0),I64 1,.str [113],I64 0,I64 (q.getD 1 0)]++cellsL (((dsJ 0 q).drop 2).map Dc.v):=rfl;rw[b0];obtain⟨R,hR⟩:∃ R,R=cellsL (((dsJ 0 q).drop 2).map Dc.v):=⟨_,rfl⟩;rw[<- hR];simp only[go_sem,seval,ne0,h_same,A0];repeat' ((with_reducible first|refine wr ?_|refine k_cu ?_ ?_|refine wb2 ?_ ?_<;>(intro hb;try simp only[hb])|fail)<;>try simp only[go_sem,seval,ne0,h_same,A0])
 repeat refine⟨by and_intros<;>(repeat rw[hnO])<;>rfl,?_⟩
 obtain⟨r,hr⟩:∃ r,r=rJ (dsJ k q) x y p:=⟨_,rfl⟩;have hcells:cellsL ((dsJ k q).map Dc.v)=I64 1 :: .str [112] :: I64 k :: I64 (q.getD 0 0) :: I64 1 :: .str [113] :: I64 k :: I64 (q.getD 1 0) :: R:=by rw[hR];rfl
 refine IW.keep [6,10] [I64 k,.ptr c6 0] ((g_cell (a:=i1) (k:=c6) (u:=4) (u':=4) (pre:=[]) (suf:=[.lst M]) (xs:=(dsJ k q).map Dc.v) (n:=7) (junk:=[]) (by rw[hnO];exact h_same) (by rw[A1B,hcells];exact h_same) (by simp[DV.one]) rfl (B7q _) (by omega)).trans
  (GL.less' (H0:=Sym.nil.upd c6 ⟨0,true,[F7 (dsJ k q),.lst M]⟩) fun j b hj=>?_)) ?_
 ·by_cases e:j=c6
  ·subst e;rw[h_same]at hj ⊢;exact hj
  ·rw[h_ne e]at hj;cases hj
 have hv0:L1 (rJ (dsJ 0 q) x y p)=true:=by have:=B3r (txJ A B);rw[hpar]at this;exact this
 have hsz:r.sz<4000000:=by
  have h:=C6s (txJ A B);rw[hpar]at h;rw[hr,show (rJ (dsJ k q) x y p).sz=(rJ (dsJ 0 q) x y p).sz from rfl];have:(rJ (dsJ 0 q) x y p).sz<=2000000:=h;omega
 obtain⟨hxs,hys⟩:x.sz<=r.sz/\y.sz<=r.sz:=by
  rw[hr];simp[rJ,Ru.sz,Md.sz,Hd.sz,St.sz,St.szs,Ex.szs];omega
 obtain⟨g1,g2,g3⟩:=D9b (k:=k) (q:=q) (p:=p) (by omega) hx hy hv0;have hc1:=c_PCompile r hsz;have hc2:=c_PExpr r x hsz (by omega);have hc3:=c_PExpr r y hsz (by omega);have hrv:r.v=.agg [F7 (dsJ k q),.lst M]:=by rw[hM,hr];rfl
 rw[<- hr]at g1 g2 g3;rw[g1,hrv]at hc1;rw[g2,hrv]at hc2;rw[g3,hrv]at hc3;obtain⟨-,vx,vy⟩:=C8y (k:=k) (q:=q) (p:=p) (by omega) hv0;have lx:=A9l (nmR r) vx;have ly:=A9l (nmR r) vy;have px:¬ (cgE (nmR r) x).length=0:=by rw[C9x];simp
 generalize hX:cgE (nmR r) x=X at *;generalize hY:cgE (nmR r) y=Y at *;dsimp only[B4u,cxV,Prg.v,Prg.cs]at hc1 hc2 hc3;rw[Ex.v_w]at hc2 hc3;dsimp only[Ex.w]at hc2 hc3;have hML:M=[.agg [.str [109],I64 1,.lst [.agg [I64 3,.str [112],.lst [.agg [I64 4,.str [],.str [],.lst [.agg [I64 x.kind,I64 x.value,.str x.name,G7 x.args,I64 x.pos]],.lst [],.lst [],I64 (p.getD 1 0)]],I64 (p.getD 2 0)],
   .agg [I64 4,.str [112],.lst [.agg [I64 19,.str [],.str [],.lst [],.lst [],.lst [],I64 (p.getD 3 0)]],I64 (p.getD 4 0)],
   .agg [I64 3,.str [113],.lst [.agg [I64 4,.str [],.str [],.lst [.agg [I64 y.kind,I64 y.value,.str y.name,G7 y.args,I64 y.pos]],.lst [],.lst [],I64 (p.getD 5 0)]],I64 (p.getD 6 0)]],I64 (p.getD 0 0)]]:=by
  rw[hM];simp[rJ,Md.v,Hd.v,Pb.St.v_w,Ex.v_w,Ex.w,Pb.St.kind,Pb.St.name,Pb.St.text,Pb.St.args,Pb.St.thn,Pb.St.els,Pb.St.pos]
 clear hM hpar hv0 hcells hR b0 g1 g2 g3 hrv hx hy;generalize (dsJ k q).map Dc.v=DD at *;dsimp only[List.zip,List.zipWith];obtain⟨c7,e7⟩:∃ c7,c7=c6+1+12:=⟨_,rfl⟩;rw[<- e7];have n67:¬ c6=c7:=by omega
 have n76:¬ c7=c6:=by omega
 subst hML;repeat' ((with_reducible first|refine wr ?_|refine cpc hc1 ?_|refine cpc hc2 ?_|refine cpc hc3 ?_|refine k_cu ?_ ?_|refine wb2 ?_ ?_<;>(intro hb;try simp only[hb])|fail)<;>try simp only[go_sem,seval,h_same,A0,n67,n76])
 repeat refine⟨by and_intros<;>(repeat rw[hnO])<;>rfl,?_⟩
 repeat' ((with_reducible first|refine wr ?_|refine cpc hc2 ?_|refine cpc hc3 ?_|refine k_cu ?_ ?_|refine wb2 ?_ ?_<;>(intro hb;try simp only[hb])|fail)<;>try simp only[go_sem,seval,h_same,A0,n67,n76,D1u])
 repeat refine⟨by and_intros<;>(repeat rw[hnO])<;>rfl,?_⟩
 obtain⟨C,hC⟩:∃ C:List Ins,C=X++⟨15,0⟩ :: (Y++[⟨15,0⟩,⟨31,0⟩,⟨30,0⟩,⟨31,0⟩]):=⟨_,rfl⟩;rw[<- hC];refine IW.keep (H':=Sym.nil.upd c7 ⟨0,true,[R3 C,strs [],B2g [⟨0,3,k,0⟩,⟨0,4,k,((X.length+Y.length+3:Nat):Int)⟩],H8 [1],H8 [0,0,0],I64 2,I64 0]⟩) [6,13,15,16,18,19,21] [I64 k,.ptr c7 0,I64 0,R3 X,I64 0,R3 Y,I64 0] ?_ ?_
 ·refine GL.less' fun j b hj=>?_;by_cases e:j=c7
  ·subst e;rw[h_same]at hj ⊢;exact hj
  ·rw[h_ne e]at hj;cases hj
 dsimp only[List.zip,List.zipWith];obtain⟨c8,e8⟩:∃ c8,c8=c7+1+22+22:=⟨_,rfl⟩;rw[<- e8];have n78:c7<c8:=by omega
 clear hc2 hc3 e7 n67 n76 hc1 h1 h2 hsz hxs hys;repeat' ((with_reducible first|refine wr ?_|refine k_cu ?_ ?_|refine wb2 ?_ ?_<;>(intro hb;try simp only[hb])|fail)<;>try simp only[go_sem,seval,h_same,A0])
 rw[hi,C1u,C1v px (by omega) (by unfold maxLen;omega)];simp only[go_sem,seval,h_same];repeat' ((with_reducible first|refine wr ?_|refine k_cu ?_ ?_|refine wb2 ?_ ?_<;>(intro hb;try simp only[hb])|fail)<;>try simp only[go_sem,seval,h_same,A0])
 rw[hnO,h_same,B7v (Nat.le_of_eq (hil _).symm) (by omega) (by unfold maxLen;omega),ht,h15];have l1:(X++[(⟨15,0⟩:Ins)]).length=X.length+1:=by simp
 rw[<- l1];obtain⟨W1,hW1⟩:∃ W1,W1=X++[(⟨15,0⟩:Ins)]:=⟨_,rfl⟩;rw[<- hW1]at l1 ⊢;simp only[go_sem,seval,h_same];repeat' ((with_reducible first|refine wr ?_|refine k_cu ?_ ?_|refine wb2 ?_ ?_<;>(intro hb;try simp only[hb])|fail)<;>try simp only[go_sem,seval,h_same,A0])
 rw[hi,C1u,B3l,h_same,B7v (Nat.le_of_eq (hil _).symm) (by omega) (by unfold maxLen;omega),ht, <- N7, <- A0D];simp only[go_sem,seval,h_same];repeat' ((with_reducible first|refine wr ?_|refine k_cu ?_ ?_|refine wb2 ?_ ?_<;>(intro hb;try simp only[hb])|fail)<;>try simp only[go_sem,seval,h_same,A0])
 rw[hnO,h_same,B7v (Nat.le_of_eq (hil _).symm) (by rw[A0D];omega) (by rw[A0D];unfold maxLen;omega),ht,h45];have l4:(W1++Y++[(⟨15,0⟩:Ins),⟨31,0⟩,⟨30,0⟩,⟨31,0⟩]).length=(W1++Y).length+4:=by simp;omega
 rw[<- l4,show W1++Y++[(⟨15,0⟩:Ins),⟨31,0⟩,⟨30,0⟩,⟨31,0⟩]=C by rw[hC,hW1];simp only[A0L,A0W,A1J]];have lC:C.length=X.length+Y.length+5:=by rw[hC];simp;omega
 obtain⟨c9,e9⟩:∃ c9,c9=c8+1+1+1+1+1:=⟨_,rfl⟩;rw[<- e9];generalize hHH:Hp.upd _ c9 _=HH;have x9:HH c9=some ⟨2,true,K9 C⟩:=by rw[<- hHH];exact h_same
 have x7:HH c7=some ⟨0,true,[R3 C,strs [],B2g [⟨0,3,k,0⟩,⟨0,4,k,((X.length+Y.length+3:Nat):Int)⟩],H8 [1],H8 [0,0,0],I64 2,I64 0]⟩:=by
  rw[<- hHH,hnO,B4q (by omega),hnO,hnO,B4q (by omega),hnO,B4q (by omega),hnO,hnO];exact h_same
 clear hHH;have hsa:=c_SameIO C C (by omega) (cc:=c9+1) x9 rfl;have hsub:IntKind.i64.wrap ((C.length:Int)-2)=((X.length+Y.length+3:Nat):Int):=by rw[w6z (by omega)];omega
 simp only[go_sem,seval,h_same];repeat' ((with_reducible first|refine wr ?_|refine k_cu ?_ ?_|refine wb2 ?_ ?_<;>(intro hb;try simp only[hb])|fail)<;>try simp only[go_sem,seval,h_same,x7,x9,hsub])
 refine AC.call hsa ?_;rintro v' H' c' ⟨rfl,rfl,rfl⟩ -;rw[decide_eq_true rfl];have x7:delO HH (some c9) c7=some ⟨0,true,[R3 C,strs [],B2g [⟨0,3,k,0⟩,⟨0,4,k,((X.length+Y.length+3:Nat):Int)⟩],H8 [1],H8 [0,0,0],I64 2,I64 0]⟩:=by rw[A9h,if_neg (by omega)];exact x7
 generalize delO HH (some c9)=HH at x7;simp only[go_sem,seval,x7,hsub,C1s,eq4];repeat' ((with_reducible first|refine wr ?_|refine cpc hs ?_|refine k_cu ?_ ?_|refine wb2 ?_ ?_<;>(intro hb;try simp only[hb])|fail)<;>try simp only[go_sem,seval,x7,hsub,C1s,eq4])
 exact⟨_,GL.refl _ _⟩
end Go.Proofs.YtenmhfknbopmeaaGreatDoor
end

/-
  HELPERS of the claim: part 9 of its texts.
-/
import Derived.Test.YtkkjpohaffjecaaGreatDoorCmyh
import Derived.Test.YtkkjpohaffjecaaGreatDoorProg
noncomputable section
set_option maxHeartbeats 4000000
set_option maxRecDepth 100000
set_option linter.unusedSimpArgs false
set_option linter.unusedVariables false
namespace Go.Proofs.YtkkjpohaffjecaaGreatDoor
open Go.Eng (IC IOper DReg IFn L2)
open Go.Sym Go.Pb
abbrev keB(k:Ky):Blk:=⟨0,true,[I64 k.mode,I64 k.trig,I64 k.ix,I64 0]⟩
theorem c_sameK(k q:Ky)(j n:Nat)(H:Hp)(c e:Nat)(he:H e=some (keB q))(hec:e<c):AC Tryz.prog 105 [.agg [I64 k.mode,I64 k.trig,I64 k.ix,I64 0,.slc j 0 n],.ptr e 0] H c (fun v H' c'=>v=.bool (decide (k=q))/\H'=H):=by
 refine AC.bodyT A2 rfl (A0D rfl) fun hfr=>?_;have ne0:=A0m e c (by omega);have hq:B0f false [0,0,0,0] (.agg [I64 k.mode,I64 k.trig,I64 k.ix,I64 0]) (.agg [I64 q.mode,I64 q.trig,I64 q.ix,I64 0])=some (.bool (decide (k=q))):=by
  rw[E3a]
  congr 2
  obtain⟨a1,a2,a3⟩:=k;obtain⟨b1,b2,b3⟩:=q;rw[A2G];simp
 repeat' (apply wr<;>try simp only[go_sem,seval,he,ne0,h_same,hq])
 exact⟨_,_,GL.less' (fun j B hj=>by rw[h_ne (by rintro rfl;rw[hfr _ (A0E _)]at hj;cases hj)];exact hj),rfl,rfl⟩
theorem c_IxP(q:Ky)(l:List C8)(is:List Nat)(hl:l.length<=1000000)(hn:is.length=l.length)(H:Hp)(c e:Nat)(o:Option Nat)(ho:∀ i,o=some i->H i=some ⟨5,true,ptC is l⟩)(hno:o=none->l=[])(he:H e=some (keB q))(hec:e<c):
  AC Tryz.prog 104 [todoV o l.length,.func 105 [] [.ptr e 0]] H c (fun v H' c'=>v=I64 (ixP q l 0)/\H'=H):=by
 cases o with
 |none =>
  obtain rfl:=hno rfl;refine AC.bodyT A2 rfl (A0D rfl) fun hfr=>?_;repeat' (apply wr<;>try simp only[go_sem,seval])
  refine A9 (fun k:Nat=>[(0,.snil),(7,I64 0),(8,I64 0)]) (fun _=>H) (fun k c=>True) (fun k=>0) 0 (by simp[C1,tm,Tm.upd]) (Sub.refl _) trivial ?_;rintro k c' -;repeat' (apply wr<;>try simp only[go_sem,seval])
  exact⟨_,_,GL.refl _ _,rfl,rfl⟩
 |some i =>
  have hi:=ho i rfl;refine AC.bodyT A2 rfl (A0D rfl) fun hfr=>?_;repeat' (apply wr<;>try simp only[go_sem,seval])
  refine A9 (fun k:Nat=>[(0,.slc i 0 l.length),(1,.func 105 [] [.ptr e 0]),(7,I64 l.length),(8,I64 k)]) (fun _=>H) (fun k cc=>c<=cc/\k<=l.length/\ixP q l 0=ixP q (l.drop k) k) (fun k=>l.length-k) 0 (by simp[C1,tm,Tm.upd]) (Sub.refl _) ⟨A0E _,by omega,rfl⟩ ?_;rintro k c' ⟨hc,hk,hv⟩;by_cases hlt:k<l.length
  ·have hd:=dtz hlt;have hg:=A0B hlt;have hgi:=A0B (show k<is.length by omega);have hw:IntKind.i64.wrap ((k:Int)+1)=((k+1:Nat):Int):=by rw[w6z (by omega)];omega
   rw[C7t hg]at hv;have hcl:=B8c hn hgi hg;have hcn:=Z5 hn;have hle:k * 5+5<=(ptC is l).length:=by omega
   generalize l[k]=p at hg hv hcl;generalize is[k]=j at hgi hcl;repeat' (apply wr<;>try simp only[go_sem,seval,hi,hd,hcl,hle,hlt])
   refine AC.call (c_sameK p.1 q j p.2.length H c' e he (by omega)) ?_;rintro _ _ c2 ⟨rfl,rfl⟩ hc2;by_cases hpq:p.1=q
   ·have hb:decide (p.1=q)=true:=by simpa using hpq
    rw[if_pos hpq]at hv;simp only[go_sem,seval,hb];repeat' (apply wr<;>try simp only[go_sem,seval])
    exact⟨_,_,GL.refl _ _,by rw[hv],rfl⟩
   ·have hb:decide (p.1=q)=false:=by simpa using hpq
    rw[if_neg hpq]at hv;simp only[go_sem,seval,hb];repeat' (apply wr<;>try simp only[go_sem,seval,hw])
    exact⟨k+1,rfl,Sub.refl _,inv ⟨by omega,hlt,hv⟩,by omega⟩
  ·have hd:=dfz hlt;have hk:k=l.length:=by omega
   rw[hk,A3X,ixP]at hv;rw[hv];repeat' (apply wr<;>try simp only[go_sem,seval,hd])
   exact⟨_,_,GL.refl _ _,rfl,rfl⟩
open Go.Sym
abbrev x179:XT Tryz.prog 179:=mkF
instance t179:FT Tryz.prog 179 x179.d:=x179.ft
theorem c_IdxO(x:List UInt8)(l:List (List UInt8))(hl:l.length<=100000000)(H:Hp)(c:Nat)(o:Option Nat)(hn:o=none->l=[])(hb:∀ i,o=some i->H i=some ⟨1,true,txC l⟩):
  AC Tryz.prog 179 [todoV o l.length,.str x] H c (fun v H' c'=>v=I64 (A3q x 0 l)/\H'=H):=by
 cases o with
 |none =>
  obtain rfl:=hn rfl;refine AC.bodyT A2 rfl (A0D rfl) fun hfr=>?_;repeat' (apply wr<;>try simp only[go_sem,seval])
  refine A9 (fun k:Nat=>[(0,.snil),(1,.str x),(7,I64 0),(8,I64 0)]) (fun _=>H) (fun k c=>True) (fun k=>0) 0 (by simp[C1,tm,Tm.upd]) (Sub.refl _) trivial ?_;rintro k c' -;repeat' (apply wr<;>try simp only[go_sem,seval])
  exact⟨_,_,GL.refl _ _,rfl,rfl⟩
 |some i =>
  have hi:=hb i rfl;refine AC.bodyT A2 rfl (A0D rfl) fun hfr=>?_;repeat' (apply wr<;>try simp only[go_sem,seval])
  refine A9 (fun k:Nat=>[(0,.slc i 0 l.length),(1,.str x),(7,I64 l.length),(8,I64 k)]) (fun _=>H) (fun k c=>k<=l.length/\A3q x 0 l=A3q x k (l.drop k)) (fun k=>l.length-k) 0 (by simp[C1,tm,Tm.upd]) (Sub.refl _) ⟨by omega,rfl⟩ ?_;rintro k c' ⟨hk,hv⟩;by_cases hlt:k<l.length
  ·have hd:=dtz hlt;have hg:=A0B hlt;have hw:IntKind.i64.wrap ((k:Int)+1)=((k+1:Nat):Int):=by rw[w6z (by omega)];omega
   rw[A1C hlt,A3q]at hv;generalize l[k]=a at hg hv;have hc:(txC l)[k]? = some (.str a):=by rw[A1N,hg];rfl
   cases h:(x == a) with
   |true =>
    rw[if_pos h]at hv;rw[hv];repeat' (apply wr<;>try simp only[go_sem,seval,hi,hd,hc,h,hlt])
    exact⟨_,_,GL.refl _ _,rfl,rfl⟩
   |false =>
    rw[if_neg (by simp[h])]at hv;repeat' (apply wr<;>try simp only[go_sem,seval,hi,hd,hc,h,hw,hlt])
    exact⟨k+1,rfl,Sub.refl _,inv ⟨hlt,hv⟩,by omega⟩
  ·have hd:=dfz hlt;have hk:k=l.length:=by omega
   rw[hk,A3X,A3q]at hv;rw[hv];repeat' (apply wr<;>try simp only[go_sem,seval,hd])
   exact⟨_,_,GL.refl _ _,rfl,rfl⟩
theorem C7v(S:List (List UInt8))(x:List UInt8):(A3q x 0 S = -1/\txS S x=(S.length,S++[x]))\/(A3q x 0 S=((txS S x).1:Int)/\(txS S x).2=S):=by
 have key:∀ (S:List (List UInt8)) (k:Nat),(A3q x k S = -1/\x ∉ S)\/(A3q x k S=((k+S.idxOf x:Nat):Int)/\x∈S):=by
  intro S
  induction S with
  |nil=>intro k;exact .inl ⟨rfl,by simp⟩
  |cons a S ih =>
   intro k;rw[A3q];by_cases h:(x == a)=true
   ·have e:x=a:=by simpa using h
    subst e;right;rw[if_pos h];simp
   ·have e:¬ x=a:=by simpa using h
    have e2:¬ a=x:=fun q=>e q.symm;rw[if_neg h];rcases ih (k+1) with ⟨h1,h2⟩|⟨h1,h2⟩
    ·exact .inl ⟨h1,by simp[e,h2]⟩
    ·refine .inr ⟨?_,by simp[h2]⟩;rw[h1,List.idxOf_cons];have:(a == x)=false:=by simpa using e2
     rw[this];simp only[cond_false];omega
 unfold txS;rcases key S 0 with ⟨h1,h2⟩|⟨h1,h2⟩
 ·exact .inl ⟨h1,by rw[if_neg h2]⟩
 ·right;rw[if_pos h2,h1];simp
theorem B9v(S:List (List UInt8)):(txC S).length=S.length * 1:=by rw[A0C,A4P]
theorem c_gtext(e p v m:DV)(t n:Int)(s:List UInt8)(x:Cg)(hx:x.2.length<=100000000):GC 111 (mkP e p v m t n) [.str s] x (x.1,(txS x.2 s).2) (I64 (txS x.2 s).1):=by
 intro H0 c t' a b h;refine AC.bodyT A2 rfl (A0D rfl) fun hfr=>?_;have hM:=W6 (mk:=mkP e p v m t n) h;have h1:=h.tc;repeat' (apply wr<;>try simp only[go_sem,seval,hM])
 refine AC.call (c_IdxO s x.2 hx _ _ b h.bn (fun i hi=>A6h hi)) ?_;rintro _ H' c1 ⟨rfl,rfl⟩ hc;rcases C7v x.2 s with ⟨q1,q2⟩|⟨q1,q2⟩
 ·rw[q1,q2];have ne0:=R9 t' c1 (c1+1) (by omega);simp only[go_sem,seval];have hln:=O0 (o:=b) (n:=x.2.length) (fun e=>O6 (h.bn e));repeat' (apply wr<;>try simp only[go_sem,seval,hM,hln])
  refine F4 (D5 (cs:=txC x.2) (fun e=>⟨O6 (h.bn e),by rw[h.bn e];rfl⟩) (fun i hi=>?_) (B9v _) (by omega) (by omega) (by omega)) ?_
  ·have:=h.hb i hi;rw[hnO];exact A6h hi
  have dm:∀ X,delO X b t'=X t':=fun X=>B0 (fun i hi e=>(h.hb i hi).1 e.symm);simp only[go_sem,seval,dm,hM,ne0];repeat' (apply wr<;>try simp only[go_sem,seval])
  refine⟨_,_,GL.less' (C5f (y:=(x.1,x.2++[s])) (i:=c1+1) (h.le hc) (by omega) rfl (by simp) (by simp[todoV])),rfl,a,some (c1+1),(h.le hc).newB (by omega) (by omega) rfl,rfl⟩
 ·have hd:decide (A3q s 0 x.2<0)=false:=by rw[q1];simp
  simp only[go_sem,seval];repeat' (apply wr<;>try simp only[go_sem,seval,hd])
  rw[q1,q2];exact⟨_,_,GL.refl _ _,rfl,a,b,h.le hc,rfl⟩
theorem c_text34(d m:DV)(s:List UInt8)(x:Cg)(hx:x.2.length<=100000000):GC 296 (mkR d m) [.str s] x (x.1,(txS x.2 s).2) (I64 (txS x.2 s).1):=by
 intro H0 c t' a b h;refine AC.bodyT A2 rfl (A0D rfl) fun hfr=>?_;have hM:=W6 (mk:=mkR d m) h;have h1:=h.tc;have hB:∀ i,b=some i->GM H0 t' a b (mkR d m) x i=some ⟨1,true,txC x.2⟩:=fun i hi=>A6h hi;have hln:=O0 (o:=b) (n:=x.2.length) (fun e=>O6 (h.bn e));have hq:=C7v x.2 s;repeat' (apply wr<;>try simp only[go_sem,seval])
 refine A9 (fun k:Nat=>[(0,.ptr t' 0),(1,.str s),(5,I64 k)]) (fun _=>GM H0 t' a b (mkR d m) x) (fun k cc=>c<=cc/\k<=x.2.length/\A3q s 0 x.2=A3q s k (x.2.drop k)) (fun k=>x.2.length-k) 0 (by simp[C1,tm,Tm.upd]) (Sub.refl _) ⟨A0E _,by omega,rfl⟩ ?_;rintro k c' ⟨hc,hk,hv⟩;by_cases hlt:k<x.2.length
 ·have hd:=dtz hlt;have hg:=A0B hlt;have hw:IntKind.i64.wrap ((k:Int)+1)=((k+1:Nat):Int):=by rw[w6z (by omega)];omega
  rw[A1C hlt,A3q]at hv;obtain⟨i,rfl⟩:∃ i,b=some i:=by
   cases b with
   |none=>have:=h.bn rfl;rw[this]at hlt;cases hlt
   |some i=>exact⟨i,rfl⟩
  have hi:=hB i rfl;generalize x.2[k]=y at hg hv;have hcl:(txC x.2)[k]? = some (.str y):=by rw[A1N,hg];rfl
  cases hb:(s == y) with
  |true =>
   have hb':(y == s)=true:=by rw[BEq.comm];exact hb
   rw[if_pos hb]at hv;rw[hv]at hq;repeat' (apply wr<;>try simp only[go_sem,seval,hM,hi,hd,hcl,hb',hlt])
   rcases hq with ⟨q1,q2⟩|⟨q1,q2⟩
   ·omega
   ·rw[q2];exact⟨_,_,GL.refl _ _,by rw[q1],a,some i,h.le hc,rfl⟩
  |false =>
   have hb':(y == s)=false:=by rw[BEq.comm];exact hb
   rw[if_neg (by simp[hb])]at hv;repeat' (apply wr<;>try simp only[go_sem,seval,hM,hi,hd,hcl,hb',hw,hlt])
   exact⟨k+1,rfl,Sub.refl _,inv ⟨hc,hlt,hv⟩,by omega⟩
 ·have hd:=dfz hlt;have hk:k=x.2.length:=by omega
  rw[hk,A3X,A3q]at hv;rw[hv]at hq;rcases hq with ⟨q1,q2⟩|⟨q1,q2⟩
  rotate_left
  ·omega
  rw[q2];have hfr':=fun j (hj:c'<=j)=>hfr j (by omega);have ne0:=R9 t' c' (c'+1) (by omega);repeat' (apply wr<;>try simp only[go_sem,seval,hM,hd,hln])
  refine F4 (D5 (cs:=txC x.2) (fun e=>⟨O6 (h.bn e),by rw[h.bn e];rfl⟩) (fun i hi=>?_) (B9v _) (by omega) (by omega) (by omega)) ?_
  ·have:=h.hb i hi;rw[hnO];exact A6h hi
  have dm:∀ X,delO X b t'=X t':=fun X=>B0 (fun i hi e=>(h.hb i hi).1 e.symm);have hw:IntKind.i64.wrap (((x.2.length+1:Nat):Int)-1)=(x.2.length:Int):=by rw[w6z (by omega)];omega
  simp only[go_sem,seval,dm,hM,ne0];repeat' (apply wr<;>try simp only[go_sem,seval,h_same,hw])
  refine⟨_,_,GL.less' (C5f (y:=(x.1,x.2++[s])) (i:=c'+1) (h.le hc) (by omega) rfl (by simp) (by simp[todoV])),rfl,a,some (c'+1),(h.le hc).newB (by omega) (by omega) rfl,rfl⟩
theorem B0p(nm:List UInt8->Int):∀ a b:List Ex,C5 nm (a++b)=C5 nm a++C5 nm b
 |[],b=>rfl
 |x :: a,b=>by rw[List.cons_append,C5,C5,B0p nm a b,A0P]
theorem A3j(nm:List UInt8->Int){l:List Ex}{k:Nat}{x:Ex}(h:l[k]? = some x):C5 nm (l.take (k+1))=C5 nm (l.take k)++cgE nm x:=by
 rw[A0S,h,B0p];simp[C5]
theorem W4(nm:List UInt8->Int)(l:List Ex)(k:Nat):(C5 nm (l.take k)).length<=(C5 nm l).length:=by
 have h:=B0p nm (l.take k) (l.drop k);rw[A1W]at h;rw[h,A0A];omega
theorem c_gexpr(e p v:DV)(ks vs:List DV)(t n:Int)(nm:List UInt8->Int)(hm:∀ s,Sym.lkV (I64 0) false vs (E4 (.str s) ks 0)=some (I64 (nm s))):∀ (z:Nat) (ex:Ex),ex.sz<z->ex.sz<=100000000->∀ x:Cg,x.1.length+(cgE nm ex).length<=100000000 ->
  GC 87 (mkP e p v (.mp .s ks vs) t n) [ex.v] x (x.1++cgE nm ex,x.2) (.tup []):=by
 intro z
 induction z with
 |zero=>intro ex h;omega
 |succ z ih =>
 intro ex hz hB x hx H0 c t' a b h;have hal:Ex.szs ex.args<ex.sz:=by cases ex with|mk k v n a p=>rw[Ex.sz];show Ex.szs a<_;omega
 have hargs:∀ x∈ex.args,x.sz<=Ex.szs ex.args:=fun x hx=>Ex.szs_mem hx;have hll:=Ex.szs_len ex.args;have hE:=D4m nm ex;rw[hE]at hx ⊢;rw[Ex.v_w];cases ex with|mk k vv nn ar pos =>
 dsimp only[Ex.w,Ex.kind,Ex.value,Ex.name,Ex.args,Ex.pos]at hal hargs hll hx ⊢;clear hE;rw[A0A,A0N]at hx;have h1:=h.tc;refine AC.bodyT A2 rfl (A0D rfl) fun hfr=>?_;repeat' (apply wr<;>try simp only[go_sem,seval])
 obtain⟨B,hBe⟩:∃ B:Blk,B=⟨0,true,[I64 k,I64 vv,.str nn,G9 ar,I64 pos]⟩:=⟨_,rfl⟩;rw[<- hBe,h.com (A0E _)];have hb0:=h.box (B:=B) (A0E c) (A1O c);refine A9 (fun q:Nat × Option Nat × Option Nat=>[(0,.ptr t' 0),(3,.ptr c 0),(7,G9 ar),(8,I64 ar.length),(9,I64 q.1)]) (fun q=>GM (H0.upd c B) t' q.2.1 q.2.2 (mkP e p v (.mp .s ks vs) t n) (x.1++C5 nm (ar.take q.1),x.2))
  (fun q cc=>c+1<=cc/\q.1<=ar.length/\GN (H0.upd c B) t' q.2.1 q.2.2 (x.1++C5 nm (ar.take q.1),x.2) cc) (fun q=>ar.length-q.1) (0,a,b)
  (by simp[C1,tm,Tm.upd]) (by simp only[A1I,C5,A0W];exact Sub.refl _) ⟨A0E _,A0O _,by simp only[A1I,C5,A0W];exact hb0⟩ ?_
 clear hb0;rintro⟨i,o,b1⟩ cc ⟨hc,hk,hN⟩;dsimp only at hk hN ⊢;have hnn:=hN.tc;have hfr':=fun (j:Nat) (hj:cc<=j)=>A7l (mk:=mkP e p v (.mp .s ks vs) t n) hN hj;by_cases hlt:i<ar.length
 ·have hd:=dtz hlt;have hg:=A0B hlt;have hw:=w64 (n:=(i:Int)+1);have hsn:=A3j nm hg;have hle:=W4 nm ar (i+1);have hmem:=hargs _ (A0L hlt);generalize ar[i]=y at hg hsn hmem;rw[hsn,A0A]at hle;have hcall:=ih y (by omega) (by omega) (x.1++C5 nm (ar.take i),x.2) (by rw[A0A];omega);rw[Ex.v_w]at hcall;repeat' (apply wr<;>try simp only[go_sem,seval,hd,hg,Ex.v_w,h_same,A5])
  obtain⟨B2,hB2⟩:∃ B:Blk,B=⟨0,true,[I64 y.kind,I64 y.value,.str y.name,G9 y.args,I64 y.pos]⟩:=⟨_,rfl⟩;rw[<- hB2,hN.com (A0E _)];refine AC.call (hcall _ _ _ _ _ (hN.box (A0E _) (A1O _))) ?_;rintro _ _ c2 ⟨rfl,a2,b2,hN2,rfl⟩ hc2;have hz0:=hN.fr cc (A0E _);simp only[go_sem,seval];repeat' (apply wr<;>try simp only[go_sem,seval,hw])
  dsimp only at hN2 ⊢;rw[A0P, <- hsn]at hN2 ⊢;exact⟨(i+1,a2,b2),by simp[],J0 hz0 (by omega) hN2,inv ⟨by omega,hlt,hN2.unbox hz0 (by omega) hN.fr⟩,by simp only;omega⟩
 ·have hd:=dfz hlt;have hi:i=ar.length:=by omega
  subst hi;rw[A1P]at hN hfr' ⊢;have hM:=W6 (mk:=mkP e p v (.mp .s ks vs) t n) hN;have hcB:GM (H0.upd c B) t' o b1 (mkP e p v (.mp .s ks vs) t n) (x.1++C5 nm ar,x.2) c=some ⟨0,true,[I64 k,I64 vv,.str nn,G9 ar,I64 pos]⟩:=S0 hN (by rw[h_same,hBe]) (by omega);have hz0:=h.fr c (A0E _);have hlk:=hm nn;have fin:∀ (op A:Int),A1v nm k vv nn=⟨op,A⟩->∀ cx,cc<=cx->AC Tryz.prog 52 [.ptr t' 0,I64 op,I64 A] (GM (H0.upd c B) t' o b1 (mkP e p v (.mp .s ks vs) t n) (x.1++C5 nm ar,x.2)) cx (fun v' H' c' => ∃ a' b',GN (H0.upd c B) t' a' b' (x.1++(C5 nm ar++[A1v nm k vv nn]),x.2) c'/\H'=GM (H0.upd c B) t' a' b' (mkP e p v (.mp .s ks vs) t n) (x.1++(C5 nm ar++[A1v nm k vv nn]),x.2)):=fun op A he cx hcx=>by
   rw[he, <- A0P];refine AC.call (c_emit e p v _ t n op A (x.1++C5 nm ar,x.2) (by rw[A0A];omega) _ _ _ _ _ (hN.le hcx)) ?_;rintro _ _ c2 ⟨rfl,a2,b2,hN2,rfl⟩ hc2;exact⟨a2,b2,hN2,rfl⟩
  repeat' ((with_reducible first|refine wr ?_|refine wb2 ?_ ?_<;>(intro hb;try simp only[hb])|fail)<;>try simp only[go_sem,seval,hd,hM,hcB,hlk])
  all_goals
   try refine⟨hfr' _ (by omega),?_⟩
   refine AC.call (fin _ _ ?_ _ ?_) ?_
   ·clear fin hm hN hM hcB hfr' hlk hx hz0 hnn ih hfr h hargs hal hBe;simp_all[A1v]
   ·omega
   rintro _ _ c2 ⟨a2,b2,hN2,rfl⟩ hc2;simp only[go_sem,seval];repeat' (apply wr<;>try simp only[go_sem,seval])
   exact⟨_,_,GL.less' (J0 hz0 (by omega) hN2),rfl,a2,b2,hN2.unbox hz0 (by omega) h.fr,rfl⟩
theorem c_gblock(e p v:DV)(ks vs:List DV)(t n:Int)(nm:List UInt8->Int)(hm:∀ s,Sym.lkV (I64 0) false vs (E4 (.str s) ks 0)=some (I64 (nm s))):∀ (z:Nat) (l:List Pb.St),St.szs l<z->St.szs l<=99000000->∀ x,CgB (F5 nm l x) ->
  GC 51 (mkP e p v (.mp .s ks vs) t n) [D3 l] x (F5 nm l x) (.tup []):=by
 intro z
 induction z with
 |zero=>intro l h1;omega
 |succ z ih =>
 intro l hz hB x hx H0 c t' a b h;have hll:=St.szs_len l;refine AC.bodyT A2 rfl (A0D rfl) fun hfr=>?_;repeat' (apply wr<;>try simp only[go_sem,seval])
 refine A9 (fun q:Nat × Option Nat × Option Nat=>[(0,.ptr t' 0),(11,D3 l),(12,I64 l.length),(13,I64 q.1)]) (fun q=>GM H0 t' q.2.1 q.2.2 (mkP e p v (.mp .s ks vs) t n) (F5 nm (l.take q.1) x))
  (fun q cc=>c<=cc/\q.1<=l.length/\GN H0 t' q.2.1 q.2.2 (F5 nm (l.take q.1) x) cc) (fun q=>l.length-q.1) (0,a,b)
  (by simp[C1,tm,Tm.upd]) (by simp only[A1I,M2];exact Sub.refl _) ⟨A0E _,A0O _,by simp only[A1I,M2];exact h⟩ ?_
 clear h hfr a b;rintro⟨i,a,b⟩ cc ⟨hc,hk,hN0⟩;dsimp only at hk hN0 ⊢;by_cases hlt:i<l.length
 rotate_left
 ·have hd:=dfz hlt;have hi:i=l.length:=by omega
  subst hi;rw[A1P]at hN0 ⊢;repeat' (apply wr<;>try simp only[go_sem,seval,hd])
  exact⟨_,_,GL.refl _ _,rfl,a,b,hN0,rfl⟩
 have hd:=dtz hlt;have hg:=A0B hlt;have hw:=w64 (n:=(i:Int)+1);have hsn:=B2p (nm:=nm) hg x;have hle:=(B2o (nm:=nm) l (i+1) x).bnd hx;have hssz:=St.szs_mem (A0L hlt);generalize l[i]=s at hg hsn hssz;rw[hsn]at hle;obtain⟨y,hy⟩:∃ y,y=F5 nm (l.take i) x:=⟨_,rfl⟩;rw[<- hy]at hle hN0 hsn ⊢;have hxa:=(B2n (nm:=nm) s y).bnd hle;have hfr0:=fun j (hj:cc<=j)=>A7l (mk:=(mkP e p v (.mp .s ks vs) t n)) hN0 hj;obtain⟨k,nn,tt,ar,u,w,pos⟩:=s;dsimp only[St.args]at hxa;rw[St.sz]at hssz;have hargs:∀ x∈ar,x.sz<=Ex.szs ar:=fun x hx=>Ex.szs_mem hx;have hla:=Ex.szs_len ar;have hu:=ih u (by omega) (by omega);have hel:=ih w (by omega) (by omega);clear ih;have htc:=hN0.tc;obtain⟨x1,hx1⟩:∃ x1:Cg,x1=(y.1++C5 nm ar,y.2):=⟨_,rfl⟩;rw[<- hx1]at hxa;repeat' (apply wr<;>try simp only[go_sem,seval,hd,hg,St.v_w,A0C,h_same,A5])
 dsimp only[St.kind,St.name,St.text,St.args,St.thn,St.els,St.pos];obtain⟨B,hBe⟩:∃ B:Blk,B=⟨0,true,[I64 k,.str nn,.str tt,G9 ar,D3 u,D3 w,I64 pos]⟩:=⟨_,rfl⟩;rw[<- hBe,hN0.com (A0E _)];have hb0:=hN0.box (B:=B) (A0E cc) (A1O cc);have hcB:∀ {x' o' b' c2},GN (H0.upd cc B) t' o' b' x' c2->GM (H0.upd cc B) t' o' b' (mkP e p v (.mp .s ks vs) t n) x' cc=some ⟨0,true,[I64 k,.str nn,.str tt,G9 ar,D3 u,D3 w,I64 pos]⟩:=fun hN=>S0 hN (by rw[h_same,hBe]) (by omega);have hcB0:=hcB hb0;repeat' (apply wr<;>try simp only[go_sem,seval,hcB0])
 have hz0:=hN0.fr cc (A0E _);clear hcB0;refine A9 (fun q:Nat × Option Nat × Option Nat=>[(0,.ptr t' 0),(5,.ptr cc 0),(11,D3 l),(12,I64 l.length),(13,I64 i),(18,G9 ar),(19,I64 ar.length),(20,I64 q.1)]) (fun q=>GM (H0.upd cc B) t' q.2.1 q.2.2 (mkP e p v (.mp .s ks vs) t n) (y.1++C5 nm (ar.take q.1),y.2))
  (fun q c1=>cc+1<=c1/\q.1<=ar.length/\GN (H0.upd cc B) t' q.2.1 q.2.2 (y.1++C5 nm (ar.take q.1),y.2) c1) (fun q=>ar.length-q.1) (0,a,b)
  (by simp[C1,tm,Tm.upd]) (by simp only[A1I,C5,A0W];exact Sub.refl _) ⟨A0E _,A0O _,by simp only[A1I,C5,A0W];exact hb0⟩ ?_
 clear hb0;rintro⟨j,o,b1⟩ c1 ⟨hcc,hkj,hN⟩;dsimp only at hkj hN ⊢;by_cases hltj:j<ar.length
 ·have hdj:=dtz hltj;have hgj:=A0B hltj;have hwj:=w64 (n:=(j:Int)+1);have hsnj:=A3j nm hgj;have hlej:=W4 nm ar (j+1);have hmem:=hargs _ (A0L hltj);generalize ar[j]=q at hgj hsnj hmem;rw[hsnj,A0A]at hlej;have hlx:=hxa.1;rw[hx1,A0A]at hlx;have hcall:=c_gexpr e p v ks vs t n nm hm _ q (A1O _) (by omega) (y.1++C5 nm (ar.take j),y.2) (by rw[A0A];omega);rw[Ex.v_w]at hcall;have hfrj:=fun j (hj:c1<=j)=>A7l (mk:=(mkP e p v (.mp .s ks vs) t n)) hN hj;repeat' (apply wr<;>try simp only[go_sem,seval,hdj,hgj,Ex.v_w,h_same,A5])
  obtain⟨B2,hB2⟩:∃ B:Blk,B=⟨0,true,[I64 q.kind,I64 q.value,.str q.name,G9 q.args,I64 q.pos]⟩:=⟨_,rfl⟩;rw[<- hB2,hN.com (A0E _)];refine AC.call (hcall _ _ _ _ _ (hN.box (A0E _) (A1O _))) ?_;rintro _ _ c2 ⟨rfl,a2,b2,hN2,rfl⟩ hc2;have hz1:=hN.fr c1 (A0E _);simp only[go_sem,seval];repeat' (apply wr<;>try simp only[go_sem,seval,hwj])
  dsimp only at hN2 ⊢;rw[A0P, <- hsnj]at hN2 ⊢;exact⟨(j+1,a2,b2),by simp[],J0 hz1 (by omega) hN2,inv ⟨by omega,hltj,hN2.unbox hz1 (by omega) hN.fr⟩,by simp only;omega⟩
 have hdj:=dfz hltj;have hij:j=ar.length:=by omega
 subst hij;rw[A1P, <- hx1]at hN ⊢;have hM:=W6 (mk:=(mkP e p v (.mp .s ks vs) t n)) hN;have hcB1:=hcB hN;have hxb:=hxa.1;clear hltj hkj hla hargs;by_cases q2:k=2
 ·have d2:(k == 2)=true:=by simpa using q2
  subst q2;obtain⟨T,hT⟩:∃ T,T=cgB nm (x1.1.length+1) x1.2 u:=⟨_,rfl⟩;have eT:F5 nm u (x1.1++[⟨13,0⟩],x1.2)=(x1.1++⟨13,0⟩ :: T.1,T.2):=by
   unfold F5;rw[A0A,A0N, <- hT];simp
  repeat' (apply wr<;>try simp only[go_sem,seval,hdj,hcB1,d2])
  refine AC.call (c_emit _ _ _ _ _ _ 13 0 x1 (by omega) _ _ _ _ _ hN) ?_;rintro _ _ c2 ⟨rfl,a2,b2,hN2,rfl⟩ hc2;have hcB2:=hcB hN2;simp only[go_sem,seval];repeat' (apply wr<;>try simp only[go_sem,seval,hcB2])
  by_cases hv0:w.length=0
  ·have q0:decide ((w.length:Int)>0)=false:=by rw[hv0];rfl
   have hfin:=B0o (nm:=nm) (n:=nn) (t:=tt) (q:=pos) (u:=u) hx1 hv0;rw[<- hT]at hfin;rw[hfin]at hle;have hbT:CgB (x1.1++⟨13,0⟩ :: T.1,T.2):=⟨by have:=hle.1;rw[A0A,A0K]at this ⊢;exact this,hle.2⟩;refine AC.call (hu _ (by rw[eT];exact hbT) _ _ _ _ _ hN2) ?_;rintro _ _ c3 ⟨rfl,a3,b3,hN3,rfl⟩ hc3;rw[eT]at hN3 ⊢;have hcB3:=hcB hN3;simp only[go_sem,seval];repeat' (apply wr<;>try simp only[go_sem,seval,hcB3,q0,A0C])
   refine AC.call (c_patch _ _ _ _ _ _ 13 0 x1.1 T.1 T.2 (A1E hbT.1 (by omega)) _ _ _ _ _ hN3) ?_;rintro _ _ c4 ⟨rfl,a4,b4,hN4,rfl⟩ hc4;simp only[go_sem,seval];repeat' (apply wr<;>try simp only[go_sem,seval,hw])
   refine⟨(i+1,a4,b4),by simp[],?_,inv ⟨by omega,hlt,?_⟩,by simp only;omega⟩
   ·dsimp only;rw[hsn,hfin];exact J0 hz0 (by omega) hN4
   ·dsimp only;rw[hsn,hfin];exact hN4.unbox hz0 (by omega) hN0.fr
  ·have q0:decide ((w.length:Int)>0)=true:=by simp;omega
   obtain⟨V,hV⟩:∃ V,V=cgB nm (x1.1.length+1+T.1.length+1) T.2 w:=⟨_,rfl⟩;have hfin:=B0n (nm:=nm) (n:=nn) (t:=tt) (q:=pos) hx1 hv0 hT hV;rw[hfin]at hle;obtain⟨J,hJ⟩:∃ J,J=x1.1.length+1+T.1.length:=⟨_,rfl⟩;rw[<- hJ]at hle hV hfin;have l3:(x1.1++(⟨13,0⟩:Ins) :: T.1).length=J:=by simp;omega
   have l4:(x1.1++(⟨13,0⟩:Ins) :: (T.1++[⟨12,0⟩])).length=J+1:=by simp;omega
   have l5:(x1.1++(⟨13,((J+1:Nat):Int)⟩:Ins) :: T.1).length=J:=by simp;omega
   have hxl:=hle.1;rw[A0A,l5,A0K]at hxl;have hxs:=hle.2;have hTs:B7j T (T.1++V.1,V.2):=⟨by simp,by rw[hV];exact Y0 _ w _ _⟩;have hbT:CgB (x1.1++⟨13,0⟩ :: T.1,T.2):=⟨by rw[l3];omega,A1E hTs.2 hxs⟩;refine AC.call (hu _ (by rw[eT];exact hbT) _ _ _ _ _ hN2) ?_;rintro _ _ c3 ⟨rfl,a3,b3,hN3,rfl⟩ hc3;rw[eT]at hN3 ⊢;have hcB3:=hcB hN3;simp only[go_sem,seval];repeat' (apply wr<;>try simp only[go_sem,seval,hcB3,q0,A0C])
   refine AC.call (c_emit _ _ _ _ _ _ 12 0 _ (by have:=hbT.1;omega) _ _ _ _ _ hN3) ?_;rintro _ _ c4 ⟨rfl,a4,b4,hN4,rfl⟩ hc4;have e4:(((x1.1++(⟨13,0⟩:Ins) :: T.1,T.2):Cg).1++[⟨12,0⟩],((x1.1++(⟨13,0⟩:Ins) :: T.1,T.2):Cg).2)=((x1.1++⟨13,0⟩ :: (T.1++[⟨12,0⟩]),T.2):Cg):=by simp
   rw[e4]at hN4 ⊢;simp only[go_sem,seval,l3];repeat' (apply wr<;>try simp only[go_sem,seval])
   refine AC.call (c_patch _ _ _ _ _ _ 13 0 x1.1 (T.1++[⟨12,0⟩]) T.2 (by rw[l4];omega) _ _ _ _ _ hN4) ?_;rintro _ _ c5 ⟨rfl,a5,b5,hN5,rfl⟩ hc5;rw[l4]at hN5 ⊢;have hcB5:=hcB hN5;have e5:∀ z:Int,F5 nm w (x1.1++⟨13,((J+1:Nat):Int)⟩ :: (T.1++[⟨12,z⟩]),T.2)=((x1.1++⟨13,((J+1:Nat):Int)⟩ :: T.1)++⟨12,z⟩ :: V.1,V.2):=fun z=>by
    have l6:(x1.1++(⟨13,((J+1:Nat):Int)⟩:Ins) :: (T.1++[⟨12,z⟩])).length=J+1:=by simp;omega
    unfold F5;dsimp only;rw[l6, <- hV];simp
   have hbW:CgB ((x1.1++⟨13,((J+1:Nat):Int)⟩ :: T.1)++⟨12,0⟩ :: V.1,V.2):=⟨by rw[A0A,l5,A0K];omega,hxs⟩;simp only[go_sem,seval];repeat' (apply wr<;>try simp only[go_sem,seval,hcB5])
   refine AC.call (hel _ (by rw[e5];exact hbW) _ _ _ _ _ hN5) ?_;rintro _ _ c6 ⟨rfl,a6,b6,hN6,rfl⟩ hc6;rw[e5]at hN6 ⊢;have hpt:=c_patch e p v (.mp .s ks vs) t n 12 0 (x1.1++⟨13,((J+1:Nat):Int)⟩ :: T.1) V.1 V.2 (A1E hbW.1 (by omega));rw[l5]at hpt;have l7:((x1.1++(⟨13,((J+1:Nat):Int)⟩:Ins) :: T.1)++(⟨12,0⟩:Ins) :: V.1).length=J+1+V.1.length:=by rw[A0A,l5,A0K];omega
   rw[l7]at hpt;simp only[go_sem,seval];repeat' (apply wr<;>try simp only[go_sem,seval])
   refine AC.call (hpt _ _ _ _ _ hN6) ?_;rintro _ _ c7 ⟨rfl,a7,b7,hN7,rfl⟩ hc7;simp only[go_sem,seval];repeat' (apply wr<;>try simp only[go_sem,seval,hw])
   refine⟨(i+1,a7,b7),by simp[],?_,inv ⟨by omega,hlt,?_⟩,by simp only;omega⟩
   ·dsimp only;rw[hsn,hfin];exact J0 hz0 (by omega) hN7
   ·dsimp only;rw[hsn,hfin];exact hN7.unbox hz0 (by omega) hN0.fr
 have d2:(k == 2)=false:=by simpa using q2
 by_cases q3:k=3
 ·have d3:(k == 3)=true:=by simpa using q3
  subst q3;obtain⟨T,hT⟩:∃ T,T=cgB nm (x1.1.length+1) x1.2 u:=⟨_,rfl⟩;have eT:F5 nm u (x1.1++[⟨14,0⟩],x1.2)=(x1.1++⟨14,0⟩ :: T.1,T.2):=by
   unfold F5;rw[A0A,A0N, <- hT];simp
  have hfin:=B0l (nm:=nm) (n:=nn) (t:=tt) (v:=w) (q:=pos) hx1 hT;rw[hfin]at hle;obtain⟨J,hJ⟩:∃ J,J=x1.1.length+1+T.1.length:=⟨_,rfl⟩;rw[<- hJ]at hle hfin;have l3:(x1.1++(⟨14,0⟩:Ins) :: T.1).length=J:=by simp;omega
  have l4:(x1.1++(⟨14,0⟩:Ins) :: (T.1++[⟨12,(x1.1.length:Int)⟩])).length=J+1:=by simp;omega
  have hxl:=hle.1;rw[A0A,A0K,A0A,A0N]at hxl;have hbT:CgB (x1.1++⟨14,0⟩ :: T.1,T.2):=⟨by rw[l3];omega,hle.2⟩;repeat' (apply wr<;>try simp only[go_sem,seval,hdj,hcB1,d2,d3])
  refine AC.call (c_emit _ _ _ _ _ _ 14 0 x1 (by omega) _ _ _ _ _ hN) ?_;rintro _ _ c2 ⟨rfl,a2,b2,hN2,rfl⟩ hc2;have hcB2:=hcB hN2;simp only[go_sem,seval];repeat' (apply wr<;>try simp only[go_sem,seval,hcB2])
  refine AC.call (hu _ (by rw[eT];exact hbT) _ _ _ _ _ hN2) ?_;rintro _ _ c3 ⟨rfl,a3,b3,hN3,rfl⟩ hc3;rw[eT]at hN3 ⊢;simp only[go_sem,seval];repeat' (apply wr<;>try simp only[go_sem,seval])
  refine AC.call (c_emit _ _ _ _ _ _ 12 x1.1.length _ (by have:=hbT.1;omega) _ _ _ _ _ hN3) ?_;rintro _ _ c4 ⟨rfl,a4,b4,hN4,rfl⟩ hc4;have e4:(((x1.1++(⟨14,0⟩:Ins) :: T.1,T.2):Cg).1++[⟨12,(x1.1.length:Int)⟩],((x1.1++(⟨14,0⟩:Ins) :: T.1,T.2):Cg).2)=((x1.1++⟨14,0⟩ :: (T.1++[⟨12,(x1.1.length:Int)⟩]),T.2):Cg):=by simp
  rw[e4]at hN4 ⊢;have hpt:=c_patch e p v (.mp .s ks vs) t n 14 0 x1.1 (T.1++[⟨12,(x1.1.length:Int)⟩]) T.2 (by rw[l4];omega);rw[l4]at hpt;simp only[go_sem,seval];repeat' (apply wr<;>try simp only[go_sem,seval])
  refine AC.call (hpt _ _ _ _ _ hN4) ?_;rintro _ _ c5 ⟨rfl,a5,b5,hN5,rfl⟩ hc5;simp only[go_sem,seval];repeat' (apply wr<;>try simp only[go_sem,seval,hw])
  refine⟨(i+1,a5,b5),by simp[],?_,inv ⟨by omega,hlt,?_⟩,by simp only;omega⟩
  ·dsimp only;rw[hsn,hfin];exact J0 hz0 (by omega) hN5
  ·dsimp only;rw[hsn,hfin];exact hN5.unbox hz0 (by omega) hN0.fr
 have d3:(k == 3)=false:=by simpa using q3
 by_cases q18:k=18
 ·have d18:(k == 18)=true:=by simpa using q18
  subst q18;have hfin:=B0k (nm:=nm) (n:=nn) (t:=tt) (u:=u) (v:=w) (q:=pos) hx1;have hxs:x1.2.length<=99999999:=hxa.2;repeat' (apply wr<;>try simp only[go_sem,seval,hdj,hcB1,d2,d3,d18])
  refine AC.call (c_gtext _ _ _ _ _ _ tt x1 (by omega) _ _ _ _ _ hN) ?_;rintro _ _ c2 ⟨rfl,a2,b2,hN2,rfl⟩ hc2;simp only[go_sem,seval];repeat' (apply wr<;>try simp only[go_sem,seval])
  refine AC.call (c_emit _ _ _ _ _ _ 29 _ _ (by dsimp only;omega) _ _ _ _ _ hN2) ?_;rintro _ _ c3 ⟨rfl,a3,b3,hN3,rfl⟩ hc3;simp only[go_sem,seval];repeat' (apply wr<;>try simp only[go_sem,seval,hw])
  refine⟨(i+1,a3,b3),by simp[],?_,inv ⟨by omega,hlt,?_⟩,by simp only;omega⟩
  ·dsimp only;rw[hsn,hfin];exact J0 hz0 (by omega) hN3
  ·dsimp only;rw[hsn,hfin];exact hN3.unbox hz0 (by omega) hN0.fr
 have d18:(k == 18)=false:=by simpa using q18
 have hfin:=B0m (nm:=nm) (n:=nn) (t:=tt) (u:=u) (v:=w) (q:=pos) hx1 q2 q3 q18;have hop:=c_opOf k;have hlk:=hm nn;have hfr1:=fun j (hj:c1<=j)=>A7l (mk:=(mkP e p v (.mp .s ks vs) t n)) hN hj;repeat' ((with_reducible first|apply wr|refine cpc hop ?_|fail)<;>try simp only[go_sem,seval,hdj,hM,hcB1,d2,d3,d18,hlk])
 refine⟨by (try and_intros)<;>exact hfr1 _ (by omega),?_⟩;refine AC.call (c_emit _ _ _ _ _ _ _ _ x1 (by omega) _ _ _ _ _ (hN.le (show c1<=c1+12 by omega))) ?_;rintro _ _ c3 ⟨rfl,a3,b3,hN3,rfl⟩ hc3;simp only[go_sem,seval];repeat' (apply wr<;>try simp only[go_sem,seval,hw])
 refine⟨(i+1,a3,b3),by simp[],?_,inv ⟨by omega,hlt,?_⟩,by simp only;omega⟩
 ·dsimp only;rw[hsn,hfin];exact J0 hz0 (by omega) hN3
 ·dsimp only;rw[hsn,hfin];exact hN3.unbox hz0 (by omega) hN0.fr
abbrev x170:XT Tryz.prog 170:=mkF
instance t170:FT Tryz.prog 170 x170.d:=x170.ft
abbrev x95:XT Tryz.prog 95:=mkF
instance t95:FT Tryz.prog 95 x95.d:=x95.ft
abbrev x233:XT Tryz.prog 233:=mkF
instance t233:FT Tryz.prog 233 x233.d:=x233.ft
abbrev x245:XT Tryz.prog 245:=mkF
instance t245:FT Tryz.prog 245 x245.d:=x245.ft
abbrev x244:XT Tryz.prog 244:=mkF
instance t244:FT Tryz.prog 244 x244.d:=x244.ft
abbrev x167:XT Tryz.prog 167:=mkF
instance t167:FT Tryz.prog 167 x167.d:=x167.ft
abbrev x295:XT Tryz.prog 295:=mkF
instance t295:FT Tryz.prog 295 x295.d:=x295.ft
abbrev x235:XT Tryz.prog 235:=mkF
instance t235:FT Tryz.prog 235 x235.d:=x235.ft
abbrev x234:XT Tryz.prog 234:=mkF
instance t234:FT Tryz.prog 234 x234.d:=x234.ft
abbrev x294:XT Tryz.prog 294:=mkF
instance t294:FT Tryz.prog 294 x294.d:=x294.ft
abbrev x232:XT Tryz.prog 232:=mkF
instance t232:FT Tryz.prog 232 x232.d:=x232.ft
abbrev x155:XT Tryz.prog 155:=mkF
instance t155:FT Tryz.prog 155 x155.d:=x155.ft
abbrev x46:XT Tryz.prog 46:=mkF
instance t46:FT Tryz.prog 46 x46.d:=x46.ft
abbrev x156:XT Tryz.prog 156:=mkF
instance t156:FT Tryz.prog 156 x156.d:=x156.ft
abbrev x96:XT Tryz.prog 96:=mkF
instance t96:FT Tryz.prog 96 x96.d:=x96.ft
abbrev x171:XT Tryz.prog 171:=mkF
instance t171:FT Tryz.prog 171 x171.d:=x171.ft
abbrev x97:XT Tryz.prog 97:=mkF
instance t97:FT Tryz.prog 97 x97.d:=x97.ft
abbrev x172:XT Tryz.prog 172:=mkF
instance t172:FT Tryz.prog 172 x172.d:=x172.ft
abbrev x102:XT Tryz.prog 102:=mkF
instance t102:FT Tryz.prog 102 x102.d:=x102.ft
abbrev x98:XT Tryz.prog 98:=mkF
instance t98:FT Tryz.prog 98 x98.d:=x98.ft
abbrev x164:XT Tryz.prog 164:=mkF
instance t164:FT Tryz.prog 164 x164.d:=x164.ft
abbrev x103:XT Tryz.prog 103:=mkF
instance t103:FT Tryz.prog 103 x103.d:=x103.ft
abbrev x240:XT Tryz.prog 240:=mkF
instance t240:FT Tryz.prog 240 x240.d:=x240.ft
abbrev x175:XT Tryz.prog 175:=mkF
instance t175:FT Tryz.prog 175 x175.d:=x175.ft
abbrev x99:XT Tryz.prog 99:=mkF
instance t99:FT Tryz.prog 99 x99.d:=x99.ft
abbrev x241:XT Tryz.prog 241:=mkF
instance t241:FT Tryz.prog 241 x241.d:=x241.ft
abbrev x165:XT Tryz.prog 165:=mkF
instance t165:FT Tryz.prog 165 x165.d:=x165.ft
abbrev x173:XT Tryz.prog 173:=mkF
instance t173:FT Tryz.prog 173 x173.d:=x173.ft
abbrev x48:XT Tryz.prog 48:=mkF
instance t48:FT Tryz.prog 48 x48.d:=x48.ft
abbrev x101:XT Tryz.prog 101:=mkF
instance t101:FT Tryz.prog 101 x101.d:=x101.ft
end Go.Proofs.YtkkjpohaffjecaaGreatDoor
set_option maxHeartbeats 8000000
namespace Go.Proofs.YtkkjpohaffjecaaGreatDoor
open Go.Eng (IC IOper DReg IFn L2)
open Go.Sym Go.Pb
theorem c_expKR(k:Int):PC Tryz.prog 244 [I64 k] (I64 (kdE k)):=by
 refine PC.go A2 ?_;repeat' ((with_reducible first|refine wr ?_|refine wb2 ?_ ?_<;>(intro hb;try simp only[hb])|fail)<;>try simp only[go_sem,seval])
 all_goals (refine A3 (congrArg I64 ?_);simp_all[kdE])
theorem c_stmKR(k:Int):PC Tryz.prog 295 [I64 k] (I64 (kdS k)):=by
 refine PC.go A2 ?_;repeat' ((with_reducible first|refine wr ?_|refine wb2 ?_ ?_<;>(intro hb;try simp only[hb])|fail)<;>try simp only[go_sem,seval])
 all_goals (refine A3 (congrArg I64 ?_);simp_all[kdS])
theorem c_trgKR(k:Int):PC Tryz.prog 234 [I64 k] (I64 (kdH k)):=by
 refine PC.go A2 ?_;repeat' ((with_reducible first|refine wr ?_|refine wb2 ?_ ?_<;>(intro hb;try simp only[hb])|fail)<;>try simp only[go_sem,seval])
 all_goals (refine A3 (congrArg I64 ?_);simp_all[kdH])
theorem c_mostR(k:Int):PC Tryz.prog 294 [I64 k] (I64 (A3o k)):=by
 refine PC.go A2 ?_;repeat' ((with_reducible first|refine wr ?_|refine wb2 ?_ ?_<;>(intro hb;try simp only[hb])|fail)<;>try simp only[go_sem,seval])
 all_goals (refine A3 (congrArg I64 ?_);simp_all[A3o])
theorem c_boolR(k:Int):PC Tryz.prog 245 [I64 k] (.bool (C4p k)):=by
 refine PC.go A2 ?_;repeat' ((with_reducible first|refine wr ?_|refine wb2 ?_ ?_<;>(intro hb;try simp only[hb])|fail)<;>try simp only[go_sem,seval])
 all_goals (refine A3 (congrArg DV.bool ?_);simp_all[C4p])
theorem A3r(d:Dc):d.v=.agg [I64 d.kind,.str d.name,I64 d.value,I64 d.pos]:=rfl
theorem A8a(d:Md):d.v=.agg [.str d.name,I64 d.prio,K8 d.hds,I64 d.pos]:=rfl
theorem c_cntR(r:Ru)(k:Int)(h1:r.decls.length<=1000000000)(h2:r.modes.length<=1000000000):PC Tryz.prog 170 [r.v,I64 k] (I64 (cnR r k)):=by
 refine PC.go A2 ?_;obtain⟨D,M⟩:=r;dsimp only[Ru.v]at h1 h2 ⊢;by_cases k9:k=9
 ·subst k9;repeat' (apply wr<;>try simp only[go_sem,seval,A0C])
  exact A3 rfl
 have q9:(k == 9)=false:=by simpa using k9
 have er:cnR ⟨D,M⟩ k=cnD D k:=by rw[cnR,if_neg k9]
 rw[er];repeat' (apply wr<;>try simp only[go_sem,seval,q9])
 refine A9 (fun i:Nat=>[(1,I64 k),(2,.ptr 0 0),(5,I64 (cnD (D.take i) k)),(6,I64 i)]) (fun _=>Sym.nil.upd 0 ⟨0,true,[C3 D,C7 M]⟩) (fun i c=>i<=D.length) (fun i=>D.length-i) 0 (by simp[C1,tm,Tm.upd,cnD]) (Sub.refl _) (A0O _) ?_;rintro i c hk;by_cases hlt:i<D.length
 ·have hd:=dtz hlt;have hg:=A0B hlt;have hw:=w64 (n:=(i:Int)+1);have e0:cnD (D.take (i+1)) k=cnD (D.take i) k+(if D[i].kind == k then 1 else 0):=by
   unfold cnD;rw[A0S,hg,List.countP_append];simp[List.countP_cons]
  have hle:cnD (D.take i) k<=D.length:=by
   refine A1E List.countP_le_length ?_;rw[A1B];omega
  have hw2:=w64 (n:=(cnD (D.take i) k:Int)+1);generalize D[i]=d at hg e0;repeat' ((with_reducible first|refine wr ?_|refine wb2 ?_ ?_<;>(intro hb;try simp only[hb])|fail)<;>try simp only[go_sem,seval,hd,hg,hw,hw2,A3r,A0C])
  all_goals (refine⟨i+1,?_,Sub.refl _,inv (by omega),by omega⟩;simp_all)
 have hd:=dfz hlt;repeat' (apply wr<;>try simp only[go_sem,seval,hd,A0C])
 rw[A0M (by omega)];exact A3 rfl
theorem D9w{ρ : Ren}{v:Value}{a:DV}(h:VRel ρ (.agg [a,.snil]) v):VRel ρ (.agg [a,.lst []]) v:=by
 obtain⟨b,rfl,k1,k2⟩:=h.agg_inv;refine .agg _ _ k1 fun i x y hx hy=>?_
 match i with
 |0=>exact k2 0 _ y hx hy
 |1=>cases hx;exact (k2 1 _ y rfl hy).snil_lst
 |i+2=>simp at hx
theorem C6s{f:Nat}{a x r:DV}(h:PC Tryz.prog f [.agg [a,.lst []],x] r):PC Tryz.prog f [.agg [a,.snil],x] r:=by
 have hn:DV.nlL [.agg [a,.snil],x]=true:=by have:=h.na;simpa[DV.nlL,DV.nl] using this
 have g:GL Sym.nil [.agg [a,.snil],x] Sym.nil [.agg [a,.lst []],x]:=GL.view fun ρ vs hA=>⟨hA.1,fun i d v hd hv=>by
  match i with
  |0=>cases hd;exact D9w (hA.2 0 _ v rfl hv)
  |1=>exact hA.2 1 _ v hd hv
  |i+2=>simp at hd⟩
 exact⟨hn,h.nr,AC.ghost g h.ac⟩
theorem B3g{xs:List DV}{h sz:Nat}(hh:h<=xs.length)(hu:∀ x∈xs,x.cells.length=sz)(H:Hp):A6m H sz (.lst xs) none (some (I64 (h:Int)))=some (.lst (xs.take h)):=by
 have e:unit sz xs=true:=A0R.2 fun x hx=>by simpa using hu x hx
 simp only[A6m,boundOf,A2I,if_true,A3E,hh,A0O,and_self,e,Nat.sub_zero,A4E]
theorem A2v{b1 b2:Blk}{cc:Nat}(h:1<=cc):Sym.Sub (Sym.nil.upd 0 b1) ((Sym.nil.upd 0 b1).upd cc b2):=by
 intro j b hj;simp only[Hp.upd,Sym.nil]at hj ⊢;split at hj
 ·rename_i h0;rw[if_neg (by omega),if_pos h0];exact hj
 ·cases hj
theorem c_lkR(r:Ru)(n:List UInt8)(h1:r.decls.length<=1000000000)(h2:r.modes.length<=1000000000):PC Tryz.prog 95 [r.v,.str n] (.tup [I64 (E7 r n).1,I64 (E7 r n).2]):=by
 refine PC.go A2 ?_;obtain⟨D,M⟩:=r;dsimp only at h1 h2;obtain⟨R,hR⟩:∃ R:DV,R=.tup [I64 (E7 ⟨D,M⟩ n).1,I64 (E7 ⟨D,M⟩ n).2]:=⟨_,rfl⟩;rw[<- hR];unfold E7 at hR;dsimp only[Ru.v]at hR ⊢;repeat' (apply wr<;>try simp only[go_sem,seval])
 refine A9 (fun i:Nat=>[(1,.str n),(2,.ptr 0 0),(6,I64 i)]) (fun _=>Sym.nil.upd 0 ⟨0,true,[C3 D,C7 M]⟩) (fun i c=>1<=c/\i<=D.length/\lkD [] D n=lkD (D.take i) (D.drop i) n) (fun i=>D.length-i) 0 (by simp[C1,tm,Tm.upd]) (Sub.refl _) ⟨A0E _,A0O _,rfl⟩ ?_;rintro i c ⟨h1c,hk,he⟩;by_cases hlt:i<D.length
 ·have hd:=dtz hlt;have hg:=A0B hlt;have hw:=w64 (n:=(i:Int)+1);rw[C7q hg]at he;have hcn:=C6s (c_cntR ⟨D.take i,[]⟩ D[i].kind (by rw[A1B];omega) (A0O _));generalize D[i]=d at hg he hcn;have ne0:=A0m 0 c (by omega);have hsl:=fun H=>B3g (xs:=D.map Dc.v) (h:=i) (sz:=4) (by rw[A0C];omega) (A3i _) H;rw[<- List.map_take]at hsl;by_cases hn:d.name=n
  ·have q0:(d.name == n)=true:=by simp[hn]
   rw[if_pos hn]at he;rw[he]at hR;by_cases h6:d.kind<6
   ·have q6:decide (d.kind<6)=true:=by simpa using h6
    rw[if_pos h6]at hR;repeat' (apply wr<;>try simp only[go_sem,seval,hd,hg,q0,q6,A3r,A0C,h_same,A5])
    refine⟨by and_intros<;>(repeat rw[hnO])<;>rfl,?_⟩;repeat' (apply wr<;>try simp only[go_sem,seval])
    exact A3 hR.symm
   ·have q6:decide (d.kind<6)=false:=by simpa using h6
    rw[if_neg h6]at hR;repeat' ((with_reducible first|apply wr|refine cpc hcn ?_|fail)<;>try simp only[go_sem,seval,hd,hg,q0,q6,A3r,A0C,ne0,h_same,A5,hsl])
    refine⟨by and_intros<;>(repeat rw[hnO])<;>rfl,?_⟩;repeat' (apply wr<;>try simp only[go_sem,seval])
    exact A3 hR.symm
  ·have q0:(d.name == n)=false:=by simp[hn]
   rw[if_neg hn]at he;repeat' (apply wr<;>try simp only[go_sem,seval,hd,hg,hw,q0,A3r,A0C,h_same,A5])
   exact⟨i+1,by simp,A2v h1c,inv ⟨by omega,by omega,he⟩,by omega⟩
 have hd:=dfz hlt;rw[A1Q (by omega),lkD]at he;rw[he]at hR;repeat' (apply wr<;>try simp only[go_sem,seval,hd,A0C])
 clear he hd hlt hk i;refine A9 (fun i:Nat=>[(1,.str n),(2,.ptr 0 0),(8,I64 i)]) (fun _=>Sym.nil.upd 0 ⟨0,true,[C3 D,C7 M]⟩) (fun i c=>i<=M.length/\lkM 0 M n=lkM i (M.drop i) n) (fun i=>M.length-i) 0 (by simp[C1,tm,Tm.upd]) (Sub.refl _) ⟨A0O _,rfl⟩ ?_;rintro i c ⟨hk,he⟩;by_cases hlt:i<M.length
 ·have hd:=dtz hlt;have hg:=A0B hlt;have hw:=w64 (n:=(i:Int)+1);rw[C7p hg]at he;generalize M[i]=d at hg he;by_cases hn:d.name=n
  ·have q0:(d.name == n)=true:=by simp[hn]
   rw[if_pos hn]at he;rw[he]at hR;repeat' (apply wr<;>try simp only[go_sem,seval,hd,hg,q0,A8a,A0C])
   exact A3 hR.symm
  ·have q0:(d.name == n)=false:=by simp[hn]
   rw[if_neg hn]at he;repeat' (apply wr<;>try simp only[go_sem,seval,hd,hg,hw,q0,A8a,A0C])
   exact⟨i+1,by simp,Sub.refl _,inv ⟨by omega,he⟩,by omega⟩
 have hd:=dfz hlt;rw[A1Q (by omega),lkM]at he;rw[he]at hR;repeat' (apply wr<;>try simp only[go_sem,seval,hd,A0C])
 exact A3 hR.symm
theorem c_dnR(r:Ru)(n:List UInt8)(k:Int)(h1:r.decls.length<=1000000000)(h2:r.modes.length<=1000000000):PC Tryz.prog 233 [r.v,.str n,I64 k] (I64 (dnM r n k)):=by
 refine PC.go A2 ?_;have hl:=c_lkR r n h1 h2;dsimp only[Ru.v]at hl ⊢;unfold dnM;generalize E7 r n=q at hl ⊢;obtain⟨a,b⟩:=q;dsimp only at hl ⊢;repeat' ((with_reducible first|refine wr ?_|refine cpc hl ?_|refine wb2 ?_ ?_<;>(intro hb;try simp only[hb])|fail)<;>try simp only[go_sem,seval])
 all_goals (refine A3 (congrArg I64 ?_);simp_all)
theorem C5p{H0 HH:Hp}{o:Option Nat}{x id:Nat}{b1 bx b b':Blk}(hHH:optH H0 o b1=HH)(hn:∀ j,2<=j->H0 j=none)(ho:∀ i,o=some i->2<=i)(hx:2<=x)(h:b=b'):
  Sym.Sub (optH H0 (some id) b) ((delO (HH.upd x bx) o).upd id b'):=by
 subst h;intro j q hj;simp only[optH]at hj;by_cases e:j=id
 ·subst e;rw[h_same]at hj ⊢;exact hj
 ·rw[h_ne e]at hj ⊢;have hj2:j<2:=A1T fun h2=>by rw[hn j h2]at hj;cases hj
  have hHj:HH j=some q:=by rw[<- hHH,B7 (fun i hi=>by have:=ho i hi;omega)];exact hj
  cases o with
  |none=>simp only[delO];rw[hnO];exact hHj
  |some i =>
   have:=ho i rfl;simp only[delO,Hp.del];rw[if_neg (by omega),hnO];exact hHj
theorem c_tyR(r:Ru)(h1:r.decls.length<=1000000000)(h2:r.modes.length<=1000000000):∀ (m:Nat) (e:Ex),e.sz<m->e.sz<=100000000->(∃ q,msM e=some q)->PC Tryz.prog 167 [r.v,e.v] (tyV r e):=by
 intro m
 induction m with
 |zero=>intro e h;omega
 |succ m ih =>
 intro e hm hB ⟨q0,hq0⟩;have hal:Ex.szs e.args<e.sz:=by cases e with|mk k v n a p=>rw[Ex.sz];show Ex.szs a<_;omega
 have hargs:∀ x∈e.args,x.sz<=Ex.szs e.args:=fun x hx=>Ex.szs_mem hx;have hll:=Ex.szs_len e.args;have hms:=C1i hq0;have h22:=C7k hq0;refine PC.ofT A2 rfl (A0D rfl) (by simp[DV.nlL,DV.nl,K4,K3,Ex.nl]) (D5h _ _) ?_;rw[Ex.v_w];obtain⟨R,hR⟩:∃ R,R=tyV r e:=⟨_,rfl⟩;rw[<- hR];cases e with|mk k v n a p =>
 unfold tyV at hR;rw[erE]at hR;have hR:R=(match ((U6 r a).or (dnE r n (kdE k) p)).or (if a.all (fun x=>L7 x.kind == A0h k a)=true then none else some (p,49)) with
  |some (p,c)=>.tup [I64 0,I64 p,I64 c]
  |none=>.tup [I64 (L7 k),I64 0,I64 0]):=hR
 dsimp only[Ex.w,Ex.kind,Ex.value,Ex.name,Ex.args,Ex.pos]at hal hargs hll hms h22 ⊢;have hk1:=c_expKR k;have hdn:=c_dnR r n (kdE k) h1 h2;have hbo:=c_boolR k;have ih:∀ x∈a,PC Tryz.prog 167 [r.v,x.v] (tyV r x):=fun x hx=>ih x (by have:=hargs x hx;omega) (by have:=hargs x hx;omega) (hms x hx);obtain⟨D,M⟩:=r;dsimp only[Ru.v]at hdn ih ⊢;repeat' (apply wr<;>try simp only[go_sem,seval])
 obtain⟨H0,hH0⟩:∃ H0,H0=(Sym.nil.upd 0 ⟨0,true,[C3 D,C7 M]⟩).upd 1 ⟨0,true,[I64 k,I64 v,.str n,G9 a,I64 p]⟩:=⟨_,rfl⟩;have hz0:H0 0=some ⟨0,true,[C3 D,C7 M]⟩:=by rw[hH0];rfl
 have hz1:H0 1=some ⟨0,true,[I64 k,I64 v,.str n,G9 a,I64 p]⟩:=by rw[hH0];rfl
 have hzn:∀ j,2<=j->H0 j=none:=fun j hj=>by rw[hH0,hnO,hnO];rfl
 rw[<- hH0];clear hH0;obtain⟨T,hT⟩:∃ T:List DV,T=a.map (fun x=>I64 (L7 x.kind)):=⟨_,rfl⟩;have hTl:T.length=a.length:=by rw[hT,A0C]
 have hTg:∀ (i:Nat) (x:Ex),a[i]? = some x->T[i]? = some (I64 (L7 x.kind)):=fun i x h=>by rw[hT,A1N,h];rfl
 refine A9 (fun q:Nat × Option Nat=>[(2,.ptr 0 0),(3,.ptr 1 0),(7,todoV q.2 q.1),(8,I64 q.1)]) (fun q=>optH H0 q.2 ⟨1,true,T.take q.1⟩)
  (fun q c=>2<=c/\q.1<=a.length/\(q.2=none↔q.1=0)/\(∀ i,q.2=some i->2<=i/\i<c)/\U6 ⟨D,M⟩ a=U6 ⟨D,M⟩ (a.drop q.1)) (fun q=>a.length-q.1) (0,none)
  (by simp[C1,tm,Tm.upd,todoV]) (Sub.refl _) ⟨A0E _,A0O _,by simp,(fun i hi=>by cases hi),rfl⟩ ?_
 rintro⟨i,o⟩ c ⟨h2c,hk,hno,ho,he⟩;dsimp only at hk hno ho he ⊢;have hb0:optH H0 o ⟨1,true,T.take i⟩ 0=some ⟨0,true,[C3 D,C7 M]⟩:=by rw[B7 (fun i hi=>by have:=ho i hi;omega)];exact hz0
 have hb1:optH H0 o ⟨1,true,T.take i⟩ 1=some ⟨0,true,[I64 k,I64 v,.str n,G9 a,I64 p]⟩:=by rw[B7 (fun i hi=>by have:=ho i hi;omega)];exact hz1
 have hbn:∀ j:Nat,c<=j->optH H0 o ⟨1,true,T.take i⟩ j=none:=fun j hj=>by rw[B7 (fun i hi=>by have:=ho i hi;omega)];exact hzn j (by omega)
 have hbo2:∀ j:Nat,o=some j->optH H0 o ⟨1,true,T.take i⟩ j=some ⟨1,true,T.take i⟩:=fun j hj=>by subst hj;exact h_same
 generalize hHH:optH H0 o ⟨1,true,T.take i⟩=HH at hb0 hb1 hbn hbo2 ⊢;by_cases hlt:i<a.length
 ·have hd:=dtz hlt;have hg:=A0B hlt;have hw:=w64 (n:=(i:Int)+1);have hc:=ih _ (A0L hlt);have hTi:=hTg _ _ hg;rw[C4i hg]at he;generalize a[i]=x at hg hc hTi he;rw[Ex.v_w]at hc;unfold tyV at hc;cases hq:erE ⟨D,M⟩ x with
  |some q =>
   obtain⟨px,cx⟩:=q;have hnz:(cx != 0)=true:=by simpa using C6z _ x _ _ hq
   rw[hq]at hc he;rw[he]at hR;repeat' ((with_reducible first|apply wr|refine cpc hc ?_|fail)<;>try simp only[go_sem,seval,hb0,hb1,hd,hg,Ex.v_w,A0C])
   refine⟨by (try and_intros)<;>exact hbn _ (by omega),by (try and_intros)<;>exact hbn _ (by omega),?_⟩;repeat' (apply wr<;>try simp only[go_sem,seval,hnz])
   exact A3 hR.symm
  |none =>
   rw[hq]at hc he;repeat' ((with_reducible first|apply wr|refine cpc hc ?_|fail)<;>try simp only[go_sem,seval,hb0,hb1,hd,hg,Ex.v_w,A0C])
   refine⟨by (try and_intros)<;>exact hbn _ (by omega),by (try and_intros)<;>exact hbn _ (by omega),?_⟩;repeat' (apply wr<;>try simp only[go_sem,seval])
   refine F4 (D5 (cs:=T.take i) (fun e=>by have:=hno.1 e;subst this;exact⟨rfl,rfl⟩) (fun j hj=>by have:=ho j hj;rw[hnO];exact hbo2 j hj) (by rw[A1B];omega) (by omega) (by omega) (by omega)) ?_;simp only[go_sem,seval];repeat' (apply wr<;>try simp only[go_sem,seval,hw])
   refine⟨(i+1,some (c+14+1)),by simp[todoV],?_,inv ⟨by omega,by omega,by simp,(fun j hj=>by cases hj;omega),he⟩,by simp only;omega⟩;exact C5p hHH hzn (fun i hi=>(ho i hi).1) (by omega) (by simp only;rw[A0S,hTi];rfl)
 have hd:=dfz hlt;rw[A1Q (by omega),U6]at he;rw[he,A1V]at hR;have hi:i=a.length:=by omega
 subst hi;rw[A0M (by omega)]at hbo2;repeat' ((with_reducible first|apply wr|refine cpc hk1 ?_|fail)<;>try simp only[go_sem,seval,hb0,hb1,hd,A0C])
 refine⟨by (try and_intros)<;>exact hbn _ (by omega),?_⟩;cases hdz:(dnM ⟨D,M⟩ n (kdE k) != 0) with
 |false =>
  have e0:dnE ⟨D,M⟩ n (kdE k) p=none:=by rw[dnE,if_pos (by simpa using hdz)]
  rw[e0,A1V]at hR;have kL:∀ cc:Nat,c<=cc->IW Tryz.prog 94 (.loop (pz Tryz.prog 167 (.i (.i (.o (.i (.i .h))))))) ⟨tm [(3,.ptr 1 0),(7,todoV o a.length),(13,I64 (A0h k a)),(14,I64 0)],HH,cc⟩ (bk 2 (sq Tryz.prog 94 (pz Tryz.prog 167 (.i (.i (.o (.i (.o (.o .h))))))) (rt [.tmp 4,.tmp 5,.tmp 6] fun v H' x => ∃ H2,GL H' [v] H2 [R]))):=by
   intro cc hcc;generalize A0h k a=wnt at hR ⊢;refine A9 (fun i:Nat=>[(3,.ptr 1 0),(7,todoV o a.length),(13,I64 wnt),(14,I64 i)]) (fun _=>HH) (fun i c2=>c<=c2/\i<=a.length/\(a.take i).all (fun x=>L7 x.kind == wnt)=true) (fun i=>a.length-i) 0 (by simp[C1,tm,Tm.upd]) (Sub.refl _) ⟨hcc,A0O _,rfl⟩ ?_;rintro i cc ⟨hcc,hi,hall⟩;by_cases hlt:i<a.length
   ·have hd:=dtz hlt;have hg:=A0B hlt;have hw:=w64 (n:=(i:Int)+1);have hTi:=hTg _ _ hg;obtain⟨j,hj⟩:∃ j,o=some j:=by
     cases o with
     |none=>have:=hno.1 rfl;omega
     |some j=>exact⟨j,rfl⟩
    have hbj:=hbo2 j hj;subst hj;have hlen:A5r (todoV (some j) a.length)=some (I64 (a.length:Int)):=O0 (fun h=>by cases h);have hia:A0p 1 (.slc j 0 a.length) (I64 (i:Int))=some (.ptr j i):=by simp[A0p];omega
    generalize a[i]=x at hg hTi;by_cases hx:L7 x.kind=wnt
    ·have hxn:(L7 x.kind != wnt)=false:=by simp[hx]
     repeat' (apply wr<;>try simp only[go_sem,seval,hd,hia,hbj,hTi,hw,hxn])
     exact⟨i+1,by simp,Sub.refl _,inv ⟨by omega,by omega,by rw[A0u _ a i _ hg,hall];simp[hx]⟩,by omega⟩
    ·have hxn:(L7 x.kind != wnt)=true:=by simp[hx]
     repeat' (apply wr<;>try simp only[go_sem,seval,hb1,hd,hia,hbj,hTi,hxn])
     refine⟨by (try and_intros)<;>exact hbn _ (by omega),?_⟩;repeat' (apply wr<;>try simp only[go_sem,seval])
     rw[Y6 _ a i _ hg (by simp[hx]),if_neg (by decide)]at hR;exact A3 hR.symm
   have hd:=dfz hlt;have hlen:A5r (todoV o a.length)=some (I64 (a.length:Int)):=O0 (fun h=>by have:=hno.1 h;omega);have hall2:=A2p _ a i (by omega) hall;rw[if_pos hall2]at hR;repeat' ((with_reducible first|refine wr ?_|refine cpc hbo ?_|refine wb2 ?_ ?_<;>(intro hb;try simp only[hb])|fail)<;>try simp only[go_sem,seval,hb1,hd,hlen])
   all_goals (refine A3 ?_;rw[hR];simp_all[L7])
  by_cases ka:k=11\/k=23\/k=24
  ·have ew:A0h k a=2:=by unfold A0h;rw[if_pos ka]
   rw[ew]at kL;rcases ka with rfl|rfl|rfl
   all_goals (repeat' ((with_reducible first|apply wr|refine cpc hdn ?_|fail)<;>try simp only[go_sem,seval,hb1,hdz]))
   all_goals exact kL (c+8) (by omega)
  have ka1:(k == 11)=false:=by simp;omega
  have ka2:(k == 23)=false:=by simp;omega
  have ka3:(k == 24)=false:=by simp;omega
  by_cases kb:k=21\/k=22
  ·have hl2:=h22 kb;obtain⟨j,hj⟩:∃ j,o=some j:=by
    cases o with
    |none=>have:=hno.1 rfl;omega
    |some j=>exact⟨j,rfl⟩
   obtain⟨x0,l0,rfl⟩:∃ x l,a=x :: l:=by
    cases a with
    |nil=>simp at hl2
    |cons x l=>exact⟨x,l,rfl⟩
   have ew:A0h k (x0 :: l0)=L7 x0.kind:=by unfold A0h;rw[if_neg ka,if_pos kb]
   rw[ew]at kL;have hbj:=hbo2 j hj;subst hj;have hT0:∃ T',T=I64 (L7 x0.kind) :: T':=⟨l0.map (fun x=>I64 (L7 x.kind)),by rw[hT];rfl⟩;obtain⟨T',hT'⟩:=hT0;rw[hT']at hbj;have hia:A0p 1 (.slc j 0 (l0.length+1)) (.int .i64 0)=some (.ptr j 0):=by
    simp[A0p]
   rcases kb with rfl|rfl
   all_goals (repeat' ((with_reducible first|apply wr|refine cpc hdn ?_|fail)<;>try simp only[go_sem,seval,hb1,hdz,hia,hbj]))
   all_goals exact kL (c+8) (by omega)
  have ew:A0h k a=1:=by unfold A0h;rw[if_neg ka,if_neg kb]
  rw[ew]at kL;have kb1:(k == 21)=false:=by simp;omega
  have kb2:(k == 22)=false:=by simp;omega
  repeat' ((with_reducible first|apply wr|refine cpc hdn ?_|fail)<;>try simp only[go_sem,seval,hb1,hdz,ka1,ka2,ka3,kb1,kb2])
  all_goals exact kL (c+8) (by omega)
 |true =>
  have e0:dnE ⟨D,M⟩ n (kdE k) p=some (p,dnM ⟨D,M⟩ n (kdE k)):=by rw[dnE,if_neg (by simpa using hdz)]
  rw[e0]at hR;repeat' ((with_reducible first|apply wr|refine cpc hdn ?_|fail)<;>try simp only[go_sem,seval,hb1,hdz])
  refine⟨by (try and_intros)<;>exact hbn _ (by omega),by (try and_intros)<;>exact hbn _ (by omega),?_⟩;repeat' (apply wr<;>try simp only[go_sem,seval])
  exact A3 hR.symm
theorem c_blkR(r:Ru)(h1:r.decls.length<=1000000000)(h2:r.modes.length<=1000000000):∀ (m:Nat) (l:List Pb.St) (d:Nat),Pb.St.szs l<m->Pb.St.szs l<=100000000->F8 d l=true->PC Tryz.prog 235 [r.v,D3 l] (erV (erB r l)):=by
 intro m
 induction m with
 |zero=>intro l d h;omega
 |succ m ih =>
 intro l d hm hB hv;have hl:=Pb.St.szs_len l;refine PC.ofT A2 rfl (A0D rfl) (by simp[DV.nlL,DV.nl,K4,K3,W1]) (B9e _) ?_;obtain⟨R,hR⟩:∃ R,R=erV (erB r l):=⟨_,rfl⟩;rw[<- hR];have hty:=fun x h h' h''=>c_tyR r h1 h2 (x.sz+1) x h h' h'';have hdn:=fun n k=>c_dnR r n k h1 h2;obtain⟨D,M⟩:=r;dsimp only[Ru.v]at hty hdn ih ⊢;repeat' (apply wr<;>try simp only[go_sem,seval])
 refine A9 (fun i:Nat=>[(1,D3 l),(2,.ptr 0 0),(6,I64 i)]) (fun _=>Sym.nil.upd 0 ⟨0,true,[C3 D,C7 M]⟩) (fun i c=>1<=c/\i<=l.length/\erB ⟨D,M⟩ l=erB ⟨D,M⟩ (l.drop i)) (fun i=>l.length-i) 0 (by simp[C1,tm,Tm.upd]) (Sub.refl _) ⟨A0E _,A0O _,rfl⟩ ?_;rintro i c ⟨h1c,hk,he⟩;by_cases hlt:i<l.length
 ·have hd:=dtz hlt;have hg:=A0B hlt;have hw:=w64 (n:=(i:Int)+1);have hsx:=Pb.St.szs_mem (A0L hlt);obtain⟨v1,v2,v3⟩:=A8w (A6i hv _ (A0L hlt));rw[C9c hg,D4j]at he;generalize l[i]=s at hg hsx v1 v2 v3 he;have hsa:Ex.szs s.args<s.sz:=by cases s with|mk k n t a x y p=>rw[Pb.St.sz];show Ex.szs a<_;omega
  have hal:=Ex.szs_len s.args;have hX:=ih s.thn (d+1) (by have:=s.sz_thn;omega) (by have:=s.sz_thn;omega) v2;have hY:=ih s.els (d+1) (by have:=s.sz_els;omega) (by have:=s.sz_els;omega) v3;have hk1:=c_stmKR s.kind;have hdn:=hdn s.name (kdS s.kind);have ne0:=A0m 0 c (by omega);repeat' ((with_reducible first|apply wr|refine cpc hk1 ?_|fail)<;>try simp only[go_sem,seval,hd,hg,Pb.St.v_w,A0C,ne0,h_same,A5])
  refine⟨by (try and_intros)<;>(repeat rw[hnO])<;>rfl,?_⟩;obtain⟨HH,hHH⟩:∃ HH,HH=(Sym.nil.upd 0 ⟨0,true,[C3 D,C7 M]⟩).upd c ⟨0,true,[I64 s.kind,.str s.name,.str s.text,G9 s.args,D3 s.thn,D3 s.els,I64 s.pos]⟩:=⟨_,rfl⟩;have hb0:HH 0=some ⟨0,true,[C3 D,C7 M]⟩:=by rw[hHH,hnO];rfl
  have hbc:HH c=some ⟨0,true,[I64 s.kind,.str s.name,.str s.text,G9 s.args,D3 s.thn,D3 s.els,I64 s.pos]⟩:=by rw[hHH];exact h_same
  have hbn:∀ j:Nat,c+1<=j->HH j=none:=fun j hj=>by rw[hHH,hnO,hnO];rfl
  have hsub:Sym.Sub (Sym.nil.upd 0 ⟨0,true,[C3 D,C7 M]⟩) HH:=by rw[hHH];exact A2v h1c
  rw[<- hHH];cases hdz:(dnM ⟨D,M⟩ s.name (kdS s.kind) != 0) with
  |true =>
   have e0:dnE ⟨D,M⟩ s.name (kdS s.kind) s.pos=some (s.pos,dnM ⟨D,M⟩ s.name (kdS s.kind)):=by rw[dnE,if_neg (by simpa using hdz)]
   rw[e0]at he;rw[he]at hR;repeat' ((with_reducible first|apply wr|refine cpc hdn ?_|fail)<;>try simp only[go_sem,seval,hbc,hdz])
   exact A3 hR.symm
  |false =>
  have e0:dnE ⟨D,M⟩ s.name (kdS s.kind) s.pos=none:=by rw[dnE,if_pos (by simpa using hdz)]
  rw[e0,A1V]at he;repeat' ((with_reducible first|apply wr|refine cpc hdn ?_|fail)<;>try simp only[go_sem,seval,hdz])
  refine A9 (fun i2:Nat=>[(1,D3 l),(2,.ptr 0 0),(6,I64 i),(7,.ptr c 0),(9,I64 i2)]) (fun _=>HH) (fun i2 c2=>c+1<=c2/\i2<=s.args.length/\erA ⟨D,M⟩ (s.kind == 2) s.args=erA ⟨D,M⟩ (s.kind == 2) (s.args.drop i2)) (fun i2=>s.args.length-i2) 0 (by simp[C1,tm,Tm.upd]) (Sub.refl _) ⟨by omega,A0O _,rfl⟩ ?_;rintro i2 c2 ⟨hc2,hk2,he2⟩;by_cases hlt2:i2<s.args.length
  ·have hd2:=dtz hlt2;have hg2:=A0B hlt2;have hw2:=w64 (n:=(i2:Int)+1);have hxs:=Ex.szs_mem (A0L hlt2);have hc:=hty s.args[i2] (by omega) (by omega) (v1 _ (A0L hlt2));rw[C9d hg2]at he2;generalize s.args[i2]=x at hg2 hxs hc he2;rw[Ex.v_w]at hc;unfold tyV at hc;cases hq:erE ⟨D,M⟩ x with
   |some q =>
    obtain⟨px,cx⟩:=q;have hnz:(cx != 0)=true:=by simpa using C6z _ x _ _ hq
    rw[hq]at hc he2;rw[he,he2]at hR;repeat' ((with_reducible first|apply wr|refine cpc hc ?_|fail)<;>try simp only[go_sem,seval,hb0,hbc,hd2,hg2,Ex.v_w,A0C])
    refine⟨by (try and_intros)<;>exact hbn _ (by omega),by (try and_intros)<;>exact hbn _ (by omega),?_⟩;repeat' (apply wr<;>try simp only[go_sem,seval,hnz])
    exact A3 hR.symm
   |none =>
    rw[hq]at hc he2;repeat' ((with_reducible first|apply wr|refine cpc hc ?_|fail)<;>try simp only[go_sem,seval,hb0,hbc,hd2,hg2,Ex.v_w,A0C])
    refine⟨by (try and_intros)<;>exact hbn _ (by omega),by (try and_intros)<;>exact hbn _ (by omega),?_⟩;repeat' ((with_reducible first|refine wr ?_|refine wb2 ?_ ?_<;>(intro hb;try simp only[hb])|fail)<;>try simp only[go_sem,seval,hbc,hg2,hw2,Ex.v_w])
    ·have hne:¬ (L7 x.kind == 2)=(s.kind == 2):=by simpa[bne] using hb
     rw[if_neg hne]at he2;rw[he,he2]at hR;exact A3 hR.symm
    ·have heq:(L7 x.kind == 2)=(s.kind == 2):=by simpa[bne] using hb
     rw[if_pos heq]at he2;exact⟨i2+1,by simp,Sub.refl _,inv ⟨by omega,by omega,he2⟩,by omega⟩
  have hd2:=dfz hlt2;rw[A1Q (by omega),erA]at he2;rw[he2,A1V]at he;clear he2;cases hqX:erB ⟨D,M⟩ s.thn with
  |some q =>
   obtain⟨px,cx⟩:=q;have hnz:(cx != 0)=true:=by simpa using B3o _ _ _ _ hqX
   rw[hqX]at hX he;rw[he]at hR;dsimp only[erV]at hX;repeat' ((with_reducible first|apply wr|refine cpc hX ?_|fail)<;>try simp only[go_sem,seval,hb0,hbc,hd2,A0C,hnz])
   exact A3 hR.symm
  |none =>
  rw[hqX]at hX he;rw[A1V]at he;dsimp only[erV]at hX;cases hqY:erB ⟨D,M⟩ s.els with
  |some q =>
   obtain⟨px,cx⟩:=q;have hnz:(cx != 0)=true:=by simpa using B3o _ _ _ _ hqY
   rw[hqY]at hY he;rw[he]at hR;dsimp only[erV]at hY;repeat' ((with_reducible first|apply wr|refine cpc hX ?_|refine cpc hY ?_|fail)<;>try simp only[go_sem,seval,hb0,hbc,hd2,A0C,hnz])
   exact A3 hR.symm
  |none =>
  rw[hqY]at hY he;rw[A1V]at he;dsimp only[erV]at hY;repeat' ((with_reducible first|apply wr|refine cpc hX ?_|refine cpc hY ?_|fail)<;>try simp only[go_sem,seval,hb0,hbc,hd2,A0C,hw])
  exact⟨i+1,by simp,hsub,inv ⟨by omega,by omega,he⟩,by omega⟩
 have hd:=dfz hlt;rw[A1Q (by omega),erB]at he;rw[he]at hR;repeat' (apply wr<;>try simp only[go_sem,seval,hd,A0C])
 exact A3 hR.symm
theorem c_headsR(r:Ru)(h1:r.decls.length<=1000000000)(h2:r.modes.length<=1000000000):PC Tryz.prog 232 [r.v] (erV (A7a r)):=by
 refine PC.ofT A2 rfl (A0D rfl) (by simp[DV.nlL,DV.nl,K4,K3]) (B9e _) ?_;obtain⟨R,hR⟩:∃ R,R=erV (A7a r):=⟨_,rfl⟩;rw[<- hR];obtain⟨D,M⟩:=r;unfold A7a at hR;dsimp only at h1 h2 hR;dsimp only[Ru.v];repeat' (apply wr<;>try simp only[go_sem,seval])
 refine A9 (fun i:Nat=>[(1,.ptr 0 0),(4,I64 i)]) (fun _=>Sym.nil.upd 0 ⟨0,true,[C3 D,C7 M]⟩) (fun i c=>1<=c/\i<=D.length/\erD [] D=erD (D.take i) (D.drop i)) (fun i=>D.length-i) 0 (by simp[C1,tm,Tm.upd]) (Sub.refl _) ⟨A0E _,A0O _,rfl⟩ ?_;rintro i c ⟨h1c,hk,he⟩;by_cases hlt:i<D.length
 ·have hd:=dtz hlt;have hg:=A0B hlt;have hw:=w64 (n:=(i:Int)+1);rw[C9b hg]at he;have hlk:=C6s (c_lkR ⟨D.take i,[]⟩ D[i].name (by rw[A1B];omega) (A0O _));generalize D[i]=d at hg he hlk;have hmo:=c_mostR d.kind;have hsl:=fun H=>B3g (xs:=D.map Dc.v) (h:=i) (sz:=4) (by rw[A0C];omega) (A3i _) H;rw[<- List.map_take]at hsl;have ne0:=A0m 0 c (by omega);by_cases hv:d.value>A3o d.kind
  ·have qv:decide (d.value>A3o d.kind)=true:=by simpa using hv
   rw[if_pos hv]at he;rw[he]at hR;repeat' ((with_reducible first|apply wr|refine cpc hmo ?_|fail)<;>try simp only[go_sem,seval,hd,hg,A3r,A0C,h_same,A5,qv])
   refine⟨by (try and_intros)<;>(repeat rw[hnO])<;>rfl,?_⟩;repeat' (apply wr<;>try simp only[go_sem,seval,h_same])
   exact A3 hR.symm
  have qv:decide (d.value>A3o d.kind)=false:=by simpa using hv
  rw[if_neg hv,A1V]at he;by_cases hl:(E7 ⟨D.take i,[]⟩ d.name).1=0
  ·have ql:((E7 ⟨D.take i,[]⟩ d.name).1 != 0)=false:=by simp[hl]
   rw[if_pos hl,A1V]at he;repeat' ((with_reducible first|apply wr|refine cpc hmo ?_|fail)<;>try simp only[go_sem,seval,hd,hg,A3r,A0C,h_same,A5,qv])
   refine⟨by (try and_intros)<;>(repeat rw[hnO])<;>rfl,?_⟩;repeat' ((with_reducible first|apply wr|refine cpc hlk ?_|fail)<;>try simp only[go_sem,seval,ne0,h_same,hsl])
   refine⟨by (try and_intros)<;>(repeat rw[hnO])<;>rfl,?_⟩;repeat' (apply wr<;>try simp only[go_sem,seval,hw,ql])
   exact⟨i+1,by simp,A2v h1c,inv ⟨by omega,by omega,he⟩,by omega⟩
  ·have ql:((E7 ⟨D.take i,[]⟩ d.name).1 != 0)=true:=by simp[hl]
   rw[if_neg hl]at he;rw[he]at hR;repeat' ((with_reducible first|apply wr|refine cpc hmo ?_|fail)<;>try simp only[go_sem,seval,hd,hg,A3r,A0C,h_same,A5,qv])
   refine⟨by (try and_intros)<;>(repeat rw[hnO])<;>rfl,?_⟩;repeat' ((with_reducible first|apply wr|refine cpc hlk ?_|fail)<;>try simp only[go_sem,seval,ne0,h_same,hsl])
   refine⟨by (try and_intros)<;>(repeat rw[hnO])<;>rfl,?_⟩;repeat' (apply wr<;>try simp only[go_sem,seval,h_same,ql])
   exact A3 hR.symm
 have hd:=dfz hlt;rw[A1Q (by omega),erD]at he;rw[he,A1V]at hR;repeat' (apply wr<;>try simp only[go_sem,seval,hd,A0C])
 clear he hd hlt hk i;refine A9 (fun i:Nat=>[(1,.ptr 0 0),(8,I64 i)]) (fun _=>Sym.nil.upd 0 ⟨0,true,[C3 D,C7 M]⟩) (fun i c=>1<=c/\i<=M.length/\erP D [] M=erP D (M.take i) (M.drop i)) (fun i=>M.length-i) 0 (by simp[C1,tm,Tm.upd]) (Sub.refl _) ⟨h1c,A0O _,rfl⟩ ?_;clear h1c c;rintro i c ⟨h1c,hk,he⟩;by_cases hlt:i<M.length
 ·have hd:=dtz hlt;have hg:=A0B hlt;have hw:=w64 (n:=(i:Int)+1);rw[C8w hg]at he;have hlk:PC Tryz.prog 95 [.agg [C3 D,C7 (M.take i)],.str M[i].name] _:=c_lkR ⟨D,M.take i⟩ M[i].name (by omega) (by rw[A1B];omega);generalize M[i]=d at hg he hlk;have hsl:=fun H=>B3g (xs:=M.map Md.v) (h:=i) (sz:=4) (by rw[A0C];omega) (A8m _) H;rw[<- List.map_take]at hsl;have ne0:=A0m 0 c (by omega);by_cases hv:d.prio>99
  ·have qv:decide (d.prio>99)=true:=by simpa using hv
   rw[if_pos hv]at he;rw[he]at hR;repeat' (apply wr<;>try simp only[go_sem,seval,hd,hg,A8a,A0C,h_same,A5,qv])
   exact A3 hR.symm
  have qv:decide (d.prio>99)=false:=by simpa using hv
  rw[if_neg hv,A1V]at he;by_cases hl:(E7 ⟨D,M.take i⟩ d.name).1=0
  ·have ql:((E7 ⟨D,M.take i⟩ d.name).1 != 0)=false:=by simp[hl]
   rw[if_pos hl,A1V]at he;repeat' ((with_reducible first|apply wr|refine cpc hlk ?_|fail)<;>try simp only[go_sem,seval,hd,hg,A8a,A0C,ne0,h_same,A5,hsl,qv])
   refine⟨by (try and_intros)<;>(repeat rw[hnO])<;>rfl,?_⟩;repeat' (apply wr<;>try simp only[go_sem,seval,hw,ql])
   exact⟨i+1,by simp,A2v h1c,inv ⟨by omega,by omega,he⟩,by omega⟩
  ·have ql:((E7 ⟨D,M.take i⟩ d.name).1 != 0)=true:=by simp[hl]
   rw[if_neg hl]at he;rw[he]at hR;repeat' ((with_reducible first|apply wr|refine cpc hlk ?_|fail)<;>try simp only[go_sem,seval,hd,hg,A8a,A0C,ne0,h_same,A5,hsl,qv])
   refine⟨by (try and_intros)<;>(repeat rw[hnO])<;>rfl,?_⟩;repeat' (apply wr<;>try simp only[go_sem,seval,h_same,ql])
   exact A3 hR.symm
 have hd:=dfz hlt;rw[A1Q (by omega),erP]at he;rw[he]at hR;repeat' (apply wr<;>try simp only[go_sem,seval,hd,A0C])
 exact A3 hR.symm
theorem A4b(h:Hd):h.v=.agg [I64 h.trig,.str h.name,D3 h.body,I64 h.pos]:=rfl
theorem c_vdR(r:Ru)(hB:r.sz<4000000):PC Tryz.prog 27 [r.v] (.bool (L1 r)):=by
 have:=c_ValidR31 r hB
 rwa [D0m]at this
theorem C2i(r:Ru):(B4f r).nl=true:=by unfold B4f;split;exact B9e _;rfl
theorem c_CheckR(r:Ru)(hB:r.sz<4000000):PC Tryz.prog 155 [r.v] (B4f r):=by
 refine PC.ofT A2 rfl (A0D rfl) (by simp[DV.nlL,DV.nl,K4,K3]) (C2i _) ?_;have hv:=c_vdR r hB;have hhe:=c_headsR r (by have:=A7p r;omega) (by have:=A7o r;omega);have hdn:=fun n k=>c_dnR r n k (by have:=A7p r;omega) (by have:=A7o r;omega);have hbl:=fun l d h h'=>c_blkR r (by have:=A7p r;omega) (by have:=A7o r;omega) (Pb.St.szs l+1) l d (A1O _) h h';have hml:=A7o r;have hms:∀ m∈r.modes,m.sz<=r.sz:=fun m h=>C5m h;have hbv:=@B4o _ r;have hch:B4f r=if L1 r=true then erV (A3s r) else .tup [I64 0,I64 1]:=rfl
 unfold A3s at hch;cases hvd:L1 r with
 |false =>
  rw[hvd]at hv hch;rw[hch];obtain⟨D,M⟩:=r;dsimp only[Ru.v]at hv ⊢;repeat' ((with_reducible first|apply wr|refine cpc hv ?_|fail)<;>try simp only[go_sem,seval])
  exact A3 rfl
 |true =>
 have hbv:=hbv hvd;rw[hvd]at hv hch;rw[if_pos rfl]at hch;obtain⟨R,hR⟩:∃ R,R=B4f r:=⟨_,rfl⟩;rw[<- hR];rw[hch]at hR;have hnz:=C6x r;obtain⟨D,M⟩:=r;dsimp only[Ru.v]at hv hhe hdn hbl hml hms hbv hR ⊢;cases hqH:A7a ⟨D,M⟩ with
 |some q =>
  obtain⟨px,cx⟩:=q;have hn:(cx != 0)=true:=by simpa using hnz _ _ hqH
  rw[hqH]at hhe hR;dsimp only[erV]at hhe;repeat' ((with_reducible first|apply wr|refine cpc hv ?_|refine cpc hhe ?_|fail)<;>try simp only[go_sem,seval,hn])
  exact A3 hR.symm
 |none =>
 rw[hqH]at hhe hR;rw[A1V]at hR;dsimp only[erV]at hhe;repeat' ((with_reducible first|apply wr|refine cpc hv ?_|refine cpc hhe ?_|fail)<;>try simp only[go_sem,seval])
 refine A9 (fun i:Nat=>[(1,.ptr 0 0),(6,I64 i)]) (fun _=>Sym.nil.upd 0 ⟨0,true,[C3 D,C7 M]⟩) (fun i c=>1<=c/\i<=M.length/\erM ⟨D,M⟩ M=erM ⟨D,M⟩ (M.drop i)) (fun i=>M.length-i) 0 (by simp[C1,tm,Tm.upd]) (Sub.refl _) ⟨by omega,A0O _,rfl⟩ ?_;rintro i c ⟨h1c,hk,he⟩;by_cases hlt:i<M.length
 ·have hd:=dtz hlt;have hg:=A0B hlt;have hw:=w64 (n:=(i:Int)+1);rw[C8x hg]at he;have hms:=hms _ (A0L hlt);have hbv:=hbv _ (A0L hlt);generalize M[i]=d at hg he hms hbv;have hhl:=D3p d;repeat' (apply wr<;>try simp only[go_sem,seval,hd,hg,A8a,A0C])
  refine A9 (fun i2:Nat=>[(1,.ptr 0 0),(6,I64 i),(7,K8 d.hds),(8,I64 i2)]) (fun _=>Sym.nil.upd 0 ⟨0,true,[C3 D,C7 M]⟩) (fun i2 c=>1<=c/\i2<=d.hds.length/\erH ⟨D,M⟩ [] d.hds=erH ⟨D,M⟩ (d.hds.take i2) (d.hds.drop i2)) (fun i2=>d.hds.length-i2) 0 (by simp[C1,tm,Tm.upd]) (Sub.refl _) ⟨by omega,A0O _,rfl⟩ ?_;rintro i2 c2 ⟨hc2,hk2,he2⟩;by_cases hlt2:i2<d.hds.length
  ·have hd2:=dtz hlt2;have hg2:=A0B hlt2;have hw2:=w64 (n:=(i2:Int)+1);have hxs:=C5n (A0L hlt2);have hbv:=hbv _ (A0L hlt2);rw[C8z hg2]at he2;generalize d.hds[i2]=x at hg2 hxs hbv he2;have hxe:x.sz=1+x.name.length+Pb.St.szs x.body:=rfl;have hbl:=hbl x.body 1 (by omega) hbv;have htk:=c_trgKR x.trig;have hdn:=hdn x.name (kdH x.trig);cases hdz:(dnM ⟨D,M⟩ x.name (kdH x.trig) != 0) with
   |true =>
    have e0:dnE ⟨D,M⟩ x.name (kdH x.trig) x.pos=some (x.pos,dnM ⟨D,M⟩ x.name (kdH x.trig)):=by rw[dnE,if_neg (by simpa using hdz)]
    rw[e0]at he2;rw[he,he2]at hR;repeat' ((with_reducible first|apply wr|refine cpc htk ?_|fail)<;>try simp only[go_sem,seval,hd2,hg2,A4b,A0C])
    refine⟨by (try and_intros)<;>(repeat rw[hnO])<;>rfl,?_⟩;repeat' ((with_reducible first|apply wr|refine cpc hdn ?_|fail)<;>try simp only[go_sem,seval,hg2,A4b,hdz])
    exact A3 hR.symm
   |false =>
   have e0:dnE ⟨D,M⟩ x.name (kdH x.trig) x.pos=none:=by rw[dnE,if_pos (by simpa using hdz)]
   rw[e0,A1V]at he2;repeat' ((with_reducible first|apply wr|refine cpc htk ?_|fail)<;>try simp only[go_sem,seval,hd2,hg2,A4b,A0C])
   refine⟨by (try and_intros)<;>(repeat rw[hnO])<;>rfl,?_⟩;repeat' ((with_reducible first|apply wr|refine cpc hdn ?_|fail)<;>try simp only[go_sem,seval,hdz])
   refine A9 (fun j:Nat=>[(1,.ptr 0 0),(6,I64 i),(7,K8 d.hds),(8,I64 i2),(10,I64 j)]) (fun _=>Sym.nil.upd 0 ⟨0,true,[C3 D,C7 M]⟩) (fun j c=>1<=c/\j<=i2/\(d.hds.take j).any (fun y=>y.trig == x.trig && y.name == x.name)=false) (fun j=>i2-j) 0 (by simp[C1,tm,Tm.upd]) (Sub.refl _) ⟨by omega,A0O _,rfl⟩ ?_;rintro j c3 ⟨hc3,hj,ha⟩;by_cases hlt3:j<i2
   ·have hd3:=dtz hlt3;have hg3:=A0B (l:=d.hds) (i:=j) (by omega);have hw3:=w64 (n:=(j:Int)+1);generalize d.hds[j]'(by omega)=y at hg3;cases hp:(y.trig == x.trig && y.name == x.name) with
    |true =>
     have hany:(d.hds.take i2).any (fun y=>y.trig == x.trig && y.name == x.name)=true:=by
      rw[List.any_eq_true];exact⟨y,A0U (by rw[List.getElem?_take_of_lt hlt3];exact hg3),hp⟩
     rw[if_pos hany]at he2;rw[he,he2]at hR;rw[A0F]at hp;repeat' (apply wr<;>try simp only[go_sem,seval,hd3,hg3,hg2,A4b,hp.1,hp.2])
     exact A3 hR.symm
    |false =>
     have hnx:=A7i (fun y=>y.trig == x.trig && y.name == x.name) _ _ _ hg3;rw[ha,hp]at hnx;cases hp1:y.trig == x.trig with
     |false =>
      repeat' (apply wr<;>try simp only[go_sem,seval,hd3,hg3,hg2,hw3,A4b,hp1])
      exact⟨j+1,by simp,Sub.refl _,inv ⟨by omega,by omega,hnx⟩,by omega⟩
     |true =>
      have hp2:(y.name == x.name)=false:=by rw[hp1]at hp;simpa using hp
      repeat' (apply wr<;>try simp only[go_sem,seval,hd3,hg3,hg2,hw3,A4b,hp1,hp2])
      exact⟨j+1,by simp,Sub.refl _,inv ⟨by omega,by omega,hnx⟩,by omega⟩
   have hd3:=dfz hlt3;have hji:j=i2:=by omega
   subst hji;rw[if_neg (by rw[ha];decide),A1V]at he2;cases hqB:erB ⟨D,M⟩ x.body with
   |some q =>
    obtain⟨px,cx⟩:=q;have hn:(cx != 0)=true:=by simpa using B3o _ _ _ _ hqB
    rw[hqB]at hbl he2;dsimp only[erV]at hbl;rw[he,he2]at hR;repeat' ((with_reducible first|apply wr|refine cpc hbl ?_|fail)<;>try simp only[go_sem,seval,hd3,hg2,A4b,hn])
    exact A3 hR.symm
   |none =>
   rw[hqB]at hbl he2;dsimp only[erV]at hbl;rw[A1V]at he2;repeat' ((with_reducible first|apply wr|refine cpc hbl ?_|fail)<;>try simp only[go_sem,seval,hd3,hg2,hw2,A4b])
   exact⟨j+1,by simp,Sub.refl _,inv ⟨by omega,by omega,he2⟩,by omega⟩
  have hd2:=dfz hlt2;rw[A1Q (by omega),erH]at he2;rw[he2,A1V]at he;repeat' (apply wr<;>try simp only[go_sem,seval,hd2,hw,A0C])
  exact⟨i+1,by simp,Sub.refl _,inv ⟨by omega,by omega,he⟩,by omega⟩
 have hd:=dfz hlt;rw[A1Q (by omega),erM]at he;rw[he]at hR;repeat' (apply wr<;>try simp only[go_sem,seval,hd,A0C])
 exact A3 hR.symm
def C7n(r:Ru)(n:List UInt8):DV:=if L1 r=true then .tup [I64 (E7 r n).1,I64 (E7 r n).2] else .tup [I64 0,I64 0]
def cnV(r:Ru)(k:Int):DV:=if L1 r=true then I64 (cnR r k) else I64 0
theorem D7r(r:Ru)(n:List UInt8):(C7n r n).nl=true:=by unfold C7n;split<;>rfl
theorem D8z(r:Ru)(k:Int):(cnV r k).nl=true:=by unfold cnV;split<;>rfl
theorem c_LookupR(r:Ru)(n:List UInt8)(hB:r.sz<4000000):PC Tryz.prog 46 [r.v,.str n] (C7n r n):=by
 refine PC.ofT A2 rfl (A0D rfl) (by simp[DV.nlL,DV.nl,K4,K3]) (D7r _ _) ?_;have hv:=c_vdR r hB;have hl:=c_lkR r n (by have:=A7p r;omega) (by have:=A7o r;omega);unfold C7n;generalize L1 r=bv at *;obtain⟨D,M⟩:=r;dsimp only[Ru.v]at hv hl ⊢;cases bv<;>(repeat' ((with_reducible first|apply wr|refine cpc hv ?_|refine cpc hl ?_|fail)<;>try simp only[go_sem,seval]));all_goals exact A3 rfl
theorem c_CountR(r:Ru)(k:Int)(hB:r.sz<4000000):PC Tryz.prog 156 [r.v,I64 k] (cnV r k):=by
 refine PC.ofT A2 rfl (A0D rfl) (by simp[DV.nlL,DV.nl,K4,K3]) (D8z _ _) ?_;have hv:=c_vdR r hB;have hl:=c_cntR r k (by have:=A7p r;omega) (by have:=A7o r;omega);unfold cnV;generalize L1 r=bv at *;obtain⟨D,M⟩:=r;dsimp only[Ru.v]at hv hl ⊢;cases bv<;>(repeat' ((with_reducible first|apply wr|refine cpc hv ?_|refine cpc hl ?_|fail)<;>try simp only[go_sem,seval]));all_goals exact A3 rfl
theorem B0q:B7d (inj (Value.map none))=some (none,⟨0,true,[.mnil]⟩):=rfl
abbrev beC(r:Ru):List DV:=[.snil,.snil,.snil,M1 (r.modes.map Md.prio),M1 ((r.decls.filter fun d=>d.kind=6).map Dc.value),I64 (cnD r.decls 7:Int),I64 (cnD r.decls 8:Int),.mp .s (mkK (inL (nmL r))) (mvV (inL (nmL r)))]
theorem c_begin0(r:Ru)(h1:r.decls.length<=1000000)(h2:r.modes.length<=1000000):
  AC Tryz.prog 49 [r.v] Sym.nil 0 (fun v H' _ => ∃ id,v=.ptr id 0/\H'=Sym.nil.upd id ⟨0,true,beC r⟩):=by
 obtain⟨R,hR⟩:∃ R,R=nmL r:=⟨_,rfl⟩;unfold beC;rw[<- hR];unfold nmL at hR;obtain⟨D,M⟩:=r;dsimp only at h1 h2 hR ⊢;dsimp only[Ru.v];refine AC.bodyT A2 rfl (A0D rfl) fun hfr=>?_;repeat' (apply wr<;>try simp only[go_sem,seval])
 refine A9 (fun q:Nat × NmL × Option Nat × List Int=>[(1,.ptr 0 0),(3,.ptr 2 0),(4,.mid 3),(19,C3 D),(20,I64 D.length),(21,I64 q.1)]) (fun q=>bgM D M q.2.1 (ahM (D.take q.1)) none [] q.2.2.1 q.2.2.2)
  (fun q c=>q.1<=D.length/\BN none [] q.2.2.1 q.2.2.2 c/\nmD [] [] D=nmD (D.take q.1) q.2.1 (D.drop q.1)/\q.2.2.2=((D.take q.1).filter fun d=>d.kind=6).map Dc.value) (fun q=>D.length-q.1) (0,[],none,[])
  (by simp[C1,tm,Tm.upd]) (B0t rfl rfl rfl rfl (fun i h=>by cases h) (fun i h=>by cases h)) ⟨A0O _,⟨by omega,fun i h=>(by cases h),fun i h=>(by cases h),fun i j h=>(by cases h),fun _=>rfl,fun _=>rfl⟩,rfl,rfl⟩ ?_
 rintro⟨i,l,o,vs⟩ c ⟨hk,hN,he,hvs⟩;dsimp only at hk hN he hvs ⊢;have h4c:=hN.c4;by_cases hlt:i<D.length
 ·have hd:=dtz hlt;have hg:=A0B hlt;have hw:=w64 (n:=(i:Int)+1);rw[B5q hg]at he;have hah:ahM (D.take (i+1))=ahS (ahM (D.take i)) D[i].kind:=by rw[A0S,hg];exact B0x _ _
  have hvn:((D.take (i+1)).filter fun d=>d.kind=6).map Dc.value=vs++(if D[i].kind=6 then [D[i].value] else []):=by
   rw[A0S,hg,List.filter_append,A0T, <- hvs]
   congr 1
   by_cases h:D[i].kind=6<;>simp[h]
  have hvl:vs.length<=D.length:=by
   rw[hvs,A0C];exact A1E (List.length_filter_le _ _) (by rw[A1B];omega)
  have hlk:=C2o D[i].kind (ahM (D.take i));have hmu:=D4p D[i].kind (ahM (D.take i));have hcn:=B9r (D.take i) D[i].kind;have hcl:=B9i (D.take i) D[i].kind;rw[A1B]at hcl;generalize D[i]=d at hg he hah hlk hmu hcn hcl hvn;rw[hcn]at hlk hmu;have hw2:=w64 (n:=(cnD (D.take i) d.kind:Int)+1);have hb0:=bg0 (D:=D) (M:=M) (l:=l) (a:=ahM (D.take i)) hN;have hb1:=bg1 (D:=D) (M:=M) (l:=l) (a:=ahM (D.take i)) hN;have hb2:=bg2 (D:=D) (M:=M) (l:=l) (a:=ahM (D.take i)) hN;have hb3:=bg3 (D:=D) (M:=M) (l:=l) (a:=ahM (D.take i)) hN;have hbV:=fun q (hi:o=some q)=>bgV (D:=D) (M:=M) (l:=l) (a:=ahM (D.take i)) (o2:=none) (ps:=[]) (vs:=vs) hi;have hbn:=fun j (hj:c<=j)=>bgN (D:=D) (M:=M) (l:=l) (a:=ahM (D.take i)) hN hj;have hno:=hN.no;have hho:=hN.ho;generalize hHH:bgM D M l (ahM (D.take i)) none [] o vs=HH at hb0 hb1 hb2 hb3 hbn hbV ⊢;have ne0:=A5k 0 1 2 3 c (c+1) (by omega);generalize hQ:lp _ _ _ _ _ _=Q;have tail:∀ (X:Hp) (c1:Nat) (o':Option Nat),c<c1->BN none [] o' (vs++(if d.kind=6 then [d.value] else [])) c1->(∀ i,o'=some i->i≠c)->X 0=some ⟨0,true,[C3 D,C7 M]⟩->X 1=some (A9k l) ->
    X 2=some ⟨0,true,bgC none [] o' (vs++(if d.kind=6 then [d.value] else [])) 0 0 (.mid 1)⟩->X 3=some ⟨0,true,[.mpc (.i .i64) (ahK (ahS (ahM (D.take i)) d.kind)) (ahV (ahS (ahM (D.take i)) d.kind))]⟩ ->
    X c=some ⟨0,true,[I64 d.kind,.str d.name,I64 d.value,I64 d.pos]⟩->(∀ i,o'=some i->X i=some ⟨1,true,(vs++(if d.kind=6 then [d.value] else [])).map I64⟩)->(∀ j,c1<=j->X j=none) ->
    IW Tryz.prog 139 (pz Tryz.prog 49 (.o (.i (.i (.o (.o .h)))))) ⟨tm [(1,.ptr 0 0),(3,.ptr 2 0),(4,.mid 3),(6,.ptr c 0),(7,I64 (S8 (D.take i) d)),(19,C3 D),(20,I64 D.length),(21,I64 i)],X,c1⟩ (bk 1 (sq Tryz.prog 139 (pz Tryz.prog 49 (.i (.o (.i (.i (.o .h)))))) Q)):=by
   intro X c1 o' hc1 hN' hoc x0 x1 x2 x3 xc xo xf;rw[<- hvn]at hN' x2 xo;subst hQ;cases hl:l.lookup d.name with
   |some y =>
    obtain⟨e1,e2⟩:=B5n (q:=(d.kind,S8 (D.take i) d)) hl;repeat' (apply wr<;>try simp only[go_sem,seval,x1,x2,xc,e2])
    refine⟨xf _ (by omega),?_⟩;repeat' (apply wr<;>try simp only[go_sem,seval,hw])
    refine⟨(i+1,V9 l d.name (d.kind,S8 (D.take i) d),o',((D.take (i+1)).filter fun d=>d.kind=6).map Dc.value),by simp[],?_,inv ⟨hlt,hN'.le (by omega),he,rfl⟩,by simp only;omega⟩;dsimp only;rw[hah,e1];exact B0t x0 x1 x2 x3 (fun i h=>by cases h) xo
   |none =>
    obtain⟨e1,e2,e3⟩:=B5o (q:=(d.kind,S8 (D.take i) d)) hl;repeat' (apply wr<;>try simp only[go_sem,seval,x1,x2,xc,e3])
    refine⟨xf _ (by omega),?_⟩;repeat' (apply wr<;>try simp only[go_sem,seval,x1,x2,xc,e3,hw])
    refine⟨(i+1,V9 l d.name (d.kind,S8 (D.take i) d),o',((D.take (i+1)).filter fun d=>d.kind=6).map Dc.value),by simp[],?_,inv ⟨hlt,hN'.le (by omega),he,rfl⟩,by simp only;omega⟩;dsimp only;rw[hah];exact B0t (by rw[hnO];exact x0) (by rw[h_same,e1]) (by rw[hnO];exact x2) (by rw[hnO];exact x3) (fun i h=>by cases h) (fun i h=>by have:=hN'.ho i h;rw[hnO];exact xo i h)
  have LL:∀ z:Int,z=S8 (D.take i) d->C1 [(1,DV.ptr 0 0),(3,.ptr 2 0),(4,.mid 3),(6,.ptr c 0),(7,I64 (S8 (D.take i) d)),(19,C3 D),(20,I64 D.length),(21,I64 i)] (tm [(1,DV.ptr 0 0),(3,.ptr 2 0),(4,.mid 3),(6,.ptr c 0),(7,I64 z),(19,C3 D),(20,I64 D.length),(21,I64 i)]):=fun z h=>by rw[h];simp[C1,tm,Tm.upd]
  by_cases k6:d.kind=6
  ·have d6:(d.kind == 6)=true:=by simpa using k6
   have hnum:S8 (D.take i) d=(cnD (D.take i) d.kind:Int):=by rw[S8,if_pos (.inl k6)]
   repeat' ((with_reducible first|refine H9 (p:=IW _ _ (pz Tryz.prog 49 (.o (.i (.i (.o (.o .h)))))) _ _) ?_|refine wr ?_|fail)<;>try simp only[go_sem,seval,hb2,hb3,hd,hg,hw2,hlk,hmu,d6,A3r,ne0,h_same,A5])
   refine A0c (D5 (cs:=vs.map I64) (fun e=>⟨O6 (hno e),by rw[hno e];rfl⟩) (fun i hi=>?_) (by rw[A0C,A4P]) (by omega) (by omega) (by omega)) ?_
   ·have:=hho i hi;rw[hnO,hnO,hnO];exact hbV i hi
   have dm2:∀ X:Hp,delO X o 2=X 2:=fun X=>B0 (fun q hq e=>by have:=hho q hq;omega);simp only[go_sem,seval,dm2,hb2,ne0];generalize hY:Hp.upd (delO _ _) (c+1+14) _=Y;have yo:∀ j,j≠c+1+14->j≠c+1+8->(∀ q,o=some q->j≠q)->Y j=((HH.upd c ⟨0,true,[I64 d.kind,.str d.name,I64 d.value,I64 d.pos]⟩).upd 3 ⟨0,true,[.mpc (.i .i64) (ahK (ahS (ahM (D.take i)) d.kind)) (ahV (ahS (ahM (D.take i)) d.kind))]⟩) j:=fun j e1 e2 e3=>by
    rw[<- hY,h_ne e1,B0 e3,h_ne e2]
   have yl:∀ j,j<=c->(∀ q,o=some q->j≠q)->Y j=((HH.upd c ⟨0,true,[I64 d.kind,.str d.name,I64 d.value,I64 d.pos]⟩).upd 3 ⟨0,true,[.mpc (.i .i64) (ahK (ahS (ahM (D.take i)) d.kind)) (ahV (ahS (ahM (D.take i)) d.kind))]⟩) j:=fun j e1 e3=>yo j (by omega) (by omega) e3;have y0:Y 0=some ⟨0,true,[C3 D,C7 M]⟩:=by rw[yl 0 (by omega) (fun q hq=>by have:=hho q hq;omega),hnO,hnO];exact hb0
   have y1:Y 1=some (A9k l):=by rw[yl 1 (by omega) (fun q hq=>by have:=hho q hq;omega),hnO,hnO];exact hb1
   have y2:Y 2=some ⟨0,true,bgC none [] o vs 0 0 (.mid 1)⟩:=by rw[yl 2 (by omega) (fun q hq=>by have:=hho q hq;omega),hnO,hnO];exact hb2
   have y3:Y 3=some ⟨0,true,[.mpc (.i .i64) (ahK (ahS (ahM (D.take i)) d.kind)) (ahV (ahS (ahM (D.take i)) d.kind))]⟩:=by rw[yl 3 (by omega) (fun q hq=>by have:=hho q hq;omega),h_same]
   have yc:Y c=some ⟨0,true,[I64 d.kind,.str d.name,I64 d.value,I64 d.pos]⟩:=by rw[yl c (by omega) (fun q hq=>by have:=hho q hq;omega),hnO,h_same]
   have yn:∀ j,c+1<=j->j≠c+1+14->j≠c+1+8->Y j=none:=fun j hj e1 e2=>by rw[yo j e1 e2 (fun q hq=>by have:=hho q hq;omega),hnO,hnO];exact hbn _ (by omega)
   have ya:Y (c+1+14)=some ⟨1,true,vs.map I64++[I64 d.value]⟩:=by rw[<- hY,h_same]
   refine⟨yn _ (by omega) (by omega) (by omega),?_⟩;simp only[if_pos k6]at tail;have hN1:BN none [] (some (c+1+14)) (vs++[d.value]) (c+1+14+1):=hN.newV (by omega) (by omega);refine IW.stage (L:=[(1,.ptr 0 0),(3,.ptr 2 0),(4,.mid 3),(6,.ptr c 0),(7,I64 (S8 (D.take i) d)),(19,C3 D),(20,I64 D.length),(21,I64 i)]) (by rw[hnum];simp[C1,tm,Tm.upd]) (tail _ _ (some (c+1+14)) (by omega) hN1 (fun q hq=>by cases hq;omega) ?_ ?_ ?_ ?_ ?_ (fun q hq=>?_) (fun q hq=>?_))
   ·rw[hnO];exact y0
   ·rw[hnO];exact y1
   ·rw[h_same];simp[todoV]
   ·rw[hnO];exact y3
   ·rw[hnO];exact yc
   ·cases hq;rw[hnO,ya];simp
   ·rw[hnO];exact yn q (by omega) (by omega) (by omega)
  have d6:(d.kind == 6)=false:=by simpa using k6
  simp only[if_neg k6,A0W]at tail;by_cases k7:d.kind=7
  ·have d7:(d.kind == 7)=true:=by simpa using k7
   have hnum:S8 (D.take i) d=(cnD (D.take i) d.kind:Int):=by rw[S8,if_pos (.inr (.inl k7))]
   repeat' ((with_reducible first|refine H9 (p:=IW _ _ (pz Tryz.prog 49 (.o (.i (.i (.o (.o .h)))))) _ _) ?_|refine wr ?_|fail)<;>try simp only[go_sem,seval,hb3,hd,hg,hw2,hlk,hmu,d6,d7,A3r,ne0,h_same,A5])
   refine IW.stage (L:=[(1,.ptr 0 0),(3,.ptr 2 0),(4,.mid 3),(6,.ptr c 0),(7,I64 (S8 (D.take i) d)),(19,C3 D),(20,I64 D.length),(21,I64 i)]) (by rw[hnum];simp[C1,tm,Tm.upd]) (tail _ _ o (by omega) (hN.le (by omega)) (fun q hq=>by have:=hho q hq;omega) ?_ ?_ ?_ ?_ ?_ (fun q hq=>?_) (fun q hq=>?_))
   ·rw[hnO,hnO];exact hb0
   ·rw[hnO,hnO];exact hb1
   ·rw[hnO,hnO];exact hb2
   ·rw[h_same]
   ·rw[hnO,h_same]
   ·have:=hho q hq;rw[hnO,hnO];exact hbV q hq
   ·rw[hnO,hnO];exact hbn q (by omega)
  have d7:(d.kind == 7)=false:=by simpa using k7
  by_cases k8:d.kind=8
  ·have d8:(d.kind == 8)=true:=by simpa using k8
   have hnum:S8 (D.take i) d=(cnD (D.take i) d.kind:Int):=by rw[S8,if_pos (.inr (.inr k8))]
   repeat' ((with_reducible first|refine H9 (p:=IW _ _ (pz Tryz.prog 49 (.o (.i (.i (.o (.o .h)))))) _ _) ?_|refine wr ?_|fail)<;>try simp only[go_sem,seval,hb3,hd,hg,hw2,hlk,hmu,d6,d7,d8,A3r,ne0,h_same,A5])
   refine IW.stage (L:=[(1,.ptr 0 0),(3,.ptr 2 0),(4,.mid 3),(6,.ptr c 0),(7,I64 (S8 (D.take i) d)),(19,C3 D),(20,I64 D.length),(21,I64 i)]) (by rw[hnum];simp[C1,tm,Tm.upd]) (tail _ _ o (by omega) (hN.le (by omega)) (fun q hq=>by have:=hho q hq;omega) ?_ ?_ ?_ ?_ ?_ (fun q hq=>?_) (fun q hq=>?_))
   ·rw[hnO,hnO];exact hb0
   ·rw[hnO,hnO];exact hb1
   ·rw[hnO,hnO];exact hb2
   ·rw[h_same]
   ·rw[hnO,h_same]
   ·have:=hho q hq;rw[hnO,hnO];exact hbV q hq
   ·rw[hnO,hnO];exact hbn q (by omega)
  ·have d8:(d.kind == 8)=false:=by simpa using k8
   have hnum:S8 (D.take i) d=d.value:=by rw[S8,if_neg (by omega)]
   repeat' ((with_reducible first|refine H9 (p:=IW _ _ (pz Tryz.prog 49 (.o (.i (.i (.o (.o .h)))))) _ _) ?_|refine wr ?_|fail)<;>try simp only[go_sem,seval,hb3,hd,hg,hw2,hlk,hmu,d6,d7,d8,A3r,ne0,h_same,A5])
   refine IW.stage (L:=[(1,.ptr 0 0),(3,.ptr 2 0),(4,.mid 3),(6,.ptr c 0),(7,I64 (S8 (D.take i) d)),(19,C3 D),(20,I64 D.length),(21,I64 i)]) (by rw[hnum];simp[C1,tm,Tm.upd]) (tail _ _ o (by omega) (hN.le (by omega)) (fun q hq=>by have:=hho q hq;omega) ?_ ?_ ?_ ?_ ?_ (fun q hq=>?_) (fun q hq=>?_))
   ·rw[hnO,hnO];exact hb0
   ·rw[hnO,hnO];exact hb1
   ·rw[hnO,hnO];exact hb2
   ·rw[h_same]
   ·rw[hnO,h_same]
   ·have:=hho q hq;rw[hnO,hnO];exact hbV q hq
   ·rw[hnO,hnO];exact hbn q (by omega)
 have hd:=dfz hlt;have hi:i=D.length:=by omega
 subst hi;rw[A3X,nmD]at he;rw[he]at hR;rw[A1P]at hvs ⊢;clear he hlt hk;have hvl:vs.length<=D.length:=by
  rw[hvs,A0C];exact List.length_filter_le _ _
 have hb0:=bg0 (D:=D) (M:=M) (l:=l) (a:=ahM D) hN;repeat' (apply wr<;>try simp only[go_sem,seval,hd,A0C,hb0])
 obtain⟨A,hA⟩:∃ A,A=ahM D:=⟨_,rfl⟩;have hA7:=C2o 7 A;have hA8:=C2o 8 A;rw[hA,B9r]at hA7 hA8;rw[<- hA]at hb0 hA7 hA8 ⊢;clear hb0 h4c hd;refine A9 (fun q:Nat × NmL × Option Nat × List Int=>[(3,.ptr 2 0),(4,.mid 3),(86,C7 M),(87,I64 M.length),(88,I64 q.1)]) (fun q=>bgM D M q.2.1 A q.2.2.1 q.2.2.2 o vs)
  (fun q c=>q.1<=M.length/\BN q.2.2.1 q.2.2.2 o vs c/\R=nmX q.1 q.2.1 (M.drop q.1)/\q.2.2.2=(M.take q.1).map Md.prio) (fun q=>M.length-q.1) (0,l,none,[])
  (by simp[C1,tm,Tm.upd]) (Sub.refl _) ⟨A0O _,hN,hR,rfl⟩ ?_
 clear hN hR;rintro⟨i,l,o2,ps⟩ c ⟨hk,hN,he,hps⟩;dsimp only at hk hN he hps ⊢;have h4c:=hN.c4;have hb0:=bg0 (D:=D) (M:=M) (l:=l) (a:=A) hN;have hb1:=bg1 (D:=D) (M:=M) (l:=l) (a:=A) hN;have hb2:=bg2 (D:=D) (M:=M) (l:=l) (a:=A) hN;have hb3:=bg3 (D:=D) (M:=M) (l:=l) (a:=A) hN;have hbV:=fun q (hi:o=some q)=>bgV (D:=D) (M:=M) (l:=l) (a:=A) (o2:=o2) (ps:=ps) (vs:=vs) hi;have hbP:=fun q (hi:o2=some q)=>bgP (D:=D) (M:=M) (l:=l) (a:=A) hN hi;have hbn:=fun j (hj:c<=j)=>bgN (D:=D) (M:=M) (l:=l) (a:=A) hN hj;have hno:=hN.n2;have hho:=hN.h2;have hho1:=hN.ho;have hne12:=hN.ne;by_cases hlt:i<M.length
 ·have hd:=dtz hlt;have hg:=A0B hlt;have hw:=w64 (n:=(i:Int)+1);rw[B5p hg]at he;have hpn:(M.take (i+1)).map Md.prio=ps++[M[i].prio]:=by rw[A0S,hg,A0T, <- hps];rfl
  have hpl:ps.length<=M.length:=by rw[hps,A0C,A1B];omega
  generalize M[i]=d at hg he hpn;generalize hHH:bgM D M l A o2 ps o vs=HH at hb0 hb1 hb2 hb3 hbn hbV hbP ⊢;have ne0:=A5k 0 1 2 3 c (c+1) (by omega);repeat' ((with_reducible first|refine H9 (p:=IW _ _ (pz Tryz.prog 49 (.i (.i (.i (.i (.i .h)))))) _ _) ?_|refine wr ?_|fail)<;>try simp only[go_sem,seval,hb2,hd,hg,A8a,ne0,h_same,A5])
  refine A0c (D5 (cs:=ps.map I64) (fun e=>⟨O6 (hno e),by rw[hno e];rfl⟩) (fun i hi=>?_) (by rw[A0C,A4P]) (by omega) (by omega) (by omega)) ?_
  ·have:=hho i hi
   repeat rw[hnO]
   exact hbP i hi
  have dm2:∀ X:Hp,delO X o2 2=X 2:=fun X=>B0 (fun q hq e=>by have:=hho q hq;omega);simp only[go_sem,seval,dm2,hb2,ne0];generalize hY:Hp.upd (delO _ _) (c+1+14) _=Y;have yo:∀ j,j≠c+1+14->j≠c+1+8->(∀ q,o2=some q->j≠q)->Y j=(HH.upd c ⟨0,true,[.str d.name,I64 d.prio,K8 d.hds,I64 d.pos]⟩) j:=fun j e1 e2 e3=>by
   rw[<- hY,h_ne e1,B0 e3,h_ne e2]
  have yl:∀ j,j<c->(∀ q,o2=some q->j≠q)->Y j=HH j:=fun j e1 e3=>by rw[yo j (by omega) (by omega) e3,hnO]
  have y0:Y 0=some ⟨0,true,[C3 D,C7 M]⟩:=by rw[yl 0 (by omega) (fun q hq=>by have:=hho q hq;omega)];exact hb0
  have y1:Y 1=some (A9k l):=by rw[yl 1 (by omega) (fun q hq=>by have:=hho q hq;omega)];exact hb1
  have y3:Y 3=some ⟨0,true,[.mpc (.i .i64) (ahK A) (ahV A)]⟩:=by rw[yl 3 (by omega) (fun q hq=>by have:=hho q hq;omega)];exact hb3
  have yc:Y c=some ⟨0,true,[.str d.name,I64 d.prio,K8 d.hds,I64 d.pos]⟩:=by rw[yo c (by omega) (by omega) (fun q hq=>by have:=hho q hq;omega),h_same]
  have yn:∀ j,c+1<=j->j≠c+1+14->j≠c+1+8->Y j=none:=fun j hj e1 e2=>by rw[yo j e1 e2 (fun q hq=>by have:=hho q hq;omega),hnO];exact hbn _ (by omega)
  have ya:Y (c+1+14)=some ⟨1,true,ps.map I64++[I64 d.prio]⟩:=by rw[<- hY,h_same]
  have yV:∀ q,o=some q->Y q=some ⟨1,true,vs.map I64⟩:=fun q hq=>by
   have:=hho1 q hq;rw[yl q (by omega) (fun z hz e=>hne12 z q hz hq e.symm)];exact hbV q hq
  refine⟨yn _ (by omega) (by omega) (by omega),?_⟩;obtain⟨Z,hZ⟩:∃ Z:Hp,Z=Y.upd 2 ⟨0,true,[.snil,.snil,.snil,.slc (c+1+14) 0 (ps.length+1),todoV o vs.length,I64 0,I64 0,.mid 1]⟩:=⟨_,rfl⟩;rw[<- hZ];have z0:Z 0=some ⟨0,true,[C3 D,C7 M]⟩:=by rw[hZ,hnO];exact y0
  have z1:Z 1=some (A9k l):=by rw[hZ,hnO];exact y1
  have z2:Z 2=some ⟨0,true,bgC (some (c+1+14)) (ps++[d.prio]) o vs 0 0 (.mid 1)⟩:=by rw[hZ,h_same];simp[todoV]
  have z3:Z 3=some ⟨0,true,[.mpc (.i .i64) (ahK A) (ahV A)]⟩:=by rw[hZ,hnO];exact y3
  have zc:Z c=some ⟨0,true,[.str d.name,I64 d.prio,K8 d.hds,I64 d.pos]⟩:=by rw[hZ,hnO];exact yc
  have zp:∀ q,some (c+1+14)=some q->Z q=some ⟨1,true,(ps++[d.prio]).map I64⟩:=fun q hq=>by cases hq;rw[hZ,hnO,ya];simp
  have zV:∀ q,o=some q->Z q=some ⟨1,true,vs.map I64⟩:=fun q hq=>by have:=hho1 q hq;rw[hZ,hnO];exact yV q hq
  have zn:∀ j,c+1+14+1<=j->Z j=none:=fun j hj=>by rw[hZ,hnO];exact yn j (by omega) (by omega) (by omega)
  have hN1:BN (some (c+1+14)) (ps++[d.prio]) o vs (c+1+14+1):=hN.newP (by omega) (by omega);clear hZ ya yn yV yc y0 y1 y3 yl yo hY;rw[<- hpn]at hN1 z2 zp;cases hl:l.lookup d.name with
  |some y =>
   obtain⟨e1,e2⟩:=B5n (q:=((9:Int),(i:Int))) hl;repeat' (apply wr<;>try simp only[go_sem,seval,z1,z2,zc,e2])
   refine⟨zn _ (by omega),?_⟩;repeat' (apply wr<;>try simp only[go_sem,seval,hw])
   refine⟨(i+1,V9 l d.name (9,(i:Int)),some (c+1+14),(M.take (i+1)).map Md.prio),by simp[],?_,inv ⟨hlt,hN1.le (by omega),he,rfl⟩,by simp only;omega⟩;dsimp only;rw[e1];exact B0t z0 z1 z2 z3 zp zV
  |none =>
   obtain⟨e1,e2,e3⟩:=B5o (q:=((9:Int),(i:Int))) hl;repeat' (apply wr<;>try simp only[go_sem,seval,z1,z2,zc,e3])
   refine⟨zn _ (by omega),?_⟩;repeat' (apply wr<;>try simp only[go_sem,seval,z1,z2,zc,e3,hw])
   refine⟨(i+1,V9 l d.name (9,(i:Int)),some (c+1+14),(M.take (i+1)).map Md.prio),by simp[],?_,inv ⟨hlt,hN1.le (by omega),he,rfl⟩,by simp only;omega⟩;dsimp only;exact B0t (by rw[hnO];exact z0) (by rw[h_same,e1]) (by rw[hnO];exact z2) (by rw[hnO];exact z3) (fun q h=>by have:=hN1.h2 q h;rw[hnO];exact zp q h) (fun q h=>by have:=hho1 q h;rw[hnO];exact zV q h)
 have hd:=dfz hlt;have hi:i=M.length:=by omega
 subst hi;rw[A3X,nmX]at he;rw[A1P]at hps;subst he;repeat' (apply wr<;>try simp only[go_sem,seval,hd,hb2,hb3,hA7,hA8])
 rw[A5, <- hps, <- hvs];have hno':=hN.no;obtain⟨Z,hZ⟩:∃ Z:Hp,Z=((Sym.nil.upd 0 ⟨0,true,[C3 D,C7 M]⟩).upd 1 (A9k R)).upd 3 ⟨0,true,[.mpc (.i .i64) (ahK A) (ahV A)]⟩:=⟨_,rfl⟩;have hz:∀ j,4<=j->Z j=none:=fun j hj=>by rw[hZ,hnO,hnO,hnO];rfl
 have e:(bgM D M R A o2 ps o vs).upd 2 ⟨0,true,[.snil,.snil,.snil,todoV o2 ps.length,todoV o vs.length,I64 (cnD D 7),I64 (cnD D 8),.mid 1]⟩ =
   optH (optH (Z.upd 2 ⟨0,true,[.snil,.snil,.snil]++[todoV o2 ps.length]++[todoV o vs.length,I64 (cnD D 7),I64 (cnD D 8),.mid 1]⟩) o2 ⟨1,true,cellsL (ps.map I64)⟩) o ⟨1,true,cellsL (vs.map I64)⟩:=by
  rw[A1j,A1j,hZ]
  funext j
  unfold bgM;cases o2<;>cases o<;>simp only[optH,Hp.upd]<;>(repeat' split)<;>first|rfl|(subst_vars;simp_all;done)|simp_all
 rw[e];have com:∀ (B P:Blk),optH (Z.upd 2 B) o2 P=(optH Z o2 P).upd 2 B:=fun B P=>by
  cases o2 with
  |none=>rfl
  |some i =>
   have:=hho i rfl
   funext j
   simp only[optH,Hp.upd]
   (repeat' split)<;>first|rfl|omega
 have one2:(todoV o2 ps.length).one=true:=by cases o2<;>rfl
 rw[com];have g1:GL (optH ((optH Z o2 ⟨1,true,cellsL (ps.map I64)⟩).upd 2 ⟨0,true,[.snil,.snil,.snil,todoV o2 ps.length]++[todoV o vs.length]++[I64 (cnD D 7),I64 (cnD D 8),.mid 1]⟩) o ⟨1,true,cellsL (vs.map I64)⟩) [.ptr 2 0]
   ((optH Z o2 ⟨1,true,cellsL (ps.map I64)⟩).upd 2 ⟨0,true,[.snil,.snil,.snil,todoV o2 ps.length]++[.lst (vs.map I64)]++[I64 (cnD D 7),I64 (cnD D 8),.mid 1]⟩) [.ptr 2 0] :=
  g_fin (fun d hd=>by simp at hd;rcases hd with rfl|rfl|rfl|rfl|rfl<;>first|rfl|exact one2) (fun e=>by rw[hno' e];rfl) (fun i hi=>⟨by have:=hho1 i hi;omega,by rw[B7 (fun q hq e=>hne12 q i hq hi e.symm)];exact hz i (hho1 i hi).1⟩) (by simp) (fun x hx=>by obtain⟨y, -,rfl⟩:=A1A.1 hx;rfl)
 have g2:GL (optH (Z.upd 2 ⟨0,true,[.snil,.snil,.snil]++[todoV o2 ps.length]++[.lst (vs.map I64),I64 (cnD D 7),I64 (cnD D 8),.mid 1]⟩) o2 ⟨1,true,cellsL (ps.map I64)⟩) [.ptr 2 0]
   (Z.upd 2 ⟨0,true,[.snil,.snil,.snil]++[.lst (ps.map I64)]++[.lst (vs.map I64),I64 (cnD D 7),I64 (cnD D 8),.mid 1]⟩) [.ptr 2 0] :=
  g_fin (fun d hd=>by simp at hd;rcases hd with rfl|rfl|rfl|rfl|rfl<;>rfl) (fun e=>by rw[hno e];rfl) (fun i hi=>⟨by have:=hho i hi;omega,hz i (hho i hi).1⟩) (by simp) (fun x hx=>by obtain⟨y, -,rfl⟩:=A1A.1 hx;rfl)
 have g3:GL (Z.upd 2 ⟨0,true,[.snil,.snil,.snil,.lst (ps.map I64),.lst (vs.map I64),I64 (cnD D 7),I64 (cnD D 8)]++[.mid 1]++[]⟩) [.ptr 2 0]
   (Sym.nil.upd 2 ⟨0,true,[.snil,.snil,.snil,.lst (ps.map I64),.lst (vs.map I64),I64 (cnD D 7),I64 (cnD D 8)]++[.mp .s (mkK (inL R)) (mvV (inL R))]++[]⟩) [.ptr 2 0] :=
  GL.frzmC (id:=1) (k:=2) (u:=0) (by rw[hnO,hZ];rfl) h_same (by omega) h_same (fun j hj=>.inl (by rw[h_ne hj];rfl))
 rw[com]at g2;exact⟨_,_,(g1.trans g2).trans g3,2,rfl,rfl⟩
theorem D9f(r:Ru):∀ d∈beC r,d.nl=true:=by
 intro d hd;simp only[beC,A0Y,A2R,or_false]at hd;rcases hd with rfl|rfl|rfl|rfl|rfl|rfl|rfl|rfl
 ·rfl
 ·rfl
 ·rfl
 ·exact Q9 _
 ·exact Q9 _
 ·rfl
 ·rfl
 ·unfold mkK mvV inL;simp only[DV.nl];rw[A2V,A2V];rw[show ((fun p:List UInt8 × DV=>DV.str p.1)∘fun p:List UInt8 × (Int × Int)=>(p.1,I64 p.2.2))=fun p=>DV.str p.1 from rfl,show ((fun p:List UInt8 × DV=>p.2)∘fun p:List UInt8 × (Int × Int)=>(p.1,I64 p.2.2))=fun p=>I64 p.2.2 from rfl];rw[L8 (fun _=>rfl),L8 (fun _=>rfl)];rfl
theorem c_begin(r:Ru)(h1:r.decls.length<=1000000)(h2:r.modes.length<=1000000)(H:Hp)(c:Nat):
  AC Tryz.prog 49 [r.v] H c (fun v H' c'=>v=.ptr c 0/\H'=H.upd c ⟨0,true,beC r⟩/\c'=c+1) :=
 AC.own (V:=fun id=>.ptr id 0) (c_begin0 r h1 h2) (by simp[DV.nlL,DV.nl,K4,K3]) (D9f r) (fun ρ ρ' id id' v h1 h2 h3=>by
  cases h3 with
  |ptr _ _ t q hm=>exact .ptr id' 0 t (h1▸q) hm) H c
theorem c_gather(gs:List DV)(ks vs:List DV)(nm:List UInt8->Int)(hm:∀ s,Sym.lkV (I64 0) false vs (E4 (.str s) ks 0)=some (I64 (nm s)))(hgs:gs[7]? = some (.mp .s ks vs))(D:List Dc)(M:List Md)(hs:(M.map fun m=>m.hds.length).sum+M.length<=1000000)
  (H:Hp) (c t:Nat) (ht:H t=some ⟨0,true,gs⟩) (htc:t<c) (Post:DV->Hp->Nat->Prop)
  (hend:∀ (o:Option Nat) (is:List Nat) (c1:Nat),c<=c1->PN (H.upd c ⟨0,true,[C3 D,C7 M]⟩) o is (H5 [] (hkM nm 0 M)) c1 ->
   IW Tryz.prog 68 (pz Tryz.prog 50 (.i (.o (.o (.o (.i .h)))))) ⟨tm [(5,todoV o (H5 [] (hkM nm 0 M)).length)],PM (H.upd c ⟨0,true,[C3 D,C7 M]⟩) o is (H5 [] (hkM nm 0 M)),c1⟩ (rt [.tmp 4] fun v H' c' => ∃ v2 H2,GL H' [v] H2 [v2]/\Post v2 H2 c')) :
  AC Tryz.prog 50 [.ptr t 0,.agg [C3 D,C7 M]] H c Post:=by
 refine AC.bodyT A2 rfl (A0D rfl) fun hfr=>?_;repeat' (apply wr<;>try simp only[go_sem,seval])
 obtain⟨G,hG⟩:∃ G:Hp,G=H.upd c ⟨0,true,[C3 D,C7 M]⟩:=⟨_,rfl⟩;rw[<- hG]at hend ⊢;have hGn:∀ j,c+1<=j->G j=none:=fun j hj=>by rw[hG,hnO];exact hfr j (by omega)
 have hGt:G t=some ⟨0,true,gs⟩:=by rw[hG,hnO];exact ht
 have hGc:G c=some ⟨0,true,[C3 D,C7 M]⟩:=by rw[hG,h_same]
 refine A9 (fun q:Nat × Option Nat × List Nat=>[(0,.ptr t 0),(5,todoV q.2.1 (H5 [] (hkM nm 0 (M.take q.1))).length),(13,C7 M),(14,I64 M.length),(15,I64 q.1)]) (fun q=>PM G q.2.1 q.2.2 (H5 [] (hkM nm 0 (M.take q.1))))
  (fun q cc=>c+1<=cc/\q.1<=M.length/\PN G q.2.1 q.2.2 (H5 [] (hkM nm 0 (M.take q.1))) cc) (fun q=>M.length-q.1) (0,none,[])
  (by simp[C1,tm,Tm.upd,todoV]) (Sub.refl _) ⟨A0E _,A0O _,⟨rfl,.nil,fun i hi=>(by cases hi),fun i hi=>(by cases hi),fun _=>rfl,hGn⟩⟩ ?_
 rintro⟨i,o,is⟩ cc ⟨hcc,hk,hN⟩;dsimp only at hk hN ⊢;have htl:∀ k:Nat,((M.take k).map fun m=>m.hds.length).sum<=(M.map fun m=>m.hds.length).sum:=fun k=>by
  have h:=congrArg (fun l:List Md=>(l.map fun m=>m.hds.length).sum) (A1W k M);simp only[A0T,A4I]at h;omega
 have hlen:∀ (k z:Nat) (l:List Md),(hkM nm k l).length=(l.map fun m=>m.hds.length).sum:=fun k z l=>by
  induction l generalizing k with
  |nil=>rfl
  |cons m l ih=>rw[hkM,A0A,A0C,ih];simp
 have hpb:∀ q:List KB,PB q.length (H5 [] q):=fun q=>by
  have key:∀ (q:List KB) (n:Nat) (l:List C8),PB n l->PB (n+q.length) (H5 l q):=by
   intro q
   induction q with
   |nil=>intro n l h;exact h
   |cons x q ih =>
    intro n l h;have:=ih (n+1) _ (PB.add (k:=x.1) (b:=x.2) h);exact this.le (by simp only[A0K];omega)
  have:=key q 0 [] ⟨by simp,fun p hp=>by cases hp⟩
  rwa [A1J]at this
 by_cases hlt:i<M.length
 rotate_left
 ·have hd:=dfz hlt;have hi:i=M.length:=by omega
  subst hi;rw[A1P]at hN ⊢;repeat' ((with_reducible first|refine H9 (p:=IW _ _ (pz Tryz.prog 50 (.i (.o (.o (.o (.i .h)))))) _ _) ?_|refine wr ?_|fail)<;>try simp only[go_sem,seval,hd])
  exact IW.stage (L:=[(5,todoV o (H5 [] (hkM nm 0 M)).length)]) (by simp[C1,tm,Tm.upd]) (hend o is cc (by omega) hN)
 have hd:=dtz hlt;have hg:=A0B hlt;have hw:=w64 (n:=(i:Int)+1);have hsn:=B6d nm (k:=0) hg;have hsum:=htl (i+1);rw[A0S,hg]at hsum;simp only[Option.toList_some,A0T,A0Q,List.map_nil,A4I,A1R,A2U,A3B]at hsum;generalize M[i]=x at hg hsn hsum;rw[A1J]at hsn;have hfr0:=fun j (hj:cc<=j)=>D9k hN hj;have hz0:=hN.fr cc (A0E _);repeat' (apply wr<;>try simp only[go_sem,seval,hd,hg,A8a,A0C,h_same,A5])
 obtain⟨G1,hG1⟩:∃ G1:Hp,G1=G.upd cc ⟨0,true,[.str x.name,I64 x.prio,K8 x.hds,I64 x.pos]⟩:=⟨_,rfl⟩;have hN1:PN G1 o is (H5 [] (hkM nm 0 (M.take i))) (cc+1):=by rw[hG1];exact hN.box (A0E _) (A1O _)
 rw[hN.com (A0E _), <- hG1];have h1cc:PM G1 o is (H5 [] (hkM nm 0 (M.take i))) cc=some ⟨0,true,[.str x.name,I64 x.prio,K8 x.hds,I64 x.pos]⟩:=B4m hN1 (by rw[hG1,h_same]);have hG1t:G1 t=some ⟨0,true,gs⟩:=by rw[hG1,hnO];exact hGt
 repeat' (apply wr<;>try simp only[go_sem,seval,h1cc])
 clear h1cc;refine A9 (fun q:Nat × Option Nat × List Nat=>[(0,.ptr t 0),(5,todoV q.2.1 (H5 (H5 [] (hkM nm 0 (M.take i))) ((x.hds.take q.1).map (hdK nm i))).length),(6,I64 i),(13,C7 M),(14,I64 M.length),(15,I64 i),(21,K8 x.hds),(22,I64 x.hds.length),(23,I64 q.1)])
  (fun q=>PM G1 q.2.1 q.2.2 (H5 (H5 [] (hkM nm 0 (M.take i))) ((x.hds.take q.1).map (hdK nm i))))
  (fun q c2=>cc+1<=c2/\q.1<=x.hds.length/\PN G1 q.2.1 q.2.2 (H5 (H5 [] (hkM nm 0 (M.take i))) ((x.hds.take q.1).map (hdK nm i))) c2) (fun q=>x.hds.length-q.1) (0,o,is)
  (by simp[C1,tm,Tm.upd,H5]) (by simp only[A1I,List.map_nil,H5,List.foldl_nil];exact Sub.refl _) ⟨A0E _,A0O _,by simp only[A1I,List.map_nil];exact hN1⟩ ?_
 have hGN:=hN.fr;clear hN hN1 hfr0 is o;rintro⟨j,o,is⟩ c2 ⟨hc2,hkj,hN⟩;dsimp only at hkj hN ⊢;by_cases hltj:j<x.hds.length
 rotate_left
 ·have hdj:=dfz hltj;have hj:j=x.hds.length:=by omega
  subst hj;rw[A1P, <- B7h, <- hsn]at hN ⊢;repeat' (apply wr<;>try simp only[go_sem,seval,hdj,hw])
  rw[hG1]at hN ⊢;exact⟨(i+1,o,is),by simp[],B4n hz0 hN,inv ⟨by omega,hlt,hN.unbox hz0 (by omega) hGN⟩,by simp only;omega⟩
 have hdj:=dtz hltj;have hgj:=A0B hltj;have hwj:=w64 (n:=(j:Int)+1);have hsj:H5 (H5 [] (hkM nm 0 (M.take i))) ((x.hds.take (j+1)).map (hdK nm i))=L0 (hdK nm i x.hds[j]).1 (hdK nm i x.hds[j]).2 (H5 (H5 [] (hkM nm 0 (M.take i))) ((x.hds.take j).map (hdK nm i))):=by
  rw[A0S,hgj,A0T, <- C4w];rfl
 have hPB:PB 1000000 (H5 (H5 [] (hkM nm 0 (M.take i))) ((x.hds.take j).map (hdK nm i))):=by
  rw[<- B7h];refine (hpb _).le ?_;rw[A0A,A0C,hlen _ 0,A1B];omega
 generalize x.hds[j]=y at hgj hsj;generalize H5 (H5 [] (hkM nm 0 (M.take i))) ((x.hds.take j).map (hdK nm i))=l at hN hPB hsj ⊢;have hfr2:=fun j (hj:c2<=j)=>D9k hN hj;have hgt:PM G1 o is l t=some ⟨0,true,gs⟩:=B4m hN hG1t;have hlk:=hm y.name;have ne0:=R9 t c2 (c2+1+11) (by omega);repeat' (apply wr<;>try simp only[go_sem,seval,hdj,hgj,D8h,h_same,A5,ne0,hgt,hgs,hlk])
 refine⟨by and_intros<;>(repeat rw[hnO])<;>exact hfr2 _ (by omega),?_⟩;obtain⟨K,hK⟩:∃ K:Ky,K=⟨i,y.trig,nm y.name⟩:=⟨_,rfl⟩;have hKx:(hdK nm i y).1=K:=by rw[hK];rfl
 have hKb:(hdK nm i y).2=y.body:=rfl;rw[hKx,hKb]at hsj;obtain⟨G2,hG2⟩:∃ G2:Hp,G2=G1.upd c2 ⟨0,true,[I64 y.trig,.str y.name,D3 y.body,I64 y.pos]⟩:=⟨_,rfl⟩;have hz2:G1 c2=none:=hN.fr c2 (A0E _);have hN2:PN G2 o is l (c2+1):=by rw[hG2];exact hN.box (A0E _) (A1O _)
 obtain⟨G3,hG3⟩:∃ G3:Hp,G3=G2.upd (c2+1+11) (keB K):=⟨_,rfl⟩;have hz3:G2 (c2+1+11)=none:=hN2.fr _ (by omega);have hN3:PN G3 o is l (c2+1+13):=by rw[hG3];exact hN2.box (by omega) (by omega)
 have hmem:((PM G1 o is l).upd c2 ⟨0,true,[I64 y.trig,.str y.name,D3 y.body,I64 y.pos]⟩).upd (c2+1+11) ⟨0,true,[I64 (i:Int),I64 y.trig,I64 (nm y.name),I64 0]⟩=PM G3 o is l:=by
  rw[hN.com (A0E _), <- hG2,hN2.com (by omega),hG3,hK]
 rw[hmem];have hGf:∀ j,c2<=j->G1 j=none:=hN.fr;clear hmem hfr2 hgt hN hN2;have hG3e:G3 (c2+1+11)=some (keB K):=by rw[hG3,h_same]
 have hG3h:G3 c2=some ⟨0,true,[I64 y.trig,.str y.name,D3 y.body,I64 y.pos]⟩:=by rw[hG3,hnO,hG2,h_same]
 have hl6:=hPB.1;have fin:∀ (o':Option Nat) (is':List Nat) (X:Hp) (c3:Nat),c2+1+13<=c3->PN G3 o' is' (L0 K y.body l) c3->Sub (PM G3 o' is' (L0 K y.body l)) X ->
   IW Tryz.prog 68 (pz Tryz.prog 50 (.i (.i (.i (.i (.o .h)))))) ⟨tm [(0,.ptr t 0),(5,todoV o' (L0 K y.body l).length),(6,I64 i),(13,C7 M),(14,I64 M.length),(15,I64 i),(21,K8 x.hds),(22,I64 x.hds.length),(23,I64 j)],X,c3⟩
    (lp (fun q:Nat × Option Nat × List Nat=>[(0,.ptr t 0),(5,todoV q.2.1 (H5 (H5 [] (hkM nm 0 (M.take i))) ((x.hds.take q.1).map (hdK nm i))).length),(6,I64 i),(13,C7 M),(14,I64 M.length),(15,I64 i),(21,K8 x.hds),(22,I64 x.hds.length),(23,I64 q.1)])
     (fun q=>PM G1 q.2.1 q.2.2 (H5 (H5 [] (hkM nm 0 (M.take i))) ((x.hds.take q.1).map (hdK nm i))))
     (fun q c2=>cc+1<=c2/\q.1<=x.hds.length/\PN G1 q.2.1 q.2.2 (H5 (H5 [] (hkM nm 0 (M.take i))) ((x.hds.take q.1).map (hdK nm i))) c2) (fun q=>x.hds.length-q.1) (x.hds.length-j)
     (bk 2 (bk 1 (sq Tryz.prog 68 (pz Tryz.prog 50 (.o (.o (.o (.o (.i .h)))))) (lp (fun q:Nat × Option Nat × List Nat=>[(0,.ptr t 0),(5,todoV q.2.1 (H5 [] (hkM nm 0 (M.take q.1))).length),(13,C7 M),(14,I64 M.length),(15,I64 q.1)]) (fun q=>PM G q.2.1 q.2.2 (H5 [] (hkM nm 0 (M.take q.1))))
      (fun q cc=>c+1<=cc/\q.1<=M.length/\PN G q.2.1 q.2.2 (H5 [] (hkM nm 0 (M.take q.1))) cc) (fun q=>M.length-q.1) (M.length-i) (bk 0 (sq Tryz.prog 68 (pz Tryz.prog 50 (.i (.o (.o (.o (.i .h)))))) (rt [.tmp 4] fun v H' c' => ∃ v2 H2,GL H' [v] H2 [v2]/\Post v2 H2 c')))))))):=by
  intro o' is' X c3 hc3 hN' hX;repeat' (apply wr<;>try simp only[go_sem,seval,hwj])
  have hN4:PN G2 o' is' (L0 K y.body l) c3:=by
   rw[hG3]at hN';exact hN'.unbox hz3 (show c2+1<=c3 by omega) (fun q hq=>by rw[hG2,hnO];exact hGf q (by omega))
  have hS4:Sub (PM G2 o' is' (L0 K y.body l)) (PM G3 o' is' (L0 K y.body l)):=by
   rw[hG3]at hN' ⊢;exact B4n hz3 hN'
  have hS5:Sub (PM G1 o' is' (L0 K y.body l)) (PM G2 o' is' (L0 K y.body l)):=by
   rw[hG2]at hN4 ⊢;exact B4n hz2 hN4
  have hN5:PN G1 o' is' (L0 K y.body l) c3:=by
   rw[hG2]at hN4;exact hN4.unbox hz2 (show c2<=c3 by omega) hGf
  rw[<- hsj]at hN5 hS5 hS4 hX;exact⟨(j+1,o',is'),by rw[<- hsj];simp[],(fun k B hk=>hX _ _ (hS4 _ _ (hS5 _ _ hk))),inv ⟨by omega,hltj,hN5⟩,by simp only;omega⟩
 repeat' (apply wr<;>try simp only[go_sem,seval])
 refine AC.call (c_IxP K l is hl6 hN3.len _ _ (c2+1+11) o (fun i hi=>D3l hi) hN3.no (B4m hN3 hG3e) (by omega)) ?_;rintro _ _ c3 ⟨rfl,rfl⟩ hc3;have hN3':=hN3.le hc3;have hfr3:=fun j (hj:c3<=j)=>D9k hN3' hj;by_cases hx:ixP K l 0 = -1
 ·have hadd:=B5z hx y.body;have q0:decide (ixP K l 0<0)=true:=by rw[hx];rfl
  rw[hx];have hE:PM G3 o is l (c2+1+11)=some (keB K):=B4m hN3 hG3e;have hHd:PM G3 o is l c2=some ⟨0,true,[I64 y.trig,.str y.name,D3 y.body,I64 y.pos]⟩:=B4m hN3 hG3h;have hln:=O0 (o:=o) (n:=l.length) (fun e=>by rw[hN3.no e];rfl);have ne0:=W3 c2 (c2+1+11) c3 (c3+1) (by omega);simp only[go_sem,seval];repeat' (apply wr<;>try simp only[go_sem,seval,hln,hE])
  refine F4 (D5 (cs:=ptC is l) (fun e=>⟨by rw[hN3.no e];rfl,by rw[hN3.no e];unfold ptC;cases is<;>rfl⟩) (fun q hq=>?_) (Z5 hN3.len) (by omega) (by omega) (by omega)) ?_
  ·have:=hN3.fo q hq;rw[hnO];exact D3l hq
  have dm:∀ (X:Hp) (j:Nat),c3<=j\/G3 j≠none->delO X o j=X j:=fun X j hj=>B0 (fun q hq e=>by
   have:=hN3.fo q hq;rcases hj with hj|hj
   ·omega
   ·exact hj (by rw[e];exact this.2))
  simp only[go_sem,seval];obtain⟨Y,hY⟩:∃ Y:Hp,Y=(delO ((PM G3 o is l).upd c3 ⟨5,true,[I64 K.mode,I64 K.trig,I64 K.ix,I64 0,.snil]⟩) o).upd (c3+1) ⟨5,true,ptC is l++[I64 K.mode,I64 K.trig,I64 K.ix,I64 0,.snil]⟩:=⟨_,rfl⟩;rw[<- hY];have yl:Y (c3+1)=some ⟨5,true,ptC is l++[I64 K.mode,I64 K.trig,I64 K.ix,I64 0,.snil]⟩:=by rw[hY,h_same]
  have yf:∀ q B,G3 q=some B->Y q=some B:=fun q B hq=>by
   have hqc:q<c3:=A1T fun hc=>by rw[hN3'.fr q hc]at hq;cases hq
   rw[hY,hnO,dm _ _ (.inr (by rw[hq];simp)),hnO];exact B4m hN3 hq
  have yi:∀ (k q:Nat) (p:C8),is[k]? = some q->l[k]? = some p->Y q=some (bdB p.2):=fun k q p h1 h2=>by
   have h3:=hN3.fi q (A0U h1);rw[hY,hnO,B0 (fun z hz e=>h3.2.2 (by rw[e];exact hz)),hnO];exact D3m hN3 h1 h2
  have yn:∀ q,c3+1+1<=q->Y q=none:=fun q hq=>by rw[hY,hnO,dm _ _ (.inl (by omega)),hnO];exact hfr3 q (by omega)
  have yh:Y c2=some ⟨0,true,[I64 y.trig,.str y.name,D3 y.body,I64 y.pos]⟩:=yf _ _ hG3h;clear hY;have hcl:(ptC is l++[I64 K.mode,I64 K.trig,I64 K.ix,I64 0,.snil])[l.length * 5+4]? = some .snil:=by
   rw[A1S (by rw[Z5 hN3.len];omega),Z5 hN3.len,show l.length * 5+4-l.length * 5=4 by omega];rfl
  have hlt':l.length<l.length+1:=A1O _;have ne0:=W3 c2 (c3+1) (c3+1+1+9) (c3+1+1+14) (by omega);repeat' (apply wr<;>try simp only[go_sem,seval,yl,yh,hcl,hlt'])
  refine A0c (A2x (by omega) (by omega) (by omega)) ?_;obtain⟨D1,hD1⟩:∃ D1,D1=c3+1+1+14:=⟨_,rfl⟩;rw[<- hD1]at ne0 ⊢;have hst:∀ (X:Hp) (d:Nat),Sym.stB X d (c3+1) 1 (l.length * 5+4) (.slc D1 0 1) (some ⟨5,true,ptC is l++[I64 K.mode,I64 K.trig,I64 K.ix,I64 0,.snil]⟩)=some (.tup [],X.upd (c3+1) ⟨5,true,ptC (is++[D1]) (l++[(K,[y.body])])⟩,d):=fun X d =>
   (A6e (i:=1) rfl (by rw[A0A,Z5 hN3.len];simp) rfl).trans (by rw[<- D1g hN3.len];rfl)
  simp only[go_sem,seval];refine⟨by and_intros<;>(repeat rw[hnO])<;>exact yn _ (by omega),?_⟩;simp only[go_sem,seval,hlt',yl,ne0,hst];have hnd:D1 ∉ is:=fun hm=>by have:=hN3.fi D1 hm;omega
  refine IW.stage (L:=[(0,.ptr t 0),(5,todoV (some (c3+1)) (L0 K y.body l).length),(6,I64 i),(13,C7 M),(14,I64 M.length),(15,I64 i),(21,K8 x.hds),(22,I64 x.hds.length),(23,I64 j)]) (by rw[hadd];simp[C1,tm,Tm.upd,todoV]) (fin (some (c3+1)) (is++[D1]) _ _ (by omega) ?_ ?_)
  ·rw[hadd];refine⟨by simp[hN3.len],List.nodup_append.2 ⟨hN3.nd,by simp,fun q hq z hz e=>hnd (by simp at hz;rw[<- hz, <- e];exact hq)⟩,fun q hq=>?_,fun q hq=>?_,fun e=>(by cases e),fun q hq=>hN3'.fr q (by omega)⟩
   ·rcases A0X.1 hq with hq|hq
    ·have:=hN3.fi q hq;exact⟨by omega,this.2.1,fun e=>by cases e;omega⟩
    ·simp at hq;subst hq;exact⟨by omega,hN3'.fr _ (by omega),fun e=>by cases e;omega⟩
   ·cases hq;exact⟨by omega,hN3'.fr _ (by omega)⟩
  ·rw[hadd];refine B9u (fun k q p h1 h2=>?_) (fun q hq=>?_) (fun q B hq=>?_)
   ·by_cases hkl:k<is.length
    ·rw[A2E hkl]at h1;rw[A2E (by rw[<- hN3.len];exact hkl)]at h2;have:=hN3.fi q (A0U h1);rw[hnO,hnO,hnO];exact yi k q p h1 h2
    ·have hl2:=hN3.len;rw[A1S (by omega)]at h1 h2;rw[hl2]at h1;cases hz:k-l.length with
     |zero =>
      rw[hz]at h1 h2;cases h1;cases h2;rw[hnO,h_same];rfl
     |succ z=>rw[hz]at h1;cases h1
   ·cases hq;rw[h_same]
   ·have hqc:q<c3:=A1T fun hc=>by rw[hN3'.fr q hc]at hq;cases hq
    rw[hnO,hnO,hnO];exact yf q B hq
 ·obtain⟨n,a0,b0,q,hl,hn,hix,hadd0⟩:=B5y (rfl:ixP K l 0=ixP K l 0) hx;rw[A1J]at hix;have hadd:L0 K y.body l=l.set n (K,q++[y.body]):=by
   rw[hadd0,hl,hn,List.set_append_right _ _ (A0E _),A4L];rfl
  have hln:l[n]? = some (K,q):=by rw[hl,hn,A1S (A0E _),A4L];rfl
  have hnl:n<l.length:=(A0J.1 hln).1;have hni:n<is.length:=by rw[hN3.len];exact hnl
  obtain⟨i0,hi0⟩:∃ i0,is[n]? = some i0:=⟨_,A0B hni⟩;obtain⟨io,rfl⟩:∃ io,o=some io:=by
   cases o with
   |none=>have:=hN3.no rfl;rw[this]at hnl;cases hnl
   |some io=>exact⟨io,rfl⟩
  have hio:=hN3.fo io rfl;have hii:=hN3.fi i0 (A0U hi0);have hne0:i0≠io:=fun e=>hii.2.2 (by rw[e]);clear hl hadd0 hn;have q0:decide (ixP K l 0<0)=false:=by rw[hix];simp
  rw[hix]at q0 ⊢;have hql:q.length<=1000000:=hPB.2 _ (A0U hln);have hHd:PM G3 (some io) is l c2=some ⟨0,true,[I64 y.trig,.str y.name,D3 y.body,I64 y.pos]⟩:=B4m hN3 hG3h;have hLl:PM G3 (some io) is l io=some ⟨5,true,ptC is l⟩:=D3l rfl;have hcl:=C6n hN3.len hi0 hln;dsimp only at hcl;have hBd:=D3m hN3 hi0 hln;have hc2io:¬ c2=io:=fun e=>by have h:=hio.2;rw[<- e,hG3h]at h;cases h
  have ne0:=A2a c2 io c3 (c3+9) (c3+14) (by omega);simp only[go_sem,seval];repeat' (apply wr<;>try simp only[go_sem,seval,q0,hLl,hHd,hcl,hnl])
  refine A0c (D5 (o:=some i0) (cs:=q.map D3) (n:=q.length) (fun e=>by cases e) (fun z hz=>?_) (by rw[A0C,A4P]) (by omega) (by omega) (by omega)) ?_
  ·cases hz;rw[hnO];exact hBd
  obtain⟨D1,hD1⟩:∃ D1,D1=c3+14:=⟨_,rfl⟩;rw[<- hD1]at ne0 ⊢;have hst:∀ (X:Hp) (d:Nat),Sym.stB X d io 1 (n * 5+4) (.slc D1 0 (q.length+1)) (some ⟨5,true,ptC is l⟩)=some (.tup [],X.upd io ⟨5,true,ptC (is.set n D1) (l.set n (K,q++[y.body]))⟩,d):=fun X d =>
   (A6e (i:=1) rfl (by rw[Z5 hN3.len];omega) rfl).trans (by rw[<- C0r hN3.len hi0 hln (q:=(K,q++[y.body])) rfl D1];simp[DV.cells])
  have dmo:∀ X:Hp,delO X (some i0) io=X io:=fun X=>B0 (fun z hz=>by cases hz;exact fun e=>hne0 e.symm);simp only[go_sem,seval,dmo,hLl,hnl,ne0,hst];have dme:∀ (X:Hp) (z:Nat),z≠i0->delO X (some i0) z=X z:=fun X z hz=>B0 (fun w hw e=>by cases hw;exact hz e);refine⟨⟨by rw[dme _ _ (by omega),hnO];exact hfr3 _ (by omega),by rw[hnO,dme _ _ (by omega),hnO];exact hfr3 _ (by omega)⟩,?_⟩;have hnd:D1 ∉ is:=fun hm=>by have:=hN3.fi D1 hm;omega
  have hD0:G3 D1=none:=hN3'.fr _ (by omega);refine IW.stage (L:=[(0,.ptr t 0),(5,todoV (some io) (L0 K y.body l).length),(6,I64 i),(13,C7 M),(14,I64 M.length),(15,I64 i),(21,K8 x.hds),(22,I64 x.hds.length),(23,I64 j)]) (by rw[hadd,List.length_set];simp[C1,tm,Tm.upd,todoV]) (fin (some io) (is.set n D1) _ _ (by omega) ?_ ?_)
  ·rw[hadd];refine⟨by simp[hN3.len],C7i hN3.nd hnd,fun z hz=>?_,fun z hz=>?_,fun e=>(by cases e),fun z hz=>hN3'.fr z (by omega)⟩
   ·rcases List.mem_or_eq_of_mem_set hz with hz|hz
    ·have:=hN3.fi z hz;exact⟨by omega,this.2⟩
    ·subst hz;exact⟨by omega,hD0,fun e=>by cases e;omega⟩
   ·cases hz;exact⟨by omega,hio.2⟩
  ·rw[hadd];refine B9u (fun k z p h1 h2=>?_) (fun z hz=>?_) (fun z B hz=>?_)
   ·by_cases hkn:k=n
    ·subst hkn;rw[List.getElem?_set_self hni]at h1;rw[List.getElem?_set_self hnl]at h2;cases h1;cases h2;rw[hnO,h_same];simp[bdB]
    ·rw[List.getElem?_set_ne (Ne.symm hkn)]at h1 h2;have h3:=hN3.fi z (A0U h1);have h4:z≠io:=fun e=>h3.2.2 (by rw[e]);have h5:z≠i0:=fun e=>hkn (C7j hN3.nd (by rw[<- e];exact h1) hi0);rw[h_ne h4,hnO,dme _ _ h5,hnO];exact D3m hN3 h1 h2
   ·cases hz;rw[h_same]
   ·have hzc:z<c3:=A1T fun hc=>by rw[hN3'.fr z hc]at hz;cases hz
    have h4:z≠io:=fun e=>by rw[e,hio.2]at hz;cases hz
    have h5:z≠i0:=fun e=>by rw[e,hii.2.1]at hz;cases hz
    rw[h_ne h4,hnO,dme _ _ h5,hnO];exact B4m hN3 hz
end Go.Proofs.YtkkjpohaffjecaaGreatDoor
set_option maxHeartbeats 4000000
namespace Go.Proofs.YtkkjpohaffjecaaGreatDoor
open Go.Eng (IC IOper DReg IFn L2)
open Go.Sym Go.Pb
abbrev mkQ(r:Ru):DV->DV->List DV:=mkR (C3 r.decls) (C7 r.modes)
theorem c_number34(r:Ru)(hB:r.sz<4000000)(hv:L1 r=true)(s:List UInt8)(H:Hp)(c t:Nat)(I S:DV)(ht:H t=some ⟨0,true,[C3 r.decls,C7 r.modes,I,S]⟩)(htc:t<c):
  AC Tryz.prog 168 [.ptr t 0,.str s] H c (fun v H' c'=>v=I64 (nmR r s)/\H'=H):=by
 have hl:=c_LookupR r s hB;unfold C7n at hl;rw[if_pos hv]at hl;refine AC.bodyT A2 rfl (A0D rfl) fun hfr=>?_;repeat' ((with_reducible first|apply wr|refine cpc hl ?_|fail)<;>try simp only[go_sem,seval,ht])
 exact⟨_,_,GL.refl _ _,rfl,rfl⟩
theorem c_rexpr(r:Ru)(hB:r.sz<4000000)(hv:L1 r=true):∀ (z:Nat) (ex:Ex),ex.sz<z->ex.sz<=100000000->∀ x:Cg,x.1.length+(cgE (nmR r) ex).length<=100000000 ->
  GC 89 (mkQ r) [ex.v] x (x.1++cgE (nmR r) ex,x.2) (.tup []):=by
 intro z
 induction z with
 |zero=>intro ex h;omega
 |succ z ih =>
 intro ex hz hB2 x hx H0 c t' a b h;have hal:Ex.szs ex.args<ex.sz:=by cases ex with|mk k v n a p=>rw[Ex.sz];show Ex.szs a<_;omega
 have hargs:∀ x∈ex.args,x.sz<=Ex.szs ex.args:=fun x hx=>Ex.szs_mem hx;have hll:=Ex.szs_len ex.args;have hE:=D4m (nmR r) ex;rw[hE]at hx ⊢;rw[Ex.v_w];cases ex with|mk k vv nn ar pos =>
 dsimp only[Ex.w,Ex.kind,Ex.value,Ex.name,Ex.args,Ex.pos]at hal hargs hll hx ⊢;clear hE;rw[A0A,A0N]at hx;have h1:=h.tc;refine AC.bodyT A2 rfl (A0D rfl) fun hfr=>?_;repeat' (apply wr<;>try simp only[go_sem,seval])
 obtain⟨B,hBe⟩:∃ B:Blk,B=⟨0,true,[I64 k,I64 vv,.str nn,G9 ar,I64 pos]⟩:=⟨_,rfl⟩;rw[<- hBe,h.com (A0E _)];have hb0:=h.box (B:=B) (A0E c) (A1O c);refine A9 (fun q:Nat × Option Nat × Option Nat=>[(0,.ptr t' 0),(3,.ptr c 0),(4,I64 q.1)]) (fun q=>GM (H0.upd c B) t' q.2.1 q.2.2 (mkQ r) (x.1++C5 (nmR r) (ar.take q.1),x.2))
  (fun q cc=>c+1<=cc/\q.1<=ar.length/\GN (H0.upd c B) t' q.2.1 q.2.2 (x.1++C5 (nmR r) (ar.take q.1),x.2) cc) (fun q=>ar.length-q.1) (0,a,b)
  (by simp[C1,tm,Tm.upd]) (by simp only[A1I,C5,A0W];exact Sub.refl _) ⟨A0E _,A0O _,by simp only[A1I,C5,A0W];exact hb0⟩ ?_
 clear hb0;rintro⟨i,o,b1⟩ cc ⟨hc,hk,hN⟩;dsimp only at hk hN ⊢;have hnn:=hN.tc;have hfr':=fun (j:Nat) (hj:cc<=j)=>A7l (mk:=mkQ r) hN hj;have hM:=W6 (mk:=mkQ r) hN;have hcB:GM (H0.upd c B) t' o b1 (mkQ r) (x.1++C5 (nmR r) (ar.take i),x.2) c=some ⟨0,true,[I64 k,I64 vv,.str nn,G9 ar,I64 pos]⟩:=S0 hN (by rw[h_same,hBe]) (by omega);by_cases hlt:i<ar.length
 ·have hd:=dtz hlt;have hg:=A0B hlt;have hw:=w64 (n:=(i:Int)+1);have hsn:=A3j (nmR r) hg;have hle:=W4 (nmR r) ar (i+1);have hmem:=hargs _ (A0L hlt);generalize ar[i]=y at hg hsn hmem;rw[hsn,A0A]at hle;have hcall:=ih y (by omega) (by omega) (x.1++C5 (nmR r) (ar.take i),x.2) (by rw[A0A];omega);rw[Ex.v_w]at hcall;repeat' (apply wr<;>try simp only[go_sem,seval,hd,hg,Ex.v_w,A0C,hcB])
  refine AC.call (hcall _ _ _ _ _ hN) ?_;rintro _ _ c2 ⟨rfl,a2,b2,hN2,rfl⟩ hc2;simp only[go_sem,seval];repeat' (apply wr<;>try simp only[go_sem,seval,hw])
  dsimp only at hN2 ⊢;rw[A0P, <- hsn]at hN2 ⊢;exact⟨(i+1,a2,b2),by simp[],Sub.refl _,inv ⟨by omega,hlt,hN2⟩,by simp only;omega⟩
 ·have hd:=dfz hlt;have hi:i=ar.length:=by omega
  subst hi;rw[A1P]at hN hfr' hM hcB ⊢;have hz0:=h.fr c (A0E _);have hnum:=fun cx (hx:cc<=cx)=>c_number34 r hB hv nn _ cx t' _ _ hM (by omega);have fin:∀ (op A:Int),A1v (nmR r) k vv nn=⟨op,A⟩->∀ cx,cc<=cx->AC Tryz.prog 159 [.ptr t' 0,I64 op,I64 A] (GM (H0.upd c B) t' o b1 (mkQ r) (x.1++C5 (nmR r) ar,x.2)) cx (fun v' H' c' => ∃ a' b',GN (H0.upd c B) t' a' b' (x.1++(C5 (nmR r) ar++[A1v (nmR r) k vv nn]),x.2) c'/\H'=GM (H0.upd c B) t' a' b' (mkQ r) (x.1++(C5 (nmR r) ar++[A1v (nmR r) k vv nn]),x.2)):=fun op A he cx hcx=>by
   rw[he, <- A0P];refine AC.call (c_emit34 _ _ op A (x.1++C5 (nmR r) ar,x.2) (by rw[A0A];omega) _ _ _ _ _ (hN.le hcx)) ?_;rintro _ _ c2 ⟨rfl,a2,b2,hN2,rfl⟩ hc2;exact⟨a2,b2,hN2,rfl⟩
  repeat' ((with_reducible first|refine wr ?_|refine wb2 ?_ ?_<;>(intro hb;try simp only[hb])|fail)<;>try simp only[go_sem,seval,hd,hcB])
  all_goals
   first
   |refine AC.call (hnum cc (A0E _)) ?_
    rintro _ _ c3 ⟨rfl,rfl⟩ hc3;simp only[go_sem,seval];repeat' (apply wr<;>try simp only[go_sem,seval])
    refine AC.call (fin _ _ ?_ _ hc3) ?_
   |refine AC.call (fin _ _ ?_ _ (A0E _)) ?_
   ·clear fin hN hM hcB hfr' hx hz0 hnn ih hfr h hargs hal hBe hnum;simp_all[A1v]
   rintro _ _ c2 ⟨a2,b2,hN2,rfl⟩ hc2;simp only[go_sem,seval];repeat' (apply wr<;>try simp only[go_sem,seval])
   exact⟨_,_,GL.less' (J0 hz0 (by omega) hN2),rfl,a2,b2,hN2.unbox hz0 (by omega) h.fr,rfl⟩
theorem c_body_of(r:Ru)(l:List Pb.St)(hl:l.length<=99000000)(hs:∀ s∈l, ∀ x:Cg,CgB (A0t (nmR r) s x)->GC 236 (mkQ r) [s.v] x (A0t (nmR r) s x) (.tup []))(x:Cg)(hx:CgB (F5 (nmR r) l x)):
  GC 158 (mkQ r) [D3 l] x (F5 (nmR r) l x) (.tup []):=by
 intro H0 c t' a b h;refine AC.bodyT A2 rfl (A0D rfl) fun hfr=>?_;repeat' (apply wr<;>try simp only[go_sem,seval])
 refine A9 (fun q:Nat × Option Nat × Option Nat=>[(0,.ptr t' 0),(1,D3 l),(4,I64 q.1)]) (fun q=>GM H0 t' q.2.1 q.2.2 (mkQ r) (F5 (nmR r) (l.take q.1) x))
  (fun q cc=>c<=cc/\q.1<=l.length/\GN H0 t' q.2.1 q.2.2 (F5 (nmR r) (l.take q.1) x) cc) (fun q=>l.length-q.1) (0,a,b)
  (by simp[C1,tm,Tm.upd]) (by simp only[A1I,M2];exact Sub.refl _) ⟨A0E _,A0O _,by simp only[A1I,M2];exact h⟩ ?_
 rintro⟨i,o,b1⟩ cc ⟨hc,hk,hN⟩;dsimp only at hk hN ⊢;by_cases hlt:i<l.length
 ·have hd:=dtz hlt;have hg:=A0B hlt;have hw:=w64 (n:=(i:Int)+1);have hsn:=B2p (nm:=nmR r) hg x;have hle:=(B2o (nm:=nmR r) l (i+1) x).bnd hx;have hcall:=hs _ (A0L hlt);generalize l[i]=y at hg hsn hcall;rw[hsn]at hle;have hcall:=hcall _ hle;rw[St.v_w]at hcall;repeat' (apply wr<;>try simp only[go_sem,seval,hd,hg,St.v_w,A0C])
  refine AC.call (hcall _ _ _ _ _ hN) ?_;rintro _ _ c2 ⟨rfl,a2,b2,hN2,rfl⟩ hc2;simp only[go_sem,seval];repeat' (apply wr<;>try simp only[go_sem,seval,hw])
  rw[<- hsn]at hN2 ⊢;exact⟨(i+1,a2,b2),by simp[],Sub.refl _,inv ⟨by omega,hlt,hN2⟩,by simp only;omega⟩
 ·have hd:=dfz hlt;have hi:i=l.length:=by omega
  subst hi;rw[A1P]at hN ⊢;repeat' (apply wr<;>try simp only[go_sem,seval,hd,A0C])
  exact⟨_,_,GL.refl _ _,rfl,o,b1,hN,rfl⟩
theorem c_stmt_of(r:Ru)(hB:r.sz<4000000)(hv:L1 r=true)(h0:nmR r []=0)(s:Pb.St)(d:Nat)(hvs:N7 d s=true)(hsz:s.sz<=100000000)
  (hu:∀ x,CgB (F5 (nmR r) s.thn x)->GC 158 (mkQ r) [D3 s.thn] x (F5 (nmR r) s.thn x) (.tup []))
  (he:∀ x,CgB (F5 (nmR r) s.els x)->GC 158 (mkQ r) [D3 s.els] x (F5 (nmR r) s.els x) (.tup [])) (x:Cg) (hx:CgB (A0t (nmR r) s x)) :
  GC 236 (mkQ r) [s.v] x (A0t (nmR r) s x) (.tup []):=by
 intro H0 c t' a b h;have hxa:=(B2n (nm:=nmR r) s x).bnd hx;rw[St.v_w];obtain⟨k,nn,tt,ar,u,v,pos⟩:=s;dsimp only[St.w,St.kind,St.name,St.text,St.args,St.thn,St.els,St.pos]at hu he hxa ⊢;obtain⟨k1,k2,ha,hva,hb,hvb,hc,hvc,h8,h9,hn,ht⟩:=A1w hvs;have hsz2:Ex.szs ar<100000000:=by rw[St.sz]at hsz;omega
 have hargs:∀ x∈ar,x.sz<=Ex.szs ar:=fun x hx=>Ex.szs_mem hx;have hll:=Ex.szs_len ar;have h1:=h.tc;obtain⟨x1,hx1⟩:∃ x1:Cg,x1=(x.1++C5 (nmR r) ar,x.2):=⟨_,rfl⟩;rw[<- hx1]at hxa;refine AC.bodyT A2 rfl (A0D rfl) fun hfr=>?_;repeat' (apply wr<;>try simp only[go_sem,seval])
 obtain⟨B,hBe⟩:∃ B:Blk,B=⟨0,true,[I64 k,.str nn,.str tt,G9 ar,D3 u,D3 v,I64 pos]⟩:=⟨_,rfl⟩;rw[<- hBe,h.com (A0E _)];have hb0:=h.box (B:=B) (A0E c) (A1O c);refine A9 (fun q:Nat × Option Nat × Option Nat=>[(0,.ptr t' 0),(3,.ptr c 0),(4,I64 q.1)]) (fun q=>GM (H0.upd c B) t' q.2.1 q.2.2 (mkQ r) (x.1++C5 (nmR r) (ar.take q.1),x.2))
  (fun q cc=>c+1<=cc/\q.1<=ar.length/\GN (H0.upd c B) t' q.2.1 q.2.2 (x.1++C5 (nmR r) (ar.take q.1),x.2) cc) (fun q=>ar.length-q.1) (0,a,b)
  (by simp[C1,tm,Tm.upd]) (by simp only[A1I,C5,A0W];exact Sub.refl _) ⟨A0E _,A0O _,by simp only[A1I,C5,A0W];exact hb0⟩ ?_
 clear hb0;rintro⟨i,o,b1⟩ cc ⟨hcc,hk,hN⟩;dsimp only at hk hN ⊢;have hnn:=hN.tc;have hM:=W6 (mk:=mkQ r) hN;have hcB:∀ {x' o' b' c2},GN (H0.upd c B) t' o' b' x' c2->GM (H0.upd c B) t' o' b' (mkQ r) x' c=some ⟨0,true,[I64 k,.str nn,.str tt,G9 ar,D3 u,D3 v,I64 pos]⟩:=fun hN=>S0 hN (by rw[h_same,hBe]) (by omega);by_cases hlt:i<ar.length
 ·have hd:=dtz hlt;have hg:=A0B hlt;have hw:=w64 (n:=(i:Int)+1);have hsn:=A3j (nmR r) hg;have hle:=W4 (nmR r) ar (i+1);have hmem:=hargs _ (A0L hlt);generalize ar[i]=y at hg hsn hmem;rw[hsn,A0A]at hle;have hlx:=hxa.1;rw[hx1,A0A]at hlx;have hcall:=c_rexpr r hB hv _ y (A1O _) (by omega) (x.1++C5 (nmR r) (ar.take i),x.2) (by rw[A0A];omega);rw[Ex.v_w]at hcall;have hcB:=hcB hN;repeat' (apply wr<;>try simp only[go_sem,seval,hd,hg,Ex.v_w,A0C,hcB])
  refine AC.call (hcall _ _ _ _ _ hN) ?_;rintro _ _ c2 ⟨rfl,a2,b2,hN2,rfl⟩ hc2;simp only[go_sem,seval];repeat' (apply wr<;>try simp only[go_sem,seval,hw])
  dsimp only at hN2 ⊢;rw[A0P, <- hsn]at hN2 ⊢;exact⟨(i+1,a2,b2),by simp[],Sub.refl _,inv ⟨by omega,hlt,hN2⟩,by simp only;omega⟩
 have hd:=dfz hlt;have hi:i=ar.length:=by omega
 subst hi;rw[A1P, <- hx1]at hN hM ⊢;have hz0:=h.fr c (A0E _);have hcB1:=hcB hN;clear hlt hk hll hargs hva;by_cases q2:k=2
 ·have d2:(k == 2)=true:=by simpa using q2
  subst q2;obtain⟨T,hT⟩:∃ T,T=cgB (nmR r) (x1.1.length+1) x1.2 u:=⟨_,rfl⟩;have eT:F5 (nmR r) u (x1.1++[⟨13,0⟩],x1.2)=(x1.1++⟨13,0⟩ :: T.1,T.2):=by
   unfold F5;rw[A0A,A0N, <- hT];simp
  repeat' (apply wr<;>try simp only[go_sem,seval,hd,hcB1,d2])
  refine AC.call (c_emit34 _ _ 13 0 x1 (by have:=hxa.1;omega) _ _ _ _ _ hN) ?_;rintro _ _ c2 ⟨rfl,a2,b2,hN2,rfl⟩ hc2;have hcB2:=hcB hN2;simp only[go_sem,seval];repeat' (apply wr<;>try simp only[go_sem,seval,hcB2])
  by_cases hv0:v.length=0
  ·have q0:decide ((v.length:Int)>0)=false:=by rw[hv0];rfl
   rw[B0o hx1 hv0, <- hT]at hx ⊢;have hbT:CgB (x1.1++⟨13,0⟩ :: T.1,T.2):=⟨by have:=hx.1;rw[A0A,A0K]at this ⊢;exact this,hx.2⟩;refine AC.call (hu _ (by rw[eT];exact hbT) _ _ _ _ _ hN2) ?_;rintro _ _ c3 ⟨rfl,a3,b3,hN3,rfl⟩ hc3;rw[eT]at hN3 ⊢;obtain⟨i3,rfl⟩:=hN3.some;have hcB3:=hcB hN3;have hM3:=W6 (mk:=mkQ r) hN3;have hA3:=A4x (mk:=mkQ r) hN3 rfl;have hfr3:=fun j (hj:c3<=j)=>A7l (mk:=mkQ r) hN3 hj;have hle3:x1.1.length<(x1.1++(⟨13,0⟩:Ins) :: T.1).length:=by simp
   have hst3:=fun (d:Nat) (z:Int)=>C2r (d:=d) (mk:=mkQ r) hN3 z;dsimp only at hA3 hM3;simp only[go_sem,seval];repeat' (apply wr<;>try simp only[go_sem,seval,hcB3,q0,hM3,hA3,hle3,hst3,A0C])
   exact⟨_,_,GL.less' (J0 hz0 (by omega) (hN3.mend _)),rfl,some i3,b3,((hN3.mend _).le (by omega)).unbox hz0 (by omega) h.fr,rfl⟩
  ·have q0:decide ((v.length:Int)>0)=true:=by simp;omega
   obtain⟨W,hW⟩:∃ W,W=cgB (nmR r) (x1.1.length+1+T.1.length+1) T.2 v:=⟨_,rfl⟩;rw[B0n hx1 hv0 hT hW]at hx ⊢;obtain⟨J,hJ⟩:∃ J,J=x1.1.length+1+T.1.length:=⟨_,rfl⟩;rw[<- hJ]at hx hW ⊢;have l3:(x1.1++(⟨13,0⟩:Ins) :: T.1).length=J:=by simp;omega
   have l4:(x1.1++(⟨13,0⟩:Ins) :: (T.1++[⟨12,0⟩])).length=J+1:=by simp;omega
   have l5:(x1.1++(⟨13,((J+1:Nat):Int)⟩:Ins) :: T.1).length=J:=by simp;omega
   have hxl:=hx.1;rw[A0A,l5,A0K]at hxl;have hxs:=hx.2;have hTs:B7j T (T.1++W.1,W.2):=⟨by simp,by rw[hW];exact Y0 _ v _ _⟩;have hbT:CgB (x1.1++⟨13,0⟩ :: T.1,T.2):=⟨by rw[l3];omega,A1E hTs.2 hxs⟩;refine AC.call (hu _ (by rw[eT];exact hbT) _ _ _ _ _ hN2) ?_;rintro _ _ c3 ⟨rfl,a3,b3,hN3,rfl⟩ hc3;rw[eT]at hN3 ⊢;have hcB3:=hcB hN3;simp only[go_sem,seval];repeat' (apply wr<;>try simp only[go_sem,seval,hcB3,q0,A0C])
   refine AC.call (c_emit34 _ _ 12 0 _ (by have:=hbT.1;omega) _ _ _ _ _ hN3) ?_;rintro _ _ c4 ⟨rfl,a4,b4,hN4,rfl⟩ hc4;have e4:(((x1.1++(⟨13,0⟩:Ins) :: T.1,T.2):Cg).1++[⟨12,0⟩],((x1.1++(⟨13,0⟩:Ins) :: T.1,T.2):Cg).2)=((x1.1++⟨13,0⟩ :: (T.1++[⟨12,0⟩]),T.2):Cg):=by simp
   rw[e4]at hN4 ⊢;obtain⟨i4,rfl⟩:=hN4.some;have hcB4:=hcB (hN4.mend ((J+1:Nat):Int));have hM4:=W6 (mk:=mkQ r) hN4;have hA4:=A4x (mk:=mkQ r) hN4 rfl;have hle4:x1.1.length<J+1:=by omega
   have hst4:=fun (d:Nat) (z:Int)=>C2r (d:=d) (mk:=mkQ r) hN4 z;dsimp only at hA4 hM4;unfold gmB at hM4;dsimp only at hM4;rw[l4]at hM4;simp only[go_sem,seval,l3];repeat' (apply wr<;>try simp only[go_sem,seval,hcB4,hM4,hA4,hle4,hst4])
   have l6:(x1.1++(⟨13,((J+1:Nat):Int)⟩:Ins) :: (T.1++[⟨12,0⟩])).length=J+1:=by simp;omega
   have e5:∀ z:Int,F5 (nmR r) v (x1.1++⟨13,((J+1:Nat):Int)⟩ :: (T.1++[⟨12,z⟩]),T.2)=((x1.1++⟨13,((J+1:Nat):Int)⟩ :: T.1)++⟨12,z⟩ :: W.1,W.2):=fun z=>by
    have l6:(x1.1++(⟨13,((J+1:Nat):Int)⟩:Ins) :: (T.1++[⟨12,z⟩])).length=J+1:=by simp;omega
    unfold F5;dsimp only;rw[l6, <- hW];simp
   have hbW:CgB ((x1.1++⟨13,((J+1:Nat):Int)⟩ :: T.1)++⟨12,0⟩ :: W.1,W.2):=⟨by rw[A0A,l5,A0K];omega,hxs⟩;refine AC.call (he _ (by rw[e5];exact hbW) _ _ _ _ _ ((hN4.mend ((J+1:Nat):Int)).le (by omega))) ?_;rintro _ _ c5 ⟨rfl,a5,b5,hN5,rfl⟩ hc5;rw[e5]at hN5 ⊢;obtain⟨i5,rfl⟩:=hN5.some;have l7:((x1.1++(⟨13,((J+1:Nat):Int)⟩:Ins) :: T.1)++(⟨12,0⟩:Ins) :: W.1).length=J+1+W.1.length:=by rw[A0A,l5,A0K];omega
   have hM5:=W6 (mk:=mkQ r) hN5;have hA5:=A4x (mk:=mkQ r) hN5 rfl;have hle5:J<J+1+W.1.length:=by omega
   have hst5:=fun (d:Nat) (z:Int)=>C2r (d:=d) (mk:=mkQ r) hN5 z;dsimp only at hA5 hM5;unfold gmB at hM5;dsimp only at hM5;rw[l7]at hM5;rw[l5]at hst5;simp only[go_sem,seval];repeat' (apply wr<;>try simp only[go_sem,seval,hM5,hA5,hle5,hst5])
   exact⟨_,_,GL.less' (J0 hz0 (by omega) (hN5.mend _)),rfl,some i5,b5,((hN5.mend _).le (by omega)).unbox hz0 (by omega) h.fr,rfl⟩
 have d2:(k == 2)=false:=by simpa using q2
 by_cases q3:k=3
 ·have d3:(k == 3)=true:=by simpa using q3
  subst q3;obtain⟨T,hT⟩:∃ T,T=cgB (nmR r) (x1.1.length+1) x1.2 u:=⟨_,rfl⟩;have eT:F5 (nmR r) u (x1.1++[⟨14,0⟩],x1.2)=(x1.1++⟨14,0⟩ :: T.1,T.2):=by
   unfold F5;rw[A0A,A0N, <- hT];simp
  rw[B0l hx1 hT]at hx ⊢;obtain⟨J,hJ⟩:∃ J,J=x1.1.length+1+T.1.length:=⟨_,rfl⟩;rw[<- hJ]at hx ⊢;have l3:(x1.1++(⟨14,0⟩:Ins) :: T.1).length=J:=by simp;omega
  have l4:(x1.1++(⟨14,0⟩:Ins) :: (T.1++[⟨12,(x1.1.length:Int)⟩])).length=J+1:=by simp;omega
  have hxl:=hx.1;rw[A0A,A0K,A0A,A0N]at hxl;have hbT:CgB (x1.1++⟨14,0⟩ :: T.1,T.2):=⟨by rw[l3];omega,hx.2⟩;repeat' (apply wr<;>try simp only[go_sem,seval,hd,hcB1,d2,d3])
  refine AC.call (c_emit34 _ _ 14 0 x1 (by have:=hxa.1;omega) _ _ _ _ _ hN) ?_;rintro _ _ c2 ⟨rfl,a2,b2,hN2,rfl⟩ hc2;have hcB2:=hcB hN2;simp only[go_sem,seval];repeat' (apply wr<;>try simp only[go_sem,seval,hcB2])
  refine AC.call (hu _ (by rw[eT];exact hbT) _ _ _ _ _ hN2) ?_;rintro _ _ c3 ⟨rfl,a3,b3,hN3,rfl⟩ hc3;rw[eT]at hN3 ⊢;simp only[go_sem,seval];repeat' (apply wr<;>try simp only[go_sem,seval])
  refine AC.call (c_emit34 _ _ 12 x1.1.length _ (by have:=hbT.1;omega) _ _ _ _ _ hN3) ?_;rintro _ _ c4 ⟨rfl,a4,b4,hN4,rfl⟩ hc4;have e4:(((x1.1++(⟨14,0⟩:Ins) :: T.1,T.2):Cg).1++[⟨12,(x1.1.length:Int)⟩],((x1.1++(⟨14,0⟩:Ins) :: T.1,T.2):Cg).2)=((x1.1++⟨14,0⟩ :: (T.1++[⟨12,(x1.1.length:Int)⟩]),T.2):Cg):=by simp
  rw[e4]at hN4 ⊢;obtain⟨i4,rfl⟩:=hN4.some;have hM4:=W6 (mk:=mkQ r) hN4;have hA4:=A4x (mk:=mkQ r) hN4 rfl;have hle4:x1.1.length<J+1:=by omega
  have hst4:=fun (d:Nat) (z:Int)=>C2r (d:=d) (mk:=mkQ r) hN4 z;dsimp only at hA4 hM4;unfold gmB at hM4;dsimp only at hM4;rw[l4]at hM4;simp only[go_sem,seval];repeat' (apply wr<;>try simp only[go_sem,seval,hM4,hA4,hle4,hst4])
  exact⟨_,_,GL.less' (J0 hz0 (by omega) (hN4.mend _)),rfl,some i4,b4,((hN4.mend _).le (by omega)).unbox hz0 (by omega) h.fr,rfl⟩
 have d3:(k == 3)=false:=by simpa using q3
 by_cases q18:k=18
 ·have d18:(k == 18)=true:=by simpa using q18
  subst q18;rw[B0k hx1]at hx ⊢;have hxs:x1.2.length<=99999999:=hxa.2;repeat' (apply wr<;>try simp only[go_sem,seval,hd,hcB1,d2,d3,d18])
  refine AC.call (c_text34 _ _ tt x1 (by omega) _ _ _ _ _ hN) ?_;rintro _ _ c2 ⟨rfl,a2,b2,hN2,rfl⟩ hc2;simp only[go_sem,seval];repeat' (apply wr<;>try simp only[go_sem,seval])
  refine AC.call (c_emit34 _ _ 29 _ _ (by have:=hxa.1;dsimp only;omega) _ _ _ _ _ hN2) ?_;rintro _ _ c3 ⟨rfl,a3,b3,hN3,rfl⟩ hc3;simp only[go_sem,seval];repeat' (apply wr<;>try simp only[go_sem,seval])
  exact⟨_,_,GL.less' (J0 hz0 (by omega) hN3),rfl,a3,b3,hN3.unbox hz0 (by omega) h.fr,rfl⟩
 have d18:(k == 18)=false:=by simpa using q18
 rw[B0m hx1 q2 q3 q18];have hop:=c_op34 k;by_cases q4:k=4\/k=19
 ·have hnn0:nmR r nn=0:=by
   have e:nn=[]:=by
    rcases q4 with rfl|rfl
    ·exact hn
    ·exact hn
   rw[e,h0]
  rw[hnn0];rcases q4 with q4|q4
  ·have d4:(k == 4)=true:=by simpa using q4
   repeat' ((with_reducible first|apply wr|refine cpc hop ?_|fail)<;>try simp only[go_sem,seval,hd,hcB1,d2,d3,d18,d4])
   refine AC.call (c_emit34 _ _ _ _ x1 (by have:=hxa.1;omega) _ _ _ _ _ (hN.le (by omega))) ?_;rintro _ _ c3 ⟨rfl,a3,b3,hN3,rfl⟩ hc3;simp only[go_sem,seval];repeat' (apply wr<;>try simp only[go_sem,seval])
   exact⟨_,_,GL.less' (J0 hz0 (by omega) hN3),rfl,a3,b3,hN3.unbox hz0 (by omega) h.fr,rfl⟩
  ·have d4:(k == 4)=false:=by simp;omega
   have d19:(k == 19)=true:=by simpa using q4
   repeat' ((with_reducible first|apply wr|refine cpc hop ?_|fail)<;>try simp only[go_sem,seval,hd,hcB1,d2,d3,d18,d4,d19])
   refine AC.call (c_emit34 _ _ _ _ x1 (by have:=hxa.1;omega) _ _ _ _ _ (hN.le (by omega))) ?_;rintro _ _ c3 ⟨rfl,a3,b3,hN3,rfl⟩ hc3;simp only[go_sem,seval];repeat' (apply wr<;>try simp only[go_sem,seval])
   exact⟨_,_,GL.less' (J0 hz0 (by omega) hN3),rfl,a3,b3,hN3.unbox hz0 (by omega) h.fr,rfl⟩
 ·have d4:(k == 4)=false:=by simp;omega
  have d19:(k == 19)=false:=by simp;omega
  have hnum:=fun cx (hx:cc<=cx)=>c_number34 r hB hv nn _ cx t' _ _ hM (by omega);repeat' ((with_reducible first|apply wr|refine cpc hop ?_|fail)<;>try simp only[go_sem,seval,hd,hcB1,d2,d3,d18,d4,d19])
  refine⟨by (try and_intros)<;>exact A7l hN (by omega),?_⟩;refine AC.call (hnum _ ?_) ?_
  ·omega
  rintro _ _ c2 ⟨rfl,rfl⟩ hc2;simp only[go_sem,seval];repeat' (apply wr<;>try simp only[go_sem,seval])
  refine⟨A7l hN (by omega),?_⟩;refine AC.call (c_emit34 _ _ _ _ x1 (by have:=hxa.1;omega) _ _ _ _ _ (hN.le (show cc<=c2 by omega))) ?_;rintro _ _ c3 ⟨rfl,a3,b3,hN3,rfl⟩ hc3;simp only[go_sem,seval];repeat' (apply wr<;>try simp only[go_sem,seval])
  exact⟨_,_,GL.less' (J0 hz0 (by omega) hN3),rfl,a3,b3,hN3.unbox hz0 (by omega) h.fr,rfl⟩
theorem c_body34(r:Ru)(hB:r.sz<4000000)(hv:L1 r=true)(h0:nmR r []=0):∀ (z:Nat) (l:List Pb.St) (d:Nat),F8 d l=true->St.szs l<z->St.szs l<=99000000->∀ x,CgB (F5 (nmR r) l x)->GC 158 (mkQ r) [D3 l] x (F5 (nmR r) l x) (.tup []):=by
 intro z
 induction z with
 |zero=>intro l d h1 h2;omega
 |succ z ih =>
  intro l d hvl hz hb x hx;have hle:=St.szs_len l;refine c_body_of r l (by omega) (fun s hs y hy=>?_) x hx;have hsz:=St.szs_mem hs;have hvs:=W7.1 hvl s hs;have hsv:F8 (d+1) s.thn=true/\F8 (d+1) s.els=true/\St.szs s.thn<s.sz/\St.szs s.els<s.sz:=by
   obtain⟨k,nn,tt,ar,u,v,pos⟩:=s;obtain⟨-, -, -, -, -,g1, -,g2, -⟩:=A1w hvs;simp only[St.thn,St.els,St.sz];exact⟨g1,g2,by omega,by omega⟩
  obtain⟨g1,g2,g3,g4⟩:=hsv;exact c_stmt_of r hB hv h0 s d hvs (by omega) (fun w hw=>ih s.thn (d+1) g1 (by omega) (by omega) w hw) (fun w hw=>ih s.els (d+1) g2 (by omega) (by omega) w hw) y hy
end Go.Proofs.YtkkjpohaffjecaaGreatDoor
set_option maxHeartbeats 8000000
namespace Go.Proofs.YtkkjpohaffjecaaGreatDoor
open Go.Eng (IC IOper DReg IFn L2)
open Go.Sym Go.Pb
abbrev B1a(m:Nat)(l:List Hd)(nb:Nat):List (Nat × DV):=[(1,.ptr 0 0),(2,.ptr 1 0),(7,.ptr 2 0),(8,.ptr 8 0),(10,I64 m),(11,K8 l),(12,.slc nb 0 l.length)]
abbrev kyR(m t n:Nat):Ky:=⟨m,(t:Int)+1,n⟩
def bdR(nm:List UInt8->Int)(m:Nat)(l:List Hd)(k:Ky):List (List Pb.St):=J1 (l.map (hdK nm m)) k
theorem c_rcK(r:Ru)(l:List Hd)(m t n nb c:Nat)(X:Hp)(x:Cg)(a b:Option Nat)(A:Int)(Q:Exit->Go.Sym.St->Prop)(hl:l.length<=1000000)(ht:t<6)(hn:n<128)
  (hb:∀ h∈l, ∀ y,CgB (F5 (nmR r) h.body y)->GC 158 (mkQ r) [D3 h.body] y (F5 (nmR r) h.body y) (.tup []))
  (hN:GN X 2 a b x c) (hnb:X nb=some ⟨1,true,l.map fun h=>I64 (nmR r h.name)⟩) (hnb2:nb≠2)
  (hB:CgB (F5 (nmR r) (bdR (nmR r) m l (kyR m t n)).flatten x))
  (next:∀ a' b' c',c<=c'->GN X 2 a' b' (F5 (nmR r) (bdR (nmR r) m l (kyR m t n)).flatten x) c' ->
   IW Tryz.prog 184 (pz Tryz.prog 81 (.i (.o (.i (.o (.i (.i .h))))))) ⟨tm (B1a m l nb++[(14,I64 ((t:Int)+1)),(15,I64 n),(16,I64 A),(17,.bool (!(bdR (nmR r) m l (kyR m t n)).isEmpty))]),GM X 2 a' b' (mkQ r) (F5 (nmR r) (bdR (nmR r) m l (kyR m t n)).flatten x),c'⟩ Q) :
  IW Tryz.prog 184 (pz Tryz.prog 81 (.o (.o (.o (.o (.o (.i .h))))))) ⟨tm (B1a m l nb++[(14,I64 ((t:Int)+1)),(15,I64 n),(16,I64 A),(17,.bool false)]),GM X 2 a b (mkQ r) x,c⟩ Q:=by
 generalize nmR r=nm at *;repeat' (apply wr<;>try simp only[go_sem,seval])
 refine A9 (fun q:Nat × Option Nat × Option Nat=>[(1,.ptr 0 0),(2,.ptr 1 0),(7,.ptr 2 0),(8,.ptr 8 0),(10,I64 m),(11,K8 l),(12,.slc nb 0 l.length),(14,I64 ((t:Int)+1)),(15,I64 n),(16,I64 A),(17,.bool (!(bdR nm m (l.take q.1) (kyR m t n)).isEmpty)),(18,I64 q.1)])
  (fun q=>GM X 2 q.2.1 q.2.2 (mkQ r) (F5 nm (bdR nm m (l.take q.1) (kyR m t n)).flatten x))
  (fun q cc=>c<=cc/\q.1<=l.length/\GN X 2 q.2.1 q.2.2 (F5 nm (bdR nm m (l.take q.1) (kyR m t n)).flatten x) cc) (fun q=>l.length-q.1) (0,a,b)
  (by simp[C1,tm,Tm.upd,bdR,J1]) (by simp[bdR,J1,M2,Sub.refl]) ⟨A0E _,A0O _,by simpa[bdR,J1,M2] using hN⟩ ?_
 clear hN a b;rintro⟨j,a,b⟩ cc ⟨hc,hj,hN⟩;replace hj:j<=l.length:=hj;replace hc:c<=cc:=hc;dsimp only at hN ⊢;by_cases hlt:j<l.length
 rotate_left
 ·have hd:=dfz hlt;obtain rfl:j=l.length:=by omega
  rw[A1P]at hN ⊢;repeat' ((with_reducible first|refine H9 (p:=IW _ _ (pz Tryz.prog 81 (.i (.o (.i (.o (.i (.i .h))))))) _ _) ?_|refine wr ?_|fail)<;>try simp only[go_sem,seval,hd,A0C])
  exact IW.stage (by simp[C1,tm,Tm.upd]) (next a b cc hc hN)
 have hd:=dtz hlt;have hg:=A0B hlt;have hw:=w64 (n:=(j:Int)+1);have hcall:=hb _ (A0L hlt);have htk:=fun k=>C4q (nm:=nm) (i:=m) hg k;have hpre:(bdR nm m (l.take (j+1)) (kyR m t n)).flatten <+: (bdR nm m l (kyR m t n)).flatten:=by
  have e:=congrArg (fun l=>(bdR nm m l (kyR m t n)).flatten) (A1W (j+1) l);unfold bdR at e ⊢;rw[A0T,B0r,A2W]at e;exact⟨_,e⟩
 have hle:CgB (F5 nm (bdR nm m (l.take (j+1)) (kyR m t n)).flatten x):=by
  obtain⟨R,hR⟩:=hpre;rw[<- hR,R6]at hB;exact (B4i _ _).bnd hB
 have hgn:(l.map fun h=>I64 (nm h.name))[j]? = some (I64 (nm l[j].name)):=by rw[A1N,hg];rfl
 have hgh:(l.map Hd.v)[j]? = some l[j].v:=by rw[A1N,hg];rfl
 have hMn:=S0 (mk:=mkQ r) hN hnb hnb2;generalize l[j]=h at hg hcall htk hgn hgh;have htk:bdR nm m (l.take (j+1)) (kyR m t n)=bdR nm m (l.take j) (kyR m t n)++if (hdK nm m h).1=kyR m t n then [h.body] else []:=htk (kyR m t n)
 have hia:A0p 1 (.slc nb 0 l.length) (I64 (j:Int))=some (.ptr nb j):=by simp[A0p];omega
 have hkey:(hdK nm m h).1=kyR m t n↔(h.trig=(t:Int)+1/\nm h.name=n):=by simp[hdK]
 obtain⟨tr,na,bo,ps⟩:=h;dsimp only at htk hcall hgn hkey;by_cases h1:tr=(t:Int)+1
 ·by_cases h2:nm na=n
  ·rw[if_pos (hkey.2 ⟨h1,h2⟩)]at htk;rw[htk,A2W,R6]at hle;have hcall:=hcall _ (by simpa using hle);repeat' (apply wr<;>try simp only[go_sem,seval,hd,hgh,hMn,hgn,hia,h1,h2,A0C])
   refine AC.call (hcall _ _ _ _ _ hN) ?_;rintro _ _ c2 ⟨rfl,a2,b2,hN2,rfl⟩ hc2;simp only[go_sem,seval];repeat' (apply wr<;>try simp only[go_sem,seval,hw])
   refine⟨(j+1,a2,b2),by simp[htk],?_,inv ⟨by omega,hlt,?_⟩,by simp only;omega⟩
   ·simp only[htk,A2W,R6,A1L,A2O,A0W];exact Sub.refl _
   ·simp only[htk,A2W,R6,A1L,A2O,A0W];exact hN2
  ·rw[if_neg (fun e=>h2 (hkey.1 e).2),A0W]at htk;have h2':(nm na == (n:Int))=false:=by simpa using h2
   repeat' (apply wr<;>try simp only[go_sem,seval,hd,hgh,hw,hMn,hgn,hia,h1,h2',A0C])
   exact⟨(j+1,a,b),by simp[htk],by simp only[htk];exact Sub.refl _,inv ⟨by omega,hlt,by simp only[htk];exact hN⟩,by simp only;omega⟩
 ·rw[if_neg (fun e=>h1 (hkey.1 e).1),A0W]at htk;have h1':(tr == (t:Int)+1)=false:=by simpa using h1
  repeat' (apply wr<;>try simp only[go_sem,seval,hd,hgh,hw,h1',A0C])
  exact⟨(j+1,a,b),by simp[htk],by simp only[htk];exact Sub.refl _,inv ⟨by omega,hlt,by simp only[htk];exact hN⟩,by simp only;omega⟩
abbrev ouB(eo:Option Nat)(n:Nat)(P3 V4:DV)(m7 m8:Int):Blk:=⟨0,true,[.snil,.snil,todoV eo n,P3,V4,I64 m7,I64 m8]⟩
def ouH(Y:Hp)(eo:Option Nat)(E:List Ent)(P3 V4:DV)(m7 m8:Int):Hp:=(optH Y eo ⟨4,true,cellsL (E.map Ent.v)⟩).upd 8 (ouB eo E.length P3 V4 m7 m8)
abbrev cgP(nm:List UInt8->Int)(P:List C8):Cg:=((cgL nm 0 [] P).1,(cgL nm 0 [] P).2.2)
abbrev enP(nm:List UInt8->Int)(P:List C8):List Ent:=(cgL nm 0 [] P).2.1
section
variable {Y:Hp} {eo:Option Nat} {E:List Ent} {P3 V4:DV} {m7 m8:Int} {j:Nat} {B:Blk}
theorem B3j:ouH Y eo E P3 V4 m7 m8 8=some (ouB eo E.length P3 V4 m7 m8):=h_same
theorem T9(h3:j≠8)(he:eo≠some j):ouH Y eo E P3 V4 m7 m8 j=Y j:=by
 rw[ouH,h_ne h3,B7 (fun i hi e=>he (by rw[e];exact hi))]
theorem C3f{i:Nat}(h3:i≠8):ouH Y (some i) E P3 V4 m7 m8 i=some ⟨4,true,cellsL (E.map Ent.v)⟩:=by
 rw[ouH,h_ne h3];exact h_same
end
structure EoN (Y:Hp) (eo:Option Nat) (c:Nat) (n:Nat):Prop where
 lt:∀ i,eo=some i->9<=i/\i<c/\Y i=none
 nil:eo=none->n=0
section
variable {Y:Hp} {eo a b:Option Nat} {E E':List Ent} {P3 V4:DV} {m7 m8:Int} {i k c:Nat} {B4:Blk} {x:Cg} {mk:DV->DV->List DV}
theorem A1c(h:ouH Y eo E P3 V4 m7 m8 k=none):k≠8/\eo≠some k/\Y k=none:=by
 have h3:k≠8:=by rintro rfl;rw[B3j]at h;cases h
 have he:eo≠some k:=by rintro rfl;rw[C3f h3]at h;cases h
 exact⟨h3,he,by rw[T9 h3 he]at h;exact h⟩
theorem E0u(h:GN (ouH Y eo E P3 V4 m7 m8) 2 a b x c)(hy:∀ j,c<=j->Y j=none)(hi:c<=i)(h4:9<=i):GN (ouH Y (some i) E' P3 V4 m7 m8) 2 a b x (i+1) :=
 ⟨by omega,fun k hk=>by
  have:=h.ha k hk;have g:=A1c this.2.2;exact⟨this.1,by omega,by rw[T9 g.1 (fun e=>by cases e;omega)];exact g.2.2⟩,fun k hk=>by
  have:=h.hb k hk;have g:=A1c this.2.2;exact⟨this.1,by omega,by rw[T9 g.1 (fun e=>by cases e;omega)];exact g.2.2⟩,h.ne,h.an,h.bn,fun j hj=>by
  rw[T9 (by omega) (fun e=>by cases e;omega)];exact hy j (by omega)⟩
theorem D6z(h:GN (ouH Y eo E P3 V4 m7 m8) 2 a b x c)(hy:∀ j,c<=j->Y j=none)(he:∀ i,eo=some i->9<=i/\i<c/\Y i=none)(hi:c<i)(h4:9<=c):
  Sub (GM (ouH Y (some i) E' P3 V4 m7 m8) 2 a b mk x) (((delO ((GM (ouH Y eo E P3 V4 m7 m8) 2 a b mk x).upd c B4) eo).upd i ⟨4,true,cellsL (E'.map Ent.v)⟩).upd 8 (ouB (some i) E'.length P3 V4 m7 m8)):=by
 refine A4w ?_ (fun k hk=>?_) (fun k hk=>?_) (fun j Q hj hQ=>?_)
 ·rw[h_ne (by decide),hnO,B0 (fun k hk e=>by have:=he k hk;omega),hnO,W6 h]
 ·have q:=h.ha k hk;have g:=A1c q.2.2;rw[h_ne g.1,hnO,B0 (fun k' hk' e=>g.2.1 (by rw[e];exact hk')),hnO,A4x h hk]
 ·have q:=h.hb k hk;have g:=A1c q.2.2;rw[h_ne g.1,hnO,B0 (fun k' hk' e=>g.2.1 (by rw[e];exact hk')),hnO,A6h hk]
 ·by_cases e3:j=8
  ·subst e3;rw[B3j]at hQ;rw[h_same];exact hQ
  by_cases ei:j=i
  ·subst ei;rw[C3f e3]at hQ;rw[h_ne e3,h_same];exact hQ
  rw[T9 e3 (fun e=>ei (by cases e;rfl))]at hQ;have hjc:j<c:=A1T fun hc=>by rw[hy j hc]at hQ;cases hQ
  have hje:eo≠some j:=fun e=>by rw[(he j e).2.2]at hQ;cases hQ
  rw[h_ne e3,h_ne ei,B0 (fun k' hk' e=>hje (by rw[e];exact hk')),hnO];exact S0 h (by rw[T9 e3 hje];exact hQ) hj
end
theorem c_rcT(r:Ru)(hB:r.sz<4000000)(m t nb c:Nat)(md:Md)(Y:Hp)(a b eo:Option Nat)(P3 V4:DV)(m7 m8:Int)(Q:Exit->Go.Sym.St->Prop)(hmd:r.modes[m]? = some md)(hl:md.hds.length<=1000000)(ht:t<6)
  (hp3:P3.one=true) (hv4:V4.one=true)
  (hb:∀ h∈md.hds, ∀ y,CgB (F5 (nmR r) h.body y)->GC 158 (mkQ r) [D3 h.body] y (F5 (nmR r) h.body y) (.tup []))
  (hnb:Y nb=some ⟨1,true,md.hds.map fun h=>I64 (nmR r h.name)⟩) (hnb2:9<=nb) (hnbc:nb<c) (hyf:∀ j,c<=j->Y j=none) (hy2:Y 2=none)
  (hN:GN (ouH Y eo (enP (nmR r) (E0 (nmR r) 0 (r.modes.take m)++ptK (md.hds.map (hdK (nmR r) m)) (U5 m t 0))) P3 V4 m7 m8) 2 a b (cgP (nmR r) (E0 (nmR r) 0 (r.modes.take m)++ptK (md.hds.map (hdK (nmR r) m)) (U5 m t 0))) c)
  (heo:EoN Y eo c (enP (nmR r) (E0 (nmR r) 0 (r.modes.take m)++ptK (md.hds.map (hdK (nmR r) m)) (U5 m t 0))).length)
  (next:∀ a' b' eo' c',c<=c'->GN (ouH Y eo' (enP (nmR r) (E0 (nmR r) 0 (r.modes.take m)++ptK (md.hds.map (hdK (nmR r) m)) (U5 m (t+1) 0))) P3 V4 m7 m8) 2 a' b' (cgP (nmR r) (E0 (nmR r) 0 (r.modes.take m)++ptK (md.hds.map (hdK (nmR r) m)) (U5 m (t+1) 0))) c' ->
   EoN Y eo' c' (enP (nmR r) (E0 (nmR r) 0 (r.modes.take m)++ptK (md.hds.map (hdK (nmR r) m)) (U5 m (t+1) 0))).length ->
   ∀ T,C1 (B1a m md.hds nb++[(14,I64 ((t:Int)+1))]) T->Q .normal ⟨T,GM (ouH Y eo' (enP (nmR r) (E0 (nmR r) 0 (r.modes.take m)++ptK (md.hds.map (hdK (nmR r) m)) (U5 m (t+1) 0))) P3 V4 m7 m8) 2 a' b' (mkQ r) (cgP (nmR r) (E0 (nmR r) 0 (r.modes.take m)++ptK (md.hds.map (hdK (nmR r) m)) (U5 m (t+1) 0))),c'⟩) :
  IW Tryz.prog 184 (pz Tryz.prog 81 (.o (.i (.o (.o (.i (.o .h))))))) ⟨tm (B1a m md.hds nb++[(14,I64 ((t:Int)+1))]),GM (ouH Y eo (enP (nmR r) (E0 (nmR r) 0 (r.modes.take m)++ptK (md.hds.map (hdK (nmR r) m)) (U5 m t 0))) P3 V4 m7 m8) 2 a b (mkQ r) (cgP (nmR r) (E0 (nmR r) 0 (r.modes.take m)++ptK (md.hds.map (hdK (nmR r) m)) (U5 m t 0))),c⟩ Q:=by
 have hall:=D9c (nmR r) r.modes;have hpre:=fun n=>D6x (nm:=nmR r) hmd (C8i (i:=m) (n:=n) ht);have hszm:(r.modes.map Md.sz).sum<=r.sz:=by
  have h2:r.sz=(r.decls.map Dc.sz).sum+(r.modes.map Md.sz).sum:=rfl;omega
 obtain⟨F,hF⟩:∃ F:Nat->List C8,F=fun n=>E0 (nmR r) 0 (r.modes.take m)++ptK (md.hds.map (hdK (nmR r) m)) (U5 m t n):=⟨_,rfl⟩;have hF0:E0 (nmR r) 0 (r.modes.take m)++ptK (md.hds.map (hdK (nmR r) m)) (U5 m t 0)=F 0:=by rw[hF]
 have hFl:E0 (nmR r) 0 (r.modes.take m)++ptK (md.hds.map (hdK (nmR r) m)) (U5 m (t+1) 0)=F 128:=by rw[hF, <- C4d]
 have hFs:∀ n,n<128->F (n+1)=F n++(if bdR (nmR r) m md.hds (kyR m t n)=[] then [] else [(kyR m t n,bdR (nmR r) m md.hds (kyR m t n))]):=fun n hn=>by
  rw[hF];dsimp only;rw[C4c hn,C6m,A0P];rfl
 have hFb:∀ n,(cgP (nmR r) (F n)).1.length<=8000000/\(cgP (nmR r) (F n)).2.length<=8000000:=fun n=>by
  obtain⟨R,hR⟩:=hpre n;have:=D9b (nm:=nmR r) hR;rw[hF];exact⟨A1E this.1 (by omega),A1E this.2 (by omega)⟩
 rw[hF0]at hN heo ⊢;simp only[hFl]at next
 have hEl:∀ n,(enP (nmR r) (F n)).length<=8000000:=fun n=>by
  have h1:=(hFb n).1;have h2:(enP (nmR r) (F n)).length<=(cgP (nmR r) (F n)).1.length:=B7c _ _ _ _;omega
 have hK:=fun (n c:Nat) (X:Hp) (x:Cg) (a b:Option Nat) (A:Int) (Q:Exit->Go.Sym.St->Prop) (hn:n<128)=>c_rcK r md.hds m t n nb c X x a b A Q hl ht hn hb;clear hF hF0 hFl hpre hall;generalize nmR r=nm at *;repeat' (apply wr<;>try simp only[go_sem,seval])
 refine A9 (fun q:Nat × Option Nat × Option Nat × Option Nat=>[(1,.ptr 0 0),(2,.ptr 1 0),(7,.ptr 2 0),(8,.ptr 8 0),(10,I64 m),(11,K8 md.hds),(12,.slc nb 0 md.hds.length),(14,I64 ((t:Int)+1)),(15,I64 q.1)])
  (fun q=>GM (ouH Y q.2.2.2 (enP nm (F q.1)) P3 V4 m7 m8) 2 q.2.1 q.2.2.1 (mkQ r) (cgP nm (F q.1)))
  (fun q cc=>c<=cc/\q.1<=128/\GN (ouH Y q.2.2.2 (enP nm (F q.1)) P3 V4 m7 m8) 2 q.2.1 q.2.2.1 (cgP nm (F q.1)) cc/\EoN Y q.2.2.2 cc (enP nm (F q.1)).length) (fun q=>128-q.1) (0,a,b,eo)
  (by simp[C1,tm,Tm.upd]) (Sub.refl _) ⟨A0E _,A0O _,hN,heo⟩ ?_
 clear hN heo a b eo;rintro⟨n,a,b,eo⟩ cc ⟨hc,hn,hN,heo⟩;replace hn:n<=128:=hn;replace hc:c<=cc:=hc;dsimp only at hN heo ⊢;by_cases hlt:n<128
 rotate_left
 ·have hd:decide ((n:Int)<128)=false:=by simp;omega
  obtain rfl:n=128:=by omega
  repeat' (apply wr<;>try simp only[go_sem,seval])
  exact next a b eo cc hc hN heo _ (by simp[C1,tm,Tm.upd])
 have hd:decide ((n:Int)<128)=true:=by simp;omega
 have hw:=w64 (n:=(n:Int)+1);have hsn:=hFs n hlt;have hb1:=hFb n;have hb2:=hFb (n+1);have hel:=hEl n;have hbx:=B4i (nm:=nm) (bdR nm m md.hds (kyR m t n)).flatten (cgP nm (F n));have hM:=W6 (mk:=mkQ r) hN;have hla:=O0 (o:=a) (n:=(cgP nm (F n)).1.length) (fun e=>O6 (hN.an e));have hXnb:ouH Y eo (enP nm (F n)) P3 V4 m7 m8 nb=some ⟨1,true,md.hds.map fun h=>I64 (nm h.name)⟩:=by rw[T9 (by omega) (fun e=>by have:=(heo.lt _ e).2.2;rw[hnb]at this;cases this)];exact hnb
 have hcgB:CgB (F5 nm (bdR nm m md.hds (kyR m t n)).flatten (cgP nm (F n))):=by
  by_cases he:bdR nm m md.hds (kyR m t n)=[]
  ·rw[he];simp only[A2O,M2];exact⟨by omega,by omega⟩
  ·rw[if_neg he]at hsn;have h1:=(C2j nm (F n) (kyR m t n,bdR nm m md.hds (kyR m t n))).1;rw[<- hsn]at h1;have h1:cgP nm (F (n+1))=((F5 nm (bdR nm m md.hds (kyR m t n)).flatten (cgP nm (F n))).1++[⟨31,0⟩],(F5 nm (bdR nm m md.hds (kyR m t n)).flatten (cgP nm (F n))).2):=h1;rw[h1]at hb2;simp only[A0A]at hb2;exact⟨by omega,by omega⟩
 repeat' ((with_reducible first|refine H9 (p:=IW _ _ (pz Tryz.prog 81 (.o (.o (.o (.o (.o (.i .h))))))) _ _) ?_|refine wr ?_|fail)<;>try simp only[go_sem,seval,hd,hM,hla])
 refine IW.stage (L:=B1a m md.hds nb++[(14,I64 ((t:Int)+1)),(15,I64 n),(16,I64 (cgP nm (F n)).1.length),(17,.bool false)]) (by simp[C1,tm,Tm.upd]) (hK n cc _ _ a b _ _ hlt hN hXnb (by omega) hcgB ?_);intro a2 b2 c2 hc2 hN2;clear hN hM hla hXnb hK a b;generalize bdR nm m md.hds (kyR m t n)=bd at *;by_cases he:bd=[]
 ·subst he;rw[if_pos rfl,A0W]at hsn;simp only[A2O,M2]at hN2 ⊢;repeat' (apply wr<;>try simp only[go_sem,seval,List.isEmpty_nil,Bool.not_true,hw])
  refine⟨(n+1,a2,b2,eo),by simp[],by simp only[hsn];exact Sub.refl _,inv ⟨by omega,hlt,by simp only[hsn];exact hN2,by simp only[hsn];exact⟨fun i hi=>by have:=heo.lt i hi;exact⟨this.1,by omega,this.2.2⟩,heo.nil⟩⟩,by simp only;omega⟩
 rw[if_neg he]at hsn;have hne:(!bd.isEmpty)=true:=by simpa using he
 have hadd:=C2j nm (F n) (kyR m t n,bd);rw[<- hsn]at hadd;obtain⟨z,hz⟩:∃ z,z=F5 nm bd.flatten (cgP nm (F n)):=⟨_,rfl⟩;rw[<- hz]at hN2 hcgB ⊢;have hz1:cgP nm (F (n+1))=(z.1++[⟨31,0⟩],z.2):=by rw[hz];exact hadd.1
 have hE1:enP nm (F (n+1))=enP nm (F n)++[⟨m,(t:Int)+1,n,((cgP nm (F n)).1.length:Int)⟩]:=hadd.2;repeat' (apply wr<;>try simp only[go_sem,seval,hne])
 refine AC.call (c_emit34 _ _ 31 0 z (by have:=hcgB.1;omega) _ _ _ _ _ hN2) ?_;rintro _ _ c3 ⟨rfl,a3,b3,hN3,rfl⟩ hc3;rw[<- hz1]at hN3 ⊢;have hou:GM (ouH Y eo (enP nm (F n)) P3 V4 m7 m8) 2 a3 b3 (mkQ r) (cgP nm (F (n+1))) 8=some (ouB eo (enP nm (F n)).length P3 V4 m7 m8):=S0 hN3 B3j (by decide);have hoe:∀ i,eo=some i->GM (ouH Y eo (enP nm (F n)) P3 V4 m7 m8) 2 a3 b3 (mkQ r) (cgP nm (F (n+1))) i=some ⟨4,true,cellsL ((enP nm (F n)).map Ent.v)⟩:=fun i hi=>by
  have h:=heo.lt i hi;refine S0 hN3 ?_ (by omega);subst hi;exact C3f (by omega)
 have hfr:=fun j (hj:c3<=j)=>A7l (mk:=mkQ r) hN3 hj;obtain⟨E,hE⟩:∃ E,E=enP nm (F n):=⟨_,rfl⟩;obtain⟨A,hA⟩:∃ A:Nat,A=(cgP nm (F n)).1.length:=⟨_,rfl⟩;rw[<- hE]at hN3 hou hoe hfr heo hel hE1 ⊢;rw[<- hA]at hE1 ⊢;obtain⟨x,hx⟩:∃ x,x=cgP nm (F (n+1)):=⟨_,rfl⟩;rw[<- hx]at hN3 hou hoe hfr ⊢;obtain⟨HH,hHH⟩:∃ HH,HH=GM (ouH Y eo E P3 V4 m7 m8) 2 a3 b3 (mkQ r) x:=⟨_,rfl⟩;rw[<- hHH]at hou hoe hfr ⊢;have ne0:=R9 8 c3 (c3+1) (by omega);simp only[go_sem,seval];repeat' (apply wr<;>try simp only[go_sem,seval,hou,h_same])
 refine A0c (D5 (cs:=cellsL (E.map Ent.v)) (fun e=>⟨heo.nil e,by rw[A2K.1 (heo.nil e)];rfl⟩) (fun i hi=>?_) (B2k _) (by omega) (by omega) (by omega)) ?_
 ·have:=heo.lt i hi;rw[hnO];exact hoe i hi
 have dm:∀ X:Hp,delO X eo 8=X 8:=fun X=>B0 (fun i hi e=>by have:=heo.lt i hi;omega);simp only[go_sem,seval,dm,hou,ne0];repeat' (apply wr<;>try simp only[go_sem,seval,hw])
 refine⟨(n+1,a3,b3,some (c3+1)),by simp[],?_,inv ⟨by omega,hlt,?_,?_⟩,by simp only;omega⟩
 ·dsimp only;rw[<- hx,hE1,hHH];have g:=D6z (mk:=mkQ r) (E':=E++[⟨m,(t:Int)+1,n,(A:Int)⟩]) (i:=c3+1) (B4:=⟨4,true,[I64 m,I64 ((t:Int)+1),I64 n,I64 A]⟩) hN3 (fun j hj=>hyf j (by omega)) (fun i hi=>by have:=heo.lt i hi;exact⟨this.1,by omega,this.2.2⟩) (by omega) (by omega);rw[A0A,A0T,C4]at g;exact g
 ·dsimp only;rw[<- hx,hE1];exact E0u hN3 (fun j hj=>hyf j (by omega)) (by omega) (by omega)
 ·dsimp only;exact⟨fun i hi=>by cases hi;exact⟨by omega,by omega,hyf _ (by omega)⟩,fun e=>by cases e⟩
theorem D1f(q:List KB):ptK q []=[]:=rfl
theorem c_rcM(r:Ru)(hB:r.sz<4000000)(m nb c:Nat)(md:Md)(Y:Hp)(a b eo:Option Nat)(P3 V4:DV)(m7 m8:Int)(Q:Exit->Go.Sym.St->Prop)(hmd:r.modes[m]? = some md)(hl:md.hds.length<=1000000)
  (hp3:P3.one=true) (hv4:V4.one=true)
  (hb:∀ h∈md.hds, ∀ y,CgB (F5 (nmR r) h.body y)->GC 158 (mkQ r) [D3 h.body] y (F5 (nmR r) h.body y) (.tup []))
  (hnb:Y nb=some ⟨1,true,md.hds.map fun h=>I64 (nmR r h.name)⟩) (hnb2:9<=nb) (hnbc:nb<c) (hyf:∀ j,c<=j->Y j=none) (hy2:Y 2=none)
  (hN:GN (ouH Y eo (enP (nmR r) (E0 (nmR r) 0 (r.modes.take m))) P3 V4 m7 m8) 2 a b (cgP (nmR r) (E0 (nmR r) 0 (r.modes.take m))) c)
  (heo:EoN Y eo c (enP (nmR r) (E0 (nmR r) 0 (r.modes.take m))).length)
  (next:∀ a' b' eo' c',c<=c'->GN (ouH Y eo' (enP (nmR r) (E0 (nmR r) 0 (r.modes.take (m+1)))) P3 V4 m7 m8) 2 a' b' (cgP (nmR r) (E0 (nmR r) 0 (r.modes.take (m+1)))) c' ->
   EoN Y eo' c' (enP (nmR r) (E0 (nmR r) 0 (r.modes.take (m+1)))).length ->
   ∀ T,C1 [(1,.ptr 0 0),(2,.ptr 1 0),(7,.ptr 2 0),(8,.ptr 8 0),(10,I64 m)] T->Q .normal ⟨T,GM (ouH Y eo' (enP (nmR r) (E0 (nmR r) 0 (r.modes.take (m+1)))) P3 V4 m7 m8) 2 a' b' (mkQ r) (cgP (nmR r) (E0 (nmR r) 0 (r.modes.take (m+1)))),c'⟩) :
  IW Tryz.prog 184 (pz Tryz.prog 81 (.o (.i (.i (.o (.o (.o .h))))))) ⟨tm (B1a m md.hds nb),GM (ouH Y eo (enP (nmR r) (E0 (nmR r) 0 (r.modes.take m))) P3 V4 m7 m8) 2 a b (mkQ r) (cgP (nmR r) (E0 (nmR r) 0 (r.modes.take m))),c⟩ Q:=by
 have hT:=fun (t c:Nat) (a b eo:Option Nat) (Q:Exit->Go.Sym.St->Prop) (ht:t<6) (h1:nb<c) (h2:∀ j,c<=j->Y j=none)=>c_rcT r hB m t nb c md Y a b eo P3 V4 m7 m8 Q hmd hl ht hp3 hv4 hb hnb hnb2 h1 h2 hy2;obtain⟨F,hF⟩:∃ F:Nat->List C8,F=fun t=>E0 (nmR r) 0 (r.modes.take m)++ptK (md.hds.map (hdK (nmR r) m)) (U5 m t 0):=⟨_,rfl⟩;have hFt:∀ t,E0 (nmR r) 0 (r.modes.take m)++ptK (md.hds.map (hdK (nmR r) m)) (U5 m t 0)=F t:=fun t=>by rw[hF]
 have hF0:E0 (nmR r) 0 (r.modes.take m)=F 0:=by rw[hF];dsimp only;rw[C4b,D1f,A0W]
 have hF6:E0 (nmR r) 0 (r.modes.take (m+1))=F 6:=by rw[hF];dsimp only;rw[C4e,B1l _ hmd];rfl
 simp only[hFt]at hT;rw[hF0]at hN heo ⊢;simp only[hF6]at next
 clear hF hF0 hF6 hFt;generalize nmR r=nm at *;repeat' (apply wr<;>try simp only[go_sem,seval])
 refine A9 (fun q:Nat × Option Nat × Option Nat × Option Nat=>[(1,.ptr 0 0),(2,.ptr 1 0),(7,.ptr 2 0),(8,.ptr 8 0),(10,I64 m),(11,K8 md.hds),(12,.slc nb 0 md.hds.length),(14,I64 ((q.1:Int)+1))])
  (fun q=>GM (ouH Y q.2.2.2 (enP nm (F q.1)) P3 V4 m7 m8) 2 q.2.1 q.2.2.1 (mkQ r) (cgP nm (F q.1)))
  (fun q cc=>c<=cc/\q.1<=6/\GN (ouH Y q.2.2.2 (enP nm (F q.1)) P3 V4 m7 m8) 2 q.2.1 q.2.2.1 (cgP nm (F q.1)) cc/\EoN Y q.2.2.2 cc (enP nm (F q.1)).length) (fun q=>6-q.1) (0,a,b,eo)
  (by simp[C1,tm,Tm.upd]) (Sub.refl _) ⟨A0E _,A0O _,hN,heo⟩ ?_
 clear hN heo a b eo;rintro⟨t,a,b,eo⟩ cc ⟨hc,ht,hN,heo⟩;replace ht:t<=6:=ht;replace hc:c<=cc:=hc;dsimp only at hN heo ⊢;by_cases hlt:t<6
 rotate_left
 ·have hd:decide ((t:Int)+1<=6)=false:=by simp;omega
  obtain rfl:t=6:=by omega
  repeat' (apply wr<;>try simp only[go_sem,seval])
  exact next a b eo cc hc hN heo _ (by simp[C1,tm,Tm.upd])
 have hd:decide ((t:Int)+1<=6)=true:=by simp;omega
 have hw:=w64 (n:=(t:Int)+1+1);repeat' ((with_reducible first|refine H9 (p:=IW _ _ (pz Tryz.prog 81 (.o (.i (.o (.o (.i (.o .h))))))) _ _) ?_|refine wr ?_|fail)<;>try simp only[go_sem,seval,hd])
 refine IW.stage (L:=B1a m md.hds nb++[(14,I64 ((t:Int)+1))]) (by simp[C1,tm,Tm.upd]) (hT t cc a b eo _ hlt (by omega) (fun j hj=>hyf j (by omega)) hN heo ?_);intro a2 b2 eo2 c2 hc2 hN2 heo2 T hT2;refine IW.weaken (B9z hT2) (Sub.refl _) ?_;repeat' (apply wr<;>try simp only[go_sem,seval,hw])
 exact⟨(t+1,a2,b2,eo2),by simp[],Sub.refl _,inv ⟨by omega,hlt,hN2,heo2⟩,by simp only;omega⟩
theorem c_index34(r:Ru)(hB:r.sz<4000000)(hv:L1 r=true)(h:Hd)(hh:h.trig<3->nmR r h.name=0)(h1:1<=h.trig)(H:Hp)(c t:Nat)(I S:DV)(ht:H t=some ⟨0,true,[C3 r.decls,C7 r.modes,I,S]⟩)(htc:t<c)(hfr:∀ j,c<=j->H j=none):
  AC Tryz.prog 157 [.ptr t 0,h.v] H c (fun v H' c'=>v=I64 (nmR r h.name)/\H'=H):=by
 have hn:=fun H c ht htc=>c_number34 r hB hv h.name H c t I S ht htc;obtain⟨tr,na,bo,ps⟩:=h;dsimp only at hh h1 hn ⊢;generalize nmR r=nm at *;have gd:∀ B ds,GL (H.upd c B) ds H ds:=fun B ds=>GL.less' fun j B hj=>by rw[h_ne (by rintro rfl;rw[hfr _ (A0E _)]at hj;cases hj)];exact hj
 have htn:¬ t=c:=by omega
 refine AC.bodyT A2 rfl (A0D rfl) fun hfr=>?_;by_cases e1:tr=1
 ·have:=hh (by omega);repeat' (apply wr<;>try simp only[go_sem,seval,h_same,e1,this])
  exact⟨_,_,gd _ _,rfl,rfl⟩
 have e1':(tr == 1)=false:=by simpa using e1
 by_cases e2:tr=2
 ·have:=hh (by omega);repeat' (apply wr<;>try simp only[go_sem,seval,h_same,e2,this])
  exact⟨_,_,gd _ _,rfl,rfl⟩
 have e2':(tr == 2)=false:=by simpa using e2
 repeat' (apply wr<;>try simp only[go_sem,seval,h_same,e1',e2'])
 refine AC.call (hn _ _ (by rw[h_ne htn];exact ht) (by omega)) ?_;rintro _ _ c2 ⟨rfl,rfl⟩ hc2;simp only[go_sem,seval];repeat' (apply wr<;>try simp only[go_sem,seval])
 exact⟨_,_,gd _ _,rfl,rfl⟩
def nuC(nm:List UInt8->Int)(l:List Hd)(j:Nat):List DV:=(l.take j).map (fun h=>I64 (nm h.name))++List.replicate (l.length-j) (I64 0)
theorem C7b(nm:List UInt8->Int)(l:List Hd):nuC nm l 0=List.replicate l.length (I64 0):=by simp[nuC]
theorem C7c(nm:List UInt8->Int)(l:List Hd):nuC nm l l.length=l.map fun h=>I64 (nm h.name):=by simp[nuC]
theorem D1m(nm:List UInt8->Int)(l:List Hd){j:Nat}(h:j<=l.length):(nuC nm l j).length=l.length:=by simp[nuC];omega
theorem D1l(nm:List UInt8->Int){l:List Hd}{j:Nat}{h:Hd}(hj:l[j]? = some h):(nuC nm l j).take j++(I64 (nm h.name)).cells++(nuC nm l j).drop (j+1)=nuC nm l (j+1):=by
 have hl:=(A0J.1 hj).1;have e:(l.take j).length=j:=by rw[A1B];omega
 obtain⟨d,hd⟩:∃ d,l.length-j=d+1:=⟨l.length-j-1,by omega⟩;unfold nuC;rw[List.take_append_of_le_length (by simp;omega),A0M (by rw[A0C,e];exact A0E _),List.drop_append,A0C,e,A1Q (by simp;omega),hd,A0S,hj,show j+1-j=1 by omega,A3Y,show l.length-(j+1)=d by omega,A0T];simp[DV.cells]
theorem A9i{Y:Hp}{eo:Option Nat}{E:List Ent}{P3 V4:DV}{m7 m8:Int}{j:Nat}{B:Blk}(h3:j≠8)(he:eo≠some j):(ouH Y eo E P3 V4 m7 m8).upd j B=ouH (Y.upd j B) eo E P3 V4 m7 m8:=by
 funext i
 by_cases e:i=j
 ·subst e;rw[h_same,T9 h3 he,h_same]
 ·rw[h_ne e];unfold ouH;by_cases e3:i=8
  ·subst e3;rw[h_same,h_same]
  ·rw[h_ne e3,h_ne e3];cases eo with
   |none=>simp only[optH];rw[h_ne e]
   |some k =>
    simp only[optH];by_cases ek:i=k
    ·subst ek;rw[h_same,h_same]
    ·rw[h_ne ek,h_ne ek,h_ne e]
theorem c_rcF(r:Ru)(hB:r.sz<4000000)(hv:L1 r=true)(m nb c:Nat)(md:Md)(Y:Hp)(a b eo:Option Nat)(P3 V4:DV)(m7 m8:Int)(Q:Exit->Go.Sym.St->Prop)(hmd:r.modes[m]? = some md)(hl:md.hds.length<=1000000)
  (hp3:P3.one=true) (hv4:V4.one=true) (hh:∀ h∈md.hds,1<=h.trig/\(h.trig<3->nmR r h.name=0))
  (hb:∀ h∈md.hds, ∀ y,CgB (F5 (nmR r) h.body y)->GC 158 (mkQ r) [D3 h.body] y (F5 (nmR r) h.body y) (.tup []))
  (hnb:Y nb=none) (hnb2:9<=nb) (hnbc:nb<c) (hyf:∀ j,c<=j->Y j=none) (hy2:Y 2=none)
  (hN:GN (ouH (Y.upd nb ⟨1,true,List.replicate md.hds.length (I64 0)⟩) eo (enP (nmR r) (E0 (nmR r) 0 (r.modes.take m))) P3 V4 m7 m8) 2 a b (cgP (nmR r) (E0 (nmR r) 0 (r.modes.take m))) c)
  (heo:EoN (Y.upd nb ⟨1,true,List.replicate md.hds.length (I64 0)⟩) eo c (enP (nmR r) (E0 (nmR r) 0 (r.modes.take m))).length)
  (next:∀ B a' b' eo' c',c<=c'->GN (ouH (Y.upd nb B) eo' (enP (nmR r) (E0 (nmR r) 0 (r.modes.take (m+1)))) P3 V4 m7 m8) 2 a' b' (cgP (nmR r) (E0 (nmR r) 0 (r.modes.take (m+1)))) c' ->
   EoN (Y.upd nb B) eo' c' (enP (nmR r) (E0 (nmR r) 0 (r.modes.take (m+1)))).length ->
   ∀ T,C1 [(1,.ptr 0 0),(2,.ptr 1 0),(7,.ptr 2 0),(8,.ptr 8 0),(10,I64 m)] T->Q .normal ⟨T,GM (ouH (Y.upd nb B) eo' (enP (nmR r) (E0 (nmR r) 0 (r.modes.take (m+1)))) P3 V4 m7 m8) 2 a' b' (mkQ r) (cgP (nmR r) (E0 (nmR r) 0 (r.modes.take (m+1)))),c'⟩) :
  IW Tryz.prog 184 (pz Tryz.prog 81 (.i (.i (.i (.o (.i .h)))))) ⟨tm (B1a m md.hds nb),GM (ouH (Y.upd nb ⟨1,true,List.replicate md.hds.length (I64 0)⟩) eo (enP (nmR r) (E0 (nmR r) 0 (r.modes.take m))) P3 V4 m7 m8) 2 a b (mkQ r) (cgP (nmR r) (E0 (nmR r) 0 (r.modes.take m))),c⟩ Q:=by
 have hM:=fun (c:Nat) (a b eo:Option Nat) (Q:Exit->Go.Sym.St->Prop) (h1:nb<c) (h2:∀ j,c<=j->Y j=none) hN heo=>c_rcM r hB m nb c md (Y.upd nb ⟨1,true,md.hds.map fun h=>I64 (nmR r h.name)⟩) a b eo P3 V4 m7 m8 Q hmd hl hp3 hv4 hb h_same hnb2 h1 (fun j hj=>by rw[hnO];exact h2 j hj) (by rw[hnO];exact hy2) hN heo;have hi:=fun h hm H c t I S ht htc hfr=>c_index34 r hB hv h (hh h hm).2 (hh h hm).1 H c t I S ht htc hfr;clear hh hb;rw[<- C7b (nmR r)]at hN heo ⊢;obtain⟨E,hE⟩:∃ E,E=enP (nmR r) (E0 (nmR r) 0 (r.modes.take m)):=⟨_,rfl⟩;obtain⟨x,hx⟩:∃ x,x=cgP (nmR r) (E0 (nmR r) 0 (r.modes.take m)):=⟨_,rfl⟩;rw[<- hE, <- hx]at hN ⊢;rw[<- hE]at heo;simp only[<- hE, <- hx]at hM;have next:=fun a' b' eo' c' h1 h2 h3=>next ⟨1,true,md.hds.map fun h=>I64 (nmR r h.name)⟩ a' b' eo' c' h1 h2 h3
 generalize cgP (nmR r) (E0 (nmR r) 0 (r.modes.take (m+1)))=x2 at *;generalize enP (nmR r) (E0 (nmR r) 0 (r.modes.take (m+1)))=E2 at *;clear hE hx;generalize nmR r=nm at *;repeat' (apply wr<;>try simp only[go_sem,seval])
 refine A9 (fun j:Nat=>[(1,.ptr 0 0),(2,.ptr 1 0),(7,.ptr 2 0),(8,.ptr 8 0),(10,I64 m),(11,K8 md.hds),(12,.slc nb 0 md.hds.length),(13,I64 j)])
  (fun j=>GM (ouH (Y.upd nb ⟨1,true,nuC nm md.hds j⟩) eo E P3 V4 m7 m8) 2 a b (mkQ r) x)
  (fun j cc=>c<=cc/\j<=md.hds.length/\GN (ouH (Y.upd nb ⟨1,true,nuC nm md.hds j⟩) eo E P3 V4 m7 m8) 2 a b x cc/\EoN (Y.upd nb ⟨1,true,nuC nm md.hds j⟩) eo cc E.length) (fun j=>md.hds.length-j) 0
  (by simp[C1,tm,Tm.upd]) (Sub.refl _) ⟨A0E _,A0O _,hN,heo⟩ ?_
 clear hN heo;rintro j cc ⟨hc,hj,hN,heo⟩;by_cases hlt:j<md.hds.length
 rotate_left
 ·have hd:=dfz hlt;obtain rfl:j=md.hds.length:=by omega
  rw[C7c]at hN heo ⊢;repeat' ((with_reducible first|refine H9 (p:=IW _ _ (pz Tryz.prog 81 (.o (.i (.i (.o (.o (.o .h))))))) _ _) ?_|refine wr ?_|fail)<;>try simp only[go_sem,seval,hd,A0C])
  exact IW.stage (L:=B1a m md.hds nb) (by simp[C1,tm,Tm.upd]) (hM cc a b eo _ (by omega) (fun j hj=>hyf j (by omega)) hN heo fun a' b' eo' c' h1=>next a' b' eo' c' (by omega))
 have hd:=dtz hlt;have hg:=A0B hlt;have hw:=w64 (n:=(j:Int)+1);have hi:=fun H c t I S=>hi _ (A0L hlt) H c t I S;have hput:=D1l nm hg;have hgh:(md.hds.map Hd.v)[j]? = some md.hds[j].v:=by rw[A1N,hg];rfl
 have hnl:=D1m nm md.hds hj;generalize md.hds[j]=h at hg hi hput hgh;have hia:A0p 1 (.slc nb 0 md.hds.length) (I64 (j:Int))=some (.ptr nb j):=by simp[A0p];omega
 have hMt:=W6 (mk:=mkQ r) hN;have hXn:ouH (Y.upd nb ⟨1,true,nuC nm md.hds j⟩) eo E P3 V4 m7 m8 nb=some ⟨1,true,nuC nm md.hds j⟩:=by rw[T9 (by omega) (fun e=>by have:=(heo.lt _ e).2.2;rw[h_same]at this;cases this)];exact h_same
 have hMn:=S0 (mk:=mkQ r) hN hXn (by omega);have hfr:=fun j (hj:cc<=j)=>A7l (mk:=mkQ r) hN hj;have hen:eo≠some nb:=fun e=>by have:=(heo.lt _ e).2.2;rw[h_same]at this;cases this
 have han:a≠some nb:=fun e=>by have:=(hN.ha _ e).2.2;rw[hXn]at this;cases this
 have hbn:b≠some nb:=fun e=>by have:=(hN.hb _ e).2.2;rw[hXn]at this;cases this
 have hup:∀ B,(GM (ouH (Y.upd nb ⟨1,true,nuC nm md.hds j⟩) eo E P3 V4 m7 m8) 2 a b (mkQ r) x).upd nb B=GM (ouH (Y.upd nb B) eo E P3 V4 m7 m8) 2 a b (mkQ r) x:=fun B=>by
  rw[D0k (by omega) han hbn,A9i (by omega) hen,A5]
 repeat' (apply wr<;>try simp only[go_sem,seval,hd,hgh,A0C])
 refine AC.call (hi _ _ _ _ _ hMt (by omega) hfr) ?_;rintro _ _ c2 ⟨rfl,rfl⟩ hc2;simp only[go_sem,seval,hia,hMn];refine A0c ((A6e (i:=1) rfl (by omega) rfl).trans (by rw[hput,hup])) ?_;simp only[go_sem,seval];repeat' (apply wr<;>try simp only[go_sem,seval,hw])
 have hN2:=hN.le hc2;refine⟨j+1,by simp[],Sub.refl _,inv ⟨by omega,hlt,?_,?_⟩,by omega⟩
 ·refine⟨hN2.tc,fun i hi=>?_,fun i hi=>?_,hN2.ne,hN2.an,hN2.bn,fun i hi=>?_⟩
  ·have q:=hN2.ha i hi;have g:=A1c q.2.2;exact⟨q.1,q.2.1,by rw[T9 g.1 g.2.1,h_ne (fun e=>han (by rw[hi,e]))];have:=g.2.2;rwa [h_ne (fun e=>han (by rw[hi,e]))]at this⟩
  ·have q:=hN2.hb i hi;have g:=A1c q.2.2;exact⟨q.1,q.2.1,by rw[T9 g.1 g.2.1,h_ne (fun e=>hbn (by rw[hi,e]))];have:=g.2.2;rwa [h_ne (fun e=>hbn (by rw[hi,e]))]at this⟩
  ·rw[T9 (by omega) (fun e=>by have:=heo.lt i e;omega),hnO];exact hyf i (by omega)
 ·exact⟨fun i hi=>by have q:=heo.lt i hi;have e:i≠nb:=fun e=>hen (by rw[hi,e]);exact⟨q.1,by omega,by rw[h_ne e];have:=q.2.2;rwa [h_ne e]at this⟩,heo.nil⟩
def prC(M:List Md):List DV:=M.map fun m=>I64 m.prio
theorem C0v(M:List Md):(prC M).length=M.length:=by unfold prC;rw[A0C]
section
variable {X0:Hp} {eo a b po:Option Nat} {E:List Ent} {P3 P4 V4:DV} {m7 m8:Int} {i i0 k c:Nat} {B1 B2 B3:Blk} {x:Cg} {mk:DV->DV->List DV}
theorem Z6(h:ouH (optH X0 po B1) eo E P3 V4 m7 m8 k=none):k≠8/\eo≠some k/\po≠some k/\X0 k=none:=by
 have g:=A1c h;have hp:po≠some k:=by rintro rfl;have:=g.2.2;simp only[optH]at this;rw[h_same]at this;cases this
 exact⟨g.1,g.2.1,hp,by have:=g.2.2;rwa [B7 (fun i hi e=>hp (by rw[e];exact hi))]at this⟩
theorem E0t(h:GN (ouH (optH X0 po B1) eo E P3 V4 m7 m8) 2 a b x c)(xf:∀ j,2<=j->X0 j=none)(he:∀ i,eo=some i->9<=i/\i<c)(hi:c<=i)(h4:9<=c):GN (ouH (optH X0 (some i) B2) eo E P4 V4 m7 m8) 2 a b x (i+1) :=
 ⟨by omega,fun k hk=>by
  have:=h.ha k hk;have g:=Z6 this.2.2;exact⟨this.1,by omega,by rw[T9 g.1 g.2.1];simp only[optH];rw[hnO];exact g.2.2.2⟩,fun k hk=>by
  have:=h.hb k hk;have g:=Z6 this.2.2;exact⟨this.1,by omega,by rw[T9 g.1 g.2.1];simp only[optH];rw[hnO];exact g.2.2.2⟩,h.ne,h.an,h.bn,fun j hj=>by
  rw[T9 (by omega) (fun e=>by have:=he _ e;omega)];simp only[optH];rw[hnO];exact xf j (by omega)⟩
theorem D6y(h:GN (ouH (optH X0 po B1) eo E P3 V4 m7 m8) 2 a b x c)(xf:∀ j,2<=j->X0 j=none)(hp:∀ i,po=some i->9<=i/\i<c)(he:∀ i,eo=some i->9<=i/\i<c/\optH X0 po B1 i=none)(h0:c<=i0)(hi:i0<i)(h4:9<=c):
  Sub (GM (ouH (optH X0 (some i) B2) eo E P4 V4 m7 m8) 2 a b mk x) (((delO ((GM (ouH (optH X0 po B1) eo E P3 V4 m7 m8) 2 a b mk x).upd i0 B3) po).upd i B2).upd 8 (ouB eo E.length P4 V4 m7 m8)):=by
 refine A4w ?_ (fun k hk=>?_) (fun k hk=>?_) (fun j Q hj hQ=>?_)
 ·rw[h_ne (by decide),hnO,B0 (fun k hk e=>by have:=hp k hk;omega),hnO,W6 h]
 ·have q:=h.ha k hk;have g:=Z6 q.2.2;rw[h_ne g.1,hnO,B0 (fun k' hk' e=>g.2.2.1 (by rw[e];exact hk')),hnO,A4x h hk]
 ·have q:=h.hb k hk;have g:=Z6 q.2.2;rw[h_ne g.1,hnO,B0 (fun k' hk' e=>g.2.2.1 (by rw[e];exact hk')),hnO,A6h hk]
 ·by_cases e3:j=8
  ·subst e3;rw[B3j]at hQ;rw[h_same];exact hQ
  by_cases ee:eo=some j
  ·have:=he j ee;subst ee;rw[C3f e3]at hQ;rw[h_ne e3,hnO,B0 (fun k' hk' e=>by
    have h2:=this.2.2;subst e hk';simp only[optH]at h2;rw[h_same]at h2;cases h2),hnO]
   exact S0 h (by rw[C3f e3];exact hQ) hj
  rw[T9 e3 ee]at hQ;simp only[optH]at hQ;by_cases ei:j=i
  ·subst ei;rw[h_same]at hQ;rw[h_ne e3,h_same];exact hQ
  rw[h_ne ei]at hQ;have hj2:j<2:=A1T fun hc=>by rw[xf j hc]at hQ;cases hQ
  have hjp:po≠some j:=fun e=>by have:=hp j e;omega
  rw[h_ne e3,h_ne ei,B0 (fun k' hk' e=>hjp (by rw[e];exact hk')),hnO];exact S0 h (by rw[T9 e3 ee,B7 (fun k' hk' e=>hjp (by rw[e];exact hk'))];exact hQ) hj
end
theorem c_rcG(r:Ru)(hB:r.sz<4000000)(hv:L1 r=true)(c:Nat)(X0:Hp)(V4:DV)(m7 m8:Int)(Q:Exit->Go.Sym.St->Prop)(hml:r.modes.length<=1000000)(hl:∀ md∈r.modes,md.hds.length<=1000000)
  (hv4:V4.one=true) (hh:∀ md∈r.modes, ∀ h∈md.hds,1<=h.trig/\(h.trig<3->nmR r h.name=0))
  (hb:∀ md∈r.modes, ∀ h∈md.hds, ∀ y,CgB (F5 (nmR r) h.body y)->GC 158 (mkQ r) [D3 h.body] y (F5 (nmR r) h.body y) (.tup []))
  (x0:X0 0=some ⟨0,true,[C3 r.decls,C7 r.modes]⟩) (xf:∀ j,2<=j->X0 j=none) (hc4:9<=c)
  (next:∀ a b eo po c',GN (ouH (optH X0 po ⟨1,true,prC r.modes⟩) eo (enP (nmR r) (E0 (nmR r) 0 r.modes)) (todoV po r.modes.length) V4 m7 m8) 2 a b (cgP (nmR r) (E0 (nmR r) 0 r.modes)) c' ->
   EoN (optH X0 po ⟨1,true,prC r.modes⟩) eo c' (enP (nmR r) (E0 (nmR r) 0 r.modes)).length->(∀ i,po=some i->9<=i)->(po=none->r.modes=[]) ->
   IW Tryz.prog 184 (pz Tryz.prog 81 (.i (.i (.i (.i (.i (.i .h))))))) ⟨tm [(2,.ptr 1 0),(7,.ptr 2 0),(8,.ptr 8 0)],GM (ouH (optH X0 po ⟨1,true,prC r.modes⟩) eo (enP (nmR r) (E0 (nmR r) 0 r.modes)) (todoV po r.modes.length) V4 m7 m8) 2 a b (mkQ r) (cgP (nmR r) (E0 (nmR r) 0 r.modes)),c'⟩ Q) :
  IW Tryz.prog 184 (pz Tryz.prog 81 (.o (.o (.i (.o (.o .h)))))) ⟨tm [(1,.ptr 0 0),(2,.ptr 1 0),(7,.ptr 2 0),(8,.ptr 8 0)],GM (ouH X0 none [] .snil V4 m7 m8) 2 none none (mkQ r) ([],[]),c⟩ Q:=by
 have hF:=fun (m nb c:Nat) (md:Md) (Y:Hp) (a b eo:Option Nat) (P3:DV) (Q:Exit->Go.Sym.St->Prop) (hmd:r.modes[m]? = some md) (hp3:P3.one=true)=>c_rcF r hB hv m nb c md Y a b eo P3 V4 m7 m8 Q hmd (hl md (A0U hmd)) hp3 hv4 (hh md (A0U hmd)) (hb md (A0U hmd));obtain⟨F,hFe⟩:∃ F:Nat->List C8,F=fun m=>E0 (nmR r) 0 (r.modes.take m):=⟨_,rfl⟩;have hFt:∀ m,E0 (nmR r) 0 (r.modes.take m)=F m:=fun m=>by rw[hFe]
 have hFl:E0 (nmR r) 0 r.modes=F r.modes.length:=by rw[hFe];dsimp only;rw[A1P]
 have e0:cgP (nmR r) (F 0)=([],[]):=by rw[hFe];rfl
 have e1:enP (nmR r) (F 0)=[]:=by rw[hFe];rfl
 simp only[hFt]at hF;rw[hFl]at next
 have hl2:=hl;clear hFe hFt hFl hh hb hl;generalize nmR r=nm at *;repeat' (apply wr<;>try simp only[go_sem,seval])
 refine A9 (fun q:Nat × Option Nat × Option Nat × Option Nat × Option Nat=>[(1,.ptr 0 0),(2,.ptr 1 0),(7,.ptr 2 0),(8,.ptr 8 0),(10,I64 q.1)])
  (fun q=>GM (ouH (optH X0 q.2.2.2.2 ⟨1,true,prC (r.modes.take q.1)⟩) q.2.2.2.1 (enP nm (F q.1)) (todoV q.2.2.2.2 q.1) V4 m7 m8) 2 q.2.1 q.2.2.1 (mkQ r) (cgP nm (F q.1)))
  (fun q cc=>c<=cc/\q.1<=r.modes.length/\GN (ouH (optH X0 q.2.2.2.2 ⟨1,true,prC (r.modes.take q.1)⟩) q.2.2.2.1 (enP nm (F q.1)) (todoV q.2.2.2.2 q.1) V4 m7 m8) 2 q.2.1 q.2.2.1 (cgP nm (F q.1)) cc/\EoN (optH X0 q.2.2.2.2 ⟨1,true,prC (r.modes.take q.1)⟩) q.2.2.2.1 cc (enP nm (F q.1)).length /\
   (∀ i,q.2.2.2.2=some i->9<=i/\i<cc)/\(q.2.2.2.2=none->q.1=0)) (fun q=>r.modes.length-q.1) (0,none,none,none,none)
  (by simp[C1,tm,Tm.upd]) (by simp only[optH,e0,e1];exact Sub.refl _) ⟨A0E _,A0O _,by
   simp only[optH,e0,e1];exact⟨by omega,fun i h=>(by cases h),fun i h=>(by cases h),fun i j h=>(by cases h),fun _=>rfl,fun _=>rfl,fun j hj=>by rw[T9 (by omega) (fun e=>by cases e)];exact xf j (by omega)⟩,by
   rw[e1];exact⟨fun i h=>(by cases h),fun _=>rfl⟩,fun i h=>(by cases h),fun _=>rfl⟩ ?_
 clear e0 e1;rintro⟨m,a,b,eo,po⟩ cc ⟨hc,hm,hN,heo,hpo,hpn⟩;replace hm:m<=r.modes.length:=hm;replace hc:c<=cc:=hc;replace hpo:∀ i,po=some i->9<=i/\i<cc:=hpo;replace hpn:po=none->m=0:=hpn;dsimp only at hN heo ⊢;have hX0:ouH (optH X0 po ⟨1,true,prC (r.modes.take m)⟩) eo (enP nm (F m)) (todoV po m) V4 m7 m8 0=some ⟨0,true,[C3 r.decls,C7 r.modes]⟩:=by
  rw[T9 (by decide) (fun e=>by have:=(heo.lt _ e).1;omega),B7 (fun i hi e=>by have:=(hpo i hi).1;omega)];exact x0
 have hM0:=S0 (mk:=mkQ r) hN hX0 (by decide);by_cases hlt:m<r.modes.length
 rotate_left
 ·have hd:=dfz hlt;obtain rfl:m=r.modes.length:=by omega
  rw[A1P]at hN heo hM0 ⊢;repeat' ((with_reducible first|refine H9 (p:=IW _ _ (pz Tryz.prog 81 (.i (.i (.i (.i (.i (.i .h))))))) _ _) ?_|refine wr ?_|fail)<;>try simp only[go_sem,seval,hd,hM0,A0C])
  exact IW.stage (by simp[C1,tm,Tm.upd]) (next a b eo po cc hN heo (fun i hi=>(hpo i hi).1) (fun e=>A2K.1 (hpn e)))
 have hd:=dtz hlt;have hg:=A0B hlt;have hw:=w64 (n:=(m:Int)+1);have hgm:(r.modes.map Md.v)[m]? = some r.modes[m].v:=by rw[A1N,hg];rfl
 generalize r.modes[m]=md at hg hgm;have hF:=fun (nb c:Nat) (Y:Hp) (a b eo:Option Nat) (P3:DV) (Q:Exit->Go.Sym.St->Prop) (hp3:P3.one=true)=>hF m nb c md Y a b eo P3 Q hg hp3;have hM3:=S0 (mk:=mkQ r) hN B3j (by decide);obtain⟨HH,hHH⟩:∃ HH,HH=GM (ouH (optH X0 po ⟨1,true,prC (r.modes.take m)⟩) eo (enP nm (F m)) (todoV po m) V4 m7 m8) 2 a b (mkQ r) (cgP nm (F m)):=⟨_,rfl⟩;have hfr:=fun j (hj:cc<=j)=>A7l (mk:=mkQ r) hN hj;have hpb:∀ i,po=some i->HH i=some ⟨1,true,prC (r.modes.take m)⟩:=fun i hi=>by
  rw[hHH];have q:=hpo i hi;refine S0 hN ?_ (by omega);subst hi;rw[T9 (by omega) (fun e=>by have:=(heo.lt _ e).2.2;simp only[optH]at this;rw[h_same]at this;cases this)];exact h_same
 rw[<- hHH]at hM0 hM3 hfr ⊢;have ne0:=R9 8 0 cc (by omega);repeat' (apply wr<;>try simp only[go_sem,seval,hd,hM0,hM3,hgm,A0C])
 refine A0c (D5 (cs:=prC (r.modes.take m)) (fun e=>⟨hpn e,by rw[hpn e];rfl⟩) (fun i hi=>by rw[h_ne (by have:=hpo i hi;omega)];exact hpb i hi) (by rw[C0v,A1B];omega) (by omega) (by omega) (by omega)) ?_;have dm3:∀ X:Hp,delO X po 8=X 8:=fun X=>B0 (fun i hi e=>by have:=hpo i hi;omega);have ne8:¬ 8=cc+8:=by omega
 have ne12:¬ 8=cc+12:=by omega
 simp only[go_sem,seval,dm3,hM3,ne8,ne12];have hsn:prC (r.modes.take (m+1))=prC (r.modes.take m)++[I64 md.prio]:=by unfold prC;rw[A0S,hg,A0T];rfl
 obtain⟨i',hi'⟩:∃ i',i'=cc+12:=⟨_,rfl⟩;have gz:∀ ds,GL (((delO (HH.upd (cc+8) ⟨1,true,[I64 md.prio]⟩) po).upd (cc+12) ⟨1,true,prC (r.modes.take m)++[I64 md.prio]⟩).upd 8 ⟨0,true,[.snil,.snil,todoV eo (enP nm (F m)).length,.slc (cc+12) 0 (m+1),V4,I64 m7,I64 m8]⟩) ds
   (GM (ouH (optH X0 (some i') ⟨1,true,prC (r.modes.take (m+1))⟩) eo (enP nm (F m)) (todoV (some i') (m+1)) V4 m7 m8) 2 a b (mkQ r) (cgP nm (F m))) ds:=fun ds=>GL.less' (by
    rw[hsn,hHH,hi'];exact D6y hN xf hpo heo.lt (by omega) (by omega) (by omega))
 refine IW.keep [1,2,7,8,10] [.ptr 0 0,.ptr 1 0,.ptr 2 0,.ptr 8 0,I64 m] (gz _) ?_;show IW Tryz.prog _ _ ⟨tm [(1,.ptr 0 0),(2,.ptr 1 0),(7,.ptr 2 0),(8,.ptr 8 0),(10,I64 m)],_,_⟩ _;have hN1:=E0t (B2:=⟨1,true,prC (r.modes.take (m+1))⟩) (P4:=todoV (some i') (m+1)) (i:=i') hN xf (fun i hi=>by have:=heo.lt i hi;exact⟨this.1,this.2.1⟩) (by omega) (by omega);have heo1:EoN (optH X0 (some i') ⟨1,true,prC (r.modes.take (m+1))⟩) eo (i'+1) (enP nm (F m)).length:=⟨fun i hi=>by
  have q:=heo.lt i hi;exact⟨q.1,by omega,by simp only[optH];rw[hnO];exact xf i (by omega)⟩,heo.nil⟩
 have hY2:(optH X0 (some i') ⟨1,true,prC (r.modes.take (m+1))⟩) 2=none:=by simp only[optH];rw[hnO];exact xf 2 (by omega)
 have hYf:∀ j,i'+1<=j->(optH X0 (some i') ⟨1,true,prC (r.modes.take (m+1))⟩) j=none:=fun j hj=>by simp only[optH];rw[hnO];exact xf j (by omega)
 have hY0:ouH (optH X0 (some i') ⟨1,true,prC (r.modes.take (m+1))⟩) eo (enP nm (F m)) (todoV (some i') (m+1)) V4 m7 m8 0=some ⟨0,true,[C3 r.decls,C7 r.modes]⟩:=by
  rw[T9 (by decide) (fun e=>by have:=(heo.lt _ e).1;omega)];simp only[optH];rw[hnO];exact x0
 clear hM0;have hM0:=S0 (mk:=mkQ r) hN1 hY0 (by decide);have hp3:(todoV (some i') (m+1)).one=true:=rfl;clear gz dm3 hM3 hpb hfr hN heo hX0;generalize hY:(optH X0 (some i') ⟨1,true,prC (r.modes.take (m+1))⟩)=Y at *;generalize hP3:todoV (some i') (m+1)=P3 at *;have hln:=hl2 md (A0U hg);have hms:C3m 1 8 [DV.int .i64 0] (.int .i64 (md.hds.length:Int)) (.int .i64 (md.hds.length:Int))=some (some md.hds.length,⟨1,true,List.replicate md.hds.length (I64 0)⟩):=by rw[<- B1v];exact D3s (by omega) (by omega) rfl rfl
 have hyn:Y (i'+1)=none:=hYf _ (A0E _);have hen:eo≠some (i'+1):=fun e=>by have:=(heo1.lt _ e).2.1;omega
 have hcm:=hN1.com (mk:=mkQ r) (B:=⟨1,true,List.replicate md.hds.length (I64 0)⟩) (A0E _);rw[A9i (by omega) hen]at hcm;have hN2:=hN1.box (c':=i'+2) (B:=⟨1,true,List.replicate md.hds.length (I64 0)⟩) (A0E _) (by omega);rw[A9i (by omega) hen]at hN2;rw[<- hi'];repeat' ((with_reducible first|refine H9 (p:=IW _ _ (pz Tryz.prog 81 (.i (.i (.i (.o (.i .h)))))) _ _) ?_|refine wr ?_|fail)<;>try simp only[go_sem,seval,hM0,hgm,hms,hcm,A0C])
 refine IW.stage (L:=B1a m md.hds (i'+1)) (by simp[C1,tm,Tm.upd]) (hF (i'+1) (i'+2) Y a b eo P3 _ hp3 hyn (by omega) (by omega) (fun j hj=>hYf j (by omega)) hY2 hN2 ⟨fun i hi=>by have q:=heo1.lt i hi;exact⟨q.1,by omega,by rw[hnO];exact q.2.2⟩,heo1.nil⟩ ?_);intro B a2 b2 eo2 c2 hc2 hN3 heo3 T hT;refine IW.weaken (B9z hT) (Sub.refl _) ?_;repeat' (apply wr<;>try simp only[go_sem,seval,hw])
 have hen3:eo2≠some (i'+1):=fun e=>by have:=(heo3.lt _ e).2.2;rw[h_same]at this;cases this
 rw[<- A9i (by omega) hen3]at hN3;have hon:ouH Y eo2 (enP nm (F (m+1))) P3 V4 m7 m8 (i'+1)=none:=by rw[T9 (by omega) hen3];exact hyn
 have hdr:=J0 (mk:=mkQ r) hon (by omega) hN3;rw[A9i (by omega) hen3]at hdr;have hun:=hN3.unbox hon (A0E _) (fun j hj=>by
  by_cases e:eo2=some j
  ·have:=(heo3.lt _ e).2.1;omega
  ·rw[T9 (by omega) e];exact hYf j (by omega))
 subst hY hP3;refine⟨(m+1,a2,b2,eo2,some i'),by simp[],?_,inv ⟨by omega,hlt,?_,?_,fun i hi=>by cases hi;exact⟨by omega,by omega⟩,fun e=>by cases e⟩,by simp only;omega⟩
 ·exact hdr
 ·exact hun
 ·dsimp only;exact⟨fun i hi=>by
   have q:=heo3.lt i hi;have e:i≠i'+1:=by rintro rfl;have:=q.2.2;rw[h_same]at this;cases this
   exact⟨q.1,q.2.1,by have:=q.2.2;rwa [h_ne e]at this⟩,heo3.nil⟩
end Go.Proofs.YtkkjpohaffjecaaGreatDoor
end

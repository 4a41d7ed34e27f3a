/-
  HELPERS of the claim: part 13 of its texts.
-/
import Derived.Test.YtnkkfehegdplgaaGreatDoorCcdl
noncomputable section
set_option maxHeartbeats 8000000
set_option maxRecDepth 100000
set_option linter.unusedSimpArgs false
set_option linter.unusedVariables false
namespace Go.Proofs.YtnkkfehegdplgaaGreatDoor
open Go.Eng (IC IOper DReg IFn P0)
open Go.Sym Go.Pb
abbrev mkB(L:List UInt8)(i:Nat):Blk:=⟨0,true,[.lst (bytesC L),I64 i,I64 0]⟩
theorem C6e{L:List UInt8}{i:Nat}{b:UInt8}(h:L[i]? = some b):(bytesC L)[i]? = some (.int .u8 (b.toNat:Int)):=by
 simp[bytesC,h]
theorem B4p{H:Hp}{cc t c2:Nat}{b0 b1 b:Blk}{ds:List DV}(hfr:∀i,cc<=i->H i=none)(htc:t<cc)(hc:cc<=c2):GL (((H.upd t b0).upd c2 b1).upd t b) ds (H.upd t b) ds:=GL.less' λj q hj=>by
 by_cases e:j=t
 ·subst e;rw[A0]at hj ⊢;exact hj
 ·rw[h_ne e]at hj;have:j≠c2:=by rintro rfl;rw[hfr _ (by omega)]at hj;cases hj
  rw[h_ne e,h_ne this,h_ne e];exact hj
theorem A5o{H:Hp}{cc t c2:Nat}{b1 b:Blk}{ds:List DV}(hfr:∀i,cc<=i->H i=none)(htc:t<cc)(hc:cc<=c2):GL ((H.upd c2 b1).upd t b) ds (H.upd t b) ds:=GL.less' λj q hj=>by
 by_cases e:j=t
 ·subst e;rw[A0]at hj ⊢;exact hj
 ·rw[h_ne e]at hj ⊢;have:j≠c2:=by rintro rfl;rw[hfr _ (by omega)]at hj;cases hj
  rw[h_ne this];exact hj
theorem B4e{X:Hp}{k t:Nat}{B:Blk}(h:¬t=k):O9 [k] X ((K3 X [k]).upd t B)=X.upd t B:=by
 funext j
 simp only[O9];by_cases e:j=k
 ·subst e;rw[if_pos (by simp),h_ne (Ne.symm h)]
 ·rw[if_neg (by simpa using e)];by_cases e2:j=t
  ·subst e2;rw[A0,A0]
  ·rw[h_ne e2,h_ne e2];simp only[K3];rw[if_neg (by simpa using e)]
theorem C9j(k:Int)(h:0<=k/\k<12)(H:Hp)(c:Nat):AC Tryz.prog 34 [I64 k] H c (λv H' c'=>v=.str (dcS k.toNat)/\H'=H):=by
 obtain⟨n,rfl⟩:=Int.eq_ofNat_of_zero_le h.1;refine((c_Dec' (n:Int) (by omega) (by omega)).at H c).mono λv H' c' ⟨h1,h2,h3⟩=>⟨?_,h2⟩;rw[h1,F6j (by omega),A1U]
theorem F5w(k:Int)(h:0<=k/\k<12)(H:Hp)(c:Nat):AC Tryz.prog 34 [I64 k] H c (λv H' c' => ∃s,NQ [] 12 s/\s.length<=2/\v=.str s/\H'=H) :=
 (C9j k h H c).mono λv H' c' ⟨h1,h2⟩=>⟨_,⟨k.toNat,a8,rfl⟩,by
  have:∀k,k<12->(dcS k).length<=2:=n7
  exact this _ (by omega),h1,h2⟩
def MQ(f:Nat)(xs:List DV)(L:List UInt8)(R:List UInt8->Nat->Prop)(a b:Nat):Prop:=∀(H:Hp) (cc t i:Nat) (ht:H t=some (mkB L i)) (hi:i<=300) (htc:t<cc),
  AC Tryz.prog f (.ptr t 0::xs) H cc (λv H' c' => ∃s n j,R s n/\s.length+50*i<=a+50*j/\n+12*i+10*(1-(L.length-i))<=b+12*j+10*(1-(L.length-j))/\j<=300/\v=.str s/\H'=H.upd t (mkB L j))
section
variable (L:List UInt8) (hL:L.length<=300)
include hL
theorem A0g(n:Int)(H:Hp)(cc t i:Nat)(ht:H t=some (mkB L i))(hi:i<=300)(htc:t<cc)(hn:0<n)(hn2:n<=1000):
  AC Tryz.prog 33 [.ptr t 0,I64 n] H cc (λv H' c' => ∃k j,k<n.toNat/\(k=0/\j=i/\L.length<=i\/i<L.length/\j=i+1)/\j<=300/\v=I64 (k:Nat)/\H'=H.upd t (mkB L j)):=by
 obtain⟨n,rfl⟩:=Int.eq_ofNat_of_zero_le (Int.le_of_lt hn);refine AC.bodyT A3 rfl (A0F rfl) λhfr=>?_;have hlen:(bytesC L).length=L.length:=by simp[bytesC]
 by_cases hlt:i<L.length
 ·have hd:decide ((i:Int)≥L.length)=false:=by simp;omega
  have hg:=C6e (A0B hlt);generalize L[i]=b at hg;have hw:=w64 (n:=(i:Int)+1);have hw3:IntKind.i64.wrap ((i:Int)+1-1)=(i:Int):=l8
  have hb:=b.toNat_lt;have hw4:=w64 (n:=(b.toNat:Int));have hrm:binR .rem (.int .i64 (b.toNat:Int)) (I64 (n:Int))=some (I64 ((b.toNat%n:Nat):Int)):=by
   rw[A8k (by omega)];rfl
  refine wAs (wJ ht (wJ hd (wJ hg (wJ hw (wJ hw3 (wJ hw4 (wJ hrm (wJ hlen (wJ @A0 @A1))))))))) ?_;exact⟨_,_,GL.refl _ _,_,i+1,Nat.mod_lt _ (by omega),.inr ⟨hlt,rfl⟩,a8,rfl,rfl⟩
 ·have hd:decide ((i:Int)≥L.length)=true:=by simp;omega
  refine wA0 ht hd hlen @A0 @A1 ?_;exact⟨_,_,GL.refl _ _,0,i,a8,.inl ⟨rfl,rfl,by omega⟩,hi,rfl,(upd_same ht).symm⟩
theorem B8w(p:List UInt8)(n:Int)(hp:p.length<=4)(hn:0<n)(hn2:n<=10)(H:Hp)(cc t i:Nat)(ht:H t=some (mkB L i))(hi:i<=300)(htc:t<cc):
  AC Tryz.prog 70 [.ptr t 0,.str p,I64 n] H cc (λv H' c' => ∃s j,NQ p n.toNat s/\s.length<=5/\(j=i/\L.length<=i\/i<L.length/\j=i+1)/\j<=300/\v=.str s/\H'=H.upd t (mkB L j)):=by
 refine AC.bodyT A3 rfl (A0F rfl) λhfr=>?_;refine wAs ht ?_
 repeat refine⟨by and_intros<;>exact hfr _ (by omega),?_⟩
 refine wAs ht ?_;refine AC.call (A0g L hL n _ _ t i ht hi (by omega) hn (by omega)) ?_;rintro v' H' c2 ⟨k,j,hk,hj,hj3,rfl,rfl⟩ hc2;have hdl:∀k,k<10->(dcS k).length<=1:=n7
 have hdl:=hdl k (by omega);refine wAq ?_;refine AC.call (C9j (k:Int) (by omega) _ _) ?_;rintro _ _ c3 ⟨rfl,rfl⟩ hc3;rw[A1U];have hadd:=Q9 (s:=p) (t:=dcS k) (by omega);refine wAu hadd ?_;exact⟨_,_,GL.refl _ _,_,j,⟨k,hk,rfl⟩,by rw[A0A];omega,hj.imp (λh=>h.2) id,hj3,rfl,rfl⟩
theorem D7y(D:Int)(hD : -10<=D/\D<=10)(a:Nat)(ha:a=4\/a=5)(b:Nat)(hb:b=a-3)(h:decide (D<=0)=true/\a=4\/decide (D<=0)=false/\a=5/\MQ 167 [I64 0] L (EX false 0) 4 1/\MQ 167 [I64 (D-1)] L (EX false (D-1)) 5 2/\MQ 168 [I64 (D-1)] L (EX true (D-1)) 5 1):MQ 167 [I64 D] L (EX false D) a b:=by
 intro H cc t i ht hi htc;refine AC.bodyT A3 rfl (A0F rfl) λhfr=>?_;have hw1:=w64 (n:=D-1);rcases h with ⟨qd,rfl⟩|⟨qd,rfl,h1,h2,h3⟩
 ·repeat'((first|apply wr|(refine AC.call (A0g L hL _ _ _ t _ (by first|exact ht|exact A0|(rw[hnO];first|exact ht|exact A0)|(simp only[K3];rw[if_neg (by simp;omega)];(repeat rw[hnO]);first|exact A0|exact ht)) (by assumption) (by omega) (by omega) (by omega)) ?_;rintro _ _ _ ⟨k,j,hk,_,_,rfl,rfl⟩ _;(try simp only[Int.reduceToNat]at hk);(repeat'(rcases A2C.1 hk with hk|rfl));all_goals try exact absurd hk (A3A _))|(refine AC.call (B8w L hL _ _ (by decide) (by decide) (by decide) _ _ t _ (by first|exact ht|exact A0|(rw[hnO];first|exact ht|exact A0)|(simp only[K3];rw[if_neg (by simp;omega)];(repeat rw[hnO]);first|exact A0|exact ht)) (by assumption) (by omega)) ?_;rintro _ _ _ ⟨s,j,hs,_,_,_,rfl,rfl⟩ _;try simp only[Int.reduceToNat]at hs)|(apply wb2<;>(intro hb;try simp only[hb]))|exact⟨_,_,j9,_,_,_,by(try simp only[A0K,List.cons_append,List.nil_append]);first|exact .tru|exact .fls|exact .act ‹_› |exact .clo ‹_›,o5,a8,z6,rfl,rfl⟩|(refine⟨m0,?_⟩))<;>try simp (disch:=(first|omega|(simp only[A0A,A0C,A0M];omega))) only[go_sem,seval,Q9,h_ne,A0,A1,B4e,ht,hw1,qd])
 ·repeat'((first|apply wr|(refine AC.call (A0g L hL _ _ _ t _ (by first|exact ht|exact A0|(rw[hnO];first|exact ht|exact A0)|(simp only[K3];rw[if_neg (by simp;omega)];(repeat rw[hnO]);first|exact A0|exact ht)) (by assumption) (by omega) (by omega) (by omega)) ?_;rintro _ _ _ ⟨k,j,hk,_,_,rfl,rfl⟩ _;(try simp only[Int.reduceToNat]at hk);(repeat'(rcases A2C.1 hk with hk|rfl));all_goals try exact absurd hk (A3A _))|(refine AC.call (h1 _ _ t _ (by first|exact ht|exact A0|(rw[hnO];first|exact ht|exact A0)|(simp only[K3];rw[if_neg (by simp;omega)];(repeat rw[hnO]);first|exact A0|exact ht)) (by assumption) (by omega)) ?_;rintro _ _ _ ⟨s,n,j,_,_,_,_,rfl,rfl⟩ _)|(refine AC.call (h2 _ _ t _ (by first|exact ht|exact A0|(rw[hnO];first|exact ht|exact A0)|(simp only[K3];rw[if_neg (by simp;omega)];(repeat rw[hnO]);first|exact A0|exact ht)) (by assumption) (by omega)) ?_;rintro _ _ _ ⟨s,n,j,_,_,_,_,rfl,rfl⟩ _)|(refine AC.call (h3 _ _ t _ (by first|exact ht|exact A0|(rw[hnO];first|exact ht|exact A0)|(simp only[K3];rw[if_neg (by simp;omega)];(repeat rw[hnO]);first|exact A0|exact ht)) (by assumption) (by omega)) ?_;rintro _ _ _ ⟨s,n,j,_,_,_,_,rfl,rfl⟩ _)|(apply wb2<;>(intro hb;try simp only[hb]))|exact⟨_,_,j9,_,_,_,by(try simp only[A0K,List.cons_append,List.nil_append]);first|exact .not qd ‹_› |exact .and qd ‹_› ‹_› |exact .or qd ‹_› ‹_› |exact .cmp 0 (by decide) qd ‹_› ‹_› |exact .cmp 1 (by decide) qd ‹_› ‹_› |exact .cmp 2 (by decide) qd ‹_› ‹_› |exact .cmp 3 (by decide) qd ‹_› ‹_› |exact .cmp 4 (by decide) qd ‹_› ‹_› |exact .cmp 5 (by decide) qd ‹_› ‹_›,o5,a8,z6,rfl,rfl⟩|(refine⟨m0,?_⟩))<;>try simp (disch:=(first|omega|(simp only[A0A,A0C,A0M];omega))) only[go_sem,seval,Q9,h_ne,A0,A1,B4e,ht,hw1,qd])
theorem D7x(D:Int)(hD : -10<=D/\D<=10)(h:decide (D<=0)=true\/decide (D<=0)=false/\MQ 168 [I64 0] L (EX true 0) 5 1/\MQ 168 [I64 (D-1)] L (EX true (D-1)) 5 1):MQ 168 [I64 D] L (EX true D) 5 1:=by
 intro H cc t i ht hi htc;refine AC.bodyT A3 rfl (A0F rfl) λhfr=>?_;have hw1:=w64 (n:=D-1);rcases h with qd|⟨qd,h1,h2⟩
 ·repeat'((first|apply wr|(refine AC.call (A0g L hL _ _ _ t _ (by first|exact ht|exact A0|(rw[hnO];first|exact ht|exact A0)|(simp only[K3];rw[if_neg (by simp;omega)];(repeat rw[hnO]);first|exact A0|exact ht)) (by assumption) (by omega) (by omega) (by omega)) ?_;rintro _ _ _ ⟨k,j,hk,_,_,rfl,rfl⟩ _;(try simp only[Int.reduceToNat]at hk);(repeat'(rcases A2C.1 hk with hk|rfl));all_goals try exact absurd hk (A3A _))|(refine AC.call (B8w L hL _ _ (by decide) (by decide) (by decide) _ _ t _ (by first|exact ht|exact A0|(rw[hnO];first|exact ht|exact A0)|(simp only[K3];rw[if_neg (by simp;omega)];(repeat rw[hnO]);first|exact A0|exact ht)) (by assumption) (by omega)) ?_;rintro _ _ _ ⟨s,j,hs,_,_,_,rfl,rfl⟩ _;try simp only[Int.reduceToNat]at hs)|(refine AC.call (F5w _ (by omega) _ _) ?_;rintro _ _ _ ⟨s,_,_,rfl,rfl⟩ _)|(apply wb2<;>(intro hb;try simp only[hb]))|exact⟨_,_,j9,_,_,_,by(try simp only[A0K,List.cons_append,List.nil_append]);first|exact .ply|exact .bal|exact .lft ‹_› |exact .big (by decide)|exact .num ‹_› |exact .var ‹_›,o5,a8,z6,rfl,rfl⟩|(refine⟨m0,?_⟩))<;>try simp (disch:=(first|omega|(simp only[A0A,A0C,A0M];omega))) only[go_sem,seval,Q9,h_ne,A0,A1,B4e,ht,hw1,qd])
 ·repeat'((first|apply wr|(refine AC.call (A0g L hL _ _ _ t _ (by first|exact ht|exact A0|(rw[hnO];first|exact ht|exact A0)|(simp only[K3];rw[if_neg (by simp;omega)];(repeat rw[hnO]);first|exact A0|exact ht)) (by assumption) (by omega) (by omega) (by omega)) ?_;rintro _ _ _ ⟨k,j,hk,_,_,rfl,rfl⟩ _;(try simp only[Int.reduceToNat]at hk);(repeat'(rcases A2C.1 hk with hk|rfl));all_goals try exact absurd hk (A3A _))|(refine AC.call (h1 _ _ t _ (by first|exact ht|exact A0|(rw[hnO];first|exact ht|exact A0)|(simp only[K3];rw[if_neg (by simp;omega)];(repeat rw[hnO]);first|exact A0|exact ht)) (by assumption) (by omega)) ?_;rintro _ _ _ ⟨s,n,j,_,_,_,_,rfl,rfl⟩ _)|(refine AC.call (h2 _ _ t _ (by first|exact ht|exact A0|(rw[hnO];first|exact ht|exact A0)|(simp only[K3];rw[if_neg (by simp;omega)];(repeat rw[hnO]);first|exact A0|exact ht)) (by assumption) (by omega)) ?_;rintro _ _ _ ⟨s,n,j,_,_,_,_,rfl,rfl⟩ _)|(apply wb2<;>(intro hb;try simp only[hb]))|exact⟨_,_,j9,_,_,_,by(try simp only[A0K,List.cons_append,List.nil_append]);first|exact .neg qd ‹_› |exact .bin (by decide) qd ‹_› ‹_› |exact .zero ‹_›,o5,a8,z6,rfl,rfl⟩|(refine⟨m0,?_⟩))<;>try simp (disch:=(first|omega|(simp only[A0A,A0C,A0M];omega))) only[go_sem,seval,Q9,h_ne,A0,A1,B4e,ht,hw1,qd])
end
end Go.Proofs.YtnkkfehegdplgaaGreatDoor
end

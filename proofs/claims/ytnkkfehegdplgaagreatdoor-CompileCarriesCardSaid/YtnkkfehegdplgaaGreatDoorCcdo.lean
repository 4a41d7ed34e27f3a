/-
  HELPERS of the claim: part 15 of its texts.
-/
import Derived.Test.YtnkkfehegdplgaaGreatDoorCcdn
import Derived.Test.YtnkkfehegdplgaaGreatDoorProg
noncomputable section
set_option linter.unusedSectionVars false
set_option maxHeartbeats 40000000
set_option maxRecDepth 100000
set_option linter.unusedSimpArgs false
set_option linter.unusedVariables false
namespace Go.Proofs.YtnkkfehegdplgaaGreatDoor
open Go.Eng (IC IOper DReg IFn P0)
open Go.Sym Go.Pb
section
variable (L:List UInt8) (hL:L.length<=300)
include hL
theorem B8x(S:List UInt8->Nat->Prop)(D:Int)(hS:MQ 118 [I64 D] L S 14 3):MQ 71 [I64 D] L (BK S) 3 0:=by
 intro H cc t i ht hi htc;refine AC.bodyT A3 rfl (A0F rfl) λhfr=>?_;refine wAp ?_;refine AC.call (A0g L hL 4 _ _ t i ht hi (by omega) (by decide) (by decide)) ?_;rintro v' H' c2 ⟨k,j,hlt,hj0,hj,rfl,rfl⟩ hc2;have hk3:k<4:=hlt;refine wAq ?_;refine A9 (λq:Nat × Nat × List UInt8=>[(0,.ptr t 0),(1,I64 D),(5,.str q.2.2),(6,I64 q.1)]) (λq=>H.upd t (mkB L q.2.1))
  (λq c=>cc<=c/\q.2.1<=300/\∃m N,BO S m q.2.2 N/\m+q.1<=3/\q.2.2.length+15*q.1+50*i<=1+50*q.2.1/\N+3*q.1+12*i+10*(1-(L.length-i))<=12*q.2.1+10*(1-(L.length-q.2.1))) (λq=>q.1) (k,j,[123])
  (by simp[B5,tm,Tm.upd]) (Sub.refl _) ⟨hc2,hj,0,0,.nil,by show 0+k<=3;omega,by simp only[A0I];omega,by dsimp only;omega⟩ ?_
 rintro⟨n,i2,ss⟩ c ⟨hc,hi2,m,N,hb,hm,hl,hN⟩;dsimp only at hc hi2 hb hm hl hN ⊢;cases n with
 |succ n =>
  have qn:decide (((n+1:Nat):Int)>0)=true:=decide_eq_true (by omega);have hw1:IntKind.i64.wrap (((n+1:Nat):Int)-1)=(n:Int):=l8
  have a1:=Q9 (s:=ss) (t:=[32]) (by simp;omega);generalize ((n+1:Nat):Int)=N1 at qn hw1 ⊢;refine wAs (wJ qn a1) ?_;refine AC.call (hS _ _ t i2 A0 hi2 (by omega)) ?_;rintro v' H' c3 ⟨r,w,i3,hr,l,lw,hi3,rfl,rfl⟩ hc3;have a2:=Q9 (s:=ss++[32]) (t:=r) (by simp;omega);rw[A1];refine wAx a1 a2 hw1 ?_;exact⟨(n,i3,ss++[32]++r),i6,Sub.refl _,inv ⟨a8,hi3,m+1,N+w,by rw[A0K];exact .snoc hb hr,by show m+1+n<=3;omega,u7,by dsimp only;omega⟩,by simp⟩
 |zero =>
  have a1:=Q9 (s:=ss) (t:=[32,125]) (by simp;omega);refine wAs a1 ?_;exact⟨_,_,GL.refl _ _,_,N,i2,⟨m,ss,a8,hb,rfl⟩,b9,a8,hi2,rfl,rfl⟩
theorem D1x(k:Nat)(hk0:k<=1000)(hB:MQ 71 [I64 2] L (BK (STd 2)) 3 0):MQ 35 [I64 k] L (HD (k%11)) 20 0:=by
 intro H cc t i ht hi htc;refine AC.bodyT A3 rfl (A0F rfl) λhfr=>?_;have hrm:binR .rem (I64 (k:Int)) (.int .i64 11)=some (I64 ((k%11:Nat):Int)):=by rw[A8k (by decide)];rfl
 have hk:=Nat.mod_lt k (show 0<11 by decide);generalize k%11=m at hrm hk ⊢
 (try simp only[Int.reduceToNat]at hk);(repeat'(rcases A2C.1 hk with hk|rfl));all_goals try exact absurd hk (A3A _)
 all_goals
  repeat'((first|apply wr|(refine AC.call (A0g L hL _ _ _ t _ (by first|exact ht|exact A0|(rw[hnO];first|exact ht|exact A0)|(simp only[K3];rw[if_neg (by simp;omega)];(repeat rw[hnO]);first|exact A0|exact ht)) (by assumption) (by omega) (by omega) (by omega)) ?_;rintro _ _ _ ⟨k,j,hk,_,_,rfl,rfl⟩ _;(try simp only[Int.reduceToNat]at hk);(repeat'(rcases A2C.1 hk with hk|rfl));all_goals try exact absurd hk (A3A _))|(refine AC.call (hB _ _ t _ (by first|exact ht|exact A0|(rw[hnO];first|exact ht|exact A0)|(simp only[K3];rw[if_neg (by simp;omega)];(repeat rw[hnO]);first|exact A0|exact ht)) (by assumption) (by omega)) ?_;rintro _ _ _ ⟨s,n,j,_,_,_,_,rfl,rfl⟩ _)|(apply wb2<;>(intro hb;try simp only[hb]))|exact⟨_,_,j9,_,_,_,by(try simp only[A0K,List.cons_append,List.nil_append]);first|exact⟨_, ‹_›,rfl⟩,o5,a8,z6,rfl,rfl⟩|(refine⟨m0,?_⟩))<;>try simp (disch:=(first|omega|(simp only[A0A,A0C,A0M];omega))) only[go_sem,seval,Q9,h_ne,A0,A1,B4e,ht,hrm])
theorem E2t(hH:∀k:Nat,k<=1000->MQ 35 [I64 k] L (HD (k%11)) 20 0)(H:Hp)(cc t:Nat)(ht:H t=some (mkB L 0))(htc:t<cc):
  AC Tryz.prog 14 [.ptr t 0] H cc (λv H' c' => ∃s N j,RQ 3 s N/\s.length<=20000/\N<=4000/\j<=300/\v=.str s/\H'=H.upd t (mkB L j)):=by
 refine AC.bodyT A3 rfl (A0F rfl) λhfr=>?_;have kL:∀(G:Hp) (j c0:Nat) (s:List UInt8),RQ 0 s 0->j<=300->t<c0->s.length<=1000->(∀B ds,GL (G.upd t B) ds (H.upd t B) ds)->IW Tryz.prog 50 (pz Tryz.prog 14 (.i (.i .h))) ⟨tm [(0,.ptr t 0),(3,.str s)],G.upd t (mkB L j),c0⟩ (rt [.tmp 2] λv H' c' => ∃v2 H2,GL H' [v] H2 [v2]/\∃s N j,RQ 3 s N/\s.length<=20000/\N<=4000/\j<=300/\v2=.str s/\H2=H.upd t (mkB L j)):=by
  intro G j c0 s hq hj hc0 hs hG;refine wAp ?_;refine A9 (λq:Nat × Nat × List UInt8=>[(0,.ptr t 0),(3,.str q.2.2),(4,I64 q.1)]) (λq=>G.upd t (mkB L q.2.1)) (λq c=>t<c/\q.1<=3/\q.2.1<=300/\∃N,RQ q.1 q.2.2 N/\q.2.2.length<=1000+200*q.1+50*q.2.1/\N<=10*q.1+12*q.2.1+10*(1-(L.length-q.2.1))) (λq=>3-q.1) (0,j,s) (by simp[B5,tm,Tm.upd]) (Sub.refl _) ⟨hc0,a8,hj,0,hq,by dsimp only;omega,by dsimp only;omega⟩ ?_;clear hj hc0 hs hq;rintro⟨i,j,s⟩ c ⟨hc,hi3,hj,N,hq,hl,hN⟩;dsimp only at hc hi3 hj hq hl hN ⊢;by_cases h3:i<3
  ·have qi:decide ((i:Int)<3)=true:=by simp;omega
   try simp (disch:=(first|omega|(simp only[A0A,A0C,A0M];omega))) only[go_sem,seval,Q9,A0,A1,qi]
   (repeat'(apply wr<;>try simp (disch:=(first|omega|(simp only[A0A,A0C,A0M];omega))) only[go_sem,seval,Q9,A0,A1,qi]));refine AC.call (C9j _ (by omega) _ _) ?_;rintro _ _ c1 ⟨rfl,rfl⟩ hc1;rw[A1U];have hd1:=C9q i (by omega);try simp (disch:=(first|omega|(simp only[A0A,A0C,A0M];omega))) only[go_sem,seval,Q9,A0,A1]
   (repeat'(apply wr<;>try simp (disch:=(first|omega|(simp only[A0A,A0C,A0M];omega))) only[go_sem,seval,Q9,A0,A1]));refine AC.call (A0g L hL 4 _ _ t j A0 hj (by omega) (by decide) (by decide)) ?_;rintro _ _ c2 ⟨p,j2,hp,hp2,hj2,rfl,rfl⟩ hc2;have hp:p<4:=hp;try simp (disch:=(first|omega|(simp only[A0A,A0C,A0M];omega))) only[go_sem,seval,Q9,A0,A1]
   (repeat'(apply wr<;>try simp (disch:=(first|omega|(simp only[A0A,A0C,A0M];omega))) only[go_sem,seval,Q9,A0,A1]));refine AC.call (C9j _ (by omega) _ _) ?_;rintro _ _ c3 ⟨rfl,rfl⟩ hc3;rw[A1U];have hd2:=C9q p (by omega);try simp (disch:=(first|omega|(simp only[A0A,A0C,A0M];omega))) only[go_sem,seval,Q9,A0,A1]
   (repeat'(apply wr<;>try simp (disch:=(first|omega|(simp only[A0A,A0C,A0M];omega))) only[go_sem,seval,Q9,A0,A1]));refine AC.call (A0g L hL 11 _ _ t j2 A0 hj2 (by omega) (by decide) (by decide)) ?_;rintro _ _ c4 ⟨k,j3,hk,hk2,hj3,rfl,rfl⟩ hc4;have hk:k<11:=hk;try simp (disch:=(first|omega|(simp only[A0A,A0C,A0M];omega))) only[go_sem,seval,Q9,A0,A1]
   (repeat'(apply wr<;>try simp (disch:=(first|omega|(simp only[A0A,A0C,A0M];omega))) only[go_sem,seval,Q9,A0,A1]));refine AC.call (A0g L hL 5 _ _ t j3 A0 hj3 (by omega) (by decide) (by decide)) ?_;rintro _ _ c5 ⟨n,j4,hn,hn2,hj4,rfl,rfl⟩ hc5;have hn:n<5:=hn;try simp (disch:=(first|omega|(simp only[A0A,A0C,A0M];omega))) only[go_sem,seval,Q9,A0,A1]
   (repeat'(apply wr<;>try simp (disch:=(first|omega|(simp only[A0A,A0C,A0M];omega))) only[go_sem,seval,Q9,A0,A1]));refine A9 (λq:Nat × Nat × Nat × List UInt8=>[(0,.ptr t 0),(3,.str q.2.2.2),(4,I64 i),(5,I64 q.2.2.1),(6,I64 q.1)]) (λq=>G.upd t (mkB L q.2.1)) (λq c=>t<c/\q.2.1<=300/\∃m N,RN i k m q.2.2.2 N/\q.2.2.1=k+m/\m+q.1<=4/\q.2.2.2.length+21*q.1<=1000+200*i+190+50*q.2.1/\N+q.1<=10*i+4+12*q.2.1+10*(1-(L.length-q.2.1))) (λq=>q.1) (n,j4,k,_) ⟨rfl,rfl,rfl,rfl,rfl,trivial⟩ (Sub.refl _) ⟨a8,hj4,0,N,by have:=hq.mode (k:=k) h3 hp;simp only[A0K,List.cons_append,List.nil_append];exact this,rfl,by show 0+n<=4;omega,by simp only[A0A,A0C,A0M];omega,by dsimp only;omega⟩ ?_;clear hn2 hn;rintro⟨n,j,k1,y⟩ c ⟨hc,hj,m,N,hq,hk1,hm,hl,hN⟩;dsimp only at hc hj hq hk1 hm hl hN ⊢;subst hk1;cases n with
   |succ n =>
    have qn:decide (((n+1:Nat):Int)>0)=true:=decide_eq_true (by omega);have hw1:IntKind.i64.wrap (((n+1:Nat):Int)-1)=(n:Int):=l8
    have hw2:IntKind.i64.wrap (((k+m:Nat):Int)+1)=((k+(m+1):Nat):Int):=l8
    generalize ((n+1:Nat):Int)=N1 at qn hw1 ⊢;try simp (disch:=(first|omega|(simp only[A0A,A0C,A0M];omega))) only[go_sem,seval,Q9,A0,A1,qn]
    (repeat'(apply wr<;>try simp (disch:=(first|omega|(simp only[A0A,A0C,A0M];omega))) only[go_sem,seval,Q9,A0,A1,qn]));refine AC.call (hH (k+m) (by omega) _ _ t j A0 hj (by omega)) ?_;rintro _ _ c6 ⟨r,w,j5,hr,l,lw,hj5,rfl,rfl⟩ hc6;try simp (disch:=(first|omega|(simp only[A0A,A0C,A0M];omega))) only[go_sem,seval,Q9,A0,A1,hw1,hw2]
    (repeat'(apply wr<;>try simp (disch:=(first|omega|(simp only[A0A,A0C,A0M];omega))) only[go_sem,seval,Q9,A0,A1,hw1,hw2]));exact⟨(n,j5,k+(m+1),_),⟨rfl,rfl,rfl⟩,Sub.refl _,inv ⟨a8,hj5,m+1,N+w+1,by have:=hq.add hr;simp only[A0K];exact this,rfl,by show m+1+n<=4;omega,by simp only[A0A,A0C,A0M];omega,by dsimp only;omega⟩,by simp⟩
   |zero =>
    have hw2:IntKind.i64.wrap ((i:Int)+1)=((i+1:Nat):Int):=l8
    try simp (disch:=(first|omega|(simp only[A0A,A0C,A0M];omega))) only[go_sem,seval,Q9,A0,A1,hw2]
    (repeat'(apply wr<;>try simp (disch:=(first|omega|(simp only[A0A,A0C,A0M];omega))) only[go_sem,seval,Q9,A0,A1,hw2]));exact⟨(i+1,j,_),⟨rfl,rfl⟩,Sub.refl _,inv ⟨a8,by show i+1<=3;omega,hj,N,hq.close h3 hk (by omega),by simp only[A0A,A0C,A0M];omega,by dsimp only;omega⟩,by simp only;omega⟩
  ·obtain rfl:i=3:=by omega
   try simp (disch:=(first|omega|(simp only[A0A,A0C,A0M];omega))) only[go_sem,seval,Q9,A0,A1]
   (repeat'(apply wr<;>try simp (disch:=(first|omega|(simp only[A0A,A0C,A0M];omega))) only[go_sem,seval,Q9,A0,A1]));exact⟨_,_,hG _ _,s,N,j,hq,a8,a8,hj,rfl,rfl⟩
 have kH:∀(s:List UInt8) (c0:Nat),s=ruA->cc<=c0->IW Tryz.prog 50 (pz Tryz.prog 14 (.i (.o .h))) ⟨tm [(0,.ptr t 0),(3,.str s)],H,c0⟩ (rt [.tmp 2] λv H' c' => ∃v2 H2,GL H' [v] H2 [v2]/\∃s N j,RQ 3 s N/\s.length<=20000/\N<=4000/\j<=300/\v2=.str s/\H2=H.upd t (mkB L j)):=by
  intro s c0 hs hc0;have hsl:s.length<=600:=by rw[hs];decide
  have a1:=Q9 (s:=s) (t:=ruB) (by simp[ruB];omega);unfold ruB at a1;refine wAs a1 ?_;refine AC.call (A0g L hL 4 _ _ t 0 (by rw[hnO];exact ht) (by omega) (by omega) (by decide) (by decide)) ?_;rintro _ _ c3 ⟨k,j,hk,hk0,hj,rfl,rfl⟩ hc3;generalize hWL:([.str [48],.str [53],.str [45,55],.str [50,49,52,55,52,56,51,54,52,55]]:List DV)=WL;have hk4:k<4:=hk;obtain⟨og,hog0,hog,hld⟩:∃og:List UInt8,og=v0L.getD k []/\og.length<=10/\WL[k]? = some (.str og):=by
   subst hWL
   (try simp only[Int.reduceToNat]at hk);(repeat'(rcases A2C.1 hk with hk|rfl));all_goals try exact absurd hk (A3A _)
   all_goals exact⟨_,rfl,n7,rfl⟩
  have hia:A9b 1 (.slc c0 0 4) (I64 (k:Int))=some (.ptr c0 k):=by simp[A9b];omega
  have a2:=Q9 (s:=s++ruB) (t:=og) (by simp[ruB];omega);obtain⟨Y,hY0,hY,a3⟩:∃Y:List UInt8,Y=ruA++(ruB++(og++ruC))/\Y.length<=1000/\binR .add (.str (s++ruB++og)) (.str ruC)=some (.str Y):=⟨_,by rw[hs];simp only[A0K],by simp[ruB,ruC];omega,Q9 (by simp[ruB,ruC];omega)⟩;unfold ruB at a2;unfold ruB ruC at a3;have ne0:=A1z t c0 (by omega);simp only[go_sem,seval,A0,A1,ne0,hia,hWL,hld,a1,a2,a3];(repeat'((with_reducible first|refine O8 (p:=IW _ _ (pz Tryz.prog 14 (.i (.i .h))) _ _) ?_|refine wr ?_|refine k_cu ?_ ?_|apply wb2<;>(intro hb;try simp only[hb]))<;>try simp only[go_sem,seval]));exact IW.stage (by simp[B5,tm,Tm.upd]) (kL _ j _ Y (by rw[hY0,hog0];exact .head hk4) hj (by omega) hY λB ds=>A5o hfr htc (by omega))
 (repeat'((with_reducible first|refine O8 (p:=IW _ _ (pz Tryz.prog 14 (.i (.o .h))) _ _) ?_|refine wr ?_|refine k_cu ?_ ?_|apply wb2<;>(intro hb;try simp only[hb]))<;>try simp only[go_sem,seval]));exact IW.stage (L:=[(0,.ptr t 0),(3,.str _)]) ⟨rfl,rfl,trivial⟩ (kH _ _ rfl (by omega))
end
theorem F6a(l:List UInt8)(hl:l.length<=9223372036854775807)(H:Hp)(cc:Nat):
  AC Tryz.prog 12 [.lst (bytesC l)] H cc (λv H' c' => ∃t L,L.length<=300/\cc<=t/\t<c'/\v=.ptr t 0/\H'=H.upd t (mkB L 0)):=by
 refine AC.bodyT A3 rfl (A0F rfl) λhfr=>?_;have hlen:(bytesC l).length=l.length:=by simp[bytesC]
 have hmin:(if(300:Int)<((l.length:Nat):Int) then(300:Int) else((l.length:Nat):Int))=((min l.length 300:Nat):Int):=by split<;>omega
 have hsl:A7j H 1 (.lst (bytesC l)) none (some (I64 ((min l.length 300:Nat):Int)))=some (.lst (bytesC (l.take (min l.length 300)))):=by
  have hb:boundOf (bytesC l).length (some (I64 ((min l.length 300:Nat):Int)))=some (min l.length 300):=by simp[boundOf]
  have hu:Sym.unit 1 (bytesC l)=true:=by simp only[Sym.unit,bytesC,List.all_map];exact A0R.2 λx _=>rfl
  simp only[A7j,hb,show boundOf 0 none=some 0 from rfl];rw[if_pos ⟨by rw[hlen];omega,A0Q _,hu⟩,A3V,Nat.sub_zero];unfold bytesC;rw[<- List.map_take]
 refine wAw hlen hmin hsl ?_;exact⟨_,_,GL.refl _ _,cc,l.take (min l.length 300),by rw[A1C];omega,A0E _,A1Q _,rfl,rfl⟩
theorem E2u(l:List UInt8)(hl:l.length<=9223372036854775807)(H:Hp)(cc:Nat):
  AC Tryz.prog 4 [.lst (bytesC l),.int .u8 0] H cc (λv H' c' => ∃s N,RQ 3 s N/\s.length<=20000/\N<=4000/\v=(O7 s).1.v/\H'=H):=by
 refine AC.bodyT A3 rfl (A0F rfl) λhfr=>?_;refine wAp ?_;refine AC.call (F6a l hl _ _) ?_;rintro v' H' c2 ⟨t,L,hL,ht1,ht2,rfl,rfl⟩ hc2;have s0:=C5s L hL (λ_ _=>False) 0 (by omega) (.inl rfl);have s1:=C5s L hL _ 1 (by omega) (.inr ⟨rfl,B8x L hL _ 0 s0⟩);have s2:=C5s L hL _ 2 (by omega) (.inr ⟨rfl,B8x L hL _ 1 s1⟩);have hH:=λk hk=>D1x L hL k hk (B8x L hL (STd 2) 2 s2);have hR:=E2t L hL hH;have hrm:binR .rem (.int .u8 0) (.int .u8 20)=some (.int .u8 0):=rfl;refine wAx @A0 @A1 hrm ?_;refine AC.call (hR _ _ t A0 (by omega)) ?_;rintro v' H' c3 ⟨s,N,j,q1,q2,q3,b,rfl,rfl⟩ hc3;have hp:=c_Parse s (by omega);have hpv:E1a (O7 s)=.tup [(O7 s).1.v,I64 (O7 s).2.1,I64 (O7 s).2.2]:=rfl;rw[hpv]at hp;generalize hr:(O7 s).1=r at hp;generalize (O7 s).2.1=r1 at hp;generalize (O7 s).2.2=r2 at hp;have hrv:r.v=.agg [D7 r.decls,F6 r.modes]:=rfl;rw[hrv]at hp;rw[A1];have ne0:=W9 cc t c3 (by omega);refine wA9 hp (wJ ne0 (wJ @A0 @A1)) ?_;rw[G4 (rv2 rfl A0)];refine⟨_,_,GL.less' (λj2 q hj=>?_),s,N,q1,q2,q3,by rw[hr],rfl⟩;have hj2:j2<cc:=Classical.byContradiction λh=>by rw[hfr _ (by omega)]at hj;cases hj
 dsimp only;rw[hnO,hnO,hnO,hnO];exact hj
end Go.Proofs.YtnkkfehegdplgaaGreatDoor
set_option maxHeartbeats 4000000
namespace Go.Proofs.YtnkkfehegdplgaaGreatDoor
open Go.Eng (IC IOper DReg IFn P0)
open Go.Sym
abbrev x135:XT Tryz.prog 135:=mkF
instance t135:FT Tryz.prog 135 x135.d:=x135.ft
abbrev x89:XT Tryz.prog 89:=mkF
instance t89:FT Tryz.prog 89 x89.d:=x89.ft
abbrev x138:XT Tryz.prog 138:=mkF
instance t138:FT Tryz.prog 138 x138.d:=x138.ft
abbrev x144:XT Tryz.prog 144:=mkF
instance t144:FT Tryz.prog 144 x144.d:=x144.ft
abbrev x146:XT Tryz.prog 146:=mkF
instance t146:FT Tryz.prog 146 x146.d:=x146.ft
abbrev x145:XT Tryz.prog 145:=mkF
instance t145:FT Tryz.prog 145 x145.d:=x145.ft
abbrev x149:XT Tryz.prog 149:=mkF
instance t149:FT Tryz.prog 149 x149.d:=x149.ft
abbrev x90:XT Tryz.prog 90:=mkF
instance t90:FT Tryz.prog 90 x90.d:=x90.ft
abbrev x137:XT Tryz.prog 137:=mkF
instance t137:FT Tryz.prog 137 x137.d:=x137.ft
abbrev x140:XT Tryz.prog 140:=mkF
instance t140:FT Tryz.prog 140 x140.d:=x140.ft
abbrev x141:XT Tryz.prog 141:=mkF
instance t141:FT Tryz.prog 141 x141.d:=x141.ft
abbrev x143:XT Tryz.prog 143:=mkF
instance t143:FT Tryz.prog 143 x143.d:=x143.ft
abbrev x91:XT Tryz.prog 91:=mkF
instance t91:FT Tryz.prog 91 x91.d:=x91.ft
abbrev x147:XT Tryz.prog 147:=mkF
instance t147:FT Tryz.prog 147 x147.d:=x147.ft
abbrev x92:XT Tryz.prog 92:=mkF
instance t92:FT Tryz.prog 92 x92.d:=x92.ft
abbrev x93:XT Tryz.prog 93:=mkF
instance t93:FT Tryz.prog 93 x93.d:=x93.ft
abbrev x148:XT Tryz.prog 148:=mkF
instance t148:FT Tryz.prog 148 x148.d:=x148.ft
abbrev x55:XT Tryz.prog 55:=mkF
instance t55:FT Tryz.prog 55 x55.d:=x55.ft
abbrev x20:XT Tryz.prog 20:=mkF
instance t20:FT Tryz.prog 20 x20.d:=x20.ft
abbrev x181:XT Tryz.prog 181:=mkF
instance t181:FT Tryz.prog 181 x181.d:=x181.ft
abbrev x182:XT Tryz.prog 182:=mkF
instance t182:FT Tryz.prog 182 x182.d:=x182.ft
abbrev x183:XT Tryz.prog 183:=mkF
instance t183:FT Tryz.prog 183 x183.d:=x183.ft
abbrev x136:XT Tryz.prog 136:=mkF
instance t136:FT Tryz.prog 136 x136.d:=x136.ft
abbrev x139:XT Tryz.prog 139:=mkF
instance t139:FT Tryz.prog 139 x139.d:=x139.ft
abbrev x142:XT Tryz.prog 142:=mkF
instance t142:FT Tryz.prog 142 x142.d:=x142.ft
abbrev x25:XT Tryz.prog 25:=mkF
instance t25:FT Tryz.prog 25 x25.d:=x25.ft
open Go.Sym Go.Pb
theorem c_within(n lo hi:Int):PC Tryz.prog 135 [I64 n,I64 lo,I64 hi] (.bool (inM n lo hi)):=by
 refine PC.go A3 ?_;repeat'((with_reducible first|apply wr|refine k_cu ?_ ?_|apply wb2<;>(intro hb;try simp only[hb]))<;>try simp only[go_sem,seval])
 all_goals(refine A4 ?_;simp_all[inM]<;>omega)
theorem c_bless(a b:Ent):PC Tryz.prog 92 [a.v,b.v] (.bool (B6u a b)):=by
 refine PC.go A3 ?_;repeat'((with_reducible first|apply wr|refine k_cu ?_ ?_|apply wb2<;>(intro hb;try simp only[hb]))<;>try simp only[go_sem,seval])
 all_goals(refine A4 ?_;simp_all[B6u])
theorem c_bIsText(s:List UInt8)(hs:s.length<=140737488355328):PC Tryz.prog 138 [.str s] (.bool (U0 s)):=by
 refine PC.go A3 ?_;refine wAp ?_;refine A9 (λk:Nat=>[(0,.str s),(3,I64 k)]) (λ_=>nil) (λk _=>k<=s.length/\(s.take k).all A4l=true) (λk=>s.length-k) 0 (by simp[B5,tm,Tm.upd]) (Sub.nil _) (by simp) ?_;rintro k c ⟨hk,he⟩;by_cases hlt:k<s.length
 ·have hd:=dtz hlt;have hg:=A0B hlt;have hw:=w64 (n:=(k:Int)+1);repeat'((with_reducible first|apply wr|refine k_cu ?_ ?_|apply wb2<;>(intro hb;try simp only[hb]))<;>try simp only[go_sem,seval,hd,hg,hw])
  ·refine A4 ?_;rw[U0,A3y A4l s k _ hg (by simp_all[A4l];omega)];rfl
  ·refine A4 ?_;rw[U0,A3y A4l s k _ hg (by simp_all[A4l];omega)];rfl
  ·exact⟨k+1,rfl,Sub.refl _,inv ⟨a8,by rw[C3g A4l s k _ hg he];simp_all[A4l];omega⟩,by omega⟩
 ·have hd:=dfz hlt;refine wAs hd ?_;refine A4 ?_;rw[U0,A9r A4l s k (by omega) he,A2D];simp;omega
theorem c_goodEntry(c:Prg)(hl:Lim c)(e:Ent):PC Tryz.prog 144 [c.v,e.v] (.bool (A4q c e)):=by
 obtain⟨wp,wv,ws,wi,wt,we, -, -, -, -, -⟩:=hl;refine PC.go A3 ?_;repeat'((with_reducible first|apply wr|refine cpc (c_within _ _ _) ?_|refine k_cu ?_ ?_|apply wb2<;>(intro hb;try simp only[hb]))<;>try simp only[go_sem,seval,wp,wt,we])
 all_goals(refine A4 ?_;simp_all[A4q]<;>rfl)
theorem c_isJ(op:Int):PC Tryz.prog 146 [I64 op] (.bool (isJ op)):=by
 refine PC.go A3 ?_;repeat'((with_reducible first|apply wr|refine k_cu ?_ ?_|apply wb2<;>(intro hb;try simp only[hb]))<;>try simp only[go_sem,seval])
 all_goals(refine A4 ?_;simp_all[isJ]<;>rfl)
theorem c_stack(op:Int):PC Tryz.prog 149 [I64 op] (.tup [I64 (D4 op).1,I64 (D4 op).2.1]):=by
 refine PC.go A3 ?_;repeat'((with_reducible first|apply wr|refine k_cu ?_ ?_|apply wb2<;>(intro hb;try simp only[hb]))<;>try simp only[go_sem,seval])
 all_goals first
  |(simp only[A1S]at hb;subst hb;exact A4 rfl)
  |(simp only[beq_eq_false_iff_ne,ne_eq]at *;refine A4 ?_;rw[(F6g ‹_› ‹_› ‹_› ‹_› ‹_› ‹_› ‹_› ‹_› ‹_› ‹_› ‹_› ‹_› ‹_› ‹_› ‹_› ‹_› ‹_› ‹_›).1,(F6g ‹_› ‹_› ‹_› ‹_› ‹_› ‹_› ‹_› ‹_› ‹_› ‹_› ‹_› ‹_› ‹_› ‹_› ‹_› ‹_› ‹_› ‹_›).2])
theorem c_bSpan(c:Prg)(hl:Lim c)(op:Int):PC Tryz.prog 145 [c.v,I64 op] (.tup [I64 (J9 c op).1,I64 (J9 c op).2]):=by
 obtain⟨wp,wv,ws,wi,wt,we, -, -, -, -, -⟩:=hl;refine PC.go A3 ?_;repeat'((with_reducible first|apply wr|refine k_cu ?_ ?_|apply wb2<;>(intro hb;try simp only[hb]))<;>try simp only[go_sem,seval,wp,wv,ws,wt,we])
 all_goals first
  |(simp only[A1S]at hb;subst hb;refine A4 ?_;simp[J9];done)
  |(refine A4 ?_;simp_all[J9])
theorem c_IF_str{g:(List UInt8)->Bool}{f:Nat}{a cs:List DV}(xs:List (List UInt8))(hx:xs.length<=9223372036854775807)(na:DV.nlL a=true)(ncs:DV.nlL cs=true)(hf:∀x∈xs,PC Tryz.prog f (a++[DV.str x]++cs) (.bool (g x))):
  PC Tryz.prog 181 [.lst (xs.map DV.str),.func f a cs] (I64 (V9 g xs 0)):=by
 refine PC.ofT A3 rfl (A0F rfl) (by simp[DV.nlL,DV.nl,J1,N4,K0,na,ncs]) rfl ?_;refine wAp ?_;refine A9 (λk:Nat=>[(0,.lst (xs.map DV.str)),(1,.func f a cs),(7,I64 xs.length),(8,I64 k)]) (λ_=>nil) (λk _=>k<=xs.length/\V9 g xs 0=V9 g (xs.drop k) k) (λk=>xs.length-k) 0 (by simp[B5,tm,Tm.upd]) (Sub.nil _) (by simp) ?_;rintro k c ⟨hk,he⟩;by_cases hlt:k<xs.length
 ·have hd:=dtz hlt;have hg:=A0B hlt;have hw:=w64 (n:=(k:Int)+1);have hst:=W7 (g:=g) hg;have hc:=hf xs[k] (A0O hlt);repeat'((with_reducible first|apply wr|refine cpc hc ?_|refine k_cu ?_ ?_|apply wb2<;>(intro hb;try simp only[hb]))<;>try simp only[go_sem,seval,hd,hg,hw])
  ·refine A4 ?_;rw[he,hst,hb];rfl
  ·exact⟨k+1,rfl,Sub.refl _,inv ⟨a8,by rw[he,hst,hb];rfl⟩,by omega⟩
 ·have hd:=dfz hlt;refine wAs hd ?_;refine A4 ?_;rw[he,A0u (by omega)]
theorem c_CF_str{g:(List UInt8)->Bool}{f:Nat}{a cs:List DV}(xs:List (List UInt8))(hx:xs.length<=9223372036854775807)(na:DV.nlL a=true)(ncs:DV.nlL cs=true)(hf:∀x∈xs,PC Tryz.prog f (a++[DV.str x]++cs) (.bool (g x))):
  PC Tryz.prog 136 [.lst (xs.map DV.str),.func f a cs] (.bool (xs.any g)):=by
 refine PC.ofT A3 rfl (A0F rfl) (by simp[DV.nlL,DV.nl,J1,N4,K0,na,ncs]) rfl ?_;have hc:=c_IF_str xs hx na ncs hf;refine wA5 hc ?_;refine A4 ?_;rw[A0v]
theorem c_IF_int{g:Int->Bool}{f:Nat}{a cs:List DV}(xs:List Int)(hx:xs.length<=9223372036854775807)(na:DV.nlL a=true)(ncs:DV.nlL cs=true)(hf:∀x∈xs,PC Tryz.prog f (a++[I64 x]++cs) (.bool (g x))):
  PC Tryz.prog 182 [.lst (xs.map I64),.func f a cs] (I64 (V9 g xs 0)):=by
 refine PC.ofT A3 rfl (A0F rfl) (by simp[DV.nlL,DV.nl,J1,N4,K0,na,ncs]) rfl ?_;refine wAp ?_;refine A9 (λk:Nat=>[(0,.lst (xs.map I64)),(1,.func f a cs),(7,I64 xs.length),(8,I64 k)]) (λ_=>nil) (λk _=>k<=xs.length/\V9 g xs 0=V9 g (xs.drop k) k) (λk=>xs.length-k) 0 (by simp[B5,tm,Tm.upd]) (Sub.nil _) (by simp) ?_;rintro k c ⟨hk,he⟩;by_cases hlt:k<xs.length
 ·have hd:=dtz hlt;have hg:=A0B hlt;have hw:=w64 (n:=(k:Int)+1);have hst:=W7 (g:=g) hg;have hc:=hf xs[k] (A0O hlt);repeat'((with_reducible first|apply wr|refine cpc hc ?_|refine k_cu ?_ ?_|apply wb2<;>(intro hb;try simp only[hb]))<;>try simp only[go_sem,seval,hd,hg,hw])
  ·refine A4 ?_;rw[he,hst,hb];rfl
  ·exact⟨k+1,rfl,Sub.refl _,inv ⟨a8,by rw[he,hst,hb];rfl⟩,by omega⟩
 ·have hd:=dfz hlt;refine wAs hd ?_;refine A4 ?_;rw[he,A0u (by omega)]
theorem c_CF_int{g:Int->Bool}{f:Nat}{a cs:List DV}(xs:List Int)(hx:xs.length<=9223372036854775807)(na:DV.nlL a=true)(ncs:DV.nlL cs=true)(hf:∀x∈xs,PC Tryz.prog f (a++[I64 x]++cs) (.bool (g x))):
  PC Tryz.prog 139 [.lst (xs.map I64),.func f a cs] (.bool (xs.any g)):=by
 refine PC.ofT A3 rfl (A0F rfl) (by simp[DV.nlL,DV.nl,J1,N4,K0,na,ncs]) rfl ?_;have hc:=c_IF_int xs hx na ncs hf;refine wA5 hc ?_;refine A4 ?_;rw[A0v]
theorem c_IF_ent{g:Ent->Bool}{f:Nat}{a cs:List DV}(xs:List Ent)(hx:xs.length<=9223372036854775807)(na:DV.nlL a=true)(ncs:DV.nlL cs=true)(hf:∀x∈xs,PC Tryz.prog f (a++[Ent.v x]++cs) (.bool (g x))):
  PC Tryz.prog 183 [.lst (xs.map Ent.v),.func f a cs] (I64 (V9 g xs 0)):=by
 refine PC.ofT A3 rfl (A0F rfl) (by simp[DV.nlL,DV.nl,J1,N4,K0,na,ncs]) rfl ?_;refine wAp ?_;refine A9 (λk:Nat=>[(0,.lst (xs.map Ent.v)),(1,.func f a cs),(7,I64 xs.length),(8,I64 k)]) (λ_=>nil) (λk _=>k<=xs.length/\V9 g xs 0=V9 g (xs.drop k) k) (λk=>xs.length-k) 0 (by simp[B5,tm,Tm.upd]) (Sub.nil _) (by simp) ?_;rintro k c ⟨hk,he⟩;by_cases hlt:k<xs.length
 ·have hd:=dtz hlt;have hg:=A0B hlt;have hw:=w64 (n:=(k:Int)+1);have hst:=W7 (g:=g) hg;have hc:=hf xs[k] (A0O hlt);repeat'((with_reducible first|apply wr|refine cpc hc ?_|refine k_cu ?_ ?_|apply wb2<;>(intro hb;try simp only[hb]))<;>try simp only[go_sem,seval,hd,hg,hw])
  ·refine A4 ?_;rw[he,hst,hb];rfl
  ·exact⟨k+1,rfl,Sub.refl _,inv ⟨a8,by rw[he,hst,hb];rfl⟩,by omega⟩
 ·have hd:=dfz hlt;refine wAs hd ?_;refine A4 ?_;rw[he,A0u (by omega)]
theorem c_CF_ent{g:Ent->Bool}{f:Nat}{a cs:List DV}(xs:List Ent)(hx:xs.length<=9223372036854775807)(na:DV.nlL a=true)(ncs:DV.nlL cs=true)(hf:∀x∈xs,PC Tryz.prog f (a++[Ent.v x]++cs) (.bool (g x))):
  PC Tryz.prog 142 [.lst (xs.map Ent.v),.func f a cs] (.bool (xs.any g)):=by
 refine PC.ofT A3 rfl (A0F rfl) (by simp[DV.nlL,DV.nl,J1,N4,K0,na,ncs]) rfl ?_;have hc:=c_IF_ent xs hx na ncs hf;refine wA5 hc ?_;refine A4 ?_;rw[A0v]
theorem c_limits(c:Prg):PC Tryz.prog 89 [c.v] (.bool (P2 c)):=by
 refine PC.go A3 ?_;repeat'((with_reducible first|apply wr|refine cpc (c_within _ _ _) ?_|refine k_cu ?_ ?_|apply wb2<;>(intro hb;try simp only[hb]))<;>try simp only[go_sem,seval])
 all_goals(refine A4 ?_;simp_all[P2]<;>omega)
theorem c_p1(s:List UInt8)(hs:s.length<=140737488355328):PC Tryz.prog 137 [.str s] (.bool (!U0 s)):=by
 refine PC.go A3 ?_;refine wA5 (c_bIsText s hs) ?_;exact A4 rfl
theorem c_p2(n:Int):PC Tryz.prog 140 [I64 n] (.bool (!inM n 0 99)):=by
 refine PC.go A3 ?_;(repeat'((with_reducible first|apply wr|refine cpc (c_within _ _ _) ?_|refine k_cu ?_ ?_|apply wb2<;>(intro hb;try simp only[hb]))<;>try simp only[go_sem,seval]));exact A4 rfl
theorem c_p3(n:Int):PC Tryz.prog 141 [I64 n] (.bool (!inM n (-2147483647) 2147483647)):=by
 refine PC.go A3 ?_;(repeat'((with_reducible first|apply wr|refine cpc (c_within _ _ _) ?_|refine k_cu ?_ ?_|apply wb2<;>(intro hb;try simp only[hb]))<;>try simp only[go_sem,seval]));exact A4 rfl
theorem c_p4(c:Prg)(hl:Lim c)(e:Ent):PC Tryz.prog 143 [e.v,.fptr c.cs] (.bool (!A4q c e)):=by
 refine PC.go A3 ?_;refine wA5 (c_goodEntry c hl e) ?_;exact A4 rfl
theorem c_t1(c:Prg)(hl:Lim c)(e:Ent):PC Tryz.prog 147 [e.v,.fptr c.cs] (.bool (!C1p c e)):=by
 obtain⟨wp,wv,ws,wi,wt,we,li,ls,le,lp,lv⟩:=hl;refine PC.go A3 ?_;(repeat'((with_reducible first|apply wr|refine cpc (c_within _ _ _) ?_|refine k_cu ?_ ?_|apply wb2<;>(intro hb;try simp only[hb]))<;>try simp only[go_sem,seval,wi]));exact A4 rfl
theorem E5l(c:Prg)(fn:Nat)(l:List DV):GL (nil.upd 0 ⟨0,true,c.cs⟩) [.lst l,.func fn [] [.ptr 0 0]] nil [.lst l,.func fn [] [.fptr c.cs]] :=
 GL.one (b:=⟨0,true,c.cs⟩) rfl rfl (.cons _ _ _ _ (.same _) (.cons _ _ _ _ (.func _ _ _ _ _ .nil (.cons _ _ _ _ (.ptr 0 c.cs (A0Q _) rfl) .nil)) .nil))
theorem c_targets(c:Prg)(hl:Lim c):PC Tryz.prog 91 [c.v] (.bool (K9 c)):=by
 have hl0:=hl;obtain⟨wp,wv,ws,wi,wt,we,li,ls,le,lp,lv⟩:=hl;have cf:=c_CF_ent (a:=[]) (cs:=[.fptr c.cs]) c.entries (by omega) rfl (by simp[DV.nlL,DV.nl,N4,J1,A0f,K0]) (λe _=>c_t1 c hl0 e);rw[A6s]at cf;refine PC.go A3 ?_;refine wAp ?_;refine A9 (λk:Nat=>[(1,.ptr 0 0),(6,K7 c.instrs),(7,I64 c.instrs.length),(8,I64 k)]) (λ_=>nil.upd 0 ⟨0,true,c.cs⟩) (λk cc=>1<=cc/\k<=c.instrs.length/\(c.instrs.take k).all (A7e c)=true) (λk=>c.instrs.length-k) 0 (by simp[B5,tm,Tm.upd]) (Sub.refl _) (by simp) ?_;rintro k cc ⟨h1c,hk,he⟩;have ne0:=A1z 0 cc (by omega);by_cases hlt:k<c.instrs.length
 ·have hd:=dtz hlt;have hg:=A0B hlt;have hw:=w64 (n:=(k:Int)+1);repeat'((with_reducible first|apply wr|refine cpc (c_isJ _) ?_|refine cpc (c_within _ _ _) ?_|refine k_cu ?_ ?_|apply wb2<;>(intro hb;try simp only[hb]))<;>try simp only[go_sem,seval,hd,hg,hw,wi,ne0])
  ·refine A4 ?_;have hf:=A3y (A7e c) c.instrs k _ hg (by rw[A7e, <- A5k];simp_all);simp[K9,hf]
  all_goals exact⟨k+1,rfl,u6,inv ⟨a8,a8,by rw[C3g (A7e c) _ k _ hg he,A7e, <- A5k];simp_all⟩,by omega⟩
 ·have hd:=dfz hlt;have hall:=A9r (A7e c) c.instrs k (by omega) he;repeat'((first|(with_reducible first|apply wr|refine k_cu ?_ ?_)|(with_reducible apply wb2<;>(intro hb;try simp only[hb]))|((with_reducible refine AC.call (PC.lend cf rfl (E5l c _ _)) ?_);rintro _ _ _ ⟨rfl,rfl,rfl⟩ -))<;>try simp only[go_sem,seval,hd])
  refine A4 ?_;simp[K9,hall]
theorem c_bparts(c:Prg)(hl:Lim c)(hs:∀s∈c.strings,s.length<=140737488355328):PC Tryz.prog 90 [c.v] (.bool (A0d c)):=by
 have hl0:=hl;obtain⟨wp,wv,ws,wi,wt,we,li,ls,le,lp,lv⟩:=hl;have cf1:=c_CF_str (g:=λs => !U0 s) (a:=[]) (cs:=[]) c.strings (by omega) rfl rfl (λs h=>c_p1 s (hs s h));have cf2:=c_CF_int (g:=λn => !inM n 0 99) (a:=[]) (cs:=[]) c.prios (by omega) rfl rfl (λn _=>c_p2 n);have cf3:=c_CF_int (g:=λn => !inM n (-2147483647) 2147483647) (a:=[]) (cs:=[]) c.vars (by omega) rfl rfl (λn _=>c_p3 n);have cf4:=c_CF_ent (g:=λe => !A4q c e) (a:=[]) (cs:=[.fptr c.cs]) c.entries (by omega) rfl (by simp[DV.nlL,DV.nl,N4,J1,A0f,K0]) (λe _=>c_p4 c hl0 e);rw[A6s]at cf1 cf2 cf3 cf4;have main:∀(b:Bool) (cc:Nat),1<=cc->b = !(c.strings.all U0&&c.prios.all (λn=>inM n 0 99)&&c.vars.all (λn=>inM n (-2147483647) 2147483647)&&c.entries.all (A4q c)) ->
   IW Tryz.prog 59 (.loop (pz Tryz.prog 90 (.o (.i (.o .h))))) ⟨tm [(1,.ptr 0 0),(3,.bool b),(28,K7 c.instrs),(29,I64 c.instrs.length),(30,I64 0)],nil.upd 0 ⟨0,true,c.cs⟩,cc⟩ (bk 0 (sq Tryz.prog 59 (pz Tryz.prog 90 (.o (.o (.o (.i .h))))) (rt [.tmp 2] λv H' x => ∃H2,GL H' [v] H2 [.bool (A0d c)]))):=by
  intro b cc h1c hbG;refine A9 (λk:Nat=>[(1,.ptr 0 0),(3,.bool (b || !(c.instrs.take k).all (D2 c))),(28,K7 c.instrs),(29,I64 c.instrs.length),(30,I64 k)]) (λ_=>nil.upd 0 ⟨0,true,c.cs⟩) (λk cc=>1<=cc/\k<=c.instrs.length) (λk=>c.instrs.length-k) 0 (by simp[B5,tm,Tm.upd]) (Sub.refl _) (by simp;omega) ?_;rintro k cc ⟨h1c,hk⟩;have ne0:=A1z 0 cc (by omega);by_cases hlt:k<c.instrs.length
  ·have hd:=dtz hlt;have hg:=A0B hlt;have hw:=w64 (n:=(k:Int)+1);have hta:=A6t (D2 c) c.instrs k _ hg;rw[C1a]at hta;clear hbG;generalize hB:(b || !(c.instrs.take k).all (D2 c))=B;repeat'((with_reducible first|apply wr|refine cpc (c_isJ _) ?_|refine cpc (c_within _ _ _) ?_|refine cpc (c_bSpan c hl0 _) ?_|refine k_cu ?_ ?_|apply wb2<;>(intro hb;try simp only[hb]))<;>try simp only[go_sem,seval,hd,hg,hw,ne0])
   all_goals exact⟨k+1,by rw[hta,D3y,hB];simp_all,u6,inv ⟨a8,hlt⟩,by omega⟩
  ·have hd:=dfz hlt;refine wAs hd ?_;refine A4 ?_;rw[A0J (by omega)];simp only[A0d,hbG];simp only[Bool.not_or,Bool.not_not]
 refine PC.go A3 ?_;repeat'((first|(with_reducible first|apply wr|refine cpc cf1 ?_|refine cpc cf2 ?_|refine cpc cf3 ?_|refine k_cu ?_ ?_)|(with_reducible apply wb2<;>(intro hb;try simp only[hb]))|((with_reducible refine AC.call (PC.lend cf4 rfl (E5l c _ _)) ?_);rintro _ _ _ ⟨rfl,rfl,rfl⟩ -))<;>try simp only[go_sem,seval])
 all_goals(refine main _ _ (by omega) ?_;simp only[A3H,Bool.not_eq_false']at *;simp only[*,A3I,A2D,Bool.false_and,A3W,Bool.not_true,Bool.not_false])
theorem c_reach(c:Prg)(h:List Int)(wk:List Nat)(o:Option Nat)(junk:List DV)(H:Hp)(cc:Nat)(p:Nat)(x:Int)(hS:WkS c h wk o junk H cc)(hw:wk.length<=100000):
  AC Tryz.prog 148 [I64 (p:Int),I64 x,.ptr 2 0,.ptr 3 0] H cc (λv H' c'=>match K1 h wk p x with
   |none=>v=.bool false
   |some (h',wk')=>v=.bool true/\∃o' junk',WkS c h' wk' o' junk' H' c'/\∀j,4<=j->j<cc->o≠some j->H' j=H j):=by
 obtain⟨h0,h1,h2,h3,hn,hs,hc⟩:=hS;refine AC.go A3 λhfr=>?_;by_cases hp:h.length<=p
 ·have hd:decide ((p:Int)≥h.length)=true:=by simp;omega
  have hr:K1 h wk p x=none:=by rw[K1,if_pos (.inl hp)]
  refine wAy h1 h2 h3 hd ?_;exact⟨_,_,GL.refl _ _,by rw[hr]⟩
 have hp':p<h.length:=a8
 have hd:decide ((p:Int)≥h.length)=false:=b9
 have hg:=A0B hp';have hgd:h.getD p 0=h[p]:=by simp[List.getD,hg]
 have hput:=B2q (f:=I64) (l:=h) (n:=p) (a:=x) hp';have hle:p+1<=h.length:=hp';rcases o with _|id
 ·obtain rfl:=hn rfl;have ne0:=A7s 0 1 2 3 cc (cc+1) (by omega);repeat'((first|(with_reducible first|apply wr|refine k_cu ?_ ?_)|(with_reducible apply wb2<;>(intro hb;try simp only[hb]))|((with_reducible refine G6 (A0l (by decide) (by decide) (by decide)) ?_)))<;>try simp only[go_sem,seval,h1,h2,h3,hd,hp',hg,hput,hle,A0M,ne0])
  ·have hr:K1 h [] p x=none:=by simp_all[K1]
   exact⟨_,_,GL.refl _ _,by rw[hr]⟩
  ·have hr:K1 h [] p x=none:=by simp_all[K1]
   exact⟨_,_,GL.refl _ _,by rw[hr]⟩
  ·exfalso;simp at *;omega
  ·have hr:K1 h [] p x=some (h,[]):=by simp_all[K1]<;>omega
   refine⟨_,_,GL.refl _ _,?_⟩;rw[hr];exact⟨rfl,none,junk,⟨h0,h1,h2,h3,hn,hs,hc⟩,λ_ _ _ _=>rfl⟩
  ·have hr:K1 h [] p x=some (h.set p x,p :: []):=by simp_all[K1]<;>omega
   refine⟨_,_,GL.refl _ _,?_⟩;rw[hr];refine⟨rfl,some (cc+1),[],⟨?_,?_,?_,?_,by simp,λi hi=>?_,by omega⟩,λj hj1 hj2 hj3=>?_⟩
   ·simp only[go_sem,seval,ne0,h0]
   ·simp only[go_sem,seval,ne0]
   ·simp only[go_sem,seval,ne0,h2,List.length_set]
   ·simp only[go_sem,seval,ne0]
   ·cases hi;refine⟨a8,a8,?_⟩;simp only[go_sem,seval,ne0,A8d];try rfl
   ·have k1:¬j=1:=by omega
    have k2:¬j=3:=a8
    have k3:¬j=cc:=a8
    have k4:¬j=cc+1:=a8
    simp only[go_sem,seval,k1,k2,k3,k4]
  ·exfalso;simp at *;omega
 ·obtain⟨i2,i3,hi4⟩:=hs id rfl;have ne0:=E9f 0 1 2 3 id cc (cc+1) (by omega);have hmx:wk.length+1<=maxLen:=by simp only[maxLen];omega
  have hcl:wk.length*1<=(wkC wk++junk).length:=by simp[A8c]
  have htake:(wkC wk++junk).take (wk.length)=wkC wk:=List.take_left' (A8c wk);repeat'((first|(with_reducible first|apply wr|refine k_cu ?_ ?_)|(with_reducible apply wb2<;>(intro hb;try simp only[hb]))|((with_reducible refine G6 (E5t hcl (by omega) hmx) ?_)))<;>try simp only[go_sem,seval,h1,h2,h3,hi4,hd,hp',hg,hput,hle,htake,ne0])
  ·have hr:K1 h wk p x=none:=by simp_all[K1]
   exact⟨_,_,GL.refl _ _,by rw[hr]⟩
  ·have hr:K1 h wk p x=none:=by simp_all[K1]
   exact⟨_,_,GL.refl _ _,by rw[hr]⟩
  ·exfalso;simp at *;omega
  ·have hr:K1 h wk p x=some (h,wk):=by simp_all[K1]<;>omega
   refine⟨_,_,GL.refl _ _,?_⟩;rw[hr];exact⟨rfl,some id,junk,⟨h0,h1,h2,h3,hn,hs,hc⟩,λ_ _ _ _=>rfl⟩
  ·have hr:K1 h wk p x=some (h.set p x,p::wk):=by simp_all[K1]<;>omega
   refine⟨_,_,GL.refl _ _,?_⟩;rw[hr];refine⟨rfl,some (cc+1),[],⟨?_,?_,?_,?_,by simp,λi hi=>?_,by omega⟩,λj hj1 hj2 hj3=>?_⟩
   ·simp only[go_sem,seval,ne0,h0]
   ·simp only[go_sem,seval,ne0]
   ·simp only[go_sem,seval,ne0,h2,List.length_set]
   ·simp only[go_sem,seval,ne0]
   ·cases hi;refine⟨a8,a8,?_⟩;simp only[go_sem,seval,ne0,A8d];try rfl
   ·have hj4:¬j=id:=λe=>hj3 (by rw[e]);have k1:¬j=1:=by omega
    have k2:¬j=3:=a8
    have k3:¬j=cc:=a8
    have k4:¬j=cc+1:=a8
    simp only[go_sem,seval,hj4,k1,k2,k3,k4]
  ·exfalso;simp at *;omega
theorem c_reach'(c:Prg)(h:List Int)(wk:List Nat)(o:Option Nat)(junk:List DV)(H:Hp)(cc:Nat)(p:Int)(x:Int)(hp:0<=p)(hS:WkS c h wk o junk H cc)(hw:wk.length<=100000):
  AC Tryz.prog 148 [I64 p,I64 x,.ptr 2 0,.ptr 3 0] H cc (λv H' c'=>(K1 h wk p.toNat x=none/\v=.bool false) \/
   ∃h' wk' o' junk',K1 h wk p.toNat x=some (h',wk')/\v=.bool true/\WkS c h' wk' o' junk' H' c'/\∀j,4<=j->j<cc->o≠some j->H' j=H j):=by
 have hpp:(p.toNat:Int)=p:=a8
 have key:=c_reach c h wk o junk H cc p.toNat x hS hw;rw[hpp]at key;refine key.mono λv H' c' hq=>?_;cases hr:K1 h wk p.toNat x with
 |none=>rw[hr]at hq;exact .inl ⟨rfl,hq⟩
 |some q =>
  obtain⟨h',wk'⟩:=q;rw[hr]at hq;obtain⟨e,o',junk',s1,s2⟩:=hq;exact .inr ⟨h',wk',o',junk',rfl,e,s1,s2⟩
abbrev clo:DV:=.func 148 [] [.ptr 2 0,.ptr 3 0]
theorem C5g(c:Prg)(hl:Lim c)(hj:K9 c=true)(r:Option (List Int))(n:Nat)(h:List Int)(wk:List Nat)(o:Option Nat)(junk:List DV)(cc:Nat)(hc4:4<=cc)(hn:o=none->wk=[])(hs:∀i,o=some i->4<=i/\i<cc)
  (hI:WkI c.instrs.length h wk) (hb:wk.length+2*n<=60000) (hr:C1y c n h wk=some r) :
  IW Tryz.prog 150 (.loop (pz Tryz.prog 93 (.o (.o (.i (.o (.i .h))))))) ⟨tm [(1,.ptr 0 0),(4,.ptr 2 0),(6,.ptr 3 0),(7,clo)],WH c h wk o junk,cc⟩ (bk 4 (sq Tryz.prog 150 (pz Tryz.prog 93 (.i (.i (.o (.o (.o (.i .h))))))) (rt [.tmp 2,.tmp 3] λv H' x => ∃H2,GL H' [v] H2 [D1q r]))):=by
 have hjI:∀i∈c.instrs,i.op=12\/i.op=13\/i.op=14->0<=i.A/\i.A<=(c.instrs.length:Int)-1:=by
  intro i hi hop;simp only[K9,A0G,A0R]at hj;have:=hj.1 i hi;have hk:(D4 i.op).2.2=7:=by rcases hop with e|e|e<;>rw[e]<;>decide
  simpa[A7e,hk,inM] using this
 obtain⟨wp,wv,ws,wi,wt,we,li,ls,le,lp,lv⟩:=hl;refine A9 (λq:Nat × List Int × List Nat × Option Nat × List DV=>[(1,.ptr 0 0),(4,.ptr 2 0),(6,.ptr 3 0),(7,clo)])
  (λq=>WH c q.2.1 q.2.2.1 q.2.2.2.1 q.2.2.2.2)
  (λq cc=>4<=cc/\(q.2.2.2.1=none->q.2.2.1=[])/\(∀i,q.2.2.2.1=some i->4<=i/\i<cc)/\WkI c.instrs.length q.2.1 q.2.2.1/\q.2.2.1.length+2*q.1<=60000/\C1y c q.1 q.2.1 q.2.2.1=some r)
  (λq=>q.1) (n,h,wk,o,junk) ⟨rfl,rfl,rfl,rfl,trivial⟩ (Sub.refl _) ⟨hc4,hn,hs,hI,hb,hr⟩ ?_
 clear hc4 hn hs hI hb hr;rintro⟨n,h,wk,o,junk⟩ cc ⟨hc4,hn,hs,hI,hb,hr⟩;simp only at hn hs hI hb hr;obtain⟨m,rfl⟩:∃m,n=m+1:=by
  cases n with
  |zero=>cases hr
  |succ m=>exact⟨m,rfl⟩
 have hS:=WkS.mk' (c:=c) (h:=h) (junk:=junk) hn hs hc4;rcases wk with _|⟨p,wk⟩
 ·simp only[C1y,Option.some.injEq]at hr;subst hr;have hlen:B1t (todoV o 0)=some (I64 0):=by cases o<;>rfl
  (repeat'((with_reducible first|apply wr|refine k_cu ?_ ?_|apply wb2<;>(intro hb;try simp only[hb]))<;>try simp only[go_sem,seval,hS.h0,hS.h1,hS.h2,hS.h3,hlen,A0M]));exact E0x (u:=1) hS.h1 rfl (by simp) (B0s h) ⟨[],by rw[A2f,A1D]⟩
 rcases o with _|id
 ·exact absurd (hn rfl) (by simp)
 obtain⟨i2,i3⟩:=hs id rfl;have hbl:=(hS.hs id rfl).2.2;rw[A0C]at hb;have hpos:decide (((wk.length+1:Nat):Int)>0)=true:=by simp
 have hw:=w64 (n:=(((wk.length+1:Nat):Int)-1)) (by omega) (by omega);have hw1:(((wk.length+1:Nat):Int)-1)=(wk.length:Int):=a8
 rw[hw1]at hw;obtain⟨s1,s2,s3⟩:=hI.mem p A0H;have hIt:WkI c.instrs.length h wk:=⟨hI.hl,λq hq=>hI.mem q (A0D _ hq)⟩;have hlen:=hI.hl;have hp':p<h.length:=a8
 have hgh:=A0B hp';have hgi:=A0B s1;have eh:h.getD p 0=h[p]:=by simp[List.getD,hgh]
 have ei:c.instrs.getD p ⟨0,0⟩=c.instrs[p]:=by simp[List.getD,hgi]
 simp only[C1y]at hr;rw[eh]at s2 s3;rw[eh,ei]at hr;obtain⟨b1,b2,b3,b4⟩:=B9a c.instrs[p].op;have w2:=w64 (n:=h[p]-(D4 c.instrs[p].op).1);have w3:=w64 (n:=h[p]-(D4 c.instrs[p].op).1+(D4 c.instrs[p].op).2.1);have hcell:(wkC (p::wk)++junk)[wk.length]? = some (I64 (p:Int)):=by
  rw[A8d,A0K,A1W (by simp[A8c]),A8c];simp
 have hblen:wk.length+1<=(wkC (p::wk)++junk).length:=by simp[A8c]
 have ne0:=E9f 0 1 2 3 id cc (cc+1) (by omega);by_cases hok:¬h[p]≥(D4 c.instrs[p].op).1
 ·rw[if_pos (.inl (by omega))]at hr;cases hr;have hok':decide (h[p]≥(D4 c.instrs[p].op).1)=false:=by simpa using hok
  repeat'((with_reducible first|apply wr|refine cpc (c_stack _) ?_|refine k_cu ?_ ?_|apply wb2<;>(intro hb;try simp only[hb]))<;>try simp only[go_sem,seval,hS.h0,hS.h1,hS.h2,hS.h3,hbl,A0C,hw1,hw,hpos,hcell,hblen,hgh,hgi,s1,hp',hlen,w2,w3,hok',A3T,A2W,ne0])
  all_goals exact O3
 have hok1:h[p]≥(D4 c.instrs[p].op).1:=a8
 have hok':decide (h[p]≥(D4 c.instrs[p].op).1)=true:=by simpa using hok1
 have hwp:=w64 (n:=(p:Int)+1);have hpp:((p:Int)+1).toNat=p+1:=a8
 by_cases e31:c.instrs[p].op=31
 ·have o31:(c.instrs[p].op==31)=true:=by simpa using e31
  by_cases hz:h[p]=0
  ·have hz':(h[p]==0)=true:=by simpa using hz
   rw[iN]at hr;have hA:I2 c.instrs[p] p h[p]=[]:=by simp[I2,e31]
   rw[hA]at hr;simp only[N0]at hr;(repeat'((with_reducible first|apply wr|refine cpc (c_stack _) ?_|refine k_cu ?_ ?_|apply wb2<;>(intro hb;try simp only[hb]))<;>try simp only[go_sem,seval,hS.h0,hS.h1,hS.h2,hS.h3,hbl,A0C,hw1,hw,hpos,hcell,hblen,hgh,hgi,s1,hp',hlen,w2,w3,hok',A3T,A2W,ne0,o31,hz']));have hS':=(hS.pop.upd ⟨0,true,[DV.int IntKind.i64 0,DV.int IntKind.i64 0]⟩ (A0E _) (A0E _)).upd ⟨0,true,[I64 c.instrs[p].op,I64 c.instrs[p].A]⟩ (A0E _) (A2M _);exact⟨(m,h,wk,some id,I64 (p:Int)::junk),hS'.sub,inv ⟨hS'.hc,hS'.hn,λi hi=>⟨(hS'.hs i hi).1,(hS'.hs i hi).2.1⟩,hIt,g9,hr⟩,by simp only;omega⟩
  ·have hz':(h[p]==0)=false:=by simpa using hz
   rw[if_pos (.inr ⟨e31,hz⟩)]at hr;cases hr;(repeat'((with_reducible first|apply wr|refine cpc (c_stack _) ?_|refine k_cu ?_ ?_|apply wb2<;>(intro hb;try simp only[hb]))<;>try simp only[go_sem,seval,hS.h0,hS.h1,hS.h2,hS.h3,hbl,A0C,hw1,hw,hpos,hcell,hblen,hgh,hgi,s1,hp',hlen,w2,w3,hok',A3T,A2W,ne0,o31,hz']));exact O3
 have o31:(c.instrs[p].op==31)=false:=by simpa using e31
 rw[iN]at hr;by_cases e12:c.instrs[p].op=12
 ·have o12:(c.instrs[p].op==12)=true:=by simpa using e12
  have p1:=(hjI _ (A0O s1) (.inl e12)).1;have hE:D4 c.instrs[p].op=(0,0,7):=by rw[e12];decide
  have hA:I2 c.instrs[p] p h[p]=[(c.instrs[p].A.toNat,h[p])]:=by simp[I2,e12]
  have hx:h[p]-(D4 c.instrs[p].op).1+(D4 c.instrs[p].op).2.1=h[p]:=by rw[hE];simp
  (repeat'((with_reducible first|apply wr|refine cpc (c_stack _) ?_|refine k_cu ?_ ?_|apply wb2<;>(intro hb;try simp only[hb]))<;>try simp only[go_sem,seval,hS.h0,hS.h1,hS.h2,hS.h3,hbl,A0C,hw1,hw,hpos,hcell,hblen,hgh,hgi,s1,hp',hlen,w2,w3,hok',A3T,A2W,ne0,o31,o12]));refine AC.call (c_reach' c h wk (some id) _ _ _ (c.instrs[p].A) _ (p1) ((hS.pop.upd _ (A0E _) (A0E _)).upd _ (A0E _) (A2M _)) (by omega)) ?_;rintro v H' c' hq hcc;rw[hA]at hr;rw[hx]at hq;rcases hq with ⟨hr0,rfl⟩|⟨h',wk',o',junk',hr1,rfl,hS',hfr⟩
  ·simp only[N0,hr0]at hr;cases hr;refine wAq ?_;exact O3
  ·simp only[N0,hr1]at hr;obtain⟨hI',hwk'⟩:=W6 hIt s2 hr1;refine wAq ?_;exact⟨(m,h',wk',o',junk'),hS'.sub,inv ⟨hS'.hc,hS'.hn,λi hi=>⟨(hS'.hs i hi).1,(hS'.hs i hi).2.1⟩,hI',g9,hr⟩,by simp only;omega⟩
 have o12:(c.instrs[p].op==12)=false:=by simpa using e12
 by_cases e13:c.instrs[p].op=13
 ·have o13:(c.instrs[p].op==13)=true:=by simpa using e13
  have p1:=(hjI _ (A0O s1) (.inr (.inl e13))).1;have hE:D4 c.instrs[p].op=(1,0,7):=by rw[e13];decide
  have hA:I2 c.instrs[p] p h[p]=[(p+1,h[p]-1),(c.instrs[p].A.toNat,h[p]-1)]:=by simp[I2,e13]
  have hx:h[p]-(D4 c.instrs[p].op).1+(D4 c.instrs[p].op).2.1=h[p]-1:=by rw[hE];simp
  have hge:0<=h[p]-1:=by rw[hE]at hok1;simp only at hok1;omega
  (repeat'((with_reducible first|apply wr|refine cpc (c_stack _) ?_|refine k_cu ?_ ?_|apply wb2<;>(intro hb;try simp only[hb]))<;>try simp only[go_sem,seval,hS.h0,hS.h1,hS.h2,hS.h3,hbl,A0C,hw1,hw,hpos,hcell,hblen,hgh,hgi,s1,hp',hlen,w2,w3,hok',A3T,A2W,ne0,o31,o12,o13,hwp]));refine AC.call (c_reach' c h wk (some id) _ _ _ ((p:Int)+1) _ (by omega) ((hS.pop.upd _ (A0E _) (A0E _)).upd _ (A0E _) (A2M _)) (by omega)) ?_;rintro v H' c' hq hcc;rw[hA]at hr;rw[hx]at hq;rw[hpp]at hq;rcases hq with ⟨hr0,rfl⟩|⟨h',wk',o',junk',hr1,rfl,hS',hfr⟩
  ·simp only[N0,hr0]at hr;cases hr;refine wAq ?_;exact O3
  ·obtain⟨hI',hwk'⟩:=W6 hIt hge hr1;simp only[N0,hr1]at hr;have hbox:=(hfr cc hc4 (A1Q _) (by simp;omega)).trans A0;refine wAu (wJ hbox (wJ o31 (wJ o12 (wJ o13 hwp)))) ?_;refine AC.call (c_reach' c h' wk' o' junk' _ _ c.instrs[p].A _ p1 hS' (by omega)) ?_;rintro v H2 c2 hq hcc2;rw[hx]at hq;rcases hq with ⟨hr0,rfl⟩|⟨h2,wk2,o2,junk2,hr2,rfl,hS2,hfr2⟩
   ·simp only[hr0]at hr;cases hr;refine wAq ?_;exact O3
   ·simp only[hr2]at hr;obtain⟨hI2,hwk2⟩:=W6 hI' hge hr2;refine wAq ?_;exact⟨(m,h2,wk2,o2,junk2),hS2.sub,inv ⟨hS2.hc,hS2.hn,λi hi=>⟨(hS2.hs i hi).1,(hS2.hs i hi).2.1⟩,hI2,g9,hr⟩,by simp only;omega⟩
 have o13:(c.instrs[p].op==13)=false:=by simpa using e13
 by_cases e14:c.instrs[p].op=14
 ·have o14:(c.instrs[p].op==14)=true:=by simpa using e14
  have p1:=(hjI _ (A0O s1) (.inr (.inr e14))).1;have hE:D4 c.instrs[p].op=(1,1,7):=by rw[e14];decide
  have hA:I2 c.instrs[p] p h[p]=[(p+1,h[p]),(c.instrs[p].A.toNat,h[p]-1)]:=by simp[I2,e14]
  have hx:h[p]-(D4 c.instrs[p].op).1+(D4 c.instrs[p].op).2.1=h[p]:=by rw[hE];simp
  have hge:0<=h[p]-1:=by rw[hE]at hok1;simp only at hok1;omega
  have w4:=w64 (n:=h[p]-(D4 c.instrs[p].op).1+(D4 c.instrs[p].op).2.1-1);(repeat'((with_reducible first|apply wr|refine cpc (c_stack _) ?_|refine k_cu ?_ ?_|apply wb2<;>(intro hb;try simp only[hb]))<;>try simp only[go_sem,seval,hS.h0,hS.h1,hS.h2,hS.h3,hbl,A0C,hw1,hw,hpos,hcell,hblen,hgh,hgi,s1,hp',hlen,w2,w3,hok',A3T,A2W,ne0,o31,o12,o13,o14,hwp,w4]));refine AC.call (c_reach' c h wk (some id) _ _ _ ((p:Int)+1) _ (by omega) ((hS.pop.upd _ (A0E _) (A0E _)).upd _ (A0E _) (A2M _)) (by omega)) ?_;rintro v H' c' hq hcc;rw[hA]at hr;rw[hx]at hq;rw[hpp]at hq;rcases hq with ⟨hr0,rfl⟩|⟨h',wk',o',junk',hr1,rfl,hS',hfr⟩
  ·simp only[N0,hr0]at hr;cases hr;refine wAq ?_;exact O3
  ·obtain⟨hI',hwk'⟩:=W6 hIt s2 hr1;simp only[N0,hr1]at hr;have hbox:=(hfr cc hc4 (A1Q _) (by simp;omega)).trans A0;refine wAu (wJ hbox (wJ o31 (wJ o12 (wJ o13 (wJ o14 (wJ hwp w4)))))) ?_;refine AC.call (c_reach' c h' wk' o' junk' _ _ c.instrs[p].A _ p1 hS' (by omega)) ?_;rintro v H2 c2 hq hcc2;rw[hx]at hq;rcases hq with ⟨hr0,rfl⟩|⟨h2,wk2,o2,junk2,hr2,rfl,hS2,hfr2⟩
   ·simp only[hr0]at hr;cases hr;refine wAq ?_;exact O3
   ·simp only[hr2]at hr;obtain⟨hI2,hwk2⟩:=W6 hI' hge hr2;refine wAq ?_;exact⟨(m,h2,wk2,o2,junk2),hS2.sub,inv ⟨hS2.hc,hS2.hn,λi hi=>⟨(hS2.hs i hi).1,(hS2.hs i hi).2.1⟩,hI2,g9,hr⟩,by simp only;omega⟩
 have o14:(c.instrs[p].op==14)=false:=by simpa using e14
 have hA:I2 c.instrs[p] p h[p]=[(p+1,h[p]-(D4 c.instrs[p].op).1+(D4 c.instrs[p].op).2.1)]:=by simp[I2,e31,e12,e13,e14]
 have hge:0<=h[p]-(D4 c.instrs[p].op).1+(D4 c.instrs[p].op).2.1:=a8
 (repeat'((with_reducible first|apply wr|refine cpc (c_stack _) ?_|refine k_cu ?_ ?_|apply wb2<;>(intro hb;try simp only[hb]))<;>try simp only[go_sem,seval,hS.h0,hS.h1,hS.h2,hS.h3,hbl,A0C,hw1,hw,hpos,hcell,hblen,hgh,hgi,s1,hp',hlen,w2,w3,hok',A3T,A2W,ne0,o31,o12,o13,o14,hwp]));refine AC.call (c_reach' c h wk (some id) _ _ _ ((p:Int)+1) _ (by omega) ((hS.pop.upd _ (A0E _) (A0E _)).upd _ (A0E _) (A2M _)) (by omega)) ?_;rintro v H' c' hq hcc;rw[hA]at hr;rw[hpp]at hq;rcases hq with ⟨hr0,rfl⟩|⟨h',wk',o',junk',hr1,rfl,hS',hfr⟩
 ·simp only[N0,hr0]at hr;cases hr;refine wAq ?_;exact O3
 ·simp only[N0,hr1]at hr;obtain⟨hI',hwk'⟩:=W6 hIt hge hr1;refine wAq ?_;exact⟨(m,h',wk',o',junk'),hS'.sub,inv ⟨hS'.hc,hS'.hn,λi hi=>⟨(hS'.hs i hi).1,(hS'.hs i hi).2.1⟩,hI',g9,hr⟩,by simp only;omega⟩
theorem c_heightsP(c:Prg)(hl:Lim c)(hj:K9 c=true)(n:Nat)(hn0:n<=20000)(r:Option (List Int))(hr:C1x c n=some r):PC Tryz.prog 93 [c.v] (D1q r):=by
 have hl0:=hl;obtain⟨wp,wv,ws,wi,wt,we,li,ls,le,lp,lv⟩:=hl;have hms:=E4r (sz:=1) (bytes:=8) (z:=[I64 0]) (k:=.i64) (k':=.i64) (n:=c.instrs.length) (by omega) (by omega) rfl rfl;refine PC.ofT A3 rfl (A0F rfl) (by simp[DV.nlL,DV.nl,N4,J1,A0f,K0]) (by cases r<;>simp[D1q,DV.nlL,DV.nl,N4]) ?_;refine wAs (wJ hms @B6s) ?_
 refine A9 (λk:Nat=>[(1,.ptr 0 0),(4,.ptr 2 0),(21,I64 c.instrs.length),(22,I64 k)]) (λk=>((nil.upd 0 ⟨0,true,c.cs⟩).upd 1 ⟨1,true,(A7g c.instrs.length k).map I64⟩).upd 2 ⟨0,true,[.slc 1 0 c.instrs.length]⟩) (λk cc=>cc=3/\k<=c.instrs.length) (λk=>c.instrs.length-k) 0
  (by simp[B5,tm,Tm.upd]) (by rw[A1];simpa[A7g] using Sub.refl _) (by simp) ?_
 rintro k cc ⟨rfl,hk⟩;by_cases hlt:k<c.instrs.length
 ·have hd:=dtz hlt;have hw:=w64 (n:=(k:Int)+1);have hlen:(A7g c.instrs.length k).length=c.instrs.length:=by simp[A7g];omega
  have hle:k+1<=c.instrs.length:=hlt;have hput:=B2q (f:=I64) (l:=A7g c.instrs.length k) (n:=k) (a := -1) (by rw[hlen];exact hlt);refine wA1 hd hw hlen hle hlt hput ?_;exact⟨k+1,rfl,by rw[C5q hlt];(intro j b hj;simp only[Hp.upd,Hp.del,Sym.nil,B1n,optH]at hj ⊢;(repeat' split at hj)<;>(repeat' split)<;>first|exact hj|(exfalso;omega)|cases hj),inv ⟨rfl,hlt⟩,by omega⟩
 have hd:=dfz hlt;have hfull:A7g c.instrs.length k=List.replicate c.instrs.length (-1):=by
  have:c.instrs.length-k=0:=a8
  have hk2:k=c.instrs.length:=a8
  simp[A7g,this,hk2]
 refine wAs (wJ hd hfull) ?_;clear hd hfull hlt hk
 have hjE:∀e∈c.entries,0<=e.pos/\e.pos<=(c.instrs.length:Int)-1:=by
  intro e he;simp only[K9,A0G,A0R]at hj;have:=hj.2 e he;simpa[C1p,inM] using this
 refine A9 (λq:Nat × List Int × List Nat × Option Nat × List DV=>[(1,.ptr 0 0),(4,.ptr 2 0),(6,.ptr 3 0),(7,clo),(31,Q6 c.entries),(32,I64 c.entries.length),(33,I64 q.1)])
  (λq=>WH c q.2.1 q.2.2.1 q.2.2.2.1 q.2.2.2.2)
  (λq cc=>4<=cc/\q.1<=c.entries.length/\(q.2.2.2.1=none->q.2.2.1=[])/\(∀i,q.2.2.2.1=some i->4<=i/\i<cc)/\WkI c.instrs.length q.2.1 q.2.2.1/\q.2.2.1.length<=q.1/\N0 q.2.1 q.2.2.1 ((c.entries.drop q.1).map B4y)=N0 (List.replicate c.instrs.length (-1)) [] (c.entries.map B4y))
  (λq=>c.entries.length-q.1) (0,List.replicate c.instrs.length (-1),[],none,[])
  (by simp[B5,tm,Tm.upd,todoV]) (by simpa[WH,optH,todoV] using Sub.refl _) ⟨a8,a8,λ_=>rfl,by simp,⟨by simp,by simp⟩,by simp,by simp⟩ ?_
 rintro⟨k,h,wk,o,junk⟩ cc ⟨hc4,hk,hn,hs,hI,hwk,hrL⟩;simp only at hk hn hs hI hwk hrL;have hS:=WkS.mk' (c:=c) (h:=h) (junk:=junk) hn hs hc4;by_cases hlt:k<c.entries.length
 ·have hd:=dtz hlt;have hw:=w64 (n:=(k:Int)+1);have hg:=A0B hlt;obtain⟨p1,p2⟩:=hjE _ (A0O hlt);have hpos:c.entries[k].pos=((c.entries[k].pos.toNat:Nat):Int):=by omega
  have ne0:=A7s 0 1 2 3 cc (cc+1) (by omega);(repeat'((with_reducible first|apply wr|refine k_cu ?_ ?_|apply wb2<;>(intro hb;try simp only[hb]))<;>try simp only[go_sem,seval,hd,hw,hg,hS.h0,hS.h1,hS.h2,hS.h3,ne0]));rw[A1];refine AC.call (c_reach' c h wk o junk _ _ c.entries[k].pos 0 p1 (hS.upd _ (A0E _) (A2M _)) (by omega)) ?_;rintro v H' c' hq hcc;rw[A1I hlt,A0P]at hrL;rcases hq with ⟨hr0,rfl⟩|⟨h',wk',o',junk',hr1,rfl,hS',hfr⟩
  ·have hr2:r=none:=by
    rw[C1x, <- hrL]at hr;simp only[N0,B4y,hr0]at hr;simpa using hr.symm
   subst hr2;refine wAq ?_;exact O3
  ·simp only[N0,B4y,hr1]at hrL;obtain⟨hI',hwk'⟩:=W6 hI (A2U 0) hr1;refine wAu hw ?_;exact⟨(k+1,h',wk',o',junk'),rfl,hS'.sub,inv ⟨hS'.hc,hlt,hS'.hn,λi hi=>⟨(hS'.hs i hi).1,(hS'.hs i hi).2.1⟩,hI',g9,hrL⟩,by simp only;omega⟩
 have hd:=dfz hlt;obtain rfl:k=c.entries.length:=a8
 rw[A2S (A0E _)]at hrL;rw[C1x, <- hrL]at hr;simp only[List.map_nil,N0]at hr;refine wAs hd ?_;exact C5g c hl0 hj r n h wk o junk cc hc4 hn hs hI (by omega) hr
theorem c_heightsP'(c:Prg)(hl:Lim c)(hj:K9 c=true):PC Tryz.prog 93 [c.v] (D1q (hR c)) :=
 c_heightsP c hl hj 4001 (by omega) _ (E2l hl.li hj)
theorem c_verify(c:Prg)(hs:∀s∈c.strings,s.length<=140737488355328)(n1:c.instrs.length<=9223372036854775807):PC Tryz.prog 55 [c.v] (.tup [J5 (C3v c),I64 (H6 c)]):=by
 by_cases hL:P2 c=true
 ·have hl:=Lim.of hL;have hl0:=hl;obtain⟨wp,wv,ws,wi,wt,we,li,ls,le,lp,lv⟩:=hl;by_cases hp:A0d c=true
  ·by_cases hj:K9 c=true
   ·refine PC.go A3 ?_;(repeat'((with_reducible first|apply wr|refine cpc (c_limits c) ?_|refine cpc (c_bparts c hl0 hs) ?_|refine cpc (c_targets c hl0) ?_|refine k_cu ?_ ?_|apply wb2<;>(intro hb;try simp only[hb]))<;>try simp only[go_sem,seval,hL,hp,hj]));refine A9 (λk:Nat=>[(1,.ptr 0 0),(4,I64 k)]) (λ_=>nil.upd 0 ⟨0,true,c.cs⟩) (λk cc=>1<=cc/\1<=k/\(k<=c.entries.length\/k=1)/\Z4 (c.entries.take k)=true) (λk=>c.entries.length-k) 1 (by simp[B5,tm,Tm.upd]) (Sub.refl _) ⟨a8,a8,a8,by cases c.entries<;>rfl⟩ ?_;rintro k cc ⟨h1c,h1k,hk,he⟩;by_cases hlt:k<c.entries.length
    ·have hd:=dtz hlt;have hg:=A0B hlt;have hlt':k-1<c.entries.length:=by omega
     have hg':=A0B hlt';have hw:=w64 (n:=(k:Int)+1);have hw1:=w64 (n:=(k:Int)-1);have hw2:(k:Int)-1=((k-1:Nat):Int):=a8
     rw[hw2]at hw1;repeat'((with_reducible first|apply wr|refine cpc (c_bless _ _) ?_|refine k_cu ?_ ?_|apply wb2<;>(intro hb;try simp only[hb]))<;>try simp only[go_sem,seval,hd,hg,hg',hw,hw2,hw1])
     ·have hf:=C6c h1k hg' hg (by simpa using hb);have e:H6 c=66:=by simp[H6,hL,hp,hj,hf]
      simp only[C3v,e];exact O3
     ·exact⟨k+1,rfl,Sub.refl _,inv ⟨a8,a8,a8,by rw[C6b h1k hg' hg he];simpa using hb⟩,by omega⟩
    ·have hd:decide ((k:Int)<c.entries.length)=false:=by simp;omega
     have hch:Z4 c.entries=true:=by
      rw[A0J (by omega)]at he;exact he
     cases hh:hR c with
     |none =>
      have key:=c_heightsP' c hl0 hj;rw[hh,D1p]at key;refine wA8 key hd ?_;have e:H6 c=53:=by simp[H6,hL,hp,hj,hch,hh]
      simp only[C3v,e];exact O3
     |some h =>
      have key:=c_heightsP' c hl0 hj;rw[hh,D1o]at key;refine wA8 key hd ?_;have e:H6 c=0:=by simp[H6,hL,hp,hj,hch,hh]
      simp only[C3v,e,hh];exact A4 rfl
   ·have hj':K9 c=false:=by simpa using hj
    refine PC.go A3 ?_;(repeat'((with_reducible first|apply wr|refine cpc (c_limits c) ?_|refine cpc (c_bparts c hl0 hs) ?_|refine cpc (c_targets c hl0) ?_|refine k_cu ?_ ?_|apply wb2<;>(intro hb;try simp only[hb]))<;>try simp only[go_sem,seval,hL,hp,hj']));have e:H6 c=54:=by simp[H6,hL,hp,hj']
    simp only[C3v,e];exact O3
  ·have hp':A0d c=false:=by simpa using hp
   refine PC.go A3 ?_;(repeat'((with_reducible first|apply wr|refine cpc (c_limits c) ?_|refine cpc (c_bparts c hl0 hs) ?_|refine k_cu ?_ ?_|apply wb2<;>(intro hb;try simp only[hb]))<;>try simp only[go_sem,seval,hL,hp']));have e:H6 c=51:=by simp[H6,hL,hp']
   simp only[C3v,e];exact O3
 ·have hL':P2 c=false:=by simpa using hL
  refine PC.go A3 ?_;refine wA8 (c_limits c) hL' ?_;have e:H6 c=9:=by simp[H6,hL']
  simp only[C3v,e];exact O3
theorem c_valid(c:Prg)(hs:∀s∈c.strings,s.length<=140737488355328)(n1:c.instrs.length<=9223372036854775807):PC Tryz.prog 20 [c.v] (I64 (H6 c)):=by
 refine PC.go A3 ?_;refine wA5 (c_verify c hs n1) ?_;exact A4 rfl
abbrev x8:XT Tryz.prog 8:=mkF (i:=⟨113,.seq (.reg [oX 2 0,oX 3 1,oV 4 (.bool false)]) (.seq (.seq (.reg [oF 8 2 0,oL 9 8,oH 10 9,oF 11 3 0,oL 12 11,oH 13 12,oB 14 10 13 .neq,oM 15 14,hF 16 2 1 15,hL 17 16 15,oR 18 (.len (.t 17)) 15,hF 19 3 1 15,hL 20 19 15,oR 21 (.len (.t 20)) 15,oR 22 (.bin .neq (.t 18) (.t 21)) 15,oO 23 15 22,oM 24 23,hF 25 2 2 24,hL 26 25 24,oR 27 (.len (.t 26)) 24,hF 28 3 2 24,hL 29 28 24,oR 30 (.len (.t 29)) 24,oR 31 (.bin .neq (.t 27) (.t 30)) 24,oO 32 24 31,oM 33 32,hF 34 2 5 33,hL 35 34 33,hF 36 3 5 33,hL 37 36 33,oR 38 (.bin .neq (.t 35) (.t 37)) 33,oO 39 33 38,oM 40 39,hF 41 2 6 40,hL 42 41 40,hF 43 3 6 40,hL 44 43 40,oR 45 (.bin .neq (.t 42) (.t 44)) 40,oO 46 40 45]) (.cond (.t 46) (.seq (.reg [oV 4 (.bool false)]) .ret) .skip)) (.seq (.seq (.reg [oI 5 0]) (.blk 0 (.loop (.seq (.seq (.reg [oM 47 5,oF 48 2 0,oL 49 48,oH 50 49,oB 51 47 50 .lss]) (.cond (.t 51) .skip (.exit 0))) (.seq (.blk 1 (.seq (.drw 11 (dQ [oF 54 2 0,oL 55 54,oM 56 5,oA 57 55 56 2,oD 58 57 2,oF 59 3 0,oL 60 59,oM 61 5,oA 62 60 61 2,oD 63 62 2,oP 64 (.eqa true [0,0] (.t 58) (.t 63))] 0)) (.cond (.t 64) (.seq (.reg [oV 4 (.bool false)]) .ret) .skip))) (.reg [oM 52 5,oK 53 52 .add 1,oM 5 53])))))) (.seq (.seq (.reg [oI 6 0]) (.blk 2 (.loop (.seq (.seq (.reg [oM 65 6,oF 66 2 1,oL 67 66,oH 68 67,oB 69 65 68 .lss]) (.cond (.t 69) .skip (.exit 2))) (.seq (.blk 3 (.seq (.drw 11 (dQ [oF 72 2 1,oL 73 72,oM 74 6,oA 75 73 74 1,oL 76 75,oF 77 3 1,oL 78 77,oM 79 6,oA 80 78 79 1,oL 81 80,oB 82 76 81 .neq] 0)) (.cond (.t 82) (.seq (.reg [oV 4 (.bool false)]) .ret) .skip))) (.reg [oM 70 6,oK 71 70 .add 1,oM 6 71])))))) (.seq (.seq (.reg [oI 7 0]) (.blk 4 (.loop (.seq (.seq (.reg [oM 83 7,oF 84 2 2,oL 85 84,oH 86 85,oB 87 83 86 .lss]) (.cond (.t 87) .skip (.exit 4))) (.seq (.blk 5 (.seq (.drw 11 (dQ [oF 90 2 2,oL 91 90,oM 92 7,oA 93 91 92 4,oD 94 93 4,oF 95 3 2,oL 96 95,oM 97 7,oA 98 96 97 4,oD 99 98 4,oP 100 (.eqa true [0,0,0,0] (.t 94) (.t 99))] 0)) (.cond (.t 100) (.seq (.reg [oV 4 (.bool false)]) .ret) .skip))) (.reg [oM 88 7,oK 89 88 .add 1,oM 7 89])))))) (.seq (.reg [oF 101 2 3,oL 102 101,oF 103 3 3,oL 104 103,oC 105 25 [.t 102,.t 104],oM 106 105,gF 107 2 4 106,gL 108 107 106,gF 109 3 4 106,gL 110 109 106,⟨some 111,.call 25 [.t 108,.t 110],some (106,true)⟩,oJ 112 106 111,oM 4 112]) .ret))))),[.tmp 4]⟩) (by unfold P0;kernel_rfl) (λh=>by conv=>lhs;cbv)
instance t8:FT Tryz.prog 8 x8.d:=x8.ft
abbrev x10:XT Tryz.prog 10:=mkF
instance t10:FT Tryz.prog 10 x10.d:=x10.ft
theorem c_Find(c:Prg)(n1:c.entries.length<=9223372036854775807)(m t i:Int):PC Tryz.prog 10 [c.v,I64 m,I64 t,I64 i] (F5k (A7f m t i c.entries)):=by
 refine PC.ofT A3 rfl (A0F rfl) (by simp[DV.nlL,DV.nl,N4,J1,A0f,K0]) (by cases A7f m t i c.entries<;>rfl) ?_;refine wAp ?_;refine A9 (λk:Nat=>[(1,I64 m),(2,I64 t),(3,I64 i),(13,Q6 c.entries),(14,I64 c.entries.length),(15,I64 k)]) (λ_=>nil) (λk cc=>k<=c.entries.length/\A7f m t i (c.entries.drop k)=A7f m t i c.entries) (λk=>c.entries.length-k) 0 (by simp[B5,tm,Tm.upd]) (Sub.nil _) (by simp) ?_;rintro k cc ⟨hk,he⟩;by_cases hlt:k<c.entries.length
 ·have hd:=dtz hlt;have hg:=A0B hlt;have hw:=w64 (n:=(k:Int)+1);rw[C5p hg]at he;repeat'((with_reducible first|apply wr|refine k_cu ?_ ?_|apply wb2<;>(intro hb;try simp only[hb]))<;>try simp only[go_sem,seval,hd,hg,hw])
  all_goals first
   |exact⟨k+1,rfl,Sub.nil _,inv ⟨hlt,by rw[<- he,if_neg];simp_all⟩,by omega⟩
   |(rw[<- he,if_pos (by simp_all)];exact A4 rfl)
 have hd:=dfz hlt;rw[A2S (by omega)]at he;refine wAs hd ?_;rw[<- he];exact A4 rfl
theorem c_SameInts(a b:List Int)(n1:a.length<=9223372036854775807):PC Tryz.prog 25 [.lst (a.map I64),.lst (b.map I64)] (.bool (decide (a=b))):=by
 refine PC.go A3 ?_;by_cases hl:a.length=b.length
 case neg =>
  have hne:((a.length:Int) != (b.length:Int))=true:=b9
  refine wAr hne ?_;rw[decide_eq_false (λe=>hl (by rw[e]))];exact A4 rfl
 have hne:((a.length:Int) != (b.length:Int))=false:=b9
 refine wAr hne ?_;refine A9 (λk:Nat=>[(0,.lst (a.map I64)),(1,.lst (b.map I64)),(5,I64 k)]) (λ_=>nil) (λk cc=>k<=a.length/\a.take k=b.take k) (λk=>a.length-k) 0 (by simp[B5,tm,Tm.upd]) (Sub.nil _) (by simp) ?_;rintro k cc ⟨hk,he⟩;by_cases hlt:k<a.length
 ·have hd:=dtz hlt;have hlt2:k<b.length:=by omega
  have hg:=A0B hlt;have hg2:=A0B hlt2;have hw:=w64 (n:=(k:Int)+1);repeat'((with_reducible first|apply wr|refine k_cu ?_ ?_|apply wb2<;>(intro hb;try simp only[hb]))<;>try simp only[go_sem,seval,A0N,hd,hg,hg2,hw])
  all_goals first
   |(refine⟨k+1,rfl,Sub.nil _,inv ⟨hlt,(A6o hg hg2 he).2 ?_⟩,by omega⟩;simpa using hb)
   |(rw[decide_eq_false (B2z hg hg2 ?_)];exact A4 rfl;simpa using hb)
 have hd:=dfz hlt;refine wAr hd ?_;rw[decide_eq_true (B3a hl (by omega) he)];exact A4 rfl
theorem c_SameR(a b:Prg)(n1:a.instrs.length<=9223372036854775807)(n2:a.strings.length<=9223372036854775807)(n3:a.entries.length<=9223372036854775807)(n4:a.prios.length<=9223372036854775807)(n5:a.vars.length<=9223372036854775807):
  PC Tryz.prog 8 [a.v,b.v] (.bool (decide (a=b))):=by
 refine PC.go A3 ?_;by_cases h:a.instrs.length=b.instrs.length/\a.strings.length=b.strings.length/\a.entries.length=b.entries.length/\a.timers=b.timers/\a.events=b.events
 case neg =>
  repeat'((with_reducible first|apply wr|refine k_cu ?_ ?_|apply wb2<;>(intro hb;try simp only[hb]))<;>try simp only[go_sem,seval])
  all_goals first
   |(refine A4 ?_;congr 1;rw[B3v];simp_all;done)
   |(exfalso;simp only[bne_eq_false_iff_eq]at *;apply h;refine⟨?_,?_,?_,?_,?_⟩<;>first|assumption|omega)
 obtain⟨l1,l2,l3,l4,l5⟩:=h;have e1:((a.instrs.length:Int) != (b.instrs.length:Int))=false:=b9
 have e2:((a.strings.length:Int) != (b.strings.length:Int))=false:=b9
 have e3:((a.entries.length:Int) != (b.entries.length:Int))=false:=b9
 have e4:(a.timers != b.timers)=false:=by simp[l4]
 have e5:(a.events != b.events)=false:=by simp[l5]
 refine wA0 e1 e2 e3 e4 e5 ?_;refine A9 (λk:Nat=>[(2,.ptr 0 0),(3,.ptr 1 0),(5,I64 k)]) (λ_=>(nil.upd 0 ⟨0,true,a.cs⟩).upd 1 ⟨0,true,b.cs⟩) (λk cc=>2<=cc/\k<=a.instrs.length/\a.instrs.take k=b.instrs.take k) (λk=>a.instrs.length-k) 0 (by simp[B5,tm,Tm.upd]) (Sub.refl _) (by simp) ?_;rintro k cc ⟨h2,hk,he⟩;by_cases hlt:k<a.instrs.length
 ·have hd:=dtz hlt;have hlt2:k<b.instrs.length:=by omega
  have hg:=A0B hlt;have hg2:=A0B hlt2;have hw:=w64 (n:=(k:Int)+1);repeat'((with_reducible first|apply wr|refine k_cu ?_ ?_|apply wb2<;>(intro hb;try simp only[hb]))<;>try simp only[go_sem,seval,hd,hg,hg2,hw,F6f])
  all_goals first
   |(refine⟨k+1,rfl,Sub.refl _,inv ⟨a8,hlt,(A6o hg hg2 he).2 ?_⟩,by omega⟩;simpa[D6y] using hb)
   |(refine A4 ?_;congr 1;rw[B3v,decide_eq_false (B2z hg hg2 ?_)];rfl;simpa[D6y] using hb)
 have hd:=dfz hlt;have g1:=B3a l1 (by omega) he;clear he hk;refine wAs hd ?_;clear hd hlt;refine A9 (λk:Nat=>[(2,.ptr 0 0),(3,.ptr 1 0),(6,I64 k)]) (λ_=>(nil.upd 0 ⟨0,true,a.cs⟩).upd 1 ⟨0,true,b.cs⟩) (λk cc=>2<=cc/\k<=a.strings.length/\a.strings.take k=b.strings.take k) (λk=>a.strings.length-k) 0 (by simp[B5,tm,Tm.upd]) (Sub.refl _) (by simp;omega) ?_;clear k cc h2;rintro k cc ⟨h2,hk,he⟩;by_cases hlt:k<a.strings.length
 ·have hd:=dtz hlt;have hlt2:k<b.strings.length:=by omega
  have hg:=A0B hlt;have hg2:=A0B hlt2;have hw:=w64 (n:=(k:Int)+1);repeat'((with_reducible first|apply wr|refine k_cu ?_ ?_|apply wb2<;>(intro hb;try simp only[hb]))<;>try simp only[go_sem,seval,hd,hg,hg2,hw,F6f])
  all_goals first
   |(refine⟨k+1,rfl,Sub.refl _,inv ⟨a8,hlt,(A6o hg hg2 he).2 ?_⟩,by omega⟩;simpa using hb)
   |(refine A4 ?_;congr 1;rw[B3v,decide_eq_false (B2z hg hg2 (by simpa using hb))];simp)
 have hd:=dfz hlt;have g2:=B3a l2 (by omega) he;clear he hk;refine wAs hd ?_;clear hd hlt;refine A9 (λk:Nat=>[(2,.ptr 0 0),(3,.ptr 1 0),(7,I64 k)]) (λ_=>(nil.upd 0 ⟨0,true,a.cs⟩).upd 1 ⟨0,true,b.cs⟩) (λk cc=>2<=cc/\k<=a.entries.length/\a.entries.take k=b.entries.take k) (λk=>a.entries.length-k) 0 (by simp[B5,tm,Tm.upd]) (Sub.refl _) (by simp;omega) ?_;clear k cc h2;rintro k cc ⟨h2,hk,he⟩;by_cases hlt:k<a.entries.length
 ·have hd:=dtz hlt;have hlt2:k<b.entries.length:=by omega
  have hg:=A0B hlt;have hg2:=A0B hlt2;have hw:=w64 (n:=(k:Int)+1);repeat'((with_reducible first|apply wr|refine k_cu ?_ ?_|apply wb2<;>(intro hb;try simp only[hb]))<;>try simp only[go_sem,seval,hd,hg,hg2,hw,F6e])
  all_goals first
   |(refine⟨k+1,rfl,Sub.refl _,inv ⟨a8,hlt,(A6o hg hg2 he).2 ?_⟩,by omega⟩;simpa[D8l] using hb)
   |(refine A4 ?_;congr 1;rw[B3v,decide_eq_false (B2z hg hg2 (by simpa[D8l] using hb))];simp)
 have hd:=dfz hlt;have g3:=B3a l3 (by omega) he;clear he hk;repeat'((with_reducible first|apply wr|refine cpc (c_SameInts _ _ n4) ?_|refine cpc (c_SameInts _ _ n5) ?_|refine k_cu ?_ ?_|apply wb2<;>(intro hb;try simp only[hb]))<;>try simp only[go_sem,seval,hd])
 all_goals refine A4 ?_
 all_goals(congr 1;rw[B3v];simp_all)
abbrev x21:XT Tryz.prog 21:=mkF
instance t21:FT Tryz.prog 21 x21.d:=x21.ft
abbrev x6:XT Tryz.prog 6:=mkF
instance t6:FT Tryz.prog 6 x6.d:=x6.ft
theorem c_put(c:Prg)(bs:List UInt8)(o:Option Nat)(cc:Nat)(l:List Int)(h2:2<=cc)(hn:o=none->bs=[])(hs:∀i,o=some i->2<=i/\i<cc)(hl:∀n∈l,Sm n)(hl1:l.length<=100000)(hl2:bs.length<=100000000):
  AC Tryz.prog 21 [.ptr 1 0,J5 l] (EH c o bs) cc (λv H' c' => ∃o',H'=EH c o' (bs++l.flatMap J0)/\(o'=none->bs++l.flatMap J0=[])/\(∀i,o'=some i->2<=i/\i<c')):=by
 refine AC.go A3 λhfr=>?_;refine wAp ?_;refine A9 (λq:Nat × Option Nat=>[(0,.ptr 1 0),(7,J5 l),(8,I64 l.length),(9,I64 q.1)]) (λq=>EH c q.2 (bs++(l.take q.1).flatMap J0)) (λq cc=>2<=cc/\q.1<=l.length/\(q.2=none->bs++(l.take q.1).flatMap J0=[])/\∀i,q.2=some i->2<=i/\i<cc) (λq=>l.length-q.1) (0,o)
  (by simp[B5,tm,Tm.upd]) (by simpa using Sub.refl _) ⟨h2,by simp,zab,hs⟩ ?_
 clear h2 hn hs;rintro⟨k,o⟩ cc ⟨h2,hk,hn,hs⟩;simp only at hk hn hs;by_cases hlt:k<l.length
 ·have hd:=dtz hlt;have hg:=A0B hlt;have hw:=w64 (n:=(k:Int)+1);have hx:=hl _ (A0O hlt);have hz:=D2w hx.1 hx.2;have q2:=A6k J0 10 l (λx hx=>F5 (hl x hx)) k;have q3:=F5 hx;have hsgn:(decide (l[k]<0)=true/\IntKind.u64.wrap (IntKind.i64.wrap (IntKind.i64.wrap (-2*l[k])-1))=(zig l[k]:Int))\/(decide (l[k]<0)=false/\IntKind.u64.wrap (IntKind.i64.wrap (2*l[k]))=(zig l[k]:Int)):=by
   by_cases h0:l[k]<0
   ·exact .inl ⟨by simpa using h0,D2y h0 hx.1⟩
   ·exact .inr ⟨by simpa using h0,D2x (by omega) hx.2⟩
  rcases hsgn with ⟨hd0,hzz⟩|⟨hd0,hzz⟩
  all_goals
   (repeat'((with_reducible first|apply wr|refine k_cu ?_ ?_|apply wb2<;>(intro hb;try simp only[hb]))<;>try simp only[go_sem,seval,hd,hg,hw,hd0,hzz]))
  all_goals
   refine A9 (λq:Nat × List UInt8 × Option Nat=>[(0,.ptr 1 0),(6,.int .u64 (q.1:Int)),(7,J5 l),(8,I64 l.length),(9,I64 k)]) (λq=>EH c q.2.2 q.2.1)
    (λq cc=>2<=cc/\q.1<18446744073709551616/\(q.2.2=none->q.2.1=[])/\(∀i,q.2.2=some i->2<=i/\i<cc)/\q.2.1++B3z q.1=bs++(l.take k).flatMap J0++J0 l[k]) (λq=>q.1) (zig l[k],bs++(l.take k).flatMap J0,o) ⟨rfl,rfl,rfl,rfl,rfl,trivial⟩ (Sub.refl _) ⟨h2,hz,hn,hs,rfl⟩ ?_
   clear hd0 hzz h2 hn hs hz o cc;rintro⟨z,pre,o⟩ cc ⟨h2,hz,hn,hs,he⟩;simp only at hz hn hs he;have hlen:pre.length+(B3z z).length<=200000000:=by
    rw[<- A0A,he];simp only[A0A];omega
   by_cases hb:z<128
   ·have hd1:decide ((z:Int)>127)=false:=by simp;omega
    rw[A8q hb]at he hlen;have hlo:=E3p hb;have hfin:bs++(l.take (k+1)).flatMap J0=pre++[UInt8.ofNat z]:=by rw[A6l J0 hg, <- A0K, <- he]
    rcases o with _|id
    ·obtain rfl:=hn rfl;have ne0:=V8 0 1 cc (cc+1) (by omega);(repeat'((first|(with_reducible first|apply wr|refine k_cu ?_ ?_)|(with_reducible apply wb2<;>(intro hb;try simp only[hb]))|((with_reducible refine G6 (A0l (by decide) (by decide) (by decide)) ?_)))<;>try simp only[go_sem,seval,hd1,hlo,hw,EH,optH,ne0]));exact⟨(k+1,some (cc+1)),rfl,o7,inv ⟨a8,hlt,by simp,λi hi=>by cases hi;omega⟩,by simp only;omega⟩
    ·obtain⟨i1,i2⟩:=hs id rfl;simp only[A0I]at hlen;have ne0:=A1y 0 1 id cc (cc+1) (by omega);(repeat'((first|(with_reducible first|apply wr|refine k_cu ?_ ?_)|(with_reducible apply wb2<;>(intro hb;try simp only[hb]))|((with_reducible refine G6 (Z6 (A2y _) (by omega) (by omega)) ?_)))<;>try simp only[go_sem,seval,hd1,hlo,hw,EH,optH,ne0]));exact⟨(k+1,some (cc+1)),rfl,o7,inv ⟨a8,hlt,by simp,λi hi=>by cases hi;omega⟩,by simp only;omega⟩
   have hd1:decide ((z:Int)>127)=true:=b9
   rw[B2t hb]at he hlen;have hhi:=D9d z;have hq:=E8k hz;rcases o with _|id
   ·obtain rfl:=hn rfl;have ne0:=V8 0 1 cc (cc+1) (by omega);(repeat'((first|(with_reducible first|apply wr|refine k_cu ?_ ?_)|(with_reducible apply wb2<;>(intro hb;try simp only[hb]))|((with_reducible refine G6 (A0l (by decide) (by decide) (by decide)) ?_)))<;>try simp only[go_sem,seval,hd1,hhi,hq,A8k,B3u,EH,optH,ne0]));exact⟨(z / 128,[]++[UInt8.ofNat (z%128+128)],some (cc+1)),rfl,o8,inv ⟨a8,g9,by simp,λi hi=>by cases hi;omega,by simp only[A0K,List.singleton_append]at he ⊢;exact he⟩,by simp only;omega⟩
   ·obtain⟨i1,i2⟩:=hs id rfl;simp only[A0C]at hlen;have ne0:=A1y 0 1 id cc (cc+1) (by omega);(repeat'((first|(with_reducible first|apply wr|refine k_cu ?_ ?_)|(with_reducible apply wb2<;>(intro hb;try simp only[hb]))|((with_reducible refine G6 (Z6 (A2y _) (by omega) (by omega)) ?_)))<;>try simp only[go_sem,seval,hd1,hhi,hq,A8k,B3u,EH,optH,ne0]));exact⟨(z / 128,pre++[UInt8.ofNat (z%128+128)],some (cc+1)),rfl,o8,inv ⟨a8,g9,by simp,λi hi=>by cases hi;omega,by simp only[A0K,List.singleton_append]at he ⊢;exact he⟩,by simp only;omega⟩
 have hd:=dfz hlt;rw[A0J (by omega)]at hn;refine wAs hd ?_;rw[A0J (by omega)];exact⟨_,_,GL.refl _ _,o,rfl,hn,hs⟩
theorem c_put'(c:Prg)(bs:List UInt8)(o:Option Nat)(H:Hp)(cc x:Nat)(l:List Int)(hS:Sub (EH c o bs) H)(hx:H x=some ⟨1,true,l.map I64⟩)(h0:2<=x)(hox:o≠some x)(hn:o=none->bs=[])(hs:∀i,o=some i->2<=i/\i<cc)(hcc:2<=cc)(hl:∀n∈l,Sm n)(hl1:l.length<=100000)(hl2:bs.length<=100000000):
  AC Tryz.prog 21 [.ptr 1 0,.slc x 0 l.length] H cc (λv H' c' => ∃o',H'=EH c o' (bs++l.flatMap J0)/\(o'=none->bs++l.flatMap J0=[])/\(∀i,o'=some i->2<=i/\i<c')) :=
 AC.ghost (F4y hS hx h0 hox) (c_put c bs o cc l hcc hn hs hl hl1 hl2)
theorem c_Encode(c:Prg)(hs:∀s∈c.strings,s.length<=140737488355328)(n1:c.instrs.length<=9223372036854775807):PC Tryz.prog 6 [c.v] (.tup [.str (B1w c),I64 (H6 c)]):=by
 by_cases h0:H6 c=0
 case neg =>
  have hz:(H6 c != 0)=true:=by simpa using h0
  refine PC.go A3 ?_;refine wA8 (c_valid c hs n1) hz ?_;refine A4 ?_;simp[B1w,h0]
 have hz:(H6 c != 0)=false:=by simp[h0]
 have B:=Bnd.valid h0;obtain⟨d1,d2,d3,d4,d5,d6,d7,d8,d9⟩:=Lim.dims (A1p h0).1;refine PC.go A3 ?_;refine wA8 (c_valid c hs n1) (wJ hz h0) ?_;have S1:Sm (c.instrs.length:Int):=⟨a8,by omega⟩;have S2:Sm (c.strings.length:Int):=⟨a8,by omega⟩;have S3:Sm (c.entries.length:Int):=⟨a8,by omega⟩;have S4:Sm (c.prios.length:Int):=⟨a8,by omega⟩;have S5:Sm (c.vars.length:Int):=⟨a8,by omega⟩;have hf6:∀i∈c.instrs,(A3h i).length<=20:=λi hi=>by
  have a:=F5 (B.ins i hi).1;have b:=F5 (B.ins i hi).2;simp only[A3h,A0A];omega
 have hf7:∀s∈c.strings,(A1u s).length<=42:=λs hi=>by
  have a:=B.str s hi;have b:=F5 (n:=(s.length:Int)) ⟨a8,by omega⟩;simp only[A1u,A0A];omega
 have hf8:∀e∈c.entries,(A3u e).length<=40:=λe hi=>by
  have a:=F5 (B.ent e hi).1;have b:=F5 (B.ent e hi).2.1;have d:=F5 (B.ent e hi).2.2.1;have g:=F5 (B.ent e hi).2.2.2;simp only[A3u,A0A];omega
 have L1:=F5 S1;have L2:=F5 S2;have L3:=F5 S3;have L4:=O4 A3h 20 c.instrs hf6;have L5:=O4 A1u 42 c.strings hf7;have L6:=O4 A3u 40 c.entries hf8;refine AC.call (c_put' c [] none _ _ 2 [(c.instrs.length:Int)] ((Sub.refl _).upd _ (B2d (by omega) (by simp))) A0 (by omega) (by simp) (λ_=>rfl) (by simp) (by omega) (by simpa using S1) (by simp) (by simp)) ?_;rintro v H' c' ⟨o,rfl,hn,hs⟩ hcc;have e:([]++[(c.instrs.length:Int)].flatMap J0)=J0 c.instrs.length:=by simp
 rw[e]at hn ⊢;simp only[go_sem,seval];(repeat'((with_reducible first|apply wr|refine k_cu ?_ ?_|apply wb2<;>(intro hb;try simp only[hb]))<;>try simp only[go_sem,seval,B1f hs]));refine A9 (λq:Nat × Option Nat=>[(1,.ptr 0 0),(5,.ptr 1 0),(26,K7 c.instrs),(27,I64 c.instrs.length),(28,I64 q.1)]) (λq=>EH c q.2 (J0 c.instrs.length++(c.instrs.take q.1).flatMap A3h)) (λq cc=>2<=cc/\q.1<=c.instrs.length/\(q.2=none->J0 c.instrs.length++(c.instrs.take q.1).flatMap A3h=[])/\∀i,q.2=some i->2<=i/\i<cc) (λq=>c.instrs.length-q.1) (0,o)
  (by simp[B5,tm,Tm.upd]) (by simpa using Sub.refl _) ⟨a8,by simp,zab,hs⟩ ?_
 rintro⟨k,o⟩ cc ⟨h2,hk,hn,hs⟩;simp only at hk hn hs;by_cases hlt:k<c.instrs.length
 ·have hd:=dtz hlt;have hg:=A0B hlt;have hw:=w64 (n:=(k:Int)+1);have hx:=B.ins _ (A0O hlt);have q2:=A6k A3h 20 c.instrs hf6 k;have ne0:=V8 0 1 cc (cc+1) (by omega);(repeat'((with_reducible first|apply wr|refine k_cu ?_ ?_|apply wb2<;>(intro hb;try simp only[hb]))<;>try simp only[go_sem,seval,B1f hs,hd,hg,hw,ne0]));have hc0:EH c o (J0 c.instrs.length++(c.instrs.take k).flatMap A3h) cc=none:=B2d (by omega) (λe=>absurd (hs _ e).2 (by omega));have hc1:EH c o (J0 c.instrs.length++(c.instrs.take k).flatMap A3h) (cc+1)=none:=B2d (by omega) (λe=>absurd (hs _ e).2 (by omega));rw[A1];refine AC.call (c_put' c _ o _ _ (cc+1) [c.instrs[k].op,c.instrs[k].A] (((Sub.refl _).upd _ hc0).upd _ hc1) A0 (by omega) (λe=>absurd (hs _ e).2 (by omega)) hn (λi e=>⟨(hs i e).1,by have:=(hs i e).2;omega⟩) (by omega) (by simpa using hx) (by simp) (by simp only[A0A];omega)) ?_;rintro v H' c' ⟨o,rfl,hn,hs⟩ hcc;have e:J0 c.instrs.length++(c.instrs.take k).flatMap A3h++[c.instrs[k].op,c.instrs[k].A].flatMap J0=J0 c.instrs.length++(c.instrs.take (k+1)).flatMap A3h:=by rw[A6l A3h hg];simp[A3h,A0K]
  rw[e]at hn ⊢;refine wAu hw ?_;exact⟨(k+1,o),rfl,Sub.refl _,inv ⟨a8,hlt,hn,hs⟩,by simp only;omega⟩
 have hd:=dfz hlt;rw[A0J (by omega)]at hn;(repeat'((with_reducible first|apply wr|refine k_cu ?_ ?_|apply wb2<;>(intro hb;try simp only[hb]))<;>try simp only[go_sem,seval,B1f hs,hd]));rw[A0J (by omega)];clear hd hlt hk;have hc0:EH c o (J0 c.instrs.length++c.instrs.flatMap A3h) cc=none:=B2d (by omega) (λe=>absurd (hs _ e).2 (by omega));refine AC.call (c_put' c _ o _ _ cc [(c.strings.length:Int)] ((Sub.refl _).upd _ hc0) A0 (by omega) (λe=>absurd (hs _ e).2 (by omega)) hn (λi e=>⟨(hs i e).1,by have:=(hs i e).2;omega⟩) (by omega) (by simpa using S2) (by simp) (by simp only[A0A];omega)) ?_;rintro v H' c' ⟨o,rfl,hn,hs⟩ hcc;obtain⟨P,hP⟩:∃P,P=J0 c.instrs.length++c.instrs.flatMap A3h++J0 c.strings.length:=⟨_,rfl⟩;have hPl:P.length<=100000:=by rw[hP];simp only[A0A];omega
 have e:J0 c.instrs.length++c.instrs.flatMap A3h++[(c.strings.length:Int)].flatMap J0=P:=by rw[hP];simp
 rw[e]at hn ⊢;simp only[go_sem,seval];(repeat'((with_reducible first|apply wr|refine k_cu ?_ ?_|apply wb2<;>(intro hb;try simp only[hb]))<;>try simp only[go_sem,seval,B1f hs]));refine A9 (λq:Nat × Option Nat=>[(1,.ptr 0 0),(5,.ptr 1 0),(47,strs c.strings),(48,I64 c.strings.length),(49,I64 q.1)]) (λq=>EH c q.2 (P++(c.strings.take q.1).flatMap A1u)) (λq cc=>2<=cc/\q.1<=c.strings.length/\(q.2=none->P++(c.strings.take q.1).flatMap A1u=[])/\∀i,q.2=some i->2<=i/\i<cc) (λq=>c.strings.length-q.1) (0,o)
  (by simp[B5,tm,Tm.upd]) (by simpa using Sub.refl _) ⟨a8,by simp,zab,hs⟩ ?_
 rintro⟨k,o⟩ cc ⟨h2,hk,hn,hs⟩;simp only at hk hn hs;by_cases hlt:k<c.strings.length
 ·have hd:=dtz hlt;have hg:=A0B hlt;have hw:=w64 (n:=(k:Int)+1);have hx:=B.str _ (A0O hlt);have q2:=A6k A1u 42 c.strings hf7 k;have hc0:EH c o (P++(c.strings.take k).flatMap A1u) cc=none:=B2d (by omega) (λe=>absurd (hs _ e).2 (by omega));have ne0:=V8 0 1 cc (cc+1) (by omega);(repeat'((with_reducible first|apply wr|refine k_cu ?_ ?_|apply wb2<;>(intro hb;try simp only[hb]))<;>try simp only[go_sem,seval,B1f hs,hd,hg,hw,ne0]));refine AC.call (c_put' c _ o _ _ cc [(c.strings[k].length:Int)] ((Sub.refl _).upd _ hc0) A0 (by omega) (λe=>absurd (hs _ e).2 (by omega)) hn (λi e=>⟨(hs i e).1,by have:=(hs i e).2;omega⟩) (by omega) (by simp;omega) (by simp) (by simp only[A0A];omega)) ?_;rintro v H' c' ⟨o,rfl,hn,hs⟩ hcc;have e:P++(c.strings.take k).flatMap A1u++[(c.strings[k].length:Int)].flatMap J0=P++(c.strings.take k).flatMap A1u++J0 c.strings[k].length:=by simp
  rw[e]at hn ⊢;have q3:=F5 (n:=(c.strings[k].length:Int)) ⟨a8,by omega⟩;rcases o with _|id
  ·exact absurd (hn rfl) (by have:=A6f (c.strings[k].length:Int);simp[this])
  obtain⟨i1,i2⟩:=hs id rfl;have hlen:(P++(c.strings.take k).flatMap A1u++J0 c.strings[k].length).length<=1000000:=by simp only[A0A];omega
  have ne0:=A1y 0 1 id c' (c'+1) (by omega);simp only[go_sem,seval,EH,optH,ne0];(repeat'((first|(with_reducible first|apply wr|refine k_cu ?_ ?_)|(with_reducible apply wb2<;>(intro hb;try simp only[hb]))|((with_reducible refine G6 (Z6 (A2y _) (by omega) (by omega)) ?_)))<;>try simp only[go_sem,seval,hw,EH,optH,ne0]));have e2:P++(c.strings.take (k+1)).flatMap A1u=P++(c.strings.take k).flatMap A1u++J0 c.strings[k].length++c.strings[k]:=by rw[A6l A1u hg];simp[A1u,A0K]
  exact⟨(k+1,some c'),rfl,by simp only[e2,EH,optH,todoV,A0j,A0A];(intro j b hj;simp only[Hp.upd,Hp.del,Sym.nil,B1n,optH,EH]at hj ⊢;(repeat' split at hj)<;>(repeat' split)<;>first|exact hj|(exfalso;omega)|cases hj),inv ⟨a8,hlt,by simp,λi hi=>by cases hi;omega⟩,by simp only;omega⟩
 have hd:=dfz hlt;rw[A0J (by omega)]at hn;(repeat'((with_reducible first|apply wr|refine k_cu ?_ ?_|apply wb2<;>(intro hb;try simp only[hb]))<;>try simp only[go_sem,seval,B1f hs,hd]));rw[A0J (by omega)];clear hd hlt hk;have hc0:EH c o (P++c.strings.flatMap A1u) cc=none:=B2d (by omega) (λe=>absurd (hs _ e).2 (by omega));refine AC.call (c_put' c _ o _ _ cc [(c.entries.length:Int)] ((Sub.refl _).upd _ hc0) A0 (by omega) (λe=>absurd (hs _ e).2 (by omega)) hn (λi e=>⟨(hs i e).1,by have:=(hs i e).2;omega⟩) (by omega) (by simpa using S3) (by simp) (by simp only[A0A];omega)) ?_;rintro v H' c' ⟨o,rfl,hn,hs⟩ hcc;obtain⟨Q,hQ⟩:∃Q,Q=P++c.strings.flatMap A1u++J0 c.entries.length:=⟨_,rfl⟩;have hQl:Q.length<=200000:=by rw[hQ];simp only[A0A];omega
 have e:P++c.strings.flatMap A1u++[(c.entries.length:Int)].flatMap J0=Q:=by rw[hQ];simp
 rw[e]at hn ⊢;simp only[go_sem,seval];(repeat'((with_reducible first|apply wr|refine k_cu ?_ ?_|apply wb2<;>(intro hb;try simp only[hb]))<;>try simp only[go_sem,seval,B1f hs]));refine A9 (λq:Nat × Option Nat=>[(1,.ptr 0 0),(5,.ptr 1 0),(75,Q6 c.entries),(76,I64 c.entries.length),(77,I64 q.1)]) (λq=>EH c q.2 (Q++(c.entries.take q.1).flatMap A3u)) (λq cc=>2<=cc/\q.1<=c.entries.length/\(q.2=none->Q++(c.entries.take q.1).flatMap A3u=[])/\∀i,q.2=some i->2<=i/\i<cc) (λq=>c.entries.length-q.1) (0,o)
  (by simp[B5,tm,Tm.upd]) (by simpa using Sub.refl _) ⟨a8,by simp,zab,hs⟩ ?_
 rintro⟨k,o⟩ cc ⟨h2,hk,hn,hs⟩;simp only at hk hn hs;by_cases hlt:k<c.entries.length
 ·have hd:=dtz hlt;have hg:=A0B hlt;have hw:=w64 (n:=(k:Int)+1);have hx:=B.ent _ (A0O hlt);have q2:=A6k A3u 40 c.entries hf8 k;have ne0:=V8 0 1 cc (cc+1) (by omega);(repeat'((with_reducible first|apply wr|refine k_cu ?_ ?_|apply wb2<;>(intro hb;try simp only[hb]))<;>try simp only[go_sem,seval,B1f hs,hd,hg,hw,ne0]));have hc0:EH c o (Q++(c.entries.take k).flatMap A3u) cc=none:=B2d (by omega) (λe=>absurd (hs _ e).2 (by omega));have hc1:EH c o (Q++(c.entries.take k).flatMap A3u) (cc+1)=none:=B2d (by omega) (λe=>absurd (hs _ e).2 (by omega));rw[A1];refine AC.call (c_put' c _ o _ _ (cc+1) [c.entries[k].mode,c.entries[k].trigger,c.entries[k].index,c.entries[k].pos] (((Sub.refl _).upd _ hc0).upd _ hc1) A0 (by omega) (λe=>absurd (hs _ e).2 (by omega)) hn (λi e=>⟨(hs i e).1,by have:=(hs i e).2;omega⟩) (by omega) (by simpa using hx) (by simp) (by simp only[A0A];omega)) ?_;rintro v H' c' ⟨o,rfl,hn,hs⟩ hcc;have e:Q++(c.entries.take k).flatMap A3u++[c.entries[k].mode,c.entries[k].trigger,c.entries[k].index,c.entries[k].pos].flatMap J0=Q++(c.entries.take (k+1)).flatMap A3u:=by rw[A6l A3u hg];simp[A3u,A0K]
  rw[e]at hn ⊢;refine wAu hw ?_;exact⟨(k+1,o),rfl,Sub.refl _,inv ⟨a8,hlt,hn,hs⟩,by simp only;omega⟩
 have hd:=dfz hlt;rw[A0J (by omega)]at hn;(repeat'((with_reducible first|apply wr|refine k_cu ?_ ?_|apply wb2<;>(intro hb;try simp only[hb]))<;>try simp only[go_sem,seval,B1f hs,hd]));rw[A0J (by omega)];clear hd hlt hk;have T1:∀n∈[(c.prios.length:Int)],Sm n:=by simpa using S4
 have T3:∀n∈[(c.vars.length:Int)],Sm n:=by simpa using S5
 have T5:∀n∈[c.timers,c.events],Sm n:=by simpa using And.intro B.tim B.evt
 have hc0:EH c o (Q++c.entries.flatMap A3u) cc=none:=B2d (by omega) (λe=>absurd (hs _ e).2 (by omega));refine AC.call (c_put' c _ o _ _ cc [(c.prios.length:Int)] ((Sub.refl _).upd _ hc0) A0 (by omega) (λe=>absurd (hs _ e).2 (by omega)) hn (λi e=>⟨(hs i e).1,by have:=(hs i e).2;omega⟩) (by omega) (T1) (by simp) (by first|omega|(simp only[A0A]<;>omega))) ?_;rintro v H' c1 ⟨o,rfl,hn,hs⟩ hcc1;obtain⟨R1,hR1⟩:∃R,R=Q++c.entries.flatMap A3u++[(c.prios.length:Int)].flatMap J0:=⟨_,rfl⟩;have hR1l:R1.length<=310000:=by rw[hR1,A0A];have:=O4 J0 10 [(c.prios.length:Int)] (λx hx=>F5 (T1 x hx));(try simp only[A0A,A0C,A0M]at this);(try simp only[A0A]);omega
 rw[<- hR1]at hn ⊢;simp only[go_sem,seval];(repeat'((with_reducible first|apply wr|refine k_cu ?_ ?_|apply wb2<;>(intro hb;try simp only[hb]))<;>try simp only[go_sem,seval,B1f hs]));refine AC.call (c_put c _ o _ c.prios (by omega) hn hs (B.pri) (by omega) (by first|omega|(simp only[A0A]<;>omega))) ?_;rintro v H' c2 ⟨o,rfl,hn,hs⟩ hcc2;obtain⟨R2,hR2⟩:∃R,R=R1++c.prios.flatMap J0:=⟨_,rfl⟩;have hR2l:R2.length<=320000:=by rw[hR2,A0A];have:=O4 J0 10 c.prios (λx hx=>F5 (B.pri x hx));(try simp only[A0A,A0C,A0M]at this);(try simp only[A0A]);omega
 rw[<- hR2]at hn ⊢;simp only[go_sem,seval];(repeat'((with_reducible first|apply wr|refine k_cu ?_ ?_|apply wb2<;>(intro hb;try simp only[hb]))<;>try simp only[go_sem,seval,B1f hs]));have hc0:EH c o (R2) c2=none:=B2d (by omega) (λe=>absurd (hs _ e).2 (by omega));refine AC.call (c_put' c _ o _ _ c2 [(c.vars.length:Int)] ((Sub.refl _).upd _ hc0) A0 (by omega) (λe=>absurd (hs _ e).2 (by omega)) hn (λi e=>⟨(hs i e).1,by have:=(hs i e).2;omega⟩) (by omega) (T3) (by simp) (by first|omega|(simp only[A0A]<;>omega))) ?_;rintro v H' c3 ⟨o,rfl,hn,hs⟩ hcc3;obtain⟨R3,hR3⟩:∃R,R=R2++[(c.vars.length:Int)].flatMap J0:=⟨_,rfl⟩;have hR3l:R3.length<=330000:=by rw[hR3,A0A];have:=O4 J0 10 [(c.vars.length:Int)] (λx hx=>F5 (T3 x hx));(try simp only[A0A,A0C,A0M]at this);(try simp only[A0A]);omega
 rw[<- hR3]at hn ⊢;simp only[go_sem,seval];(repeat'((with_reducible first|apply wr|refine k_cu ?_ ?_|apply wb2<;>(intro hb;try simp only[hb]))<;>try simp only[go_sem,seval,B1f hs]));refine AC.call (c_put c _ o _ c.vars (by omega) hn hs (B.var) (by omega) (by first|omega|(simp only[A0A]<;>omega))) ?_;rintro v H' c4 ⟨o,rfl,hn,hs⟩ hcc4;obtain⟨R4,hR4⟩:∃R,R=R3++c.vars.flatMap J0:=⟨_,rfl⟩;have hR4l:R4.length<=340000:=by rw[hR4,A0A];have:=O4 J0 10 c.vars (λx hx=>F5 (B.var x hx));(try simp only[A0A,A0C,A0M]at this);(try simp only[A0A]);omega
 rw[<- hR4]at hn ⊢;simp only[go_sem,seval];(repeat'((with_reducible first|apply wr|refine k_cu ?_ ?_|apply wb2<;>(intro hb;try simp only[hb]))<;>try simp only[go_sem,seval,B1f hs]));have hc0:EH c o (R4) c4=none:=B2d (by omega) (λe=>absurd (hs _ e).2 (by omega));refine AC.call (c_put' c _ o _ _ c4 [c.timers,c.events] ((Sub.refl _).upd _ hc0) A0 (by omega) (λe=>absurd (hs _ e).2 (by omega)) hn (λi e=>⟨(hs i e).1,by have:=(hs i e).2;omega⟩) (by omega) (T5) (by simp) (by first|omega|(simp only[A0A]<;>omega))) ?_;rintro v H' c5 ⟨o,rfl,hn,hs⟩ hcc5;obtain⟨R5,hR5⟩:∃R,R=R4++[c.timers,c.events].flatMap J0:=⟨_,rfl⟩;have hR5l:R5.length<=350000:=by rw[hR5,A0A];have:=O4 J0 10 [c.timers,c.events] (λx hx=>F5 (T5 x hx));(try simp only[A0A,A0C,A0M]at this);(try simp only[A0A]);omega
 rw[<- hR5]at hn ⊢;rcases o with _|id
 ·exact absurd (hn rfl) (by rw[hR5];have:=A6f c.timers;simp[this])
 obtain⟨i1,i2⟩:=hs id rfl;have ne0:=W9 0 1 id (by omega);simp only[go_sem,seval,EH,optH,ne0];(repeat'((first|(with_reducible first|apply wr|refine k_cu ?_ ?_)|(with_reducible apply wb2<;>(intro hb;try simp only[hb]))|((with_reducible refine C8x (B1b (l:=R5) A0 rfl rfl) ?_)))<;>try simp only[go_sem,seval,EH,optH,ne0]));refine A4 ?_;rw[B1w,if_pos h0,B5x,hR5,hR4,hR3,hR2,hR1,hQ,hP];simp[B3y,A0K]
abbrev x23:XT Tryz.prog 23:=mkF
instance t23:FT Tryz.prog 23 x23.d:=x23.ft
abbrev x22:XT Tryz.prog 22:=mkF
instance t22:FT Tryz.prog 22 x22.d:=x22.ft
abbrev x24:XT Tryz.prog 24:=mkF
instance t24:FT Tryz.prog 24 x24.d:=x24.ft
theorem c_rnum(s:RS)(hs:s.1.length<=1000000)(H:Hp)(cc t:Nat)(ht:H t=some (rdB s))(htc:t<cc):
  AC Tryz.prog 23 [.ptr t 0] H cc (λv H' c'=>v=I64 (C8 s).1/\H'=H.upd t (rdB (C8 s).2)):=by
 obtain⟨s,bd⟩:=s;simp only at hs;refine AC.go A3 λhfr=>?_;refine wAp ?_;refine A9 (λq:Nat × Nat=>[(0,.ptr t 0),(3,.int .u64 (q.2:Int)),(4,I64 q.1)]) (λ_=>H) (λq c=>cc<=c/\q.1<=8/\q.1<=s.length/\q.2<2 ^ (7*q.1)/\B1p 8 0 0 s=B1p (8-q.1) q.1 q.2 (s.drop q.1)) (λq=>8-q.1) (0,0) (by simp[B5,tm,Tm.upd]) (Sub.refl _) (by simp) ?_;rintro⟨k,z⟩ c ⟨hc,hk8,hkl,hz,hv⟩;simp only at hk8 hkl hz hv;by_cases hlt:k<s.length/\k<8
 ·obtain⟨h1,h2⟩:=hlt;have hd1:decide ((k:Int)<s.length)=true:=by simpa using h1
  have hd2:decide ((k:Int)<8)=true:=b9
  obtain⟨b,hb⟩:∃b,b=s[k]:=⟨_,rfl⟩;have hg:s[k]? = some b:=by rw[hb];exact A0B h1
  have hx:b.toNat%128<128:=Nat.mod_lt _ (by omega);have hand:=F1u b;have hc64:=B9r (n:=((b.toNat%128:Nat):Int)) (by omega) (by omega);have hmul:IntKind.i64.wrap (7*(k:Int))=((7*k:Nat):Int):=l8
  have hshl:=F2u (k:=k) hx (by omega);have hor:=F8c (k:=k) hz hx (by omega);have hw:IntKind.i64.wrap ((k:Int)+1)=((k+1:Nat):Int):=l8
  have hst:=D0f (n:=7-k) (z:=z) hg;have e8:8-k=7-k+1:=a8
  rw[e8,hst]at hv;have hz':z+b.toNat%128*2 ^ (7*k)<2 ^ (7*(k+1)):=by
   have:b.toNat%128*2 ^ (7*k)<=127*2 ^ (7*k):=A2X _ (by omega);have e:=F3q k;omega
  have hz8:2 ^ (7*(k+1))<=2 ^ 56:=A3S (by omega) (by omega);generalize z+b.toNat%128*2 ^ (7*k)=z' at *;by_cases hlo:b.toNat<128
  ·have hd3:decide ((b.toNat:Int)<128)=true:=by simp;omega
   rw[if_pos hlo]at hv;have hsl:=C0g (s:=s) (k:=k+1) (by omega);have hq:=F8a (z:=z') (by omega);have hr:=F7s z';have hn2:¬(2:Int)=0:=a8
   have wq:=w64 (n:=((z' / 2:Nat):Int));have e:C8 (s,bd)=(A8e z',(s.drop (k+1),bd)):=by rw[C8,hv]
   rw[e];by_cases h2z:z'%2=1
   ·have hd4:(((z'%2:Nat):Int)==1)=true:=by rw[h2z];rfl
    have w1:IntKind.i64.wrap (0-((z' / 2:Nat):Int)) = -((z' / 2:Nat):Int):=l8
    have w2:=w64 (n := -((z' / 2:Nat):Int)-1);refine wAs (wJ ht (wJ hd1 (wJ hd2 (wJ hg (wJ hand (wJ hc64 (wJ hmul (wJ hshl (wJ hor (wJ hw (wJ hd3 (wJ hsl (wJ @B3u (wJ @A8k (wJ hq (wJ hr (wJ hn2 (wJ wq (wJ hd4 (wJ w1 w2)))))))))))))))))))) ?_;exact⟨_,_,GL.refl _ _,by rw[A8e,if_pos h2z],rfl⟩
   ·have hd4:(((z'%2:Nat):Int)==1)=false:=by simp;omega
    refine wAs (wJ ht (wJ hd1 (wJ hd2 (wJ hg (wJ hand (wJ hc64 (wJ hmul (wJ hshl (wJ hor (wJ hw (wJ hd3 (wJ hsl (wJ @B3u (wJ @A8k (wJ hq (wJ hr (wJ hn2 (wJ wq hd4)))))))))))))))))) ?_;exact⟨_,_,GL.refl _ _,by rw[A8e,if_neg h2z],rfl⟩
  ·have hd3:decide ((b.toNat:Int)<128)=false:=by simp;omega
   rw[if_neg hlo]at hv;refine wAs (wJ ht (wJ hd1 (wJ hd2 (wJ hg (wJ hand (wJ hc64 (wJ hmul (wJ hshl (wJ hor (wJ hw hd3)))))))))) ?_;exact⟨(k+1,z'),by simp,Sub.refl _,inv ⟨a8,g9,g9,hz',by simp only;rw[hv];congr 1;omega⟩,by simp only;omega⟩
 ·have e:C8 (s,bd)=(0,([],true)):=by
   rw[C8,hv,D3e (by omega)]
  rw[e];by_cases h1:k<s.length
  ·have hd1:decide ((k:Int)<s.length)=true:=by simpa using h1
   have hd2:decide ((k:Int)<8)=false:=b9
   refine wAw ht hd1 hd2 ?_;exact⟨_,_,GL.refl _ _,rfl,A1⟩
  ·have hd1:decide ((k:Int)<s.length)=false:=by simp;omega
   refine wAs (wJ ht hd1) ?_;exact⟨_,_,GL.refl _ _,rfl,A1⟩
theorem c_rcnt(s:RS)(hs:s.1.length<=1000000)(H:Hp)(cc t:Nat)(ht:H t=some (rdB s))(htc:t<cc):
  AC Tryz.prog 22 [.ptr t 0] H cc (λv H' c'=>v=I64 ((I9 s).1:Int)/\H'=H.upd t (rdB (I9 s).2)):=by
 refine AC.go A3 λhfr=>?_;refine wAp ?_;refine AC.call (c_rnum s hs H cc t ht htc) ?_;rintro v H' c1 ⟨rfl,rfl⟩ hc;have hB:=D5a s;have hL:=U9 s;by_cases h1:(C8 s).1<0
 ·have hd1:decide ((C8 s).1<0)=true:=by simpa using h1
  have e:I9 s=(0,([],true)):=by rw[I9,if_pos (.inl h1)]
  refine wAu hd1 ?_;rw[e];exact⟨_,_,GL.refl _ _,rfl,by rw[A1,A1]⟩
 have hd1:decide ((C8 s).1<0)=false:=w9
 by_cases h2:(C8 s).1>(C8 s).2.1.length
 ·have hd2:decide ((C8 s).1>(C8 s).2.1.length)=true:=by simpa using h2
  have e:I9 s=(0,([],true)):=by rw[I9,if_pos (.inr h2)]
  refine wAu (wJ hd1 hd2) ?_;rw[e];exact⟨_,_,GL.refl _ _,rfl,by rw[A1,A1]⟩
 ·have hd2:decide ((C8 s).1>(C8 s).2.1.length)=false:=by simpa using h2
  have e:I9 s=((C8 s).1.toNat,(C8 s).2):=by rw[I9,iN]
  refine wAu (wJ hd1 hd2) ?_;rw[e];exact⟨_,_,GL.refl _ _,by simp only;congr 1;omega,rfl⟩
theorem c_rnums(s:RS)(hs:s.1.length<=1000000)(H:Hp)(cc t:Nat)(ht:H t=some (rdB s))(htc:t<cc):
  AC Tryz.prog 24 [.ptr t 0] H cc (λv H' c'=>v=J5 (W1 s).1/\H'=H.upd t (rdB (W1 s).2)):=by
 refine AC.go A3 λhfr=>?_;refine wAp ?_;refine AC.call (c_rcnt s hs H cc t ht htc) ?_;rintro v H' id ⟨rfl,rfl⟩ hc;obtain⟨L1,L2⟩:=A0c s;obtain⟨n,hn⟩:∃n,n=(I9 s).1:=⟨_,rfl⟩;obtain⟨st,hst⟩:∃st,st=(I9 s).2:=⟨_,rfl⟩;have e:W1 s=A6 C8 n st:=by rw[hn,hst];rfl
 rw[e];rw[<- hn, <- hst]at L2 ⊢;have Ln:n<=1000000:=by have:=hst▸L1;omega
 rw[<- hst]at L1;simp only[go_sem,seval];(repeat'((first|(with_reducible first|apply wr|refine k_cu ?_ ?_)|(with_reducible apply wb2<;>(intro hb;try simp only[hb]))|((with_reducible refine E9u (E4r (by omega) (by omega) rfl rfl) ?_)))<;>try simp only[go_sem,seval]));refine A9 (λk:Nat=>[(0,.ptr t 0),(3,.slc id 0 n),(9,I64 n),(10,I64 k)]) (λk=>(H.upd t (rdB (A6 C8 k st).2)).upd id ⟨1,true,((A6 C8 k st).1++List.replicate (n-k) 0).map I64⟩) (λk c=>id<c/\k<=n) (λk=>n-k) 0 (by simp[B5,tm,Tm.upd]) (by simp[A6,B6s];exact Sub.refl _) (by omega) ?_;rintro k c ⟨hc1,hk⟩;have hti:¬t=id:=a8
 obtain⟨M1,M2⟩:=W3 (f:=C8) U9 k st;by_cases hlt:k<n
 ·have hd:=dtz hlt;have hw:IntKind.i64.wrap ((k:Int)+1)=((k+1:Nat):Int):=by rw[w6z];omega
  refine wAs hd ?_;refine AC.call (c_rnum (A6 C8 k st).2 (by omega) _ c t (by rw[h_ne hti,A0]) (by omega)) ?_;rintro v H' c1 ⟨rfl,rfl⟩ hcc;have hti2:¬id=t:=a8
  have hia:=C7m (id:=id) (off:=0) (l:=n) (sz:=1) (k:=.i64) hlt;have hlen:((A6 C8 k st).1++List.replicate (n-k) 0).length=n:=by simp[M2];omega
  have hle:k+1<=n:=hlt;refine wA2 hia hw hti hti2 hlen hle ?_;refine⟨k+1,rfl,?_,inv ⟨a8,hlt⟩,by omega⟩;rw[B2q (by rw[hlen];omega)];have e2:((A6 C8 k st).1++List.replicate (n-k) 0).set k (C8 (A6 C8 k st).2).1=(A6 C8 (k+1) st).1++List.replicate (n-(k+1)) 0:=by
   obtain⟨m,hm⟩:∃m,n-k=m+1:=⟨n-k-1,by omega⟩;have hm2:n-(k+1)=m:=a8
   rw[hm,hm2,List.set_append_right _ _ (by omega),M2,A4P,A3X,List.set_cons_zero,A6];simp
  rw[e2];intro j b hj;simp only[Hp.upd]at hj ⊢;repeat' split at hj
  all_goals(repeat' split)
  all_goals first|exact hj|(exfalso;omega)|(simp only[A6]at hj ⊢;exact hj)
 ·have hd:=dfz hlt;obtain rfl:k=n:=by omega
  refine wAs hd ?_;refine⟨_,_,GL.frzS (H':=H.upd t (rdB (A6 C8 k st).2)) (id:=id) A0 rfl (λj=>?_) (.cons _ _ _ _ (U3 (u:=1) (by simp[M2]) (B0s (A6 C8 k st).1) ⟨[],by simp[A2f]⟩) .nil),rfl,rfl⟩;by_cases ej:j=id
  ·subst ej;left;rw[h_ne (Ne.symm hti)];exact hfr j hc
  ·right;exact⟨ej,(h_ne ej).symm⟩
abbrev x7:XT Tryz.prog 7:=mkF
instance t7:FT Tryz.prog 7 x7.d:=x7.ft
def DB(s:RS):Hp:=(Sym.nil.upd 0 ⟨0,true,[.snil,.snil,.snil,.snil,.snil,I64 0,I64 0]⟩).upd 1 (rdB s)
theorem F2h(s:RS){j:Nat}(h:2<=j):DB s j=none:=by
 unfold DB;rw[hnO,hnO];rfl
def DH(s:RS)(cs:List DV)(o:Option Nat)(b:Blk):Hp:=optH ((DB s).upd 2 ⟨0,true,cs⟩) o b
theorem G0w{s:RS}{cs:List DV}{o:Option Nat}{b:Blk}(h:∀i,o=some i->3<=i):DH s cs o b 0=some ⟨0,true,[.snil,.snil,.snil,.snil,.snil,I64 0,I64 0]⟩:=by
 cases o with
 |none=>rfl
 |some i=>have:=h i rfl;simp only[DH,optH];rw[hnO];rfl
theorem C6s{s:RS}{cs:List DV}{o:Option Nat}{b:Blk}(h:∀i,o=some i->3<=i):DH s cs o b 1=some (rdB s):=by
 cases o with
 |none=>rfl
 |some i=>have:=h i rfl;simp only[DH,optH];rw[hnO];rfl
theorem B2e{s:RS}{cs:List DV}{o:Option Nat}{b:Blk}(h:∀i,o=some i->3<=i):DH s cs o b 2=some ⟨0,true,cs⟩:=by
 cases o with
 |none=>rfl
 |some i=>have:=h i rfl;simp only[DH,optH];rw[hnO];rfl
theorem F2g{s s':RS}{cs:List DV}{o:Option Nat}{b:Blk}(h:∀i,o=some i->3<=i):(DH s cs o b).upd 1 (rdB s')=DH s' cs o b:=by
 funext j
 cases o with
 |none=>simp only[DH,DB,optH,Hp.upd];split<;>(try split)<;>(try split)<;>first|rfl|omega
 |some i=>have:=h i rfl;simp only[DH,DB,optH,Hp.upd];split<;>(try split)<;>(try split)<;>first|rfl|omega
theorem E3f(o:Option Prg):(E3g o).nl=true:=by
 cases o<;>simp[E3g,DV.nl,DV.nlL,N4,J1,A0f,K0,Prg.none]
theorem c_rnumD(s:RS)(hs:s.1.length<=1000000){cs:List DV}{o:Option Nat}{b:Blk}(h:∀i,o=some i->3<=i)(cc:Nat)(hc:3<=cc):AC Tryz.prog 23 [.ptr 1 0] (DH s cs o b) cc (λv H' c'=>v=I64 (C8 s).1/\H'=DH (C8 s).2 cs o b) :=
 (c_rnum s hs _ cc 1 (C6s h) (by omega)).mono λv H' c' q=>⟨q.1,by rw[q.2,F2g h]⟩
theorem c_rcntD(s:RS)(hs:s.1.length<=1000000){cs:List DV}{o:Option Nat}{b:Blk}(h:∀i,o=some i->3<=i)(cc:Nat)(hc:3<=cc):AC Tryz.prog 22 [.ptr 1 0] (DH s cs o b) cc (λv H' c'=>v=I64 ((I9 s).1:Int)/\H'=DH (I9 s).2 cs o b) :=
 (c_rcnt s hs _ cc 1 (C6s h) (by omega)).mono λv H' c' q=>⟨q.1,by rw[q.2,F2g h]⟩
theorem c_rnumsD(s:RS)(hs:s.1.length<=1000000){cs:List DV}{o:Option Nat}{b:Blk}(h:∀i,o=some i->3<=i)(cc:Nat)(hc:3<=cc):AC Tryz.prog 24 [.ptr 1 0] (DH s cs o b) cc (λv H' c'=>v=J5 (W1 s).1/\H'=DH (W1 s).2 cs o b) :=
 (c_rnums s hs _ cc 1 (C6s h) (by omega)).mono λv H' c' q=>⟨q.1,by rw[q.2,F2g h]⟩
theorem C6r{s:RS}{u n:Nat}{o:Option Nat}{pre suf:List DV}{xs ds:List DV}(h1:∀d∈pre++suf,d.one=true)(hn:o=none->xs=[])(hs:∀i,o=some i->3<=i)
  (hl:xs.length=n) (hu:∀x∈xs,x.cells.length=u) {b:Blk}:GL (DH s (pre++[todoV o n]++suf) o ⟨u,true,cellsL xs⟩) ds (DH s (pre++[.lst xs]++suf) none b) ds :=
 g_fin h1 hn (λi hi=>⟨by have:=hs i hi;omega,F2h s (by have:=hs i hi;omega)⟩) hl hu
theorem F2f{s:RS}{cs:List DV}{i:Nat}{b:Blk}:DH s cs (some i) b i=some b:=A0
theorem D2v{s:RS}{cs:List DV}{o:Option Nat}{b:Blk}{j:Nat}(h:3<=j)(h2:∀i,o=some i->i<j):DH s cs o b j=none:=by
 cases o with
 |none=>simp only[DH,optH];rw[hnO,F2h s (by omega)]
 |some i=>have:=h2 i rfl;simp only[DH,optH];rw[hnO,hnO,F2h s (by omega)]
theorem no2{j:Nat}:∀i,(none:Option Nat)=some i->i<j:=λi h=>y8
theorem no3:∀i,(none:Option Nat)=some i->3<=i:=λi h=>y8
theorem D1a{ρ:Ren}{v:Value}(h:VRel ρ (.agg [.snil,.snil,.snil,.snil,.snil,I64 0,I64 0]) v):VRel ρ Prg.none.v v:=by
 obtain⟨b,rfl,hA⟩:=h.agg_inv;refine .mkAgg ⟨hA.1,λi x y hx hy=>?_⟩
 match i with
 |0=>cases hx;exact(hA.2 0 _ y rfl hy).snil_lst
 |1=>cases hx;exact(hA.2 1 _ y rfl hy).snil_lst
 |2=>cases hx;exact(hA.2 2 _ y rfl hy).snil_lst
 |3=>cases hx;exact(hA.2 3 _ y rfl hy).snil_lst
 |4=>cases hx;exact(hA.2 4 _ y rfl hy).snil_lst
 |5=>cases hx;exact hA.2 5 _ y rfl hy
 |6=>cases hx;exact hA.2 6 _ y rfl hy
 |_+7=>cases hx
theorem C5n{H:Hp}:∃H2,GL H [.tup [.agg [.snil,.snil,.snil,.snil,.snil,I64 0,I64 0],I64 51]] H2 [E3g Option.none] :=
 ⟨H,GL.view fun ρ vs h=>P8 (λv h=>h.tup2 λv h=>D1a h) vs h⟩
theorem c_Decode(s:List UInt8)(hs:s.length<=1000000):PC Tryz.prog 7 [.str s] (E3g (D8q s)):=by
 refine PC.ofT A3 rfl (A0F rfl) rfl (E3f _) ?_;refine wAp ?_;refine AC.call (c_rcntD (s,false) hs (cs:=[.snil,.snil,.snil,.snil,.snil,I64 0,I64 0]) (b:=⟨0,true,[]⟩) no3 3 (by omega)) ?_;rintro v H' c1 ⟨rfl,rfl⟩ hc1;obtain⟨L1,L2⟩:=A0c (s,false);obtain⟨n1,hn1⟩:∃n,n=(I9 (s,false)).1:=⟨_,rfl⟩;obtain⟨s1,hs1⟩:∃st,st=(I9 (s,false)).2:=⟨_,rfl⟩;rw[<- hn1, <- hs1]at L2 ⊢;rw[<- hs1]at L1;simp only at L1;refine wAq ?_;refine A9 (λq:Nat × Option Nat=>[(0,.str s),(2,.ptr 0 0),(4,.ptr 1 0),(5,.ptr 2 0),(16,I64 n1),(17,I64 q.1)]) (λq=>DH (A6 N8 q.1 s1).2 [todoV q.2 q.1,.snil,.snil,.snil,.snil,I64 0,I64 0] q.2 ⟨2,true,V1 (A6 N8 q.1 s1).1⟩) (λq cc=>3<=cc/\q.1<=n1/\(q.2=none->q.1=0)/\∀i,q.2=some i->3<=i/\i<cc) (λq=>n1-q.1) (0,none)
  (by simp[B5,tm,Tm.upd]) (Sub.refl _) ⟨a8,by simp,by simp,by simp⟩ ?_
 rintro⟨k,o⟩ cc ⟨h3,hk,hno,hso⟩;simp only at hk hno hso;have ho3:∀i,o=some i->3<=i:=λi hi=>(hso i hi).1;obtain⟨M1,M2⟩:=W3 (f:=N8) D0q k s1;by_cases hlt:k<n1
 ·have hd:=dtz hlt;have hw:IntKind.i64.wrap ((k:Int)+1)=((k+1:Nat):Int):=by rw[w6z];omega
  have N1:=U9 (A6 N8 k s1).2;refine wAs hd ?_;refine AC.call (c_rnumD _ (by omega) ho3 cc h3) ?_;rintro v H' c2 ⟨rfl,rfl⟩ hcc;have hD2:=λst=>B2e (s:=st) (cs:=[todoV o k,.snil,.snil,.snil,.snil,I64 0,I64 0]) (b:=⟨2,true,V1 (A6 N8 k s1).1⟩) ho3;refine wAu hD2 ?_;refine AC.call (c_rnumD _ (by omega) ho3 _ (by omega)) ?_;rintro v H' c3 ⟨rfl,rfl⟩ hcc3;have hL:=D1m (A6 N8 k s1).1;rw[M2]at hL;have est:=D1k s1 k;have e2:(A6 N8 (k+1) s1).2=(C8 (C8 (A6 N8 k s1).2).2).2:=rfl;rcases o with _|id
  ·obtain rfl:=hno rfl;have hD2:=λst=>B2e (s:=st) (cs:=[.snil,.snil,.snil,.snil,.snil,I64 0,I64 0]) (b:=⟨2,true,V1 (A6 N8 0 s1).1⟩) no3;have f0:=λst=>D2v (s:=st) (cs:=[.snil,.snil,.snil,.snil,.snil,I64 0,I64 0]) (b:=⟨2,true,V1 (A6 N8 0 s1).1⟩) (j:=c2) (by omega) no2;have f1:=λst=>D2v (s:=st) (cs:=[.snil,.snil,.snil,.snil,.snil,I64 0,I64 0]) (b:=⟨2,true,V1 (A6 N8 0 s1).1⟩) (j:=c2+1) (by omega) no2;have f2:=λst=>D2v (s:=st) (cs:=[.snil,.snil,.snil,.snil,.snil,I64 0,I64 0]) (b:=⟨2,true,V1 (A6 N8 0 s1).1⟩) (j:=c2+2) (by omega) no2;have ne0:=V8 1 2 (c2+6) c3 (by omega);refine wAa (wJ hD2 (wJ f0 (wJ f1 (wJ f2 (wJ hw ne0))))) ?_;exact⟨(1,some c3),rfl,by simp only[est,e2,V1,cellsL,List.map_nil,List.flatMap_nil,A6,todoV]at *;(intro j b hj;simp only[DH,DB,optH,Hp.upd,Hp.del,Sym.nil]at hj ⊢;(repeat' split at hj)<;>(repeat' split)<;>first|exact hj|(exfalso;omega)|cases hj),inv ⟨a8,hlt,by simp,λi hi=>by cases hi;omega⟩,by simp only;omega⟩
  ·obtain⟨i1,i2⟩:=hso id rfl;have hDs:=λst=>F2f (s:=st) (cs:=[.slc id 0 k,.snil,.snil,.snil,.snil,I64 0,I64 0]) (i:=id) (b:=⟨2,true,V1 (A6 N8 k s1).1⟩);have hD2:=λst=>B2e (s:=st) (cs:=[.slc id 0 k,.snil,.snil,.snil,.snil,I64 0,I64 0]) (b:=⟨2,true,V1 (A6 N8 k s1).1⟩) ho3;have hi2:∀i,some id=some i->i<c2:=λi hi=>by cases hi;omega
   have f0:=λst=>D2v (s:=st) (cs:=[.slc id 0 k,.snil,.snil,.snil,.snil,I64 0,I64 0]) (b:=⟨2,true,V1 (A6 N8 k s1).1⟩) (j:=c2) (by omega) hi2;have f1:=λst=>D2v (s:=st) (cs:=[.slc id 0 k,.snil,.snil,.snil,.snil,I64 0,I64 0]) (b:=⟨2,true,V1 (A6 N8 k s1).1⟩) (j:=c2+1) (by omega) (λi hi=>by have:=hi2 i hi;omega);have f2:=λst=>D2v (s:=st) (cs:=[.slc id 0 k,.snil,.snil,.snil,.snil,I64 0,I64 0]) (b:=⟨2,true,V1 (A6 N8 k s1).1⟩) (j:=c2+2) (by omega) (λi hi=>by have:=hi2 i hi;omega);have ne0:=A1y 1 2 id (c2+6) c3 (by omega);refine wAj (wJ hD2 (wJ hDs (wJ f0 (wJ f1 (wJ f2 (wJ hw ne0)))))) ?_;exact⟨(k+1,some c3),rfl,by simp only[est,e2,todoV];(intro j b hj;simp only[DH,DB,optH,Hp.upd,Hp.del,Sym.nil]at hj ⊢;(repeat' split at hj)<;>(repeat' split)<;>first|exact hj|(exfalso;omega)|cases hj),inv ⟨a8,hlt,by simp,λi hi=>by cases hi;omega⟩,by simp only;omega⟩
 have hd:=dfz hlt;obtain rfl:k=n1:=a8
 refine wAs hd ?_;refine AC.ghost (C6r (pre:=[]) (suf:=[.snil,.snil,.snil,.snil,I64 0,I64 0]) (xs:=(A6 N8 k s1).1.map Ins.v) (b:=⟨0,true,[]⟩) (by simp[DV.one]) (λe=>by rw[hno e];rfl) ho3 (by simp[M2]) (D6x _)) ?_;clear hd hlt hk hno hso ho3;obtain⟨I,hI⟩:∃I,I=(A6 N8 k s1).1:=⟨_,rfl⟩;obtain⟨s2,hs2⟩:∃s,s=(A6 N8 k s1).2:=⟨_,rfl⟩;rw[<- hI, <- hs2];rw[<- hs2]at M1;refine AC.call (c_rcntD s2 (by omega) (cs:=[K7 I,.snil,.snil,.snil,.snil,I64 0,I64 0]) (b:=⟨0,true,[]⟩) no3 cc h3) ?_;rintro v H' c2 ⟨rfl,rfl⟩ hc2;obtain⟨L3,L4⟩:=A0c s2;obtain⟨n2,hn2⟩:∃n,n=(I9 s2).1:=⟨_,rfl⟩;obtain⟨s3,hs3⟩:∃st,st=(I9 s2).2:=⟨_,rfl⟩;rw[<- hn2, <- hs3]at L4 ⊢;rw[<- hs3]at L3;refine wAq ?_;refine A9 (λq:Nat × Option Nat=>[(0,.str s),(2,.ptr 0 0),(4,.ptr 1 0),(5,.ptr 2 0),(32,I64 n2),(33,I64 q.1)]) (λq=>DH (A6 M0 q.1 s3).2 [K7 I,todoV q.2 q.1,.snil,.snil,.snil,I64 0,I64 0] q.2 ⟨1,true,cellsL ((A6 M0 q.1 s3).1.map DV.str)⟩) (λq cc=>3<=cc/\q.1<=n2/\(q.2=none->q.1=0)/\∀i,q.2=some i->3<=i/\i<cc) (λq=>n2-q.1) (0,none)
  (by simp[B5,tm,Tm.upd]) (Sub.refl _) ⟨a8,by simp,by simp,by simp⟩ ?_
 clear h3 hc2 c2 cc;rintro⟨k2,o⟩ cc ⟨h3,hk,hno,hso⟩;simp only at hk hno hso;have ho3:∀i,o=some i->3<=i:=λi hi=>(hso i hi).1;obtain⟨M3,M4⟩:=W3 (f:=M0) B6i k2 s3;by_cases hlt:k2<n2
 ·have hd:=dtz hlt;have hw:IntKind.i64.wrap ((k2:Int)+1)=((k2+1:Nat):Int):=by rw[w6z];omega
  obtain⟨N1,N2⟩:=A0c (A6 M0 k2 s3).2;refine wAs hd ?_;refine AC.call (c_rcntD _ (by omega) ho3 cc h3) ?_;rintro v H' c2 ⟨rfl,rfl⟩ hcc;have hL:=D3x (A6 M0 k2 s3).1;rw[M4]at hL;have est:=D0j s3 k2;have e2:(A6 M0 (k2+1) s3).2=((I9 (A6 M0 k2 s3).2).2.1.drop (I9 (A6 M0 k2 s3).2).1,(I9 (A6 M0 k2 s3).2).2.2):=rfl;have e3:(M0 (A6 M0 k2 s3).2).1=(I9 (A6 M0 k2 s3).2).2.1.take (I9 (A6 M0 k2 s3).2).1:=rfl;have T1:=E7d N2;have T2:=C0g N2;rcases o with _|id
  ·obtain rfl:=hno rfl;have hD1:=λst=>C6s (s:=st) (cs:=[K7 I,.snil,.snil,.snil,.snil,I64 0,I64 0]) (b:=⟨1,true,cellsL ((A6 M0 0 s3).1.map DV.str)⟩) no3;have hD2:=λst=>B2e (s:=st) (cs:=[K7 I,.snil,.snil,.snil,.snil,I64 0,I64 0]) (b:=⟨1,true,cellsL ((A6 M0 0 s3).1.map DV.str)⟩) no3;have ne0:=V8 1 2 (c2+8) (c2+12) (by omega);refine wAa (wJ hD1 (wJ hD2 (wJ hw (wJ T1 (wJ T2 ne0))))) ?_;exact⟨(1,some (c2+12)),rfl,by simp only[est,e2,e3,cellsL,List.map_nil,List.flatMap_nil,A6,todoV]at *;(intro j b hj;simp only[DH,DB,optH,Hp.upd,Hp.del,Sym.nil]at hj ⊢;(repeat' split at hj)<;>(repeat' split)<;>first|exact hj|(exfalso;omega)|cases hj),inv ⟨a8,hlt,by simp,λi hi=>by cases hi;omega⟩,by simp only;omega⟩
  ·obtain⟨i1,i2⟩:=hso id rfl;have hDs:=λst=>F2f (s:=st) (cs:=[K7 I,.slc id 0 k2,.snil,.snil,.snil,I64 0,I64 0]) (i:=id) (b:=⟨1,true,cellsL ((A6 M0 k2 s3).1.map DV.str)⟩);have hD1:=λst=>C6s (s:=st) (cs:=[K7 I,.slc id 0 k2,.snil,.snil,.snil,I64 0,I64 0]) (b:=⟨1,true,cellsL ((A6 M0 k2 s3).1.map DV.str)⟩) ho3;have hD2:=λst=>B2e (s:=st) (cs:=[K7 I,.slc id 0 k2,.snil,.snil,.snil,I64 0,I64 0]) (b:=⟨1,true,cellsL ((A6 M0 k2 s3).1.map DV.str)⟩) ho3;have ne0:=A1y 1 2 id (c2+8) (c2+12) (by omega);refine wAj (wJ hD1 (wJ hD2 (wJ hDs (wJ hw (wJ T1 (wJ T2 ne0)))))) ?_;exact⟨(k2+1,some (c2+12)),rfl,by simp only[est,e2,e3,todoV];(intro j b hj;simp only[DH,DB,optH,Hp.upd,Hp.del,Sym.nil]at hj ⊢;(repeat' split at hj)<;>(repeat' split)<;>first|exact hj|(exfalso;omega)|cases hj),inv ⟨a8,hlt,by simp,λi hi=>by cases hi;omega⟩,by simp only;omega⟩
 have hd:=dfz hlt;obtain rfl:k2=n2:=a8
 refine wAs hd ?_;refine AC.ghost (C6r (pre:=[K7 I]) (suf:=[.snil,.snil,.snil,I64 0,I64 0]) (xs:=(A6 M0 k2 s3).1.map DV.str) (b:=⟨0,true,[]⟩) (by simp[DV.one]) (λe=>by rw[hno e];rfl) ho3 (by simp[M4]) (T7 _)) ?_;clear hd hlt hk hno hso ho3;obtain⟨S,hS⟩:∃S,S=(A6 M0 k2 s3).1:=⟨_,rfl⟩;obtain⟨s4,hs4⟩:∃s,s=(A6 M0 k2 s3).2:=⟨_,rfl⟩;rw[<- hS, <- hs4];rw[<- hs4]at M3;refine AC.call (c_rcntD s4 (by omega) (cs:=[K7 I,strs S,.snil,.snil,.snil,I64 0,I64 0]) (b:=⟨0,true,[]⟩) no3 cc h3) ?_;rintro v H' c2 ⟨rfl,rfl⟩ hc2;obtain⟨L5,L6⟩:=A0c s4;obtain⟨n3,hn3⟩:∃n,n=(I9 s4).1:=⟨_,rfl⟩;obtain⟨s5,hs5⟩:∃st,st=(I9 s4).2:=⟨_,rfl⟩;rw[<- hn3, <- hs5]at L6 ⊢;rw[<- hs5]at L5;refine wAq ?_;refine A9 (λq:Nat × Option Nat=>[(0,.str s),(2,.ptr 0 0),(4,.ptr 1 0),(5,.ptr 2 0),(59,I64 n3),(60,I64 q.1)]) (λq=>DH (A6 K6 q.1 s5).2 [K7 I,strs S,todoV q.2 q.1,.snil,.snil,I64 0,I64 0] q.2 ⟨4,true,cellsL ((A6 K6 q.1 s5).1.map Ent.v)⟩) (λq cc=>3<=cc/\q.1<=n3/\(q.2=none->q.1=0)/\∀i,q.2=some i->3<=i/\i<cc) (λq=>n3-q.1) (0,none)
  (by simp[B5,tm,Tm.upd]) (Sub.refl _) ⟨a8,by simp,by simp,by simp⟩ ?_
 clear h3 hc2 c2 cc;rintro⟨k3,o⟩ cc ⟨h3,hk,hno,hso⟩;simp only at hk hno hso;have ho3:∀i,o=some i->3<=i:=λi hi=>(hso i hi).1;obtain⟨M5,M6⟩:=W3 (f:=K6) D0r k3 s5;by_cases hlt:k3<n3
 ·have hd:=dtz hlt;have hw:IntKind.i64.wrap ((k3:Int)+1)=((k3+1:Nat):Int):=by rw[w6z];omega
  obtain⟨s6,hs6⟩:∃s,s=(A6 K6 k3 s5).2:=⟨_,rfl⟩;rw[<- hs6]at M5;refine wAs hd ?_;refine A9 (λk:Nat=>[(0,.str s),(2,.ptr 0 0),(4,.ptr 1 0),(5,.ptr 2 0),(8,.ptr cc 0),(59,I64 n3),(60,I64 k3),(63,I64 k)]) (λk=>(DH (A6 C8 k s6).2 [K7 I,strs S,todoV o k3,.snil,.snil,I64 0,I64 0] o ⟨4,true,cellsL ((A6 K6 k3 s5).1.map Ent.v)⟩).upd cc ⟨0,true,((A6 C8 k s6).1++List.replicate (4-k) 0).map I64⟩) (λk c=>cc<c/\k<=4) (λk=>4-k) 0
   (by simp[B5,tm,Tm.upd]) (by rw[hs6,A1];exact Sub.refl _) ⟨a8,by omega⟩ ?_
  rintro k c ⟨hcc,hk4⟩;obtain⟨M7,M8⟩:=W3 (f:=C8) U9 k s6;by_cases hlt4:k<4
  ·have hd4:decide ((k:Int)<4)=true:=by simp;omega
   have hw4:IntKind.i64.wrap ((k:Int)+1)=((k+1:Nat):Int):=l8
   refine wAs hd4 ?_;refine AC.call (c_rnum (A6 C8 k s6).2 (by omega) _ c 1 (by rw[hnO];exact C6s ho3) (by omega)) ?_;rintro v H' c1 ⟨rfl,rfl⟩ hcc1;have hia:=B0e (id:=cc) (off:=0) (sz:=1) (l:=4) (k:=.i64) (j:=(k:Int)) (by omega) (by omega);have hlen:((A6 C8 k s6).1++List.replicate (4-k) 0).length=4:=by simp[M8];omega
   have hle:k+1<=4:=hlt4;have ne0:=A1z 1 cc (by omega);refine wAu (wJ hia (wJ hw4 (wJ hlen (wJ hle ne0)))) ?_;refine⟨k+1,rfl,?_,inv ⟨a8,hlt4⟩,by omega⟩;rw[B2q (by rw[hlen];omega),D4q M8 hlt4];have q1:(A6 C8 (k+1) s6).1=(A6 C8 k s6).1++[(C8 (A6 C8 k s6).2).1]:=rfl;have q2:(A6 C8 (k+1) s6).2=(C8 (A6 C8 k s6).2).2:=rfl;simp only[q1,q2];rcases o with _|id
   ·(intro j b hj;simp only[DH,DB,optH,Hp.upd,Hp.del,Sym.nil]at hj ⊢;(repeat' split at hj)<;>(repeat' split)<;>first|exact hj|(exfalso;omega)|cases hj)
   ·have:=hso id rfl
    (intro j b hj;simp only[DH,DB,optH,Hp.upd,Hp.del,Sym.nil]at hj ⊢;(repeat' split at hj)<;>(repeat' split)<;>first|exact hj|(exfalso;omega)|cases hj)
  have hd4:decide ((k:Int)<4)=false:=b9
  obtain rfl:k=4:=a8
  have ee:=C4h s6;have hL:=B7g (A6 K6 k3 s5).1;rw[M6]at hL;have est:=D1z s5 k3;have e2:(A6 K6 (k3+1) s5).2=(K6 (A6 K6 k3 s5).2).2:=rfl;rw[<- hs6]at e2 est;have ecs:((A6 C8 4 s6).1++List.replicate (4-4) 0).map I64=[I64 (K6 s6).1.mode,I64 (K6 s6).1.trigger,I64 (K6 s6).1.index,I64 (K6 s6).1.pos]:=by rw[ee];rfl
  have est2:(A6 C8 4 s6).2=(K6 s6).2:=by rw[ee]
  rw[ecs,est2];have g0:=B0e (id:=cc) (off:=0) (sz:=1) (l:=4) (k:=.i64) (j:=0) (by omega) (by omega);have g1:=B0e (id:=cc) (off:=0) (sz:=1) (l:=4) (k:=.i64) (j:=1) (by omega) (by omega);have g2:=B0e (id:=cc) (off:=0) (sz:=1) (l:=4) (k:=.i64) (j:=2) (by omega) (by omega);have g3:=B0e (id:=cc) (off:=0) (sz:=1) (l:=4) (k:=.i64) (j:=3) (by omega) (by omega);rcases o with _|id
  ·obtain rfl:=hno rfl;have h65:s5=s6:=hs6.symm;subst h65;have hD2:=λst=>B2e (s:=st) (cs:=[K7 I,strs S,.snil,.snil,.snil,I64 0,I64 0]) (b:=⟨4,true,cellsL ((A6 K6 0 s5).1.map Ent.v)⟩) no3;have ne0:=A1y 1 2 cc c (c+1) (by omega);(repeat'((first|(with_reducible first|apply wr|refine k_cu ?_ ?_)|(with_reducible apply wb2<;>(intro hb;try simp only[hb]))|((with_reducible refine G6 (A0l (by decide) (by decide) (by decide)) ?_)))<;>try simp only[go_sem,seval,hd4,hD2,hw,g0,g1,g2,g3,ne0]));exact⟨(1,some (c+1)),rfl,by simp only[est,e2,cellsL,List.map_nil,List.flatMap_nil,A6,todoV,DV.cells,List.nil_append]at *;(intro j b hj;simp only[DH,DB,optH,Hp.upd,Hp.del,Sym.nil]at hj ⊢;(repeat' split at hj)<;>(repeat' split)<;>first|exact hj|(exfalso;omega)|cases hj),inv ⟨a8,hlt,by simp,λi hi=>by cases hi;omega⟩,by simp only;omega⟩
  ·obtain⟨i1,i2⟩:=hso id rfl;have hDs:=λst=>F2f (s:=st) (cs:=[K7 I,strs S,.slc id 0 k3,.snil,.snil,I64 0,I64 0]) (i:=id) (b:=⟨4,true,cellsL ((A6 K6 k3 s5).1.map Ent.v)⟩);have hD2:=λst=>B2e (s:=st) (cs:=[K7 I,strs S,.slc id 0 k3,.snil,.snil,I64 0,I64 0]) (b:=⟨4,true,cellsL ((A6 K6 k3 s5).1.map Ent.v)⟩) ho3;have ne0:=A7s 1 2 id cc c (c+1) (by omega);(repeat'((first|(with_reducible first|apply wr|refine k_cu ?_ ?_)|(with_reducible apply wb2<;>(intro hb;try simp only[hb]))|((with_reducible refine G6 (Z6 hL (by omega) (by omega)) ?_)))<;>try simp only[go_sem,seval,hd4,hD2,hDs,hw,g0,g1,g2,g3,ne0]));exact⟨(k3+1,some (c+1)),rfl,by simp only[est,e2,todoV,DV.cells];(intro j b hj;simp only[DH,DB,optH,Hp.upd,Hp.del,Sym.nil]at hj ⊢;(repeat' split at hj)<;>(repeat' split)<;>first|exact hj|(exfalso;omega)|cases hj),inv ⟨a8,hlt,by simp,λi hi=>by cases hi;omega⟩,by simp only;omega⟩
 have hd:=dfz hlt;obtain rfl:k3=n3:=a8
 refine wAs hd ?_;refine AC.ghost (C6r (pre:=[K7 I,strs S]) (suf:=[.snil,.snil,I64 0,I64 0]) (xs:=(A6 K6 k3 s5).1.map Ent.v) (b:=⟨0,true,[]⟩) (by simp[DV.one]) (λe=>by rw[hno e];rfl) ho3 (by simp[M6]) (D8k _)) ?_;clear hd hlt hk hno hso ho3;obtain⟨E,hE⟩:∃E,E=(A6 K6 k3 s5).1:=⟨_,rfl⟩;obtain⟨s6,hs6⟩:∃s,s=(A6 K6 k3 s5).2:=⟨_,rfl⟩;rw[<- hE, <- hs6];rw[<- hs6]at M5;refine AC.call (c_rnumsD s6 (by omega) (cs:=[K7 I,strs S,Q6 E,.snil,.snil,I64 0,I64 0]) (b:=⟨0,true,[]⟩) no3 cc h3) ?_;rintro v H' c2 ⟨rfl,rfl⟩ hc2;have hc:∀st cs cs',(DH st cs none ⟨0,true,[]⟩).upd 2 ⟨0,true,cs'⟩=DH st cs' none ⟨0,true,[]⟩:=λst cs cs'=>A1;have R1:=B3s s6;have hD2:=λst=>B2e (s:=st) (cs:=[K7 I,strs S,Q6 E,.snil,.snil,I64 0,I64 0]) (b:=⟨0,true,[]⟩) no3;refine wAu hD2 ?_;rw[hc];obtain⟨p7,hp7⟩:∃p,p=(W1 s6).1:=⟨_,rfl⟩;obtain⟨s7,hs7⟩:∃s,s=(W1 s6).2:=⟨_,rfl⟩;rw[<- hp7, <- hs7];rw[<- hs7]at R1;refine AC.call (c_rnumsD s7 (by omega) (cs:=[K7 I,strs S,Q6 E,J5 p7,.snil,I64 0,I64 0]) (b:=⟨0,true,[]⟩) no3 c2 (by omega)) ?_;rintro v H' c3 ⟨rfl,rfl⟩ hc3;have R2:=B3s s7;have hD2:=λst=>B2e (s:=st) (cs:=[K7 I,strs S,Q6 E,J5 p7,.snil,I64 0,I64 0]) (b:=⟨0,true,[]⟩) no3;refine wAu hD2 ?_;rw[hc];obtain⟨p8,hp8⟩:∃p,p=(W1 s7).1:=⟨_,rfl⟩;obtain⟨s8,hs8⟩:∃s,s=(W1 s7).2:=⟨_,rfl⟩;rw[<- hp8, <- hs8];rw[<- hs8]at R2;refine AC.call (c_rnumD s8 (by omega) (cs:=[K7 I,strs S,Q6 E,J5 p7,J5 p8,I64 0,I64 0]) (b:=⟨0,true,[]⟩) no3 c3 (by omega)) ?_;rintro v H' c4 ⟨rfl,rfl⟩ hc4;have R3:=U9 s8;have hD2:=λst=>B2e (s:=st) (cs:=[K7 I,strs S,Q6 E,J5 p7,J5 p8,I64 0,I64 0]) (b:=⟨0,true,[]⟩) no3;refine wAu hD2 ?_;rw[hc];obtain⟨p9,hp9⟩:∃p,p=(C8 s8).1:=⟨_,rfl⟩;obtain⟨s9,hs9⟩:∃s,s=(C8 s8).2:=⟨_,rfl⟩;rw[<- hp9, <- hs9];rw[<- hs9]at R3;refine AC.call (c_rnumD s9 (by omega) (cs:=[K7 I,strs S,Q6 E,J5 p7,J5 p8,I64 p9,I64 0]) (b:=⟨0,true,[]⟩) no3 c4 (by omega)) ?_;rintro v H' c5 ⟨rfl,rfl⟩ hc5;have hD2:=λst=>B2e (s:=st) (cs:=[K7 I,strs S,Q6 E,J5 p7,J5 p8,I64 p9,I64 0]) (b:=⟨0,true,[]⟩) no3;refine wAu hD2 ?_;rw[hc];have hS2:∀x∈S,x.length<=140737488355328:=λx hx=>by
  have:=D0p k2 s3 (by omega) x (hS▸hx);omega
 have hI2:I.length<=9223372036854775807:=by rw[hI,M2];omega
 have eP:B3r (s,false)=(⟨I,S,E,p7,p8,p9,(C8 s9).1⟩,(C8 s9).2):=by
  subst hs9 hp9 hs8 hp8 hs7 hp7 hs6 hE hs5 hn3 hs4 hS hs3 hn2 hs2 hI hs1 hn1;rfl
 obtain⟨cP,hcP⟩:∃c:Prg,c=⟨I,S,E,p7,p8,p9,(C8 s9).1⟩:=⟨_,rfl⟩;obtain⟨sz,hsz⟩:∃x:RS,x=(C8 s9).2:=⟨_,rfl⟩;have hv:DV.agg [K7 I,strs S,Q6 E,J5 p7,J5 p8,I64 p9,DV.int .i64 (C8 s9).1]=cP.v:=by rw[hcP]
 have hcs:[K7 I,strs S,Q6 E,J5 p7,J5 p8,I64 p9,DV.int .i64 (C8 s9).1]=cP.cs:=by rw[hcP]
 rw[hv,hcs, <- hsz];rw[<- hcP, <- hsz]at eP;refine ca3 ((c_Encode cP (by rw[hcP];exact hS2) (by rw[hcP];exact hI2)).at _ _) ?_;have hD0:=G0w (s:=sz) (cs:=cP.cs) (b:=⟨0,true,[]⟩) no3;have hD1:=C6s (s:=sz) (cs:=cP.cs) (b:=⟨0,true,[]⟩) no3;have hD2:=B2e (s:=sz) (cs:=cP.cs) (b:=⟨0,true,[]⟩) no3;have eD:D8q s=if sz.2=true\/H6 cP≠0\/B1w cP≠s then Option.none else some cP:=by rw[D8q,eP]
 rw[eD];simp only[go_sem,seval];cases hb:sz.2
 ·by_cases h0:H6 cP=0
  ·have h1:(H6 cP != 0)=false:=by simp[h0]
   by_cases h2:B1w cP=s
   ·have h3:(!(B1w cP==s))=false:=by simp[h2]
    rw[if_neg (by simp[h0,h2])];refine wA1 hb h1 h3 hD0 hD1 hD2 ?_;rw[G4 (v:=.tup [cP.v,I64 0]) rfl];exact A4 rfl
   ·have h3:(!(B1w cP==s))=true:=by simp[h2]
    rw[if_pos (.inr (.inr h2))];refine wA1 hb h1 h3 hD0 hD1 hD2 ?_;rw[G4 (v:=.tup [.agg [.snil,.snil,.snil,.snil,.snil,I64 0,I64 0],I64 51]) rfl];exact C5n
  ·have h1:(H6 cP != 0)=true:=by simp[h0]
   rw[if_pos (.inr (.inl h0))];refine wA0 hb h1 hD0 hD1 hD2 ?_;rw[G4 (v:=.tup [.agg [.snil,.snil,.snil,.snil,.snil,I64 0,I64 0],I64 51]) rfl];exact C5n
 ·rw[if_pos (.inl rfl)];refine wAy hb hD0 hD1 hD2 ?_;rw[G4 (v:=.tup [.agg [.snil,.snil,.snil,.snil,.snil,I64 0,I64 0],I64 51]) rfl];exact C5n
end Go.Proofs.YtnkkfehegdplgaaGreatDoor
set_option maxHeartbeats 8000000
namespace Go.Proofs.YtnkkfehegdplgaaGreatDoor
open Go.Eng (IC IOper DReg IFn P0)
open Go.Sym Go.Pb
theorem c_ask(s:List UInt8){N:Nat}(h1:RQ 3 s N)(h2:s.length<=20000)(h3:N<=4000):∃(D:List Dc) (M:List Md) (a1 a2 a5:List DV) (En:List Ent) (P:List Int) (a6 a7:Int) (t:List UInt8) (g:List UInt8->Int × Int),
  (O7 s).1.v=.agg [D7 D,F6 M]/\P.length=M.length/\En.length=(M.map λm=>m.hds.length).sum/\(∀m∈M,m.hds.length<=4)/\M.length<=100 /\
  PC Tryz.prog 5 [.agg [D7 D,F6 M]] (.tup [.agg [.lst a1,.lst a2,Q6 En,J5 P,.lst a5,I64 a6,I64 a7],I64 0,I64 0]) /\
  PC Tryz.prog 6 [.agg [.lst a1,.lst a2,Q6 En,J5 P,.lst a5,I64 a6,I64 a7]] (.tup [.str t,I64 0]) /\
  PC Tryz.prog 7 [.str t] (.tup [.agg [.lst a1,.lst a2,Q6 En,J5 P,.lst a5,I64 a6,I64 a7],I64 0]) /\
  PC Tryz.prog 8 [.agg [.lst a1,.lst a2,Q6 En,J5 P,.lst a5,I64 a6,I64 a7],.agg [.lst a1,.lst a2,Q6 En,J5 P,.lst a5,I64 a6,I64 a7]] (.bool true) /\
  (∀n,PC Tryz.prog 9 [.agg [D7 D,F6 M],.str n] (.tup [I64 (g n).1,I64 (g n).2])) /\
  (∀(j:Nat) m x,M[j]? = some m->x∈m.hds->∃p,PC Tryz.prog 10 [.agg [.lst a1,.lst a2,Q6 En,J5 P,.lst a5,I64 a6,I64 a7],I64 j,I64 x.trig,I64 (g x.name).2] (.tup [I64 p,.bool true])):=by
 obtain⟨-,hc,hcm, -,hM, -⟩:=h1.ok h2 h3;obtain⟨g1,g2,g3⟩:=h1.carry h2 h3;have hz:=E1b s;have hml:=congrArg List.length hM;rw[A0N]at hml;generalize (O7 s).1=r at *;have hC:=c_PCompile r (by omega);have hv:=D2f r;rw[hcm]at hC hv;dsimp only at hv;obtain⟨l1,l2,l3,l4⟩:=C3t hv;have hE:=c_Encode (cmC r) l1 (by omega);have hD:=c_Decode (B5x (cmC r)) (E2y hv);rw[E3e hv]at hD;rw[show B1w (cmC r)=B5x (cmC r) by unfold B1w;rw[if_pos hv],hv]at hE;have hP:(cmC r).prios.length=r.modes.length:=by simp[cmC]
 have hS:=c_SameR (cmC r) (cmC r) (by omega) (by omega) (by omega) (by rw[hP];omega) (by omega);rw[decide_eq_true rfl]at hS;have hF:=λm t i=>c_Find (cmC r) (by omega) m t i;have hL:=λn=>c_LookupR r n (by omega);unfold D6o at hL;simp only[hc.vl,if_true]at hL;generalize cmC r=c at *;obtain⟨I,S,En,P,V,x6,x7⟩:=c;obtain⟨D,M⟩:=r;refine⟨D,M,_,_,_,En,P,x6,x7,_,λn=>H5 ⟨D,M⟩ n,rfl,hP,g1,g2,by dsimp only at hml;rw[hml];decide,hC,hE,hD,hS,hL,λj m x hj hx=>?_⟩;obtain⟨p,hp⟩:=g3 j m x hj hx;have:=hF (j:Int) x.trig (H5 ⟨D,M⟩ x.name).2;rw[hp]at this;exact⟨p,this⟩
theorem c_CompileCarries(l:List UInt8)(hl:l.length<=9223372036854775807):PC Tryz.prog 3 [.lst (bytesC l)] (.bool true):=by
 have hsa:=c_sane34;refine PC.ofT A3 rfl (A0F rfl) (by simp[DV.nlL,DV.nl,show DV.nlL (bytesC l)=true from P1 (λ_=>rfl) l]) rfl ?_;refine wAp ?_;refine AC.call (E2u l hl _ _) ?_;rintro v' H' c2 ⟨s,N,q1,q2,q3,rfl,rfl⟩ hc2;obtain⟨D,M,a1,a2,a5,En,P,a6,a7,t,g,e1,e2,e3,e4,e5,hC,hE,hD,hS,hL,hF⟩:=c_ask s q1 q2 q3;rw[e1];clear q1 q2 q3 e1;have hb:((P.length:Int) != (M.length:Int))=false:=by rw[e2];simp
 have ne0:=W9 c2 (c2+1) (c2+1+1) (by omega);simp only[go_sem,seval,hb,A0N,ne0,A0,A1];(repeat'((with_reducible first|apply wr|refine cpc hC ?_|refine cpc hE ?_|refine cpc hD ?_|refine cpc hS ?_|refine k_cu ?_ ?_|apply wb2<;>(intro hb;try simp only[hb]))<;>try simp only[go_sem,seval,hb,A0N,ne0,A0,A1]));generalize hK:((Sym.nil.upd c2 ⟨0,true,[D7 D,F6 M]⟩).upd (c2+1) ⟨0,true,[.lst a1,.lst a2,Q6 En,J5 P,.lst a5,I64 a6,I64 a7]⟩).upd (c2+1+1) ⟨0,true,[.lst a1,.lst a2,Q6 En,J5 P,.lst a5,I64 a6,I64 a7]⟩=K;have kR:K c2=some ⟨0,true,[D7 D,F6 M]⟩:=by rw[<- hK,hnO,hnO,A0]
 have kC:K (c2+1)=some ⟨0,true,[.lst a1,.lst a2,Q6 En,J5 P,.lst a5,I64 a6,I64 a7]⟩:=by rw[<- hK,hnO,A0]
 have kD:K (c2+1+1)=some ⟨0,true,[.lst a1,.lst a2,Q6 En,J5 P,.lst a5,I64 a6,I64 a7]⟩:=by rw[<- hK,A0]
 have kN:∀j,c2+1+1+1<=j->K j=none:=λj hj=>by rw[<- hK,hnO,hnO,hnO];rfl
 clear hK hC hE hD hS;refine A9 (λq:Nat × Nat=>[(3,.ptr c2 0),(4,.ptr (c2+1) 0),(9,.ptr (c2+1+1) 0),(11,I64 q.2),(12,I64 q.1)]) (λ_=>K) (λq c=>c2+1+1+1<=c/\q.1<=M.length/\q.2=((M.take q.1).map λm=>m.hds.length).sum) (λq=>M.length-q.1) (0,0) (by simp[B5,tm,Tm.upd]) (Sub.refl _) ⟨A0E _,A0Q _,rfl⟩ ?_;rintro⟨i,n⟩ c ⟨hc,hi,hn⟩;dsimp only at hc hi hn ⊢;have hn4:n<=400:=by
  have key:∀l:List Md,(∀m∈l,m.hds.length<=4)->(l.map λm=>m.hds.length).sum<=4*l.length:=by
   intro l
   induction l with
   |nil=>intro _;exact A0E _
   |cons x l ih =>
    intro h;have h1:=h x A0H;have h2:=ih λm hm=>h m (A0D _ hm);simp only[A0P,A3D,A0C];omega
  have:=key (M.take i) λm hm=>e4 m (A3U hm);rw[A1C]at this;omega
 by_cases hlt:i<M.length
 ·have hd:=dtz hlt;have hg:=A0B hlt;generalize M[i]=m at hg;have hmm:m∈M:=A0W hg;refine wAr (wJ hd kR) ?_;refine A9 (λq:Nat=>[(3,.ptr c2 0),(4,.ptr (c2+1) 0),(9,.ptr (c2+1+1) 0),(11,I64 (n+q:Nat)),(12,I64 i),(13,I64 q)]) (λ_=>K) (λq c'=>c<=c'/\q<=m.hds.length) (λq=>m.hds.length-q) 0 (by simp[B5,tm,Tm.upd]) (Sub.refl _) ⟨A0E _,A0Q _⟩ ?_;rintro k c' ⟨hc',hk⟩;by_cases hlk:k<m.hds.length
  ·have hdk:decide ((k:Int)<m.hds.length)=true:=by simpa using hlk
   have hgk:=A0B hlk;generalize m.hds[k]=x at hgk;have hxm:x∈m.hds:=A0W hgk;have hx:=hL x.name;obtain⟨p,hp⟩:=hF i m x hg hxm;have k1:=kN c' (by omega);have hlm:=e4 m hmm;have hw1:IntKind.i64.wrap (((n+k:Nat):Int)+1)=((n+(k+1):Nat):Int):=l8
   have hw2:IntKind.i64.wrap ((k:Int)+1)=((k+1:Nat):Int):=l8
   have ne0:=V8 c2 (c2+1) (c2+1+1) c' (by omega);refine wBc hx hp (wJ hdk (wJ kR (wJ kD (wJ hg (wJ hgk (wJ hw1 (wJ hw2 (wJ ne0 (wJ @A0 @A1))))))))) ?_;exact⟨k+1,⟨rfl,rfl⟩,(Sub.refl _).upd _ k1,inv ⟨a8,hlk⟩,by omega⟩
  ·have hdk:decide ((k:Int)<m.hds.length)=false:=by simpa using hlk
   obtain rfl:k=m.hds.length:=a8
   have hw1:IntKind.i64.wrap ((i:Int)+1)=((i+1:Nat):Int):=l8
   refine wAr (wJ hdk (wJ kR (wJ hg hw1))) ?_;exact⟨(i+1,n+m.hds.length),⟨rfl,rfl⟩,Sub.refl _,inv ⟨a8,hlt,by rw[A0V,hg];simp[hn]⟩,by dsimp only;omega⟩
 ·have hd:=dfz hlt;obtain rfl:i=M.length:=by omega
  rw[A1T, <- e3]at hn;subst hn;have hq:((En.length:Int)==(En.length:Int))=true:=by simp
  refine wA7 hsa (wJ hd (wJ kR (wJ kC hq))) ?_;exact A4 rfl
end Go.Proofs.YtnkkfehegdplgaaGreatDoor
end

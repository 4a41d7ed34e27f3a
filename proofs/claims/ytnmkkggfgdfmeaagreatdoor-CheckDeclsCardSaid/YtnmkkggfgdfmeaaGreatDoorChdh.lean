/-
  HELPERS of the claim: part 8 of its texts.
-/
import Derived.Test.YtnmkkggfgdfmeaaGreatDoorChdg
noncomputable section
set_option maxHeartbeats 8000000
set_option maxRecDepth 100000
set_option linter.unusedSimpArgs false
set_option linter.unusedVariables false
namespace Go.Proofs.YtnmkkggfgdfmeaaGreatDoor
open Go.Eng (IC IOper DReg IFn B8)
open Go.Sym Go.Pb
theorem B9i (L:List UInt8) (hL:L.length<=300) (w:Nat) (D:Int) (P:List UInt8->Prop) (hS:MX 139 [I64 D] L w 14 P) :
  MX 107 [I64 D] L w 3 (BkG P):=by
 intro i hi H cc t ht htc;refine AC.bodyT A9 rfl (A0B rfl) fun hfr=>?_;repeat' ((with_reducible apply wr)<;>try simp only [go_sem,seval])
 refine AC.call (U6 L hL w 4 (by decide) (by decide) i hi _ _ t ht (by omega)) ?_;rintro v' H' c2 ⟨k,j,hlt,hj,hjp,rfl,rfl⟩ hc2;simp only [go_sem,seval];repeat' ((with_reducible apply wr)<;>try simp only [go_sem,seval])
 refine C2 (fun q:Nat × Nat × List (List UInt8)=>[(0,.ptr t 0),(1,I64 D),(5,.str (A1z q.2.2)),(6,I64 q.1)]) (fun q=>H.upd t (mkB L w q.2.1))
  (fun q c=>cc<=c/\q.1+q.2.2.length<=3/\q.2.1<=300/\(∀ x∈q.2.2,P x)/\(A1z q.2.2).length+15 * q.1+50 * i<=1+50 * q.2.1) (fun q=>q.1) (k,j,[])
  (by simp [C3,tm,Tm.upd,A1z]) (Sub.refl _) ⟨hc2,(by show k+0<=3;omega),hj,(fun x hx=>absurd hx (A2F)),(by show 1+15 * k+50 * i<=1+50 * j;omega)⟩ ?_
 rintro ⟨n,i2,ss⟩ c ⟨hc,hn,hi2,hP,hl⟩;dsimp only at hc hn hi2 hP hl ⊢;by_cases h0:0<n
 ·have qn:decide ((n:Int)>0)=true:=by simpa using h0
  obtain ⟨n,rfl⟩:∃ m,n=m+1:=⟨n-1,by omega⟩;have hw1:IntKind.i64.wrap (((n+1:Nat):Int)-1)=(n:Int):=by rw [w64 (by omega) (by omega)];omega
  generalize hn1:((n+1:Nat):Int)=N1 at qn hw1 ⊢;obtain ⟨x1,e1,m1,a1⟩:=E0 (A1z ss) [32] (by (try simp)<;>omega);try simp only [A0E,A0F] at m1
  repeat' ((with_reducible apply wr)<;>try simp only [go_sem,seval,qn,a1])
  refine AC.call (hS i2 hi2 _ _ t A0 (by omega)) ?_;rintro v' H' c3 ⟨r,i3,g,l,hi3,rfl,rfl⟩ hc3;obtain ⟨x2,e2,m2,a2⟩:=E0 x1 r (by omega);rw [A1];simp only [go_sem,seval,a1,a2,hw1];repeat' ((with_reducible apply wr)<;>try simp only [go_sem,seval,a1,a2,hw1])
  refine ⟨(n,i3,ss++[r]),?_,Sub.refl _,inv ⟨by omega,by simp;omega,hi3,?_,?_⟩,by simp only;omega⟩
  ·rw [e1] at e2;simp [C3,tm,Tm.upd,A8u,e2]
  ·intro x hx;rcases A1R.1 hx with hx|hx
   ·exact hP x hx
   ·rw [A1F.1 hx];exact g
  ·show (A1z (ss++[r])).length+15 * n+50 * i<=1+50 * i3;rw [A8u, <- e1, <- e2];omega
 ·obtain rfl:n=0:=by omega
  obtain ⟨x1,e1,m1,a1⟩:=E0 (A1z ss) [32,125] (by (try simp)<;>omega);try simp only [A0E,A0F] at m1
  repeat' ((with_reducible apply wr)<;>try simp only [go_sem,seval,a1])
  exact ⟨_,_,GL.refl _ _,x1,i2,⟨ss,by omega,hP,e1⟩,by omega,hi2,rfl,rfl⟩
theorem C6r (L:List UInt8) (hL:L.length<=300) (w:Nat) (hw:w<=100):∀ d:Nat,d<=2->MX 139 [I64 d] L w 14 (StD L w d)
 | 0,_=>C6s L hL w hw 0 (by omega) (by omega) _ (.inl (by omega))
 | d+1,h=>by
  have h1:=C6r L hL w hw d (by omega);have h2:=B9i L hL w (d:Int) _ h1;exact C6s L hL w hw ((d+1:Nat):Int) (by omega) (by omega) _ (.inr (by rw [show ((d+1:Nat):Int)-1=(d:Int) by omega];exact h2))
theorem D6n (L:List UInt8) (hL:L.length<=300) (w:Nat) (hw:w<=100):MX 107 [I64 2] L w 3 (BkG (StD L w 2)) :=
 B9i L hL w ((2:Nat):Int) _ (C6r L hL w hw 2 (by omega))
theorem C1d (L:List UInt8) (hL:L.length<=300) (w:Nat) (hw:w<=100) (k:Nat) (hk:k<=1000):MX 69 [I64 k] L w 20 (HdG L w k):=by
 intro i hi H cc t ht htc;refine AC.bodyT A9 rfl (A0B rfl) fun hfr=>?_;have hrm:binR .rem (I64 (k:Int)) (.int .i64 11)=some (I64 ((k % 11:Nat):Int)):=by rw [U7 (by decide)];rfl
 repeat' ((with_reducible apply wr)<;>try simp only [go_sem,seval,hrm])
 have hm11:=A2T k (show 0<11 by decide);have hld:=C2d hm11;have hg:=O6 (l:=B9z) (n:=10) (by decide) (k % 11);have hcon:∀ x,BkG (StD L w 2) x->HdG L w k ((([111,110,32]++B9z.getD (k % 11) [])++[32])++x):=fun x hx=>.std hx;generalize k % 11=m at hm11 hld hg hcon ⊢;generalize B9z.getD m []=tr at hld hg hcon ⊢;have hia:I1 1 (.slc cc 0 11) (I64 (m:Int))=some (.ptr cc m):=by simp [I1];omega
 rw [show ([.str [115,116,97,114,116],.str [115,116,111,112],.str [99,108,111,115,101,32,115,119,48],.str [111,112,101,110,32,115,119,48],.str [99,108,111,115,101,32,115,119,49],.str [99,108,111,115,101,32,115,119,50],.str [116,105,109,101,114,32,116,109,48],.str [116,105,109,101,114,32,116,109,49],.str [101,118,101,110,116,32,101,118,48],.str [101,118,101,110,116,32,101,118,49],.str [111,112,101,110,32,115,119,51]]:List DV)=D3b from rfl];generalize D3b=WL at hld ⊢;have ne0:=M8 t cc (by omega);have kB:∀ (i2 c0:Nat) (tx:List UInt8),i2<=300->cc+1<=c0->tx.length+50 * i<=11+50 * i2->(∀ x,BkG (StD L w 2) x->HdG L w k ((([111,110,32]++tx)++[32])++x)) ->
   IW Tryz.prog 34 (pz Tryz.prog 69 (.i (.i (.o .h)))) ⟨tm [(0,.ptr t 0),(5,.str tx)],(H.upd cc ⟨1,true,WL⟩).upd t (mkB L w i2),c0⟩ (rt [.tmp 4] fun v H' c' => ∃ v2 H2,GL H' [v] H2 [v2]/\∃ s j,HdG L w k s/\s.length+50 * i<=20+50 * j/\j<=300/\v2=.str s/\H2=H.upd t (mkB L w j)):=by
  intro i2 c0 tx hi2 hc0 htx hx;obtain ⟨x1,e1,m1,a1⟩:=E0 [111,110,32] tx (by (try simp)<;>omega);try simp only [A0E,A0F] at m1
  obtain ⟨x2,e2,m2,a2⟩:=E0 x1 [32] (by (try simp)<;>omega);try simp only [A0E,A0F] at m2
  repeat' ((with_reducible apply wr)<;>try simp only [go_sem,seval,a1,a2])
  refine AC.call (D6n L hL w hw i2 hi2 _ _ t A0 (by omega)) ?_;rintro v' H' c3 ⟨r,j,g,l,b,rfl,rfl⟩ hc3;obtain ⟨x3,e3,m3,a3⟩:=E0 x2 r (by omega);rw [A1];simp only [go_sem,seval,a3];repeat' ((with_reducible apply wr)<;>try simp only [go_sem,seval,a3])
  refine ⟨_,_,GL.less' (fun j2 q hj=>?_),x3,j,by rw [e3,e2,e1];exact hx r g,by omega,b,rfl,rfl⟩;by_cases e:j2=t
  ·subst e;rw [A0] at hj ⊢;exact hj
  ·rw [A2 e] at hj ⊢;have:j2≠cc:=by rintro rfl;rw [hfr _ (by omega)] at hj;cases hj
   rw [A2 this];exact hj
 simp only [go_sem,seval,ne0,hia,hld,A0,ht];by_cases h0:0<w
 ·have q0:decide ((w:Int)>0)=true:=by simpa using h0
  repeat' ((with_reducible apply wr)<;>try simp only [go_sem,seval,ne0,hia,hld,A0,ht,q0])
  refine AC.call (U6 L hL w w h0 (by omega) i hi _ _ t (by rw [A2 (by omega)];exact ht) (by omega)) ?_;rintro v' H' c2 ⟨q,j,hq,hj,hjp,rfl,rfl⟩ hc2;by_cases q1:q=1
  ·subst q1;simp only [go_sem,seval];repeat' ((with_reducible apply wr)<;>try simp only [go_sem,seval])
   refine AC.call (N3 L hL w hw [115,119] (by decide) 4 (by decide) (by decide) j hj _ _ t A0 (by omega)) ?_;rintro v' H' c3 ⟨r,j2,g,l,b,rfl,rfl⟩ hc3;obtain ⟨x1,e1,m1,a1⟩:=E0 [99,108,111,115,101,32] r (by (try simp)<;>omega);try simp only [A0E,A0F] at m1
   rw [A1];simp only [go_sem,seval,a1];repeat' ((with_reducible first|refine G8 (p:=IW _ _ (pz Tryz.prog 69 (.i (.i (.o .h)))) _ _) ?_|refine wr ?_|fail)<;>try simp only [go_sem,seval,a1])
   exact IW.stage (by simp [C3,tm,Tm.upd]) (kB j2 _ x1 b (by omega) (by omega) (fun x hx=>by rw [e1];exact .wild h0 g hx))
  ·have qq:((q:Int) == 1)=false:=by simp;omega
   simp only [go_sem,seval,qq];repeat' ((with_reducible first|refine G8 (p:=IW _ _ (pz Tryz.prog 69 (.i (.i (.o .h)))) _ _) ?_|refine wr ?_|fail)<;>try simp only [go_sem,seval,qq])
   exact IW.stage (by simp [C3,tm,Tm.upd]) (kB j _ tr hj (by omega) (by omega) hcon)
 ·have q0:decide ((w:Int)>0)=false:=by simpa using h0
  repeat' ((with_reducible first|refine G8 (p:=IW _ _ (pz Tryz.prog 69 (.i (.i (.o .h)))) _ _) ?_|refine wr ?_|fail)<;>try simp only [go_sem,seval,ne0,hia,hld,A0,ht,q0])
  have:=kB i (cc+1) tr hi (A0H _) (by omega) hcon;rw [upd_same (by rw [A2 (by omega)];exact ht)] at this;exact IW.stage (by simp [C3,tm,Tm.upd]) this
theorem D0q (L:List UInt8) (hL:L.length<=300) (w:Nat) (hw:w<=100):MX 35 [] L w 950 (RuP L w 3):=by
 intro i0 hi H cc t ht htc;refine AC.bodyT A9 rfl (A0B rfl) fun hfr=>?_;obtain ⟨x1,e1,m1,a1⟩:=E0 ruA ruB (by decide);have l1:x1.length<=300:=by rw [m1];decide
 replace a1:binR .add (.str [115,119,105,116,99,104,32,115,119,48,32,51,59,32,115,119,105,116,99,104,32,115,119,49,32,57,59,32,115,119,105,116,99,104,32,115,119,50,32,52,48,59,32,115,119,105,116,99,104,32,115,119,51,32,54,51,59,10,99,111,105,108,32,99,111,105,108,48,32,48,59,32,99,111,105,108,32,99,111,105,108,49,32,55,59,32,99,111,105,108,32,99,111,105,108,50,32,51,49,59,10,108,97,109,112,32,108,97,109,112,48,32,48,59,32,108,97,109,112,32,108,97,109,112,49,32,57,59,32,108,97,109,112,32,108,97,109,112,50,32,51,51,59,32,108,97,109,112,32,108,97,109,112,51,32,54,51,59,10,115,111,117,110,100,32,115,110,100,48,32,48,59,32,115,111,117,110,100,32,115,110,100,49,32,53,59,32,115,104,111,119,32,115,104,111,119,48,32,48,59,32,115,104,111,119,32,115,104,111,119,49,32,49,59,10]) (.str [118,97,114,32,118,48,32])=some (.str x1):=a1;dsimp only at a1;repeat' ((with_reducible apply wr)<;>try simp only [go_sem,seval,a1])
 refine AC.call (U6 L hL w 4 (by decide) (by decide) i0 hi _ _ t (by rw [A2 (by omega)];exact ht) (by omega)) ?_;rintro v' H' c3 ⟨k3,j1,hlt3,b1,p1,rfl,rfl⟩ hc3;have hia:I1 1 (.slc (cc) 0 4) (I64 (k3:Int))=some (.ptr (cc) k3):=by simp [I1];omega
 have hld:=C7s hlt3;have hg:=O6 (l:=v0L) (n:=10) (by decide) k3;have hcon:RuP L w 0 (((ruA++ruB)++v0L.getD k3 [])++ruC):=.head hlt3;generalize hog:v0L.getD k3 []=og at hg hld hcon;generalize hWL:v0V=WL at hld;have hWL2:[.str [48],.str [53],.str [45,55],.str [50,49,52,55,52,56,51,54,52,55]]=WL:=hWL;have ne0:=M8 t cc (by omega);obtain ⟨x2,e2,m2,a2⟩:=E0 x1 og (by omega);have l2:ruC.length<=100:=by decide
 obtain ⟨x3,e3,m3,a3⟩:=E0 x2 ruC (by omega);replace a3:binR .add (.str x2) (.str [59,32,118,97,114,32,118,49,32,49,59,32,118,97,114,32,118,50,32,48,59,32,116,105,109,101,114,32,116,109,48,59,32,116,105,109,101,114,32,116,109,49,59,32,101,118,101,110,116,32,101,118,48,59,32,101,118,101,110,116,32,101,118,49,59,10])=some (.str x3):=a3;dsimp only at a3;simp only [go_sem,seval,A0,A1,ne0,hia,hWL2,hld,a1,a2,a3];have hfin:∀ (B:Blk) ds,GL ((H.upd cc ⟨1,true,WL⟩).upd t B) ds (H.upd t B) ds:=fun B ds=>GL.less' (fun j2 q hj=>by
  by_cases e:j2=t
  ·subst e;rw [A0] at hj ⊢;exact hj
  ·rw [A2 e] at hj ⊢;have:j2≠cc:=by rintro rfl;rw [hfr _ (by omega)] at hj;cases hj
   rw [A2 this];exact hj)
 generalize H.upd cc ⟨1,true,WL⟩=G at hfin ⊢;have hx3:RuP L w 0 x3:=by rw [e3,e2,e1];exact hcon
 have l3:x3.length<=500:=by omega
 clear hcon e1 e2 e3 a1 a2 a3 hld hWL hWL2 hia;repeat' ((with_reducible apply wr)<;>try simp only [go_sem,seval])
 refine C2 (fun q:Nat × Nat × List UInt8=>[(0,.ptr t 0),(3,.str q.2.2),(4,I64 q.1)]) (fun q=>G.upd t (mkB L w q.2.1))
  (fun q c=>cc<=c/\q.1<=3/\q.2.1<=300/\RuP L w q.1 q.2.2/\q.2.2.length+50 * i0<=500+150 * q.1+50 * q.2.1) (fun q=>3-q.1) (0,j1,x3)
  (by simp [C3,tm,Tm.upd]) (Sub.refl _) ⟨(by omega),(by omega),b1,hx3,(by show x3.length+50 * i0<=500+150 * 0+50 * j1;omega)⟩ ?_
 rintro ⟨i,j,s⟩ c ⟨hc,hi3,hj,hR,hl⟩;dsimp only at hc hi3 hj hR hl ⊢;have hl3:s.length<=25000000:=by omega
 by_cases h3:i<3
 ·have qi:decide ((i:Int)<3)=true:=by simp;omega
  have hdi:=c_Dec' (i:Int) (by omega) (by omega);have hdil:=O7 (n:=(i:Int)) (by omega) (by omega);obtain ⟨y1,f1,n1,c1⟩:=E0 s [109,111,100,101,32,109,111,100,101] (by (try simp)<;>omega);try simp only [A0E,A0F] at n1
  obtain ⟨y2,f2,n2,c2⟩:=E0 y1 (Q9 (i:Int)) (by omega);obtain ⟨y3,f3,n3,c3⟩:=E0 y2 [32] (by (try simp)<;>omega);try simp only [A0E,A0F] at n3
  repeat' ((with_reducible first|apply wr|refine cpc hdi ?_|fail)<;>try simp only [go_sem,seval,qi,c1,c2,c3])
  refine AC.call (U6 L hL w 4 (by decide) (by decide) j hj _ _ t A0 (by omega)) ?_;rintro v' H' c4 ⟨p,j2,hp,b2,p2,rfl,rfl⟩ hc4;rw [A1];have hdp:=c_Dec' (p:Int) (by omega) (by omega);have hdpl:=O7 (n:=(p:Int)) (by omega) (by omega);obtain ⟨y4,f4,n4,c5⟩:=E0 y3 (Q9 (p:Int)) (by omega);obtain ⟨y5,f5,n5,c6⟩:=E0 y4 [32,123,10] (by (try simp)<;>omega);try simp only [A0E,A0F] at n5
  simp only [go_sem,seval,c5,c6];repeat' ((with_reducible first|apply wr|refine cpc hdp ?_|fail)<;>try simp only [go_sem,seval,c5,c6])
  refine AC.call (U6 L hL w 11 (by decide) (by decide) j2 b2 _ _ t A0 (by omega)) ?_;rintro v' H' c7 ⟨k,j3,hk,b3,p3,rfl,rfl⟩ hc7;rw [A1];simp only [go_sem,seval];repeat' ((with_reducible apply wr)<;>try simp only [go_sem,seval])
  refine AC.call (U6 L hL w 5 (by decide) (by decide) j3 b3 _ _ t A0 (by omega)) ?_;rintro v' H' c8 ⟨n,j4,hn,b4,p4,rfl,rfl⟩ hc8;rw [A1];simp only [go_sem,seval];repeat' ((with_reducible apply wr)<;>try simp only [go_sem,seval])
  have hy:y5=B2c s i p:=by rw [f5,f4,f3,f2,f1];rfl
  have ly:y5.length<=s.length+60:=by omega
  refine C2 (fun q:Nat × Nat × List (List UInt8)=>[(0,.ptr t 0),(3,.str (Y3 y5 q.2.2)),(4,I64 i),(5,I64 (k+q.2.2.length:Nat)),(6,I64 q.1)]) (fun q=>G.upd t (mkB L w q.2.1))
   (fun q n=>cc<=n/\q.1+q.2.2.length<=4/\q.2.1<=300/\(∀ j x,q.2.2[j]? = some x->HdG L w (k+j) x)/\(Y3 y5 q.2.2).length+50 * j<=y5.length+21 * q.2.2.length+50 * q.2.1) (fun q=>q.1) (n,j4,[])
   (by simp [C3,tm,Tm.upd,Y3]) (Sub.refl _) ⟨(by omega),(by show n+0<=4;omega),b4,(fun j x h=>by cases h),(by show y5.length+50 * j<=y5.length+21 * 0+50 * j4;omega)⟩ ?_
  clear hc8 b4 hn p4 n j4 c8;rintro ⟨n,j5,hs⟩ c8 ⟨hc8,hn,b5,hH,lh⟩;dsimp only at hc8 hn b5 hH lh ⊢;by_cases h0:0<n
  ·have qn:decide ((n:Int)>0)=true:=by simpa using h0
   obtain ⟨n,rfl⟩:∃ m,n=m+1:=⟨n-1,by omega⟩;have hw1:IntKind.i64.wrap (((n+1:Nat):Int)-1)=(n:Int):=by rw [w64 (by omega) (by omega)];omega
   have hw2:IntKind.i64.wrap (((k+hs.length:Nat):Int)+1)=((k+hs.length+1:Nat):Int):=by rw [w64 (by omega) (by omega)];omega
   generalize hn1:((n+1:Nat):Int)=N1 at qn hw1 ⊢;generalize hk1:k+hs.length=K1 at hw2 ⊢;repeat' ((with_reducible apply wr)<;>try simp only [go_sem,seval,qn])
   refine AC.call (C1d L hL w hw K1 (by omega) j5 b5 _ _ t A0 (by omega)) ?_;rintro v' H' c9 ⟨r,j6,g,l,b6,rfl,rfl⟩ hc9;obtain ⟨z1,g1,o1,d1⟩:=E0 (Y3 y5 hs) r (by omega);obtain ⟨z2,g2,o2,d2⟩:=E0 z1 [10] (by (try simp)<;>omega);try simp only [A0E,A0F] at o2
   rw [A1];simp only [go_sem,seval,d1,d2,hw1,hw2];repeat' ((with_reducible apply wr)<;>try simp only [go_sem,seval,d1,d2,hw1,hw2])
   have e1:Y3 y5 (hs++[r])=z2:=by rw [B6z,g2,g1]
   have e2:(hs++[r]).length=hs.length+1:=by simp
   refine ⟨(n,j6,hs++[r]),?_,Sub.refl _,inv ⟨(by omega),(by show n+(hs++[r]).length<=4;omega),b6,(fun j x hx=>?_),(by show (Y3 y5 (hs++[r])).length+50 * j<=y5.length+21 * (hs++[r]).length+50 * j6;rw [e1,e2];omega)⟩,(by simp only;omega)⟩
   ·simp only [e1,e2];simp [C3,tm,Tm.upd];omega
   ·by_cases hj2:j<hs.length
    ·rw [A2S hj2] at hx;exact hH j x hx
    ·rw [A2L (by omega)] at hx;have hj3:j-hs.length=0:=by
      have:=(A0K.1 hx).1;simp at this;omega
     rw [hj3] at hx;cases hx;obtain rfl:j=hs.length:=by omega
     rw [hk1];exact g
  ·obtain rfl:n=0:=by omega
   obtain ⟨z1,g1,o1,d1⟩:=E0 (Y3 y5 hs) [125,10] (by (try simp)<;>omega);try simp only [A0E,A0F] at o1
   have hw2:IntKind.i64.wrap ((i:Int)+1)=((i+1:Nat):Int):=by rw [w64 (by omega) (by omega)];omega
   repeat' ((with_reducible apply wr)<;>try simp only [go_sem,seval,d1,hw2])
   refine ⟨(i+1,j5,z1),(by simp [C3,tm,Tm.upd]),Sub.refl _,inv ⟨(by omega),(by omega),b5,(by show RuP L w (i+1) z1;rw [g1,hy];exact .mode hR hp hk (by omega) hH),(by show z1.length+50 * i0<=500+150 * (i+1)+50 * j5;omega)⟩,(by simp only;omega)⟩
 ·obtain rfl:i=3:=by omega
  repeat' ((with_reducible apply wr)<;>try simp only [go_sem,seval])
  exact ⟨_,_,hfin _ _,s,j,hR,by omega,hj,rfl,rfl⟩
theorem c_New (l:List UInt8) (hl:l.length<=9223372036854775807) (H:Hp) (cc:Nat) :
  AC Tryz.prog 22 [.lst (bytesC l)] H cc (fun v H' c' => ∃ t,cc<=t/\t<c'/\v=.ptr t 0/\H'=H.upd t (mkB (l.take 300) 0 0)):=by
 refine AC.bodyT A9 rfl (A0B rfl) fun hfr=>?_;have hlen:(bytesC l).length=l.length:=by simp [bytesC]
 have hmin:(if (300:Int)<((l.length:Nat):Int) then (300:Int) else ((l.length:Nat):Int))=((min l.length 300:Nat):Int):=by split<;>omega
 have hsl:A0o H 1 (.lst (bytesC l)) none (some (I64 ((min l.length 300:Nat):Int)))=some (.lst (bytesC (l.take 300))):=by
  have hb:boundOf (bytesC l).length (some (I64 ((min l.length 300:Nat):Int)))=some (min l.length 300):=by simp [boundOf]
  have hu:Sym.unit 1 (bytesC l)=true:=by simp only [Sym.unit,bytesC,List.all_map];exact A0U.2 fun x _=>rfl
  simp only [A0o,hb];have h0:boundOf 0 none=some 0:=rfl;rw [h0];dsimp only;rw [if_pos ⟨by rw [hlen];omega,A0R _,hu⟩];rw [A3J,A4K];unfold bytesC;rw [<- List.map_take];have e:l.take (min l.length 300)=l.take 300:=by
   rcases Nat.le_total l.length 300 with h|h
   ·rw [Nat.min_eq_left h,A0J (A0H _),A0J h]
   ·rw [Nat.min_eq_right h]
  rw [e]
 repeat' ((with_reducible apply wr)<;>try simp only [go_sem,seval,hlen,hmin,hsl])
 exact ⟨_,_,GL.refl _ _,cc,A0H _,A2Z _,rfl,rfl⟩
theorem D6o (l:List UInt8) (hl:l.length<=9223372036854775807) (u:UInt8) (H:Hp) (cc:Nat) :
  AC Tryz.prog 13 [.lst (bytesC l),.int .u8 (u.toNat:Int)] H cc (fun v H' c' => ∃ s,RuP (l.take 300) (u.toNat % 20) 3 s/\s.length<=20000/\v=(O0 s).1.v/\H'=H):=by
 refine AC.bodyT A9 rfl (A0B rfl) fun hfr=>?_;have hb:=u.toNat_lt;have h300:(l.take 300).length<=300:=by rw [A1A];omega
 repeat' ((with_reducible apply wr)<;>try simp only [go_sem,seval])
 refine AC.call (c_New l hl _ _) ?_;rintro v' H' c2 ⟨t,ht1,ht2,rfl,rfl⟩ hc2;have hrm:binR .rem (.int .u8 (u.toNat:Int)) (.int .u8 20)=some (.int .u8 ((u.toNat % 20:Nat):Int)):=by rw [U7 (by decide)];rfl
 have hw1:IntKind.i64.wrap ((u.toNat % 20:Nat):Int)=((u.toNat % 20:Nat):Int):=w64 (by omega) (by omega);simp only [go_sem,seval,A0,A1];repeat' ((with_reducible apply wr)<;>try simp only [go_sem,seval,A0,A1,hrm,hw1])
 refine AC.call (D0q (l.take 300) h300 (u.toNat % 20) (by omega) 0 (by omega) _ _ t A0 (by omega)) ?_;rintro v' H' c3 ⟨s,j,g,ls,b,rfl,rfl⟩ hc3;have hp:=c_Parse s (by omega);have hpv:C4e (O0 s)=.tup [(O0 s).1.v,I64 (O0 s).2.1,I64 (O0 s).2.2]:=rfl;rw [hpv] at hp;generalize hr:(O0 s).1=r at hp;generalize (O0 s).2.1=r1 at hp;generalize (O0 s).2.2=r2 at hp;have hrv:r.v=.agg [C8 r.decls,D5 r.modes]:=rfl;rw [hrv] at hp;rw [A1];have ne0:=S0 cc t c3 (by omega);simp only [go_sem,seval,ne0,A0,A1];repeat' ((with_reducible first|apply wr|refine cpc hp ?_|fail)<;>try simp only [go_sem,seval,ne0,A0,A1])
 rw [E7 (rv2 rfl A0)];refine ⟨_,_,GL.less' (fun j2 q hj=>?_),s,g,by omega,by rw [hr],rfl⟩;have hj2:j2<cc:=Classical.byContradiction fun h=>by rw [hfr _ (by omega)] at hj;cases hj
 dsimp only;rw [A2 (by omega),A2 (by omega),A2 (by omega),A2 (by omega)];exact hj
theorem C7a (l:List UInt8):DV.nlL (bytesC l)=true:=L7 (fun _=>rfl) l
end Go.Proofs.YtnmkkggfgdfmeaaGreatDoor
set_option linter.unusedSectionVars false
namespace Go.Pb
variable [Go.Sym.Tab]
open Go.Sym
theorem A7g {α : Type} [DecidableEq α] {l:List α} {x : α}:(l++[x]).Nodup↔l.Nodup/\x ∉ l:=by
 rw [A3V];constructor
 ·rintro ⟨h1, -,h2⟩;exact ⟨h1,fun hx=>h2 x hx x (A1F.2 rfl) rfl⟩
 ·rintro ⟨h1,h2⟩;exact ⟨h1,by simp,fun a ha b hb e=>by rw [A1F.1 hb] at e;exact h2 (e▸ha)⟩
theorem B5g {D:List Dc} {n:List UInt8}:D.any (fun d=>d.name == n)=false↔n ∉ D.map Dc.name:=by
 rw [A4O];constructor
 ·intro h hm;obtain ⟨d,hd,rfl⟩:=A1L.1 hm;exact h d hd (by simp)
 ·intro h d hd he;exact h (A1L.2 ⟨d,hd,by simpa using he⟩)
theorem C1l {D:List Md} {n:List UInt8}:D.any (fun d=>d.name == n)=false↔n ∉ D.map Md.name:=by
 rw [A4O];constructor
 ·intro h hm;obtain ⟨d,hd,rfl⟩:=A1L.1 hm;exact h d hd (by simp)
 ·intro h d hd he;exact h (A1L.2 ⟨d,hd,by simpa using he⟩)
theorem X2.app {a b:List Dc}:X2 (a++b)↔X2 a/\X2 b :=
 ⟨fun h=>⟨fun d hd=>h d (A4E _ hd),fun d hd=>h d (A3Z _ hd)⟩,fun h d hd=>(A1R.1 hd).elim (h.1 d) (h.2 d)⟩
theorem B8y {b:Prop} [Decidable b] {q:Int × Int}:((if b then some q else none):Er)=none↔¬b:=by
 split<;>simp [*]
theorem B4f {b:Prop} [Decidable b] {q:Int × Int}:((if b then none else some q):Er)=none↔b:=by
 split<;>simp [*]
theorem B4u:∀ (D pre:List Dc),X2 (pre++D)->(pre.map Dc.name).Nodup->(erD pre D=none↔(∀ d∈D,¬ d.value>A3r d.kind)/\((pre++D).map Dc.name).Nodup)
 | [],pre,hk,hn=>by rw [erD,A1E];exact ⟨fun _=>⟨fun d hd=>(by cases hd),hn⟩,fun _=>rfl⟩
 | d :: l,pre,hk,hn=>by
  have hk':X2 ((pre++[d])++l):=by rw [A0S];exact hk
  have hkp:X2 pre:=(X2.app.1 hk).1;have hl:=A7i pre [] d.name hkp;rw [B5g] at hl;rw [erD,A3B,A3B,B8y,B4f,hl];have e:pre++d :: l=(pre++[d])++l:=by simp
  by_cases hm:d.name∈pre.map Dc.name
  ·constructor
   ·rintro ⟨⟨-,h, -⟩, -⟩;exact absurd hm h
   ·rintro ⟨-,h⟩;rw [e,A0P,A0P] at h;exact absurd hm (A7g.1 (A3V.1 h).1).2
  ·have hn':((pre++[d]).map Dc.name).Nodup:=by rw [A0P];exact A7g.2 ⟨hn,hm⟩
   rw [B4u l (pre++[d]) hk' hn',e];constructor
   ·rintro ⟨⟨h1, -⟩,h2,h3⟩;exact ⟨fun x hx=>(A1D.1 hx).elim (fun h=>h▸h1) (h2 x),h3⟩
   ·rintro ⟨h1,h2⟩;exact ⟨⟨h1 d A0N,hm,by simp⟩,fun x hx=>h1 x (A0M _ hx),h2⟩
theorem A8y {D:List Dc} (hk:X2 D):∀ (M pre:List Md),(D.map Dc.name++pre.map Md.name).Nodup->(erP D pre M=none↔(∀ m∈M,¬ m.prio>99)/\(D.map Dc.name++(pre++M).map Md.name).Nodup)
 | [],pre,hn=>by rw [erP,A1E];exact ⟨fun _=>⟨fun d hd=>(by cases hd),hn⟩,fun _=>rfl⟩
 | m :: l,pre,hn=>by
  have hl:=A7i D pre m.name hk;rw [B5g,C1l] at hl;rw [erP,A3B,A3B,B8y,B4f,hl];have e:pre++m :: l=(pre++[m])++l:=by simp
  have e2:D.map Dc.name++(pre++[m]).map Md.name=(D.map Dc.name++pre.map Md.name)++[m.name]:=by simp
  by_cases hm:m.name∈D.map Dc.name++pre.map Md.name
  ·constructor
   ·rintro ⟨⟨-,h1,h2⟩, -⟩;exact absurd hm (by rw [A1R];exact fun h=>h.elim h1 h2)
   ·rintro ⟨-,h⟩;rw [e,A0P, <- A0S,e2] at h;exact absurd hm (A7g.1 (A3V.1 h).1).2
  ·have hn':(D.map Dc.name++(pre++[m]).map Md.name).Nodup:=by rw [e2];exact A7g.2 ⟨hn,hm⟩
   rw [A8y hk l (pre++[m]) hn',e];rw [A1R,not_or] at hm;constructor
   ·rintro ⟨⟨h1, -⟩,h2,h3⟩;exact ⟨fun x hx=>(A1D.1 hx).elim (fun h=>h▸h1) (h2 x),h3⟩
   ·rintro ⟨h1,h2⟩;exact ⟨⟨h1 m A0N,hm⟩,fun x hx=>h1 x (A0M _ hx),h2⟩
def D5y (D:List Dc) (M:List Md):Prop:=(∀ d∈D,¬ d.value>A3r d.kind)/\(∀ m∈M,¬ m.prio>99)/\(D.map Dc.name++M.map Md.name).Nodup
theorem C5f {D:List Dc} {M:List Md} (hk:X2 D):A6p ⟨D,M⟩=none↔D5y D M:=by
 unfold A6p D5y;rw [A3B,B4u D [] hk List.nodup_nil];show (_/\(D.map Dc.name).Nodup)/\erP D [] M=none↔_;constructor
 ·rintro ⟨⟨h1,h2⟩,h3⟩;obtain ⟨h4,h5⟩:=(A8y hk M [] (by simpa using h2)).1 h3;exact ⟨h1,h4,h5⟩
 ·rintro ⟨h1,h4,h5⟩;have h2:(D.map Dc.name).Nodup:=(A3V.1 h5).1;exact ⟨⟨h1,h2⟩,(A8y hk M [] (by simpa using h2)).2 ⟨h4,h5⟩⟩
theorem B4c (n:List UInt8):∀ (D pre:List Dc),(lkD pre D n).map (·.1)=(D.find? fun d=>d.name == n).map Dc.kind
 | [],pre=>rfl
 | d :: l,pre=>by
  rw [lkD,List.find?_cons];by_cases h:d.name=n
  ·rw [if_pos h,h];simp
  ·have hb:(d.name == n)=false:=by simpa using h
   rw [if_neg h,B4c n l];simp only [hb]
theorem B4b (n:List UInt8):∀ (M:List Md) (i:Nat),(lkM i M n).map (·.1)=if M.any (fun m=>m.name == n)=true then some 9 else none
 | [],i=>rfl
 | m :: l,i=>by
  rw [lkM,List.any_cons];by_cases h:m.name=n
  ·rw [if_pos h,h];simp
  ·rw [if_neg h,B4b n l];simp [h]
theorem C4u (D:List Dc) (M:List Md) (n:List UInt8):(K2 ⟨D,M⟩ n).1=(((D.find? fun d=>d.name == n).map Dc.kind).or (if M.any (fun m=>m.name == n)=true then some 9 else none)).getD 0:=by
 rw [B2d, <- B4c n D [], <- B4b n M 0, <- Option.map_or];show (((lkD [] D n).or (lkM 0 M n)).getD (0,0)).1=_;cases (lkD [] D n).or (lkM 0 M n)<;>rfl
def SmK (r r':Ru):Prop:=∀ n,(K2 r n).1=(K2 r' n).1
section
variable {r r':Ru} (h:SmK r r')
include h
end
theorem B4r {r:Ru}:∀ {l:List Md},erM r l=none↔∀ m∈l,erH r [] m.hds=none
 | []=>by rw [erM];simp
 | x :: l=>by
  rw [erM,A3B,B4r];simp
section
variable {r r':Ru} (h:SmK r' r)
include h
end
end Go.Pb
namespace Go.Pb
variable [Go.Sym.Tab]
open Go.Sym
def bdB (c:UInt8):Bool := !ptB c && decide (c.toNat≠61) && decide (c.toNat≠38) && decide (c.toNat≠124)
def bd:List UInt8->Bool
 | []=>true
 | c :: _=>bdB c
theorem B9n {c:UInt8} (h:bdB c=true):ptB c=false/\c.toNat≠61/\c.toNat≠38/\c.toNat≠124:=by
 simpa [bdB,and_assoc] using h
theorem D2i {r:List UInt8} (hr:bd r=true):∀ c q,r=c :: q->ptB c=false:=fun c q e=>by subst e;exact (B9n hr).1
theorem E0v {r:List UInt8} (hr:bd r=true):∀ c q,r=c :: q->dgB c=false:=fun c q e=>by
 have:=D2i hr c q e;simp only [ptB,A4F] at this;exact this.1.2
theorem C7f {c d:UInt8} {q:List UInt8} (h:bd (d :: q)=true):A1n c d=false:=by
 obtain ⟨h0,h1,h2,h3⟩:=B9n h;unfold A1n;rw [A3M];intro h4;simp at h4;omega
theorem C2y {p:UInt8->Bool}:∀ r:List UInt8,(∀ c q,r=c :: q->p c=false)->C9 p r=0
 | [],_=>rfl
 | c :: r,h=>by simp only [C9];rw [if_neg (by rw [h c r rfl];simp)]
theorem A8b {p:UInt8->Bool} {r:List UInt8} (hr:∀ c q,r=c :: q->p c=false):∀ s:List UInt8,C9 p (s.take (C9 p s)++r)=C9 p s
 | []=>by rw [show C9 p []=0 from rfl,A1Y,List.nil_append];exact C2y r hr
 | c :: s=>by
  by_cases h:p c=true
  ·have e:C9 p (c :: s)=C9 p s+1:=by simp only [C9];rw [if_pos h]
   rw [e,A0V,List.cons_append];simp only [C9];rw [if_pos h,A8b hr s]
  ·have e:C9 p (c :: s)=0:=by simp only [C9];rw [if_neg h]
   rw [e,A1Y,List.nil_append];exact C2y r hr
theorem C8l {r:List UInt8} (hr:bd r=true):∀ {s:List UInt8},F0 s≠0->F0 (s.take (F0 s)++r)=F0 s
 | [],h=>absurd rfl h
 | [c],h=>by
  have ho:A3q c=true:=by
   cases ho:A3q c with
   | true=>rfl
   | false=>simp [F0,ho] at h
  have e:F0 [c]=1:=by simp [F0,ho]
  rw [e,A0V,A1Y,List.cons_append,List.nil_append]
  match r,hr with
  | [],_=>exact e
  | d :: r,hr=>simp only [F0];rw [if_neg (by rw [C7f hr];simp),if_pos ho]
 | c :: d :: q,h=>by
  by_cases h2:A1n c d=true
  ·have e:F0 (c :: d :: q)=2:=by simp only [F0];rw [if_pos h2]
   rw [e,A0V,A0V,A1Y];simp only [List.cons_append,List.nil_append,F0];rw [if_pos h2]
  ·have ho:A3q c=true:=by
    cases ho:A3q c with
    | true=>rfl
    | false=>simp only [F0] at h;rw [if_neg h2,if_neg (by rw [ho];simp)] at h;exact absurd rfl h
   have e:F0 (c :: d :: q)=1:=by simp only [F0];rw [if_neg h2,if_pos ho]
   rw [e,A0V,A1Y,List.cons_append,List.nil_append]
   match r,hr with
   | [],_=>simp only [F0];rw [if_pos ho]
   | d :: r,hr=>simp only [F0];rw [if_neg (by rw [C7f hr];simp),if_pos ho]
theorem C0n {s r:List UInt8} (h:(B1 s).err=0) (hr:bd r=true):B1 (s.take (B1 s).n++r)=B1 s:=by
 cases s with
 | nil=>simp [B1,nxE] at h
 | cons c q =>
  obtain ⟨hn1,hn2⟩:=A4o h;obtain ⟨k,hk⟩:∃ k,(B1 (c :: q)).n=k+1:=⟨(B1 (c :: q)).n-1,by omega⟩;have hform:(c :: q).take (B1 (c :: q)).n++r=c :: (q.take k++r):=by rw [hk,A0V,List.cons_append]
  have htk:(c :: (q.take k++r)).take (B1 (c :: q)).n=(c :: q).take (B1 (c :: q)).n:=by rw [<- hform];exact C2k hn2
  have hp:=A8b (p:=ptB) (D2i hr) (c :: q);have hg:=A8b (p:=dgB) (E0v hr) (c :: q);rw [hform];by_cases hl:ltB c=true
  ·by_cases h12:12<C9 ptB (c :: q)
   ·rw [B1,if_pos hl,if_pos h12] at h;simp [nxE] at h
   ·have e:B1 (c :: q)=⟨if G6 ((c :: q).take (C9 ptB (c :: q)))=true then 2 else 1,(c :: q).take (C9 ptB (c :: q)),0,C9 ptB (c :: q),0⟩:=by rw [B1,if_pos hl,if_neg h12]
    have en:(B1 (c :: q)).n=C9 ptB (c :: q):=by rw [e]
    rw [en] at hform htk;rw [hform] at hp;rw [B1,if_pos hl,hp,if_neg h12,htk,e]
  ·by_cases hd:dgB c=true
   ·by_cases h1:1<C9 dgB (c :: q)/\c.toNat=48
    ·rw [B1,if_neg hl,if_pos hd,if_pos h1] at h;simp [nxE] at h
    ·by_cases h2:2147483647<Z0 ((c :: q).take (C9 dgB (c :: q)))
     ·rw [B1,if_neg hl,if_pos hd,if_neg h1,if_pos h2] at h;simp [nxE] at h
     ·have e:B1 (c :: q)=⟨3,[],(Z0 ((c :: q).take (C9 dgB (c :: q))):Int),C9 dgB (c :: q),0⟩:=by rw [B1,if_neg hl,if_pos hd,if_neg h1,if_neg h2]
      have en:(B1 (c :: q)).n=C9 dgB (c :: q):=by rw [e]
      rw [en] at hform htk;rw [hform] at hg;rw [B1,if_neg hl,if_pos hd,hg,htk,if_neg h1,if_neg h2,e]
   ·by_cases h34:c.toNat=34
    ·cases hq:quM q with
     | none=>rw [B1,if_neg hl,if_neg hd,if_pos h34,hq] at h;simp [nxE] at h
     | some x =>
      obtain ⟨t,m⟩:=x;by_cases h32:32<t.length
      ·rw [B1,if_neg hl,if_neg hd,if_pos h34,hq] at h;simp only at h;rw [if_pos h32] at h;simp [nxE] at h
      ·have e:B1 (c :: q)=⟨4,t,0,m+1,0⟩:=by rw [B1,if_neg hl,if_neg hd,if_pos h34,hq];simp only;rw [if_neg h32]
       have en:m=k:=by rw [e] at hk;simp only at hk;omega
       subst en;rw [e,B1,if_neg hl,if_neg hd,if_pos h34,B6d r hq];simp only;rw [if_neg h32]
    ·by_cases hs:F0 (c :: q)=0
     ·rw [B1,if_neg hl,if_neg hd,if_neg h34,if_pos hs] at h;simp [nxE] at h
     ·have e:B1 (c :: q)=⟨5,(c :: q).take (F0 (c :: q)),0,F0 (c :: q),0⟩:=by rw [B1,if_neg hl,if_neg hd,if_neg h34,if_neg hs]
      have en:(B1 (c :: q)).n=F0 (c :: q):=by rw [e]
      have hsg:=C8l hr hs;rw [en] at hform htk;rw [hform] at hsg;rw [B1,if_neg hl,if_neg hd,if_neg h34,hsg,if_neg hs,htk,e]
abbrev T3:=Int × List UInt8 × Int
def st3 (t:Tok):T3:=(t.kind,t.text,t.value)
def Lk (r:List UInt8) (tr:List T3):Prop:=∀ (s:List UInt8) (k:Nat),s.drop k=r->∃ l,A0f s (k+skM false r) l/\l.map st3=tr
theorem C7n:Lk [] []:=by
 intro s k hs;have hl:s.length<=k:=by
  have:=congrArg List.length hs;simp at this;omega
 exact ⟨[],by show s.length<=k+0;omega,rfl⟩
theorem C7m {c:UInt8} {r:List UInt8} {tr:List T3} (hc:Z6 c=true) (h:Lk r tr):Lk (c :: r) tr:=by
 intro s k hs;have e:skM false (c :: r)=skM false r+1:=by simp only [skM];rw [if_pos hc]
 rw [e];obtain ⟨l,h1,h2⟩:=h s (k+1) (by rw [<- A3A,hs];rfl);exact ⟨l,by rw [show k+(skM false r+1)=k+1+skM false r by omega];exact h1,h2⟩
theorem B7o {a r:List UInt8} {K V:Int} {T:List UInt8} {tr:List T3} (hx:B1 (a++r)=⟨K,T,V,a.length,0⟩) (ha:a≠[]) (h:Lk r tr):Lk (a++r) ((K,T,V) :: tr):=by
 intro s k hs;have h0:skM false (a++r)=0:=C9d (by rw [hx]);rw [h0,A2W];have hl:k<s.length:=by
  have:=congrArg List.length hs;have h2:0<a.length:=by cases a with|nil=>exact absurd rfl ha|cons _ _=>simp
  simp at this;omega
 have hd:s.drop (k+a.length)=r:=by rw [<- A3A,hs,List.drop_left]
 obtain ⟨l,h1,h2⟩:=h s _ hd;refine ⟨nxT (B1 (s.drop k)) (k:Int) :: l,⟨hl,by rw [hs,hx],rfl,by rw [hs,hx];dsimp only;rw [hd];exact h1⟩,?_⟩;rw [A0T,h2,hs,hx];rfl
theorem A0f.uniq {s:List UInt8}:∀ {k:Nat} {l l':List Tok},A0f s k l->A0f s k l'->l=l'
 | k,[],[],_,_=>rfl
 | k,[],t :: l',h,h'=>by have h:s.length<=k:=h;have:=h'.1;omega
 | k,t :: l,[],h,h'=>by have h':s.length<=k:=h';have:=h.1;omega
 | k,t :: l,t' :: l',h,h'=>by
  obtain ⟨-, -,h3,h4⟩:=h;obtain ⟨-, -,g3,g4⟩:=h';rw [h3,g3,A0f.uniq h4 g4]
def Pc (b:Bool) (p:List UInt8) (tp:List T3):Prop:=∀ r tr,(b=true->bd r=true)->Lk r tr->Lk (p++r) (tp++tr)
def A1k (b:Bool):Nat->List UInt8->Option (List T3)
 | 0,_=>none
 | _+1,[]=>some []
 | f+1,c :: s=>if Z6 c=true then A1k b f s else
  let x:=B1 (c :: s)
  let q:=(c :: s).drop x.n
  if x.err=0/\1<=x.n/\x.n<=(c :: s).length/\bd q=true/\(q=[]->b=true) then (A1k b f q).map fun l=>(x.kind,x.text,x.value) :: l else none
theorem D7b {q r:List UInt8} (h:bd q=true) (h2:q=[]->bd r=true):bd (q++r)=true:=by
 cases q with
 | nil=>exact h2 rfl
 | cons c q=>exact h
theorem W6 {b:Bool}:∀ (f:Nat) (s:List UInt8) (ts:List T3),A1k b f s=some ts->Pc b s ts
 | 0,s,ts,h=>by simp [A1k] at h
 | f+1,[],ts,h=>by
  simp only [A1k] at h;cases h;exact fun r tr _ hr=>hr
 | f+1,c :: s,ts,h=>by
  unfold A1k at h;split at h
  ·rename_i hc;have ih:=W6 f s ts h;intro r tr hb hr;exact C7m hc (ih r tr hb hr)
  ·dsimp only at h;split at h
   ·rename_i hx;obtain ⟨h1,h2,h3,h4,h5⟩:=hx;obtain ⟨l,hl,rfl⟩:=A0Q.1 h;have ih:=W6 f _ l hl;intro r tr hb hr;have hbd:bd ((c :: s).drop (B1 (c :: s)).n++r)=true:=D7b h4 fun e=>hb (h5 e);have hn:=C0n h1 hbd;rw [<- A0S,A2H] at hn;have hlen:((c :: s).take (B1 (c :: s)).n).length=(B1 (c :: s)).n:=by rw [A1A];omega
    have:=B7o (a:=(c :: s).take (B1 (c :: s)).n) (r:=(c :: s).drop (B1 (c :: s)).n++r) (K:=(B1 (c :: s)).kind) (T:=(B1 (c :: s)).text) (V:=(B1 (c :: s)).value) (tr:=l++tr)
     (by rw [<- A0S,A2H,hn,hlen];revert h1;cases B1 (c :: s);intro h1;simp only at h1;rw [h1]) (fun e=>by rw [e] at hlen;simp at hlen;omega) (ih r tr hb hr)
    rw [<- A0S,A2H] at this;exact this
   ·cases h
theorem Pc.app {b b':Bool} {p p':List UInt8} {t t':List T3} (h:Pc b p t) (h':Pc b' p' t') (hb:b=true->∀ r,(b'=true->bd r=true)->bd (p'++r)=true):Pc b' (p++p') (t++t'):=by
 intro r tr hr hl;rw [A0S,A0S];exact h _ _ (fun e=>hb e r hr) (h' r tr hr hl)
theorem Pc.lit {b b':Bool} {p:List UInt8} {c:UInt8} {q:List UInt8} {t t':List T3} (h:Pc b p t) (h':Pc b' (c :: q) t') (hc:bdB c=true):Pc b' (p++c :: q) (t++t'):=h.app h' fun _ _ _=>hc
theorem Pc.pre {b':Bool} {p p':List UInt8} {t t':List T3} (h:Pc false p t) (h':Pc b' p' t'):Pc b' (p++p') (t++t'):=h.app h' fun e=>by cases e
theorem A3o {c:UInt8} (h1:A3q c=true) (h2:(ltB c || dgB c || Z6 c)=false) (h3:c.toNat≠34/\c.toNat≠35/\c.toNat≠60/\c.toNat≠62/\c.toNat≠61/\c.toNat≠33/\c.toNat≠38/\c.toNat≠124):Pc false [c] [(5,[c],0)]:=by
 intro r tr _ hr;have h2':ltB c=false/\dgB c=false/\Z6 c=false:=by simpa [and_assoc] using h2
 obtain ⟨a1,a2,a3⟩:=h2';have ht:∀ d,A1n c d=false:=fun d=>by
  unfold A1n;rw [A3M];intro h4;simp at h4;omega
 have hs:F0 (c :: r)=1:=by
  cases r with
  | nil=>simp only [F0];rw [if_pos h1]
  | cons d r=>simp only [F0];rw [if_neg (by rw [ht];simp),if_pos h1]
 have hn:B1 (c :: r)=⟨5,[c],0,1,0⟩:=by
  rw [B1,if_neg (by rw [a1];simp),if_neg (by rw [a2];simp),if_neg h3.1,hs,if_neg (by decide)];rfl
 exact B7o (a:=[c]) hn (by simp) hr
theorem D4o {d:UInt8} {p:List UInt8} {b:Bool} {t:List T3} (h:Pc b (d :: p) t) (hd:d.toNat≠61):Pc b (33 :: d :: p) ((5,[33],0) :: t):=by
 intro r tr hb hr;have hn:B1 (33 :: d :: (p++r))=⟨5,[33],0,1,0⟩:=by
  have hs:F0 (33 :: d :: (p++r))=1:=by
   simp only [F0];rw [if_neg (by unfold A1n;simp;omega),if_pos (by decide)]
  rw [B1,if_neg (by decide),if_neg (by decide),if_neg (by decide),hs,if_neg (by decide)];rfl
 exact B7o (a:=[33]) hn (by simp) (h r tr hb hr)
theorem Pc.toks {b:Bool} {s:List UInt8} {ts:List T3} (h:Pc b s ts) (h0:(F4 s).2.2=0):(F4 s).1.map st3=ts:=by
 have:=h [] [] (fun _=>rfl) C7n;rw [A1E,A1E] at this;obtain ⟨l,h1,h2⟩:=this s 0 rfl;rw [A1J] at h1;rw [(A1q h0).2.uniq h1,h2]
theorem Pc.scan {b:Bool} {s:List UInt8} {ts:List T3} (h:Pc b s ts) (hl:s.length<=20000):(F4 s).2.2=0:=by
 have:=h [] [] (fun _=>rfl) C7n;rw [A1E,A1E] at this;obtain ⟨l,h1,h2⟩:=this s 0 rfl;rw [A1J] at h1;rw [B3q hl h1]
end Go.Pb
namespace Go.Pb
variable [Go.Sym.Tab]
open Go.Sym
def B0x (t:T3):Nat->List (List UInt8)->Int
 | _,[] => -1
 | k,x :: l=>if ((t.1 == 5 || t.1 == 2) && t.2.1 == x)=true then (k:Int) else B0x t (k+1) l
def N5 (t:T3) (l:List (List UInt8)):Int:=B0x t 0 l
section
variable {L:List Tok} {E:Int}
def Tk (L:List Tok) (s:Rd):List T3:=(L.drop s.i).map st3
theorem A0i {s:Rd} {t:T3} {q:List T3} (h:Tk L s=t :: q):st3 (B5 L E s)=t/\(L.drop (s.i+1)).map st3=q/\s.i<L.length:=by
 have hl:s.i<L.length:=by
  have:=congrArg List.length h;simp [Tk] at this;omega
 have e:L.drop s.i=L[s.i] :: L.drop (s.i+1):=A1C hl;unfold Tk at h;rw [e,A0T] at h;injection h with h1 h2
 refine ⟨?_,h2,hl⟩;unfold B5;rw [A0X,A0C hl];exact h1
theorem C2i {s:Rd} (h:Tk L s=[]):B5 L E s=⟨0,[],0,E⟩:=by
 have hl:L.length<=s.i:=by
  have:=congrArg List.length h;simp [Tk] at this;omega
 unfold B5;rw [A0X,A2I hl];rfl
theorem U8 {s:Rd} {t:T3} {q:List T3} {x:List UInt8} (h:Tk L s=t :: q) (ho:okR s=true):isR L E s x=((t.1 == 5 || t.1 == 2) && t.2.1 == x):=by
 obtain ⟨h1, -, -⟩:=A0i (E:=E) h;unfold isR;rw [ho,A1N, <- h1];rfl
theorem A8q {s:Rd} {t:T3} {q:List T3} {k:Int} (h:Tk L s=t :: q) (ho:okR s=true):I0 L E s k=(t.1 == k):=by
 obtain ⟨h1, -, -⟩:=A0i (E:=E) h;unfold I0;rw [ho,A1N, <- h1];rfl
theorem B9q {s:Rd} {t:T3} {q:List T3} (h:Tk L s=t :: q) (ho:okR s=true):∀ (l:List (List UInt8)) (k:Nat),V6 L E s k l=B0x t k l
 | [],k=>rfl
 | x :: l,k=>by
  rw [V6,B0x,U8 h ho,B9q h ho l (k+1)]
theorem O1 {s:Rd} {t:T3} {q:List T3} {l:List (List UInt8)} (h:Tk L s=t :: q) (ho:okR s=true):C1 L E s l=N5 t l:=B9q h ho l 0
theorem B2u {s:Rd} (h:∀ x,isR L E s x=false):∀ (l:List (List UInt8)) (k:Nat),V6 L E s k l = -1
 | [],k=>rfl
 | x :: l,k=>by rw [V6,if_neg (by rw [h x];simp)];exact B2u h l (k+1)
theorem B5h {s:Rd} {l:List (List UInt8)} (h:okR s=false):C1 L E s l = -1:=B2u (fun x=>by unfold isR;rw [h];rfl) l 0
theorem B9p {s:Rd} {l:List (List UInt8)} (h:Tk L s=[]):C1 L E s l = -1:=B2u (fun x=>by unfold isR;rw [C2i (E:=E) h];simp) l 0
theorem V9 {t:T3} (h5:t.1≠5) (h2:t.1≠2):∀ (l:List (List UInt8)) (k:Nat),B0x t k l = -1
 | [],k=>rfl
 | x :: l,k=>by
  rw [B0x,if_neg (by simp [h5,h2])];exact V9 h5 h2 l (k+1)
def A6u (n:Int) (rest:List T3):Prop:=∀ t q,rest=t :: q->N5 t C5<0\/B4 (12+N5 t C5)<n
theorem A6u.up {n m:Int} {rest:List T3} (h:A6u n rest) (hm:n<=m):A6u m rest:=fun t q e=>(h t q e).imp id fun h=>by omega
theorem B8u {n:Int} {e:Ex} {s:Rd} {rest:List T3} (h:okR s=true->Tk L s=rest) (hn:A6u n rest):Lop L E n e s (e,s):=by
 apply Lop.stop;cases ho:okR s with
 | false=>left;rw [B5h ho];decide
 | true =>
  have ht:=h ho;cases rest with
  | nil=>left;rw [B9p ht];decide
  | cons t q =>
   rw [O1 ht ho];exact (hn t q rfl).imp id fun h=>by omega
inductive TyE (Nm:Int->List UInt8->Prop):Bool->Ex->Prop where
 | num {v p:Int}:TyE Nm true (.mk 1 v [] [] p)
 | var {n:List UInt8} {p:Int}:Nm 6 n->TyE Nm true (.mk 2 0 n [] p)
 | word0 {k:Nat} {ty:Bool} {p:Int}:(k,ty)∈[(0,false),(1,false),(2,true),(3,true)]->TyE Nm ty (.mk (Y7.getD k 0) 0 [] [] p)
 | word1 {k:Nat} {nk:Int} {ty:Bool} {n:List UInt8} {p:Int}:(k,ty,nk)∈[(4,false,(1:Int)),(5,false,9),(6,true,7)]->Nm nk n->TyE Nm ty (.mk (Y7.getD k 0) 0 n [] p)
 | neg {a:Ex} {p:Int}:TyE Nm true a->TyE Nm true (.mk 10 0 [] [a] p)
 | not {a:Ex} {p:Int}:TyE Nm false a->TyE Nm false (.mk 11 0 [] [a] p)
 | bin {k:Nat} {ta ty:Bool} {a b:Ex} {p:Int}:k<13->(ta=decide (k<11))->(ty=decide (k<5))->TyE Nm ta a->TyE Nm ta b->TyE Nm ty (.mk (12+(k:Int)) 0 [] [a,b] p)
inductive GX (Nm:Int->List UInt8->Prop):Int->Bool->Nat->Nat->List T3->Prop where
 | num {v:Int}:GX Nm 6 true 0 1 [(3,[],v)]
 | var {n:List UInt8}:Nm 6 n->GX Nm 6 true 0 1 [(1,n,0)]
 | word0 {k:Nat} {ty:Bool}:(k,ty)∈[(0,false),(1,false),(2,true),(3,true)]->GX Nm 6 ty 0 1 [(2,F2.getD k [],0)]
 | word1 {k:Nat} {nk:Int} {ty:Bool} {n:List UInt8}:(k,ty,nk)∈[(4,false,(1:Int)),(5,false,9),(6,true,7)]->Nm nk n->GX Nm 6 ty 0 1 [(2,F2.getD k [],0),(1,n,0)]
 | neg {d c:Nat} {a:List T3}:GX Nm 6 true d c a->GX Nm 6 true (d+1) c ((5,[45],0) :: a)
 | not {d c:Nat} {a:List T3}:GX Nm 6 false d c a->GX Nm 6 false (d+1) c ((5,[33],0) :: a)
 | par {m:Int} {ty:Bool} {d c:Nat} {a:List T3}:GX Nm m ty d c a->GX Nm 6 ty (d+1) c ((5,[40],0) :: (a++[(5,[41],0)]))
 | bin {k:Nat} {m1 m2:Int} {ta ty:Bool} {d1 d2 c1 c2:Nat} {a b:List T3}:k<13->(ta=decide (k<11))->(ty=decide (k<5))->B4 (12+(k:Int))<m1->B4 (12+(k:Int))<m2 ->
   GX Nm m1 ta d1 c1 a->GX Nm m2 ta d2 c2 b->GX Nm (B4 (12+(k:Int))) ty (max d1 d2) (c1+c2) (a++(5,C5.getD k [],0) :: b)
def Res (L:List Tok) (Nm:Int->List UInt8->Prop) (s:Rd) (r:Ex × Rd) (rest:List T3) (d c:Nat) (ty:Bool):Prop :=
 (s.par+d<=16->s.ops+c<=32->okR r.2=true)/\(okR r.2=true->Tk L r.2=rest/\TyE Nm ty r.1/\r.2.par=s.par/\r.2.ops=s.ops+c)
def PzU (L:List Tok) (E:Int) (Nm:Int->List UInt8->Prop) (ts:List T3) (d c:Nat) (ty:Bool):Prop:=∀ s rest,okR s=true->Tk L s=ts++rest->∃ r,Un L E s r/\Res L Nm s r rest d c ty
def Pz (L:List Tok) (E:Int) (Nm:Int->List UInt8->Prop) (m:Int) (ts:List T3) (d c:Nat) (ty:Bool):Prop:=∀ n,1<=n->n<=m->∀ s rest,okR s=true->Tk L s=ts++rest->A6u n rest->∃ r,Bin L E n s r/\Res L Nm s r rest d c ty
variable {Nm:Int->List UInt8->Prop}
theorem D6z {n:Int} {s:Rd} {r:Ex × Rd} {rest:List T3} {d c:Nat} {ty:Bool} (hn:n<=5) (h:Bin L E (n+1) s r) (hr:Res L Nm s r rest d c ty) (ho:A6u n rest):Bin L E n s r :=
 Bin.go hn h (B8u (fun h=>(hr.2 h).1) ho)
theorem Pz.of {m:Int} {ts:List T3} {d c:Nat} {ty:Bool} (hm:m<=6) (h:∀ s rest,okR s=true->Tk L s=ts++rest->A6u m rest->∃ r,Bin L E m s r/\Res L Nm s r rest d c ty):Pz L E Nm m ts d c ty:=by
 intro n hn1 hnm s rest ho ht hno;obtain ⟨k,hk⟩:∃ k:Nat,n=m-k:=⟨(m-n).toNat,by omega⟩
 induction k generalizing n with
 | zero =>
  obtain rfl:n=m:=by omega
  exact h s rest ho ht hno
 | succ k ih =>
  obtain ⟨r,h1,h2⟩:=ih (n+1) (by omega) (by omega) (hno.up (by omega)) (by omega);exact ⟨r,D6z (by omega) h1 h2 hno,h2⟩
theorem PzU.pz {ts:List T3} {d c:Nat} {ty:Bool} (h:PzU L E Nm ts d c ty):Pz L E Nm 6 ts d c ty :=
 Pz.of (by omega) fun s rest ho ht _=>by
  obtain ⟨r,h1,h2⟩:=h s rest ho ht;exact ⟨r,Bin.un (by omega) h1,h2⟩
theorem A3s {s:Rd} {n m e:Int} (h:n<=m):C4 L E s n m e=s:=by unfold C4;rw [if_neg (by omega)]
theorem C4y {s:Rd} {n m e:Int} (he:e≠0) (h:m<n):okR (C4 L E s n m e)=false:=by unfold C4;rw [if_pos h];exact A7n he
theorem A7y {s s':Rd} (h:s'.i=s.i+1) {t:T3} {q:List T3} (ht:Tk L s=t :: q):Tk L s'=q:=by
 unfold Tk;rw [h];exact (A0i (E:=0) ht).2.1
theorem A4i {s:Rd} {t:T3} {q:List T3} (ho:okR s=true) (ht:Tk L s=t :: q) (hp:N5 t K5<0) (hk:0<=N5 t F2\/t.1=3\/t.1=1) :
  ∃ r,Un L E s r/\(s.ops+1<=32->N5 t F2<4->okR r.2=true)/\(s.ops+1<=32->4<=N5 t F2->∀ n q',q=(1,n,0) :: q'->okR r.2=true/\Tk L r.2=q'/\r.1=.mk (Y7.getD (N5 t F2).toNat 0) 0 n [] (B5 L E s).pos) /\
   (okR r.2=true->r.2.par=s.par/\r.2.ops=s.ops+1/\s.ops+1<=32 /\
    (N5 t F2<4->Tk L r.2=q/\r.1=(if 0<=N5 t F2 then .mk (Y7.getD (N5 t F2).toNat 0) 0 [] [] (B5 L E s).pos else if t.1=3 then .mk 1 t.2.2 [] [] (B5 L E s).pos else .mk 2 0 t.2.1 [] (B5 L E s).pos))):=by
 refine ⟨I4 L E s,Un.prim (by rw [O1 ht ho];exact hp),?_⟩;obtain ⟨h1,h2,h3⟩:=A0i (E:=E) ht;have hg:¬ (C1 L E s F2<0/\I0 L E s 3=false/\I0 L E s 1=false):=by
  rw [O1 ht ho,A8q ht ho,A8q ht ho];rintro ⟨a,b,c⟩;rcases hk with hk|hk|hk
  ·omega
  ·rw [hk] at b;cases b
  ·rw [hk] at c;cases c
 unfold I4;dsimp only;rw [if_neg hg,O1 ht ho];by_cases hop:s.ops+1<=32
 ·rw [A3s hop];have ho1:okR ({ s with ops:=s.ops+1 }:Rd)=true:=ho;rw [if_neg (by rw [ho1];simp)];have htn:Tk L (A7 { s with ops:=s.ops+1 })=q:=A7y (s:=s) rfl ht;have hon:okR (A7 { s with ops:=s.ops+1 })=true:=ho;by_cases h0:0<=N5 t F2
  ·rw [if_pos h0];by_cases h4:4<=N5 t F2
   ·rw [if_pos h4];refine ⟨fun _ h=>by omega,fun _ _ n q' hq=>?_,fun hok=>⟨?_,?_,hop,fun h=>by omega⟩⟩
    ·rw [hq] at htn;have e:B2 L E (A7 { s with ops:=s.ops+1 }) 1=(B5 L E (A7 { s with ops:=s.ops+1 }),A7 (A7 { s with ops:=s.ops+1 })):=by
      unfold B2;rw [if_neg (by rw [A8q htn hon];simp)]
     rw [e];refine ⟨ho,A7y (s:=A7 { s with ops:=s.ops+1 }) rfl htn,?_⟩;have:=(A0i (E:=E) htn).1;have e2:(B5 L E (A7 { s with ops:=s.ops+1 })).text=n:=congrArg (fun x=>x.2.1) this;rw [e2]
    ·rw [(A0j hok).2];rfl
    ·rw [(A0j hok).2];rfl
   ·rw [if_neg h4];refine ⟨fun _ _=>hon,fun _ h=>absurd h h4,fun hok=>⟨rfl,rfl,hop,fun _=>⟨htn,?_⟩⟩⟩;rw [if_pos h0]
  ·rw [if_neg h0];have e1:(B5 L E s).kind=t.1:=congrArg (fun x=>x.1) h1;have e2:(B5 L E s).value=t.2.2:=congrArg (fun x=>x.2.2) h1;have e3:(B5 L E s).text=t.2.1:=congrArg (fun x=>x.2.1) h1;rw [e1,e2,e3];refine ⟨fun _ _=>?_,fun _ h=>by omega,fun hok=>⟨?_,?_,hop,fun _=>⟨?_,?_⟩⟩⟩
   ·split<;>exact hon
   ·split<;>rfl
   ·split<;>rfl
   ·split<;>exact htn
   ·rw [if_neg h0];split<;>rfl
 ·have hl:=C4y (L:=L) (E:=E) (s:={ s with ops:=s.ops+1 }) (e:=9) (m:=32) (n:=s.ops+1) (by decide) (by omega);rw [if_pos hl];refine ⟨fun h=>absurd h hop,fun h=>absurd h hop,fun hok=>?_⟩;dsimp only at hok;rw [hl] at hok;cases hok
theorem B0w (k:Nat) (hk:k<7):N5 (2,F2.getD k [],0) F2=k/\N5 (2,F2.getD k [],0) K5<0:=by
 have:∀ k,k<7->N5 (2,F2.getD k [],0) F2=k/\N5 (2,F2.getD k [],0) K5<0:=by decide
 exact this k hk
theorem C1m (k:Nat) (hk:k<13):N5 (5,C5.getD k [],0) C5=k:=by
 have:∀ k,k<13->N5 (5,C5.getD k [],0) C5=k:=by decide
 exact this k hk
theorem C4f {k:Nat} (hk:k<13):1<=B4 (12+(k:Int))/\B4 (12+(k:Int))<=5:=by
 have:∀ k:Nat,k<13->1<=B4 (12+(k:Int))/\B4 (12+(k:Int))<=5:=by decide
 exact this k hk
theorem C1w {s:Rd} (h:s.par+1<=16) (ho:okR s=true):okR (C4 L E s (s.par+1) 16 50)=true:=by rw [A3s h];exact ho
theorem C1x {s:Rd} {rest:List T3} {d c:Nat} {ty:Bool} (h:16<s.par+1) (ha:0<=C1 L E s K5):∃ r,Un L E s r/\Res L Nm s r rest (d+1) c ty:=by
 have hl:=C4y (L:=L) (E:=E) (s:=s) (n:=s.par+1) (m:=16) (e:=50) (by decide) h;refine ⟨_,Un.bad ha hl,fun h1 _=>?_,fun h1=>?_⟩
 ·have:((d+1:Nat):Int)=d+1:=by omega
  omega
 ·rw [hl] at h1;cases h1
theorem B8i {s:Rd} {k:Int} {x:List UInt8} {a rest:List T3} {d c:Nat} {ty:Bool} (hx:N5 (5,x,0) K5=k) (h0:0<=k) (h2:k≠2) (h:PzU L E Nm a d c ty)
  (hq:∀ e p,TyE Nm ty e->TyE Nm ty (.mk (10+k) 0 [] [e] p)) (ho:okR s=true) (ht:Tk L s=(5,x,0) :: (a++rest)):∃ r,Un L E s r/\Res L Nm s r rest (d+1) c ty:=by
 have ha:C1 L E s K5=k:=by rw [O1 ht ho];exact hx
 by_cases h16:s.par+1<=16
 ·have hl:=C1w (L:=L) (E:=E) h16 ho;have htn:Tk L { s with i:=s.i+1,par:=s.par+1 }=a++rest:=A7y (s:=s) rfl ht;obtain ⟨r,h1,h3,h4⟩:=h { s with i:=s.i+1,par:=s.par+1 } rest ho htn;obtain ⟨e,s3⟩:=r;refine ⟨_,Un.pre (by rw [ha];exact h0) (by rw [ha];exact h2) hl h1,fun p1 p2=>?_,fun hok=>?_⟩
  ·have:((d+1:Nat):Int)=d+1:=by omega
   exact h3 (by dsimp only;omega) p2
  ·obtain ⟨q1,q2,q3,q4⟩:=h4 hok;rw [ha];exact ⟨q1,hq _ _ q2,by dsimp only at q3 ⊢;omega,q4⟩
 ·exact C1x (by omega) (by rw [ha];exact h0)
theorem C5k {m:Int} {ty:Bool} {d c:Nat} {ts:List T3} (h:GX Nm m ty d c ts):1<=m/\m<=6/\Pz L E Nm m ts d c ty/\(m=6->PzU L E Nm ts d c ty):=by
 have key:∀ {ts:List T3} {d c:Nat} {ty:Bool},PzU L E Nm ts d c ty->1<=(6:Int)/\(6:Int)<=6/\Pz L E Nm 6 ts d c ty/\((6:Int)=6->PzU L E Nm ts d c ty):=fun h=>⟨by omega,by omega,h.pz,fun _=>h⟩
 induction h with
 | @num v =>
  refine key fun s rest ho ht=>?_;have a1:N5 (3,[],v) K5 = -1:=V9 (by simp) (by simp) _ _;have a2:N5 (3,[],v) F2 = -1:=V9 (by simp) (by simp) _ _;obtain ⟨r,h1,h2, -,h3⟩:=A4i (E:=E) ho ht (by rw [a1];decide) (.inr (.inl rfl));rw [a2] at h2 h3;refine ⟨r,h1,fun _ p2=>h2 (by simpa using p2) (by decide),fun hok=>?_⟩;obtain ⟨q1,q2, -,q3⟩:=h3 hok;obtain ⟨q4,q5⟩:=q3 (by decide);rw [if_neg (by decide),if_pos rfl] at q5;exact ⟨q4,by rw [q5];exact .num,q1,by rw [q2];rfl⟩
 | @var n hn =>
  refine key fun s rest ho ht=>?_;have a1:N5 (1,n,0) K5 = -1:=V9 (by simp) (by simp) _ _;have a2:N5 (1,n,0) F2 = -1:=V9 (by simp) (by simp) _ _;obtain ⟨r,h1,h2, -,h3⟩:=A4i (E:=E) ho ht (by rw [a1];decide) (.inr (.inr rfl));rw [a2] at h2 h3;refine ⟨r,h1,fun _ p2=>h2 (by simpa using p2) (by decide),fun hok=>?_⟩;obtain ⟨q1,q2, -,q3⟩:=h3 hok;obtain ⟨q4,q5⟩:=q3 (by decide);rw [if_neg (by decide),if_neg (by simp)] at q5;exact ⟨q4,by rw [q5];exact .var hn,q1,by rw [q2];rfl⟩
 | @word0 k ty hk =>
  refine key fun s rest ho ht=>?_;have hk4:k<4:=by
   simp only [A1D,Prod.mk.injEq,A2F,or_false] at hk;omega
  obtain ⟨a2,a1⟩:=B0w k (by omega);obtain ⟨r,h1,h2, -,h3⟩:=A4i (E:=E) ho ht a1 (.inl (by rw [a2];omega));rw [a2] at h2 h3;refine ⟨r,h1,fun _ p2=>h2 (by simpa using p2) (by omega),fun hok=>?_⟩;obtain ⟨q1,q2, -,q3⟩:=h3 hok;obtain ⟨q4,q5⟩:=q3 (by omega);rw [if_pos (by omega),A3D] at q5;exact ⟨q4,by rw [q5];exact .word0 hk,q1,by rw [q2];rfl⟩
 | @word1 k nk ty n hk hn =>
  refine key fun s rest ho ht=>?_;have hk4:4<=k/\k<7:=by
   simp only [A1D,Prod.mk.injEq,A2F,or_false] at hk;omega
  obtain ⟨a2,a1⟩:=B0w k (by omega);obtain ⟨r,h1, -,h2,h3⟩:=A4i (E:=E) ho ht a1 (.inl (by rw [a2];omega));rw [a2,A3D] at h2;by_cases hop:s.ops+1<=32
  ·obtain ⟨q1,q2,q3⟩:=h2 hop (by omega) n rest rfl;obtain ⟨q4,q5, -, -⟩:=h3 q1;exact ⟨r,h1,fun _ _=>q1,fun _=>⟨q2,by rw [q3];exact .word1 hk hn,q4,by rw [q5];rfl⟩⟩
  ·exact ⟨r,h1,fun _ p2=>absurd (by simpa using p2) hop,fun hok=>absurd (h3 hok).2.2.1 hop⟩
 | @neg d c a _ ih=>exact key fun s rest ho ht=>B8i (k:=0) rfl (by decide) (by decide) (ih.2.2.2 rfl) (fun e p h=>.neg h) ho ht
 | @not d c a _ ih=>exact key fun s rest ho ht=>B8i (k:=1) rfl (by decide) (by decide) (ih.2.2.2 rfl) (fun e p h=>.not h) ho ht
 | @par m ty d c a _ ih =>
  refine key fun s rest ho ht=>?_;obtain ⟨hm1,hm6,hz, -⟩:=ih;have ha:C1 L E s K5=2:=by rw [O1 ht ho];rfl
  by_cases h16:s.par+1<=16
  ·have hl:=C1w (L:=L) (E:=E) h16 ho;have htn:Tk L { s with i:=s.i+1,par:=s.par+1 }=a++(5,[41],0) :: rest:=by
    have:=A7y (L:=L) (s':={ s with i:=s.i+1,par:=s.par+1 }) (s:=s) rfl ht;simpa using this
   obtain ⟨r,h1,h3,h4⟩:=hz 1 (by decide) hm1 { s with i:=s.i+1,par:=s.par+1 } _ ho htn (fun t q e=>by
    injection e with e1 e2;subst e1;exact .inl (by decide))
   obtain ⟨e,s3⟩:=r;refine ⟨_,Un.par ha hl h1,fun p1 p2=>?_,fun hok=>?_⟩
   ·have:((d+1:Nat):Int)=d+1:=by omega
    have k1:=h3 (by dsimp only;omega) p2;obtain ⟨q1, -, -, -⟩:=h4 k1;show okR (D1 L E s3 [41])=true;unfold D1;rw [if_neg (by rw [U8 q1 k1];decide)];exact k1
   ·have k0:okR (D1 L E s3 [41])=true:=hok;obtain ⟨k1,k2⟩:=A8w k0;have k3:okR s3=true:=(A1b k1).1;obtain ⟨q1,q2,q3,q4⟩:=h4 k3;refine ⟨?_,q2,?_,?_⟩
    ·have:Tk L (D1 L E s3 [41])=rest:=by rw [k2];exact A7y (s:=s3) rfl q1
     exact this
    ·show (D1 L E s3 [41]).par-1=s.par;rw [k2];show s3.par-1=s.par;dsimp only at q3;omega
    ·show (D1 L E s3 [41]).ops=s.ops+c;rw [k2];exact q4
  ·exact C1x (by omega) (by rw [ha];decide)
 | @bin k m1 m2 ta ty d1 d2 c1 c2 a b hk hta hty hm1 hm2 _ _ iha ihb =>
  obtain ⟨hl1,hl5⟩:=C4f hk;obtain ⟨-, -,hza, -⟩:=iha;obtain ⟨-, -,hzb, -⟩:=ihb;refine ⟨hl1,by omega,?_,fun h=>by omega⟩;refine Pz.of (by omega) fun s rest ho ht hno=>?_;generalize hlv:B4 (12+(k:Int))=lv at *;have hsg:=C1m k hk;have ht':Tk L s=a++(5,C5.getD k [],0) :: (b++rest):=by rw [ht];simp
  obtain ⟨⟨e,s1⟩,h1,h2,h3⟩:=hza (lv+1) (by omega) (by omega) s _ ho ht' (fun t q e=>by
   injection e with e1 e2;subst e1;right;rw [hsg,hlv];omega)
  cases ho1:okR s1 with
  | false =>
   refine ⟨(e,s1),Bin.go (by omega) h1 (Lop.stop (.inl (by rw [B5h ho1];decide))),fun p1 p2=>?_,fun hok=>?_⟩
   ·have:=h2 (by omega) (by omega);exact absurd this (by rw [ho1];simp)
   ·rw [ho1] at hok;cases hok
  | true =>
   obtain ⟨q1,q2,q3,q4⟩:=h3 ho1;have ham:C1 L E s1 C5=k:=by rw [O1 q1 ho1];exact hsg
   have htn:Tk L (A7 s1)=b++rest:=A7y (s:=s1) rfl q1;obtain ⟨⟨x,s2⟩,g1,g2,g3⟩:=hzb (lv+1) (by omega) (by omega) (A7 s1) rest ho1 htn (hno.up (by omega));have hres:∀ p,Res L Nm s (.mk (12+(k:Int)) 0 [] [e,x] p,s2) rest (max d1 d2) (c1+c2) ty:=by
    intro p;refine ⟨fun p1 p2=>?_,fun hok=>?_⟩
    ·exact g2 (by show s1.par+d2<=16;dsimp only at q3;omega) (by show s1.ops+c2<=32;dsimp only at q4;omega)
    ·obtain ⟨w1,w2,w3,w4⟩:=g3 hok;refine ⟨w1,.bin hk hta hty q2 w2,?_,?_⟩
     ·have:(A7 s1).par=s1.par:=rfl;dsimp only at q3 w3 ⊢;omega
     ·have:(A7 s1).ops=s1.ops:=rfl;dsimp only at q4 w4 ⊢;omega
   by_cases h33:lv=3
   ·refine ⟨_,Bin.go (by omega) h1 (Lop.three (by rw [ham];omega) (by rw [ham];exact hlv) h33 g1),?_⟩;rw [ham];exact hres _
   ·refine ⟨_,Bin.go (by omega) h1 (Lop.more (by rw [ham];omega) (by rw [ham];exact hlv) h33 g1 (B8u (rest:=rest) (fun h=>(g3 h).1) hno)),?_⟩;rw [ham];exact hres _
end
end Go.Pb
namespace Go.Pb
variable [Go.Sym.Tab]
open Go.Sym
def A9h (Nm:Int->List UInt8->Prop) (R:Ru):Prop:=∀ k n,Nm k n->(K2 R n).1=k
theorem A0c {R:Ru} {n:List UInt8} {k p:Int} (h:k=0\/(K2 R n).1=k):dnE R n k p=none:=by
 unfold dnE dnM;rw [if_pos h,if_pos rfl]
theorem C1z {Nm:Int->List UInt8->Prop} {R:Ru} (hR:A9h Nm R) {ty:Bool} {e:Ex} (h:TyE Nm ty e):erE R e=none/\J1 e.kind=(if ty=true then 1 else 2):=by
 induction h with
 | num=>exact ⟨by simp [erE,N2,A0c (show kdE 1=0\/_ from .inl rfl)],rfl⟩
 | var hn=>exact ⟨by simp [erE,N2,A0c (.inr (hR _ _ hn)),show kdE 2=6 from rfl],rfl⟩
 | @word0 k ty p hk =>
  simp only [A1D,Prod.mk.injEq,A2F,or_false] at hk;rcases hk with ⟨rfl,rfl⟩|⟨rfl,rfl⟩|⟨rfl,rfl⟩|⟨rfl,rfl⟩
  all_goals exact ⟨by rw [erE,N2,A0c (.inl (by decide))];rfl,rfl⟩
 | @word1 k nk ty n p hk hn =>
  have hl:=hR _ _ hn;simp only [A1D,Prod.mk.injEq,A2F,or_false] at hk;rcases hk with ⟨rfl,rfl,rfl⟩|⟨rfl,rfl,rfl⟩|⟨rfl,rfl,rfl⟩
  all_goals exact ⟨by rw [erE,N2,A0c (.inr (by rw [hl];rfl))];rfl,rfl⟩
 | neg _ ih =>
  refine ⟨?_,rfl⟩;rw [erE,N2,N2,ih.1,A0c (.inl (by decide))];simp [ih.2,P6]
 | not _ ih =>
  refine ⟨?_,rfl⟩;rw [erE,N2,N2,ih.1,A0c (.inl (by decide))];simp [ih.2,P6]
 | @bin k ta ty a b p hk hta hty _ _ iha ihb =>
  have e1:∀ k:Nat,k<13->kdE (12+(k:Int))=0/\J1 (12+(k:Int))=(if decide (k<5)=true then 1 else 2)/\(k<11->k≠9->k≠10->∀ x,P6 (12+(k:Int)) x=1)/\((k=9\/k=10)->∀ x y,P6 (12+(k:Int)) (x :: y)=J1 x.kind)/\(11<=k->∀ x,P6 (12+(k:Int)) x=2):=by
   intro k hk;refine ⟨?_,?_,fun h1 h2 h3 x=>?_,fun h x y=>?_,fun h x=>?_⟩
   ·unfold kdE;rw [if_neg (by omega),if_neg (by omega),if_neg (by omega),if_neg (by omega)]
   ·have:∀ k:Nat,k<13->J1 (12+(k:Int))=(if decide (k<5)=true then 1 else 2):=by decide
    exact this k hk
   ·unfold P6;rw [if_neg (by omega),if_neg (by omega)]
   ·unfold P6;rw [if_neg (by omega),if_pos (by omega)]
   ·unfold P6;rw [if_pos (by omega)]
  obtain ⟨g1,g2,g3,g4,g5⟩:=e1 k hk;refine ⟨?_,by rw [show (Ex.mk (12+(k:Int)) 0 [] [a,b] p).kind=12+(k:Int) from rfl,g2,hty]⟩;rw [erE,N2,N2,N2,iha.1,ihb.1,A0c (.inl g1)];have hall:([a,b].all fun x=>J1 x.kind == P6 (12+(k:Int)) [a,b])=true:=by
   simp only [A2M,A4L,A2G,iha.2,ihb.2];by_cases h1:11<=k
   ·rw [g5 h1,hta,show decide (k<11)=false by simp;omega];rfl
   ·by_cases h2:k=9\/k=10
    ·rw [g4 h2,iha.2];simp
    ·rw [g3 (by omega) (by omega) (by omega),hta,show decide (k<11)=true by simp;omega];rfl
  rw [hall];rfl
theorem B4x {Nm:Int->List UInt8->Prop} {R:Ru} (hR:A9h Nm R) {ty b:Bool} {e:Ex} (h:TyE Nm ty e) (hb:b = !ty):erA R b [e]=none:=by
 obtain ⟨h1,h2⟩:=C1z hR h;rw [erA,erA,h1,h2,hb];cases ty<;>rfl
theorem E3r {Nm:Int->List UInt8->Prop} {R:Ru} (hR:A9h Nm R) {e x:Ex} (h:TyE Nm true e) (h':TyE Nm true x):erA R false [e,x]=none:=by
 obtain ⟨h1,h2⟩:=C1z hR h;obtain ⟨h3,h4⟩:=C1z hR h';rw [erA,erA,erA,h1,h2,h3,h4];rfl
theorem B9g (R:Ru):∀ (a b:List St),erB R (a++b)=(erB R a).or (erB R b)
 | [],b=>by rw [List.nil_append,erB];cases erB R b<;>rfl
 | x :: a,b=>by rw [List.cons_append,erB,erB,B9g R a b];cases erS R x<;>cases erB R a<;>rfl
theorem W8 {R:Ru} {k p:Int} {n t:List UInt8} {a:List Ex} {x y:List St} (h1:kdS k=0\/(K2 R n).1=kdS k) (h2:erA R (k == 2) a=none) (h3:erB R x=none) (h4:erB R y=none):erS R (.mk k n t a x y p)=none:=by
 rw [erS,A0c h1,h2,h3,h4];rfl
section
variable {L:List Tok} {E:Int}
structure At (L:List Tok) (s:Rd) (q:List T3):Prop where
 ok:okR s=true
 tk:Tk L s=q
theorem At.nxt {s:Rd} {t:T3} {q:List T3} (h:At L s (t :: q)):At L (A7 s) q:=⟨h.ok,A7y (s:=s) rfl h.tk⟩
theorem At.take {s:Rd} {k v:Int} {n:List UInt8} {q:List T3} (h:At L s ((k,n,v) :: q)):B2 L E s k=(B5 L E s,A7 s)/\(B5 L E s).text=n/\(B5 L E s).value=v:=by
 have h1:=(A0i (E:=E) h.tk).1;refine ⟨?_,congrArg (fun x=>x.2.1) h1,congrArg (fun x=>x.2.2) h1⟩;unfold B2;rw [if_neg (by rw [A8q h.tk h.ok];simp)]
theorem At.exp {s:Rd} {c v:Int} {x:List UInt8} {q:List T3} (h:At L s ((c,x,v) :: q)) (hc:c=5\/c=2):D1 L E s x=A7 s:=by
 unfold D1;rw [if_neg (by rw [U8 h.tk h.ok];rcases hc with rfl|rfl<;>simp)]
variable {Nm:Int->List UInt8->Prop}
theorem At.xpn {m:Int} {ty:Bool} {d c:Nat} {a rest:List T3} {s:Rd} (hx:GX Nm m ty d c a) (hd:d<=16) (hc:c<=32) (h:At L s (a++rest)) (hno:A6u 1 rest):∃ e s1,Xpn L E s (e,s1)/\At L s1 rest/\TyE Nm ty e:=by
 obtain ⟨h1,h2,hz, -⟩:=C5k (L:=L) (E:=E) hx;obtain ⟨⟨e,s1⟩,g1,g2,g3⟩:=hz 1 (by decide) h1 { s with ops:=0,par:=0 } rest h.ok h.tk hno;have k:=g2 (by show (0:Int)+d<=16;omega) (by show (0:Int)+c<=32;omega);obtain ⟨k1,k2, -, -⟩:=g3 k;exact ⟨e,s1,g1,⟨k,k1⟩,k2⟩
theorem Z8 {x:List UInt8} {q:List T3} {n:Int} (h:N5 (5,x,0) C5 = -1):A6u n ((5,x,0) :: q):=fun t q' e=>by
 injection e with e1 e2;subst e1;exact .inl (by rw [h];decide)
def SX (Nm:Int->List UInt8->Prop) (ty:Bool) (a:List T3):Prop:=∃ m d c,d<=16/\c<=32/\GX Nm m ty d c a
theorem At.sx {ty:Bool} {a rest:List T3} {s:Rd} (hx:SX Nm ty a) (h:At L s (a++rest)) (hno:A6u 1 rest):∃ e s1,Xpn L E s (e,s1)/\At L s1 rest/\TyE Nm ty e:=by
 obtain ⟨m,d,c,hd,hc,hg⟩:=hx;exact h.xpn hg hd hc hno
abbrev wdT (j:Nat):T3:=(2,C0.getD j [],0)
abbrev sgT (x:List UInt8):T3:=(5,x,0)
def B0d:List (Nat × Int):=[(3,2),(4,2),(5,2),(9,7),(10,9),(11,9),(12,8),(13,4),(14,5),(15,5)]
inductive GS (Nm:Int->List UInt8->Prop) (B:List T3->Prop):List T3->Prop where
 | set {n:List UInt8} {a:List T3}:Nm 6 n->SX Nm true a->GS Nm B ((1,n,0) :: sgT [61] :: (a++[sgT [59]]))
 | name {j:Nat} {k:Int} {n:List UInt8}:(j,k)∈B0d->Nm k n->GS Nm B [wdT j,(1,n,0),sgT [59]]
 | score {a:List T3}:SX Nm true a->GS Nm B (wdT 2 :: (a++[sgT [59]]))
 | arg {j:Nat} {k:Int} {n:List UInt8} {a:List T3}:(j,k)∈[(6,(3:Int)),(8,7)]->Nm k n->SX Nm true a->GS Nm B (wdT j :: (1,n,0) :: (a++[sgT [59]]))
 | blink {n:List UInt8} {a b:List T3}:Nm 3 n->SX Nm true a->SX Nm true b->GS Nm B (wdT 7 :: (1,n,0) :: (a++sgT [44] :: (b++[sgT [59]])))
 | text {x:List UInt8} {a:List T3}:SX Nm true a->GS Nm B (wdT 16 :: (4,x,0) :: sgT [44] :: (a++[sgT [59]]))
 | consume:GS Nm B [wdT 17,sgT [59]]
 | rep {a b:List T3}:SX Nm true a->B b->GS Nm B (wdT 1 :: (a++b))
 | ifs {a b:List T3}:SX Nm false a->B b->GS Nm B (wdT 0 :: (a++b))
 | ife {a b c:List T3}:SX Nm false a->B b->B c->GS Nm B (wdT 0 :: (a++(b++(2,[101,108,115,101],0) :: c)))
 | ifi {a b a2 c:List T3}:SX Nm false a->B b->SX Nm false a2->B c->GS Nm B (wdT 0 :: (a++(b++(2,[101,108,115,101],0) :: wdT 0 :: (a2++c))))
def GB (S:List T3->Prop) (ts:List T3):Prop:=∃ ls:List (List T3),ls.length<=64/\(∀ x∈ls,S x)/\ts=sgT [123] :: (ls.flatten++[sgT [125]])
def B2w (rest:List T3):Prop:=∀ t q,rest=t :: q->((t.1 == 5 || t.1 == 2) && t.2.1 == [101,108,115,101])=false
def D1d (L:List Tok) (E:Int) (Nm:Int->List UInt8->Prop) (b:Int) (ts:List T3):Prop:=∀ (d:Int) s rest,d+b<=8->At L s (ts++rest)->B2w rest ->
 ∃ x s1,L3 L E d s (x,s1)/\At L s1 rest/\∀ R,A9h Nm R->erS R x=none
def C7p (L:List Tok) (E:Int) (Nm:Int->List UInt8->Prop) (b:Int) (ts:List T3):Prop:=∀ (d:Int) s rest,d+b<=8->At L s (ts++rest) ->
 ∃ x s1,A5d L E d s (x,s1)/\At L s1 rest/\∀ R,A9h Nm R->erB R x=none
theorem B1b {j:Nat} (h:j<18):N5 (wdT j) C0=j:=by
 have:∀ j,j<18->N5 (wdT j) C0=j:=by decide
 exact this j h
theorem B6t {s:Rd} {d:Int} (h:d<=8):C4 L E s d 8 50=s:=A3s h
theorem A2i {s:Rd} {d:Int} {j:Nat} {q:List T3} {r:St × Rd} (hd:d<=8) (hj:2<=j) (hj2:j<18) (h:At L s (wdT j :: q)) (he:Evt (fun f=>I9 L E f (2+(j:Int)) (B5 L E s).pos (A7 s)) r):L3 L E d s r:=by
 have ha:C1 L E s C0=j:=by rw [O1 h.tk h.ok];exact B1b hj2
 refine L3.tail (by rw [B6t hd];exact h.ok) (by rw [ha];omega) ?_;rw [ha];exact he
theorem C8y {s:Rd} {rest:List T3} (h:At L s rest) (hne:B2w rest):isR L E s [101,108,115,101]=false:=by
 cases rest with
 | nil=>unfold isR;rw [C2i (E:=E) h.tk];simp
 | cons t q=>rw [U8 h.tk h.ok];exact hne t q rfl
theorem B7k {b:Int} {j:Nat} {a c rest:List T3} {d:Int} {s:Rd} (hj:j=0\/j=1) (hd:d<=8) (hdb:d+1+b<=8) (ha:SX Nm (decide (j=1)) a) (hc:C7p L E Nm b c) (hch:∃ q,c=sgT [123] :: q)
  (hs:At L s (wdT j :: (a++(c++rest)))) (hne:B2w rest):∃ x s1,L3 L E d s (x,s1)/\At L s1 rest/\∀ R,A9h Nm R->erS R x=none:=by
 have hl:okR (C4 L E s d 8 50)=true:=by rw [B6t hd];exact hs.ok
 have ham:C1 L E s C0=j:=by rw [O1 hs.tk hs.ok];exact B1b (by omega)
 obtain ⟨q,rfl⟩:=hch;obtain ⟨e,s1,x1,x2,x3⟩:=hs.nxt.sx (E:=E) ha (Z8 (by decide));obtain ⟨t,s2,y1,y2,y3⟩:=hc (d+1) s1 rest hdb x2;refine ⟨_,s2,L3.blk hl (by omega) x1 y1 (fun h=>?_),y2,fun R hR=>?_⟩
 ·rw [C8y y2 hne] at h;cases h.2
 ·rw [ham];rcases hj with rfl|rfl
  ·exact W8 (.inl (by decide)) (B4x hR x3 rfl) (y3 R hR) rfl
  ·exact W8 (.inl (by decide)) (B4x hR x3 rfl) (y3 R hR) rfl
theorem D1x {B:List T3->Prop} {b:Int} (hb : -2<=b) (hb2:∀ ts,B ts->0<=b) (hB:∀ ts,B ts->C7p L E Nm b ts) (hBh:∀ ts,B ts->∃ q,ts=sgT [123] :: q) {ts:List T3} (h:GS Nm B ts):D1d L E Nm (b+2) ts:=by
 intro d s rest hd hs hne;have hd8:d<=8:=by omega
 have hl:okR (C4 L E s d 8 50)=true:=by rw [B6t hd8];exact hs.ok
 have n59:∀ q,A6u 1 (sgT [59] :: q):=fun q=>Z8 (by decide);have n44:∀ q,A6u 1 (sgT [44] :: q):=fun q=>Z8 (by decide);cases h with
 | @set n a hn ha =>
  have hs:At L s ((1,n,0) :: sgT [61] :: (a++sgT [59] :: rest)):=by simpa using hs
  obtain ⟨t1,t2, -⟩:=hs.take (E:=E);have h2:=hs.nxt.nxt;have e1:D1 L E (B2 L E s 1).2 [61]=A7 (A7 s):=by rw [t1];exact hs.nxt.exp (.inl rfl)
  obtain ⟨e,s1,x1,x2,x3⟩:=h2.sx (E:=E) ha (n59 _);have hk:C1 L E s C0<0:=by rw [O1 hs.tk hs.ok,show N5 (1,n,0) C0 = -1 from V9 (by simp) (by simp) _ _];decide
  refine ⟨_,_,L3.set hl hk (by rw [e1];exact x1),?_,fun R hR=>?_⟩
  ·rw [x2.exp (.inl rfl)];exact x2.nxt
  ·rw [t1];refine W8 (.inr ?_) (B4x hR x3 rfl) rfl rfl;rw [t2];exact hR 6 n hn
 | @name j k n hj hn =>
  have hs:At L s (wdT j :: (1,n,0) :: sgT [59] :: rest):=by simpa using hs
  have hjj:3<=j/\j<=15/\j≠6/\j≠7/\j≠8/\kdS (2+(j:Int))=k/\(2+(j:Int) == 2)=false:=by
   simp only [B0d,A1D,Prod.mk.injEq,A2F,or_false] at hj;rcases hj with ⟨rfl,rfl⟩|⟨rfl,rfl⟩|⟨rfl,rfl⟩|⟨rfl,rfl⟩|⟨rfl,rfl⟩|⟨rfl,rfl⟩|⟨rfl,rfl⟩|⟨rfl,rfl⟩|⟨rfl,rfl⟩|⟨rfl,rfl⟩<;>decide
  obtain ⟨j1,j2,j3,j4,j5,j6,j7⟩:=hjj;obtain ⟨t1,t2, -⟩:=hs.nxt.take (E:=E);have x2:=hs.nxt.nxt;refine ⟨_,_,A2i (r:=(.mk (2+(j:Int)) n [] [] [] [] (B5 L E s).pos,A7 (A7 (A7 s)))) hd8 (by omega) (by omega) hs (Evt.one fun f=>?_),x2.nxt,fun R hR=>?_⟩
  ·unfold I9;rw [if_neg (by omega),if_neg (by omega),if_neg (by omega),t1];dsimp only;rw [if_neg (by omega),t2,x2.exp (.inl rfl)]
  ·exact W8 (.inr (by rw [j6];exact hR _ _ hn)) rfl rfl rfl
 | @score a ha =>
  have hs:At L s (wdT 2 :: (a++sgT [59] :: rest)):=by simpa using hs
  obtain ⟨e,s1,x1,x2,x3⟩:=hs.nxt.sx (E:=E) ha (n59 _);refine ⟨_,_,A2i (r:=(.mk 4 [] [] [e] [] [] (B5 L E s).pos,A7 s1)) hd8 (by omega) (by omega) hs (x1.map fun f h=>?_),x2.nxt,fun R hR=>?_⟩
  ·unfold I9;rw [if_pos (by decide),h];dsimp only;rw [x2.exp (.inl rfl)];rfl
  ·exact W8 (.inl (by decide)) (B4x hR x3 rfl) rfl rfl
 | @arg j k n a hj hn ha =>
  have hs:At L s (wdT j :: (1,n,0) :: (a++sgT [59] :: rest)):=by simpa using hs
  have hjj:(j=6\/j=8)/\kdS (2+(j:Int))=k/\(2+(j:Int) == 2)=false:=by
   simp only [A1D,Prod.mk.injEq,A2F,or_false] at hj;rcases hj with ⟨rfl,rfl⟩|⟨rfl,rfl⟩<;>decide
  obtain ⟨j1,j6,j7⟩:=hjj;obtain ⟨t1,t2, -⟩:=hs.nxt.take (E:=E);obtain ⟨e,s1,x1,x2,x3⟩:=hs.nxt.nxt.sx (E:=E) ha (n59 _);refine ⟨_,_,A2i (r:=(.mk (2+(j:Int)) n [] [e] [] [] (B5 L E s).pos,A7 s1)) hd8 (by omega) (by omega) hs (x1.map fun f h=>?_),x2.nxt,fun R hR=>?_⟩
  ·unfold I9;rw [if_neg (by omega),if_neg (by omega),if_neg (by omega),t1];dsimp only;rw [if_pos (by omega),h];dsimp only;rw [if_neg (by omega),t2,x2.exp (.inl rfl)]
  ·exact W8 (.inr (by rw [j6];exact hR _ _ hn)) (B4x hR x3 (by rw [j7];rfl)) rfl rfl
 | @blink n a a2 hn ha ha2 =>
  have hs:At L s (wdT 7 :: (1,n,0) :: (a++sgT [44] :: (a2++sgT [59] :: rest))):=by simpa using hs
  obtain ⟨t1,t2, -⟩:=hs.nxt.take (E:=E);obtain ⟨e,s1,x1,x2,x3⟩:=hs.nxt.nxt.sx (E:=E) ha (n44 _);obtain ⟨e2,s2,y1,y2,y3⟩:=x2.nxt.sx (E:=E) ha2 (n59 _);refine ⟨_,_,A2i (r:=(.mk 9 n [] [e,e2] [] [] (B5 L E s).pos,A7 s2)) hd8 (by omega) (by omega) hs (x1.map2 y1 fun f h h2=>?_),y2.nxt,fun R hR=>?_⟩
  ·unfold I9;rw [if_neg (by decide),if_neg (by decide),if_neg (by decide),t1];dsimp only;rw [if_pos (by decide),h];dsimp only;rw [if_pos (by decide),x2.exp (.inl rfl),h2];dsimp only;rw [t2,y2.exp (.inl rfl)];rfl
  ·exact W8 (.inr (hR 3 n hn)) (E3r hR x3 y3) rfl rfl
 | @text x a ha =>
  have hs:At L s (wdT 16 :: (4,x,0) :: sgT [44] :: (a++sgT [59] :: rest)):=by simpa using hs
  obtain ⟨t1,t2, -⟩:=hs.nxt.take (E:=E);have h3:=hs.nxt.nxt;obtain ⟨e,s1,x1,x2,x3⟩:=h3.nxt.sx (E:=E) ha (n59 _);refine ⟨_,_,A2i (r:=(.mk 18 [] x [e] [] [] (B5 L E s).pos,A7 s1)) hd8 (by omega) (by omega) hs (x1.map fun f h=>?_),x2.nxt,fun R hR=>?_⟩
  ·unfold I9;rw [if_neg (by decide),if_pos (by decide),t1];dsimp only;rw [h3.exp (.inl rfl),h];dsimp only;rw [t2,x2.exp (.inl rfl)];rfl
  ·exact W8 (.inl (by decide)) (B4x hR x3 rfl) rfl rfl
 | consume =>
  have hs:At L s (wdT 17 :: sgT [59] :: rest):=by simpa using hs
  refine ⟨_,_,A2i (r:=(.mk 19 [] [] [] [] [] (B5 L E s).pos,A7 (A7 s))) hd8 (by omega) (by omega) hs (Evt.one fun f=>?_),hs.nxt.nxt,fun R hR=>?_⟩
  ·unfold I9;rw [if_neg (by decide),if_neg (by decide),if_pos (by decide),hs.nxt.exp (.inl rfl)];rfl
  ·exact W8 (.inl (by decide)) rfl rfl rfl
 | @rep a c ha hc=>exact B7k (.inr rfl) hd8 (by omega) ha (hB c hc) (hBh c hc) (by simpa using hs) hne
 | @ifs a c ha hc=>exact B7k (.inl rfl) hd8 (by omega) ha (hB c hc) (hBh c hc) (by simpa using hs) hne
 | @ife a c c2 ha hc hc2 =>
  have hs:At L s (wdT 0 :: (a++(c++(2,[101,108,115,101],0) :: (c2++rest)))):=by simpa using hs
  have ham:C1 L E s C0=0:=by rw [O1 hs.tk hs.ok];exact B1b (j:=0) (by decide)
  have hcb:=hB c hc;have hcb2:=hB c2 hc2;obtain ⟨q,rfl⟩:=hBh c hc;obtain ⟨q2,rfl⟩:=hBh c2 hc2;obtain ⟨e,s1,x1,x2,x3⟩:=hs.nxt.sx (E:=E) ha (Z8 (by decide));obtain ⟨t,s2,y1,y2,y3⟩:=hcb (d+1) s1 _ (by omega) x2;have he:isR L E s2 [101,108,115,101]=true:=by rw [U8 y2.tk y2.ok];rfl
  have hi:isR L E (A7 s2) [105,102]=false:=by rw [U8 y2.nxt.tk y2.nxt.ok];rfl
  obtain ⟨o,s3,z1,z2,z3⟩:=hcb2 (d+1) (A7 s2) rest (by omega) y2.nxt;exact ⟨_,s3,L3.els hl ham x1 y1 he (A5c.blk hi z1),z2,fun R hR=>W8 (.inl (by decide)) (B4x hR x3 rfl) (y3 R hR) (z3 R hR)⟩
 | @ifi a c a2 c2 ha hc ha2 hc2 =>
  have hb3:=hb2 c hc;have hs:At L s (wdT 0 :: (a++(c++(2,[101,108,115,101],0) :: wdT 0 :: (a2++(c2++rest))))):=by simpa using hs
  have ham:C1 L E s C0=0:=by rw [O1 hs.tk hs.ok];exact B1b (j:=0) (by decide)
  have hcb:=hB c hc;obtain ⟨q,rfl⟩:=hBh c hc;obtain ⟨e,s1,x1,x2,x3⟩:=hs.nxt.sx (E:=E) ha (Z8 (by decide));obtain ⟨t,s2,y1,y2,y3⟩:=hcb (d+1) s1 _ (by omega) x2;have he:isR L E s2 [101,108,115,101]=true:=by rw [U8 y2.tk y2.ok];rfl
  have hi:isR L E (A7 s2) [105,102]=true:=by rw [U8 y2.nxt.tk y2.nxt.ok];rfl
  obtain ⟨x,s3,z1,z2,z3⟩:=B7k (E:=E) (j:=0) (d:=d+1) (.inl rfl) (by omega) (by omega) ha2 (hB c2 hc2) (hBh c2 hc2) y2.nxt hne;exact ⟨_,s3,L3.els hl ham x1 y1 he (A5c.iff hi z1),z2,fun R hR=>W8 (.inl (by decide)) (B4x hR x3 rfl) (y3 R hR) (by rw [erB,z3 R hR,erB];rfl)⟩
theorem B9e {B:List T3->Prop} {ts:List T3} (h:GS Nm B ts):∃ t q,ts=t :: q/\(0<=N5 t C0\/t.1=1)/\((t.1 == 5 || t.1 == 2) && t.2.1 == [125])=false/\((t.1 == 5 || t.1 == 2) && t.2.1 == [101,108,115,101])=false:=by
 have hw:∀ j,j<18->(0<=N5 (wdT j) C0\/(wdT j).1=1)/\(((wdT j).1 == 5 || (wdT j).1 == 2) && (wdT j).2.1 == [125])=false/\(((wdT j).1 == 5 || (wdT j).1 == 2) && (wdT j).2.1 == [101,108,115,101])=false:=by decide
 cases h with
 | set=>exact ⟨_,_,rfl,.inr rfl,rfl,rfl⟩
 | @name j k n hj _ =>
  have hjj:j<18:=by
   simp only [B0d,A1D,Prod.mk.injEq,A2F,or_false] at hj;omega
  exact ⟨_,_,rfl,hw j hjj⟩
 | score=>exact ⟨_,_,rfl,hw 2 (by decide)⟩
 | @arg j k n a hj _ _ =>
  have hjj:j<18:=by
   simp only [A1D,Prod.mk.injEq,A2F,or_false] at hj;omega
  exact ⟨_,_,rfl,hw j hjj⟩
 | blink=>exact ⟨_,_,rfl,hw 7 (by decide)⟩
 | text=>exact ⟨_,_,rfl,hw 16 (by decide)⟩
 | consume=>exact ⟨_,_,rfl,hw 17 (by decide)⟩
 | rep=>exact ⟨_,_,rfl,hw 1 (by decide)⟩
 | ifs=>exact ⟨_,_,rfl,hw 0 (by decide)⟩
 | ife=>exact ⟨_,_,rfl,hw 0 (by decide)⟩
 | ifi=>exact ⟨_,_,rfl,hw 0 (by decide)⟩
theorem C7c {B:List T3->Prop} {b:Int} (hS:∀ ts,GS Nm B ts->D1d L E Nm b ts) {d:Int} (hd:d+b<=8) (rest:List T3):∀ (ls:List (List T3)) (acc:List St) (s:Rd),acc.length+ls.length<=64->(∀ x∈ls,GS Nm B x) ->
  At L s (ls.flatten++sgT [125] :: rest)->∃ x s1,V7 L E d acc s (x,s1)/\At L s1 rest/\∀ R,A9h Nm R->erB R acc=none->erB R x=none
 | [],acc,s,hl,hx,hs=>by
  have hs:At L s (sgT [125] :: rest):=hs;have hi:isR L E s [125]=true:=by rw [U8 hs.tk hs.ok];rfl
  refine ⟨acc,A7 s,?_,hs.nxt,fun R _ h=>h⟩;have:=V7.stop (L:=L) (E:=E) (d:=d) (l:=acc) (s:=s) (by rw [hi];simp);rw [hs.exp (.inl rfl)] at this;exact this
 | y :: ls,acc,s,hl,hx,hs=>by
  have hy:=hx y A0N;obtain ⟨t,q,e,h1,h2,h3⟩:=B9e hy;have hs:At L s (y++(ls.flatten++sgT [125] :: rest)):=by simpa using hs
  have hs0:At L s (t :: (q++(ls.flatten++sgT [125] :: rest))):=by rw [e] at hs;exact hs
  have hi:isR L E s [125]=false:=by rw [U8 hs0.tk hs0.ok];exact h2
  have hg:¬ (C1 L E s C0<0/\I0 L E s 1=false):=by
   rw [O1 hs0.tk hs0.ok,A8q hs0.tk hs0.ok];rintro ⟨a1,a2⟩;rcases h1 with h1|h1
   ·omega
   ·rw [h1] at a2;cases a2
  have hlm:C4 L E s ((acc.length:Int)+1) 64 9=s:=A3s (by simp only [A0E] at hl;omega);have hne:B2w (ls.flatten++sgT [125] :: rest):=by
   intro t' q' e';cases ls with
   | nil=>injection e' with e1 e2;subst e1;rfl
   | cons z ls =>
    obtain ⟨t2,q2,e2, -, -,h5⟩:=B9e (hx z (A0M _ A0N));rw [A1H,e2] at e';injection e' with e1 e3;subst e1;exact h5
  obtain ⟨x,s1,x1,x2,x3⟩:=hS y hy d s _ hd hs hne;obtain ⟨r,s2,y1,y2,y3⟩:=C7c hS hd rest ls (acc++[x]) s1 (by simp only [A0E,A0A,A0F] at hl ⊢;omega) (fun z hz=>hx z (A0M _ hz)) x2;refine ⟨r,s2,V7.more ⟨hs.ok,hi⟩ hg (by rw [hlm];exact x1) y1,y2,fun R hR ha=>y3 R hR ?_⟩;rw [B9g,ha,erB,x3 R hR,erB];rfl
theorem D2g {B:List T3->Prop} {b:Int} (hS:∀ ts,GS Nm B ts->D1d L E Nm b ts) {ts:List T3} (h:GB (GS Nm B) ts):C7p L E Nm b ts:=by
 obtain ⟨ls,hl,hx,rfl⟩:=h;intro d s rest hd hs;have hs:At L s (sgT [123] :: (ls.flatten++sgT [125] :: rest)):=by simpa using hs
 obtain ⟨x,s1,x1,x2,x3⟩:=C7c hS hd rest ls [] (A7 s) (by simpa using hl) hx hs.nxt;exact ⟨x,s1,A5d.mk (by rw [hs.exp (.inl rfl)];exact x1),x2,fun R hR=>x3 R hR rfl⟩
def GSd (Nm:Int->List UInt8->Prop):Nat->List T3->Prop
 | 0=>GS Nm fun _=>False
 | n+1=>GS Nm (GB (GSd Nm n))
theorem B4j (n:Nat):∃ B,GSd Nm n=GS Nm B:=by cases n<;>exact ⟨_,rfl⟩
theorem C5l:∀ (n:Nat) (ts:List T3),GSd Nm n ts->D1d L E Nm (2 * n) ts
 | 0,ts,h=>by
  have h0:GS Nm (fun _=>False) ts:=h;have:=D1x (L:=L) (E:=E) (b := -2) (A3K _) (fun _ h=>h.elim) (fun _ h=>h.elim) (fun _ h=>h.elim) h0;intro d s rest hd;exact this d s rest (by omega)
 | n+1,ts,h=>by
  have h1:GS Nm (GB (GSd Nm n)) ts:=h;have:=D1x (L:=L) (E:=E) (b:=2 * n) (by omega) (fun _ _=>by omega) (fun t ht=>by
   obtain ⟨B,e⟩:=B4j (Nm:=Nm) n;rw [e] at ht;exact D2g (fun q hq=>C5l n q (by rw [e];exact hq)) ht) (fun t ht=>by
   obtain ⟨ls, -, -,rfl⟩:=ht;exact ⟨_,rfl⟩) h1
  intro d s rest hd;exact this d s rest (by omega)
theorem D6d (n:Nat) {ts:List T3} (h:GB (GSd Nm n) ts):C7p L E Nm (2 * n) ts:=by
 obtain ⟨B,e⟩:=B4j (Nm:=Nm) n;rw [e] at h;exact D2g (fun q hq=>C5l n q (by rw [e];exact hq)) h
end
end Go.Pb
namespace Go.Pb
variable [Go.Sym.Tab]
open Go.Sym
abbrev D3:=Nat × List UInt8 × Int
def st4 (d:Dc):Int × List UInt8 × Int:=(d.kind,d.name,d.value)
def B2o (d:D3):List T3:=if d.1<6 then (if d.2.2<0 then [(5,[45],0),(3,[], -d.2.2)] else [(3,[],d.2.2)]) else []
def dT (d:D3):List T3:=(2,D2.getD d.1 [],0) :: (1,d.2.1,0) :: (B2o d++[(5,[59],0)])
def dWf (d:D3):Prop:=d.1<8/\(d.1<5->0<=d.2.2)/\(6<=d.1->d.2.2=0)
section
variable {L:List Tok} {E:Int}
theorem D6r {d:D3} {rest:List T3} {s:Rd} (hw:dWf d) (h:At L s (dT d++rest)):∃ s1,R0 L E (d.1:Int) s=(⟨1+(d.1:Int),d.2.1,d.2.2,(B5 L E s).pos⟩,s1)/\At L s1 rest:=by
 obtain ⟨k,n,v⟩:=d;obtain ⟨h1,h2,h3⟩:=hw;dsimp only at h1 h2 h3 ⊢;have h:At L s ((2,D2.getD k [],0) :: (1,n,0) :: (B2o (k,n,v)++(5,[59],0) :: rest)):=by simpa [dT] using h
 obtain ⟨t1,t2, -⟩:=h.nxt.take (E:=E);have g:=h.nxt.nxt;unfold R0;dsimp only;rw [t1];dsimp only;rw [t2];by_cases h6:k<6
 ·rw [if_pos (by omega)];by_cases hv:v<0
  ·have g2:At L (A7 (A7 s)) ((5,[45],0) :: (3,[], -v) :: (5,[59],0) :: rest):=by
    have e:B2o (k,n,v)=[(5,[45],0),(3,[], -v)]:=by unfold B2o;rw [if_pos h6,if_pos hv]
    rw [e] at g;exact g
   have hk:k=5:=by
    by_cases h5:k<5
    ·have:=h2 h5;omega
    ·omega
   subst hk;have hm:(((5:Nat):Int)+1 == 6 && isR L E (A7 (A7 s)) [45])=true:=by rw [U8 g2.tk g2.ok];rfl
   simp only [if_pos hm];obtain ⟨u1, -,u3⟩:=g2.nxt.take (E:=E);rw [u1];dsimp only;rw [u3,Int.neg_neg,g2.nxt.nxt.exp (.inl rfl)];exact ⟨_,rfl,g2.nxt.nxt.nxt⟩
  ·have g:At L (A7 (A7 s)) ((3,[],v) :: (5,[59],0) :: rest):=by
    have e:B2o (k,n,v)=[(3,[],v)]:=by unfold B2o;rw [if_pos h6,if_neg hv]
    rw [e] at g;exact g
   have hm:((k:Int)+1 == 6 && isR L E (A7 (A7 s)) [45])=false:=by rw [U8 g.tk g.ok];simp
   have hm2:¬ ((k:Int)+1 == 6 && isR L E (A7 (A7 s)) [45])=true:=by rw [hm];decide
   simp only [if_neg hm2];obtain ⟨u1, -,u3⟩:=g.take (E:=E);rw [u1];dsimp only;rw [u3,g.nxt.exp (.inl rfl)];exact ⟨_,rfl,g.nxt.nxt⟩
 ·rw [if_neg (by omega)];have g:At L (A7 (A7 s)) ((5,[59],0) :: rest):=by
   have e:B2o (k,n,v)=[]:=by unfold B2o;rw [if_neg h6]
   rw [e] at g;exact g
  rw [g.exp (.inl rfl),h3 (by omega)];exact ⟨_,rfl,g.nxt⟩
theorem D0t {k:Nat} (h:k<8):N5 (2,D2.getD k [],0) D2=k:=by
 have:∀ k,k<8->N5 (2,D2.getD k [],0) D2=k:=by decide
 exact this k h
theorem C3o (rest:List T3) (hr:∀ t q,rest=t :: q->N5 t D2 = -1):∀ (ds:List D3) (acc:List Dc) (s:Rd),acc.length+ds.length<=128->(∀ d∈ds,dWf d)->At L s ((ds.map dT).flatten++rest) ->
  ∃ l s1,Evt (fun f=>R9 L E f acc s) (acc++l,s1)/\At L s1 rest/\l.map st4=ds.map fun d=>(1+(d.1:Int),d.2.1,d.2.2)
 | [],acc,s,hl,hw,h=>by
  have h:At L s rest:=h;have ha:C1 L E s D2 = -1:=by
   cases rest with
   | nil=>exact B9p h.tk
   | cons t q=>rw [O1 h.tk h.ok];exact hr t q rfl
  refine ⟨[],s,Evt.one fun f=>?_,h,rfl⟩;rw [R9];dsimp only;rw [if_pos (by rw [ha];decide),A1E]
 | d :: ds,acc,s,hl,hw,h=>by
  have h:At L s (dT d++((ds.map dT).flatten++rest)):=by simpa using h
  have hd:=hw d A0N;have ha:C1 L E s D2=d.1:=by
   have h':At L s ((2,D2.getD d.1 [],0) :: (1,d.2.1,0) :: (B2o d++(5,[59],0) :: ((ds.map dT).flatten++rest))):=by simpa [dT] using h
   rw [O1 h'.tk h'.ok];exact D0t hd.1
  obtain ⟨s1,e1,h1⟩:=D6r (E:=E) hd h;obtain ⟨l,s2,g1,g2,g3⟩:=C3o rest hr ds (acc++[⟨1+(d.1:Int),d.2.1,d.2.2,(B5 L E s).pos⟩]) s1 (by simp only [A0E,A0A,A0F] at hl ⊢;omega) (fun x hx=>hw x (A0M _ hx)) h1;refine ⟨⟨1+(d.1:Int),d.2.1,d.2.2,(B5 L E s).pos⟩ :: l,s2,?_,g2,by rw [A0T,A0T,g3];rfl⟩;rw [show acc++⟨1+(d.1:Int),d.2.1,d.2.2,(B5 L E s).pos⟩ :: l=acc++[⟨1+(d.1:Int),d.2.1,d.2.2,(B5 L E s).pos⟩]++l by simp];refine g1.ext fun f hf=>?_;have hlm:C4 L E s ((acc.length:Int)+1) 128 9=s:=A3s (by simp only [A0E] at hl;omega);rw [R9];dsimp only;rw [ha,if_neg (by omega),hlm,if_pos h.ok,e1];exact hf
variable {Nm:Int->List UInt8->Prop}
abbrev H3:=Nat × List UInt8 × List T3
def hT (h:H3):List T3:=(2,[111,110],0) :: (2,E1.getD h.1 [],0) :: ((if 2<=h.1 then [(1,h.2.1,0)] else [])++h.2.2)
def hWf (L:List Tok) (E:Int) (Nm:Int->List UInt8->Prop) (h:H3):Prop:=h.1<6/\(h.1<2->h.2.1=[])/\C7p L E Nm 4 h.2.2
def st5 (h:Hd):Int × List UInt8:=(h.trig,h.name)
theorem C2c {k:Nat} (h:k<6):N5 (2,E1.getD k [],0) E1=k:=by
 have:∀ k,k<6->N5 (2,E1.getD k [],0) E1=k:=by decide
 exact this k h
theorem C4t (rest:List T3):∀ (hs:List H3) (acc:List Hd) (s:Rd),acc.length+hs.length<=32->(∀ h∈hs,hWf L E Nm h)->At L s ((hs.map hT).flatten++(5,[125],0) :: rest) ->
  ∃ l s1,Evt (fun f=>T8 L E f acc s) (acc++l,s1)/\At L s1 rest/\l.map st5=hs.map (fun h=>(1+(h.1:Int),h.2.1))/\∀ R,A9h Nm R->∀ h∈l,erB R h.body=none
 | [],acc,s,hl,hw,h=>by
  have h:At L s ((5,[125],0) :: rest):=h;have hi:isR L E s [125]=true:=by rw [U8 h.tk h.ok];rfl
  refine ⟨[],A7 s,Evt.one fun f=>?_,h.nxt,rfl,fun R _ x hx=>by cases hx⟩;rw [T8,if_neg (by rw [hi];simp),h.exp (.inl rfl),A1E]
 | (k,n,b) :: hs,acc,s,hl,hw,h=>by
  obtain ⟨hk,hn,hb⟩:=hw _ A0N;dsimp only at hk hn hb;have h:At L s ((2,[111,110],0) :: (2,E1.getD k [],0) :: ((if 2<=k then [(1,n,0)] else [])++(b++((hs.map hT).flatten++(5,[125],0) :: rest)))):=by simpa [hT] using h
  have hi:isR L E s [125]=false:=by rw [U8 h.tk h.ok];rfl
  have hon:isR L E s [111,110]=true:=by rw [U8 h.tk h.ok];rfl
  have hlm:C4 L E s ((acc.length:Int)+1) 32 9=s:=A3s (by simp only [A0E] at hl;omega);have he:D1 L E s [111,110]=A7 s:=h.exp (.inr rfl);have ha:C1 L E (A7 s) E1=k:=by rw [O1 h.nxt.tk h.nxt.ok];exact C2c hk
  have g:=h.nxt.nxt;obtain ⟨s4,hs4,g4⟩:∃ s4,((if 2<=(k:Int) then (B2 L E (A7 (A7 s)) 1).1.text else [])=n/\(if 2<=(k:Int) then (B2 L E (A7 (A7 s)) 1).2 else A7 (A7 s))=s4)/\At L s4 (b++((hs.map hT).flatten++(5,[125],0) :: rest)):=by
   by_cases h2:2<=k
   ·rw [if_pos h2] at g;obtain ⟨t1,t2, -⟩:=g.take (E:=E);rw [if_pos (by omega),if_pos (by omega),t1];exact ⟨_,⟨t2,rfl⟩,g.nxt⟩
   ·rw [if_neg h2] at g;rw [if_neg (by omega),if_neg (by omega)];exact ⟨_,⟨(hn (by omega)).symm,rfl⟩,g⟩
  obtain ⟨x,s5,x1,x2,x3⟩:=hb 1 s4 _ (by decide) g4;obtain ⟨l,s6,y1,y2,y3,y4⟩:=C4t rest hs (acc++[⟨1+(k:Int),n,x,(B5 L E s).pos⟩]) s5 (by simp only [A0E,A0A,A0F] at hl ⊢;omega) (fun z hz=>hw z (A0M _ hz)) x2;refine ⟨⟨1+(k:Int),n,x,(B5 L E s).pos⟩ :: l,s6,?_,y2,by rw [A0T,A0T,y3];rfl,fun R hR z hz=>?_⟩
  ·rw [show acc++⟨1+(k:Int),n,x,(B5 L E s).pos⟩ :: l=acc++[⟨1+(k:Int),n,x,(B5 L E s).pos⟩]++l by simp];refine x1.ext2 y1 fun f hx hy=>?_;rw [T8,if_pos ⟨h.ok,hi⟩,if_neg (by rw [hon];decide),hlm];dsimp only;rw [he,ha,if_neg (by omega),hs4.1,hs4.2,hx];exact hy
  ·rcases A1D.1 hz with rfl|hz
   ·exact x3 R hR
   ·exact y4 R hR z hz
abbrev M3:=List UInt8 × Int × List H3
def mT (m:M3):List T3:=(2,[109,111,100,101],0) :: (1,m.1,0) :: (3,[],m.2.1) :: (5,[123],0) :: ((m.2.2.map hT).flatten++[(5,[125],0)])
def E1e (Nm:Int->List UInt8->Prop) (m:M3) (x:Md):Prop:=x.name=m.1/\x.prio=m.2.1/\x.hds.map st5=m.2.2.map (fun h=>(1+(h.1:Int),h.2.1))/\∀ R,A9h Nm R->∀ h∈x.hds,erB R h.body=none
inductive MsOk (Nm:Int->List UInt8->Prop):List M3->List Md->Prop where
 | nil:MsOk Nm [] []
 | cons {m:M3} {x:Md} {ms:List M3} {l:List Md}:E1e Nm m x->MsOk Nm ms l->MsOk Nm (m :: ms) (x :: l)
def mWf (L:List Tok) (E:Int) (Nm:Int->List UInt8->Prop) (m:M3):Prop:=m.2.2.length<=32/\∀ h∈m.2.2,hWf L E Nm h
theorem D5e {m:M3} {rest:List T3} {s:Rd} (hw:mWf L E Nm m) (h:At L s (mT m++rest)):∃ x s1,Evt (fun f=>A2x L E f s) (x,s1)/\At L s1 rest/\E1e Nm m x:=by
 obtain ⟨n,p,hs⟩:=m;have h:At L s ((2,[109,111,100,101],0) :: (1,n,0) :: (3,[],p) :: (5,[123],0) :: ((hs.map hT).flatten++(5,[125],0) :: rest)):=by simpa [mT] using h
 have e1:D1 L E s [109,111,100,101]=A7 s:=h.exp (.inr rfl);obtain ⟨t1,t2, -⟩:=h.nxt.take (E:=E);obtain ⟨u1, -,u3⟩:=h.nxt.nxt.take (E:=E);have e2:=h.nxt.nxt.nxt.exp (E:=E) (.inl rfl);obtain ⟨l,s1,x1,x2,x3,x4⟩:=C4t (E:=E) rest hs [] _ (by simpa using hw.1) hw.2 h.nxt.nxt.nxt.nxt;refine ⟨⟨n,p,l,(B5 L E s).pos⟩,s1,x1.map fun f hf=>?_,x2,rfl,rfl,x3,x4⟩;unfold A2x;dsimp only;rw [e1,t1];dsimp only;rw [u1,t2];dsimp only;rw [u3,e2,hf];rfl
theorem C3m:∀ (ms:List M3) (acc:List Md) (s:Rd),acc.length+ms.length<=16->(∀ m∈ms,mWf L E Nm m)->At L s (ms.map mT).flatten ->
  ∃ l s1,Evt (fun f=>Q0 L E f acc s) (acc++l,s1)/\okR s1=true/\MsOk Nm ms l
 | [],acc,s,hl,hw,h=>by
  have hi:¬ s.i<L.length:=by
   have:=congrArg List.length h.tk;simp [Tk] at this;omega
  refine ⟨[],s,Evt.one fun f=>?_,h.ok,.nil⟩;rw [Q0,if_neg (fun h=>hi h.2),A1E]
 | m :: ms,acc,s,hl,hw,h=>by
  have h:At L s (mT m++(ms.map mT).flatten):=by simpa using h
  obtain ⟨x,s1,x1,x2,x3⟩:=D5e (E:=E) (hw m A0N) h;obtain ⟨l,s2,y1,y2,y3⟩:=C3m ms (acc++[x]) s1 (by simp only [A0E,A0A,A0F] at hl ⊢;omega) (fun z hz=>hw z (A0M _ hz)) x2;refine ⟨x :: l,s2,?_,y2,.cons x3 y3⟩;have hlm:C4 L E s ((acc.length:Int)+1) 16 9=s:=A3s (by simp only [A0E] at hl;omega);have h0:At L s ((2,[109,111,100,101],0) :: (1,m.1,0) :: (3,[],m.2.1) :: (5,[123],0) :: ((m.2.2.map hT).flatten++(5,[125],0) :: (ms.map mT).flatten)):=by simpa [mT] using h
  have hmd:isR L E s [109,111,100,101]=true:=by rw [U8 h0.tk h0.ok];rfl
  rw [show acc++x :: l=acc++[x]++l by simp];refine x1.ext2 y1 fun f hx hy=>?_;rw [Q0,if_pos ⟨h.ok,(A0i (E:=E) h0.tk).2.2⟩,if_neg (by rw [hmd];decide)];dsimp only;rw [hlm,if_pos h.ok,hx];exact hy
theorem D3q {ds:List D3} {ms:List M3} (hd:ds.length<=128) (hm:ms.length<=16) (hdw:∀ d∈ds,dWf d) (hmw:∀ m∈ms,mWf L E Nm m) (h:L.map st3=(ds.map dT).flatten++(ms.map mT).flatten) :
  ∃ D M s1,X7 L E=(⟨D,M⟩,s1)/\okR s1=true/\D.map st4=(ds.map fun d=>(1+(d.1:Int),d.2.1,d.2.2))/\MsOk Nm ms M:=by
 have h0:At L rd0 ((ds.map dT).flatten++(ms.map mT).flatten):=⟨rfl,by unfold Tk;exact h⟩;obtain ⟨D,s1,x1,x2,x3⟩:=C3o (E:=E) (ms.map mT).flatten (fun t q e=>by
  cases ms with
  | nil=>cases e
  | cons m ms =>
   have e':mT m++(ms.map mT).flatten=t :: q:=by simpa using e
   unfold mT at e';injection e' with e1 e2
   subst e1;decide) ds [] rd0 (by simpa using hd) hdw h0
 obtain ⟨M,s2,y1,y2,y3⟩:=C3m (E:=E) ms [] s1 (by simpa using hm) hmw x2;refine ⟨D,M,s2,(A3j L E).uniq (x1.map2 y1 fun f hx hy=>?_),y2,x3,y3⟩;unfold A4e;rw [hx];dsimp only;rw [List.nil_append,hy];rfl
end
end Go.Pb
namespace Go.Pb
variable [Go.Sym.Tab]
open Go.Sym
def A1t (v:Int):List D3:=[(0,[115,119,48],3),(0,[115,119,49],9),(0,[115,119,50],40),(0,[115,119,51],63),(1,[99,111,105,108,48],0),(1,[99,111,105,108,49],7),(1,[99,111,105,108,50],31),
 (2,[108,97,109,112,48],0),(2,[108,97,109,112,49],9),(2,[108,97,109,112,50],33),(2,[108,97,109,112,51],63),(3,[115,110,100,48],0),(3,[115,110,100,49],5),(4,[115,104,111,119,48],0),(4,[115,104,111,119,49],1),
 (5,[118,48],v),(5,[118,49],1),(5,[118,50],0),(6,[116,109,48],0),(6,[116,109,49],0),(7,[101,118,48],0),(7,[101,118,49],0)]
def A9o:List Int:=[0,5, -7,2147483647]
def A0v:List (List UInt8):=[[109,111,100,101,48],[109,111,100,101,49],[109,111,100,101,50]]
def A6l (v:Int):List (Int × List UInt8 × Int):=(A1t v).map fun d=>(1+(d.1:Int),d.2.1,d.2.2)
def NmM (k:Int) (n:List UInt8):Prop:=(k,n)∈((A6l 0).map fun q=>(q.1,q.2.1))++A0v.map fun n=>(9,n)
theorem C5t (D:List Dc) (n:List UInt8):(D.find? fun d=>d.name == n).map Dc.kind=((D.map st4).find? fun q=>q.2.1 == n).map (·.1):=by
 induction D with
 | nil=>rfl
 | cons d D ih =>
  rw [A0T,List.find?_cons,List.find?_cons];show Option.map Dc.kind (match d.name == n with|true=>some d|false=>D.find? fun d=>d.name == n)=Option.map (·.1) (match d.name == n with|true=>some (st4 d)|false=>(D.map st4).find? fun q=>q.2.1 == n);cases d.name == n
  ·exact ih
  ·rfl
theorem C2u {v:Int} {D:List Dc} {M:List Md} (hD:D.map st4=A6l v) (hM:M.map Md.name=A0v):A9h NmM ⟨D,M⟩:=by
 intro k n hn;rw [C4u,C5t,hD];have hM2:M.any (fun m=>m.name == n)=A0v.any fun x=>x == n:=by rw [<- hM,List.any_map];rfl
 rw [hM2];unfold NmM at hn;have key:∀ q∈((A6l 0).map fun q=>(q.1,q.2.1))++A0v.map (fun n=>((9:Int),n)),((((A6l v).find? fun x=>x.2.1 == q.2).map (·.1)).or (if (A0v.any fun x=>x == q.2)=true then some 9 else none)).getD 0=q.1:=by
  intro q hq;simp only [A6l,A1t,A0v,A0T,List.map_nil,List.cons_append,List.nil_append,A1D,A2F,or_false] at hq;rcases hq with rfl|rfl|rfl|rfl|rfl|rfl|rfl|rfl|rfl|rfl|rfl|rfl|rfl|rfl|rfl|rfl|rfl|rfl|rfl|rfl|rfl|rfl|rfl|rfl|rfl<;>rfl
 exact key (k,n) hn
theorem D0j {v:Int} (hv:v∈A9o) {D:List Dc} {M:List Md} (hD:D.map st4=A6l v) (hM:M.map Md.name=A0v) (hp:∀ m∈M,m.prio<=99):X2 D/\D5y D M:=by
 have h1:∀ v∈A9o, ∀ q∈A6l v,(1<=q.1/\q.1<=8)/\¬ q.2.2>A3r q.1:=by decide
 have h2:∀ v∈A9o,((A6l v).map (·.2.1)++A0v).Nodup:=by decide
 have hq:∀ d∈D,st4 d∈A6l v:=fun d hd=>by rw [<- hD];exact A4I hd
 have hn:D.map Dc.name=(A6l v).map (·.2.1):=by rw [<- hD,A2X];rfl
 refine ⟨?_,fun d hd=>(h1 v hv _ (hq d hd)).2,fun m hm h=>by have:=hp m hm;omega,?_⟩
 ·intro d hd;exact (h1 v hv _ (hq d hd)).1
 ·rw [hn,hM];exact h2 v hv
theorem C6d {R:Ru}:∀ (l pre:List Hd),((pre++l).map st5).Nodup->(∀ h∈l,(kdH h.trig=0\/(K2 R h.name).1=kdH h.trig)/\erB R h.body=none)->erH R pre l=none
 | [],pre,_,_=>rfl
 | h :: l,pre,hn,hl=>by
  obtain ⟨h1,h2⟩:=hl h A0N;have hn2:((pre++[h]++l).map st5).Nodup:=by simpa using hn
  have ih:=C6d l (pre++[h]) hn2 fun x hx=>hl x (A0M _ hx);have hp:(pre.any fun x=>x.trig == h.trig && x.name == h.name)=false:=by
   rw [A3M];intro ha;obtain ⟨x,hx,he⟩:=A4D.1 ha;simp only [A0G,A1K] at he;rw [A0P,A3V] at hn;refine hn.2.2 (st5 x) (A4I hx) (st5 h) (by simp) ?_;unfold st5;rw [he.1,he.2]
  rw [erH,A0c h1,h2,if_neg (by rw [hp];decide),ih];rfl
def D1e (hs:List H3):Prop:=(hs.map fun h=>(1+(h.1:Int),h.2.1)).Nodup/\∀ h∈hs,kdH (1+(h.1:Int))=0\/NmM (kdH (1+(h.1:Int))) h.2.1
theorem B8p:∀ {ms:List M3} {M:List Md},MsOk NmM ms M->M.map Md.name=ms.map (·.1)/\M.length=ms.length/\((∀ m∈ms,m.2.1<=99)->∀ x∈M,x.prio<=99)
 | _,_,.nil=>⟨rfl,rfl,fun _ x h=>by cases h⟩
 | m :: ms,x :: l,.cons h t=>by
  obtain ⟨h1,h2,h3⟩:=B8p t;refine ⟨by rw [A0T,A0T,h1,h.1],by rw [A0E,A0E,h2],fun hp y hy=>?_⟩;rcases A1D.1 hy with rfl|hy
  ·rw [h.2.1];exact hp m A0N
  ·exact h3 (fun z hz=>hp z (A0M _ hz)) y hy
theorem C4q {R:Ru} (hR:A9h NmM R):∀ {ms:List M3} {M:List Md},MsOk NmM ms M->(∀ m∈ms,D1e m.2.2)->∀ x∈M,erH R [] x.hds=none
 | _,_,.nil,_=>fun x h=>by cases h
 | m :: ms,x :: l,.cons h t,hh=>by
  intro y hy;rcases A1D.1 hy with rfl|hy
  ·obtain ⟨-, -,h3,h4⟩:=h;obtain ⟨g1,g2⟩:=hh m A0N;refine C6d y.hds [] (by rw [List.nil_append,h3];exact g1) fun z hz=>⟨?_,h4 R hR z hz⟩;have hm:st5 z∈m.2.2.map (fun h=>(1+(h.1:Int),h.2.1)):=by rw [<- h3];exact A4I hz
   obtain ⟨q,hq,e⟩:=A1L.1 hm;have e1:z.trig=1+(q.1:Int):=(congrArg (·.1) e).symm;have e2:z.name=q.2.1:=(congrArg (·.2) e).symm;rw [e1,e2];exact (g2 q hq).imp id fun h=>hR _ _ h
  ·exact C4q hR t (fun z hz=>hh z (A0M _ hz)) y hy
theorem C9m:∀ v∈A9o, ∀ d∈A1t v,dWf d:=by
 intro v hv d hd;have:∀ v∈A9o, ∀ d∈A1t v,d.1<8/\(d.1<5->0<=d.2.2)/\(6<=d.1->d.2.2=0):=by decide
 exact this v hv d hd
theorem C9q {s:List UInt8} {v:Int} {ms:List M3} (hv:v∈A9o) (hm:ms.map (·.1)=A0v) (hp:∀ m∈ms,m.2.1<=99) (hh:∀ m∈ms,D1e m.2.2) (hmw:∀ L E, ∀ m∈ms,mWf L E NmM m)
  (h:(F4 s).2.2=0->(F4 s).1.map st3=((A1t v).map dT).flatten++(ms.map mT).flatten) :
  C1i (O0 s).1=none/\((F4 s).2.2=0->(O0 s).2.2=0/\(O0 s).1.decls.map st4=A6l v/\(O0 s).1.modes.map Md.name=A0v):=by
 unfold O0;dsimp only;by_cases h0:(F4 s).2.2=0
 ·rw [if_neg (by simpa using h0)];have hl3:ms.length=3:=by have:=congrArg List.length hm;simpa [A0v] using this
  obtain ⟨D,M,s1,h1,h2,h3,h4⟩:=D3q (E:=s.length) (Nm:=NmM) (ds:=A1t v) (ms:=ms) (by show (22:Nat)<=128;decide) (by omega) (C9m v hv) (fun m hm=>hmw _ _ m hm) (h h0);obtain ⟨g1,g2,g3⟩:=B8p h4;rw [hm] at g1;have hs:=C2u (v:=v) (D:=D) (M:=M) h3 g1;obtain ⟨k1,k2⟩:=D0j hv (D:=D) (M:=M) h3 g1 (g3 hp);rw [h1];dsimp only;rw [if_neg (by rw [h2];decide)];refine ⟨?_,fun _=>⟨rfl,h3,g1⟩⟩;show (A6p ⟨D,M⟩).or (erM ⟨D,M⟩ M)=none;rw [(C5f k1).2 k2,B4r.2 (C4q hs h4 hh)];rfl
 ·rw [if_pos (by simpa using h0)];exact ⟨rfl,fun h=>absurd h h0⟩
end Go.Pb
namespace Go.Pb
variable [Go.Sym.Tab]
open Go.Sym
theorem Pc.up {p:List UInt8} {t:List T3} (h:Pc false p t) (b:Bool):Pc b p t:=fun r tr _ hr=>h r tr (fun e=>by cases e) hr
def dcS:Nat->List UInt8
 | 10=>[49,48]
 | 11=>[49,49]
 | n=>[A0x n]
theorem B9k {n:Nat} (h:n<12):Q9 (n:Int)=dcS n:=by
 by_cases h10:n<10
 ·rw [A7o (by omega) (by omega)];have e:S1 (n:Int)=n:=by unfold S1;omega
  rw [e];unfold dcS;split<;>first|omega|rfl
 ·have:n=10\/n=11:=by omega
  rw [B9j (by omega),A7o (by unfold V4;omega) (by unfold V4;omega)];rcases this with rfl|rfl<;>rfl
def nmB (k:Int) (n:List UInt8):Bool:=(((A6l 0).map fun q=>(q.1,q.2.1))++A0v.map fun n=>((9:Int),n)).any fun (q:Int × List UInt8)=>q.1 == k && q.2 == n
theorem C4m {k:Int} {n:List UInt8} (h:nmB k n=true):NmM k n:=by
 obtain ⟨q,h1,h2⟩:=A4D.1 h;simp only [A0G,A1K] at h2;unfold NmM;rw [<- h2.1, <- h2.2];exact h1
def A8o (b:Bool) (s:List UInt8) (ts:List T3):Bool:=A1k b 100 s == some ts
theorem B2e {b:Bool} {s:List UInt8} {ts:List T3} (h:A8o b s ts=true):A1k b 100 s=some ts:=by simpa [A8o] using h
theorem A4m {p:List UInt8} {n:Nat} {k:Int} (hn:n<=10) (h:∀ j,j<n->A8o true (p++dcS j) [(1,p++dcS j,0)]=true/\nmB k (p++dcS j)=true) (L:List UInt8) (i:Nat) (hn0:0<n) :
  Pc true (nmK L 0 p n i).1 [(1,(nmK L 0 p n i).1,0)]/\NmM k (nmK L 0 p n i).1:=by
 have e:(nmK L 0 p n i).1=p++dcS (nxK L n i).1:=by
  unfold nmK;dsimp only;rw [if_neg (by rintro ⟨h, -⟩;omega),if_neg (by omega)];have:=K7 L i hn0;rw [B9k (by omega)]
 obtain ⟨h1,h2⟩:=h _ (K7 L i hn0);rw [e];exact ⟨W6 _ _ _ (B2e h1),C4m h2⟩
theorem D8m (L:List UInt8) (i:Nat):Pc true (nmK L 0 [118] 3 i).1 [(1,(nmK L 0 [118] 3 i).1,0)]/\NmM 6 (nmK L 0 [118] 3 i).1:=A4m (by decide) (by decide) L i (by decide)
theorem C4j (L:List UInt8) (i:Nat):Pc true (nmK L 0 [116,109] 2 i).1 [(1,(nmK L 0 [116,109] 2 i).1,0)]/\NmM 7 (nmK L 0 [116,109] 2 i).1:=A4m (by decide) (by decide) L i (by decide)
theorem B1x (L:List UInt8) (i:Nat):Pc true (nmK L 0 [109,111,100,101] 3 i).1 [(1,(nmK L 0 [109,111,100,101] 3 i).1,0)]/\NmM 9 (nmK L 0 [109,111,100,101] 3 i).1:=A4m (by decide) (by decide) L i (by decide)
theorem D8n (L:List UInt8) (i:Nat):Pc true (nmK L 0 [115,119] 4 i).1 [(1,(nmK L 0 [115,119] 4 i).1,0)]/\NmM 1 (nmK L 0 [115,119] 4 i).1:=A4m (by decide) (by decide) L i (by decide)
theorem C9a (L:List UInt8) (i:Nat):Pc true (nmK L 0 [99,111,105,108] 3 i).1 [(1,(nmK L 0 [99,111,105,108] 3 i).1,0)]/\NmM 2 (nmK L 0 [99,111,105,108] 3 i).1:=A4m (by decide) (by decide) L i (by decide)
theorem B8m (L:List UInt8) (i:Nat):Pc true (nmK L 0 [108,97,109,112] 4 i).1 [(1,(nmK L 0 [108,97,109,112] 4 i).1,0)]/\NmM 3 (nmK L 0 [108,97,109,112] 4 i).1:=A4m (by decide) (by decide) L i (by decide)
theorem D8o (L:List UInt8) (i:Nat):Pc true (nmK L 0 [101,118] 2 i).1 [(1,(nmK L 0 [101,118] 2 i).1,0)]/\NmM 8 (nmK L 0 [101,118] 2 i).1:=A4m (by decide) (by decide) L i (by decide)
theorem D4t (L:List UInt8) (i:Nat):Pc true (nmK L 0 [115,110,100] 2 i).1 [(1,(nmK L 0 [115,110,100] 2 i).1,0)]/\NmM 4 (nmK L 0 [115,110,100] 2 i).1:=A4m (by decide) (by decide) L i (by decide)
theorem C8z (L:List UInt8) (i:Nat):Pc true (nmK L 0 [115,104,111,119] 2 i).1 [(1,(nmK L 0 [115,104,111,119] 2 i).1,0)]/\NmM 5 (nmK L 0 [115,104,111,119] 2 i).1:=A4m (by decide) (by decide) L i (by decide)
def XT (m:Int) (ty:Bool) (d c:Nat) (s:List UInt8):Prop:=∃ ts m' d' c',m<=m'/\d'<=d/\c'<=c/\GX NmM m' ty d' c' ts/\Pc true s ts/\∃ x q,s=x :: q/\x.toNat≠61
theorem XT.mono {m m2:Int} {ty:Bool} {d d2 c c2:Nat} {s:List UInt8} (h:XT m ty d c s) (hm:m2<=m) (hd:d<=d2) (hc:c<=c2):XT m2 ty d2 c2 s:=by
 obtain ⟨ts,m',d',c',h1,h2,h3,h4,h5,h6⟩:=h;exact ⟨ts,m',d',c',by omega,by omega,by omega,h4,h5,h6⟩
theorem XT.six {ty:Bool} {d c:Nat} {s:List UInt8} (h:XT 6 ty d c s):∃ ts d' c',d'<=d/\c'<=c/\GX NmM 6 ty d' c' ts/\Pc true s ts/\∃ x q,s=x :: q/\x.toNat≠61:=by
 obtain ⟨ts,m',d',c',h1,h2,h3,h4,h5,h6⟩:=h;obtain ⟨-,h7, -, -⟩:=C5k (L:=[]) (E:=0) h4;obtain rfl:m'=6:=by omega
 exact ⟨ts,d',c',h2,h3,h4,h5,h6⟩
theorem B0z {w n:List UInt8} {k:Nat} {nk:Int} {ty:Bool} (hk:(k,ty,nk)∈[(4,false,(1:Int)),(5,false,9),(6,true,7)]) (hw:A1k false 100 w=some [(2,F2.getD k [],0)]) (hh:∃ x q,w=x :: q/\x.toNat≠61)
  (hn:Pc true n [(1,n,0)]/\NmM nk n):XT 6 ty 0 1 (w++n):=by
 obtain ⟨x,q,rfl,hx⟩:=hh;exact ⟨_,6,0,1,by omega,by omega,by omega,.word1 hk hn.2,(W6 _ _ _ hw).pre hn.1,x,_,rfl,hx⟩
theorem B1a {w:List UInt8} {k:Nat} {ty:Bool} (hk:(k,ty)∈[(0,false),(1,false),(2,true),(3,true)]) (hw:A1k true 100 w=some [(2,F2.getD k [],0)]) (hh:∃ x q,w=x :: q/\x.toNat≠61):XT 6 ty 0 1 w :=
 ⟨_,6,0,1,by omega,by omega,by omega,.word0 hk,W6 _ _ _ hw,hh⟩
theorem C7e (L:List UInt8) (i:Nat):XT 6 false 0 1 (bl0 L 0 i).1:=by
 unfold bl0;dsimp only;split
 ·try dsimp only
  exact B1a (k:=0) (by decide) (by decide) ⟨_,_,rfl,by decide⟩
 ·split
  ·try dsimp only
   exact B1a (k:=1) (by decide) (by decide) ⟨_,_,rfl,by decide⟩
  ·split
   ·try dsimp only
    exact B0z (k:=5) (nk:=9) (by decide) (by decide) ⟨_,_,rfl,by decide⟩ (B1x L _)
   ·try dsimp only
    exact B0z (k:=4) (nk:=1) (by decide) (by decide) ⟨_,_,rfl,by decide⟩ (D8n L _)
theorem A7r {w:List UInt8} {v:Int} (hw:A1k true 100 w=some [(3,[],v)]) (hh:∃ x q,w=x :: q/\x.toNat≠61):XT 6 true 0 1 w :=
 ⟨_,6,0,1,by omega,by omega,by omega,.num,W6 _ _ _ hw,hh⟩
theorem D5t (L:List UInt8) (i:Nat):XT 6 true 0 1 (in1 L 0 i).1:=by
 unfold in1;dsimp only;split
 ·obtain ⟨h1,h2⟩:=D8m L (nxK L 7 i).2;refine ⟨_,6,0,1,by omega,by omega,by omega,.var h2,h1,?_⟩;unfold nmK;dsimp only;rw [if_neg (by rintro ⟨h, -⟩;omega)];exact ⟨_,_,rfl,by decide⟩
 ·split
  ·try dsimp only
   exact B1a (k:=2) (by decide) (by decide) ⟨_,_,rfl,by decide⟩
  ·split
   ·try dsimp only
    exact B1a (k:=3) (by decide) (by decide) ⟨_,_,rfl,by decide⟩
   ·split
    ·try dsimp only
     exact B0z (k:=6) (nk:=7) (by decide) (by decide) ⟨_,_,rfl,by decide⟩ (C4j L _)
    ·split
     ·have hlt:=K7 L (n:=4) (nxK L 7 i).2 (by decide);generalize (nxK L 4 (nxK L 7 i).2).1=j at hlt;have:j=0\/j=1\/j=2\/j=3:=by omega
      rcases this with rfl|rfl|rfl|rfl
      ·try dsimp only
       exact A7r (v:=2147483647) (by decide) ⟨_,_,rfl,by decide⟩
      ·try dsimp only
       exact A7r (v:=1000000) (by decide) ⟨_,_,rfl,by decide⟩
      ·try dsimp only
       exact A7r (v:=65536) (by decide) ⟨_,_,rfl,by decide⟩
      ·try dsimp only
       exact A7r (v:=100000) (by decide) ⟨_,_,rfl,by decide⟩
     ·have hlt:=K7 L (n:=12) (nxK L 7 i).2 (by decide);generalize (nxK L 12 (nxK L 7 i).2).1=j at hlt;rw [B9k hlt];have h1:∀ j,j<12->A8o true (dcS j) [(3,[],(j:Int))]=true/\(match dcS j with | []=>false|x :: _=>decide (x.toNat≠61))=true:=by decide
      obtain ⟨a,c⟩:=h1 j hlt;refine A7r (B2e a) ?_;cases hd:dcS j with
      | nil=>rw [hd] at c;cases c
      | cons x q=>rw [hd] at c;exact ⟨x,q,rfl,by simpa using c⟩
theorem D7l (L:List UInt8) (f g:Nat->Mk) (i:Nat):wlK L 0 f g i=g i:=by
 unfold wlK;dsimp only;rw [if_neg (by rintro ⟨h, -⟩;omega),if_neg (by omega)]
theorem B6u (L:List UInt8) (i:Nat):XT 6 true 0 1 (in0 L 0 i).1:=by unfold in0;rw [D7l];exact D5t L i
theorem D4n {a:List UInt8} {ts:List T3} (h:Pc true a ts):Pc false ([40]++a++[41]) ((5,[40],0) :: (ts++[(5,[41],0)])):=by
 have h1:Pc false [40] [(5,[40],0)]:=A3o (by decide) (by decide) (by decide);have h2:Pc false [41] [(5,[41],0)]:=A3o (by decide) (by decide) (by decide);have:=h1.pre (h.lit (c:=41) (q:=[]) h2 (by decide));simpa using this
theorem B5k {k:Nat} {ta ty:Bool} {d c:Nat} {a b o:List UInt8} (hk:k<13) (hta:ta=decide (k<11)) (hty:ty=decide (k<5)) (ha:XT (B4 (12+(k:Int))+1) ta d c a) (hb:XT (B4 (12+(k:Int))+1) ta d c b)
  (ho:A1k false 100 (32 :: o)=some [(5,C5.getD k [],0)]):XT (B4 (12+(k:Int))) ty d (2 * c) (a++(32 :: o)++b):=by
 obtain ⟨ts,m1,d1,c1,h1,h2,h3,h4,h5,x,q,rfl,hx⟩:=ha;obtain ⟨ts2,m2,d2,c2,g1,g2,g3,g4,g5, -⟩:=hb;refine ⟨_,_,_,_,A3K _,?_,?_,.bin hk hta hty (by omega) (by omega) h4 g4,?_,x,_,rfl,hx⟩
 ·omega
 ·omega
 ·have:=(h5.lit (W6 _ _ _ ho) (by decide)).pre g5;simpa using this
theorem C1n {m:Int} {ty:Bool} {d c:Nat} {a:List UInt8} (h:XT m ty d c a):XT 6 ty (d+1) c ([40]++a++[41]):=by
 obtain ⟨ts,m1,d1,c1,h1,h2,h3,h4,h5, -⟩:=h;exact ⟨_,6,d1+1,c1,by omega,by omega,by omega,.par h4,(D4n h5).up true,40,_,rfl,by decide⟩
theorem B6w (L:List UInt8):∀ d,(∀ i,XT 6 true (d+1) (2 ^ d) (inK L 0 d i).1)/\(∀ i,XT 3 false (d+1) (2 ^ d) (blK L 0 d i).1)
 | 0=>⟨fun i=>by rw [inK];exact (B6u L i).mono (by omega) (by omega) (by omega),fun i=>by rw [blK];exact (C7e L i).mono (by omega) (by omega) (by omega)⟩
 | d+1=>by
  obtain ⟨h1,h2⟩:=B6w L d;have hp:1<=2 ^ d:=Nat.one_le_two_pow;have hp2:2 ^ (d+1)=2 * 2 ^ d:=by rw [Nat.pow_succ,Nat.mul_comm]
  refine ⟨fun i=>?_,fun i=>?_⟩
  ·rw [inK,D7l];dsimp only;split
   ·exact (B6u L _).mono (by omega) (by omega) (by omega)
   ·split
    ·obtain ⟨ts,d',c',g1,g2,g3,g4, -⟩:=(B6u L (nxK L 5 i).2).six;refine ⟨_,6,d'+1,c',by omega,by omega,by omega,.neg g3,?_,45,_,rfl,by decide⟩;have h3:Pc false [45] [(5,[45],0)]:=A3o (by decide) (by decide) (by decide);exact h3.pre g4
    ·have ha:=h1 (nxK L 5 i).2;have hb:=h1 (inK L 0 d (nxK L 5 i).2).2;have hlt:=K7 L (n:=5) (inK L 0 d (inK L 0 d (nxK L 5 i).2).2).2 (by decide);generalize (nxK L 5 (inK L 0 d (inK L 0 d (nxK L 5 i).2).2).2).1=o at hlt;have key:∀ k:Nat, ∀ op:List UInt8,k<5->A1k false 100 (32 :: (op++[32]))=some [(5,C5.getD k [],0)]->XT 6 true (d+1+1) (2 ^ (d+1)) (((((([40]++(inK L 0 d (nxK L 5 i).2).1)++[32])++op)++[32])++(inK L 0 d (inK L 0 d (nxK L 5 i).2).2).1)++[41]):=by
      intro k op hk ho;have hl:=C4f (k:=k) (by omega);have:=C1n (B5k (k:=k) (ta:=true) (ty:=true) (by omega) (by simp;omega) (by simp;omega) (ha.mono (by omega) (A0H _) (A0H _)) (hb.mono (by omega) (A0H _) (A0H _)) ho);rw [hp2];simpa using this
     have:o=0\/o=1\/o=2\/o=3\/o=4:=by omega
     rcases this with rfl|rfl|rfl|rfl|rfl
     ·exact key 3 [43] (by decide) (by decide)
     ·exact key 4 [45] (by decide) (by decide)
     ·exact key 0 [42] (by decide) (by decide)
     ·exact key 1 [47] (by decide) (by decide)
     ·exact key 2 [37] (by decide) (by decide)
  ·rw [blK];dsimp only;have key:∀ (k:Nat) (a b o:List UInt8),(k=11\/k=12)->XT 3 false (d+1) (2 ^ d) a->XT 3 false (d+1) (2 ^ d) b->A1k false 100 (32 :: o)=some [(5,C5.getD k [],0)]->XT 3 false (d+1+1) (2 ^ (d+1)) (((([40]++a)++(32 :: o))++b)++[41]):=by
    intro k a b o hk ha hb ho;have hl:B4 (12+(k:Int))<=2:=by rcases hk with rfl|rfl<;>decide
    have:=C1n (B5k (k:=k) (ta:=false) (ty:=false) (by omega) (by rcases hk with rfl|rfl<;>rfl) (by rcases hk with rfl|rfl<;>rfl) (ha.mono (by omega) (A0H _) (A0H _)) (hb.mono (by omega) (A0H _) (A0H _)) ho);rw [hp2];refine XT.mono ?_ (show (3:Int)<=6 by omega) (A0H _) (A0H _);simpa using this
   split
   ·obtain ⟨ts,d',c',g1,g2,g3,g4,x,q,e,hx⟩:=(C7e L (nxK L 6 i).2).six;refine ⟨_,6,d'+1,c',by omega,by omega,by omega,.not g3,?_,33,_,rfl,by decide⟩;rw [e] at g4 ⊢;exact D4o g4 hx
   ·split
    ·exact key 11 _ _ _ (.inl rfl) (h2 _) (h2 _) (by decide)
    ·split
     ·exact key 12 _ _ _ (.inr rfl) (h2 _) (h2 _) (by decide)
     ·have ha:=h1 (nxK L 6 i).2;have hlt:=K7 L (n:=6) (inK L 0 d (nxK L 6 i).2).2 (by decide);have hb:=h1 (nxK L 6 (inK L 0 d (nxK L 6 i).2).2).2;generalize (nxK L 6 (inK L 0 d (nxK L 6 i).2).2).2=j at hb ⊢;generalize (nxK L 6 (inK L 0 d (nxK L 6 i).2).2).1=o at hlt ⊢;have kc:∀ k:Nat, ∀ op:List UInt8,5<=k->k<11->B4 (12+(k:Int))=3->A1k false 100 (32 :: (op++[32]))=some [(5,C5.getD k [],0)]->XT 3 false (d+1+1) (2 ^ (d+1)) (((((inK L 0 d (nxK L 6 i).2).1++[32])++op)++[32])++(inK L 0 d j).1):=by
       intro k op hk hk2 hl ho;have:=B5k (k:=k) (ta:=true) (ty:=false) (by omega) (by simp;omega) (by simp;omega) (ha.mono (by omega) (A0H _) (A0H _)) (hb.mono (by omega) (A0H _) (A0H _)) ho;rw [hl] at this;rw [hp2];refine XT.mono ?_ (A3K 3) (show d+1<=d+1+1 by omega) (A0H _);simpa using this
      have:o=0\/o=1\/o=2\/o=3\/o=4\/o=5:=by omega
      rcases this with rfl|rfl|rfl|rfl|rfl|rfl
      ·exact kc 5 [60] (by decide) (by decide) (by decide) (by decide)
      ·exact kc 6 [60,61] (by decide) (by decide) (by decide) (by decide)
      ·exact kc 7 [62] (by decide) (by decide) (by decide) (by decide)
      ·exact kc 8 [62,61] (by decide) (by decide) (by decide) (by decide)
      ·exact kc 9 [61,61] (by decide) (by decide) (by decide) (by decide)
      ·exact kc 10 [33,61] (by decide) (by decide) (by decide) (by decide)
theorem XT.sx {m:Int} {ty:Bool} {d c:Nat} {s:List UInt8} (h:XT m ty d c s) (hd:d<=16) (hc:c<=32):∃ ts,SX NmM ty ts/\Pc true s ts:=by
 obtain ⟨ts,m1,d1,c1,h1,h2,h3,h4,h5, -⟩:=h;exact ⟨ts,⟨m1,d1,c1,by omega,by omega,h4⟩,h5⟩
end Go.Pb
namespace Go.Proofs.YtnmkkggfgdfmeaaGreatDoor
open Go.Eng (IC IOper DReg IFn B8)
open Go.Sym Go.Pb
theorem J0 {b:Bool} {w:List UInt8} {ts:List T3} (h:A8o b w ts=true):Pc b w ts:=W6 _ _ _ (B2e h)
theorem Y8 {b:Bool} {c:UInt8} {p:List UInt8} {t:List T3} (hc:Z6 c=true) (h:Pc b p t):Pc b (c :: p) t:=fun r tr hb hr=>C7m hc (h r tr hb hr)
theorem A9l:Pc false [59] [(5,[59],0)]:=A3o (by decide) (by decide) (by decide)
theorem D1l:Pc false [123] [(5,[123],0)]:=A3o (by decide) (by decide) (by decide)
theorem D1k:Pc false [125] [(5,[125],0)]:=A3o (by decide) (by decide) (by decide)
theorem A1u {L:List UInt8} {d:Nat} {s:List UInt8} (hd:d<=3) (h:InS L 0 d s):∃ ts,SX NmM true ts/\Pc true s ts:=by
 obtain ⟨i, -,rfl⟩:=h;have hp:∀ d,d<=3->2 ^ d<=32:=by decide
 exact ((B6w L d).1 i).sx (by omega) (hp d hd)
theorem B2p {L:List UInt8} {d:Nat} {s:List UInt8} (hd:d<=3) (h:BlS L 0 d s):∃ ts,SX NmM false ts/\Pc true s ts:=by
 obtain ⟨i, -,rfl⟩:=h;have hp:∀ d,d<=3->2 ^ d<=32:=by decide
 exact ((B6w L d).2 i).sx (by omega) (hp d hd)
theorem C2s {L:List UInt8} {K:List UInt8->Prop} {B:List T3->Prop} (hK:∀ x,K x->∃ ts,B ts/\Pc false x ts) {s:List UInt8} (h:StG L 0 K s):∃ ts,GS NmM B ts/\Pc false s ts:=by
 cases h with
 | @ifA b x hb hx =>
  obtain ⟨tb,b1,b2⟩:=B2p (by decide) hb;obtain ⟨tx,x1,x2⟩:=hK x hx;have l1:Pc false [105,102,32] [wdT 0]:=J0 (by decide);have:=l1.pre (b2.lit (c:=32) (q:=x) (Y8 (by decide) x2) (by decide));exact ⟨_,.ifs b1 x1,by simpa using this⟩
 | @ifB b x y hb hx hy =>
  obtain ⟨tb,b1,b2⟩:=B2p (by decide) hb;obtain ⟨tx,x1,x2⟩:=hK x hx;obtain ⟨ty,y1,y2⟩:=hK y hy;have l1:Pc false [105,102,32] [wdT 0]:=J0 (by decide);have l2:Pc false [32,101,108,115,101,32] [(2,[101,108,115,101],0)]:=J0 (by decide);have:=l1.pre (b2.lit (c:=32) (Y8 (by decide) (x2.pre (l2.pre y2))) (by decide));exact ⟨_,.ife b1 x1 y1,by simpa using this⟩
 | @ifC b x c y hb hx hc hy =>
  obtain ⟨tb,b1,b2⟩:=B2p (by decide) hb;obtain ⟨tx,x1,x2⟩:=hK x hx;obtain ⟨tc,c1,c2⟩:=B2p (by decide) hc;obtain ⟨ty,y1,y2⟩:=hK y hy;have l1:Pc false [105,102,32] [wdT 0]:=J0 (by decide);have l2:Pc false [32,101,108,115,101,32,105,102,32] [(2,[101,108,115,101],0),wdT 0]:=J0 (by decide);have:=l1.pre (b2.lit (c:=32) (Y8 (by decide) (x2.pre (l2.pre (c2.lit (c:=32) (q:=y) (Y8 (by decide) y2) (by decide))))) (by decide));exact ⟨_,.ifi b1 x1 c1 y1,by simpa using this⟩
 | @rep e x he hx =>
  obtain ⟨te,e1,e2⟩:=A1u (by decide) he;obtain ⟨tx,x1,x2⟩:=hK x hx;have l1:Pc false [114,101,112,101,97,116,32] [wdT 1]:=J0 (by decide);have:=l1.pre (e2.lit (c:=32) (q:=x) (Y8 (by decide) x2) (by decide));exact ⟨_,.rep e1 x1,by simpa using this⟩
 | @sco e he =>
  obtain ⟨te,e1,e2⟩:=A1u (by decide) he;have l1:Pc false [115,99,111,114,101,32] [wdT 2]:=J0 (by decide);have:=l1.pre (e2.lit (q:=[]) A9l (by decide));exact ⟨_,.score e1,by simpa using this⟩
 | @fir k n hk hn =>
  obtain ⟨i, -,rfl⟩:=hn;obtain ⟨n1,n2⟩:=C9a L i;have hl:∀ k,k<3->A8o false (C5s.getD k []) [wdT (3+k)]=true/\(3+k,(2:Int))∈B0d:=by decide
  obtain ⟨h1,h2⟩:=hl k hk;have:=(J0 h1).pre (n1.lit (q:=[]) A9l (by decide));exact ⟨_,.name h2 n2,by simpa using this⟩
 | @lig n e hn he =>
  obtain ⟨i, -,rfl⟩:=hn;obtain ⟨n1,n2⟩:=B8m L i;obtain ⟨te,e1,e2⟩:=A1u (by decide) he;have l1:Pc false [108,105,103,104,116,32] [wdT 6]:=J0 (by decide);have:=l1.pre (n1.lit (c:=32) (Y8 (by decide) (e2.lit (q:=[]) A9l (by decide))) (by decide));exact ⟨_,.arg (j:=6) (k:=3) (by decide) n2 e1,by simpa using this⟩
 | @bli n e f hn he hf =>
  obtain ⟨i, -,rfl⟩:=hn;obtain ⟨n1,n2⟩:=B8m L i;obtain ⟨te,e1,e2⟩:=A1u (by decide) he;obtain ⟨tf,f1,f2⟩:=A1u (by decide) hf;have l1:Pc false [98,108,105,110,107,32] [wdT 7]:=J0 (by decide);have l2:Pc false [44,32] [(5,[44],0)]:=J0 (by decide);have:=l1.pre (n1.lit (c:=32) (Y8 (by decide) (e2.lit (c:=44) (q:=32 :: (f++[59])) (l2.pre (f2.lit (q:=[]) A9l (by decide))) (by decide))) (by decide));exact ⟨_,.blink n2 e1 f1,by simpa using this⟩
 | @sta n e hn he =>
  obtain ⟨i, -,rfl⟩:=hn;obtain ⟨n1,n2⟩:=C4j L i;obtain ⟨te,e1,e2⟩:=A1u (by decide) he;have l1:Pc false [115,116,97,114,116,32] [wdT 8]:=J0 (by decide);have:=l1.pre (n1.lit (c:=32) (Y8 (by decide) (e2.lit (q:=[]) A9l (by decide))) (by decide));exact ⟨_,.arg (j:=8) (k:=7) (by decide) n2 e1,by simpa using this⟩
 | @one q n hq hn =>
  obtain ⟨i, -,rfl⟩:=hn;have key:∀ (j:Nat) (k:Int),A8o false q.1 [wdT j]=true->(j,k)∈B0d->(Pc true (nmK L 0 q.2.1 q.2.2 i).1 [(1,(nmK L 0 q.2.1 q.2.2 i).1,0)]/\NmM k (nmK L 0 q.2.1 q.2.2 i).1)->∃ ts,GS NmM B ts/\Pc false ((q.1++(nmK L 0 q.2.1 q.2.2 i).1)++[59]) ts:=by
   rintro j k h1 h2 ⟨n1,n2⟩;have:=(J0 h1).pre (n1.lit (q:=[]) A9l (by decide));exact ⟨_,.name h2 n2,by simpa using this⟩
  simp only [B6i,A1D,A2F,or_false] at hq;rcases hq with rfl|rfl|rfl|rfl|rfl
  ·exact key 9 7 (by decide) (by decide) (C4j L i)
  ·exact key 10 9 (by decide) (by decide) (B1x L i)
  ·exact key 11 9 (by decide) (by decide) (B1x L i)
  ·exact key 12 8 (by decide) (by decide) (D8o L i)
  ·exact key 13 4 (by decide) (by decide) (D4t L i)
 | @run k n hk hn =>
  obtain ⟨i, -,rfl⟩:=hn;obtain ⟨n1,n2⟩:=C8z L i;have hl:∀ k,k<2->A8o false (C3k.getD k []) [wdT (14+k)]=true/\(14+k,(5:Int))∈B0d:=by decide
  obtain ⟨h1,h2⟩:=hl k hk;have:=(J0 h1).pre (n1.lit (q:=[]) A9l (by decide));exact ⟨_,.name h2 n2,by simpa using this⟩
 | @txt k e hk he =>
  obtain ⟨te,e1,e2⟩:=A1u (by decide) he;have hl:∀ k,k<4->A8o false (([116,101,120,116,32,34]++C2a.getD k [])++[34,44,32]) [wdT 16,(4,([[103,111],[106,97,99,107,112,111,116],[97,34,98],[]]:List (List UInt8)).getD k [],0),sgT [44]]=true:=by decide
  have:=(J0 (hl k hk)).pre (e2.lit (q:=[]) A9l (by decide));exact ⟨_,.text e1,by simpa using this⟩
 | con=>exact ⟨_,.consume,Pc.lit (p:=[99,111,110,115,117,109,101]) (q:=[]) (t:=[wdT 17]) (J0 (b:=true) (by decide)) A9l (by decide)⟩
 | @asg n e hn he =>
  obtain ⟨i, -,rfl⟩:=hn;obtain ⟨n1,n2⟩:=D8m L i;obtain ⟨te,e1,e2⟩:=A1u (by decide) he;have l1:Pc false [32,61,32] [sgT [61]]:=J0 (by decide);have:=n1.lit (c:=32) (q:=61 :: 32 :: (e++[59])) (l1.pre (e2.lit (q:=[]) A9l (by decide))) (by decide);exact ⟨_,.set n2 e1,by simpa using this⟩
theorem B4m {P:List UInt8->Prop} {G:List T3->Prop} (hP:∀ x,P x->∃ ts,G ts/\Pc false x ts):∀ (ss:List (List UInt8)) (acc:List UInt8) (ta:List T3),(∀ x∈ss,P x)->Pc false acc ta ->
  ∃ ls:List (List T3),ls.length=ss.length/\(∀ x∈ls,G x)/\Pc false (ss.foldl (fun a x=>(a++[32])++x) acc) (ta++ls.flatten)
 | [],acc,ta,_,h=>⟨[],rfl,(fun x hx=>by cases hx),by simpa using h⟩
 | x :: ss,acc,ta,hx,h=>by
  obtain ⟨ts,x1,x2⟩:=hP x (hx x A0N);have h2:Pc false ((acc++[32])++x) (ta++ts):=by
   have:=h.pre (Y8 (c:=32) (by decide) x2);simpa using this
  obtain ⟨ls,l1,l2,l3⟩:=B4m hP ss _ _ (fun y hy=>hx y (A0M _ hy)) h2;refine ⟨ts :: ls,by simp [l1],fun y hy=>?_,?_⟩
  ·rcases A1D.1 hy with rfl|hy
   ·exact x1
   ·exact l2 y hy
  ·rw [A4G,A1H, <- A0S];exact l3
theorem D2h {P:List UInt8->Prop} {G:List T3->Prop} (hP:∀ x,P x->∃ ts,G ts/\Pc false x ts) {x:List UInt8} (h:BkG P x):∃ ts,GB G ts/\Pc false x ts:=by
 obtain ⟨ss,h1,h2,rfl⟩:=h;obtain ⟨ls,l1,l2,l3⟩:=B4m hP ss [123] [sgT [123]] h2 D1l;have l4:Pc false [32,125] [sgT [125]]:=Y8 (by decide) D1k;have:=Pc.pre (p:=A1z ss) l3 l4;exact ⟨_,⟨ls,by omega,l2,rfl⟩,by simpa using this⟩
theorem C2t {L:List UInt8}:∀ (d:Nat) (x:List UInt8),StD L 0 d x->∃ ts,GSd NmM d ts/\Pc false x ts
 | 0,x,h=>C2s (K:=fun _=>False) (B:=fun _=>False) (fun _ h=>h.elim) h
 | d+1,x,h=>C2s (K:=BkG (StD L 0 d)) (B:=GB (GSd NmM d)) (fun y hy=>D2h (C2t d) hy) h
def trI:List (Nat × List UInt8):=[(0,[]),(1,[]),(2,[115,119,48]),(3,[115,119,48]),(2,[115,119,49]),(2,[115,119,50]),(4,[116,109,48]),(4,[116,109,49]),(5,[101,118,48]),(5,[101,118,49]),(3,[115,119,51])]
theorem D9l {L:List UInt8} {k:Nat} {x:List UInt8} (h:HdG L 0 k x):∃ b,(GB (GSd NmM 2) b)/\Pc false x (hT ((trI.getD (k % 11) (0,[])).1,(trI.getD (k % 11) (0,[])).2,b)):=by
 cases h with
 | wild h=>omega
 | @std y hy =>
  obtain ⟨b,b1,b2⟩:=D2h (C2t 2) hy;have hl:∀ j,j<11->A8o false (([111,110,32]++B9z.getD j [])++[32]) (hT ((trI.getD j (0,[])).1,(trI.getD j (0,[])).2,[]))=true:=by decide
  have:=(J0 (hl (k % 11) (A2T _ (by decide)))).pre b2;refine ⟨b,b1,?_⟩;simpa [hT] using this
theorem B4l {L:List UInt8}:∀ (hs:List (List UInt8)) (k:Nat) (acc:List UInt8) (ta:List T3),(∀ j x,hs[j]? = some x->HdG L 0 (k+j) x)->Pc false acc ta ->
  ∃ bs:List (List T3),bs.length=hs.length/\(∀ b∈bs,GB (GSd NmM 2) b)/\Pc false (Y3 acc hs) (ta++((bs.zipIdx.map fun q=>hT ((trI.getD ((k+q.2) % 11) (0,[])).1,(trI.getD ((k+q.2) % 11) (0,[])).2,q.1))).flatten)
 | [],k,acc,ta,_,h=>⟨[],rfl,(fun x hx=>by cases hx),by simpa [Y3] using h⟩
 | x :: hs,k,acc,ta,hx,h=>by
  obtain ⟨b,x1,x2⟩:=D9l (hx 0 x rfl);have l4:Pc false [10] []:=J0 (by decide);have h2:=(h.pre x2).pre l4;obtain ⟨bs,l1,l2,l3⟩:=B4l hs (k+1) _ _ (fun j y hy=>by have:=hx (j+1) y hy;rw [show k+1+j=k+(j+1) by omega];exact this) h2;refine ⟨b :: bs,by simp [l1],fun y hy=>?_,?_⟩
  ·rcases A1D.1 hy with rfl|hy
   ·exact x1
   ·exact l2 y hy
  ·have e:(b :: bs).zipIdx=(b,0) :: bs.zipIdx.map (fun q=>(q.1,q.2+1)):=by
    rw [List.zipIdx_cons,List.zipIdx_succ]
   rw [e,A0T,A1H,A2X];show Pc false (Y3 ((acc++x)++[10]) hs) _;have e2:(bs.zipIdx.map ((fun q:List T3 × Nat=>hT ((trI.getD ((k+q.2) % 11) (0,[])).1,(trI.getD ((k+q.2) % 11) (0,[])).2,q.1))∘fun q=>(q.1,q.2+1)))=bs.zipIdx.map fun q=>hT ((trI.getD ((k+1+q.2) % 11) (0,[])).1,(trI.getD ((k+1+q.2) % 11) (0,[])).2,q.1):=by
    apply A3R;intro q _;show hT ((trI.getD ((k+(q.2+1)) % 11) (0,[])).1,_,q.1)=_;rw [show k+(q.2+1)=k+1+q.2 by omega]
   rw [e2];simpa using l3
theorem D9j (k:Nat) (hk:k<11) (bs:List (List T3)) (hb:bs.length<=4):D1e (bs.zipIdx.map fun q=>((trI.getD ((k+q.2) % 11) (0,[])).1,(trI.getD ((k+q.2) % 11) (0,[])).2,q.1)):=by
 constructor
 ·rw [A2X];have e:(bs.zipIdx.map ((fun h:H3=>(1+(h.1:Int),h.2.1))∘fun q=>((trI.getD ((k+q.2) % 11) (0,[])).1,(trI.getD ((k+q.2) % 11) (0,[])).2,q.1)))=(bs.zipIdx.map Prod.snd).map fun j=>(1+((trI.getD ((k+j) % 11) (0,[])).1:Int),(trI.getD ((k+j) % 11) (0,[])).2):=by
   rw [A2X];rfl
  rw [e,List.zipIdx_map_snd];have:∀ k,k<11->∀ n,n<5->((List.range' 0 n).map fun j=>(1+((trI.getD ((k+j) % 11) (0,[])).1:Int),(trI.getD ((k+j) % 11) (0,[])).2)).Nodup:=by decide +kernel
  exact this k hk _ (by omega)
 ·intro h hh;obtain ⟨q, -,rfl⟩:=A1L.1 hh;have:∀ j,j<11->kdH (1+((trI.getD j (0,[])).1:Int))=0\/nmB (kdH (1+((trI.getD j (0,[])).1:Int))) (trI.getD j (0,[])).2=true:=by decide
  exact (this ((k+q.2) % 11) (A2T _ (by decide))).imp id C4m
theorem D7q {L:List UInt8} {i:Nat} {s:List UInt8} (h:RuP L 0 i s):i<=3->∃ v,v∈A9o/\∃ ms:List M3,ms.map (·.1)=A0v.take i/\(∀ m∈ms,m.2.1<=99)/\(∀ m∈ms,D1e m.2.2)/\(∀ L' E, ∀ m∈ms,mWf L' E NmM m) /\
  Pc false s (((A1t v).map dT).flatten++(ms.map mT).flatten):=by
 induction h with
 | @head k hk =>
  intro _;have hl:∀ k,k<4->k=2\/((A1k false 2000 (((ruA++ruB)++v0L.getD k [])++ruC) == some (((A1t (A9o.getD k 0)).map dT).flatten))=true/\A9o.getD k 0∈A9o):=by decide +kernel
  rcases hl k hk with rfl|⟨h1,h2⟩
  ·refine ⟨-7,by decide,[],rfl,(fun m hm=>by cases hm),(fun m hm=>by cases hm),(fun _ _ m hm=>by cases hm),?_⟩;have e1:(A1k false 2000 (ruA++ruB) == some ((((A1t (-7)).map dT).flatten).take 62))=true:=by decide +kernel
   have e2:(A1k false 2000 ([55]++ruC) == some ((((A1t (-7)).map dT).flatten).drop 63))=true:=by decide +kernel
   have e3:((((A1t (-7)).map dT).flatten).take 62++((5,[45],0) :: (((A1t (-7)).map dT).flatten).drop 63) == ((A1t (-7)).map dT).flatten)=true:=by decide +kernel
   have h45:Pc false [45] [(5,[45],0)]:=A3o (by decide) (by decide) (by decide);have:=(W6 _ _ _ (eq_of_beq e1)).pre (h45.pre (W6 _ _ _ (eq_of_beq e2)));have e4:=eq_of_beq e3;have e5:((ruA++ruB)++v0L.getD 2 [])++ruC=(ruA++ruB)++([45]++([55]++ruC)):=by
    rw [show v0L.getD 2 []=[45]++[55] from rfl];simp only [A0S]
   rw [e5];have e6:(((A1t (-7)).map dT).flatten).take 62++([(5,[45],0)]++(((A1t (-7)).map dT).flatten).drop 63)=((A1t (-7)).map dT).flatten:=e4;rw [e6] at this;simpa using this
  refine ⟨_,h2,[],rfl,(fun m hm=>by cases hm),(fun m hm=>by cases hm),(fun _ _ m hm=>by cases hm),?_⟩;have:=W6 _ _ _ (eq_of_beq h1);simpa using this
 | @mode i p k s hs hr hp hk hl hh ih =>
  intro hi;obtain ⟨v,hv,ms,m1,m2,m3,m4,m5⟩:=ih (by omega);have hl1:∀ i,i<3->∀ p,p<4->A8o false ((((([109,111,100,101,32,109,111,100,101])++dcS i)++[32])++dcS p)++[32]) [(2,[109,111,100,101],0),(1,A0v.getD i [],0),(3,[],(p:Int))]=true:=by decide +kernel
  have h1:=J0 (hl1 i (by omega) p hp);have hmd:Pc false (B2c s i p) ((((A1t v).map dT).flatten++(ms.map mT).flatten)++[(2,[109,111,100,101],0),(1,A0v.getD i [],0),(3,[],(p:Int)),(5,[123],0)]):=by
   have l4:Pc false [10] []:=J0 (by decide);have:=m5.pre (h1.pre (D1l.pre l4));unfold B2c;rw [B9k (by omega),B9k (by omega)];simpa using this
  obtain ⟨bs,b1,b2,b3⟩:=B4l hs k _ _ hh hmd;have l5:Pc false [125,10] [(5,[125],0)]:=D1k.pre (p':=[10]) (J0 (by decide));refine ⟨v,hv,ms++[(A0v.getD i [],(p:Int),bs.zipIdx.map fun q=>((trI.getD ((k+q.2) % 11) (0,[])).1,(trI.getD ((k+q.2) % 11) (0,[])).2,q.1))],?_,?_,?_,?_,?_⟩
  ·rw [A0P,m1,A0T,List.map_nil];have:∀ i,i<3->A0v.take i++[A0v.getD i []]=A0v.take (i+1):=by decide
   exact this i (by omega)
  ·intro m hm;rcases A1R.1 hm with hm|hm
   ·exact m2 m hm
   ·obtain rfl:=A1F.1 hm;show (p:Int)<=99;omega
  ·intro m hm;rcases A1R.1 hm with hm|hm
   ·exact m3 m hm
   ·obtain rfl:=A1F.1 hm;exact D9j k hk bs (by omega)
  ·intro L' E m hm;rcases A1R.1 hm with hm|hm
   ·exact m4 L' E m hm
   ·obtain rfl:=A1F.1 hm;refine ⟨by simp;omega,fun h hh=>?_⟩;obtain ⟨q,hq,rfl⟩:=A1L.1 hh;have hj:∀ j,j<11->(trI.getD j (0,[])).1<6/\((trI.getD j (0,[])).1<2->(trI.getD j (0,[])).2=[]):=by decide
    obtain ⟨j1,j2⟩:=hj ((k+q.2) % 11) (A2T _ (by decide));refine ⟨j1,j2,?_⟩;have hqb:q.1∈bs:=by
     have:q.1∈bs.zipIdx.map Prod.fst:=A4I hq
     rwa [List.zipIdx_map_fst] at this
    exact D6d 2 (b2 _ hqb)
  ·have:=b3.pre l5;rw [A0P,A4J];simpa [mT,A2X,Function.comp_def] using this
end Go.Proofs.YtnmkkggfgdfmeaaGreatDoor
namespace Go.Pb
variable [Go.Sym.Tab]
open Go.Sym
theorem B2y {α : Type} {F : α -> DV} {u:Nat} (h:∀ a,(F a).cells.length=u) (l:List α):unit u (l.map F)=true:=by
 unfold unit;rw [A0U];intro x hx;obtain ⟨a, -,rfl⟩:=A1L.1 hx;simp [h a]
end Go.Pb
namespace Go.Proofs.YtnmkkggfgdfmeaaGreatDoor
open Go.Eng (IC IOper DReg IFn B8)
open Go.Sym Go.Pb
theorem C0s {L s:List UInt8} (h:RuP L 0 3 s) (hl:s.length<=20000):0<(O0 s).1.decls.length/\0<(O0 s).1.modes.length/\(O0 s).1.decls.length<=128/\(O0 s).1.modes.length<=16:=by
 obtain ⟨v,hv,ms,m1,m2,m3,m4,m5⟩:=D7q h (A0H _);obtain ⟨-,h1,h2⟩:=(C9q hv (by rw [m1];rfl) m2 m3 m4 m5.toks).2 (m5.scan hl);have e1:(O0 s).1.decls.length=22:=by have:=congrArg List.length h1;rw [A0D] at this;exact this
 have e2:(O0 s).1.modes.length=3:=by have:=congrArg List.length h2;rw [A0D] at this;exact this
 omega
def D7g (n:Nat) (r:Ru):Prop:=0<r.decls.length/\0<r.modes.length/\r.decls.length<=128+n/\r.modes.length<=16/\r.sz<=2000000+20 * n
theorem D6u (D:List Dc) (h0:0<D.length) (hl:D.length<=1000) (H N:Hp) (c:Nat):apX H c 4 40 .snil (X9 N 4 (C8 D))=some (.slc c 0 D.length,H.upd c ⟨4,true,A3 (D.map Dc.v)⟩,c+1):=by
 rw [N9 (B2y (F:=Dc.v) (u:=4) (fun _=>rfl) D),A0D,B3r];exact A2k (by omega) (by omega) (by omega)
theorem C6w (D:List Md) (h0:0<D.length) (hl:D.length<=1000) (H N:Hp) (c:Nat):apX H c 4 56 .snil (X9 N 4 (D5 D))=some (.slc c 0 D.length,H.upd c ⟨4,true,A3 (D.map Md.v)⟩,c+1):=by
 rw [N9 (B2y (F:=Md.v) (u:=4) (fun _=>rfl) D),A0D,B3r];exact A2k (by omega) (by omega) (by omega)
theorem A6i {H:Hp} {c2 C n:Nat} {x:Int} {m:List UInt8} {D:List Dc} {V:DV} (hV:V.one=true) (h1:H c2=some ⟨0,true,[.slc C 0 n,V]⟩) (h2:H C=some ⟨4,true,A3 (D.map Dc.v)⟩) (hne:C≠c2) (hn:D.length=n) :
  GL H [.lst (bytesC m),.ptr c2 0,I64 x,.slc C 0 n] (nil.upd c2 ⟨0,true,[C8 D,V]⟩) [.lst (bytesC m),.ptr c2 0,I64 x,C8 D]:=by
 have hz:Fz C ⟨4,true,A3 (D.map Dc.v)⟩ (.slc C 0 n) (C8 D):=Q5 (u:=4) (by simp [hn]) (K8 D) ⟨[],by simp⟩;refine GL.frzT (id:=C) h2 rfl (fun j=>?_) (.cons _ _ _ _ (.same _) (.cons _ _ _ _ (.same _) (.cons _ _ _ _ (.same _) (.cons _ _ _ _ hz .nil))));by_cases e:j=c2
 ·subst e;exact .inr ⟨fun e=>hne e.symm,.inr ⟨_,_,h1,A0,rfl,rfl,.cons _ _ _ _ hz (.cons _ _ _ _ (.same _) .nil),fun d hd=>by
   rcases A1D.1 hd with rfl|hd
   ·rfl
   ·rw [A1F.1 hd];exact hV⟩⟩
 ·exact .inl (by rw [A2 e];rfl)
theorem D1t {H:Hp} {c2 C n Cm nm:Nat} {ds:List DV} {b:Blk} {M:List Md} (h1:H c2=some ⟨0,true,[.slc C 0 n,.slc Cm 0 nm]⟩) (h2:H Cm=some ⟨4,true,A3 (M.map Md.v)⟩) (h3:H C=some b) (hne:Cm≠c2) (hne2:Cm≠C) (hne3:C≠c2) (hn:M.length=nm) :
  GL H ds ((nil.upd c2 ⟨0,true,[.slc C 0 n,D5 M]⟩).upd C b) ds:=by
 have hz:Fz Cm ⟨4,true,A3 (M.map Md.v)⟩ (.slc Cm 0 nm) (D5 M):=Q5 (u:=4) (by simp [hn]) (V3 M) ⟨[],by simp⟩;refine GL.frzT (id:=Cm) h2 rfl (fun j=>?_) (FzL.refl _);by_cases e:j=c2
 ·subst e;exact .inr ⟨fun e=>hne e.symm,.inr ⟨⟨0,true,[.slc C 0 n,.slc Cm 0 nm]⟩,⟨0,true,[.slc C 0 n,D5 M]⟩,h1,by rw [A2 (fun e=>hne3 e.symm),A0],rfl,rfl,.cons _ _ _ _ (.same _) (.cons _ _ _ _ hz .nil),by simp [DV.one]⟩⟩
 ·by_cases e2:j=C
  ·subst e2;exact .inr ⟨fun e=>hne2 e.symm,.inl (by rw [A0,h3])⟩
  ·exact .inl (by rw [A2 e2,A2 e];rfl)
theorem N4 (m:List UInt8) (k c2 c:Nat) (hk:k<4) (hc:c2+1<=c) (D:List Dc) (M:List Md) (hz:Ru.sz ⟨D,M⟩<=2000000+20 * (k+1)) (hD:D.length<=128+(k+1)) (hM:M.length<=16) (hM0:0<M.length) :
  IW Tryz.prog 180 (pz Tryz.prog 5 (.i (.o (.i (.i (.i .h)))))) ⟨tm [(1,.lst (bytesC m)),(5,.ptr c2 0),(6,I64 (3 * k:Nat)),(8,C8 D)],nil.upd c2 ⟨0,true,[C8 D,D5 M]⟩,c⟩
   (bk 1 (sq Tryz.prog 180 (pz Tryz.prog 5 (.o (.i (.o (.o (.o (.o .h))))))) (lp (fun q:Nat × Ru=>[(1,.lst (bytesC m)),(5,.ptr c2 0),(6,I64 (3 * q.1:Nat))]) (fun q=>Sym.nil.upd c2 ⟨0,true,[C8 q.2.decls,D5 q.2.modes]⟩)
  (fun q c=>c2+1<=c/\q.1<=4/\q.2.sz<=2000000+20 * q.1/\(q.1<4->D7g q.1 q.2)) (fun q=>4-q.1) (4-k) (bk 0 (sq Tryz.prog 180 (pz Tryz.prog 5 (.i (.i (.o (.o (.o (.o .h))))))) (rt [Eng.RV.tmp 4] fun v H' x => ∃ H2,GL H' [v] H2 [DV.bool true])))))):=by
 have hs:=c_sane;have hck:=c_checks ⟨D,M⟩ (by omega);have hrv:∀ r:Ru,r.v=.agg [C8 r.decls,D5 r.modes]:=fun _=>rfl;rw [hrv] at hck;dsimp only at hck;have hw3:IntKind.i64.wrap (((3 * k:Nat):Int)+3)=((3 * (k+1):Nat):Int):=by rw [w64 (by omega) (by omega)];omega
 have m0:(((M.length:Nat):Int) == 0)=false:=beq_eq_false_iff_ne.2 (by omega);by_cases h0:D.length=0
 ·have d0:(((D.length:Nat):Int) == 0)=true:=by rw [h0];rfl
  repeat' ((with_reducible first|apply wr|refine cpc hck ?_|refine cpc hs ?_|fail)<;>try simp only [go_sem,seval,d0,m0,A0,A1,A0D])
  exact A6 rfl
 ·have d0:(((D.length:Nat):Int) == 0)=false:=beq_eq_false_iff_ne.2 (by omega);repeat' ((with_reducible apply wr)<;>try simp only [go_sem,seval,d0,m0,hw3,A0,A1,A0D])
  refine ⟨(k+1,⟨D,M⟩),by simp [C3,tm,Tm.upd],Sub.refl _,inv ⟨by omega,by omega,hz,fun _=>⟨by show 0<D.length;omega,hM0,by omega,hM,hz⟩⟩,by simp only;omega⟩
theorem C8c {D:List Dc} {M:List Md} {d:Dc} {n k:Nat} (h:Ru.sz ⟨D,M⟩<=2000000+20 * k) (hd:d.name.length<=10):Ru.sz ⟨D++[d],M⟩<=2000000+20 * (k+1):=by
 have h:(D.map Dc.sz).sum+(M.map Md.sz).sum<=2000000+20 * k:=h;show ((D++[d]).map Dc.sz).sum+(M.map Md.sz).sum<=_;rw [A0P,List.sum_append];have:([d].map Dc.sz).sum=1+d.name.length:=by simp [Dc.sz]
 omega
theorem C2q {A B:List Dc} {M:List Md} {d:Dc} {k:Nat} (h:Ru.sz ⟨A++d :: B,M⟩<=2000000+20 * k):Ru.sz ⟨A++B,M⟩<=2000000+20 * (k+1):=by
 have h:((A++d :: B).map Dc.sz).sum+(M.map Md.sz).sum<=2000000+20 * k:=h;show ((A++B).map Dc.sz).sum+(M.map Md.sz).sum<=_;rw [A0P,List.sum_append] at h ⊢;rw [A0T,A3F] at h;omega
theorem C2m {A B:List Dc} {M:List Md} {d d':Dc} {k:Nat} (h:Ru.sz ⟨A++d :: B,M⟩<=2000000+20 * k) (hd:d'.name.length<=d.name.length+10):Ru.sz ⟨A++d' :: B,M⟩<=2000000+20 * (k+1):=by
 have h:((A++d :: B).map Dc.sz).sum+(M.map Md.sz).sum<=2000000+20 * k:=h;show ((A++d' :: B).map Dc.sz).sum+(M.map Md.sz).sum<=_;rw [A0P,List.sum_append] at h ⊢;rw [A0T,A3F] at h ⊢;have e:d.sz=1+d.name.length:=rfl;have e':d'.sz=1+d'.name.length:=rfl;omega
theorem B7r {A B:List Md} {D:List Dc} {d d':Md} {k:Nat} (h:Ru.sz ⟨D,A++d :: B⟩<=2000000+20 * k) (hh:d'.hds=d.hds) (hd:d'.name.length<=d.name.length+10):Ru.sz ⟨D,A++d' :: B⟩<=2000000+20 * (k+1):=by
 have h:(D.map Dc.sz).sum+((A++d :: B).map Md.sz).sum<=2000000+20 * k:=h;show (D.map Dc.sz).sum+((A++d' :: B).map Md.sz).sum<=_;rw [A0P,List.sum_append] at h ⊢;rw [A0T,A3F] at h ⊢;have e:d.sz=1+d.name.length+(d.hds.map Hd.sz).sum:=rfl;have e':d'.sz=1+d'.name.length+(d'.hds.map Hd.sz).sum:=rfl;rw [hh] at e';omega
theorem A1o {α : Type} {D:List α} {K:Nat} (h:K<D.length):∃ A d B,D=A++d :: B/\A.length=K :=
 ⟨D.take K,D[K],D.drop (K+1),by rw [<- A1C h,A2H],by rw [A1A];omega⟩
theorem B7v {X Y l:List DV} {n i:Nat} (h:X.length=n) (x:DV):(X++(l++Y)).take (n+i)++[x]++(X++(l++Y)).drop (n+i+1)=X++((l++Y).take i++x :: (l++Y).drop (i+1)):=by
 subst h;rw [List.take_length_add_append,show X.length+i+1=X.length+(i+1) by omega,List.drop_length_add_append];simp
theorem c_CheckDecls (l:List UInt8) (hl:l.length<=9223372036854775807) (m:List UInt8) (hm:m.length<=9223372036854775807):PC Tryz.prog 5 [.lst (bytesC l),.lst (bytesC m)] (.bool true):=by
 have hs:=c_sane;refine PC.ofT A9 rfl (A0B rfl) (by simp [DV.nlL,DV.nl,C7a]) rfl ?_;repeat' ((with_reducible apply wr)<;>try simp only [go_sem,seval])
 refine AC.call (D6o l hl 0 _ _) ?_;rintro v' H' c2 ⟨s,hg,hsl,rfl,rfl⟩ hc2;have hz:=C8w s;obtain ⟨g1,g2,g3,g4⟩:=C0s hg hsl;clear hg;generalize (O0 s).1=r at hz g1 g2 g3 g4 ⊢;have hr0:D7g 0 r:=⟨g1,g2,by omega,by omega,by omega⟩;clear g1 g2 g3 g4 hz hsl;have hrv:∀ r:Ru,r.v=.agg [C8 r.decls,D5 r.modes]:=fun _=>rfl;rw [hrv];simp only [go_sem,seval,A0,A1];repeat' ((with_reducible apply wr)<;>try simp only [go_sem,seval,A0,A1])
 have hbl:(bytesC m).length=m.length:=by simp [bytesC]
 refine C2 (fun q:Nat × Ru=>[(1,.lst (bytesC m)),(5,.ptr c2 0),(6,I64 (3 * q.1:Nat))]) (fun q=>Sym.nil.upd c2 ⟨0,true,[C8 q.2.decls,D5 q.2.modes]⟩)
  (fun q c=>c2+1<=c/\q.1<=4/\q.2.sz<=2000000+20 * q.1/\(q.1<4->D7g q.1 q.2)) (fun q=>4-q.1) (0,r) (by simp [C3,tm,Tm.upd]) (Sub.refl _) ⟨by omega,by omega,by have:=hr0.2.2.2.2;omega,fun _=>hr0⟩ ?_
 rintro ⟨k,r⟩ c ⟨hc,hk,hz,hr⟩;dsimp only at hc hk hz hr ⊢;have hw2:IntKind.i64.wrap (((3 * k:Nat):Int)+2)=((3 * k+2:Nat):Int):=by rw [w64 (by omega) (by omega)];omega
 have hck:=c_checks r (by omega);rw [hrv] at hck;by_cases h1:3 * k+2<m.length
 ·have d1:decide (((3 * k+2:Nat):Int)<(m.length:Int))=true:=by simp;omega
  by_cases h2:k<4
  ·have d2:decide (((3 * k:Nat):Int)<12)=true:=by simp;omega
   obtain ⟨r1,r2,r3,r4,r5⟩:=hr h2;have hw1:IntKind.i64.wrap (((3 * k:Nat):Int)+1)=((3 * k+1:Nat):Int):=by rw [w64 (by omega) (by omega)];omega
   have hw3:IntKind.i64.wrap (((3 * k:Nat):Int)+3)=((3 * (k+1):Nat):Int):=by rw [w64 (by omega) (by omega)];omega
   have b0:=A0z (A0C (show 3 * k<m.length by omega));have b1:=A0z (A0C (show 3 * k+1<m.length by omega));have b2:=A0z (A0C h1);have x0:=(m[3 * k]'(by omega)).toNat_lt;have x1:=(m[3 * k+1]'(by omega)).toNat_lt;have x2:=(m[3 * k+2]'h1).toNat_lt;generalize m[3 * k]'(by omega)=a at b0 x0;generalize m[3 * k+1]'(by omega)=b at b1 x1;generalize m[3 * k+2]'h1=e at b2 x2;obtain ⟨D,M⟩:=r;dsimp only at r1 r2 r3 r4 r5 hck ⊢;have wa:IntKind.i64.wrap ((a.toNat:Nat):Int)=((a.toNat:Nat):Int):=w64 (by omega) (by omega);have ra:binR .rem (I64 (a.toNat:Int)) (I64 (D.length:Int))=some (I64 ((a.toNat % D.length:Nat):Int)):=by rw [U7 (by omega)];rfl
   have hK:=A2T a.toNat r1;generalize hKe:a.toNat % D.length=K at ra hK;have cd:=D6u D r1 (by omega);have hq6:binR .rem (.int .u8 (b.toNat:Int)) (.int .u8 6)=some (.int .u8 ((b.toNat % 6:Nat):Int)):=by rw [U7 (by decide)];rfl
   have hj6:=A2T b.toNat (show 0<6 by decide);generalize b.toNat % 6=j at hq6 hj6;have hcc:¬ c2=c+10:=by omega
   have hcc2:¬ c+10=c2:=by omega
   have he8:=A2T e.toNat (show 0<8 by decide);have e8:binR .rem (.int .u8 (e.toNat:Int)) (.int .u8 8)=some (.int .u8 ((e.toNat % 8:Nat):Int)):=by rw [U7 (by decide)];rfl
   have hw8:IntKind.i64.wrap ((e.toNat % 8:Nat):Int)=((e.toNat % 8:Nat):Int):=w64 (by omega) (by omega);have hw9:IntKind.i64.wrap (((e.toNat % 8:Nat):Int)+1)=((e.toNat % 8:Nat):Int)+1:=w64 (by omega) (by omega);have q8:binR .quo (.int .u8 (e.toNat:Int)) (.int .u8 8)=some (.int .u8 ((e.toNat / 8:Nat):Int)):=by
    rw [B8d (by decide)];have:((e.toNat:Nat):Int).tdiv 8=((e.toNat / 8:Nat):Int):=rfl;rw [this];have:IntKind.u8.wrap ((e.toNat / 8:Nat):Int)=((e.toNat / 8:Nat):Int):=by unfold IntKind.wrap;simp [IntKind.bits];omega
    rw [this]
   have q4:binR .rem (.int .u8 ((e.toNat / 8:Nat):Int)) (.int .u8 4)=some (.int .u8 ((e.toNat / 8 % 4:Nat):Int)):=by rw [U7 (by decide)];rfl
   have hq4:=A2T (e.toNat / 8) (show 0<4 by decide);have ia4:∀ (X q:Nat),q<4->I1 1 (.slc X 0 4) (.int .u8 (q:Int))=some (.ptr X q):=fun X q h=>by simp [I1];omega
   rcases (show j=0\/j=1\/j=2\/j=3\/j=4\/j=5 by omega) with rfl|rfl|rfl|rfl|rfl|rfl
   ·generalize hQ:e.toNat / 8 % 4=Q at q4 hq4;have iq:=fun X=>ia4 X Q hq4;have hld:∃ nm:List UInt8,([DV.str [115,119,48],DV.str [118,48],DV.str [110,101,119],DV.str [109,111,100,101,49]]:List DV)[Q]? = some (.str nm)/\nm.length<=5:=by
     rcases (show Q=0\/Q=1\/Q=2\/Q=3 by omega) with rfl|rfl|rfl|rfl<;>exact ⟨_,rfl,by decide⟩
    obtain ⟨nm,hld,hnm⟩:=hld;repeat' ((with_reducible apply wr)<;>try simp only [go_sem,seval,hbl,hw2,hw1,d1,d2,b0,b1,b2,wa,ra,A0,A1,cd,hq6,hcc,hcc2,e8,hw8,hw9,q8,q4,iq,hld,A0D])
    have ne0:=A1s c2 (c+10) (c+10+1+9) (c+10+1+20) (c+10+1+23) (by omega);simp only [go_sem,seval,ne0,A0,A1];rw [Z1 (by rw [B3 (u:=4) (K8 _),A0D]) (by omega) (by omega)];simp only [go_sem,seval,ne0,A0,A1];repeat' ((with_reducible first|refine G8 (p:=IW _ _ (pz Tryz.prog 5 (.i (.o (.i (.i (.i .h)))))) _ _) ?_|refine wr ?_|fail)<;>try simp only [go_sem,seval,ne0,A0,A1])
    unfold A2z;refine IW.keep [1,5,6,8] [.lst (bytesC m),.ptr c2 0,I64 (3 * k:Nat),C8 (D++[⟨((e.toNat % 8:Nat):Int)+1,nm,0,7⟩])] (A6i (V:=D5 M) rfl A0 (by rw [A2 (by omega),A0,A0P,B6];rfl) (by omega) (by simp)) ?_;simp only [A2D,A2N];exact N4 m k c2 _ h2 (by omega) _ M (C8c (n:=0) r5 (by show nm.length<=10;omega)) (by simp;omega) r4 r2
   ·obtain ⟨A,d,B,hD,hA⟩:=A1o hK;have hDl:D.length=K+1+B.length:=by rw [hD];simp;omega
    have wK:IntKind.i64.wrap ((K:Int)+1)=((K+1:Nat):Int):=by rw [w64 (by omega) (by omega)];omega
    have s1:∀ H X,A0o H 4 (.slc X 0 D.length) none (some (I64 (K:Int)))=some (.slc X 0 K):=fun H X=>by simp [A0o,boundOf];omega
    have hcl:(A3 (D.map Dc.v)).length=D.length * 4:=by rw [B3 (u:=4) (K8 _),A0D]
    have hcA:(A3 (A.map Dc.v)).length=K * 4:=by rw [B3 (u:=4) (K8 _),A0D,hA]
    have hcD:A3 (D.map Dc.v)=A3 (A.map Dc.v)++([I64 d.kind,.str d.name,I64 d.value,I64 d.pos]++A3 (B.map Dc.v)):=by
     rw [hD,A0P,B6];rfl
    by_cases hB:B.length=0
    ·have s2:∀ H X,A0o H 4 (.slc X 0 D.length) (some (I64 ((K+1:Nat):Int))) none=some (.lst []):=fun H X=>by
      have e1:boundOf D.length none=some D.length:=rfl;have e2:boundOf 0 (some (I64 ((K+1:Nat):Int)))=some (K+1):=by simp [boundOf];omega
      simp only [A0o,e1,e2];rw [if_pos ⟨A0H _,by omega⟩,if_neg (by omega),if_pos (by omega)]
     repeat' ((with_reducible apply wr)<;>try simp only [go_sem,seval,hbl,hw2,hw1,d1,d2,b0,b1,b2,wa,ra,A0,A1,cd,hq6,hcc,hcc2,wK,s1,s2,A0D])
     have eB:B=[]:=A1V hB;rw [show ∀ Q:Hp,X9 Q 4 (DV.lst [])=some (0,[]) from fun _=>rfl,B3r,B1l,A0,C7g (by rw [hcl];omega) (by omega) (by simp [maxLen];omega),show (A3 (D.map Dc.v)).take (K * 4)++[]=A3 (A.map Dc.v)++A3 (B.map Dc.v) by rw [hcD,List.take_left' hcA,eB];rfl];have ne0:=S0 c2 (c+10) (c+10+1+9) (by omega);simp only [go_sem,seval,ne0,A0,A1];repeat' ((with_reducible first|refine G8 (p:=IW _ _ (pz Tryz.prog 5 (.i (.o (.i (.i (.i .h)))))) _ _) ?_|refine wr ?_|fail)<;>try simp only [go_sem,seval,ne0,A0,A1])
     unfold A2z;refine IW.keep [1,5,6,8] [.lst (bytesC m),.ptr c2 0,I64 (3 * k:Nat),C8 (A++B)] (A6i (V:=D5 M) rfl A0 (by rw [A2 (by omega),A0,A0P,B6]) (by omega) (by simp;omega)) ?_;simp only [A2D,A2N];exact N4 m k c2 _ h2 (by omega) _ M (C2q (d:=d) (by rw [<- hD];exact r5)) (by rw [A0A];omega) r4 r2
    ·have s2:∀ (H:Hp) (X:Nat) (cs:List DV),A0o (H.upd X ⟨4,true,cs⟩) 4 (.slc X 0 D.length) (some (I64 ((K+1:Nat):Int))) none=some (.slc X ((K+1) * 4) B.length):=fun H X cs=>by
      have e1:boundOf D.length none=some D.length:=rfl;have e2:boundOf 0 (some (I64 ((K+1:Nat):Int)))=some (K+1):=by simp [boundOf];omega
      simp only [A0o,e1,e2];rw [if_pos ⟨A0H _,by omega⟩,if_neg (by omega),if_neg (by omega),A0];dsimp only;rw [if_pos (.inl rfl),A1J,show D.length-(K+1)=B.length by omega]
     repeat' ((with_reducible apply wr)<;>try simp only [go_sem,seval,hbl,hw2,hw1,d1,d2,b0,b1,b2,wa,ra,A0,A1,cd,hq6,hcc,hcc2,wK,s1,s2,A0D])
     have hcB:(A3 (B.map Dc.v)).length=B.length * 4:=by rw [B3 (u:=4) (K8 _),A0D]
     have e5:(A3 (D.map Dc.v)).drop ((K+1) * 4)=A3 (B.map Dc.v):=by
      rw [hcD,show (K+1) * 4=(A3 (A.map Dc.v)).length+4 by omega, <- A3A,List.drop_left];rfl
     rw [D2j (by rw [hcl];omega),e5,A0J (by omega),B3r,B1l,A0,C7g (by rw [hcl];omega) (by omega) (by simp [maxLen];omega),show (A3 (D.map Dc.v)).take (K * 4)=A3 (A.map Dc.v) by rw [hcD,List.take_left' hcA]];have ne0:=S0 c2 (c+10) (c+10+1+9) (by omega);simp only [go_sem,seval,ne0,A0,A1];repeat' ((with_reducible first|refine G8 (p:=IW _ _ (pz Tryz.prog 5 (.i (.o (.i (.i (.i .h)))))) _ _) ?_|refine wr ?_|fail)<;>try simp only [go_sem,seval,ne0,A0,A1])
     unfold A2z;refine IW.keep [1,5,6,8] [.lst (bytesC m),.ptr c2 0,I64 (3 * k:Nat),C8 (A++B)] (A6i (V:=D5 M) rfl A0 (by rw [A2 (by omega),A0,A0P,B6]) (by omega) (by simp;omega)) ?_;simp only [A2D,A2N];exact N4 m k c2 _ h2 (by omega) _ M (C2q (d:=d) (by rw [<- hD];exact r5)) (by rw [A0A];omega) r4 r2
   ·obtain ⟨A,d,B,hD,hA⟩:=A1o hK;have hDl:D.length=K+1+B.length:=by rw [hD];simp;omega
    have hcl:(A3 (D.map Dc.v)).length=D.length * 4:=by rw [B3 (u:=4) (K8 _),A0D]
    have hcA:(A3 (A.map Dc.v)).length=K * 4:=by rw [B3 (u:=4) (K8 _),A0D,hA]
    have hcD:A3 (D.map Dc.v)=A3 (A.map Dc.v)++([I64 d.kind,.str d.name,I64 d.value,I64 d.pos]++A3 (B.map Dc.v)):=by
     rw [hD,A0P,B6];rfl
    have iaD:∀ X,I1 4 (.slc X 0 D.length) (I64 (K:Int))=some (.ptr X (K * 4)):=fun X=>by simp [I1];omega
    have lk:(A3 (D.map Dc.v))[K * 4]? = some (I64 d.kind):=by
     rw [hcD,A2L (by omega),hcA,Nat.sub_self];rfl
    have e7:binR .rem (.int .u8 (e.toNat:Int)) (.int .u8 7)=some (.int .u8 ((e.toNat % 7:Nat):Int)):=by rw [U7 (by decide)];rfl
    have hq7:=A2T e.toNat (show 0<7 by decide);generalize e.toNat % 7=Q at e7 hq7;have ia7:∀ X,I1 1 (.slc X 0 7) (.int .u8 (Q:Int))=some (.ptr X Q):=fun X=>by simp [I1];omega
    have hld:∃ w:Int,([I64 0,I64 31,I64 32,I64 63,I64 64,I64 100,I64 2147483647]:List DV)[Q]? = some (I64 w):=by
     rcases (show Q=0\/Q=1\/Q=2\/Q=3\/Q=4\/Q=5\/Q=6 by omega) with rfl|rfl|rfl|rfl|rfl|rfl|rfl<;>exact ⟨_,rfl⟩
    obtain ⟨w,hld⟩:=hld;cases hk7:decide (d.kind<7) with
    | false =>
     repeat' ((with_reducible first|refine G8 (p:=IW _ _ (pz Tryz.prog 5 (.i (.o (.i (.i (.i .h)))))) _ _) ?_|refine wr ?_|fail)<;>try simp only [go_sem,seval,hbl,hw2,hw1,d1,d2,b0,b1,b2,wa,ra,A0,A1,cd,hq6,hcc,hcc2,iaD,lk,hk7,A0D])
     unfold A2z;refine IW.keep [1,5,6,8] [.lst (bytesC m),.ptr c2 0,I64 (3 * k:Nat),C8 D] (A6i (V:=D5 M) rfl A0 (by rw [A2 (by omega),A0]) (by omega) rfl) ?_;simp only [A2D,A2N];exact N4 m k c2 _ h2 (by omega) _ M (by omega) (by omega) r4 r2
    | true =>
     repeat' ((with_reducible apply wr)<;>try simp only [go_sem,seval,hbl,hw2,hw1,d1,d2,b0,b1,b2,wa,ra,A0,A1,cd,hq6,hcc,hcc2,iaD,lk,hk7,e7,ia7,hld,A0D])
     have ne0:=S0 c2 (c+10) (c+10+1) (by omega);simp only [go_sem,seval,ne0,A0,A1];rw [A5z (cs:=A3 (D.map Dc.v)) (off:=K * 4+2) (i:=1) (v:=I64 w) rfl (by rw [hcl];omega) rfl];simp only [go_sem,seval,ne0,A0,A1];repeat' ((with_reducible first|refine G8 (p:=IW _ _ (pz Tryz.prog 5 (.i (.o (.i (.i (.i .h)))))) _ _) ?_|refine wr ?_|fail)<;>try simp only [go_sem,seval,ne0,A0,A1])
     unfold A2z;have hset:(A3 (D.map Dc.v)).take (K * 4+2)++[I64 w]++(A3 (D.map Dc.v)).drop (K * 4+2+1)=A3 ((A++(⟨d.kind,d.name,w,d.pos⟩:Dc) :: B).map Dc.v):=by
      rw [hcD,B7v hcA,A0P,B6];rfl
     refine IW.keep [1,5,6,8] [.lst (bytesC m),.ptr c2 0,I64 (3 * k:Nat),C8 (A++(⟨d.kind,d.name,w,d.pos⟩:Dc) :: B)] (A6i (V:=D5 M) rfl A0 (by rw [A2 (by omega),A0];exact congrArg (fun x=>some (⟨4,true,x⟩:Blk)) hset) (by omega) (by simp;omega)) ?_;simp only [A2D,A2N];exact N4 m k c2 _ h2 (by omega) _ M (C2m (d:=d) (by rw [<- hD];exact r5) (by show d.name.length<=_;omega)) (by simp;omega) r4 r2
   ·obtain ⟨A,d,B,hD,hA⟩:=A1o hK;have hDl:D.length=K+1+B.length:=by rw [hD];simp;omega
    have hcl:(A3 (D.map Dc.v)).length=D.length * 4:=by rw [B3 (u:=4) (K8 _),A0D]
    have hcA:(A3 (A.map Dc.v)).length=K * 4:=by rw [B3 (u:=4) (K8 _),A0D,hA]
    have hcD:A3 (D.map Dc.v)=A3 (A.map Dc.v)++([I64 d.kind,.str d.name,I64 d.value,I64 d.pos]++A3 (B.map Dc.v)):=by
     rw [hD,A0P,B6];rfl
    have iaD:∀ X,I1 4 (.slc X 0 D.length) (I64 (K:Int))=some (.ptr X (K * 4)):=fun X=>by simp [I1];omega
    have e4:binR .rem (.int .u8 (e.toNat:Int)) (.int .u8 4)=some (.int .u8 ((e.toNat % 4:Nat):Int)):=by rw [U7 (by decide)];rfl
    have hq3:=A2T e.toNat (show 0<4 by decide);generalize e.toNat % 4=Q at e4 hq3;have iq:=fun X=>ia4 X Q hq3;have hld:∃ nm:List UInt8,([DV.str [115,119,49],DV.str [118,49],DV.str [109,111,100,101,48],DV.str [111,116,104,101,114]]:List DV)[Q]? = some (.str nm)/\nm.length<=5:=by
     rcases (show Q=0\/Q=1\/Q=2\/Q=3 by omega) with rfl|rfl|rfl|rfl<;>exact ⟨_,rfl,by decide⟩
    obtain ⟨nm,hld,hnm⟩:=hld;repeat' ((with_reducible apply wr)<;>try simp only [go_sem,seval,hbl,hw2,hw1,d1,d2,b0,b1,b2,wa,ra,A0,A1,cd,hq6,hcc,hcc2,iaD,e4,iq,hld,A0D])
    have ne0:=S0 c2 (c+10) (c+10+1) (by omega);simp only [go_sem,seval,ne0,A0,A1];rw [A5z (cs:=A3 (D.map Dc.v)) (off:=K * 4+1) (i:=1) (v:=.str nm) rfl (by rw [hcl];omega) rfl];simp only [go_sem,seval,ne0,A0,A1];repeat' ((with_reducible first|refine G8 (p:=IW _ _ (pz Tryz.prog 5 (.i (.o (.i (.i (.i .h)))))) _ _) ?_|refine wr ?_|fail)<;>try simp only [go_sem,seval,ne0,A0,A1])
    unfold A2z;have hset:(A3 (D.map Dc.v)).take (K * 4+1)++[.str nm]++(A3 (D.map Dc.v)).drop (K * 4+1+1)=A3 ((A++(⟨d.kind,nm,d.value,d.pos⟩:Dc) :: B).map Dc.v):=by
     rw [hcD,B7v hcA,A0P,B6];rfl
    refine IW.keep [1,5,6,8] [.lst (bytesC m),.ptr c2 0,I64 (3 * k:Nat),C8 (A++(⟨d.kind,nm,d.value,d.pos⟩:Dc) :: B)] (A6i (V:=D5 M) rfl A0 (by rw [A2 (by omega),A0];exact congrArg (fun x=>some (⟨4,true,x⟩:Blk)) hset) (by omega) (by simp;omega)) ?_;simp only [A2D,A2N];exact N4 m k c2 _ h2 (by omega) _ M (C2m (d:=d) (by rw [<- hD];exact r5) (by show nm.length<=_;omega)) (by simp;omega) r4 r2
   ·have cm:=C6w M r2 (by omega);have we:IntKind.i64.wrap ((e.toNat:Nat):Int)=((e.toNat:Nat):Int):=w64 (by omega) (by omega);have re:binR .rem (I64 (e.toNat:Int)) (I64 (M.length:Int))=some (I64 ((e.toNat % M.length:Nat):Int)):=by rw [U7 (by omega)];rfl
    have hJ:=A2T e.toNat r2;generalize e.toNat % M.length=J at re hJ;have iaM:∀ X,I1 4 (.slc X 0 M.length) (I64 (J:Int))=some (.ptr X (J * 4)):=fun X=>by simp [I1];omega
    have an:binR .rem (.int .u8 (a.toNat:Int)) (.int .u8 2)=some (.int .u8 ((a.toNat % 2:Nat):Int)):=by rw [U7 (by decide)];rfl
    have hqn:=A2T a.toNat (show 0<2 by decide);generalize a.toNat % 2=Q at an hqn;have iq:∀ X,I1 1 (.slc X 0 2) (.int .u8 (Q:Int))=some (.ptr X Q):=fun X=>by simp [I1];omega
    have hld:∃ w:Int,([I64 99,I64 100]:List DV)[Q]? = some (I64 w):=by
     rcases (show Q=0\/Q=1 by omega) with rfl|rfl<;>exact ⟨_,rfl⟩
    obtain ⟨w,hld⟩:=hld;have hcM:(A3 (M.map Md.v)).length=M.length * 4:=by rw [B3 (u:=4) (V3 _),A0D]
    repeat' ((with_reducible apply wr)<;>try simp only [go_sem,seval,hbl,hw2,hw1,d1,d2,b0,b1,b2,wa,ra,A0,A1,cd,hq6,hcc,hcc2,cm,we,re,iaM,an,iq,hld,A0D])
    obtain ⟨A,d,B,hM,hA⟩:=A1o hJ;have hMl:M.length=J+1+B.length:=by rw [hM];simp;omega
    have hcA:(A3 (A.map Md.v)).length=J * 4:=by rw [B3 (u:=4) (V3 _),A0D,hA]
    have hcD:A3 (M.map Md.v)=A3 (A.map Md.v)++([.str d.name,I64 d.prio,S2 d.hds,I64 d.pos]++A3 (B.map Md.v)):=by
     rw [hM,A0P,B6];rfl
    have hset:(A3 (M.map Md.v)).take (J * 4+1)++[I64 w]++(A3 (M.map Md.v)).drop (J * 4+1+1)=A3 ((A++(⟨d.name,w,d.hds,d.pos⟩:Md) :: B).map Md.v):=by
     rw [hcD,B7v hcA,A0P,B6];rfl
    have ne0:=V1 c2 (c+10) (c+10+1) (c+10+1+1+10) (by omega);simp only [go_sem,seval,ne0,A0,A1];rw [A5z (cs:=A3 (M.map Md.v)) (off:=J * 4+1) (i:=1) (v:=I64 w) rfl (by rw [hcM];omega) rfl];rw [show (A3 (M.map Md.v)).take (J * 4+1)++(I64 w:DV).cells++(A3 (M.map Md.v)).drop (J * 4+1+1)=A3 ((A++(⟨d.name,w,d.hds,d.pos⟩:Md) :: B).map Md.v) from hset];simp only [go_sem,seval,ne0,A0,A1];repeat' ((with_reducible first|refine G8 (p:=IW _ _ (pz Tryz.prog 5 (.i (.o (.i (.i (.i .h)))))) _ _) ?_|refine wr ?_|fail)<;>try simp only [go_sem,seval,ne0,A0,A1])
    unfold A2z;refine IW.keep [1,5,6,8] [.lst (bytesC m),.ptr c2 0,I64 (3 * k:Nat),.slc (c+10) 0 D.length] (D1t (c2:=c2) (C:=c+10) (n:=D.length) (Cm:=c+10+1) (nm:=M.length) (M:=A++(⟨d.name,w,d.hds,d.pos⟩:Md) :: B) (b:=⟨4,true,A3 (D.map Dc.v)⟩)
     (by repeat (first|exact A0|rw [A2 (by omega)])) (by repeat (first|exact A0|rw [A2 (by omega)])) (by repeat (first|exact A0|rw [A2 (by omega)])) (by omega) (by omega) (by omega) (by simp;omega)) ?_
    simp only [A2D,A2N];refine IW.keep [1,5,6,8] [.lst (bytesC m),.ptr c2 0,I64 (3 * k:Nat),C8 D] (A6i (V:=D5 (A++(⟨d.name,w,d.hds,d.pos⟩:Md) :: B)) (D:=D) rfl (by rw [A2 (by omega),A0]) A0 (by omega) rfl) ?_;simp only [A2D,A2N];exact N4 m k c2 _ h2 (by omega) _ _ (B7r (d:=d) (by rw [<- hM];exact r5) rfl (by show d.name.length<=_;omega)) (by omega) (by simp;omega) (by simp;omega)
   ·have cm:=C6w M r2 (by omega);have we:IntKind.i64.wrap ((e.toNat:Nat):Int)=((e.toNat:Nat):Int):=w64 (by omega) (by omega);have re:binR .rem (I64 (e.toNat:Int)) (I64 (M.length:Int))=some (I64 ((e.toNat % M.length:Nat):Int)):=by rw [U7 (by omega)];rfl
    have hJ:=A2T e.toNat r2;generalize e.toNat % M.length=J at re hJ;have iaM:∀ X,I1 4 (.slc X 0 M.length) (I64 (J:Int))=some (.ptr X (J * 4)):=fun X=>by simp [I1];omega
    have an:binR .rem (.int .u8 (a.toNat:Int)) (.int .u8 3)=some (.int .u8 ((a.toNat % 3:Nat):Int)):=by rw [U7 (by decide)];rfl
    have hqn:=A2T a.toNat (show 0<3 by decide);generalize a.toNat % 3=Q at an hqn;have iq:∀ X,I1 1 (.slc X 0 3) (.int .u8 (Q:Int))=some (.ptr X Q):=fun X=>by simp [I1];omega
    have hld:∃ nm:List UInt8,([.str [109,111,100,101,48],.str [115,119,48],.str [109,105,110,101]]:List DV)[Q]? = some (.str nm)/\nm.length<=5:=by
     rcases (show Q=0\/Q=1\/Q=2 by omega) with rfl|rfl|rfl<;>exact ⟨_,rfl,by decide⟩
    obtain ⟨nm,hld,hnm⟩:=hld;have hcM:(A3 (M.map Md.v)).length=M.length * 4:=by rw [B3 (u:=4) (V3 _),A0D]
    repeat' ((with_reducible apply wr)<;>try simp only [go_sem,seval,hbl,hw2,hw1,d1,d2,b0,b1,b2,wa,ra,A0,A1,cd,hq6,hcc,hcc2,cm,we,re,iaM,an,iq,hld,A0D])
    obtain ⟨A,d,B,hM,hA⟩:=A1o hJ;have hMl:M.length=J+1+B.length:=by rw [hM];simp;omega
    have hcA:(A3 (A.map Md.v)).length=J * 4:=by rw [B3 (u:=4) (V3 _),A0D,hA]
    have hcD:A3 (M.map Md.v)=A3 (A.map Md.v)++([.str d.name,I64 d.prio,S2 d.hds,I64 d.pos]++A3 (B.map Md.v)):=by
     rw [hM,A0P,B6];rfl
    have hset:(A3 (M.map Md.v)).take (J * 4)++[.str nm]++(A3 (M.map Md.v)).drop (J * 4+1)=A3 ((A++(⟨nm,d.prio,d.hds,d.pos⟩:Md) :: B).map Md.v):=by
     show (A3 (M.map Md.v)).take (J * 4+0)++[.str nm]++(A3 (M.map Md.v)).drop (J * 4+0+1)=_;rw [hcD,B7v hcA,A0P,B6];rfl
    have ne0:=V1 c2 (c+10) (c+10+1) (c+10+1+1+10) (by omega);simp only [go_sem,seval,ne0,A0,A1];rw [A5z (cs:=A3 (M.map Md.v)) (off:=J * 4) (i:=1) (v:=.str nm) rfl (by rw [hcM];omega) rfl];rw [show (A3 (M.map Md.v)).take (J * 4)++(.str nm:DV).cells++(A3 (M.map Md.v)).drop (J * 4+1)=A3 ((A++(⟨nm,d.prio,d.hds,d.pos⟩:Md) :: B).map Md.v) from hset];simp only [go_sem,seval,ne0,A0,A1];repeat' ((with_reducible first|refine G8 (p:=IW _ _ (pz Tryz.prog 5 (.i (.o (.i (.i (.i .h)))))) _ _) ?_|refine wr ?_|fail)<;>try simp only [go_sem,seval,ne0,A0,A1])
    unfold A2z;refine IW.keep [1,5,6,8] [.lst (bytesC m),.ptr c2 0,I64 (3 * k:Nat),.slc (c+10) 0 D.length] (D1t (c2:=c2) (C:=c+10) (n:=D.length) (Cm:=c+10+1) (nm:=M.length) (M:=A++(⟨nm,d.prio,d.hds,d.pos⟩:Md) :: B) (b:=⟨4,true,A3 (D.map Dc.v)⟩)
     (by repeat (first|exact A0|rw [A2 (by omega)])) (by repeat (first|exact A0|rw [A2 (by omega)])) (by repeat (first|exact A0|rw [A2 (by omega)])) (by omega) (by omega) (by omega) (by simp;omega)) ?_
    simp only [A2D,A2N];refine IW.keep [1,5,6,8] [.lst (bytesC m),.ptr c2 0,I64 (3 * k:Nat),C8 D] (A6i (V:=D5 (A++(⟨nm,d.prio,d.hds,d.pos⟩:Md) :: B)) (D:=D) rfl (by rw [A2 (by omega),A0]) A0 (by omega) rfl) ?_;simp only [A2D,A2N];exact N4 m k c2 _ h2 (by omega) _ _ (B7r (d:=d) (by rw [<- hM];exact r5) rfl (by show nm.length<=_;omega)) (by omega) (by simp;omega) (by simp;omega)
  ·have d2:decide (((3 * k:Nat):Int)<12)=false:=by simp;omega
   repeat' ((with_reducible first|apply wr|refine cpc hck ?_|refine cpc hs ?_|fail)<;>try simp only [go_sem,seval,hbl,hw2,d1,d2,A0,A1,A0D])
   exact A6 rfl
 ·have d1:decide (((3 * k+2:Nat):Int)<(m.length:Int))=false:=by simp;omega
  repeat' ((with_reducible first|apply wr|refine cpc hck ?_|refine cpc hs ?_|fail)<;>try simp only [go_sem,seval,hbl,hw2,d1,A0,A1,A0D])
  exact A6 rfl
end Go.Proofs.YtnmkkggfgdfmeaaGreatDoor
end

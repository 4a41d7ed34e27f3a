/-
  HELPERS of the claim: part 11 of its texts.
-/
import Derived.Test.YthlpinppaclofaaGreatDoorSypj
noncomputable section
set_option maxHeartbeats 8000000
set_option maxRecDepth 100000
set_option linter.unusedSimpArgs false
set_option linter.unusedVariables false
namespace Go.Proofs.YthlpinppaclofaaGreatDoor
open Go.Eng (IC IOper DReg IFn B3)
open Go.Sym Go.Pb
theorem e_stmt (L:List UInt8) (hL:L.length<=300) (w:Nat) (hw:w<=100):∀ d:Nat,d<=2->MX 131 [I64 d] L w 14 (StD L w d)
 | 0,_=>e_Stmt L hL w hw 0 (by omega) (by omega) _ (.inl (by omega))
 | d+1,h=>by
  have h1:=e_stmt L hL w hw d (by omega);have h2:=e_block L hL w (d:Int) _ h1;exact e_Stmt L hL w hw ((d+1:Nat):Int) (by omega) (by omega) _ (.inr (by rw [show ((d+1:Nat):Int)-1=(d:Int) by omega];exact h2))
theorem e_blk2 (L:List UInt8) (hL:L.length<=300) (w:Nat) (hw:w<=100):MX 81 [I64 2] L w 3 (BkG (StD L w 2)) :=
 e_block L hL w ((2:Nat):Int) _ (e_stmt L hL w hw 2 (by omega))
theorem e_handler (L:List UInt8) (hL:L.length<=300) (w:Nat) (hw:w<=100) (k:Nat) (hk:k<=1000):MX 43 [I64 k] L w 20 (HdG L w k):=by
 intro i hi H cc t ht htc;refine AC.bodyT A6 rfl (Nat.le_of_ble_eq_true rfl) fun hfr=>?_;have hrm:binR .rem (I64 (k:Int)) (.int .i64 11)=some (I64 ((k % 11:Nat):Int)):=by rw [A5t (by decide)];rfl
 repeat' ((with_reducible first|refine wr ?_|refine k_cu ?_ ?_|refine wb2 ?_ ?_<;>(intro hb;try simp only [hb])|fail)<;>try simp only [go_sem,seval,hrm])
 have hm11:=Nat.mod_lt k (show 0<11 by decide);have hld:=trgV_get hm11;have hg:=O4 (l:=trgL) (n:=10) (by decide) (k % 11);have hcon:∀ x,BkG (StD L w 2) x->HdG L w k ((([111,110,32]++trgL.getD (k % 11) [])++[32])++x):=fun x hx=>.std hx;generalize k % 11=m at hm11 hld hg hcon ⊢;generalize trgL.getD m []=tr at hld hg hcon ⊢;have hia:Q1 1 (.slc cc 0 11) (I64 (m:Int))=some (.ptr cc m):=by simp [Q1];omega
 rw [show ([.str [115,116,97,114,116],.str [115,116,111,112],.str [99,108,111,115,101,32,115,119,48],.str [111,112,101,110,32,115,119,48],.str [99,108,111,115,101,32,115,119,49],.str [99,108,111,115,101,32,115,119,50],.str [116,105,109,101,114,32,116,109,48],.str [116,105,109,101,114,32,116,109,49],.str [101,118,101,110,116,32,101,118,48],.str [101,118,101,110,116,32,101,118,49],.str [111,112,101,110,32,115,119,51]]:List DV)=trgV from rfl];generalize trgV=WL at hld ⊢;have ne0:=P7 t cc (by omega);have kB:∀ (i2 c0:Nat) (tx:List UInt8),i2<=300->cc+1<=c0->tx.length+50 * i<=11+50 * i2->(∀ x,BkG (StD L w 2) x->HdG L w k ((([111,110,32]++tx)++[32])++x)) ->
   IW Tryz.prog 34 (pz Tryz.prog 43 (.i (.i (.o .h)))) ⟨tm [(0,.ptr t 0),(5,.str tx)],(H.upd cc ⟨1,true,WL⟩).upd t (mkB L w i2),c0⟩ (rt [.tmp 4] fun v H' c' => ∃ v2 H2,GL H' [v] H2 [v2]/\∃ s j,HdG L w k s/\s.length+50 * i<=20+50 * j/\j<=300/\v2=.str s/\H2=H.upd t (mkB L w j)):=by
  intro i2 c0 tx hi2 hc0 htx hx;obtain ⟨x1,e1,m1,a1⟩:=D1 [111,110,32] tx (by (try simp)<;>omega);try simp only [List.length_cons,List.length_nil] at m1
  obtain ⟨x2,e2,m2,a2⟩:=D1 x1 [32] (by (try simp)<;>omega);try simp only [List.length_cons,List.length_nil] at m2
  repeat' ((with_reducible first|refine wr ?_|refine k_cu ?_ ?_|refine wb2 ?_ ?_<;>(intro hb;try simp only [hb])|fail)<;>try simp only [go_sem,seval,a1,a2])
  refine AC.call (e_blk2 L hL w hw i2 hi2 _ _ t A0 (by omega)) ?_;rintro v' H' c3 ⟨r,j,g,l,b,rfl,rfl⟩ hc3;obtain ⟨x3,e3,m3,a3⟩:=D1 x2 r (by omega);rw [A1];simp only [go_sem,seval,a3];repeat' ((with_reducible first|refine wr ?_|refine k_cu ?_ ?_|refine wb2 ?_ ?_<;>(intro hb;try simp only [hb])|fail)<;>try simp only [go_sem,seval,a3])
  refine ⟨_,_,GL.less' (fun j2 q hj=>?_),x3,j,by rw [e3,e2,e1];exact hx r g,by omega,b,rfl,rfl⟩;by_cases e:j2=t
  ·subst e;rw [A0] at hj ⊢;exact hj
  ·rw [A2 e] at hj ⊢;have:j2≠cc:=by rintro rfl;rw [hfr _ (by omega)] at hj;cases hj
   rw [A2 this];exact hj
 simp only [go_sem,seval,ne0,hia,hld,A0,ht];by_cases h0:0<w
 ·have q0:decide ((w:Int)>0)=true:=by simpa using h0
  repeat' ((with_reducible first|refine wr ?_|refine k_cu ?_ ?_|refine wb2 ?_ ?_<;>(intro hb;try simp only [hb])|fail)<;>try simp only [go_sem,seval,ne0,hia,hld,A0,ht,q0])
  refine AC.call (T1 L hL w w h0 (by omega) i hi _ _ t (by rw [A2 (by omega)];exact ht) (by omega)) ?_;rintro v' H' c2 ⟨q,j,hq,hj,hjp,rfl,rfl⟩ hc2;by_cases q1:q=1
  ·subst q1;simp only [go_sem,seval];repeat' ((with_reducible first|refine wr ?_|refine k_cu ?_ ?_|refine wb2 ?_ ?_<;>(intro hb;try simp only [hb])|fail)<;>try simp only [go_sem,seval])
   refine AC.call (N0 L hL w hw [115,119] (by decide) 4 (by decide) (by decide) j hj _ _ t A0 (by omega)) ?_;rintro v' H' c3 ⟨r,j2,g,l,b,rfl,rfl⟩ hc3;obtain ⟨x1,e1,m1,a1⟩:=D1 [99,108,111,115,101,32] r (by (try simp)<;>omega);try simp only [List.length_cons,List.length_nil] at m1
   rw [A1];simp only [go_sem,seval,a1];repeat' ((with_reducible first|refine E3 (p:=IW _ _ (pz Tryz.prog 43 (.i (.i (.o .h)))) _ _) ?_|refine wr ?_|refine k_cu ?_ ?_|refine wb2 ?_ ?_<;>(intro hb;try simp only [hb])|fail)<;>try simp only [go_sem,seval,a1])
   exact IW.stage (by simp [C6,tm,Tm.upd]) (kB j2 _ x1 b (by omega) (by omega) (fun x hx=>by rw [e1];exact .wild h0 g hx))
  ·have qq:((q:Int) == 1)=false:=by simp;omega
   simp only [go_sem,seval,qq];repeat' ((with_reducible first|refine E3 (p:=IW _ _ (pz Tryz.prog 43 (.i (.i (.o .h)))) _ _) ?_|refine wr ?_|refine k_cu ?_ ?_|refine wb2 ?_ ?_<;>(intro hb;try simp only [hb])|fail)<;>try simp only [go_sem,seval,qq])
   exact IW.stage (by simp [C6,tm,Tm.upd]) (kB j _ tr hj (by omega) (by omega) hcon)
 ·have q0:decide ((w:Int)>0)=false:=by simpa using h0
  repeat' ((with_reducible first|refine E3 (p:=IW _ _ (pz Tryz.prog 43 (.i (.i (.o .h)))) _ _) ?_|refine wr ?_|refine k_cu ?_ ?_|refine wb2 ?_ ?_<;>(intro hb;try simp only [hb])|fail)<;>try simp only [go_sem,seval,ne0,hia,hld,A0,ht,q0])
  have:=kB i (cc+1) tr hi (Nat.le_refl _) (by omega) hcon;rw [upd_same (by rw [A2 (by omega)];exact ht)] at this;exact IW.stage (by simp [C6,tm,Tm.upd]) this
theorem e_rules (L:List UInt8) (hL:L.length<=300) (w:Nat) (hw:w<=100):MX 16 [] L w 950 (RuP L w 3):=by
 intro i0 hi H cc t ht htc;refine AC.bodyT A6 rfl (Nat.le_of_ble_eq_true rfl) fun hfr=>?_;obtain ⟨x1,e1,m1,a1⟩:=D1 ruA ruB (by decide);have l1:x1.length<=300:=by rw [m1];decide
 replace a1:binR .add (.str [115,119,105,116,99,104,32,115,119,48,32,51,59,32,115,119,105,116,99,104,32,115,119,49,32,57,59,32,115,119,105,116,99,104,32,115,119,50,32,52,48,59,32,115,119,105,116,99,104,32,115,119,51,32,54,51,59,10,99,111,105,108,32,99,111,105,108,48,32,48,59,32,99,111,105,108,32,99,111,105,108,49,32,55,59,32,99,111,105,108,32,99,111,105,108,50,32,51,49,59,10,108,97,109,112,32,108,97,109,112,48,32,48,59,32,108,97,109,112,32,108,97,109,112,49,32,57,59,32,108,97,109,112,32,108,97,109,112,50,32,51,51,59,32,108,97,109,112,32,108,97,109,112,51,32,54,51,59,10,115,111,117,110,100,32,115,110,100,48,32,48,59,32,115,111,117,110,100,32,115,110,100,49,32,53,59,32,115,104,111,119,32,115,104,111,119,48,32,48,59,32,115,104,111,119,32,115,104,111,119,49,32,49,59,10]) (.str [118,97,114,32,118,48,32])=some (.str x1):=a1;dsimp only at a1;repeat' ((with_reducible first|refine wr ?_|refine k_cu ?_ ?_|refine wb2 ?_ ?_<;>(intro hb;try simp only [hb])|fail)<;>try simp only [go_sem,seval,a1])
 refine AC.call (T1 L hL w 4 (by decide) (by decide) i0 hi _ _ t (by rw [A2 (by omega)];exact ht) (by omega)) ?_;rintro v' H' c3 ⟨k3,j1,hlt3,b1,p1,rfl,rfl⟩ hc3;have hia:Q1 1 (.slc (cc) 0 4) (I64 (k3:Int))=some (.ptr (cc) k3):=by simp [Q1];omega
 have hld:=v0V_get hlt3;have hg:=O4 (l:=v0L) (n:=10) (by decide) k3;have hcon:RuP L w 0 (((ruA++ruB)++v0L.getD k3 [])++ruC):=.head hlt3;generalize hog:v0L.getD k3 []=og at hg hld hcon;generalize hWL:v0V=WL at hld;have hWL2:[.str [48],.str [53],.str [45,55],.str [50,49,52,55,52,56,51,54,52,55]]=WL:=hWL;have ne0:=P7 t cc (by omega);obtain ⟨x2,e2,m2,a2⟩:=D1 x1 og (by omega);have l2:ruC.length<=100:=by decide
 obtain ⟨x3,e3,m3,a3⟩:=D1 x2 ruC (by omega);replace a3:binR .add (.str x2) (.str [59,32,118,97,114,32,118,49,32,49,59,32,118,97,114,32,118,50,32,48,59,32,116,105,109,101,114,32,116,109,48,59,32,116,105,109,101,114,32,116,109,49,59,32,101,118,101,110,116,32,101,118,48,59,32,101,118,101,110,116,32,101,118,49,59,10])=some (.str x3):=a3;dsimp only at a3;simp only [go_sem,seval,A0,A1,ne0,hia,hWL2,hld,a1,a2,a3];have hfin:∀ (B:Blk) ds,GL ((H.upd cc ⟨1,true,WL⟩).upd t B) ds (H.upd t B) ds:=fun B ds=>GL.less' (fun j2 q hj=>by
  by_cases e:j2=t
  ·subst e;rw [A0] at hj ⊢;exact hj
  ·rw [A2 e] at hj ⊢;have:j2≠cc:=by rintro rfl;rw [hfr _ (by omega)] at hj;cases hj
   rw [A2 this];exact hj)
 generalize H.upd cc ⟨1,true,WL⟩=G at hfin ⊢;have hx3:RuP L w 0 x3:=by rw [e3,e2,e1];exact hcon
 have l3:x3.length<=500:=by omega
 clear hcon e1 e2 e3 a1 a2 a3 hld hWL hWL2 hia;repeat' ((with_reducible first|refine wr ?_|refine k_cu ?_ ?_|refine wb2 ?_ ?_<;>(intro hb;try simp only [hb])|fail)<;>try simp only [go_sem,seval])
 refine D6 (fun q:Nat × Nat × List UInt8=>[(0,.ptr t 0),(3,.str q.2.2),(4,I64 q.1)]) (fun q=>G.upd t (mkB L w q.2.1))
  (fun q c=>cc<=c/\q.1<=3/\q.2.1<=300/\RuP L w q.1 q.2.2/\q.2.2.length+50 * i0<=500+150 * q.1+50 * q.2.1) (fun q=>3-q.1) (0,j1,x3)
  (by simp [C6,tm,Tm.upd]) (Sub.refl _) ⟨(by omega),(by omega),b1,hx3,(by show x3.length+50 * i0<=500+150 * 0+50 * j1;omega)⟩ ?_
 rintro ⟨i,j,s⟩ c ⟨hc,hi3,hj,hR,hl⟩;dsimp only at hc hi3 hj hR hl ⊢;have hl3:s.length<=25000000:=by omega
 by_cases h3:i<3
 ·have qi:decide ((i:Int)<3)=true:=by simp;omega
  have hdi:=c_Dec' (i:Int) (by omega) (by omega);have hdil:=K5 (n:=(i:Int)) (by omega) (by omega);obtain ⟨y1,f1,n1,c1⟩:=D1 s [109,111,100,101,32,109,111,100,101] (by (try simp)<;>omega);try simp only [List.length_cons,List.length_nil] at n1
  obtain ⟨y2,f2,n2,c2⟩:=D1 y1 (F8 (i:Int)) (by omega);obtain ⟨y3,f3,n3,c3⟩:=D1 y2 [32] (by (try simp)<;>omega);try simp only [List.length_cons,List.length_nil] at n3
  repeat' ((with_reducible first|refine wr ?_|refine cpc hdi ?_|refine k_cu ?_ ?_|refine wb2 ?_ ?_<;>(intro hb;try simp only [hb])|fail)<;>try simp only [go_sem,seval,qi,c1,c2,c3])
  refine AC.call (T1 L hL w 4 (by decide) (by decide) j hj _ _ t A0 (by omega)) ?_;rintro v' H' c4 ⟨p,j2,hp,b2,p2,rfl,rfl⟩ hc4;rw [A1];have hdp:=c_Dec' (p:Int) (by omega) (by omega);have hdpl:=K5 (n:=(p:Int)) (by omega) (by omega);obtain ⟨y4,f4,n4,c5⟩:=D1 y3 (F8 (p:Int)) (by omega);obtain ⟨y5,f5,n5,c6⟩:=D1 y4 [32,123,10] (by (try simp)<;>omega);try simp only [List.length_cons,List.length_nil] at n5
  simp only [go_sem,seval,c5,c6];repeat' ((with_reducible first|refine wr ?_|refine cpc hdp ?_|refine k_cu ?_ ?_|refine wb2 ?_ ?_<;>(intro hb;try simp only [hb])|fail)<;>try simp only [go_sem,seval,c5,c6])
  refine AC.call (T1 L hL w 11 (by decide) (by decide) j2 b2 _ _ t A0 (by omega)) ?_;rintro v' H' c7 ⟨k,j3,hk,b3,p3,rfl,rfl⟩ hc7;rw [A1];simp only [go_sem,seval];repeat' ((with_reducible first|refine wr ?_|refine k_cu ?_ ?_|refine wb2 ?_ ?_<;>(intro hb;try simp only [hb])|fail)<;>try simp only [go_sem,seval])
  refine AC.call (T1 L hL w 5 (by decide) (by decide) j3 b3 _ _ t A0 (by omega)) ?_;rintro v' H' c8 ⟨n,j4,hn,b4,p4,rfl,rfl⟩ hc8;rw [A1];simp only [go_sem,seval];repeat' ((with_reducible first|refine wr ?_|refine k_cu ?_ ?_|refine wb2 ?_ ?_<;>(intro hb;try simp only [hb])|fail)<;>try simp only [go_sem,seval])
  have hy:y5=mdHead s i p:=by rw [f5,f4,f3,f2,f1];rfl
  have ly:y5.length<=s.length+60:=by omega
  refine D6 (fun q:Nat × Nat × List (List UInt8)=>[(0,.ptr t 0),(3,.str (A0t y5 q.2.2)),(4,I64 i),(5,I64 (k+q.2.2.length:Nat)),(6,I64 q.1)]) (fun q=>G.upd t (mkB L w q.2.1))
   (fun q n=>cc<=n/\q.1+q.2.2.length<=4/\q.2.1<=300/\(∀ j x,q.2.2[j]? = some x->HdG L w (k+j) x)/\(A0t y5 q.2.2).length+50 * j<=y5.length+21 * q.2.2.length+50 * q.2.1) (fun q=>q.1) (n,j4,[])
   (by simp [C6,tm,Tm.upd,A0t]) (Sub.refl _) ⟨(by omega),(by show n+0<=4;omega),b4,(fun j x h=>by cases h),(by show y5.length+50 * j<=y5.length+21 * 0+50 * j4;omega)⟩ ?_
  clear hc8 b4 hn p4 n j4 c8;rintro ⟨n,j5,hs⟩ c8 ⟨hc8,hn,b5,hH,lh⟩;dsimp only at hc8 hn b5 hH lh ⊢;by_cases h0:0<n
  ·have qn:decide ((n:Int)>0)=true:=by simpa using h0
   obtain ⟨n,rfl⟩:∃ m,n=m+1:=⟨n-1,by omega⟩;have hw1:IntKind.i64.wrap (((n+1:Nat):Int)-1)=(n:Int):=by rw [w64 (by omega) (by omega)];omega
   have hw2:IntKind.i64.wrap (((k+hs.length:Nat):Int)+1)=((k+hs.length+1:Nat):Int):=by rw [w64 (by omega) (by omega)];omega
   generalize hn1:((n+1:Nat):Int)=N1 at qn hw1 ⊢;generalize hk1:k+hs.length=K1 at hw2 ⊢;repeat' ((with_reducible first|refine wr ?_|refine k_cu ?_ ?_|refine wb2 ?_ ?_<;>(intro hb;try simp only [hb])|fail)<;>try simp only [go_sem,seval,qn])
   refine AC.call (e_handler L hL w hw K1 (by omega) j5 b5 _ _ t A0 (by omega)) ?_;rintro v' H' c9 ⟨r,j6,g,l,b6,rfl,rfl⟩ hc9;obtain ⟨z1,g1,o1,d1⟩:=D1 (A0t y5 hs) r (by omega);obtain ⟨z2,g2,o2,d2⟩:=D1 z1 [10] (by (try simp)<;>omega);try simp only [List.length_cons,List.length_nil] at o2
   rw [A1];simp only [go_sem,seval,d1,d2,hw1,hw2];repeat' ((with_reducible first|refine wr ?_|refine k_cu ?_ ?_|refine wb2 ?_ ?_<;>(intro hb;try simp only [hb])|fail)<;>try simp only [go_sem,seval,d1,d2,hw1,hw2])
   have e1:A0t y5 (hs++[r])=z2:=by rw [foldH_snoc,g2,g1]
   have e2:(hs++[r]).length=hs.length+1:=by simp
   refine ⟨(n,j6,hs++[r]),?_,Sub.refl _,inv ⟨(by omega),(by show n+(hs++[r]).length<=4;omega),b6,(fun j x hx=>?_),(by show (A0t y5 (hs++[r])).length+50 * j<=y5.length+21 * (hs++[r]).length+50 * j6;rw [e1,e2];omega)⟩,(by simp only;omega)⟩
   ·simp only [e1,e2];simp [C6,tm,Tm.upd];omega
   ·by_cases hj2:j<hs.length
    ·rw [List.getElem?_append_left hj2] at hx;exact hH j x hx
    ·rw [List.getElem?_append_right (by omega)] at hx;have hj3:j-hs.length=0:=by
      have:=(List.getElem?_eq_some_iff.1 hx).1;simp at this;omega
     rw [hj3] at hx;cases hx;obtain rfl:j=hs.length:=by omega
     rw [hk1];exact g
  ·obtain rfl:n=0:=by omega
   obtain ⟨z1,g1,o1,d1⟩:=D1 (A0t y5 hs) [125,10] (by (try simp)<;>omega);try simp only [List.length_cons,List.length_nil] at o1
   have hw2:IntKind.i64.wrap ((i:Int)+1)=((i+1:Nat):Int):=by rw [w64 (by omega) (by omega)];omega
   repeat' ((with_reducible first|refine wr ?_|refine k_cu ?_ ?_|refine wb2 ?_ ?_<;>(intro hb;try simp only [hb])|fail)<;>try simp only [go_sem,seval,d1,hw2])
   refine ⟨(i+1,j5,z1),(by simp [C6,tm,Tm.upd]),Sub.refl _,inv ⟨(by omega),(by omega),b5,(by show RuP L w (i+1) z1;rw [g1,hy];exact .mode hR hp hk (by omega) hH),(by show z1.length+50 * i0<=500+150 * (i+1)+50 * j5;omega)⟩,(by simp only;omega)⟩
 ·obtain rfl:i=3:=by omega
  repeat' ((with_reducible first|refine wr ?_|refine k_cu ?_ ?_|refine wb2 ?_ ?_<;>(intro hb;try simp only [hb])|fail)<;>try simp only [go_sem,seval])
  exact ⟨_,_,hfin _ _,s,j,hR,by omega,hj,rfl,rfl⟩
theorem c_New (l:List UInt8) (hl:l.length<=9223372036854775807) (H:Hp) (cc:Nat) :
  AC Tryz.prog 13 [.lst (bytesC l)] H cc (fun v H' c' => ∃ t,cc<=t/\t<c'/\v=.ptr t 0/\H'=H.upd t (mkB (l.take 300) 0 0)):=by
 refine AC.bodyT A6 rfl (Nat.le_of_ble_eq_true rfl) fun hfr=>?_;have hlen:(bytesC l).length=l.length:=by simp [bytesC]
 have hmin:(if (300:Int)<((l.length:Nat):Int) then (300:Int) else ((l.length:Nat):Int))=((min l.length 300:Nat):Int):=by split<;>omega
 have hsl:A5r H 1 (.lst (bytesC l)) none (some (I64 ((min l.length 300:Nat):Int)))=some (.lst (bytesC (l.take 300))):=by
  have hb:boundOf (bytesC l).length (some (I64 ((min l.length 300:Nat):Int)))=some (min l.length 300):=by simp [boundOf]
  have hu:Sym.unit 1 (bytesC l)=true:=by simp only [Sym.unit,bytesC,List.all_map];exact List.all_eq_true.2 fun x _=>rfl
  simp only [A5r,hb];have h0:boundOf 0 none=some 0:=rfl;rw [h0];dsimp only;rw [if_pos ⟨by rw [hlen];omega,Nat.zero_le _,hu⟩];rw [List.drop_zero,Nat.sub_zero];unfold bytesC;rw [<- List.map_take];have e:l.take (min l.length 300)=l.take 300:=by
   rcases Nat.le_total l.length 300 with h|h
   ·rw [Nat.min_eq_left h,List.take_of_length_le (Nat.le_refl _),List.take_of_length_le h]
   ·rw [Nat.min_eq_right h]
  rw [e]
 repeat' ((with_reducible first|refine wr ?_|refine k_cu ?_ ?_|refine wb2 ?_ ?_<;>(intro hb;try simp only [hb])|fail)<;>try simp only [go_sem,seval,hlen,hmin,hsl])
 exact ⟨_,_,GL.refl _ _,cc,Nat.le_refl _,Nat.lt_succ_self _,rfl,rfl⟩
theorem c_Spoil (s:List UInt8) (hs:s.length<=1000000) (a b c:Nat) (ha:a<256) (hb:b<256) (hc:c<256):∃ t:List UInt8,t.length<=s.length+1/\PC Tryz.prog 15 [.str s,.agg [.int .u8 (a:Int),.int .u8 (b:Int),.int .u8 (c:Int)]] (.str t):=by
 by_cases h0:s.length=0
 ·refine ⟨[],Nat.zero_le _,?_⟩;obtain rfl:s=[]:=List.length_eq_zero_iff.1 h0;refine PC.ofT A6 rfl (Nat.le_of_ble_eq_true rfl) (by simp [DV.nlL,DV.nl]) (by simp [DV.nlL,DV.nl]) ?_;repeat' ((with_reducible first|refine wr ?_|refine k_cu ?_ ?_|refine wb2 ?_ ?_<;>(intro hb;try simp only [hb])|fail)<;>try simp only [go_sem,seval])
  exact A4 rfl
 have d0:((s.length:Int) == 0)=false:=by simpa using h0
 have hkl:(a * 256+b) % s.length<s.length:=Nat.mod_lt _ (by omega);have hw1:IntKind.i64.wrap (a:Int)=a:=w64 (by omega) (by omega);have hw2:IntKind.i64.wrap (b:Int)=b:=w64 (by omega) (by omega);have hw3:IntKind.i64.wrap ((a:Int) * 256)=((a * 256:Nat):Int):=by rw [w64 (by omega) (by omega)];omega
 have hw4:IntKind.i64.wrap (((a * 256:Nat):Int)+b)=((a * 256+b:Nat):Int):=by rw [w64 (by omega) (by omega)];omega
 have hr:binR .rem (I64 ((a * 256+b:Nat):Int)) (I64 (s.length:Int))=some (I64 (((a * 256+b) % s.length:Nat):Int)):=by
  rw [A5t (by omega)];rfl
 generalize (a * 256+b) % s.length=k at hkl hr;have hw5:IntKind.i64.wrap ((k:Int)+1)=((k+1:Nat):Int):=by rw [w64 (by omega) (by omega)];omega
 have hc5:binR .rem (.int .u8 (c:Int)) (.int .u8 5)=some (.int .u8 ((c % 5:Nat):Int)):=by rw [A5t (by decide)];rfl
 have hq:c % 5<5:=Nat.mod_lt _ (by decide);have t1:slsR s none (some (I64 (k:Int)))=some (.str (s.take k)):=A5q (by omega);have t2:slsR s (some (I64 (k:Int))) none=some (.str (s.drop k)):=A0o (by omega);have t3:slsR s (some (I64 ((k+1:Nat):Int))) none=some (.str (s.drop (k+1))):=A0o (by omega);have hcat:∀ a b:List UInt8,a.length+b.length<=100000000->binR .add (.str a) (.str b)=some (.str (a++b)):=fun a b h=>by
  obtain ⟨x,rfl, -,h2⟩:=D1 a b h;exact h2
 have hl1:(s.take k).length<=s.length:=by rw [List.length_take];omega
 have hl2:(s.drop k).length<=s.length:=by rw [List.length_drop];omega
 have hl3:(s.drop (k+1)).length<=s.length:=by rw [List.length_drop];omega
 generalize hqq:c % 5=q at hc5 hq;obtain ⟨x,rfl⟩:∃ x:UInt8,x.toNat=c:=⟨UInt8.ofNat c,by simp;omega⟩;have hcv:∀ H:Hp,V9 (H.upd 1 ⟨1,true,[.int .u8 (x.toNat:Int)]⟩) (.slc 1 0 1)=some (.str [x]):=fun H=>A2a (l:=[x]) A0 rfl rfl;have c1:=hcat (s.take k) [x] (by simp;omega);have c2:=hcat (s.take k++[x]) (s.drop k) (by simp;omega);have c3:=hcat (s.take k) (s.drop (k+1)) (by omega);have c4:=hcat (s.take k++[x]) (s.drop (k+1)) (by simp;omega)
 match q,hq with
 | 0,_ =>
  refine ⟨s.take k++[x]++s.drop k,by simp;omega,?_⟩;refine PC.ofT A6 rfl (Nat.le_of_ble_eq_true rfl) (by simp [DV.nlL,DV.nl]) (by simp [DV.nlL,DV.nl]) ?_;repeat' ((with_reducible first|refine wr ?_|refine k_cu ?_ ?_|refine wb2 ?_ ?_<;>(intro hb;try simp only [hb])|fail)<;>try simp only [go_sem,seval,d0,hw1,hw2,hw3,hw4,hw5,hr,hc5,t1,t2,t3,hcv,c1,c2,c3,c4])
  all_goals exact A4 rfl
 | 1,_ =>
  refine ⟨s.take k++s.drop (k+1),by simp;omega,?_⟩;refine PC.ofT A6 rfl (Nat.le_of_ble_eq_true rfl) (by simp [DV.nlL,DV.nl]) (by simp [DV.nlL,DV.nl]) ?_;repeat' ((with_reducible first|refine wr ?_|refine k_cu ?_ ?_|refine wb2 ?_ ?_<;>(intro hb;try simp only [hb])|fail)<;>try simp only [go_sem,seval,d0,hw1,hw2,hw3,hw4,hw5,hr,hc5,t1,t2,t3,hcv,c1,c2,c3,c4])
  all_goals exact A4 rfl
 | 2,_ =>
  refine ⟨s.take k++[x]++s.drop (k+1),by simp;omega,?_⟩;refine PC.ofT A6 rfl (Nat.le_of_ble_eq_true rfl) (by simp [DV.nlL,DV.nl]) (by simp [DV.nlL,DV.nl]) ?_;repeat' ((with_reducible first|refine wr ?_|refine k_cu ?_ ?_|refine wb2 ?_ ?_<;>(intro hb;try simp only [hb])|fail)<;>try simp only [go_sem,seval,d0,hw1,hw2,hw3,hw4,hw5,hr,hc5,t1,t2,t3,hcv,c1,c2,c3,c4])
  all_goals exact A4 rfl
 | 3,_ =>
  refine ⟨s.take k,by simp;omega,?_⟩;refine PC.ofT A6 rfl (Nat.le_of_ble_eq_true rfl) (by simp [DV.nlL,DV.nl]) (by simp [DV.nlL,DV.nl]) ?_;repeat' ((with_reducible first|refine wr ?_|refine k_cu ?_ ?_|refine wb2 ?_ ?_<;>(intro hb;try simp only [hb])|fail)<;>try simp only [go_sem,seval,d0,hw1,hw2,hw3,hw4,hw5,hr,hc5,t1,t2,t3,hcv,c1,c2,c3,c4])
  all_goals exact A4 rfl
 | 4,_ =>
  refine ⟨s,by omega,?_⟩;refine PC.ofT A6 rfl (Nat.le_of_ble_eq_true rfl) (by simp [DV.nlL,DV.nl]) (by simp [DV.nlL,DV.nl]) ?_;repeat' ((with_reducible first|refine wr ?_|refine k_cu ?_ ?_|refine wb2 ?_ ?_<;>(intro hb;try simp only [hb])|fail)<;>try simp only [go_sem,seval,d0,hw1,hw2,hw3,hw4,hw5,hr,hc5,t1,t2,t3,hcv,c1,c2,c3,c4])
  all_goals exact A4 rfl
theorem bytes_nl (l:List UInt8):DV.nlL (bytesC l)=true:=N4 (fun _=>rfl) l
theorem c_SyntaxParses (raw:List UInt8) (hraw:raw.length<=9223372036854775807) (l:List UInt8) (hl:l.length<=9223372036854775807) (a b c:Nat) (ha:a<256) (hb:b<256) (hc:c<256) :
  PC Tryz.prog 3 [.str raw,.lst (bytesC l),.agg [.int .u8 (a:Int),.int .u8 (b:Int),.int .u8 (c:Int)]] (.bool true):=by
 have hs:=c_sane31;refine PC.ofT A6 rfl (Nat.le_of_ble_eq_true rfl) (by simp [DV.nlL,DV.nl,bytes_nl]) rfl ?_;by_cases h4:raw.length<=400
 ·have d4:decide ((raw.length:Int)>400)=false:=by simp;omega
  have hp:=c_parses raw (by omega);have h300:(l.take 300).length<=300:=by rw [List.length_take];omega
  repeat' ((with_reducible first|refine wr ?_|refine k_cu ?_ ?_|refine wb2 ?_ ?_<;>(intro hb;try simp only [hb])|fail)<;>try simp only [go_sem,seval,d4])
  refine AC.call (c_New l hl _ _) ?_;rintro v' H' c2 ⟨t,ht1,ht2,rfl,rfl⟩ hc2;have ne0:=P7 0 t (by omega);simp only [go_sem,seval,ne0,A0,A1];repeat' ((with_reducible first|refine wr ?_|refine cpc hp ?_|refine k_cu ?_ ?_|refine wb2 ?_ ?_<;>(intro hb;try simp only [hb])|fail)<;>try simp only [go_sem,seval,ne0,A0,A1])
  refine AC.call (e_rules (l.take 300) h300 0 (by omega) 0 (by omega) _ _ t A0 (by omega)) ?_;rintro v' H' c3 ⟨s,j,g,ls,bj,rfl,rfl⟩ hc3;obtain ⟨t2,ht2l,hsp⟩:=c_Spoil s (by omega) _ _ _ ha hb hc;have hp2:=c_parses t2 (by omega);rw [A1];simp only [go_sem,seval,ne0,A0,A1];refine ⟨by (repeat rw [A2 (by omega)])<;>rfl,?_⟩;repeat' ((with_reducible first|refine wr ?_|refine cpc hsp ?_|refine cpc hp2 ?_|refine cpc hs ?_|refine k_cu ?_ ?_|refine wb2 ?_ ?_<;>(intro hb;try simp only [hb])|fail)<;>try simp only [go_sem,seval,ne0,A0,A1])
  all_goals exact A4 rfl
 ·have d4:decide ((raw.length:Int)>400)=true:=by simp;omega
  repeat' ((with_reducible first|refine wr ?_|refine cpc hs ?_|refine k_cu ?_ ?_|refine wb2 ?_ ?_<;>(intro hb;try simp only [hb])|fail)<;>try simp only [go_sem,seval,d4])
  all_goals exact A4 rfl
end Go.Proofs.YthlpinppaclofaaGreatDoor
end

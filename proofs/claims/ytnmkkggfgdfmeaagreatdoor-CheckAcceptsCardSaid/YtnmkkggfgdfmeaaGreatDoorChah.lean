/-
  HELPERS of the claim: part 8 of its texts.
-/
import Derived.Test.YtnmkkggfgdfmeaaGreatDoorChag
noncomputable section
set_option maxHeartbeats 8000000
set_option maxRecDepth 100000
set_option linter.unusedSimpArgs false
set_option linter.unusedVariables false
namespace Go.Proofs.YtnmkkggfgdfmeaaGreatDoor
open Go.Eng (IC IOper DReg IFn A3)
open Go.Sym Go.Pb
def MC (f:Nat) (xs:List DV) (L:List UInt8) (w n:Nat) (Q:List UInt8->Prop):Prop:=∀ (i:Nat) (hi:i<=300) (H:Hp) (cc t:Nat) (ht:H t=some (mkB L w i)) (htc:t<cc),
  AC Tryz.prog f (.ptr t 0 :: xs) H cc (fun v H' c' => ∃ s j,Q s/\s.length<=n/\j<=300/\v=.str s/\H'=H.upd t (mkB L w j))
def NmS (L:List UInt8) (w:Nat) (p:List UInt8) (n:Nat) (s:List UInt8):Prop:=∃ i,i<=300/\s=(nmK L w p n i).1
def InS (L:List UInt8) (w d:Nat) (s:List UInt8):Prop:=∃ i,i<=300/\s=(inK L w d i).1
def BlS (L:List UInt8) (w d:Nat) (s:List UInt8):Prop:=∃ i,i<=300/\s=(blK L w d i).1
theorem J1 (L:List UInt8) (hL:L.length<=300) (w:Nat) (hw:w<=100) (p:List UInt8) (hp:p.length<=100) (n:Nat) (hn:0<n) (hn2:n<=1000):MC 54 [.str p,I64 n] L w 200 (NmS L w p n):=by
 intro i hi H cc t ht htc;refine (c_name32 L hL w i hw hi p hp n hn hn2 H cc t ht htc).mono ?_;rintro v H' c' ⟨rfl,rfl⟩;have:=R6 (L:=L) (w:=w) (i:=i) (p:=p) (n:=n) hn hn2;exact ⟨_,_,⟨i,hi,rfl⟩,by omega,A0z hL hi,rfl,rfl⟩
theorem lnB_le {d:Nat} (h:d<=2):lnB d<=2100:=by
 have:∀ d,d<=2->lnB d<=2100:=by decide
 exact this d h
theorem R7 (L:List UInt8) (hL:L.length<=300) (w:Nat) (hw:w<=100) (d:Nat) (hd:d<=2):MC 24 [I64 d] L w 2100 (InS L w d):=by
 intro i hi H cc t ht htc;refine ((c_exK L hL w hw d (by omega)).1 i hi H cc t ht htc).mono ?_;rintro v H' c' ⟨rfl,rfl⟩;have h1:=(A0w hL w d).1 i hi;have h2:=lnB_le hd;exact ⟨_,_,⟨i,hi,rfl⟩,by omega,h1.2,rfl,rfl⟩
theorem A7d (L:List UInt8) (hL:L.length<=300) (w:Nat) (hw:w<=100) (d:Nat) (hd:d<=2):MC 25 [I64 d] L w 2100 (BlS L w d):=by
 intro i hi H cc t ht htc;refine ((c_exK L hL w hw d (by omega)).2 i hi H cc t ht htc).mono ?_;rintro v H' c' ⟨rfl,rfl⟩;have h1:=(A0w hL w d).2 i hi;have h2:=lnB_le hd;exact ⟨_,_,⟨i,hi,rfl⟩,by omega,h1.2,rfl,rfl⟩
theorem O9 (L:List UInt8) (hL:L.length<=300) (w:Nat) (n:Nat) (hn:0<n) (hn2:n<=1000) (i:Nat) (hi:i<=300) (H:Hp) (cc t:Nat) (ht:H t=some (mkB L w i)) (htc:t<cc) :
  AC Tryz.prog 53 [.ptr t 0,I64 n] H cc (fun v H' c' => ∃ k j,k<n/\j<=300/\v=I64 (k:Nat)/\H'=H.upd t (mkB L w j)):=by
 refine (c_Next L hL w i hi n hn hn2 H cc t ht htc).mono ?_;rintro v H' c' ⟨rfl,rfl⟩;exact ⟨_,_,J0 L i hn,E1 hL hi,rfl,rfl⟩
theorem B9 (a b:List UInt8) (h:a.length+b.length<=100000000):∃ x,x=a++b/\x.length=a.length+b.length/\binR .add (.str a) (.str b)=some (.str x) :=
 ⟨_,rfl,by simp,L5 (by omega)⟩
def firL:List (List UInt8):=[[102,105,114,101,32],[104,111,108,100,32],[114,101,108,101,97,115,101,32]]
def runL:List (List UInt8):=[[114,117,110,32],[104,97,108,116,32]]
def txtL:List (List UInt8):=[[103,111],[106,97,99,107,112,111,116],[97,92,34,98],[]]
def oneL:List (List UInt8 × List UInt8 × Nat):=[([115,116,111,112,32],[116,109],2),([98,101,103,105,110,32],[109,111,100,101],3),([101,110,100,32],[109,111,100,101],3),([112,111,115,116,32],[101,118],2),([112,108,97,121,32],[115,110,100],2)]
inductive StG (L:List UInt8) (w:Nat) (K:List UInt8->Prop):List UInt8->Prop where
 | ifA {b x:List UInt8}:BlS L w 1 b->K x->StG L w K ((([105,102,32]++b)++[32])++x)
 | ifB {b x y:List UInt8}:BlS L w 1 b->K x->K y->StG L w K ((((([105,102,32]++b)++[32])++x)++[32,101,108,115,101,32])++y)
 | ifC {b x c y:List UInt8}:BlS L w 1 b->K x->BlS L w 0 c->K y->StG L w K ((((((([105,102,32]++b)++[32])++x)++[32,101,108,115,101,32,105,102,32])++c)++[32])++y)
 | rep {e x:List UInt8}:InS L w 0 e->K x->StG L w K ((([114,101,112,101,97,116,32]++e)++[32])++x)
 | sco {e:List UInt8}:InS L w 1 e->StG L w K (([115,99,111,114,101,32]++e)++[59])
 | fir {k:Nat} {n:List UInt8}:k<3->NmS L w [99,111,105,108] 3 n->StG L w K ((firL.getD k []++n)++[59])
 | lig {n e:List UInt8}:NmS L w [108,97,109,112] 4 n->InS L w 0 e->StG L w K (((([108,105,103,104,116,32]++n)++[32])++e)++[59])
 | bli {n e f:List UInt8}:NmS L w [108,97,109,112] 4 n->InS L w 0 e->InS L w 0 f->StG L w K (((((([98,108,105,110,107,32]++n)++[32])++e)++[44,32])++f)++[59])
 | sta {n e:List UInt8}:NmS L w [116,109] 2 n->InS L w 1 e->StG L w K (((([115,116,97,114,116,32]++n)++[32])++e)++[59])
 | one {q:List UInt8 × List UInt8 × Nat} {n:List UInt8}:q∈oneL->NmS L w q.2.1 q.2.2 n->StG L w K ((q.1++n)++[59])
 | run {k:Nat} {n:List UInt8}:k<2->NmS L w [115,104,111,119] 2 n->StG L w K ((runL.getD k []++n)++[59])
 | txt {k:Nat} {e:List UInt8}:k<4->InS L w 0 e->StG L w K (((([116,101,120,116,32,34]++txtL.getD k [])++[34,44,32])++e)++[59])
 | con:StG L w K [99,111,110,115,117,109,101,59]
 | asg {n e:List UInt8}:NmS L w [118] 3 n->InS L w 2 e->StG L w K (((n++[32,61,32])++e)++[59])
theorem c_Stmt (L:List UInt8) (hL:L.length<=300) (w:Nat) (hw:w<=100) (D:Int) (hD2:D<=10) (hD3 : -10<=D) (kb:Nat) (hkb:kb<=10000000) (K:List UInt8->Prop) (hK:D<=0\/MC 107 [I64 (D-1)] L w kb K) :
  MC 139 [I64 D] L w (2 * kb+8000) (StG L w K):=by
 intro i hi H cc t ht htc;refine AC.body A6 isU139 (Nat.le_of_ble_eq_true rfl) fun hfr=>?_;show IW Tryz.prog 189 u139_1 ⟨B4 _,_,_⟩ (rt [.tmp 4] _);have hw1:IntKind.i64.wrap (D-1)=D-1:=w64 (by omega) (by omega);obtain ⟨qd,hqd⟩:∃ b:Bool,decide (D<=0)=b:=⟨_,rfl⟩;have hqt:qd=true->D<=0:=fun e=>by rw [e] at hqd;simpa using hqd
 have hqf:qd=false->¬ D<=0:=fun e=>by rw [e] at hqd;simpa using hqd
 repeat' ((with_reducible apply wr)<;>try simp only [go_sem,seval,hqd])
 refine AC.call (O9 L hL w 20 (by decide) (by decide) i hi _ _ t ht (by omega)) ?_;rintro v' H' c2 ⟨k,j,hlt,hj,rfl,rfl⟩ hc2;by_cases k4:k=4
 ·subst k4;cases qd;all_goals
   simp only [go_sem,seval,hqd];repeat' ((with_reducible apply wr)<;>try simp only [go_sem,seval,hqd,hw1])
   refine AC.call (R7 L hL w hw 1 (by decide) j hj _ _ t A0 (by omega)) ?_;rintro v' H' c3 ⟨r1,j1,g1,l1,b1,rfl,rfl⟩ hc3;rw [A1];obtain ⟨x1,e1,m1,a1⟩:=B9 [115,99,111,114,101,32] r1 (by (try simp)<;>omega);try simp only [List.length_cons,List.length_nil] at m1
   obtain ⟨x2,e2,m2,a2⟩:=B9 x1 [59] (by (try simp)<;>omega);try simp only [List.length_cons,List.length_nil] at m2
   simp only [go_sem,seval,a1,a2,hw1];repeat' ((with_reducible apply wr)<;>try simp only [go_sem,seval,a1,a2,hw1])
   exact ⟨_,_,GL.refl _ _,x2,j1,by rw [e2,e1];exact .sco g1,by omega,b1,rfl,rfl⟩
 by_cases k5:k=5
 ·subst k5;cases qd;all_goals
   simp only [go_sem,seval,hqd];repeat' ((with_reducible apply wr)<;>try simp only [go_sem,seval,hqd,hw1])
   refine AC.call (R7 L hL w hw 1 (by decide) j hj _ _ t A0 (by omega)) ?_;rintro v' H' c3 ⟨r1,j1,g1,l1,b1,rfl,rfl⟩ hc3;rw [A1];obtain ⟨x1,e1,m1,a1⟩:=B9 [115,99,111,114,101,32] r1 (by (try simp)<;>omega);try simp only [List.length_cons,List.length_nil] at m1
   obtain ⟨x2,e2,m2,a2⟩:=B9 x1 [59] (by (try simp)<;>omega);try simp only [List.length_cons,List.length_nil] at m2
   simp only [go_sem,seval,a1,a2,hw1];repeat' ((with_reducible apply wr)<;>try simp only [go_sem,seval,a1,a2,hw1])
   exact ⟨_,_,GL.refl _ _,x2,j1,by rw [e2,e1];exact .sco g1,by omega,b1,rfl,rfl⟩
 by_cases k7:k=7
 ·subst k7;cases qd;all_goals
   simp only [go_sem,seval,hqd];repeat' ((with_reducible apply wr)<;>try simp only [go_sem,seval,hqd,hw1])
   refine AC.call (J1 L hL w hw [108,97,109,112] (by decide) 4 (by decide) (by decide) j hj _ _ t A0 (by omega)) ?_;rintro v' H' c3 ⟨r1,j1,g1,l1,b1,rfl,rfl⟩ hc3;rw [A1];obtain ⟨x1,e1,m1,a1⟩:=B9 [108,105,103,104,116,32] r1 (by (try simp)<;>omega);try simp only [List.length_cons,List.length_nil] at m1
   obtain ⟨x2,e2,m2,a2⟩:=B9 x1 [32] (by (try simp)<;>omega);try simp only [List.length_cons,List.length_nil] at m2
   simp only [go_sem,seval,a1,a2,hw1];repeat' ((with_reducible apply wr)<;>try simp only [go_sem,seval,a1,a2,hw1])
   refine AC.call (R7 L hL w hw 0 (by decide) j1 b1 _ _ t A0 (by omega)) ?_;rintro v' H' c4 ⟨r2,j2,g2,l2,b2,rfl,rfl⟩ hc4;rw [A1];obtain ⟨x3,e3,m3,a3⟩:=B9 x2 r2 (by (try simp)<;>omega);try simp only [List.length_cons,List.length_nil] at m3
   obtain ⟨x4,e4,m4,a4⟩:=B9 x3 [59] (by (try simp)<;>omega);try simp only [List.length_cons,List.length_nil] at m4
   simp only [go_sem,seval,a3,a4,hw1];repeat' ((with_reducible apply wr)<;>try simp only [go_sem,seval,a3,a4,hw1])
   exact ⟨_,_,GL.refl _ _,x4,j2,by rw [e4,e3,e2,e1];exact .lig g1 g2,by omega,b2,rfl,rfl⟩
 by_cases k8:k=8
 ·subst k8;cases qd;all_goals
   simp only [go_sem,seval,hqd];repeat' ((with_reducible apply wr)<;>try simp only [go_sem,seval,hqd,hw1])
   refine AC.call (J1 L hL w hw [108,97,109,112] (by decide) 4 (by decide) (by decide) j hj _ _ t A0 (by omega)) ?_;rintro v' H' c3 ⟨r1,j1,g1,l1,b1,rfl,rfl⟩ hc3;rw [A1];obtain ⟨x1,e1,m1,a1⟩:=B9 [98,108,105,110,107,32] r1 (by (try simp)<;>omega);try simp only [List.length_cons,List.length_nil] at m1
   obtain ⟨x2,e2,m2,a2⟩:=B9 x1 [32] (by (try simp)<;>omega);try simp only [List.length_cons,List.length_nil] at m2
   simp only [go_sem,seval,a1,a2,hw1];repeat' ((with_reducible apply wr)<;>try simp only [go_sem,seval,a1,a2,hw1])
   refine AC.call (R7 L hL w hw 0 (by decide) j1 b1 _ _ t A0 (by omega)) ?_;rintro v' H' c4 ⟨r2,j2,g2,l2,b2,rfl,rfl⟩ hc4;rw [A1];obtain ⟨x3,e3,m3,a3⟩:=B9 x2 r2 (by (try simp)<;>omega);try simp only [List.length_cons,List.length_nil] at m3
   obtain ⟨x4,e4,m4,a4⟩:=B9 x3 [44,32] (by (try simp)<;>omega);try simp only [List.length_cons,List.length_nil] at m4
   simp only [go_sem,seval,a3,a4,hw1];repeat' ((with_reducible apply wr)<;>try simp only [go_sem,seval,a3,a4,hw1])
   refine AC.call (R7 L hL w hw 0 (by decide) j2 b2 _ _ t A0 (by omega)) ?_;rintro v' H' c5 ⟨r3,j3,g3,l3,b3,rfl,rfl⟩ hc5;rw [A1];obtain ⟨x5,e5,m5,a5⟩:=B9 x4 r3 (by (try simp)<;>omega);try simp only [List.length_cons,List.length_nil] at m5
   obtain ⟨x6,e6,m6,a6⟩:=B9 x5 [59] (by (try simp)<;>omega);try simp only [List.length_cons,List.length_nil] at m6
   simp only [go_sem,seval,a5,a6,hw1];repeat' ((with_reducible apply wr)<;>try simp only [go_sem,seval,a5,a6,hw1])
   exact ⟨_,_,GL.refl _ _,x6,j3,by rw [e6,e5,e4,e3,e2,e1];exact .bli g1 g2 g3,by omega,b3,rfl,rfl⟩
 by_cases k9:k=9
 ·subst k9;cases qd;all_goals
   simp only [go_sem,seval,hqd];repeat' ((with_reducible apply wr)<;>try simp only [go_sem,seval,hqd,hw1])
   refine AC.call (J1 L hL w hw [116,109] (by decide) 2 (by decide) (by decide) j hj _ _ t A0 (by omega)) ?_;rintro v' H' c3 ⟨r1,j1,g1,l1,b1,rfl,rfl⟩ hc3;rw [A1];obtain ⟨x1,e1,m1,a1⟩:=B9 [115,116,97,114,116,32] r1 (by (try simp)<;>omega);try simp only [List.length_cons,List.length_nil] at m1
   obtain ⟨x2,e2,m2,a2⟩:=B9 x1 [32] (by (try simp)<;>omega);try simp only [List.length_cons,List.length_nil] at m2
   simp only [go_sem,seval,a1,a2,hw1];repeat' ((with_reducible apply wr)<;>try simp only [go_sem,seval,a1,a2,hw1])
   refine AC.call (R7 L hL w hw 1 (by decide) j1 b1 _ _ t A0 (by omega)) ?_;rintro v' H' c4 ⟨r2,j2,g2,l2,b2,rfl,rfl⟩ hc4;rw [A1];obtain ⟨x3,e3,m3,a3⟩:=B9 x2 r2 (by (try simp)<;>omega);try simp only [List.length_cons,List.length_nil] at m3
   obtain ⟨x4,e4,m4,a4⟩:=B9 x3 [59] (by (try simp)<;>omega);try simp only [List.length_cons,List.length_nil] at m4
   simp only [go_sem,seval,a3,a4,hw1];repeat' ((with_reducible apply wr)<;>try simp only [go_sem,seval,a3,a4,hw1])
   exact ⟨_,_,GL.refl _ _,x4,j2,by rw [e4,e3,e2,e1];exact .sta g1 g2,by omega,b2,rfl,rfl⟩
 by_cases k10:k=10
 ·subst k10;cases qd;all_goals
   simp only [go_sem,seval,hqd];repeat' ((with_reducible apply wr)<;>try simp only [go_sem,seval,hqd,hw1])
   refine AC.call (J1 L hL w hw [116,109] (by decide) 2 (by decide) (by decide) j hj _ _ t A0 (by omega)) ?_;rintro v' H' c3 ⟨r1,j1,g1,l1,b1,rfl,rfl⟩ hc3;rw [A1];obtain ⟨x1,e1,m1,a1⟩:=B9 [115,116,111,112,32] r1 (by (try simp)<;>omega);try simp only [List.length_cons,List.length_nil] at m1
   obtain ⟨x2,e2,m2,a2⟩:=B9 x1 [59] (by (try simp)<;>omega);try simp only [List.length_cons,List.length_nil] at m2
   simp only [go_sem,seval,a1,a2,hw1];repeat' ((with_reducible apply wr)<;>try simp only [go_sem,seval,a1,a2,hw1])
   exact ⟨_,_,GL.refl _ _,x2,j1,by rw [e2,e1];exact .one (q:=([115,116,111,112,32],[116,109],2)) (by simp [oneL]) g1,by omega,b1,rfl,rfl⟩
 by_cases k11:k=11
 ·subst k11;cases qd;all_goals
   simp only [go_sem,seval,hqd];repeat' ((with_reducible apply wr)<;>try simp only [go_sem,seval,hqd,hw1])
   refine AC.call (J1 L hL w hw [109,111,100,101] (by decide) 3 (by decide) (by decide) j hj _ _ t A0 (by omega)) ?_;rintro v' H' c3 ⟨r1,j1,g1,l1,b1,rfl,rfl⟩ hc3;rw [A1];obtain ⟨x1,e1,m1,a1⟩:=B9 [98,101,103,105,110,32] r1 (by (try simp)<;>omega);try simp only [List.length_cons,List.length_nil] at m1
   obtain ⟨x2,e2,m2,a2⟩:=B9 x1 [59] (by (try simp)<;>omega);try simp only [List.length_cons,List.length_nil] at m2
   simp only [go_sem,seval,a1,a2,hw1];repeat' ((with_reducible apply wr)<;>try simp only [go_sem,seval,a1,a2,hw1])
   exact ⟨_,_,GL.refl _ _,x2,j1,by rw [e2,e1];exact .one (q:=([98,101,103,105,110,32],[109,111,100,101],3)) (by simp [oneL]) g1,by omega,b1,rfl,rfl⟩
 by_cases k12:k=12
 ·subst k12;cases qd;all_goals
   simp only [go_sem,seval,hqd];repeat' ((with_reducible apply wr)<;>try simp only [go_sem,seval,hqd,hw1])
   refine AC.call (J1 L hL w hw [109,111,100,101] (by decide) 3 (by decide) (by decide) j hj _ _ t A0 (by omega)) ?_;rintro v' H' c3 ⟨r1,j1,g1,l1,b1,rfl,rfl⟩ hc3;rw [A1];obtain ⟨x1,e1,m1,a1⟩:=B9 [101,110,100,32] r1 (by (try simp)<;>omega);try simp only [List.length_cons,List.length_nil] at m1
   obtain ⟨x2,e2,m2,a2⟩:=B9 x1 [59] (by (try simp)<;>omega);try simp only [List.length_cons,List.length_nil] at m2
   simp only [go_sem,seval,a1,a2,hw1];repeat' ((with_reducible apply wr)<;>try simp only [go_sem,seval,a1,a2,hw1])
   exact ⟨_,_,GL.refl _ _,x2,j1,by rw [e2,e1];exact .one (q:=([101,110,100,32],[109,111,100,101],3)) (by simp [oneL]) g1,by omega,b1,rfl,rfl⟩
 by_cases k13:k=13
 ·subst k13;cases qd;all_goals
   simp only [go_sem,seval,hqd];repeat' ((with_reducible apply wr)<;>try simp only [go_sem,seval,hqd,hw1])
   refine AC.call (J1 L hL w hw [101,118] (by decide) 2 (by decide) (by decide) j hj _ _ t A0 (by omega)) ?_;rintro v' H' c3 ⟨r1,j1,g1,l1,b1,rfl,rfl⟩ hc3;rw [A1];obtain ⟨x1,e1,m1,a1⟩:=B9 [112,111,115,116,32] r1 (by (try simp)<;>omega);try simp only [List.length_cons,List.length_nil] at m1
   obtain ⟨x2,e2,m2,a2⟩:=B9 x1 [59] (by (try simp)<;>omega);try simp only [List.length_cons,List.length_nil] at m2
   simp only [go_sem,seval,a1,a2,hw1];repeat' ((with_reducible apply wr)<;>try simp only [go_sem,seval,a1,a2,hw1])
   exact ⟨_,_,GL.refl _ _,x2,j1,by rw [e2,e1];exact .one (q:=([112,111,115,116,32],[101,118],2)) (by simp [oneL]) g1,by omega,b1,rfl,rfl⟩
 by_cases k14:k=14
 ·subst k14;cases qd;all_goals
   simp only [go_sem,seval,hqd];repeat' ((with_reducible apply wr)<;>try simp only [go_sem,seval,hqd,hw1])
   refine AC.call (J1 L hL w hw [115,110,100] (by decide) 2 (by decide) (by decide) j hj _ _ t A0 (by omega)) ?_;rintro v' H' c3 ⟨r1,j1,g1,l1,b1,rfl,rfl⟩ hc3;rw [A1];obtain ⟨x1,e1,m1,a1⟩:=B9 [112,108,97,121,32] r1 (by (try simp)<;>omega);try simp only [List.length_cons,List.length_nil] at m1
   obtain ⟨x2,e2,m2,a2⟩:=B9 x1 [59] (by (try simp)<;>omega);try simp only [List.length_cons,List.length_nil] at m2
   simp only [go_sem,seval,a1,a2,hw1];repeat' ((with_reducible apply wr)<;>try simp only [go_sem,seval,a1,a2,hw1])
   exact ⟨_,_,GL.refl _ _,x2,j1,by rw [e2,e1];exact .one (q:=([112,108,97,121,32],[115,110,100],2)) (by simp [oneL]) g1,by omega,b1,rfl,rfl⟩
 by_cases k17:k=17
 ·subst k17;cases qd;all_goals
   simp only [go_sem,seval,hqd];repeat' ((with_reducible apply wr)<;>try simp only [go_sem,seval,hqd,hw1])
   exact ⟨_,_,GL.refl _ _,_,j,.con,by first|(simp;done)|(simp;omega),hj,rfl,rfl⟩
 by_cases k6:k=6
 ·subst k6;cases qd;all_goals
   simp only [go_sem,seval,hqd];repeat' ((with_reducible apply wr)<;>try simp only [go_sem,seval,hqd,hw1])
   refine AC.call (O9 L hL w 3 (by decide) (by decide) j hj _ _ t (by rw [hide1 (by omega)];exact A0) (by omega)) ?_;rintro v' H' c3 ⟨k3,j1,hlt3,b1,rfl,rfl⟩ hc3;have hmg:∀ (X:Hp) (B:Blk),G5 [c2] X ((K8 X [c2]).upd t B)=X.upd t B:=fun X B=>A3a (by omega);have hia:N0 1 (.slc c2 0 3) (I64 (k3:Int))=some (.ptr c2 k3):=by simp [N0];omega
   have hld:([.str [102,105,114,101,32],.str [104,111,108,100,32],.str [114,101,108,101,97,115,101,32]]:List DV)[k3]? = some (.str (firL.getD k3 [])):=by
    match k3,hlt3 with
    | 0,_=>rfl
    | 1,_=>rfl
    | 2,_=>rfl
   have hg:=K4 (l:=firL) (n:=10) (by decide) k3;generalize hog:firL.getD k3 []=og at hg hld;generalize hWL:([.str [102,105,114,101,32],.str [104,111,108,100,32],.str [114,101,108,101,97,115,101,32]]:List DV)=WL at hld ⊢;have ne0:=M8 t c2 (by omega);simp only [go_sem,seval,hmg,A0,A1,ne0,hia,hld,hw1];refine ⟨by and_intros<;>first|rfl|(rw [<- hWL];done)|((repeat rw [A2 (by omega)]);exact hfr _ (by omega)),?_⟩;refine AC.call (J1 L hL w hw [99,111,105,108] (by decide) 3 (by decide) (by decide) j1 b1 _ _ t (by simp only [K8];rw [if_neg (by simp;omega)];exact A0) (by omega)) ?_;rintro v' H' c4 ⟨r1,j2,g1,l1,b2,rfl,rfl⟩ hc4;obtain ⟨x1,e1,m1,a1⟩:=B9 og r1 (by (try simp)<;>omega);try simp only [List.length_cons,List.length_nil] at m1
   obtain ⟨x2,e2,m2,a2⟩:=B9 x1 [59] (by (try simp)<;>omega);try simp only [List.length_cons,List.length_nil] at m2
   simp only [go_sem,seval,hmg,A0,A1,ne0,hia,hld,hw1,a1,a2];refine ⟨by and_intros<;>first|rfl|(rw [<- hWL];done)|((repeat rw [A2 (by omega)]);exact hfr _ (by omega)),?_⟩;repeat' ((with_reducible apply wr)<;>try simp only [go_sem,seval])
   exact ⟨_,_,Z0 hfr htc (by omega),x2,j2,by rw [e2,e1, <- hog];exact .fir hlt3 g1,by omega,b2,rfl,rfl⟩
 by_cases k15:k=15
 ·subst k15;cases qd;all_goals
   simp only [go_sem,seval,hqd];repeat' ((with_reducible apply wr)<;>try simp only [go_sem,seval,hqd,hw1])
   refine AC.call (O9 L hL w 2 (by decide) (by decide) j hj _ _ t (by rw [hide1 (by omega)];exact A0) (by omega)) ?_;rintro v' H' c3 ⟨k3,j1,hlt3,b1,rfl,rfl⟩ hc3;have hmg:∀ (X:Hp) (B:Blk),G5 [c2] X ((K8 X [c2]).upd t B)=X.upd t B:=fun X B=>A3a (by omega);have hia:N0 1 (.slc c2 0 2) (I64 (k3:Int))=some (.ptr c2 k3):=by simp [N0];omega
   have hld:([.str [114,117,110,32],.str [104,97,108,116,32]]:List DV)[k3]? = some (.str (runL.getD k3 [])):=by
    match k3,hlt3 with
    | 0,_=>rfl
    | 1,_=>rfl
   have hg:=K4 (l:=runL) (n:=10) (by decide) k3;generalize hog:runL.getD k3 []=og at hg hld;generalize hWL:([.str [114,117,110,32],.str [104,97,108,116,32]]:List DV)=WL at hld ⊢;have ne0:=M8 t c2 (by omega);simp only [go_sem,seval,hmg,A0,A1,ne0,hia,hld,hw1];refine ⟨by and_intros<;>first|rfl|(rw [<- hWL];done)|((repeat rw [A2 (by omega)]);exact hfr _ (by omega)),?_⟩;refine AC.call (J1 L hL w hw [115,104,111,119] (by decide) 2 (by decide) (by decide) j1 b1 _ _ t (by simp only [K8];rw [if_neg (by simp;omega)];exact A0) (by omega)) ?_;rintro v' H' c4 ⟨r1,j2,g1,l1,b2,rfl,rfl⟩ hc4;obtain ⟨x1,e1,m1,a1⟩:=B9 og r1 (by (try simp)<;>omega);try simp only [List.length_cons,List.length_nil] at m1
   obtain ⟨x2,e2,m2,a2⟩:=B9 x1 [59] (by (try simp)<;>omega);try simp only [List.length_cons,List.length_nil] at m2
   simp only [go_sem,seval,hmg,A0,A1,ne0,hia,hld,hw1,a1,a2];refine ⟨by and_intros<;>first|rfl|(rw [<- hWL];done)|((repeat rw [A2 (by omega)]);exact hfr _ (by omega)),?_⟩;repeat' ((with_reducible apply wr)<;>try simp only [go_sem,seval])
   exact ⟨_,_,Z0 hfr htc (by omega),x2,j2,by rw [e2,e1, <- hog];exact .run hlt3 g1,by omega,b2,rfl,rfl⟩
 by_cases k16:k=16
 ·subst k16;cases qd;all_goals
   simp only [go_sem,seval,hqd];repeat' ((with_reducible apply wr)<;>try simp only [go_sem,seval,hqd,hw1])
   refine AC.call (O9 L hL w 4 (by decide) (by decide) j hj _ _ t (by rw [hide1 (by omega)];exact A0) (by omega)) ?_;rintro v' H' c3 ⟨k3,j1,hlt3,b1,rfl,rfl⟩ hc3;have hmg:∀ (X:Hp) (B:Blk),G5 [c2] X ((K8 X [c2]).upd t B)=X.upd t B:=fun X B=>A3a (by omega);have hia:N0 1 (.slc c2 0 4) (I64 (k3:Int))=some (.ptr c2 k3):=by simp [N0];omega
   have hld:([.str [103,111],.str [106,97,99,107,112,111,116],.str [97,92,34,98],.str []]:List DV)[k3]? = some (.str (txtL.getD k3 [])):=by
    match k3,hlt3 with
    | 0,_=>rfl
    | 1,_=>rfl
    | 2,_=>rfl
    | 3,_=>rfl
   have hg:=K4 (l:=txtL) (n:=10) (by decide) k3;generalize hog:txtL.getD k3 []=og at hg hld;generalize hWL:([.str [103,111],.str [106,97,99,107,112,111,116],.str [97,92,34,98],.str []]:List DV)=WL at hld ⊢;have ne0:=M8 t c2 (by omega);obtain ⟨x1,e1,m1,a1⟩:=B9 [116,101,120,116,32,34] og (by (try simp)<;>omega);try simp only [List.length_cons,List.length_nil] at m1
   obtain ⟨x2,e2,m2,a2⟩:=B9 x1 [34,44,32] (by (try simp)<;>omega);try simp only [List.length_cons,List.length_nil] at m2
   simp only [go_sem,seval,hmg,A0,A1,ne0,hia,hld,hw1,a1,a2];refine ⟨by and_intros<;>first|rfl|(rw [<- hWL];done)|((repeat rw [A2 (by omega)]);exact hfr _ (by omega)),?_⟩;refine AC.call (R7 L hL w hw 0 (by decide) j1 b1 _ _ t (by simp only [K8];rw [if_neg (by simp;omega)];exact A0) (by omega)) ?_;rintro v' H' c4 ⟨r1,j2,g1,l1,b2,rfl,rfl⟩ hc4;obtain ⟨x3,e3,m3,a3⟩:=B9 x2 r1 (by (try simp)<;>omega);try simp only [List.length_cons,List.length_nil] at m3
   obtain ⟨x4,e4,m4,a4⟩:=B9 x3 [59] (by (try simp)<;>omega);try simp only [List.length_cons,List.length_nil] at m4
   simp only [go_sem,seval,hmg,A0,A1,ne0,hia,hld,hw1,a1,a2,a3,a4];refine ⟨by and_intros<;>first|rfl|(rw [<- hWL];done)|((repeat rw [A2 (by omega)]);exact hfr _ (by omega)),?_⟩;repeat' ((with_reducible apply wr)<;>try simp only [go_sem,seval])
   exact ⟨_,_,Z0 hfr htc (by omega),x4,j2,by rw [e4,e3,e2,e1, <- hog];exact .txt hlt3 g1,by omega,b2,rfl,rfl⟩
 by_cases k18:k=18
 ·subst k18;cases qd;all_goals
   simp only [go_sem,seval,hqd];repeat' ((with_reducible apply wr)<;>try simp only [go_sem,seval,hqd,hw1])
   refine AC.call (J1 L hL w hw [118] (by decide) 3 (by decide) (by decide) j hj _ _ t A0 (by omega)) ?_;rintro v' H' c3 ⟨r1,j1,g1,l1,b1,rfl,rfl⟩ hc3;rw [A1];obtain ⟨x1,e1,m1,a1⟩:=B9 r1 [32,61,32] (by (try simp)<;>omega);try simp only [List.length_cons,List.length_nil] at m1
   simp only [go_sem,seval,a1,hw1];repeat' ((with_reducible apply wr)<;>try simp only [go_sem,seval,a1,hw1])
   refine AC.call (R7 L hL w hw 2 (by decide) j1 b1 _ _ t A0 (by omega)) ?_;rintro v' H' c4 ⟨r2,j2,g2,l2,b2,rfl,rfl⟩ hc4;rw [A1];obtain ⟨x2,e2,m2,a2⟩:=B9 x1 r2 (by (try simp)<;>omega);try simp only [List.length_cons,List.length_nil] at m2
   obtain ⟨x3,e3,m3,a3⟩:=B9 x2 [59] (by (try simp)<;>omega);try simp only [List.length_cons,List.length_nil] at m3
   simp only [go_sem,seval,a2,a3,hw1];repeat' ((with_reducible apply wr)<;>try simp only [go_sem,seval,a2,a3,hw1])
   exact ⟨_,_,GL.refl _ _,x3,j2,by rw [e3,e2,e1];exact .asg g1 g2,by omega,b2,rfl,rfl⟩
 by_cases k19:k=19
 ·subst k19;cases qd;all_goals
   simp only [go_sem,seval,hqd];repeat' ((with_reducible apply wr)<;>try simp only [go_sem,seval,hqd,hw1])
   refine AC.call (J1 L hL w hw [118] (by decide) 3 (by decide) (by decide) j hj _ _ t A0 (by omega)) ?_;rintro v' H' c3 ⟨r1,j1,g1,l1,b1,rfl,rfl⟩ hc3;rw [A1];obtain ⟨x1,e1,m1,a1⟩:=B9 r1 [32,61,32] (by (try simp)<;>omega);try simp only [List.length_cons,List.length_nil] at m1
   simp only [go_sem,seval,a1,hw1];repeat' ((with_reducible apply wr)<;>try simp only [go_sem,seval,a1,hw1])
   refine AC.call (R7 L hL w hw 2 (by decide) j1 b1 _ _ t A0 (by omega)) ?_;rintro v' H' c4 ⟨r2,j2,g2,l2,b2,rfl,rfl⟩ hc4;rw [A1];obtain ⟨x2,e2,m2,a2⟩:=B9 x1 r2 (by (try simp)<;>omega);try simp only [List.length_cons,List.length_nil] at m2
   obtain ⟨x3,e3,m3,a3⟩:=B9 x2 [59] (by (try simp)<;>omega);try simp only [List.length_cons,List.length_nil] at m3
   simp only [go_sem,seval,a2,a3,hw1];repeat' ((with_reducible apply wr)<;>try simp only [go_sem,seval,a2,a3,hw1])
   exact ⟨_,_,GL.refl _ _,x3,j2,by rw [e3,e2,e1];exact .asg g1 g2,by omega,b2,rfl,rfl⟩
 by_cases k0:k=0
 ·subst k0;cases qd;all_goals
   simp only [go_sem,seval,hqd];repeat' ((with_reducible apply wr)<;>try simp only [go_sem,seval,hqd,hw1])
   refine AC.call (J1 L hL w hw [118] (by decide) 3 (by decide) (by decide) j hj _ _ t A0 (by omega)) ?_;rintro v' H' c3 ⟨r1,j1,g1,l1,b1,rfl,rfl⟩ hc3;rw [A1];obtain ⟨x1,e1,m1,a1⟩:=B9 r1 [32,61,32] (by (try simp)<;>omega);try simp only [List.length_cons,List.length_nil] at m1
   simp only [go_sem,seval,a1,hw1];repeat' ((with_reducible apply wr)<;>try simp only [go_sem,seval,a1,hw1])
   refine AC.call (R7 L hL w hw 2 (by decide) j1 b1 _ _ t A0 (by omega)) ?_;rintro v' H' c4 ⟨r2,j2,g2,l2,b2,rfl,rfl⟩ hc4;rw [A1];obtain ⟨x2,e2,m2,a2⟩:=B9 x1 r2 (by (try simp)<;>omega);try simp only [List.length_cons,List.length_nil] at m2
   obtain ⟨x3,e3,m3,a3⟩:=B9 x2 [59] (by (try simp)<;>omega);try simp only [List.length_cons,List.length_nil] at m3
   simp only [go_sem,seval,a2,a3,hw1];repeat' ((with_reducible apply wr)<;>try simp only [go_sem,seval,a2,a3,hw1])
   exact ⟨_,_,GL.refl _ _,x3,j2,by rw [e3,e2,e1];exact .asg g1 g2,by omega,b2,rfl,rfl⟩
 by_cases k3:k=3
 ·subst k3;cases qd
  rotate_left
  ·simp only [go_sem,seval,hqd];repeat' ((with_reducible apply wr)<;>try simp only [go_sem,seval,hqd,hw1])
   refine AC.call (J1 L hL w hw [118] (by decide) 3 (by decide) (by decide) j hj _ _ t A0 (by omega)) ?_;rintro v' H' c3 ⟨r1,j1,g1,l1,b1,rfl,rfl⟩ hc3;rw [A1];obtain ⟨x1,e1,m1,a1⟩:=B9 r1 [32,61,32] (by (try simp)<;>omega);try simp only [List.length_cons,List.length_nil] at m1
   simp only [go_sem,seval,a1,hw1];repeat' ((with_reducible apply wr)<;>try simp only [go_sem,seval,a1,hw1])
   refine AC.call (R7 L hL w hw 2 (by decide) j1 b1 _ _ t A0 (by omega)) ?_;rintro v' H' c4 ⟨r2,j2,g2,l2,b2,rfl,rfl⟩ hc4;rw [A1];obtain ⟨x2,e2,m2,a2⟩:=B9 x1 r2 (by (try simp)<;>omega);try simp only [List.length_cons,List.length_nil] at m2
   obtain ⟨x3,e3,m3,a3⟩:=B9 x2 [59] (by (try simp)<;>omega);try simp only [List.length_cons,List.length_nil] at m3
   simp only [go_sem,seval,a2,a3,hw1];repeat' ((with_reducible apply wr)<;>try simp only [go_sem,seval,a2,a3,hw1])
   exact ⟨_,_,GL.refl _ _,x3,j2,by rw [e3,e2,e1];exact .asg g1 g2,by omega,b2,rfl,rfl⟩
  have hK':=hK.resolve_left (hqf rfl);simp only [go_sem,seval,hqd];repeat' ((with_reducible apply wr)<;>try simp only [go_sem,seval,hqd,hw1])
  refine AC.call (R7 L hL w hw 0 (by decide) j hj _ _ t A0 (by omega)) ?_;rintro v' H' c3 ⟨r1,j1,g1,l1,b1,rfl,rfl⟩ hc3;rw [A1];obtain ⟨x1,e1,m1,a1⟩:=B9 [114,101,112,101,97,116,32] r1 (by (try simp)<;>omega);try simp only [List.length_cons,List.length_nil] at m1
  obtain ⟨x2,e2,m2,a2⟩:=B9 x1 [32] (by (try simp)<;>omega);try simp only [List.length_cons,List.length_nil] at m2
  simp only [go_sem,seval,a1,a2,hw1];repeat' ((with_reducible apply wr)<;>try simp only [go_sem,seval,a1,a2,hw1])
  refine AC.call (hK' j1 b1 _ _ t A0 (by omega)) ?_;rintro v' H' c4 ⟨r2,j2,g2,l2,b2,rfl,rfl⟩ hc4;rw [A1];obtain ⟨x3,e3,m3,a3⟩:=B9 x2 r2 (by (try simp)<;>omega);try simp only [List.length_cons,List.length_nil] at m3
  simp only [go_sem,seval,a3,hw1];repeat' ((with_reducible apply wr)<;>try simp only [go_sem,seval,a3,hw1])
  exact ⟨_,_,GL.refl _ _,x3,j2,by rw [e3,e2,e1];exact .rep g1 g2,by omega,b2,rfl,rfl⟩
 by_cases k1:k=1
 ·subst k1;cases qd
  rotate_left
  ·simp only [go_sem,seval,hqd];repeat' ((with_reducible apply wr)<;>try simp only [go_sem,seval,hqd,hw1])
   refine AC.call (J1 L hL w hw [118] (by decide) 3 (by decide) (by decide) j hj _ _ t A0 (by omega)) ?_;rintro v' H' c3 ⟨r1,j1,g1,l1,b1,rfl,rfl⟩ hc3;rw [A1];obtain ⟨x1,e1,m1,a1⟩:=B9 r1 [32,61,32] (by (try simp)<;>omega);try simp only [List.length_cons,List.length_nil] at m1
   simp only [go_sem,seval,a1,hw1];repeat' ((with_reducible apply wr)<;>try simp only [go_sem,seval,a1,hw1])
   refine AC.call (R7 L hL w hw 2 (by decide) j1 b1 _ _ t A0 (by omega)) ?_;rintro v' H' c4 ⟨r2,j2,g2,l2,b2,rfl,rfl⟩ hc4;rw [A1];obtain ⟨x2,e2,m2,a2⟩:=B9 x1 r2 (by (try simp)<;>omega);try simp only [List.length_cons,List.length_nil] at m2
   obtain ⟨x3,e3,m3,a3⟩:=B9 x2 [59] (by (try simp)<;>omega);try simp only [List.length_cons,List.length_nil] at m3
   simp only [go_sem,seval,a2,a3,hw1];repeat' ((with_reducible apply wr)<;>try simp only [go_sem,seval,a2,a3,hw1])
   exact ⟨_,_,GL.refl _ _,x3,j2,by rw [e3,e2,e1];exact .asg g1 g2,by omega,b2,rfl,rfl⟩
  have hK':=hK.resolve_left (hqf rfl);simp only [go_sem,seval,hqd];repeat' ((with_reducible apply wr)<;>try simp only [go_sem,seval,hqd,hw1])
  refine AC.call (A7d L hL w hw 1 (by decide) j hj _ _ t A0 (by omega)) ?_;rintro v' H' c3 ⟨r1,j1,g1,l1,b1,rfl,rfl⟩ hc3;rw [A1];obtain ⟨x1,e1,m1,a1⟩:=B9 [105,102,32] r1 (by (try simp)<;>omega);try simp only [List.length_cons,List.length_nil] at m1
  obtain ⟨x2,e2,m2,a2⟩:=B9 x1 [32] (by (try simp)<;>omega);try simp only [List.length_cons,List.length_nil] at m2
  simp only [go_sem,seval,a1,a2,hw1];repeat' ((with_reducible apply wr)<;>try simp only [go_sem,seval,a1,a2,hw1])
  refine AC.call (hK' j1 b1 _ _ t A0 (by omega)) ?_;rintro v' H' c4 ⟨r2,j2,g2,l2,b2,rfl,rfl⟩ hc4;rw [A1];obtain ⟨x3,e3,m3,a3⟩:=B9 x2 r2 (by (try simp)<;>omega);try simp only [List.length_cons,List.length_nil] at m3
  simp only [go_sem,seval,a3,hw1];repeat' ((with_reducible apply wr)<;>try simp only [go_sem,seval,a3,hw1])
  refine AC.call (O9 L hL w 3 (by decide) (by decide) j2 b2 _ _ t A0 (by omega)) ?_;rintro v' H' c5 ⟨q,j3,hq,b3,rfl,rfl⟩ hc5;rw [A1];by_cases q1:q=1
  ·subst q1;obtain ⟨x4,e4,m4,a4⟩:=B9 x3 [32,101,108,115,101,32] (by (try simp)<;>omega);try simp only [List.length_cons,List.length_nil] at m4
   simp only [go_sem,seval,a4,hw1];repeat' ((with_reducible apply wr)<;>try simp only [go_sem,seval,a4,hw1])
   refine AC.call (hK' j3 b3 _ _ t A0 (by omega)) ?_;rintro v' H' c6 ⟨r4,j4,g4,l4,b4,rfl,rfl⟩ hc6;rw [A1];obtain ⟨x5,e5,m5,a5⟩:=B9 x4 r4 (by (try simp)<;>omega);try simp only [List.length_cons,List.length_nil] at m5
   simp only [go_sem,seval,a5,hw1];repeat' ((with_reducible apply wr)<;>try simp only [go_sem,seval,a5,hw1])
   exact ⟨_,_,GL.refl _ _,x5,j4,by rw [e5,e4,e3,e2,e1];exact .ifB g1 g2 g4,by omega,b4,rfl,rfl⟩
  by_cases q2:q=2
  ·subst q2;obtain ⟨x4,e4,m4,a4⟩:=B9 x3 [32,101,108,115,101,32,105,102,32] (by (try simp)<;>omega);try simp only [List.length_cons,List.length_nil] at m4
   simp only [go_sem,seval,a4,hw1];repeat' ((with_reducible apply wr)<;>try simp only [go_sem,seval,a4,hw1])
   refine AC.call (A7d L hL w hw 0 (by decide) j3 b3 _ _ t A0 (by omega)) ?_;rintro v' H' c6 ⟨r4,j4,g4,l4,b4,rfl,rfl⟩ hc6;rw [A1];obtain ⟨x5,e5,m5,a5⟩:=B9 x4 r4 (by (try simp)<;>omega);try simp only [List.length_cons,List.length_nil] at m5
   obtain ⟨x6,e6,m6,a6⟩:=B9 x5 [32] (by (try simp)<;>omega);try simp only [List.length_cons,List.length_nil] at m6
   simp only [go_sem,seval,a5,a6,hw1];repeat' ((with_reducible apply wr)<;>try simp only [go_sem,seval,a5,a6,hw1])
   refine AC.call (hK' j4 b4 _ _ t A0 (by omega)) ?_;rintro v' H' c7 ⟨r5,j5,g5,l5,b5,rfl,rfl⟩ hc7;rw [A1];obtain ⟨x7,e7,m7,a7⟩:=B9 x6 r5 (by (try simp)<;>omega);try simp only [List.length_cons,List.length_nil] at m7
   simp only [go_sem,seval,a7,hw1];repeat' ((with_reducible apply wr)<;>try simp only [go_sem,seval,a7,hw1])
   exact ⟨_,_,GL.refl _ _,x7,j5,by rw [e7,e6,e5,e4,e3,e2,e1];exact .ifC g1 g2 g4 g5,by omega,b5,rfl,rfl⟩
  obtain rfl:q=0:=by omega
  simp only [go_sem,seval];repeat' ((with_reducible apply wr)<;>try simp only [go_sem,seval])
  exact ⟨_,_,GL.refl _ _,x3,j3,by rw [e3,e2,e1];exact .ifA g1 g2,by omega,b3,rfl,rfl⟩
 by_cases k2:k=2
 ·subst k2;cases qd
  rotate_left
  ·simp only [go_sem,seval,hqd];repeat' ((with_reducible apply wr)<;>try simp only [go_sem,seval,hqd,hw1])
   refine AC.call (J1 L hL w hw [118] (by decide) 3 (by decide) (by decide) j hj _ _ t A0 (by omega)) ?_;rintro v' H' c3 ⟨r1,j1,g1,l1,b1,rfl,rfl⟩ hc3;rw [A1];obtain ⟨x1,e1,m1,a1⟩:=B9 r1 [32,61,32] (by (try simp)<;>omega);try simp only [List.length_cons,List.length_nil] at m1
   simp only [go_sem,seval,a1,hw1];repeat' ((with_reducible apply wr)<;>try simp only [go_sem,seval,a1,hw1])
   refine AC.call (R7 L hL w hw 2 (by decide) j1 b1 _ _ t A0 (by omega)) ?_;rintro v' H' c4 ⟨r2,j2,g2,l2,b2,rfl,rfl⟩ hc4;rw [A1];obtain ⟨x2,e2,m2,a2⟩:=B9 x1 r2 (by (try simp)<;>omega);try simp only [List.length_cons,List.length_nil] at m2
   obtain ⟨x3,e3,m3,a3⟩:=B9 x2 [59] (by (try simp)<;>omega);try simp only [List.length_cons,List.length_nil] at m3
   simp only [go_sem,seval,a2,a3,hw1];repeat' ((with_reducible apply wr)<;>try simp only [go_sem,seval,a2,a3,hw1])
   exact ⟨_,_,GL.refl _ _,x3,j2,by rw [e3,e2,e1];exact .asg g1 g2,by omega,b2,rfl,rfl⟩
  have hK':=hK.resolve_left (hqf rfl);simp only [go_sem,seval,hqd];repeat' ((with_reducible apply wr)<;>try simp only [go_sem,seval,hqd,hw1])
  refine AC.call (A7d L hL w hw 1 (by decide) j hj _ _ t A0 (by omega)) ?_;rintro v' H' c3 ⟨r1,j1,g1,l1,b1,rfl,rfl⟩ hc3;rw [A1];obtain ⟨x1,e1,m1,a1⟩:=B9 [105,102,32] r1 (by (try simp)<;>omega);try simp only [List.length_cons,List.length_nil] at m1
  obtain ⟨x2,e2,m2,a2⟩:=B9 x1 [32] (by (try simp)<;>omega);try simp only [List.length_cons,List.length_nil] at m2
  simp only [go_sem,seval,a1,a2,hw1];repeat' ((with_reducible apply wr)<;>try simp only [go_sem,seval,a1,a2,hw1])
  refine AC.call (hK' j1 b1 _ _ t A0 (by omega)) ?_;rintro v' H' c4 ⟨r2,j2,g2,l2,b2,rfl,rfl⟩ hc4;rw [A1];obtain ⟨x3,e3,m3,a3⟩:=B9 x2 r2 (by (try simp)<;>omega);try simp only [List.length_cons,List.length_nil] at m3
  simp only [go_sem,seval,a3,hw1];repeat' ((with_reducible apply wr)<;>try simp only [go_sem,seval,a3,hw1])
  refine AC.call (O9 L hL w 3 (by decide) (by decide) j2 b2 _ _ t A0 (by omega)) ?_;rintro v' H' c5 ⟨q,j3,hq,b3,rfl,rfl⟩ hc5;rw [A1];by_cases q1:q=1
  ·subst q1;obtain ⟨x4,e4,m4,a4⟩:=B9 x3 [32,101,108,115,101,32] (by (try simp)<;>omega);try simp only [List.length_cons,List.length_nil] at m4
   simp only [go_sem,seval,a4,hw1];repeat' ((with_reducible apply wr)<;>try simp only [go_sem,seval,a4,hw1])
   refine AC.call (hK' j3 b3 _ _ t A0 (by omega)) ?_;rintro v' H' c6 ⟨r4,j4,g4,l4,b4,rfl,rfl⟩ hc6;rw [A1];obtain ⟨x5,e5,m5,a5⟩:=B9 x4 r4 (by (try simp)<;>omega);try simp only [List.length_cons,List.length_nil] at m5
   simp only [go_sem,seval,a5,hw1];repeat' ((with_reducible apply wr)<;>try simp only [go_sem,seval,a5,hw1])
   exact ⟨_,_,GL.refl _ _,x5,j4,by rw [e5,e4,e3,e2,e1];exact .ifB g1 g2 g4,by omega,b4,rfl,rfl⟩
  by_cases q2:q=2
  ·subst q2;obtain ⟨x4,e4,m4,a4⟩:=B9 x3 [32,101,108,115,101,32,105,102,32] (by (try simp)<;>omega);try simp only [List.length_cons,List.length_nil] at m4
   simp only [go_sem,seval,a4,hw1];repeat' ((with_reducible apply wr)<;>try simp only [go_sem,seval,a4,hw1])
   refine AC.call (A7d L hL w hw 0 (by decide) j3 b3 _ _ t A0 (by omega)) ?_;rintro v' H' c6 ⟨r4,j4,g4,l4,b4,rfl,rfl⟩ hc6;rw [A1];obtain ⟨x5,e5,m5,a5⟩:=B9 x4 r4 (by (try simp)<;>omega);try simp only [List.length_cons,List.length_nil] at m5
   obtain ⟨x6,e6,m6,a6⟩:=B9 x5 [32] (by (try simp)<;>omega);try simp only [List.length_cons,List.length_nil] at m6
   simp only [go_sem,seval,a5,a6,hw1];repeat' ((with_reducible apply wr)<;>try simp only [go_sem,seval,a5,a6,hw1])
   refine AC.call (hK' j4 b4 _ _ t A0 (by omega)) ?_;rintro v' H' c7 ⟨r5,j5,g5,l5,b5,rfl,rfl⟩ hc7;rw [A1];obtain ⟨x7,e7,m7,a7⟩:=B9 x6 r5 (by (try simp)<;>omega);try simp only [List.length_cons,List.length_nil] at m7
   simp only [go_sem,seval,a7,hw1];repeat' ((with_reducible apply wr)<;>try simp only [go_sem,seval,a7,hw1])
   exact ⟨_,_,GL.refl _ _,x7,j5,by rw [e7,e6,e5,e4,e3,e2,e1];exact .ifC g1 g2 g4 g5,by omega,b5,rfl,rfl⟩
  obtain rfl:q=0:=by omega
  simp only [go_sem,seval];repeat' ((with_reducible apply wr)<;>try simp only [go_sem,seval])
  exact ⟨_,_,GL.refl _ _,x3,j3,by rw [e3,e2,e1];exact .ifA g1 g2,by omega,b3,rfl,rfl⟩
 omega
def A0c (ss:List (List UInt8)):List UInt8:=ss.foldl (fun a x=>(a++[32])++x) [123]
theorem A4l (ss:List (List UInt8)) (x:List UInt8):A0c (ss++[x])=(A0c ss++[32])++x:=by unfold A0c;rw [List.foldl_append];rfl
def BkG (P:List UInt8->Prop) (s:List UInt8):Prop:=∃ ss:List (List UInt8),ss.length<=3/\(∀ x∈ss,P x)/\s=A0c ss++[32,125]
theorem m_block (L:List UInt8) (hL:L.length<=300) (w:Nat) (D:Int) (sb:Nat) (hsb:sb<=10000000) (P:List UInt8->Prop) (hS:MC 139 [I64 D] L w sb P) :
  MC 107 [I64 D] L w (3 * sb+10) (BkG P):=by
 intro i hi H cc t ht htc;refine AC.body A6 isU107 (Nat.le_of_ble_eq_true rfl) fun hfr=>?_;show IW Tryz.prog 21 u107_1 ⟨B4 _,_,_⟩ (rt [.tmp 4] _);repeat' ((with_reducible apply wr)<;>try simp only [go_sem,seval])
 refine AC.call (O9 L hL w 4 (by decide) (by decide) i hi _ _ t ht (by omega)) ?_;rintro v' H' c2 ⟨k,j,hlt,hj,rfl,rfl⟩ hc2;simp only [go_sem,seval];repeat' ((with_reducible apply wr)<;>try simp only [go_sem,seval])
 refine C3 (fun q:Nat × Nat × List (List UInt8)=>[(0,.ptr t 0),(1,I64 D),(5,.str (A0c q.2.2)),(6,I64 q.1)]) (fun q=>H.upd t (mkB L w q.2.1))
  (fun q c=>cc<=c/\q.1+q.2.2.length<=3/\q.2.1<=300/\(∀ x∈q.2.2,P x)/\(A0c q.2.2).length<=1+q.2.2.length * (sb+1)) (fun q=>q.1) (k,j,[])
  (by simp [C1,tm,Tm.upd,A0c]) (Sub.refl _) ⟨hc2,(by show k+0<=3;omega),hj,(fun x hx=>absurd hx (List.not_mem_nil)),(by show 1<=1+0 * _;omega)⟩ ?_
 rintro ⟨n,i2,ss⟩ c ⟨hc,hn,hi2,hP,hl⟩;dsimp only at hc hn hi2 hP hl ⊢;have hs3:ss.length * (sb+1)<=3 * (sb+1):=Nat.mul_le_mul_right _ (by omega);by_cases h0:0<n
 ·have qn:decide ((n:Int)>0)=true:=by simpa using h0
  have hs2:ss.length * (sb+1)<=2 * (sb+1):=Nat.mul_le_mul_right _ (by omega);obtain ⟨n,rfl⟩:∃ m,n=m+1:=⟨n-1,by omega⟩;have hw1:IntKind.i64.wrap (((n+1:Nat):Int)-1)=(n:Int):=by rw [w64 (by omega) (by omega)];omega
  generalize hn1:((n+1:Nat):Int)=N1 at qn hw1 ⊢;obtain ⟨x1,e1,m1,a1⟩:=B9 (A0c ss) [32] (by (try simp)<;>omega);try simp only [List.length_cons,List.length_nil] at m1
  repeat' ((with_reducible apply wr)<;>try simp only [go_sem,seval,qn,a1])
  refine AC.call (hS i2 hi2 _ _ t A0 (by omega)) ?_;rintro v' H' c3 ⟨r,i3,g,l,hi3,rfl,rfl⟩ hc3;obtain ⟨x2,e2,m2,a2⟩:=B9 x1 r (by omega);rw [A1];simp only [go_sem,seval,a1,a2,hw1];repeat' ((with_reducible apply wr)<;>try simp only [go_sem,seval,a1,a2,hw1])
  refine ⟨(n,i3,ss++[r]),?_,Sub.refl _,inv ⟨by omega,by simp;omega,hi3,?_,?_⟩,by simp only;omega⟩
  ·rw [e1] at e2;simp [C1,tm,Tm.upd,A4l,e2]
  ·intro x hx;rcases List.mem_append.1 hx with hx|hx
   ·exact hP x hx
   ·rw [List.mem_singleton.1 hx];exact g
  ·rw [A4l, <- e1, <- e2,List.length_append,List.length_singleton,Nat.add_mul];omega
 ·obtain rfl:n=0:=by omega
  obtain ⟨x1,e1,m1,a1⟩:=B9 (A0c ss) [32,125] (by (try simp)<;>omega);try simp only [List.length_cons,List.length_nil] at m1
  repeat' ((with_reducible apply wr)<;>try simp only [go_sem,seval,a1])
  exact ⟨_,_,GL.refl _ _,x1,i2,⟨ss,by omega,hP,e1⟩,by omega,hi2,rfl,rfl⟩
def StD (L:List UInt8) (w:Nat):Nat->List UInt8->Prop
 | 0=>StG L w fun _=>False
 | d+1=>StG L w (BkG (StD L w d))
def sbD:Nat->Nat
 | 0=>8000
 | d+1=>2 * (3 * sbD d+10)+8000
theorem m_stmt (L:List UInt8) (hL:L.length<=300) (w:Nat) (hw:w<=100):∀ d:Nat,d<=2->MC 139 [I64 d] L w (sbD d) (StD L w d)
 | 0,_=>c_Stmt L hL w hw 0 (by omega) (by omega) 0 (by omega) _ (.inl (by omega))
 | d+1,h=>by
  have hs:∀ d,d<=2->sbD d<=1000000:=by decide
  have h1:=m_stmt L hL w hw d (by omega);have h2:=m_block L hL w (d:Int) (sbD d) (by have:=hs d (by omega);omega) _ h1;have e:(((d+1:Nat):Int)-1)=(d:Int):=by omega
  refine c_Stmt L hL w hw ((d+1:Nat):Int) (by omega) (by omega) (3 * sbD d+10) (by have:=hs d (by omega);omega) _ (.inr ?_);rw [e];exact h2
theorem m_blk2 (L:List UInt8) (hL:L.length<=300) (w:Nat) (hw:w<=100):MC 107 [I64 2] L w 2000000 (BkG (StD L w 2)):=by
 intro i hi H cc t ht htc;refine (m_block L hL w ((2:Nat):Int) (sbD 2) (by decide) _ (m_stmt L hL w hw 2 (by omega)) i hi H cc t ht htc).mono ?_;rintro v H' c' ⟨s,j,h1,h2,h3⟩;exact ⟨s,j,h1,Nat.le_trans h2 (by decide),h3⟩
def trgL:List (List UInt8):=[[115,116,97,114,116],[115,116,111,112],[99,108,111,115,101,32,115,119,48],[111,112,101,110,32,115,119,48],[99,108,111,115,101,32,115,119,49],[99,108,111,115,101,32,115,119,50],[116,105,109,101,114,32,116,109,48],[116,105,109,101,114,32,116,109,49],[101,118,101,110,116,32,101,118,48],[101,118,101,110,116,32,101,118,49],[111,112,101,110,32,115,119,51]]
def trgV:List DV:=[.str [115,116,97,114,116],.str [115,116,111,112],.str [99,108,111,115,101,32,115,119,48],.str [111,112,101,110,32,115,119,48],.str [99,108,111,115,101,32,115,119,49],.str [99,108,111,115,101,32,115,119,50],.str [116,105,109,101,114,32,116,109,48],.str [116,105,109,101,114,32,116,109,49],.str [101,118,101,110,116,32,101,118,48],.str [101,118,101,110,116,32,101,118,49],.str [111,112,101,110,32,115,119,51]]
theorem trgV_get {k:Nat} (h:k<11):trgV[k]? = some (.str (trgL.getD k [])):=by
 match k,h with
 | 0,_=>rfl
 | 1,_=>rfl
 | 2,_=>rfl
 | 3,_=>rfl
 | 4,_=>rfl
 | 5,_=>rfl
 | 6,_=>rfl
 | 7,_=>rfl
 | 8,_=>rfl
 | 9,_=>rfl
 | 10,_=>rfl
inductive HdG (L:List UInt8) (w k:Nat):List UInt8->Prop where
 | std {x:List UInt8}:BkG (StD L w 2) x->HdG L w k ((([111,110,32]++trgL.getD (k % 11) [])++[32])++x)
 | wild {n x:List UInt8}:0<w->NmS L w [115,119] 4 n->BkG (StD L w 2) x->HdG L w k ((([111,110,32]++([99,108,111,115,101,32]++n))++[32])++x)
theorem m_handler (L:List UInt8) (hL:L.length<=300) (w:Nat) (hw:w<=100) (k:Nat) (hk:k<=1000):MC 69 [I64 k] L w 2001000 (HdG L w k):=by
 intro i hi H cc t ht htc;refine AC.body A6 isU69 (Nat.le_of_ble_eq_true rfl) fun hfr=>?_;show IW Tryz.prog 34 u69_1 ⟨B4 _,_,_⟩ (rt [.tmp 4] _);have hrm:binR .rem (I64 (k:Int)) (.int .i64 11)=some (I64 ((k % 11:Nat):Int)):=by rw [A5p (by decide)];rfl
 repeat' ((with_reducible apply wr)<;>try simp only [go_sem,seval,hrm])
 have hm11:=Nat.mod_lt k (show 0<11 by decide);have hld:=trgV_get hm11;have hg:=K4 (l:=trgL) (n:=10) (by decide) (k % 11);have hcon:∀ x,BkG (StD L w 2) x->HdG L w k ((([111,110,32]++trgL.getD (k % 11) [])++[32])++x):=fun x hx=>.std hx;generalize k % 11=m at hm11 hld hg hcon ⊢;generalize trgL.getD m []=tr at hld hg hcon ⊢;have hia:N0 1 (.slc cc 0 11) (I64 (m:Int))=some (.ptr cc m):=by simp [N0];omega
 rw [show ([.str [115,116,97,114,116],.str [115,116,111,112],.str [99,108,111,115,101,32,115,119,48],.str [111,112,101,110,32,115,119,48],.str [99,108,111,115,101,32,115,119,49],.str [99,108,111,115,101,32,115,119,50],.str [116,105,109,101,114,32,116,109,48],.str [116,105,109,101,114,32,116,109,49],.str [101,118,101,110,116,32,101,118,48],.str [101,118,101,110,116,32,101,118,49],.str [111,112,101,110,32,115,119,51]]:List DV)=trgV from rfl];generalize trgV=WL at hld ⊢;have ne0:=M8 t cc (by omega);have kB:∀ (i2 c0:Nat) (tx:List UInt8),i2<=300->cc+1<=c0->tx.length<=300->(∀ x,BkG (StD L w 2) x->HdG L w k ((([111,110,32]++tx)++[32])++x)) ->
   IW Tryz.prog 34 u69_7 ⟨tm [(0,.ptr t 0),(5,.str tx)],(H.upd cc ⟨1,true,WL⟩).upd t (mkB L w i2),c0⟩ (rt [.tmp 4] fun v H' c' => ∃ v2 H2,GL H' [v] H2 [v2]/\∃ s j,HdG L w k s/\s.length<=2001000/\j<=300/\v2=.str s/\H2=H.upd t (mkB L w j)):=by
  intro i2 c0 tx hi2 hc0 htx hx;obtain ⟨x1,e1,m1,a1⟩:=B9 [111,110,32] tx (by (try simp)<;>omega);try simp only [List.length_cons,List.length_nil] at m1
  obtain ⟨x2,e2,m2,a2⟩:=B9 x1 [32] (by (try simp)<;>omega);try simp only [List.length_cons,List.length_nil] at m2
  repeat' ((with_reducible apply wr)<;>try simp only [go_sem,seval,a1,a2])
  refine AC.call (m_blk2 L hL w hw i2 hi2 _ _ t A0 (by omega)) ?_;rintro v' H' c3 ⟨r,j,g,l,b,rfl,rfl⟩ hc3;obtain ⟨x3,e3,m3,a3⟩:=B9 x2 r (by omega);rw [A1];simp only [go_sem,seval,a3];repeat' ((with_reducible apply wr)<;>try simp only [go_sem,seval,a3])
  refine ⟨_,_,GL.less' (fun j2 q hj=>?_),x3,j,by rw [e3,e2,e1];exact hx r g,by omega,b,rfl,rfl⟩;by_cases e:j2=t
  ·subst e;rw [A0] at hj ⊢;exact hj
  ·rw [A2 e] at hj ⊢;have:j2≠cc:=by rintro rfl;rw [hfr _ (by omega)] at hj;cases hj
   rw [A2 this];exact hj
 simp only [go_sem,seval,ne0,hia,hld,A0,ht];by_cases h0:0<w
 ·have q0:decide ((w:Int)>0)=true:=by simpa using h0
  repeat' ((with_reducible apply wr)<;>try simp only [go_sem,seval,ne0,hia,hld,A0,ht,q0])
  refine AC.call (O9 L hL w w h0 (by omega) i hi _ _ t (by rw [A2 (by omega)];exact ht) (by omega)) ?_;rintro v' H' c2 ⟨q,j,hq,hj,rfl,rfl⟩ hc2;by_cases q1:q=1
  ·subst q1;simp only [go_sem,seval];repeat' ((with_reducible apply wr)<;>try simp only [go_sem,seval])
   refine AC.call (J1 L hL w hw [115,119] (by decide) 4 (by decide) (by decide) j hj _ _ t A0 (by omega)) ?_;rintro v' H' c3 ⟨r,j2,g,l,b,rfl,rfl⟩ hc3;obtain ⟨x1,e1,m1,a1⟩:=B9 [99,108,111,115,101,32] r (by (try simp)<;>omega);try simp only [List.length_cons,List.length_nil] at m1
   rw [A1];simp only [go_sem,seval,a1];repeat' ((with_reducible first|refine G1 (p:=IW _ _ u69_7 _ _) ?_|refine wr ?_|fail)<;>try simp only [go_sem,seval,a1])
   exact IW.stage (by simp [C1,tm,Tm.upd]) (kB j2 _ x1 b (by omega) (by omega) (fun x hx=>by rw [e1];exact .wild h0 g hx))
  ·have qq:((q:Int) == 1)=false:=by simp;omega
   simp only [go_sem,seval,qq];repeat' ((with_reducible first|refine G1 (p:=IW _ _ u69_7 _ _) ?_|refine wr ?_|fail)<;>try simp only [go_sem,seval,qq])
   exact IW.stage (by simp [C1,tm,Tm.upd]) (kB j _ tr hj (by omega) (by omega) hcon)
 ·have q0:decide ((w:Int)>0)=false:=by simpa using h0
  repeat' ((with_reducible first|refine G1 (p:=IW _ _ u69_7 _ _) ?_|refine wr ?_|fail)<;>try simp only [go_sem,seval,ne0,hia,hld,A0,ht,q0])
  have:=kB i (cc+1) tr hi (Nat.le_refl _) (by omega) hcon;rw [upd_same (by rw [A2 (by omega)];exact ht)] at this;exact IW.stage (by simp [C1,tm,Tm.upd]) this
def ruA:List UInt8:=[115,119,105,116,99,104,32,115,119,48,32,51,59,32,115,119,105,116,99,104,32,115,119,49,32,57,59,32,115,119,105,116,99,104,32,115,119,50,32,52,48,59,32,115,119,105,116,99,104,32,115,119,51,32,54,51,59,10,99,111,105,108,32,99,111,105,108,48,32,48,59,32,99,111,105,108,32,99,111,105,108,49,32,55,59,32,99,111,105,108,32,99,111,105,108,50,32,51,49,59,10,108,97,109,112,32,108,97,109,112,48,32,48,59,32,108,97,109,112,32,108,97,109,112,49,32,57,59,32,108,97,109,112,32,108,97,109,112,50,32,51,51,59,32,108,97,109,112,32,108,97,109,112,51,32,54,51,59,10,115,111,117,110,100,32,115,110,100,48,32,48,59,32,115,111,117,110,100,32,115,110,100,49,32,53,59,32,115,104,111,119,32,115,104,111,119,48,32,48,59,32,115,104,111,119,32,115,104,111,119,49,32,49,59,10]
def ruB:List UInt8:=[118,97,114,32,118,48,32]
def ruC:List UInt8:=[59,32,118,97,114,32,118,49,32,49,59,32,118,97,114,32,118,50,32,48,59,32,116,105,109,101,114,32,116,109,48,59,32,116,105,109,101,114,32,116,109,49,59,32,101,118,101,110,116,32,101,118,48,59,32,101,118,101,110,116,32,101,118,49,59,10]
def v0L:List (List UInt8):=[[48],[53],[45,55],[50,49,52,55,52,56,51,54,52,55]]
def v0V:List DV:=[.str [48],.str [53],.str [45,55],.str [50,49,52,55,52,56,51,54,52,55]]
theorem v0V_get {k:Nat} (h:k<4):v0V[k]? = some (.str (v0L.getD k [])):=by
 match k,h with
 | 0,_=>rfl
 | 1,_=>rfl
 | 2,_=>rfl
 | 3,_=>rfl
def R9 (s:List UInt8) (hs:List (List UInt8)):List UInt8:=hs.foldl (fun a x=>(a++x)++[10]) s
theorem foldH_snoc (s:List UInt8) (hs:List (List UInt8)) (x:List UInt8):R9 s (hs++[x])=(R9 s hs++x)++[10]:=by unfold R9;rw [List.foldl_append];rfl
def A7c (s:List UInt8) (i p:Nat):List UInt8:=((((s++[109,111,100,101,32,109,111,100,101])++N7 (i:Int))++[32])++N7 (p:Int))++[32,123,10]
inductive RuP (L:List UInt8) (w:Nat):Nat->List UInt8->Prop where
 | head {k:Nat}:k<4->RuP L w 0 (((ruA++ruB)++v0L.getD k [])++ruC)
 | mode {i p k:Nat} {s:List UInt8} {hs:List (List UInt8)}:RuP L w i s->p<4->k<11->hs.length<=4->(∀ j x,hs[j]? = some x->HdG L w (k+j) x)->RuP L w (i+1) (R9 (A7c s i p) hs++[125,10])
theorem m_rules (L:List UInt8) (hL:L.length<=300) (w:Nat) (hw:w<=100):MC 35 [] L w 30000000 (RuP L w 3):=by
 intro i hi H cc t ht htc;refine AC.body A6 isU35 (Nat.le_of_ble_eq_true rfl) fun hfr=>?_;show IW Tryz.prog 50 u35_1 ⟨B4 _,_,_⟩ (rt [.tmp 2] _);obtain ⟨x1,e1,m1,a1⟩:=B9 ruA ruB (by decide);have l1:x1.length<=300:=by rw [m1];decide
 replace a1:binR .add (.str [115,119,105,116,99,104,32,115,119,48,32,51,59,32,115,119,105,116,99,104,32,115,119,49,32,57,59,32,115,119,105,116,99,104,32,115,119,50,32,52,48,59,32,115,119,105,116,99,104,32,115,119,51,32,54,51,59,10,99,111,105,108,32,99,111,105,108,48,32,48,59,32,99,111,105,108,32,99,111,105,108,49,32,55,59,32,99,111,105,108,32,99,111,105,108,50,32,51,49,59,10,108,97,109,112,32,108,97,109,112,48,32,48,59,32,108,97,109,112,32,108,97,109,112,49,32,57,59,32,108,97,109,112,32,108,97,109,112,50,32,51,51,59,32,108,97,109,112,32,108,97,109,112,51,32,54,51,59,10,115,111,117,110,100,32,115,110,100,48,32,48,59,32,115,111,117,110,100,32,115,110,100,49,32,53,59,32,115,104,111,119,32,115,104,111,119,48,32,48,59,32,115,104,111,119,32,115,104,111,119,49,32,49,59,10]) (.str [118,97,114,32,118,48,32])=some (.str x1):=a1;dsimp only at a1;repeat' ((with_reducible apply wr)<;>try simp only [go_sem,seval,a1])
 refine AC.call (O9 L hL w 4 (by decide) (by decide) i hi _ _ t (by rw [A2 (by omega)];exact ht) (by omega)) ?_;rintro v' H' c3 ⟨k3,j1,hlt3,b1,rfl,rfl⟩ hc3;have hia:N0 1 (.slc (cc) 0 4) (I64 (k3:Int))=some (.ptr (cc) k3):=by simp [N0];omega
 have hld:=v0V_get hlt3;have hg:=K4 (l:=v0L) (n:=10) (by decide) k3;have hcon:RuP L w 0 (((ruA++ruB)++v0L.getD k3 [])++ruC):=.head hlt3;generalize hog:v0L.getD k3 []=og at hg hld hcon;generalize hWL:v0V=WL at hld;have hWL2:[.str [48],.str [53],.str [45,55],.str [50,49,52,55,52,56,51,54,52,55]]=WL:=hWL;have ne0:=M8 t cc (by omega);obtain ⟨x2,e2,m2,a2⟩:=B9 x1 og (by omega);have l2:ruC.length<=100:=by decide
 obtain ⟨x3,e3,m3,a3⟩:=B9 x2 ruC (by omega);replace a3:binR .add (.str x2) (.str [59,32,118,97,114,32,118,49,32,49,59,32,118,97,114,32,118,50,32,48,59,32,116,105,109,101,114,32,116,109,48,59,32,116,105,109,101,114,32,116,109,49,59,32,101,118,101,110,116,32,101,118,48,59,32,101,118,101,110,116,32,101,118,49,59,10])=some (.str x3):=a3;dsimp only at a3;simp only [go_sem,seval,A0,A1,ne0,hia,hWL2,hld,a1,a2,a3];have hfin:∀ (B:Blk) ds,GL ((H.upd cc ⟨1,true,WL⟩).upd t B) ds (H.upd t B) ds:=fun B ds=>GL.less' (fun j2 q hj=>by
  by_cases e:j2=t
  ·subst e;rw [A0] at hj ⊢;exact hj
  ·rw [A2 e] at hj ⊢;have:j2≠cc:=by rintro rfl;rw [hfr _ (by omega)] at hj;cases hj
   rw [A2 this];exact hj)
 generalize H.upd cc ⟨1,true,WL⟩=G at hfin ⊢;have hx3:RuP L w 0 x3:=by rw [e3,e2,e1];exact hcon
 have l3:x3.length<=500:=by omega
 clear hcon e1 e2 e3 a1 a2 a3 hld hWL hWL2 hia;repeat' ((with_reducible apply wr)<;>try simp only [go_sem,seval])
 refine C3 (fun q:Nat × Nat × List UInt8=>[(0,.ptr t 0),(3,.str q.2.2),(4,I64 q.1)]) (fun q=>G.upd t (mkB L w q.2.1))
  (fun q c=>cc<=c/\q.1<=3/\q.2.1<=300/\RuP L w q.1 q.2.2/\q.2.2.length<=500+q.1 * 8100000) (fun q=>3-q.1) (0,j1,x3)
  (by simp [C1,tm,Tm.upd]) (Sub.refl _) ⟨(by omega),(by omega),b1,hx3,(by show x3.length<=500+0 * _;omega)⟩ ?_
 rintro ⟨i,j,s⟩ c ⟨hc,hi3,hj,hR,hl⟩;dsimp only at hc hi3 hj hR hl ⊢;have hl3:s.length<=25000000:=by have:i * 8100000<=3 * 8100000:=Nat.mul_le_mul_right _ hi3;omega
 by_cases h3:i<3
 ·have qi:decide ((i:Int)<3)=true:=by simp;omega
  have hdi:=c_Dec' (i:Int) (by omega) (by omega);have hdil:=O4 (n:=(i:Int)) (by omega) (by omega);obtain ⟨y1,f1,n1,c1⟩:=B9 s [109,111,100,101,32,109,111,100,101] (by (try simp)<;>omega);try simp only [List.length_cons,List.length_nil] at n1
  obtain ⟨y2,f2,n2,c2⟩:=B9 y1 (N7 (i:Int)) (by omega);obtain ⟨y3,f3,n3,c3⟩:=B9 y2 [32] (by (try simp)<;>omega);try simp only [List.length_cons,List.length_nil] at n3
  repeat' ((with_reducible first|apply wr|refine cpc hdi ?_|fail)<;>try simp only [go_sem,seval,qi,c1,c2,c3])
  refine AC.call (O9 L hL w 4 (by decide) (by decide) j hj _ _ t A0 (by omega)) ?_;rintro v' H' c4 ⟨p,j2,hp,b2,rfl,rfl⟩ hc4;rw [A1];have hdp:=c_Dec' (p:Int) (by omega) (by omega);have hdpl:=O4 (n:=(p:Int)) (by omega) (by omega);obtain ⟨y4,f4,n4,c5⟩:=B9 y3 (N7 (p:Int)) (by omega);obtain ⟨y5,f5,n5,c6⟩:=B9 y4 [32,123,10] (by (try simp)<;>omega);try simp only [List.length_cons,List.length_nil] at n5
  simp only [go_sem,seval,c5,c6];repeat' ((with_reducible first|apply wr|refine cpc hdp ?_|fail)<;>try simp only [go_sem,seval,c5,c6])
  refine AC.call (O9 L hL w 11 (by decide) (by decide) j2 b2 _ _ t A0 (by omega)) ?_;rintro v' H' c7 ⟨k,j3,hk,b3,rfl,rfl⟩ hc7;rw [A1];simp only [go_sem,seval];repeat' ((with_reducible apply wr)<;>try simp only [go_sem,seval])
  refine AC.call (O9 L hL w 5 (by decide) (by decide) j3 b3 _ _ t A0 (by omega)) ?_;rintro v' H' c8 ⟨n,j4,hn,b4,rfl,rfl⟩ hc8;rw [A1];simp only [go_sem,seval];repeat' ((with_reducible apply wr)<;>try simp only [go_sem,seval])
  have hy:y5=A7c s i p:=by rw [f5,f4,f3,f2,f1];rfl
  have ly:y5.length<=s.length+200:=by omega
  refine C3 (fun q:Nat × Nat × List (List UInt8)=>[(0,.ptr t 0),(3,.str (R9 y5 q.2.2)),(4,I64 i),(5,I64 (k+q.2.2.length:Nat)),(6,I64 q.1)]) (fun q=>G.upd t (mkB L w q.2.1))
   (fun q n=>cc<=n/\q.1+q.2.2.length<=4/\q.2.1<=300/\(∀ j x,q.2.2[j]? = some x->HdG L w (k+j) x)/\(R9 y5 q.2.2).length<=y5.length+q.2.2.length * 2001001) (fun q=>q.1) (n,j4,[])
   (by simp [C1,tm,Tm.upd,R9]) (Sub.refl _) ⟨(by omega),(by show n+0<=4;omega),b4,(fun j x h=>by cases h),(by show y5.length<=y5.length+0 * _;omega)⟩ ?_
  clear hc8 b4 hn n j4 c8;rintro ⟨n,j5,hs⟩ c8 ⟨hc8,hn,b5,hH,lh⟩;dsimp only at hc8 hn b5 hH lh ⊢;have hs4:hs.length * 2001001<=4 * 2001001:=Nat.mul_le_mul_right _ (by omega);by_cases h0:0<n
  ·have qn:decide ((n:Int)>0)=true:=by simpa using h0
   have hs3:hs.length * 2001001<=3 * 2001001:=Nat.mul_le_mul_right _ (by omega);obtain ⟨n,rfl⟩:∃ m,n=m+1:=⟨n-1,by omega⟩;have hw1:IntKind.i64.wrap (((n+1:Nat):Int)-1)=(n:Int):=by rw [w64 (by omega) (by omega)];omega
   have hw2:IntKind.i64.wrap (((k+hs.length:Nat):Int)+1)=((k+hs.length+1:Nat):Int):=by rw [w64 (by omega) (by omega)];omega
   generalize hn1:((n+1:Nat):Int)=N1 at qn hw1 ⊢;generalize hk1:k+hs.length=K1 at hw2 ⊢;repeat' ((with_reducible apply wr)<;>try simp only [go_sem,seval,qn])
   refine AC.call (m_handler L hL w hw K1 (by omega) j5 b5 _ _ t A0 (by omega)) ?_;rintro v' H' c9 ⟨r,j6,g,l,b6,rfl,rfl⟩ hc9;obtain ⟨z1,g1,o1,d1⟩:=B9 (R9 y5 hs) r (by omega);obtain ⟨z2,g2,o2,d2⟩:=B9 z1 [10] (by (try simp)<;>omega);try simp only [List.length_cons,List.length_nil] at o2
   rw [A1];simp only [go_sem,seval,d1,d2,hw1,hw2];repeat' ((with_reducible apply wr)<;>try simp only [go_sem,seval,d1,d2,hw1,hw2])
   have e1:R9 y5 (hs++[r])=z2:=by rw [foldH_snoc,g2,g1]
   have e2:(hs++[r]).length=hs.length+1:=by simp
   refine ⟨(n,j6,hs++[r]),?_,Sub.refl _,inv ⟨(by omega),(by show n+(hs++[r]).length<=4;omega),b6,(fun j x hx=>?_),(by show (R9 y5 (hs++[r])).length<=y5.length+(hs++[r]).length * 2001001;rw [e1,e2,Nat.add_mul];omega)⟩,(by simp only;omega)⟩
   ·simp only [e1,e2];simp [C1,tm,Tm.upd];omega
   ·by_cases hj2:j<hs.length
    ·rw [List.getElem?_append_left hj2] at hx;exact hH j x hx
    ·rw [List.getElem?_append_right (by omega)] at hx;have hj3:j-hs.length=0:=by
      have:=(List.getElem?_eq_some_iff.1 hx).1;simp at this;omega
     rw [hj3] at hx;cases hx;obtain rfl:j=hs.length:=by omega
     rw [hk1];exact g
  ·obtain rfl:n=0:=by omega
   obtain ⟨z1,g1,o1,d1⟩:=B9 (R9 y5 hs) [125,10] (by (try simp)<;>omega);try simp only [List.length_cons,List.length_nil] at o1
   have hw2:IntKind.i64.wrap ((i:Int)+1)=((i+1:Nat):Int):=by rw [w64 (by omega) (by omega)];omega
   repeat' ((with_reducible apply wr)<;>try simp only [go_sem,seval,d1,hw2])
   refine ⟨(i+1,j5,z1),(by simp [C1,tm,Tm.upd]),Sub.refl _,inv ⟨(by omega),(by omega),b5,(by show RuP L w (i+1) z1;rw [g1,hy];exact .mode hR hp hk (by omega) hH),(by show z1.length<=500+(i+1) * 8100000;rw [Nat.add_mul];omega)⟩,(by simp only;omega)⟩
 ·obtain rfl:i=3:=by omega
  repeat' ((with_reducible apply wr)<;>try simp only [go_sem,seval])
  exact ⟨_,_,hfin _ _,s,j,hR,by omega,hj,rfl,rfl⟩
theorem c_New (l:List UInt8) (hl:l.length<=9223372036854775807) (H:Hp) (cc:Nat) :
  AC Tryz.prog 22 [.lst (bytesC l)] H cc (fun v H' c' => ∃ t,cc<=t/\t<c'/\v=.ptr t 0/\H'=H.upd t (mkB (l.take 300) 0 0)):=by
 refine AC.body A6 isU22 (Nat.le_of_ble_eq_true rfl) fun hfr=>?_;show IW Tryz.prog 10 u22_1 ⟨B4 _,_,_⟩ (rt [.tmp 2] _);have hlen:(bytesC l).length=l.length:=by simp [bytesC]
 have hmin:(if (300:Int)<((l.length:Nat):Int) then (300:Int) else ((l.length:Nat):Int))=((min l.length 300:Nat):Int):=by split<;>omega
 have hsl:A1k H 1 (.lst (bytesC l)) none (some (I64 ((min l.length 300:Nat):Int)))=some (.lst (bytesC (l.take 300))):=by
  have hb:boundOf (bytesC l).length (some (I64 ((min l.length 300:Nat):Int)))=some (min l.length 300):=by simp [boundOf]
  have hu:Sym.unit 1 (bytesC l)=true:=by simp only [Sym.unit,bytesC,List.all_map];exact List.all_eq_true.2 fun x _=>rfl
  simp only [A1k,hb];have h0:boundOf 0 none=some 0:=rfl;rw [h0];dsimp only;rw [if_pos ⟨by rw [hlen];omega,Nat.zero_le _,hu⟩];rw [List.drop_zero,Nat.sub_zero];unfold bytesC;rw [<- List.map_take];have e:l.take (min l.length 300)=l.take 300:=by
   rcases Nat.le_total l.length 300 with h|h
   ·rw [Nat.min_eq_left h,List.take_of_length_le (Nat.le_refl _),List.take_of_length_le h]
   ·rw [Nat.min_eq_right h]
  rw [e]
 repeat' ((with_reducible apply wr)<;>try simp only [go_sem,seval,hlen,hmin,hsl])
 exact ⟨_,_,GL.refl _ _,cc,Nat.le_refl _,Nat.lt_succ_self _,rfl,rfl⟩
theorem c_Made (l:List UInt8) (hl:l.length<=9223372036854775807) (u:UInt8) (H:Hp) (cc:Nat) :
  AC Tryz.prog 13 [.lst (bytesC l),.int .u8 (u.toNat:Int)] H cc (fun v H' c' => ∃ s,RuP (l.take 300) (u.toNat % 20) 3 s/\v=(K5 s).1.v/\H'=H):=by
 refine AC.body A6 isU13 (Nat.le_of_ble_eq_true rfl) fun hfr=>?_;show IW Tryz.prog 25 u13_1 ⟨B4 _,_,_⟩ (rt [.cell 4 2 true] _);have hb:=u.toNat_lt;have h300:(l.take 300).length<=300:=by rw [List.length_take];omega
 repeat' ((with_reducible apply wr)<;>try simp only [go_sem,seval])
 refine AC.call (c_New l hl _ _) ?_;rintro v' H' c2 ⟨t,ht1,ht2,rfl,rfl⟩ hc2;have hrm:binR .rem (.int .u8 (u.toNat:Int)) (.int .u8 20)=some (.int .u8 ((u.toNat % 20:Nat):Int)):=by rw [A5p (by decide)];rfl
 have hw1:IntKind.i64.wrap ((u.toNat % 20:Nat):Int)=((u.toNat % 20:Nat):Int):=w64 (by omega) (by omega);simp only [go_sem,seval,A0,A1];repeat' ((with_reducible apply wr)<;>try simp only [go_sem,seval,A0,A1,hrm,hw1])
 refine AC.call (m_rules (l.take 300) h300 (u.toNat % 20) (by omega) 0 (by omega) _ _ t A0 (by omega)) ?_;rintro v' H' c3 ⟨s,j,g,ls,b,rfl,rfl⟩ hc3;have hp:=c_Parse s (by omega);have hpv:parV (K5 s)=.tup [(K5 s).1.v,I64 (K5 s).2.1,I64 (K5 s).2.2]:=rfl;rw [hpv] at hp;generalize hr:(K5 s).1=r at hp;generalize (K5 s).2.1=r1 at hp;generalize (K5 s).2.2=r2 at hp;have hrv:r.v=.agg [H4 r.decls,I5 r.modes]:=rfl;rw [hrv] at hp;rw [A1];have ne0:=T8 cc t c3 (by omega);simp only [go_sem,seval,ne0,A0,A1];repeat' ((with_reducible first|apply wr|refine cpc hp ?_|fail)<;>try simp only [go_sem,seval,ne0,A0,A1])
 rw [C7 (rv2 rfl A0)];refine ⟨_,_,GL.less' (fun j2 q hj=>?_),s,g,by rw [hr],rfl⟩;have hj2:j2<cc:=Classical.byContradiction fun h=>by rw [hfr _ (by omega)] at hj;cases hj
 dsimp only;rw [A2 (by omega),A2 (by omega),A2 (by omega),A2 (by omega)];exact hj
theorem bytes_nl (l:List UInt8):DV.nlL (bytesC l)=true:=J5 (fun _=>rfl) l
end Go.Proofs.YtnmkkggfgdfmeaaGreatDoor
set_option linter.unusedSectionVars false
namespace Go.Pb
variable [Go.Sym.Tab]
open Go.Sym
theorem A2z {α : Type} [DecidableEq α] {l:List α} {x : α}:(l++[x]).Nodup↔l.Nodup/\x ∉ l:=by
 rw [List.nodup_append];constructor
 ·rintro ⟨h1, -,h2⟩;exact ⟨h1,fun hx=>h2 x hx x (List.mem_singleton.2 rfl) rfl⟩
 ·rintro ⟨h1,h2⟩;exact ⟨h1,by simp,fun a ha b hb e=>by rw [List.mem_singleton.1 hb] at e;exact h2 (e▸ha)⟩
theorem any_name {D:List Dc} {n:List UInt8}:D.any (fun d=>d.name == n)=false↔n ∉ D.map Dc.name:=by
 rw [List.any_eq_false];constructor
 ·intro h hm;obtain ⟨d,hd,rfl⟩:=List.mem_map.1 hm;exact h d hd (by simp)
 ·intro h d hd he;exact h (List.mem_map.2 ⟨d,hd,by simpa using he⟩)
theorem any_nameM {D:List Md} {n:List UInt8}:D.any (fun d=>d.name == n)=false↔n ∉ D.map Md.name:=by
 rw [List.any_eq_false];constructor
 ·intro h hm;obtain ⟨d,hd,rfl⟩:=List.mem_map.1 hm;exact h d hd (by simp)
 ·intro h d hd he;exact h (List.mem_map.2 ⟨d,hd,by simpa using he⟩)
theorem R2.app {a b:List Dc}:R2 (a++b)↔R2 a/\R2 b :=
 ⟨fun h=>⟨fun d hd=>h d (List.mem_append_left _ hd),fun d hd=>h d (List.mem_append_right _ hd)⟩,fun h d hd=>(List.mem_append.1 hd).elim (h.1 d) (h.2 d)⟩
theorem if_none {b:Prop} [Decidable b] {q:Int × Int}:((if b then some q else none):Er)=none↔¬b:=by
 split<;>simp [*]
theorem if_none2 {b:Prop} [Decidable b] {q:Int × Int}:((if b then none else some q):Er)=none↔b:=by
 split<;>simp [*]
theorem erD_none:∀ (D pre:List Dc),R2 (pre++D)->(pre.map Dc.name).Nodup->(erD pre D=none↔(∀ d∈D,¬ d.value>A7b d.kind)/\((pre++D).map Dc.name).Nodup)
 | [],pre,hk,hn=>by rw [erD,List.append_nil];exact ⟨fun _=>⟨fun d hd=>(by cases hd),hn⟩,fun _=>rfl⟩
 | d :: l,pre,hk,hn=>by
  have hk':R2 ((pre++[d])++l):=by rw [List.append_assoc];exact hk
  have hkp:R2 pre:=(R2.app.1 hk).1;have hl:=A3b pre [] d.name hkp;rw [any_name] at hl;rw [erD,Option.or_eq_none_iff,Option.or_eq_none_iff,if_none,if_none2,hl];have e:pre++d :: l=(pre++[d])++l:=by simp
  by_cases hm:d.name∈pre.map Dc.name
  ·constructor
   ·rintro ⟨⟨-,h, -⟩, -⟩;exact absurd hm h
   ·rintro ⟨-,h⟩;rw [e,List.map_append,List.map_append] at h;exact absurd hm (A2z.1 (List.nodup_append.1 h).1).2
  ·have hn':((pre++[d]).map Dc.name).Nodup:=by rw [List.map_append];exact A2z.2 ⟨hn,hm⟩
   rw [erD_none l (pre++[d]) hk' hn',e];constructor
   ·rintro ⟨⟨h1, -⟩,h2,h3⟩;exact ⟨fun x hx=>(List.mem_cons.1 hx).elim (fun h=>h▸h1) (h2 x),h3⟩
   ·rintro ⟨h1,h2⟩;exact ⟨⟨h1 d List.mem_cons_self,hm,by simp⟩,fun x hx=>h1 x (List.mem_cons_of_mem _ hx),h2⟩
theorem A4p {D:List Dc} (hk:R2 D):∀ (M pre:List Md),(D.map Dc.name++pre.map Md.name).Nodup->(erP D pre M=none↔(∀ m∈M,¬ m.prio>99)/\(D.map Dc.name++(pre++M).map Md.name).Nodup)
 | [],pre,hn=>by rw [erP,List.append_nil];exact ⟨fun _=>⟨fun d hd=>(by cases hd),hn⟩,fun _=>rfl⟩
 | m :: l,pre,hn=>by
  have hl:=A3b D pre m.name hk;rw [any_name,any_nameM] at hl;rw [erP,Option.or_eq_none_iff,Option.or_eq_none_iff,if_none,if_none2,hl];have e:pre++m :: l=(pre++[m])++l:=by simp
  have e2:D.map Dc.name++(pre++[m]).map Md.name=(D.map Dc.name++pre.map Md.name)++[m.name]:=by simp
  by_cases hm:m.name∈D.map Dc.name++pre.map Md.name
  ·constructor
   ·rintro ⟨⟨-,h1,h2⟩, -⟩;exact absurd hm (by rw [List.mem_append];exact fun h=>h.elim h1 h2)
   ·rintro ⟨-,h⟩;rw [e,List.map_append, <- List.append_assoc,e2] at h;exact absurd hm (A2z.1 (List.nodup_append.1 h).1).2
  ·have hn':(D.map Dc.name++(pre++[m]).map Md.name).Nodup:=by rw [e2];exact A2z.2 ⟨hn,hm⟩
   rw [A4p hk l (pre++[m]) hn',e];rw [List.mem_append,not_or] at hm;constructor
   ·rintro ⟨⟨h1, -⟩,h2,h3⟩;exact ⟨fun x hx=>(List.mem_cons.1 hx).elim (fun h=>h▸h1) (h2 x),h3⟩
   ·rintro ⟨h1,h2⟩;exact ⟨⟨h1 m List.mem_cons_self,hm⟩,fun x hx=>h1 x (List.mem_cons_of_mem _ hx),h2⟩
def hdOk (D:List Dc) (M:List Md):Prop:=(∀ d∈D,¬ d.value>A7b d.kind)/\(∀ m∈M,¬ m.prio>99)/\(D.map Dc.name++M.map Md.name).Nodup
theorem hea_none {D:List Dc} {M:List Md} (hk:R2 D):heaE ⟨D,M⟩=none↔hdOk D M:=by
 unfold heaE hdOk;rw [Option.or_eq_none_iff,erD_none D [] hk List.nodup_nil];show (_/\(D.map Dc.name).Nodup)/\erP D [] M=none↔_;constructor
 ·rintro ⟨⟨h1,h2⟩,h3⟩;obtain ⟨h4,h5⟩:=(A4p hk M [] (by simpa using h2)).1 h3;exact ⟨h1,h4,h5⟩
 ·rintro ⟨h1,h4,h5⟩;have h2:(D.map Dc.name).Nodup:=(List.nodup_append.1 h5).1;exact ⟨⟨h1,h2⟩,(A4p hk M [] (by simpa using h2)).2 ⟨h4,h5⟩⟩
theorem lkD_kind (n:List UInt8):∀ (D pre:List Dc),(lkD pre D n).map (·.1)=(D.find? fun d=>d.name == n).map Dc.kind
 | [],pre=>rfl
 | d :: l,pre=>by
  rw [lkD,List.find?_cons];by_cases h:d.name=n
  ·rw [if_pos h,h];simp
  ·have hb:(d.name == n)=false:=by simpa using h
   rw [if_neg h,lkD_kind n l];simp only [hb]
theorem lkM_kind (n:List UInt8):∀ (M:List Md) (i:Nat),(lkM i M n).map (·.1)=if M.any (fun m=>m.name == n)=true then some 9 else none
 | [],i=>rfl
 | m :: l,i=>by
  rw [lkM,List.any_cons];by_cases h:m.name=n
  ·rw [if_pos h,h];simp
  ·rw [if_neg h,lkM_kind n l];simp [h]
theorem lok_kind (D:List Dc) (M:List Md) (n:List UInt8):(N6 ⟨D,M⟩ n).1=(((D.find? fun d=>d.name == n).map Dc.kind).or (if M.any (fun m=>m.name == n)=true then some 9 else none)).getD 0:=by
 rw [A7e, <- lkD_kind n D [], <- lkM_kind n M 0, <- Option.map_or];show (((lkD [] D n).or (lkM 0 M n)).getD (0,0)).1=_;cases (lkD [] D n).or (lkM 0 M n)<;>rfl
def SmK (r r':Ru):Prop:=∀ n,(N6 r n).1=(N6 r' n).1
section
variable {r r':Ru} (h:SmK r r')
include h
end
theorem erM_none {r:Ru}:∀ {l:List Md},erM r l=none↔∀ m∈l,erH r [] m.hds=none
 | []=>by rw [erM];simp
 | x :: l=>by
  rw [erM,Option.or_eq_none_iff,erM_none];simp
section
variable {r r':Ru} (h:SmK r' r)
include h
end
end Go.Pb
namespace Go.Proofs.YtnmkkggfgdfmeaaGreatDoor
open Go.Eng (IC IOper DReg IFn A3)
open Go.Sym Go.Pb
theorem chk_val {r:Ru} (h:T4 r=true):chkV r=.tup [I64 ((A7p r).getD (0,0)).1,I64 ((A7p r).getD (0,0)).2]:=by
 unfold chkV;rw [if_pos h];cases A7p r<;>rfl
end Go.Proofs.YtnmkkggfgdfmeaaGreatDoor
namespace Go.Pb
variable [Go.Sym.Tab]
open Go.Sym
def bdB (c:UInt8):Bool := !ptB c && decide (c.toNat≠61) && decide (c.toNat≠38) && decide (c.toNat≠124)
def bd:List UInt8->Bool
 | []=>true
 | c :: _=>bdB c
theorem bdB_iff {c:UInt8} (h:bdB c=true):ptB c=false/\c.toNat≠61/\c.toNat≠38/\c.toNat≠124:=by
 simpa [bdB,and_assoc] using h
theorem bd_pt {r:List UInt8} (hr:bd r=true):∀ c q,r=c :: q->ptB c=false:=fun c q e=>by subst e;exact (bdB_iff hr).1
theorem bd_dg {r:List UInt8} (hr:bd r=true):∀ c q,r=c :: q->dgB c=false:=fun c q e=>by
 have:=bd_pt hr c q e;simp only [ptB,Bool.or_eq_false_iff] at this;exact this.1.2
theorem bd_two {c d:UInt8} {q:List UInt8} (h:bd (d :: q)=true):X0 c d=false:=by
 obtain ⟨h0,h1,h2,h3⟩:=bdB_iff h;unfold X0;rw [Bool.eq_false_iff];intro h4;simp at h4;omega
theorem spn_bd {p:UInt8->Bool}:∀ r:List UInt8,(∀ c q,r=c :: q->p c=false)->B5 p r=0
 | [],_=>rfl
 | c :: r,h=>by simp only [B5];rw [if_neg (by rw [h c r rfl];simp)]
theorem A3p {p:UInt8->Bool} {r:List UInt8} (hr:∀ c q,r=c :: q->p c=false):∀ s:List UInt8,B5 p (s.take (B5 p s)++r)=B5 p s
 | []=>by rw [show B5 p []=0 from rfl,List.take_zero,List.nil_append];exact spn_bd r hr
 | c :: s=>by
  by_cases h:p c=true
  ·have e:B5 p (c :: s)=B5 p s+1:=by simp only [B5];rw [if_pos h]
   rw [e,List.take_succ_cons,List.cons_append];simp only [B5];rw [if_pos h,A3p hr s]
  ·have e:B5 p (c :: s)=0:=by simp only [B5];rw [if_neg h]
   rw [e,List.take_zero,List.nil_append];exact spn_bd r hr
theorem sg_loc2 {r:List UInt8} (hr:bd r=true):∀ {s:List UInt8},D0 s≠0->D0 (s.take (D0 s)++r)=D0 s
 | [],h=>absurd rfl h
 | [c],h=>by
  have ho:A0k c=true:=by
   cases ho:A0k c with
   | true=>rfl
   | false=>simp [D0,ho] at h
  have e:D0 [c]=1:=by simp [D0,ho]
  rw [e,List.take_succ_cons,List.take_zero,List.cons_append,List.nil_append]
  match r,hr with
  | [],_=>exact e
  | d :: r,hr=>simp only [D0];rw [if_neg (by rw [bd_two hr];simp),if_pos ho]
 | c :: d :: q,h=>by
  by_cases h2:X0 c d=true
  ·have e:D0 (c :: d :: q)=2:=by simp only [D0];rw [if_pos h2]
   rw [e,List.take_succ_cons,List.take_succ_cons,List.take_zero];simp only [List.cons_append,List.nil_append,D0];rw [if_pos h2]
  ·have ho:A0k c=true:=by
    cases ho:A0k c with
    | true=>rfl
    | false=>simp only [D0] at h;rw [if_neg h2,if_neg (by rw [ho];simp)] at h;exact absurd rfl h
   have e:D0 (c :: d :: q)=1:=by simp only [D0];rw [if_neg h2,if_pos ho]
   rw [e,List.take_succ_cons,List.take_zero,List.cons_append,List.nil_append]
   match r,hr with
   | [],_=>simp only [D0];rw [if_pos ho]
   | d :: r,hr=>simp only [D0];rw [if_neg (by rw [bd_two hr];simp),if_pos ho]
theorem next_loc2 {s r:List UInt8} (h:(A5 s).err=0) (hr:bd r=true):A5 (s.take (A5 s).n++r)=A5 s:=by
 cases s with
 | nil=>simp [A5,nxE] at h
 | cons c q =>
  obtain ⟨hn1,hn2⟩:=A2y h;obtain ⟨k,hk⟩:∃ k,(A5 (c :: q)).n=k+1:=⟨(A5 (c :: q)).n-1,by omega⟩;have hform:(c :: q).take (A5 (c :: q)).n++r=c :: (q.take k++r):=by rw [hk,List.take_succ_cons,List.cons_append]
  have htk:(c :: (q.take k++r)).take (A5 (c :: q)).n=(c :: q).take (A5 (c :: q)).n:=by rw [<- hform];exact take_app hn2
  have hp:=A3p (p:=ptB) (bd_pt hr) (c :: q);have hg:=A3p (p:=dgB) (bd_dg hr) (c :: q);rw [hform];by_cases hl:ltB c=true
  ·by_cases h12:12<B5 ptB (c :: q)
   ·rw [A5,if_pos hl,if_pos h12] at h;simp [nxE] at h
   ·have e:A5 (c :: q)=⟨if G6 ((c :: q).take (B5 ptB (c :: q)))=true then 2 else 1,(c :: q).take (B5 ptB (c :: q)),0,B5 ptB (c :: q),0⟩:=by rw [A5,if_pos hl,if_neg h12]
    have en:(A5 (c :: q)).n=B5 ptB (c :: q):=by rw [e]
    rw [en] at hform htk;rw [hform] at hp;rw [A5,if_pos hl,hp,if_neg h12,htk,e]
  ·by_cases hd:dgB c=true
   ·by_cases h1:1<B5 dgB (c :: q)/\c.toNat=48
    ·rw [A5,if_neg hl,if_pos hd,if_pos h1] at h;simp [nxE] at h
    ·by_cases h2:2147483647<S5 ((c :: q).take (B5 dgB (c :: q)))
     ·rw [A5,if_neg hl,if_pos hd,if_neg h1,if_pos h2] at h;simp [nxE] at h
     ·have e:A5 (c :: q)=⟨3,[],(S5 ((c :: q).take (B5 dgB (c :: q))):Int),B5 dgB (c :: q),0⟩:=by rw [A5,if_neg hl,if_pos hd,if_neg h1,if_neg h2]
      have en:(A5 (c :: q)).n=B5 dgB (c :: q):=by rw [e]
      rw [en] at hform htk;rw [hform] at hg;rw [A5,if_neg hl,if_pos hd,hg,htk,if_neg h1,if_neg h2,e]
   ·by_cases h34:c.toNat=34
    ·cases hq:quM q with
     | none=>rw [A5,if_neg hl,if_neg hd,if_pos h34,hq] at h;simp [nxE] at h
     | some x =>
      obtain ⟨t,m⟩:=x;by_cases h32:32<t.length
      ·rw [A5,if_neg hl,if_neg hd,if_pos h34,hq] at h;simp only at h;rw [if_pos h32] at h;simp [nxE] at h
      ·have e:A5 (c :: q)=⟨4,t,0,m+1,0⟩:=by rw [A5,if_neg hl,if_neg hd,if_pos h34,hq];simp only;rw [if_neg h32]
       have en:m=k:=by rw [e] at hk;simp only at hk;omega
       subst en;rw [e,A5,if_neg hl,if_neg hd,if_pos h34,qu_loc r hq];simp only;rw [if_neg h32]
    ·by_cases hs:D0 (c :: q)=0
     ·rw [A5,if_neg hl,if_neg hd,if_neg h34,if_pos hs] at h;simp [nxE] at h
     ·have e:A5 (c :: q)=⟨5,(c :: q).take (D0 (c :: q)),0,D0 (c :: q),0⟩:=by rw [A5,if_neg hl,if_neg hd,if_neg h34,if_neg hs]
      have en:(A5 (c :: q)).n=D0 (c :: q):=by rw [e]
      have hsg:=sg_loc2 hr hs;rw [en] at hform htk;rw [hform] at hsg;rw [A5,if_neg hl,if_neg hd,if_neg h34,hsg,if_neg hs,htk,e]
abbrev T3:=Int × List UInt8 × Int
def st3 (t:Tok):T3:=(t.kind,t.text,t.value)
def Lk (r:List UInt8) (tr:List T3):Prop:=∀ (s:List UInt8) (k:Nat) (l:List Tok),s.drop k=r->A4w s (k+skM false r) l->l.map st3=tr
theorem Lk_nil:Lk [] []:=by
 intro s k l hs hR;have hl:s.length<=k:=by
  have:=congrArg List.length hs;simp at this;omega
 cases l with
 | nil=>rfl
 | cons t l =>
  have h:=hR.1;simp only [skM] at h;omega
theorem Lk_sep {c:UInt8} {r:List UInt8} {tr:List T3} (hc:T6 c=true) (h:Lk r tr):Lk (c :: r) tr:=by
 intro s k l hs hR;have e:skM false (c :: r)=skM false r+1:=by simp only [skM];rw [if_pos hc]
 rw [e] at hR;refine h s (k+1) l ?_ (by rw [show k+1+skM false r=k+(skM false r+1) by omega];exact hR);rw [<- List.drop_drop,hs];rfl
theorem Lk_tok {a r:List UInt8} {K V:Int} {T:List UInt8} {tr:List T3} (hx:A5 (a++r)=⟨K,T,V,a.length,0⟩) (ha:a≠[]) (h:Lk r tr):Lk (a++r) ((K,T,V) :: tr):=by
 intro s k l hs hR;have h0:skM false (a++r)=0:=next_sk (by rw [hx]);rw [h0,Nat.add_zero] at hR;have hl:k<s.length:=by
  have:=congrArg List.length hs;have h2:0<a.length:=by cases a with|nil=>exact absurd rfl ha|cons _ _=>simp
  simp at this;omega
 cases l with
 | nil=>have:s.length<=k:=hR;omega
 | cons t l =>
  obtain ⟨h1,h2,h3,h4⟩:=hR;rw [hs,hx] at h3 h4;have hd:s.drop (k+a.length)=r:=by rw [<- List.drop_drop,hs,List.drop_left]
  dsimp only at h4;rw [hd] at h4;rw [List.map_cons,h s _ l hd h4,h3];rfl
def Pc (b:Bool) (p:List UInt8) (tp:List T3):Prop:=∀ r tr,(b=true->bd r=true)->Lk r tr->Lk (p++r) (tp++tr)
def W7 (b:Bool):Nat->List UInt8->Option (List T3)
 | 0,_=>none
 | _+1,[]=>some []
 | f+1,c :: s=>if T6 c=true then W7 b f s else
  let x:=A5 (c :: s)
  let q:=(c :: s).drop x.n
  if x.err=0/\1<=x.n/\x.n<=(c :: s).length/\bd q=true/\(q=[]->b=true) then (W7 b f q).map fun l=>(x.kind,x.text,x.value) :: l else none
theorem bd_app {q r:List UInt8} (h:bd q=true) (h2:q=[]->bd r=true):bd (q++r)=true:=by
 cases q with
 | nil=>exact h2 rfl
 | cons c q=>exact h
theorem Q7 {b:Bool}:∀ (f:Nat) (s:List UInt8) (ts:List T3),W7 b f s=some ts->Pc b s ts
 | 0,s,ts,h=>by simp [W7] at h
 | f+1,[],ts,h=>by
  simp only [W7] at h;cases h;exact fun r tr _ hr=>hr
 | f+1,c :: s,ts,h=>by
  unfold W7 at h;split at h
  ·rename_i hc;have ih:=Q7 f s ts h;intro r tr hb hr;exact Lk_sep hc (ih r tr hb hr)
  ·dsimp only at h;split at h
   ·rename_i hx;obtain ⟨h1,h2,h3,h4,h5⟩:=hx;obtain ⟨l,hl,rfl⟩:=Option.map_eq_some_iff.1 h;have ih:=Q7 f _ l hl;intro r tr hb hr;have hbd:bd ((c :: s).drop (A5 (c :: s)).n++r)=true:=bd_app h4 fun e=>hb (h5 e);have hn:=next_loc2 h1 hbd;rw [<- List.append_assoc,List.take_append_drop] at hn;have hlen:((c :: s).take (A5 (c :: s)).n).length=(A5 (c :: s)).n:=by rw [List.length_take];omega
    have:=Lk_tok (a:=(c :: s).take (A5 (c :: s)).n) (r:=(c :: s).drop (A5 (c :: s)).n++r) (K:=(A5 (c :: s)).kind) (T:=(A5 (c :: s)).text) (V:=(A5 (c :: s)).value) (tr:=l++tr)
     (by rw [<- List.append_assoc,List.take_append_drop,hn,hlen];revert h1;cases A5 (c :: s);intro h1;simp only at h1;rw [h1]) (fun e=>by rw [e] at hlen;simp at hlen;omega) (ih r tr hb hr)
    rw [<- List.append_assoc,List.take_append_drop] at this;exact this
   ·cases h
theorem Pc.app {b b':Bool} {p p':List UInt8} {t t':List T3} (h:Pc b p t) (h':Pc b' p' t') (hb:b=true->∀ r,(b'=true->bd r=true)->bd (p'++r)=true):Pc b' (p++p') (t++t'):=by
 intro r tr hr hl;rw [List.append_assoc,List.append_assoc];exact h _ _ (fun e=>hb e r hr) (h' r tr hr hl)
theorem Pc.lit {b b':Bool} {p:List UInt8} {c:UInt8} {q:List UInt8} {t t':List T3} (h:Pc b p t) (h':Pc b' (c :: q) t') (hc:bdB c=true):Pc b' (p++c :: q) (t++t'):=h.app h' fun _ _ _=>hc
theorem Pc.pre {b':Bool} {p p':List UInt8} {t t':List T3} (h:Pc false p t) (h':Pc b' p' t'):Pc b' (p++p') (t++t'):=h.app h' fun e=>by cases e
theorem A0i {c:UInt8} (h1:A0k c=true) (h2:(ltB c || dgB c || T6 c)=false) (h3:c.toNat≠34/\c.toNat≠35/\c.toNat≠60/\c.toNat≠62/\c.toNat≠61/\c.toNat≠33/\c.toNat≠38/\c.toNat≠124):Pc false [c] [(5,[c],0)]:=by
 intro r tr _ hr;have h2':ltB c=false/\dgB c=false/\T6 c=false:=by simpa [and_assoc] using h2
 obtain ⟨a1,a2,a3⟩:=h2';have ht:∀ d,X0 c d=false:=fun d=>by
  unfold X0;rw [Bool.eq_false_iff];intro h4;simp at h4;omega
 have hs:D0 (c :: r)=1:=by
  cases r with
  | nil=>simp only [D0];rw [if_pos h1]
  | cons d r=>simp only [D0];rw [if_neg (by rw [ht];simp),if_pos h1]
 have hn:A5 (c :: r)=⟨5,[c],0,1,0⟩:=by
  rw [A5,if_neg (by rw [a1];simp),if_neg (by rw [a2];simp),if_neg h3.1,hs,if_neg (by decide)];rfl
 exact Lk_tok (a:=[c]) hn (by simp) hr
theorem pc_not {d:UInt8} {p:List UInt8} {b:Bool} {t:List T3} (h:Pc b (d :: p) t) (hd:d.toNat≠61):Pc b (33 :: d :: p) ((5,[33],0) :: t):=by
 intro r tr hb hr;have hn:A5 (33 :: d :: (p++r))=⟨5,[33],0,1,0⟩:=by
  have hs:D0 (33 :: d :: (p++r))=1:=by
   simp only [D0];rw [if_neg (by unfold X0;simp;omega),if_pos (by decide)]
  rw [A5,if_neg (by decide),if_neg (by decide),if_neg (by decide),hs,if_neg (by decide)];rfl
 exact Lk_tok (a:=[33]) hn (by simp) (h r tr hb hr)
theorem Pc.toks {b:Bool} {s:List UInt8} {ts:List T3} (h:Pc b s ts) (h0:(D5 s).2.2=0):(D5 s).1.map st3=ts:=by
 have:=h [] [] (fun _=>rfl) Lk_nil;rw [List.append_nil,List.append_nil] at this;exact this s 0 _ rfl (by rw [Nat.zero_add];exact (X2 h0).2)
end Go.Pb
namespace Go.Pb
variable [Go.Sym.Tab]
open Go.Sym
def A6k (t:T3):Nat->List (List UInt8)->Int
 | _,[] => -1
 | k,x :: l=>if ((t.1 == 5 || t.1 == 2) && t.2.1 == x)=true then (k:Int) else A6k t (k+1) l
def J3 (t:T3) (l:List (List UInt8)):Int:=A6k t 0 l
section
variable {L:List Tok} {E:Int}
def Tk (L:List Tok) (s:Rd):List T3:=(L.drop s.i).map st3
theorem U7 {s:Rd} {t:T3} {q:List T3} (h:Tk L s=t :: q):st3 (B1 L E s)=t/\(L.drop (s.i+1)).map st3=q/\s.i<L.length:=by
 have hl:s.i<L.length:=by
  have:=congrArg List.length h;simp [Tk] at this;omega
 have e:L.drop s.i=L[s.i] :: L.drop (s.i+1):=List.drop_eq_getElem_cons hl;unfold Tk at h;rw [e,List.map_cons] at h;injection h with h1 h2
 refine ⟨?_,h2,hl⟩;unfold B1;rw [List.getD_eq_getElem?_getD,List.getElem?_eq_getElem hl];exact h1
theorem tk_nil {s:Rd} (h:Tk L s=[]):B1 L E s=⟨0,[],0,E⟩:=by
 have hl:L.length<=s.i:=by
  have:=congrArg List.length h;simp [Tk] at this;omega
 unfold B1;rw [List.getD_eq_getElem?_getD,List.getElem?_eq_none hl];rfl
theorem P1 {s:Rd} {t:T3} {q:List T3} {x:List UInt8} (h:Tk L s=t :: q) (ho:okR s=true):isR L E s x=((t.1 == 5 || t.1 == 2) && t.2.1 == x):=by
 obtain ⟨h1, -, -⟩:=U7 (E:=E) h;unfold isR;rw [ho,Bool.true_and, <- h1];rfl
theorem A4i {s:Rd} {t:T3} {q:List T3} {k:Int} (h:Tk L s=t :: q) (ho:okR s=true):F1 L E s k=(t.1 == k):=by
 obtain ⟨h1, -, -⟩:=U7 (E:=E) h;unfold F1;rw [ho,Bool.true_and, <- h1];rfl
theorem amgA_tk {s:Rd} {t:T3} {q:List T3} (h:Tk L s=t :: q) (ho:okR s=true):∀ (l:List (List UInt8)) (k:Nat),S7 L E s k l=A6k t k l
 | [],k=>rfl
 | x :: l,k=>by
  rw [S7,A6k,P1 h ho,amgA_tk h ho l (k+1)]
theorem J8 {s:Rd} {t:T3} {q:List T3} {l:List (List UInt8)} (h:Tk L s=t :: q) (ho:okR s=true):B2 L E s l=J3 t l:=amgA_tk h ho l 0
theorem A7t {s:Rd} (h:∀ x,isR L E s x=false):∀ (l:List (List UInt8)) (k:Nat),S7 L E s k l = -1
 | [],k=>rfl
 | x :: l,k=>by rw [S7,if_neg (by rw [h x];simp)];exact A7t h l (k+1)
theorem amgR_nok {s:Rd} {l:List (List UInt8)} (h:okR s=false):B2 L E s l = -1:=A7t (fun x=>by unfold isR;rw [h];rfl) l 0
theorem amg_nil {s:Rd} {l:List (List UInt8)} (h:Tk L s=[]):B2 L E s l = -1:=A7t (fun x=>by unfold isR;rw [tk_nil (E:=E) h];simp) l 0
theorem Q1 {t:T3} (h5:t.1≠5) (h2:t.1≠2):∀ (l:List (List UInt8)) (k:Nat),A6k t k l = -1
 | [],k=>rfl
 | x :: l,k=>by
  rw [A6k,if_neg (by simp [h5,h2])];exact Q1 h5 h2 l (k+1)
def A2p (n:Int) (rest:List T3):Prop:=∀ t q,rest=t :: q->J3 t C2<0\/E4 (12+J3 t C2)<n
theorem A2p.up {n m:Int} {rest:List T3} (h:A2p n rest) (hm:n<=m):A2p m rest:=fun t q e=>(h t q e).imp id fun h=>by omega
theorem lop_end {n:Int} {e:Ex} {s:Rd} {rest:List T3} (h:okR s=true->Tk L s=rest) (hn:A2p n rest):Lop L E n e s (e,s):=by
 apply Lop.stop;cases ho:okR s with
 | false=>left;rw [amgR_nok ho];decide
 | true =>
  have ht:=h ho;cases rest with
  | nil=>left;rw [amg_nil ht];decide
  | cons t q =>
   rw [J8 ht ho];exact (hn t q rfl).imp id fun h=>by omega
inductive TyE (Nm:Int->List UInt8->Prop):Bool->Ex->Prop where
 | num {v p:Int}:TyE Nm true (.mk 1 v [] [] p)
 | var {n:List UInt8} {p:Int}:Nm 6 n->TyE Nm true (.mk 2 0 n [] p)
 | word0 {k:Nat} {ty:Bool} {p:Int}:(k,ty)∈[(0,false),(1,false),(2,true),(3,true)]->TyE Nm ty (.mk (A1p.getD k 0) 0 [] [] p)
 | word1 {k:Nat} {nk:Int} {ty:Bool} {n:List UInt8} {p:Int}:(k,ty,nk)∈[(4,false,(1:Int)),(5,false,9),(6,true,7)]->Nm nk n->TyE Nm ty (.mk (A1p.getD k 0) 0 n [] p)
 | neg {a:Ex} {p:Int}:TyE Nm true a->TyE Nm true (.mk 10 0 [] [a] p)
 | not {a:Ex} {p:Int}:TyE Nm false a->TyE Nm false (.mk 11 0 [] [a] p)
 | bin {k:Nat} {ta ty:Bool} {a b:Ex} {p:Int}:k<13->(ta=decide (k<11))->(ty=decide (k<5))->TyE Nm ta a->TyE Nm ta b->TyE Nm ty (.mk (12+(k:Int)) 0 [] [a,b] p)
inductive GX (Nm:Int->List UInt8->Prop):Int->Bool->Nat->Nat->List T3->Prop where
 | num {v:Int}:GX Nm 6 true 0 1 [(3,[],v)]
 | var {n:List UInt8}:Nm 6 n->GX Nm 6 true 0 1 [(1,n,0)]
 | word0 {k:Nat} {ty:Bool}:(k,ty)∈[(0,false),(1,false),(2,true),(3,true)]->GX Nm 6 ty 0 1 [(2,D6.getD k [],0)]
 | word1 {k:Nat} {nk:Int} {ty:Bool} {n:List UInt8}:(k,ty,nk)∈[(4,false,(1:Int)),(5,false,9),(6,true,7)]->Nm nk n->GX Nm 6 ty 0 1 [(2,D6.getD k [],0),(1,n,0)]
 | neg {d c:Nat} {a:List T3}:GX Nm 6 true d c a->GX Nm 6 true (d+1) c ((5,[45],0) :: a)
 | not {d c:Nat} {a:List T3}:GX Nm 6 false d c a->GX Nm 6 false (d+1) c ((5,[33],0) :: a)
 | par {m:Int} {ty:Bool} {d c:Nat} {a:List T3}:GX Nm m ty d c a->GX Nm 6 ty (d+1) c ((5,[40],0) :: (a++[(5,[41],0)]))
 | bin {k:Nat} {m1 m2:Int} {ta ty:Bool} {d1 d2 c1 c2:Nat} {a b:List T3}:k<13->(ta=decide (k<11))->(ty=decide (k<5))->E4 (12+(k:Int))<m1->E4 (12+(k:Int))<m2 ->
   GX Nm m1 ta d1 c1 a->GX Nm m2 ta d2 c2 b->GX Nm (E4 (12+(k:Int))) ty (max d1 d2) (c1+c2) (a++(5,C2.getD k [],0) :: b)
def Res (L:List Tok) (Nm:Int->List UInt8->Prop) (s:Rd) (r:Ex × Rd) (rest:List T3) (d c:Nat) (ty:Bool):Prop :=
 (s.par+d<=16->s.ops+c<=32->okR r.2=true)/\(okR r.2=true->Tk L r.2=rest/\TyE Nm ty r.1/\r.2.par=s.par/\r.2.ops=s.ops+c)
def PzU (L:List Tok) (E:Int) (Nm:Int->List UInt8->Prop) (ts:List T3) (d c:Nat) (ty:Bool):Prop:=∀ s rest,okR s=true->Tk L s=ts++rest->∃ r,Un L E s r/\Res L Nm s r rest d c ty
def Pz (L:List Tok) (E:Int) (Nm:Int->List UInt8->Prop) (m:Int) (ts:List T3) (d c:Nat) (ty:Bool):Prop:=∀ n,1<=n->n<=m->∀ s rest,okR s=true->Tk L s=ts++rest->A2p n rest->∃ r,Bin L E n s r/\Res L Nm s r rest d c ty
variable {Nm:Int->List UInt8->Prop}
theorem bin_dn {n:Int} {s:Rd} {r:Ex × Rd} {rest:List T3} {d c:Nat} {ty:Bool} (hn:n<=5) (h:Bin L E (n+1) s r) (hr:Res L Nm s r rest d c ty) (ho:A2p n rest):Bin L E n s r :=
 Bin.go hn h (lop_end (fun h=>(hr.2 h).1) ho)
theorem Pz.of {m:Int} {ts:List T3} {d c:Nat} {ty:Bool} (hm:m<=6) (h:∀ s rest,okR s=true->Tk L s=ts++rest->A2p m rest->∃ r,Bin L E m s r/\Res L Nm s r rest d c ty):Pz L E Nm m ts d c ty:=by
 intro n hn1 hnm s rest ho ht hno;obtain ⟨k,hk⟩:∃ k:Nat,n=m-k:=⟨(m-n).toNat,by omega⟩
 induction k generalizing n with
 | zero =>
  obtain rfl:n=m:=by omega
  exact h s rest ho ht hno
 | succ k ih =>
  obtain ⟨r,h1,h2⟩:=ih (n+1) (by omega) (by omega) (hno.up (by omega)) (by omega);exact ⟨r,bin_dn (by omega) h1 h2 hno,h2⟩
theorem PzU.pz {ts:List T3} {d c:Nat} {ty:Bool} (h:PzU L E Nm ts d c ty):Pz L E Nm 6 ts d c ty :=
 Pz.of (by omega) fun s rest ho ht _=>by
  obtain ⟨r,h1,h2⟩:=h s rest ho ht;exact ⟨r,Bin.un (by omega) h1,h2⟩
theorem A0l {s:Rd} {n m e:Int} (h:n<=m):B3 L E s n m e=s:=by unfold B3;rw [if_neg (by omega)]
theorem lim_gt {s:Rd} {n m e:Int} (he:e≠0) (h:m<n):okR (B3 L E s n m e)=false:=by unfold B3;rw [if_pos h];exact A3f he
theorem A3o {s s':Rd} (h:s'.i=s.i+1) {t:T3} {q:List T3} (ht:Tk L s=t :: q):Tk L s'=q:=by
 unfold Tk;rw [h];exact (U7 (E:=0) ht).2.1
theorem A0v {s:Rd} {t:T3} {q:List T3} (ho:okR s=true) (ht:Tk L s=t :: q) (hp:J3 t J6<0) (hk:0<=J3 t D6\/t.1=3\/t.1=1) :
  ∃ r,Un L E s r/\(s.ops+1<=32->J3 t D6<4->okR r.2=true)/\(s.ops+1<=32->4<=J3 t D6->∀ n q',q=(1,n,0) :: q'->okR r.2=true/\Tk L r.2=q'/\r.1=.mk (A1p.getD (J3 t D6).toNat 0) 0 n [] (B1 L E s).pos) /\
   (okR r.2=true->r.2.par=s.par/\r.2.ops=s.ops+1/\s.ops+1<=32 /\
    (J3 t D6<4->Tk L r.2=q/\r.1=(if 0<=J3 t D6 then .mk (A1p.getD (J3 t D6).toNat 0) 0 [] [] (B1 L E s).pos else if t.1=3 then .mk 1 t.2.2 [] [] (B1 L E s).pos else .mk 2 0 t.2.1 [] (B1 L E s).pos))):=by
 refine ⟨I8 L E s,Un.prim (by rw [J8 ht ho];exact hp),?_⟩;obtain ⟨h1,h2,h3⟩:=U7 (E:=E) ht;have hg:¬ (B2 L E s D6<0/\F1 L E s 3=false/\F1 L E s 1=false):=by
  rw [J8 ht ho,A4i ht ho,A4i ht ho];rintro ⟨a,b,c⟩;rcases hk with hk|hk|hk
  ·omega
  ·rw [hk] at b;cases b
  ·rw [hk] at c;cases c
 unfold I8;dsimp only;rw [if_neg hg,J8 ht ho];by_cases hop:s.ops+1<=32
 ·rw [A0l hop];have ho1:okR ({ s with ops:=s.ops+1 }:Rd)=true:=ho;rw [if_neg (by rw [ho1];simp)];have htn:Tk L (B0 { s with ops:=s.ops+1 })=q:=A3o (s:=s) rfl ht;have hon:okR (B0 { s with ops:=s.ops+1 })=true:=ho;by_cases h0:0<=J3 t D6
  ·rw [if_pos h0];by_cases h4:4<=J3 t D6
   ·rw [if_pos h4];refine ⟨fun _ h=>by omega,fun _ _ n q' hq=>?_,fun hok=>⟨?_,?_,hop,fun h=>by omega⟩⟩
    ·rw [hq] at htn;have e:A8 L E (B0 { s with ops:=s.ops+1 }) 1=(B1 L E (B0 { s with ops:=s.ops+1 }),B0 (B0 { s with ops:=s.ops+1 })):=by
      unfold A8;rw [if_neg (by rw [A4i htn hon];simp)]
     rw [e];refine ⟨ho,A3o (s:=B0 { s with ops:=s.ops+1 }) rfl htn,?_⟩;have:=(U7 (E:=E) htn).1;have e2:(B1 L E (B0 { s with ops:=s.ops+1 })).text=n:=congrArg (fun x=>x.2.1) this;rw [e2]
    ·rw [(U8 hok).2];rfl
    ·rw [(U8 hok).2];rfl
   ·rw [if_neg h4];refine ⟨fun _ _=>hon,fun _ h=>absurd h h4,fun hok=>⟨rfl,rfl,hop,fun _=>⟨htn,?_⟩⟩⟩;rw [if_pos h0]
  ·rw [if_neg h0];have e1:(B1 L E s).kind=t.1:=congrArg (fun x=>x.1) h1;have e2:(B1 L E s).value=t.2.2:=congrArg (fun x=>x.2.2) h1;have e3:(B1 L E s).text=t.2.1:=congrArg (fun x=>x.2.1) h1;rw [e1,e2,e3];refine ⟨fun _ _=>?_,fun _ h=>by omega,fun hok=>⟨?_,?_,hop,fun _=>⟨?_,?_⟩⟩⟩
   ·split<;>exact hon
   ·split<;>rfl
   ·split<;>rfl
   ·split<;>exact htn
   ·rw [if_neg h0];split<;>rfl
 ·have hl:=lim_gt (L:=L) (E:=E) (s:={ s with ops:=s.ops+1 }) (e:=9) (m:=32) (n:=s.ops+1) (by decide) (by omega);rw [if_pos hl];refine ⟨fun h=>absurd h hop,fun h=>absurd h hop,fun hok=>?_⟩;dsimp only at hok;rw [hl] at hok;cases hok
theorem A6j (k:Nat) (hk:k<7):J3 (2,D6.getD k [],0) D6=k/\J3 (2,D6.getD k [],0) J6<0:=by
 have:∀ k,k<7->J3 (2,D6.getD k [],0) D6=k/\J3 (2,D6.getD k [],0) J6<0:=by decide
 exact this k hk
theorem amg_signs (k:Nat) (hk:k<13):J3 (5,C2.getD k [],0) C2=k:=by
 have:∀ k,k<13->J3 (5,C2.getD k [],0) C2=k:=by decide
 exact this k hk
theorem op_lev {k:Nat} (hk:k<13):1<=E4 (12+(k:Int))/\E4 (12+(k:Int))<=5:=by
 have:∀ k:Nat,k<13->1<=E4 (12+(k:Int))/\E4 (12+(k:Int))<=5:=by decide
 exact this k hk
theorem un_lim {s:Rd} (h:s.par+1<=16) (ho:okR s=true):okR (B3 L E s (s.par+1) 16 50)=true:=by rw [A0l h];exact ho
theorem un_bad {s:Rd} {rest:List T3} {d c:Nat} {ty:Bool} (h:16<s.par+1) (ha:0<=B2 L E s J6):∃ r,Un L E s r/\Res L Nm s r rest (d+1) c ty:=by
 have hl:=lim_gt (L:=L) (E:=E) (s:=s) (n:=s.par+1) (m:=16) (e:=50) (by decide) h;refine ⟨_,Un.bad ha hl,fun h1 _=>?_,fun h1=>?_⟩
 ·have:((d+1:Nat):Int)=d+1:=by omega
  omega
 ·rw [hl] at h1;cases h1
theorem pre_res {s:Rd} {k:Int} {x:List UInt8} {a rest:List T3} {d c:Nat} {ty:Bool} (hx:J3 (5,x,0) J6=k) (h0:0<=k) (h2:k≠2) (h:PzU L E Nm a d c ty)
  (hq:∀ e p,TyE Nm ty e->TyE Nm ty (.mk (10+k) 0 [] [e] p)) (ho:okR s=true) (ht:Tk L s=(5,x,0) :: (a++rest)):∃ r,Un L E s r/\Res L Nm s r rest (d+1) c ty:=by
 have ha:B2 L E s J6=k:=by rw [J8 ht ho];exact hx
 by_cases h16:s.par+1<=16
 ·have hl:=un_lim (L:=L) (E:=E) h16 ho;have htn:Tk L { s with i:=s.i+1,par:=s.par+1 }=a++rest:=A3o (s:=s) rfl ht;obtain ⟨r,h1,h3,h4⟩:=h { s with i:=s.i+1,par:=s.par+1 } rest ho htn;obtain ⟨e,s3⟩:=r;refine ⟨_,Un.pre (by rw [ha];exact h0) (by rw [ha];exact h2) hl h1,fun p1 p2=>?_,fun hok=>?_⟩
  ·have:((d+1:Nat):Int)=d+1:=by omega
   exact h3 (by dsimp only;omega) p2
  ·obtain ⟨q1,q2,q3,q4⟩:=h4 hok;rw [ha];exact ⟨q1,hq _ _ q2,by dsimp only at q3 ⊢;omega,q4⟩
 ·exact un_bad (by omega) (by rw [ha];exact h0)
theorem gx_all {m:Int} {ty:Bool} {d c:Nat} {ts:List T3} (h:GX Nm m ty d c ts):1<=m/\m<=6/\Pz L E Nm m ts d c ty/\(m=6->PzU L E Nm ts d c ty):=by
 have key:∀ {ts:List T3} {d c:Nat} {ty:Bool},PzU L E Nm ts d c ty->1<=(6:Int)/\(6:Int)<=6/\Pz L E Nm 6 ts d c ty/\((6:Int)=6->PzU L E Nm ts d c ty):=fun h=>⟨by omega,by omega,h.pz,fun _=>h⟩
 induction h with
 | @num v =>
  refine key fun s rest ho ht=>?_;have a1:J3 (3,[],v) J6 = -1:=Q1 (by simp) (by simp) _ _;have a2:J3 (3,[],v) D6 = -1:=Q1 (by simp) (by simp) _ _;obtain ⟨r,h1,h2, -,h3⟩:=A0v (E:=E) ho ht (by rw [a1];decide) (.inr (.inl rfl));rw [a2] at h2 h3;refine ⟨r,h1,fun _ p2=>h2 (by simpa using p2) (by decide),fun hok=>?_⟩;obtain ⟨q1,q2, -,q3⟩:=h3 hok;obtain ⟨q4,q5⟩:=q3 (by decide);rw [if_neg (by decide),if_pos rfl] at q5;exact ⟨q4,by rw [q5];exact .num,q1,by rw [q2];rfl⟩
 | @var n hn =>
  refine key fun s rest ho ht=>?_;have a1:J3 (1,n,0) J6 = -1:=Q1 (by simp) (by simp) _ _;have a2:J3 (1,n,0) D6 = -1:=Q1 (by simp) (by simp) _ _;obtain ⟨r,h1,h2, -,h3⟩:=A0v (E:=E) ho ht (by rw [a1];decide) (.inr (.inr rfl));rw [a2] at h2 h3;refine ⟨r,h1,fun _ p2=>h2 (by simpa using p2) (by decide),fun hok=>?_⟩;obtain ⟨q1,q2, -,q3⟩:=h3 hok;obtain ⟨q4,q5⟩:=q3 (by decide);rw [if_neg (by decide),if_neg (by simp)] at q5;exact ⟨q4,by rw [q5];exact .var hn,q1,by rw [q2];rfl⟩
 | @word0 k ty hk =>
  refine key fun s rest ho ht=>?_;have hk4:k<4:=by
   simp only [List.mem_cons,Prod.mk.injEq,List.not_mem_nil,or_false] at hk;omega
  obtain ⟨a2,a1⟩:=A6j k (by omega);obtain ⟨r,h1,h2, -,h3⟩:=A0v (E:=E) ho ht a1 (.inl (by rw [a2];omega));rw [a2] at h2 h3;refine ⟨r,h1,fun _ p2=>h2 (by simpa using p2) (by omega),fun hok=>?_⟩;obtain ⟨q1,q2, -,q3⟩:=h3 hok;obtain ⟨q4,q5⟩:=q3 (by omega);rw [if_pos (by omega),Int.toNat_natCast] at q5;exact ⟨q4,by rw [q5];exact .word0 hk,q1,by rw [q2];rfl⟩
 | @word1 k nk ty n hk hn =>
  refine key fun s rest ho ht=>?_;have hk4:4<=k/\k<7:=by
   simp only [List.mem_cons,Prod.mk.injEq,List.not_mem_nil,or_false] at hk;omega
  obtain ⟨a2,a1⟩:=A6j k (by omega);obtain ⟨r,h1, -,h2,h3⟩:=A0v (E:=E) ho ht a1 (.inl (by rw [a2];omega));rw [a2,Int.toNat_natCast] at h2;by_cases hop:s.ops+1<=32
  ·obtain ⟨q1,q2,q3⟩:=h2 hop (by omega) n rest rfl;obtain ⟨q4,q5, -, -⟩:=h3 q1;exact ⟨r,h1,fun _ _=>q1,fun _=>⟨q2,by rw [q3];exact .word1 hk hn,q4,by rw [q5];rfl⟩⟩
  ·exact ⟨r,h1,fun _ p2=>absurd (by simpa using p2) hop,fun hok=>absurd (h3 hok).2.2.1 hop⟩
 | @neg d c a _ ih=>exact key fun s rest ho ht=>pre_res (k:=0) rfl (by decide) (by decide) (ih.2.2.2 rfl) (fun e p h=>.neg h) ho ht
 | @not d c a _ ih=>exact key fun s rest ho ht=>pre_res (k:=1) rfl (by decide) (by decide) (ih.2.2.2 rfl) (fun e p h=>.not h) ho ht
 | @par m ty d c a _ ih =>
  refine key fun s rest ho ht=>?_;obtain ⟨hm1,hm6,hz, -⟩:=ih;have ha:B2 L E s J6=2:=by rw [J8 ht ho];rfl
  by_cases h16:s.par+1<=16
  ·have hl:=un_lim (L:=L) (E:=E) h16 ho;have htn:Tk L { s with i:=s.i+1,par:=s.par+1 }=a++(5,[41],0) :: rest:=by
    have:=A3o (L:=L) (s':={ s with i:=s.i+1,par:=s.par+1 }) (s:=s) rfl ht;simpa using this
   obtain ⟨r,h1,h3,h4⟩:=hz 1 (by decide) hm1 { s with i:=s.i+1,par:=s.par+1 } _ ho htn (fun t q e=>by
    injection e with e1 e2;subst e1;exact .inl (by decide))
   obtain ⟨e,s3⟩:=r;refine ⟨_,Un.par ha hl h1,fun p1 p2=>?_,fun hok=>?_⟩
   ·have:((d+1:Nat):Int)=d+1:=by omega
    have k1:=h3 (by dsimp only;omega) p2;obtain ⟨q1, -, -, -⟩:=h4 k1;show okR (B6 L E s3 [41])=true;unfold B6;rw [if_neg (by rw [P1 q1 k1];decide)];exact k1
   ·have k0:okR (B6 L E s3 [41])=true:=hok;obtain ⟨k1,k2⟩:=A4n k0;have k3:okR s3=true:=(X5 k1).1;obtain ⟨q1,q2,q3,q4⟩:=h4 k3;refine ⟨?_,q2,?_,?_⟩
    ·have:Tk L (B6 L E s3 [41])=rest:=by rw [k2];exact A3o (s:=s3) rfl q1
     exact this
    ·show (B6 L E s3 [41]).par-1=s.par;rw [k2];show s3.par-1=s.par;dsimp only at q3;omega
    ·show (B6 L E s3 [41]).ops=s.ops+c;rw [k2];exact q4
  ·exact un_bad (by omega) (by rw [ha];decide)
 | @bin k m1 m2 ta ty d1 d2 c1 c2 a b hk hta hty hm1 hm2 _ _ iha ihb =>
  obtain ⟨hl1,hl5⟩:=op_lev hk;obtain ⟨-, -,hza, -⟩:=iha;obtain ⟨-, -,hzb, -⟩:=ihb;refine ⟨hl1,by omega,?_,fun h=>by omega⟩;refine Pz.of (by omega) fun s rest ho ht hno=>?_;generalize hlv:E4 (12+(k:Int))=lv at *;have hsg:=amg_signs k hk;have ht':Tk L s=a++(5,C2.getD k [],0) :: (b++rest):=by rw [ht];simp
  obtain ⟨⟨e,s1⟩,h1,h2,h3⟩:=hza (lv+1) (by omega) (by omega) s _ ho ht' (fun t q e=>by
   injection e with e1 e2;subst e1;right;rw [hsg,hlv];omega)
  cases ho1:okR s1 with
  | false =>
   refine ⟨(e,s1),Bin.go (by omega) h1 (Lop.stop (.inl (by rw [amgR_nok ho1];decide))),fun p1 p2=>?_,fun hok=>?_⟩
   ·have:=h2 (by omega) (by omega);exact absurd this (by rw [ho1];simp)
   ·rw [ho1] at hok;cases hok
  | true =>
   obtain ⟨q1,q2,q3,q4⟩:=h3 ho1;have ham:B2 L E s1 C2=k:=by rw [J8 q1 ho1];exact hsg
   have htn:Tk L (B0 s1)=b++rest:=A3o (s:=s1) rfl q1;obtain ⟨⟨x,s2⟩,g1,g2,g3⟩:=hzb (lv+1) (by omega) (by omega) (B0 s1) rest ho1 htn (hno.up (by omega));have hres:∀ p,Res L Nm s (.mk (12+(k:Int)) 0 [] [e,x] p,s2) rest (max d1 d2) (c1+c2) ty:=by
    intro p;refine ⟨fun p1 p2=>?_,fun hok=>?_⟩
    ·exact g2 (by show s1.par+d2<=16;dsimp only at q3;omega) (by show s1.ops+c2<=32;dsimp only at q4;omega)
    ·obtain ⟨w1,w2,w3,w4⟩:=g3 hok;refine ⟨w1,.bin hk hta hty q2 w2,?_,?_⟩
     ·have:(B0 s1).par=s1.par:=rfl;dsimp only at q3 w3 ⊢;omega
     ·have:(B0 s1).ops=s1.ops:=rfl;dsimp only at q4 w4 ⊢;omega
   by_cases h33:lv=3
   ·refine ⟨_,Bin.go (by omega) h1 (Lop.three (by rw [ham];omega) (by rw [ham];exact hlv) h33 g1),?_⟩;rw [ham];exact hres _
   ·refine ⟨_,Bin.go (by omega) h1 (Lop.more (by rw [ham];omega) (by rw [ham];exact hlv) h33 g1 (lop_end (rest:=rest) (fun h=>(g3 h).1) hno)),?_⟩;rw [ham];exact hres _
end
end Go.Pb
namespace Go.Pb
variable [Go.Sym.Tab]
open Go.Sym
def A4v (Nm:Int->List UInt8->Prop) (R:Ru):Prop:=∀ k n,Nm k n->(N6 R n).1=k
theorem U1 {R:Ru} {n:List UInt8} {k p:Int} (h:k=0\/(N6 R n).1=k):dnE R n k p=none:=by
 unfold dnE dnM;rw [if_pos h,if_pos rfl]
theorem ty_ok {Nm:Int->List UInt8->Prop} {R:Ru} (hR:A4v Nm R) {ty:Bool} {e:Ex} (h:TyE Nm ty e):erE R e=none/\M6 e.kind=(if ty=true then 1 else 2):=by
 induction h with
 | num=>exact ⟨by simp [erE,N2,U1 (show kdE 1=0\/_ from .inl rfl)],rfl⟩
 | var hn=>exact ⟨by simp [erE,N2,U1 (.inr (hR _ _ hn)),show kdE 2=6 from rfl],rfl⟩
 | @word0 k ty p hk =>
  simp only [List.mem_cons,Prod.mk.injEq,List.not_mem_nil,or_false] at hk;rcases hk with ⟨rfl,rfl⟩|⟨rfl,rfl⟩|⟨rfl,rfl⟩|⟨rfl,rfl⟩
  all_goals exact ⟨by rw [erE,N2,U1 (.inl (by decide))];rfl,rfl⟩
 | @word1 k nk ty n p hk hn =>
  have hl:=hR _ _ hn;simp only [List.mem_cons,Prod.mk.injEq,List.not_mem_nil,or_false] at hk;rcases hk with ⟨rfl,rfl,rfl⟩|⟨rfl,rfl,rfl⟩|⟨rfl,rfl,rfl⟩
  all_goals exact ⟨by rw [erE,N2,U1 (.inr (by rw [hl];rfl))];rfl,rfl⟩
 | neg _ ih =>
  refine ⟨?_,rfl⟩;rw [erE,N2,N2,ih.1,U1 (.inl (by decide))];simp [ih.2,T1]
 | not _ ih =>
  refine ⟨?_,rfl⟩;rw [erE,N2,N2,ih.1,U1 (.inl (by decide))];simp [ih.2,T1]
 | @bin k ta ty a b p hk hta hty _ _ iha ihb =>
  have e1:∀ k:Nat,k<13->kdE (12+(k:Int))=0/\M6 (12+(k:Int))=(if decide (k<5)=true then 1 else 2)/\(k<11->k≠9->k≠10->∀ x,T1 (12+(k:Int)) x=1)/\((k=9\/k=10)->∀ x y,T1 (12+(k:Int)) (x :: y)=M6 x.kind)/\(11<=k->∀ x,T1 (12+(k:Int)) x=2):=by
   intro k hk;refine ⟨?_,?_,fun h1 h2 h3 x=>?_,fun h x y=>?_,fun h x=>?_⟩
   ·unfold kdE;rw [if_neg (by omega),if_neg (by omega),if_neg (by omega),if_neg (by omega)]
   ·have:∀ k:Nat,k<13->M6 (12+(k:Int))=(if decide (k<5)=true then 1 else 2):=by decide
    exact this k hk
   ·unfold T1;rw [if_neg (by omega),if_neg (by omega)]
   ·unfold T1;rw [if_neg (by omega),if_pos (by omega)]
   ·unfold T1;rw [if_pos (by omega)]
  obtain ⟨g1,g2,g3,g4,g5⟩:=e1 k hk;refine ⟨?_,by rw [show (Ex.mk (12+(k:Int)) 0 [] [a,b] p).kind=12+(k:Int) from rfl,g2,hty]⟩;rw [erE,N2,N2,N2,iha.1,ihb.1,U1 (.inl g1)];have hall:([a,b].all fun x=>M6 x.kind == T1 (12+(k:Int)) [a,b])=true:=by
   simp only [List.all_cons,List.all_nil,Bool.and_true,iha.2,ihb.2];by_cases h1:11<=k
   ·rw [g5 h1,hta,show decide (k<11)=false by simp;omega];rfl
   ·by_cases h2:k=9\/k=10
    ·rw [g4 h2,iha.2];simp
    ·rw [g3 (by omega) (by omega) (by omega),hta,show decide (k<11)=true by simp;omega];rfl
  rw [hall];rfl
theorem erA1 {Nm:Int->List UInt8->Prop} {R:Ru} (hR:A4v Nm R) {ty b:Bool} {e:Ex} (h:TyE Nm ty e) (hb:b = !ty):erA R b [e]=none:=by
 obtain ⟨h1,h2⟩:=ty_ok hR h;rw [erA,erA,h1,h2,hb];cases ty<;>rfl
theorem erA2 {Nm:Int->List UInt8->Prop} {R:Ru} (hR:A4v Nm R) {e x:Ex} (h:TyE Nm true e) (h':TyE Nm true x):erA R false [e,x]=none:=by
 obtain ⟨h1,h2⟩:=ty_ok hR h;obtain ⟨h3,h4⟩:=ty_ok hR h';rw [erA,erA,erA,h1,h2,h3,h4];rfl
theorem erB_app (R:Ru):∀ (a b:List St),erB R (a++b)=(erB R a).or (erB R b)
 | [],b=>by rw [List.nil_append,erB];cases erB R b<;>rfl
 | x :: a,b=>by rw [List.cons_append,erB,erB,erB_app R a b];cases erS R x<;>cases erB R a<;>rfl
theorem Q9 {R:Ru} {k p:Int} {n t:List UInt8} {a:List Ex} {x y:List St} (h1:kdS k=0\/(N6 R n).1=kdS k) (h2:erA R (k == 2) a=none) (h3:erB R x=none) (h4:erB R y=none):erS R (.mk k n t a x y p)=none:=by
 rw [erS,U1 h1,h2,h3,h4];rfl
section
variable {L:List Tok} {E:Int}
structure At (L:List Tok) (s:Rd) (q:List T3):Prop where
 ok:okR s=true
 tk:Tk L s=q
theorem At.nxt {s:Rd} {t:T3} {q:List T3} (h:At L s (t :: q)):At L (B0 s) q:=⟨h.ok,A3o (s:=s) rfl h.tk⟩
theorem At.take {s:Rd} {k v:Int} {n:List UInt8} {q:List T3} (h:At L s ((k,n,v) :: q)):A8 L E s k=(B1 L E s,B0 s)/\(B1 L E s).text=n/\(B1 L E s).value=v:=by
 have h1:=(U7 (E:=E) h.tk).1;refine ⟨?_,congrArg (fun x=>x.2.1) h1,congrArg (fun x=>x.2.2) h1⟩;unfold A8;rw [if_neg (by rw [A4i h.tk h.ok];simp)]
theorem At.exp {s:Rd} {c v:Int} {x:List UInt8} {q:List T3} (h:At L s ((c,x,v) :: q)) (hc:c=5\/c=2):B6 L E s x=B0 s:=by
 unfold B6;rw [if_neg (by rw [P1 h.tk h.ok];rcases hc with rfl|rfl<;>simp)]
variable {Nm:Int->List UInt8->Prop}
theorem At.xpn {m:Int} {ty:Bool} {d c:Nat} {a rest:List T3} {s:Rd} (hx:GX Nm m ty d c a) (hd:d<=16) (hc:c<=32) (h:At L s (a++rest)) (hno:A2p 1 rest):∃ e s1,Xpn L E s (e,s1)/\At L s1 rest/\TyE Nm ty e:=by
 obtain ⟨h1,h2,hz, -⟩:=gx_all (L:=L) (E:=E) hx;obtain ⟨⟨e,s1⟩,g1,g2,g3⟩:=hz 1 (by decide) h1 { s with ops:=0,par:=0 } rest h.ok h.tk hno;have k:=g2 (by show (0:Int)+d<=16;omega) (by show (0:Int)+c<=32;omega);obtain ⟨k1,k2, -, -⟩:=g3 k;exact ⟨e,s1,g1,⟨k,k1⟩,k2⟩
theorem T7 {x:List UInt8} {q:List T3} {n:Int} (h:J3 (5,x,0) C2 = -1):A2p n ((5,x,0) :: q):=fun t q' e=>by
 injection e with e1 e2;subst e1;exact .inl (by rw [h];decide)
def SX (Nm:Int->List UInt8->Prop) (ty:Bool) (a:List T3):Prop:=∃ m d c,d<=16/\c<=32/\GX Nm m ty d c a
theorem At.sx {ty:Bool} {a rest:List T3} {s:Rd} (hx:SX Nm ty a) (h:At L s (a++rest)) (hno:A2p 1 rest):∃ e s1,Xpn L E s (e,s1)/\At L s1 rest/\TyE Nm ty e:=by
 obtain ⟨m,d,c,hd,hc,hg⟩:=hx;exact h.xpn hg hd hc hno
abbrev wdT (j:Nat):T3:=(2,B7.getD j [],0)
abbrev sgT (x:List UInt8):T3:=(5,x,0)
def A5t:List (Nat × Int):=[(3,2),(4,2),(5,2),(9,7),(10,9),(11,9),(12,8),(13,4),(14,5),(15,5)]
inductive GS (Nm:Int->List UInt8->Prop) (B:List T3->Prop):List T3->Prop where
 | set {n:List UInt8} {a:List T3}:Nm 6 n->SX Nm true a->GS Nm B ((1,n,0) :: sgT [61] :: (a++[sgT [59]]))
 | name {j:Nat} {k:Int} {n:List UInt8}:(j,k)∈A5t->Nm k n->GS Nm B [wdT j,(1,n,0),sgT [59]]
 | score {a:List T3}:SX Nm true a->GS Nm B (wdT 2 :: (a++[sgT [59]]))
 | arg {j:Nat} {k:Int} {n:List UInt8} {a:List T3}:(j,k)∈[(6,(3:Int)),(8,7)]->Nm k n->SX Nm true a->GS Nm B (wdT j :: (1,n,0) :: (a++[sgT [59]]))
 | blink {n:List UInt8} {a b:List T3}:Nm 3 n->SX Nm true a->SX Nm true b->GS Nm B (wdT 7 :: (1,n,0) :: (a++sgT [44] :: (b++[sgT [59]])))
 | text {x:List UInt8} {a:List T3}:SX Nm true a->GS Nm B (wdT 16 :: (4,x,0) :: sgT [44] :: (a++[sgT [59]]))
 | consume:GS Nm B [wdT 17,sgT [59]]
 | rep {a b:List T3}:SX Nm true a->B b->GS Nm B (wdT 1 :: (a++b))
 | ifs {a b:List T3}:SX Nm false a->B b->GS Nm B (wdT 0 :: (a++b))
 | ife {a b c:List T3}:SX Nm false a->B b->B c->GS Nm B (wdT 0 :: (a++(b++(2,[101,108,115,101],0) :: c)))
 | ifi {a b a2 c:List T3}:SX Nm false a->B b->SX Nm false a2->B c->GS Nm B (wdT 0 :: (a++(b++(2,[101,108,115,101],0) :: wdT 0 :: (a2++c))))
def GB (S:List T3->Prop) (ts:List T3):Prop:=∃ ls:List (List T3),ls.length<=64/\(∀ x∈ls,S x)/\ts=sgT [123] :: (ls.flatten++[sgT [125]])
def A7v (rest:List T3):Prop:=∀ t q,rest=t :: q->((t.1 == 5 || t.1 == 2) && t.2.1 == [101,108,115,101])=false
def StOk (L:List Tok) (E:Int) (Nm:Int->List UInt8->Prop) (b:Int) (ts:List T3):Prop:=∀ (d:Int) s rest,d+b<=8->At L s (ts++rest)->A7v rest ->
 ∃ x s1,M5 L E d s (x,s1)/\At L s1 rest/\∀ R,A4v Nm R->erS R x=none
def BlOk (L:List Tok) (E:Int) (Nm:Int->List UInt8->Prop) (b:Int) (ts:List T3):Prop:=∀ (d:Int) s rest,d+b<=8->At L s (ts++rest) ->
 ∃ x s1,A4y L E d s (x,s1)/\At L s1 rest/\∀ R,A4v Nm R->erB R x=none
theorem A6o {j:Nat} (h:j<18):J3 (wdT j) B7=j:=by
 have:∀ j,j<18->J3 (wdT j) B7=j:=by decide
 exact this j h
theorem lim_at {s:Rd} {d:Int} (h:d<=8):B3 L E s d 8 50=s:=A0l h
theorem Y8 {s:Rd} {d:Int} {j:Nat} {q:List T3} {r:St × Rd} (hd:d<=8) (hj:2<=j) (hj2:j<18) (h:At L s (wdT j :: q)) (he:Evt (fun f=>I6 L E f (2+(j:Int)) (B1 L E s).pos (B0 s)) r):M5 L E d s r:=by
 have ha:B2 L E s B7=j:=by rw [J8 h.tk h.ok];exact A6o hj2
 refine M5.tail (by rw [lim_at hd];exact h.ok) (by rw [ha];omega) ?_;rw [ha];exact he
theorem no_else {s:Rd} {rest:List T3} (h:At L s rest) (hne:A7v rest):isR L E s [101,108,115,101]=false:=by
 cases rest with
 | nil=>unfold isR;rw [tk_nil (E:=E) h.tk];simp
 | cons t q=>rw [P1 h.tk h.ok];exact hne t q rfl
theorem blk_st {b:Int} {j:Nat} {a c rest:List T3} {d:Int} {s:Rd} (hj:j=0\/j=1) (hd:d<=8) (hdb:d+1+b<=8) (ha:SX Nm (decide (j=1)) a) (hc:BlOk L E Nm b c) (hch:∃ q,c=sgT [123] :: q)
  (hs:At L s (wdT j :: (a++(c++rest)))) (hne:A7v rest):∃ x s1,M5 L E d s (x,s1)/\At L s1 rest/\∀ R,A4v Nm R->erS R x=none:=by
 have hl:okR (B3 L E s d 8 50)=true:=by rw [lim_at hd];exact hs.ok
 have ham:B2 L E s B7=j:=by rw [J8 hs.tk hs.ok];exact A6o (by omega)
 obtain ⟨q,rfl⟩:=hch;obtain ⟨e,s1,x1,x2,x3⟩:=hs.nxt.sx (E:=E) ha (T7 (by decide));obtain ⟨t,s2,y1,y2,y3⟩:=hc (d+1) s1 rest hdb x2;refine ⟨_,s2,M5.blk hl (by omega) x1 y1 (fun h=>?_),y2,fun R hR=>?_⟩
 ·rw [no_else y2 hne] at h;cases h.2
 ·rw [ham];rcases hj with rfl|rfl
  ·exact Q9 (.inl (by decide)) (erA1 hR x3 rfl) (y3 R hR) rfl
  ·exact Q9 (.inl (by decide)) (erA1 hR x3 rfl) (y3 R hR) rfl
theorem gs_ok {B:List T3->Prop} {b:Int} (hb : -2<=b) (hb2:∀ ts,B ts->0<=b) (hB:∀ ts,B ts->BlOk L E Nm b ts) (hBh:∀ ts,B ts->∃ q,ts=sgT [123] :: q) {ts:List T3} (h:GS Nm B ts):StOk L E Nm (b+2) ts:=by
 intro d s rest hd hs hne;have hd8:d<=8:=by omega
 have hl:okR (B3 L E s d 8 50)=true:=by rw [lim_at hd8];exact hs.ok
 have n59:∀ q,A2p 1 (sgT [59] :: q):=fun q=>T7 (by decide);have n44:∀ q,A2p 1 (sgT [44] :: q):=fun q=>T7 (by decide);cases h with
 | @set n a hn ha =>
  have hs:At L s ((1,n,0) :: sgT [61] :: (a++sgT [59] :: rest)):=by simpa using hs
  obtain ⟨t1,t2, -⟩:=hs.take (E:=E);have h2:=hs.nxt.nxt;have e1:B6 L E (A8 L E s 1).2 [61]=B0 (B0 s):=by rw [t1];exact hs.nxt.exp (.inl rfl)
  obtain ⟨e,s1,x1,x2,x3⟩:=h2.sx (E:=E) ha (n59 _);have hk:B2 L E s B7<0:=by rw [J8 hs.tk hs.ok,show J3 (1,n,0) B7 = -1 from Q1 (by simp) (by simp) _ _];decide
  refine ⟨_,_,M5.set hl hk (by rw [e1];exact x1),?_,fun R hR=>?_⟩
  ·rw [x2.exp (.inl rfl)];exact x2.nxt
  ·rw [t1];refine Q9 (.inr ?_) (erA1 hR x3 rfl) rfl rfl;rw [t2];exact hR 6 n hn
 | @name j k n hj hn =>
  have hs:At L s (wdT j :: (1,n,0) :: sgT [59] :: rest):=by simpa using hs
  have hjj:3<=j/\j<=15/\j≠6/\j≠7/\j≠8/\kdS (2+(j:Int))=k/\(2+(j:Int) == 2)=false:=by
   simp only [A5t,List.mem_cons,Prod.mk.injEq,List.not_mem_nil,or_false] at hj;rcases hj with ⟨rfl,rfl⟩|⟨rfl,rfl⟩|⟨rfl,rfl⟩|⟨rfl,rfl⟩|⟨rfl,rfl⟩|⟨rfl,rfl⟩|⟨rfl,rfl⟩|⟨rfl,rfl⟩|⟨rfl,rfl⟩|⟨rfl,rfl⟩<;>decide
  obtain ⟨j1,j2,j3,j4,j5,j6,j7⟩:=hjj;obtain ⟨t1,t2, -⟩:=hs.nxt.take (E:=E);have x2:=hs.nxt.nxt;refine ⟨_,_,Y8 (r:=(.mk (2+(j:Int)) n [] [] [] [] (B1 L E s).pos,B0 (B0 (B0 s)))) hd8 (by omega) (by omega) hs (Evt.one fun f=>?_),x2.nxt,fun R hR=>?_⟩
  ·unfold I6;rw [if_neg (by omega),if_neg (by omega),if_neg (by omega),t1];dsimp only;rw [if_neg (by omega),t2,x2.exp (.inl rfl)]
  ·exact Q9 (.inr (by rw [j6];exact hR _ _ hn)) rfl rfl rfl
 | @score a ha =>
  have hs:At L s (wdT 2 :: (a++sgT [59] :: rest)):=by simpa using hs
  obtain ⟨e,s1,x1,x2,x3⟩:=hs.nxt.sx (E:=E) ha (n59 _);refine ⟨_,_,Y8 (r:=(.mk 4 [] [] [e] [] [] (B1 L E s).pos,B0 s1)) hd8 (by omega) (by omega) hs (x1.map fun f h=>?_),x2.nxt,fun R hR=>?_⟩
  ·unfold I6;rw [if_pos (by decide),h];dsimp only;rw [x2.exp (.inl rfl)];rfl
  ·exact Q9 (.inl (by decide)) (erA1 hR x3 rfl) rfl rfl
 | @arg j k n a hj hn ha =>
  have hs:At L s (wdT j :: (1,n,0) :: (a++sgT [59] :: rest)):=by simpa using hs
  have hjj:(j=6\/j=8)/\kdS (2+(j:Int))=k/\(2+(j:Int) == 2)=false:=by
   simp only [List.mem_cons,Prod.mk.injEq,List.not_mem_nil,or_false] at hj;rcases hj with ⟨rfl,rfl⟩|⟨rfl,rfl⟩<;>decide
  obtain ⟨j1,j6,j7⟩:=hjj;obtain ⟨t1,t2, -⟩:=hs.nxt.take (E:=E);obtain ⟨e,s1,x1,x2,x3⟩:=hs.nxt.nxt.sx (E:=E) ha (n59 _);refine ⟨_,_,Y8 (r:=(.mk (2+(j:Int)) n [] [e] [] [] (B1 L E s).pos,B0 s1)) hd8 (by omega) (by omega) hs (x1.map fun f h=>?_),x2.nxt,fun R hR=>?_⟩
  ·unfold I6;rw [if_neg (by omega),if_neg (by omega),if_neg (by omega),t1];dsimp only;rw [if_pos (by omega),h];dsimp only;rw [if_neg (by omega),t2,x2.exp (.inl rfl)]
  ·exact Q9 (.inr (by rw [j6];exact hR _ _ hn)) (erA1 hR x3 (by rw [j7];rfl)) rfl rfl
 | @blink n a a2 hn ha ha2 =>
  have hs:At L s (wdT 7 :: (1,n,0) :: (a++sgT [44] :: (a2++sgT [59] :: rest))):=by simpa using hs
  obtain ⟨t1,t2, -⟩:=hs.nxt.take (E:=E);obtain ⟨e,s1,x1,x2,x3⟩:=hs.nxt.nxt.sx (E:=E) ha (n44 _);obtain ⟨e2,s2,y1,y2,y3⟩:=x2.nxt.sx (E:=E) ha2 (n59 _);refine ⟨_,_,Y8 (r:=(.mk 9 n [] [e,e2] [] [] (B1 L E s).pos,B0 s2)) hd8 (by omega) (by omega) hs (x1.map2 y1 fun f h h2=>?_),y2.nxt,fun R hR=>?_⟩
  ·unfold I6;rw [if_neg (by decide),if_neg (by decide),if_neg (by decide),t1];dsimp only;rw [if_pos (by decide),h];dsimp only;rw [if_pos (by decide),x2.exp (.inl rfl),h2];dsimp only;rw [t2,y2.exp (.inl rfl)];rfl
  ·exact Q9 (.inr (hR 3 n hn)) (erA2 hR x3 y3) rfl rfl
 | @text x a ha =>
  have hs:At L s (wdT 16 :: (4,x,0) :: sgT [44] :: (a++sgT [59] :: rest)):=by simpa using hs
  obtain ⟨t1,t2, -⟩:=hs.nxt.take (E:=E);have h3:=hs.nxt.nxt;obtain ⟨e,s1,x1,x2,x3⟩:=h3.nxt.sx (E:=E) ha (n59 _);refine ⟨_,_,Y8 (r:=(.mk 18 [] x [e] [] [] (B1 L E s).pos,B0 s1)) hd8 (by omega) (by omega) hs (x1.map fun f h=>?_),x2.nxt,fun R hR=>?_⟩
  ·unfold I6;rw [if_neg (by decide),if_pos (by decide),t1];dsimp only;rw [h3.exp (.inl rfl),h];dsimp only;rw [t2,x2.exp (.inl rfl)];rfl
  ·exact Q9 (.inl (by decide)) (erA1 hR x3 rfl) rfl rfl
 | consume =>
  have hs:At L s (wdT 17 :: sgT [59] :: rest):=by simpa using hs
  refine ⟨_,_,Y8 (r:=(.mk 19 [] [] [] [] [] (B1 L E s).pos,B0 (B0 s))) hd8 (by omega) (by omega) hs (Evt.one fun f=>?_),hs.nxt.nxt,fun R hR=>?_⟩
  ·unfold I6;rw [if_neg (by decide),if_neg (by decide),if_pos (by decide),hs.nxt.exp (.inl rfl)];rfl
  ·exact Q9 (.inl (by decide)) rfl rfl rfl
 | @rep a c ha hc=>exact blk_st (.inr rfl) hd8 (by omega) ha (hB c hc) (hBh c hc) (by simpa using hs) hne
 | @ifs a c ha hc=>exact blk_st (.inl rfl) hd8 (by omega) ha (hB c hc) (hBh c hc) (by simpa using hs) hne
 | @ife a c c2 ha hc hc2 =>
  have hs:At L s (wdT 0 :: (a++(c++(2,[101,108,115,101],0) :: (c2++rest)))):=by simpa using hs
  have ham:B2 L E s B7=0:=by rw [J8 hs.tk hs.ok];exact A6o (j:=0) (by decide)
  have hcb:=hB c hc;have hcb2:=hB c2 hc2;obtain ⟨q,rfl⟩:=hBh c hc;obtain ⟨q2,rfl⟩:=hBh c2 hc2;obtain ⟨e,s1,x1,x2,x3⟩:=hs.nxt.sx (E:=E) ha (T7 (by decide));obtain ⟨t,s2,y1,y2,y3⟩:=hcb (d+1) s1 _ (by omega) x2;have he:isR L E s2 [101,108,115,101]=true:=by rw [P1 y2.tk y2.ok];rfl
  have hi:isR L E (B0 s2) [105,102]=false:=by rw [P1 y2.nxt.tk y2.nxt.ok];rfl
  obtain ⟨o,s3,z1,z2,z3⟩:=hcb2 (d+1) (B0 s2) rest (by omega) y2.nxt;exact ⟨_,s3,M5.els hl ham x1 y1 he (A5g.blk hi z1),z2,fun R hR=>Q9 (.inl (by decide)) (erA1 hR x3 rfl) (y3 R hR) (z3 R hR)⟩
 | @ifi a c a2 c2 ha hc ha2 hc2 =>
  have hb3:=hb2 c hc;have hs:At L s (wdT 0 :: (a++(c++(2,[101,108,115,101],0) :: wdT 0 :: (a2++(c2++rest))))):=by simpa using hs
  have ham:B2 L E s B7=0:=by rw [J8 hs.tk hs.ok];exact A6o (j:=0) (by decide)
  have hcb:=hB c hc;obtain ⟨q,rfl⟩:=hBh c hc;obtain ⟨e,s1,x1,x2,x3⟩:=hs.nxt.sx (E:=E) ha (T7 (by decide));obtain ⟨t,s2,y1,y2,y3⟩:=hcb (d+1) s1 _ (by omega) x2;have he:isR L E s2 [101,108,115,101]=true:=by rw [P1 y2.tk y2.ok];rfl
  have hi:isR L E (B0 s2) [105,102]=true:=by rw [P1 y2.nxt.tk y2.nxt.ok];rfl
  obtain ⟨x,s3,z1,z2,z3⟩:=blk_st (E:=E) (j:=0) (d:=d+1) (.inl rfl) (by omega) (by omega) ha2 (hB c2 hc2) (hBh c2 hc2) y2.nxt hne;exact ⟨_,s3,M5.els hl ham x1 y1 he (A5g.iff hi z1),z2,fun R hR=>Q9 (.inl (by decide)) (erA1 hR x3 rfl) (y3 R hR) (by rw [erB,z3 R hR,erB];rfl)⟩
theorem gs_head {B:List T3->Prop} {ts:List T3} (h:GS Nm B ts):∃ t q,ts=t :: q/\(0<=J3 t B7\/t.1=1)/\((t.1 == 5 || t.1 == 2) && t.2.1 == [125])=false/\((t.1 == 5 || t.1 == 2) && t.2.1 == [101,108,115,101])=false:=by
 have hw:∀ j,j<18->(0<=J3 (wdT j) B7\/(wdT j).1=1)/\(((wdT j).1 == 5 || (wdT j).1 == 2) && (wdT j).2.1 == [125])=false/\(((wdT j).1 == 5 || (wdT j).1 == 2) && (wdT j).2.1 == [101,108,115,101])=false:=by decide
 cases h with
 | set=>exact ⟨_,_,rfl,.inr rfl,rfl,rfl⟩
 | @name j k n hj _ =>
  have hjj:j<18:=by
   simp only [A5t,List.mem_cons,Prod.mk.injEq,List.not_mem_nil,or_false] at hj;omega
  exact ⟨_,_,rfl,hw j hjj⟩
 | score=>exact ⟨_,_,rfl,hw 2 (by decide)⟩
 | @arg j k n a hj _ _ =>
  have hjj:j<18:=by
   simp only [List.mem_cons,Prod.mk.injEq,List.not_mem_nil,or_false] at hj;omega
  exact ⟨_,_,rfl,hw j hjj⟩
 | blink=>exact ⟨_,_,rfl,hw 7 (by decide)⟩
 | text=>exact ⟨_,_,rfl,hw 16 (by decide)⟩
 | consume=>exact ⟨_,_,rfl,hw 17 (by decide)⟩
 | rep=>exact ⟨_,_,rfl,hw 1 (by decide)⟩
 | ifs=>exact ⟨_,_,rfl,hw 0 (by decide)⟩
 | ife=>exact ⟨_,_,rfl,hw 0 (by decide)⟩
 | ifi=>exact ⟨_,_,rfl,hw 0 (by decide)⟩
theorem blp_ok {B:List T3->Prop} {b:Int} (hS:∀ ts,GS Nm B ts->StOk L E Nm b ts) {d:Int} (hd:d+b<=8) (rest:List T3):∀ (ls:List (List T3)) (acc:List St) (s:Rd),acc.length+ls.length<=64->(∀ x∈ls,GS Nm B x) ->
  At L s (ls.flatten++sgT [125] :: rest)->∃ x s1,S9 L E d acc s (x,s1)/\At L s1 rest/\∀ R,A4v Nm R->erB R acc=none->erB R x=none
 | [],acc,s,hl,hx,hs=>by
  have hs:At L s (sgT [125] :: rest):=hs;have hi:isR L E s [125]=true:=by rw [P1 hs.tk hs.ok];rfl
  refine ⟨acc,B0 s,?_,hs.nxt,fun R _ h=>h⟩;have:=S9.stop (L:=L) (E:=E) (d:=d) (l:=acc) (s:=s) (by rw [hi];simp);rw [hs.exp (.inl rfl)] at this;exact this
 | y :: ls,acc,s,hl,hx,hs=>by
  have hy:=hx y List.mem_cons_self;obtain ⟨t,q,e,h1,h2,h3⟩:=gs_head hy;have hs:At L s (y++(ls.flatten++sgT [125] :: rest)):=by simpa using hs
  have hs0:At L s (t :: (q++(ls.flatten++sgT [125] :: rest))):=by rw [e] at hs;exact hs
  have hi:isR L E s [125]=false:=by rw [P1 hs0.tk hs0.ok];exact h2
  have hg:¬ (B2 L E s B7<0/\F1 L E s 1=false):=by
   rw [J8 hs0.tk hs0.ok,A4i hs0.tk hs0.ok];rintro ⟨a1,a2⟩;rcases h1 with h1|h1
   ·omega
   ·rw [h1] at a2;cases a2
  have hlm:B3 L E s ((acc.length:Int)+1) 64 9=s:=A0l (by simp only [List.length_cons] at hl;omega);have hne:A7v (ls.flatten++sgT [125] :: rest):=by
   intro t' q' e';cases ls with
   | nil=>injection e' with e1 e2;subst e1;rfl
   | cons z ls =>
    obtain ⟨t2,q2,e2, -, -,h5⟩:=gs_head (hx z (List.mem_cons_of_mem _ List.mem_cons_self));rw [List.flatten_cons,e2] at e';injection e' with e1 e3;subst e1;exact h5
  obtain ⟨x,s1,x1,x2,x3⟩:=hS y hy d s _ hd hs hne;obtain ⟨r,s2,y1,y2,y3⟩:=blp_ok hS hd rest ls (acc++[x]) s1 (by simp only [List.length_cons,List.length_append,List.length_nil] at hl ⊢;omega) (fun z hz=>hx z (List.mem_cons_of_mem _ hz)) x2;refine ⟨r,s2,S9.more ⟨hs.ok,hi⟩ hg (by rw [hlm];exact x1) y1,y2,fun R hR ha=>y3 R hR ?_⟩;rw [erB_app,ha,erB,x3 R hR,erB];rfl
theorem bl_ok {B:List T3->Prop} {b:Int} (hS:∀ ts,GS Nm B ts->StOk L E Nm b ts) {ts:List T3} (h:GB (GS Nm B) ts):BlOk L E Nm b ts:=by
 obtain ⟨ls,hl,hx,rfl⟩:=h;intro d s rest hd hs;have hs:At L s (sgT [123] :: (ls.flatten++sgT [125] :: rest)):=by simpa using hs
 obtain ⟨x,s1,x1,x2,x3⟩:=blp_ok hS hd rest ls [] (B0 s) (by simpa using hl) hx hs.nxt;exact ⟨x,s1,A4y.mk (by rw [hs.exp (.inl rfl)];exact x1),x2,fun R hR=>x3 R hR rfl⟩
def GSd (Nm:Int->List UInt8->Prop):Nat->List T3->Prop
 | 0=>GS Nm fun _=>False
 | n+1=>GS Nm (GB (GSd Nm n))
theorem gsd_form (n:Nat):∃ B,GSd Nm n=GS Nm B:=by cases n<;>exact ⟨_,rfl⟩
theorem gsd_ok:∀ (n:Nat) (ts:List T3),GSd Nm n ts->StOk L E Nm (2 * n) ts
 | 0,ts,h=>by
  have h0:GS Nm (fun _=>False) ts:=h;have:=gs_ok (L:=L) (E:=E) (b := -2) (Int.le_refl _) (fun _ h=>h.elim) (fun _ h=>h.elim) (fun _ h=>h.elim) h0;intro d s rest hd;exact this d s rest (by omega)
 | n+1,ts,h=>by
  have h1:GS Nm (GB (GSd Nm n)) ts:=h;have:=gs_ok (L:=L) (E:=E) (b:=2 * n) (by omega) (fun _ _=>by omega) (fun t ht=>by
   obtain ⟨B,e⟩:=gsd_form (Nm:=Nm) n;rw [e] at ht;exact bl_ok (fun q hq=>gsd_ok n q (by rw [e];exact hq)) ht) (fun t ht=>by
   obtain ⟨ls, -, -,rfl⟩:=ht;exact ⟨_,rfl⟩) h1
  intro d s rest hd;exact this d s rest (by omega)
theorem gbd_ok (n:Nat) {ts:List T3} (h:GB (GSd Nm n) ts):BlOk L E Nm (2 * n) ts:=by
 obtain ⟨B,e⟩:=gsd_form (Nm:=Nm) n;rw [e] at h;exact bl_ok (fun q hq=>gsd_ok n q (by rw [e];exact hq)) h
end
end Go.Pb
namespace Go.Pb
variable [Go.Sym.Tab]
open Go.Sym
abbrev D3:=Nat × List UInt8 × Int
def st4 (d:Dc):Int × List UInt8 × Int:=(d.kind,d.name,d.value)
def A7o (d:D3):List T3:=if d.1<6 then (if d.2.2<0 then [(5,[45],0),(3,[], -d.2.2)] else [(3,[],d.2.2)]) else []
def dT (d:D3):List T3:=(2,C9.getD d.1 [],0) :: (1,d.2.1,0) :: (A7o d++[(5,[59],0)])
def dWf (d:D3):Prop:=d.1<8/\(d.1<5->0<=d.2.2)/\(6<=d.1->d.2.2=0)
section
variable {L:List Tok} {E:Int}
theorem dcl_at {d:D3} {rest:List T3} {s:Rd} (hw:dWf d) (h:At L s (dT d++rest)):∃ s1,R5 L E (d.1:Int) s=(⟨1+(d.1:Int),d.2.1,d.2.2,(B1 L E s).pos⟩,s1)/\At L s1 rest:=by
 obtain ⟨k,n,v⟩:=d;obtain ⟨h1,h2,h3⟩:=hw;dsimp only at h1 h2 h3 ⊢;have h:At L s ((2,C9.getD k [],0) :: (1,n,0) :: (A7o (k,n,v)++(5,[59],0) :: rest)):=by simpa [dT] using h
 obtain ⟨t1,t2, -⟩:=h.nxt.take (E:=E);have g:=h.nxt.nxt;unfold R5;dsimp only;rw [t1];dsimp only;rw [t2];by_cases h6:k<6
 ·rw [if_pos (by omega)];by_cases hv:v<0
  ·have g2:At L (B0 (B0 s)) ((5,[45],0) :: (3,[], -v) :: (5,[59],0) :: rest):=by
    have e:A7o (k,n,v)=[(5,[45],0),(3,[], -v)]:=by unfold A7o;rw [if_pos h6,if_pos hv]
    rw [e] at g;exact g
   have hk:k=5:=by
    by_cases h5:k<5
    ·have:=h2 h5;omega
    ·omega
   subst hk;have hm:(((5:Nat):Int)+1 == 6 && isR L E (B0 (B0 s)) [45])=true:=by rw [P1 g2.tk g2.ok];rfl
   simp only [if_pos hm];obtain ⟨u1, -,u3⟩:=g2.nxt.take (E:=E);rw [u1];dsimp only;rw [u3,Int.neg_neg,g2.nxt.nxt.exp (.inl rfl)];exact ⟨_,rfl,g2.nxt.nxt.nxt⟩
  ·have g:At L (B0 (B0 s)) ((3,[],v) :: (5,[59],0) :: rest):=by
    have e:A7o (k,n,v)=[(3,[],v)]:=by unfold A7o;rw [if_pos h6,if_neg hv]
    rw [e] at g;exact g
   have hm:((k:Int)+1 == 6 && isR L E (B0 (B0 s)) [45])=false:=by rw [P1 g.tk g.ok];simp
   have hm2:¬ ((k:Int)+1 == 6 && isR L E (B0 (B0 s)) [45])=true:=by rw [hm];decide
   simp only [if_neg hm2];obtain ⟨u1, -,u3⟩:=g.take (E:=E);rw [u1];dsimp only;rw [u3,g.nxt.exp (.inl rfl)];exact ⟨_,rfl,g.nxt.nxt⟩
 ·rw [if_neg (by omega)];have g:At L (B0 (B0 s)) ((5,[59],0) :: rest):=by
   have e:A7o (k,n,v)=[]:=by unfold A7o;rw [if_neg h6]
   rw [e] at g;exact g
  rw [g.exp (.inl rfl),h3 (by omega)];exact ⟨_,rfl,g.nxt⟩
theorem dcl_amg {k:Nat} (h:k<8):J3 (2,C9.getD k [],0) C9=k:=by
 have:∀ k,k<8->J3 (2,C9.getD k [],0) C9=k:=by decide
 exact this k h
theorem rld_at (rest:List T3) (hr:∀ t q,rest=t :: q->J3 t C9 = -1):∀ (ds:List D3) (acc:List Dc) (s:Rd),acc.length+ds.length<=128->(∀ d∈ds,dWf d)->At L s ((ds.map dT).flatten++rest) ->
  ∃ l s1,Evt (fun f=>O8 L E f acc s) (acc++l,s1)/\At L s1 rest/\l.map st4=ds.map fun d=>(1+(d.1:Int),d.2.1,d.2.2)
 | [],acc,s,hl,hw,h=>by
  have h:At L s rest:=h;have ha:B2 L E s C9 = -1:=by
   cases rest with
   | nil=>exact amg_nil h.tk
   | cons t q=>rw [J8 h.tk h.ok];exact hr t q rfl
  refine ⟨[],s,Evt.one fun f=>?_,h,rfl⟩;rw [O8];dsimp only;rw [if_pos (by rw [ha];decide),List.append_nil]
 | d :: ds,acc,s,hl,hw,h=>by
  have h:At L s (dT d++((ds.map dT).flatten++rest)):=by simpa using h
  have hd:=hw d List.mem_cons_self;have ha:B2 L E s C9=d.1:=by
   have h':At L s ((2,C9.getD d.1 [],0) :: (1,d.2.1,0) :: (A7o d++(5,[59],0) :: ((ds.map dT).flatten++rest))):=by simpa [dT] using h
   rw [J8 h'.tk h'.ok];exact dcl_amg hd.1
  obtain ⟨s1,e1,h1⟩:=dcl_at (E:=E) hd h;obtain ⟨l,s2,g1,g2,g3⟩:=rld_at rest hr ds (acc++[⟨1+(d.1:Int),d.2.1,d.2.2,(B1 L E s).pos⟩]) s1 (by simp only [List.length_cons,List.length_append,List.length_nil] at hl ⊢;omega) (fun x hx=>hw x (List.mem_cons_of_mem _ hx)) h1;refine ⟨⟨1+(d.1:Int),d.2.1,d.2.2,(B1 L E s).pos⟩ :: l,s2,?_,g2,by rw [List.map_cons,List.map_cons,g3];rfl⟩;rw [show acc++⟨1+(d.1:Int),d.2.1,d.2.2,(B1 L E s).pos⟩ :: l=acc++[⟨1+(d.1:Int),d.2.1,d.2.2,(B1 L E s).pos⟩]++l by simp];refine g1.ext fun f hf=>?_;have hlm:B3 L E s ((acc.length:Int)+1) 128 9=s:=A0l (by simp only [List.length_cons] at hl;omega);rw [O8];dsimp only;rw [ha,if_neg (by omega),hlm,if_pos h.ok,e1];exact hf
variable {Nm:Int->List UInt8->Prop}
abbrev H3:=Nat × List UInt8 × List T3
def hT (h:H3):List T3:=(2,[111,110],0) :: (2,D4.getD h.1 [],0) :: ((if 2<=h.1 then [(1,h.2.1,0)] else [])++h.2.2)
def hWf (L:List Tok) (E:Int) (Nm:Int->List UInt8->Prop) (h:H3):Prop:=h.1<6/\(h.1<2->h.2.1=[])/\BlOk L E Nm 4 h.2.2
def st5 (h:Hd):Int × List UInt8:=(h.trig,h.name)
theorem trig_amg {k:Nat} (h:k<6):J3 (2,D4.getD k [],0) D4=k:=by
 have:∀ k,k<6->J3 (2,D4.getD k [],0) D4=k:=by decide
 exact this k h
theorem mlp_at (rest:List T3):∀ (hs:List H3) (acc:List Hd) (s:Rd),acc.length+hs.length<=32->(∀ h∈hs,hWf L E Nm h)->At L s ((hs.map hT).flatten++(5,[125],0) :: rest) ->
  ∃ l s1,Evt (fun f=>Q6 L E f acc s) (acc++l,s1)/\At L s1 rest/\l.map st5=hs.map (fun h=>(1+(h.1:Int),h.2.1))/\∀ R,A4v Nm R->∀ h∈l,erB R h.body=none
 | [],acc,s,hl,hw,h=>by
  have h:At L s ((5,[125],0) :: rest):=h;have hi:isR L E s [125]=true:=by rw [P1 h.tk h.ok];rfl
  refine ⟨[],B0 s,Evt.one fun f=>?_,h.nxt,rfl,fun R _ x hx=>by cases hx⟩;rw [Q6,if_neg (by rw [hi];simp),h.exp (.inl rfl),List.append_nil]
 | (k,n,b) :: hs,acc,s,hl,hw,h=>by
  obtain ⟨hk,hn,hb⟩:=hw _ List.mem_cons_self;dsimp only at hk hn hb;have h:At L s ((2,[111,110],0) :: (2,D4.getD k [],0) :: ((if 2<=k then [(1,n,0)] else [])++(b++((hs.map hT).flatten++(5,[125],0) :: rest)))):=by simpa [hT] using h
  have hi:isR L E s [125]=false:=by rw [P1 h.tk h.ok];rfl
  have hon:isR L E s [111,110]=true:=by rw [P1 h.tk h.ok];rfl
  have hlm:B3 L E s ((acc.length:Int)+1) 32 9=s:=A0l (by simp only [List.length_cons] at hl;omega);have he:B6 L E s [111,110]=B0 s:=h.exp (.inr rfl);have ha:B2 L E (B0 s) D4=k:=by rw [J8 h.nxt.tk h.nxt.ok];exact trig_amg hk
  have g:=h.nxt.nxt;obtain ⟨s4,hs4,g4⟩:∃ s4,((if 2<=(k:Int) then (A8 L E (B0 (B0 s)) 1).1.text else [])=n/\(if 2<=(k:Int) then (A8 L E (B0 (B0 s)) 1).2 else B0 (B0 s))=s4)/\At L s4 (b++((hs.map hT).flatten++(5,[125],0) :: rest)):=by
   by_cases h2:2<=k
   ·rw [if_pos h2] at g;obtain ⟨t1,t2, -⟩:=g.take (E:=E);rw [if_pos (by omega),if_pos (by omega),t1];exact ⟨_,⟨t2,rfl⟩,g.nxt⟩
   ·rw [if_neg h2] at g;rw [if_neg (by omega),if_neg (by omega)];exact ⟨_,⟨(hn (by omega)).symm,rfl⟩,g⟩
  obtain ⟨x,s5,x1,x2,x3⟩:=hb 1 s4 _ (by decide) g4;obtain ⟨l,s6,y1,y2,y3,y4⟩:=mlp_at rest hs (acc++[⟨1+(k:Int),n,x,(B1 L E s).pos⟩]) s5 (by simp only [List.length_cons,List.length_append,List.length_nil] at hl ⊢;omega) (fun z hz=>hw z (List.mem_cons_of_mem _ hz)) x2;refine ⟨⟨1+(k:Int),n,x,(B1 L E s).pos⟩ :: l,s6,?_,y2,by rw [List.map_cons,List.map_cons,y3];rfl,fun R hR z hz=>?_⟩
  ·rw [show acc++⟨1+(k:Int),n,x,(B1 L E s).pos⟩ :: l=acc++[⟨1+(k:Int),n,x,(B1 L E s).pos⟩]++l by simp];refine x1.ext2 y1 fun f hx hy=>?_;rw [Q6,if_pos ⟨h.ok,hi⟩,if_neg (by rw [hon];decide),hlm];dsimp only;rw [he,ha,if_neg (by omega),hs4.1,hs4.2,hx];exact hy
  ·rcases List.mem_cons.1 hz with rfl|hz
   ·exact x3 R hR
   ·exact y4 R hR z hz
abbrev M3:=List UInt8 × Int × List H3
def mT (m:M3):List T3:=(2,[109,111,100,101],0) :: (1,m.1,0) :: (3,[],m.2.1) :: (5,[123],0) :: ((m.2.2.map hT).flatten++[(5,[125],0)])
def MdOk (Nm:Int->List UInt8->Prop) (m:M3) (x:Md):Prop:=x.name=m.1/\x.prio=m.2.1/\x.hds.map st5=m.2.2.map (fun h=>(1+(h.1:Int),h.2.1))/\∀ R,A4v Nm R->∀ h∈x.hds,erB R h.body=none
inductive MsOk (Nm:Int->List UInt8->Prop):List M3->List Md->Prop where
 | nil:MsOk Nm [] []
 | cons {m:M3} {x:Md} {ms:List M3} {l:List Md}:MdOk Nm m x->MsOk Nm ms l->MsOk Nm (m :: ms) (x :: l)
def mWf (L:List Tok) (E:Int) (Nm:Int->List UInt8->Prop) (m:M3):Prop:=m.2.2.length<=32/\∀ h∈m.2.2,hWf L E Nm h
theorem mod_at {m:M3} {rest:List T3} {s:Rd} (hw:mWf L E Nm m) (h:At L s (mT m++rest)):∃ x s1,Evt (fun f=>A1a L E f s) (x,s1)/\At L s1 rest/\MdOk Nm m x:=by
 obtain ⟨n,p,hs⟩:=m;have h:At L s ((2,[109,111,100,101],0) :: (1,n,0) :: (3,[],p) :: (5,[123],0) :: ((hs.map hT).flatten++(5,[125],0) :: rest)):=by simpa [mT] using h
 have e1:B6 L E s [109,111,100,101]=B0 s:=h.exp (.inr rfl);obtain ⟨t1,t2, -⟩:=h.nxt.take (E:=E);obtain ⟨u1, -,u3⟩:=h.nxt.nxt.take (E:=E);have e2:=h.nxt.nxt.nxt.exp (E:=E) (.inl rfl);obtain ⟨l,s1,x1,x2,x3,x4⟩:=mlp_at (E:=E) rest hs [] _ (by simpa using hw.1) hw.2 h.nxt.nxt.nxt.nxt;refine ⟨⟨n,p,l,(B1 L E s).pos⟩,s1,x1.map fun f hf=>?_,x2,rfl,rfl,x3,x4⟩;unfold A1a;dsimp only;rw [e1,t1];dsimp only;rw [u1,t2];dsimp only;rw [u3,e2,hf];rfl
theorem rlm_at:∀ (ms:List M3) (acc:List Md) (s:Rd),acc.length+ms.length<=16->(∀ m∈ms,mWf L E Nm m)->At L s (ms.map mT).flatten ->
  ∃ l s1,Evt (fun f=>O2 L E f acc s) (acc++l,s1)/\okR s1=true/\MsOk Nm ms l
 | [],acc,s,hl,hw,h=>by
  have hi:¬ s.i<L.length:=by
   have:=congrArg List.length h.tk;simp [Tk] at this;omega
  refine ⟨[],s,Evt.one fun f=>?_,h.ok,.nil⟩;rw [O2,if_neg (fun h=>hi h.2),List.append_nil]
 | m :: ms,acc,s,hl,hw,h=>by
  have h:At L s (mT m++(ms.map mT).flatten):=by simpa using h
  obtain ⟨x,s1,x1,x2,x3⟩:=mod_at (E:=E) (hw m List.mem_cons_self) h;obtain ⟨l,s2,y1,y2,y3⟩:=rlm_at ms (acc++[x]) s1 (by simp only [List.length_cons,List.length_append,List.length_nil] at hl ⊢;omega) (fun z hz=>hw z (List.mem_cons_of_mem _ hz)) x2;refine ⟨x :: l,s2,?_,y2,.cons x3 y3⟩;have hlm:B3 L E s ((acc.length:Int)+1) 16 9=s:=A0l (by simp only [List.length_cons] at hl;omega);have h0:At L s ((2,[109,111,100,101],0) :: (1,m.1,0) :: (3,[],m.2.1) :: (5,[123],0) :: ((m.2.2.map hT).flatten++(5,[125],0) :: (ms.map mT).flatten)):=by simpa [mT] using h
  have hmd:isR L E s [109,111,100,101]=true:=by rw [P1 h0.tk h0.ok];rfl
  rw [show acc++x :: l=acc++[x]++l by simp];refine x1.ext2 y1 fun f hx hy=>?_;rw [O2,if_pos ⟨h.ok,(U7 (E:=E) h0.tk).2.2⟩,if_neg (by rw [hmd];decide)];dsimp only;rw [hlm,if_pos h.ok,hx];exact hy
theorem rul_at {ds:List D3} {ms:List M3} (hd:ds.length<=128) (hm:ms.length<=16) (hdw:∀ d∈ds,dWf d) (hmw:∀ m∈ms,mWf L E Nm m) (h:L.map st3=(ds.map dT).flatten++(ms.map mT).flatten) :
  ∃ D M s1,A2k L E=(⟨D,M⟩,s1)/\okR s1=true/\D.map st4=(ds.map fun d=>(1+(d.1:Int),d.2.1,d.2.2))/\MsOk Nm ms M:=by
 have h0:At L rd0 ((ds.map dT).flatten++(ms.map mT).flatten):=⟨rfl,by unfold Tk;exact h⟩;obtain ⟨D,s1,x1,x2,x3⟩:=rld_at (E:=E) (ms.map mT).flatten (fun t q e=>by
  cases ms with
  | nil=>cases e
  | cons m ms =>
   have e':mT m++(ms.map mT).flatten=t :: q:=by simpa using e
   unfold mT at e';injection e' with e1 e2
   subst e1;decide) ds [] rd0 (by simpa using hd) hdw h0
 obtain ⟨M,s2,y1,y2,y3⟩:=rlm_at (E:=E) ms [] s1 (by simpa using hm) hmw x2;refine ⟨D,M,s2,(A3t L E).uniq (x1.map2 y1 fun f hx hy=>?_),y2,x3,y3⟩;unfold A2j;rw [hx];dsimp only;rw [List.nil_append,hy];rfl
end
end Go.Pb
namespace Go.Pb
variable [Go.Sym.Tab]
open Go.Sym
def X4 (v:Int):List D3:=[(0,[115,119,48],3),(0,[115,119,49],9),(0,[115,119,50],40),(0,[115,119,51],63),(1,[99,111,105,108,48],0),(1,[99,111,105,108,49],7),(1,[99,111,105,108,50],31),
 (2,[108,97,109,112,48],0),(2,[108,97,109,112,49],9),(2,[108,97,109,112,50],33),(2,[108,97,109,112,51],63),(3,[115,110,100,48],0),(3,[115,110,100,49],5),(4,[115,104,111,119,48],0),(4,[115,104,111,119,49],1),
 (5,[118,48],v),(5,[118,49],1),(5,[118,50],0),(6,[116,109,48],0),(6,[116,109,49],0),(7,[101,118,48],0),(7,[101,118,49],0)]
def A5c:List Int:=[0,5, -7,2147483647]
def V7:List (List UInt8):=[[109,111,100,101,48],[109,111,100,101,49],[109,111,100,101,50]]
def A2l (v:Int):List (Int × List UInt8 × Int):=(X4 v).map fun d=>(1+(d.1:Int),d.2.1,d.2.2)
def NmM (k:Int) (n:List UInt8):Prop:=(k,n)∈((A2l 0).map fun q=>(q.1,q.2.1))++V7.map fun n=>(9,n)
theorem find_st4 (D:List Dc) (n:List UInt8):(D.find? fun d=>d.name == n).map Dc.kind=((D.map st4).find? fun q=>q.2.1 == n).map (·.1):=by
 induction D with
 | nil=>rfl
 | cons d D ih =>
  rw [List.map_cons,List.find?_cons,List.find?_cons];show Option.map Dc.kind (match d.name == n with|true=>some d|false=>D.find? fun d=>d.name == n)=Option.map (·.1) (match d.name == n with|true=>some (st4 d)|false=>(D.map st4).find? fun q=>q.2.1 == n);cases d.name == n
  ·exact ih
  ·rfl
theorem std_mkQs {v:Int} {D:List Dc} {M:List Md} (hD:D.map st4=A2l v) (hM:M.map Md.name=V7):A4v NmM ⟨D,M⟩:=by
 intro k n hn;rw [lok_kind,find_st4,hD];have hM2:M.any (fun m=>m.name == n)=V7.any fun x=>x == n:=by rw [<- hM,List.any_map];rfl
 rw [hM2];unfold NmM at hn;have key:∀ q∈((A2l 0).map fun q=>(q.1,q.2.1))++V7.map (fun n=>((9:Int),n)),((((A2l v).find? fun x=>x.2.1 == q.2).map (·.1)).or (if (V7.any fun x=>x == q.2)=true then some 9 else none)).getD 0=q.1:=by
  intro q hq;simp only [A2l,X4,V7,List.map_cons,List.map_nil,List.cons_append,List.nil_append,List.mem_cons,List.not_mem_nil,or_false] at hq;rcases hq with rfl|rfl|rfl|rfl|rfl|rfl|rfl|rfl|rfl|rfl|rfl|rfl|rfl|rfl|rfl|rfl|rfl|rfl|rfl|rfl|rfl|rfl|rfl|rfl|rfl<;>rfl
 exact key (k,n) hn
theorem hd_mkQs {v:Int} (hv:v∈A5c) {D:List Dc} {M:List Md} (hD:D.map st4=A2l v) (hM:M.map Md.name=V7) (hp:∀ m∈M,m.prio<=99):R2 D/\hdOk D M:=by
 have h1:∀ v∈A5c, ∀ q∈A2l v,(1<=q.1/\q.1<=8)/\¬ q.2.2>A7b q.1:=by decide
 have h2:∀ v∈A5c,((A2l v).map (·.2.1)++V7).Nodup:=by decide
 have hq:∀ d∈D,st4 d∈A2l v:=fun d hd=>by rw [<- hD];exact List.mem_map_of_mem hd
 have hn:D.map Dc.name=(A2l v).map (·.2.1):=by rw [<- hD,List.map_map];rfl
 refine ⟨?_,fun d hd=>(h1 v hv _ (hq d hd)).2,fun m hm h=>by have:=hp m hm;omega,?_⟩
 ·intro d hd;exact (h1 v hv _ (hq d hd)).1
 ·rw [hn,hM];exact h2 v hv
theorem erH_ok {R:Ru}:∀ (l pre:List Hd),((pre++l).map st5).Nodup->(∀ h∈l,(kdH h.trig=0\/(N6 R h.name).1=kdH h.trig)/\erB R h.body=none)->erH R pre l=none
 | [],pre,_,_=>rfl
 | h :: l,pre,hn,hl=>by
  obtain ⟨h1,h2⟩:=hl h List.mem_cons_self;have hn2:((pre++[h]++l).map st5).Nodup:=by simpa using hn
  have ih:=erH_ok l (pre++[h]) hn2 fun x hx=>hl x (List.mem_cons_of_mem _ hx);have hp:(pre.any fun x=>x.trig == h.trig && x.name == h.name)=false:=by
   rw [Bool.eq_false_iff];intro ha;obtain ⟨x,hx,he⟩:=List.any_eq_true.1 ha;simp only [Bool.and_eq_true,beq_iff_eq] at he;rw [List.map_append,List.nodup_append] at hn;refine hn.2.2 (st5 x) (List.mem_map_of_mem hx) (st5 h) (by simp) ?_;unfold st5;rw [he.1,he.2]
  rw [erH,U1 h1,h2,if_neg (by rw [hp];decide),ih];rfl
def HsOk (hs:List H3):Prop:=(hs.map fun h=>(1+(h.1:Int),h.2.1)).Nodup/\∀ h∈hs,kdH (1+(h.1:Int))=0\/NmM (kdH (1+(h.1:Int))) h.2.1
theorem ms_name:∀ {ms:List M3} {M:List Md},MsOk NmM ms M->M.map Md.name=ms.map (·.1)/\M.length=ms.length/\((∀ m∈ms,m.2.1<=99)->∀ x∈M,x.prio<=99)
 | _,_,.nil=>⟨rfl,rfl,fun _ x h=>by cases h⟩
 | m :: ms,x :: l,.cons h t=>by
  obtain ⟨h1,h2,h3⟩:=ms_name t;refine ⟨by rw [List.map_cons,List.map_cons,h1,h.1],by rw [List.length_cons,List.length_cons,h2],fun hp y hy=>?_⟩;rcases List.mem_cons.1 hy with rfl|hy
  ·rw [h.2.1];exact hp m List.mem_cons_self
  ·exact h3 (fun z hz=>hp z (List.mem_cons_of_mem _ hz)) y hy
theorem ms_erM {R:Ru} (hR:A4v NmM R):∀ {ms:List M3} {M:List Md},MsOk NmM ms M->(∀ m∈ms,HsOk m.2.2)->∀ x∈M,erH R [] x.hds=none
 | _,_,.nil,_=>fun x h=>by cases h
 | m :: ms,x :: l,.cons h t,hh=>by
  intro y hy;rcases List.mem_cons.1 hy with rfl|hy
  ·obtain ⟨-, -,h3,h4⟩:=h;obtain ⟨g1,g2⟩:=hh m List.mem_cons_self;refine erH_ok y.hds [] (by rw [List.nil_append,h3];exact g1) fun z hz=>⟨?_,h4 R hR z hz⟩;have hm:st5 z∈m.2.2.map (fun h=>(1+(h.1:Int),h.2.1)):=by rw [<- h3];exact List.mem_map_of_mem hz
   obtain ⟨q,hq,e⟩:=List.mem_map.1 hm;have e1:z.trig=1+(q.1:Int):=(congrArg (·.1) e).symm;have e2:z.name=q.2.1:=(congrArg (·.2) e).symm;rw [e1,e2];exact (g2 q hq).imp id fun h=>hR _ _ h
  ·exact ms_erM hR t (fun z hz=>hh z (List.mem_cons_of_mem _ hz)) y hy
theorem mkDs_wf:∀ v∈A5c, ∀ d∈X4 v,dWf d:=by
 intro v hv d hd;have:∀ v∈A5c, ∀ d∈X4 v,d.1<8/\(d.1<5->0<=d.2.2)/\(6<=d.1->d.2.2=0):=by decide
 exact this v hv d hd
theorem made_ok {s:List UInt8} {v:Int} {ms:List M3} (hv:v∈A5c) (hm:ms.map (·.1)=V7) (hp:∀ m∈ms,m.2.1<=99) (hh:∀ m∈ms,HsOk m.2.2) (hmw:∀ L E, ∀ m∈ms,mWf L E NmM m)
  (h:(D5 s).2.2=0->(D5 s).1.map st3=((X4 v).map dT).flatten++(ms.map mT).flatten) :
  A7p (K5 s).1=none/\((D5 s).2.2=0->(K5 s).2.2=0/\(K5 s).1.decls.map st4=A2l v/\(K5 s).1.modes.map Md.name=V7):=by
 unfold K5;dsimp only;by_cases h0:(D5 s).2.2=0
 ·rw [if_neg (by simpa using h0)];have hl3:ms.length=3:=by have:=congrArg List.length hm;simpa [V7] using this
  obtain ⟨D,M,s1,h1,h2,h3,h4⟩:=rul_at (E:=s.length) (Nm:=NmM) (ds:=X4 v) (ms:=ms) (by show (22:Nat)<=128;decide) (by omega) (mkDs_wf v hv) (fun m hm=>hmw _ _ m hm) (h h0);obtain ⟨g1,g2,g3⟩:=ms_name h4;rw [hm] at g1;have hs:=std_mkQs (v:=v) (D:=D) (M:=M) h3 g1;obtain ⟨k1,k2⟩:=hd_mkQs hv (D:=D) (M:=M) h3 g1 (g3 hp);rw [h1];dsimp only;rw [if_neg (by rw [h2];decide)];refine ⟨?_,fun _=>⟨rfl,h3,g1⟩⟩;show (heaE ⟨D,M⟩).or (erM ⟨D,M⟩ M)=none;rw [(hea_none k1).2 k2,erM_none.2 (ms_erM hs h4 hh)];rfl
 ·rw [if_pos (by simpa using h0)];exact ⟨rfl,fun h=>absurd h h0⟩
end Go.Pb
namespace Go.Pb
variable [Go.Sym.Tab]
open Go.Sym
theorem Pc.up {p:List UInt8} {t:List T3} (h:Pc false p t) (b:Bool):Pc b p t:=fun r tr _ hr=>h r tr (fun e=>by cases e) hr
def dcS:Nat->List UInt8
 | 10=>[49,48]
 | 11=>[49,49]
 | n=>[V9 n]
theorem dc_12 {n:Nat} (h:n<12):N7 (n:Int)=dcS n:=by
 by_cases h10:n<10
 ·rw [A7l (by omega) (by omega)];have e:M9 (n:Int)=n:=by unfold M9;omega
  rw [e];unfold dcS;split<;>first|omega|rfl
 ·have:n=10\/n=11:=by omega
  rw [decI_ge (by omega),A7l (by unfold P9;omega) (by unfold P9;omega)];rcases this with rfl|rfl<;>rfl
def nmB (k:Int) (n:List UInt8):Bool:=(((A2l 0).map fun q=>(q.1,q.2.1))++V7.map fun n=>((9:Int),n)).any fun (q:Int × List UInt8)=>q.1 == k && q.2 == n
theorem nmB_ok {k:Int} {n:List UInt8} (h:nmB k n=true):NmM k n:=by
 obtain ⟨q,h1,h2⟩:=List.any_eq_true.1 h;simp only [Bool.and_eq_true,beq_iff_eq] at h2;unfold NmM;rw [<- h2.1, <- h2.2];exact h1
def A4g (b:Bool) (s:List UInt8) (ts:List T3):Bool:=W7 b 100 s == some ts
theorem A7f {b:Bool} {s:List UInt8} {ts:List T3} (h:A4g b s ts=true):W7 b 100 s=some ts:=by simpa [A4g] using h
theorem A0y {p:List UInt8} {n:Nat} {k:Int} (hn:n<=10) (h:∀ j,j<n->A4g true (p++dcS j) [(1,p++dcS j,0)]=true/\nmB k (p++dcS j)=true) (L:List UInt8) (i:Nat) (hn0:0<n) :
  Pc true (nmK L 0 p n i).1 [(1,(nmK L 0 p n i).1,0)]/\NmM k (nmK L 0 p n i).1:=by
 have e:(nmK L 0 p n i).1=p++dcS (nxK L n i).1:=by
  unfold nmK;dsimp only;rw [if_neg (by rintro ⟨h, -⟩;omega),if_neg (by omega)];have:=J0 L i hn0;rw [dc_12 (by omega)]
 obtain ⟨h1,h2⟩:=h _ (J0 L i hn0);rw [e];exact ⟨Q7 _ _ _ (A7f h1),nmB_ok h2⟩
theorem nm_v (L:List UInt8) (i:Nat):Pc true (nmK L 0 [118] 3 i).1 [(1,(nmK L 0 [118] 3 i).1,0)]/\NmM 6 (nmK L 0 [118] 3 i).1:=A0y (by decide) (by decide) L i (by decide)
theorem nm_tm (L:List UInt8) (i:Nat):Pc true (nmK L 0 [116,109] 2 i).1 [(1,(nmK L 0 [116,109] 2 i).1,0)]/\NmM 7 (nmK L 0 [116,109] 2 i).1:=A0y (by decide) (by decide) L i (by decide)
theorem A6z (L:List UInt8) (i:Nat):Pc true (nmK L 0 [109,111,100,101] 3 i).1 [(1,(nmK L 0 [109,111,100,101] 3 i).1,0)]/\NmM 9 (nmK L 0 [109,111,100,101] 3 i).1:=A0y (by decide) (by decide) L i (by decide)
theorem nm_sw (L:List UInt8) (i:Nat):Pc true (nmK L 0 [115,119] 4 i).1 [(1,(nmK L 0 [115,119] 4 i).1,0)]/\NmM 1 (nmK L 0 [115,119] 4 i).1:=A0y (by decide) (by decide) L i (by decide)
theorem nm_coil (L:List UInt8) (i:Nat):Pc true (nmK L 0 [99,111,105,108] 3 i).1 [(1,(nmK L 0 [99,111,105,108] 3 i).1,0)]/\NmM 2 (nmK L 0 [99,111,105,108] 3 i).1:=A0y (by decide) (by decide) L i (by decide)
theorem nm_lamp (L:List UInt8) (i:Nat):Pc true (nmK L 0 [108,97,109,112] 4 i).1 [(1,(nmK L 0 [108,97,109,112] 4 i).1,0)]/\NmM 3 (nmK L 0 [108,97,109,112] 4 i).1:=A0y (by decide) (by decide) L i (by decide)
theorem nm_ev (L:List UInt8) (i:Nat):Pc true (nmK L 0 [101,118] 2 i).1 [(1,(nmK L 0 [101,118] 2 i).1,0)]/\NmM 8 (nmK L 0 [101,118] 2 i).1:=A0y (by decide) (by decide) L i (by decide)
theorem nm_snd (L:List UInt8) (i:Nat):Pc true (nmK L 0 [115,110,100] 2 i).1 [(1,(nmK L 0 [115,110,100] 2 i).1,0)]/\NmM 4 (nmK L 0 [115,110,100] 2 i).1:=A0y (by decide) (by decide) L i (by decide)
theorem nm_show (L:List UInt8) (i:Nat):Pc true (nmK L 0 [115,104,111,119] 2 i).1 [(1,(nmK L 0 [115,104,111,119] 2 i).1,0)]/\NmM 5 (nmK L 0 [115,104,111,119] 2 i).1:=A0y (by decide) (by decide) L i (by decide)
def XT (m:Int) (ty:Bool) (d c:Nat) (s:List UInt8):Prop:=∃ ts m' d' c',m<=m'/\d'<=d/\c'<=c/\GX NmM m' ty d' c' ts/\Pc true s ts/\∃ x q,s=x :: q/\x.toNat≠61
theorem XT.mono {m m2:Int} {ty:Bool} {d d2 c c2:Nat} {s:List UInt8} (h:XT m ty d c s) (hm:m2<=m) (hd:d<=d2) (hc:c<=c2):XT m2 ty d2 c2 s:=by
 obtain ⟨ts,m',d',c',h1,h2,h3,h4,h5,h6⟩:=h;exact ⟨ts,m',d',c',by omega,by omega,by omega,h4,h5,h6⟩
theorem XT.six {ty:Bool} {d c:Nat} {s:List UInt8} (h:XT 6 ty d c s):∃ ts d' c',d'<=d/\c'<=c/\GX NmM 6 ty d' c' ts/\Pc true s ts/\∃ x q,s=x :: q/\x.toNat≠61:=by
 obtain ⟨ts,m',d',c',h1,h2,h3,h4,h5,h6⟩:=h;obtain ⟨-,h7, -, -⟩:=gx_all (L:=[]) (E:=0) h4;obtain rfl:m'=6:=by omega
 exact ⟨ts,d',c',h2,h3,h4,h5,h6⟩
theorem A6m {w n:List UInt8} {k:Nat} {nk:Int} {ty:Bool} (hk:(k,ty,nk)∈[(4,false,(1:Int)),(5,false,9),(6,true,7)]) (hw:W7 false 100 w=some [(2,D6.getD k [],0)]) (hh:∃ x q,w=x :: q/\x.toNat≠61)
  (hn:Pc true n [(1,n,0)]/\NmM nk n):XT 6 ty 0 1 (w++n):=by
 obtain ⟨x,q,rfl,hx⟩:=hh;exact ⟨_,6,0,1,by omega,by omega,by omega,.word1 hk hn.2,(Q7 _ _ _ hw).pre hn.1,x,_,rfl,hx⟩
theorem A6n {w:List UInt8} {k:Nat} {ty:Bool} (hk:(k,ty)∈[(0,false),(1,false),(2,true),(3,true)]) (hw:W7 true 100 w=some [(2,D6.getD k [],0)]) (hh:∃ x q,w=x :: q/\x.toNat≠61):XT 6 ty 0 1 w :=
 ⟨_,6,0,1,by omega,by omega,by omega,.word0 hk,Q7 _ _ _ hw,hh⟩
theorem bl0_xt (L:List UInt8) (i:Nat):XT 6 false 0 1 (bl0 L 0 i).1:=by
 unfold bl0;dsimp only;split
 ·try dsimp only
  exact A6n (k:=0) (by decide) (by decide) ⟨_,_,rfl,by decide⟩
 ·split
  ·try dsimp only
   exact A6n (k:=1) (by decide) (by decide) ⟨_,_,rfl,by decide⟩
  ·split
   ·try dsimp only
    exact A6m (k:=5) (nk:=9) (by decide) (by decide) ⟨_,_,rfl,by decide⟩ (A6z L _)
   ·try dsimp only
    exact A6m (k:=4) (nk:=1) (by decide) (by decide) ⟨_,_,rfl,by decide⟩ (nm_sw L _)
theorem A3h {w:List UInt8} {v:Int} (hw:W7 true 100 w=some [(3,[],v)]) (hh:∃ x q,w=x :: q/\x.toNat≠61):XT 6 true 0 1 w :=
 ⟨_,6,0,1,by omega,by omega,by omega,.num,Q7 _ _ _ hw,hh⟩
theorem in1_xt (L:List UInt8) (i:Nat):XT 6 true 0 1 (in1 L 0 i).1:=by
 unfold in1;dsimp only;split
 ·obtain ⟨h1,h2⟩:=nm_v L (nxK L 7 i).2;refine ⟨_,6,0,1,by omega,by omega,by omega,.var h2,h1,?_⟩;unfold nmK;dsimp only;rw [if_neg (by rintro ⟨h, -⟩;omega)];exact ⟨_,_,rfl,by decide⟩
 ·split
  ·try dsimp only
   exact A6n (k:=2) (by decide) (by decide) ⟨_,_,rfl,by decide⟩
  ·split
   ·try dsimp only
    exact A6n (k:=3) (by decide) (by decide) ⟨_,_,rfl,by decide⟩
   ·split
    ·try dsimp only
     exact A6m (k:=6) (nk:=7) (by decide) (by decide) ⟨_,_,rfl,by decide⟩ (nm_tm L _)
    ·split
     ·have hlt:=J0 L (n:=4) (nxK L 7 i).2 (by decide);generalize (nxK L 4 (nxK L 7 i).2).1=j at hlt;have:j=0\/j=1\/j=2\/j=3:=by omega
      rcases this with rfl|rfl|rfl|rfl
      ·try dsimp only
       exact A3h (v:=2147483647) (by decide) ⟨_,_,rfl,by decide⟩
      ·try dsimp only
       exact A3h (v:=1000000) (by decide) ⟨_,_,rfl,by decide⟩
      ·try dsimp only
       exact A3h (v:=65536) (by decide) ⟨_,_,rfl,by decide⟩
      ·try dsimp only
       exact A3h (v:=100000) (by decide) ⟨_,_,rfl,by decide⟩
     ·have hlt:=J0 L (n:=12) (nxK L 7 i).2 (by decide);generalize (nxK L 12 (nxK L 7 i).2).1=j at hlt;rw [dc_12 hlt];have h1:∀ j,j<12->A4g true (dcS j) [(3,[],(j:Int))]=true/\(match dcS j with | []=>false|x :: _=>decide (x.toNat≠61))=true:=by decide
      obtain ⟨a,c⟩:=h1 j hlt;refine A3h (A7f a) ?_;cases hd:dcS j with
      | nil=>rw [hd] at c;cases c
      | cons x q=>rw [hd] at c;exact ⟨x,q,rfl,by simpa using c⟩
theorem wlK0 (L:List UInt8) (f g:Nat->Mk) (i:Nat):wlK L 0 f g i=g i:=by
 unfold wlK;dsimp only;rw [if_neg (by rintro ⟨h, -⟩;omega),if_neg (by omega)]
theorem in0_xt (L:List UInt8) (i:Nat):XT 6 true 0 1 (in0 L 0 i).1:=by unfold in0;rw [wlK0];exact in1_xt L i
theorem pc_par {a:List UInt8} {ts:List T3} (h:Pc true a ts):Pc false ([40]++a++[41]) ((5,[40],0) :: (ts++[(5,[41],0)])):=by
 have h1:Pc false [40] [(5,[40],0)]:=A0i (by decide) (by decide) (by decide);have h2:Pc false [41] [(5,[41],0)]:=A0i (by decide) (by decide) (by decide);have:=h1.pre (h.lit (c:=41) (q:=[]) h2 (by decide));simpa using this
theorem xt_bin {k:Nat} {ta ty:Bool} {d c:Nat} {a b o:List UInt8} (hk:k<13) (hta:ta=decide (k<11)) (hty:ty=decide (k<5)) (ha:XT (E4 (12+(k:Int))+1) ta d c a) (hb:XT (E4 (12+(k:Int))+1) ta d c b)
  (ho:W7 false 100 (32 :: o)=some [(5,C2.getD k [],0)]):XT (E4 (12+(k:Int))) ty d (2 * c) (a++(32 :: o)++b):=by
 obtain ⟨ts,m1,d1,c1,h1,h2,h3,h4,h5,x,q,rfl,hx⟩:=ha;obtain ⟨ts2,m2,d2,c2,g1,g2,g3,g4,g5, -⟩:=hb;refine ⟨_,_,_,_,Int.le_refl _,?_,?_,.bin hk hta hty (by omega) (by omega) h4 g4,?_,x,_,rfl,hx⟩
 ·omega
 ·omega
 ·have:=(h5.lit (Q7 _ _ _ ho) (by decide)).pre g5;simpa using this
theorem xt_par {m:Int} {ty:Bool} {d c:Nat} {a:List UInt8} (h:XT m ty d c a):XT 6 ty (d+1) c ([40]++a++[41]):=by
 obtain ⟨ts,m1,d1,c1,h1,h2,h3,h4,h5, -⟩:=h;exact ⟨_,6,d1+1,c1,by omega,by omega,by omega,.par h4,(pc_par h5).up true,40,_,rfl,by decide⟩
theorem ik_all (L:List UInt8):∀ d,(∀ i,XT 6 true (d+1) (2 ^ d) (inK L 0 d i).1)/\(∀ i,XT 3 false (d+1) (2 ^ d) (blK L 0 d i).1)
 | 0=>⟨fun i=>by rw [inK];exact (in0_xt L i).mono (by omega) (by omega) (by omega),fun i=>by rw [blK];exact (bl0_xt L i).mono (by omega) (by omega) (by omega)⟩
 | d+1=>by
  obtain ⟨h1,h2⟩:=ik_all L d;have hp:1<=2 ^ d:=Nat.one_le_two_pow;have hp2:2 ^ (d+1)=2 * 2 ^ d:=by rw [Nat.pow_succ,Nat.mul_comm]
  refine ⟨fun i=>?_,fun i=>?_⟩
  ·rw [inK,wlK0];dsimp only;split
   ·exact (in0_xt L _).mono (by omega) (by omega) (by omega)
   ·split
    ·obtain ⟨ts,d',c',g1,g2,g3,g4, -⟩:=(in0_xt L (nxK L 5 i).2).six;refine ⟨_,6,d'+1,c',by omega,by omega,by omega,.neg g3,?_,45,_,rfl,by decide⟩;have h3:Pc false [45] [(5,[45],0)]:=A0i (by decide) (by decide) (by decide);exact h3.pre g4
    ·have ha:=h1 (nxK L 5 i).2;have hb:=h1 (inK L 0 d (nxK L 5 i).2).2;have hlt:=J0 L (n:=5) (inK L 0 d (inK L 0 d (nxK L 5 i).2).2).2 (by decide);generalize (nxK L 5 (inK L 0 d (inK L 0 d (nxK L 5 i).2).2).2).1=o at hlt;have key:∀ k:Nat, ∀ op:List UInt8,k<5->W7 false 100 (32 :: (op++[32]))=some [(5,C2.getD k [],0)]->XT 6 true (d+1+1) (2 ^ (d+1)) (((((([40]++(inK L 0 d (nxK L 5 i).2).1)++[32])++op)++[32])++(inK L 0 d (inK L 0 d (nxK L 5 i).2).2).1)++[41]):=by
      intro k op hk ho;have hl:=op_lev (k:=k) (by omega);have:=xt_par (xt_bin (k:=k) (ta:=true) (ty:=true) (by omega) (by simp;omega) (by simp;omega) (ha.mono (by omega) (Nat.le_refl _) (Nat.le_refl _)) (hb.mono (by omega) (Nat.le_refl _) (Nat.le_refl _)) ho);rw [hp2];simpa using this
     have:o=0\/o=1\/o=2\/o=3\/o=4:=by omega
     rcases this with rfl|rfl|rfl|rfl|rfl
     ·exact key 3 [43] (by decide) (by decide)
     ·exact key 4 [45] (by decide) (by decide)
     ·exact key 0 [42] (by decide) (by decide)
     ·exact key 1 [47] (by decide) (by decide)
     ·exact key 2 [37] (by decide) (by decide)
  ·rw [blK];dsimp only;have key:∀ (k:Nat) (a b o:List UInt8),(k=11\/k=12)->XT 3 false (d+1) (2 ^ d) a->XT 3 false (d+1) (2 ^ d) b->W7 false 100 (32 :: o)=some [(5,C2.getD k [],0)]->XT 3 false (d+1+1) (2 ^ (d+1)) (((([40]++a)++(32 :: o))++b)++[41]):=by
    intro k a b o hk ha hb ho;have hl:E4 (12+(k:Int))<=2:=by rcases hk with rfl|rfl<;>decide
    have:=xt_par (xt_bin (k:=k) (ta:=false) (ty:=false) (by omega) (by rcases hk with rfl|rfl<;>rfl) (by rcases hk with rfl|rfl<;>rfl) (ha.mono (by omega) (Nat.le_refl _) (Nat.le_refl _)) (hb.mono (by omega) (Nat.le_refl _) (Nat.le_refl _)) ho);rw [hp2];refine XT.mono ?_ (show (3:Int)<=6 by omega) (Nat.le_refl _) (Nat.le_refl _);simpa using this
   split
   ·obtain ⟨ts,d',c',g1,g2,g3,g4,x,q,e,hx⟩:=(bl0_xt L (nxK L 6 i).2).six;refine ⟨_,6,d'+1,c',by omega,by omega,by omega,.not g3,?_,33,_,rfl,by decide⟩;rw [e] at g4 ⊢;exact pc_not g4 hx
   ·split
    ·exact key 11 _ _ _ (.inl rfl) (h2 _) (h2 _) (by decide)
    ·split
     ·exact key 12 _ _ _ (.inr rfl) (h2 _) (h2 _) (by decide)
     ·have ha:=h1 (nxK L 6 i).2;have hlt:=J0 L (n:=6) (inK L 0 d (nxK L 6 i).2).2 (by decide);have hb:=h1 (nxK L 6 (inK L 0 d (nxK L 6 i).2).2).2;generalize (nxK L 6 (inK L 0 d (nxK L 6 i).2).2).2=j at hb ⊢;generalize (nxK L 6 (inK L 0 d (nxK L 6 i).2).2).1=o at hlt ⊢;have kc:∀ k:Nat, ∀ op:List UInt8,5<=k->k<11->E4 (12+(k:Int))=3->W7 false 100 (32 :: (op++[32]))=some [(5,C2.getD k [],0)]->XT 3 false (d+1+1) (2 ^ (d+1)) (((((inK L 0 d (nxK L 6 i).2).1++[32])++op)++[32])++(inK L 0 d j).1):=by
       intro k op hk hk2 hl ho;have:=xt_bin (k:=k) (ta:=true) (ty:=false) (by omega) (by simp;omega) (by simp;omega) (ha.mono (by omega) (Nat.le_refl _) (Nat.le_refl _)) (hb.mono (by omega) (Nat.le_refl _) (Nat.le_refl _)) ho;rw [hl] at this;rw [hp2];refine XT.mono ?_ (Int.le_refl 3) (show d+1<=d+1+1 by omega) (Nat.le_refl _);simpa using this
      have:o=0\/o=1\/o=2\/o=3\/o=4\/o=5:=by omega
      rcases this with rfl|rfl|rfl|rfl|rfl|rfl
      ·exact kc 5 [60] (by decide) (by decide) (by decide) (by decide)
      ·exact kc 6 [60,61] (by decide) (by decide) (by decide) (by decide)
      ·exact kc 7 [62] (by decide) (by decide) (by decide) (by decide)
      ·exact kc 8 [62,61] (by decide) (by decide) (by decide) (by decide)
      ·exact kc 9 [61,61] (by decide) (by decide) (by decide) (by decide)
      ·exact kc 10 [33,61] (by decide) (by decide) (by decide) (by decide)
theorem XT.sx {m:Int} {ty:Bool} {d c:Nat} {s:List UInt8} (h:XT m ty d c s) (hd:d<=16) (hc:c<=32):∃ ts,SX NmM ty ts/\Pc true s ts:=by
 obtain ⟨ts,m1,d1,c1,h1,h2,h3,h4,h5, -⟩:=h;exact ⟨ts,⟨m1,d1,c1,by omega,by omega,h4⟩,h5⟩
end Go.Pb
namespace Go.Proofs.YtnmkkggfgdfmeaaGreatDoor
open Go.Eng (IC IOper DReg IFn A3)
open Go.Sym Go.Pb
theorem F6 {b:Bool} {w:List UInt8} {ts:List T3} (h:A4g b w ts=true):Pc b w ts:=Q7 _ _ _ (A7f h)
theorem S3 {b:Bool} {c:UInt8} {p:List UInt8} {t:List T3} (hc:T6 c=true) (h:Pc b p t):Pc b (c :: p) t:=fun r tr hb hr=>Lk_sep hc (h r tr hb hr)
theorem A5a:Pc false [59] [(5,[59],0)]:=A0i (by decide) (by decide) (by decide)
theorem pc123:Pc false [123] [(5,[123],0)]:=A0i (by decide) (by decide) (by decide)
theorem pc125:Pc false [125] [(5,[125],0)]:=A0i (by decide) (by decide) (by decide)
theorem X6 {L:List UInt8} {d:Nat} {s:List UInt8} (hd:d<=3) (h:InS L 0 d s):∃ ts,SX NmM true ts/\Pc true s ts:=by
 obtain ⟨i, -,rfl⟩:=h;have hp:∀ d,d<=3->2 ^ d<=32:=by decide
 exact ((ik_all L d).1 i).sx (by omega) (hp d hd)
theorem A7q {L:List UInt8} {d:Nat} {s:List UInt8} (hd:d<=3) (h:BlS L 0 d s):∃ ts,SX NmM false ts/\Pc true s ts:=by
 obtain ⟨i, -,rfl⟩:=h;have hp:∀ d,d<=3->2 ^ d<=32:=by decide
 exact ((ik_all L d).2 i).sx (by omega) (hp d hd)
theorem stg_gs {L:List UInt8} {K:List UInt8->Prop} {B:List T3->Prop} (hK:∀ x,K x->∃ ts,B ts/\Pc false x ts) {s:List UInt8} (h:StG L 0 K s):∃ ts,GS NmM B ts/\Pc false s ts:=by
 cases h with
 | @ifA b x hb hx =>
  obtain ⟨tb,b1,b2⟩:=A7q (by decide) hb;obtain ⟨tx,x1,x2⟩:=hK x hx;have l1:Pc false [105,102,32] [wdT 0]:=F6 (by decide);have:=l1.pre (b2.lit (c:=32) (q:=x) (S3 (by decide) x2) (by decide));exact ⟨_,.ifs b1 x1,by simpa using this⟩
 | @ifB b x y hb hx hy =>
  obtain ⟨tb,b1,b2⟩:=A7q (by decide) hb;obtain ⟨tx,x1,x2⟩:=hK x hx;obtain ⟨ty,y1,y2⟩:=hK y hy;have l1:Pc false [105,102,32] [wdT 0]:=F6 (by decide);have l2:Pc false [32,101,108,115,101,32] [(2,[101,108,115,101],0)]:=F6 (by decide);have:=l1.pre (b2.lit (c:=32) (S3 (by decide) (x2.pre (l2.pre y2))) (by decide));exact ⟨_,.ife b1 x1 y1,by simpa using this⟩
 | @ifC b x c y hb hx hc hy =>
  obtain ⟨tb,b1,b2⟩:=A7q (by decide) hb;obtain ⟨tx,x1,x2⟩:=hK x hx;obtain ⟨tc,c1,c2⟩:=A7q (by decide) hc;obtain ⟨ty,y1,y2⟩:=hK y hy;have l1:Pc false [105,102,32] [wdT 0]:=F6 (by decide);have l2:Pc false [32,101,108,115,101,32,105,102,32] [(2,[101,108,115,101],0),wdT 0]:=F6 (by decide);have:=l1.pre (b2.lit (c:=32) (S3 (by decide) (x2.pre (l2.pre (c2.lit (c:=32) (q:=y) (S3 (by decide) y2) (by decide))))) (by decide));exact ⟨_,.ifi b1 x1 c1 y1,by simpa using this⟩
 | @rep e x he hx =>
  obtain ⟨te,e1,e2⟩:=X6 (by decide) he;obtain ⟨tx,x1,x2⟩:=hK x hx;have l1:Pc false [114,101,112,101,97,116,32] [wdT 1]:=F6 (by decide);have:=l1.pre (e2.lit (c:=32) (q:=x) (S3 (by decide) x2) (by decide));exact ⟨_,.rep e1 x1,by simpa using this⟩
 | @sco e he =>
  obtain ⟨te,e1,e2⟩:=X6 (by decide) he;have l1:Pc false [115,99,111,114,101,32] [wdT 2]:=F6 (by decide);have:=l1.pre (e2.lit (q:=[]) A5a (by decide));exact ⟨_,.score e1,by simpa using this⟩
 | @fir k n hk hn =>
  obtain ⟨i, -,rfl⟩:=hn;obtain ⟨n1,n2⟩:=nm_coil L i;have hl:∀ k,k<3->A4g false (firL.getD k []) [wdT (3+k)]=true/\(3+k,(2:Int))∈A5t:=by decide
  obtain ⟨h1,h2⟩:=hl k hk;have:=(F6 h1).pre (n1.lit (q:=[]) A5a (by decide));exact ⟨_,.name h2 n2,by simpa using this⟩
 | @lig n e hn he =>
  obtain ⟨i, -,rfl⟩:=hn;obtain ⟨n1,n2⟩:=nm_lamp L i;obtain ⟨te,e1,e2⟩:=X6 (by decide) he;have l1:Pc false [108,105,103,104,116,32] [wdT 6]:=F6 (by decide);have:=l1.pre (n1.lit (c:=32) (S3 (by decide) (e2.lit (q:=[]) A5a (by decide))) (by decide));exact ⟨_,.arg (j:=6) (k:=3) (by decide) n2 e1,by simpa using this⟩
 | @bli n e f hn he hf =>
  obtain ⟨i, -,rfl⟩:=hn;obtain ⟨n1,n2⟩:=nm_lamp L i;obtain ⟨te,e1,e2⟩:=X6 (by decide) he;obtain ⟨tf,f1,f2⟩:=X6 (by decide) hf;have l1:Pc false [98,108,105,110,107,32] [wdT 7]:=F6 (by decide);have l2:Pc false [44,32] [(5,[44],0)]:=F6 (by decide);have:=l1.pre (n1.lit (c:=32) (S3 (by decide) (e2.lit (c:=44) (q:=32 :: (f++[59])) (l2.pre (f2.lit (q:=[]) A5a (by decide))) (by decide))) (by decide));exact ⟨_,.blink n2 e1 f1,by simpa using this⟩
 | @sta n e hn he =>
  obtain ⟨i, -,rfl⟩:=hn;obtain ⟨n1,n2⟩:=nm_tm L i;obtain ⟨te,e1,e2⟩:=X6 (by decide) he;have l1:Pc false [115,116,97,114,116,32] [wdT 8]:=F6 (by decide);have:=l1.pre (n1.lit (c:=32) (S3 (by decide) (e2.lit (q:=[]) A5a (by decide))) (by decide));exact ⟨_,.arg (j:=8) (k:=7) (by decide) n2 e1,by simpa using this⟩
 | @one q n hq hn =>
  obtain ⟨i, -,rfl⟩:=hn;have key:∀ (j:Nat) (k:Int),A4g false q.1 [wdT j]=true->(j,k)∈A5t->(Pc true (nmK L 0 q.2.1 q.2.2 i).1 [(1,(nmK L 0 q.2.1 q.2.2 i).1,0)]/\NmM k (nmK L 0 q.2.1 q.2.2 i).1)->∃ ts,GS NmM B ts/\Pc false ((q.1++(nmK L 0 q.2.1 q.2.2 i).1)++[59]) ts:=by
   rintro j k h1 h2 ⟨n1,n2⟩;have:=(F6 h1).pre (n1.lit (q:=[]) A5a (by decide));exact ⟨_,.name h2 n2,by simpa using this⟩
  simp only [oneL,List.mem_cons,List.not_mem_nil,or_false] at hq;rcases hq with rfl|rfl|rfl|rfl|rfl
  ·exact key 9 7 (by decide) (by decide) (nm_tm L i)
  ·exact key 10 9 (by decide) (by decide) (A6z L i)
  ·exact key 11 9 (by decide) (by decide) (A6z L i)
  ·exact key 12 8 (by decide) (by decide) (nm_ev L i)
  ·exact key 13 4 (by decide) (by decide) (nm_snd L i)
 | @run k n hk hn =>
  obtain ⟨i, -,rfl⟩:=hn;obtain ⟨n1,n2⟩:=nm_show L i;have hl:∀ k,k<2->A4g false (runL.getD k []) [wdT (14+k)]=true/\(14+k,(5:Int))∈A5t:=by decide
  obtain ⟨h1,h2⟩:=hl k hk;have:=(F6 h1).pre (n1.lit (q:=[]) A5a (by decide));exact ⟨_,.name h2 n2,by simpa using this⟩
 | @txt k e hk he =>
  obtain ⟨te,e1,e2⟩:=X6 (by decide) he;have hl:∀ k,k<4->A4g false (([116,101,120,116,32,34]++txtL.getD k [])++[34,44,32]) [wdT 16,(4,([[103,111],[106,97,99,107,112,111,116],[97,34,98],[]]:List (List UInt8)).getD k [],0),sgT [44]]=true:=by decide
  have:=(F6 (hl k hk)).pre (e2.lit (q:=[]) A5a (by decide));exact ⟨_,.text e1,by simpa using this⟩
 | con=>exact ⟨_,.consume,Pc.lit (p:=[99,111,110,115,117,109,101]) (q:=[]) (t:=[wdT 17]) (F6 (b:=true) (by decide)) A5a (by decide)⟩
 | @asg n e hn he =>
  obtain ⟨i, -,rfl⟩:=hn;obtain ⟨n1,n2⟩:=nm_v L i;obtain ⟨te,e1,e2⟩:=X6 (by decide) he;have l1:Pc false [32,61,32] [sgT [61]]:=F6 (by decide);have:=n1.lit (c:=32) (q:=61 :: 32 :: (e++[59])) (l1.pre (e2.lit (q:=[]) A5a (by decide))) (by decide);exact ⟨_,.set n2 e1,by simpa using this⟩
theorem foldB_pc {P:List UInt8->Prop} {G:List T3->Prop} (hP:∀ x,P x->∃ ts,G ts/\Pc false x ts):∀ (ss:List (List UInt8)) (acc:List UInt8) (ta:List T3),(∀ x∈ss,P x)->Pc false acc ta ->
  ∃ ls:List (List T3),ls.length=ss.length/\(∀ x∈ls,G x)/\Pc false (ss.foldl (fun a x=>(a++[32])++x) acc) (ta++ls.flatten)
 | [],acc,ta,_,h=>⟨[],rfl,(fun x hx=>by cases hx),by simpa using h⟩
 | x :: ss,acc,ta,hx,h=>by
  obtain ⟨ts,x1,x2⟩:=hP x (hx x List.mem_cons_self);have h2:Pc false ((acc++[32])++x) (ta++ts):=by
   have:=h.pre (S3 (c:=32) (by decide) x2);simpa using this
  obtain ⟨ls,l1,l2,l3⟩:=foldB_pc hP ss _ _ (fun y hy=>hx y (List.mem_cons_of_mem _ hy)) h2;refine ⟨ts :: ls,by simp [l1],fun y hy=>?_,?_⟩
  ·rcases List.mem_cons.1 hy with rfl|hy
   ·exact x1
   ·exact l2 y hy
  ·rw [List.foldl_cons,List.flatten_cons, <- List.append_assoc];exact l3
theorem bk_pc {P:List UInt8->Prop} {G:List T3->Prop} (hP:∀ x,P x->∃ ts,G ts/\Pc false x ts) {x:List UInt8} (h:BkG P x):∃ ts,GB G ts/\Pc false x ts:=by
 obtain ⟨ss,h1,h2,rfl⟩:=h;obtain ⟨ls,l1,l2,l3⟩:=foldB_pc hP ss [123] [sgT [123]] h2 pc123;have l4:Pc false [32,125] [sgT [125]]:=S3 (by decide) pc125;have:=Pc.pre (p:=A0c ss) l3 l4;exact ⟨_,⟨ls,by omega,l2,rfl⟩,by simpa using this⟩
theorem std_pc {L:List UInt8}:∀ (d:Nat) (x:List UInt8),StD L 0 d x->∃ ts,GSd NmM d ts/\Pc false x ts
 | 0,x,h=>stg_gs (K:=fun _=>False) (B:=fun _=>False) (fun _ h=>h.elim) h
 | d+1,x,h=>stg_gs (K:=BkG (StD L 0 d)) (B:=GB (GSd NmM d)) (fun y hy=>bk_pc (std_pc d) hy) h
def trI:List (Nat × List UInt8):=[(0,[]),(1,[]),(2,[115,119,48]),(3,[115,119,48]),(2,[115,119,49]),(2,[115,119,50]),(4,[116,109,48]),(4,[116,109,49]),(5,[101,118,48]),(5,[101,118,49]),(3,[115,119,51])]
theorem hd_pc {L:List UInt8} {k:Nat} {x:List UInt8} (h:HdG L 0 k x):∃ b,(GB (GSd NmM 2) b)/\Pc false x (hT ((trI.getD (k % 11) (0,[])).1,(trI.getD (k % 11) (0,[])).2,b)):=by
 cases h with
 | wild h=>omega
 | @std y hy =>
  obtain ⟨b,b1,b2⟩:=bk_pc (std_pc 2) hy;have hl:∀ j,j<11->A4g false (([111,110,32]++trgL.getD j [])++[32]) (hT ((trI.getD j (0,[])).1,(trI.getD j (0,[])).2,[]))=true:=by decide
  have:=(F6 (hl (k % 11) (Nat.mod_lt _ (by decide)))).pre b2;refine ⟨b,b1,?_⟩;simpa [hT] using this
theorem foldH_pc {L:List UInt8}:∀ (hs:List (List UInt8)) (k:Nat) (acc:List UInt8) (ta:List T3),(∀ j x,hs[j]? = some x->HdG L 0 (k+j) x)->Pc false acc ta ->
  ∃ bs:List (List T3),bs.length=hs.length/\(∀ b∈bs,GB (GSd NmM 2) b)/\Pc false (R9 acc hs) (ta++((bs.zipIdx.map fun q=>hT ((trI.getD ((k+q.2) % 11) (0,[])).1,(trI.getD ((k+q.2) % 11) (0,[])).2,q.1))).flatten)
 | [],k,acc,ta,_,h=>⟨[],rfl,(fun x hx=>by cases hx),by simpa [R9] using h⟩
 | x :: hs,k,acc,ta,hx,h=>by
  obtain ⟨b,x1,x2⟩:=hd_pc (hx 0 x rfl);have l4:Pc false [10] []:=F6 (by decide);have h2:=(h.pre x2).pre l4;obtain ⟨bs,l1,l2,l3⟩:=foldH_pc hs (k+1) _ _ (fun j y hy=>by have:=hx (j+1) y hy;rw [show k+1+j=k+(j+1) by omega];exact this) h2;refine ⟨b :: bs,by simp [l1],fun y hy=>?_,?_⟩
  ·rcases List.mem_cons.1 hy with rfl|hy
   ·exact x1
   ·exact l2 y hy
  ·have e:(b :: bs).zipIdx=(b,0) :: bs.zipIdx.map (fun q=>(q.1,q.2+1)):=by
    rw [List.zipIdx_cons,List.zipIdx_succ]
   rw [e,List.map_cons,List.flatten_cons,List.map_map];show Pc false (R9 ((acc++x)++[10]) hs) _;have e2:(bs.zipIdx.map ((fun q:List T3 × Nat=>hT ((trI.getD ((k+q.2) % 11) (0,[])).1,(trI.getD ((k+q.2) % 11) (0,[])).2,q.1))∘fun q=>(q.1,q.2+1)))=bs.zipIdx.map fun q=>hT ((trI.getD ((k+1+q.2) % 11) (0,[])).1,(trI.getD ((k+1+q.2) % 11) (0,[])).2,q.1):=by
    apply List.map_congr_left;intro q _;show hT ((trI.getD ((k+(q.2+1)) % 11) (0,[])).1,_,q.1)=_;rw [show k+(q.2+1)=k+1+q.2 by omega]
   rw [e2];simpa using l3
theorem hs_ok (k:Nat) (hk:k<11) (bs:List (List T3)) (hb:bs.length<=4):HsOk (bs.zipIdx.map fun q=>((trI.getD ((k+q.2) % 11) (0,[])).1,(trI.getD ((k+q.2) % 11) (0,[])).2,q.1)):=by
 constructor
 ·rw [List.map_map];have e:(bs.zipIdx.map ((fun h:H3=>(1+(h.1:Int),h.2.1))∘fun q=>((trI.getD ((k+q.2) % 11) (0,[])).1,(trI.getD ((k+q.2) % 11) (0,[])).2,q.1)))=(bs.zipIdx.map Prod.snd).map fun j=>(1+((trI.getD ((k+j) % 11) (0,[])).1:Int),(trI.getD ((k+j) % 11) (0,[])).2):=by
   rw [List.map_map];rfl
  rw [e,List.zipIdx_map_snd];have:∀ k,k<11->∀ n,n<5->((List.range' 0 n).map fun j=>(1+((trI.getD ((k+j) % 11) (0,[])).1:Int),(trI.getD ((k+j) % 11) (0,[])).2)).Nodup:=by decide +kernel
  exact this k hk _ (by omega)
 ·intro h hh;obtain ⟨q, -,rfl⟩:=List.mem_map.1 hh;have:∀ j,j<11->kdH (1+((trI.getD j (0,[])).1:Int))=0\/nmB (kdH (1+((trI.getD j (0,[])).1:Int))) (trI.getD j (0,[])).2=true:=by decide
  exact (this ((k+q.2) % 11) (Nat.mod_lt _ (by decide))).imp id nmB_ok
theorem ru_pc {L:List UInt8} {i:Nat} {s:List UInt8} (h:RuP L 0 i s):i<=3->∃ v,v∈A5c/\∃ ms:List M3,ms.map (·.1)=V7.take i/\(∀ m∈ms,m.2.1<=99)/\(∀ m∈ms,HsOk m.2.2)/\(∀ L' E, ∀ m∈ms,mWf L' E NmM m) /\
  Pc false s (((X4 v).map dT).flatten++(ms.map mT).flatten):=by
 induction h with
 | @head k hk =>
  intro _;have hl:∀ k,k<4->k=2\/((W7 false 2000 (((ruA++ruB)++v0L.getD k [])++ruC) == some (((X4 (A5c.getD k 0)).map dT).flatten))=true/\A5c.getD k 0∈A5c):=by decide +kernel
  rcases hl k hk with rfl|⟨h1,h2⟩
  ·refine ⟨-7,by decide,[],rfl,(fun m hm=>by cases hm),(fun m hm=>by cases hm),(fun _ _ m hm=>by cases hm),?_⟩;have e1:(W7 false 2000 (ruA++ruB) == some ((((X4 (-7)).map dT).flatten).take 62))=true:=by decide +kernel
   have e2:(W7 false 2000 ([55]++ruC) == some ((((X4 (-7)).map dT).flatten).drop 63))=true:=by decide +kernel
   have e3:((((X4 (-7)).map dT).flatten).take 62++((5,[45],0) :: (((X4 (-7)).map dT).flatten).drop 63) == ((X4 (-7)).map dT).flatten)=true:=by decide +kernel
   have h45:Pc false [45] [(5,[45],0)]:=A0i (by decide) (by decide) (by decide);have:=(Q7 _ _ _ (eq_of_beq e1)).pre (h45.pre (Q7 _ _ _ (eq_of_beq e2)));have e4:=eq_of_beq e3;have e5:((ruA++ruB)++v0L.getD 2 [])++ruC=(ruA++ruB)++([45]++([55]++ruC)):=by
    rw [show v0L.getD 2 []=[45]++[55] from rfl];simp only [List.append_assoc]
   rw [e5];have e6:(((X4 (-7)).map dT).flatten).take 62++([(5,[45],0)]++(((X4 (-7)).map dT).flatten).drop 63)=((X4 (-7)).map dT).flatten:=e4;rw [e6] at this;simpa using this
  refine ⟨_,h2,[],rfl,(fun m hm=>by cases hm),(fun m hm=>by cases hm),(fun _ _ m hm=>by cases hm),?_⟩;have:=Q7 _ _ _ (eq_of_beq h1);simpa using this
 | @mode i p k s hs hr hp hk hl hh ih =>
  intro hi;obtain ⟨v,hv,ms,m1,m2,m3,m4,m5⟩:=ih (by omega);have hl1:∀ i,i<3->∀ p,p<4->A4g false ((((([109,111,100,101,32,109,111,100,101])++dcS i)++[32])++dcS p)++[32]) [(2,[109,111,100,101],0),(1,V7.getD i [],0),(3,[],(p:Int))]=true:=by decide +kernel
  have h1:=F6 (hl1 i (by omega) p hp);have hmd:Pc false (A7c s i p) ((((X4 v).map dT).flatten++(ms.map mT).flatten)++[(2,[109,111,100,101],0),(1,V7.getD i [],0),(3,[],(p:Int)),(5,[123],0)]):=by
   have l4:Pc false [10] []:=F6 (by decide);have:=m5.pre (h1.pre (pc123.pre l4));unfold A7c;rw [dc_12 (by omega),dc_12 (by omega)];simpa using this
  obtain ⟨bs,b1,b2,b3⟩:=foldH_pc hs k _ _ hh hmd;have l5:Pc false [125,10] [(5,[125],0)]:=pc125.pre (p':=[10]) (F6 (by decide));refine ⟨v,hv,ms++[(V7.getD i [],(p:Int),bs.zipIdx.map fun q=>((trI.getD ((k+q.2) % 11) (0,[])).1,(trI.getD ((k+q.2) % 11) (0,[])).2,q.1))],?_,?_,?_,?_,?_⟩
  ·rw [List.map_append,m1,List.map_cons,List.map_nil];have:∀ i,i<3->V7.take i++[V7.getD i []]=V7.take (i+1):=by decide
   exact this i (by omega)
  ·intro m hm;rcases List.mem_append.1 hm with hm|hm
   ·exact m2 m hm
   ·obtain rfl:=List.mem_singleton.1 hm;show (p:Int)<=99;omega
  ·intro m hm;rcases List.mem_append.1 hm with hm|hm
   ·exact m3 m hm
   ·obtain rfl:=List.mem_singleton.1 hm;exact hs_ok k hk bs (by omega)
  ·intro L' E m hm;rcases List.mem_append.1 hm with hm|hm
   ·exact m4 L' E m hm
   ·obtain rfl:=List.mem_singleton.1 hm;refine ⟨by simp;omega,fun h hh=>?_⟩;obtain ⟨q,hq,rfl⟩:=List.mem_map.1 hh;have hj:∀ j,j<11->(trI.getD j (0,[])).1<6/\((trI.getD j (0,[])).1<2->(trI.getD j (0,[])).2=[]):=by decide
    obtain ⟨j1,j2⟩:=hj ((k+q.2) % 11) (Nat.mod_lt _ (by decide));refine ⟨j1,j2,?_⟩;have hqb:q.1∈bs:=by
     have:q.1∈bs.zipIdx.map Prod.fst:=List.mem_map_of_mem hq
     rwa [List.zipIdx_map_fst] at this
    exact gbd_ok 2 (b2 _ hqb)
  ·have:=b3.pre l5;rw [List.map_append,List.flatten_append];simpa [mT,List.map_map,Function.comp_def] using this
theorem made_none {L s:List UInt8} (h:RuP L 0 3 s):A7p (K5 s).1=none:=by
 obtain ⟨v,hv,ms,m1,m2,m3,m4,m5⟩:=ru_pc h (Nat.le_refl _);exact (made_ok hv (by rw [m1];rfl) m2 m3 m4 m5.toks).1
theorem c_CheckAccepts (l:List UInt8) (hl:l.length<=9223372036854775807):PC Tryz.prog 9 [.lst (bytesC l)] (.bool true):=by
 have hs:=c_sane;refine PC.of A6 isU9 (Nat.le_of_ble_eq_true rfl) (by simp [DV.nlL,DV.nl,bytes_nl]) rfl ?_;show IW Tryz.prog 16 u9_1 ⟨B4 _,_,_⟩ (rt [.tmp 2] _);repeat' ((with_reducible first|refine wr ?_|refine wb2 ?_ ?_<;>(intro hb;try simp only [hb])|fail)<;>try simp only [go_sem,seval])
 refine AC.call (c_Made l hl 0 _ _) ?_;rintro v' H' c2 ⟨s,hg,rfl,rfl⟩ hc2;have hz:=parM_sz s;have hv:=parM_valid s;have hn:A7p (K5 s).1=none:=made_none hg;clear hg;generalize (K5 s).1=r at hz hv hn ⊢;have h1:=c_Check32 r (by omega);rw [chk_val hv,hn] at h1;have hrv:r.v=.agg [H4 r.decls,I5 r.modes]:=rfl;rw [hrv] at h1 ⊢;simp only [Option.getD_none] at h1;simp only [go_sem,seval];repeat' ((with_reducible first|refine wr ?_|refine cpc h1 ?_|refine cpc hs ?_|refine wb2 ?_ ?_<;>(intro hb;try simp only [hb])|fail)<;>try simp only [go_sem,seval])
 all_goals exact A4 rfl
end Go.Proofs.YtnmkkggfgdfmeaaGreatDoor
end

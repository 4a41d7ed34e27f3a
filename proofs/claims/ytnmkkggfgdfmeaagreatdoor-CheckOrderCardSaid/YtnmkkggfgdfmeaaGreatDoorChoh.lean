/-
  HELPERS of the claim: part 8 of its texts.
-/
import Derived.Test.YtnmkkggfgdfmeaaGreatDoorChog
noncomputable section
set_option maxHeartbeats 8000000
set_option maxRecDepth 100000
set_option linter.unusedSimpArgs false
set_option linter.unusedVariables false
namespace Go.Proofs.YtnmkkggfgdfmeaaGreatDoor
open Go.Eng (IC IOper DReg IFn A4)
open Go.Sym Go.Pb
def MC (f:Nat) (xs:List DV) (L:List UInt8) (w n:Nat) (Q:List UInt8->Prop):Prop:=∀ (i:Nat) (hi:i<=300) (H:Hp) (cc t:Nat) (ht:H t=some (mkB L w i)) (htc:t<cc),
  AC Tryz.prog f (.ptr t 0 :: xs) H cc (fun v H' c' => ∃ s j,Q s/\s.length<=n/\j<=300/\v=.str s/\H'=H.upd t (mkB L w j))
def NmS (L:List UInt8) (w:Nat) (p:List UInt8) (n:Nat) (s:List UInt8):Prop:=∃ i,i<=300/\s=(nmK L w p n i).1
def InS (L:List UInt8) (w d:Nat) (s:List UInt8):Prop:=∃ i,i<=300/\s=(inK L w d i).1
def BlS (L:List UInt8) (w d:Nat) (s:List UInt8):Prop:=∃ i,i<=300/\s=(blK L w d i).1
theorem I5 (L:List UInt8) (hL:L.length<=300) (w:Nat) (hw:w<=100) (p:List UInt8) (hp:p.length<=100) (n:Nat) (hn:0<n) (hn2:n<=1000):MC 54 [.str p,I64 n] L w 200 (NmS L w p n):=by
 intro i hi H cc t ht htc;refine (c_name32 L hL w i hw hi p hp n hn hn2 H cc t ht htc).mono ?_;rintro v H' c' ⟨rfl,rfl⟩;have:=Q7 (L:=L) (w:=w) (i:=i) (p:=p) (n:=n) hn hn2;exact ⟨_,_,⟨i,hi,rfl⟩,by omega,A0g hL hi,rfl,rfl⟩
theorem lnB_le {d:Nat} (h:d<=2):lnB d<=2100:=by
 have:∀ d,d<=2->lnB d<=2100:=by decide
 exact this d h
theorem Q9 (L:List UInt8) (hL:L.length<=300) (w:Nat) (hw:w<=100) (d:Nat) (hd:d<=2):MC 24 [I64 d] L w 2100 (InS L w d):=by
 intro i hi H cc t ht htc;refine ((c_exK L hL w hw d (by omega)).1 i hi H cc t ht htc).mono ?_;rintro v H' c' ⟨rfl,rfl⟩;have h1:=(A0e hL w d).1 i hi;have h2:=lnB_le hd;exact ⟨_,_,⟨i,hi,rfl⟩,by omega,h1.2,rfl,rfl⟩
theorem A6f (L:List UInt8) (hL:L.length<=300) (w:Nat) (hw:w<=100) (d:Nat) (hd:d<=2):MC 25 [I64 d] L w 2100 (BlS L w d):=by
 intro i hi H cc t ht htc;refine ((c_exK L hL w hw d (by omega)).2 i hi H cc t ht htc).mono ?_;rintro v H' c' ⟨rfl,rfl⟩;have h1:=(A0e hL w d).2 i hi;have h2:=lnB_le hd;exact ⟨_,_,⟨i,hi,rfl⟩,by omega,h1.2,rfl,rfl⟩
theorem N9 (L:List UInt8) (hL:L.length<=300) (w:Nat) (n:Nat) (hn:0<n) (hn2:n<=1000) (i:Nat) (hi:i<=300) (H:Hp) (cc t:Nat) (ht:H t=some (mkB L w i)) (htc:t<cc) :
  AC Tryz.prog 53 [.ptr t 0,I64 n] H cc (fun v H' c' => ∃ k j,k<n/\j<=300/\v=I64 (k:Nat)/\H'=H.upd t (mkB L w j)):=by
 refine (c_Next L hL w i hi n hn hn2 H cc t ht htc).mono ?_;rintro v H' c' ⟨rfl,rfl⟩;exact ⟨_,_,P9 L i hn,D9 hL hi,rfl,rfl⟩
theorem C4 (a b:List UInt8) (h:a.length+b.length<=100000000):∃ x,x=a++b/\x.length=a.length+b.length/\binR .add (.str a) (.str b)=some (.str x) :=
 ⟨_,rfl,by simp,K8 (by omega)⟩
def firL:List (List UInt8):=[[102,105,114,101,32],[104,111,108,100,32],[114,101,108,101,97,115,101,32]]
def runL:List (List UInt8):=[[114,117,110,32],[104,97,108,116,32]]
def txtL:List (List UInt8):=[[103,111],[106,97,99,107,112,111,116],[97,92,34,98],[]]
def oneL:List (List UInt8 × List UInt8 × Nat):=[([115,116,111,112,32],[116,109],2),([98,101,103,105,110,32],[109,111,100,101],3),([101,110,100,32],[109,111,100,101],3),([112,111,115,116,32],[101,118],2),([112,108,97,121,32],[115,110,100],2)]
inductive StG (L:List UInt8) (w:Nat) (K:List UInt8->Prop):List UInt8->Prop where
 | ifA {b x:List UInt8}:BlS L w 1 b->K x->StG L w K ((([105,102,32]++b)++[32])++x)
 | ifB {b x y:List UInt8}:BlS L w 1 b->K x->K y->StG L w K ((((([105,102,32]++b)++[32])++x)++[32,101,108,115,101,32])++y)
 | ifC {b x c y:List UInt8}:BlS L w 1 b->K x->BlS L w 0 c->K y->StG L w K ((((((([105,102,32]++b)++[32])++x)++[32,101,108,115,101,32,105,102,32])++c)++[32])++y)
 | rep {e x:List UInt8}:InS L w 0 e->K x->StG L w K ((([114,101,112,101,97,116,32]++e)++[32])++x)
 | sco {e:List UInt8}:InS L w 1 e->StG L w K (([115,99,111,114,101,32]++e)++[59])
 | fir {k:Nat} {n:List UInt8}:k<3->NmS L w [99,111,105,108] 3 n->StG L w K ((firL.getD k []++n)++[59])
 | lig {n e:List UInt8}:NmS L w [108,97,109,112] 4 n->InS L w 0 e->StG L w K (((([108,105,103,104,116,32]++n)++[32])++e)++[59])
 | bli {n e f:List UInt8}:NmS L w [108,97,109,112] 4 n->InS L w 0 e->InS L w 0 f->StG L w K (((((([98,108,105,110,107,32]++n)++[32])++e)++[44,32])++f)++[59])
 | sta {n e:List UInt8}:NmS L w [116,109] 2 n->InS L w 1 e->StG L w K (((([115,116,97,114,116,32]++n)++[32])++e)++[59])
 | one {q:List UInt8 × List UInt8 × Nat} {n:List UInt8}:q∈oneL->NmS L w q.2.1 q.2.2 n->StG L w K ((q.1++n)++[59])
 | run {k:Nat} {n:List UInt8}:k<2->NmS L w [115,104,111,119] 2 n->StG L w K ((runL.getD k []++n)++[59])
 | txt {k:Nat} {e:List UInt8}:k<4->InS L w 0 e->StG L w K (((([116,101,120,116,32,34]++txtL.getD k [])++[34,44,32])++e)++[59])
 | con:StG L w K [99,111,110,115,117,109,101,59]
 | asg {n e:List UInt8}:NmS L w [118] 3 n->InS L w 2 e->StG L w K (((n++[32,61,32])++e)++[59])
theorem c_Stmt (L:List UInt8) (hL:L.length<=300) (w:Nat) (hw:w<=100) (D:Int) (hD2:D<=10) (hD3 : -10<=D) (kb:Nat) (hkb:kb<=10000000) (K:List UInt8->Prop) (hK:D<=0\/MC 107 [I64 (D-1)] L w kb K) :
  MC 139 [I64 D] L w (2 * kb+8000) (StG L w K):=by
 intro i hi H cc t ht htc;refine AC.body A6 isU139 (Nat.le_of_ble_eq_true rfl) fun hfr=>?_;show IW Tryz.prog 189 u139_1 ⟨B1 _,_,_⟩ (rt [.tmp 4] _);have hw1:IntKind.i64.wrap (D-1)=D-1:=w64 (by omega) (by omega);obtain ⟨qd,hqd⟩:∃ b:Bool,decide (D<=0)=b:=⟨_,rfl⟩;have hqt:qd=true->D<=0:=fun e=>by rw [e] at hqd;simpa using hqd
 have hqf:qd=false->¬ D<=0:=fun e=>by rw [e] at hqd;simpa using hqd
 repeat' ((with_reducible apply wr)<;>try simp only [go_sem,seval,hqd])
 refine AC.call (N9 L hL w 20 (by decide) (by decide) i hi _ _ t ht (by omega)) ?_;rintro v' H' c2 ⟨k,j,hlt,hj,rfl,rfl⟩ hc2;by_cases k4:k=4
 ·subst k4;cases qd;all_goals
   simp only [go_sem,seval,hqd];repeat' ((with_reducible apply wr)<;>try simp only [go_sem,seval,hqd,hw1])
   refine AC.call (Q9 L hL w hw 1 (by decide) j hj _ _ t A0 (by omega)) ?_;rintro v' H' c3 ⟨r1,j1,g1,l1,b1,rfl,rfl⟩ hc3;rw [A1];obtain ⟨x1,e1,m1,a1⟩:=C4 [115,99,111,114,101,32] r1 (by (try simp)<;>omega);try simp only [List.length_cons,List.length_nil] at m1
   obtain ⟨x2,e2,m2,a2⟩:=C4 x1 [59] (by (try simp)<;>omega);try simp only [List.length_cons,List.length_nil] at m2
   simp only [go_sem,seval,a1,a2,hw1];repeat' ((with_reducible apply wr)<;>try simp only [go_sem,seval,a1,a2,hw1])
   exact ⟨_,_,GL.refl _ _,x2,j1,by rw [e2,e1];exact .sco g1,by omega,b1,rfl,rfl⟩
 by_cases k5:k=5
 ·subst k5;cases qd;all_goals
   simp only [go_sem,seval,hqd];repeat' ((with_reducible apply wr)<;>try simp only [go_sem,seval,hqd,hw1])
   refine AC.call (Q9 L hL w hw 1 (by decide) j hj _ _ t A0 (by omega)) ?_;rintro v' H' c3 ⟨r1,j1,g1,l1,b1,rfl,rfl⟩ hc3;rw [A1];obtain ⟨x1,e1,m1,a1⟩:=C4 [115,99,111,114,101,32] r1 (by (try simp)<;>omega);try simp only [List.length_cons,List.length_nil] at m1
   obtain ⟨x2,e2,m2,a2⟩:=C4 x1 [59] (by (try simp)<;>omega);try simp only [List.length_cons,List.length_nil] at m2
   simp only [go_sem,seval,a1,a2,hw1];repeat' ((with_reducible apply wr)<;>try simp only [go_sem,seval,a1,a2,hw1])
   exact ⟨_,_,GL.refl _ _,x2,j1,by rw [e2,e1];exact .sco g1,by omega,b1,rfl,rfl⟩
 by_cases k7:k=7
 ·subst k7;cases qd;all_goals
   simp only [go_sem,seval,hqd];repeat' ((with_reducible apply wr)<;>try simp only [go_sem,seval,hqd,hw1])
   refine AC.call (I5 L hL w hw [108,97,109,112] (by decide) 4 (by decide) (by decide) j hj _ _ t A0 (by omega)) ?_;rintro v' H' c3 ⟨r1,j1,g1,l1,b1,rfl,rfl⟩ hc3;rw [A1];obtain ⟨x1,e1,m1,a1⟩:=C4 [108,105,103,104,116,32] r1 (by (try simp)<;>omega);try simp only [List.length_cons,List.length_nil] at m1
   obtain ⟨x2,e2,m2,a2⟩:=C4 x1 [32] (by (try simp)<;>omega);try simp only [List.length_cons,List.length_nil] at m2
   simp only [go_sem,seval,a1,a2,hw1];repeat' ((with_reducible apply wr)<;>try simp only [go_sem,seval,a1,a2,hw1])
   refine AC.call (Q9 L hL w hw 0 (by decide) j1 b1 _ _ t A0 (by omega)) ?_;rintro v' H' c4 ⟨r2,j2,g2,l2,b2,rfl,rfl⟩ hc4;rw [A1];obtain ⟨x3,e3,m3,a3⟩:=C4 x2 r2 (by (try simp)<;>omega);try simp only [List.length_cons,List.length_nil] at m3
   obtain ⟨x4,e4,m4,a4⟩:=C4 x3 [59] (by (try simp)<;>omega);try simp only [List.length_cons,List.length_nil] at m4
   simp only [go_sem,seval,a3,a4,hw1];repeat' ((with_reducible apply wr)<;>try simp only [go_sem,seval,a3,a4,hw1])
   exact ⟨_,_,GL.refl _ _,x4,j2,by rw [e4,e3,e2,e1];exact .lig g1 g2,by omega,b2,rfl,rfl⟩
 by_cases k8:k=8
 ·subst k8;cases qd;all_goals
   simp only [go_sem,seval,hqd];repeat' ((with_reducible apply wr)<;>try simp only [go_sem,seval,hqd,hw1])
   refine AC.call (I5 L hL w hw [108,97,109,112] (by decide) 4 (by decide) (by decide) j hj _ _ t A0 (by omega)) ?_;rintro v' H' c3 ⟨r1,j1,g1,l1,b1,rfl,rfl⟩ hc3;rw [A1];obtain ⟨x1,e1,m1,a1⟩:=C4 [98,108,105,110,107,32] r1 (by (try simp)<;>omega);try simp only [List.length_cons,List.length_nil] at m1
   obtain ⟨x2,e2,m2,a2⟩:=C4 x1 [32] (by (try simp)<;>omega);try simp only [List.length_cons,List.length_nil] at m2
   simp only [go_sem,seval,a1,a2,hw1];repeat' ((with_reducible apply wr)<;>try simp only [go_sem,seval,a1,a2,hw1])
   refine AC.call (Q9 L hL w hw 0 (by decide) j1 b1 _ _ t A0 (by omega)) ?_;rintro v' H' c4 ⟨r2,j2,g2,l2,b2,rfl,rfl⟩ hc4;rw [A1];obtain ⟨x3,e3,m3,a3⟩:=C4 x2 r2 (by (try simp)<;>omega);try simp only [List.length_cons,List.length_nil] at m3
   obtain ⟨x4,e4,m4,a4⟩:=C4 x3 [44,32] (by (try simp)<;>omega);try simp only [List.length_cons,List.length_nil] at m4
   simp only [go_sem,seval,a3,a4,hw1];repeat' ((with_reducible apply wr)<;>try simp only [go_sem,seval,a3,a4,hw1])
   refine AC.call (Q9 L hL w hw 0 (by decide) j2 b2 _ _ t A0 (by omega)) ?_;rintro v' H' c5 ⟨r3,j3,g3,l3,b3,rfl,rfl⟩ hc5;rw [A1];obtain ⟨x5,e5,m5,a5⟩:=C4 x4 r3 (by (try simp)<;>omega);try simp only [List.length_cons,List.length_nil] at m5
   obtain ⟨x6,e6,m6,a6⟩:=C4 x5 [59] (by (try simp)<;>omega);try simp only [List.length_cons,List.length_nil] at m6
   simp only [go_sem,seval,a5,a6,hw1];repeat' ((with_reducible apply wr)<;>try simp only [go_sem,seval,a5,a6,hw1])
   exact ⟨_,_,GL.refl _ _,x6,j3,by rw [e6,e5,e4,e3,e2,e1];exact .bli g1 g2 g3,by omega,b3,rfl,rfl⟩
 by_cases k9:k=9
 ·subst k9;cases qd;all_goals
   simp only [go_sem,seval,hqd];repeat' ((with_reducible apply wr)<;>try simp only [go_sem,seval,hqd,hw1])
   refine AC.call (I5 L hL w hw [116,109] (by decide) 2 (by decide) (by decide) j hj _ _ t A0 (by omega)) ?_;rintro v' H' c3 ⟨r1,j1,g1,l1,b1,rfl,rfl⟩ hc3;rw [A1];obtain ⟨x1,e1,m1,a1⟩:=C4 [115,116,97,114,116,32] r1 (by (try simp)<;>omega);try simp only [List.length_cons,List.length_nil] at m1
   obtain ⟨x2,e2,m2,a2⟩:=C4 x1 [32] (by (try simp)<;>omega);try simp only [List.length_cons,List.length_nil] at m2
   simp only [go_sem,seval,a1,a2,hw1];repeat' ((with_reducible apply wr)<;>try simp only [go_sem,seval,a1,a2,hw1])
   refine AC.call (Q9 L hL w hw 1 (by decide) j1 b1 _ _ t A0 (by omega)) ?_;rintro v' H' c4 ⟨r2,j2,g2,l2,b2,rfl,rfl⟩ hc4;rw [A1];obtain ⟨x3,e3,m3,a3⟩:=C4 x2 r2 (by (try simp)<;>omega);try simp only [List.length_cons,List.length_nil] at m3
   obtain ⟨x4,e4,m4,a4⟩:=C4 x3 [59] (by (try simp)<;>omega);try simp only [List.length_cons,List.length_nil] at m4
   simp only [go_sem,seval,a3,a4,hw1];repeat' ((with_reducible apply wr)<;>try simp only [go_sem,seval,a3,a4,hw1])
   exact ⟨_,_,GL.refl _ _,x4,j2,by rw [e4,e3,e2,e1];exact .sta g1 g2,by omega,b2,rfl,rfl⟩
 by_cases k10:k=10
 ·subst k10;cases qd;all_goals
   simp only [go_sem,seval,hqd];repeat' ((with_reducible apply wr)<;>try simp only [go_sem,seval,hqd,hw1])
   refine AC.call (I5 L hL w hw [116,109] (by decide) 2 (by decide) (by decide) j hj _ _ t A0 (by omega)) ?_;rintro v' H' c3 ⟨r1,j1,g1,l1,b1,rfl,rfl⟩ hc3;rw [A1];obtain ⟨x1,e1,m1,a1⟩:=C4 [115,116,111,112,32] r1 (by (try simp)<;>omega);try simp only [List.length_cons,List.length_nil] at m1
   obtain ⟨x2,e2,m2,a2⟩:=C4 x1 [59] (by (try simp)<;>omega);try simp only [List.length_cons,List.length_nil] at m2
   simp only [go_sem,seval,a1,a2,hw1];repeat' ((with_reducible apply wr)<;>try simp only [go_sem,seval,a1,a2,hw1])
   exact ⟨_,_,GL.refl _ _,x2,j1,by rw [e2,e1];exact .one (q:=([115,116,111,112,32],[116,109],2)) (by simp [oneL]) g1,by omega,b1,rfl,rfl⟩
 by_cases k11:k=11
 ·subst k11;cases qd;all_goals
   simp only [go_sem,seval,hqd];repeat' ((with_reducible apply wr)<;>try simp only [go_sem,seval,hqd,hw1])
   refine AC.call (I5 L hL w hw [109,111,100,101] (by decide) 3 (by decide) (by decide) j hj _ _ t A0 (by omega)) ?_;rintro v' H' c3 ⟨r1,j1,g1,l1,b1,rfl,rfl⟩ hc3;rw [A1];obtain ⟨x1,e1,m1,a1⟩:=C4 [98,101,103,105,110,32] r1 (by (try simp)<;>omega);try simp only [List.length_cons,List.length_nil] at m1
   obtain ⟨x2,e2,m2,a2⟩:=C4 x1 [59] (by (try simp)<;>omega);try simp only [List.length_cons,List.length_nil] at m2
   simp only [go_sem,seval,a1,a2,hw1];repeat' ((with_reducible apply wr)<;>try simp only [go_sem,seval,a1,a2,hw1])
   exact ⟨_,_,GL.refl _ _,x2,j1,by rw [e2,e1];exact .one (q:=([98,101,103,105,110,32],[109,111,100,101],3)) (by simp [oneL]) g1,by omega,b1,rfl,rfl⟩
 by_cases k12:k=12
 ·subst k12;cases qd;all_goals
   simp only [go_sem,seval,hqd];repeat' ((with_reducible apply wr)<;>try simp only [go_sem,seval,hqd,hw1])
   refine AC.call (I5 L hL w hw [109,111,100,101] (by decide) 3 (by decide) (by decide) j hj _ _ t A0 (by omega)) ?_;rintro v' H' c3 ⟨r1,j1,g1,l1,b1,rfl,rfl⟩ hc3;rw [A1];obtain ⟨x1,e1,m1,a1⟩:=C4 [101,110,100,32] r1 (by (try simp)<;>omega);try simp only [List.length_cons,List.length_nil] at m1
   obtain ⟨x2,e2,m2,a2⟩:=C4 x1 [59] (by (try simp)<;>omega);try simp only [List.length_cons,List.length_nil] at m2
   simp only [go_sem,seval,a1,a2,hw1];repeat' ((with_reducible apply wr)<;>try simp only [go_sem,seval,a1,a2,hw1])
   exact ⟨_,_,GL.refl _ _,x2,j1,by rw [e2,e1];exact .one (q:=([101,110,100,32],[109,111,100,101],3)) (by simp [oneL]) g1,by omega,b1,rfl,rfl⟩
 by_cases k13:k=13
 ·subst k13;cases qd;all_goals
   simp only [go_sem,seval,hqd];repeat' ((with_reducible apply wr)<;>try simp only [go_sem,seval,hqd,hw1])
   refine AC.call (I5 L hL w hw [101,118] (by decide) 2 (by decide) (by decide) j hj _ _ t A0 (by omega)) ?_;rintro v' H' c3 ⟨r1,j1,g1,l1,b1,rfl,rfl⟩ hc3;rw [A1];obtain ⟨x1,e1,m1,a1⟩:=C4 [112,111,115,116,32] r1 (by (try simp)<;>omega);try simp only [List.length_cons,List.length_nil] at m1
   obtain ⟨x2,e2,m2,a2⟩:=C4 x1 [59] (by (try simp)<;>omega);try simp only [List.length_cons,List.length_nil] at m2
   simp only [go_sem,seval,a1,a2,hw1];repeat' ((with_reducible apply wr)<;>try simp only [go_sem,seval,a1,a2,hw1])
   exact ⟨_,_,GL.refl _ _,x2,j1,by rw [e2,e1];exact .one (q:=([112,111,115,116,32],[101,118],2)) (by simp [oneL]) g1,by omega,b1,rfl,rfl⟩
 by_cases k14:k=14
 ·subst k14;cases qd;all_goals
   simp only [go_sem,seval,hqd];repeat' ((with_reducible apply wr)<;>try simp only [go_sem,seval,hqd,hw1])
   refine AC.call (I5 L hL w hw [115,110,100] (by decide) 2 (by decide) (by decide) j hj _ _ t A0 (by omega)) ?_;rintro v' H' c3 ⟨r1,j1,g1,l1,b1,rfl,rfl⟩ hc3;rw [A1];obtain ⟨x1,e1,m1,a1⟩:=C4 [112,108,97,121,32] r1 (by (try simp)<;>omega);try simp only [List.length_cons,List.length_nil] at m1
   obtain ⟨x2,e2,m2,a2⟩:=C4 x1 [59] (by (try simp)<;>omega);try simp only [List.length_cons,List.length_nil] at m2
   simp only [go_sem,seval,a1,a2,hw1];repeat' ((with_reducible apply wr)<;>try simp only [go_sem,seval,a1,a2,hw1])
   exact ⟨_,_,GL.refl _ _,x2,j1,by rw [e2,e1];exact .one (q:=([112,108,97,121,32],[115,110,100],2)) (by simp [oneL]) g1,by omega,b1,rfl,rfl⟩
 by_cases k17:k=17
 ·subst k17;cases qd;all_goals
   simp only [go_sem,seval,hqd];repeat' ((with_reducible apply wr)<;>try simp only [go_sem,seval,hqd,hw1])
   exact ⟨_,_,GL.refl _ _,_,j,.con,by first|(simp;done)|(simp;omega),hj,rfl,rfl⟩
 by_cases k6:k=6
 ·subst k6;cases qd;all_goals
   simp only [go_sem,seval,hqd];repeat' ((with_reducible apply wr)<;>try simp only [go_sem,seval,hqd,hw1])
   refine AC.call (N9 L hL w 3 (by decide) (by decide) j hj _ _ t (by rw [hide1 (by omega)];exact A0) (by omega)) ?_;rintro v' H' c3 ⟨k3,j1,hlt3,b1,rfl,rfl⟩ hc3;have hmg:∀ (X:Hp) (B:Blk),G1 [c2] X ((J9 X [c2]).upd t B)=X.upd t B:=fun X B=>A2j (by omega);have hia:M2 1 (.slc c2 0 3) (I64 (k3:Int))=some (.ptr c2 k3):=by simp [M2];omega
   have hld:([.str [102,105,114,101,32],.str [104,111,108,100,32],.str [114,101,108,101,97,115,101,32]]:List DV)[k3]? = some (.str (firL.getD k3 [])):=by
    match k3,hlt3 with
    | 0,_=>rfl
    | 1,_=>rfl
    | 2,_=>rfl
   have hg:=J5 (l:=firL) (n:=10) (by decide) k3;generalize hog:firL.getD k3 []=og at hg hld;generalize hWL:([.str [102,105,114,101,32],.str [104,111,108,100,32],.str [114,101,108,101,97,115,101,32]]:List DV)=WL at hld ⊢;have ne0:=M1 t c2 (by omega);simp only [go_sem,seval,hmg,A0,A1,ne0,hia,hld,hw1];refine ⟨by and_intros<;>first|rfl|(rw [<- hWL];done)|((repeat rw [A2 (by omega)]);exact hfr _ (by omega)),?_⟩;refine AC.call (I5 L hL w hw [99,111,105,108] (by decide) 3 (by decide) (by decide) j1 b1 _ _ t (by simp only [J9];rw [if_neg (by simp;omega)];exact A0) (by omega)) ?_;rintro v' H' c4 ⟨r1,j2,g1,l1,b2,rfl,rfl⟩ hc4;obtain ⟨x1,e1,m1,a1⟩:=C4 og r1 (by (try simp)<;>omega);try simp only [List.length_cons,List.length_nil] at m1
   obtain ⟨x2,e2,m2,a2⟩:=C4 x1 [59] (by (try simp)<;>omega);try simp only [List.length_cons,List.length_nil] at m2
   simp only [go_sem,seval,hmg,A0,A1,ne0,hia,hld,hw1,a1,a2];refine ⟨by and_intros<;>first|rfl|(rw [<- hWL];done)|((repeat rw [A2 (by omega)]);exact hfr _ (by omega)),?_⟩;repeat' ((with_reducible apply wr)<;>try simp only [go_sem,seval])
   exact ⟨_,_,X2 hfr htc (by omega),x2,j2,by rw [e2,e1, <- hog];exact .fir hlt3 g1,by omega,b2,rfl,rfl⟩
 by_cases k15:k=15
 ·subst k15;cases qd;all_goals
   simp only [go_sem,seval,hqd];repeat' ((with_reducible apply wr)<;>try simp only [go_sem,seval,hqd,hw1])
   refine AC.call (N9 L hL w 2 (by decide) (by decide) j hj _ _ t (by rw [hide1 (by omega)];exact A0) (by omega)) ?_;rintro v' H' c3 ⟨k3,j1,hlt3,b1,rfl,rfl⟩ hc3;have hmg:∀ (X:Hp) (B:Blk),G1 [c2] X ((J9 X [c2]).upd t B)=X.upd t B:=fun X B=>A2j (by omega);have hia:M2 1 (.slc c2 0 2) (I64 (k3:Int))=some (.ptr c2 k3):=by simp [M2];omega
   have hld:([.str [114,117,110,32],.str [104,97,108,116,32]]:List DV)[k3]? = some (.str (runL.getD k3 [])):=by
    match k3,hlt3 with
    | 0,_=>rfl
    | 1,_=>rfl
   have hg:=J5 (l:=runL) (n:=10) (by decide) k3;generalize hog:runL.getD k3 []=og at hg hld;generalize hWL:([.str [114,117,110,32],.str [104,97,108,116,32]]:List DV)=WL at hld ⊢;have ne0:=M1 t c2 (by omega);simp only [go_sem,seval,hmg,A0,A1,ne0,hia,hld,hw1];refine ⟨by and_intros<;>first|rfl|(rw [<- hWL];done)|((repeat rw [A2 (by omega)]);exact hfr _ (by omega)),?_⟩;refine AC.call (I5 L hL w hw [115,104,111,119] (by decide) 2 (by decide) (by decide) j1 b1 _ _ t (by simp only [J9];rw [if_neg (by simp;omega)];exact A0) (by omega)) ?_;rintro v' H' c4 ⟨r1,j2,g1,l1,b2,rfl,rfl⟩ hc4;obtain ⟨x1,e1,m1,a1⟩:=C4 og r1 (by (try simp)<;>omega);try simp only [List.length_cons,List.length_nil] at m1
   obtain ⟨x2,e2,m2,a2⟩:=C4 x1 [59] (by (try simp)<;>omega);try simp only [List.length_cons,List.length_nil] at m2
   simp only [go_sem,seval,hmg,A0,A1,ne0,hia,hld,hw1,a1,a2];refine ⟨by and_intros<;>first|rfl|(rw [<- hWL];done)|((repeat rw [A2 (by omega)]);exact hfr _ (by omega)),?_⟩;repeat' ((with_reducible apply wr)<;>try simp only [go_sem,seval])
   exact ⟨_,_,X2 hfr htc (by omega),x2,j2,by rw [e2,e1, <- hog];exact .run hlt3 g1,by omega,b2,rfl,rfl⟩
 by_cases k16:k=16
 ·subst k16;cases qd;all_goals
   simp only [go_sem,seval,hqd];repeat' ((with_reducible apply wr)<;>try simp only [go_sem,seval,hqd,hw1])
   refine AC.call (N9 L hL w 4 (by decide) (by decide) j hj _ _ t (by rw [hide1 (by omega)];exact A0) (by omega)) ?_;rintro v' H' c3 ⟨k3,j1,hlt3,b1,rfl,rfl⟩ hc3;have hmg:∀ (X:Hp) (B:Blk),G1 [c2] X ((J9 X [c2]).upd t B)=X.upd t B:=fun X B=>A2j (by omega);have hia:M2 1 (.slc c2 0 4) (I64 (k3:Int))=some (.ptr c2 k3):=by simp [M2];omega
   have hld:([.str [103,111],.str [106,97,99,107,112,111,116],.str [97,92,34,98],.str []]:List DV)[k3]? = some (.str (txtL.getD k3 [])):=by
    match k3,hlt3 with
    | 0,_=>rfl
    | 1,_=>rfl
    | 2,_=>rfl
    | 3,_=>rfl
   have hg:=J5 (l:=txtL) (n:=10) (by decide) k3;generalize hog:txtL.getD k3 []=og at hg hld;generalize hWL:([.str [103,111],.str [106,97,99,107,112,111,116],.str [97,92,34,98],.str []]:List DV)=WL at hld ⊢;have ne0:=M1 t c2 (by omega);obtain ⟨x1,e1,m1,a1⟩:=C4 [116,101,120,116,32,34] og (by (try simp)<;>omega);try simp only [List.length_cons,List.length_nil] at m1
   obtain ⟨x2,e2,m2,a2⟩:=C4 x1 [34,44,32] (by (try simp)<;>omega);try simp only [List.length_cons,List.length_nil] at m2
   simp only [go_sem,seval,hmg,A0,A1,ne0,hia,hld,hw1,a1,a2];refine ⟨by and_intros<;>first|rfl|(rw [<- hWL];done)|((repeat rw [A2 (by omega)]);exact hfr _ (by omega)),?_⟩;refine AC.call (Q9 L hL w hw 0 (by decide) j1 b1 _ _ t (by simp only [J9];rw [if_neg (by simp;omega)];exact A0) (by omega)) ?_;rintro v' H' c4 ⟨r1,j2,g1,l1,b2,rfl,rfl⟩ hc4;obtain ⟨x3,e3,m3,a3⟩:=C4 x2 r1 (by (try simp)<;>omega);try simp only [List.length_cons,List.length_nil] at m3
   obtain ⟨x4,e4,m4,a4⟩:=C4 x3 [59] (by (try simp)<;>omega);try simp only [List.length_cons,List.length_nil] at m4
   simp only [go_sem,seval,hmg,A0,A1,ne0,hia,hld,hw1,a1,a2,a3,a4];refine ⟨by and_intros<;>first|rfl|(rw [<- hWL];done)|((repeat rw [A2 (by omega)]);exact hfr _ (by omega)),?_⟩;repeat' ((with_reducible apply wr)<;>try simp only [go_sem,seval])
   exact ⟨_,_,X2 hfr htc (by omega),x4,j2,by rw [e4,e3,e2,e1, <- hog];exact .txt hlt3 g1,by omega,b2,rfl,rfl⟩
 by_cases k18:k=18
 ·subst k18;cases qd;all_goals
   simp only [go_sem,seval,hqd];repeat' ((with_reducible apply wr)<;>try simp only [go_sem,seval,hqd,hw1])
   refine AC.call (I5 L hL w hw [118] (by decide) 3 (by decide) (by decide) j hj _ _ t A0 (by omega)) ?_;rintro v' H' c3 ⟨r1,j1,g1,l1,b1,rfl,rfl⟩ hc3;rw [A1];obtain ⟨x1,e1,m1,a1⟩:=C4 r1 [32,61,32] (by (try simp)<;>omega);try simp only [List.length_cons,List.length_nil] at m1
   simp only [go_sem,seval,a1,hw1];repeat' ((with_reducible apply wr)<;>try simp only [go_sem,seval,a1,hw1])
   refine AC.call (Q9 L hL w hw 2 (by decide) j1 b1 _ _ t A0 (by omega)) ?_;rintro v' H' c4 ⟨r2,j2,g2,l2,b2,rfl,rfl⟩ hc4;rw [A1];obtain ⟨x2,e2,m2,a2⟩:=C4 x1 r2 (by (try simp)<;>omega);try simp only [List.length_cons,List.length_nil] at m2
   obtain ⟨x3,e3,m3,a3⟩:=C4 x2 [59] (by (try simp)<;>omega);try simp only [List.length_cons,List.length_nil] at m3
   simp only [go_sem,seval,a2,a3,hw1];repeat' ((with_reducible apply wr)<;>try simp only [go_sem,seval,a2,a3,hw1])
   exact ⟨_,_,GL.refl _ _,x3,j2,by rw [e3,e2,e1];exact .asg g1 g2,by omega,b2,rfl,rfl⟩
 by_cases k19:k=19
 ·subst k19;cases qd;all_goals
   simp only [go_sem,seval,hqd];repeat' ((with_reducible apply wr)<;>try simp only [go_sem,seval,hqd,hw1])
   refine AC.call (I5 L hL w hw [118] (by decide) 3 (by decide) (by decide) j hj _ _ t A0 (by omega)) ?_;rintro v' H' c3 ⟨r1,j1,g1,l1,b1,rfl,rfl⟩ hc3;rw [A1];obtain ⟨x1,e1,m1,a1⟩:=C4 r1 [32,61,32] (by (try simp)<;>omega);try simp only [List.length_cons,List.length_nil] at m1
   simp only [go_sem,seval,a1,hw1];repeat' ((with_reducible apply wr)<;>try simp only [go_sem,seval,a1,hw1])
   refine AC.call (Q9 L hL w hw 2 (by decide) j1 b1 _ _ t A0 (by omega)) ?_;rintro v' H' c4 ⟨r2,j2,g2,l2,b2,rfl,rfl⟩ hc4;rw [A1];obtain ⟨x2,e2,m2,a2⟩:=C4 x1 r2 (by (try simp)<;>omega);try simp only [List.length_cons,List.length_nil] at m2
   obtain ⟨x3,e3,m3,a3⟩:=C4 x2 [59] (by (try simp)<;>omega);try simp only [List.length_cons,List.length_nil] at m3
   simp only [go_sem,seval,a2,a3,hw1];repeat' ((with_reducible apply wr)<;>try simp only [go_sem,seval,a2,a3,hw1])
   exact ⟨_,_,GL.refl _ _,x3,j2,by rw [e3,e2,e1];exact .asg g1 g2,by omega,b2,rfl,rfl⟩
 by_cases k0:k=0
 ·subst k0;cases qd;all_goals
   simp only [go_sem,seval,hqd];repeat' ((with_reducible apply wr)<;>try simp only [go_sem,seval,hqd,hw1])
   refine AC.call (I5 L hL w hw [118] (by decide) 3 (by decide) (by decide) j hj _ _ t A0 (by omega)) ?_;rintro v' H' c3 ⟨r1,j1,g1,l1,b1,rfl,rfl⟩ hc3;rw [A1];obtain ⟨x1,e1,m1,a1⟩:=C4 r1 [32,61,32] (by (try simp)<;>omega);try simp only [List.length_cons,List.length_nil] at m1
   simp only [go_sem,seval,a1,hw1];repeat' ((with_reducible apply wr)<;>try simp only [go_sem,seval,a1,hw1])
   refine AC.call (Q9 L hL w hw 2 (by decide) j1 b1 _ _ t A0 (by omega)) ?_;rintro v' H' c4 ⟨r2,j2,g2,l2,b2,rfl,rfl⟩ hc4;rw [A1];obtain ⟨x2,e2,m2,a2⟩:=C4 x1 r2 (by (try simp)<;>omega);try simp only [List.length_cons,List.length_nil] at m2
   obtain ⟨x3,e3,m3,a3⟩:=C4 x2 [59] (by (try simp)<;>omega);try simp only [List.length_cons,List.length_nil] at m3
   simp only [go_sem,seval,a2,a3,hw1];repeat' ((with_reducible apply wr)<;>try simp only [go_sem,seval,a2,a3,hw1])
   exact ⟨_,_,GL.refl _ _,x3,j2,by rw [e3,e2,e1];exact .asg g1 g2,by omega,b2,rfl,rfl⟩
 by_cases k3:k=3
 ·subst k3;cases qd
  rotate_left
  ·simp only [go_sem,seval,hqd];repeat' ((with_reducible apply wr)<;>try simp only [go_sem,seval,hqd,hw1])
   refine AC.call (I5 L hL w hw [118] (by decide) 3 (by decide) (by decide) j hj _ _ t A0 (by omega)) ?_;rintro v' H' c3 ⟨r1,j1,g1,l1,b1,rfl,rfl⟩ hc3;rw [A1];obtain ⟨x1,e1,m1,a1⟩:=C4 r1 [32,61,32] (by (try simp)<;>omega);try simp only [List.length_cons,List.length_nil] at m1
   simp only [go_sem,seval,a1,hw1];repeat' ((with_reducible apply wr)<;>try simp only [go_sem,seval,a1,hw1])
   refine AC.call (Q9 L hL w hw 2 (by decide) j1 b1 _ _ t A0 (by omega)) ?_;rintro v' H' c4 ⟨r2,j2,g2,l2,b2,rfl,rfl⟩ hc4;rw [A1];obtain ⟨x2,e2,m2,a2⟩:=C4 x1 r2 (by (try simp)<;>omega);try simp only [List.length_cons,List.length_nil] at m2
   obtain ⟨x3,e3,m3,a3⟩:=C4 x2 [59] (by (try simp)<;>omega);try simp only [List.length_cons,List.length_nil] at m3
   simp only [go_sem,seval,a2,a3,hw1];repeat' ((with_reducible apply wr)<;>try simp only [go_sem,seval,a2,a3,hw1])
   exact ⟨_,_,GL.refl _ _,x3,j2,by rw [e3,e2,e1];exact .asg g1 g2,by omega,b2,rfl,rfl⟩
  have hK':=hK.resolve_left (hqf rfl);simp only [go_sem,seval,hqd];repeat' ((with_reducible apply wr)<;>try simp only [go_sem,seval,hqd,hw1])
  refine AC.call (Q9 L hL w hw 0 (by decide) j hj _ _ t A0 (by omega)) ?_;rintro v' H' c3 ⟨r1,j1,g1,l1,b1,rfl,rfl⟩ hc3;rw [A1];obtain ⟨x1,e1,m1,a1⟩:=C4 [114,101,112,101,97,116,32] r1 (by (try simp)<;>omega);try simp only [List.length_cons,List.length_nil] at m1
  obtain ⟨x2,e2,m2,a2⟩:=C4 x1 [32] (by (try simp)<;>omega);try simp only [List.length_cons,List.length_nil] at m2
  simp only [go_sem,seval,a1,a2,hw1];repeat' ((with_reducible apply wr)<;>try simp only [go_sem,seval,a1,a2,hw1])
  refine AC.call (hK' j1 b1 _ _ t A0 (by omega)) ?_;rintro v' H' c4 ⟨r2,j2,g2,l2,b2,rfl,rfl⟩ hc4;rw [A1];obtain ⟨x3,e3,m3,a3⟩:=C4 x2 r2 (by (try simp)<;>omega);try simp only [List.length_cons,List.length_nil] at m3
  simp only [go_sem,seval,a3,hw1];repeat' ((with_reducible apply wr)<;>try simp only [go_sem,seval,a3,hw1])
  exact ⟨_,_,GL.refl _ _,x3,j2,by rw [e3,e2,e1];exact .rep g1 g2,by omega,b2,rfl,rfl⟩
 by_cases k1:k=1
 ·subst k1;cases qd
  rotate_left
  ·simp only [go_sem,seval,hqd];repeat' ((with_reducible apply wr)<;>try simp only [go_sem,seval,hqd,hw1])
   refine AC.call (I5 L hL w hw [118] (by decide) 3 (by decide) (by decide) j hj _ _ t A0 (by omega)) ?_;rintro v' H' c3 ⟨r1,j1,g1,l1,b1,rfl,rfl⟩ hc3;rw [A1];obtain ⟨x1,e1,m1,a1⟩:=C4 r1 [32,61,32] (by (try simp)<;>omega);try simp only [List.length_cons,List.length_nil] at m1
   simp only [go_sem,seval,a1,hw1];repeat' ((with_reducible apply wr)<;>try simp only [go_sem,seval,a1,hw1])
   refine AC.call (Q9 L hL w hw 2 (by decide) j1 b1 _ _ t A0 (by omega)) ?_;rintro v' H' c4 ⟨r2,j2,g2,l2,b2,rfl,rfl⟩ hc4;rw [A1];obtain ⟨x2,e2,m2,a2⟩:=C4 x1 r2 (by (try simp)<;>omega);try simp only [List.length_cons,List.length_nil] at m2
   obtain ⟨x3,e3,m3,a3⟩:=C4 x2 [59] (by (try simp)<;>omega);try simp only [List.length_cons,List.length_nil] at m3
   simp only [go_sem,seval,a2,a3,hw1];repeat' ((with_reducible apply wr)<;>try simp only [go_sem,seval,a2,a3,hw1])
   exact ⟨_,_,GL.refl _ _,x3,j2,by rw [e3,e2,e1];exact .asg g1 g2,by omega,b2,rfl,rfl⟩
  have hK':=hK.resolve_left (hqf rfl);simp only [go_sem,seval,hqd];repeat' ((with_reducible apply wr)<;>try simp only [go_sem,seval,hqd,hw1])
  refine AC.call (A6f L hL w hw 1 (by decide) j hj _ _ t A0 (by omega)) ?_;rintro v' H' c3 ⟨r1,j1,g1,l1,b1,rfl,rfl⟩ hc3;rw [A1];obtain ⟨x1,e1,m1,a1⟩:=C4 [105,102,32] r1 (by (try simp)<;>omega);try simp only [List.length_cons,List.length_nil] at m1
  obtain ⟨x2,e2,m2,a2⟩:=C4 x1 [32] (by (try simp)<;>omega);try simp only [List.length_cons,List.length_nil] at m2
  simp only [go_sem,seval,a1,a2,hw1];repeat' ((with_reducible apply wr)<;>try simp only [go_sem,seval,a1,a2,hw1])
  refine AC.call (hK' j1 b1 _ _ t A0 (by omega)) ?_;rintro v' H' c4 ⟨r2,j2,g2,l2,b2,rfl,rfl⟩ hc4;rw [A1];obtain ⟨x3,e3,m3,a3⟩:=C4 x2 r2 (by (try simp)<;>omega);try simp only [List.length_cons,List.length_nil] at m3
  simp only [go_sem,seval,a3,hw1];repeat' ((with_reducible apply wr)<;>try simp only [go_sem,seval,a3,hw1])
  refine AC.call (N9 L hL w 3 (by decide) (by decide) j2 b2 _ _ t A0 (by omega)) ?_;rintro v' H' c5 ⟨q,j3,hq,b3,rfl,rfl⟩ hc5;rw [A1];by_cases q1:q=1
  ·subst q1;obtain ⟨x4,e4,m4,a4⟩:=C4 x3 [32,101,108,115,101,32] (by (try simp)<;>omega);try simp only [List.length_cons,List.length_nil] at m4
   simp only [go_sem,seval,a4,hw1];repeat' ((with_reducible apply wr)<;>try simp only [go_sem,seval,a4,hw1])
   refine AC.call (hK' j3 b3 _ _ t A0 (by omega)) ?_;rintro v' H' c6 ⟨r4,j4,g4,l4,b4,rfl,rfl⟩ hc6;rw [A1];obtain ⟨x5,e5,m5,a5⟩:=C4 x4 r4 (by (try simp)<;>omega);try simp only [List.length_cons,List.length_nil] at m5
   simp only [go_sem,seval,a5,hw1];repeat' ((with_reducible apply wr)<;>try simp only [go_sem,seval,a5,hw1])
   exact ⟨_,_,GL.refl _ _,x5,j4,by rw [e5,e4,e3,e2,e1];exact .ifB g1 g2 g4,by omega,b4,rfl,rfl⟩
  by_cases q2:q=2
  ·subst q2;obtain ⟨x4,e4,m4,a4⟩:=C4 x3 [32,101,108,115,101,32,105,102,32] (by (try simp)<;>omega);try simp only [List.length_cons,List.length_nil] at m4
   simp only [go_sem,seval,a4,hw1];repeat' ((with_reducible apply wr)<;>try simp only [go_sem,seval,a4,hw1])
   refine AC.call (A6f L hL w hw 0 (by decide) j3 b3 _ _ t A0 (by omega)) ?_;rintro v' H' c6 ⟨r4,j4,g4,l4,b4,rfl,rfl⟩ hc6;rw [A1];obtain ⟨x5,e5,m5,a5⟩:=C4 x4 r4 (by (try simp)<;>omega);try simp only [List.length_cons,List.length_nil] at m5
   obtain ⟨x6,e6,m6,a6⟩:=C4 x5 [32] (by (try simp)<;>omega);try simp only [List.length_cons,List.length_nil] at m6
   simp only [go_sem,seval,a5,a6,hw1];repeat' ((with_reducible apply wr)<;>try simp only [go_sem,seval,a5,a6,hw1])
   refine AC.call (hK' j4 b4 _ _ t A0 (by omega)) ?_;rintro v' H' c7 ⟨r5,j5,g5,l5,b5,rfl,rfl⟩ hc7;rw [A1];obtain ⟨x7,e7,m7,a7⟩:=C4 x6 r5 (by (try simp)<;>omega);try simp only [List.length_cons,List.length_nil] at m7
   simp only [go_sem,seval,a7,hw1];repeat' ((with_reducible apply wr)<;>try simp only [go_sem,seval,a7,hw1])
   exact ⟨_,_,GL.refl _ _,x7,j5,by rw [e7,e6,e5,e4,e3,e2,e1];exact .ifC g1 g2 g4 g5,by omega,b5,rfl,rfl⟩
  obtain rfl:q=0:=by omega
  simp only [go_sem,seval];repeat' ((with_reducible apply wr)<;>try simp only [go_sem,seval])
  exact ⟨_,_,GL.refl _ _,x3,j3,by rw [e3,e2,e1];exact .ifA g1 g2,by omega,b3,rfl,rfl⟩
 by_cases k2:k=2
 ·subst k2;cases qd
  rotate_left
  ·simp only [go_sem,seval,hqd];repeat' ((with_reducible apply wr)<;>try simp only [go_sem,seval,hqd,hw1])
   refine AC.call (I5 L hL w hw [118] (by decide) 3 (by decide) (by decide) j hj _ _ t A0 (by omega)) ?_;rintro v' H' c3 ⟨r1,j1,g1,l1,b1,rfl,rfl⟩ hc3;rw [A1];obtain ⟨x1,e1,m1,a1⟩:=C4 r1 [32,61,32] (by (try simp)<;>omega);try simp only [List.length_cons,List.length_nil] at m1
   simp only [go_sem,seval,a1,hw1];repeat' ((with_reducible apply wr)<;>try simp only [go_sem,seval,a1,hw1])
   refine AC.call (Q9 L hL w hw 2 (by decide) j1 b1 _ _ t A0 (by omega)) ?_;rintro v' H' c4 ⟨r2,j2,g2,l2,b2,rfl,rfl⟩ hc4;rw [A1];obtain ⟨x2,e2,m2,a2⟩:=C4 x1 r2 (by (try simp)<;>omega);try simp only [List.length_cons,List.length_nil] at m2
   obtain ⟨x3,e3,m3,a3⟩:=C4 x2 [59] (by (try simp)<;>omega);try simp only [List.length_cons,List.length_nil] at m3
   simp only [go_sem,seval,a2,a3,hw1];repeat' ((with_reducible apply wr)<;>try simp only [go_sem,seval,a2,a3,hw1])
   exact ⟨_,_,GL.refl _ _,x3,j2,by rw [e3,e2,e1];exact .asg g1 g2,by omega,b2,rfl,rfl⟩
  have hK':=hK.resolve_left (hqf rfl);simp only [go_sem,seval,hqd];repeat' ((with_reducible apply wr)<;>try simp only [go_sem,seval,hqd,hw1])
  refine AC.call (A6f L hL w hw 1 (by decide) j hj _ _ t A0 (by omega)) ?_;rintro v' H' c3 ⟨r1,j1,g1,l1,b1,rfl,rfl⟩ hc3;rw [A1];obtain ⟨x1,e1,m1,a1⟩:=C4 [105,102,32] r1 (by (try simp)<;>omega);try simp only [List.length_cons,List.length_nil] at m1
  obtain ⟨x2,e2,m2,a2⟩:=C4 x1 [32] (by (try simp)<;>omega);try simp only [List.length_cons,List.length_nil] at m2
  simp only [go_sem,seval,a1,a2,hw1];repeat' ((with_reducible apply wr)<;>try simp only [go_sem,seval,a1,a2,hw1])
  refine AC.call (hK' j1 b1 _ _ t A0 (by omega)) ?_;rintro v' H' c4 ⟨r2,j2,g2,l2,b2,rfl,rfl⟩ hc4;rw [A1];obtain ⟨x3,e3,m3,a3⟩:=C4 x2 r2 (by (try simp)<;>omega);try simp only [List.length_cons,List.length_nil] at m3
  simp only [go_sem,seval,a3,hw1];repeat' ((with_reducible apply wr)<;>try simp only [go_sem,seval,a3,hw1])
  refine AC.call (N9 L hL w 3 (by decide) (by decide) j2 b2 _ _ t A0 (by omega)) ?_;rintro v' H' c5 ⟨q,j3,hq,b3,rfl,rfl⟩ hc5;rw [A1];by_cases q1:q=1
  ·subst q1;obtain ⟨x4,e4,m4,a4⟩:=C4 x3 [32,101,108,115,101,32] (by (try simp)<;>omega);try simp only [List.length_cons,List.length_nil] at m4
   simp only [go_sem,seval,a4,hw1];repeat' ((with_reducible apply wr)<;>try simp only [go_sem,seval,a4,hw1])
   refine AC.call (hK' j3 b3 _ _ t A0 (by omega)) ?_;rintro v' H' c6 ⟨r4,j4,g4,l4,b4,rfl,rfl⟩ hc6;rw [A1];obtain ⟨x5,e5,m5,a5⟩:=C4 x4 r4 (by (try simp)<;>omega);try simp only [List.length_cons,List.length_nil] at m5
   simp only [go_sem,seval,a5,hw1];repeat' ((with_reducible apply wr)<;>try simp only [go_sem,seval,a5,hw1])
   exact ⟨_,_,GL.refl _ _,x5,j4,by rw [e5,e4,e3,e2,e1];exact .ifB g1 g2 g4,by omega,b4,rfl,rfl⟩
  by_cases q2:q=2
  ·subst q2;obtain ⟨x4,e4,m4,a4⟩:=C4 x3 [32,101,108,115,101,32,105,102,32] (by (try simp)<;>omega);try simp only [List.length_cons,List.length_nil] at m4
   simp only [go_sem,seval,a4,hw1];repeat' ((with_reducible apply wr)<;>try simp only [go_sem,seval,a4,hw1])
   refine AC.call (A6f L hL w hw 0 (by decide) j3 b3 _ _ t A0 (by omega)) ?_;rintro v' H' c6 ⟨r4,j4,g4,l4,b4,rfl,rfl⟩ hc6;rw [A1];obtain ⟨x5,e5,m5,a5⟩:=C4 x4 r4 (by (try simp)<;>omega);try simp only [List.length_cons,List.length_nil] at m5
   obtain ⟨x6,e6,m6,a6⟩:=C4 x5 [32] (by (try simp)<;>omega);try simp only [List.length_cons,List.length_nil] at m6
   simp only [go_sem,seval,a5,a6,hw1];repeat' ((with_reducible apply wr)<;>try simp only [go_sem,seval,a5,a6,hw1])
   refine AC.call (hK' j4 b4 _ _ t A0 (by omega)) ?_;rintro v' H' c7 ⟨r5,j5,g5,l5,b5,rfl,rfl⟩ hc7;rw [A1];obtain ⟨x7,e7,m7,a7⟩:=C4 x6 r5 (by (try simp)<;>omega);try simp only [List.length_cons,List.length_nil] at m7
   simp only [go_sem,seval,a7,hw1];repeat' ((with_reducible apply wr)<;>try simp only [go_sem,seval,a7,hw1])
   exact ⟨_,_,GL.refl _ _,x7,j5,by rw [e7,e6,e5,e4,e3,e2,e1];exact .ifC g1 g2 g4 g5,by omega,b5,rfl,rfl⟩
  obtain rfl:q=0:=by omega
  simp only [go_sem,seval];repeat' ((with_reducible apply wr)<;>try simp only [go_sem,seval])
  exact ⟨_,_,GL.refl _ _,x3,j3,by rw [e3,e2,e1];exact .ifA g1 g2,by omega,b3,rfl,rfl⟩
 omega
def A0k (ss:List (List UInt8)):List UInt8:=ss.foldl (fun a x=>(a++[32])++x) [123]
theorem A3n (ss:List (List UInt8)) (x:List UInt8):A0k (ss++[x])=(A0k ss++[32])++x:=by unfold A0k;rw [List.foldl_append];rfl
def BkG (P:List UInt8->Prop) (s:List UInt8):Prop:=∃ ss:List (List UInt8),ss.length<=3/\(∀ x∈ss,P x)/\s=A0k ss++[32,125]
theorem m_block (L:List UInt8) (hL:L.length<=300) (w:Nat) (D:Int) (sb:Nat) (hsb:sb<=10000000) (P:List UInt8->Prop) (hS:MC 139 [I64 D] L w sb P) :
  MC 107 [I64 D] L w (3 * sb+10) (BkG P):=by
 intro i hi H cc t ht htc;refine AC.body A6 isU107 (Nat.le_of_ble_eq_true rfl) fun hfr=>?_;show IW Tryz.prog 21 u107_1 ⟨B1 _,_,_⟩ (rt [.tmp 4] _);repeat' ((with_reducible apply wr)<;>try simp only [go_sem,seval])
 refine AC.call (N9 L hL w 4 (by decide) (by decide) i hi _ _ t ht (by omega)) ?_;rintro v' H' c2 ⟨k,j,hlt,hj,rfl,rfl⟩ hc2;simp only [go_sem,seval];repeat' ((with_reducible apply wr)<;>try simp only [go_sem,seval])
 refine C1 (fun q:Nat × Nat × List (List UInt8)=>[(0,.ptr t 0),(1,I64 D),(5,.str (A0k q.2.2)),(6,I64 q.1)]) (fun q=>H.upd t (mkB L w q.2.1))
  (fun q c=>cc<=c/\q.1+q.2.2.length<=3/\q.2.1<=300/\(∀ x∈q.2.2,P x)/\(A0k q.2.2).length<=1+q.2.2.length * (sb+1)) (fun q=>q.1) (k,j,[])
  (by simp [B9,tm,Tm.upd,A0k]) (Sub.refl _) ⟨hc2,(by show k+0<=3;omega),hj,(fun x hx=>absurd hx (List.not_mem_nil)),(by show 1<=1+0 * _;omega)⟩ ?_
 rintro ⟨n,i2,ss⟩ c ⟨hc,hn,hi2,hP,hl⟩;dsimp only at hc hn hi2 hP hl ⊢;have hs3:ss.length * (sb+1)<=3 * (sb+1):=Nat.mul_le_mul_right _ (by omega);by_cases h0:0<n
 ·have qn:decide ((n:Int)>0)=true:=by simpa using h0
  have hs2:ss.length * (sb+1)<=2 * (sb+1):=Nat.mul_le_mul_right _ (by omega);obtain ⟨n,rfl⟩:∃ m,n=m+1:=⟨n-1,by omega⟩;have hw1:IntKind.i64.wrap (((n+1:Nat):Int)-1)=(n:Int):=by rw [w64 (by omega) (by omega)];omega
  generalize hn1:((n+1:Nat):Int)=N1 at qn hw1 ⊢;obtain ⟨x1,e1,m1,a1⟩:=C4 (A0k ss) [32] (by (try simp)<;>omega);try simp only [List.length_cons,List.length_nil] at m1
  repeat' ((with_reducible apply wr)<;>try simp only [go_sem,seval,qn,a1])
  refine AC.call (hS i2 hi2 _ _ t A0 (by omega)) ?_;rintro v' H' c3 ⟨r,i3,g,l,hi3,rfl,rfl⟩ hc3;obtain ⟨x2,e2,m2,a2⟩:=C4 x1 r (by omega);rw [A1];simp only [go_sem,seval,a1,a2,hw1];repeat' ((with_reducible apply wr)<;>try simp only [go_sem,seval,a1,a2,hw1])
  refine ⟨(n,i3,ss++[r]),?_,Sub.refl _,inv ⟨by omega,by simp;omega,hi3,?_,?_⟩,by simp only;omega⟩
  ·rw [e1] at e2;simp [B9,tm,Tm.upd,A3n,e2]
  ·intro x hx;rcases List.mem_append.1 hx with hx|hx
   ·exact hP x hx
   ·rw [List.mem_singleton.1 hx];exact g
  ·rw [A3n, <- e1, <- e2,List.length_append,List.length_singleton,Nat.add_mul];omega
 ·obtain rfl:n=0:=by omega
  obtain ⟨x1,e1,m1,a1⟩:=C4 (A0k ss) [32,125] (by (try simp)<;>omega);try simp only [List.length_cons,List.length_nil] at m1
  repeat' ((with_reducible apply wr)<;>try simp only [go_sem,seval,a1])
  exact ⟨_,_,GL.refl _ _,x1,i2,⟨ss,by omega,hP,e1⟩,by omega,hi2,rfl,rfl⟩
def StD (L:List UInt8) (w:Nat):Nat->List UInt8->Prop
 | 0=>StG L w fun _=>False
 | d+1=>StG L w (BkG (StD L w d))
def sbD:Nat->Nat
 | 0=>8000
 | d+1=>2 * (3 * sbD d+10)+8000
theorem m_stmt (L:List UInt8) (hL:L.length<=300) (w:Nat) (hw:w<=100):∀ d:Nat,d<=2->MC 139 [I64 d] L w (sbD d) (StD L w d)
 | 0,_=>c_Stmt L hL w hw 0 (by omega) (by omega) 0 (by omega) _ (.inl (by omega))
 | d+1,h=>by
  have hs:∀ d,d<=2->sbD d<=1000000:=by decide
  have h1:=m_stmt L hL w hw d (by omega);have h2:=m_block L hL w (d:Int) (sbD d) (by have:=hs d (by omega);omega) _ h1;have e:(((d+1:Nat):Int)-1)=(d:Int):=by omega
  refine c_Stmt L hL w hw ((d+1:Nat):Int) (by omega) (by omega) (3 * sbD d+10) (by have:=hs d (by omega);omega) _ (.inr ?_);rw [e];exact h2
theorem m_blk2 (L:List UInt8) (hL:L.length<=300) (w:Nat) (hw:w<=100):MC 107 [I64 2] L w 2000000 (BkG (StD L w 2)):=by
 intro i hi H cc t ht htc;refine (m_block L hL w ((2:Nat):Int) (sbD 2) (by decide) _ (m_stmt L hL w hw 2 (by omega)) i hi H cc t ht htc).mono ?_;rintro v H' c' ⟨s,j,h1,h2,h3⟩;exact ⟨s,j,h1,Nat.le_trans h2 (by decide),h3⟩
def trgL:List (List UInt8):=[[115,116,97,114,116],[115,116,111,112],[99,108,111,115,101,32,115,119,48],[111,112,101,110,32,115,119,48],[99,108,111,115,101,32,115,119,49],[99,108,111,115,101,32,115,119,50],[116,105,109,101,114,32,116,109,48],[116,105,109,101,114,32,116,109,49],[101,118,101,110,116,32,101,118,48],[101,118,101,110,116,32,101,118,49],[111,112,101,110,32,115,119,51]]
def trgV:List DV:=[.str [115,116,97,114,116],.str [115,116,111,112],.str [99,108,111,115,101,32,115,119,48],.str [111,112,101,110,32,115,119,48],.str [99,108,111,115,101,32,115,119,49],.str [99,108,111,115,101,32,115,119,50],.str [116,105,109,101,114,32,116,109,48],.str [116,105,109,101,114,32,116,109,49],.str [101,118,101,110,116,32,101,118,48],.str [101,118,101,110,116,32,101,118,49],.str [111,112,101,110,32,115,119,51]]
theorem trgV_get {k:Nat} (h:k<11):trgV[k]? = some (.str (trgL.getD k [])):=by
 match k,h with
 | 0,_=>rfl
 | 1,_=>rfl
 | 2,_=>rfl
 | 3,_=>rfl
 | 4,_=>rfl
 | 5,_=>rfl
 | 6,_=>rfl
 | 7,_=>rfl
 | 8,_=>rfl
 | 9,_=>rfl
 | 10,_=>rfl
inductive HdG (L:List UInt8) (w k:Nat):List UInt8->Prop where
 | std {x:List UInt8}:BkG (StD L w 2) x->HdG L w k ((([111,110,32]++trgL.getD (k % 11) [])++[32])++x)
 | wild {n x:List UInt8}:0<w->NmS L w [115,119] 4 n->BkG (StD L w 2) x->HdG L w k ((([111,110,32]++([99,108,111,115,101,32]++n))++[32])++x)
theorem m_handler (L:List UInt8) (hL:L.length<=300) (w:Nat) (hw:w<=100) (k:Nat) (hk:k<=1000):MC 69 [I64 k] L w 2001000 (HdG L w k):=by
 intro i hi H cc t ht htc;refine AC.body A6 isU69 (Nat.le_of_ble_eq_true rfl) fun hfr=>?_;show IW Tryz.prog 34 u69_1 ⟨B1 _,_,_⟩ (rt [.tmp 4] _);have hrm:binR .rem (I64 (k:Int)) (.int .i64 11)=some (I64 ((k % 11:Nat):Int)):=by rw [A1q (by decide)];rfl
 repeat' ((with_reducible apply wr)<;>try simp only [go_sem,seval,hrm])
 have hm11:=Nat.mod_lt k (show 0<11 by decide);have hld:=trgV_get hm11;have hg:=J5 (l:=trgL) (n:=10) (by decide) (k % 11);have hcon:∀ x,BkG (StD L w 2) x->HdG L w k ((([111,110,32]++trgL.getD (k % 11) [])++[32])++x):=fun x hx=>.std hx;generalize k % 11=m at hm11 hld hg hcon ⊢;generalize trgL.getD m []=tr at hld hg hcon ⊢;have hia:M2 1 (.slc cc 0 11) (I64 (m:Int))=some (.ptr cc m):=by simp [M2];omega
 rw [show ([.str [115,116,97,114,116],.str [115,116,111,112],.str [99,108,111,115,101,32,115,119,48],.str [111,112,101,110,32,115,119,48],.str [99,108,111,115,101,32,115,119,49],.str [99,108,111,115,101,32,115,119,50],.str [116,105,109,101,114,32,116,109,48],.str [116,105,109,101,114,32,116,109,49],.str [101,118,101,110,116,32,101,118,48],.str [101,118,101,110,116,32,101,118,49],.str [111,112,101,110,32,115,119,51]]:List DV)=trgV from rfl];generalize trgV=WL at hld ⊢;have ne0:=M1 t cc (by omega);have kB:∀ (i2 c0:Nat) (tx:List UInt8),i2<=300->cc+1<=c0->tx.length<=300->(∀ x,BkG (StD L w 2) x->HdG L w k ((([111,110,32]++tx)++[32])++x)) ->
   IW Tryz.prog 34 u69_7 ⟨tm [(0,.ptr t 0),(5,.str tx)],(H.upd cc ⟨1,true,WL⟩).upd t (mkB L w i2),c0⟩ (rt [.tmp 4] fun v H' c' => ∃ v2 H2,GL H' [v] H2 [v2]/\∃ s j,HdG L w k s/\s.length<=2001000/\j<=300/\v2=.str s/\H2=H.upd t (mkB L w j)):=by
  intro i2 c0 tx hi2 hc0 htx hx;obtain ⟨x1,e1,m1,a1⟩:=C4 [111,110,32] tx (by (try simp)<;>omega);try simp only [List.length_cons,List.length_nil] at m1
  obtain ⟨x2,e2,m2,a2⟩:=C4 x1 [32] (by (try simp)<;>omega);try simp only [List.length_cons,List.length_nil] at m2
  repeat' ((with_reducible apply wr)<;>try simp only [go_sem,seval,a1,a2])
  refine AC.call (m_blk2 L hL w hw i2 hi2 _ _ t A0 (by omega)) ?_;rintro v' H' c3 ⟨r,j,g,l,b,rfl,rfl⟩ hc3;obtain ⟨x3,e3,m3,a3⟩:=C4 x2 r (by omega);rw [A1];simp only [go_sem,seval,a3];repeat' ((with_reducible apply wr)<;>try simp only [go_sem,seval,a3])
  refine ⟨_,_,GL.less' (fun j2 q hj=>?_),x3,j,by rw [e3,e2,e1];exact hx r g,by omega,b,rfl,rfl⟩;by_cases e:j2=t
  ·subst e;rw [A0] at hj ⊢;exact hj
  ·rw [A2 e] at hj ⊢;have:j2≠cc:=by rintro rfl;rw [hfr _ (by omega)] at hj;cases hj
   rw [A2 this];exact hj
 simp only [go_sem,seval,ne0,hia,hld,A0,ht];by_cases h0:0<w
 ·have q0:decide ((w:Int)>0)=true:=by simpa using h0
  repeat' ((with_reducible apply wr)<;>try simp only [go_sem,seval,ne0,hia,hld,A0,ht,q0])
  refine AC.call (N9 L hL w w h0 (by omega) i hi _ _ t (by rw [A2 (by omega)];exact ht) (by omega)) ?_;rintro v' H' c2 ⟨q,j,hq,hj,rfl,rfl⟩ hc2;by_cases q1:q=1
  ·subst q1;simp only [go_sem,seval];repeat' ((with_reducible apply wr)<;>try simp only [go_sem,seval])
   refine AC.call (I5 L hL w hw [115,119] (by decide) 4 (by decide) (by decide) j hj _ _ t A0 (by omega)) ?_;rintro v' H' c3 ⟨r,j2,g,l,b,rfl,rfl⟩ hc3;obtain ⟨x1,e1,m1,a1⟩:=C4 [99,108,111,115,101,32] r (by (try simp)<;>omega);try simp only [List.length_cons,List.length_nil] at m1
   rw [A1];simp only [go_sem,seval,a1];repeat' ((with_reducible first|refine F8 (p:=IW _ _ u69_7 _ _) ?_|refine wr ?_|fail)<;>try simp only [go_sem,seval,a1])
   exact IW.stage (by simp [B9,tm,Tm.upd]) (kB j2 _ x1 b (by omega) (by omega) (fun x hx=>by rw [e1];exact .wild h0 g hx))
  ·have qq:((q:Int) == 1)=false:=by simp;omega
   simp only [go_sem,seval,qq];repeat' ((with_reducible first|refine F8 (p:=IW _ _ u69_7 _ _) ?_|refine wr ?_|fail)<;>try simp only [go_sem,seval,qq])
   exact IW.stage (by simp [B9,tm,Tm.upd]) (kB j _ tr hj (by omega) (by omega) hcon)
 ·have q0:decide ((w:Int)>0)=false:=by simpa using h0
  repeat' ((with_reducible first|refine F8 (p:=IW _ _ u69_7 _ _) ?_|refine wr ?_|fail)<;>try simp only [go_sem,seval,ne0,hia,hld,A0,ht,q0])
  have:=kB i (cc+1) tr hi (Nat.le_refl _) (by omega) hcon;rw [upd_same (by rw [A2 (by omega)];exact ht)] at this;exact IW.stage (by simp [B9,tm,Tm.upd]) this
def ruA:List UInt8:=[115,119,105,116,99,104,32,115,119,48,32,51,59,32,115,119,105,116,99,104,32,115,119,49,32,57,59,32,115,119,105,116,99,104,32,115,119,50,32,52,48,59,32,115,119,105,116,99,104,32,115,119,51,32,54,51,59,10,99,111,105,108,32,99,111,105,108,48,32,48,59,32,99,111,105,108,32,99,111,105,108,49,32,55,59,32,99,111,105,108,32,99,111,105,108,50,32,51,49,59,10,108,97,109,112,32,108,97,109,112,48,32,48,59,32,108,97,109,112,32,108,97,109,112,49,32,57,59,32,108,97,109,112,32,108,97,109,112,50,32,51,51,59,32,108,97,109,112,32,108,97,109,112,51,32,54,51,59,10,115,111,117,110,100,32,115,110,100,48,32,48,59,32,115,111,117,110,100,32,115,110,100,49,32,53,59,32,115,104,111,119,32,115,104,111,119,48,32,48,59,32,115,104,111,119,32,115,104,111,119,49,32,49,59,10]
def ruB:List UInt8:=[118,97,114,32,118,48,32]
def ruC:List UInt8:=[59,32,118,97,114,32,118,49,32,49,59,32,118,97,114,32,118,50,32,48,59,32,116,105,109,101,114,32,116,109,48,59,32,116,105,109,101,114,32,116,109,49,59,32,101,118,101,110,116,32,101,118,48,59,32,101,118,101,110,116,32,101,118,49,59,10]
def v0L:List (List UInt8):=[[48],[53],[45,55],[50,49,52,55,52,56,51,54,52,55]]
def v0V:List DV:=[.str [48],.str [53],.str [45,55],.str [50,49,52,55,52,56,51,54,52,55]]
theorem v0V_get {k:Nat} (h:k<4):v0V[k]? = some (.str (v0L.getD k [])):=by
 match k,h with
 | 0,_=>rfl
 | 1,_=>rfl
 | 2,_=>rfl
 | 3,_=>rfl
def V9 (s:List UInt8) (hs:List (List UInt8)):List UInt8:=hs.foldl (fun a x=>(a++x)++[10]) s
theorem foldH_snoc (s:List UInt8) (hs:List (List UInt8)) (x:List UInt8):V9 s (hs++[x])=(V9 s hs++x)++[10]:=by unfold V9;rw [List.foldl_append];rfl
def mdHead (s:List UInt8) (i p:Nat):List UInt8:=((((s++[109,111,100,101,32,109,111,100,101])++N4 (i:Int))++[32])++N4 (p:Int))++[32,123,10]
inductive RuP (L:List UInt8) (w:Nat):Nat->List UInt8->Prop where
 | head {k:Nat}:k<4->RuP L w 0 (((ruA++ruB)++v0L.getD k [])++ruC)
 | mode {i p k:Nat} {s:List UInt8} {hs:List (List UInt8)}:RuP L w i s->p<4->k<11->hs.length<=4->(∀ j x,hs[j]? = some x->HdG L w (k+j) x)->RuP L w (i+1) (V9 (mdHead s i p) hs++[125,10])
theorem m_rules (L:List UInt8) (hL:L.length<=300) (w:Nat) (hw:w<=100):MC 35 [] L w 30000000 (RuP L w 3):=by
 intro i hi H cc t ht htc;refine AC.body A6 isU35 (Nat.le_of_ble_eq_true rfl) fun hfr=>?_;show IW Tryz.prog 50 u35_1 ⟨B1 _,_,_⟩ (rt [.tmp 2] _);obtain ⟨x1,e1,m1,a1⟩:=C4 ruA ruB (by decide);have l1:x1.length<=300:=by rw [m1];decide
 replace a1:binR .add (.str [115,119,105,116,99,104,32,115,119,48,32,51,59,32,115,119,105,116,99,104,32,115,119,49,32,57,59,32,115,119,105,116,99,104,32,115,119,50,32,52,48,59,32,115,119,105,116,99,104,32,115,119,51,32,54,51,59,10,99,111,105,108,32,99,111,105,108,48,32,48,59,32,99,111,105,108,32,99,111,105,108,49,32,55,59,32,99,111,105,108,32,99,111,105,108,50,32,51,49,59,10,108,97,109,112,32,108,97,109,112,48,32,48,59,32,108,97,109,112,32,108,97,109,112,49,32,57,59,32,108,97,109,112,32,108,97,109,112,50,32,51,51,59,32,108,97,109,112,32,108,97,109,112,51,32,54,51,59,10,115,111,117,110,100,32,115,110,100,48,32,48,59,32,115,111,117,110,100,32,115,110,100,49,32,53,59,32,115,104,111,119,32,115,104,111,119,48,32,48,59,32,115,104,111,119,32,115,104,111,119,49,32,49,59,10]) (.str [118,97,114,32,118,48,32])=some (.str x1):=a1;dsimp only at a1;repeat' ((with_reducible apply wr)<;>try simp only [go_sem,seval,a1])
 refine AC.call (N9 L hL w 4 (by decide) (by decide) i hi _ _ t (by rw [A2 (by omega)];exact ht) (by omega)) ?_;rintro v' H' c3 ⟨k3,j1,hlt3,b1,rfl,rfl⟩ hc3;have hia:M2 1 (.slc (cc) 0 4) (I64 (k3:Int))=some (.ptr (cc) k3):=by simp [M2];omega
 have hld:=v0V_get hlt3;have hg:=J5 (l:=v0L) (n:=10) (by decide) k3;have hcon:RuP L w 0 (((ruA++ruB)++v0L.getD k3 [])++ruC):=.head hlt3;generalize hog:v0L.getD k3 []=og at hg hld hcon;generalize hWL:v0V=WL at hld;have hWL2:[.str [48],.str [53],.str [45,55],.str [50,49,52,55,52,56,51,54,52,55]]=WL:=hWL;have ne0:=M1 t cc (by omega);obtain ⟨x2,e2,m2,a2⟩:=C4 x1 og (by omega);have l2:ruC.length<=100:=by decide
 obtain ⟨x3,e3,m3,a3⟩:=C4 x2 ruC (by omega);replace a3:binR .add (.str x2) (.str [59,32,118,97,114,32,118,49,32,49,59,32,118,97,114,32,118,50,32,48,59,32,116,105,109,101,114,32,116,109,48,59,32,116,105,109,101,114,32,116,109,49,59,32,101,118,101,110,116,32,101,118,48,59,32,101,118,101,110,116,32,101,118,49,59,10])=some (.str x3):=a3;dsimp only at a3;simp only [go_sem,seval,A0,A1,ne0,hia,hWL2,hld,a1,a2,a3];have hfin:∀ (B:Blk) ds,GL ((H.upd cc ⟨1,true,WL⟩).upd t B) ds (H.upd t B) ds:=fun B ds=>GL.less' (fun j2 q hj=>by
  by_cases e:j2=t
  ·subst e;rw [A0] at hj ⊢;exact hj
  ·rw [A2 e] at hj ⊢;have:j2≠cc:=by rintro rfl;rw [hfr _ (by omega)] at hj;cases hj
   rw [A2 this];exact hj)
 generalize H.upd cc ⟨1,true,WL⟩=G at hfin ⊢;have hx3:RuP L w 0 x3:=by rw [e3,e2,e1];exact hcon
 have l3:x3.length<=500:=by omega
 clear hcon e1 e2 e3 a1 a2 a3 hld hWL hWL2 hia;repeat' ((with_reducible apply wr)<;>try simp only [go_sem,seval])
 refine C1 (fun q:Nat × Nat × List UInt8=>[(0,.ptr t 0),(3,.str q.2.2),(4,I64 q.1)]) (fun q=>G.upd t (mkB L w q.2.1))
  (fun q c=>cc<=c/\q.1<=3/\q.2.1<=300/\RuP L w q.1 q.2.2/\q.2.2.length<=500+q.1 * 8100000) (fun q=>3-q.1) (0,j1,x3)
  (by simp [B9,tm,Tm.upd]) (Sub.refl _) ⟨(by omega),(by omega),b1,hx3,(by show x3.length<=500+0 * _;omega)⟩ ?_
 rintro ⟨i,j,s⟩ c ⟨hc,hi3,hj,hR,hl⟩;dsimp only at hc hi3 hj hR hl ⊢;have hl3:s.length<=25000000:=by have:i * 8100000<=3 * 8100000:=Nat.mul_le_mul_right _ hi3;omega
 by_cases h3:i<3
 ·have qi:decide ((i:Int)<3)=true:=by simp;omega
  have hdi:=c_Dec' (i:Int) (by omega) (by omega);have hdil:=N3 (n:=(i:Int)) (by omega) (by omega);obtain ⟨y1,f1,n1,c1⟩:=C4 s [109,111,100,101,32,109,111,100,101] (by (try simp)<;>omega);try simp only [List.length_cons,List.length_nil] at n1
  obtain ⟨y2,f2,n2,c2⟩:=C4 y1 (N4 (i:Int)) (by omega);obtain ⟨y3,f3,n3,c3⟩:=C4 y2 [32] (by (try simp)<;>omega);try simp only [List.length_cons,List.length_nil] at n3
  repeat' ((with_reducible first|apply wr|refine cpc hdi ?_|fail)<;>try simp only [go_sem,seval,qi,c1,c2,c3])
  refine AC.call (N9 L hL w 4 (by decide) (by decide) j hj _ _ t A0 (by omega)) ?_;rintro v' H' c4 ⟨p,j2,hp,b2,rfl,rfl⟩ hc4;rw [A1];have hdp:=c_Dec' (p:Int) (by omega) (by omega);have hdpl:=N3 (n:=(p:Int)) (by omega) (by omega);obtain ⟨y4,f4,n4,c5⟩:=C4 y3 (N4 (p:Int)) (by omega);obtain ⟨y5,f5,n5,c6⟩:=C4 y4 [32,123,10] (by (try simp)<;>omega);try simp only [List.length_cons,List.length_nil] at n5
  simp only [go_sem,seval,c5,c6];repeat' ((with_reducible first|apply wr|refine cpc hdp ?_|fail)<;>try simp only [go_sem,seval,c5,c6])
  refine AC.call (N9 L hL w 11 (by decide) (by decide) j2 b2 _ _ t A0 (by omega)) ?_;rintro v' H' c7 ⟨k,j3,hk,b3,rfl,rfl⟩ hc7;rw [A1];simp only [go_sem,seval];repeat' ((with_reducible apply wr)<;>try simp only [go_sem,seval])
  refine AC.call (N9 L hL w 5 (by decide) (by decide) j3 b3 _ _ t A0 (by omega)) ?_;rintro v' H' c8 ⟨n,j4,hn,b4,rfl,rfl⟩ hc8;rw [A1];simp only [go_sem,seval];repeat' ((with_reducible apply wr)<;>try simp only [go_sem,seval])
  have hy:y5=mdHead s i p:=by rw [f5,f4,f3,f2,f1];rfl
  have ly:y5.length<=s.length+200:=by omega
  refine C1 (fun q:Nat × Nat × List (List UInt8)=>[(0,.ptr t 0),(3,.str (V9 y5 q.2.2)),(4,I64 i),(5,I64 (k+q.2.2.length:Nat)),(6,I64 q.1)]) (fun q=>G.upd t (mkB L w q.2.1))
   (fun q n=>cc<=n/\q.1+q.2.2.length<=4/\q.2.1<=300/\(∀ j x,q.2.2[j]? = some x->HdG L w (k+j) x)/\(V9 y5 q.2.2).length<=y5.length+q.2.2.length * 2001001) (fun q=>q.1) (n,j4,[])
   (by simp [B9,tm,Tm.upd,V9]) (Sub.refl _) ⟨(by omega),(by show n+0<=4;omega),b4,(fun j x h=>by cases h),(by show y5.length<=y5.length+0 * _;omega)⟩ ?_
  clear hc8 b4 hn n j4 c8;rintro ⟨n,j5,hs⟩ c8 ⟨hc8,hn,b5,hH,lh⟩;dsimp only at hc8 hn b5 hH lh ⊢;have hs4:hs.length * 2001001<=4 * 2001001:=Nat.mul_le_mul_right _ (by omega);by_cases h0:0<n
  ·have qn:decide ((n:Int)>0)=true:=by simpa using h0
   have hs3:hs.length * 2001001<=3 * 2001001:=Nat.mul_le_mul_right _ (by omega);obtain ⟨n,rfl⟩:∃ m,n=m+1:=⟨n-1,by omega⟩;have hw1:IntKind.i64.wrap (((n+1:Nat):Int)-1)=(n:Int):=by rw [w64 (by omega) (by omega)];omega
   have hw2:IntKind.i64.wrap (((k+hs.length:Nat):Int)+1)=((k+hs.length+1:Nat):Int):=by rw [w64 (by omega) (by omega)];omega
   generalize hn1:((n+1:Nat):Int)=N1 at qn hw1 ⊢;generalize hk1:k+hs.length=K1 at hw2 ⊢;repeat' ((with_reducible apply wr)<;>try simp only [go_sem,seval,qn])
   refine AC.call (m_handler L hL w hw K1 (by omega) j5 b5 _ _ t A0 (by omega)) ?_;rintro v' H' c9 ⟨r,j6,g,l,b6,rfl,rfl⟩ hc9;obtain ⟨z1,g1,o1,d1⟩:=C4 (V9 y5 hs) r (by omega);obtain ⟨z2,g2,o2,d2⟩:=C4 z1 [10] (by (try simp)<;>omega);try simp only [List.length_cons,List.length_nil] at o2
   rw [A1];simp only [go_sem,seval,d1,d2,hw1,hw2];repeat' ((with_reducible apply wr)<;>try simp only [go_sem,seval,d1,d2,hw1,hw2])
   have e1:V9 y5 (hs++[r])=z2:=by rw [foldH_snoc,g2,g1]
   have e2:(hs++[r]).length=hs.length+1:=by simp
   refine ⟨(n,j6,hs++[r]),?_,Sub.refl _,inv ⟨(by omega),(by show n+(hs++[r]).length<=4;omega),b6,(fun j x hx=>?_),(by show (V9 y5 (hs++[r])).length<=y5.length+(hs++[r]).length * 2001001;rw [e1,e2,Nat.add_mul];omega)⟩,(by simp only;omega)⟩
   ·simp only [e1,e2];simp [B9,tm,Tm.upd];omega
   ·by_cases hj2:j<hs.length
    ·rw [List.getElem?_append_left hj2] at hx;exact hH j x hx
    ·rw [List.getElem?_append_right (by omega)] at hx;have hj3:j-hs.length=0:=by
      have:=(List.getElem?_eq_some_iff.1 hx).1;simp at this;omega
     rw [hj3] at hx;cases hx;obtain rfl:j=hs.length:=by omega
     rw [hk1];exact g
  ·obtain rfl:n=0:=by omega
   obtain ⟨z1,g1,o1,d1⟩:=C4 (V9 y5 hs) [125,10] (by (try simp)<;>omega);try simp only [List.length_cons,List.length_nil] at o1
   have hw2:IntKind.i64.wrap ((i:Int)+1)=((i+1:Nat):Int):=by rw [w64 (by omega) (by omega)];omega
   repeat' ((with_reducible apply wr)<;>try simp only [go_sem,seval,d1,hw2])
   refine ⟨(i+1,j5,z1),(by simp [B9,tm,Tm.upd]),Sub.refl _,inv ⟨(by omega),(by omega),b5,(by show RuP L w (i+1) z1;rw [g1,hy];exact .mode hR hp hk (by omega) hH),(by show z1.length<=500+(i+1) * 8100000;rw [Nat.add_mul];omega)⟩,(by simp only;omega)⟩
 ·obtain rfl:i=3:=by omega
  repeat' ((with_reducible apply wr)<;>try simp only [go_sem,seval])
  exact ⟨_,_,hfin _ _,s,j,hR,by omega,hj,rfl,rfl⟩
theorem c_New (l:List UInt8) (hl:l.length<=9223372036854775807) (H:Hp) (cc:Nat) :
  AC Tryz.prog 22 [.lst (bytesC l)] H cc (fun v H' c' => ∃ t,cc<=t/\t<c'/\v=.ptr t 0/\H'=H.upd t (mkB (l.take 300) 0 0)):=by
 refine AC.body A6 isU22 (Nat.le_of_ble_eq_true rfl) fun hfr=>?_;show IW Tryz.prog 10 u22_1 ⟨B1 _,_,_⟩ (rt [.tmp 2] _);have hlen:(bytesC l).length=l.length:=by simp [bytesC]
 have hmin:(if (300:Int)<((l.length:Nat):Int) then (300:Int) else ((l.length:Nat):Int))=((min l.length 300:Nat):Int):=by split<;>omega
 have hsl:A0t H 1 (.lst (bytesC l)) none (some (I64 ((min l.length 300:Nat):Int)))=some (.lst (bytesC (l.take 300))):=by
  have hb:boundOf (bytesC l).length (some (I64 ((min l.length 300:Nat):Int)))=some (min l.length 300):=by simp [boundOf]
  have hu:Sym.unit 1 (bytesC l)=true:=by simp only [Sym.unit,bytesC,List.all_map];exact List.all_eq_true.2 fun x _=>rfl
  simp only [A0t,hb];have h0:boundOf 0 none=some 0:=rfl;rw [h0];dsimp only;rw [if_pos ⟨by rw [hlen];omega,Nat.zero_le _,hu⟩];rw [List.drop_zero,Nat.sub_zero];unfold bytesC;rw [<- List.map_take];have e:l.take (min l.length 300)=l.take 300:=by
   rcases Nat.le_total l.length 300 with h|h
   ·rw [Nat.min_eq_left h,List.take_of_length_le (Nat.le_refl _),List.take_of_length_le h]
   ·rw [Nat.min_eq_right h]
  rw [e]
 repeat' ((with_reducible apply wr)<;>try simp only [go_sem,seval,hlen,hmin,hsl])
 exact ⟨_,_,GL.refl _ _,cc,Nat.le_refl _,Nat.lt_succ_self _,rfl,rfl⟩
theorem c_Made (l:List UInt8) (hl:l.length<=9223372036854775807) (u:UInt8) (H:Hp) (cc:Nat) :
  AC Tryz.prog 13 [.lst (bytesC l),.int .u8 (u.toNat:Int)] H cc (fun v H' c' => ∃ s,RuP (l.take 300) (u.toNat % 20) 3 s/\v=(O7 s).1.v/\H'=H):=by
 refine AC.body A6 isU13 (Nat.le_of_ble_eq_true rfl) fun hfr=>?_;show IW Tryz.prog 25 u13_1 ⟨B1 _,_,_⟩ (rt [.cell 4 2 true] _);have hb:=u.toNat_lt;have h300:(l.take 300).length<=300:=by rw [List.length_take];omega
 repeat' ((with_reducible apply wr)<;>try simp only [go_sem,seval])
 refine AC.call (c_New l hl _ _) ?_;rintro v' H' c2 ⟨t,ht1,ht2,rfl,rfl⟩ hc2;have hrm:binR .rem (.int .u8 (u.toNat:Int)) (.int .u8 20)=some (.int .u8 ((u.toNat % 20:Nat):Int)):=by rw [A1q (by decide)];rfl
 have hw1:IntKind.i64.wrap ((u.toNat % 20:Nat):Int)=((u.toNat % 20:Nat):Int):=w64 (by omega) (by omega);simp only [go_sem,seval,A0,A1];repeat' ((with_reducible apply wr)<;>try simp only [go_sem,seval,A0,A1,hrm,hw1])
 refine AC.call (m_rules (l.take 300) h300 (u.toNat % 20) (by omega) 0 (by omega) _ _ t A0 (by omega)) ?_;rintro v' H' c3 ⟨s,j,g,ls,b,rfl,rfl⟩ hc3;have hp:=c_Parse s (by omega);have hpv:parV (O7 s)=.tup [(O7 s).1.v,I64 (O7 s).2.1,I64 (O7 s).2.2]:=rfl;rw [hpv] at hp;generalize hr:(O7 s).1=r at hp;generalize (O7 s).2.1=r1 at hp;generalize (O7 s).2.2=r2 at hp;have hrv:r.v=.agg [C3 r.decls,D3 r.modes]:=rfl;rw [hrv] at hp;rw [A1];have ne0:=O9 cc t c3 (by omega);simp only [go_sem,seval,ne0,A0,A1];repeat' ((with_reducible first|apply wr|refine cpc hp ?_|fail)<;>try simp only [go_sem,seval,ne0,A0,A1])
 rw [D1 (rv2 rfl A0)];refine ⟨_,_,GL.less' (fun j2 q hj=>?_),s,g,by rw [hr],rfl⟩;have hj2:j2<cc:=Classical.byContradiction fun h=>by rw [hfr _ (by omega)] at hj;cases hj
 dsimp only;rw [A2 (by omega),A2 (by omega),A2 (by omega),A2 (by omega)];exact hj
theorem bytes_nl (l:List UInt8):DV.nlL (bytesC l)=true:=I8 (fun _=>rfl) l
end Go.Proofs.YtnmkkggfgdfmeaaGreatDoor
set_option linter.unusedSectionVars false
namespace Go.Pb
variable [Go.Sym.Tab]
open Go.Sym
theorem A2i {α : Type} [DecidableEq α] {l:List α} {x : α}:(l++[x]).Nodup↔l.Nodup/\x ∉ l:=by
 rw [List.nodup_append];constructor
 ·rintro ⟨h1, -,h2⟩;exact ⟨h1,fun hx=>h2 x hx x (List.mem_singleton.2 rfl) rfl⟩
 ·rintro ⟨h1,h2⟩;exact ⟨h1,by simp,fun a ha b hb e=>by rw [List.mem_singleton.1 hb] at e;exact h2 (e▸ha)⟩
theorem any_name {D:List Dc} {n:List UInt8}:D.any (fun d=>d.name == n)=false↔n ∉ D.map Dc.name:=by
 rw [List.any_eq_false];constructor
 ·intro h hm;obtain ⟨d,hd,rfl⟩:=List.mem_map.1 hm;exact h d hd (by simp)
 ·intro h d hd he;exact h (List.mem_map.2 ⟨d,hd,by simpa using he⟩)
theorem any_nameM {D:List Md} {n:List UInt8}:D.any (fun d=>d.name == n)=false↔n ∉ D.map Md.name:=by
 rw [List.any_eq_false];constructor
 ·intro h hm;obtain ⟨d,hd,rfl⟩:=List.mem_map.1 hm;exact h d hd (by simp)
 ·intro h d hd he;exact h (List.mem_map.2 ⟨d,hd,by simpa using he⟩)
theorem P2.app {a b:List Dc}:P2 (a++b)↔P2 a/\P2 b :=
 ⟨fun h=>⟨fun d hd=>h d (List.mem_append_left _ hd),fun d hd=>h d (List.mem_append_right _ hd)⟩,fun h d hd=>(List.mem_append.1 hd).elim (h.1 d) (h.2 d)⟩
theorem if_none {b:Prop} [Decidable b] {q:Int × Int}:((if b then some q else none):Er)=none↔¬b:=by
 split<;>simp [*]
theorem if_none2 {b:Prop} [Decidable b] {q:Int × Int}:((if b then none else some q):Er)=none↔b:=by
 split<;>simp [*]
theorem erD_none:∀ (D pre:List Dc),P2 (pre++D)->(pre.map Dc.name).Nodup->(erD pre D=none↔(∀ d∈D,¬ d.value>mstM d.kind)/\((pre++D).map Dc.name).Nodup)
 | [],pre,hk,hn=>by rw [erD,List.append_nil];exact ⟨fun _=>⟨fun d hd=>(by cases hd),hn⟩,fun _=>rfl⟩
 | d :: l,pre,hk,hn=>by
  have hk':P2 ((pre++[d])++l):=by rw [List.append_assoc];exact hk
  have hkp:P2 pre:=(P2.app.1 hk).1;have hl:=A2l pre [] d.name hkp;rw [any_name] at hl;rw [erD,Option.or_eq_none_iff,Option.or_eq_none_iff,if_none,if_none2,hl];have e:pre++d :: l=(pre++[d])++l:=by simp
  by_cases hm:d.name∈pre.map Dc.name
  ·constructor
   ·rintro ⟨⟨-,h, -⟩, -⟩;exact absurd hm h
   ·rintro ⟨-,h⟩;rw [e,List.map_append,List.map_append] at h;exact absurd hm (A2i.1 (List.nodup_append.1 h).1).2
  ·have hn':((pre++[d]).map Dc.name).Nodup:=by rw [List.map_append];exact A2i.2 ⟨hn,hm⟩
   rw [erD_none l (pre++[d]) hk' hn',e];constructor
   ·rintro ⟨⟨h1, -⟩,h2,h3⟩;exact ⟨fun x hx=>(List.mem_cons.1 hx).elim (fun h=>h▸h1) (h2 x),h3⟩
   ·rintro ⟨h1,h2⟩;exact ⟨⟨h1 d List.mem_cons_self,hm,by simp⟩,fun x hx=>h1 x (List.mem_cons_of_mem _ hx),h2⟩
theorem A3q {D:List Dc} (hk:P2 D):∀ (M pre:List Md),(D.map Dc.name++pre.map Md.name).Nodup->(erP D pre M=none↔(∀ m∈M,¬ m.prio>99)/\(D.map Dc.name++(pre++M).map Md.name).Nodup)
 | [],pre,hn=>by rw [erP,List.append_nil];exact ⟨fun _=>⟨fun d hd=>(by cases hd),hn⟩,fun _=>rfl⟩
 | m :: l,pre,hn=>by
  have hl:=A2l D pre m.name hk;rw [any_name,any_nameM] at hl;rw [erP,Option.or_eq_none_iff,Option.or_eq_none_iff,if_none,if_none2,hl];have e:pre++m :: l=(pre++[m])++l:=by simp
  have e2:D.map Dc.name++(pre++[m]).map Md.name=(D.map Dc.name++pre.map Md.name)++[m.name]:=by simp
  by_cases hm:m.name∈D.map Dc.name++pre.map Md.name
  ·constructor
   ·rintro ⟨⟨-,h1,h2⟩, -⟩;exact absurd hm (by rw [List.mem_append];exact fun h=>h.elim h1 h2)
   ·rintro ⟨-,h⟩;rw [e,List.map_append, <- List.append_assoc,e2] at h;exact absurd hm (A2i.1 (List.nodup_append.1 h).1).2
  ·have hn':(D.map Dc.name++(pre++[m]).map Md.name).Nodup:=by rw [e2];exact A2i.2 ⟨hn,hm⟩
   rw [A3q hk l (pre++[m]) hn',e];rw [List.mem_append,not_or] at hm;constructor
   ·rintro ⟨⟨h1, -⟩,h2,h3⟩;exact ⟨fun x hx=>(List.mem_cons.1 hx).elim (fun h=>h▸h1) (h2 x),h3⟩
   ·rintro ⟨h1,h2⟩;exact ⟨⟨h1 m List.mem_cons_self,hm⟩,fun x hx=>h1 x (List.mem_cons_of_mem _ hx),h2⟩
def hdOk (D:List Dc) (M:List Md):Prop:=(∀ d∈D,¬ d.value>mstM d.kind)/\(∀ m∈M,¬ m.prio>99)/\(D.map Dc.name++M.map Md.name).Nodup
theorem hea_none {D:List Dc} {M:List Md} (hk:P2 D):heaE ⟨D,M⟩=none↔hdOk D M:=by
 unfold heaE hdOk;rw [Option.or_eq_none_iff,erD_none D [] hk List.nodup_nil];show (_/\(D.map Dc.name).Nodup)/\erP D [] M=none↔_;constructor
 ·rintro ⟨⟨h1,h2⟩,h3⟩;obtain ⟨h4,h5⟩:=(A3q hk M [] (by simpa using h2)).1 h3;exact ⟨h1,h4,h5⟩
 ·rintro ⟨h1,h4,h5⟩;have h2:(D.map Dc.name).Nodup:=(List.nodup_append.1 h5).1;exact ⟨⟨h1,h2⟩,(A3q hk M [] (by simpa using h2)).2 ⟨h4,h5⟩⟩
theorem lkD_kind (n:List UInt8):∀ (D pre:List Dc),(lkD pre D n).map (·.1)=(D.find? fun d=>d.name == n).map Dc.kind
 | [],pre=>rfl
 | d :: l,pre=>by
  rw [lkD,List.find?_cons];by_cases h:d.name=n
  ·rw [if_pos h,h];simp
  ·have hb:(d.name == n)=false:=by simpa using h
   rw [if_neg h,lkD_kind n l];simp only [hb]
theorem lkM_kind (n:List UInt8):∀ (M:List Md) (i:Nat),(lkM i M n).map (·.1)=if M.any (fun m=>m.name == n)=true then some 9 else none
 | [],i=>rfl
 | m :: l,i=>by
  rw [lkM,List.any_cons];by_cases h:m.name=n
  ·rw [if_pos h,h];simp
  ·rw [if_neg h,lkM_kind n l];simp [h]
theorem lok_kind (D:List Dc) (M:List Md) (n:List UInt8):(O0 ⟨D,M⟩ n).1=(((D.find? fun d=>d.name == n).map Dc.kind).or (if M.any (fun m=>m.name == n)=true then some 9 else none)).getD 0:=by
 rw [A1e, <- lkD_kind n D [], <- lkM_kind n M 0, <- Option.map_or];show (((lkD [] D n).or (lkM 0 M n)).getD (0,0)).1=_;cases (lkD [] D n).or (lkM 0 M n)<;>rfl
theorem nd_inj {D:List Dc} (h:(D.map Dc.name).Nodup):∀ {a b:Dc},a∈D->b∈D->a.name=b.name->a=b:=by
 induction D with
 | nil=>intro a b ha;cases ha
 | cons d l ih =>
  rw [List.map_cons,List.nodup_cons] at h;intro a b ha hb e;rcases List.mem_cons.1 ha with h1|h1
  ·rcases List.mem_cons.1 hb with h2|h2
   ·rw [h1,h2]
   ·exact absurd (List.mem_map.2 ⟨b,h2,by rw [<- e,h1]⟩) h.1
  ·rcases List.mem_cons.1 hb with h2|h2
   ·exact absurd (List.mem_map.2 ⟨a,h1,by rw [e,h2]⟩) h.1
   ·exact ih h.2 h1 h2 e
theorem find_of {D:List Dc} (h:(D.map Dc.name).Nodup) {d:Dc} (hd:d∈D):(D.find? fun x=>x.name == d.name)=some d:=by
 cases hf:D.find? fun x=>x.name == d.name with
 | none=>exact absurd (List.find?_eq_none.1 hf d hd) (by simp)
 | some x =>
  have h1:x.name=d.name:=by simpa using List.find?_some hf
  rw [nd_inj h (List.mem_of_find?_eq_some hf) hd h1]
theorem find_perm {D D':List Dc} (hn:(D.map Dc.name).Nodup) (hm:∀ d,d∈D↔d∈D') (n:List UInt8):(D'.find? fun d=>d.name == n).map Dc.kind=(D.find? fun d=>d.name == n).map Dc.kind:=by
 cases hf:D'.find? fun d=>d.name == n with
 | none =>
  have:(D.find? fun d=>d.name == n)=none:=List.find?_eq_none.2 fun x hx=>List.find?_eq_none.1 hf x ((hm x).1 hx);rw [this]
 | some x =>
  have h1:x.name=n:=by simpa using List.find?_some hf
  have:=find_of hn ((hm x).2 (List.mem_of_find?_eq_some hf));rw [h1] at this;rw [this]
theorem any_perm {α : Type} {l l':List α} {p : α -> Bool} (hm:∀ d,d∈l↔d∈l'):l.any p=l'.any p:=by
 rw [Bool.eq_iff_iff,List.any_eq_true,List.any_eq_true];exact ⟨fun ⟨x,h1,h2⟩=>⟨x,(hm x).1 h1,h2⟩,fun ⟨x,h1,h2⟩=>⟨x,(hm x).2 h1,h2⟩⟩
theorem all_perm {α : Type} {l l':List α} {p : α -> Bool} (hm:∀ d,d∈l↔d∈l'):l.all p=l'.all p:=by
 rw [Bool.eq_iff_iff,List.all_eq_true,List.all_eq_true];exact ⟨fun h x hx=>h x ((hm x).2 hx),fun h x hx=>h x ((hm x).1 hx)⟩
def SmK (r r':Ru):Prop:=∀ n,(O0 r n).1=(O0 r' n).1
section
variable {r r':Ru} (h:SmK r r')
include h
theorem dnE_cg (n:List UInt8) (k p:Int):dnE r n k p=dnE r' n k p:=by unfold dnE dnM;rw [h n]
mutual
theorem erE_cg:∀ e:Ex,erE r e=erE r' e
 | .mk k v n a p=>by rw [erE,erE,erEs_cg a,dnE_cg h]
theorem erEs_cg:∀ l:List Ex,O1 r l=O1 r' l
 | []=>rfl
 | x :: l=>by rw [O1,O1,erE_cg x,erEs_cg l]
end
theorem erA_cg (b:Bool):∀ l:List Ex,erA r b l=erA r' b l
 | []=>rfl
 | x :: l=>by rw [erA,erA,erE_cg h x,erA_cg b l]
mutual
theorem erS_cg:∀ e:St,erS r e=erS r' e
 | .mk k n t a x y p=>by rw [erS,erS,dnE_cg h,erA_cg h,A6m x,A6m y]
theorem A6m:∀ l:List St,erB r l=erB r' l
 | []=>rfl
 | x :: l=>by rw [erB,erB,erS_cg x,A6m l]
end
theorem erH_cg:∀ (l pre:List Hd),erH r pre l=erH r' pre l
 | [],pre=>rfl
 | x :: l,pre=>by rw [erH,erH,dnE_cg h,A6m h,erH_cg l]
theorem erM_cg:∀ (l:List Md),erM r l=erM r' l
 | []=>rfl
 | x :: l=>by rw [erM,erM,erH_cg h,erM_cg l]
end
theorem A3r {r:Ru}:∀ {l:List Md},erM r l=none↔∀ m∈l,erH r [] m.hds=none
 | []=>by rw [erM];simp
 | x :: l=>by
  rw [erM,Option.or_eq_none_iff,A3r];simp
theorem chk_perm {D D':List Dc} {M M':List Md} (hk:P2 D) (hD:D.Perm D') (hM:M.Perm M') (h:O2 ⟨D,M⟩=none):O2 ⟨D',M'⟩=none:=by
 unfold O2 at h ⊢;rw [Option.or_eq_none_iff,hea_none hk] at h;obtain ⟨⟨h1,h2,h3⟩,h4⟩:=h;have hm:∀ d,d∈D↔d∈D':=fun d=>hD.mem_iff;have hm2:∀ d,d∈M↔d∈M':=fun d=>hM.mem_iff;have hk':P2 D':=fun d hd=>hk d ((hm d).2 hd);rw [Option.or_eq_none_iff,hea_none hk'];refine ⟨⟨fun d hd=>h1 d ((hm d).2 hd),fun d hd=>h2 d ((hm2 d).2 hd),?_⟩,?_⟩
 ·exact ((hD.map _).append (hM.map _)).nodup_iff.1 h3
 ·have hs:SmK ⟨D',M'⟩ ⟨D,M⟩:=fun n=>by
   rw [lok_kind,lok_kind,find_perm (List.nodup_append.1 h3).1 hm,any_perm (l:=M') (l':=M) fun d=>(hm2 d).symm]
  show erM _ M'=none;rw [erM_cg hs,A3r];intro m hx;exact A3r.1 h4 m ((hm2 m).2 hx)
theorem vld_perm {D D':List Dc} {M M':List Md} (hD:D.Perm D') (hM:M.Perm M'):K4 ⟨D',M'⟩=K4 ⟨D,M⟩:=by
 unfold K4;show (decide (D'.length<=128) && decide (M'.length<=16) && D'.all Z9 && M'.all R9)=_;rw [hD.symm.length_eq,hM.symm.length_eq,all_perm (l:=D') (l':=D) fun d=>hD.symm.mem_iff,all_perm (l:=M') (l':=M) fun d=>hM.symm.mem_iff]
def z0 (q:Int × Int):Int × Int:=(0,q.2)
theorem A4x (n:List UInt8):∀ (D pre:List Dc),lkD (pre.map Dc.plain) (D.map Dc.plain) n=lkD pre D n
 | [],pre=>rfl
 | d :: l,pre=>by
  rw [List.map_cons,lkD,lkD];have e:pre.map Dc.plain++[d.plain]=(pre++[d]).map Dc.plain:=by simp
  have e2:∀ k,cnR ⟨pre.map Dc.plain,[]⟩ k=cnR ⟨pre,[]⟩ k:=fun k=>by
   unfold cnR cnD;show (if k=9 then 0 else (pre.map Dc.plain).countP _)=_;rw [List.countP_map];rfl
  rw [e,A4x n l,e2];rfl
theorem A4w (n:List UInt8):∀ (M:List Md) (i:Nat),lkM i (M.map Md.plain) n=lkM i M n
 | [],i=>rfl
 | m :: l,i=>by rw [List.map_cons,lkM,lkM,A4w n l];rfl
theorem A1d (D:List Dc) (M:List Md) (n:List UInt8):O0 ⟨D.map Dc.plain,M.map Md.plain⟩ n=O0 ⟨D,M⟩ n:=by
 rw [A1e,A1e];show ((lkD [] (D.map Dc.plain) n).or (lkM 0 (M.map Md.plain) n)).getD _=((lkD [] D n).or (lkM 0 M n)).getD _;rw [<- A4x n D [],A4w];rfl
theorem map_if {b:Prop} [Decidable b] {q:Int × Int}:((if b then some q else none):Er).map z0=if b then some (z0 q) else none:=by split<;>rfl
theorem A0h {b:Prop} [Decidable b] {q:Int × Int}:((if b then none else some q):Er).map z0=if b then none else some (z0 q):=by split<;>rfl
theorem A5e:∀ (D pre:List Dc),erD (pre.map Dc.plain) (D.map Dc.plain)=(erD pre D).map z0
 | [],pre=>rfl
 | d :: l,pre=>by
  rw [List.map_cons,erD,erD,Option.map_or,Option.map_or,map_if,A0h, <- A5e l,List.map_append];have:=A1d pre [] d.name;rw [show (⟨pre.map Dc.plain,[]⟩:Ru)=⟨pre.map Dc.plain,([]:List Md).map Md.plain⟩ from rfl,show d.plain.name=d.name from rfl,this];rfl
theorem A5c (D:List Dc):∀ (M pre:List Md),erP (D.map Dc.plain) (pre.map Md.plain) (M.map Md.plain)=(erP D pre M).map z0
 | [],pre=>rfl
 | d :: l,pre=>by
  rw [List.map_cons,erP,erP,Option.map_or,Option.map_or,map_if,A0h, <- A5c D l,List.map_append];rw [show d.plain.name=d.name from rfl,A1d];rfl
section
variable {r r':Ru} (h:SmK r' r)
include h
theorem dnE_pl (n:List UInt8) (k p:Int):dnE r' n k 0=(dnE r n k p).map z0:=by unfold dnE dnM;rw [h n,A0h];rfl
theorem Ex.plain_kind (e:Ex):e.plain.kind=e.kind:=by cases e with|mk k v n a p=>rw [Ex.plain];rfl
theorem Ex.plain_pos (e:Ex):e.plain.pos=0:=by cases e with|mk k v n a p=>rw [Ex.plain];rfl
theorem wnt_plain (k:Int) (a:List Ex):X8 k (a.map Ex.plain)=X8 k a:=by
 unfold X8;cases a with
 | nil=>rfl
 | cons x l=>simp only [List.map_cons,Ex.plain_kind h]
mutual
theorem erE_pl:∀ e:Ex,erE r' e.plain=(erE r e).map z0
 | .mk k v n a p=>by
  rw [Ex.plain,erE,erE,Option.map_or,Option.map_or,erEs_pl a,dnE_pl h _ _ p,A0h,Ex.plains_map,wnt_plain h,List.all_map];have:(fun x=>N7 x.kind == X8 k a)∘Ex.plain=fun x:Ex=>N7 x.kind == X8 k a:=by funext x;simp only [Function.comp,Ex.plain_kind h]
  rw [this];rfl
theorem erEs_pl:∀ l:List Ex,O1 r' (Ex.plains l)=(O1 r l).map z0
 | []=>rfl
 | x :: l=>by rw [Ex.plains,O1,O1,Option.map_or,erE_pl x,erEs_pl l]
end
theorem erA_pl (b:Bool):∀ l:List Ex,erA r' b (Ex.plains l)=(erA r b l).map z0
 | []=>rfl
 | x :: l=>by rw [Ex.plains,erA,erA,Option.map_or,Option.map_or,erE_pl h x,erA_pl b l,A0h,Ex.plain_kind h,Ex.plain_pos h];rfl
mutual
theorem erS_pl:∀ e:St,erS r' e.plain=(erS r e).map z0
 | .mk k n t a x y p=>by rw [St.plain,erS,erS,Option.map_or,Option.map_or,Option.map_or,dnE_pl h _ _ p,erA_pl h,A6l x,A6l y]
theorem A6l:∀ l:List St,erB r' (St.plains l)=(erB r l).map z0
 | []=>rfl
 | x :: l=>by rw [St.plains,erB,erB,Option.map_or,erS_pl x,A6l l]
end
theorem erH_pl:∀ (l pre:List Hd),erH r' (pre.map Hd.plain) (l.map Hd.plain)=(erH r pre l).map z0
 | [],pre=>rfl
 | x :: l,pre=>by
  rw [List.map_cons,erH,erH,Option.map_or,Option.map_or,Option.map_or,map_if,List.any_map];have e:pre.map Hd.plain++[x.plain]=(pre++[x]).map Hd.plain:=by simp
  rw [e,erH_pl l];rw [show x.plain.body=St.plains x.body from rfl,A6l h,show x.plain.pos=0 from rfl,show x.plain.name=x.name from rfl,show x.plain.trig=x.trig from rfl,dnE_pl h _ _ x.pos];rfl
theorem erM_pl:∀ (l:List Md),erM r' (l.map Md.plain)=(erM r l).map z0
 | []=>rfl
 | x :: l=>by
  rw [List.map_cons,erM,erM,Option.map_or,erM_pl l];have:=erH_pl h x.hds [];rw [<- this];rfl
end
theorem chk_plain (r:Ru):O2 r.plain=(O2 r).map z0:=by
 obtain ⟨D,M⟩:=r;unfold O2 heaE;rw [Option.map_or,Option.map_or];have hs:SmK (Ru.plain ⟨D,M⟩) ⟨D,M⟩:=fun n=>by rw [show Ru.plain ⟨D,M⟩=⟨D.map Dc.plain,M.map Md.plain⟩ from rfl,A1d]
 have h1:=A5e D [];have h2:=A5c D M [];have h3:=erM_pl hs M;rw [<- h1, <- h2, <- h3];rfl
end Go.Pb
namespace Go.Proofs.YtnmkkggfgdfmeaaGreatDoor
open Go.Eng (IC IOper DReg IFn A4)
open Go.Sym Go.Pb
def rot {α : Type} (l:List α) (n:Nat):List α := l.drop (n % l.length)++l.take (n % l.length)
theorem K9 {α : Type} (l:List α) (n:Nat):l.Perm (rot l n):=by
 unfold rot;have:=List.perm_append_comm (l₁ := l.take (n % l.length)) (l₂ := l.drop (n % l.length));rw [List.take_append_drop] at this;exact this
theorem A2g {α : Type} (l:List α) (n:Nat):(rot l n).length=l.length:=(K9 l n).length_eq.symm
theorem rot_get {α : Type} (l:List α) (n k:Nat) (h:k<l.length):(rot l n)[k]? = l[(k+n) % l.length]? := by
 unfold rot;have hm:=Nat.mod_lt n (show 0<l.length by omega);have e:(k+n) % l.length=(k+n % l.length) % l.length:=by rw [Nat.add_mod_mod]
 rw [e];generalize n % l.length=m at hm;by_cases h1:k+m<l.length
 ·rw [List.getElem?_append_left (by rw [List.length_drop];omega),List.getElem?_drop,Nat.mod_eq_of_lt h1,Nat.add_comm]
 ·rw [List.getElem?_append_right (by rw [List.length_drop];omega),List.length_drop,Nat.mod_eq_sub_mod (by omega),Nat.mod_eq_of_lt (by omega),List.getElem?_take_of_lt (by omega)]
  congr 1;omega
def trnM (r:Ru) (n:Nat):Ru:=⟨rot r.decls n,rot r.modes n⟩
theorem c_turned (r:Ru) (hB:r.sz<4000000) (n:Nat) (hn:n<256):PC Tryz.prog 18 [r.v,I64 n] (trnM r n).v:=by
 refine PC.of A6 isU18 (Nat.le_of_ble_eq_true rfl) (by simp [Ru.v,DV.nlL,DV.nl,L4,L3]) (Ru.nl _) ?_;have hDl:=sz_dl r;have hMl:=sz_ml r;obtain ⟨D,M⟩:=r;dsimp only at hDl hMl;dsimp only [Ru.v,trnM];show IW Tryz.prog 55 u18_1 ⟨B1 _,_,_⟩ (rt [.cell 4 2 true] _);repeat' ((with_reducible apply wr)<;>try simp only [go_sem,seval])
 obtain ⟨F,hF⟩:∃ F:Nat->List Dc, ∀ k,F k=(rot D n).take k:=⟨_,fun _=>rfl⟩;have hF0:F 0=[]:=by rw [hF];rfl
 have hFl:∀ k,(F k).length<=D.length:=fun k=>by rw [hF,List.length_take,A2g];omega
 refine C1 (fun q:Nat × Option Nat=>[(1,I64 n),(2,.ptr 0 0),(4,.ptr 1 0),(5,.ptr 2 0),(6,I64 q.1)]) (fun q=>B6 (((Sym.nil.upd 0 ⟨0,true,[C3 D,D3 M]⟩).upd 1 ⟨0,true,[.snil,.snil]⟩).upd 2 ⟨0,true,[A9 q.2 (F q.1).length,.snil]⟩) q.2 ⟨4,true,A3 ((F q.1).map Dc.v)⟩)
  (fun q c=>3<=c/\q.1<=D.length/\(q.2=none->F q.1=[])/\(∀ i,q.2=some i->3<=i/\i<c)) (fun q=>D.length-q.1) (0,none)
  (by simp [B9,tm,Tm.upd]) (by rw [hF0];exact Sub.refl _) ⟨by omega,Nat.zero_le _,fun _=>hF0,(fun i hi=>by cases hi)⟩ ?_
 rintro ⟨k,o⟩ c ⟨hc,hk,hno,ho⟩;dsimp only at hc hk hno ho ⊢;have hbr:B6 (((Sym.nil.upd 0 ⟨0,true,[C3 D,D3 M]⟩).upd 1 ⟨0,true,[.snil,.snil]⟩).upd 2 ⟨0,true,[A9 o (F k).length,.snil]⟩) o ⟨4,true,A3 ((F k).map Dc.v)⟩ 0=some ⟨0,true,[C3 D,D3 M]⟩:=by rw [B7 (fun i hi=>by have:=ho i hi;omega),A2 (by omega),A2 (by omega),A0]
 have hbx:B6 (((Sym.nil.upd 0 ⟨0,true,[C3 D,D3 M]⟩).upd 1 ⟨0,true,[.snil,.snil]⟩).upd 2 ⟨0,true,[A9 o (F k).length,.snil]⟩) o ⟨4,true,A3 ((F k).map Dc.v)⟩ 2=some ⟨0,true,[A9 o (F k).length,.snil]⟩:=by rw [B7 (fun i hi=>by have:=ho i hi;omega),A0]
 have hb1:B6 (((Sym.nil.upd 0 ⟨0,true,[C3 D,D3 M]⟩).upd 1 ⟨0,true,[.snil,.snil]⟩).upd 2 ⟨0,true,[A9 o (F k).length,.snil]⟩) o ⟨4,true,A3 ((F k).map Dc.v)⟩ 1=some ⟨0,true,[.snil,.snil]⟩:=by rw [B7 (fun i hi=>by have:=ho i hi;omega),A2 (by omega),A0]
 have hbo:∀ i:Nat,o=some i->B6 (((Sym.nil.upd 0 ⟨0,true,[C3 D,D3 M]⟩).upd 1 ⟨0,true,[.snil,.snil]⟩).upd 2 ⟨0,true,[A9 o (F k).length,.snil]⟩) o ⟨4,true,A3 ((F k).map Dc.v)⟩ i=some ⟨4,true,A3 ((F k).map Dc.v)⟩:=fun i hi=>by subst hi;exact A0
 have hbn:∀ j:Nat,c<=j->B6 (((Sym.nil.upd 0 ⟨0,true,[C3 D,D3 M]⟩).upd 1 ⟨0,true,[.snil,.snil]⟩).upd 2 ⟨0,true,[A9 o (F k).length,.snil]⟩) o ⟨4,true,A3 ((F k).map Dc.v)⟩ j=none:=fun j hj=>by rw [B7 (fun i hi=>by have:=ho i hi;omega),A2 (by omega),A2 (by omega),A2 (by omega)];rfl
 have hT:(A9 o (F k).length).one=true:=by cases o<;>rfl
 by_cases hlt:k<D.length
 ·have hd:decide ((k:Int)<(D.length:Int))=true:=by simpa using hlt
  have hm:=Nat.mod_lt (k+n) (show 0<D.length by omega);have hg:=List.getElem?_eq_getElem hm;have hw:=w64 (n:=(k:Int)+1) (by omega) (by omega);have hw2:IntKind.i64.wrap ((k:Int)+(n:Int))=((k+n:Nat):Int):=by rw [w64 (by omega) (by omega)];omega
  have hrm:binR .rem (I64 ((k+n:Nat):Int)) (I64 (D.length:Int))=some (I64 (((k+n) % D.length:Nat):Int)):=by rw [A1q (by omega)];rfl
  have e0:F (k+1)=F k++[D[(k+n) % D.length]]:=by rw [hF,hF,List.take_add_one,rot_get _ _ _ hlt,hg];rfl
  have hFk:=hFl k;generalize D[(k+n) % D.length]=x at hg e0;generalize hkn:(k+n) % D.length=kn at hm hg hrm;have hln:(A3 ((F k).map Dc.v)).length=(F k).length * 4:=(B4 (u:=4) (X4 _)).trans (by simp);have hdx:∀ X:Hp,S5 X o 2=X 2:=fun X=>C6 (fun i hi=>by have:=ho i hi;omega);generalize hHH:B6 (((Sym.nil.upd 0 ⟨0,true,[C3 D,D3 M]⟩).upd 1 ⟨0,true,[.snil,.snil]⟩).upd 2 ⟨0,true,[A9 o (F k).length,.snil]⟩) o ⟨4,true,A3 ((F k).map Dc.v)⟩=HH at hbr hbx hbo hb1 hbn ⊢;have ne0:=S1 0 1 2 c (by omega);repeat' ((with_reducible apply wr)<;>try simp only [go_sem,seval,hd,hg,hw,hw2,hrm,hbr,hbx,ne0,A0,A1,List.length_map,hT])
  rw [E3 (cs:=A3 ((F k).map Dc.v)) (fun e=>by rw [hno e];exact ⟨rfl,rfl⟩) (fun i hi=>by have:=ho i hi;rw [A2 (by omega)];exact hbo i hi) hln (by omega) (by omega) (by omega)];have ne0:=A6d 0 1 2 c (c+13) (c+17) (by omega);simp only [go_sem,seval,ne0,A0,A1,hdx,hbx,hw];repeat' ((with_reducible apply wr)<;>try simp only [go_sem,seval,ne0,A0,A1,hdx,hbx,hw])
  refine ⟨(k+1,some (c+17)),by simp [B9,tm,Tm.upd],?_,inv ⟨by omega,by omega,(fun h=>by cases h),(fun i hi=>by cases hi;omega)⟩,by simp only;omega⟩;dsimp only [B6,A9];rw [e0,List.map_append,C7,List.length_append,List.length_singleton];intro j b hj;by_cases e1:j=c+17
  ·subst e1;rw [A0] at hj;rw [A2 (by omega),A0, <- hj];rfl
  rw [A2 e1] at hj;by_cases e2:j=2
  ·subst e2;rw [A0] at hj ⊢;exact hj
  rw [A2 e2] at hj ⊢;rw [A2 e1];by_cases e3:j=1
  ·subst e3;rw [A0] at hj;rw [C6 (fun i hi=>by have:=ho i hi;omega),A2 (by omega),hb1];exact hj
  rw [A2 e3] at hj;by_cases e4:j=0
  ·subst e4;rw [A0] at hj;rw [C6 (fun i hi=>by have:=ho i hi;omega),A2 (by omega),hbr];exact hj
  ·rw [A2 e4] at hj;cases hj
 ·have hd:decide ((k:Int)<(D.length:Int))=false:=by simpa using hlt
  repeat' ((with_reducible apply wr)<;>try simp only [go_sem,seval,hd,hbr])
  refine IW.keep [1,2,4,5,7] [I64 n,.ptr 0 0,.ptr 1 0,.ptr 2 0,I64 0] (g_fin (Hb:=((Sym.nil.upd 0 ⟨0,true,[C3 D,D3 M]⟩).upd 1 ⟨0,true,[.snil,.snil]⟩)) (ci:=2) (u:=4) (pre:=[]) (suf:=[.snil]) (xs:=(F k).map Dc.v) (by simp [DV.one]) (fun h=>by rw [hno h];rfl) (fun i hi=>by have:=ho i hi;exact ⟨by omega,by rw [A2 (by omega),A2 (by omega)];rfl⟩) (by simp) (X4 _)) ?_;have hFD:F k=rot D n:=by rw [hF,List.take_of_length_le (by rw [A2g];omega)]
  rw [hFD];clear hno ho hbr hbx hb1 hbo hbn hT hFD hlt hd hFl hF0 hF hk;obtain ⟨G,hG⟩:∃ G:Nat->List Md, ∀ k,G k=(rot M n).take k:=⟨_,fun _=>rfl⟩;have hG0:G 0=[]:=by rw [hG];rfl
  have hGl:∀ k,(G k).length<=M.length:=fun k=>by rw [hG,List.length_take,A2g];omega
  refine C1 (fun q:Nat × Option Nat=>[(1,I64 n),(2,.ptr 0 0),(4,.ptr 1 0),(5,.ptr 2 0),(7,I64 q.1)]) (fun q=>B6 (((Sym.nil.upd 0 ⟨0,true,[C3 D,D3 M]⟩).upd 1 ⟨0,true,[.snil,.snil]⟩).upd 2 ⟨0,true,[C3 (rot D n),A9 q.2 (G q.1).length]⟩) q.2 ⟨4,true,A3 ((G q.1).map Md.v)⟩)
   (fun q c=>3<=c/\q.1<=M.length/\(q.2=none->G q.1=[])/\(∀ i,q.2=some i->3<=i/\i<c)) (fun q=>M.length-q.1) (0,none)
   (by simp [B9,tm,Tm.upd]) (by rw [hG0];exact Sub.refl _) ⟨by omega,Nat.zero_le _,fun _=>hG0,(fun i hi=>by cases hi)⟩ ?_
  clear hc k c o;rintro ⟨k,o⟩ c ⟨hc,hk,hno,ho⟩;dsimp only at hc hk hno ho ⊢;have hbr:B6 (((Sym.nil.upd 0 ⟨0,true,[C3 D,D3 M]⟩).upd 1 ⟨0,true,[.snil,.snil]⟩).upd 2 ⟨0,true,[C3 (rot D n),A9 o (G k).length]⟩) o ⟨4,true,A3 ((G k).map Md.v)⟩ 0=some ⟨0,true,[C3 D,D3 M]⟩:=by rw [B7 (fun i hi=>by have:=ho i hi;omega),A2 (by omega),A2 (by omega),A0]
  have hbx:B6 (((Sym.nil.upd 0 ⟨0,true,[C3 D,D3 M]⟩).upd 1 ⟨0,true,[.snil,.snil]⟩).upd 2 ⟨0,true,[C3 (rot D n),A9 o (G k).length]⟩) o ⟨4,true,A3 ((G k).map Md.v)⟩ 2=some ⟨0,true,[C3 (rot D n),A9 o (G k).length]⟩:=by rw [B7 (fun i hi=>by have:=ho i hi;omega),A0]
  have hb1:B6 (((Sym.nil.upd 0 ⟨0,true,[C3 D,D3 M]⟩).upd 1 ⟨0,true,[.snil,.snil]⟩).upd 2 ⟨0,true,[C3 (rot D n),A9 o (G k).length]⟩) o ⟨4,true,A3 ((G k).map Md.v)⟩ 1=some ⟨0,true,[.snil,.snil]⟩:=by rw [B7 (fun i hi=>by have:=ho i hi;omega),A2 (by omega),A0]
  have hbo:∀ i:Nat,o=some i->B6 (((Sym.nil.upd 0 ⟨0,true,[C3 D,D3 M]⟩).upd 1 ⟨0,true,[.snil,.snil]⟩).upd 2 ⟨0,true,[C3 (rot D n),A9 o (G k).length]⟩) o ⟨4,true,A3 ((G k).map Md.v)⟩ i=some ⟨4,true,A3 ((G k).map Md.v)⟩:=fun i hi=>by subst hi;exact A0
  have hbn:∀ j:Nat,c<=j->B6 (((Sym.nil.upd 0 ⟨0,true,[C3 D,D3 M]⟩).upd 1 ⟨0,true,[.snil,.snil]⟩).upd 2 ⟨0,true,[C3 (rot D n),A9 o (G k).length]⟩) o ⟨4,true,A3 ((G k).map Md.v)⟩ j=none:=fun j hj=>by rw [B7 (fun i hi=>by have:=ho i hi;omega),A2 (by omega),A2 (by omega),A2 (by omega)];rfl
  have hT:(A9 o (G k).length).one=true:=by cases o<;>rfl
  by_cases hlt:k<M.length
  ·have hd:decide ((k:Int)<(M.length:Int))=true:=by simpa using hlt
   have hm:=Nat.mod_lt (k+n) (show 0<M.length by omega);have hg:=List.getElem?_eq_getElem hm;have hw:=w64 (n:=(k:Int)+1) (by omega) (by omega);have hw2:IntKind.i64.wrap ((k:Int)+(n:Int))=((k+n:Nat):Int):=by rw [w64 (by omega) (by omega)];omega
   have hrm:binR .rem (I64 ((k+n:Nat):Int)) (I64 (M.length:Int))=some (I64 (((k+n) % M.length:Nat):Int)):=by rw [A1q (by omega)];rfl
   have e0:G (k+1)=G k++[M[(k+n) % M.length]]:=by rw [hG,hG,List.take_add_one,rot_get _ _ _ hlt,hg];rfl
   have hGk:=hGl k;generalize M[(k+n) % M.length]=x at hg e0;generalize hkn:(k+n) % M.length=kn at hm hg hrm;have hln:(A3 ((G k).map Md.v)).length=(G k).length * 4:=(B4 (u:=4) (A2k _)).trans (by simp);have hdx:∀ X:Hp,S5 X o 2=X 2:=fun X=>C6 (fun i hi=>by have:=ho i hi;omega);generalize hHH:B6 (((Sym.nil.upd 0 ⟨0,true,[C3 D,D3 M]⟩).upd 1 ⟨0,true,[.snil,.snil]⟩).upd 2 ⟨0,true,[C3 (rot D n),A9 o (G k).length]⟩) o ⟨4,true,A3 ((G k).map Md.v)⟩=HH at hbr hbx hbo hb1 hbn ⊢;have ne0:=S1 0 1 2 c (by omega);repeat' ((with_reducible apply wr)<;>try simp only [go_sem,seval,hd,hg,hw,hw2,hrm,hbr,hbx,ne0,A0,A1,List.length_map,hT])
   rw [E3 (cs:=A3 ((G k).map Md.v)) (fun e=>by rw [hno e];exact ⟨rfl,rfl⟩) (fun i hi=>by have:=ho i hi;rw [A2 (by omega)];exact hbo i hi) hln (by omega) (by omega) (by omega)];have ne0:=A6d 0 1 2 c (c+13) (c+17) (by omega);simp only [go_sem,seval,ne0,A0,A1,hdx,hbx,hw];repeat' ((with_reducible apply wr)<;>try simp only [go_sem,seval,ne0,A0,A1,hdx,hbx,hw])
   refine ⟨(k+1,some (c+17)),by simp [B9,tm,Tm.upd],?_,inv ⟨by omega,by omega,(fun h=>by cases h),(fun i hi=>by cases hi;omega)⟩,by simp only;omega⟩;dsimp only [B6,A9];rw [e0,List.map_append,C7,List.length_append,List.length_singleton];intro j b hj;by_cases e1:j=c+17
   ·subst e1;rw [A0] at hj;rw [A2 (by omega),A0, <- hj];rfl
   rw [A2 e1] at hj;by_cases e2:j=2
   ·subst e2;rw [A0] at hj ⊢;exact hj
   rw [A2 e2] at hj ⊢;rw [A2 e1];by_cases e3:j=1
   ·subst e3;rw [A0] at hj;rw [C6 (fun i hi=>by have:=ho i hi;omega),A2 (by omega),hb1];exact hj
   rw [A2 e3] at hj;by_cases e4:j=0
   ·subst e4;rw [A0] at hj;rw [C6 (fun i hi=>by have:=ho i hi;omega),A2 (by omega),hbr];exact hj
   ·rw [A2 e4] at hj;cases hj
  ·have hd:decide ((k:Int)<(M.length:Int))=false:=by simpa using hlt
   generalize hHH:B6 (((Sym.nil.upd 0 ⟨0,true,[C3 D,D3 M]⟩).upd 1 ⟨0,true,[.snil,.snil]⟩).upd 2 ⟨0,true,[C3 (rot D n),A9 o (G k).length]⟩) o ⟨4,true,A3 ((G k).map Md.v)⟩=HH at hbr hbx hbo hb1 hbn ⊢;have ne0:=O9 0 1 2 (by omega);repeat' ((with_reducible apply wr)<;>try simp only [go_sem,seval,hd,hbr,hbx,hb1,ne0,A0,A1,hT])
   refine H5 (A4c (by rfl) (by decide) (by cases o<;>rfl)) ?_;simp only [go_sem,seval,ne0,A0];repeat' ((with_reducible apply wr)<;>try simp only [go_sem,seval,ne0,A0])
   rw [D1 (rv2 rfl rfl)];have hGM:rot M n=G k:=by rw [hG,List.take_of_length_le (by rw [A2g];omega)]
   rw [hGM];exact ⟨Sym.nil,gl_ru (cc:=0) (G k) (fun _ _=>rfl) (fun _ _=>Nat.zero_le _) hno (fun i hi=>by have:=ho i hi;show (HH.upd 1 _) i=_;rw [A2 (by omega)];exact hbo i hi) (fun j hj=>by omega)⟩
theorem sum_perm {α : Type} {f : α -> Nat} {l l':List α} (h:l.Perm l'):(l.map f).sum=(l'.map f).sum:=by
 induction h with
 | nil=>rfl
 | cons x _ ih=>simp only [List.map_cons,List.sum_cons,ih]
 | swap x y l=>simp only [List.map_cons,List.sum_cons];omega
 | trans _ _ h1 h2=>exact h1.trans h2
theorem trn_sz (r:Ru) (n:Nat):(trnM r n).sz=r.sz:=by
 show ((rot r.decls n).map Dc.sz).sum+((rot r.modes n).map Md.sz).sum=(r.decls.map Dc.sz).sum+(r.modes.map Md.sz).sum;rw [sum_perm (K9 r.decls n).symm,sum_perm (K9 r.modes n).symm]
theorem A4h {r:Ru} (h:K4 r=true) (n:Nat):K4 (trnM r n)=true:=by
 have:=vld_perm (K9 r.decls n) (K9 r.modes n);exact this.trans h
theorem trn_none {r:Ru} (h:K4 r=true) (n:Nat):O2 (trnM r n)=none↔O2 r=none:=by
 constructor
 ·intro e;have:=chk_perm (A5n (A4h h n)) (K9 r.decls n).symm (K9 r.modes n).symm e;exact this
 ·exact chk_perm (A5n h) (K9 r.decls n) (K9 r.modes n)
theorem nz_chk (r:Ru):NzE (O2 r):=(nz_hea r).or (nz_M r _)
theorem A6p {r:Ru} (h:K4 r=true):chkV r=.tup [I64 ((O2 r).getD (0,0)).1,I64 ((O2 r).getD (0,0)).2]:=by
 unfold chkV;rw [if_pos h];cases O2 r<;>rfl
theorem chk_ok (r:Ru):(((O2 r).getD (0,0)).2 == 0)=(O2 r).isNone:=by
 cases h:O2 r with
 | none=>rfl
 | some q =>
  obtain ⟨p,c⟩:=q;have:=nz_chk r p c h;show (c == 0)=false;simpa using this
theorem c_CheckOrder (l:List UInt8) (hl:l.length<=9223372036854775807) (u n:UInt8):PC Tryz.prog 7 [.lst (bytesC l),.int .u8 (u.toNat:Int),.int .u8 (n.toNat:Int)] (.bool true):=by
 have hs:=c_sane;have hn:=n.toNat_lt;refine PC.of A6 isU7 (Nat.le_of_ble_eq_true rfl) (by simp [DV.nlL,DV.nl,bytes_nl]) rfl ?_;show IW Tryz.prog 53 u7_1 ⟨B1 _,_,_⟩ (rt [.tmp 6] _);repeat' ((with_reducible apply wr)<;>try simp only [go_sem,seval])
 refine AC.call (c_Made l hl u _ _) ?_;rintro v' H' c2 ⟨s,hg,rfl,rfl⟩ hc2;have hz:=parM_sz s;have hv:=parM_valid s;generalize (O7 s).1=r at hz hv ⊢;have h1:=c_Check32 r (by omega);have h2:=c_turned r (by omega) n.toNat hn;have h3:=c_Check32 (trnM r n.toNat) (by rw [trn_sz];omega);have h4:=c_Plain31 r (by omega);have h5:=c_Check32 r.plain (by rw [Ru.plain_sz];omega);rw [A6p hv] at h1;rw [A6p (A4h hv _)] at h3;rw [A6p ((vldM_plain r).trans hv),chk_plain] at h5;have k1:=chk_ok r;have k3:=chk_ok (trnM r n.toNat);have k2:=trn_none hv n.toNat;have k5:(((O2 r).map z0).getD (0,0)).1=0/\(((O2 r).map z0).getD (0,0)).2=((O2 r).getD (0,0)).2:=by cases O2 r<;>exact ⟨rfl,rfl⟩
 rw [k5.1,k5.2] at h5;have hrv:∀ r:Ru,r.v=.agg [C3 r.decls,D3 r.modes]:=fun _=>rfl;have hw:=w64 (n:=(n.toNat:Int)) (by omega) (by omega);simp only [hrv] at h1 h2 h3 h4 h5 ⊢;clear hv hg;generalize trnM r n.toNat=r2 at h2 h3 k3 k2;generalize r.plain=r3 at h4 h5;have hft:(false != true)=true:=rfl;cases he:O2 r with
 | none =>
  rw [he] at h1 h5;rw [k2.2 he] at h3;simp only [Option.getD_none] at h1 h3 h5;simp only [go_sem,seval];repeat' ((with_reducible first|apply wr|refine cpc h1 ?_|refine cpc h2 ?_|refine cpc h3 ?_|refine cpc h4 ?_|refine cpc h5 ?_|refine cpc hs ?_|fail)<;>try simp only [go_sem,seval,hw,hft])
  all_goals exact A5 rfl
 | some q =>
  have hne:O2 r2≠none:=fun e=>by rw [k2.1 e] at he;cases he
  cases hf:O2 r2 with
  | none=>exact absurd hf hne
  | some q2 =>
   rw [he] at h1 h5 k1;rw [hf] at h3 k3;obtain ⟨p,c⟩:=q;obtain ⟨p2,c2⟩:=q2;simp only [Option.getD_some] at h1 h3 h5;have e0:(c == c)=true:=by simp
   have e1:(c == 0)=false:=k1;have e2:(c2 == 0)=false:=k3;simp only [go_sem,seval];repeat' ((with_reducible first|apply wr|refine cpc h1 ?_|refine cpc h2 ?_|refine cpc h3 ?_|refine cpc h4 ?_|refine cpc h5 ?_|refine cpc hs ?_|fail)<;>try simp only [go_sem,seval,hw,hft,e0,e1,e2])
   all_goals exact A5 rfl
end Go.Proofs.YtnmkkggfgdfmeaaGreatDoor
end

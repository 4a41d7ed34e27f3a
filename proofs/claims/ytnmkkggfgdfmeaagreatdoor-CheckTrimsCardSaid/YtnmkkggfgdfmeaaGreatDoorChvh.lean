/-
  HELPERS of the claim: part 8 of its texts.
-/
import Derived.Test.YtnmkkggfgdfmeaaGreatDoorChvg
noncomputable section
set_option maxHeartbeats 8000000
set_option maxRecDepth 100000
set_option linter.unusedSimpArgs false
set_option linter.unusedVariables false
namespace Go.Proofs.YtnmkkggfgdfmeaaGreatDoor
open Go.Eng (IC IOper DReg IFn A3)
open Go.Sym Go.Pb
def MC (f:Nat) (xs:List DV) (L:List UInt8) (w n:Nat) (Q:List UInt8->Prop):Prop:=∀ (i:Nat) (hi:i<=300) (H:Hp) (cc t:Nat) (ht:H t=some (mkB L w i)) (htc:t<cc),
  AC Tryz.prog f (.ptr t 0 :: xs) H cc (fun v H' c' => ∃ s j,Q s/\s.length<=n/\j<=300/\v=.str s/\H'=H.upd t (mkB L w j))
def NmS (L:List UInt8) (w:Nat) (p:List UInt8) (n:Nat) (s:List UInt8):Prop:=∃ i,i<=300/\s=(nmK L w p n i).1
def InS (L:List UInt8) (w d:Nat) (s:List UInt8):Prop:=∃ i,i<=300/\s=(inK L w d i).1
def BlS (L:List UInt8) (w d:Nat) (s:List UInt8):Prop:=∃ i,i<=300/\s=(blK L w d i).1
theorem I4 (L:List UInt8) (hL:L.length<=300) (w:Nat) (hw:w<=100) (p:List UInt8) (hp:p.length<=100) (n:Nat) (hn:0<n) (hn2:n<=1000):MC 54 [.str p,I64 n] L w 200 (NmS L w p n):=by
 intro i hi H cc t ht htc;refine (c_name32 L hL w i hw hi p hp n hn hn2 H cc t ht htc).mono ?_;rintro v H' c' ⟨rfl,rfl⟩;have:=Q8 (L:=L) (w:=w) (i:=i) (p:=p) (n:=n) hn hn2;exact ⟨_,_,⟨i,hi,rfl⟩,by omega,A0e hL hi,rfl,rfl⟩
theorem lnB_le {d:Nat} (h:d<=2):lnB d<=2100:=by
 have:∀ d,d<=2->lnB d<=2100:=by decide
 exact this d h
theorem Q9 (L:List UInt8) (hL:L.length<=300) (w:Nat) (hw:w<=100) (d:Nat) (hd:d<=2):MC 24 [I64 d] L w 2100 (InS L w d):=by
 intro i hi H cc t ht htc;refine ((c_exK L hL w hw d (by omega)).1 i hi H cc t ht htc).mono ?_;rintro v H' c' ⟨rfl,rfl⟩;have h1:=(A0c hL w d).1 i hi;have h2:=lnB_le hd;exact ⟨_,_,⟨i,hi,rfl⟩,by omega,h1.2,rfl,rfl⟩
theorem A5w (L:List UInt8) (hL:L.length<=300) (w:Nat) (hw:w<=100) (d:Nat) (hd:d<=2):MC 25 [I64 d] L w 2100 (BlS L w d):=by
 intro i hi H cc t ht htc;refine ((c_exK L hL w hw d (by omega)).2 i hi H cc t ht htc).mono ?_;rintro v H' c' ⟨rfl,rfl⟩;have h1:=(A0c hL w d).2 i hi;have h2:=lnB_le hd;exact ⟨_,_,⟨i,hi,rfl⟩,by omega,h1.2,rfl,rfl⟩
theorem O0 (L:List UInt8) (hL:L.length<=300) (w:Nat) (n:Nat) (hn:0<n) (hn2:n<=1000) (i:Nat) (hi:i<=300) (H:Hp) (cc t:Nat) (ht:H t=some (mkB L w i)) (htc:t<cc) :
  AC Tryz.prog 53 [.ptr t 0,I64 n] H cc (fun v H' c' => ∃ k j,k<n/\j<=300/\v=I64 (k:Nat)/\H'=H.upd t (mkB L w j)):=by
 refine (c_Next L hL w i hi n hn hn2 H cc t ht htc).mono ?_;rintro v H' c' ⟨rfl,rfl⟩;exact ⟨_,_,P9 L i hn,D5 hL hi,rfl,rfl⟩
theorem B9 (a b:List UInt8) (h:a.length+b.length<=100000000):∃ x,x=a++b/\x.length=a.length+b.length/\binR .add (.str a) (.str b)=some (.str x) :=
 ⟨_,rfl,by simp,K7 (by omega)⟩
def firL:List (List UInt8):=[[102,105,114,101,32],[104,111,108,100,32],[114,101,108,101,97,115,101,32]]
def runL:List (List UInt8):=[[114,117,110,32],[104,97,108,116,32]]
def txtL:List (List UInt8):=[[103,111],[106,97,99,107,112,111,116],[97,92,34,98],[]]
def oneL:List (List UInt8 × List UInt8 × Nat):=[([115,116,111,112,32],[116,109],2),([98,101,103,105,110,32],[109,111,100,101],3),([101,110,100,32],[109,111,100,101],3),([112,111,115,116,32],[101,118],2),([112,108,97,121,32],[115,110,100],2)]
inductive StG (L:List UInt8) (w:Nat) (K:List UInt8->Prop):List UInt8->Prop where
 | ifA {b x:List UInt8}:BlS L w 1 b->K x->StG L w K ((([105,102,32]++b)++[32])++x)
 | ifB {b x y:List UInt8}:BlS L w 1 b->K x->K y->StG L w K ((((([105,102,32]++b)++[32])++x)++[32,101,108,115,101,32])++y)
 | ifC {b x c y:List UInt8}:BlS L w 1 b->K x->BlS L w 0 c->K y->StG L w K ((((((([105,102,32]++b)++[32])++x)++[32,101,108,115,101,32,105,102,32])++c)++[32])++y)
 | rep {e x:List UInt8}:InS L w 0 e->K x->StG L w K ((([114,101,112,101,97,116,32]++e)++[32])++x)
 | sco {e:List UInt8}:InS L w 1 e->StG L w K (([115,99,111,114,101,32]++e)++[59])
 | fir {k:Nat} {n:List UInt8}:k<3->NmS L w [99,111,105,108] 3 n->StG L w K ((firL.getD k []++n)++[59])
 | lig {n e:List UInt8}:NmS L w [108,97,109,112] 4 n->InS L w 0 e->StG L w K (((([108,105,103,104,116,32]++n)++[32])++e)++[59])
 | bli {n e f:List UInt8}:NmS L w [108,97,109,112] 4 n->InS L w 0 e->InS L w 0 f->StG L w K (((((([98,108,105,110,107,32]++n)++[32])++e)++[44,32])++f)++[59])
 | sta {n e:List UInt8}:NmS L w [116,109] 2 n->InS L w 1 e->StG L w K (((([115,116,97,114,116,32]++n)++[32])++e)++[59])
 | one {q:List UInt8 × List UInt8 × Nat} {n:List UInt8}:q∈oneL->NmS L w q.2.1 q.2.2 n->StG L w K ((q.1++n)++[59])
 | run {k:Nat} {n:List UInt8}:k<2->NmS L w [115,104,111,119] 2 n->StG L w K ((runL.getD k []++n)++[59])
 | txt {k:Nat} {e:List UInt8}:k<4->InS L w 0 e->StG L w K (((([116,101,120,116,32,34]++txtL.getD k [])++[34,44,32])++e)++[59])
 | con:StG L w K [99,111,110,115,117,109,101,59]
 | asg {n e:List UInt8}:NmS L w [118] 3 n->InS L w 2 e->StG L w K (((n++[32,61,32])++e)++[59])
theorem c_Stmt (L:List UInt8) (hL:L.length<=300) (w:Nat) (hw:w<=100) (D:Int) (hD2:D<=10) (hD3 : -10<=D) (kb:Nat) (hkb:kb<=10000000) (K:List UInt8->Prop) (hK:D<=0\/MC 107 [I64 (D-1)] L w kb K) :
  MC 139 [I64 D] L w (2 * kb+8000) (StG L w K):=by
 intro i hi H cc t ht htc;refine AC.body A6 isU139 (Nat.le_of_ble_eq_true rfl) fun hfr=>?_;show IW Tryz.prog 189 u139_1 ⟨B1 _,_,_⟩ (rt [.tmp 4] _);have hw1:IntKind.i64.wrap (D-1)=D-1:=w64 (by omega) (by omega);obtain ⟨qd,hqd⟩:∃ b:Bool,decide (D<=0)=b:=⟨_,rfl⟩;have hqt:qd=true->D<=0:=fun e=>by rw [e] at hqd;simpa using hqd
 have hqf:qd=false->¬ D<=0:=fun e=>by rw [e] at hqd;simpa using hqd
 repeat' ((with_reducible apply wr)<;>try simp only [go_sem,seval,hqd])
 refine AC.call (O0 L hL w 20 (by decide) (by decide) i hi _ _ t ht (by omega)) ?_;rintro v' H' c2 ⟨k,j,hlt,hj,rfl,rfl⟩ hc2;by_cases k4:k=4
 ·subst k4;cases qd;all_goals
   simp only [go_sem,seval,hqd];repeat' ((with_reducible apply wr)<;>try simp only [go_sem,seval,hqd,hw1])
   refine AC.call (Q9 L hL w hw 1 (by decide) j hj _ _ t A0 (by omega)) ?_;rintro v' H' c3 ⟨r1,j1,g1,l1,b1,rfl,rfl⟩ hc3;rw [A1];obtain ⟨x1,e1,m1,a1⟩:=B9 [115,99,111,114,101,32] r1 (by (try simp)<;>omega);try simp only [List.length_cons,List.length_nil] at m1
   obtain ⟨x2,e2,m2,a2⟩:=B9 x1 [59] (by (try simp)<;>omega);try simp only [List.length_cons,List.length_nil] at m2
   simp only [go_sem,seval,a1,a2,hw1];repeat' ((with_reducible apply wr)<;>try simp only [go_sem,seval,a1,a2,hw1])
   exact ⟨_,_,GL.refl _ _,x2,j1,by rw [e2,e1];exact .sco g1,by omega,b1,rfl,rfl⟩
 by_cases k5:k=5
 ·subst k5;cases qd;all_goals
   simp only [go_sem,seval,hqd];repeat' ((with_reducible apply wr)<;>try simp only [go_sem,seval,hqd,hw1])
   refine AC.call (Q9 L hL w hw 1 (by decide) j hj _ _ t A0 (by omega)) ?_;rintro v' H' c3 ⟨r1,j1,g1,l1,b1,rfl,rfl⟩ hc3;rw [A1];obtain ⟨x1,e1,m1,a1⟩:=B9 [115,99,111,114,101,32] r1 (by (try simp)<;>omega);try simp only [List.length_cons,List.length_nil] at m1
   obtain ⟨x2,e2,m2,a2⟩:=B9 x1 [59] (by (try simp)<;>omega);try simp only [List.length_cons,List.length_nil] at m2
   simp only [go_sem,seval,a1,a2,hw1];repeat' ((with_reducible apply wr)<;>try simp only [go_sem,seval,a1,a2,hw1])
   exact ⟨_,_,GL.refl _ _,x2,j1,by rw [e2,e1];exact .sco g1,by omega,b1,rfl,rfl⟩
 by_cases k7:k=7
 ·subst k7;cases qd;all_goals
   simp only [go_sem,seval,hqd];repeat' ((with_reducible apply wr)<;>try simp only [go_sem,seval,hqd,hw1])
   refine AC.call (I4 L hL w hw [108,97,109,112] (by decide) 4 (by decide) (by decide) j hj _ _ t A0 (by omega)) ?_;rintro v' H' c3 ⟨r1,j1,g1,l1,b1,rfl,rfl⟩ hc3;rw [A1];obtain ⟨x1,e1,m1,a1⟩:=B9 [108,105,103,104,116,32] r1 (by (try simp)<;>omega);try simp only [List.length_cons,List.length_nil] at m1
   obtain ⟨x2,e2,m2,a2⟩:=B9 x1 [32] (by (try simp)<;>omega);try simp only [List.length_cons,List.length_nil] at m2
   simp only [go_sem,seval,a1,a2,hw1];repeat' ((with_reducible apply wr)<;>try simp only [go_sem,seval,a1,a2,hw1])
   refine AC.call (Q9 L hL w hw 0 (by decide) j1 b1 _ _ t A0 (by omega)) ?_;rintro v' H' c4 ⟨r2,j2,g2,l2,b2,rfl,rfl⟩ hc4;rw [A1];obtain ⟨x3,e3,m3,a3⟩:=B9 x2 r2 (by (try simp)<;>omega);try simp only [List.length_cons,List.length_nil] at m3
   obtain ⟨x4,e4,m4,a4⟩:=B9 x3 [59] (by (try simp)<;>omega);try simp only [List.length_cons,List.length_nil] at m4
   simp only [go_sem,seval,a3,a4,hw1];repeat' ((with_reducible apply wr)<;>try simp only [go_sem,seval,a3,a4,hw1])
   exact ⟨_,_,GL.refl _ _,x4,j2,by rw [e4,e3,e2,e1];exact .lig g1 g2,by omega,b2,rfl,rfl⟩
 by_cases k8:k=8
 ·subst k8;cases qd;all_goals
   simp only [go_sem,seval,hqd];repeat' ((with_reducible apply wr)<;>try simp only [go_sem,seval,hqd,hw1])
   refine AC.call (I4 L hL w hw [108,97,109,112] (by decide) 4 (by decide) (by decide) j hj _ _ t A0 (by omega)) ?_;rintro v' H' c3 ⟨r1,j1,g1,l1,b1,rfl,rfl⟩ hc3;rw [A1];obtain ⟨x1,e1,m1,a1⟩:=B9 [98,108,105,110,107,32] r1 (by (try simp)<;>omega);try simp only [List.length_cons,List.length_nil] at m1
   obtain ⟨x2,e2,m2,a2⟩:=B9 x1 [32] (by (try simp)<;>omega);try simp only [List.length_cons,List.length_nil] at m2
   simp only [go_sem,seval,a1,a2,hw1];repeat' ((with_reducible apply wr)<;>try simp only [go_sem,seval,a1,a2,hw1])
   refine AC.call (Q9 L hL w hw 0 (by decide) j1 b1 _ _ t A0 (by omega)) ?_;rintro v' H' c4 ⟨r2,j2,g2,l2,b2,rfl,rfl⟩ hc4;rw [A1];obtain ⟨x3,e3,m3,a3⟩:=B9 x2 r2 (by (try simp)<;>omega);try simp only [List.length_cons,List.length_nil] at m3
   obtain ⟨x4,e4,m4,a4⟩:=B9 x3 [44,32] (by (try simp)<;>omega);try simp only [List.length_cons,List.length_nil] at m4
   simp only [go_sem,seval,a3,a4,hw1];repeat' ((with_reducible apply wr)<;>try simp only [go_sem,seval,a3,a4,hw1])
   refine AC.call (Q9 L hL w hw 0 (by decide) j2 b2 _ _ t A0 (by omega)) ?_;rintro v' H' c5 ⟨r3,j3,g3,l3,b3,rfl,rfl⟩ hc5;rw [A1];obtain ⟨x5,e5,m5,a5⟩:=B9 x4 r3 (by (try simp)<;>omega);try simp only [List.length_cons,List.length_nil] at m5
   obtain ⟨x6,e6,m6,a6⟩:=B9 x5 [59] (by (try simp)<;>omega);try simp only [List.length_cons,List.length_nil] at m6
   simp only [go_sem,seval,a5,a6,hw1];repeat' ((with_reducible apply wr)<;>try simp only [go_sem,seval,a5,a6,hw1])
   exact ⟨_,_,GL.refl _ _,x6,j3,by rw [e6,e5,e4,e3,e2,e1];exact .bli g1 g2 g3,by omega,b3,rfl,rfl⟩
 by_cases k9:k=9
 ·subst k9;cases qd;all_goals
   simp only [go_sem,seval,hqd];repeat' ((with_reducible apply wr)<;>try simp only [go_sem,seval,hqd,hw1])
   refine AC.call (I4 L hL w hw [116,109] (by decide) 2 (by decide) (by decide) j hj _ _ t A0 (by omega)) ?_;rintro v' H' c3 ⟨r1,j1,g1,l1,b1,rfl,rfl⟩ hc3;rw [A1];obtain ⟨x1,e1,m1,a1⟩:=B9 [115,116,97,114,116,32] r1 (by (try simp)<;>omega);try simp only [List.length_cons,List.length_nil] at m1
   obtain ⟨x2,e2,m2,a2⟩:=B9 x1 [32] (by (try simp)<;>omega);try simp only [List.length_cons,List.length_nil] at m2
   simp only [go_sem,seval,a1,a2,hw1];repeat' ((with_reducible apply wr)<;>try simp only [go_sem,seval,a1,a2,hw1])
   refine AC.call (Q9 L hL w hw 1 (by decide) j1 b1 _ _ t A0 (by omega)) ?_;rintro v' H' c4 ⟨r2,j2,g2,l2,b2,rfl,rfl⟩ hc4;rw [A1];obtain ⟨x3,e3,m3,a3⟩:=B9 x2 r2 (by (try simp)<;>omega);try simp only [List.length_cons,List.length_nil] at m3
   obtain ⟨x4,e4,m4,a4⟩:=B9 x3 [59] (by (try simp)<;>omega);try simp only [List.length_cons,List.length_nil] at m4
   simp only [go_sem,seval,a3,a4,hw1];repeat' ((with_reducible apply wr)<;>try simp only [go_sem,seval,a3,a4,hw1])
   exact ⟨_,_,GL.refl _ _,x4,j2,by rw [e4,e3,e2,e1];exact .sta g1 g2,by omega,b2,rfl,rfl⟩
 by_cases k10:k=10
 ·subst k10;cases qd;all_goals
   simp only [go_sem,seval,hqd];repeat' ((with_reducible apply wr)<;>try simp only [go_sem,seval,hqd,hw1])
   refine AC.call (I4 L hL w hw [116,109] (by decide) 2 (by decide) (by decide) j hj _ _ t A0 (by omega)) ?_;rintro v' H' c3 ⟨r1,j1,g1,l1,b1,rfl,rfl⟩ hc3;rw [A1];obtain ⟨x1,e1,m1,a1⟩:=B9 [115,116,111,112,32] r1 (by (try simp)<;>omega);try simp only [List.length_cons,List.length_nil] at m1
   obtain ⟨x2,e2,m2,a2⟩:=B9 x1 [59] (by (try simp)<;>omega);try simp only [List.length_cons,List.length_nil] at m2
   simp only [go_sem,seval,a1,a2,hw1];repeat' ((with_reducible apply wr)<;>try simp only [go_sem,seval,a1,a2,hw1])
   exact ⟨_,_,GL.refl _ _,x2,j1,by rw [e2,e1];exact .one (q:=([115,116,111,112,32],[116,109],2)) (by simp [oneL]) g1,by omega,b1,rfl,rfl⟩
 by_cases k11:k=11
 ·subst k11;cases qd;all_goals
   simp only [go_sem,seval,hqd];repeat' ((with_reducible apply wr)<;>try simp only [go_sem,seval,hqd,hw1])
   refine AC.call (I4 L hL w hw [109,111,100,101] (by decide) 3 (by decide) (by decide) j hj _ _ t A0 (by omega)) ?_;rintro v' H' c3 ⟨r1,j1,g1,l1,b1,rfl,rfl⟩ hc3;rw [A1];obtain ⟨x1,e1,m1,a1⟩:=B9 [98,101,103,105,110,32] r1 (by (try simp)<;>omega);try simp only [List.length_cons,List.length_nil] at m1
   obtain ⟨x2,e2,m2,a2⟩:=B9 x1 [59] (by (try simp)<;>omega);try simp only [List.length_cons,List.length_nil] at m2
   simp only [go_sem,seval,a1,a2,hw1];repeat' ((with_reducible apply wr)<;>try simp only [go_sem,seval,a1,a2,hw1])
   exact ⟨_,_,GL.refl _ _,x2,j1,by rw [e2,e1];exact .one (q:=([98,101,103,105,110,32],[109,111,100,101],3)) (by simp [oneL]) g1,by omega,b1,rfl,rfl⟩
 by_cases k12:k=12
 ·subst k12;cases qd;all_goals
   simp only [go_sem,seval,hqd];repeat' ((with_reducible apply wr)<;>try simp only [go_sem,seval,hqd,hw1])
   refine AC.call (I4 L hL w hw [109,111,100,101] (by decide) 3 (by decide) (by decide) j hj _ _ t A0 (by omega)) ?_;rintro v' H' c3 ⟨r1,j1,g1,l1,b1,rfl,rfl⟩ hc3;rw [A1];obtain ⟨x1,e1,m1,a1⟩:=B9 [101,110,100,32] r1 (by (try simp)<;>omega);try simp only [List.length_cons,List.length_nil] at m1
   obtain ⟨x2,e2,m2,a2⟩:=B9 x1 [59] (by (try simp)<;>omega);try simp only [List.length_cons,List.length_nil] at m2
   simp only [go_sem,seval,a1,a2,hw1];repeat' ((with_reducible apply wr)<;>try simp only [go_sem,seval,a1,a2,hw1])
   exact ⟨_,_,GL.refl _ _,x2,j1,by rw [e2,e1];exact .one (q:=([101,110,100,32],[109,111,100,101],3)) (by simp [oneL]) g1,by omega,b1,rfl,rfl⟩
 by_cases k13:k=13
 ·subst k13;cases qd;all_goals
   simp only [go_sem,seval,hqd];repeat' ((with_reducible apply wr)<;>try simp only [go_sem,seval,hqd,hw1])
   refine AC.call (I4 L hL w hw [101,118] (by decide) 2 (by decide) (by decide) j hj _ _ t A0 (by omega)) ?_;rintro v' H' c3 ⟨r1,j1,g1,l1,b1,rfl,rfl⟩ hc3;rw [A1];obtain ⟨x1,e1,m1,a1⟩:=B9 [112,111,115,116,32] r1 (by (try simp)<;>omega);try simp only [List.length_cons,List.length_nil] at m1
   obtain ⟨x2,e2,m2,a2⟩:=B9 x1 [59] (by (try simp)<;>omega);try simp only [List.length_cons,List.length_nil] at m2
   simp only [go_sem,seval,a1,a2,hw1];repeat' ((with_reducible apply wr)<;>try simp only [go_sem,seval,a1,a2,hw1])
   exact ⟨_,_,GL.refl _ _,x2,j1,by rw [e2,e1];exact .one (q:=([112,111,115,116,32],[101,118],2)) (by simp [oneL]) g1,by omega,b1,rfl,rfl⟩
 by_cases k14:k=14
 ·subst k14;cases qd;all_goals
   simp only [go_sem,seval,hqd];repeat' ((with_reducible apply wr)<;>try simp only [go_sem,seval,hqd,hw1])
   refine AC.call (I4 L hL w hw [115,110,100] (by decide) 2 (by decide) (by decide) j hj _ _ t A0 (by omega)) ?_;rintro v' H' c3 ⟨r1,j1,g1,l1,b1,rfl,rfl⟩ hc3;rw [A1];obtain ⟨x1,e1,m1,a1⟩:=B9 [112,108,97,121,32] r1 (by (try simp)<;>omega);try simp only [List.length_cons,List.length_nil] at m1
   obtain ⟨x2,e2,m2,a2⟩:=B9 x1 [59] (by (try simp)<;>omega);try simp only [List.length_cons,List.length_nil] at m2
   simp only [go_sem,seval,a1,a2,hw1];repeat' ((with_reducible apply wr)<;>try simp only [go_sem,seval,a1,a2,hw1])
   exact ⟨_,_,GL.refl _ _,x2,j1,by rw [e2,e1];exact .one (q:=([112,108,97,121,32],[115,110,100],2)) (by simp [oneL]) g1,by omega,b1,rfl,rfl⟩
 by_cases k17:k=17
 ·subst k17;cases qd;all_goals
   simp only [go_sem,seval,hqd];repeat' ((with_reducible apply wr)<;>try simp only [go_sem,seval,hqd,hw1])
   exact ⟨_,_,GL.refl _ _,_,j,.con,by first|(simp;done)|(simp;omega),hj,rfl,rfl⟩
 by_cases k6:k=6
 ·subst k6;cases qd;all_goals
   simp only [go_sem,seval,hqd];repeat' ((with_reducible apply wr)<;>try simp only [go_sem,seval,hqd,hw1])
   refine AC.call (O0 L hL w 3 (by decide) (by decide) j hj _ _ t (by rw [hide1 (by omega)];exact A0) (by omega)) ?_;rintro v' H' c3 ⟨k3,j1,hlt3,b1,rfl,rfl⟩ hc3;have hmg:∀ (X:Hp) (B:Blk),G1 [c2] X ((J9 X [c2]).upd t B)=X.upd t B:=fun X B=>A2g (by omega);have hia:L8 1 (.slc c2 0 3) (I64 (k3:Int))=some (.ptr c2 k3):=by simp [L8];omega
   have hld:([.str [102,105,114,101,32],.str [104,111,108,100,32],.str [114,101,108,101,97,115,101,32]]:List DV)[k3]? = some (.str (firL.getD k3 [])):=by
    match k3,hlt3 with
    | 0,_=>rfl
    | 1,_=>rfl
    | 2,_=>rfl
   have hg:=J6 (l:=firL) (n:=10) (by decide) k3;generalize hog:firL.getD k3 []=og at hg hld;generalize hWL:([.str [102,105,114,101,32],.str [104,111,108,100,32],.str [114,101,108,101,97,115,101,32]]:List DV)=WL at hld ⊢;have ne0:=L0 t c2 (by omega);simp only [go_sem,seval,hmg,A0,A1,ne0,hia,hld,hw1];refine ⟨by and_intros<;>first|rfl|(rw [<- hWL];done)|((repeat rw [A2 (by omega)]);exact hfr _ (by omega)),?_⟩;refine AC.call (I4 L hL w hw [99,111,105,108] (by decide) 3 (by decide) (by decide) j1 b1 _ _ t (by simp only [J9];rw [if_neg (by simp;omega)];exact A0) (by omega)) ?_;rintro v' H' c4 ⟨r1,j2,g1,l1,b2,rfl,rfl⟩ hc4;obtain ⟨x1,e1,m1,a1⟩:=B9 og r1 (by (try simp)<;>omega);try simp only [List.length_cons,List.length_nil] at m1
   obtain ⟨x2,e2,m2,a2⟩:=B9 x1 [59] (by (try simp)<;>omega);try simp only [List.length_cons,List.length_nil] at m2
   simp only [go_sem,seval,hmg,A0,A1,ne0,hia,hld,hw1,a1,a2];refine ⟨by and_intros<;>first|rfl|(rw [<- hWL];done)|((repeat rw [A2 (by omega)]);exact hfr _ (by omega)),?_⟩;repeat' ((with_reducible apply wr)<;>try simp only [go_sem,seval])
   exact ⟨_,_,X4 hfr htc (by omega),x2,j2,by rw [e2,e1, <- hog];exact .fir hlt3 g1,by omega,b2,rfl,rfl⟩
 by_cases k15:k=15
 ·subst k15;cases qd;all_goals
   simp only [go_sem,seval,hqd];repeat' ((with_reducible apply wr)<;>try simp only [go_sem,seval,hqd,hw1])
   refine AC.call (O0 L hL w 2 (by decide) (by decide) j hj _ _ t (by rw [hide1 (by omega)];exact A0) (by omega)) ?_;rintro v' H' c3 ⟨k3,j1,hlt3,b1,rfl,rfl⟩ hc3;have hmg:∀ (X:Hp) (B:Blk),G1 [c2] X ((J9 X [c2]).upd t B)=X.upd t B:=fun X B=>A2g (by omega);have hia:L8 1 (.slc c2 0 2) (I64 (k3:Int))=some (.ptr c2 k3):=by simp [L8];omega
   have hld:([.str [114,117,110,32],.str [104,97,108,116,32]]:List DV)[k3]? = some (.str (runL.getD k3 [])):=by
    match k3,hlt3 with
    | 0,_=>rfl
    | 1,_=>rfl
   have hg:=J6 (l:=runL) (n:=10) (by decide) k3;generalize hog:runL.getD k3 []=og at hg hld;generalize hWL:([.str [114,117,110,32],.str [104,97,108,116,32]]:List DV)=WL at hld ⊢;have ne0:=L0 t c2 (by omega);simp only [go_sem,seval,hmg,A0,A1,ne0,hia,hld,hw1];refine ⟨by and_intros<;>first|rfl|(rw [<- hWL];done)|((repeat rw [A2 (by omega)]);exact hfr _ (by omega)),?_⟩;refine AC.call (I4 L hL w hw [115,104,111,119] (by decide) 2 (by decide) (by decide) j1 b1 _ _ t (by simp only [J9];rw [if_neg (by simp;omega)];exact A0) (by omega)) ?_;rintro v' H' c4 ⟨r1,j2,g1,l1,b2,rfl,rfl⟩ hc4;obtain ⟨x1,e1,m1,a1⟩:=B9 og r1 (by (try simp)<;>omega);try simp only [List.length_cons,List.length_nil] at m1
   obtain ⟨x2,e2,m2,a2⟩:=B9 x1 [59] (by (try simp)<;>omega);try simp only [List.length_cons,List.length_nil] at m2
   simp only [go_sem,seval,hmg,A0,A1,ne0,hia,hld,hw1,a1,a2];refine ⟨by and_intros<;>first|rfl|(rw [<- hWL];done)|((repeat rw [A2 (by omega)]);exact hfr _ (by omega)),?_⟩;repeat' ((with_reducible apply wr)<;>try simp only [go_sem,seval])
   exact ⟨_,_,X4 hfr htc (by omega),x2,j2,by rw [e2,e1, <- hog];exact .run hlt3 g1,by omega,b2,rfl,rfl⟩
 by_cases k16:k=16
 ·subst k16;cases qd;all_goals
   simp only [go_sem,seval,hqd];repeat' ((with_reducible apply wr)<;>try simp only [go_sem,seval,hqd,hw1])
   refine AC.call (O0 L hL w 4 (by decide) (by decide) j hj _ _ t (by rw [hide1 (by omega)];exact A0) (by omega)) ?_;rintro v' H' c3 ⟨k3,j1,hlt3,b1,rfl,rfl⟩ hc3;have hmg:∀ (X:Hp) (B:Blk),G1 [c2] X ((J9 X [c2]).upd t B)=X.upd t B:=fun X B=>A2g (by omega);have hia:L8 1 (.slc c2 0 4) (I64 (k3:Int))=some (.ptr c2 k3):=by simp [L8];omega
   have hld:([.str [103,111],.str [106,97,99,107,112,111,116],.str [97,92,34,98],.str []]:List DV)[k3]? = some (.str (txtL.getD k3 [])):=by
    match k3,hlt3 with
    | 0,_=>rfl
    | 1,_=>rfl
    | 2,_=>rfl
    | 3,_=>rfl
   have hg:=J6 (l:=txtL) (n:=10) (by decide) k3;generalize hog:txtL.getD k3 []=og at hg hld;generalize hWL:([.str [103,111],.str [106,97,99,107,112,111,116],.str [97,92,34,98],.str []]:List DV)=WL at hld ⊢;have ne0:=L0 t c2 (by omega);obtain ⟨x1,e1,m1,a1⟩:=B9 [116,101,120,116,32,34] og (by (try simp)<;>omega);try simp only [List.length_cons,List.length_nil] at m1
   obtain ⟨x2,e2,m2,a2⟩:=B9 x1 [34,44,32] (by (try simp)<;>omega);try simp only [List.length_cons,List.length_nil] at m2
   simp only [go_sem,seval,hmg,A0,A1,ne0,hia,hld,hw1,a1,a2];refine ⟨by and_intros<;>first|rfl|(rw [<- hWL];done)|((repeat rw [A2 (by omega)]);exact hfr _ (by omega)),?_⟩;refine AC.call (Q9 L hL w hw 0 (by decide) j1 b1 _ _ t (by simp only [J9];rw [if_neg (by simp;omega)];exact A0) (by omega)) ?_;rintro v' H' c4 ⟨r1,j2,g1,l1,b2,rfl,rfl⟩ hc4;obtain ⟨x3,e3,m3,a3⟩:=B9 x2 r1 (by (try simp)<;>omega);try simp only [List.length_cons,List.length_nil] at m3
   obtain ⟨x4,e4,m4,a4⟩:=B9 x3 [59] (by (try simp)<;>omega);try simp only [List.length_cons,List.length_nil] at m4
   simp only [go_sem,seval,hmg,A0,A1,ne0,hia,hld,hw1,a1,a2,a3,a4];refine ⟨by and_intros<;>first|rfl|(rw [<- hWL];done)|((repeat rw [A2 (by omega)]);exact hfr _ (by omega)),?_⟩;repeat' ((with_reducible apply wr)<;>try simp only [go_sem,seval])
   exact ⟨_,_,X4 hfr htc (by omega),x4,j2,by rw [e4,e3,e2,e1, <- hog];exact .txt hlt3 g1,by omega,b2,rfl,rfl⟩
 by_cases k18:k=18
 ·subst k18;cases qd;all_goals
   simp only [go_sem,seval,hqd];repeat' ((with_reducible apply wr)<;>try simp only [go_sem,seval,hqd,hw1])
   refine AC.call (I4 L hL w hw [118] (by decide) 3 (by decide) (by decide) j hj _ _ t A0 (by omega)) ?_;rintro v' H' c3 ⟨r1,j1,g1,l1,b1,rfl,rfl⟩ hc3;rw [A1];obtain ⟨x1,e1,m1,a1⟩:=B9 r1 [32,61,32] (by (try simp)<;>omega);try simp only [List.length_cons,List.length_nil] at m1
   simp only [go_sem,seval,a1,hw1];repeat' ((with_reducible apply wr)<;>try simp only [go_sem,seval,a1,hw1])
   refine AC.call (Q9 L hL w hw 2 (by decide) j1 b1 _ _ t A0 (by omega)) ?_;rintro v' H' c4 ⟨r2,j2,g2,l2,b2,rfl,rfl⟩ hc4;rw [A1];obtain ⟨x2,e2,m2,a2⟩:=B9 x1 r2 (by (try simp)<;>omega);try simp only [List.length_cons,List.length_nil] at m2
   obtain ⟨x3,e3,m3,a3⟩:=B9 x2 [59] (by (try simp)<;>omega);try simp only [List.length_cons,List.length_nil] at m3
   simp only [go_sem,seval,a2,a3,hw1];repeat' ((with_reducible apply wr)<;>try simp only [go_sem,seval,a2,a3,hw1])
   exact ⟨_,_,GL.refl _ _,x3,j2,by rw [e3,e2,e1];exact .asg g1 g2,by omega,b2,rfl,rfl⟩
 by_cases k19:k=19
 ·subst k19;cases qd;all_goals
   simp only [go_sem,seval,hqd];repeat' ((with_reducible apply wr)<;>try simp only [go_sem,seval,hqd,hw1])
   refine AC.call (I4 L hL w hw [118] (by decide) 3 (by decide) (by decide) j hj _ _ t A0 (by omega)) ?_;rintro v' H' c3 ⟨r1,j1,g1,l1,b1,rfl,rfl⟩ hc3;rw [A1];obtain ⟨x1,e1,m1,a1⟩:=B9 r1 [32,61,32] (by (try simp)<;>omega);try simp only [List.length_cons,List.length_nil] at m1
   simp only [go_sem,seval,a1,hw1];repeat' ((with_reducible apply wr)<;>try simp only [go_sem,seval,a1,hw1])
   refine AC.call (Q9 L hL w hw 2 (by decide) j1 b1 _ _ t A0 (by omega)) ?_;rintro v' H' c4 ⟨r2,j2,g2,l2,b2,rfl,rfl⟩ hc4;rw [A1];obtain ⟨x2,e2,m2,a2⟩:=B9 x1 r2 (by (try simp)<;>omega);try simp only [List.length_cons,List.length_nil] at m2
   obtain ⟨x3,e3,m3,a3⟩:=B9 x2 [59] (by (try simp)<;>omega);try simp only [List.length_cons,List.length_nil] at m3
   simp only [go_sem,seval,a2,a3,hw1];repeat' ((with_reducible apply wr)<;>try simp only [go_sem,seval,a2,a3,hw1])
   exact ⟨_,_,GL.refl _ _,x3,j2,by rw [e3,e2,e1];exact .asg g1 g2,by omega,b2,rfl,rfl⟩
 by_cases k0:k=0
 ·subst k0;cases qd;all_goals
   simp only [go_sem,seval,hqd];repeat' ((with_reducible apply wr)<;>try simp only [go_sem,seval,hqd,hw1])
   refine AC.call (I4 L hL w hw [118] (by decide) 3 (by decide) (by decide) j hj _ _ t A0 (by omega)) ?_;rintro v' H' c3 ⟨r1,j1,g1,l1,b1,rfl,rfl⟩ hc3;rw [A1];obtain ⟨x1,e1,m1,a1⟩:=B9 r1 [32,61,32] (by (try simp)<;>omega);try simp only [List.length_cons,List.length_nil] at m1
   simp only [go_sem,seval,a1,hw1];repeat' ((with_reducible apply wr)<;>try simp only [go_sem,seval,a1,hw1])
   refine AC.call (Q9 L hL w hw 2 (by decide) j1 b1 _ _ t A0 (by omega)) ?_;rintro v' H' c4 ⟨r2,j2,g2,l2,b2,rfl,rfl⟩ hc4;rw [A1];obtain ⟨x2,e2,m2,a2⟩:=B9 x1 r2 (by (try simp)<;>omega);try simp only [List.length_cons,List.length_nil] at m2
   obtain ⟨x3,e3,m3,a3⟩:=B9 x2 [59] (by (try simp)<;>omega);try simp only [List.length_cons,List.length_nil] at m3
   simp only [go_sem,seval,a2,a3,hw1];repeat' ((with_reducible apply wr)<;>try simp only [go_sem,seval,a2,a3,hw1])
   exact ⟨_,_,GL.refl _ _,x3,j2,by rw [e3,e2,e1];exact .asg g1 g2,by omega,b2,rfl,rfl⟩
 by_cases k3:k=3
 ·subst k3;cases qd
  rotate_left
  ·simp only [go_sem,seval,hqd];repeat' ((with_reducible apply wr)<;>try simp only [go_sem,seval,hqd,hw1])
   refine AC.call (I4 L hL w hw [118] (by decide) 3 (by decide) (by decide) j hj _ _ t A0 (by omega)) ?_;rintro v' H' c3 ⟨r1,j1,g1,l1,b1,rfl,rfl⟩ hc3;rw [A1];obtain ⟨x1,e1,m1,a1⟩:=B9 r1 [32,61,32] (by (try simp)<;>omega);try simp only [List.length_cons,List.length_nil] at m1
   simp only [go_sem,seval,a1,hw1];repeat' ((with_reducible apply wr)<;>try simp only [go_sem,seval,a1,hw1])
   refine AC.call (Q9 L hL w hw 2 (by decide) j1 b1 _ _ t A0 (by omega)) ?_;rintro v' H' c4 ⟨r2,j2,g2,l2,b2,rfl,rfl⟩ hc4;rw [A1];obtain ⟨x2,e2,m2,a2⟩:=B9 x1 r2 (by (try simp)<;>omega);try simp only [List.length_cons,List.length_nil] at m2
   obtain ⟨x3,e3,m3,a3⟩:=B9 x2 [59] (by (try simp)<;>omega);try simp only [List.length_cons,List.length_nil] at m3
   simp only [go_sem,seval,a2,a3,hw1];repeat' ((with_reducible apply wr)<;>try simp only [go_sem,seval,a2,a3,hw1])
   exact ⟨_,_,GL.refl _ _,x3,j2,by rw [e3,e2,e1];exact .asg g1 g2,by omega,b2,rfl,rfl⟩
  have hK':=hK.resolve_left (hqf rfl);simp only [go_sem,seval,hqd];repeat' ((with_reducible apply wr)<;>try simp only [go_sem,seval,hqd,hw1])
  refine AC.call (Q9 L hL w hw 0 (by decide) j hj _ _ t A0 (by omega)) ?_;rintro v' H' c3 ⟨r1,j1,g1,l1,b1,rfl,rfl⟩ hc3;rw [A1];obtain ⟨x1,e1,m1,a1⟩:=B9 [114,101,112,101,97,116,32] r1 (by (try simp)<;>omega);try simp only [List.length_cons,List.length_nil] at m1
  obtain ⟨x2,e2,m2,a2⟩:=B9 x1 [32] (by (try simp)<;>omega);try simp only [List.length_cons,List.length_nil] at m2
  simp only [go_sem,seval,a1,a2,hw1];repeat' ((with_reducible apply wr)<;>try simp only [go_sem,seval,a1,a2,hw1])
  refine AC.call (hK' j1 b1 _ _ t A0 (by omega)) ?_;rintro v' H' c4 ⟨r2,j2,g2,l2,b2,rfl,rfl⟩ hc4;rw [A1];obtain ⟨x3,e3,m3,a3⟩:=B9 x2 r2 (by (try simp)<;>omega);try simp only [List.length_cons,List.length_nil] at m3
  simp only [go_sem,seval,a3,hw1];repeat' ((with_reducible apply wr)<;>try simp only [go_sem,seval,a3,hw1])
  exact ⟨_,_,GL.refl _ _,x3,j2,by rw [e3,e2,e1];exact .rep g1 g2,by omega,b2,rfl,rfl⟩
 by_cases k1:k=1
 ·subst k1;cases qd
  rotate_left
  ·simp only [go_sem,seval,hqd];repeat' ((with_reducible apply wr)<;>try simp only [go_sem,seval,hqd,hw1])
   refine AC.call (I4 L hL w hw [118] (by decide) 3 (by decide) (by decide) j hj _ _ t A0 (by omega)) ?_;rintro v' H' c3 ⟨r1,j1,g1,l1,b1,rfl,rfl⟩ hc3;rw [A1];obtain ⟨x1,e1,m1,a1⟩:=B9 r1 [32,61,32] (by (try simp)<;>omega);try simp only [List.length_cons,List.length_nil] at m1
   simp only [go_sem,seval,a1,hw1];repeat' ((with_reducible apply wr)<;>try simp only [go_sem,seval,a1,hw1])
   refine AC.call (Q9 L hL w hw 2 (by decide) j1 b1 _ _ t A0 (by omega)) ?_;rintro v' H' c4 ⟨r2,j2,g2,l2,b2,rfl,rfl⟩ hc4;rw [A1];obtain ⟨x2,e2,m2,a2⟩:=B9 x1 r2 (by (try simp)<;>omega);try simp only [List.length_cons,List.length_nil] at m2
   obtain ⟨x3,e3,m3,a3⟩:=B9 x2 [59] (by (try simp)<;>omega);try simp only [List.length_cons,List.length_nil] at m3
   simp only [go_sem,seval,a2,a3,hw1];repeat' ((with_reducible apply wr)<;>try simp only [go_sem,seval,a2,a3,hw1])
   exact ⟨_,_,GL.refl _ _,x3,j2,by rw [e3,e2,e1];exact .asg g1 g2,by omega,b2,rfl,rfl⟩
  have hK':=hK.resolve_left (hqf rfl);simp only [go_sem,seval,hqd];repeat' ((with_reducible apply wr)<;>try simp only [go_sem,seval,hqd,hw1])
  refine AC.call (A5w L hL w hw 1 (by decide) j hj _ _ t A0 (by omega)) ?_;rintro v' H' c3 ⟨r1,j1,g1,l1,b1,rfl,rfl⟩ hc3;rw [A1];obtain ⟨x1,e1,m1,a1⟩:=B9 [105,102,32] r1 (by (try simp)<;>omega);try simp only [List.length_cons,List.length_nil] at m1
  obtain ⟨x2,e2,m2,a2⟩:=B9 x1 [32] (by (try simp)<;>omega);try simp only [List.length_cons,List.length_nil] at m2
  simp only [go_sem,seval,a1,a2,hw1];repeat' ((with_reducible apply wr)<;>try simp only [go_sem,seval,a1,a2,hw1])
  refine AC.call (hK' j1 b1 _ _ t A0 (by omega)) ?_;rintro v' H' c4 ⟨r2,j2,g2,l2,b2,rfl,rfl⟩ hc4;rw [A1];obtain ⟨x3,e3,m3,a3⟩:=B9 x2 r2 (by (try simp)<;>omega);try simp only [List.length_cons,List.length_nil] at m3
  simp only [go_sem,seval,a3,hw1];repeat' ((with_reducible apply wr)<;>try simp only [go_sem,seval,a3,hw1])
  refine AC.call (O0 L hL w 3 (by decide) (by decide) j2 b2 _ _ t A0 (by omega)) ?_;rintro v' H' c5 ⟨q,j3,hq,b3,rfl,rfl⟩ hc5;rw [A1];by_cases q1:q=1
  ·subst q1;obtain ⟨x4,e4,m4,a4⟩:=B9 x3 [32,101,108,115,101,32] (by (try simp)<;>omega);try simp only [List.length_cons,List.length_nil] at m4
   simp only [go_sem,seval,a4,hw1];repeat' ((with_reducible apply wr)<;>try simp only [go_sem,seval,a4,hw1])
   refine AC.call (hK' j3 b3 _ _ t A0 (by omega)) ?_;rintro v' H' c6 ⟨r4,j4,g4,l4,b4,rfl,rfl⟩ hc6;rw [A1];obtain ⟨x5,e5,m5,a5⟩:=B9 x4 r4 (by (try simp)<;>omega);try simp only [List.length_cons,List.length_nil] at m5
   simp only [go_sem,seval,a5,hw1];repeat' ((with_reducible apply wr)<;>try simp only [go_sem,seval,a5,hw1])
   exact ⟨_,_,GL.refl _ _,x5,j4,by rw [e5,e4,e3,e2,e1];exact .ifB g1 g2 g4,by omega,b4,rfl,rfl⟩
  by_cases q2:q=2
  ·subst q2;obtain ⟨x4,e4,m4,a4⟩:=B9 x3 [32,101,108,115,101,32,105,102,32] (by (try simp)<;>omega);try simp only [List.length_cons,List.length_nil] at m4
   simp only [go_sem,seval,a4,hw1];repeat' ((with_reducible apply wr)<;>try simp only [go_sem,seval,a4,hw1])
   refine AC.call (A5w L hL w hw 0 (by decide) j3 b3 _ _ t A0 (by omega)) ?_;rintro v' H' c6 ⟨r4,j4,g4,l4,b4,rfl,rfl⟩ hc6;rw [A1];obtain ⟨x5,e5,m5,a5⟩:=B9 x4 r4 (by (try simp)<;>omega);try simp only [List.length_cons,List.length_nil] at m5
   obtain ⟨x6,e6,m6,a6⟩:=B9 x5 [32] (by (try simp)<;>omega);try simp only [List.length_cons,List.length_nil] at m6
   simp only [go_sem,seval,a5,a6,hw1];repeat' ((with_reducible apply wr)<;>try simp only [go_sem,seval,a5,a6,hw1])
   refine AC.call (hK' j4 b4 _ _ t A0 (by omega)) ?_;rintro v' H' c7 ⟨r5,j5,g5,l5,b5,rfl,rfl⟩ hc7;rw [A1];obtain ⟨x7,e7,m7,a7⟩:=B9 x6 r5 (by (try simp)<;>omega);try simp only [List.length_cons,List.length_nil] at m7
   simp only [go_sem,seval,a7,hw1];repeat' ((with_reducible apply wr)<;>try simp only [go_sem,seval,a7,hw1])
   exact ⟨_,_,GL.refl _ _,x7,j5,by rw [e7,e6,e5,e4,e3,e2,e1];exact .ifC g1 g2 g4 g5,by omega,b5,rfl,rfl⟩
  obtain rfl:q=0:=by omega
  simp only [go_sem,seval];repeat' ((with_reducible apply wr)<;>try simp only [go_sem,seval])
  exact ⟨_,_,GL.refl _ _,x3,j3,by rw [e3,e2,e1];exact .ifA g1 g2,by omega,b3,rfl,rfl⟩
 by_cases k2:k=2
 ·subst k2;cases qd
  rotate_left
  ·simp only [go_sem,seval,hqd];repeat' ((with_reducible apply wr)<;>try simp only [go_sem,seval,hqd,hw1])
   refine AC.call (I4 L hL w hw [118] (by decide) 3 (by decide) (by decide) j hj _ _ t A0 (by omega)) ?_;rintro v' H' c3 ⟨r1,j1,g1,l1,b1,rfl,rfl⟩ hc3;rw [A1];obtain ⟨x1,e1,m1,a1⟩:=B9 r1 [32,61,32] (by (try simp)<;>omega);try simp only [List.length_cons,List.length_nil] at m1
   simp only [go_sem,seval,a1,hw1];repeat' ((with_reducible apply wr)<;>try simp only [go_sem,seval,a1,hw1])
   refine AC.call (Q9 L hL w hw 2 (by decide) j1 b1 _ _ t A0 (by omega)) ?_;rintro v' H' c4 ⟨r2,j2,g2,l2,b2,rfl,rfl⟩ hc4;rw [A1];obtain ⟨x2,e2,m2,a2⟩:=B9 x1 r2 (by (try simp)<;>omega);try simp only [List.length_cons,List.length_nil] at m2
   obtain ⟨x3,e3,m3,a3⟩:=B9 x2 [59] (by (try simp)<;>omega);try simp only [List.length_cons,List.length_nil] at m3
   simp only [go_sem,seval,a2,a3,hw1];repeat' ((with_reducible apply wr)<;>try simp only [go_sem,seval,a2,a3,hw1])
   exact ⟨_,_,GL.refl _ _,x3,j2,by rw [e3,e2,e1];exact .asg g1 g2,by omega,b2,rfl,rfl⟩
  have hK':=hK.resolve_left (hqf rfl);simp only [go_sem,seval,hqd];repeat' ((with_reducible apply wr)<;>try simp only [go_sem,seval,hqd,hw1])
  refine AC.call (A5w L hL w hw 1 (by decide) j hj _ _ t A0 (by omega)) ?_;rintro v' H' c3 ⟨r1,j1,g1,l1,b1,rfl,rfl⟩ hc3;rw [A1];obtain ⟨x1,e1,m1,a1⟩:=B9 [105,102,32] r1 (by (try simp)<;>omega);try simp only [List.length_cons,List.length_nil] at m1
  obtain ⟨x2,e2,m2,a2⟩:=B9 x1 [32] (by (try simp)<;>omega);try simp only [List.length_cons,List.length_nil] at m2
  simp only [go_sem,seval,a1,a2,hw1];repeat' ((with_reducible apply wr)<;>try simp only [go_sem,seval,a1,a2,hw1])
  refine AC.call (hK' j1 b1 _ _ t A0 (by omega)) ?_;rintro v' H' c4 ⟨r2,j2,g2,l2,b2,rfl,rfl⟩ hc4;rw [A1];obtain ⟨x3,e3,m3,a3⟩:=B9 x2 r2 (by (try simp)<;>omega);try simp only [List.length_cons,List.length_nil] at m3
  simp only [go_sem,seval,a3,hw1];repeat' ((with_reducible apply wr)<;>try simp only [go_sem,seval,a3,hw1])
  refine AC.call (O0 L hL w 3 (by decide) (by decide) j2 b2 _ _ t A0 (by omega)) ?_;rintro v' H' c5 ⟨q,j3,hq,b3,rfl,rfl⟩ hc5;rw [A1];by_cases q1:q=1
  ·subst q1;obtain ⟨x4,e4,m4,a4⟩:=B9 x3 [32,101,108,115,101,32] (by (try simp)<;>omega);try simp only [List.length_cons,List.length_nil] at m4
   simp only [go_sem,seval,a4,hw1];repeat' ((with_reducible apply wr)<;>try simp only [go_sem,seval,a4,hw1])
   refine AC.call (hK' j3 b3 _ _ t A0 (by omega)) ?_;rintro v' H' c6 ⟨r4,j4,g4,l4,b4,rfl,rfl⟩ hc6;rw [A1];obtain ⟨x5,e5,m5,a5⟩:=B9 x4 r4 (by (try simp)<;>omega);try simp only [List.length_cons,List.length_nil] at m5
   simp only [go_sem,seval,a5,hw1];repeat' ((with_reducible apply wr)<;>try simp only [go_sem,seval,a5,hw1])
   exact ⟨_,_,GL.refl _ _,x5,j4,by rw [e5,e4,e3,e2,e1];exact .ifB g1 g2 g4,by omega,b4,rfl,rfl⟩
  by_cases q2:q=2
  ·subst q2;obtain ⟨x4,e4,m4,a4⟩:=B9 x3 [32,101,108,115,101,32,105,102,32] (by (try simp)<;>omega);try simp only [List.length_cons,List.length_nil] at m4
   simp only [go_sem,seval,a4,hw1];repeat' ((with_reducible apply wr)<;>try simp only [go_sem,seval,a4,hw1])
   refine AC.call (A5w L hL w hw 0 (by decide) j3 b3 _ _ t A0 (by omega)) ?_;rintro v' H' c6 ⟨r4,j4,g4,l4,b4,rfl,rfl⟩ hc6;rw [A1];obtain ⟨x5,e5,m5,a5⟩:=B9 x4 r4 (by (try simp)<;>omega);try simp only [List.length_cons,List.length_nil] at m5
   obtain ⟨x6,e6,m6,a6⟩:=B9 x5 [32] (by (try simp)<;>omega);try simp only [List.length_cons,List.length_nil] at m6
   simp only [go_sem,seval,a5,a6,hw1];repeat' ((with_reducible apply wr)<;>try simp only [go_sem,seval,a5,a6,hw1])
   refine AC.call (hK' j4 b4 _ _ t A0 (by omega)) ?_;rintro v' H' c7 ⟨r5,j5,g5,l5,b5,rfl,rfl⟩ hc7;rw [A1];obtain ⟨x7,e7,m7,a7⟩:=B9 x6 r5 (by (try simp)<;>omega);try simp only [List.length_cons,List.length_nil] at m7
   simp only [go_sem,seval,a7,hw1];repeat' ((with_reducible apply wr)<;>try simp only [go_sem,seval,a7,hw1])
   exact ⟨_,_,GL.refl _ _,x7,j5,by rw [e7,e6,e5,e4,e3,e2,e1];exact .ifC g1 g2 g4 g5,by omega,b5,rfl,rfl⟩
  obtain rfl:q=0:=by omega
  simp only [go_sem,seval];repeat' ((with_reducible apply wr)<;>try simp only [go_sem,seval])
  exact ⟨_,_,GL.refl _ _,x3,j3,by rw [e3,e2,e1];exact .ifA g1 g2,by omega,b3,rfl,rfl⟩
 omega
def A0i (ss:List (List UInt8)):List UInt8:=ss.foldl (fun a x=>(a++[32])++x) [123]
theorem A3n (ss:List (List UInt8)) (x:List UInt8):A0i (ss++[x])=(A0i ss++[32])++x:=by unfold A0i;rw [List.foldl_append];rfl
def BkG (P:List UInt8->Prop) (s:List UInt8):Prop:=∃ ss:List (List UInt8),ss.length<=3/\(∀ x∈ss,P x)/\s=A0i ss++[32,125]
theorem m_block (L:List UInt8) (hL:L.length<=300) (w:Nat) (D:Int) (sb:Nat) (hsb:sb<=10000000) (P:List UInt8->Prop) (hS:MC 139 [I64 D] L w sb P) :
  MC 107 [I64 D] L w (3 * sb+10) (BkG P):=by
 intro i hi H cc t ht htc;refine AC.body A6 isU107 (Nat.le_of_ble_eq_true rfl) fun hfr=>?_;show IW Tryz.prog 21 u107_1 ⟨B1 _,_,_⟩ (rt [.tmp 4] _);repeat' ((with_reducible apply wr)<;>try simp only [go_sem,seval])
 refine AC.call (O0 L hL w 4 (by decide) (by decide) i hi _ _ t ht (by omega)) ?_;rintro v' H' c2 ⟨k,j,hlt,hj,rfl,rfl⟩ hc2;simp only [go_sem,seval];repeat' ((with_reducible apply wr)<;>try simp only [go_sem,seval])
 refine C1 (fun q:Nat × Nat × List (List UInt8)=>[(0,.ptr t 0),(1,I64 D),(5,.str (A0i q.2.2)),(6,I64 q.1)]) (fun q=>H.upd t (mkB L w q.2.1))
  (fun q c=>cc<=c/\q.1+q.2.2.length<=3/\q.2.1<=300/\(∀ x∈q.2.2,P x)/\(A0i q.2.2).length<=1+q.2.2.length * (sb+1)) (fun q=>q.1) (k,j,[])
  (by simp [B7,tm,Tm.upd,A0i]) (Sub.refl _) ⟨hc2,(by show k+0<=3;omega),hj,(fun x hx=>absurd hx (List.not_mem_nil)),(by show 1<=1+0 * _;omega)⟩ ?_
 rintro ⟨n,i2,ss⟩ c ⟨hc,hn,hi2,hP,hl⟩;dsimp only at hc hn hi2 hP hl ⊢;have hs3:ss.length * (sb+1)<=3 * (sb+1):=Nat.mul_le_mul_right _ (by omega);by_cases h0:0<n
 ·have qn:decide ((n:Int)>0)=true:=by simpa using h0
  have hs2:ss.length * (sb+1)<=2 * (sb+1):=Nat.mul_le_mul_right _ (by omega);obtain ⟨n,rfl⟩:∃ m,n=m+1:=⟨n-1,by omega⟩;have hw1:IntKind.i64.wrap (((n+1:Nat):Int)-1)=(n:Int):=by rw [w64 (by omega) (by omega)];omega
  generalize hn1:((n+1:Nat):Int)=N1 at qn hw1 ⊢;obtain ⟨x1,e1,m1,a1⟩:=B9 (A0i ss) [32] (by (try simp)<;>omega);try simp only [List.length_cons,List.length_nil] at m1
  repeat' ((with_reducible apply wr)<;>try simp only [go_sem,seval,qn,a1])
  refine AC.call (hS i2 hi2 _ _ t A0 (by omega)) ?_;rintro v' H' c3 ⟨r,i3,g,l,hi3,rfl,rfl⟩ hc3;obtain ⟨x2,e2,m2,a2⟩:=B9 x1 r (by omega);rw [A1];simp only [go_sem,seval,a1,a2,hw1];repeat' ((with_reducible apply wr)<;>try simp only [go_sem,seval,a1,a2,hw1])
  refine ⟨(n,i3,ss++[r]),?_,Sub.refl _,inv ⟨by omega,by simp;omega,hi3,?_,?_⟩,by simp only;omega⟩
  ·rw [e1] at e2;simp [B7,tm,Tm.upd,A3n,e2]
  ·intro x hx;rcases List.mem_append.1 hx with hx|hx
   ·exact hP x hx
   ·rw [List.mem_singleton.1 hx];exact g
  ·rw [A3n, <- e1, <- e2,List.length_append,List.length_singleton,Nat.add_mul];omega
 ·obtain rfl:n=0:=by omega
  obtain ⟨x1,e1,m1,a1⟩:=B9 (A0i ss) [32,125] (by (try simp)<;>omega);try simp only [List.length_cons,List.length_nil] at m1
  repeat' ((with_reducible apply wr)<;>try simp only [go_sem,seval,a1])
  exact ⟨_,_,GL.refl _ _,x1,i2,⟨ss,by omega,hP,e1⟩,by omega,hi2,rfl,rfl⟩
def StD (L:List UInt8) (w:Nat):Nat->List UInt8->Prop
 | 0=>StG L w fun _=>False
 | d+1=>StG L w (BkG (StD L w d))
def sbD:Nat->Nat
 | 0=>8000
 | d+1=>2 * (3 * sbD d+10)+8000
theorem m_stmt (L:List UInt8) (hL:L.length<=300) (w:Nat) (hw:w<=100):∀ d:Nat,d<=2->MC 139 [I64 d] L w (sbD d) (StD L w d)
 | 0,_=>c_Stmt L hL w hw 0 (by omega) (by omega) 0 (by omega) _ (.inl (by omega))
 | d+1,h=>by
  have hs:∀ d,d<=2->sbD d<=1000000:=by decide
  have h1:=m_stmt L hL w hw d (by omega);have h2:=m_block L hL w (d:Int) (sbD d) (by have:=hs d (by omega);omega) _ h1;have e:(((d+1:Nat):Int)-1)=(d:Int):=by omega
  refine c_Stmt L hL w hw ((d+1:Nat):Int) (by omega) (by omega) (3 * sbD d+10) (by have:=hs d (by omega);omega) _ (.inr ?_);rw [e];exact h2
theorem m_blk2 (L:List UInt8) (hL:L.length<=300) (w:Nat) (hw:w<=100):MC 107 [I64 2] L w 2000000 (BkG (StD L w 2)):=by
 intro i hi H cc t ht htc;refine (m_block L hL w ((2:Nat):Int) (sbD 2) (by decide) _ (m_stmt L hL w hw 2 (by omega)) i hi H cc t ht htc).mono ?_;rintro v H' c' ⟨s,j,h1,h2,h3⟩;exact ⟨s,j,h1,Nat.le_trans h2 (by decide),h3⟩
def trgL:List (List UInt8):=[[115,116,97,114,116],[115,116,111,112],[99,108,111,115,101,32,115,119,48],[111,112,101,110,32,115,119,48],[99,108,111,115,101,32,115,119,49],[99,108,111,115,101,32,115,119,50],[116,105,109,101,114,32,116,109,48],[116,105,109,101,114,32,116,109,49],[101,118,101,110,116,32,101,118,48],[101,118,101,110,116,32,101,118,49],[111,112,101,110,32,115,119,51]]
def trgV:List DV:=[.str [115,116,97,114,116],.str [115,116,111,112],.str [99,108,111,115,101,32,115,119,48],.str [111,112,101,110,32,115,119,48],.str [99,108,111,115,101,32,115,119,49],.str [99,108,111,115,101,32,115,119,50],.str [116,105,109,101,114,32,116,109,48],.str [116,105,109,101,114,32,116,109,49],.str [101,118,101,110,116,32,101,118,48],.str [101,118,101,110,116,32,101,118,49],.str [111,112,101,110,32,115,119,51]]
theorem trgV_get {k:Nat} (h:k<11):trgV[k]? = some (.str (trgL.getD k [])):=by
 match k,h with
 | 0,_=>rfl
 | 1,_=>rfl
 | 2,_=>rfl
 | 3,_=>rfl
 | 4,_=>rfl
 | 5,_=>rfl
 | 6,_=>rfl
 | 7,_=>rfl
 | 8,_=>rfl
 | 9,_=>rfl
 | 10,_=>rfl
inductive HdG (L:List UInt8) (w k:Nat):List UInt8->Prop where
 | std {x:List UInt8}:BkG (StD L w 2) x->HdG L w k ((([111,110,32]++trgL.getD (k % 11) [])++[32])++x)
 | wild {n x:List UInt8}:0<w->NmS L w [115,119] 4 n->BkG (StD L w 2) x->HdG L w k ((([111,110,32]++([99,108,111,115,101,32]++n))++[32])++x)
theorem m_handler (L:List UInt8) (hL:L.length<=300) (w:Nat) (hw:w<=100) (k:Nat) (hk:k<=1000):MC 69 [I64 k] L w 2001000 (HdG L w k):=by
 intro i hi H cc t ht htc;refine AC.body A6 isU69 (Nat.le_of_ble_eq_true rfl) fun hfr=>?_;show IW Tryz.prog 34 u69_1 ⟨B1 _,_,_⟩ (rt [.tmp 4] _);have hrm:binR .rem (I64 (k:Int)) (.int .i64 11)=some (I64 ((k % 11:Nat):Int)):=by rw [A4k (by decide)];rfl
 repeat' ((with_reducible apply wr)<;>try simp only [go_sem,seval,hrm])
 have hm11:=Nat.mod_lt k (show 0<11 by decide);have hld:=trgV_get hm11;have hg:=J6 (l:=trgL) (n:=10) (by decide) (k % 11);have hcon:∀ x,BkG (StD L w 2) x->HdG L w k ((([111,110,32]++trgL.getD (k % 11) [])++[32])++x):=fun x hx=>.std hx;generalize k % 11=m at hm11 hld hg hcon ⊢;generalize trgL.getD m []=tr at hld hg hcon ⊢;have hia:L8 1 (.slc cc 0 11) (I64 (m:Int))=some (.ptr cc m):=by simp [L8];omega
 rw [show ([.str [115,116,97,114,116],.str [115,116,111,112],.str [99,108,111,115,101,32,115,119,48],.str [111,112,101,110,32,115,119,48],.str [99,108,111,115,101,32,115,119,49],.str [99,108,111,115,101,32,115,119,50],.str [116,105,109,101,114,32,116,109,48],.str [116,105,109,101,114,32,116,109,49],.str [101,118,101,110,116,32,101,118,48],.str [101,118,101,110,116,32,101,118,49],.str [111,112,101,110,32,115,119,51]]:List DV)=trgV from rfl];generalize trgV=WL at hld ⊢;have ne0:=L0 t cc (by omega);have kB:∀ (i2 c0:Nat) (tx:List UInt8),i2<=300->cc+1<=c0->tx.length<=300->(∀ x,BkG (StD L w 2) x->HdG L w k ((([111,110,32]++tx)++[32])++x)) ->
   IW Tryz.prog 34 u69_7 ⟨tm [(0,.ptr t 0),(5,.str tx)],(H.upd cc ⟨1,true,WL⟩).upd t (mkB L w i2),c0⟩ (rt [.tmp 4] fun v H' c' => ∃ v2 H2,GL H' [v] H2 [v2]/\∃ s j,HdG L w k s/\s.length<=2001000/\j<=300/\v2=.str s/\H2=H.upd t (mkB L w j)):=by
  intro i2 c0 tx hi2 hc0 htx hx;obtain ⟨x1,e1,m1,a1⟩:=B9 [111,110,32] tx (by (try simp)<;>omega);try simp only [List.length_cons,List.length_nil] at m1
  obtain ⟨x2,e2,m2,a2⟩:=B9 x1 [32] (by (try simp)<;>omega);try simp only [List.length_cons,List.length_nil] at m2
  repeat' ((with_reducible apply wr)<;>try simp only [go_sem,seval,a1,a2])
  refine AC.call (m_blk2 L hL w hw i2 hi2 _ _ t A0 (by omega)) ?_;rintro v' H' c3 ⟨r,j,g,l,b,rfl,rfl⟩ hc3;obtain ⟨x3,e3,m3,a3⟩:=B9 x2 r (by omega);rw [A1];simp only [go_sem,seval,a3];repeat' ((with_reducible apply wr)<;>try simp only [go_sem,seval,a3])
  refine ⟨_,_,GL.less' (fun j2 q hj=>?_),x3,j,by rw [e3,e2,e1];exact hx r g,by omega,b,rfl,rfl⟩;by_cases e:j2=t
  ·subst e;rw [A0] at hj ⊢;exact hj
  ·rw [A2 e] at hj ⊢;have:j2≠cc:=by rintro rfl;rw [hfr _ (by omega)] at hj;cases hj
   rw [A2 this];exact hj
 simp only [go_sem,seval,ne0,hia,hld,A0,ht];by_cases h0:0<w
 ·have q0:decide ((w:Int)>0)=true:=by simpa using h0
  repeat' ((with_reducible apply wr)<;>try simp only [go_sem,seval,ne0,hia,hld,A0,ht,q0])
  refine AC.call (O0 L hL w w h0 (by omega) i hi _ _ t (by rw [A2 (by omega)];exact ht) (by omega)) ?_;rintro v' H' c2 ⟨q,j,hq,hj,rfl,rfl⟩ hc2;by_cases q1:q=1
  ·subst q1;simp only [go_sem,seval];repeat' ((with_reducible apply wr)<;>try simp only [go_sem,seval])
   refine AC.call (I4 L hL w hw [115,119] (by decide) 4 (by decide) (by decide) j hj _ _ t A0 (by omega)) ?_;rintro v' H' c3 ⟨r,j2,g,l,b,rfl,rfl⟩ hc3;obtain ⟨x1,e1,m1,a1⟩:=B9 [99,108,111,115,101,32] r (by (try simp)<;>omega);try simp only [List.length_cons,List.length_nil] at m1
   rw [A1];simp only [go_sem,seval,a1];repeat' ((with_reducible first|refine F9 (p:=IW _ _ u69_7 _ _) ?_|refine wr ?_|fail)<;>try simp only [go_sem,seval,a1])
   exact IW.stage (by simp [B7,tm,Tm.upd]) (kB j2 _ x1 b (by omega) (by omega) (fun x hx=>by rw [e1];exact .wild h0 g hx))
  ·have qq:((q:Int) == 1)=false:=by simp;omega
   simp only [go_sem,seval,qq];repeat' ((with_reducible first|refine F9 (p:=IW _ _ u69_7 _ _) ?_|refine wr ?_|fail)<;>try simp only [go_sem,seval,qq])
   exact IW.stage (by simp [B7,tm,Tm.upd]) (kB j _ tr hj (by omega) (by omega) hcon)
 ·have q0:decide ((w:Int)>0)=false:=by simpa using h0
  repeat' ((with_reducible first|refine F9 (p:=IW _ _ u69_7 _ _) ?_|refine wr ?_|fail)<;>try simp only [go_sem,seval,ne0,hia,hld,A0,ht,q0])
  have:=kB i (cc+1) tr hi (Nat.le_refl _) (by omega) hcon;rw [upd_same (by rw [A2 (by omega)];exact ht)] at this;exact IW.stage (by simp [B7,tm,Tm.upd]) this
def ruA:List UInt8:=[115,119,105,116,99,104,32,115,119,48,32,51,59,32,115,119,105,116,99,104,32,115,119,49,32,57,59,32,115,119,105,116,99,104,32,115,119,50,32,52,48,59,32,115,119,105,116,99,104,32,115,119,51,32,54,51,59,10,99,111,105,108,32,99,111,105,108,48,32,48,59,32,99,111,105,108,32,99,111,105,108,49,32,55,59,32,99,111,105,108,32,99,111,105,108,50,32,51,49,59,10,108,97,109,112,32,108,97,109,112,48,32,48,59,32,108,97,109,112,32,108,97,109,112,49,32,57,59,32,108,97,109,112,32,108,97,109,112,50,32,51,51,59,32,108,97,109,112,32,108,97,109,112,51,32,54,51,59,10,115,111,117,110,100,32,115,110,100,48,32,48,59,32,115,111,117,110,100,32,115,110,100,49,32,53,59,32,115,104,111,119,32,115,104,111,119,48,32,48,59,32,115,104,111,119,32,115,104,111,119,49,32,49,59,10]
def ruB:List UInt8:=[118,97,114,32,118,48,32]
def ruC:List UInt8:=[59,32,118,97,114,32,118,49,32,49,59,32,118,97,114,32,118,50,32,48,59,32,116,105,109,101,114,32,116,109,48,59,32,116,105,109,101,114,32,116,109,49,59,32,101,118,101,110,116,32,101,118,48,59,32,101,118,101,110,116,32,101,118,49,59,10]
def v0L:List (List UInt8):=[[48],[53],[45,55],[50,49,52,55,52,56,51,54,52,55]]
def v0V:List DV:=[.str [48],.str [53],.str [45,55],.str [50,49,52,55,52,56,51,54,52,55]]
theorem v0V_get {k:Nat} (h:k<4):v0V[k]? = some (.str (v0L.getD k [])):=by
 match k,h with
 | 0,_=>rfl
 | 1,_=>rfl
 | 2,_=>rfl
 | 3,_=>rfl
def W0 (s:List UInt8) (hs:List (List UInt8)):List UInt8:=hs.foldl (fun a x=>(a++x)++[10]) s
theorem foldH_snoc (s:List UInt8) (hs:List (List UInt8)) (x:List UInt8):W0 s (hs++[x])=(W0 s hs++x)++[10]:=by unfold W0;rw [List.foldl_append];rfl
def mdHead (s:List UInt8) (i p:Nat):List UInt8:=((((s++[109,111,100,101,32,109,111,100,101])++N6 (i:Int))++[32])++N6 (p:Int))++[32,123,10]
inductive RuP (L:List UInt8) (w:Nat):Nat->List UInt8->Prop where
 | head {k:Nat}:k<4->RuP L w 0 (((ruA++ruB)++v0L.getD k [])++ruC)
 | mode {i p k:Nat} {s:List UInt8} {hs:List (List UInt8)}:RuP L w i s->p<4->k<11->hs.length<=4->(∀ j x,hs[j]? = some x->HdG L w (k+j) x)->RuP L w (i+1) (W0 (mdHead s i p) hs++[125,10])
theorem m_rules (L:List UInt8) (hL:L.length<=300) (w:Nat) (hw:w<=100):MC 35 [] L w 30000000 (RuP L w 3):=by
 intro i hi H cc t ht htc;refine AC.body A6 isU35 (Nat.le_of_ble_eq_true rfl) fun hfr=>?_;show IW Tryz.prog 50 u35_1 ⟨B1 _,_,_⟩ (rt [.tmp 2] _);obtain ⟨x1,e1,m1,a1⟩:=B9 ruA ruB (by decide);have l1:x1.length<=300:=by rw [m1];decide
 replace a1:binR .add (.str [115,119,105,116,99,104,32,115,119,48,32,51,59,32,115,119,105,116,99,104,32,115,119,49,32,57,59,32,115,119,105,116,99,104,32,115,119,50,32,52,48,59,32,115,119,105,116,99,104,32,115,119,51,32,54,51,59,10,99,111,105,108,32,99,111,105,108,48,32,48,59,32,99,111,105,108,32,99,111,105,108,49,32,55,59,32,99,111,105,108,32,99,111,105,108,50,32,51,49,59,10,108,97,109,112,32,108,97,109,112,48,32,48,59,32,108,97,109,112,32,108,97,109,112,49,32,57,59,32,108,97,109,112,32,108,97,109,112,50,32,51,51,59,32,108,97,109,112,32,108,97,109,112,51,32,54,51,59,10,115,111,117,110,100,32,115,110,100,48,32,48,59,32,115,111,117,110,100,32,115,110,100,49,32,53,59,32,115,104,111,119,32,115,104,111,119,48,32,48,59,32,115,104,111,119,32,115,104,111,119,49,32,49,59,10]) (.str [118,97,114,32,118,48,32])=some (.str x1):=a1;dsimp only at a1;repeat' ((with_reducible apply wr)<;>try simp only [go_sem,seval,a1])
 refine AC.call (O0 L hL w 4 (by decide) (by decide) i hi _ _ t (by rw [A2 (by omega)];exact ht) (by omega)) ?_;rintro v' H' c3 ⟨k3,j1,hlt3,b1,rfl,rfl⟩ hc3;have hia:L8 1 (.slc (cc) 0 4) (I64 (k3:Int))=some (.ptr (cc) k3):=by simp [L8];omega
 have hld:=v0V_get hlt3;have hg:=J6 (l:=v0L) (n:=10) (by decide) k3;have hcon:RuP L w 0 (((ruA++ruB)++v0L.getD k3 [])++ruC):=.head hlt3;generalize hog:v0L.getD k3 []=og at hg hld hcon;generalize hWL:v0V=WL at hld;have hWL2:[.str [48],.str [53],.str [45,55],.str [50,49,52,55,52,56,51,54,52,55]]=WL:=hWL;have ne0:=L0 t cc (by omega);obtain ⟨x2,e2,m2,a2⟩:=B9 x1 og (by omega);have l2:ruC.length<=100:=by decide
 obtain ⟨x3,e3,m3,a3⟩:=B9 x2 ruC (by omega);replace a3:binR .add (.str x2) (.str [59,32,118,97,114,32,118,49,32,49,59,32,118,97,114,32,118,50,32,48,59,32,116,105,109,101,114,32,116,109,48,59,32,116,105,109,101,114,32,116,109,49,59,32,101,118,101,110,116,32,101,118,48,59,32,101,118,101,110,116,32,101,118,49,59,10])=some (.str x3):=a3;dsimp only at a3;simp only [go_sem,seval,A0,A1,ne0,hia,hWL2,hld,a1,a2,a3];have hfin:∀ (B:Blk) ds,GL ((H.upd cc ⟨1,true,WL⟩).upd t B) ds (H.upd t B) ds:=fun B ds=>GL.less' (fun j2 q hj=>by
  by_cases e:j2=t
  ·subst e;rw [A0] at hj ⊢;exact hj
  ·rw [A2 e] at hj ⊢;have:j2≠cc:=by rintro rfl;rw [hfr _ (by omega)] at hj;cases hj
   rw [A2 this];exact hj)
 generalize H.upd cc ⟨1,true,WL⟩=G at hfin ⊢;have hx3:RuP L w 0 x3:=by rw [e3,e2,e1];exact hcon
 have l3:x3.length<=500:=by omega
 clear hcon e1 e2 e3 a1 a2 a3 hld hWL hWL2 hia;repeat' ((with_reducible apply wr)<;>try simp only [go_sem,seval])
 refine C1 (fun q:Nat × Nat × List UInt8=>[(0,.ptr t 0),(3,.str q.2.2),(4,I64 q.1)]) (fun q=>G.upd t (mkB L w q.2.1))
  (fun q c=>cc<=c/\q.1<=3/\q.2.1<=300/\RuP L w q.1 q.2.2/\q.2.2.length<=500+q.1 * 8100000) (fun q=>3-q.1) (0,j1,x3)
  (by simp [B7,tm,Tm.upd]) (Sub.refl _) ⟨(by omega),(by omega),b1,hx3,(by show x3.length<=500+0 * _;omega)⟩ ?_
 rintro ⟨i,j,s⟩ c ⟨hc,hi3,hj,hR,hl⟩;dsimp only at hc hi3 hj hR hl ⊢;have hl3:s.length<=25000000:=by have:i * 8100000<=3 * 8100000:=Nat.mul_le_mul_right _ hi3;omega
 by_cases h3:i<3
 ·have qi:decide ((i:Int)<3)=true:=by simp;omega
  have hdi:=c_Dec' (i:Int) (by omega) (by omega);have hdil:=N5 (n:=(i:Int)) (by omega) (by omega);obtain ⟨y1,f1,n1,c1⟩:=B9 s [109,111,100,101,32,109,111,100,101] (by (try simp)<;>omega);try simp only [List.length_cons,List.length_nil] at n1
  obtain ⟨y2,f2,n2,c2⟩:=B9 y1 (N6 (i:Int)) (by omega);obtain ⟨y3,f3,n3,c3⟩:=B9 y2 [32] (by (try simp)<;>omega);try simp only [List.length_cons,List.length_nil] at n3
  repeat' ((with_reducible first|apply wr|refine cpc hdi ?_|fail)<;>try simp only [go_sem,seval,qi,c1,c2,c3])
  refine AC.call (O0 L hL w 4 (by decide) (by decide) j hj _ _ t A0 (by omega)) ?_;rintro v' H' c4 ⟨p,j2,hp,b2,rfl,rfl⟩ hc4;rw [A1];have hdp:=c_Dec' (p:Int) (by omega) (by omega);have hdpl:=N5 (n:=(p:Int)) (by omega) (by omega);obtain ⟨y4,f4,n4,c5⟩:=B9 y3 (N6 (p:Int)) (by omega);obtain ⟨y5,f5,n5,c6⟩:=B9 y4 [32,123,10] (by (try simp)<;>omega);try simp only [List.length_cons,List.length_nil] at n5
  simp only [go_sem,seval,c5,c6];repeat' ((with_reducible first|apply wr|refine cpc hdp ?_|fail)<;>try simp only [go_sem,seval,c5,c6])
  refine AC.call (O0 L hL w 11 (by decide) (by decide) j2 b2 _ _ t A0 (by omega)) ?_;rintro v' H' c7 ⟨k,j3,hk,b3,rfl,rfl⟩ hc7;rw [A1];simp only [go_sem,seval];repeat' ((with_reducible apply wr)<;>try simp only [go_sem,seval])
  refine AC.call (O0 L hL w 5 (by decide) (by decide) j3 b3 _ _ t A0 (by omega)) ?_;rintro v' H' c8 ⟨n,j4,hn,b4,rfl,rfl⟩ hc8;rw [A1];simp only [go_sem,seval];repeat' ((with_reducible apply wr)<;>try simp only [go_sem,seval])
  have hy:y5=mdHead s i p:=by rw [f5,f4,f3,f2,f1];rfl
  have ly:y5.length<=s.length+200:=by omega
  refine C1 (fun q:Nat × Nat × List (List UInt8)=>[(0,.ptr t 0),(3,.str (W0 y5 q.2.2)),(4,I64 i),(5,I64 (k+q.2.2.length:Nat)),(6,I64 q.1)]) (fun q=>G.upd t (mkB L w q.2.1))
   (fun q n=>cc<=n/\q.1+q.2.2.length<=4/\q.2.1<=300/\(∀ j x,q.2.2[j]? = some x->HdG L w (k+j) x)/\(W0 y5 q.2.2).length<=y5.length+q.2.2.length * 2001001) (fun q=>q.1) (n,j4,[])
   (by simp [B7,tm,Tm.upd,W0]) (Sub.refl _) ⟨(by omega),(by show n+0<=4;omega),b4,(fun j x h=>by cases h),(by show y5.length<=y5.length+0 * _;omega)⟩ ?_
  clear hc8 b4 hn n j4 c8;rintro ⟨n,j5,hs⟩ c8 ⟨hc8,hn,b5,hH,lh⟩;dsimp only at hc8 hn b5 hH lh ⊢;have hs4:hs.length * 2001001<=4 * 2001001:=Nat.mul_le_mul_right _ (by omega);by_cases h0:0<n
  ·have qn:decide ((n:Int)>0)=true:=by simpa using h0
   have hs3:hs.length * 2001001<=3 * 2001001:=Nat.mul_le_mul_right _ (by omega);obtain ⟨n,rfl⟩:∃ m,n=m+1:=⟨n-1,by omega⟩;have hw1:IntKind.i64.wrap (((n+1:Nat):Int)-1)=(n:Int):=by rw [w64 (by omega) (by omega)];omega
   have hw2:IntKind.i64.wrap (((k+hs.length:Nat):Int)+1)=((k+hs.length+1:Nat):Int):=by rw [w64 (by omega) (by omega)];omega
   generalize hn1:((n+1:Nat):Int)=N1 at qn hw1 ⊢;generalize hk1:k+hs.length=K1 at hw2 ⊢;repeat' ((with_reducible apply wr)<;>try simp only [go_sem,seval,qn])
   refine AC.call (m_handler L hL w hw K1 (by omega) j5 b5 _ _ t A0 (by omega)) ?_;rintro v' H' c9 ⟨r,j6,g,l,b6,rfl,rfl⟩ hc9;obtain ⟨z1,g1,o1,d1⟩:=B9 (W0 y5 hs) r (by omega);obtain ⟨z2,g2,o2,d2⟩:=B9 z1 [10] (by (try simp)<;>omega);try simp only [List.length_cons,List.length_nil] at o2
   rw [A1];simp only [go_sem,seval,d1,d2,hw1,hw2];repeat' ((with_reducible apply wr)<;>try simp only [go_sem,seval,d1,d2,hw1,hw2])
   have e1:W0 y5 (hs++[r])=z2:=by rw [foldH_snoc,g2,g1]
   have e2:(hs++[r]).length=hs.length+1:=by simp
   refine ⟨(n,j6,hs++[r]),?_,Sub.refl _,inv ⟨(by omega),(by show n+(hs++[r]).length<=4;omega),b6,(fun j x hx=>?_),(by show (W0 y5 (hs++[r])).length<=y5.length+(hs++[r]).length * 2001001;rw [e1,e2,Nat.add_mul];omega)⟩,(by simp only;omega)⟩
   ·simp only [e1,e2];simp [B7,tm,Tm.upd];omega
   ·by_cases hj2:j<hs.length
    ·rw [List.getElem?_append_left hj2] at hx;exact hH j x hx
    ·rw [List.getElem?_append_right (by omega)] at hx;have hj3:j-hs.length=0:=by
      have:=(List.getElem?_eq_some_iff.1 hx).1;simp at this;omega
     rw [hj3] at hx;cases hx;obtain rfl:j=hs.length:=by omega
     rw [hk1];exact g
  ·obtain rfl:n=0:=by omega
   obtain ⟨z1,g1,o1,d1⟩:=B9 (W0 y5 hs) [125,10] (by (try simp)<;>omega);try simp only [List.length_cons,List.length_nil] at o1
   have hw2:IntKind.i64.wrap ((i:Int)+1)=((i+1:Nat):Int):=by rw [w64 (by omega) (by omega)];omega
   repeat' ((with_reducible apply wr)<;>try simp only [go_sem,seval,d1,hw2])
   refine ⟨(i+1,j5,z1),(by simp [B7,tm,Tm.upd]),Sub.refl _,inv ⟨(by omega),(by omega),b5,(by show RuP L w (i+1) z1;rw [g1,hy];exact .mode hR hp hk (by omega) hH),(by show z1.length<=500+(i+1) * 8100000;rw [Nat.add_mul];omega)⟩,(by simp only;omega)⟩
 ·obtain rfl:i=3:=by omega
  repeat' ((with_reducible apply wr)<;>try simp only [go_sem,seval])
  exact ⟨_,_,hfin _ _,s,j,hR,by omega,hj,rfl,rfl⟩
theorem c_New (l:List UInt8) (hl:l.length<=9223372036854775807) (H:Hp) (cc:Nat) :
  AC Tryz.prog 22 [.lst (bytesC l)] H cc (fun v H' c' => ∃ t,cc<=t/\t<c'/\v=.ptr t 0/\H'=H.upd t (mkB (l.take 300) 0 0)):=by
 refine AC.body A6 isU22 (Nat.le_of_ble_eq_true rfl) fun hfr=>?_;show IW Tryz.prog 10 u22_1 ⟨B1 _,_,_⟩ (rt [.tmp 2] _);have hlen:(bytesC l).length=l.length:=by simp [bytesC]
 have hmin:(if (300:Int)<((l.length:Nat):Int) then (300:Int) else ((l.length:Nat):Int))=((min l.length 300:Nat):Int):=by split<;>omega
 have hsl:A0t H 1 (.lst (bytesC l)) none (some (I64 ((min l.length 300:Nat):Int)))=some (.lst (bytesC (l.take 300))):=by
  have hb:boundOf (bytesC l).length (some (I64 ((min l.length 300:Nat):Int)))=some (min l.length 300):=by simp [boundOf]
  have hu:Sym.unit 1 (bytesC l)=true:=by simp only [Sym.unit,bytesC,List.all_map];exact List.all_eq_true.2 fun x _=>rfl
  simp only [A0t,hb];have h0:boundOf 0 none=some 0:=rfl;rw [h0];dsimp only;rw [if_pos ⟨by rw [hlen];omega,Nat.zero_le _,hu⟩];rw [List.drop_zero,Nat.sub_zero];unfold bytesC;rw [<- List.map_take];have e:l.take (min l.length 300)=l.take 300:=by
   rcases Nat.le_total l.length 300 with h|h
   ·rw [Nat.min_eq_left h,List.take_of_length_le (Nat.le_refl _),List.take_of_length_le h]
   ·rw [Nat.min_eq_right h]
  rw [e]
 repeat' ((with_reducible apply wr)<;>try simp only [go_sem,seval,hlen,hmin,hsl])
 exact ⟨_,_,GL.refl _ _,cc,Nat.le_refl _,Nat.lt_succ_self _,rfl,rfl⟩
theorem c_Made (l:List UInt8) (hl:l.length<=9223372036854775807) (u:UInt8) (H:Hp) (cc:Nat) :
  AC Tryz.prog 13 [.lst (bytesC l),.int .u8 (u.toNat:Int)] H cc (fun v H' c' => ∃ s,RuP (l.take 300) (u.toNat % 20) 3 s/\v=(O9 s).1.v/\H'=H):=by
 refine AC.body A6 isU13 (Nat.le_of_ble_eq_true rfl) fun hfr=>?_;show IW Tryz.prog 25 u13_1 ⟨B1 _,_,_⟩ (rt [.cell 4 2 true] _);have hb:=u.toNat_lt;have h300:(l.take 300).length<=300:=by rw [List.length_take];omega
 repeat' ((with_reducible apply wr)<;>try simp only [go_sem,seval])
 refine AC.call (c_New l hl _ _) ?_;rintro v' H' c2 ⟨t,ht1,ht2,rfl,rfl⟩ hc2;have hrm:binR .rem (.int .u8 (u.toNat:Int)) (.int .u8 20)=some (.int .u8 ((u.toNat % 20:Nat):Int)):=by rw [A4k (by decide)];rfl
 have hw1:IntKind.i64.wrap ((u.toNat % 20:Nat):Int)=((u.toNat % 20:Nat):Int):=w64 (by omega) (by omega);simp only [go_sem,seval,A0,A1];repeat' ((with_reducible apply wr)<;>try simp only [go_sem,seval,A0,A1,hrm,hw1])
 refine AC.call (m_rules (l.take 300) h300 (u.toNat % 20) (by omega) 0 (by omega) _ _ t A0 (by omega)) ?_;rintro v' H' c3 ⟨s,j,g,ls,b,rfl,rfl⟩ hc3;have hp:=c_Parse s (by omega);have hpv:parV (O9 s)=.tup [(O9 s).1.v,I64 (O9 s).2.1,I64 (O9 s).2.2]:=rfl;rw [hpv] at hp;generalize hr:(O9 s).1=r at hp;generalize (O9 s).2.1=r1 at hp;generalize (O9 s).2.2=r2 at hp;have hrv:r.v=.agg [E2 r.decls,D8 r.modes]:=rfl;rw [hrv] at hp;rw [A1];have ne0:=R8 cc t c3 (by omega);simp only [go_sem,seval,ne0,A0,A1];repeat' ((with_reducible first|apply wr|refine cpc hp ?_|fail)<;>try simp only [go_sem,seval,ne0,A0,A1])
 rw [C7 (rv2 rfl A0)];refine ⟨_,_,GL.less' (fun j2 q hj=>?_),s,g,by rw [hr],rfl⟩;have hj2:j2<cc:=Classical.byContradiction fun h=>by rw [hfr _ (by omega)] at hj;cases hj
 dsimp only;rw [A2 (by omega),A2 (by omega),A2 (by omega),A2 (by omega)];exact hj
theorem bytes_nl (l:List UInt8):DV.nlL (bytesC l)=true:=I8 (fun _=>rfl) l
end Go.Proofs.YtnmkkggfgdfmeaaGreatDoor
set_option linter.unusedSectionVars false
namespace Go.Pb
variable [Go.Sym.Tab]
open Go.Sym
theorem A2f {α : Type} [DecidableEq α] {l:List α} {x : α}:(l++[x]).Nodup↔l.Nodup/\x ∉ l:=by
 rw [List.nodup_append];constructor
 ·rintro ⟨h1, -,h2⟩;exact ⟨h1,fun hx=>h2 x hx x (List.mem_singleton.2 rfl) rfl⟩
 ·rintro ⟨h1,h2⟩;exact ⟨h1,by simp,fun a ha b hb e=>by rw [List.mem_singleton.1 hb] at e;exact h2 (e▸ha)⟩
theorem any_name {D:List Dc} {n:List UInt8}:D.any (fun d=>d.name == n)=false↔n ∉ D.map Dc.name:=by
 rw [List.any_eq_false];constructor
 ·intro h hm;obtain ⟨d,hd,rfl⟩:=List.mem_map.1 hm;exact h d hd (by simp)
 ·intro h d hd he;exact h (List.mem_map.2 ⟨d,hd,by simpa using he⟩)
theorem A5d {D:List Md} {n:List UInt8}:D.any (fun d=>d.name == n)=false↔n ∉ D.map Md.name:=by
 rw [List.any_eq_false];constructor
 ·intro h hm;obtain ⟨d,hd,rfl⟩:=List.mem_map.1 hm;exact h d hd (by simp)
 ·intro h d hd he;exact h (List.mem_map.2 ⟨d,hd,by simpa using he⟩)
theorem Q7.app {a b:List Dc}:Q7 (a++b)↔Q7 a/\Q7 b :=
 ⟨fun h=>⟨fun d hd=>h d (List.mem_append_left _ hd),fun d hd=>h d (List.mem_append_right _ hd)⟩,fun h d hd=>(List.mem_append.1 hd).elim (h.1 d) (h.2 d)⟩
theorem if_none {b:Prop} [Decidable b] {q:Int × Int}:((if b then some q else none):Er)=none↔¬b:=by
 split<;>simp [*]
theorem A3k {b:Prop} [Decidable b] {q:Int × Int}:((if b then none else some q):Er)=none↔b:=by
 split<;>simp [*]
theorem erD_none:∀ (D pre:List Dc),Q7 (pre++D)->(pre.map Dc.name).Nodup->(erD pre D=none↔(∀ d∈D,¬ d.value>mstM d.kind)/\((pre++D).map Dc.name).Nodup)
 | [],pre,hk,hn=>by rw [erD,List.append_nil];exact ⟨fun _=>⟨fun d hd=>(by cases hd),hn⟩,fun _=>rfl⟩
 | d :: l,pre,hk,hn=>by
  have hk':Q7 ((pre++[d])++l):=by rw [List.append_assoc];exact hk
  have hkp:Q7 pre:=(Q7.app.1 hk).1;have hl:=A2h pre [] d.name hkp;rw [any_name] at hl;rw [erD,Option.or_eq_none_iff,Option.or_eq_none_iff,if_none,A3k,hl];have e:pre++d :: l=(pre++[d])++l:=by simp
  by_cases hm:d.name∈pre.map Dc.name
  ·constructor
   ·rintro ⟨⟨-,h, -⟩, -⟩;exact absurd hm h
   ·rintro ⟨-,h⟩;rw [e,List.map_append,List.map_append] at h;exact absurd hm (A2f.1 (List.nodup_append.1 h).1).2
  ·have hn':((pre++[d]).map Dc.name).Nodup:=by rw [List.map_append];exact A2f.2 ⟨hn,hm⟩
   rw [erD_none l (pre++[d]) hk' hn',e];constructor
   ·rintro ⟨⟨h1, -⟩,h2,h3⟩;exact ⟨fun x hx=>(List.mem_cons.1 hx).elim (fun h=>h▸h1) (h2 x),h3⟩
   ·rintro ⟨h1,h2⟩;exact ⟨⟨h1 d List.mem_cons_self,hm,by simp⟩,fun x hx=>h1 x (List.mem_cons_of_mem _ hx),h2⟩
theorem A3q {D:List Dc} (hk:Q7 D):∀ (M pre:List Md),(D.map Dc.name++pre.map Md.name).Nodup->(erP D pre M=none↔(∀ m∈M,¬ m.prio>99)/\(D.map Dc.name++(pre++M).map Md.name).Nodup)
 | [],pre,hn=>by rw [erP,List.append_nil];exact ⟨fun _=>⟨fun d hd=>(by cases hd),hn⟩,fun _=>rfl⟩
 | m :: l,pre,hn=>by
  have hl:=A2h D pre m.name hk;rw [any_name,A5d] at hl;rw [erP,Option.or_eq_none_iff,Option.or_eq_none_iff,if_none,A3k,hl];have e:pre++m :: l=(pre++[m])++l:=by simp
  have e2:D.map Dc.name++(pre++[m]).map Md.name=(D.map Dc.name++pre.map Md.name)++[m.name]:=by simp
  by_cases hm:m.name∈D.map Dc.name++pre.map Md.name
  ·constructor
   ·rintro ⟨⟨-,h1,h2⟩, -⟩;exact absurd hm (by rw [List.mem_append];exact fun h=>h.elim h1 h2)
   ·rintro ⟨-,h⟩;rw [e,List.map_append, <- List.append_assoc,e2] at h;exact absurd hm (A2f.1 (List.nodup_append.1 h).1).2
  ·have hn':(D.map Dc.name++(pre++[m]).map Md.name).Nodup:=by rw [e2];exact A2f.2 ⟨hn,hm⟩
   rw [A3q hk l (pre++[m]) hn',e];rw [List.mem_append,not_or] at hm;constructor
   ·rintro ⟨⟨h1, -⟩,h2,h3⟩;exact ⟨fun x hx=>(List.mem_cons.1 hx).elim (fun h=>h▸h1) (h2 x),h3⟩
   ·rintro ⟨h1,h2⟩;exact ⟨⟨h1 m List.mem_cons_self,hm⟩,fun x hx=>h1 x (List.mem_cons_of_mem _ hx),h2⟩
def hdOk (D:List Dc) (M:List Md):Prop:=(∀ d∈D,¬ d.value>mstM d.kind)/\(∀ m∈M,¬ m.prio>99)/\(D.map Dc.name++M.map Md.name).Nodup
theorem A0g {D:List Dc} {M:List Md} (hk:Q7 D):heaE ⟨D,M⟩=none↔hdOk D M:=by
 unfold heaE hdOk;rw [Option.or_eq_none_iff,erD_none D [] hk List.nodup_nil];show (_/\(D.map Dc.name).Nodup)/\erP D [] M=none↔_;constructor
 ·rintro ⟨⟨h1,h2⟩,h3⟩;obtain ⟨h4,h5⟩:=(A3q hk M [] (by simpa using h2)).1 h3;exact ⟨h1,h4,h5⟩
 ·rintro ⟨h1,h4,h5⟩;have h2:(D.map Dc.name).Nodup:=(List.nodup_append.1 h5).1;exact ⟨⟨h1,h2⟩,(A3q hk M [] (by simpa using h2)).2 ⟨h4,h5⟩⟩
theorem lkD_kind (n:List UInt8):∀ (D pre:List Dc),(lkD pre D n).map (·.1)=(D.find? fun d=>d.name == n).map Dc.kind
 | [],pre=>rfl
 | d :: l,pre=>by
  rw [lkD,List.find?_cons];by_cases h:d.name=n
  ·rw [if_pos h,h];simp
  ·have hb:(d.name == n)=false:=by simpa using h
   rw [if_neg h,lkD_kind n l];simp only [hb]
theorem lkM_kind (n:List UInt8):∀ (M:List Md) (i:Nat),(lkM i M n).map (·.1)=if M.any (fun m=>m.name == n)=true then some 9 else none
 | [],i=>rfl
 | m :: l,i=>by
  rw [lkM,List.any_cons];by_cases h:m.name=n
  ·rw [if_pos h,h];simp
  ·rw [if_neg h,lkM_kind n l];simp [h]
theorem V6 (D:List Dc) (M:List Md) (n:List UInt8):(E5 ⟨D,M⟩ n).1=(((D.find? fun d=>d.name == n).map Dc.kind).or (if M.any (fun m=>m.name == n)=true then some 9 else none)).getD 0:=by
 rw [A5x, <- lkD_kind n D [], <- lkM_kind n M 0, <- Option.map_or];show (((lkD [] D n).or (lkM 0 M n)).getD (0,0)).1=_;cases (lkD [] D n).or (lkM 0 M n)<;>rfl
theorem nd_inj {D:List Dc} (h:(D.map Dc.name).Nodup):∀ {a b:Dc},a∈D->b∈D->a.name=b.name->a=b:=by
 induction D with
 | nil=>intro a b ha;cases ha
 | cons d l ih =>
  rw [List.map_cons,List.nodup_cons] at h;intro a b ha hb e;rcases List.mem_cons.1 ha with h1|h1
  ·rcases List.mem_cons.1 hb with h2|h2
   ·rw [h1,h2]
   ·exact absurd (List.mem_map.2 ⟨b,h2,by rw [<- e,h1]⟩) h.1
  ·rcases List.mem_cons.1 hb with h2|h2
   ·exact absurd (List.mem_map.2 ⟨a,h1,by rw [e,h2]⟩) h.1
   ·exact ih h.2 h1 h2 e
theorem find_of {D:List Dc} (h:(D.map Dc.name).Nodup) {d:Dc} (hd:d∈D):(D.find? fun x=>x.name == d.name)=some d:=by
 cases hf:D.find? fun x=>x.name == d.name with
 | none=>exact absurd (List.find?_eq_none.1 hf d hd) (by simp)
 | some x =>
  have h1:x.name=d.name:=by simpa using List.find?_some hf
  rw [nd_inj h (List.mem_of_find?_eq_some hf) hd h1]
def SmK (r r':Ru):Prop:=∀ n,(E5 r n).1=(E5 r' n).1
section
variable {r r':Ru} (h:SmK r r')
include h
end
section
variable {r r':Ru} (h:SmK r' r)
include h
end
end Go.Pb
namespace Go.Proofs.YtnmkkggfgdfmeaaGreatDoor
open Go.Eng (IC IOper DReg IFn A3)
open Go.Sym Go.Pb
theorem nz_chk (r:Ru):NzE (W1 r):=(nz_hea r).or (nz_M r _)
theorem A6h {r:Ru} (h:M1 r=true):chkV r=.tup [I64 ((W1 r).getD (0,0)).1,I64 ((W1 r).getD (0,0)).2]:=by
 unfold chkV;rw [if_pos h];cases W1 r<;>rfl
theorem chk_ok (r:Ru):(((W1 r).getD (0,0)).2 == 0)=(W1 r).isNone:=by
 cases h:W1 r with
 | none=>rfl
 | some q =>
  obtain ⟨p,c⟩:=q;have:=nz_chk r p c h;show (c == 0)=false;simpa using this
end Go.Proofs.YtnmkkggfgdfmeaaGreatDoor
namespace Go.Pb
variable [Go.Sym.Tab]
open Go.Sym
def R4 (r:Ru) (ns:List (List UInt8)):Ru:=⟨r.decls.filter fun d => !ns.contains d.name,r.modes⟩
theorem W9 {r:Ru} (h:M1 r=true) (ns:List (List UInt8)):M1 (R4 r ns)=true:=by
 unfold M1 at h ⊢;simp only [Bool.and_eq_true,decide_eq_true_eq] at h ⊢;refine ⟨⟨⟨Nat.le_trans (List.length_filter_le _ _) h.1.1.1,h.1.1.2⟩,?_⟩,h.2⟩;exact List.all_eq_true.2 fun d hd=>List.all_eq_true.1 h.1.2 d (List.mem_filter.1 hd).1
theorem hd_wth {r:Ru} (h:hdOk r.decls r.modes) (ns:List (List UInt8)):hdOk (R4 r ns).decls (R4 r ns).modes:=by
 obtain ⟨h1,h2,h3⟩:=h;refine ⟨fun d hd=>h1 d (List.mem_filter.1 hd).1,h2,?_⟩;exact List.Pairwise.sublist ((List.filter_sublist.map _).append (List.Sublist.refl _)) h3
theorem wth_sz (r:Ru) (ns:List (List UInt8)):(R4 r ns).sz<=r.sz:=by
 have:∀ (l:List Dc) (p:Dc->Bool),((l.filter p).map Dc.sz).sum<=(l.map Dc.sz).sum:=by
  intro l p
  induction l with
  | nil=>exact Nat.le_refl _
  | cons d l ih =>
   rw [List.filter_cons];split
   ·simp only [List.map_cons,List.sum_cons];omega
   ·simp only [List.map_cons,List.sum_cons];omega
 have:=this r.decls fun d => !ns.contains d.name;show ((r.decls.filter _).map Dc.sz).sum+(r.modes.map Md.sz).sum<=(r.decls.map Dc.sz).sum+(r.modes.map Md.sz).sum;omega
section
variable {r s:Ru}
theorem dnE_us {n:List UInt8} {k p:Int} (h:k≠0->(E5 s n).1=(E5 r n).1):dnE s n k p=dnE r n k p:=by
 unfold dnE dnM;by_cases hk:k=0
 ·simp [hk]
 ·rw [h hk]
mutual
theorem erE_us:∀ e:Ex,(∀ n,inE n e=true->(E5 s n).1=(E5 r n).1)->erE s e=erE r e
 | .mk k v n a p,h=>by
  rw [erE,erE,erEs_us a fun n hn=>h n (by rw [inE,hn,Bool.or_true]),dnE_us fun hk=>h n (by
   rw [inE];simp [hk])]
theorem erEs_us:∀ l:List Ex,(∀ n,V0 n l=true->(E5 s n).1=(E5 r n).1)->M3 s l=M3 r l
 | [],h=>rfl
 | x :: l,h=>by rw [M3,M3,erE_us x fun n hn=>h n (by rw [V0,hn,Bool.true_or]),erEs_us l fun n hn=>h n (by rw [V0,hn,Bool.or_true])]
end
theorem erA_us (b:Bool):∀ l:List Ex,(∀ n,V0 n l=true->(E5 s n).1=(E5 r n).1)->erA s b l=erA r b l
 | [],h=>rfl
 | x :: l,h=>by rw [erA,erA,erE_us x fun n hn=>h n (by rw [V0,hn,Bool.true_or]),erA_us b l fun n hn=>h n (by rw [V0,hn,Bool.or_true])]
mutual
theorem erS_us:∀ e:St,(∀ n,inS n e=true->(E5 s n).1=(E5 r n).1)->erS s e=erS r e
 | .mk k n t a x y p,h=>by
  rw [erS,erS,dnE_us fun _=>h n (by rw [inS];simp),erA_us _ a fun n hn=>h n (by rw [inS];simp [hn]),A6e x fun n hn=>h n (by rw [inS];simp [hn]),A6e y fun n hn=>h n (by rw [inS];simp [hn])]
theorem A6e:∀ l:List St,(∀ n,inB n l=true->(E5 s n).1=(E5 r n).1)->erB s l=erB r l
 | [],h=>rfl
 | x :: l,h=>by rw [erB,erB,erS_us x fun n hn=>h n (by rw [inB,hn,Bool.true_or]),A6e l fun n hn=>h n (by rw [inB,hn,Bool.or_true])]
end
theorem erH_us:∀ (l pre:List Hd),(∀ n,(l.any fun h=>h.name == n || inB n h.body)=true->(E5 s n).1=(E5 r n).1)->erH s pre l=erH r pre l
 | [],pre,h=>rfl
 | x :: l,pre,h=>by
  rw [erH,erH,dnE_us fun _=>h x.name (by simp),A6e x.body fun n hn=>h n (by simp [hn]),erH_us l _ fun n hn=>h n (by rw [List.any_cons,hn,Bool.or_true])]
theorem erM_us:∀ (l:List Md),(∀ n,(l.any fun m=>m.hds.any fun h=>h.name == n || inB n h.body)=true->(E5 s n).1=(E5 r n).1)->erM s l=erM r l
 | [],h=>rfl
 | x :: l,h=>by
  rw [erM,erM,erH_us x.hds [] fun n hn=>h n (by rw [List.any_cons,hn,Bool.true_or]),erM_us l fun n hn=>h n (by rw [List.any_cons,hn,Bool.or_true])]
end
theorem A5g {r:Ru} {d:Dc} (hd:d∈r.decls):(L6 r).contains d.name = !A0q r d.name:=by
 unfold L6;rw [Bool.eq_iff_iff,List.contains_iff_mem];constructor
 ·intro h;obtain ⟨x,hx,e⟩:=List.mem_map.1 h;have:=(List.mem_filter.1 hx).2;rw [e] at this;exact this
 ·intro h;exact List.mem_map.2 ⟨d,List.mem_filter.2 ⟨hd,h⟩,rfl⟩
theorem trim_ok {r:Ru} (hv:M1 r=true) (hc:W1 r=none):W1 (R4 r (L6 r))=none:=by
 have hk:=A0n hv;have hk':=A0n (W9 hv (L6 r));unfold W1 at hc ⊢;rw [Option.or_eq_none_iff] at hc;have hh:=(A0g hk).1 hc.1;have hh':=hd_wth hh (L6 r);rw [Option.or_eq_none_iff];refine ⟨(A0g hk').2 hh',?_⟩;rw [show (R4 r (L6 r)).modes=r.modes from rfl,erM_us (r:=r) r.modes ?_]
 ·exact hc.2
 intro n hn;have hn:A0q r n=true:=hn;have e1:E5 r n=E5 ⟨r.decls,r.modes⟩ n:=rfl;have e2:E5 (R4 r (L6 r)) n=E5 ⟨r.decls.filter fun d => !(L6 r).contains d.name,r.modes⟩ n:=rfl;rw [e1,e2,V6,V6]
 congr 2
 have hnd:(r.decls.map Dc.name).Nodup:=(List.nodup_append.1 hh.2.2).1;have hnd':((R4 r (L6 r)).decls.map Dc.name).Nodup:=(List.nodup_append.1 hh'.2.2).1;cases hf:r.decls.find? fun d=>d.name == n with
 | none =>
  have:((r.decls.filter fun d => !(L6 r).contains d.name).find? fun d=>d.name == n)=none :=
   List.find?_eq_none.2 fun x hx=>List.find?_eq_none.1 hf x (List.mem_filter.1 hx).1
  rw [this]
 | some d =>
  have h1:d.name=n:=by simpa using List.find?_some hf
  have hd:=List.mem_of_find?_eq_some hf;have hd':d∈(R4 r (L6 r)).decls:=List.mem_filter.2 ⟨hd,by rw [A5g hd,h1,hn];rfl⟩;have:=find_of hnd' hd';rw [h1] at this;exact congrArg (Option.map Dc.kind) this
theorem trim_nil (r:Ru):L6 (R4 r (L6 r))=[]:=by
 unfold L6;rw [List.map_eq_nil_iff,List.filter_eq_nil_iff];intro d hd;have h1:=(List.mem_filter.1 hd).1;have h2:=(List.mem_filter.1 hd).2;rw [show ((r.decls.filter fun d => !A0q r d.name).map Dc.name)=L6 r from rfl,A5g h1] at h2;have:A0q (R4 r (L6 r)) d.name=A0q r d.name:=rfl;show ¬(!A0q (R4 r (L6 r)) d.name)=true;rw [this];simpa using h2
def O8 (o:Er):Prop:=∀ p c,o=some (p,c)->c=8
theorem O8.or {a b:Er} (ha:O8 a) (hb:O8 b):O8 (a.or b):=by
 intro p c h;cases a with
 | none=>exact hb p c (by simpa using h)
 | some q=>exact ha p c (by simpa using h)
theorem M5:O8 none:=fun p c h=>by cases h
theorem K3 {a b:Er} (h:a≠none\/b≠none):a.or b≠none:=by
 intro e;rw [Option.or_eq_none_iff] at e;exact h.elim (fun h=>h e.1) (fun h=>h e.2)
structure Lk1 (s t:Ru) (nm:List UInt8):Prop where
 gone:(E5 t nm).1=0
 else_:∀ n,n≠nm->(E5 t n).1=(E5 s n).1
section
variable {s t:Ru} {nm:List UInt8} (h:Lk1 s t nm)
include h
theorem dn8 {n:List UInt8} {k p:Int} (hs:dnE s n k p=none):O8 (dnE t n k p)/\(k≠0->n=nm->dnE t n k p≠none):=by
 unfold dnE at hs;rw [A3k] at hs;unfold dnM at hs;by_cases hk:k=0
 ·subst hk;refine ⟨?_,fun h=>absurd rfl h⟩;unfold dnE dnM;simp only [true_or,if_true];exact M5
 ·by_cases hn:n=nm
  ·subst hn;have:dnM t n k=8:=by unfold dnM;rw [h.gone,if_neg (by omega),if_pos rfl]
   unfold dnE;rw [this];exact ⟨fun p c e=>by simp at e;exact e.2.symm,fun _ _=>by simp⟩
  ·refine ⟨?_,fun _ e=>absurd e hn⟩;unfold dnE dnM;rw [h.else_ n hn,if_pos hs];exact M5
mutual
theorem e8:∀ e:Ex,erE s e=none->O8 (erE t e)/\(inE nm e=true->erE t e≠none)
 | .mk k v n a p,hs=>by
  rw [erE,Option.or_eq_none_iff,Option.or_eq_none_iff] at hs;obtain ⟨⟨h1,h2⟩,h3⟩:=hs;obtain ⟨a1,a2⟩:=es8 a h1;obtain ⟨b1,b2⟩:=dn8 h h2;rw [erE,h3];refine ⟨(a1.or b1).or M5,fun hi=>K3 (.inl (K3 ?_))⟩;rw [inE,Bool.or_eq_true,Bool.and_eq_true] at hi;rcases hi with hi|hi
  ·exact .inr (b2 (by simpa using hi.1) (by simpa using hi.2))
  ·exact .inl (a2 hi)
theorem es8:∀ l:List Ex,M3 s l=none->O8 (M3 t l)/\(V0 nm l=true->M3 t l≠none)
 | [],hs=>⟨by rw [M3];exact M5,fun h=>by rw [V0] at h;cases h⟩
 | x :: l,hs=>by
  rw [M3,Option.or_eq_none_iff] at hs;obtain ⟨a1,a2⟩:=e8 x hs.1;obtain ⟨b1,b2⟩:=es8 l hs.2;rw [M3];refine ⟨a1.or b1,fun hi=>K3 ?_⟩;rw [V0,Bool.or_eq_true] at hi;exact hi.imp a2 b2
end
theorem a8 (b:Bool):∀ l:List Ex,erA s b l=none->O8 (erA t b l)/\(V0 nm l=true->erA t b l≠none)
 | [],hs=>⟨by rw [erA];exact M5,fun h=>by rw [V0] at h;cases h⟩
 | x :: l,hs=>by
  rw [erA,Option.or_eq_none_iff,Option.or_eq_none_iff] at hs;obtain ⟨a1,a2⟩:=e8 h x hs.1.1;obtain ⟨b1,b2⟩:=a8 b l hs.2;rw [erA,hs.1.2];refine ⟨(a1.or M5).or b1,fun hi=>K3 ?_⟩;rw [V0,Bool.or_eq_true] at hi;exact hi.imp (fun x=>K3 (.inl (a2 x))) b2
theorem shp_name {k:Int} (h1:1<=k) (h2:k<=19) (hk:kdS k=0):(R6 k).name=false:=by
 have:k=1\/k=2\/k=3\/k=4\/k=5\/k=6\/k=7\/k=8\/k=9\/k=10\/k=11\/k=12\/k=13\/k=14\/k=15\/k=16\/k=17\/k=18\/k=19:=by omega
 rcases this with rfl|rfl|rfl|rfl|rfl|rfl|rfl|rfl|rfl|rfl|rfl|rfl|rfl|rfl|rfl|rfl|rfl|rfl|rfl
 all_goals first|rfl|exact absurd hk (by decide)
variable (h0:nm≠[])
include h0
mutual
theorem s8:∀ (e:St) (d:Nat),R5 d e=true->erS s e=none->O8 (erS t e)/\(inS nm e=true->erS t e≠none)
 | .mk k n tt a x y p,d,hv,hs=>by
  rw [erS,Option.or_eq_none_iff,Option.or_eq_none_iff,Option.or_eq_none_iff] at hs;obtain ⟨⟨⟨h1,h2⟩,h3⟩,h4⟩:=hs;have hv1:=Y7 hv;obtain ⟨-,vx,vy⟩:=hv1;obtain ⟨a1,a2⟩:=dn8 h h1;obtain ⟨b1,b2⟩:=a8 h (k == 2) a h2;obtain ⟨c1,c2⟩:=b8 x (d+1) vx h3;obtain ⟨d1,d2⟩:=b8 y (d+1) vy h4;rw [erS];refine ⟨((a1.or b1).or c1).or d1,fun hi=>?_⟩;rw [inS,Bool.or_eq_true,Bool.or_eq_true,Bool.or_eq_true] at hi;rcases hi with ((hi|hi)|hi)|hi
  ·have hn:n=nm:=by simpa using hi
   have hk:kdS k≠0:=by
    intro hk;rw [R5] at hv;simp only [Bool.and_eq_true,decide_eq_true_eq] at hv;have hsh:=shp_name h hv.1.1.1.1.1 hv.1.1.1.1.2 hk;have:=hv.1.1.2.1;rw [hsh] at this;simp at this;exact h0 (hn▸this)
   exact K3 (.inl (K3 (.inl (K3 (.inl (a2 hk hn))))))
  ·exact K3 (.inl (K3 (.inl (K3 (.inr (b2 hi))))))
  ·exact K3 (.inl (K3 (.inr (c2 hi))))
  ·exact K3 (.inr (d2 hi))
theorem b8:∀ (l:List St) (d:Nat),F5 d l=true->erB s l=none->O8 (erB t l)/\(inB nm l=true->erB t l≠none)
 | [],d,hv,hs=>⟨by rw [erB];exact M5,fun h=>by rw [inB] at h;cases h⟩
 | x :: l,d,hv,hs=>by
  rw [erB,Option.or_eq_none_iff] at hs;rw [F5,Bool.and_eq_true] at hv;obtain ⟨a1,a2⟩:=s8 x d hv.1 hs.1;obtain ⟨b1,b2⟩:=b8 l d hv.2 hs.2;rw [erB];refine ⟨a1.or b1,fun hi=>K3 ?_⟩;rw [inB,Bool.or_eq_true] at hi;exact hi.imp a2 b2
end
theorem h8:∀ (l pre:List Hd),(∀ x∈l,A0o x=true)->erH s pre l=none->O8 (erH t pre l)/\((l.any fun h=>h.name == nm || inB nm h.body)=true->erH t pre l≠none)
 | [],pre,hv,hs=>⟨by rw [erH];exact M5,fun h=>by cases h⟩
 | x :: l,pre,hv,hs=>by
  rw [erH,Option.or_eq_none_iff,Option.or_eq_none_iff,Option.or_eq_none_iff] at hs;obtain ⟨⟨⟨h1,h2⟩,h3⟩,h4⟩:=hs;have hx:=hv x List.mem_cons_self;unfold A0o at hx;simp only [Bool.and_eq_true,decide_eq_true_eq] at hx;have hb:=hx.2;unfold O3 at hb;simp only [Bool.and_eq_true] at hb;obtain ⟨a1,a2⟩:=dn8 h h1;obtain ⟨b1,b2⟩:=b8 h h0 x.body 1 hb.2 h3;obtain ⟨c1,c2⟩:=h8 l (pre++[x]) (fun y hy=>hv y (List.mem_cons_of_mem _ hy)) h4;rw [erH,h2];refine ⟨((a1.or M5).or b1).or c1,fun hi=>K3 ?_⟩;rw [List.any_cons,Bool.or_eq_true,Bool.or_eq_true] at hi;rcases hi with (hi|hi)|hi
  ·have hn:x.name=nm:=by simpa using hi
   have hk:kdH x.trig≠0:=by
    intro hk;have h3:¬ 3<=x.trig:=by
     intro h3;have:x.trig=3\/x.trig=4\/x.trig=5\/x.trig=6:=by omega
     rcases this with e|e|e|e<;>(rw [e] at hk;exact absurd hk (by decide))
    have:=hx.1.2;rw [if_neg h3] at this;have:x.name=[]:=by simpa using this
    exact h0 (hn▸this)
   exact .inl (K3 (.inl (K3 (.inl (a2 hk hn)))))
  ·exact .inl (K3 (.inr (b2 hi)))
  ·exact .inr (c2 hi)
theorem m8:∀ (l:List Md),(∀ m∈l,S9 m=true)->erM s l=none->O8 (erM t l)/\((l.any fun m=>m.hds.any fun h=>h.name == nm || inB nm h.body)=true->erM t l≠none)
 | [],hv,hs=>⟨by rw [erM];exact M5,fun h=>by cases h⟩
 | x :: l,hv,hs=>by
  rw [erM,Option.or_eq_none_iff] at hs;have hx:=hv x List.mem_cons_self;unfold S9 at hx;simp only [Bool.and_eq_true] at hx;obtain ⟨a1,a2⟩:=h8 h h0 x.hds [] (fun y hy=>List.all_eq_true.1 hx.2 y hy) hs.1;obtain ⟨b1,b2⟩:=m8 l (fun y hy=>hv y (List.mem_cons_of_mem _ hy)) hs.2;rw [erM];refine ⟨a1.or b1,fun hi=>K3 ?_⟩;rw [List.any_cons,Bool.or_eq_true] at hi;exact hi.imp a2 b2
end
theorem lk1_of {s:Ru} (hh:hdOk s.decls s.modes) {d:Dc} (hd:d∈s.decls):Lk1 s (R4 s [d.name]) d.name:=by
 have hnd:=hh.2.2;have e1:∀ n,E5 s n=E5 ⟨s.decls,s.modes⟩ n:=fun n=>rfl;have e2:∀ n,E5 (R4 s [d.name]) n=E5 ⟨s.decls.filter fun x => !([d.name]:List (List UInt8)).contains x.name,s.modes⟩ n:=fun n=>rfl;constructor
 ·rw [e2,V6];have h1:((s.decls.filter fun x => !([d.name]:List (List UInt8)).contains x.name).find? fun x=>x.name == d.name)=none:=by
   rw [List.find?_eq_none];intro x hx;have:=(List.mem_filter.1 hx).2;simpa using this
  have h2:s.modes.any (fun m=>m.name == d.name)=false:=by
   rw [A5d];intro hm;exact (List.nodup_append.1 hnd).2.2 _ (List.mem_map.2 ⟨d,hd,rfl⟩) _ hm rfl
  rw [h1,h2];rfl
 ·intro n hn;rw [e1,e2,V6,V6];have:((s.decls.filter fun x => !([d.name]:List (List UInt8)).contains x.name).find? fun x=>x.name == n)=s.decls.find? fun x=>x.name == n:=by
   rw [List.find?_filter]
   congr 1
   funext x
   by_cases hx:x.name=n
   ·simp [hx,hn]
   ·simp [hx]
  rw [this]
theorem trim_miss {s:Ru} (hv:M1 s=true) (hc:W1 s=none) (hu:L6 s=[]) {d:Dc} (hd:d∈s.decls):∃ p,W1 (R4 s [d.name])=some (p,8):=by
 have hk:=A0n hv;have hv':=W9 hv [d.name];have hk':=A0n hv';unfold W1 at hc ⊢;rw [Option.or_eq_none_iff] at hc;have hh:=(A0g hk).1 hc.1;rw [(A0g hk').2 (hd_wth hh [d.name]),Option.none_or];have h0:=vld_dn hv d hd;have hm:∀ m∈s.modes,S9 m=true:=by
  unfold M1 at hv;simp only [Bool.and_eq_true] at hv;exact fun m hm=>List.all_eq_true.1 hv.2 m hm
 obtain ⟨a1,a2⟩:=m8 (lk1_of hh hd) h0 s.modes hm hc.2;have hus:A0q s d.name=true:=by
  have:=A5g hd;rw [hu] at this;simpa using this.symm
 show ∃ p,erM _ s.modes=_;have hne:=a2 hus;cases he:erM (R4 s [d.name]) s.modes with
 | none=>exact absurd he hne
 | some q =>
  obtain ⟨p,c⟩:=q;obtain rfl:=a1 p c he;exact ⟨p,rfl⟩
end Go.Pb
namespace Go.Proofs.YtnmkkggfgdfmeaaGreatDoor
open Go.Eng (IC IOper DReg IFn A3)
open Go.Sym Go.Pb
theorem c_without (r:Ru) (hB:r.sz<4000000) (ns:List (List UInt8)) (hns:ns.length<=1000000):PC Tryz.prog 20 [r.v,.lst (ns.map DV.str)] (R4 r ns).v:=by
 refine PC.of A6 isU20 (Nat.le_of_ble_eq_true rfl) (by simp [Ru.v,DV.nlL,DV.nl,M7,M6,J4]) (Ru.nl _) ?_;have hDl:=sz_dl r;obtain ⟨D,M⟩:=r;dsimp only at hDl;dsimp only [Ru.v,R4];show IW Tryz.prog 52 u20_1 ⟨B1 _,_,_⟩ (rt [.cell 4 2 true] _);repeat' ((with_reducible apply wr)<;>try simp only [go_sem,seval])
 obtain ⟨F,hF⟩:∃ F:Nat->List Dc, ∀ k,F k=(D.take k).filter (fun d => !ns.contains d.name):=⟨_,fun _=>rfl⟩;have hF0:F 0=[]:=by rw [hF];rfl
 have hFl:∀ k,(F k).length<=D.length:=fun k=>by rw [hF];exact Nat.le_trans (List.length_filter_le _ _) (by rw [List.length_take];omega)
 refine C1 (fun q:Nat × Option Nat=>[(1,.lst (ns.map .str)),(2,.ptr 0 0),(4,.ptr 1 0),(5,.ptr 2 0),(6,I64 q.1)]) (fun q=>C8 (((Sym.nil.upd 0 ⟨0,true,[E2 D,D8 M]⟩).upd 1 ⟨0,true,[.snil,.snil]⟩).upd 2 ⟨0,true,[B5 q.2 (F q.1).length,D8 M]⟩) q.2 ⟨4,true,A5 ((F q.1).map Dc.v)⟩)
  (fun q c=>3<=c/\q.1<=D.length/\(q.2=none->F q.1=[])/\(∀ i,q.2=some i->3<=i/\i<c)) (fun q=>D.length-q.1) (0,none)
  (by simp [B7,tm,Tm.upd]) (by rw [hF0];simp only [A1];exact Sub.refl _) ⟨by omega,Nat.zero_le _,fun _=>hF0,(fun i hi=>by cases hi)⟩ ?_
 rintro ⟨k,o⟩ c ⟨hc,hk,hno,ho⟩;dsimp only at hc hk hno ho ⊢;have hbr:C8 (((Sym.nil.upd 0 ⟨0,true,[E2 D,D8 M]⟩).upd 1 ⟨0,true,[.snil,.snil]⟩).upd 2 ⟨0,true,[B5 o (F k).length,D8 M]⟩) o ⟨4,true,A5 ((F k).map Dc.v)⟩ 0=some ⟨0,true,[E2 D,D8 M]⟩:=by rw [C9 (fun i hi=>by have:=ho i hi;omega),A2 (by omega),A2 (by omega),A0]
 have hbx:C8 (((Sym.nil.upd 0 ⟨0,true,[E2 D,D8 M]⟩).upd 1 ⟨0,true,[.snil,.snil]⟩).upd 2 ⟨0,true,[B5 o (F k).length,D8 M]⟩) o ⟨4,true,A5 ((F k).map Dc.v)⟩ 2=some ⟨0,true,[B5 o (F k).length,D8 M]⟩:=by rw [C9 (fun i hi=>by have:=ho i hi;omega),A0]
 have hb1:C8 (((Sym.nil.upd 0 ⟨0,true,[E2 D,D8 M]⟩).upd 1 ⟨0,true,[.snil,.snil]⟩).upd 2 ⟨0,true,[B5 o (F k).length,D8 M]⟩) o ⟨4,true,A5 ((F k).map Dc.v)⟩ 1=some ⟨0,true,[.snil,.snil]⟩:=by rw [C9 (fun i hi=>by have:=ho i hi;omega),A2 (by omega),A0]
 have hbo:∀ i:Nat,o=some i->C8 (((Sym.nil.upd 0 ⟨0,true,[E2 D,D8 M]⟩).upd 1 ⟨0,true,[.snil,.snil]⟩).upd 2 ⟨0,true,[B5 o (F k).length,D8 M]⟩) o ⟨4,true,A5 ((F k).map Dc.v)⟩ i=some ⟨4,true,A5 ((F k).map Dc.v)⟩:=fun i hi=>by subst hi;exact A0
 have hbn:∀ j:Nat,c<=j->C8 (((Sym.nil.upd 0 ⟨0,true,[E2 D,D8 M]⟩).upd 1 ⟨0,true,[.snil,.snil]⟩).upd 2 ⟨0,true,[B5 o (F k).length,D8 M]⟩) o ⟨4,true,A5 ((F k).map Dc.v)⟩ j=none:=fun j hj=>by rw [C9 (fun i hi=>by have:=ho i hi;omega),A2 (by omega),A2 (by omega),A2 (by omega)];rfl
 have hT:(B5 o (F k).length).one=true:=by cases o<;>rfl
 by_cases hlt:k<D.length
 ·have hd:decide ((k:Int)<(D.length:Int))=true:=by simpa using hlt
  have hg:=List.getElem?_eq_getElem hlt;have hw:=w64 (n:=(k:Int)+1) (by omega) (by omega);have e0:F (k+1)=F k++(if ns.contains D[k].name=true then [] else [D[k]]):=by
   rw [hF,hF,List.take_add_one,hg,List.filter_append]
   congr 1
   show List.filter _ [D[k]]=_;rw [List.filter_cons];cases ns.contains D[k].name<;>rfl
  have hFk:=hFl k;generalize D[k]=x at hg e0;have hln:(A5 ((F k).map Dc.v)).length=(F k).length * 4:=(C2 (u:=4) (A2m _)).trans (by simp);have hdx:∀ X:Hp,U2 X o 2=X 2:=fun X=>D7 (fun i hi=>by have:=ho i hi;omega);repeat' ((with_reducible apply wr)<;>try simp only [go_sem,seval,hd,hbr])
  generalize hHH:C8 (((Sym.nil.upd 0 ⟨0,true,[E2 D,D8 M]⟩).upd 1 ⟨0,true,[.snil,.snil]⟩).upd 2 ⟨0,true,[B5 o (F k).length,D8 M]⟩) o ⟨4,true,A5 ((F k).map Dc.v)⟩=HH at hbr hbx hbo hb1 hbn ⊢;have ne0:=U9 0 1 2 c (by omega);have hgd:(D.map Dc.v)[k]? = some x.v:=by rw [List.getElem?_map,hg];rfl
  refine C1 (fun j:Nat=>[(1,.lst (ns.map .str)),(2,.ptr 0 0),(4,.ptr 1 0),(5,.ptr 2 0),(6,I64 k),(7,.bool ((ns.take j).any fun n=>n == x.name)),(8,I64 j)]) (fun _=>HH) (fun j n=>c<=n/\j<=ns.length) (fun j=>ns.length-j) 0
   (by simp [B7,tm,Tm.upd]) (Sub.refl _) ⟨Nat.le_refl _,Nat.zero_le _⟩ ?_
  rintro j n ⟨hn,hj⟩;by_cases hjl:j<ns.length
  ·have hdj:decide ((j:Int)<(ns.length:Int))=true:=by simpa using hjl
   have hgj:=List.getElem?_eq_getElem hjl;have hwj:=w64 (n:=(j:Int)+1) (by omega) (by omega);have e1:((ns.take (j+1)).any fun n=>n == x.name)=(((ns.take j).any fun n=>n == x.name) || ns[j] == x.name):=by
    rw [List.take_add_one,hgj,List.any_append];simp
   generalize ns[j]=y at hgj e1;cases hgn:(ns.take j).any fun n=>n == x.name with
   | true =>
    rw [hgn,Bool.true_or] at e1;repeat' ((with_reducible apply wr)<;>try simp only [go_sem,seval,hdj,hgj,hwj,hbr,hg,List.length_map])
    exact ⟨j+1,by simp [B7,tm,Tm.upd,e1],Sub.refl _,inv ⟨by omega,by omega⟩,by show ns.length-(j+1)<ns.length-j;omega⟩
   | false =>
    rw [hgn,Bool.false_or] at e1;repeat' ((with_reducible apply wr)<;>try simp only [go_sem,seval,hdj,hgj,hwj,hbr,hg,List.length_map])
    exact ⟨j+1,by simp [B7,tm,Tm.upd,e1],Sub.refl _,inv ⟨by omega,by omega⟩,by show ns.length-(j+1)<ns.length-j;omega⟩
  ·have hdj:decide ((j:Int)<(ns.length:Int))=false:=by simpa using hjl
   have hgn:((ns.take j).any fun n=>n == x.name)=ns.contains x.name:=by
    rw [List.take_of_length_le (by omega),Bool.eq_iff_iff,List.any_eq_true,List.contains_iff_mem];exact ⟨fun ⟨y,h1,h2⟩=>by rw [<- (by simpa using h2:y=x.name)];exact h1,fun h=>⟨_,h,by simp⟩⟩
   rw [hgn];cases hcn:ns.contains x.name with
   | true =>
    rw [if_pos hcn,List.append_nil] at e0;repeat' ((with_reducible apply wr)<;>try simp only [go_sem,seval,hdj,hw,List.length_map])
    refine ⟨(k+1,o),by simp,?_,inv ⟨by omega,by omega,(fun h=>by rw [e0];exact hno h),(fun i hi=>by have:=ho i hi;omega)⟩,by simp only;omega⟩;dsimp only;rw [e0, <- hHH];exact Sub.refl _
   | false =>
    rw [if_neg (by rw [hcn];decide)] at e0;repeat' ((with_reducible apply wr)<;>try simp only [go_sem,seval,hdj,hw,hg,hbr,hbx,ne0,A0,A1,List.length_map,hT])
    rw [I7 (cs:=A5 ((F k).map Dc.v)) (fun e=>by rw [hno e];exact ⟨rfl,rfl⟩) (fun i hi=>by have:=ho i hi;rw [A2 (by omega)];exact hbo i hi) hln (by omega) (by omega) (by omega)];have ne0:=nes6 0 1 2 n (n+7) (n+11) (by omega);simp only [go_sem,seval,ne0,A0,A1,hdx,hbx,hw];repeat' ((with_reducible apply wr)<;>try simp only [go_sem,seval,ne0,A0,A1,hdx,hbx,hw])
    refine ⟨(k+1,some (n+11)),by simp [B7,tm,Tm.upd],?_,inv ⟨by omega,by omega,(fun h=>by cases h),(fun i hi=>by cases hi;omega)⟩,by simp only;omega⟩;dsimp only [C8,B5];rw [e0,List.map_append,E7,List.length_append,List.length_singleton];intro j b hj;by_cases e1:j=n+11
    ·subst e1;rw [A0] at hj;rw [A2 (by omega),A0, <- hj];rfl
    rw [A2 e1] at hj;by_cases e2:j=2
    ·subst e2;rw [A0] at hj ⊢;exact hj
    rw [A2 e2] at hj ⊢;rw [A2 e1];by_cases e3:j=1
    ·subst e3;rw [A0] at hj;rw [D7 (fun i hi=>by have:=ho i hi;omega),A2 (by omega),hb1];exact hj
    rw [A2 e3] at hj;by_cases e4:j=0
    ·subst e4;rw [A0] at hj;rw [D7 (fun i hi=>by have:=ho i hi;omega),A2 (by omega),hbr];exact hj
    ·rw [A2 e4] at hj;cases hj
 ·have hd:decide ((k:Int)<(D.length:Int))=false:=by simpa using hlt
  refine IW.keep [1,2,4,5,6] [.lst (ns.map .str),.ptr 0 0,.ptr 1 0,.ptr 2 0,I64 k] (g_fin (Hb:=((Sym.nil.upd 0 ⟨0,true,[E2 D,D8 M]⟩).upd 1 ⟨0,true,[.snil,.snil]⟩)) (ci:=2) (u:=4) (pre:=[]) (suf:=[D8 M]) (xs:=(F k).map Dc.v) (by simp [DV.one]) (fun h=>by rw [hno h];rfl) (fun i hi=>by have:=ho i hi;exact ⟨by omega,by rw [A2 (by omega),A2 (by omega)];rfl⟩) (by simp) (A2m _)) ?_;have hFD:F k=D.filter (fun d => !ns.contains d.name):=by rw [hF,List.take_of_length_le (by omega)]
  rw [hFD];simp only [List.zip_cons_cons,List.zip_nil_left];repeat' ((with_reducible apply wr)<;>try simp only [go_sem,seval,hd])
  rw [C7 (rv2 rfl rfl)];exact ⟨_,GL.refl _ _⟩
theorem c_withoutO (r:Ru) (hB:r.sz<4000000) (n:List UInt8) {id cc:Nat} {H:Hp} (hb:H id=some ⟨1,true,[.str n]⟩) :
  AC Tryz.prog 20 [r.v,.slc id 0 1] H cc (fun v H' c'=>v=(R4 r [n]).v/\H'=U2 H (some id)/\c'=cc) :=
 AC.ghost (GL.frzS (id:=id) hb rfl (fun j=>by
  by_cases e:j=id
  ·subst e;exact .inl (by rw [del_at,if_pos rfl])
  ·exact .inr ⟨e,by rw [del_at,if_neg e]⟩) (.cons _ _ _ _ (.same _) (.cons _ _ _ _ (Q1 (xs:=[.str n]) rfl (I2 [n]) ⟨[],rfl⟩) .nil))) ((c_without r hB [n] (by simp)).at _ cc)
theorem c_CheckTrims (l:List UInt8) (hl:l.length<=9223372036854775807):PC Tryz.prog 8 [.lst (bytesC l)] (.bool true):=by
 have hs:=c_sane;refine PC.of A6 isU8 (Nat.le_of_ble_eq_true rfl) (by simp [DV.nlL,DV.nl,bytes_nl]) rfl ?_;show IW Tryz.prog 62 u8_1 ⟨B1 _,_,_⟩ (rt [.tmp 2] _);repeat' ((with_reducible apply wr)<;>try simp only [go_sem,seval])
 refine AC.call (c_Made l hl 0 _ _) ?_;rintro v' H' c2 ⟨s,hg,rfl,rfl⟩ hc2;have hz:=parM_sz s;have hv:=parM_valid s;clear hg;generalize (O9 s).1=r at hz hv ⊢;have hrv:∀ r:Ru,r.v=.agg [E2 r.decls,D8 r.modes]:=fun _=>rfl;have h1:=c_Check32 r (by omega);rw [A6h hv] at h1;have k1:=chk_ok r;cases he:W1 r with
 | some q =>
  obtain ⟨p,c⟩:=q;rw [he] at h1 k1;simp only [Option.getD_some,hrv] at h1 k1 ⊢;have e1:(c == 0)=false:=k1;have e2:(c != 0)=true:=by simp only [bne,e1];rfl
  simp only [go_sem,seval];repeat' ((with_reducible first|apply wr|refine cpc h1 ?_|refine cpc hs ?_|fail)<;>try simp only [go_sem,seval,e1,e2])
  all_goals exact A4 rfl
 | none =>
  rw [he] at h1;have h2:=c_Unused32 r (by omega);have e2:A5h r=.lst ((L6 r).map DV.str):=by unfold A5h;rw [if_pos hv]
  rw [e2] at h2;have hul:(L6 r).length<=1000000:=by
   unfold L6;rw [List.length_map];have:=List.length_filter_le (fun d => !A0q r d.name) r.decls;have hk:r.decls.length<=128:=by unfold M1 at hv;simp only [Bool.and_eq_true,decide_eq_true_eq] at hv;exact hv.1.1.1
   omega
  have h3:=c_without r (by omega) (L6 r) hul;have t1:=trim_ok hv he;have t2:=trim_nil r;have t3:=W9 hv (L6 r);have t4:=wth_sz r (L6 r);generalize R4 r (L6 r)=q at h3 t1 t2 t3 t4;generalize L6 r=nl at h2 h3;have h4:=c_Check32 q (by omega);rw [A6h t3,t1] at h4;have h5:=c_Unused32 q (by omega);have e5:A5h q=.lst []:=by unfold A5h;rw [if_pos t3,t2];rfl
  rw [e5] at h5;simp only [Option.getD_none,hrv] at h1 h2 h3 h4 h5 ⊢;have ne0:=R8 c2 (c2+1) (c2+1+4) (by omega);simp only [go_sem,seval,ne0];repeat' ((with_reducible first|apply wr|refine cpc h1 ?_|refine cpc h2 ?_|refine cpc h3 ?_|refine cpc h4 ?_|refine cpc h5 ?_|fail)<;>try simp only [go_sem,seval,ne0,A0,A1])
  have hql:=sz_dl q;generalize hGG:(Sym.nil.upd c2 ⟨0,true,[E2 r.decls,D8 r.modes]⟩).upd (c2+1+4) ⟨0,true,[E2 q.decls,D8 q.modes]⟩=G;have hGb:G (c2+1+4)=some ⟨0,true,[E2 q.decls,D8 q.modes]⟩:=by rw [<- hGG,A0]
  have hGn:∀ j,c2+1+6<=j->G j=none:=fun j hj=>by rw [<- hGG,A2 (by omega),A2 (by omega)];rfl
  clear hGG;generalize hb:c2+1+4=b at hGb ⊢;refine C1 (fun i:Nat=>[(6,.ptr b 0),(9,I64 i)]) (fun _=>G) (fun i c=>c2+1+6<=c/\i<=q.decls.length) (fun i=>q.decls.length-i) 0
   (by simp [B7,tm,Tm.upd]) (Sub.refl _) ⟨Nat.le_refl _,Nat.zero_le _⟩ ?_
  rintro i c ⟨hc,hi⟩;by_cases hlt:i<q.decls.length
  ·have hd:decide ((i:Int)<(q.decls.length:Int))=true:=by simpa using hlt
   have hg:=List.getElem?_eq_getElem hlt;have hmem:=List.getElem_mem hlt;have hw:=w64 (n:=(i:Int)+1) (by omega) (by omega);generalize q.decls[i]=d at hg hmem;obtain ⟨p,hp⟩:=trim_miss t3 t1 t2 hmem;have hk:=c_Check32 (R4 q [d.name]) (by have:=wth_sz q [d.name];omega);rw [A6h (W9 t3 _),hp] at hk;simp only [Option.getD_some,hrv] at hk;have ne0:=L0 b c (by omega);repeat' ((with_reducible apply wr)<;>try simp only [go_sem,seval,hd,hg,hGb,ne0,A0,A1,List.length_map])
   have hwo:=c_withoutO q (by omega) d.name (id:=c+7) (cc:=c+15) (H:=G.upd (c+7) ⟨1,true,[.str d.name]⟩) A0;have hdl:U2 (G.upd (c+7) ⟨1,true,[.str d.name]⟩) (some (c+7))=G:=by
    funext j;rw [del_at];split
    ·next e=>rw [e,hGn _ (by omega)]
    ·next e=>rw [A2 e]
   simp only [hrv] at hwo;refine AC.call hwo ?_;rintro v' H' c4 ⟨rfl,rfl,rfl⟩ hc4;rw [hdl];have e8:((8:Int) != 8)=false:=rfl;simp only [go_sem,seval,hw,hGb,ne0,A0];repeat' ((with_reducible first|apply wr|refine cpc hk ?_|fail)<;>try simp only [go_sem,seval,hw,hGb,ne0,A0,e8])
   refine ⟨hGn _ (by omega),?_⟩;repeat' ((with_reducible apply wr)<;>try simp only [go_sem,seval,hw,e8])
   exact ⟨i+1,by simp,Sub.refl _,inv ⟨by omega,by omega⟩,by show q.decls.length-(i+1)<q.decls.length-i;omega⟩
  ·have hd:decide ((i:Int)<(q.decls.length:Int))=false:=by simpa using hlt
   repeat' ((with_reducible first|apply wr|refine cpc hs ?_|fail)<;>try simp only [go_sem,seval,hd,hGb,List.length_map])
   exact A4 rfl
end Go.Proofs.YtnmkkggfgdfmeaaGreatDoor
end
